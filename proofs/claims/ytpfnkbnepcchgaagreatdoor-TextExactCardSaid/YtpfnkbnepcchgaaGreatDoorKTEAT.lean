/- Part 20 of what the proof needs. -/
import Derived.Test.YtpfnkbnepcchgaaGreatDoorKTEAL
import Derived.Test.YtpfnkbnepcchgaaGreatDoorKTEAR
import Derived.Test.YtpfnkbnepcchgaaGreatDoorKTEAS
set_option linter.unusedSimpArgs false
set_option linter.unusedVariables false
section
set_option maxHeartbeats 8000000
set_option maxRecDepth 100000
namespace Go.Proofs.Yy.PTx
open Go.RowKit Go.Proofs.Yy.Z Go.Proofs.Yw.PrintWords Go.Proofs.Yw.PrintLast Go.Proofs.Yw.PrintMore
open Go.Proofs.Yy.M
attribute [local go_sem] dw dQ lD lF lC lG
attribute [local go_sem] gy gz ja jc fC fD gQ gK
mutual
def cZ.l0:Nat→Int→Int→List Int→List Int→List Int→Int→Option (List Int × List Int)
  | 0,_,_,_,_,_,_=>none
  | k+1,x6,x7,x8,x9,x10,x11=>if x11 ≥ 0 then (if 0≤(wrap64 (x11+x7)) then (if (wrap64 (x11+x7))<(x9.length:Int) then (if 0≤(wrap64 ((wrap64 (x11+x7)) - 1)) then (if (wrap64 ((wrap64 (x11+x7)) - 1))<(x9.length:Int) then (if 0≤(wrap64 ((wrap64 (x11+x7)) - 2)) then (if (wrap64 ((wrap64 (x11+x7)) - 2))<(x9.length:Int) then (if 0≤(wrap64 (x7 - 1)) then (if (wrap64 (x7 - 1))<(x8.length:Int) then (if 0≤(wrap64 (x7 - 2)) then (if (wrap64 (x7 - 2))<(x8.length:Int) then ((fQ.f k (rd x9 (wrap64 (x11+x7))) (rd x9 (wrap64 ((wrap64 (x11+x7)) - 1))) (rd x9 (wrap64 ((wrap64 (x11+x7)) - 2))) (rd x8 (wrap64 (x7 - 1))) (rd x8 (wrap64 (x7 - 2)))).bind fun aej=>(if 0≤x11 then (if x11<(wrap64 ((wrap64 (x11+x7))+1)) then (if (wrap64 ((wrap64 (x11+x7))+1))≤(x9.length:Int) then ((vT.f k x9 x11 (wrap64 ((wrap64 (x11+x7))+1)) x8 aej).bind fun aii=>(cZ.l1 k x6 x7 x8 aii.2 x10 x11 aej aii.1)) else (none)) else (none)) else (none))) else (none)) else (none)) else (none)) else (none)) else (none)) else (none)) else (none)) else (none)) else (none)) else (none)) else (cZ.l2 k x6 x7 x9 x10 x7 0)
def cZ.l1:Nat→Int→Int→List Int→List Int→List Int→Int→Int→Bool→Option (List Int × List Int)
  | 0,_,_,_,_,_,_,_,_=>none
  | k+1,x6,x7,x8,x9,x10,x11,x12,x13=>if x13=true then (if 0≤x11 then (if x11<(wrap64 ((wrap64 (x11+x7))+1)) then (if (wrap64 ((wrap64 (x11+x7))+1))≤(x9.length:Int) then ((vN.f k x9 x11 (wrap64 ((wrap64 (x11+x7))+1)) x8).bind fun aij=>(cZ.l1 k x6 x7 x8 aij.2 x10 x11 (IntKind.u64.wrap (x12 - 1)) (!aij.1))) else (none)) else (none)) else (none)) else (if 0≤x11 then (if x11<(x10.length:Int) then (cZ.l0 k x6 x7 x8 x9 (x10.set (x11:Int).toNat x12) (wrap64 (x11 - 1))) else (none)) else (none))
def cZ.l2:Nat→Int→Int→List Int→List Int→Int→Int→Option (List Int × List Int)
  | 0,_,_,_,_,_,_=>none
  | k+1,x6,x7,x9,x10,x102,x103=>if x103<x102 then (if 0≤x103 then (if x103<(x9.length:Int) then (if 0≤x6 then ((some (x9.set (x103:Int).toNat (shr .u64 (rd x9 x103) x6):List Int)).bind fun Ei=>(if x6 > 0 then (if (wrap64 (x103+1))<x7 then (if 0≤(wrap64 (x103+1)) then (if (wrap64 (x103+1))<(x9.length:Int) then (if 0≤(wrap64 (64 - x6)) then (cZ.l2 k x6 x7 (Ei.set (x103:Int).toNat (Go.bits .or .u64 (rd Ei x103) (shl .u64 (rd Ei (wrap64 (x103+1))) (wrap64 (64 - x6))))) x10 x102 (wrap64 (x103+1))) else (none)) else (none)) else (none)) else (cZ.l2 k x6 x7 Ei x10 x102 (wrap64 (x103+1)))) else (cZ.l2 k x6 x7 Ei x10 x102 (wrap64 (x103+1))))) else (none)) else (none)) else (none)) else ((bG.f k x10).bind fun aqi=>(if 0≤x7 then (if x7≤(x9.length:Int) then ((bG.f k (x9.take (x7:Int).toNat)).bind fun aqj=>(some (aqi,aqj))) else (none)) else (none)))
end
def cZ.f (k:Nat) (l0:List Int) (l1:List Int):Option (List Int × List Int):=if 0≤(wrap64 ((l1.length:Int) - 1)) then (if (wrap64 ((l1.length:Int) - 1))<(l1.length:Int) then ((bits_LeadingZeros64.f k (rd l1 (wrap64 ((l1.length:Int) - 1)))).bind fun MK=>((dh.f k l1 MK).bind fun Y7=>(if 0≤(l1.length:Int) then (if (l1.length:Int)≤(Y7.length:Int) then ((dh.f k l0 MK).bind fun VK=>(if 0≤(wrap64 ((VK.length:Int) - (l1.length:Int))) then (if (wrap64 ((VK.length:Int) - (l1.length:Int)):Int).toNat≤35184372088832 then ((some (List.replicate (wrap64 ((VK.length:Int) - (l1.length:Int)):Int).toNat 0:List Int)).bind fun Z7=>(cZ.l0 k MK (l1.length:Int) (Y7.take ((l1.length:Int):Int).toNat) VK Z7 (wrap64 ((Z7.length:Int) - 1)))) else (none)) else (none))) else (none)) else (none)))) else (none)) else (none)
def cZ.T9:Bool × List (List Nat × List Nat):=(true, [([], []),([], []),([], []),([1,2], [1,2]),([0,3], [0,3]),([4], [4]),([], []),([], []),([], []),([7,8], [7,8]),([9], [9]),([6,10], [6,10]),([11], [11]),([], []),([], []),([], []),([14,15], [14,15]),([16], [16]),([13,17], [13,17]),([18], [18]),([], []),([], []),([21], [21]),([20,22], [20,22]),([23], [23]),([], []),([], []),([26], [26]),([25,27], [25,27]),([28], [28]),([5,12,19,24,29], [5,12,19,24,29]),([30,30,0,1,2,3,4,5,6,7,8,9,10,11,12,13,14,15,16,17,18,19,20,21,22,23,24,25,26,27,28,29,30], [30])])
def cZ.B9:List Nat := [0,0,0,6,15,31,0,0,0,384,896,1984,4032,0,0,0,49152,114688,253952,516096,0,0,2097152,7340032,15728640,0,0,67108864,234881024,503316480,1073741823,2147483647]
theorem cZ.aez:rW .any (opsOf Tryz.f154 9)=cZ.T9:=by kernel_rfl
theorem cZ.Ux:jB cZ.T9.2 cZ.B9=true:=by kernel_rfl
def cZ.T20:Bool × List (List Nat × List Nat):=(true, [([], []),([], []),([0,1], [0,1]),([2], [2]),([], []),([], []),([5], [5]),([4,6], [4,6]),([7], [7]),([], []),([9], [9]),([8,10], [8,10]),([3,11], [3,11]),([0,1,0,1,2,3,4,5,6,7,8,9,10,11,12], [0,1]),([13,12,0,1,2,3,4,5,6,7,8,9,10,11,12], [12,13])])
def cZ.B20:List Nat := [0,0,3,7,0,0,32,112,240,0,512,2032,4095,8191,16383]
theorem cZ.akN:rW .any (opsOf Tryz.f154 20)=cZ.T20:=by kernel_rfl
theorem cZ.aeE:jB cZ.T20.2 cZ.B20=true:=by kernel_rfl
def cZ.T22:Bool × List (List Nat × List Nat):=(true, [([], []),([0], [0]),([], []),([], []),([], []),([2,3,4], [2,3,4]),([5,1], [5]),([1,6,0,1], [1]),([6,7,0,1,2,3,4,5,6,7], [6])])
def cZ.B22:List Nat := [0,1,0,0,0,28,63,127,255]
theorem cZ.ak1:rW .any (opsOf Tryz.f154 22)=cZ.T22:=by kernel_rfl
theorem cZ.afe:jB cZ.T22.2 cZ.B22=true:=by kernel_rfl
theorem cZ.calls (k:Nat) (A0:Option Addr) (c0:Nat) (l0:List Int) (A1:Option Addr) (c1:Nat) (l1:List Int) (r1:List Int) (r2:List Int) (w:World) (hr0:Kd.C (Kd.int .u64) w A0 l0.length l0) (hc0:l0.length≤c0) (hr1:Kd.C (Kd.int .u64) w A1 l1.length l1) (hc1:l1.length≤c1) (h:cZ.f k l0 l1=some (r1,r2)) :
    Calls Tryz.prog 154 #[.slice A0 l0.length c0, .slice A1 l1.length c1] w fun e w' => ∃ v0_ v1_:Value,e = .returned (.tuple #[v0_,v1_])∧Kd.V (Kd.int .u64) 25 w' w.heap.size (fun k_=>(w.heap.size≤k_)) v0_ r1∧Kd.V (Kd.int .u64) 25 w' w.heap.size (fun k_=>(w.heap.size≤k_)) v1_ r2∧Below w.heap.size w w':=by
 have HR0:=am hr0
 have HC0:=am hc0
 clear hr0 hc0
 have HR1:=am hr1
 have HC1:=am hc1
 clear hr1 hc1
 have HB:=am (Below.refl w.heap.size w)
 have H:=am h
 unfold cZ.f at H
 clear h
 generalize JC:(wrap64 ((l1.length:Int) - 1):Int)=ji3 at H
 have YL:(IntKind.i64.wrap ((l1.length:Int) - 1))=ji3:=(bI _).trans JC
 replace H:=zid H
 obtain ⟨kM,H⟩:=H
 replace H:=zid H
 obtain ⟨rG,H⟩:=H
 replace H:=zo H
 obtain ⟨MK,A6,H⟩:=H
 replace H:=zo H
 obtain ⟨Y7,A7,H⟩:=H
 replace H:=zit H
 obtain ⟨uD,Ey,H⟩:=H
 replace H:=zit H
 obtain ⟨yI,Ed,H⟩:=H
 generalize aik:(Y7.take ((l1.length:Int):Int).toNat:List Int)=aek at H
 have ail:=zY aik
 clear aik
 replace H:=zo H
 obtain ⟨VK,A10,H⟩:=H
 generalize G8:(wrap64 ((VK.length:Int) - (l1.length:Int)):Int)=agR at H
 (try rw [G8] at A6)
 (try rw [G8] at A7)
 (try rw [G8] at A10)
 have au8:(IntKind.i64.wrap ((VK.length:Int) - (l1.length:Int)))=agR:=(bI _).trans G8
 replace H:=zit H
 obtain ⟨nO,rH,H⟩:=H
 replace H:=zit H
 obtain ⟨qJ,Jw,H⟩:=H
 obtain ⟨Z7,aim,H⟩:=zw H
 obtain ⟨aHF,aHG,aqk,rfl,ML⟩:=zA (Kd.dH HR1.out (ji3))
 go_enter Tryz.func154,Tryz.ntmps154
 go_wp2_with (first|((with_reducible refine af (f:=184) rfl ?_);refine lg (some 21) rfl rfl Tryz.func184 (by kernel_rfl) rfl #[.int .u64 (rd l1 (ji3))] rfl (by (try simp only [List.map_toArray,List.map_cons,List.map_nil]);first|done|(simp only [JC];rfl)|rfl|(simp only [List.length_drop,List.length_take];rfl)) ?_;(with_reducible refine (bits_LeadingZeros64.calls _ _ _ _ A6.out).mono ?_);rintro e w' ⟨rfl,⟨nd,rfl⟩⟩;refine ⟨_,rfl,?_⟩)|((with_reducible refine af (f:=104) rfl ?_);refine zc (some 26) Tryz.func104 #[.slice (some aqk) l1.length c1, .int .i64 MK] (dh.calls _ _ _ _ _ _ _ (zC HR1.out) HC1.out A7.out) ?_;rintro e w14 ⟨aHH,rfl,ho0,hb⟩;refine ⟨_,rfl,?_⟩;have Hy:=am (Kd.eP (Kd.nM (M:=fun k_=>(w.heap.size≤k_)) ho0 (zS HB) (fun k_ h_=>h_)) (zS HB));replace HB:=zBs HB hb;clear hb ho0;obtain ⟨Ez,Ad,LW⟩:=Kd.eF Hy.out;subst LW;have q15:((l1.length:Int):Int)≤((Y7.length:Int):Int):=zD;obtain ⟨aHI,ain,_,aql,_⟩:=info_parts info25;have VL:Y7.length≤Ad:=(Kd.aW Hy.out).2.1;have au9:Kd.F (Kd.int .u64) _ _ Ez Y7.length Y7:=(Kd.WQ (base:=w.heap.size) (Kd.R_V Hy.out)).2.2;have aio:=NR (P:=Tryz.prog) 88 25 .i64 Tryz.underlying88 ain Ez Y7.length Ad (l1.length:Int) (zD) q15 VL;have aqm:=Kd.Jl (m:=((l1.length:Int):Int).toNat) au9 (by omega);have aqn:aek.length=((l1.length:Int):Int).toNat:=(by rw [ail.out,List.length_take];omega);rw [← ail.out] at aqm;rw [← aqn] at aio;have VM:=am (show Kd.V (Kd.int .u64) 25 _ w.heap.size _ (.slice Ez aek.length Ad) aek from Kd.Ih (by omega) aqm);have aA9:=am (show aek.length≤Ad from by omega);clear aqm au9 VL ain aql;have aHJ:=am aqn;clear aqn;replace q15:=eq_true q15)|((with_reducible refine af (f:=104) rfl ?_);refine zc (some 31) Tryz.func104 #[.slice A0 l0.length c0, .int .i64 MK] (dh.calls _ _ _ _ _ _ _ (zC (Kd.kw HR0.out HB.out)) HC0.out A10.out) ?_;rintro e w17 ⟨aHK,rfl,ho0,hb⟩;refine ⟨_,rfl,?_⟩;replace VM:=am (Kd.iP (zV VM) (Kd.gV ho0) hb);have VN:=am (Kd.eP (Kd.lQ (Kd.nM (M:=fun k_=>(w.heap.size≤k_)) ho0 (zS HB) (fun k_ h_=>h_)) (Kd.sU (zR Hy))) (zS HB));replace Hy:=am (Kd.iM (zR Hy) (Kd.gV ho0) hb);replace HB:=zBs HB hb;clear hb ho0;obtain ⟨JF,qY,LV⟩:=Kd.eF VN.out;subst LV)|((with_reducible refine ay (N:=36) rfl ?_);refine Kd.vw (Kd.int .u64) _ 25 rfl (N:=36) rfl 88 _ _ rfl agR (by first|rfl|(simp only [List.length_drop,List.length_take];rfl)) (by first|rfl|(simp only [List.length_drop,List.length_take];rfl)) Tryz.underlying88 (.int .u64 0) 8 info25 rfl (by decide) (by omega) 0 (ok:=fun _=>True) (okp:=fun _=>True) rfl (fun _ hk=>hk) trivial (zD) (Nat.le_trans (Nat.mul_le_mul_right _ (zD:agR.toNat≤35184372088832)) (by omega)) (Below.refl _ _) (Nat.le_refl _) ?_;intro aHL w19 JG hb hg_ jf;clear hg_ jf;(first|rw [← aim.out] at JG|(simp only [Int.reduceToNat] at JG;rw [← aim.out] at JG));replace VM:=am (Kd.iP (zV VM) (Kd.gV JG) hb);have aip:=am (Kd.eP (Kd.lQ (Kd.lQ (Kd.nM (M:=fun k_=>(w.heap.size≤k_)) JG (zS HB) (fun k_ h_=>h_)) (Kd.sU (zR Hy))) (Kd.sU (zR VN))) (zS HB));replace Hy:=am (Kd.iM (zR Hy) (Kd.gV JG) hb);replace VN:=am (Kd.iM (zR VN) (Kd.gV JG) hb);replace HB:=zBs HB hb;clear hb JG;obtain ⟨EJ,AV,aoB⟩:=Kd.eF aip.out;subst aoB))
 go_loopg [11] k (fun kq v11 w' => ∃ (kS:List Int) (su:List Int) (jL:List Int) (mf:Int),v11 = .int .i64 mf∧ae (cZ.l0 kq MK (l1.length:Int) kS su jL mf=some (r1,r2))∧ae (kq≤k)∧ae (Kd.V (Kd.int .u64) 25 w' w.heap.size (fun k_=>(w.heap.size≤k_)∧some k_≠((.slice JF VK.length qY):Value).ownBlock∧some k_≠((.slice EJ Z7.length AV):Value).ownBlock) (.slice Ez aek.length Ad) kS)∧ae (Kd.R (Kd.int .u64) 25 w' w.heap.size (fun k_=>(w.heap.size≤k_)∧some k_≠((.slice EJ Z7.length AV):Value).ownBlock) (.slice JF VK.length qY) su)∧ae (Kd.R (Kd.int .u64) 25 w' w.heap.size (fun k_=>(w.heap.size≤k_)∧some k_≠((.slice JF VK.length qY):Value).ownBlock) (.slice EJ Z7.length AV) jL)∧ae (Below w.heap.size w w'))
 case atStart=>exact ⟨(aek),(VK),(Z7),(wrap64 ((Z7.length:Int) - 1)),z1,H,zL,⟨by (with_reducible repeat (first|apply Kd.iV|apply Kd.iW|apply Kd.iQ));exact Kd.bD VM.out (fun _ hk=>⟨hk.1.1.1,⟨hk.1.2,hk.2⟩⟩)⟩,⟨by (with_reducible repeat (first|apply Kd.dE|apply Kd.dn|apply Kd.dY));exact Kd.dL VN.out (fun _ hk=>⟨hk.1.1.1,hk.2⟩)⟩,⟨by (with_reducible repeat (first|apply Kd.dE|apply Kd.dn|apply Kd.dY));exact Kd.dL aip.out (fun _ hk=>⟨hk.1.1.1,hk.2⟩)⟩,⟨zB HB⟩⟩
 clear H
 try clear hx4
 try clear ML
 obtain ⟨kS,su,jL,mf,rfl,H,HK1,xR,mg,jI,HB⟩:=hrel
 have mZ:=(Kd.aX xR.out).1
 rw [mZ] at xR
 (try simp only [mZ])
 (try simp only [mZ] at mg)
 (try simp only [mZ] at jI)
 have ng:=(Kd.aW mg.out).1
 rw [ng] at mg
 (try simp only [ng])
 (try simp only [ng] at xR)
 (try simp only [ng] at jI)
 have jw:=(Kd.aW jI.out).1
 rw [jw] at jI
 (try simp only [jw])
 (try simp only [jw] at xR)
 (try simp only [jw] at mg)
 obtain _|k1:=gk
 ·exact zz H rfl
 simp only [cZ.l0] at H
 replace H:=zf H
 rcases H with ⟨EH,H⟩|⟨EH,H⟩
 ·generalize LQ:(wrap64 (mf+(l1.length:Int)):Int)=xu at H
  have afQ:(IntKind.i64.wrap (mf+(l1.length:Int)))=xu:=(bI _).trans LQ
  replace H:=zid H
  obtain ⟨Qp,H⟩:=H
  replace H:=zi H
  obtain ⟨c25,H⟩:=H
  have UR:decide ((xu)<(su.length:Int))=true:=decide_eq_true c25
  (try simp only [mZ] at UR)
  (try simp only [ng] at UR)
  (try simp only [jw] at UR)
  clear c25
  generalize aiq:(wrap64 ((xu) - 1):Int)=Y8 at H
  have ava:(IntKind.i64.wrap ((xu) - 1))=Y8:=(bI _).trans aiq
  replace H:=zid H
  obtain ⟨Ew,H⟩:=H
  replace H:=zi H
  obtain ⟨c28,H⟩:=H
  have xq:decide ((Y8)<(su.length:Int))=true:=decide_eq_true c28
  (try simp only [mZ] at xq)
  (try simp only [ng] at xq)
  (try simp only [jw] at xq)
  clear c28
  generalize air:(wrap64 ((xu) - 2):Int)=Y9 at H
  have avb:(IntKind.i64.wrap ((xu) - 2))=Y9:=(bI _).trans air
  replace H:=zid H
  obtain ⟨ahK,H⟩:=H
  replace H:=zi H
  obtain ⟨c31,H⟩:=H
  have EG:decide ((Y9)<(su.length:Int))=true:=decide_eq_true c31
  (try simp only [mZ] at EG)
  (try simp only [ng] at EG)
  (try simp only [jw] at EG)
  clear c31
  generalize QA:(wrap64 ((l1.length:Int) - 1):Int)=WV at H
  have avc:(IntKind.i64.wrap ((l1.length:Int) - 1))=WV:=(bI _).trans QA
  (try clear JC)
  (try clear YL)
  replace H:=zid H
  obtain ⟨alx,H⟩:=H
  replace H:=zi H
  obtain ⟨c34,H⟩:=H
  have QJ:decide ((WV)<(kS.length:Int))=true:=decide_eq_true c34
  (try simp only [mZ] at QJ)
  (try simp only [ng] at QJ)
  (try simp only [jw] at QJ)
  clear c34
  generalize ais:(wrap64 ((l1.length:Int) - 2):Int)=Za at H
  have avd:(IntKind.i64.wrap ((l1.length:Int) - 2))=Za:=(bI _).trans ais
  replace H:=zid H
  obtain ⟨UJ,H⟩:=H
  replace H:=zi H
  obtain ⟨c37,H⟩:=H
  have Jy:decide ((Za)<(kS.length:Int))=true:=decide_eq_true c37
  (try simp only [mZ] at Jy)
  (try simp only [ng] at Jy)
  (try simp only [jw] at Jy)
  clear c37
  replace H:=zo H
  obtain ⟨aej,A38,H⟩:=H
  replace H:=zit H
  obtain ⟨ahM,ao6,H⟩:=H
  replace H:=zit H
  obtain ⟨aqo,aqp,H⟩:=H
  replace H:=zit H
  obtain ⟨aBa,aBb,H⟩:=H
  replace H:=zo H
  obtain ⟨⟨aBc,aBd⟩,A42,H⟩:=H
  try dsimp only at H
  try go_wp2
  replace xR:=am (Kd.iQ xR.out)
  replace mg:=am (Kd.dY mg.out)
  replace jI:=am (Kd.dY jI.out)
  replace HB:=am (aZ HB.out)
  obtain ⟨aHM,aHN,JI,rfl,DW⟩:=zA (Kd.dH (Kd.aW mg.out).2.2 (xu))
  have aqr:0≤((Y8):Int):=zD
  have aqs:(Y8)<(su.length:Int):=zD
  obtain ⟨aqt,aBe,DX⟩:=Kd.dH (Kd.aW mg.out).2.2 (Y8) aqr aqs
  obtain rfl:JI=aqt:=(by injection aBe)
  replace aqr:=eq_true aqr
  replace aqs:=eq_true aqs
  have aqu:0≤((Y9):Int):=zD
  have aqv:(Y9)<(su.length:Int):=zD
  obtain ⟨aqw,aBf,DY⟩:=Kd.dH (Kd.aW mg.out).2.2 (Y9) aqu aqv
  obtain rfl:JI=aqw:=(by injection aBf)
  replace aqu:=eq_true aqu
  replace aqv:=eq_true aqv
  obtain ⟨aHO,aHP,MM,rfl,Hz⟩:=zA (Kd.dH (Kd.aX xR.out).2.2 (WV))
  have aqx:0≤((Za):Int):=zD
  have aqy:(Za)<(kS.length:Int):=zD
  obtain ⟨aqz,aBg,HY⟩:=Kd.dH (Kd.aX xR.out).2.2 (Za) aqx aqy
  obtain rfl:MM=aqz:=(by injection aBg)
  replace aqx:=eq_true aqx
  replace aqy:=eq_true aqy
  refine ny (n:=32) (S:=fun w'=>w'.cell? (JI.add ((xu)).toNat)=some (.int .u64 (rd su (xu)))∧w'.cell? (JI.add ((Y8)).toNat)=some (.int .u64 (rd su (Y8)))∧w'.cell? (JI.add ((Y9)).toNat)=some (.int .u64 (rd su (Y9)))∧w'.cell? (MM.add ((WV)).toNat)=some (.int .u64 (rd kS (WV)))∧w'.cell? (MM.add ((Za)).toNat)=some (.int .u64 (rd kS (Za)))) (ds := []) (Array.replicate 32 false) (by kernel_rfl) rfl rfl ⟨DW,DX,DY,Hz,HY⟩ (fun hHeld=>?_);refine iw cZ.aez cZ.Ux (fun HT_ HW_=>?_)
  generalize wr.drew=w43 at xR mg jI HB DW DX DY Hz HY hHeld ⊢
  refine zp HT_ 0 (some 44) ?_
  refine zp HT_ 1 (some 45) ?_
  refine zp HT_ 2 (some 46) ?_
  refine zp HT_ 3 (some 47) ?_
  refine zp HT_ 4 (some 48) ?_
  refine zp HT_ 6 (some 50) ?_
  refine zp HT_ 7 (some 51) ?_
  refine zp HT_ 8 (some 52) ?_
  refine zp HT_ 9 (some 53) ?_
  refine zp HT_ 10 (some 54) ?_
  refine zp HT_ 11 (some 55) ?_
  refine zp HT_ 13 (some 57) ?_
  refine zp HT_ 14 (some 58) ?_
  refine zp HT_ 15 (some 59) ?_
  refine zp HT_ 16 (some 60) ?_
  refine zp HT_ 17 (some 61) ?_
  refine zp HT_ 18 (some 62) ?_
  refine zp HT_ 20 (some 64) ?_
  refine zp HT_ 21 (some 65) ?_
  refine zp HT_ 22 (some 66) ?_
  refine zp HT_ 23 (some 67) ?_
  refine zp HT_ 25 (some 69) ?_
  refine zp HT_ 26 (some 70) ?_
  refine zp HT_ 27 (some 71) ?_
  refine zp HT_ 28 (some 72) ?_
  refine zt HT_ HW_ 5 (some 49) hHeld ?_
  refine zt HT_ HW_ 12 (some 56) hHeld ?_
  refine zt HT_ HW_ 19 (some 63) hHeld ?_
  refine zt HT_ HW_ 24 (some 68) hHeld ?_
  refine zt HT_ HW_ 29 (some 73) hHeld ?_
  refine zu HT_ 30 (some 74) (fun K hK=>?_)
  refine oK Tryz.func192 (by kernel_rfl) rfl #[.int .u64 (rd su (xu)), .int .u64 (rd su (Y8)), .int .u64 (rd su (Y9)), .int .u64 (rd kS (WV)), .int .u64 (rd kS (Za))] (by rfl) rfl rfl (by (try simp only [List.map_toArray,List.map_cons,List.map_nil]);first|done|(simp only [LQ,aiq,air,QA,ais];rfl)|rfl|(simp only [List.length_drop,List.length_take];rfl)) ?_
  with_reducible refine (fQ.calls k1 (rd su (xu)) (rd su (Y8)) (rd su (Y9)) (rd kS (WV)) (rd kS (Za)) aej _ A38.out).mono ?_
  rintro e w' ⟨rfl,⟨nd,rfl⟩⟩
  refine ⟨_,rfl,?_⟩
  refine hK.out _ _ ⟨hHeld.1,hHeld.2.1,hHeld.2.2.1,hHeld.2.2.2.1,hHeld.2.2.2.2⟩ (fun hHeld=>?_)
  clear hK K
  refine kK (a':=?_) ?_ ?_
  rotate_left
  ·show Act.put _ (some 74) _=_
   simp only [Act.put,List.setIfInBounds_toArray,List.set_cons_zero,List.set_cons_succ,bI,dV]
   rfl
  refine zp HT_ 31 (some 12) ?_
  refine o6 (jd HT_.out (by kernel_rfl)) ?_
  (try (rw [iT w43];generalize hq_:World.drewN w43 _=w43;have n0_:ae (Kd.R (Kd.int .u64) 25 w43 w.heap.size (fun k_=>(w.heap.size≤k_)∧some k_≠(.slice (some JI) su.length qY:Value).ownBlock) (.slice EJ jL.length AV) jL):=⟨by rw [← hq_];exact (zR jI)⟩;have n1_:ae (Kd.V (Kd.int .u64) 25 w43 w.heap.size (fun k_=>(w.heap.size≤k_)∧some k_≠(.slice EJ jL.length AV:Value).ownBlock∧some k_≠(.slice (some JI) su.length qY:Value).ownBlock) (.slice (some MM) kS.length Ad) kS):=⟨by rw [← hq_];exact (by (with_reducible repeat (first|apply Kd.iV|apply Kd.iW|apply Kd.iQ));exact Kd.bD xR.out (fun _ hk=>⟨hk.1,⟨hk.2.2,hk.2.1⟩⟩))⟩;have n2_:ae (Kd.R (Kd.int .u64) 25 w43 w.heap.size (fun k_=>(w.heap.size≤k_)∧some k_≠(.slice EJ jL.length AV:Value).ownBlock) (.slice (some JI) su.length qY) su):=⟨by rw [← hq_];exact (zR mg)⟩;have n3_:ae (Below w.heap.size w w43):=⟨by rw [← hq_];exact (zB HB)⟩;clear jI xR mg HB hq_;have jI:=n0_;have xR:=n1_;have mg:=n2_;have HB:=n3_;clear n0_ n1_ n2_ n3_))
  have aqA:(0:Int)≤(mf:Int):=zD
  have aqB:(mf:Int)<((wrap64 ((xu)+1)):Int):=zD
  have q44:((wrap64 ((xu)+1)):Int)≤((su.length:Int):Int):=zD
  obtain ⟨JJ,aqC,akj,ave,aBh,aHQ,avf⟩:=Kd.oD mg.out (by omega)
  (first|cases akj|(injection akj with ea_ en_ ec_;(first|subst ea_|(injection ea_ with ea_;subst ea_));subst ec_;clear en_))
  have aHR:=am ave
  have aHS:=am avf
  clear ave aBh avf
  (first|simp only [add_plain] at DW|skip)
  (first|simp only [add_plain] at DX|skip)
  (first|simp only [add_plain] at DY|skip)
  obtain ⟨aHT,ait,_,aiu,_⟩:=info_parts info25
  have VO:=(Kd.aW mg.out).2.1
  have aqD:=(Kd.aW mg.out).1
  have avg:=Rx (P:=Tryz.prog) 88 25 .i64 .i64 Tryz.underlying88 ait aiu JJ su.length qY mf (wrap64 ((xu)+1)) aqA aqB (by omega) VO
  clear ait aiu VO aqD
  replace aqA:=eq_true aqA
  replace aqB:=eq_true aqB
  replace q44:=eq_true q44
  try go_wp2_with (first|((with_reducible refine af (f:=193) rfl ?_);refine lg (some 84) rfl rfl Tryz.func193 (by kernel_rfl) rfl #[.slice (some ⟨JJ,(mf:Int).toNat,none⟩) (((wrap64 ((xu)+1)):Int).toNat - (mf:Int).toNat) (qY - (mf:Int).toNat), .slice (some MM) kS.length Ad, .int .u64 aej] rfl (by (try simp only [List.map_toArray,List.map_cons,List.map_nil]);first|done|(simp only [LQ];rfl)|rfl|(simp only [List.length_drop,List.length_take];rfl)) ?_;(with_reducible refine (vT.calls _ (fun k_=>some k_=(.slice (some ⟨JJ,0,none⟩) su.length qY:Value).ownBlock) (.slice (some ⟨JJ,0,none⟩) su.length qY) _ _ _ _ _ _ _ _ _ w _ ?fF ?kC ?VP ?VQ A42.out).mono ?_);(case fF=>repeat (first|(with_reducible first|exact HB.out|apply bz|apply aI|apply aZ)|exact HB.out));(case kC=>exact Kd.jY rfl mg.out);(case VP=>exact Kd.CQ (xR.out) (fun k_ hk_ hs_=>(hk_.2.2) hs_));(case VQ=>exact (Kd.aX xR.out).2.1);rintro e w45 ⟨rfl,hy0,hb,hkp⟩;refine ⟨_,rfl,?_⟩;replace xR:=am (Kd.bD (ok':=fun k_=>(w.heap.size≤k_)∧some k_≠(.slice (some ⟨JJ,0,none⟩) su.length qY:Value).ownBlock∧some k_≠(.slice EJ jL.length AV:Value).ownBlock) (Kd.TF (xR.out) hkp (fun k_ hk_ hs_=>(hk_.2.2) hs_)) (fun k_ hk_=>⟨hk_.1.1,hk_.1.2.2,hk_.1.2.1⟩));replace mg:=am (Kd.Zp rfl hy0 (fun k_ e_=>mg.out.1 k_ e_));replace jI:=am (Kd.dL (ok':=fun k_=>(w.heap.size≤k_)∧some k_≠(.slice (some ⟨JJ,0,none⟩) su.length qY:Value).ownBlock) (Kd.Df (jI.out) hkp (fun k_ hk_ hs_=>(hk_.2) hs_)) (fun k_ hk_=>⟨hk_.1.1,hk_.1.2⟩));replace HB:=am (hb);clear hb hkp hy0))
  go_loopg [12,13] k1 (fun kq v12 v13 w' => ∃ (OG:List Int) (rP:List Int) (qy:List Int) (wB:Int) (G7:Bool),v12 = .int .u64 wB∧v13 = .bool G7∧ae (cZ.l1 kq MK (l1.length:Int) OG rP qy mf wB G7=some (r1,r2))∧ae (kq≤k1)∧ae (Kd.V (Kd.int .u64) 25 w' w.heap.size (fun k_=>(w.heap.size≤k_)∧some k_≠((.slice (some ⟨JJ,0,none⟩) su.length qY):Value).ownBlock∧some k_≠((.slice EJ jL.length AV):Value).ownBlock) (.slice (some MM) kS.length Ad) OG)∧ae (Kd.R (Kd.int .u64) 25 w' w.heap.size (fun k_=>(w.heap.size≤k_)∧some k_≠((.slice EJ jL.length AV):Value).ownBlock) (.slice (some ⟨JJ,0,none⟩) su.length qY) rP)∧ae (Kd.R (Kd.int .u64) 25 w' w.heap.size (fun k_=>(w.heap.size≤k_)∧some k_≠((.slice (some ⟨JJ,0,none⟩) su.length qY):Value).ownBlock) (.slice EJ jL.length AV) qy)∧ae (Below w.heap.size w w'))
  case atStart=>exact ⟨(kS),(aBd),(jL),(aej),(aBc),z1,z1,H,zL,⟨by (try simp only [mZ]);(try simp only [ng]);(try simp only [jw]);(with_reducible repeat (first|apply Kd.iV|apply Kd.iW|apply Kd.iQ));exact xR.out⟩,⟨by (try simp only [mZ]);(try simp only [ng]);(try simp only [jw]);(with_reducible repeat (first|apply Kd.dE|apply Kd.dn|apply Kd.dY));exact mg.out⟩,⟨by (try simp only [mZ]);(try simp only [ng]);(try simp only [jw]);(with_reducible repeat (first|apply Kd.dE|apply Kd.dn|apply Kd.dY));exact jI.out⟩,⟨zB HB⟩⟩
  clear H
  try clear hx4
  try clear aBi
  try clear aBj
  try clear ML
  try clear DW
  try clear DX
  try clear DY
  try clear Hz
  try clear HY
  obtain ⟨OG,rP,qy,wB,G7,rfl,rfl,H,HK2,xR,mg,jI,HB⟩:=hrel
  have Ak:=(Kd.aX xR.out).1
  rw [Ak] at xR
  (try simp only [Ak])
  (try simp only [Ak] at mg)
  (try simp only [Ak] at jI)
  have nP:=(Kd.aW mg.out).1
  rw [nP] at mg
  (try simp only [nP])
  (try simp only [nP] at xR)
  (try simp only [nP] at jI)
  have tZ:=(Kd.aW jI.out).1
  rw [tZ] at jI
  (try simp only [tZ])
  (try simp only [tZ] at xR)
  (try simp only [tZ] at mg)
  obtain _|k2:=gk
  ·exact zz H rfl
  simp only [cZ.l1] at H
  cases G7
  replace H:=zb0 H
  replace H:=zid H
  obtain ⟨aiv,H⟩:=H
  replace H:=zi H
  obtain ⟨c54,H⟩:=H
  have MN:decide (mf<(qy.length:Int))=true:=decide_eq_true c54
  (try simp only [mZ] at MN)
  (try simp only [ng] at MN)
  (try simp only [jw] at MN)
  (try simp only [Ak] at MN)
  (try simp only [nP] at MN)
  (try simp only [tZ] at MN)
  clear c54
  generalize aiw:(qy.set (mf:Int).toNat wB:List Int)=avh at H
  have aqE:=zY aiw
  clear aiw
  have p55:0≤(mf:Int):=zD
  have q55:(mf:Int)<((qy.length:Int):Int):=zD
  obtain ⟨adl,aHU,avi,avj,aBk,aHV,avk⟩:=Kd.oD jI.out (by omega)
  (first|cases avi|(injection avi with ea_ en_ ec_;(first|subst ea_|(injection ea_ with ea_;subst ea_));subst ec_;clear en_))
  have aBl:=am avj
  have aHW:=am avk
  clear avj aBk avk
  obtain ⟨aix,avl⟩:=Kd.iI 0 jI.out (mf:Int) p55 q55
  replace p55:=eq_true p55
  replace q55:=eq_true q55
  have aqF:=Kd.mD jI.out (mf:Int) wB
  rotate_left
  replace H:=zb1 H
  replace H:=zit H
  obtain ⟨aqG,aqH,H⟩:=H
  replace H:=zit H
  obtain ⟨aqI,aqJ,H⟩:=H
  replace H:=zit H
  obtain ⟨aBm,aBn,H⟩:=H
  replace H:=zo H
  obtain ⟨⟨aBo,aBp⟩,A50,H⟩:=H
  try dsimp only at H
  have aqK:(0:Int)≤(mf:Int):=zD
  have aqL:(mf:Int)<((wrap64 ((wrap64 (mf+(l1.length:Int)))+1)):Int):=zD
  have q51:((wrap64 ((wrap64 (mf+(l1.length:Int)))+1)):Int)≤((rP.length:Int):Int):=zD
  obtain ⟨aHX,aiy,_,aiz,_⟩:=info_parts info25
  have VR:=(Kd.aW mg.out).2.1
  have aqM:=(Kd.aW mg.out).1
  have aiA:=Rx (P:=Tryz.prog) 88 25 .i64 .i64 Tryz.underlying88 aiy aiz JJ rP.length qY mf (wrap64 ((wrap64 (mf+(l1.length:Int)))+1)) aqK aqL (by omega) VR
  clear aiy aiz VR aqM
  (try simp only [LQ] at aiA)
  replace aqK:=eq_true aqK
  replace aqL:=eq_true aqL
  replace q51:=eq_true q51
  rotate_left
  all_goals (go_wp2_with (first|((with_reducible refine eQ (t:=25) (p:=101) rfl ?_);refine dU (t:=25) (p:=101) (v:=?avm) (w1:=(wr.setCell ⟨adl,(mf:Int).toNat,none⟩ (.int .u64 wB))) ?hg ?ho ?hn ?hr ?_;(case ho=>rfl);(case hg=>rfl);(case hn=>rfl);(case hr=>first|(go_simp;done)|(go_simp;rfl));intro w57 hw;have hg:wr.grownBy w57 (some adl):=(by rw [hw];exact aqF.2);have hp_:Kd.R (Kd.int .u64) 25 w57 w.heap.size (fun k_=>(w.heap.size≤k_)∧some k_≠(.slice (some ⟨JJ,0,none⟩) rP.length qY:Value).ownBlock) (.slice (some ⟨adl,0,none⟩) qy.length AV) avh:=(by rw [hw,aqE.out];exact aqF.1);clear aqF;replace xR:=am (Kd.iO (v:=(.slice (some ⟨adl,0,none⟩) qy.length AV)) (v1:=(.slice (some ⟨adl,0,none⟩) qy.length AV)) (ok:=(fun k_=>(w.heap.size≤k_)∧some k_≠(.slice (some ⟨JJ,0,none⟩) rP.length qY:Value).ownBlock)) (by (with_reducible repeat (first|apply Kd.iV|apply Kd.iW|apply Kd.iQ));exact Kd.bD xR.out (fun _ hk=>⟨⟨hk.1,hk.2.1⟩,hk.2.2⟩)) hg (.inl rfl));replace mg:=am (Kd.uh (v:=(.slice (some ⟨adl,0,none⟩) qy.length AV)) (v1:=(.slice (some ⟨adl,0,none⟩) qy.length AV)) (ok:=(fun k_=>(w.heap.size≤k_))) (zR mg) hg (.inl rfl));replace jI:=am (hp_);replace HB:=am ((by rw [hw];exact bu (HB.out) aBl.out:Below w.heap.size w w57));clear hg hw hp_)|((with_reducible refine af (f:=194) rfl ?_);refine lg (some 96) rfl rfl Tryz.func194 (by kernel_rfl) rfl #[.slice (some ⟨JJ,(mf:Int).toNat,none⟩) (((wrap64 ((wrap64 (mf+(l1.length:Int)))+1)):Int).toNat - (mf:Int).toNat) (qY - (mf:Int).toNat), .slice (some MM) OG.length Ad] rfl (by (try simp only [List.map_toArray,List.map_cons,List.map_nil]);first|done|(simp only [LQ];rfl)|rfl|(simp only [List.length_drop,List.length_take];rfl)) ?_;(with_reducible refine (vN.calls _ (fun k_=>some k_=(.slice (some ⟨JJ,0,none⟩) rP.length qY:Value).ownBlock) (.slice (some ⟨JJ,0,none⟩) rP.length qY) _ _ _ _ _ _ _ _ w _ ?fF ?kC ?VP ?VQ A50.out).mono ?_);(case fF=>repeat (first|(with_reducible first|exact HB.out|apply bz|apply aI|apply aZ)|exact HB.out));(case kC=>exact Kd.jY rfl mg.out);(case VP=>exact Kd.CQ (xR.out) (fun k_ hk_ hs_=>(hk_.2.1) hs_));(case VQ=>exact (Kd.aX xR.out).2.1);rintro e w52 ⟨rfl,hy0,hb,hkp⟩;refine ⟨_,rfl,?_⟩;replace xR:=am (Kd.bD (ok':=fun k_=>(w.heap.size≤k_)∧some k_≠(.slice (some ⟨JJ,0,none⟩) rP.length qY:Value).ownBlock∧some k_≠(.slice EJ qy.length AV:Value).ownBlock) (Kd.TF (xR.out) hkp (fun k_ hk_ hs_=>(hk_.2.1) hs_)) (fun k_ hk_=>⟨hk_.1.1,hk_.1.2.1,hk_.1.2.2⟩));replace mg:=am (Kd.Zp rfl hy0 (fun k_ e_=>mg.out.1 k_ e_));replace jI:=am (Kd.dL (ok':=fun k_=>(w.heap.size≤k_)∧some k_≠(.slice (some ⟨JJ,0,none⟩) rP.length qY:Value).ownBlock) (Kd.Df (jI.out) hkp (fun k_ hk_ hs_=>(hk_.2) hs_)) (fun k_ hk_=>⟨hk_.1.1,hk_.1.2⟩));replace HB:=am (hb);clear hb hkp hy0)))
  ·(try simp only [← mZ, ← ng, ← jw, ← Ak, ← nP, ← tZ])
   go_roundg k2
   case measure=>have:=HK1.out;have:=HK2.out;omega
   case rel=>exact ⟨(OG),(rP),(avh),(wrap64 (mf - 1)),z1,H,⟨by have:=HK1.out;have:=HK2.out;omega⟩,⟨by (try simp only [mZ]);(try simp only [ng]);(try simp only [jw]);(try simp only [Ak]);(try simp only [nP]);(try simp only [tZ]);(with_reducible repeat (first|apply Kd.iV|apply Kd.iW|apply Kd.iQ));exact Kd.bD xR.out (fun _ hk=>⟨hk.1.1,⟨hk.1.2,hk.2⟩⟩)⟩,⟨by (try simp only [mZ]);(try simp only [ng]);(try simp only [jw]);(try simp only [Ak]);(try simp only [nP]);(try simp only [tZ]);(with_reducible repeat (first|apply Kd.dE|apply Kd.dn|apply Kd.dY));exact mg.out⟩,⟨by (try simp only [mZ]);(try simp only [ng]);(try simp only [jw]);(try simp only [Ak]);(try simp only [nP]);(try simp only [tZ]);(with_reducible repeat (first|apply Kd.dE|apply Kd.dn|apply Kd.dY));exact jI.out⟩,⟨zB HB⟩⟩
  (try simp only [← Ak, ← nP, ← tZ])
  go_roundg k2
  case measure=>have:=HK1.out;have:=HK2.out;omega
  case rel=>exact ⟨(OG),(aBp),(qy),(IntKind.u64.wrap (wB - 1)),(!aBo),z1,z1,H,⟨by have:=HK1.out;have:=HK2.out;omega⟩,⟨by (try simp only [mZ]);(try simp only [ng]);(try simp only [jw]);(try simp only [Ak]);(try simp only [nP]);(try simp only [tZ]);(with_reducible repeat (first|apply Kd.iV|apply Kd.iW|apply Kd.iQ));exact xR.out⟩,⟨by (try simp only [mZ]);(try simp only [ng]);(try simp only [jw]);(try simp only [Ak]);(try simp only [nP]);(try simp only [tZ]);(with_reducible repeat (first|apply Kd.dE|apply Kd.dn|apply Kd.dY));exact mg.out⟩,⟨by (try simp only [mZ]);(try simp only [ng]);(try simp only [jw]);(try simp only [Ak]);(try simp only [nP]);(try simp only [tZ]);(with_reducible repeat (first|apply Kd.dE|apply Kd.dn|apply Kd.dY));exact jI.out⟩,⟨zB HB⟩⟩
 go_wp2
 go_loopg [103] k1 (fun kq aBq w' => ∃ (rP:List Int) (gm:Int),aBq = .int .i64 gm∧ae (cZ.l2 kq MK (l1.length:Int) rP jL (l1.length:Int) gm=some (r1,r2))∧ae (kq≤k1)∧ae (Kd.R (Kd.int .u64) 25 w' w.heap.size (fun k_=>(w.heap.size≤k_)∧some k_≠((.slice EJ jL.length AV):Value).ownBlock) (.slice JF su.length qY) rP)∧ae (Kd.R (Kd.int .u64) 25 w' w.heap.size (fun k_=>(w.heap.size≤k_)∧some k_≠((.slice JF su.length qY):Value).ownBlock) (.slice EJ jL.length AV) jL)∧ae (Below w.heap.size w w'))
 case atStart=>exact ⟨(su),(0),z1,H,zL,⟨by (try simp only [mZ]);(try simp only [ng]);(try simp only [jw]);(with_reducible repeat (first|apply Kd.dE|apply Kd.dn|apply Kd.dY));exact mg.out⟩,⟨by (try simp only [mZ]);(try simp only [ng]);(try simp only [jw]);(with_reducible repeat (first|apply Kd.dE|apply Kd.dn|apply Kd.dY));exact jI.out⟩,⟨zB HB⟩⟩
 clear H
 try clear hx4
 try clear hx5
 try clear hf5
 try clear aBi
 try clear aBj
 try clear aHY
 try clear aHZ
 try clear ML
 try clear DW
 try clear DX
 try clear DY
 try clear Hz
 try clear HY
 try clear aix
 obtain ⟨rP,gm,rfl,H,HK2,mg,jI,HB⟩:=hrel
 have nP:=(Kd.aW mg.out).1
 rw [nP] at mg
 (try simp only [nP])
 (try simp only [nP] at jI)
 obtain _|k2:=gk
 ·exact zz H rfl
 simp only [cZ.l2] at H
 replace H:=zs H
 rcases H with ⟨c58,H⟩|⟨c58,H⟩
 have H5:decide (gm<(l1.length:Int))=true:=decide_eq_true c58
 (try simp only [mZ] at H5)
 (try simp only [ng] at H5)
 (try simp only [jw] at H5)
 (try simp only [nP] at H5)
 clear c58
 replace H:=zid H
 obtain ⟨aqN,H⟩:=H
 replace H:=zi H
 obtain ⟨c60,H⟩:=H
 have Zb:decide (gm<(rP.length:Int))=true:=decide_eq_true c60
 (try simp only [mZ] at Zb)
 (try simp only [ng] at Zb)
 (try simp only [jw] at Zb)
 (try simp only [nP] at Zb)
 clear c60
 replace H:=zit H
 obtain ⟨aBr,aBs,H⟩:=H
 generalize aiB:(shr .u64 (rd rP gm) MK:Int)=Z8 at H
 have avn:((rd rP gm) / 2 ^ min MK.toNat 64)=Z8:=aiB
 have avo:MK≤64→((rd rP gm) / 2 ^ MK.toNat)=Z8:=jT aiB
 obtain ⟨Ei,VS,H⟩:=zw H
 replace H:=Em H
 rcases H with ⟨aiC,H⟩|⟨aiC,H⟩
 replace H:=zs H
 rcases H with ⟨c65,H⟩|⟨c65,H⟩
 have EM:decide ((wrap64 (gm+1))<(l1.length:Int))=true:=decide_eq_true c65
 (try simp only [mZ] at EM)
 (try simp only [ng] at EM)
 (try simp only [jw] at EM)
 (try simp only [nP] at EM)
 clear c65
 generalize adm:(wrap64 (gm+1):Int)=QK at H
 (try rw [adm] at EM)
 have avp:(IntKind.i64.wrap (gm+1))=QK:=(bI _).trans adm
 replace H:=zid H
 obtain ⟨aBt,H⟩:=H
 replace H:=zi H
 obtain ⟨c68,H⟩:=H
 have Zc:decide ((QK)<(rP.length:Int))=true:=decide_eq_true c68
 (try simp only [mZ] at Zc)
 (try simp only [ng] at Zc)
 (try simp only [jw] at Zc)
 (try simp only [nP] at Zc)
 clear c68
 generalize aqO:(wrap64 (64 - MK):Int)=aiD at H
 have avq:(IntKind.i64.wrap (64 - MK))=aiD:=(bI _).trans aqO
 replace H:=zit H
 obtain ⟨aBu,aBv,H⟩:=H
 generalize aiE:(shl .u64 (rd Ei (QK)) (aiD):Int)=aiF at H
 have avr:(IntKind.u64.wrap ((rd Ei (QK)) * 2 ^ min (aiD).toNat 64))=aiF:=aiE
 have avs:(aiD)≤64→(IntKind.u64.wrap ((rd Ei (QK)) * 2 ^ (aiD).toNat))=aiF:=iR aiE
 generalize aiG:(Ei.set (gm:Int).toNat (Go.bits .or .u64 (rd Ei gm) (aiF)):List Int)=aBw at H
 have aqP:=zY aiG
 clear aiG
 obtain ⟨avt,avu,aiH,rfl,DZ⟩:=zA (Kd.dH (Kd.aW mg.out).2.2 gm)
 have p63:0≤(gm:Int):=zD
 have q63:(gm:Int)<((rP.length:Int):Int):=zD
 obtain ⟨D5,adn,Q9,Z9,aiI,avv,aab⟩:=Kd.oD mg.out (by omega)
 (first|cases Q9|(injection Q9 with ea_ en_ ec_;(first|subst ea_|(injection ea_ with ea_;subst ea_));subst ec_;clear en_))
 have aiJ:=am Z9
 have avw:=am aab
 clear Z9 aiI aab
 (first|simp only [add_plain] at DZ|skip)
 obtain ⟨aac,aad⟩:=Kd.iI 0 mg.out (gm:Int) p63 q63
 replace p63:=eq_true p63
 replace q63:=eq_true q63
 have aqQ:=Kd.mD mg.out (gm:Int) Z8
 rotate_left
 ·have EM:decide ((wrap64 (gm+1))<(l1.length:Int))=false:=decide_eq_false c65
  (try simp only [mZ] at EM)
  (try simp only [ng] at EM)
  (try simp only [jw] at EM)
  (try simp only [nP] at EM)
  clear c65
  obtain ⟨avt,avu,aiH,rfl,DZ⟩:=zA (Kd.dH (Kd.aW mg.out).2.2 gm)
  have p63:0≤(gm:Int):=zD
  have q63:(gm:Int)<((rP.length:Int):Int):=zD
  obtain ⟨D5,adn,Q9,Z9,aiI,avv,aab⟩:=Kd.oD mg.out (by omega)
  (first|cases Q9|(injection Q9 with ea_ en_ ec_;(first|subst ea_|(injection ea_ with ea_;subst ea_));subst ec_;clear en_))
  have aiJ:=am Z9
  have avw:=am aab
  clear Z9 aiI aab
  (first|simp only [add_plain] at DZ|skip)
  obtain ⟨aac,aad⟩:=Kd.iI 0 mg.out (gm:Int) p63 q63
  replace p63:=eq_true p63
  replace q63:=eq_true q63
  have aqR:=Kd.mD mg.out (gm:Int) Z8
  go_wp2_with (first|((with_reducible refine eQ (t:=25) (p:=112) rfl ?_);refine dU (t:=25) (p:=112) (v:=?avx) (w1:=(wr.setCell ⟨D5,(gm:Int).toNat,none⟩ (.int .u64 Z8))) ?hg ?ho ?hn ?hr ?_;(case ho=>rfl);(case hg=>rfl);(case hn=>rfl);(case hr=>first|(go_simp;done)|(go_simp;rfl));intro w78 hw;have hg:wr.grownBy w78 (some D5):=(by rw [hw];exact aqR.2);have hp_:Kd.R (Kd.int .u64) 25 w78 w.heap.size (fun k_=>(w.heap.size≤k_)∧some k_≠(.slice EJ jL.length AV:Value).ownBlock) (.slice (some ⟨D5,0,none⟩) rP.length qY) Ei:=(by rw [hw,VS.out];exact aqR.1);clear aqR;replace mg:=am (hp_);replace jI:=am (Kd.uh (v:=(.slice (some ⟨D5,0,none⟩) rP.length qY)) (v1:=(.slice (some ⟨D5,0,none⟩) rP.length qY)) (ok:=(fun k_=>(w.heap.size≤k_))) (zR jI) hg (.inl rfl));replace HB:=am ((by rw [hw];exact bu (HB.out) aiJ.out:Below w.heap.size w w78));clear hg hw hp_))
  (try simp only [← nP])
  go_roundg k2
  case measure=>have:=HK1.out;have:=HK2.out;omega
  case rel=>exact ⟨(Ei),(wrap64 (gm+1)),z1,H,⟨by have:=HK1.out;have:=HK2.out;omega⟩,⟨by (try simp only [mZ]);(try simp only [ng]);(try simp only [jw]);(try simp only [nP]);(with_reducible repeat (first|apply Kd.dE|apply Kd.dn|apply Kd.dY));exact mg.out⟩,⟨by (try simp only [mZ]);(try simp only [ng]);(try simp only [jw]);(try simp only [nP]);(with_reducible repeat (first|apply Kd.dE|apply Kd.dn|apply Kd.dY));exact jI.out⟩,⟨zB HB⟩⟩
 ·obtain ⟨avt,avu,aiH,rfl,DZ⟩:=zA (Kd.dH (Kd.aW mg.out).2.2 gm)
  have p63:0≤(gm:Int):=zD
  have q63:(gm:Int)<((rP.length:Int):Int):=zD
  obtain ⟨D5,adn,Q9,Z9,aiI,avv,aab⟩:=Kd.oD mg.out (by omega)
  (first|cases Q9|(injection Q9 with ea_ en_ ec_;(first|subst ea_|(injection ea_ with ea_;subst ea_));subst ec_;clear en_))
  have aiJ:=am Z9
  have avw:=am aab
  clear Z9 aiI aab
  (first|simp only [add_plain] at DZ|skip)
  obtain ⟨aac,aad⟩:=Kd.iI 0 mg.out (gm:Int) p63 q63
  replace p63:=eq_true p63
  replace q63:=eq_true q63
  have aqS:=Kd.mD mg.out (gm:Int) Z8
  go_wp2_with (first|((with_reducible refine eQ (t:=25) (p:=112) rfl ?_);refine dU (t:=25) (p:=112) (v:=?avy) (w1:=(wr.setCell ⟨D5,(gm:Int).toNat,none⟩ (.int .u64 Z8))) ?hg ?ho ?hn ?hr ?_;(case ho=>rfl);(case hg=>rfl);(case hn=>rfl);(case hr=>first|(go_simp;done)|(go_simp;rfl));intro w80 hw;have hg:wr.grownBy w80 (some D5):=(by rw [hw];exact aqS.2);have hp_:Kd.R (Kd.int .u64) 25 w80 w.heap.size (fun k_=>(w.heap.size≤k_)∧some k_≠(.slice EJ jL.length AV:Value).ownBlock) (.slice (some ⟨D5,0,none⟩) rP.length qY) Ei:=(by rw [hw,VS.out];exact aqS.1);clear aqS;replace mg:=am (hp_);replace jI:=am (Kd.uh (v:=(.slice (some ⟨D5,0,none⟩) rP.length qY)) (v1:=(.slice (some ⟨D5,0,none⟩) rP.length qY)) (ok:=(fun k_=>(w.heap.size≤k_))) (zR jI) hg (.inl rfl));replace HB:=am ((by rw [hw];exact bu (HB.out) aiJ.out:Below w.heap.size w w80));clear hg hw hp_))
  (try simp only [← nP])
  go_roundg k2
  case measure=>have:=HK1.out;have:=HK2.out;omega
  case rel=>exact ⟨(Ei),(wrap64 (gm+1)),z1,H,⟨by have:=HK1.out;have:=HK2.out;omega⟩,⟨by (try simp only [mZ]);(try simp only [ng]);(try simp only [jw]);(try simp only [nP]);(with_reducible repeat (first|apply Kd.dE|apply Kd.dn|apply Kd.dY));exact mg.out⟩,⟨by (try simp only [mZ]);(try simp only [ng]);(try simp only [jw]);(try simp only [nP]);(with_reducible repeat (first|apply Kd.dE|apply Kd.dn|apply Kd.dY));exact jI.out⟩,⟨zB HB⟩⟩
 have H5:decide (gm<(l1.length:Int))=false:=decide_eq_false c58
 (try simp only [mZ] at H5)
 (try simp only [ng] at H5)
 (try simp only [jw] at H5)
 (try simp only [nP] at H5)
 clear c58
 replace H:=zo H
 obtain ⟨aqi,A81,H⟩:=H
 replace H:=zit H
 obtain ⟨aBx,aBy,H⟩:=H
 replace H:=zit H
 obtain ⟨aBz,aBA,H⟩:=H
 generalize aiK:(rP.take ((l1.length:Int):Int).toNat:List Int)=aae at H
 have aiL:=zY aiK
 clear aiK
 replace H:=zo H
 obtain ⟨aqj,A84,H⟩:=H
 obtain ⟨rfl,rfl⟩:=zJ2 H
 rotate_left
 all_goals (try go_wp2_with (first|((with_reducible refine eQ (t:=25) (p:=112) rfl ?_);refine dU (t:=25) (p:=112) (v:=?avz) (w1:=(wr.setCell ⟨D5,(gm:Int).toNat,none⟩ (.int .u64 Z8))) ?hg ?ho ?hn ?hr ?_;(case ho=>rfl);(case hg=>rfl);(case hn=>rfl);(case hr=>first|(go_simp;done)|(go_simp;rfl));intro w74 hw;have hg:wr.grownBy w74 (some D5):=(by rw [hw];exact aqQ.2);have hp_:Kd.R (Kd.int .u64) 25 w74 w.heap.size (fun k_=>(w.heap.size≤k_)∧some k_≠(.slice EJ jL.length AV:Value).ownBlock) (.slice (some ⟨D5,0,none⟩) rP.length qY) Ei:=(by rw [hw,VS.out];exact aqQ.1);clear aqQ;replace mg:=am (hp_);replace jI:=am (Kd.uh (v:=(.slice (some ⟨D5,0,none⟩) rP.length qY)) (v1:=(.slice (some ⟨D5,0,none⟩) rP.length qY)) (ok:=(fun k_=>(w.heap.size≤k_))) (zR jI) hg (.inl rfl));replace HB:=am ((by rw [hw];exact bu (HB.out) aiJ.out:Below w.heap.size w w74));clear hg hw hp_)))
 all_goals
  replace mg:=am (Kd.dY mg.out)
  replace jI:=am (Kd.dY jI.out)
  replace HB:=am (aZ HB.out)
 ·have aqT:0≤(gm:Int):=zD
  have aqU:gm<(Ei.length:Int):=(by have h_:(gm:Int)<((rP.length:Int):Int):=zD;first|(have e_:=(Kd.aW mg.out).1;omega)|simpa only [VS.out,List.length_set] using h_)
  have aBB:((gm:Int)<((rP.length:Int):Int))=True:=eq_true (zD)
  obtain ⟨aqV,aBC,D6⟩:=Kd.dH (Kd.aW mg.out).2.2 gm aqT aqU
  obtain rfl:(⟨D5,0,none⟩:Addr)=aqV:=(by injection aBC)
  (first|simp only [add_plain] at D6|simp only [NH] at D6|simp only [Addr.add,Nat.zero_add] at D6|skip)
  replace aqT:=eq_true aqT
  replace aqU:=eq_true aqU
  have aqW:0≤((QK):Int):=zD
  have aqX:(QK)<(Ei.length:Int):=(by have h_:((QK):Int)<((rP.length:Int):Int):=zD;first|(have e_:=(Kd.aW mg.out).1;omega)|simpa only [VS.out,List.length_set] using h_)
  have aBD:(((QK):Int)<((rP.length:Int):Int))=True:=eq_true (zD)
  obtain ⟨aqY,aBE,D7⟩:=Kd.dH (Kd.aW mg.out).2.2 (QK) aqW aqX
  obtain rfl:(⟨D5,0,none⟩:Addr)=aqY:=(by injection aBE)
  (first|simp only [add_plain] at D7|simp only [NH] at D7|simp only [Addr.add,Nat.zero_add] at D7|skip)
  replace aqW:=eq_true aqW
  replace aqX:=eq_true aqX
  have p72:0≤(gm:Int):=zD
  have q72:(gm:Int)<((rP.length:Int):Int):=zD
  obtain ⟨aiM,aiN⟩:=Kd.iI 0 mg.out (gm:Int) p72 q72
  replace p72:=eq_true p72
  replace q72:=eq_true q72
  have aqZ:=Kd.NF mg.out (gm:Int) (Go.bits .or .u64 (rd Ei gm) (aiF))
  rw [← aqP.out] at aqZ
  have avA:=am aqZ
  clear aqZ
  refine ny (n:=15) (S:=fun w'=>w'.cell? ⟨D5,(gm).toNat,none⟩=some (.int .u64 (rd Ei gm))∧w'.cell? ⟨D5,((QK)).toNat,none⟩=some (.int .u64 (rd Ei (QK)))) (ds := [14]) (Array.replicate 15 false) (by kernel_rfl) rfl rfl ⟨D6,D7⟩ (fun hHeld=>?_);refine iw cZ.akN cZ.aeE (fun HT_ HW_=>?_)
  generalize w74.drew=w75 at mg jI HB avA aiN D6 D7 aiM hHeld ⊢
  refine zp HT_ 0 (some 121) ?_
  refine zp HT_ 1 (some 122) ?_
  refine zp HT_ 2 (some 123) ?_
  refine zp HT_ 4 (some 125) ?_
  refine zp HT_ 5 (some 126) ?_
  refine zp HT_ 6 (some 127) ?_
  refine zp HT_ 7 (some 128) ?_
  refine zp HT_ 9 (some 130) ?_
  refine zp HT_ 10 (some 131) ?_
  refine zt HT_ HW_ 3 (some 124) hHeld ?_
  refine zt HT_ HW_ 8 (some 129) hHeld ?_
  refine zp HT_ 11 (some 132) ?_
  refine zp HT_ 12 (some 133) ?_
  refine zp HT_ 13 (some 134) ?_
  refine KE (i:=14) (N:=none) #[true,true,true,true,true,true,true,true,true,true,true,true,true,true,true] rfl rfl (Aq HT_.out (by kernel_rfl)) (by decide) (fun K hK=>?_)
  refine vK (w1:=?_) (by rfl) rfl ?_ ?_
  rotate_left
  ·go_simp
   rfl
  refine hK.out _ _ ?_
  clear hK K
  refine o6 (jd HT_.out (by kernel_rfl)) ?_
  try go_wp2
  (try simp only [← nP])
  go_roundg k2
  case measure=>have:=HK1.out;have:=HK2.out;omega
  case rel=>exact ⟨(aBw),(QK),(by first|rfl|(simp;done)|(simp only [← adm] <;> (first|rfl|simp))|(simp [*];done)),H,⟨by have:=HK1.out;have:=HK2.out;omega⟩,⟨by (try simp only [mZ]);(try simp only [ng]);(try simp only [jw]);(try simp only [nP]);(with_reducible repeat (first|apply Kd.dE|apply Kd.dn|apply Kd.dY));exact avA.out⟩,⟨by (try simp only [mZ]);(try simp only [ng]);(try simp only [jw]);(try simp only [nP]);(with_reducible repeat (first|apply Kd.dE|apply Kd.dn|apply Kd.dY));exact Kd.dL (Kd.oJ (p:=⟨D5,(gm:Int).toNat,none⟩) (Kd.dL jI.out (fun k_ hk=>(⟨hk,fun e_=>hk.2 (by rw [e_];rfl)⟩:_∧k_≠D5))) (fun _ hk=>hk.2) (.int .u64 (Go.bits .or .u64 (rd Ei gm) (aiF)))) (fun _ hk=>⟨hk.1.1,hk.1.2⟩)⟩,⟨zB HB⟩⟩
 have q86:((l1.length:Int):Int)≤((rP.length:Int):Int):=zD
 obtain ⟨aH0,aiO,_,aq0,_⟩:=info_parts info25
 have VT:rP.length≤qY:=(Kd.aW mg.out).2.1
 have avC:Kd.F (Kd.int .u64) _ _ JF rP.length rP:=(Kd.WQ (base:=w.heap.size) (Kd.R_V mg.out)).2.2
 have aiP:=J9 (P:=Tryz.prog) 88 25 .i64 .i64 Tryz.underlying88 aiO JF rP.length qY (l1.length:Int) (zD) q86 VT
 have aq1:=Kd.Jl (m:=((l1.length:Int):Int).toNat) avC (by omega)
 have aq2:aae.length=((l1.length:Int):Int).toNat:=(by rw [aiL.out,List.length_take];omega)
 rw [← aiL.out] at aq1
 rw [← aq2] at aiP
 have QL:=am (show Kd.V (Kd.int .u64) 25 _ w.heap.size _ (.slice JF aae.length aae.length) aae from Kd.Ih (Nat.le_refl _) aq1)
 have aBF:=am (Nat.le_refl aae.length)
 clear aq1 avC VT aiO aq0
 have aH1:=am aq2
 clear aq2
 replace q86:=eq_true q86
 refine ny (n:=9) (S:=fun w'=>True) (ds := []) (Array.replicate 9 false) (by kernel_rfl) rfl rfl trivial (fun hHeld=>?_);refine iw cZ.ak1 cZ.afe (fun HT_ HW_=>?_)
 generalize wr.drew=w85 at mg jI HB QL hHeld ⊢
 refine zp HT_ 0 (some 136) ?_
 refine zp HT_ 2 (some 138) ?_
 refine zp HT_ 3 (some 139) ?_
 refine zp HT_ 4 (some 140) ?_
 refine zp HT_ 5 (some 141) ?_
 refine zu HT_ 1 (some 137) (fun K hK=>?_)
 refine oK Tryz.func103 (by kernel_rfl) rfl #[.slice EJ jL.length AV] (by rfl) rfl rfl (by (try simp only [List.map_toArray,List.map_cons,List.map_nil]);first|done|rfl|(simp only [List.length_drop,List.length_take];rfl)) ?_
 with_reducible refine (bG.calls k2 (fun k_=>some k_=(.slice EJ jL.length AV:Value).ownBlock) _ _ jL aqi _ ?fF A81.out).mono ?_
 (case fF=>exact Kd.R_V (Kd.jY rfl (jI.out)))
 rintro e w87 ⟨aH2,rfl,ho0,hb⟩
 refine ⟨_,rfl,?_⟩
 replace QL:=zVb QL hb
 have ado:=am (Kd.df (Kd.bD (ok':=fun k_=>(w.heap.size≤k_)∧some k_≠(.slice JF rP.length qY:Value).ownBlock) ho0 (fun k_ hk_=>⟨Or.elim hk_ (fun hs_=>((jI.out).1 k_ hs_.symm).1) (fun hn_=>(Nat.le_trans (zS HB) hn_)),Or.elim hk_ (fun hs_=>((jI.out).1 k_ hs_.symm).2) (fun hn_=>(Kd.fresh' (Kd.sU (zR mg)) k_ hn_))⟩)) (zS HB))
 replace mg:=zRb mg hb
 replace jI:=zRb jI hb
 replace HB:=zBs HB hb
 (try clear hb)
 (try clear hb2)
 (try clear hk)
 (try clear hi)
 (try clear ho0)
 refine hK.out _ _ trivial (fun hHeld=>?_)
 clear hK K
 refine kK (a':=?_) ?_ ?_
 rotate_left
 ·show Act.put _ (some 137) _=_
  simp only [Act.put,List.setIfInBounds_toArray,List.set_cons_zero,List.set_cons_succ,bI,dV]
  rfl
 refine zu HT_ 6 (some 142) (fun K hK=>?_)
 refine oK Tryz.func103 (by kernel_rfl) rfl #[.slice JF aae.length aae.length] (by rfl) rfl rfl (by (try simp only [List.map_toArray,List.map_cons,List.map_nil]);first|done|rfl|(simp only [List.length_drop,List.length_take];rfl)) ?_
 with_reducible refine (bG.calls k2 (fun k_=>((w.heap.size≤k_)∧some k_≠(.slice EJ jL.length AV:Value).ownBlock)) _ _ aae aqj _ ?fF A84.out).mono ?_
 (case fF=>exact QL.out)
 rintro e w88 ⟨aH3,rfl,ho0,hb⟩
 refine ⟨_,rfl,?_⟩
 replace mg:=zRb mg hb
 replace QL:=zVb QL hb
 replace ado:=zVb ado hb
 have aq3:=am (Kd.df (Kd.bD (ok':=fun k_=>(w.heap.size≤k_)∧some k_≠(.slice EJ jL.length AV:Value).ownBlock) ho0 (fun k_ hk_=>⟨Or.elim hk_ (fun hs_=>hs_.1) (fun hn_=>(Nat.le_trans (zS HB) hn_)),Or.elim hk_ (fun hs_=>hs_.2) (fun hn_=>(Kd.fresh' (Kd.sU (zR jI)) k_ hn_))⟩)) (zS HB))
 replace jI:=zRb jI hb
 replace HB:=zBs HB hb
 (try clear hb)
 (try clear hb2)
 (try clear hk)
 (try clear hi)
 (try clear ho0)
 refine hK.out _ _ trivial (fun hHeld=>?_)
 clear hK K
 refine kK (a':=?_) ?_ ?_
 rotate_left
 ·show Act.put _ (some 142) _=_
  simp only [Act.put,List.setIfInBounds_toArray,List.set_cons_zero,List.set_cons_succ,bI,dV]
  rfl
 refine zp HT_ 7 (some 4) ?_
 refine zp HT_ 8 (some 5) ?_
 refine o6 (jd HT_.out (by kernel_rfl)) ?_
 try go_wp2
 go_ret2
 exact ⟨_,_,by first|exact z3|(simp only [← JC, ← G8];exact z3)|exact z2,by (with_reducible repeat (first|apply Kd.iV|apply Kd.iW|apply Kd.iQ));exact Kd.bD ado.out (fun _ hk=>hk.1),by (with_reducible repeat (first|apply Kd.iV|apply Kd.iW|apply Kd.iQ));exact Kd.bD aq3.out (fun _ hk=>hk.1),zB HB⟩
end Go.Proofs.Yy.PTx
end
