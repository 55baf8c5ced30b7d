/- Part 15. -/
import Derived.Test.YtpfnkbnepcchgaaGreatDoorKTPN
set_option linter.unusedSimpArgs false
set_option linter.unusedVariables false
section
set_option maxHeartbeats 8000000
set_option maxRecDepth 100000
namespace Go.Proofs.Yy.PTx
open Go.RowKit Go.Proofs.Yy.Z Go.Proofs.Yw.PrintWords Go.Proofs.Yw.PrintLast Go.Proofs.Yw.PrintMore
open Go.Proofs.Yy.M
attribute [local go_sem] dG dP kR kT kW kS
attribute [local go_sem] gI gG iP iR fF fG gW gV
mutual
def bz.l0:Nat→Int→Int→List Int→List Int→List Int→Int→Option (List Int × List Int)
  | 0,_,_,_,_,_,_=>none
  | k+1,x6,x7,x8,x9,x10,x11=>if x11≥0 then (if 0≤(wrap64 (x11+x7)) then (if (wrap64 (x11+x7))<(x9.length:Int) then (if 0≤(wrap64 ((wrap64 (x11+x7))-1)) then (if (wrap64 ((wrap64 (x11+x7))-1))<(x9.length:Int) then (if 0≤(wrap64 ((wrap64 (x11+x7))-2)) then (if (wrap64 ((wrap64 (x11+x7))-2))<(x9.length:Int) then (if 0≤(wrap64 (x7-1)) then (if (wrap64 (x7-1))<(x8.length:Int) then (if 0≤(wrap64 (x7-2)) then (if (wrap64 (x7-2))<(x8.length:Int) then ((bM.f k (rd x9 (wrap64 (x11+x7))) (rd x9 (wrap64 ((wrap64 (x11+x7))-1))) (rd x9 (wrap64 ((wrap64 (x11+x7))-2))) (rd x8 (wrap64 (x7-1))) (rd x8 (wrap64 (x7-2)))).bind fun afq=>(if 0≤x11 then (if x11<(wrap64 ((wrap64 (x11+x7))+1)) then (if (wrap64 ((wrap64 (x11+x7))+1))≤(x9.length:Int) then ((qH.f k x9 x11 (wrap64 ((wrap64 (x11+x7))+1)) x8 afq).bind fun ai7=>(bz.l1 k x6 x7 x8 ai7.2 x10 x11 afq ai7.1)) else (none)) else (none)) else (none))) else (none)) else (none)) else (none)) else (none)) else (none)) else (none)) else (none)) else (none)) else (none)) else (none)) else (bz.l2 k x6 x7 x9 x10 x7 0)
def bz.l1:Nat→Int→Int→List Int→List Int→List Int→Int→Int→Bool→Option (List Int × List Int)
  | 0,_,_,_,_,_,_,_,_=>none
  | k+1,x6,x7,x8,x9,x10,x11,x12,x13=>if x13=true then (if 0≤x11 then (if x11<(wrap64 ((wrap64 (x11+x7))+1)) then (if (wrap64 ((wrap64 (x11+x7))+1))≤(x9.length:Int) then ((rO.f k x9 x11 (wrap64 ((wrap64 (x11+x7))+1)) x8).bind fun ai8=>(bz.l1 k x6 x7 x8 ai8.2 x10 x11 (IntKind.u64.wrap (x12-1)) (!ai8.1))) else (none)) else (none)) else (none)) else (if 0≤x11 then (if x11<(x10.length:Int) then (bz.l0 k x6 x7 x8 x9 (x10.set (x11:Int).toNat x12) (wrap64 (x11-1))) else (none)) else (none))
def bz.l2:Nat→Int→Int→List Int→List Int→Int→Int→Option (List Int × List Int)
  | 0,_,_,_,_,_,_=>none
  | k+1,x6,x7,x9,x10,x102,x103=>if x103<x102 then (if 0≤x103 then (if x103<(x9.length:Int) then (if 0≤x6 then ((some (x9.set (x103:Int).toNat (shr .u64 (rd x9 x103) x6):List Int)).bind fun EG=>(if x6 > 0 then (if (wrap64 (x103+1))<x7 then (if 0≤(wrap64 (x103+1)) then (if (wrap64 (x103+1))<(x9.length:Int) then (if 0≤(wrap64 (64-x6)) then (bz.l2 k x6 x7 (EG.set (x103:Int).toNat (Go.bits .or .u64 (rd EG x103) (shl .u64 (rd EG (wrap64 (x103+1))) (wrap64 (64-x6))))) x10 x102 (wrap64 (x103+1))) else (none)) else (none)) else (none)) else (bz.l2 k x6 x7 EG x10 x102 (wrap64 (x103+1)))) else (bz.l2 k x6 x7 EG x10 x102 (wrap64 (x103+1))))) else (none)) else (none)) else (none)) else ((bG.f k x10).bind fun ap7=>(if 0≤x7 then (if x7≤(x9.length:Int) then ((bG.f k (x9.take (x7:Int).toNat)).bind fun ap8=>(some (ap7,ap8))) else (none)) else (none)))
end
def bz.f (k:Nat)(l0:List Int)(l1:List Int):Option (List Int × List Int):=if 0≤(wrap64 ((l1.length:Int)-1)) then (if (wrap64 ((l1.length:Int)-1))<(l1.length:Int) then ((bits_LeadingZeros64.f k (rd l1 (wrap64 ((l1.length:Int)-1)))).bind fun MK=>((dH.f k l1 MK).bind fun YV=>(if 0≤(l1.length:Int) then (if (l1.length:Int)≤(YV.length:Int) then ((dH.f k l0 MK).bind fun Vj=>(if 0≤(wrap64 ((Vj.length:Int)-(l1.length:Int))) then (if (wrap64 ((Vj.length:Int)-(l1.length:Int)):Int).toNat≤35184372088832 then ((some (List.replicate (wrap64 ((Vj.length:Int)-(l1.length:Int)):Int).toNat 0:List Int)).bind fun aam=>(bz.l0 k MK (l1.length:Int) (YV.take ((l1.length:Int):Int).toNat) Vj aam (wrap64 ((aam.length:Int)-1)))) else (none)) else (none))) else (none)) else (none)))) else (none)) else (none)
def bz.T9:Bool × List (List Nat × List Nat):=(true,[([],[]),([],[]),([],[]),([1,2],[1,2]),([0,3],[0,3]),([4],[4]),([],[]),([],[]),([],[]),([7,8],[7,8]),([9],[9]),([6,10],[6,10]),([11],[11]),([],[]),([],[]),([],[]),([14,15],[14,15]),([16],[16]),([13,17],[13,17]),([18],[18]),([],[]),([],[]),([21],[21]),([20,22],[20,22]),([23],[23]),([],[]),([],[]),([26],[26]),([25,27],[25,27]),([28],[28]),([5,12,19,24,29],[5,12,19,24,29]),([30,30,0,1,2,3,4,5,6,7,8,9,10,11,12,13,14,15,16,17,18,19,20,21,22,23,24,25,26,27,28,29,30],[30])])
def bz.B9:List Nat := [0,0,0,6,15,31,0,0,0,384,896,1984,4032,0,0,0,49152,114688,253952,516096,0,0,2097152,7340032,15728640,0,0,67108864,234881024,503316480,1073741823,2147483647]
theorem bz.agM:rG .any (opsOf Tryz.f154 9)=bz.T9:=by kernel_rfl
theorem bz.Rt:jb bz.T9.2 bz.B9=true:=by kernel_rfl
def bz.T20:Bool × List (List Nat × List Nat):=(true,[([],[]),([],[]),([0,1],[0,1]),([2],[2]),([],[]),([],[]),([5],[5]),([4,6],[4,6]),([7],[7]),([],[]),([9],[9]),([8,10],[8,10]),([3,11],[3,11]),([0,1,0,1,2,3,4,5,6,7,8,9,10,11,12],[0,1]),([13,12,0,1,2,3,4,5,6,7,8,9,10,11,12],[12,13])])
def bz.B20:List Nat := [0,0,3,7,0,0,32,112,240,0,512,2032,4095,8191,16383]
theorem bz.abg:rG .any (opsOf Tryz.f154 20)=bz.T20:=by kernel_rfl
theorem bz.RN:jb bz.T20.2 bz.B20=true:=by kernel_rfl
def bz.T22:Bool × List (List Nat × List Nat):=(true,[([],[]),([0],[0]),([],[]),([],[]),([],[]),([2,3,4],[2,3,4]),([5,1],[5]),([1,6,0,1],[1]),([6,7,0,1,2,3,4,5,6,7],[6])])
def bz.B22:List Nat := [0,1,0,0,0,28,63,127,255]
theorem bz.amA:rG .any (opsOf Tryz.f154 22)=bz.T22:=by kernel_rfl
theorem bz.afK:jb bz.T22.2 bz.B22=true:=by kernel_rfl
theorem bz.calls (k:Nat)(A0:Option Addr)(c0:Nat)(l0:List Int)(A1:Option Addr)(c1:Nat)(l1:List Int)(r1:List Int)(r2:List Int)(w:World)(hr0:Kd.C (Kd.int .u64) w A0 l0.length l0)(hc0:l0.length≤c0)(hr1:Kd.C (Kd.int .u64) w A1 l1.length l1)(hc1:l1.length≤c1)(h:bz.f k l0 l1=some (r1,r2)) :
    Calls Tryz.prog 154 #[.slice A0 l0.length c0,.slice A1 l1.length c1] w fun e w' => ∃ v0_ v1_:Value,e=.returned (.tuple #[v0_,v1_])∧Kd.V (Kd.int .u64) 25 w' w.heap.size (fun k_=>(w.heap.size≤k_)) v0_ r1∧Kd.V (Kd.int .u64) 25 w' w.heap.size (fun k_=>(w.heap.size≤k_)) v1_ r2∧Below w.heap.size w w':=by
 have HR0:=am hr0;have HC0:=am hc0;clear hr0 hc0;have HR1:=am hr1;have HC1:=am hc1;clear hr1 hc1;have HB:=am (Below.refl w.heap.size w);have H:=am h;unfold bz.f at H;clear h;generalize ED:(wrap64 ((l1.length:Int)-1):Int)=ji3 at H;have UA:(IntKind.i64.wrap ((l1.length:Int)-1))=ji3:=(cu _).trans ED;replace H:=zid H;obtain⟨jP,H⟩:=H;replace H:=zid H;obtain⟨qg,H⟩:=H;replace H:=zo H;obtain⟨MK,A6,H⟩:=H;replace H:=zo H;obtain⟨YV,A7,H⟩:=H;replace H:=zit H;obtain⟨sO,Ap,H⟩:=H;replace H:=zit H;obtain⟨wu,Ez,H⟩:=H;generalize ai9:(YV.take ((l1.length:Int):Int).toNat:List Int)=afr at H;have aja:=zY ai9;clear ai9;replace H:=zo H;obtain⟨Vj,A10,H⟩:=H;generalize HY:(wrap64 ((Vj.length:Int)-(l1.length:Int)):Int)=ag1 at H
 (try rw[HY]at A6)
 (try rw[HY]at A7)
 (try rw[HY]at A10)
 have awm:(IntKind.i64.wrap ((Vj.length:Int)-(l1.length:Int)))=ag1:=(cu _).trans HY;replace H:=zit H;obtain⟨qO,xY,H⟩:=H;replace H:=zit H;obtain⟨qo,Ib,H⟩:=H;obtain⟨aam,ajb,H⟩:=zw H;obtain⟨aIG,aIH,ap9,rfl,ML⟩:=zA (Kd.dQ HR1.out (ji3))
 go_enter Tryz.func154,Tryz.ntmps154
 go_wp2_with (first|((with_reducible refine af (f:=184) rfl ?_);refine jS (some 21) rfl rfl Tryz.func184 (by kernel_rfl) rfl #[.int .u64 (rd l1 (ji3))] rfl (by (try simp only[List.map_toArray,List.map_cons,List.map_nil]);first|done|(simp only[ED];rfl)|rfl|(simp only[List.length_drop,List.length_take];rfl)) ?_;(with_reducible refine (bits_LeadingZeros64.calls _ _ _ _ A6.out).mono ?_);rintro e w' ⟨rfl,⟨nd,rfl⟩⟩;refine⟨_,rfl,?_⟩)|((with_reducible refine af (f:=104) rfl ?_);refine zc (some 26) Tryz.func104 #[.slice (some ap9) l1.length c1,.int .i64 MK] (dH.calls _ _ _ _ _ _ _ (zC HR1.out) HC1.out A7.out) ?_;rintro e w14 ⟨aII,rfl,ho0,hb⟩;refine⟨_,rfl,?_⟩;have Ip:=am (Kd.eu (Kd.oI (M:=fun k_=>(w.heap.size≤k_)) ho0 (zS HB) (fun k_ h_=>h_)) (zS HB));replace HB:=zBs HB hb;clear hb ho0;obtain⟨IP,BX,UF⟩:=Kd.dZ Ip.out;subst UF;have q15:((l1.length:Int):Int)≤((YV.length:Int):Int):=zD;obtain⟨aIJ,ajc,_,aqa,_⟩:=info_parts info25;have Vk:YV.length≤BX:=(Kd.aA Ip.out).2.1;have awn:Kd.F (Kd.int .u64) _ _ IP YV.length YV:=(Kd.Wy (base:=w.heap.size) (Kd.R_V Ip.out)).2.2;have ajd:=Ov (P:=Tryz.prog) 88 25 .i64 Tryz.underlying88 ajc IP YV.length BX (l1.length:Int) (zD) q15 Vk;have aqb:=Kd.Jb (m:=((l1.length:Int):Int).toNat) awn (by omega);have aqc:afr.length=((l1.length:Int):Int).toNat:=(by rw[aja.out,List.length_take];omega);rw[← aja.out]at aqb;rw[← aqc]at ajd;have Vl:=am (show Kd.V (Kd.int .u64) 25 _ w.heap.size _ (.slice IP afr.length BX) afr from Kd.IL (by omega) aqb);have aBO:=am (show afr.length≤BX from by omega);clear aqb awn Vk ajc aqa;have aIK:=am aqc;clear aqc;replace q15:=eq_true q15)|((with_reducible refine af (f:=104) rfl ?_);refine zc (some 31) Tryz.func104 #[.slice A0 l0.length c0,.int .i64 MK] (dH.calls _ _ _ _ _ _ _ (zC (Kd.jZ HR0.out HB.out)) HC0.out A10.out) ?_;rintro e w17 ⟨aIL,rfl,ho0,hb⟩;refine⟨_,rfl,?_⟩;replace Vl:=am (Kd.jG (zV Vl) (Kd.gm ho0) hb);have Vm:=am (Kd.eu (Kd.jd (Kd.oI (M:=fun k_=>(w.heap.size≤k_)) ho0 (zS HB) (fun k_ h_=>h_)) (Kd.ql (zR Ip))) (zS HB));replace Ip:=am (Kd.gp (zR Ip) (Kd.gm ho0) hb);replace HB:=zBs HB hb;clear hb ho0;obtain⟨JY,rZ,LW⟩:=Kd.dZ Vm.out;subst LW)|((with_reducible refine aI (N:=36) rfl ?_);refine Kd.vH (Kd.int .u64) _ 25 rfl (N:=36) rfl 88 _ _ rfl ag1 (by first|rfl|(simp only[List.length_drop,List.length_take];rfl)) (by first|rfl|(simp only[List.length_drop,List.length_take];rfl)) Tryz.underlying88 (.int .u64 0) 8 info25 rfl (by decide) (by omega) 0 (ok:=fun _=>True) (okp:=fun _=>True) rfl (fun _ hk=>hk) trivial (zD) (Nat.le_trans (Nat.mul_le_mul_right _ (zD:ag1.toNat≤35184372088832)) (by omega)) (Below.refl _ _) (Nat.le_refl _) ?_;intro aIM w19 JW hb hg_ ku;clear hg_ ku;(first|rw[← ajb.out]at JW|(simp only[Int.reduceToNat]at JW;rw[← ajb.out]at JW));replace Vl:=am (Kd.jG (zV Vl) (Kd.gm JW) hb);have aje:=am (Kd.eu (Kd.jd (Kd.jd (Kd.oI (M:=fun k_=>(w.heap.size≤k_)) JW (zS HB) (fun k_ h_=>h_)) (Kd.ql (zR Ip))) (Kd.ql (zR Vm))) (zS HB));replace Ip:=am (Kd.gp (zR Ip) (Kd.gm JW) hb);replace Vm:=am (Kd.gp (zR Vm) (Kd.gm JW) hb);replace HB:=zBs HB hb;clear hb JW;obtain⟨Cb,zJ,ajf⟩:=Kd.dZ aje.out;subst ajf))
 go_loopg [11] k (fun kq v11 w' => ∃ (lC:List Int) (tH:List Int) (kw:List Int) (mF:Int),v11=.int .i64 mF∧ae (bz.l0 kq MK (l1.length:Int) lC tH kw mF=some (r1,r2))∧ae (kq≤k)∧ae (Kd.V (Kd.int .u64) 25 w' w.heap.size (fun k_=>(w.heap.size≤k_)∧some k_≠((.slice JY Vj.length rZ):Value).ownBlock∧some k_≠((.slice Cb aam.length zJ):Value).ownBlock) (.slice IP afr.length BX) lC)∧ae (Kd.R (Kd.int .u64) 25 w' w.heap.size (fun k_=>(w.heap.size≤k_)∧some k_≠((.slice Cb aam.length zJ):Value).ownBlock) (.slice JY Vj.length rZ) tH)∧ae (Kd.R (Kd.int .u64) 25 w' w.heap.size (fun k_=>(w.heap.size≤k_)∧some k_≠((.slice JY Vj.length rZ):Value).ownBlock) (.slice Cb aam.length zJ) kw)∧ae (Below w.heap.size w w'))
 case atStart=>exact⟨(afr),(Vj),(aam),(wrap64 ((aam.length:Int)-1)),z1,H,zL,⟨by (with_reducible repeat (first|apply Kd.jJ|apply Kd.jK|apply Kd.jq));exact Kd.cO Vl.out (fun _ hk=>⟨hk.1.1.1,⟨hk.1.2,hk.2⟩⟩)⟩,⟨by (with_reducible repeat (first|apply Kd.dh|apply Kd.df|apply Kd.dJ));exact Kd.dw Vm.out (fun _ hk=>⟨hk.1.1.1,hk.2⟩)⟩,⟨by (with_reducible repeat (first|apply Kd.dh|apply Kd.df|apply Kd.dJ));exact Kd.dw aje.out (fun _ hk=>⟨hk.1.1.1,hk.2⟩)⟩,⟨zB HB⟩⟩
 clear H
 try clear hx4
 try clear ML
 obtain⟨lC,tH,kw,mF,rfl,H,HK1,yC,mJ,jV,HB⟩:=hrel;have nP:=(Kd.bf yC.out).1;rw[nP]at yC
 (try simp only[nP])
 (try simp only[nP]at mJ)
 (try simp only[nP]at jV)
 have nR:=(Kd.aA mJ.out).1;rw[nR]at mJ
 (try simp only[nR])
 (try simp only[nR]at yC)
 (try simp only[nR]at jV)
 have jI:=(Kd.aA jV.out).1;rw[jI]at jV
 (try simp only[jI])
 (try simp only[jI]at yC)
 (try simp only[jI]at mJ)
 obtain _|k1:=gk
 ·exact zz H rfl
 simp only[bz.l0]at H;replace H:=yH H;rcases H with⟨ac0,H⟩|⟨ac0,H⟩
 ·generalize L6:(wrap64 (mF+(l1.length:Int)):Int)=yg at H
  have ahK:(IntKind.i64.wrap (mF+(l1.length:Int)))=yg:=(cu _).trans L6;replace H:=zid H;obtain⟨LQ,H⟩:=H;replace H:=zi H;obtain⟨c25,H⟩:=H;have UQ:decide ((yg)<(tH.length:Int))=true:=decide_eq_true c25
  (try simp only[nP]at UQ)
  (try simp only[nR]at UQ)
  (try simp only[jI]at UQ)
  clear c25;generalize ajg:(wrap64 ((yg)-1):Int)=YW at H;have awo:(IntKind.i64.wrap ((yg)-1))=YW:=(cu _).trans ajg;replace H:=zid H;obtain⟨DJ,H⟩:=H;replace H:=zi H;obtain⟨c28,H⟩:=H;have zq:decide ((YW)<(tH.length:Int))=true:=decide_eq_true c28
  (try simp only[nP]at zq)
  (try simp only[nR]at zq)
  (try simp only[jI]at zq)
  clear c28;generalize Iq:(wrap64 ((yg)-2):Int)=J6 at H;have ajh:(IntKind.i64.wrap ((yg)-2))=J6:=(cu _).trans Iq;replace H:=zid H;obtain⟨adn,H⟩:=H;replace H:=zi H;obtain⟨c31,H⟩:=H;have LU:decide ((J6)<(tH.length:Int))=true:=decide_eq_true c31
  (try simp only[nP]at LU)
  (try simp only[nR]at LU)
  (try simp only[jI]at LU)
  clear c31;generalize P6:(wrap64 ((l1.length:Int)-1):Int)=WE at H;have awp:(IntKind.i64.wrap ((l1.length:Int)-1))=WE:=(cu _).trans P6
  (try clear ED)
  (try clear UA)
  replace H:=zid H;obtain⟨ahV,H⟩:=H;replace H:=zi H;obtain⟨c34,H⟩:=H;have adX:decide ((WE)<(lC.length:Int))=true:=decide_eq_true c34
  (try simp only[nP]at adX)
  (try simp only[nR]at adX)
  (try simp only[jI]at adX)
  clear c34;generalize aji:(wrap64 ((l1.length:Int)-2):Int)=YX at H;have awq:(IntKind.i64.wrap ((l1.length:Int)-2))=YX:=(cu _).trans aji;replace H:=zid H;obtain⟨UX,H⟩:=H;replace H:=zi H;obtain⟨c37,H⟩:=H;have L9:decide ((YX)<(lC.length:Int))=true:=decide_eq_true c37
  (try simp only[nP]at L9)
  (try simp only[nR]at L9)
  (try simp only[jI]at L9)
  clear c37;replace H:=zo H;obtain⟨afq,A38,H⟩:=H;replace H:=zit H;obtain⟨ait,aiu,H⟩:=H;replace H:=zit H;obtain⟨ajj,aBP,H⟩:=H;replace H:=zit H;obtain⟨adY,ajk,H⟩:=H;replace H:=zo H;obtain⟨⟨aBQ,aBR⟩,A42,H⟩:=H
  try dsimp only at H
  try go_wp2
  replace yC:=am (Kd.jq yC.out);replace mJ:=am (Kd.dJ mJ.out);replace jV:=am (Kd.dJ jV.out);replace HB:=am (aX HB.out);obtain⟨aIN,aIO,J7,rfl,DY⟩:=zA (Kd.dQ (Kd.aA mJ.out).2.2 (yg));have aqd:0≤((YW):Int):=zD;have aqe:(YW)<(tH.length:Int):=zD;obtain⟨aqf,aBS,DZ⟩:=Kd.dQ (Kd.aA mJ.out).2.2 (YW) aqd aqe
  obtain rfl:J7=aqf:=(by injection aBS)
  replace aqd:=eq_true aqd;replace aqe:=eq_true aqe;have aqg:0≤((J6):Int):=zD;have aqh:(J6)<(tH.length:Int):=zD;obtain⟨aqi,aBT,D5⟩:=Kd.dQ (Kd.aA mJ.out).2.2 (J6) aqg aqh
  obtain rfl:J7=aqi:=(by injection aBT)
  replace aqg:=eq_true aqg;replace aqh:=eq_true aqh;obtain⟨aIP,aIQ,MM,rfl,Ir⟩:=zA (Kd.dQ (Kd.bf yC.out).2.2 (WE));have aqj:0≤((YX):Int):=zD;have aqk:(YX)<(lC.length:Int):=zD;obtain⟨aql,aBU,Iu⟩:=Kd.dQ (Kd.bf yC.out).2.2 (YX) aqj aqk
  obtain rfl:MM=aql:=(by injection aBU)
  replace aqj:=eq_true aqj;replace aqk:=eq_true aqk;refine lQ (n:=32) (S:=fun w'=>w'.cell? (J7.add ((yg)).toNat)=some (.int .u64 (rd tH (yg)))∧w'.cell? (J7.add ((YW)).toNat)=some (.int .u64 (rd tH (YW)))∧w'.cell? (J7.add ((J6)).toNat)=some (.int .u64 (rd tH (J6)))∧w'.cell? (MM.add ((WE)).toNat)=some (.int .u64 (rd lC (WE)))∧w'.cell? (MM.add ((YX)).toNat)=some (.int .u64 (rd lC (YX)))) (ds := []) (Array.replicate 32 false) (by kernel_rfl) rfl rfl ⟨DY,DZ,D5,Ir,Iu⟩ (fun hHeld=>?_);refine gU bz.agM bz.Rt (fun HT_ HW_=>?_);generalize wr.drew=w43 at yC mJ jV HB DY DZ D5 Ir Iu hHeld ⊢;refine zp HT_ 0 (some 44) ?_;refine zp HT_ 1 (some 45) ?_;refine zp HT_ 2 (some 46) ?_;refine zp HT_ 3 (some 47) ?_;refine zp HT_ 4 (some 48) ?_;refine zp HT_ 6 (some 50) ?_;refine zp HT_ 7 (some 51) ?_;refine zp HT_ 8 (some 52) ?_;refine zp HT_ 9 (some 53) ?_;refine zp HT_ 10 (some 54) ?_;refine zp HT_ 11 (some 55) ?_;refine zp HT_ 13 (some 57) ?_;refine zp HT_ 14 (some 58) ?_;refine zp HT_ 15 (some 59) ?_;refine zp HT_ 16 (some 60) ?_;refine zp HT_ 17 (some 61) ?_;refine zp HT_ 18 (some 62) ?_;refine zp HT_ 20 (some 64) ?_;refine zp HT_ 21 (some 65) ?_;refine zp HT_ 22 (some 66) ?_;refine zp HT_ 23 (some 67) ?_;refine zp HT_ 25 (some 69) ?_;refine zp HT_ 26 (some 70) ?_;refine zp HT_ 27 (some 71) ?_;refine zp HT_ 28 (some 72) ?_;refine zt HT_ HW_ 5 (some 49) hHeld ?_;refine zt HT_ HW_ 12 (some 56) hHeld ?_;refine zt HT_ HW_ 19 (some 63) hHeld ?_;refine zt HT_ HW_ 24 (some 68) hHeld ?_;refine zt HT_ HW_ 29 (some 73) hHeld ?_;refine zu HT_ 30 (some 74) (fun K hK=>?_);refine o5 Tryz.func192 (by kernel_rfl) rfl #[.int .u64 (rd tH (yg)),.int .u64 (rd tH (YW)),.int .u64 (rd tH (J6)),.int .u64 (rd lC (WE)),.int .u64 (rd lC (YX))] (by rfl) rfl rfl (by (try simp only[List.map_toArray,List.map_cons,List.map_nil]);first|done|(simp only[L6,ajg,Iq,P6,aji];rfl)|rfl|(simp only[List.length_drop,List.length_take];rfl)) ?_
  with_reducible refine (bM.calls k1 (rd tH (yg)) (rd tH (YW)) (rd tH (J6)) (rd lC (WE)) (rd lC (YX)) afq _ A38.out).mono ?_
  rintro e w' ⟨rfl,⟨nd,rfl⟩⟩;refine⟨_,rfl,?_⟩;refine hK.out _ _ ⟨hHeld.1,hHeld.2.1,hHeld.2.2.1,hHeld.2.2.2.1,hHeld.2.2.2.2⟩ (fun hHeld=>?_);clear hK K;refine lI (a':=?_) ?_ ?_;rotate_left
  ·show Act.put _ (some 74) _=_
   simp only[Act.put,List.setIfInBounds_toArray,List.set_cons_zero,List.set_cons_succ,cu,fQ]
   rfl
  refine zp HT_ 31 (some 12) ?_;refine oU (iZ HT_.out (by kernel_rfl)) ?_
  (try (rw[fZ w43];generalize hq_:World.drewN w43 _=w43;have n0_:ae (Kd.R (Kd.int .u64) 25 w43 w.heap.size (fun k_=>(w.heap.size≤k_)∧some k_≠(.slice (some J7) tH.length rZ:Value).ownBlock) (.slice Cb kw.length zJ) kw):=⟨by rw[← hq_];exact (zR jV)⟩;have n1_:ae (Kd.V (Kd.int .u64) 25 w43 w.heap.size (fun k_=>(w.heap.size≤k_)∧some k_≠(.slice Cb kw.length zJ:Value).ownBlock∧some k_≠(.slice (some J7) tH.length rZ:Value).ownBlock) (.slice (some MM) lC.length BX) lC):=⟨by rw[← hq_];exact (by (with_reducible repeat (first|apply Kd.jJ|apply Kd.jK|apply Kd.jq));exact Kd.cO yC.out (fun _ hk=>⟨hk.1,⟨hk.2.2,hk.2.1⟩⟩))⟩;have n2_:ae (Kd.R (Kd.int .u64) 25 w43 w.heap.size (fun k_=>(w.heap.size≤k_)∧some k_≠(.slice Cb kw.length zJ:Value).ownBlock) (.slice (some J7) tH.length rZ) tH):=⟨by rw[← hq_];exact (zR mJ)⟩;have n3_:ae (Below w.heap.size w w43):=⟨by rw[← hq_];exact (zB HB)⟩;clear jV yC mJ HB hq_;have jV:=n0_;have yC:=n1_;have mJ:=n2_;have HB:=n3_;clear n0_ n1_ n2_ n3_))
  have aqm:(0:Int)≤(mF:Int):=zD;have aqn:(mF:Int)<((wrap64 ((yg)+1)):Int):=zD;have q44:((wrap64 ((yg)+1)):Int)≤((tH.length:Int):Int):=zD;obtain⟨J8,adZ,alI,awr,aBV,aIR,aws⟩:=Kd.oH mJ.out (by omega)
  (first|cases alI|(injection alI with ea_ en_ ec_;(first|subst ea_|(injection ea_ with ea_;subst ea_));subst ec_;clear en_))
  have aIS:=am awr;have aIT:=am aws;clear awr aBV aws
  (first|simp only[add_plain]at DY|skip)
  (first|simp only[add_plain]at DZ|skip)
  (first|simp only[add_plain]at D5|skip)
  obtain⟨aIU,ajl,_,ajm,_⟩:=info_parts info25;have Vo:=(Kd.aA mJ.out).2.1;have aqo:=(Kd.aA mJ.out).1;have awt:=Ti (P:=Tryz.prog) 88 25 .i64 .i64 Tryz.underlying88 ajl ajm J8 tH.length rZ mF (wrap64 ((yg)+1)) aqm aqn (by omega) Vo;clear ajl ajm Vo aqo;replace aqm:=eq_true aqm;replace aqn:=eq_true aqn;replace q44:=eq_true q44
  try go_wp2_with (first|((with_reducible refine af (f:=193) rfl ?_);refine jS (some 84) rfl rfl Tryz.func193 (by kernel_rfl) rfl #[.slice (some ⟨J8,(mF:Int).toNat,none⟩) (((wrap64 ((yg)+1)):Int).toNat-(mF:Int).toNat) (rZ-(mF:Int).toNat),.slice (some MM) lC.length BX,.int .u64 afq] rfl (by (try simp only[List.map_toArray,List.map_cons,List.map_nil]);first|done|(simp only[L6];rfl)|rfl|(simp only[List.length_drop,List.length_take];rfl)) ?_;(with_reducible refine (qH.calls _ (fun k_=>some k_=(.slice (some ⟨J8,0,none⟩) tH.length rZ:Value).ownBlock) (.slice (some ⟨J8,0,none⟩) tH.length rZ) _ _ _ _ _ _ _ _ _ w _ ?fE ?kN ?ad1 ?ad2 A42.out).mono ?_);(case fE=>repeat (first|(with_reducible first|exact HB.out|apply bD|apply aK|apply aX)|exact HB.out));(case kN=>exact Kd.jX rfl mJ.out);(case ad1=>exact Kd.Di (yC.out) (fun k_ hk_ hs_=>(hk_.2.2) hs_));(case ad2=>exact (Kd.bf yC.out).2.1);rintro e w45 ⟨rfl,hy0,hb,hkp⟩;refine⟨_,rfl,?_⟩;replace yC:=am (Kd.cO (ok':=fun k_=>(w.heap.size≤k_)∧some k_≠(.slice (some ⟨J8,0,none⟩) tH.length rZ:Value).ownBlock∧some k_≠(.slice Cb kw.length zJ:Value).ownBlock) (Kd.Tf (yC.out) hkp (fun k_ hk_ hs_=>(hk_.2.2) hs_)) (fun k_ hk_=>⟨hk_.1.1,hk_.1.2.2,hk_.1.2.1⟩));replace mJ:=am (Kd.Zu rfl hy0 (fun k_ e_=>mJ.out.1 k_ e_));replace jV:=am (Kd.dw (ok':=fun k_=>(w.heap.size≤k_)∧some k_≠(.slice (some ⟨J8,0,none⟩) tH.length rZ:Value).ownBlock) (Kd.rV (jV.out) hkp (fun k_ hk_ hs_=>(hk_.2) hs_)) (fun k_ hk_=>⟨hk_.1.1,hk_.1.2⟩));replace HB:=am (hb);clear hb hkp hy0))
  go_loopg [12,13] k1 (fun kq v12 v13 w' => ∃ (OE:List Int) (sU:List Int) (qP:List Int) (wH:Int) (Hz:Bool),v12=.int .u64 wH∧v13=.bool Hz∧ae (bz.l1 kq MK (l1.length:Int) OE sU qP mF wH Hz=some (r1,r2))∧ae (kq≤k1)∧ae (Kd.V (Kd.int .u64) 25 w' w.heap.size (fun k_=>(w.heap.size≤k_)∧some k_≠((.slice (some ⟨J8,0,none⟩) tH.length rZ):Value).ownBlock∧some k_≠((.slice Cb kw.length zJ):Value).ownBlock) (.slice (some MM) lC.length BX) OE)∧ae (Kd.R (Kd.int .u64) 25 w' w.heap.size (fun k_=>(w.heap.size≤k_)∧some k_≠((.slice Cb kw.length zJ):Value).ownBlock) (.slice (some ⟨J8,0,none⟩) tH.length rZ) sU)∧ae (Kd.R (Kd.int .u64) 25 w' w.heap.size (fun k_=>(w.heap.size≤k_)∧some k_≠((.slice (some ⟨J8,0,none⟩) tH.length rZ):Value).ownBlock) (.slice Cb kw.length zJ) qP)∧ae (Below w.heap.size w w'))
  case atStart=>exact⟨(lC),(aBR),(kw),(afq),(aBQ),z1,z1,H,zL,⟨by (try simp only[nP]);(try simp only[nR]);(try simp only[jI]);(with_reducible repeat (first|apply Kd.jJ|apply Kd.jK|apply Kd.jq));exact yC.out⟩,⟨by (try simp only[nP]);(try simp only[nR]);(try simp only[jI]);(with_reducible repeat (first|apply Kd.dh|apply Kd.df|apply Kd.dJ));exact mJ.out⟩,⟨by (try simp only[nP]);(try simp only[nR]);(try simp only[jI]);(with_reducible repeat (first|apply Kd.dh|apply Kd.df|apply Kd.dJ));exact jV.out⟩,⟨zB HB⟩⟩
  clear H
  try clear hx4
  try clear aBW
  try clear aBX
  try clear ML
  try clear DY
  try clear DZ
  try clear D5
  try clear Ir
  try clear Iu
  obtain⟨OE,sU,qP,wH,Hz,rfl,rfl,H,HK2,yC,mJ,jV,HB⟩:=hrel;have Aw:=(Kd.bf yC.out).1;rw[Aw]at yC
  (try simp only[Aw])
  (try simp only[Aw]at mJ)
  (try simp only[Aw]at jV)
  have og:=(Kd.aA mJ.out).1;rw[og]at mJ
  (try simp only[og])
  (try simp only[og]at yC)
  (try simp only[og]at jV)
  have uA:=(Kd.aA jV.out).1;rw[uA]at jV
  (try simp only[uA])
  (try simp only[uA]at yC)
  (try simp only[uA]at mJ)
  obtain _|k2:=gk
  ·exact zz H rfl
  simp only[bz.l1]at H
  cases Hz
  replace H:=zb0 H;replace H:=zid H;obtain⟨aBY,H⟩:=H;replace H:=zi H;obtain⟨c54,H⟩:=H;have MN:decide (mF<(qP.length:Int))=true:=decide_eq_true c54
  (try simp only[nP]at MN)
  (try simp only[nR]at MN)
  (try simp only[jI]at MN)
  (try simp only[Aw]at MN)
  (try simp only[og]at MN)
  (try simp only[uA]at MN)
  clear c54;generalize ajn:(qP.set (mF:Int).toNat wH:List Int)=awu at H;have aqp:=zY ajn;clear ajn;have p55:0≤(mF:Int):=zD;have q55:(mF:Int)<((qP.length:Int):Int):=zD;obtain⟨ad3,awv,ajo,aww,aBZ,aIV,awx⟩:=Kd.oH jV.out (by omega)
  (first|cases ajo|(injection ajo with ea_ en_ ec_;(first|subst ea_|(injection ea_ with ea_;subst ea_));subst ec_;clear en_))
  have aB0:=am aww;have aIW:=am awx;clear aww aBZ awx;obtain⟨ajp,awy⟩:=Kd.iQ 0 jV.out (mF:Int) p55 q55;replace p55:=eq_true p55;replace q55:=eq_true q55;have aqr:=Kd.mM jV.out (mF:Int) wH;rotate_left;replace H:=zb1 H;replace H:=zit H;obtain⟨ajq,ajr,H⟩:=H;replace H:=zit H;obtain⟨aqs,aB1,H⟩:=H;replace H:=zit H;obtain⟨aqt,aB2,H⟩:=H;replace H:=zo H;obtain⟨⟨aB3,aB4⟩,A50,H⟩:=H
  try dsimp only at H
  have aqu:(0:Int)≤(mF:Int):=zD;have aqv:(mF:Int)<((wrap64 ((wrap64 (mF+(l1.length:Int)))+1)):Int):=zD;have q51:((wrap64 ((wrap64 (mF+(l1.length:Int)))+1)):Int)≤((sU.length:Int):Int):=zD;obtain⟨aIX,ajs,_,ajt,_⟩:=info_parts info25;have Vp:=(Kd.aA mJ.out).2.1;have aqw:=(Kd.aA mJ.out).1;have aju:=Ti (P:=Tryz.prog) 88 25 .i64 .i64 Tryz.underlying88 ajs ajt J8 sU.length rZ mF (wrap64 ((wrap64 (mF+(l1.length:Int)))+1)) aqu aqv (by omega) Vp;clear ajs ajt Vp aqw
  (try simp only[L6]at aju)
  replace aqu:=eq_true aqu;replace aqv:=eq_true aqv;replace q51:=eq_true q51;rotate_left
  all_goals (go_wp2_with (first|((with_reducible refine fV (t:=25) (p:=101) rfl ?_);refine ed (t:=25) (p:=101) (v:=?awz) (w1:=(wr.setCell ⟨ad3,(mF:Int).toNat,none⟩ (.int .u64 wH))) ?hg ?ho ?hn ?hr ?_;(case ho=>rfl);(case hg=>rfl);(case hn=>rfl);(case hr=>first|(go_simp;done)|(go_simp;rfl));intro w57 hw;have hg:wr.grownBy w57 (some ad3):=(by rw[hw];exact aqr.2);have hp_:Kd.R (Kd.int .u64) 25 w57 w.heap.size (fun k_=>(w.heap.size≤k_)∧some k_≠(.slice (some ⟨J8,0,none⟩) sU.length rZ:Value).ownBlock) (.slice (some ⟨ad3,0,none⟩) qP.length zJ) awu:=(by rw[hw,aqp.out];exact aqr.1);clear aqr;replace yC:=am (Kd.jr (v:=(.slice (some ⟨ad3,0,none⟩) qP.length zJ)) (v1:=(.slice (some ⟨ad3,0,none⟩) qP.length zJ)) (ok:=(fun k_=>(w.heap.size≤k_)∧some k_≠(.slice (some ⟨J8,0,none⟩) sU.length rZ:Value).ownBlock)) (by (with_reducible repeat (first|apply Kd.jJ|apply Kd.jK|apply Kd.jq));exact Kd.cO yC.out (fun _ hk=>⟨⟨hk.1,hk.2.1⟩,hk.2.2⟩)) hg (.inl rfl));replace mJ:=am (Kd.uG (v:=(.slice (some ⟨ad3,0,none⟩) qP.length zJ)) (v1:=(.slice (some ⟨ad3,0,none⟩) qP.length zJ)) (ok:=(fun k_=>(w.heap.size≤k_))) (zR mJ) hg (.inl rfl));replace jV:=am (hp_);replace HB:=am ((by rw[hw];exact bQ (HB.out) aB0.out:Below w.heap.size w w57));clear hg hw hp_)|((with_reducible refine af (f:=194) rfl ?_);refine jS (some 96) rfl rfl Tryz.func194 (by kernel_rfl) rfl #[.slice (some ⟨J8,(mF:Int).toNat,none⟩) (((wrap64 ((wrap64 (mF+(l1.length:Int)))+1)):Int).toNat-(mF:Int).toNat) (rZ-(mF:Int).toNat),.slice (some MM) OE.length BX] rfl (by (try simp only[List.map_toArray,List.map_cons,List.map_nil]);first|done|(simp only[L6];rfl)|rfl|(simp only[List.length_drop,List.length_take];rfl)) ?_;(with_reducible refine (rO.calls _ (fun k_=>some k_=(.slice (some ⟨J8,0,none⟩) sU.length rZ:Value).ownBlock) (.slice (some ⟨J8,0,none⟩) sU.length rZ) _ _ _ _ _ _ _ _ w _ ?fE ?kN ?ad1 ?ad2 A50.out).mono ?_);(case fE=>repeat (first|(with_reducible first|exact HB.out|apply bD|apply aK|apply aX)|exact HB.out));(case kN=>exact Kd.jX rfl mJ.out);(case ad1=>exact Kd.Di (yC.out) (fun k_ hk_ hs_=>(hk_.2.1) hs_));(case ad2=>exact (Kd.bf yC.out).2.1);rintro e w52 ⟨rfl,hy0,hb,hkp⟩;refine⟨_,rfl,?_⟩;replace yC:=am (Kd.cO (ok':=fun k_=>(w.heap.size≤k_)∧some k_≠(.slice (some ⟨J8,0,none⟩) sU.length rZ:Value).ownBlock∧some k_≠(.slice Cb qP.length zJ:Value).ownBlock) (Kd.Tf (yC.out) hkp (fun k_ hk_ hs_=>(hk_.2.1) hs_)) (fun k_ hk_=>⟨hk_.1.1,hk_.1.2.1,hk_.1.2.2⟩));replace mJ:=am (Kd.Zu rfl hy0 (fun k_ e_=>mJ.out.1 k_ e_));replace jV:=am (Kd.dw (ok':=fun k_=>(w.heap.size≤k_)∧some k_≠(.slice (some ⟨J8,0,none⟩) sU.length rZ:Value).ownBlock) (Kd.rV (jV.out) hkp (fun k_ hk_ hs_=>(hk_.2) hs_)) (fun k_ hk_=>⟨hk_.1.1,hk_.1.2⟩));replace HB:=am (hb);clear hb hkp hy0)))
  ·(try simp only[← nP, ← nR, ← jI, ← Aw, ← og, ← uA])
   go_roundg k2
   case measure=>have:=HK1.out;have:=HK2.out;omega
   case rel=>exact⟨(OE),(sU),(awu),(wrap64 (mF-1)),z1,H,⟨by have:=HK1.out;have:=HK2.out;omega⟩,⟨by (try simp only[nP]);(try simp only[nR]);(try simp only[jI]);(try simp only[Aw]);(try simp only[og]);(try simp only[uA]);(with_reducible repeat (first|apply Kd.jJ|apply Kd.jK|apply Kd.jq));exact Kd.cO yC.out (fun _ hk=>⟨hk.1.1,⟨hk.1.2,hk.2⟩⟩)⟩,⟨by (try simp only[nP]);(try simp only[nR]);(try simp only[jI]);(try simp only[Aw]);(try simp only[og]);(try simp only[uA]);(with_reducible repeat (first|apply Kd.dh|apply Kd.df|apply Kd.dJ));exact mJ.out⟩,⟨by (try simp only[nP]);(try simp only[nR]);(try simp only[jI]);(try simp only[Aw]);(try simp only[og]);(try simp only[uA]);(with_reducible repeat (first|apply Kd.dh|apply Kd.df|apply Kd.dJ));exact jV.out⟩,⟨zB HB⟩⟩
  (try simp only[← Aw, ← og, ← uA])
  go_roundg k2
  case measure=>have:=HK1.out;have:=HK2.out;omega
  case rel=>exact⟨(OE),(aB4),(qP),(IntKind.u64.wrap (wH-1)),(!aB3),z1,z1,H,⟨by have:=HK1.out;have:=HK2.out;omega⟩,⟨by (try simp only[nP]);(try simp only[nR]);(try simp only[jI]);(try simp only[Aw]);(try simp only[og]);(try simp only[uA]);(with_reducible repeat (first|apply Kd.jJ|apply Kd.jK|apply Kd.jq));exact yC.out⟩,⟨by (try simp only[nP]);(try simp only[nR]);(try simp only[jI]);(try simp only[Aw]);(try simp only[og]);(try simp only[uA]);(with_reducible repeat (first|apply Kd.dh|apply Kd.df|apply Kd.dJ));exact mJ.out⟩,⟨by (try simp only[nP]);(try simp only[nR]);(try simp only[jI]);(try simp only[Aw]);(try simp only[og]);(try simp only[uA]);(with_reducible repeat (first|apply Kd.dh|apply Kd.df|apply Kd.dJ));exact jV.out⟩,⟨zB HB⟩⟩
 go_wp2
 go_loopg [103] k1 (fun kq aB5 w' => ∃ (sU:List Int) (gZ:Int),aB5=.int .i64 gZ∧ae (bz.l2 kq MK (l1.length:Int) sU kw (l1.length:Int) gZ=some (r1,r2))∧ae (kq≤k1)∧ae (Kd.R (Kd.int .u64) 25 w' w.heap.size (fun k_=>(w.heap.size≤k_)∧some k_≠((.slice Cb kw.length zJ):Value).ownBlock) (.slice JY tH.length rZ) sU)∧ae (Kd.R (Kd.int .u64) 25 w' w.heap.size (fun k_=>(w.heap.size≤k_)∧some k_≠((.slice JY tH.length rZ):Value).ownBlock) (.slice Cb kw.length zJ) kw)∧ae (Below w.heap.size w w'))
 case atStart=>exact⟨(tH),(0),z1,H,zL,⟨by (try simp only[nP]);(try simp only[nR]);(try simp only[jI]);(with_reducible repeat (first|apply Kd.dh|apply Kd.df|apply Kd.dJ));exact mJ.out⟩,⟨by (try simp only[nP]);(try simp only[nR]);(try simp only[jI]);(with_reducible repeat (first|apply Kd.dh|apply Kd.df|apply Kd.dJ));exact jV.out⟩,⟨zB HB⟩⟩
 clear H
 try clear hx4
 try clear hx5
 try clear hf5
 try clear aBW
 try clear aBX
 try clear aB6
 try clear aIY
 try clear ML
 try clear DY
 try clear DZ
 try clear D5
 try clear Ir
 try clear Iu
 try clear ajp
 obtain⟨sU,gZ,rfl,H,HK2,mJ,jV,HB⟩:=hrel;have og:=(Kd.aA mJ.out).1;rw[og]at mJ
 (try simp only[og])
 (try simp only[og]at jV)
 obtain _|k2:=gk
 ·exact zz H rfl
 simp only[bz.l2]at H;replace H:=zs H;rcases H with⟨c58,H⟩|⟨c58,H⟩;have Iw:decide (gZ<(l1.length:Int))=true:=decide_eq_true c58
 (try simp only[nP]at Iw)
 (try simp only[nR]at Iw)
 (try simp only[jI]at Iw)
 (try simp only[og]at Iw)
 clear c58;replace H:=zid H;obtain⟨aB7,H⟩:=H;replace H:=zi H;obtain⟨c60,H⟩:=H;have YY:decide (gZ<(sU.length:Int))=true:=decide_eq_true c60
 (try simp only[nP]at YY)
 (try simp only[nR]at YY)
 (try simp only[jI]at YY)
 (try simp only[og]at YY)
 clear c60;replace H:=zit H;obtain⟨aB8,aB9,H⟩:=H;generalize ajv:(shr .u64 (rd sU gZ) MK:Int)=aan at H;have awC:((rd sU gZ) / 2 ^ min MK.toNat 64)=aan:=ajv;have awD:MK≤64→((rd sU gZ) / 2 ^ MK.toNat)=aan:=kE ajv;obtain⟨EG,Vq,H⟩:=zw H;replace H:=AV H;rcases H with⟨aqx,H⟩|⟨aqx,H⟩;replace H:=zs H;rcases H with⟨c65,H⟩|⟨c65,H⟩;have E5:decide ((wrap64 (gZ+1))<(l1.length:Int))=true:=decide_eq_true c65
 (try simp only[nP]at E5)
 (try simp only[nR]at E5)
 (try simp only[jI]at E5)
 (try simp only[og]at E5)
 clear c65;generalize ad4:(wrap64 (gZ+1):Int)=Qh at H
 (try rw[ad4]at E5)
 have awE:(IntKind.i64.wrap (gZ+1))=Qh:=(cu _).trans ad4;replace H:=zid H;obtain⟨aCa,H⟩:=H;replace H:=zi H;obtain⟨c68,H⟩:=H;have YZ:decide ((Qh)<(sU.length:Int))=true:=decide_eq_true c68
 (try simp only[nP]at YZ)
 (try simp only[nR]at YZ)
 (try simp only[jI]at YZ)
 (try simp only[og]at YZ)
 clear c68;generalize aqy:(wrap64 (64-MK):Int)=ajw at H;have awF:(IntKind.i64.wrap (64-MK))=ajw:=(cu _).trans aqy;replace H:=zit H;obtain⟨aCb,aCc,H⟩:=H;generalize ajx:(shl .u64 (rd EG (Qh)) (ajw):Int)=ajy at H;have awG:(IntKind.u64.wrap ((rd EG (Qh))*2 ^ min (ajw).toNat 64))=ajy:=ajx;have awH:(ajw)≤64→(IntKind.u64.wrap ((rd EG (Qh))*2 ^ (ajw).toNat))=ajy:=iW ajx;generalize ajz:(EG.set (gZ:Int).toNat (Go.bits .or .u64 (rd EG gZ) (ajy)):List Int)=aCd at H;have aqz:=zY ajz;clear ajz;obtain⟨awI,awJ,ajA,rfl,D6⟩:=zA (Kd.dQ (Kd.aA mJ.out).2.2 gZ);have p63:0≤(gZ:Int):=zD;have q63:(gZ:Int)<((sU.length:Int):Int):=zD;obtain⟨D7,ajB,WM,aao,ajC,awK,aap⟩:=Kd.oH mJ.out (by omega)
 (first|cases WM|(injection WM with ea_ en_ ec_;(first|subst ea_|(injection ea_ with ea_;subst ea_));subst ec_;clear en_))
 have ajD:=am aao;have awL:=am aap;clear aao ajC aap
 (first|simp only[add_plain]at D6|skip)
 obtain⟨aaq,aar⟩:=Kd.iQ 0 mJ.out (gZ:Int) p63 q63;replace p63:=eq_true p63;replace q63:=eq_true q63;have aqA:=Kd.mM mJ.out (gZ:Int) aan;rotate_left
 ·have E5:decide ((wrap64 (gZ+1))<(l1.length:Int))=false:=decide_eq_false c65
  (try simp only[nP]at E5)
  (try simp only[nR]at E5)
  (try simp only[jI]at E5)
  (try simp only[og]at E5)
  clear c65;obtain⟨awI,awJ,ajA,rfl,D6⟩:=zA (Kd.dQ (Kd.aA mJ.out).2.2 gZ);have p63:0≤(gZ:Int):=zD;have q63:(gZ:Int)<((sU.length:Int):Int):=zD;obtain⟨D7,ajB,WM,aao,ajC,awK,aap⟩:=Kd.oH mJ.out (by omega)
  (first|cases WM|(injection WM with ea_ en_ ec_;(first|subst ea_|(injection ea_ with ea_;subst ea_));subst ec_;clear en_))
  have ajD:=am aao;have awL:=am aap;clear aao ajC aap
  (first|simp only[add_plain]at D6|skip)
  obtain⟨aaq,aar⟩:=Kd.iQ 0 mJ.out (gZ:Int) p63 q63;replace p63:=eq_true p63;replace q63:=eq_true q63;have aqB:=Kd.mM mJ.out (gZ:Int) aan
  go_wp2_with (first|((with_reducible refine fV (t:=25) (p:=112) rfl ?_);refine ed (t:=25) (p:=112) (v:=?awM) (w1:=(wr.setCell ⟨D7,(gZ:Int).toNat,none⟩ (.int .u64 aan))) ?hg ?ho ?hn ?hr ?_;(case ho=>rfl);(case hg=>rfl);(case hn=>rfl);(case hr=>first|(go_simp;done)|(go_simp;rfl));intro w78 hw;have hg:wr.grownBy w78 (some D7):=(by rw[hw];exact aqB.2);have hp_:Kd.R (Kd.int .u64) 25 w78 w.heap.size (fun k_=>(w.heap.size≤k_)∧some k_≠(.slice Cb kw.length zJ:Value).ownBlock) (.slice (some ⟨D7,0,none⟩) sU.length rZ) EG:=(by rw[hw,Vq.out];exact aqB.1);clear aqB;replace mJ:=am (hp_);replace jV:=am (Kd.uG (v:=(.slice (some ⟨D7,0,none⟩) sU.length rZ)) (v1:=(.slice (some ⟨D7,0,none⟩) sU.length rZ)) (ok:=(fun k_=>(w.heap.size≤k_))) (zR jV) hg (.inl rfl));replace HB:=am ((by rw[hw];exact bQ (HB.out) ajD.out:Below w.heap.size w w78));clear hg hw hp_))
  (try simp only[← og])
  go_roundg k2
  case measure=>have:=HK1.out;have:=HK2.out;omega
  case rel=>exact⟨(EG),(wrap64 (gZ+1)),z1,H,⟨by have:=HK1.out;have:=HK2.out;omega⟩,⟨by (try simp only[nP]);(try simp only[nR]);(try simp only[jI]);(try simp only[og]);(with_reducible repeat (first|apply Kd.dh|apply Kd.df|apply Kd.dJ));exact mJ.out⟩,⟨by (try simp only[nP]);(try simp only[nR]);(try simp only[jI]);(try simp only[og]);(with_reducible repeat (first|apply Kd.dh|apply Kd.df|apply Kd.dJ));exact jV.out⟩,⟨zB HB⟩⟩
 ·obtain⟨awI,awJ,ajA,rfl,D6⟩:=zA (Kd.dQ (Kd.aA mJ.out).2.2 gZ)
  have p63:0≤(gZ:Int):=zD;have q63:(gZ:Int)<((sU.length:Int):Int):=zD;obtain⟨D7,ajB,WM,aao,ajC,awK,aap⟩:=Kd.oH mJ.out (by omega)
  (first|cases WM|(injection WM with ea_ en_ ec_;(first|subst ea_|(injection ea_ with ea_;subst ea_));subst ec_;clear en_))
  have ajD:=am aao;have awL:=am aap;clear aao ajC aap
  (first|simp only[add_plain]at D6|skip)
  obtain⟨aaq,aar⟩:=Kd.iQ 0 mJ.out (gZ:Int) p63 q63;replace p63:=eq_true p63;replace q63:=eq_true q63;have aqC:=Kd.mM mJ.out (gZ:Int) aan
  go_wp2_with (first|((with_reducible refine fV (t:=25) (p:=112) rfl ?_);refine ed (t:=25) (p:=112) (v:=?awN) (w1:=(wr.setCell ⟨D7,(gZ:Int).toNat,none⟩ (.int .u64 aan))) ?hg ?ho ?hn ?hr ?_;(case ho=>rfl);(case hg=>rfl);(case hn=>rfl);(case hr=>first|(go_simp;done)|(go_simp;rfl));intro w80 hw;have hg:wr.grownBy w80 (some D7):=(by rw[hw];exact aqC.2);have hp_:Kd.R (Kd.int .u64) 25 w80 w.heap.size (fun k_=>(w.heap.size≤k_)∧some k_≠(.slice Cb kw.length zJ:Value).ownBlock) (.slice (some ⟨D7,0,none⟩) sU.length rZ) EG:=(by rw[hw,Vq.out];exact aqC.1);clear aqC;replace mJ:=am (hp_);replace jV:=am (Kd.uG (v:=(.slice (some ⟨D7,0,none⟩) sU.length rZ)) (v1:=(.slice (some ⟨D7,0,none⟩) sU.length rZ)) (ok:=(fun k_=>(w.heap.size≤k_))) (zR jV) hg (.inl rfl));replace HB:=am ((by rw[hw];exact bQ (HB.out) ajD.out:Below w.heap.size w w80));clear hg hw hp_))
  (try simp only[← og])
  go_roundg k2
  case measure=>have:=HK1.out;have:=HK2.out;omega
  case rel=>exact⟨(EG),(wrap64 (gZ+1)),z1,H,⟨by have:=HK1.out;have:=HK2.out;omega⟩,⟨by (try simp only[nP]);(try simp only[nR]);(try simp only[jI]);(try simp only[og]);(with_reducible repeat (first|apply Kd.dh|apply Kd.df|apply Kd.dJ));exact mJ.out⟩,⟨by (try simp only[nP]);(try simp only[nR]);(try simp only[jI]);(try simp only[og]);(with_reducible repeat (first|apply Kd.dh|apply Kd.df|apply Kd.dJ));exact jV.out⟩,⟨zB HB⟩⟩
 have Iw:decide (gZ<(l1.length:Int))=false:=decide_eq_false c58
 (try simp only[nP]at Iw)
 (try simp only[nR]at Iw)
 (try simp only[jI]at Iw)
 (try simp only[og]at Iw)
 clear c58;replace H:=zo H;obtain⟨ap7,A81,H⟩:=H;replace H:=zit H;obtain⟨aCe,aCf,H⟩:=H;replace H:=zit H;obtain⟨aCg,aCh,H⟩:=H;generalize ajE:(sU.take ((l1.length:Int):Int).toNat:List Int)=aas at H;have ajF:=zY ajE;clear ajE;replace H:=zo H;obtain⟨ap8,A84,H⟩:=H;obtain⟨rfl,rfl⟩:=zJ2 H;rotate_left
 all_goals (try go_wp2_with (first|((with_reducible refine fV (t:=25) (p:=112) rfl ?_);refine ed (t:=25) (p:=112) (v:=?awO) (w1:=(wr.setCell ⟨D7,(gZ:Int).toNat,none⟩ (.int .u64 aan))) ?hg ?ho ?hn ?hr ?_;(case ho=>rfl);(case hg=>rfl);(case hn=>rfl);(case hr=>first|(go_simp;done)|(go_simp;rfl));intro w74 hw;have hg:wr.grownBy w74 (some D7):=(by rw[hw];exact aqA.2);have hp_:Kd.R (Kd.int .u64) 25 w74 w.heap.size (fun k_=>(w.heap.size≤k_)∧some k_≠(.slice Cb kw.length zJ:Value).ownBlock) (.slice (some ⟨D7,0,none⟩) sU.length rZ) EG:=(by rw[hw,Vq.out];exact aqA.1);clear aqA;replace mJ:=am (hp_);replace jV:=am (Kd.uG (v:=(.slice (some ⟨D7,0,none⟩) sU.length rZ)) (v1:=(.slice (some ⟨D7,0,none⟩) sU.length rZ)) (ok:=(fun k_=>(w.heap.size≤k_))) (zR jV) hg (.inl rfl));replace HB:=am ((by rw[hw];exact bQ (HB.out) ajD.out:Below w.heap.size w w74));clear hg hw hp_)))
 all_goals
  replace mJ:=am (Kd.dJ mJ.out);replace jV:=am (Kd.dJ jV.out);replace HB:=am (aX HB.out)
 ·have aqD:0≤(gZ:Int):=zD
  have aqE:gZ<(EG.length:Int):=(by have h_:(gZ:Int)<((sU.length:Int):Int):=zD;first|(have e_:=(Kd.aA mJ.out).1;omega)|simpa only [Vq.out,List.length_set] using h_)
  have aCi:((gZ:Int)<((sU.length:Int):Int))=True:=eq_true (zD);obtain⟨aqF,aCj,D8⟩:=Kd.dQ (Kd.aA mJ.out).2.2 gZ aqD aqE
  obtain rfl:(⟨D7,0,none⟩:Addr)=aqF:=(by injection aCj)
  (first|simp only[add_plain]at D8|simp only[NH]at D8|simp only[Addr.add,Nat.zero_add]at D8|skip)
  replace aqD:=eq_true aqD;replace aqE:=eq_true aqE;have aqG:0≤((Qh):Int):=zD
  have aqH:(Qh)<(EG.length:Int):=(by have h_:((Qh):Int)<((sU.length:Int):Int):=zD;first|(have e_:=(Kd.aA mJ.out).1;omega)|simpa only [Vq.out,List.length_set] using h_)
  have aCk:(((Qh):Int)<((sU.length:Int):Int))=True:=eq_true (zD);obtain⟨aqI,aCl,D9⟩:=Kd.dQ (Kd.aA mJ.out).2.2 (Qh) aqG aqH
  obtain rfl:(⟨D7,0,none⟩:Addr)=aqI:=(by injection aCl)
  (first|simp only[add_plain]at D9|simp only[NH]at D9|simp only[Addr.add,Nat.zero_add]at D9|skip)
  replace aqG:=eq_true aqG;replace aqH:=eq_true aqH;have p72:0≤(gZ:Int):=zD;have q72:(gZ:Int)<((sU.length:Int):Int):=zD;obtain⟨ajG,ajH⟩:=Kd.iQ 0 mJ.out (gZ:Int) p72 q72;replace p72:=eq_true p72;replace q72:=eq_true q72;have aqJ:=Kd.N7 mJ.out (gZ:Int) (Go.bits .or .u64 (rd EG gZ) (ajy));rw[← aqz.out]at aqJ;have awP:=am aqJ;clear aqJ;refine lQ (n:=15) (S:=fun w'=>w'.cell? ⟨D7,(gZ).toNat,none⟩=some (.int .u64 (rd EG gZ))∧w'.cell? ⟨D7,((Qh)).toNat,none⟩=some (.int .u64 (rd EG (Qh)))) (ds := [14]) (Array.replicate 15 false) (by kernel_rfl) rfl rfl ⟨D8,D9⟩ (fun hHeld=>?_);refine gU bz.abg bz.RN (fun HT_ HW_=>?_);generalize w74.drew=w75 at mJ jV HB awP ajH D8 D9 ajG hHeld ⊢;refine zp HT_ 0 (some 121) ?_;refine zp HT_ 1 (some 122) ?_;refine zp HT_ 2 (some 123) ?_;refine zp HT_ 4 (some 125) ?_;refine zp HT_ 5 (some 126) ?_;refine zp HT_ 6 (some 127) ?_;refine zp HT_ 7 (some 128) ?_;refine zp HT_ 9 (some 130) ?_;refine zp HT_ 10 (some 131) ?_;refine zt HT_ HW_ 3 (some 124) hHeld ?_;refine zt HT_ HW_ 8 (some 129) hHeld ?_;refine zp HT_ 11 (some 132) ?_;refine zp HT_ 12 (some 133) ?_;refine zp HT_ 13 (some 134) ?_;refine LC (i:=14) (N:=none) #[true,true,true,true,true,true,true,true,true,true,true,true,true,true,true] rfl rfl (AP HT_.out (by kernel_rfl)) (by decide) (fun K hK=>?_);refine vW (w1:=?_) (by rfl) rfl ?_ ?_;rotate_left
  ·go_simp
   rfl
  refine hK.out _ _ ?_;clear hK K;refine oU (iZ HT_.out (by kernel_rfl)) ?_
  try go_wp2
  (try simp only[← og])
  go_roundg k2
  case measure=>have:=HK1.out;have:=HK2.out;omega
  case rel=>exact⟨(aCd),(Qh),(by first|rfl|(simp;done)|(simp only[← ad4] <;> (first|rfl|simp))|(simp[*];done)),H,⟨by have:=HK1.out;have:=HK2.out;omega⟩,⟨by (try simp only[nP]);(try simp only[nR]);(try simp only[jI]);(try simp only[og]);(with_reducible repeat (first|apply Kd.dh|apply Kd.df|apply Kd.dJ));exact awP.out⟩,⟨by (try simp only[nP]);(try simp only[nR]);(try simp only[jI]);(try simp only[og]);(with_reducible repeat (first|apply Kd.dh|apply Kd.df|apply Kd.dJ));exact Kd.dw (Kd.mZ (p:=⟨D7,(gZ:Int).toNat,none⟩) (Kd.dw jV.out (fun k_ hk=>(⟨hk,fun e_=>hk.2 (by rw[e_];rfl)⟩:_∧k_≠D7))) (fun _ hk=>hk.2) (.int .u64 (Go.bits .or .u64 (rd EG gZ) (ajy)))) (fun _ hk=>⟨hk.1.1,hk.1.2⟩)⟩,⟨zB HB⟩⟩
 have q86:((l1.length:Int):Int)≤((sU.length:Int):Int):=zD;obtain⟨aIZ,ajI,_,aqK,_⟩:=info_parts info25;have Vr:sU.length≤rZ:=(Kd.aA mJ.out).2.1;have awQ:Kd.F (Kd.int .u64) _ _ JY sU.length sU:=(Kd.Wy (base:=w.heap.size) (Kd.R_V mJ.out)).2.2;have ajJ:=LD (P:=Tryz.prog) 88 25 .i64 .i64 Tryz.underlying88 ajI JY sU.length rZ (l1.length:Int) (zD) q86 Vr;have aqL:=Kd.Jb (m:=((l1.length:Int):Int).toNat) awQ (by omega)
 have aqM:aas.length=((l1.length:Int):Int).toNat:=(by rw[ajF.out,List.length_take];omega)
 rw[← ajF.out]at aqL;rw[← aqM]at ajJ;have Qi:=am (show Kd.V (Kd.int .u64) 25 _ w.heap.size _ (.slice JY aas.length aas.length) aas from Kd.IL (Nat.le_refl _) aqL);have aCm:=am (Nat.le_refl aas.length);clear aqL awQ Vr ajI aqK;have aI0:=am aqM;clear aqM;replace q86:=eq_true q86;refine lQ (n:=9) (S:=fun w'=>True) (ds := []) (Array.replicate 9 false) (by kernel_rfl) rfl rfl trivial (fun hHeld=>?_);refine gU bz.amA bz.afK (fun HT_ HW_=>?_);generalize wr.drew=w85 at mJ jV HB Qi hHeld ⊢;refine zp HT_ 0 (some 136) ?_;refine zp HT_ 2 (some 138) ?_;refine zp HT_ 3 (some 139) ?_;refine zp HT_ 4 (some 140) ?_;refine zp HT_ 5 (some 141) ?_;refine zu HT_ 1 (some 137) (fun K hK=>?_);refine o5 Tryz.func103 (by kernel_rfl) rfl #[.slice Cb kw.length zJ] (by rfl) rfl rfl (by (try simp only[List.map_toArray,List.map_cons,List.map_nil]);first|done|rfl|(simp only[List.length_drop,List.length_take];rfl)) ?_
 with_reducible refine (bG.calls k2 (fun k_=>some k_=(.slice Cb kw.length zJ:Value).ownBlock) _ _ kw ap7 _ ?fE A81.out).mono ?_
 (case fE=>exact Kd.R_V (Kd.jX rfl (jV.out)))
 rintro e w87 ⟨aI1,rfl,ho0,hb⟩;refine⟨_,rfl,?_⟩;replace Qi:=zVb Qi hb;have ad5:=am (Kd.dV (Kd.cO (ok':=fun k_=>(w.heap.size≤k_)∧some k_≠(.slice JY sU.length rZ:Value).ownBlock) ho0 (fun k_ hk_=>⟨Or.elim hk_ (fun hs_=>((jV.out).1 k_ hs_.symm).1) (fun hn_=>(Nat.le_trans (zS HB) hn_)),Or.elim hk_ (fun hs_=>((jV.out).1 k_ hs_.symm).2) (fun hn_=>(Kd.fresh' (Kd.ql (zR mJ)) k_ hn_))⟩)) (zS HB));replace mJ:=zRb mJ hb;replace jV:=zRb jV hb;replace HB:=zBs HB hb
 (try clear hb)
 (try clear hb2)
 (try clear hk)
 (try clear hi)
 (try clear ho0)
 refine hK.out _ _ trivial (fun hHeld=>?_);clear hK K;refine lI (a':=?_) ?_ ?_;rotate_left
 ·show Act.put _ (some 137) _=_
  simp only[Act.put,List.setIfInBounds_toArray,List.set_cons_zero,List.set_cons_succ,cu,fQ]
  rfl
 refine zu HT_ 6 (some 142) (fun K hK=>?_);refine o5 Tryz.func103 (by kernel_rfl) rfl #[.slice JY aas.length aas.length] (by rfl) rfl rfl (by (try simp only[List.map_toArray,List.map_cons,List.map_nil]);first|done|rfl|(simp only[List.length_drop,List.length_take];rfl)) ?_
 with_reducible refine (bG.calls k2 (fun k_=>((w.heap.size≤k_)∧some k_≠(.slice Cb kw.length zJ:Value).ownBlock)) _ _ aas ap8 _ ?fE A84.out).mono ?_
 (case fE=>exact Qi.out)
 rintro e w88 ⟨aI2,rfl,ho0,hb⟩;refine⟨_,rfl,?_⟩;replace mJ:=zRb mJ hb;replace Qi:=zVb Qi hb;replace ad5:=zVb ad5 hb;have aqN:=am (Kd.dV (Kd.cO (ok':=fun k_=>(w.heap.size≤k_)∧some k_≠(.slice Cb kw.length zJ:Value).ownBlock) ho0 (fun k_ hk_=>⟨Or.elim hk_ (fun hs_=>hs_.1) (fun hn_=>(Nat.le_trans (zS HB) hn_)),Or.elim hk_ (fun hs_=>hs_.2) (fun hn_=>(Kd.fresh' (Kd.ql (zR jV)) k_ hn_))⟩)) (zS HB));replace jV:=zRb jV hb;replace HB:=zBs HB hb
 (try clear hb)
 (try clear hb2)
 (try clear hk)
 (try clear hi)
 (try clear ho0)
 refine hK.out _ _ trivial (fun hHeld=>?_);clear hK K;refine lI (a':=?_) ?_ ?_;rotate_left
 ·show Act.put _ (some 142) _=_
  simp only[Act.put,List.setIfInBounds_toArray,List.set_cons_zero,List.set_cons_succ,cu,fQ]
  rfl
 refine zp HT_ 7 (some 4) ?_;refine zp HT_ 8 (some 5) ?_;refine oU (iZ HT_.out (by kernel_rfl)) ?_
 try go_wp2
 go_ret2
 exact⟨_,_,by first|exact z3|(simp only[← ED, ← HY];exact z3)|exact z2,by (with_reducible repeat (first|apply Kd.jJ|apply Kd.jK|apply Kd.jq));exact Kd.cO ad5.out (fun _ hk=>hk.1),by (with_reducible repeat (first|apply Kd.jJ|apply Kd.jK|apply Kd.jq));exact Kd.cO aqN.out (fun _ hk=>hk.1),zB HB⟩
end Go.Proofs.Yy.PTx
end
