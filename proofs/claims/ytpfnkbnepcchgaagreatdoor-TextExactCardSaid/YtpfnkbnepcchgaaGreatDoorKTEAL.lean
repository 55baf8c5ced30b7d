/- Part 12 of what the proof needs. -/
import Derived.Test.YtpfnkbnepcchgaaGreatDoorKTEAK
set_option linter.unusedSimpArgs false
set_option linter.unusedVariables false
section
set_option maxHeartbeats 8000000
set_option maxRecDepth 100000
namespace Go.Proofs.Yy.PTx
open Go.RowKit Go.Proofs.Yy.Z Go.Proofs.Yw.PrintWords Go.Proofs.Yw.PrintLast Go.Proofs.Yw.PrintMore
open Go.Proofs.Yy.M
attribute [local go_sem] dw dQ lD lF lC lG
attribute [local go_sem] gy gz ja jc fC fD gQ gK
def dh.l0:Nat→Int→List Int→List Int→Int→Int→Option (List Int)
  | 0,_,_,_,_,_=>none
  | k+1,x1,x5,x12,x13,x14=>if x14<x13 then (if 0≤x14 then (if x14<(x12.length:Int) then (if x14<(x5.length:Int) then (if 0≤x1 then ((some (x5.set (x14:Int).toNat (Go.bits .or .u64 (rd x5 x14) (shl .u64 (rd x12 x14) x1)):List Int)).bind fun ad9=>(if x1 > 0 then (if 0≤(wrap64 (64 - x1)) then (if 0≤(wrap64 (x14+1)) then (if (wrap64 (x14+1))<(x5.length:Int) then (dh.l0 k x1 (ad9.set ((wrap64 (x14+1)):Int).toNat (shr .u64 (rd x12 x14) (wrap64 (64 - x1)))) x12 x13 (wrap64 (x14+1))) else (none)) else (none)) else (none)) else (dh.l0 k x1 ad9 x12 x13 (wrap64 (x14+1))))) else (none)) else (none)) else (none)) else (none)) else (some x5)
def dh.f (k:Nat) (l0:List Int) (a1:Int):Option (List Int):=if 0≤(wrap64 ((l0.length:Int)+1)) then (if (wrap64 ((l0.length:Int)+1):Int).toNat≤35184372088832 then (dh.l0 k a1 (List.replicate (wrap64 ((l0.length:Int)+1):Int).toNat 0) l0 (l0.length:Int) 0) else (none)) else (none)
def dh.T5:Bool × List (List Nat × List Nat):=(true, [([], []),([], []),([0,1], [0,1]),([2], [2]),([], []),([], []),([4,5], [4,5]),([3,6], [3,6]),([0,1,0,1,2,3,4,5,6,7], [0,1]),([8,7,0,1,2,3,4,5,6,7], [7,8])])
def dh.B5:List Nat := [0,0,3,7,0,0,48,127,255,511]
theorem dh.ae1:rW .any (opsOf Tryz.f104 5)=dh.T5:=by kernel_rfl
theorem dh.Rl:jB dh.T5.2 dh.B5=true:=by kernel_rfl
theorem dh.calls (k:Nat) (A0:Option Addr) (c0:Nat) (l0:List Int) (a1:Int) (r:List Int) (w:World) (hr0:Kd.C (Kd.int .u64) w A0 l0.length l0) (hc0:l0.length≤c0) (h:dh.f k l0 a1=some r) :
    Calls Tryz.prog 104 #[.slice A0 l0.length c0, .int .i64 a1] w fun e w' => ∃ v0_:Value,e = .returned (v0_)∧Kd.R (Kd.int .u64) 25 w' w.heap.size (fun _=>True) v0_ r∧Below w.heap.size w w':=by
 have HR0:=am hr0
 have HC0:=am hc0
 clear hr0 hc0
 have HB:=am (Below.refl w.heap.size w)
 have H:=am h
 unfold dh.f at H
 clear h
 generalize JC:(wrap64 ((l0.length:Int)+1):Int)=ji3 at H
 have YL:(IntKind.i64.wrap ((l0.length:Int)+1))=ji3:=(bI _).trans JC
 replace H:=zit H
 obtain ⟨kM,rY,H⟩:=H
 replace H:=zit H
 obtain ⟨rG,xw,H⟩:=H
 generalize hy160:(List.replicate (ji3:Int).toNat 0:List Int)=y160 at H
 have ahk:=zY hy160
 clear hy160
 go_enter Tryz.func104,Tryz.ntmps104
 go_wp2_with (first|((with_reducible refine ay (N:=11) rfl ?_);refine Kd.vw (Kd.int .u64) _ 25 rfl (N:=11) rfl 88 _ _ rfl ji3 (by first|rfl|(simp only [List.length_drop,List.length_take];rfl)) (by first|rfl|(simp only [List.length_drop,List.length_take];rfl)) Tryz.underlying88 (.int .u64 0) 8 info25 rfl (by decide) (by omega) 0 (ok:=fun _=>True) (okp:=fun _=>True) rfl (fun _ hk=>hk) trivial (zD) (Nat.le_trans (Nat.mul_le_mul_right _ (zD:ji3.toNat≤35184372088832)) (by omega)) (Below.refl _ _) (Nat.le_refl _) ?_;intro azb w6 ho7 hb hg_ jf;clear hg_ jf;(first|rw [← ahk.out] at ho7|(simp only [Int.reduceToNat] at ho7;rw [← ahk.out] at ho7));have aol:=am (Kd.eP ho7 (zS HB));replace HB:=zBs HB hb;clear hb ho7))
 go_loopg [14] k (fun kq v14 w' => ∃ (ig:List Int) (jk:Int),v14 = .int .i64 jk∧ae (dh.l0 kq a1 ig l0 (l0.length:Int) jk=some r)∧ae (kq≤k)∧ae (Kd.R (Kd.int .u64) 25 w' w.heap.size (fun _=>True) azb ig)∧ae (Below w.heap.size w w'))
 case atStart=>exact ⟨(y160),(0),z1,H,zL,⟨zR aol⟩,⟨zB HB⟩⟩
 clear H
 obtain ⟨ig,jk,rfl,H,HK1,fA,HB⟩:=hrel
 obtain _|k1:=gk
 ·exact zz H rfl
 simp only [dh.l0] at H
 replace H:=zsd H
 rcases H with ⟨uD,H⟩|⟨uD,H⟩
 replace H:=zid H
 obtain ⟨yI,H⟩:=H
 replace H:=zid H
 obtain ⟨qx,H⟩:=H
 replace H:=zid H
 obtain ⟨mY,H⟩:=H
 replace H:=zit H
 obtain ⟨nO,rH,H⟩:=H
 generalize qw:(shl .u64 (rd l0 jk) a1:Int)=qj at H
 have U0:(IntKind.u64.wrap ((rd l0 jk) * 2 ^ min a1.toNat 64))=qj:=qw
 have ZN:a1≤64→(IntKind.u64.wrap ((rd l0 jk) * 2 ^ a1.toNat))=qj:=iR qw
 obtain ⟨ad9,aom,H⟩:=zw H
 replace H:=Em H
 rcases H with ⟨Bf,H⟩|⟨Bf,H⟩
 generalize JA:(wrap64 (64 - a1):Int)=LX at H
 have agC:(IntKind.i64.wrap (64 - a1))=LX:=(bI _).trans JA
 replace H:=zit H
 obtain ⟨Dk,U8,H⟩:=H
 generalize uJ:(shr .u64 (rd l0 jk) (LX):Int)=Dq at H
 have OB:((rd l0 jk) / 2 ^ min (LX).toNat 64)=Dq:=uJ
 have ZO:(LX)≤64→((rd l0 jk) / 2 ^ (LX).toNat)=Dq:=jT uJ
 generalize sO:(wrap64 (jk+1):Int)=FM at H
 have agI:(IntKind.i64.wrap (jk+1))=FM:=(bI _).trans sO
 replace H:=zid H
 obtain ⟨Vh,H⟩:=H
 replace H:=zid H
 obtain ⟨Ae,H⟩:=H
 generalize ahl:(ad9.set ((FM):Int).toNat (Dq):List Int)=atG at H
 have aon:=zY ahl
 clear ahl
 have acH:0≤(jk:Int):=zD
 have acI:jk<(l0.length:Int):=zD
 obtain ⟨aoo,aop,xH⟩:=Kd.dH HR0.out jk acH acI
 cases aop
 replace xH:=(HB.out.cell (World.block_lt_of_cell? w _ xH)).trans xH
 replace acH:=eq_true acH
 replace acI:=eq_true acI
 rotate_left
 have acH:0≤(jk:Int):=zD
 have acI:jk<(l0.length:Int):=zD
 obtain ⟨aoo,aop,xH⟩:=Kd.dH HR0.out jk acH acI
 cases aop
 replace xH:=(HB.out.cell (World.block_lt_of_cell? w _ xH)).trans xH
 replace acH:=eq_true acH
 replace acI:=eq_true acI
 rotate_left
 ·obtain rfl:=Option.some.inj H.out
  go_wp2
  go_ret
  exact ⟨_,by first|exact z3|(simp only [← JC];exact z3)|exact z2,zR fA,zB HB⟩
 all_goals (try go_wp2)
 all_goals
  replace fA:=am (Kd.dY fA.out)
  replace HB:=am (aZ HB.out)
  obtain ⟨WS,Q3,Qu⟩:=Kd.eF fA.out
  (first|subst Qu|(injection Qu with f1_ f2_ f3_;have f4_:=f1_.symm;have f5_:=f3_.symm;clear f1_ f2_ f3_;subst f4_;subst f5_))
  obtain ⟨aGv,aGw,azc,rfl,Hg⟩:=zA (Kd.dH (Kd.aW fA.out).2.2 jk)
  have p14:0≤(jk:Int):=zD
  have q14:(jk:Int)<((ig.length:Int):Int):=zD
  obtain ⟨ZV,alN,adX,atH,azd,aGx,atI⟩:=Kd.oD fA.out (by omega)
  (first|cases adX|(injection adX with ea_ en_ ec_;(first|subst ea_|(injection ea_ with ea_;subst ea_));subst ec_;clear en_))
  have aze:=am atH
  have atJ:=am atI
  clear atH azd atI
  (first|simp only [add_plain] at Hg|skip)
  obtain ⟨ZW,ZX⟩:=Kd.iI 0 fA.out (jk:Int) p14 q14
  replace p14:=eq_true p14
  replace q14:=eq_true q14
  have acG:=Kd.NF fA.out (jk:Int) (Go.bits .or .u64 (rd ig jk) (qj))
  rw [← aom.out] at acG
  have aj3:=am acG
  clear acG
  refine ny (n:=10) (S:=fun w'=>w'.cell? ⟨ZV,(jk).toNat,none⟩=some (.int .u64 (rd ig jk))) (ds := [9]) (Array.replicate 10 false) (by kernel_rfl) rfl rfl (Hg) (fun hHeld=>?_);refine iw dh.ae1 dh.Rl (fun HT_ HW_=>?_)
 ·generalize wr.drew=w23 at fA HB atJ aj3 ZX ZW Hg hHeld ⊢
  refine zp HT_ 0 (some 19) ?_
  refine zp HT_ 1 (some 20) ?_
  refine zp HT_ 2 (some 21) ?_
  refine zp HT_ 4 (some 23) ?_
  refine zp HT_ 5 (some 24) ?_
  refine zp HT_ 6 (some 25) ?_
  refine zt HT_ HW_ 3 (some 22) hHeld ?_
  refine zp HT_ 7 (some 26) ?_
  refine zp HT_ 8 (some 27) ?_
  refine KE (i:=9) (N:=none) #[true,true,true,true,true,true,true,true,true,true] rfl rfl (Aq HT_.out (by kernel_rfl)) (by decide) (fun K hK=>?_)
  refine vK (w1:=?_) (by rfl) rfl ?_ ?_
  rotate_left
  ·go_simp
   rfl
  refine hK.out _ _ ?_
  clear hK K
  refine o6 (jd HT_.out (by kernel_rfl)) ?_
  have n0_:ae (Kd.R (Kd.int .u64) 25 (w23.setCell ⟨ZV,(jk:Int).toNat,none⟩ (.int .u64 (Go.bits .or .u64 (rd ig jk) (qj)))) w.heap.size (fun _=>True) (.slice (some ⟨ZV,0,none⟩) ig.length Q3) ad9):=⟨zR aj3⟩
  have n1_:ae (Below w.heap.size w (w23.setCell ⟨ZV,(jk:Int).toNat,none⟩ (.int .u64 (Go.bits .or .u64 (rd ig jk) (qj))))):=⟨zB HB⟩
  (try clear fA)
  (try clear HB)
  generalize (w23.setCell ⟨ZV,(jk:Int).toNat,none⟩ (.int .u64 (Go.bits .or .u64 (rd ig jk) (qj))))=w26 at n0_ n1_ ⊢
  have fA:=n0_
  have HB:=n1_
  clear n0_ n1_
  have p22:0≤((FM):Int):=zD
  have q22:((FM):Int)<((ig.length:Int):Int):=zD
  obtain ⟨atK,atL⟩:=Kd.iI 0 fA.out ((FM):Int) p22 q22
  replace p22:=eq_true p22
  replace q22:=eq_true q22
  obtain ⟨azf,azg⟩:=Kd.iI 0 fA.out ((FM):Int) (zD) (zD)
  have J3:=Kd.mD fA.out ((FM):Int) Dq
  try go_wp2_with (first|((with_reducible refine eQ (t:=25) (p:=37) rfl ?_);refine dU (t:=25) (p:=37) (v:=?UV) (w1:=(w26.setCell ⟨ZV,((FM):Int).toNat,none⟩ (.int .u64 Dq))) ?hg ?ho ?hn ?hr ?_;(case ho=>rfl);(case hg=>rfl);(case hn=>rfl);(case hr=>first|(go_simp;done)|(go_simp;rfl));intro w28 hw;have hg:w26.grownBy w28 (some ZV):=(by rw [hw];exact J3.2);have hp_:Kd.R (Kd.int .u64) 25 w28 w.heap.size (fun _=>True) (.slice (some ⟨ZV,0,none⟩) ig.length Q3) atG:=(by rw [hw,aon.out];exact J3.1);clear J3;replace fA:=am (hp_);replace HB:=am ((by rw [hw];exact bu (HB.out) aze.out:Below w.heap.size w w28));clear hg hw hp_))
  go_roundg k1
  case measure=>have:=HK1.out;omega
  case rel=>exact ⟨(atG),(FM),(by first|rfl|(simp;done)|(simp only [← sO] <;> (first|rfl|simp))|(simp [*];done)),H,(zH HK1),⟨zR fA⟩,⟨zB HB⟩⟩
 generalize wr.drew=w29 at fA HB atJ aj3 ZX ZW Hg hHeld ⊢
 refine zp HT_ 0 (some 19) ?_
 refine zp HT_ 1 (some 20) ?_
 refine zp HT_ 2 (some 21) ?_
 refine zp HT_ 4 (some 23) ?_
 refine zp HT_ 5 (some 24) ?_
 refine zp HT_ 6 (some 25) ?_
 refine zt HT_ HW_ 3 (some 22) hHeld ?_
 refine zp HT_ 7 (some 26) ?_
 refine zp HT_ 8 (some 27) ?_
 refine KE (i:=9) (N:=none) #[true,true,true,true,true,true,true,true,true,true] rfl rfl (Aq HT_.out (by kernel_rfl)) (by decide) (fun K hK=>?_)
 refine vK (w1:=?_) (by rfl) rfl ?_ ?_
 rotate_left
 ·go_simp
  rfl
 refine hK.out _ _ ?_
 clear hK K
 refine o6 (jd HT_.out (by kernel_rfl)) ?_
 try go_wp2
 go_roundg k1
 case measure=>have:=HK1.out;omega
 case rel=>exact ⟨(ad9),(wrap64 (jk+1)),z1,H,(zH HK1),⟨zR aj3⟩,⟨zB HB⟩⟩
def lH.f (k:Nat) (l0:List Int) (a1:Int):Option (List Int × Option Int):=if a1<0 then (some (([]:List Int),some 1)) else (if a1 > 65536 then (some (([]:List Int),some 3)) else ((bG.f k l0).bind fun t167=>(if (t167.length:Int)=0 then (some (([]:List Int),none)) else (if 0≤(wrap64 (Int.tdiv a1 64)) then (if (wrap64 (Int.tdiv a1 64):Int).toNat≤35184372088832 then ((some (List.replicate (wrap64 (Int.tdiv a1 64):Int).toNat 0:List Int)).bind fun acJ=>((dh.f k t167 (Int.tmod a1 64)).bind fun t173=>(if acJ.length+t173.length<17592186044416 then ((bG.f k (acJ ++ t173)).bind fun aoq=>(some (aoq,none))) else (none)))) else (none)) else (none)))))
def lH.T8:Bool × List (List Nat × List Nat):=(true, [([], []),([0], [0]),([1,1], [1]),([], []),([], []),([4], [4]),([3,5], [3,5]),([2,6,6], [2,6]),([7,7], [7]),([8,8,0,1,2,3,4,5,6,7,8], [8]),([9,0,1,2,3,4,5,6,7,8,9], [])])
def lH.B8:List Nat := [0,1,3,0,0,16,56,127,255,511,1023]
theorem lH.awQ:rW .any (opsOf Tryz.f49 8)=lH.T8:=by kernel_rfl
theorem lH.akX:jB lH.T8.2 lH.B8=true:=by kernel_rfl
theorem lH.calls (k:Nat) (P0_:Nat→Prop) (A0:Option Addr) (c0:Nat) (l0:List Int) (a1:Int) (r1:List Int) (r2:Option Int) (w:World) (hs0:Kd.V (Kd.int .u64) 25 w w.heap.size (fun k_=>P0_ k_) (.slice A0 l0.length c0) l0) (h:lH.f k l0 a1=some (r1,r2)) :
    Calls Tryz.prog 49 #[.slice A0 l0.length c0, .int .i64 a1] w fun e w' => ∃ v0_:Value,e = .returned (.tuple #[v0_,qm r2])∧Kd.V (Kd.int .u64) 25 w' w.heap.size (fun k_=>(P0_ k_∨w.heap.size≤k_)) v0_ r1∧Below w.heap.size w w':=by
 have yL:=Tryz.underlying27
 have hu64:=Tryz.underlying64
 have HO0:=am (show Kd.V (Kd.int .u64) 25 w w.heap.size (fun k_=>(P0_ k_∨w.heap.size≤k_)) (.slice A0 l0.length c0) l0 from Kd.bD hs0 (fun k_ hk => .inl hk))
 have HB:=am (Below.refl w.heap.size w)
 have H:=am h
 unfold lH.f at H
 clear h
 replace H:=zsd H
 rcases H with ⟨pg,H⟩|⟨pg,H⟩
 obtain ⟨rfl,rfl⟩:=zJ2 H
 rotate_left
 replace H:=Em H
 rcases H with ⟨kM,H⟩|⟨kM,H⟩
 obtain ⟨rfl,rfl⟩:=zJ2 H
 rotate_left
 replace H:=zo H
 obtain ⟨t167,A5,H⟩:=H
 replace H:=zsk H
 rcases H with ⟨rF,Bg,H⟩|⟨rF,Bg,c6,H⟩
 obtain ⟨rfl,rfl⟩:=zJ2 H
 rotate_left
 ·have aGy:¬ (t167 = []):=fun h_=>c6 (by rw [h_];rfl)
  generalize Q4:(wrap64 (Int.tdiv a1 64):Int)=ji9 at H
  (try rw [Q4] at A5)
  have azh:(IntKind.i64.wrap (Int.tdiv a1 64))=ji9:=(bI _).trans Q4
  replace H:=zit H
  obtain ⟨qx,xx,H⟩:=H
  replace H:=zit H
  obtain ⟨mY,tN,H⟩:=H
  obtain ⟨acJ,YP,H⟩:=zw H
  replace H:=zo H
  obtain ⟨t173,A12,H⟩:=H
  replace H:=zil H
  obtain ⟨aor,H⟩:=H
  generalize ahm:(acJ ++ t173:List Int)=aos at H
  have aot:=zY ahm
  clear ahm
  replace H:=zo H
  obtain ⟨aoq,A14,H⟩:=H
  obtain ⟨rfl,rfl⟩:=zJ2 H
  go_enter Tryz.func49,Tryz.ntmps49
  try go_wp2_with (first|((with_reducible refine af (f:=103) rfl ?_);refine zc (some 13) Tryz.func103 #[.slice A0 l0.length c0] (bG.calls _ (fun k_=>(P0_ k_∨w.heap.size≤k_)) _ _ _ _ _ HO0.out A5.out) ?_;rintro e w15 ⟨v168,rfl,ho0,hb⟩;refine ⟨_,rfl,?_⟩;replace HO0:=zVb HO0 hb;have ql:=am (Kd.df (Kd.bD (ok':=fun k_=>(P0_ k_∨w.heap.size≤k_)) ho0 (fun k_ hk_=>Or.elim hk_ (fun hs_=>hs_) (fun hn_=>(.inr (Nat.le_trans (zS HB) hn_))))) (zS HB));replace HB:=zBs HB hb;clear hb ho0;obtain ⟨Ez,Ad,LW⟩:=Kd.dG ql.out;subst LW))
  replace HO0:=am (Kd.iQ HO0.out)
  replace ql:=am (Kd.iQ ql.out)
  replace HB:=am (aZ HB.out)
  refine ny (n:=11) (S:=fun w'=>True) (ds := []) (Array.replicate 11 false) (by kernel_rfl) rfl rfl trivial (fun hHeld=>?_);refine iw lH.awQ lH.akX (fun HT_ HW_=>?_)
  generalize w15.drew=w17 at HO0 ql HB hHeld ⊢
  refine zp HT_ 0 (some 17) ?_
  refine zp HT_ 1 (some 18) ?_
  refine zp HT_ 3 (some 20) ?_
  refine zp HT_ 4 (some 21) ?_
  refine zp HT_ 5 (some 22) ?_
  refine ae8 (σ:=Value × Value) 4 #[true,true,true,true,true,true,true,false,false,false,false] (fun s_ => [(19,s_.1),(23,s_.2)]) (fun s_ w'=>(Kd.V (Kd.int .u64) 25 w' w.heap.size (fun k_=>(P0_ k_∨w.heap.size≤k_)∧some k_≠(s_.1:Value).ownBlock∧some k_≠(s_.2:Value).ownBlock) (.slice A0 l0.length c0) l0)∧(Kd.V (Kd.int .u64) 25 w' w.heap.size (fun k_=>(P0_ k_∨w.heap.size≤k_)∧some k_≠(s_.1:Value).ownBlock∧some k_≠(s_.2:Value).ownBlock) (.slice Ez t167.length Ad) t167)∧(Kd.R (Kd.int .u64) 25 w' w.heap.size (fun k_=>(w.heap.size≤k_)∧some k_≠(s_.2:Value).ownBlock) s_.1 acJ)∧(Kd.R (Kd.int .u64) 25 w' w.heap.size (fun k_=>(w.heap.size≤k_)∧some k_≠(s_.1:Value).ownBlock) s_.2 t173)∧(Below w.heap.size w w')) ?_ ?_
  rotate_left
  ·intro hCont
   refine aky (i:=2) (j:=6) (Ni:=some 19) (Nj:=some 23) #[true,true,true,true,true,true,false,false,false,false,false] #[true,true,false,true,true,true,true,false,false,false,false] rfl rfl rfl rfl (afs HT_.out (by kernel_rfl)) (by decide) (by decide) (fun K hK=>?_) (fun K hK=>?_)
   ·skip
    refine Kd.CX (Kd.int .u64) _ 25 (by rfl) (N:=19) rfl 88 _ _ rfl ji9 (by first|rfl|(simp only [List.length_drop,List.length_take];rfl)) (by first|rfl|(simp only [List.length_drop,List.length_take];rfl)) Tryz.underlying88 (.int .u64 0) 8 info25 rfl (by decide) (by omega) 0 (ok:=fun _=>True) (okp:=fun _=>True) rfl (fun _ hk=>hk) trivial (zD) (Nat.le_trans (Nat.mul_le_mul_right _ (zD:ji9.toNat≤35184372088832)) (by omega)) (Below.refl _ _) (Nat.le_refl _) ?_
    intro v171 w18 acK hb hg_ jf
    clear hg_ jf
    (first|rw [← YP.out] at acK|(simp only [Int.reduceToNat] at acK;rw [← YP.out] at acK))
    replace HO0:=am (Kd.iP (zV HO0) (Kd.gV acK) hb)
    replace ql:=am (Kd.iP (zV ql) (Kd.gV acK) hb)
    have Hl:=am (Kd.eP (Kd.nM (M:=fun k_=>(w.heap.size≤k_)) acK (zS HB) (fun k_ h_=>h_)) (zS HB))
    replace HB:=zBs HB hb
    clear hb acK
    refine hK.out _ _ trivial (fun hHeld=>?_)
    clear hK K
    refine kK (a':=?_) ?_ ?_
    rotate_left
    ·show Act.put _ (some 19) _=_
     simp only [Act.put,List.setIfInBounds_toArray,List.set_cons_zero,List.set_cons_succ,bI,dV]
     rfl
    refine zu HT_ 6 (some 23) (fun K hK=>?_)
    refine oK Tryz.func104 (by kernel_rfl) rfl #[.slice Ez t167.length Ad, .int .i64 (Int.tmod a1 64)] (by rfl) rfl rfl (by (try simp only [List.map_toArray,List.map_cons,List.map_nil]);first|done|rfl|(simp only [List.length_drop,List.length_take];rfl)) ?_
    with_reducible refine (dh.calls k _ _ t167 (Int.tmod a1 64) t173 _ ?fF ?kC A12.out).mono ?_
    (case fF=>repeat (first|exact (Kd.aX ql.out).2.2|(with_reducible refine Kd.ku ?_ _)|(with_reducible refine Kd.jZ ?_ _)|(with_reducible refine Kd.nC ?_)))
    (case kC=>exact (Kd.aX ql.out).2.1)
    rintro e w20 ⟨ZY,rfl,ho0,hb⟩
    refine ⟨_,rfl,?_⟩
    replace HO0:=am (Kd.iP (zV HO0) (Kd.gV ho0) hb)
    replace ql:=am (Kd.iP (zV ql) (Kd.gV ho0) hb)
    have xI:=am (Kd.eP (Kd.lQ (Kd.nM (M:=fun k_=>(w.heap.size≤k_)) ho0 (zS HB) (fun k_ h_=>h_)) (Kd.sU (zR Hl))) (zS HB))
    replace Hl:=am (Kd.iM (zR Hl) (Kd.gV ho0) hb)
    replace HB:=zBs HB hb
    (try clear hb)
    (try clear hb2)
    (try clear hk)
    (try clear hi)
    (try clear ho0)
    refine hK.out _ _ trivial (fun hHeld=>?_)
    clear hK K
    refine kK (a':=?_) ?_ ?_
    rotate_left
    ·show Act.put _ (some 23) _=_
     simp only [Act.put,List.setIfInBounds_toArray,List.set_cons_zero,List.set_cons_succ,bI,dV]
     rfl
    exact kK (by simp only [wZ,Act.put,List.setIfInBounds_toArray,List.set_cons_zero,List.set_cons_succ]) (hCont (v171,ZY) _ ⟨(by (with_reducible repeat (first|apply Kd.iV|apply Kd.iW|apply Kd.iQ));exact Kd.bD HO0.out (fun _ hk=>⟨hk.1.1,⟨hk.1.2,hk.2⟩⟩)),(by (with_reducible repeat (first|apply Kd.iV|apply Kd.iW|apply Kd.iQ));exact Kd.bD ql.out (fun _ hk=>⟨hk.1.1,⟨hk.1.2,hk.2⟩⟩)),(by (with_reducible repeat (first|apply Kd.dE|apply Kd.dn|apply Kd.dY));exact Kd.dL Hl.out (fun _ hk=>⟨hk.1.1,hk.2⟩)),(by (with_reducible repeat (first|apply Kd.dE|apply Kd.dn|apply Kd.dY));exact Kd.dL xI.out (fun _ hk=>⟨hk.1.1,hk.2⟩)),(zB HB)⟩)
   skip
   refine oK Tryz.func104 (by kernel_rfl) rfl #[.slice Ez t167.length Ad, .int .i64 (Int.tmod a1 64)] (by rfl) rfl rfl (by (try simp only [List.map_toArray,List.map_cons,List.map_nil]);first|done|rfl|(simp only [List.length_drop,List.length_take];rfl)) ?_
   with_reducible refine (dh.calls k _ _ t167 (Int.tmod a1 64) t173 _ ?fF ?kC A12.out).mono ?_
   (case fF=>repeat (first|exact (Kd.aX ql.out).2.2|(with_reducible refine Kd.ku ?_ _)|(with_reducible refine Kd.jZ ?_ _)|(with_reducible refine Kd.nC ?_)))
   (case kC=>exact (Kd.aX ql.out).2.1)
   rintro e w18 ⟨ZY,rfl,ho0,hb⟩
   refine ⟨_,rfl,?_⟩
   replace HO0:=am (Kd.iP (zV HO0) (Kd.gV ho0) hb)
   replace ql:=am (Kd.iP (zV ql) (Kd.gV ho0) hb)
   have xI:=am (Kd.eP (Kd.nM (M:=fun k_=>(w.heap.size≤k_)) ho0 (zS HB) (fun k_ h_=>h_)) (zS HB))
   replace HB:=zBs HB hb
   (try clear hb)
   (try clear hb2)
   (try clear hk)
   (try clear hi)
   (try clear ho0)
   refine hK.out _ _ trivial (fun hHeld=>?_)
   clear hK K
   refine kK (a':=?_) ?_ ?_
   rotate_left
   ·show Act.put _ (some 23) _=_
    simp only [Act.put,List.setIfInBounds_toArray,List.set_cons_zero,List.set_cons_succ,bI,dV]
    rfl
   refine zu HT_ 2 (some 19) (fun K hK=>?_)
   refine Kd.CX (Kd.int .u64) _ 25 (by rfl) (N:=19) rfl 88 _ _ rfl ji9 (by first|rfl|(simp only [List.length_drop,List.length_take];rfl)) (by first|rfl|(simp only [List.length_drop,List.length_take];rfl)) Tryz.underlying88 (.int .u64 0) 8 info25 rfl (by decide) (by omega) 0 (ok:=fun _=>True) (okp:=fun _=>True) rfl (fun _ hk=>hk) trivial (zD) (Nat.le_trans (Nat.mul_le_mul_right _ (zD:ji9.toNat≤35184372088832)) (by omega)) (Below.refl _ _) (Nat.le_refl _) ?_
   intro v171 w19 JG hb hg_ jf
   clear hg_ jf
   (first|rw [← YP.out] at JG|(simp only [Int.reduceToNat] at JG;rw [← YP.out] at JG))
   replace HO0:=am (Kd.iP (zV HO0) (Kd.gV JG) hb)
   replace ql:=am (Kd.iP (zV ql) (Kd.gV JG) hb)
   have Hl:=am (Kd.eP (Kd.lQ (Kd.nM (M:=fun k_=>(w.heap.size≤k_)) JG (zS HB) (fun k_ h_=>h_)) (Kd.sU (zR xI))) (zS HB))
   replace xI:=am (Kd.iM (zR xI) (Kd.gV JG) hb)
   replace HB:=zBs HB hb
   clear hb JG
   refine hK.out _ _ trivial (fun hHeld=>?_)
   clear hK K
   refine kK (a':=?_) ?_ ?_
   rotate_left
   ·show Act.put _ (some 19) _=_
    simp only [Act.put,List.setIfInBounds_toArray,List.set_cons_zero,List.set_cons_succ,bI,dV]
    rfl
   exact kK (by simp only [wZ,Act.put,List.setIfInBounds_toArray,List.set_cons_zero,List.set_cons_succ]) (hCont (v171,ZY) _ ⟨(by (with_reducible repeat (first|apply Kd.iV|apply Kd.iW|apply Kd.iQ));exact Kd.bD HO0.out (fun _ hk=>⟨hk.1.1,⟨hk.2,hk.1.2⟩⟩)),(by (with_reducible repeat (first|apply Kd.iV|apply Kd.iW|apply Kd.iQ));exact Kd.bD ql.out (fun _ hk=>⟨hk.1.1,⟨hk.2,hk.1.2⟩⟩)),(by (with_reducible repeat (first|apply Kd.dE|apply Kd.dn|apply Kd.dY));exact Kd.dL Hl.out (fun _ hk=>⟨hk.1.1,hk.2⟩)),(by (with_reducible repeat (first|apply Kd.dE|apply Kd.dn|apply Kd.dY));exact Kd.dL xI.out (fun _ hk=>⟨hk.1.1,hk.2⟩)),(zB HB)⟩)
  rintro ⟨v171,ZY⟩ w21 ⟨h0_,h1_,h2_,h3_,h4_⟩
  have n0_:ae (Kd.V (Kd.int .u64) 25 w21 w.heap.size (fun k_=>(P0_ k_∨w.heap.size≤k_)∧some k_≠(v171:Value).ownBlock∧some k_≠(ZY:Value).ownBlock) (.slice A0 l0.length c0) l0):=⟨h0_⟩
  have n1_:ae (Kd.V (Kd.int .u64) 25 w21 w.heap.size (fun k_=>(P0_ k_∨w.heap.size≤k_)∧some k_≠(v171:Value).ownBlock∧some k_≠(ZY:Value).ownBlock) (.slice Ez t167.length Ad) t167):=⟨h1_⟩
  have n2_:ae (Kd.R (Kd.int .u64) 25 w21 w.heap.size (fun k_=>(w.heap.size≤k_)∧some k_≠(ZY:Value).ownBlock) v171 acJ):=⟨h2_⟩
  have n3_:ae (Kd.R (Kd.int .u64) 25 w21 w.heap.size (fun k_=>(w.heap.size≤k_)∧some k_≠(v171:Value).ownBlock) ZY t173):=⟨h3_⟩
  have n4_:ae (Below w.heap.size w w21):=⟨h4_⟩
  clear HO0
  clear ql
  clear HB
  clear h0_ h1_ h2_ h3_ h4_
  have HO0:=n0_
  have ql:=n1_
  have Hl:=n2_
  have xI:=n3_
  have HB:=n4_
  clear n0_ n1_ n2_ n3_ n4_
  have hHeld:=trivial
  obtain ⟨Qs,EC,Yu⟩:=Kd.eF xI.out
  (first|subst Yu|(injection Yu with f1_ f2_ f3_;have f4_:=f1_.symm;have f5_:=f3_.symm;clear f1_ f2_ f3_;subst f4_;subst f5_))
  refine kK (a':=?_) ?_ ?_
  rotate_left
  ·simp only [wZ,Act.put,List.setIfInBounds_toArray,List.set_cons_zero,List.set_cons_succ]
   rfl
  refine zu HT_ 7 (some 24) (fun K hK=>?_)
  refine Kd.yt (Kd.int .u64) (w0:=w) w.heap.size (by rfl) (.tmp 19) (.tmp 23) 88 25 (.int .u64 0) 8 rfl Tryz.underlying88 info25 rfl (by decide) (by omega) v171 acJ t173 _ _ _ (fun k_=>(w.heap.size≤k_)∧some k_≠(.slice Qs t173.length EC:Value).ownBlock) (fun _=>False) rfl rfl ?aO ?aR (fun _ _ h=>h) (fun _ h=>h.elim) ?aF ?aB ?aS ?aL ?_
  (case aR=>repeat (first|exact (Kd.aW xI.out).2.2|(with_reducible refine Kd.ku ?_ _)|(with_reducible refine Kd.jZ ?_ _)|(with_reducible refine Kd.nC ?_)))
  (case aB=>exact (zB HB))
  (case aF=>exact (fun k_ hk=>⟨(Nat.le_trans (zS HB) hk),Kd.fresh' (Kd.sU (zR xI)) k_ hk⟩))
  (case aO=>exact (zR Hl))
  (case aS=>exact (zS HB))
  (case aL=>have:=aor.out;omega)
  intro aGz w22 ho hb hg hat
  rw [← aot.out] at ho
  replace HO0:=am (Kd.iO (ok:=(fun k_=>(P0_ k_∨w.heap.size≤k_)∧some k_≠(.slice Qs t173.length EC:Value).ownBlock)) (by (with_reducible repeat (first|apply Kd.iV|apply Kd.iW|apply Kd.iQ));exact Kd.bD HO0.out (fun _ hk=>⟨⟨hk.1,hk.2.2⟩,hk.2.1⟩)) hg hat)
  replace ql:=am (Kd.iO (ok:=(fun k_=>(P0_ k_∨w.heap.size≤k_)∧some k_≠(.slice Qs t173.length EC:Value).ownBlock)) (by (with_reducible repeat (first|apply Kd.iV|apply Kd.iW|apply Kd.iQ));exact Kd.bD ql.out (fun _ hk=>⟨⟨hk.1,hk.2.2⟩,hk.2.1⟩)) hg hat)
  replace xI:=am (Kd.uh (ok:=(fun k_=>(w.heap.size≤k_))) (zR xI) hg hat)
  replace HB:=am (hb)
  have QC:=am (ho)
  clear Hl ho hb hg hat
  obtain ⟨WS,Q3,Qu⟩:=Kd.eF QC.out
  (first|subst Qu|(injection Qu with f1_ f2_ f3_;have f4_:=f1_.symm;have f5_:=f3_.symm;clear f1_ f2_ f3_;subst f4_;subst f5_))
  refine hK.out _ _ trivial (fun hHeld=>?_)
  clear hK K
  refine kK (a':=?_) ?_ ?_
  rotate_left
  ·show Act.put _ (some 24) _=_
   simp only [Act.put,List.setIfInBounds_toArray,List.set_cons_zero,List.set_cons_succ,bI,dV]
   rfl
  refine zu HT_ 8 (some 25) (fun K hK=>?_)
  refine oK Tryz.func103 (by kernel_rfl) rfl #[.slice WS aos.length Q3] (by rfl) rfl rfl (by (try simp only [List.map_toArray,List.map_cons,List.map_nil]);first|done|rfl|(simp only [List.length_drop,List.length_take];rfl)) ?_
  with_reducible refine (bG.calls k (fun k_=>some k_=(.slice WS aos.length Q3:Value).ownBlock) _ _ aos aoq _ ?fF A14.out).mono ?_
  (case fF=>exact Kd.R_V (Kd.jY rfl (QC.out)))
  rintro e w25 ⟨aGA,rfl,ho0,hb⟩
  refine ⟨_,rfl,?_⟩
  replace HO0:=zVb HO0 hb
  replace ql:=zVb ql hb
  have aou:=am (Kd.df (Kd.bD (ok':=fun k_=>(P0_ k_∨w.heap.size≤k_)∧some k_≠(.slice Qs t173.length EC:Value).ownBlock) ho0 (fun k_ hk_=>⟨Or.elim hk_ (fun hs_=>(.inr (((QC.out).1 k_ hs_.symm).1))) (fun hn_=>(.inr (Nat.le_trans (zS HB) hn_))),Or.elim hk_ (fun hs_=>((QC.out).1 k_ hs_.symm).2) (fun hn_=>(Kd.fresh' (Kd.sU (zR xI)) k_ hn_))⟩)) (zS HB))
  replace xI:=zRb xI hb
  replace QC:=zRb QC hb
  replace HB:=zBs HB hb
  (try clear hb)
  (try clear hb2)
  (try clear hk)
  (try clear hi)
  (try clear ho0)
  refine hK.out _ _ trivial (fun hHeld=>?_)
  clear hK K
  refine kK (a':=?_) ?_ ?_
  rotate_left
  ·show Act.put _ (some 25) _=_
   simp only [Act.put,List.setIfInBounds_toArray,List.set_cons_zero,List.set_cons_succ,bI,dV]
   rfl
  refine zp HT_ 9 (some 4) ?_
  refine zp HT_ 10 (some 5) ?_
  refine o6 (jd HT_.out (by kernel_rfl)) ?_
  try go_wp2
  go_ret2
  exact ⟨_,by first|exact z3|(simp only [← Q4];exact z3)|exact z2,by (with_reducible repeat (first|apply Kd.iV|apply Kd.iW|apply Kd.iQ));exact Kd.bD aou.out (fun _ hk=>hk.1),zB HB⟩
 all_goals (go_enter Tryz.func49,Tryz.ntmps49;go_wp2_with (first|((with_reducible refine af (f:=103) rfl ?_);refine zc (some 13) Tryz.func103 #[.slice A0 l0.length c0] (bG.calls _ (fun k_=>(P0_ k_∨w.heap.size≤k_)) _ _ _ _ _ HO0.out A5.out) ?_;rintro e w7 ⟨v168,rfl,ho0,hb⟩;refine ⟨_,rfl,?_⟩;replace HO0:=zVb HO0 hb;have ql:=am (Kd.df (Kd.bD (ok':=fun k_=>(P0_ k_∨w.heap.size≤k_)) ho0 (fun k_ hk_=>Or.elim hk_ (fun hs_=>hs_) (fun hn_=>(.inr (Nat.le_trans (zS HB) hn_))))) (zS HB));replace HB:=zBs HB hb;clear hb ho0;obtain ⟨Ao8,co8,eo8⟩:=Kd.dG ql.out;subst eo8)))
 all_goals
  go_ret2
  exact ⟨_,z2,Kd.zg _ _ _ _ _,zB HB⟩
end Go.Proofs.Yy.PTx
end
section
set_option maxHeartbeats 8000000
set_option maxRecDepth 100000
namespace Go.Proofs.Yy.PTx
open Go.RowKit Go.Proofs.Yy.Z Go.Proofs.Yw.PrintWords Go.Proofs.Yw.PrintLast Go.Proofs.Yw.PrintMore Go.Proofs.Yy.M
attribute [local go_sem] gy gz ja jc fC fD gQ gK
theorem Ua:(Tryz.prog.info? 9).map (fun i=>(i.zero,i.size,i.bytes))=some (some (.string ⟨#[]⟩),1,16):=by kernel_rfl
def xQ (ps:List ByteArray):List UInt8:=(ps.reverse.map (fun p=>p.data.toList)).flatten
def adT (ps:List ByteArray):ByteArray:=⟨(xQ ps).toArray⟩
theorem BG:xQ [] = []:=rfl
theorem tC (p:ByteArray) (ps:List ByteArray):xQ (p :: ps)=xQ ps ++ p.data.toList:=by
 unfold xQ
 rw [List.reverse_cons,List.map_append,List.flatten_append]
 simp
theorem Jg (ps:List ByteArray) (n:Nat):(xQ (ps.drop n)).length≤(xQ ps).length:=by
 induction n generalizing ps with
 | zero=>simp
 | succ n ih =>
  cases ps with
  | nil=>simp
  | cons p r =>
   rw [List.drop_succ_cons,tC,List.length_append]
   have:=ih r
   omega
theorem FZ (B b:Nat) (l:List UInt8) (s:ByteArray) (w:World) (h:Lib.IsBuilderF 111 5 B b (Lib.byteCells l) w) (hlen:l.length+s.size≤140737488355328) (hBw:B≤w.heap.size) :
  Calls Tryz.prog 68 #[.pointer (some ⟨b,0,none⟩), .string s] w fun e w'=>e = .returned (.tuple #[.int .i64 s.size, .nilIface])∧Lib.IsBuilderF 111 5 B b (Lib.byteCells (l ++ s.data.toList)) w'∧Below B w w':=by
 refine (Any.Builder_WriteString_f { Tryz.lays105 with } Tryz.Builder_Extra_105 B b (Lib.byteCells l) s w h (by rw [show (Lib.byteCells l).length=l.length from List.length_map ..];exact hlen) hBw).mono ?_
 rintro e w' ⟨he,h1,h2⟩
 refine ⟨he, .inr ?_,h2⟩
 have e2:Lib.byteCells (l ++ s.data.toList)=Lib.byteCells l ++ Lib.strCells s:=by simp [Lib.byteCells,Lib.strCells]
 rw [e2]
 exact h1
theorem KC (w:World):Lib.IsBuilderF 111 5 w.heap.size w.heap.size (Lib.byteCells []) (w.alloc (.cells #[.pointer none, .slice none 0 0] 111)):=by
 rcases Lib.fresh_isBuilder 111 5 w with h|h
 ·exact .inl (Lib.BuilderAtF.of h)
 ·exact .inr (Lib.BuilderAtF.of h)
theorem X3 {a b:Int} {r:ByteArray} (h:dF.f a b=some r):r.size≤20:=by
 unfold dF.f at h
 by_cases hg:0≤a∧a<18446744073709551616∧b=10
 case neg=>rw [if_neg hg] at h;exact absurd h (by simp)
 rw [if_pos hg] at h
 obtain rfl:=Option.some.inj h
 show (Lib.decDigits a.toNat).toArray.size≤20
 rw [List.size_toArray,Lib.decDigits_length]
 by_cases h1:1≤a.toNat
 ·have:=Lib.numDigits_eq a.toNat h1 (by omega)
  split at this <;> omega
 ·rw [show a.toNat=0 by omega]
  unfold Lib.nDigits
  decide
theorem nS {a b:Int} {r:ByteArray} (h:dF.f a b=some r):wrap64 (19 - (r.size:Int))=19 - (r.size:Int):=by
 have:=X3 h
 unfold wrap64
 omega
theorem P8 {w:World} {A:Option Addr} {xs:List ByteArray} (h:Kd.C Kd.string w A xs.length xs):xs.length≤9223372036854775807:=Kd.akE h
theorem XT (xs:List ByteArray):xQ (xs.drop ((xs.length:Int) - 1+1).toNat) = []:=by
 rw [show ((xs.length:Int) - 1+1).toNat=xs.length by omega,List.drop_length];rfl
theorem Tm {xs:List ByteArray} {v:Int} (hl:(xQ xs).length≤140737488355328) (h0:0≤v) (h1:v<(xs.length:Int)) :
  (xQ (xs.drop (v+1).toNat)).length+(Ye ByteArray.empty xs v).size≤140737488355328∧xQ (xs.drop (v - 1+1).toNat)=xQ (xs.drop (v+1).toNat) ++ (Ye ByteArray.empty xs v).data.toList:=by
 have e1:(v - 1+1).toNat=v.toNat:=by omega
 have e2:(v+1).toNat=v.toNat+1:=by omega
 have hlt:v.toNat<xs.length:=by omega
 have e3:Ye ByteArray.empty xs v=xs[v.toNat]:=by unfold Ye;rw [List.getD_eq_getElem?_getD,List.getElem?_eq_getElem hlt];rfl
 have e4:xQ (xs.drop v.toNat)=xQ (xs.drop (v.toNat+1)) ++ xs[v.toNat].data.toList:=by rw [List.drop_eq_getElem_cons hlt,tC]
 rw [e1,e2,e3]
 refine ⟨?_,e4⟩
 have h5:=Jg xs v.toNat
 rw [e4,List.length_append] at h5
 have h6:xs[v.toNat].data.toList.length=xs[v.toNat].size:=Array.length_toList
 omega
def eU.l0:Nat→List Int→List ByteArray→Option (ByteArray)
 | 0,_,_=>none
 | k+1,x0,x3=>if (x0.length:Int) > 0 then ((iy.f k x0 10000000000000000000).bind fun YQ=>((dF.f YQ.2 10).bind fun AU=>(if (YQ.1.length:Int) > 0 then ((strings_Repeat.f (⟨#[48]⟩:ByteArray) (wrap64 (19 - (AU.size:Int)))).bind fun EI=>(if EI.size+AU.size≤9223372036854775807 then (if x3.length<8796093022208 then (eU.l0 k YQ.1 (x3 ++ [EI ++ AU])) else (none)) else (none))) else (if x3.length<8796093022208 then (eU.l0 k YQ.1 (x3 ++ [AU])) else (none))))) else (if (x3.length:Int)=0 then (some (⟨#[48]⟩:ByteArray)) else (if (xQ x3).length≤140737488355328 then (some (adT x3)) else none))
def eU.f (k:Nat) (l0:List Int):Option (ByteArray):=(bG.f k l0).bind fun aea=>(eU.l0 k aea ([]:List ByteArray))
theorem eU.calls (k:Nat) (A0:Option Addr) (c0:Nat) (l0:List Int) (r:ByteArray) (w:World) (hr0:Kd.C (Kd.int .u64) w A0 l0.length l0) (hc0:l0.length≤c0) (h:eU.f k l0=some r) (htab:Fx.Laid w:=by exact Fx.Laid.below HTAB.out (zB HB)) :
  Calls Tryz.prog 50 #[.slice A0 l0.length c0] w fun e w'=>e = .returned (.string r)∧Below w.heap.size w w':=by
 have HTAB:=am htab
 clear htab
 have HR0:=am hr0
 have HC0:=am hc0
 clear hr0 hc0
 have HB:=am (Below.refl w.heap.size w)
 have H:((bG.f k l0).bind fun aea=>(eU.l0 k aea ([]:List ByteArray)))=some r:=h
 clear h
 replace H:=Option.bind_eq_some_iff.mp H
 obtain ⟨aea,A20,H⟩:=H
 replace H:(eU.l0 k aea ([]:List ByteArray))=some r:=H
 have A2:=am A20
 clear A20
 have H':=am H
 clear H
 go_enter Tryz.func50,Tryz.ntmps50
 go_wp2_with (first|((with_reducible refine af (f:=103) rfl ?_);refine lg (some 9) rfl rfl Tryz.func103 (by kernel_rfl) rfl #[.slice A0 l0.length c0] rfl (by (try simp only [List.map_toArray,List.map_cons,List.map_nil]);first|done|rfl|(simp only [nS A6.out];done)|(simp only [nS A6.out];rfl)|(simp only [List.length_drop,List.length_take];rfl)) ?_;(with_reducible refine (bG.calls _ (fun k_=>k_<w.heap.size) _ _ _ _ _ ?fF A2.out).mono ?_);(case fF=>exact Kd.Ih HC0.out (Kd.nX (Kd.C_F (Kd.oM .u64) HR0.out) (zB HB)));rintro e w3 ⟨aGB,rfl,ho0,hb⟩;refine ⟨_,rfl,?_⟩;have aov:=am (Kd.df (Kd.bD (ok':=fun k_=>True) ho0 (fun k_ hk_=>trivial)) (zS HB));replace HB:=zBs HB hb;clear hb ho0))
 go_loopg [0,3] k (fun kq v0 v3 w' => ∃ (kW:List Int) (gY:List ByteArray),ae (eU.l0 kq kW gY=some r)∧ae (kq≤k)∧ae (Kd.V (Kd.int .u64) 25 w' w.heap.size (fun k_=>some k_≠(v3:Value).ownBlock) v0 kW)∧ae (Kd.R Kd.string 9 w' w.heap.size (fun _=>True) v3 gY)∧ae (Below w.heap.size w w'))
 case atStart=>exact ⟨(aea),(([]:List ByteArray)),H',zL,⟨by (with_reducible repeat (first|apply Kd.iV|apply Kd.iW|apply Kd.iQ));exact Kd.bD aov.out (fun _ hk=>(by simp [Value.ownBlock]))⟩,⟨zN⟩,⟨zB HB⟩⟩
 case round =>
  clear H'
  obtain ⟨kW,gY,HA,HK1,iU,sK,HB⟩:=hrel
  cases gk with
  | zero=>exact absurd HA.out (by simp [eU.l0])
  | succ k1 =>
   have H:=HA.out
   clear HA
   simp only [eU.l0] at H
   by_cases c4:(kW.length:Int) > 0
   ·rw [if_pos c4] at H
    have kM:decide (0<(kW.length:Int))=true:=decide_eq_true c4
    have rY:decide (0<kW.length)=true:=decide_eq_true (by omega)
    clear c4
    replace H:=Option.bind_eq_some_iff.mp H
    obtain ⟨⟨J5,t222⟩,A50,H⟩:=H
    replace H:((dF.f t222 10).bind fun AU=>(if (J5.length:Int) > 0 then ((strings_Repeat.f (⟨#[48]⟩:ByteArray) (wrap64 (19 - (AU.size:Int)))).bind fun EI=>(if EI.size+AU.size≤9223372036854775807 then (if gY.length<8796093022208 then (eU.l0 k1 J5 (gY ++ [EI ++ AU])) else (none)) else (none))) else (if gY.length<8796093022208 then (eU.l0 k1 J5 (gY ++ [AU])) else (none))))=some r:=H
    have A5:=am A50
    clear A50
    replace H:=Option.bind_eq_some_iff.mp H
    obtain ⟨AU,A60,H⟩:=H
    replace H:(if (J5.length:Int) > 0 then ((strings_Repeat.f (⟨#[48]⟩:ByteArray) (wrap64 (19 - (AU.size:Int)))).bind fun EI=>(if EI.size+AU.size≤9223372036854775807 then (if gY.length<8796093022208 then (eU.l0 k1 J5 (gY ++ [EI ++ AU])) else (none)) else (none))) else (if gY.length<8796093022208 then (eU.l0 k1 J5 (gY ++ [AU])) else (none)))=some r:=H
    have A6:=am A60
    clear A60
    by_cases c7:(J5.length:Int) > 0
    ·rw [if_pos c7] at H
     have wQ:decide (0<(J5.length:Int))=true:=decide_eq_true c7
     have Bh:decide (0<J5.length)=true:=decide_eq_true (by omega)
     clear c7
     replace H:=Option.bind_eq_some_iff.mp H
     obtain ⟨EI,A80,H⟩:=H
     replace H:(if EI.size+AU.size≤9223372036854775807 then (if gY.length<8796093022208 then (eU.l0 k1 J5 (gY ++ [EI ++ AU])) else (none)) else (none))=some r:=H
     have A8:=am A80
     clear A80
     by_cases c9:EI.size+AU.size≤9223372036854775807
     ·rw [if_pos c9] at H
      have yI:=eq_true c9
      have Ed:decide (EI.size+AU.size≤9223372036854775807)=true:=decide_eq_true c9
      try have aow:(9223372036854775807<EI.size+AU.size)=False:=eq_false (Nat.not_lt.2 c9)
      by_cases c10:gY.length<8796093022208
      ·rw [if_pos c10] at H
       have UF:=am c10
       clear c10
       obtain ⟨atM,Vs⟩:∃ y_:List ByteArray,y_=(gY ++ [EI ++ AU]):=⟨_,rfl⟩
       replace H:(eU.l0 k1 J5 atM)=some r:=by first|(rw [Vs];with_reducible exact H)|(have H2_:=(Option.bind_some _ _).symm.trans H;rw [Vs];with_reducible exact H2_)|(have H2_:=(Option.bind_some _ _).symm.trans H;with_reducible exact H2_)|with_reducible exact H|(rw [Vs];exact H)|exact H
       have aox:=am Vs
       clear Vs
       have H':=am H
       clear H
       obtain ⟨ZZ,YR,YS⟩:=Kd.dG iU.out
       subst YS
       go_wp2_with (first|((with_reducible refine af (f:=105) rfl ?_);refine lg (some 15) rfl rfl Tryz.func105 (by kernel_rfl) rfl #[.slice ZZ kW.length YR, .int .u64 10000000000000000000] rfl (by (try simp only [List.map_toArray,List.map_cons,List.map_nil]);first|done|rfl|(simp only [nS A6.out];done)|(simp only [nS A6.out];rfl)|(simp only [List.length_drop,List.length_take];rfl)) ?_;(with_reducible refine (iy.calls _ _ _ _ _ _ _ _ ?fF ?kC A5.out).mono ?_);(case fF=>repeat (first|exact (Kd.aX iU.out).2.2|(with_reducible refine Kd.ku ?_ _)|(with_reducible refine Kd.jZ ?_ _)|(with_reducible refine Kd.nC ?_)));(case kC=>exact (Kd.aX iU.out).2.1);rintro e w12 ⟨azi,rfl,ho0,hb⟩;refine ⟨_,rfl,?_⟩;replace iU:=zVb iU hb;have xJ:=am (Kd.df (Kd.bD (ok':=fun k_=>some k_≠(u3:Value).ownBlock) ho0 (fun k_ hk_=>(Kd.fresh' (Kd.sU (zR sK)) k_ hk_))) (zS HB));replace sK:=zRb sK hb;replace HB:=zBs HB hb;clear hb ho0)|((with_reducible refine af (f:=106) rfl ?_);refine lg (some 19) rfl rfl Tryz.func106 (by kernel_rfl) rfl #[.int .u64 t222, .int .i64 10] rfl (by (try simp only [List.map_toArray,List.map_cons,List.map_nil]);first|done|rfl|(simp only [nS A6.out];done)|(simp only [nS A6.out];rfl)|(simp only [List.length_drop,List.length_take];rfl)) ?_;(with_reducible refine (dF.calls _ _ _ _ A6.out).mono ?_);rintro e w13 ⟨rfl,hb⟩;refine ⟨_,rfl,?_⟩;replace iU:=zVb iU hb;replace sK:=zRb sK hb;replace xJ:=zVb xJ hb;replace HB:=zBs HB hb;clear hb;obtain ⟨asz,alN,adX⟩:=Kd.dG xJ.out;subst adX)|((with_reducible refine af (f:=69) rfl ?_);refine lg (some 26) rfl rfl Tryz.func69 (by kernel_rfl) rfl #[.string (⟨#[48]⟩:ByteArray), .int .i64 (wrap64 (19 - (AU.size:Int)))] rfl (by (try simp only [List.map_toArray,List.map_cons,List.map_nil]);first|done|rfl|(simp only [nS A6.out];done)|(simp only [nS A6.out];rfl)|(simp only [List.length_drop,List.length_take];rfl)) ?_;(with_reducible refine (strings_Repeat.calls _ _ _ _ A8.out).mono ?_);rintro e w15 ⟨rfl,hb⟩;refine ⟨_,rfl,?_⟩;replace iU:=zVb iU hb;replace sK:=zRb sK hb;replace xJ:=zVb xJ hb;replace HB:=zBs HB hb;clear hb)|((with_reducible refine fG (b := .append) (xs:=#[.tmp 29, .tmp 31]) rfl ?_);at_builtin;refine Kd.mX Kd.string (w0:=w) w.heap.size rfl (.tmp 29) (.tmp 31) 160 9 (.string ⟨#[]⟩) 16 rfl Tryz.underlying160 Ua rfl (by decide) (by omega) u3 gY (EI ++ AU) [.string (EI ++ AU)] (fun _=>True) (fun _=>False) rfl rfl ?aP (fun _ hk=>hk.elim) ?aF ?aO ?aB ?aS ?aL ?_;(case aP=>exact rfl);(case aB=>exact (zB HB));(case aF=>exact (fun _ _=>trivial));(case aO=>exact (zR sK));(case aS=>exact (zS HB));(case aL=>have:=UF.out;omega);intro v226 w16 ho hb hg hat;rw [← aox.out] at ho;replace iU:=am (Kd.iO (ok:=(fun _=>True)) (by (with_reducible repeat (first|apply Kd.iV|apply Kd.iW|apply Kd.iQ));exact Kd.bD iU.out (fun _ hk=>⟨trivial,hk⟩)) hg hat);replace xJ:=am (Kd.iO (ok:=(fun _=>True)) (by (with_reducible repeat (first|apply Kd.iV|apply Kd.iW|apply Kd.iQ));exact Kd.bD xJ.out (fun _ hk=>⟨trivial,hk⟩)) hg hat);replace HB:=am (hb);have aoy:=am (ho);clear sK ho hb hg hat))
       go_roundg k1
       case measure=>have:=HK1.out;omega
       case rel=>exact ⟨(J5),(atM),H',(zH HK1),⟨by (with_reducible repeat (first|apply Kd.iV|apply Kd.iW|apply Kd.iQ));exact Kd.bD xJ.out (fun _ hk=>hk.2)⟩,⟨zR aoy⟩,⟨zB HB⟩⟩
      ·rw [if_neg c10] at H
       exact absurd H (by simp)
     ·rw [if_neg c9] at H
      exact absurd H (by simp)
    ·rw [if_neg c7] at H
     have wQ:decide (0<(J5.length:Int))=false:=decide_eq_false c7
     have Bh:decide (0<J5.length)=false:=decide_eq_false (by omega)
     clear c7
     by_cases c17:gY.length<8796093022208
     ·rw [if_pos c17] at H
      have aoz:=am c17
      clear c17
      obtain ⟨atN,Vt⟩:∃ y_:List ByteArray,y_=(gY ++ [AU]):=⟨_,rfl⟩
      replace H:(eU.l0 k1 J5 atN)=some r:=by first|(rw [Vt];with_reducible exact H)|(have H2_:=(Option.bind_some _ _).symm.trans H;rw [Vt];with_reducible exact H2_)|(have H2_:=(Option.bind_some _ _).symm.trans H;with_reducible exact H2_)|with_reducible exact H|(rw [Vt];exact H)|exact H
      have aoA:=am Vt
      clear Vt
      have H':=am H
      clear H
      obtain ⟨JF,qY,LV⟩:=Kd.dG iU.out
      subst LV
      go_wp2_with (first|((with_reducible refine af (f:=105) rfl ?_);refine lg (some 15) rfl rfl Tryz.func105 (by kernel_rfl) rfl #[.slice JF kW.length qY, .int .u64 10000000000000000000] rfl (by (try simp only [List.map_toArray,List.map_cons,List.map_nil]);first|done|rfl|(simp only [nS A6.out];done)|(simp only [nS A6.out];rfl)|(simp only [List.length_drop,List.length_take];rfl)) ?_;(with_reducible refine (iy.calls _ _ _ _ _ _ _ _ ?fF ?kC A5.out).mono ?_);(case fF=>repeat (first|exact (Kd.aX iU.out).2.2|(with_reducible refine Kd.ku ?_ _)|(with_reducible refine Kd.jZ ?_ _)|(with_reducible refine Kd.nC ?_)));(case kC=>exact (Kd.aX iU.out).2.1);rintro e w19 ⟨azi,rfl,ho0,hb⟩;refine ⟨_,rfl,?_⟩;replace iU:=zVb iU hb;have xJ:=am (Kd.df (Kd.bD (ok':=fun k_=>some k_≠(u3:Value).ownBlock) ho0 (fun k_ hk_=>(Kd.fresh' (Kd.sU (zR sK)) k_ hk_))) (zS HB));replace sK:=zRb sK hb;replace HB:=zBs HB hb;clear hb ho0)|((with_reducible refine af (f:=106) rfl ?_);refine lg (some 19) rfl rfl Tryz.func106 (by kernel_rfl) rfl #[.int .u64 t222, .int .i64 10] rfl (by (try simp only [List.map_toArray,List.map_cons,List.map_nil]);first|done|rfl|(simp only [nS A6.out];done)|(simp only [nS A6.out];rfl)|(simp only [List.length_drop,List.length_take];rfl)) ?_;(with_reducible refine (dF.calls _ _ _ _ A6.out).mono ?_);rintro e w20 ⟨rfl,hb⟩;refine ⟨_,rfl,?_⟩;replace iU:=zVb iU hb;replace sK:=zRb sK hb;replace xJ:=zVb xJ hb;replace HB:=zBs HB hb;clear hb;obtain ⟨EJ,AV,aoB⟩:=Kd.dG xJ.out;subst aoB)|((with_reducible refine fG (b := .append) (xs:=#[.tmp 29, .tmp 31]) rfl ?_);at_builtin;refine Kd.mX Kd.string (w0:=w) w.heap.size rfl (.tmp 29) (.tmp 31) 160 9 (.string ⟨#[]⟩) 16 rfl Tryz.underlying160 Ua rfl (by decide) (by omega) u3 gY AU [.string AU] (fun _=>True) (fun _=>False) rfl rfl ?aP (fun _ hk=>hk.elim) ?aF ?aO ?aB ?aS ?aL ?_;(case aP=>exact rfl);(case aB=>exact (zB HB));(case aF=>exact (fun _ _=>trivial));(case aO=>exact (zR sK));(case aS=>exact (zS HB));(case aL=>have:=aoz.out;omega);intro v229 w22 ho hb hg hat;rw [← aoA.out] at ho;replace iU:=am (Kd.iO (ok:=(fun _=>True)) (by (with_reducible repeat (first|apply Kd.iV|apply Kd.iW|apply Kd.iQ));exact Kd.bD iU.out (fun _ hk=>⟨trivial,hk⟩)) hg hat);replace xJ:=am (Kd.iO (ok:=(fun _=>True)) (by (with_reducible repeat (first|apply Kd.iV|apply Kd.iW|apply Kd.iQ));exact Kd.bD xJ.out (fun _ hk=>⟨trivial,hk⟩)) hg hat);replace HB:=am (hb);have aoC:=am (ho);clear sK ho hb hg hat))
      go_roundg k1
      case measure=>have:=HK1.out;omega
      case rel=>exact ⟨(J5),(atN),H',(zH HK1),⟨by (with_reducible repeat (first|apply Kd.iV|apply Kd.iW|apply Kd.iQ));exact Kd.bD xJ.out (fun _ hk=>hk.2)⟩,⟨zR aoC⟩,⟨zB HB⟩⟩
     ·rw [if_neg c17] at H
      exact absurd H (by simp)
   ·rw [if_neg c4] at H
    have kM:decide (0<(kW.length:Int))=false:=decide_eq_false c4
    have rY:decide (0<kW.length)=false:=decide_eq_false (by omega)
    clear c4
    by_cases c23:(gY.length:Int)=0
    ·rw [if_pos c23] at H
     have Eu:((gY.length:Int) == 0)=true:=beq_iff_eq.mpr c23
     have UG:((gY.length:Int) != 0)=false:=bne_eq_false_iff_eq.mpr c23
     clear c23
     obtain rfl:=Option.some.inj H
     obtain ⟨WS,Q3,Qu⟩:=Kd.dG iU.out
     subst Qu
     obtain ⟨aoD,ahn,aeb⟩:=Kd.eF sK.out
     subst aeb
     go_wp2
     go_ret
     exact ⟨z2,zB HB⟩
    ·rw [if_neg c23] at H
     have Eu:((gY.length:Int) == 0)=false:=beq_eq_false_iff_ne.mpr c23
     have UG:((gY.length:Int) != 0)=true:=bne_iff_ne.mpr c23
     have aho:¬ (gY = []):=fun h_=>c23 (by rw [h_];rfl)
     by_cases c24:(xQ gY).length≤140737488355328
     case neg=>rw [if_neg c24] at H;exact absurd H (by simp)
     rw [if_pos c24] at H
     obtain rfl:=Option.some.inj H
     obtain ⟨aoE,abP,ZJ⟩:=Kd.dG iU.out
     subst ZJ
     obtain ⟨atO,atP,aoF⟩:=Kd.eF sK.out
     subst aoF
     obtain ⟨W0,rfl⟩:∃ W0,W0=wr:=⟨_,rfl⟩
     have HPC:=am (Kd.aW sK.out).2.2
     have hpos:1≤gY.length:=by omega
     have hmax:gY.length≤9223372036854775807:=P8 HPC.out
     have HCL:=am c24
     have HNE:=am aho
     have HBN:=am (KC W0)
     have HBW:=am (Below.alloc (Below.refl W0.heap.size W0) (Nat.le_refl _) (.cells #[.pointer none, .slice none 0 0] 111))
     clear c24 H c23 aho
     go_wp2
     go_loopw [7] (fun i w' => ∃ (v:Int), -1≤v∧v<(gY.length:Int)∧i = .int .i64 v∧ae (Lib.IsBuilderF 111 5 W0.heap.size W0.heap.size (Lib.byteCells (xQ (gY.drop (v+1).toNat))) w')∧ae (Below W0.heap.size W0 w')) (fun i _=>(intOf i+1).toNat)
     case atStart=>exact ⟨(gY.length:Int) - 1,by omega,by omega,(by first|rfl|(rw [text_wrap hpos hmax])),⟨by rw [XT];exact HBN.out⟩,⟨HBW.out⟩⟩
     case round =>
      obtain ⟨v,hv0,hv1,rfl,HBJ,HWJ⟩:=hrel
      clear HBN HBW
      by_cases h0:0≤v
      ·have hd:decide (0≤v)=true:=decide_eq_true h0
       have hp:=eq_true h0
       have hq:=eq_true hv1
       obtain ⟨ad,e,hx⟩:=Kd.SV (Kd.kw HPC.out HWJ.out) v h0 hv1
       cases e
       have HS:=am (Tm HCL.out h0 hv1)
       have HSZ:=am HWJ.out.size
       go_wp2_with (go_at_call 68;refine (FZ W0.heap.size W0.heap.size (xQ (gY.drop (v+1).toNat)) _ _ HBJ.out HS.out.1 HSZ.out).mono ?_;rintro e w1 ⟨rfl,h1,h2⟩)
       go_roundw
       case rel=>exact ⟨v - 1,by omega,by omega,(by first|rfl|(rw [aec h0 hv1 hmax])),⟨by rw [HS.out.2];exact h1⟩,⟨HWJ.out.trans h2⟩⟩
       case measure=>simp [intOf];omega
      ·have hd:decide (0≤v)=false:=decide_eq_false h0
       have hz:v+1=0:=by omega
       have HZ:=am hz
       have HSZ:=am HWJ.out.size
       clear hz
       go_wp2_with (go_at_call 71;refine (Tryz.Builder_String_any_f W0.heap.size W0.heap.size (xQ (gY.drop (v+1).toNat)) _ HBJ.out HSZ.out).mono ?_;rintro e w1 ⟨rfl,h1,h2⟩)
       go_ret
       exact ⟨by rw [HZ.out];rfl,gq HB.out (HWJ.out.trans h2)⟩
end Go.Proofs.Yy.PTx
end
