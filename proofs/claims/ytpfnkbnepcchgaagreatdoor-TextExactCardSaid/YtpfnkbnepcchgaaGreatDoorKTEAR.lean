/- Part 18 of what the proof needs. -/
import Derived.Test.YtpfnkbnepcchgaaGreatDoorKTEAP
set_option linter.unusedSimpArgs false
set_option linter.unusedVariables false
section
set_option maxHeartbeats 8000000
set_option maxRecDepth 100000
namespace Go.Proofs.Yy.PTx
open Go.RowKit Go.Proofs.Yy.Z Go.Proofs.Yw.PrintWords Go.Proofs.Yw.PrintLast Go.Proofs.Yw.PrintMore
open Go.Proofs.Yy.M
attribute [local go_sem] dw dQ lD lF lC lG
attribute [local go_sem] gy gz ja jc fC fD gQ gK
mutual
def ji.j0:Nat→ByteArray→Int→Option (List Int × Option Int)
  | 0,_,_=>none
  | k+1,x0,x4=>if x4 ≥ 0 then (none) else (ji.l0 k x0 ([]:List Int))
def ji.l0:Nat→ByteArray→List Int→Option (List Int × Option Int)
  | 0,_,_=>none
  | k+1,x0,x5=>if (x0.size:Int) > 0 then (if 0≤(mn (x0.size:Int) 19) then (if (mn (x0.size:Int) 19)≤(x0.size:Int) then ((jl.f (x0.extract 0 ((mn (x0.size:Int) 19):Int).toNat) 10 64).bind fun ah5=>(if ah5.2.isNone=true then (ji.l1 k x0 x5 (mn (x0.size:Int) 19) ah5.1 1 (mn (x0.size:Int) 19) 0) else (some (([]:List Int),some 7)))) else (none)) else (none)) else (some (x5,none))
def ji.l1:Nat→ByteArray→List Int→Int→Int→Int→Int→Int→Option (List Int × Option Int)
  | 0,_,_,_,_,_,_,_=>none
  | k+1,x0,x5,x6,x7,x9,x41,x42=>if x42<x41 then (ji.l1 k x0 x5 x6 x7 (IntKind.u64.wrap (x9 * 10)) x41 (wrap64 (x42+1))) else ((dD.f k x5 (([x9]:List Int))).bind fun apU=>((rV.f k x7).bind fun apV=>((kV.f k apU apV).bind fun apW=>(if 0≤x6 then (if x6≤(x0.size:Int) then (ji.l0 k (x0.extract (x6:Int).toNat x0.size) apW) else (none)) else (none)))))
end
def ji.f (k:Nat) (a0:ByteArray):Option (List Int × Option Int):=if (a0.size:Int) > 4096 then (some (([]:List Int),some 13)) else ((strings_IndexFunc.f a0).bind fun aki=>(if a0.toList=([]:List UInt8) then (ji.j0 k a0 0) else (ji.j0 k a0 aki)))
theorem ji.calls (k:Nat) (a0:ByteArray) (r1:List Int) (r2:Option Int) (w:World) (h:ji.f k a0=some (r1,r2)) :
    Calls Tryz.prog 94 #[.string a0] w fun e w' => ∃ v0_:Value,e = .returned (.tuple #[v0_,qm r2])∧Kd.V (Kd.int .u64) 25 w' w.heap.size (fun k_=>(w.heap.size≤k_)) v0_ r1∧Below w.heap.size w w':=by
 have yL:=Tryz.underlying27
 have hu64:=Tryz.underlying64
 have HB:=am (Below.refl w.heap.size w)
 have H:=am h
 unfold ji.f at H
 clear h
 replace H:=zs H
 rcases H with ⟨c2,H⟩|⟨c2,H⟩
 ·have uU:decide (4096<(a0.size:Int))=true:=decide_eq_true c2
  have LJ:decide (4096<a0.size)=true:=decide_eq_true (by omega)
  clear c2
  obtain ⟨rfl,rfl⟩:=zJ2 H
  go_enter Tryz.func94,Tryz.ntmps94
  go_wp2
  go_ret2
  exact ⟨_,z2,Kd.zg _ _ _ _ _,zB HB⟩
 have uU:decide (4096<(a0.size:Int))=false:=decide_eq_false c2
 have LJ:decide (4096<a0.size)=false:=decide_eq_false (by omega)
 clear c2
 replace H:=zo H
 obtain ⟨aki,A3,H⟩:=H
 go_enter Tryz.func94,Tryz.ntmps94
 go_upto_if 17 with (first|((with_reducible refine af (f:=147) rfl ?_);refine lg (some 15) rfl rfl Tryz.func147 (by kernel_rfl) rfl #[.string a0, .func (.func 148) #[] #[]] rfl (by (try simp only [List.map_toArray,List.map_cons,List.map_nil]);first|done|rfl|(simp only [List.length_drop,List.length_take];rfl)) ?_;(with_reducible refine (strings_IndexFunc.calls a0 aki _ A3.out).mono ?_);rintro e w5 ⟨rfl,hb⟩;refine ⟨_,rfl,?_⟩;have n0_:=zBs HB hb;clear HB;have HB:=n0_;clear n0_;(try clear hb);(try clear hb2);(try clear hk);(try clear hi)))
 (try simp only [Act.put,List.setIfInBounds_toArray,List.set_cons_zero,List.set_cons_succ])
 go_cut [4] (fun v4 wc => ∃ (kq:Nat) (apX:Int),v4 = .int .i64 apX∧ae (ji.j0 kq a0 apX=some (r1,r2))∧ae (kq≤k)∧ae (Below w.heap.size w wc))
 case first =>
  replace H:=zsk H
  rcases H with ⟨rF,Bg,H⟩|⟨rF,Bg,c6,H⟩
  (first|rw [rF]|(simp only [bI,dV];rw [rF])|rw [Bg]|rw [List.isEmpty_iff.mpr (beq_iff_eq.mp rF)]|rw [List.isEmpty_eq_false_iff.mpr (beq_eq_false_iff_ne.mp rF)]|skip)
  rotate_left
  (first|rw [rF]|(simp only [bI,dV];rw [rF])|rw [Bg]|rw [List.isEmpty_iff.mpr (beq_iff_eq.mp rF)]|rw [List.isEmpty_eq_false_iff.mpr (beq_eq_false_iff_ne.mp rF)]|skip)
  rotate_left
  all_goals (go_wp2)
  ·go_meet
   case rel=>exact ⟨_,(0),z1,H,⟨z5⟩,⟨zB HB⟩⟩
  go_meet
  case rel=>exact ⟨_,(aki),z1,H,⟨z5⟩,⟨zB HB⟩⟩
 case rest =>
  obtain ⟨kq,apX,rfl,H,HJ3,HB⟩:=hcut
  obtain _|kj3:=kq
  ·exact zz H rfl
  simp only [ji.j0] at H
  replace H:=awT H
  obtain ⟨wQ,H⟩:=H
  go_wp2
  go_loopg [0,5] kj3 (fun kq v0 v5 w' => ∃ (qf:ByteArray) (nD:List Int),v0 = .string qf∧ae (ji.l0 kq qf nD=some (r1,r2))∧ae (kq≤kj3)∧ae (Kd.V (Kd.int .u64) 25 w' w.heap.size (fun k_=>(w.heap.size≤k_)) v5 nD)∧ae (Below w.heap.size w w'))
  case atStart=>exact ⟨(a0),(([]:List Int)),z1,H,zL,⟨Kd.zg _ _ _ _ _⟩,⟨zB HB⟩⟩
  clear H
  obtain ⟨qf,nD,rfl,H,HK2,fA,HB⟩:=hrel
  obtain _|k2:=gk
  ·exact zz H rfl
  simp only [ji.l0] at H
  replace H:=zs H
  rcases H with ⟨c8,H⟩|⟨c8,H⟩
  have uD:decide (0<(qf.size:Int))=true:=decide_eq_true c8
  have Ey:decide (0<qf.size)=true:=decide_eq_true (by omega)
  clear c8
  generalize Q4:(mn (qf.size:Int) 19:Int)=ji9 at H
  have anF:(if 19<(qf.size:Int) then 19 else (qf.size:Int))=ji9:=Q4
  replace H:=zit H
  obtain ⟨qx,xx,H⟩:=H
  replace H:=zit H
  obtain ⟨mY,tN,H⟩:=H
  replace H:=zo H
  obtain ⟨⟨aAq,aAr⟩,A12,H⟩:=H
  try dsimp only at H
  rcases aAr with _|aHi
  replace H:=zb1 H
  try simp only [ak,aj]
  rotate_left
  replace H:=zb0 H
  try simp only [Option.getD_some] at H
  try simp only [ak,aj]
  obtain ⟨rfl,rfl⟩:=zJ2 H
  rotate_left
  have uD:decide (0<(qf.size:Int))=false:=decide_eq_false c8
  have Ey:decide (0<qf.size)=false:=decide_eq_false (by omega)
  clear c8
  obtain ⟨rfl,rfl⟩:=zJ2 H
  rotate_left
  all_goals (go_wp2_with (first|((with_reducible refine af (f:=149) rfl ?_);refine lg (some 35) rfl rfl Tryz.func149 (by kernel_rfl) rfl #[.string (qf.extract 0 ((ji9):Int).toNat), .int .i64 10, .int .i64 64] rfl (by (try simp only [List.map_toArray,List.map_cons,List.map_nil]);first|done|(simp only [Q4];rfl)|rfl|(simp only [List.length_drop,List.length_take];rfl)) ?_;(with_reducible refine (jl.calls _ _ _ _ _ _ A12.out).mono ?_);rintro e w13 ⟨rfl,hb⟩;refine ⟨_,rfl,?_⟩;replace fA:=zVb fA hb;replace HB:=zBs HB hb;clear hb;(try simp only [ak,aj]))))
  ·go_loopg [9,42] k2 (fun kq v9 v42 w' => ∃ (YZ:Int) (Y0:Int),v9 = .int .u64 YZ∧v42 = .int .i64 Y0∧ae (ji.l1 kq qf nD ji9 aAq YZ ji9 Y0=some (r1,r2))∧ae (kq≤k2)∧ae (Kd.V (Kd.int .u64) 25 w' w.heap.size (fun k_=>(w.heap.size≤k_)) u5 nD)∧ae (Below w.heap.size w w'))
   case atStart=>exact ⟨(1),(0),z1,z1,H,zL,⟨zV fA⟩,⟨zB HB⟩⟩
   clear H
   obtain ⟨YZ,Y0,rfl,rfl,H,HK3,fA,HB⟩:=hrel
   obtain _|k3:=gk
   ·exact zz H rfl
   simp only [ji.l1] at H
   replace H:=zsd H
   rcases H with ⟨uH,H⟩|⟨uH,H⟩
   rotate_left
   generalize ah6:(([YZ]:List Int):List Int)=aef at H
   have ah7:=zY ah6
   clear ah6
   replace H:=zo H
   obtain ⟨apU,A15,H⟩:=H
   replace H:=zo H
   obtain ⟨apV,A16,H⟩:=H
   replace H:=zo H
   obtain ⟨apW,A17,H⟩:=H
   replace H:=zit H
   obtain ⟨Yl,an0,H⟩:=H
   replace H:=zit H
   obtain ⟨aps,apt,H⟩:=H
   rotate_left
   all_goals (go_wp2_with (first|((with_reducible refine ay (N:=49) rfl ?_);refine Kd.yx (Kd.int .u64) _ 25 ?hg (N:=49) ?hd (xs:=([YZ]:List Int)) (inner := [.int .u64 YZ]) (ok:=fun _=>True) (okp:=fun _=>True) ?hr ?hp (fun _ hk=>hk) trivial (Below.refl _ _) (Nat.le_refl _) (by simp) ?_;(case hd=>rfl);(case hg=>rfl);(case hr=>first|(go_simp;done)|(go_simp;rfl));(case hp=>exact (jm.one (show Kd.M (Kd.int .u64) _ _ _ YZ [.int .u64 YZ] from rfl) (jm.none _ _)));intro aHj w20 aeg hb hg_ jf;clear hg_ jf;(first|rw [← ah7.out] at aeg|(simp only [Int.reduceToNat] at aeg;rw [← ah7.out] at aeg));replace fA:=am (Kd.iP (zV fA) (Kd.gV aeg) hb);have Bv:=am (Kd.eP (Kd.nM (M:=fun k_=>(w.heap.size≤k_)) aeg (zS HB) (fun k_ h_=>h_)) (zS HB));replace HB:=zBs HB hb;clear hb aeg;obtain ⟨abS,OA,abT⟩:=Kd.dG fA.out;subst abT;obtain ⟨Qs,EC,Yu⟩:=Kd.eF Bv.out;subst Yu)|((with_reducible refine af (f:=107) rfl ?_);refine zc (some 50) Tryz.func107 #[.slice abS nD.length OA, .slice Qs aef.length EC] (dD.calls _ _ _ _ _ _ _ _ _ (zC ((Kd.aX fA.out).2.2)) ((Kd.aX fA.out).2.1) (zC ((Kd.aW Bv.out).2.2)) ((Kd.aW Bv.out).2.1) A15.out) ?_;rintro e w24 ⟨aHk,rfl,ho0,hb⟩;refine ⟨_,rfl,?_⟩;replace fA:=zVb fA hb;have QG:=am (Kd.df (Kd.bD (ok':=fun k_=>(w.heap.size≤k_)∧some k_≠(.slice Qs aef.length EC:Value).ownBlock) ho0 (fun k_ hk_=>⟨(Nat.le_trans (zS HB) hk_),(Kd.fresh' (Kd.sU (zR Bv)) k_ hk_)⟩)) (zS HB));replace Bv:=zRb Bv hb;replace HB:=zBs HB hb;clear hb ho0)|((with_reducible refine af (f:=48) rfl ?_);refine zc (some 52) Tryz.func48 _ (rV.calls _ _ _ _ A16.out) ?_;rintro e w25 ⟨aHl,rfl,ho0,hb⟩;refine ⟨_,rfl,?_⟩;replace fA:=zVb fA hb;replace QG:=zVb QG hb;have Y1:=am (Kd.df (Kd.bD (ok':=fun k_=>(w.heap.size≤k_)∧some k_≠(.slice Qs aef.length EC:Value).ownBlock) ho0 (fun k_ hk_=>⟨(Nat.le_trans (zS HB) hk_),(Kd.fresh' (Kd.sU (zR Bv)) k_ hk_)⟩)) (zS HB));replace Bv:=zRb Bv hb;replace HB:=zBs HB hb;clear hb ho0;obtain ⟨aoE,abP,ZJ⟩:=Kd.dG QG.out;subst ZJ;obtain ⟨atO,atP,aoF⟩:=Kd.dG Y1.out;subst aoF)|((with_reducible refine af (f:=150) rfl ?_);refine zc (some 53) Tryz.func150 #[.slice aoE apU.length abP, .slice atO apV.length atP] (kV.calls _ (fun k_=>((w.heap.size≤k_)∧some k_≠(.slice Qs aef.length EC:Value).ownBlock)) _ _ _ (fun k_=>((w.heap.size≤k_)∧some k_≠(.slice Qs aef.length EC:Value).ownBlock)) _ _ _ _ _ QG.out Y1.out A17.out) ?_;rintro e w28 ⟨aHm,rfl,ho0,hb⟩;refine ⟨_,rfl,?_⟩;replace fA:=zVb fA hb;replace QG:=zVb QG hb;replace Y1:=zVb Y1 hb;have apY:=am (Kd.df (Kd.bD (ok':=fun k_=>(w.heap.size≤k_)∧some k_≠(.slice Qs aef.length EC:Value).ownBlock) ho0 (fun k_ hk_=>⟨Or.elim hk_ (fun hs_=>Or.elim hs_ (fun hs_=>hs_.1) (fun hs_=>hs_.1)) (fun hn_=>(Nat.le_trans (zS HB) hn_)),Or.elim hk_ (fun hs_=>Or.elim hs_ (fun hs_=>hs_.2) (fun hs_=>hs_.2)) (fun hn_=>(Kd.fresh' (Kd.sU (zR Bv)) k_ hn_))⟩)) (zS HB));replace Bv:=zRb Bv hb;replace HB:=zBs HB hb;clear hb ho0)))
   ·go_roundg k3
    case measure=>have:=HJ3.out;have:=HK2.out;have:=HK3.out;omega
    case rel=>exact ⟨(IntKind.u64.wrap (YZ * 10)),(wrap64 (Y0+1)),z1,z1,H,⟨by have:=HJ3.out;have:=HK2.out;have:=HK3.out;omega⟩,⟨zV fA⟩,⟨zB HB⟩⟩
   go_roundg k3
   case measure=>have:=HJ3.out;have:=HK2.out;have:=HK3.out;omega
   case rel=>exact ⟨(qf.extract (ji9:Int).toNat qf.size),(apW),(by first|rfl|(simp;done)|(simp only [← Q4] <;> (first|rfl|simp))|(simp [*];done)),H,⟨by have:=HJ3.out;have:=HK2.out;have:=HK3.out;omega⟩,⟨by (with_reducible repeat (first|apply Kd.iV|apply Kd.iW|apply Kd.iQ));exact Kd.bD apY.out (fun _ hk=>hk.1)⟩,⟨zB HB⟩⟩
  ·go_ret2
   exact ⟨_,by first|exact z3|(simp only [← Q4];exact z3)|exact z2,Kd.zg _ _ _ _ _,zB HB⟩
  go_ret2
  exact ⟨_,z2,zV fA,zB HB⟩
def qI.f (k:Nat) (l0:List Int):Option (Int):=(bG.f k l0).bind fun MF=>(if (MF.length:Int)=0 then (some 0) else (if 0≤(wrap64 ((MF.length:Int) - 1)) then (if (wrap64 ((MF.length:Int) - 1))<(MF.length:Int) then ((bits_Len64.f k (rd MF (wrap64 ((MF.length:Int) - 1)))).bind fun auM=>(some (wrap64 ((wrap64 (64 * (wrap64 ((MF.length:Int) - 1))))+auM)))) else (none)) else (none)))
theorem qI.calls (k:Nat) (A0:Option Addr) (c0:Nat) (l0:List Int) (r:Int) (w:World) (hr0:Kd.C (Kd.int .u64) w A0 l0.length l0) (hc0:l0.length≤c0) (h:qI.f k l0=some r) :
    Calls Tryz.prog 96 #[.slice A0 l0.length c0] w fun e w'=>e = .returned (.int .i64 r)∧Below w.heap.size w w':=by
 have HR0:=am hr0
 have HC0:=am hc0
 clear hr0 hc0
 have HB:=am (Below.refl w.heap.size w)
 have H:=am h
 unfold qI.f at H
 clear h
 replace H:=zo H
 obtain ⟨MF,A2,H⟩:=H
 replace H:=zsk H
 rcases H with ⟨pg,Jv,H⟩|⟨pg,Jv,c3,H⟩
 obtain rfl:=Option.some.inj H.out
 rotate_left
 have ajU:¬ (MF = []):=fun h_=>c3 (by rw [h_];rfl)
 generalize uI:(wrap64 ((MF.length:Int) - 1):Int)=ji6 at H
 (try rw [uI] at A2)
 have UN:(IntKind.i64.wrap ((MF.length:Int) - 1))=ji6:=(bI _).trans uI
 replace H:=zid H
 obtain ⟨wQ,H⟩:=H
 replace H:=zid H
 obtain ⟨uD,H⟩:=H
 replace H:=zo H
 obtain ⟨auM,A9,H⟩:=H
 obtain rfl:=Option.some.inj H.out
 rotate_left
 all_goals (go_enter Tryz.func96,Tryz.ntmps96;go_wp2_with (first|((with_reducible refine af (f:=103) rfl ?_);refine zc (some 4) Tryz.func103 #[.slice A0 l0.length c0] (bG.calls _ (fun k_=>k_<w.heap.size) _ _ _ _ _ (Kd.Ih HC0.out (Kd.nX (Kd.C_F (Kd.oM .u64) HR0.out) (zB HB))) A2.out) ?_;rintro e w10 ⟨aAs,rfl,ho0,hb⟩;refine ⟨_,rfl,?_⟩;have Y2:=am (Kd.df (Kd.bD (ok':=fun k_=>True) ho0 (fun k_ hk_=>trivial)) (zS HB));replace HB:=zBs HB hb;clear hb ho0;obtain ⟨ZZ,YR,YS⟩:=Kd.dG Y2.out;subst YS;have ac4:0≤((ji6):Int):=zD;have ac5:(ji6)<(MF.length:Int):=zD;obtain ⟨apZ,ap0,MG⟩:=Kd.dH (Kd.aX Y2.out).2.2 (ji6) ac4 ac5;cases ap0;replace ac4:=eq_true ac4;replace ac5:=eq_true ac5)|((with_reducible refine af (f:=152) rfl ?_);refine lg (some 18) rfl rfl Tryz.func152 (by kernel_rfl) rfl #[.int .u64 (rd MF (ji6))] rfl (by (try simp only [List.map_toArray,List.map_cons,List.map_nil]);first|done|(simp only [uI];rfl)|rfl|(simp only [List.length_drop,List.length_take];rfl)) ?_;(with_reducible refine (bits_Len64.calls _ _ _ _ A9.out).mono ?_);rintro e w' ⟨rfl,⟨nd,rfl⟩⟩;refine ⟨_,rfl,?_⟩)|((with_reducible refine af (f:=103) rfl ?_);refine zc (some 4) Tryz.func103 #[.slice A0 l0.length c0] (bG.calls _ (fun k_=>k_<w.heap.size) _ _ _ _ _ (Kd.Ih HC0.out (Kd.nX (Kd.C_F (Kd.oM .u64) HR0.out) (zB HB))) A2.out) ?_;rintro e w4 ⟨aAs,rfl,ho0,hb⟩;refine ⟨_,rfl,?_⟩;have Y2:=am (Kd.df (Kd.bD (ok':=fun k_=>True) ho0 (fun k_ hk_=>trivial)) (zS HB));replace HB:=zBs HB hb;clear hb ho0;obtain ⟨Ao5,co5,eo5⟩:=Kd.dG Y2.out;subst eo5)))
 ·go_ret
  exact ⟨z2,zB HB⟩
 go_ret
 exact ⟨by first|exact z3|(simp only [← uI];exact z3)|exact z2,zB HB⟩
def sF.j0:Nat→List Int→Int→Bool→Option (Int × Int × Bool × Option Int)
  | 0,_,_,_=>none
  | k+1,x0,x1,x17=>if x17=true then (some (0,0,false,some 1)) else ((qI.f k x0).bind fun aeh=>((ed.f k x0 (mx 0 (wrap64 (aeh - x1)))).bind fun QH=>(if QH.2.2.isNone=true then (if (QH.1.length:Int)=0 then (some (0,0,false,none)) else (if 0<(QH.1.length:Int) then (some (rd QH.1 0,mx 0 (wrap64 (aeh - x1)),QH.2.1,none)) else (none))) else (some (0,0,false,some (QH.2.2.getD 0))))))
def sF.f (k:Nat) (l0:List Int) (a1:Int):Option (Int × Int × Bool × Option Int):=if a1<1 then (sF.j0 k l0 a1 true) else (sF.j0 k l0 a1 (decide (a1 > 64)))
theorem sF.calls (k:Nat) (A0:Option Addr) (c0:Nat) (l0:List Int) (a1:Int) (r1:Int) (r2:Int) (r3:Bool) (r4:Option Int) (w:World) (hr0:Kd.C (Kd.int .u64) w A0 l0.length l0) (hc0:l0.length≤c0) (h:sF.f k l0 a1=some (r1,r2,r3,r4)) :
    Calls Tryz.prog 151 #[.slice A0 l0.length c0, .int .i64 a1] w fun e w'=>e = .returned (.tuple #[.int .u64 r1, .int .i64 r2, .bool r3,qm r4])∧Below w.heap.size w w':=by
 have yL:=Tryz.underlying27
 have hu64:=Tryz.underlying64
 have HR0:=am hr0
 have HC0:=am hc0
 clear hr0 hc0
 have HB:=am (Below.refl w.heap.size w)
 have H:=am h
 unfold sF.f at H
 clear h
 go_enter Tryz.func151,Tryz.ntmps151
 go_upto_region 1 with (fail)
 go_cut [17] (fun v17 wc => ∃ (kq:Nat) (GY:Bool),v17 = .bool GY∧ae (sF.j0 kq l0 a1 GY=some (r1,r2,r3,r4))∧ae (kq≤k)∧ae (Below w.heap.size w wc))
 case first =>
  replace H:=zsd H
  rcases H with ⟨kM,H⟩|⟨kM,H⟩
  (first|rw [kM]|(simp only [bI,dV];rw [kM])|rw [rY]|skip)
  rotate_left
  (first|rw [kM]|(simp only [bI,dV];rw [kM])|rw [rY]|skip)
  rotate_left
  all_goals (go_wp2)
  ·go_meet
   case rel=>exact ⟨_,(true),z1,H,⟨z5⟩,⟨zB HB⟩⟩
  go_meet
  case rel=>exact ⟨_,(decide (a1 > 64)),z1,H,⟨z5⟩,⟨zB HB⟩⟩
 case rest =>
  obtain ⟨kq,GY,rfl,H,HJ2,HB⟩:=hcut
  obtain _|kj2:=kq
  ·exact zz H rfl
  simp only [sF.j0] at H
  cases GY
  replace H:=zb0 H
  replace H:=zo H
  obtain ⟨aeh,A6,H⟩:=H
  generalize FN:(mx 0 (wrap64 (aeh - a1)):Int)=ji7 at H
  (try rw [FN] at A6)
  have YJ:(if 0<(wrap64 (aeh - a1)) then (wrap64 (aeh - a1)) else 0)=ji7:=FN
  replace H:=zo H
  obtain ⟨⟨ah8,aHn,aAt⟩,A8,H⟩:=H
  try dsimp only at H
  rcases aAt with _|aHo
  replace H:=zb1 H
  try simp only [ak,aj]
  replace H:=zsk H
  rcases H with ⟨yI,Ed,H⟩|⟨yI,Ed,c9,H⟩
  obtain ⟨rfl,rfl,rfl,rfl⟩:=zJ4 H
  rotate_left
  have aow:¬ (ah8 = []):=fun h_=>c9 (by rw [h_];rfl)
  replace H:=zi H
  obtain ⟨c13,H⟩:=H
  have qJ:decide (0<(ah8.length:Int))=true:=decide_eq_true c13
  have Jw:decide (0<ah8.length)=true:=decide_eq_true (by omega)
  clear c13
  obtain ⟨rfl,rfl,rfl,rfl⟩:=zJ4 H
  rotate_left
  replace H:=zb0 H
  try simp only [Option.getD_some] at H
  try simp only [ak,aj]
  obtain ⟨rfl,rfl,rfl,rfl⟩:=zJ4 H
  rotate_left
  replace H:=zb1 H
  obtain ⟨rfl,rfl,rfl,rfl⟩:=zJ4 H
  rotate_left
  all_goals (go_wp2_with (first|((with_reducible refine af (f:=96) rfl ?_);refine zc (some 20) Tryz.func96 #[.slice A0 l0.length c0] (qI.calls _ _ _ _ _ _ (zC (Kd.kw HR0.out HB.out)) HC0.out A6.out) ?_;rintro e w10 ⟨rfl,hb⟩;refine ⟨_,rfl,?_⟩;replace HB:=zBs HB hb;clear hb)|((with_reducible refine af (f:=52) rfl ?_);refine lg (some 27) rfl rfl Tryz.func52 (by kernel_rfl) rfl #[.slice A0 l0.length c0, .int .i64 ji7] rfl (by (try simp only [List.map_toArray,List.map_cons,List.map_nil]);first|done|(simp only [FN];rfl)|rfl|(simp only [List.length_drop,List.length_take];rfl)) ?_;(with_reducible refine (ed.calls _ (fun k_=>k_<w.heap.size) _ _ _ _ _ _ _ _ ?fF A8.out).mono ?_);(case fF=>exact Kd.Ih HC0.out (Kd.nX (Kd.C_F (Kd.oM .u64) HR0.out) (zB HB)));rintro e w11 ⟨aAu,rfl,ho0,hb⟩;refine ⟨_,rfl,?_⟩;have Y3:=am (Kd.df (Kd.bD (ok':=fun k_=>True) ho0 (fun k_ hk_=>trivial)) (zS HB));replace HB:=zBs HB hb;clear hb ho0;(try simp only [ak,aj]);obtain ⟨Ez,Ad,LW⟩:=Kd.dG Y3.out;subst LW;have ap1:0≤(0:Int):=(by omega);have ap2:0<(ah8.length:Int):=zD;obtain ⟨aAv,aAw,VF⟩:=Kd.dH (Kd.aX Y3.out).2.2 0 ap1 ap2;cases aAw;have aAx:(0<ah8.length)=True:=eq_true (by omega);(try rw [show ((0:Int)).toNat=0 from rfl] at VF);(try rw [Addr.add_zero'] at VF);replace ap1:=eq_true ap1;replace ap2:=eq_true ap2)|((with_reducible refine af (f:=52) rfl ?_);refine lg (some 27) rfl rfl Tryz.func52 (by kernel_rfl) rfl #[.slice A0 l0.length c0, .int .i64 ji7] rfl (by (try simp only [List.map_toArray,List.map_cons,List.map_nil]);first|done|(simp only [FN];rfl)|rfl|(simp only [List.length_drop,List.length_take];rfl)) ?_;(with_reducible refine (ed.calls _ (fun k_=>k_<w.heap.size) _ _ _ _ _ _ _ _ ?fF A8.out).mono ?_);(case fF=>exact Kd.Ih HC0.out (Kd.nX (Kd.C_F (Kd.oM .u64) HR0.out) (zB HB)));rintro e w11 ⟨aAu,rfl,ho0,hb⟩;refine ⟨_,rfl,?_⟩;have Y3:=am (Kd.df (Kd.bD (ok':=fun k_=>True) ho0 (fun k_ hk_=>trivial)) (zS HB));replace HB:=zBs HB hb;clear hb ho0;(try simp only [ak,aj]);obtain ⟨ab8,Yr,adY⟩:=Kd.dG Y3.out;subst adY)))
  all_goals (refine bodyPost_ret (Jd (rs := [.tmp 4, .tmp 5, .tmp 6, .tmp 7]) rfl (by simp) (.tmp (.tmp (.tmp (.tmp .nil))))) rfl ?_)
  rotate_left
  rotate_left
  rotate_left
  ·exact ⟨z2,zB HB⟩
  all_goals (exact ⟨by first|exact z3|(simp only [← FN];exact z3)|exact z2,zB HB⟩)
def pq.f (k:Nat) (a0:Bool) (l1:List Int) (a2:Int) (a3:Bool):Option (Int × Bool × Int × Int × Int × Bool × Option Int):=(sF.f k l1 64).bind fun MH=>(if MH.2.2.2.isNone=true then (if MH.2.2.1=true then ((eG.f k a0 MH.1 0 (wrap64 ((wrap64 (a2+MH.2.1)) - 64)) true).bind fun MI=>(some (MI.1,MI.2.1,MI.2.2.1,MI.2.2.2.1,MI.2.2.2.2.1,MI.2.2.2.2.2.1,MI.2.2.2.2.2.2))) else ((eG.f k a0 MH.1 0 (wrap64 ((wrap64 (a2+MH.2.1)) - 64)) a3).bind fun MJ=>(some (MJ.1,MJ.2.1,MJ.2.2.1,MJ.2.2.2.1,MJ.2.2.2.2.1,MJ.2.2.2.2.2.1,MJ.2.2.2.2.2.2)))) else (some (0,false,0,0,0,false,some (MH.2.2.2.getD 0))))
theorem pq.calls (k:Nat) (a0:Bool) (A1:Option Addr) (c1:Nat) (l1:List Int) (a2:Int) (a3:Bool) (r1:Int) (r2:Bool) (r3:Int) (r4:Int) (r5:Int) (r6:Bool) (r7:Option Int) (w:World) (hr1:Kd.C (Kd.int .u64) w A1 l1.length l1) (hc1:l1.length≤c1) (h:pq.f k a0 l1 a2 a3=some (r1,r2,r3,r4,r5,r6,r7)) :
    Calls Tryz.prog 95 #[.bool a0, .slice A1 l1.length c1, .int .i64 a2, .bool a3] w fun e w'=>e = .returned (.tuple #[.agg #[.int .i64 r1, .bool r2, .int .i64 r3, .int .u64 r4, .int .u64 r5, .bool r6],qm r7])∧Below w.heap.size w w':=by
 have ad3:=Tryz.underlying81
 have yL:=Tryz.underlying27
 have hu64:=Tryz.underlying64
 have HR1:=am hr1
 have HC1:=am hc1
 clear hr1 hc1
 have HB:=am (Below.refl w.heap.size w)
 have H:=am h
 unfold pq.f at H
 clear h
 replace H:=zo H
 obtain ⟨⟨aHp,aHq,aAy,aAz⟩,A5,H⟩:=H
 try dsimp only at H
 rcases aAz with _|aHr
 replace H:=zb1 H
 try simp only [ak,aj]
 cases aAy
 replace H:=zb0 H
 replace H:=zo H
 obtain ⟨⟨aAA,aAB,aAC,aAD,aAE,aAF,aHs⟩,A12,H⟩:=H
 try dsimp only at H
 obtain ⟨rfl,rfl,rfl,rfl,rfl,rfl,rfl⟩:=zJ7 H
 rotate_left
 replace H:=zb1 H
 replace H:=zo H
 obtain ⟨⟨aAG,aAH,aAI,aAJ,aAK,aAL,aHt⟩,A7,H⟩:=H
 try dsimp only at H
 obtain ⟨rfl,rfl,rfl,rfl,rfl,rfl,rfl⟩:=zJ7 H
 rotate_left
 replace H:=zb0 H
 try simp only [Option.getD_some] at H
 try simp only [ak,aj]
 obtain ⟨rfl,rfl,rfl,rfl,rfl,rfl,rfl⟩:=zJ7 H
 rotate_left
 all_goals (go_enter Tryz.func95,Tryz.ntmps95;go_wp2_with (first|((with_reducible refine ay (N:=8) rfl ?_);refine zx 8 81 #[.int .i64 0, .bool false, .int .i64 0, .int .u64 0, .int .u64 0, .bool false] ?_;intro ac6 hg w13 hbox hb;have Bz:=am (hbox);have aAM:=zG hg HB;have aAN:=zG hg HB;replace HB:=zBs HB hb;clear hb hbox hg)|((with_reducible refine af (f:=151) rfl ?_);refine zc (some 16) Tryz.func151 #[.slice A1 l1.length c1, .int .i64 64] (sF.calls _ _ _ _ _ _ _ _ _ _ (zC (Kd.kw HR1.out HB.out)) HC1.out A5.out) ?_;rintro e w14 ⟨rfl,hb⟩;refine ⟨_,rfl,?_⟩;replace Bz:=zKb Bz hb;replace HB:=zBs HB hb;clear hb;(try simp only [ak,aj]);obtain ⟨_,_,_,_,_,_,_,_,_,_,_,_⟩:=zf6 Bz)|((with_reducible refine af (f:=93) rfl ?_);refine zc (some 35) Tryz.func93 _ (eG.calls _ _ _ _ _ _ _ _ _ _ _ _ _ _ A12.out) ?_;rintro e w15 ⟨rfl,hb⟩;refine ⟨_,rfl,?_⟩;replace Bz:=zKb Bz hb;replace HB:=zBs HB hb;clear hb;(try simp only [ak,aj]);obtain ⟨_,_,_,_,_,_,_,_,_,_,_,_⟩:=zf6 Bz)|((with_reducible refine af (f:=93) rfl ?_);refine zc (some 35) Tryz.func93 _ (eG.calls _ _ _ _ _ _ _ _ _ _ _ _ _ _ A7.out) ?_;rintro e w10 ⟨rfl,hb⟩;refine ⟨_,rfl,?_⟩;replace Bz:=zKb Bz hb;replace HB:=zBs HB hb;clear hb;(try simp only [ak,aj]);obtain ⟨_,_,_,_,_,_,_,_,_,_,_,_⟩:=zf6 Bz)))
 ·refine bodyPost_ret (bJ rfl _ _ ac6 81 #[.int .i64 aAA, .bool aAB, .int .i64 aAC, .int .u64 aAD, .int .u64 aAE, .bool aAF] (0,0) _ rfl (zKp Bz) Tryz.underlying81 rfl (by kernel_rfl)) rfl ?_
  exact ⟨z2,zB HB⟩
 ·refine bodyPost_ret (bJ rfl _ _ ac6 81 #[.int .i64 aAG, .bool aAH, .int .i64 aAI, .int .u64 aAJ, .int .u64 aAK, .bool aAL] (0,0) _ rfl (zKp Bz) Tryz.underlying81 rfl (by kernel_rfl)) rfl ?_
  exact ⟨z2,zB HB⟩
 refine bodyPost_ret (bJ rfl _ _ ac6 81 #[.int .i64 0, .bool false, .int .i64 0, .int .u64 0, .int .u64 0, .bool false] (0,0) _ rfl (zKp Bz) Tryz.underlying81 rfl (by kernel_rfl)) rfl ?_
 exact ⟨z2,zB HB⟩
def sD.l0:Nat→List Int→List Int→Int→Option (Int)
  | 0,_,_,_=>none
  | k+1,x0,x1,x5=>if x5 ≥ 0 then (if 0≤x5 then (if x5<(x0.length:Int) then (if x5<(x1.length:Int) then (if (rd x0 x5)=(rd x1 x5) then (sD.l0 k x0 x1 (wrap64 (x5 - 1))) else (if (rd x0 x5)<(rd x1 x5) then (some (-1)) else (some 1))) else (none)) else (none)) else (none)) else (some 0)
def sD.f (k:Nat) (l0:List Int) (l1:List Int):Option (Int):=(bG.f k l0).bind fun DV=>((bG.f k l1).bind fun EL=>(if (DV.length:Int)=(EL.length:Int) then (sD.l0 k DV EL (wrap64 ((DV.length:Int) - 1))) else (if (DV.length:Int)<(EL.length:Int) then (some (-1)) else (some 1))))
theorem sD.calls (k:Nat) (A0:Option Addr) (c0:Nat) (l0:List Int) (A1:Option Addr) (c1:Nat) (l1:List Int) (r:Int) (w:World) (hr0:Kd.C (Kd.int .u64) w A0 l0.length l0) (hc0:l0.length≤c0) (hr1:Kd.C (Kd.int .u64) w A1 l1.length l1) (hc1:l1.length≤c1) (h:sD.f k l0 l1=some r) :
    Calls Tryz.prog 153 #[.slice A0 l0.length c0, .slice A1 l1.length c1] w fun e w'=>e = .returned (.int .i64 r)∧Below w.heap.size w w':=by
 have HR0:=am hr0
 have HC0:=am hc0
 clear hr0 hc0
 have HR1:=am hr1
 have HC1:=am hc1
 clear hr1 hc1
 have HB:=am (Below.refl w.heap.size w)
 have H:=am h
 unfold sD.f at H
 clear h
 replace H:=zo H
 obtain ⟨DV,A3,H⟩:=H
 replace H:=zo H
 obtain ⟨EL,A4,H⟩:=H
 replace H:=zs H
 rcases H with ⟨c5,H⟩|⟨c5,H⟩
 have rG:((DV.length:Int) == (EL.length:Int))=true:=beq_iff_eq.mpr c5
 have xw:((DV.length:Int) != (EL.length:Int))=false:=bne_eq_false_iff_eq.mpr c5
 have auN:(DV.length == EL.length)=true:=by first|simpa using c5|(simp at c5 ⊢;omega)
 clear c5
 rotate_left
 have rG:((DV.length:Int) == (EL.length:Int))=false:=beq_eq_false_iff_ne.mpr c5
 have xw:((DV.length:Int) != (EL.length:Int))=true:=bne_iff_ne.mpr c5
 have auN:(DV.length == EL.length)=false:=by first|simpa using c5|(simp at c5 ⊢;omega)
 replace H:=zs H
 rcases H with ⟨c16,H⟩|⟨c16,H⟩
 have Dj:decide ((DV.length:Int)<(EL.length:Int))=true:=decide_eq_true c16
 have Qn:decide (DV.length<EL.length)=true:=decide_eq_true (Int.ofNat_lt.mp c16)
 clear c16
 obtain rfl:=Option.some.inj H.out
 rotate_left
 have Dj:decide ((DV.length:Int)<(EL.length:Int))=false:=decide_eq_false c16
 have Qn:decide (DV.length<EL.length)=false:=decide_eq_false (fun h=>c16 (Int.ofNat_lt.mpr h))
 clear c16
 obtain rfl:=Option.some.inj H.out
 rotate_left
 all_goals (go_enter Tryz.func153,Tryz.ntmps153;go_wp2_with (first|(go_at_call 103;(with_reducible refine (bG.calls _ (fun k_=>k_<w.heap.size) _ _ _ _ _ ?fF A3.out).mono ?_);(case fF=>exact Kd.Ih HC0.out (Kd.nX (Kd.C_F (Kd.oM .u64) HR0.out) (zB HB)));rintro e w6 ⟨auO,rfl,ho0,hb⟩;have yS:=am (Kd.df (Kd.bD (ok':=fun k_=>True) ho0 (fun k_ hk_=>trivial)) (zS HB));replace HB:=zBs HB hb;clear hb ho0)|(go_at_call 103;(with_reducible refine (bG.calls _ (fun k_=>k_<w.heap.size) _ _ _ _ _ ?fF A4.out).mono ?_);(case fF=>exact Kd.Ih HC1.out (Kd.nX (Kd.C_F (Kd.oM .u64) HR1.out) (zB HB)));rintro e w7 ⟨auP,rfl,ho0,hb⟩;replace yS:=zVb yS hb;have QI:=am (Kd.df (Kd.bD (ok':=fun k_=>True) ho0 (fun k_ hk_=>trivial)) (zS HB));replace HB:=zBs HB hb;clear hb ho0;obtain ⟨Ao8,co8,eo8⟩:=Kd.dG yS.out;subst eo8;obtain ⟨Ao9,co9,eo9⟩:=Kd.dG QI.out;subst eo9)))
 all_goals (repeat (go_quiet (first|(go_at_call 103;(with_reducible refine (bG.calls k (fun k_=>k_<w.heap.size) _ _ l0 DV _ ?fF A3.out).mono ?_);(case fF=>exact Kd.Ih HC0.out (Kd.nX (Kd.C_F (Kd.oM .u64) HR0.out) (zB HB)));rintro e w6 ⟨auO,rfl,ho0,hb⟩;have n0_:=am (Kd.df (Kd.bD (ok':=fun k_=>True) ho0 (fun k_ hk_=>trivial)) (zS HB));have n1_:=zBs HB hb;clear HB;have yS:=n0_;have HB:=n1_;clear n0_ n1_;(try clear hb);(try clear hb2);(try clear hk);(try clear hi);(try clear ho0))|(go_at_call 103;(with_reducible refine (bG.calls k (fun k_=>k_<w.heap.size) _ _ l1 EL _ ?fF A4.out).mono ?_);(case fF=>exact Kd.Ih HC1.out (Kd.nX (Kd.C_F (Kd.oM .u64) HR1.out) (zB HB)));rintro e w7 ⟨auP,rfl,ho0,hb⟩;have n0_:=zVb yS hb;have n1_:=am (Kd.df (Kd.bD (ok':=fun k_=>True) ho0 (fun k_ hk_=>trivial)) (zS HB));have n2_:=zBs HB hb;clear yS;clear HB;have yS:=n0_;have QI:=n1_;have HB:=n2_;clear n0_ n1_ n2_;(try clear hb);(try clear hb2);(try clear hk);(try clear hi);(try clear ho0);obtain ⟨Ao8,co8,eo8⟩:=Kd.dG yS.out;subst eo8;obtain ⟨Ao9,co9,eo9⟩:=Kd.dG QI.out;subst eo9));try go_wp2_with (first|(go_at_call 103;(with_reducible refine (bG.calls k (fun k_=>k_<w.heap.size) _ _ l0 DV _ ?fF A3.out).mono ?_);(case fF=>exact Kd.Ih HC0.out (Kd.nX (Kd.C_F (Kd.oM .u64) HR0.out) (zB HB)));rintro e w6 ⟨auO,rfl,ho0,hb⟩;have n0_:=am (Kd.df (Kd.bD (ok':=fun k_=>True) ho0 (fun k_ hk_=>trivial)) (zS HB));have n1_:=zBs HB hb;clear HB;have yS:=n0_;have HB:=n1_;clear n0_ n1_;(try clear hb);(try clear hb2);(try clear hk);(try clear hi);(try clear ho0))|(go_at_call 103;(with_reducible refine (bG.calls k (fun k_=>k_<w.heap.size) _ _ l1 EL _ ?fF A4.out).mono ?_);(case fF=>exact Kd.Ih HC1.out (Kd.nX (Kd.C_F (Kd.oM .u64) HR1.out) (zB HB)));rintro e w7 ⟨auP,rfl,ho0,hb⟩;have n0_:=zVb yS hb;have n1_:=am (Kd.df (Kd.bD (ok':=fun k_=>True) ho0 (fun k_ hk_=>trivial)) (zS HB));have n2_:=zBs HB hb;clear yS;clear HB;have yS:=n0_;have QI:=n1_;have HB:=n2_;clear n0_ n1_ n2_;(try clear hb);(try clear hb2);(try clear hk);(try clear hi);(try clear ho0);obtain ⟨Ao8,co8,eo8⟩:=Kd.dG yS.out;subst eo8;obtain ⟨Ao9,co9,eo9⟩:=Kd.dG QI.out;subst eo9))))
 ·go_loopg [5] k (fun kq v5 w' => ∃ (ig:Int),v5 = .int .i64 ig∧ae (sD.l0 kq DV EL ig=some r)∧ae (kq≤k)∧ae (Kd.V (Kd.int .u64) 25 w' w.heap.size (fun _=>True) (.slice Ao8 DV.length co8) DV)∧ae (Kd.V (Kd.int .u64) 25 w' w.heap.size (fun _=>True) (.slice Ao9 EL.length co9) EL)∧ae (Below w.heap.size w w'))
  case atStart=>exact ⟨(wrap64 ((DV.length:Int) - 1)),z1,H,zL,⟨zV yS⟩,⟨zV QI⟩,⟨zB HB⟩⟩
  clear H
  obtain ⟨ig,rfl,H,HK1,iU,BK,HB⟩:=hrel
  obtain _|k1:=gk
  ·exact zz H rfl
  simp only [sD.l0] at H
  replace H:=zf H
  rcases H with ⟨qx,H⟩|⟨qx,H⟩
  replace H:=zid H
  obtain ⟨mY,H⟩:=H
  replace H:=zid H
  obtain ⟨nO,H⟩:=H
  replace H:=zid H
  obtain ⟨qJ,H⟩:=H
  replace H:=zsk H
  rcases H with ⟨uH,G5,H⟩|⟨uH,G5,c14,H⟩
  obtain ⟨auQ,auR,Y4,rfl,VG⟩:=zA (Kd.dH (Kd.aX iU.out).2.2 ig)
  obtain ⟨auS,auT,Y5,rfl,VH⟩:=zA (Kd.dH (Kd.aX BK.out).2.2 ig)
  rotate_left
  replace H:=zsd H
  rcases H with ⟨Bf,H⟩|⟨Bf,H⟩
  obtain rfl:=Option.some.inj H.out
  obtain ⟨auQ,auR,Y4,rfl,VG⟩:=zA (Kd.dH (Kd.aX iU.out).2.2 ig)
  obtain ⟨auS,auT,Y5,rfl,VH⟩:=zA (Kd.dH (Kd.aX BK.out).2.2 ig)
  have ac7:0≤(ig:Int):=zD
  have ac8:ig<(DV.length:Int):=zD
  obtain ⟨ac9,ap3,ada⟩:=Kd.dH (Kd.aX iU.out).2.2 ig ac7 ac8
  obtain rfl:Y4=ac9:=(by injection ap3)
  replace ac7:=eq_true ac7
  replace ac8:=eq_true ac8
  have adb:0≤(ig:Int):=zD
  have adc:ig<(EL.length:Int):=zD
  obtain ⟨ade,ap4,adf⟩:=Kd.dH (Kd.aX BK.out).2.2 ig adb adc
  obtain rfl:Y5=ade:=(by injection ap4)
  replace adb:=eq_true adb
  replace adc:=eq_true adc
  rotate_left
  obtain rfl:=Option.some.inj H.out
  obtain ⟨auQ,auR,Y4,rfl,VG⟩:=zA (Kd.dH (Kd.aX iU.out).2.2 ig)
  obtain ⟨auS,auT,Y5,rfl,VH⟩:=zA (Kd.dH (Kd.aX BK.out).2.2 ig)
  have ac7:0≤(ig:Int):=zD
  have ac8:ig<(DV.length:Int):=zD
  obtain ⟨ac9,ap3,ada⟩:=Kd.dH (Kd.aX iU.out).2.2 ig ac7 ac8
  obtain rfl:Y4=ac9:=(by injection ap3)
  replace ac7:=eq_true ac7
  replace ac8:=eq_true ac8
  have adb:0≤(ig:Int):=zD
  have adc:ig<(EL.length:Int):=zD
  obtain ⟨ade,ap4,adf⟩:=Kd.dH (Kd.aX BK.out).2.2 ig adb adc
  obtain rfl:Y5=ade:=(by injection ap4)
  replace adb:=eq_true adb
  replace adc:=eq_true adc
  rotate_left
  obtain rfl:=Option.some.inj H.out
  rotate_left
  all_goals (go_wp2;repeat (go_quiet (fail);try go_wp2))
  ·go_roundg k1
   case measure=>have:=HK1.out;omega
   case rel=>exact ⟨(wrap64 (ig - 1)),z1,H,(zH HK1),⟨zV iU⟩,⟨zV BK⟩,⟨zB HB⟩⟩
  ·go_ret
   exact ⟨z2,zB HB⟩
  ·go_ret
   exact ⟨z2,zB HB⟩
  go_ret
  exact ⟨z2,zB HB⟩
 ·go_ret
  exact ⟨z2,zB HB⟩
 go_ret
 exact ⟨z2,zB HB⟩
mutual
def fQ.l0:Nat→Int→Int→Int→Int→Int→Option (Int)
  | 0,_,_,_,_,_=>none
  | k+1,x2,x3,x4,x11,x12=>(bits_Mul64.f x11 x4).bind fun adg=>(if adg.1<x12 then (fQ.j1 k x2 x3 x4 x11 x12 true) else (if adg.1=x12 then (fQ.j1 k x2 x3 x4 x11 x12 (decide (adg.2≤x2))) else (fQ.j1 k x2 x3 x4 x11 x12 false)))
def fQ.j1:Nat→Int→Int→Int→Int→Int→Bool→Option (Int)
  | 0,_,_,_,_,_,_=>none
  | k+1,x2,x3,x4,x11,x12,x43=>if x43=true then (some x11) else (if (IntKind.u64.wrap (x12+x3))<x3 then (some (IntKind.u64.wrap (x11 - 1))) else (fQ.l0 k x2 x3 x4 (IntKind.u64.wrap (x11 - 1)) (IntKind.u64.wrap (x12+x3))))
end
def fQ.f (k:Nat) (a0:Int) (a1:Int) (a2:Int) (a3:Int) (a4:Int):Option (Int):=if a0 ≥ a3 then (some 18446744073709551615) else ((aQ.f k a0 a1 a3).bind fun ah9=>(fQ.l0 k a2 a3 a4 ah9.1 ah9.2))
theorem fQ.calls (k:Nat) (a0:Int) (a1:Int) (a2:Int) (a3:Int) (a4:Int) (r:Int) (w:World) (h:fQ.f k a0 a1 a2 a3 a4=some r) :
    Calls Tryz.prog 192 #[.int .u64 a0, .int .u64 a1, .int .u64 a2, .int .u64 a3, .int .u64 a4] w fun e w'=>e = .returned (.int .u64 r)∧dX w w':=by
 have H:=am h
 unfold fQ.f at H
 clear h
 replace H:=zf H
 rcases H with ⟨rF,H⟩|⟨rF,H⟩
 obtain rfl:=Option.some.inj H.out
 rotate_left
 replace H:=zo H
 obtain ⟨⟨aAO,aAP⟩,A7,H⟩:=H
 try dsimp only at H
 rotate_left
 all_goals (go_enter Tryz.func192,Tryz.ntmps192;go_wp2_with (first|((with_reducible refine af (f:=164) rfl ?_);refine zc (some 22) Tryz.func164 _ (aQ.calls _ _ _ _ _ _ _ A7.out) ?_;rintro e w' ⟨rfl,⟨nd,rfl⟩⟩;refine ⟨_,rfl,?_⟩)))
 ·go_ret
  exact ⟨z1,z4⟩
 go_loopg [11,12] k (fun kq v11 v12 w' => ∃ (mf:Int) (VI:Int),v11 = .int .u64 mf∧v12 = .int .u64 VI∧ae (fQ.l0 kq a2 a3 a4 mf VI=some r)∧ae (kq≤k)∧dX w w')
 case atStart=>exact ⟨(aAO),(aAP),z1,z1,H,zL,z4⟩
 clear H
 obtain ⟨mf,VI,rfl,rfl,H,HK1,⟨m1,rfl⟩⟩:=hrel
 obtain _|k1:=gk
 ·exact zz H rfl
 simp only [fQ.l0] at H
 replace H:=zo H
 obtain ⟨⟨aHu,aAQ⟩,A8,H⟩:=H
 try dsimp only at H
 go_upto_region 5 with (first|((with_reducible refine af (f:=178) rfl ?_);refine zc (some 28) Tryz.func178 _ (bits_Mul64.calls _ _ _ _ _ A8.out) ?_;rintro e w' ⟨rfl,⟨nd,rfl⟩⟩;refine ⟨_,rfl,?_⟩))
 (try simp only [Act.put,List.setIfInBounds_toArray,List.set_cons_zero,List.set_cons_succ])
 go_cut [43] (fun v43 wc => ∃ (kq:Nat) (Y6:Bool),v43 = .bool Y6∧ae (fQ.j1 kq a2 a3 a4 mf VI Y6=some r)∧ae (kq≤k1)∧dX w wc)
 case first =>
  replace H:=zsd H
  rcases H with ⟨qx,H⟩|⟨qx,H⟩
  (first|rw [qx]|(simp only [bI,dV];rw [qx])|rw [xx]|skip)
  rotate_left
  (first|rw [qx]|(simp only [bI,dV];rw [qx])|rw [xx]|skip)
  replace H:=zsk H
  rcases H with ⟨mY,tN,H⟩|⟨mY,tN,c11,H⟩
  rotate_left
  rotate_left
  all_goals (go_wp2)
  ·go_meet
   case rel=>exact ⟨_,(true),z1,H,⟨by have:=HK1.out;first|omega|exact Nat.le_refl _⟩,z4⟩
  ·go_meet
   case rel=>exact ⟨_,(decide (aAQ≤a2)),z1,H,⟨by have:=HK1.out;first|omega|exact Nat.le_refl _⟩,z4⟩
  go_meet
  case rel=>exact ⟨_,(false),z1,H,⟨by have:=HK1.out;first|omega|exact Nat.le_refl _⟩,z4⟩
 case rest =>
  obtain ⟨kq,Y6,rfl,H,HJ8,⟨mc8,rfl⟩⟩:=hcut
  obtain _|kj8:=kq
  ·exact zz H rfl
  simp only [fQ.j1] at H
  cases Y6
  replace H:=zb0 H
  replace H:=zsd H
  rcases H with ⟨qJ,H⟩|⟨qJ,H⟩
  obtain rfl:=Option.some.inj H.out
  rotate_left
  rotate_left
  replace H:=zb1 H
  obtain rfl:=Option.some.inj H.out
  rotate_left
  all_goals (go_wp2)
  ·go_ret
   exact ⟨z1,z4⟩
  ·go_roundg kj8
   case measure=>have:=HK1.out;have:=HJ8.out;omega
   case rel=>exact ⟨(IntKind.u64.wrap (mf - 1)),(IntKind.u64.wrap (VI+a3)),z1,z1,H,⟨by have:=HK1.out;have:=HJ8.out;omega⟩,z4⟩
  go_ret
  exact ⟨z1,z4⟩
end Go.Proofs.Yy.PTx
end
