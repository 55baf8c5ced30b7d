/- Part 15. -/
import Derived.Test.YtpfnkbnepcchgaaGreatDoorKTOAM
set_option linter.unusedSimpArgs false
set_option linter.unusedVariables false
section
set_option maxHeartbeats 8000000
set_option maxRecDepth 100000
namespace Go.Proofs.Yy.PTx
open Go.RowKit Go.Proofs.Yy.Z Go.Proofs.Yw.PrintWords Go.Proofs.Yw.PrintLast Go.Proofs.Yw.PrintMore
open Go.Proofs.Yy.M
attribute [local go_sem] dP eU lV lX lW lU
attribute [local go_sem] iq ik jE jD gu gq iE iD
def pg.f (k:Nat)(l0:List Int):Option (Int):=(bH.f k l0).bind fun MO=>(if (MO.length:Int)=0 then (some 0) else (if 0≤(wrap64 ((MO.length:Int)-1)) then (if (wrap64 ((MO.length:Int)-1))<(MO.length:Int) then ((bits_Len64.f k (rd MO (wrap64 ((MO.length:Int)-1)))).bind fun avW=>(some (wrap64 ((wrap64 (64*(wrap64 ((MO.length:Int)-1))))+avW)))) else (none)) else (none)))
theorem pg.calls (k:Nat)(A0:Option Addr)(c0:Nat)(l0:List Int)(r:Int)(w:World)(hr0:Kd.C (Kd.int .u64) w A0 l0.length l0)(hc0:l0.length≤c0)(h:pg.f k l0=some r) :
    Calls Tryz.prog 96 #[.slice A0 l0.length c0] w fun e w'=>e=.returned (.int .i64 r)∧Below w.heap.size w w':=by
 have HR0:=am hr0;have HC0:=am hc0;clear hr0 hc0;have HB:=am (Below.refl w.heap.size w);have H:=am h;unfold pg.f at H;clear h;replace H:=zo H;obtain⟨MO,A2,H⟩:=H;replace H:=zsk H;rcases H with⟨pK,Kv,H⟩|⟨pK,Kv,c3,H⟩;obtain rfl:=Option.some.inj H.out;rotate_left;have ap7:¬ (MO=[]):=fun h_=>c3 (by rw[h_];rfl);generalize uS:(wrap64 ((MO.length:Int)-1):Int)=ji6 at H
 (try rw[uS]at A2)
 have Vk:(IntKind.i64.wrap ((MO.length:Int)-1))=ji6:=(bW _).trans uS;replace H:=zid H;obtain⟨yE,H⟩:=H;replace H:=zid H;obtain⟨uz,H⟩:=H;replace H:=zo H;obtain⟨avW,A9,H⟩:=H;obtain rfl:=Option.some.inj H.out;rotate_left
 all_goals (go_enter Tryz.func96,Tryz.ntmps96;go_wp2_with (first|((with_reducible refine af (f:=103) rfl ?_);refine zc (some 4) Tryz.func103 #[.slice A0 l0.length c0] (bH.calls _ (fun k_=>k_<w.heap.size) _ _ _ _ _ (Kd.IQ HC0.out (Kd.oK (Kd.C_F (Kd.pJ .u64) HR0.out) (zB HB))) A2.out) ?_;rintro e w10 ⟨aBa,rfl,ho0,hb⟩;refine⟨_,rfl,?_⟩;have Zd:=am (Kd.dG (Kd.bG (ok':=fun k_=>True) ho0 (fun k_ hk_=>trivial)) (zS HB));replace HB:=zBs HB hb;clear hb ho0;obtain⟨Xm,VC,VD⟩:=Kd.dS Zd.out;subst VD;have adG:0≤((ji6):Int):=zD;have adH:(ji6)<(MO.length:Int):=zD;obtain⟨ap8,ap9,MP⟩:=Kd.dQ (Kd.aX Zd.out).2.2 (ji6) adG adH;cases ap9;replace adG:=eq_true adG;replace adH:=eq_true adH)|((with_reducible refine af (f:=152) rfl ?_);refine jS (some 18) rfl rfl Tryz.func152 (by kernel_rfl) rfl #[.int .u64 (rd MO (ji6))] rfl (by (try simp only[List.map_toArray,List.map_cons,List.map_nil]);first|done|(simp only[uS];rfl)|rfl|(simp only[List.length_drop,List.length_take];rfl)) ?_;(with_reducible refine (bits_Len64.calls _ _ _ _ A9.out).mono ?_);rintro e w' ⟨rfl,⟨nd,rfl⟩⟩;refine⟨_,rfl,?_⟩)|((with_reducible refine af (f:=103) rfl ?_);refine zc (some 4) Tryz.func103 #[.slice A0 l0.length c0] (bH.calls _ (fun k_=>k_<w.heap.size) _ _ _ _ _ (Kd.IQ HC0.out (Kd.oK (Kd.C_F (Kd.pJ .u64) HR0.out) (zB HB))) A2.out) ?_;rintro e w4 ⟨aBa,rfl,ho0,hb⟩;refine⟨_,rfl,?_⟩;have Zd:=am (Kd.dG (Kd.bG (ok':=fun k_=>True) ho0 (fun k_ hk_=>trivial)) (zS HB));replace HB:=zBs HB hb;clear hb ho0;obtain⟨Ao5,co5,eo5⟩:=Kd.dS Zd.out;subst eo5)))
 ·go_ret
  exact⟨z2,zB HB⟩
 go_ret
 exact⟨by first|exact z3|(simp only[← uS];exact z3)|exact z2,zB HB⟩
def o9.j0:Nat→List Int→Int→Bool→Option (Int × Int × Bool × Option Int)
  | 0,_,_,_=>none
  | k+1,x0,x1,x17=>if x17=true then (some (0,0,false,some 1)) else ((pg.f k x0).bind fun afi=>((eQ.f k x0 (mx 0 (wrap64 (afi-x1)))).bind fun QM=>(if QM.2.2.isNone=true then (if (QM.1.length:Int)=0 then (some (0,0,false,none)) else (if 0<(QM.1.length:Int) then (some (rd QM.1 0,mx 0 (wrap64 (afi-x1)),QM.2.1,none)) else (none))) else (some (0,0,false,some (QM.2.2.getD 0))))))
def o9.f (k:Nat)(l0:List Int)(a1:Int):Option (Int × Int × Bool × Option Int):=if a1<1 then (o9.j0 k l0 a1 true) else (o9.j0 k l0 a1 (decide (a1 > 64)))
theorem o9.calls (k:Nat)(A0:Option Addr)(c0:Nat)(l0:List Int)(a1:Int)(r1:Int)(r2:Int)(r3:Bool)(r4:Option Int)(w:World)(hr0:Kd.C (Kd.int .u64) w A0 l0.length l0)(hc0:l0.length≤c0)(h:o9.f k l0 a1=some (r1,r2,r3,r4)) :
    Calls Tryz.prog 151 #[.slice A0 l0.length c0,.int .i64 a1] w fun e w'=>e=.returned (.tuple #[.int .u64 r1,.int .i64 r2,.bool r3,qL r4])∧Below w.heap.size w w':=by
 have zq:=Tryz.underlying27;have hu64:=Tryz.underlying64;have HR0:=am hr0;have HC0:=am hc0;clear hr0 hc0;have HB:=am (Below.refl w.heap.size w);have H:=am h;unfold o9.f at H;clear h
 go_enter Tryz.func151,Tryz.ntmps151
 go_upto_region 1 with (fail)
 go_cut [17] (fun v17 wc => ∃ (kq:Nat) (Io:Bool),v17=.bool Io∧ae (o9.j0 kq l0 a1 Io=some (r1,r2,r3,r4))∧ae (kq≤k)∧ae (Below w.heap.size w wc))
 case first =>
  replace H:=zsd H;rcases H with⟨jV,H⟩|⟨jV,H⟩
  (first|rw[jV]|(simp only[bW,fV];rw[jV])|rw[rZ]|skip)
  rotate_left
  (first|rw[jV]|(simp only[bW,fV];rw[jV])|rw[rZ]|skip)
  rotate_left
  all_goals (go_wp2)
  ·go_meet
   case rel=>exact⟨_,(true),z1,H,⟨z5⟩,⟨zB HB⟩⟩
  go_meet
  case rel=>exact⟨_,(decide (a1 > 64)),z1,H,⟨z5⟩,⟨zB HB⟩⟩
 case rest =>
  obtain⟨kq,Io,rfl,H,HJ2,HB⟩:=hcut;obtain _|kj2:=kq
  ·exact zz H rfl
  simp only[o9.j0]at H
  cases Io
  replace H:=zb0 H;replace H:=zo H;obtain⟨afi,A6,H⟩:=H;generalize Gh:(mx 0 (wrap64 (afi-a1)):Int)=ji7 at H
  (try rw[Gh]at A6)
  have YU:(if 0<(wrap64 (afi-a1)) then (wrap64 (afi-a1)) else 0)=ji7:=Gh;replace H:=zo H;obtain⟨⟨aiy,aH6,aBb⟩,A8,H⟩:=H
  try dsimp only at H
  rcases aBb with _|aH7;replace H:=zb1 H
  try simp only[aj,ah]
  replace H:=zsk H;rcases H with⟨vF,BD,H⟩|⟨vF,BD,c9,H⟩;obtain⟨rfl,rfl,rfl,rfl⟩:=zJ4 H;rotate_left;have az0:¬ (aiy=[]):=fun h_=>c9 (by rw[h_];rfl);replace H:=zi H;obtain⟨c13,H⟩:=H;have sD:decide (0<(aiy.length:Int))=true:=decide_eq_true c13;have Ip:decide (0<aiy.length)=true:=decide_eq_true (by omega);clear c13;obtain⟨rfl,rfl,rfl,rfl⟩:=zJ4 H;rotate_left;replace H:=zb0 H
  try simp only[Option.getD_some]at H
  try simp only[aj,ah]
  obtain⟨rfl,rfl,rfl,rfl⟩:=zJ4 H;rotate_left;replace H:=zb1 H;obtain⟨rfl,rfl,rfl,rfl⟩:=zJ4 H;rotate_left
  all_goals (go_wp2_with (first|((with_reducible refine af (f:=96) rfl ?_);refine zc (some 20) Tryz.func96 #[.slice A0 l0.length c0] (pg.calls _ _ _ _ _ _ (zC (Kd.ku HR0.out HB.out)) HC0.out A6.out) ?_;rintro e w10 ⟨rfl,hb⟩;refine⟨_,rfl,?_⟩;replace HB:=zBs HB hb;clear hb)|((with_reducible refine af (f:=52) rfl ?_);refine jS (some 27) rfl rfl Tryz.func52 (by kernel_rfl) rfl #[.slice A0 l0.length c0,.int .i64 ji7] rfl (by (try simp only[List.map_toArray,List.map_cons,List.map_nil]);first|done|(simp only[Gh];rfl)|rfl|(simp only[List.length_drop,List.length_take];rfl)) ?_;(with_reducible refine (eQ.calls _ (fun k_=>k_<w.heap.size) _ _ _ _ _ _ _ _ ?eu A8.out).mono ?_);(case eu=>exact Kd.IQ HC0.out (Kd.oK (Kd.C_F (Kd.pJ .u64) HR0.out) (zB HB)));rintro e w11 ⟨aBc,rfl,ho0,hb⟩;refine⟨_,rfl,?_⟩;have Ze:=am (Kd.dG (Kd.bG (ok':=fun k_=>True) ho0 (fun k_ hk_=>trivial)) (zS HB));replace HB:=zBs HB hb;clear hb ho0;(try simp only[aj,ah]);obtain⟨Gi,Bj,QF⟩:=Kd.dS Ze.out;subst QF;have aqa:0≤(0:Int):=(by omega);have aqb:0<(aiy.length:Int):=zD;obtain⟨aBd,aBe,VQ⟩:=Kd.dQ (Kd.aX Ze.out).2.2 0 aqa aqb;cases aBe;have aBf:(0<aiy.length)=True:=eq_true (by omega);(try rw[show ((0:Int)).toNat=0 from rfl]at VQ);(try rw[Addr.add_zero']at VQ);replace aqa:=eq_true aqa;replace aqb:=eq_true aqb)|((with_reducible refine af (f:=52) rfl ?_);refine jS (some 27) rfl rfl Tryz.func52 (by kernel_rfl) rfl #[.slice A0 l0.length c0,.int .i64 ji7] rfl (by (try simp only[List.map_toArray,List.map_cons,List.map_nil]);first|done|(simp only[Gh];rfl)|rfl|(simp only[List.length_drop,List.length_take];rfl)) ?_;(with_reducible refine (eQ.calls _ (fun k_=>k_<w.heap.size) _ _ _ _ _ _ _ _ ?eu A8.out).mono ?_);(case eu=>exact Kd.IQ HC0.out (Kd.oK (Kd.C_F (Kd.pJ .u64) HR0.out) (zB HB)));rintro e w11 ⟨aBc,rfl,ho0,hb⟩;refine⟨_,rfl,?_⟩;have Ze:=am (Kd.dG (Kd.bG (ok':=fun k_=>True) ho0 (fun k_ hk_=>trivial)) (zS HB));replace HB:=zBs HB hb;clear hb ho0;(try simp only[aj,ah]);obtain⟨Zf,Vw,aaq⟩:=Kd.dS Ze.out;subst aaq)))
  all_goals (refine bodyPost_ret (I5 (rs := [.tmp 4,.tmp 5,.tmp 6,.tmp 7]) rfl (by simp) (.tmp (.tmp (.tmp (.tmp .nil))))) rfl ?_)
  rotate_left;rotate_left;rotate_left
  ·exact⟨z2,zB HB⟩
  all_goals (exact⟨by first|exact z3|(simp only[← Gh];exact z3)|exact z2,zB HB⟩)
def nK.f (k:Nat)(a0:Bool)(l1:List Int)(a2:Int)(a3:Bool):Option (Int × Bool × Int × Int × Int × Bool × Option Int):=(o9.f k l1 64).bind fun MQ=>(if MQ.2.2.2.isNone=true then (if MQ.2.2.1=true then ((dL.f k a0 MQ.1 0 (wrap64 ((wrap64 (a2+MQ.2.1))-64)) true).bind fun MR=>(some (MR.1,MR.2.1,MR.2.2.1,MR.2.2.2.1,MR.2.2.2.2.1,MR.2.2.2.2.2.1,MR.2.2.2.2.2.2))) else ((dL.f k a0 MQ.1 0 (wrap64 ((wrap64 (a2+MQ.2.1))-64)) a3).bind fun MS=>(some (MS.1,MS.2.1,MS.2.2.1,MS.2.2.2.1,MS.2.2.2.2.1,MS.2.2.2.2.2.1,MS.2.2.2.2.2.2)))) else (some (0,false,0,0,0,false,some (MQ.2.2.2.getD 0))))
theorem nK.calls (k:Nat)(a0:Bool)(A1:Option Addr)(c1:Nat)(l1:List Int)(a2:Int)(a3:Bool)(r1:Int)(r2:Bool)(r3:Int)(r4:Int)(r5:Int)(r6:Bool)(r7:Option Int)(w:World)(hr1:Kd.C (Kd.int .u64) w A1 l1.length l1)(hc1:l1.length≤c1)(h:nK.f k a0 l1 a2 a3=some (r1,r2,r3,r4,r5,r6,r7)) :
    Calls Tryz.prog 95 #[.bool a0,.slice A1 l1.length c1,.int .i64 a2,.bool a3] w fun e w'=>e=.returned (.tuple #[.agg #[.int .i64 r1,.bool r2,.int .i64 r3,.int .u64 r4,.int .u64 r5,.bool r6],qL r7])∧Below w.heap.size w w':=by
 have Vb:=Tryz.underlying81;have zq:=Tryz.underlying27;have hu64:=Tryz.underlying64;have HR1:=am hr1;have HC1:=am hc1;clear hr1 hc1;have HB:=am (Below.refl w.heap.size w);have H:=am h;unfold nK.f at H;clear h;replace H:=zo H;obtain⟨⟨aH8,aH9,aBg,aBh⟩,A5,H⟩:=H
 try dsimp only at H
 rcases aBh with _|aIa;replace H:=zb1 H
 try simp only[aj,ah]
 cases aBg
 replace H:=zb0 H;replace H:=zo H;obtain⟨⟨aBi,aBj,aBk,aBl,aBm,aBn,aIb⟩,A12,H⟩:=H
 try dsimp only at H
 obtain⟨rfl,rfl,rfl,rfl,rfl,rfl,rfl⟩:=zJ7 H;rotate_left;replace H:=zb1 H;replace H:=zo H;obtain⟨⟨aBo,aBp,aBq,aBr,aBs,aBt,aIc⟩,A7,H⟩:=H
 try dsimp only at H
 obtain⟨rfl,rfl,rfl,rfl,rfl,rfl,rfl⟩:=zJ7 H;rotate_left;replace H:=zb0 H
 try simp only[Option.getD_some]at H
 try simp only[aj,ah]
 obtain⟨rfl,rfl,rfl,rfl,rfl,rfl,rfl⟩:=zJ7 H;rotate_left
 all_goals (go_enter Tryz.func95,Tryz.ntmps95;go_wp2_with (first|((with_reducible refine aA (N:=8) rfl ?_);refine zx 8 81 #[.int .i64 0,.bool false,.int .i64 0,.int .u64 0,.int .u64 0,.bool false] ?_;intro adI hg w13 hbox hb;have BL:=am (hbox);have aBu:=zG hg HB;have aBv:=zG hg HB;replace HB:=zBs HB hb;clear hb hbox hg)|((with_reducible refine af (f:=151) rfl ?_);refine zc (some 16) Tryz.func151 #[.slice A1 l1.length c1,.int .i64 64] (o9.calls _ _ _ _ _ _ _ _ _ _ (zC (Kd.ku HR1.out HB.out)) HC1.out A5.out) ?_;rintro e w14 ⟨rfl,hb⟩;refine⟨_,rfl,?_⟩;replace BL:=zKb BL hb;replace HB:=zBs HB hb;clear hb;(try simp only[aj,ah]);obtain⟨_,_,_,_,_,_,_,_,_,_,_,_⟩:=zf6 BL)|((with_reducible refine af (f:=93) rfl ?_);refine zc (some 35) Tryz.func93 _ (dL.calls _ _ _ _ _ _ _ _ _ _ _ _ _ _ A12.out) ?_;rintro e w15 ⟨rfl,hb⟩;refine⟨_,rfl,?_⟩;replace BL:=zKb BL hb;replace HB:=zBs HB hb;clear hb;(try simp only[aj,ah]);obtain⟨_,_,_,_,_,_,_,_,_,_,_,_⟩:=zf6 BL)|((with_reducible refine af (f:=93) rfl ?_);refine zc (some 35) Tryz.func93 _ (dL.calls _ _ _ _ _ _ _ _ _ _ _ _ _ _ A7.out) ?_;rintro e w10 ⟨rfl,hb⟩;refine⟨_,rfl,?_⟩;replace BL:=zKb BL hb;replace HB:=zBs HB hb;clear hb;(try simp only[aj,ah]);obtain⟨_,_,_,_,_,_,_,_,_,_,_,_⟩:=zf6 BL)))
 ·refine bodyPost_ret (dh rfl _ _ adI 81 #[.int .i64 aBi,.bool aBj,.int .i64 aBk,.int .u64 aBl,.int .u64 aBm,.bool aBn] (0,0) _ rfl (zKp BL) Tryz.underlying81 rfl (by kernel_rfl)) rfl ?_
  exact⟨z2,zB HB⟩
 ·refine bodyPost_ret (dh rfl _ _ adI 81 #[.int .i64 aBo,.bool aBp,.int .i64 aBq,.int .u64 aBr,.int .u64 aBs,.bool aBt] (0,0) _ rfl (zKp BL) Tryz.underlying81 rfl (by kernel_rfl)) rfl ?_
  exact⟨z2,zB HB⟩
 refine bodyPost_ret (dh rfl _ _ adI 81 #[.int .i64 0,.bool false,.int .i64 0,.int .u64 0,.int .u64 0,.bool false] (0,0) _ rfl (zKp BL) Tryz.underlying81 rfl (by kernel_rfl)) rfl ?_;exact⟨z2,zB HB⟩
def nz.l0:Nat→List Int→List Int→Int→Option (Int)
  | 0,_,_,_=>none
  | k+1,x0,x1,x5=>if x5≥0 then (if 0≤x5 then (if x5<(x0.length:Int) then (if x5<(x1.length:Int) then (if (rd x0 x5)=(rd x1 x5) then (nz.l0 k x0 x1 (wrap64 (x5-1))) else (if (rd x0 x5)<(rd x1 x5) then (some (-1)) else (some 1))) else (none)) else (none)) else (none)) else (some 0)
def nz.f (k:Nat)(l0:List Int)(l1:List Int):Option (Int):=(bH.f k l0).bind fun Eb=>((bH.f k l1).bind fun EZ=>(if (Eb.length:Int)=(EZ.length:Int) then (nz.l0 k Eb EZ (wrap64 ((Eb.length:Int)-1))) else (if (Eb.length:Int)<(EZ.length:Int) then (some (-1)) else (some 1))))
theorem nz.calls (k:Nat)(A0:Option Addr)(c0:Nat)(l0:List Int)(A1:Option Addr)(c1:Nat)(l1:List Int)(r:Int)(w:World)(hr0:Kd.C (Kd.int .u64) w A0 l0.length l0)(hc0:l0.length≤c0)(hr1:Kd.C (Kd.int .u64) w A1 l1.length l1)(hc1:l1.length≤c1)(h:nz.f k l0 l1=some r) :
    Calls Tryz.prog 153 #[.slice A0 l0.length c0,.slice A1 l1.length c1] w fun e w'=>e=.returned (.int .i64 r)∧Below w.heap.size w w':=by
 have HR0:=am hr0;have HC0:=am hc0;clear hr0 hc0;have HR1:=am hr1;have HC1:=am hc1;clear hr1 hc1;have HB:=am (Below.refl w.heap.size w);have H:=am h;unfold nz.f at H;clear h;replace H:=zo H;obtain⟨Eb,A3,H⟩:=H;replace H:=zo H;obtain⟨EZ,A4,H⟩:=H;replace H:=zs H;rcases H with⟨c5,H⟩|⟨c5,H⟩;have qN:((Eb.length:Int) == (EZ.length:Int))=true:=beq_iff_eq.mpr c5;have xC:((Eb.length:Int) != (EZ.length:Int))=false:=bne_eq_false_iff_eq.mpr c5
 have avX:(Eb.length == EZ.length)=true:=by first|simpa using c5|(simp at c5 ⊢;omega)
 clear c5;rotate_left;have qN:((Eb.length:Int) == (EZ.length:Int))=false:=beq_eq_false_iff_ne.mpr c5;have xC:((Eb.length:Int) != (EZ.length:Int))=true:=bne_iff_ne.mpr c5
 have avX:(Eb.length == EZ.length)=false:=by first|simpa using c5|(simp at c5 ⊢;omega)
 replace H:=zs H;rcases H with⟨c16,H⟩|⟨c16,H⟩;have Dx:decide ((Eb.length:Int)<(EZ.length:Int))=true:=decide_eq_true c16;have Qu:decide (Eb.length<EZ.length)=true:=decide_eq_true (Int.ofNat_lt.mp c16);clear c16;obtain rfl:=Option.some.inj H.out;rotate_left;have Dx:decide ((Eb.length:Int)<(EZ.length:Int))=false:=decide_eq_false c16;have Qu:decide (Eb.length<EZ.length)=false:=decide_eq_false (fun h=>c16 (Int.ofNat_lt.mpr h));clear c16;obtain rfl:=Option.some.inj H.out;rotate_left
 all_goals (go_enter Tryz.func153,Tryz.ntmps153;go_wp2_with (first|(go_at_call 103;(with_reducible refine (bH.calls _ (fun k_=>k_<w.heap.size) _ _ _ _ _ ?eu A3.out).mono ?_);(case eu=>exact Kd.IQ HC0.out (Kd.oK (Kd.C_F (Kd.pJ .u64) HR0.out) (zB HB)));rintro e w6 ⟨avY,rfl,ho0,hb⟩;have zU:=am (Kd.dG (Kd.bG (ok':=fun k_=>True) ho0 (fun k_ hk_=>trivial)) (zS HB));replace HB:=zBs HB hb;clear hb ho0)|(go_at_call 103;(with_reducible refine (bH.calls _ (fun k_=>k_<w.heap.size) _ _ _ _ _ ?eu A4.out).mono ?_);(case eu=>exact Kd.IQ HC1.out (Kd.oK (Kd.C_F (Kd.pJ .u64) HR1.out) (zB HB)));rintro e w7 ⟨avZ,rfl,ho0,hb⟩;replace zU:=zVb zU hb;have QN:=am (Kd.dG (Kd.bG (ok':=fun k_=>True) ho0 (fun k_ hk_=>trivial)) (zS HB));replace HB:=zBs HB hb;clear hb ho0;obtain⟨Ao8,co8,eo8⟩:=Kd.dS zU.out;subst eo8;obtain⟨Ao9,co9,eo9⟩:=Kd.dS QN.out;subst eo9)))
 all_goals (repeat (go_quiet (first|(go_at_call 103;(with_reducible refine (bH.calls k (fun k_=>k_<w.heap.size) _ _ l0 Eb _ ?eu A3.out).mono ?_);(case eu=>exact Kd.IQ HC0.out (Kd.oK (Kd.C_F (Kd.pJ .u64) HR0.out) (zB HB)));rintro e w6 ⟨avY,rfl,ho0,hb⟩;have n0_:=am (Kd.dG (Kd.bG (ok':=fun k_=>True) ho0 (fun k_ hk_=>trivial)) (zS HB));have n1_:=zBs HB hb;clear HB;have zU:=n0_;have HB:=n1_;clear n0_ n1_;(try clear hb);(try clear hb2);(try clear hk);(try clear hi);(try clear ho0))|(go_at_call 103;(with_reducible refine (bH.calls k (fun k_=>k_<w.heap.size) _ _ l1 EZ _ ?eu A4.out).mono ?_);(case eu=>exact Kd.IQ HC1.out (Kd.oK (Kd.C_F (Kd.pJ .u64) HR1.out) (zB HB)));rintro e w7 ⟨avZ,rfl,ho0,hb⟩;have n0_:=zVb zU hb;have n1_:=am (Kd.dG (Kd.bG (ok':=fun k_=>True) ho0 (fun k_ hk_=>trivial)) (zS HB));have n2_:=zBs HB hb;clear zU;clear HB;have zU:=n0_;have QN:=n1_;have HB:=n2_;clear n0_ n1_ n2_;(try clear hb);(try clear hb2);(try clear hk);(try clear hi);(try clear ho0);obtain⟨Ao8,co8,eo8⟩:=Kd.dS zU.out;subst eo8;obtain⟨Ao9,co9,eo9⟩:=Kd.dS QN.out;subst eo9));try go_wp2_with (first|(go_at_call 103;(with_reducible refine (bH.calls k (fun k_=>k_<w.heap.size) _ _ l0 Eb _ ?eu A3.out).mono ?_);(case eu=>exact Kd.IQ HC0.out (Kd.oK (Kd.C_F (Kd.pJ .u64) HR0.out) (zB HB)));rintro e w6 ⟨avY,rfl,ho0,hb⟩;have n0_:=am (Kd.dG (Kd.bG (ok':=fun k_=>True) ho0 (fun k_ hk_=>trivial)) (zS HB));have n1_:=zBs HB hb;clear HB;have zU:=n0_;have HB:=n1_;clear n0_ n1_;(try clear hb);(try clear hb2);(try clear hk);(try clear hi);(try clear ho0))|(go_at_call 103;(with_reducible refine (bH.calls k (fun k_=>k_<w.heap.size) _ _ l1 EZ _ ?eu A4.out).mono ?_);(case eu=>exact Kd.IQ HC1.out (Kd.oK (Kd.C_F (Kd.pJ .u64) HR1.out) (zB HB)));rintro e w7 ⟨avZ,rfl,ho0,hb⟩;have n0_:=zVb zU hb;have n1_:=am (Kd.dG (Kd.bG (ok':=fun k_=>True) ho0 (fun k_ hk_=>trivial)) (zS HB));have n2_:=zBs HB hb;clear zU;clear HB;have zU:=n0_;have QN:=n1_;have HB:=n2_;clear n0_ n1_ n2_;(try clear hb);(try clear hb2);(try clear hk);(try clear hi);(try clear ho0);obtain⟨Ao8,co8,eo8⟩:=Kd.dS zU.out;subst eo8;obtain⟨Ao9,co9,eo9⟩:=Kd.dS QN.out;subst eo9))))
 ·go_loopg [5] k (fun kq v5 w' => ∃ (gV:Int),v5=.int .i64 gV∧ae (nz.l0 kq Eb EZ gV=some r)∧ae (kq≤k)∧ae (Kd.V (Kd.int .u64) 25 w' w.heap.size (fun _=>True) (.slice Ao8 Eb.length co8) Eb)∧ae (Kd.V (Kd.int .u64) 25 w' w.heap.size (fun _=>True) (.slice Ao9 EZ.length co9) EZ)∧ae (Below w.heap.size w w'))
  case atStart=>exact⟨(wrap64 ((Eb.length:Int)-1)),z1,H,zL,⟨zV zU⟩,⟨zV QN⟩,⟨zB HB⟩⟩
  clear H;obtain⟨gV,rfl,H,HK1,jF,pU,HB⟩:=hrel;obtain _|k1:=gk
  ·exact zz H rfl
  simp only[nz.l0]at H;replace H:=yD H;rcases H with⟨oL,H⟩|⟨oL,H⟩;replace H:=zid H;obtain⟨qJ,H⟩:=H;replace H:=zid H;obtain⟨pM,H⟩:=H;replace H:=zid H;obtain⟨sD,H⟩:=H;replace H:=zsk H;rcases H with⟨wG,Md,H⟩|⟨wG,Md,c14,H⟩;obtain⟨av1,av2,Zg,rfl,VR⟩:=zA (Kd.dQ (Kd.aX jF.out).2.2 gV);obtain⟨av3,av4,Zh,rfl,VS⟩:=zA (Kd.dQ (Kd.aX pU.out).2.2 gV);rotate_left;replace H:=zsd H;rcases H with⟨xZ,H⟩|⟨xZ,H⟩;obtain rfl:=Option.some.inj H.out;obtain⟨av1,av2,Zg,rfl,VR⟩:=zA (Kd.dQ (Kd.aX jF.out).2.2 gV);obtain⟨av3,av4,Zh,rfl,VS⟩:=zA (Kd.dQ (Kd.aX pU.out).2.2 gV);have adJ:0≤(gV:Int):=zD;have adK:gV<(Eb.length:Int):=zD;obtain⟨adL,aqc,adM⟩:=Kd.dQ (Kd.aX jF.out).2.2 gV adJ adK
  obtain rfl:Zg=adL:=(by injection aqc)
  replace adJ:=eq_true adJ;replace adK:=eq_true adK;have adN:0≤(gV:Int):=zD;have adO:gV<(EZ.length:Int):=zD;obtain⟨adP,aqd,adQ⟩:=Kd.dQ (Kd.aX pU.out).2.2 gV adN adO
  obtain rfl:Zh=adP:=(by injection aqd)
  replace adN:=eq_true adN;replace adO:=eq_true adO;rotate_left;obtain rfl:=Option.some.inj H.out;obtain⟨av1,av2,Zg,rfl,VR⟩:=zA (Kd.dQ (Kd.aX jF.out).2.2 gV);obtain⟨av3,av4,Zh,rfl,VS⟩:=zA (Kd.dQ (Kd.aX pU.out).2.2 gV);have adJ:0≤(gV:Int):=zD;have adK:gV<(Eb.length:Int):=zD;obtain⟨adL,aqc,adM⟩:=Kd.dQ (Kd.aX jF.out).2.2 gV adJ adK
  obtain rfl:Zg=adL:=(by injection aqc)
  replace adJ:=eq_true adJ;replace adK:=eq_true adK;have adN:0≤(gV:Int):=zD;have adO:gV<(EZ.length:Int):=zD;obtain⟨adP,aqd,adQ⟩:=Kd.dQ (Kd.aX pU.out).2.2 gV adN adO
  obtain rfl:Zh=adP:=(by injection aqd)
  replace adN:=eq_true adN;replace adO:=eq_true adO;rotate_left;obtain rfl:=Option.some.inj H.out;rotate_left
  all_goals (go_wp2;repeat (go_quiet (fail);try go_wp2))
  ·go_roundg k1
   case measure=>have:=HK1.out;omega
   case rel=>exact⟨(wrap64 (gV-1)),z1,H,(zH HK1),⟨zV jF⟩,⟨zV pU⟩,⟨zB HB⟩⟩
  ·go_ret
   exact⟨z2,zB HB⟩
  ·go_ret
   exact⟨z2,zB HB⟩
  go_ret
  exact⟨z2,zB HB⟩
 ·go_ret
  exact⟨z2,zB HB⟩
 go_ret
 exact⟨z2,zB HB⟩
mutual
def bK.l0:Nat→Int→Int→Int→Int→Int→Option (Int)
  | 0,_,_,_,_,_=>none
  | k+1,x2,x3,x4,x11,x12=>(bits_Mul64.f x11 x4).bind fun adR=>(if adR.1<x12 then (bK.j1 k x2 x3 x4 x11 x12 true) else (if adR.1=x12 then (bK.j1 k x2 x3 x4 x11 x12 (decide (adR.2≤x2))) else (bK.j1 k x2 x3 x4 x11 x12 false)))
def bK.j1:Nat→Int→Int→Int→Int→Int→Bool→Option (Int)
  | 0,_,_,_,_,_,_=>none
  | k+1,x2,x3,x4,x11,x12,x43=>if x43=true then (some x11) else (if (IntKind.u64.wrap (x12+x3))<x3 then (some (IntKind.u64.wrap (x11-1))) else (bK.l0 k x2 x3 x4 (IntKind.u64.wrap (x11-1)) (IntKind.u64.wrap (x12+x3))))
end
def bK.f (k:Nat)(a0:Int)(a1:Int)(a2:Int)(a3:Int)(a4:Int):Option (Int):=if a0≥a3 then (some 18446744073709551615) else ((aK.f k a0 a1 a3).bind fun aiz=>(bK.l0 k a2 a3 a4 aiz.1 aiz.2))
theorem bK.calls (k:Nat)(a0:Int)(a1:Int)(a2:Int)(a3:Int)(a4:Int)(r:Int)(w:World)(h:bK.f k a0 a1 a2 a3 a4=some r) :
    Calls Tryz.prog 192 #[.int .u64 a0,.int .u64 a1,.int .u64 a2,.int .u64 a3,.int .u64 a4] w fun e w'=>e=.returned (.int .u64 r)∧dX w w':=by
 have H:=am h;unfold bK.f at H;clear h;replace H:=yD H;rcases H with⟨qV,H⟩|⟨qV,H⟩;obtain rfl:=Option.some.inj H.out;rotate_left;replace H:=zo H;obtain⟨⟨aBw,aBx⟩,A7,H⟩:=H
 try dsimp only at H
 rotate_left
 all_goals (go_enter Tryz.func192,Tryz.ntmps192;go_wp2_with (first|((with_reducible refine af (f:=164) rfl ?_);refine zc (some 22) Tryz.func164 _ (aK.calls _ _ _ _ _ _ _ A7.out) ?_;rintro e w' ⟨rfl,⟨nd,rfl⟩⟩;refine⟨_,rfl,?_⟩)))
 ·go_ret
  exact⟨z1,z4⟩
 go_loopg [11,12] k (fun kq v11 v12 w' => ∃ (mQ:Int) (VT:Int),v11=.int .u64 mQ∧v12=.int .u64 VT∧ae (bK.l0 kq a2 a3 a4 mQ VT=some r)∧ae (kq≤k)∧dX w w')
 case atStart=>exact⟨(aBw),(aBx),z1,z1,H,zL,z4⟩
 clear H;obtain⟨mQ,VT,rfl,rfl,H,HK1,⟨m1,rfl⟩⟩:=hrel;obtain _|k1:=gk
 ·exact zz H rfl
 simp only[bK.l0]at H;replace H:=zo H;obtain⟨⟨aId,aBy⟩,A8,H⟩:=H
 try dsimp only at H
 go_upto_region 5 with (first|((with_reducible refine af (f:=178) rfl ?_);refine zc (some 28) Tryz.func178 _ (bits_Mul64.calls _ _ _ _ _ A8.out) ?_;rintro e w' ⟨rfl,⟨nd,rfl⟩⟩;refine⟨_,rfl,?_⟩))
 (try simp only[Act.put,List.setIfInBounds_toArray,List.set_cons_zero,List.set_cons_succ])
 go_cut [43] (fun v43 wc => ∃ (kq:Nat) (Zi:Bool),v43=.bool Zi∧ae (bK.j1 kq a2 a3 a4 mQ VT Zi=some r)∧ae (kq≤k1)∧dX w wc)
 case first =>
  replace H:=zsd H;rcases H with⟨oL,H⟩|⟨oL,H⟩
  (first|rw[oL]|(simp only[bW,fV];rw[oL])|rw[uX]|skip)
  rotate_left
  (first|rw[oL]|(simp only[bW,fV];rw[oL])|rw[uX]|skip)
  replace H:=zsk H;rcases H with⟨qJ,zM,H⟩|⟨qJ,zM,c11,H⟩;rotate_left;rotate_left
  all_goals (go_wp2)
  ·go_meet
   case rel=>exact⟨_,(true),z1,H,⟨by have:=HK1.out;first|omega|exact Nat.le_refl _⟩,z4⟩
  ·go_meet
   case rel=>exact⟨_,(decide (aBy≤a2)),z1,H,⟨by have:=HK1.out;first|omega|exact Nat.le_refl _⟩,z4⟩
  go_meet
  case rel=>exact⟨_,(false),z1,H,⟨by have:=HK1.out;first|omega|exact Nat.le_refl _⟩,z4⟩
 case rest =>
  obtain⟨kq,Zi,rfl,H,HJ8,⟨mc8,rfl⟩⟩:=hcut;obtain _|kj8:=kq
  ·exact zz H rfl
  simp only[bK.j1]at H
  cases Zi
  replace H:=zb0 H;replace H:=zsd H;rcases H with⟨sD,H⟩|⟨sD,H⟩;obtain rfl:=Option.some.inj H.out;rotate_left;rotate_left;replace H:=zb1 H;obtain rfl:=Option.some.inj H.out;rotate_left
  all_goals (go_wp2)
  ·go_ret
   exact⟨z1,z4⟩
  ·go_roundg kj8
   case measure=>have:=HK1.out;have:=HJ8.out;omega
   case rel=>exact⟨(IntKind.u64.wrap (mQ-1)),(IntKind.u64.wrap (VT+a3)),z1,z1,H,⟨by have:=HK1.out;have:=HJ8.out;omega⟩,z4⟩
  go_ret
  exact⟨z1,z4⟩
end Go.Proofs.Yy.PTx
end
section
set_option maxHeartbeats 8000000
set_option maxRecDepth 100000
namespace Go.Proofs.Yy.PTx
open Go.RowKit Go.Proofs.Yy.Z Go.Proofs.Yw.PrintWords Go.Proofs.Yw.PrintLast Go.Proofs.Yw.PrintMore
open Go.Proofs.Yy.M
attribute [local go_sem] dP eU lV lX lW lU
attribute [local go_sem] iq ik jE jD gu gq iE iD
open Go.Proofs.Yy.M
def kZ.l0:Nat→List Int→List Int→Int→Int→Int→List Int→Int→Int→Option (Bool × List Int)
  | 0,_,_,_,_,_,_,_,_=>none
  | k+1,x0,x1,x2,x7,x8,x12,x13,x14=>if x14<x13 then (if 0≤x14 then (if x14<(x12.length:Int) then ((pI.f (rd x12 x14) x2 x8 0).bind fun adS=>(if x14<(x0.length:Int) then (if x7≤1 then (kZ.l0 k (x0.set (x14:Int).toNat (ji (rd x0 x14) adS.1 x7)) x1 x2 (kQ (rd x0 x14) adS.1 x7) adS.2 x12 x13 (wrap64 (x14+1))) else (none)) else (none))) else (none)) else (none)) else (if 0≤(x1.length:Int) then (if (x1.length:Int)<(x0.length:Int) then (if x7≤1 then (some (decide ((kQ (rd x0 (x1.length:Int)) x8 x7) > 0),(x0.set ((x1.length:Int):Int).toNat (ji (rd x0 (x1.length:Int)) x8 x7)))) else (none)) else (none)) else (none))
def kZ.f (k:Nat)(l0:List Int)(l1:List Int)(a2:Int):Option (Bool × List Int):=kZ.l0 k l0 l1 a2 0 0 l1 (l1.length:Int) 0
theorem kZ.calls (k:Nat)(P0_:Nat→Prop)(lD:Value)(l0:List Int)(pre post:List Int)(A1:Option Addr)(c1:Nat)(l1:List Int)(a2:Int)(r1:Bool)(r2:List Int)(w0 w:World)(hB:Below w0.heap.size w0 w)(ho0:Wd pre post 25 w w0.heap.size P0_ lD l0)(hr1:∀ W_,Kept w W_ (fun k_=>P0_ k_)→Kd.C (Kd.int .u64) W_ A1 l1.length l1)(hc1:l1.length≤c1)(h:kZ.f k l0 l1 a2=some (r1,r2)) :
    Calls Tryz.prog 193 #[lD,.slice A1 l1.length c1,.int .u64 a2] w fun e w'=>e=.returned (.bool r1)∧Wd pre post 25 w' w0.heap.size (fun k_=>(P0_ k_∨w.heap.size≤k_)) lD r2∧Below w0.heap.size w0 w'∧Kept w w' (fun k_=>P0_ k_):=by
 have HO0:=am (show Wd pre post 25 w w0.heap.size (fun k_=>(P0_ k_∨w.heap.size≤k_)) lD l0 from RZ ho0 (fun k_ hk=>(.inl hk)));have HR1:=am hr1;have HC1:=am hc1;clear hr1 hc1;have HK:=am (Kept.refl w (fun k_=>P0_ k_));have HW0:=am hB.size;have HB:=am hB;clear hB;have H:=am h;unfold kZ.f at H;clear h
 go_enter Tryz.func193,Tryz.ntmps193
 go_wp2
 go_loopg [7,8,14] k (fun kq v7 v8 v14 w' => ∃ (mO:List Int) (lC:Int) (lF:Int) (jB:Int),v7=.int .u64 lC∧v8=.int .u64 lF∧v14=.int .i64 jB∧ae (kZ.l0 kq mO l1 a2 lC lF l1 (l1.length:Int) jB=some (r1,r2))∧ae (kq≤k)∧ae (Wd pre post 25 w' w0.heap.size (fun k_=>(P0_ k_∨w.heap.size≤k_)) lD mO)∧ae (Kept w w' (fun k_=>P0_ k_))∧ae (Below w0.heap.size w0 w'))
 case atStart=>exact⟨(l0),(0),(0),(0),z1,z1,z1,H,zL,⟨by (with_reducible repeat (first|apply uM|apply uH|apply xY));exact HO0.out⟩,⟨by repeat (first|(with_reducible first|exact HK.out|apply Kept.alloc|apply Kept.drewN|apply Kept.drew)|exact HK.out)⟩,⟨zB HB⟩⟩
 clear H;obtain⟨mO,lC,lF,jB,rfl,rfl,rfl,H,HK1,jF,HK,HB⟩:=hrel;obtain _|k1:=gk
 ·exact zz H rfl
 simp only[kZ.l0]at H;replace H:=zsd H;rcases H with⟨jV,H⟩|⟨jV,H⟩;replace H:=zid H;obtain⟨qN,H⟩:=H;replace H:=zid H;obtain⟨qV,H⟩:=H;replace H:=zo H;obtain⟨⟨afj,MO⟩,A7,H⟩:=H
 try dsimp only at H
 replace H:=zid H;obtain⟨uz,H⟩:=H;replace H:=zit H;obtain⟨vF,BD,H⟩:=H;generalize aiA:(mO.set (jB:Int).toNat (ji (rd mO jB) afj lC):List Int)=av5 at H;have aqe:=zY aiA;clear aiA;obtain⟨aIe,aIf,aBz,rfl,aqf⟩:=zA (Kd.dQ (Kd.FM HR1.out HK.out) jB);rotate_left;replace H:=zi H;obtain⟨c14,H⟩:=H;have wG:decide (0≤(l1.length:Int))=true:=decide_eq_true c14;have Md:decide (0≤l1.length)=true:=decide_eq_true (by omega);clear c14;replace H:=zi H;obtain⟨c15,H⟩:=H;have xZ:decide ((l1.length:Int)<(mO.length:Int))=true:=decide_eq_true c15;have LY:decide (l1.length<mO.length)=true:=decide_eq_true (Int.ofNat_lt.mp c15);clear c15;replace H:=zit H;obtain⟨Dx,Qu,H⟩:=H;generalize aiB:(mO.set ((l1.length:Int):Int).toNat (ji (rd mO (l1.length:Int)) lF lC):List Int)=aBA at H;have aqg:=zY aiB;clear aiB;obtain⟨rfl,rfl⟩:=zJ2 H;obtain⟨J4,sF,MC⟩:=zg jF.out;subst MC;have adG:0≤((l1.length:Int):Int):=zD;have adH:(l1.length:Int)<(mO.length:Int):=zD;obtain⟨ap8,ap9,MP⟩:=Kd.dQ (yV jF.out).2.2 (l1.length:Int) adG adH
 cases ap9
 (try simp only[Go.IntWalk.toNatUp]at MP)
 replace adG:=eq_true adG;replace adH:=eq_true adH;have p17:0≤((l1.length:Int):Int):=zD;have q17:((l1.length:Int):Int)<((mO.length:Int):Int):=zD;obtain⟨MF,Xl,ada,aht,aok,azN,ahu⟩:=G6 jF.out (by omega)
 (first|cases ada|(injection ada with ea_ en_ ec_;(first|subst ea_|(injection ea_ with ea_;subst ea_));subst ec_;clear en_))
 have aol:=am aht;have azO:=am ahu;clear aht aok ahu;have av6:=am (show (P0_ MF∨w.heap.size≤MF) from (Jd jF.out))
 (first|simp only[add_plain]at MP|skip)
 obtain⟨aar,aas⟩:=yS jF.out ((l1.length:Int):Int) p17 q17
 (try simp only[Go.IntWalk.toNatUp]at aar aas)
 replace p17:=eq_true p17;replace q17:=eq_true q17;have adb:=Hg jF.out ((l1.length:Int):Int) (by have h1_:=of_eq_true p17;have h2_:=of_eq_true q17;omega) (ji (rd mO (l1.length:Int)) lF lC);rotate_left
 all_goals (go_wp2_with (first|((with_reducible refine af (f:=166) rfl ?_);refine zc (some 23) Tryz.func166 _ (pI.calls _ _ _ _ _ _ _ A7.out) ?_;rintro e w' ⟨rfl,⟨nd,rfl⟩⟩;refine⟨_,rfl,?_⟩;(try (rw[gI wr];generalize hq_:World.drewN wr _=wr;have n0_:ae (Wd pre post 25 wr w0.heap.size (fun k_=>(P0_ k_∨w.heap.size≤k_)) lD mO):=⟨by rw[← hq_];exact (by (with_reducible repeat (first|apply uM|apply uH|apply xY));exact jF.out)⟩;have n1_:ae (Kept w wr (fun k_=>P0_ k_)):=⟨by rw[← hq_];exact (by repeat (first|(with_reducible first|exact HK.out|apply Kept.alloc|apply Kept.drewN|apply Kept.drew)|exact HK.out))⟩;have n2_:ae (Below w0.heap.size w0 wr):=⟨by rw[← hq_];exact (zB HB)⟩;clear jF HK HB hq_;have jF:=n0_;have HK:=n1_;have HB:=n2_;clear n0_ n1_ n2_));obtain⟨Xm,VC,VD⟩:=zg jF.out;subst VD;have aqh:0≤(jB:Int):=zD;have aqi:jB<(mO.length:Int):=zD;obtain⟨aBB,aBC,adT⟩:=Kd.dQ (yV jF.out).2.2 jB aqh aqi;cases aBC;replace aqh:=eq_true aqh;replace aqi:=eq_true aqi;have p10:0≤(jB:Int):=zD;have q10:(jB:Int)<((mO.length:Int):Int):=zD;obtain⟨aiC,ak4,afa,av7,aBD,aIg,av8⟩:=G6 jF.out (by omega);(first|cases afa|(injection afa with ea_ en_ ec_;(first|subst ea_|(injection ea_ with ea_;subst ea_));subst ec_;clear en_));have aBE:=am av7;have aIh:=am av8;clear av7 aBD av8;have av9:=am (show (P0_ aiC∨w.heap.size≤aiC) from (Jd jF.out));(first|simp only[add_plain]at adT|skip);obtain⟨awc,awd⟩:=yS jF.out (jB:Int) p10 q10;replace p10:=eq_true p10;replace q10:=eq_true q10;obtain⟨aBF,aBG⟩:=yS jF.out (jB:Int) (zD) (zD);have aqj:=Hg jF.out (jB:Int) (by have h1_:=of_eq_true p10;have h2_:=of_eq_true q10;omega) (ji (rd mO jB) afj lC))|((with_reducible refine af (f:=215) rfl ?_);refine Ba (some 35) rfl rfl #[.int .u64 (rd mO jB),.int .u64 afj,.int .u64 lC] _ rfl (by (try simp only[List.map_toArray,List.map_cons,List.map_nil]);rfl) (fun w_=>eU (rd mO jB) afj lC (by first|decide|(with_reducible assumption)|exact zD) w_) ?_)|((with_reducible refine fO (t:=25) (p:=38) rfl ?_);refine ed (t:=25) (p:=38) (v:=?awe) (w1:=(wr.setCell ⟨aiC,pre.length+(jB:Int).toNat,none⟩ (.int .u64 (ji (rd mO jB) afj lC)))) ?hg ?ho ?hn ?hr ?_;(case ho=>rfl);(case hg=>rfl);(case hn=>rfl);(case hr=>first|(go_simp;done)|(go_simp;rfl));intro w13 hw;have hg:wr.grownBy w13 (some aiC):=(by rw[hw];exact aqj.2);have hp_:Wd pre post 25 w13 w0.heap.size (fun k_=>(P0_ k_∨w.heap.size≤k_)) (.slice (some ⟨aiC,pre.length,none⟩) mO.length VC) av5:=(by rw[hw,aqe.out];exact aqj.1);clear aqj;replace HB:=am ((by rw[hw];exact bF (HB.out) aBE.out:Below w0.heap.size w0 w13));replace HK:=am (Kept.yZ (S:=(fun k_=>P0_ k_)) hg (by repeat (first|(with_reducible first|exact HK.out|apply Kept.alloc|apply Kept.drewN|apply Kept.drew)|exact HK.out)) (fun k_ e_=>(by injection e_ with e_;rw[← e_];exact Jd jF.out)));replace jF:=am (hp_);clear hg hw hp_)|((with_reducible refine af (f:=215) rfl ?_);refine Ba (some 51) rfl rfl #[.int .u64 (rd mO (l1.length:Int)),.int .u64 lF,.int .u64 lC] _ rfl (by (try simp only[List.map_toArray,List.map_cons,List.map_nil]);rfl) (fun w_=>eU (rd mO (l1.length:Int)) lF lC (by first|decide|(with_reducible assumption)|exact zD) w_) ?_)|((with_reducible refine fO (t:=25) (p:=54) rfl ?_);refine ed (t:=25) (p:=54) (v:=?ahz) (w1:=(wr.setCell ⟨MF,pre.length+((l1.length:Int):Int).toNat,none⟩ (.int .u64 (ji (rd mO (l1.length:Int)) lF lC)))) ?hg ?ho ?hn ?hr ?_;(case ho=>rfl);(case hg=>rfl);(case hn=>rfl);(case hr=>first|(go_simp;done)|(go_simp;rfl));intro w20 hw;have hg:wr.grownBy w20 (some MF):=(by rw[hw];exact adb.2);have hp_:Wd pre post 25 w20 w0.heap.size (fun k_=>(P0_ k_∨w.heap.size≤k_)) (.slice (some ⟨MF,pre.length,none⟩) mO.length sF) aBA:=(by rw[hw,aqg.out];exact adb.1);clear adb;replace HB:=am ((by rw[hw];exact bF (HB.out) aol.out:Below w0.heap.size w0 w20));replace HK:=am (Kept.yZ (S:=(fun k_=>P0_ k_)) hg (by repeat (first|(with_reducible first|exact HK.out|apply Kept.alloc|apply Kept.drewN|apply Kept.drew)|exact HK.out)) (fun k_ e_=>(by injection e_ with e_;rw[← e_];exact Jd jF.out)));replace jF:=am (hp_);clear hg hw hp_)))
 ·go_roundg k1
  case measure=>have:=HK1.out;omega
  case rel=>exact⟨(av5),(kQ (rd mO jB) afj lC),(MO),(wrap64 (jB+1)),z1,z1,z1,H,(zH HK1),⟨by (with_reducible repeat (first|apply uM|apply uH|apply xY));exact jF.out⟩,⟨by repeat (first|(with_reducible first|exact HK.out|apply Kept.alloc|apply Kept.drewN|apply Kept.drew)|exact HK.out)⟩,⟨zB HB⟩⟩
 go_ret
 exact⟨z2,by (with_reducible repeat (first|apply uM|apply uH|apply xY));exact jF.out,zB HB,by repeat (first|(with_reducible first|exact HK.out|apply Kept.alloc|apply Kept.drewN|apply Kept.drew)|exact HK.out)⟩
def lg.l0:Nat→List Int→List Int→Int→List Int→Int→Int→Option (Bool × List Int)
  | 0,_,_,_,_,_,_=>none
  | k+1,x0,x1,x5,x8,x9,x10=>if x10<x9 then (if 0≤x10 then (if x10<(x8.length:Int) then (if x10<(x0.length:Int) then (if x5≤1 then (lg.l0 k (x0.set (x10:Int).toNat (fK (rd x0 x10) (rd x8 x10) x5)) x1 (iG (rd x0 x10) (rd x8 x10) x5) x8 x9 (wrap64 (x10+1))) else (none)) else (none)) else (none)) else (none)) else (if 0≤(x1.length:Int) then (if (x1.length:Int)<(x0.length:Int) then (if x5≤1 then (some (decide ((iG (rd x0 (x1.length:Int)) 0 x5) > 0),(x0.set ((x1.length:Int):Int).toNat (fK (rd x0 (x1.length:Int)) 0 x5)))) else (none)) else (none)) else (none))
def lg.f (k:Nat)(l0:List Int)(l1:List Int):Option (Bool × List Int):=lg.l0 k l0 l1 0 l1 (l1.length:Int) 0
theorem lg.calls (k:Nat)(P0_:Nat→Prop)(lD:Value)(l0:List Int)(pre post:List Int)(A1:Option Addr)(c1:Nat)(l1:List Int)(r1:Bool)(r2:List Int)(w0 w:World)(hB:Below w0.heap.size w0 w)(ho0:Wd pre post 25 w w0.heap.size P0_ lD l0)(hr1:∀ W_,Kept w W_ (fun k_=>P0_ k_)→Kd.C (Kd.int .u64) W_ A1 l1.length l1)(hc1:l1.length≤c1)(h:lg.f k l0 l1=some (r1,r2)) :
    Calls Tryz.prog 194 #[lD,.slice A1 l1.length c1] w fun e w'=>e=.returned (.bool r1)∧Wd pre post 25 w' w0.heap.size (fun k_=>(P0_ k_∨w.heap.size≤k_)) lD r2∧Below w0.heap.size w0 w'∧Kept w w' (fun k_=>P0_ k_):=by
 have HO0:=am (show Wd pre post 25 w w0.heap.size (fun k_=>(P0_ k_∨w.heap.size≤k_)) lD l0 from RZ ho0 (fun k_ hk=>(.inl hk)));have HR1:=am hr1;have HC1:=am hc1;clear hr1 hc1;have HK:=am (Kept.refl w (fun k_=>P0_ k_));have HW0:=am hB.size;have HB:=am hB;clear hB;have H:=am h;unfold lg.f at H;clear h
 go_enter Tryz.func194,Tryz.ntmps194
 go_wp2
 go_loopg [5,10] k (fun kq v5 v10 w' => ∃ (mO:List Int) (gV:Int) (kz:Int),v5=.int .u64 gV∧v10=.int .i64 kz∧ae (lg.l0 kq mO l1 gV l1 (l1.length:Int) kz=some (r1,r2))∧ae (kq≤k)∧ae (Wd pre post 25 w' w0.heap.size (fun k_=>(P0_ k_∨w.heap.size≤k_)) lD mO)∧ae (Kept w w' (fun k_=>P0_ k_))∧ae (Below w0.heap.size w0 w'))
 case atStart=>exact⟨(l0),(0),(0),z1,z1,H,zL,⟨by (with_reducible repeat (first|apply uM|apply uH|apply xY));exact HO0.out⟩,⟨by repeat (first|(with_reducible first|exact HK.out|apply Kept.alloc|apply Kept.drewN|apply Kept.drew)|exact HK.out)⟩,⟨zB HB⟩⟩
 clear H;obtain⟨mO,gV,kz,rfl,rfl,H,HK1,jF,HK,HB⟩:=hrel;obtain _|k1:=gk
 ·exact zz H rfl
 simp only[lg.l0]at H;replace H:=zsd H;rcases H with⟨pK,H⟩|⟨pK,H⟩;replace H:=zid H;obtain⟨jV,H⟩:=H;replace H:=zid H;obtain⟨qN,H⟩:=H;replace H:=zid H;obtain⟨qV,H⟩:=H;replace H:=zit H;obtain⟨yE,DJ,H⟩:=H;generalize aiD:(mO.set (kz:Int).toNat (fK (rd mO kz) (rd l1 kz) gV):List Int)=awf at H;have aqk:=zY aiD;clear aiD;obtain⟨aIi,aIj,aBH,rfl,aql⟩:=zA (Kd.dQ (Kd.FM HR1.out HK.out) kz);obtain⟨Ao9,co9,eo9⟩:=zg jF.out;subst eo9;obtain⟨aIk,aIl,aBI,rfl,adU⟩:=zA (Kd.dQ (yV jF.out).2.2 kz);have p8:0≤(kz:Int):=zD;have q8:(kz:Int)<((mO.length:Int):Int):=zD;obtain⟨go8,co8,eo8,gb8,gl8,cl8,HG8⟩:=G6 jF.out (by omega)
 (first|cases eo8|(injection eo8 with ea_ en_ ec_;(first|subst ea_|(injection ea_ with ea_;subst ea_));subst ec_;clear en_))
 have GB8:=am gb8;have GG8:=am HG8;clear gb8 gl8 HG8;have aBJ:=am (show (P0_ go8∨w.heap.size≤go8) from (Jd jF.out))
 (first|simp only[add_plain]at adU|skip)
 obtain⟨aBK,aBL⟩:=yS jF.out (kz:Int) p8 q8;replace p8:=eq_true p8;replace q8:=eq_true q8;have aqm:=Hg jF.out (kz:Int) (by have h1_:=of_eq_true p8;have h2_:=of_eq_true q8;omega) (fK (rd mO kz) (rd l1 kz) gV);rotate_left;replace H:=zi H;obtain⟨c12,H⟩:=H;have pM:decide (0≤(l1.length:Int))=true:=decide_eq_true c12;have uQ:decide (0≤l1.length)=true:=decide_eq_true (by omega);clear c12;replace H:=zi H;obtain⟨c13,H⟩:=H;have sD:decide ((l1.length:Int)<(mO.length:Int))=true:=decide_eq_true c13;have Ip:decide (l1.length<mO.length)=true:=decide_eq_true (Int.ofNat_lt.mp c13);clear c13;replace H:=zit H;obtain⟨wG,Md,H⟩:=H;generalize aiE:(mO.set ((l1.length:Int):Int).toNat (fK (rd mO (l1.length:Int)) 0 gV):List Int)=aBM at H;have aqn:=zY aiE;clear aiE;obtain⟨rfl,rfl⟩:=zJ2 H;obtain⟨Gi,Bj,QF⟩:=zg jF.out;subst QF;have aqo:0≤((l1.length:Int):Int):=zD;have aqp:(l1.length:Int)<(mO.length:Int):=zD;obtain⟨aBN,aBO,VU⟩:=Kd.dQ (yV jF.out).2.2 (l1.length:Int) aqo aqp
 cases aBO
 (try simp only[Go.IntWalk.toNatUp]at VU)
 replace aqo:=eq_true aqo;replace aqp:=eq_true aqp;have p15:0≤((l1.length:Int):Int):=zD;have q15:((l1.length:Int):Int)<((mO.length:Int):Int):=zD;obtain⟨aiF,afk,afl,awg,aBP,aIm,awh⟩:=G6 jF.out (by omega)
 (first|cases afl|(injection afl with ea_ en_ ec_;(first|subst ea_|(injection ea_ with ea_;subst ea_));subst ec_;clear en_))
 have aBQ:=am awg;have aIn:=am awh;clear awg aBP awh;have awi:=am (show (P0_ aiF∨w.heap.size≤aiF) from (Jd jF.out))
 (first|simp only[add_plain]at VU|skip)
 obtain⟨aiG,aiH⟩:=yS jF.out ((l1.length:Int):Int) p15 q15
 (try simp only[Go.IntWalk.toNatUp]at aiG aiH)
 replace p15:=eq_true p15;replace q15:=eq_true q15;have aqr:=Hg jF.out ((l1.length:Int):Int) (by have h1_:=of_eq_true p15;have h2_:=of_eq_true q15;omega) (fK (rd mO (l1.length:Int)) 0 gV);rotate_left
 all_goals (go_wp2_with (first|((with_reducible refine af (f:=191) rfl ?_);refine Ba (some 24) rfl rfl #[.int .u64 (rd mO kz),.int .u64 (rd l1 kz),.int .u64 gV] _ rfl (by (try simp only[List.map_toArray,List.map_cons,List.map_nil]);rfl) (fun w_=>dP (rd mO kz) (rd l1 kz) gV (by first|decide|(with_reducible assumption)|exact zD) w_) ?_)|((with_reducible refine fO (t:=25) (p:=27) rfl ?_);refine ed (t:=25) (p:=27) (v:=?awj) (w1:=(wr.setCell ⟨go8,pre.length+(kz:Int).toNat,none⟩ (.int .u64 (fK (rd mO kz) (rd l1 kz) gV)))) ?hg ?ho ?hn ?hr ?_;(case ho=>rfl);(case hg=>rfl);(case hn=>rfl);(case hr=>first|(go_simp;done)|(go_simp;rfl));intro w11 hw;have hg:wr.grownBy w11 (some go8):=(by rw[hw];exact aqm.2);have hp_:Wd pre post 25 w11 w0.heap.size (fun k_=>(P0_ k_∨w.heap.size≤k_)) (.slice (some ⟨go8,pre.length,none⟩) mO.length co9) awf:=(by rw[hw,aqk.out];exact aqm.1);clear aqm;replace HB:=am ((by rw[hw];exact bF (HB.out) GB8.out:Below w0.heap.size w0 w11));replace HK:=am (Kept.yZ (S:=(fun k_=>P0_ k_)) hg (by repeat (first|(with_reducible first|exact HK.out|apply Kept.alloc|apply Kept.drewN|apply Kept.drew)|exact HK.out)) (fun k_ e_=>(by injection e_ with e_;rw[← e_];exact Jd jF.out)));replace jF:=am (hp_);clear hg hw hp_)|((with_reducible refine af (f:=191) rfl ?_);refine Ba (some 39) rfl rfl #[.int .u64 (rd mO (l1.length:Int)),.int .u64 0,.int .u64 gV] _ rfl (by (try simp only[List.map_toArray,List.map_cons,List.map_nil]);rfl) (fun w_=>dP (rd mO (l1.length:Int)) 0 gV (by first|decide|(with_reducible assumption)|exact zD) w_) ?_)|((with_reducible refine fO (t:=25) (p:=42) rfl ?_);refine ed (t:=25) (p:=42) (v:=?awk) (w1:=(wr.setCell ⟨aiF,pre.length+((l1.length:Int):Int).toNat,none⟩ (.int .u64 (fK (rd mO (l1.length:Int)) 0 gV)))) ?hg ?ho ?hn ?hr ?_;(case ho=>rfl);(case hg=>rfl);(case hn=>rfl);(case hr=>first|(go_simp;done)|(go_simp;rfl));intro w18 hw;have hg:wr.grownBy w18 (some aiF):=(by rw[hw];exact aqr.2);have hp_:Wd pre post 25 w18 w0.heap.size (fun k_=>(P0_ k_∨w.heap.size≤k_)) (.slice (some ⟨aiF,pre.length,none⟩) mO.length Bj) aBM:=(by rw[hw,aqn.out];exact aqr.1);clear aqr;replace HB:=am ((by rw[hw];exact bF (HB.out) aBQ.out:Below w0.heap.size w0 w18));replace HK:=am (Kept.yZ (S:=(fun k_=>P0_ k_)) hg (by repeat (first|(with_reducible first|exact HK.out|apply Kept.alloc|apply Kept.drewN|apply Kept.drew)|exact HK.out)) (fun k_ e_=>(by injection e_ with e_;rw[← e_];exact Jd jF.out)));replace jF:=am (hp_);clear hg hw hp_)))
 ·go_roundg k1
  case measure=>have:=HK1.out;omega
  case rel=>exact⟨(awf),(iG (rd mO kz) (rd l1 kz) gV),(wrap64 (kz+1)),z1,z1,H,(zH HK1),⟨by (with_reducible repeat (first|apply uM|apply uH|apply xY));exact jF.out⟩,⟨by repeat (first|(with_reducible first|exact HK.out|apply Kept.alloc|apply Kept.drewN|apply Kept.drew)|exact HK.out)⟩,⟨zB HB⟩⟩
 go_ret
 exact⟨z2,by (with_reducible repeat (first|apply uM|apply uH|apply xY));exact jF.out,zB HB,by repeat (first|(with_reducible first|exact HK.out|apply Kept.alloc|apply Kept.drewN|apply Kept.drew)|exact HK.out)⟩
end Go.Proofs.Yy.PTx
end
section
namespace Go.Proofs.Yy.PTx
open Go.RowKit Go.Proofs.Yw.PrintWords Go.Proofs.Yw.PrintLast Go.Proofs.Yw.PrintMore Go.Proofs.Yy.M
theorem Jf (X:List Int){lo hi:Int}(h0:0≤lo)(h1:lo<hi)(h2:hi≤(X.length:Int)):X.take lo.toNat++(X.take hi.toNat).drop lo.toNat++X.drop hi.toNat=X:=by
 have e:(X.take hi.toNat).take lo.toNat=X.take lo.toNat:=by rw[List.take_take,Nat.min_eq_left (by omega)]
 rw[← e,List.take_append_drop,List.take_append_drop]
theorem PX (X:List Int){lo hi:Int}(h0:0≤lo)(h1:lo<hi)(h2:hi≤(X.length:Int)):((X.take hi.toNat).drop lo.toNat).length=hi.toNat-lo.toNat:=by
 rw[List.length_drop,List.length_take];omega
def qE.f (k:Nat)(l0:List Int)(a1 a2:Int)(l3:List Int)(a4:Int):Option (Bool × List Int) :=
 if 0≤a1∧a1<a2∧a2≤(l0.length:Int) then (kZ.f k ((l0.take a2.toNat).drop a1.toNat) l3 a4).bind fun b=>some (b.1,l0.take a1.toNat++b.2++l0.drop a2.toNat) else none
def rV.f (k:Nat)(l0:List Int)(a1 a2:Int)(l3:List Int):Option (Bool × List Int) :=
 if 0≤a1∧a1<a2∧a2≤(l0.length:Int) then (lg.f k ((l0.take a2.toNat).drop a1.toNat) l3).bind fun b=>some (b.1,l0.take a1.toNat++b.2++l0.drop a2.toNat) else none
theorem Jt {w:World}{base:Nat}{ok:Nat→Prop}{u:Value}{X:List Int}{lo hi:Int}(h0:0≤lo)(h1:lo<hi)(h2:hi≤(X.length:Int))(h:Kd.R (Kd.int .u64) 25 w base ok u X) :
  ∃ c,afM u lo hi=.slice (some ⟨(match u with | .slice (some ⟨g,_,_⟩) _ _=>g|_=>0),lo.toNat,none⟩) (hi.toNat-lo.toNat) c∧Wd (X.take lo.toNat) (X.drop hi.toNat) 25 w base ok (afM u lo hi) ((X.take hi.toNat).drop lo.toNat) ∧
   ∀ (w':World) (ok':Nat→Prop) (r:List Int),Wd (X.take lo.toNat) (X.drop hi.toNat) 25 w' base ok' (afM u lo hi) r→Kd.R (Kd.int .u64) 25 w' base ok' u (X.take lo.toNat++r++X.drop hi.toNat):=by
 obtain⟨g,cap,rfl,hb,hl,hcells⟩:=Kd.oP h (by omega);obtain⟨_,hle,_⟩:=Kd.az h;have hs:=Jf X h0 h1 h2;have hn:=PX X h0 h1 h2
 have hp:(X.take lo.toNat).length=lo.toNat:=by rw[List.length_take];omega
 have hcap:lo.toNat+(cap-lo.toNat)=cap:=by omega
 refine⟨cap-lo.toNat,rfl,?_,fun w' ok' r hr=>?_⟩
 ·have h':Kd.R (Kd.int .u64) 25 w base ok (.slice (some ⟨g,0,none⟩) (X.take lo.toNat++(X.take hi.toNat).drop lo.toNat++X.drop hi.toNat).length ((X.take lo.toNat).length+(cap-lo.toNat))) (X.take lo.toNat++(X.take hi.toNat).drop lo.toNat++X.drop hi.toNat):=by
   rw[hs,hp,hcap];exact h
  have:=alZ h' (by omega);rw[hp,hn]at this;exact this
 ·obtain⟨A,c2,e2⟩:=zg hr
  have hlen:r.length=hi.toNat-lo.toNat:=by
   have e3:Value.slice (some ⟨g,lo.toNat,none⟩) (hi.toNat-lo.toNat) (cap-lo.toNat)=.slice A r.length c2:=e2
   injection e3 with _ e4 _
   exact e4.symm
  have hb2:=aaV (show Wd (X.take lo.toNat) (X.drop hi.toNat) 25 w' base ok' (.slice (some ⟨g,lo.toNat,none⟩) (hi.toNat-lo.toNat) (cap-lo.toNat)) r from hr)
  have hX:(X.take lo.toNat++r++X.drop hi.toNat).length=X.length:=by
   rw[List.length_append,List.length_append,List.length_take,List.length_drop,hlen];omega
  rw[hX,hp,hcap]at hb2;exact hb2
theorem qE.calls (k:Nat)(P0_:Nat→Prop)(lD:Value)(l0:List Int)(a1 a2:Int)(A3:Option Addr)(c3:Nat)(l3:List Int)(a4:Int)(r1:Bool)(r2:List Int)(w0 w:World)(hB:Below w0.heap.size w0 w)(ho0:Kd.R (Kd.int .u64) 25 w w0.heap.size P0_ lD l0)(hr3:∀ W_,Kept w W_ (fun k_=>P0_ k_)→Kd.C (Kd.int .u64) W_ A3 l3.length l3)(hc3:l3.length≤c3)(h:qE.f k l0 a1 a2 l3 a4=some (r1,r2)){uw:Value}(hw:uw=afM lD a1 a2:=by with_unfolding_all rfl) :
  Calls Tryz.prog 193 #[uw,.slice A3 l3.length c3,.int .u64 a4] w fun e w'=>e=.returned (.bool r1)∧Kd.R (Kd.int .u64) 25 w' w0.heap.size (fun k_=>(P0_ k_∨w.heap.size≤k_)) lD r2∧Below w0.heap.size w0 w'∧Kept w w' (fun k_=>P0_ k_):=by
 subst hw;unfold qE.f at h
 by_cases hg:0≤a1∧a1<a2∧a2≤(l0.length:Int)
 case neg=>rw[if_neg hg]at h;exact absurd h (by simp)
 rw[if_pos hg]at h;obtain⟨⟨b1,b2⟩,hb,h⟩:=Option.bind_eq_some_iff.mp h;simp only[Option.some.injEq,Prod.mk.injEq]at h;obtain⟨rfl,rfl⟩:=h;obtain⟨c,_,hW,hback⟩:=Jt hg.1 hg.2.1 hg.2.2 ho0;refine (kZ.calls k P0_ _ _ _ _ A3 c3 l3 a4 b1 b2 w0 w hB hW hr3 hc3 hb).mono ?_;rintro e w' ⟨he,h1,h2,h3⟩;exact⟨he,hback w' _ b2 h1,h2,h3⟩
theorem rV.calls (k:Nat)(P0_:Nat→Prop)(lD:Value)(l0:List Int)(a1 a2:Int)(A3:Option Addr)(c3:Nat)(l3:List Int)(r1:Bool)(r2:List Int)(w0 w:World)(hB:Below w0.heap.size w0 w)(ho0:Kd.R (Kd.int .u64) 25 w w0.heap.size P0_ lD l0)(hr3:∀ W_,Kept w W_ (fun k_=>P0_ k_)→Kd.C (Kd.int .u64) W_ A3 l3.length l3)(hc3:l3.length≤c3)(h:rV.f k l0 a1 a2 l3=some (r1,r2)){uw:Value}(hw:uw=afM lD a1 a2:=by with_unfolding_all rfl) :
  Calls Tryz.prog 194 #[uw,.slice A3 l3.length c3] w fun e w'=>e=.returned (.bool r1)∧Kd.R (Kd.int .u64) 25 w' w0.heap.size (fun k_=>(P0_ k_∨w.heap.size≤k_)) lD r2∧Below w0.heap.size w0 w'∧Kept w w' (fun k_=>P0_ k_):=by
 subst hw;unfold rV.f at h
 by_cases hg:0≤a1∧a1<a2∧a2≤(l0.length:Int)
 case neg=>rw[if_neg hg]at h;exact absurd h (by simp)
 rw[if_pos hg]at h;obtain⟨⟨b1,b2⟩,hb,h⟩:=Option.bind_eq_some_iff.mp h;simp only[Option.some.injEq,Prod.mk.injEq]at h;obtain⟨rfl,rfl⟩:=h;obtain⟨c,_,hW,hback⟩:=Jt hg.1 hg.2.1 hg.2.2 ho0;refine (lg.calls k P0_ _ _ _ _ A3 c3 l3 b1 b2 w0 w hB hW hr3 hc3 hb).mono ?_;rintro e w' ⟨he,h1,h2,h3⟩;exact⟨he,hback w' _ b2 h1,h2,h3⟩
end Go.Proofs.Yy.PTx
end
