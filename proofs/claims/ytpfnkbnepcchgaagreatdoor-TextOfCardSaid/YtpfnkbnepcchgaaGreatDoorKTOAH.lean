/- Part 8. -/
import Derived.Lib.AtoiErrMem
import Derived.Shelf.Strings.SlTrimAscii
import Derived.Test.YtpfnkbnepcchgaaGreatDoorKTOAG
set_option linter.unusedSimpArgs false
set_option linter.unusedVariables false
section
set_option maxHeartbeats 8000000
set_option maxRecDepth 100000
namespace Go.Proofs.Yy.PTx
open Go.RowKit Go.Proofs.Yy.Z Go.Proofs.Yw.PrintWords Go.Proofs.Yw.PrintLast Go.Proofs.Yw.PrintMore
open Go.Proofs.Yy.M
attribute [local go_sem] dP eU lV lX lW lU
attribute [local go_sem] iq ik jE jD gu gq iE iD
def dF.l0:Nat→ByteArray→Int→Option (Int)
  | 0,_,_=>none
  | k+1,x0,x1=>if x1<(x0.size:Int) then (if 0≤x1 then (if (bt x0 x1)≥48 then (if (bt x0 x1)≤57 then (dF.l0 k x0 (wrap64 (x1+1))) else (some x1)) else (some x1)) else (none)) else (some x1)
def dF.f (k:Nat)(a0:ByteArray)(a1:Int):Option (Int):=dF.l0 k a0 a1
theorem dF.calls (k:Nat)(a0:ByteArray)(a1:Int)(r:Int)(w:World)(h:dF.f k a0 a1=some r) :
    Calls Tryz.prog 66 #[.string a0,.int .i64 a1] w fun e w'=>e=.returned (.int .i64 r)∧dX w w':=by
 have H:=am h;unfold dF.f at H;clear h
 go_enter Tryz.func66,Tryz.ntmps66
 go_wp2
 go_loopg [1] k (fun kq v1 w' => ∃ (Hy:Int),v1=.int .i64 Hy∧ae (dF.l0 kq a0 Hy=some r)∧ae (kq≤k)∧dX w w')
 case atStart=>exact⟨(a1),z1,H,zL,z4⟩
 clear H;obtain⟨Hy,rfl,H,HK1,⟨m1,rfl⟩⟩:=hrel;obtain _|k1:=gk
 ·exact zz H rfl
 simp only[dF.l0]at H;replace H:=zsd H;rcases H with⟨pK,H⟩|⟨pK,H⟩;replace H:=zid H;obtain⟨jV,H⟩:=H;replace H:=yD H;rcases H with⟨qV,H⟩|⟨qV,H⟩;replace H:=zsd H;rcases H with⟨uz,H⟩|⟨uz,H⟩;have p5:0≤(Hy:Int):=zD;have q5:Hy<(a0.size:Int):=zD;have hx5:=ru a0 Hy;replace p5:=eq_true p5;replace q5:=eq_true q5;have p7:0≤(Hy:Int):=zD;have q7:Hy<(a0.size:Int):=zD;have hx7:=ru a0 Hy;replace p7:=eq_true p7;replace q7:=eq_true q7;rotate_left;obtain rfl:=Option.some.inj H.out;have p5:0≤(Hy:Int):=zD;have q5:Hy<(a0.size:Int):=zD;have hx5:=ru a0 Hy;replace p5:=eq_true p5;replace q5:=eq_true q5;have p7:0≤(Hy:Int):=zD;have q7:Hy<(a0.size:Int):=zD;have hx7:=ru a0 Hy;replace p7:=eq_true p7;replace q7:=eq_true q7;rotate_left;obtain rfl:=Option.some.inj H.out;have p5:0≤(Hy:Int):=zD;have q5:Hy<(a0.size:Int):=zD;have hx5:=ru a0 Hy;replace p5:=eq_true p5;replace q5:=eq_true q5;rotate_left;obtain rfl:=Option.some.inj H.out;rotate_left
 all_goals (go_wp2)
 ·go_roundg k1
  case measure=>have:=HK1.out;omega
  case rel=>exact⟨(wrap64 (Hy+1)),z1,H,(zH HK1),z4⟩
 ·go_ret
  exact⟨z1,z4⟩
 ·go_ret
  exact⟨z1,z4⟩
 go_ret
 exact⟨z1,z4⟩
def ig.f (k:Nat)(fM:Bool)(fF:Bool)(iQ:ByteArray)(jd:Int):Option (Bool):=if fM=true then (if fF=true then (some false) else (if iQ.toList=([]:List UInt8) then (some (jd == 0)) else (some false))) else ((dF.f k iQ 0).bind fun aua=>(if iQ.toList=([]:List UInt8) then (some false) else (if (iQ.size:Int)≤4096 then (if aua=(iQ.size:Int) then (if jd≥(-1000000) then (some (decide (jd≤1000000))) else (some false)) else (some false)) else (some false))))
theorem ig.calls (k:Nat)(fM:Bool)(fF:Bool)(iQ:ByteArray)(jd:Int)(r:Bool)(w:World)(h:ig.f k fM fF iQ jd=some r) :
    Calls Tryz.prog 28 #[.agg #[.bool fM,.bool fF,.string iQ,.int .i64 jd]] w fun e w'=>e=.returned (.bool r)∧Below w.heap.size w w':=by
 have Rf:=Tryz.underlying23;have HB:=am (Below.refl w.heap.size w);have H:=am h;unfold ig.f at H;clear h
 cases fM
 replace H:=zb0 H;replace H:=zo H;obtain⟨aua,A11,H⟩:=H;replace H:=zsk H;rcases H with⟨pM,uQ,H⟩|⟨pM,uQ,c12,H⟩;obtain rfl:=Option.some.inj H.out;rotate_left;replace H:=zs H;rcases H with⟨c15,H⟩|⟨c15,H⟩;have xZ:decide ((iQ.size:Int)≤4096)=true:=decide_eq_true c15;have LY:decide (iQ.size≤4096)=true:=decide_eq_true (by omega);clear c15;replace H:=zsk H;rcases H with⟨Dx,Qu,H⟩|⟨Dx,Qu,c16,H⟩;replace H:=yD H;rcases H with⟨wF,H⟩|⟨wF,H⟩;obtain rfl:=Option.some.inj H.out;rotate_left;obtain rfl:=Option.some.inj H.out;rotate_left;obtain rfl:=Option.some.inj H.out;rotate_left;have xZ:decide ((iQ.size:Int)≤4096)=false:=decide_eq_false c15;have LY:decide (iQ.size≤4096)=false:=decide_eq_false (by omega);clear c15;obtain rfl:=Option.some.inj H.out;rotate_left;replace H:=zb1 H
 cases fF
 replace H:=zb0 H;replace H:=zsk H;rcases H with⟨qV,BB,H⟩|⟨qV,BB,c6,H⟩;obtain rfl:=Option.some.inj H.out;rotate_left;obtain rfl:=Option.some.inj H.out;rotate_left;replace H:=zb1 H;obtain rfl:=Option.some.inj H.out;rotate_left
 all_goals (go_enter Tryz.func28,Tryz.ntmps28;go_wp2_with (first|((with_reducible refine aA (N:=1) rfl ?_);(try (refine nS (by rfl) ?_;dsimp only));refine zx 1 23 #[.bool false,.bool fF,.string iQ,.int .i64 jd] ?_;intro agD hg w13 hbox hb;have U3:=am (hbox);have agE:=zG hg HB;have agF:=zG hg HB;replace HB:=zBs HB hb;clear hb hbox hg;obtain⟨_,_,_,_,_,_,_,_⟩:=zf4 U3)|((with_reducible refine af (f:=66) rfl ?_);refine zc (some 21) Tryz.func66 _ (dF.calls _ _ _ _ _ A11.out) ?_;rintro e w' ⟨rfl,⟨nd,rfl⟩⟩;refine⟨_,rfl,?_⟩)|((with_reducible refine aA (N:=1) rfl ?_);(try (refine nS (by rfl) ?_;dsimp only));refine zx 1 23 #[.bool true,.bool false,.string iQ,.int .i64 jd] ?_;intro agD hg w7 hbox hb;have U3:=am (hbox);have agE:=zG hg HB;have agF:=zG hg HB;replace HB:=zBs HB hb;clear hb hbox hg;obtain⟨_,_,_,_,_,_,_,_⟩:=zf4 U3)|((with_reducible refine aA (N:=1) rfl ?_);(try (refine nS (by rfl) ?_;dsimp only));refine zx 1 23 #[.bool true,.bool true,.string iQ,.int .i64 jd] ?_;intro agD hg w4 hbox hb;have U3:=am (hbox);have agE:=zG hg HB;have agF:=zG hg HB;replace HB:=zBs HB hb;clear hb hbox hg;obtain⟨_,_,_,_,_,_,_,_⟩:=zf4 U3)))
 ·go_ret
  exact⟨z2,zB HB⟩
 ·go_ret
  exact⟨z2,zB HB⟩
 ·go_ret
  exact⟨z2,zB HB⟩
 ·go_ret
  exact⟨z2,zB HB⟩
 ·go_ret
  exact⟨z2,zB HB⟩
 ·go_ret
  exact⟨z2,zB HB⟩
 ·go_ret
  exact⟨z2,zB HB⟩
 go_ret
 exact⟨z2,zB HB⟩
def fZ.f (a0:Int):Option (Bool):=if a0=8 then (some true) else (if a0=16 then (some true) else (if a0=32 then (some true) else (some (a0 == 64))))
theorem fZ.calls (a0:Int)(r:Bool)(w:World)(h:fZ.f a0=some r) :
    Calls Tryz.prog 36 #[.int .i64 a0] w fun e w'=>e=.returned (.bool r)∧dX w w':=by
 have H:=am h;unfold fZ.f at H;clear h;replace H:=zsk H;rcases H with⟨sQ,JU,H⟩|⟨sQ,JU,c2,H⟩;obtain rfl:=Option.some.inj H.out;rotate_left;replace H:=zsk H;rcases H with⟨pK,Kv,H⟩|⟨pK,Kv,c3,H⟩;obtain rfl:=Option.some.inj H.out;rotate_left;replace H:=zsk H;rcases H with⟨jV,rZ,H⟩|⟨jV,rZ,c4,H⟩;obtain rfl:=Option.some.inj H.out;rotate_left;obtain rfl:=Option.some.inj H.out;rotate_left
 all_goals (go_enter Tryz.func36,Tryz.ntmps36;go_wp2)
 ·go_ret
  exact⟨z1,z4⟩
 ·go_ret
  exact⟨z1,z4⟩
 ·go_ret
  exact⟨z1,z4⟩
 go_ret
 exact⟨z1,z4⟩
def bJ.l0:Nat→Int→Int→Int→Option (Int)
  | 0,_,_,_=>none
  | k+1,x0,x3,x4=>if x4<x0 then (bJ.l0 k x0 (IntKind.u64.wrap (2*x3)) (wrap64 (x4+1))) else (some x3)
def bJ.f (k:Nat)(a0:Int):Option (Int):=bJ.l0 k a0 1 0
theorem bJ.calls (k:Nat)(a0:Int)(r:Int)(w:World)(h:bJ.f k a0=some r) :
    Calls Tryz.prog 27 #[.int .i64 a0] w fun e w'=>e=.returned (.int .u64 r)∧dX w w':=by
 have H:=am h;unfold bJ.f at H;clear h
 go_enter Tryz.func27,Tryz.ntmps27
 go_wp2
 go_loopg [3,4] k (fun kq v3 v4 w' => ∃ (iy:Int) (qh:Int),v3=.int .u64 iy∧v4=.int .i64 qh∧ae (bJ.l0 kq a0 iy qh=some r)∧ae (kq≤k)∧dX w w')
 case atStart=>exact⟨(1),(0),z1,z1,H,zL,z4⟩
 clear H;obtain⟨iy,qh,rfl,rfl,H,HK1,⟨m1,rfl⟩⟩:=hrel;obtain _|k1:=gk
 ·exact zz H rfl
 simp only[bJ.l0]at H;replace H:=zsd H;rcases H with⟨sQ,H⟩|⟨sQ,H⟩;rotate_left;obtain rfl:=Option.some.inj H.out;rotate_left
 all_goals (go_wp2)
 ·go_roundg k1
  case measure=>have:=HK1.out;omega
  case rel=>exact⟨(IntKind.u64.wrap (2*iy)),(wrap64 (qh+1)),z1,z1,H,(zH HK1),z4⟩
 go_ret
 exact⟨z1,z4⟩
def aZ.f (l0:List Int)(a1:Int):Option (Int):=if a1<(l0.length:Int) then (if 0≤a1 then (some (rd l0 a1)) else (none)) else (some 0)
theorem aZ.calls (A0:Option Addr)(c0:Nat)(l0:List Int)(a1:Int)(r:Int)(w:World)(hr0:Kd.C (Kd.int .i64) w A0 l0.length l0)(hc0:l0.length≤c0)(h:aZ.f l0 a1=some r) :
    Calls Tryz.prog 138 #[.slice A0 l0.length c0,.int .i64 a1] w fun e w'=>e=.returned (.int .i64 r)∧dX w w':=by
 have HR0:=am hr0;have HC0:=am hc0;clear hr0 hc0;have H:=am h;unfold aZ.f at H;clear h;replace H:=zsd H;rcases H with⟨pK,H⟩|⟨pK,H⟩;replace H:=zid H;obtain⟨jV,H⟩:=H;obtain rfl:=Option.some.inj H.out;obtain⟨aGw,aGx,ayk,rfl,amd⟩:=zA (Kd.dQ HR0.out a1);rotate_left;obtain rfl:=Option.some.inj H.out;rotate_left
 all_goals (go_enter Tryz.func138,Tryz.ntmps138;go_wp2)
 ·go_ret
  exact⟨z1,z4⟩
 go_ret
 exact⟨z1,z4⟩
def aI.l0:Nat→List Int→Int→List Int→Int→Int→Option (List Int)
  | 0,_,_,_,_,_=>none
  | k+1,x0,x1,x5,x6,x7=>if x7<(x0.length:Int) then (if x1 > 0 then ((aZ.f x0 x7).bind fun acI=>(if x5.length<17592186044416 then (aI.l0 k x0 x1 (x5 ++ [Int.tmod (wrap64 ((wrap64 (acI*x1))+x6)) 16777216]) (wrap64 (Int.tdiv (wrap64 ((wrap64 (acI*x1))+x6)) 16777216)) (wrap64 (x7+1))) else (none))) else (if x6 > 0 then ((aZ.f x0 x7).bind fun acJ=>(if x5.length<17592186044416 then (aI.l0 k x0 x1 (x5 ++ [Int.tmod (wrap64 ((wrap64 (acJ*x1))+x6)) 16777216]) (wrap64 (Int.tdiv (wrap64 ((wrap64 (acJ*x1))+x6)) 16777216)) (wrap64 (x7+1))) else (none))) else (some x5))) else (if x6 > 0 then ((aZ.f x0 x7).bind fun acK=>(if x5.length<17592186044416 then (aI.l0 k x0 x1 (x5 ++ [Int.tmod (wrap64 ((wrap64 (acK*x1))+x6)) 16777216]) (wrap64 (Int.tdiv (wrap64 ((wrap64 (acK*x1))+x6)) 16777216)) (wrap64 (x7+1))) else (none))) else (some x5))
def aI.f (k:Nat)(l0:List Int)(a1:Int):Option (List Int):=aI.l0 k l0 a1 ([]:List Int) 0 0
theorem aI.calls (k:Nat)(A0:Option Addr)(c0:Nat)(l0:List Int)(a1:Int)(r:List Int)(w:World)(hr0:Kd.C (Kd.int .i64) w A0 l0.length l0)(hc0:l0.length≤c0)(h:aI.f k l0 a1=some r) :
    Calls Tryz.prog 82 #[.slice A0 l0.length c0,.int .i64 a1] w fun e w' => ∃ v0_:Value,e=.returned (v0_)∧Kd.R (Kd.int .i64) 3 w' w.heap.size (fun _=>True) v0_ r∧Below w.heap.size w w':=by
 have HR0:=am hr0;have HC0:=am hc0;clear hr0 hc0;have HB:=am (Below.refl w.heap.size w);have H:=am h;unfold aI.f at H;clear h
 go_enter Tryz.func82,Tryz.ntmps82
 go_wp2
 go_loopg [5,6,7] k (fun kq v5 v6 v7 w' => ∃ (gV:List Int) (mr:Int) (lC:Int),v6=.int .i64 mr∧v7=.int .i64 lC∧ae (aI.l0 kq l0 a1 gV mr lC=some r)∧ae (kq≤k)∧ae (Kd.R (Kd.int .i64) 3 w' w.heap.size (fun _=>True) v5 gV)∧ae (Below w.heap.size w w'))
 case atStart=>exact⟨(([]:List Int)),(0),(0),z1,z1,H,zL,⟨zN⟩,⟨zB HB⟩⟩
 clear H;obtain⟨gV,mr,lC,rfl,rfl,H,HK1,fH,HB⟩:=hrel;obtain _|k1:=gk
 ·exact zz H rfl
 simp only[aI.l0]at H;replace H:=zsd H;rcases H with⟨pK,H⟩|⟨pK,H⟩;replace H:=AV H;rcases H with⟨jV,H⟩|⟨jV,H⟩;replace H:=zo H;obtain⟨acI,A5,H⟩:=H;replace H:=zil H;obtain⟨ame,H⟩:=H;generalize agG:(gV ++ [Int.tmod (wrap64 ((wrap64 (acI*a1))+mr)) 16777216]:List Int)=ayl at H;have amf:=zY agG;clear agG;rotate_left;replace H:=AV H;rcases H with⟨uz,H⟩|⟨uz,H⟩;replace H:=zo H;obtain⟨acJ,A9,H⟩:=H;replace H:=zil H;obtain⟨LZ,H⟩:=H;generalize agH:(gV ++ [Int.tmod (wrap64 ((wrap64 (acJ*a1))+mr)) 16777216]:List Int)=aym at H;have amg:=zY agH;clear agH;rotate_left;obtain rfl:=Option.some.inj H.out;rotate_left;replace H:=AV H;rcases H with⟨pM,H⟩|⟨pM,H⟩;replace H:=zo H;obtain⟨acK,A13,H⟩:=H;replace H:=zil H;obtain⟨amh,H⟩:=H;generalize agI:(gV ++ [Int.tmod (wrap64 ((wrap64 (acK*a1))+mr)) 16777216]:List Int)=ayn at H;have ami:=zY agI;clear agI;rotate_left;obtain rfl:=Option.some.inj H.out;rotate_left
 all_goals (go_wp2_with (first|((with_reducible refine af (f:=138) rfl ?_);refine zc (some 25) Tryz.func138 #[.slice A0 l0.length c0,.int .i64 lC] (aZ.calls _ _ _ _ _ _ (zC (Kd.ku HR0.out HB.out)) HC0.out A5.out) ?_;rintro e w' ⟨rfl,⟨nd,rfl⟩⟩;refine⟨_,rfl,?_⟩)|((with_reducible refine dW (b := .append) (xs:=#[.tmp 30,.tmp 33]) rfl ?_);at_builtin;refine Kd.kV (Kd.int .i64) (w0:=w) w.heap.size rfl (.tmp 30) (.tmp 33) 70 3 (.int .i64 0) 8 rfl Tryz.underlying70 info3 rfl (by decide) (by omega) u5 gV (Int.tmod (wrap64 ((wrap64 (acI*a1))+mr)) 16777216) [.int .i64 (Int.tmod (wrap64 ((wrap64 (acI*a1))+mr)) 16777216)] (fun _=>True) (fun _=>False) rfl rfl ?aP (fun _ hk=>hk.elim) ?aF ?aO ?aB ?aS ?aL ?_;(case aP=>exact rfl);(case aB=>exact (zB HB));(case aF=>exact (fun _ _=>trivial));(case aO=>exact (zR fH));(case aS=>exact (zS HB));(case aL=>have:=ame.out;omega);intro aGy w7 ho hb hg hat;rw[← amf.out]at ho;replace HB:=am (hb);have amj:=am (ho);clear fH ho hb hg hat)|((with_reducible refine af (f:=138) rfl ?_);refine zc (some 25) Tryz.func138 #[.slice A0 l0.length c0,.int .i64 lC] (aZ.calls _ _ _ _ _ _ (zC (Kd.ku HR0.out HB.out)) HC0.out A9.out) ?_;rintro e w' ⟨rfl,⟨nd,rfl⟩⟩;refine⟨_,rfl,?_⟩)|((with_reducible refine dW (b := .append) (xs:=#[.tmp 30,.tmp 33]) rfl ?_);at_builtin;refine Kd.kV (Kd.int .i64) (w0:=w) w.heap.size rfl (.tmp 30) (.tmp 33) 70 3 (.int .i64 0) 8 rfl Tryz.underlying70 info3 rfl (by decide) (by omega) u5 gV (Int.tmod (wrap64 ((wrap64 (acJ*a1))+mr)) 16777216) [.int .i64 (Int.tmod (wrap64 ((wrap64 (acJ*a1))+mr)) 16777216)] (fun _=>True) (fun _=>False) rfl rfl ?aP (fun _ hk=>hk.elim) ?aF ?aO ?aB ?aS ?aL ?_;(case aP=>exact rfl);(case aB=>exact (zB HB));(case aF=>exact (fun _ _=>trivial));(case aO=>exact (zR fH));(case aS=>exact (zS HB));(case aL=>have:=LZ.out;omega);intro aGz w11 ho hb hg hat;rw[← amg.out]at ho;replace HB:=am (hb);have amk:=am (ho);clear fH ho hb hg hat)|((with_reducible refine af (f:=138) rfl ?_);refine zc (some 25) Tryz.func138 #[.slice A0 l0.length c0,.int .i64 lC] (aZ.calls _ _ _ _ _ _ (zC (Kd.ku HR0.out HB.out)) HC0.out A13.out) ?_;rintro e w' ⟨rfl,⟨nd,rfl⟩⟩;refine⟨_,rfl,?_⟩)|((with_reducible refine dW (b := .append) (xs:=#[.tmp 30,.tmp 33]) rfl ?_);at_builtin;refine Kd.kV (Kd.int .i64) (w0:=w) w.heap.size rfl (.tmp 30) (.tmp 33) 70 3 (.int .i64 0) 8 rfl Tryz.underlying70 info3 rfl (by decide) (by omega) u5 gV (Int.tmod (wrap64 ((wrap64 (acK*a1))+mr)) 16777216) [.int .i64 (Int.tmod (wrap64 ((wrap64 (acK*a1))+mr)) 16777216)] (fun _=>True) (fun _=>False) rfl rfl ?aP (fun _ hk=>hk.elim) ?aF ?aO ?aB ?aS ?aL ?_;(case aP=>exact rfl);(case aB=>exact (zB HB));(case aF=>exact (fun _ _=>trivial));(case aO=>exact (zR fH));(case aS=>exact (zS HB));(case aL=>have:=amh.out;omega);intro aGA w15 ho hb hg hat;rw[← ami.out]at ho;replace HB:=am (hb);have aml:=am (ho);clear fH ho hb hg hat)))
 ·go_roundg k1
  case measure=>have:=HK1.out;omega
  case rel=>exact⟨(ayl),(wrap64 (Int.tdiv (wrap64 ((wrap64 (acI*a1))+mr)) 16777216)),(wrap64 (lC+1)),z1,z1,H,(zH HK1),⟨zR amj⟩,⟨zB HB⟩⟩
 ·go_roundg k1
  case measure=>have:=HK1.out;omega
  case rel=>exact⟨(aym),(wrap64 (Int.tdiv (wrap64 ((wrap64 (acJ*a1))+mr)) 16777216)),(wrap64 (lC+1)),z1,z1,H,(zH HK1),⟨zR amk⟩,⟨zB HB⟩⟩
 ·go_ret
  exact⟨_,z2,zR fH,zB HB⟩
 ·go_roundg k1
  case measure=>have:=HK1.out;omega
  case rel=>exact⟨(ayn),(wrap64 (Int.tdiv (wrap64 ((wrap64 (acK*a1))+mr)) 16777216)),(wrap64 (lC+1)),z1,z1,H,(zH HK1),⟨zR aml⟩,⟨zB HB⟩⟩
 go_ret
 exact⟨_,z2,zR fH,zB HB⟩
mutual
def aU.l0:Nat→List Int→List Int→List Int→Int→Int→Option (List Int)
  | 0,_,_,_,_,_=>none
  | k+1,x0,x1,x5,x6,x7=>if x7<(x0.length:Int) then (aU.j1 k x0 x1 x5 x6 x7 true) else (if x7<(x1.length:Int) then (aU.j1 k x0 x1 x5 x6 x7 true) else (aU.j1 k x0 x1 x5 x6 x7 (decide (x6 > 0))))
def aU.j1:Nat→List Int→List Int→List Int→Int→Int→Bool→Option (List Int)
  | 0,_,_,_,_,_,_=>none
  | k+1,x0,x1,x5,x6,x7,x22=>if x22=true then ((aZ.f x0 x7).bind fun acL=>((aZ.f x1 x7).bind fun acM=>(if x5.length<17592186044416 then (aU.l0 k x0 x1 (x5 ++ [Int.tmod (wrap64 ((wrap64 (acL+acM))+x6)) 16777216]) (wrap64 (Int.tdiv (wrap64 ((wrap64 (acL+acM))+x6)) 16777216)) (wrap64 (x7+1))) else (none)))) else (some x5)
end
def aU.f (k:Nat)(l0:List Int)(l1:List Int):Option (List Int):=aU.l0 k l0 l1 ([]:List Int) 0 0
theorem aU.calls (k:Nat)(A0:Option Addr)(c0:Nat)(l0:List Int)(A1:Option Addr)(c1:Nat)(l1:List Int)(r:List Int)(w:World)(hr0:Kd.C (Kd.int .i64) w A0 l0.length l0)(hc0:l0.length≤c0)(hr1:Kd.C (Kd.int .i64) w A1 l1.length l1)(hc1:l1.length≤c1)(h:aU.f k l0 l1=some r) :
    Calls Tryz.prog 83 #[.slice A0 l0.length c0,.slice A1 l1.length c1] w fun e w' => ∃ v0_:Value,e=.returned (v0_)∧Kd.R (Kd.int .i64) 3 w' w.heap.size (fun _=>True) v0_ r∧Below w.heap.size w w':=by
 have HR0:=am hr0;have HC0:=am hc0;clear hr0 hc0;have HR1:=am hr1;have HC1:=am hc1;clear hr1 hc1;have HB:=am (Below.refl w.heap.size w);have H:=am h;unfold aU.f at H;clear h
 go_enter Tryz.func83,Tryz.ntmps83
 go_wp2
 go_loopg [5,6,7] k (fun kq v5 v6 v7 w' => ∃ (gV:List Int) (mr:Int) (lC:Int),v6=.int .i64 mr∧v7=.int .i64 lC∧ae (aU.l0 kq l0 l1 gV mr lC=some r)∧ae (kq≤k)∧ae (Kd.R (Kd.int .i64) 3 w' w.heap.size (fun _=>True) v5 gV)∧ae (Below w.heap.size w w'))
 case atStart=>exact⟨(([]:List Int)),(0),(0),z1,z1,H,zL,⟨zN⟩,⟨zB HB⟩⟩
 clear H;obtain⟨gV,mr,lC,rfl,rfl,H,HK1,fH,HB⟩:=hrel;obtain _|k1:=gk
 ·exact zz H rfl
 simp only[aU.l0]at H
 go_upto_region 4 with (fail)
 go_cut [22] (fun v22 wc => ∃ (kq:Nat) (YK:Bool),v22=.bool YK∧ae (aU.j1 kq l0 l1 gV mr lC YK=some r)∧ae (kq≤k1)∧ae (Kd.R (Kd.int .i64) 3 wc w.heap.size (fun _=>True) u5 gV)∧ae (Below w.heap.size w wc))
 case first =>
  replace H:=zsd H;rcases H with⟨jV,H⟩|⟨jV,H⟩
  (first|rw[jV]|(simp only[bW,fV];rw[jV])|rw[rZ]|skip)
  rotate_left
  (first|rw[jV]|(simp only[bW,fV];rw[jV])|rw[rZ]|skip)
  replace H:=zsd H;rcases H with⟨qN,H⟩|⟨qN,H⟩;rotate_left;rotate_left
  all_goals (go_wp2)
  ·go_meet
   case rel=>exact⟨_,(true),z1,H,⟨by have:=HK1.out;first|omega|exact Nat.le_refl _⟩,⟨zR fH⟩,⟨zB HB⟩⟩
  ·go_meet
   case rel=>exact⟨_,(true),z1,H,⟨by have:=HK1.out;first|omega|exact Nat.le_refl _⟩,⟨zR fH⟩,⟨zB HB⟩⟩
  go_meet
  case rel=>exact⟨_,(decide (mr > 0)),z1,H,⟨by have:=HK1.out;first|omega|exact Nat.le_refl _⟩,⟨zR fH⟩,⟨zB HB⟩⟩
 case rest =>
  obtain⟨kq,YK,rfl,H,HJ2,fH,HB⟩:=hcut;obtain _|kj2:=kq
  ·exact zz H rfl
  simp only[aU.j1]at H
  cases YK
  replace H:=zb0 H;obtain rfl:=Option.some.inj H.out;rotate_left;replace H:=zb1 H;replace H:=zo H;obtain⟨acL,A7,H⟩:=H;replace H:=zo H;obtain⟨acM,A8,H⟩:=H;replace H:=zil H;obtain⟨acN,H⟩:=H;generalize agJ:(gV ++ [Int.tmod (wrap64 ((wrap64 (acL+acM))+mr)) 16777216]:List Int)=ayo at H;have amm:=zY agJ;clear agJ;rotate_left
  all_goals (go_wp2_with (first|((with_reducible refine af (f:=138) rfl ?_);refine zc (some 27) Tryz.func138 #[.slice A0 l0.length c0,.int .i64 lC] (aZ.calls _ _ _ _ _ _ (zC (Kd.ku HR0.out HB.out)) HC0.out A7.out) ?_;rintro e w' ⟨rfl,⟨nd,rfl⟩⟩;refine⟨_,rfl,?_⟩)|((with_reducible refine af (f:=138) rfl ?_);refine zc (some 30) Tryz.func138 #[.slice A1 l1.length c1,.int .i64 lC] (aZ.calls _ _ _ _ _ _ (zC (Kd.ku HR1.out (zB HB))) HC1.out A8.out) ?_;rintro e w' ⟨rfl,⟨nd,rfl⟩⟩;refine⟨_,rfl,?_⟩)|((with_reducible refine dW (b := .append) (xs:=#[.tmp 34,.tmp 37]) rfl ?_);(try (refine nS (by rfl) ?_;dsimp only));at_builtin;refine Kd.kV (Kd.int .i64) (w0:=w) w.heap.size rfl (.tmp 34) (.tmp 37) 70 3 (.int .i64 0) 8 rfl Tryz.underlying70 info3 rfl (by decide) (by omega) u5 gV (Int.tmod (wrap64 ((wrap64 (acL+acM))+mr)) 16777216) [.int .i64 (Int.tmod (wrap64 ((wrap64 (acL+acM))+mr)) 16777216)] (fun _=>True) (fun _=>False) rfl rfl ?aP (fun _ hk=>hk.elim) ?aF ?aO ?aB ?aS ?aL ?_;(case aP=>exact rfl);(case aB=>exact (zB HB));(case aF=>exact (fun _ _=>trivial));(case aO=>exact (zR fH));(case aS=>exact (zS HB));(case aL=>have:=acN.out;omega);intro aGB w10 ho hb hg hat;rw[← amm.out]at ho;replace HB:=am (hb);have amn:=am (ho);clear fH ho hb hg hat)))
  ·go_ret
   exact⟨_,z2,zR fH,zB HB⟩
  go_roundg kj2
  case measure=>have:=HK1.out;have:=HJ2.out;omega
  case rel=>exact⟨(ayo),(wrap64 (Int.tdiv (wrap64 ((wrap64 (acL+acM))+mr)) 16777216)),(wrap64 (lC+1)),z1,z1,H,⟨by have:=HK1.out;have:=HJ2.out;omega⟩,⟨zR amn⟩,⟨zB HB⟩⟩
def dR.l0:Nat→Int→List Int→Option (List Int)
  | 0,_,_=>none
  | k+1,x0,x3=>if x0 > 0 then (if x3.length<17592186044416 then (dR.l0 k (IntKind.u64.wrap (Int.tdiv x0 16777216)) (x3 ++ [wrap64 (Int.tmod x0 16777216)])) else (none)) else (some x3)
def dR.f (k:Nat)(a0:Int):Option (List Int):=dR.l0 k a0 ([]:List Int)
theorem dR.calls (k:Nat)(a0:Int)(r:List Int)(w:World)(h:dR.f k a0=some r) :
    Calls Tryz.prog 84 #[.int .u64 a0] w fun e w' => ∃ v0_:Value,e=.returned (v0_)∧Kd.R (Kd.int .i64) 3 w' w.heap.size (fun _=>True) v0_ r∧Below w.heap.size w w':=by
 have HB:=am (Below.refl w.heap.size w);have H:=am h;unfold dR.f at H;clear h
 go_enter Tryz.func84,Tryz.ntmps84
 go_wp2
 go_loopg [0,3] k (fun kq v0 v3 w' => ∃ (mO:Int) (iy:List Int),v0=.int .u64 mO∧ae (dR.l0 kq mO iy=some r)∧ae (kq≤k)∧ae (Kd.R (Kd.int .i64) 3 w' w.heap.size (fun _=>True) v3 iy)∧ae (Below w.heap.size w w'))
 case atStart=>exact⟨(a0),(([]:List Int)),z1,H,zL,⟨zN⟩,⟨zB HB⟩⟩
 clear H;obtain⟨mO,iy,rfl,H,HK1,qx,HB⟩:=hrel;obtain _|k1:=gk
 ·exact zz H rfl
 simp only[dR.l0]at H;replace H:=AV H;rcases H with⟨sQ,H⟩|⟨sQ,H⟩;replace H:=zil H;obtain⟨ayp,H⟩:=H;generalize agK:(iy ++ [wrap64 (Int.tmod mO 16777216)]:List Int)=ayq at H;have amo:=zY agK;clear agK;rotate_left;obtain rfl:=Option.some.inj H.out;rotate_left
 all_goals (go_wp2_with (first|((with_reducible refine dW (b := .append) (xs:=#[.tmp 6,.tmp 10]) rfl ?_);at_builtin;refine Kd.kV (Kd.int .i64) (w0:=w) w.heap.size rfl (.tmp 6) (.tmp 10) 70 3 (.int .i64 0) 8 rfl Tryz.underlying70 info3 rfl (by decide) (by omega) u3 iy (wrap64 (Int.tmod mO 16777216)) [.int .i64 (wrap64 (Int.tmod mO 16777216))] (fun _=>True) (fun _=>False) rfl rfl ?aP (fun _ hk=>hk.elim) ?aF ?aO ?aB ?aS ?aL ?_;(case aP=>exact rfl);(case aB=>exact (zB HB));(case aF=>exact (fun _ _=>trivial));(case aO=>exact (zR qx));(case aS=>exact (zS HB));(case aL=>have:=ayp.out;omega);intro aGC w4 ho hb hg hat;rw[← amo.out]at ho;replace HB:=am (hb);have amq:=am (ho);clear qx ho hb hg hat)))
 ·go_roundg k1
  case measure=>have:=HK1.out;omega
  case rel=>exact⟨(IntKind.u64.wrap (Int.tdiv mO 16777216)),(ayq),z1,H,(zH HK1),⟨zR amq⟩,⟨zB HB⟩⟩
 go_ret
 exact⟨_,z2,zR qx,zB HB⟩
theorem ZM (d:Nat)(w:World)(x0 y0:Int)(x1 y1:Int) :
  (Op.equalIn (d+2) 211 (.agg #[.int .u64 x0,.int .u64 x1]) (.agg #[.int .u64 y0,.int .u64 y1])).run Tryz.prog w=.ok (x0 == y0 && (x1 == y1)) w:=by
 refine SV Tryz.underlying211 (by kernel_rfl) ?_;refine rf (by rfl) (by go_simp;rfl) (by go_simp;rfl) (by go_simp) ?_;exact Gx (by rfl) (by go_simp;rfl) (by go_simp;rfl) (by go_simp)
end Go.Proofs.Yy.PTx
end
section
namespace Go.Proofs.Yy.PTx
open Go.RowKit Go.Proofs.Yw.PrintWords Go.Proofs.Yw.PrintLast Go.Proofs.Yw.PrintMore Go.Shelf Go.Sort Go.Lib
def ayb (u:Int):ByteArray:=⟨(Lib.decDigits u.toNat).toArray⟩
def gm.f (a0 a1:Int):Option ByteArray:=if 0≤a0∧a0<18446744073709551616∧a1=10 then some (ayb a0) else none
set_option maxHeartbeats 400000 in
theorem gm.calls (a0 a1:Int)(r:ByteArray)(w:World)(h:gm.f a0 a1=some r)(htab:Fx.Laid w:=by exact Fx.Laid.below HTAB.out (by repeat (first|(with_reducible first|exact HB.out|apply bn|apply aJ|apply aW)|exact HB.out))) :
  Calls Tryz.prog 106 #[.int .u64 a0,.int .i64 a1] w fun e w'=>e=.returned (.string r)∧Below w.heap.size w w':=by
 unfold gm.f at h
 by_cases hg:0≤a0∧a0<18446744073709551616∧a1=10
 case neg=>rw[if_neg hg]at h;exact absurd h (by simp)
 rw[if_pos hg]at h;obtain rfl:=Option.some.inj h;obtain⟨h0,h1,rfl⟩:=hg;obtain⟨u,rfl⟩:=Int.eq_ofNat_of_zero_le h0
 have hu:u<18446744073709551616:=by omega
 have HU:=Lib.hid hu;have HT:=Lib.hid htab;clear h h0 h1 hu htab
 go_enter Tryz.func106,Tryz.ntmps106
 go_wp2_with (go_at_call 165;refine (Fmt.BA u HU.out _ HT.out.1).mono ?_;rintro e w' ⟨rfl,k,os,rfl⟩)
 go_ret
 exact⟨rfl,Fmt.below_grow _ _ _⟩
def strings_Repeat.f (s:ByteArray)(c:Int):Option ByteArray:=if 0≤c∧c≤9223372036854775807∧s.size*c.toNat≤140737488355328 then some ⟨(Lib.repeatL s.data.toList c.toNat).toArray⟩ else none
theorem strings_Repeat.calls (a0:ByteArray)(a1:Int)(r:ByteArray)(w:World)(h:strings_Repeat.f a0 a1=some r) :
  Calls Tryz.prog 69 #[.string a0,.int .i64 a1] w fun e w'=>e=.returned (.string r)∧Below w.heap.size w w':=by
 unfold strings_Repeat.f at h
 by_cases hg:0≤a1∧a1≤9223372036854775807∧a0.size*a1.toNat≤140737488355328
 case neg=>rw[if_neg hg]at h;exact absurd h (by simp)
 rw[if_pos hg]at h;obtain rfl:=Option.some.inj h;obtain⟨h0,h1,h2⟩:=hg;obtain⟨c,rfl⟩:=Int.eq_ofNat_of_zero_le h0;rw[Int.toNat_natCast]at *;exact Tryz.strings_Repeat a0 c w (by omega) h2
def mF (x:Nat):Bool:=decide (x<48) || decide (57<x)
theorem UK (W:World)(x:Nat):Calls Tryz.prog 148 #[.int .i32 (x:Int)] W fun e w'=>e=.returned (.bool (mF x))∧∃ q,w'=W.drewN q:=by
 by_cases h1:x<48
 ·have hb:decide ((x:Int)<48)=true:=decide_eq_true (by omega)
  have hn:mF x=true:=by simp[mF,h1]
  have HN:=am hn;clear hn
  go_enter Tryz.func148,Tryz.ntmps148
  go_wp2
  go_ret
  exact⟨by rw[HN.out];rfl,0,(World.drewN_zero _).symm⟩
 ·have hb:decide ((x:Int)<48)=false:=decide_eq_false (by omega)
  by_cases h2:57<x
  ·have hb2:decide ((57:Int)<(x:Int))=true:=decide_eq_true (by omega)
   have hn:mF x=true:=by simp[mF,h2]
   have HN:=am hn;clear hn
   go_enter Tryz.func148,Tryz.ntmps148
   go_wp2
   go_ret
   exact⟨by rw[HN.out];rfl,0,(World.drewN_zero _).symm⟩
  ·have hb2:decide ((57:Int)<(x:Int))=false:=decide_eq_false (by omega)
   have hn:mF x=false:=by simp[mF,h1,h2]
   have HN:=am hn;clear hn
   go_enter Tryz.func148,Tryz.ntmps148
   go_wp2
   go_ret
   exact⟨by rw[HN.out];rfl,0,(World.drewN_zero _).symm⟩
theorem Lr (args:Array Value)(w:World):(callFunc 148 args).run Tryz.prog w=.ok (.enter 148 args) w:=enters_of Tryz.func148 (by kernel_rfl) rfl args w
def strings_IndexFunc.f (s:ByteArray):Option Int:=some (Lib.idxFunc mF true s)
theorem strings_IndexFunc.calls (a0:ByteArray)(r:Int)(w:World)(h:strings_IndexFunc.f a0=some r) :
  Calls Tryz.prog 147 #[.string a0,.func (.func 148) #[] #[]] w fun e w'=>e=.returned (.int .i64 r)∧Below w.heap.size w w':=by
 unfold strings_IndexFunc.f at h;obtain rfl:=Option.some.inj h;exact Tryz.strings_IndexFunc 148 #[] Lr mF a0 w (fun W x hb=>UK W x)
def gZ.f (s:ByteArray)(base bits:Int):Option (Int × Option Int):=if base=10∧bits=64∧s.size≤9223372036854775806 then (match Lib.parseUintB 64 s.data.toList with | .ok u=>some ((u:Int),none)|_=>none) else none
theorem gZ.calls (a0:ByteArray)(a1 a2:Int)(r1:Int)(r2:Option Int)(w:World)(h:gZ.f a0 a1 a2=some (r1,r2)) :
  Calls Tryz.prog 149 #[.string a0,.int .i64 a1,.int .i64 a2] w fun e w'=>e=.returned (.tuple #[.int .u64 r1,qL r2])∧Below w.heap.size w w':=by
 unfold gZ.f at h
 by_cases hg:a1=10∧a2=64∧a0.size≤9223372036854775806
 case neg=>rw[if_neg hg]at h;exact absurd h (by simp)
 rw[if_pos hg]at h;obtain⟨rfl,rfl,hs⟩:=hg
 obtain⟨u,hp⟩:∃ u,Lib.parseUintB 64 a0.data.toList=.ok u:=by
  cases hp:Lib.parseUintB 64 a0.data.toList <;> rw[hp]at h <;> first|exact⟨_,rfl⟩|cases h
 rw[hp]at h;obtain⟨rfl,rfl⟩:=Prod.mk.inj (Option.some.inj h);refine (Tryz.strconv_ParseUint_10_at64_ok a0 hs u hp w).mono ?_;rintro e w' ⟨he,hw⟩;refine⟨he,?_⟩;rcases hw with rfl|rfl
 ·exact Below.refl _ _
 ·exact Lib.bytesWorld_below _ _ _
end Go.Proofs.Yy.PTx
end
section
namespace Go.Proofs.Yy.PTx
open Go.RowKit Go.Proofs.Yw.PrintWords Go.Proofs.Yw.PrintLast Go.Proofs.Yw.PrintMore Go.Shelf Go.Lib
def mZ.f (n:Int):Option ByteArray:=if -9223372036854775808≤n∧n≤9223372036854775807 then some ⟨(Lib.itoa n).toArray⟩ else none
theorem mZ.calls (a0:Int)(r:ByteArray)(w:World)(h:mZ.f a0=some r)(htab:Fx.Laid w:=by exact Fx.Laid.below HTAB.out (by repeat (first|(with_reducible first|exact HB.out|apply bn|apply aJ|apply aW|refine bF ?_ (ae.out (by assumption)))|exact HB.out))) :
  Calls Tryz.prog 70 #[.int .i64 a0] w fun e w'=>e=.returned (.string r)∧Below w.heap.size w w':=by
 unfold mZ.f at h
 by_cases hc : -9223372036854775808≤a0∧a0≤9223372036854775807
 case neg=>rw[if_neg hc]at h;exact absurd h (by simp)
 rw[if_pos hc]at h;obtain rfl:=Option.some.inj h;refine (Tryz.strconv_Itoa a0 hc.1 hc.2 w htab.1).mono ?_;rintro e w' ⟨he,k,os,rfl⟩;exact⟨he,Fx.below_grow _ _ _⟩
def bits_Len64.f (k:Nat)(x:Int):Option Int:=if 0≤x∧x≤18446744073709551615 then some (Lib.bitLen x.toNat:Int) else none
theorem bits_Len64.calls (k:Nat)(a0:Int)(r:Int)(w:World)(h:bits_Len64.f k a0=some r) :
  Calls Tryz.prog 152 #[.int .u64 a0] w fun e w'=>e=.returned (.int .i64 r)∧dX w w':=by
 unfold bits_Len64.f at h
 by_cases hg:0≤a0∧a0≤18446744073709551615
 case neg=>rw[if_neg hg]at h;exact absurd h (by simp)
 rw[if_pos hg]at h;obtain rfl:=Option.some.inj h
 exact (Tryz.bits_Len64 a0 w hg.1 hg.2).mono fun _ _ ⟨he,hw⟩=>⟨he,by rw[hw];exact dX.refl _⟩
def jK.f (s c:ByteArray):Option ByteArray:=if c.data.toList=[48] then some ⟨(Lib.trimLeftB s.data.toList 48).toArray⟩ else none
theorem bytes_eq {c:ByteArray}{l:List UInt8}(h:c.data.toList=l):c=⟨l.toArray⟩:=by
 cases c with
 | mk d=>cases d with
  | mk q=>simp only at h;rw[h]
theorem jK.calls (a0 a1 r:ByteArray)(w:World)(h:jK.f a0 a1=some r) :
  Calls Tryz.prog 118 #[.string a0,.string a1] w fun e w'=>e=.returned (.string r)∧Below w.heap.size w w':=by
 unfold jK.f at h
 by_cases hc:a1.data.toList=[48]
 case neg=>rw[if_neg hc]at h;exact absurd h (by simp)
 rw[if_pos hc]at h;obtain rfl:=Option.some.inj h;rw[bytes_eq hc];refine (Tryz.strings_TrimLeft_one a0 48 (by decide) w).mono ?_;rintro e w' ⟨he,rfl⟩;exact⟨he,Below.refl _ _⟩
def jv.f (s c:ByteArray):Option ByteArray:=if c.data.toList=[48]∧s.size≤9223372036854775807 then some ⟨(Lib.trimRightB s.data.toList 48).toArray⟩ else none
theorem jv.calls (a0 a1 r:ByteArray)(w:World)(h:jv.f a0 a1=some r) :
  Calls Tryz.prog 119 #[.string a0,.string a1] w fun e w'=>e=.returned (.string r)∧Below w.heap.size w w':=by
 unfold jv.f at h
 by_cases hc:a1.data.toList=[48]∧a0.size≤9223372036854775807
 case neg=>rw[if_neg hc]at h;exact absurd h (by simp)
 rw[if_pos hc]at h;obtain rfl:=Option.some.inj h;rw[bytes_eq hc.1];refine (Tryz.strings_TrimRight_one a0 48 (by decide) w hc.2).mono ?_;rintro e w' ⟨he,rfl⟩;exact⟨he,Below.refl _ _⟩
def qC:List UInt8 := [48,49,50,51,52,53,54,55,56,57]
def mY.f (s c:ByteArray):Option ByteArray:=if c.data.toList=qC∧s.size≤9223372036854775807 then some ⟨(Lib.trimS s.data.toList qC).toArray⟩ else none
theorem mY.calls (a0 a1 r:ByteArray)(w:World)(h:mY.f a0 a1=some r) :
  Calls Tryz.prog 120 #[.string a0,.string a1] w fun e w'=>e=.returned (.string r)∧Below w.heap.size w w':=by
 unfold mY.f at h
 by_cases hc:a1.data.toList=qC∧a0.size≤9223372036854775807
 case neg=>rw[if_neg hc]at h;exact absurd h (by simp)
 rw[if_pos hc]at h;obtain rfl:=Option.some.inj h;rw[← hc.1]
 have hz:a1.size=10:=by
  rw[bytes_eq hc.1];rfl
 exact Any.strings_Trim_laid Tryz.lays160 (by kernel_rfl) a0 a1 w hc.2 (by omega) (by rw[hc.1];exact ascii_of_all (by decide))
end Go.Proofs.Yy.PTx
end
section
set_option maxHeartbeats 8000000
set_option maxRecDepth 100000
namespace Go.Proofs.Yy.PTx
open Go.RowKit Go.Proofs.Yy.Z Go.Proofs.Yw.PrintWords Go.Proofs.Yw.PrintLast Go.Proofs.Yw.PrintMore
open Go.Proofs.Yy.M
attribute [local go_sem] dP eU lV lX lW lU
attribute [local go_sem] iq ik jE jD gu gq iE iD
attribute [local go_sem high] ZM
def oD.f (k:Nat)(fM:Int)(fF:Int):Option (Int):=if fM > 0 then ((bits_Len64.f k fM).bind fun aub=>(some (wrap64 (64+aub)))) else ((bits_Len64.f k fF).bind fun auc=>(some auc))
theorem oD.calls (k:Nat)(fM:Int)(fF:Int)(r:Int)(w:World)(h:oD.f k fM fF=some r) :
    Calls Tryz.prog 186 #[.agg #[.int .u64 fM,.int .u64 fF]] w fun e w'=>e=.returned (.int .i64 r)∧Below w.heap.size w w':=by
 have JV:=Tryz.underlying211;have HB:=am (Below.refl w.heap.size w);have H:=am h;unfold oD.f at H;clear h;replace H:=AV H;rcases H with⟨sQ,H⟩|⟨sQ,H⟩;replace H:=zo H;obtain⟨aub,A3,H⟩:=H;obtain rfl:=Option.some.inj H.out;rotate_left;replace H:=zo H;obtain⟨auc,A6,H⟩:=H;obtain rfl:=Option.some.inj H.out;rotate_left
 all_goals (go_enter Tryz.func186,Tryz.ntmps186;go_wp2_with (first|((with_reducible refine aA (N:=1) rfl ?_);refine zx 1 211 #[.int .u64 fM,.int .u64 fF] ?_;intro ayr hg w4 hbox hb;have amr:=am (hbox);have ays:=zG hg HB;have ayt:=zG hg HB;replace HB:=zBs HB hb;clear hb hbox hg;obtain⟨_,_,_,_⟩:=zf2 amr)|((with_reducible refine af (f:=152) rfl ?_);refine zc (some 8) Tryz.func152 _ (bits_Len64.calls _ _ _ _ A3.out) ?_;rintro e w' ⟨rfl,⟨nd,rfl⟩⟩;refine⟨_,rfl,?_⟩)|((with_reducible refine af (f:=152) rfl ?_);refine zc (some 12) Tryz.func152 _ (bits_Len64.calls _ _ _ _ A6.out) ?_;rintro e w' ⟨rfl,⟨nd,rfl⟩⟩;refine⟨_,rfl,?_⟩)))
 ·go_ret
  exact⟨z2,zB HB⟩
 go_ret
 exact⟨z2,zB HB⟩
def jG.f (fM:Int)(fF:Int)(a1:Int):Option (Int × Int):=if a1≥64 then (if 0≤(wrap64 (a1-64)) then (some (shl .u64 fF (wrap64 (a1-64)),0)) else (none)) else (if 0≤a1 then (if 0≤(wrap64 (64-a1)) then (some (Go.bits .or .u64 (shl .u64 fM a1) (shr .u64 fF (wrap64 (64-a1))),shl .u64 fF a1)) else (none)) else (none))
def jG.T3:Bool × List (List Nat × List Nat):=(true,[([],[]),([0],[0]),([],[]),([1,2],[1,2]),([],[]),([4],[4]),([],[]),([6],[6]),([5,7],[5,7]),([3,8],[3,8]),([],[]),([10],[10]),([],[]),([11,12],[11,12]),([9,13],[9,13]),([14,0,1,2,3,4,5,6,7,8,9,10,11,12,13,14],[14])])
def jG.B3:List Nat := [0,1,0,7,0,16,0,64,240,511,0,1024,0,7168,16383,32767]
theorem jG.alJ:rX .any (opsOf Tryz.f187 3)=jG.T3:=by kernel_rfl
theorem jG.abL:jf jG.T3.2 jG.B3=true:=by kernel_rfl
theorem jG.calls (fM:Int)(fF:Int)(a1:Int)(r1:Int)(r2:Int)(w:World)(h:jG.f fM fF a1=some (r1,r2)) :
    Calls Tryz.prog 187 #[.agg #[.int .u64 fM,.int .u64 fF],.int .i64 a1] w fun e w'=>e=.returned (.agg #[.int .u64 r1,.int .u64 r2])∧Below w.heap.size w w':=by
 have JV:=Tryz.underlying211;have HB:=am (Below.refl w.heap.size w);have H:=am h;unfold jG.f at H;clear h;replace H:=yD H;rcases H with⟨pK,H⟩|⟨pK,H⟩
 ·generalize BX:(wrap64 (a1-64):Int)=ji4 at H
  have U4:(IntKind.i64.wrap (a1-64))=ji4:=(bW _).trans BX;replace H:=zit H;obtain⟨qN,xC,H⟩:=H;generalize uS:(shl .u64 fF (ji4):Int)=ji6 at H;have acO:(IntKind.u64.wrap (fF*2 ^ min (ji4).toNat 64))=ji6:=uS;have acP:(ji4)≤64→(IntKind.u64.wrap (fF*2 ^ (ji4).toNat))=ji6:=iY uS;obtain⟨rfl,rfl⟩:=zJ2 H
  go_enter Tryz.func187,Tryz.ntmps187
  go_wp2_with (first|((with_reducible refine aA (N:=2) rfl ?_);refine zx 2 211 #[.int .u64 fM,.int .u64 fF] ?_;intro acQ hg w7 hbox hb;have yc:=am (hbox);have ams:=zG hg HB;have amu:=zG hg HB;replace HB:=zBs HB hb;clear hb hbox hg)|((with_reducible refine aA (N:=4) rfl ?_);refine zx 4 211 #[.int .u64 0,.int .u64 0] ?_;intro acR hg w8 hbox hb;have Dy:=am (hbox);have amv:=zG hg HB;have amw:=zG hg HB;replace HB:=zBs HB hb;have zk:=zNl hg yc;have zn:=zNg hg yc;replace yc:=zKb yc hb;clear hb hbox hg;have ayu:=zk.out;have ayv:=zn.out;obtain⟨_,_,_,_⟩:=zf2 yc;obtain⟨_,_,_,_⟩:=zf2 Dy))
  refine bodyPost_ret (results_cell_row rfl _ _ acR 211 #[.int .u64 ji6,.int .u64 0] (0,0) _ rfl (zKp Dy) Tryz.underlying211 rfl (by kernel_rfl)) rfl ?_;exact⟨by first|exact z3|(simp only[← BX, ← uS];exact z3)|exact z2,zB HB⟩
 replace H:=zit H;obtain⟨pM,uQ,H⟩:=H;generalize qO:(shl .u64 fM a1:Int)=qI at H;have U5:(IntKind.u64.wrap (fM*2 ^ min a1.toNat 64))=qI:=qO;have aal:a1≤64→(IntKind.u64.wrap (fM*2 ^ a1.toNat))=qI:=iY qO;generalize U6:(wrap64 (64-a1):Int)=Kw at H;have agL:(IntKind.i64.wrap (64-a1))=Kw:=(bW _).trans U6;replace H:=zit H;obtain⟨xZ,LY,H⟩:=H;generalize JW:(shr .u64 fF (Kw):Int)=L6 at H;have aud:(fF / 2 ^ min (Kw).toNat 64)=L6:=JW;have aue:(Kw)≤64→(fF / 2 ^ (Kw).toNat)=L6:=kH JW;have wF:=eq_true (zD:0≤a1);generalize uT:(shl .u64 fF a1:Int)=Dz at H;have OH:(IntKind.u64.wrap (fF*2 ^ min a1.toNat 64))=Dz:=uT;have aam:a1≤64→(IntKind.u64.wrap (fF*2 ^ a1.toNat))=Dz:=iY uT;obtain⟨rfl,rfl⟩:=zJ2 H
 go_enter Tryz.func187,Tryz.ntmps187
 try go_wp2_with (first|((with_reducible refine aA (N:=2) rfl ?_);refine zx 2 211 #[.int .u64 fM,.int .u64 fF] ?_;intro acQ hg w19 hbox hb;have yc:=am (hbox);have ams:=zG hg HB;have amu:=zG hg HB;replace HB:=zBs HB hb;clear hb hbox hg)|((with_reducible refine aA (N:=4) rfl ?_);refine zx 4 211 #[.int .u64 0,.int .u64 0] ?_;intro acR hg w20 hbox hb;have Dy:=am (hbox);have amv:=zG hg HB;have amw:=zG hg HB;replace HB:=zBs HB hb;have zk:=zNl hg yc;have zn:=zNg hg yc;replace yc:=zKb yc hb;clear hb hbox hg))
 replace yc:=am (dY yc.out);replace Dy:=am (dY Dy.out);replace HB:=am (aW HB.out);refine mM (n:=16) (S:=fun w'=>w'.cell? ⟨acQ,0,none⟩=some (.int .u64 fM)∧w'.cell? ⟨acQ,1,none⟩=some (.int .u64 fF)) (ds := []) (Array.replicate 16 false) (by kernel_rfl) rfl rfl ⟨(ag yc.out 0).trans rfl,(ag yc.out 1).trans rfl⟩ (fun hHeld=>?_);refine gQ jG.alJ jG.abL (fun HT_ HW_=>?_);generalize w20.drew=w21 at yc Dy HB hHeld ⊢;refine zp HT_ 0 (some 13) ?_;refine zp HT_ 2 (some 15) ?_;refine zp HT_ 4 (some 17) ?_;refine zp HT_ 6 (some 19) ?_;refine zp HT_ 7 (some 20) ?_;refine zp HT_ 10 (some 23) ?_;refine zp HT_ 12 (some 25) ?_;refine zt HT_ HW_ 1 (some 14) hHeld ?_;refine zp HT_ 3 (some 16) ?_;refine zt HT_ HW_ 5 (some 18) hHeld ?_;refine zp HT_ 8 (some 21) ?_;refine zp HT_ 9 (some 22) ?_;refine zt HT_ HW_ 11 (some 24) hHeld ?_;refine zp HT_ 13 (some 26) ?_;refine zp HT_ 14 (some 27) ?_;refine zu HT_ 15 none (fun K hK=>?_);have ayw:=zl Dy 0;have amx:=ak Dy.out 0;have acS:=zk.out;have acT:=zn.out;have auf:=zl Dy 1;have agM:=ak Dy.out 1;have U7:=zk.out;have U8:=zn.out;refine xy (w1:=?_) (by rfl) rfl ?_ ?_;rotate_left
 ·go_simp
  rfl
 refine hK.out _ _ ⟨(zh hHeld),(zh hHeld)⟩ (fun hHeld=>?_);clear hK K;refine oG (iJ HT_.out (by kernel_rfl)) ?_
 try go_wp2
 refine bodyPost_ret (results_cell_row rfl _ _ acR 211 #[.int .u64 (Go.bits .or .u64 (qI) (L6)),.int .u64 Dz] (0,0) _ rfl (zKp Dy) Tryz.underlying211 rfl (by kernel_rfl)) rfl ?_;exact⟨by first|exact z3|(simp only[← qO, ← U6, ← JW, ← uT];exact z3)|exact z2,zB HB⟩
def pq.f (k:Nat)(fM:Int)(fF:Int):Option (Int × Int × Int):=if (fM == 0 && (fF == 0))=true then (some (fM,fF,0)) else ((oD.f k fM fF).bind fun amy=>((jG.f fM fF (wrap64 (128-amy))).bind fun agN=>(some (agN.1,agN.2,wrap64 (128-amy)))))
theorem pq.calls (k:Nat)(fM:Int)(fF:Int)(r1:Int)(r2:Int)(r3:Int)(w:World)(h:pq.f k fM fF=some (r1,r2,r3)) :
    Calls Tryz.prog 145 #[.agg #[.int .u64 fM,.int .u64 fF]] w fun e w'=>e=.returned (.tuple #[.agg #[.int .u64 r1,.int .u64 r2],.int .i64 r3])∧Below w.heap.size w w':=by
 have JV:=Tryz.underlying211;have HB:=am (Below.refl w.heap.size w);have H:=am h;unfold pq.f at H;clear h;replace H:=zs H;rcases H with⟨c2,H⟩|⟨c2,H⟩;have sQ:(fM == 0 && (fF == 0))=true:=c2
 (try (have JU:decide (fM=0 && (fF == 0))=true:=by simpa using c2))
 (try (have aug:(fM == 0 && (fF == 0))=true:=by simpa using c2))
 clear c2;obtain⟨rfl,rfl,rfl⟩:=zJ3 H;rotate_left
 have sQ:(fM == 0 && (fF == 0))=false:=by simpa using c2
 (try (have JU:decide (fM=0 && (fF == 0))=false:=by simpa using c2))
 (try (have aug:(fM == 0 && (fF == 0))=false:=by simpa using c2))
 (try (have aGD:¬ (fM=0 && (fF == 0)):=by simpa using c2))
 clear c2;replace H:=zo H;obtain⟨amy,A8,H⟩:=H;replace H:=zo H;obtain⟨⟨ayx,ayy⟩,A9,H⟩:=H
 try dsimp only at H
 obtain⟨rfl,rfl,rfl⟩:=zJ3 H;rotate_left
 all_goals (go_enter Tryz.func145,Tryz.ntmps145;go_wp2_with (first|((with_reducible refine aA (N:=1) rfl ?_);refine zx 1 211 #[.int .u64 fM,.int .u64 fF] ?_;intro ayz hg w10 hbox hb;have ES:=am (hbox);have ayA:=zG hg HB;have ayB:=zG hg HB;replace HB:=zBs HB hb;clear hb hbox hg)|((with_reducible refine aA (N:=2) rfl ?_);refine zx 2 211 #[.int .u64 0,.int .u64 0] ?_;intro agO hg w11 hbox hb;have JX:=am (hbox);have ayC:=zG hg HB;have ayD:=zG hg HB;replace HB:=zBs HB hb;have U9:=zNl hg ES;have Va:=zNg hg ES;replace ES:=zKb ES hb;clear hb hbox hg;have agP:=U9.out;have agQ:=Va.out;obtain⟨_,_,_,_⟩:=zf2 ES;obtain⟨_,_,_,_⟩:=zf2 JX)|((with_reducible refine af (f:=186) rfl ?_);refine zc (some 10) Tryz.func186 _ (oD.calls _ _ _ _ _ A8.out) ?_;rintro e w14 ⟨rfl,hb⟩;refine⟨_,rfl,?_⟩;replace ES:=zKb ES hb;replace JX:=zKb JX hb;replace HB:=zBs HB hb;clear hb;obtain⟨_,_,_,_⟩:=zf2 ES)|((with_reducible refine af (f:=187) rfl ?_);refine zc (some 14) Tryz.func187 _ (jG.calls _ _ _ _ _ _ A9.out) ?_;rintro e w16 ⟨rfl,hb⟩;refine⟨_,rfl,?_⟩;replace ES:=zKb ES hb;replace JX:=zKb JX hb;replace HB:=zBs HB hb;clear hb;obtain⟨_,_,_,_⟩:=zf2 JX)))
 ·refine bodyPost_ret (dh rfl _ _ agO 211 #[.int .u64 fM,.int .u64 fF] (0,0) _ rfl (zKp JX) Tryz.underlying211 rfl (by kernel_rfl)) rfl ?_
  exact⟨z2,zB HB⟩
 refine bodyPost_ret (dh rfl _ _ agO 211 #[.int .u64 ayx,.int .u64 ayy] (0,0) _ rfl (zKp JX) Tryz.underlying211 rfl (by kernel_rfl)) rfl ?_;exact⟨z2,zB HB⟩
def mg.f (a0:Int):Option (Int):=some (mx (-1099511627776) (mn a0 1099511627776))
theorem mg.calls (a0:Int)(r:Int)(w:World)(h:mg.f a0=some r) :
    Calls Tryz.prog 146 #[.int .i64 a0] w fun e w'=>e=.returned (.int .i64 r)∧Below w.heap.size w w':=by
 have HB:=am (Below.refl w.heap.size w);have H:=am h;unfold mg.f at H;clear h;generalize auh:(mn a0 1099511627776:Int)=ji2 at H;have ayE:(if 1099511627776<a0 then 1099511627776 else a0)=ji2:=auh;generalize Ew:(mx (-1099511627776) (ji2):Int)=ji3 at H;have ayF:(if (-1099511627776)<(ji2) then (ji2) else (-1099511627776))=ji3:=Ew;obtain rfl:=Option.some.inj H.out
 go_enter Tryz.func146,Tryz.ntmps146
 go_wp2
 go_ret
 exact⟨by first|exact z3|(simp only[← auh, ← Ew];exact z3)|exact z2,zB HB⟩
def dL.j0:Nat→Bool→Int→Int→Int→Bool→Bool→Option (Int × Bool × Int × Int × Int × Bool × Option Int)
  | 0,_,_,_,_,_,_=>none
  | k+1,x0,x1,x2,x3,x4,x19=>if x19=true then (some (0,false,0,0,0,false,some 1)) else ((pq.f k x1 x2).bind fun DC=>(if (DC.1 == 0 && (DC.2.1 == 0))=true then (some (0,false,0,0,0,false,none)) else ((mg.f (wrap64 ((wrap64 ((mx (-4398046511104) (mn x3 4398046511104))+127))-DC.2.2))).bind fun aeY=>(some (1,x0,aeY,DC.1,DC.2.1,x4,none)))))
def dL.f (k:Nat)(a0:Bool)(a1:Int)(a2:Int)(a3:Int)(a4:Bool):Option (Int × Bool × Int × Int × Int × Bool × Option Int):=if a4=true then (dL.j0 k a0 a1 a2 a3 a4 ((a1 / 9223372036854775808) == 0)) else (dL.j0 k a0 a1 a2 a3 a4 false)
def dL.T7:Bool × List (List Nat × List Nat):=(true,[([],[]),([],[]),([1],[1]),([],[]),([2,3],[2,3]),([4],[4]),([],[]),([6],[6]),([],[]),([8],[8]),([],[]),([0,5,7,9,10],[0,5,7,9,10]),([11,5,0,1,2,3,4,5,6,7,8,9,10,11],[11]),([12,0,1,2,3,4,5,6,7,8,9,10,11,12],[])])
def dL.B7:List Nat := [0,0,2,0,14,30,0,64,0,256,0,2047,4095,8191]
theorem dL.ayh:rX .any (opsOf Tryz.f93 7)=dL.T7:=by kernel_rfl
theorem dL.al4:jf dL.T7.2 dL.B7=true:=by kernel_rfl
theorem dL.calls (k:Nat)(a0:Bool)(a1:Int)(a2:Int)(a3:Int)(a4:Bool)(r1:Int)(r2:Bool)(r3:Int)(r4:Int)(r5:Int)(r6:Bool)(r7:Option Int)(w:World)(h:dL.f k a0 a1 a2 a3 a4=some (r1,r2,r3,r4,r5,r6,r7)) :
    Calls Tryz.prog 93 #[.bool a0,.int .u64 a1,.int .u64 a2,.int .i64 a3,.bool a4] w fun e w'=>e=.returned (.tuple #[.agg #[.int .i64 r1,.bool r2,.int .i64 r3,.int .u64 r4,.int .u64 r5,.bool r6],qL r7])∧Below w.heap.size w w':=by
 have Vb:=Tryz.underlying81;have JV:=Tryz.underlying211;have zq:=Tryz.underlying27;have hu64:=Tryz.underlying64;have HB:=am (Below.refl w.heap.size w);have H:=am h;unfold dL.f at H;clear h
 go_enter Tryz.func93,Tryz.ntmps93
 go_upto_region 1 with (first|((with_reducible refine aA (N:=10) rfl ?_);refine zx 10 81 #[.int .i64 0,.bool false,.int .i64 0,.int .u64 0,.int .u64 0,.bool false] ?_;intro YL hg w7 hbox hb;have lS:=am (hbox);have ayG:=zG hg HB;have ayH:=zG hg HB;replace HB:=zBs HB hb;clear hb hbox hg))
 (try simp only[Act.put,List.setIfInBounds_toArray,List.set_cons_zero,List.set_cons_succ])
 go_cut [19] (fun v19 wc => ∃ (kq:Nat) (YM:Bool),v19=.bool YM∧ae (dL.j0 kq a0 a1 a2 a3 a4 YM=some (r1,r2,r3,r4,r5,r6,r7))∧ae (kq≤k)∧ae (wc.heap[YL]? = some (.cells #[.int .i64 0,.bool false,.int .i64 0,.int .u64 0,.int .u64 0,.bool false] 81 (0,0)))∧ae (Below w.heap.size w wc))
 case first =>
  cases a4
  replace H:=zb0 H;rotate_left;replace H:=zb1 H;rotate_left
  all_goals (go_wp2)
  ·go_meet
   case rel=>exact⟨_,(false),z1,H,⟨z5⟩,⟨zK lS⟩,⟨zB HB⟩⟩
  go_meet
  case rel=>exact⟨_,(((a1 / 9223372036854775808) == 0)),z1,H,⟨z5⟩,⟨zK lS⟩,⟨zB HB⟩⟩
 case rest =>
  obtain⟨kq,YM,rfl,H,HJ5,lS,HB⟩:=hcut;obtain _|kj5:=kq
  ·exact zz H rfl
  simp only[dL.j0]at H
  cases YM
  replace H:=zb0 H;replace H:=zo H;obtain⟨⟨OI,OJ,aui⟩,A11,H⟩:=H
  try dsimp only at H
  replace H:=zs H;rcases H with⟨c12,H⟩|⟨c12,H⟩;have pM:(OI == 0 && (OJ == 0))=true:=c12
  (try (have uQ:decide (OI=0 && (OJ == 0))=true:=by simpa using c12))
  (try (have agR:(OI == 0 && (OJ == 0))=true:=by simpa using c12))
  clear c12;obtain⟨rfl,rfl,rfl,rfl,rfl,rfl,rfl⟩:=zJ7 H;rotate_left
  ·have pM:(OI == 0 && (OJ == 0))=false:=by simpa using c12
   (try (have uQ:decide (OI=0 && (OJ == 0))=false:=by simpa using c12))
   (try (have agR:(OI == 0 && (OJ == 0))=false:=by simpa using c12))
   (try (have ayI:¬ (OI=0 && (OJ == 0)):=by simpa using c12))
   clear c12;generalize uT:(mn a3 4398046511104:Int)=Dz at H
   (try rw[uT]at A11)
   have OH:(if 4398046511104<a3 then 4398046511104 else a3)=Dz:=uT;generalize tX:(mx (-4398046511104) (Dz):Int)=Gg at H
   (try rw[tX]at A11)
   have agS:(if (-4398046511104)<(Dz) then (Dz) else (-4398046511104))=Gg:=tX;replace H:=zo H;obtain⟨aeY,A20,H⟩:=H;obtain⟨rfl,rfl,rfl,rfl,rfl,rfl,rfl⟩:=zJ7 H
   try go_wp2_with (first|((with_reducible refine af (f:=145) rfl ?_);refine zc (some 26) Tryz.func145 _ (pq.calls _ _ _ _ _ _ _ A11.out) ?_;rintro e w21 ⟨rfl,hb⟩;refine⟨_,rfl,?_⟩;replace lS:=zKb lS hb;replace HB:=zBs HB hb;clear hb)|((with_reducible refine aA (N:=12) rfl ?_);refine zx 12 211 #[.int .u64 0,.int .u64 0] ?_;intro BC hg w22 hbox hb;have yf:=am (hbox);have amz:=zG hg HB;have amA:=zG hg HB;replace HB:=zBs HB hb;have pO:=zNl hg lS;have pR:=zNg hg lS;replace lS:=zKb lS hb;clear hb hbox hg;have ayJ:=pR.out;have ayK:=pO.out;obtain⟨_,_,_,_⟩:=zf2 yf))
   have n0_:ae (((w22.setCell ⟨BC,0,none⟩ (.int .u64 OI)).setCell ⟨BC,1,none⟩ (.int .u64 OJ)).heap[YL]? = some (.cells #[.int .i64 0,.bool false,.int .i64 0,.int .u64 0,.int .u64 0,.bool false] 81 (0,0))):=⟨zK lS⟩
   have n1_:ae (((w22.setCell ⟨BC,0,none⟩ (.int .u64 OI)).setCell ⟨BC,1,none⟩ (.int .u64 OJ)).heap[BC]? = some (.cells #[.int .u64 OI,.int .u64 OJ] 211 (0,0))):=⟨zKp yf⟩
   have n2_:ae (Below w.heap.size w ((w22.setCell ⟨BC,0,none⟩ (.int .u64 OI)).setCell ⟨BC,1,none⟩ (.int .u64 OJ))):=⟨zB HB⟩
   (try clear lS)
   (try clear yf)
   (try clear HB)
   generalize ((w22.setCell ⟨BC,0,none⟩ (.int .u64 OI)).setCell ⟨BC,1,none⟩ (.int .u64 OJ))=w25 at n0_ n1_ n2_ ⊢;have lS:=n0_;have yf:=n1_;have HB:=n2_;clear n0_ n1_ n2_;replace lS:=am (dY lS.out);replace yf:=am (dY yf.out);replace HB:=am (aW HB.out);refine mM (n:=14) (S:=fun w'=>w'.cell? ⟨BC,0,none⟩=some (.int .u64 OI)∧w'.cell? ⟨BC,1,none⟩=some (.int .u64 OJ)) (ds := []) (Array.replicate 14 false) (by kernel_rfl) rfl rfl ⟨(ag yf.out 0).trans rfl,(ag yf.out 1).trans rfl⟩ (fun hHeld=>?_);refine gQ dL.ayh dL.al4 (fun HT_ HW_=>?_);generalize w25.drew=w26 at lS yf HB hHeld ⊢;refine zp HT_ 0 (some 36) ?_;refine zp HT_ 1 (some 37) ?_;refine zp HT_ 2 (some 38) ?_;refine zp HT_ 3 (some 39) ?_;refine zp HT_ 4 (some 40) ?_;refine zp HT_ 6 (some 42) ?_;refine zp HT_ 8 (some 44) ?_;refine zp HT_ 10 (some 46) ?_;refine zt HT_ HW_ 7 (some 43) hHeld ?_;refine zt HT_ HW_ 9 (some 45) hHeld ?_;refine zu HT_ 5 (some 41) (fun K hK=>?_);refine oV Tryz.func146 (by kernel_rfl) rfl #[.int .i64 (wrap64 ((wrap64 ((Gg)+127))-aui))] (by rfl) rfl rfl (by (try simp only[List.map_toArray,List.map_cons,List.map_nil]);first|done|(simp only[tX];rfl)|rfl|(simp only[List.length_drop,List.length_take];rfl)) ?_
   with_reducible refine (mg.calls (wrap64 ((wrap64 ((Gg)+127))-aui)) aeY _ A20.out).mono ?_
   rintro e w27 ⟨rfl,hb⟩;refine⟨_,rfl,?_⟩;replace lS:=zKb lS hb;replace yf:=zKb yf hb;replace HB:=zBs HB hb
   (try clear hb)
   (try clear hb2)
   (try clear hk)
   (try clear hi)
   refine hK.out _ _ ⟨(ag yf.out 0).trans rfl,(ag yf.out 1).trans rfl⟩ (fun hHeld=>?_);clear hK K;refine mD (a':=?_) ?_ ?_;rotate_left
   ·show Act.put _ (some 41) _=_
    simp only[Act.put,List.setIfInBounds_toArray,List.set_cons_zero,List.set_cons_succ,bW,fV]
    rfl
   refine zp HT_ 11 (some 47) ?_;refine zu HT_ 12 none (fun K hK=>?_);have aGE:=zl lS 0;have ayL:=ak lS.out 0;have amB:=pR.out;have amC:=pO.out;have aGF:=zl lS 1;have ayM:=ak lS.out 1;have amD:=pR.out;have amE:=pO.out;have aGG:=zl lS 2;have ayN:=ak lS.out 2;have amF:=pR.out;have amG:=pO.out;have aGH:=zl lS 3;have ayO:=ak lS.out 3;have amH:=pR.out;have amI:=pO.out;have aGI:=zl lS 4;have ayP:=ak lS.out 4;have amJ:=pR.out;have amK:=pO.out;have aGJ:=zl lS 5;have ayQ:=ak lS.out 5;have amL:=pR.out;have amM:=pO.out;refine xy (w1:=?_) (by rfl) rfl ?_ ?_;rotate_left
   ·go_simp
    rfl
   refine hK.out _ _ ⟨(zh hHeld),(zh hHeld)⟩ (fun hHeld=>?_);clear hK K;refine zp HT_ 13 (some 11) ?_;refine oG (iJ HT_.out (by kernel_rfl)) ?_
   try go_wp2
   refine bodyPost_ret (dh rfl _ _ YL 81 #[.int .i64 1,.bool a0,.int .i64 aeY,.int .u64 OI,.int .u64 OJ,.bool a4] (0,0) _ rfl (zKp lS) Tryz.underlying81 rfl (by kernel_rfl)) rfl ?_;exact⟨by first|exact z3|(simp only[← uT, ← tX];exact z3)|exact z2,zB HB⟩
  replace H:=zb1 H;obtain⟨rfl,rfl,rfl,rfl,rfl,rfl,rfl⟩:=zJ7 H;obtain⟨_,_,_,_,_,_,_,_,_,_,_,_⟩:=zf6 lS;rotate_left
  all_goals (go_wp2_with (first|((with_reducible refine af (f:=145) rfl ?_);refine zc (some 26) Tryz.func145 _ (pq.calls _ _ _ _ _ _ _ A11.out) ?_;rintro e w13 ⟨rfl,hb⟩;refine⟨_,rfl,?_⟩;replace lS:=zKb lS hb;replace HB:=zBs HB hb;clear hb)|((with_reducible refine aA (N:=12) rfl ?_);refine zx 12 211 #[.int .u64 0,.int .u64 0] ?_;intro BC hg w14 hbox hb;have yf:=am (hbox);have amz:=zG hg HB;have amA:=zG hg HB;replace HB:=zBs HB hb;have pO:=zNl hg lS;have pR:=zNg hg lS;replace lS:=zKb lS hb;clear hb hbox hg;have agT:=pR.out;have agU:=pO.out;obtain⟨_,_,_,_⟩:=zf2 yf;obtain⟨_,_,_,_,_,_,_,_,_,_,_,_⟩:=zf6 lS)))
  all_goals
   refine bodyPost_ret (dh rfl _ _ YL 81 #[.int .i64 0,.bool false,.int .i64 0,.int .u64 0,.int .u64 0,.bool false] (0,0) _ rfl (zKp lS) Tryz.underlying81 rfl (by kernel_rfl)) rfl ?_;exact⟨z2,zB HB⟩
end Go.Proofs.Yy.PTx
end
