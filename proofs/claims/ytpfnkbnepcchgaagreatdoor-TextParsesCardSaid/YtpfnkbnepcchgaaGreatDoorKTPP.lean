/- Part 16. -/
import Derived.Test.YtpfnkbnepcchgaaGreatDoorKTPO
set_option linter.unusedSimpArgs false
set_option linter.unusedVariables false
section
set_option maxHeartbeats 8000000
set_option maxRecDepth 100000
namespace Go.Proofs.Yy.PTx
open Go.RowKit Go.Proofs.Yy.Z Go.Proofs.Yw.PrintWords Go.Proofs.Yw.PrintLast Go.Proofs.Yw.PrintMore
open Go.Proofs.Yy.M
attribute [local go_sem] dG dP kR kT kW kS
attribute [local go_sem] gI gG iP iR fF fG gW gV
def xW.f (k:Nat)(l0:List Int)(l1:List Int):Option (List Int × List Int × Option Int):=(bG.f k l0).bind fun Vs=>((bG.f k l1).bind fun MO=>(if (MO.length:Int)=0 then (none) else (if (MO.length:Int)=1 then (if 0<(MO.length:Int) then ((iY.f k Vs (rd MO 0)).bind fun ajK=>((uk.f k ajK.2).bind fun awR=>(some (ajK.1,awR,none)))) else (none)) else ((mW.f k Vs MO).bind fun awS=>(if awS<0 then (if ([]:List Int).length+Vs.length<17592186044416 then (some (([]:List Int),(([]:List Int)++Vs),none)) else (none)) else ((bz.f k Vs MO).bind fun ajL=>(some (ajL.1,ajL.2,none))))))))
theorem xW.calls (k:Nat)(P0_:Nat→Prop)(A0:Option Addr)(c0:Nat)(l0:List Int)(P1_:Nat→Prop)(A1:Option Addr)(c1:Nat)(l1:List Int)(r1:List Int)(r2:List Int)(r3:Option Int)(w:World)(hs0:Kd.V (Kd.int .u64) 25 w w.heap.size (fun k_=>P0_ k_) (.slice A0 l0.length c0) l0)(hs1:Kd.V (Kd.int .u64) 25 w w.heap.size (fun k_=>P1_ k_) (.slice A1 l1.length c1) l1)(h:xW.f k l0 l1=some (r1,r2,r3)) :
    Calls Tryz.prog 97 #[.slice A0 l0.length c0,.slice A1 l1.length c1] w fun e w' => ∃ v0_ v1_:Value,e=.returned (.tuple #[v0_,v1_,rF r3])∧Kd.V (Kd.int .u64) 25 w' w.heap.size (fun k_=>((P0_ k_∨P1_ k_)∨w.heap.size≤k_)) v0_ r1∧Kd.V (Kd.int .u64) 25 w' w.heap.size (fun k_=>((P0_ k_∨P1_ k_)∨w.heap.size≤k_)) v1_ r2∧Below w.heap.size w w':=by
 have yB:=Tryz.underlying27;have hu64:=Tryz.underlying64;have HO0:=am (show Kd.V (Kd.int .u64) 25 w w.heap.size (fun k_=>((P0_ k_∨P1_ k_)∨w.heap.size≤k_)) (.slice A0 l0.length c0) l0 from Kd.cO hs0 (fun k_ hk => .inl (.inl hk)));have HO1:=am (show Kd.V (Kd.int .u64) 25 w w.heap.size (fun k_=>((P0_ k_∨P1_ k_)∨w.heap.size≤k_)) (.slice A1 l1.length c1) l1 from Kd.cO hs1 (fun k_ hk => .inl (.inr hk)));have HB:=am (Below.refl w.heap.size w);have H:=am h;unfold xW.f at H;clear h;replace H:=zo H;obtain⟨Vs,A3,H⟩:=H;replace H:=zo H;obtain⟨MO,A4,H⟩:=H;replace H:=zjk H;obtain⟨qg,xy,c5,H⟩:=H;have awf:¬ (MO=[]):=fun h_=>c5 (by rw[h_];rfl);replace H:=zsk H;rcases H with⟨qm,zg,H⟩|⟨qm,zg,c6,H⟩;replace H:=zi H;obtain⟨c7,H⟩:=H;have wz:decide (0<(MO.length:Int))=true:=decide_eq_true c7;have Bi:decide (0<MO.length)=true:=decide_eq_true (by omega);clear c7;replace H:=zo H;obtain⟨⟨aI3,aI4⟩,A8,H⟩:=H
 try dsimp only at H
 replace H:=zo H;obtain⟨awR,A9,H⟩:=H;obtain⟨rfl,rfl,rfl⟩:=zJ3 H;rotate_left;replace H:=zo H;obtain⟨awS,A16,H⟩:=H;replace H:=zsd H;rcases H with⟨wE,H⟩|⟨wE,H⟩;replace H:=zil H;obtain⟨ad6,H⟩:=H;generalize ajM:(([]:List Int)++Vs:List Int)=aI5 at H;have aqO:=zY ajM;clear ajM;obtain⟨rfl,rfl,rfl⟩:=zJ3 H;rotate_left;replace H:=zo H;obtain⟨⟨aI6,aI7⟩,A25,H⟩:=H
 try dsimp only at H
 obtain⟨rfl,rfl,rfl⟩:=zJ3 H;rotate_left
 all_goals (go_enter Tryz.func97,Tryz.ntmps97;go_wp2_with (first|((with_reducible refine af (f:=103) rfl ?_);refine zc (some 12) Tryz.func103 #[.slice A0 l0.length c0] (bG.calls _ (fun k_=>((P0_ k_∨P1_ k_)∨w.heap.size≤k_)) _ _ _ _ _ HO0.out A3.out) ?_;rintro e w10 ⟨aI8,rfl,ho0,hb⟩;refine⟨_,rfl,?_⟩;replace HO0:=zVb HO0 hb;replace HO1:=zVb HO1 hb;have su:=am (Kd.dV (Kd.cO (ok':=fun k_=>((P0_ k_∨P1_ k_)∨w.heap.size≤k_)) ho0 (fun k_ hk_=>Or.elim hk_ (fun hs_=>hs_) (fun hn_=>(.inr (Nat.le_trans (zS HB) hn_))))) (zS HB));replace HB:=zBs HB hb;clear hb ho0)|((with_reducible refine af (f:=103) rfl ?_);refine zc (some 14) Tryz.func103 #[.slice A1 l1.length c1] (bG.calls _ (fun k_=>((P0_ k_∨P1_ k_)∨w.heap.size≤k_)) _ _ _ _ _ HO1.out A4.out) ?_;rintro e w11 ⟨aCn,rfl,ho0,hb⟩;refine⟨_,rfl,?_⟩;replace HO0:=zVb HO0 hb;replace HO1:=zVb HO1 hb;replace su:=zVb su hb;have vC:=am (Kd.dV (Kd.cO (ok':=fun k_=>((P0_ k_∨P1_ k_)∨w.heap.size≤k_)) ho0 (fun k_ hk_=>Or.elim hk_ (fun hs_=>hs_) (fun hn_=>(.inr (Nat.le_trans (zS HB) hn_))))) (zS HB));replace HB:=zBs HB hb;clear hb ho0;obtain⟨WJ,QH,WF⟩:=Kd.fJ vC.out;subst WF;have aqP:0≤(0:Int):=(by omega);have aqQ:0<(MO.length:Int):=zD;obtain⟨aCo,aCp,Vt⟩:=Kd.dQ (Kd.bf vC.out).2.2 0 aqP aqQ;cases aCp;have aCq:(0<MO.length)=True:=eq_true (by omega);(try rw[show ((0:Int)).toNat=0 from rfl]at Vt);(try rw[Addr.add_zero']at Vt);replace aqP:=eq_true aqP;replace aqQ:=eq_true aqQ;obtain⟨afs,ad7,aqR⟩:=Kd.fJ su.out;subst aqR)|((with_reducible refine af (f:=105) rfl ?_);refine zc (some 29) Tryz.func105 #[.slice afs Vs.length ad7,.int .u64 (rd MO 0)] (iY.calls _ _ _ _ _ _ _ _ (zC ((Kd.bf su.out).2.2)) ((Kd.bf su.out).2.1) A8.out) ?_;rintro e w14 ⟨aI9,rfl,ho0,hb⟩;refine⟨_,rfl,?_⟩;replace HO0:=zVb HO0 hb;replace HO1:=zVb HO1 hb;replace su:=zVb su hb;replace vC:=zVb vC hb;have ad8:=am (Kd.dV (Kd.cO (ok':=fun k_=>((P0_ k_∨P1_ k_)∨w.heap.size≤k_)) ho0 (fun k_ hk_=>(.inr (Nat.le_trans (zS HB) hk_)))) (zS HB));replace HB:=zBs HB hb;clear hb ho0)|((with_reducible refine af (f:=48) rfl ?_);refine zc (some 34) Tryz.func48 _ (uk.calls _ _ _ _ A9.out) ?_;rintro e w15 ⟨aJa,rfl,ho0,hb⟩;refine⟨_,rfl,?_⟩;replace HO0:=zVb HO0 hb;replace HO1:=zVb HO1 hb;replace su:=zVb su hb;replace vC:=zVb vC hb;replace ad8:=zVb ad8 hb;have aqS:=am (Kd.dV (Kd.cO (ok':=fun k_=>((P0_ k_∨P1_ k_)∨w.heap.size≤k_)) ho0 (fun k_ hk_=>(.inr (Nat.le_trans (zS HB) hk_)))) (zS HB));replace HB:=zBs HB hb;clear hb ho0)|((with_reducible refine af (f:=103) rfl ?_);refine zc (some 14) Tryz.func103 #[.slice A1 l1.length c1] (bG.calls _ (fun k_=>((P0_ k_∨P1_ k_)∨w.heap.size≤k_)) _ _ _ _ _ HO1.out A4.out) ?_;rintro e w20 ⟨aCn,rfl,ho0,hb⟩;refine⟨_,rfl,?_⟩;replace HO0:=zVb HO0 hb;replace HO1:=zVb HO1 hb;replace su:=zVb su hb;have vC:=am (Kd.dV (Kd.cO (ok':=fun k_=>((P0_ k_∨P1_ k_)∨w.heap.size≤k_)) ho0 (fun k_ hk_=>Or.elim hk_ (fun hs_=>hs_) (fun hn_=>(.inr (Nat.le_trans (zS HB) hn_))))) (zS HB));replace HB:=zBs HB hb;clear hb ho0;obtain⟨Cb,zJ,ajf⟩:=Kd.fJ vC.out;subst ajf;obtain⟨UZ,IR,YJ⟩:=Kd.fJ su.out;subst YJ)|((with_reducible refine af (f:=153) rfl ?_);refine zc (some 38) Tryz.func153 #[.slice UZ Vs.length IR,.slice Cb MO.length zJ] (mW.calls _ _ _ _ _ _ _ _ _ (zC ((Kd.bf su.out).2.2)) ((Kd.bf su.out).2.1) (zC ((Kd.bf vC.out).2.2)) ((Kd.bf vC.out).2.1) A16.out) ?_;rintro e w23 ⟨rfl,hb⟩;refine⟨_,rfl,?_⟩;replace HO0:=zVb HO0 hb;replace HO1:=zVb HO1 hb;replace su:=zVb su hb;replace vC:=zVb vC hb;replace HB:=zBs HB hb;clear hb)|((with_reducible refine eG (b := .append) (xs:=#[.const (.slice none 0 0),.tmp 40]) rfl ?_);at_builtin;refine Kd.ru (Kd.int .u64) (w0:=w) w.heap.size rfl (.const (.slice none 0 0)) (.tmp 40) 88 25 (.int .u64 0) 8 rfl Tryz.underlying88 info25 rfl (by decide) (by omega) (.slice none 0 0) ([]:List Int) Vs _ _ _ (fun k_=>(w.heap.size≤k_)) (fun _=>False) rfl rfl ?aO ?aR (fun _ _ h=>h) (fun _ h=>h.elim) ?aF ?aB ?aS ?aL ?_;(case aR=>repeat (first|exact (Kd.bf su.out).2.2|(with_reducible refine Kd.lm ?_ _)|(with_reducible refine Kd.lg ?_ _)|(with_reducible refine Kd.nZ ?_)));(case aB=>exact (zB HB));(case aF=>exact (fun k_ hk=>(Nat.le_trans (zS HB) hk)));(case aO=>exact ((Kd.GN _ _ _ _ (fun k_=>(w.heap.size≤k_)))));(case aS=>exact (zS HB));(case aL=>have:=ad6.out;omega);intro aJb w24 ho hb hg hat;rw[← aqO.out]at ho;replace HO0:=am (Kd.jr (Kd.oz (zV HO0)) hg hat);replace HO1:=am (Kd.jr (Kd.oz (zV HO1)) hg hat);replace su:=am (Kd.jr (Kd.oz (zV su)) hg hat);replace vC:=am (Kd.jr (Kd.oz (zV vC)) hg hat);replace HB:=am (hb);have aqT:=am (ho);clear ho hb hg hat)|((with_reducible refine af (f:=154) rfl ?_);refine zc (some 45) Tryz.func154 #[.slice UZ Vs.length IR,.slice Cb MO.length zJ] (bz.calls _ _ _ _ _ _ _ _ _ _ (zC ((Kd.bf su.out).2.2)) ((Kd.bf su.out).2.1) (zC ((Kd.bf vC.out).2.2)) ((Kd.bf vC.out).2.1) A25.out) ?_;rintro e w31 ⟨aJc,aJd,rfl,ho0,ho1,hb⟩;refine⟨_,rfl,?_⟩;replace HO0:=zVb HO0 hb;replace HO1:=zVb HO1 hb;replace su:=zVb su hb;replace vC:=zVb vC hb;have aqU:=am (Kd.dV (Kd.cO (ok':=fun k_=>((P0_ k_∨P1_ k_)∨w.heap.size≤k_)) ho0 (fun k_ hk_=>(.inr (Nat.le_trans (zS HB) hk_)))) (zS HB));have aqV:=am (Kd.dV (Kd.cO (ok':=fun k_=>((P0_ k_∨P1_ k_)∨w.heap.size≤k_)) ho1 (fun k_ hk_=>(.inr (Nat.le_trans (zS HB) hk_)))) (zS HB));replace HB:=zBs HB hb;clear hb ho0 ho1)))
 ·go_ret3
  exact⟨_,_,z2,zV ad8,zV aqS,zB HB⟩
 ·go_ret3
  exact⟨_,_,z2,Kd.JB _ _ _ _ _,Kd.cO (Kd.R_V (zR aqT)) (fun k_ hk=>by first|exact⟨(.inr (hk.1)),hk.2⟩|exact (.inr (hk))),zB HB⟩
 go_ret3
 exact⟨_,_,z2,zV aqU,zV aqV,zB HB⟩
def ik.f (k:Nat)(gy:Bool)(fU:Bool)(jC:ByteArray)(jB:Int):Option (Int × Bool × Int × Int × Int × Bool × Option Int):=if (wrap64 ((jC.size:Int)+jB)) > 100 then ((dM.f k fU 0 1 1000 false).bind fun MP=>(some (MP.1,MP.2.1,MP.2.2.1,MP.2.2.2.1,MP.2.2.2.2.1,MP.2.2.2.2.2.1,MP.2.2.2.2.2.2))) else (if (wrap64 ((jC.size:Int)+jB))<(-100) then ((dM.f k fU 0 1 (-1000) false).bind fun MQ=>(some (MQ.1,MQ.2.1,MQ.2.2.1,MQ.2.2.2.1,MQ.2.2.2.2.1,MQ.2.2.2.2.2.1,MQ.2.2.2.2.2.2))) else ((gq.f k jC).bind fun Y0=>(if Y0.2.isNone=true then ((iI.f k (mx jB (wrap64 (-jB)))).bind fun Y1=>(if Y1.2.isNone=true then (if jB≥0 then ((l7.f k (([Y0.1,Y1.1]:List (List Int)))).bind fun ajN=>((nK.f k fU ajN 0 false).bind fun MR=>(some (MR.1,MR.2.1,MR.2.2.1,MR.2.2.2.1,MR.2.2.2.2.1,MR.2.2.2.2.2.1,MR.2.2.2.2.2.2)))) else ((oZ.f k Y1.1).bind fun aft=>((oZ.f k Y0.1).bind fun afu=>((lY.f k Y0.1 (mx 0 (wrap64 ((wrap64 (aft-afu))+66)))).bind fun ajO=>(if ajO.2.isNone=true then ((xW.f k ajO.1 Y1.1).bind fun ad9=>(if ad9.2.2.isNone=true then ((nK.f k fU ad9.1 (wrap64 (-(mx 0 (wrap64 ((wrap64 (aft-afu))+66))))) (decide ((ad9.2.1.length:Int) > 0))).bind fun MS=>(some (MS.1,MS.2.1,MS.2.2.1,MS.2.2.2.1,MS.2.2.2.2.1,MS.2.2.2.2.2.1,MS.2.2.2.2.2.2))) else (none))) else (none)))))) else (none))) else (none))))
def ik.T13:Bool × List (List Nat × List Nat):=(true,[([],[]),([0],[0]),([],[]),([],[]),([2,3],[2,3]),([4],[4]),([1,5,5],[1,5]),([6],[6]),([6],[6]),([7,6,0,1,2,3,4,5,6,7,8],[7]),([8,9,0,1,2,3,4,5,6,7,8,9],[8])])
def ik.B13:List Nat := [0,1,0,0,12,28,63,127,127,511,1023]
theorem ik.amn:rG .any (opsOf Tryz.f43 13)=ik.T13:=by kernel_rfl
theorem ik.afS:jb ik.T13.2 ik.B13=true:=by kernel_rfl
theorem ik.calls (k:Nat)(gy:Bool)(fU:Bool)(jC:ByteArray)(jB:Int)(r1:Int)(r2:Bool)(r3:Int)(r4:Int)(r5:Int)(r6:Bool)(r7:Option Int)(w:World)(h:ik.f k gy fU jC jB=some (r1,r2,r3,r4,r5,r6,r7)) :
    Calls Tryz.prog 43 #[.agg #[.bool gy,.bool fU,.string jC,.int .i64 jB]] w fun e w'=>e=.returned (.tuple #[.agg #[.int .i64 r1,.bool r2,.int .i64 r3,.int .u64 r4,.int .u64 r5,.bool r6],rF r7])∧Below w.heap.size w w':=by
 have PS:=Tryz.underlying23;have Vb:=Tryz.underlying81;have yB:=Tryz.underlying27;have hu64:=Tryz.underlying64;have HB:=am (Below.refl w.heap.size w);have H:=am h;unfold ik.f at H;clear h;replace H:=AV H;rcases H with⟨ry,H⟩|⟨ry,H⟩;replace H:=zo H;obtain⟨⟨aCr,aCs,aCt,aCu,aCv,aCw,aJe⟩,A3,H⟩:=H
 try dsimp only at H
 obtain⟨rfl,rfl,rfl,rfl,rfl,rfl,rfl⟩:=zJ7 H;rotate_left;replace H:=zsd H;rcases H with⟨mr,H⟩|⟨mr,H⟩;replace H:=zo H;obtain⟨⟨aCx,aCy,aCz,aCA,aCB,aCC,aJf⟩,A11,H⟩:=H
 try dsimp only at H
 obtain⟨rfl,rfl,rfl,rfl,rfl,rfl,rfl⟩:=zJ7 H;rotate_left;replace H:=zo H;obtain⟨⟨aea,aJg⟩,A18,H⟩:=H
 try dsimp only at H
 replace H:=zIn H;obtain⟨rfl,H⟩:=H
 try simp only[au,ax]
 generalize zf:(mx jB (wrap64 (-jB)):Int)=Kv at H
 (try rw[zf]at A18)
 have awT:(if jB<(wrap64 (-jB)) then (wrap64 (-jB)) else jB)=Kv:=zf;replace H:=zo H;obtain⟨⟨aeb,aJh⟩,A20,H⟩:=H
 try dsimp only at H
 replace H:=zIn H;obtain⟨rfl,H⟩:=H
 try simp only[au,ax]
 replace H:=yH H;rcases H with⟨Am,H⟩|⟨Am,H⟩
 ·generalize ajP:(([aea,aeb]:List (List Int)):List (List Int))=awU at H
  have ajQ:=zY ajP;clear ajP;replace H:=zo H;obtain⟨ajN,A22,H⟩:=H;replace H:=zo H;obtain⟨⟨awV,awW,awX,awY,awZ,aw0,aCD⟩,A23,H⟩:=H
  try dsimp only at H
  obtain⟨rfl,rfl,rfl,rfl,rfl,rfl,rfl⟩:=zJ7 H
  go_enter Tryz.func43,Tryz.ntmps43
  try go_wp2_with (first|((with_reducible refine aI (N:=1) rfl ?_);refine zx 1 23 #[.bool gy,.bool fU,.string jC,.int .i64 jB] ?_;intro nX hg w24 hbox hb;have iq:=am (hbox);have aqW:=zG hg HB;have aqX:=zG hg HB;replace HB:=zBs HB hb;clear hb hbox hg)|((with_reducible refine aI (N:=2) rfl ?_);refine zx 2 81 #[.int .i64 0,.bool false,.int .i64 0,.int .u64 0,.int .u64 0,.bool false] ?_;intro nY hg w25 hbox hb;have iT:=am (hbox);have aqY:=zG hg HB;have aqZ:=zG hg HB;replace HB:=zBs HB hb;have pO:=zNl hg iq;have pR:=zNg hg iq;replace iq:=zKb iq hb;clear hb hbox hg;have aq0:=pO.out;have aq1:=pR.out;obtain⟨_,_,_,_,_,_,_,_⟩:=zf4 iq)|((with_reducible refine af (f:=94) rfl ?_);refine zc (some 36) Tryz.func94 _ (gq.calls _ _ _ _ _ A18.out) ?_;rintro e w28 ⟨aCE,rfl,ho0,hb⟩;refine⟨_,rfl,?_⟩;have oG:=am (Kd.dV (Kd.cO (ok':=fun k_=>k_≠nX∧k_≠nY) ho0 (fun k_ hk_=>⟨(Kd.kz (g:=nX) (o := .cells #[.bool gy,.bool fU,.string jC,.int .i64 jB] 23 (0,0)) (zK iq) k_ hk_),(Kd.kz (g:=nY) (o := .cells #[.int .i64 0,.bool false,.int .i64 0,.int .u64 0,.int .u64 0,.bool false] 81 (0,0)) (zK iT) k_ hk_)⟩)) (zS HB));replace iq:=zKb iq hb;replace iT:=zKb iT hb;replace HB:=zBs HB hb;clear hb ho0;(try simp only[au,ax]);obtain⟨_,_,_,_,_,_,_,_⟩:=zf4 iq)|((with_reducible refine af (f:=51) rfl ?_);refine jS (some 50) rfl rfl Tryz.func51 (by kernel_rfl) rfl #[.int .i64 Kv] rfl (by (try simp only[List.map_toArray,List.map_cons,List.map_nil]);first|done|(simp only[zf];rfl)|rfl|(simp only[List.length_drop,List.length_take];rfl)) ?_;(with_reducible refine (iI.calls _ _ _ _ _ A20.out).mono ?_);rintro e w30 ⟨aCF,rfl,ho0,hb⟩;refine⟨_,rfl,?_⟩;replace oG:=zVb oG hb;have qp:=am (Kd.dV (Kd.cO (ok':=fun k_=>k_≠nX∧k_≠nY) ho0 (fun k_ hk_=>⟨(Kd.kz (g:=nX) (o := .cells #[.bool gy,.bool fU,.string jC,.int .i64 jB] 23 (0,0)) (zK iq) k_ hk_),(Kd.kz (g:=nY) (o := .cells #[.int .i64 0,.bool false,.int .i64 0,.int .u64 0,.int .u64 0,.bool false] 81 (0,0)) (zK iT) k_ hk_)⟩)) (zS HB));replace iq:=zKb iq hb;replace iT:=zKb iT hb;replace HB:=zBs HB hb;clear hb ho0;(try simp only[au,ax]);obtain⟨_,_,_,_,_,_,_,_⟩:=zf4 iq))
  replace oG:=am (Kd.jq oG.out);replace qp:=am (Kd.jq qp.out);replace iq:=am (dX iq.out);replace iT:=am (dX iT.out);replace HB:=am (aX HB.out);obtain⟨aw1,aw2,aw3⟩:=Kd.fJ oG.out
  (first|subst aw3|(injection aw3 with f1_ f2_ f3_;have f4_:=f1_.symm;have f5_:=f3_.symm;clear f1_ f2_ f3_;subst f4_;subst f5_))
  obtain⟨WN,Qd,WL⟩:=Kd.fJ qp.out
  (first|subst WL|(injection WL with f1_ f2_ f3_;have f4_:=f1_.symm;have f5_:=f3_.symm;clear f1_ f2_ f3_;subst f4_;subst f5_))
  refine lQ (n:=11) (S:=fun w'=>w'.cell? ⟨nX,0,none⟩=some (.bool gy)∧w'.cell? ⟨nX,1,none⟩=some (.bool fU)∧w'.cell? ⟨nX,2,none⟩=some (.string jC)∧w'.cell? ⟨nX,3,none⟩=some (.int .i64 jB)) (ds := []) (Array.replicate 11 false) (by kernel_rfl) rfl rfl ⟨(ag iq.out 0).trans rfl,(ag iq.out 1).trans rfl,(ag iq.out 2).trans rfl,(ag iq.out 3).trans rfl⟩ (fun hHeld=>?_);refine gU ik.amn ik.afS (fun HT_ HW_=>?_);generalize w30.drew=w32 at oG qp iq iT HB hHeld ⊢;refine zp HT_ 0 (some 60) ?_;refine zp HT_ 2 (some 62) ?_;refine zp HT_ 3 (some 63) ?_;refine zt HT_ HW_ 1 (some 61) hHeld ?_;refine zu HT_ 4 (some 64) (fun K hK=>?_);refine Kd.O8 (Kd.slice 25 (Kd.int .u64)) _ 88 ?hg (N':=64) ?hd (xs:=([aea,aeb]:List (List Int))) (inner := [.slice aw1 aea.length aw2,.slice WN aeb.length Qd]) (ok:=(fun k_=>k_≠nX∧k_≠nY)) (okp:=(fun k_=>k_≠nX∧k_≠nY)) ?hr ?hp (fun _ hk=>hk) ((show ∀ k_,w32.heap.size≤k_→(fun k_=>k_≠nX∧k_≠nY) k_ from fun k_ hk=>⟨Kd.kz (g:=nX) (o := .cells #[.bool gy,.bool fU,.string jC,.int .i64 jB] 23 (0,0)) (zK iq) k_ hk,Kd.kz (g:=nY) (o := .cells #[.int .i64 0,.bool false,.int .i64 0,.int .u64 0,.int .u64 0,.bool false] 81 (0,0)) (zK iT) k_ hk⟩) _ (Nat.le_refl _)) (Below.refl _ _) (Nat.le_refl _) (by simp) ?_;(case hd=>rfl);(case hg=>rfl);(case hr=>first|(go_simp;done)|(go_simp;rfl));(case hp=>exact (jW.one (show Kd.FK (Kd.slice 25 (Kd.int .u64)) _ _ aea [.slice aw1 aea.length aw2] from (Kd.uC (Kd.bf (Kd.cO (ok':=(fun k_=>k_≠nX∧k_≠nY)) (oG.out) (fun k_ hk=>⟨hk.1,hk.2⟩))).2.1 (Kd.V_F (Kd.cO (ok':=(fun k_=>k_≠nX∧k_≠nY)) (oG.out) (fun k_ hk=>⟨hk.1,hk.2⟩))))) (jW.one (show Kd.FK (Kd.slice 25 (Kd.int .u64)) _ _ aeb [.slice WN aeb.length Qd] from (Kd.uC (Kd.bf (Kd.cO (ok':=(fun k_=>k_≠nX∧k_≠nY)) (qp.out) (fun k_ hk=>⟨hk.1,hk.2⟩))).2.1 (Kd.V_F (Kd.cO (ok':=(fun k_=>k_≠nX∧k_≠nY)) (qp.out) (fun k_ hk=>⟨hk.1,hk.2⟩))))) (jW.none _ _))));intro aJi w35 aec hb hg_ ku;clear hg_ ku
  (first|rw[← ajQ.out]at aec|(simp only[Int.reduceToNat]at aec;rw[← ajQ.out]at aec))
  replace oG:=am (Kd.jG (zV oG) (Kd.Oh aec) hb);replace qp:=am (Kd.jG (zV qp) (Kd.Oh aec) hb);have Qj:=am (Kd.Tq aec (zS HB));replace iq:=zKb iq hb;replace iT:=zKb iT hb;replace HB:=zBs HB hb;clear hb aec;obtain⟨aq2,aq3,alJ⟩:=Kd.Lu Qj.out
  (first|subst alJ|(injection alJ with f1_ f2_ f3_;have f4_:=f1_.symm;have f5_:=f3_.symm;clear f1_ f2_ f3_;subst f4_;subst f5_))
  refine hK.out _ _ ⟨(ag iq.out 0).trans rfl,(ag iq.out 1).trans rfl,(ag iq.out 2).trans rfl,(ag iq.out 3).trans rfl⟩ (fun hHeld=>?_);clear hK K;refine lI (a':=?_) ?_ ?_;rotate_left
  ·show Act.put _ (some 64) _=_
   simp only[Act.put,List.setIfInBounds_toArray,List.set_cons_zero,List.set_cons_succ,cu,fQ]
   rfl
  refine zu HT_ 5 (some 65) (fun K hK=>?_);refine o5 Tryz.func53 (by kernel_rfl) rfl #[.slice aq2 awU.length aq3] (by rfl) rfl rfl (by (try simp only[List.map_toArray,List.map_cons,List.map_nil]);first|done|rfl|(simp only[List.length_drop,List.length_take];rfl)) ?_
  with_reducible refine (l7.calls k (fun k_=>(k_≠nX∧k_≠nY)) _ _ awU ajN _ ?fE A22.out).mono ?_
  (case fE=>exact Kd.N_V (Qj.out))
  rintro e w38 ⟨aJj,rfl,ho0,hb⟩;refine⟨_,rfl,?_⟩;replace oG:=zVb oG hb;replace qp:=zVb qp hb;replace Qj:=am (Kd.uM (by (with_reducible repeat (first|apply Kd.Aj|apply Kd.Aa|apply Kd.CJ));exact Qj.out) hb);have Vu:=am (Kd.dV (Kd.cO (ok':=fun k_=>k_≠nX∧k_≠nY) ho0 (fun k_ hk_=>⟨Or.elim hk_ (fun hs_=>hs_.1) (fun hn_=>(Kd.kz (g:=nX) (o := .cells #[.bool gy,.bool fU,.string jC,.int .i64 jB] 23 (0,0)) (zK iq) k_ hn_)),Or.elim hk_ (fun hs_=>hs_.2) (fun hn_=>(Kd.kz (g:=nY) (o := .cells #[.int .i64 0,.bool false,.int .i64 0,.int .u64 0,.int .u64 0,.bool false] 81 (0,0)) (zK iT) k_ hn_))⟩)) (zS HB));replace iq:=zKb iq hb;replace iT:=zKb iT hb;replace HB:=zBs HB hb
  (try clear hb)
  (try clear hb2)
  (try clear hk)
  (try clear hi)
  (try clear ho0)
  obtain⟨aCG,aCH,aw4⟩:=Kd.fJ Vu.out
  (first|subst aw4|(injection aw4 with f1_ f2_ f3_;have f4_:=f1_.symm;have f5_:=f3_.symm;clear f1_ f2_ f3_;subst f4_;subst f5_))
  refine hK.out _ _ ⟨(ag iq.out 0).trans rfl,(ag iq.out 1).trans rfl,(ag iq.out 2).trans rfl,(ag iq.out 3).trans rfl⟩ (fun hHeld=>?_);clear hK K;refine lI (a':=?_) ?_ ?_;rotate_left
  ·show Act.put _ (some 65) _=_
   simp only[Act.put,List.setIfInBounds_toArray,List.set_cons_zero,List.set_cons_succ,cu,fQ]
   rfl
  refine zu HT_ 6 (some 66) (fun K hK=>?_);refine o5 Tryz.func95 (by kernel_rfl) rfl #[.bool fU,.slice aCG ajN.length aCH,.int .i64 0,.bool false] (by rfl) rfl rfl (by (try simp only[List.map_toArray,List.map_cons,List.map_nil]);first|done|rfl|(simp only[List.length_drop,List.length_take];rfl)) ?_
  with_reducible refine (nK.calls k fU _ _ ajN 0 false awV awW awX awY awZ aw0 aCD _ ?fE ?kN A23.out).mono ?_
  (case fE=>repeat (first|exact (Kd.bf Vu.out).2.2|(with_reducible refine Kd.lm ?_ _)|(with_reducible refine Kd.lg ?_ _)|(with_reducible refine Kd.nZ ?_)))
  (case kN=>exact (Kd.bf Vu.out).2.1)
  rintro e w40 ⟨rfl,hb⟩;refine⟨_,rfl,?_⟩;replace oG:=zVb oG hb;replace qp:=zVb qp hb;replace Qj:=am (Kd.uM (by (with_reducible repeat (first|apply Kd.Aj|apply Kd.Aa|apply Kd.CJ));exact Qj.out) hb);replace Vu:=zVb Vu hb;replace iq:=zKb iq hb;replace iT:=zKb iT hb;replace HB:=zBs HB hb
  (try clear hb)
  (try clear hb2)
  (try clear hk)
  (try clear hi)
  (try simp only[au,ax])
  refine hK.out _ _ ⟨(ag iq.out 0).trans rfl,(ag iq.out 1).trans rfl,(ag iq.out 2).trans rfl,(ag iq.out 3).trans rfl⟩ (fun hHeld=>?_);clear hK K;refine lI (a':=?_) ?_ ?_;rotate_left
  ·show Act.put _ (some 66) _=_
   simp only[Act.put,List.setIfInBounds_toArray,List.set_cons_zero,List.set_cons_succ,cu,fQ]
   rfl
  refine zp HT_ 7 (some 67) ?_;refine zp HT_ 8 (some 68) ?_;refine zu HT_ 9 none (fun K hK=>?_);have aJk:=zl iT 0;have aCI:=aj iT.out 0;have aq4:=pO.out;have aq5:=pR.out;have aJl:=zl iT 1;have aCJ:=aj iT.out 1;have aq6:=pO.out;have aq7:=pR.out;have aJm:=zl iT 2;have aCK:=aj iT.out 2;have aq8:=pO.out;have aq9:=pR.out;have aJn:=zl iT 3;have aCL:=aj iT.out 3;have ara:=pO.out;have arb:=pR.out;have aJo:=zl iT 4;have aCM:=aj iT.out 4;have arc:=pO.out;have ard:=pR.out;have aJp:=zl iT 5;have aCN:=aj iT.out 5;have arf:=pO.out;have arh:=pR.out;refine vW (w1:=?_) (by rfl) rfl ?_ ?_;rotate_left
  ·go_simp
   rfl
  refine hK.out _ _ ⟨(zh hHeld),(zh hHeld),(zh hHeld),(zh hHeld)⟩ (fun hHeld=>?_);clear hK K;refine zp HT_ 10 (some 3) ?_;refine oU (iZ HT_.out (by kernel_rfl)) ?_
  try go_wp2
  refine bodyPost_ret (dY rfl _ _ nY 81 #[.int .i64 awV,.bool awW,.int .i64 awX,.int .u64 awY,.int .u64 awZ,.bool aw0] (0,0) _ rfl (zKp iT) Tryz.underlying81 rfl (by kernel_rfl)) rfl ?_;exact⟨by first|exact z3|(simp only[← zf];exact z3)|exact z2,zB HB⟩
 replace H:=zo H;obtain⟨aft,A47,H⟩:=H;replace H:=zo H;obtain⟨afu,A48,H⟩:=H;generalize J9:(mx 0 (wrap64 ((wrap64 (aft-afu))+66)):Int)=ari at H
 (try rw[J9]at A18)
 (try rw[J9]at A20)
 (try rw[J9]at A47)
 (try rw[J9]at A48)
 have aw5:(if 0<(wrap64 ((wrap64 (aft-afu))+66)) then (wrap64 ((wrap64 (aft-afu))+66)) else 0)=ari:=J9;replace H:=zo H;obtain⟨⟨aCO,aJq⟩,A50,H⟩:=H
 try dsimp only at H
 replace H:=zIn H;obtain⟨rfl,H⟩:=H
 try simp only[au,ax]
 replace H:=zo H;obtain⟨⟨aCP,ajR,aJr⟩,A51,H⟩:=H
 (try rw[show decide ((ajR.length:Int) > 0)=decide (0<ajR.length) from decide_eq_decide.2 (by omega)]at A51)
 try dsimp only at H
 replace H:=zIn H;obtain⟨rfl,H⟩:=H
 try simp only[au,ax]
 replace H:=zo H;obtain⟨⟨aCQ,aCR,aCS,aCT,aCU,aCV,aJs⟩,A52,H⟩:=H
 (try rw[show decide ((ajR.length:Int) > 0)=decide (0<ajR.length) from decide_eq_decide.2 (by omega)]at A52)
 try dsimp only at H
 obtain⟨rfl,rfl,rfl,rfl,rfl,rfl,rfl⟩:=zJ7 H;rotate_left
 all_goals (go_enter Tryz.func43,Tryz.ntmps43;go_wp2_with (first|((with_reducible refine aI (N:=1) rfl ?_);refine zx 1 23 #[.bool gy,.bool fU,.string jC,.int .i64 jB] ?_;intro nX hg w53 hbox hb;have iq:=am (hbox);have aqW:=zG hg HB;have aqX:=zG hg HB;replace HB:=zBs HB hb;clear hb hbox hg)|((with_reducible refine aI (N:=2) rfl ?_);refine zx 2 81 #[.int .i64 0,.bool false,.int .i64 0,.int .u64 0,.int .u64 0,.bool false] ?_;intro nY hg w54 hbox hb;have iT:=am (hbox);have aqY:=zG hg HB;have aqZ:=zG hg HB;replace HB:=zBs HB hb;have pO:=zNl hg iq;have pR:=zNg hg iq;replace iq:=zKb iq hb;clear hb hbox hg;have aCW:=pO.out;have aCX:=pR.out;obtain⟨_,_,_,_,_,_,_,_⟩:=zf4 iq)|((with_reducible refine af (f:=94) rfl ?_);refine zc (some 36) Tryz.func94 _ (gq.calls _ _ _ _ _ A18.out) ?_;rintro e w57 ⟨aCE,rfl,ho0,hb⟩;refine⟨_,rfl,?_⟩;have oG:=am (Kd.dV (Kd.cO (ok':=fun k_=>k_≠nX∧k_≠nY) ho0 (fun k_ hk_=>⟨(Kd.kz (g:=nX) (o := .cells #[.bool gy,.bool fU,.string jC,.int .i64 jB] 23 (0,0)) (zK iq) k_ hk_),(Kd.kz (g:=nY) (o := .cells #[.int .i64 0,.bool false,.int .i64 0,.int .u64 0,.int .u64 0,.bool false] 81 (0,0)) (zK iT) k_ hk_)⟩)) (zS HB));replace iq:=zKb iq hb;replace iT:=zKb iT hb;replace HB:=zBs HB hb;clear hb ho0;(try simp only[au,ax]);obtain⟨_,_,_,_,_,_,_,_⟩:=zf4 iq)|((with_reducible refine af (f:=51) rfl ?_);refine jS (some 50) rfl rfl Tryz.func51 (by kernel_rfl) rfl #[.int .i64 Kv] rfl (by (try simp only[List.map_toArray,List.map_cons,List.map_nil]);first|done|(simp only[zf];rfl)|rfl|(simp only[List.length_drop,List.length_take];rfl)) ?_;(with_reducible refine (iI.calls _ _ _ _ _ A20.out).mono ?_);rintro e w59 ⟨aCF,rfl,ho0,hb⟩;refine⟨_,rfl,?_⟩;replace oG:=zVb oG hb;have qp:=am (Kd.dV (Kd.cO (ok':=fun k_=>k_≠nX∧k_≠nY) ho0 (fun k_ hk_=>⟨(Kd.kz (g:=nX) (o := .cells #[.bool gy,.bool fU,.string jC,.int .i64 jB] 23 (0,0)) (zK iq) k_ hk_),(Kd.kz (g:=nY) (o := .cells #[.int .i64 0,.bool false,.int .i64 0,.int .u64 0,.int .u64 0,.bool false] 81 (0,0)) (zK iT) k_ hk_)⟩)) (zS HB));replace iq:=zKb iq hb;replace iT:=zKb iT hb;replace HB:=zBs HB hb;clear hb ho0;(try simp only[au,ax]);obtain⟨_,_,_,_,_,_,_,_⟩:=zf4 iq;obtain⟨aw6,aw7,aCY⟩:=Kd.fJ qp.out;subst aCY)|((with_reducible refine af (f:=96) rfl ?_);refine zc (some 70) Tryz.func96 #[.slice aw6 aeb.length aw7] (oZ.calls _ _ _ _ _ _ (zC ((Kd.bf qp.out).2.2)) ((Kd.bf qp.out).2.1) A47.out) ?_;rintro e w62 ⟨rfl,hb⟩;refine⟨_,rfl,?_⟩;replace oG:=zVb oG hb;replace qp:=zVb qp hb;replace iq:=zKb iq hb;replace iT:=zKb iT hb;replace HB:=zBs HB hb;clear hb;obtain⟨aw8,ajB,WM⟩:=Kd.fJ oG.out;subst WM)|((with_reducible refine af (f:=96) rfl ?_);refine zc (some 72) Tryz.func96 #[.slice aw8 aea.length ajB] (oZ.calls _ _ _ _ _ _ (zC ((Kd.bf oG.out).2.2)) ((Kd.bf oG.out).2.1) A48.out) ?_;rintro e w64 ⟨rfl,hb⟩;refine⟨_,rfl,?_⟩;replace oG:=zVb oG hb;replace qp:=zVb qp hb;replace iq:=zKb iq hb;replace iT:=zKb iT hb;replace HB:=zBs HB hb;clear hb)|((with_reducible refine af (f:=49) rfl ?_);refine jS (some 79) rfl rfl Tryz.func49 (by kernel_rfl) rfl #[.slice aw8 aea.length ajB,.int .i64 ari] rfl (by (try simp only[List.map_toArray,List.map_cons,List.map_nil]);first|done|(simp only[J9];rfl)|rfl|(simp only[List.length_drop,List.length_take];rfl)) ?_;(with_reducible refine (lY.calls _ (fun k_=>(k_≠nX∧k_≠nY)) _ _ _ _ _ _ _ ?fE A50.out).mono ?_);(case fE=>exact oG.out);rintro e w65 ⟨aJt,rfl,ho0,hb⟩;refine⟨_,rfl,?_⟩;replace oG:=zVb oG hb;replace qp:=zVb qp hb;have Qk:=am (Kd.dV (Kd.cO (ok':=fun k_=>k_≠nX∧k_≠nY) ho0 (fun k_ hk_=>⟨Or.elim hk_ (fun hs_=>hs_.1) (fun hn_=>(Kd.kz (g:=nX) (o := .cells #[.bool gy,.bool fU,.string jC,.int .i64 jB] 23 (0,0)) (zK iq) k_ hn_)),Or.elim hk_ (fun hs_=>hs_.2) (fun hn_=>(Kd.kz (g:=nY) (o := .cells #[.int .i64 0,.bool false,.int .i64 0,.int .u64 0,.int .u64 0,.bool false] 81 (0,0)) (zK iT) k_ hn_))⟩)) (zS HB));replace iq:=zKb iq hb;replace iT:=zKb iT hb;replace HB:=zBs HB hb;clear hb ho0;(try simp only[au,ax]);obtain⟨aCZ,aC0,aC1⟩:=Kd.fJ Qk.out;subst aC1)|((with_reducible refine af (f:=97) rfl ?_);refine zc (some 89) Tryz.func97 #[.slice aCZ aCO.length aC0,.slice aw6 aeb.length aw7] (xW.calls _ (fun k_=>(k_≠nX∧k_≠nY)) _ _ _ (fun k_=>(k_≠nX∧k_≠nY)) _ _ _ _ _ _ _ Qk.out qp.out A51.out) ?_;rintro e w67 ⟨aJu,aJv,rfl,ho0,ho1,hb⟩;refine⟨_,rfl,?_⟩;replace oG:=zVb oG hb;replace qp:=zVb qp hb;replace Qk:=zVb Qk hb;have Vw:=am (Kd.dV (Kd.cO (ok':=fun k_=>k_≠nX∧k_≠nY) ho0 (fun k_ hk_=>⟨Or.elim hk_ (fun hs_=>Or.elim hs_ (fun hs_=>hs_.1) (fun hs_=>hs_.1)) (fun hn_=>(Kd.kz (g:=nX) (o := .cells #[.bool gy,.bool fU,.string jC,.int .i64 jB] 23 (0,0)) (zK iq) k_ hn_)),Or.elim hk_ (fun hs_=>Or.elim hs_ (fun hs_=>hs_.2) (fun hs_=>hs_.2)) (fun hn_=>(Kd.kz (g:=nY) (o := .cells #[.int .i64 0,.bool false,.int .i64 0,.int .u64 0,.int .u64 0,.bool false] 81 (0,0)) (zK iT) k_ hn_))⟩)) (zS HB));have aed:=am (Kd.dV (Kd.cO (ok':=fun k_=>k_≠nX∧k_≠nY) ho1 (fun k_ hk_=>⟨Or.elim hk_ (fun hs_=>Or.elim hs_ (fun hs_=>hs_.1) (fun hs_=>hs_.1)) (fun hn_=>(Kd.kz (g:=nX) (o := .cells #[.bool gy,.bool fU,.string jC,.int .i64 jB] 23 (0,0)) (zK iq) k_ hn_)),Or.elim hk_ (fun hs_=>Or.elim hs_ (fun hs_=>hs_.2) (fun hs_=>hs_.2)) (fun hn_=>(Kd.kz (g:=nY) (o := .cells #[.int .i64 0,.bool false,.int .i64 0,.int .u64 0,.int .u64 0,.bool false] 81 (0,0)) (zK iT) k_ hn_))⟩)) (zS HB));replace iq:=zKb iq hb;replace iT:=zKb iT hb;replace HB:=zBs HB hb;clear hb ho0 ho1;(try simp only[au,ax]);obtain⟨_,_,_,_,_,_,_,_⟩:=zf4 iq;obtain⟨aJw,aJx,aC2⟩:=Kd.fJ aed.out;subst aC2;obtain⟨Y2,Y3,arj⟩:=Kd.fJ Vw.out;subst arj)|((with_reducible refine af (f:=95) rfl ?_);refine jS (some 105) rfl rfl Tryz.func95 (by kernel_rfl) rfl #[.bool fU,.slice Y2 aCP.length Y3,.int .i64 (wrap64 (-(ari))),.bool (decide (0<ajR.length))] rfl (by (try simp only[List.map_toArray,List.map_cons,List.map_nil]);first|done|(simp only[J9];rfl)|rfl|(simp only[List.length_drop,List.length_take];rfl)) ?_;(with_reducible refine (nK.calls _ _ _ _ _ _ _ _ _ _ _ _ _ _ _ ?fE ?kN A52.out).mono ?_);(case fE=>repeat (first|exact (Kd.bf Vw.out).2.2|(with_reducible refine Kd.lm ?_ _)|(with_reducible refine Kd.lg ?_ _)|(with_reducible refine Kd.nZ ?_)));(case kN=>exact (Kd.bf Vw.out).2.1);rintro e w71 ⟨rfl,hb⟩;refine⟨_,rfl,?_⟩;replace oG:=zVb oG hb;replace qp:=zVb qp hb;replace Qk:=zVb Qk hb;replace Vw:=zVb Vw hb;replace aed:=zVb aed hb;replace iq:=zKb iq hb;replace iT:=zKb iT hb;replace HB:=zBs HB hb;clear hb;(try simp only[au,ax]);obtain⟨_,_,_,_,_,_,_,_,_,_,_,_⟩:=zf6 iT)|((with_reducible refine af (f:=93) rfl ?_);refine zc (some 22) Tryz.func93 _ (dM.calls _ _ _ _ _ _ _ _ _ _ _ _ _ _ A3.out) ?_;rintro e w8 ⟨rfl,hb⟩;refine⟨_,rfl,?_⟩;replace iq:=zKb iq hb;replace iT:=zKb iT hb;replace HB:=zBs HB hb;clear hb;(try simp only[au,ax]);obtain⟨_,_,_,_,_,_,_,_,_,_,_,_⟩:=zf6 iT)|((with_reducible refine af (f:=93) rfl ?_);refine zc (some 30) Tryz.func93 _ (dM.calls _ _ _ _ _ _ _ _ _ _ _ _ _ _ A11.out) ?_;rintro e w16 ⟨rfl,hb⟩;refine⟨_,rfl,?_⟩;replace iq:=zKb iq hb;replace iT:=zKb iT hb;replace HB:=zBs HB hb;clear hb;(try simp only[au,ax]);obtain⟨_,_,_,_,_,_,_,_,_,_,_,_⟩:=zf6 iT)))
 ·refine bodyPost_ret (dY rfl _ _ nY 81 #[.int .i64 aCr,.bool aCs,.int .i64 aCt,.int .u64 aCu,.int .u64 aCv,.bool aCw] (0,0) _ rfl (zKp iT) Tryz.underlying81 rfl (by kernel_rfl)) rfl ?_
  exact⟨z2,zB HB⟩
 ·refine bodyPost_ret (dY rfl _ _ nY 81 #[.int .i64 aCx,.bool aCy,.int .i64 aCz,.int .u64 aCA,.int .u64 aCB,.bool aCC] (0,0) _ rfl (zKp iT) Tryz.underlying81 rfl (by kernel_rfl)) rfl ?_
  exact⟨z2,zB HB⟩
 refine bodyPost_ret (dY rfl _ _ nY 81 #[.int .i64 aCQ,.bool aCR,.int .i64 aCS,.int .u64 aCT,.int .u64 aCU,.bool aCV] (0,0) _ rfl (zKp iT) Tryz.underlying81 rfl (by kernel_rfl)) rfl ?_;exact⟨by first|exact z3|(simp only[← zf, ← J9];exact z3)|exact z2,zB HB⟩
def xk.f (a0:Int):Option (Int × Int × Int × Int × Int × Option Int):=(oq.f a0).bind fun ark=>(if ark=true then (if 0≤(wrap64 (a0-1)) then (some (a0,IntKind.u64.wrap ((shl .u64 1 (wrap64 (a0-1)))-1),1,shl .u64 1 (wrap64 (a0-1)),wrap64 ((wrap64 (4*a0))-8),none)) else (none)) else (none))
theorem xk.calls (a0:Int)(r1:Int)(r2:Int)(r3:Int)(r4:Int)(r5:Int)(r6:Option Int)(w:World)(h:xk.f a0=some (r1,r2,r3,r4,r5,r6)) :
    Calls Tryz.prog 155 #[.int .i64 a0] w fun e w'=>e=.returned (.tuple #[.agg #[.int .i64 r1,.int .u64 r2,.int .u64 r3,.int .u64 r4,.int .i64 r5],rF r6])∧Below w.heap.size w w':=by
 have arl:=Tryz.underlying223;have yB:=Tryz.underlying27;have hu64:=Tryz.underlying64;have HB:=am (Below.refl w.heap.size w);have H:=am h;unfold xk.f at H;clear h;replace H:=zo H;obtain⟨ark,A2,H⟩:=H
 cases ark
 ·replace H:=zb0 H
  exact zn H
 replace H:=zb1 H;generalize xA:(wrap64 (a0-1):Int)=ji4 at H
 (try rw[xA]at A2)
 have UK:(IntKind.i64.wrap (a0-1))=ji4:=(cu _).trans xA;replace H:=zit H;obtain⟨qg,xy,H⟩:=H;generalize uQ:(shl .u64 1 (ji4):Int)=ji6 at H
 (try rw[uQ]at A2)
 have ady:(IntKind.u64.wrap (1*2 ^ min (ji4).toNat 64))=ji6:=uQ;have adz:(ji4)≤64→(IntKind.u64.wrap (1*2 ^ (ji4).toNat))=ji6:=iW uQ
 have aC3:(IntKind.u64.wrap (2 ^ min (ji4).toNat 64))=ji6:=by have h_:=ady;rw[Int.one_mul]at h_;exact h_
 have aC4:(ji4)≤64→(IntKind.u64.wrap (2 ^ (ji4).toNat))=ji6:=fun acK=>by have h_:=adz acK;rw[Int.one_mul]at h_;exact h_
 obtain⟨rfl,rfl,rfl,rfl,rfl,rfl⟩:=zJ6 H
 go_enter Tryz.func155,Tryz.ntmps155
 go_wp2_with (first|((with_reducible refine aI (N:=2) rfl ?_);refine zx 2 223 #[.int .i64 0,.int .u64 0,.int .u64 0,.int .u64 0,.int .i64 0] ?_;intro ajS hg w7 hbox hb;have Vx:=am (hbox);have aC5:=zG hg HB;have aC6:=zG hg HB;replace HB:=zBs HB hb;clear hb hbox hg)|((with_reducible refine af (f:=126) rfl ?_);refine zc (some 6) Tryz.func126 _ (oq.calls _ _ _ A2.out) ?_;rintro e w' ⟨rfl,⟨nd,rfl⟩⟩;refine⟨_,rfl,?_⟩;(try (rw[fZ w7];generalize hq_:World.drewN w7 _=w7;have n0_:ae (w7.heap[ajS]? = some (.cells #[.int .i64 0,.int .u64 0,.int .u64 0,.int .u64 0,.int .i64 0] 223 (0,0))):=⟨by rw[← hq_];exact (zK Vx)⟩;have n1_:ae (Below w.heap.size w w7):=⟨by rw[← hq_];exact (zB HB)⟩;clear Vx HB hq_;have Vx:=n0_;have HB:=n1_;clear n0_ n1_));obtain⟨_,_,_,_,_,_,_,_,_,_⟩:=zf5 Vx))
 refine bodyPost_ret (dY rfl _ _ ajS 223 #[.int .i64 a0,.int .u64 (IntKind.u64.wrap ((ji6)-1)),.int .u64 1,.int .u64 ji6,.int .i64 (wrap64 ((wrap64 (4*a0))-8))] (0,0) _ rfl (zKp Vx) Tryz.underlying223 rfl (by kernel_rfl)) rfl ?_;exact⟨by first|exact z3|(simp only[← xA, ← uQ];exact z3)|exact z2,zB HB⟩
end Go.Proofs.Yy.PTx
end
section
set_option maxHeartbeats 8000000
set_option maxRecDepth 100000
namespace Go.Proofs.Yy.PTx
open Go.RowKit Go.Proofs.Yy.Z Go.Proofs.Yw.PrintWords Go.Proofs.Yw.PrintLast Go.Proofs.Yw.PrintMore
open Go.Proofs.Yy.M
attribute [local go_sem] dG dP kR kT kW kS
attribute [local go_sem] gI gG iP iR fF fG gW gV
attribute [local go_sem high] agm
def fA.j0:Nat→Int→Bool→Int→Bool→Int→Int→Int→Bool→Option (Bool)
  | 0,_,_,_,_,_,_,_,_=>none
  | k+1,x4,x5,arn,aee,MV,Vy,aef,aeg=>if x5=true then (some (!aee && (MV == 0 && (Vy == 0 && (aef == 0 && (!aeg)))))) else (if x4=1 then (if (Vy / 9223372036854775808)=1 then ((lW.f MV).bind fun aro=>(some (MV == aro))) else (some false)) else (some false))
def fA.f (k:Nat)(gy:Int)(fU:Bool)(jC:Int)(jB:Int)(KA:Int)(KC:Bool):Option (Bool):=if gy=0 then (fA.j0 k gy (gy == 0) gy fU jC jB KA KC) else (fA.j0 k gy (gy == 2) gy fU jC jB KA KC)
def fA.T6:Bool × List (List Nat × List Nat):=(true,[([],[]),([0],[0]),([1],[1]),([2],[2]),([3],[3]),([4],[4]),([5,4],[4,5]),([4],[4]),([7,4],[4,7]),([8,4,4],[4,8]),([6,9,4],[4,6,9]),([4,10],[4,10]),([11,9,0,1,2,3,4,5,6,7,8,9,10,11],[11])])
def fA.B6:List Nat := [0,1,3,7,15,31,63,31,159,415,1023,2047,4095]
theorem fA.tab6:rG .any (opsOf Tryz.f156 6)=fA.T6:=by kernel_rfl
theorem fA.abd:jb fA.T6.2 fA.B6=true:=by kernel_rfl
theorem fA.calls (k:Nat)(gy:Int)(fU:Bool)(jC:Int)(jB:Int)(KA:Int)(KC:Bool)(r:Bool)(w:World)(h:fA.f k gy fU jC jB KA KC=some r) :
    Calls Tryz.prog 156 #[.agg #[.int .i64 gy,.bool fU,.int .i64 jC,.int .u64 jB,.int .u64 KA,.bool KC]] w fun e w'=>e=.returned (.bool r)∧Below w.heap.size w w':=by
 have Vb:=Tryz.underlying81;have HB:=am (Below.refl w.heap.size w);have H:=am h;unfold fA.f at H;clear h
 go_enter Tryz.func156,Tryz.ntmps156
 go_upto_if 5 with (first|((with_reducible refine aI (N:=1) rfl ?_);refine zx 1 81 #[.int .i64 gy,.bool fU,.int .i64 jC,.int .u64 jB,.int .u64 KA,.bool KC] ?_;intro MW hg w3 hbox hb;have n0_:=zBs HB hb;have n1_:=am (hbox);have n2_:=zG hg HB;have n3_:=zG hg HB;clear HB;have HB:=n0_;have sD:=n1_;have aC7:=n2_;have aC8:=n3_;clear n0_ n1_ n2_ n3_;clear hb hbox hg;obtain⟨_,_,_,_,_,_,_,_,_,_,_,_⟩:=zf6 sD))
 (try simp only[Act.put,List.setIfInBounds_toArray,List.set_cons_zero,List.set_cons_succ])
 go_cut [5] (fun v5 wc => ∃ (kq:Nat) (ig:Bool),v5=.bool ig∧ae (fA.j0 kq gy ig gy fU jC jB KA KC=some r)∧ae (kq≤k)∧ae (wc.heap[MW]? = some (.cells #[.int .i64 gy,.bool fU,.int .i64 jC,.int .u64 jB,.int .u64 KA,.bool KC] 81 (0,0)))∧ae (Below w.heap.size w wc))
 case first =>
  replace H:=zsk H;rcases H with⟨qg,xy,H⟩|⟨qg,xy,c5,H⟩
  (first|rw[qg]|(simp only[cu,fQ];rw[qg])|rw[xy]|skip)
  rotate_left
  (first|rw[qg]|(simp only[cu,fQ];rw[qg])|rw[xy]|skip)
  rotate_left
  all_goals (go_wp2)
  ·go_meet
   case rel=>exact⟨_,((gy == 0)),z1,H,⟨z5⟩,⟨zK sD⟩,⟨zB HB⟩⟩
  go_meet
  case rel=>exact⟨_,((gy == 2)),z1,H,⟨z5⟩,⟨zK sD⟩,⟨zB HB⟩⟩
 case rest =>
  obtain⟨kq,ig,rfl,H,HJ1,sD,HB⟩:=hcut;obtain _|kj1:=kq
  ·exact zz H rfl
  simp only[fA.j0]at H
  cases ig
  replace H:=zb0 H;replace H:=zsk H;rcases H with⟨sO,Ap,H⟩|⟨sO,Ap,c8,H⟩;replace H:=zsk H;rcases H with⟨wu,Ez,H⟩|⟨wu,Ez,c9,H⟩;replace H:=zo H;obtain⟨aro,A10,H⟩:=H;obtain rfl:=Option.some.inj H.out;rotate_left;obtain rfl:=Option.some.inj H.out;rotate_left
  ·obtain rfl:=Option.some.inj H.out
   go_wp2
   go_ret
   exact⟨z2,zB HB⟩
  ·replace H:=zb1 H
   obtain rfl:=Option.some.inj H.out;obtain⟨_,_,_,_,_,_,_,_,_,_,_,_⟩:=zf6 sD
   go_wp2
   go_ret
   exact⟨z2,zB HB⟩
  all_goals (try go_wp2)
  all_goals
   replace sD:=am (dX sD.out);replace HB:=am (aX HB.out);refine lQ (n:=13) (S:=fun w'=>w'.cell? ⟨MW,0,none⟩=some (.int .i64 gy)∧w'.cell? ⟨MW,1,none⟩=some (.bool fU)∧w'.cell? ⟨MW,2,none⟩=some (.int .i64 jC)∧w'.cell? ⟨MW,3,none⟩=some (.int .u64 jB)∧w'.cell? ⟨MW,4,none⟩=some (.int .u64 KA)∧w'.cell? ⟨MW,5,none⟩=some (.bool KC)) (ds := []) (Array.replicate 13 false) (by kernel_rfl) rfl rfl ⟨(ag sD.out 0).trans rfl,(ag sD.out 1).trans rfl,(ag sD.out 2).trans rfl,(ag sD.out 3).trans rfl,(ag sD.out 4).trans rfl,(ag sD.out 5).trans rfl⟩ (fun hHeld=>?_);refine gU fA.tab6 fA.abd (fun HT_ HW_=>?_)
  ·generalize wc.drew=w11 at sD HB hHeld ⊢
   refine zp HT_ 0 (some 15) ?_;refine zt HT_ HW_ 1 (some 16) hHeld ?_;refine zp HT_ 2 (some 17) ?_;refine zp HT_ 3 (some 18) ?_;refine zp HT_ 4 (some 19) ?_;refine zp HT_ 5 (some 20) ?_;refine zp HT_ 7 (some 22) ?_;refine zt HT_ HW_ 6 (some 21) hHeld ?_;refine zt HT_ HW_ 8 (some 23) hHeld ?_;refine zu HT_ 9 (some 24) (fun K hK=>?_);refine o5 Tryz.func146 (by kernel_rfl) rfl #[.int .i64 jC] (by rfl) rfl rfl (by (try simp only[List.map_toArray,List.map_cons,List.map_nil]);first|done|rfl|(simp only[List.length_drop,List.length_take];rfl)) ?_
   with_reducible refine (lW.calls jC aro _ A10.out).mono ?_
   rintro e w12 ⟨rfl,hb⟩;refine⟨_,rfl,?_⟩;replace sD:=zKb sD hb;replace HB:=zBs HB hb
   (try clear hb)
   (try clear hb2)
   (try clear hk)
   (try clear hi)
   refine hK.out _ _ ⟨(ag sD.out 0).trans rfl,(ag sD.out 1).trans rfl,(ag sD.out 2).trans rfl,(ag sD.out 3).trans rfl,(ag sD.out 4).trans rfl,(ag sD.out 5).trans rfl⟩ (fun hHeld=>?_);clear hK K;refine lI (a':=?_) ?_ ?_;rotate_left
   ·show Act.put _ (some 24) _=_
    simp only[Act.put,List.setIfInBounds_toArray,List.set_cons_zero,List.set_cons_succ,cu,fQ]
    rfl
   refine zp HT_ 10 (some 25) ?_;refine zp HT_ 11 (some 26) ?_;refine zp HT_ 12 (some 2) ?_;refine oU (iZ HT_.out (by kernel_rfl)) ?_
   try go_wp2
   go_ret
   exact⟨z2,zB HB⟩
  generalize wc.drew=w13 at sD HB hHeld ⊢;refine zp HT_ 0 (some 15) ?_;refine zt HT_ HW_ 1 (some 16) hHeld ?_;refine zp HT_ 2 (some 17) ?_;refine zp HT_ 3 (some 18) ?_;refine zp HT_ 4 (some 19) ?_;refine Lr (i:=5) (N:=some 20) (v:=undef) (a':=?_) #[true,true,true,true,true,true,false,false,false,false,false,false,false] rfl rfl (CU HT_.out (by kernel_rfl)) (fun _ _ _ h=>h) (Or.inr ⟨by rfl,rfl⟩) ?_ ?_;rotate_left
  ·simp only[Act.put,List.setIfInBounds_toArray,List.set_cons_zero,List.set_cons_succ,cu,fQ]
   rfl
  refine Lr (i:=6) (N:=some 21) (v:=undef) (a':=?_) #[true,true,true,true,true,true,true,false,false,false,false,false,false] rfl rfl (CU HT_.out (by kernel_rfl)) (fun _ _ _ h=>h) (Or.inr ⟨by rfl,rfl⟩) ?_ ?_;rotate_left
  ·simp only[Act.put,List.setIfInBounds_toArray,List.set_cons_zero,List.set_cons_succ,cu,fQ]
   rfl
  refine Lr (i:=7) (N:=some 22) (v:=undef) (a':=?_) #[true,true,true,true,true,true,true,true,false,false,false,false,false] rfl rfl (CU HT_.out (by kernel_rfl)) (fun _ _ _ h=>h) (Or.inr ⟨by rfl,rfl⟩) ?_ ?_;rotate_left
  ·simp only[Act.put,List.setIfInBounds_toArray,List.set_cons_zero,List.set_cons_succ,cu,fQ]
   rfl
  refine Lr (i:=8) (N:=some 23) (v:=undef) (a':=?_) #[true,true,true,true,true,true,true,true,true,false,false,false,false] rfl rfl (CU HT_.out (by kernel_rfl)) (fun _ _ _ h=>h) (Or.inr ⟨by rfl,rfl⟩) ?_ ?_;rotate_left
  ·simp only[Act.put,List.setIfInBounds_toArray,List.set_cons_zero,List.set_cons_succ,cu,fQ]
   rfl
  refine Lr (i:=9) (N:=some 24) (v:=undef) (a':=?_) #[true,true,true,true,true,true,true,true,true,true,false,false,false] rfl rfl (CU HT_.out (by kernel_rfl)) (fun _ _ _ h=>h) (Or.inr ⟨by rfl,rfl⟩) ?_ ?_;rotate_left
  ·simp only[Act.put,List.setIfInBounds_toArray,List.set_cons_zero,List.set_cons_succ,cu,fQ]
   rfl
  refine Lr (i:=10) (N:=some 25) (v:=undef) (a':=?_) #[true,true,true,true,true,true,true,true,true,true,true,false,false] rfl rfl (CU HT_.out (by kernel_rfl)) (fun _ _ _ h=>h) (Or.inr ⟨by rfl,rfl⟩) ?_ ?_;rotate_left
  ·simp only[Act.put,List.setIfInBounds_toArray,List.set_cons_zero,List.set_cons_succ,cu,fQ]
   rfl
  refine zp HT_ 11 (some 26) ?_;refine zp HT_ 12 (some 2) ?_;refine oU (iZ HT_.out (by kernel_rfl)) ?_
  try go_wp2
  go_ret
  exact⟨z2,zB HB⟩
def jv.f (k:Nat)(gy:Int)(fU:Int)(a1:Int):Option (Int × Int × Bool × Option Int):=if a1<0 then (none) else ((jD.f gy fU (mn a1 128)).bind fun ajT=>((oh.f k gy fU).bind fun arp=>(some (ajT.1,ajT.2,decide (arp > (wrap64 (128-(mn a1 128)))),none))))
def jv.T4:Bool × List (List Nat × List Nat):=(true,[([],[]),([],[]),([0,1],[0,1]),([],[]),([3,2],[3]),([],[]),([5],[5]),([4,6],[4,6]),([2,4,0,1,2],[2]),([7,8,0,1,2,3,4,5,6,7,8],[7]),([9,0,1,2,3,4,5,6,7,8,9],[])])
def jv.B4:List Nat := [0,0,3,0,15,0,32,127,31,511,1023]
theorem jv.ayF:rG .any (opsOf Tryz.f157 4)=jv.T4:=by kernel_rfl
theorem jv.amx:jb jv.T4.2 jv.B4=true:=by kernel_rfl
theorem jv.calls (k:Nat)(gy:Int)(fU:Int)(a1:Int)(r1:Int)(r2:Int)(r3:Bool)(r4:Option Int)(w:World)(h:jv.f k gy fU a1=some (r1,r2,r3,r4)) :
    Calls Tryz.prog 157 #[.agg #[.int .u64 gy,.int .u64 fU],.int .i64 a1] w fun e w'=>e=.returned (.tuple #[.agg #[.int .u64 r1,.int .u64 r2],.bool r3,rF r4])∧Below w.heap.size w w':=by
 have J4:=Tryz.underlying211;have yB:=Tryz.underlying27;have hu64:=Tryz.underlying64;have HB:=am (Below.refl w.heap.size w);have H:=am h;unfold jv.f at H;clear h;replace H:=zjd H;obtain⟨pI,H⟩:=H;generalize xA:(mn a1 128:Int)=ji4 at H;have acJ:(if 128<a1 then 128 else a1)=ji4:=xA;replace H:=zo H;obtain⟨⟨aw9,axa⟩,A5,H⟩:=H
 try dsimp only at H
 replace H:=zo H;obtain⟨arp,A6,H⟩:=H;obtain⟨rfl,rfl,rfl,rfl⟩:=zJ4 H
 go_enter Tryz.func157,Tryz.ntmps157
 try go_wp2_with (first|((with_reducible refine aI (N:=2) rfl ?_);refine zx 2 211 #[.int .u64 gy,.int .u64 fU] ?_;intro ajU hg w7 hbox hb;have wI:=am (hbox);have aC9:=zG hg HB;have aDa:=zG hg HB;replace HB:=zBs HB hb;clear hb hbox hg)|((with_reducible refine aI (N:=4) rfl ?_);refine zx 4 211 #[.int .u64 0,.int .u64 0] ?_;intro arq hg w8 hbox hb;have BF:=am (hbox);have aDb:=zG hg HB;have aDc:=zG hg HB;replace HB:=zBs HB hb;have Ko:=zNl hg wI;have Kq:=zNg hg wI;replace wI:=zKb wI hb;clear hb hbox hg))
 replace wI:=am (dX wI.out);replace BF:=am (dX BF.out);replace HB:=am (aX HB.out);refine lQ (n:=11) (S:=fun w'=>w'.cell? ⟨ajU,0,none⟩=some (.int .u64 gy)∧w'.cell? ⟨ajU,1,none⟩=some (.int .u64 fU)) (ds := []) (Array.replicate 11 false) (by kernel_rfl) rfl rfl ⟨(ag wI.out 0).trans rfl,(ag wI.out 1).trans rfl⟩ (fun hHeld=>?_);refine gU jv.ayF jv.amx (fun HT_ HW_=>?_);generalize w8.drew=w9 at wI BF HB hHeld ⊢;refine zp HT_ 1 (some 14) ?_;refine zp HT_ 5 (some 18) ?_;refine zp HT_ 6 (some 19) ?_;refine zt HT_ HW_ 0 (some 13) hHeld ?_;refine zt HT_ HW_ 3 (some 16) hHeld ?_;refine zu HT_ 2 (some 15) (fun K hK=>?_);refine o5 Tryz.func187 (by kernel_rfl) rfl #[.agg #[.int .u64 gy,.int .u64 fU],.int .i64 ji4] (by rfl) rfl rfl (by (try simp only[List.map_toArray,List.map_cons,List.map_nil]);first|done|(simp only[xA];rfl)|rfl|(simp only[List.length_drop,List.length_take];rfl)) ?_
 with_reducible refine (jD.calls gy fU ji4 aw9 axa _ A5.out).mono ?_
 rintro e w10 ⟨rfl,hb⟩;refine⟨_,rfl,?_⟩;replace wI:=zKb wI hb;replace BF:=zKb BF hb;replace HB:=zBs HB hb
 (try clear hb)
 (try clear hb2)
 (try clear hk)
 (try clear hi)
 refine hK.out _ _ ⟨(ag wI.out 0).trans rfl,(ag wI.out 1).trans rfl⟩ (fun hHeld=>?_);clear hK K;refine lI (a':=?_) ?_ ?_;rotate_left
 ·show Act.put _ (some 15) _=_
  simp only[Act.put,List.setIfInBounds_toArray,List.set_cons_zero,List.set_cons_succ,cu,fQ]
  rfl
 refine zu HT_ 4 (some 17) (fun K hK=>?_);refine o5 Tryz.func186 (by kernel_rfl) rfl #[.agg #[.int .u64 gy,.int .u64 fU]] (by rfl) rfl rfl (by (try simp only[List.map_toArray,List.map_cons,List.map_nil]);first|done|rfl|(simp only[List.length_drop,List.length_take];rfl)) ?_
 with_reducible refine (oh.calls k gy fU arp _ A6.out).mono ?_
 rintro e w11 ⟨rfl,hb⟩;refine⟨_,rfl,?_⟩;replace wI:=zKb wI hb;replace BF:=zKb BF hb;replace HB:=zBs HB hb
 (try clear hb)
 (try clear hb2)
 (try clear hk)
 (try clear hi)
 refine hK.out _ _ ⟨(ag wI.out 0).trans rfl,(ag wI.out 1).trans rfl⟩ (fun hHeld=>?_);clear hK K;refine lI (a':=?_) ?_ ?_;rotate_left
 ·show Act.put _ (some 17) _=_
  simp only[Act.put,List.setIfInBounds_toArray,List.set_cons_zero,List.set_cons_succ,cu,fQ]
  rfl
 refine zp HT_ 7 (some 20) ?_;refine zu HT_ 8 none (fun K hK=>?_);have aJy:=zl BF 0;have aDd:=aj BF.out 0;have ars:=Ko.out;have art:=Kq.out;have aJz:=zl BF 1;have aDe:=aj BF.out 1;have aru:=Ko.out;have arv:=Kq.out;refine vW (w1:=?_) (by rfl) rfl ?_ ?_;rotate_left
 ·go_simp
  rfl
 refine hK.out _ _ ⟨(zh hHeld),(zh hHeld)⟩ (fun hHeld=>?_);clear hK K;refine zp HT_ 9 (some 5) ?_;refine zp HT_ 10 (some 6) ?_;refine oU (iZ HT_.out (by kernel_rfl)) ?_
 try go_wp2
 refine bodyPost_ret (jL rfl _ _ arq 211 #[.int .u64 aw9,.int .u64 axa] (0,0) _ rfl (zKp BF) Tryz.underlying211 rfl (by kernel_rfl)) rfl ?_;exact⟨by first|exact z3|(simp only[← xA];exact z3)|exact z2,zB HB⟩
def lG.f (gy:Int)(fU:Int)(a1:Int):Option (Int × Int):=if a1≥64 then (if 0≤(wrap64 (a1-64)) then (some (0,shr .u64 gy (wrap64 (a1-64)))) else (none)) else (if 0≤a1 then (if 0≤(wrap64 (64-a1)) then (some (shr .u64 gy a1,Go.bits .or .u64 (shr .u64 fU a1) (shl .u64 gy (wrap64 (64-a1))))) else (none)) else (none))
def lG.T3:Bool × List (List Nat × List Nat):=(true,[([],[]),([0],[0]),([],[]),([1,2],[1,2]),([],[]),([4],[4]),([],[]),([5,6],[5,6]),([],[]),([8],[8]),([],[]),([10],[10]),([9,11],[9,11]),([7,12],[7,12]),([3,13],[3,13]),([14,0,1,2,3,4,5,6,7,8,9,10,11,12,13,14],[14])])
def lG.B3:List Nat := [0,1,0,7,0,16,0,112,0,256,0,1024,3840,8176,16383,32767]
theorem lG.amd:rG .any (opsOf Tryz.f216 3)=lG.T3:=by kernel_rfl
theorem lG.acB:jb lG.T3.2 lG.B3=true:=by kernel_rfl
theorem lG.calls (gy:Int)(fU:Int)(a1:Int)(r1:Int)(r2:Int)(w:World)(h:lG.f gy fU a1=some (r1,r2)) :
    Calls Tryz.prog 216 #[.agg #[.int .u64 gy,.int .u64 fU],.int .i64 a1] w fun e w'=>e=.returned (.agg #[.int .u64 r1,.int .u64 r2])∧Below w.heap.size w w':=by
 have J4:=Tryz.underlying211;have HB:=am (Below.refl w.heap.size w);have H:=am h;unfold lG.f at H;clear h;replace H:=yH H;rcases H with⟨pI,H⟩|⟨pI,H⟩
 ·generalize xA:(wrap64 (a1-64):Int)=ji4 at H
  have UK:(IntKind.i64.wrap (a1-64))=ji4:=(cu _).trans xA;replace H:=zit H;obtain⟨qg,xy,H⟩:=H;generalize uQ:(shr .u64 gy (ji4):Int)=ji6 at H;have ady:(gy / 2 ^ min (ji4).toNat 64)=ji6:=uQ;have adz:(ji4)≤64→(gy / 2 ^ (ji4).toNat)=ji6:=kE uQ;obtain⟨rfl,rfl⟩:=zJ2 H
  go_enter Tryz.func216,Tryz.ntmps216
  go_wp2_with (first|((with_reducible refine aI (N:=2) rfl ?_);refine zx 2 211 #[.int .u64 gy,.int .u64 fU] ?_;intro aeh hg w7 hbox hb;have yt:=am (hbox);have arw:=zG hg HB;have arx:=zG hg HB;replace HB:=zBs HB hb;clear hb hbox hg)|((with_reducible refine aI (N:=4) rfl ?_);refine zx 4 211 #[.int .u64 0,.int .u64 0] ?_;intro aei hg w8 hbox hb;have Ea:=am (hbox);have ary:=zG hg HB;have arz:=zG hg HB;replace HB:=zBs HB hb;have zM:=zNl hg yt;have zO:=zNg hg yt;replace yt:=zKb yt hb;clear hb hbox hg;have av5:=zM.out;have av6:=zO.out;obtain⟨_,_,_,_⟩:=zf2 yt;obtain⟨_,_,_,_⟩:=zf2 Ea))
  refine bodyPost_ret (results_cell_row rfl _ _ aei 211 #[.int .u64 0,.int .u64 ji6] (0,0) _ rfl (zKp Ea) Tryz.underlying211 rfl (by kernel_rfl)) rfl ?_;exact⟨by first|exact z3|(simp only[← xA, ← uQ];exact z3)|exact z2,zB HB⟩
 replace H:=zit H;obtain⟨qO,xY,H⟩:=H;generalize qN:(shr .u64 gy a1:Int)=qL at H;have Uz:(gy / 2 ^ min a1.toNat 64)=qL:=qN;have Z8:a1≤64→(gy / 2 ^ a1.toNat)=qL:=kE qN;have ww:=eq_true (zD:0≤a1);generalize uT:(shr .u64 fU a1:Int)=Ar at H;have aaf:(fU / 2 ^ min a1.toNat 64)=Ar:=uT;have aag:a1≤64→(fU / 2 ^ a1.toNat)=Ar:=kE uT;generalize JV:(wrap64 (64-a1):Int)=LJ at H;have ahd:(IntKind.i64.wrap (64-a1))=LJ:=(cu _).trans JV;replace H:=zit H;obtain⟨wE,LK,H⟩:=H;generalize uz:(shl .u64 gy (LJ):Int)=EC at H;have OB:(IntKind.u64.wrap (gy*2 ^ min (LJ).toNat 64))=EC:=uz;have Z9:(LJ)≤64→(IntKind.u64.wrap (gy*2 ^ (LJ).toNat))=EC:=iW uz;obtain⟨rfl,rfl⟩:=zJ2 H
 go_enter Tryz.func216,Tryz.ntmps216
 try go_wp2_with (first|((with_reducible refine aI (N:=2) rfl ?_);refine zx 2 211 #[.int .u64 gy,.int .u64 fU] ?_;intro aeh hg w19 hbox hb;have yt:=am (hbox);have arw:=zG hg HB;have arx:=zG hg HB;replace HB:=zBs HB hb;clear hb hbox hg)|((with_reducible refine aI (N:=4) rfl ?_);refine zx 4 211 #[.int .u64 0,.int .u64 0] ?_;intro aei hg w20 hbox hb;have Ea:=am (hbox);have ary:=zG hg HB;have arz:=zG hg HB;replace HB:=zBs HB hb;have zM:=zNl hg yt;have zO:=zNg hg yt;replace yt:=zKb yt hb;clear hb hbox hg))
 replace yt:=am (dX yt.out);replace Ea:=am (dX Ea.out);replace HB:=am (aX HB.out);refine lQ (n:=16) (S:=fun w'=>w'.cell? ⟨aeh,0,none⟩=some (.int .u64 gy)∧w'.cell? ⟨aeh,1,none⟩=some (.int .u64 fU)) (ds := []) (Array.replicate 16 false) (by kernel_rfl) rfl rfl ⟨(ag yt.out 0).trans rfl,(ag yt.out 1).trans rfl⟩ (fun hHeld=>?_);refine gU lG.amd lG.acB (fun HT_ HW_=>?_);generalize w20.drew=w21 at yt Ea HB hHeld ⊢;refine zp HT_ 0 (some 13) ?_;refine zp HT_ 2 (some 15) ?_;refine zp HT_ 4 (some 17) ?_;refine zp HT_ 6 (some 19) ?_;refine zp HT_ 8 (some 21) ?_;refine zp HT_ 10 (some 23) ?_;refine zp HT_ 11 (some 24) ?_;refine zt HT_ HW_ 1 (some 14) hHeld ?_;refine zp HT_ 3 (some 16) ?_;refine zt HT_ HW_ 5 (some 18) hHeld ?_;refine zp HT_ 7 (some 20) ?_;refine zt HT_ HW_ 9 (some 22) hHeld ?_;refine zp HT_ 12 (some 25) ?_;refine zp HT_ 13 (some 26) ?_;refine zp HT_ 14 (some 27) ?_;refine zu HT_ 15 none (fun K hK=>?_);have aA5:=zl Ea 0;have apO:=aj Ea.out 0;have adC:=zM.out;have adD:=zO.out;have aA6:=zl Ea 1;have apP:=aj Ea.out 1;have adE:=zM.out;have adF:=zO.out;refine vW (w1:=?_) (by rfl) rfl ?_ ?_;rotate_left
 ·go_simp
  rfl
 refine hK.out _ _ ⟨(zh hHeld),(zh hHeld)⟩ (fun hHeld=>?_);clear hK K;refine oU (iZ HT_.out (by kernel_rfl)) ?_
 try go_wp2
 refine bodyPost_ret (results_cell_row rfl _ _ aei 211 #[.int .u64 qL,.int .u64 (Go.bits .or .u64 (Ar) (EC))] (0,0) _ rfl (zKp Ea) Tryz.underlying211 rfl (by kernel_rfl)) rfl ?_;exact⟨by first|exact z3|(simp only[← qN, ← uT, ← JV, ← uz];exact z3)|exact z2,zB HB⟩
end Go.Proofs.Yy.PTx
end
section
set_option maxHeartbeats 8000000
set_option maxRecDepth 100000
namespace Go.Proofs.Yy.PTx
open Go.RowKit Go.Proofs.Yy.Z Go.Proofs.Yw.PrintWords Go.Proofs.Yw.PrintLast Go.Proofs.Yw.PrintMore
open Go.Proofs.Yy.M
attribute [local go_sem] dG dP kR kT kW kS
attribute [local go_sem] gI gG iP iR fF fG gW gV
attribute [local go_sem high] Zw
def lF.f (gy:Int)(fU:Int)(a1:Int):Option (Int × Int × Bool × Option Int):=if a1<0 then (none) else ((lG.f gy fU (mn a1 128)).bind fun Y4=>((jD.f Y4.1 Y4.2 (mn a1 128)).bind fun ajV=>(some (Y4.1,Y4.2,(!(ajV.1 == gy) || (!(ajV.2 == fU))),none))))
def lF.T5:Bool × List (List Nat × List Nat):=(true,[([],[]),([],[]),([],[]),([1,2],[1,2]),([],[]),([3,4],[3,4]),([0,3,0],[0]),([5,6,0,1,2,3,4,5,6],[5]),([7,0,1,2,3,4,5,6,7],[])])
def lF.B5:List Nat := [0,0,0,6,0,30,15,127,255]
theorem lF.agp:rG .any (opsOf Tryz.f195 5)=lF.T5:=by kernel_rfl
theorem lF.Rz:jb lF.T5.2 lF.B5=true:=by kernel_rfl
theorem lF.calls (gy:Int)(fU:Int)(a1:Int)(r1:Int)(r2:Int)(r3:Bool)(r4:Option Int)(w:World)(h:lF.f gy fU a1=some (r1,r2,r3,r4)) :
    Calls Tryz.prog 195 #[.agg #[.int .u64 gy,.int .u64 fU],.int .i64 a1] w fun e w'=>e=.returned (.tuple #[.agg #[.int .u64 r1,.int .u64 r2],.bool r3,rF r4])∧Below w.heap.size w w':=by
 have J4:=Tryz.underlying211;have yB:=Tryz.underlying27;have hu64:=Tryz.underlying64;have HB:=am (Below.refl w.heap.size w);have H:=am h;unfold lF.f at H;clear h;replace H:=zjd H;obtain⟨pI,H⟩:=H;generalize xA:(mn a1 128:Int)=ji4 at H;have acJ:(if 128<a1 then 128 else a1)=ji4:=xA;replace H:=zo H;obtain⟨⟨WO,WP⟩,A5,H⟩:=H
 try dsimp only at H
 replace H:=zo H;obtain⟨⟨aDf,aDg⟩,A6,H⟩:=H
 try dsimp only at H
 obtain⟨rfl,rfl,rfl,rfl⟩:=zJ4 H
 go_enter Tryz.func195,Tryz.ntmps195
 try go_wp2_with (first|((with_reducible refine aI (N:=2) rfl ?_);refine zx 2 211 #[.int .u64 gy,.int .u64 fU] ?_;intro aej hg w7 hbox hb;have sF:=am (hbox);have aDh:=zG hg HB;have aDi:=zG hg HB;replace HB:=zBs HB hb;clear hb hbox hg)|((with_reducible refine aI (N:=4) rfl ?_);refine zx 4 211 #[.int .u64 0,.int .u64 0] ?_;intro ajW hg w8 hbox hb;have uX:=am (hbox);have aDj:=zG hg HB;have aDk:=zG hg HB;replace HB:=zBs HB hb;have Eb:=zNl hg sF;have Ec:=zNg hg sF;replace sF:=zKb sF hb;clear hb hbox hg;have av5:=Eb.out;have av6:=Ec.out;obtain⟨_,_,_,_⟩:=zf2 sF)|((with_reducible refine af (f:=216) rfl ?_);refine jS (some 16) rfl rfl Tryz.func216 (by kernel_rfl) rfl #[.agg #[.int .u64 gy,.int .u64 fU],.int .i64 ji4] rfl (by (try simp only[List.map_toArray,List.map_cons,List.map_nil]);first|done|(simp only[xA];rfl)|rfl|(simp only[List.length_drop,List.length_take];rfl)) ?_;(with_reducible refine (lG.calls _ _ _ _ _ _ A5.out).mono ?_);rintro e w11 ⟨rfl,hb⟩;refine⟨_,rfl,?_⟩;replace sF:=zKb sF hb;replace uX:=zKb uX hb;replace HB:=zBs HB hb;clear hb)|((with_reducible refine aI (N:=7) rfl ?_);refine zx 7 211 #[.int .u64 0,.int .u64 0] ?_;intro Az hg w12 hbox hb;have AA:=am (hbox);have aDl:=zG hg HB;have aDm:=zG hg HB;replace HB:=zBs HB hb;have Vz:=zNl hg sF;have VA:=zNg hg sF;replace sF:=zKb sF hb;have Ed:=zNl hg uX;have Ee:=zNg hg uX;replace uX:=zKb uX hb;clear hb hbox hg;have arA:=VA.out;have arB:=Vz.out;have apT:=Ee.out;have apU:=Ed.out;obtain⟨_,_,_,_⟩:=zf2 AA))
 have n0_:ae (((w12.setCell ⟨Az,0,none⟩ (.int .u64 WO)).setCell ⟨Az,1,none⟩ (.int .u64 WP)).heap[aej]? = some (.cells #[.int .u64 gy,.int .u64 fU] 211 (0,0))):=⟨zK sF⟩
 have n1_:ae (((w12.setCell ⟨Az,0,none⟩ (.int .u64 WO)).setCell ⟨Az,1,none⟩ (.int .u64 WP)).heap[ajW]? = some (.cells #[.int .u64 0,.int .u64 0] 211 (0,0))):=⟨zK uX⟩
 have n2_:ae (((w12.setCell ⟨Az,0,none⟩ (.int .u64 WO)).setCell ⟨Az,1,none⟩ (.int .u64 WP)).heap[Az]? = some (.cells #[.int .u64 WO,.int .u64 WP] 211 (0,0))):=⟨zKp AA⟩
 have n3_:ae (Below w.heap.size w ((w12.setCell ⟨Az,0,none⟩ (.int .u64 WO)).setCell ⟨Az,1,none⟩ (.int .u64 WP))):=⟨zB HB⟩
 (try clear sF)
 (try clear uX)
 (try clear AA)
 (try clear HB)
 generalize ((w12.setCell ⟨Az,0,none⟩ (.int .u64 WO)).setCell ⟨Az,1,none⟩ (.int .u64 WP))=w16 at n0_ n1_ n2_ n3_ ⊢;have sF:=n0_;have uX:=n1_;have AA:=n2_;have HB:=n3_;clear n0_ n1_ n2_ n3_;replace sF:=am (dX sF.out);replace uX:=am (dX uX.out);replace AA:=am (dX AA.out);replace HB:=am (aX HB.out);refine lQ (n:=9) (S:=fun w'=>w'.cell? ⟨Az,0,none⟩=some (.int .u64 WO)∧w'.cell? ⟨Az,1,none⟩=some (.int .u64 WP)∧w'.cell? ⟨aej,0,none⟩=some (.int .u64 gy)∧w'.cell? ⟨aej,1,none⟩=some (.int .u64 fU)) (ds := []) (Array.replicate 9 false) (by kernel_rfl) rfl rfl ⟨(ag AA.out 0).trans rfl,(ag AA.out 1).trans rfl,(ag sF.out 0).trans rfl,(ag sF.out 1).trans rfl⟩ (fun hHeld=>?_);refine gU lF.agp lF.Rz (fun HT_ HW_=>?_);generalize w16.drew=w17 at sF uX AA HB hHeld ⊢;refine zp HT_ 2 (some 19) ?_;refine zt HT_ HW_ 0 (some 17) hHeld ?_;refine zt HT_ HW_ 1 (some 18) hHeld ?_;refine zt HT_ HW_ 4 (some 21) hHeld ?_;refine zu HT_ 3 (some 20) (fun K hK=>?_);refine o5 Tryz.func187 (by kernel_rfl) rfl #[.agg #[.int .u64 WO,.int .u64 WP],.int .i64 ji4] (by rfl) rfl rfl (by (try simp only[List.map_toArray,List.map_cons,List.map_nil]);first|done|(simp only[xA];rfl)|rfl|(simp only[List.length_drop,List.length_take];rfl)) ?_
 with_reducible refine (jD.calls WO WP ji4 aDf aDg _ A6.out).mono ?_
 rintro e w18 ⟨rfl,hb⟩;refine⟨_,rfl,?_⟩;replace sF:=zKb sF hb;replace uX:=zKb uX hb;replace AA:=zKb AA hb;replace HB:=zBs HB hb
 (try clear hb)
 (try clear hb2)
 (try clear hk)
 (try clear hi)
 refine hK.out _ _ ⟨(ag AA.out 0).trans rfl,(ag AA.out 1).trans rfl,(ag sF.out 0).trans rfl,(ag sF.out 1).trans rfl⟩ (fun hHeld=>?_);clear hK K;refine lI (a':=?_) ?_ ?_;rotate_left
 ·show Act.put _ (some 20) _=_
  simp only[Act.put,List.setIfInBounds_toArray,List.set_cons_zero,List.set_cons_succ,cu,fQ]
  rfl
 refine zp HT_ 5 (some 22) ?_;refine zu HT_ 6 none (fun K hK=>?_);have ay0:=zl uX 0;have amZ:=aj uX.out 0;have arC:=Eb.out;have arD:=Ee.out;have arE:=Ec.out;have arF:=Ed.out;have aJA:=zl uX 1;have aDn:=aj uX.out 1;have arG:=Eb.out;have arH:=Ee.out;have arI:=Ec.out;have arJ:=Ed.out;refine vW (w1:=?_) (by rfl) rfl ?_ ?_;rotate_left
 ·go_simp
  rfl
 refine hK.out _ _ ⟨(zh hHeld),(zh hHeld),(zh hHeld),(zh hHeld)⟩ (fun hHeld=>?_);clear hK K;refine zp HT_ 7 (some 5) ?_;refine zp HT_ 8 (some 6) ?_;refine oU (iZ HT_.out (by kernel_rfl)) ?_
 try go_wp2
 refine bodyPost_ret (jL rfl _ _ ajW 211 #[.int .u64 WO,.int .u64 WP] (0,0) _ rfl (zKp uX) Tryz.underlying211 rfl (by kernel_rfl)) rfl ?_;exact⟨by first|exact z3|(simp only[← xA];exact z3)|exact z2,zB HB⟩
def cZ.f (gy:Int)(fU:Int)(a1:Int)(a2:Int)(a3:Bool):Option (Int × Int × Bool):=(lF.f gy fU a2).bind fun VB=>(if 0≤(wrap64 (64-a2)) then (if a3=true then (some (Go.bits .or .u64 VB.1 (shl .u64 a1 (wrap64 (64-a2))),VB.2.1,true)) else (some (Go.bits .or .u64 VB.1 (shl .u64 a1 (wrap64 (64-a2))),VB.2.1,VB.2.2.1))) else (none))
def cZ.T2:Bool × List (List Nat × List Nat):=(true,[([],[]),([0],[0]),([],[]),([],[]),([3],[3]),([2,4],[2,4]),([1,5],[1,5]),([0,1,2,3,4,5,6],[]),([7,6,0,1,2,3,4,5,6],[6,7])])
def cZ.B2:List Nat := [0,1,0,0,8,28,63,127,255]
theorem cZ.auk:rG .any (opsOf Tryz.f158 2)=cZ.T2:=by kernel_rfl
theorem cZ.agC:jb cZ.T2.2 cZ.B2=true:=by kernel_rfl
theorem cZ.calls (gy:Int)(fU:Int)(a1:Int)(a2:Int)(a3:Bool)(r1:Int)(r2:Int)(r3:Bool)(w:World)(h:cZ.f gy fU a1 a2 a3=some (r1,r2,r3)) :
    Calls Tryz.prog 158 #[.agg #[.int .u64 gy,.int .u64 fU],.int .u64 a1,.int .i64 a2,.bool a3] w fun e w'=>e=.returned (.tuple #[.agg #[.int .u64 r1,.int .u64 r2],.bool r3])∧Below w.heap.size w w':=by
 have J4:=Tryz.underlying211;have HB:=am (Below.refl w.heap.size w);have H:=am h;unfold cZ.f at H;clear h;replace H:=zo H;obtain⟨⟨VC,VD,aJB,aJC⟩,A5,H⟩:=H
 try dsimp only at H
 generalize uQ:(wrap64 (64-a2):Int)=ji6 at H
 (try rw[uQ]at A5)
 have Uw:(IntKind.i64.wrap (64-a2))=ji6:=(cu _).trans uQ;replace H:=zit H;obtain⟨wz,Bi,H⟩:=H;generalize uh:(shl .u64 a1 (ji6):Int)=ji8 at H
 (try rw[uh]at A5)
 have Ux:(IntKind.u64.wrap (a1*2 ^ min (ji6).toNat 64))=ji8:=uh;have Uy:(ji6)≤64→(IntKind.u64.wrap (a1*2 ^ (ji6).toNat))=ji8:=iW uh
 cases a3
 replace H:=zb0 H;obtain⟨rfl,rfl,rfl⟩:=zJ3 H;rotate_left;replace H:=zb1 H;obtain⟨rfl,rfl,rfl⟩:=zJ3 H;rotate_left
 all_goals (go_enter Tryz.func158,Tryz.ntmps158;try go_wp2_with (first|((with_reducible refine aI (N:=4) rfl ?_);refine zx 4 211 #[.int .u64 gy,.int .u64 fU] ?_;intro arK hg w24 hbox hb;have tY:=am (hbox);have aDo:=zG hg HB;have aDp:=zG hg HB;replace HB:=zBs HB hb;clear hb hbox hg)|((with_reducible refine aI (N:=8) rfl ?_);refine zx 8 211 #[.int .u64 0,.int .u64 0] ?_;intro aek hg w25 hbox hb;have uB:=am (hbox);have aDq:=zG hg HB;have aDr:=zG hg HB;replace HB:=zBs HB hb;have VE:=zNl hg tY;have VF:=zNg hg tY;replace tY:=zKb tY hb;clear hb hbox hg;have aq0:=VE.out;have aq1:=VF.out;obtain⟨_,_,_,_⟩:=zf2 tY)|((with_reducible refine af (f:=195) rfl ?_);refine zc (some 16) Tryz.func195 _ (lF.calls _ _ _ _ _ _ _ _ A5.out) ?_;rintro e w28 ⟨rfl,hb⟩;refine⟨_,rfl,?_⟩;replace tY:=zKb tY hb;replace uB:=zKb uB hb;replace HB:=zBs HB hb;clear hb;(try simp only[au,ax]))|((with_reducible refine aI (N:=10) rfl ?_);refine zx 10 211 #[.int .u64 0,.int .u64 0] ?_;intro wJ hg w29 hbox hb;have tZ:=am (hbox);have aDs:=zG hg HB;have aDt:=zG hg HB;replace HB:=zBs HB hb;have Ef:=zNl hg tY;have Eg:=zNg hg tY;replace tY:=zKb tY hb;have Eh:=zNl hg uB;have Ei:=zNg hg uB;replace uB:=zKb uB hb;clear hb hbox hg;have arL:=Eg.out;have arM:=Ef.out;have arN:=Ei.out;have arO:=Eh.out;obtain⟨_,_,_,_⟩:=zf2 tZ)))
 all_goals
  have n0_:ae (((w29.setCell ⟨wJ,0,none⟩ (.int .u64 VC)).setCell ⟨wJ,1,none⟩ (.int .u64 VD)).heap[arK]? = some (.cells #[.int .u64 gy,.int .u64 fU] 211 (0,0))):=⟨zK tY⟩
  have n1_:ae (((w29.setCell ⟨wJ,0,none⟩ (.int .u64 VC)).setCell ⟨wJ,1,none⟩ (.int .u64 VD)).heap[aek]? = some (.cells #[.int .u64 0,.int .u64 0] 211 (0,0))):=⟨zK uB⟩
  have n2_:ae (((w29.setCell ⟨wJ,0,none⟩ (.int .u64 VC)).setCell ⟨wJ,1,none⟩ (.int .u64 VD)).heap[wJ]? = some (.cells #[.int .u64 VC,.int .u64 VD] 211 (0,0))):=⟨zKp tZ⟩
  have n3_:ae (Below w.heap.size w ((w29.setCell ⟨wJ,0,none⟩ (.int .u64 VC)).setCell ⟨wJ,1,none⟩ (.int .u64 VD))):=⟨zB HB⟩
  (try clear tY)
  (try clear uB)
  (try clear tZ)
  (try clear HB)
 ·generalize ((w29.setCell ⟨wJ,0,none⟩ (.int .u64 VC)).setCell ⟨wJ,1,none⟩ (.int .u64 VD))=w33 at n0_ n1_ n2_ n3_ ⊢
  have tY:=n0_;have uB:=n1_;have tZ:=n2_;have HB:=n3_;clear n0_ n1_ n2_ n3_;replace tY:=am (dX tY.out);replace uB:=am (dX uB.out);replace tZ:=am (dX tZ.out);replace HB:=am (aX HB.out);refine lQ (n:=9) (S:=fun w'=>w'.cell? ⟨wJ,0,none⟩=some (.int .u64 VC)∧w'.cell? ⟨wJ,1,none⟩=some (.int .u64 VD)) (ds := [8]) (Array.replicate 9 false) (by kernel_rfl) rfl rfl ⟨(ag tZ.out 0).trans rfl,(ag tZ.out 1).trans rfl⟩ (fun hHeld=>?_);refine gU cZ.auk cZ.agC (fun HT_ HW_=>?_);generalize w33.drew=w34 at tY uB tZ HB hHeld ⊢;refine zp HT_ 0 (some 20) ?_;refine zp HT_ 2 (some 22) ?_;refine zp HT_ 3 (some 23) ?_;refine zp HT_ 4 (some 24) ?_;refine zp HT_ 5 (some 25) ?_;refine zt HT_ HW_ 1 (some 21) hHeld ?_;refine zp HT_ 6 (some 26) ?_;refine zp HT_ 7 (some 27) ?_;refine LC (i:=8) (N:=none) #[true,true,true,true,true,true,true,true,true] rfl rfl (AP HT_.out (by kernel_rfl)) (by decide) (fun K hK=>?_);have aJD:=zl tZ 0;have aDu:=aj tZ.out 0;have arP:=Ef.out;have arQ:=Eh.out;have arR:=Eg.out;have arS:=Ei.out;refine vW (w1:=?_) (by rfl) rfl ?_ ?_;rotate_left
  ·go_simp
   rfl
  refine hK.out _ _ ?_;clear hK K;refine oU (iZ HT_.out (by kernel_rfl)) ?_;obtain⟨_,_,_,_⟩:=zf2 tZ;obtain⟨_,_,_,_⟩:=zf2 uB
  try go_wp2
  refine bodyPost_ret (dY rfl _ _ aek 211 #[.int .u64 (Go.bits .or .u64 VC (ji8)),.int .u64 VD] (0,0) _ rfl (zKp uB) Tryz.underlying211 rfl (by kernel_rfl)) rfl ?_;exact⟨by first|exact z3|(simp only[← uQ, ← uh];exact z3)|exact z2,zB HB⟩
 generalize ((w29.setCell ⟨wJ,0,none⟩ (.int .u64 VC)).setCell ⟨wJ,1,none⟩ (.int .u64 VD))=w19 at n0_ n1_ n2_ n3_ ⊢;have tY:=n0_;have uB:=n1_;have tZ:=n2_;have HB:=n3_;clear n0_ n1_ n2_ n3_;replace tY:=am (dX tY.out);replace uB:=am (dX uB.out);replace tZ:=am (dX tZ.out);replace HB:=am (aX HB.out);refine lQ (n:=9) (S:=fun w'=>w'.cell? ⟨wJ,0,none⟩=some (.int .u64 VC)∧w'.cell? ⟨wJ,1,none⟩=some (.int .u64 VD)) (ds := [8]) (Array.replicate 9 false) (by kernel_rfl) rfl rfl ⟨(ag tZ.out 0).trans rfl,(ag tZ.out 1).trans rfl⟩ (fun hHeld=>?_);refine gU cZ.auk cZ.agC (fun HT_ HW_=>?_);generalize w19.drew=w20 at tY uB tZ HB hHeld ⊢;refine zp HT_ 0 (some 20) ?_;refine zp HT_ 2 (some 22) ?_;refine zp HT_ 3 (some 23) ?_;refine zp HT_ 4 (some 24) ?_;refine zp HT_ 5 (some 25) ?_;refine zt HT_ HW_ 1 (some 21) hHeld ?_;refine zp HT_ 6 (some 26) ?_;refine zp HT_ 7 (some 27) ?_;refine LC (i:=8) (N:=none) #[true,true,true,true,true,true,true,true,true] rfl rfl (AP HT_.out (by kernel_rfl)) (by decide) (fun K hK=>?_);have aJE:=zl tZ 0;have aDv:=aj tZ.out 0;have arT:=Ef.out;have arU:=Eh.out;have arV:=Eg.out;have arW:=Ei.out;refine vW (w1:=?_) (by rfl) rfl ?_ ?_;rotate_left
 ·go_simp
  rfl
 refine hK.out _ _ ?_;clear hK K;refine oU (iZ HT_.out (by kernel_rfl)) ?_;obtain⟨_,_,_,_⟩:=zf2 tZ;obtain⟨_,_,_,_⟩:=zf2 uB
 try go_wp2
 refine bodyPost_ret (dY rfl _ _ aek 211 #[.int .u64 (Go.bits .or .u64 VC (ji8)),.int .u64 VD] (0,0) _ rfl (zKp uB) Tryz.underlying211 rfl (by kernel_rfl)) rfl ?_;exact⟨by first|exact z3|(simp only[← uQ, ← uh];exact z3)|exact z2,zB HB⟩
def gB.j0:Nat→Int→Bool→Int→Bool→Option (Int)
  | 0,_,_,_,_=>none
  | k+1,x0,x1,x5,x6=>if x6=true then (some 3) else (if x0=x5 then (some 2) else (if x0 > 0 then (some 1) else (if x1=true then (some 1) else (some 0))))
def gB.f (k:Nat)(a0:Int)(a1:Bool):Option (Int):=if a0 > 9223372036854775808 then (gB.j0 k a0 a1 9223372036854775808 (decide (a0 > 9223372036854775808))) else (if a0=9223372036854775808 then (gB.j0 k a0 a1 9223372036854775808 a1) else (gB.j0 k a0 a1 9223372036854775808 false))
theorem gB.calls (k:Nat)(a0:Int)(a1:Bool)(r:Int)(w:World)(h:gB.f k a0 a1=some r) :
    Calls Tryz.prog 159 #[.int .u64 a0,.bool a1] w fun e w'=>e=.returned (.int .i64 r)∧dR w w':=by
 have H:=am h;unfold gB.f at H;clear h
 go_enter Tryz.func159,Tryz.ntmps159
 go_upto_if 6 with (fail)
 go_cut [6] (fun v6 wc => ∃ (kq:Nat) (qW:Bool),v6=.bool qW∧ae (gB.j0 kq a0 a1 9223372036854775808 qW=some r)∧ae (kq≤k)∧dR w wc)
 case first =>
  replace H:=AV H;rcases H with⟨jP,H⟩|⟨jP,H⟩
  (first|rw[jP]|(simp only[cu,fQ];rw[jP])|rw[sQ]|skip)
  rotate_left
  (first|rw[jP]|(simp only[cu,fQ];rw[jP])|rw[sQ]|skip)
  replace H:=zsk H;rcases H with⟨qg,xy,H⟩|⟨qg,xy,c5,H⟩;rotate_left;rotate_left
  all_goals (go_wp2)
  ·go_meet
   case rel=>exact⟨_,(decide (a0 > 9223372036854775808)),z1,H,⟨z5⟩,z4⟩
  ·go_meet
   case rel=>exact⟨_,(a1),z1,H,⟨z5⟩,z4⟩
  go_meet
  case rel=>exact⟨_,(false),z1,H,⟨z5⟩,z4⟩
 case rest =>
  obtain⟨kq,qW,rfl,H,HJ2,⟨mc2,rfl⟩⟩:=hcut;obtain _|kj2:=kq
  ·exact zz H rfl
  simp only[gB.j0]at H
  cases qW
  replace H:=zb0 H;replace H:=zsk H;rcases H with⟨wz,Bi,H⟩|⟨wz,Bi,c7,H⟩;obtain rfl:=Option.some.inj H.out;rotate_left;replace H:=AV H;rcases H with⟨sO,H⟩|⟨sO,H⟩;obtain rfl:=Option.some.inj H.out;rotate_left
  cases a1
  replace H:=zb0 H;obtain rfl:=Option.some.inj H.out;rotate_left;replace H:=zb1 H;obtain rfl:=Option.some.inj H.out;rotate_left;replace H:=zb1 H;obtain rfl:=Option.some.inj H.out;rotate_left
  all_goals (go_wp2)
  ·go_ret
   exact⟨z1,z4⟩
  ·go_ret
   exact⟨z1,z4⟩
  ·go_ret
   exact⟨z1,z4⟩
  ·go_ret
   exact⟨z1,z4⟩
  go_ret
  exact⟨z1,z4⟩
end Go.Proofs.Yy.PTx
end
