/- Part 17. -/
import Derived.Test.YtpfnkbnepcchgaaGreatDoorKTOAN
import Derived.Test.YtpfnkbnepcchgaaGreatDoorKTOAP
set_option linter.unusedSimpArgs false
set_option linter.unusedVariables false
section
set_option maxHeartbeats 8000000
set_option maxRecDepth 100000
namespace Go.Proofs.Yy.PTx
open Go.RowKit Go.Proofs.Yy.Z Go.Proofs.Yw.PrintWords Go.Proofs.Yw.PrintLast Go.Proofs.Yw.PrintMore
open Go.Proofs.Yy.M
attribute [local go_sem] dP eU lV lX lW lU
attribute [local go_sem] iq ik jE jD gu gq iE iD
def xW.f (k:Nat)(l0:List Int)(l1:List Int):Option (List Int × List Int × Option Int):=(bH.f k l0).bind fun V7=>((bH.f k l1).bind fun Na=>(if (Na.length:Int)=0 then (some (([]:List Int),([]:List Int),some 4)) else (if (Na.length:Int)=1 then (if 0<(Na.length:Int) then ((iO.f k V7 (rd Na 0)).bind fun ajj=>((qU.f k ajj.2).bind fun awR=>(some (ajj.1,awR,none)))) else (none)) else ((nz.f k V7 Na).bind fun awS=>(if awS<0 then (if ([]:List Int).length+V7.length<17592186044416 then (some (([]:List Int),(([]:List Int)++V7),none)) else (none)) else ((bz.f k V7 Na).bind fun ajk=>(some (ajk.1,ajk.2,none))))))))
theorem xW.calls (k:Nat)(P0_:Nat→Prop)(A0:Option Addr)(c0:Nat)(l0:List Int)(P1_:Nat→Prop)(A1:Option Addr)(c1:Nat)(l1:List Int)(r1:List Int)(r2:List Int)(r3:Option Int)(w:World)(hs0:Kd.V (Kd.int .u64) 25 w w.heap.size (fun k_=>P0_ k_) (.slice A0 l0.length c0) l0)(hs1:Kd.V (Kd.int .u64) 25 w w.heap.size (fun k_=>P1_ k_) (.slice A1 l1.length c1) l1)(h:xW.f k l0 l1=some (r1,r2,r3)) :
    Calls Tryz.prog 97 #[.slice A0 l0.length c0,.slice A1 l1.length c1] w fun e w' => ∃ v0_ v1_:Value,e=.returned (.tuple #[v0_,v1_,qL r3])∧Kd.V (Kd.int .u64) 25 w' w.heap.size (fun k_=>((P0_ k_∨P1_ k_)∨w.heap.size≤k_)) v0_ r1∧Kd.V (Kd.int .u64) 25 w' w.heap.size (fun k_=>((P0_ k_∨P1_ k_)∨w.heap.size≤k_)) v1_ r2∧Below w.heap.size w w':=by
 have zq:=Tryz.underlying27;have hu64:=Tryz.underlying64;have HO0:=am (show Kd.V (Kd.int .u64) 25 w w.heap.size (fun k_=>((P0_ k_∨P1_ k_)∨w.heap.size≤k_)) (.slice A0 l0.length c0) l0 from Kd.bG hs0 (fun k_ hk => .inl (.inl hk)));have HO1:=am (show Kd.V (Kd.int .u64) 25 w w.heap.size (fun k_=>((P0_ k_∨P1_ k_)∨w.heap.size≤k_)) (.slice A1 l1.length c1) l1 from Kd.bG hs1 (fun k_ hk => .inl (.inr hk)));have HB:=am (Below.refl w.heap.size w);have H:=am h;unfold xW.f at H;clear h;replace H:=zo H;obtain⟨V7,A3,H⟩:=H;replace H:=zo H;obtain⟨Na,A4,H⟩:=H;replace H:=zsk H;rcases H with⟨qN,xC,H⟩|⟨qN,xC,c5,H⟩;obtain⟨rfl,rfl,rfl⟩:=zJ3 H;rotate_left;have avX:¬ (Na=[]):=fun h_=>c5 (by rw[h_];rfl);replace H:=zsk H;rcases H with⟨vF,BD,H⟩|⟨vF,BD,c9,H⟩;replace H:=zi H;obtain⟨c10,H⟩:=H;have oL:decide (0<(Na.length:Int))=true:=decide_eq_true c10;have uX:decide (0<Na.length)=true:=decide_eq_true (by omega);clear c10;replace H:=zo H;obtain⟨⟨aIN,aIO⟩,A11,H⟩:=H
 try dsimp only at H
 replace H:=zo H;obtain⟨awR,A12,H⟩:=H;obtain⟨rfl,rfl,rfl⟩:=zJ3 H;rotate_left;replace H:=zo H;obtain⟨awS,A19,H⟩:=H;replace H:=zsd H;rcases H with⟨Qw,H⟩|⟨Qw,H⟩;replace H:=zil H;obtain⟨aq8,H⟩:=H;generalize ajl:(([]:List Int)++V7:List Int)=aIP at H;have aq9:=zY ajl;clear ajl;obtain⟨rfl,rfl,rfl⟩:=zJ3 H;rotate_left;replace H:=zo H;obtain⟨⟨aIQ,aIR⟩,A28,H⟩:=H
 try dsimp only at H
 obtain⟨rfl,rfl,rfl⟩:=zJ3 H;rotate_left
 all_goals (go_enter Tryz.func97,Tryz.ntmps97;go_wp2_with (first|((with_reducible refine af (f:=103) rfl ?_);refine zc (some 12) Tryz.func103 #[.slice A0 l0.length c0] (bH.calls _ (fun k_=>((P0_ k_∨P1_ k_)∨w.heap.size≤k_)) _ _ _ _ _ HO0.out A3.out) ?_;rintro e w13 ⟨aIS,rfl,ho0,hb⟩;refine⟨_,rfl,?_⟩;replace HO0:=zVb HO0 hb;replace HO1:=zVb HO1 hb;have sG:=am (Kd.dG (Kd.bG (ok':=fun k_=>((P0_ k_∨P1_ k_)∨w.heap.size≤k_)) ho0 (fun k_ hk_=>Or.elim hk_ (fun hs_=>hs_) (fun hn_=>(.inr (Nat.le_trans (zS HB) hn_))))) (zS HB));replace HB:=zBs HB hb;clear hb ho0)|((with_reducible refine af (f:=103) rfl ?_);refine zc (some 14) Tryz.func103 #[.slice A1 l1.length c1] (bH.calls _ (fun k_=>((P0_ k_∨P1_ k_)∨w.heap.size≤k_)) _ _ _ _ _ HO1.out A4.out) ?_;rintro e w14 ⟨aCs,rfl,ho0,hb⟩;refine⟨_,rfl,?_⟩;replace HO0:=zVb HO0 hb;replace HO1:=zVb HO1 hb;replace sG:=zVb sG hb;have vG:=am (Kd.dG (Kd.bG (ok':=fun k_=>((P0_ k_∨P1_ k_)∨w.heap.size≤k_)) ho0 (fun k_ hk_=>Or.elim hk_ (fun hs_=>hs_) (fun hn_=>(.inr (Nat.le_trans (zS HB) hn_))))) (zS HB));replace HB:=zBs HB hb;clear hb ho0;obtain⟨ajm,afk,afl⟩:=Kd.dS vG.out;subst afl;have ara:0≤(0:Int):=(by omega);have arb:0<(Na.length:Int):=zD;obtain⟨aCt,aCu,V8⟩:=Kd.dQ (Kd.aX vG.out).2.2 0 ara arb;cases aCu;have aCv:(0<Na.length)=True:=eq_true (by omega);(try rw[show ((0:Int)).toNat=0 from rfl]at V8);(try rw[Addr.add_zero']at V8);replace ara:=eq_true ara;replace arb:=eq_true arb;obtain⟨Gi,Bj,QF⟩:=Kd.dS sG.out;subst QF)|((with_reducible refine af (f:=105) rfl ?_);refine zc (some 29) Tryz.func105 #[.slice Gi V7.length Bj,.int .u64 (rd Na 0)] (iO.calls _ _ _ _ _ _ _ _ (zC ((Kd.aX sG.out).2.2)) ((Kd.aX sG.out).2.1) A11.out) ?_;rintro e w17 ⟨aIT,rfl,ho0,hb⟩;refine⟨_,rfl,?_⟩;replace HO0:=zVb HO0 hb;replace HO1:=zVb HO1 hb;replace sG:=zVb sG hb;replace vG:=zVb vG hb;have ad3:=am (Kd.dG (Kd.bG (ok':=fun k_=>((P0_ k_∨P1_ k_)∨w.heap.size≤k_)) ho0 (fun k_ hk_=>(.inr (Nat.le_trans (zS HB) hk_)))) (zS HB));replace HB:=zBs HB hb;clear hb ho0)|((with_reducible refine af (f:=48) rfl ?_);refine zc (some 34) Tryz.func48 _ (qU.calls _ _ _ _ A12.out) ?_;rintro e w18 ⟨aIU,rfl,ho0,hb⟩;refine⟨_,rfl,?_⟩;replace HO0:=zVb HO0 hb;replace HO1:=zVb HO1 hb;replace sG:=zVb sG hb;replace vG:=zVb vG hb;replace ad3:=zVb ad3 hb;have arc:=am (Kd.dG (Kd.bG (ok':=fun k_=>((P0_ k_∨P1_ k_)∨w.heap.size≤k_)) ho0 (fun k_ hk_=>(.inr (Nat.le_trans (zS HB) hk_)))) (zS HB));replace HB:=zBs HB hb;clear hb ho0)|((with_reducible refine af (f:=103) rfl ?_);refine zc (some 14) Tryz.func103 #[.slice A1 l1.length c1] (bH.calls _ (fun k_=>((P0_ k_∨P1_ k_)∨w.heap.size≤k_)) _ _ _ _ _ HO1.out A4.out) ?_;rintro e w23 ⟨aCs,rfl,ho0,hb⟩;refine⟨_,rfl,?_⟩;replace HO0:=zVb HO0 hb;replace HO1:=zVb HO1 hb;replace sG:=zVb sG hb;have vG:=am (Kd.dG (Kd.bG (ok':=fun k_=>((P0_ k_∨P1_ k_)∨w.heap.size≤k_)) ho0 (fun k_ hk_=>Or.elim hk_ (fun hs_=>hs_) (fun hn_=>(.inr (Nat.le_trans (zS HB) hn_))))) (zS HB));replace HB:=zBs HB hb;clear hb ho0;obtain⟨OM,KA,MG⟩:=Kd.dS vG.out;subst MG;obtain⟨aoJ,ahD,ae5⟩:=Kd.dS sG.out;subst ae5)|((with_reducible refine af (f:=153) rfl ?_);refine zc (some 38) Tryz.func153 #[.slice aoJ V7.length ahD,.slice OM Na.length KA] (nz.calls _ _ _ _ _ _ _ _ _ (zC ((Kd.aX sG.out).2.2)) ((Kd.aX sG.out).2.1) (zC ((Kd.aX vG.out).2.2)) ((Kd.aX vG.out).2.1) A19.out) ?_;rintro e w26 ⟨rfl,hb⟩;refine⟨_,rfl,?_⟩;replace HO0:=zVb HO0 hb;replace HO1:=zVb HO1 hb;replace sG:=zVb sG hb;replace vG:=zVb vG hb;replace HB:=zBs HB hb;clear hb)|((with_reducible refine dW (b := .append) (xs:=#[.const (.slice none 0 0),.tmp 40]) rfl ?_);at_builtin;refine Kd.rC (Kd.int .u64) (w0:=w) w.heap.size rfl (.const (.slice none 0 0)) (.tmp 40) 88 25 (.int .u64 0) 8 rfl Tryz.underlying88 info25 rfl (by decide) (by omega) (.slice none 0 0) ([]:List Int) V7 _ _ _ (fun k_=>(w.heap.size≤k_)) (fun _=>False) rfl rfl ?aO ?aR (fun _ _ h=>h) (fun _ h=>h.elim) ?aF ?aB ?aS ?aL ?_;(case aR=>repeat (first|exact (Kd.aX sG.out).2.2|(with_reducible refine Kd.kJ ?_ _)|(with_reducible refine Kd.kM ?_ _)|(with_reducible refine Kd.ny ?_)));(case aB=>exact (zB HB));(case aF=>exact (fun k_ hk=>(Nat.le_trans (zS HB) hk)));(case aO=>exact ((Kd.G8 _ _ _ _ (fun k_=>(w.heap.size≤k_)))));(case aS=>exact (zS HB));(case aL=>have:=aq8.out;omega);intro aIV w27 ho hb hg hat;rw[← aq9.out]at ho;replace HO0:=am (Kd.iZ (Kd.oJ (zV HO0)) hg hat);replace HO1:=am (Kd.iZ (Kd.oJ (zV HO1)) hg hat);replace sG:=am (Kd.iZ (Kd.oJ (zV sG)) hg hat);replace vG:=am (Kd.iZ (Kd.oJ (zV vG)) hg hat);replace HB:=am (hb);have ard:=am (ho);clear ho hb hg hat)|((with_reducible refine af (f:=154) rfl ?_);refine zc (some 45) Tryz.func154 #[.slice aoJ V7.length ahD,.slice OM Na.length KA] (bz.calls _ _ _ _ _ _ _ _ _ _ (zC ((Kd.aX sG.out).2.2)) ((Kd.aX sG.out).2.1) (zC ((Kd.aX vG.out).2.2)) ((Kd.aX vG.out).2.1) A28.out) ?_;rintro e w34 ⟨aIW,aIX,rfl,ho0,ho1,hb⟩;refine⟨_,rfl,?_⟩;replace HO0:=zVb HO0 hb;replace HO1:=zVb HO1 hb;replace sG:=zVb sG hb;replace vG:=zVb vG hb;have arf:=am (Kd.dG (Kd.bG (ok':=fun k_=>((P0_ k_∨P1_ k_)∨w.heap.size≤k_)) ho0 (fun k_ hk_=>(.inr (Nat.le_trans (zS HB) hk_)))) (zS HB));have arh:=am (Kd.dG (Kd.bG (ok':=fun k_=>((P0_ k_∨P1_ k_)∨w.heap.size≤k_)) ho1 (fun k_ hk_=>(.inr (Nat.le_trans (zS HB) hk_)))) (zS HB));replace HB:=zBs HB hb;clear hb ho0 ho1)))
 ·go_ret3
  exact⟨_,_,z2,Kd.Ah _ _ _ _ _,Kd.Ah _ _ _ _ _,zB HB⟩
 ·go_ret3
  exact⟨_,_,z2,zV ad3,zV arc,zB HB⟩
 ·go_ret3
  exact⟨_,_,z2,Kd.Ah _ _ _ _ _,Kd.bG (Kd.R_V (zR ard)) (fun k_ hk=>by first|exact⟨(.inr (hk.1)),hk.2⟩|exact (.inr (hk))),zB HB⟩
 go_ret3
 exact⟨_,_,z2,zV arf,zV arh,zB HB⟩
def gW.f (k:Nat)(fM:Bool)(fF:Bool)(iQ:ByteArray)(jd:Int):Option (Int × Bool × Int × Int × Int × Bool × Option Int):=if (wrap64 ((iQ.size:Int)+jd)) > 100 then ((dL.f k fF 0 1 1000 false).bind fun Nb=>(some (Nb.1,Nb.2.1,Nb.2.2.1,Nb.2.2.2.1,Nb.2.2.2.2.1,Nb.2.2.2.2.2.1,Nb.2.2.2.2.2.2))) else (if (wrap64 ((iQ.size:Int)+jd))<(-100) then ((dL.f k fF 0 1 (-1000) false).bind fun Nc=>(some (Nc.1,Nc.2.1,Nc.2.2.1,Nc.2.2.2.1,Nc.2.2.2.2.1,Nc.2.2.2.2.2.1,Nc.2.2.2.2.2.2))) else ((fU.f k iQ).bind fun V9=>(if V9.2.isNone=true then ((iw.f k (mx jd (wrap64 (-jd)))).bind fun We=>(if We.2.isNone=true then (if jd≥0 then ((lM.f k (([V9.1,We.1]:List (List Int)))).bind fun ajn=>((nK.f k fF ajn 0 false).bind fun Nh=>(some (Nh.1,Nh.2.1,Nh.2.2.1,Nh.2.2.2.1,Nh.2.2.2.2.1,Nh.2.2.2.2.2.1,Nh.2.2.2.2.2.2)))) else ((pg.f k We.1).bind fun afo=>((pg.f k V9.1).bind fun afp=>((lQ.f k V9.1 (mx 0 (wrap64 ((wrap64 (afo-afp))+66)))).bind fun ad4=>(if ad4.2.isNone=true then ((xW.f k ad4.1 We.1).bind fun Zp=>(if Zp.2.2.isNone=true then ((nK.f k fF Zp.1 (wrap64 (-(mx 0 (wrap64 ((wrap64 (afo-afp))+66))))) (decide ((Zp.2.1.length:Int) > 0))).bind fun Nk=>(some (Nk.1,Nk.2.1,Nk.2.2.1,Nk.2.2.2.1,Nk.2.2.2.2.1,Nk.2.2.2.2.2.1,Nk.2.2.2.2.2.2))) else (some (0,false,0,0,0,false,some (Zp.2.2.getD 0))))) else (some (0,false,0,0,0,false,some (ad4.2.getD 0)))))))) else (some (0,false,0,0,0,false,some (We.2.getD 0))))) else (some (0,false,0,0,0,false,some (V9.2.getD 0))))))
def gW.T13:Bool × List (List Nat × List Nat):=(true,[([],[]),([0],[0]),([],[]),([],[]),([2,3],[2,3]),([4],[4]),([1,5,5],[1,5]),([6],[6]),([6],[6]),([7,6,0,1,2,3,4,5,6,7,8],[7]),([8,9,0,1,2,3,4,5,6,7,8,9],[8])])
def gW.B13:List Nat := [0,1,0,0,12,28,63,127,127,511,1023]
theorem gW.al0:rX .any (opsOf Tryz.f43 13)=gW.T13:=by kernel_rfl
theorem gW.af2:jf gW.T13.2 gW.B13=true:=by kernel_rfl
theorem gW.calls (k:Nat)(fM:Bool)(fF:Bool)(iQ:ByteArray)(jd:Int)(r1:Int)(r2:Bool)(r3:Int)(r4:Int)(r5:Int)(r6:Bool)(r7:Option Int)(w:World)(h:gW.f k fM fF iQ jd=some (r1,r2,r3,r4,r5,r6,r7)) :
    Calls Tryz.prog 43 #[.agg #[.bool fM,.bool fF,.string iQ,.int .i64 jd]] w fun e w'=>e=.returned (.tuple #[.agg #[.int .i64 r1,.bool r2,.int .i64 r3,.int .u64 r4,.int .u64 r5,.bool r6],qL r7])∧Below w.heap.size w w':=by
 have Rf:=Tryz.underlying23;have Vb:=Tryz.underlying81;have zq:=Tryz.underlying27;have hu64:=Tryz.underlying64;have HB:=am (Below.refl w.heap.size w);have H:=am h;unfold gW.f at H;clear h;replace H:=AV H;rcases H with⟨sQ,H⟩|⟨sQ,H⟩;replace H:=zo H;obtain⟨⟨aCw,aCx,aCy,aCz,aCA,aCB,aIY⟩,A3,H⟩:=H
 try dsimp only at H
 obtain⟨rfl,rfl,rfl,rfl,rfl,rfl,rfl⟩:=zJ7 H;rotate_left;replace H:=zsd H;rcases H with⟨oL,H⟩|⟨oL,H⟩;replace H:=zo H;obtain⟨⟨aCC,aCD,aCE,aCF,aCG,aCH,aIZ⟩,A11,H⟩:=H
 try dsimp only at H
 obtain⟨rfl,rfl,rfl,rfl,rfl,rfl,rfl⟩:=zJ7 H;rotate_left;replace H:=zo H;obtain⟨⟨ad5,aCI⟩,A18,H⟩:=H
 try dsimp only at H
 rcases aCI with _|aI0;replace H:=zb1 H
 try simp only[aj,ah]
 generalize tX:(mx jd (wrap64 (-jd)):Int)=Gg at H
 (try rw[tX]at A18)
 have agS:(if jd<(wrap64 (-jd)) then (wrap64 (-jd)) else jd)=Gg:=tX;replace H:=zo H;obtain⟨⟨ad6,aCJ⟩,A20,H⟩:=H
 try dsimp only at H
 rcases aCJ with _|aI1;replace H:=zb1 H
 try simp only[aj,ah]
 replace H:=yD H;rcases H with⟨BF,H⟩|⟨BF,H⟩
 ·generalize ajo:(([ad5,ad6]:List (List Int)):List (List Int))=awT at H
  have ajp:=zY ajo;clear ajo;replace H:=zo H;obtain⟨ajn,A22,H⟩:=H;replace H:=zo H;obtain⟨⟨awU,awV,awW,awX,awY,awZ,aCK⟩,A23,H⟩:=H
  try dsimp only at H
  obtain⟨rfl,rfl,rfl,rfl,rfl,rfl,rfl⟩:=zJ7 H
  go_enter Tryz.func43,Tryz.ntmps43
  try go_wp2_with (first|((with_reducible refine aA (N:=1) rfl ?_);refine zx 1 23 #[.bool fM,.bool fF,.string iQ,.int .i64 jd] ?_;intro oh hg w24 hbox hb;have gX:=am (hbox);have ari:=zG hg HB;have arj:=zG hg HB;replace HB:=zBs HB hb;clear hb hbox hg)|((with_reducible refine aA (N:=2) rfl ?_);refine zx 2 81 #[.int .i64 0,.bool false,.int .i64 0,.int .u64 0,.int .u64 0,.bool false] ?_;intro nV hg w25 hbox hb;have iI:=am (hbox);have ark:=zG hg HB;have arl:=zG hg HB;replace HB:=zBs HB hb;have pV:=zNl hg gX;have pW:=zNg hg gX;replace gX:=zKb gX hb;clear hb hbox hg;have anm:=pV.out;have ann:=pW.out;obtain⟨_,_,_,_,_,_,_,_⟩:=zf4 gX)|((with_reducible refine af (f:=94) rfl ?_);refine zc (some 36) Tryz.func94 _ (fU.calls _ _ _ _ _ A18.out) ?_;rintro e w28 ⟨aCL,rfl,ho0,hb⟩;refine⟨_,rfl,?_⟩;have oM:=am (Kd.dG (Kd.bG (ok':=fun k_=>k_≠oh∧k_≠nV) ho0 (fun k_ hk_=>⟨(Kd.gJ (g:=oh) (o := .cells #[.bool fM,.bool fF,.string iQ,.int .i64 jd] 23 (0,0)) (zK gX) k_ hk_),(Kd.gJ (g:=nV) (o := .cells #[.int .i64 0,.bool false,.int .i64 0,.int .u64 0,.int .u64 0,.bool false] 81 (0,0)) (zK iI) k_ hk_)⟩)) (zS HB));replace gX:=zKb gX hb;replace iI:=zKb iI hb;replace HB:=zBs HB hb;clear hb ho0;(try simp only[aj,ah]);obtain⟨_,_,_,_,_,_,_,_⟩:=zf4 gX)|((with_reducible refine af (f:=51) rfl ?_);refine jS (some 50) rfl rfl Tryz.func51 (by kernel_rfl) rfl #[.int .i64 Gg] rfl (by (try simp only[List.map_toArray,List.map_cons,List.map_nil]);first|done|(simp only[tX];rfl)|rfl|(simp only[List.length_drop,List.length_take];rfl)) ?_;(with_reducible refine (iw.calls _ _ _ _ _ A20.out).mono ?_);rintro e w30 ⟨aCM,rfl,ho0,hb⟩;refine⟨_,rfl,?_⟩;replace oM:=zVb oM hb;have qp:=am (Kd.dG (Kd.bG (ok':=fun k_=>k_≠oh∧k_≠nV) ho0 (fun k_ hk_=>⟨(Kd.gJ (g:=oh) (o := .cells #[.bool fM,.bool fF,.string iQ,.int .i64 jd] 23 (0,0)) (zK gX) k_ hk_),(Kd.gJ (g:=nV) (o := .cells #[.int .i64 0,.bool false,.int .i64 0,.int .u64 0,.int .u64 0,.bool false] 81 (0,0)) (zK iI) k_ hk_)⟩)) (zS HB));replace gX:=zKb gX hb;replace iI:=zKb iI hb;replace HB:=zBs HB hb;clear hb ho0;(try simp only[aj,ah]);obtain⟨_,_,_,_,_,_,_,_⟩:=zf4 gX))
  replace oM:=am (Kd.jb oM.out);replace qp:=am (Kd.jb qp.out);replace gX:=am (dY gX.out);replace iI:=am (dY iI.out);replace HB:=am (aW HB.out);obtain⟨aw0,aw1,aw2⟩:=Kd.dS oM.out
  (first|subst aw2|(injection aw2 with f1_ f2_ f3_;have f4_:=f1_.symm;have f5_:=f3_.symm;clear f1_ f2_ f3_;subst f4_;subst f5_))
  obtain⟨Rq,ML,Rn⟩:=Kd.dS qp.out
  (first|subst Rn|(injection Rn with f1_ f2_ f3_;have f4_:=f1_.symm;have f5_:=f3_.symm;clear f1_ f2_ f3_;subst f4_;subst f5_))
  refine mM (n:=11) (S:=fun w'=>w'.cell? ⟨oh,0,none⟩=some (.bool fM)∧w'.cell? ⟨oh,1,none⟩=some (.bool fF)∧w'.cell? ⟨oh,2,none⟩=some (.string iQ)∧w'.cell? ⟨oh,3,none⟩=some (.int .i64 jd)) (ds := []) (Array.replicate 11 false) (by kernel_rfl) rfl rfl ⟨(ag gX.out 0).trans rfl,(ag gX.out 1).trans rfl,(ag gX.out 2).trans rfl,(ag gX.out 3).trans rfl⟩ (fun hHeld=>?_);refine gQ gW.al0 gW.af2 (fun HT_ HW_=>?_);generalize w30.drew=w32 at oM qp gX iI HB hHeld ⊢;refine zp HT_ 0 (some 60) ?_;refine zp HT_ 2 (some 62) ?_;refine zp HT_ 3 (some 63) ?_;refine zt HT_ HW_ 1 (some 61) hHeld ?_;refine zu HT_ 4 (some 64) (fun K hK=>?_);refine Kd.PZ (Kd.slice 25 (Kd.int .u64)) _ 88 ?hg (N':=64) ?hd (xs:=([ad5,ad6]:List (List Int))) (inner := [.slice aw0 ad5.length aw1,.slice Rq ad6.length ML]) (ok:=(fun k_=>k_≠oh∧k_≠nV)) (okp:=(fun k_=>k_≠oh∧k_≠nV)) ?hr ?hp (fun _ hk=>hk) ((show ∀ k_,w32.heap.size≤k_→(fun k_=>k_≠oh∧k_≠nV) k_ from fun k_ hk=>⟨Kd.gJ (g:=oh) (o := .cells #[.bool fM,.bool fF,.string iQ,.int .i64 jd] 23 (0,0)) (zK gX) k_ hk,Kd.gJ (g:=nV) (o := .cells #[.int .i64 0,.bool false,.int .i64 0,.int .u64 0,.int .u64 0,.bool false] 81 (0,0)) (zK iI) k_ hk⟩) _ (Nat.le_refl _)) (Below.refl _ _) (Nat.le_refl _) (by simp) ?_;(case hd=>rfl);(case hg=>rfl);(case hr=>first|(go_simp;done)|(go_simp;rfl));(case hp=>exact (jM.one (show Kd.FK (Kd.slice 25 (Kd.int .u64)) _ _ ad5 [.slice aw0 ad5.length aw1] from (Kd.qi (Kd.aX (Kd.bG (ok':=(fun k_=>k_≠oh∧k_≠nV)) (oM.out) (fun k_ hk=>⟨hk.1,hk.2⟩))).2.1 (Kd.V_F (Kd.bG (ok':=(fun k_=>k_≠oh∧k_≠nV)) (oM.out) (fun k_ hk=>⟨hk.1,hk.2⟩))))) (jM.one (show Kd.FK (Kd.slice 25 (Kd.int .u64)) _ _ ad6 [.slice Rq ad6.length ML] from (Kd.qi (Kd.aX (Kd.bG (ok':=(fun k_=>k_≠oh∧k_≠nV)) (qp.out) (fun k_ hk=>⟨hk.1,hk.2⟩))).2.1 (Kd.V_F (Kd.bG (ok':=(fun k_=>k_≠oh∧k_≠nV)) (qp.out) (fun k_ hk=>⟨hk.1,hk.2⟩))))) (jM.none _ _))));intro aI2 w35 ad7 hb hg_ jO;clear hg_ jO
  (first|rw[← ajp.out]at ad7|(simp only[Int.reduceToNat]at ad7;rw[← ajp.out]at ad7))
  replace oM:=am (Kd.jl (zV oM) (Kd.Fg ad7) hb);replace qp:=am (Kd.jl (zV qp) (Kd.Fg ad7) hb);have QR:=am (Kd.LK ad7 (zS HB));replace gX:=zKb gX hb;replace iI:=zKb iI hb;replace HB:=zBs HB hb;clear hb ad7;obtain⟨air,ais,adC⟩:=Kd.GI QR.out
  (first|subst adC|(injection adC with f1_ f2_ f3_;have f4_:=f1_.symm;have f5_:=f3_.symm;clear f1_ f2_ f3_;subst f4_;subst f5_))
  refine hK.out _ _ ⟨(ag gX.out 0).trans rfl,(ag gX.out 1).trans rfl,(ag gX.out 2).trans rfl,(ag gX.out 3).trans rfl⟩ (fun hHeld=>?_);clear hK K;refine mD (a':=?_) ?_ ?_;rotate_left
  ·show Act.put _ (some 64) _=_
   simp only[Act.put,List.setIfInBounds_toArray,List.set_cons_zero,List.set_cons_succ,bW,fV]
   rfl
  refine zu HT_ 5 (some 65) (fun K hK=>?_);refine oV Tryz.func53 (by kernel_rfl) rfl #[.slice air awT.length ais] (by rfl) rfl rfl (by (try simp only[List.map_toArray,List.map_cons,List.map_nil]);first|done|rfl|(simp only[List.length_drop,List.length_take];rfl)) ?_
  with_reducible refine (lM.calls k (fun k_=>(k_≠oh∧k_≠nV)) _ _ awT ajn _ ?eu A22.out).mono ?_
  (case eu=>exact Kd.N_V (QR.out))
  rintro e w38 ⟨aI3,rfl,ho0,hb⟩;refine⟨_,rfl,?_⟩;replace oM:=zVb oM hb;replace qp:=zVb qp hb;replace QR:=am (Kd.rM (by (with_reducible repeat (first|apply Kd.vK|apply Kd.vV|apply Kd.yO));exact QR.out) hb);have Wh:=am (Kd.dG (Kd.bG (ok':=fun k_=>k_≠oh∧k_≠nV) ho0 (fun k_ hk_=>⟨Or.elim hk_ (fun hs_=>hs_.1) (fun hn_=>(Kd.gJ (g:=oh) (o := .cells #[.bool fM,.bool fF,.string iQ,.int .i64 jd] 23 (0,0)) (zK gX) k_ hn_)),Or.elim hk_ (fun hs_=>hs_.2) (fun hn_=>(Kd.gJ (g:=nV) (o := .cells #[.int .i64 0,.bool false,.int .i64 0,.int .u64 0,.int .u64 0,.bool false] 81 (0,0)) (zK iI) k_ hn_))⟩)) (zS HB));replace gX:=zKb gX hb;replace iI:=zKb iI hb;replace HB:=zBs HB hb
  (try clear hb)
  (try clear hb2)
  (try clear hk)
  (try clear hi)
  (try clear ho0)
  obtain⟨aCN,aCO,aw3⟩:=Kd.dS Wh.out
  (first|subst aw3|(injection aw3 with f1_ f2_ f3_;have f4_:=f1_.symm;have f5_:=f3_.symm;clear f1_ f2_ f3_;subst f4_;subst f5_))
  refine hK.out _ _ ⟨(ag gX.out 0).trans rfl,(ag gX.out 1).trans rfl,(ag gX.out 2).trans rfl,(ag gX.out 3).trans rfl⟩ (fun hHeld=>?_);clear hK K;refine mD (a':=?_) ?_ ?_;rotate_left
  ·show Act.put _ (some 65) _=_
   simp only[Act.put,List.setIfInBounds_toArray,List.set_cons_zero,List.set_cons_succ,bW,fV]
   rfl
  refine zu HT_ 6 (some 66) (fun K hK=>?_);refine oV Tryz.func95 (by kernel_rfl) rfl #[.bool fF,.slice aCN ajn.length aCO,.int .i64 0,.bool false] (by rfl) rfl rfl (by (try simp only[List.map_toArray,List.map_cons,List.map_nil]);first|done|rfl|(simp only[List.length_drop,List.length_take];rfl)) ?_
  with_reducible refine (nK.calls k fF _ _ ajn 0 false awU awV awW awX awY awZ aCK _ ?eu ?kw A23.out).mono ?_
  (case eu=>repeat (first|exact (Kd.aX Wh.out).2.2|(with_reducible refine Kd.kJ ?_ _)|(with_reducible refine Kd.kM ?_ _)|(with_reducible refine Kd.ny ?_)))
  (case kw=>exact (Kd.aX Wh.out).2.1)
  rintro e w40 ⟨rfl,hb⟩;refine⟨_,rfl,?_⟩;replace oM:=zVb oM hb;replace qp:=zVb qp hb;replace QR:=am (Kd.rM (by (with_reducible repeat (first|apply Kd.vK|apply Kd.vV|apply Kd.yO));exact QR.out) hb);replace Wh:=zVb Wh hb;replace gX:=zKb gX hb;replace iI:=zKb iI hb;replace HB:=zBs HB hb
  (try clear hb)
  (try clear hb2)
  (try clear hk)
  (try clear hi)
  (try simp only[aj,ah])
  refine hK.out _ _ ⟨(ag gX.out 0).trans rfl,(ag gX.out 1).trans rfl,(ag gX.out 2).trans rfl,(ag gX.out 3).trans rfl⟩ (fun hHeld=>?_);clear hK K;refine mD (a':=?_) ?_ ?_;rotate_left
  ·show Act.put _ (some 66) _=_
   simp only[Act.put,List.setIfInBounds_toArray,List.set_cons_zero,List.set_cons_succ,bW,fV]
   rfl
  refine zp HT_ 7 (some 67) ?_;refine zp HT_ 8 (some 68) ?_;refine zu HT_ 9 none (fun K hK=>?_);have aAJ:=zl iI 0;have apE:=ak iI.out 0;have arn:=pV.out;have aro:=pW.out;have aAK:=zl iI 1;have apH:=ak iI.out 1;have arp:=pV.out;have arq:=pW.out;have aAL:=zl iI 2;have apK:=ak iI.out 2;have ars:=pV.out;have art:=pW.out;have aI4:=zl iI 3;have aCP:=ak iI.out 3;have aru:=pV.out;have arv:=pW.out;have aI5:=zl iI 4;have aCQ:=ak iI.out 4;have arw:=pV.out;have arx:=pW.out;have aI6:=zl iI 5;have aCR:=ak iI.out 5;have ary:=pV.out;have arz:=pW.out;refine xy (w1:=?_) (by rfl) rfl ?_ ?_;rotate_left
  ·go_simp
   rfl
  refine hK.out _ _ ⟨(zh hHeld),(zh hHeld),(zh hHeld),(zh hHeld)⟩ (fun hHeld=>?_);clear hK K;refine zp HT_ 10 (some 3) ?_;refine oG (iJ HT_.out (by kernel_rfl)) ?_
  try go_wp2
  refine bodyPost_ret (dh rfl _ _ nV 81 #[.int .i64 awU,.bool awV,.int .i64 awW,.int .u64 awX,.int .u64 awY,.bool awZ] (0,0) _ rfl (zKp iI) Tryz.underlying81 rfl (by kernel_rfl)) rfl ?_;exact⟨by first|exact z3|(simp only[← tX];exact z3)|exact z2,zB HB⟩
 replace H:=zo H;obtain⟨afo,A47,H⟩:=H;replace H:=zo H;obtain⟨afp,A48,H⟩:=H;generalize Iy:(mx 0 (wrap64 ((wrap64 (afo-afp))+66)):Int)=arA at H
 (try rw[Iy]at A18)
 (try rw[Iy]at A20)
 (try rw[Iy]at A47)
 (try rw[Iy]at A48)
 have aw4:(if 0<(wrap64 ((wrap64 (afo-afp))+66)) then (wrap64 ((wrap64 (afo-afp))+66)) else 0)=arA:=Iy;replace H:=zo H;obtain⟨⟨aCS,aCT⟩,A50,H⟩:=H
 try dsimp only at H
 rcases aCT with _|aI7;replace H:=zb1 H
 try simp only[aj,ah]
 replace H:=zo H;obtain⟨⟨aCU,ajq,aCV⟩,A51,H⟩:=H
 (try rw[show decide ((ajq.length:Int) > 0)=decide (0<ajq.length) from decide_eq_decide.2 (by omega)]at A51)
 try dsimp only at H
 rcases aCV with _|aI8;replace H:=zb1 H
 try simp only[aj,ah]
 replace H:=zo H;obtain⟨⟨aCW,aCX,aCY,aCZ,aC0,aC1,aI9⟩,A52,H⟩:=H
 (try rw[show decide ((ajq.length:Int) > 0)=decide (0<ajq.length) from decide_eq_decide.2 (by omega)]at A52)
 try dsimp only at H
 obtain⟨rfl,rfl,rfl,rfl,rfl,rfl,rfl⟩:=zJ7 H;rotate_left;replace H:=zb0 H
 try simp only[Option.getD_some]at H
 try simp only[aj,ah]
 obtain⟨rfl,rfl,rfl,rfl,rfl,rfl,rfl⟩:=zJ7 H;rotate_left;replace H:=zb0 H
 try simp only[Option.getD_some]at H
 try simp only[aj,ah]
 obtain⟨rfl,rfl,rfl,rfl,rfl,rfl,rfl⟩:=zJ7 H;rotate_left;replace H:=zb0 H
 try simp only[Option.getD_some]at H
 try simp only[aj,ah]
 obtain⟨rfl,rfl,rfl,rfl,rfl,rfl,rfl⟩:=zJ7 H;rotate_left;replace H:=zb0 H
 try simp only[Option.getD_some]at H
 try simp only[aj,ah]
 obtain⟨rfl,rfl,rfl,rfl,rfl,rfl,rfl⟩:=zJ7 H;rotate_left
 all_goals (go_enter Tryz.func43,Tryz.ntmps43;go_wp2_with (first|((with_reducible refine aA (N:=1) rfl ?_);refine zx 1 23 #[.bool fM,.bool fF,.string iQ,.int .i64 jd] ?_;intro oh hg w53 hbox hb;have gX:=am (hbox);have ari:=zG hg HB;have arj:=zG hg HB;replace HB:=zBs HB hb;clear hb hbox hg)|((with_reducible refine aA (N:=2) rfl ?_);refine zx 2 81 #[.int .i64 0,.bool false,.int .i64 0,.int .u64 0,.int .u64 0,.bool false] ?_;intro nV hg w54 hbox hb;have iI:=am (hbox);have ark:=zG hg HB;have arl:=zG hg HB;replace HB:=zBs HB hb;have pV:=zNl hg gX;have pW:=zNg hg gX;replace gX:=zKb gX hb;clear hb hbox hg;have aC2:=pV.out;have aC3:=pW.out;obtain⟨_,_,_,_,_,_,_,_⟩:=zf4 gX)|((with_reducible refine af (f:=94) rfl ?_);refine zc (some 36) Tryz.func94 _ (fU.calls _ _ _ _ _ A18.out) ?_;rintro e w57 ⟨aCL,rfl,ho0,hb⟩;refine⟨_,rfl,?_⟩;have oM:=am (Kd.dG (Kd.bG (ok':=fun k_=>k_≠oh∧k_≠nV) ho0 (fun k_ hk_=>⟨(Kd.gJ (g:=oh) (o := .cells #[.bool fM,.bool fF,.string iQ,.int .i64 jd] 23 (0,0)) (zK gX) k_ hk_),(Kd.gJ (g:=nV) (o := .cells #[.int .i64 0,.bool false,.int .i64 0,.int .u64 0,.int .u64 0,.bool false] 81 (0,0)) (zK iI) k_ hk_)⟩)) (zS HB));replace gX:=zKb gX hb;replace iI:=zKb iI hb;replace HB:=zBs HB hb;clear hb ho0;(try simp only[aj,ah]);obtain⟨_,_,_,_,_,_,_,_⟩:=zf4 gX;obtain⟨_,_,_,_,_,_,_,_,_,_,_,_⟩:=zf6 iI)|((with_reducible refine af (f:=51) rfl ?_);refine jS (some 50) rfl rfl Tryz.func51 (by kernel_rfl) rfl #[.int .i64 Gg] rfl (by (try simp only[List.map_toArray,List.map_cons,List.map_nil]);first|done|(simp only[tX];rfl)|rfl|(simp only[List.length_drop,List.length_take];rfl)) ?_;(with_reducible refine (iw.calls _ _ _ _ _ A20.out).mono ?_);rintro e w59 ⟨aCM,rfl,ho0,hb⟩;refine⟨_,rfl,?_⟩;replace oM:=zVb oM hb;have qp:=am (Kd.dG (Kd.bG (ok':=fun k_=>k_≠oh∧k_≠nV) ho0 (fun k_ hk_=>⟨(Kd.gJ (g:=oh) (o := .cells #[.bool fM,.bool fF,.string iQ,.int .i64 jd] 23 (0,0)) (zK gX) k_ hk_),(Kd.gJ (g:=nV) (o := .cells #[.int .i64 0,.bool false,.int .i64 0,.int .u64 0,.int .u64 0,.bool false] 81 (0,0)) (zK iI) k_ hk_)⟩)) (zS HB));replace gX:=zKb gX hb;replace iI:=zKb iI hb;replace HB:=zBs HB hb;clear hb ho0;(try simp only[aj,ah]);obtain⟨_,_,_,_,_,_,_,_⟩:=zf4 gX;obtain⟨aw5,aw6,aC4⟩:=Kd.dS qp.out;subst aC4;obtain⟨_,_,_,_,_,_,_,_,_,_,_,_⟩:=zf6 iI)|((with_reducible refine af (f:=96) rfl ?_);refine zc (some 70) Tryz.func96 #[.slice aw5 ad6.length aw6] (pg.calls _ _ _ _ _ _ (zC ((Kd.aX qp.out).2.2)) ((Kd.aX qp.out).2.1) A47.out) ?_;rintro e w62 ⟨rfl,hb⟩;refine⟨_,rfl,?_⟩;replace oM:=zVb oM hb;replace qp:=zVb qp hb;replace gX:=zKb gX hb;replace iI:=zKb iI hb;replace HB:=zBs HB hb;clear hb;obtain⟨aw7,aja,Xn⟩:=Kd.dS oM.out;subst Xn)|((with_reducible refine af (f:=96) rfl ?_);refine zc (some 72) Tryz.func96 #[.slice aw7 ad5.length aja] (pg.calls _ _ _ _ _ _ (zC ((Kd.aX oM.out).2.2)) ((Kd.aX oM.out).2.1) A48.out) ?_;rintro e w64 ⟨rfl,hb⟩;refine⟨_,rfl,?_⟩;replace oM:=zVb oM hb;replace qp:=zVb qp hb;replace gX:=zKb gX hb;replace iI:=zKb iI hb;replace HB:=zBs HB hb;clear hb)|((with_reducible refine af (f:=49) rfl ?_);refine jS (some 79) rfl rfl Tryz.func49 (by kernel_rfl) rfl #[.slice aw7 ad5.length aja,.int .i64 arA] rfl (by (try simp only[List.map_toArray,List.map_cons,List.map_nil]);first|done|(simp only[Iy];rfl)|rfl|(simp only[List.length_drop,List.length_take];rfl)) ?_;(with_reducible refine (lQ.calls _ (fun k_=>(k_≠oh∧k_≠nV)) _ _ _ _ _ _ _ ?eu A50.out).mono ?_);(case eu=>exact oM.out);rintro e w65 ⟨aJa,rfl,ho0,hb⟩;refine⟨_,rfl,?_⟩;replace oM:=zVb oM hb;replace qp:=zVb qp hb;have QS:=am (Kd.dG (Kd.bG (ok':=fun k_=>k_≠oh∧k_≠nV) ho0 (fun k_ hk_=>⟨Or.elim hk_ (fun hs_=>hs_.1) (fun hn_=>(Kd.gJ (g:=oh) (o := .cells #[.bool fM,.bool fF,.string iQ,.int .i64 jd] 23 (0,0)) (zK gX) k_ hn_)),Or.elim hk_ (fun hs_=>hs_.2) (fun hn_=>(Kd.gJ (g:=nV) (o := .cells #[.int .i64 0,.bool false,.int .i64 0,.int .u64 0,.int .u64 0,.bool false] 81 (0,0)) (zK iI) k_ hn_))⟩)) (zS HB));replace gX:=zKb gX hb;replace iI:=zKb iI hb;replace HB:=zBs HB hb;clear hb ho0;(try simp only[aj,ah]);obtain⟨aC5,aC6,aC7⟩:=Kd.dS QS.out;subst aC7;obtain⟨_,_,_,_,_,_,_,_,_,_,_,_⟩:=zf6 iI)|((with_reducible refine af (f:=97) rfl ?_);refine zc (some 89) Tryz.func97 #[.slice aC5 aCS.length aC6,.slice aw5 ad6.length aw6] (xW.calls _ (fun k_=>(k_≠oh∧k_≠nV)) _ _ _ (fun k_=>(k_≠oh∧k_≠nV)) _ _ _ _ _ _ _ QS.out qp.out A51.out) ?_;rintro e w67 ⟨aJb,aJc,rfl,ho0,ho1,hb⟩;refine⟨_,rfl,?_⟩;replace oM:=zVb oM hb;replace qp:=zVb qp hb;replace QS:=zVb QS hb;have Wi:=am (Kd.dG (Kd.bG (ok':=fun k_=>k_≠oh∧k_≠nV) ho0 (fun k_ hk_=>⟨Or.elim hk_ (fun hs_=>Or.elim hs_ (fun hs_=>hs_.1) (fun hs_=>hs_.1)) (fun hn_=>(Kd.gJ (g:=oh) (o := .cells #[.bool fM,.bool fF,.string iQ,.int .i64 jd] 23 (0,0)) (zK gX) k_ hn_)),Or.elim hk_ (fun hs_=>Or.elim hs_ (fun hs_=>hs_.2) (fun hs_=>hs_.2)) (fun hn_=>(Kd.gJ (g:=nV) (o := .cells #[.int .i64 0,.bool false,.int .i64 0,.int .u64 0,.int .u64 0,.bool false] 81 (0,0)) (zK iI) k_ hn_))⟩)) (zS HB));have ad8:=am (Kd.dG (Kd.bG (ok':=fun k_=>k_≠oh∧k_≠nV) ho1 (fun k_ hk_=>⟨Or.elim hk_ (fun hs_=>Or.elim hs_ (fun hs_=>hs_.1) (fun hs_=>hs_.1)) (fun hn_=>(Kd.gJ (g:=oh) (o := .cells #[.bool fM,.bool fF,.string iQ,.int .i64 jd] 23 (0,0)) (zK gX) k_ hn_)),Or.elim hk_ (fun hs_=>Or.elim hs_ (fun hs_=>hs_.2) (fun hs_=>hs_.2)) (fun hn_=>(Kd.gJ (g:=nV) (o := .cells #[.int .i64 0,.bool false,.int .i64 0,.int .u64 0,.int .u64 0,.bool false] 81 (0,0)) (zK iI) k_ hn_))⟩)) (zS HB));replace gX:=zKb gX hb;replace iI:=zKb iI hb;replace HB:=zBs HB hb;clear hb ho0 ho1;(try simp only[aj,ah]);obtain⟨_,_,_,_,_,_,_,_⟩:=zf4 gX;obtain⟨apO,apP,apQ⟩:=Kd.dS ad8.out;subst apQ;obtain⟨Rt,Ru,ait⟩:=Kd.dS Wi.out;subst ait;obtain⟨_,_,_,_,_,_,_,_,_,_,_,_⟩:=zf6 iI)|((with_reducible refine af (f:=95) rfl ?_);refine jS (some 105) rfl rfl Tryz.func95 (by kernel_rfl) rfl #[.bool fF,.slice Rt aCU.length Ru,.int .i64 (wrap64 (-(arA))),.bool (decide (0<ajq.length))] rfl (by (try simp only[List.map_toArray,List.map_cons,List.map_nil]);first|done|(simp only[Iy];rfl)|rfl|(simp only[List.length_drop,List.length_take];rfl)) ?_;(with_reducible refine (nK.calls _ _ _ _ _ _ _ _ _ _ _ _ _ _ _ ?eu ?kw A52.out).mono ?_);(case eu=>repeat (first|exact (Kd.aX Wi.out).2.2|(with_reducible refine Kd.kJ ?_ _)|(with_reducible refine Kd.kM ?_ _)|(with_reducible refine Kd.ny ?_)));(case kw=>exact (Kd.aX Wi.out).2.1);rintro e w71 ⟨rfl,hb⟩;refine⟨_,rfl,?_⟩;replace oM:=zVb oM hb;replace qp:=zVb qp hb;replace QS:=zVb QS hb;replace Wi:=zVb Wi hb;replace ad8:=zVb ad8 hb;replace gX:=zKb gX hb;replace iI:=zKb iI hb;replace HB:=zBs HB hb;clear hb;(try simp only[aj,ah]);obtain⟨_,_,_,_,_,_,_,_,_,_,_,_⟩:=zf6 iI)|((with_reducible refine af (f:=93) rfl ?_);refine zc (some 22) Tryz.func93 _ (dL.calls _ _ _ _ _ _ _ _ _ _ _ _ _ _ A3.out) ?_;rintro e w8 ⟨rfl,hb⟩;refine⟨_,rfl,?_⟩;replace gX:=zKb gX hb;replace iI:=zKb iI hb;replace HB:=zBs HB hb;clear hb;(try simp only[aj,ah]);obtain⟨_,_,_,_,_,_,_,_,_,_,_,_⟩:=zf6 iI)|((with_reducible refine af (f:=93) rfl ?_);refine zc (some 30) Tryz.func93 _ (dL.calls _ _ _ _ _ _ _ _ _ _ _ _ _ _ A11.out) ?_;rintro e w16 ⟨rfl,hb⟩;refine⟨_,rfl,?_⟩;replace gX:=zKb gX hb;replace iI:=zKb iI hb;replace HB:=zBs HB hb;clear hb;(try simp only[aj,ah]);obtain⟨_,_,_,_,_,_,_,_,_,_,_,_⟩:=zf6 iI)))
 ·refine bodyPost_ret (dh rfl _ _ nV 81 #[.int .i64 aCw,.bool aCx,.int .i64 aCy,.int .u64 aCz,.int .u64 aCA,.bool aCB] (0,0) _ rfl (zKp iI) Tryz.underlying81 rfl (by kernel_rfl)) rfl ?_
  exact⟨z2,zB HB⟩
 ·refine bodyPost_ret (dh rfl _ _ nV 81 #[.int .i64 aCC,.bool aCD,.int .i64 aCE,.int .u64 aCF,.int .u64 aCG,.bool aCH] (0,0) _ rfl (zKp iI) Tryz.underlying81 rfl (by kernel_rfl)) rfl ?_
  exact⟨z2,zB HB⟩
 ·refine bodyPost_ret (dh rfl _ _ nV 81 #[.int .i64 aCW,.bool aCX,.int .i64 aCY,.int .u64 aCZ,.int .u64 aC0,.bool aC1] (0,0) _ rfl (zKp iI) Tryz.underlying81 rfl (by kernel_rfl)) rfl ?_
  exact⟨by first|exact z3|(simp only[← tX, ← Iy];exact z3)|exact z2,zB HB⟩
 rotate_left;rotate_left;rotate_left;rotate_left
 all_goals (refine bodyPost_ret (dh rfl _ _ nV 81 #[.int .i64 0,.bool false,.int .i64 0,.int .u64 0,.int .u64 0,.bool false] (0,0) _ rfl (zKp iI) Tryz.underlying81 rfl (by kernel_rfl)) rfl ?_)
 rotate_left;rotate_left
 ·exact⟨by first|exact z3|(simp only[← tX];exact z3)|exact z2,zB HB⟩
 ·exact⟨z2,zB HB⟩
 all_goals (exact⟨by first|exact z3|(simp only[← tX, ← Iy];exact z3)|exact z2,zB HB⟩)
def xn.f (a0:Int):Option (Int × Int × Int × Int × Int × Option Int):=(oz.f a0).bind fun arB=>(if arB=true then (if 0≤(wrap64 (a0-1)) then (some (a0,IntKind.u64.wrap ((shl .u64 1 (wrap64 (a0-1)))-1),1,shl .u64 1 (wrap64 (a0-1)),wrap64 ((wrap64 (4*a0))-8),none)) else (none)) else (some (0,0,0,0,0,some 2)))
theorem xn.calls (a0:Int)(r1:Int)(r2:Int)(r3:Int)(r4:Int)(r5:Int)(r6:Option Int)(w:World)(h:xn.f a0=some (r1,r2,r3,r4,r5,r6)) :
    Calls Tryz.prog 155 #[.int .i64 a0] w fun e w'=>e=.returned (.tuple #[.agg #[.int .i64 r1,.int .u64 r2,.int .u64 r3,.int .u64 r4,.int .i64 r5],qL r6])∧Below w.heap.size w w':=by
 have arC:=Tryz.underlying223;have zq:=Tryz.underlying27;have hu64:=Tryz.underlying64;have HB:=am (Below.refl w.heap.size w);have H:=am h;unfold xn.f at H;clear h;replace H:=zo H;obtain⟨arB,A2,H⟩:=H
 cases arB
 replace H:=zb0 H;obtain⟨rfl,rfl,rfl,rfl,rfl,rfl⟩:=zJ6 H;rotate_left;replace H:=zb1 H;generalize BX:(wrap64 (a0-1):Int)=ji4 at H
 (try rw[BX]at A2)
 have U4:(IntKind.i64.wrap (a0-1))=ji4:=(bW _).trans BX;replace H:=zit H;obtain⟨qN,xC,H⟩:=H;generalize uS:(shl .u64 1 (ji4):Int)=ji6 at H
 (try rw[uS]at A2)
 have acO:(IntKind.u64.wrap (1*2 ^ min (ji4).toNat 64))=ji6:=uS;have acP:(ji4)≤64→(IntKind.u64.wrap (1*2 ^ (ji4).toNat))=ji6:=iY uS
 have aC8:(IntKind.u64.wrap (2 ^ min (ji4).toNat 64))=ji6:=by have h_:=acO;rw[Int.one_mul]at h_;exact h_
 have aC9:(ji4)≤64→(IntKind.u64.wrap (2 ^ (ji4).toNat))=ji6:=fun ac3=>by have h_:=acP ac3;rw[Int.one_mul]at h_;exact h_
 obtain⟨rfl,rfl,rfl,rfl,rfl,rfl⟩:=zJ6 H;rotate_left
 all_goals (go_enter Tryz.func155,Tryz.ntmps155;go_wp2_with (first|((with_reducible refine aA (N:=2) rfl ?_);refine zx 2 223 #[.int .i64 0,.int .u64 0,.int .u64 0,.int .u64 0,.int .i64 0] ?_;intro ad9 hg w9 hbox hb;have QT:=am (hbox);have aDa:=zG hg HB;have aDb:=zG hg HB;replace HB:=zBs HB hb;clear hb hbox hg)|((with_reducible refine af (f:=126) rfl ?_);refine zc (some 6) Tryz.func126 _ (oz.calls _ _ _ A2.out) ?_;rintro e w' ⟨rfl,⟨nd,rfl⟩⟩;refine⟨_,rfl,?_⟩;(try (rw[gI w9];generalize hq_:World.drewN w9 _=w9;have n0_:ae (w9.heap[ad9]? = some (.cells #[.int .i64 0,.int .u64 0,.int .u64 0,.int .u64 0,.int .i64 0] 223 (0,0))):=⟨by rw[← hq_];exact (zK QT)⟩;have n1_:ae (Below w.heap.size w w9):=⟨by rw[← hq_];exact (zB HB)⟩;clear QT HB hq_;have QT:=n0_;have HB:=n1_;clear n0_ n1_));obtain⟨_,_,_,_,_,_,_,_,_,_⟩:=zf5 QT)))
 ·refine bodyPost_ret (dh rfl _ _ ad9 223 #[.int .i64 0,.int .u64 0,.int .u64 0,.int .u64 0,.int .i64 0] (0,0) _ rfl (zKp QT) Tryz.underlying223 rfl (by kernel_rfl)) rfl ?_
  exact⟨z2,zB HB⟩
 refine bodyPost_ret (dh rfl _ _ ad9 223 #[.int .i64 a0,.int .u64 (IntKind.u64.wrap ((ji6)-1)),.int .u64 1,.int .u64 ji6,.int .i64 (wrap64 ((wrap64 (4*a0))-8))] (0,0) _ rfl (zKp QT) Tryz.underlying223 rfl (by kernel_rfl)) rfl ?_;exact⟨by first|exact z3|(simp only[← BX, ← uS];exact z3)|exact z2,zB HB⟩
mutual
def bI.j0:Nat→Int→Int→Bool→Int→Int→Int→Bool→Option (Int × Int × Option Int)
  | 0,_,_,_,_,_,_,_=>none
  | k+1,x0,arD,arE,Iz,aea,aeb,aec=>(jA.f k aea aeb 1).bind fun ajr=>((cu.f ajr.1 ajr.2.1 (IntKind.u64.wrap (Go.bits .and .i64 Iz 3)) 2 aec).bind fun QU=>(if (Iz / 4)≥0 then ((cu.f QU.1 QU.2.1 0 1 QU.2.2).bind fun aed=>(bI.l0 k x0 aed.2.2 (wrap64 ((Iz / 4)+1)) 0 aed.1 aed.2.1)) else ((cu.f QU.1 QU.2.1 1 1 QU.2.2).bind fun aee=>(bI.l1 k x0 aee.2.2 (wrap64 (-(Iz / 4))) 0 aee.1 aee.2.1))))
def bI.j3:Nat→Int→Bool→Int→Int→Option (Int × Int × Option Int)
  | 0,_,_,_,_=>none
  | k+1,x0,x12,uY,yA=>if 0≤(wrap64 (65-x0)) then ((jA.f k uY yA (wrap64 (x0-1))).bind fun aef=>(if aef.2.1=0 then ((gy.f k aef.1 x12).bind fun aw8=>(some (shr .u64 uY (wrap64 (65-x0)),aw8,none))) else ((gy.f k aef.1 true).bind fun aw9=>(some (shr .u64 uY (wrap64 (65-x0)),aw9,none))))) else (none)
def bI.l0:Nat→Int→Bool→Int→Int→Int→Int→Option (Int × Int × Option Int)
  | 0,_,_,_,_,_,_=>none
  | k+1,x0,x12,x114,x115,uY,yA=>if x115<x114 then ((cu.f uY yA 1 1 x12).bind fun aeg=>(bI.l0 k x0 aeg.2.2 x114 (wrap64 (x115+1)) aeg.1 aeg.2.1)) else (bI.j3 k x0 x12 uY yA)
def bI.l1:Nat→Int→Bool→Int→Int→Int→Int→Option (Int × Int × Option Int)
  | 0,_,_,_,_,_,_=>none
  | k+1,x0,x12,axa,axb,uY,yA=>if axb<axa then ((cu.f uY yA 0 1 x12).bind fun aeh=>(bI.l1 k x0 aeh.2.2 axa (wrap64 (axb+1)) aeh.1 aeh.2.1)) else (bI.j3 k x0 x12 uY yA)
end
def bI.f (k:Nat)(a0:Int)(kG:Int)(jY:Bool)(jP:Int)(kD:Int)(oZ:Int)(oO:Bool):Option (Int × Int × Option Int):=(xn.f a0).bind fun IA=>(if IA.2.2.2.2.2.isNone=true then ((fB.f k kG jY jP kD oZ oO).bind fun arF=>(if arF=true then (if kG=0 then (some (0,0,none)) else (if kG=2 then (some (IA.2.2.2.1,0,none)) else (if jP≥IA.2.2.2.2.1 then (some (IA.2.1,0,none)) else (if jP<(wrap64 (-IA.2.2.2.2.1)) then (some (IA.2.2.1,0,none)) else (if jP=(wrap64 (-IA.2.2.2.2.1)) then (if kD=9223372036854775808 then (if oZ=0 then (if oO=true then (bI.j0 k a0 kG jY jP kD oZ oO) else (some (IA.2.2.1,0,none))) else (bI.j0 k a0 kG jY jP kD oZ oO)) else (bI.j0 k a0 kG jY jP kD oZ oO)) else (bI.j0 k a0 kG jY jP kD oZ oO)))))) else (some (0,0,some 1)))) else (some (0,0,some (IA.2.2.2.2.2.getD 0))))
theorem bI.calls (k:Nat)(a0:Int)(kG:Int)(jY:Bool)(jP:Int)(kD:Int)(oZ:Int)(oO:Bool)(r1:Int)(r2:Int)(r3:Option Int)(w:World)(h:bI.f k a0 kG jY jP kD oZ oO=some (r1,r2,r3)) :
    Calls Tryz.prog 98 #[.int .i64 a0,.agg #[.int .i64 kG,.bool jY,.int .i64 jP,.int .u64 kD,.int .u64 oZ,.bool oO]] w fun e w'=>e=.returned (.tuple #[.int .u64 r1,.int .i64 r2,qL r3])∧Below w.heap.size w w':=by
 have Vb:=Tryz.underlying81;have arC:=Tryz.underlying223;have JV:=Tryz.underlying211;have zq:=Tryz.underlying27;have hu64:=Tryz.underlying64;have HB:=am (Below.refl w.heap.size w);have H:=am h;unfold bI.f at H;clear h;replace H:=zo H;obtain⟨⟨alg,alh,ali,alj,alk,aDc⟩,A3,H⟩:=H
 try dsimp only at H
 go_enter Tryz.func98,Tryz.ntmps98
 go_upto_block 0 with (first|((with_reducible refine aA (N:=3) rfl ?_);refine zx 3 81 #[.int .i64 kG,.bool jY,.int .i64 jP,.int .u64 kD,.int .u64 oZ,.bool oO] ?_;intro Zq hg w5 hbox hb;have iU:=am (hbox);have aDd:=zG hg HB;have aDe:=zG hg HB;replace HB:=zBs HB hb;clear hb hbox hg)|((with_reducible refine af (f:=155) rfl ?_);refine zc (some 20) Tryz.func155 _ (xn.calls _ _ _ _ _ _ _ _ A3.out) ?_;rintro e w6 ⟨rfl,hb⟩;refine⟨_,rfl,?_⟩;replace iU:=zKb iU hb;replace HB:=zBs HB hb;clear hb;(try simp only[aj,ah]))|((with_reducible refine aA (N:=7) rfl ?_);refine zx 7 223 #[.int .i64 0,.int .u64 0,.int .u64 0,.int .u64 0,.int .i64 0] ?_;intro Zr hg w7 hbox hb;have lw:=am (hbox);have aDf:=zG hg HB;have aDg:=zG hg HB;replace HB:=zBs HB hb;have lZ:=zNl hg iU;have l7:=zNg hg iU;replace iU:=zKb iU hb;clear hb hbox hg;have aAA:=l7.out;have aAB:=lZ.out;obtain⟨_,_,_,_,_,_,_,_,_,_⟩:=zf5 lw))
 (try simp only[Act.put,List.setIfInBounds_toArray,List.set_cons_zero,List.set_cons_succ])
 go_cut [] (fun wc => ∃ (kq:Nat),ae (bI.j0 kq a0 kG jY jP kD oZ oO=some (r1,r2,r3))∧ae (kq≤k)∧ae (wc.heap[Zq]? = some (.cells #[.int .i64 kG,.bool jY,.int .i64 jP,.int .u64 kD,.int .u64 oZ,.bool oO] 81 (0,0)))∧ae (wc.heap[Zr]? = some (.cells #[.int .i64 alg,.int .u64 alh,.int .u64 ali,.int .u64 alj,.int .i64 alk] 223 (0,0)))∧ae (Below w.heap.size w wc))
 case first =>
  rcases aDc with _|aJd;replace H:=zb1 H
  try simp only[aj,ah]
  replace H:=zo H;obtain⟨arF,A10,H⟩:=H
  cases arF
  replace H:=zb0 H;obtain⟨rfl,rfl,rfl⟩:=zJ3 H;have aDh:=lZ.out;have aDi:=l7.out;obtain⟨_,_,_,_,_,_,_,_,_,_,_,_⟩:=zf6 iU;rotate_left;replace H:=zb1 H;replace H:=zsk H;rcases H with⟨pM,uQ,H⟩|⟨pM,uQ,c12,H⟩
  (first|rw[pM]|(simp only[bW,fV];rw[pM])|rw[uQ]|skip)
  obtain⟨rfl,rfl,rfl⟩:=zJ3 H;have am8:=lZ.out;have am9:=l7.out;obtain⟨_,_,_,_,_,_,_,_,_,_,_,_⟩:=zf6 iU;rotate_left
  (first|rw[pM]|(simp only[bW,fV];rw[pM])|rw[uQ]|skip)
  replace H:=zsk H;rcases H with⟨wF,Mc,H⟩|⟨wF,Mc,c17,H⟩;obtain⟨rfl,rfl,rfl⟩:=zJ3 H;have anc:=lZ.out;have ane:=l7.out;obtain⟨_,_,_,_,_,_,_,_,_,_,_,_⟩:=zf6 iU;rotate_left;replace H:=yD H;rcases H with⟨J3,H⟩|⟨J3,H⟩;obtain⟨rfl,rfl,rfl⟩:=zJ3 H;have ag1:=lZ.out;have ag2:=l7.out;obtain⟨_,_,_,_,_,_,_,_,_,_,_,_⟩:=zf6 iU;rotate_left;replace H:=zsd H;rcases H with⟨EU,H⟩|⟨EU,H⟩;obtain⟨rfl,rfl,rfl⟩:=zJ3 H;have ano:=lZ.out;have anp:=l7.out;obtain⟨_,_,_,_,_,_,_,_,_,_,_,_⟩:=zf6 iU;rotate_left;replace H:=zsk H;rcases H with⟨J7,aei,H⟩|⟨J7,aei,c35,H⟩;replace H:=zsk H;rcases H with⟨VZ,ajs,H⟩|⟨VZ,ajs,c36,H⟩;replace H:=zsk H;rcases H with⟨MJ,arG,H⟩|⟨MJ,arG,c37,H⟩
  cases oO
  replace H:=zb0 H;obtain⟨rfl,rfl,rfl⟩:=zJ3 H;have arH:=lZ.out;have arI:=l7.out;obtain⟨_,_,_,_,_,_,_,_,_,_,_,_⟩:=zf6 iU;rotate_left;replace H:=zb1 H;have ajt:=lZ.out;have aju:=l7.out;obtain⟨_,_,_,_,_,_,_,_,_,_,_,_⟩:=zf6 iU;rotate_left;have aDj:=lZ.out;have aDk:=l7.out;obtain⟨_,_,_,_,_,_,_,_,_,_,_,_⟩:=zf6 iU;rotate_left;have aDl:=lZ.out;have aDm:=l7.out;obtain⟨_,_,_,_,_,_,_,_,_,_,_,_⟩:=zf6 iU;rotate_left;have aDn:=lZ.out;have aDo:=l7.out;obtain⟨_,_,_,_,_,_,_,_,_,_,_,_⟩:=zf6 iU;rotate_left;replace H:=zb0 H
  try simp only[Option.getD_some]at H
  try simp only[aj,ah]
  obtain⟨rfl,rfl,rfl⟩:=zJ3 H;rotate_left
  all_goals (go_wp2_with (first|((with_reducible refine af (f:=156) rfl ?_);refine zc (some 29) Tryz.func156 _ (fB.calls _ _ _ _ _ _ _ _ _ A10.out) ?_;rintro e w66 ⟨rfl,hb⟩;refine⟨_,rfl,?_⟩;replace iU:=zKb iU hb;replace lw:=am (eG (zKp lw) hb);replace HB:=zBs HB hb;clear hb;obtain⟨_,_,_,_,_,_,_,_,_,_,_,_⟩:=zf6 iU;obtain⟨_,_,_,_,_,_,_,_,_,_⟩:=zf5 lw)))
  ·go_ret3
   exact⟨z2,zB HB⟩
  ·go_ret3
   exact⟨z2,zB HB⟩
  ·go_ret3
   exact⟨z2,zB HB⟩
  ·go_ret3
   exact⟨z2,zB HB⟩
  ·go_ret3
   exact⟨z2,zB HB⟩
  ·go_ret3
   exact⟨z2,zB HB⟩
  ·go_meet
   case rel=>exact⟨_,H,⟨z5⟩,⟨zK iU⟩,⟨zK lw⟩,⟨zB HB⟩⟩
  ·go_meet
   case rel=>exact⟨_,H,⟨z5⟩,⟨zK iU⟩,⟨zK lw⟩,⟨zB HB⟩⟩
  ·go_meet
   case rel=>exact⟨_,H,⟨z5⟩,⟨zK iU⟩,⟨zK lw⟩,⟨zB HB⟩⟩
  ·go_meet
   case rel=>exact⟨_,H,⟨z5⟩,⟨zK iU⟩,⟨zK lw⟩,⟨zB HB⟩⟩
  go_ret3
  exact⟨z2,zB HB⟩
 case rest =>
  obtain⟨kq,H,HJ3,iU,lw,HB⟩:=hcut;obtain _|kj3:=kq
  ·exact zz H rfl
  simp only[bI.j0]at H;replace H:=zo H;obtain⟨⟨arJ,arK,aDp,aDq⟩,A67,H⟩:=H
  try dsimp only at H
  replace H:=zo H;obtain⟨⟨aDr,aDs,aDt⟩,A68,H⟩:=H
  try dsimp only at H
  have aDu:=lZ.out;have aDv:=l7.out;obtain⟨_,_,_,_,_,_,_,_,_,_,_,_⟩:=zf6 iU
  go_upto_if 106 with (first|((with_reducible refine af (f:=157) rfl ?_);refine jS (some 86) rfl rfl Tryz.func157 (by kernel_rfl) rfl #[.agg #[.int .u64 kD,.int .u64 oZ],.int .i64 1] rfl (by (try simp only[List.map_toArray,List.map_cons,List.map_nil]);first|done|rfl|(simp only[List.length_drop,List.length_take];rfl)) ?_;(with_reducible refine (jA.calls kj3 kD oZ 1 arJ arK aDp aDq _ A67.out).mono ?_);rintro e w72 ⟨rfl,hb⟩;refine⟨_,rfl,?_⟩;have n0_:=zKb iU hb;have n1_:=zKb lw hb;have n2_:=zBs HB hb;clear iU;clear lw;clear HB;have iU:=n0_;have lw:=n1_;have HB:=n2_;clear n0_ n1_ n2_;(try clear hb);(try clear hb2);(try clear hk);(try clear hi);(try simp only[aj,ah]))|((with_reducible refine aA (N:=9) rfl ?_);refine zx 9 211 #[.int .u64 0,.int .u64 0] ?_;intro aej hg w73 hbox hb;have n0_:=zKb iU hb;have n1_:=zKb lw hb;have n2_:=zBs HB hb;have n3_:=am (hbox);have n4_:=zG hg HB;have n5_:=zG hg HB;have n6_:=zNl hg iU;have n7_:=zNg hg iU;have n8_:=zNl hg lw;have n9_:=zNg hg lw;clear iU;clear lw;clear HB;have iU:=n0_;have lw:=n1_;have HB:=n2_;have l9:=n3_;have aDw:=n4_;have aDx:=n5_;have sH:=n6_;have sJ:=n7_;have sK:=n8_;have sN:=n9_;clear n0_ n1_ n2_ n3_ n4_ n5_ n6_ n7_ n8_ n9_;clear hb hbox hg;have aDy:=sJ.out;have aDz:=sH.out;have aDA:=sN.out;have aDB:=sK.out;obtain⟨_,_,_,_⟩:=zf2 l9;obtain⟨_,_,_,_,_,_,_,_,_,_,_,_⟩:=zf6 iU)|((with_reducible refine af (f:=158) rfl ?_);refine jS (some 102) rfl rfl Tryz.func158 (by kernel_rfl) rfl #[.agg #[.int .u64 arJ,.int .u64 arK],.int .u64 (IntKind.u64.wrap (Go.bits .and .i64 jP 3)),.int .i64 2,.bool oO] rfl (by (try simp only[List.map_toArray,List.map_cons,List.map_nil]);first|done|rfl|(simp only[List.length_drop,List.length_take];rfl)) ?_;(with_reducible refine (cu.calls arJ arK (IntKind.u64.wrap (Go.bits .and .i64 jP 3)) 2 oO aDr aDs aDt _ A68.out).mono ?_);rintro e w78 ⟨rfl,hb⟩;refine⟨_,rfl,?_⟩;have n0_:=zKb iU hb;have n1_:=zKb lw hb;have n2_:=am (eG (zKp l9) hb);have n3_:=zBs HB hb;clear iU;clear lw;clear l9;clear HB;have iU:=n0_;have lw:=n1_;have l9:=n2_;have HB:=n3_;clear n0_ n1_ n2_ n3_;(try clear hb);(try clear hb2);(try clear hk);(try clear hi);obtain⟨_,_,_,_⟩:=zf2 l9))
  (try simp only[Act.put,List.setIfInBounds_toArray,List.set_cons_zero,List.set_cons_succ])
  go_cut [12] (fun v12 wc => ∃ (kq:Nat) (Wj:Bool) (rH:Int) (AA:Int),v12=.bool Wj∧ae (bI.j3 kq a0 Wj rH AA=some (r1,r2,r3))∧ae (kq≤kj3)∧ae (wc.heap[Zq]? = some (.cells #[.int .i64 kG,.bool jY,.int .i64 jP,.int .u64 kD,.int .u64 oZ,.bool oO] 81 (0,0)))∧ae (wc.heap[Zr]? = some (.cells #[.int .i64 alg,.int .u64 alh,.int .u64 ali,.int .u64 alj,.int .i64 alk] 223 (0,0)))∧ae (wc.heap[aej]? = some (.cells #[.int .u64 rH,.int .u64 AA] 211 (0,0)))∧ae (Below w.heap.size w wc))
  case first =>
   replace H:=yD H;rcases H with⟨Wl,H⟩|⟨Wl,H⟩
   (first|rw[Wl]|(simp only[bW,fV];rw[Wl])|rw[arL]|skip)
   replace H:=zo H;obtain⟨⟨aDC,aDD,aDE⟩,A81,H⟩:=H
   try dsimp only at H
   have aDF:=sJ.out;have aDG:=sH.out;have aDH:=sN.out;have aDI:=sK.out;obtain⟨_,_,_,_⟩:=zf2 l9;rotate_left
   (first|rw[Wl]|(simp only[bW,fV];rw[Wl])|rw[arL]|skip)
   replace H:=zo H;obtain⟨⟨aDJ,aDK,aDL⟩,A94,H⟩:=H
   try dsimp only at H
   have aDM:=sJ.out;have aDN:=sH.out;have aDO:=sN.out;have aDP:=sK.out;obtain⟨_,_,_,_⟩:=zf2 l9;rotate_left
   all_goals (go_wp2_with (first|((with_reducible refine af (f:=158) rfl ?_);refine zc (some 110) Tryz.func158 _ (cu.calls _ _ _ _ _ _ _ _ _ A81.out) ?_;rintro e w85 ⟨rfl,hb⟩;refine⟨_,rfl,?_⟩;replace iU:=zKb iU hb;replace lw:=zKb lw hb;replace l9:=am (eG (zKp l9) hb);replace HB:=zBs HB hb;clear hb;obtain⟨_,_,_,_⟩:=zf2 l9)|((with_reducible refine af (f:=158) rfl ?_);refine zc (some 127) Tryz.func158 _ (cu.calls _ _ _ _ _ _ _ _ _ A94.out) ?_;rintro e w98 ⟨rfl,hb⟩;refine⟨_,rfl,?_⟩;replace iU:=zKb iU hb;replace lw:=zKb lw hb;replace l9:=am (eG (zKp l9) hb);replace HB:=zBs HB hb;clear hb;obtain⟨_,_,_,_⟩:=zf2 l9)))
   ·go_loopg [12,115] kj3 (fun kq v12 aDQ w' => ∃ (wM:Bool) (OT:Int) (pX:Int) (pY:Int),v12=.bool wM∧aDQ=.int .i64 OT∧ae (bI.l0 kq a0 wM (wrap64 ((jP / 4)+1)) OT pX pY=some (r1,r2,r3))∧ae (kq≤kj3)∧ae (w'.heap[Zq]? = some (.cells #[.int .i64 kG,.bool jY,.int .i64 jP,.int .u64 kD,.int .u64 oZ,.bool oO] 81 (0,0)))∧ae (w'.heap[Zr]? = some (.cells #[.int .i64 alg,.int .u64 alh,.int .u64 ali,.int .u64 alj,.int .i64 alk] 223 (0,0)))∧ae (w'.heap[aej]? = some (.cells #[.int .u64 pX,.int .u64 pY] 211 (0,0)))∧ae (Below w.heap.size w w'))
    case atStart=>exact⟨(aDE),(0),(aDC),(aDD),z1,z1,H,zL,⟨zK iU⟩,⟨zK lw⟩,⟨zKp l9⟩,⟨zB HB⟩⟩
    clear H;obtain⟨wM,OT,pX,pY,rfl,rfl,H,HK2,iU,lw,l9,HB⟩:=hrel;obtain _|k2:=gk
    ·exact zz H rfl
    simp only[bI.l0]at H;replace H:=zsd H;rcases H with⟨arM,H⟩|⟨arM,H⟩;replace H:=zo H;obtain⟨⟨aDR,aDS,aDT⟩,A88,H⟩:=H
    try dsimp only at H
    have aDU:=sJ.out;have aDV:=sH.out;have aDW:=sN.out;have aDX:=sK.out;obtain⟨_,_,_,_⟩:=zf2 l9;rotate_left;rotate_left
    all_goals (go_wp2_with (first|((with_reducible refine af (f:=158) rfl ?_);refine zc (some 120) Tryz.func158 _ (cu.calls _ _ _ _ _ _ _ _ _ A88.out) ?_;rintro e w92 ⟨rfl,hb⟩;refine⟨_,rfl,?_⟩;replace iU:=zKb iU hb;replace lw:=zKb lw hb;replace l9:=zKb l9 hb;replace HB:=zBs HB hb;clear hb;obtain⟨_,_,_,_⟩:=zf2 l9)))
    ·go_roundg k2
     case measure=>have:=HJ3.out;have:=HK2.out;omega
     case rel=>exact⟨(aDT),(wrap64 (OT+1)),(aDR),(aDS),z1,z1,H,⟨by have:=HJ3.out;have:=HK2.out;omega⟩,⟨zK iU⟩,⟨zK lw⟩,⟨zKp l9⟩,⟨zB HB⟩⟩
    go_meet
    case rel=>exact⟨_,(wM),(pX),(pY),z1,H,⟨by have:=HJ3.out;have:=HK2.out;first|omega|exact Nat.le_refl _⟩,⟨zK iU⟩,⟨zK lw⟩,⟨zK l9⟩,⟨zB HB⟩⟩
   go_loopg [12,132] kj3 (fun kq v12 aDY w' => ∃ (wM:Bool) (OU:Int) (pX:Int) (pY:Int),v12=.bool wM∧aDY=.int .i64 OU∧ae (bI.l1 kq a0 wM (wrap64 (-(jP / 4))) OU pX pY=some (r1,r2,r3))∧ae (kq≤kj3)∧ae (w'.heap[Zq]? = some (.cells #[.int .i64 kG,.bool jY,.int .i64 jP,.int .u64 kD,.int .u64 oZ,.bool oO] 81 (0,0)))∧ae (w'.heap[Zr]? = some (.cells #[.int .i64 alg,.int .u64 alh,.int .u64 ali,.int .u64 alj,.int .i64 alk] 223 (0,0)))∧ae (w'.heap[aej]? = some (.cells #[.int .u64 pX,.int .u64 pY] 211 (0,0)))∧ae (Below w.heap.size w w'))
   case atStart=>exact⟨(aDL),(0),(aDJ),(aDK),z1,z1,H,zL,⟨zK iU⟩,⟨zK lw⟩,⟨zKp l9⟩,⟨zB HB⟩⟩
   clear H;obtain⟨wM,OU,pX,pY,rfl,rfl,H,HK2,iU,lw,l9,HB⟩:=hrel;obtain _|k2:=gk
   ·exact zz H rfl
   simp only[bI.l1]at H;replace H:=zsd H;rcases H with⟨ajv,H⟩|⟨ajv,H⟩;replace H:=zo H;obtain⟨⟨aDZ,aD0,aD1⟩,aD2,H⟩:=H
   try dsimp only at H
   have axc:=sJ.out;have axd:=sH.out;have axe:=sN.out;have axf:=sK.out;obtain⟨_,_,_,_⟩:=zf2 l9;rotate_left;rotate_left
   all_goals (go_wp2_with (first|((with_reducible refine af (f:=158) rfl ?_);refine zc (some 137) Tryz.func158 _ (cu.calls _ _ _ _ _ _ _ _ _ aD2.out) ?_;rintro e aJe ⟨rfl,hb⟩;refine⟨_,rfl,?_⟩;replace iU:=zKb iU hb;replace lw:=zKb lw hb;replace l9:=zKb l9 hb;replace HB:=zBs HB hb;clear hb;obtain⟨_,_,_,_⟩:=zf2 l9)))
   ·go_roundg k2
    case measure=>have:=HJ3.out;have:=HK2.out;omega
    case rel=>exact⟨(aD1),(wrap64 (OU+1)),(aDZ),(aD0),z1,z1,H,⟨by have:=HJ3.out;have:=HK2.out;omega⟩,⟨zK iU⟩,⟨zK lw⟩,⟨zKp l9⟩,⟨zB HB⟩⟩
   go_meet
   case rel=>exact⟨_,(wM),(pX),(pY),z1,H,⟨by have:=HJ3.out;have:=HK2.out;first|omega|exact Nat.le_refl _⟩,⟨zK iU⟩,⟨zK lw⟩,⟨zK l9⟩,⟨zB HB⟩⟩
  case rest =>
   obtain⟨kq,Wj,rH,AA,rfl,H,aJf,iU,lw,l9,HB⟩:=hcut;obtain _|aJg:=kq
   ·exact zz H rfl
   simp only[bI.j3]at H;generalize aaF:(wrap64 (65-a0):Int)=Wn at H;have arN:(IntKind.i64.wrap (65-a0))=Wn:=(bW _).trans aaF;replace H:=zit H;obtain⟨axg,axh,H⟩:=H;generalize Wp:(shr .u64 rH (Wn):Int)=ajw at H;have arO:(rH / 2 ^ min (Wn).toNat 64)=ajw:=Wp;have arP:(Wn)≤64→(rH / 2 ^ (Wn).toNat)=ajw:=kH Wp;replace H:=zo H;obtain⟨⟨aJh,aJi,aJj,aJk⟩,aD3,H⟩:=H
   try dsimp only at H
   replace H:=zsk H;rcases H with⟨ajx,ajy,H⟩|⟨ajx,ajy,aJl,H⟩;replace H:=zo H;obtain⟨aw8,aD4,H⟩:=H;obtain⟨rfl,rfl,rfl⟩:=zJ3 H;have axi:=sJ.out;have axj:=sH.out;have axk:=sN.out;have axl:=sK.out;obtain⟨_,_,_,_⟩:=zf2 l9;rotate_left;replace H:=zo H;obtain⟨aw9,aD5,H⟩:=H;obtain⟨rfl,rfl,rfl⟩:=zJ3 H;have axm:=sJ.out;have axn:=sH.out;have axo:=sN.out;have axp:=sK.out;obtain⟨_,_,_,_⟩:=zf2 l9;rotate_left
   all_goals (go_wp2_with (first|((with_reducible refine af (f:=157) rfl ?_);refine zc (some 150) Tryz.func157 _ (jA.calls _ _ _ _ _ _ _ _ _ aD3.out) ?_;rintro e aJm ⟨rfl,hb⟩;refine⟨_,rfl,?_⟩;replace iU:=zKb iU hb;replace lw:=zKb lw hb;replace l9:=zKb l9 hb;replace HB:=zBs HB hb;clear hb;(try simp only[aj,ah]))|((with_reducible refine aA (N:=15) rfl ?_);refine zx 15 211 #[.int .u64 0,.int .u64 0] ?_;intro aD6 hg aJn hbox hb;have arQ:=am (hbox);have aD7:=zG hg HB;have aD8:=zG hg HB;replace HB:=zBs HB hb;have Wq:=zNl hg iU;have Ws:=zNg hg iU;replace iU:=zKb iU hb;have Wu:=zNl hg lw;have Wv:=zNg hg lw;replace lw:=zKb lw hb;have Wx:=zNl hg l9;have Wy:=zNg hg l9;replace l9:=zKb l9 hb;clear hb hbox hg;have axq:=Ws.out;have axr:=Wq.out;have axs:=Wv.out;have axt:=Wu.out;have axu:=Wy.out;have axv:=Wx.out;obtain⟨_,_,_,_⟩:=zf2 arQ)|((with_reducible refine af (f:=159) rfl ?_);refine zc (some 161) Tryz.func159 _ (gy.calls _ _ _ _ _ aD4.out) ?_;rintro e w' ⟨rfl,⟨nd,rfl⟩⟩;refine⟨_,rfl,?_⟩)|((with_reducible refine af (f:=159) rfl ?_);refine zc (some 161) Tryz.func159 _ (gy.calls _ _ _ _ _ aD5.out) ?_;rintro e w' ⟨rfl,⟨nd,rfl⟩⟩;refine⟨_,rfl,?_⟩)))
   all_goals
    go_ret3
    exact⟨by first|exact z3|(simp only[← aaF, ← Wp];exact z3)|exact z2,zB HB⟩
def kP.f (k:Nat)(a0:Int)(kG:Int)(jY:Bool)(jP:Int)(kD:Int)(oZ:Int)(oO:Bool):Option (Int × Option Int):=(bI.f k a0 kG jY jP kD oZ oO).bind fun AB=>(if AB.2.2.isNone=true then (if AB.2.1=2 then (if (Go.bits .and .u64 AB.1 1)=0 then (if jY=true then ((fE.f a0 (IntKind.u64.wrap (-AB.1))).bind fun ajz=>(some (ajz.1,ajz.2))) else ((fE.f a0 AB.1).bind fun ajA=>(some (ajA.1,ajA.2)))) else (if jY=true then ((fE.f a0 (IntKind.u64.wrap (-(IntKind.u64.wrap (AB.1+1))))).bind fun ajB=>(some (ajB.1,ajB.2))) else ((fE.f a0 (IntKind.u64.wrap (AB.1+1))).bind fun ajC=>(some (ajC.1,ajC.2))))) else (if AB.2.1=3 then (if jY=true then ((fE.f a0 (IntKind.u64.wrap (-(IntKind.u64.wrap (AB.1+1))))).bind fun ajD=>(some (ajD.1,ajD.2))) else ((fE.f a0 (IntKind.u64.wrap (AB.1+1))).bind fun ajE=>(some (ajE.1,ajE.2)))) else (if jY=true then ((fE.f a0 (IntKind.u64.wrap (-AB.1))).bind fun ajF=>(some (ajF.1,ajF.2))) else ((fE.f a0 AB.1).bind fun ajG=>(some (ajG.1,ajG.2)))))) else (some (0,some (AB.2.2.getD 0))))
theorem kP.calls (k:Nat)(a0:Int)(kG:Int)(jY:Bool)(jP:Int)(kD:Int)(oZ:Int)(oO:Bool)(r1:Int)(r2:Option Int)(w:World)(h:kP.f k a0 kG jY jP kD oZ oO=some (r1,r2)) :
    Calls Tryz.prog 44 #[.int .i64 a0,.agg #[.int .i64 kG,.bool jY,.int .i64 jP,.int .u64 kD,.int .u64 oZ,.bool oO]] w fun e w'=>e=.returned (.tuple #[.int .u64 r1,qL r2])∧Below w.heap.size w w':=by
 have Vb:=Tryz.underlying81;have zq:=Tryz.underlying27;have hu64:=Tryz.underlying64;have HB:=am (Below.refl w.heap.size w);have H:=am h;unfold kP.f at H;clear h;replace H:=zo H;obtain⟨⟨aJo,aJp,aD9⟩,A3,H⟩:=H
 try dsimp only at H
 rcases aD9 with _|aJq;replace H:=zb1 H
 try simp only[aj,ah]
 replace H:=zsk H;rcases H with⟨jV,rZ,H⟩|⟨jV,rZ,c4,H⟩;replace H:=zsk H;rcases H with⟨qN,xC,H⟩|⟨qN,xC,c5,H⟩
 cases jY
 replace H:=zb0 H;replace H:=zo H;obtain⟨⟨aJr,aJs⟩,A12,H⟩:=H
 try dsimp only at H
 obtain⟨rfl,rfl⟩:=zJ2 H;rotate_left;replace H:=zb1 H;replace H:=zo H;obtain⟨⟨aJt,aJu⟩,A7,H⟩:=H
 try dsimp only at H
 obtain⟨rfl,rfl⟩:=zJ2 H;rotate_left
 cases jY
 replace H:=zb0 H;replace H:=zo H;obtain⟨⟨aJv,aJw⟩,A23,H⟩:=H
 try dsimp only at H
 obtain⟨rfl,rfl⟩:=zJ2 H;rotate_left;replace H:=zb1 H;replace H:=zo H;obtain⟨⟨aJx,aJy⟩,A18,H⟩:=H
 try dsimp only at H
 obtain⟨rfl,rfl⟩:=zJ2 H;rotate_left;replace H:=zsk H;rcases H with⟨zQ,ade,H⟩|⟨zQ,ade,c28,H⟩
 cases jY
 replace H:=zb0 H;replace H:=zo H;obtain⟨⟨aJz,aJA⟩,A35,H⟩:=H
 try dsimp only at H
 obtain⟨rfl,rfl⟩:=zJ2 H;rotate_left;replace H:=zb1 H;replace H:=zo H;obtain⟨⟨aJB,aJC⟩,A30,H⟩:=H
 try dsimp only at H
 obtain⟨rfl,rfl⟩:=zJ2 H;rotate_left
 cases jY
 replace H:=zb0 H;replace H:=zo H;obtain⟨⟨aJD,aJE⟩,A46,H⟩:=H
 try dsimp only at H
 obtain⟨rfl,rfl⟩:=zJ2 H;rotate_left;replace H:=zb1 H;replace H:=zo H;obtain⟨⟨aJF,aJG⟩,A41,H⟩:=H
 try dsimp only at H
 obtain⟨rfl,rfl⟩:=zJ2 H;rotate_left;replace H:=zb0 H
 try simp only[Option.getD_some]at H
 try simp only[aj,ah]
 obtain⟨rfl,rfl⟩:=zJ2 H;rotate_left
 all_goals (go_enter Tryz.func44,Tryz.ntmps44;go_wp2_with (first|((with_reducible refine aA (N:=3) rfl ?_);refine zx 3 81 #[.int .i64 kG,.bool false,.int .i64 jP,.int .u64 kD,.int .u64 oZ,.bool oO] ?_;intro ajH hg w13 hbox hb;have Ko:=am (hbox);have ajI:=zG hg HB;have ajJ:=zG hg HB;replace HB:=zBs HB hb;clear hb hbox hg;obtain⟨_,_,_,_,_,_,_,_,_,_,_,_⟩:=zf6 Ko)|((with_reducible refine af (f:=98) rfl ?_);refine zc (some 12) Tryz.func98 _ (bI.calls _ _ _ _ _ _ _ _ _ _ _ _ A3.out) ?_;rintro e w15 ⟨rfl,hb⟩;refine⟨_,rfl,?_⟩;replace Ko:=zKb Ko hb;replace HB:=zBs HB hb;clear hb;(try simp only[aj,ah]);obtain⟨_,_,_,_,_,_,_,_,_,_,_,_⟩:=zf6 Ko)|((with_reducible refine af (f:=76) rfl ?_);refine zc (some 35) Tryz.func76 _ (fE.calls _ _ _ _ _ A12.out) ?_;rintro e w' ⟨rfl,⟨nd,rfl⟩⟩;refine⟨_,rfl,?_⟩;(try simp only[aj,ah]))|((with_reducible refine aA (N:=3) rfl ?_);refine zx 3 81 #[.int .i64 kG,.bool true,.int .i64 jP,.int .u64 kD,.int .u64 oZ,.bool oO] ?_;intro ajH hg w8 hbox hb;have Ko:=am (hbox);have ajI:=zG hg HB;have ajJ:=zG hg HB;replace HB:=zBs HB hb;clear hb hbox hg;obtain⟨_,_,_,_,_,_,_,_,_,_,_,_⟩:=zf6 Ko)|((with_reducible refine af (f:=76) rfl ?_);refine zc (some 35) Tryz.func76 _ (fE.calls _ _ _ _ _ A7.out) ?_;rintro e w' ⟨rfl,⟨nd,rfl⟩⟩;refine⟨_,rfl,?_⟩;(try simp only[aj,ah]))|((with_reducible refine af (f:=76) rfl ?_);refine zc (some 35) Tryz.func76 _ (fE.calls _ _ _ _ _ A23.out) ?_;rintro e w' ⟨rfl,⟨nd,rfl⟩⟩;refine⟨_,rfl,?_⟩;(try simp only[aj,ah]))|((with_reducible refine af (f:=76) rfl ?_);refine zc (some 35) Tryz.func76 _ (fE.calls _ _ _ _ _ A18.out) ?_;rintro e w' ⟨rfl,⟨nd,rfl⟩⟩;refine⟨_,rfl,?_⟩;(try simp only[aj,ah]))|((with_reducible refine af (f:=76) rfl ?_);refine zc (some 35) Tryz.func76 _ (fE.calls _ _ _ _ _ A35.out) ?_;rintro e w' ⟨rfl,⟨nd,rfl⟩⟩;refine⟨_,rfl,?_⟩;(try simp only[aj,ah]))|((with_reducible refine af (f:=76) rfl ?_);refine zc (some 35) Tryz.func76 _ (fE.calls _ _ _ _ _ A30.out) ?_;rintro e w' ⟨rfl,⟨nd,rfl⟩⟩;refine⟨_,rfl,?_⟩;(try simp only[aj,ah]))|((with_reducible refine af (f:=76) rfl ?_);refine zc (some 35) Tryz.func76 _ (fE.calls _ _ _ _ _ A46.out) ?_;rintro e w' ⟨rfl,⟨nd,rfl⟩⟩;refine⟨_,rfl,?_⟩;(try simp only[aj,ah]))|((with_reducible refine af (f:=76) rfl ?_);refine zc (some 35) Tryz.func76 _ (fE.calls _ _ _ _ _ A41.out) ?_;rintro e w' ⟨rfl,⟨nd,rfl⟩⟩;refine⟨_,rfl,?_⟩;(try simp only[aj,ah]))|((with_reducible refine aA (N:=3) rfl ?_);refine zx 3 81 #[.int .i64 kG,.bool jY,.int .i64 jP,.int .u64 kD,.int .u64 oZ,.bool oO] ?_;intro ajH hg w51 hbox hb;have Ko:=am (hbox);have ajI:=zG hg HB;have ajJ:=zG hg HB;replace HB:=zBs HB hb;clear hb hbox hg;obtain⟨_,_,_,_,_,_,_,_,_,_,_,_⟩:=zf6 Ko)))
 ·go_ret2
  exact⟨z2,zB HB⟩
 ·go_ret2
  exact⟨z2,zB HB⟩
 ·go_ret2
  exact⟨z2,zB HB⟩
 ·go_ret2
  exact⟨z2,zB HB⟩
 ·go_ret2
  exact⟨z2,zB HB⟩
 ·go_ret2
  exact⟨z2,zB HB⟩
 ·go_ret2
  exact⟨z2,zB HB⟩
 ·go_ret2
  exact⟨z2,zB HB⟩
 go_ret2
 exact⟨z2,zB HB⟩
def ng.f (k:Nat)(a0:Int)(kG:Bool)(jY:Bool)(jP:ByteArray)(kD:Int):Option (Int × Option Int):=(dI.f k a0 0).bind fun ajK=>(if ajK.2.2.2.2.isNone=true then ((lh.f kG jY jP kD).bind fun wO=>(if wO.2.2.2.2.isNone=true then (if wO.1=true then (if 0≤(wrap64 (a0-1)) then (some (shl .u64 1 (wrap64 (a0-1)),none)) else (none)) else (if wO.2.2.1.toList=([48]:List UInt8) then (some (0,none)) else ((gW.f k wO.1 wO.2.1 wO.2.2.1 wO.2.2.2.1).bind fun wP=>(if wP.2.2.2.2.2.2.isNone=true then ((kP.f k a0 wP.1 wP.2.1 wP.2.2.1 wP.2.2.2.1 wP.2.2.2.2.1 wP.2.2.2.2.2.1).bind fun WA=>(some (WA.1,WA.2))) else (some (0,some (wP.2.2.2.2.2.2.getD 0))))))) else (some (0,some (wO.2.2.2.2.getD 0))))) else (some (0,some (ajK.2.2.2.2.getD 0))))
theorem ng.calls (k:Nat)(a0:Int)(kG:Bool)(jY:Bool)(jP:ByteArray)(kD:Int)(r1:Int)(r2:Option Int)(w:World)(h:ng.f k a0 kG jY jP kD=some (r1,r2)) :
    Calls Tryz.prog 13 #[.int .i64 a0,.agg #[.bool kG,.bool jY,.string jP,.int .i64 kD]] w fun e w'=>e=.returned (.tuple #[.int .u64 r1,qL r2])∧Below w.heap.size w w':=by
 have Rf:=Tryz.underlying23;have anO:=Tryz.underlying77;have Vb:=Tryz.underlying81;have zq:=Tryz.underlying27;have hu64:=Tryz.underlying64;have HB:=am (Below.refl w.heap.size w);have H:=am h;unfold ng.f at H;clear h;replace H:=zo H;obtain⟨⟨aJH,aJI,aJJ,aJK,aEa⟩,A3,H⟩:=H
 try dsimp only at H
 rcases aEa with _|aJL;replace H:=zb1 H
 try simp only[aj,ah]
 replace H:=zo H;obtain⟨⟨aEb,aJM,aJN,aJO,aEc⟩,A4,H⟩:=H
 try dsimp only at H
 rcases aEc with _|aJP;replace H:=zb1 H
 try simp only[aj,ah]
 cases aEb
 replace H:=zb0 H;replace H:=zsk H;rcases H with⟨wF,Mc,H⟩|⟨wF,Mc,c17,H⟩;obtain⟨rfl,rfl⟩:=zJ2 H;rotate_left;replace H:=zo H;obtain⟨⟨aJQ,aJR,aJS,aJT,aJU,aJV,aEd⟩,A26,H⟩:=H
 try dsimp only at H
 rcases aEd with _|aJW;replace H:=zb1 H
 try simp only[aj,ah]
 replace H:=zo H;obtain⟨⟨aJX,aJY⟩,A27,H⟩:=H
 try dsimp only at H
 obtain⟨rfl,rfl⟩:=zJ2 H;rotate_left;replace H:=zb0 H
 try simp only[Option.getD_some]at H
 try simp only[aj,ah]
 obtain⟨rfl,rfl⟩:=zJ2 H;rotate_left;replace H:=zb1 H;generalize uS:(wrap64 (a0-1):Int)=ji6 at H
 (try rw[uS]at A3)
 (try rw[uS]at A4)
 have Vk:(IntKind.i64.wrap (a0-1))=ji6:=(bW _).trans uS;replace H:=zit H;obtain⟨yE,DJ,H⟩:=H;generalize ui:(shl .u64 1 (ji6):Int)=ji8 at H
 (try rw[ui]at A3)
 (try rw[ui]at A4)
 have Qv:(IntKind.u64.wrap (1*2 ^ min (ji6).toNat 64))=ji8:=ui;have YQ:(ji6)≤64→(IntKind.u64.wrap (1*2 ^ (ji6).toNat))=ji8:=iY ui
 have aEe:(IntKind.u64.wrap (2 ^ min (ji6).toNat 64))=ji8:=by have h_:=Qv;rw[Int.one_mul]at h_;exact h_
 have aEf:(ji6)≤64→(IntKind.u64.wrap (2 ^ (ji6).toNat))=ji8:=fun ac3=>by have h_:=YQ ac3;rw[Int.one_mul]at h_;exact h_
 obtain⟨rfl,rfl⟩:=zJ2 H;rotate_left;replace H:=zb0 H
 try simp only[Option.getD_some]at H
 try simp only[aj,ah]
 obtain⟨rfl,rfl⟩:=zJ2 H;rotate_left;replace H:=zb0 H
 try simp only[Option.getD_some]at H
 try simp only[aj,ah]
 obtain⟨rfl,rfl⟩:=zJ2 H;rotate_left
 all_goals (go_enter Tryz.func13,Tryz.ntmps13;go_wp2_with (first|((with_reducible refine aA (N:=3) rfl ?_);refine zx 3 23 #[.bool kG,.bool jY,.string jP,.int .i64 kD] ?_;intro aEg hg w28 hbox hb;have vH:=am (hbox);have aEh:=zG hg HB;have aEi:=zG hg HB;replace HB:=zBs HB hb;clear hb hbox hg)|((with_reducible refine af (f:=42) rfl ?_);refine zc (some 12) Tryz.func42 _ (dI.calls _ _ _ _ _ _ _ _ _ A3.out) ?_;rintro e w29 ⟨rfl,hb⟩;refine⟨_,rfl,?_⟩;replace vH:=zKb vH hb;replace HB:=zBs HB hb;clear hb;(try simp only[aj,ah]))|((with_reducible refine aA (N:=6) rfl ?_);refine zx 6 77 #[.int .i64 0,.bool false,.int .i64 0,.int .u64 0] ?_;intro aEj hg w30 hbox hb;have Ej:=am (hbox);have aEk:=zG hg HB;have aEl:=zG hg HB;replace HB:=zBs HB hb;have WB:=zNl hg vH;have WC:=zNg hg vH;replace vH:=zKb vH hb;clear hb hbox hg;have anq:=WC.out;have anr:=WB.out;obtain⟨_,_,_,_,_,_,_,_⟩:=zf4 Ej;obtain⟨_,_,_,_,_,_,_,_⟩:=zf4 vH)|((with_reducible refine af (f:=26) rfl ?_);refine zc (some 20) Tryz.func26 _ (lh.calls _ _ _ _ _ _ _ _ _ _ A4.out) ?_;rintro e w34 ⟨rfl,hb⟩;refine⟨_,rfl,?_⟩;replace vH:=zKb vH hb;replace Ej:=am (eG (zKp Ej) hb);replace HB:=zBs HB hb;clear hb;(try simp only[aj,ah]);obtain⟨_,_,_,_,_,_,_,_⟩:=zf4 vH)|((with_reducible refine af (f:=43) rfl ?_);refine zc (some 39) Tryz.func43 _ (gW.calls _ _ _ _ _ _ _ _ _ _ _ _ _ A26.out) ?_;rintro e w36 ⟨rfl,hb⟩;refine⟨_,rfl,?_⟩;replace vH:=am (eG (zKp vH) hb);replace Ej:=zKb Ej hb;replace HB:=zBs HB hb;clear hb;(try simp only[aj,ah]))|((with_reducible refine aA (N:=9) rfl ?_);refine zx 9 81 #[.int .i64 0,.bool false,.int .i64 0,.int .u64 0,.int .u64 0,.bool false] ?_;intro aEm hg w37 hbox hb;have aek:=am (hbox);have aEn:=zG hg HB;have aEo:=zG hg HB;replace HB:=zBs HB hb;have WE:=zNl hg vH;have WF:=zNg hg vH;replace vH:=zKb vH hb;have WG:=zNl hg Ej;have WH:=zNg hg Ej;replace Ej:=zKb Ej hb;clear hb hbox hg;have aEp:=WF.out;have aEq:=WE.out;have ajt:=WH.out;have aju:=WG.out;obtain⟨_,_,_,_,_,_,_,_,_,_,_,_⟩:=zf6 aek)|((with_reducible refine af (f:=44) rfl ?_);refine zc (some 47) Tryz.func44 _ (kP.calls _ _ _ _ _ _ _ _ _ _ _ A27.out) ?_;rintro e w41 ⟨rfl,hb⟩;refine⟨_,rfl,?_⟩;replace vH:=zKb vH hb;replace Ej:=zKb Ej hb;replace aek:=am (eG (zKp aek) hb);replace HB:=zBs HB hb;clear hb;(try simp only[aj,ah]))))
 ·go_ret2
  exact⟨z2,zB HB⟩
 ·go_ret2
  exact⟨z2,zB HB⟩
 ·go_ret2
  exact⟨z2,zB HB⟩
 ·go_ret2
  exact⟨by first|exact z3|(simp only[← uS, ← ui];exact z3)|exact z2,zB HB⟩
 ·go_ret2
  exact⟨z2,zB HB⟩
 go_ret2
 exact⟨z2,zB HB⟩
end Go.Proofs.Yy.PTx
end
