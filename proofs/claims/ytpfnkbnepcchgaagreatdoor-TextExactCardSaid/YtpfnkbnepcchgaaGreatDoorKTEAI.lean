/- Part 9 of what the proof needs. -/
import Derived.Laws.Bits64
import Derived.Laws.Bits64b
import Derived.Test.YtpfnkbnepcchgaaGreatDoorKTEAH
set_option linter.unusedSimpArgs false
set_option linter.unusedVariables false
section
set_option maxHeartbeats 8000000
set_option maxRecDepth 100000
namespace Go.Proofs.Yy.PTx
open Go.RowKit Go.Proofs.Yy.Z Go.Proofs.Yw.PrintWords Go.Proofs.Yw.PrintLast Go.Proofs.Yw.PrintMore
open Go.Proofs.Yy.M
attribute [local go_sem] dw dQ lD lF lC lG
attribute [local go_sem] gy gz ja jc fC fD gQ gK
attribute [local go_sem high] Zy
def lY.f (dW:Int) (dK:Int) (a1:Int):Option (Int × Int × Bool × Option Int):=if a1<0 then (some (0,0,false,some 1)) else ((lZ.f dW dK (mn a1 128)).bind fun YB=>((jX.f YB.1 YB.2 (mn a1 128)).bind fun agD=>(some (YB.1,YB.2,(!(agD.1 == dW) || (!(agD.2 == dK))),none))))
def lY.T5:Bool × List (List Nat × List Nat):=(true, [([], []),([], []),([], []),([1,2], [1,2]),([], []),([3,4], [3,4]),([0,3,0], [0]),([5,6,0,1,2,3,4,5,6], [5]),([7,0,1,2,3,4,5,6,7], [])])
def lY.B5:List Nat := [0,0,0,6,0,30,15,127,255]
theorem lY.ae1:rW .any (opsOf Tryz.f195 5)=lY.T5:=by kernel_rfl
theorem lY.Rl:jB lY.T5.2 lY.B5=true:=by kernel_rfl
theorem lY.calls (dW:Int) (dK:Int) (a1:Int) (r1:Int) (r2:Int) (r3:Bool) (r4:Option Int) (w:World) (h:lY.f dW dK a1=some (r1,r2,r3,r4)) :
    Calls Tryz.prog 195 #[.agg #[.int .u64 dW, .int .u64 dK], .int .i64 a1] w fun e w'=>e = .returned (.tuple #[.agg #[.int .u64 r1, .int .u64 r2], .bool r3,qm r4])∧Below w.heap.size w w':=by
 have Jz:=Tryz.underlying211
 have yL:=Tryz.underlying27
 have hu64:=Tryz.underlying64
 have HB:=am (Below.refl w.heap.size w)
 have H:=am h
 unfold lY.f at H
 clear h
 replace H:=zsd H
 rcases H with ⟨pg,H⟩|⟨pg,H⟩
 ·obtain ⟨rfl,rfl,rfl,rfl⟩:=zJ4 H
  go_enter Tryz.func195,Tryz.ntmps195
  go_wp2_with (first|((with_reducible refine ay (N:=2) rfl ?_);refine zx 2 211 #[.int .u64 dW, .int .u64 dK] ?_;intro YC hg w4 hbox hb;have o8:=am (hbox);have am5:=zG hg HB;have am6:=zG hg HB;replace HB:=zBs HB hb;clear hb hbox hg)|((with_reducible refine ay (N:=4) rfl ?_);refine zx 4 211 #[.int .u64 0, .int .u64 0] ?_;intro YD hg w5 hbox hb;have rO:=am (hbox);have am7:=zG hg HB;have am8:=zG hg HB;replace HB:=zBs HB hb;have vZ:=zNl hg o8;have wo:=zNg hg o8;replace o8:=zKb o8 hb;clear hb hbox hg;have aya:=wo.out;have ayb:=vZ.out;obtain ⟨_,_,_,_⟩:=zf2 rO))
  refine bodyPost_ret (ui rfl _ _ YD 211 #[.int .u64 0, .int .u64 0] (0,0) _ rfl (zKp rO) Tryz.underlying211 rfl (by kernel_rfl)) rfl ?_
  exact ⟨z2,zB HB⟩
 generalize sV:(mn a1 128:Int)=ji8 at H
 have Qv:(if 128<a1 then 128 else a1)=ji8:=sV
 replace H:=zo H
 obtain ⟨⟨WT,WU⟩,A9,H⟩:=H
 try dsimp only at H
 replace H:=zo H
 obtain ⟨⟨aye,ayf⟩,A10,H⟩:=H
 try dsimp only at H
 obtain ⟨rfl,rfl,rfl,rfl⟩:=zJ4 H
 go_enter Tryz.func195,Tryz.ntmps195
 try go_wp2_with (first|((with_reducible refine ay (N:=2) rfl ?_);refine zx 2 211 #[.int .u64 dW, .int .u64 dK] ?_;intro YC hg w11 hbox hb;have o8:=am (hbox);have am5:=zG hg HB;have am6:=zG hg HB;replace HB:=zBs HB hb;clear hb hbox hg)|((with_reducible refine ay (N:=4) rfl ?_);refine zx 4 211 #[.int .u64 0, .int .u64 0] ?_;intro YD hg w12 hbox hb;have rO:=am (hbox);have am7:=zG hg HB;have am8:=zG hg HB;replace HB:=zBs HB hb;have vZ:=zNl hg o8;have wo:=zNg hg o8;replace o8:=zKb o8 hb;clear hb hbox hg;have am9:=vZ.out;have ana:=wo.out;obtain ⟨_,_,_,_⟩:=zf2 o8)|((with_reducible refine af (f:=216) rfl ?_);refine lg (some 16) rfl rfl Tryz.func216 (by kernel_rfl) rfl #[.agg #[.int .u64 dW, .int .u64 dK], .int .i64 ji8] rfl (by (try simp only [List.map_toArray,List.map_cons,List.map_nil]);first|done|(simp only [sV];rfl)|rfl|(simp only [List.length_drop,List.length_take];rfl)) ?_;(with_reducible refine (lZ.calls _ _ _ _ _ _ A9.out).mono ?_);rintro e w15 ⟨rfl,hb⟩;refine ⟨_,rfl,?_⟩;replace o8:=zKb o8 hb;replace rO:=zKb rO hb;replace HB:=zBs HB hb;clear hb)|((with_reducible refine ay (N:=7) rfl ?_);refine zx 7 211 #[.int .u64 0, .int .u64 0] ?_;intro Ag hg w16 hbox hb;have Ah:=am (hbox);have ayg:=zG hg HB;have ayh:=zG hg HB;replace HB:=zBs HB hb;have U9:=zNl hg o8;have Va:=zNg hg o8;replace o8:=zKb o8 hb;have Du:=zNl hg rO;have Dv:=zNg hg rO;replace rO:=zKb rO hb;clear hb hbox hg;have aln:=Va.out;have alo:=U9.out;have agE:=Dv.out;have agF:=Du.out;obtain ⟨_,_,_,_⟩:=zf2 Ah))
 have n0_:ae (((w16.setCell ⟨Ag,0,none⟩ (.int .u64 WT)).setCell ⟨Ag,1,none⟩ (.int .u64 WU)).heap[YC]? = some (.cells #[.int .u64 dW, .int .u64 dK] 211 (0,0))):=⟨zK o8⟩
 have n1_:ae (((w16.setCell ⟨Ag,0,none⟩ (.int .u64 WT)).setCell ⟨Ag,1,none⟩ (.int .u64 WU)).heap[YD]? = some (.cells #[.int .u64 0, .int .u64 0] 211 (0,0))):=⟨zK rO⟩
 have n2_:ae (((w16.setCell ⟨Ag,0,none⟩ (.int .u64 WT)).setCell ⟨Ag,1,none⟩ (.int .u64 WU)).heap[Ag]? = some (.cells #[.int .u64 WT, .int .u64 WU] 211 (0,0))):=⟨zKp Ah⟩
 have n3_:ae (Below w.heap.size w ((w16.setCell ⟨Ag,0,none⟩ (.int .u64 WT)).setCell ⟨Ag,1,none⟩ (.int .u64 WU))):=⟨zB HB⟩
 (try clear o8)
 (try clear rO)
 (try clear Ah)
 (try clear HB)
 generalize ((w16.setCell ⟨Ag,0,none⟩ (.int .u64 WT)).setCell ⟨Ag,1,none⟩ (.int .u64 WU))=w20 at n0_ n1_ n2_ n3_ ⊢
 have o8:=n0_
 have rO:=n1_
 have Ah:=n2_
 have HB:=n3_
 clear n0_ n1_ n2_ n3_
 replace o8:=am (dS o8.out)
 replace rO:=am (dS rO.out)
 replace Ah:=am (dS Ah.out)
 replace HB:=am (aZ HB.out)
 refine ny (n:=9) (S:=fun w'=>w'.cell? ⟨Ag,0,none⟩=some (.int .u64 WT)∧w'.cell? ⟨Ag,1,none⟩=some (.int .u64 WU)∧w'.cell? ⟨YC,0,none⟩=some (.int .u64 dW)∧w'.cell? ⟨YC,1,none⟩=some (.int .u64 dK)) (ds := []) (Array.replicate 9 false) (by kernel_rfl) rfl rfl ⟨(ag Ah.out 0).trans rfl,(ag Ah.out 1).trans rfl,(ag o8.out 0).trans rfl,(ag o8.out 1).trans rfl⟩ (fun hHeld=>?_);refine iw lY.ae1 lY.Rl (fun HT_ HW_=>?_)
 generalize w20.drew=w21 at o8 rO Ah HB hHeld ⊢
 refine zp HT_ 2 (some 19) ?_
 refine zt HT_ HW_ 0 (some 17) hHeld ?_
 refine zt HT_ HW_ 1 (some 18) hHeld ?_
 refine zt HT_ HW_ 4 (some 21) hHeld ?_
 refine zu HT_ 3 (some 20) (fun K hK=>?_)
 refine oK Tryz.func187 (by kernel_rfl) rfl #[.agg #[.int .u64 WT, .int .u64 WU], .int .i64 ji8] (by rfl) rfl rfl (by (try simp only [List.map_toArray,List.map_cons,List.map_nil]);first|done|(simp only [sV];rfl)|rfl|(simp only [List.length_drop,List.length_take];rfl)) ?_
 with_reducible refine (jX.calls WT WU ji8 aye ayf _ A10.out).mono ?_
 rintro e w22 ⟨rfl,hb⟩
 refine ⟨_,rfl,?_⟩
 replace o8:=zKb o8 hb
 replace rO:=zKb rO hb
 replace Ah:=zKb Ah hb
 replace HB:=zBs HB hb
 (try clear hb)
 (try clear hb2)
 (try clear hk)
 (try clear hi)
 refine hK.out _ _ ⟨(ag Ah.out 0).trans rfl,(ag Ah.out 1).trans rfl,(ag o8.out 0).trans rfl,(ag o8.out 1).trans rfl⟩ (fun hHeld=>?_)
 clear hK K
 refine kK (a':=?_) ?_ ?_
 rotate_left
 ·show Act.put _ (some 20) _=_
  simp only [Act.put,List.setIfInBounds_toArray,List.set_cons_zero,List.set_cons_succ,bI,dV]
  rfl
 refine zp HT_ 5 (some 22) ?_
 refine zu HT_ 6 none (fun K hK=>?_)
 have asY:=zl rO 0
 have ags:=au rO.out 0
 have U2:=vZ.out
 have anb:=Dv.out
 have U3:=wo.out
 have anc:=Du.out
 have aF3:=zl rO 1
 have ayi:=au rO.out 1
 have ane:=vZ.out
 have anf:=Dv.out
 have ang:=wo.out
 have anh:=Du.out
 refine vK (w1:=?_) (by rfl) rfl ?_ ?_
 rotate_left
 ·go_simp
  rfl
 refine hK.out _ _ ⟨(zh hHeld),(zh hHeld),(zh hHeld),(zh hHeld)⟩ (fun hHeld=>?_)
 clear hK K
 refine zp HT_ 7 (some 5) ?_
 refine zp HT_ 8 (some 6) ?_
 refine o6 (jd HT_.out (by kernel_rfl)) ?_
 try go_wp2
 refine bodyPost_ret (ui rfl _ _ YD 211 #[.int .u64 WT, .int .u64 WU] (0,0) _ rfl (zKp rO) Tryz.underlying211 rfl (by kernel_rfl)) rfl ?_
 exact ⟨by first|exact z3|(simp only [← sV];exact z3)|exact z2,zB HB⟩
def dR.f (dW:Int) (dK:Int) (a1:Int) (a2:Int) (a3:Bool):Option (Int × Int × Bool):=(lY.f dW dK a2).bind fun Vb=>(if 0≤(wrap64 (64 - a2)) then (if a3=true then (some (Go.bits .or .u64 Vb.1 (shl .u64 a1 (wrap64 (64 - a2))),Vb.2.1,true)) else (some (Go.bits .or .u64 Vb.1 (shl .u64 a1 (wrap64 (64 - a2))),Vb.2.1,Vb.2.2.1))) else (none))
def dR.T2:Bool × List (List Nat × List Nat):=(true, [([], []),([0], [0]),([], []),([], []),([3], [3]),([2,4], [2,4]),([1,5], [1,5]),([0,1,2,3,4,5,6], []),([7,6,0,1,2,3,4,5,6], [6,7])])
def dR.B2:List Nat := [0,1,0,0,8,28,63,127,255]
theorem dR.asn:rW .any (opsOf Tryz.f158 2)=dR.T2:=by kernel_rfl
theorem dR.aeS:jB dR.T2.2 dR.B2=true:=by kernel_rfl
theorem dR.calls (dW:Int) (dK:Int) (a1:Int) (a2:Int) (a3:Bool) (r1:Int) (r2:Int) (r3:Bool) (w:World) (h:dR.f dW dK a1 a2 a3=some (r1,r2,r3)) :
    Calls Tryz.prog 158 #[.agg #[.int .u64 dW, .int .u64 dK], .int .u64 a1, .int .i64 a2, .bool a3] w fun e w'=>e = .returned (.tuple #[.agg #[.int .u64 r1, .int .u64 r2], .bool r3])∧Below w.heap.size w w':=by
 have Jz:=Tryz.underlying211
 have HB:=am (Below.refl w.heap.size w)
 have H:=am h
 unfold dR.f at H
 clear h
 replace H:=zo H
 obtain ⟨⟨Vd,Ve,aF4,aF5⟩,A5,H⟩:=H
 try dsimp only at H
 generalize uI:(wrap64 (64 - a2):Int)=ji6 at H
 (try rw [uI] at A5)
 have UN:(IntKind.i64.wrap (64 - a2))=ji6:=(bI _).trans uI
 replace H:=zit H
 obtain ⟨wQ,Bh,H⟩:=H
 generalize sV:(shl .u64 a1 (ji6):Int)=ji8 at H
 (try rw [sV] at A5)
 have Qv:(IntKind.u64.wrap (a1 * 2 ^ min (ji6).toNat 64))=ji8:=sV
 have YE:(ji6)≤64→(IntKind.u64.wrap (a1 * 2 ^ (ji6).toNat))=ji8:=iR sV
 cases a3
 replace H:=zb0 H
 obtain ⟨rfl,rfl,rfl⟩:=zJ3 H
 rotate_left
 replace H:=zb1 H
 obtain ⟨rfl,rfl,rfl⟩:=zJ3 H
 rotate_left
 all_goals (go_enter Tryz.func158,Tryz.ntmps158;try go_wp2_with (first|((with_reducible refine ay (N:=4) rfl ?_);refine zx 4 211 #[.int .u64 dW, .int .u64 dK] ?_;intro ani hg w24 hbox hb;have sQ:=am (hbox);have ayj:=zG hg HB;have ayk:=zG hg HB;replace HB:=zBs HB hb;clear hb hbox hg)|((with_reducible refine ay (N:=8) rfl ?_);refine zx 8 211 #[.int .u64 0, .int .u64 0] ?_;intro acw hg w25 hbox hb;have tX:=am (hbox);have ayl:=zG hg HB;have aym:=zG hg HB;replace HB:=zBs HB hb;have Vf:=zNl hg sQ;have Vg:=zNg hg sQ;replace sQ:=zKb sQ hb;clear hb hbox hg;have agG:=Vf.out;have agH:=Vg.out;obtain ⟨_,_,_,_⟩:=zf2 sQ)|((with_reducible refine af (f:=195) rfl ?_);refine zc (some 16) Tryz.func195 _ (lY.calls _ _ _ _ _ _ _ _ A5.out) ?_;rintro e w28 ⟨rfl,hb⟩;refine ⟨_,rfl,?_⟩;replace sQ:=zKb sQ hb;replace tX:=zKb tX hb;replace HB:=zBs HB hb;clear hb;(try simp only [ak,aj]))|((with_reducible refine ay (N:=10) rfl ?_);refine zx 10 211 #[.int .u64 0, .int .u64 0] ?_;intro wu hg w29 hbox hb;have sS:=am (hbox);have ayn:=zG hg HB;have ayo:=zG hg HB;replace HB:=zBs HB hb;have Dw:=zNl hg sQ;have Dx:=zNg hg sQ;replace sQ:=zKb sQ hb;have Dy:=zNl hg tX;have Dz:=zNg hg tX;replace tX:=zKb tX hb;clear hb hbox hg;have anj:=Dx.out;have ank:=Dw.out;have anl:=Dz.out;have anm:=Dy.out;obtain ⟨_,_,_,_⟩:=zf2 sS)))
 all_goals
  have n0_:ae (((w29.setCell ⟨wu,0,none⟩ (.int .u64 Vd)).setCell ⟨wu,1,none⟩ (.int .u64 Ve)).heap[ani]? = some (.cells #[.int .u64 dW, .int .u64 dK] 211 (0,0))):=⟨zK sQ⟩
  have n1_:ae (((w29.setCell ⟨wu,0,none⟩ (.int .u64 Vd)).setCell ⟨wu,1,none⟩ (.int .u64 Ve)).heap[acw]? = some (.cells #[.int .u64 0, .int .u64 0] 211 (0,0))):=⟨zK tX⟩
  have n2_:ae (((w29.setCell ⟨wu,0,none⟩ (.int .u64 Vd)).setCell ⟨wu,1,none⟩ (.int .u64 Ve)).heap[wu]? = some (.cells #[.int .u64 Vd, .int .u64 Ve] 211 (0,0))):=⟨zKp sS⟩
  have n3_:ae (Below w.heap.size w ((w29.setCell ⟨wu,0,none⟩ (.int .u64 Vd)).setCell ⟨wu,1,none⟩ (.int .u64 Ve))):=⟨zB HB⟩
  (try clear sQ)
  (try clear tX)
  (try clear sS)
  (try clear HB)
 ·generalize ((w29.setCell ⟨wu,0,none⟩ (.int .u64 Vd)).setCell ⟨wu,1,none⟩ (.int .u64 Ve))=w33 at n0_ n1_ n2_ n3_ ⊢
  have sQ:=n0_
  have tX:=n1_
  have sS:=n2_
  have HB:=n3_
  clear n0_ n1_ n2_ n3_
  replace sQ:=am (dS sQ.out)
  replace tX:=am (dS tX.out)
  replace sS:=am (dS sS.out)
  replace HB:=am (aZ HB.out)
  refine ny (n:=9) (S:=fun w'=>w'.cell? ⟨wu,0,none⟩=some (.int .u64 Vd)∧w'.cell? ⟨wu,1,none⟩=some (.int .u64 Ve)) (ds := [8]) (Array.replicate 9 false) (by kernel_rfl) rfl rfl ⟨(ag sS.out 0).trans rfl,(ag sS.out 1).trans rfl⟩ (fun hHeld=>?_);refine iw dR.asn dR.aeS (fun HT_ HW_=>?_)
  generalize w33.drew=w34 at sQ tX sS HB hHeld ⊢
  refine zp HT_ 0 (some 20) ?_
  refine zp HT_ 2 (some 22) ?_
  refine zp HT_ 3 (some 23) ?_
  refine zp HT_ 4 (some 24) ?_
  refine zp HT_ 5 (some 25) ?_
  refine zt HT_ HW_ 1 (some 21) hHeld ?_
  refine zp HT_ 6 (some 26) ?_
  refine zp HT_ 7 (some 27) ?_
  refine KE (i:=8) (N:=none) #[true,true,true,true,true,true,true,true,true] rfl rfl (Aq HT_.out (by kernel_rfl)) (by decide) (fun K hK=>?_)
  have aF6:=zl sS 0
  have ayp:=au sS.out 0
  have ann:=Dw.out
  have ano:=Dy.out
  have anp:=Dx.out
  have anq:=Dz.out
  refine vK (w1:=?_) (by rfl) rfl ?_ ?_
  rotate_left
  ·go_simp
   rfl
  refine hK.out _ _ ?_
  clear hK K
  refine o6 (jd HT_.out (by kernel_rfl)) ?_
  obtain ⟨_,_,_,_⟩:=zf2 sS
  obtain ⟨_,_,_,_⟩:=zf2 tX
  try go_wp2
  refine bodyPost_ret (bJ rfl _ _ acw 211 #[.int .u64 (Go.bits .or .u64 Vd (ji8)), .int .u64 Ve] (0,0) _ rfl (zKp tX) Tryz.underlying211 rfl (by kernel_rfl)) rfl ?_
  exact ⟨by first|exact z3|(simp only [← uI, ← sV];exact z3)|exact z2,zB HB⟩
 generalize ((w29.setCell ⟨wu,0,none⟩ (.int .u64 Vd)).setCell ⟨wu,1,none⟩ (.int .u64 Ve))=w19 at n0_ n1_ n2_ n3_ ⊢
 have sQ:=n0_
 have tX:=n1_
 have sS:=n2_
 have HB:=n3_
 clear n0_ n1_ n2_ n3_
 replace sQ:=am (dS sQ.out)
 replace tX:=am (dS tX.out)
 replace sS:=am (dS sS.out)
 replace HB:=am (aZ HB.out)
 refine ny (n:=9) (S:=fun w'=>w'.cell? ⟨wu,0,none⟩=some (.int .u64 Vd)∧w'.cell? ⟨wu,1,none⟩=some (.int .u64 Ve)) (ds := [8]) (Array.replicate 9 false) (by kernel_rfl) rfl rfl ⟨(ag sS.out 0).trans rfl,(ag sS.out 1).trans rfl⟩ (fun hHeld=>?_);refine iw dR.asn dR.aeS (fun HT_ HW_=>?_)
 generalize w19.drew=w20 at sQ tX sS HB hHeld ⊢
 refine zp HT_ 0 (some 20) ?_
 refine zp HT_ 2 (some 22) ?_
 refine zp HT_ 3 (some 23) ?_
 refine zp HT_ 4 (some 24) ?_
 refine zp HT_ 5 (some 25) ?_
 refine zt HT_ HW_ 1 (some 21) hHeld ?_
 refine zp HT_ 6 (some 26) ?_
 refine zp HT_ 7 (some 27) ?_
 refine KE (i:=8) (N:=none) #[true,true,true,true,true,true,true,true,true] rfl rfl (Aq HT_.out (by kernel_rfl)) (by decide) (fun K hK=>?_)
 have aF7:=zl sS 0
 have ayq:=au sS.out 0
 have anr:=Dw.out
 have ant:=Dy.out
 have anu:=Dx.out
 have anv:=Dz.out
 refine vK (w1:=?_) (by rfl) rfl ?_ ?_
 rotate_left
 ·go_simp
  rfl
 refine hK.out _ _ ?_
 clear hK K
 refine o6 (jd HT_.out (by kernel_rfl)) ?_
 obtain ⟨_,_,_,_⟩:=zf2 sS
 obtain ⟨_,_,_,_⟩:=zf2 tX
 try go_wp2
 refine bodyPost_ret (bJ rfl _ _ acw 211 #[.int .u64 (Go.bits .or .u64 Vd (ji8)), .int .u64 Ve] (0,0) _ rfl (zKp tX) Tryz.underlying211 rfl (by kernel_rfl)) rfl ?_
 exact ⟨by first|exact z3|(simp only [← uI, ← sV];exact z3)|exact z2,zB HB⟩
def jQ.j0:Nat→Int→Bool→Int→Bool→Option (Int)
  | 0,_,_,_,_=>none
  | k+1,x0,x1,x5,x6=>if x6=true then (some 3) else (if x0=x5 then (some 2) else (if x0 > 0 then (some 1) else (if x1=true then (some 1) else (some 0))))
def jQ.f (k:Nat) (a0:Int) (a1:Bool):Option (Int):=if a0 > 9223372036854775808 then (jQ.j0 k a0 a1 9223372036854775808 (decide (a0 > 9223372036854775808))) else (if a0=9223372036854775808 then (jQ.j0 k a0 a1 9223372036854775808 a1) else (jQ.j0 k a0 a1 9223372036854775808 false))
theorem jQ.calls (k:Nat) (a0:Int) (a1:Bool) (r:Int) (w:World) (h:jQ.f k a0 a1=some r) :
    Calls Tryz.prog 159 #[.int .u64 a0, .bool a1] w fun e w'=>e = .returned (.int .i64 r)∧dX w w':=by
 have H:=am h
 unfold jQ.f at H
 clear h
 go_enter Tryz.func159,Tryz.ntmps159
 go_upto_if 6 with (fail)
 go_cut [6] (fun v6 wc => ∃ (kq:Nat) (rJ:Bool),v6 = .bool rJ∧ae (jQ.j0 kq a0 a1 9223372036854775808 rJ=some r)∧ae (kq≤k)∧dX w wc)
 case first =>
  replace H:=Em H
  rcases H with ⟨kM,H⟩|⟨kM,H⟩
  (first|rw [kM]|(simp only [bI,dV];rw [kM])|rw [rY]|skip)
  rotate_left
  (first|rw [kM]|(simp only [bI,dV];rw [kM])|rw [rY]|skip)
  replace H:=zsk H
  rcases H with ⟨rG,xw,H⟩|⟨rG,xw,c5,H⟩
  rotate_left
  rotate_left
  all_goals (go_wp2)
  ·go_meet
   case rel=>exact ⟨_,(decide (a0 > 9223372036854775808)),z1,H,⟨z5⟩,z4⟩
  ·go_meet
   case rel=>exact ⟨_,(a1),z1,H,⟨z5⟩,z4⟩
  go_meet
  case rel=>exact ⟨_,(false),z1,H,⟨z5⟩,z4⟩
 case rest =>
  obtain ⟨kq,rJ,rfl,H,HJ2,⟨mc2,rfl⟩⟩:=hcut
  obtain _|kj2:=kq
  ·exact zz H rfl
  simp only [jQ.j0] at H
  cases rJ
  replace H:=zb0 H
  replace H:=zsk H
  rcases H with ⟨wQ,Bh,H⟩|⟨wQ,Bh,c7,H⟩
  obtain rfl:=Option.some.inj H.out
  rotate_left
  replace H:=Em H
  rcases H with ⟨uD,H⟩|⟨uD,H⟩
  obtain rfl:=Option.some.inj H.out
  rotate_left
  cases a1
  replace H:=zb0 H
  obtain rfl:=Option.some.inj H.out
  rotate_left
  replace H:=zb1 H
  obtain rfl:=Option.some.inj H.out
  rotate_left
  replace H:=zb1 H
  obtain rfl:=Option.some.inj H.out
  rotate_left
  all_goals (go_wp2)
  ·go_ret
   exact ⟨z1,z4⟩
  ·go_ret
   exact ⟨z1,z4⟩
  ·go_ret
   exact ⟨z1,z4⟩
  ·go_ret
   exact ⟨z1,z4⟩
  go_ret
  exact ⟨z1,z4⟩
end Go.Proofs.Yy.PTx
end
section
set_option maxHeartbeats 8000000
set_option maxRecDepth 100000
namespace Go.Proofs.Yy.PTx
open Go.RowKit Go.Proofs.Yy.Z Go.Proofs.Yw.PrintWords Go.Proofs.Yw.PrintLast Go.Proofs.Yw.PrintMore
open Go.Proofs.Yy.M
attribute [local go_sem] dw dQ lD lF lC lG
attribute [local go_sem] gy gz ja jc fC fD gQ gK
def iH.f (dW:Bool) (dK:Bool) (gI:ByteArray) (gW:Int):Option (Bool × Bool × ByteArray × Int):=if dW=true then (some (dW,dK,gI,gW)) else ((jC.f gI (⟨#[48]⟩:ByteArray)).bind fun AQ=>(if AQ.toList=([]:List UInt8) then (some (false,false,(⟨#[48]⟩:ByteArray),0)) else ((iZ.f AQ (⟨#[48]⟩:ByteArray)).bind fun YF=>(if 0≤(wrap64 ((AQ.size:Int) - (mn (wrap64 ((AQ.size:Int) - (YF.size:Int))) (wrap64 (1000000 - gW))))) then (if (wrap64 ((AQ.size:Int) - (mn (wrap64 ((AQ.size:Int) - (YF.size:Int))) (wrap64 (1000000 - gW)))))≤(AQ.size:Int) then (some (dW,dK,AQ.extract 0 ((wrap64 ((AQ.size:Int) - (mn (wrap64 ((AQ.size:Int) - (YF.size:Int))) (wrap64 (1000000 - gW))))):Int).toNat,wrap64 (gW+(mn (wrap64 ((AQ.size:Int) - (YF.size:Int))) (wrap64 (1000000 - gW)))))) else (none)) else (none)))))
def iH.T6:Bool × List (List Nat × List Nat):=(true, [([], []),([0], [0]),([1], [1]),([], []),([3], [3]),([4], [4]),([5], [5]),([2,6], [2,6]),([7,5,0,1,2,3,4,5,6,7], [7])])
def iH.B6:List Nat := [0,1,3,0,8,24,56,127,255]
theorem iH.tab6:rW .any (opsOf Tryz.f64 6)=iH.T6:=by kernel_rfl
theorem iH.aax:jB iH.T6.2 iH.B6=true:=by kernel_rfl
theorem iH.calls (dW:Bool) (dK:Bool) (gI:ByteArray) (gW:Int) (r1:Bool) (r2:Bool) (r3:ByteArray) (r4:Int) (w:World) (h:iH.f dW dK gI gW=some (r1,r2,r3,r4)) :
    Calls Tryz.prog 64 #[.agg #[.bool dW, .bool dK, .string gI, .int .i64 gW]] w fun e w'=>e = .returned (.agg #[.bool r1, .bool r2, .string r3, .int .i64 r4])∧Below w.heap.size w w':=by
 have Ql:=Tryz.underlying23
 have HB:=am (Below.refl w.heap.size w)
 have H:=am h
 unfold iH.f at H
 clear h
 cases dW
 replace H:=zb0 H
 replace H:=zo H
 obtain ⟨AQ,A8,H⟩:=H
 replace H:=zsk H
 rcases H with ⟨yI,Ed,H⟩|⟨yI,Ed,c9,H⟩
 obtain ⟨rfl,rfl,rfl,rfl⟩:=zJ4 H
 rotate_left
 ·replace H:=zo H
  obtain ⟨YF,A17,H⟩:=H
  generalize uJ:(mn (wrap64 ((AQ.size:Int) - (YF.size:Int))) (wrap64 (1000000 - gW)):Int)=Dq at H
  (try rw [uJ] at A8)
  (try rw [uJ] at A17)
  have OB:(if (wrap64 (1000000 - gW))<(wrap64 ((AQ.size:Int) - (YF.size:Int))) then (wrap64 (1000000 - gW)) else (wrap64 ((AQ.size:Int) - (YF.size:Int))))=Dq:=uJ
  generalize sO:(wrap64 ((AQ.size:Int) - (Dq)):Int)=FM at H
  (try rw [sO] at A8)
  (try rw [sO] at A17)
  have agI:(IntKind.i64.wrap ((AQ.size:Int) - (Dq)))=FM:=(bI _).trans sO
  replace H:=zit H
  obtain ⟨Vh,ayr,H⟩:=H
  replace H:=zit H
  obtain ⟨Ae,YG,H⟩:=H
  obtain ⟨rfl,rfl,rfl,rfl⟩:=zJ4 H
  go_enter Tryz.func64,Tryz.ntmps64
  try go_wp2_with (first|((with_reducible refine ay (N:=1) rfl ?_);refine zx 1 23 #[.bool false, .bool dK, .string gI, .int .i64 gW] ?_;intro DC hg w22 hbox hb;have mM:=am (hbox);have agJ:=zG hg HB;have agK:=zG hg HB;replace HB:=zBs HB hb;clear hb hbox hg)|((with_reducible refine ay (N:=2) rfl ?_);refine zx 2 23 #[.bool false, .bool false, .string (⟨#[]⟩:ByteArray), .int .i64 0] ?_;intro Vj hg w23 hbox hb;have uM:=am (hbox);have anw:=zG hg HB;have anx:=zG hg HB;replace HB:=zBs HB hb;have DD:=zNl hg mM;have DF:=zNg hg mM;replace mM:=zKb mM hb;clear hb hbox hg;have afA:=DD.out;have afB:=DF.out;obtain ⟨_,_,_,_,_,_,_,_⟩:=zf4 mM)|((with_reducible refine af (f:=118) rfl ?_);refine zc (some 9) Tryz.func118 _ (jC.calls _ _ _ _ A8.out) ?_;rintro e w26 ⟨rfl,hb⟩;refine ⟨_,rfl,?_⟩;replace mM:=zKb mM hb;replace uM:=zKb uM hb;replace HB:=zBs HB hb;clear hb;obtain ⟨_,_,_,_,_,_,_,_⟩:=zf4 mM))
  have n0_:ae ((w26.setCell ⟨DC,2,none⟩ (.string AQ)).heap[DC]? = some (.cells #[.bool false, .bool dK, .string AQ, .int .i64 gW] 23 (0,0))):=⟨zKp mM⟩
  have n1_:ae ((w26.setCell ⟨DC,2,none⟩ (.string AQ)).heap[Vj]? = some (.cells #[.bool false, .bool false, .string (⟨#[]⟩:ByteArray), .int .i64 0] 23 (0,0))):=⟨zK uM⟩
  have n2_:ae (Below w.heap.size w (w26.setCell ⟨DC,2,none⟩ (.string AQ))):=⟨zB HB⟩
  (try clear mM)
  (try clear uM)
  (try clear HB)
  generalize (w26.setCell ⟨DC,2,none⟩ (.string AQ))=w28 at n0_ n1_ n2_ ⊢
  have mM:=n0_
  have uM:=n1_
  have HB:=n2_
  clear n0_ n1_ n2_
  replace mM:=am (dS mM.out)
  replace uM:=am (dS uM.out)
  replace HB:=am (aZ HB.out)
  refine ny (n:=9) (S:=fun w'=>w'.cell? ⟨DC,0,none⟩=some (.bool false)∧w'.cell? ⟨DC,1,none⟩=some (.bool dK)∧w'.cell? ⟨DC,2,none⟩=some (.string AQ)∧w'.cell? ⟨DC,3,none⟩=some (.int .i64 gW)) (ds := []) (Array.replicate 9 false) (by kernel_rfl) rfl rfl ⟨(ag mM.out 0).trans rfl,(ag mM.out 1).trans rfl,(ag mM.out 2).trans rfl,(ag mM.out 3).trans rfl⟩ (fun hHeld=>?_);refine iw iH.tab6 iH.aax (fun HT_ HW_=>?_)
  generalize w28.drew=w29 at mM uM HB hHeld ⊢
  refine zp HT_ 0 (some 15) ?_
  refine zp HT_ 3 (some 18) ?_
  refine zt HT_ HW_ 1 (some 16) hHeld ?_
  refine zp HT_ 2 (some 17) ?_
  refine zt HT_ HW_ 4 (some 19) hHeld ?_
  refine zu HT_ 5 (some 20) (fun K hK=>?_)
  refine oK Tryz.func119 (by kernel_rfl) rfl #[.string AQ, .string (⟨#[48]⟩:ByteArray)] (by rfl) rfl rfl (by (try simp only [List.map_toArray,List.map_cons,List.map_nil]);first|done|rfl|(simp only [List.length_drop,List.length_take];rfl)) ?_
  with_reducible refine (iZ.calls AQ (⟨#[48]⟩:ByteArray) YF _ A17.out).mono ?_
  rintro e w30 ⟨rfl,hb⟩
  refine ⟨_,rfl,?_⟩
  replace mM:=zKb mM hb
  replace uM:=zKb uM hb
  replace HB:=zBs HB hb
  (try clear hb)
  (try clear hb2)
  (try clear hk)
  (try clear hi)
  refine hK.out _ _ ⟨(ag mM.out 0).trans rfl,(ag mM.out 1).trans rfl,(ag mM.out 2).trans rfl,(ag mM.out 3).trans rfl⟩ (fun hHeld=>?_)
  clear hK K
  refine kK (a':=?_) ?_ ?_
  rotate_left
  ·show Act.put _ (some 20) _=_
   simp only [Act.put,List.setIfInBounds_toArray,List.set_cons_zero,List.set_cons_succ,bI,dV]
   rfl
  refine zp HT_ 6 (some 21) ?_
  refine zp HT_ 7 (some 22) ?_
  refine zp HT_ 8 (some 3) ?_
  refine o6 (jd HT_.out (by kernel_rfl)) ?_
  obtain ⟨_,_,_,_,_,_,_,_⟩:=zf4 mM
  obtain ⟨_,_,_,_,_,_,_,_⟩:=zf4 uM
  try go_wp2
  refine bodyPost_ret (results_cell_row rfl _ _ Vj 23 #[.bool false, .bool dK, .string (AQ.extract 0 ((FM):Int).toNat), .int .i64 (wrap64 (gW+(Dq)))] (0,0) _ rfl (zKp uM) Tryz.underlying23 rfl (by kernel_rfl)) rfl ?_
  exact ⟨by first|exact z3|(simp only [← uJ, ← sO];exact z3)|exact z2,zB HB⟩
 replace H:=zb1 H
 obtain ⟨rfl,rfl,rfl,rfl⟩:=zJ4 H
 rotate_left
 all_goals (go_enter Tryz.func64,Tryz.ntmps64;go_wp2_with (first|((with_reducible refine ay (N:=1) rfl ?_);refine zx 1 23 #[.bool false, .bool dK, .string gI, .int .i64 gW] ?_;intro DC hg w10 hbox hb;have mM:=am (hbox);have agJ:=zG hg HB;have agK:=zG hg HB;replace HB:=zBs HB hb;clear hb hbox hg)|((with_reducible refine ay (N:=2) rfl ?_);refine zx 2 23 #[.bool false, .bool false, .string (⟨#[]⟩:ByteArray), .int .i64 0] ?_;intro Vj hg w11 hbox hb;have uM:=am (hbox);have anw:=zG hg HB;have anx:=zG hg HB;replace HB:=zBs HB hb;have DD:=zNl hg mM;have DF:=zNg hg mM;replace mM:=zKb mM hb;clear hb hbox hg;have agv:=DD.out;have agw:=DF.out;obtain ⟨_,_,_,_,_,_,_,_⟩:=zf4 mM;obtain ⟨_,_,_,_,_,_,_,_⟩:=zf4 uM)|((with_reducible refine af (f:=118) rfl ?_);refine zc (some 9) Tryz.func118 _ (jC.calls _ _ _ _ A8.out) ?_;rintro e w14 ⟨rfl,hb⟩;refine ⟨_,rfl,?_⟩;replace mM:=zKb mM hb;replace uM:=zKb uM hb;replace HB:=zBs HB hb;clear hb;obtain ⟨_,_,_,_,_,_,_,_⟩:=zf4 mM;obtain ⟨_,_,_,_,_,_,_,_⟩:=zf4 uM)|((with_reducible refine ay (N:=1) rfl ?_);refine zx 1 23 #[.bool true, .bool dK, .string gI, .int .i64 gW] ?_;intro DC hg w3 hbox hb;have mM:=am (hbox);have agJ:=zG hg HB;have agK:=zG hg HB;replace HB:=zBs HB hb;clear hb hbox hg)))
 ·refine bodyPost_ret (results_cell_row rfl _ _ Vj 23 #[.bool false, .bool false, .string (⟨#[48]⟩:ByteArray), .int .i64 0] (0,0) _ rfl (zKp uM) Tryz.underlying23 rfl (by kernel_rfl)) rfl ?_
  exact ⟨z2,zB HB⟩
 refine bodyPost_ret (results_cell_row rfl _ _ Vj 23 #[.bool true, .bool dK, .string gI, .int .i64 gW] (0,0) _ rfl (zKp uM) Tryz.underlying23 rfl (by kernel_rfl)) rfl ?_
 exact ⟨z2,zB HB⟩
end Go.Proofs.Yy.PTx
end
section
set_option maxHeartbeats 8000000
set_option maxRecDepth 100000
namespace Go.Proofs.Yy.PTx
open Go.RowKit Go.Proofs.Yy.Z Go.Proofs.Yw.PrintWords Go.Proofs.Yw.PrintLast Go.Proofs.Yw.PrintMore
open Go.Proofs.Yy.M
attribute [local go_sem] dw dQ lD lF lC lG
attribute [local go_sem] gy gz ja jc fC fD gQ gK
attribute [local go_sem high] aeT
def nT.f (dW:Bool) (dK:Bool) (gI:ByteArray) (gW:Int):Option (Bool):=if dW=true then (some (dW && (!dK && (gI.toList == ([]:List UInt8) && (gW == 0))))) else (if gI.toList=([]:List UInt8) then (some false) else (if (gI.size:Int) > 4096 then (some false) else (if gW<(-1000000) then (some false) else (if gW > 1000000 then (some false) else ((mr.f gI (⟨#[48,49,50,51,52,53,54,55,56,57]⟩:ByteArray)).bind fun as4=>(some (as4.toList == ([]:List UInt8))))))))
theorem nT.calls (dW:Bool) (dK:Bool) (gI:ByteArray) (gW:Int) (r:Bool) (w:World) (h:nT.f dW dK gI gW=some r) :
    Calls Tryz.prog 65 #[.agg #[.bool dW, .bool dK, .string gI, .int .i64 gW]] w fun e w'=>e = .returned (.bool r)∧Below w.heap.size w w':=by
 have Ql:=Tryz.underlying23
 have HB:=am (Below.refl w.heap.size w)
 have H:=am h
 unfold nT.f at H
 clear h
 cases dW
 replace H:=zb0 H
 replace H:=zsk H
 rcases H with ⟨rG,xw,H⟩|⟨rG,xw,c5,H⟩
 obtain rfl:=Option.some.inj H.out
 rotate_left
 replace H:=zs H
 rcases H with ⟨c8,H⟩|⟨c8,H⟩
 have uD:decide (4096<(gI.size:Int))=true:=decide_eq_true c8
 have Ey:decide (4096<gI.size)=true:=decide_eq_true (by omega)
 clear c8
 obtain rfl:=Option.some.inj H.out
 rotate_left
 have uD:decide (4096<(gI.size:Int))=false:=decide_eq_false c8
 have Ey:decide (4096<gI.size)=false:=decide_eq_false (by omega)
 clear c8
 replace H:=zsd H
 rcases H with ⟨mY,H⟩|⟨mY,H⟩
 obtain rfl:=Option.some.inj H.out
 rotate_left
 replace H:=Em H
 rcases H with ⟨uH,H⟩|⟨uH,H⟩
 obtain rfl:=Option.some.inj H.out
 rotate_left
 replace H:=zo H
 obtain ⟨as4,A17,H⟩:=H
 obtain rfl:=Option.some.inj H.out
 rotate_left
 replace H:=zb1 H
 obtain rfl:=Option.some.inj H.out
 rotate_left
 all_goals (go_enter Tryz.func65,Tryz.ntmps65;go_wp2_with (first|((with_reducible refine ay (N:=1) rfl ?_);(try (refine kY (by rfl) ?_;dsimp only));refine zx 1 23 #[.bool false, .bool dK, .string gI, .int .i64 gW] ?_;intro anz hg w18 hbox hb;have Vk:=am (hbox);have anA:=zG hg HB;have anB:=zG hg HB;replace HB:=zBs HB hb;clear hb hbox hg;obtain ⟨_,_,_,_,_,_,_,_⟩:=zf4 Vk)|((with_reducible refine af (f:=120) rfl ?_);refine zc (some 29) Tryz.func120 _ (mr.calls _ _ _ _ A17.out) ?_;rintro e w20 ⟨rfl,hb⟩;refine ⟨_,rfl,?_⟩;replace Vk:=zKb Vk hb;replace HB:=zBs HB hb;clear hb)|((with_reducible refine ay (N:=1) rfl ?_);(try (refine kY (by rfl) ?_;dsimp only));refine zx 1 23 #[.bool true, .bool dK, .string gI, .int .i64 gW] ?_;intro anz hg w3 hbox hb;have Vk:=am (hbox);have anA:=zG hg HB;have anB:=zG hg HB;replace HB:=zBs HB hb;clear hb hbox hg;obtain ⟨_,_,_,_,_,_,_,_⟩:=zf4 Vk)))
 ·go_ret
  exact ⟨z2,zB HB⟩
 ·go_ret
  exact ⟨z2,zB HB⟩
 ·go_ret
  exact ⟨z2,zB HB⟩
 ·go_ret
  exact ⟨z2,zB HB⟩
 ·go_ret
  exact ⟨z2,zB HB⟩
 go_ret
 exact ⟨z2,zB HB⟩
def kF.f (dW:Bool) (dK:Bool) (gI:ByteArray) (gW:Int):Option (Bool × Bool × ByteArray × Int × Option Int):=(nT.f dW dK gI gW).bind fun t109=>(if t109=true then ((iH.f dW dK gI gW).bind fun YH=>(some (YH.1,YH.2.1,YH.2.2.1,YH.2.2.2,none))) else (some (false,false,(⟨#[]⟩:ByteArray),0,some 23)))
theorem kF.calls (dW:Bool) (dK:Bool) (gI:ByteArray) (gW:Int) (r1:Bool) (r2:Bool) (r3:ByteArray) (r4:Int) (r5:Option Int) (w:World) (h:kF.f dW dK gI gW=some (r1,r2,r3,r4,r5)) :
    Calls Tryz.prog 26 #[.agg #[.bool dW, .bool dK, .string gI, .int .i64 gW]] w fun e w'=>e = .returned (.tuple #[.agg #[.bool r1, .bool r2, .string r3, .int .i64 r4],qm r5])∧Below w.heap.size w w':=by
 have Ql:=Tryz.underlying23
 have yL:=Tryz.underlying27
 have hu64:=Tryz.underlying64
 have HB:=am (Below.refl w.heap.size w)
 have H:=am h
 unfold kF.f at H
 clear h
 replace H:=zo H
 obtain ⟨t109,A2,H⟩:=H
 cases t109
 replace H:=zb0 H
 obtain ⟨rfl,rfl,rfl,rfl,rfl⟩:=zJ5 H
 rotate_left
 replace H:=zb1 H
 replace H:=zo H
 obtain ⟨⟨ays,ayt,ayu,ayv⟩,A4,H⟩:=H
 try dsimp only at H
 obtain ⟨rfl,rfl,rfl,rfl,rfl⟩:=zJ5 H
 rotate_left
 all_goals (go_enter Tryz.func26,Tryz.ntmps26;go_wp2_with (first|((with_reducible refine ay (N:=1) rfl ?_);refine zx 1 23 #[.bool dW, .bool dK, .string gI, .int .i64 gW] ?_;intro ayw hg w5 hbox hb;have EF:=am (hbox);have ayx:=zG hg HB;have ayy:=zG hg HB;replace HB:=zBs HB hb;clear hb hbox hg)|((with_reducible refine ay (N:=2) rfl ?_);refine zx 2 23 #[.bool false, .bool false, .string (⟨#[]⟩:ByteArray), .int .i64 0] ?_;intro agL hg w6 hbox hb;have JD:=am (hbox);have ayz:=zG hg HB;have ayA:=zG hg HB;replace HB:=zBs HB hb;have Vl:=zNl hg EF;have Vm:=zNg hg EF;replace EF:=zKb EF hb;clear hb hbox hg;have ayB:=Vl.out;have ayC:=Vm.out;obtain ⟨_,_,_,_,_,_,_,_⟩:=zf4 EF)|((with_reducible refine af (f:=65) rfl ?_);refine zc (some 5) Tryz.func65 _ (nT.calls _ _ _ _ _ _ A2.out) ?_;rintro e w9 ⟨rfl,hb⟩;refine ⟨_,rfl,?_⟩;replace EF:=zKb EF hb;replace JD:=zKb JD hb;replace HB:=zBs HB hb;clear hb;obtain ⟨_,_,_,_,_,_,_,_⟩:=zf4 EF;obtain ⟨_,_,_,_,_,_,_,_⟩:=zf4 JD)|((with_reducible refine af (f:=64) rfl ?_);refine zc (some 10) Tryz.func64 _ (iH.calls _ _ _ _ _ _ _ _ _ A4.out) ?_;rintro e w11 ⟨rfl,hb⟩;refine ⟨_,rfl,?_⟩;replace EF:=zKb EF hb;replace JD:=zKb JD hb;replace HB:=zBs HB hb;clear hb;obtain ⟨_,_,_,_,_,_,_,_⟩:=zf4 JD)))
 ·refine bodyPost_ret (bJ rfl _ _ agL 23 #[.bool false, .bool false, .string (⟨#[]⟩:ByteArray), .int .i64 0] (0,0) _ rfl (zKp JD) Tryz.underlying23 rfl (by kernel_rfl)) rfl ?_
  exact ⟨z2,zB HB⟩
 refine bodyPost_ret (bJ rfl _ _ agL 23 #[.bool ays, .bool ayt, .string ayu, .int .i64 ayv] (0,0) _ rfl (zKp JD) Tryz.underlying23 rfl (by kernel_rfl)) rfl ?_
 exact ⟨z2,zB HB⟩
def nR.f (a0:Int):Option (Bool):=if a0=8 then (some true) else (if a0=16 then (some true) else (if a0=32 then (some true) else (if a0=64 then (some true) else (some false))))
theorem nR.calls (a0:Int) (r:Bool) (w:World) (h:nR.f a0=some r) :
    Calls Tryz.prog 126 #[.int .i64 a0] w fun e w'=>e = .returned (.bool r)∧dX w w':=by
 have H:=am h
 unfold nR.f at H
 clear h
 replace H:=zsk H
 rcases H with ⟨uU,LJ,H⟩|⟨uU,LJ,c2,H⟩
 obtain rfl:=Option.some.inj H.out
 rotate_left
 replace H:=zsk H
 rcases H with ⟨pg,Jv,H⟩|⟨pg,Jv,c3,H⟩
 obtain rfl:=Option.some.inj H.out
 rotate_left
 replace H:=zsk H
 rcases H with ⟨kM,rY,H⟩|⟨kM,rY,c4,H⟩
 obtain rfl:=Option.some.inj H.out
 rotate_left
 replace H:=zsk H
 rcases H with ⟨rG,xw,H⟩|⟨rG,xw,c5,H⟩
 obtain rfl:=Option.some.inj H.out
 rotate_left
 obtain rfl:=Option.some.inj H.out
 rotate_left
 all_goals (go_enter Tryz.func126,Tryz.ntmps126;go_wp2)
 ·go_ret
  exact ⟨z1,z4⟩
 ·go_ret
  exact ⟨z1,z4⟩
 ·go_ret
  exact ⟨z1,z4⟩
 ·go_ret
  exact ⟨z1,z4⟩
 go_ret
 exact ⟨z1,z4⟩
def mi.f (a0:Int):Option (Int):=if a0=64 then (some 18446744073709551615) else (if 0≤a0 then (some (IntKind.u64.wrap ((shl .u64 1 a0) - 1))) else (none))
theorem mi.calls (a0:Int) (r:Int) (w:World) (h:mi.f a0=some r) :
    Calls Tryz.prog 181 #[.int .i64 a0] w fun e w'=>e = .returned (.int .u64 r)∧dX w w':=by
 have H:=am h
 unfold mi.f at H
 clear h
 replace H:=zsk H
 rcases H with ⟨uU,LJ,H⟩|⟨uU,LJ,c2,H⟩
 obtain rfl:=Option.some.inj H.out
 rotate_left
 replace H:=zit H
 obtain ⟨pg,Jv,H⟩:=H
 generalize BI:(shl .u64 1 a0:Int)=ji4 at H
 have anC:(IntKind.u64.wrap (1 * 2 ^ min a0.toNat 64))=ji4:=BI
 have anD:a0≤64→(IntKind.u64.wrap (1 * 2 ^ a0.toNat))=ji4:=iR BI
 have ayD:(IntKind.u64.wrap (2 ^ min a0.toNat 64))=ji4:=by have h_:=anC;rw [Int.one_mul] at h_;exact h_
 have ayE:a0≤64→(IntKind.u64.wrap (2 ^ a0.toNat))=ji4:=fun acx=>by have h_:=anD acx;rw [Int.one_mul] at h_;exact h_
 obtain rfl:=Option.some.inj H.out
 rotate_left
 all_goals (go_enter Tryz.func181,Tryz.ntmps181;go_wp2)
 ·go_ret
  exact ⟨z1,z4⟩
 go_ret
 exact ⟨by first|rfl|(simp;done)|(simp only [← BI] <;> (first|rfl|simp))|(simp [*];done),z4⟩
def sW.f (a0:Int):Option (Int × Option Int):=if a0<0 then (some (0,some 1)) else (if a0 > 64 then (some (0,some 1)) else ((mi.f a0).bind fun as5=>(some (as5,none))))
theorem sW.calls (a0:Int) (r1:Int) (r2:Option Int) (w:World) (h:sW.f a0=some (r1,r2)) :
    Calls Tryz.prog 128 #[.int .i64 a0] w fun e w'=>e = .returned (.tuple #[.int .u64 r1,qm r2])∧dX w w':=by
 have yL:=Tryz.underlying27
 have hu64:=Tryz.underlying64
 have H:=am h
 unfold sW.f at H
 clear h
 replace H:=zsd H
 rcases H with ⟨uU,H⟩|⟨uU,H⟩
 obtain ⟨rfl,rfl⟩:=zJ2 H
 rotate_left
 replace H:=Em H
 rcases H with ⟨pg,H⟩|⟨pg,H⟩
 obtain ⟨rfl,rfl⟩:=zJ2 H
 rotate_left
 replace H:=zo H
 obtain ⟨as5,A4,H⟩:=H
 obtain ⟨rfl,rfl⟩:=zJ2 H
 rotate_left
 all_goals (go_enter Tryz.func128,Tryz.ntmps128;go_wp2_with (first|((with_reducible refine af (f:=181) rfl ?_);refine zc (some 12) Tryz.func181 _ (mi.calls _ _ _ A4.out) ?_;rintro e w' ⟨rfl,⟨nd,rfl⟩⟩;refine ⟨_,rfl,?_⟩)))
 ·go_ret2
  exact ⟨z1,z4⟩
 ·go_ret2
  exact ⟨z1,z4⟩
 go_ret2
 exact ⟨z1,z4⟩
def eX.f (a0:Int) (a1:Int):Option (Int × Option Int):=(nR.f a0).bind fun anE=>(if anE=true then ((sW.f a0).bind fun agM=>(some (Go.bits .and .u64 a1 agM.1,agM.2))) else (some (0,some 2)))
theorem eX.calls (a0:Int) (a1:Int) (r1:Int) (r2:Option Int) (w:World) (h:eX.f a0 a1=some (r1,r2)) :
    Calls Tryz.prog 76 #[.int .i64 a0, .int .u64 a1] w fun e w'=>e = .returned (.tuple #[.int .u64 r1,qm r2])∧dX w w':=by
 have yL:=Tryz.underlying27
 have hu64:=Tryz.underlying64
 have H:=am h
 unfold eX.f at H
 clear h
 replace H:=zo H
 obtain ⟨anE,A3,H⟩:=H
 cases anE
 replace H:=zb0 H
 obtain ⟨rfl,rfl⟩:=zJ2 H
 rotate_left
 replace H:=zb1 H
 replace H:=zo H
 obtain ⟨⟨t116,t117⟩,A5,H⟩:=H
 try dsimp only at H
 obtain ⟨rfl,rfl⟩:=zJ2 H
 rotate_left
 all_goals (go_enter Tryz.func76,Tryz.ntmps76;go_wp2_with (first|((with_reducible refine af (f:=126) rfl ?_);refine zc (some 9) Tryz.func126 _ (nR.calls _ _ _ A3.out) ?_;rintro e w' ⟨rfl,⟨nd,rfl⟩⟩;refine ⟨_,rfl,?_⟩)|((with_reducible refine af (f:=128) rfl ?_);refine zc (some 14) Tryz.func128 _ (sW.calls _ _ _ _ A5.out) ?_;rintro e w' ⟨rfl,⟨nd,rfl⟩⟩;refine ⟨_,rfl,?_⟩;(try simp only [ak,aj]))))
 ·go_ret2
  exact ⟨z1,z4⟩
 go_ret2
 exact ⟨z1,z4⟩
def jP.f (a0:Int) (a1:Int):Option (Int × Option Int):=(eX.f a0 a1).bind fun YI=>(if YI.2.isNone=true then (if YI.1=0 then (some (0,none)) else (if 0≤(wrap64 (a0 - 1)) then (if YI.1=(shl .u64 1 (wrap64 (a0 - 1))) then (some (2,none)) else (some (1,none))) else (none))) else (some (0,some (YI.2.getD 0))))
theorem jP.calls (a0:Int) (a1:Int) (r1:Int) (r2:Option Int) (w:World) (h:jP.f a0 a1=some (r1,r2)) :
    Calls Tryz.prog 91 #[.int .i64 a0, .int .u64 a1] w fun e w'=>e = .returned (.tuple #[.int .i64 r1,qm r2])∧dX w w':=by
 have yL:=Tryz.underlying27
 have hu64:=Tryz.underlying64
 have H:=am h
 unfold jP.f at H
 clear h
 replace H:=zo H
 obtain ⟨⟨aF8,t119⟩,A3,H⟩:=H
 try dsimp only at H
 rcases t119 with _|aF9
 replace H:=zb1 H
 try simp only [ak,aj]
 replace H:=zsk H
 rcases H with ⟨kM,rY,H⟩|⟨kM,rY,c4,H⟩
 obtain ⟨rfl,rfl⟩:=zJ2 H
 rotate_left
 generalize Qq:(wrap64 (a0 - 1):Int)=ji5 at H
 (try rw [Qq] at A3)
 have agN:(IntKind.i64.wrap (a0 - 1))=ji5:=(bI _).trans Qq
 replace H:=zit H
 obtain ⟨rF,Bg,H⟩:=H
 generalize FN:(shl .u64 1 (ji5):Int)=ji7 at H
 (try rw [FN] at A3)
 have YJ:(IntKind.u64.wrap (1 * 2 ^ min (ji5).toNat 64))=ji7:=FN
 have acy:(ji5)≤64→(IntKind.u64.wrap (1 * 2 ^ (ji5).toNat))=ji7:=iR FN
 have ayF:(IntKind.u64.wrap (2 ^ min (ji5).toNat 64))=ji7:=by have h_:=YJ;rw [Int.one_mul] at h_;exact h_
 have ayG:(ji5)≤64→(IntKind.u64.wrap (2 ^ (ji5).toNat))=ji7:=fun acx=>by have h_:=acy acx;rw [Int.one_mul] at h_;exact h_
 replace H:=zsk H
 rcases H with ⟨uD,Ey,H⟩|⟨uD,Ey,c8,H⟩
 obtain ⟨rfl,rfl⟩:=zJ2 H
 rotate_left
 obtain ⟨rfl,rfl⟩:=zJ2 H
 rotate_left
 replace H:=zb0 H
 try simp only [Option.getD_some] at H
 try simp only [ak,aj]
 obtain ⟨rfl,rfl⟩:=zJ2 H
 rotate_left
 all_goals (go_enter Tryz.func91,Tryz.ntmps91;go_wp2_with (first|((with_reducible refine af (f:=76) rfl ?_);refine zc (some 10) Tryz.func76 _ (eX.calls _ _ _ _ _ A3.out) ?_;rintro e w' ⟨rfl,⟨nd,rfl⟩⟩;refine ⟨_,rfl,?_⟩;(try simp only [ak,aj]))))
 ·go_ret2
  exact ⟨z1,z4⟩
 ·go_ret2
  exact ⟨by first|rfl|(simp;done)|(simp only [← Qq, ← FN] <;> (first|rfl|simp))|(simp [*];done),z4⟩
 ·go_ret2
  exact ⟨by first|rfl|(simp;done)|(simp only [← Qq, ← FN] <;> (first|rfl|simp))|(simp [*];done),z4⟩
 go_ret2
 exact ⟨z1,z4⟩
def pF.f (a0:Int) (a1:Int):Option (Int × Option Int):=if a1<1 then (some (0,some 1)) else (if a1 > 64 then (some (0,some 1)) else (if 0≤(wrap64 (64 - a1)) then (some (shr .i64 (wrap64 (shl .u64 a0 (wrap64 (64 - a1)))) (wrap64 (64 - a1)),none)) else (none)))
theorem pF.calls (a0:Int) (a1:Int) (r1:Int) (r2:Option Int) (w:World) (h:pF.f a0 a1=some (r1,r2)) :
    Calls Tryz.prog 127 #[.int .u64 a0, .int .i64 a1] w fun e w'=>e = .returned (.tuple #[.int .i64 r1,qm r2])∧dX w w':=by
 have yL:=Tryz.underlying27
 have hu64:=Tryz.underlying64
 have H:=am h
 unfold pF.f at H
 clear h
 replace H:=zsd H
 rcases H with ⟨pg,H⟩|⟨pg,H⟩
 obtain ⟨rfl,rfl⟩:=zJ2 H
 rotate_left
 replace H:=Em H
 rcases H with ⟨kM,H⟩|⟨kM,H⟩
 obtain ⟨rfl,rfl⟩:=zJ2 H
 rotate_left
 generalize Qq:(wrap64 (64 - a1):Int)=ji5 at H
 have agN:(IntKind.i64.wrap (64 - a1))=ji5:=(bI _).trans Qq
 replace H:=zit H
 obtain ⟨rF,Bg,H⟩:=H
 generalize FN:(shl .u64 a0 (ji5):Int)=ji7 at H
 have YJ:(IntKind.u64.wrap (a0 * 2 ^ min (ji5).toNat 64))=ji7:=FN
 have acy:(ji5)≤64→(IntKind.u64.wrap (a0 * 2 ^ (ji5).toNat))=ji7:=iR FN
 have uD:=eq_true (zD:0≤(ji5))
 generalize Q4:(shr .i64 (wrap64 (ji7)) (ji5):Int)=ji9 at H
 have anF:((wrap64 (ji7)) / 2 ^ min (ji5).toNat 64)=ji9:=Q4
 have ayH:(ji5)≤64→((wrap64 (ji7)) / 2 ^ (ji5).toNat)=ji9:=jT Q4
 obtain ⟨rfl,rfl⟩:=zJ2 H
 rotate_left
 all_goals (go_enter Tryz.func127,Tryz.ntmps127;go_wp2)
 ·go_ret2
  exact ⟨z1,z4⟩
 ·go_ret2
  exact ⟨z1,z4⟩
 go_ret2
 exact ⟨by first|rfl|(simp;done)|(simp only [← Qq, ← FN, ← Q4] <;> (first|rfl|simp))|(simp [*];done),z4⟩
def ou.f (a0:Int) (a1:Int):Option (Int × Option Int):=(nR.f a0).bind fun anG=>(if anG=true then ((pF.f a1 a0).bind fun agO=>(some (agO.1,agO.2))) else (some (0,some 2)))
theorem ou.calls (a0:Int) (a1:Int) (r1:Int) (r2:Option Int) (w:World) (h:ou.f a0 a1=some (r1,r2)) :
    Calls Tryz.prog 75 #[.int .i64 a0, .int .u64 a1] w fun e w'=>e = .returned (.tuple #[.int .i64 r1,qm r2])∧dX w w':=by
 have yL:=Tryz.underlying27
 have hu64:=Tryz.underlying64
 have H:=am h
 unfold ou.f at H
 clear h
 replace H:=zo H
 obtain ⟨anG,A3,H⟩:=H
 cases anG
 replace H:=zb0 H
 obtain ⟨rfl,rfl⟩:=zJ2 H
 rotate_left
 replace H:=zb1 H
 replace H:=zo H
 obtain ⟨⟨aGa,aGb⟩,A5,H⟩:=H
 try dsimp only at H
 obtain ⟨rfl,rfl⟩:=zJ2 H
 rotate_left
 all_goals (go_enter Tryz.func75,Tryz.ntmps75;go_wp2_with (first|((with_reducible refine af (f:=126) rfl ?_);refine zc (some 7) Tryz.func126 _ (nR.calls _ _ _ A3.out) ?_;rintro e w' ⟨rfl,⟨nd,rfl⟩⟩;refine ⟨_,rfl,?_⟩)|((with_reducible refine af (f:=127) rfl ?_);refine zc (some 12) Tryz.func127 _ (pF.calls _ _ _ _ _ A5.out) ?_;rintro e w' ⟨rfl,⟨nd,rfl⟩⟩;refine ⟨_,rfl,?_⟩;(try simp only [ak,aj]))))
 ·go_ret2
  exact ⟨z1,z4⟩
 go_ret2
 exact ⟨z1,z4⟩
end Go.Proofs.Yy.PTx
end
section
namespace Go.Proofs.Yy.PTx
open Go.RowKit Go.Proofs.Yw.PrintWords Go.Proofs.Yw.PrintLast Go.Proofs.Yw.PrintMore Go.Proofs.Yy.M Go.Proofs.Yy.TA
theorem y8 {x:Int} (h0 : -9223372036854775808≤x) (h1:x≤9223372036854775807):wrap64 x=x:=by unfold wrap64;omega
theorem p64:(2:Nat) ^ 64=18446744073709551616:=rfl
theorem Aa (x k:Nat):shl .u64 (x:Int) (k:Int)=((x * 2 ^ k % 2 ^ 64:Nat):Int):=by
 unfold shl
 rw [IntKind.wrap_u64,Int.toNat_natCast]
 by_cases h:k≤64
 ·rw [show min k IntKind.u64.bits=k from Nat.min_eq_left h,p64,Int.natCast_emod,Int.natCast_mul,Int.natCast_pow];rfl
 ·rw [show min k IntKind.u64.bits=64 from Nat.min_eq_right (by show 64≤k;omega)]
  have e1:x * 2 ^ k % 2 ^ 64=0:=by
   rw [show k=(k - 64)+64 by omega,Nat.pow_add, ← Nat.mul_assoc,Nat.mul_mod_left]
  rw [e1]
  have:(x:Int) * 2 ^ 64 % 18446744073709551616=0:=by omega
  rw [this];rfl
theorem Lr (x k:Nat) (h:x<2 ^ 64):shr .u64 (x:Int) (k:Int)=((x / 2 ^ k:Nat):Int):=by
 unfold shr
 rw [Int.toNat_natCast]
 by_cases h1:k≤64
 ·rw [show min k IntKind.u64.bits=k from Nat.min_eq_left h1,Int.natCast_ediv,Int.natCast_pow];rfl
 ·rw [show min k IntKind.u64.bits=64 from Nat.min_eq_right (by show 64≤k;omega)]
  have e1:x / 2 ^ k=0:=Nat.div_eq_of_lt (Nat.lt_of_lt_of_le h (Nat.pow_le_pow_right (by omega) (by omega)))
  rw [e1]
  rw [p64] at h
  omega
theorem aeY (a b k:Nat) (hb:b<2 ^ k) (h:a * 2 ^ k+b<2 ^ 64):Go.bits .or .u64 ((a * 2 ^ k:Nat):Int) (b:Int)=((a * 2 ^ k+b:Nat):Int):=by
 rw [p64] at h
 rw [bits_or_u64_nat _ _ (by omega) (by omega)]
 congr 1
 rw [Nat.mul_comm a,Nat.two_pow_add_eq_or_of_lt hb]
theorem Un (p n:Nat) (hp:p<2 ^ 64) (hn:n≤64):Go.bits .and .u64 (p:Int) ((2 ^ n - 1:Nat):Int)=((p % 2 ^ n:Nat):Int):=by
 have h1:2 ^ n≤2 ^ 64:=Nat.pow_le_pow_right (by omega) hn
 have h0:=Nat.two_pow_pos n
 rw [p64] at h1 hp
 rw [bits_and_u64_nat _ _ (by omega) (by omega),Nat.and_two_pow_sub_one_eq_mod]
end Go.Proofs.Yy.PTx
end
