/- Part 9 of what the proof needs. -/
import Derived.Test.YtpfnkbnepcchgaaGreatDoorKTBAH
set_option linter.unusedSimpArgs false
set_option linter.unusedVariables false
section
set_option maxHeartbeats 8000000
set_option maxRecDepth 100000
namespace Go.Proofs.Yy.PTx
open Go.RowKit Go.Proofs.Yy.Z Go.Proofs.Yw.PrintWords Go.Proofs.Yw.PrintLast Go.Proofs.Yw.PrintMore
open Go.Proofs.Yy.M
attribute [local go_sem] runx_add64 runx_sub64 eql_cc eql_nc neq_cc neq_nc
attribute [local go_sem] max2_int min2_int max_two min_two max_three min_three max_four min_four
attribute [local go_sem high] eqA211
def twin_Shr.f (a0_0:Int) (a0_1:Int) (a1:Int):Option (Int × Int × Bool × Option Int):=if a1<0 then (some (0,0,false,some 1)) else ((twin_shr.f a0_0 a0_1 (mn a1 128)).bind fun bt553=>((twin_shl.f bt553.1 bt553.2 (mn a1 128)).bind fun bt556=>(some (bt553.1,bt553.2,(!(bt556.1 == a0_0) || (!(bt556.2 == a0_1))),none))))
def twin_Shr.T5:Bool × List (List Nat × List Nat):=(true, [([], []),([], []),([], []),([1,2], [1,2]),([], []),([3,4], [3,4]),([0,3,0], [0]),([5,6,0,1,2,3,4,5,6], [5]),([7,0,1,2,3,4,5,6,7], [])])
def twin_Shr.B5:List Nat := [0,0,0,6,0,30,15,127,255]
theorem twin_Shr.tab5:rtab .any (opsOf Tryz.f195 5)=twin_Shr.T5:=by kernel_rfl
theorem twin_Shr.bits5:waitsOk twin_Shr.T5.2 twin_Shr.B5=true:=by kernel_rfl
theorem twin_Shr.calls (a0_0:Int) (a0_1:Int) (a1:Int) (r1:Int) (r2:Int) (r3:Bool) (r4:Option Int) (w:World) (h:twin_Shr.f a0_0 a0_1 a1=some (r1,r2,r3,r4)) :
    Calls Tryz.prog 195 #[.agg #[.int .u64 a0_0, .int .u64 a0_1], .int .i64 a1] w fun e w'=>e = .returned (.tuple #[.agg #[.int .u64 r1, .int .u64 r2], .bool r3,errW r4])∧Below w.heap.size w w':=by
 have hu211:=Tryz.underlying211
 have hu27:=Tryz.underlying27
 have hu64:=Tryz.underlying64
 have HB:=am (Below.refl w.heap.size w)
 have H:=am h
 unfold twin_Shr.f at H
 clear h
 replace H:=zsd H
 rcases H with ⟨c3b0,H⟩|⟨c3b0,H⟩
 ·obtain ⟨rfl,rfl,rfl,rfl⟩:=zJ4 H
  go_enter Tryz.func195,Tryz.ntmps195
  go_wp2_with (first|((with_reducible refine gate_dst (N:=2) rfl ?_);refine zx 2 211 #[.int .u64 a0_0, .int .u64 a0_1] ?_;intro gb551 hg w4 hbox hb;have BK551:=am (hbox);have GW551:=zG hg HB;have GE551:=zG hg HB;replace HB:=zBs HB hb;clear hb hbox hg)|((with_reducible refine gate_dst (N:=4) rfl ?_);refine zx 4 211 #[.int .u64 0, .int .u64 0] ?_;intro gb552 hg w5 hbox hb;have BK552:=am (hbox);have GW552:=zG hg HB;have GE552:=zG hg HB;replace HB:=zBs HB hb;have NB551_552:=zNl hg BK551;have NB552_551:=zNg hg BK551;replace BK551:=zKb BK551 hb;clear hb hbox hg;have hnb6:=NB552_551.out;have hnc6:=NB551_552.out;obtain ⟨_,_,_,_⟩:=zf2 BK552))
  refine bodyPost_ret (results_ctt rfl _ _ gb552 211 #[.int .u64 0, .int .u64 0] (0,0) _ rfl (zKp BK552) Tryz.underlying211 rfl (by kernel_rfl)) rfl ?_
  exact ⟨z2,zB HB⟩
 generalize hji8:(mn a1 128:Int)=ji8 at H
 have hji8_:(if 128<a1 then 128 else a1)=ji8:=hji8
 replace H:=zo H
 obtain ⟨⟨t553,t554⟩,A9,H⟩:=H
 try dsimp only at H
 replace H:=zo H
 obtain ⟨⟨t556,t557⟩,A10,H⟩:=H
 try dsimp only at H
 obtain ⟨rfl,rfl,rfl,rfl⟩:=zJ4 H
 go_enter Tryz.func195,Tryz.ntmps195
 try go_wp2_with (first|((with_reducible refine gate_dst (N:=2) rfl ?_);refine zx 2 211 #[.int .u64 a0_0, .int .u64 a0_1] ?_;intro gb551 hg w11 hbox hb;have BK551:=am (hbox);have GW551:=zG hg HB;have GE551:=zG hg HB;replace HB:=zBs HB hb;clear hb hbox hg)|((with_reducible refine gate_dst (N:=4) rfl ?_);refine zx 4 211 #[.int .u64 0, .int .u64 0] ?_;intro gb552 hg w12 hbox hb;have BK552:=am (hbox);have GW552:=zG hg HB;have GE552:=zG hg HB;replace HB:=zBs HB hb;have NB551_552:=zNl hg BK551;have NB552_551:=zNg hg BK551;replace BK551:=zKb BK551 hb;clear hb hbox hg;have hnb13:=NB551_552.out;have hnc13:=NB552_551.out;obtain ⟨_,_,_,_⟩:=zf2 BK551)|((with_reducible refine gate_callee (f:=216) rfl ?_);refine goesL_ (some 16) rfl rfl Tryz.func216 (by kernel_rfl) rfl #[.agg #[.int .u64 a0_0, .int .u64 a0_1], .int .i64 ji8] rfl (by (try simp only [List.map_toArray,List.map_cons,List.map_nil]);first|done|(simp only [hji8];rfl)|rfl|(simp only [List.length_drop,List.length_take];rfl)) ?_;(with_reducible refine (twin_shr.calls _ _ _ _ _ _ A9.out).mono ?_);rintro e w15 ⟨rfl,hb⟩;refine ⟨_,rfl,?_⟩;replace BK551:=zKb BK551 hb;replace BK552:=zKb BK552 hb;replace HB:=zBs HB hb;clear hb)|((with_reducible refine gate_dst (N:=7) rfl ?_);refine zx 7 211 #[.int .u64 0, .int .u64 0] ?_;intro gb555 hg w16 hbox hb;have BK555:=am (hbox);have GW555:=zG hg HB;have GE555:=zG hg HB;replace HB:=zBs HB hb;have NB551_555:=zNl hg BK551;have NB555_551:=zNg hg BK551;replace BK551:=zKb BK551 hb;have NB552_555:=zNl hg BK552;have NB555_552:=zNg hg BK552;replace BK552:=zKb BK552 hb;clear hb hbox hg;have hnb17:=NB555_551.out;have hnc17:=NB551_555.out;have hnb18:=NB555_552.out;have hnc18:=NB552_555.out;obtain ⟨_,_,_,_⟩:=zf2 BK555))
 have n0_:Aside0 (((w16.setCell ⟨gb555,0,none⟩ (.int .u64 t553)).setCell ⟨gb555,1,none⟩ (.int .u64 t554)).heap[gb551]? = some (.cells #[.int .u64 a0_0, .int .u64 a0_1] 211 (0,0))):=⟨zK BK551⟩
 have n1_:Aside0 (((w16.setCell ⟨gb555,0,none⟩ (.int .u64 t553)).setCell ⟨gb555,1,none⟩ (.int .u64 t554)).heap[gb552]? = some (.cells #[.int .u64 0, .int .u64 0] 211 (0,0))):=⟨zK BK552⟩
 have n2_:Aside0 (((w16.setCell ⟨gb555,0,none⟩ (.int .u64 t553)).setCell ⟨gb555,1,none⟩ (.int .u64 t554)).heap[gb555]? = some (.cells #[.int .u64 t553, .int .u64 t554] 211 (0,0))):=⟨zKp BK555⟩
 have n3_:Aside0 (Below w.heap.size w ((w16.setCell ⟨gb555,0,none⟩ (.int .u64 t553)).setCell ⟨gb555,1,none⟩ (.int .u64 t554))):=⟨zB HB⟩
 (try clear BK551)
 (try clear BK552)
 (try clear BK555)
 (try clear HB)
 generalize ((w16.setCell ⟨gb555,0,none⟩ (.int .u64 t553)).setCell ⟨gb555,1,none⟩ (.int .u64 t554))=w20 at n0_ n1_ n2_ n3_ ⊢
 have BK551:=n0_
 have BK552:=n1_
 have BK555:=n2_
 have HB:=n3_
 clear n0_ n1_ n2_ n3_
 replace BK551:=am (blk_drew BK551.out)
 replace BK552:=am (blk_drew BK552.out)
 replace BK555:=am (blk_drew BK555.out)
 replace HB:=am (below_drew1 HB.out)
 refine start_ (n:=9) (S:=fun w'=>w'.cell? ⟨gb555,0,none⟩=some (.int .u64 t553)∧w'.cell? ⟨gb555,1,none⟩=some (.int .u64 t554)∧w'.cell? ⟨gb551,0,none⟩=some (.int .u64 a0_0)∧w'.cell? ⟨gb551,1,none⟩=some (.int .u64 a0_1)) (ds := []) (Array.replicate 9 false) (by kernel_rfl) rfl rfl ⟨(blk_cell BK555.out 0).trans rfl,(blk_cell BK555.out 1).trans rfl,(blk_cell BK551.out 0).trans rfl,(blk_cell BK551.out 1).trans rfl⟩ (fun hHeld=>?_);refine with_tabW twin_Shr.tab5 twin_Shr.bits5 (fun HT_ HW_=>?_)
 generalize w20.drew=w21 at BK551 BK552 BK555 HB hHeld ⊢
 refine zp HT_ 2 (some 19) ?_
 refine zt HT_ HW_ 0 (some 17) hHeld ?_
 refine zt HT_ HW_ 1 (some 18) hHeld ?_
 refine zt HT_ HW_ 4 (some 21) hHeld ?_
 refine zu HT_ 3 (some 20) (fun K hK=>?_)
 refine goes_ Tryz.func187 (by kernel_rfl) rfl #[.agg #[.int .u64 t553, .int .u64 t554], .int .i64 ji8] (by rfl) rfl rfl (by (try simp only [List.map_toArray,List.map_cons,List.map_nil]);first|done|(simp only [hji8];rfl)|rfl|(simp only [List.length_drop,List.length_take];rfl)) ?_
 with_reducible refine (twin_shl.calls t553 t554 ji8 t556 t557 _ A10.out).mono ?_
 rintro e w22 ⟨rfl,hb⟩
 refine ⟨_,rfl,?_⟩
 replace BK551:=zKb BK551 hb
 replace BK552:=zKb BK552 hb
 replace BK555:=zKb BK555 hb
 replace HB:=zBs HB hb
 (try clear hb)
 (try clear hb2)
 (try clear hk)
 (try clear hi)
 refine hK.out _ _ ⟨(blk_cell BK555.out 0).trans rfl,(blk_cell BK555.out 1).trans rfl,(blk_cell BK551.out 0).trans rfl,(blk_cell BK551.out 1).trans rfl⟩ (fun hHeld=>?_)
 clear hK K
 refine norm_ (a':=?_) ?_ ?_
 rotate_left
 ·show Act.put _ (some 20) _=_
  simp only [Act.put,List.setIfInBounds_toArray,List.set_cons_zero,List.set_cons_succ,i64_w,i32_w]
  rfl
 refine zp HT_ 5 (some 22) ?_
 refine zu HT_ 6 none (fun K hK=>?_)
 have hs23:=zl BK552 0
 have hfs23:=blk_frozen BK552.out 0
 have hns23_0:=NB551_552.out
 have hns23_2:=NB555_552.out
 have hms23_0:=NB552_551.out
 have hms23_2:=NB552_555.out
 have hs24:=zl BK552 1
 have hfs24:=blk_frozen BK552.out 1
 have hns24_0:=NB551_552.out
 have hns24_2:=NB555_552.out
 have hms24_0:=NB552_551.out
 have hms24_2:=NB552_555.out
 refine skip_ (w1:=?_) (by rfl) rfl ?_ ?_
 rotate_left
 ·go_simp
  rfl
 refine hK.out _ _ ⟨(zh hHeld),(zh hHeld),(zh hHeld),(zh hHeld)⟩ (fun hHeld=>?_)
 clear hK K
 refine zp HT_ 7 (some 5) ?_
 refine zp HT_ 8 (some 6) ?_
 refine done_ (done_of HT_.out (by kernel_rfl)) ?_
 try go_wp2
 refine bodyPost_ret (results_ctt rfl _ _ gb552 211 #[.int .u64 t553, .int .u64 t554] (0,0) _ rfl (zKp BK552) Tryz.underlying211 rfl (by kernel_rfl)) rfl ?_
 exact ⟨by first|exact z3|(simp only [← hji8];exact z3)|exact z2,zB HB⟩
def round_under.f (a0_0:Int) (a0_1:Int) (a1:Int) (a2:Int) (a3:Bool):Option (Int × Int × Bool):=(twin_Shr.f a0_0 a0_1 a2).bind fun bt560=>(if 0≤(wrap64 (64 - a2)) then (if a3=true then (some (Go.bits .or .u64 bt560.1 (shl .u64 a1 (wrap64 (64 - a2))),bt560.2.1,true)) else (some (Go.bits .or .u64 bt560.1 (shl .u64 a1 (wrap64 (64 - a2))),bt560.2.1,bt560.2.2.1))) else (none))
def round_under.T2:Bool × List (List Nat × List Nat):=(true, [([], []),([0], [0]),([], []),([], []),([3], [3]),([2,4], [2,4]),([1,5], [1,5]),([0,1,2,3,4,5,6], []),([7,6,0,1,2,3,4,5,6], [6,7])])
def round_under.B2:List Nat := [0,1,0,0,8,28,63,127,255]
theorem round_under.tab2:rtab .any (opsOf Tryz.f158 2)=round_under.T2:=by kernel_rfl
theorem round_under.bits2:waitsOk round_under.T2.2 round_under.B2=true:=by kernel_rfl
theorem round_under.calls (a0_0:Int) (a0_1:Int) (a1:Int) (a2:Int) (a3:Bool) (r1:Int) (r2:Int) (r3:Bool) (w:World) (h:round_under.f a0_0 a0_1 a1 a2 a3=some (r1,r2,r3)) :
    Calls Tryz.prog 158 #[.agg #[.int .u64 a0_0, .int .u64 a0_1], .int .u64 a1, .int .i64 a2, .bool a3] w fun e w'=>e = .returned (.tuple #[.agg #[.int .u64 r1, .int .u64 r2], .bool r3])∧Below w.heap.size w w':=by
 have hu211:=Tryz.underlying211
 have HB:=am (Below.refl w.heap.size w)
 have H:=am h
 unfold round_under.f at H
 clear h
 replace H:=zo H
 obtain ⟨⟨t560,t561,t562,t563⟩,A5,H⟩:=H
 try dsimp only at H
 generalize hji6:(wrap64 (64 - a2):Int)=ji6 at H
 (try rw [hji6] at A5)
 have hji6w:(IntKind.i64.wrap (64 - a2))=ji6:=(i64_w _).trans hji6
 replace H:=zit H
 obtain ⟨c7b0,c7b1,H⟩:=H
 generalize hji8:(shl .u64 a1 (ji6):Int)=ji8 at H
 (try rw [hji8] at A5)
 have hji8_:(IntKind.u64.wrap (a1 * 2 ^ min (ji6).toNat 64))=ji8:=hji8
 have hji8z:(ji6)≤64→(IntKind.u64.wrap (a1 * 2 ^ (ji6).toNat))=ji8:=shl_small hji8
 cases a3
 replace H:=zb0 H
 obtain ⟨rfl,rfl,rfl⟩:=zJ3 H
 rotate_left
 replace H:=zb1 H
 obtain ⟨rfl,rfl,rfl⟩:=zJ3 H
 rotate_left
 all_goals (go_enter Tryz.func158,Tryz.ntmps158;try go_wp2_with (first|((with_reducible refine gate_dst (N:=4) rfl ?_);refine zx 4 211 #[.int .u64 a0_0, .int .u64 a0_1] ?_;intro gb558 hg w24 hbox hb;have BK558:=am (hbox);have GW558:=zG hg HB;have GE558:=zG hg HB;replace HB:=zBs HB hb;clear hb hbox hg)|((with_reducible refine gate_dst (N:=8) rfl ?_);refine zx 8 211 #[.int .u64 0, .int .u64 0] ?_;intro gb559 hg w25 hbox hb;have BK559:=am (hbox);have GW559:=zG hg HB;have GE559:=zG hg HB;replace HB:=zBs HB hb;have NB558_559:=zNl hg BK558;have NB559_558:=zNg hg BK558;replace BK558:=zKb BK558 hb;clear hb hbox hg;have hnb26:=NB558_559.out;have hnc26:=NB559_558.out;obtain ⟨_,_,_,_⟩:=zf2 BK558)|((with_reducible refine gate_callee (f:=195) rfl ?_);refine zc (some 16) Tryz.func195 _ (twin_Shr.calls _ _ _ _ _ _ _ _ A5.out) ?_;rintro e w28 ⟨rfl,hb⟩;refine ⟨_,rfl,?_⟩;replace BK558:=zKb BK558 hb;replace BK559:=zKb BK559 hb;replace HB:=zBs HB hb;clear hb;(try simp only [errW_none,errW_some]))|((with_reducible refine gate_dst (N:=10) rfl ?_);refine zx 10 211 #[.int .u64 0, .int .u64 0] ?_;intro gb564 hg w29 hbox hb;have BK564:=am (hbox);have GW564:=zG hg HB;have GE564:=zG hg HB;replace HB:=zBs HB hb;have NB558_564:=zNl hg BK558;have NB564_558:=zNg hg BK558;replace BK558:=zKb BK558 hb;have NB559_564:=zNl hg BK559;have NB564_559:=zNg hg BK559;replace BK559:=zKb BK559 hb;clear hb hbox hg;have hnb30:=NB564_558.out;have hnc30:=NB558_564.out;have hnb31:=NB564_559.out;have hnc31:=NB559_564.out;obtain ⟨_,_,_,_⟩:=zf2 BK564)))
 all_goals
  have n0_:Aside0 (((w29.setCell ⟨gb564,0,none⟩ (.int .u64 t560)).setCell ⟨gb564,1,none⟩ (.int .u64 t561)).heap[gb558]? = some (.cells #[.int .u64 a0_0, .int .u64 a0_1] 211 (0,0))):=⟨zK BK558⟩
  have n1_:Aside0 (((w29.setCell ⟨gb564,0,none⟩ (.int .u64 t560)).setCell ⟨gb564,1,none⟩ (.int .u64 t561)).heap[gb559]? = some (.cells #[.int .u64 0, .int .u64 0] 211 (0,0))):=⟨zK BK559⟩
  have n2_:Aside0 (((w29.setCell ⟨gb564,0,none⟩ (.int .u64 t560)).setCell ⟨gb564,1,none⟩ (.int .u64 t561)).heap[gb564]? = some (.cells #[.int .u64 t560, .int .u64 t561] 211 (0,0))):=⟨zKp BK564⟩
  have n3_:Aside0 (Below w.heap.size w ((w29.setCell ⟨gb564,0,none⟩ (.int .u64 t560)).setCell ⟨gb564,1,none⟩ (.int .u64 t561))):=⟨zB HB⟩
  (try clear BK558)
  (try clear BK559)
  (try clear BK564)
  (try clear HB)
 ·generalize ((w29.setCell ⟨gb564,0,none⟩ (.int .u64 t560)).setCell ⟨gb564,1,none⟩ (.int .u64 t561))=w33 at n0_ n1_ n2_ n3_ ⊢
  have BK558:=n0_
  have BK559:=n1_
  have BK564:=n2_
  have HB:=n3_
  clear n0_ n1_ n2_ n3_
  replace BK558:=am (blk_drew BK558.out)
  replace BK559:=am (blk_drew BK559.out)
  replace BK564:=am (blk_drew BK564.out)
  replace HB:=am (below_drew1 HB.out)
  refine start_ (n:=9) (S:=fun w'=>w'.cell? ⟨gb564,0,none⟩=some (.int .u64 t560)∧w'.cell? ⟨gb564,1,none⟩=some (.int .u64 t561)) (ds := [8]) (Array.replicate 9 false) (by kernel_rfl) rfl rfl ⟨(blk_cell BK564.out 0).trans rfl,(blk_cell BK564.out 1).trans rfl⟩ (fun hHeld=>?_);refine with_tabW round_under.tab2 round_under.bits2 (fun HT_ HW_=>?_)
  generalize w33.drew=w34 at BK558 BK559 BK564 HB hHeld ⊢
  refine zp HT_ 0 (some 20) ?_
  refine zp HT_ 2 (some 22) ?_
  refine zp HT_ 3 (some 23) ?_
  refine zp HT_ 4 (some 24) ?_
  refine zp HT_ 5 (some 25) ?_
  refine zt HT_ HW_ 1 (some 21) hHeld ?_
  refine zp HT_ 6 (some 26) ?_
  refine zp HT_ 7 (some 27) ?_
  refine last_ (i:=8) (N:=none) #[true,true,true,true,true,true,true,true,true] rfl rfl (one_of HT_.out (by kernel_rfl)) (by decide) (fun K hK=>?_)
  have hs35:=zl BK564 0
  have hfs35:=blk_frozen BK564.out 0
  have hns35_0:=NB558_564.out
  have hns35_1:=NB559_564.out
  have hms35_0:=NB564_558.out
  have hms35_1:=NB564_559.out
  refine skip_ (w1:=?_) (by rfl) rfl ?_ ?_
  rotate_left
  ·go_simp
   rfl
  refine hK.out _ _ ?_
  clear hK K
  refine done_ (done_of HT_.out (by kernel_rfl)) ?_
  obtain ⟨_,_,_,_⟩:=zf2 BK564
  obtain ⟨_,_,_,_⟩:=zf2 BK559
  try go_wp2
  refine bodyPost_ret (results_ct rfl _ _ gb559 211 #[.int .u64 (Go.bits .or .u64 t560 (ji8)), .int .u64 t561] (0,0) _ rfl (zKp BK559) Tryz.underlying211 rfl (by kernel_rfl)) rfl ?_
  exact ⟨by first|exact z3|(simp only [← hji6, ← hji8];exact z3)|exact z2,zB HB⟩
 generalize ((w29.setCell ⟨gb564,0,none⟩ (.int .u64 t560)).setCell ⟨gb564,1,none⟩ (.int .u64 t561))=w19 at n0_ n1_ n2_ n3_ ⊢
 have BK558:=n0_
 have BK559:=n1_
 have BK564:=n2_
 have HB:=n3_
 clear n0_ n1_ n2_ n3_
 replace BK558:=am (blk_drew BK558.out)
 replace BK559:=am (blk_drew BK559.out)
 replace BK564:=am (blk_drew BK564.out)
 replace HB:=am (below_drew1 HB.out)
 refine start_ (n:=9) (S:=fun w'=>w'.cell? ⟨gb564,0,none⟩=some (.int .u64 t560)∧w'.cell? ⟨gb564,1,none⟩=some (.int .u64 t561)) (ds := [8]) (Array.replicate 9 false) (by kernel_rfl) rfl rfl ⟨(blk_cell BK564.out 0).trans rfl,(blk_cell BK564.out 1).trans rfl⟩ (fun hHeld=>?_);refine with_tabW round_under.tab2 round_under.bits2 (fun HT_ HW_=>?_)
 generalize w19.drew=w20 at BK558 BK559 BK564 HB hHeld ⊢
 refine zp HT_ 0 (some 20) ?_
 refine zp HT_ 2 (some 22) ?_
 refine zp HT_ 3 (some 23) ?_
 refine zp HT_ 4 (some 24) ?_
 refine zp HT_ 5 (some 25) ?_
 refine zt HT_ HW_ 1 (some 21) hHeld ?_
 refine zp HT_ 6 (some 26) ?_
 refine zp HT_ 7 (some 27) ?_
 refine last_ (i:=8) (N:=none) #[true,true,true,true,true,true,true,true,true] rfl rfl (one_of HT_.out (by kernel_rfl)) (by decide) (fun K hK=>?_)
 have hs21:=zl BK564 0
 have hfs21:=blk_frozen BK564.out 0
 have hns21_0:=NB558_564.out
 have hns21_1:=NB559_564.out
 have hms21_0:=NB564_558.out
 have hms21_1:=NB564_559.out
 refine skip_ (w1:=?_) (by rfl) rfl ?_ ?_
 rotate_left
 ·go_simp
  rfl
 refine hK.out _ _ ?_
 clear hK K
 refine done_ (done_of HT_.out (by kernel_rfl)) ?_
 obtain ⟨_,_,_,_⟩:=zf2 BK564
 obtain ⟨_,_,_,_⟩:=zf2 BK559
 try go_wp2
 refine bodyPost_ret (results_ct rfl _ _ gb559 211 #[.int .u64 (Go.bits .or .u64 t560 (ji8)), .int .u64 t561] (0,0) _ rfl (zKp BK559) Tryz.underlying211 rfl (by kernel_rfl)) rfl ?_
 exact ⟨by first|exact z3|(simp only [← hji6, ← hji8];exact z3)|exact z2,zB HB⟩
def round_left.j0:Nat→Int→Bool→Int→Bool→Option (Int)
  | 0,_,_,_,_=>none
  | k+1,x0,x1,x5,x6=>if x6=true then (some 3) else (if x0=x5 then (some 2) else (if x0 > 0 then (some 1) else (if x1=true then (some 1) else (some 0))))
def round_left.f (k:Nat) (a0:Int) (a1:Bool):Option (Int):=if a0 > 9223372036854775808 then (round_left.j0 k a0 a1 9223372036854775808 (decide (a0 > 9223372036854775808))) else (if a0=9223372036854775808 then (round_left.j0 k a0 a1 9223372036854775808 a1) else (round_left.j0 k a0 a1 9223372036854775808 false))
theorem round_left.mono_l:∀ k,(∀ y0 y1 y2 y3,LeO (round_left.j0 k y0 y1 y2 y3) (round_left.j0 (k+1) y0 y1 y2 y3))
  | 0=>fun _ _ _ _ r h=>by simp [round_left.j0] at h
  | k+1=>by
    have ih0:=round_left.mono_l k
    · intro y0 y1 y2 y3
      unfold round_left.j0
      repeat' (with_reducible first|exact ih0 _ _ _ _|exact zm|exact zv|refine zI ?_ ?_|refine zO ?_ fun _=>?_)
theorem round_left.mono:∀ a0 a1 k,LeO (round_left.f k a0 a1) (round_left.f (k+1) a0 a1):=by
  intro a0 a1 k
  have ih0:=round_left.mono_l k
  unfold round_left.f
  repeat' (with_reducible first|exact ih0 _ _ _ _|exact zm|exact zv|refine zI ?_ ?_|refine zO ?_ fun _=>?_)
theorem round_left.calls (k:Nat) (a0:Int) (a1:Bool) (r:Int) (w:World) (h:round_left.f k a0 a1=some r) :
    Calls Tryz.prog 159 #[.int .u64 a0, .bool a1] w fun e w'=>e = .returned (.int .i64 r)∧Drawn0 w w':=by
 have H:=am h
 unfold round_left.f at H
 clear h
 go_enter Tryz.func159,Tryz.ntmps159
 go_upto_if 6 with (fail)
 go_cut [6] (fun v6 wc => ∃ (kq:Nat) (x6_2:Bool),v6 = .bool x6_2∧Aside0 (round_left.j0 kq a0 a1 9223372036854775808 x6_2=some r)∧Aside0 (kq≤k)∧Drawn0 w wc)
 case first =>
  replace H:=zsdg H
  rcases H with ⟨c4b0,H⟩|⟨c4b0,H⟩
  (first|rw [c4b0]|(simp only [i64_w,i32_w];rw [c4b0])|rw [c4b1]|skip)
  rotate_left
  (first|rw [c4b0]|(simp only [i64_w,i32_w];rw [c4b0])|rw [c4b1]|skip)
  replace H:=zsk H
  rcases H with ⟨c5b0,c5b1,H⟩|⟨c5b0,c5b1,c5,H⟩
  rotate_left
  rotate_left
  all_goals (go_wp2)
  ·go_meet
   case rel=>exact ⟨_,(decide (a0 > 9223372036854775808)),z1,H,⟨z5⟩,z4⟩
  ·go_meet
   case rel=>exact ⟨_,(a1),z1,H,⟨z5⟩,z4⟩
  go_meet
  case rel=>exact ⟨_,(false),z1,H,⟨z5⟩,z4⟩
 case rest =>
  obtain ⟨kq,x6_2,rfl,H,HJ2,⟨mc2,rfl⟩⟩:=hcut
  obtain _|kj2:=kq
  ·exact zz H rfl
  simp only [round_left.j0] at H
  cases x6_2
  replace H:=zb0 H
  replace H:=zsk H
  rcases H with ⟨c7b0,c7b1,H⟩|⟨c7b0,c7b1,c7,H⟩
  obtain rfl:=Option.some.inj H.out
  rotate_left
  replace H:=zsdg H
  rcases H with ⟨c8b0,H⟩|⟨c8b0,H⟩
  obtain rfl:=Option.some.inj H.out
  rotate_left
  cases a1
  replace H:=zb0 H
  obtain rfl:=Option.some.inj H.out
  rotate_left
  replace H:=zb1 H
  obtain rfl:=Option.some.inj H.out
  rotate_left
  replace H:=zb1 H
  obtain rfl:=Option.some.inj H.out
  rotate_left
  all_goals (go_wp2)
  ·go_ret
   exact ⟨z1,z4⟩
  ·go_ret
   exact ⟨z1,z4⟩
  ·go_ret
   exact ⟨z1,z4⟩
  ·go_ret
   exact ⟨z1,z4⟩
  go_ret
  exact ⟨z1,z4⟩
end Go.Proofs.Yy.PTx
end
section
set_option maxHeartbeats 8000000
set_option maxRecDepth 100000
namespace Go.Proofs.Yy.PTx
open Go.RowKit Go.Proofs.Yy.Z Go.Proofs.Yw.PrintWords Go.Proofs.Yw.PrintLast Go.Proofs.Yw.PrintMore
open Go.Proofs.Yy.M
attribute [local go_sem] runx_add64 runx_sub64 eql_cc eql_nc neq_cc neq_nc
attribute [local go_sem] max2_int min2_int max_two min_two max_three min_three max_four min_four
def scan_trim.f (a0_0:Bool) (a0_1:Bool) (a0_2:ByteArray) (a0_3:Int):Option (Bool × Bool × ByteArray × Int):=if a0_0=true then (some (a0_0,a0_1,a0_2,a0_3)) else ((strings_TrimLeft.f a0_2 (⟨#[48]⟩:ByteArray)).bind fun t103=>(if t103.toList=([]:List UInt8) then (some (false,false,(⟨#[48]⟩:ByteArray),0)) else ((strings_TrimRight.f t103 (⟨#[48]⟩:ByteArray)).bind fun t104=>(if 0≤(wrap64 ((t103.size:Int) - (mn (wrap64 ((t103.size:Int) - (t104.size:Int))) (wrap64 (1000000 - a0_3))))) then (if (wrap64 ((t103.size:Int) - (mn (wrap64 ((t103.size:Int) - (t104.size:Int))) (wrap64 (1000000 - a0_3)))))≤(t103.size:Int) then (some (a0_0,a0_1,t103.extract 0 ((wrap64 ((t103.size:Int) - (mn (wrap64 ((t103.size:Int) - (t104.size:Int))) (wrap64 (1000000 - a0_3))))):Int).toNat,wrap64 (a0_3+(mn (wrap64 ((t103.size:Int) - (t104.size:Int))) (wrap64 (1000000 - a0_3)))))) else (none)) else (none)))))
def scan_trim.T6:Bool × List (List Nat × List Nat):=(true, [([], []),([0], [0]),([1], [1]),([], []),([3], [3]),([4], [4]),([5], [5]),([2,6], [2,6]),([7,5,0,1,2,3,4,5,6,7], [7])])
def scan_trim.B6:List Nat := [0,1,3,0,8,24,56,127,255]
theorem scan_trim.tab6:rtab .any (opsOf Tryz.f64 6)=scan_trim.T6:=by kernel_rfl
theorem scan_trim.bits6:waitsOk scan_trim.T6.2 scan_trim.B6=true:=by kernel_rfl
theorem scan_trim.calls (a0_0:Bool) (a0_1:Bool) (a0_2:ByteArray) (a0_3:Int) (r1:Bool) (r2:Bool) (r3:ByteArray) (r4:Int) (w:World) (h:scan_trim.f a0_0 a0_1 a0_2 a0_3=some (r1,r2,r3,r4)) :
    Calls Tryz.prog 64 #[.agg #[.bool a0_0, .bool a0_1, .string a0_2, .int .i64 a0_3]] w fun e w'=>e = .returned (.agg #[.bool r1, .bool r2, .string r3, .int .i64 r4])∧Below w.heap.size w w':=by
 have hu23:=Tryz.underlying23
 have HB:=am (Below.refl w.heap.size w)
 have H:=am h
 unfold scan_trim.f at H
 clear h
 cases a0_0
 replace H:=zb0 H
 replace H:=zo H
 obtain ⟨t103,A8,H⟩:=H
 replace H:=zsk H
 rcases H with ⟨c9b0,c9b1,H⟩|⟨c9b0,c9b1,c9,H⟩
 obtain ⟨rfl,rfl,rfl,rfl⟩:=zJ4 H
 rotate_left
 ·replace H:=zo H
  obtain ⟨t104,A17,H⟩:=H
  generalize hji18:(mn (wrap64 ((t103.size:Int) - (t104.size:Int))) (wrap64 (1000000 - a0_3)):Int)=ji18 at H
  (try rw [hji18] at A8)
  (try rw [hji18] at A17)
  have hji18_:(if (wrap64 (1000000 - a0_3))<(wrap64 ((t103.size:Int) - (t104.size:Int))) then (wrap64 (1000000 - a0_3)) else (wrap64 ((t103.size:Int) - (t104.size:Int))))=ji18:=hji18
  generalize hji19:(wrap64 ((t103.size:Int) - (ji18)):Int)=ji19 at H
  (try rw [hji19] at A8)
  (try rw [hji19] at A17)
  have hji19w:(IntKind.i64.wrap ((t103.size:Int) - (ji18)))=ji19:=(i64_w _).trans hji19
  replace H:=zit H
  obtain ⟨c20b0,c20b1,H⟩:=H
  replace H:=zit H
  obtain ⟨c21b0,c21b1,H⟩:=H
  obtain ⟨rfl,rfl,rfl,rfl⟩:=zJ4 H
  go_enter Tryz.func64,Tryz.ntmps64
  try go_wp2_with (first|((with_reducible refine gate_dst (N:=1) rfl ?_);refine zx 1 23 #[.bool false, .bool a0_1, .string a0_2, .int .i64 a0_3] ?_;intro gb101 hg w22 hbox hb;have BK101:=am (hbox);have GW101:=zG hg HB;have GE101:=zG hg HB;replace HB:=zBs HB hb;clear hb hbox hg)|((with_reducible refine gate_dst (N:=2) rfl ?_);refine zx 2 23 #[.bool false, .bool false, .string (⟨#[]⟩:ByteArray), .int .i64 0] ?_;intro gb102 hg w23 hbox hb;have BK102:=am (hbox);have GW102:=zG hg HB;have GE102:=zG hg HB;replace HB:=zBs HB hb;have NB101_102:=zNl hg BK101;have NB102_101:=zNg hg BK101;replace BK101:=zKb BK101 hb;clear hb hbox hg;have hnb24:=NB101_102.out;have hnc24:=NB102_101.out;obtain ⟨_,_,_,_,_,_,_,_⟩:=zf4 BK101)|((with_reducible refine gate_callee (f:=118) rfl ?_);refine zc (some 9) Tryz.func118 _ (strings_TrimLeft.calls _ _ _ _ A8.out) ?_;rintro e w26 ⟨rfl,hb⟩;refine ⟨_,rfl,?_⟩;replace BK101:=zKb BK101 hb;replace BK102:=zKb BK102 hb;replace HB:=zBs HB hb;clear hb;obtain ⟨_,_,_,_,_,_,_,_⟩:=zf4 BK101))
  have n0_:Aside0 ((w26.setCell ⟨gb101,2,none⟩ (.string t103)).heap[gb101]? = some (.cells #[.bool false, .bool a0_1, .string t103, .int .i64 a0_3] 23 (0,0))):=⟨zKp BK101⟩
  have n1_:Aside0 ((w26.setCell ⟨gb101,2,none⟩ (.string t103)).heap[gb102]? = some (.cells #[.bool false, .bool false, .string (⟨#[]⟩:ByteArray), .int .i64 0] 23 (0,0))):=⟨zK BK102⟩
  have n2_:Aside0 (Below w.heap.size w (w26.setCell ⟨gb101,2,none⟩ (.string t103))):=⟨zB HB⟩
  (try clear BK101)
  (try clear BK102)
  (try clear HB)
  generalize (w26.setCell ⟨gb101,2,none⟩ (.string t103))=w28 at n0_ n1_ n2_ ⊢
  have BK101:=n0_
  have BK102:=n1_
  have HB:=n2_
  clear n0_ n1_ n2_
  replace BK101:=am (blk_drew BK101.out)
  replace BK102:=am (blk_drew BK102.out)
  replace HB:=am (below_drew1 HB.out)
  refine start_ (n:=9) (S:=fun w'=>w'.cell? ⟨gb101,0,none⟩=some (.bool false)∧w'.cell? ⟨gb101,1,none⟩=some (.bool a0_1)∧w'.cell? ⟨gb101,2,none⟩=some (.string t103)∧w'.cell? ⟨gb101,3,none⟩=some (.int .i64 a0_3)) (ds := []) (Array.replicate 9 false) (by kernel_rfl) rfl rfl ⟨(blk_cell BK101.out 0).trans rfl,(blk_cell BK101.out 1).trans rfl,(blk_cell BK101.out 2).trans rfl,(blk_cell BK101.out 3).trans rfl⟩ (fun hHeld=>?_);refine with_tabW scan_trim.tab6 scan_trim.bits6 (fun HT_ HW_=>?_)
  generalize w28.drew=w29 at BK101 BK102 HB hHeld ⊢
  refine zp HT_ 0 (some 15) ?_
  refine zp HT_ 3 (some 18) ?_
  refine zt HT_ HW_ 1 (some 16) hHeld ?_
  refine zp HT_ 2 (some 17) ?_
  refine zt HT_ HW_ 4 (some 19) hHeld ?_
  refine zu HT_ 5 (some 20) (fun K hK=>?_)
  refine goes_ Tryz.func119 (by kernel_rfl) rfl #[.string t103, .string (⟨#[48]⟩:ByteArray)] (by rfl) rfl rfl (by (try simp only [List.map_toArray,List.map_cons,List.map_nil]);first|done|rfl|(simp only [List.length_drop,List.length_take];rfl)) ?_
  with_reducible refine (strings_TrimRight.calls t103 (⟨#[48]⟩:ByteArray) t104 _ A17.out).mono ?_
  rintro e w30 ⟨rfl,hb⟩
  refine ⟨_,rfl,?_⟩
  replace BK101:=zKb BK101 hb
  replace BK102:=zKb BK102 hb
  replace HB:=zBs HB hb
  (try clear hb)
  (try clear hb2)
  (try clear hk)
  (try clear hi)
  refine hK.out _ _ ⟨(blk_cell BK101.out 0).trans rfl,(blk_cell BK101.out 1).trans rfl,(blk_cell BK101.out 2).trans rfl,(blk_cell BK101.out 3).trans rfl⟩ (fun hHeld=>?_)
  clear hK K
  refine norm_ (a':=?_) ?_ ?_
  rotate_left
  ·show Act.put _ (some 20) _=_
   simp only [Act.put,List.setIfInBounds_toArray,List.set_cons_zero,List.set_cons_succ,i64_w,i32_w]
   rfl
  refine zp HT_ 6 (some 21) ?_
  refine zp HT_ 7 (some 22) ?_
  refine zp HT_ 8 (some 3) ?_
  refine done_ (done_of HT_.out (by kernel_rfl)) ?_
  obtain ⟨_,_,_,_,_,_,_,_⟩:=zf4 BK101
  obtain ⟨_,_,_,_,_,_,_,_⟩:=zf4 BK102
  try go_wp2
  refine bodyPost_ret (results_cell_row rfl _ _ gb102 23 #[.bool false, .bool a0_1, .string (t103.extract 0 ((ji19):Int).toNat), .int .i64 (wrap64 (a0_3+(ji18)))] (0,0) _ rfl (zKp BK102) Tryz.underlying23 rfl (by kernel_rfl)) rfl ?_
  exact ⟨by first|exact z3|(simp only [← hji18, ← hji19];exact z3)|exact z2,zB HB⟩
 replace H:=zb1 H
 obtain ⟨rfl,rfl,rfl,rfl⟩:=zJ4 H
 rotate_left
 all_goals (go_enter Tryz.func64,Tryz.ntmps64;go_wp2_with (first|((with_reducible refine gate_dst (N:=1) rfl ?_);refine zx 1 23 #[.bool false, .bool a0_1, .string a0_2, .int .i64 a0_3] ?_;intro gb101 hg w10 hbox hb;have BK101:=am (hbox);have GW101:=zG hg HB;have GE101:=zG hg HB;replace HB:=zBs HB hb;clear hb hbox hg)|((with_reducible refine gate_dst (N:=2) rfl ?_);refine zx 2 23 #[.bool false, .bool false, .string (⟨#[]⟩:ByteArray), .int .i64 0] ?_;intro gb102 hg w11 hbox hb;have BK102:=am (hbox);have GW102:=zG hg HB;have GE102:=zG hg HB;replace HB:=zBs HB hb;have NB101_102:=zNl hg BK101;have NB102_101:=zNg hg BK101;replace BK101:=zKb BK101 hb;clear hb hbox hg;have hnb12:=NB101_102.out;have hnc12:=NB102_101.out;obtain ⟨_,_,_,_,_,_,_,_⟩:=zf4 BK101;obtain ⟨_,_,_,_,_,_,_,_⟩:=zf4 BK102)|((with_reducible refine gate_callee (f:=118) rfl ?_);refine zc (some 9) Tryz.func118 _ (strings_TrimLeft.calls _ _ _ _ A8.out) ?_;rintro e w14 ⟨rfl,hb⟩;refine ⟨_,rfl,?_⟩;replace BK101:=zKb BK101 hb;replace BK102:=zKb BK102 hb;replace HB:=zBs HB hb;clear hb;obtain ⟨_,_,_,_,_,_,_,_⟩:=zf4 BK101;obtain ⟨_,_,_,_,_,_,_,_⟩:=zf4 BK102)|((with_reducible refine gate_dst (N:=1) rfl ?_);refine zx 1 23 #[.bool true, .bool a0_1, .string a0_2, .int .i64 a0_3] ?_;intro gb101 hg w3 hbox hb;have BK101:=am (hbox);have GW101:=zG hg HB;have GE101:=zG hg HB;replace HB:=zBs HB hb;clear hb hbox hg)))
 ·refine bodyPost_ret (results_cell_row rfl _ _ gb102 23 #[.bool false, .bool false, .string (⟨#[48]⟩:ByteArray), .int .i64 0] (0,0) _ rfl (zKp BK102) Tryz.underlying23 rfl (by kernel_rfl)) rfl ?_
  exact ⟨z2,zB HB⟩
 refine bodyPost_ret (results_cell_row rfl _ _ gb102 23 #[.bool true, .bool a0_1, .string a0_2, .int .i64 a0_3] (0,0) _ rfl (zKp BK102) Tryz.underlying23 rfl (by kernel_rfl)) rfl ?_
 exact ⟨z2,zB HB⟩
end Go.Proofs.Yy.PTx
end
section
set_option maxHeartbeats 8000000
set_option maxRecDepth 100000
namespace Go.Proofs.Yy.PTx
open Go.RowKit Go.Proofs.Yy.Z Go.Proofs.Yw.PrintWords Go.Proofs.Yw.PrintLast Go.Proofs.Yw.PrintMore
open Go.Proofs.Yy.M
attribute [local go_sem] runx_add64 runx_sub64 eql_cc eql_nc neq_cc neq_nc
attribute [local go_sem] max2_int min2_int max_two min_two max_three min_three max_four min_four
attribute [local go_sem high] eqA23
def scan_formed.f (a0_0:Bool) (a0_1:Bool) (a0_2:ByteArray) (a0_3:Int):Option (Bool):=if a0_0=true then (some (a0_0 && (!a0_1 && (a0_2.toList == ([]:List UInt8) && (a0_3 == 0))))) else (if a0_2.toList=([]:List UInt8) then (some false) else (if (a0_2.size:Int) > 4096 then (some false) else (if a0_3<(-1000000) then (some false) else (if a0_3 > 1000000 then (some false) else ((strings_Trim.f a0_2 (⟨#[48,49,50,51,52,53,54,55,56,57]⟩:ByteArray)).bind fun t106=>(some (t106.toList == ([]:List UInt8))))))))
theorem scan_formed.calls (a0_0:Bool) (a0_1:Bool) (a0_2:ByteArray) (a0_3:Int) (r:Bool) (w:World) (h:scan_formed.f a0_0 a0_1 a0_2 a0_3=some r) :
    Calls Tryz.prog 65 #[.agg #[.bool a0_0, .bool a0_1, .string a0_2, .int .i64 a0_3]] w fun e w'=>e = .returned (.bool r)∧Below w.heap.size w w':=by
 have hu23:=Tryz.underlying23
 have HB:=am (Below.refl w.heap.size w)
 have H:=am h
 unfold scan_formed.f at H
 clear h
 cases a0_0
 replace H:=zb0 H
 replace H:=zsk H
 rcases H with ⟨c5b0,c5b1,H⟩|⟨c5b0,c5b1,c5,H⟩
 obtain rfl:=Option.some.inj H.out
 rotate_left
 replace H:=zs H
 rcases H with ⟨c8,H⟩|⟨c8,H⟩
 have c8b0:decide (4096<(a0_2.size:Int))=true:=decide_eq_true c8
 have c8b1:decide (4096<a0_2.size)=true:=decide_eq_true (by omega)
 clear c8
 obtain rfl:=Option.some.inj H.out
 rotate_left
 have c8b0:decide (4096<(a0_2.size:Int))=false:=decide_eq_false c8
 have c8b1:decide (4096<a0_2.size)=false:=decide_eq_false (by omega)
 clear c8
 replace H:=zsd H
 rcases H with ⟨c11b0,H⟩|⟨c11b0,H⟩
 obtain rfl:=Option.some.inj H.out
 rotate_left
 replace H:=zsdg H
 rcases H with ⟨c14b0,H⟩|⟨c14b0,H⟩
 obtain rfl:=Option.some.inj H.out
 rotate_left
 replace H:=zo H
 obtain ⟨t106,A17,H⟩:=H
 obtain rfl:=Option.some.inj H.out
 rotate_left
 replace H:=zb1 H
 obtain rfl:=Option.some.inj H.out
 rotate_left
 all_goals (go_enter Tryz.func65,Tryz.ntmps65;go_wp2_with (first|((with_reducible refine gate_dst (N:=1) rfl ?_);(try (refine gate_guard (by rfl) ?_;dsimp only));refine zx 1 23 #[.bool false, .bool a0_1, .string a0_2, .int .i64 a0_3] ?_;intro gb105 hg w18 hbox hb;have BK105:=am (hbox);have GW105:=zG hg HB;have GE105:=zG hg HB;replace HB:=zBs HB hb;clear hb hbox hg;obtain ⟨_,_,_,_,_,_,_,_⟩:=zf4 BK105)|((with_reducible refine gate_callee (f:=120) rfl ?_);refine zc (some 29) Tryz.func120 _ (strings_Trim.calls _ _ _ _ A17.out) ?_;rintro e w20 ⟨rfl,hb⟩;refine ⟨_,rfl,?_⟩;replace BK105:=zKb BK105 hb;replace HB:=zBs HB hb;clear hb)|((with_reducible refine gate_dst (N:=1) rfl ?_);(try (refine gate_guard (by rfl) ?_;dsimp only));refine zx 1 23 #[.bool true, .bool a0_1, .string a0_2, .int .i64 a0_3] ?_;intro gb105 hg w3 hbox hb;have BK105:=am (hbox);have GW105:=zG hg HB;have GE105:=zG hg HB;replace HB:=zBs HB hb;clear hb hbox hg;obtain ⟨_,_,_,_,_,_,_,_⟩:=zf4 BK105)))
 ·go_ret
  exact ⟨z2,zB HB⟩
 ·go_ret
  exact ⟨z2,zB HB⟩
 ·go_ret
  exact ⟨z2,zB HB⟩
 ·go_ret
  exact ⟨z2,zB HB⟩
 ·go_ret
  exact ⟨z2,zB HB⟩
 go_ret
 exact ⟨z2,zB HB⟩
def scan_Norm.f (a0_0:Bool) (a0_1:Bool) (a0_2:ByteArray) (a0_3:Int):Option (Bool × Bool × ByteArray × Int × Option Int):=(scan_formed.f a0_0 a0_1 a0_2 a0_3).bind fun t109=>(if t109=true then ((scan_trim.f a0_0 a0_1 a0_2 a0_3).bind fun bt110=>(some (bt110.1,bt110.2.1,bt110.2.2.1,bt110.2.2.2,none))) else (some (false,false,(⟨#[]⟩:ByteArray),0,some 23)))
theorem scan_Norm.calls (a0_0:Bool) (a0_1:Bool) (a0_2:ByteArray) (a0_3:Int) (r1:Bool) (r2:Bool) (r3:ByteArray) (r4:Int) (r5:Option Int) (w:World) (h:scan_Norm.f a0_0 a0_1 a0_2 a0_3=some (r1,r2,r3,r4,r5)) :
    Calls Tryz.prog 26 #[.agg #[.bool a0_0, .bool a0_1, .string a0_2, .int .i64 a0_3]] w fun e w'=>e = .returned (.tuple #[.agg #[.bool r1, .bool r2, .string r3, .int .i64 r4],errW r5])∧Below w.heap.size w w':=by
 have hu23:=Tryz.underlying23
 have hu27:=Tryz.underlying27
 have hu64:=Tryz.underlying64
 have HB:=am (Below.refl w.heap.size w)
 have H:=am h
 unfold scan_Norm.f at H
 clear h
 replace H:=zo H
 obtain ⟨t109,A2,H⟩:=H
 cases t109
 replace H:=zb0 H
 obtain ⟨rfl,rfl,rfl,rfl,rfl⟩:=zJ5 H
 rotate_left
 replace H:=zb1 H
 replace H:=zo H
 obtain ⟨⟨t110,t111,t112,t113⟩,A4,H⟩:=H
 try dsimp only at H
 obtain ⟨rfl,rfl,rfl,rfl,rfl⟩:=zJ5 H
 rotate_left
 all_goals (go_enter Tryz.func26,Tryz.ntmps26;go_wp2_with (first|((with_reducible refine gate_dst (N:=1) rfl ?_);refine zx 1 23 #[.bool a0_0, .bool a0_1, .string a0_2, .int .i64 a0_3] ?_;intro gb107 hg w5 hbox hb;have BK107:=am (hbox);have GW107:=zG hg HB;have GE107:=zG hg HB;replace HB:=zBs HB hb;clear hb hbox hg)|((with_reducible refine gate_dst (N:=2) rfl ?_);refine zx 2 23 #[.bool false, .bool false, .string (⟨#[]⟩:ByteArray), .int .i64 0] ?_;intro gb108 hg w6 hbox hb;have BK108:=am (hbox);have GW108:=zG hg HB;have GE108:=zG hg HB;replace HB:=zBs HB hb;have NB107_108:=zNl hg BK107;have NB108_107:=zNg hg BK107;replace BK107:=zKb BK107 hb;clear hb hbox hg;have hnb7:=NB107_108.out;have hnc7:=NB108_107.out;obtain ⟨_,_,_,_,_,_,_,_⟩:=zf4 BK107)|((with_reducible refine gate_callee (f:=65) rfl ?_);refine zc (some 5) Tryz.func65 _ (scan_formed.calls _ _ _ _ _ _ A2.out) ?_;rintro e w9 ⟨rfl,hb⟩;refine ⟨_,rfl,?_⟩;replace BK107:=zKb BK107 hb;replace BK108:=zKb BK108 hb;replace HB:=zBs HB hb;clear hb;obtain ⟨_,_,_,_,_,_,_,_⟩:=zf4 BK107;obtain ⟨_,_,_,_,_,_,_,_⟩:=zf4 BK108)|((with_reducible refine gate_callee (f:=64) rfl ?_);refine zc (some 10) Tryz.func64 _ (scan_trim.calls _ _ _ _ _ _ _ _ _ A4.out) ?_;rintro e w11 ⟨rfl,hb⟩;refine ⟨_,rfl,?_⟩;replace BK107:=zKb BK107 hb;replace BK108:=zKb BK108 hb;replace HB:=zBs HB hb;clear hb;obtain ⟨_,_,_,_,_,_,_,_⟩:=zf4 BK108)))
 ·refine bodyPost_ret (results_ct rfl _ _ gb108 23 #[.bool false, .bool false, .string (⟨#[]⟩:ByteArray), .int .i64 0] (0,0) _ rfl (zKp BK108) Tryz.underlying23 rfl (by kernel_rfl)) rfl ?_
  exact ⟨z2,zB HB⟩
 refine bodyPost_ret (results_ct rfl _ _ gb108 23 #[.bool t110, .bool t111, .string t112, .int .i64 t113] (0,0) _ rfl (zKp BK108) Tryz.underlying23 rfl (by kernel_rfl)) rfl ?_
 exact ⟨z2,zB HB⟩
def shape_is.f (a0:Int):Option (Bool):=if a0=8 then (some true) else (if a0=16 then (some true) else (if a0=32 then (some true) else (if a0=64 then (some true) else (some false))))
theorem shape_is.calls (a0:Int) (r:Bool) (w:World) (h:shape_is.f a0=some r) :
    Calls Tryz.prog 126 #[.int .i64 a0] w fun e w'=>e = .returned (.bool r)∧Drawn0 w w':=by
 have H:=am h
 unfold shape_is.f at H
 clear h
 replace H:=zsk H
 rcases H with ⟨c2b0,c2b1,H⟩|⟨c2b0,c2b1,c2,H⟩
 obtain rfl:=Option.some.inj H.out
 rotate_left
 replace H:=zsk H
 rcases H with ⟨c3b0,c3b1,H⟩|⟨c3b0,c3b1,c3,H⟩
 obtain rfl:=Option.some.inj H.out
 rotate_left
 replace H:=zsk H
 rcases H with ⟨c4b0,c4b1,H⟩|⟨c4b0,c4b1,c4,H⟩
 obtain rfl:=Option.some.inj H.out
 rotate_left
 replace H:=zsk H
 rcases H with ⟨c5b0,c5b1,H⟩|⟨c5b0,c5b1,c5,H⟩
 obtain rfl:=Option.some.inj H.out
 rotate_left
 obtain rfl:=Option.some.inj H.out
 rotate_left
 all_goals (go_enter Tryz.func126,Tryz.ntmps126;go_wp2)
 ·go_ret
  exact ⟨z1,z4⟩
 ·go_ret
  exact ⟨z1,z4⟩
 ·go_ret
  exact ⟨z1,z4⟩
 ·go_ret
  exact ⟨z1,z4⟩
 go_ret
 exact ⟨z1,z4⟩
def lead_ones.f (a0:Int):Option (Int):=if a0=64 then (some 18446744073709551615) else (if 0≤a0 then (some (IntKind.u64.wrap ((shl .u64 1 a0) - 1))) else (none))
theorem lead_ones.calls (a0:Int) (r:Int) (w:World) (h:lead_ones.f a0=some r) :
    Calls Tryz.prog 181 #[.int .i64 a0] w fun e w'=>e = .returned (.int .u64 r)∧Drawn0 w w':=by
 have H:=am h
 unfold lead_ones.f at H
 clear h
 replace H:=zsk H
 rcases H with ⟨c2b0,c2b1,H⟩|⟨c2b0,c2b1,c2,H⟩
 obtain rfl:=Option.some.inj H.out
 rotate_left
 replace H:=zit H
 obtain ⟨c3b0,c3b1,H⟩:=H
 generalize hji4:(shl .u64 1 a0:Int)=ji4 at H
 have hji4_:(IntKind.u64.wrap (1 * 2 ^ min a0.toNat 64))=ji4:=hji4
 have hji4z:a0≤64→(IntKind.u64.wrap (1 * 2 ^ a0.toNat))=ji4:=shl_small hji4
 have hji4u:(IntKind.u64.wrap (2 ^ min a0.toNat 64))=ji4:=by have h_:=hji4_;rw [Int.one_mul] at h_;exact h_
 have hji4v:a0≤64→(IntKind.u64.wrap (2 ^ a0.toNat))=ji4:=fun hle_=>by have h_:=hji4z hle_;rw [Int.one_mul] at h_;exact h_
 obtain rfl:=Option.some.inj H.out
 rotate_left
 all_goals (go_enter Tryz.func181,Tryz.ntmps181;go_wp2)
 ·go_ret
  exact ⟨z1,z4⟩
 go_ret
 exact ⟨by first|rfl|(simp;done)|(simp only [← hji4] <;> (first|rfl|simp))|(simp [*];done),z4⟩
def lead_Mask.f (a0:Int):Option (Int × Option Int):=if a0<0 then (some (0,some 1)) else (if a0 > 64 then (some (0,some 1)) else ((lead_ones.f a0).bind fun t114=>(some (t114,none))))
theorem lead_Mask.calls (a0:Int) (r1:Int) (r2:Option Int) (w:World) (h:lead_Mask.f a0=some (r1,r2)) :
    Calls Tryz.prog 128 #[.int .i64 a0] w fun e w'=>e = .returned (.tuple #[.int .u64 r1,errW r2])∧Drawn0 w w':=by
 have hu27:=Tryz.underlying27
 have hu64:=Tryz.underlying64
 have H:=am h
 unfold lead_Mask.f at H
 clear h
 replace H:=zsd H
 rcases H with ⟨c2b0,H⟩|⟨c2b0,H⟩
 obtain ⟨rfl,rfl⟩:=zJ2 H
 rotate_left
 replace H:=zsdg H
 rcases H with ⟨c3b0,H⟩|⟨c3b0,H⟩
 obtain ⟨rfl,rfl⟩:=zJ2 H
 rotate_left
 replace H:=zo H
 obtain ⟨t114,A4,H⟩:=H
 obtain ⟨rfl,rfl⟩:=zJ2 H
 rotate_left
 all_goals (go_enter Tryz.func128,Tryz.ntmps128;go_wp2_with (first|((with_reducible refine gate_callee (f:=181) rfl ?_);refine zc (some 12) Tryz.func181 _ (lead_ones.calls _ _ _ A4.out) ?_;rintro e w' ⟨rfl,⟨nd,rfl⟩⟩;refine ⟨_,rfl,?_⟩)))
 ·go_ret2
  exact ⟨z1,z4⟩
 ·go_ret2
  exact ⟨z1,z4⟩
 go_ret2
 exact ⟨z1,z4⟩
def shape_Fold.f (a0:Int) (a1:Int):Option (Int × Option Int):=(shape_is.f a0).bind fun t115=>(if t115=true then ((lead_Mask.f a0).bind fun bt116=>(some (Go.bits .and .u64 a1 bt116.1,bt116.2))) else (some (0,some 2)))
theorem shape_Fold.calls (a0:Int) (a1:Int) (r1:Int) (r2:Option Int) (w:World) (h:shape_Fold.f a0 a1=some (r1,r2)) :
    Calls Tryz.prog 76 #[.int .i64 a0, .int .u64 a1] w fun e w'=>e = .returned (.tuple #[.int .u64 r1,errW r2])∧Drawn0 w w':=by
 have hu27:=Tryz.underlying27
 have hu64:=Tryz.underlying64
 have H:=am h
 unfold shape_Fold.f at H
 clear h
 replace H:=zo H
 obtain ⟨t115,A3,H⟩:=H
 cases t115
 replace H:=zb0 H
 obtain ⟨rfl,rfl⟩:=zJ2 H
 rotate_left
 replace H:=zb1 H
 replace H:=zo H
 obtain ⟨⟨t116,t117⟩,A5,H⟩:=H
 try dsimp only at H
 obtain ⟨rfl,rfl⟩:=zJ2 H
 rotate_left
 all_goals (go_enter Tryz.func76,Tryz.ntmps76;go_wp2_with (first|((with_reducible refine gate_callee (f:=126) rfl ?_);refine zc (some 9) Tryz.func126 _ (shape_is.calls _ _ _ A3.out) ?_;rintro e w' ⟨rfl,⟨nd,rfl⟩⟩;refine ⟨_,rfl,?_⟩)|((with_reducible refine gate_callee (f:=128) rfl ?_);refine zc (some 14) Tryz.func128 _ (lead_Mask.calls _ _ _ _ A5.out) ?_;rintro e w' ⟨rfl,⟨nd,rfl⟩⟩;refine ⟨_,rfl,?_⟩;(try simp only [errW_none,errW_some]))))
 ·go_ret2
  exact ⟨z1,z4⟩
 go_ret2
 exact ⟨z1,z4⟩
def shape_Kind.f (a0:Int) (a1:Int):Option (Int × Option Int):=(shape_Fold.f a0 a1).bind fun bt118=>(if bt118.2.isNone=true then (if bt118.1=0 then (some (0,none)) else (if 0≤(wrap64 (a0 - 1)) then (if bt118.1=(shl .u64 1 (wrap64 (a0 - 1))) then (some (2,none)) else (some (1,none))) else (none))) else (some (0,some (bt118.2.getD 0))))
theorem shape_Kind.calls (a0:Int) (a1:Int) (r1:Int) (r2:Option Int) (w:World) (h:shape_Kind.f a0 a1=some (r1,r2)) :
    Calls Tryz.prog 91 #[.int .i64 a0, .int .u64 a1] w fun e w'=>e = .returned (.tuple #[.int .i64 r1,errW r2])∧Drawn0 w w':=by
 have hu27:=Tryz.underlying27
 have hu64:=Tryz.underlying64
 have H:=am h
 unfold shape_Kind.f at H
 clear h
 replace H:=zo H
 obtain ⟨⟨t118,t119⟩,A3,H⟩:=H
 try dsimp only at H
 rcases t119 with _|q120
 replace H:=zb1 H
 try simp only [errW_none,errW_some]
 replace H:=zsk H
 rcases H with ⟨c4b0,c4b1,H⟩|⟨c4b0,c4b1,c4,H⟩
 obtain ⟨rfl,rfl⟩:=zJ2 H
 rotate_left
 generalize hji5:(wrap64 (a0 - 1):Int)=ji5 at H
 (try rw [hji5] at A3)
 have hji5w:(IntKind.i64.wrap (a0 - 1))=ji5:=(i64_w _).trans hji5
 replace H:=zit H
 obtain ⟨c6b0,c6b1,H⟩:=H
 generalize hji7:(shl .u64 1 (ji5):Int)=ji7 at H
 (try rw [hji7] at A3)
 have hji7_:(IntKind.u64.wrap (1 * 2 ^ min (ji5).toNat 64))=ji7:=hji7
 have hji7z:(ji5)≤64→(IntKind.u64.wrap (1 * 2 ^ (ji5).toNat))=ji7:=shl_small hji7
 have hji7u:(IntKind.u64.wrap (2 ^ min (ji5).toNat 64))=ji7:=by have h_:=hji7_;rw [Int.one_mul] at h_;exact h_
 have hji7v:(ji5)≤64→(IntKind.u64.wrap (2 ^ (ji5).toNat))=ji7:=fun hle_=>by have h_:=hji7z hle_;rw [Int.one_mul] at h_;exact h_
 replace H:=zsk H
 rcases H with ⟨c8b0,c8b1,H⟩|⟨c8b0,c8b1,c8,H⟩
 obtain ⟨rfl,rfl⟩:=zJ2 H
 rotate_left
 obtain ⟨rfl,rfl⟩:=zJ2 H
 rotate_left
 replace H:=zb0 H
 try simp only [Option.getD_some] at H
 try simp only [errW_none,errW_some]
 obtain ⟨rfl,rfl⟩:=zJ2 H
 rotate_left
 all_goals (go_enter Tryz.func91,Tryz.ntmps91;go_wp2_with (first|((with_reducible refine gate_callee (f:=76) rfl ?_);refine zc (some 10) Tryz.func76 _ (shape_Fold.calls _ _ _ _ _ A3.out) ?_;rintro e w' ⟨rfl,⟨nd,rfl⟩⟩;refine ⟨_,rfl,?_⟩;(try simp only [errW_none,errW_some]))))
 ·go_ret2
  exact ⟨z1,z4⟩
 ·go_ret2
  exact ⟨by first|rfl|(simp;done)|(simp only [← hji5, ← hji7] <;> (first|rfl|simp))|(simp [*];done),z4⟩
 ·go_ret2
  exact ⟨by first|rfl|(simp;done)|(simp only [← hji5, ← hji7] <;> (first|rfl|simp))|(simp [*];done),z4⟩
 go_ret2
 exact ⟨z1,z4⟩
def lead_Extend.f (a0:Int) (a1:Int):Option (Int × Option Int):=if a1<1 then (some (0,some 1)) else (if a1 > 64 then (some (0,some 1)) else (if 0≤(wrap64 (64 - a1)) then (some (shr .i64 (wrap64 (shl .u64 a0 (wrap64 (64 - a1)))) (wrap64 (64 - a1)),none)) else (none)))
theorem lead_Extend.calls (a0:Int) (a1:Int) (r1:Int) (r2:Option Int) (w:World) (h:lead_Extend.f a0 a1=some (r1,r2)) :
    Calls Tryz.prog 127 #[.int .u64 a0, .int .i64 a1] w fun e w'=>e = .returned (.tuple #[.int .i64 r1,errW r2])∧Drawn0 w w':=by
 have hu27:=Tryz.underlying27
 have hu64:=Tryz.underlying64
 have H:=am h
 unfold lead_Extend.f at H
 clear h
 replace H:=zsd H
 rcases H with ⟨c3b0,H⟩|⟨c3b0,H⟩
 obtain ⟨rfl,rfl⟩:=zJ2 H
 rotate_left
 replace H:=zsdg H
 rcases H with ⟨c4b0,H⟩|⟨c4b0,H⟩
 obtain ⟨rfl,rfl⟩:=zJ2 H
 rotate_left
 generalize hji5:(wrap64 (64 - a1):Int)=ji5 at H
 have hji5w:(IntKind.i64.wrap (64 - a1))=ji5:=(i64_w _).trans hji5
 replace H:=zit H
 obtain ⟨c6b0,c6b1,H⟩:=H
 generalize hji7:(shl .u64 a0 (ji5):Int)=ji7 at H
 have hji7_:(IntKind.u64.wrap (a0 * 2 ^ min (ji5).toNat 64))=ji7:=hji7
 have hji7z:(ji5)≤64→(IntKind.u64.wrap (a0 * 2 ^ (ji5).toNat))=ji7:=shl_small hji7
 have c8b0:=eq_true (zD:0≤(ji5))
 generalize hji9:(shr .i64 (wrap64 (ji7)) (ji5):Int)=ji9 at H
 have hji9_:((wrap64 (ji7)) / 2 ^ min (ji5).toNat 64)=ji9:=hji9
 have hji9z:(ji5)≤64→((wrap64 (ji7)) / 2 ^ (ji5).toNat)=ji9:=shr_small hji9
 obtain ⟨rfl,rfl⟩:=zJ2 H
 rotate_left
 all_goals (go_enter Tryz.func127,Tryz.ntmps127;go_wp2)
 ·go_ret2
  exact ⟨z1,z4⟩
 ·go_ret2
  exact ⟨z1,z4⟩
 go_ret2
 exact ⟨by first|rfl|(simp;done)|(simp only [← hji5, ← hji7, ← hji9] <;> (first|rfl|simp))|(simp [*];done),z4⟩
def shape_Rank.f (a0:Int) (a1:Int):Option (Int × Option Int):=(shape_is.f a0).bind fun t121=>(if t121=true then ((lead_Extend.f a1 a0).bind fun bt122=>(some (bt122.1,bt122.2))) else (some (0,some 2)))
theorem shape_Rank.calls (a0:Int) (a1:Int) (r1:Int) (r2:Option Int) (w:World) (h:shape_Rank.f a0 a1=some (r1,r2)) :
    Calls Tryz.prog 75 #[.int .i64 a0, .int .u64 a1] w fun e w'=>e = .returned (.tuple #[.int .i64 r1,errW r2])∧Drawn0 w w':=by
 have hu27:=Tryz.underlying27
 have hu64:=Tryz.underlying64
 have H:=am h
 unfold shape_Rank.f at H
 clear h
 replace H:=zo H
 obtain ⟨t121,A3,H⟩:=H
 cases t121
 replace H:=zb0 H
 obtain ⟨rfl,rfl⟩:=zJ2 H
 rotate_left
 replace H:=zb1 H
 replace H:=zo H
 obtain ⟨⟨t122,t123⟩,A5,H⟩:=H
 try dsimp only at H
 obtain ⟨rfl,rfl⟩:=zJ2 H
 rotate_left
 all_goals (go_enter Tryz.func75,Tryz.ntmps75;go_wp2_with (first|((with_reducible refine gate_callee (f:=126) rfl ?_);refine zc (some 7) Tryz.func126 _ (shape_is.calls _ _ _ A3.out) ?_;rintro e w' ⟨rfl,⟨nd,rfl⟩⟩;refine ⟨_,rfl,?_⟩)|((with_reducible refine gate_callee (f:=127) rfl ?_);refine zc (some 12) Tryz.func127 _ (lead_Extend.calls _ _ _ _ _ A5.out) ?_;rintro e w' ⟨rfl,⟨nd,rfl⟩⟩;refine ⟨_,rfl,?_⟩;(try simp only [errW_none,errW_some]))))
 ·go_ret2
  exact ⟨z1,z4⟩
 go_ret2
 exact ⟨z1,z4⟩
end Go.Proofs.Yy.PTx
end
