/- Part 22 of what the proof needs. -/
import Derived.Test.YtpfnkbnepcchgaaGreatDoorKTBAU
set_option linter.unusedSimpArgs false
set_option linter.unusedVariables false
section
set_option maxHeartbeats 8000000
set_option maxRecDepth 100000
namespace Go.Proofs.Yy.PTx
open Go.RowKit Go.Proofs.Yy.Z Go.Proofs.Yw.PrintWords Go.Proofs.Yw.PrintLast Go.Proofs.Yw.PrintMore
open Go.Proofs.Yy.M
attribute [local go_sem] runx_add64 runx_sub64 eql_cc eql_nc neq_cc neq_nc
attribute [local go_sem] max2_int min2_int max_two min_two max_three min_three max_four min_four
mutual
def round_Cut.j0:Nat→Int→Int→Bool→Int→Int→Int→Bool→Option (Int × Int × Option Int)
  | 0,_,_,_,_,_,_,_=>none
  | k+1,x0,x566000,x566001,x566002,x566003,x566004,x566005=>(twin_Shl.f k x566003 x566004 1).bind fun bt575=>((round_under.f bt575.1 bt575.2.1 (IntKind.u64.wrap (Go.bits .and .i64 x566002 3)) 2 x566005).bind fun bt580=>(if (x566002 / 4) ≥ 0 then ((round_under.f bt580.1 bt580.2.1 0 1 bt580.2.2).bind fun bt583=>(round_Cut.l0 k x0 bt583.2.2 (wrap64 ((x566002 / 4)+1)) 0 bt583.1 bt583.2.1)) else ((round_under.f bt580.1 bt580.2.1 1 1 bt580.2.2).bind fun bt589=>(round_Cut.l1 k x0 bt589.2.2 (wrap64 (-(x566002 / 4))) 0 bt589.1 bt589.2.1))))
def round_Cut.j3:Nat→Int→Bool→Int→Int→Option (Int × Int × Option Int)
  | 0,_,_,_,_=>none
  | k+1,x0,x12,x580000,x580001=>if 0≤(wrap64 (65 - x0)) then ((twin_Shl.f k x580000 x580001 (wrap64 (x0 - 1))).bind fun bt595=>(if bt595.2.1=0 then ((round_left.f k bt595.1 x12).bind fun t600=>(some (shr .u64 x580000 (wrap64 (65 - x0)),t600,none))) else ((round_left.f k bt595.1 true).bind fun t601=>(some (shr .u64 x580000 (wrap64 (65 - x0)),t601,none))))) else (none)
def round_Cut.l0:Nat→Int→Bool→Int→Int→Int→Int→Option (Int × Int × Option Int)
  | 0,_,_,_,_,_,_=>none
  | k+1,x0,x12,x114,x115,x580000,x580001=>if x115<x114 then ((round_under.f x580000 x580001 1 1 x12).bind fun bt586=>(round_Cut.l0 k x0 bt586.2.2 x114 (wrap64 (x115+1)) bt586.1 bt586.2.1)) else (round_Cut.j3 k x0 x12 x580000 x580001)
def round_Cut.l1:Nat→Int→Bool→Int→Int→Int→Int→Option (Int × Int × Option Int)
  | 0,_,_,_,_,_,_=>none
  | k+1,x0,x12,x131,x132,x580000,x580001=>if x132<x131 then ((round_under.f x580000 x580001 0 1 x12).bind fun bt592=>(round_Cut.l1 k x0 bt592.2.2 x131 (wrap64 (x132+1)) bt592.1 bt592.2.1)) else (round_Cut.j3 k x0 x12 x580000 x580001)
end
def round_Cut.f (k:Nat) (a0:Int) (a1_0:Int) (a1_1:Bool) (a1_2:Int) (a1_3:Int) (a1_4:Int) (a1_5:Bool):Option (Int × Int × Option Int):=(shape_Of.f a0).bind fun bt566=>(if bt566.2.2.2.2.2.isNone=true then ((round_sound.f k a1_0 a1_1 a1_2 a1_3 a1_4 a1_5).bind fun t574=>(if t574=true then (if a1_0=0 then (some (0,0,none)) else (if a1_0=2 then (some (bt566.2.2.2.1,0,none)) else (if a1_2 ≥ bt566.2.2.2.2.1 then (some (bt566.2.1,0,none)) else (if a1_2<(wrap64 (-bt566.2.2.2.2.1)) then (some (bt566.2.2.1,0,none)) else (if a1_2=(wrap64 (-bt566.2.2.2.2.1)) then (if a1_3=9223372036854775808 then (if a1_4=0 then (if a1_5=true then (round_Cut.j0 k a0 a1_0 a1_1 a1_2 a1_3 a1_4 a1_5) else (some (bt566.2.2.1,0,none))) else (round_Cut.j0 k a0 a1_0 a1_1 a1_2 a1_3 a1_4 a1_5)) else (round_Cut.j0 k a0 a1_0 a1_1 a1_2 a1_3 a1_4 a1_5)) else (round_Cut.j0 k a0 a1_0 a1_1 a1_2 a1_3 a1_4 a1_5)))))) else (some (0,0,some 1)))) else (some (0,0,some (bt566.2.2.2.2.2.getD 0))))
theorem round_Cut.mono_l:∀ k,(∀ y0 y1 y2 y3 y4 y5 y6,LeO (round_Cut.j0 k y0 y1 y2 y3 y4 y5 y6) (round_Cut.j0 (k+1) y0 y1 y2 y3 y4 y5 y6))∧(∀ y0 y1 y2 y3,LeO (round_Cut.j3 k y0 y1 y2 y3) (round_Cut.j3 (k+1) y0 y1 y2 y3))∧(∀ y0 y1 y2 y3 y4 y5,LeO (round_Cut.l0 k y0 y1 y2 y3 y4 y5) (round_Cut.l0 (k+1) y0 y1 y2 y3 y4 y5))∧(∀ y0 y1 y2 y3 y4 y5,LeO (round_Cut.l1 k y0 y1 y2 y3 y4 y5) (round_Cut.l1 (k+1) y0 y1 y2 y3 y4 y5))
  | 0=>⟨fun _ _ _ _ _ _ _ r h=>by simp [round_Cut.j0] at h,fun _ _ _ _ r h=>by simp [round_Cut.j3] at h,fun _ _ _ _ _ _ r h=>by simp [round_Cut.l0] at h,fun _ _ _ _ _ _ r h=>by simp [round_Cut.l1] at h⟩
  | k+1=>by
    obtain ⟨ih0,ih1,ih2,ih3⟩:=round_Cut.mono_l k
    refine ⟨?_,?_,?_,?_⟩
    · intro y0 y1 y2 y3 y4 y5 y6
      unfold round_Cut.j0
      repeat' (with_reducible first|exact ih0 _ _ _ _ _ _ _|exact ih1 _ _ _ _|exact ih2 _ _ _ _ _ _|exact ih3 _ _ _ _ _ _|exact round_left.mono _ _ _|exact round_sound.mono _ _ _ _ _ _ _|exact twin_Shl.mono _ _ _ _|exact zm|exact zv|refine zI ?_ ?_|refine zO ?_ fun _=>?_)
    · intro y0 y1 y2 y3
      unfold round_Cut.j3
      repeat' (with_reducible first|exact ih0 _ _ _ _ _ _ _|exact ih1 _ _ _ _|exact ih2 _ _ _ _ _ _|exact ih3 _ _ _ _ _ _|exact round_left.mono _ _ _|exact round_sound.mono _ _ _ _ _ _ _|exact twin_Shl.mono _ _ _ _|exact zm|exact zv|refine zI ?_ ?_|refine zO ?_ fun _=>?_)
    · intro y0 y1 y2 y3 y4 y5
      unfold round_Cut.l0
      repeat' (with_reducible first|exact ih0 _ _ _ _ _ _ _|exact ih1 _ _ _ _|exact ih2 _ _ _ _ _ _|exact ih3 _ _ _ _ _ _|exact round_left.mono _ _ _|exact round_sound.mono _ _ _ _ _ _ _|exact twin_Shl.mono _ _ _ _|exact zm|exact zv|refine zI ?_ ?_|refine zO ?_ fun _=>?_)
    · intro y0 y1 y2 y3 y4 y5
      unfold round_Cut.l1
      repeat' (with_reducible first|exact ih0 _ _ _ _ _ _ _|exact ih1 _ _ _ _|exact ih2 _ _ _ _ _ _|exact ih3 _ _ _ _ _ _|exact round_left.mono _ _ _|exact round_sound.mono _ _ _ _ _ _ _|exact twin_Shl.mono _ _ _ _|exact zm|exact zv|refine zI ?_ ?_|refine zO ?_ fun _=>?_)
theorem round_Cut.mono:∀ a0 a1 a2 a3 a4 a5 a6 k,LeO (round_Cut.f k a0 a1 a2 a3 a4 a5 a6) (round_Cut.f (k+1) a0 a1 a2 a3 a4 a5 a6):=by
  intro a0 a1 a2 a3 a4 a5 a6 k
  obtain ⟨ih0,ih1,ih2,ih3⟩:=round_Cut.mono_l k
  unfold round_Cut.f
  repeat' (with_reducible first|exact ih0 _ _ _ _ _ _ _|exact ih1 _ _ _ _|exact ih2 _ _ _ _ _ _|exact ih3 _ _ _ _ _ _|exact round_left.mono _ _ _|exact round_sound.mono _ _ _ _ _ _ _|exact twin_Shl.mono _ _ _ _|exact zm|exact zv|refine zI ?_ ?_|refine zO ?_ fun _=>?_)
theorem round_Cut.calls (k:Nat) (a0:Int) (a1_0:Int) (a1_1:Bool) (a1_2:Int) (a1_3:Int) (a1_4:Int) (a1_5:Bool) (r1:Int) (r2:Int) (r3:Option Int) (w:World) (h:round_Cut.f k a0 a1_0 a1_1 a1_2 a1_3 a1_4 a1_5=some (r1,r2,r3)) :
    Calls Tryz.prog 98 #[.int .i64 a0, .agg #[.int .i64 a1_0, .bool a1_1, .int .i64 a1_2, .int .u64 a1_3, .int .u64 a1_4, .bool a1_5]] w fun e w'=>e = .returned (.tuple #[.int .u64 r1, .int .i64 r2,errW r3])∧Below w.heap.size w w':=by
 have hu81:=Tryz.underlying81
 have hu223:=Tryz.underlying223
 have hu211:=Tryz.underlying211
 have hu27:=Tryz.underlying27
 have hu64:=Tryz.underlying64
 have HB:=am (Below.refl w.heap.size w)
 have H:=am h
 unfold round_Cut.f at H
 clear h
 replace H:=zo H
 obtain ⟨⟨t566,t567,t568,t569,t570,t571⟩,A3,H⟩:=H
 try dsimp only at H
 go_enter Tryz.func98,Tryz.ntmps98
 go_upto_block 0 with (first|((with_reducible refine gate_dst (N:=3) rfl ?_);refine zx 3 81 #[.int .i64 a1_0, .bool a1_1, .int .i64 a1_2, .int .u64 a1_3, .int .u64 a1_4, .bool a1_5] ?_;intro gb565 hg w5 hbox hb;have BK565:=am (hbox);have GW565:=zG hg HB;have GE565:=zG hg HB;replace HB:=zBs HB hb;clear hb hbox hg)|((with_reducible refine gate_callee (f:=155) rfl ?_);refine zc (some 20) Tryz.func155 _ (shape_Of.calls _ _ _ _ _ _ _ _ A3.out) ?_;rintro e w6 ⟨rfl,hb⟩;refine ⟨_,rfl,?_⟩;replace BK565:=zKb BK565 hb;replace HB:=zBs HB hb;clear hb;(try simp only [errW_none,errW_some]))|((with_reducible refine gate_dst (N:=7) rfl ?_);refine zx 7 223 #[.int .i64 0, .int .u64 0, .int .u64 0, .int .u64 0, .int .i64 0] ?_;intro gb572 hg w7 hbox hb;have BK572:=am (hbox);have GW572:=zG hg HB;have GE572:=zG hg HB;replace HB:=zBs HB hb;have NB565_572:=zNl hg BK565;have NB572_565:=zNg hg BK565;replace BK565:=zKb BK565 hb;clear hb hbox hg;have hnb8:=NB572_565.out;have hnc8:=NB565_572.out;obtain ⟨_,_,_,_,_,_,_,_,_,_⟩:=zf5 BK572))
 (try simp only [Act.put,List.setIfInBounds_toArray,List.set_cons_zero,List.set_cons_succ])
 go_cut [] (fun wc => ∃ (kq:Nat),Aside0 (round_Cut.j0 kq a0 a1_0 a1_1 a1_2 a1_3 a1_4 a1_5=some (r1,r2,r3))∧Aside0 (kq≤k)∧Aside0 (wc.heap[gb565]? = some (.cells #[.int .i64 a1_0, .bool a1_1, .int .i64 a1_2, .int .u64 a1_3, .int .u64 a1_4, .bool a1_5] 81 (0,0)))∧Aside0 (wc.heap[gb572]? = some (.cells #[.int .i64 t566, .int .u64 t567, .int .u64 t568, .int .u64 t569, .int .i64 t570] 223 (0,0)))∧Aside0 (Below w.heap.size w wc))
 case first =>
  rcases t571 with _|q573
  replace H:=zb1 H
  try simp only [errW_none,errW_some]
  replace H:=zo H
  obtain ⟨t574,A10,H⟩:=H
  cases t574
  replace H:=zb0 H
  obtain ⟨rfl,rfl,rfl⟩:=zJ3 H
  have hnb64:=NB565_572.out
  have hnc64:=NB572_565.out
  obtain ⟨_,_,_,_,_,_,_,_,_,_,_,_⟩:=zf6 BK565
  rotate_left
  replace H:=zb1 H
  replace H:=zsk H
  rcases H with ⟨c12b0,c12b1,H⟩|⟨c12b0,c12b1,c12,H⟩
  (first|rw [c12b0]|(simp only [i64_w,i32_w];rw [c12b0])|rw [c12b1]|skip)
  obtain ⟨rfl,rfl,rfl⟩:=zJ3 H
  have hnb13:=NB565_572.out
  have hnc13:=NB572_565.out
  obtain ⟨_,_,_,_,_,_,_,_,_,_,_,_⟩:=zf6 BK565
  rotate_left
  (first|rw [c12b0]|(simp only [i64_w,i32_w];rw [c12b0])|rw [c12b1]|skip)
  replace H:=zsk H
  rcases H with ⟨c17b0,c17b1,H⟩|⟨c17b0,c17b1,c17,H⟩
  obtain ⟨rfl,rfl,rfl⟩:=zJ3 H
  have hnb18:=NB565_572.out
  have hnc18:=NB572_565.out
  obtain ⟨_,_,_,_,_,_,_,_,_,_,_,_⟩:=zf6 BK565
  rotate_left
  replace H:=zsde H
  rcases H with ⟨c23b0,H⟩|⟨c23b0,H⟩
  obtain ⟨rfl,rfl,rfl⟩:=zJ3 H
  have hnb24:=NB565_572.out
  have hnc24:=NB572_565.out
  obtain ⟨_,_,_,_,_,_,_,_,_,_,_,_⟩:=zf6 BK565
  rotate_left
  replace H:=zsd H
  rcases H with ⟨c29b0,H⟩|⟨c29b0,H⟩
  obtain ⟨rfl,rfl,rfl⟩:=zJ3 H
  have hnb30:=NB565_572.out
  have hnc30:=NB572_565.out
  obtain ⟨_,_,_,_,_,_,_,_,_,_,_,_⟩:=zf6 BK565
  rotate_left
  replace H:=zsk H
  rcases H with ⟨c35b0,c35b1,H⟩|⟨c35b0,c35b1,c35,H⟩
  replace H:=zsk H
  rcases H with ⟨c36b0,c36b1,H⟩|⟨c36b0,c36b1,c36,H⟩
  replace H:=zsk H
  rcases H with ⟨c37b0,c37b1,H⟩|⟨c37b0,c37b1,c37,H⟩
  cases a1_5
  replace H:=zb0 H
  obtain ⟨rfl,rfl,rfl⟩:=zJ3 H
  have hnb44:=NB565_572.out
  have hnc44:=NB572_565.out
  obtain ⟨_,_,_,_,_,_,_,_,_,_,_,_⟩:=zf6 BK565
  rotate_left
  replace H:=zb1 H
  have hnb39:=NB565_572.out
  have hnc39:=NB572_565.out
  obtain ⟨_,_,_,_,_,_,_,_,_,_,_,_⟩:=zf6 BK565
  rotate_left
  have hnb49:=NB565_572.out
  have hnc49:=NB572_565.out
  obtain ⟨_,_,_,_,_,_,_,_,_,_,_,_⟩:=zf6 BK565
  rotate_left
  have hnb54:=NB565_572.out
  have hnc54:=NB572_565.out
  obtain ⟨_,_,_,_,_,_,_,_,_,_,_,_⟩:=zf6 BK565
  rotate_left
  have hnb59:=NB565_572.out
  have hnc59:=NB572_565.out
  obtain ⟨_,_,_,_,_,_,_,_,_,_,_,_⟩:=zf6 BK565
  rotate_left
  replace H:=zb0 H
  try simp only [Option.getD_some] at H
  try simp only [errW_none,errW_some]
  obtain ⟨rfl,rfl,rfl⟩:=zJ3 H
  rotate_left
  all_goals (go_wp2_with (first|((with_reducible refine gate_callee (f:=156) rfl ?_);refine zc (some 29) Tryz.func156 _ (round_sound.calls _ _ _ _ _ _ _ _ _ A10.out) ?_;rintro e w66 ⟨rfl,hb⟩;refine ⟨_,rfl,?_⟩;replace BK565:=zKb BK565 hb;replace BK572:=am (blk_below (zKp BK572) hb);replace HB:=zBs HB hb;clear hb;obtain ⟨_,_,_,_,_,_,_,_,_,_,_,_⟩:=zf6 BK565;obtain ⟨_,_,_,_,_,_,_,_,_,_⟩:=zf5 BK572)))
  ·go_ret3
   exact ⟨z2,zB HB⟩
  ·go_ret3
   exact ⟨z2,zB HB⟩
  ·go_ret3
   exact ⟨z2,zB HB⟩
  ·go_ret3
   exact ⟨z2,zB HB⟩
  ·go_ret3
   exact ⟨z2,zB HB⟩
  ·go_ret3
   exact ⟨z2,zB HB⟩
  ·go_meet
   case rel=>exact ⟨_,H,⟨z5⟩,⟨zK BK565⟩,⟨zK BK572⟩,⟨zB HB⟩⟩
  ·go_meet
   case rel=>exact ⟨_,H,⟨z5⟩,⟨zK BK565⟩,⟨zK BK572⟩,⟨zB HB⟩⟩
  ·go_meet
   case rel=>exact ⟨_,H,⟨z5⟩,⟨zK BK565⟩,⟨zK BK572⟩,⟨zB HB⟩⟩
  ·go_meet
   case rel=>exact ⟨_,H,⟨z5⟩,⟨zK BK565⟩,⟨zK BK572⟩,⟨zB HB⟩⟩
  go_ret3
  exact ⟨z2,zB HB⟩
 case rest =>
  obtain ⟨kq,H,HJ3,BK565,BK572,HB⟩:=hcut
  obtain _|kj3:=kq
  ·exact zz H rfl
  simp only [round_Cut.j0] at H
  replace H:=zo H
  obtain ⟨⟨t575,t576,t577,t578⟩,A67,H⟩:=H
  try dsimp only at H
  replace H:=zo H
  obtain ⟨⟨t580,t581,t582⟩,A68,H⟩:=H
  try dsimp only at H
  have hnb70:=NB565_572.out
  have hnc70:=NB572_565.out
  obtain ⟨_,_,_,_,_,_,_,_,_,_,_,_⟩:=zf6 BK565
  go_upto_if 106 with (first|((with_reducible refine gate_callee (f:=157) rfl ?_);refine goesL_ (some 86) rfl rfl Tryz.func157 (by kernel_rfl) rfl #[.agg #[.int .u64 a1_3, .int .u64 a1_4], .int .i64 1] rfl (by (try simp only [List.map_toArray,List.map_cons,List.map_nil]);first|done|rfl|(simp only [List.length_drop,List.length_take];rfl)) ?_;(with_reducible refine (twin_Shl.calls kj3 a1_3 a1_4 1 t575 t576 t577 t578 _ A67.out).mono ?_);rintro e w72 ⟨rfl,hb⟩;refine ⟨_,rfl,?_⟩;have n0_:=zKb BK565 hb;have n1_:=zKb BK572 hb;have n2_:=zBs HB hb;clear BK565;clear BK572;clear HB;have BK565:=n0_;have BK572:=n1_;have HB:=n2_;clear n0_ n1_ n2_;(try clear hb);(try clear hb2);(try clear hk);(try clear hi);(try simp only [errW_none,errW_some]))|((with_reducible refine gate_dst (N:=9) rfl ?_);refine zx 9 211 #[.int .u64 0, .int .u64 0] ?_;intro gb579 hg w73 hbox hb;have n0_:=zKb BK565 hb;have n1_:=zKb BK572 hb;have n2_:=zBs HB hb;have n3_:=am (hbox);have n4_:=zG hg HB;have n5_:=zG hg HB;have n6_:=zNl hg BK565;have n7_:=zNg hg BK565;have n8_:=zNl hg BK572;have n9_:=zNg hg BK572;clear BK565;clear BK572;clear HB;have BK565:=n0_;have BK572:=n1_;have HB:=n2_;have BK579:=n3_;have GW579:=n4_;have GE579:=n5_;have NB565_579:=n6_;have NB579_565:=n7_;have NB572_579:=n8_;have NB579_572:=n9_;clear n0_ n1_ n2_ n3_ n4_ n5_ n6_ n7_ n8_ n9_;clear hb hbox hg;have hnb74:=NB579_565.out;have hnc74:=NB565_579.out;have hnb75:=NB579_572.out;have hnc75:=NB572_579.out;obtain ⟨_,_,_,_⟩:=zf2 BK579;obtain ⟨_,_,_,_,_,_,_,_,_,_,_,_⟩:=zf6 BK565)|((with_reducible refine gate_callee (f:=158) rfl ?_);refine goesL_ (some 102) rfl rfl Tryz.func158 (by kernel_rfl) rfl #[.agg #[.int .u64 t575, .int .u64 t576], .int .u64 (IntKind.u64.wrap (Go.bits .and .i64 a1_2 3)), .int .i64 2, .bool a1_5] rfl (by (try simp only [List.map_toArray,List.map_cons,List.map_nil]);first|done|rfl|(simp only [List.length_drop,List.length_take];rfl)) ?_;(with_reducible refine (round_under.calls t575 t576 (IntKind.u64.wrap (Go.bits .and .i64 a1_2 3)) 2 a1_5 t580 t581 t582 _ A68.out).mono ?_);rintro e w78 ⟨rfl,hb⟩;refine ⟨_,rfl,?_⟩;have n0_:=zKb BK565 hb;have n1_:=zKb BK572 hb;have n2_:=am (blk_below (zKp BK579) hb);have n3_:=zBs HB hb;clear BK565;clear BK572;clear BK579;clear HB;have BK565:=n0_;have BK572:=n1_;have BK579:=n2_;have HB:=n3_;clear n0_ n1_ n2_ n3_;(try clear hb);(try clear hb2);(try clear hk);(try clear hi);obtain ⟨_,_,_,_⟩:=zf2 BK579))
  (try simp only [Act.put,List.setIfInBounds_toArray,List.set_cons_zero,List.set_cons_succ])
  go_cut [12] (fun v12 wc => ∃ (kq:Nat) (x12_68:Bool) (x580000_68:Int) (x580001_68:Int),v12 = .bool x12_68∧Aside0 (round_Cut.j3 kq a0 x12_68 x580000_68 x580001_68=some (r1,r2,r3))∧Aside0 (kq≤kj3)∧Aside0 (wc.heap[gb565]? = some (.cells #[.int .i64 a1_0, .bool a1_1, .int .i64 a1_2, .int .u64 a1_3, .int .u64 a1_4, .bool a1_5] 81 (0,0)))∧Aside0 (wc.heap[gb572]? = some (.cells #[.int .i64 t566, .int .u64 t567, .int .u64 t568, .int .u64 t569, .int .i64 t570] 223 (0,0)))∧Aside0 (wc.heap[gb579]? = some (.cells #[.int .u64 x580000_68, .int .u64 x580001_68] 211 (0,0)))∧Aside0 (Below w.heap.size w wc))
  case first =>
   replace H:=zsde H
   rcases H with ⟨c80b0,H⟩|⟨c80b0,H⟩
   (first|rw [c80b0]|(simp only [i64_w,i32_w];rw [c80b0])|rw [c80b1]|skip)
   replace H:=zo H
   obtain ⟨⟨t583,t584,t585⟩,A81,H⟩:=H
   try dsimp only at H
   have hnb82:=NB579_565.out
   have hnc82:=NB565_579.out
   have hnb83:=NB579_572.out
   have hnc83:=NB572_579.out
   obtain ⟨_,_,_,_⟩:=zf2 BK579
   rotate_left
   (first|rw [c80b0]|(simp only [i64_w,i32_w];rw [c80b0])|rw [c80b1]|skip)
   replace H:=zo H
   obtain ⟨⟨t589,t590,t591⟩,A94,H⟩:=H
   try dsimp only at H
   have hnb95:=NB579_565.out
   have hnc95:=NB565_579.out
   have hnb96:=NB579_572.out
   have hnc96:=NB572_579.out
   obtain ⟨_,_,_,_⟩:=zf2 BK579
   rotate_left
   all_goals (go_wp2_with (first|((with_reducible refine gate_callee (f:=158) rfl ?_);refine zc (some 110) Tryz.func158 _ (round_under.calls _ _ _ _ _ _ _ _ _ A81.out) ?_;rintro e w85 ⟨rfl,hb⟩;refine ⟨_,rfl,?_⟩;replace BK565:=zKb BK565 hb;replace BK572:=zKb BK572 hb;replace BK579:=am (blk_below (zKp BK579) hb);replace HB:=zBs HB hb;clear hb;obtain ⟨_,_,_,_⟩:=zf2 BK579)|((with_reducible refine gate_callee (f:=158) rfl ?_);refine zc (some 127) Tryz.func158 _ (round_under.calls _ _ _ _ _ _ _ _ _ A94.out) ?_;rintro e w98 ⟨rfl,hb⟩;refine ⟨_,rfl,?_⟩;replace BK565:=zKb BK565 hb;replace BK572:=zKb BK572 hb;replace BK579:=am (blk_below (zKp BK579) hb);replace HB:=zBs HB hb;clear hb;obtain ⟨_,_,_,_⟩:=zf2 BK579)))
   ·go_loopg [12,115] kj3 (fun kq v12 v115 w' => ∃ (x12_2:Bool) (x115_2:Int) (x580000_2:Int) (x580001_2:Int),v12 = .bool x12_2∧v115 = .int .i64 x115_2∧Aside0 (round_Cut.l0 kq a0 x12_2 (wrap64 ((a1_2 / 4)+1)) x115_2 x580000_2 x580001_2=some (r1,r2,r3))∧Aside0 (kq≤kj3)∧Aside0 (w'.heap[gb565]? = some (.cells #[.int .i64 a1_0, .bool a1_1, .int .i64 a1_2, .int .u64 a1_3, .int .u64 a1_4, .bool a1_5] 81 (0,0)))∧Aside0 (w'.heap[gb572]? = some (.cells #[.int .i64 t566, .int .u64 t567, .int .u64 t568, .int .u64 t569, .int .i64 t570] 223 (0,0)))∧Aside0 (w'.heap[gb579]? = some (.cells #[.int .u64 x580000_2, .int .u64 x580001_2] 211 (0,0)))∧Aside0 (Below w.heap.size w w'))
    case atStart=>exact ⟨(t585),(0),(t583),(t584),z1,z1,H,zL,⟨zK BK565⟩,⟨zK BK572⟩,⟨zKp BK579⟩,⟨zB HB⟩⟩
    clear H
    obtain ⟨x12_2,x115_2,x580000_2,x580001_2,rfl,rfl,H,HK2,BK565,BK572,BK579,HB⟩:=hrel
    obtain _|k2:=gk
    ·exact zz H rfl
    simp only [round_Cut.l0] at H
    replace H:=zsd H
    rcases H with ⟨c87b0,H⟩|⟨c87b0,H⟩
    replace H:=zo H
    obtain ⟨⟨t586,t587,t588⟩,A88,H⟩:=H
    try dsimp only at H
    have hnb89:=NB579_565.out
    have hnc89:=NB565_579.out
    have hnb90:=NB579_572.out
    have hnc90:=NB572_579.out
    obtain ⟨_,_,_,_⟩:=zf2 BK579
    rotate_left
    rotate_left
    all_goals (go_wp2_with (first|((with_reducible refine gate_callee (f:=158) rfl ?_);refine zc (some 120) Tryz.func158 _ (round_under.calls _ _ _ _ _ _ _ _ _ A88.out) ?_;rintro e w92 ⟨rfl,hb⟩;refine ⟨_,rfl,?_⟩;replace BK565:=zKb BK565 hb;replace BK572:=zKb BK572 hb;replace BK579:=zKb BK579 hb;replace HB:=zBs HB hb;clear hb;obtain ⟨_,_,_,_⟩:=zf2 BK579)))
    ·go_roundg k2
     case measure=>have:=HJ3.out;have:=HK2.out;omega
     case rel=>exact ⟨(t588),(wrap64 (x115_2+1)),(t586),(t587),z1,z1,H,⟨by have:=HJ3.out;have:=HK2.out;omega⟩,⟨zK BK565⟩,⟨zK BK572⟩,⟨zKp BK579⟩,⟨zB HB⟩⟩
    go_meet
    case rel=>exact ⟨_,(x12_2),(x580000_2),(x580001_2),z1,H,⟨by have:=HJ3.out;have:=HK2.out;first|omega|exact Nat.le_refl _⟩,⟨zK BK565⟩,⟨zK BK572⟩,⟨zK BK579⟩,⟨zB HB⟩⟩
   go_loopg [12,132] kj3 (fun kq v12 v132 w' => ∃ (x12_2:Bool) (x132_2:Int) (x580000_2:Int) (x580001_2:Int),v12 = .bool x12_2∧v132 = .int .i64 x132_2∧Aside0 (round_Cut.l1 kq a0 x12_2 (wrap64 (-(a1_2 / 4))) x132_2 x580000_2 x580001_2=some (r1,r2,r3))∧Aside0 (kq≤kj3)∧Aside0 (w'.heap[gb565]? = some (.cells #[.int .i64 a1_0, .bool a1_1, .int .i64 a1_2, .int .u64 a1_3, .int .u64 a1_4, .bool a1_5] 81 (0,0)))∧Aside0 (w'.heap[gb572]? = some (.cells #[.int .i64 t566, .int .u64 t567, .int .u64 t568, .int .u64 t569, .int .i64 t570] 223 (0,0)))∧Aside0 (w'.heap[gb579]? = some (.cells #[.int .u64 x580000_2, .int .u64 x580001_2] 211 (0,0)))∧Aside0 (Below w.heap.size w w'))
   case atStart=>exact ⟨(t591),(0),(t589),(t590),z1,z1,H,zL,⟨zK BK565⟩,⟨zK BK572⟩,⟨zKp BK579⟩,⟨zB HB⟩⟩
   clear H
   obtain ⟨x12_2,x132_2,x580000_2,x580001_2,rfl,rfl,H,HK2,BK565,BK572,BK579,HB⟩:=hrel
   obtain _|k2:=gk
   ·exact zz H rfl
   simp only [round_Cut.l1] at H
   replace H:=zsd H
   rcases H with ⟨c100b0,H⟩|⟨c100b0,H⟩
   replace H:=zo H
   obtain ⟨⟨t592,t593,t594⟩,A101,H⟩:=H
   try dsimp only at H
   have hnb102:=NB579_565.out
   have hnc102:=NB565_579.out
   have hnb103:=NB579_572.out
   have hnc103:=NB572_579.out
   obtain ⟨_,_,_,_⟩:=zf2 BK579
   rotate_left
   rotate_left
   all_goals (go_wp2_with (first|((with_reducible refine gate_callee (f:=158) rfl ?_);refine zc (some 137) Tryz.func158 _ (round_under.calls _ _ _ _ _ _ _ _ _ A101.out) ?_;rintro e w105 ⟨rfl,hb⟩;refine ⟨_,rfl,?_⟩;replace BK565:=zKb BK565 hb;replace BK572:=zKb BK572 hb;replace BK579:=zKb BK579 hb;replace HB:=zBs HB hb;clear hb;obtain ⟨_,_,_,_⟩:=zf2 BK579)))
   ·go_roundg k2
    case measure=>have:=HJ3.out;have:=HK2.out;omega
    case rel=>exact ⟨(t594),(wrap64 (x132_2+1)),(t592),(t593),z1,z1,H,⟨by have:=HJ3.out;have:=HK2.out;omega⟩,⟨zK BK565⟩,⟨zK BK572⟩,⟨zKp BK579⟩,⟨zB HB⟩⟩
   go_meet
   case rel=>exact ⟨_,(x12_2),(x580000_2),(x580001_2),z1,H,⟨by have:=HJ3.out;have:=HK2.out;first|omega|exact Nat.le_refl _⟩,⟨zK BK565⟩,⟨zK BK572⟩,⟨zK BK579⟩,⟨zB HB⟩⟩
  case rest =>
   obtain ⟨kq,x12_68,x580000_68,x580001_68,rfl,H,HJ68,BK565,BK572,BK579,HB⟩:=hcut
   obtain _|kj68:=kq
   ·exact zz H rfl
   simp only [round_Cut.j3] at H
   generalize hji107:(wrap64 (65 - a0):Int)=ji107 at H
   have hji107w:(IntKind.i64.wrap (65 - a0))=ji107:=(i64_w _).trans hji107
   replace H:=zit H
   obtain ⟨c108b0,c108b1,H⟩:=H
   generalize hji109:(shr .u64 x580000_68 (ji107):Int)=ji109 at H
   have hji109_:(x580000_68 / 2 ^ min (ji107).toNat 64)=ji109:=hji109
   have hji109z:(ji107)≤64→(x580000_68 / 2 ^ (ji107).toNat)=ji109:=shr_small hji109
   replace H:=zo H
   obtain ⟨⟨t595,t596,t597,t598⟩,A110,H⟩:=H
   try dsimp only at H
   replace H:=zsk H
   rcases H with ⟨c111b0,c111b1,H⟩|⟨c111b0,c111b1,c111,H⟩
   replace H:=zo H
   obtain ⟨t600,A112,H⟩:=H
   obtain ⟨rfl,rfl,rfl⟩:=zJ3 H
   have hnb113:=NB579_565.out
   have hnc113:=NB565_579.out
   have hnb114:=NB579_572.out
   have hnc114:=NB572_579.out
   obtain ⟨_,_,_,_⟩:=zf2 BK579
   rotate_left
   replace H:=zo H
   obtain ⟨t601,A122,H⟩:=H
   obtain ⟨rfl,rfl,rfl⟩:=zJ3 H
   have hnb123:=NB579_565.out
   have hnc123:=NB565_579.out
   have hnb124:=NB579_572.out
   have hnc124:=NB572_579.out
   obtain ⟨_,_,_,_⟩:=zf2 BK579
   rotate_left
   all_goals (go_wp2_with (first|((with_reducible refine gate_callee (f:=157) rfl ?_);refine zc (some 150) Tryz.func157 _ (twin_Shl.calls _ _ _ _ _ _ _ _ _ A110.out) ?_;rintro e w116 ⟨rfl,hb⟩;refine ⟨_,rfl,?_⟩;replace BK565:=zKb BK565 hb;replace BK572:=zKb BK572 hb;replace BK579:=zKb BK579 hb;replace HB:=zBs HB hb;clear hb;(try simp only [errW_none,errW_some]))|((with_reducible refine gate_dst (N:=15) rfl ?_);refine zx 15 211 #[.int .u64 0, .int .u64 0] ?_;intro gb599 hg w117 hbox hb;have BK599:=am (hbox);have GW599:=zG hg HB;have GE599:=zG hg HB;replace HB:=zBs HB hb;have NB565_599:=zNl hg BK565;have NB599_565:=zNg hg BK565;replace BK565:=zKb BK565 hb;have NB572_599:=zNl hg BK572;have NB599_572:=zNg hg BK572;replace BK572:=zKb BK572 hb;have NB579_599:=zNl hg BK579;have NB599_579:=zNg hg BK579;replace BK579:=zKb BK579 hb;clear hb hbox hg;have hnb118:=NB599_565.out;have hnc118:=NB565_599.out;have hnb119:=NB599_572.out;have hnc119:=NB572_599.out;have hnb120:=NB599_579.out;have hnc120:=NB579_599.out;obtain ⟨_,_,_,_⟩:=zf2 BK599)|((with_reducible refine gate_callee (f:=159) rfl ?_);refine zc (some 161) Tryz.func159 _ (round_left.calls _ _ _ _ _ A112.out) ?_;rintro e w' ⟨rfl,⟨nd,rfl⟩⟩;refine ⟨_,rfl,?_⟩)|((with_reducible refine gate_callee (f:=159) rfl ?_);refine zc (some 161) Tryz.func159 _ (round_left.calls _ _ _ _ _ A122.out) ?_;rintro e w' ⟨rfl,⟨nd,rfl⟩⟩;refine ⟨_,rfl,?_⟩)))
   all_goals
    go_ret3
    exact ⟨by first|exact z3|(simp only [← hji107, ← hji109];exact z3)|exact z2,zB HB⟩
def round_Round.f (k:Nat) (a0:Int) (a1_0:Int) (a1_1:Bool) (a1_2:Int) (a1_3:Int) (a1_4:Int) (a1_5:Bool):Option (Int × Option Int):=(round_Cut.f k a0 a1_0 a1_1 a1_2 a1_3 a1_4 a1_5).bind fun bt603=>(if bt603.2.2.isNone=true then (if bt603.2.1=2 then (if (Go.bits .and .u64 bt603.1 1)=0 then (if a1_1=true then ((shape_Fold.f a0 (IntKind.u64.wrap (-bt603.1))).bind fun bt615=>(some (bt615.1,bt615.2))) else ((shape_Fold.f a0 bt603.1).bind fun bt617=>(some (bt617.1,bt617.2)))) else (if a1_1=true then ((shape_Fold.f a0 (IntKind.u64.wrap (-(IntKind.u64.wrap (bt603.1+1))))).bind fun bt619=>(some (bt619.1,bt619.2))) else ((shape_Fold.f a0 (IntKind.u64.wrap (bt603.1+1))).bind fun bt621=>(some (bt621.1,bt621.2))))) else (if bt603.2.1=3 then (if a1_1=true then ((shape_Fold.f a0 (IntKind.u64.wrap (-(IntKind.u64.wrap (bt603.1+1))))).bind fun bt607=>(some (bt607.1,bt607.2))) else ((shape_Fold.f a0 (IntKind.u64.wrap (bt603.1+1))).bind fun bt609=>(some (bt609.1,bt609.2)))) else (if a1_1=true then ((shape_Fold.f a0 (IntKind.u64.wrap (-bt603.1))).bind fun bt611=>(some (bt611.1,bt611.2))) else ((shape_Fold.f a0 bt603.1).bind fun bt613=>(some (bt613.1,bt613.2)))))) else (some (0,some (bt603.2.2.getD 0))))
theorem round_Round.mono:∀ a0 a1 a2 a3 a4 a5 a6 k,LeO (round_Round.f k a0 a1 a2 a3 a4 a5 a6) (round_Round.f (k+1) a0 a1 a2 a3 a4 a5 a6):=by
  intro a0 a1 a2 a3 a4 a5 a6 k
  unfold round_Round.f
  repeat' (with_reducible first|exact round_Cut.mono _ _ _ _ _ _ _ _|exact zm|exact zv|refine zI ?_ ?_|refine zO ?_ fun _=>?_)
theorem round_Round.calls (k:Nat) (a0:Int) (a1_0:Int) (a1_1:Bool) (a1_2:Int) (a1_3:Int) (a1_4:Int) (a1_5:Bool) (r1:Int) (r2:Option Int) (w:World) (h:round_Round.f k a0 a1_0 a1_1 a1_2 a1_3 a1_4 a1_5=some (r1,r2)) :
    Calls Tryz.prog 44 #[.int .i64 a0, .agg #[.int .i64 a1_0, .bool a1_1, .int .i64 a1_2, .int .u64 a1_3, .int .u64 a1_4, .bool a1_5]] w fun e w'=>e = .returned (.tuple #[.int .u64 r1,errW r2])∧Below w.heap.size w w':=by
 have hu81:=Tryz.underlying81
 have hu27:=Tryz.underlying27
 have hu64:=Tryz.underlying64
 have HB:=am (Below.refl w.heap.size w)
 have H:=am h
 unfold round_Round.f at H
 clear h
 replace H:=zo H
 obtain ⟨⟨t603,t604,t605⟩,A3,H⟩:=H
 try dsimp only at H
 rcases t605 with _|q606
 replace H:=zb1 H
 try simp only [errW_none,errW_some]
 replace H:=zsk H
 rcases H with ⟨c4b0,c4b1,H⟩|⟨c4b0,c4b1,c4,H⟩
 replace H:=zsk H
 rcases H with ⟨c5b0,c5b1,H⟩|⟨c5b0,c5b1,c5,H⟩
 cases a1_1
 replace H:=zb0 H
 replace H:=zo H
 obtain ⟨⟨t617,t618⟩,A12,H⟩:=H
 try dsimp only at H
 obtain ⟨rfl,rfl⟩:=zJ2 H
 rotate_left
 replace H:=zb1 H
 replace H:=zo H
 obtain ⟨⟨t615,t616⟩,A7,H⟩:=H
 try dsimp only at H
 obtain ⟨rfl,rfl⟩:=zJ2 H
 rotate_left
 cases a1_1
 replace H:=zb0 H
 replace H:=zo H
 obtain ⟨⟨t621,t622⟩,A23,H⟩:=H
 try dsimp only at H
 obtain ⟨rfl,rfl⟩:=zJ2 H
 rotate_left
 replace H:=zb1 H
 replace H:=zo H
 obtain ⟨⟨t619,t620⟩,A18,H⟩:=H
 try dsimp only at H
 obtain ⟨rfl,rfl⟩:=zJ2 H
 rotate_left
 replace H:=zsk H
 rcases H with ⟨c28b0,c28b1,H⟩|⟨c28b0,c28b1,c28,H⟩
 cases a1_1
 replace H:=zb0 H
 replace H:=zo H
 obtain ⟨⟨t609,t610⟩,A35,H⟩:=H
 try dsimp only at H
 obtain ⟨rfl,rfl⟩:=zJ2 H
 rotate_left
 replace H:=zb1 H
 replace H:=zo H
 obtain ⟨⟨t607,t608⟩,A30,H⟩:=H
 try dsimp only at H
 obtain ⟨rfl,rfl⟩:=zJ2 H
 rotate_left
 cases a1_1
 replace H:=zb0 H
 replace H:=zo H
 obtain ⟨⟨t613,t614⟩,A46,H⟩:=H
 try dsimp only at H
 obtain ⟨rfl,rfl⟩:=zJ2 H
 rotate_left
 replace H:=zb1 H
 replace H:=zo H
 obtain ⟨⟨t611,t612⟩,A41,H⟩:=H
 try dsimp only at H
 obtain ⟨rfl,rfl⟩:=zJ2 H
 rotate_left
 replace H:=zb0 H
 try simp only [Option.getD_some] at H
 try simp only [errW_none,errW_some]
 obtain ⟨rfl,rfl⟩:=zJ2 H
 rotate_left
 all_goals (go_enter Tryz.func44,Tryz.ntmps44;go_wp2_with (first|((with_reducible refine gate_dst (N:=3) rfl ?_);refine zx 3 81 #[.int .i64 a1_0, .bool false, .int .i64 a1_2, .int .u64 a1_3, .int .u64 a1_4, .bool a1_5] ?_;intro gb602 hg w13 hbox hb;have BK602:=am (hbox);have GW602:=zG hg HB;have GE602:=zG hg HB;replace HB:=zBs HB hb;clear hb hbox hg;obtain ⟨_,_,_,_,_,_,_,_,_,_,_,_⟩:=zf6 BK602)|((with_reducible refine gate_callee (f:=98) rfl ?_);refine zc (some 12) Tryz.func98 _ (round_Cut.calls _ _ _ _ _ _ _ _ _ _ _ _ A3.out) ?_;rintro e w15 ⟨rfl,hb⟩;refine ⟨_,rfl,?_⟩;replace BK602:=zKb BK602 hb;replace HB:=zBs HB hb;clear hb;(try simp only [errW_none,errW_some]);obtain ⟨_,_,_,_,_,_,_,_,_,_,_,_⟩:=zf6 BK602)|((with_reducible refine gate_callee (f:=76) rfl ?_);refine zc (some 35) Tryz.func76 _ (shape_Fold.calls _ _ _ _ _ A12.out) ?_;rintro e w' ⟨rfl,⟨nd,rfl⟩⟩;refine ⟨_,rfl,?_⟩;(try simp only [errW_none,errW_some]))|((with_reducible refine gate_dst (N:=3) rfl ?_);refine zx 3 81 #[.int .i64 a1_0, .bool true, .int .i64 a1_2, .int .u64 a1_3, .int .u64 a1_4, .bool a1_5] ?_;intro gb602 hg w8 hbox hb;have BK602:=am (hbox);have GW602:=zG hg HB;have GE602:=zG hg HB;replace HB:=zBs HB hb;clear hb hbox hg;obtain ⟨_,_,_,_,_,_,_,_,_,_,_,_⟩:=zf6 BK602)|((with_reducible refine gate_callee (f:=76) rfl ?_);refine zc (some 35) Tryz.func76 _ (shape_Fold.calls _ _ _ _ _ A7.out) ?_;rintro e w' ⟨rfl,⟨nd,rfl⟩⟩;refine ⟨_,rfl,?_⟩;(try simp only [errW_none,errW_some]))|((with_reducible refine gate_callee (f:=76) rfl ?_);refine zc (some 35) Tryz.func76 _ (shape_Fold.calls _ _ _ _ _ A23.out) ?_;rintro e w' ⟨rfl,⟨nd,rfl⟩⟩;refine ⟨_,rfl,?_⟩;(try simp only [errW_none,errW_some]))|((with_reducible refine gate_callee (f:=76) rfl ?_);refine zc (some 35) Tryz.func76 _ (shape_Fold.calls _ _ _ _ _ A18.out) ?_;rintro e w' ⟨rfl,⟨nd,rfl⟩⟩;refine ⟨_,rfl,?_⟩;(try simp only [errW_none,errW_some]))|((with_reducible refine gate_callee (f:=76) rfl ?_);refine zc (some 35) Tryz.func76 _ (shape_Fold.calls _ _ _ _ _ A35.out) ?_;rintro e w' ⟨rfl,⟨nd,rfl⟩⟩;refine ⟨_,rfl,?_⟩;(try simp only [errW_none,errW_some]))|((with_reducible refine gate_callee (f:=76) rfl ?_);refine zc (some 35) Tryz.func76 _ (shape_Fold.calls _ _ _ _ _ A30.out) ?_;rintro e w' ⟨rfl,⟨nd,rfl⟩⟩;refine ⟨_,rfl,?_⟩;(try simp only [errW_none,errW_some]))|((with_reducible refine gate_callee (f:=76) rfl ?_);refine zc (some 35) Tryz.func76 _ (shape_Fold.calls _ _ _ _ _ A46.out) ?_;rintro e w' ⟨rfl,⟨nd,rfl⟩⟩;refine ⟨_,rfl,?_⟩;(try simp only [errW_none,errW_some]))|((with_reducible refine gate_callee (f:=76) rfl ?_);refine zc (some 35) Tryz.func76 _ (shape_Fold.calls _ _ _ _ _ A41.out) ?_;rintro e w' ⟨rfl,⟨nd,rfl⟩⟩;refine ⟨_,rfl,?_⟩;(try simp only [errW_none,errW_some]))|((with_reducible refine gate_dst (N:=3) rfl ?_);refine zx 3 81 #[.int .i64 a1_0, .bool a1_1, .int .i64 a1_2, .int .u64 a1_3, .int .u64 a1_4, .bool a1_5] ?_;intro gb602 hg w51 hbox hb;have BK602:=am (hbox);have GW602:=zG hg HB;have GE602:=zG hg HB;replace HB:=zBs HB hb;clear hb hbox hg;obtain ⟨_,_,_,_,_,_,_,_,_,_,_,_⟩:=zf6 BK602)))
 ·go_ret2
  exact ⟨z2,zB HB⟩
 ·go_ret2
  exact ⟨z2,zB HB⟩
 ·go_ret2
  exact ⟨z2,zB HB⟩
 ·go_ret2
  exact ⟨z2,zB HB⟩
 ·go_ret2
  exact ⟨z2,zB HB⟩
 ·go_ret2
  exact ⟨z2,zB HB⟩
 ·go_ret2
  exact ⟨z2,zB HB⟩
 ·go_ret2
  exact ⟨z2,zB HB⟩
 go_ret2
 exact ⟨z2,zB HB⟩
def text_Of.f (k:Nat) (a0:Int) (a1_0:Bool) (a1_1:Bool) (a1_2:ByteArray) (a1_3:Int):Option (Int × Option Int):=(codec_Decode.f k a0 0).bind fun bt624=>(if bt624.2.2.2.2.isNone=true then ((scan_Norm.f a1_0 a1_1 a1_2 a1_3).bind fun bt631=>(if bt631.2.2.2.2.isNone=true then (if bt631.1=true then (if 0≤(wrap64 (a0 - 1)) then (some (shl .u64 1 (wrap64 (a0 - 1)),none)) else (none)) else (if bt631.2.2.1.toList=([48]:List UInt8) then (some (0,none)) else ((text_exact.f k bt631.1 bt631.2.1 bt631.2.2.1 bt631.2.2.2.1).bind fun bt637=>(if bt637.2.2.2.2.2.2.isNone=true then ((round_Round.f k a0 bt637.1 bt637.2.1 bt637.2.2.1 bt637.2.2.2.1 bt637.2.2.2.2.1 bt637.2.2.2.2.2.1).bind fun bt646=>(some (bt646.1,bt646.2))) else (some (0,some (bt637.2.2.2.2.2.2.getD 0))))))) else (some (0,some (bt631.2.2.2.2.getD 0))))) else (some (0,some (bt624.2.2.2.2.getD 0))))
theorem text_Of.mono:∀ a0 a1 a2 a3 a4 k,LeO (text_Of.f k a0 a1 a2 a3 a4) (text_Of.f (k+1) a0 a1 a2 a3 a4):=by
  intro a0 a1 a2 a3 a4 k
  unfold text_Of.f
  repeat' (with_reducible first|exact codec_Decode.mono _ _ _|exact round_Round.mono _ _ _ _ _ _ _ _|exact text_exact.mono _ _ _ _ _|exact zm|exact zv|refine zI ?_ ?_|refine zO ?_ fun _=>?_)
theorem text_Of.calls (k:Nat) (a0:Int) (a1_0:Bool) (a1_1:Bool) (a1_2:ByteArray) (a1_3:Int) (r1:Int) (r2:Option Int) (w:World) (h:text_Of.f k a0 a1_0 a1_1 a1_2 a1_3=some (r1,r2)) :
    Calls Tryz.prog 13 #[.int .i64 a0, .agg #[.bool a1_0, .bool a1_1, .string a1_2, .int .i64 a1_3]] w fun e w'=>e = .returned (.tuple #[.int .u64 r1,errW r2])∧Below w.heap.size w w':=by
 have hu23:=Tryz.underlying23
 have hu77:=Tryz.underlying77
 have hu81:=Tryz.underlying81
 have hu27:=Tryz.underlying27
 have hu64:=Tryz.underlying64
 have HB:=am (Below.refl w.heap.size w)
 have H:=am h
 unfold text_Of.f at H
 clear h
 replace H:=zo H
 obtain ⟨⟨t624,t625,t626,t627,t628⟩,A3,H⟩:=H
 try dsimp only at H
 rcases t628 with _|q630
 replace H:=zb1 H
 try simp only [errW_none,errW_some]
 replace H:=zo H
 obtain ⟨⟨t631,t632,t633,t634,t635⟩,A4,H⟩:=H
 try dsimp only at H
 rcases t635 with _|q636
 replace H:=zb1 H
 try simp only [errW_none,errW_some]
 cases t631
 replace H:=zb0 H
 replace H:=zsk H
 rcases H with ⟨c17b0,c17b1,H⟩|⟨c17b0,c17b1,c17,H⟩
 obtain ⟨rfl,rfl⟩:=zJ2 H
 rotate_left
 replace H:=zo H
 obtain ⟨⟨t637,t638,t639,t640,t641,t642,t643⟩,A26,H⟩:=H
 try dsimp only at H
 rcases t643 with _|q645
 replace H:=zb1 H
 try simp only [errW_none,errW_some]
 replace H:=zo H
 obtain ⟨⟨t646,t647⟩,A27,H⟩:=H
 try dsimp only at H
 obtain ⟨rfl,rfl⟩:=zJ2 H
 rotate_left
 replace H:=zb0 H
 try simp only [Option.getD_some] at H
 try simp only [errW_none,errW_some]
 obtain ⟨rfl,rfl⟩:=zJ2 H
 rotate_left
 replace H:=zb1 H
 generalize hji6:(wrap64 (a0 - 1):Int)=ji6 at H
 (try rw [hji6] at A3)
 (try rw [hji6] at A4)
 have hji6w:(IntKind.i64.wrap (a0 - 1))=ji6:=(i64_w _).trans hji6
 replace H:=zit H
 obtain ⟨c7b0,c7b1,H⟩:=H
 generalize hji8:(shl .u64 1 (ji6):Int)=ji8 at H
 (try rw [hji8] at A3)
 (try rw [hji8] at A4)
 have hji8_:(IntKind.u64.wrap (1 * 2 ^ min (ji6).toNat 64))=ji8:=hji8
 have hji8z:(ji6)≤64→(IntKind.u64.wrap (1 * 2 ^ (ji6).toNat))=ji8:=shl_small hji8
 have hji8u:(IntKind.u64.wrap (2 ^ min (ji6).toNat 64))=ji8:=by have h_:=hji8_;rw [Int.one_mul] at h_;exact h_
 have hji8v:(ji6)≤64→(IntKind.u64.wrap (2 ^ (ji6).toNat))=ji8:=fun hle_=>by have h_:=hji8z hle_;rw [Int.one_mul] at h_;exact h_
 obtain ⟨rfl,rfl⟩:=zJ2 H
 rotate_left
 replace H:=zb0 H
 try simp only [Option.getD_some] at H
 try simp only [errW_none,errW_some]
 obtain ⟨rfl,rfl⟩:=zJ2 H
 rotate_left
 replace H:=zb0 H
 try simp only [Option.getD_some] at H
 try simp only [errW_none,errW_some]
 obtain ⟨rfl,rfl⟩:=zJ2 H
 rotate_left
 all_goals (go_enter Tryz.func13,Tryz.ntmps13;go_wp2_with (first|((with_reducible refine gate_dst (N:=3) rfl ?_);refine zx 3 23 #[.bool a1_0, .bool a1_1, .string a1_2, .int .i64 a1_3] ?_;intro gb623 hg w28 hbox hb;have BK623:=am (hbox);have GW623:=zG hg HB;have GE623:=zG hg HB;replace HB:=zBs HB hb;clear hb hbox hg)|((with_reducible refine gate_callee (f:=42) rfl ?_);refine zc (some 12) Tryz.func42 _ (codec_Decode.calls _ _ _ _ _ _ _ _ _ A3.out) ?_;rintro e w29 ⟨rfl,hb⟩;refine ⟨_,rfl,?_⟩;replace BK623:=zKb BK623 hb;replace HB:=zBs HB hb;clear hb;(try simp only [errW_none,errW_some]))|((with_reducible refine gate_dst (N:=6) rfl ?_);refine zx 6 77 #[.int .i64 0, .bool false, .int .i64 0, .int .u64 0] ?_;intro gb629 hg w30 hbox hb;have BK629:=am (hbox);have GW629:=zG hg HB;have GE629:=zG hg HB;replace HB:=zBs HB hb;have NB623_629:=zNl hg BK623;have NB629_623:=zNg hg BK623;replace BK623:=zKb BK623 hb;clear hb hbox hg;have hnb31:=NB629_623.out;have hnc31:=NB623_629.out;obtain ⟨_,_,_,_,_,_,_,_⟩:=zf4 BK629;obtain ⟨_,_,_,_,_,_,_,_⟩:=zf4 BK623)|((with_reducible refine gate_callee (f:=26) rfl ?_);refine zc (some 20) Tryz.func26 _ (scan_Norm.calls _ _ _ _ _ _ _ _ _ _ A4.out) ?_;rintro e w34 ⟨rfl,hb⟩;refine ⟨_,rfl,?_⟩;replace BK623:=zKb BK623 hb;replace BK629:=am (blk_below (zKp BK629) hb);replace HB:=zBs HB hb;clear hb;(try simp only [errW_none,errW_some]);obtain ⟨_,_,_,_,_,_,_,_⟩:=zf4 BK623)|((with_reducible refine gate_callee (f:=43) rfl ?_);refine zc (some 39) Tryz.func43 _ (text_exact.calls _ _ _ _ _ _ _ _ _ _ _ _ _ A26.out) ?_;rintro e w36 ⟨rfl,hb⟩;refine ⟨_,rfl,?_⟩;replace BK623:=am (blk_below (zKp BK623) hb);replace BK629:=zKb BK629 hb;replace HB:=zBs HB hb;clear hb;(try simp only [errW_none,errW_some]))|((with_reducible refine gate_dst (N:=9) rfl ?_);refine zx 9 81 #[.int .i64 0, .bool false, .int .i64 0, .int .u64 0, .int .u64 0, .bool false] ?_;intro gb644 hg w37 hbox hb;have BK644:=am (hbox);have GW644:=zG hg HB;have GE644:=zG hg HB;replace HB:=zBs HB hb;have NB623_644:=zNl hg BK623;have NB644_623:=zNg hg BK623;replace BK623:=zKb BK623 hb;have NB629_644:=zNl hg BK629;have NB644_629:=zNg hg BK629;replace BK629:=zKb BK629 hb;clear hb hbox hg;have hnb38:=NB644_623.out;have hnc38:=NB623_644.out;have hnb39:=NB644_629.out;have hnc39:=NB629_644.out;obtain ⟨_,_,_,_,_,_,_,_,_,_,_,_⟩:=zf6 BK644)|((with_reducible refine gate_callee (f:=44) rfl ?_);refine zc (some 47) Tryz.func44 _ (round_Round.calls _ _ _ _ _ _ _ _ _ _ _ A27.out) ?_;rintro e w41 ⟨rfl,hb⟩;refine ⟨_,rfl,?_⟩;replace BK623:=zKb BK623 hb;replace BK629:=zKb BK629 hb;replace BK644:=am (blk_below (zKp BK644) hb);replace HB:=zBs HB hb;clear hb;(try simp only [errW_none,errW_some]))))
 ·go_ret2
  exact ⟨z2,zB HB⟩
 ·go_ret2
  exact ⟨z2,zB HB⟩
 ·go_ret2
  exact ⟨z2,zB HB⟩
 ·go_ret2
  exact ⟨by first|exact z3|(simp only [← hji6, ← hji8];exact z3)|exact z2,zB HB⟩
 ·go_ret2
  exact ⟨z2,zB HB⟩
 go_ret2
 exact ⟨z2,zB HB⟩
def text_Parse.f (k:Nat) (a0:Int) (a1:ByteArray):Option (Int × Option Int):=(codec_Decode.f k a0 0).bind fun bt648=>(if bt648.2.2.2.2.isNone=true then ((scan_Scan.f a1).bind fun bt655=>(if bt655.2.2.2.2.isNone=true then ((text_Of.f k a0 bt655.1 bt655.2.1 bt655.2.2.1 bt655.2.2.2.1).bind fun bt662=>(some (bt662.1,bt662.2))) else (some (0,some (bt655.2.2.2.2.getD 0))))) else (some (0,some (bt648.2.2.2.2.getD 0))))
theorem text_Parse.mono:∀ a0 a1 k,LeO (text_Parse.f k a0 a1) (text_Parse.f (k+1) a0 a1):=by
  intro a0 a1 k
  unfold text_Parse.f
  repeat' (with_reducible first|exact codec_Decode.mono _ _ _|exact text_Of.mono _ _ _ _ _ _|exact zm|exact zv|refine zI ?_ ?_|refine zO ?_ fun _=>?_)
theorem text_Parse.calls (k:Nat) (a0:Int) (a1:ByteArray) (r1:Int) (r2:Option Int) (w:World) (h:text_Parse.f k a0 a1=some (r1,r2)) :
    Calls Tryz.prog 24 #[.int .i64 a0, .string a1] w fun e w'=>e = .returned (.tuple #[.int .u64 r1,errW r2])∧Below w.heap.size w w':=by
 have hu77:=Tryz.underlying77
 have hu23:=Tryz.underlying23
 have hu27:=Tryz.underlying27
 have hu64:=Tryz.underlying64
 have HB:=am (Below.refl w.heap.size w)
 have H:=am h
 unfold text_Parse.f at H
 clear h
 replace H:=zo H
 obtain ⟨⟨t648,t649,t650,t651,t652⟩,A3,H⟩:=H
 try dsimp only at H
 rcases t652 with _|q654
 replace H:=zb1 H
 try simp only [errW_none,errW_some]
 replace H:=zo H
 obtain ⟨⟨t655,t656,t657,t658,t659⟩,A4,H⟩:=H
 try dsimp only at H
 rcases t659 with _|q661
 replace H:=zb1 H
 try simp only [errW_none,errW_some]
 replace H:=zo H
 obtain ⟨⟨t662,t663⟩,A5,H⟩:=H
 try dsimp only at H
 obtain ⟨rfl,rfl⟩:=zJ2 H
 rotate_left
 replace H:=zb0 H
 try simp only [Option.getD_some] at H
 try simp only [errW_none,errW_some]
 obtain ⟨rfl,rfl⟩:=zJ2 H
 rotate_left
 replace H:=zb0 H
 try simp only [Option.getD_some] at H
 try simp only [errW_none,errW_some]
 obtain ⟨rfl,rfl⟩:=zJ2 H
 rotate_left
 all_goals (go_enter Tryz.func24,Tryz.ntmps24;go_wp2_with (first|((with_reducible refine gate_callee (f:=42) rfl ?_);refine zc (some 12) Tryz.func42 _ (codec_Decode.calls _ _ _ _ _ _ _ _ _ A3.out) ?_;rintro e w6 ⟨rfl,hb⟩;refine ⟨_,rfl,?_⟩;replace HB:=zBs HB hb;clear hb;(try simp only [errW_none,errW_some]))|((with_reducible refine gate_dst (N:=6) rfl ?_);refine zx 6 77 #[.int .i64 0, .bool false, .int .i64 0, .int .u64 0] ?_;intro gb653 hg w7 hbox hb;have BK653:=am (hbox);have GW653:=zG hg HB;have GE653:=zG hg HB;replace HB:=zBs HB hb;clear hb hbox hg;obtain ⟨_,_,_,_,_,_,_,_⟩:=zf4 BK653)|((with_reducible refine gate_callee (f:=25) rfl ?_);refine zc (some 20) Tryz.func25 _ (scan_Scan.calls _ _ _ _ _ _ _ A4.out) ?_;rintro e w9 ⟨rfl,hb⟩;refine ⟨_,rfl,?_⟩;replace BK653:=am (blk_below (zKp BK653) hb);replace HB:=zBs HB hb;clear hb;(try simp only [errW_none,errW_some]))|((with_reducible refine gate_dst (N:=8) rfl ?_);refine zx 8 23 #[.bool false, .bool false, .string (⟨#[]⟩:ByteArray), .int .i64 0] ?_;intro gb660 hg w10 hbox hb;have BK660:=am (hbox);have GW660:=zG hg HB;have GE660:=zG hg HB;replace HB:=zBs HB hb;have NB653_660:=zNl hg BK653;have NB660_653:=zNg hg BK653;replace BK653:=zKb BK653 hb;clear hb hbox hg;have hnb11:=NB660_653.out;have hnc11:=NB653_660.out;obtain ⟨_,_,_,_,_,_,_,_⟩:=zf4 BK660)|((with_reducible refine gate_callee (f:=13) rfl ?_);refine zc (some 28) Tryz.func13 _ (text_Of.calls _ _ _ _ _ _ _ _ _ A5.out) ?_;rintro e w13 ⟨rfl,hb⟩;refine ⟨_,rfl,?_⟩;replace BK653:=zKb BK653 hb;replace BK660:=am (blk_below (zKp BK660) hb);replace HB:=zBs HB hb;clear hb;(try simp only [errW_none,errW_some]))))
 ·go_ret2
  exact ⟨z2,zB HB⟩
 ·go_ret2
  exact ⟨z2,zB HB⟩
 go_ret2
 exact ⟨z2,zB HB⟩
end Go.Proofs.Yy.PTx
end
