/- Part 27 of what the proof needs. -/
import Derived.Laws.Strings2
import Derived.Laws.RangeString
import Derived.Test.YtpfnkbnepcchgaaGreatDoorKTFAZ
set_option linter.unusedSimpArgs false
set_option linter.unusedVariables false
section
set_option maxHeartbeats 8000000
set_option maxRecDepth 100000
namespace Go.Proofs.Yy.PTx
open Go.RowKit Go.Proofs.Yy.Z Go.Proofs.Yw.PrintWords Go.Proofs.Yw.PrintLast Go.Proofs.Yw.PrintMore
open Go.Proofs.Yy.M
attribute [local go_sem] runx_add64 runx_sub64 eql_cc eql_nc neq_cc neq_nc
attribute [local go_sem] max2_int min2_int max_two min_two max_three min_three max_four min_four
mutual
def vernierlaw19_TextForms.j0 : Nat → Int → Bool → Int → Bool → Bool → Bool → ByteArray → Int → Option (Bool)
  | 0, _, _, _, _, _, _, _, _ => none
  | k + 1, x2, x7, x8, x49, x1183000, x1183001, x1183002, x1183003 => if x49 = true then (some x7) else ((vernierlaw19_pick.f x2 30).bind fun t1186 => (vernierlaw19_TextForms.l0 k x7 x8 t1186 (⟨#[]⟩ : ByteArray) 0 x1183000 x1183001 x1183002 x1183003))
def vernierlaw19_TextForms.l0 : Nat → Bool → Int → Int → ByteArray → Int → Bool → Bool → ByteArray → Int → Option (Bool)
  | 0, _, _, _, _, _, _, _, _, _ => none
  | k + 1, x7, x8, x10, x11, x12, x1183000, x1183001, x1183002, x1183003 => if x12 < x10 then (if x11.size + 1 ≤ 9223372036854775807 then (vernierlaw19_TextForms.l0 k x7 x8 x10 (x11 ++ (⟨#[48]⟩ : ByteArray)) (wrap64 (x12 + 1)) x1183000 x1183001 x1183002 x1183003) else (none)) else ((text_Of.f k x8 x1183000 x1183001 x1183002 x1183003).bind fun bt1187 => (if x11.size + x1183002.size ≤ 9223372036854775807 then (if (x11 ++ x1183002).size + x11.size ≤ 9223372036854775807 then ((text_Of.f k x8 false x1183001 ((x11 ++ x1183002) ++ x11) (wrap64 (x1183003 - x10))).bind fun bt1190 => ((scan_Text.f x1183000 x1183001 x1183002 x1183003).bind fun bt1192 => (if bt1192.1.toList = ([] : List UInt8) then ((text_Parse.f k x8 bt1192.1).bind fun bt1194 => (if x7 = true then (if bt1187.2.isNone = true then (if bt1190.2.isNone = true then (if bt1192.2.isNone = true then (if bt1194.2.isNone = true then (if bt1187.1 = bt1190.1 then (some (bt1187.1 == bt1194.1)) else (some false)) else (some false)) else (some false)) else (some false)) else (some false)) else (some false))) else (if 0 < (bt1192.1.size : Int) then (if (bt bt1192.1 0) = 45 then ((text_Parse.f k x8 bt1192.1).bind fun bt1200 => (if x7 = true then (if bt1187.2.isNone = true then (if bt1190.2.isNone = true then (if bt1192.2.isNone = true then (if bt1200.2.isNone = true then (if bt1187.1 = bt1190.1 then (some (bt1187.1 == bt1200.1)) else (some false)) else (some false)) else (some false)) else (some false)) else (some false)) else (some false))) else (if 1 + x11.size ≤ 9223372036854775807 then (if ((⟨#[43]⟩ : ByteArray) ++ x11).size + bt1192.1.size ≤ 9223372036854775807 then ((text_Parse.f k x8 (((⟨#[43]⟩ : ByteArray) ++ x11) ++ bt1192.1)).bind fun bt1206 => (if x7 = true then (if bt1187.2.isNone = true then (if bt1190.2.isNone = true then (if bt1192.2.isNone = true then (if bt1206.2.isNone = true then (if bt1187.1 = bt1190.1 then (some (bt1187.1 == bt1206.1)) else (some false)) else (some false)) else (some false)) else (some false)) else (some false)) else (some false))) else (none)) else (none))) else (none))))) else (none)) else (none)))
end
def vernierlaw19_TextForms.f (k : Nat) (a0 : Int) (a1_0 : Bool) (a1_1 : Bool) (a1_2 : ByteArray) (a1_3 : Int) (a2 : Int) : Option (Bool) := (vernierlaw19_shown.f k).bind fun t1183 => ((vernierlaw19_width.f k a0).bind fun t1184 => ((vernierref18_Formed.f k a1_0 a1_1 a1_2 a1_3).bind fun t1185 => (if t1185 = true then (if a1_0 = true then (vernierlaw19_TextForms.j0 k a2 t1183 t1184 true a1_0 a1_1 a1_2 a1_3) else (if (a1_2.size : Int) > 2000 then (vernierlaw19_TextForms.j0 k a2 t1183 t1184 true a1_0 a1_1 a1_2 a1_3) else (if a1_3 < (-1000) then (vernierlaw19_TextForms.j0 k a2 t1183 t1184 true a1_0 a1_1 a1_2 a1_3) else (vernierlaw19_TextForms.j0 k a2 t1183 t1184 (decide (a1_3 > 1000)) a1_0 a1_1 a1_2 a1_3)))) else (vernierlaw19_TextForms.j0 k a2 t1183 t1184 true a1_0 a1_1 a1_2 a1_3))))
theorem vernierlaw19_TextForms.calls (k : Nat) (a0 : Int) (a1_0 : Bool) (a1_1 : Bool) (a1_2 : ByteArray) (a1_3 : Int) (a2 : Int) (r : Bool) (w : World) (h : vernierlaw19_TextForms.f k a0 a1_0 a1_1 a1_2 a1_3 a2 = some r) (hr_ : r = true := by rfl) (htab : Fx.Laid w := by exact Fx.Laid.below HTAB.out (by repeat (first | (with_reducible first | exact HB.out | apply below_alloc | apply pw_below_drewN | apply below_drew1 | refine below_set ?_ (Aside0.out (by assumption))) | exact HB.out))) :
    Calls Tryz.prog 8 #[.int .i64 a0, .agg #[.bool a1_0, .bool a1_1, .string a1_2, .int .i64 a1_3], .int .i64 a2] w fun e w' => e = .returned (.bool r) ∧ Below w.heap.size w w' := by
 have HTAB := am htab
 clear htab
 have HRT := am hr_
 clear hr_
 have hu23 := Tryz.underlying23
 have hu27 := Tryz.underlying27
 have hu64 := Tryz.underlying64
 have HB := am (Below.refl w.heap.size w)
 have H := am h
 unfold vernierlaw19_TextForms.f at H
 clear h
 replace H := zo H
 obtain ⟨t1183, A4, H⟩ := H
 replace H := zo H
 obtain ⟨t1184, A5, H⟩ := H
 replace H := zo H
 obtain ⟨t1185, A6, H⟩ := H
 go_enter Tryz.func8, Tryz.ntmps8
 go_upto_region 4 with (first | ((with_reducible refine gate_dst (N := 4) rfl ?_); (try (refine gate_guard (by rfl) ?_; dsimp only)); refine zx 4 23 #[.bool a1_0, .bool a1_1, .string a1_2, .int .i64 a1_3] ?_; intro gb1182 hg w8 hbox hb; have BK1182 := am (hbox); have GW1182 := zG hg HB; have GE1182 := zG hg HB; replace HB := zBs HB hb; clear hb hbox hg) | ((with_reducible refine gate_callee (f := 12) rfl ?_); refine zc (some 23) Tryz.func12 _ (vernierlaw19_shown.calls _ _ _ A4.out) ?_; rintro e w9 ⟨rfl, hb⟩; refine ⟨_, rfl, ?_⟩; replace BK1182 := zKb BK1182 hb; replace HB := zBs HB hb; clear hb) | ((with_reducible refine gate_callee (f := 22) rfl ?_); refine zc (some 25) Tryz.func22 _ (vernierlaw19_width.calls _ _ _ _ A5.out) ?_; rintro e w' ⟨rfl, ⟨nd, rfl⟩⟩; refine ⟨_, rfl, ?_⟩; obtain ⟨_, _, _, _, _, _, _, _⟩ := zf4 BK1182) | ((with_reducible refine gate_callee (f := 28) rfl ?_); refine zc (some 27) Tryz.func28 _ (vernierref18_Formed.calls _ _ _ _ _ _ _ A6.out) ?_; rintro e w11 ⟨rfl, hb⟩; refine ⟨_, rfl, ?_⟩; replace BK1182 := zKb BK1182 hb; replace HB := zBs HB hb; clear hb))
 (try simp only [Act.put, List.setIfInBounds_toArray, List.set_cons_zero, List.set_cons_succ])
 go_cut [49] (fun v49 wc => ∃ (kq : Nat) (x49_6 : Bool), v49 = .bool x49_6 ∧ Aside0 (vernierlaw19_TextForms.j0 kq a2 t1183 t1184 x49_6 a1_0 a1_1 a1_2 a1_3 = some r) ∧ Aside0 (kq ≤ k) ∧ Aside0 (wc.heap[gb1182]? = some (.cells #[.bool a1_0, .bool a1_1, .string a1_2, .int .i64 a1_3] 23 (0, 0))) ∧ Aside0 (Below w.heap.size w wc))
 case first =>
  cases t1185
  replace H := zb0 H
  rotate_left
  replace H := zb1 H
  cases a1_0
  replace H := zb0 H
  replace H := zs H
  rcases H with ⟨c15, H⟩ | ⟨c15, H⟩
  have c15b0 : decide (2000 < (a1_2.size : Int)) = true := decide_eq_true c15
  have c15b1 : decide (2000 < a1_2.size) = true := decide_eq_true (by omega)
  clear c15
  (first | rw [c15b0] | (simp only [i64_w, i32_w]; rw [c15b0]) | rw [c15b1] | skip)
  obtain ⟨_, _, _, _, _, _, _, _⟩ := zf4 BK1182
  rotate_left
  have c15b0 : decide (2000 < (a1_2.size : Int)) = false := decide_eq_false c15
  have c15b1 : decide (2000 < a1_2.size) = false := decide_eq_false (by omega)
  clear c15
  (first | rw [c15b0] | (simp only [i64_w, i32_w]; rw [c15b0]) | rw [c15b1] | skip)
  replace H := zsd H
  rcases H with ⟨c17b0, H⟩ | ⟨c17b0, H⟩
  obtain ⟨_, _, _, _, _, _, _, _⟩ := zf4 BK1182
  rotate_left
  obtain ⟨_, _, _, _, _, _, _, _⟩ := zf4 BK1182
  rotate_left
  replace H := zb1 H
  obtain ⟨_, _, _, _, _, _, _, _⟩ := zf4 BK1182
  rotate_left
  all_goals (go_wp2)
  ·go_meet
   case rel => exact ⟨_, (true), z1, H, ⟨z5⟩, ⟨zK BK1182⟩, ⟨zB HB⟩⟩
  ·go_meet
   case rel => exact ⟨_, (true), z1, H, ⟨z5⟩, ⟨zK BK1182⟩, ⟨zB HB⟩⟩
  ·go_meet
   case rel => exact ⟨_, (true), z1, H, ⟨z5⟩, ⟨zK BK1182⟩, ⟨zB HB⟩⟩
  ·go_meet
   case rel => exact ⟨_, (decide (a1_3 > 1000)), z1, H, ⟨z5⟩, ⟨zK BK1182⟩, ⟨zB HB⟩⟩
  go_meet
  case rel => exact ⟨_, (true), z1, H, ⟨z5⟩, ⟨zK BK1182⟩, ⟨zB HB⟩⟩
 case rest =>
  obtain ⟨kq, x49_6, rfl, H, HJ6, BK1182, HB⟩ := hcut
  obtain _ | kj6 := kq
  ·exact zz H rfl
  simp only [vernierlaw19_TextForms.j0] at H
  cases x49_6
  replace H := zb0 H
  replace H := zo H
  obtain ⟨t1186, A21, H⟩ := H
  rotate_left
  replace H := zb1 H
  clear HRT
  obtain rfl := Option.some.inj H.out
  rotate_left
  all_goals (go_wp2_with (first | ((with_reducible refine gate_callee (f := 29) rfl ?_); refine zc (some 52) Tryz.func29 _ (vernierlaw19_pick.calls _ _ _ _ A21.out) ?_; rintro e w' ⟨rfl, ⟨nd, rfl⟩⟩; refine ⟨_, rfl, ?_⟩)))
  ·go_loopg [11, 12] kj6 (fun kq v11 v12 w' => ∃ (x11_2 : ByteArray) (x12_2 : Int), v11 = .string x11_2 ∧ v12 = .int .i64 x12_2 ∧ Aside0 (vernierlaw19_TextForms.l0 kq t1183 t1184 t1186 x11_2 x12_2 a1_0 a1_1 a1_2 a1_3 = some r) ∧ Aside0 (kq ≤ kj6) ∧ Aside0 (w'.heap[gb1182]? = some (.cells #[.bool a1_0, .bool a1_1, .string a1_2, .int .i64 a1_3] 23 (0, 0))) ∧ Aside0 (Below w.heap.size w w'))
   case atStart => exact ⟨((⟨#[]⟩ : ByteArray)), (0), z1, z1, H, zL, ⟨zK BK1182⟩, ⟨zB HB⟩⟩
   clear H
   obtain ⟨x11_2, x12_2, rfl, rfl, H, HK2, BK1182, HB⟩ := hrel
   obtain _ | k2 := gk
   ·exact zz H rfl
   simp only [vernierlaw19_TextForms.l0] at H
   replace H := zsd H
   rcases H with ⟨c22b0, H⟩ | ⟨c22b0, H⟩
   replace H := zi H
   obtain ⟨c23, H⟩ := H
   have c23b0 := eq_true c23
   have c23b1 : decide (x11_2.size + 1 ≤ 9223372036854775807) = true := decide_eq_true c23
   try have c23b2 : (9223372036854775807 < x11_2.size + 1) = False := eq_false (Nat.not_lt.2 c23)
   try have c23m : (9223372036854775807 < x11_2.size + 1) = False := eq_false (by have h_ := c23; have l1_ : (⟨#[46]⟩ : ByteArray).size = 1 := rfl; have l2_ : (⟨#[48, 46]⟩ : ByteArray).size = 2 := rfl; have l3_ : (⟨#[101]⟩ : ByteArray).size = 1 := rfl; (try simp only [ByteArray.size_append, ByteArray.size_extract] at h_); omega)
   try have c23n : (9223372036854775807 < x11_2.size + 1) = False := eq_false (by have h_ := c23; have l1_ : (⟨#[46]⟩ : ByteArray).size = 1 := rfl; have l2_ : (⟨#[48, 46]⟩ : ByteArray).size = 2 := rfl; have l3_ : (⟨#[101]⟩ : ByteArray).size = 1 := rfl; (try simp only [ByteArray.size_append, ByteArray.size_extract] at h_); omega)
   rotate_left
   replace H := zo H
   obtain ⟨⟨t1187, t1188⟩, A24, H⟩ := H
   try dsimp only at H
   replace H := zi H
   obtain ⟨c25, H⟩ := H
   have c25b0 := eq_true c25
   have c25b1 : decide (x11_2.size + a1_2.size ≤ 9223372036854775807) = true := decide_eq_true c25
   try have c25b2 : (9223372036854775807 < x11_2.size + a1_2.size) = False := eq_false (Nat.not_lt.2 c25)
   try have c25m : (9223372036854775807 < x11_2.size + a1_2.size) = False := eq_false (by have h_ := c25; have l1_ : (⟨#[46]⟩ : ByteArray).size = 1 := rfl; have l2_ : (⟨#[48, 46]⟩ : ByteArray).size = 2 := rfl; have l3_ : (⟨#[101]⟩ : ByteArray).size = 1 := rfl; (try simp only [ByteArray.size_append, ByteArray.size_extract] at h_); omega)
   try have c25n : (9223372036854775807 < x11_2.size + a1_2.size) = False := eq_false (by have h_ := c25; have l1_ : (⟨#[46]⟩ : ByteArray).size = 1 := rfl; have l2_ : (⟨#[48, 46]⟩ : ByteArray).size = 2 := rfl; have l3_ : (⟨#[101]⟩ : ByteArray).size = 1 := rfl; (try simp only [ByteArray.size_append, ByteArray.size_extract] at h_); omega)
   replace H := zi H
   obtain ⟨c26, H⟩ := H
   have c26b0 := eq_true c26
   have c26b1 : decide ((x11_2 ++ a1_2).size + x11_2.size ≤ 9223372036854775807) = true := decide_eq_true c26
   try have c26b2 : (9223372036854775807 < (x11_2 ++ a1_2).size + x11_2.size) = False := eq_false (Nat.not_lt.2 c26)
   try have c26m : (9223372036854775807 < x11_2.size + a1_2.size + x11_2.size) = False := eq_false (by have h_ := c26; have l1_ : (⟨#[46]⟩ : ByteArray).size = 1 := rfl; have l2_ : (⟨#[48, 46]⟩ : ByteArray).size = 2 := rfl; have l3_ : (⟨#[101]⟩ : ByteArray).size = 1 := rfl; (try simp only [ByteArray.size_append, ByteArray.size_extract] at h_); omega)
   try have c26n : (9223372036854775807 < x11_2.size + a1_2.size + x11_2.size) = False := eq_false (by have h_ := c26; have l1_ : (⟨#[46]⟩ : ByteArray).size = 1 := rfl; have l2_ : (⟨#[48, 46]⟩ : ByteArray).size = 2 := rfl; have l3_ : (⟨#[101]⟩ : ByteArray).size = 1 := rfl; (try simp only [ByteArray.size_append, ByteArray.size_extract] at h_); omega)
   replace H := zo H
   obtain ⟨⟨t1190, t1191⟩, A27, H⟩ := H
   try dsimp only at H
   replace H := zo H
   obtain ⟨⟨t1192, t1193⟩, A28, H⟩ := H
   try dsimp only at H
   replace H := zsk H
   rcases H with ⟨c29b0, c29b1, H⟩ | ⟨c29b0, c29b1, c29, H⟩
   replace H := zo H
   obtain ⟨⟨t1194, t1195⟩, A30, H⟩ := H
   try dsimp only at H
   cases t1183
   ·replace H := zb0 H
    exact absurd (Option.some.inj H.out) (by rw [HRT.out]; decide)
   replace H := zb1 H
   rcases t1188 with _ | q1196
   replace H := zb1 H
   try simp only [errW_none, errW_some]
   rcases t1191 with _ | q1197
   replace H := zb1 H
   try simp only [errW_none, errW_some]
   rcases t1193 with _ | q1198
   replace H := zb1 H
   try simp only [errW_none, errW_some]
   rcases t1195 with _ | q1199
   replace H := zb1 H
   try simp only [errW_none, errW_some]
   replace H := zsk H
   rcases H with ⟨c32b0, c32b1, H⟩ | ⟨c32b0, c32b1, c32, H⟩
   clear HRT
   obtain rfl := Option.some.inj H.out
   obtain ⟨_, _, _, _, _, _, _, _⟩ := zf4 BK1182
   rotate_left
   ·exact absurd (Option.some.inj H.out) (by rw [HRT.out]; decide)
   ·replace H := zb0 H
    try simp only [Option.getD_some] at H
    try simp only [errW_none, errW_some]
    exact absurd (Option.some.inj H.out) (by rw [HRT.out]; decide)
   ·replace H := zb0 H
    try simp only [Option.getD_some] at H
    try simp only [errW_none, errW_some]
    exact absurd (Option.some.inj H.out) (by rw [HRT.out]; decide)
   ·replace H := zb0 H
    try simp only [Option.getD_some] at H
    try simp only [errW_none, errW_some]
    exact absurd (Option.some.inj H.out) (by rw [HRT.out]; decide)
   ·replace H := zb0 H
    try simp only [Option.getD_some] at H
    try simp only [errW_none, errW_some]
    exact absurd (Option.some.inj H.out) (by rw [HRT.out]; decide)
   replace H := zi H
   obtain ⟨c43, H⟩ := H
   have c43b0 : decide (0 < (t1192.size : Int)) = true := decide_eq_true c43
   have c43b1 : decide (0 < t1192.size) = true := decide_eq_true (by omega)
   clear c43
   replace H := zsk H
   rcases H with ⟨c45b0, c45b1, H⟩ | ⟨c45b0, c45b1, c45, H⟩
   replace H := zo H
   obtain ⟨⟨t1200, t1201⟩, A46, H⟩ := H
   try dsimp only at H
   cases t1183
   ·replace H := zb0 H
    exact absurd (Option.some.inj H.out) (by rw [HRT.out]; decide)
   replace H := zb1 H
   rcases t1188 with _ | q1202
   replace H := zb1 H
   try simp only [errW_none, errW_some]
   rcases t1191 with _ | q1203
   replace H := zb1 H
   try simp only [errW_none, errW_some]
   rcases t1193 with _ | q1204
   replace H := zb1 H
   try simp only [errW_none, errW_some]
   rcases t1201 with _ | q1205
   replace H := zb1 H
   try simp only [errW_none, errW_some]
   replace H := zsk H
   rcases H with ⟨c48b0, c48b1, H⟩ | ⟨c48b0, c48b1, c48, H⟩
   clear HRT
   obtain rfl := Option.some.inj H.out
   obtain ⟨_, _, _, _, _, _, _, _⟩ := zf4 BK1182
   rotate_left
   ·exact absurd (Option.some.inj H.out) (by rw [HRT.out]; decide)
   ·replace H := zb0 H
    try simp only [Option.getD_some] at H
    try simp only [errW_none, errW_some]
    exact absurd (Option.some.inj H.out) (by rw [HRT.out]; decide)
   ·replace H := zb0 H
    try simp only [Option.getD_some] at H
    try simp only [errW_none, errW_some]
    exact absurd (Option.some.inj H.out) (by rw [HRT.out]; decide)
   ·replace H := zb0 H
    try simp only [Option.getD_some] at H
    try simp only [errW_none, errW_some]
    exact absurd (Option.some.inj H.out) (by rw [HRT.out]; decide)
   ·replace H := zb0 H
    try simp only [Option.getD_some] at H
    try simp only [errW_none, errW_some]
    exact absurd (Option.some.inj H.out) (by rw [HRT.out]; decide)
   replace H := zi H
   obtain ⟨c59, H⟩ := H
   have c59b0 := eq_true c59
   have c59b1 : decide (1 + x11_2.size ≤ 9223372036854775807) = true := decide_eq_true c59
   try have c59b2 : (9223372036854775807 < 1 + x11_2.size) = False := eq_false (Nat.not_lt.2 c59)
   try have c59m : (9223372036854775807 < 1 + x11_2.size) = False := eq_false (by have h_ := c59; have l1_ : (⟨#[46]⟩ : ByteArray).size = 1 := rfl; have l2_ : (⟨#[48, 46]⟩ : ByteArray).size = 2 := rfl; have l3_ : (⟨#[101]⟩ : ByteArray).size = 1 := rfl; (try simp only [ByteArray.size_append, ByteArray.size_extract] at h_); omega)
   try have c59n : (9223372036854775807 < 1 + x11_2.size) = False := eq_false (by have h_ := c59; have l1_ : (⟨#[46]⟩ : ByteArray).size = 1 := rfl; have l2_ : (⟨#[48, 46]⟩ : ByteArray).size = 2 := rfl; have l3_ : (⟨#[101]⟩ : ByteArray).size = 1 := rfl; (try simp only [ByteArray.size_append, ByteArray.size_extract] at h_); omega)
   replace H := zi H
   obtain ⟨c60, H⟩ := H
   have c60b0 := eq_true c60
   have c60b1 : decide (((⟨#[43]⟩ : ByteArray) ++ x11_2).size + t1192.size ≤ 9223372036854775807) = true := decide_eq_true c60
   try have c60b2 : (9223372036854775807 < ((⟨#[43]⟩ : ByteArray) ++ x11_2).size + t1192.size) = False := eq_false (Nat.not_lt.2 c60)
   try have c60m : (9223372036854775807 < 1 + x11_2.size + t1192.size) = False := eq_false (by have h_ := c60; have l1_ : (⟨#[46]⟩ : ByteArray).size = 1 := rfl; have l2_ : (⟨#[48, 46]⟩ : ByteArray).size = 2 := rfl; have l3_ : (⟨#[101]⟩ : ByteArray).size = 1 := rfl; (try simp only [ByteArray.size_append, ByteArray.size_extract] at h_); omega)
   try have c60n : (9223372036854775807 < 1 + x11_2.size + t1192.size) = False := eq_false (by have h_ := c60; have l1_ : (⟨#[46]⟩ : ByteArray).size = 1 := rfl; have l2_ : (⟨#[48, 46]⟩ : ByteArray).size = 2 := rfl; have l3_ : (⟨#[101]⟩ : ByteArray).size = 1 := rfl; (try simp only [ByteArray.size_append, ByteArray.size_extract] at h_); omega)
   replace H := zo H
   obtain ⟨⟨t1206, t1207⟩, A61, H⟩ := H
   try dsimp only at H
   cases t1183
   ·replace H := zb0 H
    exact absurd (Option.some.inj H.out) (by rw [HRT.out]; decide)
   replace H := zb1 H
   rcases t1188 with _ | q1208
   replace H := zb1 H
   try simp only [errW_none, errW_some]
   rcases t1191 with _ | q1209
   replace H := zb1 H
   try simp only [errW_none, errW_some]
   rcases t1193 with _ | q1210
   replace H := zb1 H
   try simp only [errW_none, errW_some]
   rcases t1207 with _ | q1211
   replace H := zb1 H
   try simp only [errW_none, errW_some]
   replace H := zsk H
   rcases H with ⟨c63b0, c63b1, H⟩ | ⟨c63b0, c63b1, c63, H⟩
   clear HRT
   obtain rfl := Option.some.inj H.out
   obtain ⟨_, _, _, _, _, _, _, _⟩ := zf4 BK1182
   rotate_left
   ·exact absurd (Option.some.inj H.out) (by rw [HRT.out]; decide)
   ·replace H := zb0 H
    try simp only [Option.getD_some] at H
    try simp only [errW_none, errW_some]
    exact absurd (Option.some.inj H.out) (by rw [HRT.out]; decide)
   ·replace H := zb0 H
    try simp only [Option.getD_some] at H
    try simp only [errW_none, errW_some]
    exact absurd (Option.some.inj H.out) (by rw [HRT.out]; decide)
   ·replace H := zb0 H
    try simp only [Option.getD_some] at H
    try simp only [errW_none, errW_some]
    exact absurd (Option.some.inj H.out) (by rw [HRT.out]; decide)
   ·replace H := zb0 H
    try simp only [Option.getD_some] at H
    try simp only [errW_none, errW_some]
    exact absurd (Option.some.inj H.out) (by rw [HRT.out]; decide)
   all_goals (go_wp2_with (first | ((with_reducible refine gate_callee (f := 13) rfl ?_); refine zc (some 63) Tryz.func13 _ (text_Of.calls _ _ _ _ _ _ _ _ _ A24.out) ?_; rintro e w34 ⟨rfl, hb⟩; refine ⟨_, rfl, ?_⟩; replace BK1182 := zKb BK1182 hb; replace HB := zBs HB hb; clear hb; (try simp only [errW_none, errW_some]); obtain ⟨_, _, _, _, _, _, _, _⟩ := zf4 BK1182) | ((with_reducible refine gate_dst (N := 15) rfl ?_); (try (refine gate_guard (by rfl) ?_; dsimp only)); refine zx 15 23 #[.bool false, .bool false, .string (⟨#[]⟩ : ByteArray), .int .i64 0] ?_; intro gb1189 hg w36 hbox hb; have BK1189 := am (hbox); have GW1189 := zG hg HB; have GE1189 := zG hg HB; replace HB := zBs HB hb; have NB1182_1189 := zNl hg BK1182; have NB1189_1182 := zNg hg BK1182; replace BK1182 := zKb BK1182 hb; clear hb hbox hg; have hnb37 := NB1189_1182.out; have hnc37 := NB1182_1189.out; obtain ⟨_, _, _, _, _, _, _, _⟩ := zf4 BK1189) | ((with_reducible refine gate_callee (f := 13) rfl ?_); refine zc (some 82) Tryz.func13 _ (text_Of.calls _ _ _ _ ((x11_2 ++ a1_2) ++ x11_2) _ _ _ _ A27.out) ?_; rintro e w39 ⟨rfl, hb⟩; refine ⟨_, rfl, ?_⟩; replace BK1182 := zKb BK1182 hb; replace BK1189 := am (blk_below (zKp BK1189) hb); replace HB := zBs HB hb; clear hb; (try simp only [errW_none, errW_some]); obtain ⟨_, _, _, _, _, _, _, _⟩ := zf4 BK1182) | ((with_reducible refine gate_callee (f := 30) rfl ?_); refine zc (some 87) Tryz.func30 _ (scan_Text.calls _ _ _ _ _ _ _ A28.out) ?_; rintro e w41 ⟨rfl, hb⟩; refine ⟨_, rfl, ?_⟩; replace BK1182 := zKb BK1182 hb; replace BK1189 := zKb BK1189 hb; replace HB := zBs HB hb; clear hb; (try simp only [errW_none, errW_some]); have p44 : 0 ≤ (0 : Int) := (by omega); have q44 : 0 < t1192.size := (by have : (0 : Int) < (t1192.size : Int) := zD; omega); have hx44 : ∀ h : 0 < t1192.size, ((t1192[0]'h).toNat : Int) = bt t1192 0 := bt_at t1192 0; clear p44; have qi44 : (0 < (t1192.size : Int)) = True := eq_true (zD); replace q44 := eq_true q44) | ((with_reducible refine gate_callee (f := 30) rfl ?_); refine zc (some 87) Tryz.func30 _ (scan_Text.calls _ _ _ _ _ _ _ A28.out) ?_; rintro e w41 ⟨rfl, hb⟩; refine ⟨_, rfl, ?_⟩; replace BK1182 := zKb BK1182 hb; replace BK1189 := zKb BK1189 hb; replace HB := zBs HB hb; clear hb; (try simp only [errW_none, errW_some])) | ((with_reducible refine gate_callee (f := 24) rfl ?_); refine zc (some 105) Tryz.func24 _ (text_Parse.calls _ _ _ _ _ _ A30.out) ?_; rintro e w42 ⟨rfl, hb⟩; refine ⟨_, rfl, ?_⟩; replace BK1182 := zKb BK1182 hb; replace BK1189 := zKb BK1189 hb; replace HB := zBs HB hb; clear hb; (try simp only [errW_none, errW_some])) | ((with_reducible refine gate_callee (f := 24) rfl ?_); refine zc (some 105) Tryz.func24 _ (text_Parse.calls _ _ _ _ _ _ A46.out) ?_; rintro e w58 ⟨rfl, hb⟩; refine ⟨_, rfl, ?_⟩; replace BK1182 := zKb BK1182 hb; replace BK1189 := zKb BK1189 hb; replace HB := zBs HB hb; clear hb; (try simp only [errW_none, errW_some])) | ((with_reducible refine gate_callee (f := 24) rfl ?_); refine zc (some 105) Tryz.func24 _ (text_Parse.calls _ _ (((⟨#[43]⟩ : ByteArray) ++ x11_2) ++ t1192) _ _ _ A61.out) ?_; rintro e w73 ⟨rfl, hb⟩; refine ⟨_, rfl, ?_⟩; replace BK1182 := zKb BK1182 hb; replace BK1189 := zKb BK1189 hb; replace HB := zBs HB hb; clear hb; (try simp only [errW_none, errW_some]))))
   ·go_roundg k2
    case measure => have := HJ6.out; have := HK2.out; omega
    case rel => exact ⟨(x11_2 ++ (⟨#[48]⟩ : ByteArray)), (wrap64 (x12_2 + 1)), z1, z1, H, ⟨by have := HJ6.out; have := HK2.out; omega⟩, ⟨zK BK1182⟩, ⟨zB HB⟩⟩
   ·go_ret
    exact ⟨z2, zB HB⟩
   ·go_ret
    exact ⟨z2, zB HB⟩
   go_ret
   exact ⟨z2, zB HB⟩
  go_ret
  exact ⟨z2, zB HB⟩
end Go.Proofs.Yy.PTx
end
section
namespace Go.Proofs.Yy.PTx
open Go.RowKit Go.Proofs.Yw.PrintWords Go.Proofs.Yw.PrintLast Go.Proofs.Yw.PrintMore Go.Proofs.Yy.M Go.Proofs.Yy.TA Go.Proofs.Yy.NM
attribute [local irreducible] add64Lo add64Hi sub64Lo sub64Hi val
theorem pw2c (n : Nat) : pw 2 n = ((2 ^ n : Nat) : Int) := by rw [pw_def, Int.natCast_pow]; rfl
theorem bl_of {V b : Nat} (h1 : V < 2 ^ b) (h2 : b ≠ 0 → 2 ^ (b - 1) ≤ V) : bl (V : Int) = b := by
 apply Nat.le_antisymm
 ·exact bl_le (by rw [pw2c]; exact_mod_cast h1)
 ·by_cases h : b = 0
  ·omega
  ·have := (bl_lt (A := (V : Int)) (by omega) (b - 1)).2 (by rw [pw2c]; exact_mod_cast Nat.div_pos (h2 h) (two_pos _))
   omega
theorem hi_mul (t : Nat) : hiI (t * 2 ^ 64) = (t : Int) := by unfold hiI; rw [Nat.mul_div_cancel _ (two_pos _)]
theorem lo_mul (t : Nat) : loI (t * 2 ^ 64) = 0 := by unfold loI; rw [Nat.mul_mod_left]; rfl
theorem top_bits {V b : Nat} (hb1 : 1 ≤ b) (h1 : V < 2 ^ b) (h2 : 2 ^ (b - 1) ≤ V) : V / 2 ^ (b - 64) < 2 ^ min b 64 ∧ 2 ^ (min b 64 - 1) ≤ V / 2 ^ (b - 64) := by
 have e1 : 2 ^ b = 2 ^ min b 64 * 2 ^ (b - 64) := by rw [← Nat.pow_add]; congr 1; omega
 have e2 : 2 ^ (b - 1) = 2 ^ (min b 64 - 1) * 2 ^ (b - 64) := by rw [← Nat.pow_add]; congr 1; omega
 rw [e1] at h1
 rw [e2] at h2
 exact ⟨(Nat.div_lt_iff_lt_mul (two_pos _)).2 h1, (Nat.le_div_iff_mul_le (two_pos _)).2 h2⟩
def topT (V b : Nat) : Nat := V / 2 ^ (b - 64) * 2 ^ 64 * 2 ^ (64 - min b 64)
theorem topT_hi (V b : Nat) : topT V b / 2 ^ 64 = V / 2 ^ (b - 64) * 2 ^ (64 - min b 64) ∧ topT V b % 2 ^ 64 = 0 := by
 have e : topT V b = V / 2 ^ (b - 64) * 2 ^ (64 - min b 64) * 2 ^ 64 := by unfold topT; rw [Nat.mul_right_comm]
 rw [e]
 exact ⟨Nat.mul_div_cancel _ (two_pos _), Nat.mul_mod_left _ _⟩
theorem topT_bounds {V b : Nat} (hb1 : 1 ≤ b) (h1 : V < 2 ^ b) (h2 : 2 ^ (b - 1) ≤ V) : 2 ^ 127 ≤ topT V b ∧ topT V b < 2 ^ 128 := by
 obtain ⟨q1, q2⟩ := top_bits hb1 h1 h2
 have e1 : (2 : Nat) ^ 128 = 2 ^ min b 64 * 2 ^ 64 * 2 ^ (64 - min b 64) := by rw [← Nat.pow_add, ← Nat.pow_add]; congr 1; omega
 have e2 : (2 : Nat) ^ 127 = 2 ^ (min b 64 - 1) * 2 ^ 64 * 2 ^ (64 - min b 64) := by rw [← Nat.pow_add, ← Nat.pow_add]; congr 1; omega
 unfold topT
 rw [e1, e2]
 exact ⟨Nat.mul_le_mul_right _ (Nat.mul_le_mul_right _ q2), Nat.mul_lt_mul_of_pos_right (Nat.mul_lt_mul_of_pos_right q1 (two_pos _)) (two_pos _)⟩
theorem upper_ev {a : List Int} (ha : Dig B a) (hL : a.length ≤ 1073741824) {V b : Nat} (hV : val B a = (V : Int)) (hb1 : 1 ≤ b) (h1 : V < 2 ^ b) (h2 : 2 ^ (b - 1) ≤ V) (neg c : Bool) (hc : c = true → 64 ≤ b) (hbb : b ≤ 500000) {x : Int} (hx1 : -400000 ≤ x) (hx2 : x ≤ 400000) :
  Ev (fun k => text_upper.f k neg a x c) (1, neg, x + b - 1, hiI (topT V b), loI (topT V b), (c || decide (V % 2 ^ (b - 64) ≠ 0)), none) := by
 obtain ⟨q1, q2⟩ := top_bits hb1 h1 h2
 have hu : under (val B a) 64 = b - 64 := by unfold under; rw [hV, bl_of h1 (fun _ => h2)]
 have ht := nTop_ev ha hL 64 (by decide) (Nat.le_refl _)
 rw [hu, hV, pw2c] at ht
 have e1 : ((V : Int) / ((2 ^ (b - 64) : Nat) : Int)) % B = ((V / 2 ^ (b - 64) : Nat) : Int) := by
  rw [← Int.natCast_ediv, Bdef]
  have : V / 2 ^ (b - 64) < 2 ^ 64 := Nat.lt_of_lt_of_le q1 (Nat.pow_le_pow_right (by omega) (Nat.min_le_right _ _))
  rw [p64] at this
  obtain ⟨y, hy⟩ : ∃ y, V / 2 ^ (b - 64) = y := ⟨_, rfl⟩
  rw [hy] at this ⊢
  clear hy q1 q2 h1 h2
  omega
 have e2 : decide ((V : Int) % ((2 ^ (b - 64) : Nat) : Int) ≠ 0) = decide (V % 2 ^ (b - 64) ≠ 0) := by
  rw [← Int.natCast_emod]
  exact decide_eq_decide.2 (by omega)
 rw [e1, e2] at ht
 have hmk : ∀ c' : Bool, (c' = true → min b 64 = 64) → Ev (fun k => round_Make.f k neg ((V / 2 ^ (b - 64) : Nat) : Int) 0 (x + ((b - 64 : Nat) : Int) - 64) c') (1, neg, x + b - 1, hiI (topT V b), loI (topT V b), c', none) := by
  intro c' hc'
  have h := Make_ev (V := V / 2 ^ (b - 64) * 2 ^ 64) (b := min b 64 + 64) (by omega) (by omega) (by rw [Nat.pow_add]; exact Nat.mul_lt_mul_of_pos_right q1 (two_pos _))
   (by rw [show min b 64 + 64 - 1 = (min b 64 - 1) + 64 by omega, Nat.pow_add]; exact Nat.mul_le_mul_right _ q2) neg c' (fun h => by have := hc' h; omega) (x := x + ((b - 64 : Nat) : Int) - 64) (by omega) (by omega)
  rw [hi_mul, lo_mul, show x + ((b - 64 : Nat) : Int) - 64 + ((min b 64 + 64 : Nat) : Int) - 1 = x + b - 1 by omega, show 128 - (min b 64 + 64) = 64 - min b 64 by omega] at h
  exact h
 unfold text_upper.f
 refine Ev.bind ht ?_
 simp only [Option.isNone_none, if_true]
 rw [tw64 (x := x + ((b - 64 : Nat) : Int)) (by omega) (by omega), tw64 (by omega) (by omega)]
 by_cases hs : V % 2 ^ (b - 64) ≠ 0
 ·have hb64 : min b 64 = 64 := by
   apply Nat.min_eq_right
   apply Nat.le_of_not_lt
   intro h
   rw [show b - 64 = 0 by omega, Nat.pow_zero, Nat.mod_one] at hs
   exact hs rfl
  rw [decide_eq_true hs, Bool.or_true]
  simp only [if_true]
  exact Ev.bind (hmk true (fun _ => hb64)) (Ev.now _)
 ·rw [decide_eq_false hs, Bool.or_false]
  simp only [Bool.false_eq_true, if_false]
  exact Ev.bind (hmk c (fun h => by have := hc h; omega)) (Ev.now _)
end Go.Proofs.Yy.PTx
end
section
namespace Go.Proofs.Yy.PTx
open Go.RowKit Go.Proofs.Yw.PrintWords Go.Proofs.Yw.PrintLast Go.Proofs.Yw.PrintMore Go.Proofs.Yy.M Go.Proofs.Yy.TA
open Go.Proofs.Yy.SC (D)
theorem rep_top {N C u q r b : Nat} (hC : 0 < C) (hq : N * 2 ^ u = C * q + r) (hr : r < C) (hb1 : 1 ≤ b) (h1 : q < 2 ^ b) (h2 : 2 ^ (b - 1) ≤ q) (h : r ≠ 0 → 64 ≤ b) :
  Rep N C (-(u : Int) + b - 1) (topT q b / 2 ^ 64) ((decide (r ≠ 0) || decide (q % 2 ^ (b - 64) ≠ 0)) || decide (topT q b % 2 ^ 64 ≠ 0)) := by
 rw [(topT_hi q b).1, (topT_hi q b).2, show -(u : Int) + b - 1 = (b : Int) - 1 - u by omega]
 by_cases hb : 64 ≤ b
 ·have e := Rep.ofQ hC hq hr h2 h1 hb
  rw [Nat.min_eq_right hb, Nat.sub_self, Nat.pow_zero, Nat.mul_one]
  rw [Bool.or_comm] at e
  simpa using e
 ·have hr0 : r = 0 := by
   apply Classical.byContradiction
   intro h3
   exact hb (h h3)
  subst hr0
  have e := Rep.ofE hC (by rw [hq, Nat.add_zero]) h2 h1 hb1 (by omega)
  rw [show b - 64 = 0 by omega, Nat.pow_zero, Nat.mod_one, Nat.div_one, Nat.min_eq_left (by omega)]
  simpa using e
theorem posC_top {n N C u q r b : Nat} (hn : 8 ≤ n) (hn2 : n ≤ 64) (hC : 0 < C) (hq : N * 2 ^ u = C * q + r) (hr : r < C) (hb1 : 1 ≤ b) (h1 : q < 2 ^ b) (h2 : 2 ^ (b - 1) ≤ q) (h : r ≠ 0 → 64 ≤ b) :
  posC n (-(u : Int) + b - 1) (topT q b) (decide (r ≠ 0) || decide (q % 2 ^ (b - 64) ≠ 0)) = pos n (scl N C) N C := by
 have e := rep_top hC hq hr hb1 h1 h2 h
 rw [posC_pos hn hn2 (topT_bounds hb1 h1 h2).1 e, pos_rep e]
theorem posC_far {n : Nat} (hn : 8 ≤ n) (hn2 : n ≤ 64) (T : Nat) (c : Bool) : posC n 1000 T c = 2 ^ (n - 1) - 1 ∧ posC n (-1000) T c = 1 := by
 have := top_le hn2
 have h8 : 0 ≤ top n := by unfold top; omega
 unfold posC
 exact ⟨by rw [if_pos (by omega)], by rw [if_neg (by omega), if_pos (by omega)]⟩
theorem numL_lt : ∀ (l : List UInt8) (a : Nat), (∀ c ∈ l, 48 ≤ c.toNat ∧ c.toNat ≤ 57) → l.foldl (fun a c => a * 10 + (c.toNat - 48)) a < (a + 1) * 10 ^ l.length
 | [], a, _ => by simp
 | c :: l, a, h => by
  have h1 := h c (List.mem_cons_self ..)
  have ih := numL_lt l (a * 10 + (c.toNat - 48)) (fun x hx => h x (List.mem_cons_of_mem _ hx))
  rw [List.foldl_cons, List.length_cons, Nat.pow_succ]
  refine Nat.lt_of_lt_of_le ih ?_
  rw [Nat.mul_comm (10 ^ l.length) 10, ← Nat.mul_assoc]
  exact Nat.mul_le_mul_right _ (by omega)
theorem numL_ge : ∀ (l : List UInt8) (a : Nat), a * 10 ^ l.length ≤ l.foldl (fun a c => a * 10 + (c.toNat - 48)) a
 | [], a => by simp
 | c :: l, a => by
  have ih := numL_ge l (a * 10 + (c.toNat - 48))
  rw [List.foldl_cons, List.length_cons, Nat.pow_succ]
  refine Nat.le_trans ?_ ih
  rw [Nat.mul_comm (10 ^ l.length) 10, ← Nat.mul_assoc]
  exact Nat.mul_le_mul_right _ (by omega)
theorem numL_head {c : UInt8} {l : List UInt8} (hc : 49 ≤ c.toNat) : 10 ^ l.length ≤ numL (c :: l) := by
 have h := numL_ge l (0 * 10 + (c.toNat - 48))
 unfold numL
 rw [List.foldl_cons]
 refine Nat.le_trans ?_ h
 exact Nat.le_mul_of_pos_left _ (by omega)
theorem posD_high {n : Nat} (hn : n ≤ 64) {d : D} {c : UInt8} {l : List UInt8} (hd : d.ds = c :: l) (hc : 49 ≤ c.toNat) (h : (101 : Int) ≤ d.ds.length + d.e) : posD n d = 2 ^ (n - 1) - 1 := by
 unfold posD
 refine pos_high hn (denD_pos d) ?_
 have h1 := numL_head (l := l) hc
 rw [← hd] at h1
 have hl : d.ds.length = l.length + 1 := by rw [hd]; rfl
 have h100 : (2 : Nat) ^ 248 ≤ 10 ^ 100 := by decide +kernel
 unfold numD denD
 have e1 : 10 ^ 100 * 10 ^ (-d.e).toNat ≤ 10 ^ l.length * 10 ^ d.e.toNat := by
  rw [← Nat.pow_add, ← Nat.pow_add]
  exact Nat.pow_le_pow_right (by decide) (by omega)
 exact Nat.le_trans (Nat.mul_le_mul_right _ h100) (Nat.le_trans e1 (Nat.mul_le_mul_right _ h1))
theorem posD_low {n : Nat} (hn1 : 2 ≤ n) (hn : n ≤ 64) {d : D} {c : UInt8} {l : List UInt8} (hd : d.ds = c :: l) (hc : 49 ≤ c.toNat) (hg : ∀ c ∈ d.ds, 48 ≤ c.toNat ∧ c.toNat ≤ 57) (h : d.ds.length + d.e ≤ -101) : posD n d = 1 := by
 have h1 := numL_head (l := l) hc
 rw [← hd] at h1
 have h2 := numL_lt d.ds 0 hg
 rw [Nat.zero_add, Nat.one_mul] at h2
 have h3 : numL d.ds < 10 ^ d.ds.length := h2
 have hp := Nat.pow_pos (a := 10) (n := l.length) (by decide)
 have h249 : (2 : Nat) ^ 249 ≤ 10 ^ 101 := by decide +kernel
 unfold posD
 refine pos_low hn1 hn ?_ ?_
 ·unfold numD
  exact Nat.mul_pos (by omega) (Nat.pow_pos (by decide))
 ·unfold numD denD
  rw [show d.e.toNat = 0 by omega, Nat.pow_zero, Nat.mul_one]
  have e1 : 10 ^ d.ds.length * 10 ^ 101 ≤ 10 ^ (-d.e).toNat := by
   rw [← Nat.pow_add]
   exact Nat.pow_le_pow_right (by decide) (by omega)
  exact Nat.le_trans (Nat.mul_le_mul (Nat.le_of_lt h3) h249) e1
end Go.Proofs.Yy.PTx
end
section
namespace Go.Proofs.Yy.PTx
open Go.RowKit Go.Proofs.Yw.PrintWords Go.Proofs.Yw.PrintLast Go.Proofs.Yw.PrintMore Go.Proofs.Yy.M Go.Proofs.Yy.NM
attribute [local irreducible] add64Lo add64Hi sub64Lo sub64Hi val
theorem enc_pos_len {b n : Int} (hb : 1 < b) (h : 0 < n) : 0 < (enc b n).length := (enc_lt hb (Int.le_of_lt h) 0).2 (by rw [div_pw_zero]; exact h)
def dgt (c : UInt8) : Bool := decide (48 ≤ c.toNat) && decide (c.toNat ≤ 57)
def lead : List UInt8 → Nat
 | [] => 0
 | c :: r => if dgt c = true then lead r + 1 else 0
theorem lead_all {l : List UInt8} (h : ∀ c ∈ l, dgt c = true) : lead l = l.length := by
 induction l with
 | nil => rfl
 | cons c r ih =>
  unfold lead
  rw [if_pos (h c List.mem_cons_self), ih (fun x hx => h x (List.mem_cons_of_mem _ hx)), List.length_cons]
theorem decode_high (s : ByteArray) (i : Nat) (h : ¬ (s.get! i).toNat < 128) : 128 ≤ (Utf8.decode s i).1 := by
 unfold Utf8.decode Utf8.runeError
 simp only [Nat.add_zero]
 repeat' split
 all_goals first | omega | (dsimp only; omega) | (simp_all; done) | (simp_all; omega)
theorem noDigit_of_not {c : UInt8} (h : ¬ dgt c = true) : noDigit c.toNat = true := by
 unfold noDigit dgt at *
 by_cases h1 : c.toNat < 48
 ·simp [h1]
 ·by_cases h2 : 57 < c.toNat
  ·simp [h2]
  ·exact absurd (by simp; omega) h
theorem noDigit_of {c : UInt8} (h : dgt c = true) : noDigit c.toNat = false := by
 unfold noDigit dgt at *
 simp at h ⊢
 omega
theorem idx_from (l : List UInt8) : ∀ (f pos : Nat), l.length ≤ pos + f → Lib.idxFuncFrom noDigit true (mkB l) f pos = if pos + lead (l.drop pos) < l.length then ((pos + lead (l.drop pos) : Nat) : Int) else -1 := by
 intro f
 induction f with
 | zero =>
  intro pos h
  rw [List.drop_of_length_le (by omega)]
  unfold Lib.idxFuncFrom
  rw [if_neg (by simp [lead]; omega)]
 | succ f ih =>
  intro pos h
  unfold Lib.idxFuncFrom
  rw [mkB_size]
  by_cases hp : pos < l.length
  ·have hps : pos < (mkB l).size := by rw [mkB_size]; exact hp
   obtain ⟨c, hc⟩ : ∃ c, l[pos]'hp = c := ⟨_, rfl⟩
   have hdrop : l.drop pos = c :: l.drop (pos + 1) := by rw [← hc]; exact List.drop_eq_getElem_cons hp
   have hgc : (mkB l)[pos]'hps = c := hc
   rw [if_pos hp, hdrop]
   by_cases hd : dgt c = true
   ·have h128 : c.toNat < 128 := by
     have hd2 := hd
     unfold dgt at hd2; simp at hd2; omega
    rw [decode_ascii (mkB l) pos hps (by rw [hgc]; exact h128)]
    dsimp only
    rw [hgc, noDigit_of hd, if_neg (by decide), ih (pos + 1) (by omega)]
    have e : lead (c :: l.drop (pos + 1)) = lead (l.drop (pos + 1)) + 1 := by rw [lead, if_pos hd]
    rw [e, show pos + (lead (l.drop (pos + 1)) + 1) = pos + 1 + lead (l.drop (pos + 1)) by omega]
   ·have hn : noDigit (Utf8.decode (mkB l) pos).1 = true := by
     by_cases h128 : c.toNat < 128
     ·rw [decode_ascii (mkB l) pos hps (by rw [hgc]; exact h128)]
      dsimp only
      rw [hgc]
      exact noDigit_of_not hd
     ·have hg : (mkB l).get! pos = (mkB l)[pos]'hps := by
       show (mkB l).data[pos]! = _
       rw [getElem!_pos (mkB l).data pos hps]; rfl
      have := decode_high (mkB l) pos (by rw [hg, hgc]; exact h128)
      unfold noDigit
      simp
      omega
    rw [hn, if_pos rfl]
    have e : lead (c :: l.drop (pos + 1)) = 0 := by rw [lead, if_neg hd]
    rw [e, Nat.add_zero, if_pos hp]
  ·rw [if_neg hp, List.drop_of_length_le (by omega), if_neg (by simp [lead]; omega)]
theorem idx_zero (l : List UInt8) : Lib.idxFuncFrom noDigit true (mkB l) (mkB l).size 0 = if lead l < l.length then ((lead l : Nat) : Int) else -1 := by
 have h := idx_from l (mkB l).size 0 (by rw [mkB_size]; omega)
 rw [List.drop_zero, Nat.zero_add] at h
 exact h
theorem idx_f (s : ByteArray) : strings_IndexFunc.f s = some (Lib.idxFuncFrom noDigit true s s.size 0) := by unfold strings_IndexFunc.f Lib.idxFunc; exact congrArg some rfl
theorem idx_mkB (l : List UInt8) : strings_IndexFunc.f (mkB l) = some (if lead l < l.length then ((lead l : Nat) : Int) else -1) := (idx_f _).trans (congrArg some (idx_zero l))
def numF (V : Nat) (l : List UInt8) : Nat := l.foldl (fun a c => a * 10 + (c.toNat - 48)) V
theorem numF_cons (V : Nat) (c : UInt8) (r : List UInt8) : numF V (c :: r) = numF (V * 10 + (c.toNat - 48)) r := by unfold numF; rw [List.foldl_cons]
theorem numF_append (V : Nat) (a b : List UInt8) : numF V (a ++ b) = numF (numF V a) b := by unfold numF; rw [List.foldl_append]
theorem numF_ge (l : List UInt8) : ∀ V, V ≤ numF V l := by
 induction l with
 | nil => intro V; exact Nat.le_refl _
 | cons c r ih => intro V; rw [numF_cons]; have := ih (V * 10 + (c.toNat - 48)); omega
theorem numF_split (l : List UInt8) : ∀ V, numF V l = V * 10 ^ l.length + numF 0 l := by
 induction l with
 | nil => intro V; simp [numF]
 | cons c r ih =>
  intro V
  rw [numF_cons, numF_cons, ih, ih (0 * 10 + (c.toNat - 48)), List.length_cons, Nat.pow_succ]
  have e1 : (V * 10 + (c.toNat - 48)) * 10 ^ r.length = V * 10 * 10 ^ r.length + (c.toNat - 48) * 10 ^ r.length := Nat.add_mul ..
  have e2 : (0 * 10 + (c.toNat - 48)) * 10 ^ r.length = (c.toNat - 48) * 10 ^ r.length := by rw [Nat.zero_mul, Nat.zero_add]
  have e3 : V * (10 ^ r.length * 10) = V * 10 * 10 ^ r.length := by rw [Nat.mul_comm (10 ^ r.length), Nat.mul_assoc]
  rw [e1, e2, e3]
  omega
theorem numF_lt {l : List UInt8} (h : ∀ c ∈ l, dgt c = true) : numF 0 l < 10 ^ l.length := by
 induction l with
 | nil => simp [numF]
 | cons c r ih =>
  have hc := h c List.mem_cons_self
  have hr := ih (fun x hx => h x (List.mem_cons_of_mem _ hx))
  rw [numF_cons, numF_split, List.length_cons, Nat.pow_succ]
  unfold dgt at hc
  simp at hc
  have h9 : (0 * 10 + (c.toNat - 48)) * 10 ^ r.length ≤ 9 * 10 ^ r.length := Nat.mul_le_mul_right _ (by omega)
  omega
theorem parse_ok (M : Nat) (hM : M ≤ 18446744073709551615) (l : List UInt8) : ∀ acc, (∀ c ∈ l, dgt c = true) → numF acc l ≤ M → Lib.parseUintM M acc l = .ok (numF acc l) := by
 induction l with
 | nil => intro acc _ _; rfl
 | cons c r ih =>
  intro acc hd hle
  have hc := hd c List.mem_cons_self
  unfold dgt at hc
  simp at hc
  rw [numF_cons] at hle
  have hge := numF_ge r (acc * 10 + (c.toNat - 48))
  unfold Lib.parseUintM
  rw [if_pos hc, if_neg (by omega), if_neg (by omega), ih _ (fun x hx => hd x (List.mem_cons_of_mem _ hx)) hle, numF_cons]
theorem parse_chunk {l : List UInt8} (h : ∀ c ∈ l, dgt c = true) (h0 : l ≠ []) (h19 : l.length ≤ 19) : strconv_ParseUint_149.f (mkB l) 10 64 = some ((numF 0 l : Int), none) := by
 have hlt := numF_lt h
 have hp : 10 ^ l.length ≤ 10 ^ 19 := Nat.pow_le_pow_right (by decide) h19
 have e19 : (10 : Nat) ^ 19 = 10000000000000000000 := by decide
 unfold strconv_ParseUint_149.f
 rw [if_pos ⟨rfl, rfl, by rw [mkB_size]; omega⟩]
 have hpu : Lib.parseUintB 64 (mkB l).data.toList = .ok (numF 0 l) := by
  rw [mkB_list]
  unfold Lib.parseUintB
  rw [if_neg h0]
  exact parse_ok _ (by decide) l 0 h (by omega)
 rw [hpu]
theorem read_scale (s : ByteArray) (x5 : List Int) (n v : Int) (nn : Nat) (h19 : nn ≤ 19) (R : List Int × Option Int)
  (next : Ev (fun k => (nat_times.f k x5 [pw 10 nn]).bind fun t => (nat_Of.f k v).bind fun u => (nat_plus.f k t u).bind fun z => (if 0 ≤ n then (if n ≤ (s.size : Int) then nat_Read.l0 k (s.extract n.toNat s.size) z else none) else none)) R) :
  ∀ (d i : Nat), i + d = nn → Ev (fun k => nat_Read.l1 k s x5 n v (pw 10 i) (nn : Int) (i : Int)) R := by
 intro d
 induction d with
 | zero =>
  intro i hi
  obtain rfl : i = nn := by omega
  refine Ev.step (fun k => ?_) next
  simp only [nat_Read.l1]
  rw [if_neg (by omega)]
 | succ d ih =>
  intro i hi
  have hw : Aside0 (wrap64 ((i : Int) + 1) = ((i + 1 : Nat) : Int)) := ⟨by rw [w64 (by omega) (by omega)]; omega⟩
  have hp0 := pw10_pos i
  have hp : pw 10 i * 10 ≤ 10000000000000000000 := by
   rw [← pw10_19, ← pw_succ]; exact pw_le (by decide) (by omega)
  have hw2 : Aside0 (IntKind.u64.wrap (pw 10 i * 10) = pw 10 (i + 1)) := ⟨by rw [u64w (by omega) (by omega), pw_succ]⟩
  refine Ev.step (fun k => ?_) (ih (i + 1) (by omega))
  simp only [nat_Read.l1]
  rw [if_pos (by omega), hw.out, hw2.out]
theorem read_l0 : ∀ (m : Nat) (l : List UInt8) (V : Int), (∀ c ∈ l, dgt c = true) → l.length ≤ m → 0 ≤ V → (enc B V).length + l.length ≤ 1073741824 →
  Ev (fun k => nat_Read.l0 k (mkB l) (enc B V)) (enc B (V * pw 10 l.length + (numF 0 l : Int)), none) := by
 intro m
 induction m with
 | zero =>
  intro l V hd hl hV hL
  obtain rfl : l = [] := List.length_eq_zero_iff.1 (by omega)
  refine Ev.step (f := fun _ => some (enc B V, none)) (fun k => ?_) (by rw [List.length_nil, pw_zero, Int.mul_one]; exact (by simp [numF]; exact Ev.now _))
  simp only [nat_Read.l0]
  rw [mkB_size, if_neg (by simp)]
 | succ m ih =>
  intro l V hd hl hV hL
  by_cases h0 : l = []
  ·subst h0
   refine Ev.step (f := fun _ => some (enc B V, none)) (fun k => ?_) (by rw [List.length_nil, pw_zero, Int.mul_one]; exact (by simp [numF]; exact Ev.now _))
   simp only [nat_Read.l0]
   rw [mkB_size, if_neg (by simp)]
  ·have hlp : 0 < l.length := List.length_pos_iff.2 h0
   obtain ⟨n, hn⟩ : ∃ n : Nat, n = min l.length 19 := ⟨_, rfl⟩
   have hmn : mn ((mkB l).size : Int) 19 = (n : Int) := by rw [mkB_size]; unfold mn; split <;> omega
   have hda : ∀ c ∈ l.take n, dgt c = true := fun c hc => hd c (List.mem_of_mem_take hc)
   have hdb : ∀ c ∈ l.drop n, dgt c = true := fun c hc => hd c (List.mem_of_mem_drop hc)
   have hla : (l.take n).length = n := by rw [List.length_take]; omega
   have hpc := parse_chunk hda (by intro h; rw [h] at hla; simp at hla; omega) (by omega)
   have hext : (mkB l).extract 0 n = mkB (l.take n) := by
    unfold mkB
    rw [ByteArray.extract_mk, List.drop_zero, Nat.sub_zero]
   have hext2 : (mkB l).extract n l.length = mkB (l.drop n) := by
    unfold mkB
    rw [ByteArray.extract_mk, List.take_of_length_le (by rw [List.length_drop]; omega)]
   have hlt := numF_lt hda
   rw [hla] at hlt
   have hvB : ((numF 0 (l.take n) : Nat) : Int) < B := by
    have hp : 10 ^ n ≤ 10 ^ 19 := Nat.pow_le_pow_right (by decide) (by omega)
    have e19 : (10 : Nat) ^ 19 = 10000000000000000000 := by decide
    rw [Bdef]; omega
   have hsB : pw 10 n < B := by
    have := pw_le (b := 10) (by decide) (show n ≤ 19 by omega)
    rw [pw10_19] at this
    rw [Bdef]; omega
   have hs0 := pw10_pos n
   have ht := times_ev (dig_enc' B1 V) (Dig_one (b := B) (Int.le_of_lt hs0) hsB) (by simp; omega)
   rw [val_enc' B1 hV, val_one] at ht
   have hVs : 0 ≤ V * pw 10 n := Int.mul_nonneg hV (Int.le_of_lt hs0)
   have hl1 : (enc B (V * pw 10 n)).length ≤ (enc B V).length + 1 := by
    refine penc_len B1 ?_
    rw [pw_succ]
    have h1 := pval_lt Bpos (dig_enc' B1 V)
    rw [val_enc' B1 hV] at h1
    have h2 : V * pw 10 n ≤ V * B := Int.mul_le_mul_of_nonneg_left (Int.le_of_lt hsB) hV
    have h3 : V * B < pw B (enc B V).length * B := Int.mul_lt_mul_of_pos_right h1 Bpos
    omega
   have hof := nOf_ev (v := ((numF 0 (l.take n) : Nat) : Int)) (by omega) hvB
   have hl2 : (enc B ((numF 0 (l.take n) : Nat) : Int)).length ≤ 1 := penc_len B1 (by rw [pw_one]; exact hvB)
   have hpl := plus_ev (dig_enc' B1 (V * pw 10 n)) (dig_enc' B1 ((numF 0 (l.take n) : Nat) : Int)) (by omega) (by omega)
   rw [val_enc' B1 hVs, val_enc' B1 (by omega)] at hpl
   have hnew : 0 ≤ V * pw 10 n + ((numF 0 (l.take n) : Nat) : Int) := by omega
   have hl3 : (enc B (V * pw 10 n + ((numF 0 (l.take n) : Nat) : Int))).length ≤ (enc B V).length + 1 := by
    refine penc_len B1 ?_
    rw [pw_succ]
    have h1 := pval_lt Bpos (dig_enc' B1 V)
    rw [val_enc' B1 hV] at h1
    have h4 : ((numF 0 (l.take n) : Nat) : Int) < pw 10 n := by
     rw [pw_def]
     have e : ((10 ^ n : Nat) : Int) = (10 : Int) ^ n := by simp
     omega
    have h5 : (V + 1) * pw 10 n ≤ pw B (enc B V).length * pw 10 n := Int.mul_le_mul_of_nonneg_right (by omega) (Int.le_of_lt hs0)
    have h6 : pw B (enc B V).length * pw 10 n ≤ pw B (enc B V).length * B := Int.mul_le_mul_of_nonneg_left (Int.le_of_lt hsB) (Int.le_of_lt (pw_pos Bpos _))
    rw [Int.add_mul, Int.one_mul] at h5
    omega
   have key := ih (l.drop n) _ hdb (by rw [List.length_drop]; omega) hnew (by rw [List.length_drop]; omega)
   have hfin : (V * pw 10 n + ((numF 0 (l.take n) : Nat) : Int)) * pw 10 (l.drop n).length + ((numF 0 (l.drop n) : Nat) : Int) = V * pw 10 l.length + ((numF 0 l : Nat) : Int) := by
    have e1 : l.length = n + (l.drop n).length := by rw [List.length_drop]; omega
    have e2 : numF 0 l = numF 0 (l.take n) * 10 ^ (l.drop n).length + numF 0 (l.drop n) := by
     rw [← numF_split, ← numF_append, List.take_append_drop]
    have e3 : ((10 ^ (l.drop n).length : Nat) : Int) = pw 10 (l.drop n).length := by rw [pw_def]; simp
    rw [e2, Int.natCast_add, Int.natCast_mul, e3, e1, pw_add]
    simp only [List.length_drop]
    grind
   rw [hfin] at key
   have hsc := read_scale (mkB l) (enc B V) (n : Int) ((numF 0 (l.take n) : Nat) : Int) n (by omega) (enc B (V * pw 10 l.length + ((numF 0 l : Nat) : Int)), none) (by
    refine Ev.bind ht (Ev.bind hof (Ev.bind hpl ?_))
    refine Ev.congr (fun k => ?_) key
    rw [if_pos (by omega), mkB_size, if_pos (by omega), Int.toNat_natCast, hext2]) n 0 (by omega)
   rw [pw_zero] at hsc
   refine Ev.step (fun k => ?_) hsc
   simp only [nat_Read.l0]
   rw [hmn, mkB_size, if_pos (by omega), if_pos (by omega), if_pos (by omega), Int.toNat_natCast, hext, hpc]
   simp only [Option.bind_some]
   rw [if_pos (by rfl)]
   rfl
theorem nRead_ev {l : List UInt8} (hd : ∀ c ∈ l, dgt c = true) (h0 : l ≠ []) (hl : l.length ≤ 4096) : Ev (fun k => nat_Read.f k (mkB l)) (enc B (numF 0 l : Int), none) := by
 have h := read_l0 l.length l 0 hd (Nat.le_refl _) (Int.le_refl _) (by rw [enc_zero]; simp; omega)
 rw [Int.zero_mul, Int.zero_add, enc_zero] at h
 refine Ev.congr (f := fun k => nat_Read.j0 k (mkB l) (-1)) (fun k => ?_) (Ev.step (fun k => ?_) h)
 ·unfold nat_Read.f
  rw [mkB_size, if_neg (by omega), idx_mkB, if_neg (by rw [lead_all hd]; omega)]
  simp only [Option.bind_some]
  rw [if_neg (by rw [Lib.toList_data, mkB_list]; exact h0)]
 ·simp only [nat_Read.j0]
  rw [if_neg (by decide)]
end Go.Proofs.Yy.PTx
end
