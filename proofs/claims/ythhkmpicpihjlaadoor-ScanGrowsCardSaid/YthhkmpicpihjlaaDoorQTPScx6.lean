/- PScx6: the part that this claim needs. -/
import Derived.Test.YthhkmpicpihjlaaDoorQTPScx0
import Derived.Test.YthhkmpicpihjlaaDoorQTGIsC
import Derived.Test.YthhkmpicpihjlaaDoorQTGScan
import Derived.Test.YthhkmpicpihjlaaDoorQTGShown
namespace Go.Proofs.YthhkmpicpihjlaaDoor.PSc
open Go.RowKit Go.Proofs.YthhkmpicpihjlaaDoorW.PrintWords Go.Proofs.YthhkmpicpihjlaaDoorW.PrintLast Go.Proofs.YthhkmpicpihjlaaDoorW.PrintMore
open Go.Proofs.YthhkmpicpihjlaaDoor.M
attribute [local go_sem] runx_add64 runx_sub64 eql_cc eql_nc neq_cc neq_nc
attribute [local go_sem] max2_int min2_int max_two min_two max_three min_three max_four min_four   -- for this text's walks alone
set_option linter.unusedVariables false
set_option linter.unusedSimpArgs false
mutual
def vernierlaw18_ScanGrows.j0 : Nat → ByteArray → ByteArray → Bool → Option Int → Bool → Option (Bool)
  | 0, _, _, _, _, _ => none
  | k + 1, x0, x1, x5, x7, x34 => if x34 = true then (some x5) else (vernierlaw18_ScanGrows.l0 k x0 x1 x5 x7 0)
def vernierlaw18_ScanGrows.l0 : Nat → ByteArray → ByteArray → Bool → Option Int → Int → Option (Bool)
  | 0, _, _, _, _, _ => none
  | k + 1, x0, x1, x5, x7, x8 => if x8 ≤ (x0.size : Int) then ((vernierlaw00_Is.f x7 0 x8 14).bind fun t211 => (if t211 = true then (if x8 < (x0.size : Int) then (if 0 ≤ (wrap64 (x8 + 1)) then (if (wrap64 (x8 + 1)) ≤ (x0.size : Int) then (if (x0.extract 0 ((wrap64 (x8 + 1)) : Int).toNat).size + x1.size ≤ 9223372036854775807 then ((scan_Scan.f ((x0.extract 0 ((wrap64 (x8 + 1)) : Int).toNat) ++ x1)).bind fun bt212 => ((vernierlaw00_Is.f bt212.2.2.2.2 0 x8 14).bind fun t218 => (if x5 = true then (some t218) else (some false)))) else (none)) else (none)) else (none)) else (if (x0.size : Int) > 0 then (if 0 < (x0.size : Int) then (vernierlaw18_ScanGrows.j2 k x0 x5 (⟨#[48]⟩ : ByteArray) ((bt x0 0) == 110)) else (none)) else (vernierlaw18_ScanGrows.j2 k x0 x5 (⟨#[48]⟩ : ByteArray) false))) else (vernierlaw18_ScanGrows.l0 k x0 x1 x5 x7 (wrap64 (x8 + 1))))) else (some false)
def vernierlaw18_ScanGrows.j2 : Nat → ByteArray → Bool → ByteArray → Bool → Option (Bool)
  | 0, _, _, _, _ => none
  | k + 1, x0, x5, x13, x75 => if x75 = true then (if (x0.size : Int) > 3 then (some false) else (if 0 ≤ (x0.size : Int) then (if (x0.size : Int) ≤ 3 then (if x0.size + ((⟨#[110, 97, 114]⟩ : ByteArray).extract ((x0.size : Int) : Int).toNat (⟨#[110, 97, 114]⟩ : ByteArray).size).size ≤ 9223372036854775807 then ((scan_Scan.f (x0 ++ ((⟨#[110, 97, 114]⟩ : ByteArray).extract ((x0.size : Int) : Int).toNat (⟨#[110, 97, 114]⟩ : ByteArray).size))).bind fun bt219 => (if x5 = true then (if bt219.2.2.2.2.isNone = true then (some true) else (some false)) else (some false))) else (none)) else (none)) else (none))) else (if x0.size + x13.size ≤ 9223372036854775807 then ((scan_Scan.f (x0 ++ x13)).bind fun bt226 => (if x5 = true then (if bt226.2.2.2.2.isNone = true then (some true) else (some false)) else (some false))) else (none))
end
def vernierlaw18_ScanGrows.f (k : Nat) (a0 : ByteArray) (a1 : ByteArray) : Option (Bool) := (vernierlaw18_shown.f).bind fun t203 => ((scan_Scan.f a0).bind fun bt204 => (if bt204.2.2.2.2.isNone = true then (vernierlaw18_ScanGrows.j0 k a0 a1 t203 none true) else (if (a0.size : Int) > 4000 then (vernierlaw18_ScanGrows.j0 k a0 a1 t203 (some (bt204.2.2.2.2.getD 0)) true) else (vernierlaw18_ScanGrows.j0 k a0 a1 t203 (some (bt204.2.2.2.2.getD 0)) (decide ((a1.size : Int) > 90))))))
set_option maxHeartbeats 8000000 in
set_option maxRecDepth 100000 in
theorem vernierlaw18_ScanGrows.calls (k : Nat) (a0 : ByteArray) (a1 : ByteArray) (r : Bool) (w : World) (h : vernierlaw18_ScanGrows.f k a0 a1 = some r) (hr_ : r = true := by rfl) (htab : Fx.Laid w := by exact Fx.Laid.below HTAB.out (by repeat (first | (with_reducible first | exact HB.out | apply below_alloc | apply pw_below_drewN | apply below_drew1 | refine below_set ?_ (Aside0.out (by assumption))) | exact HB.out))) :
    Calls Tryd.prog 7 #[.string a0, .string a1] w fun e w' => e = .returned (.bool r) ∧ Below w.heap.size w w' := by
  have HTAB := Aside0.mk htab
  clear htab
  have HRT := Aside0.mk hr_
  clear hr_
  have hu43 := Tryd.underlying43
  have hu31 := Tryd.underlying31
  have hu52 := Tryd.underlying52
  have HB := Aside0.mk (Below.refl w.heap.size w)
  have H : ((vernierlaw18_shown.f).bind fun t203 => ((scan_Scan.f a0).bind fun bt204 => (if bt204.2.2.2.2.isNone = true then (vernierlaw18_ScanGrows.j0 k a0 a1 t203 none true) else (if (a0.size : Int) > 4000 then (vernierlaw18_ScanGrows.j0 k a0 a1 t203 (some (bt204.2.2.2.2.getD 0)) true) else (vernierlaw18_ScanGrows.j0 k a0 a1 t203 (some (bt204.2.2.2.2.getD 0)) (decide ((a1.size : Int) > 90))))))) = some r := h
  clear h
  replace H := Option.bind_eq_some_iff.mp H
  obtain ⟨t203, A30, H⟩ := H
  replace H : ((scan_Scan.f a0).bind fun bt204 => (if bt204.2.2.2.2.isNone = true then (vernierlaw18_ScanGrows.j0 k a0 a1 t203 none true) else (if (a0.size : Int) > 4000 then (vernierlaw18_ScanGrows.j0 k a0 a1 t203 (some (bt204.2.2.2.2.getD 0)) true) else (vernierlaw18_ScanGrows.j0 k a0 a1 t203 (some (bt204.2.2.2.2.getD 0)) (decide ((a1.size : Int) > 90)))))) = some r := H
  have A3 := Aside0.mk A30
  clear A30
  replace H := Option.bind_eq_some_iff.mp H
  obtain ⟨⟨t204, t205, t206, t207, t208⟩, A40, H⟩ := H
  replace H : (if t208.isNone = true then (vernierlaw18_ScanGrows.j0 k a0 a1 t203 none true) else (if (a0.size : Int) > 4000 then (vernierlaw18_ScanGrows.j0 k a0 a1 t203 (some (t208.getD 0)) true) else (vernierlaw18_ScanGrows.j0 k a0 a1 t203 (some (t208.getD 0)) (decide ((a1.size : Int) > 90))))) = some r := H
  have A4 := Aside0.mk A40
  clear A40
  have HC5 := Aside0.mk H
  clear H
  go_enter Tryd.func7, Tryd.ntmps7
  go_upto_region 3 with (first | ((with_reducible refine gate_callee (f := 21) rfl ?_); refine goesL_ (some 17) rfl rfl Tryd.func21 (by kernel_rfl) rfl #[] rfl (by (try simp only [List.map_toArray, List.map_cons, List.map_nil]); first | done | rfl | (simp only [List.length_drop, List.length_take]; rfl)) ?_; (with_reducible refine (vernierlaw18_shown.calls  t203 _ A3.out).mono ?_); rintro e w6 ⟨rfl, hb⟩; refine ⟨_, rfl, ?_⟩; have n0_ := Aside0.mk (below_step (by repeat (first | (with_reducible first | exact HB.out | apply below_alloc | apply pw_below_drewN | apply below_drew1) | exact HB.out)) hb); clear HB; have HB := n0_; clear n0_; (try clear hb); (try clear hb2); (try clear hk); (try clear hi)) | ((with_reducible refine gate_callee (f := 26) rfl ?_); refine goesL_ (some 20) rfl rfl Tryd.func26 (by kernel_rfl) rfl #[.string a0] rfl (by (try simp only [List.map_toArray, List.map_cons, List.map_nil]); first | done | rfl | (simp only [List.length_drop, List.length_take]; rfl)) ?_; (with_reducible refine (scan_Scan.calls a0 t204 t205 t206 t207 t208 _ A4.out).mono ?_); rintro e w7 ⟨rfl, hb⟩; refine ⟨_, rfl, ?_⟩; have n0_ := Aside0.mk (below_step (by repeat (first | (with_reducible first | exact HB.out | apply below_alloc | apply pw_below_drewN | apply below_drew1) | exact HB.out)) hb); clear HB; have HB := n0_; clear n0_; (try clear hb); (try clear hb2); (try clear hk); (try clear hi); (try simp only [errW_none, errW_some])) | ((with_reducible refine gate_dst (N := 6) rfl ?_); (try (refine gate_guard (by rfl) ?_; dsimp only)); refine box_event ?hg (N := 6) ?hd (cs := #[.bool false, .bool false, .string (⟨#[]⟩ : ByteArray), .int .i64 0]) (t := 43) ?hr ?_; (case hd => rfl); (case hg => rfl); (case hr => first | (go_simp; done) | (go_simp; rfl)); intro gb209 hg w8 hbox hb; have n0_ := Aside0.mk (below_step (by repeat (first | (with_reducible first | exact HB.out | apply below_alloc | apply pw_below_drewN | apply below_drew1) | exact HB.out)) hb); have n1_ := Aside0.mk (hbox); have n2_ := Aside0.mk ((by rw [hg]; exact (below_size (by repeat (first | (with_reducible first | exact HB.out | apply below_alloc | apply pw_below_drewN | apply below_drew1) | exact HB.out))) : w.heap.size ≤ gb209)); have n3_ := Aside0.mk ((by rw [hg]; exact (below_size (by repeat (first | (with_reducible first | exact HB.out | apply below_alloc | apply pw_below_drewN | apply below_drew1) | exact HB.out))) : w.heap.size ≤ gb209)); clear HB; have HB := n0_; have BK209 := n1_; have GW209 := n2_; have GE209 := n3_; clear n0_ n1_ n2_ n3_; clear hb hbox hg; have hcz9_0 : w8.cell? ⟨gb209, 0, none⟩ = some (.bool false) := (blk_cell BK209.out 0).trans rfl; have hcz9_1 : w8.cell? ⟨gb209, 1, none⟩ = some (.bool false) := (blk_cell BK209.out 1).trans rfl; have hcz9_2 : w8.cell? ⟨gb209, 2, none⟩ = some (.string (⟨#[]⟩ : ByteArray)) := (blk_cell BK209.out 2).trans rfl; have hcz9_3 : w8.cell? ⟨gb209, 3, none⟩ = some (.int .i64 0) := (blk_cell BK209.out 3).trans rfl; have hfz9_0 := blk_frozen BK209.out 0; have hfz9_1 := blk_frozen BK209.out 1; have hfz9_2 := blk_frozen BK209.out 2; have hfz9_3 := blk_frozen BK209.out 3))
  (try simp only [Act.put, List.setIfInBounds_toArray, List.set_cons_zero, List.set_cons_succ])
  go_cut [34] (fun v34 wc => ∃ (kq : Nat) (x34_4 : Bool), v34 = .bool x34_4 ∧ Aside0 (vernierlaw18_ScanGrows.j0 kq a0 a1 t203 t208 x34_4 = some r) ∧ Aside0 (kq ≤ k) ∧ Aside0 (wc.heap[gb209]? = some (.cells #[.bool t204, .bool t205, .string t206, .int .i64 t207] 43 (0, 0))) ∧ Aside0 (Below w.heap.size w wc))
  case first =>
    have H := HC5.out
    clear HC5
    rcases t208 with _ | q210
    · have H1 : (vernierlaw18_ScanGrows.j0 k a0 a1 t203 none true) = some r := by rw [if_pos (show (none : Option Int).isNone = true by rfl)] at H; exact H
      clear H
      have H := H1
      clear H1
      try simp only [errW_none, errW_some]
      have H' := Aside0.mk H
      clear H
      go_wp2
      go_meet
      case rel => exact ⟨_, (true), (by first | rfl | (simp; done) | (simp [*]; done)), H', ⟨by first | omega | exact Nat.le_refl _⟩, ⟨by (with_reducible repeat (first | refine blk_drewN ?_ _ | refine blk_drew ?_ | refine blk_alloc ?_ _)); refine blk_put (cs := #[.bool t204, .bool t205, .string t206, .int .i64 0]) ?_ 3 _ rfl; (with_reducible repeat (first | refine blk_drewN ?_ _ | refine blk_drew ?_ | refine blk_alloc ?_ _)); refine blk_put (cs := #[.bool t204, .bool t205, .string (⟨#[]⟩ : ByteArray), .int .i64 0]) ?_ 2 _ rfl; (with_reducible repeat (first | refine blk_drewN ?_ _ | refine blk_drew ?_ | refine blk_alloc ?_ _)); refine blk_put (cs := #[.bool t204, .bool false, .string (⟨#[]⟩ : ByteArray), .int .i64 0]) ?_ 1 _ rfl; (with_reducible repeat (first | refine blk_drewN ?_ _ | refine blk_drew ?_ | refine blk_alloc ?_ _)); refine blk_put (cs := #[.bool false, .bool false, .string (⟨#[]⟩ : ByteArray), .int .i64 0]) ?_ 0 _ rfl; (with_reducible repeat (first | refine blk_drewN ?_ _ | refine blk_drew ?_ | refine blk_alloc ?_ _)); exact BK209.out⟩, ⟨by repeat (first | (with_reducible first | exact HB.out | apply below_alloc | apply pw_below_drewN | apply below_drew1 | refine below_set ?_ GE209.out) | exact HB.out)⟩⟩
    · have H1 : (if (a0.size : Int) > 4000 then (vernierlaw18_ScanGrows.j0 k a0 a1 t203 (some q210) true) else (vernierlaw18_ScanGrows.j0 k a0 a1 t203 (some q210) (decide ((a1.size : Int) > 90)))) = some r := by rw [if_neg (show ¬ (some q210).isNone = true by simp)] at H; exact H
      clear H
      have H := H1
      clear H1
      try simp only [errW_none, errW_some]
      by_cases c10 : (a0.size : Int) > 4000
      · rw [if_pos c10] at H
        have c10b0 : decide (4000 < (a0.size : Int)) = true := decide_eq_true c10
        have c10b1 : decide (4000 < a0.size) = true := decide_eq_true (by omega)
        clear c10
        (first | rw [c10b0] | (simp only [i64_w, i32_w]; rw [c10b0]) | rw [c10b1] | rw [List.isEmpty_iff.mpr (beq_iff_eq.mp c10b0)] | rw [List.isEmpty_eq_false_iff.mpr (beq_eq_false_iff_ne.mp c10b0)] | skip)
        have H' := Aside0.mk H
        clear H
        go_wp2
        go_meet
        case rel => exact ⟨_, (true), (by first | rfl | (simp; done) | (simp [*]; done)), H', ⟨by first | omega | exact Nat.le_refl _⟩, ⟨by (with_reducible repeat (first | refine blk_drewN ?_ _ | refine blk_drew ?_ | refine blk_alloc ?_ _)); refine blk_put (cs := #[.bool t204, .bool t205, .string t206, .int .i64 0]) ?_ 3 _ rfl; (with_reducible repeat (first | refine blk_drewN ?_ _ | refine blk_drew ?_ | refine blk_alloc ?_ _)); refine blk_put (cs := #[.bool t204, .bool t205, .string (⟨#[]⟩ : ByteArray), .int .i64 0]) ?_ 2 _ rfl; (with_reducible repeat (first | refine blk_drewN ?_ _ | refine blk_drew ?_ | refine blk_alloc ?_ _)); refine blk_put (cs := #[.bool t204, .bool false, .string (⟨#[]⟩ : ByteArray), .int .i64 0]) ?_ 1 _ rfl; (with_reducible repeat (first | refine blk_drewN ?_ _ | refine blk_drew ?_ | refine blk_alloc ?_ _)); refine blk_put (cs := #[.bool false, .bool false, .string (⟨#[]⟩ : ByteArray), .int .i64 0]) ?_ 0 _ rfl; (with_reducible repeat (first | refine blk_drewN ?_ _ | refine blk_drew ?_ | refine blk_alloc ?_ _)); exact BK209.out⟩, ⟨by repeat (first | (with_reducible first | exact HB.out | apply below_alloc | apply pw_below_drewN | apply below_drew1 | refine below_set ?_ GE209.out) | exact HB.out)⟩⟩
      · rw [if_neg c10] at H
        have c10b0 : decide (4000 < (a0.size : Int)) = false := decide_eq_false c10
        have c10b1 : decide (4000 < a0.size) = false := decide_eq_false (by omega)
        clear c10
        (first | rw [c10b0] | (simp only [i64_w, i32_w]; rw [c10b0]) | rw [c10b1] | rw [List.isEmpty_iff.mpr (beq_iff_eq.mp c10b0)] | rw [List.isEmpty_eq_false_iff.mpr (beq_eq_false_iff_ne.mp c10b0)] | skip)
        have H' := Aside0.mk H
        clear H
        go_wp2
        go_meet
        case rel => exact ⟨_, (decide ((a1.size : Int) > 90)), (by first | rfl | (simp; done) | (simp [*]; done)), H', ⟨by first | omega | exact Nat.le_refl _⟩, ⟨by (with_reducible repeat (first | refine blk_drewN ?_ _ | refine blk_drew ?_ | refine blk_alloc ?_ _)); refine blk_put (cs := #[.bool t204, .bool t205, .string t206, .int .i64 0]) ?_ 3 _ rfl; (with_reducible repeat (first | refine blk_drewN ?_ _ | refine blk_drew ?_ | refine blk_alloc ?_ _)); refine blk_put (cs := #[.bool t204, .bool t205, .string (⟨#[]⟩ : ByteArray), .int .i64 0]) ?_ 2 _ rfl; (with_reducible repeat (first | refine blk_drewN ?_ _ | refine blk_drew ?_ | refine blk_alloc ?_ _)); refine blk_put (cs := #[.bool t204, .bool false, .string (⟨#[]⟩ : ByteArray), .int .i64 0]) ?_ 1 _ rfl; (with_reducible repeat (first | refine blk_drewN ?_ _ | refine blk_drew ?_ | refine blk_alloc ?_ _)); refine blk_put (cs := #[.bool false, .bool false, .string (⟨#[]⟩ : ByteArray), .int .i64 0]) ?_ 0 _ rfl; (with_reducible repeat (first | refine blk_drewN ?_ _ | refine blk_drew ?_ | refine blk_alloc ?_ _)); exact BK209.out⟩, ⟨by repeat (first | (with_reducible first | exact HB.out | apply below_alloc | apply pw_below_drewN | apply below_drew1 | refine below_set ?_ GE209.out) | exact HB.out)⟩⟩
  case rest =>
    clear HC5
    try clear c1
    try clear c2
    try clear p2
    try clear q2
    try clear c7
    try clear c10
    try clear c10b0
    try clear c10b1
    try clear hcz9_0
    try clear hcz9_1
    try clear hcz9_2
    try clear hcz9_3
    try clear hfz9_0
    try clear hfz9_1
    try clear hfz9_2
    try clear hfz9_3
    try clear q210
    obtain ⟨kq, x34_4, rfl, HA, HJ4, BK209, HB⟩ := hcut
    cases kq with
    | zero => exact absurd HA.out (by simp [vernierlaw18_ScanGrows.j0])
    | succ kj4 =>
      have H := HA.out
      clear HA
      simp only [vernierlaw18_ScanGrows.j0] at H
      by_cases c11 : x34_4 = true
      · subst c11
        have H1 : (some t203) = some r := by rw [if_pos rfl] at H; exact H
        clear H
        have H := H1
        clear H1
        clear HRT
        obtain rfl := Option.some.inj H
        go_wp2
        go_ret
        exact ⟨by first | rfl | (simp [errW_none, errW_some] <;> rfl) | (simp [*, errW_none, errW_some] <;> rfl), by repeat (first | (with_reducible first | exact HB.out | apply below_alloc | apply pw_below_drewN | apply below_drew1 | refine below_set ?_ GE209.out) | exact HB.out)⟩
      · replace c11 := Bool.eq_false_iff.mpr c11
        subst c11
        have H1 : (vernierlaw18_ScanGrows.l0 kj4 a0 a1 t203 t208 0) = some r := by rw [if_neg (show ¬ (false = true) by decide)] at H; exact H
        clear H
        have H := H1
        clear H1
        have H' := Aside0.mk H
        clear H
        go_wp2
        go_loopg [8] kj4 (fun kq v8 w' => ∃ (x8_2 : Int), v8 = .int .i64 x8_2 ∧ Aside0 (vernierlaw18_ScanGrows.l0 kq a0 a1 t203 t208 x8_2 = some r) ∧ Aside0 (kq ≤ kj4) ∧ Aside0 (w'.heap[gb209]? = some (.cells #[.bool t204, .bool t205, .string t206, .int .i64 t207] 43 (0, 0))) ∧ Aside0 (Below w.heap.size w w'))
        case atStart => exact ⟨(0), (by first | rfl | (simp; done) | (simp [*]; done)), H', ⟨Nat.le_refl _⟩, ⟨by (with_reducible repeat (first | refine blk_drewN ?_ _ | refine blk_drew ?_ | refine blk_alloc ?_ _)); exact BK209.out⟩, ⟨by repeat (first | (with_reducible first | exact HB.out | apply below_alloc | apply pw_below_drewN | apply below_drew1 | refine below_set ?_ GE209.out) | exact HB.out)⟩⟩
        case round =>
          clear H'
          try clear c1
          try clear c2
          try clear p2
          try clear q2
          try clear c7
          try clear c10
          try clear c10b0
          try clear c10b1
          try clear c11
          try clear hcz9_0
          try clear hcz9_1
          try clear hcz9_2
          try clear hcz9_3
          try clear hfz9_0
          try clear hfz9_1
          try clear hfz9_2
          try clear hfz9_3
          try clear p2
          try clear q2
          try clear q210
          obtain ⟨x8_2, rfl, HA, HK2, BK209, HB⟩ := hrel
          cases gk with
          | zero => exact absurd HA.out (by simp [vernierlaw18_ScanGrows.l0])
          | succ k2 =>
            have H := HA.out
            clear HA
            simp only [vernierlaw18_ScanGrows.l0] at H
            by_cases c12 : x8_2 ≤ (a0.size : Int)
            · rw [if_pos c12] at H
              have c12b0 : decide (x8_2 ≤ (a0.size : Int)) = true := decide_eq_true c12
              clear c12
              replace H := Option.bind_eq_some_iff.mp H
              obtain ⟨t211, A130, H⟩ := H
              replace H : (if t211 = true then (if x8_2 < (a0.size : Int) then (if 0 ≤ (wrap64 (x8_2 + 1)) then (if (wrap64 (x8_2 + 1)) ≤ (a0.size : Int) then (if (a0.extract 0 ((wrap64 (x8_2 + 1)) : Int).toNat).size + a1.size ≤ 9223372036854775807 then ((scan_Scan.f ((a0.extract 0 ((wrap64 (x8_2 + 1)) : Int).toNat) ++ a1)).bind fun bt212 => ((vernierlaw00_Is.f bt212.2.2.2.2 0 x8_2 14).bind fun t218 => (if t203 = true then (some t218) else (some false)))) else (none)) else (none)) else (none)) else (if (a0.size : Int) > 0 then (if 0 < (a0.size : Int) then (vernierlaw18_ScanGrows.j2 k2 a0 t203 (⟨#[48]⟩ : ByteArray) ((bt a0 0) == 110)) else (none)) else (vernierlaw18_ScanGrows.j2 k2 a0 t203 (⟨#[48]⟩ : ByteArray) false))) else (vernierlaw18_ScanGrows.l0 k2 a0 a1 t203 t208 (wrap64 (x8_2 + 1)))) = some r := H
              have A13 := Aside0.mk A130
              clear A130
              by_cases c14 : t211 = true
              · subst c14
                have H1 : (if x8_2 < (a0.size : Int) then (if 0 ≤ (wrap64 (x8_2 + 1)) then (if (wrap64 (x8_2 + 1)) ≤ (a0.size : Int) then (if (a0.extract 0 ((wrap64 (x8_2 + 1)) : Int).toNat).size + a1.size ≤ 9223372036854775807 then ((scan_Scan.f ((a0.extract 0 ((wrap64 (x8_2 + 1)) : Int).toNat) ++ a1)).bind fun bt212 => ((vernierlaw00_Is.f bt212.2.2.2.2 0 x8_2 14).bind fun t218 => (if t203 = true then (some t218) else (some false)))) else (none)) else (none)) else (none)) else (if (a0.size : Int) > 0 then (if 0 < (a0.size : Int) then (vernierlaw18_ScanGrows.j2 k2 a0 t203 (⟨#[48]⟩ : ByteArray) ((bt a0 0) == 110)) else (none)) else (vernierlaw18_ScanGrows.j2 k2 a0 t203 (⟨#[48]⟩ : ByteArray) false))) = some r := by rw [if_pos rfl] at H; exact H
                clear H
                have H := H1
                clear H1
                by_cases c15 : x8_2 < (a0.size : Int)
                · rw [if_pos c15] at H
                  have c15b0 : decide (x8_2 < (a0.size : Int)) = true := decide_eq_true c15
                  clear c15
                  obtain ⟨ji16, hji16⟩ : ∃ j_ : Int, (wrap64 (x8_2 + 1)) = j_ := ⟨_, rfl⟩
                  replace H : (if 0 ≤ (ji16) then (if (ji16) ≤ (a0.size : Int) then (if (a0.extract 0 ((ji16) : Int).toNat).size + a1.size ≤ 9223372036854775807 then ((scan_Scan.f ((a0.extract 0 ((ji16) : Int).toNat) ++ a1)).bind fun bt212 => ((vernierlaw00_Is.f bt212.2.2.2.2 0 x8_2 14).bind fun t218 => (if t203 = true then (some t218) else (some false)))) else (none)) else (none)) else (none)) = some r := by first | (rw [hji16] at H; exact H) | (simp only [hji16] at H ⊢; exact H)
                  (try rw [hji16] at A13)
                  have hji16w : (IntKind.i64.wrap (x8_2 + 1)) = ji16 := (i64_w _).trans hji16
                  by_cases c17 : 0 ≤ (ji16)
                  · rw [if_pos c17] at H
                    have c17b0 := eq_true c17
                    have c17b1 : decide (0 ≤ (ji16)) = true := decide_eq_true c17
                    clear c17
                    by_cases c18 : (ji16) ≤ (a0.size : Int)
                    · rw [if_pos c18] at H
                      have c18b0 := eq_true c18
                      have c18b1 : decide ((ji16) ≤ (a0.size : Int)) = true := decide_eq_true c18
                      clear c18
                      by_cases c19 : (a0.extract 0 ((ji16) : Int).toNat).size + a1.size ≤ 9223372036854775807
                      · rw [if_pos c19] at H
                        have c19b0 := eq_true c19
                        have c19b1 : decide ((a0.extract 0 ((ji16) : Int).toNat).size + a1.size ≤ 9223372036854775807) = true := decide_eq_true c19
                        try have c19b2 : (9223372036854775807 < (a0.extract 0 ((ji16) : Int).toNat).size + a1.size) = False := eq_false (Nat.not_lt.2 c19)
                        replace H := Option.bind_eq_some_iff.mp H
                        obtain ⟨⟨t212, t213, t214, t215, t216⟩, A200, H⟩ := H
                        replace H : ((vernierlaw00_Is.f t216 0 x8_2 14).bind fun t218 => (if t203 = true then (some t218) else (some false))) = some r := H
                        have A20 := Aside0.mk A200
                        clear A200
                        replace H := Option.bind_eq_some_iff.mp H
                        obtain ⟨t218, A210, H⟩ := H
                        replace H : (if t203 = true then (some t218) else (some false)) = some r := H
                        have A21 := Aside0.mk A210
                        clear A210
                        by_cases c22 : t203 = true
                        · subst c22
                          have H1 : (some t218) = some r := by rw [if_pos rfl] at H; exact H
                          clear H
                          have H := H1
                          clear H1
                          clear HRT
                          obtain rfl := Option.some.inj H
                          have CA13 := fun W => vernierlaw00_Is.calls t208 0 x8_2 14 true W A13.out
                          try simp only [errW_none, errW_some] at CA13
                          go_wp2_with (first | (go_at_call 27; (with_reducible refine (CA13 _).mono ?_); rintro e w23 ⟨rfl, hb⟩; have n0_ := Aside0.mk (blk_below (g := gb209) (o := .cells #[.bool t204, .bool t205, .string t206, .int .i64 t207] 43 (0, 0)) (by (with_reducible repeat (first | refine blk_drewN ?_ _ | refine blk_drew ?_ | refine blk_alloc ?_ _)); exact BK209.out) hb); have n1_ := Aside0.mk (below_step (by repeat (first | (with_reducible first | exact HB.out | apply below_alloc | apply pw_below_drewN | apply below_drew1 | refine below_set ?_ GE209.out) | exact HB.out)) hb); clear BK209; clear HB; have BK209 := n0_; have HB := n1_; clear n0_ n1_; (try clear hb); (try clear hb2); (try clear hk); (try clear hi)) | ((with_reducible refine gate_callee (f := 26) rfl ?_); refine goesL_ (some 58) rfl rfl Tryd.func26 (by kernel_rfl) rfl #[.string ((a0.extract 0 ((ji16) : Int).toNat) ++ a1)] rfl (by (try simp only [List.map_toArray, List.map_cons, List.map_nil]); first | done | (simp only [hji16]; rfl) | rfl | (simp only [List.length_drop, List.length_take]; rfl)) ?_; (with_reducible refine (scan_Scan.calls ((a0.extract 0 ((ji16) : Int).toNat) ++ a1) t212 t213 t214 t215 t216 _ A20.out).mono ?_); rintro e w24 ⟨rfl, hb⟩; refine ⟨_, rfl, ?_⟩; have n0_ := Aside0.mk (blk_below (g := gb209) (o := .cells #[.bool t204, .bool t205, .string t206, .int .i64 t207] 43 (0, 0)) (by (with_reducible repeat (first | refine blk_drewN ?_ _ | refine blk_drew ?_ | refine blk_alloc ?_ _)); exact BK209.out) hb); have n1_ := Aside0.mk (below_step (by repeat (first | (with_reducible first | exact HB.out | apply below_alloc | apply pw_below_drewN | apply below_drew1 | refine below_set ?_ GE209.out) | exact HB.out)) hb); clear BK209; clear HB; have BK209 := n0_; have HB := n1_; clear n0_ n1_; (try clear hb); (try clear hb2); (try clear hk); (try clear hi); (try simp only [errW_none, errW_some])) | ((with_reducible refine gate_dst (N := 10) rfl ?_); (try (refine gate_guard (by rfl) ?_; dsimp only)); refine box_event ?hg (N := 10) ?hd (cs := #[.bool false, .bool false, .string (⟨#[]⟩ : ByteArray), .int .i64 0]) (t := 43) ?hr ?_; (case hd => rfl); (case hg => rfl); (case hr => first | (go_simp; done) | (go_simp; rfl)); intro gb217 hg w25 hbox hb; have n0_ := Aside0.mk (blk_below (g := gb209) (o := .cells #[.bool t204, .bool t205, .string t206, .int .i64 t207] 43 (0, 0)) (by (with_reducible repeat (first | refine blk_drewN ?_ _ | refine blk_drew ?_ | refine blk_alloc ?_ _)); exact BK209.out) hb); have n1_ := Aside0.mk (below_step (by repeat (first | (with_reducible first | exact HB.out | apply below_alloc | apply pw_below_drewN | apply below_drew1 | refine below_set ?_ GE209.out) | exact HB.out)) hb); have n2_ := Aside0.mk (hbox); have n3_ := Aside0.mk ((by rw [hg]; exact (below_size (by repeat (first | (with_reducible first | exact HB.out | apply below_alloc | apply pw_below_drewN | apply below_drew1 | refine below_set ?_ GE209.out) | exact HB.out))) : w.heap.size ≤ gb217)); have n4_ := Aside0.mk ((by rw [hg]; exact (below_size (by repeat (first | (with_reducible first | exact HB.out | apply below_alloc | apply pw_below_drewN | apply below_drew1 | refine below_set ?_ GE209.out) | exact HB.out))) : w.heap.size ≤ gb217)); have n5_ := Aside0.mk ((by rw [hg]; exact Nat.ne_of_lt (blk_lt (g := gb209) (o := .cells #[.bool t204, .bool t205, .string t206, .int .i64 t207] 43 (0, 0)) (by (with_reducible repeat (first | refine blk_drewN ?_ _ | refine blk_drew ?_ | refine blk_alloc ?_ _)); exact BK209.out)) : gb209 ≠ gb217)); have n6_ := Aside0.mk ((by rw [hg]; exact Nat.ne_of_gt (blk_lt (g := gb209) (o := .cells #[.bool t204, .bool t205, .string t206, .int .i64 t207] 43 (0, 0)) (by (with_reducible repeat (first | refine blk_drewN ?_ _ | refine blk_drew ?_ | refine blk_alloc ?_ _)); exact BK209.out)) : gb217 ≠ gb209)); clear BK209; clear HB; have BK209 := n0_; have HB := n1_; have BK217 := n2_; have GW217 := n3_; have GE217 := n4_; have NB209_217 := n5_; have NB217_209 := n6_; clear n0_ n1_ n2_ n3_ n4_ n5_ n6_; clear hb hbox hg; have hnb26 := NB217_209.out; have hnc26 := NB209_217.out; have hcz27_0 : w25.cell? ⟨gb217, 0, none⟩ = some (.bool false) := (blk_cell BK217.out 0).trans rfl; have hcz27_1 : w25.cell? ⟨gb217, 1, none⟩ = some (.bool false) := (blk_cell BK217.out 1).trans rfl; have hcz27_2 : w25.cell? ⟨gb217, 2, none⟩ = some (.string (⟨#[]⟩ : ByteArray)) := (blk_cell BK217.out 2).trans rfl; have hcz27_3 : w25.cell? ⟨gb217, 3, none⟩ = some (.int .i64 0) := (blk_cell BK217.out 3).trans rfl; have hfz27_0 := blk_frozen BK217.out 0; have hfz27_1 := blk_frozen BK217.out 1; have hfz27_2 := blk_frozen BK217.out 2; have hfz27_3 := blk_frozen BK217.out 3; have CA21 := fun W => vernierlaw00_Is.calls t216 0 x8_2 14 t218 W A21.out; try simp only [errW_none, errW_some] at CA21) | (go_at_call 27; (with_reducible refine (CA21 _).mono ?_); rintro e w28 ⟨rfl, hb⟩; have n0_ := Aside0.mk (blk_below (g := gb209) (o := .cells #[.bool t204, .bool t205, .string t206, .int .i64 t207] 43 (0, 0)) (by (with_reducible repeat (first | refine blk_drewN ?_ _ | refine blk_drew ?_ | refine blk_alloc ?_ _)); refine blk_far ?_ NB209_217.out _; (with_reducible repeat (first | refine blk_drewN ?_ _ | refine blk_drew ?_ | refine blk_alloc ?_ _)); refine blk_far ?_ NB209_217.out _; (with_reducible repeat (first | refine blk_drewN ?_ _ | refine blk_drew ?_ | refine blk_alloc ?_ _)); refine blk_far ?_ NB209_217.out _; (with_reducible repeat (first | refine blk_drewN ?_ _ | refine blk_drew ?_ | refine blk_alloc ?_ _)); refine blk_far ?_ NB209_217.out _; (with_reducible repeat (first | refine blk_drewN ?_ _ | refine blk_drew ?_ | refine blk_alloc ?_ _)); exact BK209.out) hb); have n1_ := Aside0.mk (blk_below (g := gb217) (o := .cells #[.bool t212, .bool t213, .string t214, .int .i64 t215] 43 (0, 0)) (by (with_reducible repeat (first | refine blk_drewN ?_ _ | refine blk_drew ?_ | refine blk_alloc ?_ _)); refine blk_put (cs := #[.bool t212, .bool t213, .string t214, .int .i64 0]) ?_ 3 _ rfl; (with_reducible repeat (first | refine blk_drewN ?_ _ | refine blk_drew ?_ | refine blk_alloc ?_ _)); refine blk_put (cs := #[.bool t212, .bool t213, .string (⟨#[]⟩ : ByteArray), .int .i64 0]) ?_ 2 _ rfl; (with_reducible repeat (first | refine blk_drewN ?_ _ | refine blk_drew ?_ | refine blk_alloc ?_ _)); refine blk_put (cs := #[.bool t212, .bool false, .string (⟨#[]⟩ : ByteArray), .int .i64 0]) ?_ 1 _ rfl; (with_reducible repeat (first | refine blk_drewN ?_ _ | refine blk_drew ?_ | refine blk_alloc ?_ _)); refine blk_put (cs := #[.bool false, .bool false, .string (⟨#[]⟩ : ByteArray), .int .i64 0]) ?_ 0 _ rfl; (with_reducible repeat (first | refine blk_drewN ?_ _ | refine blk_drew ?_ | refine blk_alloc ?_ _)); exact BK217.out) hb); have n2_ := Aside0.mk (below_step (by repeat (first | (with_reducible first | exact HB.out | apply below_alloc | apply pw_below_drewN | apply below_drew1 | refine below_set ?_ GE209.out | refine below_set ?_ GE217.out) | exact HB.out)) hb); clear BK209; clear BK217; clear HB; have BK209 := n0_; have BK217 := n1_; have HB := n2_; clear n0_ n1_ n2_; (try clear hb); (try clear hb2); (try clear hk); (try clear hi)))
                          go_ret
                          exact ⟨by first | rfl | (simp [errW_none, errW_some] <;> rfl) | (simp only [← hji16]; first | rfl | (simp [errW_none, errW_some] <;> rfl)) | (simp [*, errW_none, errW_some] <;> rfl), by repeat (first | (with_reducible first | exact HB.out | apply below_alloc | apply pw_below_drewN | apply below_drew1 | refine below_set ?_ GE209.out | refine below_set ?_ GE217.out) | exact HB.out)⟩
                        · replace c22 := Bool.eq_false_iff.mpr c22
                          subst c22
                          have H1 : (some false) = some r := by rw [if_neg (show ¬ (false = true) by decide)] at H; exact H
                          clear H
                          have H := H1
                          clear H1
                          exact absurd (Option.some.inj H) (by rw [HRT.out]; decide)
                      · rw [if_neg c19] at H
                        exact absurd H (by simp)
                    · rw [if_neg c18] at H
                      exact absurd H (by simp)
                  · rw [if_neg c17] at H
                    exact absurd H (by simp)
                · rw [if_neg c15] at H
                  have c15b0 : decide (x8_2 < (a0.size : Int)) = false := decide_eq_false c15
                  clear c15
                  have HC29 := Aside0.mk H
                  clear H
                  have CA13 := fun W => vernierlaw00_Is.calls t208 0 x8_2 14 true W A13.out
                  try simp only [errW_none, errW_some] at CA13
                  go_upto_region 15 with (first | (go_at_call 27; (with_reducible refine (CA13 _).mono ?_); rintro e w30 ⟨rfl, hb⟩; have n0_ := Aside0.mk (blk_below (g := gb209) (o := .cells #[.bool t204, .bool t205, .string t206, .int .i64 t207] 43 (0, 0)) (by (with_reducible repeat (first | refine blk_drewN ?_ _ | refine blk_drew ?_ | refine blk_alloc ?_ _)); exact BK209.out) hb); have n1_ := Aside0.mk (below_step (by repeat (first | (with_reducible first | exact HB.out | apply below_alloc | apply pw_below_drewN | apply below_drew1 | refine below_set ?_ GE209.out) | exact HB.out)) hb); clear BK209; clear HB; have BK209 := n0_; have HB := n1_; clear n0_ n1_; (try clear hb); (try clear hb2); (try clear hk); (try clear hi)))
                  (try simp only [Act.put, List.setIfInBounds_toArray, List.set_cons_zero, List.set_cons_succ])
                  go_cut [75] (fun v75 wc => ∃ (kq : Nat) (x75_28 : Bool), v75 = .bool x75_28 ∧ Aside0 (vernierlaw18_ScanGrows.j2 kq a0 t203 (⟨#[48]⟩ : ByteArray) x75_28 = some r) ∧ Aside0 (kq ≤ k2) ∧ Aside0 (wc.heap[gb209]? = some (.cells #[.bool t204, .bool t205, .string t206, .int .i64 t207] 43 (0, 0))) ∧ Aside0 (Below w.heap.size w wc))
                  case first =>
                    have H := HC29.out
                    clear HC29
                    by_cases c31 : (a0.size : Int) > 0
                    · rw [if_pos c31] at H
                      have c31b0 : decide (0 < (a0.size : Int)) = true := decide_eq_true c31
                      have c31b1 : decide (0 < a0.size) = true := decide_eq_true (by omega)
                      clear c31
                      (first | rw [c31b0] | (simp only [i64_w, i32_w]; rw [c31b0]) | rw [c31b1] | rw [List.isEmpty_iff.mpr (beq_iff_eq.mp c31b0)] | rw [List.isEmpty_eq_false_iff.mpr (beq_eq_false_iff_ne.mp c31b0)] | skip)
                      by_cases c32 : 0 < (a0.size : Int)
                      · rw [if_pos c32] at H
                        have c32b0 : decide (0 < (a0.size : Int)) = true := decide_eq_true c32
                        have c32b1 : decide (0 < a0.size) = true := decide_eq_true (by omega)
                        clear c32
                        have H' := Aside0.mk H
                        clear H
                        have p33 : 0 ≤ (0 : Int) := (by omega)
                        have q33 : 0 < a0.size := (by have : (0 : Int) < (a0.size : Int) := of_decide_eq_true (by first | (with_reducible assumption) | assumption); omega)
                        have hx33 : ∀ h : 0 < a0.size, ((a0[0]'h).toNat : Int) = bt a0 0 := bt_at a0 0
                        clear p33
                        have qi33 : (0 < (a0.size : Int)) = True := eq_true (of_decide_eq_true (by first | (with_reducible assumption) | assumption))
                        replace q33 := eq_true q33
                        go_wp2
                        go_meet
                        case rel => exact ⟨_, (((bt a0 0) == 110)), (by first | rfl | (simp; done) | (simp [*]; done)), H', ⟨by have := HJ4.out; have := HK2.out; first | omega | exact Nat.le_refl _⟩, ⟨by (with_reducible repeat (first | refine blk_drewN ?_ _ | refine blk_drew ?_ | refine blk_alloc ?_ _)); exact BK209.out⟩, ⟨by repeat (first | (with_reducible first | exact HB.out | apply below_alloc | apply pw_below_drewN | apply below_drew1 | refine below_set ?_ GE209.out) | exact HB.out)⟩⟩
                      · rw [if_neg c32] at H
                        exact absurd H (by simp)
                    · rw [if_neg c31] at H
                      have c31b0 : decide (0 < (a0.size : Int)) = false := decide_eq_false c31
                      have c31b1 : decide (0 < a0.size) = false := decide_eq_false (by omega)
                      clear c31
                      (first | rw [c31b0] | (simp only [i64_w, i32_w]; rw [c31b0]) | rw [c31b1] | rw [List.isEmpty_iff.mpr (beq_iff_eq.mp c31b0)] | rw [List.isEmpty_eq_false_iff.mpr (beq_eq_false_iff_ne.mp c31b0)] | skip)
                      have H' := Aside0.mk H
                      clear H
                      go_wp2
                      go_meet
                      case rel => exact ⟨_, (false), (by first | rfl | (simp; done) | (simp [*]; done)), H', ⟨by have := HJ4.out; have := HK2.out; first | omega | exact Nat.le_refl _⟩, ⟨by (with_reducible repeat (first | refine blk_drewN ?_ _ | refine blk_drew ?_ | refine blk_alloc ?_ _)); exact BK209.out⟩, ⟨by repeat (first | (with_reducible first | exact HB.out | apply below_alloc | apply pw_below_drewN | apply below_drew1 | refine below_set ?_ GE209.out) | exact HB.out)⟩⟩
                  case rest =>
                    clear HC29
                    try clear c1
                    try clear c2
                    try clear p2
                    try clear q2
                    try clear c3
                    try clear p3
                    try clear q3
                    try clear hx3
                    try clear qi3
                    try clear p6
                    try clear c7
                    try clear c10
                    try clear c10b0
                    try clear c10b1
                    try clear c11
                    try clear c12
                    try clear c12b0
                    try clear c14
                    try clear c15
                    try clear c15b0
                    try clear c17
                    try clear c17b0
                    try clear c17b1
                    try clear c18
                    try clear c18b0
                    try clear c18b1
                    try clear c19
                    try clear c19b0
                    try clear c19b1
                    try clear c19b2
                    try clear c21
                    try clear q21
                    try clear c22
                    try clear c26
                    try clear c31
                    try clear c31b0
                    try clear c31b1
                    try clear c32
                    try clear c32b0
                    try clear c32b1
                    try clear p33
                    try clear q33
                    try clear hx33
                    try clear qi33
                    try clear hcz27_0
                    try clear hcz27_1
                    try clear hcz27_2
                    try clear hcz27_3
                    try clear hcz9_0
                    try clear hcz9_1
                    try clear hcz9_2
                    try clear hcz9_3
                    try clear hfz27_0
                    try clear hfz27_1
                    try clear hfz27_2
                    try clear hfz27_3
                    try clear hfz9_0
                    try clear hfz9_1
                    try clear hfz9_2
                    try clear hfz9_3
                    try clear p2
                    try clear p33
                    try clear q2
                    try clear q210
                    try clear q33
                    obtain ⟨kq, x75_28, rfl, HA, HJ28, BK209, HB⟩ := hcut
                    cases kq with
                    | zero => exact absurd HA.out (by simp [vernierlaw18_ScanGrows.j2])
                    | succ kj28 =>
                      have H := HA.out
                      clear HA
                      simp only [vernierlaw18_ScanGrows.j2] at H
                      by_cases c34 : x75_28 = true
                      · subst c34
                        have H1 : (if (a0.size : Int) > 3 then (some false) else (if 0 ≤ (a0.size : Int) then (if (a0.size : Int) ≤ 3 then (if a0.size + ((⟨#[110, 97, 114]⟩ : ByteArray).extract ((a0.size : Int) : Int).toNat (⟨#[110, 97, 114]⟩ : ByteArray).size).size ≤ 9223372036854775807 then ((scan_Scan.f (a0 ++ ((⟨#[110, 97, 114]⟩ : ByteArray).extract ((a0.size : Int) : Int).toNat (⟨#[110, 97, 114]⟩ : ByteArray).size))).bind fun bt219 => (if t203 = true then (if bt219.2.2.2.2.isNone = true then (some true) else (some false)) else (some false))) else (none)) else (none)) else (none))) = some r := by rw [if_pos rfl] at H; exact H
                        clear H
                        have H := H1
                        clear H1
                        by_cases c35 : (a0.size : Int) > 3
                        · rw [if_pos c35] at H
                          have c35b0 : decide (3 < (a0.size : Int)) = true := decide_eq_true c35
                          have c35b1 : decide (3 < a0.size) = true := decide_eq_true (by omega)
                          clear c35
                          exact absurd (Option.some.inj H) (by rw [HRT.out]; decide)
                        · rw [if_neg c35] at H
                          have c35b0 : decide (3 < (a0.size : Int)) = false := decide_eq_false c35
                          have c35b1 : decide (3 < a0.size) = false := decide_eq_false (by omega)
                          clear c35
                          by_cases c36 : 0 ≤ (a0.size : Int)
                          · rw [if_pos c36] at H
                            have c36b0 := eq_true c36
                            have c36b1 : decide (0 ≤ (a0.size : Int)) = true := decide_eq_true c36
                            clear c36
                            by_cases c37 : (a0.size : Int) ≤ 3
                            · rw [if_pos c37] at H
                              have c37b0 := eq_true c37
                              have c37b1 : decide ((a0.size : Int) ≤ 3) = true := decide_eq_true c37
                              clear c37
                              by_cases c38 : a0.size + ((⟨#[110, 97, 114]⟩ : ByteArray).extract ((a0.size : Int) : Int).toNat (⟨#[110, 97, 114]⟩ : ByteArray).size).size ≤ 9223372036854775807
                              · rw [if_pos c38] at H
                                have c38b0 := eq_true c38
                                have c38b1 : decide (a0.size + ((⟨#[110, 97, 114]⟩ : ByteArray).extract ((a0.size : Int) : Int).toNat (⟨#[110, 97, 114]⟩ : ByteArray).size).size ≤ 9223372036854775807) = true := decide_eq_true c38
                                try have c38b2 : (9223372036854775807 < a0.size + ((⟨#[110, 97, 114]⟩ : ByteArray).extract ((a0.size : Int) : Int).toNat (⟨#[110, 97, 114]⟩ : ByteArray).size).size) = False := eq_false (Nat.not_lt.2 c38)
                                replace H := Option.bind_eq_some_iff.mp H
                                obtain ⟨⟨t219, t220, t221, t222, t223⟩, A390, H⟩ := H
                                replace H : (if t203 = true then (if t223.isNone = true then (some true) else (some false)) else (some false)) = some r := H
                                have A39 := Aside0.mk A390
                                clear A390
                                by_cases c40 : t203 = true
                                · subst c40
                                  have H1 : (if t223.isNone = true then (some true) else (some false)) = some r := by rw [if_pos rfl] at H; exact H
                                  clear H
                                  have H := H1
                                  clear H1
                                  rcases t223 with _ | q225
                                  · have H1 : (some true) = some r := by rw [if_pos (show (none : Option Int).isNone = true by rfl)] at H; exact H
                                    clear H
                                    have H := H1
                                    clear H1
                                    try simp only [errW_none, errW_some]
                                    clear HRT
                                    obtain rfl := Option.some.inj H
                                    go_wp2_with (first | ((with_reducible refine gate_callee (f := 26) rfl ?_); refine goesL_ (some 87) rfl rfl Tryd.func26 (by kernel_rfl) rfl #[.string (a0 ++ ((⟨#[110, 97, 114]⟩ : ByteArray).extract ((a0.size : Int) : Int).toNat (⟨#[110, 97, 114]⟩ : ByteArray).size))] rfl (by (try simp only [List.map_toArray, List.map_cons, List.map_nil]); first | done | rfl | (simp only [List.length_drop, List.length_take]; rfl)) ?_; (with_reducible refine (scan_Scan.calls (a0 ++ ((⟨#[110, 97, 114]⟩ : ByteArray).extract ((a0.size : Int) : Int).toNat (⟨#[110, 97, 114]⟩ : ByteArray).size)) t219 t220 t221 t222 none _ A39.out).mono ?_); rintro e w41 ⟨rfl, hb⟩; refine ⟨_, rfl, ?_⟩; have n0_ := Aside0.mk (blk_below (g := gb209) (o := .cells #[.bool t204, .bool t205, .string t206, .int .i64 t207] 43 (0, 0)) (by (with_reducible repeat (first | refine blk_drewN ?_ _ | refine blk_drew ?_ | refine blk_alloc ?_ _)); exact BK209.out) hb); have n1_ := Aside0.mk (below_step (by repeat (first | (with_reducible first | exact HB.out | apply below_alloc | apply pw_below_drewN | apply below_drew1 | refine below_set ?_ GE209.out) | exact HB.out)) hb); clear BK209; clear HB; have BK209 := n0_; have HB := n1_; clear n0_ n1_; (try clear hb); (try clear hb2); (try clear hk); (try clear hi); (try simp only [errW_none, errW_some])) | ((with_reducible refine gate_dst (N := 15) rfl ?_); (try (refine gate_guard (by rfl) ?_; dsimp only)); refine box_event ?hg (N := 15) ?hd (cs := #[.bool false, .bool false, .string (⟨#[]⟩ : ByteArray), .int .i64 0]) (t := 43) ?hr ?_; (case hd => rfl); (case hg => rfl); (case hr => first | (go_simp; done) | (go_simp; rfl)); intro gb224 hg w42 hbox hb; have n0_ := Aside0.mk (blk_below (g := gb209) (o := .cells #[.bool t204, .bool t205, .string t206, .int .i64 t207] 43 (0, 0)) (by (with_reducible repeat (first | refine blk_drewN ?_ _ | refine blk_drew ?_ | refine blk_alloc ?_ _)); exact BK209.out) hb); have n1_ := Aside0.mk (below_step (by repeat (first | (with_reducible first | exact HB.out | apply below_alloc | apply pw_below_drewN | apply below_drew1 | refine below_set ?_ GE209.out) | exact HB.out)) hb); have n2_ := Aside0.mk (hbox); have n3_ := Aside0.mk ((by rw [hg]; exact (below_size (by repeat (first | (with_reducible first | exact HB.out | apply below_alloc | apply pw_below_drewN | apply below_drew1 | refine below_set ?_ GE209.out) | exact HB.out))) : w.heap.size ≤ gb224)); have n4_ := Aside0.mk ((by rw [hg]; exact (below_size (by repeat (first | (with_reducible first | exact HB.out | apply below_alloc | apply pw_below_drewN | apply below_drew1 | refine below_set ?_ GE209.out) | exact HB.out))) : w.heap.size ≤ gb224)); have n5_ := Aside0.mk ((by rw [hg]; exact Nat.ne_of_lt (blk_lt (g := gb209) (o := .cells #[.bool t204, .bool t205, .string t206, .int .i64 t207] 43 (0, 0)) (by (with_reducible repeat (first | refine blk_drewN ?_ _ | refine blk_drew ?_ | refine blk_alloc ?_ _)); exact BK209.out)) : gb209 ≠ gb224)); have n6_ := Aside0.mk ((by rw [hg]; exact Nat.ne_of_gt (blk_lt (g := gb209) (o := .cells #[.bool t204, .bool t205, .string t206, .int .i64 t207] 43 (0, 0)) (by (with_reducible repeat (first | refine blk_drewN ?_ _ | refine blk_drew ?_ | refine blk_alloc ?_ _)); exact BK209.out)) : gb224 ≠ gb209)); clear BK209; clear HB; have BK209 := n0_; have HB := n1_; have BK224 := n2_; have GW224 := n3_; have GE224 := n4_; have NB209_224 := n5_; have NB224_209 := n6_; clear n0_ n1_ n2_ n3_ n4_ n5_ n6_; clear hb hbox hg; have hnb43 := NB224_209.out; have hnc43 := NB209_224.out; have hcz44_0 : w42.cell? ⟨gb224, 0, none⟩ = some (.bool false) := (blk_cell BK224.out 0).trans rfl; have hcz44_1 : w42.cell? ⟨gb224, 1, none⟩ = some (.bool false) := (blk_cell BK224.out 1).trans rfl; have hcz44_2 : w42.cell? ⟨gb224, 2, none⟩ = some (.string (⟨#[]⟩ : ByteArray)) := (blk_cell BK224.out 2).trans rfl; have hcz44_3 : w42.cell? ⟨gb224, 3, none⟩ = some (.int .i64 0) := (blk_cell BK224.out 3).trans rfl; have hfz44_0 := blk_frozen BK224.out 0; have hfz44_1 := blk_frozen BK224.out 1; have hfz44_2 := blk_frozen BK224.out 2; have hfz44_3 := blk_frozen BK224.out 3))
                                    go_ret
                                    exact ⟨by first | rfl | (simp [errW_none, errW_some] <;> rfl) | (simp [*, errW_none, errW_some] <;> rfl), by repeat (first | (with_reducible first | exact HB.out | apply below_alloc | apply pw_below_drewN | apply below_drew1 | refine below_set ?_ GE209.out | refine below_set ?_ GE224.out) | exact HB.out)⟩
                                  · have H1 : (some false) = some r := by rw [if_neg (show ¬ (some q225).isNone = true by simp)] at H; exact H
                                    clear H
                                    have H := H1
                                    clear H1
                                    try simp only [errW_none, errW_some]
                                    exact absurd (Option.some.inj H) (by rw [HRT.out]; decide)
                                · replace c40 := Bool.eq_false_iff.mpr c40
                                  subst c40
                                  have H1 : (some false) = some r := by rw [if_neg (show ¬ (false = true) by decide)] at H; exact H
                                  clear H
                                  have H := H1
                                  clear H1
                                  exact absurd (Option.some.inj H) (by rw [HRT.out]; decide)
                              · rw [if_neg c38] at H
                                exact absurd H (by simp)
                            · rw [if_neg c37] at H
                              exact absurd H (by simp)
                          · rw [if_neg c36] at H
                            exact absurd H (by simp)
                      · replace c34 := Bool.eq_false_iff.mpr c34
                        subst c34
                        have H1 : (if a0.size + (⟨#[48]⟩ : ByteArray).size ≤ 9223372036854775807 then ((scan_Scan.f (a0 ++ (⟨#[48]⟩ : ByteArray))).bind fun bt226 => (if t203 = true then (if bt226.2.2.2.2.isNone = true then (some true) else (some false)) else (some false))) else (none)) = some r := by rw [if_neg (show ¬ (false = true) by decide)] at H; exact H
                        clear H
                        have H := H1
                        clear H1
                        by_cases c45 : a0.size + (⟨#[48]⟩ : ByteArray).size ≤ 9223372036854775807
                        · rw [if_pos c45] at H
                          have c45b0 := eq_true c45
                          have c45b1 : decide (a0.size + (⟨#[48]⟩ : ByteArray).size ≤ 9223372036854775807) = true := decide_eq_true c45
                          try have c45b2 : (9223372036854775807 < a0.size + (⟨#[48]⟩ : ByteArray).size) = False := eq_false (Nat.not_lt.2 c45)
                          replace H := Option.bind_eq_some_iff.mp H
                          obtain ⟨⟨t226, t227, t228, t229, t230⟩, A460, H⟩ := H
                          replace H : (if t203 = true then (if t230.isNone = true then (some true) else (some false)) else (some false)) = some r := H
                          have A46 := Aside0.mk A460
                          clear A460
                          by_cases c47 : t203 = true
                          · subst c47
                            have H1 : (if t230.isNone = true then (some true) else (some false)) = some r := by rw [if_pos rfl] at H; exact H
                            clear H
                            have H := H1
                            clear H1
                            rcases t230 with _ | q232
                            · have H1 : (some true) = some r := by rw [if_pos (show (none : Option Int).isNone = true by rfl)] at H; exact H
                              clear H
                              have H := H1
                              clear H1
                              try simp only [errW_none, errW_some]
                              clear HRT
                              obtain rfl := Option.some.inj H
                              go_wp2_with (first | ((with_reducible refine gate_callee (f := 26) rfl ?_); refine goesL_ (some 87) rfl rfl Tryd.func26 (by kernel_rfl) rfl #[.string (a0 ++ (⟨#[48]⟩ : ByteArray))] rfl (by (try simp only [List.map_toArray, List.map_cons, List.map_nil]); first | done | rfl | (simp only [List.length_drop, List.length_take]; rfl)) ?_; (with_reducible refine (scan_Scan.calls (a0 ++ (⟨#[48]⟩ : ByteArray)) t226 t227 t228 t229 none _ A46.out).mono ?_); rintro e w48 ⟨rfl, hb⟩; refine ⟨_, rfl, ?_⟩; have n0_ := Aside0.mk (blk_below (g := gb209) (o := .cells #[.bool t204, .bool t205, .string t206, .int .i64 t207] 43 (0, 0)) (by (with_reducible repeat (first | refine blk_drewN ?_ _ | refine blk_drew ?_ | refine blk_alloc ?_ _)); exact BK209.out) hb); have n1_ := Aside0.mk (below_step (by repeat (first | (with_reducible first | exact HB.out | apply below_alloc | apply pw_below_drewN | apply below_drew1 | refine below_set ?_ GE209.out) | exact HB.out)) hb); clear BK209; clear HB; have BK209 := n0_; have HB := n1_; clear n0_ n1_; (try clear hb); (try clear hb2); (try clear hk); (try clear hi); (try simp only [errW_none, errW_some])) | ((with_reducible refine gate_dst (N := 15) rfl ?_); (try (refine gate_guard (by rfl) ?_; dsimp only)); refine box_event ?hg (N := 15) ?hd (cs := #[.bool false, .bool false, .string (⟨#[]⟩ : ByteArray), .int .i64 0]) (t := 43) ?hr ?_; (case hd => rfl); (case hg => rfl); (case hr => first | (go_simp; done) | (go_simp; rfl)); intro gb231 hg w49 hbox hb; have n0_ := Aside0.mk (blk_below (g := gb209) (o := .cells #[.bool t204, .bool t205, .string t206, .int .i64 t207] 43 (0, 0)) (by (with_reducible repeat (first | refine blk_drewN ?_ _ | refine blk_drew ?_ | refine blk_alloc ?_ _)); exact BK209.out) hb); have n1_ := Aside0.mk (below_step (by repeat (first | (with_reducible first | exact HB.out | apply below_alloc | apply pw_below_drewN | apply below_drew1 | refine below_set ?_ GE209.out) | exact HB.out)) hb); have n2_ := Aside0.mk (hbox); have n3_ := Aside0.mk ((by rw [hg]; exact (below_size (by repeat (first | (with_reducible first | exact HB.out | apply below_alloc | apply pw_below_drewN | apply below_drew1 | refine below_set ?_ GE209.out) | exact HB.out))) : w.heap.size ≤ gb231)); have n4_ := Aside0.mk ((by rw [hg]; exact (below_size (by repeat (first | (with_reducible first | exact HB.out | apply below_alloc | apply pw_below_drewN | apply below_drew1 | refine below_set ?_ GE209.out) | exact HB.out))) : w.heap.size ≤ gb231)); have n5_ := Aside0.mk ((by rw [hg]; exact Nat.ne_of_lt (blk_lt (g := gb209) (o := .cells #[.bool t204, .bool t205, .string t206, .int .i64 t207] 43 (0, 0)) (by (with_reducible repeat (first | refine blk_drewN ?_ _ | refine blk_drew ?_ | refine blk_alloc ?_ _)); exact BK209.out)) : gb209 ≠ gb231)); have n6_ := Aside0.mk ((by rw [hg]; exact Nat.ne_of_gt (blk_lt (g := gb209) (o := .cells #[.bool t204, .bool t205, .string t206, .int .i64 t207] 43 (0, 0)) (by (with_reducible repeat (first | refine blk_drewN ?_ _ | refine blk_drew ?_ | refine blk_alloc ?_ _)); exact BK209.out)) : gb231 ≠ gb209)); clear BK209; clear HB; have BK209 := n0_; have HB := n1_; have BK231 := n2_; have GW231 := n3_; have GE231 := n4_; have NB209_231 := n5_; have NB231_209 := n6_; clear n0_ n1_ n2_ n3_ n4_ n5_ n6_; clear hb hbox hg; have hnb50 := NB231_209.out; have hnc50 := NB209_231.out; have hcz51_0 : w49.cell? ⟨gb231, 0, none⟩ = some (.bool false) := (blk_cell BK231.out 0).trans rfl; have hcz51_1 : w49.cell? ⟨gb231, 1, none⟩ = some (.bool false) := (blk_cell BK231.out 1).trans rfl; have hcz51_2 : w49.cell? ⟨gb231, 2, none⟩ = some (.string (⟨#[]⟩ : ByteArray)) := (blk_cell BK231.out 2).trans rfl; have hcz51_3 : w49.cell? ⟨gb231, 3, none⟩ = some (.int .i64 0) := (blk_cell BK231.out 3).trans rfl; have hfz51_0 := blk_frozen BK231.out 0; have hfz51_1 := blk_frozen BK231.out 1; have hfz51_2 := blk_frozen BK231.out 2; have hfz51_3 := blk_frozen BK231.out 3))
                              go_ret
                              exact ⟨by first | rfl | (simp [errW_none, errW_some] <;> rfl) | (simp [*, errW_none, errW_some] <;> rfl), by repeat (first | (with_reducible first | exact HB.out | apply below_alloc | apply pw_below_drewN | apply below_drew1 | refine below_set ?_ GE209.out | refine below_set ?_ GE231.out) | exact HB.out)⟩
                            · have H1 : (some false) = some r := by rw [if_neg (show ¬ (some q232).isNone = true by simp)] at H; exact H
                              clear H
                              have H := H1
                              clear H1
                              try simp only [errW_none, errW_some]
                              exact absurd (Option.some.inj H) (by rw [HRT.out]; decide)
                          · replace c47 := Bool.eq_false_iff.mpr c47
                            subst c47
                            have H1 : (some false) = some r := by rw [if_neg (show ¬ (false = true) by decide)] at H; exact H
                            clear H
                            have H := H1
                            clear H1
                            exact absurd (Option.some.inj H) (by rw [HRT.out]; decide)
                        · rw [if_neg c45] at H
                          exact absurd H (by simp)
              · replace c14 := Bool.eq_false_iff.mpr c14
                subst c14
                have H1 : (vernierlaw18_ScanGrows.l0 k2 a0 a1 t203 t208 (wrap64 (x8_2 + 1))) = some r := by rw [if_neg (show ¬ (false = true) by decide)] at H; exact H
                clear H
                have H := H1
                clear H1
                have H' := Aside0.mk H
                clear H
                have CA13 := fun W => vernierlaw00_Is.calls t208 0 x8_2 14 false W A13.out
                try simp only [errW_none, errW_some] at CA13
                go_wp2_with (first | (go_at_call 27; (with_reducible refine (CA13 _).mono ?_); rintro e w52 ⟨rfl, hb⟩; have n0_ := Aside0.mk (blk_below (g := gb209) (o := .cells #[.bool t204, .bool t205, .string t206, .int .i64 t207] 43 (0, 0)) (by (with_reducible repeat (first | refine blk_drewN ?_ _ | refine blk_drew ?_ | refine blk_alloc ?_ _)); exact BK209.out) hb); have n1_ := Aside0.mk (below_step (by repeat (first | (with_reducible first | exact HB.out | apply below_alloc | apply pw_below_drewN | apply below_drew1 | refine below_set ?_ GE209.out) | exact HB.out)) hb); clear BK209; clear HB; have BK209 := n0_; have HB := n1_; clear n0_ n1_; (try clear hb); (try clear hb2); (try clear hk); (try clear hi)))
                go_roundg k2
                case measure => have := HJ4.out; have := HK2.out; omega
                case rel => exact ⟨(wrap64 (x8_2 + 1)), (by first | rfl | (simp; done) | (simp [*]; done)), H', ⟨by have := HJ4.out; have := HK2.out; omega⟩, ⟨by (with_reducible repeat (first | refine blk_drewN ?_ _ | refine blk_drew ?_ | refine blk_alloc ?_ _)); exact BK209.out⟩, ⟨by repeat (first | (with_reducible first | exact HB.out | apply below_alloc | apply pw_below_drewN | apply below_drew1 | refine below_set ?_ GE209.out) | exact HB.out)⟩⟩
            · rw [if_neg c12] at H
              have c12b0 : decide (x8_2 ≤ (a0.size : Int)) = false := decide_eq_false c12
              clear c12
              exact absurd (Option.some.inj H) (by rw [HRT.out]; decide)
end Go.Proofs.YthhkmpicpihjlaaDoor.PSc
