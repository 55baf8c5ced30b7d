/- PScx5: the part that this claim needs. -/
import Derived.Test.YthhkmpicpihjlaaGreatDoorQUPScx0
import Derived.Test.YthhkmpicpihjlaaGreatDoorQUPScx3
import Derived.Test.YthhkmpicpihjlaaGreatDoorQUPScx4
namespace Go.Proofs.YthhkmpicpihjlaaGreatDoor.PSc
open Go.RowKit Go.Proofs.YthhkmpicpihjlaaGreatDoorW.PrintWords Go.Proofs.YthhkmpicpihjlaaGreatDoorW.PrintLast Go.Proofs.YthhkmpicpihjlaaGreatDoorW.PrintMore
open Go.Proofs.YthhkmpicpihjlaaGreatDoor.M
attribute [local go_sem] runx_add64 runx_sub64 eql_cc eql_nc neq_cc neq_nc
attribute [local go_sem] max2_int min2_int max_two min_two max_three min_three max_four min_four   -- for this text's walks alone
set_option linter.unusedVariables false
set_option linter.unusedSimpArgs false
mutual
def vernierref18_Scan.j0 : Nat → ByteArray → Bool → Option (Bool × Bool × ByteArray × Int × Int × Int)
  | 0, _, _ => none
  | k + 1, x0, x25 => if x25 = true then ((vernierref18_word.f k x0).bind fun bt122 => (some (bt122.1, bt122.2.1, bt122.2.2.1, bt122.2.2.2.1, bt122.2.2.2.2.1, bt122.2.2.2.2.2))) else ((vernierref18_isOne.f x0 0 43 45).bind fun t128 => (if t128 = true then (vernierref18_Scan.j1 k x0 1) else (vernierref18_Scan.j1 k x0 0)))
def vernierref18_Scan.j1 : Nat → ByteArray → Int → Option (Bool × Bool × ByteArray × Int × Int × Int)
  | 0, _, _ => none
  | k + 1, x0, x5 => (vernierref18_over.f k x0 x5).bind fun t129 => (if t129 = x5 then (some (false, false, (⟨#[]⟩ : ByteArray), 0, 14, t129)) else (if 0 ≤ x5 then (if x5 ≤ t129 then (if t129 ≤ (x0.size : Int) then ((vernierref18_isOne.f x0 t129 46 46).bind fun t130 => (if t130 = true then ((vernierref18_over.f k x0 (wrap64 (t129 + 1))).bind fun t131 => (if t131 = (wrap64 (t129 + 1)) then (some (false, false, (⟨#[]⟩ : ByteArray), 0, 14, t131)) else (if 0 ≤ (wrap64 (t129 + 1)) then (if (wrap64 (t129 + 1)) ≤ t131 then (if t131 ≤ (x0.size : Int) then (if (x0.extract (x5 : Int).toNat (t129 : Int).toNat).size + (x0.extract ((wrap64 (t129 + 1)) : Int).toNat (t131 : Int).toNat).size ≤ 9223372036854775807 then (vernierref18_Scan.j2 k x0 t131 ((x0.extract (x5 : Int).toNat (t129 : Int).toNat) ++ (x0.extract ((wrap64 (t129 + 1)) : Int).toNat (t131 : Int).toNat)) (wrap64 ((wrap64 (t131 - t129)) - 1))) else (none)) else (none)) else (none)) else (none)))) else (vernierref18_Scan.j2 k x0 t129 (x0.extract (x5 : Int).toNat (t129 : Int).toNat) 0))) else (none)) else (none)) else (none)))
def vernierref18_Scan.j2 : Nat → ByteArray → Int → ByteArray → Int → Option (Bool × Bool × ByteArray × Int × Int × Int)
  | 0, _, _, _, _ => none
  | k + 1, x0, x6, x7, x8 => (vernierref18_isOne.f x0 x6 101 69).bind fun t132 => (if t132 = true then ((vernierref18_isOne.f x0 (wrap64 (x6 + 1)) 43 45).bind fun t133 => (if t133 = true then (vernierref18_Scan.j3 k x0 x6 x7 x8 (wrap64 ((wrap64 (x6 + 1)) + 1))) else (vernierref18_Scan.j3 k x0 x6 x7 x8 (wrap64 (x6 + 1))))) else (vernierref18_Scan.j4 k x0 x6 x7 x8 0))
def vernierref18_Scan.j4 : Nat → ByteArray → Int → ByteArray → Int → Int → Option (Bool × Bool × ByteArray × Int × Int × Int)
  | 0, _, _, _, _, _ => none
  | k + 1, x0, x6, x7, x8, x10 => if x6 < (x0.size : Int) then (some (false, false, (⟨#[]⟩ : ByteArray), 0, 14, x6)) else (if 0 < (x0.size : Int) then ((vernierref18_held.f (wrap64 (x10 - x8))).bind fun t136 => ((vernierref18_Normed.f k false ((bt x0 0) == 45) x7 t136).bind fun bt138 => (some (bt138.1, bt138.2.1, bt138.2.2.1, bt138.2.2.2, 0, 0)))) else (none))
def vernierref18_Scan.j3 : Nat → ByteArray → Int → ByteArray → Int → Int → Option (Bool × Bool × ByteArray × Int × Int × Int)
  | 0, _, _, _, _, _ => none
  | k + 1, x0, x6, x7, x8, x11 => (vernierref18_over.f k x0 x11).bind fun t134 => (if t134 = x11 then (some (false, false, (⟨#[]⟩ : ByteArray), 0, 14, t134)) else (if 0 ≤ x11 then (if x11 ≤ t134 then (if t134 ≤ (x0.size : Int) then ((vernierref18_power.f k (x0.extract (x11 : Int).toNat (t134 : Int).toNat)).bind fun t135 => (if 0 ≤ (wrap64 (x6 + 1)) then (if (wrap64 (x6 + 1)) < (x0.size : Int) then (if (bt x0 (wrap64 (x6 + 1))) = 45 then (vernierref18_Scan.j4 k x0 t134 x7 x8 (wrap64 (-t135))) else (vernierref18_Scan.j4 k x0 t134 x7 x8 t135)) else (none)) else (none))) else (none)) else (none)) else (none)))
end
def vernierref18_Scan.f (k : Nat) (a0 : ByteArray) : Option (Bool × Bool × ByteArray × Int × Int × Int) := if (a0.size : Int) > 4096 then (some (false, false, (⟨#[]⟩ : ByteArray), 0, 13, 0)) else (if (a0.size : Int) > 0 then (if 0 < (a0.size : Int) then (vernierref18_Scan.j0 k a0 ((bt a0 0) == 110)) else (none)) else (vernierref18_Scan.j0 k a0 false))
def vernierref18_Scan.T34 : Bool × List (List Nat × List Nat) := (true, [([], []), ([0], [0]), ([1], [1]), ([], []), ([], []), ([], []), ([4, 5], [4, 5]), ([6], [6]), ([2, 3, 7], [2, 3, 7]), ([], []), ([9, 8, 7, 0, 1, 2, 3, 4, 5, 6, 7, 8, 9], [8, 9])])
def vernierref18_Scan.B34 : List Nat := [0, 1, 3, 0, 0, 0, 48, 112, 255, 0, 1023]
theorem vernierref18_Scan.tab34 : rtab .any (opsOf Tryz.f13 34) = vernierref18_Scan.T34 := by kernel_rfl
theorem vernierref18_Scan.bits34 : waitsOk vernierref18_Scan.T34.2 vernierref18_Scan.B34 = true := by kernel_rfl
set_option maxHeartbeats 8000000 in
set_option maxRecDepth 100000 in
theorem vernierref18_Scan.calls (k : Nat) (a0 : ByteArray) (r1 : Bool) (r2 : Bool) (r3 : ByteArray) (r4 : Int) (r5 : Int) (r6 : Int) (w : World) (h : vernierref18_Scan.f k a0 = some (r1, r2, r3, r4, r5, r6)) :
    Calls Tryz.prog 13 #[.string a0] w fun e w' => e = .returned (.tuple #[.agg #[.bool r1, .bool r2, .string r3, .int .i64 r4], .int .i64 r5, .int .i64 r6]) ∧ Below w.heap.size w w' := by
  have hu36 := Tryz.underlying36
  have HB := Aside0.mk (Below.refl w.heap.size w)
  have H : (if (a0.size : Int) > 4096 then (some (false, false, (⟨#[]⟩ : ByteArray), 0, 13, 0)) else (if (a0.size : Int) > 0 then (if 0 < (a0.size : Int) then (vernierref18_Scan.j0 k a0 ((bt a0 0) == 110)) else (none)) else (vernierref18_Scan.j0 k a0 false))) = some (r1, r2, r3, r4, r5, r6) := h
  clear h
  by_cases c2 : (a0.size : Int) > 4096
  · rw [if_pos c2] at H
    have c2b0 : decide (4096 < (a0.size : Int)) = true := decide_eq_true c2
    have c2b1 : decide (4096 < a0.size) = true := decide_eq_true (by omega)
    clear c2
    simp only [Option.some.injEq, Prod.mk.injEq] at H
    obtain ⟨rfl, rfl, rfl, rfl, rfl, rfl⟩ := H
    go_enter Tryz.func13, Tryz.ntmps13
    go_wp2_with (first | ((with_reducible refine gate_dst (N := 2) rfl ?_); refine box_event ?hg (N := 2) ?hd (cs := #[.bool false, .bool false, .string (⟨#[]⟩ : ByteArray), .int .i64 0]) (t := 36) ?hr ?_; (case hd => rfl); (case hg => rfl); (case hr => first | (go_simp; done) | (go_simp; rfl)); intro gb121 hg w3 hbox hb; have n0_ := Aside0.mk (below_step (by repeat (first | (with_reducible first | exact HB.out | apply below_alloc | apply pw_below_drewN | apply below_drew1) | exact HB.out)) hb); have n1_ := Aside0.mk (hbox); have n2_ := Aside0.mk ((by rw [hg]; exact (below_size (by repeat (first | (with_reducible first | exact HB.out | apply below_alloc | apply pw_below_drewN | apply below_drew1) | exact HB.out))) : w.heap.size ≤ gb121)); have n3_ := Aside0.mk ((by rw [hg]; exact (below_size (by repeat (first | (with_reducible first | exact HB.out | apply below_alloc | apply pw_below_drewN | apply below_drew1) | exact HB.out))) : w.heap.size ≤ gb121)); clear HB; have HB := n0_; have BK121 := n1_; have GW121 := n2_; have GE121 := n3_; clear n0_ n1_ n2_ n3_; clear hb hbox hg; have hcz4_0 : w3.cell? ⟨gb121, 0, none⟩ = some (.bool false) := (blk_cell BK121.out 0).trans rfl; have hcz4_1 : w3.cell? ⟨gb121, 1, none⟩ = some (.bool false) := (blk_cell BK121.out 1).trans rfl; have hcz4_2 : w3.cell? ⟨gb121, 2, none⟩ = some (.string (⟨#[]⟩ : ByteArray)) := (blk_cell BK121.out 2).trans rfl; have hcz4_3 : w3.cell? ⟨gb121, 3, none⟩ = some (.int .i64 0) := (blk_cell BK121.out 3).trans rfl; have hfz4_0 := blk_frozen BK121.out 0; have hfz4_1 := blk_frozen BK121.out 1; have hfz4_2 := blk_frozen BK121.out 2; have hfz4_3 := blk_frozen BK121.out 3))
    refine bodyPost_ret (results_ctt rfl _ _ gb121 36 #[.bool false, .bool false, .string (⟨#[]⟩ : ByteArray), .int .i64 0] (0, 0) _ rfl (by (with_reducible repeat (first | refine blk_drewN ?_ _ | refine blk_drew ?_ | refine blk_alloc ?_ _)); refine blk_put (cs := #[.bool false, .bool false, .string (⟨#[]⟩ : ByteArray), .int .i64 0]) ?_ 3 _ rfl; (with_reducible repeat (first | refine blk_drewN ?_ _ | refine blk_drew ?_ | refine blk_alloc ?_ _)); refine blk_put (cs := #[.bool false, .bool false, .string (⟨#[]⟩ : ByteArray), .int .i64 0]) ?_ 2 _ rfl; (with_reducible repeat (first | refine blk_drewN ?_ _ | refine blk_drew ?_ | refine blk_alloc ?_ _)); refine blk_put (cs := #[.bool false, .bool false, .string (⟨#[]⟩ : ByteArray), .int .i64 0]) ?_ 1 _ rfl; (with_reducible repeat (first | refine blk_drewN ?_ _ | refine blk_drew ?_ | refine blk_alloc ?_ _)); refine blk_put (cs := #[.bool false, .bool false, .string (⟨#[]⟩ : ByteArray), .int .i64 0]) ?_ 0 _ rfl; (with_reducible repeat (first | refine blk_drewN ?_ _ | refine blk_drew ?_ | refine blk_alloc ?_ _)); exact BK121.out) Tryz.underlying36 rfl (by kernel_rfl)) rfl ?_
    exact ⟨by first | rfl | (simp [errW_none, errW_some] <;> rfl) | (simp [*, errW_none, errW_some] <;> rfl), by repeat (first | (with_reducible first | exact HB.out | apply below_alloc | apply pw_below_drewN | apply below_drew1 | refine below_set ?_ GE121.out) | exact HB.out)⟩
  · rw [if_neg c2] at H
    have c2b0 : decide (4096 < (a0.size : Int)) = false := decide_eq_false c2
    have c2b1 : decide (4096 < a0.size) = false := decide_eq_false (by omega)
    clear c2
    have HC5 := Aside0.mk H
    clear H
    go_enter Tryz.func13, Tryz.ntmps13
    go_upto_region 3 with (first | ((with_reducible refine gate_dst (N := 2) rfl ?_); refine box_event ?hg (N := 2) ?hd (cs := #[.bool false, .bool false, .string (⟨#[]⟩ : ByteArray), .int .i64 0]) (t := 36) ?hr ?_; (case hd => rfl); (case hg => rfl); (case hr => first | (go_simp; done) | (go_simp; rfl)); intro gb121 hg w6 hbox hb; have n0_ := Aside0.mk (below_step (by repeat (first | (with_reducible first | exact HB.out | apply below_alloc | apply pw_below_drewN | apply below_drew1) | exact HB.out)) hb); have n1_ := Aside0.mk (hbox); have n2_ := Aside0.mk ((by rw [hg]; exact (below_size (by repeat (first | (with_reducible first | exact HB.out | apply below_alloc | apply pw_below_drewN | apply below_drew1) | exact HB.out))) : w.heap.size ≤ gb121)); have n3_ := Aside0.mk ((by rw [hg]; exact (below_size (by repeat (first | (with_reducible first | exact HB.out | apply below_alloc | apply pw_below_drewN | apply below_drew1) | exact HB.out))) : w.heap.size ≤ gb121)); clear HB; have HB := n0_; have BK121 := n1_; have GW121 := n2_; have GE121 := n3_; clear n0_ n1_ n2_ n3_; clear hb hbox hg))
    (try simp only [Act.put, List.setIfInBounds_toArray, List.set_cons_zero, List.set_cons_succ])
    go_cut [25] (fun v25 wc => ∃ (kq : Nat) (x25_4 : Bool), v25 = .bool x25_4 ∧ Aside0 (vernierref18_Scan.j0 kq a0 x25_4 = some (r1, r2, r3, r4, r5, r6)) ∧ Aside0 (kq ≤ k) ∧ Aside0 (wc.heap[gb121]? = some (.cells #[.bool false, .bool false, .string (⟨#[]⟩ : ByteArray), .int .i64 0] 36 (0, 0))) ∧ Aside0 (Below w.heap.size w wc))
    case first =>
      have H := HC5.out
      clear HC5
      by_cases c7 : (a0.size : Int) > 0
      · rw [if_pos c7] at H
        have c7b0 : decide (0 < (a0.size : Int)) = true := decide_eq_true c7
        have c7b1 : decide (0 < a0.size) = true := decide_eq_true (by omega)
        clear c7
        (first | rw [c7b0] | (simp only [i64_w, i32_w]; rw [c7b0]) | rw [c7b1] | rw [List.isEmpty_iff.mpr (beq_iff_eq.mp c7b0)] | rw [List.isEmpty_eq_false_iff.mpr (beq_eq_false_iff_ne.mp c7b0)] | skip)
        by_cases c8 : 0 < (a0.size : Int)
        · rw [if_pos c8] at H
          have c8b0 : decide (0 < (a0.size : Int)) = true := decide_eq_true c8
          have c8b1 : decide (0 < a0.size) = true := decide_eq_true (by omega)
          clear c8
          have H' := Aside0.mk H
          clear H
          have p9 : 0 ≤ (0 : Int) := (by omega)
          have q9 : 0 < a0.size := (by have : (0 : Int) < (a0.size : Int) := of_decide_eq_true (by first | (with_reducible assumption) | assumption); omega)
          have hx9 : ∀ h : 0 < a0.size, ((a0[0]'h).toNat : Int) = bt a0 0 := bt_at a0 0
          clear p9
          have qi9 : (0 < (a0.size : Int)) = True := eq_true (of_decide_eq_true (by first | (with_reducible assumption) | assumption))
          replace q9 := eq_true q9
          go_wp2
          go_meet
          case rel => exact ⟨_, (((bt a0 0) == 110)), (by first | rfl | (simp; done) | (simp [*]; done)), H', ⟨by first | omega | exact Nat.le_refl _⟩, ⟨by (with_reducible repeat (first | refine blk_drewN ?_ _ | refine blk_drew ?_ | refine blk_alloc ?_ _)); exact BK121.out⟩, ⟨by repeat (first | (with_reducible first | exact HB.out | apply below_alloc | apply pw_below_drewN | apply below_drew1 | refine below_set ?_ GE121.out) | exact HB.out)⟩⟩
        · rw [if_neg c8] at H
          exact absurd H (by simp)
      · rw [if_neg c7] at H
        have c7b0 : decide (0 < (a0.size : Int)) = false := decide_eq_false c7
        have c7b1 : decide (0 < a0.size) = false := decide_eq_false (by omega)
        clear c7
        (first | rw [c7b0] | (simp only [i64_w, i32_w]; rw [c7b0]) | rw [c7b1] | rw [List.isEmpty_iff.mpr (beq_iff_eq.mp c7b0)] | rw [List.isEmpty_eq_false_iff.mpr (beq_eq_false_iff_ne.mp c7b0)] | skip)
        have H' := Aside0.mk H
        clear H
        go_wp2
        go_meet
        case rel => exact ⟨_, (false), (by first | rfl | (simp; done) | (simp [*]; done)), H', ⟨by first | omega | exact Nat.le_refl _⟩, ⟨by (with_reducible repeat (first | refine blk_drewN ?_ _ | refine blk_drew ?_ | refine blk_alloc ?_ _)); exact BK121.out⟩, ⟨by repeat (first | (with_reducible first | exact HB.out | apply below_alloc | apply pw_below_drewN | apply below_drew1 | refine below_set ?_ GE121.out) | exact HB.out)⟩⟩
    case rest =>
      clear HC5
      try clear c1
      try clear c2
      try clear c2b0
      try clear c2b1
      try clear p2
      try clear c7
      try clear c7b0
      try clear c7b1
      try clear c8
      try clear c8b0
      try clear c8b1
      try clear p9
      try clear q9
      try clear hx9
      try clear qi9
      try clear hcz4_0
      try clear hcz4_1
      try clear hcz4_2
      try clear hcz4_3
      try clear hfz4_0
      try clear hfz4_1
      try clear hfz4_2
      try clear hfz4_3
      try clear p9
      try clear q9
      obtain ⟨kq, x25_4, rfl, HA, HJ4, BK121, HB⟩ := hcut
      cases kq with
      | zero => exact absurd HA.out (by simp [vernierref18_Scan.j0])
      | succ kj4 =>
        have H := HA.out
        clear HA
        simp only [vernierref18_Scan.j0] at H
        by_cases c10 : x25_4 = true
        · subst c10
          have H1 : ((vernierref18_word.f kj4 a0).bind fun bt122 => (some (bt122.1, bt122.2.1, bt122.2.2.1, bt122.2.2.2.1, bt122.2.2.2.2.1, bt122.2.2.2.2.2))) = some (r1, r2, r3, r4, r5, r6) := by rw [if_pos rfl] at H; exact H
          clear H
          have H := H1
          clear H1
          replace H := Option.bind_eq_some_iff.mp H
          obtain ⟨⟨t122, t123, t124, t125, t126, t127⟩, A110, H⟩ := H
          replace H : (some (t122, t123, t124, t125, t126, t127)) = some (r1, r2, r3, r4, r5, r6) := H
          have A11 := Aside0.mk A110
          clear A110
          simp only [Option.some.injEq, Prod.mk.injEq] at H
          obtain ⟨rfl, rfl, rfl, rfl, rfl, rfl⟩ := H
          go_wp2_with (first | ((with_reducible refine gate_callee (f := 39) rfl ?_); refine goesL_ (some 27) rfl rfl Tryz.func39 (by kernel_rfl) rfl #[.string a0] rfl (by (try simp only [List.map_toArray, List.map_cons, List.map_nil]); first | done | rfl | (simp only [List.length_drop, List.length_take]; rfl)) ?_; (with_reducible refine (vernierref18_word.calls kj4 a0 t122 t123 t124 t125 t126 t127 _ A11.out).mono ?_); rintro e w12 ⟨rfl, hb⟩; refine ⟨_, rfl, ?_⟩; have n0_ := Aside0.mk (blk_below (g := gb121) (o := .cells #[.bool false, .bool false, .string (⟨#[]⟩ : ByteArray), .int .i64 0] 36 (0, 0)) (by (with_reducible repeat (first | refine blk_drewN ?_ _ | refine blk_drew ?_ | refine blk_alloc ?_ _)); exact BK121.out) hb); have n1_ := Aside0.mk (below_step (by repeat (first | (with_reducible first | exact HB.out | apply below_alloc | apply pw_below_drewN | apply below_drew1 | refine below_set ?_ GE121.out) | exact HB.out)) hb); clear BK121; clear HB; have BK121 := n0_; have HB := n1_; clear n0_ n1_; (try clear hb); (try clear hb2); (try clear hk); (try clear hi); have hcz13_0 : w12.cell? ⟨gb121, 0, none⟩ = some (.bool false) := (blk_cell BK121.out 0).trans rfl; have hcz13_1 : w12.cell? ⟨gb121, 1, none⟩ = some (.bool false) := (blk_cell BK121.out 1).trans rfl; have hcz13_2 : w12.cell? ⟨gb121, 2, none⟩ = some (.string (⟨#[]⟩ : ByteArray)) := (blk_cell BK121.out 2).trans rfl; have hcz13_3 : w12.cell? ⟨gb121, 3, none⟩ = some (.int .i64 0) := (blk_cell BK121.out 3).trans rfl; have hfz13_0 := blk_frozen BK121.out 0; have hfz13_1 := blk_frozen BK121.out 1; have hfz13_2 := blk_frozen BK121.out 2; have hfz13_3 := blk_frozen BK121.out 3))
          refine bodyPost_ret (results_ctt rfl _ _ gb121 36 #[.bool t122, .bool t123, .string t124, .int .i64 t125] (0, 0) _ rfl (by (with_reducible repeat (first | refine blk_drewN ?_ _ | refine blk_drew ?_ | refine blk_alloc ?_ _)); refine blk_put (cs := #[.bool t122, .bool t123, .string t124, .int .i64 0]) ?_ 3 _ rfl; (with_reducible repeat (first | refine blk_drewN ?_ _ | refine blk_drew ?_ | refine blk_alloc ?_ _)); refine blk_put (cs := #[.bool t122, .bool t123, .string (⟨#[]⟩ : ByteArray), .int .i64 0]) ?_ 2 _ rfl; (with_reducible repeat (first | refine blk_drewN ?_ _ | refine blk_drew ?_ | refine blk_alloc ?_ _)); refine blk_put (cs := #[.bool t122, .bool false, .string (⟨#[]⟩ : ByteArray), .int .i64 0]) ?_ 1 _ rfl; (with_reducible repeat (first | refine blk_drewN ?_ _ | refine blk_drew ?_ | refine blk_alloc ?_ _)); refine blk_put (cs := #[.bool false, .bool false, .string (⟨#[]⟩ : ByteArray), .int .i64 0]) ?_ 0 _ rfl; (with_reducible repeat (first | refine blk_drewN ?_ _ | refine blk_drew ?_ | refine blk_alloc ?_ _)); exact BK121.out) Tryz.underlying36 rfl (by kernel_rfl)) rfl ?_
          exact ⟨by first | rfl | (simp [errW_none, errW_some] <;> rfl) | (simp [*, errW_none, errW_some] <;> rfl), by repeat (first | (with_reducible first | exact HB.out | apply below_alloc | apply pw_below_drewN | apply below_drew1 | refine below_set ?_ GE121.out) | exact HB.out)⟩
        · replace c10 := Bool.eq_false_iff.mpr c10
          subst c10
          have H1 : ((vernierref18_isOne.f a0 0 43 45).bind fun t128 => (if t128 = true then (vernierref18_Scan.j1 kj4 a0 1) else (vernierref18_Scan.j1 kj4 a0 0))) = some (r1, r2, r3, r4, r5, r6) := by rw [if_neg (show ¬ (false = true) by decide)] at H; exact H
          clear H
          have H := H1
          clear H1
          replace H := Option.bind_eq_some_iff.mp H
          obtain ⟨t128, A140, H⟩ := H
          replace H : (if t128 = true then (vernierref18_Scan.j1 kj4 a0 1) else (vernierref18_Scan.j1 kj4 a0 0)) = some (r1, r2, r3, r4, r5, r6) := H
          have A14 := Aside0.mk A140
          clear A140
          have HC15 := Aside0.mk H
          clear H
          go_upto_if 32 with (first | ((with_reducible refine gate_callee (f := 40) rfl ?_); refine goesL_ (some 32) rfl rfl Tryz.func40 (by kernel_rfl) rfl #[.string a0, .int .i64 0, .int .u8 43, .int .u8 45] rfl (by (try simp only [List.map_toArray, List.map_cons, List.map_nil]); first | done | rfl | (simp only [List.length_drop, List.length_take]; rfl)) ?_; (with_reducible refine (vernierref18_isOne.calls a0 0 43 45 t128 _ A14.out).mono ?_); rintro e w' ⟨rfl, ⟨nd, rfl⟩⟩; refine ⟨_, rfl, ?_⟩))
          (try simp only [Act.put, List.setIfInBounds_toArray, List.set_cons_zero, List.set_cons_succ])
          go_cut [5] (fun v5 wc => ∃ (kq : Nat) (x5_14 : Int), v5 = .int .i64 x5_14 ∧ Aside0 (vernierref18_Scan.j1 kq a0 x5_14 = some (r1, r2, r3, r4, r5, r6)) ∧ Aside0 (kq ≤ kj4) ∧ Aside0 (wc.heap[gb121]? = some (.cells #[.bool false, .bool false, .string (⟨#[]⟩ : ByteArray), .int .i64 0] 36 (0, 0))) ∧ Aside0 (Below w.heap.size w wc))
          case first =>
            have H := HC15.out
            clear HC15
            by_cases c16 : t128 = true
            · subst c16
              have H1 : (vernierref18_Scan.j1 kj4 a0 1) = some (r1, r2, r3, r4, r5, r6) := by rw [if_pos rfl] at H; exact H
              clear H
              have H := H1
              clear H1
              have H' := Aside0.mk H
              clear H
              go_wp2
              go_meet
              case rel => exact ⟨_, (1), (by first | rfl | (simp; done) | (simp [*]; done)), H', ⟨by have := HJ4.out; first | omega | exact Nat.le_refl _⟩, ⟨by (with_reducible repeat (first | refine blk_drewN ?_ _ | refine blk_drew ?_ | refine blk_alloc ?_ _)); exact BK121.out⟩, ⟨by repeat (first | (with_reducible first | exact HB.out | apply below_alloc | apply pw_below_drewN | apply below_drew1 | refine below_set ?_ GE121.out) | exact HB.out)⟩⟩
            · replace c16 := Bool.eq_false_iff.mpr c16
              subst c16
              have H1 : (vernierref18_Scan.j1 kj4 a0 0) = some (r1, r2, r3, r4, r5, r6) := by rw [if_neg (show ¬ (false = true) by decide)] at H; exact H
              clear H
              have H := H1
              clear H1
              have H' := Aside0.mk H
              clear H
              go_wp2
              go_meet
              case rel => exact ⟨_, (0), (by first | rfl | (simp; done) | (simp [*]; done)), H', ⟨by have := HJ4.out; first | omega | exact Nat.le_refl _⟩, ⟨by (with_reducible repeat (first | refine blk_drewN ?_ _ | refine blk_drew ?_ | refine blk_alloc ?_ _)); exact BK121.out⟩, ⟨by repeat (first | (with_reducible first | exact HB.out | apply below_alloc | apply pw_below_drewN | apply below_drew1 | refine below_set ?_ GE121.out) | exact HB.out)⟩⟩
          case rest =>
            clear HC15
            try clear c1
            try clear c2
            try clear c2b0
            try clear c2b1
            try clear p2
            try clear c3
            try clear c4
            try clear c7
            try clear c7b0
            try clear c7b1
            try clear c8
            try clear c8b0
            try clear c8b1
            try clear p9
            try clear q9
            try clear hx9
            try clear qi9
            try clear c10
            try clear c13
            try clear c16
            try clear hcz13_0
            try clear hcz13_1
            try clear hcz13_2
            try clear hcz13_3
            try clear hcz4_0
            try clear hcz4_1
            try clear hcz4_2
            try clear hcz4_3
            try clear hfz13_0
            try clear hfz13_1
            try clear hfz13_2
            try clear hfz13_3
            try clear hfz4_0
            try clear hfz4_1
            try clear hfz4_2
            try clear hfz4_3
            try clear p2
            try clear p9
            try clear q9
            obtain ⟨kq, x5_14, rfl, HA, HJ14, BK121, HB⟩ := hcut
            cases kq with
            | zero => exact absurd HA.out (by simp [vernierref18_Scan.j1])
            | succ kj14 =>
              have H := HA.out
              clear HA
              simp only [vernierref18_Scan.j1] at H
              replace H := Option.bind_eq_some_iff.mp H
              obtain ⟨t129, A170, H⟩ := H
              replace H : (if t129 = x5_14 then (some (false, false, (⟨#[]⟩ : ByteArray), 0, 14, t129)) else (if 0 ≤ x5_14 then (if x5_14 ≤ t129 then (if t129 ≤ (a0.size : Int) then ((vernierref18_isOne.f a0 t129 46 46).bind fun t130 => (if t130 = true then ((vernierref18_over.f kj14 a0 (wrap64 (t129 + 1))).bind fun t131 => (if t131 = (wrap64 (t129 + 1)) then (some (false, false, (⟨#[]⟩ : ByteArray), 0, 14, t131)) else (if 0 ≤ (wrap64 (t129 + 1)) then (if (wrap64 (t129 + 1)) ≤ t131 then (if t131 ≤ (a0.size : Int) then (if (a0.extract (x5_14 : Int).toNat (t129 : Int).toNat).size + (a0.extract ((wrap64 (t129 + 1)) : Int).toNat (t131 : Int).toNat).size ≤ 9223372036854775807 then (vernierref18_Scan.j2 kj14 a0 t131 ((a0.extract (x5_14 : Int).toNat (t129 : Int).toNat) ++ (a0.extract ((wrap64 (t129 + 1)) : Int).toNat (t131 : Int).toNat)) (wrap64 ((wrap64 (t131 - t129)) - 1))) else (none)) else (none)) else (none)) else (none)))) else (vernierref18_Scan.j2 kj14 a0 t129 (a0.extract (x5_14 : Int).toNat (t129 : Int).toNat) 0))) else (none)) else (none)) else (none))) = some (r1, r2, r3, r4, r5, r6) := H
              have A17 := Aside0.mk A170
              clear A170
              by_cases c18 : t129 = x5_14
              · rw [if_pos c18] at H
                have c18b0 : (t129 == x5_14) = true := beq_iff_eq.mpr c18
                have c18b1 : (t129 != x5_14) = false := bne_eq_false_iff_eq.mpr c18
                clear c18
                simp only [Option.some.injEq, Prod.mk.injEq] at H
                obtain ⟨rfl, rfl, rfl, rfl, rfl, rfl⟩ := H
                go_wp2_with (first | ((with_reducible refine gate_callee (f := 41) rfl ?_); refine goesL_ (some 35) rfl rfl Tryz.func41 (by kernel_rfl) rfl #[.string a0, .int .i64 x5_14] rfl (by (try simp only [List.map_toArray, List.map_cons, List.map_nil]); first | done | rfl | (simp only [List.length_drop, List.length_take]; rfl)) ?_; (with_reducible refine (vernierref18_over.calls kj14 a0 x5_14 t129 _ A17.out).mono ?_); rintro e w' ⟨rfl, ⟨nd, rfl⟩⟩; refine ⟨_, rfl, ?_⟩; (try (rw [drewN_self wc]; generalize hq_ : World.drewN wc _ = wc; have n0_ : Aside0 (wc.heap[gb121]? = some (.cells #[.bool false, .bool false, .string (⟨#[]⟩ : ByteArray), .int .i64 0] 36 (0, 0))) := ⟨by rw [← hq_]; exact (by (with_reducible repeat (first | refine blk_drewN ?_ _ | refine blk_drew ?_ | refine blk_alloc ?_ _)); exact BK121.out)⟩; have n1_ : Aside0 (Below w.heap.size w wc) := ⟨by rw [← hq_]; exact (by repeat (first | (with_reducible first | exact HB.out | apply below_alloc | apply pw_below_drewN | apply below_drew1 | refine below_set ?_ GE121.out) | exact HB.out))⟩; clear BK121 HB hq_; have BK121 := n0_; have HB := n1_; clear n0_ n1_)); have hcz19_0 : wc.cell? ⟨gb121, 0, none⟩ = some (.bool false) := (blk_cell BK121.out 0).trans rfl; have hcz19_1 : wc.cell? ⟨gb121, 1, none⟩ = some (.bool false) := (blk_cell BK121.out 1).trans rfl; have hcz19_2 : wc.cell? ⟨gb121, 2, none⟩ = some (.string (⟨#[]⟩ : ByteArray)) := (blk_cell BK121.out 2).trans rfl; have hcz19_3 : wc.cell? ⟨gb121, 3, none⟩ = some (.int .i64 0) := (blk_cell BK121.out 3).trans rfl; have hfz19_0 := blk_frozen BK121.out 0; have hfz19_1 := blk_frozen BK121.out 1; have hfz19_2 := blk_frozen BK121.out 2; have hfz19_3 := blk_frozen BK121.out 3))
                refine bodyPost_ret (results_ctt rfl _ _ gb121 36 #[.bool false, .bool false, .string (⟨#[]⟩ : ByteArray), .int .i64 0] (0, 0) _ rfl (by (with_reducible repeat (first | refine blk_drewN ?_ _ | refine blk_drew ?_ | refine blk_alloc ?_ _)); refine blk_put (cs := #[.bool false, .bool false, .string (⟨#[]⟩ : ByteArray), .int .i64 0]) ?_ 3 _ rfl; (with_reducible repeat (first | refine blk_drewN ?_ _ | refine blk_drew ?_ | refine blk_alloc ?_ _)); refine blk_put (cs := #[.bool false, .bool false, .string (⟨#[]⟩ : ByteArray), .int .i64 0]) ?_ 2 _ rfl; (with_reducible repeat (first | refine blk_drewN ?_ _ | refine blk_drew ?_ | refine blk_alloc ?_ _)); refine blk_put (cs := #[.bool false, .bool false, .string (⟨#[]⟩ : ByteArray), .int .i64 0]) ?_ 1 _ rfl; (with_reducible repeat (first | refine blk_drewN ?_ _ | refine blk_drew ?_ | refine blk_alloc ?_ _)); refine blk_put (cs := #[.bool false, .bool false, .string (⟨#[]⟩ : ByteArray), .int .i64 0]) ?_ 0 _ rfl; (with_reducible repeat (first | refine blk_drewN ?_ _ | refine blk_drew ?_ | refine blk_alloc ?_ _)); exact BK121.out) Tryz.underlying36 rfl (by kernel_rfl)) rfl ?_
                exact ⟨by first | rfl | (simp [errW_none, errW_some] <;> rfl) | (simp [*, errW_none, errW_some] <;> rfl), by repeat (first | (with_reducible first | exact HB.out | apply below_alloc | apply pw_below_drewN | apply below_drew1 | refine below_set ?_ GE121.out) | exact HB.out)⟩
              · rw [if_neg c18] at H
                have c18b0 : (t129 == x5_14) = false := beq_eq_false_iff_ne.mpr c18
                have c18b1 : (t129 != x5_14) = true := bne_iff_ne.mpr c18
                by_cases c20 : 0 ≤ x5_14
                · rw [if_pos c20] at H
                  have c20b0 := eq_true c20
                  have c20b1 : decide (0 ≤ x5_14) = true := decide_eq_true c20
                  clear c20
                  by_cases c21 : x5_14 ≤ t129
                  · rw [if_pos c21] at H
                    have c21b0 := eq_true c21
                    have c21b1 : decide (x5_14 ≤ t129) = true := decide_eq_true c21
                    clear c21
                    by_cases c22 : t129 ≤ (a0.size : Int)
                    · rw [if_pos c22] at H
                      have c22b0 := eq_true c22
                      have c22b1 : decide (t129 ≤ (a0.size : Int)) = true := decide_eq_true c22
                      clear c22
                      replace H := Option.bind_eq_some_iff.mp H
                      obtain ⟨t130, A230, H⟩ := H
                      replace H : (if t130 = true then ((vernierref18_over.f kj14 a0 (wrap64 (t129 + 1))).bind fun t131 => (if t131 = (wrap64 (t129 + 1)) then (some (false, false, (⟨#[]⟩ : ByteArray), 0, 14, t131)) else (if 0 ≤ (wrap64 (t129 + 1)) then (if (wrap64 (t129 + 1)) ≤ t131 then (if t131 ≤ (a0.size : Int) then (if (a0.extract (x5_14 : Int).toNat (t129 : Int).toNat).size + (a0.extract ((wrap64 (t129 + 1)) : Int).toNat (t131 : Int).toNat).size ≤ 9223372036854775807 then (vernierref18_Scan.j2 kj14 a0 t131 ((a0.extract (x5_14 : Int).toNat (t129 : Int).toNat) ++ (a0.extract ((wrap64 (t129 + 1)) : Int).toNat (t131 : Int).toNat)) (wrap64 ((wrap64 (t131 - t129)) - 1))) else (none)) else (none)) else (none)) else (none)))) else (vernierref18_Scan.j2 kj14 a0 t129 (a0.extract (x5_14 : Int).toNat (t129 : Int).toNat) 0)) = some (r1, r2, r3, r4, r5, r6) := H
                      have A23 := Aside0.mk A230
                      clear A230
                      have HC24 := Aside0.mk H
                      clear H
                      go_upto_if 47 with (first | ((with_reducible refine gate_callee (f := 41) rfl ?_); refine goesL_ (some 35) rfl rfl Tryz.func41 (by kernel_rfl) rfl #[.string a0, .int .i64 x5_14] rfl (by (try simp only [List.map_toArray, List.map_cons, List.map_nil]); first | done | rfl | (simp only [List.length_drop, List.length_take]; rfl)) ?_; (with_reducible refine (vernierref18_over.calls kj14 a0 x5_14 t129 _ A17.out).mono ?_); rintro e w' ⟨rfl, ⟨nd, rfl⟩⟩; refine ⟨_, rfl, ?_⟩) | ((with_reducible refine gate_callee (f := 40) rfl ?_); refine goesL_ (some 47) rfl rfl Tryz.func40 (by kernel_rfl) rfl #[.string a0, .int .i64 t129, .int .u8 46, .int .u8 46] rfl (by (try simp only [List.map_toArray, List.map_cons, List.map_nil]); first | done | rfl | (simp only [List.length_drop, List.length_take]; rfl)) ?_; (with_reducible refine (vernierref18_isOne.calls a0 t129 46 46 t130 _ A23.out).mono ?_); rintro e w' ⟨rfl, ⟨nd, rfl⟩⟩; refine ⟨_, rfl, ?_⟩))
                      (try simp only [Act.put, List.setIfInBounds_toArray, List.set_cons_zero, List.set_cons_succ])
                      go_cut [6, 7, 8] (fun v6 v7 v8 wc => ∃ (kq : Nat) (x6_23 : Int) (x7_23 : ByteArray) (x8_23 : Int) (x122000_23 : Bool) (x122001_23 : Bool) (x122002_23 : ByteArray) (x122003_23 : Int), v6 = .int .i64 x6_23 ∧ v7 = .string x7_23 ∧ v8 = .int .i64 x8_23 ∧ Aside0 (vernierref18_Scan.j2 kq a0 x6_23 x7_23 x8_23 = some (r1, r2, r3, r4, r5, r6)) ∧ Aside0 (kq ≤ kj14) ∧ Aside0 (wc.heap[gb121]? = some (.cells #[.bool x122000_23, .bool x122001_23, .string x122002_23, .int .i64 x122003_23] 36 (0, 0))) ∧ Aside0 (Below w.heap.size w wc))
                      case first =>
                        have H := HC24.out
                        clear HC24
                        by_cases c25 : t130 = true
                        · subst c25
                          have H1 : ((vernierref18_over.f kj14 a0 (wrap64 (t129 + 1))).bind fun t131 => (if t131 = (wrap64 (t129 + 1)) then (some (false, false, (⟨#[]⟩ : ByteArray), 0, 14, t131)) else (if 0 ≤ (wrap64 (t129 + 1)) then (if (wrap64 (t129 + 1)) ≤ t131 then (if t131 ≤ (a0.size : Int) then (if (a0.extract (x5_14 : Int).toNat (t129 : Int).toNat).size + (a0.extract ((wrap64 (t129 + 1)) : Int).toNat (t131 : Int).toNat).size ≤ 9223372036854775807 then (vernierref18_Scan.j2 kj14 a0 t131 ((a0.extract (x5_14 : Int).toNat (t129 : Int).toNat) ++ (a0.extract ((wrap64 (t129 + 1)) : Int).toNat (t131 : Int).toNat)) (wrap64 ((wrap64 (t131 - t129)) - 1))) else (none)) else (none)) else (none)) else (none)))) = some (r1, r2, r3, r4, r5, r6) := by rw [if_pos rfl] at H; exact H
                          clear H
                          have H := H1
                          clear H1
                          replace H := Option.bind_eq_some_iff.mp H
                          obtain ⟨t131, A260, H⟩ := H
                          replace H : (if t131 = (wrap64 (t129 + 1)) then (some (false, false, (⟨#[]⟩ : ByteArray), 0, 14, t131)) else (if 0 ≤ (wrap64 (t129 + 1)) then (if (wrap64 (t129 + 1)) ≤ t131 then (if t131 ≤ (a0.size : Int) then (if (a0.extract (x5_14 : Int).toNat (t129 : Int).toNat).size + (a0.extract ((wrap64 (t129 + 1)) : Int).toNat (t131 : Int).toNat).size ≤ 9223372036854775807 then (vernierref18_Scan.j2 kj14 a0 t131 ((a0.extract (x5_14 : Int).toNat (t129 : Int).toNat) ++ (a0.extract ((wrap64 (t129 + 1)) : Int).toNat (t131 : Int).toNat)) (wrap64 ((wrap64 (t131 - t129)) - 1))) else (none)) else (none)) else (none)) else (none))) = some (r1, r2, r3, r4, r5, r6) := H
                          have A26 := Aside0.mk A260
                          clear A260
                          by_cases c27 : t131 = (wrap64 (t129 + 1))
                          · rw [if_pos c27] at H
                            have c27b0 : (t131 == (wrap64 (t129 + 1))) = true := beq_iff_eq.mpr c27
                            have c27b1 : (t131 != (wrap64 (t129 + 1))) = false := bne_eq_false_iff_eq.mpr c27
                            clear c27
                            (first | rw [c27b0] | (simp only [i64_w, i32_w]; rw [c27b0]) | rw [c27b1] | rw [List.isEmpty_iff.mpr (beq_iff_eq.mp c27b0)] | rw [List.isEmpty_eq_false_iff.mpr (beq_eq_false_iff_ne.mp c27b0)] | skip)
                            simp only [Option.some.injEq, Prod.mk.injEq] at H
                            obtain ⟨rfl, rfl, rfl, rfl, rfl, rfl⟩ := H
                            go_wp2_with (first | ((with_reducible refine gate_callee (f := 41) rfl ?_); refine goesL_ (some 51) rfl rfl Tryz.func41 (by kernel_rfl) rfl #[.string a0, .int .i64 (wrap64 (t129 + 1))] rfl (by (try simp only [List.map_toArray, List.map_cons, List.map_nil]); first | done | rfl | (simp only [List.length_drop, List.length_take]; rfl)) ?_; (with_reducible refine (vernierref18_over.calls kj14 a0 (wrap64 (t129 + 1)) t131 _ A26.out).mono ?_); rintro e w' ⟨rfl, ⟨nd, rfl⟩⟩; refine ⟨_, rfl, ?_⟩; (try (rw [drewN_self wc]; generalize hq_ : World.drewN wc _ = wc; have n0_ : Aside0 (wc.heap[gb121]? = some (.cells #[.bool false, .bool false, .string (⟨#[]⟩ : ByteArray), .int .i64 0] 36 (0, 0))) := ⟨by rw [← hq_]; exact (by (with_reducible repeat (first | refine blk_drewN ?_ _ | refine blk_drew ?_ | refine blk_alloc ?_ _)); exact BK121.out)⟩; have n1_ : Aside0 (Below w.heap.size w wc) := ⟨by rw [← hq_]; exact (by repeat (first | (with_reducible first | exact HB.out | apply below_alloc | apply pw_below_drewN | apply below_drew1 | refine below_set ?_ GE121.out) | exact HB.out))⟩; clear BK121 HB hq_; have BK121 := n0_; have HB := n1_; clear n0_ n1_)); have hcz28_0 : wc.cell? ⟨gb121, 0, none⟩ = some (.bool false) := (blk_cell BK121.out 0).trans rfl; have hcz28_1 : wc.cell? ⟨gb121, 1, none⟩ = some (.bool false) := (blk_cell BK121.out 1).trans rfl; have hcz28_2 : wc.cell? ⟨gb121, 2, none⟩ = some (.string (⟨#[]⟩ : ByteArray)) := (blk_cell BK121.out 2).trans rfl; have hcz28_3 : wc.cell? ⟨gb121, 3, none⟩ = some (.int .i64 0) := (blk_cell BK121.out 3).trans rfl; have hfz28_0 := blk_frozen BK121.out 0; have hfz28_1 := blk_frozen BK121.out 1; have hfz28_2 := blk_frozen BK121.out 2; have hfz28_3 := blk_frozen BK121.out 3))
                            refine bodyPost_ret (results_ctt rfl _ _ gb121 36 #[.bool false, .bool false, .string (⟨#[]⟩ : ByteArray), .int .i64 0] (0, 0) _ rfl (by (with_reducible repeat (first | refine blk_drewN ?_ _ | refine blk_drew ?_ | refine blk_alloc ?_ _)); refine blk_put (cs := #[.bool false, .bool false, .string (⟨#[]⟩ : ByteArray), .int .i64 0]) ?_ 3 _ rfl; (with_reducible repeat (first | refine blk_drewN ?_ _ | refine blk_drew ?_ | refine blk_alloc ?_ _)); refine blk_put (cs := #[.bool false, .bool false, .string (⟨#[]⟩ : ByteArray), .int .i64 0]) ?_ 2 _ rfl; (with_reducible repeat (first | refine blk_drewN ?_ _ | refine blk_drew ?_ | refine blk_alloc ?_ _)); refine blk_put (cs := #[.bool false, .bool false, .string (⟨#[]⟩ : ByteArray), .int .i64 0]) ?_ 1 _ rfl; (with_reducible repeat (first | refine blk_drewN ?_ _ | refine blk_drew ?_ | refine blk_alloc ?_ _)); refine blk_put (cs := #[.bool false, .bool false, .string (⟨#[]⟩ : ByteArray), .int .i64 0]) ?_ 0 _ rfl; (with_reducible repeat (first | refine blk_drewN ?_ _ | refine blk_drew ?_ | refine blk_alloc ?_ _)); exact BK121.out) Tryz.underlying36 rfl (by kernel_rfl)) rfl ?_
                            exact ⟨by first | rfl | (simp [errW_none, errW_some] <;> rfl) | (simp [*, errW_none, errW_some] <;> rfl), by repeat (first | (with_reducible first | exact HB.out | apply below_alloc | apply pw_below_drewN | apply below_drew1 | refine below_set ?_ GE121.out) | exact HB.out)⟩
                          · rw [if_neg c27] at H
                            have c27b0 : (t131 == (wrap64 (t129 + 1))) = false := beq_eq_false_iff_ne.mpr c27
                            have c27b1 : (t131 != (wrap64 (t129 + 1))) = true := bne_iff_ne.mpr c27
                            (first | rw [c27b0] | (simp only [i64_w, i32_w]; rw [c27b0]) | rw [c27b1] | rw [List.isEmpty_iff.mpr (beq_iff_eq.mp c27b0)] | rw [List.isEmpty_eq_false_iff.mpr (beq_eq_false_iff_ne.mp c27b0)] | skip)
                            obtain ⟨ji29, hji29⟩ : ∃ j_ : Int, (wrap64 (t129 + 1)) = j_ := ⟨_, rfl⟩
                            replace H : (if 0 ≤ (ji29) then (if (ji29) ≤ t131 then (if t131 ≤ (a0.size : Int) then (if (a0.extract (x5_14 : Int).toNat (t129 : Int).toNat).size + (a0.extract ((ji29) : Int).toNat (t131 : Int).toNat).size ≤ 9223372036854775807 then (vernierref18_Scan.j2 kj14 a0 t131 ((a0.extract (x5_14 : Int).toNat (t129 : Int).toNat) ++ (a0.extract ((ji29) : Int).toNat (t131 : Int).toNat)) (wrap64 ((wrap64 (t131 - t129)) - 1))) else (none)) else (none)) else (none)) else (none)) = some (r1, r2, r3, r4, r5, r6) := by first | (rw [hji29] at H; exact H) | (simp only [hji29] at H ⊢; exact H)
                            (try rw [hji29] at c27b0)
                            (try rw [hji29] at c27b1)
                            (try rw [hji29] at A26)
                            have hji29w : (IntKind.i64.wrap (t129 + 1)) = ji29 := (i64_w _).trans hji29
                            by_cases c30 : 0 ≤ (ji29)
                            · rw [if_pos c30] at H
                              have c30b0 := eq_true c30
                              have c30b1 : decide (0 ≤ (ji29)) = true := decide_eq_true c30
                              clear c30
                              by_cases c31 : (ji29) ≤ t131
                              · rw [if_pos c31] at H
                                have c31b0 := eq_true c31
                                have c31b1 : decide ((ji29) ≤ t131) = true := decide_eq_true c31
                                clear c31
                                by_cases c32 : t131 ≤ (a0.size : Int)
                                · rw [if_pos c32] at H
                                  have c32b0 := eq_true c32
                                  have c32b1 : decide (t131 ≤ (a0.size : Int)) = true := decide_eq_true c32
                                  clear c32
                                  by_cases c33 : (a0.extract (x5_14 : Int).toNat (t129 : Int).toNat).size + (a0.extract ((ji29) : Int).toNat (t131 : Int).toNat).size ≤ 9223372036854775807
                                  · rw [if_pos c33] at H
                                    have c33b0 := eq_true c33
                                    have c33b1 : decide ((a0.extract (x5_14 : Int).toNat (t129 : Int).toNat).size + (a0.extract ((ji29) : Int).toNat (t131 : Int).toNat).size ≤ 9223372036854775807) = true := decide_eq_true c33
                                    try have c33b2 : (9223372036854775807 < (a0.extract (x5_14 : Int).toNat (t129 : Int).toNat).size + (a0.extract ((ji29) : Int).toNat (t131 : Int).toNat).size) = False := eq_false (Nat.not_lt.2 c33)
                                    have H' := Aside0.mk H
                                    clear H
                                    go_wp2_with (first | ((with_reducible refine gate_callee (f := 41) rfl ?_); refine goesL_ (some 51) rfl rfl Tryz.func41 (by kernel_rfl) rfl #[.string a0, .int .i64 ji29] rfl (by (try simp only [List.map_toArray, List.map_cons, List.map_nil]); first | done | (simp only [hji29]; rfl) | rfl | (simp only [List.length_drop, List.length_take]; rfl)) ?_; (with_reducible refine (vernierref18_over.calls kj14 a0 ji29 t131 _ A26.out).mono ?_); rintro e w' ⟨rfl, ⟨nd, rfl⟩⟩; refine ⟨_, rfl, ?_⟩))
                                    go_meet
                                    case rel => exact ⟨_, (t131), ((a0.extract (x5_14 : Int).toNat (t129 : Int).toNat) ++ (a0.extract ((ji29) : Int).toNat (t131 : Int).toNat)), (wrap64 ((wrap64 (t131 - t129)) - 1)), (false), (false), ((⟨#[]⟩ : ByteArray)), (0), (by first | rfl | (simp; done) | (simp [*]; done)), (by first | rfl | (simp; done) | (simp only [← hji29] <;> (first | rfl | simp)) | (simp [*]; done)), (by first | rfl | (simp; done) | (simp [*]; done)), H', ⟨by have := HJ4.out; have := HJ14.out; first | omega | exact Nat.le_refl _⟩, ⟨by (with_reducible repeat (first | refine blk_drewN ?_ _ | refine blk_drew ?_ | refine blk_alloc ?_ _)); exact BK121.out⟩, ⟨by repeat (first | (with_reducible first | exact HB.out | apply below_alloc | apply pw_below_drewN | apply below_drew1 | refine below_set ?_ GE121.out) | exact HB.out)⟩⟩
                                  · rw [if_neg c33] at H
                                    exact absurd H (by simp)
                                · rw [if_neg c32] at H
                                  exact absurd H (by simp)
                              · rw [if_neg c31] at H
                                exact absurd H (by simp)
                            · rw [if_neg c30] at H
                              exact absurd H (by simp)
                        · replace c25 := Bool.eq_false_iff.mpr c25
                          subst c25
                          have H1 : (vernierref18_Scan.j2 kj14 a0 t129 (a0.extract (x5_14 : Int).toNat (t129 : Int).toNat) 0) = some (r1, r2, r3, r4, r5, r6) := by rw [if_neg (show ¬ (false = true) by decide)] at H; exact H
                          clear H
                          have H := H1
                          clear H1
                          have H' := Aside0.mk H
                          clear H
                          go_wp2
                          go_meet
                          case rel => exact ⟨_, (t129), (a0.extract (x5_14 : Int).toNat (t129 : Int).toNat), (0), (false), (false), ((⟨#[]⟩ : ByteArray)), (0), (by first | rfl | (simp; done) | (simp [*]; done)), (by first | rfl | (simp; done) | (simp [*]; done)), (by first | rfl | (simp; done) | (simp [*]; done)), H', ⟨by have := HJ4.out; have := HJ14.out; first | omega | exact Nat.le_refl _⟩, ⟨by (with_reducible repeat (first | refine blk_drewN ?_ _ | refine blk_drew ?_ | refine blk_alloc ?_ _)); exact BK121.out⟩, ⟨by repeat (first | (with_reducible first | exact HB.out | apply below_alloc | apply pw_below_drewN | apply below_drew1 | refine below_set ?_ GE121.out) | exact HB.out)⟩⟩
                      case rest =>
                        clear HC24
                        try clear c1
                        try clear c2
                        try clear c2b0
                        try clear c2b1
                        try clear p2
                        try clear c3
                        try clear c4
                        try clear p6
                        try clear c7
                        try clear c7b0
                        try clear c7b1
                        try clear c8
                        try clear c8b0
                        try clear c8b1
                        try clear p9
                        try clear q9
                        try clear hx9
                        try clear qi9
                        try clear c10
                        try clear c13
                        try clear c16
                        try clear c18
                        try clear c18b0
                        try clear c18b1
                        try clear c20
                        try clear c20b0
                        try clear c20b1
                        try clear c21
                        try clear c21b0
                        try clear c21b1
                        try clear c22
                        try clear c22b0
                        try clear c22b1
                        try clear c25
                        try clear c27
                        try clear c27b0
                        try clear c27b1
                        try clear c30
                        try clear c30b0
                        try clear c30b1
                        try clear c31
                        try clear c31b0
                        try clear c31b1
                        try clear c32
                        try clear c32b0
                        try clear c32b1
                        try clear c33
                        try clear c33b0
                        try clear c33b1
                        try clear c33b2
                        try clear hcz13_0
                        try clear hcz13_1
                        try clear hcz13_2
                        try clear hcz13_3
                        try clear hcz19_0
                        try clear hcz19_1
                        try clear hcz19_2
                        try clear hcz19_3
                        try clear hcz28_0
                        try clear hcz28_1
                        try clear hcz28_2
                        try clear hcz28_3
                        try clear hcz4_0
                        try clear hcz4_1
                        try clear hcz4_2
                        try clear hcz4_3
                        try clear hfz13_0
                        try clear hfz13_1
                        try clear hfz13_2
                        try clear hfz13_3
                        try clear hfz19_0
                        try clear hfz19_1
                        try clear hfz19_2
                        try clear hfz19_3
                        try clear hfz28_0
                        try clear hfz28_1
                        try clear hfz28_2
                        try clear hfz28_3
                        try clear hfz4_0
                        try clear hfz4_1
                        try clear hfz4_2
                        try clear hfz4_3
                        try clear p2
                        try clear p9
                        try clear q9
                        obtain ⟨kq, x6_23, x7_23, x8_23, x122000_23, x122001_23, x122002_23, x122003_23, rfl, rfl, rfl, HA, HJ23, BK121, HB⟩ := hcut
                        cases kq with
                        | zero => exact absurd HA.out (by simp [vernierref18_Scan.j2])
                        | succ kj23 =>
                          have H := HA.out
                          clear HA
                          simp only [vernierref18_Scan.j2] at H
                          replace H := Option.bind_eq_some_iff.mp H
                          obtain ⟨t132, A340, H⟩ := H
                          replace H : (if t132 = true then ((vernierref18_isOne.f a0 (wrap64 (x6_23 + 1)) 43 45).bind fun t133 => (if t133 = true then (vernierref18_Scan.j3 kj23 a0 x6_23 x7_23 x8_23 (wrap64 ((wrap64 (x6_23 + 1)) + 1))) else (vernierref18_Scan.j3 kj23 a0 x6_23 x7_23 x8_23 (wrap64 (x6_23 + 1))))) else (vernierref18_Scan.j4 kj23 a0 x6_23 x7_23 x8_23 0)) = some (r1, r2, r3, r4, r5, r6) := H
                          have A34 := Aside0.mk A340
                          clear A340
                          have HC35 := Aside0.mk H
                          clear H
                          go_upto_if 72 with (first | ((with_reducible refine gate_callee (f := 40) rfl ?_); refine goesL_ (some 72) rfl rfl Tryz.func40 (by kernel_rfl) rfl #[.string a0, .int .i64 x6_23, .int .u8 101, .int .u8 69] rfl (by (try simp only [List.map_toArray, List.map_cons, List.map_nil]); first | done | rfl | (simp only [List.length_drop, List.length_take]; rfl)) ?_; (with_reducible refine (vernierref18_isOne.calls a0 x6_23 101 69 t132 _ A34.out).mono ?_); rintro e w' ⟨rfl, ⟨nd, rfl⟩⟩; refine ⟨_, rfl, ?_⟩))
                          (try simp only [Act.put, List.setIfInBounds_toArray, List.set_cons_zero, List.set_cons_succ])
                          go_cut [6, 10] (fun v6 v10 wc => ∃ (kq : Nat) (x6_34 : Int) (x10_34 : Int) (x122000_34 : Bool) (x122001_34 : Bool) (x122002_34 : ByteArray) (x122003_34 : Int), v6 = .int .i64 x6_34 ∧ v10 = .int .i64 x10_34 ∧ Aside0 (vernierref18_Scan.j4 kq a0 x6_34 x7_23 x8_23 x10_34 = some (r1, r2, r3, r4, r5, r6)) ∧ Aside0 (kq ≤ kj23) ∧ Aside0 (wc.heap[gb121]? = some (.cells #[.bool x122000_34, .bool x122001_34, .string x122002_34, .int .i64 x122003_34] 36 (0, 0))) ∧ Aside0 (Below w.heap.size w wc))
                          case first =>
                            have H := HC35.out
                            clear HC35
                            by_cases c36 : t132 = true
                            · subst c36
                              have H1 : ((vernierref18_isOne.f a0 (wrap64 (x6_23 + 1)) 43 45).bind fun t133 => (if t133 = true then (vernierref18_Scan.j3 kj23 a0 x6_23 x7_23 x8_23 (wrap64 ((wrap64 (x6_23 + 1)) + 1))) else (vernierref18_Scan.j3 kj23 a0 x6_23 x7_23 x8_23 (wrap64 (x6_23 + 1))))) = some (r1, r2, r3, r4, r5, r6) := by rw [if_pos rfl] at H; exact H
                              clear H
                              have H := H1
                              clear H1
                              replace H := Option.bind_eq_some_iff.mp H
                              obtain ⟨t133, A370, H⟩ := H
                              replace H : (if t133 = true then (vernierref18_Scan.j3 kj23 a0 x6_23 x7_23 x8_23 (wrap64 ((wrap64 (x6_23 + 1)) + 1))) else (vernierref18_Scan.j3 kj23 a0 x6_23 x7_23 x8_23 (wrap64 (x6_23 + 1)))) = some (r1, r2, r3, r4, r5, r6) := H
                              have A37 := Aside0.mk A370
                              clear A370
                              have HC38 := Aside0.mk H
                              clear H
                              go_upto_if 77 with (first | ((with_reducible refine gate_callee (f := 40) rfl ?_); refine goesL_ (some 77) rfl rfl Tryz.func40 (by kernel_rfl) rfl #[.string a0, .int .i64 (wrap64 (x6_23 + 1)), .int .u8 43, .int .u8 45] rfl (by (try simp only [List.map_toArray, List.map_cons, List.map_nil]); first | done | rfl | (simp only [List.length_drop, List.length_take]; rfl)) ?_; (with_reducible refine (vernierref18_isOne.calls a0 (wrap64 (x6_23 + 1)) 43 45 t133 _ A37.out).mono ?_); rintro e w' ⟨rfl, ⟨nd, rfl⟩⟩; refine ⟨_, rfl, ?_⟩))
                              (try simp only [Act.put, List.setIfInBounds_toArray, List.set_cons_zero, List.set_cons_succ])
                              go_cut [11] (fun v11 wc => ∃ (kq : Nat) (x11_37 : Int), v11 = .int .i64 x11_37 ∧ Aside0 (vernierref18_Scan.j3 kq a0 x6_23 x7_23 x8_23 x11_37 = some (r1, r2, r3, r4, r5, r6)) ∧ Aside0 (kq ≤ kj23) ∧ Aside0 (wc.heap[gb121]? = some (.cells #[.bool x122000_23, .bool x122001_23, .string x122002_23, .int .i64 x122003_23] 36 (0, 0))) ∧ Aside0 (Below w.heap.size w wc))
                              case first =>
                                have H := HC38.out
                                clear HC38
                                by_cases c39 : t133 = true
                                · subst c39
                                  have H1 : (vernierref18_Scan.j3 kj23 a0 x6_23 x7_23 x8_23 (wrap64 ((wrap64 (x6_23 + 1)) + 1))) = some (r1, r2, r3, r4, r5, r6) := by rw [if_pos rfl] at H; exact H
                                  clear H
                                  have H := H1
                                  clear H1
                                  have H' := Aside0.mk H
                                  clear H
                                  go_wp2
                                  go_meet
                                  case rel => exact ⟨_, (wrap64 ((wrap64 (x6_23 + 1)) + 1)), (by first | rfl | (simp; done) | (simp [*]; done)), H', ⟨by have := HJ4.out; have := HJ14.out; have := HJ23.out; first | omega | exact Nat.le_refl _⟩, ⟨by (with_reducible repeat (first | refine blk_drewN ?_ _ | refine blk_drew ?_ | refine blk_alloc ?_ _)); exact BK121.out⟩, ⟨by repeat (first | (with_reducible first | exact HB.out | apply below_alloc | apply pw_below_drewN | apply below_drew1 | refine below_set ?_ GE121.out) | exact HB.out)⟩⟩
                                · replace c39 := Bool.eq_false_iff.mpr c39
                                  subst c39
                                  have H1 : (vernierref18_Scan.j3 kj23 a0 x6_23 x7_23 x8_23 (wrap64 (x6_23 + 1))) = some (r1, r2, r3, r4, r5, r6) := by rw [if_neg (show ¬ (false = true) by decide)] at H; exact H
                                  clear H
                                  have H := H1
                                  clear H1
                                  have H' := Aside0.mk H
                                  clear H
                                  go_wp2
                                  go_meet
                                  case rel => exact ⟨_, (wrap64 (x6_23 + 1)), (by first | rfl | (simp; done) | (simp [*]; done)), H', ⟨by have := HJ4.out; have := HJ14.out; have := HJ23.out; first | omega | exact Nat.le_refl _⟩, ⟨by (with_reducible repeat (first | refine blk_drewN ?_ _ | refine blk_drew ?_ | refine blk_alloc ?_ _)); exact BK121.out⟩, ⟨by repeat (first | (with_reducible first | exact HB.out | apply below_alloc | apply pw_below_drewN | apply below_drew1 | refine below_set ?_ GE121.out) | exact HB.out)⟩⟩
                              case rest =>
                                clear HC38
                                try clear c1
                                try clear c2
                                try clear c2b0
                                try clear c2b1
                                try clear p2
                                try clear c3
                                try clear c4
                                try clear p6
                                try clear c7
                                try clear c7b0
                                try clear c7b1
                                try clear c8
                                try clear c8b0
                                try clear c8b1
                                try clear p9
                                try clear q9
                                try clear hx9
                                try clear qi9
                                try clear c10
                                try clear c13
                                try clear c16
                                try clear c18
                                try clear c18b0
                                try clear c18b1
                                try clear c20
                                try clear c20b0
                                try clear c20b1
                                try clear c21
                                try clear c21b0
                                try clear c21b1
                                try clear c22
                                try clear c22b0
                                try clear c22b1
                                try clear c25
                                try clear c27
                                try clear c27b0
                                try clear c27b1
                                try clear c30
                                try clear c30b0
                                try clear c30b1
                                try clear c31
                                try clear c31b0
                                try clear c31b1
                                try clear c32
                                try clear c32b0
                                try clear c32b1
                                try clear c33
                                try clear c33b0
                                try clear c33b1
                                try clear c33b2
                                try clear c36
                                try clear c39
                                try clear hcz13_0
                                try clear hcz13_1
                                try clear hcz13_2
                                try clear hcz13_3
                                try clear hcz19_0
                                try clear hcz19_1
                                try clear hcz19_2
                                try clear hcz19_3
                                try clear hcz28_0
                                try clear hcz28_1
                                try clear hcz28_2
                                try clear hcz28_3
                                try clear hcz4_0
                                try clear hcz4_1
                                try clear hcz4_2
                                try clear hcz4_3
                                try clear hfz13_0
                                try clear hfz13_1
                                try clear hfz13_2
                                try clear hfz13_3
                                try clear hfz19_0
                                try clear hfz19_1
                                try clear hfz19_2
                                try clear hfz19_3
                                try clear hfz28_0
                                try clear hfz28_1
                                try clear hfz28_2
                                try clear hfz28_3
                                try clear hfz4_0
                                try clear hfz4_1
                                try clear hfz4_2
                                try clear hfz4_3
                                try clear p2
                                try clear p6
                                try clear p9
                                try clear q9
                                obtain ⟨kq, x11_37, rfl, HA, HJ37, BK121, HB⟩ := hcut
                                cases kq with
                                | zero => exact absurd HA.out (by simp [vernierref18_Scan.j3])
                                | succ kj37 =>
                                  have H := HA.out
                                  clear HA
                                  simp only [vernierref18_Scan.j3] at H
                                  replace H := Option.bind_eq_some_iff.mp H
                                  obtain ⟨t134, A400, H⟩ := H
                                  replace H : (if t134 = x11_37 then (some (false, false, (⟨#[]⟩ : ByteArray), 0, 14, t134)) else (if 0 ≤ x11_37 then (if x11_37 ≤ t134 then (if t134 ≤ (a0.size : Int) then ((vernierref18_power.f kj37 (a0.extract (x11_37 : Int).toNat (t134 : Int).toNat)).bind fun t135 => (if 0 ≤ (wrap64 (x6_23 + 1)) then (if (wrap64 (x6_23 + 1)) < (a0.size : Int) then (if (bt a0 (wrap64 (x6_23 + 1))) = 45 then (vernierref18_Scan.j4 kj37 a0 t134 x7_23 x8_23 (wrap64 (-t135))) else (vernierref18_Scan.j4 kj37 a0 t134 x7_23 x8_23 t135)) else (none)) else (none))) else (none)) else (none)) else (none))) = some (r1, r2, r3, r4, r5, r6) := H
                                  have A40 := Aside0.mk A400
                                  clear A400
                                  by_cases c41 : t134 = x11_37
                                  · rw [if_pos c41] at H
                                    have c41b0 : (t134 == x11_37) = true := beq_iff_eq.mpr c41
                                    have c41b1 : (t134 != x11_37) = false := bne_eq_false_iff_eq.mpr c41
                                    clear c41
                                    simp only [Option.some.injEq, Prod.mk.injEq] at H
                                    obtain ⟨rfl, rfl, rfl, rfl, rfl, rfl⟩ := H
                                    go_wp2_with (first | ((with_reducible refine gate_callee (f := 41) rfl ?_); refine goesL_ (some 82) rfl rfl Tryz.func41 (by kernel_rfl) rfl #[.string a0, .int .i64 x11_37] rfl (by (try simp only [List.map_toArray, List.map_cons, List.map_nil]); first | done | rfl | (simp only [List.length_drop, List.length_take]; rfl)) ?_; (with_reducible refine (vernierref18_over.calls kj37 a0 x11_37 t134 _ A40.out).mono ?_); rintro e w' ⟨rfl, ⟨nd, rfl⟩⟩; refine ⟨_, rfl, ?_⟩; (try (rw [drewN_self wc]; generalize hq_ : World.drewN wc _ = wc; have n0_ : Aside0 (wc.heap[gb121]? = some (.cells #[.bool x122000_23, .bool x122001_23, .string x122002_23, .int .i64 x122003_23] 36 (0, 0))) := ⟨by rw [← hq_]; exact (by (with_reducible repeat (first | refine blk_drewN ?_ _ | refine blk_drew ?_ | refine blk_alloc ?_ _)); exact BK121.out)⟩; have n1_ : Aside0 (Below w.heap.size w wc) := ⟨by rw [← hq_]; exact (by repeat (first | (with_reducible first | exact HB.out | apply below_alloc | apply pw_below_drewN | apply below_drew1 | refine below_set ?_ GE121.out) | exact HB.out))⟩; clear BK121 HB hq_; have BK121 := n0_; have HB := n1_; clear n0_ n1_)); have hcz42_0 : wc.cell? ⟨gb121, 0, none⟩ = some (.bool x122000_23) := (blk_cell BK121.out 0).trans rfl; have hcz42_1 : wc.cell? ⟨gb121, 1, none⟩ = some (.bool x122001_23) := (blk_cell BK121.out 1).trans rfl; have hcz42_2 : wc.cell? ⟨gb121, 2, none⟩ = some (.string x122002_23) := (blk_cell BK121.out 2).trans rfl; have hcz42_3 : wc.cell? ⟨gb121, 3, none⟩ = some (.int .i64 x122003_23) := (blk_cell BK121.out 3).trans rfl; have hfz42_0 := blk_frozen BK121.out 0; have hfz42_1 := blk_frozen BK121.out 1; have hfz42_2 := blk_frozen BK121.out 2; have hfz42_3 := blk_frozen BK121.out 3))
                                    refine bodyPost_ret (results_ctt rfl _ _ gb121 36 #[.bool false, .bool false, .string (⟨#[]⟩ : ByteArray), .int .i64 0] (0, 0) _ rfl (by (with_reducible repeat (first | refine blk_drewN ?_ _ | refine blk_drew ?_ | refine blk_alloc ?_ _)); refine blk_put (cs := #[.bool false, .bool false, .string (⟨#[]⟩ : ByteArray), .int .i64 x122003_23]) ?_ 3 _ rfl; (with_reducible repeat (first | refine blk_drewN ?_ _ | refine blk_drew ?_ | refine blk_alloc ?_ _)); refine blk_put (cs := #[.bool false, .bool false, .string x122002_23, .int .i64 x122003_23]) ?_ 2 _ rfl; (with_reducible repeat (first | refine blk_drewN ?_ _ | refine blk_drew ?_ | refine blk_alloc ?_ _)); refine blk_put (cs := #[.bool false, .bool x122001_23, .string x122002_23, .int .i64 x122003_23]) ?_ 1 _ rfl; (with_reducible repeat (first | refine blk_drewN ?_ _ | refine blk_drew ?_ | refine blk_alloc ?_ _)); refine blk_put (cs := #[.bool x122000_23, .bool x122001_23, .string x122002_23, .int .i64 x122003_23]) ?_ 0 _ rfl; (with_reducible repeat (first | refine blk_drewN ?_ _ | refine blk_drew ?_ | refine blk_alloc ?_ _)); exact BK121.out) Tryz.underlying36 rfl (by kernel_rfl)) rfl ?_
                                    exact ⟨by first | rfl | (simp [errW_none, errW_some] <;> rfl) | (simp [*, errW_none, errW_some] <;> rfl), by repeat (first | (with_reducible first | exact HB.out | apply below_alloc | apply pw_below_drewN | apply below_drew1 | refine below_set ?_ GE121.out) | exact HB.out)⟩
                                  · rw [if_neg c41] at H
                                    have c41b0 : (t134 == x11_37) = false := beq_eq_false_iff_ne.mpr c41
                                    have c41b1 : (t134 != x11_37) = true := bne_iff_ne.mpr c41
                                    by_cases c43 : 0 ≤ x11_37
                                    · rw [if_pos c43] at H
                                      have c43b0 := eq_true c43
                                      have c43b1 : decide (0 ≤ x11_37) = true := decide_eq_true c43
                                      clear c43
                                      by_cases c44 : x11_37 ≤ t134
                                      · rw [if_pos c44] at H
                                        have c44b0 := eq_true c44
                                        have c44b1 : decide (x11_37 ≤ t134) = true := decide_eq_true c44
                                        clear c44
                                        by_cases c45 : t134 ≤ (a0.size : Int)
                                        · rw [if_pos c45] at H
                                          have c45b0 := eq_true c45
                                          have c45b1 : decide (t134 ≤ (a0.size : Int)) = true := decide_eq_true c45
                                          clear c45
                                          replace H := Option.bind_eq_some_iff.mp H
                                          obtain ⟨t135, A460, H⟩ := H
                                          replace H : (if 0 ≤ (wrap64 (x6_23 + 1)) then (if (wrap64 (x6_23 + 1)) < (a0.size : Int) then (if (bt a0 (wrap64 (x6_23 + 1))) = 45 then (vernierref18_Scan.j4 kj37 a0 t134 x7_23 x8_23 (wrap64 (-t135))) else (vernierref18_Scan.j4 kj37 a0 t134 x7_23 x8_23 t135)) else (none)) else (none)) = some (r1, r2, r3, r4, r5, r6) := H
                                          have A46 := Aside0.mk A460
                                          clear A460
                                          obtain ⟨ji47, hji47⟩ : ∃ j_ : Int, (wrap64 (x6_23 + 1)) = j_ := ⟨_, rfl⟩
                                          replace H : (if 0 ≤ (ji47) then (if (ji47) < (a0.size : Int) then (if (bt a0 (ji47)) = 45 then (vernierref18_Scan.j4 kj37 a0 t134 x7_23 x8_23 (wrap64 (-t135))) else (vernierref18_Scan.j4 kj37 a0 t134 x7_23 x8_23 t135)) else (none)) else (none)) = some (r1, r2, r3, r4, r5, r6) := by first | (rw [hji47] at H; exact H) | (simp only [hji47] at H ⊢; exact H)
                                          (try rw [hji47] at A40)
                                          (try rw [hji47] at A46)
                                          have hji47w : (IntKind.i64.wrap (x6_23 + 1)) = ji47 := (i64_w _).trans hji47
                                          by_cases c48 : 0 ≤ (ji47)
                                          · rw [if_pos c48] at H
                                            have c48b0 : decide (0 ≤ (ji47)) = true := decide_eq_true c48
                                            clear c48
                                            by_cases c49 : (ji47) < (a0.size : Int)
                                            · rw [if_pos c49] at H
                                              have c49b0 : decide ((ji47) < (a0.size : Int)) = true := decide_eq_true c49
                                              clear c49
                                              by_cases c51 : (bt a0 (ji47)) = 45
                                              · rw [if_pos c51] at H
                                                have c51b0 : ((bt a0 (ji47)) == 45) = true := beq_iff_eq.mpr c51
                                                have c51b1 : ((bt a0 (ji47)) != 45) = false := bne_eq_false_iff_eq.mpr c51
                                                clear c51
                                                have H' := Aside0.mk H
                                                clear H
                                                go_wp2_with (first | ((with_reducible refine gate_callee (f := 41) rfl ?_); refine goesL_ (some 82) rfl rfl Tryz.func41 (by kernel_rfl) rfl #[.string a0, .int .i64 x11_37] rfl (by (try simp only [List.map_toArray, List.map_cons, List.map_nil]); first | done | rfl | (simp only [List.length_drop, List.length_take]; rfl)) ?_; (with_reducible refine (vernierref18_over.calls kj37 a0 x11_37 t134 _ A40.out).mono ?_); rintro e w' ⟨rfl, ⟨nd, rfl⟩⟩; refine ⟨_, rfl, ?_⟩) | ((with_reducible refine gate_callee (f := 42) rfl ?_); refine goesL_ (some 92) rfl rfl Tryz.func42 (by kernel_rfl) rfl #[.string (a0.extract (x11_37 : Int).toNat (t134 : Int).toNat)] rfl (by (try simp only [List.map_toArray, List.map_cons, List.map_nil]); first | done | rfl | (simp only [List.length_drop, List.length_take]; rfl)) ?_; (with_reducible refine (vernierref18_power.calls kj37 (a0.extract (x11_37 : Int).toNat (t134 : Int).toNat) t135 _ A46.out).mono ?_); rintro e w' ⟨rfl, ⟨nd, rfl⟩⟩; refine ⟨_, rfl, ?_⟩; have p50 : 0 ≤ ((ji47) : Int) := of_decide_eq_true (by first | (with_reducible assumption) | assumption); have q50 : (ji47) < (a0.size : Int) := of_decide_eq_true (by first | (with_reducible assumption) | assumption); have hx50 := bt_at a0 (ji47); replace p50 := eq_true p50; replace q50 := eq_true q50))
                                                go_meet
                                                case rel => exact ⟨_, (t134), (wrap64 (-t135)), (x122000_23), (x122001_23), (x122002_23), (x122003_23), (by first | rfl | (simp; done) | (simp [*]; done)), (by first | rfl | (simp; done) | (simp [*]; done)), H', ⟨by have := HJ4.out; have := HJ14.out; have := HJ23.out; have := HJ37.out; first | omega | exact Nat.le_refl _⟩, ⟨by (with_reducible repeat (first | refine blk_drewN ?_ _ | refine blk_drew ?_ | refine blk_alloc ?_ _)); exact BK121.out⟩, ⟨by repeat (first | (with_reducible first | exact HB.out | apply below_alloc | apply pw_below_drewN | apply below_drew1 | refine below_set ?_ GE121.out) | exact HB.out)⟩⟩
                                              · rw [if_neg c51] at H
                                                have c51b0 : ((bt a0 (ji47)) == 45) = false := beq_eq_false_iff_ne.mpr c51
                                                have c51b1 : ((bt a0 (ji47)) != 45) = true := bne_iff_ne.mpr c51
                                                have H' := Aside0.mk H
                                                clear H
                                                go_wp2_with (first | ((with_reducible refine gate_callee (f := 41) rfl ?_); refine goesL_ (some 82) rfl rfl Tryz.func41 (by kernel_rfl) rfl #[.string a0, .int .i64 x11_37] rfl (by (try simp only [List.map_toArray, List.map_cons, List.map_nil]); first | done | rfl | (simp only [List.length_drop, List.length_take]; rfl)) ?_; (with_reducible refine (vernierref18_over.calls kj37 a0 x11_37 t134 _ A40.out).mono ?_); rintro e w' ⟨rfl, ⟨nd, rfl⟩⟩; refine ⟨_, rfl, ?_⟩) | ((with_reducible refine gate_callee (f := 42) rfl ?_); refine goesL_ (some 92) rfl rfl Tryz.func42 (by kernel_rfl) rfl #[.string (a0.extract (x11_37 : Int).toNat (t134 : Int).toNat)] rfl (by (try simp only [List.map_toArray, List.map_cons, List.map_nil]); first | done | rfl | (simp only [List.length_drop, List.length_take]; rfl)) ?_; (with_reducible refine (vernierref18_power.calls kj37 (a0.extract (x11_37 : Int).toNat (t134 : Int).toNat) t135 _ A46.out).mono ?_); rintro e w' ⟨rfl, ⟨nd, rfl⟩⟩; refine ⟨_, rfl, ?_⟩; have p50 : 0 ≤ ((ji47) : Int) := of_decide_eq_true (by first | (with_reducible assumption) | assumption); have q50 : (ji47) < (a0.size : Int) := of_decide_eq_true (by first | (with_reducible assumption) | assumption); have hx50 := bt_at a0 (ji47); replace p50 := eq_true p50; replace q50 := eq_true q50))
                                                go_meet
                                                case rel => exact ⟨_, (t134), (t135), (x122000_23), (x122001_23), (x122002_23), (x122003_23), (by first | rfl | (simp; done) | (simp [*]; done)), (by first | rfl | (simp; done) | (simp [*]; done)), H', ⟨by have := HJ4.out; have := HJ14.out; have := HJ23.out; have := HJ37.out; first | omega | exact Nat.le_refl _⟩, ⟨by (with_reducible repeat (first | refine blk_drewN ?_ _ | refine blk_drew ?_ | refine blk_alloc ?_ _)); exact BK121.out⟩, ⟨by repeat (first | (with_reducible first | exact HB.out | apply below_alloc | apply pw_below_drewN | apply below_drew1 | refine below_set ?_ GE121.out) | exact HB.out)⟩⟩
                                            · rw [if_neg c49] at H
                                              exact absurd H (by simp)
                                          · rw [if_neg c48] at H
                                            exact absurd H (by simp)
                                        · rw [if_neg c45] at H
                                          exact absurd H (by simp)
                                      · rw [if_neg c44] at H
                                        exact absurd H (by simp)
                                    · rw [if_neg c43] at H
                                      exact absurd H (by simp)
                            · replace c36 := Bool.eq_false_iff.mpr c36
                              subst c36
                              have H1 : (vernierref18_Scan.j4 kj23 a0 x6_23 x7_23 x8_23 0) = some (r1, r2, r3, r4, r5, r6) := by rw [if_neg (show ¬ (false = true) by decide)] at H; exact H
                              clear H
                              have H := H1
                              clear H1
                              have H' := Aside0.mk H
                              clear H
                              go_wp2
                              go_meet
                              case rel => exact ⟨_, (x6_23), (0), (x122000_23), (x122001_23), (x122002_23), (x122003_23), (by first | rfl | (simp; done) | (simp [*]; done)), (by first | rfl | (simp; done) | (simp [*]; done)), H', ⟨by have := HJ4.out; have := HJ14.out; have := HJ23.out; first | omega | exact Nat.le_refl _⟩, ⟨by (with_reducible repeat (first | refine blk_drewN ?_ _ | refine blk_drew ?_ | refine blk_alloc ?_ _)); exact BK121.out⟩, ⟨by repeat (first | (with_reducible first | exact HB.out | apply below_alloc | apply pw_below_drewN | apply below_drew1 | refine below_set ?_ GE121.out) | exact HB.out)⟩⟩
                          case rest =>
                            clear HC35
                            try clear c1
                            try clear c2
                            try clear c2b0
                            try clear c2b1
                            try clear p2
                            try clear c3
                            try clear c4
                            try clear c5
                            try clear p5
                            try clear q5
                            try clear hx5
                            try clear p6
                            try clear c7
                            try clear c7b0
                            try clear c7b1
                            try clear c8
                            try clear c8b0
                            try clear c8b1
                            try clear p9
                            try clear q9
                            try clear hx9
                            try clear qi9
                            try clear c10
                            try clear c13
                            try clear c16
                            try clear c18
                            try clear c18b0
                            try clear c18b1
                            try clear c20
                            try clear c20b0
                            try clear c20b1
                            try clear c21
                            try clear c21b0
                            try clear c21b1
                            try clear c22
                            try clear c22b0
                            try clear c22b1
                            try clear c25
                            try clear c27
                            try clear c27b0
                            try clear c27b1
                            try clear c30
                            try clear c30b0
                            try clear c30b1
                            try clear c31
                            try clear c31b0
                            try clear c31b1
                            try clear c32
                            try clear c32b0
                            try clear c32b1
                            try clear c33
                            try clear c33b0
                            try clear c33b1
                            try clear c33b2
                            try clear c36
                            try clear c39
                            try clear c40
                            try clear c41
                            try clear c41b0
                            try clear c41b1
                            try clear c42
                            try clear c43
                            try clear c43b0
                            try clear c43b1
                            try clear c44
                            try clear c44b0
                            try clear c44b1
                            try clear c45
                            try clear c45b0
                            try clear c45b1
                            try clear c48
                            try clear c48b0
                            try clear c49
                            try clear c49b0
                            try clear p50
                            try clear q50
                            try clear hx50
                            try clear c51
                            try clear c51b0
                            try clear c51b1
                            try clear hcz13_0
                            try clear hcz13_1
                            try clear hcz13_2
                            try clear hcz13_3
                            try clear hcz19_0
                            try clear hcz19_1
                            try clear hcz19_2
                            try clear hcz19_3
                            try clear hcz28_0
                            try clear hcz28_1
                            try clear hcz28_2
                            try clear hcz28_3
                            try clear hcz42_0
                            try clear hcz42_1
                            try clear hcz42_2
                            try clear hcz42_3
                            try clear hcz4_0
                            try clear hcz4_1
                            try clear hcz4_2
                            try clear hcz4_3
                            try clear hfz13_0
                            try clear hfz13_1
                            try clear hfz13_2
                            try clear hfz13_3
                            try clear hfz19_0
                            try clear hfz19_1
                            try clear hfz19_2
                            try clear hfz19_3
                            try clear hfz28_0
                            try clear hfz28_1
                            try clear hfz28_2
                            try clear hfz28_3
                            try clear hfz42_0
                            try clear hfz42_1
                            try clear hfz42_2
                            try clear hfz42_3
                            try clear hfz4_0
                            try clear hfz4_1
                            try clear hfz4_2
                            try clear hfz4_3
                            try clear p2
                            try clear p50
                            try clear p6
                            try clear p9
                            try clear q50
                            try clear q9
                            obtain ⟨kq, x6_34, x10_34, x122000_34, x122001_34, x122002_34, x122003_34, rfl, rfl, HA, HJ34, BK121, HB⟩ := hcut
                            cases kq with
                            | zero => exact absurd HA.out (by simp [vernierref18_Scan.j4])
                            | succ kj34 =>
                              have H := HA.out
                              clear HA
                              simp only [vernierref18_Scan.j4] at H
                              by_cases c52 : x6_34 < (a0.size : Int)
                              · rw [if_pos c52] at H
                                have c52b0 : decide (x6_34 < (a0.size : Int)) = true := decide_eq_true c52
                                clear c52
                                simp only [Option.some.injEq, Prod.mk.injEq] at H
                                obtain ⟨rfl, rfl, rfl, rfl, rfl, rfl⟩ := H
                                have hcz53_0 : wc.cell? ⟨gb121, 0, none⟩ = some (.bool x122000_34) := (blk_cell BK121.out 0).trans rfl
                                have hcz53_1 : wc.cell? ⟨gb121, 1, none⟩ = some (.bool x122001_34) := (blk_cell BK121.out 1).trans rfl
                                have hcz53_2 : wc.cell? ⟨gb121, 2, none⟩ = some (.string x122002_34) := (blk_cell BK121.out 2).trans rfl
                                have hcz53_3 : wc.cell? ⟨gb121, 3, none⟩ = some (.int .i64 x122003_34) := (blk_cell BK121.out 3).trans rfl
                                have hfz53_0 := blk_frozen BK121.out 0
                                have hfz53_1 := blk_frozen BK121.out 1
                                have hfz53_2 := blk_frozen BK121.out 2
                                have hfz53_3 := blk_frozen BK121.out 3
                                go_wp2
                                refine bodyPost_ret (results_ctt rfl _ _ gb121 36 #[.bool false, .bool false, .string (⟨#[]⟩ : ByteArray), .int .i64 0] (0, 0) _ rfl (by (with_reducible repeat (first | refine blk_drewN ?_ _ | refine blk_drew ?_ | refine blk_alloc ?_ _)); refine blk_put (cs := #[.bool false, .bool false, .string (⟨#[]⟩ : ByteArray), .int .i64 x122003_34]) ?_ 3 _ rfl; (with_reducible repeat (first | refine blk_drewN ?_ _ | refine blk_drew ?_ | refine blk_alloc ?_ _)); refine blk_put (cs := #[.bool false, .bool false, .string x122002_34, .int .i64 x122003_34]) ?_ 2 _ rfl; (with_reducible repeat (first | refine blk_drewN ?_ _ | refine blk_drew ?_ | refine blk_alloc ?_ _)); refine blk_put (cs := #[.bool false, .bool x122001_34, .string x122002_34, .int .i64 x122003_34]) ?_ 1 _ rfl; (with_reducible repeat (first | refine blk_drewN ?_ _ | refine blk_drew ?_ | refine blk_alloc ?_ _)); refine blk_put (cs := #[.bool x122000_34, .bool x122001_34, .string x122002_34, .int .i64 x122003_34]) ?_ 0 _ rfl; (with_reducible repeat (first | refine blk_drewN ?_ _ | refine blk_drew ?_ | refine blk_alloc ?_ _)); exact BK121.out) Tryz.underlying36 rfl (by kernel_rfl)) rfl ?_
                                exact ⟨by first | rfl | (simp [errW_none, errW_some] <;> rfl) | (simp [*, errW_none, errW_some] <;> rfl), by repeat (first | (with_reducible first | exact HB.out | apply below_alloc | apply pw_below_drewN | apply below_drew1 | refine below_set ?_ GE121.out) | exact HB.out)⟩
                              · rw [if_neg c52] at H
                                have c52b0 : decide (x6_34 < (a0.size : Int)) = false := decide_eq_false c52
                                clear c52
                                by_cases c54 : 0 < (a0.size : Int)
                                · rw [if_pos c54] at H
                                  have c54b0 : decide (0 < (a0.size : Int)) = true := decide_eq_true c54
                                  have c54b1 : decide (0 < a0.size) = true := decide_eq_true (by omega)
                                  clear c54
                                  replace H := Option.bind_eq_some_iff.mp H
                                  obtain ⟨t136, A560, H⟩ := H
                                  replace H : ((vernierref18_Normed.f kj34 false ((bt a0 0) == 45) x7_23 t136).bind fun bt138 => (some (bt138.1, bt138.2.1, bt138.2.2.1, bt138.2.2.2, 0, 0))) = some (r1, r2, r3, r4, r5, r6) := H
                                  have A56 := Aside0.mk A560
                                  clear A560
                                  replace H := Option.bind_eq_some_iff.mp H
                                  obtain ⟨⟨t138, t139, t140, t141⟩, A570, H⟩ := H
                                  replace H : (some (t138, t139, t140, t141, 0, 0)) = some (r1, r2, r3, r4, r5, r6) := H
                                  have A57 := Aside0.mk A570
                                  clear A570
                                  simp only [Option.some.injEq, Prod.mk.injEq] at H
                                  obtain ⟨rfl, rfl, rfl, rfl, rfl, rfl⟩ := H
                                  try go_wp2
                                  have n0_ := Aside0.mk (blk_drew BK121.out)
                                  have n1_ := Aside0.mk (below_drew1 HB.out)
                                  clear BK121
                                  clear HB
                                  have BK121 := n0_
                                  have HB := n1_
                                  clear n0_ n1_
                                  have p55 : 0 ≤ (0 : Int) := (by omega)
                                  have q55 : 0 < a0.size := (by have : (0 : Int) < (a0.size : Int) := of_decide_eq_true (by first | (with_reducible assumption) | assumption); omega)
                                  have hx55 : ∀ h : 0 < a0.size, ((a0[0]'h).toNat : Int) = bt a0 0 := bt_at a0 0
                                  clear p55
                                  have qi55 : (0 < (a0.size : Int)) = True := eq_true (of_decide_eq_true (by first | (with_reducible assumption) | assumption))
                                  replace q55 := eq_true q55
                                  refine start_ (n := 11) (S := fun w' => True) (ds := []) #[false, false, false, false, false, false, false, false, false, false, false] (by kernel_rfl) rfl rfl trivial (fun hHeld => ?_); refine with_tabW vernierref18_Scan.tab34 vernierref18_Scan.bits34 (fun HT_ HW_ => ?_)
                                  generalize wc.drew = w58 at BK121 HB hHeld ⊢
                                  refine pure_ (i := 0) (N := some 107) (v := ?_) (a' := ?_) #[true, false, false, false, false, false, false, false, false, false, false] rfl rfl (any_of HT_.out (by kernel_rfl)) (fun _ _ _ h => h) (Or.inl ⟨by rfl, ?_⟩) ?_ ?_
                                  rotate_left
                                  · intro w'
                                    go_simp
                                    with_reducible rfl
                                  rotate_left
                                  · simp only [Act.put, List.setIfInBounds_toArray, List.set_cons_zero, List.set_cons_succ, i64_w, i32_w]
                                    rfl
                                  refine pure_ (i := 3) (N := some 110) (v := ?_) (a' := ?_) #[true, false, false, true, false, false, false, false, false, false, false] rfl rfl (any_of HT_.out (by kernel_rfl)) (fun _ _ _ h => h) (Or.inl ⟨by rfl, ?_⟩) ?_ ?_
                                  rotate_left
                                  · intro w'
                                    go_simp
                                    with_reducible rfl
                                  rotate_left
                                  · simp only [Act.put, List.setIfInBounds_toArray, List.set_cons_zero, List.set_cons_succ, i64_w, i32_w]
                                    rfl
                                  refine pure_ (i := 4) (N := some 111) (v := ?_) (a' := ?_) #[true, false, false, true, true, false, false, false, false, false, false] rfl rfl (any_of HT_.out (by kernel_rfl)) (fun _ _ _ h => h) (Or.inl ⟨by rfl, ?_⟩) ?_ ?_
                                  rotate_left
                                  · intro w'
                                    go_simp
                                    with_reducible rfl
                                  rotate_left
                                  · simp only [Act.put, List.setIfInBounds_toArray, List.set_cons_zero, List.set_cons_succ, i64_w, i32_w]
                                    rfl
                                  refine pure_ (i := 5) (N := some 112) (v := ?_) (a' := ?_) #[true, false, false, true, true, true, false, false, false, false, false] rfl rfl (any_of HT_.out (by kernel_rfl)) (fun _ _ _ h => h) (Or.inl ⟨by rfl, ?_⟩) ?_ ?_
                                  rotate_left
                                  · intro w'
                                    go_simp
                                    with_reducible rfl
                                  rotate_left
                                  · simp only [Act.put, List.setIfInBounds_toArray, List.set_cons_zero, List.set_cons_succ, i64_w, i32_w]
                                    rfl
                                  refine pure_ (i := 6) (N := some 113) (v := ?_) (a' := ?_) #[true, false, false, true, true, true, true, false, false, false, false] rfl rfl (any_of HT_.out (by kernel_rfl)) (fun _ _ _ h => h) (Or.inl ⟨by rfl, ?_⟩) ?_ ?_
                                  rotate_left
                                  · intro w'
                                    go_simp
                                    with_reducible rfl
                                  rotate_left
                                  · simp only [Act.put, List.setIfInBounds_toArray, List.set_cons_zero, List.set_cons_succ, i64_w, i32_w]
                                    rfl
                                  refine take_ (i := 1) (N := some 108) (v := ?_) (a' := ?_) #[true, true, false, true, true, true, true, false, false, false, false] rfl rfl (take_ofW HT_.out HW_.out (by kernel_rfl)) (fun _ _ _ h => h) (Or.inl ⟨by rfl, ?_⟩) hHeld ?_ ?_
                                  rotate_left
                                  · intro w' _
                                    go_simp
                                    with_reducible rfl
                                  rotate_left
                                  · simp only [Act.put, List.setIfInBounds_toArray, List.set_cons_zero, List.set_cons_succ, i64_w, i32_w]
                                    rfl
                                  refine pure_ (i := 2) (N := some 109) (v := ?_) (a' := ?_) #[true, true, true, true, true, true, true, false, false, false, false] rfl rfl (any_of HT_.out (by kernel_rfl)) (fun _ _ _ h => h) (Or.inl ⟨by rfl, ?_⟩) ?_ ?_
                                  rotate_left
                                  · intro w'
                                    go_simp
                                    with_reducible rfl
                                  rotate_left
                                  · simp only [Act.put, List.setIfInBounds_toArray, List.set_cons_zero, List.set_cons_succ, i64_w, i32_w]
                                    rfl
                                  refine join_ (σ := Nat) 1 #[true, true, true, true, true, true, true, true, true, true, false] (fun s_ => [(114, .int .i64 t136), (13, .pointer (some ⟨s_, 0, none⟩)), (115, .agg #[.bool false, .bool ((bt a0 0) == 45), .string x7_23, .int .i64 t136])]) (fun s_ w' => (w'.heap[gb121]? = some (.cells #[.bool x122000_34, .bool x122001_34, .string x122002_34, .int .i64 x122003_34] 36 (0, 0))) ∧ (w'.heap[s_]? = some (.cells #[.bool false, .bool false, .string (⟨#[]⟩ : ByteArray), .int .i64 0] 36 (0, 0))) ∧ (w.heap.size ≤ s_) ∧ (w.heap.size ≤ s_) ∧ (gb121 ≠ s_) ∧ (s_ ≠ gb121) ∧ (Below w.heap.size w w')) ?_ ?_
                                  rotate_left
                                  · intro hCont
                                    refine two_ (i := 7) (j := 9) (Ni := some 114) (Nj := some 13) #[true, true, true, true, true, true, true, true, false, false, false] #[true, true, true, true, true, true, true, false, false, true, false] rfl rfl rfl rfl (two_of HT_.out (by kernel_rfl)) (by decide) (by decide) (fun K hK => ?_) (fun K hK => ?_)
                                    · skip
                                      refine goes_ Tryz.func43 (by kernel_rfl) rfl #[.int .i64 (wrap64 (x10_34 - x8_23))] (by rfl) rfl rfl (by (try simp only [List.map_toArray, List.map_cons, List.map_nil]); first | done | rfl | (simp only [List.length_drop, List.length_take]; rfl)) ?_
                                      with_reducible refine (vernierref18_held.calls (wrap64 (x10_34 - x8_23)) t136 _ A56.out).mono ?_
                                      rintro e w' ⟨rfl, ⟨nd, rfl⟩⟩
                                      refine ⟨_, rfl, ?_⟩
                                      refine hK.out _ _ trivial (fun hHeld => ?_)
                                      clear hK K
                                      refine norm_ (a' := ?_) ?_ ?_
                                      rotate_left
                                      · show Act.put _ (some 114) _ = _
                                        simp only [Act.put, List.setIfInBounds_toArray, List.set_cons_zero, List.set_cons_succ, i64_w, i32_w]
                                        rfl
                                      refine pure_ (i := 8) (N := some 115) (v := ?_) (a' := ?_) #[true, true, true, true, true, true, true, true, true, false, false] rfl rfl (any_of HT_.out (by kernel_rfl)) (fun _ _ _ h => h) (Or.inl ⟨by rfl, ?_⟩) ?_ ?_
                                      rotate_left
                                      · intro w'
                                        go_simp
                                        with_reducible rfl
                                      rotate_left
                                      · simp only [Act.put, List.setIfInBounds_toArray, List.set_cons_zero, List.set_cons_succ, i64_w, i32_w]
                                        rfl
                                      refine one_ (i := 9) (N := some 13) #[true, true, true, true, true, true, true, true, true, true, false] rfl rfl (one_of HT_.out (by kernel_rfl)) (by decide) (fun K hK => ?_)
                                      refine box_step ?hg (N := 13) ?hd (cs := #[.bool false, .bool false, .string (⟨#[]⟩ : ByteArray), .int .i64 0]) (t := 36) ?hr ?_; (case hd => rfl); (case hg => rfl); (case hr => first | (go_simp; done) | (go_simp; rfl))
                                      intro gb137 hg w59 hbox hb
                                      have n0_ := Aside0.mk (blk_below (g := gb121) (o := .cells #[.bool x122000_34, .bool x122001_34, .string x122002_34, .int .i64 x122003_34] 36 (0, 0)) (by (with_reducible repeat (first | refine blk_drewN ?_ _ | refine blk_drew ?_ | refine blk_alloc ?_ _)); exact BK121.out) hb)
                                      have n1_ := Aside0.mk (below_step (by repeat (first | (with_reducible first | exact HB.out | apply below_alloc | apply pw_below_drewN | apply below_drew1 | refine below_set ?_ GE121.out) | exact HB.out)) hb)
                                      have n2_ := Aside0.mk (hbox)
                                      have n3_ := Aside0.mk ((by rw [hg]; exact (below_size (by repeat (first | (with_reducible first | exact HB.out | apply below_alloc | apply pw_below_drewN | apply below_drew1 | refine below_set ?_ GE121.out) | exact HB.out))) : w.heap.size ≤ gb137))
                                      have n4_ := Aside0.mk ((by rw [hg]; exact (below_size (by repeat (first | (with_reducible first | exact HB.out | apply below_alloc | apply pw_below_drewN | apply below_drew1 | refine below_set ?_ GE121.out) | exact HB.out))) : w.heap.size ≤ gb137))
                                      have n5_ := Aside0.mk ((by rw [hg]; exact Nat.ne_of_lt (blk_lt (g := gb121) (o := .cells #[.bool x122000_34, .bool x122001_34, .string x122002_34, .int .i64 x122003_34] 36 (0, 0)) (by (with_reducible repeat (first | refine blk_drewN ?_ _ | refine blk_drew ?_ | refine blk_alloc ?_ _)); exact BK121.out)) : gb121 ≠ gb137))
                                      have n6_ := Aside0.mk ((by rw [hg]; exact Nat.ne_of_gt (blk_lt (g := gb121) (o := .cells #[.bool x122000_34, .bool x122001_34, .string x122002_34, .int .i64 x122003_34] 36 (0, 0)) (by (with_reducible repeat (first | refine blk_drewN ?_ _ | refine blk_drew ?_ | refine blk_alloc ?_ _)); exact BK121.out)) : gb137 ≠ gb121))
                                      clear BK121
                                      clear HB
                                      have BK121 := n0_
                                      have HB := n1_
                                      have BK137 := n2_
                                      have GW137 := n3_
                                      have GE137 := n4_
                                      have NB121_137 := n5_
                                      have NB137_121 := n6_
                                      clear n0_ n1_ n2_ n3_ n4_ n5_ n6_
                                      clear hb hbox hg
                                      refine hK.out _ _ trivial (fun hHeld => ?_)
                                      clear hK K
                                      refine norm_ (a' := ?_) ?_ ?_
                                      rotate_left
                                      · show Act.put _ (some 13) _ = _
                                        simp only [Act.put, List.setIfInBounds_toArray, List.set_cons_zero, List.set_cons_succ, i64_w, i32_w]
                                        rfl
                                      exact norm_ (by simp only [putAll, Act.put, List.setIfInBounds_toArray, List.set_cons_zero, List.set_cons_succ]) (hCont (gb137) _ ⟨(by (with_reducible repeat (first | refine blk_drewN ?_ _ | refine blk_drew ?_ | refine blk_alloc ?_ _)); exact BK121.out), (by (with_reducible repeat (first | refine blk_drewN ?_ _ | refine blk_drew ?_ | refine blk_alloc ?_ _)); exact BK137.out), GW137.out, GE137.out, NB121_137.out, NB137_121.out, (by repeat (first | (with_reducible first | exact HB.out | apply below_alloc | apply pw_below_drewN | apply below_drew1 | refine below_set ?_ GE121.out | refine below_set ?_ GE137.out) | exact HB.out))⟩)
                                    · skip
                                      refine box_step ?hg (N := 13) ?hd (cs := #[.bool false, .bool false, .string (⟨#[]⟩ : ByteArray), .int .i64 0]) (t := 36) ?hr ?_; (case hd => rfl); (case hg => rfl); (case hr => first | (go_simp; done) | (go_simp; rfl))
                                      intro gb137 hg w59 hbox hb
                                      have n0_ := Aside0.mk (blk_below (g := gb121) (o := .cells #[.bool x122000_34, .bool x122001_34, .string x122002_34, .int .i64 x122003_34] 36 (0, 0)) (by (with_reducible repeat (first | refine blk_drewN ?_ _ | refine blk_drew ?_ | refine blk_alloc ?_ _)); exact BK121.out) hb)
                                      have n1_ := Aside0.mk (below_step (by repeat (first | (with_reducible first | exact HB.out | apply below_alloc | apply pw_below_drewN | apply below_drew1 | refine below_set ?_ GE121.out) | exact HB.out)) hb)
                                      have n2_ := Aside0.mk (hbox)
                                      have n3_ := Aside0.mk ((by rw [hg]; exact (below_size (by repeat (first | (with_reducible first | exact HB.out | apply below_alloc | apply pw_below_drewN | apply below_drew1 | refine below_set ?_ GE121.out) | exact HB.out))) : w.heap.size ≤ gb137))
                                      have n4_ := Aside0.mk ((by rw [hg]; exact (below_size (by repeat (first | (with_reducible first | exact HB.out | apply below_alloc | apply pw_below_drewN | apply below_drew1 | refine below_set ?_ GE121.out) | exact HB.out))) : w.heap.size ≤ gb137))
                                      have n5_ := Aside0.mk ((by rw [hg]; exact Nat.ne_of_lt (blk_lt (g := gb121) (o := .cells #[.bool x122000_34, .bool x122001_34, .string x122002_34, .int .i64 x122003_34] 36 (0, 0)) (by (with_reducible repeat (first | refine blk_drewN ?_ _ | refine blk_drew ?_ | refine blk_alloc ?_ _)); exact BK121.out)) : gb121 ≠ gb137))
                                      have n6_ := Aside0.mk ((by rw [hg]; exact Nat.ne_of_gt (blk_lt (g := gb121) (o := .cells #[.bool x122000_34, .bool x122001_34, .string x122002_34, .int .i64 x122003_34] 36 (0, 0)) (by (with_reducible repeat (first | refine blk_drewN ?_ _ | refine blk_drew ?_ | refine blk_alloc ?_ _)); exact BK121.out)) : gb137 ≠ gb121))
                                      clear BK121
                                      clear HB
                                      have BK121 := n0_
                                      have HB := n1_
                                      have BK137 := n2_
                                      have GW137 := n3_
                                      have GE137 := n4_
                                      have NB121_137 := n5_
                                      have NB137_121 := n6_
                                      clear n0_ n1_ n2_ n3_ n4_ n5_ n6_
                                      clear hb hbox hg
                                      refine hK.out _ _ trivial (fun hHeld => ?_)
                                      clear hK K
                                      refine norm_ (a' := ?_) ?_ ?_
                                      rotate_left
                                      · show Act.put _ (some 13) _ = _
                                        simp only [Act.put, List.setIfInBounds_toArray, List.set_cons_zero, List.set_cons_succ, i64_w, i32_w]
                                        rfl
                                      refine one_ (i := 7) (N := some 114) #[true, true, true, true, true, true, true, true, false, true, false] rfl rfl (one_of HT_.out (by kernel_rfl)) (by decide) (fun K hK => ?_)
                                      refine goes_ Tryz.func43 (by kernel_rfl) rfl #[.int .i64 (wrap64 (x10_34 - x8_23))] (by rfl) rfl rfl (by (try simp only [List.map_toArray, List.map_cons, List.map_nil]); first | done | rfl | (simp only [List.length_drop, List.length_take]; rfl)) ?_
                                      with_reducible refine (vernierref18_held.calls (wrap64 (x10_34 - x8_23)) t136 _ A56.out).mono ?_
                                      rintro e w' ⟨rfl, ⟨nd, rfl⟩⟩
                                      refine ⟨_, rfl, ?_⟩
                                      refine hK.out _ _ trivial (fun hHeld => ?_)
                                      clear hK K
                                      refine norm_ (a' := ?_) ?_ ?_
                                      rotate_left
                                      · show Act.put _ (some 114) _ = _
                                        simp only [Act.put, List.setIfInBounds_toArray, List.set_cons_zero, List.set_cons_succ, i64_w, i32_w]
                                        rfl
                                      refine pure_ (i := 8) (N := some 115) (v := ?_) (a' := ?_) #[true, true, true, true, true, true, true, true, true, true, false] rfl rfl (any_of HT_.out (by kernel_rfl)) (fun _ _ _ h => h) (Or.inl ⟨by rfl, ?_⟩) ?_ ?_
                                      rotate_left
                                      · intro w'
                                        go_simp
                                        with_reducible rfl
                                      rotate_left
                                      · simp only [Act.put, List.setIfInBounds_toArray, List.set_cons_zero, List.set_cons_succ, i64_w, i32_w]
                                        rfl
                                      exact norm_ (by simp only [putAll, Act.put, List.setIfInBounds_toArray, List.set_cons_zero, List.set_cons_succ]) (hCont (gb137) _ ⟨(by (with_reducible repeat (first | refine blk_drewN ?_ _ | refine blk_drew ?_ | refine blk_alloc ?_ _)); exact BK121.out), (by (with_reducible repeat (first | refine blk_drewN ?_ _ | refine blk_drew ?_ | refine blk_alloc ?_ _)); exact BK137.out), GW137.out, GE137.out, NB121_137.out, NB137_121.out, (by repeat (first | (with_reducible first | exact HB.out | apply below_alloc | apply pw_below_drewN | apply below_drew1 | refine below_set ?_ GE121.out | refine below_set ?_ GE137.out) | exact HB.out))⟩)
                                  rintro gb137 w60 ⟨h0_, h1_, h2_, h3_, h4_, h5_, h6_⟩
                                  have n0_ : Aside0 (w60.heap[gb121]? = some (.cells #[.bool x122000_34, .bool x122001_34, .string x122002_34, .int .i64 x122003_34] 36 (0, 0))) := ⟨h0_⟩
                                  have n1_ : Aside0 (w60.heap[gb137]? = some (.cells #[.bool false, .bool false, .string (⟨#[]⟩ : ByteArray), .int .i64 0] 36 (0, 0))) := ⟨h1_⟩
                                  have n2_ : Aside0 (w.heap.size ≤ gb137) := ⟨h2_⟩
                                  have n3_ : Aside0 (w.heap.size ≤ gb137) := ⟨h3_⟩
                                  have n4_ : Aside0 (gb121 ≠ gb137) := ⟨h4_⟩
                                  have n5_ : Aside0 (gb137 ≠ gb121) := ⟨h5_⟩
                                  have n6_ : Aside0 (Below w.heap.size w w60) := ⟨h6_⟩
                                  clear BK121
                                  clear HB
                                  clear h0_ h1_ h2_ h3_ h4_ h5_ h6_
                                  have BK121 := n0_
                                  have BK137 := n1_
                                  have GW137 := n2_
                                  have GE137 := n3_
                                  have NB121_137 := n4_
                                  have NB137_121 := n5_
                                  have HB := n6_
                                  clear n0_ n1_ n2_ n3_ n4_ n5_ n6_
                                  have hHeld := trivial
                                  refine norm_ (a' := ?_) ?_ ?_
                                  rotate_left
                                  · simp only [putAll, Act.put, List.setIfInBounds_toArray, List.set_cons_zero, List.set_cons_succ]
                                    rfl
                                  refine one_ (i := 10) (N := none) #[true, true, true, true, true, true, true, true, true, true, true] rfl rfl (one_of HT_.out (by kernel_rfl)) (by decide) (fun K hK => ?_)
                                  have hs61 : w60.cell? ⟨gb137, 0, none⟩ = some (.bool false) := (blk_cell BK137.out 0).trans rfl
                                  have hfs61 := blk_frozen BK137.out 0
                                  have hns61_0 := NB121_137.out
                                  have hms61_0 := NB137_121.out
                                  have hs62 : w60.cell? ⟨gb137, 1, none⟩ = some (.bool false) := (blk_cell BK137.out 1).trans rfl
                                  have hfs62 := blk_frozen BK137.out 1
                                  have hns62_0 := NB121_137.out
                                  have hms62_0 := NB137_121.out
                                  have hs63 : w60.cell? ⟨gb137, 2, none⟩ = some (.string (⟨#[]⟩ : ByteArray)) := (blk_cell BK137.out 2).trans rfl
                                  have hfs63 := blk_frozen BK137.out 2
                                  have hns63_0 := NB121_137.out
                                  have hms63_0 := NB137_121.out
                                  have hs64 : w60.cell? ⟨gb137, 3, none⟩ = some (.int .i64 0) := (blk_cell BK137.out 3).trans rfl
                                  have hfs64 := blk_frozen BK137.out 3
                                  have hns64_0 := NB121_137.out
                                  have hms64_0 := NB137_121.out
                                  refine skip_ (w1 := ?_) (by rfl) rfl ?_ ?_
                                  rotate_left
                                  · go_simp
                                    rfl
                                  refine hK.out _ _ trivial (fun hHeld => ?_)
                                  clear hK K
                                  refine done_ (done_of HT_.out (by kernel_rfl)) ?_
                                  have hnb65 := NB137_121.out
                                  have hnc65 := NB121_137.out
                                  have hcz66_0 : w60.cell? ⟨gb137, 0, none⟩ = some (.bool false) := (blk_cell BK137.out 0).trans rfl
                                  have hcz66_1 : w60.cell? ⟨gb137, 1, none⟩ = some (.bool false) := (blk_cell BK137.out 1).trans rfl
                                  have hcz66_2 : w60.cell? ⟨gb137, 2, none⟩ = some (.string (⟨#[]⟩ : ByteArray)) := (blk_cell BK137.out 2).trans rfl
                                  have hcz66_3 : w60.cell? ⟨gb137, 3, none⟩ = some (.int .i64 0) := (blk_cell BK137.out 3).trans rfl
                                  have hfz66_0 := blk_frozen BK137.out 0
                                  have hfz66_1 := blk_frozen BK137.out 1
                                  have hfz66_2 := blk_frozen BK137.out 2
                                  have hfz66_3 := blk_frozen BK137.out 3
                                  try go_wp2_with (first | ((with_reducible refine gate_callee (f := 44) rfl ?_); refine goesL_ (some 117) rfl rfl Tryz.func44 (by kernel_rfl) rfl #[.agg #[.bool false, .bool ((bt a0 0) == 45), .string x7_23, .int .i64 t136]] rfl (by (try simp only [List.map_toArray, List.map_cons, List.map_nil]); first | done | rfl | (simp only [List.length_drop, List.length_take]; rfl)) ?_; (with_reducible refine (vernierref18_Normed.calls kj34 false ((bt a0 0) == 45) x7_23 t136 t138 t139 t140 t141 _ A57.out).mono ?_); rintro e w67 ⟨rfl, hb⟩; refine ⟨_, rfl, ?_⟩; have n0_ := Aside0.mk (blk_below (g := gb121) (o := .cells #[.bool x122000_34, .bool x122001_34, .string x122002_34, .int .i64 x122003_34] 36 (0, 0)) (by (with_reducible repeat (first | refine blk_drewN ?_ _ | refine blk_drew ?_ | refine blk_alloc ?_ _)); refine blk_far ?_ NB121_137.out _; (with_reducible repeat (first | refine blk_drewN ?_ _ | refine blk_drew ?_ | refine blk_alloc ?_ _)); refine blk_far ?_ NB121_137.out _; (with_reducible repeat (first | refine blk_drewN ?_ _ | refine blk_drew ?_ | refine blk_alloc ?_ _)); refine blk_far ?_ NB121_137.out _; (with_reducible repeat (first | refine blk_drewN ?_ _ | refine blk_drew ?_ | refine blk_alloc ?_ _)); refine blk_far ?_ NB121_137.out _; (with_reducible repeat (first | refine blk_drewN ?_ _ | refine blk_drew ?_ | refine blk_alloc ?_ _)); exact BK121.out) hb); have n1_ := Aside0.mk (blk_below (g := gb137) (o := .cells #[.bool false, .bool ((bt a0 0) == 45), .string x7_23, .int .i64 t136] 36 (0, 0)) (by (with_reducible repeat (first | refine blk_drewN ?_ _ | refine blk_drew ?_ | refine blk_alloc ?_ _)); refine blk_put (cs := #[.bool false, .bool ((bt a0 0) == 45), .string x7_23, .int .i64 0]) ?_ 3 _ rfl; (with_reducible repeat (first | refine blk_drewN ?_ _ | refine blk_drew ?_ | refine blk_alloc ?_ _)); refine blk_put (cs := #[.bool false, .bool ((bt a0 0) == 45), .string (⟨#[]⟩ : ByteArray), .int .i64 0]) ?_ 2 _ rfl; (with_reducible repeat (first | refine blk_drewN ?_ _ | refine blk_drew ?_ | refine blk_alloc ?_ _)); refine blk_put (cs := #[.bool false, .bool false, .string (⟨#[]⟩ : ByteArray), .int .i64 0]) ?_ 1 _ rfl; (with_reducible repeat (first | refine blk_drewN ?_ _ | refine blk_drew ?_ | refine blk_alloc ?_ _)); refine blk_put (cs := #[.bool false, .bool false, .string (⟨#[]⟩ : ByteArray), .int .i64 0]) ?_ 0 _ rfl; (with_reducible repeat (first | refine blk_drewN ?_ _ | refine blk_drew ?_ | refine blk_alloc ?_ _)); exact BK137.out) hb); have n2_ := Aside0.mk (below_step (by repeat (first | (with_reducible first | exact HB.out | apply below_alloc | apply pw_below_drewN | apply below_drew1 | refine below_set ?_ GE121.out | refine below_set ?_ GE137.out) | exact HB.out)) hb); clear BK121; clear BK137; clear HB; have BK121 := n0_; have BK137 := n1_; have HB := n2_; clear n0_ n1_ n2_; (try clear hb); (try clear hb2); (try clear hk); (try clear hi); have hcz68_0 : w67.cell? ⟨gb121, 0, none⟩ = some (.bool x122000_34) := (blk_cell BK121.out 0).trans rfl; have hcz68_1 : w67.cell? ⟨gb121, 1, none⟩ = some (.bool x122001_34) := (blk_cell BK121.out 1).trans rfl; have hcz68_2 : w67.cell? ⟨gb121, 2, none⟩ = some (.string x122002_34) := (blk_cell BK121.out 2).trans rfl; have hcz68_3 : w67.cell? ⟨gb121, 3, none⟩ = some (.int .i64 x122003_34) := (blk_cell BK121.out 3).trans rfl; have hfz68_0 := blk_frozen BK121.out 0; have hfz68_1 := blk_frozen BK121.out 1; have hfz68_2 := blk_frozen BK121.out 2; have hfz68_3 := blk_frozen BK121.out 3))
                                  refine bodyPost_ret (results_ctt rfl _ _ gb121 36 #[.bool t138, .bool t139, .string t140, .int .i64 t141] (0, 0) _ rfl (by (with_reducible repeat (first | refine blk_drewN ?_ _ | refine blk_drew ?_ | refine blk_alloc ?_ _)); refine blk_put (cs := #[.bool t138, .bool t139, .string t140, .int .i64 x122003_34]) ?_ 3 _ rfl; (with_reducible repeat (first | refine blk_drewN ?_ _ | refine blk_drew ?_ | refine blk_alloc ?_ _)); refine blk_put (cs := #[.bool t138, .bool t139, .string x122002_34, .int .i64 x122003_34]) ?_ 2 _ rfl; (with_reducible repeat (first | refine blk_drewN ?_ _ | refine blk_drew ?_ | refine blk_alloc ?_ _)); refine blk_put (cs := #[.bool t138, .bool x122001_34, .string x122002_34, .int .i64 x122003_34]) ?_ 1 _ rfl; (with_reducible repeat (first | refine blk_drewN ?_ _ | refine blk_drew ?_ | refine blk_alloc ?_ _)); refine blk_put (cs := #[.bool x122000_34, .bool x122001_34, .string x122002_34, .int .i64 x122003_34]) ?_ 0 _ rfl; (with_reducible repeat (first | refine blk_drewN ?_ _ | refine blk_drew ?_ | refine blk_alloc ?_ _)); exact BK121.out) Tryz.underlying36 rfl (by kernel_rfl)) rfl ?_
                                  exact ⟨by first | rfl | (simp [errW_none, errW_some] <;> rfl) | (simp [*, errW_none, errW_some] <;> rfl), by repeat (first | (with_reducible first | exact HB.out | apply below_alloc | apply pw_below_drewN | apply below_drew1 | refine below_set ?_ GE121.out | refine below_set ?_ GE137.out) | exact HB.out)⟩
                                · rw [if_neg c54] at H
                                  exact absurd H (by simp)
                    · rw [if_neg c22] at H
                      exact absurd H (by simp)
                  · rw [if_neg c21] at H
                    exact absurd H (by simp)
                · rw [if_neg c20] at H
                  exact absurd H (by simp)
end Go.Proofs.YthhkmpicpihjlaaGreatDoor.PSc
