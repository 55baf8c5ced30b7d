/- PScx3: the part that this claim needs. -/
import Derived.Test.YthhkmpicpihjlaaDoorQSPScx0
namespace Go.Proofs.YthhkmpicpihjlaaDoor.PSc
open Go.RowKit Go.Proofs.YthhkmpicpihjlaaDoorW.PrintWords Go.Proofs.YthhkmpicpihjlaaDoorW.PrintLast Go.Proofs.YthhkmpicpihjlaaDoorW.PrintMore
open Go.Proofs.YthhkmpicpihjlaaDoor.M
attribute [local go_sem] runx_add64 runx_sub64 eql_cc eql_nc neq_cc neq_nc
attribute [local go_sem] max2_int min2_int max_two min_two max_three min_three max_four min_four   -- for this text's walks alone
set_option linter.unusedVariables false
set_option linter.unusedSimpArgs false
def IsS87 (w0 W : World) (g : Nat) (f0 : Int) (f1 : Bool) (f2 : List Int) (f3 : Int) (f4 : Bool) (f5 : Int) : Prop := ∃ A2 c2, W.heap[g]? = some (.cells #[.int .i64 f0, .bool f1, .slice A2 f2.length c2, .int .i64 f3, .bool f4, .int .i64 f5] 87 (0, 0)) ∧ w0.heap.size ≤ g ∧ Kd.C (Kd.int .u8) w0 A2 f2.length f2
theorem IsS87.grown {w0 W : World} {g : Nat} {f0 : Int} {f1 : Bool} {f2 : List Int} {f3 : Int} {f4 : Bool} {f5 : Int} {W1 : World} {row : Option Nat} (h : IsS87 w0 W g f0 f1 f2 f3 f4 f5) (hw : W.grownBy W1 row) (hne : some g ≠ row) : IsS87 w0 W1 g f0 f1 f2 f3 f4 f5 := by
  obtain ⟨A2, c2, hb, hg, hr2⟩ := h
  exact ⟨A2, c2, blk_grown hb hw hne, hg, hr2⟩
theorem IsS87.kept {w0 W : World} {g : Nat} {f0 : Int} {f1 : Bool} {f2 : List Int} {f3 : Int} {f4 : Bool} {f5 : Int} {W1 : World} {S : Nat → Prop} (h : IsS87 w0 W g f0 f1 f2 f3 f4 f5) (hk : Kept W W1 S) (hne : ¬ S g) : IsS87 w0 W1 g f0 f1 f2 f3 f4 f5 := by
  obtain ⟨A2, c2, hb, hg, hr2⟩ := h
  exact ⟨A2, c2, blk_kept hb hk hne, hg, hr2⟩
theorem IsS87.below {w0 W : World} {g : Nat} {f0 : Int} {f1 : Bool} {f2 : List Int} {f3 : Int} {f4 : Bool} {f5 : Int} {W1 : World} (h : IsS87 w0 W g f0 f1 f2 f3 f4 f5) (hw : Below W.heap.size W W1) : IsS87 w0 W1 g f0 f1 f2 f3 f4 f5 := h.grown (grown_of_below hw none) (by simp)
theorem IsS87.alloc {w0 W : World} {g : Nat} {f0 : Int} {f1 : Bool} {f2 : List Int} {f3 : Int} {f4 : Bool} {f5 : Int} (h : IsS87 w0 W g f0 f1 f2 f3 f4 f5) (o : Obj) : IsS87 w0 (W.alloc o) g f0 f1 f2 f3 f4 f5 := h.below (below_alloc (Below.refl _ _) o)
theorem IsS87.drewN {w0 W : World} {g : Nat} {f0 : Int} {f1 : Bool} {f2 : List Int} {f3 : Int} {f4 : Bool} {f5 : Int} (h : IsS87 w0 W g f0 f1 f2 f3 f4 f5) (m : Nat) : IsS87 w0 (W.drewN m) g f0 f1 f2 f3 f4 f5 := h
theorem IsS87.drew {w0 W : World} {g : Nat} {f0 : Int} {f1 : Bool} {f2 : List Int} {f3 : Int} {f4 : Bool} {f5 : Int} (h : IsS87 w0 W g f0 f1 f2 f3 f4 f5) : IsS87 w0 W.drew g f0 f1 f2 f3 f4 f5 := h
theorem IsS87.apart {w0 W : World} {g : Nat} {f0 : Int} {f1 : Bool} {f2 : List Int} {f3 : Int} {f4 : Bool} {f5 : Int} {α : Type} {d : Kd α} {e : Nat} {base : Nat} {ok : Nat → Prop} {v : Value} {xs : List α} (h : IsS87 w0 W g f0 f1 f2 f3 f4 f5) (ho : d.R e W base ok v xs) (ht : ∀ q, q ∈ e :: d.E → q ≠ 87) : d.R e W base (fun k => ok k ∧ k ≠ g) v xs := by
  obtain ⟨A2, c2, hb, hg, hr2⟩ := h
  exact Kd.R_types ho hb ht
theorem IsS87.own_ne {w0 W : World} {g : Nat} {f0 : Int} {f1 : Bool} {f2 : List Int} {f3 : Int} {f4 : Bool} {f5 : Int} {α : Type} {d : Kd α} {e : Nat} {base : Nat} {ok : Nat → Prop} {v : Value} {xs : List α} (h : IsS87 w0 W g f0 f1 f2 f3 f4 f5) (ho : d.R e W base ok v xs) (ht : e ≠ 87) : some g ≠ v.ownBlock := by
  obtain ⟨A2, c2, hb, hg, hr2⟩ := h
  exact Kd.R_ne ho hb ht
theorem IsS87.lt {w0 W : World} {g : Nat} {f0 : Int} {f1 : Bool} {f2 : List Int} {f3 : Int} {f4 : Bool} {f5 : Int} (h : IsS87 w0 W g f0 f1 f2 f3 f4 f5) : g < W.heap.size := by
  obtain ⟨A2, c2, hb, hg, hr2⟩ := h
  exact blk_lt hb
theorem IsS87.far {w0 W : World} {g : Nat} {f0 : Int} {f1 : Bool} {f2 : List Int} {f3 : Int} {f4 : Bool} {f5 : Int} {p : Addr} (h : IsS87 w0 W g f0 f1 f2 f3 f4 f5) (hne : g ≠ p.block) (u : Value) : IsS87 w0 (W.setCell p u) g f0 f1 f2 f3 f4 f5 := by
  obtain ⟨A2, c2, hb, hg, hr2⟩ := h
  exact ⟨A2, c2, blk_far hb hne u, hg, hr2⟩
def vernierlaw00_further.f (a0 : Option Int) : Option (Int) := if a0.isNone = true then (some (-1)) else (if (a0.getD 0) = 13 then (some 13) else (if (a0.getD 0) = 14 then (some 14) else (if (a0.getD 0) = 15 then (some 15) else (if (a0.getD 0) = 16 then (some 16) else (if (a0.getD 0) = 17 then (some 17) else (if (a0.getD 0) = 18 then (some 18) else (if (a0.getD 0) = 19 then (some 19) else (if (a0.getD 0) = 20 then (some 20) else (if (a0.getD 0) = 21 then (some 21) else (if (a0.getD 0) = 22 then (some 22) else (if (a0.getD 0) = 23 then (some 23) else (if (a0.getD 0) = 24 then (some 24) else (some (-1))))))))))))))
set_option maxHeartbeats 8000000 in
set_option maxRecDepth 100000 in
theorem vernierlaw00_further.calls (a0 : Option Int) (r : Int) (w : World) (h : vernierlaw00_further.f a0 = some r) :
    Calls Tryd.prog 42 #[errW a0] w fun e w' => e = .returned (.int .i64 r) ∧ Drawn0 w w' := by
  have hu31 := Tryd.underlying31
  have hu52 := Tryd.underlying52
  have H : (if a0.isNone = true then (some (-1)) else (if (a0.getD 0) = 13 then (some 13) else (if (a0.getD 0) = 14 then (some 14) else (if (a0.getD 0) = 15 then (some 15) else (if (a0.getD 0) = 16 then (some 16) else (if (a0.getD 0) = 17 then (some 17) else (if (a0.getD 0) = 18 then (some 18) else (if (a0.getD 0) = 19 then (some 19) else (if (a0.getD 0) = 20 then (some 20) else (if (a0.getD 0) = 21 then (some 21) else (if (a0.getD 0) = 22 then (some 22) else (if (a0.getD 0) = 23 then (some 23) else (if (a0.getD 0) = 24 then (some 24) else (some (-1))))))))))))))) = some r := h
  clear h
  rcases a0 with _ | q118
  · have H1 : (some (-1)) = some r := by rw [if_pos (show (none : Option Int).isNone = true by rfl)] at H; exact H
    clear H
    have H := H1
    clear H1
    simp only [errW_none, errW_some]
    obtain rfl := Option.some.inj H
    go_enter Tryd.func42, Tryd.ntmps42
    go_wp2
    go_ret
    exact ⟨by first | rfl | (simp; done) | (simp [*]; done), by repeat (first | exact Drawn0.refl _ | apply Drawn0.step)⟩
  · have H1 : (if q118 = 13 then (some 13) else (if q118 = 14 then (some 14) else (if q118 = 15 then (some 15) else (if q118 = 16 then (some 16) else (if q118 = 17 then (some 17) else (if q118 = 18 then (some 18) else (if q118 = 19 then (some 19) else (if q118 = 20 then (some 20) else (if q118 = 21 then (some 21) else (if q118 = 22 then (some 22) else (if q118 = 23 then (some 23) else (if q118 = 24 then (some 24) else (some (-1)))))))))))))) = some r := by rw [if_neg (show ¬ (some q118).isNone = true by simp)] at H; exact H
    clear H
    have H := H1
    clear H1
    simp only [errW_none, errW_some]
    by_cases c2 : q118 = 13
    · rw [if_pos c2] at H
      have c2b0 : (q118 == 13) = true := beq_iff_eq.mpr c2
      have c2b1 : (q118 != 13) = false := bne_eq_false_iff_eq.mpr c2
      clear c2
      obtain rfl := Option.some.inj H
      go_enter Tryd.func42, Tryd.ntmps42
      go_wp2
      go_ret
      exact ⟨by first | rfl | (simp; done) | (simp [*]; done), by repeat (first | exact Drawn0.refl _ | apply Drawn0.step)⟩
    · rw [if_neg c2] at H
      have c2b0 : (q118 == 13) = false := beq_eq_false_iff_ne.mpr c2
      have c2b1 : (q118 != 13) = true := bne_iff_ne.mpr c2
      by_cases c3 : q118 = 14
      · rw [if_pos c3] at H
        have c3b0 : (q118 == 14) = true := beq_iff_eq.mpr c3
        have c3b1 : (q118 != 14) = false := bne_eq_false_iff_eq.mpr c3
        clear c3
        obtain rfl := Option.some.inj H
        go_enter Tryd.func42, Tryd.ntmps42
        go_wp2
        go_ret
        exact ⟨by first | rfl | (simp; done) | (simp [*]; done), by repeat (first | exact Drawn0.refl _ | apply Drawn0.step)⟩
      · rw [if_neg c3] at H
        have c3b0 : (q118 == 14) = false := beq_eq_false_iff_ne.mpr c3
        have c3b1 : (q118 != 14) = true := bne_iff_ne.mpr c3
        by_cases c4 : q118 = 15
        · rw [if_pos c4] at H
          have c4b0 : (q118 == 15) = true := beq_iff_eq.mpr c4
          have c4b1 : (q118 != 15) = false := bne_eq_false_iff_eq.mpr c4
          clear c4
          obtain rfl := Option.some.inj H
          go_enter Tryd.func42, Tryd.ntmps42
          go_wp2
          go_ret
          exact ⟨by first | rfl | (simp; done) | (simp [*]; done), by repeat (first | exact Drawn0.refl _ | apply Drawn0.step)⟩
        · rw [if_neg c4] at H
          have c4b0 : (q118 == 15) = false := beq_eq_false_iff_ne.mpr c4
          have c4b1 : (q118 != 15) = true := bne_iff_ne.mpr c4
          by_cases c5 : q118 = 16
          · rw [if_pos c5] at H
            have c5b0 : (q118 == 16) = true := beq_iff_eq.mpr c5
            have c5b1 : (q118 != 16) = false := bne_eq_false_iff_eq.mpr c5
            clear c5
            obtain rfl := Option.some.inj H
            go_enter Tryd.func42, Tryd.ntmps42
            go_wp2
            go_ret
            exact ⟨by first | rfl | (simp; done) | (simp [*]; done), by repeat (first | exact Drawn0.refl _ | apply Drawn0.step)⟩
          · rw [if_neg c5] at H
            have c5b0 : (q118 == 16) = false := beq_eq_false_iff_ne.mpr c5
            have c5b1 : (q118 != 16) = true := bne_iff_ne.mpr c5
            by_cases c6 : q118 = 17
            · rw [if_pos c6] at H
              have c6b0 : (q118 == 17) = true := beq_iff_eq.mpr c6
              have c6b1 : (q118 != 17) = false := bne_eq_false_iff_eq.mpr c6
              clear c6
              obtain rfl := Option.some.inj H
              go_enter Tryd.func42, Tryd.ntmps42
              go_wp2
              go_ret
              exact ⟨by first | rfl | (simp; done) | (simp [*]; done), by repeat (first | exact Drawn0.refl _ | apply Drawn0.step)⟩
            · rw [if_neg c6] at H
              have c6b0 : (q118 == 17) = false := beq_eq_false_iff_ne.mpr c6
              have c6b1 : (q118 != 17) = true := bne_iff_ne.mpr c6
              by_cases c7 : q118 = 18
              · rw [if_pos c7] at H
                have c7b0 : (q118 == 18) = true := beq_iff_eq.mpr c7
                have c7b1 : (q118 != 18) = false := bne_eq_false_iff_eq.mpr c7
                clear c7
                obtain rfl := Option.some.inj H
                go_enter Tryd.func42, Tryd.ntmps42
                go_wp2
                go_ret
                exact ⟨by first | rfl | (simp; done) | (simp [*]; done), by repeat (first | exact Drawn0.refl _ | apply Drawn0.step)⟩
              · rw [if_neg c7] at H
                have c7b0 : (q118 == 18) = false := beq_eq_false_iff_ne.mpr c7
                have c7b1 : (q118 != 18) = true := bne_iff_ne.mpr c7
                by_cases c8 : q118 = 19
                · rw [if_pos c8] at H
                  have c8b0 : (q118 == 19) = true := beq_iff_eq.mpr c8
                  have c8b1 : (q118 != 19) = false := bne_eq_false_iff_eq.mpr c8
                  clear c8
                  obtain rfl := Option.some.inj H
                  go_enter Tryd.func42, Tryd.ntmps42
                  go_wp2
                  go_ret
                  exact ⟨by first | rfl | (simp; done) | (simp [*]; done), by repeat (first | exact Drawn0.refl _ | apply Drawn0.step)⟩
                · rw [if_neg c8] at H
                  have c8b0 : (q118 == 19) = false := beq_eq_false_iff_ne.mpr c8
                  have c8b1 : (q118 != 19) = true := bne_iff_ne.mpr c8
                  by_cases c9 : q118 = 20
                  · rw [if_pos c9] at H
                    have c9b0 : (q118 == 20) = true := beq_iff_eq.mpr c9
                    have c9b1 : (q118 != 20) = false := bne_eq_false_iff_eq.mpr c9
                    clear c9
                    obtain rfl := Option.some.inj H
                    go_enter Tryd.func42, Tryd.ntmps42
                    go_wp2
                    go_ret
                    exact ⟨by first | rfl | (simp; done) | (simp [*]; done), by repeat (first | exact Drawn0.refl _ | apply Drawn0.step)⟩
                  · rw [if_neg c9] at H
                    have c9b0 : (q118 == 20) = false := beq_eq_false_iff_ne.mpr c9
                    have c9b1 : (q118 != 20) = true := bne_iff_ne.mpr c9
                    by_cases c10 : q118 = 21
                    · rw [if_pos c10] at H
                      have c10b0 : (q118 == 21) = true := beq_iff_eq.mpr c10
                      have c10b1 : (q118 != 21) = false := bne_eq_false_iff_eq.mpr c10
                      clear c10
                      obtain rfl := Option.some.inj H
                      go_enter Tryd.func42, Tryd.ntmps42
                      go_wp2
                      go_ret
                      exact ⟨by first | rfl | (simp; done) | (simp [*]; done), by repeat (first | exact Drawn0.refl _ | apply Drawn0.step)⟩
                    · rw [if_neg c10] at H
                      have c10b0 : (q118 == 21) = false := beq_eq_false_iff_ne.mpr c10
                      have c10b1 : (q118 != 21) = true := bne_iff_ne.mpr c10
                      by_cases c11 : q118 = 22
                      · rw [if_pos c11] at H
                        have c11b0 : (q118 == 22) = true := beq_iff_eq.mpr c11
                        have c11b1 : (q118 != 22) = false := bne_eq_false_iff_eq.mpr c11
                        clear c11
                        obtain rfl := Option.some.inj H
                        go_enter Tryd.func42, Tryd.ntmps42
                        go_wp2
                        go_ret
                        exact ⟨by first | rfl | (simp; done) | (simp [*]; done), by repeat (first | exact Drawn0.refl _ | apply Drawn0.step)⟩
                      · rw [if_neg c11] at H
                        have c11b0 : (q118 == 22) = false := beq_eq_false_iff_ne.mpr c11
                        have c11b1 : (q118 != 22) = true := bne_iff_ne.mpr c11
                        by_cases c12 : q118 = 23
                        · rw [if_pos c12] at H
                          have c12b0 : (q118 == 23) = true := beq_iff_eq.mpr c12
                          have c12b1 : (q118 != 23) = false := bne_eq_false_iff_eq.mpr c12
                          clear c12
                          obtain rfl := Option.some.inj H
                          go_enter Tryd.func42, Tryd.ntmps42
                          go_wp2
                          go_ret
                          exact ⟨by first | rfl | (simp; done) | (simp [*]; done), by repeat (first | exact Drawn0.refl _ | apply Drawn0.step)⟩
                        · rw [if_neg c12] at H
                          have c12b0 : (q118 == 23) = false := beq_eq_false_iff_ne.mpr c12
                          have c12b1 : (q118 != 23) = true := bne_iff_ne.mpr c12
                          by_cases c13 : q118 = 24
                          · rw [if_pos c13] at H
                            have c13b0 : (q118 == 24) = true := beq_iff_eq.mpr c13
                            have c13b1 : (q118 != 24) = false := bne_eq_false_iff_eq.mpr c13
                            clear c13
                            obtain rfl := Option.some.inj H
                            go_enter Tryd.func42, Tryd.ntmps42
                            go_wp2
                            go_ret
                            exact ⟨by first | rfl | (simp; done) | (simp [*]; done), by repeat (first | exact Drawn0.refl _ | apply Drawn0.step)⟩
                          · rw [if_neg c13] at H
                            have c13b0 : (q118 == 24) = false := beq_eq_false_iff_ne.mpr c13
                            have c13b1 : (q118 != 24) = true := bne_iff_ne.mpr c13
                            obtain rfl := Option.some.inj H
                            go_enter Tryd.func42, Tryd.ntmps42
                            go_wp2
                            go_ret
                            exact ⟨by first | rfl | (simp; done) | (simp [*]; done), by repeat (first | exact Drawn0.refl _ | apply Drawn0.step)⟩
def vernierlaw00_Code.f (a0 : Option Int) : Option (Int) := if a0.isNone = true then (some 0) else (if (a0.getD 0) = 1 then (some 1) else (if (a0.getD 0) = 2 then (some 2) else (if (a0.getD 0) = 3 then (some 3) else (if (a0.getD 0) = 4 then (some 4) else (if (a0.getD 0) = 5 then (some 5) else (if (a0.getD 0) = 6 then (some 6) else (if (a0.getD 0) = 7 then (some 7) else (if (a0.getD 0) = 8 then (some 8) else (if (a0.getD 0) = 9 then (some 9) else (if (a0.getD 0) = 10 then (some 10) else (if (a0.getD 0) = 11 then (some 11) else (if (a0.getD 0) = 12 then (some 12) else ((vernierlaw00_further.f (some (a0.getD 0))).bind fun t120 => (some t120))))))))))))))
set_option maxHeartbeats 8000000 in
set_option maxRecDepth 100000 in
theorem vernierlaw00_Code.calls (a0 : Option Int) (r : Int) (w : World) (h : vernierlaw00_Code.f a0 = some r) :
    Calls Tryd.prog 24 #[errW a0] w fun e w' => e = .returned (.int .i64 r) ∧ Drawn0 w w' := by
  have hu31 := Tryd.underlying31
  have hu52 := Tryd.underlying52
  have H : (if a0.isNone = true then (some 0) else (if (a0.getD 0) = 1 then (some 1) else (if (a0.getD 0) = 2 then (some 2) else (if (a0.getD 0) = 3 then (some 3) else (if (a0.getD 0) = 4 then (some 4) else (if (a0.getD 0) = 5 then (some 5) else (if (a0.getD 0) = 6 then (some 6) else (if (a0.getD 0) = 7 then (some 7) else (if (a0.getD 0) = 8 then (some 8) else (if (a0.getD 0) = 9 then (some 9) else (if (a0.getD 0) = 10 then (some 10) else (if (a0.getD 0) = 11 then (some 11) else (if (a0.getD 0) = 12 then (some 12) else ((vernierlaw00_further.f (some (a0.getD 0))).bind fun t120 => (some t120))))))))))))))) = some r := h
  clear h
  rcases a0 with _ | q119
  · have H1 : (some 0) = some r := by rw [if_pos (show (none : Option Int).isNone = true by rfl)] at H; exact H
    clear H
    have H := H1
    clear H1
    simp only [errW_none, errW_some]
    obtain rfl := Option.some.inj H
    go_enter Tryd.func24, Tryd.ntmps24
    go_wp2
    go_ret
    exact ⟨by first | rfl | (simp; done) | (simp [*]; done), by repeat (first | exact Drawn0.refl _ | apply Drawn0.step)⟩
  · have H1 : (if q119 = 1 then (some 1) else (if q119 = 2 then (some 2) else (if q119 = 3 then (some 3) else (if q119 = 4 then (some 4) else (if q119 = 5 then (some 5) else (if q119 = 6 then (some 6) else (if q119 = 7 then (some 7) else (if q119 = 8 then (some 8) else (if q119 = 9 then (some 9) else (if q119 = 10 then (some 10) else (if q119 = 11 then (some 11) else (if q119 = 12 then (some 12) else ((vernierlaw00_further.f (some q119)).bind fun t120 => (some t120)))))))))))))) = some r := by rw [if_neg (show ¬ (some q119).isNone = true by simp)] at H; exact H
    clear H
    have H := H1
    clear H1
    simp only [errW_none, errW_some]
    by_cases c2 : q119 = 1
    · rw [if_pos c2] at H
      have c2b0 : (q119 == 1) = true := beq_iff_eq.mpr c2
      have c2b1 : (q119 != 1) = false := bne_eq_false_iff_eq.mpr c2
      clear c2
      obtain rfl := Option.some.inj H
      go_enter Tryd.func24, Tryd.ntmps24
      go_wp2
      go_ret
      exact ⟨by first | rfl | (simp; done) | (simp [*]; done), by repeat (first | exact Drawn0.refl _ | apply Drawn0.step)⟩
    · rw [if_neg c2] at H
      have c2b0 : (q119 == 1) = false := beq_eq_false_iff_ne.mpr c2
      have c2b1 : (q119 != 1) = true := bne_iff_ne.mpr c2
      by_cases c3 : q119 = 2
      · rw [if_pos c3] at H
        have c3b0 : (q119 == 2) = true := beq_iff_eq.mpr c3
        have c3b1 : (q119 != 2) = false := bne_eq_false_iff_eq.mpr c3
        clear c3
        obtain rfl := Option.some.inj H
        go_enter Tryd.func24, Tryd.ntmps24
        go_wp2
        go_ret
        exact ⟨by first | rfl | (simp; done) | (simp [*]; done), by repeat (first | exact Drawn0.refl _ | apply Drawn0.step)⟩
      · rw [if_neg c3] at H
        have c3b0 : (q119 == 2) = false := beq_eq_false_iff_ne.mpr c3
        have c3b1 : (q119 != 2) = true := bne_iff_ne.mpr c3
        by_cases c4 : q119 = 3
        · rw [if_pos c4] at H
          have c4b0 : (q119 == 3) = true := beq_iff_eq.mpr c4
          have c4b1 : (q119 != 3) = false := bne_eq_false_iff_eq.mpr c4
          clear c4
          obtain rfl := Option.some.inj H
          go_enter Tryd.func24, Tryd.ntmps24
          go_wp2
          go_ret
          exact ⟨by first | rfl | (simp; done) | (simp [*]; done), by repeat (first | exact Drawn0.refl _ | apply Drawn0.step)⟩
        · rw [if_neg c4] at H
          have c4b0 : (q119 == 3) = false := beq_eq_false_iff_ne.mpr c4
          have c4b1 : (q119 != 3) = true := bne_iff_ne.mpr c4
          by_cases c5 : q119 = 4
          · rw [if_pos c5] at H
            have c5b0 : (q119 == 4) = true := beq_iff_eq.mpr c5
            have c5b1 : (q119 != 4) = false := bne_eq_false_iff_eq.mpr c5
            clear c5
            obtain rfl := Option.some.inj H
            go_enter Tryd.func24, Tryd.ntmps24
            go_wp2
            go_ret
            exact ⟨by first | rfl | (simp; done) | (simp [*]; done), by repeat (first | exact Drawn0.refl _ | apply Drawn0.step)⟩
          · rw [if_neg c5] at H
            have c5b0 : (q119 == 4) = false := beq_eq_false_iff_ne.mpr c5
            have c5b1 : (q119 != 4) = true := bne_iff_ne.mpr c5
            by_cases c6 : q119 = 5
            · rw [if_pos c6] at H
              have c6b0 : (q119 == 5) = true := beq_iff_eq.mpr c6
              have c6b1 : (q119 != 5) = false := bne_eq_false_iff_eq.mpr c6
              clear c6
              obtain rfl := Option.some.inj H
              go_enter Tryd.func24, Tryd.ntmps24
              go_wp2
              go_ret
              exact ⟨by first | rfl | (simp; done) | (simp [*]; done), by repeat (first | exact Drawn0.refl _ | apply Drawn0.step)⟩
            · rw [if_neg c6] at H
              have c6b0 : (q119 == 5) = false := beq_eq_false_iff_ne.mpr c6
              have c6b1 : (q119 != 5) = true := bne_iff_ne.mpr c6
              by_cases c7 : q119 = 6
              · rw [if_pos c7] at H
                have c7b0 : (q119 == 6) = true := beq_iff_eq.mpr c7
                have c7b1 : (q119 != 6) = false := bne_eq_false_iff_eq.mpr c7
                clear c7
                obtain rfl := Option.some.inj H
                go_enter Tryd.func24, Tryd.ntmps24
                go_wp2
                go_ret
                exact ⟨by first | rfl | (simp; done) | (simp [*]; done), by repeat (first | exact Drawn0.refl _ | apply Drawn0.step)⟩
              · rw [if_neg c7] at H
                have c7b0 : (q119 == 6) = false := beq_eq_false_iff_ne.mpr c7
                have c7b1 : (q119 != 6) = true := bne_iff_ne.mpr c7
                by_cases c8 : q119 = 7
                · rw [if_pos c8] at H
                  have c8b0 : (q119 == 7) = true := beq_iff_eq.mpr c8
                  have c8b1 : (q119 != 7) = false := bne_eq_false_iff_eq.mpr c8
                  clear c8
                  obtain rfl := Option.some.inj H
                  go_enter Tryd.func24, Tryd.ntmps24
                  go_wp2
                  go_ret
                  exact ⟨by first | rfl | (simp; done) | (simp [*]; done), by repeat (first | exact Drawn0.refl _ | apply Drawn0.step)⟩
                · rw [if_neg c8] at H
                  have c8b0 : (q119 == 7) = false := beq_eq_false_iff_ne.mpr c8
                  have c8b1 : (q119 != 7) = true := bne_iff_ne.mpr c8
                  by_cases c9 : q119 = 8
                  · rw [if_pos c9] at H
                    have c9b0 : (q119 == 8) = true := beq_iff_eq.mpr c9
                    have c9b1 : (q119 != 8) = false := bne_eq_false_iff_eq.mpr c9
                    clear c9
                    obtain rfl := Option.some.inj H
                    go_enter Tryd.func24, Tryd.ntmps24
                    go_wp2
                    go_ret
                    exact ⟨by first | rfl | (simp; done) | (simp [*]; done), by repeat (first | exact Drawn0.refl _ | apply Drawn0.step)⟩
                  · rw [if_neg c9] at H
                    have c9b0 : (q119 == 8) = false := beq_eq_false_iff_ne.mpr c9
                    have c9b1 : (q119 != 8) = true := bne_iff_ne.mpr c9
                    by_cases c10 : q119 = 9
                    · rw [if_pos c10] at H
                      have c10b0 : (q119 == 9) = true := beq_iff_eq.mpr c10
                      have c10b1 : (q119 != 9) = false := bne_eq_false_iff_eq.mpr c10
                      clear c10
                      obtain rfl := Option.some.inj H
                      go_enter Tryd.func24, Tryd.ntmps24
                      go_wp2
                      go_ret
                      exact ⟨by first | rfl | (simp; done) | (simp [*]; done), by repeat (first | exact Drawn0.refl _ | apply Drawn0.step)⟩
                    · rw [if_neg c10] at H
                      have c10b0 : (q119 == 9) = false := beq_eq_false_iff_ne.mpr c10
                      have c10b1 : (q119 != 9) = true := bne_iff_ne.mpr c10
                      by_cases c11 : q119 = 10
                      · rw [if_pos c11] at H
                        have c11b0 : (q119 == 10) = true := beq_iff_eq.mpr c11
                        have c11b1 : (q119 != 10) = false := bne_eq_false_iff_eq.mpr c11
                        clear c11
                        obtain rfl := Option.some.inj H
                        go_enter Tryd.func24, Tryd.ntmps24
                        go_wp2
                        go_ret
                        exact ⟨by first | rfl | (simp; done) | (simp [*]; done), by repeat (first | exact Drawn0.refl _ | apply Drawn0.step)⟩
                      · rw [if_neg c11] at H
                        have c11b0 : (q119 == 10) = false := beq_eq_false_iff_ne.mpr c11
                        have c11b1 : (q119 != 10) = true := bne_iff_ne.mpr c11
                        by_cases c12 : q119 = 11
                        · rw [if_pos c12] at H
                          have c12b0 : (q119 == 11) = true := beq_iff_eq.mpr c12
                          have c12b1 : (q119 != 11) = false := bne_eq_false_iff_eq.mpr c12
                          clear c12
                          obtain rfl := Option.some.inj H
                          go_enter Tryd.func24, Tryd.ntmps24
                          go_wp2
                          go_ret
                          exact ⟨by first | rfl | (simp; done) | (simp [*]; done), by repeat (first | exact Drawn0.refl _ | apply Drawn0.step)⟩
                        · rw [if_neg c12] at H
                          have c12b0 : (q119 == 11) = false := beq_eq_false_iff_ne.mpr c12
                          have c12b1 : (q119 != 11) = true := bne_iff_ne.mpr c12
                          by_cases c13 : q119 = 12
                          · rw [if_pos c13] at H
                            have c13b0 : (q119 == 12) = true := beq_iff_eq.mpr c13
                            have c13b1 : (q119 != 12) = false := bne_eq_false_iff_eq.mpr c13
                            clear c13
                            obtain rfl := Option.some.inj H
                            go_enter Tryd.func24, Tryd.ntmps24
                            go_wp2
                            go_ret
                            exact ⟨by first | rfl | (simp; done) | (simp [*]; done), by repeat (first | exact Drawn0.refl _ | apply Drawn0.step)⟩
                          · rw [if_neg c13] at H
                            have c13b0 : (q119 == 12) = false := beq_eq_false_iff_ne.mpr c13
                            have c13b1 : (q119 != 12) = true := bne_iff_ne.mpr c13
                            replace H := Option.bind_eq_some_iff.mp H
                            obtain ⟨t120, A140, H⟩ := H
                            replace H : (some t120) = some r := H
                            have A14 := Aside0.mk A140
                            clear A140
                            obtain rfl := Option.some.inj H
                            have CA14 := fun W => vernierlaw00_further.calls (some q119) t120 W A14.out
                            try simp only [errW_none, errW_some] at CA14
                            go_enter Tryd.func24, Tryd.ntmps24
                            go_wp2_with (first | (go_at_call 42; (with_reducible refine (CA14 _).mono ?_); rintro e w' ⟨rfl, ⟨nd, rfl⟩⟩))
                            go_ret
                            exact ⟨by first | rfl | (simp; done) | (simp [*]; done), by repeat (first | exact Drawn0.refl _ | apply Drawn0.step)⟩
end Go.Proofs.YthhkmpicpihjlaaDoor.PSc
