/- PScx2: the part that this claim needs. -/
import Derived.Test.YthhkmpicpihjlaaGreatDoorQVPScx0
namespace Go.Proofs.YthhkmpicpihjlaaGreatDoor.PSc
open Go.RowKit Go.Proofs.YthhkmpicpihjlaaGreatDoorW.PrintWords Go.Proofs.YthhkmpicpihjlaaGreatDoorW.PrintLast Go.Proofs.YthhkmpicpihjlaaGreatDoorW.PrintMore
open Go.Proofs.YthhkmpicpihjlaaGreatDoor.M
attribute [local go_sem] runx_add64 runx_sub64 eql_cc eql_nc neq_cc neq_nc
attribute [local go_sem] max2_int min2_int max_two min_two max_three min_three max_four min_four   -- for this text's walks alone
set_option linter.unusedVariables false
set_option linter.unusedSimpArgs false
def vernierlaw00_further.f (a0 : Option Int) : Option (Int) := if a0.isNone = true then (some (-1)) else (if (a0.getD 0) = 13 then (some 13) else (if (a0.getD 0) = 14 then (some 14) else (if (a0.getD 0) = 15 then (some 15) else (if (a0.getD 0) = 16 then (some 16) else (if (a0.getD 0) = 17 then (some 17) else (if (a0.getD 0) = 18 then (some 18) else (if (a0.getD 0) = 19 then (some 19) else (if (a0.getD 0) = 20 then (some 20) else (if (a0.getD 0) = 21 then (some 21) else (if (a0.getD 0) = 22 then (some 22) else (if (a0.getD 0) = 23 then (some 23) else (if (a0.getD 0) = 24 then (some 24) else (some (-1))))))))))))))
set_option maxHeartbeats 8000000 in
set_option maxRecDepth 100000 in
theorem vernierlaw00_further.calls (a0 : Option Int) (r : Int) (w : World) (h : vernierlaw00_further.f a0 = some r) :
    Calls Tryz.prog 45 #[errW a0] w fun e w' => e = .returned (.int .i64 r) ∧ Drawn0 w w' := by
  have hu26 := Tryz.underlying26
  have hu29 := Tryz.underlying29
  have H : (if a0.isNone = true then (some (-1)) else (if (a0.getD 0) = 13 then (some 13) else (if (a0.getD 0) = 14 then (some 14) else (if (a0.getD 0) = 15 then (some 15) else (if (a0.getD 0) = 16 then (some 16) else (if (a0.getD 0) = 17 then (some 17) else (if (a0.getD 0) = 18 then (some 18) else (if (a0.getD 0) = 19 then (some 19) else (if (a0.getD 0) = 20 then (some 20) else (if (a0.getD 0) = 21 then (some 21) else (if (a0.getD 0) = 22 then (some 22) else (if (a0.getD 0) = 23 then (some 23) else (if (a0.getD 0) = 24 then (some 24) else (some (-1))))))))))))))) = some r := h
  clear h
  rcases a0 with _ | q101
  · have H1 : (some (-1)) = some r := by rw [if_pos (show (none : Option Int).isNone = true by rfl)] at H; exact H
    clear H
    have H := H1
    clear H1
    simp only [errW_none, errW_some]
    obtain rfl := Option.some.inj H
    go_enter Tryz.func45, Tryz.ntmps45
    go_wp2
    go_ret
    exact ⟨by first | rfl | (simp; done) | (simp [*]; done), by repeat (first | exact Drawn0.refl _ | apply Drawn0.step)⟩
  · have H1 : (if q101 = 13 then (some 13) else (if q101 = 14 then (some 14) else (if q101 = 15 then (some 15) else (if q101 = 16 then (some 16) else (if q101 = 17 then (some 17) else (if q101 = 18 then (some 18) else (if q101 = 19 then (some 19) else (if q101 = 20 then (some 20) else (if q101 = 21 then (some 21) else (if q101 = 22 then (some 22) else (if q101 = 23 then (some 23) else (if q101 = 24 then (some 24) else (some (-1)))))))))))))) = some r := by rw [if_neg (show ¬ (some q101).isNone = true by simp)] at H; exact H
    clear H
    have H := H1
    clear H1
    simp only [errW_none, errW_some]
    by_cases c2 : q101 = 13
    · rw [if_pos c2] at H
      have c2b0 : (q101 == 13) = true := beq_iff_eq.mpr c2
      have c2b1 : (q101 != 13) = false := bne_eq_false_iff_eq.mpr c2
      clear c2
      obtain rfl := Option.some.inj H
      go_enter Tryz.func45, Tryz.ntmps45
      go_wp2
      go_ret
      exact ⟨by first | rfl | (simp; done) | (simp [*]; done), by repeat (first | exact Drawn0.refl _ | apply Drawn0.step)⟩
    · rw [if_neg c2] at H
      have c2b0 : (q101 == 13) = false := beq_eq_false_iff_ne.mpr c2
      have c2b1 : (q101 != 13) = true := bne_iff_ne.mpr c2
      by_cases c3 : q101 = 14
      · rw [if_pos c3] at H
        have c3b0 : (q101 == 14) = true := beq_iff_eq.mpr c3
        have c3b1 : (q101 != 14) = false := bne_eq_false_iff_eq.mpr c3
        clear c3
        obtain rfl := Option.some.inj H
        go_enter Tryz.func45, Tryz.ntmps45
        go_wp2
        go_ret
        exact ⟨by first | rfl | (simp; done) | (simp [*]; done), by repeat (first | exact Drawn0.refl _ | apply Drawn0.step)⟩
      · rw [if_neg c3] at H
        have c3b0 : (q101 == 14) = false := beq_eq_false_iff_ne.mpr c3
        have c3b1 : (q101 != 14) = true := bne_iff_ne.mpr c3
        by_cases c4 : q101 = 15
        · rw [if_pos c4] at H
          have c4b0 : (q101 == 15) = true := beq_iff_eq.mpr c4
          have c4b1 : (q101 != 15) = false := bne_eq_false_iff_eq.mpr c4
          clear c4
          obtain rfl := Option.some.inj H
          go_enter Tryz.func45, Tryz.ntmps45
          go_wp2
          go_ret
          exact ⟨by first | rfl | (simp; done) | (simp [*]; done), by repeat (first | exact Drawn0.refl _ | apply Drawn0.step)⟩
        · rw [if_neg c4] at H
          have c4b0 : (q101 == 15) = false := beq_eq_false_iff_ne.mpr c4
          have c4b1 : (q101 != 15) = true := bne_iff_ne.mpr c4
          by_cases c5 : q101 = 16
          · rw [if_pos c5] at H
            have c5b0 : (q101 == 16) = true := beq_iff_eq.mpr c5
            have c5b1 : (q101 != 16) = false := bne_eq_false_iff_eq.mpr c5
            clear c5
            obtain rfl := Option.some.inj H
            go_enter Tryz.func45, Tryz.ntmps45
            go_wp2
            go_ret
            exact ⟨by first | rfl | (simp; done) | (simp [*]; done), by repeat (first | exact Drawn0.refl _ | apply Drawn0.step)⟩
          · rw [if_neg c5] at H
            have c5b0 : (q101 == 16) = false := beq_eq_false_iff_ne.mpr c5
            have c5b1 : (q101 != 16) = true := bne_iff_ne.mpr c5
            by_cases c6 : q101 = 17
            · rw [if_pos c6] at H
              have c6b0 : (q101 == 17) = true := beq_iff_eq.mpr c6
              have c6b1 : (q101 != 17) = false := bne_eq_false_iff_eq.mpr c6
              clear c6
              obtain rfl := Option.some.inj H
              go_enter Tryz.func45, Tryz.ntmps45
              go_wp2
              go_ret
              exact ⟨by first | rfl | (simp; done) | (simp [*]; done), by repeat (first | exact Drawn0.refl _ | apply Drawn0.step)⟩
            · rw [if_neg c6] at H
              have c6b0 : (q101 == 17) = false := beq_eq_false_iff_ne.mpr c6
              have c6b1 : (q101 != 17) = true := bne_iff_ne.mpr c6
              by_cases c7 : q101 = 18
              · rw [if_pos c7] at H
                have c7b0 : (q101 == 18) = true := beq_iff_eq.mpr c7
                have c7b1 : (q101 != 18) = false := bne_eq_false_iff_eq.mpr c7
                clear c7
                obtain rfl := Option.some.inj H
                go_enter Tryz.func45, Tryz.ntmps45
                go_wp2
                go_ret
                exact ⟨by first | rfl | (simp; done) | (simp [*]; done), by repeat (first | exact Drawn0.refl _ | apply Drawn0.step)⟩
              · rw [if_neg c7] at H
                have c7b0 : (q101 == 18) = false := beq_eq_false_iff_ne.mpr c7
                have c7b1 : (q101 != 18) = true := bne_iff_ne.mpr c7
                by_cases c8 : q101 = 19
                · rw [if_pos c8] at H
                  have c8b0 : (q101 == 19) = true := beq_iff_eq.mpr c8
                  have c8b1 : (q101 != 19) = false := bne_eq_false_iff_eq.mpr c8
                  clear c8
                  obtain rfl := Option.some.inj H
                  go_enter Tryz.func45, Tryz.ntmps45
                  go_wp2
                  go_ret
                  exact ⟨by first | rfl | (simp; done) | (simp [*]; done), by repeat (first | exact Drawn0.refl _ | apply Drawn0.step)⟩
                · rw [if_neg c8] at H
                  have c8b0 : (q101 == 19) = false := beq_eq_false_iff_ne.mpr c8
                  have c8b1 : (q101 != 19) = true := bne_iff_ne.mpr c8
                  by_cases c9 : q101 = 20
                  · rw [if_pos c9] at H
                    have c9b0 : (q101 == 20) = true := beq_iff_eq.mpr c9
                    have c9b1 : (q101 != 20) = false := bne_eq_false_iff_eq.mpr c9
                    clear c9
                    obtain rfl := Option.some.inj H
                    go_enter Tryz.func45, Tryz.ntmps45
                    go_wp2
                    go_ret
                    exact ⟨by first | rfl | (simp; done) | (simp [*]; done), by repeat (first | exact Drawn0.refl _ | apply Drawn0.step)⟩
                  · rw [if_neg c9] at H
                    have c9b0 : (q101 == 20) = false := beq_eq_false_iff_ne.mpr c9
                    have c9b1 : (q101 != 20) = true := bne_iff_ne.mpr c9
                    by_cases c10 : q101 = 21
                    · rw [if_pos c10] at H
                      have c10b0 : (q101 == 21) = true := beq_iff_eq.mpr c10
                      have c10b1 : (q101 != 21) = false := bne_eq_false_iff_eq.mpr c10
                      clear c10
                      obtain rfl := Option.some.inj H
                      go_enter Tryz.func45, Tryz.ntmps45
                      go_wp2
                      go_ret
                      exact ⟨by first | rfl | (simp; done) | (simp [*]; done), by repeat (first | exact Drawn0.refl _ | apply Drawn0.step)⟩
                    · rw [if_neg c10] at H
                      have c10b0 : (q101 == 21) = false := beq_eq_false_iff_ne.mpr c10
                      have c10b1 : (q101 != 21) = true := bne_iff_ne.mpr c10
                      by_cases c11 : q101 = 22
                      · rw [if_pos c11] at H
                        have c11b0 : (q101 == 22) = true := beq_iff_eq.mpr c11
                        have c11b1 : (q101 != 22) = false := bne_eq_false_iff_eq.mpr c11
                        clear c11
                        obtain rfl := Option.some.inj H
                        go_enter Tryz.func45, Tryz.ntmps45
                        go_wp2
                        go_ret
                        exact ⟨by first | rfl | (simp; done) | (simp [*]; done), by repeat (first | exact Drawn0.refl _ | apply Drawn0.step)⟩
                      · rw [if_neg c11] at H
                        have c11b0 : (q101 == 22) = false := beq_eq_false_iff_ne.mpr c11
                        have c11b1 : (q101 != 22) = true := bne_iff_ne.mpr c11
                        by_cases c12 : q101 = 23
                        · rw [if_pos c12] at H
                          have c12b0 : (q101 == 23) = true := beq_iff_eq.mpr c12
                          have c12b1 : (q101 != 23) = false := bne_eq_false_iff_eq.mpr c12
                          clear c12
                          obtain rfl := Option.some.inj H
                          go_enter Tryz.func45, Tryz.ntmps45
                          go_wp2
                          go_ret
                          exact ⟨by first | rfl | (simp; done) | (simp [*]; done), by repeat (first | exact Drawn0.refl _ | apply Drawn0.step)⟩
                        · rw [if_neg c12] at H
                          have c12b0 : (q101 == 23) = false := beq_eq_false_iff_ne.mpr c12
                          have c12b1 : (q101 != 23) = true := bne_iff_ne.mpr c12
                          by_cases c13 : q101 = 24
                          · rw [if_pos c13] at H
                            have c13b0 : (q101 == 24) = true := beq_iff_eq.mpr c13
                            have c13b1 : (q101 != 24) = false := bne_eq_false_iff_eq.mpr c13
                            clear c13
                            obtain rfl := Option.some.inj H
                            go_enter Tryz.func45, Tryz.ntmps45
                            go_wp2
                            go_ret
                            exact ⟨by first | rfl | (simp; done) | (simp [*]; done), by repeat (first | exact Drawn0.refl _ | apply Drawn0.step)⟩
                          · rw [if_neg c13] at H
                            have c13b0 : (q101 == 24) = false := beq_eq_false_iff_ne.mpr c13
                            have c13b1 : (q101 != 24) = true := bne_iff_ne.mpr c13
                            obtain rfl := Option.some.inj H
                            go_enter Tryz.func45, Tryz.ntmps45
                            go_wp2
                            go_ret
                            exact ⟨by first | rfl | (simp; done) | (simp [*]; done), by repeat (first | exact Drawn0.refl _ | apply Drawn0.step)⟩
def vernierlaw00_Code.f (a0 : Option Int) : Option (Int) := if a0.isNone = true then (some 0) else (if (a0.getD 0) = 1 then (some 1) else (if (a0.getD 0) = 2 then (some 2) else (if (a0.getD 0) = 3 then (some 3) else (if (a0.getD 0) = 4 then (some 4) else (if (a0.getD 0) = 5 then (some 5) else (if (a0.getD 0) = 6 then (some 6) else (if (a0.getD 0) = 7 then (some 7) else (if (a0.getD 0) = 8 then (some 8) else (if (a0.getD 0) = 9 then (some 9) else (if (a0.getD 0) = 10 then (some 10) else (if (a0.getD 0) = 11 then (some 11) else (if (a0.getD 0) = 12 then (some 12) else ((vernierlaw00_further.f (some (a0.getD 0))).bind fun t103 => (some t103))))))))))))))
set_option maxHeartbeats 8000000 in
set_option maxRecDepth 100000 in
theorem vernierlaw00_Code.calls (a0 : Option Int) (r : Int) (w : World) (h : vernierlaw00_Code.f a0 = some r) :
    Calls Tryz.prog 14 #[errW a0] w fun e w' => e = .returned (.int .i64 r) ∧ Drawn0 w w' := by
  have hu26 := Tryz.underlying26
  have hu29 := Tryz.underlying29
  have H : (if a0.isNone = true then (some 0) else (if (a0.getD 0) = 1 then (some 1) else (if (a0.getD 0) = 2 then (some 2) else (if (a0.getD 0) = 3 then (some 3) else (if (a0.getD 0) = 4 then (some 4) else (if (a0.getD 0) = 5 then (some 5) else (if (a0.getD 0) = 6 then (some 6) else (if (a0.getD 0) = 7 then (some 7) else (if (a0.getD 0) = 8 then (some 8) else (if (a0.getD 0) = 9 then (some 9) else (if (a0.getD 0) = 10 then (some 10) else (if (a0.getD 0) = 11 then (some 11) else (if (a0.getD 0) = 12 then (some 12) else ((vernierlaw00_further.f (some (a0.getD 0))).bind fun t103 => (some t103))))))))))))))) = some r := h
  clear h
  rcases a0 with _ | q102
  · have H1 : (some 0) = some r := by rw [if_pos (show (none : Option Int).isNone = true by rfl)] at H; exact H
    clear H
    have H := H1
    clear H1
    simp only [errW_none, errW_some]
    obtain rfl := Option.some.inj H
    go_enter Tryz.func14, Tryz.ntmps14
    go_wp2
    go_ret
    exact ⟨by first | rfl | (simp; done) | (simp [*]; done), by repeat (first | exact Drawn0.refl _ | apply Drawn0.step)⟩
  · have H1 : (if q102 = 1 then (some 1) else (if q102 = 2 then (some 2) else (if q102 = 3 then (some 3) else (if q102 = 4 then (some 4) else (if q102 = 5 then (some 5) else (if q102 = 6 then (some 6) else (if q102 = 7 then (some 7) else (if q102 = 8 then (some 8) else (if q102 = 9 then (some 9) else (if q102 = 10 then (some 10) else (if q102 = 11 then (some 11) else (if q102 = 12 then (some 12) else ((vernierlaw00_further.f (some q102)).bind fun t103 => (some t103)))))))))))))) = some r := by rw [if_neg (show ¬ (some q102).isNone = true by simp)] at H; exact H
    clear H
    have H := H1
    clear H1
    simp only [errW_none, errW_some]
    by_cases c2 : q102 = 1
    · rw [if_pos c2] at H
      have c2b0 : (q102 == 1) = true := beq_iff_eq.mpr c2
      have c2b1 : (q102 != 1) = false := bne_eq_false_iff_eq.mpr c2
      clear c2
      obtain rfl := Option.some.inj H
      go_enter Tryz.func14, Tryz.ntmps14
      go_wp2
      go_ret
      exact ⟨by first | rfl | (simp; done) | (simp [*]; done), by repeat (first | exact Drawn0.refl _ | apply Drawn0.step)⟩
    · rw [if_neg c2] at H
      have c2b0 : (q102 == 1) = false := beq_eq_false_iff_ne.mpr c2
      have c2b1 : (q102 != 1) = true := bne_iff_ne.mpr c2
      by_cases c3 : q102 = 2
      · rw [if_pos c3] at H
        have c3b0 : (q102 == 2) = true := beq_iff_eq.mpr c3
        have c3b1 : (q102 != 2) = false := bne_eq_false_iff_eq.mpr c3
        clear c3
        obtain rfl := Option.some.inj H
        go_enter Tryz.func14, Tryz.ntmps14
        go_wp2
        go_ret
        exact ⟨by first | rfl | (simp; done) | (simp [*]; done), by repeat (first | exact Drawn0.refl _ | apply Drawn0.step)⟩
      · rw [if_neg c3] at H
        have c3b0 : (q102 == 2) = false := beq_eq_false_iff_ne.mpr c3
        have c3b1 : (q102 != 2) = true := bne_iff_ne.mpr c3
        by_cases c4 : q102 = 3
        · rw [if_pos c4] at H
          have c4b0 : (q102 == 3) = true := beq_iff_eq.mpr c4
          have c4b1 : (q102 != 3) = false := bne_eq_false_iff_eq.mpr c4
          clear c4
          obtain rfl := Option.some.inj H
          go_enter Tryz.func14, Tryz.ntmps14
          go_wp2
          go_ret
          exact ⟨by first | rfl | (simp; done) | (simp [*]; done), by repeat (first | exact Drawn0.refl _ | apply Drawn0.step)⟩
        · rw [if_neg c4] at H
          have c4b0 : (q102 == 3) = false := beq_eq_false_iff_ne.mpr c4
          have c4b1 : (q102 != 3) = true := bne_iff_ne.mpr c4
          by_cases c5 : q102 = 4
          · rw [if_pos c5] at H
            have c5b0 : (q102 == 4) = true := beq_iff_eq.mpr c5
            have c5b1 : (q102 != 4) = false := bne_eq_false_iff_eq.mpr c5
            clear c5
            obtain rfl := Option.some.inj H
            go_enter Tryz.func14, Tryz.ntmps14
            go_wp2
            go_ret
            exact ⟨by first | rfl | (simp; done) | (simp [*]; done), by repeat (first | exact Drawn0.refl _ | apply Drawn0.step)⟩
          · rw [if_neg c5] at H
            have c5b0 : (q102 == 4) = false := beq_eq_false_iff_ne.mpr c5
            have c5b1 : (q102 != 4) = true := bne_iff_ne.mpr c5
            by_cases c6 : q102 = 5
            · rw [if_pos c6] at H
              have c6b0 : (q102 == 5) = true := beq_iff_eq.mpr c6
              have c6b1 : (q102 != 5) = false := bne_eq_false_iff_eq.mpr c6
              clear c6
              obtain rfl := Option.some.inj H
              go_enter Tryz.func14, Tryz.ntmps14
              go_wp2
              go_ret
              exact ⟨by first | rfl | (simp; done) | (simp [*]; done), by repeat (first | exact Drawn0.refl _ | apply Drawn0.step)⟩
            · rw [if_neg c6] at H
              have c6b0 : (q102 == 5) = false := beq_eq_false_iff_ne.mpr c6
              have c6b1 : (q102 != 5) = true := bne_iff_ne.mpr c6
              by_cases c7 : q102 = 6
              · rw [if_pos c7] at H
                have c7b0 : (q102 == 6) = true := beq_iff_eq.mpr c7
                have c7b1 : (q102 != 6) = false := bne_eq_false_iff_eq.mpr c7
                clear c7
                obtain rfl := Option.some.inj H
                go_enter Tryz.func14, Tryz.ntmps14
                go_wp2
                go_ret
                exact ⟨by first | rfl | (simp; done) | (simp [*]; done), by repeat (first | exact Drawn0.refl _ | apply Drawn0.step)⟩
              · rw [if_neg c7] at H
                have c7b0 : (q102 == 6) = false := beq_eq_false_iff_ne.mpr c7
                have c7b1 : (q102 != 6) = true := bne_iff_ne.mpr c7
                by_cases c8 : q102 = 7
                · rw [if_pos c8] at H
                  have c8b0 : (q102 == 7) = true := beq_iff_eq.mpr c8
                  have c8b1 : (q102 != 7) = false := bne_eq_false_iff_eq.mpr c8
                  clear c8
                  obtain rfl := Option.some.inj H
                  go_enter Tryz.func14, Tryz.ntmps14
                  go_wp2
                  go_ret
                  exact ⟨by first | rfl | (simp; done) | (simp [*]; done), by repeat (first | exact Drawn0.refl _ | apply Drawn0.step)⟩
                · rw [if_neg c8] at H
                  have c8b0 : (q102 == 7) = false := beq_eq_false_iff_ne.mpr c8
                  have c8b1 : (q102 != 7) = true := bne_iff_ne.mpr c8
                  by_cases c9 : q102 = 8
                  · rw [if_pos c9] at H
                    have c9b0 : (q102 == 8) = true := beq_iff_eq.mpr c9
                    have c9b1 : (q102 != 8) = false := bne_eq_false_iff_eq.mpr c9
                    clear c9
                    obtain rfl := Option.some.inj H
                    go_enter Tryz.func14, Tryz.ntmps14
                    go_wp2
                    go_ret
                    exact ⟨by first | rfl | (simp; done) | (simp [*]; done), by repeat (first | exact Drawn0.refl _ | apply Drawn0.step)⟩
                  · rw [if_neg c9] at H
                    have c9b0 : (q102 == 8) = false := beq_eq_false_iff_ne.mpr c9
                    have c9b1 : (q102 != 8) = true := bne_iff_ne.mpr c9
                    by_cases c10 : q102 = 9
                    · rw [if_pos c10] at H
                      have c10b0 : (q102 == 9) = true := beq_iff_eq.mpr c10
                      have c10b1 : (q102 != 9) = false := bne_eq_false_iff_eq.mpr c10
                      clear c10
                      obtain rfl := Option.some.inj H
                      go_enter Tryz.func14, Tryz.ntmps14
                      go_wp2
                      go_ret
                      exact ⟨by first | rfl | (simp; done) | (simp [*]; done), by repeat (first | exact Drawn0.refl _ | apply Drawn0.step)⟩
                    · rw [if_neg c10] at H
                      have c10b0 : (q102 == 9) = false := beq_eq_false_iff_ne.mpr c10
                      have c10b1 : (q102 != 9) = true := bne_iff_ne.mpr c10
                      by_cases c11 : q102 = 10
                      · rw [if_pos c11] at H
                        have c11b0 : (q102 == 10) = true := beq_iff_eq.mpr c11
                        have c11b1 : (q102 != 10) = false := bne_eq_false_iff_eq.mpr c11
                        clear c11
                        obtain rfl := Option.some.inj H
                        go_enter Tryz.func14, Tryz.ntmps14
                        go_wp2
                        go_ret
                        exact ⟨by first | rfl | (simp; done) | (simp [*]; done), by repeat (first | exact Drawn0.refl _ | apply Drawn0.step)⟩
                      · rw [if_neg c11] at H
                        have c11b0 : (q102 == 10) = false := beq_eq_false_iff_ne.mpr c11
                        have c11b1 : (q102 != 10) = true := bne_iff_ne.mpr c11
                        by_cases c12 : q102 = 11
                        · rw [if_pos c12] at H
                          have c12b0 : (q102 == 11) = true := beq_iff_eq.mpr c12
                          have c12b1 : (q102 != 11) = false := bne_eq_false_iff_eq.mpr c12
                          clear c12
                          obtain rfl := Option.some.inj H
                          go_enter Tryz.func14, Tryz.ntmps14
                          go_wp2
                          go_ret
                          exact ⟨by first | rfl | (simp; done) | (simp [*]; done), by repeat (first | exact Drawn0.refl _ | apply Drawn0.step)⟩
                        · rw [if_neg c12] at H
                          have c12b0 : (q102 == 11) = false := beq_eq_false_iff_ne.mpr c12
                          have c12b1 : (q102 != 11) = true := bne_iff_ne.mpr c12
                          by_cases c13 : q102 = 12
                          · rw [if_pos c13] at H
                            have c13b0 : (q102 == 12) = true := beq_iff_eq.mpr c13
                            have c13b1 : (q102 != 12) = false := bne_eq_false_iff_eq.mpr c13
                            clear c13
                            obtain rfl := Option.some.inj H
                            go_enter Tryz.func14, Tryz.ntmps14
                            go_wp2
                            go_ret
                            exact ⟨by first | rfl | (simp; done) | (simp [*]; done), by repeat (first | exact Drawn0.refl _ | apply Drawn0.step)⟩
                          · rw [if_neg c13] at H
                            have c13b0 : (q102 == 12) = false := beq_eq_false_iff_ne.mpr c13
                            have c13b1 : (q102 != 12) = true := bne_iff_ne.mpr c13
                            replace H := Option.bind_eq_some_iff.mp H
                            obtain ⟨t103, A140, H⟩ := H
                            replace H : (some t103) = some r := H
                            have A14 := Aside0.mk A140
                            clear A140
                            obtain rfl := Option.some.inj H
                            have CA14 := fun W => vernierlaw00_further.calls (some q102) t103 W A14.out
                            try simp only [errW_none, errW_some] at CA14
                            go_enter Tryz.func14, Tryz.ntmps14
                            go_wp2_with (first | (go_at_call 45; (with_reducible refine (CA14 _).mono ?_); rintro e w' ⟨rfl, ⟨nd, rfl⟩⟩))
                            go_ret
                            exact ⟨by first | rfl | (simp; done) | (simp [*]; done), by repeat (first | exact Drawn0.refl _ | apply Drawn0.step)⟩
def IsS72 (w0 W : World) (g : Nat) (f0 : Int) (f1 : Bool) (f2 : List Int) (f3 : Int) (f4 : Bool) (f5 : Int) : Prop := ∃ A2 c2, W.heap[g]? = some (.cells #[.int .i64 f0, .bool f1, .slice A2 f2.length c2, .int .i64 f3, .bool f4, .int .i64 f5] 72 (0, 0)) ∧ w0.heap.size ≤ g ∧ Kd.C (Kd.int .u8) w0 A2 f2.length f2
theorem IsS72.grown {w0 W : World} {g : Nat} {f0 : Int} {f1 : Bool} {f2 : List Int} {f3 : Int} {f4 : Bool} {f5 : Int} {W1 : World} {row : Option Nat} (h : IsS72 w0 W g f0 f1 f2 f3 f4 f5) (hw : W.grownBy W1 row) (hne : some g ≠ row) : IsS72 w0 W1 g f0 f1 f2 f3 f4 f5 := by
  obtain ⟨A2, c2, hb, hg, hr2⟩ := h
  exact ⟨A2, c2, blk_grown hb hw hne, hg, hr2⟩
theorem IsS72.kept {w0 W : World} {g : Nat} {f0 : Int} {f1 : Bool} {f2 : List Int} {f3 : Int} {f4 : Bool} {f5 : Int} {W1 : World} {S : Nat → Prop} (h : IsS72 w0 W g f0 f1 f2 f3 f4 f5) (hk : Kept W W1 S) (hne : ¬ S g) : IsS72 w0 W1 g f0 f1 f2 f3 f4 f5 := by
  obtain ⟨A2, c2, hb, hg, hr2⟩ := h
  exact ⟨A2, c2, blk_kept hb hk hne, hg, hr2⟩
theorem IsS72.below {w0 W : World} {g : Nat} {f0 : Int} {f1 : Bool} {f2 : List Int} {f3 : Int} {f4 : Bool} {f5 : Int} {W1 : World} (h : IsS72 w0 W g f0 f1 f2 f3 f4 f5) (hw : Below W.heap.size W W1) : IsS72 w0 W1 g f0 f1 f2 f3 f4 f5 := h.grown (grown_of_below hw none) (by simp)
theorem IsS72.alloc {w0 W : World} {g : Nat} {f0 : Int} {f1 : Bool} {f2 : List Int} {f3 : Int} {f4 : Bool} {f5 : Int} (h : IsS72 w0 W g f0 f1 f2 f3 f4 f5) (o : Obj) : IsS72 w0 (W.alloc o) g f0 f1 f2 f3 f4 f5 := h.below (below_alloc (Below.refl _ _) o)
theorem IsS72.drewN {w0 W : World} {g : Nat} {f0 : Int} {f1 : Bool} {f2 : List Int} {f3 : Int} {f4 : Bool} {f5 : Int} (h : IsS72 w0 W g f0 f1 f2 f3 f4 f5) (m : Nat) : IsS72 w0 (W.drewN m) g f0 f1 f2 f3 f4 f5 := h
theorem IsS72.drew {w0 W : World} {g : Nat} {f0 : Int} {f1 : Bool} {f2 : List Int} {f3 : Int} {f4 : Bool} {f5 : Int} (h : IsS72 w0 W g f0 f1 f2 f3 f4 f5) : IsS72 w0 W.drew g f0 f1 f2 f3 f4 f5 := h
theorem IsS72.apart {w0 W : World} {g : Nat} {f0 : Int} {f1 : Bool} {f2 : List Int} {f3 : Int} {f4 : Bool} {f5 : Int} {α : Type} {d : Kd α} {e : Nat} {base : Nat} {ok : Nat → Prop} {v : Value} {xs : List α} (h : IsS72 w0 W g f0 f1 f2 f3 f4 f5) (ho : d.R e W base ok v xs) (ht : ∀ q, q ∈ e :: d.E → q ≠ 72) : d.R e W base (fun k => ok k ∧ k ≠ g) v xs := by
  obtain ⟨A2, c2, hb, hg, hr2⟩ := h
  exact Kd.R_types ho hb ht
theorem IsS72.own_ne {w0 W : World} {g : Nat} {f0 : Int} {f1 : Bool} {f2 : List Int} {f3 : Int} {f4 : Bool} {f5 : Int} {α : Type} {d : Kd α} {e : Nat} {base : Nat} {ok : Nat → Prop} {v : Value} {xs : List α} (h : IsS72 w0 W g f0 f1 f2 f3 f4 f5) (ho : d.R e W base ok v xs) (ht : e ≠ 72) : some g ≠ v.ownBlock := by
  obtain ⟨A2, c2, hb, hg, hr2⟩ := h
  exact Kd.R_ne ho hb ht
theorem IsS72.lt {w0 W : World} {g : Nat} {f0 : Int} {f1 : Bool} {f2 : List Int} {f3 : Int} {f4 : Bool} {f5 : Int} (h : IsS72 w0 W g f0 f1 f2 f3 f4 f5) : g < W.heap.size := by
  obtain ⟨A2, c2, hb, hg, hr2⟩ := h
  exact blk_lt hb
theorem IsS72.far {w0 W : World} {g : Nat} {f0 : Int} {f1 : Bool} {f2 : List Int} {f3 : Int} {f4 : Bool} {f5 : Int} {p : Addr} (h : IsS72 w0 W g f0 f1 f2 f3 f4 f5) (hne : g ≠ p.block) (u : Value) : IsS72 w0 (W.setCell p u) g f0 f1 f2 f3 f4 f5 := by
  obtain ⟨A2, c2, hb, hg, hr2⟩ := h
  exact ⟨A2, c2, blk_far hb hne u, hg, hr2⟩
end Go.Proofs.YthhkmpicpihjlaaGreatDoor.PSc
