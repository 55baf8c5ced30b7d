/- PNatx10: the part that this claim needs. -/
import Derived.Test.YthgmkigfgcejgaaDoorQCPNatx0
import Derived.Test.YthgmkigfgcejgaaDoorQCPNatx6
import Derived.Test.YthgmkigfgcejgaaDoorQCPNatx8
namespace Go.Proofs.YthgmkigfgcejgaaDoor.PNat
open Go.RowKit Go.Proofs.YthgmkigfgcejgaaDoorW.PrintWords Go.Proofs.YthgmkigfgcejgaaDoorW.PrintLast Go.Proofs.YthgmkigfgcejgaaDoorW.PrintMore
open Go.Proofs.YthgmkigfgcejgaaDoor.M
attribute [local go_sem] runx_add64 runx_sub64 eql_cc eql_nc neq_cc neq_nc
attribute [local go_sem] max2_int min2_int max_two min_two max_three min_three max_four min_four   -- for this text's walks alone
set_option linter.unusedVariables false
set_option linter.unusedSimpArgs false
mutual
def vernierref04_Low.l0 : Nat → List Int → Int → Int → Option (Bool)
  | 0, _, _, _ => none
  | k + 1, x0, x1, x5 => if x5 < (x0.length : Int) then (vernierref04_Low.j1 k x0 x1 x5 (decide ((wrap64 (24 * x5)) < x1))) else (vernierref04_Low.j1 k x0 x1 x5 false)
def vernierref04_Low.j1 : Nat → List Int → Int → Int → Bool → Option (Bool)
  | 0, _, _, _, _ => none
  | k + 1, x0, x1, x5, x16 => if x16 = true then (if (wrap64 (x1 - (wrap64 (24 * x5)))) < 24 then ((vernierref04_two.f k (wrap64 (x1 - (wrap64 (24 * x5))))).bind fun t508 => (if 0 ≤ x5 then (if x5 < (x0.length : Int) then (if t508 = 0 then (none) else (if (Int.tmod (rd x0 x5) t508) = 0 then (vernierref04_Low.l0 k x0 x1 (wrap64 (x5 + 1))) else (some true))) else (none)) else (none))) else (if 0 ≤ x5 then (if x5 < (x0.length : Int) then (if (Int.tmod (rd x0 x5) 16777216) = 0 then (vernierref04_Low.l0 k x0 x1 (wrap64 (x5 + 1))) else (some true)) else (none)) else (none))) else (some false)
end
def vernierref04_Low.f (k : Nat) (l0 : List Int) (a1 : Int) : Option (Bool) := vernierref04_Low.l0 k l0 a1 0
set_option maxHeartbeats 8000000 in
set_option maxRecDepth 100000 in
theorem vernierref04_Low.calls (k : Nat) (A0 : Option Addr) (c0 : Nat) (l0 : List Int) (a1 : Int) (r : Bool) (w : World) (hr0 : Kd.C (Kd.int .i64) w A0 l0.length l0) (hc0 : l0.length ≤ c0) (h : vernierref04_Low.f k l0 a1 = some r) :
    Calls Tryd.prog 37 #[.slice A0 l0.length c0, .int .i64 a1] w fun e w' => e = .returned (.bool r) ∧ Drawn0 w w' := by
  have HR0 := Aside0.mk hr0
  have HC0 := Aside0.mk hc0
  clear hr0 hc0
  have H : (vernierref04_Low.l0 k l0 a1 0) = some r := h
  clear h
  have H' := Aside0.mk H
  clear H
  go_enter Tryd.func37, Tryd.ntmps37
  go_wp2
  go_loopg [5] k (fun kq v5 w' => ∃ (x5_1 : Int), v5 = .int .i64 x5_1 ∧ Aside0 (vernierref04_Low.l0 kq l0 a1 x5_1 = some r) ∧ Aside0 (kq ≤ k) ∧ Drawn0 w w')
  case atStart => exact ⟨(0), (by first | rfl | (simp; done) | (simp [*]; done)), H', ⟨Nat.le_refl _⟩, by repeat (first | exact Drawn0.refl _ | apply Drawn0.step)⟩
  case round =>
    clear H'
    try clear p2
    obtain ⟨x5_1, rfl, HA, HK1, ⟨m1, rfl⟩⟩ := hrel
    cases gk with
    | zero => exact absurd HA.out (by simp [vernierref04_Low.l0])
    | succ k1 =>
      have H := HA.out
      clear HA
      simp only [vernierref04_Low.l0] at H
      have HC3 := Aside0.mk H
      clear H
      go_upto_region 2 with (fail)
      go_cut [16] (fun v16 wc => ∃ (kq : Nat) (x16_2 : Bool), v16 = .bool x16_2 ∧ Aside0 (vernierref04_Low.j1 kq l0 a1 x5_1 x16_2 = some r) ∧ Aside0 (kq ≤ k1) ∧ Drawn0 w wc)
      case first =>
        have H := HC3.out
        clear HC3
        by_cases c4 : x5_1 < (l0.length : Int)
        · rw [if_pos c4] at H
          have c4b0 : decide (x5_1 < (l0.length : Int)) = true := decide_eq_true c4
          clear c4
          (first | rw [c4b0] | (simp only [i64_w, i32_w]; rw [c4b0]) | rw [c4b1] | skip)
          have H' := Aside0.mk H
          clear H
          go_wp2
          go_meet
          case rel => exact ⟨_, (decide ((wrap64 (24 * x5_1)) < a1)), (by first | rfl | (simp; done) | (simp [*]; done)), H', ⟨by have := HK1.out; first | omega | exact Nat.le_refl _⟩, by repeat (first | exact Drawn0.refl _ | apply Drawn0.step)⟩
        · rw [if_neg c4] at H
          have c4b0 : decide (x5_1 < (l0.length : Int)) = false := decide_eq_false c4
          clear c4
          (first | rw [c4b0] | (simp only [i64_w, i32_w]; rw [c4b0]) | rw [c4b1] | skip)
          have H' := Aside0.mk H
          clear H
          go_wp2
          go_meet
          case rel => exact ⟨_, (false), (by first | rfl | (simp; done) | (simp [*]; done)), H', ⟨by have := HK1.out; first | omega | exact Nat.le_refl _⟩, by repeat (first | exact Drawn0.refl _ | apply Drawn0.step)⟩
      case rest =>
        clear HC3
        try clear p2
        try clear c3
        try clear c4
        try clear c4b0
        try clear c4b1
        try clear p2
        obtain ⟨kq, x16_2, rfl, HA, HJ2, ⟨mc2, rfl⟩⟩ := hcut
        cases kq with
        | zero => exact absurd HA.out (by simp [vernierref04_Low.j1])
        | succ kj2 =>
          have H := HA.out
          clear HA
          simp only [vernierref04_Low.j1] at H
          by_cases c5 : x16_2 = true
          · subst c5
            have H1 : (if (wrap64 (a1 - (wrap64 (24 * x5_1)))) < 24 then ((vernierref04_two.f kj2 (wrap64 (a1 - (wrap64 (24 * x5_1))))).bind fun t508 => (if 0 ≤ x5_1 then (if x5_1 < (l0.length : Int) then (if t508 = 0 then (none) else (if (Int.tmod (rd l0 x5_1) t508) = 0 then (vernierref04_Low.l0 kj2 l0 a1 (wrap64 (x5_1 + 1))) else (some true))) else (none)) else (none))) else (if 0 ≤ x5_1 then (if x5_1 < (l0.length : Int) then (if (Int.tmod (rd l0 x5_1) 16777216) = 0 then (vernierref04_Low.l0 kj2 l0 a1 (wrap64 (x5_1 + 1))) else (some true)) else (none)) else (none))) = some r := by rw [if_pos rfl] at H; exact H
            clear H
            have H := H1
            clear H1
            by_cases c6 : (wrap64 (a1 - (wrap64 (24 * x5_1)))) < 24
            · rw [if_pos c6] at H
              have c6b0 : decide ((wrap64 (a1 - (wrap64 (24 * x5_1)))) < 24) = true := decide_eq_true c6
              clear c6
              replace H := Option.bind_eq_some_iff.mp H
              obtain ⟨t508, A70, H⟩ := H
              replace H : (if 0 ≤ x5_1 then (if x5_1 < (l0.length : Int) then (if t508 = 0 then (none) else (if (Int.tmod (rd l0 x5_1) t508) = 0 then (vernierref04_Low.l0 kj2 l0 a1 (wrap64 (x5_1 + 1))) else (some true))) else (none)) else (none)) = some r := H
              have A7 := Aside0.mk A70
              clear A70
              by_cases c8 : 0 ≤ x5_1
              · rw [if_pos c8] at H
                have c8b0 : decide (0 ≤ x5_1) = true := decide_eq_true c8
                clear c8
                by_cases c9 : x5_1 < (l0.length : Int)
                · rw [if_pos c9] at H
                  have c9b0 : decide (x5_1 < (l0.length : Int)) = true := decide_eq_true c9
                  clear c9
                  by_cases c10 : t508 = 0
                  · rw [if_pos c10] at H
                    exact absurd H (by simp)
                  · rw [if_neg c10] at H
                    have c10b0 : (t508 == 0) = false := beq_eq_false_iff_ne.mpr c10
                    have c10b1 : (t508 != 0) = true := bne_iff_ne.mpr c10
                    by_cases c11 : (Int.tmod (rd l0 x5_1) t508) = 0
                    · rw [if_pos c11] at H
                      have c11b0 : ((Int.tmod (rd l0 x5_1) t508) == 0) = true := beq_iff_eq.mpr c11
                      have c11b1 : ((Int.tmod (rd l0 x5_1) t508) != 0) = false := bne_eq_false_iff_eq.mpr c11
                      clear c11
                      have H' := Aside0.mk H
                      clear H
                      go_wp2_with (first | ((with_reducible refine gate_callee (f := 64) rfl ?_); refine goesL_ (some 28) rfl rfl Tryd.func64 (by kernel_rfl) rfl #[.int .i64 (wrap64 (a1 - (wrap64 (24 * x5_1))))] rfl (by (try simp only [List.map_toArray, List.map_cons, List.map_nil]); first | done | rfl | (simp only [List.length_drop, List.length_take]; rfl)) ?_; (with_reducible refine (vernierref04_two.calls kj2 (wrap64 (a1 - (wrap64 (24 * x5_1)))) t508 _ A7.out).mono ?_); rintro e w' ⟨rfl, ⟨nd, rfl⟩⟩; refine ⟨_, rfl, ?_⟩; have p509 : 0 ≤ (x5_1 : Int) := of_decide_eq_true (by first | (with_reducible assumption) | assumption); have q509 : x5_1 < (l0.length : Int) := of_decide_eq_true (by first | (with_reducible assumption) | assumption); obtain ⟨ad509, e509, hx509_0⟩ := Kd.at_int HR0.out x5_1 p509 q509; cases e509; replace p509 := eq_true p509; replace q509 := eq_true q509))
                      go_roundg kj2
                      case measure => have := HK1.out; have := HJ2.out; omega
                      case rel => exact ⟨(wrap64 (x5_1 + 1)), (by first | rfl | (simp; done) | (simp [*]; done)), H', ⟨by have := HK1.out; have := HJ2.out; omega⟩, by repeat (first | exact Drawn0.refl _ | apply Drawn0.step)⟩
                    · rw [if_neg c11] at H
                      have c11b0 : ((Int.tmod (rd l0 x5_1) t508) == 0) = false := beq_eq_false_iff_ne.mpr c11
                      have c11b1 : ((Int.tmod (rd l0 x5_1) t508) != 0) = true := bne_iff_ne.mpr c11
                      obtain rfl := Option.some.inj H
                      go_wp2_with (first | ((with_reducible refine gate_callee (f := 64) rfl ?_); refine goesL_ (some 28) rfl rfl Tryd.func64 (by kernel_rfl) rfl #[.int .i64 (wrap64 (a1 - (wrap64 (24 * x5_1))))] rfl (by (try simp only [List.map_toArray, List.map_cons, List.map_nil]); first | done | rfl | (simp only [List.length_drop, List.length_take]; rfl)) ?_; (with_reducible refine (vernierref04_two.calls kj2 (wrap64 (a1 - (wrap64 (24 * x5_1)))) t508 _ A7.out).mono ?_); rintro e w' ⟨rfl, ⟨nd, rfl⟩⟩; refine ⟨_, rfl, ?_⟩; have p509 : 0 ≤ (x5_1 : Int) := of_decide_eq_true (by first | (with_reducible assumption) | assumption); have q509 : x5_1 < (l0.length : Int) := of_decide_eq_true (by first | (with_reducible assumption) | assumption); obtain ⟨ad509, e509, hx509_0⟩ := Kd.at_int HR0.out x5_1 p509 q509; cases e509; replace p509 := eq_true p509; replace q509 := eq_true q509))
                      go_ret
                      exact ⟨by first | rfl | (simp; done) | (simp [*]; done), by repeat (first | exact Drawn0.refl _ | apply Drawn0.step)⟩
                · rw [if_neg c9] at H
                  exact absurd H (by simp)
              · rw [if_neg c8] at H
                exact absurd H (by simp)
            · rw [if_neg c6] at H
              have c6b0 : decide ((wrap64 (a1 - (wrap64 (24 * x5_1)))) < 24) = false := decide_eq_false c6
              clear c6
              by_cases c12 : 0 ≤ x5_1
              · rw [if_pos c12] at H
                have c12b0 : decide (0 ≤ x5_1) = true := decide_eq_true c12
                clear c12
                by_cases c13 : x5_1 < (l0.length : Int)
                · rw [if_pos c13] at H
                  have c13b0 : decide (x5_1 < (l0.length : Int)) = true := decide_eq_true c13
                  clear c13
                  by_cases c14 : (Int.tmod (rd l0 x5_1) 16777216) = 0
                  · rw [if_pos c14] at H
                    have c14b0 : ((Int.tmod (rd l0 x5_1) 16777216) == 0) = true := beq_iff_eq.mpr c14
                    have c14b1 : ((Int.tmod (rd l0 x5_1) 16777216) != 0) = false := bne_eq_false_iff_eq.mpr c14
                    clear c14
                    have H' := Aside0.mk H
                    clear H
                    have p510 : 0 ≤ (x5_1 : Int) := of_decide_eq_true (by first | (with_reducible assumption) | assumption)
                    have q510 : x5_1 < (l0.length : Int) := of_decide_eq_true (by first | (with_reducible assumption) | assumption)
                    obtain ⟨ad510, e510, hx510_0⟩ := Kd.at_int HR0.out x5_1 p510 q510
                    cases e510
                    replace p510 := eq_true p510
                    replace q510 := eq_true q510
                    go_wp2
                    go_roundg kj2
                    case measure => have := HK1.out; have := HJ2.out; omega
                    case rel => exact ⟨(wrap64 (x5_1 + 1)), (by first | rfl | (simp; done) | (simp [*]; done)), H', ⟨by have := HK1.out; have := HJ2.out; omega⟩, by repeat (first | exact Drawn0.refl _ | apply Drawn0.step)⟩
                  · rw [if_neg c14] at H
                    have c14b0 : ((Int.tmod (rd l0 x5_1) 16777216) == 0) = false := beq_eq_false_iff_ne.mpr c14
                    have c14b1 : ((Int.tmod (rd l0 x5_1) 16777216) != 0) = true := bne_iff_ne.mpr c14
                    obtain rfl := Option.some.inj H
                    have p510 : 0 ≤ (x5_1 : Int) := of_decide_eq_true (by first | (with_reducible assumption) | assumption)
                    have q510 : x5_1 < (l0.length : Int) := of_decide_eq_true (by first | (with_reducible assumption) | assumption)
                    obtain ⟨ad510, e510, hx510_0⟩ := Kd.at_int HR0.out x5_1 p510 q510
                    cases e510
                    replace p510 := eq_true p510
                    replace q510 := eq_true q510
                    go_wp2
                    go_ret
                    exact ⟨by first | rfl | (simp; done) | (simp [*]; done), by repeat (first | exact Drawn0.refl _ | apply Drawn0.step)⟩
                · rw [if_neg c13] at H
                  exact absurd H (by simp)
              · rw [if_neg c12] at H
                exact absurd H (by simp)
          · replace c5 := Bool.eq_false_iff.mpr c5
            subst c5
            have H1 : (some false) = some r := by rw [if_neg (show ¬ (false = true) by decide)] at H; exact H
            clear H
            have H := H1
            clear H1
            obtain rfl := Option.some.inj H
            go_wp2
            go_ret
            exact ⟨by first | rfl | (simp; done) | (simp [*]; done), by repeat (first | exact Drawn0.refl _ | apply Drawn0.step)⟩
end Go.Proofs.YthgmkigfgcejgaaDoor.PNat
