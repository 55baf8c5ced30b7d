/- PNatx19: the part that this claim needs. -/
import Derived.Test.YthgmkigfgcejgaaDoorQTBPNatx0
import Derived.Test.YthgmkigfgcejgaaDoorQTBPNatx1
import Derived.Test.YthgmkigfgcejgaaDoorQTBPNatx2
import Derived.Test.YthgmkigfgcejgaaDoorQTBPNatx5
import Derived.Test.YthgmkigfgcejgaaDoorQTBPNatx8
import Derived.Test.YthgmkigfgcejgaaDoorQTBGReadC
import Derived.Test.YthgmkigfgcejgaaDoorQTBGText
namespace Go.Proofs.YthgmkigfgcejgaaDoor.PNat
open Go.RowKit Go.Proofs.YthgmkigfgcejgaaDoorW.PrintWords Go.Proofs.YthgmkigfgcejgaaDoorW.PrintLast Go.Proofs.YthgmkigfgcejgaaDoorW.PrintMore
open Go.Proofs.YthgmkigfgcejgaaDoor.M
attribute [local go_sem] runx_add64 runx_sub64 eql_cc eql_nc neq_cc neq_nc
attribute [local go_sem] max2_int min2_int max_two min_two max_three min_three max_four min_four   -- for this text's walks alone
set_option linter.unusedVariables false
set_option linter.unusedSimpArgs false
mutual
def nat_Read.j0 : Nat → ByteArray → Int → Option (List Int × Option Int)
  | 0, _, _ => none
  | k + 1, x0, x4 => if x4 ≥ 0 then (none) else (nat_Read.l0 k x0 ([] : List Int))
def nat_Read.l0 : Nat → ByteArray → List Int → Option (List Int × Option Int)
  | 0, _, _ => none
  | k + 1, x0, x5 => if (x0.size : Int) > 0 then (if 0 ≤ (mn (x0.size : Int) 19) then (if (mn (x0.size : Int) 19) ≤ (x0.size : Int) then ((strconv_ParseUint_69.f (x0.extract 0 ((mn (x0.size : Int) 19) : Int).toNat) 10 64).bind fun bt784 => (if bt784.2.isNone = true then (nat_Read.l1 k x0 x5 (mn (x0.size : Int) 19) bt784.1 1 (mn (x0.size : Int) 19) 0) else (some (([] : List Int), some 7)))) else (none)) else (none)) else (some (x5, none))
def nat_Read.l1 : Nat → ByteArray → List Int → Int → Int → Int → Int → Int → Option (List Int × Option Int)
  | 0, _, _, _, _, _, _, _ => none
  | k + 1, x0, x5, x6, x7, x9, x41, x42 => if x42 < x41 then (nat_Read.l1 k x0 x5 x6 x7 (IntKind.u64.wrap (x9 * 10)) x41 (wrap64 (x42 + 1))) else ((nat_times.f k x5 (([x9] : List Int))).bind fun t790 => ((nat_Of.f k x7).bind fun t793 => ((nat_plus.f k t790 t793).bind fun t796 => (if 0 ≤ x6 then (if x6 ≤ (x0.size : Int) then (nat_Read.l0 k (x0.extract (x6 : Int).toNat x0.size) t796) else (none)) else (none)))))
end
def nat_Read.f (k : Nat) (a0 : ByteArray) : Option (List Int × Option Int) := if (a0.size : Int) > 4096 then (some (([] : List Int), some 13)) else ((strings_IndexFunc.f a0).bind fun t783 => (if a0.toList = ([] : List UInt8) then (nat_Read.j0 k a0 0) else (nat_Read.j0 k a0 t783)))
set_option maxHeartbeats 8000000 in
set_option maxRecDepth 100000 in
theorem nat_Read.calls (k : Nat) (a0 : ByteArray) (r1 : List Int) (r2 : Option Int) (w : World) (h : nat_Read.f k a0 = some (r1, r2)) :
    Calls Tryd.prog 49 #[.string a0] w fun e w' => ∃ v0_ : Value, e = .returned (.tuple #[v0_, errW r2]) ∧ Kd.V (Kd.int .u64) 42 w' w.heap.size (fun k_ => (w.heap.size ≤ k_)) v0_ r1 ∧ Below w.heap.size w w' := by
  have hu33 := Tryd.underlying33
  have hu37 := Tryd.underlying37
  have HB := Aside0.mk (Below.refl w.heap.size w)
  have H : (if (a0.size : Int) > 4096 then (some (([] : List Int), some 13)) else ((strings_IndexFunc.f a0).bind fun t783 => (if a0.toList = ([] : List UInt8) then (nat_Read.j0 k a0 0) else (nat_Read.j0 k a0 t783)))) = some (r1, r2) := h
  clear h
  by_cases c2 : (a0.size : Int) > 4096
  · rw [if_pos c2] at H
    have c2b0 : decide (4096 < (a0.size : Int)) = true := decide_eq_true c2
    have c2b1 : decide (4096 < a0.size) = true := decide_eq_true (by omega)
    clear c2
    simp only [Option.some.injEq, Prod.mk.injEq] at H
    obtain ⟨rfl, rfl⟩ := H
    go_enter Tryd.func49, Tryd.ntmps49
    go_wp2
    go_ret2
    exact ⟨_, by first | rfl | (simp [errW_none, errW_some] <;> rfl) | (simp [*, errW_none, errW_some] <;> rfl), Kd.V_nil _ _ _ _ _, by repeat (first | (with_reducible first | exact HB.out | apply below_alloc | apply pw_below_drewN | apply below_drew1) | exact HB.out)⟩
  · rw [if_neg c2] at H
    have c2b0 : decide (4096 < (a0.size : Int)) = false := decide_eq_false c2
    have c2b1 : decide (4096 < a0.size) = false := decide_eq_false (by omega)
    clear c2
    replace H := Option.bind_eq_some_iff.mp H
    obtain ⟨t783, A30, H⟩ := H
    replace H : (if a0.toList = ([] : List UInt8) then (nat_Read.j0 k a0 0) else (nat_Read.j0 k a0 t783)) = some (r1, r2) := H
    have A3 := Aside0.mk A30
    clear A30
    have HC4 := Aside0.mk H
    clear H
    go_enter Tryd.func49, Tryd.ntmps49
    go_upto_if 17 with (first | ((with_reducible refine gate_callee (f := 67) rfl ?_); refine goesL_ (some 15) rfl rfl Tryd.func67 (by kernel_rfl) rfl #[.string a0, .func (.func 68) #[] #[]] rfl (by (try simp only [List.map_toArray, List.map_cons, List.map_nil]); first | done | rfl | (simp only [List.length_drop, List.length_take]; rfl)) ?_; (with_reducible refine (strings_IndexFunc.calls a0 t783 _ A3.out).mono ?_); rintro e w5 ⟨rfl, hb⟩; refine ⟨_, rfl, ?_⟩; have n0_ := Aside0.mk (below_step (by repeat (first | (with_reducible first | exact HB.out | apply below_alloc | apply pw_below_drewN | apply below_drew1) | exact HB.out)) hb); clear HB; have HB := n0_; clear n0_; (try clear hb); (try clear hb2); (try clear hk); (try clear hi)))
    (try simp only [Act.put, List.setIfInBounds_toArray, List.set_cons_zero, List.set_cons_succ])
    go_cut [4] (fun v4 wc => ∃ (kq : Nat) (x4_3 : Int), v4 = .int .i64 x4_3 ∧ Aside0 (nat_Read.j0 kq a0 x4_3 = some (r1, r2)) ∧ Aside0 (kq ≤ k) ∧ Aside0 (Below w.heap.size w wc))
    case first =>
      have H := HC4.out
      clear HC4
      by_cases c6 : a0.toList = ([] : List UInt8)
      · rw [if_pos c6] at H
        have c6b0 : (a0.toList == ([] : List UInt8)) = true := beq_iff_eq.mpr c6
        have c6b1 : (a0.toList != ([] : List UInt8)) = false := bne_eq_false_iff_eq.mpr c6
        clear c6
        (first | rw [c6b0] | (simp only [i64_w, i32_w]; rw [c6b0]) | rw [c6b1] | rw [List.isEmpty_iff.mpr (beq_iff_eq.mp c6b0)] | rw [List.isEmpty_eq_false_iff.mpr (beq_eq_false_iff_ne.mp c6b0)] | skip)
        have H' := Aside0.mk H
        clear H
        go_wp2
        go_meet
        case rel => exact ⟨_, (0), (by first | rfl | (simp; done) | (simp [*]; done)), H', ⟨by first | omega | exact Nat.le_refl _⟩, ⟨by repeat (first | (with_reducible first | exact HB.out | apply below_alloc | apply pw_below_drewN | apply below_drew1) | exact HB.out)⟩⟩
      · rw [if_neg c6] at H
        have c6b0 : (a0.toList == ([] : List UInt8)) = false := beq_eq_false_iff_ne.mpr c6
        have c6b1 : (a0.toList != ([] : List UInt8)) = true := bne_iff_ne.mpr c6
        (first | rw [c6b0] | (simp only [i64_w, i32_w]; rw [c6b0]) | rw [c6b1] | rw [List.isEmpty_iff.mpr (beq_iff_eq.mp c6b0)] | rw [List.isEmpty_eq_false_iff.mpr (beq_eq_false_iff_ne.mp c6b0)] | skip)
        have H' := Aside0.mk H
        clear H
        go_wp2
        go_meet
        case rel => exact ⟨_, (t783), (by first | rfl | (simp; done) | (simp [*]; done)), H', ⟨by first | omega | exact Nat.le_refl _⟩, ⟨by repeat (first | (with_reducible first | exact HB.out | apply below_alloc | apply pw_below_drewN | apply below_drew1) | exact HB.out)⟩⟩
    case rest =>
      clear HC4
      try clear c2
      try clear c2b0
      try clear c2b1
      try clear p2
      try clear c4
      try clear c6
      try clear c6b0
      try clear c6b1
      obtain ⟨kq, x4_3, rfl, HA, HJ3, HB⟩ := hcut
      cases kq with
      | zero => exact absurd HA.out (by simp [nat_Read.j0])
      | succ kj3 =>
        have H := HA.out
        clear HA
        simp only [nat_Read.j0] at H
        by_cases c7 : x4_3 ≥ 0
        · rw [if_pos c7] at H
          exact absurd H (by simp)
        · rw [if_neg c7] at H
          have c7b0 : decide (0 ≤ x4_3) = false := decide_eq_false c7
          clear c7
          have H' := Aside0.mk H
          clear H
          go_wp2
          go_loopg [0, 5] kj3 (fun kq v0 v5 w' => ∃ (x0_2 : ByteArray) (x5_2 : List Int), v0 = .string x0_2 ∧ Aside0 (nat_Read.l0 kq x0_2 x5_2 = some (r1, r2)) ∧ Aside0 (kq ≤ kj3) ∧ Aside0 (Kd.V (Kd.int .u64) 42 w' w.heap.size (fun k_ => (w.heap.size ≤ k_)) v5 x5_2) ∧ Aside0 (Below w.heap.size w w'))
          case atStart => exact ⟨(a0), (([] : List Int)), (by first | rfl | (simp; done) | (simp [*]; done)), H', ⟨Nat.le_refl _⟩, ⟨Kd.V_nil _ _ _ _ _⟩, ⟨by repeat (first | (with_reducible first | exact HB.out | apply below_alloc | apply pw_below_drewN | apply below_drew1) | exact HB.out)⟩⟩
          case round =>
            clear H'
            try clear c2
            try clear c2b0
            try clear c2b1
            try clear p2
            try clear c4
            try clear c6
            try clear c6b0
            try clear c6b1
            try clear c7
            try clear c7b0
            try clear p2
            obtain ⟨x0_2, x5_2, rfl, HA, HK2, HO_5, HB⟩ := hrel
            cases gk with
            | zero => exact absurd HA.out (by simp [nat_Read.l0])
            | succ k2 =>
              have H := HA.out
              clear HA
              simp only [nat_Read.l0] at H
              by_cases c8 : (x0_2.size : Int) > 0
              · rw [if_pos c8] at H
                have c8b0 : decide (0 < (x0_2.size : Int)) = true := decide_eq_true c8
                have c8b1 : decide (0 < x0_2.size) = true := decide_eq_true (by omega)
                clear c8
                obtain ⟨ji9, hji9⟩ : ∃ j_ : Int, (mn (x0_2.size : Int) 19) = j_ := ⟨_, rfl⟩
                replace H : (if 0 ≤ (ji9) then (if (ji9) ≤ (x0_2.size : Int) then ((strconv_ParseUint_69.f (x0_2.extract 0 ((ji9) : Int).toNat) 10 64).bind fun bt784 => (if bt784.2.isNone = true then (nat_Read.l1 k2 x0_2 x5_2 ji9 bt784.1 1 ji9 0) else (some (([] : List Int), some 7)))) else (none)) else (none)) = some (r1, r2) := by first | (rw [hji9] at H; exact H) | (simp only [hji9] at H ⊢; exact H)
                have hji9_ : (if 19 < (x0_2.size : Int) then 19 else (x0_2.size : Int)) = ji9 := hji9
                by_cases c10 : 0 ≤ (ji9)
                · rw [if_pos c10] at H
                  have c10b0 := eq_true c10
                  have c10b1 : decide (0 ≤ (ji9)) = true := decide_eq_true c10
                  clear c10
                  by_cases c11 : (ji9) ≤ (x0_2.size : Int)
                  · rw [if_pos c11] at H
                    have c11b0 := eq_true c11
                    have c11b1 : decide ((ji9) ≤ (x0_2.size : Int)) = true := decide_eq_true c11
                    clear c11
                    replace H := Option.bind_eq_some_iff.mp H
                    obtain ⟨⟨t784, t785⟩, A120, H⟩ := H
                    replace H : (if t785.isNone = true then (nat_Read.l1 k2 x0_2 x5_2 ji9 t784 1 ji9 0) else (some (([] : List Int), some 7))) = some (r1, r2) := H
                    have A12 := Aside0.mk A120
                    clear A120
                    rcases t785 with _ | q786
                    · have H1 : (nat_Read.l1 k2 x0_2 x5_2 ji9 t784 1 ji9 0) = some (r1, r2) := by rw [if_pos (show (none : Option Int).isNone = true by rfl)] at H; exact H
                      clear H
                      have H := H1
                      clear H1
                      try simp only [errW_none, errW_some]
                      have H' := Aside0.mk H
                      clear H
                      go_wp2_with (first | ((with_reducible refine gate_callee (f := 69) rfl ?_); refine goesL_ (some 35) rfl rfl Tryd.func69 (by kernel_rfl) rfl #[.string (x0_2.extract 0 ((ji9) : Int).toNat), .int .i64 10, .int .i64 64] rfl (by (try simp only [List.map_toArray, List.map_cons, List.map_nil]); first | done | (simp only [hji9]; rfl) | rfl | (simp only [List.length_drop, List.length_take]; rfl)) ?_; (with_reducible refine (strconv_ParseUint_69.calls (x0_2.extract 0 ((ji9) : Int).toNat) 10 64 t784 none _ A12.out).mono ?_); rintro e w13 ⟨rfl, hb⟩; refine ⟨_, rfl, ?_⟩; have n0_ := Aside0.mk (Kd.V_below (by (with_reducible repeat (first | apply Kd.V_alloc | apply Kd.V_drewN | apply Kd.V_drew)); exact HO_5.out) hb); have n1_ := Aside0.mk (below_step (by repeat (first | (with_reducible first | exact HB.out | apply below_alloc | apply pw_below_drewN | apply below_drew1) | exact HB.out)) hb); clear HO_5; clear HB; have HO_5 := n0_; have HB := n1_; clear n0_ n1_; (try clear hb); (try clear hb2); (try clear hk); (try clear hi); (try simp only [errW_none, errW_some])))
                      go_loopg [9, 42] k2 (fun kq v9 v42 w' => ∃ (x9_3 : Int) (x42_3 : Int), v9 = .int .u64 x9_3 ∧ v42 = .int .i64 x42_3 ∧ Aside0 (nat_Read.l1 kq x0_2 x5_2 ji9 t784 x9_3 ji9 x42_3 = some (r1, r2)) ∧ Aside0 (kq ≤ k2) ∧ Aside0 (Kd.V (Kd.int .u64) 42 w' w.heap.size (fun k_ => (w.heap.size ≤ k_)) u5 x5_2) ∧ Aside0 (Below w.heap.size w w'))
                      case atStart => exact ⟨(1), (0), (by first | rfl | (simp; done) | (simp [*]; done)), (by first | rfl | (simp; done) | (simp [*]; done)), H', ⟨Nat.le_refl _⟩, ⟨by (with_reducible repeat (first | apply Kd.V_alloc | apply Kd.V_drewN | apply Kd.V_drew)); exact HO_5.out⟩, ⟨by repeat (first | (with_reducible first | exact HB.out | apply below_alloc | apply pw_below_drewN | apply below_drew1) | exact HB.out)⟩⟩
                      case round =>
                        clear H'
                        try clear c1
                        try clear c2
                        try clear c2b0
                        try clear c2b1
                        try clear p2
                        try clear c4
                        try clear c6
                        try clear c6b0
                        try clear c6b1
                        try clear c7
                        try clear c7b0
                        try clear q7
                        try clear c8
                        try clear c8b0
                        try clear c8b1
                        try clear c10
                        try clear c10b0
                        try clear c10b1
                        try clear c11
                        try clear c11b0
                        try clear c11b1
                        try clear p2
                        try clear q786
                        obtain ⟨x9_3, x42_3, rfl, rfl, HA, HK3, HO_5, HB⟩ := hrel
                        cases gk with
                        | zero => exact absurd HA.out (by simp [nat_Read.l1])
                        | succ k3 =>
                          have H := HA.out
                          clear HA
                          simp only [nat_Read.l1] at H
                          by_cases c14 : x42_3 < ji9
                          · rw [if_pos c14] at H
                            have c14b0 : decide (x42_3 < ji9) = true := decide_eq_true c14
                            clear c14
                            have H' := Aside0.mk H
                            clear H
                            go_wp2
                            go_roundg k3
                            case measure => have := HJ3.out; have := HK2.out; have := HK3.out; omega
                            case rel => exact ⟨(IntKind.u64.wrap (x9_3 * 10)), (wrap64 (x42_3 + 1)), (by first | rfl | (simp; done) | (simp [*]; done)), (by first | rfl | (simp; done) | (simp [*]; done)), H', ⟨by have := HJ3.out; have := HK2.out; have := HK3.out; omega⟩, ⟨by (with_reducible repeat (first | apply Kd.V_alloc | apply Kd.V_drewN | apply Kd.V_drew)); exact HO_5.out⟩, ⟨by repeat (first | (with_reducible first | exact HB.out | apply below_alloc | apply pw_below_drewN | apply below_drew1) | exact HB.out)⟩⟩
                          · rw [if_neg c14] at H
                            have c14b0 : decide (x42_3 < ji9) = false := decide_eq_false c14
                            clear c14
                            obtain ⟨y787, hy787⟩ : ∃ y_ : List Int, y_ = (([x9_3] : List Int)) := ⟨_, rfl⟩
                            replace H : ((nat_times.f k3 x5_2 y787).bind fun t790 => ((nat_Of.f k3 t784).bind fun t793 => ((nat_plus.f k3 t790 t793).bind fun t796 => (if 0 ≤ ji9 then (if ji9 ≤ (x0_2.size : Int) then (nat_Read.l0 k3 (x0_2.extract (ji9 : Int).toNat x0_2.size) t796) else (none)) else (none))))) = some (r1, r2) := by first | (rw [hy787]; with_reducible exact H) | (have H2_ := (Option.bind_some _ _).symm.trans H; rw [hy787]; with_reducible exact H2_) | (have H2_ := (Option.bind_some _ _).symm.trans H; with_reducible exact H2_) | with_reducible exact H | (rw [hy787]; exact H) | exact H
                            have Ny787 := Aside0.mk hy787
                            clear hy787
                            replace H := Option.bind_eq_some_iff.mp H
                            obtain ⟨t790, A150, H⟩ := H
                            replace H : ((nat_Of.f k3 t784).bind fun t793 => ((nat_plus.f k3 t790 t793).bind fun t796 => (if 0 ≤ ji9 then (if ji9 ≤ (x0_2.size : Int) then (nat_Read.l0 k3 (x0_2.extract (ji9 : Int).toNat x0_2.size) t796) else (none)) else (none)))) = some (r1, r2) := H
                            have A15 := Aside0.mk A150
                            clear A150
                            replace H := Option.bind_eq_some_iff.mp H
                            obtain ⟨t793, A160, H⟩ := H
                            replace H : ((nat_plus.f k3 t790 t793).bind fun t796 => (if 0 ≤ ji9 then (if ji9 ≤ (x0_2.size : Int) then (nat_Read.l0 k3 (x0_2.extract (ji9 : Int).toNat x0_2.size) t796) else (none)) else (none))) = some (r1, r2) := H
                            have A16 := Aside0.mk A160
                            clear A160
                            replace H := Option.bind_eq_some_iff.mp H
                            obtain ⟨t796, A170, H⟩ := H
                            replace H : (if 0 ≤ ji9 then (if ji9 ≤ (x0_2.size : Int) then (nat_Read.l0 k3 (x0_2.extract (ji9 : Int).toNat x0_2.size) t796) else (none)) else (none)) = some (r1, r2) := H
                            have A17 := Aside0.mk A170
                            clear A170
                            by_cases c18 : 0 ≤ ji9
                            · rw [if_pos c18] at H
                              have c18b0 := eq_true c18
                              have c18b1 : decide (0 ≤ ji9) = true := decide_eq_true c18
                              clear c18
                              by_cases c19 : ji9 ≤ (x0_2.size : Int)
                              · rw [if_pos c19] at H
                                have c19b0 := eq_true c19
                                have c19b1 : decide (ji9 ≤ (x0_2.size : Int)) = true := decide_eq_true c19
                                clear c19
                                have H' := Aside0.mk H
                                clear H
                                go_wp2_with (first | ((with_reducible refine gate_dst (N := 49) rfl ?_); refine Kd.R_lit (Kd.int .u64) _ 42 ?hg (N := 49) ?hd (xs := ([x9_3] : List Int)) (inner := [.int .u64 x9_3]) (ok := fun _ => True) (okp := fun _ => True) ?hr ?hp (fun _ hk => hk) trivial (Below.refl _ _) (Nat.le_refl _) (by simp) ?_; (case hd => rfl); (case hg => rfl); (case hr => first | (go_simp; done) | (go_simp; rfl)); (case hp => exact (Reps.one (show Kd.M (Kd.int .u64) _ _ _ x9_3 [.int .u64 x9_3] from rfl) (Reps.none _ _))); intro v788 w20 ho21 hb hg_ hnew_; clear hg_ hnew_; (first | rw [← Ny787.out] at ho21 | (simp only [Int.reduceToNat] at ho21; rw [← Ny787.out] at ho21)); have n0_ := Aside0.mk (Kd.V_elder' (by (with_reducible repeat (first | apply Kd.V_alloc | apply Kd.V_drewN | apply Kd.V_drew)); exact HO_5.out) (Kd.R_base ho21) hb); have n1_ := Aside0.mk (Kd.R_lower (Kd.R_newM (M := fun k_ => (w.heap.size ≤ k_)) ho21 (below_size (by repeat (first | (with_reducible first | exact HB.out | apply below_alloc | apply pw_below_drewN | apply below_drew1) | exact HB.out))) (fun k_ h_ => h_)) (below_size (by repeat (first | (with_reducible first | exact HB.out | apply below_alloc | apply pw_below_drewN | apply below_drew1) | exact HB.out)))); have n2_ := Aside0.mk (below_step (by repeat (first | (with_reducible first | exact HB.out | apply below_alloc | apply pw_below_drewN | apply below_drew1) | exact HB.out)) hb); clear HO_5; clear HB; have HO_5 := n0_; have HO789 := n1_; have HB := n2_; clear n0_ n1_ n2_; clear hb ho21; obtain ⟨Ao22, co22, eo22⟩ := Kd.V_slice HO_5.out; subst eo22; obtain ⟨Ao23, co23, eo23⟩ := Kd.R_slice HO789.out; subst eo23) | ((with_reducible refine gate_callee (f := 54) rfl ?_); refine goesL_ (some 50) rfl rfl Tryd.func54 (by kernel_rfl) rfl #[.slice Ao22 x5_2.length co22, .slice Ao23 y787.length co23] rfl (by (try simp only [List.map_toArray, List.map_cons, List.map_nil]); first | done | rfl | (simp only [List.length_drop, List.length_take]; rfl)) ?_; (with_reducible refine (nat_times.calls k3 _ _ x5_2 _ _ y787 t790 _ ?side1 ?side2 ?side3 ?side4 A15.out).mono ?_); (case side1 => repeat (first | exact (Kd.V_reads' HO_5.out).2.2 | (with_reducible refine Kd.C_alloc ?_ _) | (with_reducible refine Kd.C_drewN ?_ _) | (with_reducible refine Kd.C_drew ?_))); (case side2 => exact (Kd.V_reads' HO_5.out).2.1); (case side3 => repeat (first | exact (Kd.R_reads' HO789.out).2.2 | (with_reducible refine Kd.C_alloc ?_ _) | (with_reducible refine Kd.C_drewN ?_ _) | (with_reducible refine Kd.C_drew ?_))); (case side4 => exact (Kd.R_reads' HO789.out).2.1); rintro e w24 ⟨v791, rfl, ho0, hb⟩; refine ⟨_, rfl, ?_⟩; have n0_ := Aside0.mk (Kd.V_below (by (with_reducible repeat (first | apply Kd.V_alloc | apply Kd.V_drewN | apply Kd.V_drew)); exact HO_5.out) hb); have n1_ := Aside0.mk (Kd.R_below (by (with_reducible repeat (first | apply Kd.R_alloc | apply Kd.R_drewN | apply Kd.R_drew)); exact HO789.out) hb); have n2_ := Aside0.mk (Kd.V_lower (Kd.V_mono (ok' := fun k_ => (w.heap.size ≤ k_) ∧ some k_ ≠ (.slice Ao23 y787.length co23 : Value).ownBlock) ho0 (fun k_ hk_ => ⟨(Nat.le_trans (below_size (by repeat (first | (with_reducible first | exact HB.out | apply below_alloc | apply pw_below_drewN | apply below_drew1) | exact HB.out))) hk_), (Kd.fresh' (Kd.R_lt (by (with_reducible repeat (first | apply Kd.R_alloc | apply Kd.R_drewN | apply Kd.R_drew)); exact HO789.out)) k_ hk_)⟩)) (below_size (by repeat (first | (with_reducible first | exact HB.out | apply below_alloc | apply pw_below_drewN | apply below_drew1) | exact HB.out)))); have n3_ := Aside0.mk (below_step (by repeat (first | (with_reducible first | exact HB.out | apply below_alloc | apply pw_below_drewN | apply below_drew1) | exact HB.out)) hb); clear HO_5; clear HO789; clear HB; have HO_5 := n0_; have HO789 := n1_; have HO792 := n2_; have HB := n3_; clear n0_ n1_ n2_ n3_; (try clear hb); (try clear hb2); (try clear hk); (try clear hi); (try clear ho0)) | ((with_reducible refine gate_callee (f := 27) rfl ?_); refine goesL_ (some 52) rfl rfl Tryd.func27 (by kernel_rfl) rfl #[.int .u64 t784] rfl (by (try simp only [List.map_toArray, List.map_cons, List.map_nil]); first | done | rfl | (simp only [List.length_drop, List.length_take]; rfl)) ?_; (with_reducible refine (nat_Of.calls k3 t784 t793 _ A16.out).mono ?_); rintro e w25 ⟨v794, rfl, ho0, hb⟩; refine ⟨_, rfl, ?_⟩; have n0_ := Aside0.mk (Kd.V_below (by (with_reducible repeat (first | apply Kd.V_alloc | apply Kd.V_drewN | apply Kd.V_drew)); exact HO_5.out) hb); have n1_ := Aside0.mk (Kd.R_below (by (with_reducible repeat (first | apply Kd.R_alloc | apply Kd.R_drewN | apply Kd.R_drew)); exact HO789.out) hb); have n2_ := Aside0.mk (Kd.V_below (by (with_reducible repeat (first | apply Kd.V_alloc | apply Kd.V_drewN | apply Kd.V_drew)); exact HO792.out) hb); have n3_ := Aside0.mk (Kd.V_lower (Kd.V_mono (ok' := fun k_ => (w.heap.size ≤ k_) ∧ some k_ ≠ (.slice Ao23 y787.length co23 : Value).ownBlock) ho0 (fun k_ hk_ => ⟨(Nat.le_trans (below_size (by repeat (first | (with_reducible first | exact HB.out | apply below_alloc | apply pw_below_drewN | apply below_drew1) | exact HB.out))) hk_), (Kd.fresh' (Kd.R_lt (by (with_reducible repeat (first | apply Kd.R_alloc | apply Kd.R_drewN | apply Kd.R_drew)); exact HO789.out)) k_ hk_)⟩)) (below_size (by repeat (first | (with_reducible first | exact HB.out | apply below_alloc | apply pw_below_drewN | apply below_drew1) | exact HB.out)))); have n4_ := Aside0.mk (below_step (by repeat (first | (with_reducible first | exact HB.out | apply below_alloc | apply pw_below_drewN | apply below_drew1) | exact HB.out)) hb); clear HO_5; clear HO789; clear HO792; clear HB; have HO_5 := n0_; have HO789 := n1_; have HO792 := n2_; have HO795 := n3_; have HB := n4_; clear n0_ n1_ n2_ n3_ n4_; (try clear hb); (try clear hb2); (try clear hk); (try clear hi); (try clear ho0); obtain ⟨Ao26, co26, eo26⟩ := Kd.V_slice HO792.out; subst eo26; obtain ⟨Ao27, co27, eo27⟩ := Kd.V_slice HO795.out; subst eo27) | ((with_reducible refine gate_callee (f := 52) rfl ?_); refine goesL_ (some 53) rfl rfl Tryd.func52 (by kernel_rfl) rfl #[.slice Ao26 t790.length co26, .slice Ao27 t793.length co27] rfl (by (try simp only [List.map_toArray, List.map_cons, List.map_nil]); first | done | rfl | (simp only [List.length_drop, List.length_take]; rfl)) ?_; (with_reducible refine (nat_plus.calls k3 (fun k_ => ((w.heap.size ≤ k_) ∧ some k_ ≠ (.slice Ao23 y787.length co23 : Value).ownBlock)) _ _ t790 (fun k_ => ((w.heap.size ≤ k_) ∧ some k_ ≠ (.slice Ao23 y787.length co23 : Value).ownBlock)) _ _ t793 t796 _ ?side1 ?side2 A17.out).mono ?_); (case side1 => exact HO792.out); (case side2 => exact HO795.out); rintro e w28 ⟨v797, rfl, ho0, hb⟩; refine ⟨_, rfl, ?_⟩; have n0_ := Aside0.mk (Kd.V_below (by (with_reducible repeat (first | apply Kd.V_alloc | apply Kd.V_drewN | apply Kd.V_drew)); exact HO_5.out) hb); have n1_ := Aside0.mk (Kd.R_below (by (with_reducible repeat (first | apply Kd.R_alloc | apply Kd.R_drewN | apply Kd.R_drew)); exact HO789.out) hb); have n2_ := Aside0.mk (Kd.V_below (by (with_reducible repeat (first | apply Kd.V_alloc | apply Kd.V_drewN | apply Kd.V_drew)); exact HO792.out) hb); have n3_ := Aside0.mk (Kd.V_below (by (with_reducible repeat (first | apply Kd.V_alloc | apply Kd.V_drewN | apply Kd.V_drew)); exact HO795.out) hb); have n4_ := Aside0.mk (Kd.V_lower (Kd.V_mono (ok' := fun k_ => (w.heap.size ≤ k_) ∧ some k_ ≠ (.slice Ao23 y787.length co23 : Value).ownBlock) ho0 (fun k_ hk_ => ⟨Or.elim hk_ (fun hs_ => Or.elim hs_ (fun hs_ => hs_.1) (fun hs_ => hs_.1)) (fun hn_ => (Nat.le_trans (below_size (by repeat (first | (with_reducible first | exact HB.out | apply below_alloc | apply pw_below_drewN | apply below_drew1) | exact HB.out))) hn_)), Or.elim hk_ (fun hs_ => Or.elim hs_ (fun hs_ => hs_.2) (fun hs_ => hs_.2)) (fun hn_ => (Kd.fresh' (Kd.R_lt (by (with_reducible repeat (first | apply Kd.R_alloc | apply Kd.R_drewN | apply Kd.R_drew)); exact HO789.out)) k_ hn_))⟩)) (below_size (by repeat (first | (with_reducible first | exact HB.out | apply below_alloc | apply pw_below_drewN | apply below_drew1) | exact HB.out)))); have n5_ := Aside0.mk (below_step (by repeat (first | (with_reducible first | exact HB.out | apply below_alloc | apply pw_below_drewN | apply below_drew1) | exact HB.out)) hb); clear HO_5; clear HO789; clear HO792; clear HO795; clear HB; have HO_5 := n0_; have HO789 := n1_; have HO792 := n2_; have HO795 := n3_; have HO798 := n4_; have HB := n5_; clear n0_ n1_ n2_ n3_ n4_ n5_; (try clear hb); (try clear hb2); (try clear hk); (try clear hi); (try clear ho0)))
                                go_roundg k3
                                case measure => have := HJ3.out; have := HK2.out; have := HK3.out; omega
                                case rel => exact ⟨(x0_2.extract (ji9 : Int).toNat x0_2.size), (t796), (by first | rfl | (simp; done) | (simp only [← hji9] <;> (first | rfl | simp)) | (simp [*]; done)), H', ⟨by have := HJ3.out; have := HK2.out; have := HK3.out; omega⟩, ⟨by (with_reducible repeat (first | apply Kd.V_alloc | apply Kd.V_drewN | apply Kd.V_drew)); exact Kd.V_mono HO798.out (fun _ hk => hk.1)⟩, ⟨by repeat (first | (with_reducible first | exact HB.out | apply below_alloc | apply pw_below_drewN | apply below_drew1) | exact HB.out)⟩⟩
                              · rw [if_neg c19] at H
                                exact absurd H (by simp)
                            · rw [if_neg c18] at H
                              exact absurd H (by simp)
                    · have H1 : (some (([] : List Int), some 7)) = some (r1, r2) := by rw [if_neg (show ¬ (some q786).isNone = true by simp)] at H; exact H
                      clear H
                      have H := H1
                      clear H1
                      try simp only [errW_none, errW_some]
                      simp only [Option.some.injEq, Prod.mk.injEq] at H
                      obtain ⟨rfl, rfl⟩ := H
                      go_wp2_with (first | ((with_reducible refine gate_callee (f := 69) rfl ?_); refine goesL_ (some 35) rfl rfl Tryd.func69 (by kernel_rfl) rfl #[.string (x0_2.extract 0 ((ji9) : Int).toNat), .int .i64 10, .int .i64 64] rfl (by (try simp only [List.map_toArray, List.map_cons, List.map_nil]); first | done | (simp only [hji9]; rfl) | rfl | (simp only [List.length_drop, List.length_take]; rfl)) ?_; (with_reducible refine (strconv_ParseUint_69.calls (x0_2.extract 0 ((ji9) : Int).toNat) 10 64 t784 (some q786) _ A12.out).mono ?_); rintro e w29 ⟨rfl, hb⟩; refine ⟨_, rfl, ?_⟩; have n0_ := Aside0.mk (Kd.V_below (by (with_reducible repeat (first | apply Kd.V_alloc | apply Kd.V_drewN | apply Kd.V_drew)); exact HO_5.out) hb); have n1_ := Aside0.mk (below_step (by repeat (first | (with_reducible first | exact HB.out | apply below_alloc | apply pw_below_drewN | apply below_drew1) | exact HB.out)) hb); clear HO_5; clear HB; have HO_5 := n0_; have HB := n1_; clear n0_ n1_; (try clear hb); (try clear hb2); (try clear hk); (try clear hi); (try simp only [errW_none, errW_some])))
                      go_ret2
                      exact ⟨_, by first | rfl | (simp [errW_none, errW_some] <;> rfl) | (simp only [← hji9]; first | rfl | (simp [errW_none, errW_some] <;> rfl)) | (simp [*, errW_none, errW_some] <;> rfl), Kd.V_nil _ _ _ _ _, by repeat (first | (with_reducible first | exact HB.out | apply below_alloc | apply pw_below_drewN | apply below_drew1) | exact HB.out)⟩
                  · rw [if_neg c11] at H
                    exact absurd H (by simp)
                · rw [if_neg c10] at H
                  exact absurd H (by simp)
              · rw [if_neg c8] at H
                have c8b0 : decide (0 < (x0_2.size : Int)) = false := decide_eq_false c8
                have c8b1 : decide (0 < x0_2.size) = false := decide_eq_false (by omega)
                clear c8
                simp only [Option.some.injEq, Prod.mk.injEq] at H
                obtain ⟨rfl, rfl⟩ := H
                go_wp2
                go_ret2
                exact ⟨_, by first | rfl | (simp [errW_none, errW_some] <;> rfl) | (simp [*, errW_none, errW_some] <;> rfl), by (with_reducible repeat (first | apply Kd.V_alloc | apply Kd.V_drewN | apply Kd.V_drew)); exact HO_5.out, by repeat (first | (with_reducible first | exact HB.out | apply below_alloc | apply pw_below_drewN | apply below_drew1) | exact HB.out)⟩
end Go.Proofs.YthgmkigfgcejgaaDoor.PNat
