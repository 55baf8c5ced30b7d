/- NatTextBack: the law's walk, where the second text is no text of digits too. -/
import Derived.Test.YthgmkigfgcejgaaDoorQTBPNatx5
import Derived.Test.YthgmkigfgcejgaaDoorQTBPNatx2
import Derived.Test.YthgmkigfgcejgaaDoorQTBPNatx19
import Derived.Test.YthgmkigfgcejgaaDoorQTBGFault
namespace Go.Proofs.YthgmkigfgcejgaaDoor.PNat
open Go.RowKit Go.Proofs.YthgmkigfgcejgaaDoorW.PrintWords Go.Proofs.YthgmkigfgcejgaaDoorW.PrintLast Go.Proofs.YthgmkigfgcejgaaDoorW.PrintMore Go.Proofs.YthgmkigfgcejgaaDoor.M
attribute [local go_sem] runx_add64 runx_sub64 eql_cc eql_nc neq_cc neq_nc
attribute [local go_sem] max2_int min2_int max_two min_two max_three min_three max_four min_four
set_option linter.unusedVariables false
set_option linter.unusedSimpArgs false
mutual
def vernierlaw04_NatTextBackF.j0 : Nat → ByteArray → Bool → Option (Bool)
  | 0, _, _ => none
  | k + 1, x1, x5 => if faultB x1 = true then (if x5 = true then (some true) else (some false)) else ((nat_Read.f k x1).bind fun bt808 => (if bt808.2.isNone = true then (vernierlaw04_NatTextBackF.l0 k x1 x5 bt808.1 0) else (if x5 = true then (some ((bt808.1.length : Int) == 0)) else (some false))))
def vernierlaw04_NatTextBackF.l0 : Nat → ByteArray → Bool → List Int → Int → Option (Bool)
  | 0, _, _, _, _ => none
  | k + 1, x1, x5, x10, x12 => if x12 < (wrap64 ((x1.size : Int) - 1)) then (if 0 ≤ x12 then (if x12 < (x1.size : Int) then (if (bt x1 x12) = 48 then (vernierlaw04_NatTextBackF.l0 k x1 x5 x10 (wrap64 (x12 + 1))) else ((nat_Text.f k x10).bind fun t813 => (if x5 = true then (if x12 ≤ (x1.size : Int) then (some (t813.toList == (x1.extract (x12 : Int).toNat x1.size).toList)) else (none)) else (some false)))) else (none)) else (none)) else ((nat_Text.f k x10).bind fun t814 => (if x5 = true then (if 0 ≤ x12 then (if x12 ≤ (x1.size : Int) then (some (t814.toList == (x1.extract (x12 : Int).toNat x1.size).toList)) else (none)) else (none)) else (some false)))
end
def vernierlaw04_NatTextBackF.f (k : Nat) (l0 : List Int) (a1 : ByteArray) : Option (Bool) := (vernierlaw04_shown.f k).bind fun t799 => ((nat_Text.f k l0).bind fun t800 => ((nat_Read.f k t800).bind fun bt801 => ((nat_Cmp.f k l0 bt801.1).bind fun t805 => (if (t800.size : Int) > 4096 then (if bt801.2.isNone = true then (some false) else (if (bt801.2.getD 0) = 13 then (vernierlaw04_NatTextBackF.j0 k a1 t799) else (some false))) else (if bt801.2.isNone = true then (if t805 = 0 then (vernierlaw04_NatTextBackF.j0 k a1 t799) else (some false)) else (some false))))))
set_option maxHeartbeats 8000000 in
set_option maxRecDepth 100000 in
theorem vernierlaw04_NatTextBackF.calls (k : Nat) (A0 : Option Addr) (c0 : Nat) (l0 : List Int) (a1 : ByteArray) (r : Bool) (w : World) (hr0 : Kd.C (Kd.int .u64) w A0 l0.length l0) (hc0 : l0.length ≤ c0) (h : vernierlaw04_NatTextBackF.f k l0 a1 = some r) (hr_ : r = true := by rfl) (htab : Fmt.Tab10 w := by exact Fmt.Tab10.below HTAB.out (by repeat (first | (with_reducible first | exact HB.out | apply below_alloc | apply pw_below_drewN | apply below_drew1) | exact HB.out))) :
    Calls Tryd.prog 14 #[.slice A0 l0.length c0, .string a1] w fun e w' => e = .returned (.bool r) ∧ Below w.heap.size w w' := by
  have HTAB := Aside0.mk htab
  clear htab
  have HRT := Aside0.mk hr_
  clear hr_
  have hu33 := Tryd.underlying33
  have hu37 := Tryd.underlying37
  have HR0 := Aside0.mk hr0
  have HC0 := Aside0.mk hc0
  clear hr0 hc0
  have HB := Aside0.mk (Below.refl w.heap.size w)
  have H : ((vernierlaw04_shown.f k).bind fun t799 => ((nat_Text.f k l0).bind fun t800 => ((nat_Read.f k t800).bind fun bt801 => ((nat_Cmp.f k l0 bt801.1).bind fun t805 => (if (t800.size : Int) > 4096 then (if bt801.2.isNone = true then (some false) else (if (bt801.2.getD 0) = 13 then (vernierlaw04_NatTextBackF.j0 k a1 t799) else (some false))) else (if bt801.2.isNone = true then (if t805 = 0 then (vernierlaw04_NatTextBackF.j0 k a1 t799) else (some false)) else (some false))))))) = some r := h
  clear h
  replace H := Option.bind_eq_some_iff.mp H
  obtain ⟨t799, A30, H⟩ := H
  replace H : ((nat_Text.f k l0).bind fun t800 => ((nat_Read.f k t800).bind fun bt801 => ((nat_Cmp.f k l0 bt801.1).bind fun t805 => (if (t800.size : Int) > 4096 then (if bt801.2.isNone = true then (some false) else (if (bt801.2.getD 0) = 13 then (vernierlaw04_NatTextBackF.j0 k a1 t799) else (some false))) else (if bt801.2.isNone = true then (if t805 = 0 then (vernierlaw04_NatTextBackF.j0 k a1 t799) else (some false)) else (some false)))))) = some r := H
  have A3 := Aside0.mk A30
  clear A30
  replace H := Option.bind_eq_some_iff.mp H
  obtain ⟨t800, A40, H⟩ := H
  replace H : ((nat_Read.f k t800).bind fun bt801 => ((nat_Cmp.f k l0 bt801.1).bind fun t805 => (if (t800.size : Int) > 4096 then (if bt801.2.isNone = true then (some false) else (if (bt801.2.getD 0) = 13 then (vernierlaw04_NatTextBackF.j0 k a1 t799) else (some false))) else (if bt801.2.isNone = true then (if t805 = 0 then (vernierlaw04_NatTextBackF.j0 k a1 t799) else (some false)) else (some false))))) = some r := H
  have A4 := Aside0.mk A40
  clear A40
  replace H := Option.bind_eq_some_iff.mp H
  obtain ⟨⟨t801, t804⟩, A50, H⟩ := H
  replace H : ((nat_Cmp.f k l0 t801).bind fun t805 => (if (t800.size : Int) > 4096 then (if t804.isNone = true then (some false) else (if (t804.getD 0) = 13 then (vernierlaw04_NatTextBackF.j0 k a1 t799) else (some false))) else (if t804.isNone = true then (if t805 = 0 then (vernierlaw04_NatTextBackF.j0 k a1 t799) else (some false)) else (some false)))) = some r := H
  have A5 := Aside0.mk A50
  clear A50
  replace H := Option.bind_eq_some_iff.mp H
  obtain ⟨t805, A60, H⟩ := H
  replace H : (if (t800.size : Int) > 4096 then (if t804.isNone = true then (some false) else (if (t804.getD 0) = 13 then (vernierlaw04_NatTextBackF.j0 k a1 t799) else (some false))) else (if t804.isNone = true then (if t805 = 0 then (vernierlaw04_NatTextBackF.j0 k a1 t799) else (some false)) else (some false))) = some r := H
  have A6 := Aside0.mk A60
  clear A60
  have HC7 := Aside0.mk H
  clear H
  go_enter Tryd.func14, Tryd.ntmps14
  go_upto_if 27 with (first | ((with_reducible refine gate_callee (f := 15) rfl ?_); refine goesL_ (some 14) rfl rfl Tryd.func15 (by kernel_rfl) rfl #[] rfl (by (try simp only [List.map_toArray, List.map_cons, List.map_nil]); first | done | rfl | (simp only [List.length_drop, List.length_take]; rfl)) ?_; (with_reducible refine (vernierlaw04_shown.calls k  t799 _ A3.out).mono ?_); rintro e w8 ⟨rfl, hb⟩; refine ⟨_, rfl, ?_⟩; have n0_ := Aside0.mk (below_step (by repeat (first | (with_reducible first | exact HB.out | apply below_alloc | apply pw_below_drewN | apply below_drew1) | exact HB.out)) hb); clear HB; have HB := n0_; clear n0_; (try clear hb); (try clear hb2); (try clear hk); (try clear hi)) | ((with_reducible refine gate_callee (f := 25) rfl ?_); refine goesL_ (some 16) rfl rfl Tryd.func25 (by kernel_rfl) rfl #[.slice A0 l0.length c0] rfl (by (try simp only [List.map_toArray, List.map_cons, List.map_nil]); first | done | rfl | (simp only [List.length_drop, List.length_take]; rfl)) ?_; (with_reducible refine (nat_Text.calls k _ _ l0 t800 _ ?side1 ?side2 A4.out).mono ?_); (case side1 => repeat (first | exact (Kd.C_below HR0.out HB.out) | (with_reducible refine Kd.C_alloc ?_ _) | (with_reducible refine Kd.C_drewN ?_ _) | (with_reducible refine Kd.C_drew ?_))); (case side2 => exact HC0.out); rintro e w9 ⟨rfl, hb⟩; refine ⟨_, rfl, ?_⟩; have n0_ := Aside0.mk (below_step (by repeat (first | (with_reducible first | exact HB.out | apply below_alloc | apply pw_below_drewN | apply below_drew1) | exact HB.out)) hb); clear HB; have HB := n0_; clear n0_; (try clear hb); (try clear hb2); (try clear hk); (try clear hi)) | ((with_reducible refine gate_callee (f := 49) rfl ?_); refine goesL_ (some 19) rfl rfl Tryd.func49 (by kernel_rfl) rfl #[.string t800] rfl (by (try simp only [List.map_toArray, List.map_cons, List.map_nil]); first | done | rfl | (simp only [List.length_drop, List.length_take]; rfl)) ?_; (with_reducible refine (nat_Read.calls k t800 t801 t804 _ A5.out).mono ?_); rintro e w10 ⟨v802, rfl, ho0, hb⟩; refine ⟨_, rfl, ?_⟩; have n0_ := Aside0.mk (Kd.V_lower (Kd.V_mono (ok' := fun k_ => True) ho0 (fun k_ hk_ => trivial)) (below_size (by repeat (first | (with_reducible first | exact HB.out | apply below_alloc | apply pw_below_drewN | apply below_drew1) | exact HB.out)))); have n1_ := Aside0.mk (below_step (by repeat (first | (with_reducible first | exact HB.out | apply below_alloc | apply pw_below_drewN | apply below_drew1) | exact HB.out)) hb); clear HB; have HO803 := n0_; have HB := n1_; clear n0_ n1_; (try clear hb); (try clear hb2); (try clear hk); (try clear hi); (try clear ho0); (try simp only [errW_none, errW_some]); obtain ⟨Ao11, co11, eo11⟩ := Kd.V_slice HO803.out; subst eo11) | ((with_reducible refine gate_callee (f := 30) rfl ?_); refine goesL_ (some 24) rfl rfl Tryd.func30 (by kernel_rfl) rfl #[.slice A0 l0.length c0, .slice Ao11 t801.length co11] rfl (by (try simp only [List.map_toArray, List.map_cons, List.map_nil]); first | done | rfl | (simp only [List.length_drop, List.length_take]; rfl)) ?_; (with_reducible refine (nat_Cmp.calls k _ _ l0 _ _ t801 t805 _ ?side1 ?side2 ?side3 ?side4 A6.out).mono ?_); (case side1 => repeat (first | exact (Kd.C_below HR0.out HB.out) | (with_reducible refine Kd.C_alloc ?_ _) | (with_reducible refine Kd.C_drewN ?_ _) | (with_reducible refine Kd.C_drew ?_))); (case side2 => exact HC0.out); (case side3 => repeat (first | exact (Kd.V_reads' HO803.out).2.2 | (with_reducible refine Kd.C_alloc ?_ _) | (with_reducible refine Kd.C_drewN ?_ _) | (with_reducible refine Kd.C_drew ?_))); (case side4 => exact (Kd.V_reads' HO803.out).2.1); rintro e w12 ⟨rfl, hb⟩; refine ⟨_, rfl, ?_⟩; have n0_ := Aside0.mk (Kd.V_below (by (with_reducible repeat (first | apply Kd.V_alloc | apply Kd.V_drewN | apply Kd.V_drew)); exact HO803.out) hb); have n1_ := Aside0.mk (below_step (by repeat (first | (with_reducible first | exact HB.out | apply below_alloc | apply pw_below_drewN | apply below_drew1) | exact HB.out)) hb); clear HO803; clear HB; have HO803 := n0_; have HB := n1_; clear n0_ n1_; (try clear hb); (try clear hb2); (try clear hk); (try clear hi)))
  (try simp only [Act.put, List.setIfInBounds_toArray, List.set_cons_zero, List.set_cons_succ])
  go_cut [] (fun wc => ∃ (kq : Nat), Aside0 (vernierlaw04_NatTextBackF.j0 kq a1 t799 = some r) ∧ Aside0 (kq ≤ k) ∧ Aside0 (Below w.heap.size w wc))
  case first =>
    have H := HC7.out
    clear HC7
    by_cases c13 : (t800.size : Int) > 4096
    · rw [if_pos c13] at H
      have c13b0 : decide (4096 < (t800.size : Int)) = true := decide_eq_true c13
      have c13b1 : decide (4096 < t800.size) = true := decide_eq_true (by omega)
      clear c13
      (first | rw [c13b0] | (simp only [i64_w, i32_w]; rw [c13b0]) | rw [c13b1] | rw [List.isEmpty_iff.mpr (beq_iff_eq.mp c13b0)] | rw [List.isEmpty_eq_false_iff.mpr (beq_eq_false_iff_ne.mp c13b0)] | skip)
      rcases t804 with _ | q806
      · have H1 : (some false) = some r := by rw [if_pos (show (none : Option Int).isNone = true by rfl)] at H; exact H
        clear H
        have H := H1
        clear H1
        try simp only [errW_none, errW_some]
        exact absurd (Option.some.inj H) (by rw [HRT.out]; decide)
      · have H1 : (if q806 = 13 then (vernierlaw04_NatTextBackF.j0 k a1 t799) else (some false)) = some r := by rw [if_neg (show ¬ (some q806).isNone = true by simp)] at H; exact H
        clear H
        have H := H1
        clear H1
        try simp only [errW_none, errW_some]
        by_cases c14 : q806 = 13
        · rw [if_pos c14] at H
          have c14b0 : (q806 == 13) = true := beq_iff_eq.mpr c14
          have c14b1 : (q806 != 13) = false := bne_eq_false_iff_eq.mpr c14
          clear c14
          have H' := Aside0.mk H
          clear H
          go_wp2
          go_meet
          case rel => exact ⟨_, H', ⟨by first | omega | exact Nat.le_refl _⟩, ⟨by repeat (first | (with_reducible first | exact HB.out | apply below_alloc | apply pw_below_drewN | apply below_drew1) | exact HB.out)⟩⟩
        · rw [if_neg c14] at H
          have c14b0 : (q806 == 13) = false := beq_eq_false_iff_ne.mpr c14
          have c14b1 : (q806 != 13) = true := bne_iff_ne.mpr c14
          exact absurd (Option.some.inj H) (by rw [HRT.out]; decide)
    · rw [if_neg c13] at H
      have c13b0 : decide (4096 < (t800.size : Int)) = false := decide_eq_false c13
      have c13b1 : decide (4096 < t800.size) = false := decide_eq_false (by omega)
      clear c13
      (first | rw [c13b0] | (simp only [i64_w, i32_w]; rw [c13b0]) | rw [c13b1] | rw [List.isEmpty_iff.mpr (beq_iff_eq.mp c13b0)] | rw [List.isEmpty_eq_false_iff.mpr (beq_eq_false_iff_ne.mp c13b0)] | skip)
      rcases t804 with _ | q807
      · have H1 : (if t805 = 0 then (vernierlaw04_NatTextBackF.j0 k a1 t799) else (some false)) = some r := by rw [if_pos (show (none : Option Int).isNone = true by rfl)] at H; exact H
        clear H
        have H := H1
        clear H1
        try simp only [errW_none, errW_some]
        by_cases c15 : t805 = 0
        · rw [if_pos c15] at H
          have c15b0 : (t805 == 0) = true := beq_iff_eq.mpr c15
          have c15b1 : (t805 != 0) = false := bne_eq_false_iff_eq.mpr c15
          clear c15
          have H' := Aside0.mk H
          clear H
          go_wp2
          go_meet
          case rel => exact ⟨_, H', ⟨by first | omega | exact Nat.le_refl _⟩, ⟨by repeat (first | (with_reducible first | exact HB.out | apply below_alloc | apply pw_below_drewN | apply below_drew1) | exact HB.out)⟩⟩
        · rw [if_neg c15] at H
          have c15b0 : (t805 == 0) = false := beq_eq_false_iff_ne.mpr c15
          have c15b1 : (t805 != 0) = true := bne_iff_ne.mpr c15
          exact absurd (Option.some.inj H) (by rw [HRT.out]; decide)
      · have H1 : (some false) = some r := by rw [if_neg (show ¬ (some q807).isNone = true by simp)] at H; exact H
        clear H
        have H := H1
        clear H1
        try simp only [errW_none, errW_some]
        exact absurd (Option.some.inj H) (by rw [HRT.out]; decide)
  case rest =>
    clear HC7
    try clear c1
    try clear c2
    try clear p2
    try clear c3
    try clear c4
    try clear q8
    try clear c13
    try clear c13b0
    try clear c13b1
    try clear c14
    try clear c14b0
    try clear c14b1
    try clear c15
    try clear c15b0
    try clear c15b1
    try clear q806
    try clear q807
    obtain ⟨kq, HA, HJ6, HB⟩ := hcut
    cases kq with
    | zero => exact absurd HA.out (by simp [vernierlaw04_NatTextBackF.j0])
    | succ kj6 =>
      have H := HA.out
      clear HA
      simp only [vernierlaw04_NatTextBackF.j0] at H
      by_cases hF : faultB a1 = true
      case pos =>
        rw [if_pos hF] at H
        by_cases ht : t799 = true
        case neg => rw [if_neg ht] at H; exact absurd (Option.some.inj H) (by rw [HRT.out]; decide)
        subst ht
        clear H
        have HF := Aside0.mk hF
        clear hF
        go_wp2_with (go_at_call 49; refine (nat_Read_fault a1 _ HF.out).mono ?_; rintro e w1 ⟨g, rfl, hg, hfa, hb⟩; have HB1 := Aside0.mk hb; clear hb hg hfa)
        go_ret
        exact ⟨by rw [HRT.out]; rfl, below_step HB.out HB1.out⟩
      rw [if_neg hF] at H
      clear hF
      replace H := Option.bind_eq_some_iff.mp H
      obtain ⟨⟨t808, t811⟩, A160, H⟩ := H
      replace H : (if t811.isNone = true then (vernierlaw04_NatTextBackF.l0 kj6 a1 t799 t808 0) else (if t799 = true then (some ((t808.length : Int) == 0)) else (some false))) = some r := H
      have A16 := Aside0.mk A160
      clear A160
      rcases t811 with _ | q812
      · have H1 : (vernierlaw04_NatTextBackF.l0 kj6 a1 t799 t808 0) = some r := by rw [if_pos (show (none : Option Int).isNone = true by rfl)] at H; exact H
        clear H
        have H := H1
        clear H1
        try simp only [errW_none, errW_some]
        have H' := Aside0.mk H
        clear H
        go_wp2_with (first | ((with_reducible refine gate_callee (f := 49) rfl ?_); refine goesL_ (some 39) rfl rfl Tryd.func49 (by kernel_rfl) rfl #[.string a1] rfl (by (try simp only [List.map_toArray, List.map_cons, List.map_nil]); first | done | rfl | (simp only [List.length_drop, List.length_take]; rfl)) ?_; (with_reducible refine (nat_Read.calls kj6 a1 t808 none _ A16.out).mono ?_); rintro e w17 ⟨v809, rfl, ho0, hb⟩; refine ⟨_, rfl, ?_⟩; have n0_ := Aside0.mk (Kd.V_lower (Kd.V_mono (ok' := fun k_ => True) ho0 (fun k_ hk_ => trivial)) (below_size (by repeat (first | (with_reducible first | exact HB.out | apply below_alloc | apply pw_below_drewN | apply below_drew1) | exact HB.out)))); have n1_ := Aside0.mk (below_step (by repeat (first | (with_reducible first | exact HB.out | apply below_alloc | apply pw_below_drewN | apply below_drew1) | exact HB.out)) hb); clear HB; have HO810 := n0_; have HB := n1_; clear n0_ n1_; (try clear hb); (try clear hb2); (try clear hk); (try clear hi); (try clear ho0); (try simp only [errW_none, errW_some])))
        go_loopg [12] kj6 (fun kq v12 w' => ∃ (x12_2 : Int), v12 = .int .i64 x12_2 ∧ Aside0 (vernierlaw04_NatTextBackF.l0 kq a1 t799 t808 x12_2 = some r) ∧ Aside0 (kq ≤ kj6) ∧ Aside0 (Kd.V (Kd.int .u64) 42 w' w.heap.size (fun _ => True) v809 t808) ∧ Aside0 (Below w.heap.size w w'))
        case atStart => exact ⟨(0), (by first | rfl | (simp; done) | (simp [*]; done)), H', ⟨Nat.le_refl _⟩, ⟨by (with_reducible repeat (first | apply Kd.V_alloc | apply Kd.V_drewN | apply Kd.V_drew)); exact HO810.out⟩, ⟨by repeat (first | (with_reducible first | exact HB.out | apply below_alloc | apply pw_below_drewN | apply below_drew1) | exact HB.out)⟩⟩
        case round =>
          clear H'
          try clear c1
          try clear c2
          try clear p2
          try clear c3
          try clear c4
          try clear q8
          try clear c13
          try clear c13b0
          try clear c13b1
          try clear c14
          try clear c14b0
          try clear c14b1
          try clear c15
          try clear c15b0
          try clear c15b1
          try clear p2
          try clear q8
          try clear q806
          try clear q807
          try clear q812
          obtain ⟨x12_2, rfl, HA, HK2, HO_10, HB⟩ := hrel
          cases gk with
          | zero => exact absurd HA.out (by simp [vernierlaw04_NatTextBackF.l0])
          | succ k2 =>
            have H := HA.out
            clear HA
            simp only [vernierlaw04_NatTextBackF.l0] at H
            by_cases c18 : x12_2 < (wrap64 ((a1.size : Int) - 1))
            · rw [if_pos c18] at H
              have c18b0 : decide (x12_2 < (wrap64 ((a1.size : Int) - 1))) = true := decide_eq_true c18
              clear c18
              by_cases c19 : 0 ≤ x12_2
              · rw [if_pos c19] at H
                have c19b0 : decide (0 ≤ x12_2) = true := decide_eq_true c19
                clear c19
                by_cases c20 : x12_2 < (a1.size : Int)
                · rw [if_pos c20] at H
                  have c20b0 : decide (x12_2 < (a1.size : Int)) = true := decide_eq_true c20
                  clear c20
                  by_cases c22 : (bt a1 x12_2) = 48
                  · rw [if_pos c22] at H
                    have c22b0 : ((bt a1 x12_2) == 48) = true := beq_iff_eq.mpr c22
                    have c22b1 : ((bt a1 x12_2) != 48) = false := bne_eq_false_iff_eq.mpr c22
                    clear c22
                    have H' := Aside0.mk H
                    clear H
                    have p21 : 0 ≤ (x12_2 : Int) := of_decide_eq_true (by first | (with_reducible assumption) | assumption)
                    have q21 : x12_2 < (a1.size : Int) := of_decide_eq_true (by first | (with_reducible assumption) | assumption)
                    have hx21 := bt_at a1 x12_2
                    replace p21 := eq_true p21
                    replace q21 := eq_true q21
                    go_wp2
                    go_roundg k2
                    case measure => have := HJ6.out; have := HK2.out; omega
                    case rel => exact ⟨(wrap64 (x12_2 + 1)), (by first | rfl | (simp; done) | (simp [*]; done)), H', ⟨by have := HJ6.out; have := HK2.out; omega⟩, ⟨by (with_reducible repeat (first | apply Kd.V_alloc | apply Kd.V_drewN | apply Kd.V_drew)); exact HO_10.out⟩, ⟨by repeat (first | (with_reducible first | exact HB.out | apply below_alloc | apply pw_below_drewN | apply below_drew1) | exact HB.out)⟩⟩
                  · rw [if_neg c22] at H
                    have c22b0 : ((bt a1 x12_2) == 48) = false := beq_eq_false_iff_ne.mpr c22
                    have c22b1 : ((bt a1 x12_2) != 48) = true := bne_iff_ne.mpr c22
                    replace H := Option.bind_eq_some_iff.mp H
                    obtain ⟨t813, A230, H⟩ := H
                    replace H : (if t799 = true then (if x12_2 ≤ (a1.size : Int) then (some (t813.toList == (a1.extract (x12_2 : Int).toNat a1.size).toList)) else (none)) else (some false)) = some r := H
                    have A23 := Aside0.mk A230
                    clear A230
                    by_cases c24 : t799 = true
                    · subst c24
                      have H1 : (if x12_2 ≤ (a1.size : Int) then (some (t813.toList == (a1.extract (x12_2 : Int).toNat a1.size).toList)) else (none)) = some r := by rw [if_pos rfl] at H; exact H
                      clear H
                      have H := H1
                      clear H1
                      have c25b0 := eq_true (of_decide_eq_true (by first | (with_reducible assumption) | assumption) : 0 ≤ x12_2)
                      by_cases c26 : x12_2 ≤ (a1.size : Int)
                      · rw [if_pos c26] at H
                        have c26b0 := eq_true c26
                        have c26b1 : decide (x12_2 ≤ (a1.size : Int)) = true := decide_eq_true c26
                        clear c26
                        clear HRT
                        obtain rfl := Option.some.inj H
                        have p21 : 0 ≤ (x12_2 : Int) := of_decide_eq_true (by first | (with_reducible assumption) | assumption)
                        have q21 : x12_2 < (a1.size : Int) := of_decide_eq_true (by first | (with_reducible assumption) | assumption)
                        have hx21 := bt_at a1 x12_2
                        replace p21 := eq_true p21
                        replace q21 := eq_true q21
                        obtain ⟨Ao27, co27, eo27⟩ := Kd.V_slice HO_10.out
                        subst eo27
                        go_wp2_with (first | ((with_reducible refine gate_callee (f := 25) rfl ?_); refine goesL_ (some 64) rfl rfl Tryd.func25 (by kernel_rfl) rfl #[.slice Ao27 t808.length co27] rfl (by (try simp only [List.map_toArray, List.map_cons, List.map_nil]); first | done | rfl | (simp only [List.length_drop, List.length_take]; rfl)) ?_; (with_reducible refine (nat_Text.calls k2 _ _ t808 t813 _ ?side1 ?side2 A23.out).mono ?_); (case side1 => repeat (first | exact (Kd.V_reads' HO_10.out).2.2 | (with_reducible refine Kd.C_alloc ?_ _) | (with_reducible refine Kd.C_drewN ?_ _) | (with_reducible refine Kd.C_drew ?_))); (case side2 => exact (Kd.V_reads' HO_10.out).2.1); rintro e w28 ⟨rfl, hb⟩; refine ⟨_, rfl, ?_⟩; have n0_ := Aside0.mk (Kd.V_below (by (with_reducible repeat (first | apply Kd.V_alloc | apply Kd.V_drewN | apply Kd.V_drew)); exact HO_10.out) hb); have n1_ := Aside0.mk (below_step (by repeat (first | (with_reducible first | exact HB.out | apply below_alloc | apply pw_below_drewN | apply below_drew1) | exact HB.out)) hb); clear HO_10; clear HB; have HO_10 := n0_; have HB := n1_; clear n0_ n1_; (try clear hb); (try clear hb2); (try clear hk); (try clear hi)))
                        go_ret
                        exact ⟨by first | rfl | (simp [errW_none, errW_some] <;> rfl) | (simp [*, errW_none, errW_some] <;> rfl), by repeat (first | (with_reducible first | exact HB.out | apply below_alloc | apply pw_below_drewN | apply below_drew1) | exact HB.out)⟩
                      · rw [if_neg c26] at H
                        exact absurd H (by simp)
                    · replace c24 := Bool.eq_false_iff.mpr c24
                      subst c24
                      have H1 : (some false) = some r := by rw [if_neg (show ¬ (false = true) by decide)] at H; exact H
                      clear H
                      have H := H1
                      clear H1
                      exact absurd (Option.some.inj H) (by rw [HRT.out]; decide)
                · rw [if_neg c20] at H
                  exact absurd H (by simp)
              · rw [if_neg c19] at H
                exact absurd H (by simp)
            · rw [if_neg c18] at H
              have c18b0 : decide (x12_2 < (wrap64 ((a1.size : Int) - 1))) = false := decide_eq_false c18
              clear c18
              replace H := Option.bind_eq_some_iff.mp H
              obtain ⟨t814, A290, H⟩ := H
              replace H : (if t799 = true then (if 0 ≤ x12_2 then (if x12_2 ≤ (a1.size : Int) then (some (t814.toList == (a1.extract (x12_2 : Int).toNat a1.size).toList)) else (none)) else (none)) else (some false)) = some r := H
              have A29 := Aside0.mk A290
              clear A290
              by_cases c30 : t799 = true
              · subst c30
                have H1 : (if 0 ≤ x12_2 then (if x12_2 ≤ (a1.size : Int) then (some (t814.toList == (a1.extract (x12_2 : Int).toNat a1.size).toList)) else (none)) else (none)) = some r := by rw [if_pos rfl] at H; exact H
                clear H
                have H := H1
                clear H1
                by_cases c31 : 0 ≤ x12_2
                · rw [if_pos c31] at H
                  have c31b0 := eq_true c31
                  have c31b1 : decide (0 ≤ x12_2) = true := decide_eq_true c31
                  clear c31
                  by_cases c32 : x12_2 ≤ (a1.size : Int)
                  · rw [if_pos c32] at H
                    have c32b0 := eq_true c32
                    have c32b1 : decide (x12_2 ≤ (a1.size : Int)) = true := decide_eq_true c32
                    clear c32
                    clear HRT
                    obtain rfl := Option.some.inj H
                    obtain ⟨Ao33, co33, eo33⟩ := Kd.V_slice HO_10.out
                    subst eo33
                    go_wp2_with (first | ((with_reducible refine gate_callee (f := 25) rfl ?_); refine goesL_ (some 64) rfl rfl Tryd.func25 (by kernel_rfl) rfl #[.slice Ao33 t808.length co33] rfl (by (try simp only [List.map_toArray, List.map_cons, List.map_nil]); first | done | rfl | (simp only [List.length_drop, List.length_take]; rfl)) ?_; (with_reducible refine (nat_Text.calls k2 _ _ t808 t814 _ ?side1 ?side2 A29.out).mono ?_); (case side1 => repeat (first | exact (Kd.V_reads' HO_10.out).2.2 | (with_reducible refine Kd.C_alloc ?_ _) | (with_reducible refine Kd.C_drewN ?_ _) | (with_reducible refine Kd.C_drew ?_))); (case side2 => exact (Kd.V_reads' HO_10.out).2.1); rintro e w34 ⟨rfl, hb⟩; refine ⟨_, rfl, ?_⟩; have n0_ := Aside0.mk (Kd.V_below (by (with_reducible repeat (first | apply Kd.V_alloc | apply Kd.V_drewN | apply Kd.V_drew)); exact HO_10.out) hb); have n1_ := Aside0.mk (below_step (by repeat (first | (with_reducible first | exact HB.out | apply below_alloc | apply pw_below_drewN | apply below_drew1) | exact HB.out)) hb); clear HO_10; clear HB; have HO_10 := n0_; have HB := n1_; clear n0_ n1_; (try clear hb); (try clear hb2); (try clear hk); (try clear hi)))
                    go_ret
                    exact ⟨by first | rfl | (simp [errW_none, errW_some] <;> rfl) | (simp [*, errW_none, errW_some] <;> rfl), by repeat (first | (with_reducible first | exact HB.out | apply below_alloc | apply pw_below_drewN | apply below_drew1) | exact HB.out)⟩
                  · rw [if_neg c32] at H
                    exact absurd H (by simp)
                · rw [if_neg c31] at H
                  exact absurd H (by simp)
              · replace c30 := Bool.eq_false_iff.mpr c30
                subst c30
                have H1 : (some false) = some r := by rw [if_neg (show ¬ (false = true) by decide)] at H; exact H
                clear H
                have H := H1
                clear H1
                exact absurd (Option.some.inj H) (by rw [HRT.out]; decide)
      · have H1 : (if t799 = true then (some ((t808.length : Int) == 0)) else (some false)) = some r := by rw [if_neg (show ¬ (some q812).isNone = true by simp)] at H; exact H
        clear H
        have H := H1
        clear H1
        try simp only [errW_none, errW_some]
        by_cases c35 : t799 = true
        · subst c35
          have H1 : (some ((t808.length : Int) == 0)) = some r := by rw [if_pos rfl] at H; exact H
          clear H
          have H := H1
          clear H1
          clear HRT
          obtain rfl := Option.some.inj H
          go_wp2_with (first | ((with_reducible refine gate_callee (f := 49) rfl ?_); refine goesL_ (some 39) rfl rfl Tryd.func49 (by kernel_rfl) rfl #[.string a1] rfl (by (try simp only [List.map_toArray, List.map_cons, List.map_nil]); first | done | rfl | (simp only [List.length_drop, List.length_take]; rfl)) ?_; (with_reducible refine (nat_Read.calls kj6 a1 t808 (some q812) _ A16.out).mono ?_); rintro e w36 ⟨v809, rfl, ho0, hb⟩; refine ⟨_, rfl, ?_⟩; have n0_ := Aside0.mk (Kd.V_lower (Kd.V_mono (ok' := fun k_ => True) ho0 (fun k_ hk_ => trivial)) (below_size (by repeat (first | (with_reducible first | exact HB.out | apply below_alloc | apply pw_below_drewN | apply below_drew1) | exact HB.out)))); have n1_ := Aside0.mk (below_step (by repeat (first | (with_reducible first | exact HB.out | apply below_alloc | apply pw_below_drewN | apply below_drew1) | exact HB.out)) hb); clear HB; have HO810 := n0_; have HB := n1_; clear n0_ n1_; (try clear hb); (try clear hb2); (try clear hk); (try clear hi); (try clear ho0); (try simp only [errW_none, errW_some]); obtain ⟨Ao37, co37, eo37⟩ := Kd.V_slice HO810.out; subst eo37))
          go_ret
          exact ⟨by first | rfl | (simp [errW_none, errW_some] <;> rfl) | (simp [*, errW_none, errW_some] <;> rfl), by repeat (first | (with_reducible first | exact HB.out | apply below_alloc | apply pw_below_drewN | apply below_drew1) | exact HB.out)⟩
        · replace c35 := Bool.eq_false_iff.mpr c35
          subst c35
          have H1 : (some false) = some r := by rw [if_neg (show ¬ (false = true) by decide)] at H; exact H
          clear H
          have H := H1
          clear H1
          exact absurd (Option.some.inj H) (by rw [HRT.out]; decide)
end Go.Proofs.YthgmkigfgcejgaaDoor.PNat
