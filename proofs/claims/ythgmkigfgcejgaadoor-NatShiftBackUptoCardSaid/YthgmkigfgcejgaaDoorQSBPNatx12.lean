/- PNatx12: the part that this claim needs. -/
import Derived.Test.YthgmkigfgcejgaaDoorQSBPNatx0
import Derived.Test.YthgmkigfgcejgaaDoorQSBPNatx1
namespace Go.Proofs.YthgmkigfgcejgaaDoor.PNat
open Go.RowKit Go.Proofs.YthgmkigfgcejgaaDoorW.PrintWords Go.Proofs.YthgmkigfgcejgaaDoorW.PrintLast Go.Proofs.YthgmkigfgcejgaaDoorW.PrintMore
open Go.Proofs.YthgmkigfgcejgaaDoor.M
attribute [local go_sem] runx_add64 runx_sub64 eql_cc eql_nc neq_cc neq_nc
attribute [local go_sem] max2_int min2_int max_two min_two max_three min_three max_four min_four   -- for this text's walks alone
set_option linter.unusedVariables false
set_option linter.unusedSimpArgs false
mutual
def nat_Shr.l0 : Nat → Int → List Int → Bool → List Int → Int → Int → Option (List Int × Bool × Option Int)
  | 0, _, _, _, _, _, _ => none
  | k + 1, x1, x7, x8, x43, x44, x45 => if x45 < x44 then (if 0 ≤ x45 then (if x45 < (x43.length : Int) then (if x8 = true then (nat_Shr.l0 k x1 x7 true x43 x44 (wrap64 (x45 + 1))) else (nat_Shr.l0 k x1 x7 ((rd x43 x45) != 0) x43 x44 (wrap64 (x45 + 1)))) else (none)) else (none)) else (nat_Shr.l1 k x1 x7 x8 (x7.length : Int) 0)
def nat_Shr.l1 : Nat → Int → List Int → Bool → Int → Int → Option (List Int × Bool × Option Int)
  | 0, _, _, _, _, _ => none
  | k + 1, x1, x7, x8, x56, x57 => if x57 < x56 then (if 0 ≤ x57 then (if x57 < (x7.length : Int) then (if 0 ≤ (Int.tmod x1 64) then ((some (x7.set (x57 : Int).toNat (shr .u64 (rd x7 x57) (Int.tmod x1 64)) : List Int)).bind fun y545 => (if (wrap64 (x57 + 1)) < (x7.length : Int) then (if 0 ≤ (wrap64 (x57 + 1)) then (if 0 ≤ (wrap64 (63 - (Int.tmod x1 64))) then (nat_Shr.l1 k x1 (y545.set (x57 : Int).toNat (Go.bits .or .u64 (rd y545 x57) (shl .u64 (IntKind.u64.wrap ((rd y545 (wrap64 (x57 + 1))) * 2)) (wrap64 (63 - (Int.tmod x1 64)))))) x8 x56 (wrap64 (x57 + 1))) else (none)) else (none)) else (nat_Shr.l1 k x1 y545 x8 x56 (wrap64 (x57 + 1))))) else (none)) else (none)) else (none)) else ((nat_trim.f k x7).bind fun t549 => (some (t549, x8, none)))
end
def nat_Shr.f (k : Nat) (l0 : List Int) (a1 : Int) : Option (List Int × Bool × Option Int) := if a1 < 0 then (some (([] : List Int), false, some 1)) else ((nat_trim.f k l0).bind fun t526 => (if (wrap64 (Int.tdiv a1 64)) ≥ (t526.length : Int) then (some (([] : List Int), decide ((t526.length : Int) > 0), none)) else (if 0 ≤ (wrap64 (Int.tdiv a1 64)) then (if (wrap64 (Int.tdiv a1 64)) ≤ (t526.length : Int) then ((some (t526.drop ((wrap64 (Int.tdiv a1 64)) : Int).toNat : List Int)).bind fun y529 => (if ([] : List Int).length + y529.length < 17592186044416 then ((some (([] : List Int) ++ y529 : List Int)).bind fun y534 => (if 0 < (y534.length : Int) then (if 0 ≤ (wrap64 (63 - (Int.tmod a1 64))) then ((some (t526.take ((wrap64 (Int.tdiv a1 64)) : Int).toNat : List Int)).bind fun y538 => (nat_Shr.l0 k a1 y534 ((shl .u64 (IntKind.u64.wrap ((rd y534 0) * 2)) (wrap64 (63 - (Int.tmod a1 64)))) != 0) y538 (y538.length : Int) 0)) else (none)) else (none))) else (none))) else (none)) else (none))))
def nat_Shr.T18 : Bool × List (List Nat × List Nat) := (true, [([], []), ([], []), ([0, 1], [0, 1]), ([2], [2]), ([], []), ([], []), ([5], [5]), ([4, 6], [4, 6]), ([7], [7]), ([8], [8]), ([], []), ([10], [10]), ([11], [11]), ([9, 12], [9, 12]), ([3, 13], [3, 13]), ([0, 1, 0, 1, 2, 3, 4, 5, 6, 7, 8, 9, 10, 11, 12, 13, 14], [0, 1]), ([15, 14, 0, 1, 2, 3, 4, 5, 6, 7, 8, 9, 10, 11, 12, 13, 14], [14, 15])])
def nat_Shr.B18 : List Nat := [0, 0, 3, 7, 0, 0, 32, 112, 240, 496, 0, 1024, 3072, 8176, 16383, 32767, 65535]
theorem nat_Shr.tab18 : rtab .any (opsOf Tryd.f39 18) = nat_Shr.T18 := by kernel_rfl
theorem nat_Shr.bits18 : waitsOk nat_Shr.T18.2 nat_Shr.B18 = true := by kernel_rfl
set_option maxHeartbeats 8000000 in
set_option maxRecDepth 100000 in
theorem nat_Shr.calls (k : Nat) (P0_ : Nat → Prop) (A0 : Option Addr) (c0 : Nat) (l0 : List Int) (a1 : Int) (r1 : List Int) (r2 : Bool) (r3 : Option Int) (w : World) (hs0 : Kd.V (Kd.int .u64) 42 w w.heap.size (fun k_ => P0_ k_) (.slice A0 l0.length c0) l0) (h : nat_Shr.f k l0 a1 = some (r1, r2, r3)) :
    Calls Tryd.prog 39 #[.slice A0 l0.length c0, .int .i64 a1] w fun e w' => ∃ v0_ : Value, e = .returned (.tuple #[v0_, .bool r2, errW r3]) ∧ Kd.V (Kd.int .u64) 42 w' w.heap.size (fun k_ => (P0_ k_ ∨ w.heap.size ≤ k_)) v0_ r1 ∧ Below w.heap.size w w' := by
  have hu33 := Tryd.underlying33
  have hu37 := Tryd.underlying37
  have HO0 := Aside0.mk (show Kd.V (Kd.int .u64) 42 w w.heap.size (fun k_ => (P0_ k_ ∨ w.heap.size ≤ k_)) (.slice A0 l0.length c0) l0 from Kd.V_mono hs0 (fun k_ hk => .inl hk))
  have HB := Aside0.mk (Below.refl w.heap.size w)
  have H : (if a1 < 0 then (some (([] : List Int), false, some 1)) else ((nat_trim.f k l0).bind fun t526 => (if (wrap64 (Int.tdiv a1 64)) ≥ (t526.length : Int) then (some (([] : List Int), decide ((t526.length : Int) > 0), none)) else (if 0 ≤ (wrap64 (Int.tdiv a1 64)) then (if (wrap64 (Int.tdiv a1 64)) ≤ (t526.length : Int) then ((some (t526.drop ((wrap64 (Int.tdiv a1 64)) : Int).toNat : List Int)).bind fun y529 => (if ([] : List Int).length + y529.length < 17592186044416 then ((some (([] : List Int) ++ y529 : List Int)).bind fun y534 => (if 0 < (y534.length : Int) then (if 0 ≤ (wrap64 (63 - (Int.tmod a1 64))) then ((some (t526.take ((wrap64 (Int.tdiv a1 64)) : Int).toNat : List Int)).bind fun y538 => (nat_Shr.l0 k a1 y534 ((shl .u64 (IntKind.u64.wrap ((rd y534 0) * 2)) (wrap64 (63 - (Int.tmod a1 64)))) != 0) y538 (y538.length : Int) 0)) else (none)) else (none))) else (none))) else (none)) else (none))))) = some (r1, r2, r3) := h
  clear h
  by_cases c3 : a1 < 0
  · rw [if_pos c3] at H
    have c3b0 : decide (a1 < 0) = true := decide_eq_true c3
    clear c3
    simp only [Option.some.injEq, Prod.mk.injEq] at H
    obtain ⟨rfl, rfl, rfl⟩ := H
    go_enter Tryd.func39, Tryd.ntmps39
    go_wp2
    go_ret3
    exact ⟨_, by first | rfl | (simp [errW_none, errW_some] <;> rfl) | (simp [*, errW_none, errW_some] <;> rfl), Kd.V_nil _ _ _ _ _, by repeat (first | (with_reducible first | exact HB.out | apply below_alloc | apply pw_below_drewN | apply below_drew1) | exact HB.out)⟩
  · rw [if_neg c3] at H
    have c3b0 : decide (a1 < 0) = false := decide_eq_false c3
    clear c3
    replace H := Option.bind_eq_some_iff.mp H
    obtain ⟨t526, A40, H⟩ := H
    replace H : (if (wrap64 (Int.tdiv a1 64)) ≥ (t526.length : Int) then (some (([] : List Int), decide ((t526.length : Int) > 0), none)) else (if 0 ≤ (wrap64 (Int.tdiv a1 64)) then (if (wrap64 (Int.tdiv a1 64)) ≤ (t526.length : Int) then ((some (t526.drop ((wrap64 (Int.tdiv a1 64)) : Int).toNat : List Int)).bind fun y529 => (if ([] : List Int).length + y529.length < 17592186044416 then ((some (([] : List Int) ++ y529 : List Int)).bind fun y534 => (if 0 < (y534.length : Int) then (if 0 ≤ (wrap64 (63 - (Int.tmod a1 64))) then ((some (t526.take ((wrap64 (Int.tdiv a1 64)) : Int).toNat : List Int)).bind fun y538 => (nat_Shr.l0 k a1 y534 ((shl .u64 (IntKind.u64.wrap ((rd y534 0) * 2)) (wrap64 (63 - (Int.tmod a1 64)))) != 0) y538 (y538.length : Int) 0)) else (none)) else (none))) else (none))) else (none)) else (none))) = some (r1, r2, r3) := H
    have A4 := Aside0.mk A40
    clear A40
    by_cases c5 : (wrap64 (Int.tdiv a1 64)) ≥ (t526.length : Int)
    · rw [if_pos c5] at H
      have c5b0 : decide ((t526.length : Int) ≤ (wrap64 (Int.tdiv a1 64))) = true := decide_eq_true c5
      clear c5
      simp only [Option.some.injEq, Prod.mk.injEq] at H
      obtain ⟨rfl, rfl, rfl⟩ := H
      go_enter Tryd.func39, Tryd.ntmps39
      go_wp2_with (first | ((with_reducible refine gate_callee (f := 53) rfl ?_); refine goesL_ (some 17) rfl rfl Tryd.func53 (by kernel_rfl) rfl #[.slice A0 l0.length c0] rfl (by (try simp only [List.map_toArray, List.map_cons, List.map_nil]); first | done | rfl | (simp only [List.length_drop, List.length_take]; rfl)) ?_; (with_reducible refine (nat_trim.calls k (fun k_ => (P0_ k_ ∨ w.heap.size ≤ k_)) _ _ l0 t526 _ ?side1 A4.out).mono ?_); (case side1 => exact HO0.out); rintro e w6 ⟨v527, rfl, ho0, hb⟩; refine ⟨_, rfl, ?_⟩; have n0_ := Aside0.mk (Kd.V_below (by (with_reducible repeat (first | apply Kd.V_alloc | apply Kd.V_drewN | apply Kd.V_drew)); exact HO0.out) hb); have n1_ := Aside0.mk (Kd.V_lower (Kd.V_mono (ok' := fun k_ => (P0_ k_ ∨ w.heap.size ≤ k_)) ho0 (fun k_ hk_ => Or.elim hk_ (fun hs_ => hs_) (fun hn_ => (.inr (Nat.le_trans (below_size (by repeat (first | (with_reducible first | exact HB.out | apply below_alloc | apply pw_below_drewN | apply below_drew1) | exact HB.out))) hn_))))) (below_size (by repeat (first | (with_reducible first | exact HB.out | apply below_alloc | apply pw_below_drewN | apply below_drew1) | exact HB.out)))); have n2_ := Aside0.mk (below_step (by repeat (first | (with_reducible first | exact HB.out | apply below_alloc | apply pw_below_drewN | apply below_drew1) | exact HB.out)) hb); clear HO0; clear HB; have HO0 := n0_; have HO528 := n1_; have HB := n2_; clear n0_ n1_ n2_; (try clear hb); (try clear hb2); (try clear hk); (try clear hi); (try clear ho0); obtain ⟨Ao7, co7, eo7⟩ := Kd.V_slice HO528.out; subst eo7))
      go_ret3
      exact ⟨_, by first | rfl | (simp [errW_none, errW_some] <;> rfl) | (simp [*, errW_none, errW_some] <;> rfl), Kd.V_nil _ _ _ _ _, by repeat (first | (with_reducible first | exact HB.out | apply below_alloc | apply pw_below_drewN | apply below_drew1) | exact HB.out)⟩
    · rw [if_neg c5] at H
      have c5b0 : decide ((t526.length : Int) ≤ (wrap64 (Int.tdiv a1 64))) = false := decide_eq_false c5
      clear c5
      obtain ⟨ji8, hji8⟩ : ∃ j_ : Int, (wrap64 (Int.tdiv a1 64)) = j_ := ⟨_, rfl⟩
      replace H : (if 0 ≤ (ji8) then (if (ji8) ≤ (t526.length : Int) then ((some (t526.drop ((ji8) : Int).toNat : List Int)).bind fun y529 => (if ([] : List Int).length + y529.length < 17592186044416 then ((some (([] : List Int) ++ y529 : List Int)).bind fun y534 => (if 0 < (y534.length : Int) then (if 0 ≤ (wrap64 (63 - (Int.tmod a1 64))) then ((some (t526.take ((ji8) : Int).toNat : List Int)).bind fun y538 => (nat_Shr.l0 k a1 y534 ((shl .u64 (IntKind.u64.wrap ((rd y534 0) * 2)) (wrap64 (63 - (Int.tmod a1 64)))) != 0) y538 (y538.length : Int) 0)) else (none)) else (none))) else (none))) else (none)) else (none)) = some (r1, r2, r3) := by first | (rw [hji8] at H; exact H) | (simp only [hji8] at H ⊢; exact H)
      (try rw [hji8] at c5b0)
      (try rw [hji8] at A4)
      have hji8w : (IntKind.i64.wrap (Int.tdiv a1 64)) = ji8 := (i64_w _).trans hji8
      by_cases c9 : 0 ≤ (ji8)
      · rw [if_pos c9] at H
        have c9b0 := eq_true c9
        have c9b1 : decide (0 ≤ (ji8)) = true := decide_eq_true c9
        clear c9
        by_cases c10 : (ji8) ≤ (t526.length : Int)
        · rw [if_pos c10] at H
          have c10b0 := eq_true c10
          have c10b1 : decide ((ji8) ≤ (t526.length : Int)) = true := decide_eq_true c10
          clear c10
          obtain ⟨y529, hy529⟩ : ∃ y_ : List Int, y_ = (t526.drop ((ji8) : Int).toNat) := ⟨_, rfl⟩
          replace H : (if ([] : List Int).length + y529.length < 17592186044416 then ((some (([] : List Int) ++ y529 : List Int)).bind fun y534 => (if 0 < (y534.length : Int) then (if 0 ≤ (wrap64 (63 - (Int.tmod a1 64))) then ((some (t526.take ((ji8) : Int).toNat : List Int)).bind fun y538 => (nat_Shr.l0 k a1 y534 ((shl .u64 (IntKind.u64.wrap ((rd y534 0) * 2)) (wrap64 (63 - (Int.tmod a1 64)))) != 0) y538 (y538.length : Int) 0)) else (none)) else (none))) else (none)) = some (r1, r2, r3) := by first | (rw [hy529]; with_reducible exact H) | (have H2_ := (Option.bind_some _ _).symm.trans H; rw [hy529]; with_reducible exact H2_) | (have H2_ := (Option.bind_some _ _).symm.trans H; with_reducible exact H2_) | with_reducible exact H | (rw [hy529]; exact H) | exact H
          have Ny529 := Aside0.mk hy529
          clear hy529
          by_cases c11 : ([] : List Int).length + y529.length < 17592186044416
          · rw [if_pos c11] at H
            have LMc11 := Aside0.mk c11
            clear c11
            obtain ⟨y534, hy534⟩ : ∃ y_ : List Int, y_ = (([] : List Int) ++ y529) := ⟨_, rfl⟩
            replace H : (if 0 < (y534.length : Int) then (if 0 ≤ (wrap64 (63 - (Int.tmod a1 64))) then ((some (t526.take ((ji8) : Int).toNat : List Int)).bind fun y538 => (nat_Shr.l0 k a1 y534 ((shl .u64 (IntKind.u64.wrap ((rd y534 0) * 2)) (wrap64 (63 - (Int.tmod a1 64)))) != 0) y538 (y538.length : Int) 0)) else (none)) else (none)) = some (r1, r2, r3) := by first | (rw [hy534]; with_reducible exact H) | (have H2_ := (Option.bind_some _ _).symm.trans H; rw [hy534]; with_reducible exact H2_) | (have H2_ := (Option.bind_some _ _).symm.trans H; with_reducible exact H2_) | with_reducible exact H | (rw [hy534]; exact H) | exact H
            have Ny534 := Aside0.mk hy534
            clear hy534
            by_cases c12 : 0 < (y534.length : Int)
            · rw [if_pos c12] at H
              have c12b0 : decide (0 < (y534.length : Int)) = true := decide_eq_true c12
              have c12b1 : decide (0 < y534.length) = true := decide_eq_true (by omega)
              clear c12
              obtain ⟨ji13, hji13⟩ : ∃ j_ : Int, (wrap64 (63 - (Int.tmod a1 64))) = j_ := ⟨_, rfl⟩
              replace H : (if 0 ≤ (ji13) then ((some (t526.take ((ji8) : Int).toNat : List Int)).bind fun y538 => (nat_Shr.l0 k a1 y534 ((shl .u64 (IntKind.u64.wrap ((rd y534 0) * 2)) (ji13)) != 0) y538 (y538.length : Int) 0)) else (none)) = some (r1, r2, r3) := by first | (rw [hji13] at H; exact H) | (simp only [hji13] at H ⊢; exact H)
              (try rw [hji13] at A4)
              have hji13w : (IntKind.i64.wrap (63 - (Int.tmod a1 64))) = ji13 := (i64_w _).trans hji13
              by_cases c14 : 0 ≤ (ji13)
              · rw [if_pos c14] at H
                have c14b0 := eq_true c14
                have c14b1 : decide (0 ≤ (ji13)) = true := decide_eq_true c14
                clear c14
                obtain ⟨ji15, hji15⟩ : ∃ j_ : Int, (shl .u64 (IntKind.u64.wrap ((rd y534 0) * 2)) (ji13)) = j_ := ⟨_, rfl⟩
                replace H : ((some (t526.take ((ji8) : Int).toNat : List Int)).bind fun y538 => (nat_Shr.l0 k a1 y534 ((ji15) != 0) y538 (y538.length : Int) 0)) = some (r1, r2, r3) := by first | (rw [hji15] at H; exact H) | (simp only [hji15] at H ⊢; exact H)
                (try rw [hji15] at A4)
                have hji15_ : (IntKind.u64.wrap ((IntKind.u64.wrap ((rd y534 0) * 2)) * 2 ^ min (ji13).toNat 64)) = ji15 := hji15
                have hji15z : (ji13) ≤ 64 → (IntKind.u64.wrap ((IntKind.u64.wrap ((rd y534 0) * 2)) * 2 ^ (ji13).toNat)) = ji15 := shl_small hji15
                have c16b0 := eq_true (of_decide_eq_true (by first | (with_reducible assumption) | assumption) : 0 ≤ (ji8))
                have c17b0 := eq_true (of_decide_eq_true (by first | (with_reducible assumption) | assumption) : (ji8) ≤ (t526.length : Int))
                obtain ⟨y538, hy538⟩ : ∃ y_ : List Int, y_ = (t526.take ((ji8) : Int).toNat) := ⟨_, rfl⟩
                replace H : (nat_Shr.l0 k a1 y534 ((ji15) != 0) y538 (y538.length : Int) 0) = some (r1, r2, r3) := by first | (rw [hy538]; with_reducible exact H) | (have H2_ := (Option.bind_some _ _).symm.trans H; rw [hy538]; with_reducible exact H2_) | (have H2_ := (Option.bind_some _ _).symm.trans H; with_reducible exact H2_) | with_reducible exact H | (rw [hy538]; exact H) | exact H
                have Ny538 := Aside0.mk hy538
                clear hy538
                have H' := Aside0.mk H
                clear H
                go_enter Tryd.func39, Tryd.ntmps39
                go_wp2_with (first | ((with_reducible refine gate_callee (f := 53) rfl ?_); refine goesL_ (some 17) rfl rfl Tryd.func53 (by kernel_rfl) rfl #[.slice A0 l0.length c0] rfl (by (try simp only [List.map_toArray, List.map_cons, List.map_nil]); first | done | rfl | (simp only [List.length_drop, List.length_take]; rfl)) ?_; (with_reducible refine (nat_trim.calls k (fun k_ => (P0_ k_ ∨ w.heap.size ≤ k_)) _ _ l0 t526 _ ?side1 A4.out).mono ?_); (case side1 => exact HO0.out); rintro e w18 ⟨v527, rfl, ho0, hb⟩; refine ⟨_, rfl, ?_⟩; have n0_ := Aside0.mk (Kd.V_below (by (with_reducible repeat (first | apply Kd.V_alloc | apply Kd.V_drewN | apply Kd.V_drew)); exact HO0.out) hb); have n1_ := Aside0.mk (Kd.V_lower (Kd.V_mono (ok' := fun k_ => (P0_ k_ ∨ w.heap.size ≤ k_)) ho0 (fun k_ hk_ => Or.elim hk_ (fun hs_ => hs_) (fun hn_ => (.inr (Nat.le_trans (below_size (by repeat (first | (with_reducible first | exact HB.out | apply below_alloc | apply pw_below_drewN | apply below_drew1) | exact HB.out))) hn_))))) (below_size (by repeat (first | (with_reducible first | exact HB.out | apply below_alloc | apply pw_below_drewN | apply below_drew1) | exact HB.out)))); have n2_ := Aside0.mk (below_step (by repeat (first | (with_reducible first | exact HB.out | apply below_alloc | apply pw_below_drewN | apply below_drew1) | exact HB.out)) hb); clear HO0; clear HB; have HO0 := n0_; have HO528 := n1_; have HB := n2_; clear n0_ n1_ n2_; (try clear hb); (try clear hb2); (try clear hk); (try clear hi); (try clear ho0); obtain ⟨Ao19, co19, eo19⟩ := Kd.V_slice HO528.out; subst eo19; have q20 : ((ji8) : Int) ≤ ((t526.length : Int) : Int) := of_decide_eq_true (by first | (with_reducible assumption) | assumption); obtain ⟨i020, hi020, _, hsz20, _⟩ := info_parts info42; have hroom20 : t526.length ≤ co19 := (Kd.V_reads' HO528.out).2.1; have hC20 : Kd.F (Kd.int .u64) _ _ Ao19 t526.length t526 := (Kd.V_at (base := w.heap.size) HO528.out).2.2; have q020 : (0 : Int) ≤ ((ji8) : Int) := of_decide_eq_true (by first | (with_reducible assumption) | assumption); have hcut20 := cut_from (P := Tryd.prog) 27 42 .i64 Tryd.underlying27 hi020 1 hsz20 Ao19 t526.length co19 (ji8) q020 q20; have hr20 := Kd.F_cut (m := ((ji8) : Int).toNat) (c := co19) hC20 (by omega) hroom20; obtain ⟨A20, hA20⟩ : ∃ A1, A1 = (if co19 = ((ji8) : Int).toNat then Ao19 else (Ao19 : Option Addr).map (·.add (((ji8) : Int).toNat * 1))) := ⟨_, rfl⟩; obtain ⟨c20, hc20⟩ : ∃ c1, c1 = co19 - ((ji8) : Int).toNat := ⟨_, rfl⟩; have hy20 : y529.length = t526.length - ((ji8) : Int).toNat := (by rw [Ny529.out, List.length_drop] <;> omega); rw [show (t526).drop ((ji8) : Int).toNat = y529 from Ny529.out.symm] at hr20; replace hr20 : Kd.F (Kd.int .u64) _ _ A20 y529.length y529 := (by rw [hA20]; exact hr20); rw [← hy20, ← hA20, ← hc20] at hcut20; have HO533 := Aside0.mk (show Kd.V (Kd.int .u64) 42 _ w.heap.size _ (.slice A20 y529.length c20) y529 from Kd.V_mk (by rw [hy20, hc20]; exact Nat.sub_le_sub_right hroom20 _) hr20); have HC533 := Aside0.mk (show y529.length ≤ c20 from by rw [hy20, hc20]; exact Nat.sub_le_sub_right hroom20 _); clear hr20 hC20 hroom20 hi020 hsz20 hc20; have KY20 := Aside0.mk hy20; have KA20 := Aside0.mk hA20; clear hy20 hA20; replace q20 := eq_true q20) | ((with_reducible refine gate_builtin (b := .append) (xs := #[.const (.slice none 0 0), .tmp 29]) rfl ?_); at_builtin; refine Kd.R_append_rows (Kd.int .u64) (w0 := w) w.heap.size rfl (.const (.slice none 0 0)) (.tmp 29) 27 42 (.int .u64 0) 8 rfl Tryd.underlying27 info42 rfl (by decide) (by omega) (.slice none 0 0) ([] : List Int) y529 _ _ _ (fun k_ => (w.heap.size ≤ k_)) (fun _ => False) rfl rfl ?aO ?aR (fun _ _ h => h) (fun _ h => h.elim) ?aF ?aB ?aS ?aL ?_; (case aR => repeat (first | exact (Kd.V_reads' HO533.out).2.2 | (with_reducible refine Kd.C_alloc ?_ _) | (with_reducible refine Kd.C_drewN ?_ _) | (with_reducible refine Kd.C_drew ?_))); (case aB => exact (by repeat (first | (with_reducible first | exact HB.out | apply below_alloc | apply pw_below_drewN | apply below_drew1) | exact HB.out))); (case aF => exact (fun k_ hk => (Nat.le_trans (below_size (by repeat (first | (with_reducible first | exact HB.out | apply below_alloc | apply pw_below_drewN | apply below_drew1) | exact HB.out))) hk))); (case aO => exact ((Kd.R_nil _ _ _ _ (fun k_ => (w.heap.size ≤ k_))))); (case aS => exact (below_size (by repeat (first | (with_reducible first | exact HB.out | apply below_alloc | apply pw_below_drewN | apply below_drew1) | exact HB.out)))); (case aL => have := LMc11.out; omega); intro v535 w21 ho hb hg hat; rw [← Ny534.out] at ho; have n0_ := Aside0.mk (Kd.V_afterv (Kd.V_apart_nil (by (with_reducible repeat (first | apply Kd.V_alloc | apply Kd.V_drewN | apply Kd.V_drew)); exact HO0.out)) hg hat); have n1_ := Aside0.mk (Kd.V_afterv (Kd.V_apart_nil (by (with_reducible repeat (first | apply Kd.V_alloc | apply Kd.V_drewN | apply Kd.V_drew)); exact HO528.out)) hg hat); have n2_ := Aside0.mk (Kd.V_afterv (Kd.V_apart_nil (by (with_reducible repeat (first | apply Kd.V_alloc | apply Kd.V_drewN | apply Kd.V_drew)); exact HO533.out)) hg hat); have n3_ := Aside0.mk (hb); have n4_ := Aside0.mk (ho); clear HO0; clear HO528; clear HO533; clear HB; have HO0 := n0_; have HO528 := n1_; have HO533 := n2_; have HB := n3_; have HO536 := n4_; clear n0_ n1_ n2_ n3_ n4_; clear ho hb hg hat; obtain ⟨Ao22, co22, eo22⟩ := Kd.R_slice HO536.out; subst eo22; have p537 : 0 ≤ (0 : Int) := (by omega); have q537 : 0 < (y534.length : Int) := of_decide_eq_true (by first | (with_reducible assumption) | assumption); obtain ⟨ad537, e537, hx537_0⟩ := Kd.at_int (Kd.R_reads' HO536.out).2.2 0 p537 q537; cases e537; have qi537 : (0 < y534.length) = True := eq_true (by omega); (try rw [show ((0 : Int)).toNat = 0 from rfl] at hx537_0); (try rw [Addr.add_zero'] at hx537_0); replace p537 := eq_true p537; replace q537 := eq_true q537; have q23 : ((ji8) : Int) ≤ ((t526.length : Int) : Int) := of_decide_eq_true (by first | (with_reducible assumption) | assumption); obtain ⟨i023, hi023, _, hsz23, _⟩ := info_parts info42; have hroom23 : t526.length ≤ co19 := (Kd.V_reads' HO528.out).2.1; have hC23 : Kd.F (Kd.int .u64) _ _ Ao19 t526.length t526 := (Kd.V_at (base := w.heap.size) HO528.out).2.2; have hcut23 := cut_to (P := Tryd.prog) 27 42 .i64 Tryd.underlying27 hi023 Ao19 t526.length co19 (ji8) (of_decide_eq_true (by first | (with_reducible assumption) | assumption)) q23 hroom23; have hr23 := Kd.F_take (m := ((ji8) : Int).toNat) hC23 (by omega); have hy23 : y538.length = ((ji8) : Int).toNat := (by rw [Ny538.out, List.length_take]; omega); rw [← Ny538.out] at hr23; rw [← hy23] at hcut23; have HO542 := Aside0.mk (show Kd.V (Kd.int .u64) 42 _ w.heap.size _ (.slice Ao19 y538.length co19) y538 from Kd.V_mk (by omega) hr23); have HC542 := Aside0.mk (show y538.length ≤ co19 from by omega); clear hr23 hC23 hroom23 hi023 hsz23; have KY23 := Aside0.mk hy23; clear hy23; replace q23 := eq_true q23))
                go_loopg [8, 45] k (fun kq v8 v45 w' => ∃ (x8_1 : Bool) (x45_1 : Int), v8 = .bool x8_1 ∧ v45 = .int .i64 x45_1 ∧ Aside0 (nat_Shr.l0 kq a1 y534 x8_1 y538 (y538.length : Int) x45_1 = some (r1, r2, r3)) ∧ Aside0 (kq ≤ k) ∧ Aside0 (Kd.R (Kd.int .u64) 42 w' w.heap.size (fun k_ => (w.heap.size ≤ k_)) (.slice (some ad537) y534.length co22) y534) ∧ Aside0 (Kd.V (Kd.int .u64) 42 w' w.heap.size (fun k_ => (P0_ k_ ∨ w.heap.size ≤ k_) ∧ some k_ ≠ ((.slice (some ad537) y534.length co22) : Value).ownBlock) (.slice Ao19 y538.length co19) y538) ∧ Aside0 (Below w.heap.size w w'))
                case atStart => exact ⟨(((ji15) != 0)), (0), (by first | rfl | (simp; done) | (simp only [← hji15] <;> (first | rfl | simp)) | (simp [*]; done)), (by first | rfl | (simp; done) | (simp [*]; done)), H', ⟨Nat.le_refl _⟩, ⟨by (with_reducible repeat (first | apply Kd.R_alloc | apply Kd.R_drewN | apply Kd.R_drew)); exact HO536.out⟩, ⟨by (with_reducible repeat (first | apply Kd.V_alloc | apply Kd.V_drewN | apply Kd.V_drew)); exact HO542.out⟩, ⟨by repeat (first | (with_reducible first | exact HB.out | apply below_alloc | apply pw_below_drewN | apply below_drew1) | exact HB.out)⟩⟩
                case round =>
                  clear H'
                  try clear c1
                  try clear c2
                  try clear p2
                  try clear q2
                  try clear c3
                  try clear c3b0
                  try clear c5
                  try clear c5b0
                  try clear p5
                  try clear q5
                  try clear hx5
                  try clear qi5
                  try clear p6
                  try clear c9
                  try clear c9b0
                  try clear c9b1
                  try clear c10
                  try clear c10b0
                  try clear c10b1
                  try clear c11
                  try clear c12
                  try clear c12b0
                  try clear c12b1
                  try clear c14
                  try clear c14b0
                  try clear c14b1
                  try clear c16
                  try clear c16b0
                  try clear c17
                  try clear c17b0
                  try clear c20
                  try clear q20
                  try clear q23
                  try clear hx537_0
                  try clear p537
                  try clear q020
                  try clear q20
                  try clear q23
                  try clear q537
                  obtain ⟨x8_1, x45_1, rfl, rfl, HA, HK1, HO_7, HO_43, HB⟩ := hrel
                  cases gk with
                  | zero => exact absurd HA.out (by simp [nat_Shr.l0])
                  | succ k1 =>
                    have H := HA.out
                    clear HA
                    simp only [nat_Shr.l0] at H
                    by_cases c24 : x45_1 < (y538.length : Int)
                    · rw [if_pos c24] at H
                      have c24b0 : decide (x45_1 < (y538.length : Int)) = true := decide_eq_true c24
                      clear c24
                      by_cases c25 : 0 ≤ x45_1
                      · rw [if_pos c25] at H
                        have c25b0 : decide (0 ≤ x45_1) = true := decide_eq_true c25
                        clear c25
                        by_cases c26 : x45_1 < (y538.length : Int)
                        · rw [if_pos c26] at H
                          have c26b0 : decide (x45_1 < (y538.length : Int)) = true := decide_eq_true c26
                          clear c26
                          by_cases c27 : x8_1 = true
                          · subst c27
                            have H1 : (nat_Shr.l0 k1 a1 y534 true y538 (y538.length : Int) (wrap64 (x45_1 + 1))) = some (r1, r2, r3) := by rw [if_pos rfl] at H; exact H
                            clear H
                            have H := H1
                            clear H1
                            have H' := Aside0.mk H
                            clear H
                            have p543 : 0 ≤ (x45_1 : Int) := of_decide_eq_true (by first | (with_reducible assumption) | assumption)
                            have q543 : x45_1 < (y538.length : Int) := of_decide_eq_true (by first | (with_reducible assumption) | assumption)
                            obtain ⟨ad543, e543, hx543_0⟩ := Kd.at_int (Kd.V_reads' HO_43.out).2.2 x45_1 p543 q543
                            cases e543
                            replace p543 := eq_true p543
                            replace q543 := eq_true q543
                            go_wp2
                            go_roundg k1
                            case measure => have := HK1.out; omega
                            case rel => exact ⟨(true), (wrap64 (x45_1 + 1)), (by first | rfl | (simp; done) | (simp [*]; done)), (by first | rfl | (simp; done) | (simp [*]; done)), H', ⟨by have := HK1.out; omega⟩, ⟨by (with_reducible repeat (first | apply Kd.R_alloc | apply Kd.R_drewN | apply Kd.R_drew)); exact HO_7.out⟩, ⟨by (with_reducible repeat (first | apply Kd.V_alloc | apply Kd.V_drewN | apply Kd.V_drew)); exact HO_43.out⟩, ⟨by repeat (first | (with_reducible first | exact HB.out | apply below_alloc | apply pw_below_drewN | apply below_drew1) | exact HB.out)⟩⟩
                          · replace c27 := Bool.eq_false_iff.mpr c27
                            subst c27
                            have H1 : (nat_Shr.l0 k1 a1 y534 ((rd y538 x45_1) != 0) y538 (y538.length : Int) (wrap64 (x45_1 + 1))) = some (r1, r2, r3) := by rw [if_neg (show ¬ (false = true) by decide)] at H; exact H
                            clear H
                            have H := H1
                            clear H1
                            have H' := Aside0.mk H
                            clear H
                            have p543 : 0 ≤ (x45_1 : Int) := of_decide_eq_true (by first | (with_reducible assumption) | assumption)
                            have q543 : x45_1 < (y538.length : Int) := of_decide_eq_true (by first | (with_reducible assumption) | assumption)
                            obtain ⟨ad543, e543, hx543_0⟩ := Kd.at_int (Kd.V_reads' HO_43.out).2.2 x45_1 p543 q543
                            cases e543
                            replace p543 := eq_true p543
                            replace q543 := eq_true q543
                            go_wp2
                            go_roundg k1
                            case measure => have := HK1.out; omega
                            case rel => exact ⟨(((rd y538 x45_1) != 0)), (wrap64 (x45_1 + 1)), (by first | rfl | (simp; done) | (simp [*]; done)), (by first | rfl | (simp; done) | (simp [*]; done)), H', ⟨by have := HK1.out; omega⟩, ⟨by (with_reducible repeat (first | apply Kd.R_alloc | apply Kd.R_drewN | apply Kd.R_drew)); exact HO_7.out⟩, ⟨by (with_reducible repeat (first | apply Kd.V_alloc | apply Kd.V_drewN | apply Kd.V_drew)); exact HO_43.out⟩, ⟨by repeat (first | (with_reducible first | exact HB.out | apply below_alloc | apply pw_below_drewN | apply below_drew1) | exact HB.out)⟩⟩
                        · rw [if_neg c26] at H
                          exact absurd H (by simp)
                      · rw [if_neg c25] at H
                        exact absurd H (by simp)
                    · rw [if_neg c24] at H
                      have c24b0 : decide (x45_1 < (y538.length : Int)) = false := decide_eq_false c24
                      clear c24
                      have H' := Aside0.mk H
                      clear H
                      go_wp2
                      go_loopg [57] k1 (fun kq v57 w' => ∃ (x7_2 : List Int) (x57_2 : Int), v57 = .int .i64 x57_2 ∧ Aside0 (nat_Shr.l1 kq a1 x7_2 x8_1 (y534.length : Int) x57_2 = some (r1, r2, r3)) ∧ Aside0 (kq ≤ k1) ∧ Aside0 (Kd.R (Kd.int .u64) 42 w' w.heap.size (fun k_ => (w.heap.size ≤ k_)) (.slice (some ad537) y534.length co22) x7_2) ∧ Aside0 (Below w.heap.size w w'))
                      case atStart => exact ⟨(y534), (0), (by first | rfl | (simp; done) | (simp [*]; done)), H', ⟨Nat.le_refl _⟩, ⟨by (with_reducible repeat (first | apply Kd.R_alloc | apply Kd.R_drewN | apply Kd.R_drew)); exact HO_7.out⟩, ⟨by repeat (first | (with_reducible first | exact HB.out | apply below_alloc | apply pw_below_drewN | apply below_drew1) | exact HB.out)⟩⟩
                      case round =>
                        clear H'
                        try clear c1
                        try clear c2
                        try clear p2
                        try clear q2
                        try clear c3
                        try clear c3b0
                        try clear c5
                        try clear c5b0
                        try clear p5
                        try clear q5
                        try clear hx5
                        try clear qi5
                        try clear p6
                        try clear c9
                        try clear c9b0
                        try clear c9b1
                        try clear c10
                        try clear c10b0
                        try clear c10b1
                        try clear c11
                        try clear c12
                        try clear c12b0
                        try clear c12b1
                        try clear c14
                        try clear c14b0
                        try clear c14b1
                        try clear c16
                        try clear c16b0
                        try clear c17
                        try clear c17b0
                        try clear c20
                        try clear q20
                        try clear q23
                        try clear c24
                        try clear c24b0
                        try clear c25
                        try clear c25b0
                        try clear c26
                        try clear c26b0
                        try clear c27
                        try clear hx537_0
                        try clear hx543_0
                        try clear p2
                        try clear p5
                        try clear p537
                        try clear p543
                        try clear p6
                        try clear q020
                        try clear q2
                        try clear q20
                        try clear q23
                        try clear q5
                        try clear q537
                        try clear q543
                        obtain ⟨x7_2, x57_2, rfl, HA, HK2, HO_7, HB⟩ := hrel
                        have hl7_2 := (Kd.R_reads' HO_7.out).1
                        rw [hl7_2] at HO_7
                        (try simp only [hl7_2])
                        cases gk with
                        | zero => exact absurd HA.out (by simp [nat_Shr.l1])
                        | succ k2 =>
                          have H := HA.out
                          clear HA
                          simp only [nat_Shr.l1] at H
                          by_cases c28 : x57_2 < (y534.length : Int)
                          · rw [if_pos c28] at H
                            have c28b0 : decide (x57_2 < (y534.length : Int)) = true := decide_eq_true c28
                            (try simp only [hl7_2] at c28b0)
                            clear c28
                            by_cases c29 : 0 ≤ x57_2
                            · rw [if_pos c29] at H
                              have c29b0 : decide (0 ≤ x57_2) = true := decide_eq_true c29
                              clear c29
                              by_cases c30 : x57_2 < (x7_2.length : Int)
                              · rw [if_pos c30] at H
                                have c30b0 : decide (x57_2 < (x7_2.length : Int)) = true := decide_eq_true c30
                                (try simp only [hl7_2] at c30b0)
                                clear c30
                                obtain ⟨ji31, hji31⟩ : ∃ j_ : Int, (Int.tmod a1 64) = j_ := ⟨_, rfl⟩
                                replace H : (if 0 ≤ (ji31) then ((some (x7_2.set (x57_2 : Int).toNat (shr .u64 (rd x7_2 x57_2) (ji31)) : List Int)).bind fun y545 => (if (wrap64 (x57_2 + 1)) < (x7_2.length : Int) then (if 0 ≤ (wrap64 (x57_2 + 1)) then (if 0 ≤ (wrap64 (63 - (ji31))) then (nat_Shr.l1 k2 a1 (y545.set (x57_2 : Int).toNat (Go.bits .or .u64 (rd y545 x57_2) (shl .u64 (IntKind.u64.wrap ((rd y545 (wrap64 (x57_2 + 1))) * 2)) (wrap64 (63 - (ji31)))))) x8_1 (y534.length : Int) (wrap64 (x57_2 + 1))) else (none)) else (none)) else (nat_Shr.l1 k2 a1 y545 x8_1 (y534.length : Int) (wrap64 (x57_2 + 1))))) else (none)) = some (r1, r2, r3) := by first | (rw [hji31] at H; exact H) | (simp only [hji31] at H ⊢; exact H)
                                by_cases c32 : 0 ≤ (ji31)
                                · rw [if_pos c32] at H
                                  have c32b0 := eq_true c32
                                  have c32b1 : decide (0 ≤ (ji31)) = true := decide_eq_true c32
                                  clear c32
                                  obtain ⟨ji33, hji33⟩ : ∃ j_ : Int, (shr .u64 (rd x7_2 x57_2) (ji31)) = j_ := ⟨_, rfl⟩
                                  replace H : ((some (x7_2.set (x57_2 : Int).toNat (ji33) : List Int)).bind fun y545 => (if (wrap64 (x57_2 + 1)) < (x7_2.length : Int) then (if 0 ≤ (wrap64 (x57_2 + 1)) then (if 0 ≤ (wrap64 (63 - (ji31))) then (nat_Shr.l1 k2 a1 (y545.set (x57_2 : Int).toNat (Go.bits .or .u64 (rd y545 x57_2) (shl .u64 (IntKind.u64.wrap ((rd y545 (wrap64 (x57_2 + 1))) * 2)) (wrap64 (63 - (ji31)))))) x8_1 (y534.length : Int) (wrap64 (x57_2 + 1))) else (none)) else (none)) else (nat_Shr.l1 k2 a1 y545 x8_1 (y534.length : Int) (wrap64 (x57_2 + 1))))) = some (r1, r2, r3) := by first | (rw [hji33] at H; exact H) | (simp only [hji33] at H ⊢; exact H)
                                  have hji33_ : ((rd x7_2 x57_2) / 2 ^ min (ji31).toNat 64) = ji33 := hji33
                                  have hji33z : (ji31) ≤ 64 → ((rd x7_2 x57_2) / 2 ^ (ji31).toNat) = ji33 := shr_small hji33
                                  obtain ⟨y545, hy545⟩ : ∃ y_ : List Int, y_ = (x7_2.set (x57_2 : Int).toNat (ji33)) := ⟨_, rfl⟩
                                  replace H : (if (wrap64 (x57_2 + 1)) < (x7_2.length : Int) then (if 0 ≤ (wrap64 (x57_2 + 1)) then (if 0 ≤ (wrap64 (63 - (ji31))) then (nat_Shr.l1 k2 a1 (y545.set (x57_2 : Int).toNat (Go.bits .or .u64 (rd y545 x57_2) (shl .u64 (IntKind.u64.wrap ((rd y545 (wrap64 (x57_2 + 1))) * 2)) (wrap64 (63 - (ji31)))))) x8_1 (y534.length : Int) (wrap64 (x57_2 + 1))) else (none)) else (none)) else (nat_Shr.l1 k2 a1 y545 x8_1 (y534.length : Int) (wrap64 (x57_2 + 1)))) = some (r1, r2, r3) := by first | (rw [hy545]; with_reducible exact H) | (have H2_ := (Option.bind_some _ _).symm.trans H; rw [hy545]; with_reducible exact H2_) | (have H2_ := (Option.bind_some _ _).symm.trans H; with_reducible exact H2_) | with_reducible exact H | (rw [hy545]; exact H) | exact H
                                  have Ny545 := Aside0.mk hy545
                                  clear hy545
                                  by_cases c35 : (wrap64 (x57_2 + 1)) < (x7_2.length : Int)
                                  · rw [if_pos c35] at H
                                    have c35b0 : decide ((wrap64 (x57_2 + 1)) < (x7_2.length : Int)) = true := decide_eq_true c35
                                    (try simp only [hl7_2] at c35b0)
                                    clear c35
                                    obtain ⟨ji36, hji36⟩ : ∃ j_ : Int, (wrap64 (x57_2 + 1)) = j_ := ⟨_, rfl⟩
                                    replace H : (if 0 ≤ (ji36) then (if 0 ≤ (wrap64 (63 - (ji31))) then (nat_Shr.l1 k2 a1 (y545.set (x57_2 : Int).toNat (Go.bits .or .u64 (rd y545 x57_2) (shl .u64 (IntKind.u64.wrap ((rd y545 (ji36)) * 2)) (wrap64 (63 - (ji31)))))) x8_1 (y534.length : Int) ji36) else (none)) else (none)) = some (r1, r2, r3) := by first | (rw [hji36] at H; exact H) | (simp only [hji36] at H ⊢; exact H)
                                    (try rw [hji36] at c35b0)
                                    have hji36w : (IntKind.i64.wrap (x57_2 + 1)) = ji36 := (i64_w _).trans hji36
                                    by_cases c37 : 0 ≤ (ji36)
                                    · rw [if_pos c37] at H
                                      have c37b0 : decide (0 ≤ (ji36)) = true := decide_eq_true c37
                                      clear c37
                                      obtain ⟨ji38, hji38⟩ : ∃ j_ : Int, (wrap64 (63 - (ji31))) = j_ := ⟨_, rfl⟩
                                      replace H : (if 0 ≤ (ji38) then (nat_Shr.l1 k2 a1 (y545.set (x57_2 : Int).toNat (Go.bits .or .u64 (rd y545 x57_2) (shl .u64 (IntKind.u64.wrap ((rd y545 (ji36)) * 2)) (ji38)))) x8_1 (y534.length : Int) ji36) else (none)) = some (r1, r2, r3) := by first | (rw [hji38] at H; exact H) | (simp only [hji38] at H ⊢; exact H)
                                      have hji38w : (IntKind.i64.wrap (63 - (ji31))) = ji38 := (i64_w _).trans hji38
                                      by_cases c39 : 0 ≤ (ji38)
                                      · rw [if_pos c39] at H
                                        have c39b0 := eq_true c39
                                        have c39b1 : decide (0 ≤ (ji38)) = true := decide_eq_true c39
                                        clear c39
                                        obtain ⟨ji40, hji40⟩ : ∃ j_ : Int, (shl .u64 (IntKind.u64.wrap ((rd y545 (ji36)) * 2)) (ji38)) = j_ := ⟨_, rfl⟩
                                        replace H : (nat_Shr.l1 k2 a1 (y545.set (x57_2 : Int).toNat (Go.bits .or .u64 (rd y545 x57_2) (ji40))) x8_1 (y534.length : Int) ji36) = some (r1, r2, r3) := by first | (rw [hji40] at H; exact H) | (simp only [hji40] at H ⊢; exact H)
                                        have hji40_ : (IntKind.u64.wrap ((IntKind.u64.wrap ((rd y545 (ji36)) * 2)) * 2 ^ min (ji38).toNat 64)) = ji40 := hji40
                                        have hji40z : (ji38) ≤ 64 → (IntKind.u64.wrap ((IntKind.u64.wrap ((rd y545 (ji36)) * 2)) * 2 ^ (ji38).toNat)) = ji40 := shl_small hji40
                                        obtain ⟨y548, hy548⟩ : ∃ y_ : List Int, y_ = (y545.set (x57_2 : Int).toNat (Go.bits .or .u64 (rd y545 x57_2) (ji40))) := ⟨_, rfl⟩
                                        replace H : (nat_Shr.l1 k2 a1 y548 x8_1 (y534.length : Int) ji36) = some (r1, r2, r3) := by first | (rw [hy548]; with_reducible exact H) | (have H2_ := (Option.bind_some _ _).symm.trans H; rw [hy548]; with_reducible exact H2_) | (have H2_ := (Option.bind_some _ _).symm.trans H; with_reducible exact H2_) | with_reducible exact H | (rw [hy548]; exact H) | exact H
                                        have Ny548 := Aside0.mk hy548
                                        clear hy548
                                        have H' := Aside0.mk H
                                        clear H
                                        have p544 : 0 ≤ (x57_2 : Int) := of_decide_eq_true (by first | (with_reducible assumption) | assumption)
                                        have q544 : x57_2 < (x7_2.length : Int) := of_decide_eq_true (by first | (with_reducible assumption) | assumption)
                                        obtain ⟨ad544, e544, hx544_0⟩ := Kd.at_int (Kd.R_reads' HO_7.out).2.2 x57_2 p544 q544
                                        obtain rfl : ad537 = ad544 := (by injection e544)
                                        replace p544 := eq_true p544
                                        replace q544 := eq_true q544
                                        have p34 : 0 ≤ (x57_2 : Int) := of_decide_eq_true (by first | (with_reducible assumption) | assumption)
                                        have q34 : (x57_2 : Int) < ((x7_2.length : Int) : Int) := of_decide_eq_true (by first | (with_reducible assumption) | assumption)
                                        obtain ⟨go34, co34, eo34, gb34, gl34, cl34, HG34⟩ := Kd.R_form HO_7.out (by omega)
                                        (first | cases eo34 | (injection eo34 with ea_ en_ ec_; (first | subst ea_ | (injection ea_ with ea_; subst ea_)); subst ec_; clear en_))
                                        have GB34 := Aside0.mk gb34
                                        have GG34 := Aside0.mk HG34
                                        clear gb34 gl34 HG34
                                        (first | simp only [add_plain] at hx537_0 | skip)
                                        (first | simp only [add_plain] at hx544_0 | skip)
                                        obtain ⟨hx34_0, hf34_0⟩ := Kd.R_celln 0 HO_7.out (x57_2 : Int) p34 q34
                                        replace p34 := eq_true p34
                                        replace q34 := eq_true q34
                                        have HP42 := Kd.R_putg HO_7.out (x57_2 : Int) ji33
                                        try go_wp2_with (first | ((with_reducible refine gate_store (t := 42) (p := 68) rfl ?_); refine store_event (t := 42) (p := 68) (v := ?vo_w43) (w1 := (wr.setCell ⟨go34, (x57_2 : Int).toNat, none⟩ (.int .u64 ji33))) ?hg ?ho ?hn ?hr ?_; (case ho => rfl); (case hg => rfl); (case hn => rfl); (case hr => first | (go_simp; done) | (go_simp; rfl)); intro w43 hw; have hg : wr.grownBy w43 (some go34) := (by rw [hw]; exact HP42.2); have hp_ : Kd.R (Kd.int .u64) 42 w43 w.heap.size (fun k_ => (w.heap.size ≤ k_)) (.slice (some ⟨go34, 0, none⟩) x7_2.length co22) y545 := (by rw [hw, Ny545.out]; exact HP42.1); clear HP42; have n0_ := Aside0.mk (hp_); have n1_ := Aside0.mk ((by rw [hw]; exact below_set (HB.out) GB34.out : Below w.heap.size w w43)); clear HO_7; clear HB; have HO_7 := n0_; have HB := n1_; clear n0_ n1_; clear hg hw hp_))
                                        have n0_ := Aside0.mk (Kd.R_drew HO_7.out)
                                        have n1_ := Aside0.mk (below_drew1 HB.out)
                                        clear HO_7
                                        clear HB
                                        have HO_7 := n0_
                                        have HB := n1_
                                        clear n0_ n1_
                                        have p546 : 0 ≤ (x57_2 : Int) := of_decide_eq_true (by first | (with_reducible assumption) | assumption)
                                        have q546 : x57_2 < (y545.length : Int) := (by have h_ : (x57_2 : Int) < ((x7_2.length : Int) : Int) := of_decide_eq_true (by first | (with_reducible assumption) | assumption); first | (have e_ := (Kd.R_reads' HO_7.out).1; omega) | simpa only [Ny545.out, List.length_set] using h_)
                                        have ql546 : ((x57_2 : Int) < ((x7_2.length : Int) : Int)) = True := eq_true (of_decide_eq_true (by first | (with_reducible assumption) | assumption))
                                        obtain ⟨ad546, e546, hx546_0⟩ := Kd.at_int (Kd.R_reads' HO_7.out).2.2 x57_2 p546 q546
                                        obtain rfl : (⟨go34, 0, none⟩ : Addr) = ad546 := (by injection e546)
                                        (first | simp only [add_plain] at hx546_0 | simp only [add_at] at hx546_0 | simp only [Addr.add, Nat.zero_add] at hx546_0 | skip)
                                        replace p546 := eq_true p546
                                        replace q546 := eq_true q546
                                        have p547 : 0 ≤ ((ji36) : Int) := of_decide_eq_true (by first | (with_reducible assumption) | assumption)
                                        have q547 : (ji36) < (y545.length : Int) := (by have h_ : ((ji36) : Int) < ((x7_2.length : Int) : Int) := of_decide_eq_true (by first | (with_reducible assumption) | assumption); first | (have e_ := (Kd.R_reads' HO_7.out).1; omega) | simpa only [Ny545.out, List.length_set] using h_)
                                        have ql547 : (((ji36) : Int) < ((x7_2.length : Int) : Int)) = True := eq_true (of_decide_eq_true (by first | (with_reducible assumption) | assumption))
                                        obtain ⟨ad547, e547, hx547_0⟩ := Kd.at_int (Kd.R_reads' HO_7.out).2.2 (ji36) p547 q547
                                        obtain rfl : (⟨go34, 0, none⟩ : Addr) = ad547 := (by injection e547)
                                        (first | simp only [add_plain] at hx547_0 | simp only [add_at] at hx547_0 | simp only [Addr.add, Nat.zero_add] at hx547_0 | skip)
                                        replace p547 := eq_true p547
                                        replace q547 := eq_true q547
                                        have p41 : 0 ≤ (x57_2 : Int) := of_decide_eq_true (by first | (with_reducible assumption) | assumption)
                                        have q41 : (x57_2 : Int) < ((x7_2.length : Int) : Int) := of_decide_eq_true (by first | (with_reducible assumption) | assumption)
                                        obtain ⟨hx41_0, hf41_0⟩ := Kd.R_celln 0 HO_7.out (x57_2 : Int) p41 q41
                                        replace p41 := eq_true p41
                                        replace q41 := eq_true q41
                                        have HP45 := Kd.R_putn HO_7.out (x57_2 : Int) (Go.bits .or .u64 (rd y545 x57_2) (ji40))
                                        rw [← Ny548.out] at HP45
                                        have HQ45 := Aside0.mk HP45
                                        clear HP45
                                        refine start_ (n := 17) (S := fun w' => w'.cell? ⟨go34, (x57_2).toNat, none⟩ = some (.int .u64 (rd y545 x57_2)) ∧ w'.cell? ⟨go34, ((ji36)).toNat, none⟩ = some (.int .u64 (rd y545 (ji36)))) (ds := [16]) #[false, false, false, false, false, false, false, false, false, false, false, false, false, false, false, false, false] (by kernel_rfl) rfl rfl ⟨hx546_0, hx547_0⟩ (fun hHeld => ?_); refine with_tabW nat_Shr.tab18 nat_Shr.bits18 (fun HT_ HW_ => ?_)
                                        generalize w43.drew = w44 at HO_7 HB HQ45 hf41_0 hx41_0 hx546_0 hx547_0 hHeld ⊢
                                        refine pure_ (i := 0) (N := some 74) (v := ?_) (a' := ?_) #[true, false, false, false, false, false, false, false, false, false, false, false, false, false, false, false, false] rfl rfl (any_of HT_.out (by kernel_rfl)) (fun _ _ _ h => h) (Or.inl ⟨by rfl, ?_⟩) ?_ ?_
                                        rotate_left
                                        · intro w'
                                          go_simp
                                          with_reducible rfl
                                        rotate_left
                                        · simp only [Act.put, List.setIfInBounds_toArray, List.set_cons_zero, List.set_cons_succ, i64_w, i32_w]
                                          rfl
                                        refine pure_ (i := 1) (N := some 75) (v := ?_) (a' := ?_) #[true, true, false, false, false, false, false, false, false, false, false, false, false, false, false, false, false] rfl rfl (any_of HT_.out (by kernel_rfl)) (fun _ _ _ h => h) (Or.inl ⟨by rfl, ?_⟩) ?_ ?_
                                        rotate_left
                                        · intro w'
                                          go_simp
                                          with_reducible rfl
                                        rotate_left
                                        · simp only [Act.put, List.setIfInBounds_toArray, List.set_cons_zero, List.set_cons_succ, i64_w, i32_w]
                                          rfl
                                        refine pure_ (i := 2) (N := some 76) (v := ?_) (a' := ?_) #[true, true, true, false, false, false, false, false, false, false, false, false, false, false, false, false, false] rfl rfl (any_of HT_.out (by kernel_rfl)) (fun _ _ _ h => h) (Or.inl ⟨by rfl, ?_⟩) ?_ ?_
                                        rotate_left
                                        · intro w'
                                          go_simp
                                          with_reducible rfl
                                        rotate_left
                                        · simp only [Act.put, List.setIfInBounds_toArray, List.set_cons_zero, List.set_cons_succ, i64_w, i32_w]
                                          rfl
                                        refine pure_ (i := 4) (N := some 78) (v := ?_) (a' := ?_) #[true, true, true, false, true, false, false, false, false, false, false, false, false, false, false, false, false] rfl rfl (any_of HT_.out (by kernel_rfl)) (fun _ _ _ h => h) (Or.inl ⟨by rfl, ?_⟩) ?_ ?_
                                        rotate_left
                                        · intro w'
                                          go_simp
                                          with_reducible rfl
                                        rotate_left
                                        · simp only [Act.put, List.setIfInBounds_toArray, List.set_cons_zero, List.set_cons_succ, i64_w, i32_w]
                                          rfl
                                        refine pure_ (i := 5) (N := some 79) (v := ?_) (a' := ?_) #[true, true, true, false, true, true, false, false, false, false, false, false, false, false, false, false, false] rfl rfl (any_of HT_.out (by kernel_rfl)) (fun _ _ _ h => h) (Or.inl ⟨by rfl, ?_⟩) ?_ ?_
                                        rotate_left
                                        · intro w'
                                          go_simp
                                          with_reducible rfl
                                        rotate_left
                                        · simp only [Act.put, List.setIfInBounds_toArray, List.set_cons_zero, List.set_cons_succ, i64_w, i32_w]
                                          rfl
                                        refine pure_ (i := 6) (N := some 80) (v := ?_) (a' := ?_) #[true, true, true, false, true, true, true, false, false, false, false, false, false, false, false, false, false] rfl rfl (any_of HT_.out (by kernel_rfl)) (fun _ _ _ h => h) (Or.inl ⟨by rfl, ?_⟩) ?_ ?_
                                        rotate_left
                                        · intro w'
                                          go_simp
                                          with_reducible rfl
                                        rotate_left
                                        · simp only [Act.put, List.setIfInBounds_toArray, List.set_cons_zero, List.set_cons_succ, i64_w, i32_w]
                                          rfl
                                        refine pure_ (i := 7) (N := some 81) (v := ?_) (a' := ?_) #[true, true, true, false, true, true, true, true, false, false, false, false, false, false, false, false, false] rfl rfl (any_of HT_.out (by kernel_rfl)) (fun _ _ _ h => h) (Or.inl ⟨by rfl, ?_⟩) ?_ ?_
                                        rotate_left
                                        · intro w'
                                          go_simp
                                          with_reducible rfl
                                        rotate_left
                                        · simp only [Act.put, List.setIfInBounds_toArray, List.set_cons_zero, List.set_cons_succ, i64_w, i32_w]
                                          rfl
                                        refine pure_ (i := 10) (N := some 84) (v := ?_) (a' := ?_) #[true, true, true, false, true, true, true, true, false, false, true, false, false, false, false, false, false] rfl rfl (any_of HT_.out (by kernel_rfl)) (fun _ _ _ h => h) (Or.inl ⟨by rfl, ?_⟩) ?_ ?_
                                        rotate_left
                                        · intro w'
                                          go_simp
                                          with_reducible rfl
                                        rotate_left
                                        · simp only [Act.put, List.setIfInBounds_toArray, List.set_cons_zero, List.set_cons_succ, i64_w, i32_w]
                                          rfl
                                        refine pure_ (i := 11) (N := some 85) (v := ?_) (a' := ?_) #[true, true, true, false, true, true, true, true, false, false, true, true, false, false, false, false, false] rfl rfl (any_of HT_.out (by kernel_rfl)) (fun _ _ _ h => h) (Or.inl ⟨by rfl, ?_⟩) ?_ ?_
                                        rotate_left
                                        · intro w'
                                          go_simp
                                          with_reducible rfl
                                        rotate_left
                                        · simp only [Act.put, List.setIfInBounds_toArray, List.set_cons_zero, List.set_cons_succ, i64_w, i32_w]
                                          rfl
                                        refine pure_ (i := 12) (N := some 86) (v := ?_) (a' := ?_) #[true, true, true, false, true, true, true, true, false, false, true, true, true, false, false, false, false] rfl rfl (any_of HT_.out (by kernel_rfl)) (fun _ _ _ h => h) (Or.inl ⟨by rfl, ?_⟩) ?_ ?_
                                        rotate_left
                                        · intro w'
                                          go_simp
                                          with_reducible rfl
                                        rotate_left
                                        · simp only [Act.put, List.setIfInBounds_toArray, List.set_cons_zero, List.set_cons_succ, i64_w, i32_w]
                                          rfl
                                        refine take_ (i := 3) (N := some 77) (v := ?_) (a' := ?_) #[true, true, true, true, true, true, true, true, false, false, true, true, true, false, false, false, false] rfl rfl (take_ofW HT_.out HW_.out (by kernel_rfl)) (fun _ _ _ h => h) (Or.inl ⟨by rfl, ?_⟩) hHeld ?_ ?_
                                        rotate_left
                                        · rintro w' ⟨s0, s1⟩
                                          go_simp
                                          with_reducible rfl
                                        rotate_left
                                        · simp only [Act.put, List.setIfInBounds_toArray, List.set_cons_zero, List.set_cons_succ, i64_w, i32_w]
                                          rfl
                                        refine take_ (i := 8) (N := some 82) (v := ?_) (a' := ?_) #[true, true, true, true, true, true, true, true, true, false, true, true, true, false, false, false, false] rfl rfl (take_ofW HT_.out HW_.out (by kernel_rfl)) (fun _ _ _ h => h) (Or.inl ⟨by rfl, ?_⟩) hHeld ?_ ?_
                                        rotate_left
                                        · rintro w' ⟨s0, s1⟩
                                          go_simp
                                          with_reducible rfl
                                        rotate_left
                                        · simp only [Act.put, List.setIfInBounds_toArray, List.set_cons_zero, List.set_cons_succ, i64_w, i32_w]
                                          rfl
                                        refine pure_ (i := 9) (N := some 83) (v := ?_) (a' := ?_) #[true, true, true, true, true, true, true, true, true, true, true, true, true, false, false, false, false] rfl rfl (any_of HT_.out (by kernel_rfl)) (fun _ _ _ h => h) (Or.inl ⟨by rfl, ?_⟩) ?_ ?_
                                        rotate_left
                                        · intro w'
                                          go_simp
                                          with_reducible rfl
                                        rotate_left
                                        · simp only [Act.put, List.setIfInBounds_toArray, List.set_cons_zero, List.set_cons_succ, i64_w, i32_w]
                                          rfl
                                        refine pure_ (i := 13) (N := some 87) (v := ?_) (a' := ?_) #[true, true, true, true, true, true, true, true, true, true, true, true, true, true, false, false, false] rfl rfl (any_of HT_.out (by kernel_rfl)) (fun _ _ _ h => h) (Or.inl ⟨by rfl, ?_⟩) ?_ ?_
                                        rotate_left
                                        · intro w'
                                          go_simp
                                          with_reducible rfl
                                        rotate_left
                                        · simp only [Act.put, List.setIfInBounds_toArray, List.set_cons_zero, List.set_cons_succ, i64_w, i32_w]
                                          rfl
                                        refine pure_ (i := 14) (N := some 88) (v := ?_) (a' := ?_) #[true, true, true, true, true, true, true, true, true, true, true, true, true, true, true, false, false] rfl rfl (any_of HT_.out (by kernel_rfl)) (fun _ _ _ h => h) (Or.inl ⟨by rfl, ?_⟩) ?_ ?_
                                        rotate_left
                                        · intro w'
                                          go_simp
                                          with_reducible rfl
                                        rotate_left
                                        · simp only [Act.put, List.setIfInBounds_toArray, List.set_cons_zero, List.set_cons_succ, i64_w, i32_w]
                                          rfl
                                        refine pure_ (i := 15) (N := some 89) (v := ?_) (a' := ?_) #[true, true, true, true, true, true, true, true, true, true, true, true, true, true, true, true, false] rfl rfl (any_of HT_.out (by kernel_rfl)) (fun _ _ _ h => h) (Or.inl ⟨by rfl, ?_⟩) ?_ ?_
                                        rotate_left
                                        · intro w'
                                          go_simp
                                          with_reducible rfl
                                        rotate_left
                                        · simp only [Act.put, List.setIfInBounds_toArray, List.set_cons_zero, List.set_cons_succ, i64_w, i32_w]
                                          rfl
                                        refine last_ (i := 16) (N := none) #[true, true, true, true, true, true, true, true, true, true, true, true, true, true, true, true, true] rfl rfl (one_of HT_.out (by kernel_rfl)) (by decide) (fun K hK => ?_)
                                        refine skip_ (w1 := ?_) (by rfl) rfl ?_ ?_
                                        rotate_left
                                        · go_simp
                                          rfl
                                        refine hK.out _ _ ?_
                                        clear hK K
                                        refine done_ (done_of HT_.out (by kernel_rfl)) ?_
                                        try go_wp2
                                        (try simp only [← hl7_2])
                                        (try simp only [← hji31])
                                        go_roundg k2
                                        case measure => have := HK1.out; have := HK2.out; omega
                                        case rel => exact ⟨(y548), (ji36), (by first | rfl | (simp; done) | (simp only [← hji36] <;> (first | rfl | simp)) | (simp [*]; done)), H', ⟨by have := HK1.out; have := HK2.out; omega⟩, ⟨by (try simp only [hl7_2]); (with_reducible repeat (first | apply Kd.R_alloc | apply Kd.R_drewN | apply Kd.R_drew)); exact HQ45.out⟩, ⟨by repeat (first | (with_reducible first | exact HB.out | apply below_alloc | apply pw_below_drewN | apply below_drew1 | refine below_set ?_ GB34.out) | exact HB.out)⟩⟩
                                      · rw [if_neg c39] at H
                                        exact absurd H (by simp)
                                    · rw [if_neg c37] at H
                                      exact absurd H (by simp)
                                  · rw [if_neg c35] at H
                                    have c35b0 : decide ((wrap64 (x57_2 + 1)) < (x7_2.length : Int)) = false := decide_eq_false c35
                                    (try simp only [hl7_2] at c35b0)
                                    clear c35
                                    have H' := Aside0.mk H
                                    clear H
                                    have p544 : 0 ≤ (x57_2 : Int) := of_decide_eq_true (by first | (with_reducible assumption) | assumption)
                                    have q544 : x57_2 < (x7_2.length : Int) := of_decide_eq_true (by first | (with_reducible assumption) | assumption)
                                    obtain ⟨ad544, e544, hx544_0⟩ := Kd.at_int (Kd.R_reads' HO_7.out).2.2 x57_2 p544 q544
                                    obtain rfl : ad537 = ad544 := (by injection e544)
                                    replace p544 := eq_true p544
                                    replace q544 := eq_true q544
                                    have p34 : 0 ≤ (x57_2 : Int) := of_decide_eq_true (by first | (with_reducible assumption) | assumption)
                                    have q34 : (x57_2 : Int) < ((x7_2.length : Int) : Int) := of_decide_eq_true (by first | (with_reducible assumption) | assumption)
                                    obtain ⟨go34, co34, eo34, gb34, gl34, cl34, HG34⟩ := Kd.R_form HO_7.out (by omega)
                                    (first | cases eo34 | (injection eo34 with ea_ en_ ec_; (first | subst ea_ | (injection ea_ with ea_; subst ea_)); subst ec_; clear en_))
                                    have GB34 := Aside0.mk gb34
                                    have GG34 := Aside0.mk HG34
                                    clear gb34 gl34 HG34
                                    (first | simp only [add_plain] at hx544_0 | skip)
                                    obtain ⟨hx34_0, hf34_0⟩ := Kd.R_celln 0 HO_7.out (x57_2 : Int) p34 q34
                                    replace p34 := eq_true p34
                                    replace q34 := eq_true q34
                                    have HP46 := Kd.R_putg HO_7.out (x57_2 : Int) ji33
                                    go_wp2_with (first | ((with_reducible refine gate_store (t := 42) (p := 68) rfl ?_); refine store_event (t := 42) (p := 68) (v := ?vo_w47) (w1 := (wr.setCell ⟨go34, (x57_2 : Int).toNat, none⟩ (.int .u64 ji33))) ?hg ?ho ?hn ?hr ?_; (case ho => rfl); (case hg => rfl); (case hn => rfl); (case hr => first | (go_simp; done) | (go_simp; rfl)); intro w47 hw; have hg : wr.grownBy w47 (some go34) := (by rw [hw]; exact HP46.2); have hp_ : Kd.R (Kd.int .u64) 42 w47 w.heap.size (fun k_ => (w.heap.size ≤ k_)) (.slice (some ⟨go34, 0, none⟩) x7_2.length co22) y545 := (by rw [hw, Ny545.out]; exact HP46.1); clear HP46; have n0_ := Aside0.mk (hp_); have n1_ := Aside0.mk ((by rw [hw]; exact below_set (HB.out) GB34.out : Below w.heap.size w w47)); clear HO_7; clear HB; have HO_7 := n0_; have HB := n1_; clear n0_ n1_; clear hg hw hp_))
                                    (try simp only [← hl7_2])
                                    (try simp only [← hji31])
                                    go_roundg k2
                                    case measure => have := HK1.out; have := HK2.out; omega
                                    case rel => exact ⟨(y545), (wrap64 (x57_2 + 1)), (by first | rfl | (simp; done) | (simp [*]; done)), H', ⟨by have := HK1.out; have := HK2.out; omega⟩, ⟨by (try simp only [hl7_2]); (with_reducible repeat (first | apply Kd.R_alloc | apply Kd.R_drewN | apply Kd.R_drew)); exact HO_7.out⟩, ⟨by repeat (first | (with_reducible first | exact HB.out | apply below_alloc | apply pw_below_drewN | apply below_drew1) | exact HB.out)⟩⟩
                                · rw [if_neg c32] at H
                                  exact absurd H (by simp)
                              · rw [if_neg c30] at H
                                exact absurd H (by simp)
                            · rw [if_neg c29] at H
                              exact absurd H (by simp)
                          · rw [if_neg c28] at H
                            have c28b0 : decide (x57_2 < (y534.length : Int)) = false := decide_eq_false c28
                            (try simp only [hl7_2] at c28b0)
                            clear c28
                            replace H := Option.bind_eq_some_iff.mp H
                            obtain ⟨t549, A480, H⟩ := H
                            replace H : (some (t549, x8_1, none)) = some (r1, r2, r3) := H
                            have A48 := Aside0.mk A480
                            clear A480
                            simp only [Option.some.injEq, Prod.mk.injEq] at H
                            obtain ⟨rfl, rfl, rfl⟩ := H
                            go_wp2_with (first | ((with_reducible refine gate_callee (f := 53) rfl ?_); refine goesL_ (some 92) rfl rfl Tryd.func53 (by kernel_rfl) rfl #[.slice (some ad537) x7_2.length co22] rfl (by (try simp only [List.map_toArray, List.map_cons, List.map_nil]); first | done | rfl | (simp only [List.length_drop, List.length_take]; rfl)) ?_; (with_reducible refine (nat_trim.calls k2 (fun k_ => some k_ = (.slice (some ad537) x7_2.length co22 : Value).ownBlock) _ _ x7_2 t549 _ ?side1 A48.out).mono ?_); (case side1 => exact Kd.R_V (Kd.R_tight rfl (HO_7.out))); rintro e w49 ⟨v550, rfl, ho0, hb⟩; refine ⟨_, rfl, ?_⟩; have n0_ := Aside0.mk (Kd.R_below (by (with_reducible repeat (first | apply Kd.R_alloc | apply Kd.R_drewN | apply Kd.R_drew)); exact HO_7.out) hb); have n1_ := Aside0.mk (Kd.V_lower (Kd.V_mono (ok' := fun k_ => (P0_ k_ ∨ w.heap.size ≤ k_)) ho0 (fun k_ hk_ => Or.elim hk_ (fun hs_ => (.inr (((HO_7.out).1 k_ hs_.symm)))) (fun hn_ => (.inr (Nat.le_trans (below_size (by repeat (first | (with_reducible first | exact HB.out | apply below_alloc | apply pw_below_drewN | apply below_drew1) | exact HB.out))) hn_))))) (below_size (by repeat (first | (with_reducible first | exact HB.out | apply below_alloc | apply pw_below_drewN | apply below_drew1) | exact HB.out)))); have n2_ := Aside0.mk (below_step (by repeat (first | (with_reducible first | exact HB.out | apply below_alloc | apply pw_below_drewN | apply below_drew1) | exact HB.out)) hb); clear HO_7; clear HB; have HO_7 := n0_; have HO551 := n1_; have HB := n2_; clear n0_ n1_ n2_; (try clear hb); (try clear hb2); (try clear hk); (try clear hi); (try clear ho0)))
                            go_ret3
                            exact ⟨_, by first | rfl | (simp [errW_none, errW_some] <;> rfl) | (simp only [← hji8, ← hji13, ← hji15]; first | rfl | (simp [errW_none, errW_some] <;> rfl)) | (simp [*, errW_none, errW_some] <;> rfl), by (with_reducible repeat (first | apply Kd.V_alloc | apply Kd.V_drewN | apply Kd.V_drew)); exact HO551.out, by repeat (first | (with_reducible first | exact HB.out | apply below_alloc | apply pw_below_drewN | apply below_drew1) | exact HB.out)⟩
              · rw [if_neg c14] at H
                exact absurd H (by simp)
            · rw [if_neg c12] at H
              exact absurd H (by simp)
          · rw [if_neg c11] at H
            exact absurd H (by simp)
        · rw [if_neg c10] at H
          exact absurd H (by simp)
      · rw [if_neg c9] at H
        exact absurd H (by simp)
end Go.Proofs.YthgmkigfgcejgaaDoor.PNat
