/- PNatx10: the part that this claim needs. -/
import Derived.Test.YthgmkigfgcejgaaDoorQDBPNatx0
import Derived.Test.YthgmkigfgcejgaaDoorQDBPNatx1
import Derived.Test.YthgmkigfgcejgaaDoorQDBPNatx3
import Derived.Test.YthgmkigfgcejgaaDoorQDBPNatx9
import Derived.Test.YthgmkigfgcejgaaDoorQDBGLessW
namespace Go.Proofs.YthgmkigfgcejgaaDoor.PNat
open Go.RowKit Go.Proofs.YthgmkigfgcejgaaDoorW.PrintWords Go.Proofs.YthgmkigfgcejgaaDoorW.PrintLast Go.Proofs.YthgmkigfgcejgaaDoorW.PrintMore
open Go.Proofs.YthgmkigfgcejgaaDoor.M
attribute [local go_sem] runx_add64 runx_sub64 eql_cc eql_nc neq_cc neq_nc
attribute [local go_sem] max2_int min2_int max_two min_two max_three min_three max_four min_four   -- for this text's walks alone
set_option linter.unusedVariables false
set_option linter.unusedSimpArgs false
mutual
def nat_long.l0 : Nat → Int → Int → List Int → List Int → List Int → Int → Option (List Int × List Int)
  | 0, _, _, _, _, _, _ => none
  | k + 1, x6, x7, x8, x9, x10, x11 => if x11 ≥ 0 then (if 0 ≤ (wrap64 (x11 + x7)) then (if (wrap64 (x11 + x7)) < (x9.length : Int) then (if 0 ≤ (wrap64 ((wrap64 (x11 + x7)) - 1)) then (if (wrap64 ((wrap64 (x11 + x7)) - 1)) < (x9.length : Int) then (if 0 ≤ (wrap64 ((wrap64 (x11 + x7)) - 2)) then (if (wrap64 ((wrap64 (x11 + x7)) - 2)) < (x9.length : Int) then (if 0 ≤ (wrap64 (x7 - 1)) then (if (wrap64 (x7 - 1)) < (x8.length : Int) then (if 0 ≤ (wrap64 (x7 - 2)) then (if (wrap64 (x7 - 2)) < (x8.length : Int) then ((nat_estimate.f k (rd x9 (wrap64 (x11 + x7))) (rd x9 (wrap64 ((wrap64 (x11 + x7)) - 1))) (rd x9 (wrap64 ((wrap64 (x11 + x7)) - 2))) (rd x8 (wrap64 (x7 - 1))) (rd x8 (wrap64 (x7 - 2)))).bind fun t446 => (if 0 ≤ x11 then (if x11 < (wrap64 ((wrap64 (x11 + x7)) + 1)) then (if (wrap64 ((wrap64 (x11 + x7)) + 1)) ≤ (x9.length : Int) then ((nat_lessW.f k x9 x11 (wrap64 ((wrap64 (x11 + x7)) + 1)) x8 t446).bind fun bt449 => (nat_long.l1 k x6 x7 x8 bt449.2 x10 x11 t446 bt449.1)) else (none)) else (none)) else (none))) else (none)) else (none)) else (none)) else (none)) else (none)) else (none)) else (none)) else (none)) else (none)) else (none)) else (nat_long.l2 k x6 x7 x9 x10 x7 0)
def nat_long.l1 : Nat → Int → Int → List Int → List Int → List Int → Int → Int → Bool → Option (List Int × List Int)
  | 0, _, _, _, _, _, _, _, _ => none
  | k + 1, x6, x7, x8, x9, x10, x11, x12, x13 => if x13 = true then (if 0 ≤ x11 then (if x11 < (wrap64 ((wrap64 (x11 + x7)) + 1)) then (if (wrap64 ((wrap64 (x11 + x7)) + 1)) ≤ (x9.length : Int) then ((nat_backW.f k x9 x11 (wrap64 ((wrap64 (x11 + x7)) + 1)) x8).bind fun bt453 => (nat_long.l1 k x6 x7 x8 bt453.2 x10 x11 (IntKind.u64.wrap (x12 - 1)) (!bt453.1))) else (none)) else (none)) else (none)) else (if 0 ≤ x11 then (if x11 < (x10.length : Int) then (nat_long.l0 k x6 x7 x8 x9 (x10.set (x11 : Int).toNat x12) (wrap64 (x11 - 1))) else (none)) else (none))
def nat_long.l2 : Nat → Int → Int → List Int → List Int → Int → Int → Option (List Int × List Int)
  | 0, _, _, _, _, _, _ => none
  | k + 1, x6, x7, x9, x10, x102, x103 => if x103 < x102 then (if 0 ≤ x103 then (if x103 < (x9.length : Int) then (if 0 ≤ x6 then ((some (x9.set (x103 : Int).toNat (shr .u64 (rd x9 x103) x6) : List Int)).bind fun y457 => (if x6 > 0 then (if (wrap64 (x103 + 1)) < x7 then (if 0 ≤ (wrap64 (x103 + 1)) then (if (wrap64 (x103 + 1)) < (x9.length : Int) then (if 0 ≤ (wrap64 (64 - x6)) then (nat_long.l2 k x6 x7 (y457.set (x103 : Int).toNat (Go.bits .or .u64 (rd y457 x103) (shl .u64 (rd y457 (wrap64 (x103 + 1))) (wrap64 (64 - x6))))) x10 x102 (wrap64 (x103 + 1))) else (none)) else (none)) else (none)) else (nat_long.l2 k x6 x7 y457 x10 x102 (wrap64 (x103 + 1)))) else (nat_long.l2 k x6 x7 y457 x10 x102 (wrap64 (x103 + 1))))) else (none)) else (none)) else (none)) else ((nat_trim.f k x10).bind fun t461 => (if 0 ≤ x7 then (if x7 ≤ (x9.length : Int) then ((nat_trim.f k (x9.take (x7 : Int).toNat)).bind fun t469 => (some (t461, t469))) else (none)) else (none)))
end
def nat_long.f (k : Nat) (l0 : List Int) (l1 : List Int) : Option (List Int × List Int) := if 0 ≤ (wrap64 ((l1.length : Int) - 1)) then (if (wrap64 ((l1.length : Int) - 1)) < (l1.length : Int) then ((bits_LeadingZeros64.f k (rd l1 (wrap64 ((l1.length : Int) - 1)))).bind fun t426 => ((nat_lifted.f k l1 t426).bind fun t427 => (if 0 ≤ (l1.length : Int) then (if (l1.length : Int) ≤ (t427.length : Int) then ((nat_lifted.f k l0 t426).bind fun t435 => (if 0 ≤ (wrap64 ((t435.length : Int) - (l1.length : Int))) then (if (wrap64 ((t435.length : Int) - (l1.length : Int)) : Int).toNat ≤ 35184372088832 then ((some (List.replicate (wrap64 ((t435.length : Int) - (l1.length : Int)) : Int).toNat 0 : List Int)).bind fun y438 => (nat_long.l0 k t426 (l1.length : Int) (t427.take ((l1.length : Int) : Int).toNat) t435 y438 (wrap64 ((y438.length : Int) - 1)))) else (none)) else (none))) else (none)) else (none)))) else (none)) else (none)
def nat_long.T9 : Bool × List (List Nat × List Nat) := (true, [([], []), ([], []), ([], []), ([1, 2], [1, 2]), ([0, 3], [0, 3]), ([4], [4]), ([], []), ([], []), ([], []), ([7, 8], [7, 8]), ([9], [9]), ([6, 10], [6, 10]), ([11], [11]), ([], []), ([], []), ([], []), ([14, 15], [14, 15]), ([16], [16]), ([13, 17], [13, 17]), ([18], [18]), ([], []), ([], []), ([21], [21]), ([20, 22], [20, 22]), ([23], [23]), ([], []), ([], []), ([26], [26]), ([25, 27], [25, 27]), ([28], [28]), ([5, 12, 19, 24, 29], [5, 12, 19, 24, 29]), ([30, 30, 0, 1, 2, 3, 4, 5, 6, 7, 8, 9, 10, 11, 12, 13, 14, 15, 16, 17, 18, 19, 20, 21, 22, 23, 24, 25, 26, 27, 28, 29, 30], [30])])
def nat_long.B9 : List Nat := [0, 0, 0, 6, 15, 31, 0, 0, 0, 384, 896, 1984, 4032, 0, 0, 0, 49152, 114688, 253952, 516096, 0, 0, 2097152, 7340032, 15728640, 0, 0, 67108864, 234881024, 503316480, 1073741823, 2147483647]
theorem nat_long.tab9 : rtab .any (opsOf Tryd.f66 9) = nat_long.T9 := by kernel_rfl
theorem nat_long.bits9 : waitsOk nat_long.T9.2 nat_long.B9 = true := by kernel_rfl
def nat_long.T20 : Bool × List (List Nat × List Nat) := (true, [([], []), ([], []), ([0, 1], [0, 1]), ([2], [2]), ([], []), ([], []), ([5], [5]), ([4, 6], [4, 6]), ([7], [7]), ([], []), ([9], [9]), ([8, 10], [8, 10]), ([3, 11], [3, 11]), ([0, 1, 0, 1, 2, 3, 4, 5, 6, 7, 8, 9, 10, 11, 12], [0, 1]), ([13, 12, 0, 1, 2, 3, 4, 5, 6, 7, 8, 9, 10, 11, 12], [12, 13])])
def nat_long.B20 : List Nat := [0, 0, 3, 7, 0, 0, 32, 112, 240, 0, 512, 2032, 4095, 8191, 16383]
theorem nat_long.tab20 : rtab .any (opsOf Tryd.f66 20) = nat_long.T20 := by kernel_rfl
theorem nat_long.bits20 : waitsOk nat_long.T20.2 nat_long.B20 = true := by kernel_rfl
def nat_long.T22 : Bool × List (List Nat × List Nat) := (true, [([], []), ([0], [0]), ([], []), ([], []), ([], []), ([2, 3, 4], [2, 3, 4]), ([5, 1], [5]), ([1, 6, 0, 1], [1]), ([6, 7, 0, 1, 2, 3, 4, 5, 6, 7], [6])])
def nat_long.B22 : List Nat := [0, 1, 0, 0, 0, 28, 63, 127, 255]
theorem nat_long.tab22 : rtab .any (opsOf Tryd.f66 22) = nat_long.T22 := by kernel_rfl
theorem nat_long.bits22 : waitsOk nat_long.T22.2 nat_long.B22 = true := by kernel_rfl
set_option maxHeartbeats 8000000 in
set_option maxRecDepth 100000 in
theorem nat_long.calls (k : Nat) (A0 : Option Addr) (c0 : Nat) (l0 : List Int) (A1 : Option Addr) (c1 : Nat) (l1 : List Int) (r1 : List Int) (r2 : List Int) (w : World) (hr0 : Kd.C (Kd.int .u64) w A0 l0.length l0) (hc0 : l0.length ≤ c0) (hr1 : Kd.C (Kd.int .u64) w A1 l1.length l1) (hc1 : l1.length ≤ c1) (h : nat_long.f k l0 l1 = some (r1, r2)) :
    Calls Tryd.prog 66 #[.slice A0 l0.length c0, .slice A1 l1.length c1] w fun e w' => ∃ v0_ v1_ : Value, e = .returned (.tuple #[v0_, v1_]) ∧ Kd.V (Kd.int .u64) 42 w' w.heap.size (fun k_ => (w.heap.size ≤ k_)) v0_ r1 ∧ Kd.V (Kd.int .u64) 42 w' w.heap.size (fun k_ => (w.heap.size ≤ k_)) v1_ r2 ∧ Below w.heap.size w w' := by
  have HR0 := Aside0.mk hr0
  have HC0 := Aside0.mk hc0
  clear hr0 hc0
  have HR1 := Aside0.mk hr1
  have HC1 := Aside0.mk hc1
  clear hr1 hc1
  have HB := Aside0.mk (Below.refl w.heap.size w)
  have H : (if 0 ≤ (wrap64 ((l1.length : Int) - 1)) then (if (wrap64 ((l1.length : Int) - 1)) < (l1.length : Int) then ((bits_LeadingZeros64.f k (rd l1 (wrap64 ((l1.length : Int) - 1)))).bind fun t426 => ((nat_lifted.f k l1 t426).bind fun t427 => (if 0 ≤ (l1.length : Int) then (if (l1.length : Int) ≤ (t427.length : Int) then ((nat_lifted.f k l0 t426).bind fun t435 => (if 0 ≤ (wrap64 ((t435.length : Int) - (l1.length : Int))) then (if (wrap64 ((t435.length : Int) - (l1.length : Int)) : Int).toNat ≤ 35184372088832 then ((some (List.replicate (wrap64 ((t435.length : Int) - (l1.length : Int)) : Int).toNat 0 : List Int)).bind fun y438 => (nat_long.l0 k t426 (l1.length : Int) (t427.take ((l1.length : Int) : Int).toNat) t435 y438 (wrap64 ((y438.length : Int) - 1)))) else (none)) else (none))) else (none)) else (none)))) else (none)) else (none)) = some (r1, r2) := h
  clear h
  obtain ⟨ji3, hji3⟩ : ∃ j_ : Int, (wrap64 ((l1.length : Int) - 1)) = j_ := ⟨_, rfl⟩
  replace H : (if 0 ≤ (ji3) then (if (ji3) < (l1.length : Int) then ((bits_LeadingZeros64.f k (rd l1 (ji3))).bind fun t426 => ((nat_lifted.f k l1 t426).bind fun t427 => (if 0 ≤ (l1.length : Int) then (if (l1.length : Int) ≤ (t427.length : Int) then ((nat_lifted.f k l0 t426).bind fun t435 => (if 0 ≤ (wrap64 ((t435.length : Int) - (l1.length : Int))) then (if (wrap64 ((t435.length : Int) - (l1.length : Int)) : Int).toNat ≤ 35184372088832 then ((some (List.replicate (wrap64 ((t435.length : Int) - (l1.length : Int)) : Int).toNat 0 : List Int)).bind fun y438 => (nat_long.l0 k t426 (l1.length : Int) (t427.take ((l1.length : Int) : Int).toNat) t435 y438 (wrap64 ((y438.length : Int) - 1)))) else (none)) else (none))) else (none)) else (none)))) else (none)) else (none)) = some (r1, r2) := by first | (rw [hji3] at H; exact H) | (simp only [hji3] at H ⊢; exact H)
  have hji3w : (IntKind.i64.wrap ((l1.length : Int) - 1)) = ji3 := (i64_w _).trans hji3
  by_cases c4 : 0 ≤ (ji3)
  · rw [if_pos c4] at H
    have c4b0 : decide (0 ≤ (ji3)) = true := decide_eq_true c4
    clear c4
    by_cases c5 : (ji3) < (l1.length : Int)
    · rw [if_pos c5] at H
      have c5b0 : decide ((ji3) < (l1.length : Int)) = true := decide_eq_true c5
      clear c5
      replace H := Option.bind_eq_some_iff.mp H
      obtain ⟨t426, A60, H⟩ := H
      replace H : ((nat_lifted.f k l1 t426).bind fun t427 => (if 0 ≤ (l1.length : Int) then (if (l1.length : Int) ≤ (t427.length : Int) then ((nat_lifted.f k l0 t426).bind fun t435 => (if 0 ≤ (wrap64 ((t435.length : Int) - (l1.length : Int))) then (if (wrap64 ((t435.length : Int) - (l1.length : Int)) : Int).toNat ≤ 35184372088832 then ((some (List.replicate (wrap64 ((t435.length : Int) - (l1.length : Int)) : Int).toNat 0 : List Int)).bind fun y438 => (nat_long.l0 k t426 (l1.length : Int) (t427.take ((l1.length : Int) : Int).toNat) t435 y438 (wrap64 ((y438.length : Int) - 1)))) else (none)) else (none))) else (none)) else (none))) = some (r1, r2) := H
      have A6 := Aside0.mk A60
      clear A60
      replace H := Option.bind_eq_some_iff.mp H
      obtain ⟨t427, A70, H⟩ := H
      replace H : (if 0 ≤ (l1.length : Int) then (if (l1.length : Int) ≤ (t427.length : Int) then ((nat_lifted.f k l0 t426).bind fun t435 => (if 0 ≤ (wrap64 ((t435.length : Int) - (l1.length : Int))) then (if (wrap64 ((t435.length : Int) - (l1.length : Int)) : Int).toNat ≤ 35184372088832 then ((some (List.replicate (wrap64 ((t435.length : Int) - (l1.length : Int)) : Int).toNat 0 : List Int)).bind fun y438 => (nat_long.l0 k t426 (l1.length : Int) (t427.take ((l1.length : Int) : Int).toNat) t435 y438 (wrap64 ((y438.length : Int) - 1)))) else (none)) else (none))) else (none)) else (none)) = some (r1, r2) := H
      have A7 := Aside0.mk A70
      clear A70
      by_cases c8 : 0 ≤ (l1.length : Int)
      · rw [if_pos c8] at H
        have c8b0 := eq_true c8
        have c8b1 : decide (0 ≤ (l1.length : Int)) = true := decide_eq_true c8
        clear c8
        by_cases c9 : (l1.length : Int) ≤ (t427.length : Int)
        · rw [if_pos c9] at H
          have c9b0 := eq_true c9
          have c9b1 : decide ((l1.length : Int) ≤ (t427.length : Int)) = true := decide_eq_true c9
          clear c9
          obtain ⟨y430, hy430⟩ : ∃ y_ : List Int, y_ = (t427.take ((l1.length : Int) : Int).toNat) := ⟨_, rfl⟩
          replace H : ((nat_lifted.f k l0 t426).bind fun t435 => (if 0 ≤ (wrap64 ((t435.length : Int) - (l1.length : Int))) then (if (wrap64 ((t435.length : Int) - (l1.length : Int)) : Int).toNat ≤ 35184372088832 then ((some (List.replicate (wrap64 ((t435.length : Int) - (l1.length : Int)) : Int).toNat 0 : List Int)).bind fun y438 => (nat_long.l0 k t426 (l1.length : Int) y430 t435 y438 (wrap64 ((y438.length : Int) - 1)))) else (none)) else (none))) = some (r1, r2) := by first | (rw [hy430]; with_reducible exact H) | (have H2_ := (Option.bind_some _ _).symm.trans H; rw [hy430]; with_reducible exact H2_) | (have H2_ := (Option.bind_some _ _).symm.trans H; with_reducible exact H2_) | with_reducible exact H | (rw [hy430]; exact H) | exact H
          have Ny430 := Aside0.mk hy430
          clear hy430
          replace H := Option.bind_eq_some_iff.mp H
          obtain ⟨t435, A100, H⟩ := H
          replace H : (if 0 ≤ (wrap64 ((t435.length : Int) - (l1.length : Int))) then (if (wrap64 ((t435.length : Int) - (l1.length : Int)) : Int).toNat ≤ 35184372088832 then ((some (List.replicate (wrap64 ((t435.length : Int) - (l1.length : Int)) : Int).toNat 0 : List Int)).bind fun y438 => (nat_long.l0 k t426 (l1.length : Int) y430 t435 y438 (wrap64 ((y438.length : Int) - 1)))) else (none)) else (none)) = some (r1, r2) := H
          have A10 := Aside0.mk A100
          clear A100
          obtain ⟨ji11, hji11⟩ : ∃ j_ : Int, (wrap64 ((t435.length : Int) - (l1.length : Int))) = j_ := ⟨_, rfl⟩
          replace H : (if 0 ≤ (ji11) then (if (ji11 : Int).toNat ≤ 35184372088832 then ((some (List.replicate (ji11 : Int).toNat 0 : List Int)).bind fun y438 => (nat_long.l0 k t426 (l1.length : Int) y430 t435 y438 (wrap64 ((y438.length : Int) - 1)))) else (none)) else (none)) = some (r1, r2) := by first | (rw [hji11] at H; exact H) | (simp only [hji11] at H ⊢; exact H)
          (try rw [hji11] at A6)
          (try rw [hji11] at A7)
          (try rw [hji11] at A10)
          have hji11w : (IntKind.i64.wrap ((t435.length : Int) - (l1.length : Int))) = ji11 := (i64_w _).trans hji11
          by_cases c12 : 0 ≤ (ji11)
          · rw [if_pos c12] at H
            have c12b0 := eq_true c12
            have c12b1 : decide (0 ≤ (ji11)) = true := decide_eq_true c12
            clear c12
            by_cases c13 : (ji11 : Int).toNat ≤ 35184372088832
            · rw [if_pos c13] at H
              have c13b0 := eq_true c13
              have c13b1 : decide ((ji11 : Int).toNat ≤ 35184372088832) = true := decide_eq_true c13
              clear c13
              obtain ⟨y438, hy438⟩ : ∃ y_ : List Int, y_ = (List.replicate (ji11 : Int).toNat 0) := ⟨_, rfl⟩
              replace H : (nat_long.l0 k t426 (l1.length : Int) y430 t435 y438 (wrap64 ((y438.length : Int) - 1))) = some (r1, r2) := by first | (rw [hy438]; with_reducible exact H) | (have H2_ := (Option.bind_some _ _).symm.trans H; rw [hy438]; with_reducible exact H2_) | (have H2_ := (Option.bind_some _ _).symm.trans H; with_reducible exact H2_) | with_reducible exact H | (rw [hy438]; exact H) | exact H
              have Ny438 := Aside0.mk hy438
              clear hy438
              have H' := Aside0.mk H
              clear H
              have p425 : 0 ≤ ((ji3) : Int) := of_decide_eq_true (by first | (with_reducible assumption) | assumption)
              have q425 : (ji3) < (l1.length : Int) := of_decide_eq_true (by first | (with_reducible assumption) | assumption)
              obtain ⟨ad425, e425, hx425_0⟩ := Kd.at_int HR1.out (ji3) p425 q425
              cases e425
              replace p425 := eq_true p425
              replace q425 := eq_true q425
              go_enter Tryd.func66, Tryd.ntmps66
              go_wp2_with (first | ((with_reducible refine gate_callee (f := 79) rfl ?_); refine goesL_ (some 21) rfl rfl Tryd.func79 (by kernel_rfl) rfl #[.int .u64 (rd l1 (ji3))] rfl (by (try simp only [List.map_toArray, List.map_cons, List.map_nil]); first | done | (simp only [hji3]; rfl) | rfl | (simp only [List.length_drop, List.length_take]; rfl)) ?_; (with_reducible refine (bits_LeadingZeros64.calls k (rd l1 (ji3)) t426 _ A6.out).mono ?_); rintro e w' ⟨rfl, ⟨nd, rfl⟩⟩; refine ⟨_, rfl, ?_⟩) | ((with_reducible refine gate_callee (f := 65) rfl ?_); refine goesL_ (some 26) rfl rfl Tryd.func65 (by kernel_rfl) rfl #[.slice (some ad425) l1.length c1, .int .i64 t426] rfl (by (try simp only [List.map_toArray, List.map_cons, List.map_nil]); first | done | rfl | (simp only [List.length_drop, List.length_take]; rfl)) ?_; (with_reducible refine (nat_lifted.calls k _ _ l1 t426 t427 _ ?side1 ?side2 A7.out).mono ?_); (case side1 => repeat (first | exact HR1.out | (with_reducible refine Kd.C_alloc ?_ _) | (with_reducible refine Kd.C_drewN ?_ _) | (with_reducible refine Kd.C_drew ?_))); (case side2 => exact HC1.out); rintro e w14 ⟨v428, rfl, ho0, hb⟩; refine ⟨_, rfl, ?_⟩; have n0_ := Aside0.mk (Kd.R_lower (Kd.R_newM (M := fun k_ => (w.heap.size ≤ k_)) ho0 (below_size (by repeat (first | (with_reducible first | exact HB.out | apply below_alloc | apply pw_below_drewN | apply below_drew1) | exact HB.out))) (fun k_ h_ => h_)) (below_size (by repeat (first | (with_reducible first | exact HB.out | apply below_alloc | apply pw_below_drewN | apply below_drew1) | exact HB.out)))); have n1_ := Aside0.mk (below_step (by repeat (first | (with_reducible first | exact HB.out | apply below_alloc | apply pw_below_drewN | apply below_drew1) | exact HB.out)) hb); clear HB; have HO429 := n0_; have HB := n1_; clear n0_ n1_; (try clear hb); (try clear hb2); (try clear hk); (try clear hi); (try clear ho0); obtain ⟨Ao16, co16, eo16⟩ := Kd.R_slice HO429.out; subst eo16; have q15 : ((l1.length : Int) : Int) ≤ ((t427.length : Int) : Int) := of_decide_eq_true (by first | (with_reducible assumption) | assumption); obtain ⟨i015, hi015, _, hsz15, _⟩ := info_parts info42; have hroom15 : t427.length ≤ co16 := (Kd.R_reads' HO429.out).2.1; have hC15 : Kd.F (Kd.int .u64) _ _ Ao16 t427.length t427 := (Kd.V_at (base := w.heap.size) (Kd.R_V HO429.out)).2.2; have hcut15 := cut_to (P := Tryd.prog) 27 42 .i64 Tryd.underlying27 hi015 Ao16 t427.length co16 (l1.length : Int) (of_decide_eq_true (by first | (with_reducible assumption) | assumption)) q15 hroom15; have hr15 := Kd.F_take (m := ((l1.length : Int) : Int).toNat) hC15 (by omega); have hy15 : y430.length = ((l1.length : Int) : Int).toNat := (by rw [Ny430.out, List.length_take]; omega); rw [← Ny430.out] at hr15; rw [← hy15] at hcut15; have HO434 := Aside0.mk (show Kd.V (Kd.int .u64) 42 _ w.heap.size _ (.slice Ao16 y430.length co16) y430 from Kd.V_mk (by omega) hr15); have HC434 := Aside0.mk (show y430.length ≤ co16 from by omega); clear hr15 hC15 hroom15 hi015 hsz15; have KY15 := Aside0.mk hy15; clear hy15; replace q15 := eq_true q15) | ((with_reducible refine gate_callee (f := 65) rfl ?_); refine goesL_ (some 31) rfl rfl Tryd.func65 (by kernel_rfl) rfl #[.slice A0 l0.length c0, .int .i64 t426] rfl (by (try simp only [List.map_toArray, List.map_cons, List.map_nil]); first | done | rfl | (simp only [List.length_drop, List.length_take]; rfl)) ?_; (with_reducible refine (nat_lifted.calls k _ _ l0 t426 t435 _ ?side1 ?side2 A10.out).mono ?_); (case side1 => repeat (first | exact (Kd.C_below HR0.out HB.out) | (with_reducible refine Kd.C_alloc ?_ _) | (with_reducible refine Kd.C_drewN ?_ _) | (with_reducible refine Kd.C_drew ?_))); (case side2 => exact HC0.out); rintro e w17 ⟨v436, rfl, ho0, hb⟩; refine ⟨_, rfl, ?_⟩; have n0_ := Aside0.mk (Kd.R_elder' (by (with_reducible repeat (first | apply Kd.R_alloc | apply Kd.R_drewN | apply Kd.R_drew)); exact HO429.out) (Kd.R_base ho0) hb); have n1_ := Aside0.mk (Kd.V_elder' (by (with_reducible repeat (first | apply Kd.V_alloc | apply Kd.V_drewN | apply Kd.V_drew)); exact HO434.out) (Kd.R_base ho0) hb); have n2_ := Aside0.mk (Kd.R_lower (Kd.R_new' (Kd.R_newM (M := fun k_ => (w.heap.size ≤ k_)) ho0 (below_size (by repeat (first | (with_reducible first | exact HB.out | apply below_alloc | apply pw_below_drewN | apply below_drew1) | exact HB.out))) (fun k_ h_ => h_)) (Kd.R_lt (by (with_reducible repeat (first | apply Kd.R_alloc | apply Kd.R_drewN | apply Kd.R_drew)); exact HO429.out))) (below_size (by repeat (first | (with_reducible first | exact HB.out | apply below_alloc | apply pw_below_drewN | apply below_drew1) | exact HB.out)))); have n3_ := Aside0.mk (below_step (by repeat (first | (with_reducible first | exact HB.out | apply below_alloc | apply pw_below_drewN | apply below_drew1) | exact HB.out)) hb); clear HO429; clear HO434; clear HB; have HO429 := n0_; have HO434 := n1_; have HO437 := n2_; have HB := n3_; clear n0_ n1_ n2_ n3_; (try clear hb); (try clear hb2); (try clear hk); (try clear hi); (try clear ho0); obtain ⟨Ao18, co18, eo18⟩ := Kd.R_slice HO437.out; subst eo18) | ((with_reducible refine gate_dst (N := 36) rfl ?_); refine Kd.R_make (Kd.int .u64) _ 42 rfl (N := 36) rfl 27 _ _ rfl ji11 (by first | rfl | (simp only [List.length_drop, List.length_take]; rfl)) (by first | rfl | (simp only [List.length_drop, List.length_take]; rfl)) Tryd.underlying27 (.int .u64 0) 8 info42 rfl (by decide) (by omega) 0 (ok := fun _ => True) (okp := fun _ => True) rfl (fun _ hk => hk) trivial (of_decide_eq_true (by first | (with_reducible assumption) | assumption)) (Nat.le_trans (Nat.mul_le_mul_right _ (of_decide_eq_true (by first | (with_reducible assumption) | assumption) : ji11.toNat ≤ 35184372088832)) (by omega)) (Below.refl _ _) (Nat.le_refl _) ?_; intro v439 w19 ho20 hb hg_ hnew_; clear hg_ hnew_; (first | rw [← Ny438.out] at ho20 | (simp only [Int.reduceToNat] at ho20; rw [← Ny438.out] at ho20)); have n0_ := Aside0.mk (Kd.R_elder' (by (with_reducible repeat (first | apply Kd.R_alloc | apply Kd.R_drewN | apply Kd.R_drew)); exact HO429.out) (Kd.R_base ho20) hb); have n1_ := Aside0.mk (Kd.V_elder' (by (with_reducible repeat (first | apply Kd.V_alloc | apply Kd.V_drewN | apply Kd.V_drew)); exact HO434.out) (Kd.R_base ho20) hb); have n2_ := Aside0.mk (Kd.R_elder' (by (with_reducible repeat (first | apply Kd.R_alloc | apply Kd.R_drewN | apply Kd.R_drew)); exact HO437.out) (Kd.R_base ho20) hb); have n3_ := Aside0.mk (Kd.R_lower (Kd.R_new' (Kd.R_new' (Kd.R_newM (M := fun k_ => (w.heap.size ≤ k_)) ho20 (below_size (by repeat (first | (with_reducible first | exact HB.out | apply below_alloc | apply pw_below_drewN | apply below_drew1) | exact HB.out))) (fun k_ h_ => h_)) (Kd.R_lt (by (with_reducible repeat (first | apply Kd.R_alloc | apply Kd.R_drewN | apply Kd.R_drew)); exact HO429.out))) (Kd.R_lt (by (with_reducible repeat (first | apply Kd.R_alloc | apply Kd.R_drewN | apply Kd.R_drew)); exact HO437.out))) (below_size (by repeat (first | (with_reducible first | exact HB.out | apply below_alloc | apply pw_below_drewN | apply below_drew1) | exact HB.out)))); have n4_ := Aside0.mk (below_step (by repeat (first | (with_reducible first | exact HB.out | apply below_alloc | apply pw_below_drewN | apply below_drew1) | exact HB.out)) hb); clear HO429; clear HO434; clear HO437; clear HB; have HO429 := n0_; have HO434 := n1_; have HO437 := n2_; have HO440 := n3_; have HB := n4_; clear n0_ n1_ n2_ n3_ n4_; clear hb ho20; obtain ⟨Ao21, co21, eo21⟩ := Kd.R_slice HO440.out; subst eo21))
              go_loopg [11] k (fun kq v11 w' => ∃ (x8_1 : List Int) (x9_1 : List Int) (x10_1 : List Int) (x11_1 : Int), v11 = .int .i64 x11_1 ∧ Aside0 (nat_long.l0 kq t426 (l1.length : Int) x8_1 x9_1 x10_1 x11_1 = some (r1, r2)) ∧ Aside0 (kq ≤ k) ∧ Aside0 (Kd.V (Kd.int .u64) 42 w' w.heap.size (fun k_ => (w.heap.size ≤ k_) ∧ some k_ ≠ ((.slice Ao18 t435.length co18) : Value).ownBlock ∧ some k_ ≠ ((.slice Ao21 y438.length co21) : Value).ownBlock) (.slice Ao16 y430.length co16) x8_1) ∧ Aside0 (Kd.R (Kd.int .u64) 42 w' w.heap.size (fun k_ => (w.heap.size ≤ k_) ∧ some k_ ≠ ((.slice Ao21 y438.length co21) : Value).ownBlock) (.slice Ao18 t435.length co18) x9_1) ∧ Aside0 (Kd.R (Kd.int .u64) 42 w' w.heap.size (fun k_ => (w.heap.size ≤ k_) ∧ some k_ ≠ ((.slice Ao18 t435.length co18) : Value).ownBlock) (.slice Ao21 y438.length co21) x10_1) ∧ Aside0 (Below w.heap.size w w'))
              case atStart => exact ⟨(y430), (t435), (y438), (wrap64 ((y438.length : Int) - 1)), (by first | rfl | (simp; done) | (simp [*]; done)), H', ⟨Nat.le_refl _⟩, ⟨by (with_reducible repeat (first | apply Kd.V_alloc | apply Kd.V_drewN | apply Kd.V_drew)); exact Kd.V_mono HO434.out (fun _ hk => ⟨hk.1.1.1, ⟨hk.1.2, hk.2⟩⟩)⟩, ⟨by (with_reducible repeat (first | apply Kd.R_alloc | apply Kd.R_drewN | apply Kd.R_drew)); exact Kd.R_mono HO437.out (fun _ hk => ⟨hk.1.1.1, hk.2⟩)⟩, ⟨by (with_reducible repeat (first | apply Kd.R_alloc | apply Kd.R_drewN | apply Kd.R_drew)); exact Kd.R_mono HO440.out (fun _ hk => ⟨hk.1.1.1, hk.2⟩)⟩, ⟨by repeat (first | (with_reducible first | exact HB.out | apply below_alloc | apply pw_below_drewN | apply below_drew1) | exact HB.out)⟩⟩
              case round =>
                clear H'
                try clear c1
                try clear q1
                try clear p2
                try clear c4
                try clear c4b0
                try clear p4
                try clear q4
                try clear hx4
                try clear c5
                try clear c5b0
                try clear c6
                try clear p6
                try clear c7
                try clear c8
                try clear c8b0
                try clear c8b1
                try clear c9
                try clear c9b0
                try clear c9b1
                try clear c12
                try clear c12b0
                try clear c12b1
                try clear c13
                try clear c13b0
                try clear c13b1
                try clear q15
                try clear hx425_0
                try clear p425
                try clear q15
                try clear q425
                obtain ⟨x8_1, x9_1, x10_1, x11_1, rfl, HA, HK1, HO_8, HO_9, HO_10, HB⟩ := hrel
                have hl8_1 := (Kd.V_reads' HO_8.out).1
                rw [hl8_1] at HO_8
                (try simp only [hl8_1])
                (try simp only [hl8_1] at HO_9)
                (try simp only [hl8_1] at HO_10)
                have hl9_1 := (Kd.R_reads' HO_9.out).1
                rw [hl9_1] at HO_9
                (try simp only [hl9_1])
                (try simp only [hl9_1] at HO_8)
                (try simp only [hl9_1] at HO_10)
                have hl10_1 := (Kd.R_reads' HO_10.out).1
                rw [hl10_1] at HO_10
                (try simp only [hl10_1])
                (try simp only [hl10_1] at HO_8)
                (try simp only [hl10_1] at HO_9)
                cases gk with
                | zero => exact absurd HA.out (by simp [nat_long.l0])
                | succ k1 =>
                  have H := HA.out
                  clear HA
                  simp only [nat_long.l0] at H
                  by_cases c22 : x11_1 ≥ 0
                  · rw [if_pos c22] at H
                    have c22b0 : decide (0 ≤ x11_1) = true := decide_eq_true c22
                    clear c22
                    obtain ⟨ji23, hji23⟩ : ∃ j_ : Int, (wrap64 (x11_1 + (l1.length : Int))) = j_ := ⟨_, rfl⟩
                    replace H : (if 0 ≤ (ji23) then (if (ji23) < (x9_1.length : Int) then (if 0 ≤ (wrap64 ((ji23) - 1)) then (if (wrap64 ((ji23) - 1)) < (x9_1.length : Int) then (if 0 ≤ (wrap64 ((ji23) - 2)) then (if (wrap64 ((ji23) - 2)) < (x9_1.length : Int) then (if 0 ≤ (wrap64 ((l1.length : Int) - 1)) then (if (wrap64 ((l1.length : Int) - 1)) < (x8_1.length : Int) then (if 0 ≤ (wrap64 ((l1.length : Int) - 2)) then (if (wrap64 ((l1.length : Int) - 2)) < (x8_1.length : Int) then ((nat_estimate.f k1 (rd x9_1 (ji23)) (rd x9_1 (wrap64 ((ji23) - 1))) (rd x9_1 (wrap64 ((ji23) - 2))) (rd x8_1 (wrap64 ((l1.length : Int) - 1))) (rd x8_1 (wrap64 ((l1.length : Int) - 2)))).bind fun t446 => (if 0 ≤ x11_1 then (if x11_1 < (wrap64 ((ji23) + 1)) then (if (wrap64 ((ji23) + 1)) ≤ (x9_1.length : Int) then ((nat_lessW.f k1 x9_1 x11_1 (wrap64 ((ji23) + 1)) x8_1 t446).bind fun bt449 => (nat_long.l1 k1 t426 (l1.length : Int) x8_1 bt449.2 x10_1 x11_1 t446 bt449.1)) else (none)) else (none)) else (none))) else (none)) else (none)) else (none)) else (none)) else (none)) else (none)) else (none)) else (none)) else (none)) else (none)) = some (r1, r2) := by first | (rw [hji23] at H; exact H) | (simp only [hji23] at H ⊢; exact H)
                    have hji23w : (IntKind.i64.wrap (x11_1 + (l1.length : Int))) = ji23 := (i64_w _).trans hji23
                    by_cases c24 : 0 ≤ (ji23)
                    · rw [if_pos c24] at H
                      have c24b0 : decide (0 ≤ (ji23)) = true := decide_eq_true c24
                      clear c24
                      by_cases c25 : (ji23) < (x9_1.length : Int)
                      · rw [if_pos c25] at H
                        have c25b0 : decide ((ji23) < (x9_1.length : Int)) = true := decide_eq_true c25
                        (try simp only [hl8_1] at c25b0)
                        (try simp only [hl9_1] at c25b0)
                        (try simp only [hl10_1] at c25b0)
                        clear c25
                        obtain ⟨ji26, hji26⟩ : ∃ j_ : Int, (wrap64 ((ji23) - 1)) = j_ := ⟨_, rfl⟩
                        replace H : (if 0 ≤ (ji26) then (if (ji26) < (x9_1.length : Int) then (if 0 ≤ (wrap64 ((ji23) - 2)) then (if (wrap64 ((ji23) - 2)) < (x9_1.length : Int) then (if 0 ≤ (wrap64 ((l1.length : Int) - 1)) then (if (wrap64 ((l1.length : Int) - 1)) < (x8_1.length : Int) then (if 0 ≤ (wrap64 ((l1.length : Int) - 2)) then (if (wrap64 ((l1.length : Int) - 2)) < (x8_1.length : Int) then ((nat_estimate.f k1 (rd x9_1 (ji23)) (rd x9_1 (ji26)) (rd x9_1 (wrap64 ((ji23) - 2))) (rd x8_1 (wrap64 ((l1.length : Int) - 1))) (rd x8_1 (wrap64 ((l1.length : Int) - 2)))).bind fun t446 => (if 0 ≤ x11_1 then (if x11_1 < (wrap64 ((ji23) + 1)) then (if (wrap64 ((ji23) + 1)) ≤ (x9_1.length : Int) then ((nat_lessW.f k1 x9_1 x11_1 (wrap64 ((ji23) + 1)) x8_1 t446).bind fun bt449 => (nat_long.l1 k1 t426 (l1.length : Int) x8_1 bt449.2 x10_1 x11_1 t446 bt449.1)) else (none)) else (none)) else (none))) else (none)) else (none)) else (none)) else (none)) else (none)) else (none)) else (none)) else (none)) = some (r1, r2) := by first | (rw [hji26] at H; exact H) | (simp only [hji26] at H ⊢; exact H)
                        have hji26w : (IntKind.i64.wrap ((ji23) - 1)) = ji26 := (i64_w _).trans hji26
                        by_cases c27 : 0 ≤ (ji26)
                        · rw [if_pos c27] at H
                          have c27b0 : decide (0 ≤ (ji26)) = true := decide_eq_true c27
                          clear c27
                          by_cases c28 : (ji26) < (x9_1.length : Int)
                          · rw [if_pos c28] at H
                            have c28b0 : decide ((ji26) < (x9_1.length : Int)) = true := decide_eq_true c28
                            (try simp only [hl8_1] at c28b0)
                            (try simp only [hl9_1] at c28b0)
                            (try simp only [hl10_1] at c28b0)
                            clear c28
                            obtain ⟨ji29, hji29⟩ : ∃ j_ : Int, (wrap64 ((ji23) - 2)) = j_ := ⟨_, rfl⟩
                            replace H : (if 0 ≤ (ji29) then (if (ji29) < (x9_1.length : Int) then (if 0 ≤ (wrap64 ((l1.length : Int) - 1)) then (if (wrap64 ((l1.length : Int) - 1)) < (x8_1.length : Int) then (if 0 ≤ (wrap64 ((l1.length : Int) - 2)) then (if (wrap64 ((l1.length : Int) - 2)) < (x8_1.length : Int) then ((nat_estimate.f k1 (rd x9_1 (ji23)) (rd x9_1 (ji26)) (rd x9_1 (ji29)) (rd x8_1 (wrap64 ((l1.length : Int) - 1))) (rd x8_1 (wrap64 ((l1.length : Int) - 2)))).bind fun t446 => (if 0 ≤ x11_1 then (if x11_1 < (wrap64 ((ji23) + 1)) then (if (wrap64 ((ji23) + 1)) ≤ (x9_1.length : Int) then ((nat_lessW.f k1 x9_1 x11_1 (wrap64 ((ji23) + 1)) x8_1 t446).bind fun bt449 => (nat_long.l1 k1 t426 (l1.length : Int) x8_1 bt449.2 x10_1 x11_1 t446 bt449.1)) else (none)) else (none)) else (none))) else (none)) else (none)) else (none)) else (none)) else (none)) else (none)) = some (r1, r2) := by first | (rw [hji29] at H; exact H) | (simp only [hji29] at H ⊢; exact H)
                            have hji29w : (IntKind.i64.wrap ((ji23) - 2)) = ji29 := (i64_w _).trans hji29
                            by_cases c30 : 0 ≤ (ji29)
                            · rw [if_pos c30] at H
                              have c30b0 : decide (0 ≤ (ji29)) = true := decide_eq_true c30
                              clear c30
                              by_cases c31 : (ji29) < (x9_1.length : Int)
                              · rw [if_pos c31] at H
                                have c31b0 : decide ((ji29) < (x9_1.length : Int)) = true := decide_eq_true c31
                                (try simp only [hl8_1] at c31b0)
                                (try simp only [hl9_1] at c31b0)
                                (try simp only [hl10_1] at c31b0)
                                clear c31
                                obtain ⟨ji32, hji32⟩ : ∃ j_ : Int, (wrap64 ((l1.length : Int) - 1)) = j_ := ⟨_, rfl⟩
                                replace H : (if 0 ≤ (ji32) then (if (ji32) < (x8_1.length : Int) then (if 0 ≤ (wrap64 ((l1.length : Int) - 2)) then (if (wrap64 ((l1.length : Int) - 2)) < (x8_1.length : Int) then ((nat_estimate.f k1 (rd x9_1 (ji23)) (rd x9_1 (ji26)) (rd x9_1 (ji29)) (rd x8_1 (ji32)) (rd x8_1 (wrap64 ((l1.length : Int) - 2)))).bind fun t446 => (if 0 ≤ x11_1 then (if x11_1 < (wrap64 ((ji23) + 1)) then (if (wrap64 ((ji23) + 1)) ≤ (x9_1.length : Int) then ((nat_lessW.f k1 x9_1 x11_1 (wrap64 ((ji23) + 1)) x8_1 t446).bind fun bt449 => (nat_long.l1 k1 t426 (l1.length : Int) x8_1 bt449.2 x10_1 x11_1 t446 bt449.1)) else (none)) else (none)) else (none))) else (none)) else (none)) else (none)) else (none)) = some (r1, r2) := by first | (rw [hji32] at H; exact H) | (simp only [hji32] at H ⊢; exact H)
                                have hji32w : (IntKind.i64.wrap ((l1.length : Int) - 1)) = ji32 := (i64_w _).trans hji32
                                (try clear hji3)
                                (try clear hji3w)
                                by_cases c33 : 0 ≤ (ji32)
                                · rw [if_pos c33] at H
                                  have c33b0 : decide (0 ≤ (ji32)) = true := decide_eq_true c33
                                  clear c33
                                  by_cases c34 : (ji32) < (x8_1.length : Int)
                                  · rw [if_pos c34] at H
                                    have c34b0 : decide ((ji32) < (x8_1.length : Int)) = true := decide_eq_true c34
                                    (try simp only [hl8_1] at c34b0)
                                    (try simp only [hl9_1] at c34b0)
                                    (try simp only [hl10_1] at c34b0)
                                    clear c34
                                    obtain ⟨ji35, hji35⟩ : ∃ j_ : Int, (wrap64 ((l1.length : Int) - 2)) = j_ := ⟨_, rfl⟩
                                    replace H : (if 0 ≤ (ji35) then (if (ji35) < (x8_1.length : Int) then ((nat_estimate.f k1 (rd x9_1 (ji23)) (rd x9_1 (ji26)) (rd x9_1 (ji29)) (rd x8_1 (ji32)) (rd x8_1 (ji35))).bind fun t446 => (if 0 ≤ x11_1 then (if x11_1 < (wrap64 ((ji23) + 1)) then (if (wrap64 ((ji23) + 1)) ≤ (x9_1.length : Int) then ((nat_lessW.f k1 x9_1 x11_1 (wrap64 ((ji23) + 1)) x8_1 t446).bind fun bt449 => (nat_long.l1 k1 t426 (l1.length : Int) x8_1 bt449.2 x10_1 x11_1 t446 bt449.1)) else (none)) else (none)) else (none))) else (none)) else (none)) = some (r1, r2) := by first | (rw [hji35] at H; exact H) | (simp only [hji35] at H ⊢; exact H)
                                    have hji35w : (IntKind.i64.wrap ((l1.length : Int) - 2)) = ji35 := (i64_w _).trans hji35
                                    by_cases c36 : 0 ≤ (ji35)
                                    · rw [if_pos c36] at H
                                      have c36b0 : decide (0 ≤ (ji35)) = true := decide_eq_true c36
                                      clear c36
                                      by_cases c37 : (ji35) < (x8_1.length : Int)
                                      · rw [if_pos c37] at H
                                        have c37b0 : decide ((ji35) < (x8_1.length : Int)) = true := decide_eq_true c37
                                        (try simp only [hl8_1] at c37b0)
                                        (try simp only [hl9_1] at c37b0)
                                        (try simp only [hl10_1] at c37b0)
                                        clear c37
                                        replace H := Option.bind_eq_some_iff.mp H
                                        obtain ⟨t446, A380, H⟩ := H
                                        replace H : (if 0 ≤ x11_1 then (if x11_1 < (wrap64 ((ji23) + 1)) then (if (wrap64 ((ji23) + 1)) ≤ (x9_1.length : Int) then ((nat_lessW.f k1 x9_1 x11_1 (wrap64 ((ji23) + 1)) x8_1 t446).bind fun bt449 => (nat_long.l1 k1 t426 (l1.length : Int) x8_1 bt449.2 x10_1 x11_1 t446 bt449.1)) else (none)) else (none)) else (none)) = some (r1, r2) := H
                                        have A38 := Aside0.mk A380
                                        clear A380
                                        by_cases c39 : 0 ≤ x11_1
                                        · rw [if_pos c39] at H
                                          have c39b0 := eq_true c39
                                          have c39b1 : decide (0 ≤ x11_1) = true := decide_eq_true c39
                                          clear c39
                                          by_cases c40 : x11_1 < (wrap64 ((ji23) + 1))
                                          · rw [if_pos c40] at H
                                            have c40b0 := eq_true c40
                                            have c40b1 : decide (x11_1 < (wrap64 ((ji23) + 1))) = true := decide_eq_true c40
                                            by_cases c41 : (wrap64 ((ji23) + 1)) ≤ (x9_1.length : Int)
                                            · rw [if_pos c41] at H
                                              have c41b0 := eq_true c41
                                              have c41b1 : decide ((wrap64 ((ji23) + 1)) ≤ (x9_1.length : Int)) = true := decide_eq_true c41
                                              replace H := Option.bind_eq_some_iff.mp H
                                              obtain ⟨⟨t449, t450⟩, A420, H⟩ := H
                                              replace H : (nat_long.l1 k1 t426 (l1.length : Int) x8_1 t450 x10_1 x11_1 t446 t449) = some (r1, r2) := H
                                              have A42 := Aside0.mk A420
                                              clear A420
                                              have H' := Aside0.mk H
                                              clear H
                                              try go_wp2
                                              have n0_ := Aside0.mk (Kd.V_drew HO_8.out)
                                              have n1_ := Aside0.mk (Kd.R_drew HO_9.out)
                                              have n2_ := Aside0.mk (Kd.R_drew HO_10.out)
                                              have n3_ := Aside0.mk (below_drew1 HB.out)
                                              clear HO_8
                                              clear HO_9
                                              clear HO_10
                                              clear HB
                                              have HO_8 := n0_
                                              have HO_9 := n1_
                                              have HO_10 := n2_
                                              have HB := n3_
                                              clear n0_ n1_ n2_ n3_
                                              have p441 : 0 ≤ ((ji23) : Int) := of_decide_eq_true (by first | (with_reducible assumption) | assumption)
                                              have q441 : (ji23) < (x9_1.length : Int) := of_decide_eq_true (by first | (with_reducible assumption) | assumption)
                                              obtain ⟨ad441, e441, hx441_0⟩ := Kd.at_int (Kd.R_reads' HO_9.out).2.2 (ji23) p441 q441
                                              cases e441
                                              replace p441 := eq_true p441
                                              replace q441 := eq_true q441
                                              have p442 : 0 ≤ ((ji26) : Int) := of_decide_eq_true (by first | (with_reducible assumption) | assumption)
                                              have q442 : (ji26) < (x9_1.length : Int) := of_decide_eq_true (by first | (with_reducible assumption) | assumption)
                                              obtain ⟨ad442, e442, hx442_0⟩ := Kd.at_int (Kd.R_reads' HO_9.out).2.2 (ji26) p442 q442
                                              obtain rfl : ad441 = ad442 := (by injection e442)
                                              replace p442 := eq_true p442
                                              replace q442 := eq_true q442
                                              have p443 : 0 ≤ ((ji29) : Int) := of_decide_eq_true (by first | (with_reducible assumption) | assumption)
                                              have q443 : (ji29) < (x9_1.length : Int) := of_decide_eq_true (by first | (with_reducible assumption) | assumption)
                                              obtain ⟨ad443, e443, hx443_0⟩ := Kd.at_int (Kd.R_reads' HO_9.out).2.2 (ji29) p443 q443
                                              obtain rfl : ad441 = ad443 := (by injection e443)
                                              replace p443 := eq_true p443
                                              replace q443 := eq_true q443
                                              have p444 : 0 ≤ ((ji32) : Int) := of_decide_eq_true (by first | (with_reducible assumption) | assumption)
                                              have q444 : (ji32) < (x8_1.length : Int) := of_decide_eq_true (by first | (with_reducible assumption) | assumption)
                                              obtain ⟨ad444, e444, hx444_0⟩ := Kd.at_int (Kd.V_reads' HO_8.out).2.2 (ji32) p444 q444
                                              cases e444
                                              replace p444 := eq_true p444
                                              replace q444 := eq_true q444
                                              have p445 : 0 ≤ ((ji35) : Int) := of_decide_eq_true (by first | (with_reducible assumption) | assumption)
                                              have q445 : (ji35) < (x8_1.length : Int) := of_decide_eq_true (by first | (with_reducible assumption) | assumption)
                                              obtain ⟨ad445, e445, hx445_0⟩ := Kd.at_int (Kd.V_reads' HO_8.out).2.2 (ji35) p445 q445
                                              obtain rfl : ad444 = ad445 := (by injection e445)
                                              replace p445 := eq_true p445
                                              replace q445 := eq_true q445
                                              refine start_ (n := 32) (S := fun w' => w'.cell? (ad441.add ((ji23)).toNat) = some (.int .u64 (rd x9_1 (ji23))) ∧ w'.cell? (ad441.add ((ji26)).toNat) = some (.int .u64 (rd x9_1 (ji26))) ∧ w'.cell? (ad441.add ((ji29)).toNat) = some (.int .u64 (rd x9_1 (ji29))) ∧ w'.cell? (ad444.add ((ji32)).toNat) = some (.int .u64 (rd x8_1 (ji32))) ∧ w'.cell? (ad444.add ((ji35)).toNat) = some (.int .u64 (rd x8_1 (ji35)))) (ds := []) #[false, false, false, false, false, false, false, false, false, false, false, false, false, false, false, false, false, false, false, false, false, false, false, false, false, false, false, false, false, false, false, false] (by kernel_rfl) rfl rfl ⟨hx441_0, hx442_0, hx443_0, hx444_0, hx445_0⟩ (fun hHeld => ?_); refine with_tabW nat_long.tab9 nat_long.bits9 (fun HT_ HW_ => ?_)
                                              generalize wr.drew = w43 at HO_8 HO_9 HO_10 HB hx441_0 hx442_0 hx443_0 hx444_0 hx445_0 hHeld ⊢
                                              refine pure_ (i := 0) (N := some 44) (v := ?_) (a' := ?_) #[true, false, false, false, false, false, false, false, false, false, false, false, false, false, false, false, false, false, false, false, false, false, false, false, false, false, false, false, false, false, false, false] rfl rfl (any_of HT_.out (by kernel_rfl)) (fun _ _ _ h => h) (Or.inl ⟨by rfl, ?_⟩) ?_ ?_
                                              rotate_left
                                              · intro w'
                                                go_simp
                                                with_reducible rfl
                                              rotate_left
                                              · simp only [Act.put, List.setIfInBounds_toArray, List.set_cons_zero, List.set_cons_succ, i64_w, i32_w]
                                                rfl
                                              refine pure_ (i := 1) (N := some 45) (v := ?_) (a' := ?_) #[true, true, false, false, false, false, false, false, false, false, false, false, false, false, false, false, false, false, false, false, false, false, false, false, false, false, false, false, false, false, false, false] rfl rfl (any_of HT_.out (by kernel_rfl)) (fun _ _ _ h => h) (Or.inl ⟨by rfl, ?_⟩) ?_ ?_
                                              rotate_left
                                              · intro w'
                                                go_simp
                                                with_reducible rfl
                                              rotate_left
                                              · simp only [Act.put, List.setIfInBounds_toArray, List.set_cons_zero, List.set_cons_succ, i64_w, i32_w]
                                                rfl
                                              refine pure_ (i := 2) (N := some 46) (v := ?_) (a' := ?_) #[true, true, true, false, false, false, false, false, false, false, false, false, false, false, false, false, false, false, false, false, false, false, false, false, false, false, false, false, false, false, false, false] rfl rfl (any_of HT_.out (by kernel_rfl)) (fun _ _ _ h => h) (Or.inl ⟨by rfl, ?_⟩) ?_ ?_
                                              rotate_left
                                              · intro w'
                                                go_simp
                                                with_reducible rfl
                                              rotate_left
                                              · simp only [Act.put, List.setIfInBounds_toArray, List.set_cons_zero, List.set_cons_succ, i64_w, i32_w]
                                                rfl
                                              refine pure_ (i := 3) (N := some 47) (v := ?_) (a' := ?_) #[true, true, true, true, false, false, false, false, false, false, false, false, false, false, false, false, false, false, false, false, false, false, false, false, false, false, false, false, false, false, false, false] rfl rfl (any_of HT_.out (by kernel_rfl)) (fun _ _ _ h => h) (Or.inl ⟨by rfl, ?_⟩) ?_ ?_
                                              rotate_left
                                              · intro w'
                                                go_simp
                                                with_reducible rfl
                                              rotate_left
                                              · simp only [Act.put, List.setIfInBounds_toArray, List.set_cons_zero, List.set_cons_succ, i64_w, i32_w]
                                                rfl
                                              refine pure_ (i := 4) (N := some 48) (v := ?_) (a' := ?_) #[true, true, true, true, true, false, false, false, false, false, false, false, false, false, false, false, false, false, false, false, false, false, false, false, false, false, false, false, false, false, false, false] rfl rfl (any_of HT_.out (by kernel_rfl)) (fun _ _ _ h => h) (Or.inl ⟨by rfl, ?_⟩) ?_ ?_
                                              rotate_left
                                              · intro w'
                                                go_simp
                                                with_reducible rfl
                                              rotate_left
                                              · simp only [Act.put, List.setIfInBounds_toArray, List.set_cons_zero, List.set_cons_succ, i64_w, i32_w]
                                                rfl
                                              refine pure_ (i := 6) (N := some 50) (v := ?_) (a' := ?_) #[true, true, true, true, true, false, true, false, false, false, false, false, false, false, false, false, false, false, false, false, false, false, false, false, false, false, false, false, false, false, false, false] rfl rfl (any_of HT_.out (by kernel_rfl)) (fun _ _ _ h => h) (Or.inl ⟨by rfl, ?_⟩) ?_ ?_
                                              rotate_left
                                              · intro w'
                                                go_simp
                                                with_reducible rfl
                                              rotate_left
                                              · simp only [Act.put, List.setIfInBounds_toArray, List.set_cons_zero, List.set_cons_succ, i64_w, i32_w]
                                                rfl
                                              refine pure_ (i := 7) (N := some 51) (v := ?_) (a' := ?_) #[true, true, true, true, true, false, true, true, false, false, false, false, false, false, false, false, false, false, false, false, false, false, false, false, false, false, false, false, false, false, false, false] rfl rfl (any_of HT_.out (by kernel_rfl)) (fun _ _ _ h => h) (Or.inl ⟨by rfl, ?_⟩) ?_ ?_
                                              rotate_left
                                              · intro w'
                                                go_simp
                                                with_reducible rfl
                                              rotate_left
                                              · simp only [Act.put, List.setIfInBounds_toArray, List.set_cons_zero, List.set_cons_succ, i64_w, i32_w]
                                                rfl
                                              refine pure_ (i := 8) (N := some 52) (v := ?_) (a' := ?_) #[true, true, true, true, true, false, true, true, true, false, false, false, false, false, false, false, false, false, false, false, false, false, false, false, false, false, false, false, false, false, false, false] rfl rfl (any_of HT_.out (by kernel_rfl)) (fun _ _ _ h => h) (Or.inl ⟨by rfl, ?_⟩) ?_ ?_
                                              rotate_left
                                              · intro w'
                                                go_simp
                                                with_reducible rfl
                                              rotate_left
                                              · simp only [Act.put, List.setIfInBounds_toArray, List.set_cons_zero, List.set_cons_succ, i64_w, i32_w]
                                                rfl
                                              refine pure_ (i := 9) (N := some 53) (v := ?_) (a' := ?_) #[true, true, true, true, true, false, true, true, true, true, false, false, false, false, false, false, false, false, false, false, false, false, false, false, false, false, false, false, false, false, false, false] rfl rfl (any_of HT_.out (by kernel_rfl)) (fun _ _ _ h => h) (Or.inl ⟨by rfl, ?_⟩) ?_ ?_
                                              rotate_left
                                              · intro w'
                                                go_simp
                                                with_reducible rfl
                                              rotate_left
                                              · simp only [Act.put, List.setIfInBounds_toArray, List.set_cons_zero, List.set_cons_succ, i64_w, i32_w]
                                                rfl
                                              refine pure_ (i := 10) (N := some 54) (v := ?_) (a' := ?_) #[true, true, true, true, true, false, true, true, true, true, true, false, false, false, false, false, false, false, false, false, false, false, false, false, false, false, false, false, false, false, false, false] rfl rfl (any_of HT_.out (by kernel_rfl)) (fun _ _ _ h => h) (Or.inl ⟨by rfl, ?_⟩) ?_ ?_
                                              rotate_left
                                              · intro w'
                                                go_simp
                                                with_reducible rfl
                                              rotate_left
                                              · simp only [Act.put, List.setIfInBounds_toArray, List.set_cons_zero, List.set_cons_succ, i64_w, i32_w]
                                                rfl
                                              refine pure_ (i := 11) (N := some 55) (v := ?_) (a' := ?_) #[true, true, true, true, true, false, true, true, true, true, true, true, false, false, false, false, false, false, false, false, false, false, false, false, false, false, false, false, false, false, false, false] rfl rfl (any_of HT_.out (by kernel_rfl)) (fun _ _ _ h => h) (Or.inl ⟨by rfl, ?_⟩) ?_ ?_
                                              rotate_left
                                              · intro w'
                                                go_simp
                                                with_reducible rfl
                                              rotate_left
                                              · simp only [Act.put, List.setIfInBounds_toArray, List.set_cons_zero, List.set_cons_succ, i64_w, i32_w]
                                                rfl
                                              refine pure_ (i := 13) (N := some 57) (v := ?_) (a' := ?_) #[true, true, true, true, true, false, true, true, true, true, true, true, false, true, false, false, false, false, false, false, false, false, false, false, false, false, false, false, false, false, false, false] rfl rfl (any_of HT_.out (by kernel_rfl)) (fun _ _ _ h => h) (Or.inl ⟨by rfl, ?_⟩) ?_ ?_
                                              rotate_left
                                              · intro w'
                                                go_simp
                                                with_reducible rfl
                                              rotate_left
                                              · simp only [Act.put, List.setIfInBounds_toArray, List.set_cons_zero, List.set_cons_succ, i64_w, i32_w]
                                                rfl
                                              refine pure_ (i := 14) (N := some 58) (v := ?_) (a' := ?_) #[true, true, true, true, true, false, true, true, true, true, true, true, false, true, true, false, false, false, false, false, false, false, false, false, false, false, false, false, false, false, false, false] rfl rfl (any_of HT_.out (by kernel_rfl)) (fun _ _ _ h => h) (Or.inl ⟨by rfl, ?_⟩) ?_ ?_
                                              rotate_left
                                              · intro w'
                                                go_simp
                                                with_reducible rfl
                                              rotate_left
                                              · simp only [Act.put, List.setIfInBounds_toArray, List.set_cons_zero, List.set_cons_succ, i64_w, i32_w]
                                                rfl
                                              refine pure_ (i := 15) (N := some 59) (v := ?_) (a' := ?_) #[true, true, true, true, true, false, true, true, true, true, true, true, false, true, true, true, false, false, false, false, false, false, false, false, false, false, false, false, false, false, false, false] rfl rfl (any_of HT_.out (by kernel_rfl)) (fun _ _ _ h => h) (Or.inl ⟨by rfl, ?_⟩) ?_ ?_
                                              rotate_left
                                              · intro w'
                                                go_simp
                                                with_reducible rfl
                                              rotate_left
                                              · simp only [Act.put, List.setIfInBounds_toArray, List.set_cons_zero, List.set_cons_succ, i64_w, i32_w]
                                                rfl
                                              refine pure_ (i := 16) (N := some 60) (v := ?_) (a' := ?_) #[true, true, true, true, true, false, true, true, true, true, true, true, false, true, true, true, true, false, false, false, false, false, false, false, false, false, false, false, false, false, false, false] rfl rfl (any_of HT_.out (by kernel_rfl)) (fun _ _ _ h => h) (Or.inl ⟨by rfl, ?_⟩) ?_ ?_
                                              rotate_left
                                              · intro w'
                                                go_simp
                                                with_reducible rfl
                                              rotate_left
                                              · simp only [Act.put, List.setIfInBounds_toArray, List.set_cons_zero, List.set_cons_succ, i64_w, i32_w]
                                                rfl
                                              refine pure_ (i := 17) (N := some 61) (v := ?_) (a' := ?_) #[true, true, true, true, true, false, true, true, true, true, true, true, false, true, true, true, true, true, false, false, false, false, false, false, false, false, false, false, false, false, false, false] rfl rfl (any_of HT_.out (by kernel_rfl)) (fun _ _ _ h => h) (Or.inl ⟨by rfl, ?_⟩) ?_ ?_
                                              rotate_left
                                              · intro w'
                                                go_simp
                                                with_reducible rfl
                                              rotate_left
                                              · simp only [Act.put, List.setIfInBounds_toArray, List.set_cons_zero, List.set_cons_succ, i64_w, i32_w]
                                                rfl
                                              refine pure_ (i := 18) (N := some 62) (v := ?_) (a' := ?_) #[true, true, true, true, true, false, true, true, true, true, true, true, false, true, true, true, true, true, true, false, false, false, false, false, false, false, false, false, false, false, false, false] rfl rfl (any_of HT_.out (by kernel_rfl)) (fun _ _ _ h => h) (Or.inl ⟨by rfl, ?_⟩) ?_ ?_
                                              rotate_left
                                              · intro w'
                                                go_simp
                                                with_reducible rfl
                                              rotate_left
                                              · simp only [Act.put, List.setIfInBounds_toArray, List.set_cons_zero, List.set_cons_succ, i64_w, i32_w]
                                                rfl
                                              refine pure_ (i := 20) (N := some 64) (v := ?_) (a' := ?_) #[true, true, true, true, true, false, true, true, true, true, true, true, false, true, true, true, true, true, true, false, true, false, false, false, false, false, false, false, false, false, false, false] rfl rfl (any_of HT_.out (by kernel_rfl)) (fun _ _ _ h => h) (Or.inl ⟨by rfl, ?_⟩) ?_ ?_
                                              rotate_left
                                              · intro w'
                                                go_simp
                                                with_reducible rfl
                                              rotate_left
                                              · simp only [Act.put, List.setIfInBounds_toArray, List.set_cons_zero, List.set_cons_succ, i64_w, i32_w]
                                                rfl
                                              refine pure_ (i := 21) (N := some 65) (v := ?_) (a' := ?_) #[true, true, true, true, true, false, true, true, true, true, true, true, false, true, true, true, true, true, true, false, true, true, false, false, false, false, false, false, false, false, false, false] rfl rfl (any_of HT_.out (by kernel_rfl)) (fun _ _ _ h => h) (Or.inl ⟨by rfl, ?_⟩) ?_ ?_
                                              rotate_left
                                              · intro w'
                                                go_simp
                                                with_reducible rfl
                                              rotate_left
                                              · simp only [Act.put, List.setIfInBounds_toArray, List.set_cons_zero, List.set_cons_succ, i64_w, i32_w]
                                                rfl
                                              refine pure_ (i := 22) (N := some 66) (v := ?_) (a' := ?_) #[true, true, true, true, true, false, true, true, true, true, true, true, false, true, true, true, true, true, true, false, true, true, true, false, false, false, false, false, false, false, false, false] rfl rfl (any_of HT_.out (by kernel_rfl)) (fun _ _ _ h => h) (Or.inl ⟨by rfl, ?_⟩) ?_ ?_
                                              rotate_left
                                              · intro w'
                                                go_simp
                                                with_reducible rfl
                                              rotate_left
                                              · simp only [Act.put, List.setIfInBounds_toArray, List.set_cons_zero, List.set_cons_succ, i64_w, i32_w]
                                                rfl
                                              refine pure_ (i := 23) (N := some 67) (v := ?_) (a' := ?_) #[true, true, true, true, true, false, true, true, true, true, true, true, false, true, true, true, true, true, true, false, true, true, true, true, false, false, false, false, false, false, false, false] rfl rfl (any_of HT_.out (by kernel_rfl)) (fun _ _ _ h => h) (Or.inl ⟨by rfl, ?_⟩) ?_ ?_
                                              rotate_left
                                              · intro w'
                                                go_simp
                                                with_reducible rfl
                                              rotate_left
                                              · simp only [Act.put, List.setIfInBounds_toArray, List.set_cons_zero, List.set_cons_succ, i64_w, i32_w]
                                                rfl
                                              refine pure_ (i := 25) (N := some 69) (v := ?_) (a' := ?_) #[true, true, true, true, true, false, true, true, true, true, true, true, false, true, true, true, true, true, true, false, true, true, true, true, false, true, false, false, false, false, false, false] rfl rfl (any_of HT_.out (by kernel_rfl)) (fun _ _ _ h => h) (Or.inl ⟨by rfl, ?_⟩) ?_ ?_
                                              rotate_left
                                              · intro w'
                                                go_simp
                                                with_reducible rfl
                                              rotate_left
                                              · simp only [Act.put, List.setIfInBounds_toArray, List.set_cons_zero, List.set_cons_succ, i64_w, i32_w]
                                                rfl
                                              refine pure_ (i := 26) (N := some 70) (v := ?_) (a' := ?_) #[true, true, true, true, true, false, true, true, true, true, true, true, false, true, true, true, true, true, true, false, true, true, true, true, false, true, true, false, false, false, false, false] rfl rfl (any_of HT_.out (by kernel_rfl)) (fun _ _ _ h => h) (Or.inl ⟨by rfl, ?_⟩) ?_ ?_
                                              rotate_left
                                              · intro w'
                                                go_simp
                                                with_reducible rfl
                                              rotate_left
                                              · simp only [Act.put, List.setIfInBounds_toArray, List.set_cons_zero, List.set_cons_succ, i64_w, i32_w]
                                                rfl
                                              refine pure_ (i := 27) (N := some 71) (v := ?_) (a' := ?_) #[true, true, true, true, true, false, true, true, true, true, true, true, false, true, true, true, true, true, true, false, true, true, true, true, false, true, true, true, false, false, false, false] rfl rfl (any_of HT_.out (by kernel_rfl)) (fun _ _ _ h => h) (Or.inl ⟨by rfl, ?_⟩) ?_ ?_
                                              rotate_left
                                              · intro w'
                                                go_simp
                                                with_reducible rfl
                                              rotate_left
                                              · simp only [Act.put, List.setIfInBounds_toArray, List.set_cons_zero, List.set_cons_succ, i64_w, i32_w]
                                                rfl
                                              refine pure_ (i := 28) (N := some 72) (v := ?_) (a' := ?_) #[true, true, true, true, true, false, true, true, true, true, true, true, false, true, true, true, true, true, true, false, true, true, true, true, false, true, true, true, true, false, false, false] rfl rfl (any_of HT_.out (by kernel_rfl)) (fun _ _ _ h => h) (Or.inl ⟨by rfl, ?_⟩) ?_ ?_
                                              rotate_left
                                              · intro w'
                                                go_simp
                                                with_reducible rfl
                                              rotate_left
                                              · simp only [Act.put, List.setIfInBounds_toArray, List.set_cons_zero, List.set_cons_succ, i64_w, i32_w]
                                                rfl
                                              refine take_ (i := 5) (N := some 49) (v := ?_) (a' := ?_) #[true, true, true, true, true, true, true, true, true, true, true, true, false, true, true, true, true, true, true, false, true, true, true, true, false, true, true, true, true, false, false, false] rfl rfl (take_ofW HT_.out HW_.out (by kernel_rfl)) (fun _ _ _ h => h) (Or.inl ⟨by rfl, ?_⟩) hHeld ?_ ?_
                                              rotate_left
                                              · rintro w' ⟨s0, s1, s2, s3, s4⟩
                                                go_simp
                                                with_reducible rfl
                                              rotate_left
                                              · simp only [Act.put, List.setIfInBounds_toArray, List.set_cons_zero, List.set_cons_succ, i64_w, i32_w]
                                                rfl
                                              refine take_ (i := 12) (N := some 56) (v := ?_) (a' := ?_) #[true, true, true, true, true, true, true, true, true, true, true, true, true, true, true, true, true, true, true, false, true, true, true, true, false, true, true, true, true, false, false, false] rfl rfl (take_ofW HT_.out HW_.out (by kernel_rfl)) (fun _ _ _ h => h) (Or.inl ⟨by rfl, ?_⟩) hHeld ?_ ?_
                                              rotate_left
                                              · rintro w' ⟨s0, s1, s2, s3, s4⟩
                                                go_simp
                                                with_reducible rfl
                                              rotate_left
                                              · simp only [Act.put, List.setIfInBounds_toArray, List.set_cons_zero, List.set_cons_succ, i64_w, i32_w]
                                                rfl
                                              refine take_ (i := 19) (N := some 63) (v := ?_) (a' := ?_) #[true, true, true, true, true, true, true, true, true, true, true, true, true, true, true, true, true, true, true, true, true, true, true, true, false, true, true, true, true, false, false, false] rfl rfl (take_ofW HT_.out HW_.out (by kernel_rfl)) (fun _ _ _ h => h) (Or.inl ⟨by rfl, ?_⟩) hHeld ?_ ?_
                                              rotate_left
                                              · rintro w' ⟨s0, s1, s2, s3, s4⟩
                                                go_simp
                                                with_reducible rfl
                                              rotate_left
                                              · simp only [Act.put, List.setIfInBounds_toArray, List.set_cons_zero, List.set_cons_succ, i64_w, i32_w]
                                                rfl
                                              refine take_ (i := 24) (N := some 68) (v := ?_) (a' := ?_) #[true, true, true, true, true, true, true, true, true, true, true, true, true, true, true, true, true, true, true, true, true, true, true, true, true, true, true, true, true, false, false, false] rfl rfl (take_ofW HT_.out HW_.out (by kernel_rfl)) (fun _ _ _ h => h) (Or.inl ⟨by rfl, ?_⟩) hHeld ?_ ?_
                                              rotate_left
                                              · rintro w' ⟨s0, s1, s2, s3, s4⟩
                                                go_simp
                                                with_reducible rfl
                                              rotate_left
                                              · simp only [Act.put, List.setIfInBounds_toArray, List.set_cons_zero, List.set_cons_succ, i64_w, i32_w]
                                                rfl
                                              refine take_ (i := 29) (N := some 73) (v := ?_) (a' := ?_) #[true, true, true, true, true, true, true, true, true, true, true, true, true, true, true, true, true, true, true, true, true, true, true, true, true, true, true, true, true, true, false, false] rfl rfl (take_ofW HT_.out HW_.out (by kernel_rfl)) (fun _ _ _ h => h) (Or.inl ⟨by rfl, ?_⟩) hHeld ?_ ?_
                                              rotate_left
                                              · rintro w' ⟨s0, s1, s2, s3, s4⟩
                                                go_simp
                                                with_reducible rfl
                                              rotate_left
                                              · simp only [Act.put, List.setIfInBounds_toArray, List.set_cons_zero, List.set_cons_succ, i64_w, i32_w]
                                                rfl
                                              refine one_ (i := 30) (N := some 74) #[true, true, true, true, true, true, true, true, true, true, true, true, true, true, true, true, true, true, true, true, true, true, true, true, true, true, true, true, true, true, true, false] rfl rfl (one_of HT_.out (by kernel_rfl)) (by decide) (fun K hK => ?_)
                                              refine goes_ Tryd.func80 (by kernel_rfl) rfl #[.int .u64 (rd x9_1 (ji23)), .int .u64 (rd x9_1 (ji26)), .int .u64 (rd x9_1 (ji29)), .int .u64 (rd x8_1 (ji32)), .int .u64 (rd x8_1 (ji35))] (by rfl) rfl rfl (by (try simp only [List.map_toArray, List.map_cons, List.map_nil]); first | done | (simp only [hji23, hji26, hji29, hji32, hji35]; rfl) | rfl | (simp only [List.length_drop, List.length_take]; rfl)) ?_
                                              with_reducible refine (nat_estimate.calls k1 (rd x9_1 (ji23)) (rd x9_1 (ji26)) (rd x9_1 (ji29)) (rd x8_1 (ji32)) (rd x8_1 (ji35)) t446 _ A38.out).mono ?_
                                              rintro e w' ⟨rfl, ⟨nd, rfl⟩⟩
                                              refine ⟨_, rfl, ?_⟩
                                              refine hK.out _ _ ⟨hHeld.1, hHeld.2.1, hHeld.2.2.1, hHeld.2.2.2.1, hHeld.2.2.2.2⟩ (fun hHeld => ?_)
                                              clear hK K
                                              refine norm_ (a' := ?_) ?_ ?_
                                              rotate_left
                                              · show Act.put _ (some 74) _ = _
                                                simp only [Act.put, List.setIfInBounds_toArray, List.set_cons_zero, List.set_cons_succ, i64_w, i32_w]
                                                rfl
                                              refine pure_ (i := 31) (N := some 12) (v := ?_) (a' := ?_) #[true, true, true, true, true, true, true, true, true, true, true, true, true, true, true, true, true, true, true, true, true, true, true, true, true, true, true, true, true, true, true, true] rfl rfl (any_of HT_.out (by kernel_rfl)) (fun _ _ _ h => h) (Or.inl ⟨by rfl, ?_⟩) ?_ ?_
                                              rotate_left
                                              · intro w'
                                                go_simp
                                                with_reducible rfl
                                              rotate_left
                                              · simp only [Act.put, List.setIfInBounds_toArray, List.set_cons_zero, List.set_cons_succ, i64_w, i32_w]
                                                rfl
                                              refine done_ (done_of HT_.out (by kernel_rfl)) ?_
                                              (try (rw [drewN_self w43]; generalize hq_ : World.drewN w43 _ = w43; have n0_ : Aside0 (Kd.R (Kd.int .u64) 42 w43 w.heap.size (fun k_ => (w.heap.size ≤ k_) ∧ some k_ ≠ (.slice (some ad441) x9_1.length co18 : Value).ownBlock) (.slice Ao21 x10_1.length co21) x10_1) := ⟨by rw [← hq_]; exact (by (with_reducible repeat (first | apply Kd.R_alloc | apply Kd.R_drewN | apply Kd.R_drew)); exact HO_10.out)⟩; have n1_ : Aside0 (Kd.V (Kd.int .u64) 42 w43 w.heap.size (fun k_ => (w.heap.size ≤ k_) ∧ some k_ ≠ (.slice Ao21 x10_1.length co21 : Value).ownBlock ∧ some k_ ≠ (.slice (some ad441) x9_1.length co18 : Value).ownBlock) (.slice (some ad444) x8_1.length co16) x8_1) := ⟨by rw [← hq_]; exact (by (with_reducible repeat (first | apply Kd.V_alloc | apply Kd.V_drewN | apply Kd.V_drew)); exact Kd.V_mono HO_8.out (fun _ hk => ⟨hk.1, ⟨hk.2.2, hk.2.1⟩⟩))⟩; have n2_ : Aside0 (Kd.R (Kd.int .u64) 42 w43 w.heap.size (fun k_ => (w.heap.size ≤ k_) ∧ some k_ ≠ (.slice Ao21 x10_1.length co21 : Value).ownBlock) (.slice (some ad441) x9_1.length co18) x9_1) := ⟨by rw [← hq_]; exact (by (with_reducible repeat (first | apply Kd.R_alloc | apply Kd.R_drewN | apply Kd.R_drew)); exact HO_9.out)⟩; have n3_ : Aside0 (Below w.heap.size w w43) := ⟨by rw [← hq_]; exact (by repeat (first | (with_reducible first | exact HB.out | apply below_alloc | apply pw_below_drewN | apply below_drew1) | exact HB.out))⟩; clear HO_10 HO_8 HO_9 HB hq_; have HO_10 := n0_; have HO_8 := n1_; have HO_9 := n2_; have HB := n3_; clear n0_ n1_ n2_ n3_))
                                              have q044 : (0 : Int) ≤ (x11_1 : Int) := of_decide_eq_true (by first | (with_reducible assumption) | assumption)
                                              have ql44 : (x11_1 : Int) < ((wrap64 ((ji23) + 1)) : Int) := of_decide_eq_true (by first | (with_reducible assumption) | assumption)
                                              have q44 : ((wrap64 ((ji23) + 1)) : Int) ≤ ((x9_1.length : Int) : Int) := of_decide_eq_true (by first | (with_reducible assumption) | assumption)
                                              obtain ⟨go44, co44, eo44, gb44, gl44, cl44, HG44⟩ := Kd.R_form HO_9.out (by omega)
                                              (first | cases eo44 | (injection eo44 with ea_ en_ ec_; (first | subst ea_ | (injection ea_ with ea_; subst ea_)); subst ec_; clear en_))
                                              have GB44 := Aside0.mk gb44
                                              have GG44 := Aside0.mk HG44
                                              clear gb44 gl44 HG44
                                              (first | simp only [add_plain] at hx441_0 | skip)
                                              (first | simp only [add_plain] at hx442_0 | skip)
                                              (first | simp only [add_plain] at hx443_0 | skip)
                                              obtain ⟨i044, hi044, _, hsz44, _⟩ := info_parts info42
                                              have hroom44 := (Kd.R_reads' HO_9.out).2.1
                                              have hlx44 := (Kd.R_reads' HO_9.out).1
                                              have hcut44 := cut_win (P := Tryd.prog) 27 42 .i64 .i64 Tryd.underlying27 hi044 hsz44 go44 x9_1.length co18 x11_1 (wrap64 ((ji23) + 1)) q044 ql44 (by omega) hroom44
                                              clear hi044 hsz44 hroom44 hlx44
                                              replace q044 := eq_true q044
                                              replace ql44 := eq_true ql44
                                              replace q44 := eq_true q44
                                              try go_wp2_with (first | ((with_reducible refine gate_callee (f := 81) rfl ?_); refine goesL_ (some 84) rfl rfl Tryd.func81 (by kernel_rfl) rfl #[.slice (some ⟨go44, (x11_1 : Int).toNat, none⟩) (((wrap64 ((ji23) + 1)) : Int).toNat - (x11_1 : Int).toNat) (co18 - (x11_1 : Int).toNat), .slice (some ad444) x8_1.length co16, .int .u64 t446] rfl (by (try simp only [List.map_toArray, List.map_cons, List.map_nil]); first | done | (simp only [hji23]; rfl) | rfl | (simp only [List.length_drop, List.length_take]; rfl)) ?_; (with_reducible refine (nat_lessW.calls k1 (fun k_ => some k_ = (.slice (some ⟨go44, 0, none⟩) x9_1.length co18 : Value).ownBlock) (.slice (some ⟨go44, 0, none⟩) x9_1.length co18) x9_1 x11_1 (wrap64 ((ji23) + 1)) _ _ x8_1 t446 t449 t450 w _ ?side1 ?side2 ?side3 ?side4 A42.out).mono ?_); (case side1 => repeat (first | (with_reducible first | exact HB.out | apply below_alloc | apply pw_below_drewN | apply below_drew1) | exact HB.out)); (case side2 => exact Kd.R_tight rfl HO_9.out); (case side3 => exact Kd.C_kept_ownV (HO_8.out) (fun k_ hk_ hs_ => (hk_.2.2) hs_)); (case side4 => exact (Kd.V_reads' HO_8.out).2.1); rintro e w45 ⟨rfl, hy0, hb, hkp⟩; refine ⟨_, rfl, ?_⟩; have n0_ := Aside0.mk (Kd.V_mono (ok' := fun k_ => (w.heap.size ≤ k_) ∧ some k_ ≠ (.slice (some ⟨go44, 0, none⟩) x9_1.length co18 : Value).ownBlock ∧ some k_ ≠ (.slice Ao21 x10_1.length co21 : Value).ownBlock) (Kd.V_keptB (HO_8.out) hkp (fun k_ hk_ hs_ => (hk_.2.2) hs_)) (fun k_ hk_ => ⟨hk_.1.1, hk_.1.2.2, hk_.1.2.1⟩)); have n1_ := Aside0.mk (Kd.R_reok rfl hy0 (fun k_ e_ => HO_9.out.1 k_ e_)); have n2_ := Aside0.mk (Kd.R_mono (ok' := fun k_ => (w.heap.size ≤ k_) ∧ some k_ ≠ (.slice (some ⟨go44, 0, none⟩) x9_1.length co18 : Value).ownBlock) (Kd.R_keptB (HO_10.out) hkp (fun k_ hk_ hs_ => (hk_.2) hs_)) (fun k_ hk_ => ⟨hk_.1.1, hk_.1.2⟩)); have n3_ := Aside0.mk (hb); clear HO_8; clear HO_9; clear HO_10; clear HB; have HO_8 := n0_; have HO_9 := n1_; have HO_10 := n2_; have HB := n3_; clear n0_ n1_ n2_ n3_; (try clear hb); (try clear hkp); (try clear hy0)))
                                              go_loopg [12, 13] k1 (fun kq v12 v13 w' => ∃ (x8_2 : List Int) (x9_2 : List Int) (x10_2 : List Int) (x12_2 : Int) (x13_2 : Bool), v12 = .int .u64 x12_2 ∧ v13 = .bool x13_2 ∧ Aside0 (nat_long.l1 kq t426 (l1.length : Int) x8_2 x9_2 x10_2 x11_1 x12_2 x13_2 = some (r1, r2)) ∧ Aside0 (kq ≤ k1) ∧ Aside0 (Kd.V (Kd.int .u64) 42 w' w.heap.size (fun k_ => (w.heap.size ≤ k_) ∧ some k_ ≠ ((.slice (some ⟨go44, 0, none⟩) x9_1.length co18) : Value).ownBlock ∧ some k_ ≠ ((.slice Ao21 x10_1.length co21) : Value).ownBlock) (.slice (some ad444) x8_1.length co16) x8_2) ∧ Aside0 (Kd.R (Kd.int .u64) 42 w' w.heap.size (fun k_ => (w.heap.size ≤ k_) ∧ some k_ ≠ ((.slice Ao21 x10_1.length co21) : Value).ownBlock) (.slice (some ⟨go44, 0, none⟩) x9_1.length co18) x9_2) ∧ Aside0 (Kd.R (Kd.int .u64) 42 w' w.heap.size (fun k_ => (w.heap.size ≤ k_) ∧ some k_ ≠ ((.slice (some ⟨go44, 0, none⟩) x9_1.length co18) : Value).ownBlock) (.slice Ao21 x10_1.length co21) x10_2) ∧ Aside0 (Below w.heap.size w w'))
                                              case atStart => exact ⟨(x8_1), (t450), (x10_1), (t446), (t449), (by first | rfl | (simp; done) | (simp [*]; done)), (by first | rfl | (simp; done) | (simp [*]; done)), H', ⟨Nat.le_refl _⟩, ⟨by (try simp only [hl8_1]); (try simp only [hl9_1]); (try simp only [hl10_1]); (with_reducible repeat (first | apply Kd.V_alloc | apply Kd.V_drewN | apply Kd.V_drew)); exact HO_8.out⟩, ⟨by (try simp only [hl8_1]); (try simp only [hl9_1]); (try simp only [hl10_1]); (with_reducible repeat (first | apply Kd.R_alloc | apply Kd.R_drewN | apply Kd.R_drew)); exact HO_9.out⟩, ⟨by (try simp only [hl8_1]); (try simp only [hl9_1]); (try simp only [hl10_1]); (with_reducible repeat (first | apply Kd.R_alloc | apply Kd.R_drewN | apply Kd.R_drew)); exact HO_10.out⟩, ⟨by repeat (first | (with_reducible first | exact HB.out | apply below_alloc | apply pw_below_drewN | apply below_drew1) | exact HB.out)⟩⟩
                                              case round =>
                                                clear H'
                                                try clear c1
                                                try clear q1
                                                try clear c2
                                                try clear p2
                                                try clear c3
                                                try clear c4
                                                try clear c4b0
                                                try clear p4
                                                try clear q4
                                                try clear hx4
                                                try clear c5
                                                try clear c5b0
                                                try clear c6
                                                try clear p6
                                                try clear c7
                                                try clear c8
                                                try clear c8b0
                                                try clear c8b1
                                                try clear c9
                                                try clear c9b0
                                                try clear c9b1
                                                try clear c12
                                                try clear c12b0
                                                try clear c12b1
                                                try clear c13
                                                try clear c13b0
                                                try clear c13b1
                                                try clear q15
                                                try clear c22
                                                try clear c22b0
                                                try clear c24
                                                try clear c24b0
                                                try clear c25
                                                try clear c25b0
                                                try clear c27
                                                try clear c27b0
                                                try clear c28
                                                try clear c28b0
                                                try clear c30
                                                try clear c30b0
                                                try clear c31
                                                try clear c31b0
                                                try clear c33
                                                try clear c33b0
                                                try clear c34
                                                try clear c34b0
                                                try clear c36
                                                try clear c36b0
                                                try clear c37
                                                try clear c37b0
                                                try clear c39
                                                try clear c39b0
                                                try clear c39b1
                                                try clear c40
                                                try clear c40b0
                                                try clear c40b1
                                                try clear c41
                                                try clear c41b0
                                                try clear c41b1
                                                try clear p42
                                                try clear q42
                                                try clear hx42
                                                try clear p44
                                                try clear q44
                                                try clear hx44
                                                try clear hx425_0
                                                try clear hx441_0
                                                try clear hx442_0
                                                try clear hx443_0
                                                try clear hx444_0
                                                try clear hx445_0
                                                try clear p2
                                                try clear p4
                                                try clear p425
                                                try clear p441
                                                try clear p442
                                                try clear p443
                                                try clear p444
                                                try clear p445
                                                try clear p6
                                                try clear q044
                                                try clear q1
                                                try clear q15
                                                try clear q4
                                                try clear q425
                                                try clear q44
                                                try clear q441
                                                try clear q442
                                                try clear q443
                                                try clear q444
                                                try clear q445
                                                obtain ⟨x8_2, x9_2, x10_2, x12_2, x13_2, rfl, rfl, HA, HK2, HO_8, HO_9, HO_10, HB⟩ := hrel
                                                have hl8_2 := (Kd.V_reads' HO_8.out).1
                                                rw [hl8_2] at HO_8
                                                (try simp only [hl8_2])
                                                (try simp only [hl8_2] at HO_9)
                                                (try simp only [hl8_2] at HO_10)
                                                have hl9_2 := (Kd.R_reads' HO_9.out).1
                                                rw [hl9_2] at HO_9
                                                (try simp only [hl9_2])
                                                (try simp only [hl9_2] at HO_8)
                                                (try simp only [hl9_2] at HO_10)
                                                have hl10_2 := (Kd.R_reads' HO_10.out).1
                                                rw [hl10_2] at HO_10
                                                (try simp only [hl10_2])
                                                (try simp only [hl10_2] at HO_8)
                                                (try simp only [hl10_2] at HO_9)
                                                cases gk with
                                                | zero => exact absurd HA.out (by simp [nat_long.l1])
                                                | succ k2 =>
                                                  have H := HA.out
                                                  clear HA
                                                  simp only [nat_long.l1] at H
                                                  by_cases c46 : x13_2 = true
                                                  · subst c46
                                                    have H1 : (if 0 ≤ x11_1 then (if x11_1 < (wrap64 ((wrap64 (x11_1 + (l1.length : Int))) + 1)) then (if (wrap64 ((wrap64 (x11_1 + (l1.length : Int))) + 1)) ≤ (x9_2.length : Int) then ((nat_backW.f k2 x9_2 x11_1 (wrap64 ((wrap64 (x11_1 + (l1.length : Int))) + 1)) x8_2).bind fun bt453 => (nat_long.l1 k2 t426 (l1.length : Int) x8_2 bt453.2 x10_2 x11_1 (IntKind.u64.wrap (x12_2 - 1)) (!bt453.1))) else (none)) else (none)) else (none)) = some (r1, r2) := by rw [if_pos rfl] at H; exact H
                                                    clear H
                                                    have H := H1
                                                    clear H1
                                                    by_cases c47 : 0 ≤ x11_1
                                                    · rw [if_pos c47] at H
                                                      have c47b0 := eq_true c47
                                                      have c47b1 : decide (0 ≤ x11_1) = true := decide_eq_true c47
                                                      clear c47
                                                      by_cases c48 : x11_1 < (wrap64 ((wrap64 (x11_1 + (l1.length : Int))) + 1))
                                                      · rw [if_pos c48] at H
                                                        have c48b0 := eq_true c48
                                                        have c48b1 : decide (x11_1 < (wrap64 ((wrap64 (x11_1 + (l1.length : Int))) + 1))) = true := decide_eq_true c48
                                                        by_cases c49 : (wrap64 ((wrap64 (x11_1 + (l1.length : Int))) + 1)) ≤ (x9_2.length : Int)
                                                        · rw [if_pos c49] at H
                                                          have c49b0 := eq_true c49
                                                          have c49b1 : decide ((wrap64 ((wrap64 (x11_1 + (l1.length : Int))) + 1)) ≤ (x9_2.length : Int)) = true := decide_eq_true c49
                                                          replace H := Option.bind_eq_some_iff.mp H
                                                          obtain ⟨⟨t453, t454⟩, A500, H⟩ := H
                                                          replace H : (nat_long.l1 k2 t426 (l1.length : Int) x8_2 t454 x10_2 x11_1 (IntKind.u64.wrap (x12_2 - 1)) (!t453)) = some (r1, r2) := H
                                                          have A50 := Aside0.mk A500
                                                          clear A500
                                                          have H' := Aside0.mk H
                                                          clear H
                                                          have q051 : (0 : Int) ≤ (x11_1 : Int) := of_decide_eq_true (by first | (with_reducible assumption) | assumption)
                                                          have ql51 : (x11_1 : Int) < ((wrap64 ((wrap64 (x11_1 + (l1.length : Int))) + 1)) : Int) := of_decide_eq_true (by first | (with_reducible assumption) | assumption)
                                                          have q51 : ((wrap64 ((wrap64 (x11_1 + (l1.length : Int))) + 1)) : Int) ≤ ((x9_2.length : Int) : Int) := of_decide_eq_true (by first | (with_reducible assumption) | assumption)
                                                          obtain ⟨i051, hi051, _, hsz51, _⟩ := info_parts info42
                                                          have hroom51 := (Kd.R_reads' HO_9.out).2.1
                                                          have hlx51 := (Kd.R_reads' HO_9.out).1
                                                          have hcut51 := cut_win (P := Tryd.prog) 27 42 .i64 .i64 Tryd.underlying27 hi051 hsz51 go44 x9_2.length co18 x11_1 (wrap64 ((wrap64 (x11_1 + (l1.length : Int))) + 1)) q051 ql51 (by omega) hroom51
                                                          clear hi051 hsz51 hroom51 hlx51
                                                          (try simp only [hji23] at hcut51)
                                                          replace q051 := eq_true q051
                                                          replace ql51 := eq_true ql51
                                                          replace q51 := eq_true q51
                                                          go_wp2_with (first | ((with_reducible refine gate_callee (f := 82) rfl ?_); refine goesL_ (some 96) rfl rfl Tryd.func82 (by kernel_rfl) rfl #[.slice (some ⟨go44, (x11_1 : Int).toNat, none⟩) (((wrap64 ((wrap64 (x11_1 + (l1.length : Int))) + 1)) : Int).toNat - (x11_1 : Int).toNat) (co18 - (x11_1 : Int).toNat), .slice (some ad444) x8_2.length co16] rfl (by (try simp only [List.map_toArray, List.map_cons, List.map_nil]); first | done | (simp only [hji23]; rfl) | rfl | (simp only [List.length_drop, List.length_take]; rfl)) ?_; (with_reducible refine (nat_backW.calls k2 (fun k_ => some k_ = (.slice (some ⟨go44, 0, none⟩) x9_2.length co18 : Value).ownBlock) (.slice (some ⟨go44, 0, none⟩) x9_2.length co18) x9_2 x11_1 (wrap64 ((wrap64 (x11_1 + (l1.length : Int))) + 1)) _ _ x8_2 t453 t454 w _ ?side1 ?side2 ?side3 ?side4 A50.out).mono ?_); (case side1 => repeat (first | (with_reducible first | exact HB.out | apply below_alloc | apply pw_below_drewN | apply below_drew1) | exact HB.out)); (case side2 => exact Kd.R_tight rfl HO_9.out); (case side3 => exact Kd.C_kept_ownV (HO_8.out) (fun k_ hk_ hs_ => (hk_.2.1) hs_)); (case side4 => exact (Kd.V_reads' HO_8.out).2.1); rintro e w52 ⟨rfl, hy0, hb, hkp⟩; refine ⟨_, rfl, ?_⟩; have n0_ := Aside0.mk (Kd.V_mono (ok' := fun k_ => (w.heap.size ≤ k_) ∧ some k_ ≠ (.slice (some ⟨go44, 0, none⟩) x9_2.length co18 : Value).ownBlock ∧ some k_ ≠ (.slice Ao21 x10_2.length co21 : Value).ownBlock) (Kd.V_keptB (HO_8.out) hkp (fun k_ hk_ hs_ => (hk_.2.1) hs_)) (fun k_ hk_ => ⟨hk_.1.1, hk_.1.2.1, hk_.1.2.2⟩)); have n1_ := Aside0.mk (Kd.R_reok rfl hy0 (fun k_ e_ => HO_9.out.1 k_ e_)); have n2_ := Aside0.mk (Kd.R_mono (ok' := fun k_ => (w.heap.size ≤ k_) ∧ some k_ ≠ (.slice (some ⟨go44, 0, none⟩) x9_2.length co18 : Value).ownBlock) (Kd.R_keptB (HO_10.out) hkp (fun k_ hk_ hs_ => (hk_.2) hs_)) (fun k_ hk_ => ⟨hk_.1.1, hk_.1.2⟩)); have n3_ := Aside0.mk (hb); clear HO_8; clear HO_9; clear HO_10; clear HB; have HO_8 := n0_; have HO_9 := n1_; have HO_10 := n2_; have HB := n3_; clear n0_ n1_ n2_ n3_; (try clear hb); (try clear hkp); (try clear hy0)))
                                                          (try simp only [← hl8_2, ← hl9_2, ← hl10_2])
                                                          go_roundg k2
                                                          case measure => have := HK1.out; have := HK2.out; omega
                                                          case rel => exact ⟨(x8_2), (t454), (x10_2), (IntKind.u64.wrap (x12_2 - 1)), (!t453), (by first | rfl | (simp; done) | (simp [*]; done)), (by first | rfl | (simp; done) | (simp [*]; done)), H', ⟨by have := HK1.out; have := HK2.out; omega⟩, ⟨by (try simp only [hl8_1]); (try simp only [hl9_1]); (try simp only [hl10_1]); (try simp only [hl8_2]); (try simp only [hl9_2]); (try simp only [hl10_2]); (with_reducible repeat (first | apply Kd.V_alloc | apply Kd.V_drewN | apply Kd.V_drew)); exact HO_8.out⟩, ⟨by (try simp only [hl8_1]); (try simp only [hl9_1]); (try simp only [hl10_1]); (try simp only [hl8_2]); (try simp only [hl9_2]); (try simp only [hl10_2]); (with_reducible repeat (first | apply Kd.R_alloc | apply Kd.R_drewN | apply Kd.R_drew)); exact HO_9.out⟩, ⟨by (try simp only [hl8_1]); (try simp only [hl9_1]); (try simp only [hl10_1]); (try simp only [hl8_2]); (try simp only [hl9_2]); (try simp only [hl10_2]); (with_reducible repeat (first | apply Kd.R_alloc | apply Kd.R_drewN | apply Kd.R_drew)); exact HO_10.out⟩, ⟨by repeat (first | (with_reducible first | exact HB.out | apply below_alloc | apply pw_below_drewN | apply below_drew1) | exact HB.out)⟩⟩
                                                        · rw [if_neg c49] at H
                                                          exact absurd H (by simp)
                                                      · rw [if_neg c48] at H
                                                        exact absurd H (by simp)
                                                    · rw [if_neg c47] at H
                                                      exact absurd H (by simp)
                                                  · replace c46 := Bool.eq_false_iff.mpr c46
                                                    subst c46
                                                    have H1 : (if 0 ≤ x11_1 then (if x11_1 < (x10_2.length : Int) then (nat_long.l0 k2 t426 (l1.length : Int) x8_2 x9_2 (x10_2.set (x11_1 : Int).toNat x12_2) (wrap64 (x11_1 - 1))) else (none)) else (none)) = some (r1, r2) := by rw [if_neg (show ¬ (false = true) by decide)] at H; exact H
                                                    clear H
                                                    have H := H1
                                                    clear H1
                                                    by_cases c53 : 0 ≤ x11_1
                                                    · rw [if_pos c53] at H
                                                      have c53b0 : decide (0 ≤ x11_1) = true := decide_eq_true c53
                                                      clear c53
                                                      by_cases c54 : x11_1 < (x10_2.length : Int)
                                                      · rw [if_pos c54] at H
                                                        have c54b0 : decide (x11_1 < (x10_2.length : Int)) = true := decide_eq_true c54
                                                        (try simp only [hl8_1] at c54b0)
                                                        (try simp only [hl9_1] at c54b0)
                                                        (try simp only [hl10_1] at c54b0)
                                                        (try simp only [hl8_2] at c54b0)
                                                        (try simp only [hl9_2] at c54b0)
                                                        (try simp only [hl10_2] at c54b0)
                                                        clear c54
                                                        obtain ⟨y455, hy455⟩ : ∃ y_ : List Int, y_ = (x10_2.set (x11_1 : Int).toNat x12_2) := ⟨_, rfl⟩
                                                        replace H : (nat_long.l0 k2 t426 (l1.length : Int) x8_2 x9_2 y455 (wrap64 (x11_1 - 1))) = some (r1, r2) := by first | (rw [hy455]; with_reducible exact H) | (have H2_ := (Option.bind_some _ _).symm.trans H; rw [hy455]; with_reducible exact H2_) | (have H2_ := (Option.bind_some _ _).symm.trans H; with_reducible exact H2_) | with_reducible exact H | (rw [hy455]; exact H) | exact H
                                                        have Ny455 := Aside0.mk hy455
                                                        clear hy455
                                                        have H' := Aside0.mk H
                                                        clear H
                                                        have p55 : 0 ≤ (x11_1 : Int) := of_decide_eq_true (by first | (with_reducible assumption) | assumption)
                                                        have q55 : (x11_1 : Int) < ((x10_2.length : Int) : Int) := of_decide_eq_true (by first | (with_reducible assumption) | assumption)
                                                        obtain ⟨go55, co55, eo55, gb55, gl55, cl55, HG55⟩ := Kd.R_form HO_10.out (by omega)
                                                        (first | cases eo55 | (injection eo55 with ea_ en_ ec_; (first | subst ea_ | (injection ea_ with ea_; subst ea_)); subst ec_; clear en_))
                                                        have GB55 := Aside0.mk gb55
                                                        have GG55 := Aside0.mk HG55
                                                        clear gb55 gl55 HG55
                                                        obtain ⟨hx55_0, hf55_0⟩ := Kd.R_celln 0 HO_10.out (x11_1 : Int) p55 q55
                                                        replace p55 := eq_true p55
                                                        replace q55 := eq_true q55
                                                        have HP56 := Kd.R_putg HO_10.out (x11_1 : Int) x12_2
                                                        go_wp2_with (first | ((with_reducible refine gate_store (t := 42) (p := 101) rfl ?_); refine store_event (t := 42) (p := 101) (v := ?vo_w57) (w1 := (wr.setCell ⟨go55, (x11_1 : Int).toNat, none⟩ (.int .u64 x12_2))) ?hg ?ho ?hn ?hr ?_; (case ho => rfl); (case hg => rfl); (case hn => rfl); (case hr => first | (go_simp; done) | (go_simp; rfl)); intro w57 hw; have hg : wr.grownBy w57 (some go55) := (by rw [hw]; exact HP56.2); have hp_ : Kd.R (Kd.int .u64) 42 w57 w.heap.size (fun k_ => (w.heap.size ≤ k_) ∧ some k_ ≠ (.slice (some ⟨go44, 0, none⟩) x9_2.length co18 : Value).ownBlock) (.slice (some ⟨go55, 0, none⟩) x10_2.length co21) y455 := (by rw [hw, Ny455.out]; exact HP56.1); clear HP56; have n0_ := Aside0.mk (Kd.V_afterv (v := (.slice (some ⟨go55, 0, none⟩) x10_2.length co21)) (v1 := (.slice (some ⟨go55, 0, none⟩) x10_2.length co21)) (ok := (fun k_ => (w.heap.size ≤ k_) ∧ some k_ ≠ (.slice (some ⟨go44, 0, none⟩) x9_2.length co18 : Value).ownBlock)) (by (with_reducible repeat (first | apply Kd.V_alloc | apply Kd.V_drewN | apply Kd.V_drew)); exact Kd.V_mono HO_8.out (fun _ hk => ⟨⟨hk.1, hk.2.1⟩, hk.2.2⟩)) hg (.inl rfl)); have n1_ := Aside0.mk (Kd.R_after (v := (.slice (some ⟨go55, 0, none⟩) x10_2.length co21)) (v1 := (.slice (some ⟨go55, 0, none⟩) x10_2.length co21)) (ok := (fun k_ => (w.heap.size ≤ k_))) (by (with_reducible repeat (first | apply Kd.R_alloc | apply Kd.R_drewN | apply Kd.R_drew)); exact HO_9.out) hg (.inl rfl)); have n2_ := Aside0.mk (hp_); have n3_ := Aside0.mk ((by rw [hw]; exact below_set (HB.out) GB55.out : Below w.heap.size w w57)); clear HO_8; clear HO_9; clear HO_10; clear HB; have HO_8 := n0_; have HO_9 := n1_; have HO_10 := n2_; have HB := n3_; clear n0_ n1_ n2_ n3_; clear hg hw hp_))
                                                        (try simp only [← hl8_1, ← hl9_1, ← hl10_1, ← hl8_2, ← hl9_2, ← hl10_2])
                                                        go_roundg k2
                                                        case measure => have := HK1.out; have := HK2.out; omega
                                                        case rel => exact ⟨(x8_2), (x9_2), (y455), (wrap64 (x11_1 - 1)), (by first | rfl | (simp; done) | (simp [*]; done)), H', ⟨by have := HK1.out; have := HK2.out; omega⟩, ⟨by (try simp only [hl8_1]); (try simp only [hl9_1]); (try simp only [hl10_1]); (try simp only [hl8_2]); (try simp only [hl9_2]); (try simp only [hl10_2]); (with_reducible repeat (first | apply Kd.V_alloc | apply Kd.V_drewN | apply Kd.V_drew)); exact Kd.V_mono HO_8.out (fun _ hk => ⟨hk.1.1, ⟨hk.1.2, hk.2⟩⟩)⟩, ⟨by (try simp only [hl8_1]); (try simp only [hl9_1]); (try simp only [hl10_1]); (try simp only [hl8_2]); (try simp only [hl9_2]); (try simp only [hl10_2]); (with_reducible repeat (first | apply Kd.R_alloc | apply Kd.R_drewN | apply Kd.R_drew)); exact HO_9.out⟩, ⟨by (try simp only [hl8_1]); (try simp only [hl9_1]); (try simp only [hl10_1]); (try simp only [hl8_2]); (try simp only [hl9_2]); (try simp only [hl10_2]); (with_reducible repeat (first | apply Kd.R_alloc | apply Kd.R_drewN | apply Kd.R_drew)); exact HO_10.out⟩, ⟨by repeat (first | (with_reducible first | exact HB.out | apply below_alloc | apply pw_below_drewN | apply below_drew1) | exact HB.out)⟩⟩
                                                      · rw [if_neg c54] at H
                                                        exact absurd H (by simp)
                                                    · rw [if_neg c53] at H
                                                      exact absurd H (by simp)
                                            · rw [if_neg c41] at H
                                              exact absurd H (by simp)
                                          · rw [if_neg c40] at H
                                            exact absurd H (by simp)
                                        · rw [if_neg c39] at H
                                          exact absurd H (by simp)
                                      · rw [if_neg c37] at H
                                        exact absurd H (by simp)
                                    · rw [if_neg c36] at H
                                      exact absurd H (by simp)
                                  · rw [if_neg c34] at H
                                    exact absurd H (by simp)
                                · rw [if_neg c33] at H
                                  exact absurd H (by simp)
                              · rw [if_neg c31] at H
                                exact absurd H (by simp)
                            · rw [if_neg c30] at H
                              exact absurd H (by simp)
                          · rw [if_neg c28] at H
                            exact absurd H (by simp)
                        · rw [if_neg c27] at H
                          exact absurd H (by simp)
                      · rw [if_neg c25] at H
                        exact absurd H (by simp)
                    · rw [if_neg c24] at H
                      exact absurd H (by simp)
                  · rw [if_neg c22] at H
                    have c22b0 : decide (0 ≤ x11_1) = false := decide_eq_false c22
                    clear c22
                    have H' := Aside0.mk H
                    clear H
                    go_wp2
                    go_loopg [103] k1 (fun kq v103 w' => ∃ (x9_2 : List Int) (x103_2 : Int), v103 = .int .i64 x103_2 ∧ Aside0 (nat_long.l2 kq t426 (l1.length : Int) x9_2 x10_1 (l1.length : Int) x103_2 = some (r1, r2)) ∧ Aside0 (kq ≤ k1) ∧ Aside0 (Kd.R (Kd.int .u64) 42 w' w.heap.size (fun k_ => (w.heap.size ≤ k_) ∧ some k_ ≠ ((.slice Ao21 x10_1.length co21) : Value).ownBlock) (.slice Ao18 x9_1.length co18) x9_2) ∧ Aside0 (Kd.R (Kd.int .u64) 42 w' w.heap.size (fun k_ => (w.heap.size ≤ k_) ∧ some k_ ≠ ((.slice Ao18 x9_1.length co18) : Value).ownBlock) (.slice Ao21 x10_1.length co21) x10_1) ∧ Aside0 (Below w.heap.size w w'))
                    case atStart => exact ⟨(x9_1), (0), (by first | rfl | (simp; done) | (simp [*]; done)), H', ⟨Nat.le_refl _⟩, ⟨by (try simp only [hl8_1]); (try simp only [hl9_1]); (try simp only [hl10_1]); (with_reducible repeat (first | apply Kd.R_alloc | apply Kd.R_drewN | apply Kd.R_drew)); exact HO_9.out⟩, ⟨by (try simp only [hl8_1]); (try simp only [hl9_1]); (try simp only [hl10_1]); (with_reducible repeat (first | apply Kd.R_alloc | apply Kd.R_drewN | apply Kd.R_drew)); exact HO_10.out⟩, ⟨by repeat (first | (with_reducible first | exact HB.out | apply below_alloc | apply pw_below_drewN | apply below_drew1) | exact HB.out)⟩⟩
                    case round =>
                      clear H'
                      try clear c1
                      try clear q1
                      try clear c2
                      try clear p2
                      try clear c3
                      try clear c4
                      try clear c4b0
                      try clear p4
                      try clear q4
                      try clear hx4
                      try clear c5
                      try clear c5b0
                      try clear p5
                      try clear q5
                      try clear hx5
                      try clear hf5
                      try clear c6
                      try clear p6
                      try clear c7
                      try clear c8
                      try clear c8b0
                      try clear c8b1
                      try clear c9
                      try clear c9b0
                      try clear c9b1
                      try clear c12
                      try clear c12b0
                      try clear c12b1
                      try clear c13
                      try clear c13b0
                      try clear c13b1
                      try clear q15
                      try clear c22
                      try clear c22b0
                      try clear c24
                      try clear c24b0
                      try clear c25
                      try clear c25b0
                      try clear c27
                      try clear c27b0
                      try clear c28
                      try clear c28b0
                      try clear c30
                      try clear c30b0
                      try clear c31
                      try clear c31b0
                      try clear c33
                      try clear c33b0
                      try clear c34
                      try clear c34b0
                      try clear c36
                      try clear c36b0
                      try clear c37
                      try clear c37b0
                      try clear c39
                      try clear c39b0
                      try clear c39b1
                      try clear c40
                      try clear c40b0
                      try clear c40b1
                      try clear c41
                      try clear c41b0
                      try clear c41b1
                      try clear p42
                      try clear q42
                      try clear hx42
                      try clear p44
                      try clear q44
                      try clear hx44
                      try clear c46
                      try clear c47
                      try clear c47b0
                      try clear c47b1
                      try clear c48
                      try clear c48b0
                      try clear c48b1
                      try clear c49
                      try clear c49b0
                      try clear c49b1
                      try clear q51
                      try clear c53
                      try clear c53b0
                      try clear c54
                      try clear c54b0
                      try clear p55
                      try clear q55
                      try clear hx55
                      try clear hf55
                      try clear hx425_0
                      try clear hx441_0
                      try clear hx442_0
                      try clear hx443_0
                      try clear hx444_0
                      try clear hx445_0
                      try clear hx55_0
                      try clear p2
                      try clear p4
                      try clear p42
                      try clear p425
                      try clear p44
                      try clear p441
                      try clear p442
                      try clear p443
                      try clear p444
                      try clear p445
                      try clear p55
                      try clear p6
                      try clear q044
                      try clear q051
                      try clear q1
                      try clear q15
                      try clear q4
                      try clear q42
                      try clear q425
                      try clear q44
                      try clear q441
                      try clear q442
                      try clear q443
                      try clear q444
                      try clear q445
                      try clear q51
                      try clear q55
                      obtain ⟨x9_2, x103_2, rfl, HA, HK2, HO_9, HO_10, HB⟩ := hrel
                      have hl9_2 := (Kd.R_reads' HO_9.out).1
                      rw [hl9_2] at HO_9
                      (try simp only [hl9_2])
                      (try simp only [hl9_2] at HO_10)
                      cases gk with
                      | zero => exact absurd HA.out (by simp [nat_long.l2])
                      | succ k2 =>
                        have H := HA.out
                        clear HA
                        simp only [nat_long.l2] at H
                        by_cases c58 : x103_2 < (l1.length : Int)
                        · rw [if_pos c58] at H
                          have c58b0 : decide (x103_2 < (l1.length : Int)) = true := decide_eq_true c58
                          (try simp only [hl8_1] at c58b0)
                          (try simp only [hl9_1] at c58b0)
                          (try simp only [hl10_1] at c58b0)
                          (try simp only [hl9_2] at c58b0)
                          clear c58
                          by_cases c59 : 0 ≤ x103_2
                          · rw [if_pos c59] at H
                            have c59b0 : decide (0 ≤ x103_2) = true := decide_eq_true c59
                            clear c59
                            by_cases c60 : x103_2 < (x9_2.length : Int)
                            · rw [if_pos c60] at H
                              have c60b0 : decide (x103_2 < (x9_2.length : Int)) = true := decide_eq_true c60
                              (try simp only [hl8_1] at c60b0)
                              (try simp only [hl9_1] at c60b0)
                              (try simp only [hl10_1] at c60b0)
                              (try simp only [hl9_2] at c60b0)
                              clear c60
                              by_cases c61 : 0 ≤ t426
                              · rw [if_pos c61] at H
                                have c61b0 := eq_true c61
                                have c61b1 : decide (0 ≤ t426) = true := decide_eq_true c61
                                clear c61
                                obtain ⟨ji62, hji62⟩ : ∃ j_ : Int, (shr .u64 (rd x9_2 x103_2) t426) = j_ := ⟨_, rfl⟩
                                replace H : ((some (x9_2.set (x103_2 : Int).toNat (ji62) : List Int)).bind fun y457 => (if t426 > 0 then (if (wrap64 (x103_2 + 1)) < (l1.length : Int) then (if 0 ≤ (wrap64 (x103_2 + 1)) then (if (wrap64 (x103_2 + 1)) < (x9_2.length : Int) then (if 0 ≤ (wrap64 (64 - t426)) then (nat_long.l2 k2 t426 (l1.length : Int) (y457.set (x103_2 : Int).toNat (Go.bits .or .u64 (rd y457 x103_2) (shl .u64 (rd y457 (wrap64 (x103_2 + 1))) (wrap64 (64 - t426))))) x10_1 (l1.length : Int) (wrap64 (x103_2 + 1))) else (none)) else (none)) else (none)) else (nat_long.l2 k2 t426 (l1.length : Int) y457 x10_1 (l1.length : Int) (wrap64 (x103_2 + 1)))) else (nat_long.l2 k2 t426 (l1.length : Int) y457 x10_1 (l1.length : Int) (wrap64 (x103_2 + 1))))) = some (r1, r2) := by first | (rw [hji62] at H; exact H) | (simp only [hji62] at H ⊢; exact H)
                                have hji62_ : ((rd x9_2 x103_2) / 2 ^ min t426.toNat 64) = ji62 := hji62
                                have hji62z : t426 ≤ 64 → ((rd x9_2 x103_2) / 2 ^ t426.toNat) = ji62 := shr_small hji62
                                obtain ⟨y457, hy457⟩ : ∃ y_ : List Int, y_ = (x9_2.set (x103_2 : Int).toNat (ji62)) := ⟨_, rfl⟩
                                replace H : (if t426 > 0 then (if (wrap64 (x103_2 + 1)) < (l1.length : Int) then (if 0 ≤ (wrap64 (x103_2 + 1)) then (if (wrap64 (x103_2 + 1)) < (x9_2.length : Int) then (if 0 ≤ (wrap64 (64 - t426)) then (nat_long.l2 k2 t426 (l1.length : Int) (y457.set (x103_2 : Int).toNat (Go.bits .or .u64 (rd y457 x103_2) (shl .u64 (rd y457 (wrap64 (x103_2 + 1))) (wrap64 (64 - t426))))) x10_1 (l1.length : Int) (wrap64 (x103_2 + 1))) else (none)) else (none)) else (none)) else (nat_long.l2 k2 t426 (l1.length : Int) y457 x10_1 (l1.length : Int) (wrap64 (x103_2 + 1)))) else (nat_long.l2 k2 t426 (l1.length : Int) y457 x10_1 (l1.length : Int) (wrap64 (x103_2 + 1)))) = some (r1, r2) := by first | (rw [hy457]; with_reducible exact H) | (have H2_ := (Option.bind_some _ _).symm.trans H; rw [hy457]; with_reducible exact H2_) | (have H2_ := (Option.bind_some _ _).symm.trans H; with_reducible exact H2_) | with_reducible exact H | (rw [hy457]; exact H) | exact H
                                have Ny457 := Aside0.mk hy457
                                clear hy457
                                by_cases c64 : t426 > 0
                                · rw [if_pos c64] at H
                                  have c64b0 : decide (0 < t426) = true := decide_eq_true c64
                                  clear c64
                                  by_cases c65 : (wrap64 (x103_2 + 1)) < (l1.length : Int)
                                  · rw [if_pos c65] at H
                                    have c65b0 : decide ((wrap64 (x103_2 + 1)) < (l1.length : Int)) = true := decide_eq_true c65
                                    (try simp only [hl8_1] at c65b0)
                                    (try simp only [hl9_1] at c65b0)
                                    (try simp only [hl10_1] at c65b0)
                                    (try simp only [hl9_2] at c65b0)
                                    clear c65
                                    obtain ⟨ji66, hji66⟩ : ∃ j_ : Int, (wrap64 (x103_2 + 1)) = j_ := ⟨_, rfl⟩
                                    replace H : (if 0 ≤ (ji66) then (if (ji66) < (x9_2.length : Int) then (if 0 ≤ (wrap64 (64 - t426)) then (nat_long.l2 k2 t426 (l1.length : Int) (y457.set (x103_2 : Int).toNat (Go.bits .or .u64 (rd y457 x103_2) (shl .u64 (rd y457 (ji66)) (wrap64 (64 - t426))))) x10_1 (l1.length : Int) ji66) else (none)) else (none)) else (none)) = some (r1, r2) := by first | (rw [hji66] at H; exact H) | (simp only [hji66] at H ⊢; exact H)
                                    (try rw [hji66] at c65b0)
                                    have hji66w : (IntKind.i64.wrap (x103_2 + 1)) = ji66 := (i64_w _).trans hji66
                                    by_cases c67 : 0 ≤ (ji66)
                                    · rw [if_pos c67] at H
                                      have c67b0 : decide (0 ≤ (ji66)) = true := decide_eq_true c67
                                      clear c67
                                      by_cases c68 : (ji66) < (x9_2.length : Int)
                                      · rw [if_pos c68] at H
                                        have c68b0 : decide ((ji66) < (x9_2.length : Int)) = true := decide_eq_true c68
                                        (try simp only [hl8_1] at c68b0)
                                        (try simp only [hl9_1] at c68b0)
                                        (try simp only [hl10_1] at c68b0)
                                        (try simp only [hl9_2] at c68b0)
                                        clear c68
                                        obtain ⟨ji69, hji69⟩ : ∃ j_ : Int, (wrap64 (64 - t426)) = j_ := ⟨_, rfl⟩
                                        replace H : (if 0 ≤ (ji69) then (nat_long.l2 k2 t426 (l1.length : Int) (y457.set (x103_2 : Int).toNat (Go.bits .or .u64 (rd y457 x103_2) (shl .u64 (rd y457 (ji66)) (ji69)))) x10_1 (l1.length : Int) ji66) else (none)) = some (r1, r2) := by first | (rw [hji69] at H; exact H) | (simp only [hji69] at H ⊢; exact H)
                                        have hji69w : (IntKind.i64.wrap (64 - t426)) = ji69 := (i64_w _).trans hji69
                                        by_cases c70 : 0 ≤ (ji69)
                                        · rw [if_pos c70] at H
                                          have c70b0 := eq_true c70
                                          have c70b1 : decide (0 ≤ (ji69)) = true := decide_eq_true c70
                                          clear c70
                                          obtain ⟨ji71, hji71⟩ : ∃ j_ : Int, (shl .u64 (rd y457 (ji66)) (ji69)) = j_ := ⟨_, rfl⟩
                                          replace H : (nat_long.l2 k2 t426 (l1.length : Int) (y457.set (x103_2 : Int).toNat (Go.bits .or .u64 (rd y457 x103_2) (ji71))) x10_1 (l1.length : Int) ji66) = some (r1, r2) := by first | (rw [hji71] at H; exact H) | (simp only [hji71] at H ⊢; exact H)
                                          have hji71_ : (IntKind.u64.wrap ((rd y457 (ji66)) * 2 ^ min (ji69).toNat 64)) = ji71 := hji71
                                          have hji71z : (ji69) ≤ 64 → (IntKind.u64.wrap ((rd y457 (ji66)) * 2 ^ (ji69).toNat)) = ji71 := shl_small hji71
                                          obtain ⟨y460, hy460⟩ : ∃ y_ : List Int, y_ = (y457.set (x103_2 : Int).toNat (Go.bits .or .u64 (rd y457 x103_2) (ji71))) := ⟨_, rfl⟩
                                          replace H : (nat_long.l2 k2 t426 (l1.length : Int) y460 x10_1 (l1.length : Int) ji66) = some (r1, r2) := by first | (rw [hy460]; with_reducible exact H) | (have H2_ := (Option.bind_some _ _).symm.trans H; rw [hy460]; with_reducible exact H2_) | (have H2_ := (Option.bind_some _ _).symm.trans H; with_reducible exact H2_) | with_reducible exact H | (rw [hy460]; exact H) | exact H
                                          have Ny460 := Aside0.mk hy460
                                          clear hy460
                                          have H' := Aside0.mk H
                                          clear H
                                          have p456 : 0 ≤ (x103_2 : Int) := of_decide_eq_true (by first | (with_reducible assumption) | assumption)
                                          have q456 : x103_2 < (x9_2.length : Int) := of_decide_eq_true (by first | (with_reducible assumption) | assumption)
                                          obtain ⟨ad456, e456, hx456_0⟩ := Kd.at_int (Kd.R_reads' HO_9.out).2.2 x103_2 p456 q456
                                          cases e456
                                          replace p456 := eq_true p456
                                          replace q456 := eq_true q456
                                          have p63 : 0 ≤ (x103_2 : Int) := of_decide_eq_true (by first | (with_reducible assumption) | assumption)
                                          have q63 : (x103_2 : Int) < ((x9_2.length : Int) : Int) := of_decide_eq_true (by first | (with_reducible assumption) | assumption)
                                          obtain ⟨go63, co63, eo63, gb63, gl63, cl63, HG63⟩ := Kd.R_form HO_9.out (by omega)
                                          (first | cases eo63 | (injection eo63 with ea_ en_ ec_; (first | subst ea_ | (injection ea_ with ea_; subst ea_)); subst ec_; clear en_))
                                          have GB63 := Aside0.mk gb63
                                          have GG63 := Aside0.mk HG63
                                          clear gb63 gl63 HG63
                                          (first | simp only [add_plain] at hx456_0 | skip)
                                          obtain ⟨hx63_0, hf63_0⟩ := Kd.R_celln 0 HO_9.out (x103_2 : Int) p63 q63
                                          replace p63 := eq_true p63
                                          replace q63 := eq_true q63
                                          have HP73 := Kd.R_putg HO_9.out (x103_2 : Int) ji62
                                          try go_wp2_with (first | ((with_reducible refine gate_store (t := 42) (p := 112) rfl ?_); refine store_event (t := 42) (p := 112) (v := ?vo_w74) (w1 := (wr.setCell ⟨go63, (x103_2 : Int).toNat, none⟩ (.int .u64 ji62))) ?hg ?ho ?hn ?hr ?_; (case ho => rfl); (case hg => rfl); (case hn => rfl); (case hr => first | (go_simp; done) | (go_simp; rfl)); intro w74 hw; have hg : wr.grownBy w74 (some go63) := (by rw [hw]; exact HP73.2); have hp_ : Kd.R (Kd.int .u64) 42 w74 w.heap.size (fun k_ => (w.heap.size ≤ k_) ∧ some k_ ≠ (.slice Ao21 x10_1.length co21 : Value).ownBlock) (.slice (some ⟨go63, 0, none⟩) x9_2.length co18) y457 := (by rw [hw, Ny457.out]; exact HP73.1); clear HP73; have n0_ := Aside0.mk (hp_); have n1_ := Aside0.mk (Kd.R_after (v := (.slice (some ⟨go63, 0, none⟩) x9_2.length co18)) (v1 := (.slice (some ⟨go63, 0, none⟩) x9_2.length co18)) (ok := (fun k_ => (w.heap.size ≤ k_))) (by (with_reducible repeat (first | apply Kd.R_alloc | apply Kd.R_drewN | apply Kd.R_drew)); exact HO_10.out) hg (.inl rfl)); have n2_ := Aside0.mk ((by rw [hw]; exact below_set (HB.out) GB63.out : Below w.heap.size w w74)); clear HO_9; clear HO_10; clear HB; have HO_9 := n0_; have HO_10 := n1_; have HB := n2_; clear n0_ n1_ n2_; clear hg hw hp_))
                                          have n0_ := Aside0.mk (Kd.R_drew HO_9.out)
                                          have n1_ := Aside0.mk (Kd.R_drew HO_10.out)
                                          have n2_ := Aside0.mk (below_drew1 HB.out)
                                          clear HO_9
                                          clear HO_10
                                          clear HB
                                          have HO_9 := n0_
                                          have HO_10 := n1_
                                          have HB := n2_
                                          clear n0_ n1_ n2_
                                          have p458 : 0 ≤ (x103_2 : Int) := of_decide_eq_true (by first | (with_reducible assumption) | assumption)
                                          have q458 : x103_2 < (y457.length : Int) := (by have h_ : (x103_2 : Int) < ((x9_2.length : Int) : Int) := of_decide_eq_true (by first | (with_reducible assumption) | assumption); first | (have e_ := (Kd.R_reads' HO_9.out).1; omega) | simpa only [Ny457.out, List.length_set] using h_)
                                          have ql458 : ((x103_2 : Int) < ((x9_2.length : Int) : Int)) = True := eq_true (of_decide_eq_true (by first | (with_reducible assumption) | assumption))
                                          obtain ⟨ad458, e458, hx458_0⟩ := Kd.at_int (Kd.R_reads' HO_9.out).2.2 x103_2 p458 q458
                                          obtain rfl : (⟨go63, 0, none⟩ : Addr) = ad458 := (by injection e458)
                                          (first | simp only [add_plain] at hx458_0 | simp only [add_at] at hx458_0 | simp only [Addr.add, Nat.zero_add] at hx458_0 | skip)
                                          replace p458 := eq_true p458
                                          replace q458 := eq_true q458
                                          have p459 : 0 ≤ ((ji66) : Int) := of_decide_eq_true (by first | (with_reducible assumption) | assumption)
                                          have q459 : (ji66) < (y457.length : Int) := (by have h_ : ((ji66) : Int) < ((x9_2.length : Int) : Int) := of_decide_eq_true (by first | (with_reducible assumption) | assumption); first | (have e_ := (Kd.R_reads' HO_9.out).1; omega) | simpa only [Ny457.out, List.length_set] using h_)
                                          have ql459 : (((ji66) : Int) < ((x9_2.length : Int) : Int)) = True := eq_true (of_decide_eq_true (by first | (with_reducible assumption) | assumption))
                                          obtain ⟨ad459, e459, hx459_0⟩ := Kd.at_int (Kd.R_reads' HO_9.out).2.2 (ji66) p459 q459
                                          obtain rfl : (⟨go63, 0, none⟩ : Addr) = ad459 := (by injection e459)
                                          (first | simp only [add_plain] at hx459_0 | simp only [add_at] at hx459_0 | simp only [Addr.add, Nat.zero_add] at hx459_0 | skip)
                                          replace p459 := eq_true p459
                                          replace q459 := eq_true q459
                                          have p72 : 0 ≤ (x103_2 : Int) := of_decide_eq_true (by first | (with_reducible assumption) | assumption)
                                          have q72 : (x103_2 : Int) < ((x9_2.length : Int) : Int) := of_decide_eq_true (by first | (with_reducible assumption) | assumption)
                                          obtain ⟨hx72_0, hf72_0⟩ := Kd.R_celln 0 HO_9.out (x103_2 : Int) p72 q72
                                          replace p72 := eq_true p72
                                          replace q72 := eq_true q72
                                          have HP76 := Kd.R_putn HO_9.out (x103_2 : Int) (Go.bits .or .u64 (rd y457 x103_2) (ji71))
                                          rw [← Ny460.out] at HP76
                                          have HQ76 := Aside0.mk HP76
                                          clear HP76
                                          refine start_ (n := 15) (S := fun w' => w'.cell? ⟨go63, (x103_2).toNat, none⟩ = some (.int .u64 (rd y457 x103_2)) ∧ w'.cell? ⟨go63, ((ji66)).toNat, none⟩ = some (.int .u64 (rd y457 (ji66)))) (ds := [14]) #[false, false, false, false, false, false, false, false, false, false, false, false, false, false, false] (by kernel_rfl) rfl rfl ⟨hx458_0, hx459_0⟩ (fun hHeld => ?_); refine with_tabW nat_long.tab20 nat_long.bits20 (fun HT_ HW_ => ?_)
                                          generalize w74.drew = w75 at HO_9 HO_10 HB HQ76 hf72_0 hx458_0 hx459_0 hx72_0 hHeld ⊢
                                          refine pure_ (i := 0) (N := some 121) (v := ?_) (a' := ?_) #[true, false, false, false, false, false, false, false, false, false, false, false, false, false, false] rfl rfl (any_of HT_.out (by kernel_rfl)) (fun _ _ _ h => h) (Or.inl ⟨by rfl, ?_⟩) ?_ ?_
                                          rotate_left
                                          · intro w'
                                            go_simp
                                            with_reducible rfl
                                          rotate_left
                                          · simp only [Act.put, List.setIfInBounds_toArray, List.set_cons_zero, List.set_cons_succ, i64_w, i32_w]
                                            rfl
                                          refine pure_ (i := 1) (N := some 122) (v := ?_) (a' := ?_) #[true, true, false, false, false, false, false, false, false, false, false, false, false, false, false] rfl rfl (any_of HT_.out (by kernel_rfl)) (fun _ _ _ h => h) (Or.inl ⟨by rfl, ?_⟩) ?_ ?_
                                          rotate_left
                                          · intro w'
                                            go_simp
                                            with_reducible rfl
                                          rotate_left
                                          · simp only [Act.put, List.setIfInBounds_toArray, List.set_cons_zero, List.set_cons_succ, i64_w, i32_w]
                                            rfl
                                          refine pure_ (i := 2) (N := some 123) (v := ?_) (a' := ?_) #[true, true, true, false, false, false, false, false, false, false, false, false, false, false, false] rfl rfl (any_of HT_.out (by kernel_rfl)) (fun _ _ _ h => h) (Or.inl ⟨by rfl, ?_⟩) ?_ ?_
                                          rotate_left
                                          · intro w'
                                            go_simp
                                            with_reducible rfl
                                          rotate_left
                                          · simp only [Act.put, List.setIfInBounds_toArray, List.set_cons_zero, List.set_cons_succ, i64_w, i32_w]
                                            rfl
                                          refine pure_ (i := 4) (N := some 125) (v := ?_) (a' := ?_) #[true, true, true, false, true, false, false, false, false, false, false, false, false, false, false] rfl rfl (any_of HT_.out (by kernel_rfl)) (fun _ _ _ h => h) (Or.inl ⟨by rfl, ?_⟩) ?_ ?_
                                          rotate_left
                                          · intro w'
                                            go_simp
                                            with_reducible rfl
                                          rotate_left
                                          · simp only [Act.put, List.setIfInBounds_toArray, List.set_cons_zero, List.set_cons_succ, i64_w, i32_w]
                                            rfl
                                          refine pure_ (i := 5) (N := some 126) (v := ?_) (a' := ?_) #[true, true, true, false, true, true, false, false, false, false, false, false, false, false, false] rfl rfl (any_of HT_.out (by kernel_rfl)) (fun _ _ _ h => h) (Or.inl ⟨by rfl, ?_⟩) ?_ ?_
                                          rotate_left
                                          · intro w'
                                            go_simp
                                            with_reducible rfl
                                          rotate_left
                                          · simp only [Act.put, List.setIfInBounds_toArray, List.set_cons_zero, List.set_cons_succ, i64_w, i32_w]
                                            rfl
                                          refine pure_ (i := 6) (N := some 127) (v := ?_) (a' := ?_) #[true, true, true, false, true, true, true, false, false, false, false, false, false, false, false] rfl rfl (any_of HT_.out (by kernel_rfl)) (fun _ _ _ h => h) (Or.inl ⟨by rfl, ?_⟩) ?_ ?_
                                          rotate_left
                                          · intro w'
                                            go_simp
                                            with_reducible rfl
                                          rotate_left
                                          · simp only [Act.put, List.setIfInBounds_toArray, List.set_cons_zero, List.set_cons_succ, i64_w, i32_w]
                                            rfl
                                          refine pure_ (i := 7) (N := some 128) (v := ?_) (a' := ?_) #[true, true, true, false, true, true, true, true, false, false, false, false, false, false, false] rfl rfl (any_of HT_.out (by kernel_rfl)) (fun _ _ _ h => h) (Or.inl ⟨by rfl, ?_⟩) ?_ ?_
                                          rotate_left
                                          · intro w'
                                            go_simp
                                            with_reducible rfl
                                          rotate_left
                                          · simp only [Act.put, List.setIfInBounds_toArray, List.set_cons_zero, List.set_cons_succ, i64_w, i32_w]
                                            rfl
                                          refine pure_ (i := 9) (N := some 130) (v := ?_) (a' := ?_) #[true, true, true, false, true, true, true, true, false, true, false, false, false, false, false] rfl rfl (any_of HT_.out (by kernel_rfl)) (fun _ _ _ h => h) (Or.inl ⟨by rfl, ?_⟩) ?_ ?_
                                          rotate_left
                                          · intro w'
                                            go_simp
                                            with_reducible rfl
                                          rotate_left
                                          · simp only [Act.put, List.setIfInBounds_toArray, List.set_cons_zero, List.set_cons_succ, i64_w, i32_w]
                                            rfl
                                          refine pure_ (i := 10) (N := some 131) (v := ?_) (a' := ?_) #[true, true, true, false, true, true, true, true, false, true, true, false, false, false, false] rfl rfl (any_of HT_.out (by kernel_rfl)) (fun _ _ _ h => h) (Or.inl ⟨by rfl, ?_⟩) ?_ ?_
                                          rotate_left
                                          · intro w'
                                            go_simp
                                            with_reducible rfl
                                          rotate_left
                                          · simp only [Act.put, List.setIfInBounds_toArray, List.set_cons_zero, List.set_cons_succ, i64_w, i32_w]
                                            rfl
                                          refine take_ (i := 3) (N := some 124) (v := ?_) (a' := ?_) #[true, true, true, true, true, true, true, true, false, true, true, false, false, false, false] rfl rfl (take_ofW HT_.out HW_.out (by kernel_rfl)) (fun _ _ _ h => h) (Or.inl ⟨by rfl, ?_⟩) hHeld ?_ ?_
                                          rotate_left
                                          · rintro w' ⟨s0, s1⟩
                                            go_simp
                                            with_reducible rfl
                                          rotate_left
                                          · simp only [Act.put, List.setIfInBounds_toArray, List.set_cons_zero, List.set_cons_succ, i64_w, i32_w]
                                            rfl
                                          refine take_ (i := 8) (N := some 129) (v := ?_) (a' := ?_) #[true, true, true, true, true, true, true, true, true, true, true, false, false, false, false] rfl rfl (take_ofW HT_.out HW_.out (by kernel_rfl)) (fun _ _ _ h => h) (Or.inl ⟨by rfl, ?_⟩) hHeld ?_ ?_
                                          rotate_left
                                          · rintro w' ⟨s0, s1⟩
                                            go_simp
                                            with_reducible rfl
                                          rotate_left
                                          · simp only [Act.put, List.setIfInBounds_toArray, List.set_cons_zero, List.set_cons_succ, i64_w, i32_w]
                                            rfl
                                          refine pure_ (i := 11) (N := some 132) (v := ?_) (a' := ?_) #[true, true, true, true, true, true, true, true, true, true, true, true, false, false, false] rfl rfl (any_of HT_.out (by kernel_rfl)) (fun _ _ _ h => h) (Or.inl ⟨by rfl, ?_⟩) ?_ ?_
                                          rotate_left
                                          · intro w'
                                            go_simp
                                            with_reducible rfl
                                          rotate_left
                                          · simp only [Act.put, List.setIfInBounds_toArray, List.set_cons_zero, List.set_cons_succ, i64_w, i32_w]
                                            rfl
                                          refine pure_ (i := 12) (N := some 133) (v := ?_) (a' := ?_) #[true, true, true, true, true, true, true, true, true, true, true, true, true, false, false] rfl rfl (any_of HT_.out (by kernel_rfl)) (fun _ _ _ h => h) (Or.inl ⟨by rfl, ?_⟩) ?_ ?_
                                          rotate_left
                                          · intro w'
                                            go_simp
                                            with_reducible rfl
                                          rotate_left
                                          · simp only [Act.put, List.setIfInBounds_toArray, List.set_cons_zero, List.set_cons_succ, i64_w, i32_w]
                                            rfl
                                          refine pure_ (i := 13) (N := some 134) (v := ?_) (a' := ?_) #[true, true, true, true, true, true, true, true, true, true, true, true, true, true, false] rfl rfl (any_of HT_.out (by kernel_rfl)) (fun _ _ _ h => h) (Or.inl ⟨by rfl, ?_⟩) ?_ ?_
                                          rotate_left
                                          · intro w'
                                            go_simp
                                            with_reducible rfl
                                          rotate_left
                                          · simp only [Act.put, List.setIfInBounds_toArray, List.set_cons_zero, List.set_cons_succ, i64_w, i32_w]
                                            rfl
                                          refine last_ (i := 14) (N := none) #[true, true, true, true, true, true, true, true, true, true, true, true, true, true, true] rfl rfl (one_of HT_.out (by kernel_rfl)) (by decide) (fun K hK => ?_)
                                          refine skip_ (w1 := ?_) (by rfl) rfl ?_ ?_
                                          rotate_left
                                          · go_simp
                                            rfl
                                          refine hK.out _ _ ?_
                                          clear hK K
                                          refine done_ (done_of HT_.out (by kernel_rfl)) ?_
                                          try go_wp2
                                          (try simp only [← hl9_2])
                                          go_roundg k2
                                          case measure => have := HK1.out; have := HK2.out; omega
                                          case rel => exact ⟨(y460), (ji66), (by first | rfl | (simp; done) | (simp only [← hji66] <;> (first | rfl | simp)) | (simp [*]; done)), H', ⟨by have := HK1.out; have := HK2.out; omega⟩, ⟨by (try simp only [hl8_1]); (try simp only [hl9_1]); (try simp only [hl10_1]); (try simp only [hl9_2]); (with_reducible repeat (first | apply Kd.R_alloc | apply Kd.R_drewN | apply Kd.R_drew)); exact HQ76.out⟩, ⟨by (try simp only [hl8_1]); (try simp only [hl9_1]); (try simp only [hl10_1]); (try simp only [hl9_2]); (with_reducible repeat (first | apply Kd.R_alloc | apply Kd.R_drewN | apply Kd.R_drew)); exact Kd.R_mono (Kd.R_far (p := ⟨go63, (x103_2 : Int).toNat, none⟩) (Kd.R_mono HO_10.out (fun k_ hk => (⟨hk, fun e_ => hk.2 (by rw [e_]; rfl)⟩ : _ ∧ k_ ≠ go63))) (fun _ hk => hk.2) (.int .u64 (Go.bits .or .u64 (rd y457 x103_2) (ji71)))) (fun _ hk => ⟨hk.1.1, hk.1.2⟩)⟩, ⟨by repeat (first | (with_reducible first | exact HB.out | apply below_alloc | apply pw_below_drewN | apply below_drew1 | refine below_set ?_ GB63.out) | exact HB.out)⟩⟩
                                        · rw [if_neg c70] at H
                                          exact absurd H (by simp)
                                      · rw [if_neg c68] at H
                                        exact absurd H (by simp)
                                    · rw [if_neg c67] at H
                                      exact absurd H (by simp)
                                  · rw [if_neg c65] at H
                                    have c65b0 : decide ((wrap64 (x103_2 + 1)) < (l1.length : Int)) = false := decide_eq_false c65
                                    (try simp only [hl8_1] at c65b0)
                                    (try simp only [hl9_1] at c65b0)
                                    (try simp only [hl10_1] at c65b0)
                                    (try simp only [hl9_2] at c65b0)
                                    clear c65
                                    have H' := Aside0.mk H
                                    clear H
                                    have p456 : 0 ≤ (x103_2 : Int) := of_decide_eq_true (by first | (with_reducible assumption) | assumption)
                                    have q456 : x103_2 < (x9_2.length : Int) := of_decide_eq_true (by first | (with_reducible assumption) | assumption)
                                    obtain ⟨ad456, e456, hx456_0⟩ := Kd.at_int (Kd.R_reads' HO_9.out).2.2 x103_2 p456 q456
                                    cases e456
                                    replace p456 := eq_true p456
                                    replace q456 := eq_true q456
                                    have p63 : 0 ≤ (x103_2 : Int) := of_decide_eq_true (by first | (with_reducible assumption) | assumption)
                                    have q63 : (x103_2 : Int) < ((x9_2.length : Int) : Int) := of_decide_eq_true (by first | (with_reducible assumption) | assumption)
                                    obtain ⟨go63, co63, eo63, gb63, gl63, cl63, HG63⟩ := Kd.R_form HO_9.out (by omega)
                                    (first | cases eo63 | (injection eo63 with ea_ en_ ec_; (first | subst ea_ | (injection ea_ with ea_; subst ea_)); subst ec_; clear en_))
                                    have GB63 := Aside0.mk gb63
                                    have GG63 := Aside0.mk HG63
                                    clear gb63 gl63 HG63
                                    (first | simp only [add_plain] at hx456_0 | skip)
                                    obtain ⟨hx63_0, hf63_0⟩ := Kd.R_celln 0 HO_9.out (x103_2 : Int) p63 q63
                                    replace p63 := eq_true p63
                                    replace q63 := eq_true q63
                                    have HP77 := Kd.R_putg HO_9.out (x103_2 : Int) ji62
                                    go_wp2_with (first | ((with_reducible refine gate_store (t := 42) (p := 112) rfl ?_); refine store_event (t := 42) (p := 112) (v := ?vo_w78) (w1 := (wr.setCell ⟨go63, (x103_2 : Int).toNat, none⟩ (.int .u64 ji62))) ?hg ?ho ?hn ?hr ?_; (case ho => rfl); (case hg => rfl); (case hn => rfl); (case hr => first | (go_simp; done) | (go_simp; rfl)); intro w78 hw; have hg : wr.grownBy w78 (some go63) := (by rw [hw]; exact HP77.2); have hp_ : Kd.R (Kd.int .u64) 42 w78 w.heap.size (fun k_ => (w.heap.size ≤ k_) ∧ some k_ ≠ (.slice Ao21 x10_1.length co21 : Value).ownBlock) (.slice (some ⟨go63, 0, none⟩) x9_2.length co18) y457 := (by rw [hw, Ny457.out]; exact HP77.1); clear HP77; have n0_ := Aside0.mk (hp_); have n1_ := Aside0.mk (Kd.R_after (v := (.slice (some ⟨go63, 0, none⟩) x9_2.length co18)) (v1 := (.slice (some ⟨go63, 0, none⟩) x9_2.length co18)) (ok := (fun k_ => (w.heap.size ≤ k_))) (by (with_reducible repeat (first | apply Kd.R_alloc | apply Kd.R_drewN | apply Kd.R_drew)); exact HO_10.out) hg (.inl rfl)); have n2_ := Aside0.mk ((by rw [hw]; exact below_set (HB.out) GB63.out : Below w.heap.size w w78)); clear HO_9; clear HO_10; clear HB; have HO_9 := n0_; have HO_10 := n1_; have HB := n2_; clear n0_ n1_ n2_; clear hg hw hp_))
                                    (try simp only [← hl9_2])
                                    go_roundg k2
                                    case measure => have := HK1.out; have := HK2.out; omega
                                    case rel => exact ⟨(y457), (wrap64 (x103_2 + 1)), (by first | rfl | (simp; done) | (simp [*]; done)), H', ⟨by have := HK1.out; have := HK2.out; omega⟩, ⟨by (try simp only [hl8_1]); (try simp only [hl9_1]); (try simp only [hl10_1]); (try simp only [hl9_2]); (with_reducible repeat (first | apply Kd.R_alloc | apply Kd.R_drewN | apply Kd.R_drew)); exact HO_9.out⟩, ⟨by (try simp only [hl8_1]); (try simp only [hl9_1]); (try simp only [hl10_1]); (try simp only [hl9_2]); (with_reducible repeat (first | apply Kd.R_alloc | apply Kd.R_drewN | apply Kd.R_drew)); exact HO_10.out⟩, ⟨by repeat (first | (with_reducible first | exact HB.out | apply below_alloc | apply pw_below_drewN | apply below_drew1) | exact HB.out)⟩⟩
                                · rw [if_neg c64] at H
                                  have c64b0 : decide (0 < t426) = false := decide_eq_false c64
                                  clear c64
                                  have H' := Aside0.mk H
                                  clear H
                                  have p456 : 0 ≤ (x103_2 : Int) := of_decide_eq_true (by first | (with_reducible assumption) | assumption)
                                  have q456 : x103_2 < (x9_2.length : Int) := of_decide_eq_true (by first | (with_reducible assumption) | assumption)
                                  obtain ⟨ad456, e456, hx456_0⟩ := Kd.at_int (Kd.R_reads' HO_9.out).2.2 x103_2 p456 q456
                                  cases e456
                                  replace p456 := eq_true p456
                                  replace q456 := eq_true q456
                                  have p63 : 0 ≤ (x103_2 : Int) := of_decide_eq_true (by first | (with_reducible assumption) | assumption)
                                  have q63 : (x103_2 : Int) < ((x9_2.length : Int) : Int) := of_decide_eq_true (by first | (with_reducible assumption) | assumption)
                                  obtain ⟨go63, co63, eo63, gb63, gl63, cl63, HG63⟩ := Kd.R_form HO_9.out (by omega)
                                  (first | cases eo63 | (injection eo63 with ea_ en_ ec_; (first | subst ea_ | (injection ea_ with ea_; subst ea_)); subst ec_; clear en_))
                                  have GB63 := Aside0.mk gb63
                                  have GG63 := Aside0.mk HG63
                                  clear gb63 gl63 HG63
                                  (first | simp only [add_plain] at hx456_0 | skip)
                                  obtain ⟨hx63_0, hf63_0⟩ := Kd.R_celln 0 HO_9.out (x103_2 : Int) p63 q63
                                  replace p63 := eq_true p63
                                  replace q63 := eq_true q63
                                  have HP79 := Kd.R_putg HO_9.out (x103_2 : Int) ji62
                                  go_wp2_with (first | ((with_reducible refine gate_store (t := 42) (p := 112) rfl ?_); refine store_event (t := 42) (p := 112) (v := ?vo_w80) (w1 := (wr.setCell ⟨go63, (x103_2 : Int).toNat, none⟩ (.int .u64 ji62))) ?hg ?ho ?hn ?hr ?_; (case ho => rfl); (case hg => rfl); (case hn => rfl); (case hr => first | (go_simp; done) | (go_simp; rfl)); intro w80 hw; have hg : wr.grownBy w80 (some go63) := (by rw [hw]; exact HP79.2); have hp_ : Kd.R (Kd.int .u64) 42 w80 w.heap.size (fun k_ => (w.heap.size ≤ k_) ∧ some k_ ≠ (.slice Ao21 x10_1.length co21 : Value).ownBlock) (.slice (some ⟨go63, 0, none⟩) x9_2.length co18) y457 := (by rw [hw, Ny457.out]; exact HP79.1); clear HP79; have n0_ := Aside0.mk (hp_); have n1_ := Aside0.mk (Kd.R_after (v := (.slice (some ⟨go63, 0, none⟩) x9_2.length co18)) (v1 := (.slice (some ⟨go63, 0, none⟩) x9_2.length co18)) (ok := (fun k_ => (w.heap.size ≤ k_))) (by (with_reducible repeat (first | apply Kd.R_alloc | apply Kd.R_drewN | apply Kd.R_drew)); exact HO_10.out) hg (.inl rfl)); have n2_ := Aside0.mk ((by rw [hw]; exact below_set (HB.out) GB63.out : Below w.heap.size w w80)); clear HO_9; clear HO_10; clear HB; have HO_9 := n0_; have HO_10 := n1_; have HB := n2_; clear n0_ n1_ n2_; clear hg hw hp_))
                                  (try simp only [← hl9_2])
                                  go_roundg k2
                                  case measure => have := HK1.out; have := HK2.out; omega
                                  case rel => exact ⟨(y457), (wrap64 (x103_2 + 1)), (by first | rfl | (simp; done) | (simp [*]; done)), H', ⟨by have := HK1.out; have := HK2.out; omega⟩, ⟨by (try simp only [hl8_1]); (try simp only [hl9_1]); (try simp only [hl10_1]); (try simp only [hl9_2]); (with_reducible repeat (first | apply Kd.R_alloc | apply Kd.R_drewN | apply Kd.R_drew)); exact HO_9.out⟩, ⟨by (try simp only [hl8_1]); (try simp only [hl9_1]); (try simp only [hl10_1]); (try simp only [hl9_2]); (with_reducible repeat (first | apply Kd.R_alloc | apply Kd.R_drewN | apply Kd.R_drew)); exact HO_10.out⟩, ⟨by repeat (first | (with_reducible first | exact HB.out | apply below_alloc | apply pw_below_drewN | apply below_drew1) | exact HB.out)⟩⟩
                              · rw [if_neg c61] at H
                                exact absurd H (by simp)
                            · rw [if_neg c60] at H
                              exact absurd H (by simp)
                          · rw [if_neg c59] at H
                            exact absurd H (by simp)
                        · rw [if_neg c58] at H
                          have c58b0 : decide (x103_2 < (l1.length : Int)) = false := decide_eq_false c58
                          (try simp only [hl8_1] at c58b0)
                          (try simp only [hl9_1] at c58b0)
                          (try simp only [hl10_1] at c58b0)
                          (try simp only [hl9_2] at c58b0)
                          clear c58
                          replace H := Option.bind_eq_some_iff.mp H
                          obtain ⟨t461, A810, H⟩ := H
                          replace H : (if 0 ≤ (l1.length : Int) then (if (l1.length : Int) ≤ (x9_2.length : Int) then ((nat_trim.f k2 (x9_2.take ((l1.length : Int) : Int).toNat)).bind fun t469 => (some (t461, t469))) else (none)) else (none)) = some (r1, r2) := H
                          have A81 := Aside0.mk A810
                          clear A810
                          by_cases c82 : 0 ≤ (l1.length : Int)
                          · rw [if_pos c82] at H
                            have c82b0 := eq_true c82
                            have c82b1 : decide (0 ≤ (l1.length : Int)) = true := decide_eq_true c82
                            clear c82
                            by_cases c83 : (l1.length : Int) ≤ (x9_2.length : Int)
                            · rw [if_pos c83] at H
                              have c83b0 := eq_true c83
                              have c83b1 : decide ((l1.length : Int) ≤ (x9_2.length : Int)) = true := decide_eq_true c83
                              clear c83
                              obtain ⟨y464, hy464⟩ : ∃ y_ : List Int, y_ = (x9_2.take ((l1.length : Int) : Int).toNat) := ⟨_, rfl⟩
                              replace H : ((nat_trim.f k2 y464).bind fun t469 => (some (t461, t469))) = some (r1, r2) := by first | (rw [hy464]; with_reducible exact H) | (have H2_ := (Option.bind_some _ _).symm.trans H; rw [hy464]; with_reducible exact H2_) | (have H2_ := (Option.bind_some _ _).symm.trans H; with_reducible exact H2_) | with_reducible exact H | (rw [hy464]; exact H) | exact H
                              have Ny464 := Aside0.mk hy464
                              clear hy464
                              replace H := Option.bind_eq_some_iff.mp H
                              obtain ⟨t469, A840, H⟩ := H
                              replace H : (some (t461, t469)) = some (r1, r2) := H
                              have A84 := Aside0.mk A840
                              clear A840
                              simp only [Option.some.injEq, Prod.mk.injEq] at H
                              obtain ⟨rfl, rfl⟩ := H
                              try go_wp2
                              have n0_ := Aside0.mk (Kd.R_drew HO_9.out)
                              have n1_ := Aside0.mk (Kd.R_drew HO_10.out)
                              have n2_ := Aside0.mk (below_drew1 HB.out)
                              clear HO_9
                              clear HO_10
                              clear HB
                              have HO_9 := n0_
                              have HO_10 := n1_
                              have HB := n2_
                              clear n0_ n1_ n2_
                              have q86 : ((l1.length : Int) : Int) ≤ ((x9_2.length : Int) : Int) := of_decide_eq_true (by first | (with_reducible assumption) | assumption)
                              obtain ⟨i086, hi086, _, hsz86, _⟩ := info_parts info42
                              have hroom86 : x9_2.length ≤ co18 := (Kd.R_reads' HO_9.out).2.1
                              have hC86 : Kd.F (Kd.int .u64) _ _ Ao18 x9_2.length x9_2 := (Kd.V_at (base := w.heap.size) (Kd.R_V HO_9.out)).2.2
                              have hcut86 := cut_cap (P := Tryd.prog) 27 42 .i64 .i64 Tryd.underlying27 hi086 Ao18 x9_2.length co18 (l1.length : Int) (of_decide_eq_true (by first | (with_reducible assumption) | assumption)) q86 hroom86
                              have hr86 := Kd.F_take (m := ((l1.length : Int) : Int).toNat) hC86 (by omega)
                              have hy86 : y464.length = ((l1.length : Int) : Int).toNat := (by rw [Ny464.out, List.length_take]; omega)
                              rw [← Ny464.out] at hr86
                              rw [← hy86] at hcut86
                              have HO468 := Aside0.mk (show Kd.V (Kd.int .u64) 42 _ w.heap.size _ (.slice Ao18 y464.length y464.length) y464 from Kd.V_mk (Nat.le_refl _) hr86)
                              have HC468 := Aside0.mk (Nat.le_refl y464.length)
                              clear hr86 hC86 hroom86 hi086 hsz86
                              have KY86 := Aside0.mk hy86
                              clear hy86
                              replace q86 := eq_true q86
                              refine start_ (n := 9) (S := fun w' => True) (ds := []) #[false, false, false, false, false, false, false, false, false] (by kernel_rfl) rfl rfl trivial (fun hHeld => ?_); refine with_tabW nat_long.tab22 nat_long.bits22 (fun HT_ HW_ => ?_)
                              generalize wr.drew = w85 at HO_9 HO_10 HB HO468 hHeld ⊢
                              refine pure_ (i := 0) (N := some 136) (v := ?_) (a' := ?_) #[true, false, false, false, false, false, false, false, false] rfl rfl (any_of HT_.out (by kernel_rfl)) (fun _ _ _ h => h) (Or.inl ⟨by rfl, ?_⟩) ?_ ?_
                              rotate_left
                              · intro w'
                                go_simp
                                with_reducible rfl
                              rotate_left
                              · simp only [Act.put, List.setIfInBounds_toArray, List.set_cons_zero, List.set_cons_succ, i64_w, i32_w]
                                rfl
                              refine pure_ (i := 2) (N := some 138) (v := ?_) (a' := ?_) #[true, false, true, false, false, false, false, false, false] rfl rfl (any_of HT_.out (by kernel_rfl)) (fun _ _ _ h => h) (Or.inl ⟨by rfl, ?_⟩) ?_ ?_
                              rotate_left
                              · intro w'
                                go_simp
                                with_reducible rfl
                              rotate_left
                              · simp only [Act.put, List.setIfInBounds_toArray, List.set_cons_zero, List.set_cons_succ, i64_w, i32_w]
                                rfl
                              refine pure_ (i := 3) (N := some 139) (v := ?_) (a' := ?_) #[true, false, true, true, false, false, false, false, false] rfl rfl (any_of HT_.out (by kernel_rfl)) (fun _ _ _ h => h) (Or.inl ⟨by rfl, ?_⟩) ?_ ?_
                              rotate_left
                              · intro w'
                                go_simp
                                with_reducible rfl
                              rotate_left
                              · simp only [Act.put, List.setIfInBounds_toArray, List.set_cons_zero, List.set_cons_succ, i64_w, i32_w]
                                rfl
                              refine pure_ (i := 4) (N := some 140) (v := ?_) (a' := ?_) #[true, false, true, true, true, false, false, false, false] rfl rfl (any_of HT_.out (by kernel_rfl)) (fun _ _ _ h => h) (Or.inl ⟨by rfl, ?_⟩) ?_ ?_
                              rotate_left
                              · intro w'
                                go_simp
                                with_reducible rfl
                              rotate_left
                              · simp only [Act.put, List.setIfInBounds_toArray, List.set_cons_zero, List.set_cons_succ, i64_w, i32_w]
                                rfl
                              refine pure_ (i := 5) (N := some 141) (v := ?_) (a' := ?_) #[true, false, true, true, true, true, false, false, false] rfl rfl (any_of HT_.out (by kernel_rfl)) (fun _ _ _ h => h) (Or.inl ⟨by rfl, ?_⟩) ?_ ?_
                              rotate_left
                              · intro w'
                                go_simp
                                with_reducible rfl
                              rotate_left
                              · simp only [Act.put, List.setIfInBounds_toArray, List.set_cons_zero, List.set_cons_succ, i64_w, i32_w]
                                rfl
                              refine one_ (i := 1) (N := some 137) #[true, true, true, true, true, true, false, false, false] rfl rfl (one_of HT_.out (by kernel_rfl)) (by decide) (fun K hK => ?_)
                              refine goes_ Tryd.func53 (by kernel_rfl) rfl #[.slice Ao21 x10_1.length co21] (by rfl) rfl rfl (by (try simp only [List.map_toArray, List.map_cons, List.map_nil]); first | done | rfl | (simp only [List.length_drop, List.length_take]; rfl)) ?_
                              with_reducible refine (nat_trim.calls k2 (fun k_ => some k_ = (.slice Ao21 x10_1.length co21 : Value).ownBlock) _ _ x10_1 t461 _ ?side1 A81.out).mono ?_
                              (case side1 => exact Kd.R_V (Kd.R_tight rfl (HO_10.out)))
                              rintro e w87 ⟨v462, rfl, ho0, hb⟩
                              refine ⟨_, rfl, ?_⟩
                              have n0_ := Aside0.mk (Kd.R_below (by (with_reducible repeat (first | apply Kd.R_alloc | apply Kd.R_drewN | apply Kd.R_drew)); exact HO_9.out) hb)
                              have n1_ := Aside0.mk (Kd.R_below (by (with_reducible repeat (first | apply Kd.R_alloc | apply Kd.R_drewN | apply Kd.R_drew)); exact HO_10.out) hb)
                              have n2_ := Aside0.mk (Kd.V_below (by (with_reducible repeat (first | apply Kd.V_alloc | apply Kd.V_drewN | apply Kd.V_drew)); exact HO468.out) hb)
                              have n3_ := Aside0.mk (Kd.V_lower (Kd.V_mono (ok' := fun k_ => (w.heap.size ≤ k_) ∧ some k_ ≠ (.slice Ao18 x9_2.length co18 : Value).ownBlock) ho0 (fun k_ hk_ => ⟨Or.elim hk_ (fun hs_ => ((HO_10.out).1 k_ hs_.symm).1) (fun hn_ => (Nat.le_trans (below_size (by repeat (first | (with_reducible first | exact HB.out | apply below_alloc | apply pw_below_drewN | apply below_drew1) | exact HB.out))) hn_)), Or.elim hk_ (fun hs_ => ((HO_10.out).1 k_ hs_.symm).2) (fun hn_ => (Kd.fresh' (Kd.R_lt (by (with_reducible repeat (first | apply Kd.R_alloc | apply Kd.R_drewN | apply Kd.R_drew)); exact HO_9.out)) k_ hn_))⟩)) (below_size (by repeat (first | (with_reducible first | exact HB.out | apply below_alloc | apply pw_below_drewN | apply below_drew1) | exact HB.out))))
                              have n4_ := Aside0.mk (below_step (by repeat (first | (with_reducible first | exact HB.out | apply below_alloc | apply pw_below_drewN | apply below_drew1) | exact HB.out)) hb)
                              clear HO_9
                              clear HO_10
                              clear HO468
                              clear HB
                              have HO_9 := n0_
                              have HO_10 := n1_
                              have HO468 := n2_
                              have HO463 := n3_
                              have HB := n4_
                              clear n0_ n1_ n2_ n3_ n4_
                              (try clear hb)
                              (try clear hb2)
                              (try clear hk)
                              (try clear hi)
                              (try clear ho0)
                              refine hK.out _ _ trivial (fun hHeld => ?_)
                              clear hK K
                              refine norm_ (a' := ?_) ?_ ?_
                              rotate_left
                              · show Act.put _ (some 137) _ = _
                                simp only [Act.put, List.setIfInBounds_toArray, List.set_cons_zero, List.set_cons_succ, i64_w, i32_w]
                                rfl
                              refine one_ (i := 6) (N := some 142) #[true, true, true, true, true, true, true, false, false] rfl rfl (one_of HT_.out (by kernel_rfl)) (by decide) (fun K hK => ?_)
                              refine goes_ Tryd.func53 (by kernel_rfl) rfl #[.slice Ao18 y464.length y464.length] (by rfl) rfl rfl (by (try simp only [List.map_toArray, List.map_cons, List.map_nil]); first | done | rfl | (simp only [List.length_drop, List.length_take]; rfl)) ?_
                              with_reducible refine (nat_trim.calls k2 (fun k_ => ((w.heap.size ≤ k_) ∧ some k_ ≠ (.slice Ao21 x10_1.length co21 : Value).ownBlock)) _ _ y464 t469 _ ?side1 A84.out).mono ?_
                              (case side1 => exact HO468.out)
                              rintro e w88 ⟨v470, rfl, ho0, hb⟩
                              refine ⟨_, rfl, ?_⟩
                              have n0_ := Aside0.mk (Kd.R_below (by (with_reducible repeat (first | apply Kd.R_alloc | apply Kd.R_drewN | apply Kd.R_drew)); exact HO_9.out) hb)
                              have n1_ := Aside0.mk (Kd.R_below (by (with_reducible repeat (first | apply Kd.R_alloc | apply Kd.R_drewN | apply Kd.R_drew)); exact HO_10.out) hb)
                              have n2_ := Aside0.mk (Kd.V_below (by (with_reducible repeat (first | apply Kd.V_alloc | apply Kd.V_drewN | apply Kd.V_drew)); exact HO468.out) hb)
                              have n3_ := Aside0.mk (Kd.V_below (by (with_reducible repeat (first | apply Kd.V_alloc | apply Kd.V_drewN | apply Kd.V_drew)); exact HO463.out) hb)
                              have n4_ := Aside0.mk (Kd.V_lower (Kd.V_mono (ok' := fun k_ => (w.heap.size ≤ k_) ∧ some k_ ≠ (.slice Ao21 x10_1.length co21 : Value).ownBlock) ho0 (fun k_ hk_ => ⟨Or.elim hk_ (fun hs_ => hs_.1) (fun hn_ => (Nat.le_trans (below_size (by repeat (first | (with_reducible first | exact HB.out | apply below_alloc | apply pw_below_drewN | apply below_drew1) | exact HB.out))) hn_)), Or.elim hk_ (fun hs_ => hs_.2) (fun hn_ => (Kd.fresh' (Kd.R_lt (by (with_reducible repeat (first | apply Kd.R_alloc | apply Kd.R_drewN | apply Kd.R_drew)); exact HO_10.out)) k_ hn_))⟩)) (below_size (by repeat (first | (with_reducible first | exact HB.out | apply below_alloc | apply pw_below_drewN | apply below_drew1) | exact HB.out))))
                              have n5_ := Aside0.mk (below_step (by repeat (first | (with_reducible first | exact HB.out | apply below_alloc | apply pw_below_drewN | apply below_drew1) | exact HB.out)) hb)
                              clear HO_9
                              clear HO_10
                              clear HO468
                              clear HO463
                              clear HB
                              have HO_9 := n0_
                              have HO_10 := n1_
                              have HO468 := n2_
                              have HO463 := n3_
                              have HO471 := n4_
                              have HB := n5_
                              clear n0_ n1_ n2_ n3_ n4_ n5_
                              (try clear hb)
                              (try clear hb2)
                              (try clear hk)
                              (try clear hi)
                              (try clear ho0)
                              refine hK.out _ _ trivial (fun hHeld => ?_)
                              clear hK K
                              refine norm_ (a' := ?_) ?_ ?_
                              rotate_left
                              · show Act.put _ (some 142) _ = _
                                simp only [Act.put, List.setIfInBounds_toArray, List.set_cons_zero, List.set_cons_succ, i64_w, i32_w]
                                rfl
                              refine pure_ (i := 7) (N := some 4) (v := ?_) (a' := ?_) #[true, true, true, true, true, true, true, true, false] rfl rfl (any_of HT_.out (by kernel_rfl)) (fun _ _ _ h => h) (Or.inl ⟨by rfl, ?_⟩) ?_ ?_
                              rotate_left
                              · intro w'
                                go_simp
                                with_reducible rfl
                              rotate_left
                              · simp only [Act.put, List.setIfInBounds_toArray, List.set_cons_zero, List.set_cons_succ, i64_w, i32_w]
                                rfl
                              refine pure_ (i := 8) (N := some 5) (v := ?_) (a' := ?_) #[true, true, true, true, true, true, true, true, true] rfl rfl (any_of HT_.out (by kernel_rfl)) (fun _ _ _ h => h) (Or.inl ⟨by rfl, ?_⟩) ?_ ?_
                              rotate_left
                              · intro w'
                                go_simp
                                with_reducible rfl
                              rotate_left
                              · simp only [Act.put, List.setIfInBounds_toArray, List.set_cons_zero, List.set_cons_succ, i64_w, i32_w]
                                rfl
                              refine done_ (done_of HT_.out (by kernel_rfl)) ?_
                              try go_wp2
                              go_ret2
                              exact ⟨_, _, by first | rfl | (simp [errW_none, errW_some] <;> rfl) | (simp only [← hji3, ← hji11]; first | rfl | (simp [errW_none, errW_some] <;> rfl)) | (simp [*, errW_none, errW_some] <;> rfl), by (with_reducible repeat (first | apply Kd.V_alloc | apply Kd.V_drewN | apply Kd.V_drew)); exact Kd.V_mono HO463.out (fun _ hk => hk.1), by (with_reducible repeat (first | apply Kd.V_alloc | apply Kd.V_drewN | apply Kd.V_drew)); exact Kd.V_mono HO471.out (fun _ hk => hk.1), by repeat (first | (with_reducible first | exact HB.out | apply below_alloc | apply pw_below_drewN | apply below_drew1) | exact HB.out)⟩
                            · rw [if_neg c83] at H
                              exact absurd H (by simp)
                          · rw [if_neg c82] at H
                            exact absurd H (by simp)
            · rw [if_neg c13] at H
              exact absurd H (by simp)
          · rw [if_neg c12] at H
            exact absurd H (by simp)
        · rw [if_neg c9] at H
          exact absurd H (by simp)
      · rw [if_neg c8] at H
        exact absurd H (by simp)
    · rw [if_neg c5] at H
      exact absurd H (by simp)
  · rw [if_neg c4] at H
    exact absurd H (by simp)
end Go.Proofs.YthgmkigfgcejgaaDoor.PNat
