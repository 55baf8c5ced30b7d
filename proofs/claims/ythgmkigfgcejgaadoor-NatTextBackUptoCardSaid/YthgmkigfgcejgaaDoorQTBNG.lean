/- nat's and the reference's Ten and Bits as plain arithmetic; nat's Of. -/
import Derived.Test.YthgmkigfgcejgaaDoorQTBNF
import Derived.Test.YthgmkigfgcejgaaDoorQTBPNatx0
import Derived.Test.YthgmkigfgcejgaaDoorQTBPNatx2
import Derived.Test.YthgmkigfgcejgaaDoorQTBPNatx5
import Derived.Test.YthgmkigfgcejgaaDoorQTBPNatx1
import Derived.Test.YthgmkigfgcejgaaDoorQTBPNatx4
import Derived.Test.YthgmkigfgcejgaaDoorQTBPNatx8
import Derived.Test.YthgmkigfgcejgaaDoorQTBPNatx3
import Derived.Test.YthgmkigfgcejgaaDoorQTBM
import Derived.Test.YthgmkigfgcejgaaDoorQTBWWords
import Derived.Test.YthgmkigfgcejgaaDoorQTBWMore
import Derived.Test.YthgmkigfgcejgaaDoorQTBWLast
set_option linter.unusedVariables false
set_option linter.unusedSimpArgs false
namespace Go.Proofs.YthgmkigfgcejgaaDoor.PNat
open Go.RowKit Go.Proofs.YthgmkigfgcejgaaDoorW.PrintWords Go.Proofs.YthgmkigfgcejgaaDoorW.PrintLast Go.Proofs.YthgmkigfgcejgaaDoorW.PrintMore Go.Proofs.YthgmkigfgcejgaaDoor.M Go.Proofs.YthgmkigfgcejgaaDoor.NM
attribute [local irreducible] add64Lo add64Hi sub64Lo sub64Hi val
theorem pw10_pos (i : Nat) : 0 < pw 10 i := pw_pos (by decide) i
theorem pw10_ltB (i : Nat) : pw 10 i < pw B (i + 1) := by
  induction i with
  | zero => rw [pw_zero, pw_succ, pw_zero, Int.one_mul]; exact B1
  | succ i ih =>
    rw [pw_succ, pw_succ B]
    have h1 := pw_pos Bpos (i + 1)
    have h2 : pw 10 i * 10 ≤ pw B (i + 1) * 10 := Int.mul_le_mul_of_nonneg_right (Int.le_of_lt ih) (by decide)
    have h3 : pw B (i + 1) * 10 < pw B (i + 1) * B := Int.mul_lt_mul_of_pos_left (by rw [Bdef]; decide) h1
    omega
theorem val_one (b x : Int) : val b [x] = x := by rw [val_cons, val_nil]; omega
theorem Dig_one {b x : Int} (h0 : 0 ≤ x) (h1 : x < b) : Dig b [x] := Dig.cons h0 h1 (Dig.nil b)
theorem pw10_19 : pw 10 19 = 10000000000000000000 := by rw [pw_def]; decide
theorem nOf_ev {v : Int} (h0 : 0 ≤ v) (h1 : v < B) : Ev (fun k => nat_Of.f k v) (enc B v) := by
  have := trim_ev (Dig_one h0 h1) (by simp)
  rw [val_one] at this
  exact Ev.congr (fun k => rfl) (Ev.bind this (Ev.now _))
def bl (A : Int) : Nat := (enc 2 A).length
theorem two1 : (1 : Int) < 2 := by decide
theorem bl_zero : bl 0 = 0 := by unfold bl; rw [enc_zero]; rfl
theorem bl_lt {A : Int} (hA : 0 ≤ A) (i : Nat) : i < bl A ↔ 0 < A / pw 2 i := enc_lt two1 hA i
theorem bl_half {A : Int} (h : 0 < A) : bl A = bl (A / 2) + 1 := by unfold bl; rw [enc_pos two1 h]; rfl
theorem bl_shift {A : Int} (hA : 0 ≤ A) (m : Nat) (h : 0 < A / pw 2 m) : bl A = m + bl (A / pw 2 m) := by
  have h1 := enc_drop two1 hA m
  have h2 := (bl_lt hA m).2 h
  unfold bl at *
  rw [← h1, List.length_drop]
  omega
theorem bl_le {A : Int} {m : Nat} (h : A < pw 2 m) : bl A ≤ m := penc_len two1 h
theorem pw2_8 : pw 2 8 = 256 := by rw [pw_def]; decide
theorem pw2_16 : pw 2 16 = 65536 := by rw [pw_def]; decide
theorem pw2_32 : pw 2 32 = 4294967296 := by rw [pw_def]; decide
theorem bl_shift8 {A : Int} (hA : 0 ≤ A) (h : 256 ≤ A) : bl A = 8 + bl (A / 256) := by
  have := bl_shift hA 8 (by rw [pw2_8]; omega)
  rw [pw2_8] at this
  exact this
theorem bl_shift16 {A : Int} (hA : 0 ≤ A) (h : 65536 ≤ A) : bl A = 16 + bl (A / 65536) := by
  have := bl_shift hA 16 (by rw [pw2_16]; omega)
  rw [pw2_16] at this
  exact this
theorem bl_shift32 {A : Int} (hA : 0 ≤ A) (h : 4294967296 ≤ A) : bl A = 32 + bl (A / 4294967296) := by
  have := bl_shift hA 32 (by rw [pw2_32]; omega)
  rw [pw2_32] at this
  exact this
def blN : Nat → Nat → Nat
  | 0, _ => 0
  | k + 1, v => if v = 0 then 0 else blN k (v / 2) + 1
theorem bl_eq : ∀ (k v : Nat), v < 2 ^ k → bl (v : Int) = blN k v := by
  intro k
  induction k with
  | zero => intro v h; obtain rfl : v = 0 := by simpa using h
            exact bl_zero
  | succ k ih =>
    intro v h
    unfold blN
    by_cases h0 : v = 0
    · rw [if_pos h0, h0]; exact bl_zero
    · rw [if_neg h0, bl_half (by omega), ← ih (v / 2) (by rw [Nat.pow_succ] at h; omega)]
      congr 1
theorem tab_len {t : ByteArray} (h : ∀ v : Fin 256, bt t (v.val : Int) = (blN 8 v.val : Int)) {x : Int} (h0 : 0 ≤ x) (h1 : x < 256) : bt t x = (bl x : Int) := by
  obtain ⟨v, rfl⟩ := Int.eq_ofNat_of_zero_le h0
  rw [bl_eq 8 v (by omega)]
  exact h ⟨v, by omega⟩
def len8 : ByteArray := ⟨#[0, 1, 2, 2, 3, 3, 3, 3, 4, 4, 4, 4, 4, 4, 4, 4, 5, 5, 5, 5, 5, 5, 5, 5, 5, 5, 5, 5, 5, 5, 5, 5, 6, 6, 6, 6, 6, 6, 6, 6, 6, 6, 6, 6, 6, 6, 6, 6, 6, 6, 6, 6, 6, 6, 6, 6, 6, 6, 6, 6, 6, 6, 6, 6, 7, 7, 7, 7, 7, 7, 7, 7, 7, 7, 7, 7, 7, 7, 7, 7, 7, 7, 7, 7, 7, 7, 7, 7, 7, 7, 7, 7, 7, 7, 7, 7, 7, 7, 7, 7, 7, 7, 7, 7, 7, 7, 7, 7, 7, 7, 7, 7, 7, 7, 7, 7, 7, 7, 7, 7, 7, 7, 7, 7, 7, 7, 7, 7, 8, 8, 8, 8, 8, 8, 8, 8, 8, 8, 8, 8, 8, 8, 8, 8, 8, 8, 8, 8, 8, 8, 8, 8, 8, 8, 8, 8, 8, 8, 8, 8, 8, 8, 8, 8, 8, 8, 8, 8, 8, 8, 8, 8, 8, 8, 8, 8, 8, 8, 8, 8, 8, 8, 8, 8, 8, 8, 8, 8, 8, 8, 8, 8, 8, 8, 8, 8, 8, 8, 8, 8, 8, 8, 8, 8, 8, 8, 8, 8, 8, 8, 8, 8, 8, 8, 8, 8, 8, 8, 8, 8, 8, 8, 8, 8, 8, 8, 8, 8, 8, 8, 8, 8, 8, 8, 8, 8, 8, 8, 8, 8, 8, 8, 8, 8, 8, 8, 8, 8, 8, 8, 8, 8, 8, 8, 8, 8]⟩
theorem len64_step (k : Nat) (x n : Int) : bits_Len64.j0 (k + 1) x n = if x ≥ 65536 then (if x / 65536 ≥ 256 then (if 0 ≤ x / 65536 / 256 % 256 then (if x / 65536 / 256 % 256 < 256 then some (wrap64 (wrap64 (wrap64 (n + 16) + 8) + wrap64 (bt len8 (x / 65536 / 256 % 256)))) else none) else none) else (if 0 ≤ x / 65536 % 256 then (if x / 65536 % 256 < 256 then some (wrap64 (wrap64 (n + 16) + wrap64 (bt len8 (x / 65536 % 256)))) else none) else none)) else (if x ≥ 256 then (if 0 ≤ x / 256 % 256 then (if x / 256 % 256 < 256 then some (wrap64 (wrap64 (n + 8) + wrap64 (bt len8 (x / 256 % 256)))) else none) else none) else (if 0 ≤ x % 256 then (if x % 256 < 256 then some (wrap64 (n + wrap64 (bt len8 (x % 256)))) else none) else none)) := rfl
theorem len8_spec {x : Int} (h0 : 0 ≤ x) (h1 : x < 256) : bt len8 x = (bl x : Int) := tab_len (by decide +kernel) h0 h1
attribute [local irreducible] len8
theorem len64_j0 {x : Int} (n : Int) (h0 : 0 ≤ x) (h1 : x < 4294967296) (hn : 0 ≤ n) (hn1 : n ≤ 32) : Ev (fun k => bits_Len64.j0 k x n) (n + bl x) := by
  have b8 : ∀ y : Int, 0 ≤ y → y < 256 → bl y ≤ 8 := fun y hy0 hy => bl_le (by rw [pw2_8]; exact hy)
  refine Ev.step (f := fun _ => some (n + bl x)) (fun k => ?_) (Ev.now _)
  rw [len64_step]
  by_cases c1 : 65536 ≤ x
  · have e1 := bl_shift16 h0 c1
    rw [if_pos (by omega)]
    by_cases c2 : 256 ≤ x / 65536
    · have e2 := bl_shift8 (by omega) c2
      have b := b8 (x / 65536 / 256) (by omega) (by omega)
      rw [if_pos (by omega), if_pos (by omega), if_pos (by omega), Int.emod_eq_of_lt (by omega) (by omega), len8_spec (by omega) (by omega)]
      rw [w64 (x := (bl (x / 65536 / 256) : Int)) (by omega) (by omega), w64 (x := n + 16) (by omega) (by omega), w64 (x := n + 16 + 8) (by omega) (by omega), w64 (by omega) (by omega)]
      congr 1
      omega
    · have b := b8 (x / 65536) (by omega) (by omega)
      rw [if_neg (by omega), if_pos (by omega), if_pos (by omega), Int.emod_eq_of_lt (by omega) (by omega), len8_spec (by omega) (by omega)]
      rw [w64 (x := (bl (x / 65536) : Int)) (by omega) (by omega), w64 (x := n + 16) (by omega) (by omega), w64 (by omega) (by omega)]
      congr 1
      omega
  · rw [if_neg (by omega)]
    by_cases c2 : 256 ≤ x
    · have e2 := bl_shift8 h0 c2
      have b := b8 (x / 256) (by omega) (by omega)
      rw [if_pos (by omega), if_pos (by omega), if_pos (by omega), Int.emod_eq_of_lt (by omega) (by omega), len8_spec (by omega) (by omega)]
      rw [w64 (x := (bl (x / 256) : Int)) (by omega) (by omega), w64 (x := n + 8) (by omega) (by omega), w64 (by omega) (by omega)]
      congr 1
      omega
    · have b := b8 x (by omega) (by omega)
      rw [if_neg (by omega), if_pos (by omega), if_pos (by omega), Int.emod_eq_of_lt (by omega) (by omega), len8_spec (by omega) (by omega)]
      rw [w64 (x := (bl x : Int)) (by omega) (by omega), w64 (by omega) (by omega)]
theorem len64_ev {x : Int} (h0 : 0 ≤ x) (h1 : x < B) : Ev (fun k => bits_Len64.f k x) (bl x : Int) := by
  rw [Bdef] at h1
  by_cases c : 4294967296 ≤ x
  · have e := bl_shift32 h0 c
    refine Ev.congr (f := fun k => bits_Len64.j0 k (x / 4294967296) 32) (fun k => ?_) (by rw [e]; exact len64_j0 32 (by omega) (by omega) (by omega) (by omega))
    unfold bits_Len64.f
    rw [if_pos (by omega)]
  · have := len64_j0 (x := x) 0 h0 (by omega) (by omega) (by omega)
    rw [Int.zero_add] at this
    refine Ev.congr (fun k => ?_) this
    unfold bits_Len64.f
    rw [if_neg (by omega)]
end Go.Proofs.YthgmkigfgcejgaaDoor.PNat
