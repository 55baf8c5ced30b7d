/- Part 5 of what the proof needs. -/
import Derived.Test.YtpfnkbnepcchgaaGreatDoorKTFAA
import Derived.Test.YtpfnkbnepcchgaaGreatDoorKTFAB
import Derived.Test.YtpfnkbnepcchgaaGreatDoorKTFAD
set_option linter.unusedSimpArgs false
set_option linter.unusedVariables false
section
namespace Go.Proofs.Yy.SR
open Go.RowKit Go.Proofs.Yy.SC
theorem eqc {c : UInt8} {n : Nat} (hn : n < 256) (h : (c.toNat : Int) = (n : Int)) : c = UInt8.ofNat n := by
 apply UInt8.toNat_inj.1
 have e : (UInt8.ofNat n).toNat = n := by simp; omega
 rw [e]; omega
theorem cls (c : UInt8) : c = 43 ∨ c = 45 ∨ c = 46 ∨ c = 69 ∨ c = 101 ∨ (48 ≤ (c.toNat : Int) ∧ (c.toNat : Int) ≤ 57) ∨
  ((c.toNat : Int) < 48 ∧ (c.toNat : Int) ≠ 43 ∧ (c.toNat : Int) ≠ 45 ∧ (c.toNat : Int) ≠ 46) ∨ (57 < (c.toNat : Int) ∧ (c.toNat : Int) ≠ 69 ∧ (c.toNat : Int) ≠ 101) := by
 by_cases h1 : (c.toNat : Int) = 43
 ·exact .inl (eqc (n := 43) (by decide) h1)
 by_cases h2 : (c.toNat : Int) = 45
 ·exact .inr (.inl (eqc (n := 45) (by decide) h2))
 by_cases h3 : (c.toNat : Int) = 46
 ·exact .inr (.inr (.inl (eqc (n := 46) (by decide) h3)))
 by_cases h4 : (c.toNat : Int) = 69
 ·exact .inr (.inr (.inr (.inl (eqc (n := 69) (by decide) h4))))
 by_cases h5 : (c.toNat : Int) = 101
 ·exact .inr (.inr (.inr (.inr (.inl (eqc (n := 101) (by decide) h5)))))
 refine .inr (.inr (.inr (.inr (.inr ?_))))
 omega
theorem dg_of {c : UInt8} (h : 48 ≤ (c.toNat : Int) ∧ (c.toNat : Int) ≤ 57) : dg c = true := by
 unfold dg; simp only [Bool.and_eq_true, decide_eq_true_iff]; omega
theorem dg_low {c : UInt8} (h : (c.toNat : Int) < 48 ∧ (c.toNat : Int) ≠ 43 ∧ (c.toNat : Int) ≠ 45 ∧ (c.toNat : Int) ≠ 46) : dg c = false ∧ sg c = false ∧ eb c = false ∧ (c == 46) = false := by
 refine ⟨?_, ?_, ?_, ?_⟩
 ·unfold dg; simp only [Bool.and_eq_false_iff, decide_eq_false_iff_not]; omega
 ·unfold sg; simp only [Bool.or_eq_false_iff, beq_eq_false_iff_ne, ne_eq]; constructor <;> (rintro rfl; simp at h)
 ·unfold eb; simp only [Bool.or_eq_false_iff, beq_eq_false_iff_ne, ne_eq]; constructor <;> (rintro rfl; simp at h)
 ·simp only [beq_eq_false_iff_ne, ne_eq]; rintro rfl; simp at h
theorem dg_high {c : UInt8} (h : 57 < (c.toNat : Int) ∧ (c.toNat : Int) ≠ 69 ∧ (c.toNat : Int) ≠ 101) : dg c = false ∧ sg c = false ∧ eb c = false ∧ (c == 46) = false := by
 refine ⟨?_, ?_, ?_, ?_⟩
 ·unfold dg; simp only [Bool.and_eq_false_iff, decide_eq_false_iff_not]; omega
 ·unfold sg; simp only [Bool.or_eq_false_iff, beq_eq_false_iff_ne, ne_eq]; constructor <;> (rintro rfl; simp at h)
 ·unfold eb; simp only [Bool.or_eq_false_iff, beq_eq_false_iff_ne, ne_eq]; constructor <;> (rintro rfl; simp at h)
 ·simp only [beq_eq_false_iff_ne, ne_eq]; rintro rfl; simp at h
theorem st_of {r : R} (h : okst r = true) : r.st = 0 ∨ r.st = 2 ∨ r.st = 3 ∨ r.st = 4 ∨ r.st = 5 ∨ r.st = 6 ∨ r.st = 7 ∨ r.st = 8 := by
 unfold okst at h
 simp only [Bool.or_eq_true, beq_iff_eq] at h
 omega
theorem take_none (B b k : Nat) (r : R) (c : UInt8) (w : World) (h : At B b r w) (hi : Inv k r) (ht : tk r c = none) :
  Calls Tryz.prog 62 #[.pointer (some ⟨b, 0, none⟩), .int .u8 (c.toNat : Int)] w fun e w' => e = .returned (.bool false) ∧ Below B w w' := by
 rcases st_of hi.st with hs | hs | hs | hs | hs | hs | hs | hs
 ·rcases cls c with rfl | rfl | rfl | rfl | rfl | hc | hc | hc
  ·exfalso; unfold tk at ht; rw [hs] at ht; simp [sg, eb, dg] at ht
  ·exfalso; unfold tk at ht; rw [hs] at ht; simp [sg, eb, dg] at ht
  ·exact take0_no46 B b r w h hs
  ·exact take0_no69 B b r w h hs
  ·exact take0_no101 B b r w h hs
  ·exfalso; have hd := dg_of hc; obtain ⟨a1, a2, a3⟩ := dg_not_sg hd; unfold tk at ht; rw [hs] at ht; simp [hd, a1, a2, a3] at ht
  ·exact take0_low B b r _ hc w h hs
  ·exact take0_high B b r _ hc w h hs
 ·rcases cls c with rfl | rfl | rfl | rfl | rfl | hc | hc | hc
  ·exact take2_no43 B b r w h hs
  ·exact take2_no45 B b r w h hs
  ·exact take2_no46 B b r w h hs
  ·exact take2_no69 B b r w h hs
  ·exact take2_no101 B b r w h hs
  ·exfalso; have hd := dg_of hc; obtain ⟨a1, a2, a3⟩ := dg_not_sg hd; unfold tk at ht; rw [hs] at ht; simp [hd, a1, a2, a3] at ht
  ·exact take2_low B b r _ hc w h hs
  ·exact take2_high B b r _ hc w h hs
 ·rcases cls c with rfl | rfl | rfl | rfl | rfl | hc | hc | hc
  ·exact take3_no43 B b r w h hs
  ·exact take3_no45 B b r w h hs
  ·exfalso; unfold tk at ht; rw [hs] at ht; simp [sg, eb, dg] at ht
  ·exfalso; unfold tk at ht; rw [hs] at ht; simp [sg, eb, dg] at ht
  ·exfalso; unfold tk at ht; rw [hs] at ht; simp [sg, eb, dg] at ht
  ·exfalso; have hd := dg_of hc; obtain ⟨a1, a2, a3⟩ := dg_not_sg hd; unfold tk at ht; rw [hs] at ht; simp [hd, a1, a2, a3] at ht
  ·exact take3_low B b r _ hc w h hs
  ·exact take3_high B b r _ hc w h hs
 ·rcases cls c with rfl | rfl | rfl | rfl | rfl | hc | hc | hc
  ·exact take4_no43 B b r w h hs
  ·exact take4_no45 B b r w h hs
  ·exact take4_no46 B b r w h hs
  ·exact take4_no69 B b r w h hs
  ·exact take4_no101 B b r w h hs
  ·exfalso; have hd := dg_of hc; obtain ⟨a1, a2, a3⟩ := dg_not_sg hd; unfold tk at ht; rw [hs] at ht; simp [hd, a1, a2, a3] at ht
  ·exact take4_low B b r _ hc w h hs
  ·exact take4_high B b r _ hc w h hs
 ·rcases cls c with rfl | rfl | rfl | rfl | rfl | hc | hc | hc
  ·exact take5_no43 B b r w h hs
  ·exact take5_no45 B b r w h hs
  ·exact take5_no46 B b r w h hs
  ·exfalso; unfold tk at ht; rw [hs] at ht; simp [sg, eb, dg] at ht
  ·exfalso; unfold tk at ht; rw [hs] at ht; simp [sg, eb, dg] at ht
  ·exfalso; have hd := dg_of hc; obtain ⟨a1, a2, a3⟩ := dg_not_sg hd; unfold tk at ht; rw [hs] at ht; simp [hd, a1, a2, a3] at ht
  ·exact take5_low B b r _ hc w h hs
  ·exact take5_high B b r _ hc w h hs
 ·rcases cls c with rfl | rfl | rfl | rfl | rfl | hc | hc | hc
  ·exfalso; unfold tk at ht; rw [hs] at ht; simp [sg, eb, dg] at ht
  ·exfalso; unfold tk at ht; rw [hs] at ht; simp [sg, eb, dg] at ht
  ·exact take6_no46 B b r w h hs
  ·exact take6_no69 B b r w h hs
  ·exact take6_no101 B b r w h hs
  ·exfalso; have hd := dg_of hc; obtain ⟨a1, a2, a3⟩ := dg_not_sg hd; unfold tk at ht; rw [hs] at ht; simp [hd, a1, a2, a3] at ht
  ·exact take6_low B b r _ hc w h hs
  ·exact take6_high B b r _ hc w h hs
 ·rcases cls c with rfl | rfl | rfl | rfl | rfl | hc | hc | hc
  ·exact take7_no43 B b r w h hs
  ·exact take7_no45 B b r w h hs
  ·exact take7_no46 B b r w h hs
  ·exact take7_no69 B b r w h hs
  ·exact take7_no101 B b r w h hs
  ·exfalso; have hd := dg_of hc; obtain ⟨a1, a2, a3⟩ := dg_not_sg hd; unfold tk at ht; rw [hs] at ht; simp [hd, a1, a2, a3] at ht
  ·exact take7_low B b r _ hc w h hs
  ·exact take7_high B b r _ hc w h hs
 ·rcases cls c with rfl | rfl | rfl | rfl | rfl | hc | hc | hc
  ·exact take8_no43 B b r w h hs
  ·exact take8_no45 B b r w h hs
  ·exact take8_no46 B b r w h hs
  ·exact take8_no69 B b r w h hs
  ·exact take8_no101 B b r w h hs
  ·exfalso; have hd := dg_of hc; obtain ⟨a1, a2, a3⟩ := dg_not_sg hd; unfold tk at ht; rw [hs] at ht; simp [hd, a1, a2, a3] at ht
  ·exact take8_low B b r _ hc w h hs
  ·exact take8_high B b r _ hc w h hs
theorem take_some (B b k : Nat) (r r' : R) (c : UInt8) (w : World) (h : At B b r w) (hi : Inv k r) (hk : k < 1000000) (hBw : B ≤ w.heap.size) (ht : tk r c = some r') :
  Calls Tryz.prog 62 #[.pointer (some ⟨b, 0, none⟩), .int .u8 (c.toNat : Int)] w fun e w' => e = .returned (.bool true) ∧ At B b r' w' ∧ Below B w w' := by
 have hlen : r.ds.length < 1000000 := by have := hi.len; omega
 have hbeh : r.beh < 1000000 := by have := hi.beh; omega
 rcases st_of hi.st with hs | hs | hs | hs | hs | hs | hs | hs
 ·rcases cls c with rfl | rfl | rfl | rfl | rfl | hc | hc | hc
  ·unfold tk at ht; rw [hs] at ht; simp [sg, eb, dg] at ht; subst ht; exact take0_43 B b r w h hs
  ·unfold tk at ht; rw [hs] at ht; simp [sg, eb, dg] at ht; subst ht; exact take0_45 B b r w h hs
  ·exfalso; unfold tk at ht; rw [hs] at ht; simp [sg, eb, dg] at ht
  ·exfalso; unfold tk at ht; rw [hs] at ht; simp [sg, eb, dg] at ht
  ·exfalso; unfold tk at ht; rw [hs] at ht; simp [sg, eb, dg] at ht
  ·have hd := dg_of hc; obtain ⟨a1, a2, a3⟩ := dg_not_sg hd; unfold tk at ht; rw [hs] at ht; simp only [hd, a1, a2, a3, if_true, Bool.false_eq_true, if_false, Option.some.injEq] at ht; subst ht; exact take0_digit B b r c _ rfl hc w h hs hBw hlen hbeh
  ·exfalso; obtain ⟨a0, a1, a2, a3⟩ := dg_low hc; unfold tk at ht; rw [hs] at ht; simp [a0, a1, a2, a3] at ht
  ·exfalso; obtain ⟨a0, a1, a2, a3⟩ := dg_high hc; unfold tk at ht; rw [hs] at ht; simp [a0, a1, a2, a3] at ht
 ·rcases cls c with rfl | rfl | rfl | rfl | rfl | hc | hc | hc
  ·exfalso; unfold tk at ht; rw [hs] at ht; simp [sg, eb, dg] at ht
  ·exfalso; unfold tk at ht; rw [hs] at ht; simp [sg, eb, dg] at ht
  ·exfalso; unfold tk at ht; rw [hs] at ht; simp [sg, eb, dg] at ht
  ·exfalso; unfold tk at ht; rw [hs] at ht; simp [sg, eb, dg] at ht
  ·exfalso; unfold tk at ht; rw [hs] at ht; simp [sg, eb, dg] at ht
  ·have hd := dg_of hc; obtain ⟨a1, a2, a3⟩ := dg_not_sg hd; unfold tk at ht; rw [hs] at ht; simp only [hd, a1, a2, a3, if_true, Bool.false_eq_true, if_false, Option.some.injEq] at ht; subst ht; exact take2_digit B b r c _ rfl hc w h hs hBw hlen hbeh
  ·exfalso; obtain ⟨a0, a1, a2, a3⟩ := dg_low hc; unfold tk at ht; rw [hs] at ht; simp [a0, a1, a2, a3] at ht
  ·exfalso; obtain ⟨a0, a1, a2, a3⟩ := dg_high hc; unfold tk at ht; rw [hs] at ht; simp [a0, a1, a2, a3] at ht
 ·rcases cls c with rfl | rfl | rfl | rfl | rfl | hc | hc | hc
  ·exfalso; unfold tk at ht; rw [hs] at ht; simp [sg, eb, dg] at ht
  ·exfalso; unfold tk at ht; rw [hs] at ht; simp [sg, eb, dg] at ht
  ·unfold tk at ht; rw [hs] at ht; simp [sg, eb, dg] at ht; subst ht; exact take3_46 B b r w h hs
  ·unfold tk at ht; rw [hs] at ht; simp [sg, eb, dg] at ht; subst ht; exact take3_69 B b r w h hs
  ·unfold tk at ht; rw [hs] at ht; simp [sg, eb, dg] at ht; subst ht; exact take3_101 B b r w h hs
  ·have hd := dg_of hc; obtain ⟨a1, a2, a3⟩ := dg_not_sg hd; unfold tk at ht; rw [hs] at ht; simp only [hd, a1, a2, a3, if_true, Bool.false_eq_true, if_false, Option.some.injEq] at ht; subst ht; have q := take3_digit B b r c _ rfl hc w h hs hBw hlen hbeh; rw [hs] at q; exact q
  ·exfalso; obtain ⟨a0, a1, a2, a3⟩ := dg_low hc; unfold tk at ht; rw [hs] at ht; simp [a0, a1, a2, a3] at ht
  ·exfalso; obtain ⟨a0, a1, a2, a3⟩ := dg_high hc; unfold tk at ht; rw [hs] at ht; simp [a0, a1, a2, a3] at ht
 ·rcases cls c with rfl | rfl | rfl | rfl | rfl | hc | hc | hc
  ·exfalso; unfold tk at ht; rw [hs] at ht; simp [sg, eb, dg] at ht
  ·exfalso; unfold tk at ht; rw [hs] at ht; simp [sg, eb, dg] at ht
  ·exfalso; unfold tk at ht; rw [hs] at ht; simp [sg, eb, dg] at ht
  ·exfalso; unfold tk at ht; rw [hs] at ht; simp [sg, eb, dg] at ht
  ·exfalso; unfold tk at ht; rw [hs] at ht; simp [sg, eb, dg] at ht
  ·have hd := dg_of hc; obtain ⟨a1, a2, a3⟩ := dg_not_sg hd; unfold tk at ht; rw [hs] at ht; simp only [hd, a1, a2, a3, if_true, Bool.false_eq_true, if_false, Option.some.injEq] at ht; subst ht; exact take4_digit B b r c _ rfl hc w h hs hBw hlen hbeh
  ·exfalso; obtain ⟨a0, a1, a2, a3⟩ := dg_low hc; unfold tk at ht; rw [hs] at ht; simp [a0, a1, a2, a3] at ht
  ·exfalso; obtain ⟨a0, a1, a2, a3⟩ := dg_high hc; unfold tk at ht; rw [hs] at ht; simp [a0, a1, a2, a3] at ht
 ·rcases cls c with rfl | rfl | rfl | rfl | rfl | hc | hc | hc
  ·exfalso; unfold tk at ht; rw [hs] at ht; simp [sg, eb, dg] at ht
  ·exfalso; unfold tk at ht; rw [hs] at ht; simp [sg, eb, dg] at ht
  ·exfalso; unfold tk at ht; rw [hs] at ht; simp [sg, eb, dg] at ht
  ·unfold tk at ht; rw [hs] at ht; simp [sg, eb, dg] at ht; subst ht; exact take5_69 B b r w h hs
  ·unfold tk at ht; rw [hs] at ht; simp [sg, eb, dg] at ht; subst ht; exact take5_101 B b r w h hs
  ·have hd := dg_of hc; obtain ⟨a1, a2, a3⟩ := dg_not_sg hd; unfold tk at ht; rw [hs] at ht; simp only [hd, a1, a2, a3, if_true, Bool.false_eq_true, if_false, Option.some.injEq] at ht; subst ht; exact take5_digit B b r c _ rfl hc w h hs hBw hlen hbeh
  ·exfalso; obtain ⟨a0, a1, a2, a3⟩ := dg_low hc; unfold tk at ht; rw [hs] at ht; simp [a0, a1, a2, a3] at ht
  ·exfalso; obtain ⟨a0, a1, a2, a3⟩ := dg_high hc; unfold tk at ht; rw [hs] at ht; simp [a0, a1, a2, a3] at ht
 ·rcases cls c with rfl | rfl | rfl | rfl | rfl | hc | hc | hc
  ·unfold tk at ht; rw [hs] at ht; simp [sg, eb, dg] at ht; subst ht; exact take6_43 B b r w h hs
  ·unfold tk at ht; rw [hs] at ht; simp [sg, eb, dg] at ht; subst ht; exact take6_45 B b r w h hs
  ·exfalso; unfold tk at ht; rw [hs] at ht; simp [sg, eb, dg] at ht
  ·exfalso; unfold tk at ht; rw [hs] at ht; simp [sg, eb, dg] at ht
  ·exfalso; unfold tk at ht; rw [hs] at ht; simp [sg, eb, dg] at ht
  ·have hd := dg_of hc; obtain ⟨a1, a2, a3⟩ := dg_not_sg hd; unfold tk at ht; rw [hs] at ht; simp only [hd, a1, a2, a3, if_true, Bool.false_eq_true, if_false, Option.some.injEq] at ht; subst ht; exact take6_digit B b r c _ rfl hc w h hs hi.exp
  ·exfalso; obtain ⟨a0, a1, a2, a3⟩ := dg_low hc; unfold tk at ht; rw [hs] at ht; simp [a0, a1, a2, a3] at ht
  ·exfalso; obtain ⟨a0, a1, a2, a3⟩ := dg_high hc; unfold tk at ht; rw [hs] at ht; simp [a0, a1, a2, a3] at ht
 ·rcases cls c with rfl | rfl | rfl | rfl | rfl | hc | hc | hc
  ·exfalso; unfold tk at ht; rw [hs] at ht; simp [sg, eb, dg] at ht
  ·exfalso; unfold tk at ht; rw [hs] at ht; simp [sg, eb, dg] at ht
  ·exfalso; unfold tk at ht; rw [hs] at ht; simp [sg, eb, dg] at ht
  ·exfalso; unfold tk at ht; rw [hs] at ht; simp [sg, eb, dg] at ht
  ·exfalso; unfold tk at ht; rw [hs] at ht; simp [sg, eb, dg] at ht
  ·have hd := dg_of hc; obtain ⟨a1, a2, a3⟩ := dg_not_sg hd; unfold tk at ht; rw [hs] at ht; simp only [hd, a1, a2, a3, if_true, Bool.false_eq_true, if_false, Option.some.injEq] at ht; subst ht; exact take7_digit B b r c _ rfl hc w h hs hi.exp
  ·exfalso; obtain ⟨a0, a1, a2, a3⟩ := dg_low hc; unfold tk at ht; rw [hs] at ht; simp [a0, a1, a2, a3] at ht
  ·exfalso; obtain ⟨a0, a1, a2, a3⟩ := dg_high hc; unfold tk at ht; rw [hs] at ht; simp [a0, a1, a2, a3] at ht
 ·rcases cls c with rfl | rfl | rfl | rfl | rfl | hc | hc | hc
  ·exfalso; unfold tk at ht; rw [hs] at ht; simp [sg, eb, dg] at ht
  ·exfalso; unfold tk at ht; rw [hs] at ht; simp [sg, eb, dg] at ht
  ·exfalso; unfold tk at ht; rw [hs] at ht; simp [sg, eb, dg] at ht
  ·exfalso; unfold tk at ht; rw [hs] at ht; simp [sg, eb, dg] at ht
  ·exfalso; unfold tk at ht; rw [hs] at ht; simp [sg, eb, dg] at ht
  ·have hd := dg_of hc; obtain ⟨a1, a2, a3⟩ := dg_not_sg hd; unfold tk at ht; rw [hs] at ht; simp only [hd, a1, a2, a3, if_true, Bool.false_eq_true, if_false, Option.some.injEq] at ht; subst ht; exact take8_digit B b r c _ rfl hc w h hs hi.exp
  ·exfalso; obtain ⟨a0, a1, a2, a3⟩ := dg_low hc; unfold tk at ht; rw [hs] at ht; simp [a0, a1, a2, a3] at ht
  ·exfalso; obtain ⟨a0, a1, a2, a3⟩ := dg_high hc; unfold tk at ht; rw [hs] at ht; simp [a0, a1, a2, a3] at ht
end Go.Proofs.Yy.SR
end
section
namespace Go.Proofs.Yw.PrintLast
open Go.Proofs.Yw.PrintWords (Aside0)
def needsOf (md : Region.Mode) (o : Oper) : List Nat := (o.after.toList.filter (fun e => Region.binds md e)).map (fun e => e.on)
def clashOf (md : Region.Mode) (ops : Array Oper) (i : Nat) (oi : Oper) : List Nat := (List.range ops.size).filter fun j => !(j == i) && match ops[j]? with
 | some oj => !(oj.after.any (fun e => Region.binds md e && e.on == i) || oi.apart ops oj)
 | none => false
def rtab (md : Region.Mode) (ops : Array Oper) : Bool × List (List Nat × List Nat) := (Region.noSelect ops, (List.range ops.size).map fun i => match ops[i]? with
 | some o => (needsOf md o, clashOf md ops i o)
 | none => ([], []))
def readyAt (T : List (List Nat × List Nat)) (l : List Bool) (i : Nat) : Bool := !l.getD i true && match T[i]? with
 | some r => r.1.all (fun j => l.getD j false)
 | none => false
def readyT (T : List (List Nat × List Nat)) (l : List Bool) : List Nat := (List.range T.length).filter (readyAt T l)
def freeT (T : List (List Nat × List Nat)) (l : List Bool) (i : Nat) : Bool := match T[i]? with
 | some r => r.2.all (fun j => l.getD j true)
 | none => false
def closedT (T : List (List Nat × List Nat)) (l : List Bool) : Bool := (List.range T.length).all fun j => !l.getD j false || match T[j]? with
 | some r => r.1.all (fun k => l.getD k false)
 | none => true
def reachT (T : List (List Nat × List Nat)) (i : Nat) : Nat → Nat → Bool
 | 0, _ => false
 | fuel + 1, d => match T[d]? with
  | some r => r.1.any fun j => j == i || reachT T i fuel j
  | none => false
def lastT (T : List (List Nat × List Nat)) (l : List Bool) (ds : List Nat) (i : Nat) : Bool := ds.all fun d => l.getD d true || reachT T i T.length d
section
variable {md : Region.Mode} {ops : Array Oper} {T : Bool × List (List Nat × List Nat)} {l l' li lj lk : Array Bool} {ds : List Nat} {i j k : Nat}
theorem gd (l : Array Bool) (j : Nat) (b : Bool) : l.getD j b = l.toList.getD j b := by simp [Array.getD_eq_getD_getElem?, List.getD_eq_getElem?_getD]
theorem needs_all (o : Oper) (p : Nat → Bool) : o.after.all (fun e => !Region.binds md e || p e.on) = (needsOf md o).all p := by
 unfold needsOf
 rw [← Array.all_toList]
 induction o.after.toList with
 | nil => rfl
 | cons e r ih =>
  rw [List.all_cons, ih, List.filter_cons]
  cases h : Region.binds md e <;> simp
theorem needs_any (o : Oper) (p : Nat → Bool) : o.after.any (fun e => Region.binds md e && p e.on) = (needsOf md o).any p := by
 unfold needsOf
 rw [← Array.any_toList]
 induction o.after.toList with
 | nil => rfl
 | cons e r ih =>
  rw [List.any_cons, ih, List.filter_cons]
  cases h : Region.binds md e <;> simp
theorem rtab_length : (rtab md ops).2.length = ops.size := by simp [rtab]
theorem rtab_some {o : Oper} (h : ops[i]? = some o) : (rtab md ops).2[i]? = some (needsOf md o, clashOf md ops i o) := by
 have hi := (Array.getElem?_eq_some_iff.1 h).1
 unfold rtab
 rw [List.getElem?_map, List.getElem?_range hi, Option.map_some, h]
theorem rtab_none (h : ops[i]? = none) : (rtab md ops).2[i]? = none := by
 have hi : ops.size ≤ i := Array.getElem?_eq_none_iff.1 h
 exact List.getElem?_eq_none (by rw [rtab_length]; exact hi)
theorem readyAt_eq : readyAt (rtab md ops).2 l.toList i = (!l.getD i true && ((ops[i]?).map (·.after.all fun e => !Region.binds md e || l.getD e.on false)).getD false) := by
 unfold readyAt
 rw [gd]
 cases h : ops[i]? with
 | none => rw [rtab_none h]; rfl
 | some o =>
  rw [rtab_some h]
  simp only [Option.map_some, Option.getD_some]
  rw [← needs_all]
  simp only [gd]
theorem ready_eq : Region.ready md ops l = readyT (rtab md ops).2 l.toList := by
 unfold Region.ready readyT
 rw [rtab_length]
 refine List.filter_congr (fun i _ => ?_)
 rw [readyAt_eq]
theorem free_eq : Region.free md ops l i = freeT (rtab md ops).2 l.toList i := by
 unfold Region.free freeT
 cases h : ops[i]? with
 | none => rw [rtab_none h]
 | some oi =>
  rw [rtab_some h]
  simp only [clashOf]
  rw [List.all_filter]
  congr 1
  funext j
  rw [gd]
  cases hj : ops[j]? with
  | none => cases (j == i) <;> cases (l.toList.getD j true) <;> simp
  | some oj =>
   cases (j == i) <;> cases (l.toList.getD j true) <;> cases (oj.after.any (fun e => Region.binds md e && e.on == i) || oi.apart ops oj) <;> simp_all
theorem closed_eq : Region.closedB md ops l = closedT (rtab md ops).2 l.toList := by
 unfold Region.closedB closedT
 rw [rtab_length]
 congr 1
 funext j
 rw [gd]
 cases h : ops[j]? with
 | none => rw [rtab_none h]
 | some o =>
  rw [rtab_some h]
  simp only
  rw [← needs_all]
  simp only [gd]
theorem reach_eq : ∀ (fuel d : Nat), Region.reachB md ops i fuel d = reachT (rtab md ops).2 i fuel d
 | 0, _ => rfl
 | fuel + 1, d => by
  unfold Region.reachB reachT
  cases h : ops[d]? with
  | none => rw [rtab_none h]
  | some o =>
   rw [rtab_some h]
   simp only
   rw [← needs_any]
   congr 1
   funext e
   rw [reach_eq fuel]
theorem last_eq : Region.lastB md ops l ds i = lastT (rtab md ops).2 l.toList ds i := by
 unfold Region.lastB lastT
 rw [rtab_length]
 congr 1
 funext d
 rw [gd, reach_eq]
theorem readyAt_mem (h : readyAt T.2 l.toList i = true) (hT : rtab md ops = T) : (Region.ready md ops l).contains i = true := by
 subst hT
 rw [ready_eq]
 unfold readyT
 rw [List.contains_iff_mem, List.mem_filter, List.mem_range]
 refine ⟨?_, h⟩
 unfold readyAt at h
 rw [Bool.and_eq_true] at h
 cases hq : (rtab md ops).2[i]? with
 | none => rw [hq] at h; simp at h
 | some r => exact (List.getElem?_eq_some_iff.1 hq).1
theorem set_of (h : (l.toList.set i true == l'.toList) = true) : (l.setIfInBounds i true == l') = true := by
 rw [beq_iff_eq] at h ⊢
 apply Array.ext'
 rw [Array.toList_setIfInBounds]
 exact h
def anyT (T : Bool × List (List Nat × List Nat)) (l l' : List Bool) (i : Nat) : Bool := T.1 && freeT T.2 l i && readyAt T.2 l i && (l.set i true == l')
theorem any_of (hT : rtab md ops = T) (h : anyT T l.toList l'.toList i = true) : anyB md ops l l' i = true := by
 simp only [anyT, Bool.and_eq_true] at h
 obtain ⟨⟨⟨h1, h2⟩, h3⟩, h4⟩ := h
 have h5 := readyAt_mem h3 hT
 have h6 := set_of h4
 subst hT
 simp only [anyB, Bool.and_eq_true]
 exact ⟨⟨⟨h1, by rw [free_eq]; exact h2⟩, h5⟩, h6⟩
def takeT (T : Bool × List (List Nat × List Nat)) (ds : List Nat) (l l' : List Bool) (i : Nat) : Bool := T.1 && freeT T.2 l i && readyAt T.2 l i && closedT T.2 l && lastT T.2 l ds i && (l.set i true == l')
theorem take_of (hT : rtab md ops = T) (h : takeT T ds l.toList l'.toList i = true) : takeB md ops ds l l' i = true := by
 simp only [takeT, Bool.and_eq_true] at h
 obtain ⟨⟨⟨⟨⟨h1, h2⟩, h3⟩, h4⟩, h5⟩, h6⟩ := h
 have h7 := readyAt_mem h3 hT
 have h8 := set_of h6
 subst hT
 simp only [takeB, Bool.and_eq_true]
 exact ⟨⟨⟨⟨⟨h1, by rw [free_eq]; exact h2⟩, h7⟩, by rw [closed_eq]; exact h4⟩, by rw [last_eq]; exact h5⟩, h8⟩
theorem one_of (hT : rtab md ops = T) (h : (readyT T.2 l.toList == [i] && l.toList.set i true == l'.toList) = true) : readyB md ops l l' i = true := by
 simp only [Bool.and_eq_true] at h
 obtain ⟨h1, h2⟩ := h
 subst hT
 simp only [readyB, Bool.and_eq_true]
 exact ⟨by rw [ready_eq]; exact h1, set_of h2⟩
theorem two_of (hT : rtab md ops = T) (h : (readyT T.2 l.toList == [i, j] && l.toList.set i true == li.toList && l.toList.set j true == lj.toList) = true) : (Region.ready md ops l == [i, j] && l.setIfInBounds i true == li && l.setIfInBounds j true == lj) = true := by
 simp only [Bool.and_eq_true] at h ⊢
 obtain ⟨⟨h1, h2⟩, h3⟩ := h
 subst hT
 exact ⟨⟨by rw [ready_eq]; exact h1, set_of h2⟩, set_of h3⟩
theorem done_of (hT : rtab md ops = T) (h : (readyT T.2 l.toList == []) = true) : (Region.ready md ops l == []) = true := by
 subst hT
 rw [ready_eq]
 exact h
def upM (B : List Nat) (d : Nat) : List Nat → Nat
 | [] => 0
 | n :: r => (2 ^ n ||| (if n < d then B.getD n 0 else 0)) ||| upM B d r
def waitsOk (T : List (List Nat × List Nat)) (B : List Nat) : Bool := (List.range T.length).all fun d => match T[d]? with
 | some r => (B.getD d 0 ||| upM B d r.1) == upM B d r.1
 | none => false
theorem upM_bit {B : List Nat} {d i : Nat} : ∀ {ns : List Nat}, (upM B d ns).testBit i = true → ∃ n ∈ ns, n = i ∨ (n < d ∧ (B.getD n 0).testBit i = true)
 | [], h => by simp [upM] at h
 | n :: r, h => by
  unfold upM at h
  rw [Nat.testBit_or, Nat.testBit_or, Bool.or_eq_true, Bool.or_eq_true] at h
  rcases h with (h | h) | h
  ·rw [Nat.testBit_two_pow] at h
   exact ⟨n, List.mem_cons_self, .inl (by simpa using h)⟩
  ·by_cases hn : n < d
   ·rw [if_pos hn] at h
    exact ⟨n, List.mem_cons_self, .inr ⟨hn, h⟩⟩
   ·rw [if_neg hn] at h
    simp at h
  ·obtain ⟨m, hm, h2⟩ := upM_bit h
   exact ⟨m, List.mem_cons_of_mem _ hm, h2⟩
theorem reach_bit {T : List (List Nat × List Nat)} {B : List Nat} (hB : waitsOk T B = true) : ∀ (fuel d : Nat), d < fuel → d < T.length → (B.getD d 0).testBit i = true → reachT T i fuel d = true
 | 0, d, h, _, _ => by omega
 | fuel + 1, d, h, hd, hb => by
  have h1 := List.all_eq_true.1 hB d (List.mem_range.2 hd)
  cases hr : T[d]? with
  | none => rw [hr] at h1; simp at h1
  | some r =>
   rw [hr] at h1
   simp only [beq_iff_eq] at h1
   have h2 : (upM B d r.1).testBit i = true := by rw [← h1, Nat.testBit_or, hb, Bool.true_or]
   obtain ⟨n, hn, h3⟩ := upM_bit h2
   unfold reachT
   rw [hr]
   simp only
   rw [List.any_eq_true]
   refine ⟨n, hn, ?_⟩
   rcases h3 with rfl | ⟨h4, h5⟩
   ·simp
   ·rw [reach_bit hB fuel n (by omega) (by omega) h5, Bool.or_true]
def lastW (T : List (List Nat × List Nat)) (B : List Nat) (l : List Bool) (ds : List Nat) (i : Nat) : Bool := ds.all fun d => l.getD d true || (decide (d < T.length) && (B.getD d 0).testBit i)
def takeW (T : Bool × List (List Nat × List Nat)) (B : List Nat) (ds : List Nat) (l l' : List Bool) (i : Nat) : Bool := T.1 && freeT T.2 l i && readyAt T.2 l i && closedT T.2 l && lastW T.2 B l ds i && (l.set i true == l')
theorem take_ofW {B : List Nat} (hT : rtab md ops = T) (hB : waitsOk T.2 B = true) (h : takeW T B ds l.toList l'.toList i = true) : takeB md ops ds l l' i = true := by
 refine take_of hT ?_
 simp only [takeW, takeT, Bool.and_eq_true] at h ⊢
 obtain ⟨⟨⟨⟨⟨h1, h2⟩, h3⟩, h4⟩, h5⟩, h6⟩ := h
 refine ⟨⟨⟨⟨⟨h1, h2⟩, h3⟩, h4⟩, ?_⟩, h6⟩
 unfold lastW at h5
 unfold lastT
 rw [List.all_eq_true] at h5 ⊢
 intro d hd
 have h7 := h5 d hd
 rw [Bool.or_eq_true, Bool.and_eq_true, decide_eq_true_eq] at h7
 rcases h7 with h7 | ⟨h8, h9⟩
 ·rw [h7, Bool.true_or]
 ·rw [reach_bit hB _ d h8 h8 h9, Bool.or_true]
theorem with_tabW {P : Program} {Q : Exit → Act → World → Prop} {S : World → Prop} {n : Nat} {a : Act} {w : World} {B : List Nat} (hT : rtab md ops = T) (hB : waitsOk T.2 B = true) (h : Aside0 (rtab md ops = T) → Aside0 (waitsOk T.2 B = true) → wpAnyLast P md ops Q S ds n l a w) : wpAnyLast P md ops Q S ds n l a w := h ⟨hT⟩ ⟨hB⟩
end
def opsIn : Code → Nat → Option (Array Oper)
 | .region id ops _, k => if id == k then some ops else none
 | .seq a b, k => match opsIn a k with
  | some o => some o
  | none => opsIn b k
 | .cond _ a b, k => match opsIn a k with
  | some o => some o
  | none => opsIn b k
 | .block _ c, k => opsIn c k
 | .loop c, k => opsIn c k
 | .scope c, k => opsIn c k
 | .rangeFunc _ _ a b, k => match opsIn a k with
  | some o => some o
  | none => opsIn b k
 | _, _ => none
def opsOf (f : Func) (k : Nat) : Array Oper := ((f.body.bind fun c => opsIn c k)).getD #[]
end Go.Proofs.Yw.PrintLast
end
section
namespace Go.Proofs.Yy.SC
theorem decDigits_len : ∀ (n u : Nat), u < 10 ^ (n + 1) → (Lib.decDigits u).length ≤ n + 1
 | 0, u, h => by rw [Lib.decDigits, dif_pos (by simpa using h)]; simp
 | n + 1, u, h => by
  by_cases h1 : u < 10
  ·rw [Lib.decDigits, dif_pos h1]; simp
  ·rw [Lib.decDigits, dif_neg h1]
   have := decDigits_len n (u / 10) (by rw [Nat.div_lt_iff_lt_mul (by omega)]; rw [Nat.pow_succ] at h; exact h)
   simp only [List.length_append, List.length_cons, List.length_nil]
   omega
theorem itoa_len {E : Int} (h : E.natAbs < 10 ^ 8) : (Lib.itoa E).length ≤ 9 := by
 unfold Lib.itoa
 split
 ·have := decDigits_len 7 E.natAbs h
  simp only [List.length_cons]; omega
 ·have := decDigits_len 7 E.toNat (by omega)
  omega
theorem textN_len {d : D} (hn : d.nar = false) (h1 : d.ds.length ≤ 4096) (h2 : -mostE ≤ d.e) (h3 : d.e ≤ mostE) : (textN d).length ≤ d.ds.length + 32 := by
 have hm : mostE = 1000000 := rfl
 obtain ⟨nar, neg, ds, e⟩ := d
 simp only at hn h1 h2 h3
 subst hn
 have hs : (if neg = true then [(45 : UInt8)] else []).length ≤ 1 := by split <;> simp
 unfold textN
 simp only [Bool.false_eq_true, if_false, List.length_append]
 by_cases c1 : 0 ≤ e ∧ (ds.length : Int) + e ≤ 21
 ·rw [if_pos c1]; simp only [List.length_append, List.length_replicate]; omega
 rw [if_neg c1]
 by_cases c2 : 1 ≤ (ds.length : Int) + e ∧ (ds.length : Int) + e ≤ 21
 ·rw [if_pos c2]; simp only [List.length_append, List.length_take, List.length_drop, List.length_cons, List.length_nil]; omega
 rw [if_neg c2]
 by_cases c3 : -5 ≤ (ds.length : Int) + e ∧ (ds.length : Int) + e ≤ 0
 ·rw [if_pos c3]; simp only [List.length_append, List.length_replicate, List.length_cons, List.length_nil]; omega
 rw [if_neg c3]
 have hi := itoa_len (E := (ds.length : Int) + e - 1) (by omega)
 have hf : (if 1 < ds.length then [(46 : UInt8)] ++ ds.drop 1 else []).length ≤ ds.length := by
  split
  ·simp only [List.length_append, List.length_cons, List.length_nil, List.length_drop]; omega
  ·simp
 generalize (if 1 < ds.length then [(46 : UInt8)] ++ ds.drop 1 else []) = F at hf ⊢
 simp only [List.length_append, List.length_take, List.length_cons, List.length_nil]
 omega
theorem textN_parts {d : D} (h : Norm d) (hn : d.nar = false) (hl : (textN d).length ≤ 4096) : ∃ A B o, textN d = (if d.neg = true then [45] else []) ++ (A ++ (ptB B ++ expB o)) ∧ A.all dg = true ∧ A ≠ [] ∧ B.all dg = true ∧ (∀ E, o = some E → E.natAbs ≤ far) ∧
  nrm ⟨false, d.neg, A ++ B, held (o.getD 0 - B.length)⟩ = d := by
 have hst := scan_text h hl
 suffices hs : ∃ A B o, textN d = (if d.neg = true then [45] else []) ++ (A ++ (ptB B ++ expB o)) ∧ A.all dg = true ∧ A ≠ [] ∧ B.all dg = true ∧ (∀ E, o = some E → E.natAbs ≤ far) by
  obtain ⟨A, B, o, e1, e2, e3, e4, e5⟩ := hs
  refine ⟨A, B, o, e1, e2, e3, e4, e5, ?_⟩
  have := scanF_body d.neg A B o e2 e3 e4 e5 (by rw [← e1]; exact hl)
  rw [← e1, hst] at this
  injection this with this
  exact this.symm
 rcases h with rfl | ⟨h1, h2, h3, h4, h5, h6, h7⟩
 ·exact absurd hn (by decide)
 obtain ⟨nar, neg, ds, e⟩ := d
 simp only at h1 h2 h3 h4 h5 h6 h7 hn
 subst hn
 have hpos := List.length_pos_iff.2 h3
 have hm : mostE = 1000000 := rfl
 have hall : ∀ x ∈ ds, dg x = true := List.all_eq_true.1 h2
 unfold textN
 simp only [Bool.false_eq_true, if_false]
 by_cases c1 : 0 ≤ e ∧ (ds.length : Int) + e ≤ 21
 ·rw [if_pos c1]
  exact ⟨ds ++ List.replicate e.toNat 48, [], none, by simp [ptB, expB], by rw [List.all_append, h2, noughts_all]; rfl, by simp [h3], rfl, by simp⟩
 rw [if_neg c1]
 by_cases c2 : 1 ≤ (ds.length : Int) + e ∧ (ds.length : Int) + e ≤ 21
 ·rw [if_pos c2]
  have hd1 : ds.drop ((ds.length : Int) + e).toNat ≠ [] := by rw [ne_eq, List.drop_eq_nil_iff]; omega
  refine ⟨ds.take ((ds.length : Int) + e).toNat, ds.drop ((ds.length : Int) + e).toNat, none, ?_, List.all_eq_true.2 fun x hx => hall x (List.mem_of_mem_take hx), List.length_pos_iff.1 (by simp only [List.length_take]; omega), List.all_eq_true.2 fun x hx => hall x (List.mem_of_mem_drop hx), by simp⟩
  have e1 : ptB (ds.drop ((ds.length : Int) + e).toNat) = 46 :: ds.drop ((ds.length : Int) + e).toNat := by unfold ptB; rw [if_neg hd1]
  rw [e1]
  simp [expB]
 rw [if_neg c2]
 by_cases c3 : -5 ≤ (ds.length : Int) + e ∧ (ds.length : Int) + e ≤ 0
 ·rw [if_pos c3]
  have hB0 : List.replicate (-((ds.length : Int) + e)).toNat (48 : UInt8) ++ ds ≠ [] := by simp [h3]
  refine ⟨[48], List.replicate (-((ds.length : Int) + e)).toNat 48 ++ ds, none, ?_, rfl, by simp, by rw [List.all_append, noughts_all, h2]; rfl, by simp⟩
  have e1 : ptB (List.replicate (-((ds.length : Int) + e)).toNat 48 ++ ds) = 46 :: (List.replicate (-((ds.length : Int) + e)).toNat 48 ++ ds) := by unfold ptB; rw [if_neg hB0]
  rw [e1]; simp [expB]
 rw [if_neg c3]
 refine ⟨ds.take 1, ds.drop 1, some ((ds.length : Int) + e - 1), ?_, List.all_eq_true.2 fun x hx => hall x (List.mem_of_mem_take hx), List.length_pos_iff.1 (by simp only [List.length_take]; omega), List.all_eq_true.2 fun x hx => hall x (List.mem_of_mem_drop hx), by intro E hE; cases hE; unfold far; omega⟩
 by_cases hd1 : 1 < ds.length
 ·have e1 : ptB (ds.drop 1) = 46 :: ds.drop 1 := by unfold ptB; rw [if_neg (by rw [List.drop_eq_nil_iff]; omega)]
  rw [e1, if_pos hd1]; simp [expB]
 ·have e1 : ptB (ds.drop 1) = [] := by unfold ptB; rw [if_pos (by rw [List.drop_eq_nil_iff]; omega)]
  rw [e1, if_neg hd1]; simp [expB]
theorem scanF_plus (A B : List UInt8) (o : Option Int) (hA : A.all dg = true) (hA0 : A ≠ []) (hB : B.all dg = true) (h : ∀ E, o = some E → E.natAbs ≤ far)
  (hlen : (43 :: (A ++ (ptB B ++ expB o))).length ≤ 4096) :
  scanF (43 :: (A ++ (ptB B ++ expB o))) = .ok (nrm ⟨false, false, A ++ B, held (o.getD 0 - B.length)⟩) := by
 have hr : ∃ r, ref (43 :: (A ++ (ptB B ++ expB o))) = begin_ r 1 (A ++ (ptB B ++ expB o)) ∧ r.neg = false ∧ r.ds = [] ∧ r.beh = 0 ∧ r.exp = 0 ∧ r.eneg = false := ⟨_, rfl, rfl, rfl, rfl, rfl, rfl⟩
 obtain ⟨r, e1, e2, e3, e4, e5, e6⟩ := hr
 obtain ⟨q, q1, q2, q3, q4, q5⟩ := begin_body r 1 A B o hA hA0 hB h e3 e4 e5 e6
 have h110 : hd (· == 110) (43 :: (A ++ (ptB B ++ expB o))) = false := rfl
 unfold scanF
 rw [if_neg (by omega), if_neg (by simp [h110]), scan_ref, e1, q1]
 simp only [toD, q2, e2, q3, q4, q5]
theorem nrm_lead (neg : Bool) (k : Nat) (l : List UInt8) (e : Int) : nrm ⟨false, neg, List.replicate k 48 ++ l, e⟩ = nrm ⟨false, neg, l, e⟩ := by
 unfold nrm
 simp only [lz_noughts, Bool.false_eq_true, if_false]
theorem scan_plus {d : D} (h : Norm d) (hn : d.nar = false) (hg : d.neg = false) (k : Nat) (hl : (textN d).length + k + 1 ≤ 4096) : scanF (43 :: (List.replicate k 48 ++ textN d)) = .ok d := by
 obtain ⟨A, B, o, e1, e2, e3, e4, e5, e6⟩ := textN_parts h hn (by omega)
 rw [hg] at e1 e6
 have e1' : textN d = A ++ (ptB B ++ expB o) := e1
 have hlen : (43 :: (List.replicate k (48 : UInt8) ++ textN d)).length ≤ 4096 := by simp only [List.length_cons, List.length_append, List.length_replicate]; omega
 rw [e1', ← List.append_assoc] at hlen ⊢
 rw [scanF_plus (List.replicate k 48 ++ A) B o (by rw [List.all_append, noughts_all, e2]; rfl) (by simp [e3]) e4 e5 hlen, List.append_assoc, nrm_lead, e6]
theorem lz_tail {l : List UInt8} (h : lz l ≠ []) (m : List UInt8) : lz (l ++ m) = lz l ++ m := by
 unfold lz at *
 induction l with
 | nil => exact absurd rfl h
 | cons c l ih =>
  rw [List.cons_append, List.dropWhile_cons, List.dropWhile_cons] at *
  by_cases hc : (c == 48) = true
  ·simp only [hc, if_true] at h ⊢; exact ih h
  ·simp only [hc, Bool.false_eq_true, if_false] at h ⊢; rfl
theorem lz_none {l : List UInt8} (h : lz l = []) (k : Nat) : lz (l ++ List.replicate k 48) = [] := by
 have h1 := lz_hd' l
 have : l = List.replicate l.length 48 := List.eq_replicate_iff.2 ⟨rfl, lz_nil h⟩
 rw [this, lz_noughts]
 have h2 := lz_noughts k []
 rw [List.append_nil] at h2
 rw [h2]; rfl
theorem nrm_pad (neg : Bool) (k : Nat) {l : List UInt8} {e : Int} (hk : k ≤ 30) (hl : l.length ≤ 4000) (h1 : -900000 ≤ e) (h2 : e ≤ 900000) : nrm ⟨false, neg, List.replicate k 48 ++ l ++ List.replicate k 48, e - k⟩ = nrm ⟨false, neg, l, e⟩ := by
 have hm : mostE = 1000000 := rfl
 rw [List.append_assoc, nrm_lead]
 by_cases h : lz l = []
 ·unfold nrm
  simp only [Bool.false_eq_true, if_false, h, lz_none h, if_true]
 ·have hlen := lz_le l
  have hrl := rz_le (lz l)
  have ht : tz (lz l ++ List.replicate k 48) = tz (lz l) + k := by
   unfold tz
   rw [rz_noughts, List.length_append, List.length_replicate]; omega
  have htl : tz (lz l) ≤ (lz l).length := by unfold tz; omega
  have e1 : min (tz (lz l) + k) (mostE - (e - k)).toNat = tz (lz l) + k := by omega
  have e2 : min (tz (lz l)) (mostE - e).toNat = tz (lz l) := by omega
  unfold nrm
  simp only [Bool.false_eq_true, if_false, lz_tail h, if_neg h, ht, e1, e2]
  rw [if_neg (by simp [h])]
  simp only [List.length_append, List.length_replicate]
  congr 1
  ·rw [show (lz l).length + k - (tz (lz l) + k) = (lz l).length - tz (lz l) by omega, List.take_append_of_le_length (by omega)]
  ·omega
end Go.Proofs.Yy.SC
end
section
namespace Go.Proofs.Yy.TA
theorem two_pos (k : Nat) : 0 < 2 ^ k := Nat.two_pow_pos k
def regL (s : Int) : Nat := if 0 ≤ s / 4 then (s / 4).toNat + 2 else (-(s / 4)).toNat + 1
def regV (s : Int) : Nat := if 0 ≤ s / 4 then 2 ^ ((s / 4).toNat + 2) - 2 else 1
def hL (s : Int) : Nat := regL s + 2
def hV (s : Int) : Nat := regV s * 4 + (s % 4).toNat
theorem hL_ge (s : Int) : 4 ≤ hL s := by unfold hL regL; split <;> omega
theorem regV_lt (s : Int) : regV s < 2 ^ regL s := by
 unfold regV regL
 split
 ·have := two_pos ((s / 4).toNat + 2); omega
 ·rename_i h
  obtain ⟨m, hm⟩ : ∃ m, (-(s / 4)).toNat + 1 = m + 1 := ⟨_, rfl⟩
  rw [hm, Nat.pow_succ]; have := two_pos m; omega
theorem hV_lt (s : Int) : hV s < 2 ^ hL s := by
 have h := regV_lt s
 unfold hV hL
 rw [Nat.pow_add]; omega
def cutX (s : Int) (F T : Nat) : Nat := hV s * 2 ^ F + (T - 2 ^ F)
def lft (r h : Nat) (c : Bool) : Nat := if h < r then 3 else if r = h then (if c = true then 3 else 2) else if 0 < r ∨ c = true then 1 else 0
def cutL (n : Nat) (s : Int) (F : Nat) : Nat := hL s + F - (n - 1)
def cutP (n : Nat) (s : Int) (F T : Nat) : Nat := cutX s F T / 2 ^ cutL n s F
def cutQ (n : Nat) (s : Int) (F T : Nat) (c : Bool) : Nat := lft (cutX s F T % 2 ^ cutL n s F) (2 ^ (cutL n s F - 1)) c
theorem cutX_short (s : Int) (F j T : Nat) (h : 2 ^ (F + j) ≤ T) : cutX s (F + j) T = cutX s F (T / 2 ^ j) * 2 ^ j + T % 2 ^ j := by
 have hp := two_pos j
 have h1 : 2 ^ F ≤ T / 2 ^ j := by rw [Nat.le_div_iff_mul_le hp, ← Nat.pow_add]; exact h
 have h2 := Nat.div_add_mod T (2 ^ j)
 have h3 : (T / 2 ^ j - 2 ^ F) * 2 ^ j = T / 2 ^ j * 2 ^ j - 2 ^ (F + j) := by rw [Nat.sub_mul, Nat.pow_add]
 have h4 : 2 ^ (F + j) ≤ T / 2 ^ j * 2 ^ j := by rw [Nat.pow_add]; exact Nat.mul_le_mul_right _ h1
 unfold cutX
 rw [Nat.add_mul, Nat.mul_assoc, ← Nat.pow_add, h3, Nat.mul_comm (2 ^ j)] at *
 omega
theorem lft_short (r g h j : Nat) (c : Bool) (hh : 0 < h) (hg : g < 2 ^ j) : lft (r * 2 ^ j + g) (h * 2 ^ j) c = lft r h (c || decide (g ≠ 0)) := by
 have hp := two_pos j
 unfold lft
 by_cases h1 : h < r
 ·rw [if_pos h1, if_pos]
  have : (h + 1) * 2 ^ j ≤ r * 2 ^ j := Nat.mul_le_mul_right _ h1
  rw [Nat.add_mul] at this; omega
 ·by_cases h2 : r = h
  ·subst h2
   by_cases h3 : g = 0
   ·subst h3; simp
   ·rw [if_pos (by omega), if_neg h1, if_pos rfl, if_pos (by simp [h3])]
  ·have : (r + 1) * 2 ^ j ≤ h * 2 ^ j := Nat.mul_le_mul_right _ (by omega)
   rw [Nat.add_mul] at this
   rw [if_neg (by omega), if_neg (by omega), if_neg h1, if_neg h2]
   have h4 : (0 < r * 2 ^ j + g ∨ c = true) ↔ (0 < r ∨ (c || decide (g ≠ 0)) = true) := by
    have h5 : 0 < r * 2 ^ j ↔ 0 < r := Nat.mul_pos_iff_of_pos_right hp
    have h6 : ((c || decide (g ≠ 0)) = true) ↔ (c = true ∨ g ≠ 0) := by simp
    rw [h6, ← h5]
    constructor
    ·rintro (h | h)
     ·by_cases h7 : g = 0
      ·exact .inl (by omega)
      ·exact .inr (.inr h7)
     ·exact .inr (.inl h)
    ·rintro (h | h | h)
     ·exact .inl (by omega)
     ·exact .inr h
     ·exact .inl (by omega)
   by_cases h5 : 0 < r * 2 ^ j + g ∨ c = true
   ·rw [if_pos h5, if_pos (h4.1 h5)]
   ·rw [if_neg h5, if_neg (fun h => h5 (h4.2 h))]
theorem cutL_short (n : Nat) (s : Int) (F j : Nat) (h : n - 1 ≤ hL s + F) : cutL n s (F + j) = cutL n s F + j := by unfold cutL; omega
theorem cutP_short (n : Nat) (s : Int) (F j T : Nat) (h : 2 ^ (F + j) ≤ T) (hn : n - 1 ≤ hL s + F) : cutP n s (F + j) T = cutP n s F (T / 2 ^ j) := by
 unfold cutP
 rw [cutL_short n s F j hn, cutX_short s F j T h, Nat.pow_add, Nat.mul_comm (2 ^ cutL n s F), ← Nat.div_div_eq_div_mul, Nat.mul_comm _ (2 ^ j), Nat.mul_add_div (two_pos j), Nat.div_eq_of_lt (Nat.mod_lt _ (two_pos j)), Nat.add_zero]
theorem cutQ_short (n : Nat) (s : Int) (F j T : Nat) (c : Bool) (h : 2 ^ (F + j) ≤ T) (hn : n - 1 < hL s + F) : cutQ n s (F + j) T c = cutQ n s F (T / 2 ^ j) (c || decide (T % 2 ^ j ≠ 0)) := by
 have hL1 : 1 ≤ cutL n s F := by unfold cutL; omega
 have hlt := Nat.mod_lt T (two_pos j)
 unfold cutQ
 rw [cutL_short n s F j (by omega), cutX_short s F j T h, ← lft_short _ _ _ _ _ (two_pos _) hlt]
 congr 1
 ·rw [Nat.pow_add, Nat.mul_comm (2 ^ cutL n s F), Nat.mod_mul, Nat.mul_comm _ (2 ^ j), Nat.mul_add_mod, Nat.mod_mod, Nat.mul_add_div (two_pos j), Nat.div_eq_of_lt hlt, Nat.add_zero, Nat.mul_comm]; omega
 ·rw [← Nat.pow_add]; congr 1; omega
def Rel (W : Nat) (c : Bool) (X L : Nat) (c0 : Bool) : Prop := ∃ z, 2 ^ 128 * X = W * 2 ^ L + z ∧ z < 2 ^ L ∧ c = (c0 || decide (z ≠ 0))
theorem Rel.start {f : Nat} (c : Bool) : Rel (2 * f) c f 127 c := ⟨0, by omega, two_pos _, by simp⟩
theorem Rel.under {W X L : Nat} {c c0 : Bool} (h : Rel W c X L c0) (b m : Nat) (hm : m ≤ 128) : Rel (W / 2 ^ m + b * 2 ^ (128 - m)) (c || decide (W % 2 ^ m ≠ 0)) (b * 2 ^ L + X) (L + m) c0 := by
 obtain ⟨z, h1, h2, h3⟩ := h
 have e1 := Nat.div_add_mod W (2 ^ m)
 have e2 : 2 ^ (128 - m) * 2 ^ (L + m) = 2 ^ 128 * 2 ^ L := by rw [← Nat.pow_add, ← Nat.pow_add]; congr 1; omega
 have e3 := Nat.mod_lt W (two_pos m)
 have e4 : (W % 2 ^ m + 1) * 2 ^ L ≤ 2 ^ m * 2 ^ L := Nat.mul_le_mul_right _ e3
 refine ⟨W % 2 ^ m * 2 ^ L + z, ?_, ?_, ?_⟩
 ·rw [Nat.mul_add, h1, Nat.add_mul, Nat.mul_assoc b, e2]
  have : W / 2 ^ m * 2 ^ (L + m) + W % 2 ^ m * 2 ^ L = W * 2 ^ L := by
   rw [Nat.pow_add, Nat.mul_comm (2 ^ L), ← Nat.mul_assoc, ← Nat.add_mul, Nat.mul_comm (W / 2 ^ m), e1]
  rw [Nat.mul_left_comm (2 ^ 128)]; omega
 ·rw [Nat.pow_add, Nat.mul_comm (2 ^ L)]; rw [Nat.add_mul] at e4; omega
 ·rw [h3, Bool.or_assoc, ← Bool.decide_or]
  congr 1
  refine decide_eq_decide.2 ?_
  have : W % 2 ^ m * 2 ^ L = 0 ↔ W % 2 ^ m = 0 := by
   rw [Nat.mul_eq_zero]; have := two_pos L; omega
  omega
theorem lft_scale (r h j : Nat) (c : Bool) (hh : 0 < h) : lft (r * 2 ^ j) (h * 2 ^ j) c = lft r h c := by
 have := lft_short r 0 h j c hh (two_pos j)
 simpa using this
theorem Rel.cut {W X L n : Nat} {c c0 : Bool} (h : Rel W c X L c0) (hn : 1 ≤ n) (hn2 : n ≤ 128) (hL : n ≤ L) :
  W / 2 ^ (129 - n) = X / 2 ^ (L - (n - 1)) ∧ lft (W % 2 ^ (129 - n)) (2 ^ (128 - n)) c = lft (X % 2 ^ (L - (n - 1))) (2 ^ (L - (n - 1) - 1)) c0 := by
 obtain ⟨z, h1, h2, h3⟩ := h
 have e0 : 2 ^ 128 * 2 ^ (L - (n - 1)) = 2 ^ L * 2 ^ (129 - n) := by rw [← Nat.pow_add, ← Nat.pow_add]; congr 1; omega
 have e1 : X / 2 ^ (L - (n - 1)) = (W * 2 ^ L + z) / (2 ^ L * 2 ^ (129 - n)) := by rw [← e0, ← h1, Nat.mul_div_mul_left _ _ (two_pos 128)]
 have e2 : 2 ^ 128 * (X % 2 ^ (L - (n - 1))) = (W * 2 ^ L + z) % (2 ^ L * 2 ^ (129 - n)) := by rw [← e0, ← h1, Nat.mul_mod_mul_left]
 rw [Nat.mul_comm W] at e1 e2
 rw [← Nat.div_div_eq_div_mul, Nat.mul_add_div (two_pos L), Nat.div_eq_of_lt h2, Nat.add_zero] at e1
 rw [Nat.mod_mul, Nat.mul_add_mod, Nat.mod_eq_of_lt h2, Nat.mul_add_div (two_pos L), Nat.div_eq_of_lt h2, Nat.add_zero] at e2
 refine ⟨e1.symm, ?_⟩
 rw [h3, ← lft_scale (X % _) _ 128 c0 (two_pos _), ← lft_short _ z _ L _ (two_pos _) h2]
 congr 1
 ·rw [Nat.mul_comm (X % _), e2, Nat.mul_comm (2 ^ L)]; omega
 ·rw [← Nat.pow_add, ← Nat.pow_add]; congr 1; omega
theorem lft_hi {W n : Nat} {c : Bool} (hn : 1 ≤ n) (hn2 : n ≤ 64) : lft (W % 2 ^ (129 - n) * 2 ^ (n - 1) / 2 ^ 64) (2 ^ 63) (c || decide (W % 2 ^ (129 - n) * 2 ^ (n - 1) % 2 ^ 64 ≠ 0)) = lft (W % 2 ^ (129 - n)) (2 ^ (128 - n)) c := by
 rw [← lft_short _ _ _ 64 c (two_pos _) (Nat.mod_lt _ (two_pos 64)), ← lft_scale (W % 2 ^ (129 - n)) _ (n - 1) c (two_pos _)]
 congr 1
 ·exact Nat.div_add_mod' _ _
 ·rw [← Nat.pow_add, ← Nat.pow_add]; congr 1; omega
def rne (A C : Nat) : Nat := if C < 2 * (A % C) ∨ (2 * (A % C) = C ∧ A / C % 2 = 1) then A / C + 1 else A / C
theorem rne_scale (A C : Nat) {m : Nat} (hm : 0 < m) : rne (A * m) (C * m) = rne A C := by
 unfold rne
 rw [Nat.mul_mod_mul_right, Nat.mul_div_mul_right _ _ hm]
 have h1 : C * m < 2 * (A % C * m) ↔ C < 2 * (A % C) := by rw [← Nat.mul_assoc]; exact Nat.mul_lt_mul_right hm
 have h2 : 2 * (A % C * m) = C * m ↔ 2 * (A % C) = C := by rw [← Nat.mul_assoc]; exact Nat.mul_left_inj (by omega)
 by_cases h : C < 2 * (A % C) ∨ (2 * (A % C) = C ∧ A / C % 2 = 1)
 ·rw [if_pos h, if_pos]; rw [h1, h2]; exact h
 ·rw [if_neg h, if_neg]; rw [h1, h2]; exact h
def rnd (p l : Nat) : Nat := if l = 3 ∨ (l = 2 ∧ p % 2 = 1) then p + 1 else p
theorem rnd_rne {n F N C : Nat} (s : Int) (hC : 0 < C) (h1 : C ≤ N) (hn : n - 1 < hL s + F) :
  rnd (cutP n s F (N * 2 ^ F / C)) (cutQ n s F (N * 2 ^ F / C) (decide (N * 2 ^ F % C ≠ 0))) = rne ((hV s * C + (N - C)) * 2 ^ (n - 1)) (C * 2 ^ hL s) := by
 obtain ⟨H, hH⟩ : ∃ H, 2 ^ (cutL n s F - 1) = H := ⟨_, rfl⟩
 have hH0 : 0 < H := by rw [← hH]; exact two_pos _
 have hK : 2 ^ cutL n s F = 2 * H := by
  rw [← hH, Nat.mul_comm, ← Nat.pow_succ]; congr 1; unfold cutL; omega
 have hpow : 2 ^ hL s * 2 ^ F = 2 ^ cutL n s F * 2 ^ (n - 1) := by rw [← Nat.pow_add, ← Nat.pow_add]; congr 1; unfold cutL; omega
 obtain ⟨T, hT⟩ : ∃ T, N * 2 ^ F / C = T := ⟨_, rfl⟩
 obtain ⟨z, hz⟩ : ∃ z, N * 2 ^ F % C = z := ⟨_, rfl⟩
 have hzC : z < C := by rw [← hz]; exact Nat.mod_lt _ hC
 have hd : C * T + z = N * 2 ^ F := by rw [← hT, ← hz]; exact Nat.div_add_mod _ _
 have hT1 : 2 ^ F ≤ T := by rw [← hT, Nat.le_div_iff_mul_le hC, Nat.mul_comm]; exact Nat.mul_le_mul_right _ h1
 obtain ⟨X, hX⟩ : ∃ X, cutX s F T = X := ⟨_, rfl⟩
 have hXd : (hV s * C + (N - C)) * 2 ^ F = C * X + z := by
  rw [← hX]; unfold cutX
  rw [Nat.add_mul, Nat.sub_mul, ← hd, Nat.mul_add, Nat.mul_sub, Nat.mul_comm (hV s) C, Nat.mul_assoc]
  have := Nat.mul_le_mul_left C hT1
  omega
 have e1 : rne ((hV s * C + (N - C)) * 2 ^ (n - 1)) (C * 2 ^ hL s) = rne (C * X + z) (C * (2 * H)) := by
  rw [← rne_scale _ _ (two_pos F), Nat.mul_right_comm, hXd, Nat.mul_assoc C, hpow, hK, ← Nat.mul_assoc C, rne_scale _ _ (two_pos _)]
 have e2 : (C * X + z) / (C * (2 * H)) = X / (2 * H) := by rw [← Nat.div_div_eq_div_mul, Nat.mul_add_div hC, Nat.div_eq_of_lt hzC, Nat.add_zero]
 have e3 : (C * X + z) % (C * (2 * H)) = C * (X % (2 * H)) + z := by
  rw [Nat.mod_mul, Nat.mul_add_mod, Nat.mod_eq_of_lt hzC, Nat.mul_add_div hC, Nat.div_eq_of_lt hzC, Nat.add_zero, Nat.add_comm]
 rw [hT, hz, e1]
 unfold cutP cutQ rnd rne lft
 rw [hX, hH, hK, e2, e3]
 obtain ⟨r, hr⟩ : ∃ r, X % (2 * H) = r := ⟨_, rfl⟩
 rw [hr]
 have c1 : C * (2 * H) < 2 * (C * r + z) ↔ (H < r ∨ (r = H ∧ z ≠ 0)) := by
  rw [show C * (2 * H) = 2 * (C * H) by rw [Nat.mul_left_comm]]
  constructor
  ·intro h
   by_cases a : H < r
   ·exact .inl a
   ·by_cases b : r = H
    ·subst b; exact .inr ⟨rfl, by omega⟩
    ·exfalso
     have : C * (r + 1) ≤ C * H := Nat.mul_le_mul_left _ (by omega)
     rw [Nat.mul_add] at this; omega
  ·rintro (h | ⟨h, hz⟩)
   ·have : C * (H + 1) ≤ C * r := Nat.mul_le_mul_left _ h
    rw [Nat.mul_add] at this; omega
   ·subst h; omega
 have c2 : 2 * (C * r + z) = C * (2 * H) ↔ (r = H ∧ z = 0) := by
  rw [show C * (2 * H) = 2 * (C * H) by rw [Nat.mul_left_comm]]
  constructor
  ·intro h
   by_cases a : H < r
   ·have : C * (H + 1) ≤ C * r := Nat.mul_le_mul_left _ a
    rw [Nat.mul_add] at this; omega
   ·by_cases b : r = H
    ·subst b; exact ⟨rfl, by omega⟩
    ·exfalso
     have : C * (r + 1) ≤ C * H := Nat.mul_le_mul_left _ (by omega)
     rw [Nat.mul_add] at this; omega
  ·rintro ⟨h, hz⟩; subst h; omega
 simp only [c1, c2]
 by_cases a : H < r
 ·simp [a]
 ·by_cases b : r = H
  ·subst b
   by_cases c : z = 0
   ·simp [c]
   ·simp [c]
  ·simp only [a, b, if_false, false_and, or_self]
   split <;> simp
def up (s : Int) (N : Nat) : Nat := N * 2 ^ (-s).toNat
def dn (s : Int) (C : Nat) : Nat := C * 2 ^ s.toNat
def Sc (N C : Nat) (s : Int) : Prop := dn s C ≤ up s N ∧ up s N < 2 * dn s C
def top (n : Nat) : Int := 4 * (n : Int) - 8
def sig (n : Nat) (s : Int) (N C : Nat) : Nat := rne ((hV s * dn s C + (up s N - dn s C)) * 2 ^ (n - 1)) (dn s C * 2 ^ hL s)
def pos (n : Nat) (s : Int) (N C : Nat) : Nat := if top n ≤ s then 2 ^ (n - 1) - 1 else if s < -top n then 1 else sig n s N C
theorem dn_pos {s : Int} {C : Nat} (h : 0 < C) : 0 < dn s C := Nat.mul_pos h (two_pos _)
theorem Sc_iff {N C : Nat} {s : Int} (K : Nat) (h : -s ≤ K) : Sc N C s ↔ C * 2 ^ (s + K).toNat ≤ N * 2 ^ K ∧ N * 2 ^ K < 2 * (C * 2 ^ (s + K).toNat) := by
 unfold Sc up dn
 by_cases h0 : 0 ≤ s
 ·have e1 : (-s).toNat = 0 := by omega
  have e2 : (s + K).toNat = s.toNat + K := by omega
  have hp := two_pos K
  rw [e1, e2, Nat.pow_zero, Nat.mul_one, Nat.pow_add, ← Nat.mul_assoc C, ← Nat.mul_assoc 2 (C * 2 ^ s.toNat)]
  rw [Nat.mul_le_mul_right_iff hp, Nat.mul_lt_mul_right hp]
 ·have e1 : s.toNat = 0 := by omega
  have e2 : K = (-s).toNat + (s + K).toNat := by omega
  have hp := two_pos (s + K).toNat
  rw [e1, Nat.pow_zero, Nat.mul_one]
  conv => rhs; rw [show N * 2 ^ K = N * 2 ^ (-s).toNat * 2 ^ (s + K).toNat by rw [Nat.mul_assoc, ← Nat.pow_add, ← e2]]
  rw [← Nat.mul_assoc 2, Nat.mul_le_mul_right_iff hp, Nat.mul_lt_mul_right hp]
theorem Sc_pos {N C : Nat} {s : Int} (h : Sc N C s) : 0 < C ∧ 0 < N := by
 obtain ⟨h1, h2⟩ := h
 have a : 0 < dn s C := by omega
 have b : 0 < up s N := by omega
 exact ⟨Nat.pos_of_mul_pos_right a, Nat.pos_of_mul_pos_right b⟩
theorem Sc_le {N C s N' C' s'} (h : Sc N C s) (h' : Sc N' C' s') (hle : N * C' ≤ N' * C) : s ≤ s' := by
 obtain ⟨hC, hN⟩ := Sc_pos h
 obtain ⟨hC', hN'⟩ := Sc_pos h'
 apply Int.not_lt.1
 intro hlt
 obtain ⟨K, hK⟩ : ∃ K : Nat, -s' ≤ K := ⟨(-s').toNat, by omega⟩
 obtain ⟨a1, a2⟩ := (Sc_iff K (by omega)).1 h
 obtain ⟨b1, b2⟩ := (Sc_iff K hK).1 h'
 obtain ⟨d, hd⟩ : ∃ d : Nat, (s + K).toNat = (s' + K).toNat + 1 + d := ⟨(s - s' - 1).toNat, by omega⟩
 obtain ⟨P, hP⟩ : ∃ P, 2 ^ (s' + K).toNat = P := ⟨_, rfl⟩
 rw [hP] at b1 b2
 rw [hd, Nat.pow_add, Nat.pow_succ, hP] at a1
 have c1 : C * (P * 2) ≤ N * 2 ^ K := Nat.le_trans (by rw [← Nat.mul_assoc C (P * 2)]; exact Nat.le_mul_of_pos_right _ (two_pos d)) a1
 have c2 : C * (P * 2) * C' ≤ N * 2 ^ K * C' := Nat.mul_le_mul_right _ c1
 have c3 : N' * 2 ^ K * C < 2 * (C' * P) * C := Nat.mul_lt_mul_of_pos_right b2 hC
 have c4 : N * C' * 2 ^ K ≤ N' * C * 2 ^ K := Nat.mul_le_mul_right _ hle
 have e1 : C * (P * 2) * C' = 2 * (C' * P) * C := by ac_rfl
 have e2 : N * 2 ^ K * C' = N * C' * 2 ^ K := Nat.mul_right_comm _ _ _
 have e3 : N' * 2 ^ K * C = N' * C * 2 ^ K := Nat.mul_right_comm _ _ _
 omega
theorem Sc_same {N C s s'} (h : Sc N C s) (h' : Sc N C s') : s = s' := by
 have := Sc_le h h' (Nat.le_refl _)
 have := Sc_le h' h (Nat.le_refl _)
 omega
structure Rep (N C : Nat) (s : Int) (hi : Nat) (st : Bool) : Prop where
 sc : Sc N C s
 eq : hi = up s N * 2 ^ 63 / dn s C
 st : st = decide (up s N * 2 ^ 63 % dn s C ≠ 0)
theorem Rep.sig {N C s hi st} (h : Rep N C s hi st) {n : Nat} (hn : n ≤ 64) : rnd (cutP n s 63 hi) (cutQ n s 63 hi st) = sig n s N C := by
 have hL4 := hL_ge s
 rw [h.eq, h.st]
 exact rnd_rne s (dn_pos (Sc_pos h.sc).1) h.sc.1 (by omega)
theorem scaled (N C u b F : Nat) (hb : 1 ≤ b) (hC : 0 < C) :
  up ((b : Int) - 1 - u) N * 2 ^ F / dn ((b : Int) - 1 - u) C = N * 2 ^ u * 2 ^ F / (C * 2 ^ (b - 1)) ∧
  decide (up ((b : Int) - 1 - u) N * 2 ^ F % dn ((b : Int) - 1 - u) C ≠ 0) = decide (N * 2 ^ u * 2 ^ F % (C * 2 ^ (b - 1)) ≠ 0) := by
 obtain ⟨x, hx1, hx2⟩ : ∃ x, up ((b : Int) - 1 - u) N * 2 ^ F * 2 ^ x = N * 2 ^ u * 2 ^ F ∧ dn ((b : Int) - 1 - u) C * 2 ^ x = C * 2 ^ (b - 1) := by
  by_cases h : 0 ≤ (b : Int) - 1 - u
  ·refine ⟨u, ?_, ?_⟩
   ·unfold up; rw [show (-((b : Int) - 1 - u)).toNat = 0 by omega, Nat.pow_zero, Nat.mul_one]; ac_rfl
   ·unfold dn; rw [Nat.mul_assoc, ← Nat.pow_add, show ((b : Int) - 1 - u).toNat + u = b - 1 by omega]
  ·refine ⟨b - 1, ?_, ?_⟩
   ·unfold up; rw [Nat.mul_right_comm, Nat.mul_assoc N, ← Nat.pow_add, show (-((b : Int) - 1 - u)).toNat + (b - 1) = u by omega]
   ·unfold dn; rw [show ((b : Int) - 1 - u).toNat = 0 by omega, Nat.pow_zero, Nat.mul_one]
 rw [← hx1, ← hx2, Nat.mul_div_mul_right _ _ (two_pos x), Nat.mul_mod_mul_right]
 refine ⟨rfl, decide_eq_decide.2 ?_⟩
 have := two_pos x
 rw [Ne, Ne, Nat.mul_eq_zero]; omega
theorem fracQ {N C u q r b F : Nat} (hC : 0 < C) (hq : N * 2 ^ u = C * q + r) (hr : r < C) (hF : F + 1 ≤ b) :
  up ((b : Int) - 1 - u) N * 2 ^ F / dn ((b : Int) - 1 - u) C = q / 2 ^ (b - 1 - F) ∧
  decide (up ((b : Int) - 1 - u) N * 2 ^ F % dn ((b : Int) - 1 - u) C ≠ 0) = (decide (q % 2 ^ (b - 1 - F) ≠ 0) || decide (r ≠ 0)) := by
 obtain ⟨e1, e2⟩ := scaled N C u b F (by omega) hC
 rw [e1, e2, hq]
 have e3 : C * 2 ^ (b - 1) = C * 2 ^ (b - 1 - F) * 2 ^ F := by rw [Nat.mul_assoc, ← Nat.pow_add]; congr 2; omega
 rw [e3, Nat.mul_div_mul_right _ _ (two_pos F), Nat.mul_mod_mul_right, ← Nat.div_div_eq_div_mul, Nat.mul_add_div hC, Nat.div_eq_of_lt hr, Nat.add_zero]
 refine ⟨rfl, ?_⟩
 rw [Nat.mod_mul, Nat.mul_add_mod, Nat.mod_eq_of_lt hr, Nat.mul_add_div hC, Nat.div_eq_of_lt hr, Nat.add_zero, ← Bool.decide_or]
 refine decide_eq_decide.2 ?_
 have := two_pos F
 rw [Ne, Nat.mul_eq_zero, Nat.add_eq_zero_iff, Nat.mul_eq_zero]; omega
theorem fracE {N C u q b F : Nat} (hC : 0 < C) (hq : N * 2 ^ u = C * q) (hb : 1 ≤ b) (hF : b ≤ F + 1) :
  up ((b : Int) - 1 - u) N * 2 ^ F / dn ((b : Int) - 1 - u) C = q * 2 ^ (F + 1 - b) ∧
  decide (up ((b : Int) - 1 - u) N * 2 ^ F % dn ((b : Int) - 1 - u) C ≠ 0) = false := by
 obtain ⟨e1, e2⟩ := scaled N C u b F hb hC
 have e3 : C * q * 2 ^ F = C * 2 ^ (b - 1) * (q * 2 ^ (F + 1 - b)) := by
  rw [show C * 2 ^ (b - 1) * (q * 2 ^ (F + 1 - b)) = C * q * (2 ^ (b - 1) * 2 ^ (F + 1 - b)) by ac_rfl, ← Nat.pow_add]; congr 2; omega
 rw [e1, e2, hq, e3, Nat.mul_div_cancel_left _ (Nat.mul_pos hC (two_pos _)), Nat.mul_mod_right]
 exact ⟨rfl, by simp⟩
theorem ScQ {N C u q r b : Nat} (hC : 0 < C) (hq : N * 2 ^ u = C * q + r) (hr : r < C) (h1 : 2 ^ (b - 1) ≤ q) (h2 : q < 2 ^ b) (hb : 1 ≤ b) : Sc N C ((b : Int) - 1 - u) := by
 rw [Sc_iff u (by omega), show ((b : Int) - 1 - u + u).toNat = b - 1 by omega, hq]
 have a1 := Nat.mul_le_mul_left C h1
 have a2 : C * (q + 1) ≤ C * 2 ^ b := Nat.mul_le_mul_left C h2
 obtain ⟨m, rfl⟩ : ∃ m, b = m + 1 := ⟨b - 1, by omega⟩
 rw [Nat.pow_succ, ← Nat.mul_assoc, Nat.mul_add] at a2
 rw [Nat.add_sub_cancel] at a1 ⊢
 omega
theorem Rep.ofQ {N C u q r b : Nat} (hC : 0 < C) (hq : N * 2 ^ u = C * q + r) (hr : r < C) (h1 : 2 ^ (b - 1) ≤ q) (h2 : q < 2 ^ b) (hb : 64 ≤ b) :
  Rep N C ((b : Int) - 1 - u) (q / 2 ^ (b - 64)) (decide (q % 2 ^ (b - 64) ≠ 0) || decide (r ≠ 0)) := by
 obtain ⟨e1, e2⟩ := fracQ (F := 63) hC hq hr (by omega)
 rw [show b - 1 - 63 = b - 64 by omega] at e1 e2
 exact ⟨ScQ hC hq hr h1 h2 (by omega), e1.symm, e2.symm⟩
theorem Rep.ofE {N C u q b : Nat} (hC : 0 < C) (hq : N * 2 ^ u = C * q) (h1 : 2 ^ (b - 1) ≤ q) (h2 : q < 2 ^ b) (hb : 1 ≤ b) (hb2 : b ≤ 64) :
  Rep N C ((b : Int) - 1 - u) (q * 2 ^ (64 - b)) false := by
 obtain ⟨e1, e2⟩ := fracE (F := 63) hC hq hb (by omega)
 exact ⟨ScQ (r := 0) hC (by rw [hq, Nat.add_zero]) hC h1 h2 hb, e1.symm, e2.symm⟩
end Go.Proofs.Yy.TA
end
