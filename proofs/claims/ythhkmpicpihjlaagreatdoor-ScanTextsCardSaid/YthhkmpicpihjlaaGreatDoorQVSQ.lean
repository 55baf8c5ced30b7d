/- Layer 18's reader: take answers as the machine with nine states says. -/
import Derived.Test.YthhkmpicpihjlaaGreatDoorQVSR
set_option linter.unusedVariables false
set_option linter.unusedSimpArgs false
namespace Go.Proofs.YthhkmpicpihjlaaGreatDoor.SR
open Go.RowKit Go.Proofs.YthhkmpicpihjlaaGreatDoor.SC
theorem eqc {c : UInt8} {n : Nat} (hn : n < 256) (h : (c.toNat : Int) = (n : Int)) : c = UInt8.ofNat n := by
  apply UInt8.toNat_inj.1
  have e : (UInt8.ofNat n).toNat = n := by simp; omega
  rw [e]; omega
theorem cls (c : UInt8) : c = 43 ∨ c = 45 ∨ c = 46 ∨ c = 69 ∨ c = 101 ∨ (48 ≤ (c.toNat : Int) ∧ (c.toNat : Int) ≤ 57) ∨
    ((c.toNat : Int) < 48 ∧ (c.toNat : Int) ≠ 43 ∧ (c.toNat : Int) ≠ 45 ∧ (c.toNat : Int) ≠ 46) ∨ (57 < (c.toNat : Int) ∧ (c.toNat : Int) ≠ 69 ∧ (c.toNat : Int) ≠ 101) := by
  by_cases h1 : (c.toNat : Int) = 43
  · exact .inl (eqc (n := 43) (by decide) h1)
  by_cases h2 : (c.toNat : Int) = 45
  · exact .inr (.inl (eqc (n := 45) (by decide) h2))
  by_cases h3 : (c.toNat : Int) = 46
  · exact .inr (.inr (.inl (eqc (n := 46) (by decide) h3)))
  by_cases h4 : (c.toNat : Int) = 69
  · exact .inr (.inr (.inr (.inl (eqc (n := 69) (by decide) h4))))
  by_cases h5 : (c.toNat : Int) = 101
  · exact .inr (.inr (.inr (.inr (.inl (eqc (n := 101) (by decide) h5)))))
  refine .inr (.inr (.inr (.inr (.inr ?_))))
  omega
theorem dg_of {c : UInt8} (h : 48 ≤ (c.toNat : Int) ∧ (c.toNat : Int) ≤ 57) : dg c = true := by
  unfold dg; simp only [Bool.and_eq_true, decide_eq_true_iff]; omega
theorem dg_low {c : UInt8} (h : (c.toNat : Int) < 48 ∧ (c.toNat : Int) ≠ 43 ∧ (c.toNat : Int) ≠ 45 ∧ (c.toNat : Int) ≠ 46) : dg c = false ∧ sg c = false ∧ eb c = false ∧ (c == 46) = false := by
  refine ⟨?_, ?_, ?_, ?_⟩
  · unfold dg; simp only [Bool.and_eq_false_iff, decide_eq_false_iff_not]; omega
  · unfold sg; simp only [Bool.or_eq_false_iff, beq_eq_false_iff_ne, ne_eq]; constructor <;> (rintro rfl; simp at h)
  · unfold eb; simp only [Bool.or_eq_false_iff, beq_eq_false_iff_ne, ne_eq]; constructor <;> (rintro rfl; simp at h)
  · simp only [beq_eq_false_iff_ne, ne_eq]; rintro rfl; simp at h
theorem dg_high {c : UInt8} (h : 57 < (c.toNat : Int) ∧ (c.toNat : Int) ≠ 69 ∧ (c.toNat : Int) ≠ 101) : dg c = false ∧ sg c = false ∧ eb c = false ∧ (c == 46) = false := by
  refine ⟨?_, ?_, ?_, ?_⟩
  · unfold dg; simp only [Bool.and_eq_false_iff, decide_eq_false_iff_not]; omega
  · unfold sg; simp only [Bool.or_eq_false_iff, beq_eq_false_iff_ne, ne_eq]; constructor <;> (rintro rfl; simp at h)
  · unfold eb; simp only [Bool.or_eq_false_iff, beq_eq_false_iff_ne, ne_eq]; constructor <;> (rintro rfl; simp at h)
  · simp only [beq_eq_false_iff_ne, ne_eq]; rintro rfl; simp at h
theorem st_of {r : R} (h : okst r = true) : r.st = 0 ∨ r.st = 2 ∨ r.st = 3 ∨ r.st = 4 ∨ r.st = 5 ∨ r.st = 6 ∨ r.st = 7 ∨ r.st = 8 := by
  unfold okst at h
  simp only [Bool.or_eq_true, beq_iff_eq] at h
  omega
theorem take_none (B b k : Nat) (r : R) (c : UInt8) (w : World) (h : At B b r w) (hi : Inv k r) (ht : tk r c = none) :
    Calls Tryz.prog 36 #[.pointer (some ⟨b, 0, none⟩), .int .u8 (c.toNat : Int)] w fun e w' => e = .returned (.bool false) ∧ Below B w w' := by
  rcases st_of hi.st with hs | hs | hs | hs | hs | hs | hs | hs
  · rcases cls c with rfl | rfl | rfl | rfl | rfl | hc | hc | hc
    · exfalso; unfold tk at ht; rw [hs] at ht; simp [sg, eb, dg] at ht
    · exfalso; unfold tk at ht; rw [hs] at ht; simp [sg, eb, dg] at ht
    · exact take0_no46 B b r w h hs
    · exact take0_no69 B b r w h hs
    · exact take0_no101 B b r w h hs
    · exfalso; have hd := dg_of hc; obtain ⟨a1, a2, a3⟩ := dg_not_sg hd; unfold tk at ht; rw [hs] at ht; simp [hd, a1, a2, a3] at ht
    · exact take0_low B b r _ hc w h hs
    · exact take0_high B b r _ hc w h hs
  · rcases cls c with rfl | rfl | rfl | rfl | rfl | hc | hc | hc
    · exact take2_no43 B b r w h hs
    · exact take2_no45 B b r w h hs
    · exact take2_no46 B b r w h hs
    · exact take2_no69 B b r w h hs
    · exact take2_no101 B b r w h hs
    · exfalso; have hd := dg_of hc; obtain ⟨a1, a2, a3⟩ := dg_not_sg hd; unfold tk at ht; rw [hs] at ht; simp [hd, a1, a2, a3] at ht
    · exact take2_low B b r _ hc w h hs
    · exact take2_high B b r _ hc w h hs
  · rcases cls c with rfl | rfl | rfl | rfl | rfl | hc | hc | hc
    · exact take3_no43 B b r w h hs
    · exact take3_no45 B b r w h hs
    · exfalso; unfold tk at ht; rw [hs] at ht; simp [sg, eb, dg] at ht
    · exfalso; unfold tk at ht; rw [hs] at ht; simp [sg, eb, dg] at ht
    · exfalso; unfold tk at ht; rw [hs] at ht; simp [sg, eb, dg] at ht
    · exfalso; have hd := dg_of hc; obtain ⟨a1, a2, a3⟩ := dg_not_sg hd; unfold tk at ht; rw [hs] at ht; simp [hd, a1, a2, a3] at ht
    · exact take3_low B b r _ hc w h hs
    · exact take3_high B b r _ hc w h hs
  · rcases cls c with rfl | rfl | rfl | rfl | rfl | hc | hc | hc
    · exact take4_no43 B b r w h hs
    · exact take4_no45 B b r w h hs
    · exact take4_no46 B b r w h hs
    · exact take4_no69 B b r w h hs
    · exact take4_no101 B b r w h hs
    · exfalso; have hd := dg_of hc; obtain ⟨a1, a2, a3⟩ := dg_not_sg hd; unfold tk at ht; rw [hs] at ht; simp [hd, a1, a2, a3] at ht
    · exact take4_low B b r _ hc w h hs
    · exact take4_high B b r _ hc w h hs
  · rcases cls c with rfl | rfl | rfl | rfl | rfl | hc | hc | hc
    · exact take5_no43 B b r w h hs
    · exact take5_no45 B b r w h hs
    · exact take5_no46 B b r w h hs
    · exfalso; unfold tk at ht; rw [hs] at ht; simp [sg, eb, dg] at ht
    · exfalso; unfold tk at ht; rw [hs] at ht; simp [sg, eb, dg] at ht
    · exfalso; have hd := dg_of hc; obtain ⟨a1, a2, a3⟩ := dg_not_sg hd; unfold tk at ht; rw [hs] at ht; simp [hd, a1, a2, a3] at ht
    · exact take5_low B b r _ hc w h hs
    · exact take5_high B b r _ hc w h hs
  · rcases cls c with rfl | rfl | rfl | rfl | rfl | hc | hc | hc
    · exfalso; unfold tk at ht; rw [hs] at ht; simp [sg, eb, dg] at ht
    · exfalso; unfold tk at ht; rw [hs] at ht; simp [sg, eb, dg] at ht
    · exact take6_no46 B b r w h hs
    · exact take6_no69 B b r w h hs
    · exact take6_no101 B b r w h hs
    · exfalso; have hd := dg_of hc; obtain ⟨a1, a2, a3⟩ := dg_not_sg hd; unfold tk at ht; rw [hs] at ht; simp [hd, a1, a2, a3] at ht
    · exact take6_low B b r _ hc w h hs
    · exact take6_high B b r _ hc w h hs
  · rcases cls c with rfl | rfl | rfl | rfl | rfl | hc | hc | hc
    · exact take7_no43 B b r w h hs
    · exact take7_no45 B b r w h hs
    · exact take7_no46 B b r w h hs
    · exact take7_no69 B b r w h hs
    · exact take7_no101 B b r w h hs
    · exfalso; have hd := dg_of hc; obtain ⟨a1, a2, a3⟩ := dg_not_sg hd; unfold tk at ht; rw [hs] at ht; simp [hd, a1, a2, a3] at ht
    · exact take7_low B b r _ hc w h hs
    · exact take7_high B b r _ hc w h hs
  · rcases cls c with rfl | rfl | rfl | rfl | rfl | hc | hc | hc
    · exact take8_no43 B b r w h hs
    · exact take8_no45 B b r w h hs
    · exact take8_no46 B b r w h hs
    · exact take8_no69 B b r w h hs
    · exact take8_no101 B b r w h hs
    · exfalso; have hd := dg_of hc; obtain ⟨a1, a2, a3⟩ := dg_not_sg hd; unfold tk at ht; rw [hs] at ht; simp [hd, a1, a2, a3] at ht
    · exact take8_low B b r _ hc w h hs
    · exact take8_high B b r _ hc w h hs
theorem take_some (B b k : Nat) (r r' : R) (c : UInt8) (w : World) (h : At B b r w) (hi : Inv k r) (hk : k < 1000000) (hBw : B ≤ w.heap.size) (ht : tk r c = some r') :
    Calls Tryz.prog 36 #[.pointer (some ⟨b, 0, none⟩), .int .u8 (c.toNat : Int)] w fun e w' => e = .returned (.bool true) ∧ At B b r' w' ∧ Below B w w' := by
  have hlen : r.ds.length < 1000000 := by have := hi.len; omega
  have hbeh : r.beh < 1000000 := by have := hi.beh; omega
  rcases st_of hi.st with hs | hs | hs | hs | hs | hs | hs | hs
  · rcases cls c with rfl | rfl | rfl | rfl | rfl | hc | hc | hc
    · unfold tk at ht; rw [hs] at ht; simp [sg, eb, dg] at ht; subst ht; exact take0_43 B b r w h hs
    · unfold tk at ht; rw [hs] at ht; simp [sg, eb, dg] at ht; subst ht; exact take0_45 B b r w h hs
    · exfalso; unfold tk at ht; rw [hs] at ht; simp [sg, eb, dg] at ht
    · exfalso; unfold tk at ht; rw [hs] at ht; simp [sg, eb, dg] at ht
    · exfalso; unfold tk at ht; rw [hs] at ht; simp [sg, eb, dg] at ht
    · have hd := dg_of hc; obtain ⟨a1, a2, a3⟩ := dg_not_sg hd; unfold tk at ht; rw [hs] at ht; simp only [hd, a1, a2, a3, if_true, Bool.false_eq_true, if_false, Option.some.injEq] at ht; subst ht; exact take0_digit B b r c _ rfl hc w h hs hBw hlen hbeh
    · exfalso; obtain ⟨a0, a1, a2, a3⟩ := dg_low hc; unfold tk at ht; rw [hs] at ht; simp [a0, a1, a2, a3] at ht
    · exfalso; obtain ⟨a0, a1, a2, a3⟩ := dg_high hc; unfold tk at ht; rw [hs] at ht; simp [a0, a1, a2, a3] at ht
  · rcases cls c with rfl | rfl | rfl | rfl | rfl | hc | hc | hc
    · exfalso; unfold tk at ht; rw [hs] at ht; simp [sg, eb, dg] at ht
    · exfalso; unfold tk at ht; rw [hs] at ht; simp [sg, eb, dg] at ht
    · exfalso; unfold tk at ht; rw [hs] at ht; simp [sg, eb, dg] at ht
    · exfalso; unfold tk at ht; rw [hs] at ht; simp [sg, eb, dg] at ht
    · exfalso; unfold tk at ht; rw [hs] at ht; simp [sg, eb, dg] at ht
    · have hd := dg_of hc; obtain ⟨a1, a2, a3⟩ := dg_not_sg hd; unfold tk at ht; rw [hs] at ht; simp only [hd, a1, a2, a3, if_true, Bool.false_eq_true, if_false, Option.some.injEq] at ht; subst ht; exact take2_digit B b r c _ rfl hc w h hs hBw hlen hbeh
    · exfalso; obtain ⟨a0, a1, a2, a3⟩ := dg_low hc; unfold tk at ht; rw [hs] at ht; simp [a0, a1, a2, a3] at ht
    · exfalso; obtain ⟨a0, a1, a2, a3⟩ := dg_high hc; unfold tk at ht; rw [hs] at ht; simp [a0, a1, a2, a3] at ht
  · rcases cls c with rfl | rfl | rfl | rfl | rfl | hc | hc | hc
    · exfalso; unfold tk at ht; rw [hs] at ht; simp [sg, eb, dg] at ht
    · exfalso; unfold tk at ht; rw [hs] at ht; simp [sg, eb, dg] at ht
    · unfold tk at ht; rw [hs] at ht; simp [sg, eb, dg] at ht; subst ht; exact take3_46 B b r w h hs
    · unfold tk at ht; rw [hs] at ht; simp [sg, eb, dg] at ht; subst ht; exact take3_69 B b r w h hs
    · unfold tk at ht; rw [hs] at ht; simp [sg, eb, dg] at ht; subst ht; exact take3_101 B b r w h hs
    · have hd := dg_of hc; obtain ⟨a1, a2, a3⟩ := dg_not_sg hd; unfold tk at ht; rw [hs] at ht; simp only [hd, a1, a2, a3, if_true, Bool.false_eq_true, if_false, Option.some.injEq] at ht; subst ht; have q := take3_digit B b r c _ rfl hc w h hs hBw hlen hbeh; rw [hs] at q; exact q
    · exfalso; obtain ⟨a0, a1, a2, a3⟩ := dg_low hc; unfold tk at ht; rw [hs] at ht; simp [a0, a1, a2, a3] at ht
    · exfalso; obtain ⟨a0, a1, a2, a3⟩ := dg_high hc; unfold tk at ht; rw [hs] at ht; simp [a0, a1, a2, a3] at ht
  · rcases cls c with rfl | rfl | rfl | rfl | rfl | hc | hc | hc
    · exfalso; unfold tk at ht; rw [hs] at ht; simp [sg, eb, dg] at ht
    · exfalso; unfold tk at ht; rw [hs] at ht; simp [sg, eb, dg] at ht
    · exfalso; unfold tk at ht; rw [hs] at ht; simp [sg, eb, dg] at ht
    · exfalso; unfold tk at ht; rw [hs] at ht; simp [sg, eb, dg] at ht
    · exfalso; unfold tk at ht; rw [hs] at ht; simp [sg, eb, dg] at ht
    · have hd := dg_of hc; obtain ⟨a1, a2, a3⟩ := dg_not_sg hd; unfold tk at ht; rw [hs] at ht; simp only [hd, a1, a2, a3, if_true, Bool.false_eq_true, if_false, Option.some.injEq] at ht; subst ht; exact take4_digit B b r c _ rfl hc w h hs hBw hlen hbeh
    · exfalso; obtain ⟨a0, a1, a2, a3⟩ := dg_low hc; unfold tk at ht; rw [hs] at ht; simp [a0, a1, a2, a3] at ht
    · exfalso; obtain ⟨a0, a1, a2, a3⟩ := dg_high hc; unfold tk at ht; rw [hs] at ht; simp [a0, a1, a2, a3] at ht
  · rcases cls c with rfl | rfl | rfl | rfl | rfl | hc | hc | hc
    · exfalso; unfold tk at ht; rw [hs] at ht; simp [sg, eb, dg] at ht
    · exfalso; unfold tk at ht; rw [hs] at ht; simp [sg, eb, dg] at ht
    · exfalso; unfold tk at ht; rw [hs] at ht; simp [sg, eb, dg] at ht
    · unfold tk at ht; rw [hs] at ht; simp [sg, eb, dg] at ht; subst ht; exact take5_69 B b r w h hs
    · unfold tk at ht; rw [hs] at ht; simp [sg, eb, dg] at ht; subst ht; exact take5_101 B b r w h hs
    · have hd := dg_of hc; obtain ⟨a1, a2, a3⟩ := dg_not_sg hd; unfold tk at ht; rw [hs] at ht; simp only [hd, a1, a2, a3, if_true, Bool.false_eq_true, if_false, Option.some.injEq] at ht; subst ht; exact take5_digit B b r c _ rfl hc w h hs hBw hlen hbeh
    · exfalso; obtain ⟨a0, a1, a2, a3⟩ := dg_low hc; unfold tk at ht; rw [hs] at ht; simp [a0, a1, a2, a3] at ht
    · exfalso; obtain ⟨a0, a1, a2, a3⟩ := dg_high hc; unfold tk at ht; rw [hs] at ht; simp [a0, a1, a2, a3] at ht
  · rcases cls c with rfl | rfl | rfl | rfl | rfl | hc | hc | hc
    · unfold tk at ht; rw [hs] at ht; simp [sg, eb, dg] at ht; subst ht; exact take6_43 B b r w h hs
    · unfold tk at ht; rw [hs] at ht; simp [sg, eb, dg] at ht; subst ht; exact take6_45 B b r w h hs
    · exfalso; unfold tk at ht; rw [hs] at ht; simp [sg, eb, dg] at ht
    · exfalso; unfold tk at ht; rw [hs] at ht; simp [sg, eb, dg] at ht
    · exfalso; unfold tk at ht; rw [hs] at ht; simp [sg, eb, dg] at ht
    · have hd := dg_of hc; obtain ⟨a1, a2, a3⟩ := dg_not_sg hd; unfold tk at ht; rw [hs] at ht; simp only [hd, a1, a2, a3, if_true, Bool.false_eq_true, if_false, Option.some.injEq] at ht; subst ht; exact take6_digit B b r c _ rfl hc w h hs hi.exp
    · exfalso; obtain ⟨a0, a1, a2, a3⟩ := dg_low hc; unfold tk at ht; rw [hs] at ht; simp [a0, a1, a2, a3] at ht
    · exfalso; obtain ⟨a0, a1, a2, a3⟩ := dg_high hc; unfold tk at ht; rw [hs] at ht; simp [a0, a1, a2, a3] at ht
  · rcases cls c with rfl | rfl | rfl | rfl | rfl | hc | hc | hc
    · exfalso; unfold tk at ht; rw [hs] at ht; simp [sg, eb, dg] at ht
    · exfalso; unfold tk at ht; rw [hs] at ht; simp [sg, eb, dg] at ht
    · exfalso; unfold tk at ht; rw [hs] at ht; simp [sg, eb, dg] at ht
    · exfalso; unfold tk at ht; rw [hs] at ht; simp [sg, eb, dg] at ht
    · exfalso; unfold tk at ht; rw [hs] at ht; simp [sg, eb, dg] at ht
    · have hd := dg_of hc; obtain ⟨a1, a2, a3⟩ := dg_not_sg hd; unfold tk at ht; rw [hs] at ht; simp only [hd, a1, a2, a3, if_true, Bool.false_eq_true, if_false, Option.some.injEq] at ht; subst ht; exact take7_digit B b r c _ rfl hc w h hs hi.exp
    · exfalso; obtain ⟨a0, a1, a2, a3⟩ := dg_low hc; unfold tk at ht; rw [hs] at ht; simp [a0, a1, a2, a3] at ht
    · exfalso; obtain ⟨a0, a1, a2, a3⟩ := dg_high hc; unfold tk at ht; rw [hs] at ht; simp [a0, a1, a2, a3] at ht
  · rcases cls c with rfl | rfl | rfl | rfl | rfl | hc | hc | hc
    · exfalso; unfold tk at ht; rw [hs] at ht; simp [sg, eb, dg] at ht
    · exfalso; unfold tk at ht; rw [hs] at ht; simp [sg, eb, dg] at ht
    · exfalso; unfold tk at ht; rw [hs] at ht; simp [sg, eb, dg] at ht
    · exfalso; unfold tk at ht; rw [hs] at ht; simp [sg, eb, dg] at ht
    · exfalso; unfold tk at ht; rw [hs] at ht; simp [sg, eb, dg] at ht
    · have hd := dg_of hc; obtain ⟨a1, a2, a3⟩ := dg_not_sg hd; unfold tk at ht; rw [hs] at ht; simp only [hd, a1, a2, a3, if_true, Bool.false_eq_true, if_false, Option.some.injEq] at ht; subst ht; exact take8_digit B b r c _ rfl hc w h hs hi.exp
    · exfalso; obtain ⟨a0, a1, a2, a3⟩ := dg_low hc; unfold tk at ht; rw [hs] at ht; simp [a0, a1, a2, a3] at ht
    · exfalso; obtain ⟨a0, a1, a2, a3⟩ := dg_high hc; unfold tk at ht; rw [hs] at ht; simp [a0, a1, a2, a3] at ht
end Go.Proofs.YthhkmpicpihjlaaGreatDoor.SR
