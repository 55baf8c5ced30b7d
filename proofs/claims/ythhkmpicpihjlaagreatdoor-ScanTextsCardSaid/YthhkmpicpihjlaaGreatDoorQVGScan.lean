/- scan.Scan: a contract in the printed form where it answers without a fault; and the fault with its place. -/
import Derived.Test.YthhkmpicpihjlaaGreatDoorQVGScanN
set_option linter.unusedVariables false
set_option linter.unusedSimpArgs false
namespace Go.Proofs.YthhkmpicpihjlaaGreatDoor.PSc
open Go.RowKit Go.Proofs.YthhkmpicpihjlaaGreatDoorW.PrintWords Go.Proofs.YthhkmpicpihjlaaGreatDoorW.PrintLast Go.Proofs.YthhkmpicpihjlaaGreatDoorW.PrintMore Go.Proofs.YthhkmpicpihjlaaGreatDoor.SC Go.Proofs.YthhkmpicpihjlaaGreatDoor.SR
def scan_Scan.f (s : ByteArray) : Option (Bool × Bool × ByteArray × Int × Option Int) :=
  match scanF s.data.toList with
  | .long => some (false, false, (⟨#[]⟩ : ByteArray), 0, some 13)
  | .bad _ => none
  | .ok d => some (d.nar, d.neg, mkB d.ds, d.e, none)
theorem prefix_false {l : List UInt8} (h : ¬ hd (· == 110) l = true) : Lib.hasPrefix l [110] = false := by
  cases l with
  | nil => rfl
  | cons c l =>
    have hc : ¬ c = 110 := by simpa [hd] using h
    unfold Lib.hasPrefix
    rw [Bool.eq_false_iff]
    intro h2
    have := List.isPrefixOf_iff_prefix.1 h2
    obtain ⟨t, ht⟩ := this
    simp at ht
    exact hc ht.1.symm
def Scanned (l : List UInt8) (w : World) (e : Ending) (w' : World) : Prop :=
  match scanF l with
  | .long => e = .returned (.tuple #[.agg emptyD, .iface 29 (.int .i64 13)]) ∧ Below w.heap.size w w'
  | .bad p => Faulty p w e w'
  | .ok d => e = .returned (.tuple #[.agg #[.bool d.nar, .bool d.neg, .string (mkB d.ds), .int .i64 d.e], .nilIface]) ∧ Below w.heap.size w w'
theorem scan_all (s : ByteArray) (w : World) : Calls Tryz.prog 12 #[.string s] w fun e w' => Scanned s.data.toList w e w' := by
  have hl : s.data.toList.length = s.size := Array.length_toList
  by_cases h4 : 4096 < s.size
  · refine (scan_long s w h4).mono ?_
    intro e w' h
    unfold Scanned scanF
    rw [if_pos (by omega)]
    exact h
  · by_cases hn : hd (· == 110) s.data.toList = true
    · refine (scan_word s w (by omega) hn).mono ?_
      intro e w' h
      unfold Scanned scanF
      unfold Worded at h
      rw [if_neg (by omega), if_pos hn]
      by_cases hw : wordAt s.data.toList < 3 ∨ 3 < s.data.toList.length
      · rw [if_pos hw] at h ⊢; exact h
      · rw [if_neg hw] at h ⊢; exact h
    · refine (scan_num s w (by omega) (prefix_false hn)).mono ?_
      intro e w' h
      unfold Scanned scanF
      unfold Numbered at h
      rw [if_neg (by omega), if_neg hn]
      cases hs : scan s.data.toList with
      | inl p => rw [hs] at h; exact h
      | inr r => rw [hs] at h; exact h
theorem scan_Scan.calls (a0 : ByteArray) (r1 : Bool) (r2 : Bool) (r3 : ByteArray) (r4 : Int) (r5 : Option Int) (w : World) (h : scan_Scan.f a0 = some (r1, r2, r3, r4, r5)) :
    Calls Tryz.prog 12 #[.string a0] w fun e w' => e = .returned (.tuple #[.agg #[.bool r1, .bool r2, .string r3, .int .i64 r4], errW r5]) ∧ Below w.heap.size w w' := by
  refine (scan_all a0 w).mono ?_
  intro e w' hs
  unfold Scanned at hs
  unfold scan_Scan.f at h
  cases hc : scanF a0.data.toList with
  | long =>
    rw [hc] at h hs
    simp only [Option.some.injEq, Prod.mk.injEq] at h
    obtain ⟨rfl, rfl, rfl, rfl, rfl⟩ := h
    exact hs
  | bad p => rw [hc] at h; simp at h
  | ok d =>
    rw [hc] at h hs
    simp only [Option.some.injEq, Prod.mk.injEq] at h
    obtain ⟨rfl, rfl, rfl, rfl, rfl⟩ := h
    exact hs
theorem scan_bad (a0 : ByteArray) (p : Nat) (w : World) (h : scanF a0.data.toList = .bad p) : Calls Tryz.prog 12 #[.string a0] w fun e w' => Faulty p w e w' := by
  refine (scan_all a0 w).mono ?_
  intro e w' hs
  unfold Scanned at hs
  rw [h] at hs
  exact hs
end Go.Proofs.YthhkmpicpihjlaaGreatDoor.PSc
