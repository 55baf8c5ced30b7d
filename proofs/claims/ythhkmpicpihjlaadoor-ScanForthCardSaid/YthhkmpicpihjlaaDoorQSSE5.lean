/- Layer 18: ScanForth: every text: the call returns true and keeps all that is older. -/
import Derived.Test.YthhkmpicpihjlaaDoorQSPScx5
import Derived.Test.YthhkmpicpihjlaaDoorQSSE4
import Derived.Test.YthhkmpicpihjlaaDoorQSGShown
set_option linter.unusedVariables false
set_option linter.unusedSimpArgs false
namespace Go.Proofs.YthhkmpicpihjlaaDoor.PSc
open Go.RowKit Go.Proofs.YthhkmpicpihjlaaDoorW.PrintWords Go.Proofs.YthhkmpicpihjlaaDoorW.PrintLast Go.Proofs.YthhkmpicpihjlaaDoorW.PrintMore Go.Proofs.YthhkmpicpihjlaaDoor.SC
theorem ScanForth_ev (l : List UInt8) (hb : ∀ p, scanF l ≠ .bad p) : Ev (fun k => vernierlaw18_ScanForth.f k (mkB l)) true := by
  have hs : vernierlaw18_shown.f = some true := rfl
  unfold vernierlaw18_ScanForth.f
  rw [hs]
  simp only [Option.bind_some]
  rw [scan_f]
  cases hc : scanF l with
  | long =>
    simp only [Option.bind_some]
    refine Ev.congr (fun k => ?_) (Ev.now true)
    simp [mkB_toList]
  | bad p => exact absurd hc (hb p)
  | ok d =>
    have hN := scanF_norm hc
    simp only [Option.bind_some, Option.isNone_none, if_true]
    rw [norm_once hN, text_f, if_pos (formed_of_norm hN), nrm_of_norm hN]
    simp only [Option.bind_some, Option.isNone_none, if_true, beq_self_eq_true, Bool.not_true, Bool.or_self]
    refine Ev.step (f := fun _ => some true) (fun k => ?_) (Ev.now true)
    simp only [vernierlaw18_ScanForth.j0, Bool.false_eq_true, if_false, mkB_size]
    by_cases hl : 4096 < (textN d).length
    · rw [if_pos (by omega)]
    · rw [if_neg (by omega), scan_f, scan_text hN (by omega)]
      simp only [Option.bind_some]
      rw [text_f, if_pos (formed_of_norm hN), nrm_of_norm hN]
      simp
theorem eq_empty (w : World) : (binOp .eql 43 (.agg emptyD) (.agg emptyD)).run Tryd.prog w = .ok (.bool true) w := by kernel_rfl
set_option maxHeartbeats 1000000 in
set_option maxRecDepth 100000 in
theorem ScanForth_bad (s : ByteArray) (p : Nat) (w : World) (hl : Fx.Laid w) (h : scanF s.data.toList = .bad p) :
    Calls Tryd.prog 6 #[.string s] w fun e w' => e = .returned (.bool true) ∧ Below w.heap.size w w' := by
  have eE := eq_empty
  have HL := Aside0.mk hl
  have HC := Aside0.mk h
  clear hl h
  go_enter Tryd.func6, Tryd.ntmps6
  go_wp2_with (first | (go_at_call 21; refine (shown_true _ HL.out).mono ?_; rintro e w1 ⟨rfl, hb⟩; have HB1 := Aside0.mk hb; clear hb) | (go_at_call 26; refine (scan_bad _ _ _ HC.out).mono ?_; rintro e w2 ⟨g, rfl, hg, hF, hb⟩; have HB2 := Aside0.mk (low_step HB1.out hb); clear hb hg hF))
  go_ret
  exact ⟨rfl, low_alloc HB2.out _⟩
theorem ScanForth_all (a0 : ByteArray) (w : World) (htab : Fx.Laid w) :
    Calls Tryd.prog 6 #[.string a0] w fun e w' => e = .returned (.bool true) ∧ Below w.heap.size w w' := by
  by_cases hb : ∃ p, scanF a0.data.toList = .bad p
  · obtain ⟨p, hp⟩ := hb
    exact ScanForth_bad a0 p w htab hp
  · obtain ⟨k, hk⟩ := (ScanForth_ev a0.data.toList (fun p hp => hb ⟨p, hp⟩)).rounds
    exact vernierlaw18_ScanForth.calls k a0 true w hk rfl htab
end Go.Proofs.YthhkmpicpihjlaaDoor.PSc
