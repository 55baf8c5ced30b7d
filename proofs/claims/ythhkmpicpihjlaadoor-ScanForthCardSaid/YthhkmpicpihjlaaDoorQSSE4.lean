/- Layer 18: ScanBack: every decimal: the call returns true and keeps all that is older. -/
import Derived.Test.YthhkmpicpihjlaaDoorQSPScx5
import Derived.Test.YthhkmpicpihjlaaDoorQSSE1
import Derived.Test.YthhkmpicpihjlaaDoorQSGScan
import Derived.Test.YthhkmpicpihjlaaDoorQSGSText
set_option linter.unusedVariables false
set_option linter.unusedSimpArgs false
namespace Go.Proofs.YthhkmpicpihjlaaDoor.PSc
open Go.RowKit Go.Proofs.YthhkmpicpihjlaaDoorW.PrintWords Go.Proofs.YthhkmpicpihjlaaDoorW.PrintLast Go.Proofs.YthhkmpicpihjlaaDoorW.PrintMore Go.Proofs.YthhkmpicpihjlaaDoor.SC
theorem text_f (d : D) : scan_Text.f d.nar d.neg (mkB d.ds) d.e = if formed d = true then some (mkB (textN (nrm d)), none) else some (mkB [], some 23) := rfl
theorem scan_f (l : List UInt8) : scan_Scan.f (mkB l) = (match scanF l with | .long => some (false, false, mkB [], 0, some 13) | .bad _ => none | .ok d => some (d.nar, d.neg, mkB d.ds, d.e, none)) := rfl
theorem scan_long_f {l : List UInt8} (h : 4096 < l.length) : scanF l = .long := by unfold scanF; rw [if_pos h]
theorem norm_once {d : D} (h : Norm d) : scan_Norm.f d.nar d.neg (mkB d.ds) d.e = some (d.nar, d.neg, mkB d.ds, d.e, none) := by
  rw [scan_Norm_ev, if_pos (formed_of_norm h), nrm_of_norm h]
theorem ScanBack_ev (d : D) : Ev (fun k => vernierlaw18_ScanBack.f k d.nar d.neg (mkB d.ds) d.e) true := by
  have hs : vernierlaw18_shown.f = some true := rfl
  unfold vernierlaw18_ScanBack.f
  rw [hs]
  simp only [Option.bind_some]
  rw [scan_Norm_ev, text_f]
  by_cases h : formed d = true
  · have hN := norm_nrm h
    rw [if_pos h, if_pos h]
    simp only [Option.bind_some]
    rw [norm_once hN]
    simp only [Option.bind_some, Option.isNone_none, if_true, beq_self_eq_true, Bool.not_true, Bool.or_self]
    refine Ev.step (f := fun _ => some true) (fun k => ?_) (Ev.now true)
    simp only [vernierlaw18_ScanBack.j0, Bool.false_eq_true, if_false, mkB_size]
    rw [scan_f]
    by_cases hl : 4096 < (textN (nrm d)).length
    · rw [scan_long_f hl]
      simp only [Option.bind_some]
      rw [if_pos (by omega)]
      simp
    · rw [scan_text hN (by omega)]
      simp only [Option.bind_some]
      rw [if_neg (by omega)]
      simp
  · rw [if_neg h, if_neg h]
    refine Ev.congr (fun k => ?_) (Ev.now true)
    simp [mkB_toList]
theorem ScanBack_all (a0_0 a0_1 : Bool) (a0_2 : ByteArray) (a0_3 : Int) (w : World) (htab : Fx.Laid w) (hs : a0_2.size ≤ maxLen) :
    Calls Tryd.prog 5 #[.agg #[.bool a0_0, .bool a0_1, .string a0_2, .int .i64 a0_3]] w fun e w' => e = .returned (.bool true) ∧ Below w.heap.size w w' := by
  obtain ⟨k, hk⟩ := (ScanBack_ev ⟨a0_0, a0_1, a0_2.data.toList, a0_3⟩).rounds
  exact vernierlaw18_ScanBack.calls k a0_0 a0_1 a0_2 a0_3 true w hk rfl htab
end Go.Proofs.YthhkmpicpihjlaaDoor.PSc
