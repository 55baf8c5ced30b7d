/- Layer 18: ScanNorms: every decimal: the call returns true and keeps all that is older. -/
import Derived.Test.YthhkmpicpihjlaaDoorQSPScx5
import Derived.Test.YthhkmpicpihjlaaDoorQSSE2
set_option linter.unusedVariables false
set_option linter.unusedSimpArgs false
namespace Go.Proofs.YthhkmpicpihjlaaDoor.PSc
open Go.RowKit Go.Proofs.YthhkmpicpihjlaaDoorW.PrintWords Go.Proofs.YthhkmpicpihjlaaDoorW.PrintLast Go.Proofs.YthhkmpicpihjlaaDoorW.PrintMore Go.Proofs.YthhkmpicpihjlaaDoor.SC
theorem rNorm_ev (d : D) (hl : d.ds.length ≤ 9223372036854775807) : Ev (fun k => vernierref18_Norm.f k d.nar d.neg (mkB d.ds) d.e) (if formed d = true then ((nrm d).nar, (nrm d).neg, mkB (nrm d).ds, (nrm d).e, 0) else (false, false, mkB [], 0, 23)) := by
  refine Ev.bind (Formed_ev d hl) ?_
  by_cases h : formed d = true
  · obtain ⟨h1, h2, h3⟩ := formed_bounds h
    rw [if_pos h]
    refine Ev.congr (f := fun k => (vernierref18_Normed.f k d.nar d.neg (mkB d.ds) d.e).bind fun bt128 => (some (bt128.1, bt128.2.1, bt128.2.2.1, bt128.2.2.2, 0))) (fun k => by rw [if_pos h]) ?_
    refine Ev.bind (Normed_ev d hl h2 h3) ?_
    exact Ev.now _
  · rw [if_neg h]
    exact Ev.congr (fun k => by rw [if_neg h]; rfl) (Ev.now _)
theorem code_none : vernierlaw00_Code.f none = some 0 := by rfl
theorem code_23 : vernierlaw00_Code.f (some 23) = some 23 := by decide
theorem ScanNorms_ev (d : D) (hl : d.ds.length ≤ 9223372036854775807) : Ev (fun k => vernierlaw18_ScanNorms.f k d.nar d.neg (mkB d.ds) d.e) true := by
  have hs : vernierlaw18_shown.f = some true := rfl
  unfold vernierlaw18_ScanNorms.f
  rw [hs]
  simp only [Option.bind_some]
  rw [scan_Norm_ev]
  simp only [Option.bind_some]
  refine Ev.bind (rNorm_ev d hl) ?_
  by_cases h : formed d = true
  · rw [if_pos h, if_pos h]
    refine Ev.congr (fun k => ?_) (Ev.now true)
    simp only [if_true, beq_self_eq_true, Bool.and_self, code_none, Option.bind_some]
  · rw [if_neg h, if_neg h]
    refine Ev.congr (fun k => ?_) (Ev.now true)
    simp only [if_true, beq_self_eq_true, Bool.and_self, code_23, Option.bind_some]
theorem ScanNorms_all (a0_0 a0_1 : Bool) (a0_2 : ByteArray) (a0_3 : Int) (w : World) (htab : Fx.Laid w) (hs : a0_2.size ≤ maxLen) :
    Calls Tryd.prog 4 #[.agg #[.bool a0_0, .bool a0_1, .string a0_2, .int .i64 a0_3]] w fun e w' => e = .returned (.bool true) ∧ Below w.heap.size w w' := by
  have hl : a0_2.data.toList.length ≤ 9223372036854775807 := by
    have e1 : a0_2.data.toList.length = a0_2.size := Array.length_toList
    rw [e1]; unfold maxLen at hs; omega
  obtain ⟨k, hk⟩ := (ScanNorms_ev ⟨a0_0, a0_1, a0_2.data.toList, a0_3⟩ hl).rounds
  exact vernierlaw18_ScanNorms.calls k a0_0 a0_1 a0_2 a0_3 true w hk rfl htab
end Go.Proofs.YthhkmpicpihjlaaDoor.PSc
