/- scan.Text: what it answers at every decimal, as a contract in the printed form. -/
import Derived.Test.YthhkmpicpihjlaaGreatDoorQVGSTextB1
import Derived.Test.YthhkmpicpihjlaaGreatDoorQVGSTextB2
import Derived.Test.YthhkmpicpihjlaaGreatDoorQVGSTextB3
import Derived.Test.YthhkmpicpihjlaaGreatDoorQVGSTextB4
set_option linter.unusedVariables false
set_option linter.unusedSimpArgs false
namespace Go.Proofs.YthhkmpicpihjlaaGreatDoor.PSc
open Go.RowKit Go.Proofs.YthhkmpicpihjlaaGreatDoorW.PrintWords Go.Proofs.YthhkmpicpihjlaaGreatDoorW.PrintLast Go.Proofs.YthhkmpicpihjlaaGreatDoorW.PrintMore Go.Proofs.YthhkmpicpihjlaaGreatDoor.SC
theorem text_good (d : D) (w : World) (hl0 : Fx.Laid w) (h : formed d = true) :
    Calls Tryz.prog 15 #[.agg #[.bool d.nar, .bool d.neg, .string (mkB d.ds), .int .i64 d.e]] w fun e w' => Texted (nrm d) w e w' := by
  have hNm := norm_nrm h
  obtain ⟨hl1, he1, he2⟩ : (nrm d).ds.length ≤ 4096 ∧ -1000000 ≤ (nrm d).e ∧ (nrm d).e ≤ 1000000 := formed_bounds (formed_of_norm hNm)
  have h0 := norm_good d h
  by_cases hnar : (nrm d).nar = true
  · exact text_nar d w h hnar
  · have hn : (nrm d).nar = false := Bool.eq_false_iff.2 hnar
    have hne : 0 < (nrm d).ds.length := by
      rcases hNm with h1 | ⟨_, _, h1, _⟩
      · rw [h1] at hnar; exact absurd rfl hnar
      · exact List.length_pos_iff.2 h1
    obtain ⟨a, ha⟩ : ∃ a : Int, a = ((nrm d).ds.length : Int) + (nrm d).e := ⟨_, rfl⟩
    by_cases hneg : (nrm d).neg = true
    · by_cases c1 : 0 ≤ (nrm d).e
      · by_cases c2 : a ≤ 21
        · exact text_one_true d (nrm d) w hl0 h0 hn hneg hl1 he1 he2 a ha c1 c2
        · by_cases c9 : 1 < (nrm d).ds.length
          · exact text_fourAL_true d (nrm d) w hl0 h0 hn hneg hl1 he1 he2 a ha c1 (by omega) c9
          · exact text_fourAS_true d (nrm d) w hl0 h0 hn hneg hl1 he1 he2 a ha c1 (by omega) (by omega)
      · by_cases c2 : 1 ≤ a
        · by_cases c3 : a ≤ 21
          · exact text_two_true d (nrm d) w hl0 h0 hn hneg hl1 he1 he2 a ha (by omega) c2 c3
          · by_cases c9 : 1 < (nrm d).ds.length
            · exact text_fourBL_true d (nrm d) w hl0 h0 hn hneg hl1 he1 he2 a ha (by omega) (by omega) c9
            · exact text_fourBS_true d (nrm d) w hl0 h0 hn hneg hl1 he1 he2 a ha (by omega) (by omega) (by omega)
        · by_cases c3 : -5 ≤ a
          · exact text_three_true d (nrm d) w hl0 h0 hn hneg hl1 he1 he2 a ha (by omega) c3 (by omega)
          · by_cases c9 : 1 < (nrm d).ds.length
            · exact text_fourCL_true d (nrm d) w hl0 h0 hn hneg hl1 he1 he2 a ha (by omega) (by omega) c9
            · exact text_fourCS_true d (nrm d) w hl0 h0 hn hneg hl1 he1 he2 a ha (by omega) (by omega) (by omega)
    · replace hneg : (nrm d).neg = false := Bool.eq_false_iff.2 hneg
      by_cases c1 : 0 ≤ (nrm d).e
      · by_cases c2 : a ≤ 21
        · exact text_one_false d (nrm d) w hl0 h0 hn hneg hl1 he1 he2 a ha c1 c2
        · by_cases c9 : 1 < (nrm d).ds.length
          · exact text_fourAL_false d (nrm d) w hl0 h0 hn hneg hl1 he1 he2 a ha c1 (by omega) c9
          · exact text_fourAS_false d (nrm d) w hl0 h0 hn hneg hl1 he1 he2 a ha c1 (by omega) (by omega)
      · by_cases c2 : 1 ≤ a
        · by_cases c3 : a ≤ 21
          · exact text_two_false d (nrm d) w hl0 h0 hn hneg hl1 he1 he2 a ha (by omega) c2 c3
          · by_cases c9 : 1 < (nrm d).ds.length
            · exact text_fourBL_false d (nrm d) w hl0 h0 hn hneg hl1 he1 he2 a ha (by omega) (by omega) c9
            · exact text_fourBS_false d (nrm d) w hl0 h0 hn hneg hl1 he1 he2 a ha (by omega) (by omega) (by omega)
        · by_cases c3 : -5 ≤ a
          · exact text_three_false d (nrm d) w hl0 h0 hn hneg hl1 he1 he2 a ha (by omega) c3 (by omega)
          · by_cases c9 : 1 < (nrm d).ds.length
            · exact text_fourCL_false d (nrm d) w hl0 h0 hn hneg hl1 he1 he2 a ha (by omega) (by omega) c9
            · exact text_fourCS_false d (nrm d) w hl0 h0 hn hneg hl1 he1 he2 a ha (by omega) (by omega) (by omega)
def scan_Text.f (a0_0 a0_1 : Bool) (a0_2 : ByteArray) (a0_3 : Int) : Option (ByteArray × Option Int) :=
  if formed ⟨a0_0, a0_1, a0_2.data.toList, a0_3⟩ = true then some (mkB (textN (nrm ⟨a0_0, a0_1, a0_2.data.toList, a0_3⟩)), none) else some ((⟨#[]⟩ : ByteArray), some 23)
theorem scan_Text.calls (a0_0 : Bool) (a0_1 : Bool) (a0_2 : ByteArray) (a0_3 : Int) (r1 : ByteArray) (r2 : Option Int) (w : World) (h : scan_Text.f a0_0 a0_1 a0_2 a0_3 = some (r1, r2)) (htab : Fx.Laid w := by exact Fx.Laid.below HTAB.out (by repeat (first | (with_reducible first | exact HB.out | apply below_alloc | apply pw_below_drewN | apply below_drew1 | refine below_set ?_ (Aside0.out (by assumption))) | exact HB.out))) :
    Calls Tryz.prog 15 #[.agg #[.bool a0_0, .bool a0_1, .string a0_2, .int .i64 a0_3]] w fun e w' => e = .returned (.tuple #[.string r1, errW r2]) ∧ Below w.heap.size w w' := by
  unfold scan_Text.f at h
  by_cases hf : formed ⟨a0_0, a0_1, a0_2.data.toList, a0_3⟩ = true
  · rw [if_pos hf] at h
    simp only [Option.some.injEq, Prod.mk.injEq] at h
    obtain ⟨rfl, rfl⟩ := h
    exact text_good ⟨a0_0, a0_1, a0_2.data.toList, a0_3⟩ w htab hf
  · rw [if_neg hf] at h
    simp only [Option.some.injEq, Prod.mk.injEq] at h
    obtain ⟨rfl, rfl⟩ := h
    exact text_form ⟨a0_0, a0_1, a0_2.data.toList, a0_3⟩ w (Bool.eq_false_iff.2 hf)
end Go.Proofs.YthhkmpicpihjlaaGreatDoor.PSc
