/- The statements' own Is at a fault: whether line, place and code are those. -/
import Derived.Test.YthhkmpicpihjlaaGreatDoorQVGIt
set_option linter.unusedVariables false
namespace Go.Proofs.YthhkmpicpihjlaaGreatDoor.Fa
open Go.RowKit Go.Extern.Stop Go.Stop Go.Extern
theorem compF : (Tryz.prog.info? 54).map (·.comparable) = some true := by kernel_rfl
theorem sizeF : (Tryz.prog.info? 56).map (·.size) = some 3 := by kernel_rfl
theorem neqFF (a : Addr) (w : World) : (binOp .neq 26 (.iface 54 (.pointer (some a))) (.iface 54 (.pointer (some a)))).run Tryz.prog w = .ok (.bool false) w := by
  obtain ⟨i, hi, hcmp⟩ := Option.map_eq_some_iff.1 compF
  obtain ⟨j, hj, hjs⟩ := Option.map_eq_some_iff.1 sizeF
  obtain ⟨ms, hE⟩ := errT
  simp only [binOp]
  simp [Op.equal, Op.maxDepth, run_equalIn_iface_ptr_same (P := Tryz.prog) w 9998 a hE Tryz.underlying54 hi hcmp hj]
set_option maxHeartbeats 4000000 in
theorem Is_fault (g : Nat) (l a c L A C : Int) (w : World) (hE : ErrType w) (hF : FaultAt w g l a c) (hc : 1 ≤ c ∧ c ≤ 24) :
    Calls Tryz.prog 8 #[.iface 54 (.pointer (some ⟨g, 0, none⟩)), .int .i64 L, .int .i64 A, .int .i64 C] w fun e w' => e = .returned (.bool (decide (l = L) && (decide (a = A) && decide (c = C)))) ∧ Below w.heap.size w w' := by
  have hlt := hF.lt
  have hA := as_hit2 w.heap.size ⟨g, 0, none⟩ ⟨w.heap.size, 0, none⟩ (.pointer none) (w.alloc (.cells #[.pointer none] 54)) (hE.alloc _) (by simp) (by simp) (by simp) (by simp)
  have hn := neqFF
  have cells : ∀ w1, Below w.heap.size (w.alloc (.cells #[.pointer none] 54)) w1 → w1.cell? ⟨g, 0, none⟩ = some (.int .i64 l) ∧ w1.cell? ⟨g, 1, none⟩ = some (.int .i64 a) ∧ w1.cell? ⟨g, 2, none⟩ = some (.iface 29 (.int .i64 c)) := by
    intro w1 h1
    have h := hF.below ((Below.refl w.heap.size w).alloc (by simp) (.cells #[.pointer none] 54) |>.trans h1) hlt
    unfold FaultAt at h
    exact ⟨by simp [World.cell?, h], by simp [World.cell?, h], by simp [World.cell?, h]⟩
  have HC := Kept.mk hc
  have HCELLS := Kept.mk cells
  have HLT := Kept.mk hlt
  clear hc cells hlt hF hE
  by_cases h1 : l = L
  · by_cases h2 : a = A
    · by_cases h3 : c = C
      · subst h1 h2 h3
        go_enter Tryz.func8, Tryz.ntmps8
        go_wp2_with (first
          | (go_at_call 28; refine hA.mono ?_; rintro e w1 ⟨rfl, ht, hb⟩; have HB1 := Kept.mk hb; obtain ⟨c0, c1, c2⟩ := HCELLS.out w1 hb; clear hb)
          | (go_at_call 29; refine (is_fault g c _ c2).mono ?_; rintro e w2 ⟨rfl, rfl⟩)
          | (go_at_call 14; refine (code_calls c _ HC.out).mono ?_; rintro e w2 ⟨rfl, rfl⟩))
        go_ret
        exact ⟨by simp, ((Below.refl w.heap.size w).alloc (by simp) _).trans HB1.out⟩
      · have e3 : (c == C) = false := by simpa using h3
        have d3 : decide (c = C) = false := by simpa using h3
        subst h1 h2
        go_enter Tryz.func8, Tryz.ntmps8
        go_wp2_with (first
          | (go_at_call 28; refine hA.mono ?_; rintro e w1 ⟨rfl, ht, hb⟩; have HB1 := Kept.mk hb; obtain ⟨c0, c1, c2⟩ := HCELLS.out w1 hb; clear hb)
          | (go_at_call 29; refine (is_fault g c _ c2).mono ?_; rintro e w2 ⟨rfl, rfl⟩)
          | (go_at_call 14; refine (code_calls c _ HC.out).mono ?_; rintro e w2 ⟨rfl, rfl⟩))
        go_ret
        exact ⟨by simp [h3], ((Below.refl w.heap.size w).alloc (by simp) _).trans HB1.out⟩
    · have e2 : (a == A) = false := by simpa using h2
      have d2 : decide (a = A) = false := by simpa using h2
      subst h1
      go_enter Tryz.func8, Tryz.ntmps8
      go_wp2_with (first
        | (go_at_call 28; refine hA.mono ?_; rintro e w1 ⟨rfl, ht, hb⟩; have HB1 := Kept.mk hb; obtain ⟨c0, c1, c2⟩ := HCELLS.out w1 hb; clear hb)
        | (go_at_call 29; refine (is_fault g c _ c2).mono ?_; rintro e w2 ⟨rfl, rfl⟩)
        | (go_at_call 14; refine (code_calls c _ HC.out).mono ?_; rintro e w2 ⟨rfl, rfl⟩))
      go_ret
      exact ⟨by simp [h2], ((Below.refl w.heap.size w).alloc (by simp) _).trans HB1.out⟩
  · have e1 : (l == L) = false := by simpa using h1
    have d1 : decide (l = L) = false := by simpa using h1
    go_enter Tryz.func8, Tryz.ntmps8
    go_wp2_with (first
      | (go_at_call 28; refine hA.mono ?_; rintro e w1 ⟨rfl, ht, hb⟩; have HB1 := Kept.mk hb; obtain ⟨c0, c1, c2⟩ := HCELLS.out w1 hb; clear hb)
      | (go_at_call 29; refine (is_fault g c _ c2).mono ?_; rintro e w2 ⟨rfl, rfl⟩)
      | (go_at_call 14; refine (code_calls c _ HC.out).mono ?_; rintro e w2 ⟨rfl, rfl⟩))
    go_ret
    exact ⟨by simp [h1], ((Below.refl w.heap.size w).alloc (by simp) _).trans HB1.out⟩
end Go.Proofs.YthhkmpicpihjlaaGreatDoor.Fa
