/- PScx3: the part that this claim needs. -/
import Derived.Test.YthhkmpicpihjlaaDoorQTPScx0
namespace Go.Proofs.YthhkmpicpihjlaaDoor.PSc
open Go.RowKit Go.Proofs.YthhkmpicpihjlaaDoorW.PrintWords Go.Proofs.YthhkmpicpihjlaaDoorW.PrintLast Go.Proofs.YthhkmpicpihjlaaDoorW.PrintMore
open Go.Proofs.YthhkmpicpihjlaaDoor.M
attribute [local go_sem] runx_add64 runx_sub64 eql_cc eql_nc neq_cc neq_nc
attribute [local go_sem] max2_int min2_int max_two min_two max_three min_three max_four min_four   -- for this text's walks alone
set_option linter.unusedVariables false
set_option linter.unusedSimpArgs false
def IsS87 (w0 W : World) (g : Nat) (f0 : Int) (f1 : Bool) (f2 : List Int) (f3 : Int) (f4 : Bool) (f5 : Int) : Prop := ∃ A2 c2, W.heap[g]? = some (.cells #[.int .i64 f0, .bool f1, .slice A2 f2.length c2, .int .i64 f3, .bool f4, .int .i64 f5] 87 (0, 0)) ∧ w0.heap.size ≤ g ∧ Kd.C (Kd.int .u8) w0 A2 f2.length f2
theorem IsS87.grown {w0 W : World} {g : Nat} {f0 : Int} {f1 : Bool} {f2 : List Int} {f3 : Int} {f4 : Bool} {f5 : Int} {W1 : World} {row : Option Nat} (h : IsS87 w0 W g f0 f1 f2 f3 f4 f5) (hw : W.grownBy W1 row) (hne : some g ≠ row) : IsS87 w0 W1 g f0 f1 f2 f3 f4 f5 := by
  obtain ⟨A2, c2, hb, hg, hr2⟩ := h
  exact ⟨A2, c2, blk_grown hb hw hne, hg, hr2⟩
theorem IsS87.kept {w0 W : World} {g : Nat} {f0 : Int} {f1 : Bool} {f2 : List Int} {f3 : Int} {f4 : Bool} {f5 : Int} {W1 : World} {S : Nat → Prop} (h : IsS87 w0 W g f0 f1 f2 f3 f4 f5) (hk : Kept W W1 S) (hne : ¬ S g) : IsS87 w0 W1 g f0 f1 f2 f3 f4 f5 := by
  obtain ⟨A2, c2, hb, hg, hr2⟩ := h
  exact ⟨A2, c2, blk_kept hb hk hne, hg, hr2⟩
theorem IsS87.below {w0 W : World} {g : Nat} {f0 : Int} {f1 : Bool} {f2 : List Int} {f3 : Int} {f4 : Bool} {f5 : Int} {W1 : World} (h : IsS87 w0 W g f0 f1 f2 f3 f4 f5) (hw : Below W.heap.size W W1) : IsS87 w0 W1 g f0 f1 f2 f3 f4 f5 := h.grown (grown_of_below hw none) (by simp)
theorem IsS87.alloc {w0 W : World} {g : Nat} {f0 : Int} {f1 : Bool} {f2 : List Int} {f3 : Int} {f4 : Bool} {f5 : Int} (h : IsS87 w0 W g f0 f1 f2 f3 f4 f5) (o : Obj) : IsS87 w0 (W.alloc o) g f0 f1 f2 f3 f4 f5 := h.below (below_alloc (Below.refl _ _) o)
theorem IsS87.drewN {w0 W : World} {g : Nat} {f0 : Int} {f1 : Bool} {f2 : List Int} {f3 : Int} {f4 : Bool} {f5 : Int} (h : IsS87 w0 W g f0 f1 f2 f3 f4 f5) (m : Nat) : IsS87 w0 (W.drewN m) g f0 f1 f2 f3 f4 f5 := h
theorem IsS87.drew {w0 W : World} {g : Nat} {f0 : Int} {f1 : Bool} {f2 : List Int} {f3 : Int} {f4 : Bool} {f5 : Int} (h : IsS87 w0 W g f0 f1 f2 f3 f4 f5) : IsS87 w0 W.drew g f0 f1 f2 f3 f4 f5 := h
theorem IsS87.apart {w0 W : World} {g : Nat} {f0 : Int} {f1 : Bool} {f2 : List Int} {f3 : Int} {f4 : Bool} {f5 : Int} {α : Type} {d : Kd α} {e : Nat} {base : Nat} {ok : Nat → Prop} {v : Value} {xs : List α} (h : IsS87 w0 W g f0 f1 f2 f3 f4 f5) (ho : d.R e W base ok v xs) (ht : ∀ q, q ∈ e :: d.E → q ≠ 87) : d.R e W base (fun k => ok k ∧ k ≠ g) v xs := by
  obtain ⟨A2, c2, hb, hg, hr2⟩ := h
  exact Kd.R_types ho hb ht
theorem IsS87.own_ne {w0 W : World} {g : Nat} {f0 : Int} {f1 : Bool} {f2 : List Int} {f3 : Int} {f4 : Bool} {f5 : Int} {α : Type} {d : Kd α} {e : Nat} {base : Nat} {ok : Nat → Prop} {v : Value} {xs : List α} (h : IsS87 w0 W g f0 f1 f2 f3 f4 f5) (ho : d.R e W base ok v xs) (ht : e ≠ 87) : some g ≠ v.ownBlock := by
  obtain ⟨A2, c2, hb, hg, hr2⟩ := h
  exact Kd.R_ne ho hb ht
theorem IsS87.lt {w0 W : World} {g : Nat} {f0 : Int} {f1 : Bool} {f2 : List Int} {f3 : Int} {f4 : Bool} {f5 : Int} (h : IsS87 w0 W g f0 f1 f2 f3 f4 f5) : g < W.heap.size := by
  obtain ⟨A2, c2, hb, hg, hr2⟩ := h
  exact blk_lt hb
theorem IsS87.far {w0 W : World} {g : Nat} {f0 : Int} {f1 : Bool} {f2 : List Int} {f3 : Int} {f4 : Bool} {f5 : Int} {p : Addr} (h : IsS87 w0 W g f0 f1 f2 f3 f4 f5) (hne : g ≠ p.block) (u : Value) : IsS87 w0 (W.setCell p u) g f0 f1 f2 f3 f4 f5 := by
  obtain ⟨A2, c2, hb, hg, hr2⟩ := h
  exact ⟨A2, c2, blk_far hb hne u, hg, hr2⟩
end Go.Proofs.YthhkmpicpihjlaaDoor.PSc
