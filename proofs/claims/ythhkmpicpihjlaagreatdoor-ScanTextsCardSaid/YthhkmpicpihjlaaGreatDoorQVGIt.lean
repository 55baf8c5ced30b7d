/- The statements' own Code and Is, at an error that is nil, one of api's codes, or a fault. -/
import Derived.Test.YthhkmpicpihjlaaGreatDoorQVGIs
import Derived.Below
import Derived.Lib.LaidTab
set_option linter.unusedVariables false
namespace Go.Proofs.YthhkmpicpihjlaaGreatDoor.Fa
open Go.RowKit Go.Extern.Stop Go.Stop Go.Extern
structure Kept (p : Prop) : Prop where
  out : p
set_option maxHeartbeats 4000000 in
theorem further_c (c : Int) (w : World) (h : c = 13 ∨ c = 14 ∨ c = 15 ∨ c = 16 ∨ c = 17 ∨ c = 18 ∨ c = 19 ∨ c = 20 ∨ c = 21 ∨ c = 22 ∨ c = 23 ∨ c = 24) :
    Calls Tryz.prog 45 #[.iface 29 (.int .i64 c)] w fun e w' => e = .returned (.int .i64 c) ∧ w' = w := by
  have hq := eqlCC
  rcases h with rfl | rfl | rfl | rfl | rfl | rfl | rfl | rfl | rfl | rfl | rfl | rfl <;>
  · go_enter Tryz.func45, Tryz.ntmps45
    go_wp2
    go_ret
    exact ⟨rfl, rfl⟩
set_option maxHeartbeats 4000000 in
theorem code_low (c : Int) (w : World) (h : c = 1 ∨ c = 2 ∨ c = 3 ∨ c = 4 ∨ c = 5 ∨ c = 6 ∨ c = 7 ∨ c = 8 ∨ c = 9 ∨ c = 10 ∨ c = 11 ∨ c = 12) :
    Calls Tryz.prog 14 #[.iface 29 (.int .i64 c)] w fun e w' => e = .returned (.int .i64 c) ∧ w' = w := by
  have hq := eqlCC
  rcases h with rfl | rfl | rfl | rfl | rfl | rfl | rfl | rfl | rfl | rfl | rfl | rfl <;>
  · go_enter Tryz.func14, Tryz.ntmps14
    go_wp2
    go_ret
    exact ⟨rfl, rfl⟩
set_option maxHeartbeats 4000000 in
theorem code_high (c : Int) (w : World) (h : c = 13 ∨ c = 14 ∨ c = 15 ∨ c = 16 ∨ c = 17 ∨ c = 18 ∨ c = 19 ∨ c = 20 ∨ c = 21 ∨ c = 22 ∨ c = 23 ∨ c = 24) :
    Calls Tryz.prog 14 #[.iface 29 (.int .i64 c)] w fun e w' => e = .returned (.int .i64 c) ∧ w' = w := by
  have hq := eqlCC
  have hf := further_c c w h
  have hn : ∀ k : Int, k < 13 → (c == k) = false := by intro k hk; simp; omega
  have n1 := hn 1 (by omega); have n2 := hn 2 (by omega); have n3 := hn 3 (by omega); have n4 := hn 4 (by omega); have n5 := hn 5 (by omega); have n6 := hn 6 (by omega)
  have n7 := hn 7 (by omega); have n8 := hn 8 (by omega); have n9 := hn 9 (by omega); have n10 := hn 10 (by omega); have n11 := hn 11 (by omega); have n12 := hn 12 (by omega)
  have HH := Kept.mk h
  clear h hn
  go_enter Tryz.func14, Tryz.ntmps14
  go_wp2_with (go_at_call 45; refine hf.mono ?_; rintro e w1 ⟨rfl, rfl⟩)
  go_ret
  exact ⟨rfl, rfl⟩
theorem code_calls (c : Int) (w : World) (h : 1 ≤ c ∧ c ≤ 24) :
    Calls Tryz.prog 14 #[.iface 29 (.int .i64 c)] w fun e w' => e = .returned (.int .i64 c) ∧ w' = w := by
  by_cases h2 : c ≤ 12
  · exact code_low c w (by omega)
  · exact code_high c w (by omega)
theorem as_hit2 (n : Nat) (e t : Addr) (old : Value) (w : World) (hg : w.cell? ⟨0, 0, none⟩ = some (.iface 132 (.agg #[.pointer (some ⟨11, 26, none⟩)]))) (ht0 : w.cell? t = some old) (hf0 : w.frozen? t = false) (hn : n ≤ t.block) (hs : n ≤ w.heap.size) :
    Calls Tryz.prog 28 #[.iface 54 (.pointer (some e)), .iface 62 (.pointer (some t))] w fun ev w' => ev = .returned (.bool true) ∧ w'.cell? t = some (.pointer (some e)) ∧ Below n w w' := by
  have htl : t.block < w.heap.size := by
    rcases Nat.lt_or_ge t.block w.heap.size with h | h
    · exact h
    · simp [World.cell?, Array.getElem?_eq_none h] at ht0
  refine (as_hit e t old w hg ht0 hf0).mono ?_
  rintro ev w' ⟨rfl, rfl⟩
  refine ⟨rfl, World.cell?_setCell_same' _ _ _ ?_, Below.setCell (((((Below.refl n w).alloc hs _).alloc (by simp; omega) _).alloc (by simp; omega) _).alloc (by simp; omega) _) hn _⟩
  rw [World.cell?_alloc_lt _ _ t (by simp; omega), World.cell?_alloc_lt _ _ t (by simp; omega), World.cell?_alloc_lt _ _ t (by simp; omega), World.cell?_alloc_lt _ _ t htl, ht0]; rfl
def FaultAt (w : World) (g : Nat) (line at' code : Int) : Prop := w.heap[g]? = some (.cells #[.int .i64 line, .int .i64 at', .iface 29 (.int .i64 code)] 56 (0, 0))
def ErrType (w : World) : Prop := w.cell? ⟨0, 0, none⟩ = some (.iface 132 (.agg #[.pointer (some ⟨11, 26, none⟩)]))
theorem FaultAt.below {B : Nat} {w w' : World} {g : Nat} {l a c : Int} (h : FaultAt w g l a c) (hb : Below B w w') (hg : g < B) : FaultAt w' g l a c := by unfold FaultAt; rw [hb.block g hg]; exact h
theorem FaultAt.lt {w : World} {g : Nat} {l a c : Int} (h : FaultAt w g l a c) : g < w.heap.size := by
  rcases Nat.lt_or_ge g w.heap.size with k | k
  · exact k
  · simp [FaultAt, Array.getElem?_eq_none k] at h
theorem ErrType.lt {w : World} (h : ErrType w) : 0 < w.heap.size := by
  rcases Nat.eq_zero_or_pos w.heap.size with h0 | k
  · simp [ErrType, World.cell?, h0] at h
  · exact k
theorem ErrType.alloc {w : World} (h : ErrType w) (o : Obj) : ErrType (w.alloc o) := by
  unfold ErrType; rw [World.cell?_alloc_lt _ _ ⟨0, 0, none⟩ h.lt]; exact h
end Go.Proofs.YthhkmpicpihjlaaGreatDoor.Fa
