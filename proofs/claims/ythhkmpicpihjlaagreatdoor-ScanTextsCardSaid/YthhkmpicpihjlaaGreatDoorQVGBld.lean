/- A strings.Builder that the call has made: what WriteString and WriteByte do to it. -/
import Derived.Test.YthhkmpicpihjlaaGreatDoorQVShelf
import Derived.Shelf.Strings.BuilderK
import Derived.WalkKit
import Derived.Below
import Derived.OwnWalk
import Derived.Tactics
set_option linter.unusedVariables false
set_option linter.unusedSimpArgs false
namespace Go.Proofs.YthhkmpicpihjlaaGreatDoor.Bd
open Go.Shelf Go.RowKit
structure Kept (p : Prop) : Prop where
  out : p
abbrev IsB (B b : Nat) (l : List UInt8) (w : World) : Prop := Lib.IsBuilderF 82 5 B b (Lib.byteCells l) w
theorem byteCells_len (l : List UInt8) : (Lib.byteCells l).length = l.length := List.length_map ..
theorem write (B b : Nat) (l : List UInt8) (s : ByteArray) (w : World) (h : IsB B b l w) (hlen : l.length + s.size ≤ 140737488355328) (hBw : B ≤ w.heap.size) :
    Calls Tryz.prog 48 #[.pointer (some ⟨b, 0, none⟩), .string s] w fun e w' => e = .returned (.tuple #[.int .i64 s.size, .nilIface]) ∧ IsB B b (l ++ s.data.toList) w' ∧ Below B w w' := by
  refine (Any.Builder_WriteString_f { Tryz.lays105 with } Tryz.Builder_Extra_105 B b (Lib.byteCells l) s w h (by rw [byteCells_len]; exact hlen) hBw).mono ?_
  rintro e w' ⟨he, h1, h2⟩
  refine ⟨he, .inr ?_, h2⟩
  have e2 : Lib.byteCells (l ++ s.data.toList) = Lib.byteCells l ++ Lib.strCells s := by simp [Lib.byteCells, Lib.strCells]
  rw [e2]
  exact h1
theorem made (w : World) : IsB w.heap.size w.heap.size [] (w.alloc (.cells #[.pointer none, .slice none 0 0] 82)) := by
  rcases Lib.fresh_isBuilder 82 5 w with h | h
  · exact .inl (Lib.BuilderAtF.of h)
  · exact .inr (Lib.BuilderAtF.of h)
theorem at_below {B b : Nat} {p : Value} {bs : List Value} {w w' : World} (h : Lib.BuilderAtF 82 5 B b p bs w) (hb : Below w.heap.size w w') : Lib.BuilderAtF 82 5 B b p bs w' := by
  obtain ⟨hB, v, hbk, hown, hne⟩ := h
  have hlt : b < w.heap.size := (Array.getElem?_eq_some_iff.1 hbk).1
  refine ⟨hB, v, by rw [hb.block b hlt]; exact hbk, ?_, hne⟩
  obtain ⟨h1, h2⟩ := hown
  refine ⟨h1, ?_⟩
  rcases h2 with h2 | ⟨g, cap, cur, fz, hv, hBg, hg, r⟩
  · exact .inl h2
  · exact .inr ⟨g, cap, cur, fz, hv, hBg, by rw [hb.block g (Array.getElem?_eq_some_iff.1 hg).1]; exact hg, r⟩
theorem IsB.below {B b : Nat} {l : List UInt8} {w w' : World} (h : IsB B b l w) (hb : Below w.heap.size w w') : IsB B b l w' := by
  rcases h with h | h
  · exact .inl (at_below h hb)
  · exact .inr (at_below h hb)
theorem copyCheck (B b : Nat) (bs : List Value) (w : World) (h : Lib.IsBuilderF 82 5 B b bs w) :
    Calls Tryz.prog 78 #[.pointer (some ⟨b, 0, none⟩)] w fun e w' => e = .returned (.tuple #[]) ∧ (Lib.BuilderAtF 82 5 B b (.pointer (some ⟨b, 0, none⟩)) bs w' ∧ Below B w w') :=
  Any.Builder_copyCheck_f { Tryz.lays105 with } Tryz.Builder_Extra_105.toX72 B b bs w h
set_option maxHeartbeats 2000000 in
set_option maxRecDepth 100000 in
theorem writeByte (B b : Nat) (l : List UInt8) (c : UInt8) (w : World) (h : IsB B b l w) (hlen : l.length + 1 ≤ 140737488355328) (hBw : B ≤ w.heap.size) :
    Calls Tryz.prog 47 #[.pointer (some ⟨b, 0, none⟩), .int .u8 (c.toNat : Int)] w fun e w' => e = .returned .nilIface ∧ IsB B b (l ++ [c]) w' ∧ Below B w w' := by
  have hinfo : (Tryz.prog.info? 5).map (fun i => (i.zero, i.size, i.bytes)) = some (some (.int .u8 0), 1, 1) := by kernel_rfl
  obtain ⟨i0, hi, he⟩ := Option.map_eq_some_iff.1 hinfo
  simp only [Prod.mk.injEq] at he
  obtain ⟨hz0, hz1, hz2⟩ := he
  go_enter Tryz.func47, Tryz.ntmps47
  go_wp2_with (go_at_call 78; refine (copyCheck B b (Lib.byteCells l) _ h).mono ?_)
  rintro e w1 ⟨rfl, h1, hb1⟩
  obtain ⟨hB, v, hbk, hown, hne⟩ := h1
  have c0 : w1.cell? ⟨b, 0, none⟩ = some (.pointer (some ⟨b, 0, none⟩)) := by rw [Lib.cell_of_heap hbk]; rfl
  have c1 : w1.cell? ⟨b, 1, none⟩ = some v := by rw [Lib.cell_of_heap hbk]; rfl
  go_wp2_with (at_builtin; refine wpList_append_ownF _ rfl _ _ 70 rfl B 5 i0 (.int .u8 0) 1 1 Tryz.underlying70 hi hz0 hz1 hz2 rfl (by decide) _ _ _ rfl (hown.alloc _) ⟨w1.heap.size, 0, none⟩ 1 1 [.int .u8 (c.toNat : Int)] rfl rfl ?c1 ?c2 ?c3 ?c4 ?c5 ?_)
  case c1 =>
    intro j u hj
    match j, hj with
    | 0, hj => simp at hj; subst hj; simp [Addr.add]
  case c2 => intro u hu; simp at hu; subst hu; rfl
  case c3 => rw [byteCells_len]; unfold maxLen; omega
  case c4 => rw [byteCells_len]; omega
  case c5 => have := hb1.size; simp; omega
  intro v' w2 hown' hgrow _
  have hlt : b < w1.heap.size := (Array.getElem?_eq_some_iff.1 hbk).1
  have hb2 : w2.heap[b]? = some (.cells #[.pointer (some ⟨b, 0, none⟩), v] 82 (0, 0)) := by
    rw [hgrow.block b (by simp; omega) (fun e => hne e.symm), Lib.alloc_old w1 _ b hlt]
    exact hbk
  have d0 : w2.cell? ⟨b, 0, none⟩ = some (.pointer (some ⟨b, 0, none⟩)) := by rw [Lib.cell_of_heap hb2]; rfl
  have d1 : w2.cell? ⟨b, 1, none⟩ = some v := by rw [Lib.cell_of_heap hb2]; rfl
  have f1 : w2.frozen? ⟨b, 1, none⟩ = false := Lib.frozen_of_heap hb2 1
  obtain ⟨g, cap, rfl⟩ : ∃ g cap, v' = .slice (some ⟨g, 0, none⟩) ((Lib.byteCells l).length + 1) cap := by
    rcases hown'.2 with ⟨_, h0⟩ | ⟨g, cap, cur, fz, hv, _⟩
    · omega
    · exact ⟨g, cap, hv⟩
  have hput := Lib.BuilderAtF.put (T := 82) (e := 5) hB hb2 (bs' := Lib.byteCells l ++ [.int .u8 (c.toNat : Int)]) (by simpa using hown') (by decide)
  have hbel := ((hb1.alloc (by have := hb1.size; omega) (.cells #[.int .u8 (c.toNat : Int)] 5)).grown hgrow (by have := hb1.size; simp; omega) (fun k hk => (hown.lt k hk).1)).setCell (p := ⟨b, 1, none⟩) hB (.slice (some ⟨g, 0, none⟩) ((Lib.byteCells l).length + 1) cap)
  have KP := Kept.mk hput
  have KB := Kept.mk hbel
  clear hput hbel hown' hgrow
  go_wp2
  go_ret
  refine ⟨rfl, .inr ?_, KB.out⟩
  have e2 : Lib.byteCells (l ++ [c]) = Lib.byteCells l ++ [.int .u8 (c.toNat : Int)] := by simp [Lib.byteCells]
  rw [e2]
  exact KP.out
end Go.Proofs.YthhkmpicpihjlaaGreatDoor.Bd
