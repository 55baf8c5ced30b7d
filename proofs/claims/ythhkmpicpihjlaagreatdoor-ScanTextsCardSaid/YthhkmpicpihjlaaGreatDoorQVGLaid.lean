/- What the rows of layer 18 list of package-level variables, as one word: the table of powers and the error type's handle. -/
import Derived.Test.YthhkmpicpihjlaaGreatDoorQVGIu
import Derived.Test.YthhkmpicpihjlaaGreatDoorQVShelf
import Derived.Lib.Walk
import Derived.Lib.ItoaMem
import Derived.Lib.AppendIntMem
import Derived.Below
set_option linter.unusedVariables false
namespace Go.Proofs.YthhkmpicpihjlaaGreatDoor.Fx
open Go.Shelf Go.RowKit Go.Sort Go.Lib
def Tab (w : World) : Prop := Lib.TabIs Tryz.prog w "internal/strconv.uint64pow10" .u64 Lib.pow10Tab
def Laid (w : World) : Prop := Tab w ∧ Fa.ErrType w
theorem errType_below {w w' : World} (h : Fa.ErrType w) (hb : Below w.heap.size w w') : Fa.ErrType w' := by
  have hlt := h.lt
  unfold Fa.ErrType at *
  rw [← h]
  unfold World.cell?
  rw [hb.block 0 hlt]
theorem Laid.below {w w' : World} (h : Laid w) (hb : Below w.heap.size w w') : Laid w' := ⟨Lib.tabBelow_of_tabIs h.1 w' hb, errType_below h.2 hb⟩
theorem below_grow (w : World) (k : Nat) (os : Array Obj) : Below w.heap.size w (grow (w.drewN k) os) :=
  ⟨rfl, rfl, rfl, by show w.heap.size ≤ (w.heap ++ os).size; simp, fun i hi => by show (w.heap ++ os)[i]? = _; rw [Array.getElem?_append_left hi]⟩
end Go.Proofs.YthhkmpicpihjlaaGreatDoor.Fx
