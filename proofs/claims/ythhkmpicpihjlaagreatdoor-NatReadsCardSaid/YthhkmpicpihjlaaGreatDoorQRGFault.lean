/- nat.Read of a text that isn't one of digits alone: a fault with its place. -/
import Derived.Test.YthhkmpicpihjlaaGreatDoorQRNR
set_option linter.unusedVariables false
namespace Go.Proofs.YthhkmpicpihjlaaGreatDoor.PNat
open Go.RowKit Go.Proofs.YthhkmpicpihjlaaGreatDoorW.PrintWords Go.Proofs.YthhkmpicpihjlaaGreatDoorW.PrintLast Go.Proofs.YthhkmpicpihjlaaGreatDoorW.PrintMore Go.Proofs.YthhkmpicpihjlaaGreatDoor.M Go.Proofs.YthhkmpicpihjlaaGreatDoor.NM
def faultB (s : ByteArray) : Bool := decide (s.size ≤ 4096) && (decide (lead s.data.toList < s.size) || decide (s.size = 0))
theorem mkB_self (s : ByteArray) : mkB s.data.toList = s := rfl
def FaultAt (w : World) (g : Nat) (line at' code : Int) : Prop := w.heap[g]? = some (.cells #[.int .i64 line, .int .i64 at', .iface 29 (.int .i64 code)] 56 (0, 0))
theorem fault_new (w : World) (l a c : Int) : FaultAt (w.alloc (.cells #[.int .i64 l, .int .i64 a, .iface 29 (.int .i64 c)] 56)) w.heap.size l a c := heap_alloc_new w _
theorem fault_ge {w w1 : World} (h : Below w.heap.size w w1) : w.heap.size ≤ w1.heap.size := h.size
theorem fault_below {w w1 : World} (h : Below w.heap.size w w1) {o : Obj} : Below w.heap.size w (w1.alloc o) := h.alloc h.size o
set_option maxHeartbeats 1000000 in
theorem nat_Read_fault (s : ByteArray) (w : World) (h : faultB s = true) :
    Calls Tryz.prog 7 #[.string s] w fun e w' => ∃ g, e = .returned (.tuple #[.slice none 0 0, .iface 54 (.pointer (some ⟨g, 0, none⟩))]) ∧ w.heap.size ≤ g ∧ FaultAt w' g 0 (lead s.data.toList) 7 ∧ Below w.heap.size w w' := by
  unfold faultB at h
  simp only [Bool.and_eq_true, Bool.or_eq_true, decide_eq_true_iff] at h
  obtain ⟨h1, h2⟩ := h
  have hb1 : decide (4096 < (s.size : Int)) = false := decide_eq_false (by omega)
  have hb2 : decide (4096 < s.size) = false := decide_eq_false (by omega)
  have hl : s.data.toList.length = s.size := Array.length_toList
  have hidx := idx_mkB s.data.toList
  rw [mkB_self, hl] at hidx
  by_cases h0 : s.size = 0
  · have hnil : s.data.toList = [] := List.length_eq_zero_iff.1 (by omega)
    have hlead : lead s.data.toList = 0 := by rw [hnil]; rfl
    have hem : s.toList.isEmpty = true := by rw [Lib.toList_data, hnil]; rfl
    rw [if_neg (by omega)] at hidx
    have HX := Aside0.mk hidx
    have HLD := Aside0.mk hlead
    clear hidx hlead hnil hl h2 h1 h0
    go_enter Tryz.func7, Tryz.ntmps7
    go_wp2_with (go_at_call 22; refine (strings_IndexFunc.calls s _ _ HX.out).mono ?_; rintro e w1 ⟨rfl, hb⟩; have HB1 := Aside0.mk hb; clear hb)
    go_ret2
    exact ⟨_, rfl, fault_ge HB1.out, by rw [HLD.out]; exact fault_new _ _ _ _, fault_below HB1.out⟩
  · have hlt : lead s.data.toList < s.size := by omega
    rw [if_pos hlt] at hidx
    have hem : s.toList.isEmpty = false := by
      rw [Lib.toList_data, List.isEmpty_eq_false_iff]
      intro hn
      rw [hn] at hl
      simp at hl
      omega
    obtain ⟨at', hat⟩ : ∃ a : Nat, a = lead s.data.toList := ⟨_, rfl⟩
    rw [← hat] at hidx ⊢
    have hge : decide (0 ≤ (at' : Int)) = true := decide_eq_true (by omega)
    have HX := Aside0.mk hidx
    clear hidx hl h2 h1 h0 hlt hat
    go_enter Tryz.func7, Tryz.ntmps7
    go_wp2_with (go_at_call 22; refine (strings_IndexFunc.calls s _ _ HX.out).mono ?_; rintro e w1 ⟨rfl, hb⟩; have HB1 := Aside0.mk hb; clear hb)
    go_ret2
    exact ⟨_, rfl, fault_ge HB1.out, fault_new _ _ _ _, fault_below HB1.out⟩
end Go.Proofs.YthhkmpicpihjlaaGreatDoor.PNat
