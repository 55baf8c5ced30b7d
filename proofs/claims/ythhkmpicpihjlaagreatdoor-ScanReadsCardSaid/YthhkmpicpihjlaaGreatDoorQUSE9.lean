/- Layer 18: ScanReads: every text: the call returns true and keeps all that is older. -/
import Derived.Test.YthhkmpicpihjlaaGreatDoorQUPScx6
import Derived.Test.YthhkmpicpihjlaaGreatDoorQUSE7
import Derived.Test.YthhkmpicpihjlaaGreatDoorQUGShown
set_option linter.unusedVariables false
set_option linter.unusedSimpArgs false
namespace Go.Proofs.YthhkmpicpihjlaaGreatDoor.PSc
open Go.RowKit Go.Proofs.YthhkmpicpihjlaaGreatDoorW.PrintWords Go.Proofs.YthhkmpicpihjlaaGreatDoorW.PrintLast Go.Proofs.YthhkmpicpihjlaaGreatDoorW.PrintMore Go.Proofs.YthhkmpicpihjlaaGreatDoor.SC
theorem code_0 : vernierlaw00_Code.f none = some 0 := by rfl
theorem code_13 : vernierlaw00_Code.f (some 13) = some 13 := by decide
theorem ScanReads_ev (l : List UInt8) (hb : ∀ p, scanF l ≠ .bad p) : Ev (fun k => vernierlaw18_ScanReads.f k (mkB l)) true := by
  have hs : vernierlaw18_shown.f = some true := rfl
  have hr := refScan_ev l
  have hf : scan_Scan.f (mkB l) = (match scanF l with | .long => some (false, false, mkB [], 0, some 13) | .bad _ => none | .ok d => some (d.nar, d.neg, mkB d.ds, d.e, none)) := rfl
  unfold vernierlaw18_ScanReads.f
  rw [hs]
  simp only [Option.bind_some]
  rw [hf]
  unfold outT at hr
  cases hc : scanF l with
  | long =>
    rw [hc] at hr
    simp only [Option.bind_some]
    refine Ev.bind hr ?_
    refine Ev.congr (fun k => ?_) (Ev.now true)
    simp [code_13]
  | bad p => exact absurd hc (hb p)
  | ok d =>
    rw [hc] at hr
    simp only [Option.bind_some]
    refine Ev.bind hr ?_
    refine Ev.congr (fun k => ?_) (Ev.now true)
    simp [okT, code_0]
theorem refcall (s : ByteArray) (p : Nat) (h : scanF s.data.toList = .bad p) (W : World) :
    Calls Tryz.prog 13 #[.string s] W fun e w' => e = .returned (.tuple #[.agg emptyD, .int .i64 14, .int .i64 (p : Int)]) ∧ Below W.heap.size W w' := by
  have hr := refScan_ev s.data.toList
  unfold outT at hr
  rw [h] at hr
  obtain ⟨k, hk⟩ := hr.rounds
  exact vernierref18_Scan.calls k s _ _ _ _ _ _ W hk
theorem is_hereR (g : Nat) (p : Int) (W : World) (hE : Fa.ErrType W) (hF : Fa.FaultAt W g 0 p 14) :
    Calls Tryz.prog 8 #[.iface 54 (.pointer (some ⟨g, 0, none⟩)), .int .i64 0, .int .i64 p, .int .i64 14] W fun e w' => e = .returned (.bool true) ∧ Below W.heap.size W w' :=
  (Fa.Is_fault g 0 p 14 0 p 14 W hE hF (by decide)).mono fun e w' h => ⟨by rw [h.1]; simp, h.2⟩
theorem eq_emptyR (w : World) : (binOp .eql 36 (.agg emptyD) (.agg emptyD)).run Tryz.prog w = .ok (.bool true) w := by kernel_rfl
def RefAt (s : ByteArray) (p : Int) : Prop := ∀ W : World, Calls Tryz.prog 13 #[.string s] W fun e w' => e = .returned (.tuple #[.agg emptyD, .int .i64 14, .int .i64 p]) ∧ Below W.heap.size W w'
theorem ref_call {s : ByteArray} {p : Int} (h : RefAt s p) (W : World) : Calls Tryz.prog 13 #[.string s] W fun e w' => e = .returned (.tuple #[.agg emptyD, .int .i64 14, .int .i64 p]) ∧ Below W.heap.size W w' := h W
def ScanAt (s : ByteArray) (p : Int) : Prop := ∀ W : World, Calls Tryz.prog 12 #[.string s] W fun e w' => ∃ g, e = .returned (.tuple #[.agg emptyD, .iface 54 (.pointer (some ⟨g, 0, none⟩))]) ∧ Fa.FaultAt w' g 0 p 14 ∧ Below W.heap.size W w'
theorem scan_call {s : ByteArray} {p : Int} (h : ScanAt s p) (W : World) : Calls Tryz.prog 12 #[.string s] W fun e w' => ∃ g, e = .returned (.tuple #[.agg emptyD, .iface 54 (.pointer (some ⟨g, 0, none⟩))]) ∧ Fa.FaultAt w' g 0 p 14 ∧ Below W.heap.size W w' := h W
set_option maxHeartbeats 1000000 in
set_option maxRecDepth 100000 in
theorem ScanReads_bad' (s : ByteArray) (v : Int) (w : World) (hl : Fx.Laid w) (hr : RefAt s v) (hs : ScanAt s v) :
    Calls Tryz.prog 4 #[.string s] w fun e w' => e = .returned (.bool true) ∧ Below w.heap.size w w' := by
  have eE := eq_emptyR
  have HL := Aside0.mk hl
  have HR := Aside0.mk hr
  have HS := Aside0.mk hs
  clear hl hr hs
  go_enter Tryz.func4, Tryz.ntmps4
  go_wp2_with (first | (go_at_call 11; refine (shown_true _ HL.out).mono ?_; rintro e w1 ⟨rfl, hb⟩; have HB1 := Aside0.mk hb; clear hb) | (go_at_call 12; refine (scan_call HS.out _).mono ?_; rintro e w2 ⟨g, rfl, hF, hb⟩; have HF2 := Aside0.mk hF; have HB2 := Aside0.mk (low_step HB1.out hb); clear hb hF) | (go_at_call 13; refine (ref_call HR.out _).mono ?_; rintro e w3 ⟨rfl, hb⟩; have HA3 := Aside0.mk (kp (heap_alloc_new w2 _) hb); have HF3 := Aside0.mk (show Fa.FaultAt w3 g 0 v 14 from kp (fault_alloc HF2.out _) hb); have HB3 := Aside0.mk (low_step (low_alloc HB2.out _) hb); clear hb) | (go_at_call 8; refine (is_hereR g v _ (HL.out.below (low_alloc HB3.out _)).2 (fault_alloc HF3.out _)).mono ?_; rintro e w4 ⟨rfl, hb⟩; obtain ⟨a0, a1, a2, a3⟩ := blk_all (kp (blk_alloc HA3.out _) hb); have HB4 := Aside0.mk (low_step (low_alloc HB3.out _) hb); clear hb))
  go_ret
  exact ⟨rfl, HB4.out⟩
theorem ScanReads_all (a0 : ByteArray) (w : World) (htab : Fx.Laid w) :
    Calls Tryz.prog 4 #[.string a0] w fun e w' => e = .returned (.bool true) ∧ Below w.heap.size w w' := by
  by_cases hb : ∃ p, scanF a0.data.toList = .bad p
  · obtain ⟨p, hp⟩ := hb
    exact ScanReads_bad' a0 (p : Int) w htab (fun W => refcall a0 p hp W) (fun W => (scan_bad a0 p W hp).mono fun e w' h => by obtain ⟨g, h1, _, h3, h4⟩ := h; exact ⟨g, h1, h3, h4⟩)
  · obtain ⟨k, hk⟩ := (ScanReads_ev a0.data.toList (fun p hp => hb ⟨p, hp⟩)).rounds
    exact vernierlaw18_ScanReads.calls k a0 true w hk rfl htab
end Go.Proofs.YthhkmpicpihjlaaGreatDoor.PSc
