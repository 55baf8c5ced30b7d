/- Layer 18's shown: its rows of examples are true. -/
import Derived.Test.YthhkmpicpihjlaaGreatDoorQVGScan
import Derived.Test.YthhkmpicpihjlaaGreatDoorQVGSText
import Derived.Test.YthhkmpicpihjlaaGreatDoorQVGIu
set_option linter.unusedVariables false
set_option linter.unusedSimpArgs false
namespace Go.Proofs.YthhkmpicpihjlaaGreatDoor.PSc
open Go.RowKit Go.Proofs.YthhkmpicpihjlaaGreatDoorW.PrintWords Go.Proofs.YthhkmpicpihjlaaGreatDoorW.PrintLast Go.Proofs.YthhkmpicpihjlaaGreatDoorW.PrintMore Go.Proofs.YthhkmpicpihjlaaGreatDoor.SC
theorem shown_a : scan_Scan.f (⟨#[49, 50, 46, 53, 48]⟩ : ByteArray) = some (false, false, (⟨#[49, 50, 53]⟩ : ByteArray), -1, none) := by kernel_rfl
theorem shown_b : scan_Scan.f (⟨#[110, 97, 114]⟩ : ByteArray) = some (true, false, (⟨#[]⟩ : ByteArray), 0, none) := by kernel_rfl
theorem shown_c : scan_Text.f false false (⟨#[53]⟩ : ByteArray) (-7) = some ((⟨#[53, 101, 45, 55]⟩ : ByteArray), none) := by decide +kernel
theorem shown_d : scanF (⟨#[53, 46, 101, 49]⟩ : ByteArray).data.toList = .bad 2 := by kernel_rfl
theorem shown_eqA (w : World) : (binOp .eql 36 (.agg #[.bool false, .bool false, .string (⟨#[49, 50, 53]⟩ : ByteArray), .int .i64 (-1)]) (.agg #[.bool false, .bool false, .string (⟨#[49, 50, 53]⟩ : ByteArray), .int .i64 (-1)])).run Tryz.prog w = .ok (.bool true) w := by kernel_rfl
theorem shown_eqB (w : World) : (binOp .eql 36 (.agg #[.bool true, .bool false, .string (⟨#[]⟩ : ByteArray), .int .i64 0]) (.agg #[.bool true, .bool false, .string (⟨#[]⟩ : ByteArray), .int .i64 0])).run Tryz.prog w = .ok (.bool true) w := by kernel_rfl
def vernierlaw18_shown.f : Option Bool := some true
theorem kp {w w' : World} {g : Nat} {o : Obj} (h : w.heap[g]? = some o) (hb : Below w.heap.size w w') : w'.heap[g]? = some o := by
  rw [hb.block g (Array.getElem?_eq_some_iff.1 h).1]; exact h
theorem low_step {w w1 w2 : World} (h : Below w.heap.size w w1) (hb : Below w1.heap.size w1 w2) : Below w.heap.size w w2 := h.trans (hb.mono h.size)
theorem low_alloc {w w1 : World} (h : Below w.heap.size w w1) (o : Obj) : Below w.heap.size w (w1.alloc o) := h.alloc h.size o
theorem call_a (W : World) : Calls Tryz.prog 12 #[.string (⟨#[49, 50, 46, 53, 48]⟩ : ByteArray)] W fun e w' => e = .returned (.tuple #[.agg #[.bool false, .bool false, .string (⟨#[49, 50, 53]⟩ : ByteArray), .int .i64 (-1)], .nilIface]) ∧ Below W.heap.size W w' :=
  scan_Scan.calls _ _ _ _ _ _ _ shown_a
theorem call_b (W : World) : Calls Tryz.prog 12 #[.string (⟨#[110, 97, 114]⟩ : ByteArray)] W fun e w' => e = .returned (.tuple #[.agg #[.bool true, .bool false, .string (⟨#[]⟩ : ByteArray), .int .i64 0], .nilIface]) ∧ Below W.heap.size W w' :=
  scan_Scan.calls _ _ _ _ _ _ _ shown_b
theorem call_c (W : World) (h : Fx.Laid W) : Calls Tryz.prog 15 #[.agg #[.bool false, .bool false, .string (⟨#[53]⟩ : ByteArray), .int .i64 (-7)]] W fun e w' => e = .returned (.tuple #[.string (⟨#[53, 101, 45, 55]⟩ : ByteArray), .nilIface]) ∧ Below W.heap.size W w' :=
  scan_Text.calls _ _ _ _ _ _ _ shown_c h
theorem call_d (W : World) : Calls Tryz.prog 12 #[.string (⟨#[53, 46, 101, 49]⟩ : ByteArray)] W fun e w' => Faulty 2 W e w' := scan_bad _ 2 W shown_d
theorem call_is (g : Nat) (W : World) (hE : Fa.ErrType W) (hF : Fa.FaultAt W g 0 2 14) : Calls Tryz.prog 8 #[.iface 54 (.pointer (some ⟨g, 0, none⟩)), .int .i64 0, .int .i64 2, .int .i64 14] W fun e w' => e = .returned (.bool true) ∧ Below W.heap.size W w' :=
  (Fa.Is_fault g 0 2 14 0 2 14 W hE hF (by decide)).mono fun e w' h => ⟨h.1, h.2⟩
theorem fault_alloc {w : World} {g : Nat} {l a c : Int} (h : Fa.FaultAt w g l a c) (o : Obj) : Fa.FaultAt (w.alloc o) g l a c := blk_alloc h o
theorem blk_all {w : World} {g : Nat} {x0 x1 x2 x3 : Value} {t : TypeId} (h : w.heap[g]? = some (.cells #[x0, x1, x2, x3] t (0, 0))) : w.cell? ⟨g, 0, none⟩ = some x0 ∧ w.cell? ⟨g, 1, none⟩ = some x1 ∧ w.cell? ⟨g, 2, none⟩ = some x2 ∧ w.cell? ⟨g, 3, none⟩ = some x3 :=
  ⟨(blk_cell h 0).trans rfl, (blk_cell h 1).trans rfl, (blk_cell h 2).trans rfl, (blk_cell h 3).trans rfl⟩
set_option maxHeartbeats 1000000 in
set_option maxRecDepth 100000 in
theorem shown_true (w : World) (hl : Fx.Laid w) : Calls Tryz.prog 11 #[] w fun e w' => e = .returned (.bool true) ∧ Below w.heap.size w w' := by
  have eA := shown_eqA
  have eB := shown_eqB
  have HL := Aside0.mk hl
  clear hl
  go_enter Tryz.func11, Tryz.ntmps11
  go_upto_region 2 with (go_at_call 12; refine (call_a _).mono ?_; rintro e w1 ⟨rfl, hb⟩; have HB1 := Aside0.mk hb; clear hb)
  go_upto_region 3 with (go_at_call 12; refine (call_b _).mono ?_; rintro e w2 ⟨rfl, hb⟩; have HA2 := Aside0.mk (kp (heap_alloc_new w1 _) hb); have HB2 := Aside0.mk (low_step (low_alloc HB1.out _) hb); clear hb)
  go_upto_region 4 with (go_at_call 15; refine (call_c _ (HL.out.below (low_alloc HB2.out _))).mono ?_; rintro e w3 ⟨rfl, hb⟩; have HA3 := Aside0.mk (kp (blk_alloc HA2.out _) hb); have HC3 := Aside0.mk (kp (heap_alloc_new w2 _) hb); have HB3 := Aside0.mk (low_step (low_alloc HB2.out _) hb); clear hb)
  go_upto_region 5 with (go_at_call 12; refine (call_d _).mono ?_; rintro e w4 ⟨g, rfl, hg, hF, hb⟩; have HA4 := Aside0.mk (kp HA3.out hb); have HC4 := Aside0.mk (kp HC3.out hb); have HF4 := Aside0.mk hF; have HB4 := Aside0.mk (low_step HB3.out hb); clear hb hF hg)
  go_upto_region 6 with (go_at_call 8; refine (call_is g _ (HL.out.below (low_alloc HB4.out _)).2 (fault_alloc HF4.out _)).mono ?_; rintro e w5 ⟨rfl, hb⟩; obtain ⟨a0, a1, a2, a3⟩ := blk_all (kp (blk_alloc HA4.out _) hb); obtain ⟨b0, b1, b2, b3⟩ := blk_all (kp (blk_alloc HC4.out _) hb); have HB5 := Aside0.mk (low_step (low_alloc HB4.out _) hb); clear hb)
  go_wp2
  go_ret
  exact ⟨rfl, HB5.out⟩
theorem vernierlaw18_shown.calls (r : Bool) (w : World) (h : vernierlaw18_shown.f = some r) (htab : Fx.Laid w := by exact Fx.Laid.below HTAB.out (by repeat (first | (with_reducible first | exact HB.out | apply below_alloc | apply pw_below_drewN | apply below_drew1 | refine below_set ?_ (Aside0.out (by assumption))) | exact HB.out))) :
    Calls Tryz.prog 11 #[] w fun e w' => e = .returned (.bool r) ∧ Below w.heap.size w w' := by
  obtain rfl := Option.some.inj h
  exact shown_true w htab
end Go.Proofs.YthhkmpicpihjlaaGreatDoor.PSc
