/- NatReads: the law's walk, where the text is no text of digits (nat.Read's fault is handed in as a contract). -/
import Derived.Test.YthhkmpicpihjlaaGreatDoorQRPNatx5
import Derived.Test.YthhkmpicpihjlaaGreatDoorQRGIu
namespace Go.Proofs.YthhkmpicpihjlaaGreatDoor.PNat
open Go.RowKit Go.Proofs.YthhkmpicpihjlaaGreatDoorW.PrintWords Go.Proofs.YthhkmpicpihjlaaGreatDoorW.PrintLast Go.Proofs.YthhkmpicpihjlaaGreatDoorW.PrintMore Go.Proofs.YthhkmpicpihjlaaGreatDoor.M
attribute [local go_sem] eql_cc eql_nc neq_cc neq_nc
attribute [local go_sem] max2_int min2_int max_two min_two max_three min_three max_four min_four
set_option linter.unusedVariables false
set_option linter.unusedSimpArgs false
set_option maxHeartbeats 4000000 in
theorem natReads_fault (k : Nat) (a0 : ByteArray) (p : Nat) (w : World) (hsh : vernierlaw04_shown.f k = some true) (htab : Fmt.Tab10 w) (hE : Fa.ErrType w) (hs : a0.size ≤ 4096)
    (hp : p < a0.size ∨ a0.size = 0 ∧ p = 0) (hd : ∀ i : Nat, i < p → 48 ≤ bt a0 i ∧ bt a0 i ≤ 57) (hx : p < a0.size → bt a0 p < 48 ∨ 57 < bt a0 p)
    (hR : ∀ W : World, Calls Tryz.prog 7 #[.string a0] W fun e W' => ∃ g, e = .returned (.tuple #[.slice none 0 0, .iface 54 (.pointer (some ⟨g, 0, none⟩))]) ∧ W.heap.size ≤ g ∧ Fa.FaultAt W' g 0 p 7 ∧ Below W.heap.size W W') :
    Calls Tryz.prog 3 #[.string a0] w fun e w' => e = .returned (.bool true) ∧ Below w.heap.size w w' := by
  have HTAB := Aside0.mk htab
  clear htab
  have HE := Aside0.mk hE
  clear hE
  have HB := Aside0.mk (Below.refl w.heap.size w)
  have A2 := Aside0.mk hsh
  clear hsh
  have HP := Aside0.mk hp
  have HD := Aside0.mk hd
  have HX := Aside0.mk hx
  clear hp hd hx
  have c4b0 : decide (4096 < (a0.size : Int)) = false := decide_eq_false (by omega)
  have c4b1 : decide (4096 < a0.size) = false := decide_eq_false (by omega)
  have HS := Aside0.mk hs
  clear hs
  have HR := Aside0.mk hR
  clear hR
  go_enter Tryz.func3, Tryz.ntmps3
  go_wp2_with (first
    | (go_at_call 6; (with_reducible refine (vernierlaw04_shown.calls k true _ A2.out).mono ?_); rintro e w7 ⟨rfl, hb⟩; have n0_ := Aside0.mk (below_step HB.out hb); clear HB; have HB := n0_; clear n0_ hb)
    | (go_at_call 7; refine (HR.out _).mono ?_; rintro e w8 ⟨g, rfl, hg, hfa, hb⟩; have n0_ := Aside0.mk (below_step HB.out hb); clear HB; have HB := n0_; have HF := Aside0.mk hfa; clear n0_ hb hfa hg))
  go_loopg [6] (a0.size + 1) (fun kq v6 w' => ∃ x : Int, v6 = .int .i64 x ∧ Aside0 (0 ≤ x ∧ x ≤ p ∧ (a0.size : Int) + 1 ≤ kq + x) ∧ Aside0 (Fa.FaultAt w' g 0 p 7) ∧ Aside0 (Below w.heap.size w w'))
  case atStart => exact ⟨0, rfl, ⟨by omega⟩, HF, HB⟩
  case round =>
    clear HF HB
    obtain ⟨x, rfl, HI, HF, HB⟩ := hrel
    have HEW : ∀ W : World, Below w.heap.size w W → Fa.ErrType W := fun W h => (h.cell (p := ⟨0, 0, none⟩) HE.out.lt).trans HE.out
    have HEW := Aside0.mk HEW
    cases gk with
    | zero => exact absurd HI.out (by have := HP.out; omega)
    | succ k1 =>
      by_cases hip : x = (p : Int)
      · have CI : ∀ (W : World), Below w.heap.size w W → Fa.FaultAt W g 0 p 7 → Calls Tryz.prog 8 #[.iface 54 (.pointer (some ⟨g, 0, none⟩)), .int .i64 0, .int .i64 x, .int .i64 7] W fun e w' => e = .returned (.bool true) ∧ Below W.heap.size W w' := by
          intro W h1 h2
          refine (Fa.Is_fault g 0 p 7 0 x 7 W (HEW.out W h1) h2 ⟨by decide, by decide⟩).mono ?_
          rintro e w' ⟨rfl, hb⟩
          exact ⟨by simp [hip], hb⟩
        have CI := Aside0.mk CI
        by_cases hlt : p < a0.size
        · have c12b0 : decide (x < (a0.size : Int)) = true := decide_eq_true (by omega)
          have c13b0 : decide (0 ≤ x) = true := decide_eq_true (by omega)
          have p14 : (0 ≤ x) = True := eq_true (by omega)
          have q14 : (x < (a0.size : Int)) = True := eq_true (by omega)
          have hx14 := bt_at a0 x
          have hX := HX.out hlt
          rw [← hip] at hX
          clear HI hip hlt
          by_cases h48 : bt a0 x < 48
          · have c15b0 : decide (bt a0 x < 48) = true := decide_eq_true h48
            clear hX h48
            go_wp2_with (go_at_call 8; refine (CI.out _ (by repeat (first | exact HB.out | apply below_alloc | apply pw_below_drewN | apply below_drew1)) HF.out).mono ?_; rintro e w9 ⟨rfl, hb⟩; have n0_ := Aside0.mk (below_step HB.out hb); clear HB HF; have HB := n0_; clear n0_ hb)
            go_ret
            exact ⟨rfl, by repeat (first | exact HB.out | apply below_alloc | apply pw_below_drewN | apply below_drew1)⟩
          · have c15b0 : decide (bt a0 x < 48) = false := decide_eq_false h48
            have c16b0 : decide (57 < bt a0 x) = true := decide_eq_true (by omega)
            clear hX h48
            go_wp2_with (go_at_call 8; refine (CI.out _ (by repeat (first | exact HB.out | apply below_alloc | apply pw_below_drewN | apply below_drew1)) HF.out).mono ?_; rintro e w9 ⟨rfl, hb⟩; have n0_ := Aside0.mk (below_step HB.out hb); clear HB HF; have HB := n0_; clear n0_ hb)
            go_ret
            exact ⟨rfl, by repeat (first | exact HB.out | apply below_alloc | apply pw_below_drewN | apply below_drew1)⟩
        · have h0 : a0.size = 0 ∧ p = 0 := by have := HP.out; omega
          have hx0 : x = 0 := by omega
          subst hx0
          have hz := h0.1
          have c12b0 : decide ((0 : Int) < (a0.size : Int)) = false := decide_eq_false (by omega)
          have c12b1 : decide (0 < a0.size) = false := decide_eq_false (by omega)
          have hnil : a0.toList = [] := by
            rw [Lib.toList_data]
            exact List.length_eq_zero_iff.1 (by rw [Array.length_toList]; exact hz)
          have c28b0 : (a0.toList == ([] : List UInt8)) = true := beq_iff_eq.mpr hnil
          have c28b1 : (a0.toList != ([] : List UInt8)) = false := bne_eq_false_iff_eq.mpr hnil
          clear hnil hlt HI hz h0 hip
          go_wp2_with (go_at_call 8; refine (CI.out _ (by repeat (first | exact HB.out | apply below_alloc | apply pw_below_drewN | apply below_drew1)) HF.out).mono ?_; rintro e w9 ⟨rfl, hb⟩; have n0_ := Aside0.mk (below_step HB.out hb); clear HB HF; have HB := n0_; clear n0_ hb)
          go_ret
          exact ⟨rfl, by repeat (first | exact HB.out | apply below_alloc | apply pw_below_drewN | apply below_drew1)⟩
      · have hI := HI.out
        have hls : x < (a0.size : Int) := by have := HP.out; omega
        have c12b0 : decide (x < (a0.size : Int)) = true := decide_eq_true (by omega)
        have c13b0 : decide (0 ≤ x) = true := decide_eq_true (by omega)
        have p14 : (0 ≤ x) = True := eq_true (by omega)
        have q14 : (x < (a0.size : Int)) = True := eq_true (by omega)
        have hx14 := bt_at a0 x
        have hD := HD.out x.toNat (by omega)
        rw [show ((x.toNat : Nat) : Int) = x by omega] at hD
        have c15b0 : decide (bt a0 x < 48) = false := decide_eq_false (by omega)
        have c16b0 : decide (57 < bt a0 x) = false := decide_eq_false (by omega)
        have hw : wrap64 (x + 1) = x + 1 := by have := HS.out; unfold wrap64; omega
        have HW := Aside0.mk hw
        have HN := Aside0.mk (show 0 ≤ x + 1 ∧ x + 1 ≤ p ∧ (a0.size : Int) + 1 ≤ (k1 : Int) + (x + 1) by omega)
        clear hD hls hip hw hI HI
        go_wp2
        go_roundg k1
        case measure => omega
        case rel => exact ⟨wrap64 (x + 1), rfl, ⟨by rw [HW.out]; exact HN.out⟩, HF, HB⟩
end Go.Proofs.YthhkmpicpihjlaaGreatDoor.PNat
