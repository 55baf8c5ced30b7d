/- Layer 18: ScanGrows: every text: the call returns true and keeps all that is older. -/
import Derived.Test.YthhkmpicpihjlaaDoorQTPScx6
import Derived.Test.YthhkmpicpihjlaaDoorQTSE4
import Derived.Test.YthhkmpicpihjlaaDoorQTGShown
set_option linter.unusedVariables false
set_option linter.unusedSimpArgs false
namespace Go.Proofs.YthhkmpicpihjlaaDoor.PSc
open Go.RowKit Go.Proofs.YthhkmpicpihjlaaDoorW.PrintWords Go.Proofs.YthhkmpicpihjlaaDoorW.PrintLast Go.Proofs.YthhkmpicpihjlaaDoorW.PrintMore Go.Proofs.YthhkmpicpihjlaaDoor.SC
theorem ScanGrows_ev (l : List UInt8) (m : ByteArray) (hb : ∀ p, scanF l ≠ .bad p) : Ev (fun k => vernierlaw18_ScanGrows.f k (mkB l) m) true := by
  have hs : vernierlaw18_shown.f = some true := rfl
  unfold vernierlaw18_ScanGrows.f
  rw [hs]
  simp only [Option.bind_some]
  rw [scan_f]
  cases hc : scanF l with
  | long =>
    have hl : 4096 < l.length := by
      unfold scanF at hc
      split at hc
      · assumption
      · split at hc
        · split at hc <;> cases hc
        · split at hc <;> cases hc
    simp only [Option.bind_some, Option.isNone_some, Bool.false_eq_true, if_false]
    refine Ev.congr (f := fun k => vernierlaw18_ScanGrows.j0 k (mkB l) m true (some ((some (13 : Int)).getD 0)) true) (fun k => by rw [if_pos (by rw [mkB_size]; omega)]) ?_
    refine Ev.step (f := fun _ => some true) (fun k => ?_) (Ev.now true)
    simp only [vernierlaw18_ScanGrows.j0, if_true]
  | bad p => exact absurd hc (hb p)
  | ok d =>
    simp only [Option.bind_some, Option.isNone_none, if_true]
    refine Ev.step (f := fun _ => some true) (fun k => ?_) (Ev.now true)
    simp only [vernierlaw18_ScanGrows.j0, if_true]
theorem is_at (g : Nat) (p v : Int) (W : World) (hE : Fa.ErrType W) (hF : Fa.FaultAt W g 0 p 14) (b : Bool) (hb : decide (p = v) = b) :
    Calls Tryd.prog 27 #[.iface 89 (.pointer (some ⟨g, 0, none⟩)), .int .i64 0, .int .i64 v, .int .i64 14] W fun e w' => e = .returned (.bool b) ∧ Below W.heap.size W w' :=
  (Fa.Is_fault g 0 p 14 0 v 14 W hE hF (by decide)).mono fun e w' h => ⟨by rw [h.1, hb]; simp, h.2⟩
theorem is_here (g : Nat) (p : Int) (W : World) (hE : Fa.ErrType W) (hF : Fa.FaultAt W g 0 p 14) :
    Calls Tryd.prog 27 #[.iface 89 (.pointer (some ⟨g, 0, none⟩)), .int .i64 0, .int .i64 p, .int .i64 14] W fun e w' => e = .returned (.bool true) ∧ Below W.heap.size W w' := is_at g p p W hE hF true (decide_eq_true rfl)
theorem scan_badv (a0 : ByteArray) (p : Nat) (v : Int) (hv : v = (p : Int)) (w : World) (h : scanF a0.data.toList = .bad p) : Calls Tryd.prog 26 #[.string a0] w fun e w' => ∃ g, e = .returned (.tuple #[.agg emptyD, .iface 89 (.pointer (some ⟨g, 0, none⟩))]) ∧ w.heap.size ≤ g ∧ Fa.FaultAt w' g 0 v 14 ∧ Below w.heap.size w w' := by
  subst hv; exact scan_bad a0 p w h
theorem scan_good (s : ByteArray) (d : D) (h : scanF s.data.toList = .ok d) (w : World) :
    Calls Tryd.prog 26 #[.string s] w fun e w' => e = .returned (.tuple #[.agg #[.bool d.nar, .bool d.neg, .string (mkB d.ds), .int .i64 d.e], .nilIface]) ∧ Below w.heap.size w w' := by
  refine (scan_all s w).mono ?_
  intro e w' hs
  unfold Scanned at hs
  rw [h] at hs
  exact hs
def GoodAt (s : ByteArray) (d : D) : Prop := scanF s.data.toList = .ok d
theorem good_call {s : ByteArray} {d : D} (h : GoodAt s d) (w : World) :
    Calls Tryd.prog 26 #[.string s] w fun e w' => e = .returned (.tuple #[.agg #[.bool d.nar, .bool d.neg, .string (mkB d.ds), .int .i64 d.e], .nilIface]) ∧ Below w.heap.size w w' := scan_good s d h w
def BadAt (s : ByteArray) (p : Nat) : Prop := scanF s.data.toList = .bad p
theorem bad_call {s : ByteArray} {p : Nat} {v : Int} (hv : v = (p : Int)) (h : BadAt s p) (w : World) : Calls Tryd.prog 26 #[.string s] w fun e w' => ∃ g, e = .returned (.tuple #[.agg emptyD, .iface 89 (.pointer (some ⟨g, 0, none⟩))]) ∧ w.heap.size ≤ g ∧ Fa.FaultAt w' g 0 v 14 ∧ Below w.heap.size w w' := scan_badv s p v hv w h
theorem fault_keep {w w' : World} {g : Nat} {l a c : Int} (h : Fa.FaultAt w g l a c) (hb : Below w.heap.size w w') : Fa.FaultAt w' g l a c := kp h hb
set_option maxHeartbeats 1000000 in
set_option maxRecDepth 100000 in
theorem ScanGrows_far (s m : ByteArray) (p : Nat) (w : World) (hl : Fx.Laid w) (h : scanF s.data.toList = .bad p) (hq : 4000 < s.size) :
    Calls Tryd.prog 7 #[.string s, .string m] w fun e w' => e = .returned (.bool true) ∧ Below w.heap.size w w' := by
  have d1 : decide (4000 < (s.size : Int)) = true := decide_eq_true (by omega)
  have d2 : decide (4000 < s.size) = true := decide_eq_true hq
  have HL := Aside0.mk hl
  have HC := Aside0.mk h
  clear hl h hq
  go_enter Tryd.func7, Tryd.ntmps7
  go_wp2_with (first | (go_at_call 21; refine (shown_true _ HL.out).mono ?_; rintro e w1 ⟨rfl, hb⟩; have HB1 := Aside0.mk hb; clear hb) | (go_at_call 26; refine (scan_bad _ _ _ HC.out).mono ?_; rintro e w2 ⟨g, rfl, hg, hF, hb⟩; have HB2 := Aside0.mk (low_step HB1.out hb); clear hb hg hF))
  go_ret
  exact ⟨rfl, low_alloc HB2.out _⟩
set_option maxHeartbeats 1000000 in
set_option maxRecDepth 100000 in
theorem ScanGrows_wide (s m : ByteArray) (p : Nat) (w : World) (hl : Fx.Laid w) (h : scanF s.data.toList = .bad p) (hq : ¬ 4000 < s.size) (hm : 90 < m.size) :
    Calls Tryd.prog 7 #[.string s, .string m] w fun e w' => e = .returned (.bool true) ∧ Below w.heap.size w w' := by
  have d1 : decide (4000 < (s.size : Int)) = false := decide_eq_false (by omega)
  have d2 : decide (4000 < s.size) = false := decide_eq_false hq
  have d3 : decide (90 < (m.size : Int)) = true := decide_eq_true (by omega)
  have d4 : decide (90 < m.size) = true := decide_eq_true hm
  have HL := Aside0.mk hl
  have HC := Aside0.mk h
  clear hl h hq hm
  go_enter Tryd.func7, Tryd.ntmps7
  go_wp2_with (first | (go_at_call 21; refine (shown_true _ HL.out).mono ?_; rintro e w1 ⟨rfl, hb⟩; have HB1 := Aside0.mk hb; clear hb) | (go_at_call 26; refine (scan_bad _ _ _ HC.out).mono ?_; rintro e w2 ⟨g, rfl, hg, hF, hb⟩; have HB2 := Aside0.mk (low_step HB1.out hb); clear hb hg hF))
  go_ret
  exact ⟨rfl, low_alloc HB2.out _⟩
set_option maxHeartbeats 1000000 in
set_option maxRecDepth 100000 in
theorem ScanGrows_near (s m : ByteArray) (p : Nat) (w : World) (hl : Fx.Laid w) (h : scanF s.data.toList = .bad p) (hq : ¬ 4000 < s.size) (hm : ¬ 90 < m.size) :
    Calls Tryd.prog 7 #[.string s, .string m] w fun e w' => e = .returned (.bool true) ∧ Below w.heap.size w w' := by
  have d1 : decide (4000 < (s.size : Int)) = false := decide_eq_false (by omega)
  have d2 : decide (4000 < s.size) = false := decide_eq_false hq
  have d3 : decide (90 < (m.size : Int)) = false := decide_eq_false (by omega)
  have d4 : decide (90 < m.size) = false := decide_eq_false hm
  have hlen : s.data.toList.length = s.size := Array.length_toList
  have hp := (scanF_le h).1
  rw [hlen] at hp
  have HL := Aside0.mk hl
  have HC := Aside0.mk h
  have HP := Aside0.mk hp
  have HQ := Aside0.mk hq
  have HM := Aside0.mk hm
  have HLEN := Aside0.mk hlen
  clear hl h hq hm hlen hp
  go_enter Tryd.func7, Tryd.ntmps7
  go_wp2_with (first | (go_at_call 21; refine (shown_true _ HL.out).mono ?_; rintro e w1 ⟨rfl, hb⟩; have HB1 := Aside0.mk hb; clear hb) | (go_at_call 26; refine (scan_bad _ _ _ HC.out).mono ?_; rintro e w2 ⟨g, rfl, hg, hF, hb⟩; have HB2 := Aside0.mk (low_step HB1.out hb); have HF := Aside0.mk hF; clear hb hg hF))
  have HF0 := Aside0.mk (fault_alloc HF.out (.cells emptyD 43))
  have HB0 := Aside0.mk (low_alloc HB2.out (.cells emptyD 43))
  go_loopw [8] (fun i w' => ∃ (v : Int), 0 ≤ v ∧ v ≤ (p : Int) ∧ i = .int .i64 v ∧ Aside0 (Fa.FaultAt w' g 0 (p : Int) 14) ∧ Aside0 (Below w.heap.size w w')) (fun i _ => (4100 - intOf i).toNat)
  case atStart => exact ⟨0, by omega, by omega, rfl, HF0, HB0⟩
  case round =>
    obtain ⟨v, hv0, hv1, rfl, HFJ, HBJ⟩ := hrel
    clear HF0 HB0 HF HB1 HB2
    have hps := HP.out
    have hle : decide (v ≤ (s.size : Int)) = true := decide_eq_true (by omega)
    have HE := Aside0.mk (HL.out.below HBJ.out).2
    by_cases hv : v < (p : Int)
    · have hd : decide ((p : Int) = v) = false := decide_eq_false (by omega)
      have HD := Aside0.mk hd
      clear hd
      go_wp2_with (go_at_call 27; refine (is_at g _ v _ HE.out HFJ.out false HD.out).mono ?_; rintro e w3 ⟨rfl, hb⟩; have HF3 := Aside0.mk (fault_keep HFJ.out hb); have HB3 := Aside0.mk (low_step HBJ.out hb); clear hb)
      go_roundw
      case rel => exact ⟨v + 1, by omega, by omega, by first | rfl | rw [wrap_id (by omega) (by have := HQ.out; omega)], HF3, HB3⟩
      case measure => have hq := HQ.out; have e9 := wrap_id (n := v + 1) (by omega) (by omega); simp only [intOf]; first | (rw [e9]; omega) | omega
    · have hvp : v = (p : Int) := by omega
      have HV := Aside0.mk hvp
      have HFV : Aside0 (Fa.FaultAt _ g 0 v 14) := ⟨by rw [hvp]; exact HFJ.out⟩
      by_cases hlt : p < s.size
      · have e1 : decide (v < (s.size : Int)) = true := decide_eq_true (by omega)
        have hw : wrap64 (v + 1) = v + 1 := wrap_id (by omega) (by have := HQ.out; omega)
        have hw2 : IntKind.i64.wrap (v + 1) = v + 1 := (i64_w _).trans hw
        have g1 := eq_true (show (0 : Int) ≤ v + 1 by omega)
        have g2 := eq_true (show v + 1 ≤ (s.size : Int) by omega)
        have tn : (v + 1).toNat = p + 1 := by omega
        obtain ⟨X, hX⟩ : ∃ X, s.extract 0 (p + 1) = X := ⟨_, rfl⟩
        have hXi : s.extract 0 (v + 1).toNat = X := by rw [tn]; exact hX
        have hX1 : X = mkB (s.data.toList.take (p + 1)) := by
          rw [← hX]
          have := mkB_take s.data.toList (p + 1) (by rw [HLEN.out]; omega)
          rw [mkB_self] at this
          exact this
        have hXs : X.size = p + 1 := by rw [hX1, mkB_size, List.length_take, HLEN.out]; omega
        have y1 : (9223372036854775807 < X.size + m.size) = False := eq_false (by have := HQ.out; have := HM.out; omega)
        have hsc : scanF (X ++ m).data.toList = .bad p := by
          have e3 : (X ++ m).data.toList = s.data.toList.take (p + 1) ++ m.data.toList := by
            have : X ++ m = mkB (s.data.toList.take (p + 1) ++ m.data.toList) := by rw [hX1, ← mkB_append]; rfl
            rw [this]; rfl
          have hm2 : m.data.toList.length = m.size := Array.length_toList
          rw [e3]
          exact scanF_grows HC.out (by rw [HLEN.out]; exact hlt) _ (by have := HQ.out; have := HM.out; omega)
        have HSC : Aside0 (BadAt (X ++ m) p) := ⟨hsc⟩
        clear hsc hlt hv hX1 hXs hps hvp hX tn hv1
        go_wp2_with (first | (go_at_call 27; refine (is_here g2 v _ (HL.out.below (low_alloc HB4.out _)).2 (fault_alloc HF4.out _)).mono ?_; rintro e w5 ⟨rfl, hb⟩; have HB5 := Aside0.mk (low_step (low_alloc HB4.out _) hb); clear hb) | (go_at_call 26; refine (bad_call HV.out HSC.out _).mono ?_; rintro e w4 ⟨g2, rfl, hg, hF, hb⟩; have HB4 := Aside0.mk (low_step HB3.out hb); have HF4 := Aside0.mk hF; clear hb hg hF) | (go_at_call 27; refine (is_here g v _ HE.out HFV.out).mono ?_; rintro e w3 ⟨rfl, hb⟩; have HB3 := Aside0.mk (low_step HBJ.out hb); clear hb))
        go_ret
        exact ⟨rfl, HB5.out⟩
      · have hpe : p = s.size := by omega
        have e1 : decide (v < (s.size : Int)) = false := decide_eq_false (by omega)
        have hen := scanF_ends (l := s.data.toList) (by rw [HLEN.out, ← hpe]; exact HC.out) (by rw [HLEN.out]; have := HQ.out; omega)
        obtain ⟨hw3, d, hsd⟩ := hen
        have x0 := bt_at s 0
        have x0b : ∀ h : 0 < s.size, ((s[0]'h).toNat : Int) = bt s 0 := fun h => bt_at s 0 h
        by_cases hn : hd (· == 110) s.data.toList = true
        · have b0 := (hd_bt hn).1
          have hs3 := hw3 hn
          rw [HLEN.out] at hs3
          have hpos : 0 < s.size := by
            rw [← HLEN.out]
            cases hl : s.data.toList with
            | nil => rw [hl] at hn; cases hn
            | cons c l => simp
          have m0 : (bt s 0 == 110) = true := beq_iff_eq.mpr b0
          have m1 : decide (bt s 0 = 110) = true := decide_eq_true b0
          have n1 : ((0 : Int) < (s.size : Int)) = True := eq_true (by omega)
          have n2 : decide ((0 : Int) < (s.size : Int)) = true := decide_eq_true (by omega)
          have n3 : decide (0 < s.size) = true := decide_eq_true hpos
          have n4 : (0 < s.size) = True := eq_true hpos
          have n5 : decide ((3 : Int) < (s.size : Int)) = false := decide_eq_false (by omega)
          have n6 : decide (3 < s.size) = false := decide_eq_false (by omega)
          have n7 := eq_true (show (0 : Int) ≤ (s.size : Int) by omega)
          have n8 := eq_true (show (s.size : Int) ≤ 3 by omega)
          have n9 := eq_true hs3
          obtain ⟨Y, hY⟩ : ∃ Y, (⟨#[110, 97, 114]⟩ : ByteArray).extract s.size 3 = Y := ⟨_, rfl⟩
          have hY2 : (⟨#[110, 97, 114]⟩ : ByteArray).extract s.size (⟨#[110, 97, 114]⟩ : ByteArray).size = Y := hY
          have hY3 : (⟨#[110, 97, 114]⟩ : ByteArray).extract (s.size : Int).toNat (⟨#[110, 97, 114]⟩ : ByteArray).size = Y := hY
          have hYe : Y = mkB (endOf s.data.toList) := by
            rw [← hY]
            have h1 := mkB_drop [110, 97, 114] s.size
            have h2 : endOf s.data.toList = ([110, 97, 114] : List UInt8).drop s.size := by unfold endOf; rw [if_pos hn, HLEN.out]
            rw [h2]
            exact h1
          have hYs : Y.size ≤ 3 := by rw [← hY]; exact ext_le _ _ _
          have y1 : (9223372036854775807 < s.size + Y.size) = False := eq_false (by omega)
          have hsc : scanF (s ++ Y).data.toList = .ok d := by
            have e3 : s ++ Y = mkB (s.data.toList ++ endOf s.data.toList) := by rw [hYe, ← mkB_append]; rfl
            rw [e3]; exact hsd
          have HSC : Aside0 (GoodAt (s ++ Y) d) := ⟨hsc⟩
          clear hsc hsd hYe hYs hw3 hn hlt hv hps hpos hs3 hvp hpe b0
          go_wp2_with (first | (go_at_call 27; refine (is_here g v _ HE.out HFV.out).mono ?_; rintro e w3 ⟨rfl, hb⟩; have HB3 := Aside0.mk (low_step HBJ.out hb); clear hb) | (go_at_call 26; refine (good_call HSC.out _).mono ?_; rintro e w4 ⟨rfl, hb⟩; have HB4 := Aside0.mk (low_step HB3.out hb); clear hb))
          go_ret
          exact ⟨rfl, low_alloc HB4.out _⟩
        · have hsc : scanF (s ++ (⟨#[48]⟩ : ByteArray)).data.toList = .ok d := by
            have e3 : s ++ (⟨#[48]⟩ : ByteArray) = mkB (s.data.toList ++ endOf s.data.toList) := by
              have h2 : endOf s.data.toList = [48] := by unfold endOf; rw [if_neg hn]
              rw [h2, ← mkB_append]; rfl
            rw [e3]; exact hsd
          have HSC : Aside0 (GoodAt (s ++ (⟨#[48]⟩ : ByteArray)) d) := ⟨hsc⟩
          have y1 : (9223372036854775807 < s.size + 1) = False := eq_false (by have := HQ.out; omega)
          by_cases hz : 0 < s.size
          · have n1 : ((0 : Int) < (s.size : Int)) = True := eq_true (by omega)
            have n2 : decide ((0 : Int) < (s.size : Int)) = true := decide_eq_true (by omega)
            have n3 : decide (0 < s.size) = true := decide_eq_true hz
            have n4 : (0 < s.size) = True := eq_true hz
            have hb0 : ¬ bt s 0 = 110 := by
              intro h0
              apply hn
              have := (hd_drop_bt s.data.toList 0 110).2 ⟨by rw [HLEN.out]; exact hz, by rw [mkB_self]; exact h0⟩
              simpa using this
            have m0 : (bt s 0 == 110) = false := beq_eq_false_iff_ne.mpr hb0
            have m1 : decide (bt s 0 = 110) = false := decide_eq_false hb0
            clear hsc hsd hw3 hn hlt hv hps hz hb0 hvp hpe
            go_wp2_with (first | (go_at_call 27; refine (is_here g v _ HE.out HFV.out).mono ?_; rintro e w3 ⟨rfl, hb⟩; have HB3 := Aside0.mk (low_step HBJ.out hb); clear hb) | (go_at_call 26; refine (good_call HSC.out _).mono ?_; rintro e w4 ⟨rfl, hb⟩; have HB4 := Aside0.mk (low_step HB3.out hb); clear hb))
            go_ret
            exact ⟨rfl, low_alloc HB4.out _⟩
          · have n2 : decide ((0 : Int) < (s.size : Int)) = false := decide_eq_false (by omega)
            have n3 : decide (0 < s.size) = false := decide_eq_false hz
            clear hsc hsd hw3 hn hlt hv hps hz hvp hpe
            go_wp2_with (first | (go_at_call 27; refine (is_here g v _ HE.out HFV.out).mono ?_; rintro e w3 ⟨rfl, hb⟩; have HB3 := Aside0.mk (low_step HBJ.out hb); clear hb) | (go_at_call 26; refine (good_call HSC.out _).mono ?_; rintro e w4 ⟨rfl, hb⟩; have HB4 := Aside0.mk (low_step HB3.out hb); clear hb))
            go_ret
            exact ⟨rfl, low_alloc HB4.out _⟩
theorem ScanGrows_all (a0 a1 : ByteArray) (w : World) (htab : Fx.Laid w) :
    Calls Tryd.prog 7 #[.string a0, .string a1] w fun e w' => e = .returned (.bool true) ∧ Below w.heap.size w w' := by
  by_cases hb : ∃ p, scanF a0.data.toList = .bad p
  · obtain ⟨p, hp⟩ := hb
    by_cases hq : 4000 < a0.size
    · exact ScanGrows_far a0 a1 p w htab hp hq
    · by_cases hm : 90 < a1.size
      · exact ScanGrows_wide a0 a1 p w htab hp hq hm
      · exact ScanGrows_near a0 a1 p w htab hp hq hm
  · obtain ⟨k, hk⟩ := (ScanGrows_ev a0.data.toList a1 (fun p hp => hb ⟨p, hp⟩)).rounds
    exact vernierlaw18_ScanGrows.calls k a0 a1 true w hk rfl htab
end Go.Proofs.YthhkmpicpihjlaaDoor.PSc
