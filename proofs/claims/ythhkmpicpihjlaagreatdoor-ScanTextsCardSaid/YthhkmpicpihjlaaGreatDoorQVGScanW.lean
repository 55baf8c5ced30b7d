/- scan.Scan: what it answers at every text, as the lists' function says; a contract in the printed form, and the fault with its place. -/
import Derived.Test.YthhkmpicpihjlaaGreatDoorQVSQ
import Derived.Test.YthhkmpicpihjlaaGreatDoorQVSE1
import Derived.Test.YthhkmpicpihjlaaGreatDoorQVGIu
import Derived.Test.YthhkmpicpihjlaaGreatDoorQVShelf
import Derived.Laws.BytesArg
import Derived.Test.YthhkmpicpihjlaaGreatDoorQVPScx3
set_option linter.unusedVariables false
set_option linter.unusedSimpArgs false
namespace Go.Proofs.YthhkmpicpihjlaaGreatDoor.PSc
open Go.RowKit Go.Proofs.YthhkmpicpihjlaaGreatDoorW.PrintWords Go.Proofs.YthhkmpicpihjlaaGreatDoorW.PrintLast Go.Proofs.YthhkmpicpihjlaaGreatDoorW.PrintMore Go.Proofs.YthhkmpicpihjlaaGreatDoor.SC Go.Proofs.YthhkmpicpihjlaaGreatDoor.SR
theorem fault_calls (a : Int) (w : World) : Calls Tryz.prog 35 #[.int .i64 a] w fun e w' => ∃ gf, e = .returned (.iface 54 (.pointer (some ⟨gf, 0, none⟩))) ∧ w.heap.size ≤ gf ∧ Fa.FaultAt w' gf 0 a 14 ∧ Below w.heap.size w w' := by
  go_enter Tryz.func35, Tryz.ntmps35
  go_wp2
  go_ret
  exact ⟨_, rfl, Nat.le_refl _, heap_alloc_new w _, (Below.refl _ w).alloc (Nat.le_refl _) _⟩
theorem whole_calls (B b k : Nat) (r : R) (w : World) (h : At B b r w) (hi : Inv k r) : Calls Tryz.prog 37 #[.pointer (some ⟨b, 0, none⟩)] w fun e w' => e = .returned (.bool (whole r)) ∧ w' = w := by
  obtain ⟨v, h⟩ := h
  obtain ⟨c0, c1, c2, c3, c4, c5, f0, f1, f2, f3, f4, f5, hlt⟩ := cells_of h.2.1
  unfold whole
  rcases st_of hi.st with hs | hs | hs | hs | hs | hs | hs | hs <;> rw [hs] at c0 ⊢ <;> (
    go_enter Tryz.func37, Tryz.ntmps37
    go_wp2
    go_ret
    exact ⟨rfl, rfl⟩)
abbrev emptyD : Array Value := #[.bool false, .bool false, .string (⟨#[]⟩ : ByteArray), .int .i64 0]
def Faulty (p : Nat) (w : World) (e : Ending) (w' : World) : Prop := ∃ g, e = .returned (.tuple #[.agg emptyD, .iface 54 (.pointer (some ⟨g, 0, none⟩))]) ∧ w.heap.size ≤ g ∧ Fa.FaultAt w' g 0 (p : Int) 14 ∧ Below w.heap.size w w'
def Res4 (g : Nat) (w : World) : Prop := w.heap[g]? = some (.cells emptyD 36 (0, 0))
def put4 (w : World) (g : Nat) (v0 v1 v2 v3 : Value) : World := (((w.setCell ⟨g, 0, none⟩ v0).setCell ⟨g, 1, none⟩ v1).setCell ⟨g, 2, none⟩ v2).setCell ⟨g, 3, none⟩ v3
theorem put4_at {w : World} {g : Nat} (h : Res4 g w) (v0 v1 v2 v3 : Value) : (put4 w g v0 v1 v2 v3).heap[g]? = some (.cells #[v0, v1, v2, v3] 36 (0, 0)) :=
  blk_put (blk_put (blk_put (blk_put h 0 v0 rfl) 1 v1 rfl) 2 v2 rfl) 3 v3 rfl
theorem put4_other {w : World} {g k : Nat} (h : k ≠ g) (v0 v1 v2 v3 : Value) : (put4 w g v0 v1 v2 v3).heap[k]? = w.heap[k]? := by
  unfold put4
  rw [heap_setCell_other _ _ _ _ h, heap_setCell_other _ _ _ _ h, heap_setCell_other _ _ _ _ h, heap_setCell_other _ _ _ _ h]
theorem put4_below {B : Nat} {w0 w : World} {g : Nat} (h : Below B w0 w) (hg : B ≤ g) (v0 v1 v2 v3 : Value) : Below B w0 (put4 w g v0 v1 v2 v3) :=
  (((h.setCell (p := ⟨g, 0, none⟩) hg v0).setCell (p := ⟨g, 1, none⟩) hg v1).setCell (p := ⟨g, 2, none⟩) hg v2).setCell (p := ⟨g, 3, none⟩) hg v3
theorem res4_cells {w : World} {g : Nat} (h : Res4 g w) : w.cell? ⟨g, 0, none⟩ = some (.bool false) ∧ w.cell? ⟨g, 1, none⟩ = some (.bool false) ∧ w.cell? ⟨g, 2, none⟩ = some (.string (⟨#[]⟩ : ByteArray)) ∧ w.cell? ⟨g, 3, none⟩ = some (.int .i64 0) ∧
    w.frozen? ⟨g, 0, none⟩ = false ∧ w.frozen? ⟨g, 1, none⟩ = false ∧ w.frozen? ⟨g, 2, none⟩ = false ∧ w.frozen? ⟨g, 3, none⟩ = false := by
  unfold Res4 at h
  exact ⟨(blk_cell h 0).trans rfl, (blk_cell h 1).trans rfl, (blk_cell h 2).trans rfl, (blk_cell h 3).trans rfl, blk_frozen h 0, blk_frozen h 1, blk_frozen h 2, blk_frozen h 3⟩
theorem res4_new (w : World) : Res4 w.heap.size (w.alloc (.cells emptyD 36)) := heap_alloc_new w _
theorem res4_below {g : Nat} {w w' : World} (h : Res4 g w) (hb : Below w.heap.size w w') : Res4 g w' := by
  unfold Res4 at *
  rw [hb.block g (Array.getElem?_eq_some_iff.1 h).1]; exact h
theorem faulty_of {w0 w1 w2 : World} {p gf : Nat} (h0 : Below w0.heap.size w0 w1) (hr : Res4 w0.heap.size w1) (hg : w1.heap.size ≤ gf) (hF : Fa.FaultAt w2 gf 0 (p : Int) 14) (hb : Below w1.heap.size w1 w2) :
    Faulty p w0 (.returned (.tuple #[.agg emptyD, .iface 54 (.pointer (some ⟨gf, 0, none⟩))])) (put4 w2 w0.heap.size (.bool false) (.bool false) (.string (⟨#[]⟩ : ByteArray)) (.int .i64 0)) := by
  have hlt : w0.heap.size < w1.heap.size := (Array.getElem?_eq_some_iff.1 hr).1
  refine ⟨gf, rfl, by omega, ?_, put4_below (h0.trans (hb.mono (by omega))) (Nat.le_refl _) _ _ _ _⟩
  unfold Fa.FaultAt at *
  rw [put4_other (by omega)]
  exact hF
set_option maxHeartbeats 1000000 in
theorem scan_long (s : ByteArray) (w : World) (h : 4096 < s.size) : Calls Tryz.prog 12 #[.string s] w fun e w' => e = .returned (.tuple #[.agg emptyD, .iface 29 (.int .i64 13)]) ∧ Below w.heap.size w w' := by
  have hb1 : decide (4096 < (s.size : Int)) = true := decide_eq_true (by omega)
  have hb2 : decide (4096 < s.size) = true := decide_eq_true h
  clear h
  go_enter Tryz.func12, Tryz.ntmps12
  go_wp2
  refine bodyPost_ret (results_ct rfl _ _ w.heap.size 36 emptyD (0, 0) _ rfl (heap_alloc_new w _) Tryz.underlying36 rfl (by kernel_rfl)) rfl ?_
  exact ⟨rfl, (Below.refl _ w).alloc (Nat.le_refl _) _⟩
theorem hd_bt {s : ByteArray} (hn : hd (· == 110) s.data.toList = true) : bt s 0 = 110 ∧ Lib.hasPrefix s.data.toList [110] = true := by
  cases hl : s.data.toList with
  | nil => rw [hl] at hn; cases hn
  | cons c l =>
    rw [hl] at hn
    have hc : c = 110 := by simpa [hd] using hn
    subst hc
    have h := bt_mk0 110 l
    rw [← hl, mkB_self] at h
    exact ⟨by simpa using h, rfl⟩
theorem prefix_calls (s : ByteArray) (b : Bool) (h : Lib.hasPrefix s.data.toList [110] = b) (w : World) :
    Calls Tryz.prog 34 #[.string s, .string ((⟨#[110, 97, 114]⟩ : ByteArray).extract 0 1)] w fun e w' => e = .returned (.bool b) ∧ w' = w := by
  subst h
  exact Tryz.strings_HasPrefix s ⟨#[110]⟩ w
abbrev wordB : ByteArray := ⟨#[110, 97, 114]⟩
theorem hd_drop_bt (l : List UInt8) (i : Nat) (x : UInt8) : hd (· == x) (l.drop i) = true ↔ i < l.length ∧ bt (mkB l) (i : Int) = (x.toNat : Int) := by
  by_cases h : i < l.length
  · rw [bt_mk h, List.drop_eq_getElem_cons h]
    simp only [hd, beq_iff_eq, h, true_and]
    constructor
    · rintro rfl; rfl
    · intro h2
      exact UInt8.toNat_inj.1 (by omega)
  · rw [List.drop_eq_nil_iff.2 (by omega)]
    simp [hd, h]
theorem wordAt_spec (l : List UInt8) : (∀ v : Nat, v < wordAt l → v < l.length ∧ bt (mkB l) (v : Int) = bt wordB (v : Int)) ∧ (wordAt l < 3 → wordAt l < l.length → bt (mkB l) (wordAt l : Int) ≠ bt wordB (wordAt l : Int)) := by
  have z0 : bt wordB ((0 : Nat) : Int) = 110 := by decide
  have z1 : bt wordB ((1 : Nat) : Int) = 97 := by decide
  have z2 : bt wordB ((2 : Nat) : Int) = 114 := by decide
  have h0 := hd_drop_bt l 0 110
  have h1 := hd_drop_bt l 1 97
  have h2 := hd_drop_bt l 2 114
  rw [List.drop_zero] at h0
  have t0 : ((110 : UInt8).toNat : Int) = 110 := rfl
  have t1 : ((97 : UInt8).toNat : Int) = 97 := rfl
  have t2 : ((114 : UInt8).toNat : Int) = 114 := rfl
  rw [t0, ← z0] at h0
  rw [t1, ← z1] at h1
  rw [t2, ← z2] at h2
  unfold wordAt
  by_cases c0 : hd (· == 110) l = true
  · rw [if_pos c0]
    obtain ⟨a0, b0⟩ := h0.1 c0
    by_cases c1 : hd (· == 97) (l.drop 1) = true
    · rw [if_pos c1]
      obtain ⟨a1, b1⟩ := h1.1 c1
      by_cases c2 : hd (· == 114) (l.drop 2) = true
      · rw [if_pos c2]
        obtain ⟨a2, b2⟩ := h2.1 c2
        refine ⟨fun v hv => ?_, fun h => absurd h (by decide)⟩
        have : v = 0 ∨ v = 1 ∨ v = 2 := by omega
        rcases this with rfl | rfl | rfl
        · exact ⟨a0, b0⟩
        · exact ⟨a1, b1⟩
        · exact ⟨a2, b2⟩
      · rw [if_neg c2]
        refine ⟨fun v hv => ?_, fun _ hl hb => c2 (h2.2 ⟨hl, hb⟩)⟩
        have : v = 0 ∨ v = 1 := by omega
        rcases this with rfl | rfl
        · exact ⟨a0, b0⟩
        · exact ⟨a1, b1⟩
    · rw [if_neg c1]
      refine ⟨fun v hv => ?_, fun _ hl hb => c1 (h1.2 ⟨hl, hb⟩)⟩
      obtain rfl : v = 0 := by omega
      exact ⟨a0, b0⟩
  · rw [if_neg c0]
    exact ⟨fun v hv => absurd hv (Nat.not_lt_zero v), fun _ hl hb => c0 (h0.2 ⟨hl, hb⟩)⟩
def Worded (l : List UInt8) (w : World) (e : Ending) (w' : World) : Prop :=
  if wordAt l < 3 ∨ 3 < l.length then Faulty (wordAt l) w e w' else e = .returned (.tuple #[.agg #[.bool true, .bool false, .string (⟨#[]⟩ : ByteArray), .int .i64 0], .nilIface]) ∧ Below w.heap.size w w'
set_option maxHeartbeats 4000000 in
theorem scan_word (s : ByteArray) (w : World) (h : s.size ≤ 4096) (hn : hd (· == 110) s.data.toList = true) :
    Calls Tryz.prog 12 #[.string s] w fun e w' => Worded s.data.toList w e w' := by
  have hb1 : decide (4096 < (s.size : Int)) = false := decide_eq_false (by omega)
  have hb2 : decide (4096 < s.size) = false := decide_eq_false (by omega)
  obtain ⟨b0, hp⟩ := hd_bt hn
  obtain ⟨sp1, sp2⟩ := wordAt_spec s.data.toList
  obtain ⟨le1, le2⟩ := wordAt_le s.data.toList
  have hlen : s.data.toList.length = s.size := Array.length_toList
  rw [hlen] at le2
  have HP := Aside0.mk hp
  have HR0 := Aside0.mk (res4_new w)
  have S1 := Aside0.mk sp1
  have S2 := Aside0.mk sp2
  clear hp hn b0 sp1 sp2
  go_enter Tryz.func12, Tryz.ntmps12
  go_wp2_with (first | (go_at_call 34; refine (prefix_calls s _ HP.out _).mono ?_; rintro e w1 ⟨rfl, rfl⟩) | (go_at_call 35; refine (fault_calls _ _).mono ?_; rintro e w2 ⟨gf, rfl, hgf, hFf, hbf⟩; obtain ⟨k0, k1, k2, k3, k4, k5, k6, k7⟩ := res4_cells (res4_below (by exact HR.out) hbf); have HF1 := Aside0.mk hgf; have HF2 := Aside0.mk hFf; have HF3 := Aside0.mk hbf; clear hgf hFf hbf))
  go_loopw [16] (fun i w' => ∃ v : Int, 0 ≤ v ∧ v ≤ (wordAt s.data.toList : Int) ∧ i = .int .i64 v ∧ Aside0 (Res4 w.heap.size w') ∧ Aside0 (Below w.heap.size w w')) (fun i _ => (4 - intOf i).toNat)
  case atStart => exact ⟨0, by omega, by omega, rfl, HR0, ⟨(Below.refl _ w).alloc (Nat.le_refl _) _⟩⟩
  case round =>
    obtain ⟨v, hv0, hv1, rfl, HR, HBJ⟩ := hrel
    clear HR0
    by_cases h3 : v < 3
    · have d3 : decide (v < 3) = true := decide_eq_true h3
      by_cases hs : v = (s.size : Int)
      · have q1 : (v == (s.size : Int)) = true := beq_iff_eq.mpr hs
        have q2 : decide (v < (s.size : Int)) = false := decide_eq_false (by omega)
        have HV : Aside0 (v = (wordAt s.data.toList : Int)) := ⟨by omega⟩
        have HW : Aside0 (wordAt s.data.toList < 3) := ⟨by omega⟩
        clear hs
        go_wp2_with (first | (go_at_call 34; refine (prefix_calls s _ HP.out _).mono ?_; rintro e w1 ⟨rfl, rfl⟩) | (go_at_call 35; refine (fault_calls _ _).mono ?_; rintro e w2 ⟨gf, rfl, hgf, hFf, hbf⟩; obtain ⟨k0, k1, k2, k3, k4, k5, k6, k7⟩ := res4_cells (res4_below (by exact HR.out) hbf); have HF1 := Aside0.mk hgf; have HF2 := Aside0.mk hFf; have HF3 := Aside0.mk hbf; clear hgf hFf hbf))
        repeat (go_quiet (fail); try go_wp2_with (first | (go_at_call 34; refine (prefix_calls s _ HP.out _).mono ?_; rintro e w1 ⟨rfl, rfl⟩) | (go_at_call 35; refine (fault_calls _ _).mono ?_; rintro e w2 ⟨gf, rfl, hgf, hFf, hbf⟩; obtain ⟨k0, k1, k2, k3, k4, k5, k6, k7⟩ := res4_cells (res4_below (by exact HR.out) hbf); have HF1 := Aside0.mk hgf; have HF2 := Aside0.mk hFf; have HF3 := Aside0.mk hbf; clear hgf hFf hbf)))
        refine bodyPost_ret (results_ct rfl _ _ w.heap.size 36 emptyD (0, 0) _ rfl (put4_at (res4_below (by exact HR.out) HF3.out) (.bool false) (.bool false) (.string (⟨#[]⟩ : ByteArray)) (.int .i64 0)) Tryz.underlying36 rfl (by kernel_rfl)) rfl ?_
        unfold Worded
        rw [if_pos (.inl HW.out)]
        refine faulty_of (p := wordAt s.data.toList) (by first | exact HBJ.out | exact pw_below_drewN HBJ.out _) (by exact HR.out) HF1.out ?_ HF3.out
        rw [← HV.out]; exact HF2.out
      · have hlt : v < (s.size : Int) := by omega
        have q1 : (v == (s.size : Int)) = false := beq_eq_false_iff_ne.mpr hs
        have p6 := eq_true hv0
        have q6 := eq_true hlt
        have q6b : decide (v < (s.size : Int)) = true := decide_eq_true hlt
        have hx6 := bt_at s v
        have q7 := eq_true h3
        have hx7 := bt_at wordB v
        by_cases hm : bt s v = bt wordB v
        · have hm1 : (bt s v == bt wordB v) = true := beq_iff_eq.mpr hm
          have hm2 : (bt s v != bt wordB v) = false := bne_eq_false_iff_eq.mpr hm
          have HV : Aside0 (v < (wordAt s.data.toList : Int)) := ⟨by
            by_cases h' : v < (wordAt s.data.toList : Int)
            · exact h'
            · exfalso
              have e1 : v = (wordAt s.data.toList : Int) := by omega
              refine S2.out (by omega) (by rw [hlen]; omega) ?_
              rw [mkB_self, ← e1]; exact hm⟩
          clear hs hm hlt
          go_wp2_with (first | (go_at_call 34; refine (prefix_calls s _ HP.out _).mono ?_; rintro e w1 ⟨rfl, rfl⟩) | (go_at_call 35; refine (fault_calls _ _).mono ?_; rintro e w2 ⟨gf, rfl, hgf, hFf, hbf⟩; obtain ⟨k0, k1, k2, k3, k4, k5, k6, k7⟩ := res4_cells (res4_below (by exact HR.out) hbf); have HF1 := Aside0.mk hgf; have HF2 := Aside0.mk hFf; have HF3 := Aside0.mk hbf; clear hgf hFf hbf))
          repeat (go_quiet (fail); try go_wp2_with (first | (go_at_call 34; refine (prefix_calls s _ HP.out _).mono ?_; rintro e w1 ⟨rfl, rfl⟩) | (go_at_call 35; refine (fault_calls _ _).mono ?_; rintro e w2 ⟨gf, rfl, hgf, hFf, hbf⟩; obtain ⟨k0, k1, k2, k3, k4, k5, k6, k7⟩ := res4_cells (res4_below (by exact HR.out) hbf); have HF1 := Aside0.mk hgf; have HF2 := Aside0.mk hFf; have HF3 := Aside0.mk hbf; clear hgf hFf hbf)))
          go_roundw
          case rel => exact ⟨v + 1, by omega, by have := HV.out; omega, by first | rfl | rw [wrap_id (by omega) (by omega)], ⟨by exact HR.out⟩, ⟨by first | exact HBJ.out | exact pw_below_drewN HBJ.out _⟩⟩
          case measure => simp only [intOf]; omega
        · have hm1 : (bt s v == bt wordB v) = false := beq_eq_false_iff_ne.mpr hm
          have hm2 : (bt s v != bt wordB v) = true := bne_iff_ne.mpr hm
          have HV : Aside0 (v = (wordAt s.data.toList : Int)) := ⟨by
            by_cases h' : v < (wordAt s.data.toList : Int)
            · exfalso
              obtain ⟨n, rfl⟩ := Int.eq_ofNat_of_zero_le hv0
              exact hm (S1.out n (by omega)).2
            · omega⟩
          have HW : Aside0 (wordAt s.data.toList < 3) := ⟨by have := HV.out; omega⟩
          clear hs hm hlt
          go_wp2_with (first | (go_at_call 34; refine (prefix_calls s _ HP.out _).mono ?_; rintro e w1 ⟨rfl, rfl⟩) | (go_at_call 35; refine (fault_calls _ _).mono ?_; rintro e w2 ⟨gf, rfl, hgf, hFf, hbf⟩; obtain ⟨k0, k1, k2, k3, k4, k5, k6, k7⟩ := res4_cells (res4_below (by exact HR.out) hbf); have HF1 := Aside0.mk hgf; have HF2 := Aside0.mk hFf; have HF3 := Aside0.mk hbf; clear hgf hFf hbf))
          repeat (go_quiet (fail); try go_wp2_with (first | (go_at_call 34; refine (prefix_calls s _ HP.out _).mono ?_; rintro e w1 ⟨rfl, rfl⟩) | (go_at_call 35; refine (fault_calls _ _).mono ?_; rintro e w2 ⟨gf, rfl, hgf, hFf, hbf⟩; obtain ⟨k0, k1, k2, k3, k4, k5, k6, k7⟩ := res4_cells (res4_below (by exact HR.out) hbf); have HF1 := Aside0.mk hgf; have HF2 := Aside0.mk hFf; have HF3 := Aside0.mk hbf; clear hgf hFf hbf)))
          refine bodyPost_ret (results_ct rfl _ _ w.heap.size 36 emptyD (0, 0) _ rfl (put4_at (res4_below (by exact HR.out) HF3.out) (.bool false) (.bool false) (.string (⟨#[]⟩ : ByteArray)) (.int .i64 0)) Tryz.underlying36 rfl (by kernel_rfl)) rfl ?_
          unfold Worded
          rw [if_pos (.inl HW.out)]
          refine faulty_of (p := wordAt s.data.toList) (by first | exact HBJ.out | exact pw_below_drewN HBJ.out _) (by exact HR.out) HF1.out ?_ HF3.out
          rw [← HV.out]; exact HF2.out
    · have d3 : decide (v < 3) = false := decide_eq_false h3
      have HW : Aside0 (wordAt s.data.toList = 3) := ⟨by omega⟩
      have HL := Aside0.mk hlen
      by_cases hl : 3 < s.size
      · have r1 : decide ((3 : Int) < (s.size : Int)) = true := decide_eq_true (by omega)
        have r2 : decide (3 < s.size) = true := decide_eq_true hl
        have HL3 := Aside0.mk hl
        clear hl
        go_wp2_with (first | (go_at_call 34; refine (prefix_calls s _ HP.out _).mono ?_; rintro e w1 ⟨rfl, rfl⟩) | (go_at_call 35; refine (fault_calls _ _).mono ?_; rintro e w2 ⟨gf, rfl, hgf, hFf, hbf⟩; obtain ⟨k0, k1, k2, k3, k4, k5, k6, k7⟩ := res4_cells (res4_below (by exact HR.out) hbf); have HF1 := Aside0.mk hgf; have HF2 := Aside0.mk hFf; have HF3 := Aside0.mk hbf; clear hgf hFf hbf))
        refine bodyPost_ret (results_ct rfl _ _ w.heap.size 36 emptyD (0, 0) _ rfl (put4_at (res4_below (by exact HR.out) HF3.out) (.bool false) (.bool false) (.string (⟨#[]⟩ : ByteArray)) (.int .i64 0)) Tryz.underlying36 rfl (by kernel_rfl)) rfl ?_
        unfold Worded
        rw [if_pos (.inr (by rw [HL.out]; exact HL3.out))]
        refine faulty_of (p := wordAt s.data.toList) (by first | exact HBJ.out | exact pw_below_drewN HBJ.out _) (by exact HR.out) HF1.out ?_ HF3.out
        rw [HW.out]; exact HF2.out
      · have r1 : decide ((3 : Int) < (s.size : Int)) = false := decide_eq_false (by omega)
        have r2 : decide (3 < s.size) = false := decide_eq_false hl
        have HL3 := Aside0.mk hl
        obtain ⟨k0, k1, k2, k3, k4, k5, k6, k7⟩ := res4_cells HR.out
        clear hl
        go_wp2_with (first | (go_at_call 34; refine (prefix_calls s _ HP.out _).mono ?_; rintro e w1 ⟨rfl, rfl⟩) | (go_at_call 35; refine (fault_calls _ _).mono ?_; rintro e w2 ⟨gf, rfl, hgf, hFf, hbf⟩; obtain ⟨k0, k1, k2, k3, k4, k5, k6, k7⟩ := res4_cells (res4_below (by exact HR.out) hbf); have HF1 := Aside0.mk hgf; have HF2 := Aside0.mk hFf; have HF3 := Aside0.mk hbf; clear hgf hFf hbf))
        refine bodyPost_ret (results_ct rfl _ _ w.heap.size 36 #[.bool true, .bool false, .string (⟨#[]⟩ : ByteArray), .int .i64 0] (0, 0) _ rfl (put4_at HR.out (.bool true) (.bool false) (.string (⟨#[]⟩ : ByteArray)) (.int .i64 0)) Tryz.underlying36 rfl (by kernel_rfl)) rfl ?_
        unfold Worded
        rw [if_neg (by rw [HL.out, HW.out]; intro h'; rcases h' with h' | h'; · omega
                       · exact HL3.out h')]
        exact ⟨rfl, put4_below HBJ.out (Nat.le_refl _) _ _ _ _⟩
end Go.Proofs.YthhkmpicpihjlaaGreatDoor.PSc
