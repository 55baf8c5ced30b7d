/- scan.Scan at a text that doesn't begin with an n: the reader's loop, and the decimal that it tells. -/
import Derived.Test.YthhkmpicpihjlaaGreatDoorQVGScanW
set_option linter.unusedVariables false
set_option linter.unusedSimpArgs false
namespace Go.Proofs.YthhkmpicpihjlaaGreatDoor.PSc
open Go.RowKit Go.Proofs.YthhkmpicpihjlaaGreatDoorW.PrintWords Go.Proofs.YthhkmpicpihjlaaGreatDoorW.PrintLast Go.Proofs.YthhkmpicpihjlaaGreatDoorW.PrintMore Go.Proofs.YthhkmpicpihjlaaGreatDoor.SC Go.Proofs.YthhkmpicpihjlaaGreatDoor.SR
theorem str_nums (l : List UInt8) : strOfNums (l.map fun c => (c.toNat : Int)) = mkB l := by
  unfold strOfNums mkB
  rw [List.map_map]
  congr 2
  conv => rhs; rw [← List.map_id l]
  refine List.map_congr_left fun c _ => ?_
  simp
theorem conv_own {B : Nat} {v : Value} {ds : List UInt8} {W : World} (h : W.ownsRow B 5 1 v ds.length (byteVs ds)) (h0 : ds ≠ []) :
    (∃ gr cap, v = .slice (some ⟨gr, 0, none⟩) ds.length cap) ∧ (convert 70 9 v).run Tryz.prog W = .ok (.string (mkB ds)) W := by
  have hp := List.length_pos_iff.2 h0
  rcases h.2 with ⟨_, hz⟩ | ⟨g, cap, cur, rfl, hB, hg, hn, hc, hs, ht⟩
  · omega
  · refine ⟨⟨g, cap, rfl⟩, ?_⟩
    rw [← str_nums]
    refine run_convert_bytes_arg W 70 5 Tryz.underlying70 Tryz.underlying5 g 0 ds.length cap _ (by simp) (fun i hi => ?_) 9 Tryz.underlying9
    have e : cur.toList[i]? = some (.int .u8 ((ds[i]'hi).toNat : Int)) := by
      have : (cur.toList.take (ds.length * 1))[i]? = (byteVs ds)[i]? := by rw [ht]
      rw [List.getElem?_take_of_lt (by omega)] at this
      rw [this]
      simp [byteVs, hi]
    rw [Nat.zero_add]
    simp [World.cell?, hg]
    simp at e
    rw [e]
    simp [hi]
theorem bt_list {s : ByteArray} {v : Int} (h0 : 0 ≤ v) (h1 : v < (s.size : Int)) : ∃ h : v.toNat < s.data.toList.length, bt s v = ((s.data.toList[v.toNat]'h).toNat : Int) := by
  have hl : s.data.toList.length = s.size := Array.length_toList
  have h : v.toNat < s.data.toList.length := by omega
  refine ⟨h, ?_⟩
  have := bt_mk h
  rw [mkB_self, Int.toNat_of_nonneg h0] at this
  exact this
theorem res4_lt {g B : Nat} {w w' : World} (h : Res4 g w) (hb : Below B w w') (hg : g < B) : Res4 g w' := by
  unfold Res4 at *
  rw [hb.block g hg]; exact h
theorem at_size {B b : Nat} {r : R} {w : World} (h : At B b r w) : b < w.heap.size := by
  obtain ⟨v, h⟩ := h
  exact (Array.getElem?_eq_some_iff.1 h.2.1).1
theorem take_none' {B b k : Nat} {r : R} {c : UInt8} {x : Int} {w : World} (hx : x = (c.toNat : Int)) (h : At B b r w) (hi : Inv k r) (ht : tk r c = none) :
    Calls Tryz.prog 36 #[.pointer (some ⟨b, 0, none⟩), .int .u8 x] w fun e w' => e = .returned (.bool false) ∧ Below B w w' := by
  subst hx; exact take_none B b k r c w h hi ht
theorem take_some' {B b k : Nat} {r r' : R} {c : UInt8} {x : Int} {w : World} (hx : x = (c.toNat : Int)) (h : At B b r w) (hi : Inv k r) (hk : k < 1000000) (hB : B ≤ w.heap.size) (ht : tk r c = some r') :
    Calls Tryz.prog 36 #[.pointer (some ⟨b, 0, none⟩), .int .u8 x] w fun e w' => e = .returned (.bool true) ∧ At B b r' w' ∧ Below B w w' := by
  subst hx; exact take_some B b k r r' c w h hi hk hB ht
theorem neg_world {g b : Nat} {st : Int} {neg : Bool} {v : Value} {ds : List UInt8} {beh : Int} {eneg : Bool} {exp : Int} {w0 W : World} (h : Held b b st neg v ds beh eneg exp W) (hR : Res4 g W) (hB : Below g w0 W) (hg : g < b) (x : Value) :
    Res4 g (W.setCell ⟨b, 5, none⟩ x) ∧ Below g w0 (W.setCell ⟨b, 5, none⟩ x) := by
  refine ⟨?_, hB.setCell (p := ⟨b, 5, none⟩) (Nat.le_of_lt hg) x⟩
  unfold Res4 at *
  rw [heap_setCell_other W ⟨b, 5, none⟩ g x (Nat.ne_of_lt hg)]
  exact hR
def endD (r : R) : Int := (if r.eneg = true then -(r.exp : Int) else (r.exp : Int)) - (r.beh : Int)
theorem held_min (y : Int) : max (-1000000) (min 1000000 y) = held y := by
  unfold held mostE; split <;> (try split) <;> omega
def Numbered (l : List UInt8) (w : World) (e : Ending) (w' : World) : Prop :=
  match scan l with
  | .inl p => Faulty p w e w'
  | .inr r => e = .returned (.tuple #[.agg #[.bool (nrm (toD r)).nar, .bool (nrm (toD r)).neg, .string (mkB (nrm (toD r)).ds), .int .i64 (nrm (toD r)).e], .nilIface]) ∧ Below w.heap.size w w'
set_option maxHeartbeats 1600000 in
set_option maxRecDepth 100000 in
theorem scan_num (s : ByteArray) (w : World) (h : s.size ≤ 4096) (hn : Lib.hasPrefix s.data.toList [110] = false) :
    Calls Tryz.prog 12 #[.string s] w fun e w' => Numbered s.data.toList w e w' := by
  have hb1 : decide (4096 < (s.size : Int)) = false := decide_eq_false (by omega)
  have hb2 : decide (4096 < s.size) = false := decide_eq_false (by omega)
  have hlen : s.data.toList.length = s.size := Array.length_toList
  have HL := Aside0.mk hlen
  have HP := Aside0.mk hn
  have HS := Aside0.mk h
  clear hn h hlen
  have HA0 : Aside0 (At (w.heap.size + 1) (w.heap.size + 1) r0 ((w.alloc (.cells emptyD 36)).alloc (.cells #[.int .i64 0, .bool false, .slice none 0 0, .int .i64 0, .bool false, .int .i64 0] 72))) := ⟨⟨.slice none 0 0, Nat.le_refl _, by
    have h2 := heap_alloc_new (w.alloc (.cells emptyD 36)) (.cells #[.int .i64 0, .bool false, .slice none 0 0, .int .i64 0, .bool false, .int .i64 0] 72)
    have e : (w.alloc (.cells emptyD 36)).heap.size = w.heap.size + 1 := by simp
    rw [e] at h2
    exact h2, World.ownsRow_nil _ _ _ _⟩⟩
  have HR0 : Aside0 (Res4 w.heap.size ((w.alloc (.cells emptyD 36)).alloc (.cells #[.int .i64 0, .bool false, .slice none 0 0, .int .i64 0, .bool false, .int .i64 0] 72))) := ⟨res4_below (res4_new w) ((Below.refl _ _).alloc (Nat.le_refl _) _)⟩
  go_enter Tryz.func12, Tryz.ntmps12
  go_wp2_with (go_at_call 34; refine (prefix_calls s _ HP.out _).mono ?_; rintro e w1 ⟨rfl, rfl⟩)
  go_loopw [43] (fun i w' => ∃ (v : Int) (r : R), 0 ≤ v ∧ v ≤ (s.size : Int) ∧ i = .int .i64 v ∧ Aside0 (run r0 0 s.data.toList = run r v.toNat (s.data.toList.drop v.toNat)) ∧ Aside0 (Inv v.toNat r) ∧ Aside0 (At (w.heap.size + 1) (w.heap.size + 1) r w') ∧ Aside0 (Res4 w.heap.size w') ∧ Aside0 (Below w.heap.size w w')) (fun i _ => (4100 - intOf i).toNat)
  case atStart =>
    exact ⟨0, r0, by omega, by omega, rfl, ⟨by simp⟩, ⟨inv0⟩, HA0, HR0, ⟨((Below.refl _ w).alloc (Nat.le_refl _) _).alloc (by simp) _⟩⟩
  case round =>
    obtain ⟨v, r, hv0, hv1, rfl, HRUN, HI, HAT, HR, HBJ⟩ := hrel
    clear HR0 HA0
    have HB := Aside0.mk (at_size HAT.out)
    by_cases hlt : v < (s.size : Int)
    · have d1 : decide (v < (s.size : Int)) = true := decide_eq_true hlt
      have p6 := eq_true hv0
      have q6 := eq_true hlt
      have hx6 := bt_at s v
      obtain ⟨hi, hbt⟩ := bt_list hv0 hlt
      have hdrop := List.drop_eq_getElem_cons hi
      obtain ⟨c, hc⟩ : ∃ c, c = s.data.toList[v.toNat]'hi := ⟨_, rfl⟩
      rw [← hc] at hbt hdrop
      have HD := Aside0.mk hdrop
      have HBT := Aside0.mk hbt
      have HS2 := Aside0.mk hlt
      clear hlt hbt hdrop hc
      cases ht : tk r c with
      | none =>
        have HT := Aside0.mk ht
        have HV := Aside0.mk hv0
        clear ht hv0 hv1
        go_wp2_with (first | (go_at_call 36; refine (take_none' HBT.out HAT.out HI.out HT.out).mono ?_; rintro e w1 ⟨rfl, hb⟩; have HR1 := Aside0.mk (res4_lt HR.out hb (Nat.lt_succ_self _)); have HB1 := Aside0.mk (HBJ.out.trans (hb.mono (Nat.le_succ _))); clear hb) | (go_at_call 35; refine (fault_calls _ _).mono ?_; rintro e w2 ⟨gf, rfl, hgf, hFf, hbf⟩; obtain ⟨k0, k1, k2, k3, k4, k5, k6, k7⟩ := res4_cells (res4_below (by exact HR1.out) hbf); have HF1 := Aside0.mk hgf; have HF2 := Aside0.mk hFf; have HF3 := Aside0.mk hbf; clear hgf hFf hbf))
        refine bodyPost_ret (results_ct rfl _ _ w.heap.size 36 emptyD (0, 0) _ rfl (put4_at (res4_below (by exact HR1.out) HF3.out) (.bool false) (.bool false) (.string (⟨#[]⟩ : ByteArray)) (.int .i64 0)) Tryz.underlying36 rfl (by kernel_rfl)) rfl ?_
        have hscan : scan s.data.toList = .inl v.toNat := by
          unfold scan
          rw [HRUN.out, HD.out, run, HT.out]
        unfold Numbered
        rw [hscan]
        refine faulty_of HB1.out HR1.out HF1.out ?_ HF3.out
        rw [Int.toNat_of_nonneg HV.out]
        exact HF2.out
      | some r' =>
        have HT := Aside0.mk ht
        clear ht
        go_wp2_with (go_at_call 36; refine (take_some' HBT.out HAT.out HI.out (by have := HS.out; have := HS2.out; omega) (Nat.le_of_lt HB.out) HT.out).mono ?_; rintro e w1 ⟨rfl, ha, hb⟩; have HA1 := Aside0.mk ha; have HR1 := Aside0.mk (res4_lt HR.out hb (Nat.lt_succ_self _)); have HB1 := Aside0.mk (HBJ.out.trans (hb.mono (Nat.le_succ _))); clear ha hb)
        go_roundw
        case rel =>
          have e1 : (v + 1).toNat = v.toNat + 1 := by omega
          refine ⟨v + 1, r', by omega, by have := HS2.out; omega, by first | rfl | rw [wrap_id (by omega) (by have := HS.out; omega)], ⟨?_⟩, ⟨?_⟩, HA1, HR1, HB1⟩
          · rw [HRUN.out, HD.out, run, HT.out, e1]
          · rw [e1]; exact HI.out.tk HT.out
        case measure => have hq := HS.out; have e9 := wrap_id (n := v + 1) (by omega) (by omega); simp only [intOf]; first | (rw [e9]; omega) | omega
    · have d1 : decide (v < (s.size : Int)) = false := decide_eq_false hlt
      have HE : Aside0 (run r0 0 s.data.toList = .inr r) := ⟨by
        rw [HRUN.out, List.drop_eq_nil_iff.2 (by rw [HL.out]; omega)]; rfl⟩
      have HZ : Aside0 (v.toNat = s.size) := ⟨by omega⟩
      clear hlt hv0 hv1
      cases hw : whole r with
      | false =>
        have HW := Aside0.mk hw
        clear hw
        have HR1 := HR
        go_wp2_with (first | (go_at_call 37; refine (whole_calls _ _ _ r _ HAT.out HI.out).mono ?_; rw [HW.out]; rintro e w1 ⟨rfl, rfl⟩) | (go_at_call 35; refine (fault_calls _ _).mono ?_; rintro e w2 ⟨gf, rfl, hgf, hFf, hbf⟩; obtain ⟨k0, k1, k2, k3, k4, k5, k6, k7⟩ := res4_cells (res4_below (by exact HR1.out) hbf); have HF1 := Aside0.mk hgf; have HF2 := Aside0.mk hFf; have HF3 := Aside0.mk hbf; clear hgf hFf hbf))
        refine bodyPost_ret (results_ct rfl _ _ w.heap.size 36 emptyD (0, 0) _ rfl (put4_at (res4_below (by exact HR1.out) HF3.out) (.bool false) (.bool false) (.string (⟨#[]⟩ : ByteArray)) (.int .i64 0)) Tryz.underlying36 rfl (by kernel_rfl)) rfl ?_
        have hscan : scan s.data.toList = .inl s.size := by
          unfold scan
          rw [HE.out]
          simp only [HW.out, Bool.false_eq_true, if_false, HL.out]
        unfold Numbered
        rw [hscan]
        exact faulty_of HBJ.out HR1.out HF1.out HF2.out HF3.out
      | true =>
        have HW := Aside0.mk hw
        clear hw
        have hscan : scan s.data.toList = .inr r := by
          unfold scan
          rw [HE.out]
          simp only [HW.out, if_true]
        have HSC := Aside0.mk hscan
        have hfm := formed_scan hscan (by rw [HL.out]; exact HS.out)
        have hds : r.ds ≠ [] := by
          have := hfm
          unfold formed toD at this
          simp only [Bool.false_eq_true, if_false, Bool.and_eq_true, Bool.not_eq_true', List.isEmpty_eq_false_iff] at this
          exact this.1
        have hbd := formed_bounds hfm
        have hexp := HI.out.exp
        have hbeh : r.beh ≤ 4096 := by
          have h1 := HI.out.beh
          have h2 := HI.out.len
          have h3 := HS.out
          have h4 := HZ.out
          omega
        have htr := scan_trim_ev (toD r) (by omega) hbd.2.1 hbd.2.2
        obtain ⟨va, hHeld⟩ := HAT.out
        obtain ⟨⟨gr, cap, rfl⟩, hcv⟩ := conv_own hHeld.2.2 hds
        obtain ⟨c0, c1, c2, c3, c4, c5, f0, f1, f2, f3, f4, f5, hblt⟩ := cells_of hHeld.2.1
        have HHELD := Aside0.mk hHeld
        clear hscan hfm hbd hHeld
        by_cases hE : r.eneg = true
        · rw [hE] at c4
          have hneg : wrap64 (-(r.exp : Int)) = -(r.exp : Int) := wrap_id (by unfold far at hexp; omega) (by unfold far at hexp; omega)
          have hnegw : IntKind.i64.wrap (-(r.exp : Int)) = -(r.exp : Int) := (i64_w _).trans hneg
          have hcv2 := (conv_own (HHELD.out.set_exp (-(r.exp : Int))).2.2 hds).2
          obtain ⟨qr1, qb1⟩ := neg_world HHELD.out HR.out HBJ.out (Nat.lt_succ_self _) (.int .i64 (-(r.exp : Int)))
          have HR1 := Aside0.mk qr1
          have HB1 := Aside0.mk qb1
          clear qr1 qb1
          have hyy : endD r = -(r.exp : Int) - (r.beh : Int) := by unfold endD; rw [hE]; rfl
          obtain ⟨y, hy⟩ : ∃ y : Int, y = -(r.exp : Int) - (r.beh : Int) := ⟨_, rfl⟩
          have hsub : wrap64 (-(r.exp : Int) - (r.beh : Int)) = y := by rw [hy]; exact wrap_id (by unfold far at hexp; omega) (by unfold far at hexp; omega)
          have hsubw : IntKind.i64.wrap (-(r.exp : Int) - (r.beh : Int)) = y := (i64_w _).trans hsub
          have hz : max (-1000000) (min 1000000 y) = held y := held_min y
          have HTR : Aside0 (scan_trim.f false r.neg (mkB r.ds) (max (-1000000) (min 1000000 y)) = some ((nrm (toD r)).nar, (nrm (toD r)).neg, mkB (nrm (toD r)).ds, (nrm (toD r)).e)) := ⟨by
            have h1 : (toD r).e = max (-1000000) (min 1000000 y) := by rw [hz, hy, ← hyy]; rfl
            rw [← h1]; exact htr⟩
          clear htr hy hyy hz hds hexp hbeh
          go_wp2_with (first | (go_at_call 37; refine (whole_calls _ _ _ r _ HAT.out HI.out).mono ?_; rw [HW.out]; rintro e w1 ⟨rfl, rfl⟩) | (go_at_call 38; refine (scan_trim.calls _ _ _ _ _ _ _ _ _ HTR.out).mono ?_; rintro e w3 ⟨rfl, hb3⟩; obtain ⟨k0, k1, k2, k3, k4, k5, k6, k7⟩ := res4_cells (res4_below (by exact HR1.out) hb3); have HF3 := Aside0.mk hb3; clear hb3))
          refine bodyPost_ret (results_ct rfl _ _ w.heap.size 36 #[.bool (nrm (toD r)).nar, .bool (nrm (toD r)).neg, .string (mkB (nrm (toD r)).ds), .int .i64 (nrm (toD r)).e] (0, 0) _ rfl (put4_at (res4_below (by exact HR1.out) HF3.out) _ _ _ _) Tryz.underlying36 rfl (by kernel_rfl)) rfl ?_
          unfold Numbered
          rw [HSC.out]
          exact ⟨rfl, put4_below (HB1.out.trans (HF3.out.mono (by have := HB1.out.size; exact this))) (Nat.le_refl _) _ _ _ _⟩
        · replace hE := Bool.eq_false_iff.2 hE
          rw [hE] at c4
          have HR1 := HR
          have HB1 := HBJ
          have hyy : endD r = (r.exp : Int) - (r.beh : Int) := by unfold endD; rw [hE]; rfl
          obtain ⟨y, hy⟩ : ∃ y : Int, y = (r.exp : Int) - (r.beh : Int) := ⟨_, rfl⟩
          have hsub : wrap64 ((r.exp : Int) - (r.beh : Int)) = y := by rw [hy]; exact wrap_id (by unfold far at hexp; omega) (by unfold far at hexp; omega)
          have hsubw : IntKind.i64.wrap ((r.exp : Int) - (r.beh : Int)) = y := (i64_w _).trans hsub
          have hz : max (-1000000) (min 1000000 y) = held y := held_min y
          have HTR : Aside0 (scan_trim.f false r.neg (mkB r.ds) (max (-1000000) (min 1000000 y)) = some ((nrm (toD r)).nar, (nrm (toD r)).neg, mkB (nrm (toD r)).ds, (nrm (toD r)).e)) := ⟨by
            have h1 : (toD r).e = max (-1000000) (min 1000000 y) := by rw [hz, hy, ← hyy]; rfl
            rw [← h1]; exact htr⟩
          clear htr hy hyy hz hds hexp hbeh
          go_wp2_with (first | (go_at_call 37; refine (whole_calls _ _ _ r _ HAT.out HI.out).mono ?_; rw [HW.out]; rintro e w1 ⟨rfl, rfl⟩) | (go_at_call 38; refine (scan_trim.calls _ _ _ _ _ _ _ _ _ HTR.out).mono ?_; rintro e w3 ⟨rfl, hb3⟩; obtain ⟨k0, k1, k2, k3, k4, k5, k6, k7⟩ := res4_cells (res4_below (by exact HR1.out) hb3); have HF3 := Aside0.mk hb3; clear hb3))
          refine bodyPost_ret (results_ct rfl _ _ w.heap.size 36 #[.bool (nrm (toD r)).nar, .bool (nrm (toD r)).neg, .string (mkB (nrm (toD r)).ds), .int .i64 (nrm (toD r)).e] (0, 0) _ rfl (put4_at (res4_below (by exact HR1.out) HF3.out) _ _ _ _) Tryz.underlying36 rfl (by kernel_rfl)) rfl ?_
          unfold Numbered
          rw [HSC.out]
          exact ⟨rfl, put4_below (HB1.out.trans (HF3.out.mono (by have := HB1.out.size; exact this))) (Nat.le_refl _) _ _ _ _⟩
end Go.Proofs.YthhkmpicpihjlaaGreatDoor.PSc
