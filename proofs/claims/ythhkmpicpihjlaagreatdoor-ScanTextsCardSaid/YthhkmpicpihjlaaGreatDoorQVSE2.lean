/- Layer 18, plain: the document's over, Formed and Normed answer as the lists' functions. -/
import Derived.Test.YthhkmpicpihjlaaGreatDoorQVPScx6
import Derived.Test.YthhkmpicpihjlaaGreatDoorQVPScx4
import Derived.Test.YthhkmpicpihjlaaGreatDoorQVSE1
set_option linter.unusedVariables false
set_option linter.unusedSimpArgs false
namespace Go.Proofs.YthhkmpicpihjlaaGreatDoor.PSc
open Go.RowKit Go.Proofs.YthhkmpicpihjlaaGreatDoorW.PrintWords Go.Proofs.YthhkmpicpihjlaaGreatDoorW.PrintLast Go.Proofs.YthhkmpicpihjlaaGreatDoorW.PrintMore Go.Proofs.YthhkmpicpihjlaaGreatDoor.SC
theorem dg_bt {c : UInt8} : dg c = true ↔ (48 ≤ (c.toNat : Int) ∧ (c.toNat : Int) ≤ 57) := by
  unfold dg; simp only [Bool.and_eq_true, decide_eq_true_iff]; omega
theorem over_l0 (l : List UInt8) (hl : l.length ≤ 9223372036854775807) : ∀ (d i : Nat), i + d = l.length → Ev (fun k => vernierref18_over.l0 k (mkB l) (i : Int)) ((i + ld (l.drop i) : Nat) : Int) := by
  intro d
  induction d with
  | zero =>
    intro i hi
    refine Ev.step (f := fun _ => some ((i + ld (l.drop i) : Nat) : Int)) (fun k => ?_) (Ev.now _)
    simp only [vernierref18_over.l0]
    rw [if_neg (by rw [mkB_size]; omega), List.drop_eq_nil_iff.2 (by omega)]
    rfl
  | succ d ih =>
    intro i hi
    have hlt : i < l.length := by omega
    have hb := bt_mk hlt
    have hd := List.drop_eq_getElem_cons hlt
    by_cases hc : dg (l[i]'hlt) = true
    · obtain ⟨h1, h2⟩ := dg_bt.1 hc
      have := ih (i + 1) (by omega)
      refine Ev.step (f := fun k => vernierref18_over.l0 k (mkB l) ((i + 1 : Nat) : Int)) (fun k => ?_) ?_
      · simp only [vernierref18_over.l0]
        rw [if_pos (by rw [mkB_size]; omega), if_pos (by omega), if_pos (by rw [hb]; omega), if_pos (by rw [hb]; omega), wrap_id (by omega) (by omega)]
        rfl
      · have e : i + ld (l.drop i) = i + 1 + ld (l.drop (i + 1)) := by rw [hd, ld, if_pos hc]; omega
        rw [e]; exact this
    · refine Ev.step (f := fun _ => some ((i + ld (l.drop i) : Nat) : Int)) (fun k => ?_) (Ev.now _)
      have e : i + ld (l.drop i) = i := by rw [hd, ld, if_neg hc]; rfl
      rw [e]
      simp only [vernierref18_over.l0]
      rw [if_pos (by rw [mkB_size]; omega), if_pos (by omega)]
      by_cases h1 : (bt (mkB l) (i : Int)) ≥ 48
      · rw [if_pos h1, if_neg]
        intro h2
        exact hc (dg_bt.2 ⟨by rw [hb] at h1; omega, by rw [hb] at h2; omega⟩)
      · rw [if_neg h1]
theorem over_ev (l : List UInt8) (i : Nat) (hi : i ≤ l.length) (hl : l.length ≤ 9223372036854775807) : Ev (fun k => vernierref18_over.f k (mkB l) (i : Int)) ((i + ld (l.drop i) : Nat) : Int) :=
  over_l0 l hl (l.length - i) i (by omega)
theorem ld_eq {l : List UInt8} : ld l = l.length ↔ l.all dg = true := by
  induction l with
  | nil => simp [ld]
  | cons c l ih =>
    by_cases hc : dg c = true
    · rw [ld, if_pos hc, List.length_cons, List.all_cons, hc, Bool.true_and, ← ih]; omega
    · rw [ld, if_neg hc, List.length_cons, List.all_cons, Bool.eq_false_iff.2 hc]; simp
theorem Formed_ev (d : D) (hl : d.ds.length ≤ 9223372036854775807) : Ev (fun k => vernierref18_Formed.f k d.nar d.neg (mkB d.ds) d.e) (formed d) := by
  obtain ⟨nar, neg, ds, e⟩ := d
  simp only at hl
  unfold formed
  cases nar with
  | true =>
    refine Ev.congr (f := fun _ => some (!neg && (ds.isEmpty && decide (e = 0)))) (fun k => ?_) (Ev.now _)
    simp only [vernierref18_Formed.f, if_true, mkB_toList]
    cases neg with
    | true => rfl
    | false =>
      simp only [Bool.false_eq_true, if_false]
      by_cases h0 : ds = []
      · rw [if_pos h0]; subst h0; rfl
      · rw [if_neg h0, List.isEmpty_eq_false_iff.2 h0]; rfl
  | false =>
    have ho := over_ev ds 0 (Nat.zero_le _) hl
    rw [Nat.zero_add, List.drop_zero] at ho
    refine Ev.congr (f := fun k => (vernierref18_over.f k (mkB ds) 0).bind fun t => (if (mkB ds).toList = ([] : List UInt8) then (some false) else (if ((mkB ds).size : Int) ≤ 4096 then (if t = ((mkB ds).size : Int) then (if e ≥ (-1000000) then (some (decide (e ≤ 1000000))) else (some false)) else (some false)) else (some false)))) (fun k => ?_) ?_
    · simp only [vernierref18_Formed.f, Bool.false_eq_true, if_false]
    · refine Ev.bind ho ?_
      refine Ev.congr (fun k => ?_) (Ev.now _)
      simp only [Bool.false_eq_true, if_false, mkB_toList, mkB_size]
      have hm : mostE = 1000000 := rfl
      by_cases h0 : ds = []
      · rw [if_pos h0]; subst h0; rfl
      · rw [if_neg h0, List.isEmpty_eq_false_iff.2 h0]
        by_cases h1 : (ds.length : Int) ≤ 4096
        · rw [if_pos h1, decide_eq_true (by omega : ds.length ≤ 4096)]
          by_cases h2 : ds.all dg = true
          · rw [if_pos (by rw [ld_eq.2 h2]), h2]
            by_cases h3 : e ≥ -1000000
            · rw [if_pos h3, decide_eq_true (by omega : -mostE ≤ e)]
              rfl
            · rw [if_neg h3, decide_eq_false (by omega : ¬ -mostE ≤ e)]
              rfl
          · rw [if_neg (fun h => h2 (ld_eq.1 (by omega))), Bool.eq_false_iff.2 h2]
            rfl
        · rw [if_neg h1, decide_eq_false (by omega : ¬ ds.length ≤ 4096)]
          rfl
theorem normed_l1 (nar neg : Bool) : ∀ (n : Nat) (l : List UInt8) (e : Int), n = min (tz l) (mostE - e).toNat → hd (· == 48) l = false → l ≠ [] → l.length ≤ 9223372036854775807 → -1000000 ≤ e → e ≤ 1000000 →
    Ev (fun k => vernierref18_Normed.l1 k nar neg (mkB l) e) (nar, neg, mkB (l.take (l.length - n)), e + n) := by
  intro n
  induction n with
  | zero =>
    intro l e hn hh h0 hl he1 he2
    have hp := List.length_pos_iff.2 h0
    have hm : mostE = 1000000 := rfl
    refine Ev.step (f := fun _ => some (nar, neg, mkB (l.take (l.length - 0)), e + ((0 : Nat) : Int))) (fun k => ?_) (Ev.now _)
    simp only [vernierref18_Normed.l1]
    rw [Nat.sub_zero, List.take_length, show e + ((0 : Nat) : Int) = e by omega, mkB_size, wrap_id (by omega) (by omega), if_pos (by omega), if_pos (by omega)]
    by_cases hz : tz l = 0
    · have hlast : l.getLast? ≠ some 48 := by
        intro h
        rcases List.eq_nil_or_concat l with h2 | ⟨q, c, rfl⟩
        · exact h0 h2
        · have hc : c = 48 := by simpa using h
          subst hc
          have h3 := rz_le q
          unfold tz at hz
          rw [List.concat_eq_append, rz_snoc, List.length_append] at hz
          simp at hz
          omega
      rw [if_neg]
      intro hb
      apply hlast
      have e1 : ((l.length : Int) - 1) = ((l.length - 1 : Nat) : Int) := by omega
      rw [e1, bt_mk (by omega : l.length - 1 < l.length)] at hb
      rw [List.getLast?_eq_getElem?, List.getElem?_eq_getElem (by omega : l.length - 1 < l.length)]
      congr 1
      exact UInt8.toNat_inj.1 (by have : (48 : UInt8).toNat = 48 := rfl; omega)
    · have : ¬ e < 1000000 := by omega
      by_cases hb : bt (mkB l) ((l.length : Int) - 1) = 48
      · rw [if_pos hb, if_neg this]
      · rw [if_neg hb]
  | succ n ih =>
    intro l e hn hh h0 hl he1 he2
    have hp := List.length_pos_iff.2 h0
    have hm : mostE = 1000000 := rfl
    have hz : tz l ≠ 0 := by omega
    obtain ⟨q, c, rfl⟩ : ∃ q c, l = q ++ [c] := by
      rcases List.eq_nil_or_concat l with h2 | ⟨q, c, h2⟩
      · exact absurd h2 h0
      · exact ⟨q, c, by rw [h2, List.concat_eq_append]⟩
    have hc : c = 48 := by
      by_cases hc : c = 48
      · exact hc
      · exact absurd (tz_last (by simpa using hc)) hz
    subst hc
    have hq0 : q ≠ [] := by
      rintro rfl
      simp [hd] at hh
    have hlen : (q ++ [48]).length = q.length + 1 := by simp
    have htz : tz (q ++ [48]) = tz q + 1 := by
      have := rz_le q
      unfold tz; rw [rz_snoc, hlen]; omega
    have hq : hd (· == 48) q = false := by
      cases q with
      | nil => exact absurd rfl hq0
      | cons a q => exact hh
    have key := ih q (e + 1) (by rw [htz] at hn; omega) hq hq0 (by omega) (by omega) (by rw [htz] at hn; omega)
    have hb : bt (mkB (q ++ [48])) (((q ++ [48]).length : Int) - 1) = 48 := by
      have e1 : (((q ++ [48]).length : Int) - 1) = (q.length : Int) := by rw [hlen]; omega
      rw [e1, bt_mk (by rw [hlen]; omega)]
      simp
    have ew : wrap64 (((q ++ [48]).length : Int) - 1) = ((q ++ [48]).length : Int) - 1 := wrap_id (by omega) (by omega)
    refine Ev.step (f := fun k => vernierref18_Normed.l1 k nar neg (mkB q) (e + 1)) (fun k => ?_) ?_
    · simp only [vernierref18_Normed.l1]
      rw [mkB_size, ew, if_pos (by omega), if_pos (by omega), if_pos hb, if_pos (by omega), if_pos (by omega), wrap_id (n := e + 1) (by omega) (by omega)]
      have e2 : (((q ++ [48]).length : Int) - 1).toNat = q.length := by rw [hlen]; omega
      rw [e2, mkB_take _ _ (by rw [hlen]; omega), List.take_left' rfl]
    · have e3 : (q ++ [48]).take ((q ++ [48]).length - (n + 1)) = q.take (q.length - n) := by
        rw [hlen, show q.length + 1 - (n + 1) = q.length - n by omega, List.take_append_of_le_length (by omega)]
      rw [e3, show e + ((n + 1 : Nat) : Int) = e + 1 + (n : Int) by omega]
      exact key
theorem normed_l0 (neg : Bool) (e : Int) (ds : List UInt8) (hl : ds.length ≤ 9223372036854775807) (he1 : -1000000 ≤ e) (he2 : e ≤ 1000000) : ∀ (d i : Nat), i + d = ds.length → lz (ds.drop i) = lz ds →
    Ev (fun k => vernierref18_Normed.l0 k (i : Int) false neg (mkB ds) e) (flatD (nrm ⟨false, neg, ds, e⟩)) := by
  have stop : ∀ i : Nat, i ≤ ds.length → ds.drop i = lz ds → Ev (fun k => vernierref18_Normed.j1 k (i : Int) false neg (mkB ds) e) (flatD (nrm ⟨false, neg, ds, e⟩)) := by
    intro i hi hd
    unfold flatD nrm
    simp only [Bool.false_eq_true, if_false]
    by_cases h0 : lz ds = []
    · rw [if_pos h0]
      have : i = ds.length := by rw [h0, List.drop_eq_nil_iff] at hd; omega
      refine Ev.step (f := fun _ => some (false, false, mkB [48], 0)) (fun k => ?_) (Ev.now _)
      simp only [vernierref18_Normed.j1]
      rw [if_pos (by rw [mkB_size, this])]
      rfl
    · rw [if_neg h0]
      have hne : ¬ (i : Int) = ((mkB ds).size : Int) := by
        intro h
        rw [mkB_size] at h
        apply h0
        rw [← hd, List.drop_eq_nil_iff]; omega
      have hll := lz_le ds
      refine Ev.step (f := fun k => vernierref18_Normed.l1 k false neg (mkB (lz ds)) e) (fun k => ?_) (normed_l1 false neg _ (lz ds) e rfl (lz_hd' ds) h0 (by omega) he1 he2)
      simp only [vernierref18_Normed.j1]
      rw [if_neg hne, if_pos (by omega), if_pos (by rw [mkB_size]; omega), Int.toNat_natCast, mkB_drop, hd]
  intro d
  induction d with
  | zero =>
    intro i hi hz
    have hn : ds.drop i = [] := List.drop_eq_nil_iff.2 (by omega)
    refine Ev.step (f := fun k => vernierref18_Normed.j1 k (i : Int) false neg (mkB ds) e) (fun k => ?_) (stop i (by omega) (by rw [← hz, hn]; rfl))
    simp only [vernierref18_Normed.l0]
    rw [if_neg (by rw [mkB_size]; omega)]
  | succ d ih =>
    intro i hi hz
    have hlt : i < ds.length := by omega
    have hb := bt_mk hlt
    have hdr := List.drop_eq_getElem_cons hlt
    by_cases hc : ds[i]'hlt = 48
    · have hc2 : bt (mkB ds) (i : Int) = 48 := by rw [hb, hc]; rfl
      refine Ev.step (f := fun k => vernierref18_Normed.l0 k ((i + 1 : Nat) : Int) false neg (mkB ds) e) (fun k => ?_) (ih (i + 1) (by omega) ?_)
      · simp only [vernierref18_Normed.l0]
        rw [if_pos (by rw [mkB_size]; omega), if_pos (by omega), if_pos hc2, wrap_id (by omega) (by omega)]
        rfl
      · rw [← hz, hdr, hc]
        have := lz_noughts 1 (ds.drop (i + 1))
        simpa using this.symm
    · have hc2 : ¬ bt (mkB ds) (i : Int) = 48 := by
        intro h
        rw [hb] at h
        exact hc (UInt8.toNat_inj.1 (by have : (48 : UInt8).toNat = 48 := rfl; omega))
      have hcb : ((ds[i]'hlt) == 48) = false := beq_eq_false_iff_ne.2 hc
      refine Ev.step (f := fun k => vernierref18_Normed.j1 k (i : Int) false neg (mkB ds) e) (fun k => ?_) (stop i (by omega) ?_)
      · simp only [vernierref18_Normed.l0]
        rw [if_pos (by rw [mkB_size]; omega), if_pos (by omega), if_neg hc2]
      · rw [← hz]
        exact (lz_hd (by rw [hdr]; exact hcb)).symm
theorem Normed_ev (d : D) (hl : d.ds.length ≤ 9223372036854775807) (he1 : -1000000 ≤ d.e) (he2 : d.e ≤ 1000000) : Ev (fun k => vernierref18_Normed.f k d.nar d.neg (mkB d.ds) d.e) (flatD (nrm d)) := by
  obtain ⟨nar, neg, ds, e⟩ := d
  cases nar with
  | true =>
    refine Ev.congr (fun k => ?_) (Ev.now _)
    simp only [vernierref18_Normed.f, if_true]
    rfl
  | false =>
    refine Ev.congr (f := fun k => vernierref18_Normed.l0 k ((0 : Nat) : Int) false neg (mkB ds) e) (fun k => ?_) (normed_l0 neg e ds hl he1 he2 ds.length 0 (by omega) (by rw [List.drop_zero]))
    simp only [vernierref18_Normed.f, Bool.false_eq_true, if_false]
    rfl
end Go.Proofs.YthhkmpicpihjlaaGreatDoor.PSc
