/- Layer 18, plain: the document's Scan answers as the lists' function. -/
import Derived.Test.YthhkmpicpihjlaaGreatDoorQUPScx5
import Derived.Test.YthhkmpicpihjlaaGreatDoorQUSE2
import Derived.Test.YthhkmpicpihjlaaGreatDoorQUGScanW
set_option linter.unusedVariables false
set_option linter.unusedSimpArgs false
namespace Go.Proofs.YthhkmpicpihjlaaGreatDoor.PSc
open Go.RowKit Go.Proofs.YthhkmpicpihjlaaGreatDoorW.PrintWords Go.Proofs.YthhkmpicpihjlaaGreatDoorW.PrintLast Go.Proofs.YthhkmpicpihjlaaGreatDoorW.PrintMore Go.Proofs.YthhkmpicpihjlaaGreatDoor.SC Go.Proofs.YthhkmpicpihjlaaGreatDoor.SR
abbrev RT : Type := Bool × Bool × ByteArray × Int × Int × Int
def badT (p : Nat) : RT := (false, false, mkB [], 0, 14, (p : Int))
def okT (d : D) : RT := (d.nar, d.neg, mkB d.ds, d.e, 0, 0)
def outT (l : List UInt8) : RT :=
  match scanF l with
  | .long => (false, false, mkB [], 0, 13, 0)
  | .bad p => badT p
  | .ok d => okT d
theorem word_l0 (l : List UInt8) (hl : l.length ≤ 4096) : ∀ (d v : Nat), v + d = wordAt l → Ev (fun k => vernierref18_word.l0 k (mkB l) wordB (v : Int)) (if wordAt l < 3 ∨ 3 < l.length then badT (wordAt l) else (true, false, mkB [], 0, 0, 0)) := by
  obtain ⟨sp1, sp2⟩ := wordAt_spec l
  obtain ⟨le1, le2⟩ := wordAt_le l
  have hw3 : (wordB.size : Int) = 3 := rfl
  intro d
  induction d with
  | zero =>
    intro v hv
    obtain rfl : v = wordAt l := by omega
    refine Ev.step (f := fun _ => some (if wordAt l < 3 ∨ 3 < l.length then badT (wordAt l) else (true, false, mkB [], 0, 0, 0))) (fun k => ?_) (Ev.now _)
    simp only [vernierref18_word.l0, mkB_size, hw3]
    by_cases h1 : wordAt l < l.length
    · rw [if_pos (by omega)]
      by_cases h2 : wordAt l < 3
      · rw [if_pos (by omega), if_pos (by omega), if_neg (sp2 h2 h1), if_pos (.inl h2)]
        rfl
      · rw [if_neg (by omega), if_pos (by omega), if_pos (.inr (by omega))]
        rfl
    · rw [if_neg (by omega)]
      by_cases h2 : wordAt l < 3
      · rw [if_pos (by omega), if_pos (.inl h2)]
        rfl
      · rw [if_neg (by omega), if_neg (by omega), if_neg (by omega)]
        rfl
  | succ d ih =>
    intro v hv
    obtain ⟨h1, h2⟩ := sp1 v (by omega)
    refine Ev.step (f := fun k => vernierref18_word.l0 k (mkB l) wordB ((v + 1 : Nat) : Int)) (fun k => ?_) (ih (v + 1) (by omega))
    simp only [vernierref18_word.l0, mkB_size, hw3]
    rw [if_pos (by omega), if_pos (by omega), if_pos (by omega), if_pos h2, wrap_id (by omega) (by omega)]
    rfl
theorem isOne_ev (l : List UInt8) (i : Nat) (a b : Int) (p : UInt8 → Bool) (hp : ∀ c : UInt8, p c = (if (c.toNat : Int) = a then true else ((c.toNat : Int) == b))) : vernierref18_isOne.f (mkB l) (i : Int) a b = some (hd p (l.drop i)) := by
  unfold vernierref18_isOne.f
  by_cases h : i < l.length
  · rw [if_pos (by rw [mkB_size]; omega), if_pos (by omega), bt_mk h, List.drop_eq_getElem_cons h]
    simp only [hd]
    rw [hp]
    split <;> rfl
  · rw [if_neg (by rw [mkB_size]; omega), List.drop_eq_nil_iff.2 (by omega)]
    rfl
theorem p_sg (c : UInt8) : sg c = (if (c.toNat : Int) = 43 then true else ((c.toNat : Int) == 45)) := by
  have h : ∀ n : Fin 256, sg (UInt8.ofNat n.val) = (if ((UInt8.ofNat n.val).toNat : Int) = 43 then true else (((UInt8.ofNat n.val).toNat : Int) == 45)) := by decide +kernel
  have := h ⟨c.toNat, c.toNat_lt⟩
  simpa using this
theorem p_eb (c : UInt8) : eb c = (if (c.toNat : Int) = 101 then true else ((c.toNat : Int) == 69)) := by
  have h : ∀ n : Fin 256, eb (UInt8.ofNat n.val) = (if ((UInt8.ofNat n.val).toNat : Int) = 101 then true else (((UInt8.ofNat n.val).toNat : Int) == 69)) := by decide +kernel
  have := h ⟨c.toNat, c.toNat_lt⟩
  simpa using this
theorem p_dot (c : UInt8) : (c == 46) = (if (c.toNat : Int) = 46 then true else ((c.toNat : Int) == 46)) := by
  have h : ∀ n : Fin 256, ((UInt8.ofNat n.val) == 46) = (if ((UInt8.ofNat n.val).toNat : Int) = 46 then true else (((UInt8.ofNat n.val).toNat : Int) == 46)) := by decide +kernel
  have := h ⟨c.toNat, c.toNat_lt⟩
  simpa using this
theorem power_l0 (E : List UInt8) (hE : E.all dg = true) (hl : E.length ≤ 4096) : ∀ (d i acc : Nat), i + d = E.length → acc ≤ far → Ev (fun k => vernierref18_power.l0 k (mkB E) (acc : Int) (i : Int)) (((E.drop i).foldl ex acc : Nat) : Int) := by
  intro d
  induction d with
  | zero =>
    intro i acc hi ha
    refine Ev.step (f := fun _ => some ((acc : Nat) : Int)) (fun k => ?_) ?_
    · simp only [vernierref18_power.l0]
      rw [if_neg (by rw [mkB_size]; omega)]
    · rw [List.drop_eq_nil_iff.2 (by omega)]
      exact Ev.now _
  | succ d ih =>
    intro i acc hi ha
    have hlt : i < E.length := by omega
    have hb := bt_mk hlt
    have hdg := List.all_eq_true.1 hE _ (List.getElem_mem hlt)
    obtain ⟨h1, h2⟩ := dg_bt.1 hdg
    have hf : far = 100000000 := rfl
    have hx : ex acc (E[i]'hlt) ≤ far := Nat.min_le_right _ _
    have e1 : wrap64 (wrap64 (10 * (acc : Int)) + ((bt (mkB E) (i : Int)) - 48) % 256) = 10 * (acc : Int) + (((E[i]'hlt).toNat : Int) - 48) := by
      rw [hb, wrap_id (n := 10 * (acc : Int)) (by omega) (by omega), Int.emod_eq_of_lt (by omega) (by omega)]
      exact wrap_id (by omega) (by omega)
    rw [List.drop_eq_getElem_cons hlt, List.foldl_cons]
    refine Ev.step (f := fun k => vernierref18_power.l0 k (mkB E) ((ex acc (E[i]'hlt) : Nat) : Int) ((i + 1 : Nat) : Int)) (fun k => ?_) (ih (i + 1) _ (by omega) hx)
    simp only [vernierref18_power.l0]
    rw [if_pos (by rw [mkB_size]; omega), if_pos (by omega), e1, wrap_id (n := (i : Int) + 1) (by omega) (by omega)]
    by_cases hg : 10 * (acc : Int) + (((E[i]'hlt).toNat : Int) - 48) > 100000000
    · rw [if_pos hg]
      have : ((ex acc (E[i]'hlt) : Nat) : Int) = 100000000 := by unfold ex far; omega
      rw [this]; rfl
    · rw [if_neg hg]
      have : ((ex acc (E[i]'hlt) : Nat) : Int) = 10 * (acc : Int) + (((E[i]'hlt).toNat : Int) - 48) := by unfold ex far; omega
      rw [this]; rfl
theorem power_ev (E : List UInt8) (hE : E.all dg = true) (hl : E.length ≤ 4096) : Ev (fun k => vernierref18_power.f k (mkB E)) ((E.foldl ex 0 : Nat) : Int) := by
  have := power_l0 E hE hl E.length 0 0 (by omega) (by decide)
  rw [List.drop_zero] at this
  exact this
theorem held_f (x : Int) : vernierref18_held.f x = some (held x) := by
  unfold vernierref18_held.f held mostE
  split
  · rfl
  · split
    · rfl
    · rfl
def outR (x : Nat ⊕ R) : RT :=
  match x with
  | .inl p => badT p
  | .inr r => okT (nrm (toD r))
theorem fold_le (E : List UInt8) (acc : Nat) (h : acc ≤ far) : E.foldl ex acc ≤ far := by
  induction E generalizing acc with
  | nil => exact h
  | cons c E ih => exact ih _ (Nat.min_le_right _ _)
theorem ref_j4 (l : List UInt8) (hl : l.length ≤ 4096) (h0 : l ≠ []) (r : R) (hneg : r.neg = hd (· == 45) l) (hds : r.ds.length ≤ 4096) (hbeh : r.beh ≤ 4096) (hexp : r.exp ≤ far) (x : Int) (hx : x = if r.eneg = true then -(r.exp : Int) else (r.exp : Int)) (e : Nat) (he : e ≤ l.length) :
    Ev (fun k => vernierref18_Scan.j4 k (mkB l) (e : Int) (mkB r.ds) (r.beh : Int) x) (outR (if e < l.length then .inl e else .inr r)) := by
  have hp := List.length_pos_iff.2 h0
  have hf : far = 100000000 := rfl
  by_cases h1 : e < l.length
  · rw [if_pos h1]
    refine Ev.step (f := fun _ => some (badT e)) (fun k => ?_) (Ev.now _)
    simp only [vernierref18_Scan.j4]
    rw [if_pos (by rw [mkB_size]; omega)]
    rfl
  · rw [if_neg h1]
    have hb := held_bound (x - (r.beh : Int))
    have hxb : -100000000 ≤ x ∧ x ≤ 100000000 := by rw [hx]; split <;> omega
    have hneg2 : (bt (mkB l) 0 == 45) = r.neg := by
      rw [hneg]
      cases l with
      | nil => exact absurd rfl h0
      | cons c l =>
        rw [bt_mk0]
        have h : ∀ n : Fin 256, (((UInt8.ofNat n.val).toNat : Int) == 45) = ((UInt8.ofNat n.val) == 45) := by decide +kernel
        have := h ⟨c.toNat, c.toNat_lt⟩
        simpa [hd] using this
    have hN := Normed_ev ⟨false, r.neg, r.ds, held (x - (r.beh : Int))⟩ (by show r.ds.length ≤ _; omega) hb.1 hb.2
    have hD : toD r = ⟨false, r.neg, r.ds, held (x - (r.beh : Int))⟩ := by unfold toD; rw [hx]
    refine Ev.step (f := fun k => (vernierref18_Normed.f k false r.neg (mkB r.ds) (held (x - (r.beh : Int)))).bind fun bt141 => (some (bt141.1, bt141.2.1, bt141.2.2.1, bt141.2.2.2, 0, 0))) (fun k => ?_) ?_
    · simp only [vernierref18_Scan.j4]
      rw [if_neg (by rw [mkB_size]; omega), if_pos (by rw [mkB_size]; omega), wrap_id (by omega) (by omega), held_f]
      simp only [Option.bind_some]
      rw [hneg2]
    · refine Ev.bind hN ?_
      show Ev _ (okT (nrm (toD r)))
      rw [hD]
      exact Ev.now _
theorem ext_drop (l : List UInt8) (a n : Nat) (h : a + n ≤ l.length) : (mkB l).extract a (a + n) = mkB ((l.drop a).take n) := by
  rw [mkB_ext l a (a + n) h, List.drop_take, Nat.add_sub_cancel_left]
set_option maxHeartbeats 1000000 in
theorem ref_j3 (l : List UInt8) (hl : l.length ≤ 4096) (r : R) (hneg : r.neg = hd (· == 45) l) (hds : r.ds.length ≤ 4096) (hbeh : r.beh ≤ 4096) (hexp : r.exp = 0) (e f : Nat) (hf : f = if hd sg (l.drop (e + 1)) = true then 1 else 0) (he : e + 1 + f ≤ l.length) :
    Ev (fun k => vernierref18_Scan.j3 k (mkB l) (e : Int) (mkB r.ds) (r.beh : Int) ((e + 1 + f : Nat) : Int)) (outR (tailE r (e + 1) (l.drop (e + 1)))) := by
  have ho := over_ev l (e + 1 + f) he (by omega)
  have hld := ld_le (l.drop (e + 1 + f))
  rw [List.length_drop] at hld
  have htk := take_ld (l.drop (e + 1 + f))
  unfold tailE
  simp only [← hf, List.drop_drop, List.length_drop]
  obtain ⟨n, hn⟩ : ∃ n, n = ld (l.drop (e + 1 + f)) := ⟨_, rfl⟩
  rw [← hn] at ho hld htk ⊢
  refine Ev.step (fun k => rfl) ?_
  simp only [vernierref18_Scan.j3]
  refine Ev.bind ho ?_
  by_cases hz : n = 0
  · rw [if_pos hz]
    have c : ((e + 1 + f + n : Nat) : Int) = ((e + 1 + f : Nat) : Int) := by omega
    simp only [if_pos c]
    refine Ev.congr (fun k => ?_) (Ev.now _)
    show some _ = some (badT (e + 1 + f))
    rw [c]; rfl
  · rw [if_neg hz]
    have h0 : l ≠ [] := List.length_pos_iff.1 (by omega)
    have c1 : ¬ ((e + 1 + f + n : Nat) : Int) = ((e + 1 + f : Nat) : Int) := by omega
    have c2 : (0 : Int) ≤ ((e + 1 + f : Nat) : Int) := by omega
    have c3 : ((e + 1 + f : Nat) : Int) ≤ ((e + 1 + f + n : Nat) : Int) := by omega
    have c4 : ((e + 1 + f + n : Nat) : Int) ≤ ((mkB l).size : Int) := by rw [mkB_size]; omega
    have c5 : (0 : Int) ≤ ((e + 1 : Nat) : Int) := Int.natCast_nonneg _
    have c6 : ((e + 1 : Nat) : Int) < ((mkB l).size : Int) := by rw [mkB_size]; exact Int.ofNat_lt.2 (by omega)
    have hw : wrap64 ((e : Int) + 1) = ((e + 1 : Nat) : Int) := wrap_id (by omega) (by omega)
    simp only [if_neg c1, if_pos c2, if_pos c3, if_pos c4, hw, if_pos c5, if_pos c6, Int.toNat_natCast]
    clear hw c1 c2 c3 c4 c5 c6
    rw [ext_drop l (e + 1 + f) n (by omega)]
    refine Ev.bind (power_ev _ htk (by rw [List.length_take, List.length_drop]; omega)) ?_
    obtain ⟨E, hE⟩ : ∃ E, E = ((l.drop (e + 1 + f)).take n).foldl ex 0 := ⟨_, rfl⟩
    have hEl : E ≤ far := by rw [hE]; exact fold_le _ 0 (by decide)
    rw [hexp, ← hE]
    have hfar : far = 100000000 := rfl
    have hlt : e + 1 < l.length := by omega
    have hsgn : (bt (mkB l) ((e + 1 : Nat) : Int) = 45) ↔ hd (· == 45) (l.drop (e + 1)) = true := by
      have := hd_drop_bt l (e + 1) 45
      rw [this]
      exact ⟨fun h => ⟨hlt, h⟩, fun h => h.2⟩
    have hlen : e + 1 + (f + n) = e + 1 + f + n := by omega
    have ho2 : outR (if f + n < l.length - (e + 1) then .inl (e + 1 + f + n) else .inr { r with st := 8, eneg := hd (· == 45) (l.drop (e + 1)), exp := E }) = outR (if e + 1 + f + n < l.length then .inl (e + 1 + f + n) else .inr { r with st := 8, eneg := hd (· == 45) (l.drop (e + 1)), exp := E }) := by
      by_cases hq : e + 1 + f + n < l.length
      · rw [if_pos hq, if_pos (by omega)]
      · rw [if_neg hq, if_neg (by omega)]
    rw [ho2]
    by_cases hs : hd (· == 45) (l.drop (e + 1)) = true
    · simp only [if_pos (hsgn.2 hs)]
      have hx : wrap64 (-(E : Int)) = -(E : Int) := wrap_id (by omega) (by omega)
      rw [hx]
      exact ref_j4 l hl h0 { r with st := 8, eneg := hd (· == 45) (l.drop (e + 1)), exp := E } hneg hds hbeh hEl _ (by simp only [hs, if_true]) _ (by omega)
    · simp only [if_neg (fun h => hs (hsgn.1 h))]
      exact ref_j4 l hl h0 { r with st := 8, eneg := hd (· == 45) (l.drop (e + 1)), exp := E } hneg hds hbeh hEl _ (by simp only [hs, if_false, Bool.false_eq_true]) _ (by omega)
theorem ref_j2 (l : List UInt8) (hl : l.length ≤ 4096) (h0 : l ≠ []) (r : R) (hneg : r.neg = hd (· == 45) l) (hds : r.ds.length ≤ 4096) (hbeh : r.beh ≤ 4096) (hexp : r.exp = 0) (hen : r.eneg = false) (e : Nat) (he : e ≤ l.length) :
    Ev (fun k => vernierref18_Scan.j2 k (mkB l) (e : Int) (mkB r.ds) (r.beh : Int)) (outR (tailD r e (l.drop e))) := by
  have h1 := isOne_ev l e 101 69 eb p_eb
  unfold tailD
  refine Ev.step (fun k => rfl) ?_
  simp only [vernierref18_Scan.j2]
  rw [h1]
  simp only [Option.bind_some]
  by_cases hb : hd eb (l.drop e) = true
  · have hlt : e < l.length := by
      rcases Nat.lt_or_ge e l.length with h | h
      · exact h
      · rw [List.drop_eq_nil_iff.2 h] at hb; cases hb
    have hw : wrap64 ((e : Int) + 1) = ((e + 1 : Nat) : Int) := wrap_id (by omega) (by omega)
    have h2 := isOne_ev l (e + 1) 43 45 sg p_sg
    rw [if_pos hb, List.drop_drop]
    simp only [if_pos hb, hw]
    rw [h2]
    simp only [Option.bind_some]
    by_cases hs : hd sg (l.drop (e + 1)) = true
    · have hlt2 : e + 1 < l.length := by
        rcases Nat.lt_or_ge (e + 1) l.length with h | h
        · exact h
        · rw [List.drop_eq_nil_iff.2 h] at hs; cases hs
      have hw2 : wrap64 (((e + 1 : Nat) : Int) + 1) = ((e + 1 + 1 : Nat) : Int) := wrap_id (by omega) (by omega)
      simp only [if_pos hs, hw2]
      exact ref_j3 l hl r hneg hds hbeh hexp e 1 (by rw [if_pos hs]) (by omega)
    · simp only [if_neg hs]
      exact ref_j3 l hl r hneg hds hbeh hexp e 0 (by rw [if_neg hs]) (by omega)
  · rw [if_neg hb]
    simp only [if_neg hb]
    have := ref_j4 l hl h0 r hneg hds hbeh (by rw [hexp]; decide) 0 (by rw [hen, hexp]; rfl) e he
    have e1 : (if 0 < (l.drop e).length then (.inl e : Nat ⊕ R) else .inr r) = (if e < l.length then .inl e else .inr r) := by
      rw [List.length_drop]
      by_cases hq : e < l.length
      · rw [if_pos hq, if_pos (by omega)]
      · rw [if_neg hq, if_neg (by omega)]
    rw [e1]
    exact this
theorem ref_j1 (l : List UInt8) (hl : l.length ≤ 4096) (r : R) (hneg : r.neg = hd (· == 45) l) (hds : r.ds = []) (hbeh : r.beh = 0) (hexp : r.exp = 0) (hen : r.eneg = false) (b : Nat) (hb : b ≤ l.length) :
    Ev (fun k => vernierref18_Scan.j1 k (mkB l) (b : Int)) (outR (begin_ r b (l.drop b))) := by
  have ho := over_ev l b hb (by omega)
  have hld := ld_le (l.drop b)
  rw [List.length_drop] at hld
  unfold begin_
  obtain ⟨n, hn⟩ : ∃ n, n = ld (l.drop b) := ⟨_, rfl⟩
  rw [← hn] at ho hld ⊢
  refine Ev.step (fun k => rfl) ?_
  simp only [vernierref18_Scan.j1]
  refine Ev.bind ho ?_
  by_cases hz : n = 0
  · rw [if_pos hz]
    have c : ((b + n : Nat) : Int) = (b : Int) := by omega
    simp only [if_pos c]
    refine Ev.congr (fun k => ?_) (Ev.now _)
    show some _ = some (badT b)
    rw [c]; rfl
  · rw [if_neg hz, List.drop_drop]
    have h0 : l ≠ [] := List.length_pos_iff.1 (by omega)
    have c1 : ¬ ((b + n : Nat) : Int) = (b : Int) := by omega
    have c2 : (0 : Int) ≤ (b : Int) := by omega
    have c3 : (b : Int) ≤ ((b + n : Nat) : Int) := by omega
    have c4 : ((b + n : Nat) : Int) ≤ ((mkB l).size : Int) := by rw [mkB_size]; omega
    have h1 := isOne_ev l (b + n) 46 46 (· == 46) p_dot
    have htl : ((l.drop b).take n).length = n := by rw [List.length_take, List.length_drop]; omega
    simp only [if_neg c1, if_pos c2, if_pos c3, if_pos c4]
    rw [h1]
    simp only [Option.bind_some, Int.toNat_natCast]
    rw [ext_drop l b n (by omega)]
    unfold tailP
    by_cases hp : hd (· == 46) (l.drop (b + n)) = true
    · have hlt : b + n < l.length := by
        rcases Nat.lt_or_ge (b + n) l.length with h | h
        · exact h
        · rw [List.drop_eq_nil_iff.2 h] at hp; cases hp
      have ho2 := over_ev l (b + n + 1) (by omega) (by omega)
      have hld2 := ld_le (l.drop (b + n + 1))
      rw [List.length_drop] at hld2
      have hw : wrap64 (((b + n : Nat) : Int) + 1) = ((b + n + 1 : Nat) : Int) := wrap_id (by omega) (by omega)
      rw [if_pos hp]
      simp only [if_pos hp, hw, List.drop_drop]
      obtain ⟨n2, hn2⟩ : ∃ n2, n2 = ld (l.drop (b + n + 1)) := ⟨_, rfl⟩
      rw [← hn2] at ho2 hld2 ⊢
      refine Ev.bind ho2 ?_
      by_cases hz2 : n2 = 0
      · rw [if_pos hz2]
        have d : ((b + n + 1 + n2 : Nat) : Int) = ((b + n + 1 : Nat) : Int) := by omega
        simp only [if_pos d]
        refine Ev.congr (fun k => ?_) (Ev.now _)
        show some _ = some (badT (b + n + 1))
        rw [d]; rfl
      · rw [if_neg hz2]
        have d1 : ¬ ((b + n + 1 + n2 : Nat) : Int) = ((b + n + 1 : Nat) : Int) := by omega
        have d2 : (0 : Int) ≤ ((b + n + 1 : Nat) : Int) := by omega
        have d3 : ((b + n + 1 : Nat) : Int) ≤ ((b + n + 1 + n2 : Nat) : Int) := by omega
        have d4 : ((b + n + 1 + n2 : Nat) : Int) ≤ ((mkB l).size : Int) := by rw [mkB_size]; omega
        have htl2 : ((l.drop (b + n + 1)).take n2).length = n2 := by rw [List.length_take, List.length_drop]; omega
        have hw2 : wrap64 (wrap64 (((b + n + 1 + n2 : Nat) : Int) - ((b + n : Nat) : Int)) - 1) = (n2 : Int) := by
          rw [wrap_id (n := ((b + n + 1 + n2 : Nat) : Int) - ((b + n : Nat) : Int)) (by omega) (by omega), wrap_id (by omega) (by omega)]
          omega
        simp only [if_neg d1, if_pos d2, if_pos d3, if_pos d4, Int.toNat_natCast, hw2]
        rw [ext_drop l (b + n + 1) n2 (by omega)]
        have d5 : (mkB ((l.drop b).take n)).size + (mkB ((l.drop (b + n + 1)).take n2)).size ≤ 9223372036854775807 := by rw [mkB_size, mkB_size, htl, htl2]; omega
        simp only [if_pos d5, mkB_append]
        have key := ref_j2 l hl h0 { r with st := 5, ds := r.ds ++ (l.drop b).take n ++ (l.drop (b + n + 1)).take n2, beh := r.beh + n2 } hneg (by simp only [hds, List.nil_append, List.length_append, htl, htl2]; omega) (by simp only [hbeh]; omega) hexp hen (b + n + 1 + n2) (by omega)
        simp only [hds, hbeh, List.nil_append, Nat.zero_add] at key ⊢
        exact key
    · rw [if_neg hp]
      simp only [if_neg hp]
      have key := ref_j2 l hl h0 { r with st := 3, ds := r.ds ++ (l.drop b).take n } hneg (by simp only [hds, List.nil_append, htl]; omega) (by simp only [hbeh]; omega) hexp hen (b + n) (by omega)
      simp only [hds, hbeh, List.nil_append] at key ⊢
      exact key
theorem refScan_ev (l : List UInt8) : Ev (fun k => vernierref18_Scan.f k (mkB l)) (outT l) := by
  unfold vernierref18_Scan.f outT scanF
  rw [mkB_size]
  by_cases h4 : 4096 < l.length
  · have hc4 : (l.length : Int) > 4096 := by omega
    rw [if_pos h4]
    simp only [if_pos hc4]
    exact Ev.now _
  · have hc4 : ¬ (l.length : Int) > 4096 := by omega
    rw [if_neg h4]
    simp only [if_neg hc4]
    have hj : Ev (fun k => vernierref18_Scan.j0 k (mkB l) (hd (· == 110) l)) (match (if hd (· == 110) l = true then (if wordAt l < 3 ∨ 3 < l.length then Res.bad (wordAt l) else .ok dN) else match scan l with | .inl p => .bad p | .inr r => .ok (nrm (toD r))) with | .long => ((false, false, mkB [], 0, 13, 0) : RT) | .bad p => badT p | .ok d => okT d) := by
      refine Ev.step (fun k => rfl) ?_
      simp only [vernierref18_Scan.j0]
      by_cases hn : hd (· == 110) l = true
      · simp only [if_pos hn]
        have hw := word_l0 l (by omega) (wordAt l) 0 (by omega)
        refine Ev.congr (f := fun k => vernierref18_word.l0 k (mkB l) wordB ((0 : Nat) : Int)) (fun k => ?_) ?_
        · show (vernierref18_word.l0 k (mkB l) wordB 0).bind _ = vernierref18_word.l0 k (mkB l) wordB 0
          cases vernierref18_word.l0 k (mkB l) wordB 0 <;> rfl
        · by_cases hq : wordAt l < 3 ∨ 3 < l.length
          · rw [if_pos hq] at hw ⊢
            exact hw
          · rw [if_neg hq] at hw ⊢
            exact hw
      · simp only [if_neg hn]
        have h1 := isOne_ev l 0 43 45 sg p_sg
        rw [List.drop_zero] at h1
        have h1' : vernierref18_isOne.f (mkB l) 0 43 45 = some (hd sg l) := h1
        rw [h1']
        simp only [Option.bind_some]
        have hout : ∀ x, outR x = (match (match x with | .inl p => Res.bad p | .inr r => .ok (nrm (toD r))) with | .long => ((false, false, mkB [], 0, 13, 0) : RT) | .bad p => badT p | .ok d => okT d) := by
          intro x; cases x <;> rfl
        rw [← hout, scan_ref]
        unfold SC.ref
        by_cases hs : hd sg l = true
        · rw [if_pos hs]
          simp only [if_pos hs]
          have hp : 0 < l.length := by
            cases l with
            | nil => cases hs
            | cons c l => simp
          exact ref_j1 l (by omega) { r0 with st := 2, neg := hd (· == 45) l } rfl rfl rfl rfl rfl 1 (by omega)
        · rw [if_neg hs]
          simp only [if_neg hs]
          have h45 : r0.neg = hd (· == 45) l := by
            cases l with
            | nil => rfl
            | cons c l =>
              have : sg c = false := Bool.eq_false_iff.2 hs
              simp only [sg, Bool.or_eq_false_iff] at this
              exact this.2.symm
          have key := ref_j1 l (by omega) r0 h45 rfl rfl rfl rfl 0 (by omega)
          rw [List.drop_zero] at key
          exact key
    by_cases hp : (l.length : Int) > 0
    · have c2 : (0 : Int) < (l.length : Int) := hp
      simp only [if_pos hp, if_pos c2]
      have e110 : (bt (mkB l) 0 == 110) = hd (· == 110) l := by
        cases l with
        | nil => simp at hp
        | cons c l =>
          rw [bt_mk0]
          have h : ∀ n : Fin 256, (((UInt8.ofNat n.val).toNat : Int) == 110) = ((UInt8.ofNat n.val) == 110) := by decide +kernel
          have := h ⟨c.toNat, c.toNat_lt⟩
          simpa [hd] using this
      rw [e110]
      exact hj
    · simp only [if_neg hp]
      have hnil : l = [] := List.length_eq_zero_iff.1 (by omega)
      subst hnil
      exact hj
end Go.Proofs.YthhkmpicpihjlaaGreatDoor.PSc
