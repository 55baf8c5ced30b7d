/- NatAdds in plain Lean: the sum and the product of any numbers are the reference's. -/
import Derived.Test.YthgmkigfgcejgaaDoorNE
import Derived.Test.YthgmkigfgcejgaaDoorPNatx8
import Derived.Test.YthgmkigfgcejgaaDoorR
set_option linter.unusedVariables false
namespace Go.Proofs.YthgmkigfgcejgaaDoor.Pure
open Go.RowKit Go.Proofs.YthgmkigfgcejgaaDoor.PNat
open Go.RowKit Go.Proofs.YthgmkigfgcejgaaDoorW.PrintWords Go.Proofs.YthgmkigfgcejgaaDoorW.PrintLast Go.Proofs.YthgmkigfgcejgaaDoorW.PrintMore Go.Proofs.YthgmkigfgcejgaaDoor.M Go.Proofs.YthgmkigfgcejgaaDoor.NM

theorem len_le_sum {l : List (List Int)} {x : List Int} (h : x ∈ l) : x.length ≤ (l.map List.length).sum := by
  induction l with
  | nil => cases h
  | cons y r ih =>
    rw [List.map_cons, List.sum_cons]
    cases List.mem_cons.1 h with
    | inl e => subst e; omega
    | inr e => have := ih e; omega
theorem natAdds_l0 {l : List (List Int)} (hd : ∀ x ∈ l, Dig B x) (M : Nat) (hM : ∀ x ∈ l, x.length ≤ M) (hM1 : M ≤ 1048576) (hL : l.length ≤ 1048576) (hS : (l.map List.length).sum ≤ 1048576) :
    ∀ (d i : Nat) (v p : Int) (s : Nat), i + d = l.length → 0 ≤ v → v ≤ i * pw B M → 0 ≤ p → p ≤ pw B s → s + ((l.drop i).map List.length).sum = (l.map List.length).sum →
      v + sumV (l.drop i) = sumV l → (l.drop i).foldl (fun p x => p * val B x) p = prodV l →
      Ev (fun k => vernierlaw04_NatAdds.l0 k l true (enc D v) (enc D p) (i : Int)) true := by
  intro d
  induction d with
  | zero =>
    intro i v p s hi v0 v1 p0 p1 hs hv hp
    obtain rfl : i = l.length := by omega
    rw [List.drop_length] at hv hp
    have hv' : v = sumV l := by rw [← hv]; simp [sumV]
    have hp' : p = prodV l := hp
    have hvl : v < pw B (M + 1) := by
      refine Int.lt_of_le_of_lt v1 ?_
      rw [pw_succ, Int.mul_comm]
      exact Int.mul_lt_mul_of_pos_left (by rw [Bdef]; omega) (pw_pos Bpos M)
    have hpl : p < pw B (s + 1) := by
      refine Int.lt_of_le_of_lt p1 ?_
      rw [pw_succ]
      have := Int.mul_lt_mul_of_pos_left (a := 1) (b := B) B1 (pw_pos Bpos s)
      omega
    rw [List.drop_length] at hs
    simp only [List.map_nil, List.sum_nil] at hs
    refine Ev.step (f := fun k => (nat_Add.f k l).bind fun t => (nat_Mul.f k l).bind fun u => (vernierlaw04_is.f k t (enc D v)).bind fun a => (vernierlaw04_is.f k u (enc D p)).bind fun b => if (true : Bool) = true then (if a = true then some b else some false) else some false) (fun k => ?_)
      (Ev.bind (Add_ev hd M hM (by omega) (by omega)) (Ev.bind (Mul_ev hd (by omega)) (Ev.bind (is_ev _ ?_ v0 hvl (by omega)) (Ev.bind (is_ev _ ?_ p0 hpl (by omega)) ?_))))
    · simp only [vernierlaw04_NatAdds.l0]
      rw [if_neg (by omega)]
    · rw [← hv']; exact Nat.le_trans (len_of_lt hvl) (by omega)
    · rw [← hp']; exact Nat.le_trans (len_of_lt hpl) (by omega)
    · rw [← hv', ← hp']
      simp
      exact Ev.now _
  | succ d ih =>
    intro i v p s hi v0 v1 p0 p1 hs hv hp
    have hilt : i < l.length := by omega
    have hg : l.getD i [] = l[i] := by simp [List.getD_eq_getElem?_getD, List.getElem?_eq_getElem hilt]
    have hm : l.getD i [] ∈ l := by rw [hg]; exact List.getElem_mem hilt
    have hdi := hd _ hm
    have hMi := hM _ hm
    have hw1 : Aside0 (wrap64 ((i : Int) + 1) = ((i + 1 : Nat) : Int)) := ⟨by rw [w64 (by omega) (by omega)]; omega⟩
    have hx0 := val_nonneg Bpos hdi
    have hxl := pval_lt Bpos hdi
    have hxM := Int.lt_of_lt_of_le hxl (pw_le Bpos hMi)
    have hi1 : i + 1 + d = l.length := by omega
    have hsv : sumV (l.drop i) = val B (l.getD i []) + sumV (l.drop (i + 1)) := by unfold sumV; rw [hg, List.drop_eq_getElem_cons hilt, List.map_cons, List.sum_cons]
    have hdp : (l.drop i).foldl (fun p x => p * val B x) p = (l.drop (i + 1)).foldl (fun p x => p * val B x) (p * val B (l.getD i [])) := by rw [hg, List.drop_eq_getElem_cons hilt]; rfl
    have hsum : ((l.drop i).map List.length).sum = (l.getD i []).length + ((l.drop (i + 1)).map List.length).sum := by rw [hg, List.drop_eq_getElem_cons hilt, List.map_cons, List.sum_cons]
    have hv2 : v + val B (l.getD i []) ≤ ((i + 1 : Nat) : Int) * pw B M := by
      rw [show ((i + 1 : Nat) : Int) = (i : Int) + 1 by omega, Int.add_mul, Int.one_mul]
      omega
    have hp2 : p * val B (l.getD i []) ≤ pw B (s + (l.getD i []).length) := by
      rw [pw_add]
      exact Int.mul_le_mul p1 (Int.le_of_lt hxl) hx0 (Int.le_of_lt (pw_pos Bpos s))
    have hvl : v + val B (l.getD i []) < pw D (3 * (M + 1)) := by
      refine Int.lt_of_lt_of_le (Int.lt_of_le_of_lt hv2 ?_) (pwB_le _)
      rw [pw_succ, Int.mul_comm]
      exact Int.mul_lt_mul_of_pos_left (by rw [Bdef]; omega) (pw_pos Bpos M)
    have hpl : p < pw D (3 * (s + 1)) := by
      refine Int.lt_of_lt_of_le (Int.lt_of_le_of_lt p1 ?_) (pwB_le _)
      rw [pw_succ]
      have := Int.mul_lt_mul_of_pos_left (a := 1) (b := B) B1 (pw_pos Bpos s)
      omega
    have hpn := penc_len D1 hpl
    have hxn := penc_len D1 (Int.lt_of_lt_of_le hxM (pwB_le _))
    have key := ih (i + 1) _ _ (s + (l.getD i []).length) hi1 (by omega : 0 ≤ v + val B (l.getD i [])) hv2 (Int.mul_nonneg p0 hx0) hp2 (by omega) (by omega) (by rw [← hdp]; exact hp)
    have hmul := rMul_ev (dig_enc' D1 p) (dig_enc' D1 (val B (l.getD i []))) (by omega)
    rw [val_enc' D1 p0, val_enc' D1 hx0] at hmul
    refine Ev.step (f := fun k => (vernierref04_Meant.f k (l.getD i [])).bind fun t => (vernierref04_Add.f k (enc D v) t).bind fun a => (vernierref04_Mul.f k (enc D p) t).bind fun b => vernierlaw04_NatAdds.l0 k l true a b ((i + 1 : Nat) : Int)) (fun k => ?_)
      (Ev.bind (rMeant_ev hdi (by omega)) (Ev.bind (rAdd_ev v0 hx0 hvl (by omega)) (Ev.bind hmul key)))
    simp only [vernierlaw04_NatAdds.l0]
    rw [hw1.out, if_pos (by omega), if_pos (by omega), rd_row]

theorem NatAdds (l : List (List Int)) (h : R.bulk2 l ≤ 1048576) (hw : ∀ x ∈ l, ∀ y ∈ x, (Lit.int .u64 y).wf = true) : ∃ k, vernierlaw04_NatAdds.f k l = some true := by
  have hd : ∀ x ∈ l, Dig B x := fun x hx => BDig (hw x hx)
  have hb : l.length + (l.map List.length).sum ≤ 1048576 := h
  have hM : ∀ x ∈ l, x.length ≤ 1048576 := fun x hx => by
    have := len_le_sum hx
    omega
  have key := natAdds_l0 hd 1048576 hM (by omega) (by omega) (by omega) l.length 0 0 1 0 (by omega) (by omega) (by simp) (by omega) (by rw [pw_zero]; omega) (by simp) (by simp) (by rfl)
  have e1 : enc D 1 = [1] := by rw [enc_pos D1 (by decide), Int.emod_eq_of_lt (by decide) D1, Int.ediv_eq_zero_of_lt (by decide) D1, enc_zero]
  rw [enc_zero, e1] at key
  have : Ev (fun k => vernierlaw04_NatAdds.f k l) true := Ev.congr (fun k => rfl) (Ev.bind shown_ev key)
  obtain ⟨k, hk⟩ := this
  exact ⟨k, hk k (Nat.le_refl k)⟩
end Go.Proofs.YthgmkigfgcejgaaDoor.Pure
