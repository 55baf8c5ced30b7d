/- NatTextBack in plain Lean: a number's text is read as that number; a text of digits is written again without its noughts ahead. -/
import Derived.Test.YthgmkigfgcejgaaDoorQTBGNatTextBack
import Derived.Test.YthgmkigfgcejgaaDoorQTBR
set_option linter.unusedVariables false
namespace Go.Proofs.YthgmkigfgcejgaaDoor.Pure
open Go.RowKit Go.Proofs.YthgmkigfgcejgaaDoor.PNat
open Go.RowKit Go.Proofs.YthgmkigfgcejgaaDoorW.PrintWords Go.Proofs.YthgmkigfgcejgaaDoorW.PrintLast Go.Proofs.YthgmkigfgcejgaaDoorW.PrintMore Go.Proofs.YthgmkigfgcejgaaDoor.M Go.Proofs.YthgmkigfgcejgaaDoor.NM
theorem of_digit {d : Nat} (h : d < 10) : (UInt8.ofNat (48 + d)).toNat = 48 + d := by
  rw [UInt8.toNat_ofNat']
  omega
theorem dgt_bounds {c : UInt8} (h : dgt c = true) : 48 ≤ c.toNat ∧ c.toNat ≤ 57 := by
  unfold dgt at h
  simpa using h
theorem dgt_of {d : Nat} (h : d < 10) : dgt (UInt8.ofNat (48 + d)) = true := by
  unfold dgt
  rw [of_digit h]
  simp
  omega
theorem back_digit {c : UInt8} (h : dgt c = true) : UInt8.ofNat (48 + (c.toNat - 48)) = c := by
  have := dgt_bounds h
  rw [show 48 + (c.toNat - 48) = c.toNat by omega, UInt8.ofNat_toNat]
theorem dd_one {c : UInt8} (h : dgt c = true) : Lib.decDigits (c.toNat - 48) = [c] := by
  have := dgt_bounds h
  rw [Lib.decDigits_one (by omega), back_digit h]
theorem dd_numF (l : List UInt8) : ∀ V : Nat, 1 ≤ V → (∀ c ∈ l, dgt c = true) → Lib.decDigits (numF V l) = Lib.decDigits V ++ l := by
  induction l with
  | nil => intro V _ _; simp [numF]
  | cons c r ih =>
    intro V hV hd
    have hc := hd c List.mem_cons_self
    have hb := dgt_bounds hc
    rw [numF_cons, ih _ (by omega) (fun x hx => hd x (List.mem_cons_of_mem _ hx)), dd_big (by omega), show (V * 10 + (c.toNat - 48)) / 10 = V by omega, show (V * 10 + (c.toNat - 48)) % 10 = c.toNat - 48 by omega, back_digit hc, List.append_assoc]
    rfl
theorem dd_digits : ∀ (m u : Nat), u ≤ m → (∀ c ∈ Lib.decDigits u, dgt c = true) ∧ numF 0 (Lib.decDigits u) = u ∧ Lib.decDigits u ≠ [] := by
  intro m
  induction m with
  | zero =>
    intro u hu
    obtain rfl : u = 0 := by omega
    rw [Lib.decDigits_one (by decide)]
    refine ⟨fun c hc => ?_, rfl, by simp⟩
    rw [List.mem_singleton] at hc
    rw [hc]; exact dgt_of (d := 0) (by decide)
  | succ m ih =>
    intro u hu
    by_cases h : u < 10
    · rw [Lib.decDigits_one h]
      refine ⟨fun c hc => ?_, ?_, by simp⟩
      · rw [List.mem_singleton] at hc
        rw [hc]; exact dgt_of h
      · rw [numF_cons, of_digit h]
        show 0 * 10 + (48 + u - 48) = u
        omega
    · obtain ⟨h1, h2, h3⟩ := ih (u / 10) (by omega)
      have hm : u % 10 < 10 := by omega
      rw [dd_big h]
      refine ⟨fun c hc => ?_, ?_, by simp⟩
      · rcases List.mem_append.1 hc with hc | hc
        · exact h1 c hc
        · rw [List.mem_singleton] at hc
          rw [hc]; exact dgt_of hm
      · rw [numF_append, h2, numF_cons, of_digit hm]
        show u / 10 * 10 + (48 + u % 10 - 48) = u
        omega
theorem bt_mkB {l : List UInt8} {i : Nat} (h : i < l.length) : bt (mkB l) (i : Int) = ((l[i]'h).toNat : Int) := by
  unfold bt
  rw [Int.toNat_natCast, dif_pos (by rw [mkB_size]; exact h)]
  rfl
theorem ext_mkB (l : List UInt8) (i : Nat) (h : i ≤ l.length) : (mkB l).extract i l.length = mkB (l.drop i) := by
  unfold mkB
  rw [ByteArray.extract_mk, List.take_of_length_le (by rw [List.length_drop]; omega)]
theorem tb_l0 {l : List UInt8} (hd : ∀ c ∈ l, dgt c = true) (hl : l.length ≤ 4096) : ∀ (d i : Nat), i + d + 1 = l.length → numF 0 (l.drop i) = numF 0 l →
    Ev (fun k => vernierlaw04_NatTextBackF.l0 k (mkB l) true (enc B (numF 0 l : Int)) (i : Int)) true := by
  have hlt := numF_lt hd
  have hB : ((numF 0 l : Nat) : Int) < pw B (l.length + 1) := by
    refine Int.lt_trans ?_ (pw10_ltB l.length)
    rw [pw_def]
    have e : ((10 ^ l.length : Nat) : Int) = (10 : Int) ^ l.length := by simp
    omega
  have hlen := penc_len B1 hB
  have ht := nText_ev (dig_enc' B1 ((numF 0 l : Nat) : Int)) (by omega)
  rw [val_enc' B1 (by omega)] at ht
  have hdec : dec ((numF 0 l : Nat) : Int) = Lib.decDigits (numF 0 l) := by unfold dec; rw [Int.toNat_natCast]
  rw [hdec] at ht
  intro d
  induction d with
  | zero =>
    intro i hi hn
    have hlt : i < l.length := by omega
    have hdrop : l.drop i = [l[i]] := by rw [List.drop_eq_getElem_cons hlt, List.drop_of_length_le (by omega)]
    have hc := hd _ (List.getElem_mem hlt)
    have hw : Aside0 (wrap64 ((l.length : Int) - 1) = (i : Int)) := ⟨by rw [w64 (by omega) (by omega)]; omega⟩
    have he : Lib.decDigits (numF 0 l) = l.drop i := by
      rw [← hn, hdrop, numF_cons]
      show Lib.decDigits (0 * 10 + ((l[i]).toNat - 48)) = _
      rw [Nat.zero_mul, Nat.zero_add, dd_one hc]
    rw [he] at ht
    refine Ev.step (f := fun k => (nat_Text.f k (enc B ((numF 0 l : Nat) : Int))).bind fun t => some (t.toList == (mkB (l.drop i)).toList)) (fun k => ?_) (Ev.bind ht (by simp; exact Ev.now _))
    simp only [vernierlaw04_NatTextBackF.l0]
    rw [mkB_size, hw.out, if_neg (by omega)]
    congr 1
    funext t
    rw [if_pos trivial, if_pos (by omega), if_pos (by omega), Int.toNat_natCast, ext_mkB l i (by omega)]
  | succ d ih =>
    intro i hi hn
    have hlt : i < l.length := by omega
    have hc := hd _ (List.getElem_mem hlt)
    have hcb := dgt_bounds hc
    have hw : Aside0 (wrap64 ((l.length : Int) - 1) = (l.length : Int) - 1) := ⟨w64 (by omega) (by omega)⟩
    have hw1 : Aside0 (wrap64 ((i : Int) + 1) = ((i + 1 : Nat) : Int)) := ⟨by rw [w64 (by omega) (by omega)]; omega⟩
    by_cases h48 : (l[i]'hlt).toNat = 48
    · have hn2 : numF 0 (l.drop (i + 1)) = numF 0 l := by
        rw [← hn, List.drop_eq_getElem_cons hlt, numF_cons, h48]
      refine Ev.step (fun k => ?_) (ih (i + 1) (by omega) hn2)
      simp only [vernierlaw04_NatTextBackF.l0]
      rw [mkB_size, hw.out, if_pos (by omega), if_pos (by omega), if_pos (by omega), bt_mkB hlt, if_pos (by omega), hw1.out]
    · have he : Lib.decDigits (numF 0 l) = l.drop i := by
        rw [← hn, List.drop_eq_getElem_cons hlt, numF_cons, Nat.zero_mul, Nat.zero_add, dd_numF _ _ (by omega) (fun x hx => hd x (List.mem_of_mem_drop hx)), dd_one hc]
        rfl
      rw [he] at ht
      refine Ev.step (f := fun k => (nat_Text.f k (enc B ((numF 0 l : Nat) : Int))).bind fun t => some (t.toList == (mkB (l.drop i)).toList)) (fun k => ?_) (Ev.bind ht (by simp; exact Ev.now _))
      simp only [vernierlaw04_NatTextBackF.l0]
      rw [mkB_size, hw.out, if_pos (by omega), if_pos (by omega), if_pos (by omega), bt_mkB hlt, if_neg (by omega)]
      congr 1
      funext t
      rw [if_pos trivial, if_pos (by omega), Int.toNat_natCast, ext_mkB l i (by omega)]
theorem tb_j0 (s : ByteArray) : Ev (fun k => vernierlaw04_NatTextBackF.j0 k s true) true := by
  obtain ⟨l, rfl⟩ : ∃ l, s = mkB l := ⟨s.data.toList, rfl⟩
  by_cases hf : faultB (mkB l) = true
  · refine Ev.step (f := fun _ => some true) (fun k => ?_) (Ev.now _)
    simp only [vernierlaw04_NatTextBackF.j0]
    rw [if_pos hf, if_pos trivial]
  · by_cases hl : 4096 < l.length
    · refine Ev.step (f := fun k => (nat_Read.f k (mkB l)).bind fun b => if b.2.isNone = true then vernierlaw04_NatTextBackF.l0 k (mkB l) true b.1 0 else (if true = true then some ((b.1.length : Int) == 0) else some false)) (fun k => ?_) (Ev.bind (nRead_long hl) ?_)
      · simp only [vernierlaw04_NatTextBackF.j0]
        rw [if_neg hf]
      · simp
        exact Ev.now _
    · have hne : l ≠ [] := by
        intro h
        subst h
        exact hf (by decide)
      have hlead : lead l = l.length := by
        have h1 := lead_le l
        by_cases h2 : lead l < l.length
        · refine absurd ?_ hf
          unfold faultB
          rw [mkB_list, mkB_size]
          simp only [Bool.and_eq_true, Bool.or_eq_true, decide_eq_true_iff]
          exact ⟨by omega, .inl h2⟩
        · omega
      have hd := all_of_lead hlead
      have hp : 0 < l.length := List.length_pos_iff.2 hne
      refine Ev.step (f := fun k => (nat_Read.f k (mkB l)).bind fun b => if b.2.isNone = true then vernierlaw04_NatTextBackF.l0 k (mkB l) true b.1 0 else (if true = true then some ((b.1.length : Int) == 0) else some false)) (fun k => ?_) (Ev.bind (nRead_ev hd hne (by omega)) ?_)
      · simp only [vernierlaw04_NatTextBackF.j0]
        rw [if_neg hf]
      · exact Ev.congr (fun k => if_pos rfl) (tb_l0 hd (by omega) (l.length - 1) 0 (by omega) (by rw [List.drop_zero]))
theorem NatTextBack (a : List Int) (ha : a.length ≤ 1048576) (wa : ∀ y ∈ a, (Lit.int .u64 y).wf = true) (s : ByteArray) (hs : s.size ≤ 1048576) : ∃ k, vernierlaw04_NatTextBackF.f k a s = some true := by
  have da := BDig wa
  have hA := val_nonneg Bpos da
  have la := enc_len_le B1 da
  obtain ⟨d1, d2, d3⟩ := dd_digits _ (val B a).toNat (Nat.le_refl _)
  have hj := tb_j0 s
  have : Ev (fun k => vernierlaw04_NatTextBackF.f k a s) true := by
    refine Ev.congr (fun k => rfl) (Ev.bind shown_ev (Ev.bind (nText_ev da (by omega)) ?_))
    by_cases hl : 4096 < (dec (val B a)).length
    · refine Ev.bind (nRead_long hl) (Ev.bind (nCmp_ev da (Dig.nil B) (by omega) (by simp)) ?_)
      refine Ev.congr (fun k => ?_) hj
      rw [mkB_size, if_pos (by omega)]
      rfl
    · have hr := nRead_ev d1 d3 (by unfold dec at hl; omega)
      rw [d2, Int.toNat_of_nonneg hA] at hr
      have hc := nCmp_ev da (dig_enc' B1 (val B a)) (by omega) (by omega)
      rw [val_enc' B1 hA, cmpI_eq] at hc
      refine Ev.bind hr (Ev.bind hc ?_)
      refine Ev.congr (fun k => ?_) hj
      rw [mkB_size, if_neg (by omega)]
      rfl
  obtain ⟨k, hk⟩ := this
  exact ⟨k, hk k (Nat.le_refl k)⟩
end Go.Proofs.YthgmkigfgcejgaaDoor.Pure
