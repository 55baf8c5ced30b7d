/- What the functions of the reference vernierref04 come to, second part: Shl, Meant, Cut, Mul, Word, Shr, Told, Same; the law's own 'is' and 'shown'. -/
import Derived.Test.YthgmkigfgcejgaaDoorQTXNC
import Derived.Test.YthgmkigfgcejgaaDoorQTXPNatx5
set_option linter.unusedVariables false
set_option linter.unusedSimpArgs false
namespace Go.Proofs.YthgmkigfgcejgaaDoor.PNat
open Go.RowKit Go.Proofs.YthgmkigfgcejgaaDoorW.PrintWords Go.Proofs.YthgmkigfgcejgaaDoorW.PrintLast Go.Proofs.YthgmkigfgcejgaaDoorW.PrintMore Go.Proofs.YthgmkigfgcejgaaDoor.M Go.Proofs.YthgmkigfgcejgaaDoor.NM
attribute [local irreducible] add64Lo add64Hi sub64Lo sub64Hi val
theorem pw2_pos (i : Nat) : 0 < pw 2 i := pw_pos (by decide) i
theorem pw2_le_D {i : Nat} (h : i ≤ 24) : pw 2 i ≤ D := by rw [← pw2_24]; exact pw_le (by decide) h
theorem rtwo_l0 {n : Nat} (hn : n ≤ 24) : ∀ (d i : Nat), i + d = n → Ev (fun k => vernierref04_two.l0 k (n : Int) (pw 2 i) (i : Int)) (pw 2 n) := by
  intro d
  induction d with
  | zero =>
    intro i hi
    obtain rfl : i = n := by omega
    refine Ev.step (f := fun _ => some (pw 2 i)) (fun k => ?_) (Ev.now _)
    simp only [vernierref04_two.l0]
    rw [if_neg (by omega)]
  | succ d ih =>
    intro i hi
    have h1 := pw2_pos i
    have h2 : pw 2 i ≤ 16777216 := by rw [← Ddef]; exact pw2_le_D (by omega)
    refine Ev.step (f := fun k => vernierref04_two.l0 k (n : Int) (pw 2 (i + 1)) ((i + 1 : Nat) : Int)) (fun k => ?_) (ih (i + 1) (by omega))
    simp only [vernierref04_two.l0]
    rw [if_pos (by omega), w64 (by omega) (by omega), w64 (by omega) (by omega), pw_succ, Int.mul_comm (pw 2 i) 2]
    rfl
theorem rtwo_ev {n : Nat} (hn : n ≤ 24) : Ev (fun k => vernierref04_two.f k (n : Int)) (pw 2 n) := by
  have := rtwo_l0 hn n 0 (by omega)
  rw [pw_zero] at this
  exact this
theorem tdiv24 (k : Nat) : Int.tdiv (k : Int) 24 = ((k / 24 : Nat) : Int) := by rw [Int.tdiv_eq_ediv_of_nonneg (by omega)]; omega
theorem tmod24 (k : Nat) : Int.tmod (k : Int) 24 = ((k % 24 : Nat) : Int) := by rw [Int.tmod_eq_emod_of_nonneg (by omega)]; omega
theorem pw2_split (k : Nat) : pw 2 k = pw 2 (k % 24) * pw D (k / 24) := by rw [pwD, ← pw_add]; congr 1; omega
theorem rShl_ev {A : Int} (hA : 0 ≤ A) (k : Nat) (hk : k ≤ 1099511627776) {m : Nat} (hm : A < pw D m) (hm1 : m ≤ 549755813888) : Ev (fun n => vernierref04_Shl.f n (enc D A) (k : Int)) (enc D (A * pw 2 k)) := by
  by_cases h0 : 0 < A
  · have hl : (enc D A).length ≠ 0 := by have := (enc_lt D1 hA 0).2 (by rw [div_pw_zero]; exact h0); omega
    have hq : Aside0 (wrap64 (Int.tdiv (k : Int) 24) = ((k / 24 : Nat) : Int)) := ⟨by rw [tdiv24]; exact w64 (by omega) (by omega)⟩
    have hb : A * pw 2 (k % 24) < pw D (m + 1) := by
      rw [pw_succ]
      exact Int.lt_of_lt_of_le (Int.mul_lt_mul_of_pos_right hm (pw2_pos _)) (Int.mul_le_mul_of_nonneg_left (pw2_le_D (by omega)) (Int.le_of_lt (pw_pos Dpos _)))
    have hlen := penc_len D1 hb
    refine Ev.congr (f := fun n => (vernierref04_two.f n ((k % 24 : Nat) : Int)).bind fun t => (vernierref04_times.f n (enc D A) t).bind fun u => if (List.replicate (k / 24) (0 : Int)).length + u.length < 17592186044416 then some (List.replicate (k / 24) 0 ++ u) else none) (fun n => ?_)
      (Ev.bind (rtwo_ev (by omega)) (Ev.bind (rtimes_ev hA (Int.le_of_lt (pw2_pos _)) (pw2_le_D (by omega)) hb (by omega)) ?_))
    · unfold vernierref04_Shl.f
      rw [if_neg (by omega), hq.out, if_pos (by omega), Int.toNat_natCast, if_pos (by omega), tmod24]
      rfl
    · rw [List.length_replicate, if_pos (by omega), enc_shift D1 (Int.mul_pos h0 (pw2_pos _)), pw2_split k, Int.mul_assoc]
      exact Ev.now _
  · obtain rfl : A = 0 := by omega
    rw [enc_zero, Int.zero_mul, enc_zero]
    exact Ev.congr (f := fun _ => some []) (fun n => by unfold vernierref04_Shl.f; rw [if_pos (by simp)]) (Ev.now _)
theorem val_drop (a : List Int) (i : Nat) : val B (a.drop i) = a.getD i 0 + B * val B (a.drop (i + 1)) := by
  by_cases h : i < a.length
  · rw [List.drop_eq_getElem_cons h, val_cons, List.getD_eq_getElem?_getD, List.getElem?_eq_getElem h]; rfl
  · rw [List.drop_of_length_le (by omega), List.drop_of_length_le (by omega), List.getD_eq_getElem?_getD, List.getElem?_eq_none (by omega), val_nil]; simp
theorem rMeant_l0 {a : List Int} (ha : Dig B a) (hL : a.length ≤ 4294967296) : ∀ i : Nat, i ≤ a.length → Ev (fun k => vernierref04_Meant.l0 k a (enc D (val B (a.drop i))) ((i : Int) - 1)) (enc D (val B a)) := by
  intro i
  induction i with
  | zero =>
    intro _
    refine Ev.step (f := fun _ => some (enc D (val B a))) (fun k => ?_) (Ev.now _)
    simp only [vernierref04_Meant.l0]
    rw [if_neg (by omega), List.drop_zero]
  | succ i ih =>
    intro hi
    have hw : Aside0 (wrap64 ((i : Int) - 1) = (i : Int) - 1) := ⟨w64 (by omega) (by omega)⟩
    have hv := val_nonneg Bpos (ha.drop (i + 1))
    have hvl := pval_lt Bpos (ha.drop (i + 1))
    have hlen : (a.drop (i + 1)).length ≤ 4294967296 := by rw [List.length_drop]; omega
    have hg := ha.get Bpos i
    have hd := val_drop a i
    have hvi := val_nonneg Bpos (ha.drop i)
    have hvil := pval_lt Bpos (ha.drop i)
    have hleni : (a.drop i).length ≤ 4294967296 := by rw [List.length_drop]; omega
    have e : ((i + 1 : Nat) : Int) - 1 = (i : Int) := by omega
    have hsum : val B (a.drop (i + 1)) * B + a.getD i 0 = val B (a.drop i) := by rw [hd, Int.mul_comm]; omega
    refine Ev.step (f := fun k => (vernierref04_Shl.f k (enc D (val B (a.drop (i + 1)))) ((64 : Nat) : Int)).bind fun t => (vernierref04_Of.f k (a.getD i 0)).bind fun u => (vernierref04_Add.f k t u).bind fun v => vernierref04_Meant.l0 k a v ((i : Int) - 1)) (fun k => ?_)
      (Ev.bind (rShl_ev hv 64 (by omega) (Int.lt_of_lt_of_le hvl (pwB_le _)) (by omega)) (Ev.bind (rOf_ev hg.1 hg.2) (Ev.bind (rAdd_ev (m := 3 * (a.drop i).length) (by rw [pw2_64]; exact Int.mul_nonneg hv (Int.le_of_lt Bpos)) hg.1 (by rw [pw2_64, hsum]; exact Int.lt_of_lt_of_le hvil (pwB_le _)) (by omega)) ?_)))
    · simp only [vernierref04_Meant.l0]
      rw [e, if_pos (by omega)]
      congr 1
      funext t
      rw [if_pos (by omega), if_pos (by omega), rd_nat, hw.out]
    · rw [pw2_64, hsum]
      exact ih (by omega)
theorem rMeant_ev {a : List Int} (ha : Dig B a) (hL : a.length ≤ 4294967296) : Ev (fun k => vernierref04_Meant.f k a) (enc D (val B a)) := by
  have := rMeant_l0 ha hL a.length (Nat.le_refl _)
  rw [List.drop_length, val_nil, enc_zero] at this
  refine Ev.congr (fun k => ?_) this
  unfold vernierref04_Meant.f
  rw [w64 (by omega) (by omega)]
theorem rCut_l0 {l : List Int} (h : Dig D l) (hL : l.length ≤ 1099511627776) : ∀ n : Nat, n ≤ l.length → Ev (fun k => vernierref04_Cut.l0 k l (n : Int)) (enc D (val D (l.take n))) := by
  intro n
  induction n with
  | zero =>
    intro _
    refine Ev.step (f := fun _ => some []) (fun k => ?_) (by rw [List.take_zero, val_nil, enc_zero]; exact Ev.now _)
    simp only [vernierref04_Cut.l0]
    rw [if_neg (by omega), if_pos (by omega), if_pos (by omega)]
    simp
  | succ n ih =>
    intro hn
    have hw : Aside0 (wrap64 (((n + 1 : Nat) : Int) - 1) = (n : Int)) := ⟨by rw [w64 (by omega) (by omega)]; omega⟩
    have hd := h.take (n + 1)
    have ht : l.take (n + 1) = l.take n ++ [l.getD n 0] := by
      rw [List.take_succ_eq_append_getElem (by omega), List.getD_eq_getElem?_getD, List.getElem?_eq_getElem (by omega)]; rfl
    rw [ht] at hd
    have he := enc_snoc D1 hd
    rw [← ht] at he
    by_cases h0 : l.getD n 0 = 0
    · rw [if_pos h0] at he
      rw [he]
      refine Ev.step (f := fun k => vernierref04_Cut.l0 k l (n : Int)) (fun k => ?_) (ih (by omega))
      simp only [vernierref04_Cut.l0]
      rw [hw.out, if_pos (by omega), if_pos (by omega), if_pos (by omega), rd_nat, if_pos h0]
    · rw [if_neg h0] at he
      rw [he]
      refine Ev.step (f := fun _ => some (l.take (n + 1))) (fun k => ?_) (Ev.now _)
      simp only [vernierref04_Cut.l0]
      rw [hw.out, if_pos (by omega), if_pos (by omega), if_pos (by omega), rd_nat, if_neg h0, if_pos (by omega), if_pos (by omega)]
      rfl
theorem rCut_ev {l : List Int} (h : Dig D l) (hL : l.length ≤ 1099511627776) : Ev (fun k => vernierref04_Cut.f k l) (enc D (val D l)) := by
  have := rCut_l0 h hL l.length (Nat.le_refl _)
  rw [List.take_length] at this
  exact this
theorem shown_ev : Ev (fun k => vernierlaw04_shown.f k) true := Ev.of vernierlaw04_shown.mono (k := 12) (by decide +kernel)
end Go.Proofs.YthgmkigfgcejgaaDoor.PNat
