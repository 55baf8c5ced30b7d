/- Decimal digits: what nat.Text and the reference's Text come to, as plain arithmetic. -/
import Derived.Test.YthgmkigfgcejgaaDoorQTBNI
import Derived.Test.YthgmkigfgcejgaaDoorQTBPNatx0
import Derived.Test.YthgmkigfgcejgaaDoorQTBPNatx1
import Derived.Test.YthgmkigfgcejgaaDoorQTBPNatx3
import Derived.Test.YthgmkigfgcejgaaDoorQTBPNatx4
import Derived.Test.YthgmkigfgcejgaaDoorQTBM
import Derived.Test.YthgmkigfgcejgaaDoorQTBWWords
import Derived.Test.YthgmkigfgcejgaaDoorQTBWMore
import Derived.Test.YthgmkigfgcejgaaDoorQTBWLast
import Derived.Test.YthgmkigfgcejgaaDoorQTBPNatx2
import Derived.Test.YthgmkigfgcejgaaDoorQTBPNatx5
import Derived.Test.YthgmkigfgcejgaaDoorQTBPNatx8
import Derived.Test.YthgmkigfgcejgaaDoorQTBGText
set_option linter.unusedVariables false
set_option linter.unusedSimpArgs false
namespace Go.Proofs.YthgmkigfgcejgaaDoor.PNat
open Go.RowKit Go.Proofs.YthgmkigfgcejgaaDoorW.PrintWords Go.Proofs.YthgmkigfgcejgaaDoorW.PrintLast Go.Proofs.YthgmkigfgcejgaaDoorW.PrintMore Go.Proofs.YthgmkigfgcejgaaDoor.M Go.Proofs.YthgmkigfgcejgaaDoor.NM
attribute [local irreducible] add64Lo add64Hi sub64Lo sub64Hi val
def dec (A : Int) : List UInt8 := Lib.decDigits A.toNat
def padD : Nat → Nat → List UInt8
  | 0, _ => []
  | k + 1, r => padD k (r / 10) ++ [UInt8.ofNat (48 + r % 10)]
theorem dd_big {u : Nat} (h : ¬ u < 10) : Lib.decDigits u = Lib.decDigits (u / 10) ++ [UInt8.ofNat (48 + u % 10)] := by rw [Lib.decDigits, dif_neg h]
theorem dd_split (k : Nat) : ∀ q r : Nat, 0 < q → r < 10 ^ k → Lib.decDigits (q * 10 ^ k + r) = Lib.decDigits q ++ padD k r := by
  induction k with
  | zero => intro q r hq hr; rw [Nat.pow_zero] at *; rw [show r = 0 by omega]; simp [padD]
  | succ k ih =>
    intro q r hq hr
    have hp : 1 ≤ 10 ^ k := Nat.one_le_pow _ _ (by decide)
    have e1 : q * 10 ^ (k + 1) = q * 10 ^ k * 10 := by rw [Nat.pow_succ, Nat.mul_assoc]
    have hqp : 0 < q * 10 ^ k := Nat.mul_pos hq hp
    rw [Nat.pow_succ] at hr
    rw [e1, dd_big (by omega), show (q * 10 ^ k * 10 + r) / 10 = q * 10 ^ k + r / 10 by omega, show (q * 10 ^ k * 10 + r) % 10 = r % 10 by omega, ih q (r / 10) hq (by omega), padD, List.append_assoc]
theorem padD_zero (k : Nat) : padD k 0 = List.replicate k 48 := by
  induction k with
  | zero => rfl
  | succ k ih => rw [padD, Nat.zero_div, ih, List.replicate_succ']; rfl
theorem dd_len_le (k : Nat) : ∀ r : Nat, 1 ≤ k → r < 10 ^ k → (Lib.decDigits r).length ≤ k := by
  induction k with
  | zero => intro r h; omega
  | succ k ih =>
    intro r _ hr
    by_cases h : r < 10
    · rw [Lib.decDigits_one h]; simp
    · rw [dd_big h, List.length_append]
      rw [Nat.pow_succ] at hr
      have hk : 1 ≤ k := by
        by_cases h0 : k = 0
        · subst h0; rw [Nat.pow_zero] at hr; omega
        · omega
      have := ih (r / 10) hk (by omega)
      simp only [List.length_cons, List.length_nil]
      omega
theorem padD_eq (k : Nat) : ∀ r : Nat, 1 ≤ k → r < 10 ^ k → padD k r = List.replicate (k - (Lib.decDigits r).length) 48 ++ Lib.decDigits r := by
  induction k with
  | zero => intro r h; omega
  | succ k ih =>
    intro r _ hr
    by_cases h : r < 10
    · rw [Lib.decDigits_one h, padD, Nat.div_eq_of_lt h, padD_zero, Nat.mod_eq_of_lt h]; simp
    · rw [Nat.pow_succ] at hr
      have hk : 1 ≤ k := by
        by_cases h0 : k = 0
        · subst h0; rw [Nat.pow_zero] at hr; omega
        · omega
      have hl := dd_len_le k (r / 10) hk (by omega)
      rw [padD, ih (r / 10) hk (by omega), dd_big h, List.length_append, List.append_assoc]
      simp only [List.length_cons, List.length_nil]
      rw [show k + 1 - ((Lib.decDigits (r / 10)).length + 1) = k - (Lib.decDigits (r / 10)).length by omega]
theorem toNat_pw {A : Int} {k : Nat} (h0 : 0 ≤ A) (h : A < pw 10 k) : A.toNat < 10 ^ k := by
  rw [pw_def] at h
  have e : ((10 ^ k : Nat) : Int) = (10 : Int) ^ k := by simp
  omega
theorem pwB_10 (n : Nat) : pw B n ≤ pw 10 (38 * n) := by
  induction n with
  | zero => rw [pw_zero]; exact Int.le_of_eq (pw_zero 10).symm
  | succ n ih =>
    have h38 : pw 10 38 = 100000000000000000000000000000000000000 := by rw [pw_def]; decide
    have hp := pw10_pos (38 * n)
    rw [pw_succ, show 38 * (n + 1) = 38 * n + 38 by omega, pw_add, h38, Bdef]
    have h1 : pw B n * 18446744073709551616 ≤ pw 10 (38 * n) * 18446744073709551616 := Int.mul_le_mul_of_nonneg_right ih (by decide)
    rw [Bdef] at h1
    have h2 : pw 10 (38 * n) * 18446744073709551616 ≤ pw 10 (38 * n) * 100000000000000000000000000000000000000 := Int.mul_le_mul_of_nonneg_left (by decide) (by omega)
    omega
def mkB (l : List UInt8) : ByteArray := ⟨l.toArray⟩
theorem mkB_size (l : List UInt8) : (mkB l).size = l.length := List.size_toArray ..
theorem mkB_append (a b : List UInt8) : mkB a ++ mkB b = mkB (a ++ b) := by
  apply ByteArray.ext
  simp [mkB]
theorem mkB_list (l : List UInt8) : (mkB l).data.toList = l := rfl
theorem decB_mk (u : Int) : decB u = mkB (dec u) := rfl
theorem repeat48 (c : Nat) : Lib.repeatL [48] c = List.replicate c 48 := by
  induction c with
  | zero => rfl
  | succ c ih => rw [Lib.repeatL, ih]; rfl
theorem catL_append (a b : List ByteArray) : catL (a ++ b) = catL b ++ catL a := by
  unfold catL
  rw [List.reverse_append, List.map_append, List.flatten_append]
theorem enc_pos_len {b n : Int} (hb : 1 < b) (h : 0 < n) : 0 < (enc b n).length := (enc_lt hb (Int.le_of_lt h) 0).2 (by rw [div_pw_zero]; exact h)
theorem dec_split (k : Nat) {q r : Int} (hq : 0 < q) (hr0 : 0 ≤ r) (hr : r < pw 10 k) : dec (q * pw 10 k + r) = dec q ++ padD k r.toNat := by
  have hrp := toNat_pw hr0 hr
  have e : (q * pw 10 k + r).toNat = q.toNat * 10 ^ k + r.toNat := by
    have h1 : q * pw 10 k = ((q.toNat * 10 ^ k : Nat) : Int) := by
      rw [pw_def, Int.natCast_mul, Int.toNat_of_nonneg (Int.le_of_lt hq)]
      simp
    omega
  unfold dec
  rw [e]
  exact dd_split k q.toNat r.toNat (by omega) hrp
theorem ntext_end {x3 : List ByteArray} (h0 : x3 ≠ []) (hl : (catL x3).length ≤ 140737488355328) : Ev (fun k => nat_Text.l0 k (enc B 0) x3) (catB x3) := by
  refine Ev.step (f := fun _ => some (catB x3)) (fun k => ?_) (Ev.now _)
  have hn : 0 < x3.length := List.length_pos_iff.2 h0
  simp only [nat_Text.l0, enc_zero]
  rw [if_neg (by simp), if_neg (by omega), if_pos hl]
theorem ntext_l0 : ∀ (m : Nat) (A : Int), 0 < A → A < pw 10 (19 * m) → m ≤ 4194304 → ∃ ps, ps.length ≤ m ∧ catL ps = dec A ∧ ∀ x3 : List ByteArray, x3.length + m ≤ 8796093022207 → (dec A).length + (catL x3).length ≤ 140737488355328 → Ev (fun k => nat_Text.l0 k (enc B A) x3) (catB (x3 ++ ps)) := by
  intro m
  induction m with
  | zero => intro A h0 h1; rw [Nat.mul_zero, pw_zero] at h1; omega
  | succ m ih =>
    intro A h0 h1 hm
    have hA : 0 ≤ A := by omega
    have hs := short_ev (dig_enc' B1 A) (d := 10000000000000000000) (by
      have := penc_len B1 (Int.lt_trans h1 (pw10_ltB _))
      omega) (by decide) (by rw [Bdef]; decide)
    rw [val_enc' B1 hA] at hs
    have hl := enc_pos_len B1 h0
    have hq0 : 0 ≤ A / 10000000000000000000 := by omega
    have hr0 : 0 ≤ A % 10000000000000000000 := by omega
    have hr1 : A % 10000000000000000000 < 10000000000000000000 := by omega
    have hA2 := Int.mul_ediv_add_emod A 10000000000000000000
    generalize hq : A / 10000000000000000000 = q at *
    generalize hr : A % 10000000000000000000 = r at *
    have hrp : r.toNat < 10 ^ 19 := toNat_pw hr0 (by rw [pw10_19]; exact hr1)
    have hf : strconv_FormatUint.f r 10 = some (mkB (dec r)) := by
      unfold strconv_FormatUint.f
      rw [if_pos ⟨hr0, by omega, rfl⟩, decB_mk]
    have hlen := dd_len_le 19 r.toNat (by decide) hrp
    have hsz : (mkB (dec r)).size = (Lib.decDigits r.toNat).length := mkB_size _
    by_cases hqp : 0 < q
    · have hp19 : pw 10 19 = 10000000000000000000 := pw10_19
      have hqlt : q < pw 10 (19 * m) := by
        rw [show 19 * (m + 1) = 19 * m + 19 by omega, pw_add, hp19] at h1
        omega
      obtain ⟨ps, p1, p2, p3⟩ := ih q hqp hqlt (by omega)
      have hd : dec A = dec q ++ padD 19 r.toNat := by
        have h2 := dec_split 19 hqp hr0 (by rw [hp19]; exact hr1)
        rw [hp19, show q * 10000000000000000000 + r = A by omega] at h2
        exact h2
      have hpad := padD_eq 19 r.toNat (by decide) hrp
      have hrep : strings_Repeat.f ⟨#[48]⟩ (19 - ((mkB (dec r)).size : Int)) = some (mkB (List.replicate (19 - (Lib.decDigits r.toNat).length) 48)) := by
        unfold strings_Repeat.f
        have e : (19 - ((mkB (dec r)).size : Int)).toNat = 19 - (Lib.decDigits r.toNat).length := by omega
        rw [e, if_pos ⟨by omega, by omega, by show 1 * _ ≤ _; omega⟩]
        exact congrArg (fun l => some (mkB l)) (repeat48 _)
      have hcat : mkB (List.replicate (19 - (Lib.decDigits r.toNat).length) 48) ++ mkB (dec r) = mkB (padD 19 r.toNat) := by rw [mkB_append, hpad]; rfl
      have hpl : (padD 19 r.toNat).length ≤ 19 := by rw [hpad, List.length_append, List.length_replicate]; omega
      refine ⟨mkB (padD 19 r.toNat) :: ps, by simp; omega, by rw [catL_cons, p2, mkB_list, hd], fun x3 hx hlx => ?_⟩
      have hx1 : catL (x3 ++ [mkB (padD 19 r.toNat)]) = padD 19 r.toNat ++ catL x3 := by rw [catL_append, catL_cons, catL_nil, mkB_list, List.nil_append]
      have key := p3 (x3 ++ [mkB (padD 19 r.toNat)]) (by simp; omega) (by rw [hx1, List.length_append]; rw [hd, List.length_append] at hlx; omega)
      rw [List.append_assoc, List.singleton_append] at key
      have hql := enc_pos_len B1 hqp
      refine Ev.step (f := fun k => (nat_short.f k (enc B A) 10000000000000000000).bind fun b => (strconv_FormatUint.f b.2 10).bind fun t => if (b.1.length : Int) > 0 then ((strings_Repeat.f ⟨#[48]⟩ (wrap64 (19 - (t.size : Int)))).bind fun t2 => if t2.size + t.size ≤ 9223372036854775807 then (if x3.length < 8796093022208 then nat_Text.l0 k b.1 (x3 ++ [t2 ++ t]) else none) else none) else (if x3.length < 8796093022208 then nat_Text.l0 k b.1 (x3 ++ [t]) else none)) (fun k => ?_) (Ev.bind hs ?_)
      · simp only [nat_Text.l0]
        rw [if_pos (by omega)]
      · refine Ev.congr (fun k => ?_) key
        rw [hf]
        simp only [Option.bind_some]
        rw [if_pos (by omega), w64 (x := 19 - ((mkB (dec r)).size : Int)) (by omega) (by omega), hrep]
        simp only [Option.bind_some]
        rw [if_pos (by rw [mkB_size, mkB_size, List.length_replicate]; have := hsz; rw [mkB_size] at this; omega), if_pos (by omega), hcat]
    · obtain rfl : q = 0 := by omega
      have hAr : A = r := by omega
      subst hAr
      refine ⟨[mkB (dec A)], by simp, by rw [catL_cons, catL_nil, mkB_list, List.nil_append], fun x3 hx hlx => ?_⟩
      have hx1 : catL (x3 ++ [mkB (dec A)]) = dec A ++ catL x3 := by rw [catL_append, catL_cons, catL_nil, mkB_list, List.nil_append]
      have key := ntext_end (x3 := x3 ++ [mkB (dec A)]) (by simp) (by rw [hx1, List.length_append]; exact hlx)
      refine Ev.step (f := fun k => (nat_short.f k (enc B A) 10000000000000000000).bind fun b => (strconv_FormatUint.f b.2 10).bind fun t => if (b.1.length : Int) > 0 then ((strings_Repeat.f ⟨#[48]⟩ (wrap64 (19 - (t.size : Int)))).bind fun t2 => if t2.size + t.size ≤ 9223372036854775807 then (if x3.length < 8796093022208 then nat_Text.l0 k b.1 (x3 ++ [t2 ++ t]) else none) else none) else (if x3.length < 8796093022208 then nat_Text.l0 k b.1 (x3 ++ [t]) else none)) (fun k => ?_) (Ev.bind hs ?_)
      · simp only [nat_Text.l0]
        rw [if_pos (by omega)]
      · refine Ev.congr (fun k => ?_) key
        rw [hf]
        simp only [Option.bind_some]
        rw [enc_zero, if_neg (by simp), if_pos (by omega)]
theorem dec_len {A : Int} (h0 : 0 ≤ A) {n : Nat} (h : A < pw B n) (h1 : 1 ≤ n) : (dec A).length ≤ 38 * n :=
  dd_len_le (38 * n) A.toNat (by omega) (toNat_pw h0 (Int.lt_of_lt_of_le h (pwB_10 n)))
theorem nText_ev {a : List Int} (ha : Dig B a) (hL : a.length ≤ 1048576) : Ev (fun k => nat_Text.f k a) (mkB (dec (val B a))) := by
  have hA := val_nonneg Bpos ha
  have hlt := pval_lt Bpos ha
  refine Ev.congr (fun k => by unfold nat_Text.f; rfl) (Ev.bind (trim_ev ha (by omega)) ?_)
  by_cases h : 0 < val B a
  · have hn : 1 ≤ a.length := by
      by_cases h0 : a.length = 0
      · rw [List.length_eq_zero_iff] at h0; subst h0; rw [val_nil] at h; omega
      · omega
    have hb := Int.lt_of_lt_of_le hlt (pwB_10 a.length)
    rw [show 38 * a.length = 19 * (2 * a.length) by omega] at hb
    obtain ⟨ps, p1, p2, p3⟩ := ntext_l0 (2 * a.length) (val B a) h hb (by omega)
    have hd := dec_len hA hlt hn
    have := p3 [] (by simp; omega) (by rw [catL_nil]; simp; omega)
    rw [List.nil_append] at this
    have e : catB ps = mkB (dec (val B a)) := by unfold catB; rw [p2]; rfl
    rw [e] at this
    exact this
  · have h0 : val B a = 0 := by omega
    rw [h0, enc_zero]
    have e : mkB (dec 0) = (⟨#[48]⟩ : ByteArray) := by
      show mkB (Lib.decDigits 0) = _
      rw [Lib.decDigits_one (by decide)]; rfl
    rw [e]
    refine Ev.step (f := fun _ => some ⟨#[48]⟩) (fun k => ?_) (Ev.now _)
    simp only [nat_Text.l0]
    rw [if_neg (by simp), if_pos (by simp)]
end Go.Proofs.YthgmkigfgcejgaaDoor.PNat
