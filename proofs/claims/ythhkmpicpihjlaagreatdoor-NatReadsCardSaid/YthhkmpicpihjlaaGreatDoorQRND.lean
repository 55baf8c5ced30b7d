/- What the functions of the reference vernierref04 come to, second part: Shl, Meant, Cut, Mul, Word, Shr, Told, Same; the law's own 'is' and 'shown'. -/
import Derived.Test.YthhkmpicpihjlaaGreatDoorQRNC
import Derived.Test.YthhkmpicpihjlaaGreatDoorQRPNatx5
import Derived.Test.YthhkmpicpihjlaaGreatDoorQRPNatx7
set_option linter.unusedVariables false
set_option linter.unusedSimpArgs false
namespace Go.Proofs.YthhkmpicpihjlaaGreatDoor.PNat
open Go.RowKit Go.Proofs.YthhkmpicpihjlaaGreatDoorW.PrintWords Go.Proofs.YthhkmpicpihjlaaGreatDoorW.PrintLast Go.Proofs.YthhkmpicpihjlaaGreatDoorW.PrintMore Go.Proofs.YthhkmpicpihjlaaGreatDoor.M Go.Proofs.YthhkmpicpihjlaaGreatDoor.NM
attribute [local irreducible] add64Lo add64Hi sub64Lo sub64Hi val
theorem pw2_pos (i : Nat) : 0 < pw 2 i := pw_pos (by decide) i
theorem pw2_le_D {i : Nat} (h : i ≤ 24) : pw 2 i ≤ D := by rw [← pw2_24]; exact pw_le (by decide) h
theorem rtwo_l0 {n : Nat} (hn : n ≤ 24) : ∀ (d i : Nat), i + d = n → Ev (fun k => vernierref04_two.l0 k (n : Int) (pw 2 i) (i : Int)) (pw 2 n) := by
  intro d
  induction d with
  | zero =>
    intro i hi
    obtain rfl : i = n := by omega
    refine Ev.step (f := fun _ => some (pw 2 i)) (fun k => ?_) (Ev.now _)
    simp only [vernierref04_two.l0]
    rw [if_neg (by omega)]
  | succ d ih =>
    intro i hi
    have h1 := pw2_pos i
    have h2 : pw 2 i ≤ 16777216 := by rw [← Ddef]; exact pw2_le_D (by omega)
    refine Ev.step (f := fun k => vernierref04_two.l0 k (n : Int) (pw 2 (i + 1)) ((i + 1 : Nat) : Int)) (fun k => ?_) (ih (i + 1) (by omega))
    simp only [vernierref04_two.l0]
    rw [if_pos (by omega), w64 (by omega) (by omega), w64 (by omega) (by omega), pw_succ, Int.mul_comm (pw 2 i) 2]
    rfl
theorem rtwo_ev {n : Nat} (hn : n ≤ 24) : Ev (fun k => vernierref04_two.f k (n : Int)) (pw 2 n) := by
  have := rtwo_l0 hn n 0 (by omega)
  rw [pw_zero] at this
  exact this
theorem tdiv24 (k : Nat) : Int.tdiv (k : Int) 24 = ((k / 24 : Nat) : Int) := by rw [Int.tdiv_eq_ediv_of_nonneg (by omega)]; omega
theorem tmod24 (k : Nat) : Int.tmod (k : Int) 24 = ((k % 24 : Nat) : Int) := by rw [Int.tmod_eq_emod_of_nonneg (by omega)]; omega
theorem pw2_split (k : Nat) : pw 2 k = pw 2 (k % 24) * pw D (k / 24) := by rw [pwD, ← pw_add]; congr 1; omega
theorem rCut_l0 {l : List Int} (h : Dig D l) (hL : l.length ≤ 1099511627776) : ∀ n : Nat, n ≤ l.length → Ev (fun k => vernierref04_Cut.l0 k l (n : Int)) (enc D (val D (l.take n))) := by
  intro n
  induction n with
  | zero =>
    intro _
    refine Ev.step (f := fun _ => some []) (fun k => ?_) (by rw [List.take_zero, val_nil, enc_zero]; exact Ev.now _)
    simp only [vernierref04_Cut.l0]
    rw [if_neg (by omega), if_pos (by omega), if_pos (by omega)]
    simp
  | succ n ih =>
    intro hn
    have hw : Aside0 (wrap64 (((n + 1 : Nat) : Int) - 1) = (n : Int)) := ⟨by rw [w64 (by omega) (by omega)]; omega⟩
    have hd := h.take (n + 1)
    have ht : l.take (n + 1) = l.take n ++ [l.getD n 0] := by
      rw [List.take_succ_eq_append_getElem (by omega), List.getD_eq_getElem?_getD, List.getElem?_eq_getElem (by omega)]; rfl
    rw [ht] at hd
    have he := enc_snoc D1 hd
    rw [← ht] at he
    by_cases h0 : l.getD n 0 = 0
    · rw [if_pos h0] at he
      rw [he]
      refine Ev.step (f := fun k => vernierref04_Cut.l0 k l (n : Int)) (fun k => ?_) (ih (by omega))
      simp only [vernierref04_Cut.l0]
      rw [hw.out, if_pos (by omega), if_pos (by omega), if_pos (by omega), rd_nat, if_pos h0]
    · rw [if_neg h0] at he
      rw [he]
      refine Ev.step (f := fun _ => some (l.take (n + 1))) (fun k => ?_) (Ev.now _)
      simp only [vernierref04_Cut.l0]
      rw [hw.out, if_pos (by omega), if_pos (by omega), if_pos (by omega), rd_nat, if_neg h0, if_pos (by omega), if_pos (by omega)]
      rfl
theorem rCut_ev {l : List Int} (h : Dig D l) (hL : l.length ≤ 1099511627776) : Ev (fun k => vernierref04_Cut.f k l) (enc D (val D l)) := by
  have := rCut_l0 h hL l.length (Nat.le_refl _)
  rw [List.take_length] at this
  exact this
theorem emod_mul_add (X p r : Int) {b : Int} : ((X % b) * p + r) % b = (X * p + r) % b := by
  have h := Int.mul_ediv_add_emod X b
  have e : X * p + r = (X % b) * p + r + b * (X / b * p) := by
    have : X * p = (b * (X / b) + X % b) * p := by rw [h]
    rw [this, Int.add_mul, Int.mul_assoc]; omega
  rw [e, Int.add_mul_emod_self_left]
theorem word_arith {w d p r R : Int} (h : d * p + r = R) : (w * 16777216 + d) * p + r = w * (p * 16777216) + R := by grind
theorem emod_pw_succ {n b : Int} (hb : 0 < b) (hn : 0 ≤ n) (i : Nat) : n / pw b i % b * pw b i + n % pw b i = n % pw b (i + 1) := by
  have hp := pw_pos hb i
  have h1 := Int.mul_ediv_add_emod n (pw b i)
  have h2 := Int.mul_ediv_add_emod (n / pw b i) b
  have h3 := Int.emod_nonneg n (show pw b i ≠ 0 by omega)
  have h4 := Int.emod_lt_of_pos n hp
  have h5 := Int.emod_nonneg (n / pw b i) (show b ≠ 0 by omega)
  have h6 := Int.emod_lt_of_pos (n / pw b i) hb
  have e : n = n / pw b i % b * pw b i + n % pw b i + pw b (i + 1) * (n / pw b i / b) := by
    rw [pw_succ]
    generalize pw b i = p at *
    generalize hq : n / p = q at *
    generalize n % p = r at *
    generalize hs : q / b = s at *
    generalize q % b = t at *
    rw [← h1, ← h2]
    grind
  have lo : 0 ≤ n / pw b i % b * pw b i + n % pw b i := by have := Int.mul_nonneg h5 (Int.le_of_lt hp); omega
  have hi : n / pw b i % b * pw b i + n % pw b i < pw b (i + 1) := by
    rw [pw_succ]
    have h7 : (n / pw b i % b + 1) * pw b i ≤ b * pw b i := Int.mul_le_mul_of_nonneg_right (by omega) (Int.le_of_lt hp)
    rw [Int.add_mul, Int.one_mul, Int.mul_comm b] at h7
    omega
  have h8 := Int.add_mul_emod_self_left (n / pw b i % b * pw b i + n % pw b i) (pw b (i + 1)) (n / pw b i / b)
  rw [← e, Int.emod_eq_of_lt lo hi] at h8
  exact h8.symm
theorem rWord_l0 {A : Int} (hA : 0 ≤ A) : ∀ (i : Nat) (w : Int), i ≤ 1000 → 0 ≤ w → w < B → Ev (fun k => vernierref04_Word.l0 k (enc D A) w ((i : Int) - 1)) ((w * pw D i + A % pw D i) % B) := by
  intro i
  induction i with
  | zero =>
    intro w _ h0 h1
    rw [pw_zero, Int.mul_one, Int.emod_one, Int.add_zero, Int.emod_eq_of_lt h0 h1]
    refine Ev.step (f := fun _ => some w) (fun k => ?_) (Ev.now _)
    simp only [vernierref04_Word.l0]
    rw [if_neg (by omega)]
  | succ i ih =>
    intro w hi h0 h1
    have hw : Aside0 (wrap64 ((i : Int) - 1) = (i : Int) - 1) := ⟨w64 (by omega) (by omega)⟩
    have e : ((i + 1 : Nat) : Int) - 1 = (i : Int) := by omega
    have key := ih ((w * 16777216 + A / pw D i % D) % B) (by omega) (Int.emod_nonneg _ (by have := Bpos; omega)) (Int.emod_lt_of_pos _ Bpos)
    rw [emod_mul_add, word_arith (emod_pw_succ Dpos hA i)] at key
    rw [show pw D i * 16777216 = pw D (i + 1) by rw [pw_succ, Ddef]] at key
    refine Ev.step (f := fun k => vernierref04_Word.l0 k (enc D A) ((w * 16777216 + A / pw D i % D) % B) ((i : Int) - 1)) (fun k => ?_) key
    simp only [vernierref04_Word.l0]
    rw [e, if_pos (by omega), digit_spec, enc_get D1 hA]
    simp only [Option.bind_some]
    rw [hw.out, IntKind.wrap_u64, IntKind.wrap_u64, IntKind.wrap_u64, ← Int.add_emod, Bdef]
theorem rWord_ev {A : Int} (hA : 0 ≤ A) : Ev (fun k => vernierref04_Word.f k (enc D A)) (A % B) := by
  have := rWord_l0 hA 3 0 (by omega) (by omega) Bpos
  rw [Int.zero_mul, Int.zero_add, Int.emod_emod_of_dvd A (show B ∣ pw D 3 from ⟨256, by rw [pw_def, Bdef, Ddef]; decide⟩)] at this
  exact this
theorem shr_digit {M f g : Int} (hf : 0 < f) (hg : 0 < g) (hM : 0 ≤ M) : M / f % (f * g) = M % (f * g) / f + M / (f * g) % (f * g) % f * g := by
  have h1 := Int.mul_ediv_add_emod M (f * g)
  have hb : 0 < f * g := Int.mul_pos hf hg
  have h2 := Int.emod_nonneg M (show f * g ≠ 0 by omega)
  have h3 := Int.emod_lt_of_pos M hb
  have h4 : M / (f * g) % (f * g) % f = M / (f * g) % f := Int.emod_emod_of_dvd _ ⟨g, rfl⟩
  rw [h4]
  generalize hq : M / (f * g) = q at *
  generalize hr : M % (f * g) = r at *
  have e1 : M = r + f * (g * q) := by rw [← h1, ← Int.mul_assoc]; omega
  have e2 : M / f = r / f + g * q := by rw [e1, Int.add_mul_ediv_left _ _ (by omega)]
  have h5 := Int.mul_ediv_add_emod q f
  have h6 := Int.emod_nonneg q (show f ≠ 0 by omega)
  have h7 := Int.emod_lt_of_pos q hf
  have h8 : 0 ≤ r / f := Int.ediv_nonneg h2 (by omega)
  have h9 : r / f < g := Int.ediv_lt_of_lt_mul hf (by rw [Int.mul_comm]; exact h3)
  have e3 : r / f + g * q = (r / f + q % f * g) + f * g * (q / f) := by
    have : g * q = g * (f * (q / f) + q % f) := by rw [h5]
    rw [this]; grind
  rw [e2, e3, Int.add_mul_emod_self_left]
  have lo : 0 ≤ r / f + q % f * g := by have := Int.mul_nonneg h6 (Int.le_of_lt hg); omega
  have hi : r / f + q % f * g < f * g := by
    have : (q % f + 1) * g ≤ f * g := Int.mul_le_mul_of_nonneg_right (by omega) (by omega)
    rw [Int.add_mul, Int.one_mul] at this
    omega
  exact Int.emod_eq_of_lt lo hi
theorem div_div_comm {n a b : Int} (ha : 0 ≤ a) (hb : 0 ≤ b) : n / a / b = n / b / a := by
  rw [Int.ediv_ediv_of_nonneg ha, Int.ediv_ediv_of_nonneg hb, Int.mul_comm]
theorem rShr_l0 {M : Int} (hM : 0 ≤ M) {s : Nat} (hs : s ≤ 23) (hL : (enc D M).length ≤ 549755813888) : ∀ (d i : Nat) (x : List Int), i + d = (enc D M).length → x.length = (enc D M).length → Dig D x → val D (x.take i) = M / pw 2 s % pw D i →
    Ev (fun k => vernierref04_Shr.l0 k (enc D M) (pw 2 s) x (i : Int)) (enc D (M / pw 2 s)) := by
  have hf := pw2_pos s
  have hfD : pw 2 s * pw 2 (24 - s) = D := by rw [← pw_add, ← pw2_24]; congr 1; omega
  have hg := pw2_pos (24 - s)
  intro d
  induction d with
  | zero =>
    intro i x hi hx hd hv
    obtain rfl : i = x.length := by omega
    rw [List.take_length] at hv
    have hlt : M / pw 2 s < pw D x.length := by
      rw [hx]
      refine Int.lt_of_le_of_lt (Int.ediv_le_self _ hM) ?_
      have := pval_lt Dpos (dig_enc' D1 M)
      rw [val_enc' D1 hM] at this
      exact this
    rw [Int.emod_eq_of_lt (Int.ediv_nonneg hM (Int.le_of_lt hf)) hlt] at hv
    refine Ev.step (f := fun k => (vernierref04_Cut.f k x).bind fun t => some t) (fun k => ?_) (Ev.bind (by rw [← hv]; exact rCut_ev hd (by omega)) (Ev.now _))
    simp only [vernierref04_Shr.l0]
    rw [if_neg (by omega)]
  | succ d ih =>
    intro i x hi hx hd hv
    have hw1 : Aside0 (wrap64 ((i : Int) + 1) = ((i + 1 : Nat) : Int)) := ⟨by rw [w64 (by omega) (by omega)]; omega⟩
    have hlt : i < x.length := by omega
    have hi1 : i + 1 + d = (enc D M).length := by omega
    have hMi := div_pw_nonneg Dpos hM i
    have hsd := shr_digit hf hg hMi
    rw [hfD, ← div_pw_succ Dpos] at hsd
    have hcc : M / pw D i / pw 2 s = M / pw 2 s / pw D i := div_div_comm (Int.le_of_lt (pw_pos Dpos i)) (Int.le_of_lt hf)
    rw [hcc] at hsd
    have hMs := Int.ediv_nonneg hM (Int.le_of_lt hf)
    have hdg0 := Int.emod_nonneg (M / pw 2 s / pw D i) (show D ≠ 0 by have := D1; omega)
    have hdg1 := Int.emod_lt_of_pos (M / pw 2 s / pw D i) Dpos
    have key := ih (i + 1) (x.set i (M / pw 2 s / pw D i % D)) hi1 (by simpa using hx) (hd.set hdg0 hdg1) (by
      rw [pval_take_set D x i _ hlt, hv, ← emod_pw_succ Dpos hMs i, Int.mul_comm (pw D i)]; omega)
    have a0 := Int.emod_nonneg (M / pw D i) (show D ≠ 0 by have := D1; omega)
    have a1 := Int.emod_lt_of_pos (M / pw D i) Dpos
    have b0 := Int.emod_nonneg (M / pw D (i + 1)) (show D ≠ 0 by have := D1; omega)
    have b1 := Int.emod_lt_of_pos (M / pw D (i + 1)) Dpos
    have c0 := Int.emod_nonneg (M / pw D (i + 1) % D) (show pw 2 s ≠ 0 by omega)
    have c1 := Int.emod_lt_of_pos (M / pw D (i + 1) % D) hf
    have q0 : 0 ≤ M / pw D i % D / pw 2 s := Int.ediv_nonneg a0 (Int.le_of_lt hf)
    have q1 : M / pw D i % D / pw 2 s ≤ M / pw D i % D := Int.ediv_le_self _ a0
    have hgd : (16777216 : Int) / pw 2 s = pw 2 (24 - s) := by rw [← Ddef, ← hfD, Int.mul_ediv_cancel_left _ (by omega)]
    have p0 : 0 ≤ M / pw D (i + 1) % D % pw 2 s * pw 2 (24 - s) := Int.mul_nonneg c0 (Int.le_of_lt hg)
    have hA1 : Aside0 (wrap64 (Int.tdiv (16777216 : Int) (pw 2 s)) = pw 2 (24 - s)) := ⟨by
      rw [Int.tdiv_eq_ediv_of_nonneg (by omega), hgd]
      have := pw2_le_D (i := 24 - s) (by omega)
      rw [Ddef] at this
      exact w64 (by omega) (by omega)⟩
    rw [hsd] at key hdg1
    have hA2 : Aside0 (wrap64 (wrap64 (Int.tdiv (M / pw D i % D) (pw 2 s)) + wrap64 (Int.tmod (M / pw D (i + 1) % D) (pw 2 s) * pw 2 (24 - s))) = M / pw D i % D / pw 2 s + M / pw D (i + 1) % D % pw 2 s * pw 2 (24 - s)) := ⟨by
      rw [Int.tdiv_eq_ediv_of_nonneg a0, Int.tmod_eq_emod_of_nonneg b0]
      rw [Ddef] at a1 hdg1 q1 q0 p0 ⊢
      rw [w64 (x := M / pw 16777216 i % 16777216 / pw 2 s) (by omega) (by omega), w64 (x := M / pw 16777216 (i + 1) % 16777216 % pw 2 s * pw 2 (24 - s)) (by omega) (by omega), w64 (by omega) (by omega)]⟩
    refine Ev.step (f := fun k => vernierref04_Shr.l0 k (enc D M) (pw 2 s) (x.set i (M / pw D i % D / pw 2 s + M / pw D (i + 1) % D % pw 2 s * pw 2 (24 - s))) ((i + 1 : Nat) : Int)) (fun k => ?_) key
    simp only [vernierref04_Shr.l0]
    rw [hw1.out, digit_spec, rd_nat, enc_get D1 hM, enc_get D1 hM]
    simp only [Option.bind_some]
    rw [hA1.out, hA2.out, if_pos (by omega), if_pos (by omega), if_neg (by omega), if_pos (by omega)]
    rfl
theorem rShr_ev {A : Int} (hA : 0 ≤ A) (k : Nat) (hk : k ≤ 9223372036854775807) (hL : (enc D A).length ≤ 549755813888) : Ev (fun n => vernierref04_Shr.f n (enc D A) (k : Int)) (enc D (A / pw 2 k)) := by
  have hq : Aside0 (wrap64 (Int.tdiv (k : Int) 24) = ((k / 24 : Nat) : Int)) := ⟨by rw [tdiv24]; exact w64 (by omega) (by omega)⟩
  by_cases h : (enc D A).length ≤ k / 24
  · have hlt : A < pw 2 k := by
      have h1 := pval_lt Dpos (dig_enc' D1 A)
      rw [val_enc' D1 hA] at h1
      refine Int.lt_of_lt_of_le h1 ?_
      rw [pwD]
      exact pw_le (by decide) (by omega)
    rw [Int.ediv_eq_zero_of_lt hA hlt, enc_zero]
    exact Ev.congr (f := fun _ => some []) (fun n => by unfold vernierref04_Shr.f; rw [hq.out, if_pos (by omega)]) (Ev.now _)
  · have hdr := enc_drop D1 hA (k / 24)
    have hM := div_pw_nonneg Dpos hA (k / 24)
    have hlen : (enc D (A / pw D (k / 24))).length ≤ (enc D A).length := by rw [← hdr, List.length_drop]; omega
    have e : A / pw D (k / 24) / pw 2 (k % 24) = A / pw 2 k := by
      rw [Int.ediv_ediv_of_nonneg (Int.le_of_lt (pw_pos Dpos _)), pw2_split k, Int.mul_comm]
    refine Ev.congr (f := fun n => (vernierref04_two.f n ((k % 24 : Nat) : Int)).bind fun t => vernierref04_Shr.l0 n (enc D (A / pw D (k / 24))) t (List.replicate (enc D (A / pw D (k / 24))).length 0) ((0 : Nat) : Int)) (fun n => ?_)
      (Ev.bind (rtwo_ev (by omega)) (by rw [← e]; exact rShr_l0 hM (s := k % 24) (by omega) (by omega) (enc D (A / pw D (k / 24))).length 0 _ (by omega) (by simp) (Dig.zeros Dpos _) (by rw [List.take_zero, val_nil, pw_zero, Int.emod_one])))
    unfold vernierref04_Shr.f
    rw [hq.out, if_neg (by omega), if_pos (by omega), if_pos (by omega), tmod24, Int.toNat_natCast, hdr]
    simp only [Option.bind_some]
    congr 1
    funext t
    rw [if_pos (by omega), Int.toNat_natCast, if_pos (by omega)]
    rfl
theorem rTold_l0 : ∀ (d : Nat) (A : Int) (out : List Int), 0 ≤ A → A < pw B d → d ≤ 4294967296 → out.length + d ≤ 1099511627776 → Ev (fun k => vernierref04_Told.l0 k (enc D A) out) (out ++ enc B A) := by
  intro d
  induction d with
  | zero =>
    intro A out h0 h1 _ hL
    rw [pw_zero] at h1
    obtain rfl : A = 0 := by omega
    rw [enc_zero, enc_zero, List.append_nil]
    refine Ev.step (f := fun _ => some out) (fun k => ?_) (Ev.now _)
    simp only [vernierref04_Told.l0]
    rw [if_neg (by simp)]
  | succ d ih =>
    intro A out h0 h1 h2 hL
    by_cases hp : 0 < A
    · have hl : 0 < (enc D A).length := (enc_lt D1 h0 0).2 (by rw [div_pw_zero]; exact hp)
      have hlen : (enc D A).length ≤ 3 * (d + 1) := penc_len D1 (Int.lt_of_lt_of_le h1 (pwB_le _))
      have key := ih (A / B) (out ++ [A % B]) (Int.ediv_nonneg h0 (Int.le_of_lt Bpos)) (lt_of_div B1 h1) (by omega) (by simp; omega)
      rw [enc_step B1 hp] at key
      refine Ev.step (f := fun k => (vernierref04_Word.f k (enc D A)).bind fun t => (vernierref04_Shr.f k (enc D A) ((64 : Nat) : Int)).bind fun u => vernierref04_Told.l0 k u (out ++ [t])) (fun k => ?_)
        (Ev.bind (rWord_ev h0) (Ev.bind (rShr_ev h0 64 (by omega) (by omega)) (by rw [pw2_64]; exact key)))
      simp only [vernierref04_Told.l0]
      rw [if_pos (by omega)]
      congr 1
      funext t
      rw [if_pos (by omega)]
      rfl
    · obtain rfl : A = 0 := by omega
      rw [enc_zero, enc_zero, List.append_nil]
      refine Ev.step (f := fun _ => some out) (fun k => ?_) (Ev.now _)
      simp only [vernierref04_Told.l0]
      rw [if_neg (by simp)]
theorem rTold_ev {A : Int} (h0 : 0 ≤ A) {d : Nat} (h1 : A < pw B d) (h2 : d ≤ 4294967296) : Ev (fun k => vernierref04_Told.f k (enc D A)) (enc B A) := by
  have := rTold_l0 d A [] h0 h1 h2 (by simp; omega)
  rw [List.nil_append] at this
  exact this
theorem same_l0 {a b : List Int} (hab : a.length = b.length) (hL : a.length ≤ 1099511627776) : ∀ (d i : Nat), i + d = a.length → Ev (fun k => vernierref04_Same.l0 k a b (i : Int)) (decide (a.drop i = b.drop i)) := by
  intro d
  induction d with
  | zero =>
    intro i hi
    rw [List.drop_of_length_le (by omega), List.drop_of_length_le (by omega), decide_eq_true rfl]
    refine Ev.step (f := fun _ => some true) (fun k => ?_) (Ev.now _)
    simp only [vernierref04_Same.l0]
    rw [if_neg (by omega)]
  | succ d ih =>
    intro i hi
    have hw1 : Aside0 (wrap64 ((i : Int) + 1) = ((i + 1 : Nat) : Int)) := ⟨by rw [w64 (by omega) (by omega)]; omega⟩
    have ha : a.drop i = a.getD i 0 :: a.drop (i + 1) := by rw [List.drop_eq_getElem_cons (by omega), List.getD_eq_getElem?_getD, List.getElem?_eq_getElem (by omega)]; rfl
    have hb : b.drop i = b.getD i 0 :: b.drop (i + 1) := by rw [List.drop_eq_getElem_cons (by omega), List.getD_eq_getElem?_getD, List.getElem?_eq_getElem (by omega)]; rfl
    by_cases he : a.getD i 0 = b.getD i 0
    · have : decide (a.drop i = b.drop i) = decide (a.drop (i + 1) = b.drop (i + 1)) := by rw [ha, hb, he]; simp
      rw [this]
      refine Ev.step (f := fun k => vernierref04_Same.l0 k a b ((i + 1 : Nat) : Int)) (fun k => ?_) (ih (i + 1) (by omega))
      simp only [vernierref04_Same.l0]
      rw [hw1.out, if_pos (by omega), if_pos (by omega), if_pos (by omega), rd_nat, rd_nat, if_pos he]
    · rw [ha, hb, decide_eq_false (fun e => he (List.cons.inj e).1)]
      refine Ev.step (f := fun _ => some false) (fun k => ?_) (Ev.now _)
      simp only [vernierref04_Same.l0]
      rw [if_pos (by omega), if_pos (by omega), if_pos (by omega), rd_nat, rd_nat, if_neg he]
theorem same_ev (a b : List Int) (hL : a.length ≤ 1099511627776) : Ev (fun k => vernierref04_Same.f k a b) (decide (a = b)) := by
  by_cases h : a.length = b.length
  · have := same_l0 h hL a.length 0 (by omega)
    rw [List.drop_zero, List.drop_zero] at this
    refine Ev.congr (fun k => ?_) this
    unfold vernierref04_Same.f
    rw [if_pos (by omega)]
    rfl
  · rw [decide_eq_false (fun e => h (by rw [e]))]
    exact Ev.congr (f := fun _ => some false) (fun k => by unfold vernierref04_Same.f; rw [if_neg (by omega)]) (Ev.now _)
theorem is_ev (a : List Int) {A : Int} (hL : a.length ≤ 1099511627776) (h0 : 0 ≤ A) {d : Nat} (h1 : A < pw B d) (h2 : d ≤ 4294967296) : Ev (fun k => vernierlaw04_is.f k a (enc D A)) (decide (a = enc B A)) := by
  refine Ev.congr (f := fun k => (vernierref04_Told.f k (enc D A)).bind fun t => (vernierref04_Same.f k a t).bind fun u => some u) (fun k => ?_) (Ev.bind (rTold_ev h0 h1 h2) (Ev.bind (same_ev a _ hL) (Ev.now _)))
  rfl
theorem shown_ev : Ev (fun k => vernierlaw04_shown.f k) true := Ev.of vernierlaw04_shown.mono (k := 12) (by decide +kernel)
end Go.Proofs.YthhkmpicpihjlaaGreatDoor.PNat
