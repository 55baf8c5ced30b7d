/- What the functions of the reference vernierref04 come to, as plain arithmetic. -/
import Derived.Test.YthhkmpicpihjlaaGreatDoorQRPNatx8
import Derived.Test.YthhkmpicpihjlaaGreatDoorQRPNatx7
import Derived.Test.YthhkmpicpihjlaaGreatDoorQRPNatx6
import Derived.Test.YthhkmpicpihjlaaGreatDoorQRNA
set_option linter.unusedVariables false
set_option linter.unusedSimpArgs false
namespace Go.Proofs.YthhkmpicpihjlaaGreatDoor.PNat
open Go.RowKit Go.Proofs.YthhkmpicpihjlaaGreatDoorW.PrintWords Go.Proofs.YthhkmpicpihjlaaGreatDoorW.PrintLast Go.Proofs.YthhkmpicpihjlaaGreatDoorW.PrintMore Go.Proofs.YthhkmpicpihjlaaGreatDoor.M Go.Proofs.YthhkmpicpihjlaaGreatDoor.NM
attribute [local irreducible] add64Lo add64Hi sub64Lo sub64Hi val
theorem Dpos : 0 < D := by have := D1; omega
theorem digit_spec (l : List Int) (i : Nat) : vernierref04_digit.f l (i : Int) = some (l.getD i 0) := by
  unfold vernierref04_digit.f
  by_cases h : i < l.length
  · rw [if_pos (by omega), if_pos (by omega), rd_nat]
  · rw [if_neg (by omega), List.getD_eq_getElem?_getD, List.getElem?_eq_none (by omega)]; rfl
theorem tmodD {x : Int} (h : 0 ≤ x) : Int.tmod x 16777216 = x % D := by rw [Ddef]; exact Int.tmod_eq_emod_of_nonneg h
theorem tdivD {x : Int} (h : 0 ≤ x) : Int.tdiv x 16777216 = x / D := by rw [Ddef]; exact Int.tdiv_eq_ediv_of_nonneg h
theorem add_arith {X Y c b t : Int} (hb : 0 < b) (ht : t = X % b + Y % b + c) : (X + Y + c) % b = t % b ∧ (X + Y + c) / b = X / b + Y / b + t / b := by
  have h1 := Int.mul_ediv_add_emod X b
  have h2 := Int.mul_ediv_add_emod Y b
  have e : X + Y + c = t + b * (X / b + Y / b) := by rw [ht, Int.mul_add]; omega
  rw [e, Int.add_mul_emod_self_left, Int.add_mul_ediv_left _ _ (by omega)]
  exact ⟨rfl, by omega⟩
theorem rAdd_l0 {A C : Int} (hA : 0 ≤ A) (hC : 0 ≤ C) : ∀ (d i : Nat) (c : Int) (out : List Int), A / pw D i + C / pw D i + c < pw D d → 0 ≤ c → c ≤ 1 → out.length = i → i + d ≤ 1099511627776 →
    Ev (fun k => vernierref04_Add.l0 k (enc D A) (enc D C) out c (i : Int)) (out ++ enc D (A / pw D i + C / pw D i + c)) := by
  intro d
  induction d with
  | zero =>
    intro i c out hv h0 h1 ho hL
    have hx := div_pw_nonneg Dpos hA i
    have hy := div_pw_nonneg Dpos hC i
    rw [pw_zero] at hv
    have hxl := enc_lt D1 hA i
    have hyl := enc_lt D1 hC i
    have e : A / pw D i + C / pw D i + c = 0 := by omega
    rw [e, enc_zero, List.append_nil]
    refine Ev.step (f := fun k => vernierref04_Add.j1 k (enc D A) (enc D C) out c (i : Int) false) (fun k => ?_) (Ev.step (f := fun _ => some out) (fun k => ?_) (Ev.now _))
    · simp only [vernierref04_Add.l0]
      rw [if_neg (by omega), if_neg (by omega), decide_eq_false (by omega)]
    · simp only [vernierref04_Add.j1]
      rw [if_neg (by decide)]
  | succ d ih =>
    intro i c out hv h0 h1 ho hL
    have hx := div_pw_nonneg Dpos hA i
    have hy := div_pw_nonneg Dpos hC i
    have hxl := enc_lt D1 hA i
    have hyl := enc_lt D1 hC i
    by_cases hp : 0 < A / pw D i + C / pw D i + c
    · have hxd := Int.emod_nonneg (A / pw D i) (show D ≠ 0 by have := D1; omega)
      have hyd := Int.emod_nonneg (C / pw D i) (show D ≠ 0 by have := D1; omega)
      have hxd1 := Int.emod_lt_of_pos (A / pw D i) Dpos
      have hyd1 := Int.emod_lt_of_pos (C / pw D i) Dpos
      obtain ⟨t, ht⟩ : ∃ t, t = A / pw D i % D + C / pw D i % D + c := ⟨_, rfl⟩
      obtain ⟨e1, e2⟩ := add_arith Dpos ht
      have ht0 : 0 ≤ t := by omega
      have ht1 : t < 2 * D := by omega
      have ht2 : t ≤ 33554431 := by rw [Ddef] at ht1; omega
      have hc0 : 0 ≤ t / D := Int.ediv_nonneg ht0 (Int.le_of_lt Dpos)
      have hc1 : t / D ≤ 1 := by have := Int.ediv_lt_of_lt_mul Dpos ht1; omega
      have hw1 : Aside0 (wrap64 ((i : Int) + 1) = ((i + 1 : Nat) : Int)) := ⟨by rw [w64 (by omega) (by omega)]; omega⟩
      have key := ih (i + 1) (t / D) (out ++ [t % D]) (by rw [div_pw_succ Dpos, div_pw_succ Dpos, ← e2]; exact lt_of_div D1 hv) hc0 hc1 (by simp [ho]) (by omega)
      rw [div_pw_succ Dpos, div_pw_succ Dpos, ← e2, ← e1, enc_step D1 hp] at key
      have hw : Aside0 (wrap64 (wrap64 (A / pw D i % D + C / pw D i % D) + c) = t) := ⟨by
        rw [Ddef] at hxd1 hyd1
        rw [Ddef] at ht hxd hyd ⊢
        rw [w64 (x := A / pw 16777216 i % 16777216 + C / pw 16777216 i % 16777216) (by omega) (by omega), ← ht, w64 (by omega) (by omega)]⟩
      have hj : Ev (fun k => vernierref04_Add.j1 k (enc D A) (enc D C) out c (i : Int) true) (out ++ enc D (A / pw D i + C / pw D i + c)) := by
        refine Ev.step (f := fun k => vernierref04_Add.l0 k (enc D A) (enc D C) (out ++ [t % D]) (t / D) ((i + 1 : Nat) : Int)) (fun k => ?_) (by rw [← e1]; exact key)
        simp only [vernierref04_Add.j1]
        rw [if_pos trivial, digit_spec, digit_spec, enc_get D1 hA, enc_get D1 hC]
        simp only [Option.bind_some]
        rw [hw.out, if_pos (by omega), tmodD ht0, tdivD ht0, hw1.out]
        rw [w64 (by omega) (by omega)]
      by_cases ha : 0 < A / pw D i
      · refine Ev.step (f := fun k => vernierref04_Add.j1 k (enc D A) (enc D C) out c (i : Int) true) (fun k => ?_) hj
        simp only [vernierref04_Add.l0]
        rw [if_pos (by have := hxl.2 ha; omega)]
      · by_cases hc : 0 < C / pw D i
        · refine Ev.step (f := fun k => vernierref04_Add.j1 k (enc D A) (enc D C) out c (i : Int) true) (fun k => ?_) hj
          simp only [vernierref04_Add.l0]
          rw [if_neg (by omega), if_pos (by have := hyl.2 hc; omega)]
        · refine Ev.step (f := fun k => vernierref04_Add.j1 k (enc D A) (enc D C) out c (i : Int) true) (fun k => ?_) hj
          simp only [vernierref04_Add.l0]
          rw [if_neg (by omega), if_neg (by omega), decide_eq_true (by omega)]
    · have e : A / pw D i + C / pw D i + c = 0 := by omega
      rw [e, enc_zero, List.append_nil]
      refine Ev.step (f := fun k => vernierref04_Add.j1 k (enc D A) (enc D C) out c (i : Int) false) (fun k => ?_) (Ev.step (f := fun _ => some out) (fun k => ?_) (Ev.now _))
      · simp only [vernierref04_Add.l0]
        rw [if_neg (by omega), if_neg (by omega), decide_eq_false (by omega)]
      · simp only [vernierref04_Add.j1]
        rw [if_neg (by decide)]
theorem rAdd_ev {A C : Int} (hA : 0 ≤ A) (hC : 0 ≤ C) {m : Nat} (hm : A + C < pw D m) (hL : m ≤ 1099511627776) : Ev (fun k => vernierref04_Add.f k (enc D A) (enc D C)) (enc D (A + C)) := by
  have := rAdd_l0 hA hC m 0 0 [] (by rw [div_pw_zero, div_pw_zero]; omega) (by omega) (by omega) rfl (by omega)
  rw [div_pw_zero, div_pw_zero, Int.add_zero, List.nil_append] at this
  exact this
theorem rOf_l0 : ∀ (d : Nat) (v : Int) (out : List Int), 0 ≤ v → v < B → v < pw D d → out.length + d ≤ 1099511627776 → Ev (fun k => vernierref04_Of.l0 k v out) (out ++ enc D v) := by
  intro d
  induction d with
  | zero =>
    intro v out h0 _ h1 _
    rw [pw_zero] at h1
    obtain rfl : v = 0 := by omega
    rw [enc_zero, List.append_nil]
    refine Ev.step (f := fun _ => some out) (fun k => ?_) (Ev.now _)
    simp only [vernierref04_Of.l0]
    rw [if_neg (by omega)]
  | succ d ih =>
    intro v out h0 hb h1 hL
    by_cases hp : 0 < v
    · have hq0 : 0 ≤ v / D := Int.ediv_nonneg h0 (Int.le_of_lt Dpos)
      have hq1 : v / D < v := Int.ediv_lt_self_of_pos_of_ne_one hp (by have := D1; omega)
      have hr0 := Int.emod_nonneg v (show D ≠ 0 by have := D1; omega)
      have hr1 := Int.emod_lt_of_pos v Dpos
      have key := ih (v / D) (out ++ [v % D]) hq0 (by omega) (lt_of_div D1 h1) (by simp; omega)
      rw [enc_step D1 hp] at key
      refine Ev.step (f := fun k => vernierref04_Of.l0 k (v / D) (out ++ [v % D])) (fun k => ?_) key
      simp only [vernierref04_Of.l0]
      rw [if_pos (by omega), if_pos (by omega), tdivD h0, tmodD h0, u64w hq0 (by rw [Bdef] at hb; omega), w64 (by omega) (by rw [Ddef] at hr1 ⊢; omega)]
    · obtain rfl : v = 0 := by omega
      rw [enc_zero, List.append_nil]
      refine Ev.step (f := fun _ => some out) (fun k => ?_) (Ev.now _)
      simp only [vernierref04_Of.l0]
      rw [if_neg (by omega)]
theorem B_lt : B < pw D 3 := by
  rw [pw_succ, pw_succ, pw_one, Bdef, Ddef]; decide
theorem rOf_ev {v : Int} (h0 : 0 ≤ v) (h1 : v < B) : Ev (fun k => vernierref04_Of.f k v) (enc D v) := by
  have := rOf_l0 3 v [] h0 h1 (Int.lt_trans h1 B_lt) (by simp)
  rw [List.nil_append] at this
  exact this
theorem tim_arith {X q c b t : Int} (hb : 0 < b) (ht : t = X % b * q + c) : (X * q + c) % b = t % b ∧ (X * q + c) / b = X / b * q + t / b := by
  have h1 := Int.mul_ediv_add_emod X b
  have e : X * q + c = t + b * (X / b * q) := by
    rw [ht]
    have : X * q = (b * (X / b) + X % b) * q := by rw [h1]
    rw [this, Int.add_mul, Int.mul_assoc]; omega
  rw [e, Int.add_mul_emod_self_left, Int.add_mul_ediv_left _ _ (by omega)]
  exact ⟨rfl, by omega⟩
theorem rtimes_l0 {A q : Int} (hA : 0 ≤ A) (hq : 0 ≤ q) (hqD : q ≤ D) : ∀ (d i : Nat) (c : Int) (out : List Int), A / pw D i * q + c < pw D d → 0 ≤ c → c < D → out.length = i → i + d ≤ 1099511627776 →
    Ev (fun k => vernierref04_times.l0 k (enc D A) q out c (i : Int)) (out ++ enc D (A / pw D i * q + c)) := by
  intro d
  induction d with
  | zero =>
    intro i c out hv h0 h1 ho hL
    have hx := div_pw_nonneg Dpos hA i
    have hxq := Int.mul_nonneg hx hq
    rw [pw_zero] at hv
    have hxl := enc_lt D1 hA i
    have e : A / pw D i * q + c = 0 := by omega
    have hc : c = 0 := by omega
    have hz : A / pw D i * q = 0 := by omega
    rw [e, enc_zero, List.append_nil]
    refine Ev.step (f := fun _ => some out) (fun k => ?_) (Ev.now _)
    simp only [vernierref04_times.l0]
    rcases Int.mul_eq_zero.1 hz with h | h
    · rw [if_neg (by omega), if_neg (by omega)]
    · rw [h]
      split
      · rw [if_neg (by omega), if_neg (by omega)]
      · rw [if_neg (by omega)]
  | succ d ih =>
    intro i c out hv h0 h1 ho hL
    have hx := div_pw_nonneg Dpos hA i
    have hxq := Int.mul_nonneg hx hq
    have hxl := enc_lt D1 hA i
    by_cases hp : 0 < A / pw D i * q + c
    · have hxd := Int.emod_nonneg (A / pw D i) (show D ≠ 0 by have := D1; omega)
      have hxd1 := Int.emod_lt_of_pos (A / pw D i) Dpos
      obtain ⟨t, ht⟩ : ∃ t, t = A / pw D i % D * q + c := ⟨_, rfl⟩
      obtain ⟨e1, e2⟩ := tim_arith Dpos ht
      have hm0 : 0 ≤ A / pw D i % D * q := Int.mul_nonneg hxd hq
      have hm1 : A / pw D i % D * q ≤ (D - 1) * D := Int.mul_le_mul (by omega) hqD hq (by have := D1; omega)
      have hm2 : A / pw D i % D * q ≤ 281474959933440 := by rw [Ddef] at hm1 ⊢; exact hm1
      have ht0 : 0 ≤ t := by omega
      have ht1 : t < D * D := by have : (D - 1) * D = D * D - D := by rw [Int.sub_mul, Int.one_mul]
                                 omega
      have ht2 : t ≤ 281474976710655 := by rw [Ddef] at h1; omega
      have hc0 : 0 ≤ t / D := Int.ediv_nonneg ht0 (Int.le_of_lt Dpos)
      have hc1 : t / D < D := Int.ediv_lt_of_lt_mul Dpos ht1
      have hw1 : Aside0 (wrap64 ((i : Int) + 1) = ((i + 1 : Nat) : Int)) := ⟨by rw [w64 (by omega) (by omega)]; omega⟩
      have key := ih (i + 1) (t / D) (out ++ [t % D]) (by rw [div_pw_succ Dpos, ← e2]; exact lt_of_div D1 hv) hc0 hc1 (by simp [ho]) (by omega)
      rw [div_pw_succ Dpos, ← e2, ← e1, enc_step D1 hp] at key
      have hw : Aside0 (wrap64 (wrap64 (A / pw D i % D * q) + c) = t) := ⟨by
        rw [w64 (x := A / pw D i % D * q) (by omega) (by omega), ← ht, w64 (by omega) (by omega)]⟩
      have hcd : Aside0 (wrap64 (t / D) = t / D) := ⟨by rw [Ddef] at hc1 hc0 ⊢; exact w64 (by omega) (by omega)⟩
      have hol : out.length < 17592186044416 := by omega
      rw [e1] at key
      refine Ev.step (f := fun k => vernierref04_times.l0 k (enc D A) q (out ++ [t % D]) (t / D) ((i + 1 : Nat) : Int)) (fun k => ?_) key
      simp only [vernierref04_times.l0]
      rw [digit_spec, enc_get D1 hA]
      simp only [Option.bind_some]
      rw [hw.out, tmodD ht0, tdivD ht0, hw1.out, hcd.out, if_pos hol]
      by_cases ha : i < (enc D A).length
      · rw [if_pos (by omega)]
        by_cases hq0 : 0 < q
        · rw [if_pos (by omega)]
        · rw [if_neg (by omega), if_pos]
          have : q = 0 := by omega
          rw [this, Int.mul_zero] at hp
          omega
      · rw [if_neg (by omega), if_pos]
        have : A / pw D i = 0 := by omega
        rw [this, Int.zero_mul] at hp
        omega
    · have e : A / pw D i * q + c = 0 := by omega
      have hc : c = 0 := by omega
      have hz : A / pw D i * q = 0 := by omega
      rw [e, enc_zero, List.append_nil]
      refine Ev.step (f := fun _ => some out) (fun k => ?_) (Ev.now _)
      simp only [vernierref04_times.l0]
      rcases Int.mul_eq_zero.1 hz with h | h
      · rw [if_neg (by omega), if_neg (by omega)]
      · rw [h]
        split
        · rw [if_neg (by omega), if_neg (by omega)]
        · rw [if_neg (by omega)]
theorem rtimes_ev {A q : Int} (hA : 0 ≤ A) (hq : 0 ≤ q) (hqD : q ≤ D) {m : Nat} (hm : A * q < pw D m) (hL : m ≤ 1099511627776) : Ev (fun k => vernierref04_times.f k (enc D A) q) (enc D (A * q)) := by
  have := rtimes_l0 hA hq hqD m 0 0 [] (by rw [div_pw_zero]; omega) (by omega) Dpos rfl (by omega)
  rw [div_pw_zero, Int.add_zero, List.nil_append] at this
  exact this
end Go.Proofs.YthhkmpicpihjlaaGreatDoor.PNat
