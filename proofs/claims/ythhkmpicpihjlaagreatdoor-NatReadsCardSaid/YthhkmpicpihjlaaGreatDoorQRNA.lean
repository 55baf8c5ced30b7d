/- What the functions of package nat come to, as plain arithmetic: trim, plus, Add, times, Mul. -/
import Derived.Test.YthhkmpicpihjlaaGreatDoorQRPNatx1
import Derived.Test.YthhkmpicpihjlaaGreatDoorQRPNatx2
import Derived.Test.YthhkmpicpihjlaaGreatDoorQRNM
set_option linter.unusedVariables false
set_option linter.unusedSimpArgs false
namespace Go.Proofs.YthhkmpicpihjlaaGreatDoor.PNat
open Go.RowKit Go.Proofs.YthhkmpicpihjlaaGreatDoorW.PrintWords Go.Proofs.YthhkmpicpihjlaaGreatDoorW.PrintLast Go.Proofs.YthhkmpicpihjlaaGreatDoorW.PrintMore Go.Proofs.YthhkmpicpihjlaaGreatDoor.M Go.Proofs.YthhkmpicpihjlaaGreatDoor.NM
attribute [local irreducible] add64Lo add64Hi sub64Lo sub64Hi val
theorem w64 {x : Int} (h0 : -9223372036854775808 ≤ x) (h1 : x ≤ 9223372036854775807) : wrap64 x = x := by unfold wrap64; omega
theorem u64w {x : Int} (h0 : 0 ≤ x) (h1 : x ≤ 18446744073709551615) : IntKind.u64.wrap x = x := IntWalk.u64_in x ⟨h0, h1⟩
theorem rd_nat (l : List Int) (n : Nat) : rd l (n : Int) = l.getD n 0 := by simp [rd]
theorem Bpos : 0 < B := by have := B1; omega
theorem trim_l0 {l : List Int} (h : Dig B l) (hL : l.length ≤ 1099511627776) : ∀ n : Nat, n ≤ l.length → Ev (fun k => nat_trim.l0 k l (n : Int)) (enc B (val B (l.take n))) := by
  intro n
  induction n with
  | zero =>
    intro _
    refine Ev.step (f := fun _ => some []) (fun k => ?_) (by rw [List.take_zero, val_nil, enc_zero]; exact Ev.now _)
    simp only [nat_trim.l0]
    rw [if_neg (by omega), if_pos (by omega), if_pos (by omega)]
    simp
  | succ n ih =>
    intro hn
    have hw : Aside0 (wrap64 (((n + 1 : Nat) : Int) - 1) = (n : Int)) := ⟨by rw [w64 (by omega) (by omega)]; omega⟩
    have hd := h.take (n + 1)
    have ht : l.take (n + 1) = l.take n ++ [l.getD n 0] := by
      rw [List.take_succ_eq_append_getElem (by omega), List.getD_eq_getElem?_getD, List.getElem?_eq_getElem (by omega)]; rfl
    rw [ht] at hd
    have he := enc_snoc B1 hd
    rw [← ht] at he
    by_cases h0 : l.getD n 0 = 0
    · rw [if_pos h0] at he
      rw [he]
      refine Ev.step (f := fun k => nat_trim.l0 k l (n : Int)) (fun k => ?_) (ih (by omega))
      simp only [nat_trim.l0]
      rw [hw.out, if_pos (by omega), if_pos (by omega), if_pos (by omega), rd_nat, if_pos h0]
    · rw [if_neg h0] at he
      rw [he]
      refine Ev.step (f := fun _ => some (l.take (n + 1))) (fun k => ?_) (Ev.now _)
      simp only [nat_trim.l0]
      rw [hw.out, if_pos (by omega), if_pos (by omega), if_pos (by omega), rd_nat, if_neg h0, if_pos (by omega), if_pos (by omega)]
      rfl
theorem trim_ev {l : List Int} (h : Dig B l) (hL : l.length ≤ 1099511627776) : Ev (fun k => nat_trim.f k l) (enc B (val B l)) := by
  have := trim_l0 h hL l.length (Nat.le_refl _)
  rw [List.take_length] at this
  exact this
theorem add64_spec {x y c : Int} (hx : 0 ≤ x ∧ x < B) (hy : 0 ≤ y ∧ y < B) (hc : 0 ≤ c) (hc1 : c ≤ 1) : add64Lo x y c + B * add64Hi x y c = x + y + c ∧ (0 ≤ add64Lo x y c ∧ add64Lo x y c < B) ∧ 0 ≤ add64Hi x y c ∧ add64Hi x y c ≤ 1 := by
  unfold add64Lo add64Hi
  rw [Bdef] at *
  omega
theorem plus_l0 {a b : List Int} (ha : Dig B a) (hb : Dig B b) (hab : b.length ≤ a.length) (hL : a.length ≤ 1099511627775) : ∀ (d i : Nat) (x : List Int) (c : Int), i + d = a.length → x.length = a.length + 1 → 0 ≤ c → c ≤ 1 → Dig B x →
    val B (x.take i) + pw B i * c = val B (a.take i) + val B (b.take i) → Ev (fun k => nat_plus.l0 k a b x c a (a.length : Int) (i : Int)) (enc B (val B a + val B b)) := by
  intro d
  induction d with
  | zero =>
    intro i x c hi hx h0 h1 hd hv
    have hs := set_last x a.length c hx
    have hds : Dig B (x.set a.length c) := hd.set h0 (by rw [Bdef]; omega)
    have hval : val B (x.set a.length c) = val B a + val B b := by
      rw [hs, pval_append, List.length_take, Nat.min_eq_left (by omega)]
      have : i = a.length := by omega
      subst this
      rw [List.take_length, List.take_of_length_le hab] at hv
      simp only [val, Int.mul_zero, Int.add_zero]
      exact hv
    refine Ev.step (f := fun k => (nat_trim.f k (x.set a.length c)).bind fun t => some t) (fun k => ?_) (Ev.bind (by rw [← hval]; exact trim_ev hds (by simp; omega)) (Ev.now _))
    simp only [nat_plus.l0]
    rw [if_neg (by omega), if_pos (by omega), if_pos (by omega)]
    rfl
  | succ d ih =>
    intro i x c hi hx h0 h1 hd hv
    have hw : Aside0 (wrap64 ((i : Int) + 1) = ((i + 1 : Nat) : Int)) := ⟨by rw [w64 (by omega) (by omega)]; omega⟩
    have hq : i < x.length := by omega
    have hq2 : i + 1 + d = a.length := by omega
    obtain ⟨hs, hlo, hh0, hh1⟩ := add64_spec (ha.get Bpos i) (hb.get Bpos i) h0 h1
    have key : Ev (fun k => nat_plus.l0 k a b (x.set i (add64Lo (a.getD i 0) (b.getD i 0) c)) (add64Hi (a.getD i 0) (b.getD i 0) c) a (a.length : Int) ((i + 1 : Nat) : Int)) (enc B (val B a + val B b)) := by
      refine ih (i + 1) _ _ hq2 (by simpa using hx) hh0 hh1 (hd.set hlo.1 hlo.2) ?_
      rw [pval_take_set B x i _ hq, pval_take_succ B a, pval_take_succ B b, pw_succ]
      exact add_step hs hv
    by_cases hlt : i < b.length
    · refine Ev.step (f := fun k => nat_plus.l0 k a b (x.set i (add64Lo (a.getD i 0) (b.getD i 0) c)) (add64Hi (a.getD i 0) (b.getD i 0) c) a (a.length : Int) ((i + 1 : Nat) : Int)) (fun k => ?_) key
      simp only [nat_plus.l0]
      rw [hw.out, if_pos (by omega), if_pos (by omega), if_pos (by omega), if_pos (by omega), if_pos h1, if_pos (by omega), rd_nat, rd_nat]
      rfl
    · have hb0 : b.getD i 0 = 0 := by rw [List.getD_eq_getElem?_getD, List.getElem?_eq_none (by omega)]; rfl
      rw [hb0] at key
      refine Ev.step (f := fun k => nat_plus.l0 k a b (x.set i (add64Lo (a.getD i 0) 0 c)) (add64Hi (a.getD i 0) 0 c) a (a.length : Int) ((i + 1 : Nat) : Int)) (fun k => ?_) key
      simp only [nat_plus.l0]
      rw [hw.out, if_pos (by omega), if_pos (by omega), if_pos (by omega), if_neg (by omega), if_pos h1, if_pos (by omega), rd_nat]
      rfl
theorem plus_j0 {a b : List Int} (ha : Dig B a) (hb : Dig B b) (hab : b.length ≤ a.length) (hL : a.length ≤ 1099511627775) : Ev (fun k => nat_plus.j0 k a b) (enc B (val B a + val B b)) := by
  have hw : Aside0 (wrap64 ((a.length : Int) + 1) = ((a.length + 1 : Nat) : Int)) := ⟨by rw [w64 (by omega) (by omega)]; omega⟩
  refine Ev.step (f := fun k => nat_plus.l0 k a b (List.replicate (a.length + 1) 0) 0 a (a.length : Int) ((0 : Nat) : Int)) (fun k => ?_)
    (plus_l0 ha hb hab hL a.length 0 _ 0 (by omega) (by simp) (by omega) (by omega) (Dig.zeros Bpos _) (by simp [val, pw_zero]))
  simp only [nat_plus.j0]
  rw [hw.out, if_pos (by omega), Int.toNat_natCast, if_pos (by omega)]
  rfl
theorem plus_ev {a b : List Int} (ha : Dig B a) (hb : Dig B b) (hL : a.length ≤ 1099511627775) (hM : b.length ≤ 1099511627775) : Ev (fun k => nat_plus.f k a b) (enc B (val B a + val B b)) := by
  by_cases h : a.length < b.length
  · refine Ev.congr (f := fun k => nat_plus.j0 k b a) (fun k => ?_) (by rw [Int.add_comm]; exact plus_j0 hb ha (by omega) hM)
    unfold nat_plus.f
    rw [if_pos (by omega)]
  · refine Ev.congr (f := fun k => nat_plus.j0 k a b) (fun k => ?_) (plus_j0 ha hb (by omega) hL)
    unfold nat_plus.f
    rw [if_neg (by omega)]
end Go.Proofs.YthhkmpicpihjlaaGreatDoor.PNat
