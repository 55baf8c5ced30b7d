/- The reference's Mul; nat's and the reference's Cmp and Sub. -/
import Derived.Test.YthgmkigfgcejgaaDoorND
import Derived.Test.YthgmkigfgcejgaaDoorNB
import Derived.Test.YthgmkigfgcejgaaDoorPNatx7
set_option linter.unusedVariables false
set_option linter.unusedSimpArgs false
namespace Go.Proofs.YthgmkigfgcejgaaDoor.PNat
open Go.RowKit Go.Proofs.YthgmkigfgcejgaaDoorW.PrintWords Go.Proofs.YthgmkigfgcejgaaDoorW.PrintLast Go.Proofs.YthgmkigfgcejgaaDoorW.PrintMore Go.Proofs.YthgmkigfgcejgaaDoor.M Go.Proofs.YthgmkigfgcejgaaDoor.NM
attribute [local irreducible] add64Lo add64Hi sub64Lo sub64Hi val

/-! ### Mul -/
theorem mulD_spec {v w x y : Int} (hv : 0 ≤ v ∧ v < D) (hw : 0 ≤ w ∧ w < D) (hx : 0 ≤ x ∧ x < D) (hy : 0 ≤ y ∧ y < D) :
    Aside0 (wrap64 (wrap64 (x + wrap64 (v * w)) + y) = x + v * w + y) ∧ Aside0 (wrap64 ((x + v * w + y) / D) = (x + v * w + y) / D) ∧ 0 ≤ x + v * w + y ∧ (x + v * w + y) / D < D := by
  have hm0 : 0 ≤ v * w := Int.mul_nonneg hv.1 hw.1
  have hm1 : v * w ≤ (D - 1) * (D - 1) := Int.mul_le_mul (by omega) (by omega) hw.1 (by have := D1; omega)
  have hm2 : v * w ≤ 281474943156225 := by rw [Ddef] at hm1; exact hm1
  have ht1 : x + v * w + y < D * D := by rw [Ddef] at *; omega
  have hx1 := hx.2
  have hy1 := hy.2
  have hc0 : 0 ≤ (x + v * w + y) / D := Int.ediv_nonneg (by omega) (Int.le_of_lt Dpos)
  have hc1 : (x + v * w + y) / D < D := Int.ediv_lt_of_lt_mul Dpos ht1
  refine ⟨⟨?_⟩, ⟨?_⟩, by omega, hc1⟩
  · rw [Ddef] at hx1 hy1
    rw [w64 (x := v * w) (by omega) (by omega), w64 (x := x + v * w) (by omega) (by omega), w64 (by omega) (by omega)]
  · rw [Ddef] at hc0 hc1 ⊢
    exact w64 (by omega) (by omega)
theorem mulD_step {pi pk b v q r x y w V A W : Int} (hs : b * q + r = x + v * w + y) (hv : V + pi * pk * y = A + pi * v * W) : V + pi * pk * (r - x) + pi * pk * b * q = A + pi * v * (W + pk * w) := by grind
theorem rMul_l1 {a b : List Int} (ha : Dig D a) (hb : Dig D b) (hL : a.length + b.length ≤ 1099511627776) (i : Nat) (hi : i < a.length) (A : Int) (r : List Int)
    (next : ∀ x, x.length = a.length + b.length → Dig D x → (∀ j, i + 1 + b.length ≤ j → x.getD j 0 = 0) → val D x = A + pw D i * a.getD i 0 * val D b → Ev (fun k => vernierref04_Mul.l0 k a b x ((i + 1 : Nat) : Int)) r) :
    ∀ (d k : Nat) (x : List Int) (y : Int), k + d = b.length → x.length = a.length + b.length → Dig D x → 0 ≤ y → y < D → (∀ j, i + b.length ≤ j → x.getD j 0 = 0) →
      val D x + pw D i * pw D k * y = A + pw D i * a.getD i 0 * val D (b.take k) →
      Ev (fun n => vernierref04_Mul.l1 n a b x (i : Int) y (k : Int)) r := by
  intro d
  induction d with
  | zero =>
    intro k x y hk hx hd h0 h1 hz hval
    obtain rfl : k = b.length := by omega
    rw [List.take_length, ← pw_add] at hval
    have hw : Aside0 (wrap64 ((i : Int) + (b.length : Int)) = ((i + b.length : Nat) : Int)) := ⟨by rw [w64 (by omega) (by omega)]; omega⟩
    have hw1 : Aside0 (wrap64 ((i : Int) + 1) = ((i + 1 : Nat) : Int)) := ⟨by rw [w64 (by omega) (by omega)]; omega⟩
    have hlt : i + b.length < x.length := by omega
    refine Ev.step (f := fun n => vernierref04_Mul.l0 n a b (x.set (i + b.length) y) ((i + 1 : Nat) : Int)) (fun n => ?_) (next _ (by simpa using hx) (hd.set h0 h1) (fun j hj => by rw [getD_set _ _ _ _ (by omega)]; exact hz j (by omega)) ?_)
    · simp only [vernierref04_Mul.l1]
      rw [hw.out, hw1.out, if_neg (by omega), if_pos (by omega), if_pos (by omega)]
      rfl
    · rw [pval_set D x _ y hlt, hz _ (by omega), Int.sub_zero]
      exact hval
  | succ d ih =>
    intro k x y hk hx hd h0 h1 hz hval
    have hw : Aside0 (wrap64 ((i : Int) + (k : Int)) = ((i + k : Nat) : Int)) := ⟨by rw [w64 (by omega) (by omega)]; omega⟩
    have hw1 : Aside0 (wrap64 ((k : Int) + 1) = ((k + 1 : Nat) : Int)) := ⟨by rw [w64 (by omega) (by omega)]; omega⟩
    have hlt : i + k < x.length := by omega
    have hk1 : k + 1 + d = b.length := by omega
    obtain ⟨e1, e2, p0, p1⟩ := mulD_spec (ha.get Dpos i) (hb.get Dpos k) (hd.get Dpos (i + k)) ⟨h0, h1⟩
    obtain ⟨t, ht⟩ : ∃ t, t = x.getD (i + k) 0 + a.getD i 0 * b.getD k 0 + y := ⟨_, rfl⟩
    rw [← ht] at e1 e2 p0 p1
    refine Ev.step (f := fun n => vernierref04_Mul.l1 n a b (x.set (i + k) (t % D)) (i : Int) (t / D) ((k + 1 : Nat) : Int)) (fun n => ?_)
      (ih (k + 1) _ _ hk1 (by simpa using hx) (hd.set (Int.emod_nonneg _ (by have := D1; omega)) (Int.emod_lt_of_pos _ Dpos)) (Int.ediv_nonneg p0 (Int.le_of_lt Dpos)) p1 (fun j hj => by rw [getD_set _ _ _ _ (by omega)]; exact hz j hj) ?_)
    · simp only [vernierref04_Mul.l1]
      rw [hw.out, hw1.out, if_pos (by omega), if_pos (by omega), if_pos (by omega), if_pos (by omega), if_pos (by omega), if_pos (by omega), rd_nat, rd_nat, rd_nat, e1.out, tmodD p0, tdivD p0, e2.out, Int.toNat_natCast]
    · rw [pval_set D x _ _ hlt, pval_take_succ D b, pw_succ, ← Int.mul_assoc, pw_add]
      exact mulD_step ((Int.mul_ediv_add_emod t D).trans ht) hval
theorem rMul_l0 {a b : List Int} (ha : Dig D a) (hb : Dig D b) (hL : a.length + b.length ≤ 1099511627776) : ∀ (d i : Nat) (x : List Int), i + d = a.length → x.length = a.length + b.length → Dig D x → (∀ j, i + b.length ≤ j → x.getD j 0 = 0) →
    val D x = val D (a.take i) * val D b → Ev (fun k => vernierref04_Mul.l0 k a b x (i : Int)) (enc D (val D a * val D b)) := by
  intro d
  induction d with
  | zero =>
    intro i x hi hx hd _ hval
    obtain rfl : i = a.length := by omega
    rw [List.take_length] at hval
    refine Ev.step (f := fun k => (vernierref04_Cut.f k x).bind fun t => some t) (fun k => ?_) (Ev.bind (by rw [← hval]; exact rCut_ev hd (by omega)) (Ev.now _))
    simp only [vernierref04_Mul.l0]
    rw [if_neg (by omega)]
  | succ d ih =>
    intro i x hi hx hd hz hval
    have hilt : i < a.length := by omega
    have hi1 : i + 1 + d = a.length := by omega
    refine Ev.step (f := fun k => vernierref04_Mul.l1 k a b x (i : Int) 0 ((0 : Nat) : Int)) (fun k => ?_)
      (rMul_l1 ha hb hL i hilt (val D (a.take i) * val D b) _ (fun x' hx' hd' hz' hval' => ih (i + 1) x' hi1 hx' hd' hz' ?_) b.length 0 x 0 (by omega) hx hd (by omega) Dpos hz ?_)
    · simp only [vernierref04_Mul.l0]
      rw [if_pos (by omega)]
      rfl
    · rw [pval_take_succ D a]
      exact times_row hval'
    · rw [List.take_zero, val_nil, hval]; simp
theorem rMul_ev {a b : List Int} (ha : Dig D a) (hb : Dig D b) (hL : a.length + b.length ≤ 1099511627776) : Ev (fun k => vernierref04_Mul.f k a b) (enc D (val D a * val D b)) := by
  have hw : Aside0 (wrap64 ((a.length : Int) + (b.length : Int)) = ((a.length + b.length : Nat) : Int)) := ⟨by rw [w64 (by omega) (by omega)]; omega⟩
  have hT : a = [] ∨ b = [] → Ev (fun k => vernierref04_Mul.j0 k a b true) (enc D (val D a * val D b)) := fun h => by
    have e : enc D (val D a * val D b) = [] := by rcases h with h | h <;> rw [h, val_nil] <;> simp [enc_zero]
    rw [e]
    refine Ev.step (f := fun _ => some []) (fun k => ?_) (Ev.now _)
    simp only [vernierref04_Mul.j0]
    rw [if_pos trivial]
  by_cases h1 : a.length = 0
  · refine Ev.congr (fun k => ?_) (hT (.inl (List.length_eq_zero_iff.1 h1)))
    unfold vernierref04_Mul.f
    rw [if_pos (by omega)]
  · by_cases h2 : b.length = 0
    · refine Ev.congr (fun k => ?_) (hT (.inr (List.length_eq_zero_iff.1 h2)))
      unfold vernierref04_Mul.f
      rw [if_neg (by omega), h2]
      rfl
    · refine Ev.congr (f := fun k => vernierref04_Mul.j0 k a b false) (fun k => ?_) ?_
      · unfold vernierref04_Mul.f
        rw [if_neg (by omega), show ((b.length : Int) == 0) = false from beq_eq_false_iff_ne.2 (by omega)]
      · refine Ev.step (f := fun k => vernierref04_Mul.l0 k a b (List.replicate (a.length + b.length) 0) ((0 : Nat) : Int)) (fun k => ?_)
          (rMul_l0 ha hb (by omega) a.length 0 _ (by omega) (by simp) (Dig.zeros Dpos _) (fun j _ => by simp [List.getD_eq_getElem?_getD, List.getElem?_replicate]; split <;> rfl) (by simp [val_zeros, val]))
        simp only [vernierref04_Mul.j0]
        rw [if_neg (by decide), hw.out, if_pos (by omega), Int.toNat_natCast, if_pos (by omega)]
        rfl
end Go.Proofs.YthgmkigfgcejgaaDoor.PNat
