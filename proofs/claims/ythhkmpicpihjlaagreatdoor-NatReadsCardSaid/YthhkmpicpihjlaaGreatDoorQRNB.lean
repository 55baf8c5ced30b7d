/- What the functions of package nat come to, as plain arithmetic: Add, times, Mul. -/
import Derived.Test.YthhkmpicpihjlaaGreatDoorQRNA
set_option linter.unusedVariables false
set_option linter.unusedSimpArgs false
namespace Go.Proofs.YthhkmpicpihjlaaGreatDoor.PNat
open Go.RowKit Go.Proofs.YthhkmpicpihjlaaGreatDoorW.PrintWords Go.Proofs.YthhkmpicpihjlaaGreatDoorW.PrintLast Go.Proofs.YthhkmpicpihjlaaGreatDoorW.PrintMore Go.Proofs.YthhkmpicpihjlaaGreatDoor.M Go.Proofs.YthhkmpicpihjlaaGreatDoor.NM
attribute [local irreducible] add64Lo add64Hi sub64Lo sub64Hi val
theorem u64_and32 {x : Int} (h0 : 0 ≤ x) (h1 : x < 18446744073709551616) : Go.bits .and .u64 x 4294967295 = x % 4294967296 :=
  bits_mask .u64 64 (by decide) (fun n a b => u64w a (by omega)) 32 (by decide) x h0 h1
theorem mul_le_sq {a b m : Int} (ha : 0 ≤ a) (hb : 0 ≤ b) (h1 : a ≤ m) (h2 : b ≤ m) : a * b ≤ m * m :=
  Int.mul_le_mul h1 h2 hb (by omega)
theorem mul64_alg {p q r s A : Int} (hp : 0 ≤ p ∧ p ≤ 18446744065119617025) (hq : 0 ≤ q ∧ q ≤ 18446744065119617025) (hr : 0 ≤ r ∧ r ≤ 18446744065119617025) (hs : 0 ≤ s ∧ s ≤ 18446744065119617025)
    (hA : A = p * 18446744073709551616 + (q + s) * 4294967296 + r) : p + (q + r / 4294967296) / 4294967296 + ((q + r / 4294967296) % 4294967296 + s) / 4294967296 = A / 18446744073709551616 := by
  omega
theorem mul64_spec {a b : Int} (ha : 0 ≤ a ∧ a < B) (hb : 0 ≤ b ∧ b < B) : bits_Mul64.f a b = some (a * b / 18446744073709551616, a * b % 18446744073709551616) := by
  rw [Bdef] at *
  unfold bits_Mul64.f
  obtain ⟨x1, hx1⟩ : ∃ x1, x1 = a / 4294967296 := ⟨_, rfl⟩
  obtain ⟨x0, hx0⟩ : ∃ x0, x0 = a % 4294967296 := ⟨_, rfl⟩
  obtain ⟨y1, hy1⟩ : ∃ y1, y1 = b / 4294967296 := ⟨_, rfl⟩
  obtain ⟨y0, hy0⟩ : ∃ y0, y0 = b % 4294967296 := ⟨_, rfl⟩
  rw [u64_and32 ha.1 ha.2, u64_and32 hb.1 hb.2, ← hx1, ← hx0, ← hy1, ← hy0]
  have ea : a = x1 * 4294967296 + x0 := by omega
  have eb : b = y1 * 4294967296 + y0 := by omega
  have x1b : 0 ≤ x1 ∧ x1 ≤ 4294967295 := by omega
  have x0b : 0 ≤ x0 ∧ x0 ≤ 4294967295 := by omega
  have y1b : 0 ≤ y1 ∧ y1 ≤ 4294967295 := by omega
  have y0b : 0 ≤ y0 ∧ y0 ≤ 4294967295 := by omega
  have hp : 0 ≤ x1 * y1 ∧ x1 * y1 ≤ 18446744065119617025 := ⟨Int.mul_nonneg x1b.1 y1b.1, mul_le_sq x1b.1 y1b.1 x1b.2 y1b.2⟩
  have hq : 0 ≤ x1 * y0 ∧ x1 * y0 ≤ 18446744065119617025 := ⟨Int.mul_nonneg x1b.1 y0b.1, mul_le_sq x1b.1 y0b.1 x1b.2 y0b.2⟩
  have hr : 0 ≤ x0 * y0 ∧ x0 * y0 ≤ 18446744065119617025 := ⟨Int.mul_nonneg x0b.1 y0b.1, mul_le_sq x0b.1 y0b.1 x0b.2 y0b.2⟩
  have hs : 0 ≤ x0 * y1 ∧ x0 * y1 ≤ 18446744065119617025 := ⟨Int.mul_nonneg x0b.1 y1b.1, mul_le_sq x0b.1 y1b.1 x0b.2 y1b.2⟩
  have hA : a * b = x1 * y1 * 18446744073709551616 + (x1 * y0 + x0 * y1) * 4294967296 + x0 * y0 := by rw [ea, eb]; grind
  have hM := mul64_alg hp hq hr hs hA
  generalize a * b = A at *
  generalize x1 * y1 = p at *
  generalize x1 * y0 = q at *
  generalize x0 * y0 = r at *
  generalize x0 * y1 = s at *
  clear hx1 hx0 hy1 hy0 ea eb x1b x0b y1b y0b ha hb
  rw [u64w (x := p) (by omega) (by omega), u64w (x := q) (by omega) (by omega), u64w (x := r) (by omega) (by omega), u64w (x := s) (by omega) (by omega)]
  rw [u64w (x := q + r / 4294967296) (by omega) (by omega), u64_and32 (x := q + r / 4294967296) (by omega) (by omega), u64w (x := (q + r / 4294967296) % 4294967296 + s) (by omega) (by omega)]
  rw [u64w (x := p + (q + r / 4294967296) / 4294967296) (by omega) (by omega), u64w (x := p + (q + r / 4294967296) / 4294967296 + ((q + r / 4294967296) % 4294967296 + s) / 4294967296) (by omega) (by omega), hM]
  rw [IntKind.wrap_u64]
theorem fused_alg {P x y h l l1 c1 l2 c2 : Int} (hP : 0 ≤ P ∧ P ≤ 340282366920938463426481119284349108225) (hx : 0 ≤ x ∧ x < 18446744073709551616) (hy : 0 ≤ y ∧ y < 18446744073709551616)
    (hh : h = P / 18446744073709551616) (hl : l = P % 18446744073709551616) (h1 : l1 + 18446744073709551616 * c1 = l + x) (hc1 : 0 ≤ c1 ∧ c1 ≤ 1) (hl1 : 0 ≤ l1 ∧ l1 < 18446744073709551616)
    (h2 : l2 + 18446744073709551616 * c2 = l1 + y) (hc2 : 0 ≤ c2 ∧ c2 ≤ 1) (hl2 : 0 ≤ l2 ∧ l2 < 18446744073709551616) : l2 + 18446744073709551616 * (h + c1 + c2) = P + x + y ∧ 0 ≤ h + c1 ∧ h + c1 ≤ 18446744073709551615 ∧ 0 ≤ h + c1 + c2 ∧ h + c1 + c2 ≤ 18446744073709551615 := by
  omega
theorem fused_spec {v w x y : Int} (hv : 0 ≤ v ∧ v < B) (hw : 0 ≤ w ∧ w < B) (hx : 0 ≤ x ∧ x < B) (hy : 0 ≤ y ∧ y < B) :
    ∃ lo hi, nat_fused.f v w x y = some (lo, hi) ∧ lo + B * hi = v * w + x + y ∧ (0 ≤ lo ∧ lo < B) ∧ 0 ≤ hi ∧ hi < B := by
  unfold nat_fused.f
  rw [mul64_spec hv hw]
  have hl : 0 ≤ v * w % 18446744073709551616 ∧ v * w % 18446744073709551616 < B := by rw [Bdef]; exact ⟨Int.emod_nonneg _ (by decide), Int.emod_lt_of_pos _ (by decide)⟩
  obtain ⟨s1, b1, c1, d1⟩ := add64_spec hl hx (Int.le_refl 0) (by decide)
  obtain ⟨s2, b2, c2, d2⟩ := add64_spec b1 hy (Int.le_refl 0) (by decide)
  have hP : 0 ≤ v * w ∧ v * w ≤ 340282366920938463426481119284349108225 := by
    rw [Bdef] at hv hw
    exact ⟨Int.mul_nonneg hv.1 hw.1, mul_le_sq (m := 18446744073709551615) hv.1 hw.1 (by omega) (by omega)⟩
  refine ⟨_, _, rfl, ?_⟩
  dsimp only
  rw [Bdef] at *
  obtain ⟨e1, e2, e3, e4, e5⟩ := fused_alg hP hx hy rfl rfl (by rw [s1]; omega) ⟨c1, d1⟩ b1 (by rw [s2]; omega) ⟨c2, d2⟩ b2
  rw [u64w e2 e3, u64w e4 e5]
  exact ⟨e1, b2, e4, by omega⟩
theorem times_step {pi pk b v hi lo x y w V A W : Int} (hs : lo + b * hi = v * w + x + y) (hv : V + pi * pk * y = A + pi * v * W) : V + pi * pk * (lo - x) + pi * pk * b * hi = A + pi * v * (W + pk * w) := by grind
theorem getD_set (l : List Int) (i j : Nat) (v : Int) (h : i ≠ j) : (l.set i v).getD j 0 = l.getD j 0 := by
  simp [List.getD_eq_getElem?_getD, List.getElem?_set_ne h]
theorem times_l1 {a b : List Int} (hb : Dig B b) (hL : a.length + b.length ≤ 1099511627776) (i : Nat) (hi : i < a.length) (v : Int) (hv : 0 ≤ v ∧ v < B) (A : Int) (r : List Int)
    (next : ∀ x, x.length = a.length + b.length → Dig B x → (∀ j, i + 1 + b.length ≤ j → x.getD j 0 = 0) → val B x = A + pw B i * v * val B b → Ev (fun k => nat_times.l0 k b x a (a.length : Int) ((i + 1 : Nat) : Int)) r) :
    ∀ (d k : Nat) (x : List Int) (y : Int), k + d = b.length → x.length = a.length + b.length → Dig B x → 0 ≤ y → y < B → (∀ j, i + b.length ≤ j → x.getD j 0 = 0) →
      val B x + pw B i * pw B k * y = A + pw B i * v * val B (b.take k) →
      Ev (fun n => nat_times.l1 n b x (i : Int) v y a (a.length : Int) (i : Int) b (b.length : Int) (k : Int)) r := by
  intro d
  induction d with
  | zero =>
    intro k x y hk hx hd h0 h1 hz hval
    obtain rfl : k = b.length := by omega
    rw [List.take_length, ← pw_add] at hval
    have hw : Aside0 (wrap64 ((i : Int) + (b.length : Int)) = ((i + b.length : Nat) : Int)) := ⟨by rw [w64 (by omega) (by omega)]; omega⟩
    have hw1 : Aside0 (wrap64 ((i : Int) + 1) = ((i + 1 : Nat) : Int)) := ⟨by rw [w64 (by omega) (by omega)]; omega⟩
    have hlt : i + b.length < x.length := by omega
    refine Ev.step (f := fun n => nat_times.l0 n b (x.set (i + b.length) y) a (a.length : Int) ((i + 1 : Nat) : Int)) (fun n => ?_) (next _ (by simpa using hx) (hd.set h0 h1) (fun j hj => by rw [getD_set _ _ _ _ (by omega)]; exact hz j (by omega)) ?_)
    · simp only [nat_times.l1]
      rw [hw.out, hw1.out, if_neg (by omega), if_pos (by omega), if_pos (by omega)]
      rfl
    · rw [pval_set B x _ y hlt, hz _ (by omega), Int.sub_zero]
      exact hval
  | succ d ih =>
    intro k x y hk hx hd h0 h1 hz hval
    have hw : Aside0 (wrap64 ((i : Int) + (k : Int)) = ((i + k : Nat) : Int)) := ⟨by rw [w64 (by omega) (by omega)]; omega⟩
    have hw1 : Aside0 (wrap64 ((k : Int) + 1) = ((k + 1 : Nat) : Int)) := ⟨by rw [w64 (by omega) (by omega)]; omega⟩
    have hlt : i + k < x.length := by omega
    have hk1 : k + 1 + d = b.length := by omega
    obtain ⟨lo, hi', hf, hs, hlo, hh⟩ := fused_spec hv (hb.get Bpos k) (hd.get Bpos (i + k)) ⟨h0, h1⟩
    refine Ev.step (f := fun n => nat_times.l1 n b (x.set (i + k) lo) (i : Int) v hi' a (a.length : Int) (i : Int) b (b.length : Int) ((k + 1 : Nat) : Int)) (fun n => ?_)
      (ih (k + 1) _ _ hk1 (by simpa using hx) (hd.set hlo.1 hlo.2) hh.1 hh.2 (fun j hj => by rw [getD_set _ _ _ _ (by omega)]; exact hz j hj) ?_)
    · simp only [nat_times.l1]
      rw [hw.out, hw1.out, if_pos (by omega), if_pos (by omega), if_pos (by omega), if_pos (by omega), if_pos (by omega), rd_nat, rd_nat, hf]
      simp only [Option.bind_some, Int.toNat_natCast]
    · rw [pval_set B x _ lo hlt, pval_take_succ B b, pw_succ, ← Int.mul_assoc, pw_add]
      exact times_step hs hval
theorem times_row {pi v V A W : Int} (h : V = A * W + pi * v * W) : V = (A + pi * v) * W := by grind
theorem times_l0 {a b : List Int} (ha : Dig B a) (hb : Dig B b) (hL : a.length + b.length ≤ 1099511627776) : ∀ (d i : Nat) (x : List Int), i + d = a.length → x.length = a.length + b.length → Dig B x → (∀ j, i + b.length ≤ j → x.getD j 0 = 0) →
    val B x = val B (a.take i) * val B b → Ev (fun k => nat_times.l0 k b x a (a.length : Int) (i : Int)) (enc B (val B a * val B b)) := by
  intro d
  induction d with
  | zero =>
    intro i x hi hx hd _ hval
    obtain rfl : i = a.length := by omega
    rw [List.take_length] at hval
    refine Ev.step (f := fun k => (nat_trim.f k x).bind fun t => some t) (fun k => ?_) (Ev.bind (by rw [← hval]; exact trim_ev hd (by omega)) (Ev.now _))
    simp only [nat_times.l0]
    rw [if_neg (by omega)]
  | succ d ih =>
    intro i x hi hx hd hz hval
    have hv := ha.get Bpos i
    have hilt : i < a.length := by omega
    have hi1 : i + 1 + d = a.length := by omega
    refine Ev.step (f := fun k => nat_times.l1 k b x (i : Int) (a.getD i 0) 0 a (a.length : Int) (i : Int) b (b.length : Int) ((0 : Nat) : Int)) (fun k => ?_)
      (times_l1 hb hL i hilt _ hv (val B (a.take i) * val B b) _ (fun x' hx' hd' hz' hval' => ih (i + 1) x' hi1 hx' hd' hz' ?_) b.length 0 x 0 (by omega) hx hd (by omega) (by omega) hz ?_)
    · simp only [nat_times.l0]
      rw [if_pos (by omega), if_pos (by omega), if_pos (by omega), rd_nat]
      rfl
    · rw [pval_take_succ B a]
      exact times_row hval'
    · rw [List.take_zero, val_nil, hval]; simp
theorem times_ev {a b : List Int} (ha : Dig B a) (hb : Dig B b) (hL : a.length + b.length ≤ 1099511627776) : Ev (fun k => nat_times.f k a b) (enc B (val B a * val B b)) := by
  have hw : Aside0 (wrap64 ((a.length : Int) + (b.length : Int)) = ((a.length + b.length : Nat) : Int)) := ⟨by rw [w64 (by omega) (by omega)]; omega⟩
  refine Ev.congr (f := fun k => nat_times.l0 k b (List.replicate (a.length + b.length) 0) a (a.length : Int) ((0 : Nat) : Int)) (fun k => ?_)
    (times_l0 ha hb hL a.length 0 _ (by omega) (by simp) (Dig.zeros Bpos _) (fun j _ => by simp [List.getD_eq_getElem?_getD, List.getElem?_replicate]; split <;> rfl) (by simp [val_zeros, val]))
  unfold nat_times.f
  rw [hw.out, if_pos (by omega), Int.toNat_natCast, if_pos (by omega)]
  rfl
end Go.Proofs.YthhkmpicpihjlaaGreatDoor.PNat
