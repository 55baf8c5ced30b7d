/- nat's lifted, Shl, Shr, Top and the reference's Low as plain arithmetic. -/
import Derived.Test.YthgmkigfgcejgaaDoorQDBNG
import Derived.Test.YthgmkigfgcejgaaDoorQDBPNatx0
import Derived.Test.YthgmkigfgcejgaaDoorQDBPNatx1
import Derived.Test.YthgmkigfgcejgaaDoorQDBPNatx9
import Derived.Test.YthgmkigfgcejgaaDoorQDBPNatx14
import Derived.Test.YthgmkigfgcejgaaDoorQDBPNatx11
set_option linter.unusedVariables false
set_option linter.unusedSimpArgs false
namespace Go.Proofs.YthgmkigfgcejgaaDoor.PNat
open Go.RowKit Go.Proofs.YthgmkigfgcejgaaDoorW.PrintWords Go.Proofs.YthgmkigfgcejgaaDoorW.PrintLast Go.Proofs.YthgmkigfgcejgaaDoorW.PrintMore Go.Proofs.YthgmkigfgcejgaaDoor.M Go.Proofs.YthgmkigfgcejgaaDoor.NM
attribute [local irreducible] add64Lo add64Hi sub64Lo sub64Hi val
theorem shl_u64 (x : Int) {s : Nat} (h : s ≤ 64) : shl .u64 x (s : Int) = x * pw 2 s % B := by
  have e : min (s : Int).toNat IntKind.u64.bits = s := by rw [Int.toNat_natCast]; exact Nat.min_eq_left h
  unfold shl
  rw [e, IntKind.wrap_u64, pw_def, Bdef]
theorem shr_u64 (x : Int) {s : Nat} (h : s ≤ 64) : shr .u64 x (s : Int) = x / pw 2 s := by
  have e : min (s : Int).toNat IntKind.u64.bits = s := by rw [Int.toNat_natCast]; exact Nat.min_eq_left h
  unfold shr
  rw [e, pw_def]
theorem or_join {x y : Int} {i : Nat} (hx0 : 0 ≤ x) (hx : x % pw 2 i = 0) (hx1 : x < B) (hy0 : 0 ≤ y) (hy : y < pw 2 i) (hy1 : y < B) : Go.bits .or .u64 x y = x + y := by
  rw [Bdef] at hx1 hy1
  rw [pw_def] at hx hy
  exact bits_join .u64 64 (by decide) (fun n a b => u64w a (by omega)) i x y hx0 hx (by omega) hy0 hy (by omega)
theorem or_comm' {x y : Int} (hx0 : 0 ≤ x) (hx1 : x < B) (hy0 : 0 ≤ y) (hy1 : y < B) : Go.bits .or .u64 x y = Go.bits .or .u64 y x := by
  rw [Bdef] at hx1 hy1
  obtain ⟨a, rfl⟩ := Int.eq_ofNat_of_zero_le hx0
  obtain ⟨b, rfl⟩ := Int.eq_ofNat_of_zero_le hy0
  have hk : ∀ n : Int, 0 ≤ n → n < 2 ^ 64 → IntKind.u64.wrap n = n := fun n a b => u64w a (by omega)
  rw [(bits_nat .u64 64 (by decide) hk a b (by omega) (by omega)).2, (bits_nat .u64 64 (by decide) hk b a (by omega) (by omega)).2, Nat.or_comm]
theorem pw2_pq {s : Nat} (h : s ≤ 64) : pw 2 s * pw 2 (64 - s) = B := by rw [← pw_add, ← pw2_64]; congr 1; omega
theorem pw2_le_B {i : Nat} (h : i ≤ 64) : pw 2 i ≤ B := by rw [← pw2_64]; exact pw_le (by decide) h
theorem lift_digit {a P Q : Int} (hP : 0 < P) (hQ : 0 < Q) (ha : 0 ≤ a) (ha1 : a < P * Q) : a * P = a * P % (P * Q) + P * Q * (a / Q) ∧ a * P % (P * Q) % P = 0 ∧ 0 ≤ a * P % (P * Q) ∧ a * P % (P * Q) + P ≤ P * Q ∧ 0 ≤ a / Q ∧ a / Q < P := by
  have h1 := Int.mul_ediv_add_emod a Q
  have h2 := Int.emod_nonneg a (show Q ≠ 0 by omega)
  have h3 := Int.emod_lt_of_pos a hQ
  have e : a * P = a % Q * P + P * Q * (a / Q) := by
    have : a * P = (Q * (a / Q) + a % Q) * P := by rw [h1]
    rw [this]; grind
  have l0 : 0 ≤ a % Q * P := Int.mul_nonneg h2 (by omega)
  have l1 : (a % Q + 1) * P ≤ Q * P := Int.mul_le_mul_of_nonneg_right (by omega) (by omega)
  rw [Int.add_mul, Int.one_mul, Int.mul_comm Q] at l1
  have e2 : a * P % (P * Q) = a % Q * P := by
    rw [e, Int.add_mul_emod_self_left]
    exact Int.emod_eq_of_lt l0 (by omega)
  rw [e2]
  refine ⟨e, by rw [Int.mul_emod_left], l0, l1, Int.ediv_nonneg ha (by omega), Int.ediv_lt_of_lt_mul hQ ha1⟩
theorem getD_set_self (l : List Int) (i : Nat) (v : Int) (h : i < l.length) : (l.set i v).getD i 0 = v := by
  simp [List.getD_eq_getElem?_getD, h]
theorem lift_step {A c lo hi a p b P V : Int} (hV : V = A * P) (h : a * P = lo + b * hi) : V + p * (c + lo - c) + p * b * hi = (A + p * a) * P := by grind
theorem lifted_l0 {a : List Int} (ha : Dig B a) {s : Nat} (hs : s < 64) (hL : a.length ≤ 1099511627775) : ∀ (d i : Nat) (x : List Int), i + d = a.length → x.length = a.length + 1 → Dig B x → (∀ j, i < j → x.getD j 0 = 0) → x.getD i 0 < pw 2 s → val B x = val B (a.take i) * pw 2 s →
    ∃ r, r.length = a.length + 1 ∧ Dig B r ∧ val B r = val B a * pw 2 s ∧ Ev (fun k => nat_lifted.l0 k (s : Int) x a (a.length : Int) (i : Int)) r := by
  intro d
  induction d with
  | zero =>
    intro i x hi hx hd hz hc hv
    obtain rfl : i = a.length := by omega
    rw [List.take_length] at hv
    refine ⟨x, hx, hd, hv, Ev.step (f := fun _ => some x) (fun k => ?_) (Ev.now _)⟩
    simp only [nat_lifted.l0]
    rw [if_neg (by omega)]
  | succ d ih =>
    intro i x hi hx hd hz hc hv
    have hw : Aside0 (wrap64 ((i : Int) + 1) = ((i + 1 : Nat) : Int)) := ⟨by rw [w64 (by omega) (by omega)]; omega⟩
    have hws : Aside0 (wrap64 (64 - (s : Int)) = ((64 - s : Nat) : Int)) := ⟨by rw [w64 (by omega) (by omega)]; omega⟩
    have hlt : i < x.length := by omega
    have hlt1 : i + 1 < x.length := by omega
    have hi1 : i + 1 + d = a.length := by omega
    have hP := pw2_pos s
    have hQ := pw2_pos (64 - s)
    have hPQ := pw2_pq (s := s) (by omega)
    obtain ⟨ga0, ga1⟩ := ha.get Bpos i
    obtain ⟨gx0, gx1⟩ := hd.get Bpos i
    obtain ⟨e1, e2, e3, e4, e5, e6⟩ := lift_digit hP hQ ga0 (by rw [hPQ]; exact ga1)
    rw [hPQ] at e1 e2 e3 e4
    have hor : Go.bits .or .u64 (x.getD i 0) (a.getD i 0 * pw 2 s % B) = x.getD i 0 + a.getD i 0 * pw 2 s % B := by
      rw [or_comm' gx0 gx1 e3 (by omega), or_join e3 e2 (by omega) gx0 hc gx1, Int.add_comm]
    have hd' : Dig B (x.set i (x.getD i 0 + a.getD i 0 * pw 2 s % B)) := hd.set (by omega) (by omega)
    have hz' : ∀ j, i < j → (x.set i (x.getD i 0 + a.getD i 0 * pw 2 s % B)).getD j 0 = 0 := fun j hj => by rw [getD_set _ _ _ _ (by omega)]; exact hz j hj
    have hPB := pw2_le_B (i := s) (by omega)
    by_cases hs0 : 0 < s
    · obtain ⟨r, r1, r2, r3, r4⟩ := ih (i + 1) ((x.set i (x.getD i 0 + a.getD i 0 * pw 2 s % B)).set (i + 1) (a.getD i 0 / pw 2 (64 - s))) hi1 (by simpa using hx) (hd'.set e5 (by omega)) (fun j hj => by rw [getD_set _ _ _ _ (by omega)]; exact hz' j (by omega)) (by rw [getD_set_self _ _ _ (by simpa using hlt1)]; exact e6) (by
        rw [pval_set B _ _ _ (by simpa using hlt1), hz' (i + 1) (by omega), Int.sub_zero, pval_set B x i _ hlt, pval_take_succ B a, pw_succ]
        exact lift_step hv e1)
      refine ⟨r, r1, r2, r3, Ev.step (f := fun k => nat_lifted.l0 k (s : Int) ((x.set i (x.getD i 0 + a.getD i 0 * pw 2 s % B)).set (i + 1) (a.getD i 0 / pw 2 (64 - s))) a (a.length : Int) ((i + 1 : Nat) : Int)) (fun k => ?_) r4⟩
      simp only [nat_lifted.l0]
      rw [if_pos (by omega), if_pos (by omega), if_pos (by omega), if_pos (by omega), if_pos (by omega), rd_nat, rd_nat, shl_u64 _ (by omega), hor]
      simp only [Option.bind_some]
      rw [if_pos (by omega), hws.out, hw.out, if_pos (by omega), if_pos (by omega), if_pos (by omega), shr_u64 _ (by omega), Int.toNat_natCast, Int.toNat_natCast]
    · obtain rfl : s = 0 := by omega
      have hq0 : a.getD i 0 / pw 2 (64 - 0) = 0 := by rw [Nat.sub_zero, pw2_64]; exact Int.ediv_eq_zero_of_lt ga0 ga1
      rw [hq0, Int.mul_zero] at e1
      obtain ⟨r, r1, r2, r3, r4⟩ := ih (i + 1) (x.set i (x.getD i 0 + a.getD i 0 * pw 2 0 % B)) hi1 (by simpa using hx) hd' (fun j hj => hz' j (by omega)) (by rw [hz' (i + 1) (by omega)]; exact hP) (by
        rw [pval_set B x i _ hlt, pval_take_succ B a]
        have := lift_step (p := pw B i) (c := x.getD i 0) (hi := 0) (b := B) hv (by rw [Int.mul_zero]; exact e1)
        rw [Int.mul_zero, Int.add_zero] at this
        exact this)
      refine ⟨r, r1, r2, r3, Ev.step (f := fun k => nat_lifted.l0 k ((0 : Nat) : Int) (x.set i (x.getD i 0 + a.getD i 0 * pw 2 0 % B)) a (a.length : Int) ((i + 1 : Nat) : Int)) (fun k => ?_) r4⟩
      simp only [nat_lifted.l0]
      rw [if_pos (by omega), if_pos (by omega), if_pos (by omega), if_pos (by omega), if_pos (by omega), rd_nat, rd_nat, shl_u64 _ (by omega), hor]
      simp only [Option.bind_some]
      rw [if_neg (by omega), hw.out, Int.toNat_natCast]
theorem lifted_ev {a : List Int} (ha : Dig B a) {s : Nat} (hs : s < 64) (hL : a.length ≤ 1099511627775) :
    ∃ r, r.length = a.length + 1 ∧ Dig B r ∧ val B r = val B a * pw 2 s ∧ Ev (fun k => nat_lifted.f k a (s : Int)) r := by
  have hw : Aside0 (wrap64 ((a.length : Int) + 1) = ((a.length + 1 : Nat) : Int)) := ⟨by rw [w64 (by omega) (by omega)]; omega⟩
  have hz : ∀ j, (List.replicate (a.length + 1) (0 : Int)).getD j 0 = 0 := fun j => by simp [List.getD_eq_getElem?_getD, List.getElem?_replicate]; split <;> rfl
  obtain ⟨r, r1, r2, r3, r4⟩ := lifted_l0 ha hs hL a.length 0 (List.replicate (a.length + 1) 0) (by omega) (by simp) (Dig.zeros Bpos _) (fun j _ => hz j) (by rw [hz]; exact pw2_pos s) (by rw [val_zeros, List.take_zero, val_nil, Int.zero_mul])
  refine ⟨r, r1, r2, r3, Ev.congr (fun k => ?_) r4⟩
  unfold nat_lifted.f
  rw [hw.out, if_pos (by omega), Int.toNat_natCast, if_pos (by omega)]
  rfl
theorem mul_shl {d g P : Int} (hg : 0 < g) : d * g % (P * g) = d % P * g := by rw [Int.mul_comm d, Int.mul_comm P, Int.mul_comm (d % P)]; exact Int.mul_emod_mul_of_pos _ _ hg
end Go.Proofs.YthgmkigfgcejgaaDoor.PNat
