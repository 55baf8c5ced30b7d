/- What the reference's DivMod comes to, as plain arithmetic. -/
import Derived.Test.YthgmkigfgcejgaaDoorQTXNI
import Derived.Test.YthgmkigfgcejgaaDoorQTXPNatx0
import Derived.Test.YthgmkigfgcejgaaDoorQTXPNatx1
import Derived.Test.YthgmkigfgcejgaaDoorQTXPNatx3
import Derived.Test.YthgmkigfgcejgaaDoorQTXPNatx4
import Derived.Test.YthgmkigfgcejgaaDoorQTXM
import Derived.Test.YthgmkigfgcejgaaDoorQTXWWords
import Derived.Test.YthgmkigfgcejgaaDoorQTXWMore
import Derived.Test.YthgmkigfgcejgaaDoorQTXWLast
import Derived.Test.YthgmkigfgcejgaaDoorQTXPNatx11
set_option linter.unusedVariables false
set_option linter.unusedSimpArgs false
namespace Go.Proofs.YthgmkigfgcejgaaDoor.PNat
open Go.RowKit Go.Proofs.YthgmkigfgcejgaaDoorW.PrintWords Go.Proofs.YthgmkigfgcejgaaDoorW.PrintLast Go.Proofs.YthgmkigfgcejgaaDoorW.PrintMore Go.Proofs.YthgmkigfgcejgaaDoor.M Go.Proofs.YthgmkigfgcejgaaDoor.NM
attribute [local irreducible] add64Lo add64Hi sub64Lo sub64Hi val
theorem cmpI_le {A C : Int} : cmpI A C ≤ 0 ↔ A ≤ C := by
  unfold cmpI
  by_cases h : A < C
  · rw [if_pos h]; constructor <;> omega
  · rw [if_neg h]
    by_cases h2 : A = C
    · rw [if_pos h2]; constructor <;> omega
    · rw [if_neg h2]; constructor <;> omega
theorem rdm_l1 {l x6 : List Int} {C : Int} (hC : 0 < C) {n : Nat} (hCn : C < pw D n) (hn : n ≤ 1073741824) {i : Nat} (hi : i < x6.length) (hi1 : i ≤ 1073741824) {R : Int} (hR0 : 0 ≤ R) (hR1 : R < D * C) {res : List Int × List Int}
    (next : Ev (fun k => vernierref04_DivMod.l0 k l (enc D C) (x6.set i (R / C)) (enc D (R % C)) ((i : Int) - 1)) res) :
    ∀ (m : Nat) (low high : Int), (high - low).toNat ≤ m → 0 ≤ low → low < high → high ≤ D → low * C ≤ R → R < high * C →
      Ev (fun k => vernierref04_DivMod.l1 k l (enc D C) x6 (enc D R) (i : Int) low high) res := by
  have htm : ∀ q, 0 ≤ q → q ≤ D → C * q < pw D (n + 1) := by
    intro q h0 h1
    rw [pw_succ]
    have h2 : C * q ≤ C * D := Int.mul_le_mul_of_nonneg_left h1 (by omega)
    have h3 : C * D < pw D n * D := Int.mul_lt_mul_of_pos_right hCn Dpos
    omega
  have htl : ∀ q, 0 ≤ q → q ≤ D → (enc D (C * q)).length ≤ n + 1 := fun q h0 h1 => penc_len D1 (htm q h0 h1)
  have hRl : (enc D R).length ≤ n + 1 := by
    refine penc_len D1 ?_
    rw [pw_succ, Int.mul_comm]
    exact Int.lt_of_lt_of_le hR1 (Int.mul_le_mul_of_nonneg_left (by omega) (Int.le_of_lt Dpos))
  intro m
  induction m with
  | zero => intro low high hm; omega
  | succ m ih =>
    intro low high hm l0 l1 hD hl hh
    have hDn : D = 16777216 := Ddef
    by_cases h1 : high - low > 1
    · have hw1 : Aside0 (wrap64 (high - low) = high - low) := ⟨w64 (by omega) (by omega)⟩
      have hw2 : Aside0 (wrap64 (Int.tdiv (wrap64 (low + high)) 2) = (low + high) / 2) := ⟨by rw [w64 (x := low + high) (by omega) (by omega), Int.tdiv_eq_ediv_of_nonneg (by omega), w64 (by omega) (by omega)]⟩
      have ht := rtimes_ev (A := C) (q := (low + high) / 2) (by omega) (by omega) (by omega) (htm _ (by omega) (by omega)) (by omega)
      have hp : 0 ≤ C * ((low + high) / 2) := Int.mul_nonneg (by omega) (by omega)
      have hc := rCmp_ev hp hR0 (by have := htl ((low + high) / 2) (by omega) (by omega); omega)
      refine Ev.congr (f := fun k => vernierref04_DivMod.l1 k l (enc D C) x6 (enc D R) (i : Int) low high) (fun k => rfl) ?_
      refine Ev.step (f := fun k => (vernierref04_times.f k (enc D C) ((low + high) / 2)).bind fun t => (vernierref04_Cmp.f k t (enc D R)).bind fun c => if c ≤ 0 then vernierref04_DivMod.l1 k l (enc D C) x6 (enc D R) (i : Int) ((low + high) / 2) high else vernierref04_DivMod.l1 k l (enc D C) x6 (enc D R) (i : Int) low ((low + high) / 2)) (fun k => ?_) (Ev.bind ht (Ev.bind hc ?_))
      · simp only [vernierref04_DivMod.l1]
        rw [hw1.out, hw2.out, if_pos h1]
      · by_cases hle : C * ((low + high) / 2) ≤ R
        · refine Ev.congr (fun k => by rw [if_pos (cmpI_le.2 hle)]) (ih ((low + high) / 2) high (by omega) (by omega) (by omega) hD (by rw [Int.mul_comm]; exact hle) hh)
        · refine Ev.congr (fun k => by rw [if_neg (fun h => hle (cmpI_le.1 h))]) (ih low ((low + high) / 2) (by omega) l0 (by omega) (by omega) hl (by rw [Int.mul_comm]; omega))
    · obtain rfl : high = low + 1 := by omega
      rw [Int.add_mul, Int.one_mul] at hh
      obtain ⟨e1, e2⟩ := quot_of (a := R) (y := C) (q := low) (t := R - low * C) (by omega) (by omega) (by omega)
      rw [e1, e2] at next
      have hw1 : Aside0 (wrap64 (low + 1 - low) = 1) := ⟨by rw [w64 (by omega) (by omega)]; omega⟩
      have hw3 : Aside0 (wrap64 ((i : Int) - 1) = (i : Int) - 1) := ⟨w64 (by omega) (by omega)⟩
      have ht := rtimes_ev (A := C) (q := low) (by omega) l0 (by omega) (htm _ l0 (by omega)) (by omega)
      have hp : 0 ≤ C * low := Int.mul_nonneg (by omega) l0
      rw [Int.mul_comm] at hl
      have hs := rSub_ev hR0 hp hl (by omega)
      rw [Int.mul_comm low] at next
      refine Ev.step (f := fun k => (vernierref04_times.f k (enc D C) low).bind fun t => (vernierref04_Sub.f k (enc D R) t).bind fun u => vernierref04_DivMod.l0 k l (enc D C) (x6.set i low) u ((i : Int) - 1)) (fun k => ?_) (Ev.bind ht (Ev.bind hs next))
      simp only [vernierref04_DivMod.l1]
      rw [hw1.out, hw3.out, if_neg (by omega), if_pos (by omega), if_pos (by omega), Int.toNat_natCast]
theorem rdm_l0 {l : List Int} (hl : Dig D l) (hL : l.length ≤ 1073741824) {C : Int} (hC : 0 < C) {n : Nat} (hCn : C < pw D n) (hn : n ≤ 1073741823) : ∀ (i : Nat) (x : List Int) (r : Int), i ≤ l.length → x.length = l.length → Dig D x → 0 ≤ r → r < C → val D (l.drop i) = val D (x.drop i) * C + r →
    Ev (fun k => vernierref04_DivMod.l0 k l (enc D C) x (enc D r) ((i : Int) - 1)) (enc D (val D l / C), enc D (val D l % C)) := by
  intro i
  induction i with
  | zero =>
    intro x r hi hx hd r0 r1 hv
    rw [List.drop_zero, List.drop_zero] at hv
    obtain ⟨e1, e2⟩ := quot_of hv r0 r1
    rw [e1, e2]
    refine Ev.step (f := fun k => (vernierref04_Cut.f k x).bind fun t => some (t, enc D r)) (fun k => ?_) (Ev.bind (rCut_ev hd (by omega)) (Ev.now _))
    simp only [vernierref04_DivMod.l0]
    rw [if_neg (by omega)]
  | succ i ih =>
    intro x r hi hx hd r0 r1 hv
    have hg := hl.get Dpos i
    have hrl : (enc D r).length ≤ n := penc_len D1 (by omega)
    have hdn : Dig D ([l.getD i 0] ++ enc D r) := Dig.append (Dig.cons hg.1 hg.2 (Dig.nil D)) (dig_enc' D1 r)
    have hcut := rCut_ev hdn (by simp only [List.length_append, List.length_cons, List.length_nil]; omega)
    have hval : val D ([l.getD i 0] ++ enc D r) = l.getD i 0 + D * r := by rw [List.singleton_append, val_cons, val_enc' D1 r0]
    rw [hval] at hcut
    have hlt : i < x.length := by omega
    have hDr0 : 0 ≤ D * r := Int.mul_nonneg (Int.le_of_lt Dpos) r0
    have hDr1 : D * (r + 1) ≤ D * C := Int.mul_le_mul_of_nonneg_left (by omega) (Int.le_of_lt Dpos)
    rw [Int.mul_add, Int.mul_one] at hDr1
    have he := Int.mul_ediv_add_emod (l.getD i 0 + D * r) C
    have q0 : 0 ≤ (l.getD i 0 + D * r) / C := Int.ediv_nonneg (by omega) (by omega)
    have q1 : (l.getD i 0 + D * r) / C < D := Int.ediv_lt_of_lt_mul hC (by omega)
    have t0 := Int.emod_nonneg (l.getD i 0 + D * r) (show C ≠ 0 by omega)
    have t1 := Int.emod_lt_of_pos (l.getD i 0 + D * r) hC
    have key := rdm_l1 (l := l) (x6 := x) hC hCn (by omega) hlt (by omega) (show 0 ≤ l.getD i 0 + D * r by omega) (by omega) (ih (x.set i ((l.getD i 0 + D * r) / C)) ((l.getD i 0 + D * r) % C) (by omega) (by simpa using hx) (hd.set q0 q1) t0 t1 (by
      rw [drop_set_cons x i _ hlt, drop_cons' l i (by omega), val_cons, val_cons]
      exact short_step (by rw [Int.mul_comm r, Int.add_comm (D * r), Int.mul_comm _ C]; omega) hv)) (D - 0).toNat 0 D (Nat.le_refl _) (Int.le_refl _) Dpos (Int.le_refl _) (by omega) (by omega)
    have hi1 : Aside0 (((i + 1 : Nat) : Int) - 1 = (i : Int)) := ⟨by omega⟩
    rw [show D = 16777216 from Ddef] at key
    refine Ev.step (f := fun k => (vernierref04_Cut.f k ([l.getD i 0] ++ enc D r)).bind fun t => vernierref04_DivMod.l1 k l (enc D C) x t (i : Int) 0 16777216) (fun k => ?_) (Ev.bind hcut (by rw [show D = 16777216 from Ddef]; exact key))
    simp only [vernierref04_DivMod.l0]
    rw [hi1.out, if_pos (by omega), if_pos (by omega), if_pos (by omega), rd_nat]
    simp only [Option.bind_some]
    rw [if_pos (by simp only [List.length_cons, List.length_nil]; omega)]
theorem rDivMod_ev {A C : Int} (hA : 0 ≤ A) (hC : 0 < C) (hLA : (enc D A).length ≤ 1073741824) (hLC : (enc D C).length ≤ 1073741823) : Ev (fun k => vernierref04_DivMod.f k (enc D A) (enc D C)) (enc D (A / C), enc D (A % C)) := by
  have hCn := pval_lt Dpos (dig_enc' D1 C)
  rw [val_enc' D1 (Int.le_of_lt hC)] at hCn
  have := rdm_l0 (dig_enc' D1 A) hLA hC hCn hLC (enc D A).length (List.replicate (enc D A).length 0) 0 (Nat.le_refl _) (by simp) (Dig.zeros Dpos _) (Int.le_refl _) hC (by simp [val])
  rw [val_enc' D1 hA, enc_zero] at this
  refine Ev.congr (fun k => ?_) this
  unfold vernierref04_DivMod.f
  rw [if_pos (by omega), Int.toNat_natCast, if_pos (by omega), w64 (by omega) (by omega)]
end Go.Proofs.YthgmkigfgcejgaaDoor.PNat
