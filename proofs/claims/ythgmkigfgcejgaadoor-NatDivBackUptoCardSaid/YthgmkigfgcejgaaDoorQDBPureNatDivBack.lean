/- NatDivBack in plain Lean: quotient and rest of any two numbers are the number again. -/
import Derived.Test.YthgmkigfgcejgaaDoorQDBNJ
import Derived.Test.YthgmkigfgcejgaaDoorQDBPNatx18
import Derived.Test.YthgmkigfgcejgaaDoorQDBR
set_option linter.unusedVariables false
namespace Go.Proofs.YthgmkigfgcejgaaDoor.Pure
open Go.RowKit Go.Proofs.YthgmkigfgcejgaaDoor.PNat
open Go.RowKit Go.Proofs.YthgmkigfgcejgaaDoorW.PrintWords Go.Proofs.YthgmkigfgcejgaaDoorW.PrintLast Go.Proofs.YthgmkigfgcejgaaDoorW.PrintMore Go.Proofs.YthgmkigfgcejgaaDoor.M Go.Proofs.YthgmkigfgcejgaaDoor.NM
theorem NatDivBack (a : List Int) (ha : a.length ≤ 1048576) (wa : ∀ y ∈ a, (Lit.int .u64 y).wf = true) (b : List Int) (hb : b.length ≤ 1048576) (wb : ∀ y ∈ b, (Lit.int .u64 y).wf = true) : ∃ k, vernierlaw04_NatDivBack.f k a b = some true := by
  have da := BDig wa
  have db := BDig wb
  have hA := val_nonneg Bpos da
  have hC := val_nonneg Bpos db
  have lA := pval_lt Bpos da
  have lC := pval_lt Bpos db
  have : Ev (fun k => vernierlaw04_NatDivBack.f k a b) true := by
    by_cases h : 0 < val B b
    · have q0 : 0 ≤ val B a / val B b := Int.ediv_nonneg hA hC
      have q1 : val B a / val B b ≤ val B a := Int.ediv_le_self _ hA
      have r0 := Int.emod_nonneg (val B a) (show val B b ≠ 0 by omega)
      have r1 := Int.emod_lt_of_pos (val B a) h
      have he := Int.mul_ediv_add_emod (val B a) (val B b)
      have ql : (enc B (val B a / val B b)).length ≤ a.length := penc_len B1 (by omega)
      have rl : (enc B (val B a % val B b)).length ≤ b.length := penc_len B1 (by omega)
      have dq := dig_enc' B1 (val B a / val B b)
      have dr := dig_enc' B1 (val B a % val B b)
      have vq := val_enc' B1 q0
      have vr := val_enc' B1 r0
      have hm := Mul_ev (l := [b, enc B (val B a / val B b)]) (fun x hx => by
        rcases List.mem_cons.1 hx with rfl | hx
        · exact db
        · rcases List.mem_cons.1 hx with rfl | hx
          · exact dq
          · cases hx) (by simp only [List.map_cons, List.map_nil, List.sum_cons, List.sum_nil, List.length_cons, List.length_nil]; omega)
      have hp : prodV [b, enc B (val B a / val B b)] = val B b * (val B a / val B b) := by
        show 1 * val B b * val B (enc B (val B a / val B b)) = _
        rw [vq, Int.one_mul]
      rw [hp] at hm
      have p0 : 0 ≤ val B b * (val B a / val B b) := Int.mul_nonneg hC q0
      have pl : (enc B (val B b * (val B a / val B b))).length ≤ a.length := penc_len B1 (by omega)
      have vp := val_enc' B1 p0
      have dp := dig_enc' B1 (val B b * (val B a / val B b))
      have hs := Add_ev (l := [enc B (val B b * (val B a / val B b)), enc B (val B a % val B b)]) (fun x hx => by
        rcases List.mem_cons.1 hx with rfl | hx
        · exact dp
        · rcases List.mem_cons.1 hx with rfl | hx
          · exact dr
          · cases hx) 1048576 (fun x hx => by
        rcases List.mem_cons.1 hx with rfl | hx
        · omega
        · rcases List.mem_cons.1 hx with rfl | hx
          · omega
          · cases hx) (by omega) (by simp)
      have hsv : sumV [enc B (val B b * (val B a / val B b)), enc B (val B a % val B b)] = val B a := by
        show val B (enc B (val B b * (val B a / val B b))) + (val B (enc B (val B a % val B b)) + 0) = _
        rw [vp, vr]; omega
      rw [hsv] at hs
      have la := enc_len_le B1 da
      have da' := dig_enc' B1 (val B a)
      have va := val_enc' B1 hA
      have c1 := nCmp_ev da' da (by omega) (by omega)
      rw [va, cmpI_eq] at c1
      have c2 := nCmp_ev dr db (by omega) (by omega)
      rw [vr, cmpI_lt r1] at c2
      have s1 := nSub_ev da' da (by omega) (by omega)
      rw [va, if_neg (Int.lt_irrefl _), Int.sub_self, enc_zero] at s1
      refine Ev.congr (fun k => rfl) (Ev.bind shown_ev (Ev.bind (nDiv_ev da db (by omega) (by omega) h) ?_))
      refine Ev.congr (fun k => if_pos rfl) (Ev.bind hm (Ev.bind hs (Ev.bind c1 (Ev.bind c2 (Ev.bind s1 ?_)))))
      simp
      exact Ev.now _
    · have h0 : val B b = 0 := by omega
      have hb1 := nBits_ev db (by omega)
      rw [h0, bl_zero] at hb1
      refine Ev.congr (fun k => rfl) (Ev.bind shown_ev (Ev.bind (nDiv_zero da db (by omega) (by omega) h0) ?_))
      refine Ev.congr (fun k => if_neg (by decide)) (Ev.bind hb1 ?_)
      simp
      exact Ev.now _
  obtain ⟨k, hk⟩ := this
  exact ⟨k, hk k (Nat.le_refl k)⟩
end Go.Proofs.YthgmkigfgcejgaaDoor.Pure
