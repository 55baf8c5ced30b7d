/- What the functions of package nat come to, as plain arithmetic: trim, plus, Add, times, Mul. -/
import Derived.Test.YthgmkigfgcejgaaDoorQTXPNatx1
import Derived.Test.YthgmkigfgcejgaaDoorQTXPNatx2
import Derived.Test.YthgmkigfgcejgaaDoorQTXNM
set_option linter.unusedVariables false
set_option linter.unusedSimpArgs false
namespace Go.Proofs.YthgmkigfgcejgaaDoor.PNat
open Go.RowKit Go.Proofs.YthgmkigfgcejgaaDoorW.PrintWords Go.Proofs.YthgmkigfgcejgaaDoorW.PrintLast Go.Proofs.YthgmkigfgcejgaaDoorW.PrintMore Go.Proofs.YthgmkigfgcejgaaDoor.M Go.Proofs.YthgmkigfgcejgaaDoor.NM
attribute [local irreducible] add64Lo add64Hi sub64Lo sub64Hi val
theorem w64 {x : Int} (h0 : -9223372036854775808 ≤ x) (h1 : x ≤ 9223372036854775807) : wrap64 x = x := by unfold wrap64; omega
theorem u64w {x : Int} (h0 : 0 ≤ x) (h1 : x ≤ 18446744073709551615) : IntKind.u64.wrap x = x := IntWalk.u64_in x ⟨h0, h1⟩
theorem rd_nat (l : List Int) (n : Nat) : rd l (n : Int) = l.getD n 0 := by simp [rd]
theorem Bpos : 0 < B := by have := B1; omega
theorem BDig {l : List Int} (hw : ∀ y ∈ l, (Lit.int .u64 y).wf = true) : Dig B l := fun y hy => by
  have := hw y hy
  simp [Lit.wf, IntKind.min, IntKind.max, IntKind.signed, IntKind.bits] at this
  rw [Bdef]; omega
theorem trim_l0 {l : List Int} (h : Dig B l) (hL : l.length ≤ 1099511627776) : ∀ n : Nat, n ≤ l.length → Ev (fun k => nat_trim.l0 k l (n : Int)) (enc B (val B (l.take n))) := by
  intro n
  induction n with
  | zero =>
    intro _
    refine Ev.step (f := fun _ => some []) (fun k => ?_) (by rw [List.take_zero, val_nil, enc_zero]; exact Ev.now _)
    simp only [nat_trim.l0]
    rw [if_neg (by omega), if_pos (by omega), if_pos (by omega)]
    simp
  | succ n ih =>
    intro hn
    have hw : Aside0 (wrap64 (((n + 1 : Nat) : Int) - 1) = (n : Int)) := ⟨by rw [w64 (by omega) (by omega)]; omega⟩
    have hd := h.take (n + 1)
    have ht : l.take (n + 1) = l.take n ++ [l.getD n 0] := by
      rw [List.take_succ_eq_append_getElem (by omega), List.getD_eq_getElem?_getD, List.getElem?_eq_getElem (by omega)]; rfl
    rw [ht] at hd
    have he := enc_snoc B1 hd
    rw [← ht] at he
    by_cases h0 : l.getD n 0 = 0
    · rw [if_pos h0] at he
      rw [he]
      refine Ev.step (f := fun k => nat_trim.l0 k l (n : Int)) (fun k => ?_) (ih (by omega))
      simp only [nat_trim.l0]
      rw [hw.out, if_pos (by omega), if_pos (by omega), if_pos (by omega), rd_nat, if_pos h0]
    · rw [if_neg h0] at he
      rw [he]
      refine Ev.step (f := fun _ => some (l.take (n + 1))) (fun k => ?_) (Ev.now _)
      simp only [nat_trim.l0]
      rw [hw.out, if_pos (by omega), if_pos (by omega), if_pos (by omega), rd_nat, if_neg h0, if_pos (by omega), if_pos (by omega)]
      rfl
theorem trim_ev {l : List Int} (h : Dig B l) (hL : l.length ≤ 1099511627776) : Ev (fun k => nat_trim.f k l) (enc B (val B l)) := by
  have := trim_l0 h hL l.length (Nat.le_refl _)
  rw [List.take_length] at this
  exact this
end Go.Proofs.YthgmkigfgcejgaaDoor.PNat
