/- nat.less and nat.back, handed a window of a row of the caller's own: what becomes of the whole row. -/
import Derived.Test.YthgmkigfgcejgaaDoorQDBGLess
set_option linter.unusedVariables false
namespace Go.Proofs.YthgmkigfgcejgaaDoor.PNat
open Go.RowKit Go.Proofs.YthgmkigfgcejgaaDoorW.PrintWords Go.Proofs.YthgmkigfgcejgaaDoorW.PrintLast Go.Proofs.YthgmkigfgcejgaaDoorW.PrintMore Go.Proofs.YthgmkigfgcejgaaDoor.M
theorem window_split (X : List Int) {lo hi : Int} (h0 : 0 ≤ lo) (h1 : lo < hi) (h2 : hi ≤ (X.length : Int)) : X.take lo.toNat ++ (X.take hi.toNat).drop lo.toNat ++ X.drop hi.toNat = X := by
  have e : (X.take hi.toNat).take lo.toNat = X.take lo.toNat := by rw [List.take_take, Nat.min_eq_left (by omega)]
  rw [← e, List.take_append_drop, List.take_append_drop]
theorem window_len (X : List Int) {lo hi : Int} (h0 : 0 ≤ lo) (h1 : lo < hi) (h2 : hi ≤ (X.length : Int)) : ((X.take hi.toNat).drop lo.toNat).length = hi.toNat - lo.toNat := by
  rw [List.length_drop, List.length_take]; omega
def nat_lessW.f (k : Nat) (l0 : List Int) (a1 a2 : Int) (l3 : List Int) (a4 : Int) : Option (Bool × List Int) :=
  if 0 ≤ a1 ∧ a1 < a2 ∧ a2 ≤ (l0.length : Int) then (nat_less.f k ((l0.take a2.toNat).drop a1.toNat) l3 a4).bind fun b => some (b.1, l0.take a1.toNat ++ b.2 ++ l0.drop a2.toNat) else none
def nat_backW.f (k : Nat) (l0 : List Int) (a1 a2 : Int) (l3 : List Int) : Option (Bool × List Int) :=
  if 0 ≤ a1 ∧ a1 < a2 ∧ a2 ≤ (l0.length : Int) then (nat_back.f k ((l0.take a2.toNat).drop a1.toNat) l3).bind fun b => some (b.1, l0.take a1.toNat ++ b.2 ++ l0.drop a2.toNat) else none
theorem window_of {w : World} {base : Nat} {ok : Nat → Prop} {u : Value} {X : List Int} {lo hi : Int} (h0 : 0 ≤ lo) (h1 : lo < hi) (h2 : hi ≤ (X.length : Int)) (h : Kd.R (Kd.int .u64) 42 w base ok u X) :
    ∃ c, winV u lo hi = .slice (some ⟨(match u with | .slice (some ⟨g, _, _⟩) _ _ => g | _ => 0), lo.toNat, none⟩) (hi.toNat - lo.toNat) c ∧ Wd (X.take lo.toNat) (X.drop hi.toNat) 42 w base ok (winV u lo hi) ((X.take hi.toNat).drop lo.toNat) ∧
      ∀ (w' : World) (ok' : Nat → Prop) (r : List Int), Wd (X.take lo.toNat) (X.drop hi.toNat) 42 w' base ok' (winV u lo hi) r → Kd.R (Kd.int .u64) 42 w' base ok' u (X.take lo.toNat ++ r ++ X.drop hi.toNat) := by
  obtain ⟨g, cap, rfl, hb, hl, hcells⟩ := Kd.R_form h (by omega)
  obtain ⟨_, hle, _⟩ := Kd.R_reads' h
  have hs := window_split X h0 h1 h2
  have hn := window_len X h0 h1 h2
  have hp : (X.take lo.toNat).length = lo.toNat := by rw [List.length_take]; omega
  have hcap : lo.toNat + (cap - lo.toNat) = cap := by omega
  refine ⟨cap - lo.toNat, rfl, ?_, fun w' ok' r hr => ?_⟩
  · have h' : Kd.R (Kd.int .u64) 42 w base ok (.slice (some ⟨g, 0, none⟩) (X.take lo.toNat ++ (X.take hi.toNat).drop lo.toNat ++ X.drop hi.toNat).length ((X.take lo.toNat).length + (cap - lo.toNat))) (X.take lo.toNat ++ (X.take hi.toNat).drop lo.toNat ++ X.drop hi.toNat) := by
      rw [hs, hp, hcap]; exact h
    have := Wd_of h' (by omega)
    rw [hp, hn] at this
    exact this
  · obtain ⟨A, c2, e2⟩ := Wd_slice hr
    have hlen : r.length = hi.toNat - lo.toNat := by
      have e3 : Value.slice (some ⟨g, lo.toNat, none⟩) (hi.toNat - lo.toNat) (cap - lo.toNat) = .slice A r.length c2 := e2
      injection e3 with _ e4 _
      exact e4.symm
    have hb2 := Wd_back (show Wd (X.take lo.toNat) (X.drop hi.toNat) 42 w' base ok' (.slice (some ⟨g, lo.toNat, none⟩) (hi.toNat - lo.toNat) (cap - lo.toNat)) r from hr)
    have hX : (X.take lo.toNat ++ r ++ X.drop hi.toNat).length = X.length := by
      rw [List.length_append, List.length_append, List.length_take, List.length_drop, hlen]; omega
    rw [hX, hp, hcap] at hb2
    exact hb2
theorem nat_lessW.calls (k : Nat) (P0_ : Nat → Prop) (u9000_ : Value) (l0 : List Int) (a1 a2 : Int) (A3 : Option Addr) (c3 : Nat) (l3 : List Int) (a4 : Int) (r1 : Bool) (r2 : List Int) (w0 w : World) (hB : Below w0.heap.size w0 w) (ho0 : Kd.R (Kd.int .u64) 42 w w0.heap.size P0_ u9000_ l0) (hr3 : ∀ W_, Kept w W_ (fun k_ => P0_ k_) → Kd.C (Kd.int .u64) W_ A3 l3.length l3) (hc3 : l3.length ≤ c3) (h : nat_lessW.f k l0 a1 a2 l3 a4 = some (r1, r2)) {uw : Value} (hw : uw = winV u9000_ a1 a2 := by with_unfolding_all rfl) :
    Calls Tryd.prog 81 #[uw, .slice A3 l3.length c3, .int .u64 a4] w fun e w' => e = .returned (.bool r1) ∧ Kd.R (Kd.int .u64) 42 w' w0.heap.size (fun k_ => (P0_ k_ ∨ w.heap.size ≤ k_)) u9000_ r2 ∧ Below w0.heap.size w0 w' ∧ Kept w w' (fun k_ => P0_ k_) := by
  subst hw
  unfold nat_lessW.f at h
  by_cases hg : 0 ≤ a1 ∧ a1 < a2 ∧ a2 ≤ (l0.length : Int)
  case neg => rw [if_neg hg] at h; exact absurd h (by simp)
  rw [if_pos hg] at h
  obtain ⟨⟨b1, b2⟩, hb, h⟩ := Option.bind_eq_some_iff.mp h
  simp only [Option.some.injEq, Prod.mk.injEq] at h
  obtain ⟨rfl, rfl⟩ := h
  obtain ⟨c, _, hW, hback⟩ := window_of hg.1 hg.2.1 hg.2.2 ho0
  refine (nat_less.calls k P0_ _ _ _ _ A3 c3 l3 a4 b1 b2 w0 w hB hW hr3 hc3 hb).mono ?_
  rintro e w' ⟨he, h1, h2, h3⟩
  exact ⟨he, hback w' _ b2 h1, h2, h3⟩
theorem nat_backW.calls (k : Nat) (P0_ : Nat → Prop) (u9000_ : Value) (l0 : List Int) (a1 a2 : Int) (A3 : Option Addr) (c3 : Nat) (l3 : List Int) (r1 : Bool) (r2 : List Int) (w0 w : World) (hB : Below w0.heap.size w0 w) (ho0 : Kd.R (Kd.int .u64) 42 w w0.heap.size P0_ u9000_ l0) (hr3 : ∀ W_, Kept w W_ (fun k_ => P0_ k_) → Kd.C (Kd.int .u64) W_ A3 l3.length l3) (hc3 : l3.length ≤ c3) (h : nat_backW.f k l0 a1 a2 l3 = some (r1, r2)) {uw : Value} (hw : uw = winV u9000_ a1 a2 := by with_unfolding_all rfl) :
    Calls Tryd.prog 82 #[uw, .slice A3 l3.length c3] w fun e w' => e = .returned (.bool r1) ∧ Kd.R (Kd.int .u64) 42 w' w0.heap.size (fun k_ => (P0_ k_ ∨ w.heap.size ≤ k_)) u9000_ r2 ∧ Below w0.heap.size w0 w' ∧ Kept w w' (fun k_ => P0_ k_) := by
  subst hw
  unfold nat_backW.f at h
  by_cases hg : 0 ≤ a1 ∧ a1 < a2 ∧ a2 ≤ (l0.length : Int)
  case neg => rw [if_neg hg] at h; exact absurd h (by simp)
  rw [if_pos hg] at h
  obtain ⟨⟨b1, b2⟩, hb, h⟩ := Option.bind_eq_some_iff.mp h
  simp only [Option.some.injEq, Prod.mk.injEq] at h
  obtain ⟨rfl, rfl⟩ := h
  obtain ⟨c, _, hW, hback⟩ := window_of hg.1 hg.2.1 hg.2.2 ho0
  refine (nat_back.calls k P0_ _ _ _ _ A3 c3 l3 b1 b2 w0 w hB hW hr3 hc3 hb).mono ?_
  rintro e w' ⟨he, h1, h2, h3⟩
  exact ⟨he, hback w' _ b2 h1, h2, h3⟩
end Go.Proofs.YthgmkigfgcejgaaDoor.PNat
