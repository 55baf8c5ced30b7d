/- Words for a window of a row of one's own: the cells from one place on, what lies ahead of them and behind them kept. -/
import Derived.Test.YthgmkigfgcejgaaDoorQDBM
import Derived.Test.YthgmkigfgcejgaaDoorQDBWWords
import Derived.Test.YthgmkigfgcejgaaDoorQDBWMore
import Derived.Test.YthgmkigfgcejgaaDoorQDBWLast
set_option linter.unusedVariables false
namespace Go.Proofs.YthgmkigfgcejgaaDoor.M
open Go.RowKit Go.Proofs.YthgmkigfgcejgaaDoorW.PrintWords Go.Proofs.YthgmkigfgcejgaaDoorW.PrintLast Go.Proofs.YthgmkigfgcejgaaDoorW.PrintMore
section
variable {pre post : List Int} {e : Nat} {w w1 : World} {base : Nat} {ok ok' : Nat → Prop} {v : Value} {xs : List Int}
def Wd (pre post : List Int) (e : Nat) (w : World) (base : Nat) (ok : Nat → Prop) (v : Value) (xs : List Int) : Prop :=
  ∃ g c, v = .slice (some ⟨g, pre.length, none⟩) xs.length c ∧ xs.length ≤ c ∧ 0 < xs.length ∧ Kd.R (Kd.int .u64) e w base ok (.slice (some ⟨g, 0, none⟩) (pre ++ xs ++ post).length (pre.length + c)) (pre ++ xs ++ post)
theorem Wd_mono (h : Wd pre post e w base ok v xs) (hok : ∀ k, ok k → ok' k) : Wd pre post e w base ok' v xs := by
  obtain ⟨g, c, hv, hc, hp, hr⟩ := h
  exact ⟨g, c, hv, hc, hp, Kd.R_mono hr hok⟩
theorem Wd_alloc (h : Wd pre post e w base ok v xs) (o : Obj) : Wd pre post e (w.alloc o) base ok v xs := by
  obtain ⟨g, c, hv, hc, hp, hr⟩ := h
  exact ⟨g, c, hv, hc, hp, Kd.R_alloc hr o⟩
theorem Wd_drew (h : Wd pre post e w base ok v xs) : Wd pre post e w.drew base ok v xs := by
  obtain ⟨g, c, hv, hc, hp, hr⟩ := h
  exact ⟨g, c, hv, hc, hp, Kd.R_drew hr⟩
theorem Wd_drewN (h : Wd pre post e w base ok v xs) (m : Nat) : Wd pre post e (w.drewN m) base ok v xs := by
  obtain ⟨g, c, hv, hc, hp, hr⟩ := h
  exact ⟨g, c, hv, hc, hp, Kd.R_drewN hr m⟩
theorem Wd_slice (h : Wd pre post e w base ok v xs) : ∃ A c, v = .slice A xs.length c := by
  obtain ⟨g, c, hv, hc, hp, hr⟩ := h
  exact ⟨_, c, hv⟩
theorem Wd_reads' {A : Option Addr} {n c : Nat} (h : Wd pre post e w base ok (.slice A n c) xs) : n = xs.length ∧ n ≤ c ∧ Kd.C (Kd.int .u64) w A xs.length xs := by
  obtain ⟨g, c', hv, hc, hp, hr⟩ := h
  injection hv with h1 h2 h3
  subst h1 h2 h3
  refine ⟨rfl, hc, ?_⟩
  obtain ⟨_, hle, hC⟩ := Kd.R_reads' hr
  have h1 := Kd.C_drop (c := pre.length + c) hC (m := pre.length) (by simp) hle
  rw [if_neg (by omega)] at h1
  have hd : (pre ++ xs ++ post).drop pre.length = xs ++ post := by rw [List.append_assoc, List.drop_left]
  rw [hd] at h1
  have h2 := Kd.C_take (m := xs.length) h1 (by simp)
  rw [List.take_left] at h2
  have ha : (Option.map (fun x => x.add (pre.length * (Kd.int IntKind.u64).sz)) (some (⟨g, 0, none⟩ : Addr))) = some (⟨g, pre.length, none⟩ : Addr) := by
    have hs : (Kd.int IntKind.u64).sz = 1 := rfl
    rw [hs]
    simp [Addr.add]
    intro h
    rw [h]
    rfl
  rw [ha] at h2
  exact h2
theorem Wd_form (h : Wd pre post e w base ok v xs) (hp : 0 < xs.length) : ∃ g cap, v = .slice (some ⟨g, pre.length, none⟩) xs.length cap ∧ base ≤ g ∧ g < w.heap.size ∧ ∃ cells, w.heap[g]? = some (.cells cells e (0, 0)) := by
  obtain ⟨g, c, hv, hc, hp, hr⟩ := h
  obtain ⟨g', c', e', hb, hl, hcells⟩ := Kd.R_form hr (by simp; omega)
  injection e' with e1 e2 e3
  injection e1 with e1
  injection e1 with e1
  subst e1
  exact ⟨g, c, hv, hb, hl, hcells⟩
theorem Wd_ok {g o n c : Nat} (h : Wd pre post e w base ok (.slice (some ⟨g, o, none⟩) n c) xs) : ok g := by
  obtain ⟨g', c', hv, hc, hp, hr⟩ := h
  injection hv with e1 e2 e3
  injection e1 with e1
  injection e1 with e1 e2
  subst e1
  exact hr.1 g rfl
theorem rd_window (i : Int) (h0 : 0 ≤ i) (hi : i < (xs.length : Int)) : rd (pre ++ xs ++ post) ((pre.length : Int) + i) = rd xs i := by
  have e1 : ((pre.length : Int) + i).toNat = pre.length + i.toNat := by omega
  unfold rd
  rw [e1, List.append_assoc]
  simp only [List.getD_eq_getElem?_getD]
  rw [List.getElem?_append_right (by omega), List.getElem?_append_left (by omega), Nat.add_sub_cancel_left]
theorem Wd_celln {g o n c : Nat} (h : Wd pre post e w base ok (.slice (some ⟨g, o, none⟩) n c) xs) (i : Int) (h0 : 0 ≤ i) (hi : i < (n : Int)) : w.cell? ⟨g, pre.length + i.toNat, none⟩ = some (.int .u64 (rd xs i)) ∧ w.frozen? ⟨g, pre.length + i.toNat, none⟩ = false := by
  obtain ⟨g', c', hv, hc, hp, hr⟩ := h
  injection hv with e1 e2 e3
  injection e1 with e1
  injection e1 with e1 e4
  subst e1 e2 e3 e4
  obtain ⟨a, b⟩ := Kd.R_celln 0 hr ((pre.length : Int) + i) (by omega) (by simp; omega)
  have e5 : ((pre.length : Int) + i).toNat = pre.length + i.toNat := by omega
  rw [e5] at a b
  refine ⟨a.trans ?_, b⟩
  exact congrArg (fun z => some (Value.int IntKind.u64 z)) (rd_window i h0 hi)
theorem set_window (i : Nat) (hi : i < xs.length) (x : Int) : (pre ++ xs ++ post).set (pre.length + i) x = pre ++ xs.set i x ++ post := by
  rw [List.append_assoc, List.set_append_right _ _ (by omega), Nat.add_sub_cancel_left, List.set_append_left _ _ hi, ← List.append_assoc]
theorem Wd_putg {g o n c : Nat} (h : Wd pre post e w base ok (.slice (some ⟨g, o, none⟩) n c) xs) (i : Int) (hi : i.toNat < xs.length) (x : Int) :
    Wd pre post e (w.setCell ⟨g, pre.length + i.toNat, none⟩ (.int .u64 x)) base ok (.slice (some ⟨g, o, none⟩) n c) (xs.set i.toNat x) ∧ w.grownBy (w.setCell ⟨g, pre.length + i.toNat, none⟩ (.int .u64 x)) (some g) := by
  obtain ⟨g', c', hv, hc, hp, hr⟩ := h
  injection hv with e1 e2 e3
  injection e1 with e1
  injection e1 with e1 e4
  subst e1 e2 e3 e4
  obtain ⟨a, b⟩ := Kd.R_putg hr ((pre.length + i.toNat : Nat) : Int) x
  rw [Int.toNat_natCast] at a b
  rw [set_window _ hi] at a
  refine ⟨⟨g, c, by rw [List.length_set], by rw [List.length_set]; exact hc, by rw [List.length_set]; exact hp, ?_⟩, b⟩
  have e6 : (pre ++ xs ++ post).length = (pre ++ xs.set i.toNat x ++ post).length := by simp
  rw [← e6]
  exact a
theorem Wd_of {g c : Nat} (h : Kd.R (Kd.int .u64) e w base ok (.slice (some ⟨g, 0, none⟩) (pre ++ xs ++ post).length (pre.length + c)) (pre ++ xs ++ post)) (hp : 0 < xs.length) : Wd pre post e w base ok (.slice (some ⟨g, pre.length, none⟩) xs.length c) xs := by
  obtain ⟨_, hle, _⟩ := Kd.R_reads' h
  simp at hle
  exact ⟨g, c, rfl, by omega, hp, h⟩
theorem Wd_back {g o n c : Nat} (h : Wd pre post e w base ok (.slice (some ⟨g, o, none⟩) n c) xs) : Kd.R (Kd.int .u64) e w base ok (.slice (some ⟨g, 0, none⟩) (pre ++ xs ++ post).length (pre.length + c)) (pre ++ xs ++ post) := by
  obtain ⟨g', c', hv, hc, hp, hr⟩ := h
  injection hv with e1 e2 e3
  injection e1 with e1
  injection e1 with e1 e4
  subst e1 e2 e3 e4
  exact hr
end
def winV (u : Value) (lo hi : Int) : Value := match u with
  | .slice (some ⟨g, _, _⟩) _ c => .slice (some ⟨g, lo.toNat, none⟩) (hi.toNat - lo.toNat) (c - lo.toNat)
  | v => v
theorem cut_win {P : Program} (t e : TypeId) (kl kh : IntKind) {i : TypeInfo} (ht : P.underlying t = some (.slice e)) (hi : P.info? e = some i) (hsz : i.size = 1) (g n c : Nat) (lo hi' : Int) (h0 : 0 ≤ lo) (h1 : lo < hi') (h2 : hi' ≤ n) (hc : n ≤ c) :
    ∀ W : World, (Instr.slice t (.slice (some ⟨g, 0, none⟩) n c) (some (.int kl lo)) (some (.int kh hi')) none).run P W = .ok (.slice (some ⟨g, lo.toNat, none⟩) (hi'.toNat - lo.toNat) (c - lo.toNat)) W := by
  intro W
  rw [cut_mid t e kl kh ht hi 1 hsz (some ⟨g, 0, none⟩) n c lo hi' h0 (by omega) h2 hc W]
  have hne : c ≠ lo.toNat := by omega
  have ha : (⟨g, 0, none⟩ : Addr).add (lo.toNat * 1) = ⟨g, lo.toNat, none⟩ := by
    by_cases h : lo.toNat = 0
    · rw [h]; rfl
    · simp [Addr.add]
      omega
  rw [Nat.mul_one] at ha
  simp [hne, ha]
end Go.Proofs.YthgmkigfgcejgaaDoor.M
