/- Layer 18, plain: the printed trim, formed and Norm answer as the lists' functions. -/
import Derived.Test.YthhkmpicpihjlaaGreatDoorQVPScx3
import Derived.Test.YthhkmpicpihjlaaGreatDoorQVSC
import Derived.Lib.Strings
set_option linter.unusedVariables false
set_option linter.unusedSimpArgs false
namespace Go.Proofs.YthhkmpicpihjlaaGreatDoor.PSc
open Go.RowKit Go.Proofs.YthhkmpicpihjlaaGreatDoorW.PrintWords Go.Proofs.YthhkmpicpihjlaaGreatDoorW.PrintLast Go.Proofs.YthhkmpicpihjlaaGreatDoorW.PrintMore Go.Proofs.YthhkmpicpihjlaaGreatDoor.SC
def mkB (l : List UInt8) : ByteArray := ⟨l.toArray⟩
theorem mkB_size (l : List UInt8) : (mkB l).size = l.length := List.size_toArray ..
theorem mkB_list (l : List UInt8) : (mkB l).data.toList = l := rfl
theorem mkB_toList (l : List UInt8) : (mkB l).toList = l := by rw [Lib.toList_data]; rfl
theorem mkB_self (s : ByteArray) : mkB s.data.toList = s := rfl
theorem mkB_append (a b : List UInt8) : mkB a ++ mkB b = mkB (a ++ b) := by
  apply ByteArray.ext
  rw [ByteArray.data_append]
  simp [mkB]
theorem mkB_ext (l : List UInt8) (a b : Nat) (hb : b ≤ l.length) : (mkB l).extract a b = mkB ((l.take b).drop a) := by
  apply ByteArray.ext
  rw [ByteArray.data_extract]
  simp only [mkB]
  rw [List.extract_toArray]
  congr 1
  rw [List.extract_eq_drop_take', List.drop_take] <;> rfl
theorem mkB_take (l : List UInt8) (n : Nat) (h : n ≤ l.length) : (mkB l).extract 0 n = mkB (l.take n) := by rw [mkB_ext l 0 n h, List.drop_zero]
theorem mkB_drop (l : List UInt8) (n : Nat) : (mkB l).extract n (mkB l).size = mkB (l.drop n) := by rw [mkB_size, mkB_ext l n l.length (Nat.le_refl _), List.take_length]
theorem bt_mk {l : List UInt8} {i : Nat} (h : i < l.length) : bt (mkB l) (i : Int) = ((l[i]'h).toNat : Int) := by
  unfold bt
  rw [Int.toNat_natCast, dif_pos (by rw [mkB_size]; exact h)]
  rfl
theorem bt_mk0 (c : UInt8) (l : List UInt8) : bt (mkB (c :: l)) 0 = (c.toNat : Int) := by
  have := bt_mk (l := c :: l) (i := 0) (by simp)
  simpa using this
def flatD (d : D) : Bool × Bool × ByteArray × Int := (d.nar, d.neg, mkB d.ds, d.e)
theorem wrap_id {n : Int} (h1 : -9223372036854775808 ≤ n) (h2 : n ≤ 9223372036854775807) : wrap64 n = n := by unfold wrap64; omega
theorem scan_trim_ev (d : D) (hl : d.ds.length ≤ 9223372036854775807) (h1 : -1000000 ≤ d.e) (h2 : d.e ≤ 1000000) : scan_trim.f d.nar d.neg (mkB d.ds) d.e = some (flatD (nrm d)) := by
  obtain ⟨nar, neg, ds, e⟩ := d
  simp only at hl h1 h2
  unfold scan_trim.f nrm flatD
  cases nar with
  | true => rfl
  | false =>
    simp only [Bool.false_eq_true, if_false]
    have hs : strings_TrimLeft.f (mkB ds) (⟨#[48]⟩ : ByteArray) = some (mkB (lz ds)) := rfl
    rw [hs]
    simp only [Option.bind_some]
    have hll := lz_le ds
    by_cases h0 : lz ds = []
    · rw [if_pos (by rw [mkB_toList]; exact h0), if_pos h0]
      rfl
    · rw [if_neg (by rw [mkB_toList]; exact h0), if_neg h0]
      have hr : strings_TrimRight.f (mkB (lz ds)) (⟨#[48]⟩ : ByteArray) = some (mkB (rz (lz ds))) := by
        unfold strings_TrimRight.f
        rw [if_pos ⟨rfl, by rw [mkB_size]; omega⟩]
        rfl
      rw [hr]
      simp only [Option.bind_some, mkB_size]
      have hrl := rz_le (lz ds)
      have hm : mostE = 1000000 := rfl
      have e1 : mn (wrap64 (((lz ds).length : Int) - ((rz (lz ds)).length : Int))) (wrap64 (1000000 - e)) = ((min (tz (lz ds)) (mostE - e).toNat : Nat) : Int) := by
        rw [wrap_id (by omega) (by omega), wrap_id (by omega) (by omega)]
        unfold mn tz
        split <;> omega
      rw [e1]
      have hk : min (tz (lz ds)) (mostE - e).toNat ≤ (lz ds).length := by unfold tz; omega
      have hk2 : min (tz (lz ds)) (mostE - e).toNat ≤ (mostE - e).toNat := Nat.min_le_right _ _
      generalize min (tz (lz ds)) (mostE - e).toNat = k at *
      rw [wrap_id (n := ((lz ds).length : Int) - (k : Int)) (by omega) (by omega), if_pos (by omega), if_pos (by omega), wrap_id (n := e + (k : Int)) (by omega) (by omega)]
      have e2 : (((lz ds).length : Int) - (k : Int)).toNat = (lz ds).length - k := by omega
      rw [e2, mkB_take _ _ (by omega)]
theorem ten_dg (c : UInt8) : tenDigits.contains c = dg c := by
  have h : ∀ n : Fin 256, tenDigits.contains (UInt8.ofNat n.val) = dg (UInt8.ofNat n.val) := by decide +kernel
  have := h ⟨c.toNat, c.toNat_lt⟩
  simpa using this
theorem dw_nil {p : UInt8 → Bool} {l : List UInt8} : l.dropWhile p = [] ↔ ∀ x ∈ l, p x = true := by
  induction l with
  | nil => simp
  | cons c l ih =>
    rw [List.dropWhile_cons]
    by_cases hc : p c = true
    · rw [if_pos hc, ih]; simp [hc]
    · rw [if_neg hc]; simp [hc]
theorem trimS_nil (l : List UInt8) : (Lib.trimS l tenDigits = []) ↔ l.all dg = true := by
  have hf : (fun c => tenDigits.contains c) = dg := funext ten_dg
  unfold Lib.trimS Lib.trimLeftS Lib.trimRightS
  rw [hf]
  constructor
  · intro h
    have h1 : ∀ x ∈ (l.reverse.dropWhile dg).reverse, dg x = true := by
      intro x hx
      have := dw_nil.1 h x hx
      exact this
    by_cases hr : l.reverse.dropWhile dg = []
    · have := dw_nil.1 hr
      exact List.all_eq_true.2 fun x hx => this x (List.mem_reverse.2 hx)
    · exfalso
      have h2 := List.head_dropWhile_not dg hr
      have h3 := h1 _ (List.mem_reverse.2 (List.head_mem hr))
      rw [h2] at h3
      cases h3
  · intro h
    have h2 : l.reverse.dropWhile dg = [] := dw_nil.2 fun x hx => List.all_eq_true.1 h x (List.mem_reverse.1 hx)
    rw [h2]; rfl
theorem scan_formed_ev (d : D) : scan_formed.f d.nar d.neg (mkB d.ds) d.e = some (formed d) := by
  obtain ⟨nar, neg, ds, e⟩ := d
  unfold scan_formed.f formed
  cases nar with
  | true =>
    simp only [if_true, mkB_toList, Bool.true_and]
    rw [show (ds == ([] : List UInt8)) = ds.isEmpty by cases ds <;> rfl]
    rfl
  | false =>
    simp only [Bool.false_eq_true, if_false, mkB_toList, mkB_size]
    by_cases h0 : ds = []
    · rw [if_pos h0]; subst h0; rfl
    · rw [if_neg h0]
      have hm : mostE = 1000000 := rfl
      have e0 : ds.isEmpty = false := List.isEmpty_eq_false_iff.2 h0
      by_cases h1 : (ds.length : Int) > 4096
      · rw [if_pos h1, decide_eq_false (by omega : ¬ ds.length ≤ 4096), Bool.false_and, Bool.and_false]
      · rw [if_neg h1, decide_eq_true (by omega : ds.length ≤ 4096), e0]
        by_cases h2 : e < -1000000
        · rw [if_pos h2, decide_eq_false (by omega : ¬ -mostE ≤ e)]; simp
        · rw [if_neg h2, decide_eq_true (by omega : -mostE ≤ e)]
          by_cases h3 : e > 1000000
          · rw [if_pos h3, decide_eq_false (by omega : ¬ e ≤ mostE)]; simp
          · rw [if_neg h3, decide_eq_true (by omega : e ≤ mostE)]
            have ht : strings_Trim.f (mkB ds) (⟨#[48, 49, 50, 51, 52, 53, 54, 55, 56, 57]⟩ : ByteArray) = some (mkB (Lib.trimS ds tenDigits)) := by
              unfold strings_Trim.f
              rw [if_pos ⟨rfl, by rw [mkB_size]; omega⟩]
              rfl
            rw [ht]
            simp only [Option.bind_some, mkB_toList]
            congr 1
            rw [Bool.eq_iff_iff]
            simp only [Bool.not_false, Bool.true_and, Bool.and_true, beq_iff_eq]
            exact trimS_nil ds
theorem formed_bounds {d : D} (h : formed d = true) : d.ds.length ≤ 4096 ∧ -1000000 ≤ d.e ∧ d.e ≤ 1000000 := by
  obtain ⟨nar, neg, ds, e⟩ := d
  unfold formed at h
  cases nar with
  | true =>
    simp only [if_true, Bool.and_eq_true, decide_eq_true_iff, List.isEmpty_iff] at h
    obtain ⟨_, h1, h2⟩ := h
    subst h1 h2
    exact ⟨Nat.zero_le _, by show (-1000000 : Int) ≤ 0; decide, by show (0 : Int) ≤ 1000000; decide⟩
  | false =>
    simp only [Bool.false_eq_true, if_false, Bool.and_eq_true, decide_eq_true_iff] at h
    obtain ⟨_, h1, _, h2, h3⟩ := h
    exact ⟨h1, h2, h3⟩
theorem scan_Norm_ev (d : D) : scan_Norm.f d.nar d.neg (mkB d.ds) d.e = some (if formed d = true then ((nrm d).nar, (nrm d).neg, mkB (nrm d).ds, (nrm d).e, none) else (false, false, mkB [], 0, some 23)) := by
  unfold scan_Norm.f
  rw [scan_formed_ev]
  simp only [Option.bind_some]
  by_cases h : formed d = true
  · obtain ⟨h1, h2, h3⟩ := formed_bounds h
    rw [if_pos h, if_pos h, scan_trim_ev d (by omega) h2 h3]
    rfl
  · rw [if_neg h, if_neg h]; rfl
end Go.Proofs.YthhkmpicpihjlaaGreatDoor.PSc
