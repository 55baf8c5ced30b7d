/- Part 28 of what the proof needs. -/
import Derived.Test.YtpfnkbnepcchgaaGreatDoorKTFBA
set_option linter.unusedSimpArgs false
set_option linter.unusedVariables false
section
namespace Go.Proofs.Yy.PTx
open Go.RowKit Go.Proofs.Yw.PrintWords Go.Proofs.Yw.PrintLast Go.Proofs.Yw.PrintMore Go.Proofs.Yy.M Go.Proofs.Yy.TA Go.Proofs.Yy.NM
open Go.Proofs.Yy.SC (D)
attribute [local irreducible] add64Lo add64Hi sub64Lo sub64Hi val
theorem pw10c (n : Nat) : pw 10 n = ((10 ^ n : Nat) : Int) := by rw [pw_def, Int.natCast_pow]; rfl
theorem numF_numL (l : List UInt8) : numF 0 l = numL l := rfl
theorem bits_of {V : Nat} (h : 0 < V) : ∃ b, 1 ≤ b ∧ V < 2 ^ b ∧ 2 ^ (b - 1) ≤ V ∧ bl (V : Int) = b := by
 refine ⟨V.log2 + 1, by omega, Nat.lt_log2_self, ?_, ?_⟩
 ·rw [Nat.add_sub_cancel]; exact Nat.log2_self_le (by omega)
 ·exact bl_of Nat.lt_log2_self (fun _ => by rw [Nat.add_sub_cancel]; exact Nat.log2_self_le (by omega))
theorem bits_le {V b m : Nat} (hb1 : 1 ≤ b) (h2 : 2 ^ (b - 1) ≤ V) (h : V < 2 ^ m) : b ≤ m := by
 apply Nat.le_of_not_lt
 intro hc
 have : 2 ^ m ≤ 2 ^ (b - 1) := Nat.pow_le_pow_right (by omega) (by omega)
 omega
theorem ten_lt (k : Nat) : 10 ^ k < 2 ^ (4 * k + 1) := by
 have h : 10 ^ k ≤ 16 ^ k := Nat.pow_le_pow_left (by omega) k
 rw [show (16 : Nat) = 2 ^ 4 by rfl, ← Nat.pow_mul] at h
 have : 2 ^ (4 * k) < 2 ^ (4 * k + 1) := Nat.pow_lt_pow_right (by omega) (by omega)
 omega
theorem pow_up {a m n : Nat} (h1 : a < 2 ^ m) (h2 : m ≤ n) : a < 2 ^ n := Nat.lt_of_lt_of_le h1 (Nat.pow_le_pow_right Nat.two_pos h2)
theorem pow_two {a c m n k : Nat} (h1 : a < 2 ^ m) (h2 : c < 2 ^ n) (h3 : m + n = k) : a * c < 2 ^ k := by
 rw [← h3, Nat.pow_add]
 exact Nat.mul_lt_mul_of_lt_of_lt h1 h2
def Told (f : Nat → Option (Int × Bool × Int × Int × Int × Bool × Option Int)) (d : D) : Prop :=
 ∃ (s : Int) (T : Nat) (c : Bool), -1000000 ≤ s ∧ s ≤ 1000000 ∧ 2 ^ 127 ≤ T ∧ T < 2 ^ 128 ∧ Ev f (1, d.neg, s, hiI T, loI T, c, none) ∧ ∀ n, 8 ≤ n → n ≤ 64 → posC n s T c = posD n d
theorem far_make (neg : Bool) {x : Int} (h1 : -1000000 ≤ x) (h2 : x ≤ 1000000) : Ev (fun k => round_Make.f k neg 0 1 x false) (1, neg, x, hiI (2 ^ 127), loI (2 ^ 127), false, none) := by
 have h := Make_ev (V := 1) (b := 1) (Nat.le_refl _) (by decide) (by decide) (by decide) neg false (by simp) h1 h2
 rw [show hiI 1 = 0 by rfl, show loI 1 = 1 by rfl, show x + ((1 : Nat) : Int) - 1 = x by omega, Nat.one_mul] at h
 exact h
theorem nn_dig {v : Nat} : Dig B (enc B (v : Int)) := dig_enc' B1 _
theorem nn_val {v : Nat} : val B (enc B (v : Int)) = (v : Int) := val_enc' B1 (Int.natCast_nonneg v)
theorem nn_len {v m : Nat} (h : v < 2 ^ (64 * m)) : (enc B (v : Int)).length ≤ m := penc_len B1 (by rw [pwB, pw2c]; exact_mod_cast h)
theorem exact_ev {d : D} (hn : d.nar = false) {c0 : UInt8} {l0 : List UInt8} (hd : d.ds = c0 :: l0) (hc0 : 49 ≤ c0.toNat) (hg : ∀ c ∈ d.ds, 48 ≤ c.toNat ∧ c.toNat ≤ 57) (hl : d.ds.length ≤ 4096) (he1 : -1000000 ≤ d.e) (he2 : d.e ≤ 1000000) :
  Told (fun k => text_exact.f k d.nar d.neg (mkB d.ds) d.e) d := by
 have hl1 : d.ds.length = l0.length + 1 := by rw [hd]; rfl
 obtain ⟨A_, hA_⟩ : ∃ x : Nat, x = 260 := ⟨_, rfl⟩
 obtain ⟨T_, hT_⟩ : ∃ x : Nat, x = 270 := ⟨_, rfl⟩
 obtain ⟨U_, hU_⟩ : ∃ x : Nat, x = 340 := ⟨_, rfl⟩
 obtain ⟨S_, hS_⟩ : ∃ x : Nat, x = 600 := ⟨_, rfl⟩
 obtain ⟨X_, hX_⟩ : ∃ x : Nat, x = 10 := ⟨_, rfl⟩
 have hsz : ((mkB d.ds).size : Int) = d.ds.length := by rw [mkB_size]
 by_cases h1 : (100 : Int) < d.ds.length + d.e
 ·refine ⟨1000, 2 ^ 127, false, by omega, by omega, by decide, by decide, ?_, fun n h8 h64 => by rw [(posC_far h8 h64 _ _).1, posD_high h64 hd hc0 (by omega)]⟩
  unfold text_exact.f
  rw [hsz, tw64 (by omega) (by omega)]
  simp only [show (d.ds.length : Int) + d.e > 100 from h1, if_true]
  exact Ev.bind (far_make _ (by omega) (by omega)) (Ev.now _)
 by_cases h2 : (d.ds.length : Int) + d.e < -100
 ·refine ⟨-1000, 2 ^ 127, false, by omega, by omega, by decide, by decide, ?_, fun n h8 h64 => by rw [(posC_far h8 h64 _ _).2, posD_low (by omega) h64 hd hc0 hg (by omega)]⟩
  unfold text_exact.f
  rw [hsz, tw64 (by omega) (by omega)]
  simp only [show ¬ ((d.ds.length : Int) + d.e > 100) by omega, show (d.ds.length : Int) + d.e < -100 from h2, if_true, if_false]
  exact Ev.bind (far_make _ (by omega) (by omega)) (Ev.now _)
 have hdg : ∀ c ∈ d.ds, dgt c = true := fun c hc => by unfold dgt; rw [decide_eq_true (hg c hc).1, decide_eq_true (hg c hc).2]; rfl
 have hread := nRead_ev hdg (by rw [hd]; simp) hl
 rw [numF_numL] at hread
 have hm0 : 0 < numL d.ds := by
  have := numL_head (l := l0) hc0
  rw [← hd] at this
  have := Nat.pow_pos (a := 10) (n := l0.length) (by decide)
  omega
 have hmlt : numL d.ds < 2 ^ (64 * A_) := by
  have h3 := numL_lt d.ds 0 hg
  rw [Nat.zero_add, Nat.one_mul] at h3
  have h4 : numL d.ds < 10 ^ d.ds.length := h3
  have h5 := ten_lt d.ds.length
  exact pow_up (Nat.lt_trans h4 h5) (by omega)
 by_cases he : 0 ≤ d.e
 ·obtain ⟨k, hk⟩ := Int.eq_ofNat_of_zero_le he
  have hk99 : k ≤ 99 := by omega
  have hmx : mx d.e (wrap64 (-d.e)) = (k : Int) := by rw [tw64 (by omega) (by omega)]; unfold mx; split <;> omega
  have hten := nTen_ev k (by omega)
  rw [pw10c] at hten
  have hV : numD d = numL d.ds * 10 ^ k := by unfold numD; rw [hk, Int.toNat_natCast]
  have hC : denD d = 1 := by unfold denD; rw [show (-d.e).toNat = 0 by omega, Nat.pow_zero]
  have hp := Nat.pow_pos (a := 10) (n := k) (by decide)
  have hV0 : 0 < numD d := by rw [hV]; exact Nat.mul_pos hm0 hp
  have htlt : 10 ^ k < 2 ^ (64 * X_) := pow_up (ten_lt k) (by omega)
  have hVlt : numD d < 2 ^ (64 * T_) := by
   rw [hV]
   exact pow_two hmlt htlt (by omega)
  have hmul : Ev (fun n => nat_Mul.f n [enc B (numL d.ds : Int), enc B ((10 ^ k : Nat) : Int)]) (enc B (numD d : Int)) := by
   have h := Mul_ev (l := [enc B (numL d.ds : Int), enc B ((10 ^ k : Nat) : Int)]) (by intro x hx; simp only [List.mem_cons, List.mem_nil_iff, or_false] at hx; rcases hx with rfl | rfl <;> exact nn_dig) (by
    have a1 := nn_len hmlt
    have a2 := nn_len htlt
    simp only [List.map_cons, List.map_nil, List.sum_cons, List.sum_nil, List.length_cons, List.length_nil]
    omega)
   unfold prodV at h
   simp only [List.foldl_cons, List.foldl_nil, nn_val, Int.one_mul] at h
   rw [← Int.natCast_mul, ← hV] at h
   exact h
  obtain ⟨b, hb1, hb2, hb3, _⟩ := bits_of hV0
  have hbb := bits_le hb1 hb3 hVlt
  have hup := upper_ev (a := enc B (numD d : Int)) nn_dig (Nat.le_trans (nn_len hVlt) (by omega)) nn_val hb1 hb2 hb3 d.neg false (by simp) (by omega) (x := 0) (by omega) (by omega)
  obtain ⟨t1, t2⟩ := topT_bounds hb1 hb2 hb3
  refine ⟨0 + b - 1, topT (numD d) b, false || decide (numD d % 2 ^ (b - 64) ≠ 0), by omega, by omega, t1, t2, ?_, fun n h8 h64 => ?_⟩
  ·unfold text_exact.f
   rw [hsz, tw64 (by omega) (by omega)]
   simp only [show ¬ ((d.ds.length : Int) + d.e > 100) by omega, show ¬ ((d.ds.length : Int) + d.e < -100) by omega, if_false, hmx]
   refine Ev.bind hread ?_
   simp only [Option.isNone_none, if_true]
   refine Ev.bind hten ?_
   simp only [Option.isNone_none, if_true, show d.e ≥ 0 from he]
   refine Ev.bind hmul ?_
   exact Ev.bind hup (Ev.now _)
  ·have h := posC_top (n := n) (N := numD d) (C := denD d) (u := 0) (q := numD d) (r := 0) (b := b) h8 h64 (denD_pos d) (by rw [hC]; simp) (denD_pos d) hb1 hb2 hb3 (by simp)
   unfold posD
   rw [← h]
   rfl
 ·obtain ⟨k, hk⟩ := Int.eq_ofNat_of_zero_le (show 0 ≤ -d.e by omega)
  have hk1 : k ≤ 4196 := by omega
  have hmx : mx d.e (wrap64 (-d.e)) = (k : Int) := by rw [tw64 (by omega) (by omega)]; unfold mx; split <;> omega
  have hten := nTen_ev k (by omega)
  rw [pw10c] at hten
  have hN : numD d = numL d.ds := by unfold numD; rw [show d.e.toNat = 0 by omega, Nat.pow_zero, Nat.mul_one]
  have hC : denD d = 10 ^ k := by unfold denD; rw [hk, Int.toNat_natCast]
  have hp := Nat.pow_pos (a := 10) (n := k) (by decide)
  have htlt : 10 ^ k < 2 ^ (64 * T_) := pow_up (ten_lt k) (by omega)
  obtain ⟨bm, m1, m2, m3, m4⟩ := bits_of hm0
  obtain ⟨bt_, t1, t2, t3, t4⟩ := bits_of hp
  have bm1 := bits_le m1 m3 hmlt
  have bt1 := bits_le t1 t3 htlt
  obtain ⟨up, hup⟩ : ∃ up, bt_ + 66 - bm = up := ⟨_, rfl⟩
  have humx : mx 0 (wrap64 (wrap64 ((bt_ : Int) - (bm : Int)) + 66)) = (up : Int) := by
   rw [tw64 (x := (bt_ : Int) - (bm : Int)) (by omega) (by omega), tw64 (by omega) (by omega)]
   unfold mx
   split <;> omega
  have hbt := nBits_ev (a := enc B ((10 ^ k : Nat) : Int)) nn_dig (Nat.le_trans (nn_len htlt) (by omega))
  have hbm := nBits_ev (a := enc B (numL d.ds : Int)) nn_dig (Nat.le_trans (nn_len hmlt) (by omega))
  rw [nn_val, t4] at hbt
  rw [nn_val, m4] at hbm
  have hshl := nShl_ev (a := enc B (numL d.ds : Int)) nn_dig (Nat.le_trans (nn_len hmlt) (by omega)) up (by omega)
  rw [nn_val, pw2c, ← Int.natCast_mul] at hshl
  have hnlt : numL d.ds * 2 ^ up < 2 ^ (64 * S_) := by
   have h3 : 2 ^ up < 2 ^ (up + 1) := by rw [Nat.pow_succ]; have := two_pos up; omega
   exact pow_two hmlt (pow_up (n := 64 * U_) h3 (by omega)) (by omega)
  have hdiv := nDiv_ev (a := enc B ((numL d.ds * 2 ^ up : Nat) : Int)) (b := enc B ((10 ^ k : Nat) : Int)) nn_dig nn_dig (Nat.le_trans (nn_len hnlt) (by omega)) (Nat.le_trans (nn_len htlt) (by omega)) (by rw [nn_val]; omega)
  rw [nn_val, nn_val, ← Int.natCast_ediv, ← Int.natCast_emod] at hdiv
  obtain ⟨q, hq⟩ : ∃ q, numL d.ds * 2 ^ up / 10 ^ k = q := ⟨_, rfl⟩
  obtain ⟨r, hr⟩ : ∃ r, numL d.ds * 2 ^ up % 10 ^ k = r := ⟨_, rfl⟩
  have hqr : numL d.ds * 2 ^ up = 10 ^ k * q + r := by rw [← hq, ← hr]; exact (Nat.div_add_mod _ _).symm
  have hrlt : r < 10 ^ k := by rw [← hr]; exact Nat.mod_lt _ hp
  rw [hq, hr] at hdiv
  have hq65 : 2 ^ 65 ≤ q := by
   rw [← hq, Nat.le_div_iff_mul_le hp]
   have e1 : 2 ^ 65 * 10 ^ k ≤ 2 ^ 65 * 2 ^ bt_ := Nat.mul_le_mul_left _ (Nat.le_of_lt t2)
   have e2 : 2 ^ 65 * 2 ^ bt_ ≤ 2 ^ (bm - 1) * 2 ^ up := by
    rw [← Nat.pow_add, ← Nat.pow_add]
    exact Nat.pow_le_pow_right (by omega) (by omega)
   exact Nat.le_trans e1 (Nat.le_trans e2 (Nat.mul_le_mul_right _ m3))
  obtain ⟨b, hb1, hb2, hb3, _⟩ := bits_of (V := q) (by omega)
  have hb64 : 64 ≤ b := by
   apply Nat.le_of_not_lt
   intro hc
   have : 2 ^ b ≤ 2 ^ 64 := Nat.pow_le_pow_right (by omega) (by omega)
   omega
  have hqlt : q < 2 ^ (64 * S_) := Nat.lt_of_le_of_lt (by rw [← hq]; exact Nat.div_le_self _ _) hnlt
  have hbb := bits_le hb1 hb3 hqlt
  have hrest : decide (((enc B (r : Int)).length : Int) > 0) = decide (r ≠ 0) := by
   apply decide_eq_decide.2
   constructor
   ·intro h h0
    rw [h0] at h
    rw [show ((0 : Nat) : Int) = 0 by rfl, enc_zero] at h
    exact absurd h (by decide)
   ·intro h
    have := enc_pos_len B1 (n := (r : Int)) (by omega)
    omega
  have hup2 := upper_ev (a := enc B (q : Int)) nn_dig (Nat.le_trans (nn_len hqlt) (by omega)) nn_val hb1 hb2 hb3 d.neg (decide (r ≠ 0)) (fun _ => hb64) (by omega) (x := -(up : Int)) (by omega) (by omega)
  obtain ⟨tt1, tt2⟩ := topT_bounds hb1 hb2 hb3
  refine ⟨-(up : Int) + b - 1, topT q b, decide (r ≠ 0) || decide (q % 2 ^ (b - 64) ≠ 0), by omega, by omega, tt1, tt2, ?_, fun n h8 h64 => ?_⟩
  ·unfold text_exact.f
   rw [hsz, tw64 (by omega) (by omega)]
   simp only [show ¬ ((d.ds.length : Int) + d.e > 100) by omega, show ¬ ((d.ds.length : Int) + d.e < -100) by omega, if_false, hmx]
   refine Ev.bind hread ?_
   simp only [Option.isNone_none, if_true]
   refine Ev.bind hten ?_
   simp only [Option.isNone_none, if_true, show ¬ (d.e ≥ 0) from he, if_false]
   refine Ev.bind hbt ?_
   refine Ev.bind hbm ?_
   simp only [humx]
   refine Ev.bind hshl ?_
   simp only [Option.isNone_none, if_true]
   refine Ev.bind hdiv ?_
   simp only [Option.isNone_none, if_true, hrest]
   rw [tw64 (x := -(up : Int)) (by omega) (by omega)]
   exact Ev.bind hup2 (Ev.now _)
  ·have h := posC_top (n := n) (N := numD d) (C := denD d) (u := up) (q := q) (r := r) (b := b) h8 h64 (denD_pos d) (by rw [hC, hN]; exact hqr) (by rw [hC]; exact hrlt) hb1 hb2 hb3 (fun _ => hb64)
   unfold posD
   rw [← h]
end Go.Proofs.Yy.PTx
end
section
namespace Go.Proofs.Yy.PTx
open Go.RowKit Go.Proofs.Yw.PrintWords Go.Proofs.Yw.PrintLast Go.Proofs.Yw.PrintMore Go.Proofs.Yy.M Go.Proofs.Yy.TA Go.Proofs.Yy.NM Go.Proofs.Yy.SC
theorem decode0 {n : Nat} (hw : Wd n) (k : Nat) : codec_Decode.f k (n : Int) 0 = some (0, false, 0, 0, none) := by
 unfold codec_Decode.f
 have h := Kind_spec hw 0 (Nat.two_pow_pos _)
 rw [show ((0 : Nat) : Int) = 0 by rfl, Nat.zero_mod, if_pos rfl] at h
 rw [h]
 rfl
theorem dgs {l : List UInt8} (h : l.all dg = true) : ∀ c ∈ l, 48 ≤ c.toNat ∧ c.toNat ≤ 57 := fun c hc => by
 have := List.all_eq_true.1 h c hc
 unfold dg at this
 simpa using this
theorem norm_digits {d : D} (hN : Norm d) (hn : d.nar = false) (h0 : d.ds ≠ [48]) : ∃ c l, d.ds = c :: l ∧ 49 ≤ c.toNat ∧ (∀ c ∈ d.ds, 48 ≤ c.toNat ∧ c.toNat ≤ 57) ∧ d.ds.length ≤ 4096 ∧ -1000000 ≤ d.e ∧ d.e ≤ 1000000 := by
 rcases hN with h | ⟨_, h1, h2, h3, h4, h5, h6⟩
 ·rw [h] at hn; exact absurd hn (by decide)
 rcases h6 with ⟨_, h7, _⟩ | ⟨h7, _⟩
 ·exact absurd h7 h0
 cases hd_ : d.ds with
 | nil => exact absurd hd_ h2
 | cons c l =>
  have hg := dgs h1
  have hc := hg c (by rw [hd_]; exact List.mem_cons_self)
  refine ⟨c, l, rfl, ?_, by rw [← hd_]; exact hg, by rw [← hd_]; exact h3, h4, h5⟩
  rw [hd_] at h7
  have : c ≠ 48 := fun e => by rw [e] at h7; simp [SC.hd] at h7
  have : c.toNat ≠ 48 := fun e => this (UInt8.toNat_inj.1 e)
  omega
theorem mkB_48 {l : List UInt8} : (mkB l).toList = ([48] : List UInt8) ↔ l = [48] := by rw [mkB_toList]
theorem pow_i {n : Nat} (hw : Wd n) : shl .u64 1 (wrap64 ((n : Int) - 1)) = ((2 ^ (n - 1) : Nat) : Int) ∧ 0 ≤ wrap64 ((n : Int) - 1) := by
 obtain ⟨h8, h64⟩ := hw.bounds
 have hm : 2 ^ (n - 1) < 2 ^ 64 := Nat.pow_lt_pow_right (by omega) (by omega)
 rw [tw64 (by omega) (by omega), show ((n : Int) - 1) = ((n - 1 : Nat) : Int) by omega]
 refine ⟨?_, Int.natCast_nonneg _⟩
 have h := shl_nat 1 (n - 1)
 rw [Nat.one_mul, Nat.mod_eq_of_lt hm] at h
 exact h
theorem tOf_ev {n : Nat} (hw : Wd n) (d : D) : Ev (fun k => text_Of.f k (n : Int) d.nar d.neg (mkB d.ds) d.e) (if formed d = true then (((ofD n d : Nat) : Int), none) else (0, some 23)) := by
 obtain ⟨h8, h64⟩ := hw.bounds
 refine Ev.congr (f := fun k => (scan_Norm.f d.nar d.neg (mkB d.ds) d.e).bind fun bt631 => (if bt631.2.2.2.2.isNone = true then (if bt631.1 = true then (if 0 ≤ (wrap64 ((n : Int) - 1)) then (some (shl .u64 1 (wrap64 ((n : Int) - 1)), none)) else (none)) else (if bt631.2.2.1.toList = ([48] : List UInt8) then (some (0, none)) else ((text_exact.f k bt631.1 bt631.2.1 bt631.2.2.1 bt631.2.2.2.1).bind fun bt637 => (if bt637.2.2.2.2.2.2.isNone = true then ((round_Round.f k (n : Int) bt637.1 bt637.2.1 bt637.2.2.1 bt637.2.2.2.1 bt637.2.2.2.2.1 bt637.2.2.2.2.2.1).bind fun bt646 => (some (bt646.1, bt646.2))) else (some (0, some (bt637.2.2.2.2.2.2.getD 0))))))) else (some (0, some (bt631.2.2.2.2.getD 0))))) (fun k => by unfold text_Of.f; rw [decode0 hw]; rfl) ?_
 rw [scan_Norm_ev]
 by_cases hf : formed d = true
 ·simp only [if_pos hf, Option.bind_some, Option.isNone_none, if_true]
  have hN := norm_nrm hf
  unfold ofD
  by_cases hnar : (nrm d).nar = true
  ·simp only [if_pos hnar]
   rw [(pow_i hw).1, if_pos (pow_i hw).2]
   exact Ev.now _
  ·simp only [if_neg hnar, mkB_48]
   by_cases h0 : (nrm d).ds = [48]
   ·simp only [if_pos h0]
    exact Ev.now _
   ·simp only [if_neg h0]
    have hn : (nrm d).nar = false := by simpa using hnar
    obtain ⟨c, l, e1, e2, e3, e4, e5, e6⟩ := norm_digits hN hn h0
    obtain ⟨s, T, c', s1, s2, t1, t2, hev, hpos⟩ := exact_ev hn e1 e2 e3 e4 e5 e6
    refine Ev.bind hev ?_
    simp only [Option.isNone_none, if_true]
    have hr := Round_ev hw (nrm d).neg s1 s2 t1 t2 c'
    rw [hpos n h8 h64] at hr
    exact Ev.bind hr (Ev.now _)
 ·simp only [if_neg hf, Option.bind_some]
  exact Ev.now _
theorem shown_ev : Ev (fun k => vernierlaw19_shown.f k) true := Ev.of vernierlaw19_shown.mono (k := 40) (by decide +kernel)
theorem tmod_lt (a : Int) {m : Int} (hm : 0 < m) : -m < Int.tmod a m ∧ Int.tmod a m < m := by
 have h := Int.natAbs_tmod a m
 have h2 := Nat.mod_lt a.natAbs (show 0 < m.natAbs by omega)
 omega
theorem pick_some (a m : Int) (hm : 0 < m) : ∃ t, vernierlaw19_pick.f a m = some t ∧ -m < t ∧ t < m := by
 unfold vernierlaw19_pick.f
 rw [if_neg (show ¬ m = 0 by omega), if_neg (show ¬ m = 0 by omega)]
 by_cases h : a < 0
 ·rw [if_pos h]; exact ⟨_, rfl, tmod_lt _ hm⟩
 ·rw [if_neg h]; exact ⟨_, rfl, tmod_lt _ hm⟩
theorem pick_nat {a m : Int} (hm : 0 < m) (h1 : -9223372036854775808 ≤ a) (h2 : a ≤ 9223372036854775807) : ∃ t : Nat, vernierlaw19_pick.f a m = some (t : Int) ∧ (t : Int) < m := by
 obtain ⟨t, e, _, h4⟩ := pick_some a m hm
 have h5 : 0 ≤ t := by
  unfold vernierlaw19_pick.f at e
  rw [if_neg (show ¬ m = 0 by omega), if_neg (show ¬ m = 0 by omega)] at e
  by_cases h : a < 0
  ·rw [if_pos h, tw64 (x := a + 1) (by omega) (by omega), tw64 (by omega) (by omega)] at e
   obtain rfl := Option.some.inj e
   exact Int.tmod_nonneg _ (by omega)
  ·rw [if_neg h] at e
   obtain rfl := Option.some.inj e
   exact Int.tmod_nonneg _ (by omega)
 obtain ⟨n, rfl⟩ := Int.eq_ofNat_of_zero_le h5
 exact ⟨n, e, h4⟩
theorem width_ev (raw : Int) : ∃ n, Wd n ∧ Ev (fun k => vernierlaw19_width.f k raw) (n : Int) := by
 obtain ⟨t, e, h3, h4⟩ := pick_some raw 4 (by decide)
 have hl : ∃ n, Wd n ∧ Ev (fun k => vernierlaw19_width.l0 k 8 t) (n : Int) := by
  by_cases h : 0 < t
  ·have ht : t = 1 ∨ t = 2 ∨ t = 3 := by omega
   rcases ht with rfl | rfl | rfl
   ·exact ⟨16, .inr (.inl rfl), 5, fun k hk => by obtain ⟨m, rfl⟩ : ∃ m, k = m + 5 := ⟨k - 5, by omega⟩; simp [vernierlaw19_width.l0, wrap64]⟩
   ·exact ⟨32, .inr (.inr (.inl rfl)), 5, fun k hk => by obtain ⟨m, rfl⟩ : ∃ m, k = m + 5 := ⟨k - 5, by omega⟩; simp [vernierlaw19_width.l0, wrap64]⟩
   ·exact ⟨64, .inr (.inr (.inr rfl)), 5, fun k hk => by obtain ⟨m, rfl⟩ : ∃ m, k = m + 5 := ⟨k - 5, by omega⟩; simp [vernierlaw19_width.l0, wrap64]⟩
  ·exact ⟨8, .inl rfl, 1, fun k hk => by obtain ⟨m, rfl⟩ : ∃ m, k = m + 1 := ⟨k - 1, by omega⟩; simp only [vernierlaw19_width.l0]; rw [if_neg (by omega)]; rfl⟩
 obtain ⟨n, hw, hev⟩ := hl
 exact ⟨n, hw, Ev.congr (fun k => by unfold vernierlaw19_width.f; rw [e]; rfl) hev⟩
theorem tParse_ev {n : Nat} (hw : Wd n) {l : List UInt8} {d : D} (h : scanF l = .ok d) : Ev (fun k => text_Parse.f k (n : Int) (mkB l)) (((ofD n d : Nat) : Int), none) := by
 have hN := scanF_norm h
 have ht := tOf_ev hw d
 rw [if_pos (formed_of_norm hN)] at ht
 refine Ev.congr (f := fun k => (text_Of.f k (n : Int) d.nar d.neg (mkB d.ds) d.e).bind fun bt662 => (some (bt662.1, bt662.2))) (fun k => ?_) (Ev.bind ht (Ev.now _))
 unfold text_Parse.f scan_Scan.f
 rw [decode0 hw, mkB_list, h]
 rfl
theorem text_f (d : D) : scan_Text.f d.nar d.neg (mkB d.ds) d.e = if formed d = true then some (mkB (textN (nrm d)), none) else some ((⟨#[]⟩ : ByteArray), some 23) := rfl
theorem mkB_nil {l : List UInt8} : (mkB l).toList = ([] : List UInt8) ↔ l = [] := by rw [mkB_toList]
theorem hd_of {A : List UInt8} (h : A.all dg = true) (h0 : A ≠ []) (m : List UInt8) : ∃ c l, A ++ m = c :: l ∧ 48 ≤ c.toNat := by
 cases A with
 | nil => exact absurd rfl h0
 | cons c l => exact ⟨c, l ++ m, rfl, (dgs h c List.mem_cons_self).1⟩
theorem forms_tail {n : Nat} (hw : Wd n) (d : D) (hf : formed d = true) (hn : d.nar = false) (hl : d.ds.length ≤ 2000) (h1 : -1000 ≤ d.e) (h2 : d.e ≤ 1000) (K : Nat) (hK : K < 30) : ∀ m i : Nat, i + m = K →
  Ev (fun k => vernierlaw19_TextForms.l0 k true (n : Int) (K : Int) (mkB (List.replicate i 48)) (i : Int) d.nar d.neg (mkB d.ds) d.e) true
 | m + 1, i, hi => by
  apply Ev.step
  ·intro k
   simp only [vernierlaw19_TextForms.l0]
   rw [if_pos (show (i : Int) < (K : Int) by omega), if_pos (by rw [mkB_size, List.length_replicate]; omega), show (⟨#[48]⟩ : ByteArray) = mkB [48] from rfl, mkB_append, ← List.replicate_succ', tw64 (by omega) (by omega), show (i : Int) + 1 = ((i + 1 : Nat) : Int) by omega]
  ·exact forms_tail hw d hf hn hl h1 h2 K hK m (i + 1) (by omega)
 | 0, i, hi => by
  obtain rfl : i = K := by omega
  have hm : mostE = 1000000 := rfl
  obtain ⟨nar, neg, ds, e⟩ := d
  simp only at hn hl h1 h2
  subst hn
  obtain ⟨d, hd_⟩ : ∃ d : D, d = ⟨false, neg, ds, e⟩ := ⟨_, rfl⟩
  have hds : ds.all dg = true := by
   unfold formed at hf
   simp only [Bool.false_eq_true, if_false, Bool.and_eq_true] at hf
   exact hf.2.2.1
  have hds0 : ds ≠ [] := by
   unfold formed at hf
   simp only [Bool.false_eq_true, if_false, Bool.and_eq_true] at hf
   intro h; rw [h] at hf; exact absurd hf.1 (by decide)
  have hN := norm_nrm hf
  have hp := nrm_pad neg i (l := ds) (e := e) (by omega) (by omega) (by omega) (by omega)
  have hf2 : formed ⟨false, neg, List.replicate i 48 ++ ds ++ List.replicate i 48, e - i⟩ = true := by
   have a1 : (List.replicate i (48 : UInt8) ++ ds ++ List.replicate i 48).isEmpty = false := by simp [hds0]
   have a2 : (List.replicate i (48 : UInt8) ++ ds ++ List.replicate i 48).all dg = true := by rw [List.all_append, List.all_append, noughts_all, hds]; rfl
   have a3 : (List.replicate i (48 : UInt8) ++ ds ++ List.replicate i 48).length ≤ 4096 := by simp only [List.length_append, List.length_replicate]; omega
   have a4 : -mostE ≤ e - i := by omega
   have a5 : e - i ≤ mostE := by omega
   unfold formed
   simp only [Bool.false_eq_true, if_false]
   rw [a1, a2, decide_eq_true a3, decide_eq_true a4, decide_eq_true a5]
   rfl
  have t1 := tOf_ev hw ⟨false, neg, ds, e⟩
  rw [if_pos hf] at t1
  have t2 := tOf_ev hw ⟨false, neg, List.replicate i 48 ++ ds ++ List.replicate i 48, e - i⟩
  rw [if_pos hf2, show ofD n ⟨false, neg, List.replicate i 48 ++ ds ++ List.replicate i 48, e - i⟩ = ofD n ⟨false, neg, ds, e⟩ by unfold ofD; rw [hp]] at t2
  have hP : ofD n (nrm ⟨false, neg, ds, e⟩) = ofD n ⟨false, neg, ds, e⟩ := by unfold ofD; rw [nrm_of_norm hN]
  have hnar : (nrm ⟨false, neg, ds, e⟩).nar = false := by
   unfold nrm
   simp only [Bool.false_eq_true, if_false]
   split <;> rfl
  have hlen : (textN (nrm ⟨false, neg, ds, e⟩)).length ≤ 2040 := by
   have hle : (nrm ⟨false, neg, ds, e⟩).ds.length ≤ 2000 := by
    unfold nrm
    simp only [Bool.false_eq_true, if_false]
    split
    ·decide
    ·have := lz_le ds
     simp only [List.length_take]; omega
   rcases hN with h | ⟨_, _, _, b1, b2, b3, _⟩
   ·rw [h] at hnar; exact absurd hnar (by decide)
   ·have := textN_len hnar b1 b2 b3
    omega
  obtain ⟨A, B, o, p1, p2, p3, p4, p5, p6⟩ := textN_parts hN hnar (by omega)
  have s1 := tParse_ev hw (scan_text hN (by omega))
  rw [hP] at s1
  generalize ofD n ⟨false, neg, ds, e⟩ = V at *
  apply Ev.step
  ·intro k
   simp only [vernierlaw19_TextForms.l0]
   rw [if_neg (show ¬ (i : Int) < (i : Int) by omega)]
  ·refine Ev.bind t1 ?_
   simp only [mkB_append, mkB_size]
   have c1 : (List.replicate i (48 : UInt8)).length + ds.length ≤ 9223372036854775807 := by simp only [List.length_replicate]; omega
   have c2 : (List.replicate i (48 : UInt8) ++ ds).length + (List.replicate i (48 : UInt8)).length ≤ 9223372036854775807 := by simp only [List.length_replicate, List.length_append]; omega
   simp only [if_pos c1, if_pos c2, tw64 (x := e - (i : Int)) (by omega) (by omega)]
   refine Ev.bind t2 ?_
   rw [text_f ⟨false, neg, ds, e⟩, if_pos hf]
   simp only [Option.bind_some, mkB_nil]
   cases hg : (nrm ⟨false, neg, ds, e⟩).neg with
   | true =>
    rw [hg] at p1
    have q1 : textN (nrm ⟨false, neg, ds, e⟩) = 45 :: (A ++ (ptB B ++ expB o)) := p1
    rw [q1] at s1 ⊢
    have c3 : ¬ ((45 : UInt8) :: (A ++ (ptB B ++ expB o)) = []) := by simp
    have c4 : (0 : Int) < (((45 : UInt8) :: (A ++ (ptB B ++ expB o))).length : Int) := by simp only [List.length_cons]; omega
    have c5 : ((45 : UInt8).toNat : Int) = 45 := by decide
    simp only [if_neg c3, mkB_size, if_pos c4, bt_mk0, if_pos c5]
    exact Ev.bind s1 (by simp only [Option.isNone_none, if_true, beq_self_eq_true]; exact Ev.now _)
   | false =>
    rw [hg] at p1
    have q1 : textN (nrm ⟨false, neg, ds, e⟩) = A ++ (ptB B ++ expB o) := p1
    obtain ⟨c, l, q2, q3⟩ := hd_of p2 p3 (ptB B ++ expB o)
    have s2 := tParse_ev hw (scan_plus hN hnar hg i (by omega))
    rw [hP] at s2
    have q4 : textN (nrm ⟨false, neg, ds, e⟩) = c :: l := q1.trans q2
    rw [q4] at s2 hlen ⊢
    simp only [List.length_cons] at hlen
    have c3 : ¬ (c :: l = []) := by simp
    have c4 : (0 : Int) < ((c :: l).length : Int) := by simp only [List.length_cons]; omega
    have c5 : ¬ ((c.toNat : Int) = 45) := by omega
    have c6 : 1 + (List.replicate i (48 : UInt8)).length ≤ 9223372036854775807 := by simp only [List.length_replicate]; omega
    have c7 : ([43] ++ List.replicate i (48 : UInt8)).length + (c :: l).length ≤ 9223372036854775807 := by simp only [List.length_append, List.length_cons, List.length_nil, List.length_replicate]; omega
    simp only [if_neg c3, show (⟨#[43]⟩ : ByteArray) = mkB [43] from rfl, mkB_append, mkB_size, if_pos c4, bt_mk0, if_neg c5, if_pos c6, if_pos c7]
    exact Ev.bind s2 (by simp only [Option.isNone_none, if_true, beq_self_eq_true]; exact Ev.now _)
theorem TextForms_ev (raw more : Int) (h1 : -9223372036854775808 ≤ more) (h2 : more ≤ 9223372036854775807) (d : D) (hl : d.ds.length ≤ 9223372036854775807) : Ev (fun k => vernierlaw19_TextForms.f k raw d.nar d.neg (mkB d.ds) d.e more) true := by
 obtain ⟨n, hw, hwe⟩ := width_ev raw
 obtain ⟨K, hk1, hk2⟩ := pick_nat (a := more) (m := 30) (by decide) h1 h2
 have fin : ∀ nar neg ds e, Ev (fun k => vernierlaw19_TextForms.j0 k more true (n : Int) true nar neg ds e) true := fun nar neg ds e => by
  apply Ev.step
  ·intro k; simp only [vernierlaw19_TextForms.j0]; rw [if_pos trivial]
  ·exact Ev.now true
 refine Ev.bind shown_ev (Ev.bind hwe (Ev.bind (Formed_ev d hl) ?_))
 by_cases hf : formed d = true
 ·simp only [hf, if_true]
  by_cases hn : d.nar = true
  ·simp only [hn, if_true]; exact fin _ _ _ _
  ·simp only [if_neg hn, mkB_size]
   have hn' : d.nar = false := by simpa using hn
   by_cases c1 : (d.ds.length : Int) > 2000
   ·simp only [if_pos c1]; exact fin _ _ _ _
   ·simp only [if_neg c1]
    by_cases c2 : d.e < -1000
    ·simp only [if_pos c2]; exact fin _ _ _ _
    ·simp only [if_neg c2]
     by_cases c3 : d.e > 1000
     ·simp only [decide_eq_true c3]; exact fin _ _ _ _
     ·simp only [decide_eq_false c3]
      apply Ev.step
      ·intro k
       simp only [vernierlaw19_TextForms.j0]
       rw [if_neg (by decide), hk1]
       try rfl
      ·exact forms_tail hw d hf hn' (by omega) (by omega) (by omega) K (by omega) K 0 (by omega)
 ·simp only [if_neg hf]; exact fin _ _ _ _
theorem TextForms_all (a0 : Int) (a1_0 a1_1 : Bool) (a1_2 : ByteArray) (a1_3 : Int) (a2 : Int) (w : World) (htab : Fx.Laid w) (hs1_2 : a1_2.size ≤ maxLen) (wi2 : (Lit.int .i64 a2).wf = true) :
  Calls Tryz.prog 8 #[.int .i64 a0, .agg #[.bool a1_0, .bool a1_1, .string a1_2, .int .i64 a1_3], .int .i64 a2] w fun e w' => e = .returned (.bool true) ∧ Below w.heap.size w w' := by
 have hl : a1_2.data.toList.length ≤ 9223372036854775807 := by
  have e1 : a1_2.data.toList.length = a1_2.size := Array.length_toList
  rw [e1]; unfold maxLen at hs1_2; omega
 have hb := i64wf wi2
 obtain ⟨k, hk⟩ := (TextForms_ev a0 a2 hb.1 hb.2 ⟨a1_0, a1_1, a1_2.data.toList, a1_3⟩ hl).rounds
 exact vernierlaw19_TextForms.calls k a0 a1_0 a1_1 a1_2 a1_3 a2 true w hk rfl htab
end Go.Proofs.Yy.PTx
end
