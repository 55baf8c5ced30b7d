/- Layer 18: ScanTexts: every decimal: the call returns true and keeps all that is older. -/
import Derived.Test.YthhkmpicpihjlaaGreatDoorQVPScx8
import Derived.Test.YthhkmpicpihjlaaGreatDoorQVPScx7
import Derived.Test.YthhkmpicpihjlaaGreatDoorQVSE2
import Derived.Test.YthhkmpicpihjlaaGreatDoorQVGSText
set_option linter.unusedVariables false
set_option linter.unusedSimpArgs false
namespace Go.Proofs.YthhkmpicpihjlaaGreatDoor.PSc
open Go.RowKit Go.Proofs.YthhkmpicpihjlaaGreatDoorW.PrintWords Go.Proofs.YthhkmpicpihjlaaGreatDoorW.PrintLast Go.Proofs.YthhkmpicpihjlaaGreatDoorW.PrintMore Go.Proofs.YthhkmpicpihjlaaGreatDoor.SC
theorem noughts_l0 (n : Nat) (hn : n ≤ 1000000) : ∀ (d i : Nat), i + d = n → Ev (fun k => vernierref18_noughts.l0 k (n : Int) (mkB (List.replicate i 48)) (i : Int)) (mkB (List.replicate n 48)) := by
  intro d
  induction d with
  | zero =>
    intro i hi
    obtain rfl : i = n := by omega
    refine Ev.step (fun k => rfl) ?_
    simp only [vernierref18_noughts.l0]
    have c : ¬ (i : Int) < (i : Int) := by omega
    simp only [if_neg c]
    exact Ev.now _
  | succ d ih =>
    intro i hi
    refine Ev.step (fun k => rfl) ?_
    simp only [vernierref18_noughts.l0]
    have c : (i : Int) < (n : Int) := by omega
    have c2 : (mkB (List.replicate i 48)).size + 1 ≤ 9223372036854775807 := by rw [mkB_size, List.length_replicate]; omega
    have hw : wrap64 ((i : Int) + 1) = ((i + 1 : Nat) : Int) := wrap_id (by omega) (by omega)
    have e1 : mkB (List.replicate i 48) ++ (⟨#[48]⟩ : ByteArray) = mkB (List.replicate (i + 1) 48) := by
      have : (⟨#[48]⟩ : ByteArray) = mkB [48] := rfl
      rw [this, mkB_append, List.replicate_succ']
    simp only [if_pos c, if_pos c2, hw, e1]
    exact ih (i + 1) (by omega)
theorem noughts_ev (n : Nat) (hn : n ≤ 1000000) : Ev (fun k => vernierref18_noughts.f k (n : Int)) (mkB (List.replicate n 48)) := noughts_l0 n hn n 0 (by omega)
def sgnL (b : Bool) : List UInt8 := if b = true then [45] else []
theorem sgnL_le (b : Bool) : (sgnL b).length ≤ 1 := by cases b <;> decide
theorem e46 : (⟨#[46]⟩ : ByteArray) = mkB [46] := rfl
theorem e101 : (⟨#[101]⟩ : ByteArray) = mkB [101] := rfl
theorem e4846 : (⟨#[48, 46]⟩ : ByteArray) = mkB [48, 46] := rfl
theorem itoa_f (n : Int) (h0 : -9223372036854775808 ≤ n) (h1 : n ≤ 9223372036854775807) : strconv_Itoa_50.f n = some (mkB (Lib.itoa n)) := by
  unfold strconv_Itoa_50.f
  rw [if_pos ⟨h0, h1⟩]
  rfl
theorem refText_N (N : D) (hnar : N.nar = false) (hl : N.ds.length ≤ 4096) (h1 : 0 < N.ds.length) (he1 : -1000000 ≤ N.e) (he2 : N.e ≤ 1000000) :
    Ev (fun k => vernierref18_Text.j0 k (mkB (sgnL N.neg)) N.nar N.neg (mkB N.ds) N.e) (mkB (textN N), 0) := by
  have hsg := sgnL_le N.neg
  have htx : textN N = sgnL N.neg ++ (let a : Int := N.ds.length + N.e
     if 0 ≤ N.e ∧ a ≤ 21 then N.ds ++ List.replicate N.e.toNat 48
     else if 1 ≤ a ∧ a ≤ 21 then N.ds.take a.toNat ++ [46] ++ N.ds.drop a.toNat
     else if -5 ≤ a ∧ a ≤ 0 then [48, 46] ++ List.replicate (-a).toNat 48 ++ N.ds
     else N.ds.take 1 ++ (if 1 < N.ds.length then [46] ++ N.ds.drop 1 else []) ++ [101] ++ Lib.itoa (a - 1)) := by
    unfold textN sgnL
    rw [if_neg (by rw [hnar]; decide)]
  obtain ⟨a, ha⟩ : ∃ a : Int, a = (N.ds.length : Int) + N.e := ⟨_, rfl⟩
  have hw : wrap64 (((mkB N.ds).size : Int) + N.e) = a := by rw [mkB_size, ← ha]; exact wrap_id (by omega) (by omega)
  simp only [← ha] at htx
  -- the last form
  have last : (¬ (0 ≤ N.e ∧ a ≤ 21)) → (¬ (1 ≤ a ∧ a ≤ 21)) → (¬ (-5 ≤ a ∧ a ≤ 0)) → Ev (fun k => vernierref18_Text.j3 k (mkB (sgnL N.neg)) a false N.nar N.neg (mkB N.ds) N.e) (mkB (textN N), 0) := by
    intro n1 n2 n3
    rw [if_neg n1, if_neg n2, if_neg n3] at htx
    refine Ev.step (fun k => rfl) ?_
    simp only [vernierref18_Text.j3]
    have c0 : ¬ (false = true) := by decide
    have c1 : (1 : Int) ≤ ((mkB N.ds).size : Int) := by rw [mkB_size]; omega
    have hi : strconv_Itoa_50.f (wrap64 (a - 1)) = some (mkB (Lib.itoa (a - 1))) := by rw [wrap_id (by omega) (by omega)]; exact itoa_f _ (by omega) (by omega)
    have ht : (mkB N.ds).extract 0 1 = mkB (N.ds.take 1) := mkB_take _ _ (by omega)
    have hd : (mkB N.ds).extract 1 (mkB N.ds).size = mkB (N.ds.drop 1) := mkB_drop _ _
    have hil := itoa_short (a - 1) (by omega)
    have t1 : (N.ds.take 1).length = 1 := by rw [List.length_take]; omega
    have d1 : (N.ds.drop 1).length = N.ds.length - 1 := List.length_drop ..
    rw [ht, hd, hi]
    have k1 : (mkB (sgnL N.neg)).size + (mkB (N.ds.take 1)).size ≤ 9223372036854775807 := by rw [mkB_size, mkB_size]; omega
    simp only [if_neg c0, if_pos (show (0 : Int) ≤ 1 by decide), if_pos c1, if_pos k1, e46, e101, mkB_append, Option.bind_some]
    by_cases hlong : 1 < N.ds.length
    · have c2 : ((mkB N.ds).size : Int) > 1 := by rw [mkB_size]; omega
      have k2 : (mkB (sgnL N.neg ++ N.ds.take 1)).size + 1 ≤ 9223372036854775807 := by rw [mkB_size, List.length_append]; omega
      have k3 : (mkB (sgnL N.neg ++ N.ds.take 1 ++ [46])).size + (mkB (N.ds.drop 1)).size ≤ 9223372036854775807 := by rw [mkB_size, mkB_size, List.length_append, List.length_append]; simp only [List.length_singleton]; omega
      have k4 : (mkB (sgnL N.neg ++ N.ds.take 1 ++ [46] ++ N.ds.drop 1)).size + 1 ≤ 9223372036854775807 := by rw [mkB_size, List.length_append, List.length_append, List.length_append]; simp only [List.length_singleton]; omega
      have k5 : (mkB (sgnL N.neg ++ N.ds.take 1 ++ [46] ++ N.ds.drop 1 ++ [101])).size + (mkB (Lib.itoa (a - 1))).size ≤ 9223372036854775807 := by rw [mkB_size, mkB_size, List.length_append, List.length_append, List.length_append, List.length_append]; simp only [List.length_singleton]; omega
      simp only [if_pos c2, if_pos k2, if_pos k3, if_pos k4, if_pos k5]
      rw [if_pos hlong] at htx
      refine Ev.congr (fun k => ?_) (Ev.now _)
      rw [htx]
      simp only [List.append_assoc]
      rfl
    · have c2 : ¬ ((mkB N.ds).size : Int) > 1 := by rw [mkB_size]; omega
      have k2 : (mkB (sgnL N.neg ++ N.ds.take 1)).size + 1 ≤ 9223372036854775807 := by rw [mkB_size, List.length_append]; omega
      have k5 : (mkB (sgnL N.neg ++ N.ds.take 1 ++ [101])).size + (mkB (Lib.itoa (a - 1))).size ≤ 9223372036854775807 := by rw [mkB_size, mkB_size, List.length_append, List.length_append]; simp only [List.length_singleton]; omega
      simp only [if_neg c2, if_pos k2, if_pos k5]
      rw [if_neg hlong] at htx
      refine Ev.congr (fun k => ?_) (Ev.now _)
      rw [htx]
      simp only [List.append_assoc, List.nil_append, List.append_nil]
      rfl
  have j3t : ¬ (0 ≤ N.e ∧ a ≤ 21) → ¬ (1 ≤ a ∧ a ≤ 21) → -5 ≤ a → Ev (fun k => vernierref18_Text.j3 k (mkB (sgnL N.neg)) a (decide (a ≤ 0)) N.nar N.neg (mkB N.ds) N.e) (mkB (textN N), 0) := by
    intro n1 n2 h3
    by_cases h4 : a ≤ 0
    · rw [if_neg n1, if_neg n2, if_pos ⟨h3, h4⟩] at htx
      rw [decide_eq_true h4]
      refine Ev.step (fun k => rfl) ?_
      simp only [vernierref18_Text.j3, if_true]
      have k1 : (mkB (sgnL N.neg)).size + 2 ≤ 9223372036854775807 := by rw [mkB_size]; omega
      have hwn : wrap64 (-a) = (((-a).toNat : Nat) : Int) := by rw [wrap_id (by omega) (by omega)]; omega
      simp only [if_pos k1, hwn]
      refine Ev.bind (noughts_ev (-a).toNat (by omega)) ?_
      have k2 : (mkB (sgnL N.neg) ++ (⟨#[48, 46]⟩ : ByteArray)).size + (mkB (List.replicate (-a).toNat 48)).size ≤ 9223372036854775807 := by rw [e4846, mkB_append, mkB_size, mkB_size, List.length_append, List.length_replicate]; simp only [List.length_cons, List.length_nil]; omega
      have k3 : ((mkB (sgnL N.neg) ++ (⟨#[48, 46]⟩ : ByteArray)) ++ mkB (List.replicate (-a).toNat 48)).size + (mkB N.ds).size ≤ 9223372036854775807 := by rw [e4846, mkB_append, mkB_append, mkB_size, mkB_size, List.length_append, List.length_append, List.length_replicate]; simp only [List.length_cons, List.length_nil]; omega
      simp only [if_pos k2, if_pos k3]
      refine Ev.congr (fun k => ?_) (Ev.now _)
      rw [htx, e4846]
      simp only [mkB_append, List.append_assoc]
    · rw [decide_eq_false h4]
      exact last n1 n2 (by omega)
  have j2a : ¬ (0 ≤ N.e ∧ a ≤ 21) → ∀ b : Bool, (b = true ↔ (1 ≤ a ∧ a ≤ 21)) → Ev (fun k => vernierref18_Text.j2 k (mkB (sgnL N.neg)) a b N.nar N.neg (mkB N.ds) N.e) (mkB (textN N), 0) := by
    intro n1 b hb
    refine Ev.step (fun k => rfl) ?_
    simp only [vernierref18_Text.j2]
    by_cases h : 1 ≤ a ∧ a ≤ 21
    · rw [if_neg n1, if_pos h] at htx
      have hbt := hb.2 h
      have k0 : (0 : Int) ≤ a := by omega
      have k1 : a ≤ ((mkB N.ds).size : Int) := by rw [mkB_size]; omega
      have ht : (mkB N.ds).extract 0 a.toNat = mkB (N.ds.take a.toNat) := mkB_take _ _ (by omega)
      have hd : (mkB N.ds).extract a.toNat (mkB N.ds).size = mkB (N.ds.drop a.toNat) := mkB_drop _ _
      have tl : (N.ds.take a.toNat).length ≤ N.ds.length := by rw [List.length_take]; omega
      have dl : (N.ds.drop a.toNat).length ≤ N.ds.length := by rw [List.length_drop]; omega
      rw [ht, hd]
      have k2 : (mkB (sgnL N.neg)).size + (mkB (N.ds.take a.toNat)).size ≤ 9223372036854775807 := by rw [mkB_size, mkB_size]; omega
      have k3 : (mkB (sgnL N.neg ++ N.ds.take a.toNat)).size + 1 ≤ 9223372036854775807 := by rw [mkB_size, List.length_append]; omega
      have k4 : (mkB (sgnL N.neg ++ N.ds.take a.toNat ++ [46])).size + (mkB (N.ds.drop a.toNat)).size ≤ 9223372036854775807 := by rw [mkB_size, mkB_size, List.length_append, List.length_append]; simp only [List.length_singleton]; omega
      simp only [if_pos hbt, if_pos k0, if_pos k1, if_pos k2, e46, mkB_append, if_pos k3, if_pos k4]
      refine Ev.congr (fun k => ?_) (Ev.now _)
      rw [htx]
      simp only [List.append_assoc]
    · have hbf : ¬ b = true := fun h' => h (hb.1 h')
      simp only [if_neg hbf]
      by_cases h3 : a ≥ -5
      · simp only [if_pos h3]
        exact j3t n1 h h3
      · simp only [if_neg h3]
        exact last n1 h (by omega)
  have j1a : ∀ b : Bool, (b = true ↔ (0 ≤ N.e ∧ a ≤ 21)) → Ev (fun k => vernierref18_Text.j1 k (mkB (sgnL N.neg)) a b N.nar N.neg (mkB N.ds) N.e) (mkB (textN N), 0) := by
    intro b hb
    refine Ev.step (fun k => rfl) ?_
    simp only [vernierref18_Text.j1]
    by_cases h : 0 ≤ N.e ∧ a ≤ 21
    · rw [if_pos h] at htx
      have hbt := hb.2 h
      have hen : N.e = ((N.e.toNat : Nat) : Int) := by omega
      have k1 : (mkB (sgnL N.neg)).size + (mkB N.ds).size ≤ 9223372036854775807 := by rw [mkB_size, mkB_size]; omega
      simp only [if_pos hbt, if_pos k1]
      have hno := noughts_ev N.e.toNat (by omega)
      rw [← hen] at hno
      refine Ev.bind hno ?_
      have k2 : (mkB (sgnL N.neg) ++ mkB N.ds).size + (mkB (List.replicate N.e.toNat 48)).size ≤ 9223372036854775807 := by rw [mkB_append, mkB_size, mkB_size, List.length_append, List.length_replicate]; omega
      simp only [if_pos k2]
      refine Ev.congr (fun k => ?_) (Ev.now _)
      rw [htx]
      simp only [mkB_append, List.append_assoc]
    · have hbf : ¬ b = true := fun h' => h (hb.1 h')
      simp only [if_neg hbf]
      by_cases h3 : a ≥ 1
      · simp only [if_pos h3]
        exact j2a h (decide (a ≤ 21)) (by rw [decide_eq_true_iff]; omega)
      · simp only [if_neg h3]
        exact j2a h false (by constructor <;> intro h'; · cases h'
                              · omega)
  refine Ev.step (fun k => rfl) ?_
  simp only [vernierref18_Text.j0, hw]
  by_cases h : N.e ≥ 0
  · simp only [if_pos h]
    exact j1a (decide (a ≤ 21)) (by rw [decide_eq_true_iff]; omega)
  · simp only [if_neg h]
    exact j1a false (by constructor <;> intro h'; · cases h'
                        · omega)
theorem refText_ev (d : D) (hl : d.ds.length ≤ 9223372036854775807) : Ev (fun k => vernierref18_Text.f k d.nar d.neg (mkB d.ds) d.e) (if formed d = true then (mkB (textN (nrm d)), 0) else (mkB [], 23)) := by
  unfold vernierref18_Text.f
  refine Ev.bind (Formed_ev d hl) ?_
  by_cases h : formed d = true
  · obtain ⟨h1, h2, h3⟩ := formed_bounds h
    rw [if_pos h]
    simp only [if_pos h]
    refine Ev.bind (Normed_ev d hl h2 h3) ?_
    have hN := norm_nrm h
    obtain ⟨n1, n2, n3⟩ := formed_bounds (formed_of_norm hN)
    unfold flatD
    simp only
    by_cases hn : (nrm d).nar = true
    · simp only [if_pos hn]
      refine Ev.congr (fun k => ?_) (Ev.now _)
      unfold textN
      rw [if_pos hn]
      rfl
    · have hnf : (nrm d).nar = false := Bool.eq_false_iff.2 hn
      have hne : 0 < (nrm d).ds.length := by
        rcases hN with h1 | ⟨_, _, h1, _⟩
        · rw [h1] at hn; exact absurd rfl hn
        · exact List.length_pos_iff.2 h1
      have key := refText_N (nrm d) hnf n1 hne n2 n3
      simp only [if_neg hn]
      by_cases hg : (nrm d).neg = true
      · simp only [if_pos hg]
        have : sgnL (nrm d).neg = [45] := by unfold sgnL; rw [if_pos hg]
        rw [this] at key
        exact key
      · simp only [if_neg hg]
        have : sgnL (nrm d).neg = [] := by unfold sgnL; rw [if_neg hg]
        rw [this] at key
        exact key
  · rw [if_neg h]
    simp only [if_neg h]
    exact Ev.now _
theorem code_0t : vernierlaw00_Code.f none = some 0 := by rfl
theorem code_23t : vernierlaw00_Code.f (some 23) = some 23 := by decide
theorem ScanTexts_ev (d : D) (hl : d.ds.length ≤ 9223372036854775807) : Ev (fun k => vernierlaw18_ScanTexts.f k d.nar d.neg (mkB d.ds) d.e) true := by
  have hs : vernierlaw18_shown.f = some true := rfl
  have ht : scan_Text.f d.nar d.neg (mkB d.ds) d.e = if formed d = true then some (mkB (textN (nrm d)), none) else some (mkB [], some 23) := rfl
  unfold vernierlaw18_ScanTexts.f
  rw [hs]
  simp only [Option.bind_some]
  rw [ht]
  have hr := refText_ev d hl
  by_cases h : formed d = true
  · rw [if_pos h] at hr ⊢
    simp only [Option.bind_some]
    refine Ev.bind hr ?_
    refine Ev.congr (fun k => ?_) (Ev.now true)
    simp [code_0t]
  · rw [if_neg h] at hr ⊢
    simp only [Option.bind_some]
    refine Ev.bind hr ?_
    refine Ev.congr (fun k => ?_) (Ev.now true)
    simp [code_23t]
theorem ScanTexts_all (a0_0 a0_1 : Bool) (a0_2 : ByteArray) (a0_3 : Int) (w : World) (htab : Fx.Laid w) (hs : a0_2.size ≤ maxLen) :
    Calls Tryz.prog 5 #[.agg #[.bool a0_0, .bool a0_1, .string a0_2, .int .i64 a0_3]] w fun e w' => e = .returned (.bool true) ∧ Below w.heap.size w w' := by
  have hl : a0_2.data.toList.length ≤ 9223372036854775807 := by
    have e1 : a0_2.data.toList.length = a0_2.size := Array.length_toList
    rw [e1]; unfold maxLen at hs; omega
  obtain ⟨k, hk⟩ := (ScanTexts_ev ⟨a0_0, a0_1, a0_2.data.toList, a0_3⟩ hl).rounds
  exact vernierlaw18_ScanTexts.calls k a0_0 a0_1 a0_2 a0_3 true w hk rfl htab
end Go.Proofs.YthhkmpicpihjlaaGreatDoor.PSc
