/- Texts of digits: what nat.Read comes to, as plain arithmetic. -/
import Derived.Test.YthhkmpicpihjlaaGreatDoorQRNP0
import Derived.Test.YthhkmpicpihjlaaGreatDoorQRGReadC
import Derived.Laws.Strings2
import Derived.Laws.RangeString
import Derived.Test.YthhkmpicpihjlaaGreatDoorQRPNatx5
set_option linter.unusedVariables false
set_option linter.unusedSimpArgs false
namespace Go.Proofs.YthhkmpicpihjlaaGreatDoor.PNat
open Go.RowKit Go.Proofs.YthhkmpicpihjlaaGreatDoorW.PrintWords Go.Proofs.YthhkmpicpihjlaaGreatDoorW.PrintLast Go.Proofs.YthhkmpicpihjlaaGreatDoorW.PrintMore Go.Proofs.YthhkmpicpihjlaaGreatDoor.M Go.Proofs.YthhkmpicpihjlaaGreatDoor.NM
attribute [local irreducible] add64Lo add64Hi sub64Lo sub64Hi val
def dgt (c : UInt8) : Bool := decide (48 ≤ c.toNat) && decide (c.toNat ≤ 57)
def lead : List UInt8 → Nat
  | [] => 0
  | c :: r => if dgt c = true then lead r + 1 else 0
theorem lead_le (l : List UInt8) : lead l ≤ l.length := by
  induction l with
  | nil => simp [lead]
  | cons c r ih => unfold lead; split <;> simp <;> omega
theorem lead_all {l : List UInt8} (h : ∀ c ∈ l, dgt c = true) : lead l = l.length := by
  induction l with
  | nil => rfl
  | cons c r ih =>
    unfold lead
    rw [if_pos (h c List.mem_cons_self), ih (fun x hx => h x (List.mem_cons_of_mem _ hx)), List.length_cons]
theorem all_of_lead {l : List UInt8} (h : lead l = l.length) : ∀ c ∈ l, dgt c = true := by
  induction l with
  | nil => intro c hc; cases hc
  | cons c r ih =>
    intro x hx
    unfold lead at h
    by_cases hd : dgt c = true
    · rw [if_pos hd, List.length_cons] at h
      rcases List.mem_cons.1 hx with rfl | hx
      · exact hd
      · exact ih (by omega) x hx
    · rw [if_neg hd, List.length_cons] at h; omega
theorem decode_high (s : ByteArray) (i : Nat) (h : ¬ (s.get! i).toNat < 128) : 128 ≤ (Utf8.decode s i).1 := by
  unfold Utf8.decode Utf8.runeError
  simp only [Nat.add_zero]
  repeat' split
  all_goals first | omega | (dsimp only; omega) | (simp_all; done) | (simp_all; omega)
theorem noDigit_of_not {c : UInt8} (h : ¬ dgt c = true) : noDigit c.toNat = true := by
  unfold noDigit dgt at *
  by_cases h1 : c.toNat < 48
  · simp [h1]
  · by_cases h2 : 57 < c.toNat
    · simp [h2]
    · exact absurd (by simp; omega) h
theorem noDigit_of {c : UInt8} (h : dgt c = true) : noDigit c.toNat = false := by
  unfold noDigit dgt at *
  simp at h ⊢
  omega
theorem idx_from (l : List UInt8) : ∀ (f pos : Nat), l.length ≤ pos + f → Lib.idxFuncFrom noDigit true (mkB l) f pos = if pos + lead (l.drop pos) < l.length then ((pos + lead (l.drop pos) : Nat) : Int) else -1 := by
  intro f
  induction f with
  | zero =>
    intro pos h
    rw [List.drop_of_length_le (by omega)]
    unfold Lib.idxFuncFrom
    rw [if_neg (by simp [lead]; omega)]
  | succ f ih =>
    intro pos h
    unfold Lib.idxFuncFrom
    rw [mkB_size]
    by_cases hp : pos < l.length
    · have hps : pos < (mkB l).size := by rw [mkB_size]; exact hp
      obtain ⟨c, hc⟩ : ∃ c, l[pos]'hp = c := ⟨_, rfl⟩
      have hdrop : l.drop pos = c :: l.drop (pos + 1) := by rw [← hc]; exact List.drop_eq_getElem_cons hp
      have hgc : (mkB l)[pos]'hps = c := hc
      rw [if_pos hp, hdrop]
      by_cases hd : dgt c = true
      · have h128 : c.toNat < 128 := by
          have hd2 := hd
          unfold dgt at hd2; simp at hd2; omega
        rw [decode_ascii (mkB l) pos hps (by rw [hgc]; exact h128)]
        dsimp only
        rw [hgc, noDigit_of hd, if_neg (by decide), ih (pos + 1) (by omega)]
        have e : lead (c :: l.drop (pos + 1)) = lead (l.drop (pos + 1)) + 1 := by rw [lead, if_pos hd]
        rw [e, show pos + (lead (l.drop (pos + 1)) + 1) = pos + 1 + lead (l.drop (pos + 1)) by omega]
      · have hn : noDigit (Utf8.decode (mkB l) pos).1 = true := by
          by_cases h128 : c.toNat < 128
          · rw [decode_ascii (mkB l) pos hps (by rw [hgc]; exact h128)]
            dsimp only
            rw [hgc]
            exact noDigit_of_not hd
          · have hg : (mkB l).get! pos = (mkB l)[pos]'hps := by
              show (mkB l).data[pos]! = _
              rw [getElem!_pos (mkB l).data pos hps]; rfl
            have := decode_high (mkB l) pos (by rw [hg, hgc]; exact h128)
            unfold noDigit
            simp
            omega
        rw [hn, if_pos rfl]
        have e : lead (c :: l.drop (pos + 1)) = 0 := by rw [lead, if_neg hd]
        rw [e, Nat.add_zero, if_pos hp]
    · rw [if_neg hp, List.drop_of_length_le (by omega), if_neg (by simp [lead]; omega)]
theorem idx_zero (l : List UInt8) : Lib.idxFuncFrom noDigit true (mkB l) (mkB l).size 0 = if lead l < l.length then ((lead l : Nat) : Int) else -1 := by
  have h := idx_from l (mkB l).size 0 (by rw [mkB_size]; omega)
  rw [List.drop_zero, Nat.zero_add] at h
  exact h
theorem idx_f (s : ByteArray) : strings_IndexFunc.f s = some (Lib.idxFuncFrom noDigit true s s.size 0) := by unfold strings_IndexFunc.f Lib.idxFunc; exact congrArg some rfl
theorem idx_mkB (l : List UInt8) : strings_IndexFunc.f (mkB l) = some (if lead l < l.length then ((lead l : Nat) : Int) else -1) := (idx_f _).trans (congrArg some (idx_zero l))
def numF (V : Nat) (l : List UInt8) : Nat := l.foldl (fun a c => a * 10 + (c.toNat - 48)) V
theorem numF_cons (V : Nat) (c : UInt8) (r : List UInt8) : numF V (c :: r) = numF (V * 10 + (c.toNat - 48)) r := by unfold numF; rw [List.foldl_cons]
theorem numF_append (V : Nat) (a b : List UInt8) : numF V (a ++ b) = numF (numF V a) b := by unfold numF; rw [List.foldl_append]
theorem numF_ge (l : List UInt8) : ∀ V, V ≤ numF V l := by
  induction l with
  | nil => intro V; exact Nat.le_refl _
  | cons c r ih => intro V; rw [numF_cons]; have := ih (V * 10 + (c.toNat - 48)); omega
theorem numF_split (l : List UInt8) : ∀ V, numF V l = V * 10 ^ l.length + numF 0 l := by
  induction l with
  | nil => intro V; simp [numF]
  | cons c r ih =>
    intro V
    rw [numF_cons, numF_cons, ih, ih (0 * 10 + (c.toNat - 48)), List.length_cons, Nat.pow_succ]
    have e1 : (V * 10 + (c.toNat - 48)) * 10 ^ r.length = V * 10 * 10 ^ r.length + (c.toNat - 48) * 10 ^ r.length := Nat.add_mul ..
    have e2 : (0 * 10 + (c.toNat - 48)) * 10 ^ r.length = (c.toNat - 48) * 10 ^ r.length := by rw [Nat.zero_mul, Nat.zero_add]
    have e3 : V * (10 ^ r.length * 10) = V * 10 * 10 ^ r.length := by rw [Nat.mul_comm (10 ^ r.length), Nat.mul_assoc]
    rw [e1, e2, e3]
    omega
theorem numF_lt {l : List UInt8} (h : ∀ c ∈ l, dgt c = true) : numF 0 l < 10 ^ l.length := by
  induction l with
  | nil => simp [numF]
  | cons c r ih =>
    have hc := h c List.mem_cons_self
    have hr := ih (fun x hx => h x (List.mem_cons_of_mem _ hx))
    rw [numF_cons, numF_split, List.length_cons, Nat.pow_succ]
    unfold dgt at hc
    simp at hc
    have h9 : (0 * 10 + (c.toNat - 48)) * 10 ^ r.length ≤ 9 * 10 ^ r.length := Nat.mul_le_mul_right _ (by omega)
    omega
theorem parse_ok (M : Nat) (hM : M ≤ 18446744073709551615) (l : List UInt8) : ∀ acc, (∀ c ∈ l, dgt c = true) → numF acc l ≤ M → Lib.parseUintM M acc l = .ok (numF acc l) := by
  induction l with
  | nil => intro acc _ _; rfl
  | cons c r ih =>
    intro acc hd hle
    have hc := hd c List.mem_cons_self
    unfold dgt at hc
    simp at hc
    rw [numF_cons] at hle
    have hge := numF_ge r (acc * 10 + (c.toNat - 48))
    unfold Lib.parseUintM
    rw [if_pos hc, if_neg (by omega), if_neg (by omega), ih _ (fun x hx => hd x (List.mem_cons_of_mem _ hx)) hle, numF_cons]
theorem parse_chunk {l : List UInt8} (h : ∀ c ∈ l, dgt c = true) (h0 : l ≠ []) (h19 : l.length ≤ 19) : strconv_ParseUint_24.f (mkB l) 10 64 = some ((numF 0 l : Int), none) := by
  have hlt := numF_lt h
  have hp : 10 ^ l.length ≤ 10 ^ 19 := Nat.pow_le_pow_right (by decide) h19
  have e19 : (10 : Nat) ^ 19 = 10000000000000000000 := by decide
  unfold strconv_ParseUint_24.f
  rw [if_pos ⟨rfl, rfl, by rw [mkB_size]; omega⟩]
  have hpu : Lib.parseUintB 64 (mkB l).data.toList = .ok (numF 0 l) := by
    rw [mkB_list]
    unfold Lib.parseUintB
    rw [if_neg h0]
    exact parse_ok _ (by decide) l 0 h (by omega)
  rw [hpu]
theorem read_scale (s : ByteArray) (x5 : List Int) (n v : Int) (nn : Nat) (h19 : nn ≤ 19) (R : List Int × Option Int)
    (next : Ev (fun k => (nat_times.f k x5 [pw 10 nn]).bind fun t => (nat_Of.f k v).bind fun u => (nat_plus.f k t u).bind fun z => (if 0 ≤ n then (if n ≤ (s.size : Int) then nat_Read.l0 k (s.extract n.toNat s.size) z else none) else none)) R) :
    ∀ (d i : Nat), i + d = nn → Ev (fun k => nat_Read.l1 k s x5 n v (pw 10 i) (nn : Int) (i : Int)) R := by
  intro d
  induction d with
  | zero =>
    intro i hi
    obtain rfl : i = nn := by omega
    refine Ev.step (fun k => ?_) next
    simp only [nat_Read.l1]
    rw [if_neg (by omega)]
  | succ d ih =>
    intro i hi
    have hw : Aside0 (wrap64 ((i : Int) + 1) = ((i + 1 : Nat) : Int)) := ⟨by rw [w64 (by omega) (by omega)]; omega⟩
    have hp0 := pw10_pos i
    have hp : pw 10 i * 10 ≤ 10000000000000000000 := by
      rw [← pw10_19, ← pw_succ]; exact pw_le (by decide) (by omega)
    have hw2 : Aside0 (IntKind.u64.wrap (pw 10 i * 10) = pw 10 (i + 1)) := ⟨by rw [u64w (by omega) (by omega), pw_succ]⟩
    refine Ev.step (fun k => ?_) (ih (i + 1) (by omega))
    simp only [nat_Read.l1]
    rw [if_pos (by omega), hw.out, hw2.out]
theorem read_l0 : ∀ (m : Nat) (l : List UInt8) (V : Int), (∀ c ∈ l, dgt c = true) → l.length ≤ m → 0 ≤ V → (enc B V).length + l.length ≤ 1073741824 →
    Ev (fun k => nat_Read.l0 k (mkB l) (enc B V)) (enc B (V * pw 10 l.length + (numF 0 l : Int)), none) := by
  intro m
  induction m with
  | zero =>
    intro l V hd hl hV hL
    obtain rfl : l = [] := List.length_eq_zero_iff.1 (by omega)
    refine Ev.step (f := fun _ => some (enc B V, none)) (fun k => ?_) (by rw [List.length_nil, pw_zero, Int.mul_one]; exact (by simp [numF]; exact Ev.now _))
    simp only [nat_Read.l0]
    rw [mkB_size, if_neg (by simp)]
  | succ m ih =>
    intro l V hd hl hV hL
    by_cases h0 : l = []
    · subst h0
      refine Ev.step (f := fun _ => some (enc B V, none)) (fun k => ?_) (by rw [List.length_nil, pw_zero, Int.mul_one]; exact (by simp [numF]; exact Ev.now _))
      simp only [nat_Read.l0]
      rw [mkB_size, if_neg (by simp)]
    · have hlp : 0 < l.length := List.length_pos_iff.2 h0
      obtain ⟨n, hn⟩ : ∃ n : Nat, n = min l.length 19 := ⟨_, rfl⟩
      have hmn : mn ((mkB l).size : Int) 19 = (n : Int) := by rw [mkB_size]; unfold mn; split <;> omega
      have hda : ∀ c ∈ l.take n, dgt c = true := fun c hc => hd c (List.mem_of_mem_take hc)
      have hdb : ∀ c ∈ l.drop n, dgt c = true := fun c hc => hd c (List.mem_of_mem_drop hc)
      have hla : (l.take n).length = n := by rw [List.length_take]; omega
      have hpc := parse_chunk hda (by intro h; rw [h] at hla; simp at hla; omega) (by omega)
      have hext : (mkB l).extract 0 n = mkB (l.take n) := by
        unfold mkB
        rw [ByteArray.extract_mk, List.drop_zero, Nat.sub_zero]
      have hext2 : (mkB l).extract n l.length = mkB (l.drop n) := by
        unfold mkB
        rw [ByteArray.extract_mk, List.take_of_length_le (by rw [List.length_drop]; omega)]
      have hlt := numF_lt hda
      rw [hla] at hlt
      have hvB : ((numF 0 (l.take n) : Nat) : Int) < B := by
        have hp : 10 ^ n ≤ 10 ^ 19 := Nat.pow_le_pow_right (by decide) (by omega)
        have e19 : (10 : Nat) ^ 19 = 10000000000000000000 := by decide
        rw [Bdef]; omega
      have hsB : pw 10 n < B := by
        have := pw_le (b := 10) (by decide) (show n ≤ 19 by omega)
        rw [pw10_19] at this
        rw [Bdef]; omega
      have hs0 := pw10_pos n
      have ht := times_ev (dig_enc' B1 V) (Dig_one (b := B) (Int.le_of_lt hs0) hsB) (by simp; omega)
      rw [val_enc' B1 hV, val_one] at ht
      have hVs : 0 ≤ V * pw 10 n := Int.mul_nonneg hV (Int.le_of_lt hs0)
      have hl1 : (enc B (V * pw 10 n)).length ≤ (enc B V).length + 1 := by
        refine penc_len B1 ?_
        rw [pw_succ]
        have h1 := pval_lt Bpos (dig_enc' B1 V)
        rw [val_enc' B1 hV] at h1
        have h2 : V * pw 10 n ≤ V * B := Int.mul_le_mul_of_nonneg_left (Int.le_of_lt hsB) hV
        have h3 : V * B < pw B (enc B V).length * B := Int.mul_lt_mul_of_pos_right h1 Bpos
        omega
      have hof := nOf_ev (v := ((numF 0 (l.take n) : Nat) : Int)) (by omega) hvB
      have hl2 : (enc B ((numF 0 (l.take n) : Nat) : Int)).length ≤ 1 := penc_len B1 (by rw [pw_one]; exact hvB)
      have hpl := plus_ev (dig_enc' B1 (V * pw 10 n)) (dig_enc' B1 ((numF 0 (l.take n) : Nat) : Int)) (by omega) (by omega)
      rw [val_enc' B1 hVs, val_enc' B1 (by omega)] at hpl
      have hnew : 0 ≤ V * pw 10 n + ((numF 0 (l.take n) : Nat) : Int) := by omega
      have hl3 : (enc B (V * pw 10 n + ((numF 0 (l.take n) : Nat) : Int))).length ≤ (enc B V).length + 1 := by
        refine penc_len B1 ?_
        rw [pw_succ]
        have h1 := pval_lt Bpos (dig_enc' B1 V)
        rw [val_enc' B1 hV] at h1
        have h4 : ((numF 0 (l.take n) : Nat) : Int) < pw 10 n := by
          rw [pw_def]
          have e : ((10 ^ n : Nat) : Int) = (10 : Int) ^ n := by simp
          omega
        have h5 : (V + 1) * pw 10 n ≤ pw B (enc B V).length * pw 10 n := Int.mul_le_mul_of_nonneg_right (by omega) (Int.le_of_lt hs0)
        have h6 : pw B (enc B V).length * pw 10 n ≤ pw B (enc B V).length * B := Int.mul_le_mul_of_nonneg_left (Int.le_of_lt hsB) (Int.le_of_lt (pw_pos Bpos _))
        rw [Int.add_mul, Int.one_mul] at h5
        omega
      have key := ih (l.drop n) _ hdb (by rw [List.length_drop]; omega) hnew (by rw [List.length_drop]; omega)
      have hfin : (V * pw 10 n + ((numF 0 (l.take n) : Nat) : Int)) * pw 10 (l.drop n).length + ((numF 0 (l.drop n) : Nat) : Int) = V * pw 10 l.length + ((numF 0 l : Nat) : Int) := by
        have e1 : l.length = n + (l.drop n).length := by rw [List.length_drop]; omega
        have e2 : numF 0 l = numF 0 (l.take n) * 10 ^ (l.drop n).length + numF 0 (l.drop n) := by
          rw [← numF_split, ← numF_append, List.take_append_drop]
        have e3 : ((10 ^ (l.drop n).length : Nat) : Int) = pw 10 (l.drop n).length := by rw [pw_def]; simp
        rw [e2, Int.natCast_add, Int.natCast_mul, e3, e1, pw_add]
        simp only [List.length_drop]
        grind
      rw [hfin] at key
      have hsc := read_scale (mkB l) (enc B V) (n : Int) ((numF 0 (l.take n) : Nat) : Int) n (by omega) (enc B (V * pw 10 l.length + ((numF 0 l : Nat) : Int)), none) (by
        refine Ev.bind ht (Ev.bind hof (Ev.bind hpl ?_))
        refine Ev.congr (fun k => ?_) key
        rw [if_pos (by omega), mkB_size, if_pos (by omega), Int.toNat_natCast, hext2]) n 0 (by omega)
      rw [pw_zero] at hsc
      refine Ev.step (fun k => ?_) hsc
      simp only [nat_Read.l0]
      rw [hmn, mkB_size, if_pos (by omega), if_pos (by omega), if_pos (by omega), Int.toNat_natCast, hext, hpc]
      simp only [Option.bind_some]
      rw [if_pos (by rfl)]
      rfl
theorem nRead_ev {l : List UInt8} (hd : ∀ c ∈ l, dgt c = true) (h0 : l ≠ []) (hl : l.length ≤ 4096) : Ev (fun k => nat_Read.f k (mkB l)) (enc B (numF 0 l : Int), none) := by
  have h := read_l0 l.length l 0 hd (Nat.le_refl _) (Int.le_refl _) (by rw [enc_zero]; simp; omega)
  rw [Int.zero_mul, Int.zero_add, enc_zero] at h
  refine Ev.congr (f := fun k => nat_Read.j0 k (mkB l) (-1)) (fun k => ?_) (Ev.step (fun k => ?_) h)
  · unfold nat_Read.f
    rw [mkB_size, if_neg (by omega), idx_mkB, if_neg (by rw [lead_all hd]; omega)]
    simp only [Option.bind_some]
    rw [if_neg (by rw [Lib.toList_data, mkB_list]; exact h0)]
  · simp only [nat_Read.j0]
    rw [if_neg (by decide)]
theorem nRead_long {l : List UInt8} (hl : 4096 < l.length) : Ev (fun k => nat_Read.f k (mkB l)) ([], some 13) := by
  refine Ev.congr (f := fun _ => some ([], some 13)) (fun k => ?_) (Ev.now _)
  unfold nat_Read.f
  rw [mkB_size, if_pos (by omega)]
end Go.Proofs.YthhkmpicpihjlaaGreatDoor.PNat
