/- Plain arithmetic of lists of digits: what a list means, its one form, sums, products (no program in sight). -/

set_option linter.unusedVariables false
set_option linter.unusedSimpArgs false
namespace Go.Proofs.YthhkmpicpihjlaaGreatDoor.NM
def B : Int := 18446744073709551616
def D : Int := 16777216
theorem B1 : 1 < B := by decide
theorem D1 : 1 < D := by decide
theorem Bdef : B = 18446744073709551616 := rfl
theorem Ddef : D = 16777216 := rfl
attribute [irreducible] B D
def val (b : Int) : List Int → Int
  | [] => 0
  | x :: r => x + b * val b r
def Dig (b : Int) (l : List Int) : Prop := ∀ x ∈ l, 0 ≤ x ∧ x < b
def enc (b : Int) (n : Int) : List Int := if h : 1 < b ∧ 0 < n then (n % b) :: enc b (n / b) else []
termination_by n.toNat
decreasing_by
  have h1 : n / b < n := Int.ediv_lt_self_of_pos_of_ne_one h.2 (by omega) |> fun h => h
  have h2 : 0 ≤ n / b := Int.ediv_nonneg (by omega) (by omega)
  omega
theorem enc_zero (b : Int) : enc b 0 = [] := by unfold enc; simp
theorem enc_pos {b n : Int} (hb : 1 < b) (hn : 0 < n) : enc b n = (n % b) :: enc b (n / b) := by
  rw [enc, dif_pos ⟨hb, hn⟩]
theorem enc_neg {b n : Int} (hn : n ≤ 0) : enc b n = [] := by
  rw [enc, dif_neg (by omega)]
theorem val_nil (b : Int) : val b [] = 0 := rfl
theorem val_cons (b x : Int) (l : List Int) : val b (x :: l) = x + b * val b l := rfl
theorem Dig.nil (b : Int) : Dig b [] := fun _ h => by cases h
theorem Dig.cons {b x : Int} {l : List Int} (h0 : 0 ≤ x) (h1 : x < b) (h : Dig b l) : Dig b (x :: l) := fun y hy => by
  cases List.mem_cons.1 hy with
  | inl e => subst e; exact ⟨h0, h1⟩
  | inr e => exact h y e
theorem Dig.head {b x : Int} {l : List Int} (h : Dig b (x :: l)) : 0 ≤ x ∧ x < b := h x List.mem_cons_self
theorem Dig.tail {b x : Int} {l : List Int} (h : Dig b (x :: l)) : Dig b l := fun y hy => h y (List.mem_cons_of_mem _ hy)
theorem Dig.append {b : Int} {l m : List Int} (h : Dig b l) (k : Dig b m) : Dig b (l ++ m) := fun y hy => by
  cases List.mem_append.1 hy with
  | inl e => exact h y e
  | inr e => exact k y e
theorem Dig.take {b : Int} {l : List Int} (h : Dig b l) (n : Nat) : Dig b (l.take n) := fun y hy => h y (List.mem_of_mem_take hy)
theorem Dig.drop {b : Int} {l : List Int} (h : Dig b l) (n : Nat) : Dig b (l.drop n) := fun y hy => h y (List.mem_of_mem_drop hy)
theorem Dig.zeros {b : Int} (hb : 0 < b) (n : Nat) : Dig b (List.replicate n 0) := fun y hy => by
  obtain ⟨_, rfl⟩ := List.mem_replicate.1 hy
  omega
theorem Dig.set {b : Int} {l : List Int} (h : Dig b l) {i : Nat} {v : Int} (h0 : 0 ≤ v) (h1 : v < b) : Dig b (l.set i v) := fun y hy => by
  rcases List.mem_or_eq_of_mem_set hy with e | e
  · exact h y e
  · subst e; exact ⟨h0, h1⟩
theorem Dig.get {b : Int} {l : List Int} (hb : 0 < b) (h : Dig b l) (i : Nat) : 0 ≤ l.getD i 0 ∧ l.getD i 0 < b := by
  rw [List.getD_eq_getElem?_getD]
  cases e : l[i]? with
  | none => simp; omega
  | some v => simp; exact h v (List.mem_of_getElem? e)
theorem val_nonneg {b : Int} (hb : 0 < b) {l : List Int} (h : Dig b l) : 0 ≤ val b l := by
  induction l with
  | nil => simp [val]
  | cons x r ih =>
    have h1 := ih h.tail
    have h2 := h.head
    have h3 := Int.mul_nonneg (Int.le_of_lt hb) h1
    rw [val_cons]
    omega
theorem pow_pos' {b : Int} (hb : 0 < b) (n : Nat) : 0 < b ^ n := Int.pow_pos hb
theorem val_lt {b : Int} (hb : 0 < b) {l : List Int} (h : Dig b l) : val b l < b ^ l.length := by
  induction l with
  | nil => simp [val]
  | cons x r ih =>
    have h1 := ih h.tail
    have h2 := h.head
    rw [val_cons, List.length_cons, Int.pow_succ]
    have h3 : b * (val b r + 1) ≤ b * b ^ r.length := Int.mul_le_mul_of_nonneg_left (by omega) (by omega)
    rw [Int.mul_add, Int.mul_one] at h3
    rw [Int.mul_comm (b ^ r.length) b]
    omega
theorem val_append (b : Int) (l m : List Int) : val b (l ++ m) = val b l + b ^ l.length * val b m := by
  induction l with
  | nil => simp [val]
  | cons x r ih =>
    rw [List.cons_append, val_cons, ih, val_cons, List.length_cons, Int.pow_succ, Int.mul_add]
    have : b * (b ^ r.length * val b m) = b ^ r.length * b * val b m := by rw [← Int.mul_assoc, Int.mul_comm b]
    omega
theorem val_zeros (b : Int) (n : Nat) : val b (List.replicate n 0) = 0 := by
  induction n with
  | zero => rfl
  | succ n ih => rw [List.replicate_succ, val_cons, ih]; simp
theorem val_take_succ (b : Int) (l : List Int) (i : Nat) : val b (l.take (i + 1)) = val b (l.take i) + b ^ i * l.getD i 0 := by
  by_cases h : i < l.length
  · rw [List.take_succ_eq_append_getElem h, val_append, List.length_take, Nat.min_eq_left (by omega), List.getD_eq_getElem?_getD, List.getElem?_eq_getElem h]
    simp [val]
  · rw [List.take_of_length_le (by omega), List.take_of_length_le (by omega), List.getD_eq_getElem?_getD, List.getElem?_eq_none (by omega)]
    simp
theorem take_set_succ (l : List Int) (i : Nat) (v : Int) (h : i < l.length) : (l.set i v).take (i + 1) = l.take i ++ [v] := by
  rw [List.take_succ_eq_append_getElem (by simpa using h)]
  simp [List.take_set_of_le]
theorem val_take_set (b : Int) (l : List Int) (i : Nat) (v : Int) (h : i < l.length) : val b ((l.set i v).take (i + 1)) = val b (l.take i) + b ^ i * v := by
  rw [take_set_succ l i v h, val_append, List.length_take, Nat.min_eq_left (by omega)]
  simp [val]
theorem set_last (l : List Int) (n : Nat) (v : Int) (h : l.length = n + 1) : l.set n v = l.take n ++ [v] := by
  have h1 := take_set_succ l n v (by omega)
  rw [List.take_of_length_le (by simp; omega)] at h1
  exact h1
theorem val_set (b : Int) (l : List Int) (i : Nat) (v : Int) (h : i < l.length) : val b (l.set i v) = val b l + b ^ i * (v - l.getD i 0) := by
  induction l generalizing i with
  | nil => simp at h
  | cons x r ih =>
    cases i with
    | zero => simp [val]; omega
    | succ i =>
      rw [List.set_cons_succ, val_cons, ih i (by simpa using h), val_cons, Int.mul_add, Int.pow_succ]
      simp only [List.getD_cons_succ]
      have : b * (b ^ i * (v - r.getD i 0)) = b ^ i * b * (v - r.getD i 0) := by rw [← Int.mul_assoc, Int.mul_comm b]
      omega
theorem val_enc {b : Int} (hb : 1 < b) : ∀ (m : Nat) (n : Int), 0 ≤ n → n.toNat ≤ m → val b (enc b n) = n := by
  intro m
  induction m with
  | zero => intro n h0 h1; rw [show n = 0 by omega, enc_zero]; rfl
  | succ m ih =>
    intro n h0 h1
    by_cases hn : 0 < n
    · have h2 : n / b < n := Int.ediv_lt_self_of_pos_of_ne_one hn (by omega)
      have h3 : 0 ≤ n / b := Int.ediv_nonneg (by omega) (by omega)
      rw [enc_pos hb hn, val_cons, ih (n / b) h3 (by omega)]
      have := Int.mul_ediv_add_emod n b
      omega
    · rw [show n = 0 by omega, enc_zero]; rfl
theorem val_enc' {b n : Int} (hb : 1 < b) (h : 0 ≤ n) : val b (enc b n) = n := val_enc hb _ n h (Nat.le_refl _)
theorem dig_enc {b : Int} (hb : 1 < b) : ∀ (m : Nat) (n : Int), n.toNat ≤ m → Dig b (enc b n) := by
  intro m
  induction m with
  | zero => intro n h1; rw [enc_neg (by omega)]; exact Dig.nil b
  | succ m ih =>
    intro n h1
    by_cases hn : 0 < n
    · have h2 : n / b < n := Int.ediv_lt_self_of_pos_of_ne_one hn (by omega)
      have h3 : 0 ≤ n / b := Int.ediv_nonneg (by omega) (by omega)
      rw [enc_pos hb hn]
      exact Dig.cons (Int.emod_nonneg _ (by omega)) (Int.emod_lt_of_pos _ (by omega)) (ih _ (by omega))
    · rw [enc_neg (by omega)]; exact Dig.nil b
theorem dig_enc' {b : Int} (hb : 1 < b) (n : Int) : Dig b (enc b n) := dig_enc hb _ n (Nat.le_refl _)
theorem enc_len {b : Int} (hb : 1 < b) : ∀ (m : Nat) (n : Int), n < b ^ m → (enc b n).length ≤ m := by
  intro m
  induction m with
  | zero => intro n h; rw [enc_neg (by simp at h; omega)]; simp
  | succ m ih =>
    intro n h
    by_cases hn : 0 < n
    · rw [enc_pos hb hn, List.length_cons]
      have : n / b < b ^ m := Int.ediv_lt_of_lt_mul (by omega) (by rw [← Int.pow_succ]; exact h)
      have := ih _ this
      omega
    · rw [enc_neg (by omega)]; simp
theorem enc_cons {b x : Int} {l : List Int} (hb : 1 < b) (h : Dig b (x :: l)) : enc b (val b (x :: l)) = if val b l = 0 ∧ x = 0 then [] else x :: enc b (val b l) := by
  have h0 := val_nonneg (by omega) h.tail
  have hx := h.head
  have hp : val b l = 0 ∨ b ≤ b * val b l := by
    by_cases hz : val b l = 0
    · exact .inl hz
    · refine .inr ?_
      have : b * 1 ≤ b * val b l := Int.mul_le_mul_of_nonneg_left (by omega) (by omega)
      omega
  by_cases hc : val b l = 0 ∧ x = 0
  · rw [if_pos hc, val_cons, hc.1, hc.2]; simp [enc_zero]
  · rw [if_neg hc]
    have hpos : 0 < val b (x :: l) := by
      rw [val_cons]
      rcases hp with hp | hp
      · rw [hp] at hc ⊢; simp at hc ⊢; omega
      · omega
    have h1 : val b (x :: l) % b = x := by rw [val_cons, Int.add_mul_emod_self_left]; exact Int.emod_eq_of_lt hx.1 hx.2
    have h2 : val b (x :: l) / b = val b l := by
      rw [val_cons, Int.add_mul_ediv_left _ _ (by omega), Int.ediv_eq_zero_of_lt hx.1 hx.2]; omega
    rw [enc_pos hb hpos, h1, h2]
theorem enc_snoc {b x : Int} {l : List Int} (hb : 1 < b) (h : Dig b (l ++ [x])) : enc b (val b (l ++ [x])) = if x = 0 then enc b (val b l) else l ++ [x] := by
  induction l with
  | nil =>
    rw [List.nil_append, enc_cons hb (by simpa using h)]
    simp [val, enc_zero]
  | cons y r ih =>
    have hd : Dig b (y :: (r ++ [x])) := h
    have hr : Dig b (r ++ [x]) := hd.tail
    have hr0 : Dig b r := fun z hz => hr z (by simp [hz])
    have ih' := ih hr
    rw [List.cons_append, enc_cons hb hd, ih']
    have hv : val b (r ++ [x]) = val b r + b ^ r.length * x := by rw [val_append]; simp [val]
    by_cases hx : x = 0
    · subst hx
      have hy : Dig b (y :: r) := Dig.cons hd.head.1 hd.head.2 hr0
      rw [if_pos rfl, if_pos rfl, enc_cons hb hy, hv]
      simp
    · rw [if_neg hx, if_neg hx, if_neg]
      rintro ⟨h1, _⟩
      rw [hv] at h1
      have h2 := val_nonneg (by omega) hr0
      have h3 := pow_pos' (b := b) (by omega) r.length
      have h4 := (hr x (by simp)).1
      have : 0 < b ^ r.length * x := Int.mul_pos h3 (by omega)
      omega
def pw (b : Int) (i : Nat) : Int := b ^ i
theorem pw_zero (b : Int) : pw b 0 = 1 := Int.pow_zero b
theorem pw_one (b : Int) : pw b 1 = b := by show b ^ (0 + 1) = b; rw [Int.pow_succ, Int.pow_zero, Int.one_mul]
theorem pw_succ (b : Int) (i : Nat) : pw b (i + 1) = pw b i * b := Int.pow_succ b i
theorem pw_add (b : Int) (i j : Nat) : pw b (i + j) = pw b i * pw b j := Int.pow_add b i j
theorem pw_pos {b : Int} (hb : 0 < b) (i : Nat) : 0 < pw b i := Int.pow_pos hb
theorem pw_le {b : Int} (hb : 0 < b) {i j : Nat} (h : i ≤ j) : pw b i ≤ pw b j := by
  obtain ⟨d, rfl⟩ : ∃ d, j = i + d := ⟨j - i, by omega⟩
  rw [pw_add]
  have h1 := pw_pos hb i
  have h2 := pw_pos hb d
  have : pw b i * 1 ≤ pw b i * pw b d := Int.mul_le_mul_of_nonneg_left (by omega) (by omega)
  omega
theorem pval_lt {b : Int} (hb : 0 < b) {l : List Int} (h : Dig b l) : val b l < pw b l.length := val_lt hb h
theorem pval_append (b : Int) (l m : List Int) : val b (l ++ m) = val b l + pw b l.length * val b m := val_append b l m
theorem pval_take_succ (b : Int) (l : List Int) (i : Nat) : val b (l.take (i + 1)) = val b (l.take i) + pw b i * l.getD i 0 := val_take_succ b l i
theorem pval_take_set (b : Int) (l : List Int) (i : Nat) (v : Int) (h : i < l.length) : val b ((l.set i v).take (i + 1)) = val b (l.take i) + pw b i * v := val_take_set b l i v h
theorem pval_set (b : Int) (l : List Int) (i : Nat) (v : Int) (h : i < l.length) : val b (l.set i v) = val b l + pw b i * (v - l.getD i 0) := val_set b l i v h
theorem penc_len {b : Int} (hb : 1 < b) {m : Nat} {n : Int} (h : n < pw b m) : (enc b n).length ≤ m := enc_len hb m n h
theorem pw_def (b : Int) (i : Nat) : pw b i = b ^ i := rfl
theorem pw_mul (b : Int) (m n : Nat) : pw b (m * n) = pw (pw b m) n := Int.pow_mul ..
attribute [irreducible] pw
theorem pw2_24 : pw 2 24 = D := by rw [pw_def, Ddef]; decide
theorem pw2_64 : pw 2 64 = B := by rw [pw_def, Bdef]; decide
theorem pwD (q : Nat) : pw D q = pw 2 (24 * q) := by rw [pw_mul, pw2_24]
theorem pwB (q : Nat) : pw B q = pw 2 (64 * q) := by rw [pw_mul, pw2_64]
theorem pwB_le (q : Nat) : pw B q ≤ pw D (3 * q) := by rw [pwB, pwD]; exact pw_le (by decide) (by omega)
theorem div_pw_succ {b : Int} (hb : 0 < b) (n : Int) (i : Nat) : n / pw b (i + 1) = n / pw b i / b := by
  rw [pw_succ, Int.ediv_ediv_of_nonneg (Int.le_of_lt (pw_pos hb i))]
theorem div_pw_succ' {b : Int} (hb : 0 < b) (n : Int) (i : Nat) : n / pw b (i + 1) = n / b / pw b i := by
  rw [pw_succ, Int.mul_comm, Int.ediv_ediv_of_nonneg (Int.le_of_lt hb)]
theorem div_pw_zero (b n : Int) : n / pw b 0 = n := by rw [pw_zero, Int.ediv_one]
theorem div_pw_nonneg {b n : Int} (hb : 0 < b) (hn : 0 ≤ n) (i : Nat) : 0 ≤ n / pw b i := Int.ediv_nonneg hn (Int.le_of_lt (pw_pos hb i))
theorem enc_lt {b n : Int} (hb : 1 < b) (hn : 0 ≤ n) (i : Nat) : i < (enc b n).length ↔ 0 < n / pw b i := by
  induction i generalizing n with
  | zero =>
    rw [div_pw_zero]
    by_cases h : 0 < n
    · rw [enc_pos hb h]; simp [h]
    · rw [enc_neg (by omega)]; simp; omega
  | succ i ih =>
    rw [div_pw_succ' (by omega), ← ih (Int.ediv_nonneg hn (by omega))]
    by_cases h : 0 < n
    · rw [enc_pos hb h]; simp
    · rw [show n = 0 by omega]; simp [enc_zero]
theorem enc_get {b n : Int} (hb : 1 < b) (hn : 0 ≤ n) (i : Nat) : (enc b n).getD i 0 = n / pw b i % b := by
  induction i generalizing n with
  | zero =>
    rw [div_pw_zero]
    by_cases h : 0 < n
    · rw [enc_pos hb h]; simp
    · rw [show n = 0 by omega]; simp [enc_zero]
  | succ i ih =>
    rw [div_pw_succ' (by omega), ← ih (Int.ediv_nonneg hn (by omega))]
    by_cases h : 0 < n
    · rw [enc_pos hb h]; simp
    · rw [show n = 0 by omega]; simp [enc_zero]
theorem enc_drop {b n : Int} (hb : 1 < b) (hn : 0 ≤ n) (i : Nat) : (enc b n).drop i = enc b (n / pw b i) := by
  induction i generalizing n with
  | zero => rw [div_pw_zero]; rfl
  | succ i ih =>
    rw [div_pw_succ' (by omega), ← ih (Int.ediv_nonneg hn (by omega))]
    by_cases h : 0 < n
    · rw [enc_pos hb h]; simp
    · rw [show n = 0 by omega]; simp [enc_zero]
theorem enc_step {b v : Int} (hb : 1 < b) (hv : 0 < v) (out : List Int) : (out ++ [v % b]) ++ enc b (v / b) = out ++ enc b v := by
  rw [enc_pos hb hv]; simp
theorem lt_of_div {b v : Int} (hb : 1 < b) {d : Nat} (h : v < pw b (d + 1)) : v / b < pw b d := by
  refine Int.ediv_lt_of_lt_mul (by omega) ?_
  rw [← pw_succ]; exact h
theorem add_step {p b lo hi ai bi c X A C : Int} (hs : lo + b * hi = ai + bi + c) (hv : X + p * c = A + C) : X + p * lo + p * b * hi = (A + p * ai) + (C + p * bi) := by grind
end Go.Proofs.YthhkmpicpihjlaaGreatDoor.NM
