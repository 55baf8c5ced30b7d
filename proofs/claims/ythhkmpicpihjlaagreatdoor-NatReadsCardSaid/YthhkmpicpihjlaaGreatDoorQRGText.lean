/- nat.Text: the text of a number, whole (what its two loops compute is told as a Lean function). -/
import Derived.Test.YthhkmpicpihjlaaGreatDoorQRPNatx1
import Derived.Test.YthhkmpicpihjlaaGreatDoorQRPNatx4
import Derived.Test.YthhkmpicpihjlaaGreatDoorQRGFmtC
namespace Go.Proofs.YthhkmpicpihjlaaGreatDoor.PNat
open Go.RowKit Go.Proofs.YthhkmpicpihjlaaGreatDoorW.PrintWords Go.Proofs.YthhkmpicpihjlaaGreatDoorW.PrintLast Go.Proofs.YthhkmpicpihjlaaGreatDoorW.PrintMore Go.Proofs.YthhkmpicpihjlaaGreatDoor.M
attribute [local go_sem] max2_int min2_int max_two min_two max_three min_three max_four min_four
set_option linter.unusedVariables false
set_option linter.unusedSimpArgs false
theorem infoStr : (Tryz.prog.info? 9).map (fun i => (i.zero, i.size, i.bytes)) = some (some (.string ⟨#[]⟩), 1, 16) := by kernel_rfl
def catL (ps : List ByteArray) : List UInt8 := (ps.reverse.map (fun p => p.data.toList)).flatten
def catB (ps : List ByteArray) : ByteArray := ⟨(catL ps).toArray⟩
theorem catL_cons (p : ByteArray) (ps : List ByteArray) : catL (p :: ps) = catL ps ++ p.data.toList := by
  unfold catL
  rw [List.reverse_cons, List.map_append, List.flatten_append]
  simp
theorem catL_drop_le (ps : List ByteArray) (n : Nat) : (catL (ps.drop n)).length ≤ (catL ps).length := by
  induction n generalizing ps with
  | zero => simp
  | succ n ih =>
    cases ps with
    | nil => simp
    | cons p r =>
      rw [List.drop_succ_cons, catL_cons, List.length_append]
      have := ih r
      omega
theorem builder_write (B b : Nat) (l : List UInt8) (s : ByteArray) (w : World) (h : Lib.IsBuilderF 82 5 B b (Lib.byteCells l) w) (hlen : l.length + s.size ≤ 140737488355328) (hBw : B ≤ w.heap.size) :
    Calls Tryz.prog 48 #[.pointer (some ⟨b, 0, none⟩), .string s] w fun e w' => e = .returned (.tuple #[.int .i64 s.size, .nilIface]) ∧ Lib.IsBuilderF 82 5 B b (Lib.byteCells (l ++ s.data.toList)) w' ∧ Below B w w' := by
  refine (Any.Builder_WriteString_f { Tryz.lays105 with } Tryz.Builder_Extra_105 B b (Lib.byteCells l) s w h (by rw [show (Lib.byteCells l).length = l.length from List.length_map ..]; exact hlen) hBw).mono ?_
  rintro e w' ⟨he, h1, h2⟩
  refine ⟨he, .inr ?_, h2⟩
  have e2 : Lib.byteCells (l ++ s.data.toList) = Lib.byteCells l ++ Lib.strCells s := by simp [Lib.byteCells, Lib.strCells]
  rw [e2]
  exact h1
theorem builder_new (w : World) : Lib.IsBuilderF 82 5 w.heap.size w.heap.size (Lib.byteCells []) (w.alloc (.cells #[.pointer none, .slice none 0 0] 82)) := by
  rcases Lib.fresh_isBuilder 82 5 w with h | h
  · exact .inl (Lib.BuilderAtF.of h)
  · exact .inr (Lib.BuilderAtF.of h)
theorem fmt_size {a b : Int} {r : ByteArray} (h : strconv_FormatUint.f a b = some r) : r.size ≤ 20 := by
  unfold strconv_FormatUint.f at h
  by_cases hg : 0 ≤ a ∧ a < 18446744073709551616 ∧ b = 10
  case neg => rw [if_neg hg] at h; exact absurd h (by simp)
  rw [if_pos hg] at h
  obtain rfl := Option.some.inj h
  show (Lib.decDigits a.toNat).toArray.size ≤ 20
  rw [List.size_toArray, Lib.decDigits_length]
  by_cases h1 : 1 ≤ a.toNat
  · have := Lib.numDigits_eq a.toNat h1 (by omega)
    split at this <;> omega
  · rw [show a.toNat = 0 by omega]
    unfold Lib.nDigits
    decide
theorem fmt_wrap {a b : Int} {r : ByteArray} (h : strconv_FormatUint.f a b = some r) : wrap64 (19 - (r.size : Int)) = 19 - (r.size : Int) := by
  have := fmt_size h
  unfold wrap64
  omega
theorem text_short {w : World} {A : Option Addr} {xs : List ByteArray} (h : Kd.C Kd.string w A xs.length xs) : xs.length ≤ 9223372036854775807 := Kd.C_max h
theorem text_wrap {n : Nat} (h1 : 1 ≤ n) (h2 : n ≤ 9223372036854775807) : IntKind.i64.wrap ((n : Int) - 1) = (n : Int) - 1 := IntWalk.i64_in _ (by omega)
theorem text_wrap1 {v : Int} {n : Nat} (h0 : 0 ≤ v) (h1 : v < (n : Int)) (h2 : n ≤ 9223372036854775807) : IntKind.i64.wrap (v - 1) = v - 1 := IntWalk.i64_in _ (by omega)
theorem text_all (xs : List ByteArray) : catL (xs.drop ((xs.length : Int) - 1 + 1).toNat) = [] := by
  rw [show ((xs.length : Int) - 1 + 1).toNat = xs.length by omega, List.drop_length]; rfl
theorem text_next {xs : List ByteArray} {v : Int} (hl : (catL xs).length ≤ 140737488355328) (h0 : 0 ≤ v) (h1 : v < (xs.length : Int)) :
    (catL (xs.drop (v + 1).toNat)).length + (rdOf ByteArray.empty xs v).size ≤ 140737488355328 ∧ catL (xs.drop (v - 1 + 1).toNat) = catL (xs.drop (v + 1).toNat) ++ (rdOf ByteArray.empty xs v).data.toList := by
  have e1 : (v - 1 + 1).toNat = v.toNat := by omega
  have e2 : (v + 1).toNat = v.toNat + 1 := by omega
  have hlt : v.toNat < xs.length := by omega
  have e3 : rdOf ByteArray.empty xs v = xs[v.toNat] := by unfold rdOf; rw [List.getD_eq_getElem?_getD, List.getElem?_eq_getElem hlt]; rfl
  have e4 : catL (xs.drop v.toNat) = catL (xs.drop (v.toNat + 1)) ++ xs[v.toNat].data.toList := by rw [List.drop_eq_getElem_cons hlt, catL_cons]
  rw [e1, e2, e3]
  refine ⟨?_, e4⟩
  have h5 := catL_drop_le xs v.toNat
  rw [e4, List.length_append] at h5
  have h6 : xs[v.toNat].data.toList.length = xs[v.toNat].size := Array.length_toList
  omega
def nat_Text.l0 : Nat → List Int → List ByteArray → Option (ByteArray)
  | 0, _, _ => none
  | k + 1, x0, x3 => if (x0.length : Int) > 0 then ((nat_short.f k x0 10000000000000000000).bind fun bt219 => ((strconv_FormatUint.f bt219.2 10).bind fun t223 => (if (bt219.1.length : Int) > 0 then ((strings_Repeat.f (⟨#[48]⟩ : ByteArray) (wrap64 (19 - (t223.size : Int)))).bind fun t224 => (if t224.size + t223.size ≤ 9223372036854775807 then (if x3.length < 8796093022208 then (nat_Text.l0 k bt219.1 (x3 ++ [t224 ++ t223])) else (none)) else (none))) else (if x3.length < 8796093022208 then (nat_Text.l0 k bt219.1 (x3 ++ [t223])) else (none))))) else (if (x3.length : Int) = 0 then (some (⟨#[48]⟩ : ByteArray)) else (if (catL x3).length ≤ 140737488355328 then (some (catB x3)) else none))
def nat_Text.f (k : Nat) (l0 : List Int) : Option (ByteArray) := (nat_trim.f k l0).bind fun t216 => (nat_Text.l0 k t216 ([] : List ByteArray))
theorem nat_Text.mono_l : ∀ k, (∀ y0 y1, LeO (nat_Text.l0 k y0 y1) (nat_Text.l0 (k + 1) y0 y1))
  | 0 => fun _ _ r h => by simp [nat_Text.l0] at h
  | k + 1 => by
    have ih0 := nat_Text.mono_l k
    · intro y0 y1
      unfold nat_Text.l0
      repeat' first
      | (with_reducible exact ih0 _ _)
      | (with_reducible exact nat_short.mono _ _ _)
      | (with_reducible exact nat_trim.mono _ _)
      | (with_reducible exact LeO.refl _)
      | (with_reducible exact LeO.none _)
      | (with_reducible refine LeO.ite ?_ ?_)
      | (with_reducible refine LeO.bind ?_ (fun _ => ?_))
      | exact ih0 _ _
      | exact nat_short.mono _ _ _
      | exact nat_trim.mono _ _
      | exact LeO.none _
      | refine LeO.ite ?_ ?_
      | refine LeO.bind ?_ (fun _ => ?_)
theorem nat_Text.mono : ∀ a0 k, LeO (nat_Text.f k a0) (nat_Text.f (k + 1) a0) := by
  intro a0 k
  have ih0 := nat_Text.mono_l k
  unfold nat_Text.f
  repeat' first
      | (with_reducible exact ih0 _ _)
      | (with_reducible exact nat_short.mono _ _ _)
      | (with_reducible exact nat_trim.mono _ _)
      | (with_reducible exact LeO.refl _)
      | (with_reducible exact LeO.none _)
      | (with_reducible refine LeO.ite ?_ ?_)
      | (with_reducible refine LeO.bind ?_ (fun _ => ?_))
      | exact ih0 _ _
      | exact nat_short.mono _ _ _
      | exact nat_trim.mono _ _
      | exact LeO.none _
      | refine LeO.ite ?_ ?_
      | refine LeO.bind ?_ (fun _ => ?_)
set_option maxHeartbeats 8000000 in
set_option maxRecDepth 100000 in
theorem nat_Text.calls (k : Nat) (A0 : Option Addr) (c0 : Nat) (l0 : List Int) (r : ByteArray) (w : World) (hr0 : Kd.C (Kd.int .u64) w A0 l0.length l0) (hc0 : l0.length ≤ c0) (h : nat_Text.f k l0 = some r) (htab : Fmt.Tab10 w := by exact Fmt.Tab10.below HTAB.out (by repeat (first | (with_reducible first | exact HB.out | apply below_alloc | apply pw_below_drewN | apply below_drew1) | exact HB.out))) :
    Calls Tryz.prog 20 #[.slice A0 l0.length c0] w fun e w' => e = .returned (.string r) ∧ Below w.heap.size w w' := by
  have HTAB := Aside0.mk htab
  clear htab
  have HR0 := Aside0.mk hr0
  have HC0 := Aside0.mk hc0
  clear hr0 hc0
  have HB := Aside0.mk (Below.refl w.heap.size w)
  have H : ((nat_trim.f k l0).bind fun t216 => (nat_Text.l0 k t216 ([] : List ByteArray))) = some r := h
  clear h
  replace H := Option.bind_eq_some_iff.mp H
  obtain ⟨t216, A20, H⟩ := H
  replace H : (nat_Text.l0 k t216 ([] : List ByteArray)) = some r := H
  have A2 := Aside0.mk A20
  clear A20
  have H' := Aside0.mk H
  clear H
  go_enter Tryz.func20, Tryz.ntmps20
  go_wp2_with (first | ((with_reducible refine gate_callee (f := 54) rfl ?_); refine goesL_ (some 9) rfl rfl Tryz.func54 (by kernel_rfl) rfl #[.slice A0 l0.length c0] rfl (by (try simp only [List.map_toArray, List.map_cons, List.map_nil]); first | done | rfl | (simp only [fmt_wrap A6.out]; done) | (simp only [fmt_wrap A6.out]; rfl) | (simp only [List.length_drop, List.length_take]; rfl)) ?_; (with_reducible refine (nat_trim.calls k (fun k_ => k_ < w.heap.size) _ _ l0 t216 _ ?side1 A2.out).mono ?_); (case side1 => exact Kd.V_mk HC0.out (Kd.F_below (Kd.C_F (Kd.heap_int .u64) HR0.out) (by repeat (first | (with_reducible first | exact HB.out | apply below_alloc | apply pw_below_drewN | apply below_drew1) | exact HB.out)))); rintro e w3 ⟨v217, rfl, ho0, hb⟩; refine ⟨_, rfl, ?_⟩; have n0_ := Aside0.mk (Kd.V_lower (Kd.V_mono (ok' := fun k_ => True) ho0 (fun k_ hk_ => trivial)) (below_size (by repeat (first | (with_reducible first | exact HB.out | apply below_alloc | apply pw_below_drewN | apply below_drew1) | exact HB.out)))); have n1_ := Aside0.mk (below_step (by repeat (first | (with_reducible first | exact HB.out | apply below_alloc | apply pw_below_drewN | apply below_drew1) | exact HB.out)) hb); clear HB; have HO218 := n0_; have HB := n1_; clear n0_ n1_; (try clear hb); (try clear hb2); (try clear hk); (try clear hi); (try clear ho0)))
  go_loopg [0, 3] k (fun kq v0 v3 w' => ∃ (x0_1 : List Int) (x3_1 : List ByteArray), Aside0 (nat_Text.l0 kq x0_1 x3_1 = some r) ∧ Aside0 (kq ≤ k) ∧ Aside0 (Kd.V (Kd.int .u64) 48 w' w.heap.size (fun k_ => some k_ ≠ (v3 : Value).ownBlock) v0 x0_1) ∧ Aside0 (Kd.R Kd.string 9 w' w.heap.size (fun _ => True) v3 x3_1) ∧ Aside0 (Below w.heap.size w w'))
  case atStart => exact ⟨(t216), (([] : List ByteArray)), H', ⟨Nat.le_refl _⟩, ⟨by (with_reducible repeat (first | apply Kd.V_alloc | apply Kd.V_drewN | apply Kd.V_drew)); exact Kd.V_mono HO218.out (fun _ hk => (by simp [Value.ownBlock]))⟩, ⟨by first | exact Kd.R_nil _ _ _ _ _ | exact Kd.N_nil _ _ _ _ _ | exact Kd.V_nil _ _ _ _ _ | exact Kd.Q_nil _ _ _ _ _ | exact Kd.S_nil _ _ _ _ _⟩, ⟨by repeat (first | (with_reducible first | exact HB.out | apply below_alloc | apply pw_below_drewN | apply below_drew1) | exact HB.out)⟩⟩
  case round =>
    clear H'
    try clear c2
    try clear p2
    obtain ⟨x0_1, x3_1, HA, HK1, HO_0, HO_3, HB⟩ := hrel
    cases gk with
    | zero => exact absurd HA.out (by simp [nat_Text.l0])
    | succ k1 =>
      have H := HA.out
      clear HA
      simp only [nat_Text.l0] at H
      by_cases c4 : (x0_1.length : Int) > 0
      · rw [if_pos c4] at H
        have c4b0 : decide (0 < (x0_1.length : Int)) = true := decide_eq_true c4
        have c4b1 : decide (0 < x0_1.length) = true := decide_eq_true (by omega)
        clear c4
        replace H := Option.bind_eq_some_iff.mp H
        obtain ⟨⟨t219, t222⟩, A50, H⟩ := H
        replace H : ((strconv_FormatUint.f t222 10).bind fun t223 => (if (t219.length : Int) > 0 then ((strings_Repeat.f (⟨#[48]⟩ : ByteArray) (wrap64 (19 - (t223.size : Int)))).bind fun t224 => (if t224.size + t223.size ≤ 9223372036854775807 then (if x3_1.length < 8796093022208 then (nat_Text.l0 k1 t219 (x3_1 ++ [t224 ++ t223])) else (none)) else (none))) else (if x3_1.length < 8796093022208 then (nat_Text.l0 k1 t219 (x3_1 ++ [t223])) else (none)))) = some r := H
        have A5 := Aside0.mk A50
        clear A50
        replace H := Option.bind_eq_some_iff.mp H
        obtain ⟨t223, A60, H⟩ := H
        replace H : (if (t219.length : Int) > 0 then ((strings_Repeat.f (⟨#[48]⟩ : ByteArray) (wrap64 (19 - (t223.size : Int)))).bind fun t224 => (if t224.size + t223.size ≤ 9223372036854775807 then (if x3_1.length < 8796093022208 then (nat_Text.l0 k1 t219 (x3_1 ++ [t224 ++ t223])) else (none)) else (none))) else (if x3_1.length < 8796093022208 then (nat_Text.l0 k1 t219 (x3_1 ++ [t223])) else (none))) = some r := H
        have A6 := Aside0.mk A60
        clear A60
        by_cases c7 : (t219.length : Int) > 0
        · rw [if_pos c7] at H
          have c7b0 : decide (0 < (t219.length : Int)) = true := decide_eq_true c7
          have c7b1 : decide (0 < t219.length) = true := decide_eq_true (by omega)
          clear c7
          replace H := Option.bind_eq_some_iff.mp H
          obtain ⟨t224, A80, H⟩ := H
          replace H : (if t224.size + t223.size ≤ 9223372036854775807 then (if x3_1.length < 8796093022208 then (nat_Text.l0 k1 t219 (x3_1 ++ [t224 ++ t223])) else (none)) else (none)) = some r := H
          have A8 := Aside0.mk A80
          clear A80
          by_cases c9 : t224.size + t223.size ≤ 9223372036854775807
          · rw [if_pos c9] at H
            have c9b0 := eq_true c9
            have c9b1 : decide (t224.size + t223.size ≤ 9223372036854775807) = true := decide_eq_true c9
            try have c9b2 : (9223372036854775807 < t224.size + t223.size) = False := eq_false (Nat.not_lt.2 c9)
            by_cases c10 : x3_1.length < 8796093022208
            · rw [if_pos c10] at H
              have LMc10 := Aside0.mk c10
              clear c10
              obtain ⟨y225, hy225⟩ : ∃ y_ : List ByteArray, y_ = (x3_1 ++ [t224 ++ t223]) := ⟨_, rfl⟩
              replace H : (nat_Text.l0 k1 t219 y225) = some r := by first | (rw [hy225]; with_reducible exact H) | (have H2_ := (Option.bind_some _ _).symm.trans H; rw [hy225]; with_reducible exact H2_) | (have H2_ := (Option.bind_some _ _).symm.trans H; with_reducible exact H2_) | with_reducible exact H | (rw [hy225]; exact H) | exact H
              have Ny225 := Aside0.mk hy225
              clear hy225
              have H' := Aside0.mk H
              clear H
              obtain ⟨Ao11, co11, eo11⟩ := Kd.V_slice HO_0.out
              subst eo11
              go_wp2_with (first | ((with_reducible refine gate_callee (f := 57) rfl ?_); refine goesL_ (some 15) rfl rfl Tryz.func57 (by kernel_rfl) rfl #[.slice Ao11 x0_1.length co11, .int .u64 10000000000000000000] rfl (by (try simp only [List.map_toArray, List.map_cons, List.map_nil]); first | done | rfl | (simp only [fmt_wrap A6.out]; done) | (simp only [fmt_wrap A6.out]; rfl) | (simp only [List.length_drop, List.length_take]; rfl)) ?_; (with_reducible refine (nat_short.calls k1 _ _ x0_1 10000000000000000000 t219 t222 _ ?side1 ?side2 A5.out).mono ?_); (case side1 => repeat (first | exact (Kd.V_reads' HO_0.out).2.2 | (with_reducible refine Kd.C_alloc ?_ _) | (with_reducible refine Kd.C_drewN ?_ _) | (with_reducible refine Kd.C_drew ?_))); (case side2 => exact (Kd.V_reads' HO_0.out).2.1); rintro e w12 ⟨v220, rfl, ho0, hb⟩; refine ⟨_, rfl, ?_⟩; have n0_ := Aside0.mk (Kd.V_below (by (with_reducible repeat (first | apply Kd.V_alloc | apply Kd.V_drewN | apply Kd.V_drew)); exact HO_0.out) hb); have n1_ := Aside0.mk (Kd.R_below (by (with_reducible repeat (first | apply Kd.R_alloc | apply Kd.R_drewN | apply Kd.R_drew)); exact HO_3.out) hb); have n2_ := Aside0.mk (Kd.V_lower (Kd.V_mono (ok' := fun k_ => some k_ ≠ (u3 : Value).ownBlock) ho0 (fun k_ hk_ => (Kd.fresh' (Kd.R_lt (by (with_reducible repeat (first | apply Kd.R_alloc | apply Kd.R_drewN | apply Kd.R_drew)); exact HO_3.out)) k_ hk_))) (below_size (by repeat (first | (with_reducible first | exact HB.out | apply below_alloc | apply pw_below_drewN | apply below_drew1) | exact HB.out)))); have n3_ := Aside0.mk (below_step (by repeat (first | (with_reducible first | exact HB.out | apply below_alloc | apply pw_below_drewN | apply below_drew1) | exact HB.out)) hb); clear HO_0; clear HO_3; clear HB; have HO_0 := n0_; have HO_3 := n1_; have HO221 := n2_; have HB := n3_; clear n0_ n1_ n2_ n3_; (try clear hb); (try clear hb2); (try clear hk); (try clear hi); (try clear ho0)) | ((with_reducible refine gate_callee (f := 58) rfl ?_); refine goesL_ (some 19) rfl rfl Tryz.func58 (by kernel_rfl) rfl #[.int .u64 t222, .int .i64 10] rfl (by (try simp only [List.map_toArray, List.map_cons, List.map_nil]); first | done | rfl | (simp only [fmt_wrap A6.out]; done) | (simp only [fmt_wrap A6.out]; rfl) | (simp only [List.length_drop, List.length_take]; rfl)) ?_; (with_reducible refine (strconv_FormatUint.calls t222 10 t223 _ A6.out).mono ?_); rintro e w13 ⟨rfl, hb⟩; refine ⟨_, rfl, ?_⟩; have n0_ := Aside0.mk (Kd.V_below (by (with_reducible repeat (first | apply Kd.V_alloc | apply Kd.V_drewN | apply Kd.V_drew)); exact HO_0.out) hb); have n1_ := Aside0.mk (Kd.R_below (by (with_reducible repeat (first | apply Kd.R_alloc | apply Kd.R_drewN | apply Kd.R_drew)); exact HO_3.out) hb); have n2_ := Aside0.mk (Kd.V_below (by (with_reducible repeat (first | apply Kd.V_alloc | apply Kd.V_drewN | apply Kd.V_drew)); exact HO221.out) hb); have n3_ := Aside0.mk (below_step (by repeat (first | (with_reducible first | exact HB.out | apply below_alloc | apply pw_below_drewN | apply below_drew1) | exact HB.out)) hb); clear HO_0; clear HO_3; clear HO221; clear HB; have HO_0 := n0_; have HO_3 := n1_; have HO221 := n2_; have HB := n3_; clear n0_ n1_ n2_ n3_; (try clear hb); (try clear hb2); (try clear hk); (try clear hi); obtain ⟨Ao14, co14, eo14⟩ := Kd.V_slice HO221.out; subst eo14) | ((with_reducible refine gate_callee (f := 49) rfl ?_); refine goesL_ (some 26) rfl rfl Tryz.func49 (by kernel_rfl) rfl #[.string (⟨#[48]⟩ : ByteArray), .int .i64 (wrap64 (19 - (t223.size : Int)))] rfl (by (try simp only [List.map_toArray, List.map_cons, List.map_nil]); first | done | rfl | (simp only [fmt_wrap A6.out]; done) | (simp only [fmt_wrap A6.out]; rfl) | (simp only [List.length_drop, List.length_take]; rfl)) ?_; (with_reducible refine (strings_Repeat.calls (⟨#[48]⟩ : ByteArray) (wrap64 (19 - (t223.size : Int))) t224 _ A8.out).mono ?_); rintro e w15 ⟨rfl, hb⟩; refine ⟨_, rfl, ?_⟩; have n0_ := Aside0.mk (Kd.V_below (by (with_reducible repeat (first | apply Kd.V_alloc | apply Kd.V_drewN | apply Kd.V_drew)); exact HO_0.out) hb); have n1_ := Aside0.mk (Kd.R_below (by (with_reducible repeat (first | apply Kd.R_alloc | apply Kd.R_drewN | apply Kd.R_drew)); exact HO_3.out) hb); have n2_ := Aside0.mk (Kd.V_below (by (with_reducible repeat (first | apply Kd.V_alloc | apply Kd.V_drewN | apply Kd.V_drew)); exact HO221.out) hb); have n3_ := Aside0.mk (below_step (by repeat (first | (with_reducible first | exact HB.out | apply below_alloc | apply pw_below_drewN | apply below_drew1) | exact HB.out)) hb); clear HO_0; clear HO_3; clear HO221; clear HB; have HO_0 := n0_; have HO_3 := n1_; have HO221 := n2_; have HB := n3_; clear n0_ n1_ n2_ n3_; (try clear hb); (try clear hb2); (try clear hk); (try clear hi)) | ((with_reducible refine gate_builtin (b := .append) (xs := #[.tmp 29, .tmp 31]) rfl ?_); at_builtin; refine Kd.R_append Kd.string (w0 := w) w.heap.size rfl (.tmp 29) (.tmp 31) 94 9 (.string ⟨#[]⟩) 16 rfl Tryz.underlying94 infoStr rfl (by decide) (by omega) u3 x3_1 (t224 ++ t223) [.string (t224 ++ t223)] (fun _ => True) (fun _ => False) rfl rfl ?aP (fun _ hk => hk.elim) ?aF ?aO ?aB ?aS ?aL ?_; (case aP => exact rfl); (case aB => exact (by repeat (first | (with_reducible first | exact HB.out | apply below_alloc | apply pw_below_drewN | apply below_drew1) | exact HB.out))); (case aF => exact (fun _ _ => trivial)); (case aO => exact (by (with_reducible repeat (first | apply Kd.R_alloc | apply Kd.R_drewN | apply Kd.R_drew)); exact HO_3.out)); (case aS => exact (below_size (by repeat (first | (with_reducible first | exact HB.out | apply below_alloc | apply pw_below_drewN | apply below_drew1) | exact HB.out)))); (case aL => have := LMc10.out; omega); intro v226 w16 ho hb hg hat; rw [← Ny225.out] at ho; have n0_ := Aside0.mk (Kd.V_afterv (ok := (fun _ => True)) (by (with_reducible repeat (first | apply Kd.V_alloc | apply Kd.V_drewN | apply Kd.V_drew)); exact Kd.V_mono HO_0.out (fun _ hk => ⟨trivial, hk⟩)) hg hat); have n1_ := Aside0.mk (Kd.V_afterv (ok := (fun _ => True)) (by (with_reducible repeat (first | apply Kd.V_alloc | apply Kd.V_drewN | apply Kd.V_drew)); exact Kd.V_mono HO221.out (fun _ hk => ⟨trivial, hk⟩)) hg hat); have n2_ := Aside0.mk (hb); have n3_ := Aside0.mk (ho); clear HO_0; clear HO221; clear HB; clear HO_3; have HO_0 := n0_; have HO221 := n1_; have HB := n2_; have HO227 := n3_; clear n0_ n1_ n2_ n3_; clear ho hb hg hat))
              go_roundg k1
              case measure => have := HK1.out; omega
              case rel => exact ⟨(t219), (y225), H', ⟨by have := HK1.out; omega⟩, ⟨by (with_reducible repeat (first | apply Kd.V_alloc | apply Kd.V_drewN | apply Kd.V_drew)); exact Kd.V_mono HO221.out (fun _ hk => hk.2)⟩, ⟨by (with_reducible repeat (first | apply Kd.R_alloc | apply Kd.R_drewN | apply Kd.R_drew)); exact HO227.out⟩, ⟨by repeat (first | (with_reducible first | exact HB.out | apply below_alloc | apply pw_below_drewN | apply below_drew1) | exact HB.out)⟩⟩
            · rw [if_neg c10] at H
              exact absurd H (by simp)
          · rw [if_neg c9] at H
            exact absurd H (by simp)
        · rw [if_neg c7] at H
          have c7b0 : decide (0 < (t219.length : Int)) = false := decide_eq_false c7
          have c7b1 : decide (0 < t219.length) = false := decide_eq_false (by omega)
          clear c7
          by_cases c17 : x3_1.length < 8796093022208
          · rw [if_pos c17] at H
            have LMc17 := Aside0.mk c17
            clear c17
            obtain ⟨y228, hy228⟩ : ∃ y_ : List ByteArray, y_ = (x3_1 ++ [t223]) := ⟨_, rfl⟩
            replace H : (nat_Text.l0 k1 t219 y228) = some r := by first | (rw [hy228]; with_reducible exact H) | (have H2_ := (Option.bind_some _ _).symm.trans H; rw [hy228]; with_reducible exact H2_) | (have H2_ := (Option.bind_some _ _).symm.trans H; with_reducible exact H2_) | with_reducible exact H | (rw [hy228]; exact H) | exact H
            have Ny228 := Aside0.mk hy228
            clear hy228
            have H' := Aside0.mk H
            clear H
            obtain ⟨Ao18, co18, eo18⟩ := Kd.V_slice HO_0.out
            subst eo18
            go_wp2_with (first | ((with_reducible refine gate_callee (f := 57) rfl ?_); refine goesL_ (some 15) rfl rfl Tryz.func57 (by kernel_rfl) rfl #[.slice Ao18 x0_1.length co18, .int .u64 10000000000000000000] rfl (by (try simp only [List.map_toArray, List.map_cons, List.map_nil]); first | done | rfl | (simp only [fmt_wrap A6.out]; done) | (simp only [fmt_wrap A6.out]; rfl) | (simp only [List.length_drop, List.length_take]; rfl)) ?_; (with_reducible refine (nat_short.calls k1 _ _ x0_1 10000000000000000000 t219 t222 _ ?side1 ?side2 A5.out).mono ?_); (case side1 => repeat (first | exact (Kd.V_reads' HO_0.out).2.2 | (with_reducible refine Kd.C_alloc ?_ _) | (with_reducible refine Kd.C_drewN ?_ _) | (with_reducible refine Kd.C_drew ?_))); (case side2 => exact (Kd.V_reads' HO_0.out).2.1); rintro e w19 ⟨v220, rfl, ho0, hb⟩; refine ⟨_, rfl, ?_⟩; have n0_ := Aside0.mk (Kd.V_below (by (with_reducible repeat (first | apply Kd.V_alloc | apply Kd.V_drewN | apply Kd.V_drew)); exact HO_0.out) hb); have n1_ := Aside0.mk (Kd.R_below (by (with_reducible repeat (first | apply Kd.R_alloc | apply Kd.R_drewN | apply Kd.R_drew)); exact HO_3.out) hb); have n2_ := Aside0.mk (Kd.V_lower (Kd.V_mono (ok' := fun k_ => some k_ ≠ (u3 : Value).ownBlock) ho0 (fun k_ hk_ => (Kd.fresh' (Kd.R_lt (by (with_reducible repeat (first | apply Kd.R_alloc | apply Kd.R_drewN | apply Kd.R_drew)); exact HO_3.out)) k_ hk_))) (below_size (by repeat (first | (with_reducible first | exact HB.out | apply below_alloc | apply pw_below_drewN | apply below_drew1) | exact HB.out)))); have n3_ := Aside0.mk (below_step (by repeat (first | (with_reducible first | exact HB.out | apply below_alloc | apply pw_below_drewN | apply below_drew1) | exact HB.out)) hb); clear HO_0; clear HO_3; clear HB; have HO_0 := n0_; have HO_3 := n1_; have HO221 := n2_; have HB := n3_; clear n0_ n1_ n2_ n3_; (try clear hb); (try clear hb2); (try clear hk); (try clear hi); (try clear ho0)) | ((with_reducible refine gate_callee (f := 58) rfl ?_); refine goesL_ (some 19) rfl rfl Tryz.func58 (by kernel_rfl) rfl #[.int .u64 t222, .int .i64 10] rfl (by (try simp only [List.map_toArray, List.map_cons, List.map_nil]); first | done | rfl | (simp only [fmt_wrap A6.out]; done) | (simp only [fmt_wrap A6.out]; rfl) | (simp only [List.length_drop, List.length_take]; rfl)) ?_; (with_reducible refine (strconv_FormatUint.calls t222 10 t223 _ A6.out).mono ?_); rintro e w20 ⟨rfl, hb⟩; refine ⟨_, rfl, ?_⟩; have n0_ := Aside0.mk (Kd.V_below (by (with_reducible repeat (first | apply Kd.V_alloc | apply Kd.V_drewN | apply Kd.V_drew)); exact HO_0.out) hb); have n1_ := Aside0.mk (Kd.R_below (by (with_reducible repeat (first | apply Kd.R_alloc | apply Kd.R_drewN | apply Kd.R_drew)); exact HO_3.out) hb); have n2_ := Aside0.mk (Kd.V_below (by (with_reducible repeat (first | apply Kd.V_alloc | apply Kd.V_drewN | apply Kd.V_drew)); exact HO221.out) hb); have n3_ := Aside0.mk (below_step (by repeat (first | (with_reducible first | exact HB.out | apply below_alloc | apply pw_below_drewN | apply below_drew1) | exact HB.out)) hb); clear HO_0; clear HO_3; clear HO221; clear HB; have HO_0 := n0_; have HO_3 := n1_; have HO221 := n2_; have HB := n3_; clear n0_ n1_ n2_ n3_; (try clear hb); (try clear hb2); (try clear hk); (try clear hi); obtain ⟨Ao21, co21, eo21⟩ := Kd.V_slice HO221.out; subst eo21) | ((with_reducible refine gate_builtin (b := .append) (xs := #[.tmp 29, .tmp 31]) rfl ?_); at_builtin; refine Kd.R_append Kd.string (w0 := w) w.heap.size rfl (.tmp 29) (.tmp 31) 94 9 (.string ⟨#[]⟩) 16 rfl Tryz.underlying94 infoStr rfl (by decide) (by omega) u3 x3_1 t223 [.string t223] (fun _ => True) (fun _ => False) rfl rfl ?aP (fun _ hk => hk.elim) ?aF ?aO ?aB ?aS ?aL ?_; (case aP => exact rfl); (case aB => exact (by repeat (first | (with_reducible first | exact HB.out | apply below_alloc | apply pw_below_drewN | apply below_drew1) | exact HB.out))); (case aF => exact (fun _ _ => trivial)); (case aO => exact (by (with_reducible repeat (first | apply Kd.R_alloc | apply Kd.R_drewN | apply Kd.R_drew)); exact HO_3.out)); (case aS => exact (below_size (by repeat (first | (with_reducible first | exact HB.out | apply below_alloc | apply pw_below_drewN | apply below_drew1) | exact HB.out)))); (case aL => have := LMc17.out; omega); intro v229 w22 ho hb hg hat; rw [← Ny228.out] at ho; have n0_ := Aside0.mk (Kd.V_afterv (ok := (fun _ => True)) (by (with_reducible repeat (first | apply Kd.V_alloc | apply Kd.V_drewN | apply Kd.V_drew)); exact Kd.V_mono HO_0.out (fun _ hk => ⟨trivial, hk⟩)) hg hat); have n1_ := Aside0.mk (Kd.V_afterv (ok := (fun _ => True)) (by (with_reducible repeat (first | apply Kd.V_alloc | apply Kd.V_drewN | apply Kd.V_drew)); exact Kd.V_mono HO221.out (fun _ hk => ⟨trivial, hk⟩)) hg hat); have n2_ := Aside0.mk (hb); have n3_ := Aside0.mk (ho); clear HO_0; clear HO221; clear HB; clear HO_3; have HO_0 := n0_; have HO221 := n1_; have HB := n2_; have HO230 := n3_; clear n0_ n1_ n2_ n3_; clear ho hb hg hat))
            go_roundg k1
            case measure => have := HK1.out; omega
            case rel => exact ⟨(t219), (y228), H', ⟨by have := HK1.out; omega⟩, ⟨by (with_reducible repeat (first | apply Kd.V_alloc | apply Kd.V_drewN | apply Kd.V_drew)); exact Kd.V_mono HO221.out (fun _ hk => hk.2)⟩, ⟨by (with_reducible repeat (first | apply Kd.R_alloc | apply Kd.R_drewN | apply Kd.R_drew)); exact HO230.out⟩, ⟨by repeat (first | (with_reducible first | exact HB.out | apply below_alloc | apply pw_below_drewN | apply below_drew1) | exact HB.out)⟩⟩
          · rw [if_neg c17] at H
            exact absurd H (by simp)
      · rw [if_neg c4] at H
        have c4b0 : decide (0 < (x0_1.length : Int)) = false := decide_eq_false c4
        have c4b1 : decide (0 < x0_1.length) = false := decide_eq_false (by omega)
        clear c4
        by_cases c23 : (x3_1.length : Int) = 0
        · rw [if_pos c23] at H
          have c23b0 : ((x3_1.length : Int) == 0) = true := beq_iff_eq.mpr c23
          have c23b1 : ((x3_1.length : Int) != 0) = false := bne_eq_false_iff_eq.mpr c23
          clear c23
          obtain rfl := Option.some.inj H
          obtain ⟨Ao24, co24, eo24⟩ := Kd.V_slice HO_0.out
          subst eo24
          obtain ⟨Ao25, co25, eo25⟩ := Kd.R_slice HO_3.out
          subst eo25
          go_wp2
          go_ret
          exact ⟨by first | rfl | (simp [errW_none, errW_some] <;> rfl) | (simp [*, errW_none, errW_some] <;> rfl), by repeat (first | (with_reducible first | exact HB.out | apply below_alloc | apply pw_below_drewN | apply below_drew1) | exact HB.out)⟩
        · rw [if_neg c23] at H
          have c23b0 : ((x3_1.length : Int) == 0) = false := beq_eq_false_iff_ne.mpr c23
          have c23b1 : ((x3_1.length : Int) != 0) = true := bne_iff_ne.mpr c23
          have c23b2 : ¬ (x3_1 = []) := fun h_ => c23 (by rw [h_]; rfl)
          by_cases c24 : (catL x3_1).length ≤ 140737488355328
          case neg => rw [if_neg c24] at H; exact absurd H (by simp)
          rw [if_pos c24] at H
          obtain rfl := Option.some.inj H
          obtain ⟨Ao26, co26, eo26⟩ := Kd.V_slice HO_0.out
          subst eo26
          obtain ⟨Ao27, co27, eo27⟩ := Kd.R_slice HO_3.out
          subst eo27
          obtain ⟨W0, rfl⟩ : ∃ W0, W0 = wr := ⟨_, rfl⟩
          have HPC := Aside0.mk (Kd.R_reads' HO_3.out).2.2
          have hpos : 1 ≤ x3_1.length := by omega
          have hmax : x3_1.length ≤ 9223372036854775807 := text_short HPC.out
          have HCL := Aside0.mk c24
          have HNE := Aside0.mk c23b2
          have HBN := Aside0.mk (builder_new W0)
          have HBW := Aside0.mk (Below.alloc (Below.refl W0.heap.size W0) (Nat.le_refl _) (.cells #[.pointer none, .slice none 0 0] 82))
          clear c24 H c23 c23b2
          go_wp2
          go_loopw [7] (fun i w' => ∃ (v : Int), -1 ≤ v ∧ v < (x3_1.length : Int) ∧ i = .int .i64 v ∧ Aside0 (Lib.IsBuilderF 82 5 W0.heap.size W0.heap.size (Lib.byteCells (catL (x3_1.drop (v + 1).toNat))) w') ∧ Aside0 (Below W0.heap.size W0 w')) (fun i _ => (intOf i + 1).toNat)
          case atStart => exact ⟨(x3_1.length : Int) - 1, by omega, by omega, (by first | rfl | (rw [text_wrap hpos hmax])), ⟨by rw [text_all]; exact HBN.out⟩, ⟨HBW.out⟩⟩
          case round =>
            obtain ⟨v, hv0, hv1, rfl, HBJ, HWJ⟩ := hrel
            clear HBN HBW
            by_cases h0 : 0 ≤ v
            · have hd : decide (0 ≤ v) = true := decide_eq_true h0
              have hp := eq_true h0
              have hq := eq_true hv1
              obtain ⟨ad, e, hx⟩ := Kd.at_string (Kd.C_below HPC.out HWJ.out) v h0 hv1
              cases e
              have HS := Aside0.mk (text_next HCL.out h0 hv1)
              have HSZ := Aside0.mk HWJ.out.size
              go_wp2_with (go_at_call 48; refine (builder_write W0.heap.size W0.heap.size (catL (x3_1.drop (v + 1).toNat)) _ _ HBJ.out HS.out.1 HSZ.out).mono ?_; rintro e w1 ⟨rfl, h1, h2⟩)
              go_roundw
              case rel => exact ⟨v - 1, by omega, by omega, (by first | rfl | (rw [text_wrap1 h0 hv1 hmax])), ⟨by rw [HS.out.2]; exact h1⟩, ⟨HWJ.out.trans h2⟩⟩
              case measure => simp [intOf]; omega
            · have hd : decide (0 ≤ v) = false := decide_eq_false h0
              have hz : v + 1 = 0 := by omega
              have HZ := Aside0.mk hz
              have HSZ := Aside0.mk HWJ.out.size
              clear hz
              go_wp2_with (go_at_call 51; refine (Tryz.Builder_String_any_f W0.heap.size W0.heap.size (catL (x3_1.drop (v + 1).toNat)) _ HBJ.out HSZ.out).mono ?_; rintro e w1 ⟨rfl, h1, h2⟩)
              go_ret
              exact ⟨by rw [HZ.out]; rfl, below_step HB.out (HWJ.out.trans h2)⟩
end Go.Proofs.YthhkmpicpihjlaaGreatDoor.PNat
