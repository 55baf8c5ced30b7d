/- nat.less and nat.back over a window of a row of the caller's own: turned from what this session's printer prints of them. -/
import Derived.Test.YthgmkigfgcejgaaDoorQDBPNatx1
import Derived.Test.YthgmkigfgcejgaaDoorQDBMW
namespace Go.Proofs.YthgmkigfgcejgaaDoor.PNat
open Go.RowKit Go.Proofs.YthgmkigfgcejgaaDoorW.PrintWords Go.Proofs.YthgmkigfgcejgaaDoorW.PrintLast Go.Proofs.YthgmkigfgcejgaaDoorW.PrintMore
open Go.Proofs.YthgmkigfgcejgaaDoor.M
attribute [local go_sem] runx_add64 runx_sub64 eql_cc eql_nc neq_cc neq_nc
attribute [local go_sem] max2_int min2_int max_two min_two max_three min_three max_four min_four   -- for this text's walks alone
set_option linter.unusedVariables false
set_option linter.unusedSimpArgs false
open Go.Proofs.YthgmkigfgcejgaaDoor.M
def nat_less.l0 : Nat → List Int → List Int → Int → Int → Int → List Int → Int → Int → Option (Bool × List Int)
  | 0, _, _, _, _, _, _, _, _ => none
  | k + 1, x0, x1, x2, x7, x8, x12, x13, x14 => if x14 < x13 then (if 0 ≤ x14 then (if x14 < (x12.length : Int) then ((nat_fused.f (rd x12 x14) x2 x8 0).bind fun bt360 => (if x14 < (x0.length : Int) then (if x7 ≤ 1 then (nat_less.l0 k (x0.set (x14 : Int).toNat (sub64Lo (rd x0 x14) bt360.1 x7)) x1 x2 (sub64Hi (rd x0 x14) bt360.1 x7) bt360.2 x12 x13 (wrap64 (x14 + 1))) else (none)) else (none))) else (none)) else (none)) else (if 0 ≤ (x1.length : Int) then (if (x1.length : Int) < (x0.length : Int) then (if x7 ≤ 1 then (some (decide ((sub64Hi (rd x0 (x1.length : Int)) x8 x7) > 0), (x0.set ((x1.length : Int) : Int).toNat (sub64Lo (rd x0 (x1.length : Int)) x8 x7)))) else (none)) else (none)) else (none))
def nat_less.f (k : Nat) (l0 : List Int) (l1 : List Int) (a2 : Int) : Option (Bool × List Int) := nat_less.l0 k l0 l1 a2 0 0 l1 (l1.length : Int) 0
set_option maxHeartbeats 8000000 in
set_option maxRecDepth 100000 in
theorem nat_less.calls (k : Nat) (P0_ : Nat → Prop) (u9000_ : Value) (l0 : List Int) (pre post : List Int) (A1 : Option Addr) (c1 : Nat) (l1 : List Int) (a2 : Int) (r1 : Bool) (r2 : List Int) (w0 w : World) (hB : Below w0.heap.size w0 w) (ho0 : Wd pre post 42 w w0.heap.size P0_ u9000_ l0) (hr1 : ∀ W_, Kept w W_ (fun k_ => P0_ k_) → Kd.C (Kd.int .u64) W_ A1 l1.length l1) (hc1 : l1.length ≤ c1) (h : nat_less.f k l0 l1 a2 = some (r1, r2)) :
    Calls Tryd.prog 81 #[u9000_, .slice A1 l1.length c1, .int .u64 a2] w fun e w' => e = .returned (.bool r1) ∧ Wd pre post 42 w' w0.heap.size (fun k_ => (P0_ k_ ∨ w.heap.size ≤ k_)) u9000_ r2 ∧ Below w0.heap.size w0 w' ∧ Kept w w' (fun k_ => P0_ k_) := by
  have HO0 := Aside0.mk (show Wd pre post 42 w w0.heap.size (fun k_ => (P0_ k_ ∨ w.heap.size ≤ k_)) u9000_ l0 from Wd_mono ho0 (fun k_ hk => (.inl hk)))
  have HR1 := Aside0.mk hr1
  have HC1 := Aside0.mk hc1
  clear hr1 hc1
  have HK := Aside0.mk (Kept.refl w (fun k_ => P0_ k_))
  have HW0 := Aside0.mk hB.size
  have HB := Aside0.mk hB
  clear hB
  have H : (nat_less.l0 k l0 l1 a2 0 0 l1 (l1.length : Int) 0) = some (r1, r2) := h
  clear h
  have H' := Aside0.mk H
  clear H
  go_enter Tryd.func81, Tryd.ntmps81
  go_wp2
  go_loopg [7, 8, 14] k (fun kq v7 v8 v14 w' => ∃ (x0_1 : List Int) (x7_1 : Int) (x8_1 : Int) (x14_1 : Int), v7 = .int .u64 x7_1 ∧ v8 = .int .u64 x8_1 ∧ v14 = .int .i64 x14_1 ∧ Aside0 (nat_less.l0 kq x0_1 l1 a2 x7_1 x8_1 l1 (l1.length : Int) x14_1 = some (r1, r2)) ∧ Aside0 (kq ≤ k) ∧ Aside0 (Wd pre post 42 w' w0.heap.size (fun k_ => (P0_ k_ ∨ w.heap.size ≤ k_)) u9000_ x0_1) ∧ Aside0 (Kept w w' (fun k_ => P0_ k_)) ∧ Aside0 (Below w0.heap.size w0 w'))
  case atStart => exact ⟨(l0), (0), (0), (0), (by first | rfl | (simp; done) | (simp [*]; done)), (by first | rfl | (simp; done) | (simp [*]; done)), (by first | rfl | (simp; done) | (simp [*]; done)), H', ⟨Nat.le_refl _⟩, ⟨by (with_reducible repeat (first | apply Wd_alloc | apply Wd_drewN | apply Wd_drew)); exact HO0.out⟩, ⟨by repeat (first | (with_reducible first | exact HK.out | apply Kept.alloc | apply Kept.drewN | apply Kept.drew) | exact HK.out)⟩, ⟨by repeat (first | (with_reducible first | exact HB.out | apply below_alloc | apply pw_below_drewN | apply below_drew1) | exact HB.out)⟩⟩
  case round =>
    clear H'
    try clear c1
    try clear p2
    obtain ⟨x0_1, x7_1, x8_1, x14_1, rfl, rfl, rfl, HA, HK1, HO_0, HK, HB⟩ := hrel
    cases gk with
    | zero => exact absurd HA.out (by simp [nat_less.l0])
    | succ k1 =>
      have H := HA.out
      clear HA
      simp only [nat_less.l0] at H
      by_cases c4 : x14_1 < (l1.length : Int)
      · rw [if_pos c4] at H
        have c4b0 : decide (x14_1 < (l1.length : Int)) = true := decide_eq_true c4
        clear c4
        by_cases c5 : 0 ≤ x14_1
        · rw [if_pos c5] at H
          have c5b0 : decide (0 ≤ x14_1) = true := decide_eq_true c5
          clear c5
          by_cases c6 : x14_1 < (l1.length : Int)
          · rw [if_pos c6] at H
            have c6b0 : decide (x14_1 < (l1.length : Int)) = true := decide_eq_true c6
            clear c6
            replace H := Option.bind_eq_some_iff.mp H
            obtain ⟨⟨t360, t361⟩, A70, H⟩ := H
            replace H : (if x14_1 < (x0_1.length : Int) then (if x7_1 ≤ 1 then (nat_less.l0 k1 (x0_1.set (x14_1 : Int).toNat (sub64Lo (rd x0_1 x14_1) t360 x7_1)) l1 a2 (sub64Hi (rd x0_1 x14_1) t360 x7_1) t361 l1 (l1.length : Int) (wrap64 (x14_1 + 1))) else (none)) else (none)) = some (r1, r2) := H
            have A7 := Aside0.mk A70
            clear A70
            by_cases c8 : x14_1 < (x0_1.length : Int)
            · rw [if_pos c8] at H
              have c8b0 : decide (x14_1 < (x0_1.length : Int)) = true := decide_eq_true c8
              clear c8
              by_cases c9 : x7_1 ≤ 1
              · rw [if_pos c9] at H
                have c9b0 := eq_true c9
                have c9b1 : decide (x7_1 ≤ 1) = true := decide_eq_true c9
                clear c9
                obtain ⟨y363, hy363⟩ : ∃ y_ : List Int, y_ = (x0_1.set (x14_1 : Int).toNat (sub64Lo (rd x0_1 x14_1) t360 x7_1)) := ⟨_, rfl⟩
                replace H : (nat_less.l0 k1 y363 l1 a2 (sub64Hi (rd x0_1 x14_1) t360 x7_1) t361 l1 (l1.length : Int) (wrap64 (x14_1 + 1))) = some (r1, r2) := by first | (rw [hy363]; with_reducible exact H) | (have H2_ := (Option.bind_some _ _).symm.trans H; rw [hy363]; with_reducible exact H2_) | (have H2_ := (Option.bind_some _ _).symm.trans H; with_reducible exact H2_) | with_reducible exact H | (rw [hy363]; exact H) | exact H
                have Ny363 := Aside0.mk hy363
                clear hy363
                have H' := Aside0.mk H
                clear H
                have p359 : 0 ≤ (x14_1 : Int) := of_decide_eq_true (by first | (with_reducible assumption) | assumption)
                have q359 : x14_1 < (l1.length : Int) := of_decide_eq_true (by first | (with_reducible assumption) | assumption)
                obtain ⟨ad359, e359, hx359_0⟩ := Kd.at_int (Kd.C_kept_now HR1.out HK.out) x14_1 p359 q359
                cases e359
                replace p359 := eq_true p359
                replace q359 := eq_true q359
                go_wp2_with (first | ((with_reducible refine gate_callee (f := 71) rfl ?_); refine goesL_ (some 23) rfl rfl Tryd.func71 (by kernel_rfl) rfl #[.int .u64 (rd l1 x14_1), .int .u64 a2, .int .u64 x8_1, .int .u64 0] rfl (by (try simp only [List.map_toArray, List.map_cons, List.map_nil]); first | done | rfl | (simp only [List.length_drop, List.length_take]; rfl)) ?_; (with_reducible refine (nat_fused.calls (rd l1 x14_1) a2 x8_1 0 t360 t361 _ A7.out).mono ?_); rintro e w' ⟨rfl, ⟨nd, rfl⟩⟩; refine ⟨_, rfl, ?_⟩; (try (rw [drewN_self wr]; generalize hq_ : World.drewN wr _ = wr; have n0_ : Aside0 (Wd pre post 42 wr w0.heap.size (fun k_ => (P0_ k_ ∨ w.heap.size ≤ k_)) u9000_ x0_1) := ⟨by rw [← hq_]; exact (by (with_reducible repeat (first | apply Wd_alloc | apply Wd_drewN | apply Wd_drew)); exact HO_0.out)⟩; have n1_ : Aside0 (Kept w wr (fun k_ => P0_ k_)) := ⟨by rw [← hq_]; exact (by repeat (first | (with_reducible first | exact HK.out | apply Kept.alloc | apply Kept.drewN | apply Kept.drew) | exact HK.out))⟩; have n2_ : Aside0 (Below w0.heap.size w0 wr) := ⟨by rw [← hq_]; exact (by repeat (first | (with_reducible first | exact HB.out | apply below_alloc | apply pw_below_drewN | apply below_drew1) | exact HB.out))⟩; clear HO_0 HK HB hq_; have HO_0 := n0_; have HK := n1_; have HB := n2_; clear n0_ n1_ n2_)); obtain ⟨Ao11, co11, eo11⟩ := Wd_slice HO_0.out; subst eo11; have p362 : 0 ≤ (x14_1 : Int) := of_decide_eq_true (by first | (with_reducible assumption) | assumption); have q362 : x14_1 < (x0_1.length : Int) := of_decide_eq_true (by first | (with_reducible assumption) | assumption); obtain ⟨ad362, e362, hx362_0⟩ := Kd.at_int (Wd_reads' HO_0.out).2.2 x14_1 p362 q362; cases e362; replace p362 := eq_true p362; replace q362 := eq_true q362; have p10 : 0 ≤ (x14_1 : Int) := of_decide_eq_true (by first | (with_reducible assumption) | assumption); have q10 : (x14_1 : Int) < ((x0_1.length : Int) : Int) := of_decide_eq_true (by first | (with_reducible assumption) | assumption); obtain ⟨go10, co10, eo10, gb10, gl10, cl10, HG10⟩ := Wd_form HO_0.out (by omega); (first | cases eo10 | (injection eo10 with ea_ en_ ec_; (first | subst ea_ | (injection ea_ with ea_; subst ea_)); subst ec_; clear en_)); have GB10 := Aside0.mk gb10; have GG10 := Aside0.mk HG10; clear gb10 gl10 HG10; have HMgo10 := Aside0.mk (show (P0_ go10 ∨ w.heap.size ≤ go10) from (Wd_ok HO_0.out)); (first | simp only [add_plain] at hx362_0 | skip); obtain ⟨hx10_0, hf10_0⟩ := Wd_celln HO_0.out (x14_1 : Int) p10 q10; replace p10 := eq_true p10; replace q10 := eq_true q10; obtain ⟨hy12_, hz12_⟩ := Wd_celln HO_0.out (x14_1 : Int) (of_decide_eq_true (by first | (with_reducible assumption) | assumption)) (of_decide_eq_true (by first | (with_reducible assumption) | assumption)); have HP12 := Wd_putg HO_0.out (x14_1 : Int) (by have h1_ := of_eq_true p10; have h2_ := of_eq_true q10; omega) (sub64Lo (rd x0_1 x14_1) t360 x7_1)) | ((with_reducible refine gate_callee (f := 56) rfl ?_); refine goesX_ (some 35) rfl rfl #[.int .u64 (rd x0_1 x14_1), .int .u64 t360, .int .u64 x7_1] _ rfl (by (try simp only [List.map_toArray, List.map_cons, List.map_nil]); rfl) (fun w_ => runx_sub64 (rd x0_1 x14_1) t360 x7_1 (by first | decide | (with_reducible assumption) | exact of_decide_eq_true (by first | (with_reducible assumption) | assumption)) w_) ?_) | ((with_reducible refine gate_store (t := 42) (p := 38) rfl ?_); refine store_event (t := 42) (p := 38) (v := ?vo_w13) (w1 := (wr.setCell ⟨go10, pre.length + (x14_1 : Int).toNat, none⟩ (.int .u64 (sub64Lo (rd x0_1 x14_1) t360 x7_1)))) ?hg ?ho ?hn ?hr ?_; (case ho => rfl); (case hg => rfl); (case hn => rfl); (case hr => first | (go_simp; done) | (go_simp; rfl)); intro w13 hw; have hg : wr.grownBy w13 (some go10) := (by rw [hw]; exact HP12.2); have hp_ : Wd pre post 42 w13 w0.heap.size (fun k_ => (P0_ k_ ∨ w.heap.size ≤ k_)) (.slice (some ⟨go10, pre.length, none⟩) x0_1.length co11) y363 := (by rw [hw, Ny363.out]; exact HP12.1); clear HP12; have n0_ := Aside0.mk (hp_); have n1_ := Aside0.mk ((by rw [hw]; exact below_set (HB.out) GB10.out : Below w0.heap.size w0 w13)); have n2_ := Aside0.mk (Kept.of_grown (S := (fun k_ => P0_ k_)) hg (by repeat (first | (with_reducible first | exact HK.out | apply Kept.alloc | apply Kept.drewN | apply Kept.drew) | exact HK.out)) (fun k_ e_ => (by injection e_ with e_; rw [← e_]; exact Wd_ok HO_0.out))); clear HO_0; clear HB; clear HK; have HO_0 := n0_; have HB := n1_; have HK := n2_; clear n0_ n1_ n2_; clear hg hw hp_))
                go_roundg k1
                case measure => have := HK1.out; omega
                case rel => exact ⟨(y363), (sub64Hi (rd x0_1 x14_1) t360 x7_1), (t361), (wrap64 (x14_1 + 1)), (by first | rfl | (simp; done) | (simp [*]; done)), (by first | rfl | (simp; done) | (simp [*]; done)), (by first | rfl | (simp; done) | (simp [*]; done)), H', ⟨by have := HK1.out; omega⟩, ⟨by (with_reducible repeat (first | apply Wd_alloc | apply Wd_drewN | apply Wd_drew)); exact HO_0.out⟩, ⟨by repeat (first | (with_reducible first | exact HK.out | apply Kept.alloc | apply Kept.drewN | apply Kept.drew) | exact HK.out)⟩, ⟨by repeat (first | (with_reducible first | exact HB.out | apply below_alloc | apply pw_below_drewN | apply below_drew1) | exact HB.out)⟩⟩
              · rw [if_neg c9] at H
                exact absurd H (by simp)
            · rw [if_neg c8] at H
              exact absurd H (by simp)
          · rw [if_neg c6] at H
            exact absurd H (by simp)
        · rw [if_neg c5] at H
          exact absurd H (by simp)
      · rw [if_neg c4] at H
        have c4b0 : decide (x14_1 < (l1.length : Int)) = false := decide_eq_false c4
        clear c4
        by_cases c14 : 0 ≤ (l1.length : Int)
        · rw [if_pos c14] at H
          have c14b0 : decide (0 ≤ (l1.length : Int)) = true := decide_eq_true c14
          have c14b1 : decide (0 ≤ l1.length) = true := decide_eq_true (by omega)
          clear c14
          by_cases c15 : (l1.length : Int) < (x0_1.length : Int)
          · rw [if_pos c15] at H
            have c15b0 : decide ((l1.length : Int) < (x0_1.length : Int)) = true := decide_eq_true c15
            have c15b1 : decide (l1.length < x0_1.length) = true := decide_eq_true (Int.ofNat_lt.mp c15)
            clear c15
            by_cases c16 : x7_1 ≤ 1
            · rw [if_pos c16] at H
              have c16b0 := eq_true c16
              have c16b1 : decide (x7_1 ≤ 1) = true := decide_eq_true c16
              clear c16
              obtain ⟨y365, hy365⟩ : ∃ y_ : List Int, y_ = (x0_1.set ((l1.length : Int) : Int).toNat (sub64Lo (rd x0_1 (l1.length : Int)) x8_1 x7_1)) := ⟨_, rfl⟩
              replace H : (some (decide ((sub64Hi (rd x0_1 (l1.length : Int)) x8_1 x7_1) > 0), y365)) = some (r1, r2) := by first | (rw [hy365]; with_reducible exact H) | (have H2_ := (Option.bind_some _ _).symm.trans H; rw [hy365]; with_reducible exact H2_) | (have H2_ := (Option.bind_some _ _).symm.trans H; with_reducible exact H2_) | with_reducible exact H | (rw [hy365]; exact H) | exact H
              have Ny365 := Aside0.mk hy365
              clear hy365
              simp only [Option.some.injEq, Prod.mk.injEq] at H
              obtain ⟨rfl, rfl⟩ := H
              obtain ⟨Ao18, co18, eo18⟩ := Wd_slice HO_0.out
              subst eo18
              have p364 : 0 ≤ ((l1.length : Int) : Int) := of_decide_eq_true (by first | (with_reducible assumption) | assumption)
              have q364 : (l1.length : Int) < (x0_1.length : Int) := of_decide_eq_true (by first | (with_reducible assumption) | assumption)
              obtain ⟨ad364, e364, hx364_0⟩ := Kd.at_int (Wd_reads' HO_0.out).2.2 (l1.length : Int) p364 q364
              cases e364
              (try simp only [Go.IntWalk.toNatUp] at hx364_0)
              replace p364 := eq_true p364
              replace q364 := eq_true q364
              have p17 : 0 ≤ ((l1.length : Int) : Int) := of_decide_eq_true (by first | (with_reducible assumption) | assumption)
              have q17 : ((l1.length : Int) : Int) < ((x0_1.length : Int) : Int) := of_decide_eq_true (by first | (with_reducible assumption) | assumption)
              obtain ⟨go17, co17, eo17, gb17, gl17, cl17, HG17⟩ := Wd_form HO_0.out (by omega)
              (first | cases eo17 | (injection eo17 with ea_ en_ ec_; (first | subst ea_ | (injection ea_ with ea_; subst ea_)); subst ec_; clear en_))
              have GB17 := Aside0.mk gb17
              have GG17 := Aside0.mk HG17
              clear gb17 gl17 HG17
              have HMgo17 := Aside0.mk (show (P0_ go17 ∨ w.heap.size ≤ go17) from (Wd_ok HO_0.out))
              (first | simp only [add_plain] at hx364_0 | skip)
              obtain ⟨hx17_0, hf17_0⟩ := Wd_celln HO_0.out ((l1.length : Int) : Int) p17 q17
              (try simp only [Go.IntWalk.toNatUp] at hx17_0 hf17_0)
              replace p17 := eq_true p17
              replace q17 := eq_true q17
              have HP19 := Wd_putg HO_0.out ((l1.length : Int) : Int) (by have h1_ := of_eq_true p17; have h2_ := of_eq_true q17; omega) (sub64Lo (rd x0_1 (l1.length : Int)) x8_1 x7_1)
              go_wp2_with (first | ((with_reducible refine gate_callee (f := 56) rfl ?_); refine goesX_ (some 51) rfl rfl #[.int .u64 (rd x0_1 (l1.length : Int)), .int .u64 x8_1, .int .u64 x7_1] _ rfl (by (try simp only [List.map_toArray, List.map_cons, List.map_nil]); rfl) (fun w_ => runx_sub64 (rd x0_1 (l1.length : Int)) x8_1 x7_1 (by first | decide | (with_reducible assumption) | exact of_decide_eq_true (by first | (with_reducible assumption) | assumption)) w_) ?_) | ((with_reducible refine gate_store (t := 42) (p := 54) rfl ?_); refine store_event (t := 42) (p := 54) (v := ?vo_w20) (w1 := (wr.setCell ⟨go17, pre.length + ((l1.length : Int) : Int).toNat, none⟩ (.int .u64 (sub64Lo (rd x0_1 (l1.length : Int)) x8_1 x7_1)))) ?hg ?ho ?hn ?hr ?_; (case ho => rfl); (case hg => rfl); (case hn => rfl); (case hr => first | (go_simp; done) | (go_simp; rfl)); intro w20 hw; have hg : wr.grownBy w20 (some go17) := (by rw [hw]; exact HP19.2); have hp_ : Wd pre post 42 w20 w0.heap.size (fun k_ => (P0_ k_ ∨ w.heap.size ≤ k_)) (.slice (some ⟨go17, pre.length, none⟩) x0_1.length co18) y365 := (by rw [hw, Ny365.out]; exact HP19.1); clear HP19; have n0_ := Aside0.mk (hp_); have n1_ := Aside0.mk ((by rw [hw]; exact below_set (HB.out) GB17.out : Below w0.heap.size w0 w20)); have n2_ := Aside0.mk (Kept.of_grown (S := (fun k_ => P0_ k_)) hg (by repeat (first | (with_reducible first | exact HK.out | apply Kept.alloc | apply Kept.drewN | apply Kept.drew) | exact HK.out)) (fun k_ e_ => (by injection e_ with e_; rw [← e_]; exact Wd_ok HO_0.out))); clear HO_0; clear HB; clear HK; have HO_0 := n0_; have HB := n1_; have HK := n2_; clear n0_ n1_ n2_; clear hg hw hp_))
              go_ret
              exact ⟨by first | rfl | (simp [errW_none, errW_some] <;> rfl) | (simp [*, errW_none, errW_some] <;> rfl), by (with_reducible repeat (first | apply Wd_alloc | apply Wd_drewN | apply Wd_drew)); exact HO_0.out, by repeat (first | (with_reducible first | exact HB.out | apply below_alloc | apply pw_below_drewN | apply below_drew1) | exact HB.out), by repeat (first | (with_reducible first | exact HK.out | apply Kept.alloc | apply Kept.drewN | apply Kept.drew) | exact HK.out)⟩
            · rw [if_neg c16] at H
              exact absurd H (by simp)
          · rw [if_neg c15] at H
            exact absurd H (by simp)
        · rw [if_neg c14] at H
          exact absurd H (by simp)
def nat_back.l0 : Nat → List Int → List Int → Int → List Int → Int → Int → Option (Bool × List Int)
  | 0, _, _, _, _, _, _ => none
  | k + 1, x0, x1, x5, x8, x9, x10 => if x10 < x9 then (if 0 ≤ x10 then (if x10 < (x8.length : Int) then (if x10 < (x0.length : Int) then (if x5 ≤ 1 then (nat_back.l0 k (x0.set (x10 : Int).toNat (add64Lo (rd x0 x10) (rd x8 x10) x5)) x1 (add64Hi (rd x0 x10) (rd x8 x10) x5) x8 x9 (wrap64 (x10 + 1))) else (none)) else (none)) else (none)) else (none)) else (if 0 ≤ (x1.length : Int) then (if (x1.length : Int) < (x0.length : Int) then (if x5 ≤ 1 then (some (decide ((add64Hi (rd x0 (x1.length : Int)) 0 x5) > 0), (x0.set ((x1.length : Int) : Int).toNat (add64Lo (rd x0 (x1.length : Int)) 0 x5)))) else (none)) else (none)) else (none))
def nat_back.f (k : Nat) (l0 : List Int) (l1 : List Int) : Option (Bool × List Int) := nat_back.l0 k l0 l1 0 l1 (l1.length : Int) 0
set_option maxHeartbeats 8000000 in
set_option maxRecDepth 100000 in
theorem nat_back.calls (k : Nat) (P0_ : Nat → Prop) (u9000_ : Value) (l0 : List Int) (pre post : List Int) (A1 : Option Addr) (c1 : Nat) (l1 : List Int) (r1 : Bool) (r2 : List Int) (w0 w : World) (hB : Below w0.heap.size w0 w) (ho0 : Wd pre post 42 w w0.heap.size P0_ u9000_ l0) (hr1 : ∀ W_, Kept w W_ (fun k_ => P0_ k_) → Kd.C (Kd.int .u64) W_ A1 l1.length l1) (hc1 : l1.length ≤ c1) (h : nat_back.f k l0 l1 = some (r1, r2)) :
    Calls Tryd.prog 82 #[u9000_, .slice A1 l1.length c1] w fun e w' => e = .returned (.bool r1) ∧ Wd pre post 42 w' w0.heap.size (fun k_ => (P0_ k_ ∨ w.heap.size ≤ k_)) u9000_ r2 ∧ Below w0.heap.size w0 w' ∧ Kept w w' (fun k_ => P0_ k_) := by
  have HO0 := Aside0.mk (show Wd pre post 42 w w0.heap.size (fun k_ => (P0_ k_ ∨ w.heap.size ≤ k_)) u9000_ l0 from Wd_mono ho0 (fun k_ hk => (.inl hk)))
  have HR1 := Aside0.mk hr1
  have HC1 := Aside0.mk hc1
  clear hr1 hc1
  have HK := Aside0.mk (Kept.refl w (fun k_ => P0_ k_))
  have HW0 := Aside0.mk hB.size
  have HB := Aside0.mk hB
  clear hB
  have H : (nat_back.l0 k l0 l1 0 l1 (l1.length : Int) 0) = some (r1, r2) := h
  clear h
  have H' := Aside0.mk H
  clear H
  go_enter Tryd.func82, Tryd.ntmps82
  go_wp2
  go_loopg [5, 10] k (fun kq v5 v10 w' => ∃ (x0_1 : List Int) (x5_1 : Int) (x10_1 : Int), v5 = .int .u64 x5_1 ∧ v10 = .int .i64 x10_1 ∧ Aside0 (nat_back.l0 kq x0_1 l1 x5_1 l1 (l1.length : Int) x10_1 = some (r1, r2)) ∧ Aside0 (kq ≤ k) ∧ Aside0 (Wd pre post 42 w' w0.heap.size (fun k_ => (P0_ k_ ∨ w.heap.size ≤ k_)) u9000_ x0_1) ∧ Aside0 (Kept w w' (fun k_ => P0_ k_)) ∧ Aside0 (Below w0.heap.size w0 w'))
  case atStart => exact ⟨(l0), (0), (0), (by first | rfl | (simp; done) | (simp [*]; done)), (by first | rfl | (simp; done) | (simp [*]; done)), H', ⟨Nat.le_refl _⟩, ⟨by (with_reducible repeat (first | apply Wd_alloc | apply Wd_drewN | apply Wd_drew)); exact HO0.out⟩, ⟨by repeat (first | (with_reducible first | exact HK.out | apply Kept.alloc | apply Kept.drewN | apply Kept.drew) | exact HK.out)⟩, ⟨by repeat (first | (with_reducible first | exact HB.out | apply below_alloc | apply pw_below_drewN | apply below_drew1) | exact HB.out)⟩⟩
  case round =>
    clear H'
    try clear c1
    try clear p2
    obtain ⟨x0_1, x5_1, x10_1, rfl, rfl, HA, HK1, HO_0, HK, HB⟩ := hrel
    cases gk with
    | zero => exact absurd HA.out (by simp [nat_back.l0])
    | succ k1 =>
      have H := HA.out
      clear HA
      simp only [nat_back.l0] at H
      by_cases c3 : x10_1 < (l1.length : Int)
      · rw [if_pos c3] at H
        have c3b0 : decide (x10_1 < (l1.length : Int)) = true := decide_eq_true c3
        clear c3
        by_cases c4 : 0 ≤ x10_1
        · rw [if_pos c4] at H
          have c4b0 : decide (0 ≤ x10_1) = true := decide_eq_true c4
          clear c4
          by_cases c5 : x10_1 < (l1.length : Int)
          · rw [if_pos c5] at H
            have c5b0 : decide (x10_1 < (l1.length : Int)) = true := decide_eq_true c5
            clear c5
            by_cases c6 : x10_1 < (x0_1.length : Int)
            · rw [if_pos c6] at H
              have c6b0 : decide (x10_1 < (x0_1.length : Int)) = true := decide_eq_true c6
              clear c6
              by_cases c7 : x5_1 ≤ 1
              · rw [if_pos c7] at H
                have c7b0 := eq_true c7
                have c7b1 : decide (x5_1 ≤ 1) = true := decide_eq_true c7
                clear c7
                obtain ⟨y368, hy368⟩ : ∃ y_ : List Int, y_ = (x0_1.set (x10_1 : Int).toNat (add64Lo (rd x0_1 x10_1) (rd l1 x10_1) x5_1)) := ⟨_, rfl⟩
                replace H : (nat_back.l0 k1 y368 l1 (add64Hi (rd x0_1 x10_1) (rd l1 x10_1) x5_1) l1 (l1.length : Int) (wrap64 (x10_1 + 1))) = some (r1, r2) := by first | (rw [hy368]; with_reducible exact H) | (have H2_ := (Option.bind_some _ _).symm.trans H; rw [hy368]; with_reducible exact H2_) | (have H2_ := (Option.bind_some _ _).symm.trans H; with_reducible exact H2_) | with_reducible exact H | (rw [hy368]; exact H) | exact H
                have Ny368 := Aside0.mk hy368
                clear hy368
                have H' := Aside0.mk H
                clear H
                have p366 : 0 ≤ (x10_1 : Int) := of_decide_eq_true (by first | (with_reducible assumption) | assumption)
                have q366 : x10_1 < (l1.length : Int) := of_decide_eq_true (by first | (with_reducible assumption) | assumption)
                obtain ⟨ad366, e366, hx366_0⟩ := Kd.at_int (Kd.C_kept_now HR1.out HK.out) x10_1 p366 q366
                cases e366
                replace p366 := eq_true p366
                replace q366 := eq_true q366
                obtain ⟨Ao9, co9, eo9⟩ := Wd_slice HO_0.out
                subst eo9
                have p367 : 0 ≤ (x10_1 : Int) := of_decide_eq_true (by first | (with_reducible assumption) | assumption)
                have q367 : x10_1 < (x0_1.length : Int) := of_decide_eq_true (by first | (with_reducible assumption) | assumption)
                obtain ⟨ad367, e367, hx367_0⟩ := Kd.at_int (Wd_reads' HO_0.out).2.2 x10_1 p367 q367
                cases e367
                replace p367 := eq_true p367
                replace q367 := eq_true q367
                have p8 : 0 ≤ (x10_1 : Int) := of_decide_eq_true (by first | (with_reducible assumption) | assumption)
                have q8 : (x10_1 : Int) < ((x0_1.length : Int) : Int) := of_decide_eq_true (by first | (with_reducible assumption) | assumption)
                obtain ⟨go8, co8, eo8, gb8, gl8, cl8, HG8⟩ := Wd_form HO_0.out (by omega)
                (first | cases eo8 | (injection eo8 with ea_ en_ ec_; (first | subst ea_ | (injection ea_ with ea_; subst ea_)); subst ec_; clear en_))
                have GB8 := Aside0.mk gb8
                have GG8 := Aside0.mk HG8
                clear gb8 gl8 HG8
                have HMgo8 := Aside0.mk (show (P0_ go8 ∨ w.heap.size ≤ go8) from (Wd_ok HO_0.out))
                (first | simp only [add_plain] at hx367_0 | skip)
                obtain ⟨hx8_0, hf8_0⟩ := Wd_celln HO_0.out (x10_1 : Int) p8 q8
                replace p8 := eq_true p8
                replace q8 := eq_true q8
                have HP10 := Wd_putg HO_0.out (x10_1 : Int) (by have h1_ := of_eq_true p8; have h2_ := of_eq_true q8; omega) (add64Lo (rd x0_1 x10_1) (rd l1 x10_1) x5_1)
                go_wp2_with (first | ((with_reducible refine gate_callee (f := 70) rfl ?_); refine goesX_ (some 24) rfl rfl #[.int .u64 (rd x0_1 x10_1), .int .u64 (rd l1 x10_1), .int .u64 x5_1] _ rfl (by (try simp only [List.map_toArray, List.map_cons, List.map_nil]); rfl) (fun w_ => runx_add64 (rd x0_1 x10_1) (rd l1 x10_1) x5_1 (by first | decide | (with_reducible assumption) | exact of_decide_eq_true (by first | (with_reducible assumption) | assumption)) w_) ?_) | ((with_reducible refine gate_store (t := 42) (p := 27) rfl ?_); refine store_event (t := 42) (p := 27) (v := ?vo_w11) (w1 := (wr.setCell ⟨go8, pre.length + (x10_1 : Int).toNat, none⟩ (.int .u64 (add64Lo (rd x0_1 x10_1) (rd l1 x10_1) x5_1)))) ?hg ?ho ?hn ?hr ?_; (case ho => rfl); (case hg => rfl); (case hn => rfl); (case hr => first | (go_simp; done) | (go_simp; rfl)); intro w11 hw; have hg : wr.grownBy w11 (some go8) := (by rw [hw]; exact HP10.2); have hp_ : Wd pre post 42 w11 w0.heap.size (fun k_ => (P0_ k_ ∨ w.heap.size ≤ k_)) (.slice (some ⟨go8, pre.length, none⟩) x0_1.length co9) y368 := (by rw [hw, Ny368.out]; exact HP10.1); clear HP10; have n0_ := Aside0.mk (hp_); have n1_ := Aside0.mk ((by rw [hw]; exact below_set (HB.out) GB8.out : Below w0.heap.size w0 w11)); have n2_ := Aside0.mk (Kept.of_grown (S := (fun k_ => P0_ k_)) hg (by repeat (first | (with_reducible first | exact HK.out | apply Kept.alloc | apply Kept.drewN | apply Kept.drew) | exact HK.out)) (fun k_ e_ => (by injection e_ with e_; rw [← e_]; exact Wd_ok HO_0.out))); clear HO_0; clear HB; clear HK; have HO_0 := n0_; have HB := n1_; have HK := n2_; clear n0_ n1_ n2_; clear hg hw hp_))
                go_roundg k1
                case measure => have := HK1.out; omega
                case rel => exact ⟨(y368), (add64Hi (rd x0_1 x10_1) (rd l1 x10_1) x5_1), (wrap64 (x10_1 + 1)), (by first | rfl | (simp; done) | (simp [*]; done)), (by first | rfl | (simp; done) | (simp [*]; done)), H', ⟨by have := HK1.out; omega⟩, ⟨by (with_reducible repeat (first | apply Wd_alloc | apply Wd_drewN | apply Wd_drew)); exact HO_0.out⟩, ⟨by repeat (first | (with_reducible first | exact HK.out | apply Kept.alloc | apply Kept.drewN | apply Kept.drew) | exact HK.out)⟩, ⟨by repeat (first | (with_reducible first | exact HB.out | apply below_alloc | apply pw_below_drewN | apply below_drew1) | exact HB.out)⟩⟩
              · rw [if_neg c7] at H
                exact absurd H (by simp)
            · rw [if_neg c6] at H
              exact absurd H (by simp)
          · rw [if_neg c5] at H
            exact absurd H (by simp)
        · rw [if_neg c4] at H
          exact absurd H (by simp)
      · rw [if_neg c3] at H
        have c3b0 : decide (x10_1 < (l1.length : Int)) = false := decide_eq_false c3
        clear c3
        by_cases c12 : 0 ≤ (l1.length : Int)
        · rw [if_pos c12] at H
          have c12b0 : decide (0 ≤ (l1.length : Int)) = true := decide_eq_true c12
          have c12b1 : decide (0 ≤ l1.length) = true := decide_eq_true (by omega)
          clear c12
          by_cases c13 : (l1.length : Int) < (x0_1.length : Int)
          · rw [if_pos c13] at H
            have c13b0 : decide ((l1.length : Int) < (x0_1.length : Int)) = true := decide_eq_true c13
            have c13b1 : decide (l1.length < x0_1.length) = true := decide_eq_true (Int.ofNat_lt.mp c13)
            clear c13
            by_cases c14 : x5_1 ≤ 1
            · rw [if_pos c14] at H
              have c14b0 := eq_true c14
              have c14b1 : decide (x5_1 ≤ 1) = true := decide_eq_true c14
              clear c14
              obtain ⟨y370, hy370⟩ : ∃ y_ : List Int, y_ = (x0_1.set ((l1.length : Int) : Int).toNat (add64Lo (rd x0_1 (l1.length : Int)) 0 x5_1)) := ⟨_, rfl⟩
              replace H : (some (decide ((add64Hi (rd x0_1 (l1.length : Int)) 0 x5_1) > 0), y370)) = some (r1, r2) := by first | (rw [hy370]; with_reducible exact H) | (have H2_ := (Option.bind_some _ _).symm.trans H; rw [hy370]; with_reducible exact H2_) | (have H2_ := (Option.bind_some _ _).symm.trans H; with_reducible exact H2_) | with_reducible exact H | (rw [hy370]; exact H) | exact H
              have Ny370 := Aside0.mk hy370
              clear hy370
              simp only [Option.some.injEq, Prod.mk.injEq] at H
              obtain ⟨rfl, rfl⟩ := H
              obtain ⟨Ao16, co16, eo16⟩ := Wd_slice HO_0.out
              subst eo16
              have p369 : 0 ≤ ((l1.length : Int) : Int) := of_decide_eq_true (by first | (with_reducible assumption) | assumption)
              have q369 : (l1.length : Int) < (x0_1.length : Int) := of_decide_eq_true (by first | (with_reducible assumption) | assumption)
              obtain ⟨ad369, e369, hx369_0⟩ := Kd.at_int (Wd_reads' HO_0.out).2.2 (l1.length : Int) p369 q369
              cases e369
              (try simp only [Go.IntWalk.toNatUp] at hx369_0)
              replace p369 := eq_true p369
              replace q369 := eq_true q369
              have p15 : 0 ≤ ((l1.length : Int) : Int) := of_decide_eq_true (by first | (with_reducible assumption) | assumption)
              have q15 : ((l1.length : Int) : Int) < ((x0_1.length : Int) : Int) := of_decide_eq_true (by first | (with_reducible assumption) | assumption)
              obtain ⟨go15, co15, eo15, gb15, gl15, cl15, HG15⟩ := Wd_form HO_0.out (by omega)
              (first | cases eo15 | (injection eo15 with ea_ en_ ec_; (first | subst ea_ | (injection ea_ with ea_; subst ea_)); subst ec_; clear en_))
              have GB15 := Aside0.mk gb15
              have GG15 := Aside0.mk HG15
              clear gb15 gl15 HG15
              have HMgo15 := Aside0.mk (show (P0_ go15 ∨ w.heap.size ≤ go15) from (Wd_ok HO_0.out))
              (first | simp only [add_plain] at hx369_0 | skip)
              obtain ⟨hx15_0, hf15_0⟩ := Wd_celln HO_0.out ((l1.length : Int) : Int) p15 q15
              (try simp only [Go.IntWalk.toNatUp] at hx15_0 hf15_0)
              replace p15 := eq_true p15
              replace q15 := eq_true q15
              have HP17 := Wd_putg HO_0.out ((l1.length : Int) : Int) (by have h1_ := of_eq_true p15; have h2_ := of_eq_true q15; omega) (add64Lo (rd x0_1 (l1.length : Int)) 0 x5_1)
              go_wp2_with (first | ((with_reducible refine gate_callee (f := 70) rfl ?_); refine goesX_ (some 39) rfl rfl #[.int .u64 (rd x0_1 (l1.length : Int)), .int .u64 0, .int .u64 x5_1] _ rfl (by (try simp only [List.map_toArray, List.map_cons, List.map_nil]); rfl) (fun w_ => runx_add64 (rd x0_1 (l1.length : Int)) 0 x5_1 (by first | decide | (with_reducible assumption) | exact of_decide_eq_true (by first | (with_reducible assumption) | assumption)) w_) ?_) | ((with_reducible refine gate_store (t := 42) (p := 42) rfl ?_); refine store_event (t := 42) (p := 42) (v := ?vo_w18) (w1 := (wr.setCell ⟨go15, pre.length + ((l1.length : Int) : Int).toNat, none⟩ (.int .u64 (add64Lo (rd x0_1 (l1.length : Int)) 0 x5_1)))) ?hg ?ho ?hn ?hr ?_; (case ho => rfl); (case hg => rfl); (case hn => rfl); (case hr => first | (go_simp; done) | (go_simp; rfl)); intro w18 hw; have hg : wr.grownBy w18 (some go15) := (by rw [hw]; exact HP17.2); have hp_ : Wd pre post 42 w18 w0.heap.size (fun k_ => (P0_ k_ ∨ w.heap.size ≤ k_)) (.slice (some ⟨go15, pre.length, none⟩) x0_1.length co16) y370 := (by rw [hw, Ny370.out]; exact HP17.1); clear HP17; have n0_ := Aside0.mk (hp_); have n1_ := Aside0.mk ((by rw [hw]; exact below_set (HB.out) GB15.out : Below w0.heap.size w0 w18)); have n2_ := Aside0.mk (Kept.of_grown (S := (fun k_ => P0_ k_)) hg (by repeat (first | (with_reducible first | exact HK.out | apply Kept.alloc | apply Kept.drewN | apply Kept.drew) | exact HK.out)) (fun k_ e_ => (by injection e_ with e_; rw [← e_]; exact Wd_ok HO_0.out))); clear HO_0; clear HB; clear HK; have HO_0 := n0_; have HB := n1_; have HK := n2_; clear n0_ n1_ n2_; clear hg hw hp_))
              go_ret
              exact ⟨by first | rfl | (simp [errW_none, errW_some] <;> rfl) | (simp [*, errW_none, errW_some] <;> rfl), by (with_reducible repeat (first | apply Wd_alloc | apply Wd_drewN | apply Wd_drew)); exact HO_0.out, by repeat (first | (with_reducible first | exact HB.out | apply below_alloc | apply pw_below_drewN | apply below_drew1) | exact HB.out), by repeat (first | (with_reducible first | exact HK.out | apply Kept.alloc | apply Kept.drewN | apply Kept.drew) | exact HK.out)⟩
            · rw [if_neg c14] at H
              exact absurd H (by simp)
          · rw [if_neg c13] at H
            exact absurd H (by simp)
        · rw [if_neg c12] at H
          exact absurd H (by simp)
end Go.Proofs.YthgmkigfgcejgaaDoor.PNat
