/- PScx7: the part that this claim needs. -/
import Derived.Test.YthhkmpicpihjlaaGreatDoorQVPScx0
import Derived.Test.YthhkmpicpihjlaaGreatDoorQVPScx4
import Derived.Test.YthhkmpicpihjlaaGreatDoorQVPScx6
import Derived.Test.YthhkmpicpihjlaaGreatDoorQVGItoaC
namespace Go.Proofs.YthhkmpicpihjlaaGreatDoor.PSc
open Go.RowKit Go.Proofs.YthhkmpicpihjlaaGreatDoorW.PrintWords Go.Proofs.YthhkmpicpihjlaaGreatDoorW.PrintLast Go.Proofs.YthhkmpicpihjlaaGreatDoorW.PrintMore
open Go.Proofs.YthhkmpicpihjlaaGreatDoor.M
attribute [local go_sem] runx_add64 runx_sub64 eql_cc eql_nc neq_cc neq_nc
attribute [local go_sem] max2_int min2_int max_two min_two max_three min_three max_four min_four   -- for this text's walks alone
set_option linter.unusedVariables false
set_option linter.unusedSimpArgs false
mutual
def vernierref18_Text.j0 : Nat → ByteArray → Bool → Bool → ByteArray → Int → Option (ByteArray × Int)
  | 0, _, _, _, _, _ => none
  | k + 1, x5, x161000, x161001, x161002, x161003 => if x161003 ≥ 0 then (vernierref18_Text.j1 k x5 (wrap64 ((x161002.size : Int) + x161003)) (decide ((wrap64 ((x161002.size : Int) + x161003)) ≤ 21)) x161000 x161001 x161002 x161003) else (vernierref18_Text.j1 k x5 (wrap64 ((x161002.size : Int) + x161003)) false x161000 x161001 x161002 x161003)
def vernierref18_Text.j1 : Nat → ByteArray → Int → Bool → Bool → Bool → ByteArray → Int → Option (ByteArray × Int)
  | 0, _, _, _, _, _, _, _ => none
  | k + 1, x5, x6, x23, x161000, x161001, x161002, x161003 => if x23 = true then (if x5.size + x161002.size ≤ 9223372036854775807 then ((vernierref18_noughts.f k x161003).bind fun t166 => (if (x5 ++ x161002).size + t166.size ≤ 9223372036854775807 then (some ((x5 ++ x161002) ++ t166, 0)) else (none))) else (none)) else (if x6 ≥ 1 then (vernierref18_Text.j2 k x5 x6 (decide (x6 ≤ 21)) x161000 x161001 x161002 x161003) else (vernierref18_Text.j2 k x5 x6 false x161000 x161001 x161002 x161003))
def vernierref18_Text.j2 : Nat → ByteArray → Int → Bool → Bool → Bool → ByteArray → Int → Option (ByteArray × Int)
  | 0, _, _, _, _, _, _, _ => none
  | k + 1, x5, x6, x39, x161000, x161001, x161002, x161003 => if x39 = true then (if 0 ≤ x6 then (if x6 ≤ (x161002.size : Int) then (if x5.size + (x161002.extract 0 (x6 : Int).toNat).size ≤ 9223372036854775807 then (if (x5 ++ (x161002.extract 0 (x6 : Int).toNat)).size + 1 ≤ 9223372036854775807 then (if ((x5 ++ (x161002.extract 0 (x6 : Int).toNat)) ++ (⟨#[46]⟩ : ByteArray)).size + (x161002.extract (x6 : Int).toNat x161002.size).size ≤ 9223372036854775807 then (some (((x5 ++ (x161002.extract 0 (x6 : Int).toNat)) ++ (⟨#[46]⟩ : ByteArray)) ++ (x161002.extract (x6 : Int).toNat x161002.size), 0)) else (none)) else (none)) else (none)) else (none)) else (none)) else (if x6 ≥ (-5) then (vernierref18_Text.j3 k x5 x6 (decide (x6 ≤ 0)) x161000 x161001 x161002 x161003) else (vernierref18_Text.j3 k x5 x6 false x161000 x161001 x161002 x161003))
def vernierref18_Text.j3 : Nat → ByteArray → Int → Bool → Bool → Bool → ByteArray → Int → Option (ByteArray × Int)
  | 0, _, _, _, _, _, _, _ => none
  | k + 1, x5, x6, x58, x161000, x161001, x161002, x161003 => if x58 = true then (if x5.size + 2 ≤ 9223372036854775807 then ((vernierref18_noughts.f k (wrap64 (-x6))).bind fun t167 => (if (x5 ++ (⟨#[48, 46]⟩ : ByteArray)).size + t167.size ≤ 9223372036854775807 then (if ((x5 ++ (⟨#[48, 46]⟩ : ByteArray)) ++ t167).size + x161002.size ≤ 9223372036854775807 then (some (((x5 ++ (⟨#[48, 46]⟩ : ByteArray)) ++ t167) ++ x161002, 0)) else (none)) else (none))) else (none)) else (if 0 ≤ 1 then (if 1 ≤ (x161002.size : Int) then (if x5.size + (x161002.extract 0 1).size ≤ 9223372036854775807 then (if (x161002.size : Int) > 1 then (if (x5 ++ (x161002.extract 0 1)).size + 1 ≤ 9223372036854775807 then (if ((x5 ++ (x161002.extract 0 1)) ++ (⟨#[46]⟩ : ByteArray)).size + (x161002.extract 1 x161002.size).size ≤ 9223372036854775807 then (if (((x5 ++ (x161002.extract 0 1)) ++ (⟨#[46]⟩ : ByteArray)) ++ (x161002.extract 1 x161002.size)).size + 1 ≤ 9223372036854775807 then ((strconv_Itoa_50.f (wrap64 (x6 - 1))).bind fun t168 => (if ((((x5 ++ (x161002.extract 0 1)) ++ (⟨#[46]⟩ : ByteArray)) ++ (x161002.extract 1 x161002.size)) ++ (⟨#[101]⟩ : ByteArray)).size + t168.size ≤ 9223372036854775807 then (some (((((x5 ++ (x161002.extract 0 1)) ++ (⟨#[46]⟩ : ByteArray)) ++ (x161002.extract 1 x161002.size)) ++ (⟨#[101]⟩ : ByteArray)) ++ t168, 0)) else (none))) else (none)) else (none)) else (none)) else (if (x5 ++ (x161002.extract 0 1)).size + 1 ≤ 9223372036854775807 then ((strconv_Itoa_50.f (wrap64 (x6 - 1))).bind fun t169 => (if ((x5 ++ (x161002.extract 0 1)) ++ (⟨#[101]⟩ : ByteArray)).size + t169.size ≤ 9223372036854775807 then (some (((x5 ++ (x161002.extract 0 1)) ++ (⟨#[101]⟩ : ByteArray)) ++ t169, 0)) else (none))) else (none))) else (none)) else (none)) else (none))
end
def vernierref18_Text.f (k : Nat) (a0_0 : Bool) (a0_1 : Bool) (a0_2 : ByteArray) (a0_3 : Int) : Option (ByteArray × Int) := (vernierref18_Formed.f k a0_0 a0_1 a0_2 a0_3).bind fun t161 => (if t161 = true then ((vernierref18_Normed.f k a0_0 a0_1 a0_2 a0_3).bind fun bt162 => (if bt162.1 = true then (some ((⟨#[110, 97, 114]⟩ : ByteArray), 0)) else (if bt162.2.1 = true then (vernierref18_Text.j0 k (⟨#[45]⟩ : ByteArray) bt162.1 bt162.2.1 bt162.2.2.1 bt162.2.2.2) else (vernierref18_Text.j0 k (⟨#[]⟩ : ByteArray) bt162.1 bt162.2.1 bt162.2.2.1 bt162.2.2.2)))) else (some ((⟨#[]⟩ : ByteArray), 23)))
set_option maxHeartbeats 8000000 in
set_option maxRecDepth 100000 in
theorem vernierref18_Text.calls (k : Nat) (a0_0 : Bool) (a0_1 : Bool) (a0_2 : ByteArray) (a0_3 : Int) (r1 : ByteArray) (r2 : Int) (w : World) (h : vernierref18_Text.f k a0_0 a0_1 a0_2 a0_3 = some (r1, r2)) (htab : Fx.Laid w := by exact Fx.Laid.below HTAB.out (by repeat (first | (with_reducible first | exact HB.out | apply below_alloc | apply pw_below_drewN | apply below_drew1 | refine below_set ?_ (Aside0.out (by assumption))) | exact HB.out))) :
    Calls Tryz.prog 16 #[.agg #[.bool a0_0, .bool a0_1, .string a0_2, .int .i64 a0_3]] w fun e w' => e = .returned (.tuple #[.string r1, .int .i64 r2]) ∧ Below w.heap.size w w' := by
  have HTAB := Aside0.mk htab
  clear htab
  have hu36 := Tryz.underlying36
  have HB := Aside0.mk (Below.refl w.heap.size w)
  have H : ((vernierref18_Formed.f k a0_0 a0_1 a0_2 a0_3).bind fun t161 => (if t161 = true then ((vernierref18_Normed.f k a0_0 a0_1 a0_2 a0_3).bind fun bt162 => (if bt162.1 = true then (some ((⟨#[110, 97, 114]⟩ : ByteArray), 0)) else (if bt162.2.1 = true then (vernierref18_Text.j0 k (⟨#[45]⟩ : ByteArray) bt162.1 bt162.2.1 bt162.2.2.1 bt162.2.2.2) else (vernierref18_Text.j0 k (⟨#[]⟩ : ByteArray) bt162.1 bt162.2.1 bt162.2.2.1 bt162.2.2.2)))) else (some ((⟨#[]⟩ : ByteArray), 23)))) = some (r1, r2) := h
  clear h
  replace H := Option.bind_eq_some_iff.mp H
  obtain ⟨t161, A20, H⟩ := H
  replace H : (if t161 = true then ((vernierref18_Normed.f k a0_0 a0_1 a0_2 a0_3).bind fun bt162 => (if bt162.1 = true then (some ((⟨#[110, 97, 114]⟩ : ByteArray), 0)) else (if bt162.2.1 = true then (vernierref18_Text.j0 k (⟨#[45]⟩ : ByteArray) bt162.1 bt162.2.1 bt162.2.2.1 bt162.2.2.2) else (vernierref18_Text.j0 k (⟨#[]⟩ : ByteArray) bt162.1 bt162.2.1 bt162.2.2.1 bt162.2.2.2)))) else (some ((⟨#[]⟩ : ByteArray), 23))) = some (r1, r2) := H
  have A2 := Aside0.mk A20
  clear A20
  by_cases c3 : t161 = true
  · subst c3
    have H1 : ((vernierref18_Normed.f k a0_0 a0_1 a0_2 a0_3).bind fun bt162 => (if bt162.1 = true then (some ((⟨#[110, 97, 114]⟩ : ByteArray), 0)) else (if bt162.2.1 = true then (vernierref18_Text.j0 k (⟨#[45]⟩ : ByteArray) bt162.1 bt162.2.1 bt162.2.2.1 bt162.2.2.2) else (vernierref18_Text.j0 k (⟨#[]⟩ : ByteArray) bt162.1 bt162.2.1 bt162.2.2.1 bt162.2.2.2)))) = some (r1, r2) := by rw [if_pos rfl] at H; exact H
    clear H
    have H := H1
    clear H1
    replace H := Option.bind_eq_some_iff.mp H
    obtain ⟨⟨t162, t163, t164, t165⟩, A40, H⟩ := H
    replace H : (if t162 = true then (some ((⟨#[110, 97, 114]⟩ : ByteArray), 0)) else (if t163 = true then (vernierref18_Text.j0 k (⟨#[45]⟩ : ByteArray) t162 t163 t164 t165) else (vernierref18_Text.j0 k (⟨#[]⟩ : ByteArray) t162 t163 t164 t165))) = some (r1, r2) := H
    have A4 := Aside0.mk A40
    clear A40
    by_cases c5 : t162 = true
    · subst c5
      have H1 : (some ((⟨#[110, 97, 114]⟩ : ByteArray), 0)) = some (r1, r2) := by rw [if_pos rfl] at H; exact H
      clear H
      have H := H1
      clear H1
      simp only [Option.some.injEq, Prod.mk.injEq] at H
      obtain ⟨rfl, rfl⟩ := H
      go_enter Tryz.func16, Tryz.ntmps16
      go_wp2_with (first | ((with_reducible refine gate_dst (N := 1) rfl ?_); refine box_event ?hg (N := 1) ?hd (cs := #[.bool a0_0, .bool a0_1, .string a0_2, .int .i64 a0_3]) (t := 36) ?hr ?_; (case hd => rfl); (case hg => rfl); (case hr => first | (go_simp; done) | (go_simp; rfl)); intro gb160 hg w6 hbox hb; have n0_ := Aside0.mk (below_step (by repeat (first | (with_reducible first | exact HB.out | apply below_alloc | apply pw_below_drewN | apply below_drew1) | exact HB.out)) hb); have n1_ := Aside0.mk (hbox); have n2_ := Aside0.mk ((by rw [hg]; exact (below_size (by repeat (first | (with_reducible first | exact HB.out | apply below_alloc | apply pw_below_drewN | apply below_drew1) | exact HB.out))) : w.heap.size ≤ gb160)); have n3_ := Aside0.mk ((by rw [hg]; exact (below_size (by repeat (first | (with_reducible first | exact HB.out | apply below_alloc | apply pw_below_drewN | apply below_drew1) | exact HB.out))) : w.heap.size ≤ gb160)); clear HB; have HB := n0_; have BK160 := n1_; have GW160 := n2_; have GE160 := n3_; clear n0_ n1_ n2_ n3_; clear hb hbox hg; have hcz7_0 : w6.cell? ⟨gb160, 0, none⟩ = some (.bool a0_0) := (blk_cell BK160.out 0).trans rfl; have hcz7_1 : w6.cell? ⟨gb160, 1, none⟩ = some (.bool a0_1) := (blk_cell BK160.out 1).trans rfl; have hcz7_2 : w6.cell? ⟨gb160, 2, none⟩ = some (.string a0_2) := (blk_cell BK160.out 2).trans rfl; have hcz7_3 : w6.cell? ⟨gb160, 3, none⟩ = some (.int .i64 a0_3) := (blk_cell BK160.out 3).trans rfl; have hfz7_0 := blk_frozen BK160.out 0; have hfz7_1 := blk_frozen BK160.out 1; have hfz7_2 := blk_frozen BK160.out 2; have hfz7_3 := blk_frozen BK160.out 3) | (go_at_call 52; (with_reducible refine (vernierref18_Formed.calls k a0_0 a0_1 a0_2 a0_3 true _ A2.out).mono ?_); rintro e w8 ⟨rfl, hb⟩; have n0_ := Aside0.mk (blk_below (g := gb160) (o := .cells #[.bool a0_0, .bool a0_1, .string a0_2, .int .i64 a0_3] 36 (0, 0)) (by (with_reducible repeat (first | refine blk_drewN ?_ _ | refine blk_drew ?_ | refine blk_alloc ?_ _)); exact BK160.out) hb); have n1_ := Aside0.mk (below_step (by repeat (first | (with_reducible first | exact HB.out | apply below_alloc | apply pw_below_drewN | apply below_drew1 | refine below_set ?_ GE160.out) | exact HB.out)) hb); clear BK160; clear HB; have BK160 := n0_; have HB := n1_; clear n0_ n1_; (try clear hb); (try clear hb2); (try clear hk); (try clear hi); have hcz9_0 : w8.cell? ⟨gb160, 0, none⟩ = some (.bool a0_0) := (blk_cell BK160.out 0).trans rfl; have hcz9_1 : w8.cell? ⟨gb160, 1, none⟩ = some (.bool a0_1) := (blk_cell BK160.out 1).trans rfl; have hcz9_2 : w8.cell? ⟨gb160, 2, none⟩ = some (.string a0_2) := (blk_cell BK160.out 2).trans rfl; have hcz9_3 : w8.cell? ⟨gb160, 3, none⟩ = some (.int .i64 a0_3) := (blk_cell BK160.out 3).trans rfl; have hfz9_0 := blk_frozen BK160.out 0; have hfz9_1 := blk_frozen BK160.out 1; have hfz9_2 := blk_frozen BK160.out 2; have hfz9_3 := blk_frozen BK160.out 3) | (go_at_call 44; (with_reducible refine (vernierref18_Normed.calls k a0_0 a0_1 a0_2 a0_3 true t163 t164 t165 _ A4.out).mono ?_); rintro e w10 ⟨rfl, hb⟩; have n0_ := Aside0.mk (blk_below (g := gb160) (o := .cells #[.bool a0_0, .bool a0_1, .string a0_2, .int .i64 a0_3] 36 (0, 0)) (by (with_reducible repeat (first | refine blk_drewN ?_ _ | refine blk_drew ?_ | refine blk_alloc ?_ _)); exact BK160.out) hb); have n1_ := Aside0.mk (below_step (by repeat (first | (with_reducible first | exact HB.out | apply below_alloc | apply pw_below_drewN | apply below_drew1 | refine below_set ?_ GE160.out) | exact HB.out)) hb); clear BK160; clear HB; have BK160 := n0_; have HB := n1_; clear n0_ n1_; (try clear hb); (try clear hb2); (try clear hk); (try clear hi); have hcz11_0 : w10.cell? ⟨gb160, 0, none⟩ = some (.bool a0_0) := (blk_cell BK160.out 0).trans rfl; have hcz11_1 : w10.cell? ⟨gb160, 1, none⟩ = some (.bool a0_1) := (blk_cell BK160.out 1).trans rfl; have hcz11_2 : w10.cell? ⟨gb160, 2, none⟩ = some (.string a0_2) := (blk_cell BK160.out 2).trans rfl; have hcz11_3 : w10.cell? ⟨gb160, 3, none⟩ = some (.int .i64 a0_3) := (blk_cell BK160.out 3).trans rfl; have hfz11_0 := blk_frozen BK160.out 0; have hfz11_1 := blk_frozen BK160.out 1; have hfz11_2 := blk_frozen BK160.out 2; have hfz11_3 := blk_frozen BK160.out 3))
      repeat (go_quiet (first | ((with_reducible refine gate_dst (N := 1) rfl ?_); refine box_event ?hg (N := 1) ?hd (cs := #[.bool a0_0, .bool a0_1, .string a0_2, .int .i64 a0_3]) (t := 36) ?hr ?_; (case hd => rfl); (case hg => rfl); (case hr => first | (go_simp; done) | (go_simp; rfl)); intro gb160 hg w6 hbox hb; have n0_ := Aside0.mk (below_step (by repeat (first | (with_reducible first | exact HB.out | apply below_alloc | apply pw_below_drewN | apply below_drew1) | exact HB.out)) hb); have n1_ := Aside0.mk (hbox); have n2_ := Aside0.mk ((by rw [hg]; exact (below_size (by repeat (first | (with_reducible first | exact HB.out | apply below_alloc | apply pw_below_drewN | apply below_drew1) | exact HB.out))) : w.heap.size ≤ gb160)); have n3_ := Aside0.mk ((by rw [hg]; exact (below_size (by repeat (first | (with_reducible first | exact HB.out | apply below_alloc | apply pw_below_drewN | apply below_drew1) | exact HB.out))) : w.heap.size ≤ gb160)); clear HB; have HB := n0_; have BK160 := n1_; have GW160 := n2_; have GE160 := n3_; clear n0_ n1_ n2_ n3_; clear hb hbox hg; have hcz7_0 : w6.cell? ⟨gb160, 0, none⟩ = some (.bool a0_0) := (blk_cell BK160.out 0).trans rfl; have hcz7_1 : w6.cell? ⟨gb160, 1, none⟩ = some (.bool a0_1) := (blk_cell BK160.out 1).trans rfl; have hcz7_2 : w6.cell? ⟨gb160, 2, none⟩ = some (.string a0_2) := (blk_cell BK160.out 2).trans rfl; have hcz7_3 : w6.cell? ⟨gb160, 3, none⟩ = some (.int .i64 a0_3) := (blk_cell BK160.out 3).trans rfl; have hfz7_0 := blk_frozen BK160.out 0; have hfz7_1 := blk_frozen BK160.out 1; have hfz7_2 := blk_frozen BK160.out 2; have hfz7_3 := blk_frozen BK160.out 3) | (go_at_call 52; (with_reducible refine (vernierref18_Formed.calls k a0_0 a0_1 a0_2 a0_3 true _ A2.out).mono ?_); rintro e w8 ⟨rfl, hb⟩; have n0_ := Aside0.mk (blk_below (g := gb160) (o := .cells #[.bool a0_0, .bool a0_1, .string a0_2, .int .i64 a0_3] 36 (0, 0)) (by (with_reducible repeat (first | refine blk_drewN ?_ _ | refine blk_drew ?_ | refine blk_alloc ?_ _)); exact BK160.out) hb); have n1_ := Aside0.mk (below_step (by repeat (first | (with_reducible first | exact HB.out | apply below_alloc | apply pw_below_drewN | apply below_drew1 | refine below_set ?_ GE160.out) | exact HB.out)) hb); clear BK160; clear HB; have BK160 := n0_; have HB := n1_; clear n0_ n1_; (try clear hb); (try clear hb2); (try clear hk); (try clear hi); have hcz9_0 : w8.cell? ⟨gb160, 0, none⟩ = some (.bool a0_0) := (blk_cell BK160.out 0).trans rfl; have hcz9_1 : w8.cell? ⟨gb160, 1, none⟩ = some (.bool a0_1) := (blk_cell BK160.out 1).trans rfl; have hcz9_2 : w8.cell? ⟨gb160, 2, none⟩ = some (.string a0_2) := (blk_cell BK160.out 2).trans rfl; have hcz9_3 : w8.cell? ⟨gb160, 3, none⟩ = some (.int .i64 a0_3) := (blk_cell BK160.out 3).trans rfl; have hfz9_0 := blk_frozen BK160.out 0; have hfz9_1 := blk_frozen BK160.out 1; have hfz9_2 := blk_frozen BK160.out 2; have hfz9_3 := blk_frozen BK160.out 3) | (go_at_call 44; (with_reducible refine (vernierref18_Normed.calls k a0_0 a0_1 a0_2 a0_3 true t163 t164 t165 _ A4.out).mono ?_); rintro e w10 ⟨rfl, hb⟩; have n0_ := Aside0.mk (blk_below (g := gb160) (o := .cells #[.bool a0_0, .bool a0_1, .string a0_2, .int .i64 a0_3] 36 (0, 0)) (by (with_reducible repeat (first | refine blk_drewN ?_ _ | refine blk_drew ?_ | refine blk_alloc ?_ _)); exact BK160.out) hb); have n1_ := Aside0.mk (below_step (by repeat (first | (with_reducible first | exact HB.out | apply below_alloc | apply pw_below_drewN | apply below_drew1 | refine below_set ?_ GE160.out) | exact HB.out)) hb); clear BK160; clear HB; have BK160 := n0_; have HB := n1_; clear n0_ n1_; (try clear hb); (try clear hb2); (try clear hk); (try clear hi); have hcz11_0 : w10.cell? ⟨gb160, 0, none⟩ = some (.bool a0_0) := (blk_cell BK160.out 0).trans rfl; have hcz11_1 : w10.cell? ⟨gb160, 1, none⟩ = some (.bool a0_1) := (blk_cell BK160.out 1).trans rfl; have hcz11_2 : w10.cell? ⟨gb160, 2, none⟩ = some (.string a0_2) := (blk_cell BK160.out 2).trans rfl; have hcz11_3 : w10.cell? ⟨gb160, 3, none⟩ = some (.int .i64 a0_3) := (blk_cell BK160.out 3).trans rfl; have hfz11_0 := blk_frozen BK160.out 0; have hfz11_1 := blk_frozen BK160.out 1; have hfz11_2 := blk_frozen BK160.out 2; have hfz11_3 := blk_frozen BK160.out 3)); try go_wp2_with (first | ((with_reducible refine gate_dst (N := 1) rfl ?_); refine box_event ?hg (N := 1) ?hd (cs := #[.bool a0_0, .bool a0_1, .string a0_2, .int .i64 a0_3]) (t := 36) ?hr ?_; (case hd => rfl); (case hg => rfl); (case hr => first | (go_simp; done) | (go_simp; rfl)); intro gb160 hg w6 hbox hb; have n0_ := Aside0.mk (below_step (by repeat (first | (with_reducible first | exact HB.out | apply below_alloc | apply pw_below_drewN | apply below_drew1) | exact HB.out)) hb); have n1_ := Aside0.mk (hbox); have n2_ := Aside0.mk ((by rw [hg]; exact (below_size (by repeat (first | (with_reducible first | exact HB.out | apply below_alloc | apply pw_below_drewN | apply below_drew1) | exact HB.out))) : w.heap.size ≤ gb160)); have n3_ := Aside0.mk ((by rw [hg]; exact (below_size (by repeat (first | (with_reducible first | exact HB.out | apply below_alloc | apply pw_below_drewN | apply below_drew1) | exact HB.out))) : w.heap.size ≤ gb160)); clear HB; have HB := n0_; have BK160 := n1_; have GW160 := n2_; have GE160 := n3_; clear n0_ n1_ n2_ n3_; clear hb hbox hg; have hcz7_0 : w6.cell? ⟨gb160, 0, none⟩ = some (.bool a0_0) := (blk_cell BK160.out 0).trans rfl; have hcz7_1 : w6.cell? ⟨gb160, 1, none⟩ = some (.bool a0_1) := (blk_cell BK160.out 1).trans rfl; have hcz7_2 : w6.cell? ⟨gb160, 2, none⟩ = some (.string a0_2) := (blk_cell BK160.out 2).trans rfl; have hcz7_3 : w6.cell? ⟨gb160, 3, none⟩ = some (.int .i64 a0_3) := (blk_cell BK160.out 3).trans rfl; have hfz7_0 := blk_frozen BK160.out 0; have hfz7_1 := blk_frozen BK160.out 1; have hfz7_2 := blk_frozen BK160.out 2; have hfz7_3 := blk_frozen BK160.out 3) | (go_at_call 52; (with_reducible refine (vernierref18_Formed.calls k a0_0 a0_1 a0_2 a0_3 true _ A2.out).mono ?_); rintro e w8 ⟨rfl, hb⟩; have n0_ := Aside0.mk (blk_below (g := gb160) (o := .cells #[.bool a0_0, .bool a0_1, .string a0_2, .int .i64 a0_3] 36 (0, 0)) (by (with_reducible repeat (first | refine blk_drewN ?_ _ | refine blk_drew ?_ | refine blk_alloc ?_ _)); exact BK160.out) hb); have n1_ := Aside0.mk (below_step (by repeat (first | (with_reducible first | exact HB.out | apply below_alloc | apply pw_below_drewN | apply below_drew1 | refine below_set ?_ GE160.out) | exact HB.out)) hb); clear BK160; clear HB; have BK160 := n0_; have HB := n1_; clear n0_ n1_; (try clear hb); (try clear hb2); (try clear hk); (try clear hi); have hcz9_0 : w8.cell? ⟨gb160, 0, none⟩ = some (.bool a0_0) := (blk_cell BK160.out 0).trans rfl; have hcz9_1 : w8.cell? ⟨gb160, 1, none⟩ = some (.bool a0_1) := (blk_cell BK160.out 1).trans rfl; have hcz9_2 : w8.cell? ⟨gb160, 2, none⟩ = some (.string a0_2) := (blk_cell BK160.out 2).trans rfl; have hcz9_3 : w8.cell? ⟨gb160, 3, none⟩ = some (.int .i64 a0_3) := (blk_cell BK160.out 3).trans rfl; have hfz9_0 := blk_frozen BK160.out 0; have hfz9_1 := blk_frozen BK160.out 1; have hfz9_2 := blk_frozen BK160.out 2; have hfz9_3 := blk_frozen BK160.out 3) | (go_at_call 44; (with_reducible refine (vernierref18_Normed.calls k a0_0 a0_1 a0_2 a0_3 true t163 t164 t165 _ A4.out).mono ?_); rintro e w10 ⟨rfl, hb⟩; have n0_ := Aside0.mk (blk_below (g := gb160) (o := .cells #[.bool a0_0, .bool a0_1, .string a0_2, .int .i64 a0_3] 36 (0, 0)) (by (with_reducible repeat (first | refine blk_drewN ?_ _ | refine blk_drew ?_ | refine blk_alloc ?_ _)); exact BK160.out) hb); have n1_ := Aside0.mk (below_step (by repeat (first | (with_reducible first | exact HB.out | apply below_alloc | apply pw_below_drewN | apply below_drew1 | refine below_set ?_ GE160.out) | exact HB.out)) hb); clear BK160; clear HB; have BK160 := n0_; have HB := n1_; clear n0_ n1_; (try clear hb); (try clear hb2); (try clear hk); (try clear hi); have hcz11_0 : w10.cell? ⟨gb160, 0, none⟩ = some (.bool a0_0) := (blk_cell BK160.out 0).trans rfl; have hcz11_1 : w10.cell? ⟨gb160, 1, none⟩ = some (.bool a0_1) := (blk_cell BK160.out 1).trans rfl; have hcz11_2 : w10.cell? ⟨gb160, 2, none⟩ = some (.string a0_2) := (blk_cell BK160.out 2).trans rfl; have hcz11_3 : w10.cell? ⟨gb160, 3, none⟩ = some (.int .i64 a0_3) := (blk_cell BK160.out 3).trans rfl; have hfz11_0 := blk_frozen BK160.out 0; have hfz11_1 := blk_frozen BK160.out 1; have hfz11_2 := blk_frozen BK160.out 2; have hfz11_3 := blk_frozen BK160.out 3)))
      go_ret2
      exact ⟨by first | rfl | (simp [errW_none, errW_some] <;> rfl) | (simp [*, errW_none, errW_some] <;> rfl), by repeat (first | (with_reducible first | exact HB.out | apply below_alloc | apply pw_below_drewN | apply below_drew1 | refine below_set ?_ GE160.out) | exact HB.out)⟩
    · replace c5 := Bool.eq_false_iff.mpr c5
      subst c5
      have H1 : (if t163 = true then (vernierref18_Text.j0 k (⟨#[45]⟩ : ByteArray) false t163 t164 t165) else (vernierref18_Text.j0 k (⟨#[]⟩ : ByteArray) false t163 t164 t165)) = some (r1, r2) := by rw [if_neg (show ¬ (false = true) by decide)] at H; exact H
      clear H
      have H := H1
      clear H1
      have HC12 := Aside0.mk H
      clear H
      go_enter Tryz.func16, Tryz.ntmps16
      go_upto_if 16 with (first | ((with_reducible refine gate_dst (N := 1) rfl ?_); refine box_event ?hg (N := 1) ?hd (cs := #[.bool a0_0, .bool a0_1, .string a0_2, .int .i64 a0_3]) (t := 36) ?hr ?_; (case hd => rfl); (case hg => rfl); (case hr => first | (go_simp; done) | (go_simp; rfl)); intro gb160 hg w13 hbox hb; have n0_ := Aside0.mk (below_step (by repeat (first | (with_reducible first | exact HB.out | apply below_alloc | apply pw_below_drewN | apply below_drew1) | exact HB.out)) hb); have n1_ := Aside0.mk (hbox); have n2_ := Aside0.mk ((by rw [hg]; exact (below_size (by repeat (first | (with_reducible first | exact HB.out | apply below_alloc | apply pw_below_drewN | apply below_drew1) | exact HB.out))) : w.heap.size ≤ gb160)); have n3_ := Aside0.mk ((by rw [hg]; exact (below_size (by repeat (first | (with_reducible first | exact HB.out | apply below_alloc | apply pw_below_drewN | apply below_drew1) | exact HB.out))) : w.heap.size ≤ gb160)); clear HB; have HB := n0_; have BK160 := n1_; have GW160 := n2_; have GE160 := n3_; clear n0_ n1_ n2_ n3_; clear hb hbox hg; have hcz14_0 : w13.cell? ⟨gb160, 0, none⟩ = some (.bool a0_0) := (blk_cell BK160.out 0).trans rfl; have hcz14_1 : w13.cell? ⟨gb160, 1, none⟩ = some (.bool a0_1) := (blk_cell BK160.out 1).trans rfl; have hcz14_2 : w13.cell? ⟨gb160, 2, none⟩ = some (.string a0_2) := (blk_cell BK160.out 2).trans rfl; have hcz14_3 : w13.cell? ⟨gb160, 3, none⟩ = some (.int .i64 a0_3) := (blk_cell BK160.out 3).trans rfl; have hfz14_0 := blk_frozen BK160.out 0; have hfz14_1 := blk_frozen BK160.out 1; have hfz14_2 := blk_frozen BK160.out 2; have hfz14_3 := blk_frozen BK160.out 3) | (go_at_call 52; (with_reducible refine (vernierref18_Formed.calls k a0_0 a0_1 a0_2 a0_3 true _ A2.out).mono ?_); rintro e w15 ⟨rfl, hb⟩; have n0_ := Aside0.mk (blk_below (g := gb160) (o := .cells #[.bool a0_0, .bool a0_1, .string a0_2, .int .i64 a0_3] 36 (0, 0)) (by (with_reducible repeat (first | refine blk_drewN ?_ _ | refine blk_drew ?_ | refine blk_alloc ?_ _)); exact BK160.out) hb); have n1_ := Aside0.mk (below_step (by repeat (first | (with_reducible first | exact HB.out | apply below_alloc | apply pw_below_drewN | apply below_drew1 | refine below_set ?_ GE160.out) | exact HB.out)) hb); clear BK160; clear HB; have BK160 := n0_; have HB := n1_; clear n0_ n1_; (try clear hb); (try clear hb2); (try clear hk); (try clear hi); have hcz16_0 : w15.cell? ⟨gb160, 0, none⟩ = some (.bool a0_0) := (blk_cell BK160.out 0).trans rfl; have hcz16_1 : w15.cell? ⟨gb160, 1, none⟩ = some (.bool a0_1) := (blk_cell BK160.out 1).trans rfl; have hcz16_2 : w15.cell? ⟨gb160, 2, none⟩ = some (.string a0_2) := (blk_cell BK160.out 2).trans rfl; have hcz16_3 : w15.cell? ⟨gb160, 3, none⟩ = some (.int .i64 a0_3) := (blk_cell BK160.out 3).trans rfl; have hfz16_0 := blk_frozen BK160.out 0; have hfz16_1 := blk_frozen BK160.out 1; have hfz16_2 := blk_frozen BK160.out 2; have hfz16_3 := blk_frozen BK160.out 3) | (go_at_call 44; (with_reducible refine (vernierref18_Normed.calls k a0_0 a0_1 a0_2 a0_3 false t163 t164 t165 _ A4.out).mono ?_); rintro e w17 ⟨rfl, hb⟩; have n0_ := Aside0.mk (blk_below (g := gb160) (o := .cells #[.bool a0_0, .bool a0_1, .string a0_2, .int .i64 a0_3] 36 (0, 0)) (by (with_reducible repeat (first | refine blk_drewN ?_ _ | refine blk_drew ?_ | refine blk_alloc ?_ _)); exact BK160.out) hb); have n1_ := Aside0.mk (below_step (by repeat (first | (with_reducible first | exact HB.out | apply below_alloc | apply pw_below_drewN | apply below_drew1 | refine below_set ?_ GE160.out) | exact HB.out)) hb); clear BK160; clear HB; have BK160 := n0_; have HB := n1_; clear n0_ n1_; (try clear hb); (try clear hb2); (try clear hk); (try clear hi); have hcz18_0 : w17.cell? ⟨gb160, 0, none⟩ = some (.bool a0_0) := (blk_cell BK160.out 0).trans rfl; have hcz18_1 : w17.cell? ⟨gb160, 1, none⟩ = some (.bool a0_1) := (blk_cell BK160.out 1).trans rfl; have hcz18_2 : w17.cell? ⟨gb160, 2, none⟩ = some (.string a0_2) := (blk_cell BK160.out 2).trans rfl; have hcz18_3 : w17.cell? ⟨gb160, 3, none⟩ = some (.int .i64 a0_3) := (blk_cell BK160.out 3).trans rfl; have hfz18_0 := blk_frozen BK160.out 0; have hfz18_1 := blk_frozen BK160.out 1; have hfz18_2 := blk_frozen BK160.out 2; have hfz18_3 := blk_frozen BK160.out 3))
      repeat (go_quiet (first | ((with_reducible refine gate_dst (N := 1) rfl ?_); refine box_event ?hg (N := 1) ?hd (cs := #[.bool a0_0, .bool a0_1, .string a0_2, .int .i64 a0_3]) (t := 36) ?hr ?_; (case hd => rfl); (case hg => rfl); (case hr => first | (go_simp; done) | (go_simp; rfl)); intro gb160 hg w13 hbox hb; have n0_ := Aside0.mk (below_step (by repeat (first | (with_reducible first | exact HB.out | apply below_alloc | apply pw_below_drewN | apply below_drew1) | exact HB.out)) hb); have n1_ := Aside0.mk (hbox); have n2_ := Aside0.mk ((by rw [hg]; exact (below_size (by repeat (first | (with_reducible first | exact HB.out | apply below_alloc | apply pw_below_drewN | apply below_drew1) | exact HB.out))) : w.heap.size ≤ gb160)); have n3_ := Aside0.mk ((by rw [hg]; exact (below_size (by repeat (first | (with_reducible first | exact HB.out | apply below_alloc | apply pw_below_drewN | apply below_drew1) | exact HB.out))) : w.heap.size ≤ gb160)); clear HB; have HB := n0_; have BK160 := n1_; have GW160 := n2_; have GE160 := n3_; clear n0_ n1_ n2_ n3_; clear hb hbox hg; have hcz14_0 : w13.cell? ⟨gb160, 0, none⟩ = some (.bool a0_0) := (blk_cell BK160.out 0).trans rfl; have hcz14_1 : w13.cell? ⟨gb160, 1, none⟩ = some (.bool a0_1) := (blk_cell BK160.out 1).trans rfl; have hcz14_2 : w13.cell? ⟨gb160, 2, none⟩ = some (.string a0_2) := (blk_cell BK160.out 2).trans rfl; have hcz14_3 : w13.cell? ⟨gb160, 3, none⟩ = some (.int .i64 a0_3) := (blk_cell BK160.out 3).trans rfl; have hfz14_0 := blk_frozen BK160.out 0; have hfz14_1 := blk_frozen BK160.out 1; have hfz14_2 := blk_frozen BK160.out 2; have hfz14_3 := blk_frozen BK160.out 3) | (go_at_call 52; (with_reducible refine (vernierref18_Formed.calls k a0_0 a0_1 a0_2 a0_3 true _ A2.out).mono ?_); rintro e w15 ⟨rfl, hb⟩; have n0_ := Aside0.mk (blk_below (g := gb160) (o := .cells #[.bool a0_0, .bool a0_1, .string a0_2, .int .i64 a0_3] 36 (0, 0)) (by (with_reducible repeat (first | refine blk_drewN ?_ _ | refine blk_drew ?_ | refine blk_alloc ?_ _)); exact BK160.out) hb); have n1_ := Aside0.mk (below_step (by repeat (first | (with_reducible first | exact HB.out | apply below_alloc | apply pw_below_drewN | apply below_drew1 | refine below_set ?_ GE160.out) | exact HB.out)) hb); clear BK160; clear HB; have BK160 := n0_; have HB := n1_; clear n0_ n1_; (try clear hb); (try clear hb2); (try clear hk); (try clear hi); have hcz16_0 : w15.cell? ⟨gb160, 0, none⟩ = some (.bool a0_0) := (blk_cell BK160.out 0).trans rfl; have hcz16_1 : w15.cell? ⟨gb160, 1, none⟩ = some (.bool a0_1) := (blk_cell BK160.out 1).trans rfl; have hcz16_2 : w15.cell? ⟨gb160, 2, none⟩ = some (.string a0_2) := (blk_cell BK160.out 2).trans rfl; have hcz16_3 : w15.cell? ⟨gb160, 3, none⟩ = some (.int .i64 a0_3) := (blk_cell BK160.out 3).trans rfl; have hfz16_0 := blk_frozen BK160.out 0; have hfz16_1 := blk_frozen BK160.out 1; have hfz16_2 := blk_frozen BK160.out 2; have hfz16_3 := blk_frozen BK160.out 3) | (go_at_call 44; (with_reducible refine (vernierref18_Normed.calls k a0_0 a0_1 a0_2 a0_3 false t163 t164 t165 _ A4.out).mono ?_); rintro e w17 ⟨rfl, hb⟩; have n0_ := Aside0.mk (blk_below (g := gb160) (o := .cells #[.bool a0_0, .bool a0_1, .string a0_2, .int .i64 a0_3] 36 (0, 0)) (by (with_reducible repeat (first | refine blk_drewN ?_ _ | refine blk_drew ?_ | refine blk_alloc ?_ _)); exact BK160.out) hb); have n1_ := Aside0.mk (below_step (by repeat (first | (with_reducible first | exact HB.out | apply below_alloc | apply pw_below_drewN | apply below_drew1 | refine below_set ?_ GE160.out) | exact HB.out)) hb); clear BK160; clear HB; have BK160 := n0_; have HB := n1_; clear n0_ n1_; (try clear hb); (try clear hb2); (try clear hk); (try clear hi); have hcz18_0 : w17.cell? ⟨gb160, 0, none⟩ = some (.bool a0_0) := (blk_cell BK160.out 0).trans rfl; have hcz18_1 : w17.cell? ⟨gb160, 1, none⟩ = some (.bool a0_1) := (blk_cell BK160.out 1).trans rfl; have hcz18_2 : w17.cell? ⟨gb160, 2, none⟩ = some (.string a0_2) := (blk_cell BK160.out 2).trans rfl; have hcz18_3 : w17.cell? ⟨gb160, 3, none⟩ = some (.int .i64 a0_3) := (blk_cell BK160.out 3).trans rfl; have hfz18_0 := blk_frozen BK160.out 0; have hfz18_1 := blk_frozen BK160.out 1; have hfz18_2 := blk_frozen BK160.out 2; have hfz18_3 := blk_frozen BK160.out 3)); go_upto_if 16 with (first | ((with_reducible refine gate_dst (N := 1) rfl ?_); refine box_event ?hg (N := 1) ?hd (cs := #[.bool a0_0, .bool a0_1, .string a0_2, .int .i64 a0_3]) (t := 36) ?hr ?_; (case hd => rfl); (case hg => rfl); (case hr => first | (go_simp; done) | (go_simp; rfl)); intro gb160 hg w13 hbox hb; have n0_ := Aside0.mk (below_step (by repeat (first | (with_reducible first | exact HB.out | apply below_alloc | apply pw_below_drewN | apply below_drew1) | exact HB.out)) hb); have n1_ := Aside0.mk (hbox); have n2_ := Aside0.mk ((by rw [hg]; exact (below_size (by repeat (first | (with_reducible first | exact HB.out | apply below_alloc | apply pw_below_drewN | apply below_drew1) | exact HB.out))) : w.heap.size ≤ gb160)); have n3_ := Aside0.mk ((by rw [hg]; exact (below_size (by repeat (first | (with_reducible first | exact HB.out | apply below_alloc | apply pw_below_drewN | apply below_drew1) | exact HB.out))) : w.heap.size ≤ gb160)); clear HB; have HB := n0_; have BK160 := n1_; have GW160 := n2_; have GE160 := n3_; clear n0_ n1_ n2_ n3_; clear hb hbox hg; have hcz14_0 : w13.cell? ⟨gb160, 0, none⟩ = some (.bool a0_0) := (blk_cell BK160.out 0).trans rfl; have hcz14_1 : w13.cell? ⟨gb160, 1, none⟩ = some (.bool a0_1) := (blk_cell BK160.out 1).trans rfl; have hcz14_2 : w13.cell? ⟨gb160, 2, none⟩ = some (.string a0_2) := (blk_cell BK160.out 2).trans rfl; have hcz14_3 : w13.cell? ⟨gb160, 3, none⟩ = some (.int .i64 a0_3) := (blk_cell BK160.out 3).trans rfl; have hfz14_0 := blk_frozen BK160.out 0; have hfz14_1 := blk_frozen BK160.out 1; have hfz14_2 := blk_frozen BK160.out 2; have hfz14_3 := blk_frozen BK160.out 3) | (go_at_call 52; (with_reducible refine (vernierref18_Formed.calls k a0_0 a0_1 a0_2 a0_3 true _ A2.out).mono ?_); rintro e w15 ⟨rfl, hb⟩; have n0_ := Aside0.mk (blk_below (g := gb160) (o := .cells #[.bool a0_0, .bool a0_1, .string a0_2, .int .i64 a0_3] 36 (0, 0)) (by (with_reducible repeat (first | refine blk_drewN ?_ _ | refine blk_drew ?_ | refine blk_alloc ?_ _)); exact BK160.out) hb); have n1_ := Aside0.mk (below_step (by repeat (first | (with_reducible first | exact HB.out | apply below_alloc | apply pw_below_drewN | apply below_drew1 | refine below_set ?_ GE160.out) | exact HB.out)) hb); clear BK160; clear HB; have BK160 := n0_; have HB := n1_; clear n0_ n1_; (try clear hb); (try clear hb2); (try clear hk); (try clear hi); have hcz16_0 : w15.cell? ⟨gb160, 0, none⟩ = some (.bool a0_0) := (blk_cell BK160.out 0).trans rfl; have hcz16_1 : w15.cell? ⟨gb160, 1, none⟩ = some (.bool a0_1) := (blk_cell BK160.out 1).trans rfl; have hcz16_2 : w15.cell? ⟨gb160, 2, none⟩ = some (.string a0_2) := (blk_cell BK160.out 2).trans rfl; have hcz16_3 : w15.cell? ⟨gb160, 3, none⟩ = some (.int .i64 a0_3) := (blk_cell BK160.out 3).trans rfl; have hfz16_0 := blk_frozen BK160.out 0; have hfz16_1 := blk_frozen BK160.out 1; have hfz16_2 := blk_frozen BK160.out 2; have hfz16_3 := blk_frozen BK160.out 3) | (go_at_call 44; (with_reducible refine (vernierref18_Normed.calls k a0_0 a0_1 a0_2 a0_3 false t163 t164 t165 _ A4.out).mono ?_); rintro e w17 ⟨rfl, hb⟩; have n0_ := Aside0.mk (blk_below (g := gb160) (o := .cells #[.bool a0_0, .bool a0_1, .string a0_2, .int .i64 a0_3] 36 (0, 0)) (by (with_reducible repeat (first | refine blk_drewN ?_ _ | refine blk_drew ?_ | refine blk_alloc ?_ _)); exact BK160.out) hb); have n1_ := Aside0.mk (below_step (by repeat (first | (with_reducible first | exact HB.out | apply below_alloc | apply pw_below_drewN | apply below_drew1 | refine below_set ?_ GE160.out) | exact HB.out)) hb); clear BK160; clear HB; have BK160 := n0_; have HB := n1_; clear n0_ n1_; (try clear hb); (try clear hb2); (try clear hk); (try clear hi); have hcz18_0 : w17.cell? ⟨gb160, 0, none⟩ = some (.bool a0_0) := (blk_cell BK160.out 0).trans rfl; have hcz18_1 : w17.cell? ⟨gb160, 1, none⟩ = some (.bool a0_1) := (blk_cell BK160.out 1).trans rfl; have hcz18_2 : w17.cell? ⟨gb160, 2, none⟩ = some (.string a0_2) := (blk_cell BK160.out 2).trans rfl; have hcz18_3 : w17.cell? ⟨gb160, 3, none⟩ = some (.int .i64 a0_3) := (blk_cell BK160.out 3).trans rfl; have hfz18_0 := blk_frozen BK160.out 0; have hfz18_1 := blk_frozen BK160.out 1; have hfz18_2 := blk_frozen BK160.out 2; have hfz18_3 := blk_frozen BK160.out 3)))
      (try simp only [Act.put, List.setIfInBounds_toArray, List.set_cons_zero, List.set_cons_succ])
      go_cut [5] (fun v5 wc => ∃ (kq : Nat) (x5_11 : ByteArray), v5 = .string x5_11 ∧ Aside0 (vernierref18_Text.j0 kq x5_11 false t163 t164 t165 = some (r1, r2)) ∧ Aside0 (kq ≤ k) ∧ Aside0 (wc.heap[gb160]? = some (.cells #[.bool false, .bool t163, .string t164, .int .i64 t165] 36 (0, 0))) ∧ Aside0 (Below w.heap.size w wc))
      case first =>
        have H := HC12.out
        clear HC12
        by_cases c19 : t163 = true
        · subst c19
          have H1 : (vernierref18_Text.j0 k (⟨#[45]⟩ : ByteArray) false true t164 t165) = some (r1, r2) := by rw [if_pos rfl] at H; exact H
          clear H
          have H := H1
          clear H1
          have H' := Aside0.mk H
          clear H
          go_wp2
          repeat (go_quiet (fail); try go_wp2)
          go_meet
          case rel => exact ⟨_, ((⟨#[45]⟩ : ByteArray)), (by first | rfl | (simp; done) | (simp [*]; done)), H', ⟨by first | omega | exact Nat.le_refl _⟩, ⟨by (with_reducible repeat (first | refine blk_drewN ?_ _ | refine blk_drew ?_ | refine blk_alloc ?_ _)); refine blk_put (cs := #[.bool false, .bool true, .string t164, .int .i64 a0_3]) ?_ 3 _ rfl; (with_reducible repeat (first | refine blk_drewN ?_ _ | refine blk_drew ?_ | refine blk_alloc ?_ _)); refine blk_put (cs := #[.bool false, .bool true, .string a0_2, .int .i64 a0_3]) ?_ 2 _ rfl; (with_reducible repeat (first | refine blk_drewN ?_ _ | refine blk_drew ?_ | refine blk_alloc ?_ _)); refine blk_put (cs := #[.bool false, .bool a0_1, .string a0_2, .int .i64 a0_3]) ?_ 1 _ rfl; (with_reducible repeat (first | refine blk_drewN ?_ _ | refine blk_drew ?_ | refine blk_alloc ?_ _)); refine blk_put (cs := #[.bool a0_0, .bool a0_1, .string a0_2, .int .i64 a0_3]) ?_ 0 _ rfl; (with_reducible repeat (first | refine blk_drewN ?_ _ | refine blk_drew ?_ | refine blk_alloc ?_ _)); exact BK160.out⟩, ⟨by repeat (first | (with_reducible first | exact HB.out | apply below_alloc | apply pw_below_drewN | apply below_drew1 | refine below_set ?_ GE160.out) | exact HB.out)⟩⟩
        · replace c19 := Bool.eq_false_iff.mpr c19
          subst c19
          have H1 : (vernierref18_Text.j0 k (⟨#[]⟩ : ByteArray) false false t164 t165) = some (r1, r2) := by rw [if_neg (show ¬ (false = true) by decide)] at H; exact H
          clear H
          have H := H1
          clear H1
          have H' := Aside0.mk H
          clear H
          go_wp2
          repeat (go_quiet (fail); try go_wp2)
          go_meet
          case rel => exact ⟨_, ((⟨#[]⟩ : ByteArray)), (by first | rfl | (simp; done) | (simp [*]; done)), H', ⟨by first | omega | exact Nat.le_refl _⟩, ⟨by (with_reducible repeat (first | refine blk_drewN ?_ _ | refine blk_drew ?_ | refine blk_alloc ?_ _)); refine blk_put (cs := #[.bool false, .bool false, .string t164, .int .i64 a0_3]) ?_ 3 _ rfl; (with_reducible repeat (first | refine blk_drewN ?_ _ | refine blk_drew ?_ | refine blk_alloc ?_ _)); refine blk_put (cs := #[.bool false, .bool false, .string a0_2, .int .i64 a0_3]) ?_ 2 _ rfl; (with_reducible repeat (first | refine blk_drewN ?_ _ | refine blk_drew ?_ | refine blk_alloc ?_ _)); refine blk_put (cs := #[.bool false, .bool a0_1, .string a0_2, .int .i64 a0_3]) ?_ 1 _ rfl; (with_reducible repeat (first | refine blk_drewN ?_ _ | refine blk_drew ?_ | refine blk_alloc ?_ _)); refine blk_put (cs := #[.bool a0_0, .bool a0_1, .string a0_2, .int .i64 a0_3]) ?_ 0 _ rfl; (with_reducible repeat (first | refine blk_drewN ?_ _ | refine blk_drew ?_ | refine blk_alloc ?_ _)); exact BK160.out⟩, ⟨by repeat (first | (with_reducible first | exact HB.out | apply below_alloc | apply pw_below_drewN | apply below_drew1 | refine below_set ?_ GE160.out) | exact HB.out)⟩⟩
      case rest =>
        clear HC12
        try clear c1
        try clear p2
        try clear c3
        try clear c5
        try clear c16
        try clear c19
        try clear hcz11_0
        try clear hcz11_1
        try clear hcz11_2
        try clear hcz11_3
        try clear hcz14_0
        try clear hcz14_1
        try clear hcz14_2
        try clear hcz14_3
        try clear hcz16_0
        try clear hcz16_1
        try clear hcz16_2
        try clear hcz16_3
        try clear hcz18_0
        try clear hcz18_1
        try clear hcz18_2
        try clear hcz18_3
        try clear hcz7_0
        try clear hcz7_1
        try clear hcz7_2
        try clear hcz7_3
        try clear hcz9_0
        try clear hcz9_1
        try clear hcz9_2
        try clear hcz9_3
        try clear hfz11_0
        try clear hfz11_1
        try clear hfz11_2
        try clear hfz11_3
        try clear hfz14_0
        try clear hfz14_1
        try clear hfz14_2
        try clear hfz14_3
        try clear hfz16_0
        try clear hfz16_1
        try clear hfz16_2
        try clear hfz16_3
        try clear hfz18_0
        try clear hfz18_1
        try clear hfz18_2
        try clear hfz18_3
        try clear hfz7_0
        try clear hfz7_1
        try clear hfz7_2
        try clear hfz7_3
        try clear hfz9_0
        try clear hfz9_1
        try clear hfz9_2
        try clear hfz9_3
        obtain ⟨kq, x5_11, rfl, HA, HJ11, BK160, HB⟩ := hcut
        cases kq with
        | zero => exact absurd HA.out (by simp [vernierref18_Text.j0])
        | succ kj11 =>
          have H := HA.out
          clear HA
          simp only [vernierref18_Text.j0] at H
          have HC20 := Aside0.mk H
          clear H
          have hcz21_0 : wc.cell? ⟨gb160, 0, none⟩ = some (.bool false) := (blk_cell BK160.out 0).trans rfl
          have hcz21_1 : wc.cell? ⟨gb160, 1, none⟩ = some (.bool t163) := (blk_cell BK160.out 1).trans rfl
          have hcz21_2 : wc.cell? ⟨gb160, 2, none⟩ = some (.string t164) := (blk_cell BK160.out 2).trans rfl
          have hcz21_3 : wc.cell? ⟨gb160, 3, none⟩ = some (.int .i64 t165) := (blk_cell BK160.out 3).trans rfl
          have hfz21_0 := blk_frozen BK160.out 0
          have hfz21_1 := blk_frozen BK160.out 1
          have hfz21_2 := blk_frozen BK160.out 2
          have hfz21_3 := blk_frozen BK160.out 3
          go_upto_region 11 with (fail)
          repeat (go_quiet (fail); go_upto_region 11 with (fail))
          go_cut [23] (fun v23 wc => ∃ (kq : Nat) (x23_19 : Bool), v23 = .bool x23_19 ∧ Aside0 (vernierref18_Text.j1 kq x5_11 (wrap64 ((t164.size : Int) + t165)) x23_19 false t163 t164 t165 = some (r1, r2)) ∧ Aside0 (kq ≤ kj11) ∧ Aside0 (wc.heap[gb160]? = some (.cells #[.bool false, .bool t163, .string t164, .int .i64 t165] 36 (0, 0))) ∧ Aside0 (Below w.heap.size w wc))
          case first =>
            have H := HC20.out
            clear HC20
            by_cases c22 : t165 ≥ 0
            · rw [if_pos c22] at H
              have c22b0 : decide (0 ≤ t165) = true := decide_eq_true c22
              clear c22
              (first | rw [c22b0] | (simp only [i64_w, i32_w]; rw [c22b0]) | rw [c22b1] | rw [List.isEmpty_iff.mpr (beq_iff_eq.mp c22b0)] | rw [List.isEmpty_eq_false_iff.mpr (beq_eq_false_iff_ne.mp c22b0)] | skip)
              have H' := Aside0.mk H
              clear H
              have hcz23_0 : wc.cell? ⟨gb160, 0, none⟩ = some (.bool false) := (blk_cell BK160.out 0).trans rfl
              have hcz23_1 : wc.cell? ⟨gb160, 1, none⟩ = some (.bool t163) := (blk_cell BK160.out 1).trans rfl
              have hcz23_2 : wc.cell? ⟨gb160, 2, none⟩ = some (.string t164) := (blk_cell BK160.out 2).trans rfl
              have hcz23_3 : wc.cell? ⟨gb160, 3, none⟩ = some (.int .i64 t165) := (blk_cell BK160.out 3).trans rfl
              have hfz23_0 := blk_frozen BK160.out 0
              have hfz23_1 := blk_frozen BK160.out 1
              have hfz23_2 := blk_frozen BK160.out 2
              have hfz23_3 := blk_frozen BK160.out 3
              go_wp2
              repeat (go_quiet (fail); try go_wp2)
              go_meet
              case rel => exact ⟨_, (decide ((wrap64 ((t164.size : Int) + t165)) ≤ 21)), (by first | rfl | (simp; done) | (simp [*]; done)), H', ⟨by have := HJ11.out; first | omega | exact Nat.le_refl _⟩, ⟨by (with_reducible repeat (first | refine blk_drewN ?_ _ | refine blk_drew ?_ | refine blk_alloc ?_ _)); exact BK160.out⟩, ⟨by repeat (first | (with_reducible first | exact HB.out | apply below_alloc | apply pw_below_drewN | apply below_drew1 | refine below_set ?_ GE160.out) | exact HB.out)⟩⟩
            · rw [if_neg c22] at H
              have c22b0 : decide (0 ≤ t165) = false := decide_eq_false c22
              clear c22
              (first | rw [c22b0] | (simp only [i64_w, i32_w]; rw [c22b0]) | rw [c22b1] | rw [List.isEmpty_iff.mpr (beq_iff_eq.mp c22b0)] | rw [List.isEmpty_eq_false_iff.mpr (beq_eq_false_iff_ne.mp c22b0)] | skip)
              have H' := Aside0.mk H
              clear H
              have hcz24_0 : wc.cell? ⟨gb160, 0, none⟩ = some (.bool false) := (blk_cell BK160.out 0).trans rfl
              have hcz24_1 : wc.cell? ⟨gb160, 1, none⟩ = some (.bool t163) := (blk_cell BK160.out 1).trans rfl
              have hcz24_2 : wc.cell? ⟨gb160, 2, none⟩ = some (.string t164) := (blk_cell BK160.out 2).trans rfl
              have hcz24_3 : wc.cell? ⟨gb160, 3, none⟩ = some (.int .i64 t165) := (blk_cell BK160.out 3).trans rfl
              have hfz24_0 := blk_frozen BK160.out 0
              have hfz24_1 := blk_frozen BK160.out 1
              have hfz24_2 := blk_frozen BK160.out 2
              have hfz24_3 := blk_frozen BK160.out 3
              go_wp2
              repeat (go_quiet (fail); try go_wp2)
              go_meet
              case rel => exact ⟨_, (false), (by first | rfl | (simp; done) | (simp [*]; done)), H', ⟨by have := HJ11.out; first | omega | exact Nat.le_refl _⟩, ⟨by (with_reducible repeat (first | refine blk_drewN ?_ _ | refine blk_drew ?_ | refine blk_alloc ?_ _)); exact BK160.out⟩, ⟨by repeat (first | (with_reducible first | exact HB.out | apply below_alloc | apply pw_below_drewN | apply below_drew1 | refine below_set ?_ GE160.out) | exact HB.out)⟩⟩
          case rest =>
            clear HC20
            try clear c1
            try clear c2
            try clear p2
            try clear c3
            try clear c5
            try clear p6
            try clear c16
            try clear c19
            try clear c22
            try clear c22b0
            try clear c22b1
            try clear hcz11_0
            try clear hcz11_1
            try clear hcz11_2
            try clear hcz11_3
            try clear hcz14_0
            try clear hcz14_1
            try clear hcz14_2
            try clear hcz14_3
            try clear hcz16_0
            try clear hcz16_1
            try clear hcz16_2
            try clear hcz16_3
            try clear hcz18_0
            try clear hcz18_1
            try clear hcz18_2
            try clear hcz18_3
            try clear hcz21_0
            try clear hcz21_1
            try clear hcz21_2
            try clear hcz21_3
            try clear hcz23_0
            try clear hcz23_1
            try clear hcz23_2
            try clear hcz23_3
            try clear hcz24_0
            try clear hcz24_1
            try clear hcz24_2
            try clear hcz24_3
            try clear hcz7_0
            try clear hcz7_1
            try clear hcz7_2
            try clear hcz7_3
            try clear hcz9_0
            try clear hcz9_1
            try clear hcz9_2
            try clear hcz9_3
            try clear hfz11_0
            try clear hfz11_1
            try clear hfz11_2
            try clear hfz11_3
            try clear hfz14_0
            try clear hfz14_1
            try clear hfz14_2
            try clear hfz14_3
            try clear hfz16_0
            try clear hfz16_1
            try clear hfz16_2
            try clear hfz16_3
            try clear hfz18_0
            try clear hfz18_1
            try clear hfz18_2
            try clear hfz18_3
            try clear hfz21_0
            try clear hfz21_1
            try clear hfz21_2
            try clear hfz21_3
            try clear hfz23_0
            try clear hfz23_1
            try clear hfz23_2
            try clear hfz23_3
            try clear hfz24_0
            try clear hfz24_1
            try clear hfz24_2
            try clear hfz24_3
            try clear hfz7_0
            try clear hfz7_1
            try clear hfz7_2
            try clear hfz7_3
            try clear hfz9_0
            try clear hfz9_1
            try clear hfz9_2
            try clear hfz9_3
            try clear p2
            obtain ⟨kq, x23_19, rfl, HA, HJ19, BK160, HB⟩ := hcut
            cases kq with
            | zero => exact absurd HA.out (by simp [vernierref18_Text.j1])
            | succ kj19 =>
              have H := HA.out
              clear HA
              simp only [vernierref18_Text.j1] at H
              by_cases c25 : x23_19 = true
              · subst c25
                have H1 : (if x5_11.size + t164.size ≤ 9223372036854775807 then ((vernierref18_noughts.f kj19 t165).bind fun t166 => (if (x5_11 ++ t164).size + t166.size ≤ 9223372036854775807 then (some ((x5_11 ++ t164) ++ t166, 0)) else (none))) else (none)) = some (r1, r2) := by rw [if_pos rfl] at H; exact H
                clear H
                have H := H1
                clear H1
                by_cases c26 : x5_11.size + t164.size ≤ 9223372036854775807
                · rw [if_pos c26] at H
                  have c26b0 := eq_true c26
                  have c26b1 : decide (x5_11.size + t164.size ≤ 9223372036854775807) = true := decide_eq_true c26
                  try have c26b2 : (9223372036854775807 < x5_11.size + t164.size) = False := eq_false (Nat.not_lt.2 c26)
                  try have c26m : (9223372036854775807 < x5_11.size + t164.size) = False := eq_false (by have h_ := c26; have l1_ : (⟨#[46]⟩ : ByteArray).size = 1 := rfl; have l2_ : (⟨#[48, 46]⟩ : ByteArray).size = 2 := rfl; have l3_ : (⟨#[101]⟩ : ByteArray).size = 1 := rfl; (try simp only [ByteArray.size_append, ByteArray.size_extract] at h_); omega)
                  try have c26n : (9223372036854775807 < x5_11.size + t164.size) = False := eq_false (by have h_ := c26; have l1_ : (⟨#[46]⟩ : ByteArray).size = 1 := rfl; have l2_ : (⟨#[48, 46]⟩ : ByteArray).size = 2 := rfl; have l3_ : (⟨#[101]⟩ : ByteArray).size = 1 := rfl; (try simp only [ByteArray.size_append, ByteArray.size_extract] at h_); omega)
                  replace H := Option.bind_eq_some_iff.mp H
                  obtain ⟨t166, A270, H⟩ := H
                  replace H : (if (x5_11 ++ t164).size + t166.size ≤ 9223372036854775807 then (some ((x5_11 ++ t164) ++ t166, 0)) else (none)) = some (r1, r2) := H
                  have A27 := Aside0.mk A270
                  clear A270
                  by_cases c28 : (x5_11 ++ t164).size + t166.size ≤ 9223372036854775807
                  · rw [if_pos c28] at H
                    have c28b0 := eq_true c28
                    have c28b1 : decide ((x5_11 ++ t164).size + t166.size ≤ 9223372036854775807) = true := decide_eq_true c28
                    try have c28b2 : (9223372036854775807 < (x5_11 ++ t164).size + t166.size) = False := eq_false (Nat.not_lt.2 c28)
                    try have c28m : (9223372036854775807 < x5_11.size + t164.size + t166.size) = False := eq_false (by have h_ := c28; have l1_ : (⟨#[46]⟩ : ByteArray).size = 1 := rfl; have l2_ : (⟨#[48, 46]⟩ : ByteArray).size = 2 := rfl; have l3_ : (⟨#[101]⟩ : ByteArray).size = 1 := rfl; (try simp only [ByteArray.size_append, ByteArray.size_extract] at h_); omega)
                    try have c28n : (9223372036854775807 < x5_11.size + t164.size + t166.size) = False := eq_false (by have h_ := c28; have l1_ : (⟨#[46]⟩ : ByteArray).size = 1 := rfl; have l2_ : (⟨#[48, 46]⟩ : ByteArray).size = 2 := rfl; have l3_ : (⟨#[101]⟩ : ByteArray).size = 1 := rfl; (try simp only [ByteArray.size_append, ByteArray.size_extract] at h_); omega)
                    simp only [Option.some.injEq, Prod.mk.injEq] at H
                    obtain ⟨rfl, rfl⟩ := H
                    have hcz29_0 : wc.cell? ⟨gb160, 0, none⟩ = some (.bool false) := (blk_cell BK160.out 0).trans rfl
                    have hcz29_1 : wc.cell? ⟨gb160, 1, none⟩ = some (.bool t163) := (blk_cell BK160.out 1).trans rfl
                    have hcz29_2 : wc.cell? ⟨gb160, 2, none⟩ = some (.string t164) := (blk_cell BK160.out 2).trans rfl
                    have hcz29_3 : wc.cell? ⟨gb160, 3, none⟩ = some (.int .i64 t165) := (blk_cell BK160.out 3).trans rfl
                    have hfz29_0 := blk_frozen BK160.out 0
                    have hfz29_1 := blk_frozen BK160.out 1
                    have hfz29_2 := blk_frozen BK160.out 2
                    have hfz29_3 := blk_frozen BK160.out 3
                    go_wp2_with (first | (go_at_call 53; (with_reducible refine (vernierref18_noughts.calls kj19 t165 t166 _ A27.out).mono ?_); rintro e w' ⟨rfl, ⟨nd, rfl⟩⟩; (try first | exact ⟨rfl, _, World.drewN_drewN _ _ _⟩ | exact ⟨rfl, _, Eq.trans (World.drewN_drewN _ _ _) (congrArg (World.drewN _) (Nat.add_assoc _ _ _))⟩)))
                    repeat (go_quiet (first | (go_at_call 53; (with_reducible refine (vernierref18_noughts.calls kj19 t165 t166 _ A27.out).mono ?_); rintro e w' ⟨rfl, ⟨nd, rfl⟩⟩; (try first | exact ⟨rfl, _, World.drewN_drewN _ _ _⟩ | exact ⟨rfl, _, Eq.trans (World.drewN_drewN _ _ _) (congrArg (World.drewN _) (Nat.add_assoc _ _ _))⟩))); try go_wp2_with (first | (go_at_call 53; (with_reducible refine (vernierref18_noughts.calls kj19 t165 t166 _ A27.out).mono ?_); rintro e w' ⟨rfl, ⟨nd, rfl⟩⟩; (try first | exact ⟨rfl, _, World.drewN_drewN _ _ _⟩ | exact ⟨rfl, _, Eq.trans (World.drewN_drewN _ _ _) (congrArg (World.drewN _) (Nat.add_assoc _ _ _))⟩))))
                    go_ret2
                    exact ⟨by first | rfl | (simp [errW_none, errW_some] <;> rfl) | (simp [*, errW_none, errW_some] <;> rfl), by repeat (first | (with_reducible first | exact HB.out | apply below_alloc | apply pw_below_drewN | apply below_drew1 | refine below_set ?_ GE160.out) | exact HB.out)⟩
                  · rw [if_neg c28] at H
                    exact absurd H (by simp)
                · rw [if_neg c26] at H
                  exact absurd H (by simp)
              · replace c25 := Bool.eq_false_iff.mpr c25
                subst c25
                have H1 : (if (wrap64 ((t164.size : Int) + t165)) ≥ 1 then (vernierref18_Text.j2 kj19 x5_11 (wrap64 ((t164.size : Int) + t165)) (decide ((wrap64 ((t164.size : Int) + t165)) ≤ 21)) false t163 t164 t165) else (vernierref18_Text.j2 kj19 x5_11 (wrap64 ((t164.size : Int) + t165)) false false t163 t164 t165)) = some (r1, r2) := by rw [if_neg (show ¬ (false = true) by decide)] at H; exact H
                clear H
                have H := H1
                clear H1
                have HC30 := Aside0.mk H
                clear H
                go_upto_region 13 with (fail)
                repeat (go_quiet (fail); go_upto_region 13 with (fail))
                go_cut [39] (fun v39 wc => ∃ (kq : Nat) (x39_29 : Bool), v39 = .bool x39_29 ∧ Aside0 (vernierref18_Text.j2 kq x5_11 (wrap64 ((t164.size : Int) + t165)) x39_29 false t163 t164 t165 = some (r1, r2)) ∧ Aside0 (kq ≤ kj19) ∧ Aside0 (wc.heap[gb160]? = some (.cells #[.bool false, .bool t163, .string t164, .int .i64 t165] 36 (0, 0))) ∧ Aside0 (Below w.heap.size w wc))
                case first =>
                  have H := HC30.out
                  clear HC30
                  by_cases c31 : (wrap64 ((t164.size : Int) + t165)) ≥ 1
                  · rw [if_pos c31] at H
                    have c31b0 : decide (1 ≤ (wrap64 ((t164.size : Int) + t165))) = true := decide_eq_true c31
                    clear c31
                    (first | rw [c31b0] | (simp only [i64_w, i32_w]; rw [c31b0]) | rw [c31b1] | rw [List.isEmpty_iff.mpr (beq_iff_eq.mp c31b0)] | rw [List.isEmpty_eq_false_iff.mpr (beq_eq_false_iff_ne.mp c31b0)] | skip)
                    have H' := Aside0.mk H
                    clear H
                    go_wp2
                    repeat (go_quiet (fail); try go_wp2)
                    go_meet
                    case rel => exact ⟨_, (decide ((wrap64 ((t164.size : Int) + t165)) ≤ 21)), (by first | rfl | (simp; done) | (simp [*]; done)), H', ⟨by have := HJ11.out; have := HJ19.out; first | omega | exact Nat.le_refl _⟩, ⟨by (with_reducible repeat (first | refine blk_drewN ?_ _ | refine blk_drew ?_ | refine blk_alloc ?_ _)); exact BK160.out⟩, ⟨by repeat (first | (with_reducible first | exact HB.out | apply below_alloc | apply pw_below_drewN | apply below_drew1 | refine below_set ?_ GE160.out) | exact HB.out)⟩⟩
                  · rw [if_neg c31] at H
                    have c31b0 : decide (1 ≤ (wrap64 ((t164.size : Int) + t165))) = false := decide_eq_false c31
                    clear c31
                    (first | rw [c31b0] | (simp only [i64_w, i32_w]; rw [c31b0]) | rw [c31b1] | rw [List.isEmpty_iff.mpr (beq_iff_eq.mp c31b0)] | rw [List.isEmpty_eq_false_iff.mpr (beq_eq_false_iff_ne.mp c31b0)] | skip)
                    have H' := Aside0.mk H
                    clear H
                    go_wp2
                    repeat (go_quiet (fail); try go_wp2)
                    go_meet
                    case rel => exact ⟨_, (false), (by first | rfl | (simp; done) | (simp [*]; done)), H', ⟨by have := HJ11.out; have := HJ19.out; first | omega | exact Nat.le_refl _⟩, ⟨by (with_reducible repeat (first | refine blk_drewN ?_ _ | refine blk_drew ?_ | refine blk_alloc ?_ _)); exact BK160.out⟩, ⟨by repeat (first | (with_reducible first | exact HB.out | apply below_alloc | apply pw_below_drewN | apply below_drew1 | refine below_set ?_ GE160.out) | exact HB.out)⟩⟩
                case rest =>
                  clear HC30
                  try clear c1
                  try clear c2
                  try clear p2
                  try clear c3
                  try clear c5
                  try clear p6
                  try clear c16
                  try clear c19
                  try clear c22
                  try clear c22b0
                  try clear c22b1
                  try clear c25
                  try clear c26
                  try clear c26b0
                  try clear c26b1
                  try clear c26b2
                  try clear c28
                  try clear c28b0
                  try clear c28b1
                  try clear c28b2
                  try clear c31
                  try clear c31b0
                  try clear c31b1
                  try clear hcz11_0
                  try clear hcz11_1
                  try clear hcz11_2
                  try clear hcz11_3
                  try clear hcz14_0
                  try clear hcz14_1
                  try clear hcz14_2
                  try clear hcz14_3
                  try clear hcz16_0
                  try clear hcz16_1
                  try clear hcz16_2
                  try clear hcz16_3
                  try clear hcz18_0
                  try clear hcz18_1
                  try clear hcz18_2
                  try clear hcz18_3
                  try clear hcz21_0
                  try clear hcz21_1
                  try clear hcz21_2
                  try clear hcz21_3
                  try clear hcz23_0
                  try clear hcz23_1
                  try clear hcz23_2
                  try clear hcz23_3
                  try clear hcz24_0
                  try clear hcz24_1
                  try clear hcz24_2
                  try clear hcz24_3
                  try clear hcz29_0
                  try clear hcz29_1
                  try clear hcz29_2
                  try clear hcz29_3
                  try clear hcz7_0
                  try clear hcz7_1
                  try clear hcz7_2
                  try clear hcz7_3
                  try clear hcz9_0
                  try clear hcz9_1
                  try clear hcz9_2
                  try clear hcz9_3
                  try clear hfz11_0
                  try clear hfz11_1
                  try clear hfz11_2
                  try clear hfz11_3
                  try clear hfz14_0
                  try clear hfz14_1
                  try clear hfz14_2
                  try clear hfz14_3
                  try clear hfz16_0
                  try clear hfz16_1
                  try clear hfz16_2
                  try clear hfz16_3
                  try clear hfz18_0
                  try clear hfz18_1
                  try clear hfz18_2
                  try clear hfz18_3
                  try clear hfz21_0
                  try clear hfz21_1
                  try clear hfz21_2
                  try clear hfz21_3
                  try clear hfz23_0
                  try clear hfz23_1
                  try clear hfz23_2
                  try clear hfz23_3
                  try clear hfz24_0
                  try clear hfz24_1
                  try clear hfz24_2
                  try clear hfz24_3
                  try clear hfz29_0
                  try clear hfz29_1
                  try clear hfz29_2
                  try clear hfz29_3
                  try clear hfz7_0
                  try clear hfz7_1
                  try clear hfz7_2
                  try clear hfz7_3
                  try clear hfz9_0
                  try clear hfz9_1
                  try clear hfz9_2
                  try clear hfz9_3
                  try clear p2
                  try clear p6
                  obtain ⟨kq, x39_29, rfl, HA, HJ29, BK160, HB⟩ := hcut
                  cases kq with
                  | zero => exact absurd HA.out (by simp [vernierref18_Text.j2])
                  | succ kj29 =>
                    have H := HA.out
                    clear HA
                    simp only [vernierref18_Text.j2] at H
                    by_cases c32 : x39_29 = true
                    · subst c32
                      have H1 : (if 0 ≤ (wrap64 ((t164.size : Int) + t165)) then (if (wrap64 ((t164.size : Int) + t165)) ≤ (t164.size : Int) then (if x5_11.size + (t164.extract 0 ((wrap64 ((t164.size : Int) + t165)) : Int).toNat).size ≤ 9223372036854775807 then (if (x5_11 ++ (t164.extract 0 ((wrap64 ((t164.size : Int) + t165)) : Int).toNat)).size + 1 ≤ 9223372036854775807 then (if ((x5_11 ++ (t164.extract 0 ((wrap64 ((t164.size : Int) + t165)) : Int).toNat)) ++ (⟨#[46]⟩ : ByteArray)).size + (t164.extract ((wrap64 ((t164.size : Int) + t165)) : Int).toNat t164.size).size ≤ 9223372036854775807 then (some (((x5_11 ++ (t164.extract 0 ((wrap64 ((t164.size : Int) + t165)) : Int).toNat)) ++ (⟨#[46]⟩ : ByteArray)) ++ (t164.extract ((wrap64 ((t164.size : Int) + t165)) : Int).toNat t164.size), 0)) else (none)) else (none)) else (none)) else (none)) else (none)) = some (r1, r2) := by rw [if_pos rfl] at H; exact H
                      clear H
                      have H := H1
                      clear H1
                      obtain ⟨ji33, hji33⟩ : ∃ j_ : Int, (wrap64 ((t164.size : Int) + t165)) = j_ := ⟨_, rfl⟩
                      replace H : (if 0 ≤ (ji33) then (if (ji33) ≤ (t164.size : Int) then (if x5_11.size + (t164.extract 0 ((ji33) : Int).toNat).size ≤ 9223372036854775807 then (if (x5_11 ++ (t164.extract 0 ((ji33) : Int).toNat)).size + 1 ≤ 9223372036854775807 then (if ((x5_11 ++ (t164.extract 0 ((ji33) : Int).toNat)) ++ (⟨#[46]⟩ : ByteArray)).size + (t164.extract ((ji33) : Int).toNat t164.size).size ≤ 9223372036854775807 then (some (((x5_11 ++ (t164.extract 0 ((ji33) : Int).toNat)) ++ (⟨#[46]⟩ : ByteArray)) ++ (t164.extract ((ji33) : Int).toNat t164.size), 0)) else (none)) else (none)) else (none)) else (none)) else (none)) = some (r1, r2) := by first | (rw [hji33] at H; exact H) | (simp only [hji33] at H ⊢; exact H)
                      have hji33w : (IntKind.i64.wrap ((t164.size : Int) + t165)) = ji33 := (i64_w _).trans hji33
                      by_cases c34 : 0 ≤ (ji33)
                      · rw [if_pos c34] at H
                        have c34b0 := eq_true c34
                        have c34b1 : decide (0 ≤ (ji33)) = true := decide_eq_true c34
                        clear c34
                        by_cases c35 : (ji33) ≤ (t164.size : Int)
                        · rw [if_pos c35] at H
                          have c35b0 := eq_true c35
                          have c35b1 : decide ((ji33) ≤ (t164.size : Int)) = true := decide_eq_true c35
                          clear c35
                          by_cases c36 : x5_11.size + (t164.extract 0 ((ji33) : Int).toNat).size ≤ 9223372036854775807
                          · rw [if_pos c36] at H
                            have c36b0 := eq_true c36
                            have c36b1 : decide (x5_11.size + (t164.extract 0 ((ji33) : Int).toNat).size ≤ 9223372036854775807) = true := decide_eq_true c36
                            try have c36b2 : (9223372036854775807 < x5_11.size + (t164.extract 0 ((ji33) : Int).toNat).size) = False := eq_false (Nat.not_lt.2 c36)
                            try have c36m : (9223372036854775807 < x5_11.size + min ji33.toNat t164.size) = False := eq_false (by have h_ := c36; have l1_ : (⟨#[46]⟩ : ByteArray).size = 1 := rfl; have l2_ : (⟨#[48, 46]⟩ : ByteArray).size = 2 := rfl; have l3_ : (⟨#[101]⟩ : ByteArray).size = 1 := rfl; have u0_ : 0 ≤ (ji33) := of_decide_eq_true (by first | (with_reducible assumption) | assumption); have v0_ : (ji33) ≤ (t164.size : Int) := of_decide_eq_true (by first | (with_reducible assumption) | assumption); (try simp only [ByteArray.size_append, ByteArray.size_extract] at h_); omega)
                            try have c36n : (9223372036854775807 < x5_11.size + ji33.toNat) = False := eq_false (by have h_ := c36; have l1_ : (⟨#[46]⟩ : ByteArray).size = 1 := rfl; have l2_ : (⟨#[48, 46]⟩ : ByteArray).size = 2 := rfl; have l3_ : (⟨#[101]⟩ : ByteArray).size = 1 := rfl; have u0_ : 0 ≤ (ji33) := of_decide_eq_true (by first | (with_reducible assumption) | assumption); have v0_ : (ji33) ≤ (t164.size : Int) := of_decide_eq_true (by first | (with_reducible assumption) | assumption); (try simp only [ByteArray.size_append, ByteArray.size_extract] at h_); omega)
                            by_cases c37 : (x5_11 ++ (t164.extract 0 ((ji33) : Int).toNat)).size + 1 ≤ 9223372036854775807
                            · rw [if_pos c37] at H
                              have c37b0 := eq_true c37
                              have c37b1 : decide ((x5_11 ++ (t164.extract 0 ((ji33) : Int).toNat)).size + 1 ≤ 9223372036854775807) = true := decide_eq_true c37
                              try have c37b2 : (9223372036854775807 < (x5_11 ++ (t164.extract 0 ((ji33) : Int).toNat)).size + 1) = False := eq_false (Nat.not_lt.2 c37)
                              try have c37m : (9223372036854775807 < x5_11.size + min ji33.toNat t164.size + 1) = False := eq_false (by have h_ := c37; have l1_ : (⟨#[46]⟩ : ByteArray).size = 1 := rfl; have l2_ : (⟨#[48, 46]⟩ : ByteArray).size = 2 := rfl; have l3_ : (⟨#[101]⟩ : ByteArray).size = 1 := rfl; have u0_ : 0 ≤ (ji33) := of_decide_eq_true (by first | (with_reducible assumption) | assumption); have v0_ : (ji33) ≤ (t164.size : Int) := of_decide_eq_true (by first | (with_reducible assumption) | assumption); (try simp only [ByteArray.size_append, ByteArray.size_extract] at h_); omega)
                              try have c37n : (9223372036854775807 < x5_11.size + ji33.toNat + 1) = False := eq_false (by have h_ := c37; have l1_ : (⟨#[46]⟩ : ByteArray).size = 1 := rfl; have l2_ : (⟨#[48, 46]⟩ : ByteArray).size = 2 := rfl; have l3_ : (⟨#[101]⟩ : ByteArray).size = 1 := rfl; have u0_ : 0 ≤ (ji33) := of_decide_eq_true (by first | (with_reducible assumption) | assumption); have v0_ : (ji33) ≤ (t164.size : Int) := of_decide_eq_true (by first | (with_reducible assumption) | assumption); (try simp only [ByteArray.size_append, ByteArray.size_extract] at h_); omega)
                              have c38b0 := eq_true (of_decide_eq_true (by first | (with_reducible assumption) | assumption) : 0 ≤ (ji33))
                              have c39b0 := eq_true (of_decide_eq_true (by first | (with_reducible assumption) | assumption) : (ji33) ≤ (t164.size : Int))
                              by_cases c40 : ((x5_11 ++ (t164.extract 0 ((ji33) : Int).toNat)) ++ (⟨#[46]⟩ : ByteArray)).size + (t164.extract ((ji33) : Int).toNat t164.size).size ≤ 9223372036854775807
                              · rw [if_pos c40] at H
                                have c40b0 := eq_true c40
                                have c40b1 : decide (((x5_11 ++ (t164.extract 0 ((ji33) : Int).toNat)) ++ (⟨#[46]⟩ : ByteArray)).size + (t164.extract ((ji33) : Int).toNat t164.size).size ≤ 9223372036854775807) = true := decide_eq_true c40
                                try have c40b2 : (9223372036854775807 < ((x5_11 ++ (t164.extract 0 ((ji33) : Int).toNat)) ++ (⟨#[46]⟩ : ByteArray)).size + (t164.extract ((ji33) : Int).toNat t164.size).size) = False := eq_false (Nat.not_lt.2 c40)
                                try have c40m : (9223372036854775807 < x5_11.size + min ji33.toNat t164.size + 1 + (t164.size - ji33.toNat)) = False := eq_false (by have h_ := c40; have l1_ : (⟨#[46]⟩ : ByteArray).size = 1 := rfl; have l2_ : (⟨#[48, 46]⟩ : ByteArray).size = 2 := rfl; have l3_ : (⟨#[101]⟩ : ByteArray).size = 1 := rfl; have u0_ : 0 ≤ (ji33) := of_decide_eq_true (by first | (with_reducible assumption) | assumption); have v0_ : (ji33) ≤ (t164.size : Int) := of_decide_eq_true (by first | (with_reducible assumption) | assumption); (try simp only [ByteArray.size_append, ByteArray.size_extract] at h_); omega)
                                try have c40n : (9223372036854775807 < x5_11.size + ji33.toNat + 1 + (t164.size - ji33.toNat)) = False := eq_false (by have h_ := c40; have l1_ : (⟨#[46]⟩ : ByteArray).size = 1 := rfl; have l2_ : (⟨#[48, 46]⟩ : ByteArray).size = 2 := rfl; have l3_ : (⟨#[101]⟩ : ByteArray).size = 1 := rfl; have u0_ : 0 ≤ (ji33) := of_decide_eq_true (by first | (with_reducible assumption) | assumption); have v0_ : (ji33) ≤ (t164.size : Int) := of_decide_eq_true (by first | (with_reducible assumption) | assumption); (try simp only [ByteArray.size_append, ByteArray.size_extract] at h_); omega)
                                simp only [Option.some.injEq, Prod.mk.injEq] at H
                                obtain ⟨rfl, rfl⟩ := H
                                have hcz41_0 : wc.cell? ⟨gb160, 0, none⟩ = some (.bool false) := (blk_cell BK160.out 0).trans rfl
                                have hcz41_1 : wc.cell? ⟨gb160, 1, none⟩ = some (.bool t163) := (blk_cell BK160.out 1).trans rfl
                                have hcz41_2 : wc.cell? ⟨gb160, 2, none⟩ = some (.string t164) := (blk_cell BK160.out 2).trans rfl
                                have hcz41_3 : wc.cell? ⟨gb160, 3, none⟩ = some (.int .i64 t165) := (blk_cell BK160.out 3).trans rfl
                                have hfz41_0 := blk_frozen BK160.out 0
                                have hfz41_1 := blk_frozen BK160.out 1
                                have hfz41_2 := blk_frozen BK160.out 2
                                have hfz41_3 := blk_frozen BK160.out 3
                                go_wp2
                                repeat (go_quiet (fail); try go_wp2)
                                go_ret2
                                exact ⟨by first | rfl | (simp [errW_none, errW_some] <;> rfl) | (simp only [← hji33]; first | rfl | (simp [errW_none, errW_some] <;> rfl)) | (simp [*, errW_none, errW_some] <;> rfl), by repeat (first | (with_reducible first | exact HB.out | apply below_alloc | apply pw_below_drewN | apply below_drew1 | refine below_set ?_ GE160.out) | exact HB.out)⟩
                              · rw [if_neg c40] at H
                                exact absurd H (by simp)
                            · rw [if_neg c37] at H
                              exact absurd H (by simp)
                          · rw [if_neg c36] at H
                            exact absurd H (by simp)
                        · rw [if_neg c35] at H
                          exact absurd H (by simp)
                      · rw [if_neg c34] at H
                        exact absurd H (by simp)
                    · replace c32 := Bool.eq_false_iff.mpr c32
                      subst c32
                      have H1 : (if (wrap64 ((t164.size : Int) + t165)) ≥ (-5) then (vernierref18_Text.j3 kj29 x5_11 (wrap64 ((t164.size : Int) + t165)) (decide ((wrap64 ((t164.size : Int) + t165)) ≤ 0)) false t163 t164 t165) else (vernierref18_Text.j3 kj29 x5_11 (wrap64 ((t164.size : Int) + t165)) false false t163 t164 t165)) = some (r1, r2) := by rw [if_neg (show ¬ (false = true) by decide)] at H; exact H
                      clear H
                      have H := H1
                      clear H1
                      have HC42 := Aside0.mk H
                      clear H
                      go_upto_region 15 with (fail)
                      repeat (go_quiet (fail); go_upto_region 15 with (fail))
                      go_cut [58] (fun v58 wc => ∃ (kq : Nat) (x58_41 : Bool), v58 = .bool x58_41 ∧ Aside0 (vernierref18_Text.j3 kq x5_11 (wrap64 ((t164.size : Int) + t165)) x58_41 false t163 t164 t165 = some (r1, r2)) ∧ Aside0 (kq ≤ kj29) ∧ Aside0 (wc.heap[gb160]? = some (.cells #[.bool false, .bool t163, .string t164, .int .i64 t165] 36 (0, 0))) ∧ Aside0 (Below w.heap.size w wc))
                      case first =>
                        have H := HC42.out
                        clear HC42
                        by_cases c43 : (wrap64 ((t164.size : Int) + t165)) ≥ (-5)
                        · rw [if_pos c43] at H
                          have c43b0 : decide ((-5) ≤ (wrap64 ((t164.size : Int) + t165))) = true := decide_eq_true c43
                          clear c43
                          (first | rw [c43b0] | (simp only [i64_w, i32_w]; rw [c43b0]) | rw [c43b1] | rw [List.isEmpty_iff.mpr (beq_iff_eq.mp c43b0)] | rw [List.isEmpty_eq_false_iff.mpr (beq_eq_false_iff_ne.mp c43b0)] | skip)
                          have H' := Aside0.mk H
                          clear H
                          go_wp2
                          repeat (go_quiet (fail); try go_wp2)
                          go_meet
                          case rel => exact ⟨_, (decide ((wrap64 ((t164.size : Int) + t165)) ≤ 0)), (by first | rfl | (simp; done) | (simp [*]; done)), H', ⟨by have := HJ11.out; have := HJ19.out; have := HJ29.out; first | omega | exact Nat.le_refl _⟩, ⟨by (with_reducible repeat (first | refine blk_drewN ?_ _ | refine blk_drew ?_ | refine blk_alloc ?_ _)); exact BK160.out⟩, ⟨by repeat (first | (with_reducible first | exact HB.out | apply below_alloc | apply pw_below_drewN | apply below_drew1 | refine below_set ?_ GE160.out) | exact HB.out)⟩⟩
                        · rw [if_neg c43] at H
                          have c43b0 : decide ((-5) ≤ (wrap64 ((t164.size : Int) + t165))) = false := decide_eq_false c43
                          clear c43
                          (first | rw [c43b0] | (simp only [i64_w, i32_w]; rw [c43b0]) | rw [c43b1] | rw [List.isEmpty_iff.mpr (beq_iff_eq.mp c43b0)] | rw [List.isEmpty_eq_false_iff.mpr (beq_eq_false_iff_ne.mp c43b0)] | skip)
                          have H' := Aside0.mk H
                          clear H
                          go_wp2
                          repeat (go_quiet (fail); try go_wp2)
                          go_meet
                          case rel => exact ⟨_, (false), (by first | rfl | (simp; done) | (simp [*]; done)), H', ⟨by have := HJ11.out; have := HJ19.out; have := HJ29.out; first | omega | exact Nat.le_refl _⟩, ⟨by (with_reducible repeat (first | refine blk_drewN ?_ _ | refine blk_drew ?_ | refine blk_alloc ?_ _)); exact BK160.out⟩, ⟨by repeat (first | (with_reducible first | exact HB.out | apply below_alloc | apply pw_below_drewN | apply below_drew1 | refine below_set ?_ GE160.out) | exact HB.out)⟩⟩
                      case rest =>
                        clear HC42
                        try clear c1
                        try clear c2
                        try clear p2
                        try clear c3
                        try clear c4
                        try clear c5
                        try clear p6
                        try clear c16
                        try clear c19
                        try clear c22
                        try clear c22b0
                        try clear c22b1
                        try clear c25
                        try clear c26
                        try clear c26b0
                        try clear c26b1
                        try clear c26b2
                        try clear c28
                        try clear c28b0
                        try clear c28b1
                        try clear c28b2
                        try clear c31
                        try clear c31b0
                        try clear c31b1
                        try clear c32
                        try clear c34
                        try clear c34b0
                        try clear c34b1
                        try clear c35
                        try clear c35b0
                        try clear c35b1
                        try clear c36
                        try clear c36b0
                        try clear c36b1
                        try clear c36b2
                        try clear c37
                        try clear c37b0
                        try clear c37b1
                        try clear c37b2
                        try clear c38
                        try clear c38b0
                        try clear c39
                        try clear c39b0
                        try clear c40
                        try clear c40b0
                        try clear c40b1
                        try clear c40b2
                        try clear c43
                        try clear c43b0
                        try clear c43b1
                        try clear hcz11_0
                        try clear hcz11_1
                        try clear hcz11_2
                        try clear hcz11_3
                        try clear hcz14_0
                        try clear hcz14_1
                        try clear hcz14_2
                        try clear hcz14_3
                        try clear hcz16_0
                        try clear hcz16_1
                        try clear hcz16_2
                        try clear hcz16_3
                        try clear hcz18_0
                        try clear hcz18_1
                        try clear hcz18_2
                        try clear hcz18_3
                        try clear hcz21_0
                        try clear hcz21_1
                        try clear hcz21_2
                        try clear hcz21_3
                        try clear hcz23_0
                        try clear hcz23_1
                        try clear hcz23_2
                        try clear hcz23_3
                        try clear hcz24_0
                        try clear hcz24_1
                        try clear hcz24_2
                        try clear hcz24_3
                        try clear hcz29_0
                        try clear hcz29_1
                        try clear hcz29_2
                        try clear hcz29_3
                        try clear hcz41_0
                        try clear hcz41_1
                        try clear hcz41_2
                        try clear hcz41_3
                        try clear hcz7_0
                        try clear hcz7_1
                        try clear hcz7_2
                        try clear hcz7_3
                        try clear hcz9_0
                        try clear hcz9_1
                        try clear hcz9_2
                        try clear hcz9_3
                        try clear hfz11_0
                        try clear hfz11_1
                        try clear hfz11_2
                        try clear hfz11_3
                        try clear hfz14_0
                        try clear hfz14_1
                        try clear hfz14_2
                        try clear hfz14_3
                        try clear hfz16_0
                        try clear hfz16_1
                        try clear hfz16_2
                        try clear hfz16_3
                        try clear hfz18_0
                        try clear hfz18_1
                        try clear hfz18_2
                        try clear hfz18_3
                        try clear hfz21_0
                        try clear hfz21_1
                        try clear hfz21_2
                        try clear hfz21_3
                        try clear hfz23_0
                        try clear hfz23_1
                        try clear hfz23_2
                        try clear hfz23_3
                        try clear hfz24_0
                        try clear hfz24_1
                        try clear hfz24_2
                        try clear hfz24_3
                        try clear hfz29_0
                        try clear hfz29_1
                        try clear hfz29_2
                        try clear hfz29_3
                        try clear hfz41_0
                        try clear hfz41_1
                        try clear hfz41_2
                        try clear hfz41_3
                        try clear hfz7_0
                        try clear hfz7_1
                        try clear hfz7_2
                        try clear hfz7_3
                        try clear hfz9_0
                        try clear hfz9_1
                        try clear hfz9_2
                        try clear hfz9_3
                        try clear p2
                        try clear p6
                        obtain ⟨kq, x58_41, rfl, HA, HJ41, BK160, HB⟩ := hcut
                        cases kq with
                        | zero => exact absurd HA.out (by simp [vernierref18_Text.j3])
                        | succ kj41 =>
                          have H := HA.out
                          clear HA
                          simp only [vernierref18_Text.j3] at H
                          by_cases c44 : x58_41 = true
                          · subst c44
                            have H1 : (if x5_11.size + 2 ≤ 9223372036854775807 then ((vernierref18_noughts.f kj41 (wrap64 (-(wrap64 ((t164.size : Int) + t165))))).bind fun t167 => (if (x5_11 ++ (⟨#[48, 46]⟩ : ByteArray)).size + t167.size ≤ 9223372036854775807 then (if ((x5_11 ++ (⟨#[48, 46]⟩ : ByteArray)) ++ t167).size + t164.size ≤ 9223372036854775807 then (some (((x5_11 ++ (⟨#[48, 46]⟩ : ByteArray)) ++ t167) ++ t164, 0)) else (none)) else (none))) else (none)) = some (r1, r2) := by rw [if_pos rfl] at H; exact H
                            clear H
                            have H := H1
                            clear H1
                            by_cases c45 : x5_11.size + 2 ≤ 9223372036854775807
                            · rw [if_pos c45] at H
                              have c45b0 := eq_true c45
                              have c45b1 : decide (x5_11.size + 2 ≤ 9223372036854775807) = true := decide_eq_true c45
                              try have c45b2 : (9223372036854775807 < x5_11.size + 2) = False := eq_false (Nat.not_lt.2 c45)
                              try have c45m : (9223372036854775807 < x5_11.size + 2) = False := eq_false (by have h_ := c45; have l1_ : (⟨#[46]⟩ : ByteArray).size = 1 := rfl; have l2_ : (⟨#[48, 46]⟩ : ByteArray).size = 2 := rfl; have l3_ : (⟨#[101]⟩ : ByteArray).size = 1 := rfl; (try simp only [ByteArray.size_append, ByteArray.size_extract] at h_); omega)
                              try have c45n : (9223372036854775807 < x5_11.size + 2) = False := eq_false (by have h_ := c45; have l1_ : (⟨#[46]⟩ : ByteArray).size = 1 := rfl; have l2_ : (⟨#[48, 46]⟩ : ByteArray).size = 2 := rfl; have l3_ : (⟨#[101]⟩ : ByteArray).size = 1 := rfl; (try simp only [ByteArray.size_append, ByteArray.size_extract] at h_); omega)
                              replace H := Option.bind_eq_some_iff.mp H
                              obtain ⟨t167, A460, H⟩ := H
                              replace H : (if (x5_11 ++ (⟨#[48, 46]⟩ : ByteArray)).size + t167.size ≤ 9223372036854775807 then (if ((x5_11 ++ (⟨#[48, 46]⟩ : ByteArray)) ++ t167).size + t164.size ≤ 9223372036854775807 then (some (((x5_11 ++ (⟨#[48, 46]⟩ : ByteArray)) ++ t167) ++ t164, 0)) else (none)) else (none)) = some (r1, r2) := H
                              have A46 := Aside0.mk A460
                              clear A460
                              by_cases c47 : (x5_11 ++ (⟨#[48, 46]⟩ : ByteArray)).size + t167.size ≤ 9223372036854775807
                              · rw [if_pos c47] at H
                                have c47b0 := eq_true c47
                                have c47b1 : decide ((x5_11 ++ (⟨#[48, 46]⟩ : ByteArray)).size + t167.size ≤ 9223372036854775807) = true := decide_eq_true c47
                                try have c47b2 : (9223372036854775807 < (x5_11 ++ (⟨#[48, 46]⟩ : ByteArray)).size + t167.size) = False := eq_false (Nat.not_lt.2 c47)
                                try have c47m : (9223372036854775807 < x5_11.size + 2 + t167.size) = False := eq_false (by have h_ := c47; have l1_ : (⟨#[46]⟩ : ByteArray).size = 1 := rfl; have l2_ : (⟨#[48, 46]⟩ : ByteArray).size = 2 := rfl; have l3_ : (⟨#[101]⟩ : ByteArray).size = 1 := rfl; (try simp only [ByteArray.size_append, ByteArray.size_extract] at h_); omega)
                                try have c47n : (9223372036854775807 < x5_11.size + 2 + t167.size) = False := eq_false (by have h_ := c47; have l1_ : (⟨#[46]⟩ : ByteArray).size = 1 := rfl; have l2_ : (⟨#[48, 46]⟩ : ByteArray).size = 2 := rfl; have l3_ : (⟨#[101]⟩ : ByteArray).size = 1 := rfl; (try simp only [ByteArray.size_append, ByteArray.size_extract] at h_); omega)
                                by_cases c48 : ((x5_11 ++ (⟨#[48, 46]⟩ : ByteArray)) ++ t167).size + t164.size ≤ 9223372036854775807
                                · rw [if_pos c48] at H
                                  have c48b0 := eq_true c48
                                  have c48b1 : decide (((x5_11 ++ (⟨#[48, 46]⟩ : ByteArray)) ++ t167).size + t164.size ≤ 9223372036854775807) = true := decide_eq_true c48
                                  try have c48b2 : (9223372036854775807 < ((x5_11 ++ (⟨#[48, 46]⟩ : ByteArray)) ++ t167).size + t164.size) = False := eq_false (Nat.not_lt.2 c48)
                                  try have c48m : (9223372036854775807 < x5_11.size + 2 + t167.size + t164.size) = False := eq_false (by have h_ := c48; have l1_ : (⟨#[46]⟩ : ByteArray).size = 1 := rfl; have l2_ : (⟨#[48, 46]⟩ : ByteArray).size = 2 := rfl; have l3_ : (⟨#[101]⟩ : ByteArray).size = 1 := rfl; (try simp only [ByteArray.size_append, ByteArray.size_extract] at h_); omega)
                                  try have c48n : (9223372036854775807 < x5_11.size + 2 + t167.size + t164.size) = False := eq_false (by have h_ := c48; have l1_ : (⟨#[46]⟩ : ByteArray).size = 1 := rfl; have l2_ : (⟨#[48, 46]⟩ : ByteArray).size = 2 := rfl; have l3_ : (⟨#[101]⟩ : ByteArray).size = 1 := rfl; (try simp only [ByteArray.size_append, ByteArray.size_extract] at h_); omega)
                                  simp only [Option.some.injEq, Prod.mk.injEq] at H
                                  obtain ⟨rfl, rfl⟩ := H
                                  have hngw_ : (IntKind.i64.wrap (-(wrap64 ((t164.size : Int) + t165)))) = wrap64 (-(wrap64 ((t164.size : Int) + t165))) := i64_w _
                                  go_wp2_with (first | (go_at_call 53; (with_reducible refine (vernierref18_noughts.calls kj41 (wrap64 (-(wrap64 ((t164.size : Int) + t165)))) t167 _ A46.out).mono ?_); rintro e w' ⟨rfl, ⟨nd, rfl⟩⟩; (try first | exact ⟨rfl, _, World.drewN_drewN _ _ _⟩ | exact ⟨rfl, _, Eq.trans (World.drewN_drewN _ _ _) (congrArg (World.drewN _) (Nat.add_assoc _ _ _))⟩); have hcz49_0 : wc.cell? ⟨gb160, 0, none⟩ = some (.bool false) := (blk_cell BK160.out 0).trans rfl; have hcz49_1 : wc.cell? ⟨gb160, 1, none⟩ = some (.bool t163) := (blk_cell BK160.out 1).trans rfl; have hcz49_2 : wc.cell? ⟨gb160, 2, none⟩ = some (.string t164) := (blk_cell BK160.out 2).trans rfl; have hcz49_3 : wc.cell? ⟨gb160, 3, none⟩ = some (.int .i64 t165) := (blk_cell BK160.out 3).trans rfl; have hfz49_0 := blk_frozen BK160.out 0; have hfz49_1 := blk_frozen BK160.out 1; have hfz49_2 := blk_frozen BK160.out 2; have hfz49_3 := blk_frozen BK160.out 3))
                                  repeat (go_quiet (first | (go_at_call 53; (with_reducible refine (vernierref18_noughts.calls kj41 (wrap64 (-(wrap64 ((t164.size : Int) + t165)))) t167 _ A46.out).mono ?_); rintro e w' ⟨rfl, ⟨nd, rfl⟩⟩; (try first | exact ⟨rfl, _, World.drewN_drewN _ _ _⟩ | exact ⟨rfl, _, Eq.trans (World.drewN_drewN _ _ _) (congrArg (World.drewN _) (Nat.add_assoc _ _ _))⟩); have hcz49_0 : wc.cell? ⟨gb160, 0, none⟩ = some (.bool false) := (blk_cell BK160.out 0).trans rfl; have hcz49_1 : wc.cell? ⟨gb160, 1, none⟩ = some (.bool t163) := (blk_cell BK160.out 1).trans rfl; have hcz49_2 : wc.cell? ⟨gb160, 2, none⟩ = some (.string t164) := (blk_cell BK160.out 2).trans rfl; have hcz49_3 : wc.cell? ⟨gb160, 3, none⟩ = some (.int .i64 t165) := (blk_cell BK160.out 3).trans rfl; have hfz49_0 := blk_frozen BK160.out 0; have hfz49_1 := blk_frozen BK160.out 1; have hfz49_2 := blk_frozen BK160.out 2; have hfz49_3 := blk_frozen BK160.out 3)); try go_wp2_with (first | (go_at_call 53; (with_reducible refine (vernierref18_noughts.calls kj41 (wrap64 (-(wrap64 ((t164.size : Int) + t165)))) t167 _ A46.out).mono ?_); rintro e w' ⟨rfl, ⟨nd, rfl⟩⟩; (try first | exact ⟨rfl, _, World.drewN_drewN _ _ _⟩ | exact ⟨rfl, _, Eq.trans (World.drewN_drewN _ _ _) (congrArg (World.drewN _) (Nat.add_assoc _ _ _))⟩); have hcz49_0 : wc.cell? ⟨gb160, 0, none⟩ = some (.bool false) := (blk_cell BK160.out 0).trans rfl; have hcz49_1 : wc.cell? ⟨gb160, 1, none⟩ = some (.bool t163) := (blk_cell BK160.out 1).trans rfl; have hcz49_2 : wc.cell? ⟨gb160, 2, none⟩ = some (.string t164) := (blk_cell BK160.out 2).trans rfl; have hcz49_3 : wc.cell? ⟨gb160, 3, none⟩ = some (.int .i64 t165) := (blk_cell BK160.out 3).trans rfl; have hfz49_0 := blk_frozen BK160.out 0; have hfz49_1 := blk_frozen BK160.out 1; have hfz49_2 := blk_frozen BK160.out 2; have hfz49_3 := blk_frozen BK160.out 3)))
                                  go_ret2
                                  exact ⟨by first | rfl | (simp [errW_none, errW_some] <;> rfl) | (simp [*, errW_none, errW_some] <;> rfl), by repeat (first | (with_reducible first | exact HB.out | apply below_alloc | apply pw_below_drewN | apply below_drew1 | refine below_set ?_ GE160.out) | exact HB.out)⟩
                                · rw [if_neg c48] at H
                                  exact absurd H (by simp)
                              · rw [if_neg c47] at H
                                exact absurd H (by simp)
                            · rw [if_neg c45] at H
                              exact absurd H (by simp)
                          · replace c44 := Bool.eq_false_iff.mpr c44
                            subst c44
                            have H1 : (if 0 ≤ 1 then (if 1 ≤ (t164.size : Int) then (if x5_11.size + (t164.extract 0 1).size ≤ 9223372036854775807 then (if (t164.size : Int) > 1 then (if (x5_11 ++ (t164.extract 0 1)).size + 1 ≤ 9223372036854775807 then (if ((x5_11 ++ (t164.extract 0 1)) ++ (⟨#[46]⟩ : ByteArray)).size + (t164.extract 1 t164.size).size ≤ 9223372036854775807 then (if (((x5_11 ++ (t164.extract 0 1)) ++ (⟨#[46]⟩ : ByteArray)) ++ (t164.extract 1 t164.size)).size + 1 ≤ 9223372036854775807 then ((strconv_Itoa_50.f (wrap64 ((wrap64 ((t164.size : Int) + t165)) - 1))).bind fun t168 => (if ((((x5_11 ++ (t164.extract 0 1)) ++ (⟨#[46]⟩ : ByteArray)) ++ (t164.extract 1 t164.size)) ++ (⟨#[101]⟩ : ByteArray)).size + t168.size ≤ 9223372036854775807 then (some (((((x5_11 ++ (t164.extract 0 1)) ++ (⟨#[46]⟩ : ByteArray)) ++ (t164.extract 1 t164.size)) ++ (⟨#[101]⟩ : ByteArray)) ++ t168, 0)) else (none))) else (none)) else (none)) else (none)) else (if (x5_11 ++ (t164.extract 0 1)).size + 1 ≤ 9223372036854775807 then ((strconv_Itoa_50.f (wrap64 ((wrap64 ((t164.size : Int) + t165)) - 1))).bind fun t169 => (if ((x5_11 ++ (t164.extract 0 1)) ++ (⟨#[101]⟩ : ByteArray)).size + t169.size ≤ 9223372036854775807 then (some (((x5_11 ++ (t164.extract 0 1)) ++ (⟨#[101]⟩ : ByteArray)) ++ t169, 0)) else (none))) else (none))) else (none)) else (none)) else (none)) = some (r1, r2) := by rw [if_neg (show ¬ (false = true) by decide)] at H; exact H
                            clear H
                            have H := H1
                            clear H1
                            by_cases c50 : 0 ≤ 1
                            · rw [if_pos c50] at H
                              have c50b0 := eq_true c50
                              have c50b1 : decide (0 ≤ 1) = true := decide_eq_true c50
                              clear c50
                              by_cases c51 : 1 ≤ (t164.size : Int)
                              · rw [if_pos c51] at H
                                have c51b0 := eq_true c51
                                have c51b1 : decide (1 ≤ (t164.size : Int)) = true := decide_eq_true c51
                                clear c51
                                by_cases c52 : x5_11.size + (t164.extract 0 1).size ≤ 9223372036854775807
                                · rw [if_pos c52] at H
                                  have c52b0 := eq_true c52
                                  have c52b1 : decide (x5_11.size + (t164.extract 0 1).size ≤ 9223372036854775807) = true := decide_eq_true c52
                                  try have c52b2 : (9223372036854775807 < x5_11.size + (t164.extract 0 1).size) = False := eq_false (Nat.not_lt.2 c52)
                                  try have c52m : (9223372036854775807 < x5_11.size + min 1 t164.size) = False := eq_false (by have h_ := c52; have l1_ : (⟨#[46]⟩ : ByteArray).size = 1 := rfl; have l2_ : (⟨#[48, 46]⟩ : ByteArray).size = 2 := rfl; have l3_ : (⟨#[101]⟩ : ByteArray).size = 1 := rfl; (try simp only [ByteArray.size_append, ByteArray.size_extract] at h_); omega)
                                  try have c52n : (9223372036854775807 < x5_11.size + 1) = False := eq_false (by have h_ := c52; have l1_ : (⟨#[46]⟩ : ByteArray).size = 1 := rfl; have l2_ : (⟨#[48, 46]⟩ : ByteArray).size = 2 := rfl; have l3_ : (⟨#[101]⟩ : ByteArray).size = 1 := rfl; (try simp only [ByteArray.size_append, ByteArray.size_extract] at h_); omega)
                                  by_cases c53 : (t164.size : Int) > 1
                                  · rw [if_pos c53] at H
                                    have c53b0 : decide (1 < (t164.size : Int)) = true := decide_eq_true c53
                                    have c53b1 : decide (1 < t164.size) = true := decide_eq_true (by omega)
                                    clear c53
                                    by_cases c54 : (x5_11 ++ (t164.extract 0 1)).size + 1 ≤ 9223372036854775807
                                    · rw [if_pos c54] at H
                                      have c54b0 := eq_true c54
                                      have c54b1 : decide ((x5_11 ++ (t164.extract 0 1)).size + 1 ≤ 9223372036854775807) = true := decide_eq_true c54
                                      try have c54b2 : (9223372036854775807 < (x5_11 ++ (t164.extract 0 1)).size + 1) = False := eq_false (Nat.not_lt.2 c54)
                                      try have c54m : (9223372036854775807 < x5_11.size + min 1 t164.size + 1) = False := eq_false (by have h_ := c54; have l1_ : (⟨#[46]⟩ : ByteArray).size = 1 := rfl; have l2_ : (⟨#[48, 46]⟩ : ByteArray).size = 2 := rfl; have l3_ : (⟨#[101]⟩ : ByteArray).size = 1 := rfl; (try simp only [ByteArray.size_append, ByteArray.size_extract] at h_); omega)
                                      try have c54n : (9223372036854775807 < x5_11.size + 1 + 1) = False := eq_false (by have h_ := c54; have l1_ : (⟨#[46]⟩ : ByteArray).size = 1 := rfl; have l2_ : (⟨#[48, 46]⟩ : ByteArray).size = 2 := rfl; have l3_ : (⟨#[101]⟩ : ByteArray).size = 1 := rfl; (try simp only [ByteArray.size_append, ByteArray.size_extract] at h_); omega)
                                      have c55b0 := eq_true (of_decide_eq_true (by first | (with_reducible assumption) | assumption) : 1 ≤ (t164.size : Int))
                                      by_cases c56 : ((x5_11 ++ (t164.extract 0 1)) ++ (⟨#[46]⟩ : ByteArray)).size + (t164.extract 1 t164.size).size ≤ 9223372036854775807
                                      · rw [if_pos c56] at H
                                        have c56b0 := eq_true c56
                                        have c56b1 : decide (((x5_11 ++ (t164.extract 0 1)) ++ (⟨#[46]⟩ : ByteArray)).size + (t164.extract 1 t164.size).size ≤ 9223372036854775807) = true := decide_eq_true c56
                                        try have c56b2 : (9223372036854775807 < ((x5_11 ++ (t164.extract 0 1)) ++ (⟨#[46]⟩ : ByteArray)).size + (t164.extract 1 t164.size).size) = False := eq_false (Nat.not_lt.2 c56)
                                        try have c56m : (9223372036854775807 < x5_11.size + min 1 t164.size + 1 + (t164.size - 1)) = False := eq_false (by have h_ := c56; have l1_ : (⟨#[46]⟩ : ByteArray).size = 1 := rfl; have l2_ : (⟨#[48, 46]⟩ : ByteArray).size = 2 := rfl; have l3_ : (⟨#[101]⟩ : ByteArray).size = 1 := rfl; (try simp only [ByteArray.size_append, ByteArray.size_extract] at h_); omega)
                                        try have c56n : (9223372036854775807 < x5_11.size + 1 + 1 + (t164.size - 1)) = False := eq_false (by have h_ := c56; have l1_ : (⟨#[46]⟩ : ByteArray).size = 1 := rfl; have l2_ : (⟨#[48, 46]⟩ : ByteArray).size = 2 := rfl; have l3_ : (⟨#[101]⟩ : ByteArray).size = 1 := rfl; (try simp only [ByteArray.size_append, ByteArray.size_extract] at h_); omega)
                                        by_cases c57 : (((x5_11 ++ (t164.extract 0 1)) ++ (⟨#[46]⟩ : ByteArray)) ++ (t164.extract 1 t164.size)).size + 1 ≤ 9223372036854775807
                                        · rw [if_pos c57] at H
                                          have c57b0 := eq_true c57
                                          have c57b1 : decide ((((x5_11 ++ (t164.extract 0 1)) ++ (⟨#[46]⟩ : ByteArray)) ++ (t164.extract 1 t164.size)).size + 1 ≤ 9223372036854775807) = true := decide_eq_true c57
                                          try have c57b2 : (9223372036854775807 < (((x5_11 ++ (t164.extract 0 1)) ++ (⟨#[46]⟩ : ByteArray)) ++ (t164.extract 1 t164.size)).size + 1) = False := eq_false (Nat.not_lt.2 c57)
                                          try have c57m : (9223372036854775807 < x5_11.size + min 1 t164.size + 1 + (t164.size - 1) + 1) = False := eq_false (by have h_ := c57; have l1_ : (⟨#[46]⟩ : ByteArray).size = 1 := rfl; have l2_ : (⟨#[48, 46]⟩ : ByteArray).size = 2 := rfl; have l3_ : (⟨#[101]⟩ : ByteArray).size = 1 := rfl; (try simp only [ByteArray.size_append, ByteArray.size_extract] at h_); omega)
                                          try have c57n : (9223372036854775807 < x5_11.size + 1 + 1 + (t164.size - 1) + 1) = False := eq_false (by have h_ := c57; have l1_ : (⟨#[46]⟩ : ByteArray).size = 1 := rfl; have l2_ : (⟨#[48, 46]⟩ : ByteArray).size = 2 := rfl; have l3_ : (⟨#[101]⟩ : ByteArray).size = 1 := rfl; (try simp only [ByteArray.size_append, ByteArray.size_extract] at h_); omega)
                                          replace H := Option.bind_eq_some_iff.mp H
                                          obtain ⟨t168, A580, H⟩ := H
                                          replace H : (if ((((x5_11 ++ (t164.extract 0 1)) ++ (⟨#[46]⟩ : ByteArray)) ++ (t164.extract 1 t164.size)) ++ (⟨#[101]⟩ : ByteArray)).size + t168.size ≤ 9223372036854775807 then (some (((((x5_11 ++ (t164.extract 0 1)) ++ (⟨#[46]⟩ : ByteArray)) ++ (t164.extract 1 t164.size)) ++ (⟨#[101]⟩ : ByteArray)) ++ t168, 0)) else (none)) = some (r1, r2) := H
                                          have A58 := Aside0.mk A580
                                          clear A580
                                          by_cases c59 : ((((x5_11 ++ (t164.extract 0 1)) ++ (⟨#[46]⟩ : ByteArray)) ++ (t164.extract 1 t164.size)) ++ (⟨#[101]⟩ : ByteArray)).size + t168.size ≤ 9223372036854775807
                                          · rw [if_pos c59] at H
                                            have c59b0 := eq_true c59
                                            have c59b1 : decide (((((x5_11 ++ (t164.extract 0 1)) ++ (⟨#[46]⟩ : ByteArray)) ++ (t164.extract 1 t164.size)) ++ (⟨#[101]⟩ : ByteArray)).size + t168.size ≤ 9223372036854775807) = true := decide_eq_true c59
                                            try have c59b2 : (9223372036854775807 < ((((x5_11 ++ (t164.extract 0 1)) ++ (⟨#[46]⟩ : ByteArray)) ++ (t164.extract 1 t164.size)) ++ (⟨#[101]⟩ : ByteArray)).size + t168.size) = False := eq_false (Nat.not_lt.2 c59)
                                            try have c59m : (9223372036854775807 < x5_11.size + min 1 t164.size + 1 + (t164.size - 1) + 1 + t168.size) = False := eq_false (by have h_ := c59; have l1_ : (⟨#[46]⟩ : ByteArray).size = 1 := rfl; have l2_ : (⟨#[48, 46]⟩ : ByteArray).size = 2 := rfl; have l3_ : (⟨#[101]⟩ : ByteArray).size = 1 := rfl; (try simp only [ByteArray.size_append, ByteArray.size_extract] at h_); omega)
                                            try have c59n : (9223372036854775807 < x5_11.size + 1 + 1 + (t164.size - 1) + 1 + t168.size) = False := eq_false (by have h_ := c59; have l1_ : (⟨#[46]⟩ : ByteArray).size = 1 := rfl; have l2_ : (⟨#[48, 46]⟩ : ByteArray).size = 2 := rfl; have l3_ : (⟨#[101]⟩ : ByteArray).size = 1 := rfl; (try simp only [ByteArray.size_append, ByteArray.size_extract] at h_); omega)
                                            simp only [Option.some.injEq, Prod.mk.injEq] at H
                                            obtain ⟨rfl, rfl⟩ := H
                                            have hcz60_0 : wc.cell? ⟨gb160, 0, none⟩ = some (.bool false) := (blk_cell BK160.out 0).trans rfl
                                            have hcz60_1 : wc.cell? ⟨gb160, 1, none⟩ = some (.bool t163) := (blk_cell BK160.out 1).trans rfl
                                            have hcz60_2 : wc.cell? ⟨gb160, 2, none⟩ = some (.string t164) := (blk_cell BK160.out 2).trans rfl
                                            have hcz60_3 : wc.cell? ⟨gb160, 3, none⟩ = some (.int .i64 t165) := (blk_cell BK160.out 3).trans rfl
                                            have hfz60_0 := blk_frozen BK160.out 0
                                            have hfz60_1 := blk_frozen BK160.out 1
                                            have hfz60_2 := blk_frozen BK160.out 2
                                            have hfz60_3 := blk_frozen BK160.out 3
                                            go_wp2_with (first | (go_at_call 50; (with_reducible refine (strconv_Itoa_50.calls (wrap64 ((wrap64 ((t164.size : Int) + t165)) - 1)) t168 _ A58.out).mono ?_); rintro e w61 ⟨rfl, hb⟩; have n0_ := Aside0.mk (blk_below (g := gb160) (o := .cells #[.bool false, .bool t163, .string t164, .int .i64 t165] 36 (0, 0)) (by (with_reducible repeat (first | refine blk_drewN ?_ _ | refine blk_drew ?_ | refine blk_alloc ?_ _)); exact BK160.out) hb); have n1_ := Aside0.mk (below_step (by repeat (first | (with_reducible first | exact HB.out | apply below_alloc | apply pw_below_drewN | apply below_drew1 | refine below_set ?_ GE160.out) | exact HB.out)) hb); clear BK160; clear HB; have BK160 := n0_; have HB := n1_; clear n0_ n1_; (try clear hb); (try clear hb2); (try clear hk); (try clear hi)))
                                            repeat (go_quiet (first | (go_at_call 50; (with_reducible refine (strconv_Itoa_50.calls (wrap64 ((wrap64 ((t164.size : Int) + t165)) - 1)) t168 _ A58.out).mono ?_); rintro e w61 ⟨rfl, hb⟩; have n0_ := Aside0.mk (blk_below (g := gb160) (o := .cells #[.bool false, .bool t163, .string t164, .int .i64 t165] 36 (0, 0)) (by (with_reducible repeat (first | refine blk_drewN ?_ _ | refine blk_drew ?_ | refine blk_alloc ?_ _)); exact BK160.out) hb); have n1_ := Aside0.mk (below_step (by repeat (first | (with_reducible first | exact HB.out | apply below_alloc | apply pw_below_drewN | apply below_drew1 | refine below_set ?_ GE160.out) | exact HB.out)) hb); clear BK160; clear HB; have BK160 := n0_; have HB := n1_; clear n0_ n1_; (try clear hb); (try clear hb2); (try clear hk); (try clear hi))); try go_wp2_with (first | (go_at_call 50; (with_reducible refine (strconv_Itoa_50.calls (wrap64 ((wrap64 ((t164.size : Int) + t165)) - 1)) t168 _ A58.out).mono ?_); rintro e w61 ⟨rfl, hb⟩; have n0_ := Aside0.mk (blk_below (g := gb160) (o := .cells #[.bool false, .bool t163, .string t164, .int .i64 t165] 36 (0, 0)) (by (with_reducible repeat (first | refine blk_drewN ?_ _ | refine blk_drew ?_ | refine blk_alloc ?_ _)); exact BK160.out) hb); have n1_ := Aside0.mk (below_step (by repeat (first | (with_reducible first | exact HB.out | apply below_alloc | apply pw_below_drewN | apply below_drew1 | refine below_set ?_ GE160.out) | exact HB.out)) hb); clear BK160; clear HB; have BK160 := n0_; have HB := n1_; clear n0_ n1_; (try clear hb); (try clear hb2); (try clear hk); (try clear hi))))
                                            go_ret2
                                            exact ⟨by first | rfl | (simp [errW_none, errW_some] <;> rfl) | (simp [*, errW_none, errW_some] <;> rfl), by repeat (first | (with_reducible first | exact HB.out | apply below_alloc | apply pw_below_drewN | apply below_drew1 | refine below_set ?_ GE160.out) | exact HB.out)⟩
                                          · rw [if_neg c59] at H
                                            exact absurd H (by simp)
                                        · rw [if_neg c57] at H
                                          exact absurd H (by simp)
                                      · rw [if_neg c56] at H
                                        exact absurd H (by simp)
                                    · rw [if_neg c54] at H
                                      exact absurd H (by simp)
                                  · rw [if_neg c53] at H
                                    have c53b0 : decide (1 < (t164.size : Int)) = false := decide_eq_false c53
                                    have c53b1 : decide (1 < t164.size) = false := decide_eq_false (by omega)
                                    clear c53
                                    by_cases c62 : (x5_11 ++ (t164.extract 0 1)).size + 1 ≤ 9223372036854775807
                                    · rw [if_pos c62] at H
                                      have c62b0 := eq_true c62
                                      have c62b1 : decide ((x5_11 ++ (t164.extract 0 1)).size + 1 ≤ 9223372036854775807) = true := decide_eq_true c62
                                      try have c62b2 : (9223372036854775807 < (x5_11 ++ (t164.extract 0 1)).size + 1) = False := eq_false (Nat.not_lt.2 c62)
                                      try have c62m : (9223372036854775807 < x5_11.size + min 1 t164.size + 1) = False := eq_false (by have h_ := c62; have l1_ : (⟨#[46]⟩ : ByteArray).size = 1 := rfl; have l2_ : (⟨#[48, 46]⟩ : ByteArray).size = 2 := rfl; have l3_ : (⟨#[101]⟩ : ByteArray).size = 1 := rfl; (try simp only [ByteArray.size_append, ByteArray.size_extract] at h_); omega)
                                      try have c62n : (9223372036854775807 < x5_11.size + 1 + 1) = False := eq_false (by have h_ := c62; have l1_ : (⟨#[46]⟩ : ByteArray).size = 1 := rfl; have l2_ : (⟨#[48, 46]⟩ : ByteArray).size = 2 := rfl; have l3_ : (⟨#[101]⟩ : ByteArray).size = 1 := rfl; (try simp only [ByteArray.size_append, ByteArray.size_extract] at h_); omega)
                                      replace H := Option.bind_eq_some_iff.mp H
                                      obtain ⟨t169, A630, H⟩ := H
                                      replace H : (if ((x5_11 ++ (t164.extract 0 1)) ++ (⟨#[101]⟩ : ByteArray)).size + t169.size ≤ 9223372036854775807 then (some (((x5_11 ++ (t164.extract 0 1)) ++ (⟨#[101]⟩ : ByteArray)) ++ t169, 0)) else (none)) = some (r1, r2) := H
                                      have A63 := Aside0.mk A630
                                      clear A630
                                      by_cases c64 : ((x5_11 ++ (t164.extract 0 1)) ++ (⟨#[101]⟩ : ByteArray)).size + t169.size ≤ 9223372036854775807
                                      · rw [if_pos c64] at H
                                        have c64b0 := eq_true c64
                                        have c64b1 : decide (((x5_11 ++ (t164.extract 0 1)) ++ (⟨#[101]⟩ : ByteArray)).size + t169.size ≤ 9223372036854775807) = true := decide_eq_true c64
                                        try have c64b2 : (9223372036854775807 < ((x5_11 ++ (t164.extract 0 1)) ++ (⟨#[101]⟩ : ByteArray)).size + t169.size) = False := eq_false (Nat.not_lt.2 c64)
                                        try have c64m : (9223372036854775807 < x5_11.size + min 1 t164.size + 1 + t169.size) = False := eq_false (by have h_ := c64; have l1_ : (⟨#[46]⟩ : ByteArray).size = 1 := rfl; have l2_ : (⟨#[48, 46]⟩ : ByteArray).size = 2 := rfl; have l3_ : (⟨#[101]⟩ : ByteArray).size = 1 := rfl; (try simp only [ByteArray.size_append, ByteArray.size_extract] at h_); omega)
                                        try have c64n : (9223372036854775807 < x5_11.size + 1 + 1 + t169.size) = False := eq_false (by have h_ := c64; have l1_ : (⟨#[46]⟩ : ByteArray).size = 1 := rfl; have l2_ : (⟨#[48, 46]⟩ : ByteArray).size = 2 := rfl; have l3_ : (⟨#[101]⟩ : ByteArray).size = 1 := rfl; (try simp only [ByteArray.size_append, ByteArray.size_extract] at h_); omega)
                                        simp only [Option.some.injEq, Prod.mk.injEq] at H
                                        obtain ⟨rfl, rfl⟩ := H
                                        have hcz65_0 : wc.cell? ⟨gb160, 0, none⟩ = some (.bool false) := (blk_cell BK160.out 0).trans rfl
                                        have hcz65_1 : wc.cell? ⟨gb160, 1, none⟩ = some (.bool t163) := (blk_cell BK160.out 1).trans rfl
                                        have hcz65_2 : wc.cell? ⟨gb160, 2, none⟩ = some (.string t164) := (blk_cell BK160.out 2).trans rfl
                                        have hcz65_3 : wc.cell? ⟨gb160, 3, none⟩ = some (.int .i64 t165) := (blk_cell BK160.out 3).trans rfl
                                        have hfz65_0 := blk_frozen BK160.out 0
                                        have hfz65_1 := blk_frozen BK160.out 1
                                        have hfz65_2 := blk_frozen BK160.out 2
                                        have hfz65_3 := blk_frozen BK160.out 3
                                        go_wp2_with (first | (go_at_call 50; (with_reducible refine (strconv_Itoa_50.calls (wrap64 ((wrap64 ((t164.size : Int) + t165)) - 1)) t169 _ A63.out).mono ?_); rintro e w66 ⟨rfl, hb⟩; have n0_ := Aside0.mk (blk_below (g := gb160) (o := .cells #[.bool false, .bool t163, .string t164, .int .i64 t165] 36 (0, 0)) (by (with_reducible repeat (first | refine blk_drewN ?_ _ | refine blk_drew ?_ | refine blk_alloc ?_ _)); exact BK160.out) hb); have n1_ := Aside0.mk (below_step (by repeat (first | (with_reducible first | exact HB.out | apply below_alloc | apply pw_below_drewN | apply below_drew1 | refine below_set ?_ GE160.out) | exact HB.out)) hb); clear BK160; clear HB; have BK160 := n0_; have HB := n1_; clear n0_ n1_; (try clear hb); (try clear hb2); (try clear hk); (try clear hi)))
                                        repeat (go_quiet (first | (go_at_call 50; (with_reducible refine (strconv_Itoa_50.calls (wrap64 ((wrap64 ((t164.size : Int) + t165)) - 1)) t169 _ A63.out).mono ?_); rintro e w66 ⟨rfl, hb⟩; have n0_ := Aside0.mk (blk_below (g := gb160) (o := .cells #[.bool false, .bool t163, .string t164, .int .i64 t165] 36 (0, 0)) (by (with_reducible repeat (first | refine blk_drewN ?_ _ | refine blk_drew ?_ | refine blk_alloc ?_ _)); exact BK160.out) hb); have n1_ := Aside0.mk (below_step (by repeat (first | (with_reducible first | exact HB.out | apply below_alloc | apply pw_below_drewN | apply below_drew1 | refine below_set ?_ GE160.out) | exact HB.out)) hb); clear BK160; clear HB; have BK160 := n0_; have HB := n1_; clear n0_ n1_; (try clear hb); (try clear hb2); (try clear hk); (try clear hi))); try go_wp2_with (first | (go_at_call 50; (with_reducible refine (strconv_Itoa_50.calls (wrap64 ((wrap64 ((t164.size : Int) + t165)) - 1)) t169 _ A63.out).mono ?_); rintro e w66 ⟨rfl, hb⟩; have n0_ := Aside0.mk (blk_below (g := gb160) (o := .cells #[.bool false, .bool t163, .string t164, .int .i64 t165] 36 (0, 0)) (by (with_reducible repeat (first | refine blk_drewN ?_ _ | refine blk_drew ?_ | refine blk_alloc ?_ _)); exact BK160.out) hb); have n1_ := Aside0.mk (below_step (by repeat (first | (with_reducible first | exact HB.out | apply below_alloc | apply pw_below_drewN | apply below_drew1 | refine below_set ?_ GE160.out) | exact HB.out)) hb); clear BK160; clear HB; have BK160 := n0_; have HB := n1_; clear n0_ n1_; (try clear hb); (try clear hb2); (try clear hk); (try clear hi))))
                                        go_ret2
                                        exact ⟨by first | rfl | (simp [errW_none, errW_some] <;> rfl) | (simp [*, errW_none, errW_some] <;> rfl), by repeat (first | (with_reducible first | exact HB.out | apply below_alloc | apply pw_below_drewN | apply below_drew1 | refine below_set ?_ GE160.out) | exact HB.out)⟩
                                      · rw [if_neg c64] at H
                                        exact absurd H (by simp)
                                    · rw [if_neg c62] at H
                                      exact absurd H (by simp)
                                · rw [if_neg c52] at H
                                  exact absurd H (by simp)
                              · rw [if_neg c51] at H
                                exact absurd H (by simp)
                            · rw [if_neg c50] at H
                              exact absurd H (by simp)
  · replace c3 := Bool.eq_false_iff.mpr c3
    subst c3
    have H1 : (some ((⟨#[]⟩ : ByteArray), 23)) = some (r1, r2) := by rw [if_neg (show ¬ (false = true) by decide)] at H; exact H
    clear H
    have H := H1
    clear H1
    simp only [Option.some.injEq, Prod.mk.injEq] at H
    obtain ⟨rfl, rfl⟩ := H
    go_enter Tryz.func16, Tryz.ntmps16
    go_wp2_with (first | ((with_reducible refine gate_dst (N := 1) rfl ?_); refine box_event ?hg (N := 1) ?hd (cs := #[.bool a0_0, .bool a0_1, .string a0_2, .int .i64 a0_3]) (t := 36) ?hr ?_; (case hd => rfl); (case hg => rfl); (case hr => first | (go_simp; done) | (go_simp; rfl)); intro gb160 hg w67 hbox hb; have n0_ := Aside0.mk (below_step (by repeat (first | (with_reducible first | exact HB.out | apply below_alloc | apply pw_below_drewN | apply below_drew1) | exact HB.out)) hb); have n1_ := Aside0.mk (hbox); have n2_ := Aside0.mk ((by rw [hg]; exact (below_size (by repeat (first | (with_reducible first | exact HB.out | apply below_alloc | apply pw_below_drewN | apply below_drew1) | exact HB.out))) : w.heap.size ≤ gb160)); have n3_ := Aside0.mk ((by rw [hg]; exact (below_size (by repeat (first | (with_reducible first | exact HB.out | apply below_alloc | apply pw_below_drewN | apply below_drew1) | exact HB.out))) : w.heap.size ≤ gb160)); clear HB; have HB := n0_; have BK160 := n1_; have GW160 := n2_; have GE160 := n3_; clear n0_ n1_ n2_ n3_; clear hb hbox hg; have hcz68_0 : w67.cell? ⟨gb160, 0, none⟩ = some (.bool a0_0) := (blk_cell BK160.out 0).trans rfl; have hcz68_1 : w67.cell? ⟨gb160, 1, none⟩ = some (.bool a0_1) := (blk_cell BK160.out 1).trans rfl; have hcz68_2 : w67.cell? ⟨gb160, 2, none⟩ = some (.string a0_2) := (blk_cell BK160.out 2).trans rfl; have hcz68_3 : w67.cell? ⟨gb160, 3, none⟩ = some (.int .i64 a0_3) := (blk_cell BK160.out 3).trans rfl; have hfz68_0 := blk_frozen BK160.out 0; have hfz68_1 := blk_frozen BK160.out 1; have hfz68_2 := blk_frozen BK160.out 2; have hfz68_3 := blk_frozen BK160.out 3) | (go_at_call 52; (with_reducible refine (vernierref18_Formed.calls k a0_0 a0_1 a0_2 a0_3 false _ A2.out).mono ?_); rintro e w69 ⟨rfl, hb⟩; have n0_ := Aside0.mk (blk_below (g := gb160) (o := .cells #[.bool a0_0, .bool a0_1, .string a0_2, .int .i64 a0_3] 36 (0, 0)) (by (with_reducible repeat (first | refine blk_drewN ?_ _ | refine blk_drew ?_ | refine blk_alloc ?_ _)); exact BK160.out) hb); have n1_ := Aside0.mk (below_step (by repeat (first | (with_reducible first | exact HB.out | apply below_alloc | apply pw_below_drewN | apply below_drew1 | refine below_set ?_ GE160.out) | exact HB.out)) hb); clear BK160; clear HB; have BK160 := n0_; have HB := n1_; clear n0_ n1_; (try clear hb); (try clear hb2); (try clear hk); (try clear hi)))
    repeat (go_quiet (first | ((with_reducible refine gate_dst (N := 1) rfl ?_); refine box_event ?hg (N := 1) ?hd (cs := #[.bool a0_0, .bool a0_1, .string a0_2, .int .i64 a0_3]) (t := 36) ?hr ?_; (case hd => rfl); (case hg => rfl); (case hr => first | (go_simp; done) | (go_simp; rfl)); intro gb160 hg w67 hbox hb; have n0_ := Aside0.mk (below_step (by repeat (first | (with_reducible first | exact HB.out | apply below_alloc | apply pw_below_drewN | apply below_drew1) | exact HB.out)) hb); have n1_ := Aside0.mk (hbox); have n2_ := Aside0.mk ((by rw [hg]; exact (below_size (by repeat (first | (with_reducible first | exact HB.out | apply below_alloc | apply pw_below_drewN | apply below_drew1) | exact HB.out))) : w.heap.size ≤ gb160)); have n3_ := Aside0.mk ((by rw [hg]; exact (below_size (by repeat (first | (with_reducible first | exact HB.out | apply below_alloc | apply pw_below_drewN | apply below_drew1) | exact HB.out))) : w.heap.size ≤ gb160)); clear HB; have HB := n0_; have BK160 := n1_; have GW160 := n2_; have GE160 := n3_; clear n0_ n1_ n2_ n3_; clear hb hbox hg; have hcz68_0 : w67.cell? ⟨gb160, 0, none⟩ = some (.bool a0_0) := (blk_cell BK160.out 0).trans rfl; have hcz68_1 : w67.cell? ⟨gb160, 1, none⟩ = some (.bool a0_1) := (blk_cell BK160.out 1).trans rfl; have hcz68_2 : w67.cell? ⟨gb160, 2, none⟩ = some (.string a0_2) := (blk_cell BK160.out 2).trans rfl; have hcz68_3 : w67.cell? ⟨gb160, 3, none⟩ = some (.int .i64 a0_3) := (blk_cell BK160.out 3).trans rfl; have hfz68_0 := blk_frozen BK160.out 0; have hfz68_1 := blk_frozen BK160.out 1; have hfz68_2 := blk_frozen BK160.out 2; have hfz68_3 := blk_frozen BK160.out 3) | (go_at_call 52; (with_reducible refine (vernierref18_Formed.calls k a0_0 a0_1 a0_2 a0_3 false _ A2.out).mono ?_); rintro e w69 ⟨rfl, hb⟩; have n0_ := Aside0.mk (blk_below (g := gb160) (o := .cells #[.bool a0_0, .bool a0_1, .string a0_2, .int .i64 a0_3] 36 (0, 0)) (by (with_reducible repeat (first | refine blk_drewN ?_ _ | refine blk_drew ?_ | refine blk_alloc ?_ _)); exact BK160.out) hb); have n1_ := Aside0.mk (below_step (by repeat (first | (with_reducible first | exact HB.out | apply below_alloc | apply pw_below_drewN | apply below_drew1 | refine below_set ?_ GE160.out) | exact HB.out)) hb); clear BK160; clear HB; have BK160 := n0_; have HB := n1_; clear n0_ n1_; (try clear hb); (try clear hb2); (try clear hk); (try clear hi))); try go_wp2_with (first | ((with_reducible refine gate_dst (N := 1) rfl ?_); refine box_event ?hg (N := 1) ?hd (cs := #[.bool a0_0, .bool a0_1, .string a0_2, .int .i64 a0_3]) (t := 36) ?hr ?_; (case hd => rfl); (case hg => rfl); (case hr => first | (go_simp; done) | (go_simp; rfl)); intro gb160 hg w67 hbox hb; have n0_ := Aside0.mk (below_step (by repeat (first | (with_reducible first | exact HB.out | apply below_alloc | apply pw_below_drewN | apply below_drew1) | exact HB.out)) hb); have n1_ := Aside0.mk (hbox); have n2_ := Aside0.mk ((by rw [hg]; exact (below_size (by repeat (first | (with_reducible first | exact HB.out | apply below_alloc | apply pw_below_drewN | apply below_drew1) | exact HB.out))) : w.heap.size ≤ gb160)); have n3_ := Aside0.mk ((by rw [hg]; exact (below_size (by repeat (first | (with_reducible first | exact HB.out | apply below_alloc | apply pw_below_drewN | apply below_drew1) | exact HB.out))) : w.heap.size ≤ gb160)); clear HB; have HB := n0_; have BK160 := n1_; have GW160 := n2_; have GE160 := n3_; clear n0_ n1_ n2_ n3_; clear hb hbox hg; have hcz68_0 : w67.cell? ⟨gb160, 0, none⟩ = some (.bool a0_0) := (blk_cell BK160.out 0).trans rfl; have hcz68_1 : w67.cell? ⟨gb160, 1, none⟩ = some (.bool a0_1) := (blk_cell BK160.out 1).trans rfl; have hcz68_2 : w67.cell? ⟨gb160, 2, none⟩ = some (.string a0_2) := (blk_cell BK160.out 2).trans rfl; have hcz68_3 : w67.cell? ⟨gb160, 3, none⟩ = some (.int .i64 a0_3) := (blk_cell BK160.out 3).trans rfl; have hfz68_0 := blk_frozen BK160.out 0; have hfz68_1 := blk_frozen BK160.out 1; have hfz68_2 := blk_frozen BK160.out 2; have hfz68_3 := blk_frozen BK160.out 3) | (go_at_call 52; (with_reducible refine (vernierref18_Formed.calls k a0_0 a0_1 a0_2 a0_3 false _ A2.out).mono ?_); rintro e w69 ⟨rfl, hb⟩; have n0_ := Aside0.mk (blk_below (g := gb160) (o := .cells #[.bool a0_0, .bool a0_1, .string a0_2, .int .i64 a0_3] 36 (0, 0)) (by (with_reducible repeat (first | refine blk_drewN ?_ _ | refine blk_drew ?_ | refine blk_alloc ?_ _)); exact BK160.out) hb); have n1_ := Aside0.mk (below_step (by repeat (first | (with_reducible first | exact HB.out | apply below_alloc | apply pw_below_drewN | apply below_drew1 | refine below_set ?_ GE160.out) | exact HB.out)) hb); clear BK160; clear HB; have BK160 := n0_; have HB := n1_; clear n0_ n1_; (try clear hb); (try clear hb2); (try clear hk); (try clear hi))))
    go_ret2
    exact ⟨by first | rfl | (simp [errW_none, errW_some] <;> rfl) | (simp [*, errW_none, errW_some] <;> rfl), by repeat (first | (with_reducible first | exact HB.out | apply below_alloc | apply pw_below_drewN | apply below_drew1 | refine below_set ?_ GE160.out) | exact HB.out)⟩
end Go.Proofs.YthhkmpicpihjlaaGreatDoor.PSc
