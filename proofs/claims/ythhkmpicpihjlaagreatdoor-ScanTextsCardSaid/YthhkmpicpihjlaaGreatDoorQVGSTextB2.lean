/- scan.Text, by cases of its form (B2). -/
import Derived.Test.YthhkmpicpihjlaaGreatDoorQVGSTextA
set_option linter.unusedVariables false
set_option linter.unusedSimpArgs false
namespace Go.Proofs.YthhkmpicpihjlaaGreatDoor.PSc
open Go.RowKit Go.Proofs.YthhkmpicpihjlaaGreatDoorW.PrintWords Go.Proofs.YthhkmpicpihjlaaGreatDoorW.PrintLast Go.Proofs.YthhkmpicpihjlaaGreatDoorW.PrintMore Go.Proofs.YthhkmpicpihjlaaGreatDoor.SC
set_option maxHeartbeats 2000000 in
set_option maxRecDepth 100000 in
theorem text_one_true (d N : D) (w : World) (hl0 : Fx.Laid w) (h0 : ∀ W, Calls Tryz.prog 46 #[.agg #[.bool d.nar, .bool d.neg, .string (mkB d.ds), .int .i64 d.e]] W fun e w' => e = .returned (.tuple #[.agg #[.bool N.nar, .bool N.neg, .string (mkB N.ds), .int .i64 N.e], .nilIface]) ∧ Below W.heap.size W w')
    (hn : N.nar = false) (hneg : N.neg = true) (hl1 : N.ds.length ≤ 4096) (he1 : -1000000 ≤ N.e) (he2 : N.e ≤ 1000000) (a : Int) (ha : a = (N.ds.length : Int) + N.e) (h1 : 0 ≤ N.e) (h2 : a ≤ 21) :
    Calls Tryz.prog 15 #[.agg #[.bool d.nar, .bool d.neg, .string (mkB d.ds), .int .i64 d.e]] w fun e w' => Texted N w e w' := by
  have hD : DVar w.heap.size d (w.alloc (.cells #[.bool d.nar, .bool d.neg, .string (mkB d.ds), .int .i64 d.e] 36)) := heap_alloc_new w _
  have HD := Aside0.mk hD
  have hsz := mkB_size N.ds
  have haw : wrap64 (((mkB N.ds).size : Int) + N.e) = a := by rw [hsz, ← ha]; exact wrap_id (by omega) (by omega)
  have haw2 : IntKind.i64.wrap (((mkB N.ds).size : Int) + N.e) = a := (i64_w _).trans haw
  have HL0 := Aside0.mk hl0
  have HLN := Aside0.mk hl1
  have HSZ := Aside0.mk hsz
  have HN := Aside0.mk hn
  have HNEG := Aside0.mk hneg
  have q1 : decide (0 ≤ N.e) = true := decide_eq_true h1
  have q2 : decide (a ≤ 21) = true := decide_eq_true h2
  have HX0 : Aside0 (0 ≤ N.e) := ⟨h1⟩
  have HX1 : Aside0 (N.e ≤ 1000) := ⟨by omega⟩
  have HX : Aside0 (N.e.toNat ≤ 1000) := ⟨by omega⟩
  have HTK := HX
  have HDR := HX
  have HXS := HX
  have HYS := HX
  have HTX : Aside0 (textN N = [45] ++ (N.ds ++ List.replicate N.e.toNat 48)) := ⟨by
    unfold textN
    rw [if_neg (by rw [hn]; decide), hneg]
    simp only [← ha, Bool.false_eq_true, if_false, if_true]
    rw [if_pos ⟨h1, h2⟩]⟩
  rw [hn, hneg] at h0
  clear hD hn hneg hl1 he1 he2 ha hsz hl0
  go_enter Tryz.func15, Tryz.ntmps15
  go_upto_region 9 with (first | (go_at_call 46; refine (h0 _).mono ?_; rintro e w1 ⟨rfl, hb⟩; have hv1 := dvar_below HD.out hb (by simp); obtain ⟨c0, c1, c2, c3, f0, f1, f2, f3, hlt⟩ := dvar_cells hv1; have ht0 := ts_start N hv1 (((Below.refl _ w).alloc (Nat.le_refl _) _).trans (hb.mono (by simp))) HL0.out; unfold chain at ht0; rw [HN.out, HNEG.out] at ht0; have HT := Aside0.mk ht0; obtain ⟨k0, k1, k2, k3, g0, g1, g2, g3, hlt2⟩ := dvar_cells HT.out.var; rw [HN.out] at k0; rw [HNEG.out] at k1; clear hb hv1 ht0) | (go_at_call 47; refine (ts_byte (by first | exact HT.out | exact HT.out.drew | exact HT.out.drewN _) HL0.out 45 _ rfl (by simp)).mono ?_; rintro e w2 ⟨rfl, ht⟩; have HT := Aside0.mk ht; obtain ⟨k0, k1, k2, k3, g0, g1, g2, g3, hlt2⟩ := dvar_cells HT.out.var; clear ht) | (go_at_call 48; refine (ts_write (by first | exact HT.out | exact HT.out.drew | exact HT.out.drewN _) HL0.out _ (by have hq := HLN.out; have hq2 := HSZ.out; have hq3 := HXS.out; have hq4 := HYS.out; have hq7 := HX.out; have hq8 : (⟨#[46]⟩ : ByteArray).size = 1 := rfl; have hq9 : (⟨#[48, 46]⟩ : ByteArray).size = 2 := rfl; have hq0 : (⟨#[101]⟩ : ByteArray).size = 1 := rfl; simp only [List.length_append, List.length_nil, List.length_cons, ByteArray.size_append, len_data, mkB_rep, mkB_ito]; omega)).mono ?_; rintro e w3 ⟨rfl, ht⟩; have HT := Aside0.mk ht; obtain ⟨k0, k1, k2, k3, g0, g1, g2, g3, hlt2⟩ := dvar_cells HT.out.var; clear ht) | (go_at_call 49; refine (ts_repeat (by first | exact HT.out | exact HT.out.drew | exact HT.out.drewN _) _ HX0.out HX1.out).mono ?_; rintro e w4 ⟨rfl, ht⟩; have HT := Aside0.mk ht; obtain ⟨k0, k1, k2, k3, g0, g1, g2, g3, hlt2⟩ := dvar_cells HT.out.var; clear ht) | (go_at_call 50; refine (ts_itoa (by first | exact HT.out | exact HT.out.drew | exact HT.out.drewN _) _ HX0.out HX1.out).mono ?_; rintro e w4 ⟨rfl, ht⟩; have HT := Aside0.mk ht; obtain ⟨k0, k1, k2, k3, g0, g1, g2, g3, hlt2⟩ := dvar_cells HT.out.var; clear ht) | (go_at_call 51; refine (ts_string (by first | exact HT.out | exact HT.out.drew | exact HT.out.drewN _)).mono ?_; rintro e w5 ⟨rfl, hb5⟩; have HB5 := Aside0.mk hb5; clear hb5))
  clear c0 c1 c2 c3 f0 f1 f2 f3
  go_wp2_with (first | (go_at_call 46; refine (h0 _).mono ?_; rintro e w1 ⟨rfl, hb⟩; have hv1 := dvar_below HD.out hb (by simp); obtain ⟨c0, c1, c2, c3, f0, f1, f2, f3, hlt⟩ := dvar_cells hv1; have ht0 := ts_start N hv1 (((Below.refl _ w).alloc (Nat.le_refl _) _).trans (hb.mono (by simp))) HL0.out; unfold chain at ht0; rw [HN.out, HNEG.out] at ht0; have HT := Aside0.mk ht0; obtain ⟨k0, k1, k2, k3, g0, g1, g2, g3, hlt2⟩ := dvar_cells HT.out.var; rw [HN.out] at k0; rw [HNEG.out] at k1; clear hb hv1 ht0) | (go_at_call 47; refine (ts_byte (by first | exact HT.out | exact HT.out.drew | exact HT.out.drewN _) HL0.out 45 _ rfl (by simp)).mono ?_; rintro e w2 ⟨rfl, ht⟩; have HT := Aside0.mk ht; obtain ⟨k0, k1, k2, k3, g0, g1, g2, g3, hlt2⟩ := dvar_cells HT.out.var; clear ht) | (go_at_call 48; refine (ts_write (by first | exact HT.out | exact HT.out.drew | exact HT.out.drewN _) HL0.out _ (by have hq := HLN.out; have hq2 := HSZ.out; have hq3 := HXS.out; have hq4 := HYS.out; have hq7 := HX.out; have hq8 : (⟨#[46]⟩ : ByteArray).size = 1 := rfl; have hq9 : (⟨#[48, 46]⟩ : ByteArray).size = 2 := rfl; have hq0 : (⟨#[101]⟩ : ByteArray).size = 1 := rfl; simp only [List.length_append, List.length_nil, List.length_cons, ByteArray.size_append, len_data, mkB_rep, mkB_ito]; omega)).mono ?_; rintro e w3 ⟨rfl, ht⟩; have HT := Aside0.mk ht; obtain ⟨k0, k1, k2, k3, g0, g1, g2, g3, hlt2⟩ := dvar_cells HT.out.var; clear ht) | (go_at_call 49; refine (ts_repeat (by first | exact HT.out | exact HT.out.drew | exact HT.out.drewN _) _ HX0.out HX1.out).mono ?_; rintro e w4 ⟨rfl, ht⟩; have HT := Aside0.mk ht; obtain ⟨k0, k1, k2, k3, g0, g1, g2, g3, hlt2⟩ := dvar_cells HT.out.var; clear ht) | (go_at_call 50; refine (ts_itoa (by first | exact HT.out | exact HT.out.drew | exact HT.out.drewN _) _ HX0.out HX1.out).mono ?_; rintro e w4 ⟨rfl, ht⟩; have HT := Aside0.mk ht; obtain ⟨k0, k1, k2, k3, g0, g1, g2, g3, hlt2⟩ := dvar_cells HT.out.var; clear ht) | (go_at_call 51; refine (ts_string (by first | exact HT.out | exact HT.out.drew | exact HT.out.drewN _)).mono ?_; rintro e w5 ⟨rfl, hb5⟩; have HB5 := Aside0.mk hb5; clear hb5))
  all_goals go_ret2
  all_goals
    unfold Texted
    rw [HTX.out]
    refine ⟨?_, HB5.out⟩
    refine congrArg (fun x => Ending.returned (.tuple #[.string x, .nilIface])) ?_
    have e46 : (⟨#[46]⟩ : ByteArray) = mkB [46] := rfl
    have e101 : (⟨#[101]⟩ : ByteArray) = mkB [101] := rfl
    have e4846 : (⟨#[48, 46]⟩ : ByteArray) = mkB [48, 46] := rfl
    simp only [HTK.out, HDR.out, e46, e101, e4846, mkB_append, mkB_list, List.nil_append, List.append_assoc, List.cons_append, List.append_nil]
set_option maxHeartbeats 2000000 in
set_option maxRecDepth 100000 in
theorem text_two_true (d N : D) (w : World) (hl0 : Fx.Laid w) (h0 : ∀ W, Calls Tryz.prog 46 #[.agg #[.bool d.nar, .bool d.neg, .string (mkB d.ds), .int .i64 d.e]] W fun e w' => e = .returned (.tuple #[.agg #[.bool N.nar, .bool N.neg, .string (mkB N.ds), .int .i64 N.e], .nilIface]) ∧ Below W.heap.size W w')
    (hn : N.nar = false) (hneg : N.neg = true) (hl1 : N.ds.length ≤ 4096) (he1 : -1000000 ≤ N.e) (he2 : N.e ≤ 1000000) (a : Int) (ha : a = (N.ds.length : Int) + N.e) (h1 : N.e < 0) (h2 : 1 ≤ a) (h3 : a ≤ 21) :
    Calls Tryz.prog 15 #[.agg #[.bool d.nar, .bool d.neg, .string (mkB d.ds), .int .i64 d.e]] w fun e w' => Texted N w e w' := by
  have hD : DVar w.heap.size d (w.alloc (.cells #[.bool d.nar, .bool d.neg, .string (mkB d.ds), .int .i64 d.e] 36)) := heap_alloc_new w _
  have HD := Aside0.mk hD
  have hsz := mkB_size N.ds
  have haw : wrap64 (((mkB N.ds).size : Int) + N.e) = a := by rw [hsz, ← ha]; exact wrap_id (by omega) (by omega)
  have haw2 : IntKind.i64.wrap (((mkB N.ds).size : Int) + N.e) = a := (i64_w _).trans haw
  have HL0 := Aside0.mk hl0
  have HLN := Aside0.mk hl1
  have HSZ := Aside0.mk hsz
  have HN := Aside0.mk hn
  have HNEG := Aside0.mk hneg
  have q1 : decide (0 ≤ N.e) = false := decide_eq_false (by omega)
  have q2 : decide (1 ≤ a) = true := decide_eq_true h2
  have q3 : decide (a ≤ 21) = true := decide_eq_true h3
  have p1 := eq_true (show (0 : Int) ≤ a by omega)
  have p2 := eq_true (show a ≤ ((mkB N.ds).size : Int) by rw [hsz]; omega)
  have HX : Aside0 (0 ≤ (1 : Nat)) := ⟨by omega⟩
  have HX0 := HX
  have HX1 := HX
  have HTK : Aside0 ((mkB N.ds).extract 0 a.toNat = mkB (N.ds.take a.toNat)) := ⟨mkB_take _ _ (by omega)⟩
  have HDR : Aside0 ((mkB N.ds).extract a.toNat (mkB N.ds).size = mkB (N.ds.drop a.toNat)) := ⟨mkB_drop _ _⟩
  obtain ⟨X, hX⟩ : ∃ X, (mkB N.ds).extract 0 a.toNat = X := ⟨_, rfl⟩
  obtain ⟨Y, hY⟩ : ∃ Y, (mkB N.ds).extract a.toNat (mkB N.ds).size = Y := ⟨_, rfl⟩
  have HXS : Aside0 (X.size ≤ (mkB N.ds).size) := ⟨by rw [← hX]; exact ext_le _ _ _⟩
  have HYS : Aside0 (Y.size ≤ (mkB N.ds).size) := ⟨by rw [← hY]; exact ext_le _ _ _⟩
  rw [hX] at HTK
  rw [hY] at HDR
  have y1 : (9223372036854775807 < X.size + 1) = False := eq_false (by have hq := HLN.out; have hq2 := HSZ.out; have hq3 := HXS.out; have hq4 := HYS.out; have hq7 := HX.out; have hq8 : (⟨#[46]⟩ : ByteArray).size = 1 := rfl; have hq9 : (⟨#[48, 46]⟩ : ByteArray).size = 2 := rfl; have hq0 : (⟨#[101]⟩ : ByteArray).size = 1 := rfl; omega)
  have y2 : (9223372036854775807 < X.size + 1 + Y.size) = False := eq_false (by have hq := HLN.out; have hq2 := HSZ.out; have hq3 := HXS.out; have hq4 := HYS.out; have hq7 := HX.out; have hq8 : (⟨#[46]⟩ : ByteArray).size = 1 := rfl; have hq9 : (⟨#[48, 46]⟩ : ByteArray).size = 2 := rfl; have hq0 : (⟨#[101]⟩ : ByteArray).size = 1 := rfl; omega)
  have HTX : Aside0 (textN N = [45] ++ (N.ds.take a.toNat ++ [46] ++ N.ds.drop a.toNat)) := ⟨by
    unfold textN
    rw [if_neg (by rw [hn]; decide), hneg]
    simp only [← ha, Bool.false_eq_true, if_false, if_true]
    rw [if_neg (by omega), if_pos ⟨h2, h3⟩]⟩
  rw [hn, hneg] at h0
  clear hD hn hneg hl1 he1 he2 ha hsz hl0
  go_enter Tryz.func15, Tryz.ntmps15
  go_upto_region 9 with (first | (go_at_call 46; refine (h0 _).mono ?_; rintro e w1 ⟨rfl, hb⟩; have hv1 := dvar_below HD.out hb (by simp); obtain ⟨c0, c1, c2, c3, f0, f1, f2, f3, hlt⟩ := dvar_cells hv1; have ht0 := ts_start N hv1 (((Below.refl _ w).alloc (Nat.le_refl _) _).trans (hb.mono (by simp))) HL0.out; unfold chain at ht0; rw [HN.out, HNEG.out] at ht0; have HT := Aside0.mk ht0; obtain ⟨k0, k1, k2, k3, g0, g1, g2, g3, hlt2⟩ := dvar_cells HT.out.var; rw [HN.out] at k0; rw [HNEG.out] at k1; clear hb hv1 ht0) | (go_at_call 47; refine (ts_byte (by first | exact HT.out | exact HT.out.drew | exact HT.out.drewN _) HL0.out 45 _ rfl (by simp)).mono ?_; rintro e w2 ⟨rfl, ht⟩; have HT := Aside0.mk ht; obtain ⟨k0, k1, k2, k3, g0, g1, g2, g3, hlt2⟩ := dvar_cells HT.out.var; clear ht) | (go_at_call 48; refine (ts_write (by first | exact HT.out | exact HT.out.drew | exact HT.out.drewN _) HL0.out _ (by have hq := HLN.out; have hq2 := HSZ.out; have hq3 := HXS.out; have hq4 := HYS.out; have hq7 := HX.out; have hq8 : (⟨#[46]⟩ : ByteArray).size = 1 := rfl; have hq9 : (⟨#[48, 46]⟩ : ByteArray).size = 2 := rfl; have hq0 : (⟨#[101]⟩ : ByteArray).size = 1 := rfl; simp only [List.length_append, List.length_nil, List.length_cons, ByteArray.size_append, len_data, mkB_rep, mkB_ito]; omega)).mono ?_; rintro e w3 ⟨rfl, ht⟩; have HT := Aside0.mk ht; obtain ⟨k0, k1, k2, k3, g0, g1, g2, g3, hlt2⟩ := dvar_cells HT.out.var; clear ht) | (go_at_call 49; refine (ts_repeat (by first | exact HT.out | exact HT.out.drew | exact HT.out.drewN _) _ HX0.out HX1.out).mono ?_; rintro e w4 ⟨rfl, ht⟩; have HT := Aside0.mk ht; obtain ⟨k0, k1, k2, k3, g0, g1, g2, g3, hlt2⟩ := dvar_cells HT.out.var; clear ht) | (go_at_call 50; refine (ts_itoa (by first | exact HT.out | exact HT.out.drew | exact HT.out.drewN _) _ HX0.out HX1.out).mono ?_; rintro e w4 ⟨rfl, ht⟩; have HT := Aside0.mk ht; obtain ⟨k0, k1, k2, k3, g0, g1, g2, g3, hlt2⟩ := dvar_cells HT.out.var; clear ht) | (go_at_call 51; refine (ts_string (by first | exact HT.out | exact HT.out.drew | exact HT.out.drewN _)).mono ?_; rintro e w5 ⟨rfl, hb5⟩; have HB5 := Aside0.mk hb5; clear hb5))
  clear c0 c1 c2 c3 f0 f1 f2 f3
  go_wp2_with (first | (go_at_call 46; refine (h0 _).mono ?_; rintro e w1 ⟨rfl, hb⟩; have hv1 := dvar_below HD.out hb (by simp); obtain ⟨c0, c1, c2, c3, f0, f1, f2, f3, hlt⟩ := dvar_cells hv1; have ht0 := ts_start N hv1 (((Below.refl _ w).alloc (Nat.le_refl _) _).trans (hb.mono (by simp))) HL0.out; unfold chain at ht0; rw [HN.out, HNEG.out] at ht0; have HT := Aside0.mk ht0; obtain ⟨k0, k1, k2, k3, g0, g1, g2, g3, hlt2⟩ := dvar_cells HT.out.var; rw [HN.out] at k0; rw [HNEG.out] at k1; clear hb hv1 ht0) | (go_at_call 47; refine (ts_byte (by first | exact HT.out | exact HT.out.drew | exact HT.out.drewN _) HL0.out 45 _ rfl (by simp)).mono ?_; rintro e w2 ⟨rfl, ht⟩; have HT := Aside0.mk ht; obtain ⟨k0, k1, k2, k3, g0, g1, g2, g3, hlt2⟩ := dvar_cells HT.out.var; clear ht) | (go_at_call 48; refine (ts_write (by first | exact HT.out | exact HT.out.drew | exact HT.out.drewN _) HL0.out _ (by have hq := HLN.out; have hq2 := HSZ.out; have hq3 := HXS.out; have hq4 := HYS.out; have hq7 := HX.out; have hq8 : (⟨#[46]⟩ : ByteArray).size = 1 := rfl; have hq9 : (⟨#[48, 46]⟩ : ByteArray).size = 2 := rfl; have hq0 : (⟨#[101]⟩ : ByteArray).size = 1 := rfl; simp only [List.length_append, List.length_nil, List.length_cons, ByteArray.size_append, len_data, mkB_rep, mkB_ito]; omega)).mono ?_; rintro e w3 ⟨rfl, ht⟩; have HT := Aside0.mk ht; obtain ⟨k0, k1, k2, k3, g0, g1, g2, g3, hlt2⟩ := dvar_cells HT.out.var; clear ht) | (go_at_call 49; refine (ts_repeat (by first | exact HT.out | exact HT.out.drew | exact HT.out.drewN _) _ HX0.out HX1.out).mono ?_; rintro e w4 ⟨rfl, ht⟩; have HT := Aside0.mk ht; obtain ⟨k0, k1, k2, k3, g0, g1, g2, g3, hlt2⟩ := dvar_cells HT.out.var; clear ht) | (go_at_call 50; refine (ts_itoa (by first | exact HT.out | exact HT.out.drew | exact HT.out.drewN _) _ HX0.out HX1.out).mono ?_; rintro e w4 ⟨rfl, ht⟩; have HT := Aside0.mk ht; obtain ⟨k0, k1, k2, k3, g0, g1, g2, g3, hlt2⟩ := dvar_cells HT.out.var; clear ht) | (go_at_call 51; refine (ts_string (by first | exact HT.out | exact HT.out.drew | exact HT.out.drewN _)).mono ?_; rintro e w5 ⟨rfl, hb5⟩; have HB5 := Aside0.mk hb5; clear hb5))
  go_still_tail 10, (by kernel_rfl)
  go_wp2_with (first | (go_at_call 46; refine (h0 _).mono ?_; rintro e w1 ⟨rfl, hb⟩; have hv1 := dvar_below HD.out hb (by simp); obtain ⟨c0, c1, c2, c3, f0, f1, f2, f3, hlt⟩ := dvar_cells hv1; have ht0 := ts_start N hv1 (((Below.refl _ w).alloc (Nat.le_refl _) _).trans (hb.mono (by simp))) HL0.out; unfold chain at ht0; rw [HN.out, HNEG.out] at ht0; have HT := Aside0.mk ht0; obtain ⟨k0, k1, k2, k3, g0, g1, g2, g3, hlt2⟩ := dvar_cells HT.out.var; rw [HN.out] at k0; rw [HNEG.out] at k1; clear hb hv1 ht0) | (go_at_call 47; refine (ts_byte (by first | exact HT.out | exact HT.out.drew | exact HT.out.drewN _) HL0.out 45 _ rfl (by simp)).mono ?_; rintro e w2 ⟨rfl, ht⟩; have HT := Aside0.mk ht; obtain ⟨k0, k1, k2, k3, g0, g1, g2, g3, hlt2⟩ := dvar_cells HT.out.var; clear ht) | (go_at_call 48; refine (ts_write (by first | exact HT.out | exact HT.out.drew | exact HT.out.drewN _) HL0.out _ (by have hq := HLN.out; have hq2 := HSZ.out; have hq3 := HXS.out; have hq4 := HYS.out; have hq7 := HX.out; have hq8 : (⟨#[46]⟩ : ByteArray).size = 1 := rfl; have hq9 : (⟨#[48, 46]⟩ : ByteArray).size = 2 := rfl; have hq0 : (⟨#[101]⟩ : ByteArray).size = 1 := rfl; simp only [List.length_append, List.length_nil, List.length_cons, ByteArray.size_append, len_data, mkB_rep, mkB_ito]; omega)).mono ?_; rintro e w3 ⟨rfl, ht⟩; have HT := Aside0.mk ht; obtain ⟨k0, k1, k2, k3, g0, g1, g2, g3, hlt2⟩ := dvar_cells HT.out.var; clear ht) | (go_at_call 49; refine (ts_repeat (by first | exact HT.out | exact HT.out.drew | exact HT.out.drewN _) _ HX0.out HX1.out).mono ?_; rintro e w4 ⟨rfl, ht⟩; have HT := Aside0.mk ht; obtain ⟨k0, k1, k2, k3, g0, g1, g2, g3, hlt2⟩ := dvar_cells HT.out.var; clear ht) | (go_at_call 50; refine (ts_itoa (by first | exact HT.out | exact HT.out.drew | exact HT.out.drewN _) _ HX0.out HX1.out).mono ?_; rintro e w4 ⟨rfl, ht⟩; have HT := Aside0.mk ht; obtain ⟨k0, k1, k2, k3, g0, g1, g2, g3, hlt2⟩ := dvar_cells HT.out.var; clear ht) | (go_at_call 51; refine (ts_string (by first | exact HT.out | exact HT.out.drew | exact HT.out.drewN _)).mono ?_; rintro e w5 ⟨rfl, hb5⟩; have HB5 := Aside0.mk hb5; clear hb5))
  all_goals go_ret2
  all_goals
    unfold Texted
    rw [HTX.out]
    refine ⟨?_, HB5.out⟩
    refine congrArg (fun x => Ending.returned (.tuple #[.string x, .nilIface])) ?_
    have e46 : (⟨#[46]⟩ : ByteArray) = mkB [46] := rfl
    have e101 : (⟨#[101]⟩ : ByteArray) = mkB [101] := rfl
    have e4846 : (⟨#[48, 46]⟩ : ByteArray) = mkB [48, 46] := rfl
    simp only [HTK.out, HDR.out, e46, e101, e4846, mkB_append, mkB_list, List.nil_append, List.append_assoc, List.cons_append, List.append_nil]
set_option maxHeartbeats 2000000 in
set_option maxRecDepth 100000 in
theorem text_three_true (d N : D) (w : World) (hl0 : Fx.Laid w) (h0 : ∀ W, Calls Tryz.prog 46 #[.agg #[.bool d.nar, .bool d.neg, .string (mkB d.ds), .int .i64 d.e]] W fun e w' => e = .returned (.tuple #[.agg #[.bool N.nar, .bool N.neg, .string (mkB N.ds), .int .i64 N.e], .nilIface]) ∧ Below W.heap.size W w')
    (hn : N.nar = false) (hneg : N.neg = true) (hl1 : N.ds.length ≤ 4096) (he1 : -1000000 ≤ N.e) (he2 : N.e ≤ 1000000) (a : Int) (ha : a = (N.ds.length : Int) + N.e) (h1 : N.e < 0) (h2 : -5 ≤ a) (h3 : a ≤ 0) :
    Calls Tryz.prog 15 #[.agg #[.bool d.nar, .bool d.neg, .string (mkB d.ds), .int .i64 d.e]] w fun e w' => Texted N w e w' := by
  have hD : DVar w.heap.size d (w.alloc (.cells #[.bool d.nar, .bool d.neg, .string (mkB d.ds), .int .i64 d.e] 36)) := heap_alloc_new w _
  have HD := Aside0.mk hD
  have hsz := mkB_size N.ds
  have haw : wrap64 (((mkB N.ds).size : Int) + N.e) = a := by rw [hsz, ← ha]; exact wrap_id (by omega) (by omega)
  have haw2 : IntKind.i64.wrap (((mkB N.ds).size : Int) + N.e) = a := (i64_w _).trans haw
  have HL0 := Aside0.mk hl0
  have HLN := Aside0.mk hl1
  have HSZ := Aside0.mk hsz
  have HN := Aside0.mk hn
  have HNEG := Aside0.mk hneg
  have q1 : decide (0 ≤ N.e) = false := decide_eq_false (by omega)
  have q2 : decide (1 ≤ a) = false := decide_eq_false (by omega)
  have q3 : decide (-5 ≤ a) = true := decide_eq_true h2
  have q4 : decide (a ≤ 0) = true := decide_eq_true h3
  have hw1 : wrap64 (-a) = -a := wrap_id (by omega) (by omega)
  have hw2 : IntKind.i64.wrap (-a) = -a := (i64_w _).trans hw1
  have HX0 : Aside0 (0 ≤ -a) := ⟨by omega⟩
  have HX1 : Aside0 (-a ≤ 1000) := ⟨by omega⟩
  have HX : Aside0 ((-a).toNat ≤ 1000) := ⟨by omega⟩
  have HTK := HX
  have HDR := HX
  have HXS := HX
  have HYS := HX
  have y1 : (9223372036854775807 < 2 + (mkB (List.replicate (-a).toNat 48)).size) = False := eq_false (by have hq := HLN.out; have hq2 := HSZ.out; have hq3 := HXS.out; have hq4 := HYS.out; have hq7 := HX.out; have hq8 : (⟨#[46]⟩ : ByteArray).size = 1 := rfl; have hq9 : (⟨#[48, 46]⟩ : ByteArray).size = 2 := rfl; have hq0 : (⟨#[101]⟩ : ByteArray).size = 1 := rfl; rw [mkB_rep]; omega)
  have y2 : (9223372036854775807 < 2 + (mkB (List.replicate (-a).toNat 48)).size + (mkB N.ds).size) = False := eq_false (by have hq := HLN.out; have hq2 := HSZ.out; have hq3 := HXS.out; have hq4 := HYS.out; have hq7 := HX.out; have hq8 : (⟨#[46]⟩ : ByteArray).size = 1 := rfl; have hq9 : (⟨#[48, 46]⟩ : ByteArray).size = 2 := rfl; have hq0 : (⟨#[101]⟩ : ByteArray).size = 1 := rfl; rw [mkB_rep]; omega)
  have HTX : Aside0 (textN N = [45] ++ ([48, 46] ++ List.replicate (-a).toNat 48 ++ N.ds)) := ⟨by
    unfold textN
    rw [if_neg (by rw [hn]; decide), hneg]
    simp only [← ha, Bool.false_eq_true, if_false, if_true]
    rw [if_neg (by omega), if_neg (by omega), if_pos ⟨h2, h3⟩]⟩
  rw [hn, hneg] at h0
  clear hD hn hneg hl1 he1 he2 ha hsz hl0
  go_enter Tryz.func15, Tryz.ntmps15
  go_upto_region 9 with (first | (go_at_call 46; refine (h0 _).mono ?_; rintro e w1 ⟨rfl, hb⟩; have hv1 := dvar_below HD.out hb (by simp); obtain ⟨c0, c1, c2, c3, f0, f1, f2, f3, hlt⟩ := dvar_cells hv1; have ht0 := ts_start N hv1 (((Below.refl _ w).alloc (Nat.le_refl _) _).trans (hb.mono (by simp))) HL0.out; unfold chain at ht0; rw [HN.out, HNEG.out] at ht0; have HT := Aside0.mk ht0; obtain ⟨k0, k1, k2, k3, g0, g1, g2, g3, hlt2⟩ := dvar_cells HT.out.var; rw [HN.out] at k0; rw [HNEG.out] at k1; clear hb hv1 ht0) | (go_at_call 47; refine (ts_byte (by first | exact HT.out | exact HT.out.drew | exact HT.out.drewN _) HL0.out 45 _ rfl (by simp)).mono ?_; rintro e w2 ⟨rfl, ht⟩; have HT := Aside0.mk ht; obtain ⟨k0, k1, k2, k3, g0, g1, g2, g3, hlt2⟩ := dvar_cells HT.out.var; clear ht) | (go_at_call 48; refine (ts_write (by first | exact HT.out | exact HT.out.drew | exact HT.out.drewN _) HL0.out _ (by have hq := HLN.out; have hq2 := HSZ.out; have hq3 := HXS.out; have hq4 := HYS.out; have hq7 := HX.out; have hq8 : (⟨#[46]⟩ : ByteArray).size = 1 := rfl; have hq9 : (⟨#[48, 46]⟩ : ByteArray).size = 2 := rfl; have hq0 : (⟨#[101]⟩ : ByteArray).size = 1 := rfl; simp only [List.length_append, List.length_nil, List.length_cons, ByteArray.size_append, len_data, mkB_rep, mkB_ito]; omega)).mono ?_; rintro e w3 ⟨rfl, ht⟩; have HT := Aside0.mk ht; obtain ⟨k0, k1, k2, k3, g0, g1, g2, g3, hlt2⟩ := dvar_cells HT.out.var; clear ht) | (go_at_call 49; refine (ts_repeat (by first | exact HT.out | exact HT.out.drew | exact HT.out.drewN _) _ HX0.out HX1.out).mono ?_; rintro e w4 ⟨rfl, ht⟩; have HT := Aside0.mk ht; obtain ⟨k0, k1, k2, k3, g0, g1, g2, g3, hlt2⟩ := dvar_cells HT.out.var; clear ht) | (go_at_call 50; refine (ts_itoa (by first | exact HT.out | exact HT.out.drew | exact HT.out.drewN _) _ HX0.out HX1.out).mono ?_; rintro e w4 ⟨rfl, ht⟩; have HT := Aside0.mk ht; obtain ⟨k0, k1, k2, k3, g0, g1, g2, g3, hlt2⟩ := dvar_cells HT.out.var; clear ht) | (go_at_call 51; refine (ts_string (by first | exact HT.out | exact HT.out.drew | exact HT.out.drewN _)).mono ?_; rintro e w5 ⟨rfl, hb5⟩; have HB5 := Aside0.mk hb5; clear hb5))
  clear c0 c1 c2 c3 f0 f1 f2 f3
  go_wp2_with (first | (go_at_call 46; refine (h0 _).mono ?_; rintro e w1 ⟨rfl, hb⟩; have hv1 := dvar_below HD.out hb (by simp); obtain ⟨c0, c1, c2, c3, f0, f1, f2, f3, hlt⟩ := dvar_cells hv1; have ht0 := ts_start N hv1 (((Below.refl _ w).alloc (Nat.le_refl _) _).trans (hb.mono (by simp))) HL0.out; unfold chain at ht0; rw [HN.out, HNEG.out] at ht0; have HT := Aside0.mk ht0; obtain ⟨k0, k1, k2, k3, g0, g1, g2, g3, hlt2⟩ := dvar_cells HT.out.var; rw [HN.out] at k0; rw [HNEG.out] at k1; clear hb hv1 ht0) | (go_at_call 47; refine (ts_byte (by first | exact HT.out | exact HT.out.drew | exact HT.out.drewN _) HL0.out 45 _ rfl (by simp)).mono ?_; rintro e w2 ⟨rfl, ht⟩; have HT := Aside0.mk ht; obtain ⟨k0, k1, k2, k3, g0, g1, g2, g3, hlt2⟩ := dvar_cells HT.out.var; clear ht) | (go_at_call 48; refine (ts_write (by first | exact HT.out | exact HT.out.drew | exact HT.out.drewN _) HL0.out _ (by have hq := HLN.out; have hq2 := HSZ.out; have hq3 := HXS.out; have hq4 := HYS.out; have hq7 := HX.out; have hq8 : (⟨#[46]⟩ : ByteArray).size = 1 := rfl; have hq9 : (⟨#[48, 46]⟩ : ByteArray).size = 2 := rfl; have hq0 : (⟨#[101]⟩ : ByteArray).size = 1 := rfl; simp only [List.length_append, List.length_nil, List.length_cons, ByteArray.size_append, len_data, mkB_rep, mkB_ito]; omega)).mono ?_; rintro e w3 ⟨rfl, ht⟩; have HT := Aside0.mk ht; obtain ⟨k0, k1, k2, k3, g0, g1, g2, g3, hlt2⟩ := dvar_cells HT.out.var; clear ht) | (go_at_call 49; refine (ts_repeat (by first | exact HT.out | exact HT.out.drew | exact HT.out.drewN _) _ HX0.out HX1.out).mono ?_; rintro e w4 ⟨rfl, ht⟩; have HT := Aside0.mk ht; obtain ⟨k0, k1, k2, k3, g0, g1, g2, g3, hlt2⟩ := dvar_cells HT.out.var; clear ht) | (go_at_call 50; refine (ts_itoa (by first | exact HT.out | exact HT.out.drew | exact HT.out.drewN _) _ HX0.out HX1.out).mono ?_; rintro e w4 ⟨rfl, ht⟩; have HT := Aside0.mk ht; obtain ⟨k0, k1, k2, k3, g0, g1, g2, g3, hlt2⟩ := dvar_cells HT.out.var; clear ht) | (go_at_call 51; refine (ts_string (by first | exact HT.out | exact HT.out.drew | exact HT.out.drewN _)).mono ?_; rintro e w5 ⟨rfl, hb5⟩; have HB5 := Aside0.mk hb5; clear hb5))
  go_region_with (first | (go_at_call 46; refine (h0 _).mono ?_; rintro e w1 ⟨rfl, hb⟩; have hv1 := dvar_below HD.out hb (by simp); obtain ⟨c0, c1, c2, c3, f0, f1, f2, f3, hlt⟩ := dvar_cells hv1; have ht0 := ts_start N hv1 (((Below.refl _ w).alloc (Nat.le_refl _) _).trans (hb.mono (by simp))) HL0.out; unfold chain at ht0; rw [HN.out, HNEG.out] at ht0; have HT := Aside0.mk ht0; obtain ⟨k0, k1, k2, k3, g0, g1, g2, g3, hlt2⟩ := dvar_cells HT.out.var; rw [HN.out] at k0; rw [HNEG.out] at k1; clear hb hv1 ht0) | (go_at_call 47; refine (ts_byte (by first | exact HT.out | exact HT.out.drew | exact HT.out.drewN _) HL0.out 45 _ rfl (by simp)).mono ?_; rintro e w2 ⟨rfl, ht⟩; have HT := Aside0.mk ht; obtain ⟨k0, k1, k2, k3, g0, g1, g2, g3, hlt2⟩ := dvar_cells HT.out.var; clear ht) | (go_at_call 48; refine (ts_write (by first | exact HT.out | exact HT.out.drew | exact HT.out.drewN _) HL0.out _ (by have hq := HLN.out; have hq2 := HSZ.out; have hq3 := HXS.out; have hq4 := HYS.out; have hq7 := HX.out; have hq8 : (⟨#[46]⟩ : ByteArray).size = 1 := rfl; have hq9 : (⟨#[48, 46]⟩ : ByteArray).size = 2 := rfl; have hq0 : (⟨#[101]⟩ : ByteArray).size = 1 := rfl; simp only [List.length_append, List.length_nil, List.length_cons, ByteArray.size_append, len_data, mkB_rep, mkB_ito]; omega)).mono ?_; rintro e w3 ⟨rfl, ht⟩; have HT := Aside0.mk ht; obtain ⟨k0, k1, k2, k3, g0, g1, g2, g3, hlt2⟩ := dvar_cells HT.out.var; clear ht) | (go_at_call 49; refine (ts_repeat (by first | exact HT.out | exact HT.out.drew | exact HT.out.drewN _) _ HX0.out HX1.out).mono ?_; rintro e w4 ⟨rfl, ht⟩; have HT := Aside0.mk ht; obtain ⟨k0, k1, k2, k3, g0, g1, g2, g3, hlt2⟩ := dvar_cells HT.out.var; clear ht) | (go_at_call 50; refine (ts_itoa (by first | exact HT.out | exact HT.out.drew | exact HT.out.drewN _) _ HX0.out HX1.out).mono ?_; rintro e w4 ⟨rfl, ht⟩; have HT := Aside0.mk ht; obtain ⟨k0, k1, k2, k3, g0, g1, g2, g3, hlt2⟩ := dvar_cells HT.out.var; clear ht) | (go_at_call 51; refine (ts_string (by first | exact HT.out | exact HT.out.drew | exact HT.out.drewN _)).mono ?_; rintro e w5 ⟨rfl, hb5⟩; have HB5 := Aside0.mk hb5; clear hb5))
  all_goals (go_wp2_with (first | (go_at_call 46; refine (h0 _).mono ?_; rintro e w1 ⟨rfl, hb⟩; have hv1 := dvar_below HD.out hb (by simp); obtain ⟨c0, c1, c2, c3, f0, f1, f2, f3, hlt⟩ := dvar_cells hv1; have ht0 := ts_start N hv1 (((Below.refl _ w).alloc (Nat.le_refl _) _).trans (hb.mono (by simp))) HL0.out; unfold chain at ht0; rw [HN.out, HNEG.out] at ht0; have HT := Aside0.mk ht0; obtain ⟨k0, k1, k2, k3, g0, g1, g2, g3, hlt2⟩ := dvar_cells HT.out.var; rw [HN.out] at k0; rw [HNEG.out] at k1; clear hb hv1 ht0) | (go_at_call 47; refine (ts_byte (by first | exact HT.out | exact HT.out.drew | exact HT.out.drewN _) HL0.out 45 _ rfl (by simp)).mono ?_; rintro e w2 ⟨rfl, ht⟩; have HT := Aside0.mk ht; obtain ⟨k0, k1, k2, k3, g0, g1, g2, g3, hlt2⟩ := dvar_cells HT.out.var; clear ht) | (go_at_call 48; refine (ts_write (by first | exact HT.out | exact HT.out.drew | exact HT.out.drewN _) HL0.out _ (by have hq := HLN.out; have hq2 := HSZ.out; have hq3 := HXS.out; have hq4 := HYS.out; have hq7 := HX.out; have hq8 : (⟨#[46]⟩ : ByteArray).size = 1 := rfl; have hq9 : (⟨#[48, 46]⟩ : ByteArray).size = 2 := rfl; have hq0 : (⟨#[101]⟩ : ByteArray).size = 1 := rfl; simp only [List.length_append, List.length_nil, List.length_cons, ByteArray.size_append, len_data, mkB_rep, mkB_ito]; omega)).mono ?_; rintro e w3 ⟨rfl, ht⟩; have HT := Aside0.mk ht; obtain ⟨k0, k1, k2, k3, g0, g1, g2, g3, hlt2⟩ := dvar_cells HT.out.var; clear ht) | (go_at_call 49; refine (ts_repeat (by first | exact HT.out | exact HT.out.drew | exact HT.out.drewN _) _ HX0.out HX1.out).mono ?_; rintro e w4 ⟨rfl, ht⟩; have HT := Aside0.mk ht; obtain ⟨k0, k1, k2, k3, g0, g1, g2, g3, hlt2⟩ := dvar_cells HT.out.var; clear ht) | (go_at_call 50; refine (ts_itoa (by first | exact HT.out | exact HT.out.drew | exact HT.out.drewN _) _ HX0.out HX1.out).mono ?_; rintro e w4 ⟨rfl, ht⟩; have HT := Aside0.mk ht; obtain ⟨k0, k1, k2, k3, g0, g1, g2, g3, hlt2⟩ := dvar_cells HT.out.var; clear ht) | (go_at_call 51; refine (ts_string (by first | exact HT.out | exact HT.out.drew | exact HT.out.drewN _)).mono ?_; rintro e w5 ⟨rfl, hb5⟩; have HB5 := Aside0.mk hb5; clear hb5)))
  all_goals go_ret2
  all_goals
    unfold Texted
    rw [HTX.out]
    refine ⟨?_, HB5.out⟩
    refine congrArg (fun x => Ending.returned (.tuple #[.string x, .nilIface])) ?_
    have e46 : (⟨#[46]⟩ : ByteArray) = mkB [46] := rfl
    have e101 : (⟨#[101]⟩ : ByteArray) = mkB [101] := rfl
    have e4846 : (⟨#[48, 46]⟩ : ByteArray) = mkB [48, 46] := rfl
    simp only [HTK.out, HDR.out, e46, e101, e4846, mkB_append, mkB_list, List.nil_append, List.append_assoc, List.cons_append, List.append_nil]
end Go.Proofs.YthhkmpicpihjlaaGreatDoor.PSc
