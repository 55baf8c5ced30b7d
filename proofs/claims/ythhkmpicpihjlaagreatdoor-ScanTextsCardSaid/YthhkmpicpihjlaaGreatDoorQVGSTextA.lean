/- scan.Text: what it answers at every decimal, as a contract in the printed form. -/
import Derived.Test.YthhkmpicpihjlaaGreatDoorQVSE1
import Derived.Test.YthhkmpicpihjlaaGreatDoorQVGBld
import Derived.Test.YthhkmpicpihjlaaGreatDoorQVGItoaC
import Derived.StillTailTactics
import Derived.Deep.RegionWith
import Derived.Test.YthhkmpicpihjlaaGreatDoorQVPScx3
set_option linter.unusedVariables false
set_option linter.unusedSimpArgs false
namespace Go.Proofs.YthhkmpicpihjlaaGreatDoor.PSc
open Go.RowKit Go.Proofs.YthhkmpicpihjlaaGreatDoorW.PrintWords Go.Proofs.YthhkmpicpihjlaaGreatDoorW.PrintLast Go.Proofs.YthhkmpicpihjlaaGreatDoorW.PrintMore Go.Proofs.YthhkmpicpihjlaaGreatDoor.SC
def DVar (g : Nat) (d : D) (w : World) : Prop := w.heap[g]? = some (.cells #[.bool d.nar, .bool d.neg, .string (mkB d.ds), .int .i64 d.e] 36 (0, 0))
theorem dvar_cells {g : Nat} {d : D} {w : World} (h : DVar g d w) : w.cell? ⟨g, 0, none⟩ = some (.bool d.nar) ∧ w.cell? ⟨g, 1, none⟩ = some (.bool d.neg) ∧ w.cell? ⟨g, 2, none⟩ = some (.string (mkB d.ds)) ∧ w.cell? ⟨g, 3, none⟩ = some (.int .i64 d.e) ∧
    w.frozen? ⟨g, 0, none⟩ = false ∧ w.frozen? ⟨g, 1, none⟩ = false ∧ w.frozen? ⟨g, 2, none⟩ = false ∧ w.frozen? ⟨g, 3, none⟩ = false ∧ g < w.heap.size := by
  unfold DVar at h
  exact ⟨(blk_cell h 0).trans rfl, (blk_cell h 1).trans rfl, (blk_cell h 2).trans rfl, (blk_cell h 3).trans rfl, blk_frozen h 0, blk_frozen h 1, blk_frozen h 2, blk_frozen h 3, (Array.getElem?_eq_some_iff.1 h).1⟩
theorem dvar_below {g B : Nat} {d : D} {w w' : World} (h : DVar g d w) (hb : Below B w w') (hg : g < B) : DVar g d w' := by
  unfold DVar at *
  rw [hb.block g hg]; exact h
structure TS (w0 : World) (g B : Nat) (d : D) (l : List UInt8) (w : World) : Prop where
  bld : Bd.IsB B B l w
  var : DVar g d w
  lt : g < B
  base : w0.heap.size ≤ g
  low : Below w0.heap.size w0 w
  sz : B ≤ w.heap.size
  laid : Fx.Laid w
theorem TS.other {w0 : World} {g B : Nat} {d : D} {l : List UInt8} {w w' : World} (h : TS w0 g B d l w) (hb : Below w.heap.size w w') : TS w0 g B d l w' :=
  ⟨h.bld.below hb, dvar_below h.var hb (by have := h.lt; have := h.sz; omega), h.lt, h.base, h.low.trans (hb.mono (by have := h.lt; have := h.sz; have := h.base; omega)), Nat.le_trans h.sz hb.size, h.laid.below hb⟩
theorem TS.drewN {w0 : World} {g B : Nat} {d : D} {l : List UInt8} {w : World} (h : TS w0 g B d l w) (n : Nat) : TS w0 g B d l (w.drewN n) := h.other (pw_below_drewN (Below.refl _ w) n)
theorem TS.drew {w0 : World} {g B : Nat} {d : D} {l : List UInt8} {w : World} (h : TS w0 g B d l w) : TS w0 g B d l w.drew := h.drewN 1
theorem ts_write {w0 : World} {g B : Nat} {d : D} {l : List UInt8} {w : World} (h : TS w0 g B d l w) (hl0 : Fx.Laid w0) (s : ByteArray) (hlen : l.length + s.size ≤ 140737488355328) :
    Calls Tryz.prog 48 #[.pointer (some ⟨B, 0, none⟩), .string s] w fun e w' => e = .returned (.tuple #[.int .i64 s.size, .nilIface]) ∧ TS w0 g B d (l ++ s.data.toList) w' := by
  refine (Bd.write B B l s w h.bld hlen h.sz).mono ?_
  rintro e w' ⟨he, h1, h2⟩
  have hlow := h.low.trans (h2.mono (by have := h.lt; have := h.base; omega))
  exact ⟨he, h1, dvar_below h.var h2 h.lt, h.lt, h.base, hlow, Nat.le_trans h.sz h2.size, hl0.below hlow⟩
theorem ts_byte {w0 : World} {g B : Nat} {d : D} {l : List UInt8} {w : World} (h : TS w0 g B d l w) (hl0 : Fx.Laid w0) (c : UInt8) (x : Int) (hx : x = (c.toNat : Int)) (hlen : l.length + 1 ≤ 140737488355328) :
    Calls Tryz.prog 47 #[.pointer (some ⟨B, 0, none⟩), .int .u8 x] w fun e w' => e = .returned .nilIface ∧ TS w0 g B d (l ++ [c]) w' := by
  subst hx
  refine (Bd.writeByte B B l c w h.bld hlen h.sz).mono ?_
  rintro e w' ⟨he, h1, h2⟩
  have hlow := h.low.trans (h2.mono (by have := h.lt; have := h.base; omega))
  exact ⟨he, h1, dvar_below h.var h2 h.lt, h.lt, h.base, hlow, Nat.le_trans h.sz h2.size, hl0.below hlow⟩
theorem ts_string {w0 : World} {g B : Nat} {d : D} {l : List UInt8} {w : World} (h : TS w0 g B d l w) :
    Calls Tryz.prog 51 #[.pointer (some ⟨B, 0, none⟩)] w fun e w' => e = .returned (.string (mkB l)) ∧ Below w0.heap.size w0 w' := by
  refine (Tryz.Builder_String_any_f B B l w h.bld h.sz).mono ?_
  rintro e w' ⟨he, _, h2⟩
  exact ⟨he, h.low.trans (h2.mono (by have := h.lt; have := h.base; omega))⟩
theorem repeat_48 (n : Nat) : Lib.repeatL [48] n = List.replicate n 48 := by
  induction n with
  | zero => rfl
  | succ n ih => rw [Lib.repeatL, ih, List.replicate_succ]; rfl
theorem ts_repeat {w0 : World} {g B : Nat} {d : D} {l : List UInt8} {w : World} (h : TS w0 g B d l w) (n : Int) (h0 : 0 ≤ n) (h1 : n ≤ 1000) :
    Calls Tryz.prog 49 #[.string (⟨#[48]⟩ : ByteArray), .int .i64 n] w fun e w' => e = .returned (.string (mkB (List.replicate n.toNat 48))) ∧ TS w0 g B d l w' := by
  obtain ⟨k, rfl⟩ := Int.eq_ofNat_of_zero_le h0
  refine (Tryz.strings_Repeat ⟨#[48]⟩ k w (by omega) (by have e : (⟨#[48]⟩ : ByteArray).size = 1 := rfl; rw [e]; omega)).mono ?_
  rintro e w' ⟨he, hb⟩
  refine ⟨?_, h.other hb⟩
  rw [he]
  show Ending.returned (.string ⟨(Lib.repeatL [48] k).toArray⟩) = _
  rw [repeat_48]
  rfl
theorem ts_itoa {w0 : World} {g B : Nat} {d : D} {l : List UInt8} {w : World} (h : TS w0 g B d l w) (n : Int) (h0 : -9223372036854775808 ≤ n) (h1 : n ≤ 9223372036854775807) :
    Calls Tryz.prog 50 #[.int .i64 n] w fun e w' => e = .returned (.string (mkB (Lib.itoa n))) ∧ TS w0 g B d l w' := by
  refine (strconv_Itoa_50.calls n (mkB (Lib.itoa n)) w (by unfold strconv_Itoa_50.f; rw [if_pos ⟨h0, h1⟩]; rfl) h.laid).mono ?_
  rintro e w' ⟨he, hb⟩
  exact ⟨he, h.other hb⟩
theorem norm_bad (d : D) (h : formed d = false) (w : World) :
    Calls Tryz.prog 46 #[.agg #[.bool d.nar, .bool d.neg, .string (mkB d.ds), .int .i64 d.e]] w fun e w' => e = .returned (.tuple #[.agg #[.bool false, .bool false, .string (⟨#[]⟩ : ByteArray), .int .i64 0], .iface 29 (.int .i64 23)]) ∧ Below w.heap.size w w' := by
  have hN := scan_Norm_ev d
  rw [if_neg (by rw [h]; decide)] at hN
  exact scan_Norm.calls _ _ _ _ _ _ _ _ _ _ hN
theorem norm_good (d : D) (h : formed d = true) (w : World) :
    Calls Tryz.prog 46 #[.agg #[.bool d.nar, .bool d.neg, .string (mkB d.ds), .int .i64 d.e]] w fun e w' => e = .returned (.tuple #[.agg #[.bool (nrm d).nar, .bool (nrm d).neg, .string (mkB (nrm d).ds), .int .i64 (nrm d).e], .nilIface]) ∧ Below w.heap.size w w' := by
  have hN := scan_Norm_ev d
  rw [if_pos h] at hN
  exact scan_Norm.calls _ _ _ _ _ _ _ _ _ _ hN
set_option maxHeartbeats 1000000 in
set_option maxRecDepth 100000 in
theorem text_form (d : D) (w : World) (h : formed d = false) :
    Calls Tryz.prog 15 #[.agg #[.bool d.nar, .bool d.neg, .string (mkB d.ds), .int .i64 d.e]] w fun e w' => e = .returned (.tuple #[.string (⟨#[]⟩ : ByteArray), .iface 29 (.int .i64 23)]) ∧ Below w.heap.size w w' := by
  have hD : DVar w.heap.size d (w.alloc (.cells #[.bool d.nar, .bool d.neg, .string (mkB d.ds), .int .i64 d.e] 36)) := heap_alloc_new w _
  have HD := Aside0.mk hD
  have HF := Aside0.mk h
  clear hD h
  go_enter Tryz.func15, Tryz.ntmps15
  go_wp2_with (go_at_call 46; refine (norm_bad d HF.out _).mono ?_; rintro e w1 ⟨rfl, hb⟩; obtain ⟨c0, c1, c2, c3, f0, f1, f2, f3, hlt⟩ := dvar_cells (dvar_below HD.out hb (by simp)); have HB := Aside0.mk hb; clear hb)
  go_ret2
  exact ⟨rfl, ((((((Below.refl _ w).alloc (Nat.le_refl _) _).trans (HB.out.mono (by simp))).setCell (p := ⟨w.heap.size, 0, none⟩) (Nat.le_refl _) _).setCell (p := ⟨w.heap.size, 1, none⟩) (Nat.le_refl _) _).setCell (p := ⟨w.heap.size, 2, none⟩) (Nat.le_refl _) _).setCell (p := ⟨w.heap.size, 3, none⟩) (Nat.le_refl _) _⟩
def chain (w : World) (g : Nat) (d : D) : World := (((w.setCell ⟨g, 0, none⟩ (.bool d.nar)).setCell ⟨g, 1, none⟩ (.bool d.neg)).setCell ⟨g, 2, none⟩ (.string (mkB d.ds))).setCell ⟨g, 3, none⟩ (.int .i64 d.e)
theorem chain_var {w : World} {g : Nat} {d0 : D} (h : DVar g d0 w) (d : D) : DVar g d (chain w g d) :=
  blk_put (blk_put (blk_put (blk_put h 0 (.bool d.nar) rfl) 1 (.bool d.neg) rfl) 2 (.string (mkB d.ds)) rfl) 3 (.int .i64 d.e) rfl
theorem chain_size (w : World) (g : Nat) (d : D) : (chain w g d).heap.size = w.heap.size := by unfold chain; simp
theorem chain_low {w0 w : World} {g : Nat} (d : D) (h : Below w0.heap.size w0 w) (hg : w0.heap.size ≤ g) : Below w0.heap.size w0 (chain w g d) :=
  (((h.setCell (p := ⟨g, 0, none⟩) hg _).setCell (p := ⟨g, 1, none⟩) hg _).setCell (p := ⟨g, 2, none⟩) hg _).setCell (p := ⟨g, 3, none⟩) hg _
theorem ts_start {w0 w1 : World} {d0 : D} (N : D) (h : DVar w0.heap.size d0 w1) (hb : Below w0.heap.size w0 w1) (hl : Fx.Laid w0) :
    TS w0 w0.heap.size w1.heap.size N [] ((chain w1 w0.heap.size N).alloc (.cells #[.pointer none, .slice none 0 0] 82)) := by
  have hlt : w0.heap.size < w1.heap.size := (Array.getElem?_eq_some_iff.1 h).1
  have hm := Bd.made (chain w1 w0.heap.size N)
  rw [chain_size] at hm
  have hlow := (chain_low N hb (Nat.le_refl _)).alloc (by rw [chain_size]; omega) (.cells #[.pointer none, .slice none 0 0] 82)
  refine ⟨hm, ?_, hlt, Nat.le_refl _, hlow, ?_, hl.below hlow⟩
  · exact blk_alloc (chain_var h N) _
  · have : w1.heap.size ≤ (chain w1 w0.heap.size N).heap.size := by rw [chain_size]; exact Nat.le_refl _
    simp only [World.size_alloc]; omega
def Texted (N : D) (w : World) (e : Ending) (w' : World) : Prop := e = .returned (.tuple #[.string (mkB (textN N)), .nilIface]) ∧ Below w.heap.size w w'
theorem len_data (s : ByteArray) : s.data.toList.length = s.size := Array.length_toList
theorem mkB_rep (n : Nat) (c : UInt8) : (mkB (List.replicate n c)).size = n := by rw [mkB_size, List.length_replicate]
theorem mkB_ito (n : Int) : (mkB (Lib.itoa n)).size = (Lib.itoa n).length := mkB_size _
theorem nd_le (u : Nat) : Lib.nDigits u ≤ u + 1 := by
  induction u using Nat.strongRecOn with
  | ind u ih =>
    rw [Lib.nDigits]
    by_cases h : u < 10
    · rw [dif_pos h]; omega
    · rw [dif_neg h]
      have := ih (u / 10) (by omega)
      omega
theorem itoa_short (n : Int) (h : n.natAbs ≤ 10000000) : (Lib.itoa n).length ≤ 140000000000 := by
  unfold Lib.itoa
  split
  · have := nd_le n.natAbs
    rw [List.length_cons, Lib.decDigits_length]; omega
  · have := nd_le n.toNat
    rw [Lib.decDigits_length]; omega
theorem ext_le (s : ByteArray) (a b : Nat) : (s.extract a b).size ≤ s.size := by rw [ByteArray.size_extract]; omega
set_option maxHeartbeats 1000000 in
set_option maxRecDepth 100000 in
theorem text_nar (d : D) (w : World) (h : formed d = true) (hn : (nrm d).nar = true) :
    Calls Tryz.prog 15 #[.agg #[.bool d.nar, .bool d.neg, .string (mkB d.ds), .int .i64 d.e]] w fun e w' => Texted (nrm d) w e w' := by
  have hD : DVar w.heap.size d (w.alloc (.cells #[.bool d.nar, .bool d.neg, .string (mkB d.ds), .int .i64 d.e] 36)) := heap_alloc_new w _
  have HD := Aside0.mk hD
  have HN := Aside0.mk hn
  have hg := norm_good d h
  rw [hn] at hg
  clear hD h hn
  go_enter Tryz.func15, Tryz.ntmps15
  go_wp2_with (go_at_call 46; refine (hg _).mono ?_; rintro e w1 ⟨rfl, hb⟩; obtain ⟨c0, c1, c2, c3, f0, f1, f2, f3, hlt⟩ := dvar_cells (dvar_below HD.out hb (by simp)); have HB := Aside0.mk hb; clear hb)
  go_ret2
  refine ⟨?_, ((((((Below.refl _ w).alloc (Nat.le_refl _) _).trans (HB.out.mono (by simp))).setCell (p := ⟨w.heap.size, 0, none⟩) (Nat.le_refl _) _).setCell (p := ⟨w.heap.size, 1, none⟩) (Nat.le_refl _) _).setCell (p := ⟨w.heap.size, 2, none⟩) (Nat.le_refl _) _).setCell (p := ⟨w.heap.size, 3, none⟩) (Nat.le_refl _) _⟩
  unfold textN
  rw [if_pos HN.out]
  rfl
end Go.Proofs.YthhkmpicpihjlaaGreatDoor.PSc
