/- The law TextRise: for every input the call returns true, and each argument reads afterwards as it read before. What is listed of package-level variables is tied to the program's text. -/
import Derived.Test.YtpfnkbnepcchgaaGreatDoorCards
import Derived.Test.YtpfnkbnepcchgaaGreatDoorTie
import Derived.Test.YtpfnkbnepcchgaaGreatDoorRows
import Derived.Deep.Matrix
import Derived.ProofKit
import Derived.OpenShut
import Derived.Lib.SmallJoins
import Derived.ShutString
import Derived.Deep.DeepHandedRow
import Derived.LaidSub
import Derived.Stop.LaidErr
import Derived.Test.YtpfnkbnepcchgaaGreatDoorKTBBF
set_option linter.unusedSimpArgs false
set_option linter.unusedVariables false
section
namespace Go.Proofs.YtpfnkbnepcchgaaGreatDoor.textRise
open Go.Proofs.Yy
open Go.ChangeShapes Go.WideShapes Go.ChangeAt Go.RowKit
open Go.ChangeMaps (open_string shut_string)
theorem own:ownKnob Tryz.prog.godebug=none:=by kernel_rfl
noncomputable def low:Nat:=(World.holding Tryz.prog default ⟨#[],#[], []⟩).heap.size
noncomputable def laidWorld (os:Os):World := { World.holding Tryz.prog os ⟨#[.cells #[.string ⟨#[118,97,108,117,101,32,111,117,116,32,111,102,32,114,97,110,103,101]⟩] 301, .cells #[.string ⟨#[105,110,118,97,108,105,100,32,115,121,110,116,97,120]⟩] 301],#[], []⟩ with heap:=((((((((World.holding Tryz.prog os ⟨#[.cells #[.string ⟨#[118,97,108,117,101,32,111,117,116,32,111,102,32,114,97,110,103,101]⟩] 301, .cells #[.string ⟨#[105,110,118,97,108,105,100,32,115,121,110,116,97,120]⟩] 301],#[], []⟩).heap).modify 10 fun | .cells _ t frozen => .cells #[.int .u8 0, .int .u8 1, .int .u8 28, .int .u8 2, .int .u8 29, .int .u8 14, .int .u8 24, .int .u8 3, .int .u8 30, .int .u8 22, .int .u8 20, .int .u8 15, .int .u8 25, .int .u8 17, .int .u8 4, .int .u8 8, .int .u8 31, .int .u8 27, .int .u8 13, .int .u8 23, .int .u8 21, .int .u8 19, .int .u8 16, .int .u8 7, .int .u8 26, .int .u8 12, .int .u8 18, .int .u8 6, .int .u8 11, .int .u8 5, .int .u8 10, .int .u8 9] t frozen|o=>o).modify 0 fun | .cells _ t frozen => .cells #[.int .u8 0, .int .u8 1, .int .u8 56, .int .u8 2, .int .u8 57, .int .u8 49, .int .u8 28, .int .u8 3, .int .u8 61, .int .u8 58, .int .u8 42, .int .u8 50, .int .u8 38, .int .u8 29, .int .u8 17, .int .u8 4, .int .u8 62, .int .u8 47, .int .u8 59, .int .u8 36, .int .u8 45, .int .u8 43, .int .u8 51, .int .u8 22, .int .u8 53, .int .u8 39, .int .u8 33, .int .u8 30, .int .u8 24, .int .u8 18, .int .u8 12, .int .u8 5, .int .u8 63, .int .u8 55, .int .u8 48, .int .u8 27, .int .u8 60, .int .u8 41, .int .u8 37, .int .u8 16, .int .u8 46, .int .u8 35, .int .u8 44, .int .u8 21, .int .u8 52, .int .u8 32, .int .u8 23, .int .u8 11, .int .u8 54, .int .u8 26, .int .u8 40, .int .u8 15, .int .u8 34, .int .u8 20, .int .u8 31, .int .u8 10, .int .u8 25, .int .u8 14, .int .u8 19, .int .u8 9, .int .u8 13, .int .u8 8, .int .u8 7, .int .u8 6] t frozen|o=>o).modify 4 fun | .cells _ t frozen => .cells #[.int .u64 1, .int .u64 10, .int .u64 100, .int .u64 1000, .int .u64 10000, .int .u64 100000, .int .u64 1000000, .int .u64 10000000, .int .u64 100000000, .int .u64 1000000000, .int .u64 10000000000, .int .u64 100000000000, .int .u64 1000000000000, .int .u64 10000000000000, .int .u64 100000000000000, .int .u64 1000000000000000, .int .u64 10000000000000000, .int .u64 100000000000000000, .int .u64 1000000000000000000, .int .u64 10000000000000000000] t frozen|o=>o).modify 9 fun | .cells _ t frozen => .cells #[.int .u8 128, .int .u8 191, .int .u8 160, .int .u8 191, .int .u8 128, .int .u8 159, .int .u8 144, .int .u8 191, .int .u8 128, .int .u8 143, .int .u8 0, .int .u8 0, .int .u8 0, .int .u8 0, .int .u8 0, .int .u8 0, .int .u8 0, .int .u8 0, .int .u8 0, .int .u8 0, .int .u8 0, .int .u8 0, .int .u8 0, .int .u8 0, .int .u8 0, .int .u8 0, .int .u8 0, .int .u8 0, .int .u8 0, .int .u8 0, .int .u8 0, .int .u8 0] t frozen|o=>o).modify 7 fun | .cells _ t frozen => .cells #[.iface 299 (.pointer (some ⟨low+0,0,none⟩))] t frozen|o=>o).modify 6 fun | .cells _ t frozen => .cells #[.iface 299 (.pointer (some ⟨low+1,0,none⟩))] t frozen|o=>o).modify 8 fun | .cells _ t frozen => .cells (Go.Pinned.utf8FirstZ.map fun n:Nat=>Value.int .u8 (n:Int)).toArray t frozen|o=>o }
set_option maxRecDepth 100000 in
theorem laid_met (os:Os):laidMet Tryz.prog Rows.textRiseRow.laid ((laidWorld os).forCall (fun _ _=>0) ⟨#[],#[.int .i64 0, .agg #[.bool false, .bool false, .string ByteArray.empty, .int .i64 0], .agg #[.bool false, .bool false, .string ByteArray.empty, .int .i64 0]], []⟩).memory :=
 laidMet_of_run' 8 (by kernel_rfl) (by kernel_rfl)
set_option maxRecDepth 100000 in
theorem reads (os:Os) {H:Type} (enc:TypeId × Value→H):∃ places,DataW.whole enc Tryz.prog ((laidWorld os).forCall (fun _ _=>0) ⟨#[],#[.int .i64 0, .agg #[.bool false, .bool false, .string ByteArray.empty, .int .i64 0], .agg #[.bool false, .bool false, .string ByteArray.empty, .int .i64 0]], []⟩).memory Tryz.f9.params.toList Rows.textRiseSpec.vars false (#[.int .i64 0, .agg #[.bool false, .bool false, .string ByteArray.empty, .int .i64 0], .agg #[.bool false, .bool false, .string ByteArray.empty, .int .i64 0]]:Array Value).toList 8=some ([.lit (.int .i64 0), .agg [.lit (.bool false), .lit (.bool false), .lit (.string []), .lit (.int .i64 0)], .agg [.lit (.bool false), .lit (.bool false), .lit (.string []), .lit (.int .i64 0)]], [],places) :=
 ⟨[],by kernel_rfl⟩
theorem tabE:(Rows.laid_internal_strconv_uint64pow10:DataW Unit)=Lib.tabData .u64 Lib.pow10Tab:=by kernel_rfl
theorem tab (W:World) (hL:laidMetH Tryz.prog Rows.textRiseRow.laid W):Fx.Tab W:=by
 have h : laidMet Tryz.prog [("math/bits.deBruijn32tab", Rows.laid_math_bits_deBruijn32tab), ("math/bits.deBruijn64tab", Rows.laid_math_bits_deBruijn64tab), ("internal/strconv.uint64pow10", Rows.laid_internal_strconv_uint64pow10), ("unicode/utf8.acceptRanges", Rows.laid_unicode_utf8_acceptRanges), ("strconv.ErrRange", Rows.laid_strconv_ErrRange), ("strconv.ErrSyntax", Rows.laid_strconv_ErrSyntax), ("unicode/utf8.first", Rows.laid_unicode_utf8_first)] W := (laidMetH_iff.1 hL).1
 have h2:=h.tail.tail
 rw [tabE] at h2
 exact Lib.tabIs_of_head (g:=4) (t:=285) (e:=25) (n:=20) (by kernel_rfl) (by kernel_rfl) Tryz.underlying285 Tryz.underlying25 (by kernel_rfl) (by kernel_rfl) h2
theorem tzE:(Rows.laid_math_bits_deBruijn64tab:DataW Unit)=Lib.tabData .u8 Fx.tzTab:=by kernel_rfl
theorem tz (W:World) (hL:laidMetH Tryz.prog Rows.textRiseRow.laid W):Fx.Tz W:=by
 have h : laidMet Tryz.prog [("math/bits.deBruijn32tab", Rows.laid_math_bits_deBruijn32tab), ("math/bits.deBruijn64tab", Rows.laid_math_bits_deBruijn64tab), ("internal/strconv.uint64pow10", Rows.laid_internal_strconv_uint64pow10), ("unicode/utf8.acceptRanges", Rows.laid_unicode_utf8_acceptRanges), ("strconv.ErrRange", Rows.laid_strconv_ErrRange), ("strconv.ErrSyntax", Rows.laid_strconv_ErrSyntax), ("unicode/utf8.first", Rows.laid_unicode_utf8_first)] W := (laidMetH_iff.1 hL).1
 have h2:=h.tail
 rw [tzE] at h2
 exact Lib.tabIs_of_head (g:=0) (t:=156) (e:=5) (n:=64) (by kernel_rfl) (by kernel_rfl) Tryz.underlying156 Tryz.underlying5 (by kernel_rfl) (by kernel_rfl) h2
set_option maxRecDepth 100000 in
theorem contract (H:Type) (enc:TypeId × Value→H) (W:World) (base:Nat) (args:Array Value) (ds gs:List (DataW H)) (before:List MemPlace)
  (hval0:∀ (j:Nat) t v,Tryz.f9.params[j]? = some t→args[j]? = some v→Value.okWide Tryz.prog W .any base t v)
  (hW:DataW.Whole enc Tryz.prog Tryz.f9.params.toList Rows.textRiseSpec.vars false W args.toList ds gs before) (htab:Fx.Laid W) :
  Calls Tryz.prog 9 args W fun e W' => ∃ v,e = .returned v∧Rows.textRiseSpec.post enc Tryz.prog Tryz.f9 false true false false W args v W':=by
 have hval:∀ (j:Nat) t v,Tryz.f9.params[j]? = some t→args[j]? = some v→Value.okWide Tryz.prog W .any base t v:=hval0
 have hW':=hW
 obtain ⟨p,q,hA0,hV,rfl,hfz,hnd⟩:=hW
 have hA:DataW.TrodAll enc Tryz.prog W 0 (fun _=>true) true Tryz.f9.params.toList args.toList ds p:=hA0
 rw [Tryz.params9] at hA hval
 obtain ⟨v0,vs0,d0,ds0,p0,q0,hargs,rfl,rfl,h0,r0⟩:=trodAll_cons hA
 obtain ⟨v1,vs1,d1,ds1,p1,q1,rfl,rfl,rfl,h1,r1⟩:=trodAll_cons r0
 obtain ⟨v2,vs2,d2,ds2,p2,q2,rfl,rfl,rfl,h2,r2⟩:=trodAll_cons r1
 obtain ⟨rfl,rfl,rfl⟩:=trodAll_nil r2
 obtain rfl:args=#[v0,v1,v2]:=by cases args;simp_all
 obtain ⟨rfl,rfl⟩:=trodVars_none hV
 obtain ⟨a0,rfl,rfl,rfl,w0⟩:=open_int Tryz.underlying3 (hval 0 3 v0 rfl rfl) h0
 obtain ⟨u1_0,u1_1,u1_2,u1_3,y1_0,y1_1,y1_2,y1_3,n1,rfl,rfl,rfl,t1_0,t1_1,t1_2,t1_3⟩:=Go.Joins.open_agg4 Tryz.underlying23 (by kernel_rfl) (by kernel_rfl) (hval 1 23 v1 rfl rfl) h1
 obtain ⟨a1_0,e1_0,hx1_0⟩:=DataW.trod_bool Tryz.underlying4 t1_0
 obtain rfl:u1_0=_:=(List.cons.inj e1_0).1
 subst hx1_0
 obtain ⟨a1_1,e1_1,hx1_1⟩:=DataW.trod_bool Tryz.underlying4 t1_1
 obtain rfl:u1_1=_:=(List.cons.inj e1_1).1
 subst hx1_1
 obtain ⟨a1_2,e1_2,hx1_2,w1_2⟩:=DataW.trod_string Tryz.underlying9 t1_2
 obtain rfl:u1_2=_:=(List.cons.inj e1_2).1
 subst hx1_2
 obtain ⟨a1_3,e1_3,hx1_3,w1_3⟩:=DataW.trod_int Tryz.underlying3 t1_3
 obtain rfl:u1_3=_:=(List.cons.inj e1_3).1
 subst hx1_3
 have back1:∀ W' sp_,DataW.Trod enc Tryz.prog W' 0 sp_ true 23 (.agg #[.bool a1_0, .bool a1_1, .string a1_2, .int .i64 a1_3]) (.agg [.lit (.bool a1_0), .lit (.bool a1_1), .lit (.string a1_2.data.toList), .lit (.int .i64 a1_3)]) []:=fun W' sp_=>Go.Joins.shut_agg4 Tryz.underlying23 (by kernel_rfl) (by kernel_rfl) (Go.Joins.field_of_Trod (shut_bool Tryz.underlying4 _) rfl) (Go.Joins.field_of_Trod (shut_bool Tryz.underlying4 _) rfl) (Go.Joins.field_of_Trod (shut_string Tryz.underlying9 w1_2) rfl) (Go.Joins.field_of_Trod (shut_int Tryz.underlying3 w1_3) rfl)
 obtain ⟨u2_0,u2_1,u2_2,u2_3,y2_0,y2_1,y2_2,y2_3,n2,rfl,rfl,rfl,t2_0,t2_1,t2_2,t2_3⟩:=Go.Joins.open_agg4 Tryz.underlying23 (by kernel_rfl) (by kernel_rfl) (hval 2 23 v2 rfl rfl) h2
 obtain ⟨a2_0,e2_0,hx2_0⟩:=DataW.trod_bool Tryz.underlying4 t2_0
 obtain rfl:u2_0=_:=(List.cons.inj e2_0).1
 subst hx2_0
 obtain ⟨a2_1,e2_1,hx2_1⟩:=DataW.trod_bool Tryz.underlying4 t2_1
 obtain rfl:u2_1=_:=(List.cons.inj e2_1).1
 subst hx2_1
 obtain ⟨a2_2,e2_2,hx2_2,w2_2⟩:=DataW.trod_string Tryz.underlying9 t2_2
 obtain rfl:u2_2=_:=(List.cons.inj e2_2).1
 subst hx2_2
 obtain ⟨a2_3,e2_3,hx2_3,w2_3⟩:=DataW.trod_int Tryz.underlying3 t2_3
 obtain rfl:u2_3=_:=(List.cons.inj e2_3).1
 subst hx2_3
 have back2:∀ W' sp_,DataW.Trod enc Tryz.prog W' 0 sp_ true 23 (.agg #[.bool a2_0, .bool a2_1, .string a2_2, .int .i64 a2_3]) (.agg [.lit (.bool a2_0), .lit (.bool a2_1), .lit (.string a2_2.data.toList), .lit (.int .i64 a2_3)]) []:=fun W' sp_=>Go.Joins.shut_agg4 Tryz.underlying23 (by kernel_rfl) (by kernel_rfl) (Go.Joins.field_of_Trod (shut_bool Tryz.underlying4 _) rfl) (Go.Joins.field_of_Trod (shut_bool Tryz.underlying4 _) rfl) (Go.Joins.field_of_Trod (shut_string Tryz.underlying9 w2_2) rfl) (Go.Joins.field_of_Trod (shut_int Tryz.underlying3 w2_3) rfl)
 clear hA0 hval0 hval
 refine (PTx.TextRise_all a0 a1_0 a1_1 a1_2 a1_3 a2_0 a2_1 a2_2 a2_3 W htab w1_2 w2_2).mono ?_
 rintro e W' ⟨rfl,bel0⟩
 have bel:Below W.heap.size W W':=bel0
 exact ⟨_,rfl,_,_,_, [],_, [],hW',trodAll_mk1 (shut_bool Tryz.underlying4 _),(trodAll_cons_mk (shut_int Tryz.underlying3 w0) (trodAll_cons_mk (back1 _ _) (trodAll_cons_mk (back2 _ _) trodAll_mk0))),rfl,bel.frame _,fun h=>by cases h⟩
set_option maxRecDepth 100000 in
theorem liftedRow (os:Os) (started:os.Started) (H:Type) (enc:TypeId × Value→H) (F:Stop.Interp) :
  ReturnsInHanded {} Tryz.checked os 9 .any ((OpenSpec.ofChange Rows.textRiseSpec).preRow enc Tryz.prog Tryz.f9 Rows.textRiseRow.domain false Rows.textRiseRow.laid) (((OpenSpec.ofChange Rows.textRiseSpec).at F).post enc Tryz.prog Tryz.f9 false true false false):=by
 obtain ⟨places,hx⟩:=reads os enc
 refine returnsInHanded_of_row (C:=Tryz.checked) (s:=OpenSpec.ofChange Rows.textRiseSpec) own started (by kernel_rfl) Tryz.func9
  (witness_row_at (enc:=enc) (C:=Tryz.checked) false (laidWorld os) #[.int .i64 0, .agg #[.bool false, .bool false, .string ByteArray.empty, .int .i64 0], .agg #[.bool false, .bool false, .string ByteArray.empty, .int .i64 0]] rfl (by kernel_rfl) (by kernel_rfl) (by kernel_rfl)
   (OpenSpec.preRow_of_cond 8 hx (by kernel_rfl) (fun k hk=>by cases hk) (by kernel_rfl) (laid_met os))) ?_
 intro W base args ds gs before hval hW _ hcond _ hL _ _
 exact contract H enc W base args ds gs before hval hW ⟨tab W hL,tz W hL⟩
theorem saidRow:Rows.TextRiseSaid :=
 OpenClaim.holds_of_cond 9 Tryz.f9 rfl rfl rfl rfl rfl rfl rfl ⟨rfl,rfl,rfl,rfl,rfl⟩ rfl rfl rfl rfl rfl (by kernel_rfl) Tryz.func9 (by kernel_rfl)
  (of_decide_eq_true (by kernel_rfl)) (by unfold Func.isWrapper;first|(rw [if_pos (by decide +kernel)];kernel_rfl)|(rw [if_neg (by decide +kernel)];exact ⟨rfl,rfl⟩))
  (fun os started H enc _ F=>by rw [OpenClaim.pre_eq_preRow];exact liftedRow os started H enc F)
theorem plain (f : FuncId) (fn : Func) (hf : Tryz.pinned.checked.prog.funcNamed "vernier/vernierlaw19.TextRise" = some f) (hfn : Tryz.pinned.checked.prog.funcs[f]? = some fn) :
  true=Tryz.pinned.checked.prog.looks [] ∧ ∀ (j:Nat) t,fn.params[j]? = some t→Tryz.pinned.checked.prog.wantsStandIn t=false:=by
 obtain rfl : f = 9 := Option.some.inj ((show Tryz.prog.funcNamed "vernier/vernierlaw19.TextRise" = some 9 by kernel_rfl).symm.trans hf) |>.symm
 obtain rfl:fn=Tryz.f9:=(Option.some.inj (Tryz.func9.symm.trans hfn)).symm
 refine ⟨by kernel_rfl,fun j t ht=>?_⟩
 rw [Tryz.params9] at ht
 have ht2:t=3∨t=23:=by have h9:=Array.mem_of_getElem? ht;simp at h9;first|exact h9|(rcases h9 with h9|h9|h9 <;> subst h9 <;> simp)
 rcases ht2 with rfl|rfl
 ·exact (show Tryz.prog.wantsStandIn 3=false by kernel_rfl)
 ·exact (show Tryz.prog.wantsStandIn 23=false by kernel_rfl)
theorem cardRow:Rows.TextRiseCardSaid :=
 Claim7.holds_tied_plain_at .later [] _ _ _ _ saidRow (fun _ h=>by cases h) (by kernel_rfl) (fun _ h=>by cases h) textRise_row_tie rfl ⟨rfl,rfl⟩ (by kernel_rfl) rfl plain (by kernel_rfl)
#print axioms cardRow
end Go.Proofs.YtpfnkbnepcchgaaGreatDoor.textRise
namespace Go.Proofs.YtpfnkbnepcchgaaGreatDoor
theorem textRise_holds:Rows.TextRiseCardSaid:=textRise.cardRow
end Go.Proofs.YtpfnkbnepcchgaaGreatDoor
end
