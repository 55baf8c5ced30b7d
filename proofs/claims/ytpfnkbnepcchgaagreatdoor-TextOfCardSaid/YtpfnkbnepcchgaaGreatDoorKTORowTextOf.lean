/- The law TextOf: for every input the call returns true, and each argument reads afterwards as it read before. What is listed of package-level variables is tied to the program's text. -/
import Derived.Test.YtpfnkbnepcchgaaGreatDoorCards
import Derived.Test.YtpfnkbnepcchgaaGreatDoorTie
import Derived.Test.YtpfnkbnepcchgaaGreatDoorRows
import Derived.Deep.Matrix
import Derived.ProofKit
import Derived.OpenShut
import Derived.Lib.SmallJoins
import Derived.ShutString
import Derived.Deep.DeepHandedRow
import Derived.LaidSub
import Derived.Stop.LaidErr
import Derived.Test.YtpfnkbnepcchgaaGreatDoorKTOBA
set_option linter.unusedSimpArgs false
set_option linter.unusedVariables false
section
namespace Go.Proofs.YtpfnkbnepcchgaaGreatDoor.textOf
open Go.Proofs.Yy
open Go.ChangeShapes Go.WideShapes Go.ChangeAt Go.RowKit
open Go.ChangeMaps (open_string shut_string)
theorem own:ownKnob Tryz.prog.godebug=none:=by kernel_rfl
noncomputable def low:Nat:=(World.holding Tryz.prog default ⟨#[],#[],[]⟩).heap.size
noncomputable def laidWorld (os:Os):World := { World.holding Tryz.prog os ⟨#[.cells #[.string ⟨#[118,97,108,117,101,32,111,117,116,32,111,102,32,114,97,110,103,101]⟩] 301,.cells #[.string ⟨#[105,110,118,97,108,105,100,32,115,121,110,116,97,120]⟩] 301],#[],[]⟩ with heap:=((((((((World.holding Tryz.prog os ⟨#[.cells #[.string ⟨#[118,97,108,117,101,32,111,117,116,32,111,102,32,114,97,110,103,101]⟩] 301,.cells #[.string ⟨#[105,110,118,97,108,105,100,32,115,121,110,116,97,120]⟩] 301],#[],[]⟩).heap).modify 10 fun | .cells _ t frozen => .cells #[.int .u8 0,.int .u8 1,.int .u8 28,.int .u8 2,.int .u8 29,.int .u8 14,.int .u8 24,.int .u8 3,.int .u8 30,.int .u8 22,.int .u8 20,.int .u8 15,.int .u8 25,.int .u8 17,.int .u8 4,.int .u8 8,.int .u8 31,.int .u8 27,.int .u8 13,.int .u8 23,.int .u8 21,.int .u8 19,.int .u8 16,.int .u8 7,.int .u8 26,.int .u8 12,.int .u8 18,.int .u8 6,.int .u8 11,.int .u8 5,.int .u8 10,.int .u8 9] t frozen|o=>o).modify 0 fun | .cells _ t frozen => .cells #[.int .u8 0,.int .u8 1,.int .u8 56,.int .u8 2,.int .u8 57,.int .u8 49,.int .u8 28,.int .u8 3,.int .u8 61,.int .u8 58,.int .u8 42,.int .u8 50,.int .u8 38,.int .u8 29,.int .u8 17,.int .u8 4,.int .u8 62,.int .u8 47,.int .u8 59,.int .u8 36,.int .u8 45,.int .u8 43,.int .u8 51,.int .u8 22,.int .u8 53,.int .u8 39,.int .u8 33,.int .u8 30,.int .u8 24,.int .u8 18,.int .u8 12,.int .u8 5,.int .u8 63,.int .u8 55,.int .u8 48,.int .u8 27,.int .u8 60,.int .u8 41,.int .u8 37,.int .u8 16,.int .u8 46,.int .u8 35,.int .u8 44,.int .u8 21,.int .u8 52,.int .u8 32,.int .u8 23,.int .u8 11,.int .u8 54,.int .u8 26,.int .u8 40,.int .u8 15,.int .u8 34,.int .u8 20,.int .u8 31,.int .u8 10,.int .u8 25,.int .u8 14,.int .u8 19,.int .u8 9,.int .u8 13,.int .u8 8,.int .u8 7,.int .u8 6] t frozen|o=>o).modify 4 fun | .cells _ t frozen => .cells #[.int .u64 1,.int .u64 10,.int .u64 100,.int .u64 1000,.int .u64 10000,.int .u64 100000,.int .u64 1000000,.int .u64 10000000,.int .u64 100000000,.int .u64 1000000000,.int .u64 10000000000,.int .u64 100000000000,.int .u64 1000000000000,.int .u64 10000000000000,.int .u64 100000000000000,.int .u64 1000000000000000,.int .u64 10000000000000000,.int .u64 100000000000000000,.int .u64 1000000000000000000,.int .u64 10000000000000000000] t frozen|o=>o).modify 9 fun | .cells _ t frozen => .cells #[.int .u8 128,.int .u8 191,.int .u8 160,.int .u8 191,.int .u8 128,.int .u8 159,.int .u8 144,.int .u8 191,.int .u8 128,.int .u8 143,.int .u8 0,.int .u8 0,.int .u8 0,.int .u8 0,.int .u8 0,.int .u8 0,.int .u8 0,.int .u8 0,.int .u8 0,.int .u8 0,.int .u8 0,.int .u8 0,.int .u8 0,.int .u8 0,.int .u8 0,.int .u8 0,.int .u8 0,.int .u8 0,.int .u8 0,.int .u8 0,.int .u8 0,.int .u8 0] t frozen|o=>o).modify 7 fun | .cells _ t frozen => .cells #[.iface 299 (.pointer (some ⟨low+0,0,none⟩))] t frozen|o=>o).modify 6 fun | .cells _ t frozen => .cells #[.iface 299 (.pointer (some ⟨low+1,0,none⟩))] t frozen|o=>o).modify 8 fun | .cells _ t frozen => .cells (Go.Pinned.utf8FirstZ.map fun n:Nat=>Value.int .u8 (n:Int)).toArray t frozen|o=>o }
set_option maxRecDepth 100000 in
theorem laid_met (os:Os):laidMet Tryz.prog Rows.textOfRow.laid ((laidWorld os).forCall (fun _ _=>0) ⟨#[],#[.int .i64 0,.agg #[.bool false,.bool false,.string ByteArray.empty,.int .i64 0]],[]⟩).memory :=
 laidMet_of_run' 8 (by kernel_rfl) (by kernel_rfl)
set_option maxRecDepth 100000 in
theorem reads (os:Os){H:Type}(enc:TypeId × Value→H):∃ places,DataW.whole enc Tryz.prog ((laidWorld os).forCall (fun _ _=>0) ⟨#[],#[.int .i64 0,.agg #[.bool false,.bool false,.string ByteArray.empty,.int .i64 0]],[]⟩).memory Tryz.f3.params.toList Rows.textOfSpec.vars false (#[.int .i64 0,.agg #[.bool false,.bool false,.string ByteArray.empty,.int .i64 0]]:Array Value).toList 8=some ([.lit (.int .i64 0),.agg [.lit (.bool false),.lit (.bool false),.lit (.string []),.lit (.int .i64 0)]],[],places) :=
 ⟨[],by kernel_rfl⟩
theorem ax9:(Rows.laid_internal_strconv_uint64pow10:DataW Unit)=Lib.tabData .u64 Lib.pow10Tab:=by kernel_rfl
theorem tab (W:World)(hL:laidMetH Tryz.prog Rows.textOfRow.laid W):Fx.Tab W:=by
 have h : laidMet Tryz.prog [("math/bits.deBruijn32tab", Rows.laid_math_bits_deBruijn32tab), ("math/bits.deBruijn64tab", Rows.laid_math_bits_deBruijn64tab), ("internal/strconv.uint64pow10", Rows.laid_internal_strconv_uint64pow10), ("unicode/utf8.acceptRanges", Rows.laid_unicode_utf8_acceptRanges), ("strconv.ErrRange", Rows.laid_strconv_ErrRange), ("strconv.ErrSyntax", Rows.laid_strconv_ErrSyntax), ("unicode/utf8.first", Rows.laid_unicode_utf8_first)] W := (laidMetH_iff.1 hL).1
 have h2:=h.tail.tail;rw[ax9]at h2;exact Lib.tabIs_of_head (g:=4) (t:=285) (e:=25) (n:=20) (by kernel_rfl) (by kernel_rfl) Tryz.underlying285 Tryz.underlying25 (by kernel_rfl) (by kernel_rfl) h2
theorem tzE:(Rows.laid_math_bits_deBruijn64tab:DataW Unit)=Lib.tabData .u8 Fx.Yv:=by kernel_rfl
theorem tz (W:World)(hL:laidMetH Tryz.prog Rows.textOfRow.laid W):Fx.Tz W:=by
 have h : laidMet Tryz.prog [("math/bits.deBruijn32tab", Rows.laid_math_bits_deBruijn32tab), ("math/bits.deBruijn64tab", Rows.laid_math_bits_deBruijn64tab), ("internal/strconv.uint64pow10", Rows.laid_internal_strconv_uint64pow10), ("unicode/utf8.acceptRanges", Rows.laid_unicode_utf8_acceptRanges), ("strconv.ErrRange", Rows.laid_strconv_ErrRange), ("strconv.ErrSyntax", Rows.laid_strconv_ErrSyntax), ("unicode/utf8.first", Rows.laid_unicode_utf8_first)] W := (laidMetH_iff.1 hL).1
 have h2:=h.tail;rw[tzE]at h2;exact Lib.tabIs_of_head (g:=0) (t:=156) (e:=5) (n:=64) (by kernel_rfl) (by kernel_rfl) Tryz.underlying156 Tryz.underlying5 (by kernel_rfl) (by kernel_rfl) h2
set_option maxRecDepth 100000 in
theorem contract (H:Type)(enc:TypeId × Value→H)(W:World)(base:Nat)(args:Array Value)(ds gs:List (DataW H))(before:List MemPlace)
  (hval0:∀ (j:Nat) t v,Tryz.f3.params[j]? = some t→args[j]? = some v→Value.okWide Tryz.prog W .any base t v)
  (hW:DataW.Whole enc Tryz.prog Tryz.f3.params.toList Rows.textOfSpec.vars false W args.toList ds gs before) (htab:Fx.Laid W) :
  Calls Tryz.prog 3 args W fun e W' => ∃ v,e=.returned v∧Rows.textOfSpec.post enc Tryz.prog Tryz.f3 false true false false W args v W':=by
 have hval:∀ (j:Nat) t v,Tryz.f3.params[j]? = some t→args[j]? = some v→Value.okWide Tryz.prog W .any base t v:=hval0;have hW':=hW;obtain⟨p,q,hA0,hV,rfl,hfz,hnd⟩:=hW;have hA:DataW.TrodAll enc Tryz.prog W 0 (fun _=>true) true Tryz.f3.params.toList args.toList ds p:=hA0;rw[Tryz.params3]at hA hval;obtain⟨v0,vs0,d0,ds0,p0,q0,hargs,rfl,rfl,h0,r0⟩:=trodAll_cons hA;obtain⟨v1,vs1,d1,ds1,p1,q1,rfl,rfl,rfl,h1,r1⟩:=trodAll_cons r0;obtain⟨rfl,rfl,rfl⟩:=trodAll_nil r1
 obtain rfl:args=#[v0,v1]:=by cases args;simp_all
 obtain⟨rfl,rfl⟩:=trodVars_none hV;obtain⟨a0,rfl,rfl,rfl,w0⟩:=open_int Tryz.underlying3 (hval 0 3 v0 rfl rfl) h0;obtain⟨aGg,aGh,aGi,aGj,aLX,aLY,aLZ,aL0,n1,rfl,rfl,rfl,aGk,aGl,aGm,aGn⟩:=Go.Joins.open_agg4 Tryz.underlying23 (by kernel_rfl) (by kernel_rfl) (hval 1 23 v1 rfl rfl) h1;obtain⟨kG,aGo,atW⟩:=DataW.trod_bool Tryz.underlying4 aGk;obtain rfl:aGg=_:=(List.cons.inj aGo).1;subst atW;obtain⟨jY,aGp,atX⟩:=DataW.trod_bool Tryz.underlying4 aGl;obtain rfl:aGh=_:=(List.cons.inj aGp).1;subst atX;obtain⟨jP,aGq,atY,ax8⟩:=DataW.trod_string Tryz.underlying9 aGm;obtain rfl:aGi=_:=(List.cons.inj aGq).1;subst atY;obtain⟨kD,aGr,atZ,aGs⟩:=DataW.trod_int Tryz.underlying3 aGn;obtain rfl:aGj=_:=(List.cons.inj aGr).1;subst atZ;have at1:∀ W' sp_,DataW.Trod enc Tryz.prog W' 0 sp_ true 23 (.agg #[.bool kG,.bool jY,.string jP,.int .i64 kD]) (.agg [.lit (.bool kG),.lit (.bool jY),.lit (.string jP.data.toList),.lit (.int .i64 kD)]) []:=fun W' sp_=>Go.Joins.shut_agg4 Tryz.underlying23 (by kernel_rfl) (by kernel_rfl) (Go.Joins.field_of_Trod (shut_bool Tryz.underlying4 _) rfl) (Go.Joins.field_of_Trod (shut_bool Tryz.underlying4 _) rfl) (Go.Joins.field_of_Trod (shut_string Tryz.underlying9 ax8) rfl) (Go.Joins.field_of_Trod (shut_int Tryz.underlying3 aGs) rfl);clear hA0 hval0 hval;refine (PTx.O5 a0 kG jY jP kD W htab ax8).mono ?_;rintro e W' ⟨rfl,aGt⟩;have bel:Below W.heap.size W W':=aGt;exact⟨_,rfl,_,_,_,[],_,[],hW',trodAll_mk1 (shut_bool Tryz.underlying4 _),(trodAll_cons_mk (shut_int Tryz.underlying3 w0) (trodAll_cons_mk (at1 _ _) trodAll_mk0)),rfl,bel.frame _,fun h=>by cases h⟩
set_option maxRecDepth 100000 in
theorem Tt (os:Os)(started:os.Started)(H:Type)(enc:TypeId × Value→H)(F:Stop.Interp) :
  ReturnsInHanded {} Tryz.checked os 3 .any ((OpenSpec.ofChange Rows.textOfSpec).preRow enc Tryz.prog Tryz.f3 Rows.textOfRow.domain false Rows.textOfRow.laid) (((OpenSpec.ofChange Rows.textOfSpec).at F).post enc Tryz.prog Tryz.f3 false true false false):=by
 obtain⟨places,hx⟩:=reads os enc
 refine returnsInHanded_of_row (C:=Tryz.checked) (s:=OpenSpec.ofChange Rows.textOfSpec) own started (by kernel_rfl) Tryz.func3
  (witness_row_at (enc:=enc) (C:=Tryz.checked) false (laidWorld os) #[.int .i64 0,.agg #[.bool false,.bool false,.string ByteArray.empty,.int .i64 0]] rfl (by kernel_rfl) (by kernel_rfl) (by kernel_rfl)
   (OpenSpec.preRow_of_cond 8 hx (by kernel_rfl) (fun k hk=>by cases hk) (by kernel_rfl) (laid_met os))) ?_
 intro W base args ds gs before hval hW _ hcond _ hL _ _;exact contract H enc W base args ds gs before hval hW ⟨tab W hL,tz W hL⟩
theorem aa0:Rows.TextOfSaid :=
 OpenClaim.holds_of_cond 3 Tryz.f3 rfl rfl rfl rfl rfl rfl rfl ⟨rfl,rfl,rfl,rfl,rfl⟩ rfl rfl rfl rfl rfl (by kernel_rfl) Tryz.func3 (by kernel_rfl)
  (of_decide_eq_true (by kernel_rfl)) (by unfold Func.isWrapper;first|(rw[if_pos (by decide +kernel)];kernel_rfl)|(rw[if_neg (by decide +kernel)];exact⟨rfl,rfl⟩))
  (fun os started H enc _ F=>by rw[OpenClaim.pre_eq_preRow];exact Tt os started H enc F)
theorem plain (f : FuncId) (fn : Func) (hf : Tryz.pinned.checked.prog.funcNamed "vernier/vernierlaw19.TextOf" = some f) (hfn : Tryz.pinned.checked.prog.funcs[f]? = some fn) :
  true=Tryz.pinned.checked.prog.looks []∧∀ (j:Nat) t,fn.params[j]? = some t→Tryz.pinned.checked.prog.wantsStandIn t=false:=by
 obtain rfl : f = 3 := Option.some.inj ((show Tryz.prog.funcNamed "vernier/vernierlaw19.TextOf" = some 3 by kernel_rfl).symm.trans hf) |>.symm
 obtain rfl:fn=Tryz.f3:=(Option.some.inj (Tryz.func3.symm.trans hfn)).symm;refine⟨by kernel_rfl,fun j t ht=>?_⟩;rw[Tryz.params3]at ht
 have ht2:t=3∨t=23:=by simpa using Array.mem_of_getElem? ht
 rcases ht2 with rfl|rfl
 ·exact (show Tryz.prog.wantsStandIn 3=false by kernel_rfl)
 ·exact (show Tryz.prog.wantsStandIn 23=false by kernel_rfl)
theorem SX:Rows.TextOfCardSaid :=
 Claim7.holds_tied_plain_at .later [] _ _ _ _ aa0 (fun _ h=>by cases h) (by kernel_rfl) (fun _ h=>by cases h) textOf_row_tie rfl ⟨rfl,rfl⟩ (by kernel_rfl) rfl plain (by kernel_rfl)
#print axioms SX
end Go.Proofs.YtpfnkbnepcchgaaGreatDoor.textOf
namespace Go.Proofs.YtpfnkbnepcchgaaGreatDoor
theorem textOf_holds:Rows.TextOfCardSaid:=textOf.SX
end Go.Proofs.YtpfnkbnepcchgaaGreatDoor
end
