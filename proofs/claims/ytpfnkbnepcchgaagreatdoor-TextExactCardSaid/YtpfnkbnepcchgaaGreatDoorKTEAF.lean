/- Part 6 of what the proof needs. -/
import Derived.Lib.Walk
import Derived.Lib.ItoaMem
import Derived.Lib.AppendIntMem
import Derived.Laws.StructEq
import Derived.Test.YtpfnkbnepcchgaaGreatDoorKTEAE
set_option linter.unusedSimpArgs false
set_option linter.unusedVariables false
section
namespace Go.Proofs.Yy.Fmt
open Go.Shelf Go.RowKit Go.Sort Go.Lib
def akM (w : World) : Prop := Lib.TabIs Tryz.prog w "internal/strconv.uint64pow10" .u64 Lib.pow10Tab
theorem below_grow (w:World) (k:Nat) (os:Array Obj):Below w.heap.size w (grow (w.drewN k) os) :=
 ⟨rfl,rfl,rfl,by show w.heap.size≤(w.heap ++ os).size;simp,fun i hi=>by show (w.heap ++ os)[i]? = _;rw [Array.getElem?_append_left hi]⟩
set_option maxHeartbeats 3200000 in
set_option maxRecDepth 100000 in
theorem Bc (u:Nat) (hu64:u<18446744073709551616) (w:World) (htab:akM w) :
  Calls Tryz.prog 165 #[.int .u64 u, .int .i64 10] w fun e w'=>e = .returned (.string ⟨(Lib.decDigits u).toArray⟩) ∧ ∃ k os,w'=grow (w.drewN k) os:=by
 by_cases hs:u<100
 ·go_enter Tryz.func165,Tryz.ntmps165
  go_wp2_with (go_at_call 198;refine (Tryz.internal_strconv_small u hs _).mono ?_;rintro e w' ⟨rfl,rfl⟩)
  go_ret
  exact ⟨rfl,0,#[],by simp [World.drewN_zero]⟩
 ·have hu1:1≤u:=by omega
  have hnd20:Lib.nDigits u≤20:=by have:=Lib.numDigits_eq u hu1 hu64;split at this <;> omega
  have hb3:Lib.nDigits u≤24:=by omega
  have hal:Tryz.prog.arrayLen 268=24:=by kernel_rfl
  have hsl1:∀ W,(Instr.sliceAt 268 (.pointer (some ⟨w.heap.size,0,none⟩)) none (some (.int .i64 (Lib.nDigits u:Int))) none).run Tryz.prog W = .ok (.slice (some ⟨w.heap.size,0,none⟩) (Lib.nDigits u) 24) W:=fun W=>by
   rw [run_sliceAt_array_h W 268 ⟨w.heap.size,0,none⟩ (by simp [Program.arrayLen,Program.elem,Tryz.underlying268]) .i64 (Lib.nDigits u:Int) (by omega) (by rw [hal];omega)]
   go_simp
  have hH0:=Lib.holds_zero0 w 268 (Lib.nDigits u) (by omega)
  have hfmt:=Tryz.internal_strconv_formatBase10 w.heap.size 0 24 u (Array.replicate (Lib.nDigits u) 0) (w.alloc (.cells Lib.zeros24 268)) hH0 (by rw [Array.size_replicate];exact Lib.lt_pow_nDigits u) hu64 (by rw [Array.size_replicate];omega)
  rw [Array.size_replicate] at hfmt
  have HH0:=Lib.hid hH0
  clear hH0 hal
  have HT:=Lib.hid htab
  clear htab
  go_enter Tryz.func165,Tryz.ntmps165
  go_wp2_with (first
   | (go_at_call 199;refine (Tryz.internal_strconv_numDigits u hu1 hu64 _ (Lib.tabIs_alloc HT.out _)).mono ?_;rintro e w' ⟨rfl,rfl⟩))
  go_at_call 200
  refine hfmt.mono ?_
  rintro e w' ⟨rfl,k,v',dk,rfl,hF⟩
  have hcv:(convert 104 9 (.slice (some ⟨w.heap.size,0,none⟩) (Lib.nDigits u) 24)).run Tryz.prog ((putRow (fun (b:UInt8)=>Value.int .u8 (b.toNat:Int)) (w.alloc (.cells Lib.zeros24 268)) w.heap.size 0 dk).drewN k) = .ok (.string ⟨(Lib.decDigits u).toArray⟩) ((putRow (fun (b:UInt8)=>Value.int .u8 (b.toNat:Int)) (w.alloc (.cells Lib.zeros24 268)) w.heap.size 0 dk).drewN k):=by
   have h:=run_convert_bytes_back (P:=Tryz.prog) ((putRow (fun (b:UInt8)=>Value.int .u8 (b.toNat:Int)) (w.alloc (.cells Lib.zeros24 268)) w.heap.size 0 dk).drewN k) 104 9 5 ⟨w.heap.size,0,none⟩ 24 (Lib.decDigits u) Tryz.underlying104 Tryz.underlying5 Tryz.underlying9 (fun j hj=>by
    rw [Lib.row_is_numeral hF j hj,Lib.add_plain,World.cell?_drewN]
    exact cell?_putRow (fun (b:UInt8)=>Value.int .u8 (b.toNat:Int)) _ w.heap.size 0 _ dk HH0.out (by rw [hF.size,Array.size_replicate]) j (by rw [hF.size];rw [Lib.decDigits_length] at hj;exact hj))
   rw [Lib.decDigits_length] at h
   exact h
  go_wp2
  go_ret
  obtain ⟨os',_,e⟩:=putRow_grow_new (fun (b:UInt8)=>Value.int .u8 (b.toNat:Int)) w #[(.cells Lib.zeros24 268)] w.heap.size 0 dk (Nat.le_refl _)
  refine ⟨rfl,k,os',?_⟩
  rw [alloc_eq_grow,e]
  rfl
end Go.Proofs.Yy.Fmt
end
section
namespace Go.Proofs.Yy.TA
open Go.Proofs.Yy.SC (D)
def wX (l:List UInt8):Nat:=l.foldl (fun a c=>a * 10+(c.toNat - 48)) 0
def RP (d:D):Nat:=wX d.ds * 10 ^ d.e.toNat
def aeV (d:D):Nat:=10 ^ (-d.e).toNat
theorem Xk (d:D):0<aeV d:=Nat.pow_pos (by omega)
theorem top_le {n:Nat} (hn:n≤64):top n≤248:=by unfold top;omega
end Go.Proofs.Yy.TA
end
section
namespace Go.Proofs.Yw.PrintWords
open Go.RowKit
namespace Kd
def tag {α:Type} (f:Nat→Nat) (d:Kd α):Kd (α × Nat) where
 sz:=d.sz
 E:=d.E
 K:=fun w x cs=>d.K w x.1 cs
 M:=fun w base ok x cs=>d.M w base (fun k=>ok k∧f k=x.2) x.1 cs
 K_len:=fun h=>d.K_len h
 K_one:=fun h=>d.K_one h
 K_below:=fun hb h=>d.K_below hb h
 K_of_M:=fun h=>d.K_of_M h
 M_mono:=fun hok h=>d.M_mono (fun k hk=>⟨hok k hk.1,hk.2⟩) h
 M_bound:=fun h=>d.M_mono (fun _ hk=>⟨⟨hk.1.1,hk.2⟩,hk.1.2⟩) (d.M_bound h)
 M_move:=fun hm h=>d.M_move (fun k hk=>hm k hk.1) h
 M_lower:=fun hb h=>d.M_lower hb h
def raw (sz:Nat):Kd (List Value) where
 sz:=sz
 E := []
 K:=fun _ x cs=>cs=x∧cs.length=sz ∧ ∀ u ∈ cs,u.oneCell'=true
 M:=fun _ _ _ x cs=>cs=x∧cs.length=sz ∧ ∀ u ∈ cs,u.oneCell'=true
 K_len:=fun h=>h.2.1
 K_one:=fun h=>h.2.2
 K_below:=fun _ h=>h
 K_of_M:=fun h=>h
 M_mono:=fun _ h=>h
 M_bound:=fun h=>h
 M_move:=fun _ h=>h
 M_lower:=fun _ h=>h
def S {α:Type} (d:Kd α) (e:Nat) (w:World) (base:Nat) (ok:Nat→Prop) (v:Value) (xs:List α):Prop := ∃ f,(tag f d).R e w base ok v xs.zipIdx
section
variable {α β:Type} {d:Kd α} {d':Kd β} {e e':Nat} {w w1 W:World} {base b:Nat} {ok ok' okv oku:Nat→Prop} {u v:Value} {xs:List α} {ys:List β}
theorem jY (hE:d.E = []) (h:d.R e w base ok v xs):d.R e w base (fun k=>some k=v.ownBlock) v xs:=by
 obtain ⟨h0,inner,ho,hr⟩:=h
 refine ⟨fun k hk=>hk.symm,inner,ho,hr.GM (fun p c hp=>d.M_mono (fun k hk=>?_) (d.M_bound hp))⟩
 obtain ⟨_,_,_,q,hq,_⟩:=hk
 rw [hE] at hq
 cases hq
theorem XN (d:Kd α) (e:Nat) (w:World) (base:Nat) (ok:Nat→Prop):S d e w base ok (.slice none 0 0) []:=⟨fun _=>0,Gq _ _ _ _ _⟩
end
def gap {α:Type} (f:Nat→Nat) (d:Kd α) (i:Nat) (c:List Value):Kd (α × Nat) where
 sz:=d.sz
 E:=d.E
 K:=fun w x cs=>(x.2=i→cs=c∧cs.length=d.sz ∧ ∀ u ∈ cs,u.oneCell'=true)∧(x.2≠i→d.K w x.1 cs)
 M:=fun w base ok x cs=>(x.2=i→cs=c∧cs.length=d.sz ∧ ∀ u ∈ cs,u.oneCell'=true)∧(x.2≠i→d.M w base (fun k=>ok k∧f k=x.2) x.1 cs)
 K_len:=fun {w x cs} h=>by
  by_cases hx:x.2=i
  ·exact (h.1 hx).2.1
  ·exact d.K_len (h.2 hx)
 K_one:=fun {w x cs} h=>by
  by_cases hx:x.2=i
  ·exact (h.1 hx).2.2
  ·exact d.K_one (h.2 hx)
 K_below:=fun hb h=>⟨h.1,fun hx=>d.K_below hb (h.2 hx)⟩
 K_of_M:=fun h=>⟨h.1,fun hx=>d.K_of_M (h.2 hx)⟩
 M_mono:=fun hok h=>⟨h.1,fun hx=>d.M_mono (fun k hk=>⟨hok k hk.1,hk.2⟩) (h.2 hx)⟩
 M_bound:=fun h=>⟨h.1,fun hx=>d.M_mono (fun _ hk=>⟨⟨hk.1.1,hk.2⟩,hk.1.2⟩) (d.M_bound (h.2 hx))⟩
 M_move:=fun hm h=>⟨h.1,fun hx=>d.M_move (fun k hk=>hm k hk.1) (h.2 hx)⟩
 M_lower:=fun hb h=>⟨h.1,fun hx=>d.M_lower hb (h.2 hx)⟩
def H {α:Type} (d:Kd α) (e:Nat) (w:World) (base:Nat) (ok:Nat→Prop) (v:Value) (xs:List α) (i:Int) (oki:Nat→Prop) (c:List Value):Prop :=
 (∀ k,oki k→ok k) ∧ ∃ f,(gap f d i.toNat c).R e w base (fun k=>ok k ∧ ¬ oki k) v xs.zipIdx
end Kd
end Go.Proofs.Yw.PrintWords
end
section
namespace Go.Proofs.Yw.PrintWords
open Go.RowKit
section
variable {P:Program} {d:Nat} {xs ys:Array Value} {f:Field} {fs:List Field} {a b:Value} {r s:Bool} {w:World}
theorem Gn (hn : (f.name == "_") = false) (ha : (part f.type xs f.offset).run P w = .ok a w) (hb : (part f.type ys f.offset).run P w = .ok b w) (he : (Op.equalIn d f.type a b).run P w = .ok r w) : (Op.eqFields d xs ys [f]).run P w = .ok r w := by
 have hn' : f.name ≠ "_" := by simpa using hn
 simp only [Op.eqFields,if_pos hn',Sem.run_bind,ha,hb,he,Result.andThen_ok]
 cases r <;> simp
theorem qE (hn : (f.name == "_") = false) (ha : (part f.type xs f.offset).run P w = .ok a w) (hb : (part f.type ys f.offset).run P w = .ok b w) (he : (Op.equalIn d f.type a b).run P w = .ok r w) (hr : (Op.eqFields d xs ys fs).run P w = .ok s w) : (Op.eqFields d xs ys (f :: fs)).run P w = .ok (r && s) w := by
 have hn' : f.name ≠ "_" := by simpa using hn
 rw [Op.eqFields]
 simp only [if_pos hn',Sem.run_bind,ha,hb,he,Result.andThen_ok]
 cases r
 ·simp
 ·simpa using hr
theorem RI {t:TypeId} {fs:Array Field} (hu:P.underlying t=some (.struct fs)) (hp:P.stoodInHeld t=false) (h:(Op.eqFields d xs ys fs.toList).run P w = .ok r w):(Op.equalIn (d+1) t (.agg xs) (.agg ys)).run P w = .ok r w:=by
 have hf:P.fieldsOf t=fs:=by simp [Program.fieldsOf,hu]
 rw [run_equalIn_struct (P:=P) w d t xs ys (by rw [hf];exact hu) hp,hf]
 exact h
end
section
variable {P:Program} {ops:Array Oper} {rest:List Oper} {o:Oper} {a:Act} {Q:Exit→Act→World→Prop} {W:World}
theorem kY (hw:Region.wanted o (yielded ops a.tmps)=true) (h:wpList P ops Q ({ o with guard:=none } :: rest) a W):wpList P ops Q (o :: rest) a W:=by
 have h1:Region.wanted { o with guard:=none } (yielded ops a.tmps)=true:=rfl
 unfold wpList at h ⊢
 rw [if_pos h1] at h
 rw [if_pos hw]
 exact h
end
end Go.Proofs.Yw.PrintWords
end
section
namespace Go.Proofs.Yw.PrintWords
open Go.RowKit
namespace Kd
structure Heap {α:Type} (d:Kd α):Prop where
 K:∀ {w w1:World} {x:α} {cs:List Value},(∀ k,k<w.heap.size→w1.heap[k]? = w.heap[k]?)→d.K w x cs→d.K w1 x cs
theorem Uy {w w1:World} (hb:∀ k,k<w.heap.size→w1.heap[k]? = w.heap[k]?) {a:Addr} {v:Value} (h:w.cell? a=some v):w1.cell? a=some v:=by
 have:=hb a.block (World.block_lt_of_cell? w a h)
 simpa [World.cell?, this] using h
theorem Heap.C {α:Type} {d:Kd α} (hd:Heap d) {w w1:World} {A:Option Addr} {n:Nat} {xs:List α} (hb:∀ k,k<w.heap.size→w1.heap[k]? = w.heap[k]?) (h:d.C w A n xs):d.C w1 A n xs :=
 ⟨h.1,h.2.1,fun hn=>by
  obtain ⟨ad,e,hc⟩:=h.2.2 hn
  refine ⟨ad,e,fun j p hj=>?_⟩
  obtain ⟨c,hs,hr,hcell⟩:=hc j p hj
  exact ⟨c,hs,hd.K hb hr,fun i u hu=>Uy hb (hcell i u hu)⟩⟩
theorem oM (k:IntKind):Heap (Kd.int k):=⟨fun _ h=>h⟩
end Kd
end Go.Proofs.Yw.PrintWords
end
section
namespace Go.Proofs.Yw.PrintWords
open Go.RowKit
def Kept (w W:World) (S:Nat→Prop):Prop:=w.heap.size≤W.heap.size ∧ ∀ i,i<w.heap.size → ¬ S i→W.heap[i]? = w.heap[i]?
section
variable {w W W2:World} {S S2 S':Nat→Prop}
theorem Kept.refl (w:World) (S:Nat→Prop):Kept w w S:=⟨Nat.le_refl _,fun _ _ _=>rfl⟩
theorem Kept.of_below (h:Below w.heap.size w W) (S:Nat→Prop):Kept w W S:=⟨h.size,fun i hi _=>h.block i hi⟩
theorem Kept.mono (h:Kept w W S) (hs:∀ k,S k→S' k):Kept w W S':=⟨h.1,fun i hi hn=>h.2 i hi (fun hk=>hn (hs i hk))⟩
theorem Kept.aaG (h:Kept w W S) (k:Kept W W2 S2) (hs:∀ k,S2 k→S k∨w.heap.size≤k):Kept w W2 S :=
 ⟨Nat.le_trans h.1 k.1,fun i hi hn=>(k.2 i (Nat.lt_of_lt_of_le hi h.1) (fun h2=>(hs i h2).elim hn (fun h3=>by omega))).trans (h.2 i hi hn)⟩
theorem Kept.yf {row:Option Nat} (hg:W.grownBy W2 row) (h:Kept w W S) (hr:∀ k,row=some k→S k∨w.heap.size≤k):Kept w W2 S :=
 h.aaG (S2:=fun k=>row=some k) ⟨hg.size,fun i hi hn=>hg.block i hi (fun he=>hn he.symm)⟩ hr
theorem Kept.below (h:Kept w W S) (hb:Below W.heap.size W W2):Kept w W2 S:=h.aaG (Kept.of_below hb (fun _=>False)) (fun _ hk=>hk.elim)
theorem Kept.alloc (h:Kept w W S) (o:Obj):Kept w (W.alloc o) S:=h.below (bz (Below.refl _ _) o)
theorem Kept.drew (h:Kept w W S):Kept w W.drew S:=h
theorem Kept.drewN (h:Kept w W S) (m:Nat):Kept w (W.drewN m) S:=h
theorem Kept.setCell (h:Kept w W S) {p:Addr} (hp:S p.block∨w.heap.size≤p.block) (u:Value):Kept w (W.setCell p u) S :=
 h.aaG (S2:=fun k=>k=p.block) ⟨by simp [World.setCell],fun i _ hn=>Below.heap_setCell W p u i hn⟩ (fun k hk=>by rw [hk];exact hp)
end
namespace Kd
section
variable {α:Type} {d:Kd α} {e base n c:Nat} {ok oki S S2:Nat→Prop} {w w0 W W1 W2:World} {v:Value} {A:Option Addr} {xs:List α} {i:Int} {cs:List Value}
theorem afr (h:d.R e W base ok v xs) (hk:Kept W W2 S) (hne:∀ k,ok k → ¬ S k):d.R e W2 base ok v xs:=IP h (fun k ho hlt=>hk.2 k hlt (hne k ho))
theorem Fq (h:∀ W',Kept w W' S→d.C W' A n xs) (hk:Kept w W S):d.C W A n xs:=h W hk
end
end Kd
def zM (P:World→Prop) (W:World) (ok:Nat→Prop):Prop := ∀ W':World,(∀ k,ok k→k<W.heap.size→W'.heap[k]? = W.heap[k]?)→P W'
theorem abe {W W1:World} {k:Nat} (h:W1.heap[k]? = W.heap[k]?) (hlt:k<W.heap.size):k<W1.heap.size:=by
 rw [Array.getElem?_eq_getElem hlt] at h
 exact (Array.getElem?_eq_some_iff.1 h).1
namespace zM
variable {P Q:World→Prop} {W W1:World} {ok ok':Nat→Prop}
theorem now (h:zM P W ok):P W:=h W (fun _ _ _=>rfl)
theorem mono (h:zM P W ok) (hok:∀ k,ok k→ok' k):zM P W ok':=fun W' hW=>h W' (fun k hk hlt=>hW k (hok k hk) hlt)
theorem bound (h:zM P W ok):zM P W (fun k=>ok k∧k<W.heap.size):=fun W' hW=>h W' (fun k hk hlt=>hW k ⟨hk,hlt⟩ hlt)
theorem step (h:zM P W ok) (hm:∀ k,ok k→k<W.heap.size→W1.heap[k]? = W.heap[k]?):zM P W1 ok:=fun W' hW=>h W' (fun k hk hlt=>(hW k hk (abe (hm k hk hlt) hlt)).trans (hm k hk hlt))
theorem imp (h:zM P W ok) (hi:∀ W',P W'→Q W'):zM Q W ok:=fun W' hW=>hi W' (h W' hW)
theorem old (h:zM P W ok) (hb:Below W.heap.size W W1):zM P W1 (fun k=>ok k∧k<W.heap.size):=(h.bound).step (fun k _ hlt=>hb.block k hlt)
end zM
namespace Kd
def F {α:Type} (d:Kd α) (W:World) (ok:Nat→Prop) (A:Option Addr) (n:Nat) (xs:List α):Prop:=zM (fun W=>d.C W A n xs) W ok
def FK {α:Type} (d:Kd α) (W:World) (ok:Nat→Prop) (x:α) (c:List Value):Prop:=zM (fun W=>d.K W x c) W ok
section
variable {α β:Type} {d:Kd α} {e base n n' cc g N:Nat} {ok ok' okp S:Nat→Prop} {w w0 w1 W W1:World} {A A':Option Addr} {u v v1:Value} {xs:List α} {xs':List β} {d':Kd β} {x:α} {c:List Value}
theorem aeq (h:F d W ok A n xs):d.C W A n xs:=zM.now h
theorem Iu (h:F d W ok A n xs) (hok:∀ k,ok k→ok' k):F d W ok' A n xs:=zM.mono h hok
theorem SH (h:F d W ok A n xs):F d W (fun k=>ok k∧k<W.heap.size) A n xs:=zM.bound h
theorem Zv (h:F d W ok A n xs) (hm:∀ k,ok k→k<W.heap.size→W1.heap[k]? = W.heap[k]?):F d W1 ok A n xs:=zM.step h hm
theorem afn (h:F d W ok A n xs) (hi:∀ W',d.C W' A n xs→d'.C W' A' n' xs'):F d' W ok A' n' xs':=zM.imp h hi
theorem nX (h:F d W ok A n xs) (hb:Below W.heap.size W W1):F d W1 ok A n xs:=Zv h (fun k _ hlt=>hb.block k hlt)
theorem aay (h:F d W ok A n xs) (o:Obj):F d (W.alloc o) ok A n xs:=nX h (bz (Below.refl _ _) o)
theorem afo (h:F d W ok A n xs):F d W.drew ok A n xs:=nX h (wJ (Below.refl _ _))
theorem aaw (h:F d W ok A n xs) (m:Nat):F d (W.drewN m) ok A n xs:=nX h (aI (Below.refl _ _) m)
theorem aey (h:F d W ok A n xs) (hk:Kept W W1 S) (hok:∀ k,ok k → ¬ S k):F d W1 ok A n xs:=Zv h (fun k ho hlt=>hk.2 k hlt (hok k ho))
theorem akK (d:Kd α) (W:World) (ok:Nat→Prop):F d W ok none ([]:List α).length []:=fun W' _=>akB d W'
theorem XE (h:F d W ok A n xs) (hbase:∀ k,v.ownBlock=some k→W.heap.size≤k) (hb:Below W.heap.size W W1):F d W1 (fun k=>ok k∧some k≠v.ownBlock) A n xs :=
 Iu (zM.old h hb) (fun k hk=>⟨hk.1,fun he=>by have:=hbase k he.symm;have:=hk.2;omega⟩)
theorem abp (h:F d W (fun k=>ok k∧some k≠v.ownBlock) A n xs) (hg:W.grownBy W1 v.ownBlock) (hat:v1.ownBlock=v.ownBlock ∨ ∃ b,v1.ownBlock=some b∧W.heap.size≤b):F d W1 (fun k=>ok k∧some k≠v1.ownBlock) A n xs:=by
 refine Iu (zM.step (SH h) (fun k hk hlt=>hg.block k hlt hk.1.2)) (fun k hk=>⟨hk.1.1,?_⟩)
 rcases hat with hat|⟨b,hb,hle⟩
 ·rw [hat];exact hk.1.2
 ·rw [hb]
  intro he
  injection he with he
  have:=hk.2
  omega
theorem ak0 (h:F d W ok A n xs) (hb:Below W.heap.size W W1):F d W1 (fun k=>ok k∧k<W.heap.size) A n xs:=zM.old h hb
theorem afp (h:F d W1 (fun k=>ok k∧k<N) A n xs) (hbase:∀ k,v.ownBlock=some k→N≤k):F d W1 (fun k=>(ok k∧some k≠v.ownBlock)∧k<N) A n xs :=
 Iu h (fun k hk=>⟨⟨hk.1,fun he=>Nat.lt_irrefl _ (Nat.lt_of_lt_of_le hk.2 (hbase k he.symm))⟩,hk.2⟩)
theorem KD (h:F d W ok A n xs):F d W (fun k=>ok k∧some k≠(Value.slice none 0 0).ownBlock) A n xs:=Iu h (fun k hk=>⟨hk,by simp [Value.ownBlock]⟩)
theorem C_F (hd:Heap d) (h:d.C w A n xs):F d w (fun k=>k<w.heap.size) A n xs:=fun _ hW=>hd.C (fun k hlt=>hW k hlt hlt) h
theorem R_F (h:d.R e W base ok (.slice A n cc) xs):F d W ok A n xs:=fun W' hW=>by
 have h2:=aW (IP h hW)
 rw [h2.1]
 exact h2.2.2
theorem E5 (h:FK d W ok x c):d.K W x c:=zM.now h
theorem aaE (h:FK d W ok x c) (hok:∀ k,ok k→ok' k):FK d W ok' x c:=zM.mono h hok
theorem X0 (h:FK d W ok x c):FK d W (fun k=>ok k∧k<W.heap.size) x c:=zM.bound h
theorem TB (h:FK d W ok x c) (hm:∀ k,ok k→k<W.heap.size→W1.heap[k]? = W.heap[k]?):FK d W1 ok x c:=zM.step h hm
theorem abv (h:d.M W base ok x c):FK d W ok x c:=fun _ hW=>d.K_of_M (Zq h hW)
theorem aba (W:World) (g:Nat):∃ W':World,(∀ k,k≠g→W'.heap[k]? = W.heap[k]?) ∧ ∀ a:Addr,a.block=g→W'.cell? a=none:=by
 refine ⟨{ W with heap:=W.heap.setIfInBounds g (.cells #[] 0) },fun k hk=>by simp [Ne.symm hk],fun a ha=>?_⟩
 subst ha
 by_cases hlt:a.block<W.heap.size
 ·simp [World.cell?, hlt]
 ·simp [World.cell?, hlt]
end
end Kd
end Go.Proofs.Yw.PrintWords
end
section
namespace Go.Proofs.Yw.PrintWords
open Go.RowKit
namespace Kd
def chunks (sz:Nat) (n:Nat) (inner:List Value):List (List Value):=(List.range n).map fun j=>(inner.drop (j * sz)).take sz
theorem iL (sz n:Nat) (inner:List Value):(chunks sz n inner).length=n:=by simp [chunks]
theorem Sr {sz n:Nat} {inner:List Value} {j:Nat} (hj:j<n):(chunks sz n inner)[j]? = some ((inner.drop (j * sz)).take sz):=by simp [chunks,hj]
theorem wI {sz n:Nat} {inner:List Value} {j:Nat} {c:List Value} (h:(chunks sz n inner)[j]? = some c):c=(inner.drop (j * sz)).take sz:=by
 have hj:j<n:=by have:=(List.getElem?_eq_some_iff.1 h).1;rwa [iL] at this
 rw [Sr hj] at h
 injection h with h
 exact h.symm
theorem FU {α:Type} {Rr:α→List Value→Prop} {sz:Nat} {xs:List α} {inner:List Value} (h:jm Rr sz xs inner) (hR:∀ x c,Rr x c→c.length=sz ∧ ∀ u ∈ c,u.oneCell'=true):jm (fun x cs=>cs=x∧cs.length=sz ∧ ∀ u ∈ cs,u.oneCell'=true) sz (chunks sz xs.length inner) inner:=by
 refine ⟨by rw [iL];exact h.1,fun j p hj=>?_⟩
 have hjl:j<xs.length:=by have:=(List.getElem?_eq_some_iff.1 hj).1;rwa [iL] at this
 have hp:=wI hj
 exact ⟨hp.symm,hR _ _ (h.2 j _ (List.getElem?_eq_getElem hjl))⟩
section
variable {α:Type} {d:Kd α} {e base n cc g:Nat} {ok ok' okp S:Nat→Prop} {w w1 W W1:World} {A:Option Addr} {u v v1:Value} {xs:List α} {x:α} {c:List Value}
theorem akO (h:F d W ok A n xs) (z:α) (i:Int) (h0:0≤i) (h1:i<n) :
  ∃ ad c,A=some ad∧c.length=d.sz∧FK d W ok (xs.getD i.toNat z) c∧(∀ j u,c[j]? = some u→W.cell? (ad.add (i.toNat * d.sz+j))=some u)∧(0<d.sz→ok ad.block):=by
 obtain ⟨ad,c,rfl,hcl,hK,hcc⟩:=X6 (aeq h) z i h0 h1
 have hin:0<d.sz→ok ad.block:=by
  intro hs
  by_cases hk:ok ad.block
  ·exact hk
  ·obtain ⟨W',h2,h3⟩:=aba W ad.block
   obtain ⟨ad',c',he,hcl',_,hcc'⟩:=X6 (h W' (fun k hk' _=>h2 k (fun e=>hk (e ▸ hk')))) z i h0 h1
   injection he with he
   subst he
   have h4:=hcc' 0 _ (List.getElem?_eq_getElem (by omega))
   rw [h3 _ (add_block _ _)] at h4
   cases h4
 refine ⟨ad,c,rfl,hcl,fun W' hW=>?_,hcc,hin⟩
 obtain ⟨ad',c',he,hcl',hK',hcc'⟩:=X6 (h W' hW) z i h0 h1
 injection he with he
 subst he
 have hc:c=c':=by
  apply List.ext_getElem?
  intro j
  by_cases hj:j<d.sz
  ·have hb:W'.heap[ad.block]? = W.heap[ad.block]?:=by
    have h5:=hcc j _ (List.getElem?_eq_getElem (by omega))
    have h6:=World.block_lt_of_cell? W _ h5
    rw [add_block] at h6
    exact hW _ (hin (by omega)) h6
   have h5:=hcc j _ (List.getElem?_eq_getElem (by omega))
   have h6:=hcc' j _ (List.getElem?_eq_getElem (by omega))
   have h7:W'.cell? (ad.add (i.toNat * d.sz+j))=W.cell? (ad.add (i.toNat * d.sz+j)):=by simp [World.cell?, add_block,hb]
   rw [h7,h5] at h6
   rw [List.getElem?_eq_getElem (by omega),List.getElem?_eq_getElem (by omega)]
   exact h6
  ·rw [List.getElem?_eq_none (by omega),List.getElem?_eq_none (by omega)]
 rw [hc]
 exact hK'
def N {α:Type} (d:Kd α) (e:Nat) (w:World) (base:Nat) (ok:Nat→Prop) (v:Value) (xs:List α):Prop :=
 (∀ k,v.ownBlock=some k→ok k) ∧ ∃ rows:List (List Value),rows.length=xs.length∧(raw d.sz).R e w base (fun k=>some k=v.ownBlock) v rows ∧ ∀ (j:Nat) (x:α) (c:List Value),xs[j]? = some x→rows[j]? = some c→FK d w (fun k=>ok k∧some k≠v.ownBlock) x c
theorem SA {sz:Nat} {rows:List (List Value)} (h:(raw sz).R e w base ok v rows):(raw sz).R e w base (fun k=>some k=v.ownBlock) v rows:=jY rfl h
theorem R_N (h:d.R e w base ok v xs):N d e w base ok v xs:=by
 obtain ⟨h0,inner,ho,hr⟩:=h
 refine ⟨h0,chunks d.sz xs.length inner,iL _ _ _,⟨fun k hk=>hk.symm,inner,by rw [iL];exact ho,FU hr (fun x c hp=>⟨d.K_len (d.K_of_M hp),d.K_one (d.K_of_M hp)⟩)⟩,fun j x c hx hc=>?_⟩
 rw [wI hc]
 exact abv (hr.2 j x hx)
theorem Xj (d:Kd α) (e:Nat) (w:World) (base:Nat) (ok:Nat→Prop):N d e w base ok (.slice none 0 0) []:=R_N (Gq _ _ _ _ _)
theorem EW (h:N d e w base ok v xs):∀ k,v.ownBlock=some k→base≤k:=by
 obtain ⟨_,rows,_,hR,_⟩:=h
 exact gV hR
theorem KI {base':Nat} (h:N d e w base ok v xs) (hb:base'≤base):N d e w base' ok v xs:=by
 obtain ⟨h0,rows,hl,hR,hf⟩:=h
 exact ⟨h0,rows,hl,eP hR hb,hf⟩
theorem Zn (h:N d e w base ok v xs) (hm:∀ k,ok k→k<w.heap.size→w1.heap[k]? = w.heap[k]?):N d e w1 base ok v xs:=by
 obtain ⟨h0,rows,hl,hR,hf⟩:=h
 exact ⟨h0,rows,hl,IP hR (fun k hk hlt=>hm k (h0 k hk.symm) hlt),fun j x c hx hc=>TB (hf j x c hx hc) (fun k hk hlt=>hm k hk.1 hlt)⟩
theorem qW (h:N d e w base ok v xs) (hb:Below w.heap.size w w1):N d e w1 base ok v xs:=Zn h (fun k _ hk=>hb.block k hk)
theorem uY (h:N d e w base ok v xs) (o:Obj):N d e (w.alloc o) base ok v xs:=qW h (bz (Below.refl _ _) o)
theorem yu (h:N d e w base ok v xs):N d e w.drew base ok v xs:=qW h (wJ (Below.refl _ _))
theorem vH (h:N d e w base ok v xs) (m:Nat):N d e (w.drewN m) base ok v xs:=qW h (aI (Below.refl _ _) m)
theorem F7 (h:N d e w base ok v xs):∃ A c,v = .slice A xs.length c:=by
 obtain ⟨_,rows,hl,hR,_⟩:=h
 obtain ⟨A,c,he⟩:=eF hR
 exact ⟨A,c,by rw [he,hl]⟩
theorem Oe {n c:Nat} (h:N d e w base ok (.slice A n c) xs):n=xs.length∧n≤c∧d.C w A xs.length xs:=by
 obtain ⟨_,rows,hl,hR,hf⟩:=h
 obtain ⟨hn,hc,hC⟩:=aW hR
 refine ⟨by omega,hc,?_⟩
 rw [hl] at hC
 refine ⟨rfl,hC.2.1,fun hp=>?_⟩
 obtain ⟨ad,he,hcell⟩:=hC.2.2 hp
 refine ⟨ad,he,fun j p hj=>?_⟩
 have hjl:j<rows.length:=by have:=(List.getElem?_eq_some_iff.1 hj).1;omega
 obtain ⟨c',hcl,hK,hcc⟩:=hcell j _ (List.getElem?_eq_getElem hjl)
 have hk:=E5 (hf j p _ hj (List.getElem?_eq_getElem hjl))
 refine ⟨c',hcl,?_,hcc⟩
 rw [show c'=rows[j] from hK.1]
 exact hk
theorem N_F {n:Nat} (h:N d e w base ok (.slice A n cc) xs):F d w ok A n xs:=fun W' hW=>by
 have h2:=Oe (Zn h hW)
 rw [h2.1]
 exact h2.2.2
end
end Kd
end Go.Proofs.Yw.PrintWords
end
section
namespace Go.Proofs.Yw.PrintWords
open Go.RowKit
namespace Kd
section
variable {α:Type} {d:Kd α} {e base n cap g:Nat} {ok ok' okp:Nat→Prop} {w w1 W:World} {v v1:Value} {xs ys:List α}
theorem ZC {rows:List (List Value)} (hR:(raw d.sz).R e w1 base (fun k=>k=W.heap.size) v1 rows) (hg:W.grownBy w1 none) (hat:∃ b,v1.ownBlock=some b∧W.heap.size≤b) (hl:rows.length=xs.length) (hf:∀ (j:Nat) (x:α) (c:List Value),xs[j]? = some x→rows[j]? = some c→FK d W okp x c)
  (hok:∀ k,okp k→ok k) (hfresh:ok W.heap.size):N d e w1 base ok v1 xs:=by
 obtain ⟨b,hb,hle⟩:=hat
 refine ⟨fun k hk=>by rw [hR.1 k hk];exact hfresh,rows,hl,SA hR,fun j x c hx hc=>?_⟩
 refine aaE (TB (X0 (hf j x c hx hc)) (fun k hk hlt=>hg.block k hlt (by simp))) (fun k hk=>⟨hok k hk.1,fun he=>?_⟩)
 rw [hb] at he
 injection he with he
 have:=hk.2
 omega
end
section
variable {P:Program} {ops:Array Oper} {rest:List Oper} {o:Oper} {a:Act} {Q:Exit→Act→World→Prop} {Kc:Act→World→Prop} {α:Type}
theorem aeL (d:Kd α) {w0 W:World} (base e:Nat) (hgd:o.guard=none) {N':Tmp} (_hd:o.dst=some N') {xs:List α} {inner:List Value} {ok okp:Nat→Prop}
  (hrun:(execOp a.eval o).run P W = .ok (.value (.slice (some ⟨W.heap.size,0,none⟩) xs.length xs.length)) (W.alloc (.cells inner.toArray e)))
  (hrep:jm (FK d W okp) d.sz xs inner) (hok:∀ k,okp k→ok k) (hfresh:ok W.heap.size) (HB:Below base w0 W) (hbase:base≤W.heap.size) (hm:xs.length≤9223372036854775807)
  (h:∀ v1 w1,N d e w1 base ok v1 xs→Below base w0 w1→W.grownBy w1 none→(∃ b,v1.ownBlock=some b∧W.heap.size≤b)→wpList P ops Q rest (a.put o.dst v1) w1) :
  wpList P ops Q (o :: rest) a W:=by
 refine yx (raw d.sz) base e hgd _hd (xs:=chunks d.sz xs.length inner) (inner:=inner) (ok:=fun k=>k=W.heap.size) (okp:=fun _=>False) (by rw [iL];exact hrun) (FU hrep (fun y c hk=>⟨d.K_len (E5 hk),d.K_one (E5 hk)⟩)) (fun _ hk=>hk.elim) rfl HB hbase (by rw [iL];exact hm) ?_
 intro v1 w1 hr hb hg hat
 exact h v1 w1 (ZC hr hg hat (iL _ _ _) (fun j y c hy hc=>by rw [wI hc];exact hrep.2 j y hy) hok hfresh) hb hg hat
theorem Qb (d:Kd α) {w0 W:World} (base e:Nat) (hw:Region.wanted o (yielded ops a.tmps)=true) {N':Tmp} (_hd:o.dst=some N') {xs:List α} {inner:List Value} {ok okp:Nat→Prop}
  (hrun:(execOp a.eval o).run P W = .ok (.value (.slice (some ⟨W.heap.size,0,none⟩) xs.length xs.length)) (W.alloc (.cells inner.toArray e)))
  (hrep:jm (FK d W okp) d.sz xs inner) (hok:∀ k,okp k→ok k) (hfresh:ok W.heap.size) (HB:Below base w0 W) (hbase:base≤W.heap.size) (hm:xs.length≤9223372036854775807)
  (h:∀ v1 w1,N d e w1 base ok v1 xs→Below base w0 w1→W.grownBy w1 none→(∃ b,v1.ownBlock=some b∧W.heap.size≤b)→Kc (a.put o.dst v1) w1) :
  if Region.wanted o (yielded ops a.tmps)=true then Oper.wp P o a W Kc Q else Kc (a.put o.dst undef) W:=by
 refine FH (raw d.sz) base e hw _hd (xs:=chunks d.sz xs.length inner) (inner:=inner) (ok:=fun k=>k=W.heap.size) (okp:=fun _=>False) (by rw [iL];exact hrun) (FU hrep (fun y c hk=>⟨d.K_len (E5 hk),d.K_one (E5 hk)⟩)) (fun _ hk=>hk.elim) rfl HB hbase (by rw [iL];exact hm) ?_
 intro v1 w1 hr hb hg hat
 exact h v1 w1 (ZC hr hg hat (iL _ _ _) (fun j y c hy hc=>by rw [wI hc];exact hrep.2 j y hy) hok hfresh) hb hg hat
end
end Kd
end Go.Proofs.Yw.PrintWords
end
section
namespace Go.Proofs.Yw.PrintMore
open Go.RowKit Go.Proofs.Yw.PrintWords
namespace Kd
open Go.Proofs.Yw.PrintWords.Kd
end Kd
namespace Kd
open Go.Proofs.Yw.PrintWords.Kd
section
variable {α:Type} {d:Kd α} {e base g N:Nat} {ok:Nat→Prop} {W w1:World} {u v:Value} {xs:List α}
theorem akI (hu:d.R e W base ok u xs) (hb:Below W.heap.size W w1):d.R e w1 base (fun k=>ok k∧k<W.heap.size) u xs :=
 dL (sH (um hu) hb) (fun _ h=>⟨h.1,h.2.2.1⟩)
theorem ZF (h:d.R e w1 base (fun k=>ok k∧k<N) u xs) (hbase:∀ k,v.ownBlock=some k→N≤k):d.R e w1 base (fun k=>(ok k∧some k≠v.ownBlock)∧k<N) u xs :=
 dL h (fun k hk=>⟨⟨hk.1,fun e=>Nat.lt_irrefl _ (Nat.lt_of_lt_of_le hk.2 (hbase k e.symm))⟩,hk.2⟩)
end
end Kd
theorem gy (k k':IntKind) (x y:Int):Builtin.max2 (.int k x) (.int k' y)=pure (.int k (if x<y then y else x)):=by simp only [Builtin.max2,gt_iff_lt]
theorem gz (k k':IntKind) (x y:Int):Builtin.min2 (.int k x) (.int k' y)=pure (.int k (if y<x then y else x)):=by simp only [Builtin.min2]
theorem ja (ats:Array TypeId) (ty:TypeId) (a b:Value):Builtin.max_ ats ty #[a,b]=(Builtin.max2 a b >>= fun s=>pure s):=by simp only [Builtin.max_,List.foldlM_cons,List.foldlM_nil]
theorem jc (ats:Array TypeId) (ty:TypeId) (a b:Value):Builtin.min_ ats ty #[a,b]=(Builtin.min2 a b >>= fun s=>pure s):=by simp only [Builtin.min_,List.foldlM_cons,List.foldlM_nil]
theorem fC (ats:Array TypeId) (ty:TypeId) (a b c:Value):Builtin.max_ ats ty #[a,b,c]=(Builtin.max2 a b >>= fun s=>Builtin.max2 s c >>= fun s=>pure s):=by simp only [Builtin.max_,List.foldlM_cons,List.foldlM_nil]
theorem fD (ats:Array TypeId) (ty:TypeId) (a b c:Value):Builtin.min_ ats ty #[a,b,c]=(Builtin.min2 a b >>= fun s=>Builtin.min2 s c >>= fun s=>pure s):=by simp only [Builtin.min_,List.foldlM_cons,List.foldlM_nil]
theorem gQ (ats:Array TypeId) (ty:TypeId) (a b c d:Value):Builtin.max_ ats ty #[a,b,c,d]=(Builtin.max2 a b >>= fun s=>Builtin.max2 s c >>= fun s=>Builtin.max2 s d >>= fun s=>pure s):=by simp only [Builtin.max_,List.foldlM_cons,List.foldlM_nil]
theorem gK (ats:Array TypeId) (ty:TypeId) (a b c d:Value):Builtin.min_ ats ty #[a,b,c,d]=(Builtin.min2 a b >>= fun s=>Builtin.min2 s c >>= fun s=>Builtin.min2 s d >>= fun s=>pure s):=by simp only [Builtin.min_,List.foldlM_cons,List.foldlM_nil]
end Go.Proofs.Yw.PrintMore
namespace Go.Proofs.Yw.PrintWords
open Go.RowKit
section
variable {P:Program} {ops:Array Oper} {rest:List Oper} {o:Oper} {a:Act} {Q:Exit→Act→World→Prop} {W:World}
theorem af {f:FuncId} {as_:Array Operand} {ts:Array TypeId} (_ho:o.op = .call { callee := .value (.func f),args:=as_,argTypes:=ts }) (h:wpList P ops Q (o :: rest) a W):wpList P ops Q (o :: rest) a W:=h
theorem fG {b:Builtin} {xs:Array Operand} {ts:Array TypeId} (_ho:o.op = .call { callee := .builtin b,args:=xs,argTypes:=ts }) (h:wpList P ops Q (o :: rest) a W):wpList P ops Q (o :: rest) a W:=h
end
def mx (a b:Int):Int:=if a<b then b else a
def mn (a b:Int):Int:=if b<a then b else a
def shl (k:IntKind) (x y:Int):Int:=k.wrap (x * 2 ^ min y.toNat k.bits)
def shr (k:IntKind) (x y:Int):Int:=x / 2 ^ min y.toNat k.bits
theorem iR {k:IntKind} {x y j:Int} (h:shl k x y=j) (hy:y≤k.bits):k.wrap (x * 2 ^ y.toNat)=j:=by rw [← h];unfold shl;rw [Nat.min_eq_left (by omega)]
theorem jT {k:IntKind} {x y j:Int} (h:shr k x y=j) (hy:y≤k.bits):x / 2 ^ y.toNat=j:=by rw [← h];unfold shr;rw [Nat.min_eq_left (by omega)]
theorem iT (w:World) (n:Nat):w.drewN n=w.drewN n:=rfl
namespace Kd
section
variable {α:Type} {d:Kd α} {e base b b' g N:Nat} {ok ok1:Nat→Prop} {W W2 w1:World} {u v:Value} {xs ys:List α} {S:Nat→Prop}
theorem Zp (hE:d.E = []) (h:d.R e W base ok1 v xs) (hok:∀ k,v.ownBlock=some k→ok k):d.R e W base ok v xs:=dL (jY hE h) (fun k hk=>hok k hk.symm)
theorem Df (h:d.R e W base ok v xs) (hk:Kept W W2 S) (hne:∀ k,ok k → ¬ S k):d.R e W2 base (fun k=>ok k∧(¬ S k∧k<W.heap.size)) v xs :=
 afr (dL (um h) (fun k hk=>⟨hk.1,hne k hk.1,hk.2.2.1⟩)) hk (fun _ hk=>hk.2.1)
end
end Kd
end Go.Proofs.Yw.PrintWords
namespace Go.Proofs.Yw.PrintWords
open Go.RowKit
namespace Kd
def V {α:Type} (d:Kd α) (_e:Nat) (W:World) (_base:Nat) (ok:Nat→Prop) (v:Value) (xs:List α):Prop := ∃ A c,v = .slice A xs.length c∧xs.length≤c∧F d W ok A xs.length xs
section
variable {α β:Type} {d:Kd α} {e base base' n m c g N' lo hi:Nat} {ok ok' S:Nat→Prop} {w W w1:World} {A:Option Addr} {ad:Addr} {u v v1:Value} {xs:List α}
theorem Ba (h:V d e W base ok v xs) (hF:∀ A,F d W ok A xs.length xs→F d w1 ok' A xs.length xs):V d e w1 base' ok' v xs:=by
 obtain ⟨A,c,hv,hl,hf⟩:=h
 exact ⟨A,c,hv,hl,hF A hf⟩
theorem Ih (hl:xs.length≤c) (hf:F d W ok A xs.length xs):V d e W base ok (.slice A xs.length c) xs:=⟨A,c,rfl,hl,hf⟩
theorem dG (h:V d e W base ok v xs):∃ A c,v = .slice A xs.length c:=by
 obtain ⟨A,c,hv,_⟩:=h
 exact ⟨A,c,hv⟩
theorem WQ (h:V d e W base ok (.slice A n c) xs):n=xs.length∧n≤c∧F d W ok A xs.length xs:=by
 obtain ⟨A',c',hv,hl,hf⟩:=h
 injection hv with ha hn hc
 subst ha;subst hc
 exact ⟨hn,by rw [hn];exact hl,hf⟩
theorem aX (h:V d e W base ok (.slice A n c) xs):n=xs.length∧n≤c∧d.C W A xs.length xs:=⟨(WQ h).1,(WQ h).2.1,aeq (WQ h).2.2⟩
theorem V_F (h:V d e W base ok (.slice A n c) xs):F d W ok A n xs:=by
 obtain ⟨hn,_,hf⟩:=WQ h
 rw [hn]
 exact hf
theorem zg (d:Kd α) (e:Nat) (W:World) (base:Nat) (ok:Nat→Prop):V d e W base ok (.slice none 0 0) []:=⟨none,0,rfl,Nat.le_refl _,akK d W ok⟩
theorem R_V (h:d.R e W base ok v xs):V d e W base' ok v xs:=by
 obtain ⟨A,c,rfl⟩:=eF h
 exact ⟨A,c,rfl,(aW h).2.1,R_F h⟩
theorem N_V (h:N d e W base ok v xs):V d e W base' ok v xs:=by
 obtain ⟨A,c,rfl⟩:=F7 h
 exact ⟨A,c,rfl,(Oe h).2.1,N_F h⟩
theorem bD (h:V d e W base ok v xs) (hok:∀ k,ok k→ok' k):V d e W base ok' v xs:=Ba h (fun _ hf=>Iu hf hok)
theorem aaL (h:V d e W base ok v xs):V d e W base (fun k=>ok k∧k<W.heap.size) v xs:=Ba h (fun _ hf=>SH hf)
theorem df (h:V d e W base ok v xs) (_:base'≤base):V d e W base' ok v xs:=h
theorem aaD (h:V d e W base ok v xs) (hb:Below W.heap.size W w1):V d e w1 base ok v xs:=Ba h (fun _ hf=>nX hf hb)
theorem iV (h:V d e W base ok v xs) (o:Obj):V d e (W.alloc o) base ok v xs:=Ba h (fun _ hf=>aay hf o)
theorem iQ (h:V d e W base ok v xs):V d e W.drew base ok v xs:=Ba h (fun _ hf=>afo hf)
theorem iW (h:V d e W base ok v xs) (m:Nat):V d e (W.drewN m) base ok v xs:=Ba h (fun _ hf=>aaw hf m)
theorem Zu (h:V d e W base ok v xs) (hk:Kept W w1 S) (hok:∀ k,ok k → ¬ S k):V d e w1 base ok v xs:=Ba h (fun _ hf=>aey hf hk hok)
theorem aaT (h:V d e W base (fun k=>ok k∧some k≠u.ownBlock) v xs) (hg:W.grownBy w1 u.ownBlock) (hat:v1.ownBlock=u.ownBlock ∨ ∃ b,v1.ownBlock=some b∧W.heap.size≤b):V d e w1 base (fun k=>ok k∧some k≠v1.ownBlock) v xs:=Ba h (fun _ hf=>abp hf hg hat)
theorem iO (h:V d e W base (fun k=>ok k∧some k≠v.ownBlock) u xs) (hg:W.grownBy w1 v.ownBlock) (hat:v1.ownBlock=v.ownBlock ∨ ∃ b,v1.ownBlock=some b∧W.heap.size≤b):V d e w1 base (fun k=>ok k∧some k≠v1.ownBlock) u xs:=aaT h hg hat
theorem nY (h:V d e W base ok v xs):V d e W base (fun k=>ok k∧some k≠(Value.slice none 0 0).ownBlock) v xs:=Ba h (fun _ hf=>KD hf)
theorem iP (h:V d e W base ok v xs) (hbase:∀ k,u.ownBlock=some k→W.heap.size≤k) (hb:Below W.heap.size W w1):V d e w1 base (fun k=>ok k∧some k≠u.ownBlock) v xs:=Ba h (fun _ hf=>XE hf hbase hb)
theorem ak2 (h:V d e W base ok v xs) (hb:Below W.heap.size W w1):V d e w1 base (fun k=>ok k∧k<W.heap.size) v xs:=Ba h (fun _ hf=>ak0 hf hb)
theorem Zr (h:V d e w1 base (fun k=>ok k∧k<N') v xs) (hbase:∀ k,u.ownBlock=some k→N'≤k):V d e w1 base (fun k=>(ok k∧some k≠u.ownBlock)∧k<N') v xs:=Ba h (fun _ hf=>afp hf hbase)
theorem TF (h:V d e W base ok v xs) (hk:Kept W w1 S) (hne:∀ k,ok k → ¬ S k):V d e w1 base (fun k=>ok k∧(¬ S k∧k<W.heap.size)) v xs :=
 Zu (bD (aaL h) (fun k hk=>⟨hk.1,hne k hk.1,hk.2⟩)) hk (fun _ hk=>hk.2.1)
theorem akG (h:V d e W base ok (.slice (some ad) n c) xs) (z:α) (i:Int) (h0:0≤i) (h1:i<n) :
  ∃ cs,cs.length=d.sz∧FK d W ok (xs.getD i.toNat z) cs ∧ ∀ j u,cs[j]? = some u→W.cell? (ad.add (i.toNat * d.sz+j))=some u:=by
 obtain ⟨ad',cs,he,hcl,hK,hcc,_⟩:=akO (V_F h) z i h0 h1
 injection he with he
 subst he
 exact ⟨cs,hcl,hK,hcc⟩
theorem Jl (h:F d W ok A xs.length xs) (hm:m≤xs.length):F d W ok A (xs.take m).length (xs.take m):=afn h (fun _ hC=>Zo hC hm)
theorem akx (h:F d W ok A xs.length xs) (hm:m≤xs.length) (hc:xs.length≤c):F d W ok (if c=m then A else A.map (·.add (m * d.sz))) (xs.drop m).length (xs.drop m):=afn h (fun _ hC=>Sm hC hm hc)
theorem Gf {l:List α} {cs:List Value} (h:FK (Kd.slice e d) W ok l cs):∃ A c,cs = [.slice A l.length c]∧l.length≤c∧F d W ok A l.length l:=by
 obtain ⟨A,c,rfl,hl,_⟩:=E5 h
 refine ⟨A,c,rfl,hl,fun W' hW=>?_⟩
 obtain ⟨A',c',he,_,g'⟩:=h W' hW
 injection he with he _
 injection he with ha _ _
 rw [ha]
 exact g'
theorem pJ {l:List α} (hl:l.length≤c) (hf:F d W ok A l.length l):FK (Kd.slice e d) W ok l [.slice A l.length c]:=fun W' hW=>⟨A,c,rfl,hl,hf W' hW⟩
theorem CQ (h:V d e W base ok (.slice A n c) xs) (hok:∀ k,ok k → ¬ S k):∀ W',Kept W W' S→d.C W' A n xs:=fun W' hk=>by
 have h2:=aX (Zu h hk hok)
 rw [h2.1]
 exact h2.2.2
theorem nM {M:Nat→Prop} (h:d.R e w1 W.heap.size ok v xs) (hle:w.heap.size≤W.heap.size) (hM:∀ k,w.heap.size≤k→M k):d.R e w1 W.heap.size (fun k=>M k∧ok k) v xs:=dL (um h) (fun k hk=>⟨hM k (Nat.le_trans hle hk.2.1),hk.1⟩)
end
end Kd
end Go.Proofs.Yw.PrintWords
end
section
namespace Go.Proofs.Yy.Z
open Go.RowKit Go.Proofs.Yw.PrintWords Go.Proofs.Yw.PrintLast Go.Proofs.Yw.PrintMore
section
variable {p:Prop} {α β:Type} {d:Kd α} {e base n g i:Nat} {ok:Nat→Prop} {w w0 W W1:World} {A:Option Addr} {u v:Value} {xs:List α} {o:Obj} {t:TypeId} {cs:Array Value}
theorem z1 (h:p:=by first|rfl|(simp;done)|(simp [*];done)):p:=h
theorem z2 (h:p:=by first|rfl|(simp [ak,aj] <;> rfl)|(simp [*, ak,aj] <;> rfl)):p:=h
theorem z3 (h:p:=by first|rfl|(simp [ak,aj] <;> rfl)):p:=h
theorem z5 (h:p:=by first|omega|exact Nat.le_refl _):p:=h
theorem zD [Decidable p] (h:decide p=true:=by first|(with_reducible assumption)|assumption):p:=of_decide_eq_true h
theorem z4 (h:p:=by repeat (first|exact dX.refl _|apply dX.step)):p:=h
theorem zN (h:p:=by first|exact Kd.Gq _ _ _ _ _|exact Kd.Xj _ _ _ _ _|exact Kd.zg _ _ _ _ _|exact Kd.XJ _ _ _ _ _|exact Kd.XN _ _ _ _ _):p:=h
theorem zL:ae (n≤n):=⟨Nat.le_refl n⟩
theorem zH {a b:Nat} (h:ae (a+1≤b)):ae (a≤b):=⟨Nat.le_of_succ_le h.out⟩
theorem zB (h:ae (Below base w w0)) (k:Below base w w0→Below base w W:=by (intro h_;repeat (first|(with_reducible first|exact h_|apply bz|apply aI|apply aZ|refine bu ?_ (ae.out (by assumption)))|exact h_))):Below base w W:=k h.out
theorem zS (h:ae (Below w.heap.size w w0)) (k:Below w.heap.size w w0→Below w.heap.size w W:=by (intro h_;repeat (first|(with_reducible first|exact h_|apply bz|apply aI|apply aZ|refine bu ?_ (ae.out (by assumption)))|exact h_))):w.heap.size≤W.heap.size:=pM (k h.out)
theorem zBs (h:ae (Below w.heap.size w w0)) (hb:Below W.heap.size W W1) (k:Below w.heap.size w w0→Below w.heap.size w W:=by (intro h_;repeat (first|(with_reducible first|exact h_|apply bz|apply aI|apply aZ|refine bu ?_ (ae.out (by assumption)))|exact h_))):ae (Below w.heap.size w W1):=⟨gq (k h.out) hb⟩
theorem zR (h:ae (d.R e w base ok v xs)) (k:d.R e w base ok v xs→d.R e W base ok v xs:=by (intro h_;(with_reducible repeat (first|apply Kd.dE|apply Kd.dn|apply Kd.dY));exact h_)):d.R e W base ok v xs:=k h.out
theorem zV (h:ae (d.V e w base ok v xs)) (k:d.V e w base ok v xs→d.V e W base ok v xs:=by (intro h_;(with_reducible repeat (first|apply Kd.iV|apply Kd.iW|apply Kd.iQ));exact h_)):d.V e W base ok v xs:=k h.out
theorem zRb (h:ae (d.R e w base ok v xs)) (hb:Below W.heap.size W W1) (k:d.R e w base ok v xs→d.R e W base ok v xs:=by (intro h_;(with_reducible repeat (first|apply Kd.dE|apply Kd.dn|apply Kd.dY));exact h_)):ae (d.R e W1 base ok v xs):=⟨Kd.sH (k h.out) hb⟩
theorem zVb (h:ae (d.V e w base ok v xs)) (hb:Below W.heap.size W W1) (k:d.V e w base ok v xs→d.V e W base ok v xs:=by (intro h_;(with_reducible repeat (first|apply Kd.iV|apply Kd.iW|apply Kd.iQ));exact h_)):ae (d.V e W1 base ok v xs):=⟨Kd.aaD (k h.out) hb⟩
theorem zC (h:d.C w A n xs) (k:d.C w A n xs→d.C W A n xs:=by (intro h_;repeat (first|(with_reducible exact h_)|(with_reducible refine Kd.ku ?_ _)|(with_reducible refine Kd.jZ ?_ _)|(with_reducible refine Kd.nC ?_)|exact h_))):d.C W A n xs:=k h
theorem zK (h:ae (w.heap[g]? = some o)) (k:w.heap[g]? = some o→W.heap[g]? = some o:=by (intro h_;repeat (first|with_reducible exact h_|with_reducible refine iY ?_ _|with_reducible refine dS ?_|with_reducible refine jR ?_ _|refine gG ?_ (ae.out (by assumption)) _|exact h_))):W.heap[g]? = some o:=k h.out
theorem zKb (h:ae (w.heap[g]? = some o)) (hb:Below W.heap.size W W1) (k:w.heap[g]? = some o→W.heap[g]? = some o:=by (intro h_;repeat (first|with_reducible exact h_|with_reducible refine iY ?_ _|with_reducible refine dS ?_|with_reducible refine jR ?_ _|refine gG ?_ (ae.out (by assumption)) _|exact h_))):ae (W1.heap[g]? = some o):=⟨bU (k h.out) hb⟩
theorem zG (hg:g=W.heap.size) (h:ae (Below w.heap.size w w0)) (k:Below w.heap.size w w0→Below w.heap.size w W:=by (intro h_;repeat (first|(with_reducible first|exact h_|apply bz|apply aI|apply aZ|refine bu ?_ (ae.out (by assumption)))|exact h_))):ae (w.heap.size≤g):=⟨by rw [hg];exact pM (k h.out)⟩
theorem zNl {g':Nat} (hg:g'=W.heap.size) (h:ae (w.heap[g]? = some o)) (k:w.heap[g]? = some o→W.heap[g]? = some o:=by (intro h_;repeat (first|with_reducible exact h_|with_reducible refine iY ?_ _|with_reducible refine dS ?_|with_reducible refine jR ?_ _|refine gG ?_ (ae.out (by assumption)) _|exact h_))):ae (g≠g'):=⟨by rw [hg];exact Nat.ne_of_lt (uO (k h.out))⟩
theorem zNg {g':Nat} (hg:g'=W.heap.size) (h:ae (w.heap[g]? = some o)) (k:w.heap[g]? = some o→W.heap[g]? = some o:=by (intro h_;repeat (first|with_reducible exact h_|with_reducible refine iY ?_ _|with_reducible refine dS ?_|with_reducible refine jR ?_ _|refine gG ?_ (ae.out (by assumption)) _|exact h_))):ae (g'≠g):=⟨by rw [hg];exact Nat.ne_of_gt (uO (k h.out))⟩
theorem zl (h:ae (w.heap[g]? = some (.cells cs t (0,0)))) (i:Nat) (k:cs[i]? = some v:=by exact rfl):w.cell? ⟨g,i,none⟩=some v:=(ag h.out i).trans k
theorem zA {q r:Prop} [Decidable p] [Decidable q] (f:p→q→r) (hp:decide p=true:=by first|(with_reducible assumption)|assumption) (hq:decide q=true:=by first|(with_reducible assumption)|assumption):(p=True)∧(q=True)∧r:=⟨eq_true (of_decide_eq_true hp),eq_true (of_decide_eq_true hq),f (of_decide_eq_true hp) (of_decide_eq_true hq)⟩
theorem zY {x y:β} (h:x=y):ae (y=x):=⟨h.symm⟩
end
section
variable {α β:Type} {P Q:Prop} [Decidable P] {a b:α} {r:Option β} {x y:Option β} {s:β}
theorem zz {q:Prop} (h:ae (x=some s)) (k:x=none):q:=nomatch k.symm.trans h.out
theorem zi (h:ae ((if P then x else none)=some s)):P∧ae (x=some s):=by
 have k:=h.out
 by_cases c:P
 ·rw [if_pos c] at k;exact ⟨c,⟨k⟩⟩
 ·rw [if_neg c] at k;exact nomatch k
theorem zj (h:ae ((if P then none else x)=some s)):¬ P∧ae (x=some s):=by
 have k:=h.out
 by_cases c:P
 ·rw [if_pos c] at k;exact nomatch k
 ·rw [if_neg c] at k;exact ⟨c,⟨k⟩⟩
theorem zs (h:ae ((if P then x else y)=r)):P∧ae (x=r) ∨ ¬ P∧ae (y=r):=by
 have k:=h.out
 by_cases c:P
 ·rw [if_pos c] at k;exact .inl ⟨c,⟨k⟩⟩
 ·rw [if_neg c] at k;exact .inr ⟨c,⟨k⟩⟩
theorem zid (h:ae ((if P then x else none)=some s)):decide P=true∧ae (x=some s):=⟨decide_eq_true (zi h).1,(zi h).2⟩
theorem zit (h:ae ((if P then x else none)=some s)):(P=True)∧decide P=true∧ae (x=some s):=⟨eq_true (zi h).1,decide_eq_true (zi h).1,(zi h).2⟩
theorem zil (h:ae ((if P then x else none)=some s)):ae P∧ae (x=some s):=⟨⟨(zi h).1⟩,(zi h).2⟩
theorem zjd (h:ae ((if P then none else x)=some s)):decide P=false∧ae (x=some s):=⟨decide_eq_false (zj h).1,(zj h).2⟩
theorem zsd (h:ae ((if P then x else y)=r)):decide P=true∧ae (x=r)∨decide P=false∧ae (y=r):=(zs h).imp (fun k=>⟨decide_eq_true k.1,k.2⟩) (fun k=>⟨decide_eq_false k.1,k.2⟩)
theorem zb1 (h:ae ((if P then x else y)=r)) (k:P:=by first|rfl|trivial|simp):ae (x=r):=⟨by have k':=h.out;rw [if_pos k] at k';exact k'⟩
theorem zb0 (h:ae ((if P then x else y)=r)) (k:¬ P:=by first|decide|simp):ae (y=r):=⟨by have k':=h.out;rw [if_neg k] at k';exact k'⟩
theorem zo {f:α→Option β} {o:Option α} (h:ae (o.bind f=some s)):∃ t,ae (o=some t)∧ae (f t=some s):=by obtain ⟨t,h1,h2⟩:=Option.bind_eq_some_iff.mp h.out;exact ⟨t,⟨h1⟩,⟨h2⟩⟩
end
section
variable {β:Type} {a b:Int} {r x y:Option β} {s:β}
theorem awT [Decidable (a ≥ b)] (h:ae ((if a ≥ b then none else x)=some s)):decide (b≤a)=false∧ae (x=some s):=⟨decide_eq_false (zj h).1,(zj h).2⟩
theorem Em [Decidable (a > b)] (h:ae ((if a > b then x else y)=r)):decide (b<a)=true∧ae (x=r)∨decide (b<a)=false∧ae (y=r):=(zs h).imp (fun k=>⟨decide_eq_true k.1,k.2⟩) (fun k=>⟨decide_eq_false k.1,k.2⟩)
theorem zf [Decidable (a ≥ b)] (h:ae ((if a ≥ b then x else y)=r)):decide (b≤a)=true∧ae (x=r)∨decide (b≤a)=false∧ae (y=r):=(zs h).imp (fun k=>⟨decide_eq_true k.1,k.2⟩) (fun k=>⟨decide_eq_false k.1,k.2⟩)
end
section
variable {P:Program} {ops:Array Oper} {Q:Exit→Act→World→Prop} {md:Region.Mode} {S:World→Prop} {ds:List Nat} {rest:List Oper} {oi:Oper} {a a':Act} {w:World}
theorem zc (N:Option Tmp) {f:FuncId} {fn:Func} (hf:P.funcs[f]? = some fn) (args:Array Value) {os:Array Operand} {ts:Array TypeId} {q:Ending→World→Prop} (hc:Calls P f args w q)
  (h:∀ e w',q e w' → ∃ v,e = .returned v∧wpList P ops Q rest (a.put N v) w')
  (hd : oi.dst = N := by exact rfl) (hg : oi.guard = none := by exact rfl) (hname : (fn.name == "runtime.NumGoroutine") = false := by kernel_rfl) (hb : fn.body.isSome = true := by exact rfl)
  (hop:oi.op = .call { callee := .value (.func f),args:=os,argTypes:=ts }:=by exact rfl)
  (hargs:os.map a.eval=args:=by (try simp only [List.map_toArray,List.map_cons,List.map_nil]);first|done|rfl|(simp only [List.length_drop,List.length_take];rfl)):wpList P ops Q (oi :: rest) a w :=
 lg N hd hg hf hname hb args hop hargs (hc.mono h)
theorem zp {T:Bool × List (List Nat × List Nat)} (hT:ae (rW md ops=T)) (i:Nat) (N:Option Tmp) {v:Value} {fuel:Nat} {l:Array Bool}
  (h:bT P md ops Q S ds fuel (l.setIfInBounds i true) a' w)
  (hi:ops[i]? = some oi:=by exact rfl) (hN:oi.dst=N:=by exact rfl) (hc:akT T l.toList (l.setIfInBounds i true).toList i=true:=by kernel_rfl)
  (hQ:∀ c a w,Q (.panic c) (a.put oi.dst v) w→Q (.panic c) a w:=by exact (fun _ _ _ h=>h)) (hy:Yields P ops oi v a:=by (refine Or.inl ⟨by rfl,?_⟩;intro w';go_simp;with_reducible rfl)) (ha:a.put N v=a':=by (simp only [Act.put,List.setIfInBounds_toArray,List.set_cons_zero,List.set_cons_succ,bI,dV];rfl)):bT P md ops Q S ds (fuel+1) l a w :=
 tJ (l.setIfInBounds i true) hi hN (CO hT.out hc) hQ hy ha h
theorem zt {T:Bool × List (List Nat × List Nat)} {B:List Nat} (hT:ae (rW md ops=T)) (hW:ae (jB T.2 B=true)) (i:Nat) (N:Option Tmp) (hS:S w) {v:Value} {fuel:Nat} {l:Array Bool}
  (h:bT P md ops Q S ds fuel (l.setIfInBounds i true) a' w)
  (hi:ops[i]? = some oi:=by exact rfl) (hN:oi.dst=N:=by exact rfl) (hc:aar T B ds l.toList (l.setIfInBounds i true).toList i=true:=by kernel_rfl)
  (hQ:∀ c a w,Q (.panic c) (a.put oi.dst v) w→Q (.panic c) a w:=by exact (fun _ _ _ h=>h)) (hy:YieldsIf P ops S oi v a:=by (refine Or.inl ⟨by rfl,?_⟩;intro w' hs_;(repeat (obtain ⟨_,hs_⟩:=hs_));go_simp;with_reducible rfl)) (ha:a.put N v=a':=by (simp only [Act.put,List.setIfInBounds_toArray,List.set_cons_zero,List.set_cons_succ,bI,dV];rfl)):bT P md ops Q S ds (fuel+1) l a w :=
 aaU (l.setIfInBounds i true) hi hN (Xu hT.out hW.out hc) hQ hy hS ha h
end
theorem zw {α β:Type} {r:Option β} {f:α→Option β} {o:α} (h:ae ((some o).bind f=r)):∃ y,ae (y=o)∧ae (f y=r):=⟨o,⟨rfl⟩,⟨h.out⟩⟩
theorem Xq {w:World} {g:Nat} {o:Obj} (h:w.heap[g]? = some o) {p:Addr} (hp:g≠p.block) (u:Value):(w.setCell p u).heap[g]? = some o:=(Below.heap_setCell w p u g hp).trans h
theorem zKp {w W:World} {g:Nat} {t:TypeId} {cs cs1 cs2:Array Value} (h:ae (w.heap[g]? = some (.cells cs t (0,0)))) (k:w.heap[g]? = some (.cells cs t (0,0))→W.heap[g]? = some (.cells cs1 t (0,0)):=by (intro h_;repeat (first|with_reducible exact h_|with_reducible refine iY ?_ _|with_reducible refine dS ?_|with_reducible refine jR ?_ _|apply lK|refine Xq ?_ (ae.out (by assumption)) _|exact h_))) (e:cs1=cs2:=by exact rfl):W.heap[g]? = some (.cells cs2 t (0,0)):=e ▸ k h.out
section
variable {α β:Type} [BEq α] [LawfulBEq α] {a b:α} [Decidable (a=b)] {r x y:Option β} {s:β}
theorem zjk (h:ae ((if a=b then none else x)=some s)):(a == b)=false∧(a != b)=true ∧ ¬ a=b∧ae (x=some s):=⟨beq_eq_false_iff_ne.mpr (zj h).1,bne_iff_ne.mpr (zj h).1,(zj h).1,(zj h).2⟩
theorem zsk (h:ae ((if a=b then x else y)=r)):(a == b)=true∧(a != b)=false∧ae (x=r)∨(a == b)=false∧(a != b)=true ∧ ¬ a=b∧ae (y=r):=(zs h).imp (fun k=>⟨beq_iff_eq.mpr k.1,bne_eq_false_iff_eq.mpr k.1,k.2⟩) (fun k=>⟨beq_eq_false_iff_ne.mpr k.1,bne_iff_ne.mpr k.1,k.1,k.2⟩)
end
end Go.Proofs.Yy.Z
end
