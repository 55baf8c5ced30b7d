/- Part 7. -/
import Derived.Lib.TrailingZeros
import Derived.LaidEql
import Derived.Stop.Asserts
import Derived.Lib.LaidTab
import Derived.Test.YtpfnkbnepcchgaaGreatDoorKTOAF
set_option linter.unusedSimpArgs false
set_option linter.unusedVariables false
section
namespace Go.Proofs.Yw.PrintWords
open Go.RowKit
namespace Kd
structure Heap {α:Type} (d:Kd α):Prop where
 K:∀ {w w1:World} {x:α} {cs:List Value},(∀ k,k<w.heap.size→w1.heap[k]? = w.heap[k]?)→d.K w x cs→d.K w1 x cs
theorem Un {w w1:World}(hb:∀ k,k<w.heap.size→w1.heap[k]? = w.heap[k]?){a:Addr}{v:Value}(h:w.cell? a=some v):w1.cell? a=some v:=by
 have:=hb a.block (World.block_lt_of_cell? w a h)
 simpa [World.cell?, this] using h
theorem Heap.C {α:Type}{d:Kd α}(hd:Heap d){w w1:World}{A:Option Addr}{n:Nat}{xs:List α}(hb:∀ k,k<w.heap.size→w1.heap[k]? = w.heap[k]?)(h:d.C w A n xs):d.C w1 A n xs :=
 ⟨h.1,h.2.1,fun hn=>by
  obtain⟨ad,e,hc⟩:=h.2.2 hn;refine⟨ad,e,fun j p hj=>?_⟩;obtain⟨c,hs,hr,hcell⟩:=hc j p hj
  exact⟨c,hs,hd.K hb hr,fun i u hu=>Un hb (hcell i u hu)⟩⟩
theorem pJ (k:IntKind):Heap (Kd.int k):=⟨fun _ h=>h⟩
end Kd
end Go.Proofs.Yw.PrintWords
end
section
namespace Go.Proofs.Yw.PrintWords
open Go.RowKit
def Kept (w W:World)(S:Nat→Prop):Prop:=w.heap.size≤W.heap.size∧∀ i,i<w.heap.size→¬ S i→W.heap[i]? = w.heap[i]?
section
variable {w W W2:World} {S S2 S':Nat→Prop}
theorem Kept.refl (w:World)(S:Nat→Prop):Kept w w S:=⟨Nat.le_refl _,fun _ _ _=>rfl⟩
theorem Kept.of_below (h:Below w.heap.size w W)(S:Nat→Prop):Kept w W S:=⟨h.size,fun i hi _=>h.block i hi⟩
theorem Kept.mono (h:Kept w W S)(hs:∀ k,S k→S' k):Kept w W S':=⟨h.1,fun i hi hn=>h.2 i hi (fun hk=>hn (hs i hk))⟩
theorem Kept.acy (h:Kept w W S)(k:Kept W W2 S2)(hs:∀ k,S2 k→S k∨w.heap.size≤k):Kept w W2 S :=
 ⟨Nat.le_trans h.1 k.1,fun i hi hn=>(k.2 i (Nat.lt_of_lt_of_le hi h.1) (fun h2=>(hs i h2).elim hn (fun h3=>by omega))).trans (h.2 i hi hn)⟩
theorem Kept.yZ {row:Option Nat}(hg:W.grownBy W2 row)(h:Kept w W S)(hr:∀ k,row=some k→S k∨w.heap.size≤k):Kept w W2 S :=
 h.acy (S2:=fun k=>row=some k) ⟨hg.size,fun i hi hn=>hg.block i hi (fun he=>hn he.symm)⟩ hr
theorem Kept.below (h:Kept w W S)(hb:Below W.heap.size W W2):Kept w W2 S:=h.acy (Kept.of_below hb (fun _=>False)) (fun _ hk=>hk.elim)
theorem Kept.alloc (h:Kept w W S)(o:Obj):Kept w (W.alloc o) S:=h.below (bn (Below.refl _ _) o)
theorem Kept.drew (h:Kept w W S):Kept w W.drew S:=h
theorem Kept.drewN (h:Kept w W S)(m:Nat):Kept w (W.drewN m) S:=h
theorem Kept.setCell (h:Kept w W S){p:Addr}(hp:S p.block∨w.heap.size≤p.block)(u:Value):Kept w (W.setCell p u) S :=
 h.acy (S2:=fun k=>k=p.block) ⟨by simp[World.setCell],fun i _ hn=>Below.heap_setCell W p u i hn⟩ (fun k hk=>by rw[hk];exact hp)
theorem BO {g:Nat}{o:Obj}(hb:W.heap[g]? = some o)(hk:Kept W W2 S)(hne:¬ S g):W2.heap[g]? = some o:=(hk.2 g (Bf hb) hne).trans hb
end
namespace Kd
section
variable {α:Type} {d:Kd α} {e base n c:Nat} {ok oki S S2:Nat→Prop} {w w0 W W1 W2:World} {v:Value} {A:Option Addr} {xs:List α} {i:Int} {cs:List Value}
theorem afT (h:d.R e W base ok v xs)(hk:Kept W W2 S)(hne:∀ k,ok k→¬ S k):d.R e W2 base ok v xs:=I9 h (fun k ho hlt=>hk.2 k hlt (hne k ho))
theorem FM (h:∀ W',Kept w W' S→d.C W' A n xs)(hk:Kept w W S):d.C W A n xs:=h W hk
end
end Kd
def AZ (P:World→Prop)(W:World)(ok:Nat→Prop):Prop := ∀ W':World,(∀ k,ok k→k<W.heap.size→W'.heap[k]? = W.heap[k]?)→P W'
theorem abQ {W W1:World}{k:Nat}(h:W1.heap[k]? = W.heap[k]?)(hlt:k<W.heap.size):k<W1.heap.size:=by
 rw[Array.getElem?_eq_getElem hlt]at h;exact (Array.getElem?_eq_some_iff.1 h).1
namespace AZ
variable {P Q:World→Prop} {W W1:World} {ok ok':Nat→Prop}
theorem now (h:AZ P W ok):P W:=h W (fun _ _ _=>rfl)
theorem mono (h:AZ P W ok)(hok:∀ k,ok k→ok' k):AZ P W ok':=fun W' hW=>h W' (fun k hk hlt=>hW k (hok k hk) hlt)
theorem bound (h:AZ P W ok):AZ P W (fun k=>ok k∧k<W.heap.size):=fun W' hW=>h W' (fun k hk hlt=>hW k ⟨hk,hlt⟩ hlt)
theorem step (h:AZ P W ok)(hm:∀ k,ok k→k<W.heap.size→W1.heap[k]? = W.heap[k]?):AZ P W1 ok:=fun W' hW=>h W' (fun k hk hlt=>(hW k hk (abQ (hm k hk hlt) hlt)).trans (hm k hk hlt))
theorem imp (h:AZ P W ok)(hi:∀ W',P W'→Q W'):AZ Q W ok:=fun W' hW=>hi W' (h W' hW)
theorem old (h:AZ P W ok)(hb:Below W.heap.size W W1):AZ P W1 (fun k=>ok k∧k<W.heap.size):=(h.bound).step (fun k _ hlt=>hb.block k hlt)
end AZ
namespace Kd
def F {α:Type}(d:Kd α)(W:World)(ok:Nat→Prop)(A:Option Addr)(n:Nat)(xs:List α):Prop:=AZ (fun W=>d.C W A n xs) W ok
def FK {α:Type}(d:Kd α)(W:World)(ok:Nat→Prop)(x:α)(c:List Value):Prop:=AZ (fun W=>d.K W x c) W ok
section
variable {α β:Type} {d:Kd α} {e base n n' cc g N:Nat} {ok ok' okp S:Nat→Prop} {w w0 w1 W W1:World} {A A':Option Addr} {u v v1:Value} {xs:List α} {xs':List β} {d':Kd β} {x:α} {c:List Value}
theorem afA (h:F d W ok A n xs):d.C W A n xs:=AZ.now h
theorem OD (h:F d W ok A n xs)(hok:∀ k,ok k→ok' k):F d W ok' A n xs:=AZ.mono h hok
theorem UX (h:F d W ok A n xs):F d W (fun k=>ok k∧k<W.heap.size) A n xs:=AZ.bound h
theorem ZX (h:F d W ok A n xs)(hm:∀ k,ok k→k<W.heap.size→W1.heap[k]? = W.heap[k]?):F d W1 ok A n xs:=AZ.step h hm
theorem agj (h:F d W ok A n xs)(hi:∀ W',d.C W' A n xs→d'.C W' A' n' xs'):F d' W ok A' n' xs':=AZ.imp h hi
theorem oK (h:F d W ok A n xs)(hb:Below W.heap.size W W1):F d W1 ok A n xs:=ZX h (fun k _ hlt=>hb.block k hlt)
theorem ach (h:F d W ok A n xs)(o:Obj):F d (W.alloc o) ok A n xs:=oK h (bn (Below.refl _ _) o)
theorem afX (h:F d W ok A n xs):F d W.drew ok A n xs:=oK h (xw (Below.refl _ _))
theorem ab9 (h:F d W ok A n xs)(m:Nat):F d (W.drewN m) ok A n xs:=oK h (aJ (Below.refl _ _) m)
theorem agA (h:F d W ok A n xs)(hk:Kept W W1 S)(hok:∀ k,ok k→¬ S k):F d W1 ok A n xs:=ZX h (fun k ho hlt=>hk.2 k hlt (hok k ho))
theorem alU (d:Kd α)(W:World)(ok:Nat→Prop):F d W ok none ([]:List α).length []:=fun W' _=>al6 d W'
theorem Xz (h:F d W ok A n xs)(hbase:∀ k,v.ownBlock=some k→W.heap.size≤k)(hb:Below W.heap.size W W1):F d W1 (fun k=>ok k∧some k≠v.ownBlock) A n xs :=
 OD (AZ.old h hb) (fun k hk=>⟨hk.1,fun he=>by have:=hbase k he.symm;have:=hk.2;omega⟩)
theorem ab3 (h:F d W (fun k=>ok k∧some k≠v.ownBlock) A n xs)(hg:W.grownBy W1 v.ownBlock)(hat:v1.ownBlock=v.ownBlock∨∃ b,v1.ownBlock=some b∧W.heap.size≤b):F d W1 (fun k=>ok k∧some k≠v1.ownBlock) A n xs:=by
 refine OD (AZ.step (UX h) (fun k hk hlt=>hg.block k hlt hk.1.2)) (fun k hk=>⟨hk.1.1,?_⟩);rcases hat with hat|⟨b,hb,hle⟩
 ·rw[hat];exact hk.1.2
 ·rw[hb]
  intro he
  injection he with he
  have:=hk.2
  omega
theorem Lt (h:F d W ok A n xs):F d W (fun k=>ok k∧some k≠(Value.slice none 0 0).ownBlock) A n xs:=OD h (fun k hk=>⟨hk,by simp[Value.ownBlock]⟩)
theorem C_F (hd:Heap d)(h:d.C w A n xs):F d w (fun k=>k<w.heap.size) A n xs:=fun _ hW=>hd.C (fun k hlt=>hW k hlt hlt) h
theorem R_F (h:d.R e W base ok (.slice A n cc) xs):F d W ok A n xs:=fun W' hW=>by
 have h2:=az (I9 h hW);rw[h2.1];exact h2.2.2
theorem FQ (h:FK d W ok x c):d.K W x c:=AZ.now h
theorem abP (h:FK d W ok x c)(hok:∀ k,ok k→ok' k):FK d W ok' x c:=AZ.mono h hok
theorem YH (h:FK d W ok x c):FK d W (fun k=>ok k∧k<W.heap.size) x c:=AZ.bound h
theorem Uf (h:FK d W ok x c)(hm:∀ k,ok k→k<W.heap.size→W1.heap[k]? = W.heap[k]?):FK d W1 ok x c:=AZ.step h hm
theorem ace (h:d.M W base ok x c):FK d W ok x c:=fun _ hW=>d.K_of_M (aai h hW)
theorem aaO (W:World)(g:Nat):∃ W':World,(∀ k,k≠g→W'.heap[k]? = W.heap[k]?)∧∀ a:Addr,a.block=g→W'.cell? a=none:=by
 refine⟨{ W with heap:=W.heap.setIfInBounds g (.cells #[] 0) },fun k hk=>by simp[Ne.symm hk],fun a ha=>?_⟩;subst ha
 by_cases hlt:a.block<W.heap.size
 ·simp[World.cell?, hlt]
 ·simp[World.cell?, hlt]
end
end Kd
end Go.Proofs.Yw.PrintWords
end
section
namespace Go.Proofs.Yw.PrintWords
open Go.RowKit
namespace Kd
def chunks (sz:Nat)(n:Nat)(inner:List Value):List (List Value):=(List.range n).map fun j=>(inner.drop (j*sz)).take sz
theorem ja (sz n:Nat)(inner:List Value):(chunks sz n inner).length=n:=by simp[chunks]
theorem UD {sz n:Nat}{inner:List Value}{j:Nat}(hj:j<n):(chunks sz n inner)[j]? = some ((inner.drop (j*sz)).take sz):=by simp[chunks,hj]
theorem xx {sz n:Nat}{inner:List Value}{j:Nat}{c:List Value}(h:(chunks sz n inner)[j]? = some c):c=(inner.drop (j*sz)).take sz:=by
 have hj:j<n:=by have:=(List.getElem?_eq_some_iff.1 h).1;rwa [ja]at this
 rw[UD hj]at h
 injection h with h
 exact h.symm
theorem Gw {α:Type}{Rr:α→List Value→Prop}{sz:Nat}{xs:List α}{inner:List Value}(h:jM Rr sz xs inner)(hR:∀ x c,Rr x c→c.length=sz∧∀ u ∈ c,u.oneCell'=true):jM (fun x cs=>cs=x∧cs.length=sz∧∀ u ∈ cs,u.oneCell'=true) sz (chunks sz xs.length inner) inner:=by
 refine⟨by rw[ja];exact h.1,fun j p hj=>?_⟩
 have hjl:j<xs.length:=by have:=(List.getElem?_eq_some_iff.1 hj).1;rwa [ja]at this
 have hp:=xx hj;exact⟨hp.symm,hR _ _ (h.2 j _ (List.getElem?_eq_getElem hjl))⟩
section
variable {α:Type} {d:Kd α} {e base n cc g:Nat} {ok ok' okp S:Nat→Prop} {w w1 W W1:World} {A:Option Addr} {u v v1:Value} {xs:List α} {x:α} {c:List Value}
theorem alX (h:F d W ok A n xs)(z:α)(i:Int)(h0:0≤i)(h1:i<n) :
  ∃ ad c,A=some ad∧c.length=d.sz∧FK d W ok (xs.getD i.toNat z) c∧(∀ j u,c[j]? = some u→W.cell? (ad.add (i.toNat*d.sz+j))=some u)∧(0<d.sz→ok ad.block):=by
 obtain⟨ad,c,rfl,hcl,hK,hcc⟩:=Yk (afA h) z i h0 h1
 have hin:0<d.sz→ok ad.block:=by
  intro hs
  by_cases hk:ok ad.block
  ·exact hk
  ·obtain⟨W',h2,h3⟩:=aaO W ad.block
   obtain⟨ad',c',he,hcl',_,hcc'⟩:=Yk (h W' (fun k hk' _=>h2 k (fun e=>hk (e ▸ hk')))) z i h0 h1
   injection he with he
   subst he;have h4:=hcc' 0 _ (List.getElem?_eq_getElem (by omega));rw[h3 _ (add_block _ _)]at h4
   cases h4
 refine⟨ad,c,rfl,hcl,fun W' hW=>?_,hcc,hin⟩;obtain⟨ad',c',he,hcl',hK',hcc'⟩:=Yk (h W' hW) z i h0 h1
 injection he with he
 subst he
 have hc:c=c':=by
  apply List.ext_getElem?
  intro j
  by_cases hj:j<d.sz
  ·have hb:W'.heap[ad.block]? = W.heap[ad.block]?:=by
    have h5:=hcc j _ (List.getElem?_eq_getElem (by omega));have h6:=World.block_lt_of_cell? W _ h5;rw[add_block]at h6;exact hW _ (hin (by omega)) h6
   have h5:=hcc j _ (List.getElem?_eq_getElem (by omega));have h6:=hcc' j _ (List.getElem?_eq_getElem (by omega))
   have h7:W'.cell? (ad.add (i.toNat*d.sz+j))=W.cell? (ad.add (i.toNat*d.sz+j)):=by simp[World.cell?, add_block,hb]
   rw[h7,h5]at h6;rw[List.getElem?_eq_getElem (by omega),List.getElem?_eq_getElem (by omega)];exact h6
  ·rw[List.getElem?_eq_none (by omega),List.getElem?_eq_none (by omega)]
 rw[hc];exact hK'
def N {α:Type}(d:Kd α)(e:Nat)(w:World)(base:Nat)(ok:Nat→Prop)(v:Value)(xs:List α):Prop :=
 (∀ k,v.ownBlock=some k→ok k)∧∃ rows:List (List Value),rows.length=xs.length∧(raw d.sz).R e w base (fun k=>some k=v.ownBlock) v rows∧∀ (j:Nat) (x:α) (c:List Value),xs[j]? = some x→rows[j]? = some c→FK d w (fun k=>ok k∧some k≠v.ownBlock) x c
theorem SE {sz:Nat}{rows:List (List Value)}(h:(raw sz).R e w base ok v rows):(raw sz).R e w base (fun k=>some k=v.ownBlock) v rows:=jZ rfl h
theorem R_N (h:d.R e w base ok v xs):N d e w base ok v xs:=by
 obtain⟨h0,inner,ho,hr⟩:=h;refine⟨h0,chunks d.sz xs.length inner,ja _ _ _,⟨fun k hk=>hk.symm,inner,by rw[ja];exact ho,Gw hr (fun x c hp=>⟨d.K_len (d.K_of_M hp),d.K_one (d.K_of_M hp)⟩)⟩,fun j x c hx hc=>?_⟩;rw[xx hc];exact ace (hr.2 j x hx)
theorem Yl (d:Kd α)(e:Nat)(w:World)(base:Nat)(ok:Nat→Prop):N d e w base ok (.slice none 0 0) []:=R_N (G8 _ _ _ _ _)
theorem Fg (h:N d e w base ok v xs):∀ k,v.ownBlock=some k→base≤k:=by
 obtain⟨_,rows,_,hR,_⟩:=h;exact fP hR
theorem LK {base':Nat}(h:N d e w base ok v xs)(hb:base'≤base):N d e w base' ok v xs:=by
 obtain⟨h0,rows,hl,hR,hf⟩:=h;exact⟨h0,rows,hl,dZ hR hb,hf⟩
theorem Z9 (h:N d e w base ok v xs)(hm:∀ k,ok k→k<w.heap.size→w1.heap[k]? = w.heap[k]?):N d e w1 base ok v xs:=by
 obtain⟨h0,rows,hl,hR,hf⟩:=h;exact⟨h0,rows,hl,I9 hR (fun k hk hlt=>hm k (h0 k hk.symm) hlt),fun j x c hx hc=>Uf (hf j x c hx hc) (fun k hk hlt=>hm k hk.1 hlt)⟩
theorem rM (h:N d e w base ok v xs)(hb:Below w.heap.size w w1):N d e w1 base ok v xs:=Z9 h (fun k _ hk=>hb.block k hk)
theorem vK (h:N d e w base ok v xs)(o:Obj):N d e (w.alloc o) base ok v xs:=rM h (bn (Below.refl _ _) o)
theorem yO (h:N d e w base ok v xs):N d e w.drew base ok v xs:=rM h (xw (Below.refl _ _))
theorem vV (h:N d e w base ok v xs)(m:Nat):N d e (w.drewN m) base ok v xs:=rM h (aJ (Below.refl _ _) m)
theorem GI (h:N d e w base ok v xs):∃ A c,v=.slice A xs.length c:=by
 obtain⟨_,rows,hl,hR,_⟩:=h;obtain⟨A,c,he⟩:=dU hR;exact⟨A,c,by rw[he,hl]⟩
theorem NV {n c:Nat}(h:N d e w base ok (.slice A n c) xs):n=xs.length∧n≤c∧d.C w A xs.length xs:=by
 obtain⟨_,rows,hl,hR,hf⟩:=h;obtain⟨hn,hc,hC⟩:=az hR;refine⟨by omega,hc,?_⟩;rw[hl]at hC;refine⟨rfl,hC.2.1,fun hp=>?_⟩;obtain⟨ad,he,hcell⟩:=hC.2.2 hp;refine⟨ad,he,fun j p hj=>?_⟩
 have hjl:j<rows.length:=by have:=(List.getElem?_eq_some_iff.1 hj).1;omega
 obtain⟨c',hcl,hK,hcc⟩:=hcell j _ (List.getElem?_eq_getElem hjl);have hk:=FQ (hf j p _ hj (List.getElem?_eq_getElem hjl));refine⟨c',hcl,?_,hcc⟩;rw[show c'=rows[j] from hK.1];exact hk
theorem N_F {n:Nat}(h:N d e w base ok (.slice A n cc) xs):F d w ok A n xs:=fun W' hW=>by
 have h2:=NV (Z9 h hW);rw[h2.1];exact h2.2.2
end
end Kd
end Go.Proofs.Yw.PrintWords
end
section
namespace Go.Proofs.Yw.PrintWords
open Go.RowKit
namespace Kd
section
variable {α:Type} {d:Kd α} {e base n cap g:Nat} {ok ok' okp:Nat→Prop} {w w1 W:World} {v v1:Value} {xs ys:List α}
theorem ZP {rows:List (List Value)}(hR:(raw d.sz).R e w1 base (fun k=>k=W.heap.size) v1 rows)(hg:W.grownBy w1 none)(hat:∃ b,v1.ownBlock=some b∧W.heap.size≤b)(hl:rows.length=xs.length)(hf:∀ (j:Nat) (x:α) (c:List Value),xs[j]? = some x→rows[j]? = some c→FK d W okp x c)
  (hok:∀ k,okp k→ok k) (hfresh:ok W.heap.size):N d e w1 base ok v1 xs:=by
 obtain⟨b,hb,hle⟩:=hat;refine⟨fun k hk=>by rw[hR.1 k hk];exact hfresh,rows,hl,SE hR,fun j x c hx hc=>?_⟩;refine abP (Uf (YH (hf j x c hx hc)) (fun k hk hlt=>hg.block k hlt (by simp))) (fun k hk=>⟨hok k hk.1,fun he=>?_⟩);rw[hb]at he
 injection he with he
 have:=hk.2
 omega
end
section
variable {P:Program} {ops:Array Oper} {rest:List Oper} {o:Oper} {a:Act} {Q:Exit→Act→World→Prop} {Kc:Act→World→Prop} {α:Type}
theorem af5 (d:Kd α){w0 W:World}(base e:Nat)(hgd:o.guard=none){N':Tmp}(_hd:o.dst=some N'){xs:List α}{inner:List Value}{ok okp:Nat→Prop}
  (hrun:(execOp a.eval o).run P W=.ok (.value (.slice (some ⟨W.heap.size,0,none⟩) xs.length xs.length)) (W.alloc (.cells inner.toArray e)))
  (hrep:jM (FK d W okp) d.sz xs inner) (hok:∀ k,okp k→ok k) (hfresh:ok W.heap.size) (HB:Below base w0 W) (hbase:base≤W.heap.size) (hm:xs.length≤9223372036854775807)
  (h:∀ v1 w1,N d e w1 base ok v1 xs→Below base w0 w1→W.grownBy w1 none→(∃ b,v1.ownBlock=some b∧W.heap.size≤b)→wpList P ops Q rest (a.put o.dst v1) w1) :
  wpList P ops Q (o::rest) a W:=by
 refine Bq (raw d.sz) base e hgd _hd (xs:=chunks d.sz xs.length inner) (inner:=inner) (ok:=fun k=>k=W.heap.size) (okp:=fun _=>False) (by rw[ja];exact hrun) (Gw hrep (fun y c hk=>⟨d.K_len (FQ hk),d.K_one (FQ hk)⟩)) (fun _ hk=>hk.elim) rfl HB hbase (by rw[ja];exact hm) ?_;intro v1 w1 hr hb hg hat;exact h v1 w1 (ZP hr hg hat (ja _ _ _) (fun j y c hy hc=>by rw[xx hc];exact hrep.2 j y hy) hok hfresh) hb hg hat
theorem PZ (d:Kd α){w0 W:World}(base e:Nat)(hw:Region.wanted o (yielded ops a.tmps)=true){N':Tmp}(_hd:o.dst=some N'){xs:List α}{inner:List Value}{ok okp:Nat→Prop}
  (hrun:(execOp a.eval o).run P W=.ok (.value (.slice (some ⟨W.heap.size,0,none⟩) xs.length xs.length)) (W.alloc (.cells inner.toArray e)))
  (hrep:jM (FK d W okp) d.sz xs inner) (hok:∀ k,okp k→ok k) (hfresh:ok W.heap.size) (HB:Below base w0 W) (hbase:base≤W.heap.size) (hm:xs.length≤9223372036854775807)
  (h:∀ v1 w1,N d e w1 base ok v1 xs→Below base w0 w1→W.grownBy w1 none→(∃ b,v1.ownBlock=some b∧W.heap.size≤b)→Kc (a.put o.dst v1) w1) :
  if Region.wanted o (yielded ops a.tmps)=true then Oper.wp P o a W Kc Q else Kc (a.put o.dst undef) W:=by
 refine Fq (raw d.sz) base e hw _hd (xs:=chunks d.sz xs.length inner) (inner:=inner) (ok:=fun k=>k=W.heap.size) (okp:=fun _=>False) (by rw[ja];exact hrun) (Gw hrep (fun y c hk=>⟨d.K_len (FQ hk),d.K_one (FQ hk)⟩)) (fun _ hk=>hk.elim) rfl HB hbase (by rw[ja];exact hm) ?_;intro v1 w1 hr hb hg hat;exact h v1 w1 (ZP hr hg hat (ja _ _ _) (fun j y c hy hc=>by rw[xx hc];exact hrep.2 j y hy) hok hfresh) hb hg hat
end
end Kd
end Go.Proofs.Yw.PrintWords
end
section
namespace Go.Proofs.Yw.PrintMore
open Go.RowKit Go.Proofs.Yw.PrintWords
namespace Kd
open Go.Proofs.Yw.PrintWords.Kd
end Kd
namespace Kd
open Go.Proofs.Yw.PrintWords.Kd
section
variable {α:Type} {d:Kd α} {e base g N:Nat} {ok:Nat→Prop} {W w1:World} {u v:Value} {xs:List α}
theorem abT (hu:d.R e W base ok u xs)(hb:Below W.heap.size W w1):d.R e w1 base (fun k=>ok k∧k<W.heap.size) u xs :=
 dm (Du (uK hu) hb) (fun _ h=>⟨h.1,h.2.2.1⟩)
theorem FN (h:d.R e w1 base (fun k=>ok k∧k<N) u xs)(hbase:∀ k,v.ownBlock=some k→N≤k):d.R e w1 base (fun k=>(ok k∧some k≠v.ownBlock)∧k<N) u xs :=
 dm h (fun k hk=>⟨⟨hk.1,fun e=>Nat.lt_irrefl _ (Nat.lt_of_lt_of_le hk.2 (hbase k e.symm))⟩,hk.2⟩)
end
end Kd
theorem iq (k k':IntKind)(x y:Int):Builtin.max2 (.int k x) (.int k' y)=pure (.int k (if x<y then y else x)):=by simp only[Builtin.max2,gt_iff_lt]
theorem ik (k k':IntKind)(x y:Int):Builtin.min2 (.int k x) (.int k' y)=pure (.int k (if y<x then y else x)):=by simp only[Builtin.min2]
theorem jE (ats:Array TypeId)(ty:TypeId)(a b:Value):Builtin.max_ ats ty #[a,b]=(Builtin.max2 a b >>= fun s=>pure s):=by simp only[Builtin.max_,List.foldlM_cons,List.foldlM_nil]
theorem jD (ats:Array TypeId)(ty:TypeId)(a b:Value):Builtin.min_ ats ty #[a,b]=(Builtin.min2 a b >>= fun s=>pure s):=by simp only[Builtin.min_,List.foldlM_cons,List.foldlM_nil]
theorem gu (ats:Array TypeId)(ty:TypeId)(a b c:Value):Builtin.max_ ats ty #[a,b,c]=(Builtin.max2 a b >>= fun s=>Builtin.max2 s c >>= fun s=>pure s):=by simp only[Builtin.max_,List.foldlM_cons,List.foldlM_nil]
theorem gq (ats:Array TypeId)(ty:TypeId)(a b c:Value):Builtin.min_ ats ty #[a,b,c]=(Builtin.min2 a b >>= fun s=>Builtin.min2 s c >>= fun s=>pure s):=by simp only[Builtin.min_,List.foldlM_cons,List.foldlM_nil]
theorem iE (ats:Array TypeId)(ty:TypeId)(a b c d:Value):Builtin.max_ ats ty #[a,b,c,d]=(Builtin.max2 a b >>= fun s=>Builtin.max2 s c >>= fun s=>Builtin.max2 s d >>= fun s=>pure s):=by simp only[Builtin.max_,List.foldlM_cons,List.foldlM_nil]
theorem iD (ats:Array TypeId)(ty:TypeId)(a b c d:Value):Builtin.min_ ats ty #[a,b,c,d]=(Builtin.min2 a b >>= fun s=>Builtin.min2 s c >>= fun s=>Builtin.min2 s d >>= fun s=>pure s):=by simp only[Builtin.min_,List.foldlM_cons,List.foldlM_nil]
end Go.Proofs.Yw.PrintMore
namespace Go.Proofs.Yw.PrintWords
open Go.RowKit
section
variable {P:Program} {ops:Array Oper} {rest:List Oper} {o:Oper} {a:Act} {Q:Exit→Act→World→Prop} {W:World}
theorem af {f:FuncId}{as_:Array Operand}{ts:Array TypeId}(_ho:o.op=.call { callee := .value (.func f),args:=as_,argTypes:=ts })(h:wpList P ops Q (o::rest) a W):wpList P ops Q (o::rest) a W:=h
theorem dW {b:Builtin}{xs:Array Operand}{ts:Array TypeId}(_ho:o.op=.call { callee := .builtin b,args:=xs,argTypes:=ts })(h:wpList P ops Q (o::rest) a W):wpList P ops Q (o::rest) a W:=h
end
def mx (a b:Int):Int:=if a<b then b else a
def mn (a b:Int):Int:=if b<a then b else a
def shl (k:IntKind)(x y:Int):Int:=k.wrap (x*2 ^ min y.toNat k.bits)
def shr (k:IntKind)(x y:Int):Int:=x / 2 ^ min y.toNat k.bits
theorem iY {k:IntKind}{x y j:Int}(h:shl k x y=j)(hy:y≤k.bits):k.wrap (x*2 ^ y.toNat)=j:=by rw[← h];unfold shl;rw[Nat.min_eq_left (by omega)]
theorem kH {k:IntKind}{x y j:Int}(h:shr k x y=j)(hy:y≤k.bits):x / 2 ^ y.toNat=j:=by rw[← h];unfold shr;rw[Nat.min_eq_left (by omega)]
theorem gI (w:World)(n:Nat):w.drewN n=w.drewN n:=rfl
namespace Kd
section
variable {α:Type} {d:Kd α} {e base b b' g N:Nat} {ok ok1:Nat→Prop} {W W2 w1:World} {u v:Value} {xs ys:List α} {S:Nat→Prop}
theorem Z7 (hE:d.E=[])(h:d.R e W base ok1 v xs)(hok:∀ k,v.ownBlock=some k→ok k):d.R e W base ok v xs:=dm (jZ hE h) (fun k hk=>hok k hk.symm)
theorem rY (h:d.R e W base ok v xs)(hk:Kept W W2 S)(hne:∀ k,ok k→¬ S k):d.R e W2 base (fun k=>ok k∧(¬ S k∧k<W.heap.size)) v xs :=
 afT (dm (uK h) (fun k hk=>⟨hk.1,hne k hk.1,hk.2.2.1⟩)) hk (fun _ hk=>hk.2.1)
end
end Kd
end Go.Proofs.Yw.PrintWords
namespace Go.Proofs.Yw.PrintWords
open Go.RowKit
namespace Kd
def V {α:Type}(d:Kd α)(_e:Nat)(W:World)(_base:Nat)(ok:Nat→Prop)(v:Value)(xs:List α):Prop := ∃ A c,v=.slice A xs.length c∧xs.length≤c∧F d W ok A xs.length xs
section
variable {α β:Type} {d:Kd α} {e base base' n m c g N' lo hi:Nat} {ok ok' S:Nat→Prop} {w W w1:World} {A:Option Addr} {ad:Addr} {u v v1:Value} {xs:List α}
theorem EM (h:V d e W base ok v xs)(hF:∀ A,F d W ok A xs.length xs→F d w1 ok' A xs.length xs):V d e w1 base' ok' v xs:=by
 obtain⟨A,c,hv,hl,hf⟩:=h;exact⟨A,c,hv,hl,hF A hf⟩
theorem IQ (hl:xs.length≤c)(hf:F d W ok A xs.length xs):V d e W base ok (.slice A xs.length c) xs:=⟨A,c,rfl,hl,hf⟩
theorem dS (h:V d e W base ok v xs):∃ A c,v=.slice A xs.length c:=by
 obtain⟨A,c,hv,_⟩:=h;exact⟨A,c,hv⟩
theorem Xh (h:V d e W base ok (.slice A n c) xs):n=xs.length∧n≤c∧F d W ok A xs.length xs:=by
 obtain⟨A',c',hv,hl,hf⟩:=h
 injection hv with ha hn hc
 subst ha;subst hc;exact⟨hn,by rw[hn];exact hl,hf⟩
theorem aX (h:V d e W base ok (.slice A n c) xs):n=xs.length∧n≤c∧d.C W A xs.length xs:=⟨(Xh h).1,(Xh h).2.1,afA (Xh h).2.2⟩
theorem V_F (h:V d e W base ok (.slice A n c) xs):F d W ok A n xs:=by
 obtain⟨hn,_,hf⟩:=Xh h;rw[hn];exact hf
theorem Ah (d:Kd α)(e:Nat)(W:World)(base:Nat)(ok:Nat→Prop):V d e W base ok (.slice none 0 0) []:=⟨none,0,rfl,Nat.le_refl _,alU d W ok⟩
theorem R_V (h:d.R e W base ok v xs):V d e W base' ok v xs:=by
 obtain⟨A,c,rfl⟩:=dU h;exact⟨A,c,rfl,(az h).2.1,R_F h⟩
theorem N_V (h:N d e W base ok v xs):V d e W base' ok v xs:=by
 obtain⟨A,c,rfl⟩:=GI h;exact⟨A,c,rfl,(NV h).2.1,N_F h⟩
theorem bG (h:V d e W base ok v xs)(hok:∀ k,ok k→ok' k):V d e W base ok' v xs:=EM h (fun _ hf=>OD hf hok)
theorem abl (h:V d e W base ok v xs):V d e W base (fun k=>ok k∧k<W.heap.size) v xs:=EM h (fun _ hf=>UX hf)
theorem dG (h:V d e W base ok v xs)(_:base'≤base):V d e W base' ok v xs:=h
theorem abk (h:V d e W base ok v xs)(hb:Below W.heap.size W w1):V d e w1 base ok v xs:=EM h (fun _ hf=>oK hf hb)
theorem je (h:V d e W base ok v xs)(o:Obj):V d e (W.alloc o) base ok v xs:=EM h (fun _ hf=>ach hf o)
theorem jb (h:V d e W base ok v xs):V d e W.drew base ok v xs:=EM h (fun _ hf=>afX hf)
theorem jh (h:V d e W base ok v xs)(m:Nat):V d e (W.drewN m) base ok v xs:=EM h (fun _ hf=>ab9 hf m)
theorem aae (h:V d e W base ok v xs)(hk:Kept W w1 S)(hok:∀ k,ok k→¬ S k):V d e w1 base ok v xs:=EM h (fun _ hf=>agA hf hk hok)
theorem abt (h:V d e W base (fun k=>ok k∧some k≠u.ownBlock) v xs)(hg:W.grownBy w1 u.ownBlock)(hat:v1.ownBlock=u.ownBlock∨∃ b,v1.ownBlock=some b∧W.heap.size≤b):V d e w1 base (fun k=>ok k∧some k≠v1.ownBlock) v xs:=EM h (fun _ hf=>ab3 hf hg hat)
theorem iZ (h:V d e W base (fun k=>ok k∧some k≠v.ownBlock) u xs)(hg:W.grownBy w1 v.ownBlock)(hat:v1.ownBlock=v.ownBlock∨∃ b,v1.ownBlock=some b∧W.heap.size≤b):V d e w1 base (fun k=>ok k∧some k≠v1.ownBlock) u xs:=abt h hg hat
theorem oJ (h:V d e W base ok v xs):V d e W base (fun k=>ok k∧some k≠(Value.slice none 0 0).ownBlock) v xs:=EM h (fun _ hf=>Lt hf)
theorem jl (h:V d e W base ok v xs)(hbase:∀ k,u.ownBlock=some k→W.heap.size≤k)(hb:Below W.heap.size W w1):V d e w1 base (fun k=>ok k∧some k≠u.ownBlock) v xs:=EM h (fun _ hf=>Xz hf hbase hb)
theorem Uc (h:V d e W base ok v xs)(hk:Kept W w1 S)(hne:∀ k,ok k→¬ S k):V d e w1 base (fun k=>ok k∧(¬ S k∧k<W.heap.size)) v xs :=
 aae (bG (abl h) (fun k hk=>⟨hk.1,hne k hk.1,hk.2⟩)) hk (fun _ hk=>hk.2.1)
theorem amb (h:V d e W base ok (.slice (some ad) n c) xs)(z:α)(i:Int)(h0:0≤i)(h1:i<n) :
  ∃ cs,cs.length=d.sz∧FK d W ok (xs.getD i.toNat z) cs∧∀ j u,cs[j]? = some u→W.cell? (ad.add (i.toNat*d.sz+j))=some u:=by
 obtain⟨ad',cs,he,hcl,hK,hcc,_⟩:=alX (V_F h) z i h0 h1
 injection he with he
 subst he;exact⟨cs,hcl,hK,hcc⟩
theorem JF (h:F d W ok A xs.length xs)(hm:m≤xs.length):F d W ok A (xs.take m).length (xs.take m):=agj h (fun _ hC=>ZN hC hm)
theorem al8 (h:F d W ok A xs.length xs)(hm:m≤xs.length)(hc:xs.length≤c):F d W ok (if c=m then A else A.map (·.add (m*d.sz))) (xs.drop m).length (xs.drop m):=agj h (fun _ hC=>Um hC hm hc)
theorem Hq {l:List α}{cs:List Value}(h:FK (Kd.slice e d) W ok l cs):∃ A c,cs=[.slice A l.length c]∧l.length≤c∧F d W ok A l.length l:=by
 obtain⟨A,c,rfl,hl,_⟩:=FQ h;refine⟨A,c,rfl,hl,fun W' hW=>?_⟩;obtain⟨A',c',he,_,g'⟩:=h W' hW
 injection he with he _
 injection he with ha _ _
 rw[ha];exact g'
theorem qi {l:List α}(hl:l.length≤c)(hf:F d W ok A l.length l):FK (Kd.slice e d) W ok l [.slice A l.length c]:=fun W' hW=>⟨A,c,rfl,hl,hf W' hW⟩
theorem Dn (h:V d e W base ok (.slice A n c) xs)(hok:∀ k,ok k→¬ S k):∀ W',Kept W W' S→d.C W' A n xs:=fun W' hk=>by
 have h2:=aX (aae h hk hok);rw[h2.1];exact h2.2.2
theorem oQ {M:Nat→Prop}(h:d.R e w1 W.heap.size ok v xs)(hle:w.heap.size≤W.heap.size)(hM:∀ k,w.heap.size≤k→M k):d.R e w1 W.heap.size (fun k=>M k∧ok k) v xs:=dm (uK h) (fun k hk=>⟨hM k (Nat.le_trans hle hk.2.1),hk.1⟩)
end
end Kd
end Go.Proofs.Yw.PrintWords
end
section
namespace Go.Proofs.Yy.Z
open Go.RowKit Go.Proofs.Yw.PrintWords Go.Proofs.Yw.PrintLast Go.Proofs.Yw.PrintMore
section
variable {p:Prop} {α β:Type} {d:Kd α} {e base n g i:Nat} {ok:Nat→Prop} {w w0 W W1:World} {A:Option Addr} {u v:Value} {xs:List α} {o:Obj} {t:TypeId} {cs:Array Value}
theorem z1 (h:p:=by first|rfl|(simp;done)|(simp[*];done)):p:=h
theorem z2 (h:p:=by first|rfl|(simp[aj,ah] <;> rfl)|(simp[*, aj,ah] <;> rfl)):p:=h
theorem z3 (h:p:=by first|rfl|(simp[aj,ah] <;> rfl)):p:=h
theorem z5 (h:p:=by first|omega|exact Nat.le_refl _):p:=h
theorem zD [Decidable p](h:decide p=true:=by first|(with_reducible assumption)|assumption):p:=of_decide_eq_true h
theorem z4 (h:p:=by repeat (first|exact dX.refl _|apply dX.step)):p:=h
theorem zN (h:p:=by first|exact Kd.G8 _ _ _ _ _|exact Kd.Yl _ _ _ _ _|exact Kd.Ah _ _ _ _ _|exact Kd.Xy _ _ _ _ _|exact Kd.YJ _ _ _ _ _):p:=h
theorem zL:ae (n≤n):=⟨Nat.le_refl n⟩
theorem zH {a b:Nat}(h:ae (a+1≤b)):ae (a≤b):=⟨Nat.le_of_succ_le h.out⟩
theorem zB (h:ae (Below base w w0))(k:Below base w w0→Below base w W:=by (intro h_;repeat (first|(with_reducible first|exact h_|apply bn|apply aJ|apply aW|refine bF ?_ (ae.out (by assumption)))|exact h_))):Below base w W:=k h.out
theorem zS (h:ae (Below w.heap.size w w0))(k:Below w.heap.size w w0→Below w.heap.size w W:=by (intro h_;repeat (first|(with_reducible first|exact h_|apply bn|apply aJ|apply aW|refine bF ?_ (ae.out (by assumption)))|exact h_))):w.heap.size≤W.heap.size:=xq (k h.out)
theorem zBs (h:ae (Below w.heap.size w w0))(hb:Below W.heap.size W W1)(k:Below w.heap.size w w0→Below w.heap.size w W:=by (intro h_;repeat (first|(with_reducible first|exact h_|apply bn|apply aJ|apply aW|refine bF ?_ (ae.out (by assumption)))|exact h_))):ae (Below w.heap.size w W1):=⟨kE (k h.out) hb⟩
theorem zR (h:ae (d.R e w base ok v xs))(k:d.R e w base ok v xs→d.R e W base ok v xs:=by (intro h_;(with_reducible repeat (first|apply Kd.cO|apply Kd.bZ|apply Kd.dK));exact h_)):d.R e W base ok v xs:=k h.out
theorem zV (h:ae (d.V e w base ok v xs))(k:d.V e w base ok v xs→d.V e W base ok v xs:=by (intro h_;(with_reducible repeat (first|apply Kd.je|apply Kd.jh|apply Kd.jb));exact h_)):d.V e W base ok v xs:=k h.out
theorem zRb (h:ae (d.R e w base ok v xs))(hb:Below W.heap.size W W1)(k:d.R e w base ok v xs→d.R e W base ok v xs:=by (intro h_;(with_reducible repeat (first|apply Kd.cO|apply Kd.bZ|apply Kd.dK));exact h_)):ae (d.R e W1 base ok v xs):=⟨Kd.Du (k h.out) hb⟩
theorem zVb (h:ae (d.V e w base ok v xs))(hb:Below W.heap.size W W1)(k:d.V e w base ok v xs→d.V e W base ok v xs:=by (intro h_;(with_reducible repeat (first|apply Kd.je|apply Kd.jh|apply Kd.jb));exact h_)):ae (d.V e W1 base ok v xs):=⟨Kd.abk (k h.out) hb⟩
theorem zC (h:d.C w A n xs)(k:d.C w A n xs→d.C W A n xs:=by (intro h_;repeat (first|(with_reducible exact h_)|(with_reducible refine Kd.kJ ?_ _)|(with_reducible refine Kd.kM ?_ _)|(with_reducible refine Kd.ny ?_)|exact h_))):d.C W A n xs:=k h
theorem zK (h:ae (w.heap[g]? = some o))(k:w.heap[g]? = some o→W.heap[g]? = some o:=by (intro h_;repeat (first|with_reducible exact h_|with_reducible refine lT ?_ _|with_reducible refine dY ?_|with_reducible refine kL ?_ _|refine jg ?_ (ae.out (by assumption)) _|exact h_))):W.heap[g]? = some o:=k h.out
theorem zKb (h:ae (w.heap[g]? = some o))(hb:Below W.heap.size W W1)(k:w.heap[g]? = some o→W.heap[g]? = some o:=by (intro h_;repeat (first|with_reducible exact h_|with_reducible refine lT ?_ _|with_reducible refine dY ?_|with_reducible refine kL ?_ _|refine jg ?_ (ae.out (by assumption)) _|exact h_))):ae (W1.heap[g]? = some o):=⟨eG (k h.out) hb⟩
theorem zG (hg:g=W.heap.size)(h:ae (Below w.heap.size w w0))(k:Below w.heap.size w w0→Below w.heap.size w W:=by (intro h_;repeat (first|(with_reducible first|exact h_|apply bn|apply aJ|apply aW|refine bF ?_ (ae.out (by assumption)))|exact h_))):ae (w.heap.size≤g):=⟨by rw[hg];exact xq (k h.out)⟩
theorem zNl {g':Nat}(hg:g'=W.heap.size)(h:ae (w.heap[g]? = some o))(k:w.heap[g]? = some o→W.heap[g]? = some o:=by (intro h_;repeat (first|with_reducible exact h_|with_reducible refine lT ?_ _|with_reducible refine dY ?_|with_reducible refine kL ?_ _|refine jg ?_ (ae.out (by assumption)) _|exact h_))):ae (g≠g'):=⟨by rw[hg];exact Nat.ne_of_lt (Bf (k h.out))⟩
theorem zNg {g':Nat}(hg:g'=W.heap.size)(h:ae (w.heap[g]? = some o))(k:w.heap[g]? = some o→W.heap[g]? = some o:=by (intro h_;repeat (first|with_reducible exact h_|with_reducible refine lT ?_ _|with_reducible refine dY ?_|with_reducible refine kL ?_ _|refine jg ?_ (ae.out (by assumption)) _|exact h_))):ae (g'≠g):=⟨by rw[hg];exact Nat.ne_of_gt (Bf (k h.out))⟩
theorem zl (h:ae (w.heap[g]? = some (.cells cs t (0,0))))(i:Nat)(k:cs[i]? = some v:=by exact rfl):w.cell? ⟨g,i,none⟩=some v:=(ag h.out i).trans k
theorem zA {q r:Prop}[Decidable p][Decidable q](f:p→q→r)(hp:decide p=true:=by first|(with_reducible assumption)|assumption)(hq:decide q=true:=by first|(with_reducible assumption)|assumption):(p=True)∧(q=True)∧r:=⟨eq_true (of_decide_eq_true hp),eq_true (of_decide_eq_true hq),f (of_decide_eq_true hp) (of_decide_eq_true hq)⟩
theorem zY {x y:β}(h:x=y):ae (y=x):=⟨h.symm⟩
end
section
variable {α β:Type} {P Q:Prop} [Decidable P] {a b:α} {r:Option β} {x y:Option β} {s:β}
theorem zz {q:Prop}(h:ae (x=some s))(k:x=none):q:=nomatch k.symm.trans h.out
theorem zi (h:ae ((if P then x else none)=some s)):P∧ae (x=some s):=by
 have k:=h.out
 by_cases c:P
 ·rw[if_pos c]at k;exact⟨c,⟨k⟩⟩
 ·rw[if_neg c]at k;exact nomatch k
theorem zj (h:ae ((if P then none else x)=some s)):¬ P∧ae (x=some s):=by
 have k:=h.out
 by_cases c:P
 ·rw[if_pos c]at k;exact nomatch k
 ·rw[if_neg c]at k;exact⟨c,⟨k⟩⟩
theorem zs (h:ae ((if P then x else y)=r)):P∧ae (x=r)∨¬ P∧ae (y=r):=by
 have k:=h.out
 by_cases c:P
 ·rw[if_pos c]at k;exact .inl ⟨c,⟨k⟩⟩
 ·rw[if_neg c]at k;exact .inr ⟨c,⟨k⟩⟩
theorem zid (h:ae ((if P then x else none)=some s)):decide P=true∧ae (x=some s):=⟨decide_eq_true (zi h).1,(zi h).2⟩
theorem zit (h:ae ((if P then x else none)=some s)):(P=True)∧decide P=true∧ae (x=some s):=⟨eq_true (zi h).1,decide_eq_true (zi h).1,(zi h).2⟩
theorem zil (h:ae ((if P then x else none)=some s)):ae P∧ae (x=some s):=⟨⟨(zi h).1⟩,(zi h).2⟩
theorem zjd (h:ae ((if P then none else x)=some s)):decide P=false∧ae (x=some s):=⟨decide_eq_false (zj h).1,(zj h).2⟩
theorem zsd (h:ae ((if P then x else y)=r)):decide P=true∧ae (x=r)∨decide P=false∧ae (y=r):=(zs h).imp (fun k=>⟨decide_eq_true k.1,k.2⟩) (fun k=>⟨decide_eq_false k.1,k.2⟩)
theorem zb1 (h:ae ((if P then x else y)=r))(k:P:=by first|rfl|trivial|simp):ae (x=r):=⟨by have k':=h.out;rw[if_pos k]at k';exact k'⟩
theorem zb0 (h:ae ((if P then x else y)=r))(k:¬ P:=by first|decide|simp):ae (y=r):=⟨by have k':=h.out;rw[if_neg k]at k';exact k'⟩
theorem zo {f:α→Option β}{o:Option α}(h:ae (o.bind f=some s)):∃ t,ae (o=some t)∧ae (f t=some s):=by obtain⟨t,h1,h2⟩:=Option.bind_eq_some_iff.mp h.out;exact⟨t,⟨h1⟩,⟨h2⟩⟩
end
section
variable {β:Type} {a b:Int} {r x y:Option β} {s:β}
theorem aye [Decidable (a≥b)](h:ae ((if a≥b then none else x)=some s)):decide (b≤a)=false∧ae (x=some s):=⟨decide_eq_false (zj h).1,(zj h).2⟩
theorem AV [Decidable (a > b)](h:ae ((if a > b then x else y)=r)):decide (b<a)=true∧ae (x=r)∨decide (b<a)=false∧ae (y=r):=(zs h).imp (fun k=>⟨decide_eq_true k.1,k.2⟩) (fun k=>⟨decide_eq_false k.1,k.2⟩)
theorem yD [Decidable (a≥b)](h:ae ((if a≥b then x else y)=r)):decide (b≤a)=true∧ae (x=r)∨decide (b≤a)=false∧ae (y=r):=(zs h).imp (fun k=>⟨decide_eq_true k.1,k.2⟩) (fun k=>⟨decide_eq_false k.1,k.2⟩)
end
section
variable {P:Program} {ops:Array Oper} {Q:Exit→Act→World→Prop} {md:Region.Mode} {S:World→Prop} {ds:List Nat} {rest:List Oper} {oi:Oper} {a a':Act} {w:World}
theorem zc (N:Option Tmp){f:FuncId}{fn:Func}(hf:P.funcs[f]? = some fn)(args:Array Value){os:Array Operand}{ts:Array TypeId}{q:Ending→World→Prop}(hc:Calls P f args w q)
  (h:∀ e w',q e w'→∃ v,e=.returned v∧wpList P ops Q rest (a.put N v) w')
  (hd : oi.dst = N := by exact rfl) (hg : oi.guard = none := by exact rfl) (hname : (fn.name == "runtime.NumGoroutine") = false := by kernel_rfl) (hb : fn.body.isSome = true := by exact rfl)
  (hop:oi.op=.call { callee := .value (.func f),args:=os,argTypes:=ts }:=by exact rfl)
  (hargs:os.map a.eval=args:=by (try simp only[List.map_toArray,List.map_cons,List.map_nil]);first|done|rfl|(simp only[List.length_drop,List.length_take];rfl)):wpList P ops Q (oi::rest) a w :=
 jS N hd hg hf hname hb args hop hargs (hc.mono h)
theorem zp {T:Bool × List (List Nat × List Nat)}(hT:ae (rX md ops=T))(i:Nat)(N:Option Tmp){v:Value}{fuel:Nat}{l:Array Bool}
  (h:dw P md ops Q S ds fuel (l.setIfInBounds i true) a' w)
  (hi:ops[i]? = some oi:=by exact rfl) (hN:oi.dst=N:=by exact rfl) (hc:alM T l.toList (l.setIfInBounds i true).toList i=true:=by kernel_rfl)
  (hQ:∀ c a w,Q (.panic c) (a.put oi.dst v) w→Q (.panic c) a w:=by exact (fun _ _ _ h=>h)) (hy:Yields P ops oi v a:=by (refine Or.inl ⟨by rfl,?_⟩;intro w';go_simp;with_reducible rfl)) (ha:a.put N v=a':=by (simp only[Act.put,List.setIfInBounds_toArray,List.set_cons_zero,List.set_cons_succ,bW,fV];rfl)):dw P md ops Q S ds (fuel+1) l a w :=
 LP (l.setIfInBounds i true) hi hN (Dh hT.out hc) hQ hy ha h
theorem zt {T:Bool × List (List Nat × List Nat)}{B:List Nat}(hT:ae (rX md ops=T))(hW:ae (jf T.2 B=true))(i:Nat)(N:Option Tmp)(hS:S w){v:Value}{fuel:Nat}{l:Array Bool}
  (h:dw P md ops Q S ds fuel (l.setIfInBounds i true) a' w)
  (hi:ops[i]? = some oi:=by exact rfl) (hN:oi.dst=N:=by exact rfl) (hc:abn T B ds l.toList (l.setIfInBounds i true).toList i=true:=by kernel_rfl)
  (hQ:∀ c a w,Q (.panic c) (a.put oi.dst v) w→Q (.panic c) a w:=by exact (fun _ _ _ h=>h)) (hy:YieldsIf P ops S oi v a:=by (refine Or.inl ⟨by rfl,?_⟩;intro w' hs_;(repeat (obtain⟨_,hs_⟩:=hs_));go_simp;with_reducible rfl)) (ha:a.put N v=a':=by (simp only[Act.put,List.setIfInBounds_toArray,List.set_cons_zero,List.set_cons_succ,bW,fV];rfl)):dw P md ops Q S ds (fuel+1) l a w :=
 aaZ (l.setIfInBounds i true) hi hN (YE hT.out hW.out hc) hQ hy hS ha h
end
theorem zw {α β:Type}{r:Option β}{f:α→Option β}{o:α}(h:ae ((some o).bind f=r)):∃ y,ae (y=o)∧ae (f y=r):=⟨o,⟨rfl⟩,⟨h.out⟩⟩
theorem X7 {w:World}{g:Nat}{o:Obj}(h:w.heap[g]? = some o){p:Addr}(hp:g≠p.block)(u:Value):(w.setCell p u).heap[g]? = some o:=(Below.heap_setCell w p u g hp).trans h
theorem zKp {w W:World}{g:Nat}{t:TypeId}{cs cs1 cs2:Array Value}(h:ae (w.heap[g]? = some (.cells cs t (0,0))))(k:w.heap[g]? = some (.cells cs t (0,0))→W.heap[g]? = some (.cells cs1 t (0,0)):=by (intro h_;repeat (first|with_reducible exact h_|with_reducible refine lT ?_ _|with_reducible refine dY ?_|with_reducible refine kL ?_ _|apply qM|refine X7 ?_ (ae.out (by assumption)) _|exact h_)))(e:cs1=cs2:=by exact rfl):W.heap[g]? = some (.cells cs2 t (0,0)):=e ▸ k h.out
section
variable {α β:Type} [BEq α] [LawfulBEq α] {a b:α} [Decidable (a=b)] {r x y:Option β} {s:β}
theorem zjk (h:ae ((if a=b then none else x)=some s)):(a == b)=false∧(a != b)=true∧¬ a=b∧ae (x=some s):=⟨beq_eq_false_iff_ne.mpr (zj h).1,bne_iff_ne.mpr (zj h).1,(zj h).1,(zj h).2⟩
theorem zsk (h:ae ((if a=b then x else y)=r)):(a == b)=true∧(a != b)=false∧ae (x=r)∨(a == b)=false∧(a != b)=true∧¬ a=b∧ae (y=r):=(zs h).imp (fun k=>⟨beq_iff_eq.mpr k.1,bne_eq_false_iff_eq.mpr k.1,k.2⟩) (fun k=>⟨beq_eq_false_iff_ne.mpr k.1,bne_iff_ne.mpr k.1,k.1,k.2⟩)
end
theorem zf2 {w:World}{g:Nat}{t:TypeId}{a0 a1:Value}(h:ae (w.heap[g]? = some (.cells #[a0,a1] t (0,0)))):w.cell? ⟨g,0,none⟩=some a0∧w.cell? ⟨g,1,none⟩=some a1∧w.frozen? ⟨g,0,none⟩=false∧w.frozen? ⟨g,1,none⟩=false:=⟨(ag h.out 0).trans rfl,(ag h.out 1).trans rfl,ak h.out 0,ak h.out 1⟩
theorem zf4 {w:World}{g:Nat}{t:TypeId}{a0 a1 a2 a3:Value}(h:ae (w.heap[g]? = some (.cells #[a0,a1,a2,a3] t (0,0)))):w.cell? ⟨g,0,none⟩=some a0∧w.cell? ⟨g,1,none⟩=some a1∧w.cell? ⟨g,2,none⟩=some a2∧w.cell? ⟨g,3,none⟩=some a3∧w.frozen? ⟨g,0,none⟩=false∧w.frozen? ⟨g,1,none⟩=false∧w.frozen? ⟨g,2,none⟩=false∧w.frozen? ⟨g,3,none⟩=false:=⟨(ag h.out 0).trans rfl,(ag h.out 1).trans rfl,(ag h.out 2).trans rfl,(ag h.out 3).trans rfl,ak h.out 0,ak h.out 1,ak h.out 2,ak h.out 3⟩
theorem zf5 {w:World}{g:Nat}{t:TypeId}{a0 a1 a2 a3 a4:Value}(h:ae (w.heap[g]? = some (.cells #[a0,a1,a2,a3,a4] t (0,0)))):w.cell? ⟨g,0,none⟩=some a0∧w.cell? ⟨g,1,none⟩=some a1∧w.cell? ⟨g,2,none⟩=some a2∧w.cell? ⟨g,3,none⟩=some a3∧w.cell? ⟨g,4,none⟩=some a4∧w.frozen? ⟨g,0,none⟩=false∧w.frozen? ⟨g,1,none⟩=false∧w.frozen? ⟨g,2,none⟩=false∧w.frozen? ⟨g,3,none⟩=false∧w.frozen? ⟨g,4,none⟩=false:=⟨(ag h.out 0).trans rfl,(ag h.out 1).trans rfl,(ag h.out 2).trans rfl,(ag h.out 3).trans rfl,(ag h.out 4).trans rfl,ak h.out 0,ak h.out 1,ak h.out 2,ak h.out 3,ak h.out 4⟩
theorem zf6 {w:World}{g:Nat}{t:TypeId}{a0 a1 a2 a3 a4 a5:Value}(h:ae (w.heap[g]? = some (.cells #[a0,a1,a2,a3,a4,a5] t (0,0)))):w.cell? ⟨g,0,none⟩=some a0∧w.cell? ⟨g,1,none⟩=some a1∧w.cell? ⟨g,2,none⟩=some a2∧w.cell? ⟨g,3,none⟩=some a3∧w.cell? ⟨g,4,none⟩=some a4∧w.cell? ⟨g,5,none⟩=some a5∧w.frozen? ⟨g,0,none⟩=false∧w.frozen? ⟨g,1,none⟩=false∧w.frozen? ⟨g,2,none⟩=false∧w.frozen? ⟨g,3,none⟩=false∧w.frozen? ⟨g,4,none⟩=false∧w.frozen? ⟨g,5,none⟩=false:=⟨(ag h.out 0).trans rfl,(ag h.out 1).trans rfl,(ag h.out 2).trans rfl,(ag h.out 3).trans rfl,(ag h.out 4).trans rfl,(ag h.out 5).trans rfl,ak h.out 0,ak h.out 1,ak h.out 2,ak h.out 3,ak h.out 4,ak h.out 5⟩
theorem zf8 {w:World}{g:Nat}{t:TypeId}{a0 a1 a2 a3 a4 a5 a6 a7:Value}(h:ae (w.heap[g]? = some (.cells #[a0,a1,a2,a3,a4,a5,a6,a7] t (0,0)))):w.cell? ⟨g,0,none⟩=some a0∧w.cell? ⟨g,1,none⟩=some a1∧w.cell? ⟨g,2,none⟩=some a2∧w.cell? ⟨g,3,none⟩=some a3∧w.cell? ⟨g,4,none⟩=some a4∧w.cell? ⟨g,5,none⟩=some a5∧w.cell? ⟨g,6,none⟩=some a6∧w.cell? ⟨g,7,none⟩=some a7∧w.frozen? ⟨g,0,none⟩=false∧w.frozen? ⟨g,1,none⟩=false∧w.frozen? ⟨g,2,none⟩=false∧w.frozen? ⟨g,3,none⟩=false∧w.frozen? ⟨g,4,none⟩=false∧w.frozen? ⟨g,5,none⟩=false∧w.frozen? ⟨g,6,none⟩=false∧w.frozen? ⟨g,7,none⟩=false:=⟨(ag h.out 0).trans rfl,(ag h.out 1).trans rfl,(ag h.out 2).trans rfl,(ag h.out 3).trans rfl,(ag h.out 4).trans rfl,(ag h.out 5).trans rfl,(ag h.out 6).trans rfl,(ag h.out 7).trans rfl,ak h.out 0,ak h.out 1,ak h.out 2,ak h.out 3,ak h.out 4,ak h.out 5,ak h.out 6,ak h.out 7⟩
theorem zx {P:Program}{ops:Array Oper}{rest:List Oper}{o:Oper}{a:Act}{Q:Exit→Act→World→Prop}{W:World}(N:Tmp)(t:TypeId)(cs:Array Value)
  (h:∀ g,g=W.heap.size→∀ w1,w1.heap[g]? = some (.cells cs t (0,0))→Below W.heap.size W w1→wpList P ops Q rest (a.put o.dst (.pointer (some ⟨g,0,none⟩))) w1)
  (hgd:o.guard=none:=by exact rfl) (hd:o.dst=some N:=by exact rfl) (hrun:(execOp a.eval o).run P W=.ok (.value (.pointer (some ⟨W.heap.size,0,none⟩))) (W.alloc (.cells cs t (0,0))):=by first|(go_simp;done)|(go_simp;rfl)):wpList P ops Q (o::rest) a W :=
 UY hgd hd hrun h
theorem zJ2 {α0 α1:Type}{a0 b0:α0}{a1 b1:α1}(h:ae (some (a0,a1)=some (b0,b1))):a0=b0∧a1=b1:=by simpa only [Option.some.injEq,Prod.mk.injEq] using h.out
theorem zJ3 {α0 α1 α2:Type}{a0 b0:α0}{a1 b1:α1}{a2 b2:α2}(h:ae (some (a0,a1,a2)=some (b0,b1,b2))):a0=b0∧a1=b1∧a2=b2:=by simpa only [Option.some.injEq,Prod.mk.injEq] using h.out
theorem zJ4 {α0 α1 α2 α3:Type}{a0 b0:α0}{a1 b1:α1}{a2 b2:α2}{a3 b3:α3}(h:ae (some (a0,a1,a2,a3)=some (b0,b1,b2,b3))):a0=b0∧a1=b1∧a2=b2∧a3=b3:=by simpa only [Option.some.injEq,Prod.mk.injEq] using h.out
theorem zJ5 {α0 α1 α2 α3 α4:Type}{a0 b0:α0}{a1 b1:α1}{a2 b2:α2}{a3 b3:α3}{a4 b4:α4}(h:ae (some (a0,a1,a2,a3,a4)=some (b0,b1,b2,b3,b4))):a0=b0∧a1=b1∧a2=b2∧a3=b3∧a4=b4:=by simpa only [Option.some.injEq,Prod.mk.injEq] using h.out
theorem zJ6 {α0 α1 α2 α3 α4 α5:Type}{a0 b0:α0}{a1 b1:α1}{a2 b2:α2}{a3 b3:α3}{a4 b4:α4}{a5 b5:α5}(h:ae (some (a0,a1,a2,a3,a4,a5)=some (b0,b1,b2,b3,b4,b5))):a0=b0∧a1=b1∧a2=b2∧a3=b3∧a4=b4∧a5=b5:=by simpa only [Option.some.injEq,Prod.mk.injEq] using h.out
theorem zJ7 {α0 α1 α2 α3 α4 α5 α6:Type}{a0 b0:α0}{a1 b1:α1}{a2 b2:α2}{a3 b3:α3}{a4 b4:α4}{a5 b5:α5}{a6 b6:α6}(h:ae (some (a0,a1,a2,a3,a4,a5,a6)=some (b0,b1,b2,b3,b4,b5,b6))):a0=b0∧a1=b1∧a2=b2∧a3=b3∧a4=b4∧a5=b5∧a6=b6:=by simpa only [Option.some.injEq,Prod.mk.injEq] using h.out
theorem zh {p q:Prop}(h:q)(k:q→p:=by (intro h_;repeat (first|(with_reducible first|exact h_|exact h_.1|exact h_.2.1|exact h_.2.2.1|exact h_.2.2.2.1|exact h_.2.2.2.2.1|exact h_.2.2.2.2.2.1|exact h_.2.2.2.2.2.2.1|exact h_.2.2.2.2.2.2.2.1|exact h_.2|exact h_.2.2|exact h_.2.2.2|exact h_.2.2.2.2|exact h_.2.2.2.2.2|exact h_.2.2.2.2.2.2|exact h_.2.2.2.2.2.2.2|exact h_.2.2.2.2.2.2.2.2)|(with_reducible refine (cell_far ?hne _).trans ?_;case hne=>exact ae.out (by assumption))))):p:=k h
section
variable {P:Program} {ops:Array Oper} {Q:Exit→Act→World→Prop} {md:Region.Mode} {S:World→Prop} {ds:List Nat}
theorem zu {T:Bool × List (List Nat × List Nat)}(hT:ae (rX md ops=T))(i:Nat)(N:Option Tmp){oi:Oper}{fuel:Nat}{l:Array Bool}{a:Act}{w:World}
  (h:∀ K:Act→World→Prop,Shut (∀ a' w',S w'→(S w'→dw P md ops Q S ds fuel (l.setIfInBounds i true) a' w')→K a' w')→if Region.wanted oi (yielded ops a.tmps)=true then Oper.wp P oi a w K Q else K (a.put N undef) w)
  (hi:ops[i]? = some oi:=by exact rfl) (hN:oi.dst=N:=by exact rfl) (hc:(Cf T.2 l.toList == [i] && l.toList.set i true == (l.setIfInBounds i true).toList)=true:=by kernel_rfl) (hd:i ∉ ds:=by decide):dw P md ops Q S ds (fuel+1) l a w :=
 ayc (l.setIfInBounds i true) hi hN (AO hT.out hc) hd h
end
end Go.Proofs.Yy.Z
end
section
namespace Go.Proofs.Yy.M
open Go.RowKit Go.Proofs.Yw.PrintWords Go.Proofs.Yw.PrintLast Go.Proofs.Yw.PrintMore
section
variable {pre post:List Int} {e:Nat} {w w1:World} {base:Nat} {ok ok':Nat→Prop} {v:Value} {xs:List Int}
def Wd (pre post:List Int)(e:Nat)(w:World)(base:Nat)(ok:Nat→Prop)(v:Value)(xs:List Int):Prop :=
 ∃ g c,v=.slice (some ⟨g,pre.length,none⟩) xs.length c∧xs.length≤c∧0<xs.length∧Kd.R (Kd.int .u64) e w base ok (.slice (some ⟨g,0,none⟩) (pre++xs++post).length (pre.length+c)) (pre++xs++post)
theorem RZ (h:Wd pre post e w base ok v xs)(hok:∀ k,ok k→ok' k):Wd pre post e w base ok' v xs:=by
 obtain⟨g,c,hv,hc,hp,hr⟩:=h;exact⟨g,c,hv,hc,hp,Kd.dm hr hok⟩
theorem uM (h:Wd pre post e w base ok v xs)(o:Obj):Wd pre post e (w.alloc o) base ok v xs:=by
 obtain⟨g,c,hv,hc,hp,hr⟩:=h;exact⟨g,c,hv,hc,hp,Kd.cO hr o⟩
theorem xY (h:Wd pre post e w base ok v xs):Wd pre post e w.drew base ok v xs:=by
 obtain⟨g,c,hv,hc,hp,hr⟩:=h;exact⟨g,c,hv,hc,hp,Kd.dK hr⟩
theorem uH (h:Wd pre post e w base ok v xs)(m:Nat):Wd pre post e (w.drewN m) base ok v xs:=by
 obtain⟨g,c,hv,hc,hp,hr⟩:=h;exact⟨g,c,hv,hc,hp,Kd.bZ hr m⟩
theorem zg (h:Wd pre post e w base ok v xs):∃ A c,v=.slice A xs.length c:=by
 obtain⟨g,c,hv,hc,hp,hr⟩:=h;exact⟨_,c,hv⟩
theorem yV {A:Option Addr}{n c:Nat}(h:Wd pre post e w base ok (.slice A n c) xs):n=xs.length∧n≤c∧Kd.C (Kd.int .u64) w A xs.length xs:=by
 obtain⟨g,c',hv,hc,hp,hr⟩:=h
 injection hv with h1 h2 h3
 subst h1 h2 h3;refine⟨rfl,hc,?_⟩;obtain⟨_,hle,hC⟩:=Kd.az hr;have h1:=Kd.Um (c:=pre.length+c) hC (m:=pre.length) (by simp) hle;rw[if_neg (by omega)]at h1
 have hd:(pre++xs++post).drop pre.length=xs++post:=by rw[List.append_assoc,List.drop_left]
 rw[hd]at h1;have h2:=Kd.ZN (m:=xs.length) h1 (by simp);rw[List.take_left]at h2
 have ha:(Option.map (fun x=>x.add (pre.length*(Kd.int IntKind.u64).sz)) (some (⟨g,0,none⟩:Addr)))=some (⟨g,pre.length,none⟩:Addr):=by
  have hs:(Kd.int IntKind.u64).sz=1:=rfl;rw[hs];simp[Addr.add];intro h;rw[h]
  rfl
 rw[ha]at h2;exact h2
theorem G6 (h:Wd pre post e w base ok v xs)(hp:0<xs.length):∃ g cap,v=.slice (some ⟨g,pre.length,none⟩) xs.length cap∧base≤g∧g<w.heap.size∧∃ cells,w.heap[g]? = some (.cells cells e (0,0)):=by
 obtain⟨g,c,hv,hc,hp,hr⟩:=h;obtain⟨g',c',e',hb,hl,hcells⟩:=Kd.oP hr (by simp;omega)
 injection e' with e1 e2 e3
 injection e1 with e1
 injection e1 with e1
 subst e1;exact⟨g,c,hv,hb,hl,hcells⟩
theorem Jd {g o n c:Nat}(h:Wd pre post e w base ok (.slice (some ⟨g,o,none⟩) n c) xs):ok g:=by
 obtain⟨g',c',hv,hc,hp,hr⟩:=h
 injection hv with e1 e2 e3
 injection e1 with e1
 injection e1 with e1 e2
 subst e1;exact hr.1 g rfl
theorem Ur (i:Int)(h0:0≤i)(hi:i<(xs.length:Int)):rd (pre++xs++post) ((pre.length:Int)+i)=rd xs i:=by
 have e1:((pre.length:Int)+i).toNat=pre.length+i.toNat:=by omega
 unfold rd;rw[e1,List.append_assoc];simp only[List.getD_eq_getElem?_getD];rw[List.getElem?_append_right (by omega),List.getElem?_append_left (by omega),Nat.add_sub_cancel_left]
theorem yS {g o n c:Nat}(h:Wd pre post e w base ok (.slice (some ⟨g,o,none⟩) n c) xs)(i:Int)(h0:0≤i)(hi:i<(n:Int)):w.cell? ⟨g,pre.length+i.toNat,none⟩=some (.int .u64 (rd xs i))∧w.frozen? ⟨g,pre.length+i.toNat,none⟩=false:=by
 obtain⟨g',c',hv,hc,hp,hr⟩:=h
 injection hv with e1 e2 e3
 injection e1 with e1
 injection e1 with e1 e4
 subst e1 e2 e3 e4;obtain⟨a,b⟩:=Kd.iR 0 hr ((pre.length:Int)+i) (by omega) (by simp;omega)
 have e5:((pre.length:Int)+i).toNat=pre.length+i.toNat:=by omega
 rw[e5]at a b;refine⟨a.trans ?_,b⟩;exact congrArg (fun z=>some (Value.int IntKind.u64 z)) (Ur i h0 hi)
theorem PD (i:Nat)(hi:i<xs.length)(x:Int):(pre++xs++post).set (pre.length+i) x=pre++xs.set i x++post:=by
 rw[List.append_assoc,List.set_append_right _ _ (by omega),Nat.add_sub_cancel_left,List.set_append_left _ _ hi, ← List.append_assoc]
theorem Hg {g o n c:Nat}(h:Wd pre post e w base ok (.slice (some ⟨g,o,none⟩) n c) xs)(i:Int)(hi:i.toNat<xs.length)(x:Int) :
  Wd pre post e (w.setCell ⟨g,pre.length+i.toNat,none⟩ (.int .u64 x)) base ok (.slice (some ⟨g,o,none⟩) n c) (xs.set i.toNat x)∧w.grownBy (w.setCell ⟨g,pre.length+i.toNat,none⟩ (.int .u64 x)) (some g):=by
 obtain⟨g',c',hv,hc,hp,hr⟩:=h
 injection hv with e1 e2 e3
 injection e1 with e1
 injection e1 with e1 e4
 subst e1 e2 e3 e4;obtain⟨a,b⟩:=Kd.mX hr ((pre.length+i.toNat:Nat):Int) x;rw[Int.toNat_natCast]at a b;rw[PD _ hi]at a;refine⟨⟨g,c,by rw[List.length_set],by rw[List.length_set];exact hc,by rw[List.length_set];exact hp,?_⟩,b⟩
 have e6:(pre++xs++post).length=(pre++xs.set i.toNat x++post).length:=by simp
 rw[← e6];exact a
theorem alZ {g c:Nat}(h:Kd.R (Kd.int .u64) e w base ok (.slice (some ⟨g,0,none⟩) (pre++xs++post).length (pre.length+c)) (pre++xs++post))(hp:0<xs.length):Wd pre post e w base ok (.slice (some ⟨g,pre.length,none⟩) xs.length c) xs:=by
 obtain⟨_,hle,_⟩:=Kd.az h;simp at hle;exact⟨g,c,rfl,by omega,hp,h⟩
theorem aaV {g o n c:Nat}(h:Wd pre post e w base ok (.slice (some ⟨g,o,none⟩) n c) xs):Kd.R (Kd.int .u64) e w base ok (.slice (some ⟨g,0,none⟩) (pre++xs++post).length (pre.length+c)) (pre++xs++post):=by
 obtain⟨g',c',hv,hc,hp,hr⟩:=h
 injection hv with e1 e2 e3
 injection e1 with e1
 injection e1 with e1 e4
 subst e1 e2 e3 e4;exact hr
end
def afM (u:Value)(lo hi:Int):Value:=match u with
 | .slice (some ⟨g,_,_⟩) _ c => .slice (some ⟨g,lo.toNat,none⟩) (hi.toNat-lo.toNat) (c-lo.toNat)
 | v=>v
theorem UB {P:Program}(t e:TypeId)(kl kh:IntKind){i:TypeInfo}(ht:P.underlying t=some (.slice e))(hi:P.info? e=some i)(hsz:i.size=1)(g n c:Nat)(lo hi':Int)(h0:0≤lo)(h1:lo<hi')(h2:hi'≤n)(hc:n≤c) :
  ∀ W:World,(Instr.slice t (.slice (some ⟨g,0,none⟩) n c) (some (.int kl lo)) (some (.int kh hi')) none).run P W=.ok (.slice (some ⟨g,lo.toNat,none⟩) (hi'.toNat-lo.toNat) (c-lo.toNat)) W:=by
 intro W;rw[acg t e kl kh ht hi 1 hsz (some ⟨g,0,none⟩) n c lo hi' h0 (by omega) h2 hc W]
 have hne:c≠lo.toNat:=by omega
 have ha:(⟨g,0,none⟩:Addr).add (lo.toNat*1)=⟨g,lo.toNat,none⟩:=by
  by_cases h:lo.toNat=0
  ·rw[h];rfl
  ·simp[Addr.add]
   omega
 rw[Nat.mul_one]at ha;simp[hne,ha]
end Go.Proofs.Yy.M
end
section
namespace Go.Proofs.Yy.Fx
open Go.Shelf Go.RowKit Go.Sort Go.Lib
def Tab (w : World) : Prop := Lib.TabIs Tryz.prog w "internal/strconv.uint64pow10" .u64 Lib.pow10Tab
def Yv:List Int:=Lib.deBruijn64tab.map fun n:Nat=>(n:Int)
def Tz (w : World) : Prop := Lib.TabIs Tryz.prog w "math/bits.deBruijn64tab" .u8 Yv
def Laid (w:World):Prop:=Tab w∧Tz w
theorem Laid.below {w w':World}(h:Laid w)(hb:Below w.heap.size w w'):Laid w':=⟨Lib.tabBelow_of_tabIs h.1 w' hb,Lib.tabBelow_of_tabIs h.2 w' hb⟩
theorem below_grow (w:World)(k:Nat)(os:Array Obj):Below w.heap.size w (grow (w.drewN k) os) :=
 ⟨rfl,rfl,rfl,by show w.heap.size≤(w.heap++os).size;simp,fun i hi=>by show (w.heap++os)[i]? = _;rw[Array.getElem?_append_left hi]⟩
end Go.Proofs.Yy.Fx
end
section
namespace Go.Proofs.Yy.Fa
open Go.RowKit Go.Extern.Stop Go.Stop Go.Extern
theorem al7:∃ ms,Tryz.prog.underlying 27=some (.interface ms):=⟨_,Tryz.underlying27⟩
theorem agp:Tryz.prog.underlying 64=some (.int .i64):=by kernel_rfl
theorem agq:(Tryz.prog.info? 64).map (·.comparable)=some true:=by kernel_rfl
def Gp (w:World)(g:Nat)(line at' code:Int):Prop:=w.heap[g]? = some (.cells #[.int .i64 line,.int .i64 at',.iface 64 (.int .i64 code)] 126 (0,0))
end Go.Proofs.Yy.Fa
end
section
namespace Go.Proofs.Yw.PrintLast
def up (b:Nat→Bool)(i:Nat):Nat→Bool:=fun j=>if j=i then true else b j
end Go.Proofs.Yw.PrintLast
end
section
namespace Go.Proofs.Yw.PrintWords
open Go.RowKit
section
variable {w w' u:World} {m B g:Nat} {o:Obj} {row:Option Nat} {S:Nat→Prop} {a:Addr} {v:Value}
theorem xh (hq:w.drewN m=w')(h:Below B u w):Below B u w':=by subst hq;exact aJ h m
end
namespace Kd
section
variable {α:Type} {d:Kd α} {e base n m:Nat} {ok:Nat→Prop} {w w':World} {v:Value} {A:Option Addr} {xs:List α}
theorem aeX (hq:w.drewN m=w')(h:d.R e w base ok v xs):d.R e w' base ok v xs:=by subst hq;exact bZ h m
end
end Kd
end Go.Proofs.Yw.PrintWords
end
section
set_option maxHeartbeats 8000000
set_option maxRecDepth 100000
namespace Go.Proofs.Yy.PTx
open Go.RowKit Go.Proofs.Yy.Z Go.Proofs.Yw.PrintWords Go.Proofs.Yw.PrintLast Go.Proofs.Yw.PrintMore
open Go.Proofs.Yy.M
attribute [local go_sem] dP eU lV lX lW lU
attribute [local go_sem] iq ik jE jD gu gq iE iD
def qL:Option Int→Value
 | none => .nilIface
 | some c => .iface 64 (.int .i64 c)
theorem aj:qL none=.nilIface:=rfl
theorem ah (c:Int):qL (some c)=.iface 64 (.int .i64 c):=rfl
theorem info3:(Tryz.prog.info? 3).map (fun i=>(i.zero,i.size,i.bytes))=some (some (.int .i64 0),1,8):=by kernel_rfl
theorem info5:(Tryz.prog.info? 5).map (fun i=>(i.zero,i.size,i.bytes))=some (some (.int .u8 0),1,1):=by kernel_rfl
theorem info25:(Tryz.prog.info? 25).map (fun i=>(i.zero,i.size,i.bytes))=some (some (.int .u64 0),1,8):=by kernel_rfl
def GZ (xs:List (List Int))(i:Int):(List Int):=xs.getD i.toNat ([]:List Int)
theorem alO {w:World}{A:Option Addr}{n:Nat}{xs:List (List Int)}(h:Kd.C (Kd.slice 25 (Kd.int .u64)) w A n xs)(i:Int)(h0:0≤i)(h1:i<n):∃ ad A0 c0,A=some ad∧w.cell? (ad.add i.toNat)=some (.slice A0 (GZ xs i).length c0)∧(GZ xs i).length≤c0∧(Kd.int .u64).C w A0 (GZ xs i).length (GZ xs i):=by
 obtain⟨ad,c,e,_,hK,hc0⟩:=Kd.Yk h ([]:List Int) i h0 h1;have hc:∀ j u,c[j]? = some u→w.cell? (ad.add (i.toNat*1+j))=some u:=hc0;obtain⟨A0,c0,rfl,l0,g0⟩:=hK;exact⟨ad,A0,c0,e,by have hq:=hc 0 _ rfl;rwa [Nat.mul_one,Nat.add_zero]at hq,l0,g0⟩
theorem al3 (d:Nat)(w:World)(x0 y0:Bool)(x1 y1:Bool)(x2 y2:ByteArray)(x3 y3:Int) :
  (Op.equalIn (d+2) 23 (.agg #[.bool x0,.bool x1,.string x2,.int .i64 x3]) (.agg #[.bool y0,.bool y1,.string y2,.int .i64 y3])).run Tryz.prog w=.ok (x0 == y0 && (x1 == y1 && (x2.toList == y2.toList && (x3 == y3)))) w:=by
 refine SV Tryz.underlying23 (by kernel_rfl) ?_;refine rf (by rfl) (by go_simp;rfl) (by go_simp;rfl) (by go_simp) ?_;refine rf (by rfl) (by go_simp;rfl) (by go_simp;rfl) (by go_simp) ?_;refine rf (by rfl) (by go_simp;rfl) (by go_simp;rfl) (by go_simp) ?_;exact Gx (by rfl) (by go_simp;rfl) (by go_simp;rfl) (by go_simp)
theorem agB (d:Nat)(w:World)(x0 y0:Int)(x1 y1:Bool)(x2 y2:Int)(x3 y3:Int)(x4 y4:Int)(x5 y5:Bool) :
  (Op.equalIn (d+2) 81 (.agg #[.int .i64 x0,.bool x1,.int .i64 x2,.int .u64 x3,.int .u64 x4,.bool x5]) (.agg #[.int .i64 y0,.bool y1,.int .i64 y2,.int .u64 y3,.int .u64 y4,.bool y5])).run Tryz.prog w=.ok (x0 == y0 && (x1 == y1 && (x2 == y2 && (x3 == y3 && (x4 == y4 && (x5 == y5)))))) w:=by
 refine SV Tryz.underlying81 (by kernel_rfl) ?_;refine rf (by rfl) (by go_simp;rfl) (by go_simp;rfl) (by go_simp) ?_;refine rf (by rfl) (by go_simp;rfl) (by go_simp;rfl) (by go_simp) ?_;refine rf (by rfl) (by go_simp;rfl) (by go_simp;rfl) (by go_simp) ?_;refine rf (by rfl) (by go_simp;rfl) (by go_simp;rfl) (by go_simp) ?_;refine rf (by rfl) (by go_simp;rfl) (by go_simp;rfl) (by go_simp) ?_;exact Gx (by rfl) (by go_simp;rfl) (by go_simp;rfl) (by go_simp)
end Go.Proofs.Yy.PTx
end
