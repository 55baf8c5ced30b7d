/- Part 7. -/
import Derived.Lib.TrailingZeros
import Derived.LaidEql
import Derived.Stop.Asserts
import Derived.Lib.LaidTab
import Derived.Test.YtpfnkbnepcchgaaGreatDoorKTPF
set_option linter.unusedSimpArgs false
set_option linter.unusedVariables false
section
namespace Go.Proofs.Yw.PrintWords
open Go.RowKit
namespace Kd
def chunks (sz:Nat)(n:Nat)(inner:List Value):List (List Value):=(List.range n).map fun j=>(inner.drop (j*sz)).take sz
theorem jc (sz n:Nat)(inner:List Value):(chunks sz n inner).length=n:=by simp[chunks]
theorem SE {sz n:Nat}{inner:List Value}{j:Nat}(hj:j<n):(chunks sz n inner)[j]? = some ((inner.drop (j*sz)).take sz):=by simp[chunks,hj]
theorem xe {sz n:Nat}{inner:List Value}{j:Nat}{c:List Value}(h:(chunks sz n inner)[j]? = some c):c=(inner.drop (j*sz)).take sz:=by
 have hj:j<n:=by have:=(List.getElem?_eq_some_iff.1 h).1;rwa [jc]at this
 rw[SE hj]at h
 injection h with h
 exact h.symm
theorem Hq {α:Type}{Rr:α→List Value→Prop}{sz:Nat}{xs:List α}{inner:List Value}(h:jW Rr sz xs inner)(hR:∀ x c,Rr x c→c.length=sz∧∀ u ∈ c,u.oneCell'=true):jW (fun x cs=>cs=x∧cs.length=sz∧∀ u ∈ cs,u.oneCell'=true) sz (chunks sz xs.length inner) inner:=by
 refine⟨by rw[jc];exact h.1,fun j p hj=>?_⟩
 have hjl:j<xs.length:=by have:=(List.getElem?_eq_some_iff.1 hj).1;rwa [jc]at this
 have hp:=xe hj;exact⟨hp.symm,hR _ _ (h.2 j _ (List.getElem?_eq_getElem hjl))⟩
section
variable {α:Type} {d:Kd α} {e base n cc g:Nat} {ok ok' okp S:Nat→Prop} {w w1 W W1:World} {A:Option Addr} {u v v1:Value} {xs:List α} {x:α} {c:List Value}
theorem amB (h:F d W ok A n xs)(z:α)(i:Int)(h0:0≤i)(h1:i<n) :
  ∃ ad c,A=some ad∧c.length=d.sz∧FK d W ok (xs.getD i.toNat z) c∧(∀ j u,c[j]? = some u→W.cell? (ad.add (i.toNat*d.sz+j))=some u)∧(0<d.sz→ok ad.block):=by
 obtain⟨ad,c,rfl,hcl,hK,hcc⟩:=XQ (af8 h) z i h0 h1
 have hin:0<d.sz→ok ad.block:=by
  intro hs
  by_cases hk:ok ad.block
  ·exact hk
  ·obtain⟨W',h2,h3⟩:=abj W ad.block
   obtain⟨ad',c',he,hcl',_,hcc'⟩:=XQ (h W' (fun k hk' _=>h2 k (fun e=>hk (e ▸ hk')))) z i h0 h1
   injection he with he
   subst he;have h4:=hcc' 0 _ (List.getElem?_eq_getElem (by omega));rw[h3 _ (add_block _ _)]at h4
   cases h4
 refine⟨ad,c,rfl,hcl,fun W' hW=>?_,hcc,hin⟩;obtain⟨ad',c',he,hcl',hK',hcc'⟩:=XQ (h W' hW) z i h0 h1
 injection he with he
 subst he
 have hc:c=c':=by
  apply List.ext_getElem?
  intro j
  by_cases hj:j<d.sz
  ·have hb:W'.heap[ad.block]? = W.heap[ad.block]?:=by
    have h5:=hcc j _ (List.getElem?_eq_getElem (by omega));have h6:=World.block_lt_of_cell? W _ h5;rw[add_block]at h6;exact hW _ (hin (by omega)) h6
   have h5:=hcc j _ (List.getElem?_eq_getElem (by omega));have h6:=hcc' j _ (List.getElem?_eq_getElem (by omega))
   have h7:W'.cell? (ad.add (i.toNat*d.sz+j))=W.cell? (ad.add (i.toNat*d.sz+j)):=by simp[World.cell?, add_block,hb]
   rw[h7,h5]at h6;rw[List.getElem?_eq_getElem (by omega),List.getElem?_eq_getElem (by omega)];exact h6
  ·rw[List.getElem?_eq_none (by omega),List.getElem?_eq_none (by omega)]
 rw[hc];exact hK'
def N {α:Type}(d:Kd α)(e:Nat)(w:World)(base:Nat)(ok:Nat→Prop)(v:Value)(xs:List α):Prop :=
 (∀ k,v.ownBlock=some k→ok k)∧∃ rows:List (List Value),rows.length=xs.length∧(raw d.sz).R e w base (fun k=>some k=v.ownBlock) v rows∧∀ (j:Nat) (x:α) (c:List Value),xs[j]? = some x→rows[j]? = some c→FK d w (fun k=>ok k∧some k≠v.ownBlock) x c
theorem Ue {sz:Nat}{rows:List (List Value)}(h:(raw sz).R e w base ok v rows):(raw sz).R e w base (fun k=>some k=v.ownBlock) v rows:=jX rfl h
theorem R_N (h:d.R e w base ok v xs):N d e w base ok v xs:=by
 obtain⟨h0,inner,ho,hr⟩:=h;refine⟨h0,chunks d.sz xs.length inner,jc _ _ _,⟨fun k hk=>hk.symm,inner,by rw[jc];exact ho,Hq hr (fun x c hp=>⟨d.K_len (d.K_of_M hp),d.K_one (d.K_of_M hp)⟩)⟩,fun j x c hx hc=>?_⟩;rw[xe hc];exact aaU (hr.2 j x hx)
theorem XO (d:Kd α)(e:Nat)(w:World)(base:Nat)(ok:Nat→Prop):N d e w base ok (.slice none 0 0) []:=R_N (GN _ _ _ _ _)
theorem Oh (h:N d e w base ok v xs):∀ k,v.ownBlock=some k→base≤k:=by
 obtain⟨_,rows,_,hR,_⟩:=h;exact gm hR
theorem Tq {base':Nat}(h:N d e w base ok v xs)(hb:base'≤base):N d e w base' ok v xs:=by
 obtain⟨h0,rows,hl,hR,hf⟩:=h;exact⟨h0,rows,hl,eu hR hb,hf⟩
theorem ZQ (h:N d e w base ok v xs)(hm:∀ k,ok k→k<w.heap.size→w1.heap[k]? = w.heap[k]?):N d e w1 base ok v xs:=by
 obtain⟨h0,rows,hl,hR,hf⟩:=h;exact⟨h0,rows,hl,JC hR (fun k hk hlt=>hm k (h0 k hk.symm) hlt),fun j x c hx hc=>Rl (hf j x c hx hc) (fun k hk hlt=>hm k hk.1 hlt)⟩
theorem uM (h:N d e w base ok v xs)(hb:Below w.heap.size w w1):N d e w1 base ok v xs:=ZQ h (fun k _ hk=>hb.block k hk)
theorem Aj (h:N d e w base ok v xs)(o:Obj):N d e (w.alloc o) base ok v xs:=uM h (bD (Below.refl _ _) o)
theorem CJ (h:N d e w base ok v xs):N d e w.drew base ok v xs:=uM h (wS (Below.refl _ _))
theorem Aa (h:N d e w base ok v xs)(m:Nat):N d e (w.drewN m) base ok v xs:=uM h (aK (Below.refl _ _) m)
theorem Lu (h:N d e w base ok v xs):∃ A c,v=.slice A xs.length c:=by
 obtain⟨_,rows,hl,hR,_⟩:=h;obtain⟨A,c,he⟩:=dZ hR;exact⟨A,c,by rw[he,hl]⟩
theorem NL {n c:Nat}(h:N d e w base ok (.slice A n c) xs):n=xs.length∧n≤c∧d.C w A xs.length xs:=by
 obtain⟨_,rows,hl,hR,hf⟩:=h;obtain⟨hn,hc,hC⟩:=aA hR;refine⟨by omega,hc,?_⟩;rw[hl]at hC;refine⟨rfl,hC.2.1,fun hp=>?_⟩;obtain⟨ad,he,hcell⟩:=hC.2.2 hp;refine⟨ad,he,fun j p hj=>?_⟩
 have hjl:j<rows.length:=by have:=(List.getElem?_eq_some_iff.1 hj).1;omega
 obtain⟨c',hcl,hK,hcc⟩:=hcell j _ (List.getElem?_eq_getElem hjl);have hk:=F5 (hf j p _ hj (List.getElem?_eq_getElem hjl));refine⟨c',hcl,?_,hcc⟩;rw[show c'=rows[j] from hK.1];exact hk
theorem N_F {n:Nat}(h:N d e w base ok (.slice A n cc) xs):F d w ok A n xs:=fun W' hW=>by
 have h2:=NL (ZQ h hW);rw[h2.1];exact h2.2.2
end
end Kd
end Go.Proofs.Yw.PrintWords
end
section
namespace Go.Proofs.Yw.PrintWords
open Go.RowKit
namespace Kd
section
variable {α:Type} {d:Kd α} {e base n cap g:Nat} {ok ok' okp:Nat→Prop} {w w1 W:World} {v v1:Value} {xs ys:List α}
theorem ZM {rows:List (List Value)}(hR:(raw d.sz).R e w1 base (fun k=>k=W.heap.size) v1 rows)(hg:W.grownBy w1 none)(hat:∃ b,v1.ownBlock=some b∧W.heap.size≤b)(hl:rows.length=xs.length)(hf:∀ (j:Nat) (x:α) (c:List Value),xs[j]? = some x→rows[j]? = some c→FK d W okp x c)
  (hok:∀ k,okp k→ok k) (hfresh:ok W.heap.size):N d e w1 base ok v1 xs:=by
 obtain⟨b,hb,hle⟩:=hat;refine⟨fun k hk=>by rw[hR.1 k hk];exact hfresh,rows,hl,Ue hR,fun j x c hx hc=>?_⟩;refine aaY (Rl (X3 (hf j x c hx hc)) (fun k hk hlt=>hg.block k hlt (by simp))) (fun k hk=>⟨hok k hk.1,fun he=>?_⟩);rw[hb]at he
 injection he with he
 have:=hk.2
 omega
end
section
variable {P:Program} {ops:Array Oper} {rest:List Oper} {o:Oper} {a:Act} {Q:Exit→Act→World→Prop} {Kc:Act→World→Prop} {α:Type}
theorem amD (d:Kd α){w0 W:World}(base e:Nat)(hgd:o.guard=none){N':Tmp}(_hd:o.dst=some N'){xs:List α}{inner:List Value}{ok okp:Nat→Prop}
  (hrun:(execOp a.eval o).run P W=.ok (.value (.slice (some ⟨W.heap.size,0,none⟩) xs.length xs.length)) (W.alloc (.cells inner.toArray e)))
  (hrep:jW (FK d W okp) d.sz xs inner) (hok:∀ k,okp k→ok k) (hfresh:ok W.heap.size) (HB:Below base w0 W) (hbase:base≤W.heap.size) (hm:xs.length≤9223372036854775807)
  (h:∀ v1 w1,N d e w1 base ok v1 xs→Below base w0 w1→W.grownBy w1 none→(∃ b,v1.ownBlock=some b∧W.heap.size≤b)→wpList P ops Q rest (a.put o.dst v1) w1) :
  wpList P ops Q (o::rest) a W:=by
 refine Bq (raw d.sz) base e hgd _hd (xs:=chunks d.sz xs.length inner) (inner:=inner) (ok:=fun k=>k=W.heap.size) (okp:=fun _=>False) (by rw[jc];exact hrun) (Hq hrep (fun y c hk=>⟨d.K_len (F5 hk),d.K_one (F5 hk)⟩)) (fun _ hk=>hk.elim) rfl HB hbase (by rw[jc];exact hm) ?_;intro v1 w1 hr hb hg hat;exact h v1 w1 (ZM hr hg hat (jc _ _ _) (fun j y c hy hc=>by rw[xe hc];exact hrep.2 j y hy) hok hfresh) hb hg hat
theorem O8 (d:Kd α){w0 W:World}(base e:Nat)(hw:Region.wanted o (yielded ops a.tmps)=true){N':Tmp}(_hd:o.dst=some N'){xs:List α}{inner:List Value}{ok okp:Nat→Prop}
  (hrun:(execOp a.eval o).run P W=.ok (.value (.slice (some ⟨W.heap.size,0,none⟩) xs.length xs.length)) (W.alloc (.cells inner.toArray e)))
  (hrep:jW (FK d W okp) d.sz xs inner) (hok:∀ k,okp k→ok k) (hfresh:ok W.heap.size) (HB:Below base w0 W) (hbase:base≤W.heap.size) (hm:xs.length≤9223372036854775807)
  (h:∀ v1 w1,N d e w1 base ok v1 xs→Below base w0 w1→W.grownBy w1 none→(∃ b,v1.ownBlock=some b∧W.heap.size≤b)→Kc (a.put o.dst v1) w1) :
  if Region.wanted o (yielded ops a.tmps)=true then Oper.wp P o a W Kc Q else Kc (a.put o.dst undef) W:=by
 refine FM (raw d.sz) base e hw _hd (xs:=chunks d.sz xs.length inner) (inner:=inner) (ok:=fun k=>k=W.heap.size) (okp:=fun _=>False) (by rw[jc];exact hrun) (Hq hrep (fun y c hk=>⟨d.K_len (F5 hk),d.K_one (F5 hk)⟩)) (fun _ hk=>hk.elim) rfl HB hbase (by rw[jc];exact hm) ?_;intro v1 w1 hr hb hg hat;exact h v1 w1 (ZM hr hg hat (jc _ _ _) (fun j y c hy hc=>by rw[xe hc];exact hrep.2 j y hy) hok hfresh) hb hg hat
end
end Kd
end Go.Proofs.Yw.PrintWords
end
section
namespace Go.Proofs.Yw.PrintMore
open Go.RowKit Go.Proofs.Yw.PrintWords
namespace Kd
open Go.Proofs.Yw.PrintWords.Kd
end Kd
namespace Kd
open Go.Proofs.Yw.PrintWords.Kd
section
variable {α:Type} {d:Kd α} {e base g N:Nat} {ok:Nat→Prop} {W w1:World} {u v:Value} {xs:List α}
theorem acg (hu:d.R e W base ok u xs)(hb:Below W.heap.size W w1):d.R e w1 base (fun k=>ok k∧k<W.heap.size) u xs :=
 dw (Dx (uF hu) hb) (fun _ h=>⟨h.1,h.2.2.1⟩)
theorem Fj (h:d.R e w1 base (fun k=>ok k∧k<N) u xs)(hbase:∀ k,v.ownBlock=some k→N≤k):d.R e w1 base (fun k=>(ok k∧some k≠v.ownBlock)∧k<N) u xs :=
 dw h (fun k hk=>⟨⟨hk.1,fun e=>Nat.lt_irrefl _ (Nat.lt_of_lt_of_le hk.2 (hbase k e.symm))⟩,hk.2⟩)
end
end Kd
theorem gI (k k':IntKind)(x y:Int):Builtin.max2 (.int k x) (.int k' y)=pure (.int k (if x<y then y else x)):=by simp only[Builtin.max2,gt_iff_lt]
theorem gG (k k':IntKind)(x y:Int):Builtin.min2 (.int k x) (.int k' y)=pure (.int k (if y<x then y else x)):=by simp only[Builtin.min2]
theorem iP (ats:Array TypeId)(ty:TypeId)(a b:Value):Builtin.max_ ats ty #[a,b]=(Builtin.max2 a b >>= fun s=>pure s):=by simp only[Builtin.max_,List.foldlM_cons,List.foldlM_nil]
theorem iR (ats:Array TypeId)(ty:TypeId)(a b:Value):Builtin.min_ ats ty #[a,b]=(Builtin.min2 a b >>= fun s=>pure s):=by simp only[Builtin.min_,List.foldlM_cons,List.foldlM_nil]
theorem fF (ats:Array TypeId)(ty:TypeId)(a b c:Value):Builtin.max_ ats ty #[a,b,c]=(Builtin.max2 a b >>= fun s=>Builtin.max2 s c >>= fun s=>pure s):=by simp only[Builtin.max_,List.foldlM_cons,List.foldlM_nil]
theorem fG (ats:Array TypeId)(ty:TypeId)(a b c:Value):Builtin.min_ ats ty #[a,b,c]=(Builtin.min2 a b >>= fun s=>Builtin.min2 s c >>= fun s=>pure s):=by simp only[Builtin.min_,List.foldlM_cons,List.foldlM_nil]
theorem gW (ats:Array TypeId)(ty:TypeId)(a b c d:Value):Builtin.max_ ats ty #[a,b,c,d]=(Builtin.max2 a b >>= fun s=>Builtin.max2 s c >>= fun s=>Builtin.max2 s d >>= fun s=>pure s):=by simp only[Builtin.max_,List.foldlM_cons,List.foldlM_nil]
theorem gV (ats:Array TypeId)(ty:TypeId)(a b c d:Value):Builtin.min_ ats ty #[a,b,c,d]=(Builtin.min2 a b >>= fun s=>Builtin.min2 s c >>= fun s=>Builtin.min2 s d >>= fun s=>pure s):=by simp only[Builtin.min_,List.foldlM_cons,List.foldlM_nil]
end Go.Proofs.Yw.PrintMore
namespace Go.Proofs.Yw.PrintWords
open Go.RowKit
section
variable {P:Program} {ops:Array Oper} {rest:List Oper} {o:Oper} {a:Act} {Q:Exit→Act→World→Prop} {W:World}
theorem af {f:FuncId}{as_:Array Operand}{ts:Array TypeId}(_ho:o.op=.call { callee := .value (.func f),args:=as_,argTypes:=ts })(h:wpList P ops Q (o::rest) a W):wpList P ops Q (o::rest) a W:=h
theorem eG {b:Builtin}{xs:Array Operand}{ts:Array TypeId}(_ho:o.op=.call { callee := .builtin b,args:=xs,argTypes:=ts })(h:wpList P ops Q (o::rest) a W):wpList P ops Q (o::rest) a W:=h
end
def mx (a b:Int):Int:=if a<b then b else a
def mn (a b:Int):Int:=if b<a then b else a
def shl (k:IntKind)(x y:Int):Int:=k.wrap (x*2 ^ min y.toNat k.bits)
def shr (k:IntKind)(x y:Int):Int:=x / 2 ^ min y.toNat k.bits
theorem iW {k:IntKind}{x y j:Int}(h:shl k x y=j)(hy:y≤k.bits):k.wrap (x*2 ^ y.toNat)=j:=by rw[← h];unfold shl;rw[Nat.min_eq_left (by omega)]
theorem kE {k:IntKind}{x y j:Int}(h:shr k x y=j)(hy:y≤k.bits):x / 2 ^ y.toNat=j:=by rw[← h];unfold shr;rw[Nat.min_eq_left (by omega)]
theorem fZ (w:World)(n:Nat):w.drewN n=w.drewN n:=rfl
namespace Kd
section
variable {α:Type} {d:Kd α} {e base b b' g N:Nat} {ok ok1:Nat→Prop} {W W2 w1:World} {u v:Value} {xs ys:List α} {S:Nat→Prop}
theorem Zu (hE:d.E=[])(h:d.R e W base ok1 v xs)(hok:∀ k,v.ownBlock=some k→ok k):d.R e W base ok v xs:=dw (jX hE h) (fun k hk=>hok k hk.symm)
theorem rV (h:d.R e W base ok v xs)(hk:Kept W W2 S)(hne:∀ k,ok k→¬ S k):d.R e W2 base (fun k=>ok k∧(¬ S k∧k<W.heap.size)) v xs :=
 agI (dw (uF h) (fun k hk=>⟨hk.1,hne k hk.1,hk.2.2.1⟩)) hk (fun _ hk=>hk.2.1)
end
end Kd
end Go.Proofs.Yw.PrintWords
namespace Go.Proofs.Yw.PrintWords
open Go.RowKit
namespace Kd
def V {α:Type}(d:Kd α)(_e:Nat)(W:World)(_base:Nat)(ok:Nat→Prop)(v:Value)(xs:List α):Prop := ∃ A c,v=.slice A xs.length c∧xs.length≤c∧F d W ok A xs.length xs
section
variable {α β:Type} {d:Kd α} {e base base' n m c g N' lo hi:Nat} {ok ok' S:Nat→Prop} {w W w1:World} {A:Option Addr} {ad:Addr} {u v v1:Value} {xs:List α}
theorem EK (h:V d e W base ok v xs)(hF:∀ A,F d W ok A xs.length xs→F d w1 ok' A xs.length xs):V d e w1 base' ok' v xs:=by
 obtain⟨A,c,hv,hl,hf⟩:=h;exact⟨A,c,hv,hl,hF A hf⟩
theorem IL (hl:xs.length≤c)(hf:F d W ok A xs.length xs):V d e W base ok (.slice A xs.length c) xs:=⟨A,c,rfl,hl,hf⟩
theorem fJ (h:V d e W base ok v xs):∃ A c,v=.slice A xs.length c:=by
 obtain⟨A,c,hv,_⟩:=h;exact⟨A,c,hv⟩
theorem Wy (h:V d e W base ok (.slice A n c) xs):n=xs.length∧n≤c∧F d W ok A xs.length xs:=by
 obtain⟨A',c',hv,hl,hf⟩:=h
 injection hv with ha hn hc
 subst ha;subst hc;exact⟨hn,by rw[hn];exact hl,hf⟩
theorem bf (h:V d e W base ok (.slice A n c) xs):n=xs.length∧n≤c∧d.C W A xs.length xs:=⟨(Wy h).1,(Wy h).2.1,af8 (Wy h).2.2⟩
theorem V_F (h:V d e W base ok (.slice A n c) xs):F d W ok A n xs:=by
 obtain⟨hn,_,hf⟩:=Wy h;rw[hn];exact hf
theorem JB (d:Kd α)(e:Nat)(W:World)(base:Nat)(ok:Nat→Prop):V d e W base ok (.slice none 0 0) []:=⟨none,0,rfl,Nat.le_refl _,amc d W ok⟩
theorem R_V (h:d.R e W base ok v xs):V d e W base' ok v xs:=by
 obtain⟨A,c,rfl⟩:=dZ h;exact⟨A,c,rfl,(aA h).2.1,R_F h⟩
theorem N_V (h:N d e W base ok v xs):V d e W base' ok v xs:=by
 obtain⟨A,c,rfl⟩:=Lu h;exact⟨A,c,rfl,(NL h).2.1,N_F h⟩
theorem cO (h:V d e W base ok v xs)(hok:∀ k,ok k→ok' k):V d e W base ok' v xs:=EK h (fun _ hf=>OA hf hok)
theorem acm (h:V d e W base ok v xs):V d e W base (fun k=>ok k∧k<W.heap.size) v xs:=EK h (fun _ hf=>SS hf)
theorem dV (h:V d e W base ok v xs)(_:base'≤base):V d e W base' ok v xs:=h
theorem abm (h:V d e W base ok v xs)(hb:Below W.heap.size W w1):V d e w1 base ok v xs:=EK h (fun _ hf=>ou hf hb)
theorem jJ (h:V d e W base ok v xs)(o:Obj):V d e (W.alloc o) base ok v xs:=EK h (fun _ hf=>aa8 hf o)
theorem jq (h:V d e W base ok v xs):V d e W.drew base ok v xs:=EK h (fun _ hf=>afD hf)
theorem jK (h:V d e W base ok v xs)(m:Nat):V d e (W.drewN m) base ok v xs:=EK h (fun _ hf=>abL hf m)
theorem ZN (h:V d e W base ok v xs)(hk:Kept W w1 S)(hok:∀ k,ok k→¬ S k):V d e w1 base ok v xs:=EK h (fun _ hf=>age hf hk hok)
theorem abO (h:V d e W base (fun k=>ok k∧some k≠u.ownBlock) v xs)(hg:W.grownBy w1 u.ownBlock)(hat:v1.ownBlock=u.ownBlock∨∃ b,v1.ownBlock=some b∧W.heap.size≤b):V d e w1 base (fun k=>ok k∧some k≠v1.ownBlock) v xs:=EK h (fun _ hf=>abR hf hg hat)
theorem jr (h:V d e W base (fun k=>ok k∧some k≠v.ownBlock) u xs)(hg:W.grownBy w1 v.ownBlock)(hat:v1.ownBlock=v.ownBlock∨∃ b,v1.ownBlock=some b∧W.heap.size≤b):V d e w1 base (fun k=>ok k∧some k≠v1.ownBlock) u xs:=abO h hg hat
theorem oz (h:V d e W base ok v xs):V d e W base (fun k=>ok k∧some k≠(Value.slice none 0 0).ownBlock) v xs:=EK h (fun _ hf=>Lp hf)
theorem jG (h:V d e W base ok v xs)(hbase:∀ k,u.ownBlock=some k→W.heap.size≤k)(hb:Below W.heap.size W w1):V d e w1 base (fun k=>ok k∧some k≠u.ownBlock) v xs:=EK h (fun _ hf=>WY hf hbase hb)
theorem Tf (h:V d e W base ok v xs)(hk:Kept W w1 S)(hne:∀ k,ok k→¬ S k):V d e w1 base (fun k=>ok k∧(¬ S k∧k<W.heap.size)) v xs :=
 ZN (cO (acm h) (fun k hk=>⟨hk.1,hne k hk.1,hk.2⟩)) hk (fun _ hk=>hk.2.1)
theorem amv (h:V d e W base ok (.slice (some ad) n c) xs)(z:α)(i:Int)(h0:0≤i)(h1:i<n) :
  ∃ cs,cs.length=d.sz∧FK d W ok (xs.getD i.toNat z) cs∧∀ j u,cs[j]? = some u→W.cell? (ad.add (i.toNat*d.sz+j))=some u:=by
 obtain⟨ad',cs,he,hcl,hK,hcc,_⟩:=amB (V_F h) z i h0 h1
 injection he with he
 subst he;exact⟨cs,hcl,hK,hcc⟩
theorem Jb (h:F d W ok A xs.length xs)(hm:m≤xs.length):F d W ok A (xs.take m).length (xs.take m):=agL h (fun _ hC=>Zt hC hm)
theorem ame (h:F d W ok A xs.length xs)(hm:m≤xs.length)(hc:xs.length≤c):F d W ok (if c=m then A else A.map (·.add (m*d.sz))) (xs.drop m).length (xs.drop m):=agL h (fun _ hC=>Ud hC hm hc)
theorem Hl {l:List α}{cs:List Value}(h:FK (Kd.slice e d) W ok l cs):∃ A c,cs=[.slice A l.length c]∧l.length≤c∧F d W ok A l.length l:=by
 obtain⟨A,c,rfl,hl,_⟩:=F5 h;refine⟨A,c,rfl,hl,fun W' hW=>?_⟩;obtain⟨A',c',he,_,g'⟩:=h W' hW
 injection he with he _
 injection he with ha _ _
 rw[ha];exact g'
theorem uC {l:List α}(hl:l.length≤c)(hf:F d W ok A l.length l):FK (Kd.slice e d) W ok l [.slice A l.length c]:=fun W' hW=>⟨A,c,rfl,hl,hf W' hW⟩
theorem Di (h:V d e W base ok (.slice A n c) xs)(hok:∀ k,ok k→¬ S k):∀ W',Kept W W' S→d.C W' A n xs:=fun W' hk=>by
 have h2:=bf (ZN h hk hok);rw[h2.1];exact h2.2.2
theorem oI {M:Nat→Prop}(h:d.R e w1 W.heap.size ok v xs)(hle:w.heap.size≤W.heap.size)(hM:∀ k,w.heap.size≤k→M k):d.R e w1 W.heap.size (fun k=>M k∧ok k) v xs:=dw (uF h) (fun k hk=>⟨hM k (Nat.le_trans hle hk.2.1),hk.1⟩)
end
end Kd
end Go.Proofs.Yw.PrintWords
end
section
namespace Go.Proofs.Yy.Z
open Go.RowKit Go.Proofs.Yw.PrintWords Go.Proofs.Yw.PrintLast Go.Proofs.Yw.PrintMore
section
variable {p:Prop} {α β:Type} {d:Kd α} {e base n g i:Nat} {ok:Nat→Prop} {w w0 W W1:World} {A:Option Addr} {u v:Value} {xs:List α} {o:Obj} {t:TypeId} {cs:Array Value}
theorem z1 (h:p:=by first|rfl|(simp;done)|(simp[*];done)):p:=h
theorem z2 (h:p:=by first|rfl|(simp[au,ax] <;> rfl)|(simp[*, au,ax] <;> rfl)):p:=h
theorem z3 (h:p:=by first|rfl|(simp[au,ax] <;> rfl)):p:=h
theorem z5 (h:p:=by first|omega|exact Nat.le_refl _):p:=h
theorem zD [Decidable p](h:decide p=true:=by first|(with_reducible assumption)|assumption):p:=of_decide_eq_true h
theorem z4 (h:p:=by repeat (first|exact dR.refl _|apply dR.step)):p:=h
theorem zN (h:p:=by first|exact Kd.GN _ _ _ _ _|exact Kd.XO _ _ _ _ _|exact Kd.JB _ _ _ _ _|exact Kd.Xg _ _ _ _ _|exact Kd.XE _ _ _ _ _):p:=h
theorem zL:ae (n≤n):=⟨Nat.le_refl n⟩
theorem zH {a b:Nat}(h:ae (a+1≤b)):ae (a≤b):=⟨Nat.le_of_succ_le h.out⟩
theorem zB (h:ae (Below base w w0))(k:Below base w w0→Below base w W:=by (intro h_;repeat (first|(with_reducible first|exact h_|apply bD|apply aK|apply aX|refine bQ ?_ (ae.out (by assumption)))|exact h_))):Below base w W:=k h.out
theorem zS (h:ae (Below w.heap.size w w0))(k:Below w.heap.size w w0→Below w.heap.size w W:=by (intro h_;repeat (first|(with_reducible first|exact h_|apply bD|apply aK|apply aX|refine bQ ?_ (ae.out (by assumption)))|exact h_))):w.heap.size≤W.heap.size:=wY (k h.out)
theorem zBs (h:ae (Below w.heap.size w w0))(hb:Below W.heap.size W W1)(k:Below w.heap.size w w0→Below w.heap.size w W:=by (intro h_;repeat (first|(with_reducible first|exact h_|apply bD|apply aK|apply aX|refine bQ ?_ (ae.out (by assumption)))|exact h_))):ae (Below w.heap.size w W1):=⟨oJ (k h.out) hb⟩
theorem zR (h:ae (d.R e w base ok v xs))(k:d.R e w base ok v xs→d.R e W base ok v xs:=by (intro h_;(with_reducible repeat (first|apply Kd.dh|apply Kd.df|apply Kd.dJ));exact h_)):d.R e W base ok v xs:=k h.out
theorem zV (h:ae (d.V e w base ok v xs))(k:d.V e w base ok v xs→d.V e W base ok v xs:=by (intro h_;(with_reducible repeat (first|apply Kd.jJ|apply Kd.jK|apply Kd.jq));exact h_)):d.V e W base ok v xs:=k h.out
theorem zRb (h:ae (d.R e w base ok v xs))(hb:Below W.heap.size W W1)(k:d.R e w base ok v xs→d.R e W base ok v xs:=by (intro h_;(with_reducible repeat (first|apply Kd.dh|apply Kd.df|apply Kd.dJ));exact h_)):ae (d.R e W1 base ok v xs):=⟨Kd.Dx (k h.out) hb⟩
theorem zVb (h:ae (d.V e w base ok v xs))(hb:Below W.heap.size W W1)(k:d.V e w base ok v xs→d.V e W base ok v xs:=by (intro h_;(with_reducible repeat (first|apply Kd.jJ|apply Kd.jK|apply Kd.jq));exact h_)):ae (d.V e W1 base ok v xs):=⟨Kd.abm (k h.out) hb⟩
theorem zC (h:d.C w A n xs)(k:d.C w A n xs→d.C W A n xs:=by (intro h_;repeat (first|(with_reducible exact h_)|(with_reducible refine Kd.lm ?_ _)|(with_reducible refine Kd.lg ?_ _)|(with_reducible refine Kd.nZ ?_)|exact h_))):d.C W A n xs:=k h
theorem zK (h:ae (w.heap[g]? = some o))(k:w.heap[g]? = some o→W.heap[g]? = some o:=by (intro h_;repeat (first|with_reducible exact h_|with_reducible refine lN ?_ _|with_reducible refine dX ?_|with_reducible refine kG ?_ _|refine jy ?_ (ae.out (by assumption)) _|exact h_))):W.heap[g]? = some o:=k h.out
theorem zKb (h:ae (w.heap[g]? = some o))(hb:Below W.heap.size W W1)(k:w.heap[g]? = some o→W.heap[g]? = some o:=by (intro h_;repeat (first|with_reducible exact h_|with_reducible refine lN ?_ _|with_reducible refine dX ?_|with_reducible refine kG ?_ _|refine jy ?_ (ae.out (by assumption)) _|exact h_))):ae (W1.heap[g]? = some o):=⟨dW (k h.out) hb⟩
theorem zG (hg:g=W.heap.size)(h:ae (Below w.heap.size w w0))(k:Below w.heap.size w w0→Below w.heap.size w W:=by (intro h_;repeat (first|(with_reducible first|exact h_|apply bD|apply aK|apply aX|refine bQ ?_ (ae.out (by assumption)))|exact h_))):ae (w.heap.size≤g):=⟨by rw[hg];exact wY (k h.out)⟩
theorem zNl {g':Nat}(hg:g'=W.heap.size)(h:ae (w.heap[g]? = some o))(k:w.heap[g]? = some o→W.heap[g]? = some o:=by (intro h_;repeat (first|with_reducible exact h_|with_reducible refine lN ?_ _|with_reducible refine dX ?_|with_reducible refine kG ?_ _|refine jy ?_ (ae.out (by assumption)) _|exact h_))):ae (g≠g'):=⟨by rw[hg];exact Nat.ne_of_lt (AO (k h.out))⟩
theorem zNg {g':Nat}(hg:g'=W.heap.size)(h:ae (w.heap[g]? = some o))(k:w.heap[g]? = some o→W.heap[g]? = some o:=by (intro h_;repeat (first|with_reducible exact h_|with_reducible refine lN ?_ _|with_reducible refine dX ?_|with_reducible refine kG ?_ _|refine jy ?_ (ae.out (by assumption)) _|exact h_))):ae (g'≠g):=⟨by rw[hg];exact Nat.ne_of_gt (AO (k h.out))⟩
theorem zl (h:ae (w.heap[g]? = some (.cells cs t (0,0))))(i:Nat)(k:cs[i]? = some v:=by exact rfl):w.cell? ⟨g,i,none⟩=some v:=(ag h.out i).trans k
theorem zA {q r:Prop}[Decidable p][Decidable q](f:p→q→r)(hp:decide p=true:=by first|(with_reducible assumption)|assumption)(hq:decide q=true:=by first|(with_reducible assumption)|assumption):(p=True)∧(q=True)∧r:=⟨eq_true (of_decide_eq_true hp),eq_true (of_decide_eq_true hq),f (of_decide_eq_true hp) (of_decide_eq_true hq)⟩
theorem zY {x y:β}(h:x=y):ae (y=x):=⟨h.symm⟩
end
section
variable {α β:Type} {P Q:Prop} [Decidable P] {a b:α} {r:Option β} {x y:Option β} {s:β}
theorem zz {q:Prop}(h:ae (x=some s))(k:x=none):q:=nomatch k.symm.trans h.out
theorem zn {q:Prop}(h:ae ((none:Option β)=some s)):q:=nomatch h.out
theorem zi (h:ae ((if P then x else none)=some s)):P∧ae (x=some s):=by
 have k:=h.out
 by_cases c:P
 ·rw[if_pos c]at k;exact⟨c,⟨k⟩⟩
 ·rw[if_neg c]at k;exact nomatch k
theorem zj (h:ae ((if P then none else x)=some s)):¬ P∧ae (x=some s):=by
 have k:=h.out
 by_cases c:P
 ·rw[if_pos c]at k;exact nomatch k
 ·rw[if_neg c]at k;exact⟨c,⟨k⟩⟩
theorem zs (h:ae ((if P then x else y)=r)):P∧ae (x=r)∨¬ P∧ae (y=r):=by
 have k:=h.out
 by_cases c:P
 ·rw[if_pos c]at k;exact .inl ⟨c,⟨k⟩⟩
 ·rw[if_neg c]at k;exact .inr ⟨c,⟨k⟩⟩
theorem zid (h:ae ((if P then x else none)=some s)):decide P=true∧ae (x=some s):=⟨decide_eq_true (zi h).1,(zi h).2⟩
theorem zit (h:ae ((if P then x else none)=some s)):(P=True)∧decide P=true∧ae (x=some s):=⟨eq_true (zi h).1,decide_eq_true (zi h).1,(zi h).2⟩
theorem zil (h:ae ((if P then x else none)=some s)):ae P∧ae (x=some s):=⟨⟨(zi h).1⟩,(zi h).2⟩
theorem zjd (h:ae ((if P then none else x)=some s)):decide P=false∧ae (x=some s):=⟨decide_eq_false (zj h).1,(zj h).2⟩
theorem zsd (h:ae ((if P then x else y)=r)):decide P=true∧ae (x=r)∨decide P=false∧ae (y=r):=(zs h).imp (fun k=>⟨decide_eq_true k.1,k.2⟩) (fun k=>⟨decide_eq_false k.1,k.2⟩)
theorem zb1 (h:ae ((if P then x else y)=r))(k:P:=by first|rfl|trivial|simp):ae (x=r):=⟨by have k':=h.out;rw[if_pos k]at k';exact k'⟩
theorem zb0 (h:ae ((if P then x else y)=r))(k:¬ P:=by first|decide|simp):ae (y=r):=⟨by have k':=h.out;rw[if_neg k]at k';exact k'⟩
theorem zo {f:α→Option β}{o:Option α}(h:ae (o.bind f=some s)):∃ t,ae (o=some t)∧ae (f t=some s):=by obtain⟨t,h1,h2⟩:=Option.bind_eq_some_iff.mp h.out;exact⟨t,⟨h1⟩,⟨h2⟩⟩
end
section
variable {β:Type} {a b:Int} {r x y:Option β} {s:β}
theorem auj [Decidable (a > b)](h:ae ((if a > b then none else x)=some s)):decide (b<a)=false∧ae (x=some s):=⟨decide_eq_false (zj h).1,(zj h).2⟩
theorem ayB [Decidable (a≥b)](h:ae ((if a≥b then none else x)=some s)):decide (b≤a)=false∧ae (x=some s):=⟨decide_eq_false (zj h).1,(zj h).2⟩
theorem AV [Decidable (a > b)](h:ae ((if a > b then x else y)=r)):decide (b<a)=true∧ae (x=r)∨decide (b<a)=false∧ae (y=r):=(zs h).imp (fun k=>⟨decide_eq_true k.1,k.2⟩) (fun k=>⟨decide_eq_false k.1,k.2⟩)
theorem yH [Decidable (a≥b)](h:ae ((if a≥b then x else y)=r)):decide (b≤a)=true∧ae (x=r)∨decide (b≤a)=false∧ae (y=r):=(zs h).imp (fun k=>⟨decide_eq_true k.1,k.2⟩) (fun k=>⟨decide_eq_false k.1,k.2⟩)
end
section
variable {P:Program} {ops:Array Oper} {Q:Exit→Act→World→Prop} {md:Region.Mode} {S:World→Prop} {ds:List Nat} {rest:List Oper} {oi:Oper} {a a':Act} {w:World}
theorem zc (N:Option Tmp){f:FuncId}{fn:Func}(hf:P.funcs[f]? = some fn)(args:Array Value){os:Array Operand}{ts:Array TypeId}{q:Ending→World→Prop}(hc:Calls P f args w q)
  (h:∀ e w',q e w'→∃ v,e=.returned v∧wpList P ops Q rest (a.put N v) w')
  (hd : oi.dst = N := by exact rfl) (hg : oi.guard = none := by exact rfl) (hname : (fn.name == "runtime.NumGoroutine") = false := by kernel_rfl) (hb : fn.body.isSome = true := by exact rfl)
  (hop:oi.op=.call { callee := .value (.func f),args:=os,argTypes:=ts }:=by exact rfl)
  (hargs:os.map a.eval=args:=by (try simp only[List.map_toArray,List.map_cons,List.map_nil]);first|done|rfl|(simp only[List.length_drop,List.length_take];rfl)):wpList P ops Q (oi::rest) a w :=
 jS N hd hg hf hname hb args hop hargs (hc.mono h)
theorem zp {T:Bool × List (List Nat × List Nat)}(hT:ae (rG md ops=T))(i:Nat)(N:Option Tmp){v:Value}{fuel:Nat}{l:Array Bool}
  (h:dD P md ops Q S ds fuel (l.setIfInBounds i true) a' w)
  (hi:ops[i]? = some oi:=by exact rfl) (hN:oi.dst=N:=by exact rfl) (hc:amz T l.toList (l.setIfInBounds i true).toList i=true:=by kernel_rfl)
  (hQ:∀ c a w,Q (.panic c) (a.put oi.dst v) w→Q (.panic c) a w:=by exact (fun _ _ _ h=>h)) (hy:Yields P ops oi v a:=by (refine Or.inl ⟨by rfl,?_⟩;intro w';go_simp;with_reducible rfl)) (ha:a.put N v=a':=by (simp only[Act.put,List.setIfInBounds_toArray,List.set_cons_zero,List.set_cons_succ,cu,fQ];rfl)):dD P md ops Q S ds (fuel+1) l a w :=
 Lr (l.setIfInBounds i true) hi hN (CU hT.out hc) hQ hy ha h
theorem zt {T:Bool × List (List Nat × List Nat)}{B:List Nat}(hT:ae (rG md ops=T))(hW:ae (jb T.2 B=true))(i:Nat)(N:Option Tmp)(hS:S w){v:Value}{fuel:Nat}{l:Array Bool}
  (h:dD P md ops Q S ds fuel (l.setIfInBounds i true) a' w)
  (hi:ops[i]? = some oi:=by exact rfl) (hN:oi.dst=N:=by exact rfl) (hc:abJ T B ds l.toList (l.setIfInBounds i true).toList i=true:=by kernel_rfl)
  (hQ:∀ c a w,Q (.panic c) (a.put oi.dst v) w→Q (.panic c) a w:=by exact (fun _ _ _ h=>h)) (hy:YieldsIf P ops S oi v a:=by (refine Or.inl ⟨by rfl,?_⟩;intro w' hs_;(repeat (obtain⟨_,hs_⟩:=hs_));go_simp;with_reducible rfl)) (ha:a.put N v=a':=by (simp only[Act.put,List.setIfInBounds_toArray,List.set_cons_zero,List.set_cons_succ,cu,fQ];rfl)):dD P md ops Q S ds (fuel+1) l a w :=
 abe (l.setIfInBounds i true) hi hN (WT hT.out hW.out hc) hQ hy hS ha h
end
theorem zw {α β:Type}{r:Option β}{f:α→Option β}{o:α}(h:ae ((some o).bind f=r)):∃ y,ae (y=o)∧ae (f y=r):=⟨o,⟨rfl⟩,⟨h.out⟩⟩
theorem Xc {w:World}{g:Nat}{o:Obj}(h:w.heap[g]? = some o){p:Addr}(hp:g≠p.block)(u:Value):(w.setCell p u).heap[g]? = some o:=(Below.heap_setCell w p u g hp).trans h
theorem zKp {w W:World}{g:Nat}{t:TypeId}{cs cs1 cs2:Array Value}(h:ae (w.heap[g]? = some (.cells cs t (0,0))))(k:w.heap[g]? = some (.cells cs t (0,0))→W.heap[g]? = some (.cells cs1 t (0,0)):=by (intro h_;repeat (first|with_reducible exact h_|with_reducible refine lN ?_ _|with_reducible refine dX ?_|with_reducible refine kG ?_ _|apply rY|refine Xc ?_ (ae.out (by assumption)) _|exact h_)))(e:cs1=cs2:=by exact rfl):W.heap[g]? = some (.cells cs2 t (0,0)):=e ▸ k h.out
section
variable {α β:Type} [BEq α] [LawfulBEq α] {a b:α} [Decidable (a=b)] {r x y:Option β} {s:β}
theorem zjk (h:ae ((if a=b then none else x)=some s)):(a == b)=false∧(a != b)=true∧¬ a=b∧ae (x=some s):=⟨beq_eq_false_iff_ne.mpr (zj h).1,bne_iff_ne.mpr (zj h).1,(zj h).1,(zj h).2⟩
theorem zsk (h:ae ((if a=b then x else y)=r)):(a == b)=true∧(a != b)=false∧ae (x=r)∨(a == b)=false∧(a != b)=true∧¬ a=b∧ae (y=r):=(zs h).imp (fun k=>⟨beq_iff_eq.mpr k.1,bne_eq_false_iff_eq.mpr k.1,k.2⟩) (fun k=>⟨beq_eq_false_iff_ne.mpr k.1,bne_iff_ne.mpr k.1,k.1,k.2⟩)
end
theorem zf2 {w:World}{g:Nat}{t:TypeId}{a0 a1:Value}(h:ae (w.heap[g]? = some (.cells #[a0,a1] t (0,0)))):w.cell? ⟨g,0,none⟩=some a0∧w.cell? ⟨g,1,none⟩=some a1∧w.frozen? ⟨g,0,none⟩=false∧w.frozen? ⟨g,1,none⟩=false:=⟨(ag h.out 0).trans rfl,(ag h.out 1).trans rfl,aj h.out 0,aj h.out 1⟩
theorem zf4 {w:World}{g:Nat}{t:TypeId}{a0 a1 a2 a3:Value}(h:ae (w.heap[g]? = some (.cells #[a0,a1,a2,a3] t (0,0)))):w.cell? ⟨g,0,none⟩=some a0∧w.cell? ⟨g,1,none⟩=some a1∧w.cell? ⟨g,2,none⟩=some a2∧w.cell? ⟨g,3,none⟩=some a3∧w.frozen? ⟨g,0,none⟩=false∧w.frozen? ⟨g,1,none⟩=false∧w.frozen? ⟨g,2,none⟩=false∧w.frozen? ⟨g,3,none⟩=false:=⟨(ag h.out 0).trans rfl,(ag h.out 1).trans rfl,(ag h.out 2).trans rfl,(ag h.out 3).trans rfl,aj h.out 0,aj h.out 1,aj h.out 2,aj h.out 3⟩
theorem zf5 {w:World}{g:Nat}{t:TypeId}{a0 a1 a2 a3 a4:Value}(h:ae (w.heap[g]? = some (.cells #[a0,a1,a2,a3,a4] t (0,0)))):w.cell? ⟨g,0,none⟩=some a0∧w.cell? ⟨g,1,none⟩=some a1∧w.cell? ⟨g,2,none⟩=some a2∧w.cell? ⟨g,3,none⟩=some a3∧w.cell? ⟨g,4,none⟩=some a4∧w.frozen? ⟨g,0,none⟩=false∧w.frozen? ⟨g,1,none⟩=false∧w.frozen? ⟨g,2,none⟩=false∧w.frozen? ⟨g,3,none⟩=false∧w.frozen? ⟨g,4,none⟩=false:=⟨(ag h.out 0).trans rfl,(ag h.out 1).trans rfl,(ag h.out 2).trans rfl,(ag h.out 3).trans rfl,(ag h.out 4).trans rfl,aj h.out 0,aj h.out 1,aj h.out 2,aj h.out 3,aj h.out 4⟩
theorem zf6 {w:World}{g:Nat}{t:TypeId}{a0 a1 a2 a3 a4 a5:Value}(h:ae (w.heap[g]? = some (.cells #[a0,a1,a2,a3,a4,a5] t (0,0)))):w.cell? ⟨g,0,none⟩=some a0∧w.cell? ⟨g,1,none⟩=some a1∧w.cell? ⟨g,2,none⟩=some a2∧w.cell? ⟨g,3,none⟩=some a3∧w.cell? ⟨g,4,none⟩=some a4∧w.cell? ⟨g,5,none⟩=some a5∧w.frozen? ⟨g,0,none⟩=false∧w.frozen? ⟨g,1,none⟩=false∧w.frozen? ⟨g,2,none⟩=false∧w.frozen? ⟨g,3,none⟩=false∧w.frozen? ⟨g,4,none⟩=false∧w.frozen? ⟨g,5,none⟩=false:=⟨(ag h.out 0).trans rfl,(ag h.out 1).trans rfl,(ag h.out 2).trans rfl,(ag h.out 3).trans rfl,(ag h.out 4).trans rfl,(ag h.out 5).trans rfl,aj h.out 0,aj h.out 1,aj h.out 2,aj h.out 3,aj h.out 4,aj h.out 5⟩
theorem zf8 {w:World}{g:Nat}{t:TypeId}{a0 a1 a2 a3 a4 a5 a6 a7:Value}(h:ae (w.heap[g]? = some (.cells #[a0,a1,a2,a3,a4,a5,a6,a7] t (0,0)))):w.cell? ⟨g,0,none⟩=some a0∧w.cell? ⟨g,1,none⟩=some a1∧w.cell? ⟨g,2,none⟩=some a2∧w.cell? ⟨g,3,none⟩=some a3∧w.cell? ⟨g,4,none⟩=some a4∧w.cell? ⟨g,5,none⟩=some a5∧w.cell? ⟨g,6,none⟩=some a6∧w.cell? ⟨g,7,none⟩=some a7∧w.frozen? ⟨g,0,none⟩=false∧w.frozen? ⟨g,1,none⟩=false∧w.frozen? ⟨g,2,none⟩=false∧w.frozen? ⟨g,3,none⟩=false∧w.frozen? ⟨g,4,none⟩=false∧w.frozen? ⟨g,5,none⟩=false∧w.frozen? ⟨g,6,none⟩=false∧w.frozen? ⟨g,7,none⟩=false:=⟨(ag h.out 0).trans rfl,(ag h.out 1).trans rfl,(ag h.out 2).trans rfl,(ag h.out 3).trans rfl,(ag h.out 4).trans rfl,(ag h.out 5).trans rfl,(ag h.out 6).trans rfl,(ag h.out 7).trans rfl,aj h.out 0,aj h.out 1,aj h.out 2,aj h.out 3,aj h.out 4,aj h.out 5,aj h.out 6,aj h.out 7⟩
theorem zx {P:Program}{ops:Array Oper}{rest:List Oper}{o:Oper}{a:Act}{Q:Exit→Act→World→Prop}{W:World}(N:Tmp)(t:TypeId)(cs:Array Value)
  (h:∀ g,g=W.heap.size→∀ w1,w1.heap[g]? = some (.cells cs t (0,0))→Below W.heap.size W w1→wpList P ops Q rest (a.put o.dst (.pointer (some ⟨g,0,none⟩))) w1)
  (hgd:o.guard=none:=by exact rfl) (hd:o.dst=some N:=by exact rfl) (hrun:(execOp a.eval o).run P W=.ok (.value (.pointer (some ⟨W.heap.size,0,none⟩))) (W.alloc (.cells cs t (0,0))):=by first|(go_simp;done)|(go_simp;rfl)):wpList P ops Q (o::rest) a W :=
 Ro hgd hd hrun h
theorem zJ2 {α0 α1:Type}{a0 b0:α0}{a1 b1:α1}(h:ae (some (a0,a1)=some (b0,b1))):a0=b0∧a1=b1:=by simpa only [Option.some.injEq,Prod.mk.injEq] using h.out
theorem zJ3 {α0 α1 α2:Type}{a0 b0:α0}{a1 b1:α1}{a2 b2:α2}(h:ae (some (a0,a1,a2)=some (b0,b1,b2))):a0=b0∧a1=b1∧a2=b2:=by simpa only [Option.some.injEq,Prod.mk.injEq] using h.out
theorem zJ4 {α0 α1 α2 α3:Type}{a0 b0:α0}{a1 b1:α1}{a2 b2:α2}{a3 b3:α3}(h:ae (some (a0,a1,a2,a3)=some (b0,b1,b2,b3))):a0=b0∧a1=b1∧a2=b2∧a3=b3:=by simpa only [Option.some.injEq,Prod.mk.injEq] using h.out
theorem zJ5 {α0 α1 α2 α3 α4:Type}{a0 b0:α0}{a1 b1:α1}{a2 b2:α2}{a3 b3:α3}{a4 b4:α4}(h:ae (some (a0,a1,a2,a3,a4)=some (b0,b1,b2,b3,b4))):a0=b0∧a1=b1∧a2=b2∧a3=b3∧a4=b4:=by simpa only [Option.some.injEq,Prod.mk.injEq] using h.out
theorem zJ6 {α0 α1 α2 α3 α4 α5:Type}{a0 b0:α0}{a1 b1:α1}{a2 b2:α2}{a3 b3:α3}{a4 b4:α4}{a5 b5:α5}(h:ae (some (a0,a1,a2,a3,a4,a5)=some (b0,b1,b2,b3,b4,b5))):a0=b0∧a1=b1∧a2=b2∧a3=b3∧a4=b4∧a5=b5:=by simpa only [Option.some.injEq,Prod.mk.injEq] using h.out
theorem zJ7 {α0 α1 α2 α3 α4 α5 α6:Type}{a0 b0:α0}{a1 b1:α1}{a2 b2:α2}{a3 b3:α3}{a4 b4:α4}{a5 b5:α5}{a6 b6:α6}(h:ae (some (a0,a1,a2,a3,a4,a5,a6)=some (b0,b1,b2,b3,b4,b5,b6))):a0=b0∧a1=b1∧a2=b2∧a3=b3∧a4=b4∧a5=b5∧a6=b6:=by simpa only [Option.some.injEq,Prod.mk.injEq] using h.out
theorem zh {p q:Prop}(h:q)(k:q→p:=by (intro h_;repeat (first|(with_reducible first|exact h_|exact h_.1|exact h_.2.1|exact h_.2.2.1|exact h_.2.2.2.1|exact h_.2.2.2.2.1|exact h_.2.2.2.2.2.1|exact h_.2.2.2.2.2.2.1|exact h_.2.2.2.2.2.2.2.1|exact h_.2|exact h_.2.2|exact h_.2.2.2|exact h_.2.2.2.2|exact h_.2.2.2.2.2|exact h_.2.2.2.2.2.2|exact h_.2.2.2.2.2.2.2|exact h_.2.2.2.2.2.2.2.2)|(with_reducible refine (cell_far ?hne _).trans ?_;case hne=>exact ae.out (by assumption))))):p:=k h
section
variable {P:Program} {ops:Array Oper} {Q:Exit→Act→World→Prop} {md:Region.Mode} {S:World→Prop} {ds:List Nat}
theorem zu {T:Bool × List (List Nat × List Nat)}(hT:ae (rG md ops=T))(i:Nat)(N:Option Tmp){oi:Oper}{fuel:Nat}{l:Array Bool}{a:Act}{w:World}
  (h:∀ K:Act→World→Prop,Shut (∀ a' w',S w'→(S w'→dD P md ops Q S ds fuel (l.setIfInBounds i true) a' w')→K a' w')→if Region.wanted oi (yielded ops a.tmps)=true then Oper.wp P oi a w K Q else K (a.put N undef) w)
  (hi:ops[i]? = some oi:=by exact rfl) (hN:oi.dst=N:=by exact rfl) (hc:(Df T.2 l.toList == [i] && l.toList.set i true == (l.setIfInBounds i true).toList)=true:=by kernel_rfl) (hd:i ∉ ds:=by decide):dD P md ops Q S ds (fuel+1) l a w :=
 ayv (l.setIfInBounds i true) hi hN (AP hT.out hc) hd h
end
theorem zIn {β:Type}{o:Option Int}{A:Option β}{r:β}(H:ae ((if o.isNone=true then A else none)=some r)):o=none∧ae (A=some r):=by
 cases o with
 | none=>exact⟨rfl,H⟩
 | some q=>exact nomatch H.out
end Go.Proofs.Yy.Z
end
section
namespace Go.Proofs.Yy.M
open Go.RowKit Go.Proofs.Yw.PrintWords Go.Proofs.Yw.PrintLast Go.Proofs.Yw.PrintMore
section
variable {pre post:List Int} {e:Nat} {w w1:World} {base:Nat} {ok ok':Nat→Prop} {v:Value} {xs:List Int}
def Wd (pre post:List Int)(e:Nat)(w:World)(base:Nat)(ok:Nat→Prop)(v:Value)(xs:List Int):Prop :=
 ∃ g c,v=.slice (some ⟨g,pre.length,none⟩) xs.length c∧xs.length≤c∧0<xs.length∧Kd.R (Kd.int .u64) e w base ok (.slice (some ⟨g,0,none⟩) (pre++xs++post).length (pre.length+c)) (pre++xs++post)
theorem TM (h:Wd pre post e w base ok v xs)(hok:∀ k,ok k→ok' k):Wd pre post e w base ok' v xs:=by
 obtain⟨g,c,hv,hc,hp,hr⟩:=h;exact⟨g,c,hv,hc,hp,Kd.dw hr hok⟩
theorem uN (h:Wd pre post e w base ok v xs)(o:Obj):Wd pre post e (w.alloc o) base ok v xs:=by
 obtain⟨g,c,hv,hc,hp,hr⟩:=h;exact⟨g,c,hv,hc,hp,Kd.dh hr o⟩
theorem xU (h:Wd pre post e w base ok v xs):Wd pre post e w.drew base ok v xs:=by
 obtain⟨g,c,hv,hc,hp,hr⟩:=h;exact⟨g,c,hv,hc,hp,Kd.dJ hr⟩
theorem uI (h:Wd pre post e w base ok v xs)(m:Nat):Wd pre post e (w.drewN m) base ok v xs:=by
 obtain⟨g,c,hv,hc,hp,hr⟩:=h;exact⟨g,c,hv,hc,hp,Kd.df hr m⟩
theorem yK (h:Wd pre post e w base ok v xs):∃ A c,v=.slice A xs.length c:=by
 obtain⟨g,c,hv,hc,hp,hr⟩:=h;exact⟨_,c,hv⟩
theorem yJ {A:Option Addr}{n c:Nat}(h:Wd pre post e w base ok (.slice A n c) xs):n=xs.length∧n≤c∧Kd.C (Kd.int .u64) w A xs.length xs:=by
 obtain⟨g,c',hv,hc,hp,hr⟩:=h
 injection hv with h1 h2 h3
 subst h1 h2 h3;refine⟨rfl,hc,?_⟩;obtain⟨_,hle,hC⟩:=Kd.aA hr;have h1:=Kd.Ud (c:=pre.length+c) hC (m:=pre.length) (by simp) hle;rw[if_neg (by omega)]at h1
 have hd:(pre++xs++post).drop pre.length=xs++post:=by rw[List.append_assoc,List.drop_left]
 rw[hd]at h1;have h2:=Kd.Zt (m:=xs.length) h1 (by simp);rw[List.take_left]at h2
 have ha:(Option.map (fun x=>x.add (pre.length*(Kd.int IntKind.u64).sz)) (some (⟨g,0,none⟩:Addr)))=some (⟨g,pre.length,none⟩:Addr):=by
  have hs:(Kd.int IntKind.u64).sz=1:=rfl;rw[hs];simp[Addr.add];intro h;rw[h]
  rfl
 rw[ha]at h2;exact h2
theorem GV (h:Wd pre post e w base ok v xs)(hp:0<xs.length):∃ g cap,v=.slice (some ⟨g,pre.length,none⟩) xs.length cap∧base≤g∧g<w.heap.size∧∃ cells,w.heap[g]? = some (.cells cells e (0,0)):=by
 obtain⟨g,c,hv,hc,hp,hr⟩:=h;obtain⟨g',c',e',hb,hl,hcells⟩:=Kd.oH hr (by simp;omega)
 injection e' with e1 e2 e3
 injection e1 with e1
 injection e1 with e1
 subst e1;exact⟨g,c,hv,hb,hl,hcells⟩
theorem JP {g o n c:Nat}(h:Wd pre post e w base ok (.slice (some ⟨g,o,none⟩) n c) xs):ok g:=by
 obtain⟨g',c',hv,hc,hp,hr⟩:=h
 injection hv with e1 e2 e3
 injection e1 with e1
 injection e1 with e1 e2
 subst e1;exact hr.1 g rfl
theorem TC (i:Int)(h0:0≤i)(hi:i<(xs.length:Int)):rd (pre++xs++post) ((pre.length:Int)+i)=rd xs i:=by
 have e1:((pre.length:Int)+i).toNat=pre.length+i.toNat:=by omega
 unfold rd;rw[e1,List.append_assoc];simp only[List.getD_eq_getElem?_getD];rw[List.getElem?_append_right (by omega),List.getElem?_append_left (by omega),Nat.add_sub_cancel_left]
theorem yE {g o n c:Nat}(h:Wd pre post e w base ok (.slice (some ⟨g,o,none⟩) n c) xs)(i:Int)(h0:0≤i)(hi:i<(n:Int)):w.cell? ⟨g,pre.length+i.toNat,none⟩=some (.int .u64 (rd xs i))∧w.frozen? ⟨g,pre.length+i.toNat,none⟩=false:=by
 obtain⟨g',c',hv,hc,hp,hr⟩:=h
 injection hv with e1 e2 e3
 injection e1 with e1
 injection e1 with e1 e4
 subst e1 e2 e3 e4;obtain⟨a,b⟩:=Kd.iQ 0 hr ((pre.length:Int)+i) (by omega) (by simp;omega)
 have e5:((pre.length:Int)+i).toNat=pre.length+i.toNat:=by omega
 rw[e5]at a b;refine⟨a.trans ?_,b⟩;exact congrArg (fun z=>some (Value.int IntKind.u64 z)) (TC i h0 hi)
theorem Pv (i:Nat)(hi:i<xs.length)(x:Int):(pre++xs++post).set (pre.length+i) x=pre++xs.set i x++post:=by
 rw[List.append_assoc,List.set_append_right _ _ (by omega),Nat.add_sub_cancel_left,List.set_append_left _ _ hi, ← List.append_assoc]
theorem Gx {g o n c:Nat}(h:Wd pre post e w base ok (.slice (some ⟨g,o,none⟩) n c) xs)(i:Int)(hi:i.toNat<xs.length)(x:Int) :
  Wd pre post e (w.setCell ⟨g,pre.length+i.toNat,none⟩ (.int .u64 x)) base ok (.slice (some ⟨g,o,none⟩) n c) (xs.set i.toNat x)∧w.grownBy (w.setCell ⟨g,pre.length+i.toNat,none⟩ (.int .u64 x)) (some g):=by
 obtain⟨g',c',hv,hc,hp,hr⟩:=h
 injection hv with e1 e2 e3
 injection e1 with e1
 injection e1 with e1 e4
 subst e1 e2 e3 e4;obtain⟨a,b⟩:=Kd.mM hr ((pre.length+i.toNat:Nat):Int) x;rw[Int.toNat_natCast]at a b;rw[Pv _ hi]at a;refine⟨⟨g,c,by rw[List.length_set],by rw[List.length_set];exact hc,by rw[List.length_set];exact hp,?_⟩,b⟩
 have e6:(pre++xs++post).length=(pre++xs.set i.toNat x++post).length:=by simp
 rw[← e6];exact a
theorem amq {g c:Nat}(h:Kd.R (Kd.int .u64) e w base ok (.slice (some ⟨g,0,none⟩) (pre++xs++post).length (pre.length+c)) (pre++xs++post))(hp:0<xs.length):Wd pre post e w base ok (.slice (some ⟨g,pre.length,none⟩) xs.length c) xs:=by
 obtain⟨_,hle,_⟩:=Kd.aA h;simp at hle;exact⟨g,c,rfl,by omega,hp,h⟩
theorem acF {g o n c:Nat}(h:Wd pre post e w base ok (.slice (some ⟨g,o,none⟩) n c) xs):Kd.R (Kd.int .u64) e w base ok (.slice (some ⟨g,0,none⟩) (pre++xs++post).length (pre.length+c)) (pre++xs++post):=by
 obtain⟨g',c',hv,hc,hp,hr⟩:=h
 injection hv with e1 e2 e3
 injection e1 with e1
 injection e1 with e1 e4
 subst e1 e2 e3 e4;exact hr
end
def agx (u:Value)(lo hi:Int):Value:=match u with
 | .slice (some ⟨g,_,_⟩) _ c => .slice (some ⟨g,lo.toNat,none⟩) (hi.toNat-lo.toNat) (c-lo.toNat)
 | v=>v
theorem Ti {P:Program}(t e:TypeId)(kl kh:IntKind){i:TypeInfo}(ht:P.underlying t=some (.slice e))(hi:P.info? e=some i)(hsz:i.size=1)(g n c:Nat)(lo hi':Int)(h0:0≤lo)(h1:lo<hi')(h2:hi'≤n)(hc:n≤c) :
  ∀ W:World,(Instr.slice t (.slice (some ⟨g,0,none⟩) n c) (some (.int kl lo)) (some (.int kh hi')) none).run P W=.ok (.slice (some ⟨g,lo.toNat,none⟩) (hi'.toNat-lo.toNat) (c-lo.toNat)) W:=by
 intro W;rw[aaD t e kl kh ht hi 1 hsz (some ⟨g,0,none⟩) n c lo hi' h0 (by omega) h2 hc W]
 have hne:c≠lo.toNat:=by omega
 have ha:(⟨g,0,none⟩:Addr).add (lo.toNat*1)=⟨g,lo.toNat,none⟩:=by
  by_cases h:lo.toNat=0
  ·rw[h];rfl
  ·simp[Addr.add]
   omega
 rw[Nat.mul_one]at ha;simp[hne,ha]
end Go.Proofs.Yy.M
end
section
namespace Go.Proofs.Yy.Fx
open Go.Shelf Go.RowKit Go.Sort Go.Lib
def Tab (w : World) : Prop := Lib.TabIs Tryz.prog w "internal/strconv.uint64pow10" .u64 Lib.pow10Tab
def Xn:List Int:=Lib.deBruijn64tab.map fun n:Nat=>(n:Int)
def Tz (w : World) : Prop := Lib.TabIs Tryz.prog w "math/bits.deBruijn64tab" .u8 Xn
def Laid (w:World):Prop:=Tab w∧Tz w
theorem Laid.below {w w':World}(h:Laid w)(hb:Below w.heap.size w w'):Laid w':=⟨Lib.tabBelow_of_tabIs h.1 w' hb,Lib.tabBelow_of_tabIs h.2 w' hb⟩
theorem below_grow (w:World)(k:Nat)(os:Array Obj):Below w.heap.size w (grow (w.drewN k) os) :=
 ⟨rfl,rfl,rfl,by show w.heap.size≤(w.heap++os).size;simp,fun i hi=>by show (w.heap++os)[i]? = _;rw[Array.getElem?_append_left hi]⟩
end Go.Proofs.Yy.Fx
end
section
namespace Go.Proofs.Yw.PrintLast
def up (b:Nat→Bool)(i:Nat):Nat→Bool:=fun j=>if j=i then true else b j
end Go.Proofs.Yw.PrintLast
end
section
namespace Go.Proofs.Yy.Fa
open Go.RowKit Go.Extern.Stop Go.Stop Go.Extern
theorem as_nil (t:Value)(w:World) :
  Calls Tryz.prog 78 #[.nilIface,t] w fun e w'=>e=.returned (.bool false)∧w'=w:=by
 go_enter Tryz.func78,Tryz.ntmps78
 go_wp2
 go_ret
 exact⟨rfl,rfl⟩
theorem valueOf27 (t:Addr)(w:World):(ReflectliteValue.unpack (.iface 124 (.pointer (some t)))).run Tryz.prog w
  = .ok (.agg #[.pointer (some ⟨11,124,none⟩),.pointer (some ⟨w.heap.size,0,none⟩),.int .u64 150]) (w.alloc (.cells #[.pointer (some t)] 124)):=by kernel_rfl
theorem type27 (a : Addr) (w : World) : (ReflectliteValue.methodAny (ReflectliteValue.valueError "reflectlite.Value.Type" 0) (fun t _ _ _ => ReflectliteType.toType t) #[.agg #[.pointer (some ⟨11, 124, none⟩), .pointer (some a), .int .u64 150]]).run Tryz.prog w
  = .ok (.iface 192 (.agg #[.pointer (some ⟨11,124,none⟩)])) w:=by kernel_rfl
theorem methodKind (h : Value) (w : World) : (Go.method 429 192 (.agg #[h]) "Kind").run Tryz.prog w = .ok (252, h) w := by kernel_rfl
theorem kind27 (w:World):((ReflectliteType.abiMethod fun t=>(fun a:Nat=>Value.int IntKind.u8 (a:Int)) <$> Rtype.kind t) #[.pointer (some ⟨11,124,none⟩)]).run Tryz.prog w=.ok (.int .u8 22) w:=by kernel_rfl
theorem kind25 (w:World):((ReflectliteType.abiMethod fun t=>(fun a:Nat=>Value.int IntKind.u8 (a:Int)) <$> Rtype.kind t) #[.pointer (some ⟨11,122,none⟩)]).run Tryz.prog w=.ok (.int .u8 22) w:=by kernel_rfl
theorem rlm (z:Sem Value)(f:TypeId→Addr→Nat→Nat→Sem Value)(v:Value) :
  ReflectliteValue.method z f #[v]=(do match ← ReflectliteValue.parts v with|none=>z|some (t,a,fl)=>f t a fl (fl % 32)):=rfl
theorem parts27 (a:Addr)(w:World):(ReflectliteValue.parts (.agg #[.pointer (some ⟨11,124,none⟩),.pointer (some a),.int .u64 150])).run Tryz.prog w=.ok (some (124,a,150)) w:=by kernel_rfl
theorem isNil27 (a p:Addr)(W:World)(ha:W.cell? a=some (.pointer (some p))) :
  (ReflectliteValue.method (ReflectliteValue.valueError "reflectlite.Value.IsNil" 0) ReflectliteValue.isNil #[.agg #[.pointer (some ⟨11, 124, none⟩), .pointer (some a), .int .u64 150]]).run Tryz.prog W = .ok (.bool false) W := by
 rw[rlm];simp only[Sem.run_bind,parts27,Result.andThen];simp[ReflectliteValue.isNil,loadVar,isAgg,underlying,Tryz.underlying124,ha,Result.andThen]
theorem methodElem (h : Value) (w : World) : (Go.method 429 192 (.agg #[h]) "Elem").run Tryz.prog w = .ok (265, .agg #[h]) w := by kernel_rfl
theorem methodImplements (h : Value) (w : World) : (Go.method 429 192 (.agg #[h]) "Implements").run Tryz.prog w = .ok (266, .agg #[h]) w := by kernel_rfl
theorem methodAssignableTo (h : Value) (w : World) : (Go.method 429 192 (.agg #[h]) "AssignableTo").run Tryz.prog w = .ok (263, .agg #[h]) w := by kernel_rfl
theorem elem27 (w:World):(ReflectliteType.method ReflectliteType.elem #[.agg #[.pointer (some ⟨11,124,none⟩)]]).run Tryz.prog w=.ok (.iface 192 (.agg #[.pointer (some ⟨11,122,none⟩)])) w:=by kernel_rfl
theorem implements25 (w : World) : (ReflectliteType.relation "Implements" ReflectliteType.implements_ #[.agg #[.pointer (some ⟨11, 122, none⟩)], .iface 192 (.agg #[.pointer (some ⟨11, 27, none⟩)])]).run Tryz.prog w = .ok (.bool true) w := by kernel_rfl
theorem typeOf25 (v:Value)(w:World):(ReflectliteType.typeOf #[.iface 122 v]).run Tryz.prog w=.ok (.iface 192 (.agg #[.pointer (some ⟨11,122,none⟩)])) w:=by kernel_rfl
theorem assignable25 (w : World) : (ReflectliteType.relation "AssignableTo" ReflectliteType.assignableTo #[.agg #[.pointer (some ⟨11, 122, none⟩)], .iface 192 (.agg #[.pointer (some ⟨11, 122, none⟩)])]).run Tryz.prog w = .ok (.bool true) w := by kernel_rfl
theorem valueOf25 (e:Addr)(w:World):(ReflectliteValue.unpack (.iface 122 (.pointer (some e)))).run Tryz.prog w
  = .ok (.agg #[.pointer (some ⟨11,122,none⟩),.pointer (some ⟨w.heap.size,0,none⟩),.int .u64 150]) (w.alloc (.cells #[.pointer (some e)] 122)):=by kernel_rfl
theorem elemOf27 (w:World):(Rtype.elem? 124).run Tryz.prog w=.ok (some 122) w:=by kernel_rfl
theorem mk25 (p:Addr)(w:World):(ReflectliteValue.mk 122 p ReflectliteValue.flagAddr).run Tryz.prog w=.ok (.agg #[.pointer (some ⟨11,122,none⟩),.pointer (some p),.int .u64 406]) w:=by kernel_rfl
theorem elemV27 (a p:Addr)(W:World)(ha:W.cell? a=some (.pointer (some p))) :
  (ReflectliteValue.method (ReflectliteValue.valueError "reflectlite.Value.Elem" 0) ReflectliteValue.elem #[.agg #[.pointer (some ⟨11, 124, none⟩), .pointer (some a), .int .u64 150]]).run Tryz.prog W
   = .ok (.agg #[.pointer (some ⟨11,122,none⟩),.pointer (some p),.int .u64 406]) W:=by
 rw[rlm];simp only[Sem.run_bind,parts27,Result.andThen];simp[ReflectliteValue.elem,loadVar,isAgg,underlying,Tryz.underlying124,ha,Result.andThen,elemOf27,mk25]
theorem rls (v x:Value):ReflectliteValue.set #[v,x]=(do
  let (some (dst,a,fl),some (src,b,_)):=(← ReflectliteValue.parts v, ← ReflectliteValue.parts x)
   | unsupported (.noEntry "extern/(internal/reflectlite.Value).Set.zeroValue")
  if fl / ReflectliteValue.flagAddr % 2 == 0 then unsupported (.noEntry "extern/(internal/reflectlite.Value).Set.unaddressable")
  let val ← loadVar src b
  if ← Rtype.directlyAssignable dst src then storeVar dst a val
  else if ← Rtype.implements dst src then
   if (← Rtype.kind src) == 20 then
    match val with
    | .nilIface => unsupported (.noEntry "extern/reflectlite: a nil value of one interface type handed on as a value of another")
    | _=>storeVar dst a val
   else storeVar dst a (.iface src val)
  else panicString ("reflectlite.Set: value of type " ++ (← Rtype.spelt src) ++ " is not assignable to type " ++ (← Rtype.spelt dst))
  pure (.tuple #[])):=rfl
theorem parts25a (a:Addr)(w:World):(ReflectliteValue.parts (.agg #[.pointer (some ⟨11,122,none⟩),.pointer (some a),.int .u64 406])).run Tryz.prog w=.ok (some (122,a,406)) w:=by kernel_rfl
theorem parts25 (a:Addr)(w:World):(ReflectliteValue.parts (.agg #[.pointer (some ⟨11,122,none⟩),.pointer (some a),.int .u64 150])).run Tryz.prog w=.ok (some (122,a,150)) w:=by kernel_rfl
theorem direct25 (w:World):(Rtype.directlyAssignable 122 122).run Tryz.prog w=.ok true w:=by kernel_rfl
theorem set25 (ta b e:Addr)(old:Value)(W:World)(hb:W.cell? b=some (.pointer (some e)))(ht:W.cell? ta=some old)(hf:W.frozen? ta=false) :
  (ReflectliteValue.set #[.agg #[.pointer (some ⟨11,122,none⟩),.pointer (some ta),.int .u64 406],.agg #[.pointer (some ⟨11,122,none⟩),.pointer (some b),.int .u64 150]]).run Tryz.prog W
   = .ok (.tuple #[]) (W.setCell ta (.pointer (some e))):=by
 rw[rls];simp only[Sem.run_bind,parts25a,parts25,Result.andThen];simp[ReflectliteValue.flagAddr,loadVar,isAgg,underlying,Tryz.underlying122,hb,Result.andThen,direct25,storeVar,Value.cells,storeCells,Addr.add];rw[run_store Tryz.prog W ta _ _ (by rfl)];simp[ht,hf]
set_option maxHeartbeats 4000000 in
theorem as_hit (e t:Addr)(old:Value)(w:World)(hg:w.cell? ⟨1,0,none⟩=some (.iface 192 (.agg #[.pointer (some ⟨11,27,none⟩)])))(ht0:w.cell? t=some old)(hf0:w.frozen? t=false) :
  Calls Tryz.prog 78 #[.iface 122 (.pointer (some e)),.iface 124 (.pointer (some t))] w fun ev w'=>ev=.returned (.bool true)∧w'=((((w.alloc (.cells #[.pointer (some t)] 124)).alloc (.cells #[.pointer (some ⟨11,124,none⟩),.pointer (some ⟨w.heap.size,0,none⟩),.int .u64 150] 184)).alloc (.cells #[.pointer (some ⟨11,124,none⟩),.pointer (some ⟨w.heap.size,0,none⟩),.int .u64 150] 184)).alloc (.cells #[.pointer (some e)] 122)).setCell t (.pointer (some e)):=by
 have h6 := @run_callFunc_extern Tryz.prog 133 _ (fun args=>ReflectliteValue.unpack (args.getD 0 (.tuple #[]))) Tryz.func133 (by kernel_rfl) (by kernel_rfl) (by kernel_rfl) (by kernel_rfl)
 have h7 := @run_callFunc_extern Tryz.prog 134 _ (ReflectliteValue.methodAny (ReflectliteValue.valueError "reflectlite.Value.Type" 0) (fun t _ _ _ => ReflectliteType.toType t)) Tryz.func134 (by kernel_rfl) (by kernel_rfl) (by kernel_rfl) (by kernel_rfl)
 have h8 := @run_callFunc_extern Tryz.prog 135 _ (ReflectliteValue.method (ReflectliteValue.valueError "reflectlite.Value.IsNil" 0) ReflectliteValue.isNil) Tryz.func135 (by kernel_rfl) (by kernel_rfl) (by kernel_rfl) (by kernel_rfl)
 have h27 := @run_callFunc_extern Tryz.prog 252 _ (ReflectliteType.abiMethod fun t=>do pure (.int .u8 (← Rtype.kind t))) Tryz.func252 (by kernel_rfl) (by kernel_rfl) (by kernel_rfl) (by kernel_rfl);have h37 := @run_callFunc_extern Tryz.prog 265 _ (ReflectliteType.method ReflectliteType.elem) Tryz.func265 (by kernel_rfl) (by kernel_rfl) (by kernel_rfl) (by kernel_rfl)
 have h38 := @run_callFunc_extern Tryz.prog 266 _ (ReflectliteType.relation "Implements" ReflectliteType.implements_) Tryz.func266 (by kernel_rfl) (by kernel_rfl) (by kernel_rfl) (by kernel_rfl)
 have h10 := @run_callFunc_extern Tryz.prog 80 _ ReflectliteType.typeOf Tryz.func80 (by kernel_rfl) (by kernel_rfl) (by kernel_rfl) (by kernel_rfl)
 have h35 := @run_callFunc_extern Tryz.prog 263 _ (ReflectliteType.relation "AssignableTo" ReflectliteType.assignableTo) Tryz.func263 (by kernel_rfl) (by kernel_rfl) (by kernel_rfl) (by kernel_rfl)
 have h11 := @run_callFunc_extern Tryz.prog 182 _ (ReflectliteValue.method (ReflectliteValue.valueError "reflectlite.Value.Elem" 0) ReflectliteValue.elem) Tryz.func182 (by kernel_rfl) (by kernel_rfl) (by kernel_rfl) (by kernel_rfl)
 have h12 := @run_callFunc_extern Tryz.prog 183 _ ReflectliteValue.set Tryz.func183 (by kernel_rfl) (by kernel_rfl) (by kernel_rfl) (by kernel_rfl);have tO:=typeOf25;have mA:=methodAssignableTo;have a25:=assignable25;have v25:=valueOf25;have f6:=valueOf27;have f7:=type27;have mK:=methodKind;have mE:=methodElem;have mI:=methodImplements;have k27:=kind27;have k25:=kind25;have e27:=elem27;have i25:=implements25;have n8:=isNil27 ⟨w.heap.size,0,none⟩ t ((w.alloc (.cells #[.pointer (some t)] 124)).alloc (.cells #[.pointer (some ⟨11,124,none⟩),.pointer (some ⟨w.heap.size,0,none⟩),.int .u64 150] 184)) (by simp)
 have hlt:1<w.heap.size:=by
  rcases Nat.lt_or_ge 1 w.heap.size with h|h
  ·exact h
  ·simp[World.cell?, Array.getElem?_eq_none h]at hg
 have hg2:((w.alloc (.cells #[.pointer (some t)] 124)).alloc (.cells #[.pointer (some ⟨11,124,none⟩),.pointer (some ⟨w.heap.size,0,none⟩),.int .u64 150] 184)).cell? ⟨1,0,none⟩=some (.iface 192 (.agg #[.pointer (some ⟨11,27,none⟩)])):=by
  rw[World.cell?_alloc_lt _ _ ⟨1,0,none⟩ (by first|(simp;done)|(simp;omega)|(have h_:=hlt;simp at h_ ⊢;omega)),World.cell?_alloc_lt _ _ ⟨1,0,none⟩ hlt];exact hg
 have htl:t.block<w.heap.size:=by
  rcases Nat.lt_or_ge t.block w.heap.size with h|h
  ·exact h
  ·simp[World.cell?, Array.getElem?_eq_none h]at ht0
 have el:=elemV27 ⟨w.heap.size,0,none⟩ t (((w.alloc (.cells #[.pointer (some t)] 124)).alloc (.cells #[.pointer (some ⟨11,124,none⟩),.pointer (some ⟨w.heap.size,0,none⟩),.int .u64 150] 184)).alloc (.cells #[.pointer (some ⟨11,124,none⟩),.pointer (some ⟨w.heap.size,0,none⟩),.int .u64 150] 184)) (by rw[World.cell?_alloc_lt _ _ ⟨w.heap.size,0,none⟩ (by simp;omega)];simp)
 have st:=set25 t ⟨w.heap.size+1+1+1,0,none⟩ e old ((((w.alloc (.cells #[.pointer (some t)] 124)).alloc (.cells #[.pointer (some ⟨11,124,none⟩),.pointer (some ⟨w.heap.size,0,none⟩),.int .u64 150] 184)).alloc (.cells #[.pointer (some ⟨11,124,none⟩),.pointer (some ⟨w.heap.size,0,none⟩),.int .u64 150] 184)).alloc (.cells #[.pointer (some e)] 122))
  (by rw[World.cell?_alloc_at _ _ _ _ (by simp)];rfl)
  (by rw[World.cell?_alloc_lt _ _ t (by simp;omega),World.cell?_alloc_lt _ _ t (by simp;omega),World.cell?_alloc_lt _ _ t (by simp;omega),World.cell?_alloc_lt _ _ t htl];exact ht0)
  (by rw[World.frozen?_alloc_old _ _ t (by simp;omega),World.frozen?_alloc_old _ _ t (by simp;omega),World.frozen?_alloc_old _ _ t (by simp;omega),World.frozen?_alloc_old _ _ t (Nat.ne_of_lt htl)];exact hf0)
 go_enter Tryz.func78,Tryz.ntmps78
 go_wp2
 refine wp_loop_rounds 1 ?_;rw[rounds_succ]
 go_wp2
 go_ret
 exact⟨rfl,rfl⟩
theorem afH:∃ ms,Tryz.prog.underlying 27=some (.interface ms):=⟨_,Tryz.underlying27⟩
theorem abX:Tryz.prog.underlying 64=some (.int .i64):=by kernel_rfl
theorem aa4:(Tryz.prog.info? 64).map (·.comparable)=some true:=by kernel_rfl
theorem RQ (d:Nat)(a b:Int)(w:World):(Op.equalIn (d+2) 27 (.iface 64 (.int .i64 a)) (.iface 64 (.int .i64 b))).run Tryz.prog w=.ok (a == b) w:=by
 obtain⟨i,hinfo,hcomp⟩:=Option.map_eq_some_iff.1 aa4;obtain⟨ms,hE⟩:=afH;simp[Op.equalIn,run_underlying hE,run_underlying abX,typeInfo,hinfo,hcomp]
theorem X5 (a b:Int)(w:World):(binOp .eql 27 (.iface 64 (.int .i64 a)) (.iface 64 (.int .i64 b))).run Tryz.prog w=.ok (.bool (a == b)) w:=by
 simp only[binOp];simp[Op.equal,Op.maxDepth,RQ 9998 a b w]
theorem abB (v:Value)(w:World):(ReflectliteType.typeOf #[.iface 64 v]).run Tryz.prog w=.ok (.iface 192 (.agg #[.pointer (some ⟨11,64,none⟩)])) w:=by kernel_rfl
def aun : Array Value → Sem Value := ReflectliteType.method fun t => do Rtype.noPackHeld "Comparable" t; pure (.bool (← typeInfo t).comparable)
theorem Lc (w:World):(aun #[.agg #[.pointer (some ⟨11,64,none⟩)]]).run Tryz.prog w=.ok (.bool true) w:=by kernel_rfl
theorem KW (v : Value) (w : World) : (Go.method 429 192 v "Comparable").run Tryz.prog w = .ok (264, v) w := by kernel_rfl
theorem aaP (v : Value) (w : World) : (Go.method 429 122 v "Unwrap").run Tryz.prog w = .ok (258, v) w := by kernel_rfl
theorem amF (v:Value)(xT:TypeId)(w:World):(Instr.typeAssert (.iface 122 v) xT 194 true).run Tryz.prog w=.ok (.tuple #[.nilIface,.bool false]) w:=run_typeAssert_lacksB Tryz.underlying194 (by kernel_rfl) (by kernel_rfl) v xT w
theorem PR (v:Value)(xT:TypeId)(w:World):(Instr.typeAssert (.iface 122 v) xT 197 true).run Tryz.prog w=.ok (.tuple #[.iface 122 v,.bool true]) w:=run_typeAssert_hasB Tryz.underlying197 (by kernel_rfl) v xT w
theorem BN (g:Nat)(c:Int)(w:World)(h1:w.cell? ⟨g,0+2,none⟩=some (.iface 64 (.int .i64 c))) :
  Calls Tryz.prog 38 #[.iface 122 (.pointer (some ⟨g,0,none⟩)),.iface 64 (.int .i64 c)] w fun e w'=>e=.returned (.bool true)∧w'=w:=by
 have h8 := @run_callFunc_extern Tryz.prog 80 _ Extern.ReflectliteType.typeOf Tryz.func80 (by kernel_rfl) (by kernel_rfl) (by kernel_rfl) (by kernel_rfl);have h32 := @run_callFunc_extern Tryz.prog 264 _ aun Tryz.func264 (by kernel_rfl) (by kernel_rfl) (by kernel_rfl) (by kernel_rfl);have tT:=abB;have cT:=Lc;have mR:=KW;have nW:=amF;have uW:=PR;have mU:=aaP;have heq:=X5 c c w;have hty:=run_eql_iface_types (P:=Tryz.prog) 122 64 (.pointer (some ⟨g,0,none⟩)) (.int .i64 c) Tryz.underlying27 (by decide) w
 go_enter Tryz.func38,Tryz.ntmps38
 go_wp2
 refine wp_loop_rounds 2 ?_;rw[rounds_succ]
 go_wp2
 rw[rounds_succ]
 go_wp2
 go_ret
 exact⟨rfl,rfl⟩
structure Kept (p:Prop):Prop where
 out:p
set_option maxHeartbeats 4000000 in
theorem QS (c:Int)(w:World)(h:c=13∨c=14∨c=15∨c=16∨c=17∨c=18∨c=19∨c=20∨c=21∨c=22∨c=23∨c=24) :
  Calls Tryz.prog 46 #[.iface 64 (.int .i64 c)] w fun e w'=>e=.returned (.int .i64 c)∧w'=w:=by
 have hq:=X5
 rcases h with rfl|rfl|rfl|rfl|rfl|rfl|rfl|rfl|rfl|rfl|rfl|rfl <;>
 ·go_enter Tryz.func46,Tryz.ntmps46
  go_wp2
  go_ret
  exact⟨rfl,rfl⟩
set_option maxHeartbeats 4000000 in
theorem XP (c:Int)(w:World)(h:c=1∨c=2∨c=3∨c=4∨c=5∨c=6∨c=7∨c=8∨c=9∨c=10∨c=11∨c=12) :
  Calls Tryz.prog 15 #[.iface 64 (.int .i64 c)] w fun e w'=>e=.returned (.int .i64 c)∧w'=w:=by
 have hq:=X5
 rcases h with rfl|rfl|rfl|rfl|rfl|rfl|rfl|rfl|rfl|rfl|rfl|rfl <;>
 ·go_enter Tryz.func15,Tryz.ntmps15
  go_wp2
  go_ret
  exact⟨rfl,rfl⟩
set_option maxHeartbeats 4000000 in
theorem Uc (c:Int)(w:World)(h:c=13∨c=14∨c=15∨c=16∨c=17∨c=18∨c=19∨c=20∨c=21∨c=22∨c=23∨c=24) :
  Calls Tryz.prog 15 #[.iface 64 (.int .i64 c)] w fun e w'=>e=.returned (.int .i64 c)∧w'=w:=by
 have hq:=X5;have hf:=QS c w h
 have hn:∀ k:Int,k<13→(c == k)=false:=by intro k hk;simp;omega
 have n1:=hn 1 (by omega);have n2:=hn 2 (by omega);have n3:=hn 3 (by omega);have n4:=hn 4 (by omega);have n5:=hn 5 (by omega);have n6:=hn 6 (by omega);have n7:=hn 7 (by omega);have n8:=hn 8 (by omega);have n9:=hn 9 (by omega);have n10:=hn 10 (by omega);have n11:=hn 11 (by omega);have n12:=hn 12 (by omega);have HH:=Kept.mk h;clear h hn
 go_enter Tryz.func15,Tryz.ntmps15
 go_wp2_with (go_at_call 46;refine hf.mono ?_;rintro e w1 ⟨rfl,rfl⟩)
 go_ret
 exact⟨rfl,rfl⟩
theorem wQ (c:Int)(w:World)(h:1≤c∧c≤24) :
  Calls Tryz.prog 15 #[.iface 64 (.int .i64 c)] w fun e w'=>e=.returned (.int .i64 c)∧w'=w:=by
 by_cases h2:c≤12
 ·exact XP c w (by omega)
 ·exact Uc c w (by omega)
theorem abP (n:Nat)(e t:Addr)(old:Value)(w:World)(hg:w.cell? ⟨1,0,none⟩=some (.iface 192 (.agg #[.pointer (some ⟨11,27,none⟩)])))(ht0:w.cell? t=some old)(hf0:w.frozen? t=false)(hn:n≤t.block)(hs:n≤w.heap.size) :
  Calls Tryz.prog 78 #[.iface 122 (.pointer (some e)),.iface 124 (.pointer (some t))] w fun ev w'=>ev=.returned (.bool true)∧w'.cell? t=some (.pointer (some e))∧Below n w w':=by
 have htl:t.block<w.heap.size:=by
  rcases Nat.lt_or_ge t.block w.heap.size with h|h
  ·exact h
  ·simp[World.cell?, Array.getElem?_eq_none h]at ht0
 refine (as_hit e t old w hg ht0 hf0).mono ?_;rintro ev w' ⟨rfl,rfl⟩;refine⟨rfl,World.cell?_setCell_same' _ _ _ ?_,Below.setCell (((((Below.refl n w).alloc hs _).alloc (by simp;omega) _).alloc (by simp;omega) _).alloc (by simp;omega) _) hn _⟩;rw[World.cell?_alloc_lt _ _ t (by simp;omega),World.cell?_alloc_lt _ _ t (by simp;omega),World.cell?_alloc_lt _ _ t (by simp;omega),World.cell?_alloc_lt _ _ t htl,ht0];rfl
def lM (w:World)(g:Nat)(line at' code:Int):Prop:=w.heap[g]? = some (.cells #[.int .i64 line,.int .i64 at',.iface 64 (.int .i64 code)] 126 (0,0))
def mP (w:World):Prop:=w.cell? ⟨1,0,none⟩=some (.iface 192 (.agg #[.pointer (some ⟨11,27,none⟩)]))
theorem lM.below {B:Nat}{w w':World}{g:Nat}{l a c:Int}(h:lM w g l a c)(hb:Below B w w')(hg:g<B):lM w' g l a c:=by unfold lM;rw[hb.block g hg];exact h
theorem lM.lt {w:World}{g:Nat}{l a c:Int}(h:lM w g l a c):g<w.heap.size:=by
 rcases Nat.lt_or_ge g w.heap.size with k|k
 ·exact k
 ·simp[lM,Array.getElem?_eq_none k]at h
theorem mP.lt {w:World}(h:mP w):1<w.heap.size:=by
 rcases Nat.lt_or_ge 1 w.heap.size with k|k
 ·exact k
 ·simp[mP,World.cell?, Array.getElem?_eq_none k]at h
theorem mP.alloc {w:World}(h:mP w)(o:Obj):mP (w.alloc o):=by
 unfold mP;rw[World.cell?_alloc_lt _ _ ⟨1,0,none⟩ h.lt];exact h
set_option maxHeartbeats 4000000 in
theorem afR (l a c:Int)(w:World) :
  Calls Tryz.prog 35 #[.nilIface,.int .i64 l,.int .i64 a,.int .i64 c] w fun e w'=>e=.returned (.bool false)∧Below w.heap.size w w':=by
 go_enter Tryz.func35,Tryz.ntmps35
 go_wp2_with (go_at_call 78;refine (as_nil _ _).mono ?_;rintro e w1 ⟨rfl,rfl⟩)
 go_ret
 exact⟨rfl,(Below.refl w.heap.size w).alloc (by simp) _⟩
theorem amb:(Tryz.prog.info? 122).map (·.comparable)=some true:=by kernel_rfl
theorem amu:(Tryz.prog.info? 126).map (·.size)=some 3:=by kernel_rfl
theorem amh (a:Addr)(w:World):(binOp .neq 27 (.iface 122 (.pointer (some a))) (.iface 122 (.pointer (some a)))).run Tryz.prog w=.ok (.bool false) w:=by
 obtain⟨i,hi,hcmp⟩:=Option.map_eq_some_iff.1 amb;obtain⟨j,hj,hjs⟩:=Option.map_eq_some_iff.1 amu;obtain⟨ms,hE⟩:=afH;simp only[binOp];simp[Op.equal,Op.maxDepth,run_equalIn_iface_ptr_same (P:=Tryz.prog) w 9998 a hE Tryz.underlying122 hi hcmp hj]
set_option maxHeartbeats 4000000 in
theorem Xv (g:Nat)(l a c L A C:Int)(w:World)(hE:mP w)(hF:lM w g l a c)(hc:1≤c∧c≤24) :
  Calls Tryz.prog 35 #[.iface 122 (.pointer (some ⟨g,0,none⟩)),.int .i64 L,.int .i64 A,.int .i64 C] w fun e w'=>e=.returned (.bool (decide (l=L) && (decide (a=A) && decide (c=C))))∧Below w.heap.size w w':=by
 have hlt:=hF.lt;have hA:=abP w.heap.size ⟨g,0,none⟩ ⟨w.heap.size,0,none⟩ (.pointer none) (w.alloc (.cells #[.pointer none] 122)) (hE.alloc _) (by simp) (by simp) (by simp) (by simp);have hn:=amh
 have cells:∀ w1,Below w.heap.size (w.alloc (.cells #[.pointer none] 122)) w1→w1.cell? ⟨g,0,none⟩=some (.int .i64 l)∧w1.cell? ⟨g,1,none⟩=some (.int .i64 a)∧w1.cell? ⟨g,2,none⟩=some (.iface 64 (.int .i64 c)):=by
  intro w1 h1;have h:=hF.below ((Below.refl w.heap.size w).alloc (by simp) (.cells #[.pointer none] 122) |>.trans h1) hlt;unfold lM at h;exact⟨by simp[World.cell?, h],by simp[World.cell?, h],by simp[World.cell?, h]⟩
 have HC:=Kept.mk hc;have HCELLS:=Kept.mk cells;have HLT:=Kept.mk hlt;clear hc cells hlt hF hE
 by_cases h1:l=L
 ·by_cases h2:a=A
  ·by_cases h3:c=C
   ·subst h1 h2 h3
    go_enter Tryz.func35,Tryz.ntmps35
    go_wp2_with (first
     | (go_at_call 78;refine hA.mono ?_;rintro e w1 ⟨rfl,ht,hb⟩;have HB1:=Kept.mk hb;obtain⟨c0,c1,c2⟩:=HCELLS.out w1 hb;clear hb)
     | (go_at_call 38;refine (BN g c _ c2).mono ?_;rintro e w2 ⟨rfl,rfl⟩)
     | (go_at_call 15;refine (wQ c _ HC.out).mono ?_;rintro e w2 ⟨rfl,rfl⟩))
    go_ret
    exact⟨by simp,((Below.refl w.heap.size w).alloc (by simp) _).trans HB1.out⟩
   ·have e3:(c == C)=false:=by simpa using h3
    have d3:decide (c=C)=false:=by simpa using h3
    subst h1 h2
    go_enter Tryz.func35,Tryz.ntmps35
    go_wp2_with (first
     | (go_at_call 78;refine hA.mono ?_;rintro e w1 ⟨rfl,ht,hb⟩;have HB1:=Kept.mk hb;obtain⟨c0,c1,c2⟩:=HCELLS.out w1 hb;clear hb)
     | (go_at_call 38;refine (BN g c _ c2).mono ?_;rintro e w2 ⟨rfl,rfl⟩)
     | (go_at_call 15;refine (wQ c _ HC.out).mono ?_;rintro e w2 ⟨rfl,rfl⟩))
    go_ret
    exact⟨by simp[h3],((Below.refl w.heap.size w).alloc (by simp) _).trans HB1.out⟩
  ·have e2:(a == A)=false:=by simpa using h2
   have d2:decide (a=A)=false:=by simpa using h2
   subst h1
   go_enter Tryz.func35,Tryz.ntmps35
   go_wp2_with (first
    | (go_at_call 78;refine hA.mono ?_;rintro e w1 ⟨rfl,ht,hb⟩;have HB1:=Kept.mk hb;obtain⟨c0,c1,c2⟩:=HCELLS.out w1 hb;clear hb)
    | (go_at_call 38;refine (BN g c _ c2).mono ?_;rintro e w2 ⟨rfl,rfl⟩)
    | (go_at_call 15;refine (wQ c _ HC.out).mono ?_;rintro e w2 ⟨rfl,rfl⟩))
   go_ret
   exact⟨by simp[h2],((Below.refl w.heap.size w).alloc (by simp) _).trans HB1.out⟩
 ·have e1:(l == L)=false:=by simpa using h1
  have d1:decide (l=L)=false:=by simpa using h1
  go_enter Tryz.func35,Tryz.ntmps35
  go_wp2_with (first
   | (go_at_call 78;refine hA.mono ?_;rintro e w1 ⟨rfl,ht,hb⟩;have HB1:=Kept.mk hb;obtain⟨c0,c1,c2⟩:=HCELLS.out w1 hb;clear hb)
   | (go_at_call 38;refine (BN g c _ c2).mono ?_;rintro e w2 ⟨rfl,rfl⟩)
   | (go_at_call 15;refine (wQ c _ HC.out).mono ?_;rintro e w2 ⟨rfl,rfl⟩))
  go_ret
  exact⟨by simp[h1],((Below.refl w.heap.size w).alloc (by simp) _).trans HB1.out⟩
end Go.Proofs.Yy.Fa
end
section
namespace Go.Proofs.Yw.PrintWords
open Go.RowKit
section
variable {w w' u:World} {m B g:Nat} {o:Obj} {row:Option Nat} {S:Nat→Prop} {a:Addr} {v:Value}
theorem wW (hq:w.drewN m=w')(h:Below B u w):Below B u w':=by subst hq;exact aK h m
end
namespace Kd
section
variable {α:Type} {d:Kd α} {e base n m:Nat} {ok:Nat→Prop} {w w':World} {v:Value} {A:Option Addr} {xs:List α}
theorem ae8 (hq:w.drewN m=w')(h:d.R e w base ok v xs):d.R e w' base ok v xs:=by subst hq;exact df h m
end
end Kd
end Go.Proofs.Yw.PrintWords
end
section
set_option maxHeartbeats 8000000
set_option maxRecDepth 100000
namespace Go.Proofs.Yy.PTx
open Go.RowKit Go.Proofs.Yy.Z Go.Proofs.Yw.PrintWords Go.Proofs.Yw.PrintLast Go.Proofs.Yw.PrintMore
open Go.Proofs.Yy.M
attribute [local go_sem] dG dP kR kT kW kS
attribute [local go_sem] gI gG iP iR fF fG gW gV
def rF:Option Int→Value
 | none => .nilIface
 | some c => .iface 64 (.int .i64 c)
theorem au:rF none=.nilIface:=rfl
theorem ax (c:Int):rF (some c)=.iface 64 (.int .i64 c):=rfl
theorem info3:(Tryz.prog.info? 3).map (fun i=>(i.zero,i.size,i.bytes))=some (some (.int .i64 0),1,8):=by kernel_rfl
theorem info5:(Tryz.prog.info? 5).map (fun i=>(i.zero,i.size,i.bytes))=some (some (.int .u8 0),1,1):=by kernel_rfl
theorem info25:(Tryz.prog.info? 25).map (fun i=>(i.zero,i.size,i.bytes))=some (some (.int .u64 0),1,8):=by kernel_rfl
def Ho (xs:List (List Int))(i:Int):(List Int):=xs.getD i.toNat ([]:List Int)
theorem amC {w:World}{A:Option Addr}{n:Nat}{xs:List (List Int)}(h:Kd.C (Kd.slice 25 (Kd.int .u64)) w A n xs)(i:Int)(h0:0≤i)(h1:i<n):∃ ad A0 c0,A=some ad∧w.cell? (ad.add i.toNat)=some (.slice A0 (Ho xs i).length c0)∧(Ho xs i).length≤c0∧(Kd.int .u64).C w A0 (Ho xs i).length (Ho xs i):=by
 obtain⟨ad,c,e,_,hK,hc0⟩:=Kd.XQ h ([]:List Int) i h0 h1;have hc:∀ j u,c[j]? = some u→w.cell? (ad.add (i.toNat*1+j))=some u:=hc0;obtain⟨A0,c0,rfl,l0,g0⟩:=hK;exact⟨ad,A0,c0,e,by have hq:=hc 0 _ rfl;rwa [Nat.mul_one,Nat.add_zero]at hq,l0,g0⟩
theorem amf (d:Nat)(w:World)(x0 y0:Bool)(x1 y1:Bool)(x2 y2:ByteArray)(x3 y3:Int) :
  (Op.equalIn (d+2) 23 (.agg #[.bool x0,.bool x1,.string x2,.int .i64 x3]) (.agg #[.bool y0,.bool y1,.string y2,.int .i64 y3])).run Tryz.prog w=.ok (x0 == y0 && (x1 == y1 && (x2.toList == y2.toList && (x3 == y3)))) w:=by
 refine Rq Tryz.underlying23 (by kernel_rfl) ?_;refine qY (by rfl) (by go_simp;rfl) (by go_simp;rfl) (by go_simp) ?_;refine qY (by rfl) (by go_simp;rfl) (by go_simp;rfl) (by go_simp) ?_;refine qY (by rfl) (by go_simp;rfl) (by go_simp;rfl) (by go_simp) ?_;exact Gq (by rfl) (by go_simp;rfl) (by go_simp;rfl) (by go_simp)
end Go.Proofs.Yy.PTx
end
