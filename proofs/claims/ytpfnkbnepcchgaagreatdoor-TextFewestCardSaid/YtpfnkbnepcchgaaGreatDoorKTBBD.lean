/- Part 30 of what the proof needs. -/
import Derived.Test.YtpfnkbnepcchgaaGreatDoorKTBBC
set_option linter.unusedSimpArgs false
set_option linter.unusedVariables false
section
namespace Go.Proofs.Yy.PTx
open Go.RowKit Go.Proofs.Yw.PrintWords Go.Proofs.Yw.PrintLast Go.Proofs.Yw.PrintMore Go.Proofs.Yy.TA
open Go.Proofs.Yy.SC (D dg nrm formed Norm lz rz tz mostE hd)
def lowD (v:D) (j:Nat):D:=⟨v.nar,v.neg,v.ds.take j,v.e+v.ds.length - j⟩
def highD (v:D) (j:Nat):D:=⟨v.nar,v.neg,aboveL (v.ds.take j),v.e+v.ds.length - j⟩
theorem numL_snoc (l:List UInt8) (c:UInt8):numL (l ++ [c])=numL l * 10+(c.toNat - 48):=by
 rw [numL_app]
 unfold numL
 rw [List.foldl_cons,List.foldl_nil]
 simp
theorem inc_num:∀ r:List UInt8,Dgs r→numL (incR r).reverse=numL r.reverse+1∧Dgs (incR r)∧((incR r).length=r.length∨(r=List.replicate r.length 57∧incR r=List.replicate r.length 48 ++ [49]))
 | [],_=>⟨rfl,fun c hc=>by simp [incR] at hc;subst hc;decide, .inr ⟨rfl,rfl⟩⟩
 | c :: r,h=>by
  have hc:=h c (List.mem_cons_self ..)
  have hr:Dgs r:=fun x hx=>h x (List.mem_cons_of_mem _ hx)
  obtain ⟨i1,i2,i3⟩:=inc_num r hr
  unfold incR
  by_cases h57:c=57
  ·subst h57
   rw [if_pos rfl,List.reverse_cons,List.reverse_cons,numL_snoc,numL_snoc,i1]
   refine ⟨?_,?_,?_⟩
   ·have e1:(48:UInt8).toNat=48:=rfl
    have e2:(57:UInt8).toNat=57:=rfl
    rw [e1,e2];omega
   ·intro x hx
    rcases List.mem_cons.1 hx with rfl|hx
    ·decide
    ·exact i2 x hx
   ·rcases i3 with i3|⟨i3,i4⟩
    ·left;simp [i3]
    ·right
     refine ⟨?_,?_⟩
     ·rw [List.length_cons,List.replicate_succ, ← i3]
     ·rw [List.length_cons,List.replicate_succ,i4,List.cons_append]
  ·rw [if_neg h57,List.reverse_cons,List.reverse_cons,numL_snoc,numL_snoc]
   have hne:c.toNat≠57:=fun e=>h57 (UInt8.toNat_inj.1 e)
   have e1:(c+1).toNat=c.toNat+1:=by
    rw [UInt8.toNat_add]
    have:(1:UInt8).toNat=1:=rfl
    rw [this];omega
   refine ⟨by rw [e1];omega,?_, .inl rfl⟩
   intro x hx
   rcases List.mem_cons.1 hx with rfl|hx
   ·rw [e1];omega
   ·exact hr x hx
theorem above_num {l:List UInt8} (h:Dgs l):numL (aboveL l)=numL l+1∧Dgs (aboveL l)∧((aboveL l).length=l.length∨aboveL l=49 :: List.replicate l.length 48):=by
 obtain ⟨i1,i2,i3⟩:=inc_num l.reverse (fun x hx=>h x (List.mem_reverse.1 hx))
 rw [List.reverse_reverse] at i1
 refine ⟨i1,fun x hx=>i2 x (List.mem_reverse.1 hx),?_⟩
 unfold aboveL
 rcases i3 with i3|⟨_,i4⟩
 ·left;rw [List.length_reverse,i3,List.length_reverse]
 ·right;rw [i4];simp
theorem le_scale {x y:D} {K:Nat} (hx:0≤x.e+K) (hy:0≤y.e+K):numD x * denD y≤numD y * denD x ↔ numL x.ds * 10 ^ (x.e+K).toNat≤numL y.ds * 10 ^ (y.e+K).toNat:=by
 have s1:=scale_num x K hx
 have s2:=scale_num y K hy
 have e1:numD x * denD y * 10 ^ K=numL x.ds * 10 ^ (x.e+K).toNat * (denD x * denD y):=by rw [Nat.mul_right_comm,s1];ac_rfl
 have e2:numD y * denD x * 10 ^ K=numL y.ds * 10 ^ (y.e+K).toNat * (denD x * denD y):=by rw [Nat.mul_right_comm,s2];ac_rfl
 rw [← Nat.mul_le_mul_right_iff (Nat.pow_pos (a:=10) (n:=K) (by decide)),e1,e2,Nat.mul_le_mul_right_iff (Nat.mul_pos (denD_pos x) (denD_pos y))]
theorem le_nrm {x y:D} (hx:x.nar=false) (hx0:lz x.ds ≠ []):(numD (nrm x) * denD y≤numD y * denD (nrm x) ↔ numD x * denD y≤numD y * denD x)∧(numD y * denD (nrm x)≤numD (nrm x) * denD y ↔ numD y * denD x≤numD x * denD y):=by
 have hv:=nrm_val hx hx0
 have p1:=denD_pos x
 have p2:=denD_pos (nrm x)
 constructor
 ·rw [← Nat.mul_le_mul_right_iff p1, ← Nat.mul_le_mul_right_iff (n:=numD x * denD y) p2,Nat.mul_right_comm,hv]
  have e1:numD x * denD (nrm x) * denD y=numD x * denD y * denD (nrm x):=by ac_rfl
  have e2:numD y * denD (nrm x) * denD x=numD y * denD x * denD (nrm x):=by ac_rfl
  rw [e1,e2]
 ·rw [← Nat.mul_le_mul_right_iff p1, ← Nat.mul_le_mul_right_iff (n:=numD y * denD x) p2,Nat.mul_right_comm (numD (nrm x)),hv]
  have e1:numD x * denD (nrm x) * denD y=numD x * denD y * denD (nrm x):=by ac_rfl
  have e2:numD y * denD (nrm x) * denD x=numD y * denD x * denD (nrm x):=by ac_rfl
  rw [e1,e2]
theorem last_pos:∀ {l:List UInt8},Dgs l→l ≠ []→l.getLast? ≠ some 48→0<numL l:=by
 intro l h h0 h1
 rcases List.eq_nil_or_concat l with rfl|⟨q,c,rfl⟩
 ·exact absurd rfl h0
 ·rw [List.concat_eq_append] at *
  rw [numL_snoc]
  have hc:=h c (by simp)
  have:c≠48:=fun e=>h1 (by rw [e];simp)
  have hne:c.toNat≠48:=fun e=>this (UInt8.toNat_inj.1 e)
  omega
theorem few_core {a q f X L R r j:Nat} (hX:X<10 ^ j) (hL:10 ^ (j - 1)≤L) (hj:0<j) (hR0:0<R) (hR:R<10 ^ r) :
  (X * 10 ^ f≤(L * 10 ^ r+R) * 10 ^ q→X * 10 ^ f≤L * 10 ^ (r+q))∧((L * 10 ^ r+R) * 10 ^ q≤X * 10 ^ f→(L+1) * 10 ^ (r+q)≤X * 10 ^ f):=by
 have e0:L * 10 ^ (r+q)=L * 10 ^ r * 10 ^ q:=by rw [Nat.pow_add, ← Nat.mul_assoc]
 have e1:(L+1) * 10 ^ (r+q)=(L * 10 ^ r+10 ^ r) * 10 ^ q:=by rw [Nat.pow_add, ← Nat.mul_assoc,Nat.add_mul,Nat.one_mul]
 have hq:0<10 ^ q:=Nat.pow_pos (by decide)
 have b1:L * 10 ^ (r+q)<(L * 10 ^ r+R) * 10 ^ q:=by rw [e0];exact Nat.mul_lt_mul_of_pos_right (by omega) hq
 have b2:(L * 10 ^ r+R) * 10 ^ q<(L+1) * 10 ^ (r+q):=by rw [e1];exact Nat.mul_lt_mul_of_pos_right (by omega) hq
 by_cases h:r+q≤f
 ·obtain ⟨g,rfl⟩:∃ g,f=g+(r+q):=⟨f - (r+q),by omega⟩
  rw [Nat.pow_add 10 g, ← Nat.mul_assoc]
  obtain ⟨Y,hY⟩:∃ Y,X * 10 ^ g=Y:=⟨_,rfl⟩
  rw [hY]
  have hp:0<10 ^ (r+q):=Nat.pow_pos (by decide)
  constructor
  ·intro hle
   have:=Nat.lt_of_mul_lt_mul_right (a:=10 ^ (r+q)) (Nat.lt_of_le_of_lt hle b2)
   exact Nat.mul_le_mul_right _ (by omega)
  ·intro hle
   have:=Nat.lt_of_mul_lt_mul_right (a:=10 ^ (r+q)) (Nat.lt_of_lt_of_le b1 hle)
   exact Nat.mul_le_mul_right _ (by omega)
 ·have h1:X * 10 ^ f<10 ^ j * 10 ^ f:=Nat.mul_lt_mul_of_pos_right hX (Nat.pow_pos (by decide))
  have h2:10 ^ (j - 1) * 10 ^ (r+q)≤L * 10 ^ (r+q):=Nat.mul_le_mul_right _ hL
  have h3:10 ^ (j+f)≤10 ^ (j - 1+(r+q)):=Nat.pow_le_pow_right (by decide) (by omega)
  rw [Nat.pow_add,Nat.pow_add] at h3
  constructor
  ·intro _;omega
  ·intro hle;omega
theorem dgs_all {l:List UInt8}:l.all dg=true ↔ Dgs l:=by
 constructor
 ·intro h c hc
  have:=List.all_eq_true.1 h c hc
  unfold dg at this
  simpa using this
 ·intro h
  refine List.all_eq_true.2 fun c hc=>?_
  unfold dg
  have:=h c hc
  simp [this.1,this.2]
theorem lz_ne_num {l:List UInt8} (h:0<numL l):lz l ≠ []:=fun e=>by
 have h1:=numL_lz l
 rw [e] at h1
 have:numL ([]:List UInt8)=0:=rfl
 omega
structure Real (v:D):Prop where
 norm:Norm v
 nar:v.nar=false
 ds:v.ds ≠ [48]
theorem Real.lead {v:D} (h:Real v):Lead v:=by
 rcases h.norm with e|⟨_,h2,h3,_,_,_,h7⟩
 ·rw [e] at h;exact absurd h.nar (by decide)
 ·rcases h7 with ⟨_,h7,_⟩|⟨h7,_⟩
  ·exact absurd h7 h.ds
  ·cases hl:v.ds with
   | nil=>exact absurd hl h3
   | cons c l =>
    have hg:=dgs_all.1 h2
    refine lead_of hl ?_ hg
    have hc:=hg c (by rw [hl];exact List.mem_cons_self ..)
    have:c≠48:=fun e=>by rw [hl,e] at h7;simp [hd] at h7
    have hne:c.toNat≠48:=fun e=>this (UInt8.toNat_inj.1 e)
    omega
theorem Real.bounds {v:D} (h:Real v):v.ds.length≤4096 ∧ -mostE≤v.e∧v.e≤mostE:=by
 rcases h.norm with e|⟨_,_,_,h4,h5,h6,_⟩
 ·rw [e] at h;exact absurd h.nar (by decide)
 ·exact ⟨h4,h5,h6⟩
theorem Real.last {v:D} (h:Real v) (he:v.e<mostE):v.ds.getLast? ≠ some 48:=by
 rcases h.norm with e|⟨_,_,_,_,_,_,h7⟩
 ·rw [e] at h;exact absurd h.nar (by decide)
 ·rcases h7 with ⟨_,h7,_⟩|⟨_,h7⟩
  ·exact absurd h7 h.ds
  ·rcases h7 with h7|h7
   ·exact h7
   ·omega
theorem take_lead {v:D} (h:Lead v) {j:Nat} (hj:0<j) (hj2:j≤v.ds.length):Dgs (v.ds.take j)∧10 ^ (j - 1)≤numL (v.ds.take j)∧numL v.ds=numL (v.ds.take j) * 10 ^ (v.ds.length - j)+numL (v.ds.drop j)∧numL (v.ds.drop j)<10 ^ (v.ds.length - j):=by
 have hd1:Dgs (v.ds.take j):=fun c hc=>h.dgs c (List.mem_of_mem_take hc)
 have hd2:Dgs (v.ds.drop j):=fun c hc=>h.dgs c (List.mem_of_mem_drop hc)
 have e:=numL_app (v.ds.take j) (v.ds.drop j)
 rw [List.take_append_drop,List.length_drop] at e
 have b:=numL_lt' hd2
 rw [List.length_drop] at b
 refine ⟨hd1,?_,e,b⟩
 have hle:=h.le
 rw [e] at hle
 obtain ⟨r,hr⟩:∃ r,v.ds.length - j=r:=⟨_,rfl⟩
 rw [hr] at hle b
 rw [show v.ds.length - 1=j - 1+r by omega,Nat.pow_add] at hle
 have h3:10 ^ (j - 1) * 10 ^ r<(numL (v.ds.take j)+1) * 10 ^ r:=by rw [Nat.add_mul,Nat.one_mul];omega
 have:=Nat.lt_of_mul_lt_mul_right h3
 omega
theorem nrm_real {d:D} (hf:formed d=true) (hn:d.nar=false) (h:0<numL d.ds):Real (nrm d)∧(nrm d).neg=d.neg:=by
 have h0:=lz_ne_num h
 have hN:=SC.norm_nrm hf
 have hnn:(nrm d).nar=false:=nrm_nar hn
 have hv:=nrm_val hn h0
 refine ⟨⟨hN,hnn,fun e=>?_⟩,?_⟩
 ·have h1:numD (nrm d)=0:=by
   unfold numD;rw [e]
   have:numL [48]=0:=rfl
   rw [this,Nat.zero_mul]
  rw [h1,Nat.zero_mul] at hv
  have h2:0<numD d:=by unfold numD;exact Nat.mul_pos h (Nat.pow_pos (by decide))
  have h3:=Nat.mul_pos h2 (denD_pos (nrm d))
  omega
 ·unfold nrm
  rw [if_neg (by rw [hn];decide),if_neg h0]
theorem low_formed {v:D} (h:Real v) (hE : -1000≤v.e∧v.e≤1000) {j:Nat} (hj:0<j) (hj2:j≤v.ds.length) :
  (formed (lowD v j)=true∧0<numL (lowD v j).ds)∧(formed (highD v j)=true∨v.ds.length=j)∧0<numL (highD v j).ds:=by
 obtain ⟨hd1,hL,_,_⟩:=take_lead h.lead hj hj2
 obtain ⟨hb,_,_⟩:=h.bounds
 obtain ⟨a1,a2,a3⟩:=above_num hd1
 have hp:0<10 ^ (j - 1):=Nat.pow_pos (by decide)
 have hl:(v.ds.take j).length=j:=by rw [List.length_take];omega
 have hm:mostE=1000000:=rfl
 refine ⟨⟨?_,Nat.lt_of_lt_of_le hp hL⟩,?_,?_⟩
 ·unfold formed lowD
  simp only [h.nar,Bool.false_eq_true,if_false,Bool.and_eq_true,decide_eq_true_iff,Bool.not_eq_true',List.isEmpty_eq_false_iff]
  exact ⟨fun e=>by rw [e] at hl;simp at hl;omega,by omega,dgs_all.2 hd1,by omega,by omega⟩
 ·by_cases hlt:v.ds.length=j
  ·exact .inr hlt
  ·left
   have hal:(aboveL (v.ds.take j)).length≤j+1∧0<(aboveL (v.ds.take j)).length:=by
    rcases a3 with a3|a3
    ·rw [a3,hl];omega
    ·rw [a3,hl];simp
   unfold formed highD
   simp only [h.nar,Bool.false_eq_true,if_false,Bool.and_eq_true,decide_eq_true_iff,Bool.not_eq_true',List.isEmpty_eq_false_iff]
   exact ⟨fun e=>by rw [e] at hal;simp at hal,by omega,dgs_all.2 a2,by omega,by omega⟩
 ·show 0<numL (aboveL (v.ds.take j))
  rw [a1];omega
theorem few {n:Nat} (hn:3≤n) {v d:D} (hv:Real v) (hd:Real d) (hE : -1000≤v.e∧v.e≤1000) (hj:d.ds.length<v.ds.length) (hp:posD n d=posD n v) :
  posD n (nrm (lowD v d.ds.length))=posD n v∨posD n (nrm (highD v d.ds.length))=posD n v:=by
 obtain ⟨j,hjj⟩:∃ j,d.ds.length=j:=⟨_,rfl⟩
 have hj0:0<j:=by rw [← hjj];exact hd.lead.ne
 rw [hjj] at hj ⊢
 obtain ⟨hd1,hL,hsplit,hR⟩:=take_lead hv.lead hj0 (Nat.le_of_lt hj)
 obtain ⟨⟨f1,f2⟩,f3,f4⟩:=low_formed hv hE hj0 (Nat.le_of_lt hj)
 obtain ⟨a1,a2,a3⟩:=above_num hd1
 have f3:formed (highD v j)=true:=by
  rcases f3 with f3|f3
  ·exact f3
  ·omega
 have hm:mostE=1000000:=rfl
 have hR0:0<numL (v.ds.drop j):=by
  refine last_pos (fun c hc=>hv.lead.dgs c (List.mem_of_mem_drop hc)) (fun e=>?_) ?_
  ·have:=congrArg List.length e
   rw [List.length_drop] at this
   simp at this;omega
  ·intro e
   refine hv.last (by omega) ?_
   rw [← List.take_append_drop j v.ds,List.getLast?_append,e];rfl
 obtain ⟨lr,_⟩:=nrm_real f1 hv.nar f2
 obtain ⟨hr,_⟩:=nrm_real f3 hv.nar f4
 obtain ⟨K,hK⟩:∃ K:Nat,K=d.e.natAbs+v.e.natAbs:=⟨_,rfl⟩
 have hX:=numL_lt' hd.lead.dgs
 rw [hjj] at hX
 obtain ⟨c1,c2⟩:=few_core (a:=0) (q:=(v.e+K).toNat) (f:=(d.e+K).toNat) hX hL hj0 hR0 hR
 rw [← hsplit] at c1 c2
 have eK:(lowD v j).e+K=v.e+(v.ds.length - j:Nat)+K:=by unfold lowD;simp only;omega
 have eK2:((lowD v j).e+K).toNat=(v.ds.length - j)+(v.e+K).toNat:=by omega
 have eh:(highD v j).e=(lowD v j).e:=rfl
 have sdv:=le_scale (x:=d) (y:=v) (K:=K) (by omega) (by omega)
 have svd:=le_scale (x:=v) (y:=d) (K:=K) (by omega) (by omega)
 by_cases hle:numD d * denD v≤numD v * denD d
 ·left
  have g1:numD d * denD (lowD v j)≤numD (lowD v j) * denD d:=by
   rw [le_scale (K:=K) (by omega) (by omega),eK2]
   exact c1 (sdv.1 hle)
  have g2:numD (lowD v j) * denD v≤numD v * denD (lowD v j):=by
   rw [le_scale (K:=K) (by omega) (by omega),eK2,hsplit]
   show numL (v.ds.take j) * _≤_
   rw [Nat.pow_add, ← Nat.mul_assoc]
   exact Nat.mul_le_mul_right _ (Nat.le_add_right _ _)
  have p1:=posD_mono hn hd.lead lr.lead ((le_nrm (x:=lowD v j) hv.nar (lz_ne_num f2)).2.2 g1)
  have p2:=posD_mono hn lr.lead hv.lead ((le_nrm (x:=lowD v j) hv.nar (lz_ne_num f2)).1.2 g2)
  omega
 ·right
  have hge:numD v * denD d≤numD d * denD v:=by omega
  have g1:numD (highD v j) * denD d≤numD d * denD (highD v j):=by
   rw [le_scale (K:=K) (by omega) (by omega),eh,eK2]
   show numL (aboveL (v.ds.take j)) * _≤_
   rw [a1]
   exact c2 (svd.1 hge)
  have g2:numD v * denD (highD v j)≤numD (highD v j) * denD v:=by
   rw [le_scale (K:=K) (by omega) (by omega),eh,eK2,hsplit]
   show _≤numL (aboveL (v.ds.take j)) * _
   rw [a1,Nat.pow_add, ← Nat.mul_assoc]
   refine Nat.mul_le_mul_right _ ?_
   rw [Nat.add_mul,Nat.one_mul];omega
  have p1:=posD_mono hn hr.lead hd.lead ((le_nrm (x:=highD v j) hv.nar (lz_ne_num f4)).1.2 g1)
  have p2:=posD_mono hn hv.lead hr.lead ((le_nrm (x:=highD v j) hv.nar (lz_ne_num f4)).2.2 g2)
  omega
theorem nrm_len (d:D):(nrm d).ds.length≤max d.ds.length 1:=by
 unfold nrm
 split
 ·omega
 ·split
  ·simp only [List.length_cons,List.length_nil];omega
  ·simp only [List.length_take]
   have:=SC.lz_le d.ds
   omega
theorem high_len {v:D} (h:Real v) (hE : -1000≤v.e∧v.e≤1000) {j:Nat} (hj:0<j) (hj2:j≤v.ds.length):(nrm (highD v j)).ds.length≤j:=by
 obtain ⟨hd1,_,_,_⟩:=take_lead h.lead hj hj2
 obtain ⟨_,_,a3⟩:=above_num hd1
 have hl:(v.ds.take j).length=j:=by rw [List.length_take];omega
 obtain ⟨hb,_,_⟩:=h.bounds
 have hm:mostE=1000000:=rfl
 rcases a3 with a3|a3
 ·have:=nrm_len (highD v j)
  have e:(highD v j).ds.length=j:=by show (aboveL _).length=j;rw [a3,hl]
  omega
 ·have e:(highD v j).ds=49 :: List.replicate j 48:=by show aboveL _=_;rw [a3,hl]
  unfold nrm
  rw [if_neg (by show ¬ v.nar=true;rw [h.nar];decide),e]
  have hz:lz (49 :: List.replicate j 48)=49 :: List.replicate j 48:=rfl
  rw [hz,if_neg (by simp)]
  have ht:tz (49 :: List.replicate j 48)=j:=by
   unfold tz
   have e2:(49 :: List.replicate j 48:List UInt8) = [49] ++ List.replicate j 48:=rfl
   rw [e2,SC.rz_noughts]
   have:rz [49] = [49]:=rfl
   rw [this];simp
  rw [ht]
  simp only [List.length_take,List.length_cons,List.length_replicate]
  have he:(highD v j).e=v.e+v.ds.length - j:=rfl
  rw [he]
  omega
end Go.Proofs.Yy.PTx
end
section
namespace Go.Proofs.Yy.PTx
open Go.RowKit Go.Proofs.Yw.PrintWords Go.Proofs.Yw.PrintLast Go.Proofs.Yw.PrintMore Go.Proofs.Yy.M Go.Proofs.Yy.TA Go.Proofs.Yy.NM Go.Proofs.Yy.SC
attribute [local irreducible] add64Lo add64Hi sub64Lo sub64Hi val
theorem nrm_e {d:D} (hn:d.nar=false) (h0:lz d.ds ≠ []):d.e≤(nrm d).e∧(nrm d).e≤d.e+d.ds.length:=by
 unfold nrm
 rw [if_neg (by rw [hn];decide),if_neg h0]
 have h1:=lz_le d.ds
 have h2:tz (lz d.ds)≤(lz d.ds).length:=Nat.sub_le _ _
 simp only
 omega
theorem ofD_real {n:Nat} {v:D} (h:Real v):ofD n v=sgn n v.neg (posD n v):=by
 unfold ofD
 rw [nrm_of_norm h.norm,if_neg (by rw [h.nar];decide),if_neg h.ds]
theorem sgn_mag {n p:Nat} (hn:1≤n) (h0:p % 2 ^ n≠0):sgn n (decide (2 ^ (n - 1)≤p % 2 ^ n)) (if 2 ^ (n - 1)≤p % 2 ^ n then 2 ^ n - p % 2 ^ n else p % 2 ^ n)=p % 2 ^ n:=by
 have hlt:p % 2 ^ n<2 ^ n:=Nat.mod_lt _ (Nat.two_pow_pos _)
 unfold sgn
 by_cases h:2 ^ (n - 1)≤p % 2 ^ n
 ·rw [decide_eq_true h,if_pos rfl,if_pos h,show 2 ^ n - (2 ^ n - p % 2 ^ n)=p % 2 ^ n by omega]
  exact Nat.mod_eq_of_lt hlt
 ·rw [decide_eq_false h,if_neg (by decide),if_neg h]
  exact Nat.mod_eq_of_lt hlt
theorem mag_le {n p:Nat} (hn:1≤n) (h1:p % 2 ^ n≠2 ^ (n - 1)):(if 2 ^ (n - 1)≤p % 2 ^ n then 2 ^ n - p % 2 ^ n else p % 2 ^ n)≤2 ^ (n - 1) - 1:=by
 have hlt:p % 2 ^ n<2 ^ n:=Nat.mod_lt _ (Nat.two_pow_pos _)
 have hpw:2 ^ n=2 * 2 ^ (n - 1):=by rw [show n=(n - 1)+1 by omega,Nat.pow_succ];simp;omega
 split <;> omega
theorem tz_ev {M:Nat} (h1:2 ^ 63≤M) (h2:M<2 ^ 64):∃ c:Nat,c<64∧M=M / 2 ^ c * 2 ^ c∧bits_TrailingZeros64.f (M:Int)=some (c:Int):=by
 have h0:0<M:=Nat.lt_of_lt_of_le (Nat.two_pow_pos _) h1
 obtain ⟨q,e,hc⟩:=Lib.ctzFrom_spec 64 M h0 h2
 have hz:Lib.ctz 64 M=Lib.ctzFrom 64 M:=by unfold Lib.ctz;rw [if_neg (by omega)]
 obtain ⟨c,hcc⟩:∃ c,Lib.ctzFrom 64 M=c:=⟨_,rfl⟩
 rw [hcc] at e hc hz
 refine ⟨c,hc,?_,?_⟩
 ·have hd:M / 2 ^ c=2 * q+1:=by rw [e];exact Nat.mul_div_cancel_left _ (Nat.two_pow_pos c)
  rw [hd,Nat.mul_comm];exact e
 ·unfold bits_TrailingZeros64.f
  rw [if_pos ⟨Int.natCast_nonneg _,by rw [p64] at h2;omega⟩,Int.toNat_natCast,hz]
theorem norm_dec {u:Nat} {e:Int} {neg:Bool} {K:Nat} (hu:0<u) (hK:u<10 ^ (K+1)) (hK2:K+1≤600) (he1 : -400≤e) (he2:e≤400) :
  ∃ v,v=nrm ⟨false,neg,Lib.decDigits u,e⟩∧Real v∧v.neg=neg ∧ -1000≤v.e∧v.e≤1000∧v.ds.length≤600∧scan_Norm.f false neg (mkB (Lib.decDigits u)) e=some (v.nar,v.neg,mkB v.ds,v.e,none):=by
 have hm:mostE=1000000:=rfl
 obtain ⟨f1,f2,f3⟩:=dec_form (neg:=neg) (e:=e) hu hK (by omega) (by omega) (by omega)
 have h4:0<numL (⟨false,neg,Lib.decDigits u,e⟩:D).ds:=by show 0<numL (Lib.decDigits u);rw [numL_dec];exact hu
 obtain ⟨r1,r2⟩:=nrm_real f1 rfl h4
 obtain ⟨e1,e2⟩:=nrm_e (d:=⟨false,neg,Lib.decDigits u,e⟩) rfl f2
 have hl:=decDigits_len K u hK
 have hl2:=nrm_len ⟨false,neg,Lib.decDigits u,e⟩
 simp only at e1 e2 hl2
 have hs:=scan_Norm_ev ⟨false,neg,Lib.decDigits u,e⟩
 rw [if_pos f1] at hs
 exact ⟨_,rfl,r1,r2,by omega,by omega,by omega,hs⟩
theorem Decimal_ev {n:Nat} (hw:Wd n) (p:Nat) (hp:p<2 ^ 64) (h0:p % 2 ^ n≠0) (h1:p % 2 ^ n≠2 ^ (n - 1)) :
  ∃ v:D,Real v∧(-1000≤v.e∧v.e≤1000)∧v.ds.length≤600∧ofD n v=p % 2 ^ n∧Ev (fun k=>text_Decimal.f k (n:Int) (p:Int)) (v.nar,v.neg,mkB v.ds,v.e,none):=by
 obtain ⟨h8,h64⟩:=hw.bounds
 obtain ⟨s,M,hM,hdec⟩:=Decode_spec hw p hp h0 h1
 have hle:=mag_le (n:=n) (p:=p) (by omega) h1
 have hback:=sgn_mag (n:=n) (p:=p) (by omega) h0
 obtain ⟨m',hm'⟩:∃ m',(if 2 ^ (n - 1)≤p % 2 ^ n then 2 ^ n - p % 2 ^ n else p % 2 ^ n)=m':=⟨_,rfl⟩
 obtain ⟨neg,hneg⟩:∃ neg,decide (2 ^ (n - 1)≤p % 2 ^ n)=neg:=⟨_,rfl⟩
 rw [hm'] at hM hle hback
 rw [hneg] at hdec hback
 obtain ⟨hs1,hs2⟩:=means_low h64 hM
 obtain ⟨c,hc,hMc,htz⟩:=tz_ev hM.lo hM.hi
 obtain ⟨m,hm⟩:∃ m,M / 2 ^ c=m:=⟨_,rfl⟩
 have hshr:shr .u64 (M:Int) (c:Int)=(m:Int):=by rw [shr_nat M c hM.hi,hm]
 rw [hm] at hMc
 have hmM:m≤M:=by rw [← hm];exact Nat.div_le_self _ _
 have hmlt:m<2 ^ 64:=Nat.lt_of_le_of_lt hmM hM.hi
 have hm0:0<m:=Nat.pos_of_ne_zero fun e=>by
  have:=hM.lo
  rw [hMc,e,Nat.zero_mul] at this
  omega
 have hmB:(m:Int)<B:=by
  have h:=hmlt
  rw [p64] at h
  rw [Bdef];omega
 have hof:=nOf_ev (v:=(m:Int)) (Int.natCast_nonneg _) hmB
 obtain ⟨A_,hA_⟩:∃ x:Nat,x=5:=⟨_,rfl⟩
 obtain ⟨X_,hX_⟩:∃ x:Nat,x=30:=⟨_,rfl⟩
 obtain ⟨Y_,hY_⟩:∃ x:Nat,x=64:=⟨_,rfl⟩
 have hmY:m<2 ^ Y_:=by rw [hY_];exact hmlt
 have hmA:m<2 ^ (64 * A_):=pow_up hmY (by omega)
 have he:wrap64 (wrap64 (s - 63)+(c:Int))=s - 63+c:=by rw [tw64 (x:=s - 63) (by omega) (by omega),tw64 (by omega) (by omega)]
 -- what comes of it, however the number is made
 have fin:∀ v:D,Real v→v.neg=neg→posD n v=m'→ofD n v=p % 2 ^ n:=by
  intro v hv hvn hvp
  rw [ofD_real hv,hvn,hvp,hback]
 by_cases hge:0≤s - 63+c
 ·obtain ⟨j,hj⟩:=Int.eq_ofNat_of_zero_le hge
  have hjle:j≤248:=by omega
  have hshl:=nShl_ev (a:=enc B (m:Int)) nn_dig (Nat.le_trans (nn_len hmA) (by omega)) j (by omega)
  rw [nn_val,pw2c, ← Int.natCast_mul] at hshl
  obtain ⟨u,hu⟩:∃ u,m * 2 ^ j=u:=⟨_,rfl⟩
  rw [hu] at hshl
  have hu0:0<u:=by rw [← hu];exact Nat.mul_pos hm0 (Nat.two_pow_pos _)
  obtain ⟨Z_,hZ_⟩:∃ x:Nat,x=Y_+j:=⟨_,rfl⟩
  have huZ:u<2 ^ Z_:=by rw [← hu,hZ_,Nat.pow_add];exact Nat.mul_lt_mul_of_pos_right hmY (Nat.two_pow_pos _)
  have huX:u<2 ^ (64 * X_):=pow_up huZ (by omega)
  have htext:=nText_ev (a:=enc B (u:Int)) nn_dig (Nat.le_trans (nn_len huX) (by omega))
  rw [nn_val] at htext
  have hdd:dec (u:Int)=Lib.decDigits u:=by unfold dec;rw [Int.toNat_natCast]
  rw [hdd] at htext
  have hK:u<10 ^ (Z_ / 3+1):=Nat.lt_trans huZ (pow_lt_ten _)
  obtain ⟨v,hv,r1,r2,r3,r4,r5,r6⟩:=norm_dec (e:=0) (neg:=neg) hu0 hK (by omega) (by omega) (by omega)
  refine ⟨v,r1,⟨r3,r4⟩,r5,fin v r1 r2 ?_,?_⟩
  ·rw [hv, ← hu,show j=(s - 63+(c:Int)).toNat by omega]
   exact dec_up (by omega) hle hM hMc hge neg
  ·unfold text_Decimal.f
   refine Ev.bind hdec ?_
   simp only [Option.isNone_none,if_true,show ¬ ((1:Int)=2) by decide,show ¬ ((1:Int)=0) by decide,if_false,htz,Option.bind_some,hshr,he,Int.natCast_nonneg]
   refine Ev.bind hof ?_
   rw [hj]
   simp only [ge_iff_le,Int.natCast_nonneg,if_true]
   refine Ev.bind hshl ?_
   simp only [Option.isNone_none,if_true]
   refine Ev.bind htext ?_
   rw [r6]
   exact Ev.now _
 ·obtain ⟨j,hj⟩:=Int.eq_ofNat_of_zero_le (show 0 ≤ -(s - 63+(c:Int)) by omega)
  have hjle:j≤311:=by omega
  have hej:wrap64 (-(s - 63+(c:Int)))=(j:Int):=by rw [tw64 (by omega) (by omega),hj]
  have hten:=nTen_ev j (by omega)
  rw [pw10c] at hten
  have htlt:10 ^ j<2 ^ (64 * X_):=pow_up (ten_lt j) (by omega)
  have hmul:Ev (fun n=>nat_Mul.f n [enc B (m:Int),enc B ((10 ^ j:Nat):Int)]) (enc B ((m * 10 ^ j:Nat):Int)):=by
   have h:=Mul_ev (l := [enc B (m:Int),enc B ((10 ^ j:Nat):Int)]) (by intro x hx;simp only [List.mem_cons,List.mem_nil_iff,or_false] at hx;rcases hx with rfl|rfl <;> exact nn_dig) (by
    have a1:=nn_len hmA
    have a2:=nn_len htlt
    simp only [List.map_cons,List.map_nil,List.sum_cons,List.sum_nil,List.length_cons,List.length_nil]
    omega)
   unfold prodV at h
   simp only [List.foldl_cons,List.foldl_nil,nn_val,Int.one_mul] at h
   rw [← Int.natCast_mul] at h
   exact h
  have hV:m * 10 ^ j<2 ^ (64 * (A_+X_)):=pow_two hmA htlt (by omega)
  have hshr2:=nShr_ev (a:=enc B ((m * 10 ^ j:Nat):Int)) nn_dig (Nat.le_trans (nn_len hV) (by omega)) j (by omega)
  obtain ⟨u,hu⟩:∃ u,m * 5 ^ j=u:=⟨_,rfl⟩
  have hdiv:((m * 10 ^ j:Nat):Int) / pw 2 j=(u:Int):=by
   rw [pw2c, ← Int.natCast_ediv,show (10:Nat) ^ j=5 ^ j * 2 ^ j by rw [← Nat.mul_pow], ← Nat.mul_assoc,hu,Nat.mul_div_cancel _ (Nat.two_pow_pos _)]
  rw [nn_val,hdiv] at hshr2
  have hu0:0<u:=by rw [← hu];exact Nat.mul_pos hm0 (Nat.pow_pos (by decide))
  have hu10:u≤m * 10 ^ j:=by rw [← hu];exact Nat.mul_le_mul_left _ (Nat.pow_le_pow_left (by decide) j)
  have huX:u<2 ^ (64 * (A_+X_)):=Nat.lt_of_le_of_lt hu10 hV
  have htext:=nText_ev (a:=enc B (u:Int)) nn_dig (Nat.le_trans (nn_len huX) (by omega))
  rw [nn_val] at htext
  have hdd:dec (u:Int)=Lib.decDigits u:=by unfold dec;rw [Int.toNat_natCast]
  rw [hdd] at htext
  have hK:u<10 ^ (Y_ / 3+j+1):=by
   have h3:=Nat.lt_trans hmY (pow_lt_ten Y_)
   have h4:m * 10 ^ j<10 ^ (Y_ / 3+1) * 10 ^ j:=Nat.mul_lt_mul_of_pos_right h3 (Nat.pow_pos (by decide))
   rw [← Nat.pow_add] at h4
   rw [show Y_ / 3+j+1=Y_ / 3+1+j by omega]
   omega
  obtain ⟨v,hv,r1,r2,r3,r4,r5,r6⟩:=norm_dec (e:=s - 63+c) (neg:=neg) hu0 hK (by omega) (by omega) (by omega)
  refine ⟨v,r1,⟨r3,r4⟩,r5,fin v r1 r2 ?_,?_⟩
  ·rw [hv, ← hu,show j=(-(s - 63+(c:Int))).toNat by omega]
   exact dec_dn (by omega) hle hM hMc (by omega) neg
  ·unfold text_Decimal.f
   refine Ev.bind hdec ?_
   simp only [Option.isNone_none,if_true,show ¬ ((1:Int)=2) by decide,show ¬ ((1:Int)=0) by decide,if_false,htz,Option.bind_some,hshr,he,Int.natCast_nonneg]
   refine Ev.bind hof ?_
   simp only [ge_iff_le,show ¬ (0≤s - 63+(c:Int)) from hge,if_false,hej]
   refine Ev.bind hten ?_
   simp only [Option.isNone_none,if_true]
   refine Ev.bind hmul ?_
   refine Ev.bind hshr2 ?_
   simp only [Option.isNone_none,if_true]
   refine Ev.bind htext ?_
   rw [r6]
   exact Ev.now _
theorem Decimal_zero {n:Nat} (hw:Wd n) (p:Nat) (hp:p<2 ^ 64) (h0:p % 2 ^ n=0) (k:Nat):text_Decimal.f k (n:Int) (p:Int)=some (false,false,mkB [48],0,none):=by
 unfold text_Decimal.f codec_Decode.f
 rw [Kind_spec hw p hp,if_pos h0]
 rfl
theorem Decimal_nar {n:Nat} (hw:Wd n) (p:Nat) (hp:p<2 ^ 64) (h0:p % 2 ^ n≠0) (h1:p % 2 ^ n=2 ^ (n - 1)) (k:Nat):text_Decimal.f k (n:Int) (p:Int)=some (true,false,mkB [],0,none):=by
 unfold text_Decimal.f codec_Decode.f
 rw [Kind_spec hw p hp,if_neg h0,if_pos h1]
 rfl
end Go.Proofs.Yy.PTx
end
section
namespace Go.Proofs.Yy.PTx
open Go.RowKit Go.Proofs.Yw.PrintWords Go.Proofs.Yw.PrintLast Go.Proofs.Yw.PrintMore Go.Proofs.Yy.M Go.Proofs.Yy.TA Go.Proofs.Yy.NM Go.Proofs.Yy.SC
structure Best (n own:Nat) (v b:D) (i:Nat):Prop where
 one:1≤i
 le:i≤v.ds.length
 is:(b=v∧i=v.ds.length)∨(i<v.ds.length∧(b=lowD v i∨b=highD v i))
 back:ofD n b=own
 none:∀ k,1≤k→k<i→ofD n (lowD v k)≠own∧ofD n (highD v k)≠own
theorem above_f {l:List UInt8} (b0 b1:Bool) (e:Int) (h0:l ≠ []) (h1:l.length≤1048576):text_above.f b0 b1 (mkB l) e=some (b0,b1,mkB (aboveL l),e):=by
 unfold text_above.f
 rw [if_pos (by rw [mkB_list,mkB_size];exact ⟨h0,h1⟩),mkB_list]
theorem short_go {n:Nat} (hw:Wd n) {v:D} (hv:Real v) (hE : -1000≤v.e∧v.e≤1000) {own:Nat} (hown:ofD n v=own):∀ m j:Nat,1≤j→j+m=v.ds.length →
  (∀ k,1≤k→k<j→ofD n (lowD v k)≠own∧ofD n (highD v k)≠own) → ∃ b i,Best n own v b i∧Ev (fun k=>tshort_go k (n:Int) v.nar v.neg (mkB v.ds) v.e (own:Int) m j) (flatD b)
 | 0,j,h1,h2,h3=>⟨v,j,⟨h1,by omega, .inl ⟨rfl,by omega⟩,hown,h3⟩,Ev.now _⟩
 | m+1,j,h1,h2,h3=>by
  obtain ⟨hb,_,_⟩:=hv.bounds
  obtain ⟨⟨f1,_⟩,f2,_⟩:=low_formed hv hE (j:=j) (by omega) (by omega)
  have f2:formed (highD v j)=true:=by
   rcases f2 with f2|f2
   ·exact f2
   ·omega
  have e0:(mkB v.ds).extract 0 j=mkB (v.ds.take j):=mkB_take _ _ (by omega)
  have e1:wrap64 (wrap64 (v.e+((mkB v.ds).size:Int)) - (j:Int))=v.e+v.ds.length - j:=by
   rw [mkB_size,tw64 (x:=v.e+(v.ds.length:Int)) (by omega) (by omega),tw64 (by omega) (by omega)]
  have hl:(v.ds.take j).length=j:=by rw [List.length_take];omega
  have e2:=above_f (l:=v.ds.take j) v.nar v.neg (v.e+v.ds.length - j) (fun e=>by rw [e] at hl;simp at hl;omega) (by omega)
  have ta:=tOf_ev hw (lowD v j)
  have tb:=tOf_ev hw (highD v j)
  rw [if_pos f1] at ta
  rw [if_pos f2] at tb
  obtain ⟨hs,hhs⟩:∃ hs:Prop,((mkB v.ds).extract j (mkB v.ds).size).data.toList ≤ [53] ↔ hs:=⟨_,Iff.rfl⟩
  have step:∀ {b:D},Ev (fun k=>if ofD n (lowD v j)=own∧(ofD n (highD v j)≠own∨((mkB v.ds).extract j (mkB v.ds).size).data.toList ≤ [53]) then some (flatD (lowD v j)) else if ofD n (highD v j)=own then some (flatD (highD v j)) else tshort_go k (n:Int) v.nar v.neg (mkB v.ds) v.e (own:Int) m (j+1)) (flatD b) →
    Ev (fun k=>tshort_go k (n:Int) v.nar v.neg (mkB v.ds) v.e (own:Int) (m+1) j) (flatD b):=by
   intro b h
   refine Ev.congr (f:=fun k=>(text_Of.f k (n:Int) (lowD v j).nar (lowD v j).neg (mkB (lowD v j).ds) (lowD v j).e).bind fun a=>(text_Of.f k (n:Int) (highD v j).nar (highD v j).neg (mkB (highD v j).ds) (highD v j).e).bind fun b =>
    if a.2=none∧b.2=none then (if a.1=(own:Int)∧(b.1≠(own:Int)∨((mkB v.ds).extract j (mkB v.ds).size).data.toList ≤ [53]) then some (flatD (lowD v j)) else if b.1=(own:Int) then some (flatD (highD v j)) else tshort_go k (n:Int) v.nar v.neg (mkB v.ds) v.e (own:Int) m (j+1)) else none) (fun k=>?_) ?_
   ·conv=>lhs;unfold tshort_go
    rw [e0,e1,e2]
    rfl
   ·refine Ev.bind ta (Ev.bind tb ?_)
    simp only [true_and,if_true,Int.natCast_inj,ne_eq,and_self]
    exact h
  by_cases ca:ofD n (lowD v j)=own
  ·by_cases cb:ofD n (highD v j)=own
   ·by_cases ch:((mkB v.ds).extract j (mkB v.ds).size).data.toList ≤ [53]
    ·refine ⟨lowD v j,j,⟨h1,by omega, .inr ⟨by omega, .inl rfl⟩,ca,h3⟩,step ?_⟩
     simp only [if_pos (show ofD n (lowD v j)=own∧(ofD n (highD v j)≠own∨((mkB v.ds).extract j (mkB v.ds).size).data.toList ≤ [53]) from ⟨ca, .inr ch⟩)]
     exact Ev.now _
    ·refine ⟨highD v j,j,⟨h1,by omega, .inr ⟨by omega, .inr rfl⟩,cb,h3⟩,step ?_⟩
     simp only [if_neg (show ¬ (ofD n (lowD v j)=own∧(ofD n (highD v j)≠own∨((mkB v.ds).extract j (mkB v.ds).size).data.toList ≤ [53])) from fun h=>h.2.elim (fun h=>h cb) ch),if_pos cb]
     exact Ev.now _
   ·refine ⟨lowD v j,j,⟨h1,by omega, .inr ⟨by omega, .inl rfl⟩,ca,h3⟩,step ?_⟩
    simp only [if_pos (show ofD n (lowD v j)=own∧(ofD n (highD v j)≠own∨((mkB v.ds).extract j (mkB v.ds).size).data.toList ≤ [53]) from ⟨ca, .inl cb⟩)]
    exact Ev.now _
  ·by_cases cb:ofD n (highD v j)=own
   ·refine ⟨highD v j,j,⟨h1,by omega, .inr ⟨by omega, .inr rfl⟩,cb,h3⟩,step ?_⟩
    simp only [if_neg (show ¬ (ofD n (lowD v j)=own∧(ofD n (highD v j)≠own∨((mkB v.ds).extract j (mkB v.ds).size).data.toList ≤ [53])) from fun h=>ca h.1),if_pos cb]
    exact Ev.now _
   ·obtain ⟨b,i,hB,hev⟩:=short_go hw hv hE hown m (j+1) (by omega) (by omega) (fun k k1 k2=>by
     by_cases hk:k=j
     ·subst hk;exact ⟨ca,cb⟩
     ·exact h3 k k1 (by omega))
    refine ⟨b,i,hB,step ?_⟩
    simp only [if_neg (show ¬ (ofD n (lowD v j)=own∧(ofD n (highD v j)≠own∨((mkB v.ds).extract j (mkB v.ds).size).data.toList ≤ [53])) from fun h=>ca h.1),if_neg cb]
    exact hev
theorem ofD_nrm {n:Nat} {d:D} (hf:formed d=true):ofD n (nrm d)=ofD n d:=by
 unfold ofD
 rw [nrm_of_norm (norm_nrm hf)]
theorem formed_real {v:D} (h:Real v):formed v=true:=formed_of_norm h.norm
theorem sgD_real {v:D} (h:Real v):sgD v=if v.neg=true then -1 else 1:=by
 unfold sgD
 rw [if_neg h.ds]
theorem same_pos {n:Nat} (hw:Wd n) {x y:D} (hx:Real x) (hy:Real y) (h:ofD n x=ofD n y):posD n x=posD n y:=by
 have h1:=(ofD_rnk hw (formed_real hx) hx.nar).2
 have h2:=(ofD_rnk hw (formed_real hy) hy.nar).2
 rw [nrm_of_norm hx.norm,sgD_real hx] at h1
 rw [nrm_of_norm hy.norm,sgD_real hy] at h2
 rw [h,h2] at h1
 split at h1 <;> split at h1 <;> omega
theorem own_bits {n:Nat} (hw:Wd n) {p:Nat} (hp:p<2 ^ 64):shr .u64 (shl .u64 (p:Int) (64 - (n:Int))) (64 - (n:Int))=((p % 2 ^ n:Nat):Int):=by
 obtain ⟨h8,h64⟩:=hw.bounds
 rw [show (64 - (n:Int))=((64 - n:Nat):Int) by omega,shl_nat,shr_nat _ _ (Nat.mod_lt _ (Nat.two_pow_pos _))]
 have e:(2:Nat) ^ 64=2 ^ n * 2 ^ (64 - n):=by rw [← Nat.pow_add];congr 1;omega
 rw [e,Nat.mul_mod_mul_right,Nat.mul_div_cancel _ (Nat.two_pow_pos _)]
structure Shorts (n p:Nat) (v t:D):Prop where
 vr:Real v
 ve : -1000≤v.e∧v.e≤1000
 vl:v.ds.length≤600
 vof:ofD n v=p % 2 ^ n
 tr:Real t
 te : -2000≤t.e∧t.e≤2000
 tl:t.ds.length≤v.ds.length
 tof:ofD n t=p % 2 ^ n
 few:∀ d,Real d→ofD n d=p % 2 ^ n→t.ds.length≤d.ds.length
 neg:t.neg=v.neg
 dec:Ev (fun k=>text_Decimal.f k (n:Int) (p:Int)) (v.nar,v.neg,mkB v.ds,v.e,none)
 sh:Ev (fun k=>text_Short.f k (n:Int) (p:Int)) (mkB (textN t),none)
theorem Short_ev {n:Nat} (hw:Wd n) (p:Nat) (hp:p<2 ^ 64) (h0:p % 2 ^ n≠0) (h1:p % 2 ^ n≠2 ^ (n - 1)):∃ v t:D,Shorts n p v t:=by
 obtain ⟨h8,h64⟩:=hw.bounds
 obtain ⟨v,vr,ve,vl,vof,hdec⟩:=Decimal_ev hw p hp h0 h1
 obtain ⟨own,hown⟩:∃ own,p % 2 ^ n=own:=⟨_,rfl⟩
 have hb:=own_bits hw hp
 rw [hown] at vof hb
 have hl:=vr.lead.ne
 obtain ⟨b,i,B,hgo⟩:=short_go hw vr ve vof (v.ds.length - 1) 1 (Nat.le_refl _) (by omega) (fun k k1 k2=>by omega)
 have hm:mostE=1000000:=rfl
 -- the one that was found
 have hb3:formed b=true∧b.nar=false∧0<numL b.ds∧b.neg=v.neg∧(nrm b).ds.length≤i∧b.e+b.ds.length≤2000 ∧ -1000≤b.e:=by
  rcases B.is with ⟨rfl,e⟩|⟨hi,e⟩
  ·have hL:=vr.lead.le
   have hp0:=Nat.pow_pos (a:=10) (n:=b.ds.length - 1) (by decide)
   exact ⟨formed_real vr,vr.nar,by omega,rfl,by rw [nrm_of_norm vr.norm];omega,by omega,by omega⟩
  ·obtain ⟨⟨f1,f2⟩,f3,f4⟩:=low_formed vr ve (j:=i) B.one B.le
   have ht:(v.ds.take i).length=i:=by rw [List.length_take];omega
   rcases e with rfl|rfl
   ·have h2:=nrm_len (lowD v i)
    have h3:(lowD v i).ds.length=i:=ht
    have h4:(lowD v i).e=v.e+v.ds.length - i:=rfl
    have:=B.one
    exact ⟨f1,vr.nar,f2,rfl,by omega,by omega,by omega⟩
   ·have f3:formed (highD v i)=true:=by
     rcases f3 with f3|f3
     ·exact f3
     ·omega
    obtain ⟨hd1,_,_,_⟩:=take_lead vr.lead (j:=i) B.one B.le
    have h4:(highD v i).e=v.e+v.ds.length - i:=rfl
    have h5:(highD v i).ds.length≤i+1:=by
     show (aboveL (v.ds.take i)).length≤i+1
     rcases (above_num hd1).2.2 with h5|h5
     ·rw [h5,ht];omega
     ·rw [h5,ht];simp
    exact ⟨f3,vr.nar,f4,rfl,high_len vr ve B.one B.le,by omega,by omega⟩
 obtain ⟨b1,b2,b3,b4,b5,b6,b7⟩:=hb3
 obtain ⟨tr,tneg⟩:=nrm_real b1 b2 b3
 obtain ⟨e1,e2⟩:=nrm_e b2 (lz_ne_num b3)
 have tof:ofD n (nrm b)=own:=by rw [ofD_nrm b1];exact B.back
 refine ⟨v,nrm b,vr,ve,vl,by rw [hown];exact vof,tr,by omega,Nat.le_trans b5 B.le,by rw [hown];exact tof,?_,by rw [tneg,b4],hdec,?_⟩
 ·intro d hd hdof
  rw [hown] at hdof
  refine Nat.le_of_not_lt fun hlt=>?_
  have hj:d.ds.length<i:=by omega
  have hjv:d.ds.length<v.ds.length:=by have:=B.le;omega
  have hpos:=same_pos hw hd vr (hdof.trans vof.symm)
  obtain ⟨n1,n2⟩:=B.none d.ds.length hd.lead.ne hj
  obtain ⟨⟨f1,f2⟩,f3,f4⟩:=low_formed vr ve hd.lead.ne (Nat.le_of_lt hjv)
  have f3:formed (highD v d.ds.length)=true:=by
   rcases f3 with f3|f3
   ·exact f3
   ·omega
  obtain ⟨lr,ln⟩:=nrm_real f1 vr.nar f2
  obtain ⟨hr,hn⟩:=nrm_real f3 vr.nar f4
  rcases few (by omega) vr hd ve hjv hpos with h|h
  ·apply n1
   rw [← ofD_nrm f1,ofD_real lr,ln,h, ← vof,ofD_real vr]
   rfl
  ·apply n2
   rw [← ofD_nrm f3,ofD_real hr,hn,h, ← vof,ofD_real vr]
   rfl
 ·unfold text_Short.f
  refine Ev.bind hdec ?_
  have hsz:(mkB v.ds).size - 1=v.ds.length - 1:=by rw [mkB_size]
  simp only [true_and,show (8:Int)≤(n:Int) by omega,show (n:Int)≤64 by omega,if_true,vr.nar,Bool.false_eq_true,false_or,mkB_48,vr.ds,if_false,hb,hsz]
  rw [vr.nar] at hgo
  refine Ev.bind hgo ?_
  have ht:=text_f b
  rw [if_pos b1] at ht
  show Ev (fun k=>scan_Text.f b.nar b.neg (mkB b.ds) b.e) _
  rw [ht]
  exact Ev.now _
theorem tx_nar:scan_Text.f true false (mkB []) 0=some (mkB [110,97,114],none):=text_f ⟨true,false, [],0⟩
theorem tx_zero:scan_Text.f false false (mkB [48]) 0=some (mkB [48],none):=text_f ⟨false,false, [48],0⟩
theorem scan_nar:scanF [110,97,114] = .ok dN:=scan_text (d:=dN) (.inl rfl) (by decide)
theorem scan_zero:scanF [48] = .ok ⟨false,false, [48],0⟩:=scan_text (d:=⟨false,false, [48],0⟩) (.inr ⟨rfl,by decide,by decide,by decide,by decide,by decide, .inl ⟨rfl,rfl,rfl⟩⟩) (by decide)
theorem text_back {v:D} (h:Real v) (hl:v.ds.length≤4000):scanF (textN v) = .ok v:=by
 have h1:=textN_len h.nar (by omega) h.bounds.2.1 h.bounds.2.2
 exact scan_text h.norm (by omega)
theorem few_true {n own:Nat} (hw:Wd n) (dn dg:Bool) (db:ByteArray) (de:Int) {x:D} (hx:x.nar=decide (own=2 ^ (n - 1))) :
  Ev (fun k=>vernierlaw19_TextFewest.j1 k true (n:Int) (own:Int) true dn dg db de x.nar x.neg (mkB x.ds) x.e) true:=by
 apply Ev.step (f:=fun k=>(vernierref05_Power.f k (wrap64 ((n:Int) - 1))).bind fun t=>some (x.nar == ((own:Int) == t)))
 ·intro k
  simp only [vernierlaw19_TextFewest.j1,if_true]
 ·refine Ev.bind (Power_ev hw) ?_
  refine Ev.congr (f:=fun _=>some true) (fun k=>?_) (Ev.now _)
  rw [hx]
  by_cases h:own=2 ^ (n - 1)
  ·rw [decide_eq_true h,h];simp
  ·rw [decide_eq_false h]
   have h2:¬ ((own:Int)=((2 ^ (n - 1):Nat):Int)):=fun e=>h (Int.natCast_inj.1 e)
   rw [show ((own:Int) == ((2 ^ (n - 1):Nat):Int))=false from beq_eq_false_iff_ne.2 h2]
   rfl
theorem few_false {n own:Nat} (hw:Wd n) {d x:D} (hN:Norm d) (hn:d.nar=false) (h0:own≠0) (hf:∀ d,Real d→ofD n d=own→x.ds.length≤d.ds.length) :
  Ev (fun k=>vernierlaw19_TextFewest.j1 k true (n:Int) (own:Int) false d.nar d.neg (mkB d.ds) d.e x.nar x.neg (mkB x.ds) x.e) true:=by
 have ho:=tOf_ev hw d
 rw [if_pos (formed_of_norm hN)] at ho
 apply Ev.step (f:=fun k=>(text_Of.f k (n:Int) d.nar d.neg (mkB d.ds) d.e).bind fun b=>if b.2.isNone=true then (if b.1=(own:Int) then some (decide (((mkB d.ds).size:Int) ≥ ((mkB x.ds).size:Int))) else some true) else some false)
 ·intro k
  simp only [vernierlaw19_TextFewest.j1,Bool.false_eq_true,if_false,if_true]
 ·refine Ev.bind ho ?_
  simp only [Option.isNone_none,if_true]
  by_cases h:ofD n d=own
  ·rw [if_pos (by rw [h])]
   have hd:d.ds ≠ [48]:=fun e=>by
    unfold ofD at h
    rw [nrm_of_norm hN,if_neg (by rw [hn];decide),if_pos e] at h
    exact h0 h.symm
   have:=hf d ⟨hN,hn,hd⟩ h
   rw [decide_eq_true (by rw [mkB_size,mkB_size];omega)]
   exact Ev.now _
  ·rw [if_neg (fun e=>h (Int.natCast_inj.1 e))]
   exact Ev.now _
theorem few_end {n own:Nat} (hw:Wd n) {x:D} (hx:x.nar=decide (own=2 ^ (n - 1))) (hr:x.nar=false→x.ds ≠ [48]→own≠0 ∧ ∀ d,Real d→ofD n d=own→x.ds.length≤d.ds.length) (d:D) :
  Ev (fun k=>(scan_Norm.f d.nar d.neg (mkB d.ds) d.e).bind fun b=>vernierlaw19_TextFewest.j0 k true (n:Int) (own:Int) b.2.2.2.2 false b.1 b.2.1 b.2.2.1 b.2.2.2.1 x.nar x.neg (mkB x.ds) x.e) true:=by
 rw [scan_Norm_ev]
 simp only [Option.bind_some]
 by_cases hf:formed d=true
 ·simp only [if_pos hf]
  have hN:=norm_nrm hf
  apply Ev.step (f:=fun k=>if (nrm d).nar=true then vernierlaw19_TextFewest.j1 k true (n:Int) (own:Int) true (nrm d).nar (nrm d).neg (mkB (nrm d).ds) (nrm d).e x.nar x.neg (mkB x.ds) x.e
   else if x.nar=true then vernierlaw19_TextFewest.j1 k true (n:Int) (own:Int) true (nrm d).nar (nrm d).neg (mkB (nrm d).ds) (nrm d).e x.nar x.neg (mkB x.ds) x.e
   else vernierlaw19_TextFewest.j1 k true (n:Int) (own:Int) ((mkB x.ds).toList == ([48]:List UInt8)) (nrm d).nar (nrm d).neg (mkB (nrm d).ds) (nrm d).e x.nar x.neg (mkB x.ds) x.e)
  ·intro k
   simp only [vernierlaw19_TextFewest.j0,Bool.false_eq_true,if_false,Option.isNone_none,if_true]
  ·by_cases h1:(nrm d).nar=true
   ·simp only [if_pos h1]
    exact few_true hw _ _ _ _ hx
   ·simp only [if_neg h1]
    by_cases h2:x.nar=true
    ·simp only [if_pos h2]
     exact few_true hw _ _ _ _ hx
    ·simp only [if_neg h2,mkB_toList]
     by_cases h3:x.ds = [48]
     ·rw [show (x.ds == ([48]:List UInt8))=true by rw [h3];rfl]
      exact few_true hw _ _ _ _ hx
     ·rw [show (x.ds == ([48]:List UInt8))=false by simpa using h3]
      have h4:x.nar=false:=by simpa using h2
      have h5:(nrm d).nar=false:=by simpa using h1
      obtain ⟨r1,r2⟩:=hr h4 h3
      exact few_false hw hN h5 r1 r2
 ·simp only [if_neg hf]
  apply Ev.step (f:=fun k=>vernierlaw19_TextFewest.j1 k true (n:Int) (own:Int) true false false (mkB []) 0 x.nar x.neg (mkB x.ds) x.e)
  ·intro k
   simp only [vernierlaw19_TextFewest.j0,Bool.false_eq_true,if_false,Option.isNone_some]
  ·exact few_true hw _ _ _ _ hx
theorem fewest_core {n own p:Nat} (hw:Wd n) (hp:p<2 ^ 64) (hown:p % 2 ^ n=own) {t:D} (hsh:Ev (fun k=>text_Short.f k (n:Int) (p:Int)) (mkB (textN t),none)) (st:scanF (textN t) = .ok t)
  (hx:t.nar=decide (own=2 ^ (n - 1))) (hr:t.nar=false→t.ds ≠ [48]→own≠0 ∧ ∀ d,Real d→ofD n d=own→t.ds.length≤d.ds.length) {raw:Int} (hwid:Ev (fun k=>vernierlaw19_width.f k raw) (n:Int)) (d:D) :
  Ev (fun k=>vernierlaw19_TextFewest.f k raw (p:Int) d.nar d.neg (mkB d.ds) d.e) true:=by
 have hf:=Fold_ev hw p hp
 rw [hown] at hf
 have hsc:scan_Scan.f (mkB (textN t))=some (t.nar,t.neg,mkB t.ds,t.e,none):=by
  unfold scan_Scan.f
  rw [mkB_list,st]
 unfold vernierlaw19_TextFewest.f
 refine Ev.bind shown_ev (Ev.bind hwid (Ev.bind hf (Ev.bind hsh ?_)))
 simp only [Option.isNone_none,if_true]
 rw [hsc]
 simp only [Option.bind_some,Option.isNone_none,if_true]
 exact few_end hw hx hr d
theorem TextFewest_ev (raw:Int) (p:Nat) (hp:p<2 ^ 64) (d:D):Ev (fun k=>vernierlaw19_TextFewest.f k raw (p:Int) d.nar d.neg (mkB d.ds) d.e) true:=by
 obtain ⟨n,hw,hwid⟩:=width_ev raw
 obtain ⟨h8,h64⟩:=hw.bounds
 have hpos:0<2 ^ (n - 1):=Nat.two_pow_pos _
 by_cases h0:p % 2 ^ n=0
 ·have hd:Ev (fun k=>text_Decimal.f k (n:Int) (p:Int)) (false,false,mkB [48],0,none):=Ev.congr (fun k=>Decimal_zero hw p hp h0 k) (Ev.now _)
  have hs:Ev (fun k=>text_Short.f k (n:Int) (p:Int)) (mkB [48],none):=by
   unfold text_Short.f
   refine Ev.bind hd ?_
   simp only [true_and,show (8:Int)≤(n:Int) by omega,show (n:Int)≤64 by omega,if_true,mkB_48,or_true,tx_zero]
   exact Ev.now _
  exact fewest_core (t:=⟨false,false, [48],0⟩) hw hp h0 hs scan_zero (by rw [decide_eq_false (by omega)]) (fun _ h=>absurd rfl h) hwid d
 by_cases h1:p % 2 ^ n=2 ^ (n - 1)
 ·have hd:Ev (fun k=>text_Decimal.f k (n:Int) (p:Int)) (true,false,mkB [],0,none):=Ev.congr (fun k=>Decimal_nar hw p hp h0 h1 k) (Ev.now _)
  have hs:Ev (fun k=>text_Short.f k (n:Int) (p:Int)) (mkB [110,97,114],none):=by
   unfold text_Short.f
   refine Ev.bind hd ?_
   simp only [true_and,show (8:Int)≤(n:Int) by omega,show (n:Int)≤64 by omega,if_true,true_or,tx_nar]
   exact Ev.now _
  exact fewest_core (t:=dN) hw hp h1 hs scan_nar (by rw [decide_eq_true rfl];rfl) (fun h _=>absurd h (by decide)) hwid d
 ·obtain ⟨v,t,h⟩:=Short_ev hw p hp h0 h1
  have b1:=h.vl
  have b2:=h.tl
  exact fewest_core hw hp rfl h.sh (text_back h.tr (by omega)) (by rw [h.tr.nar,decide_eq_false h1]) (fun _ _=>⟨h0,h.few⟩) hwid d
theorem TextFewest_all (a0 a1:Int) (a2_0 a2_1:Bool) (a2_2:ByteArray) (a2_3:Int) (w:World) (htab:Fx.Laid w) (hs2_2:a2_2.size≤maxLen) (wi0:(Lit.int .i64 a0).wf=true) (wi1:(Lit.int .u64 a1).wf=true) :
  Calls Tryz.prog 7 #[.int .i64 a0, .int .u64 a1, .agg #[.bool a2_0, .bool a2_1, .string a2_2, .int .i64 a2_3]] w fun e w'=>e = .returned (.bool true)∧Below w.heap.size w w':=by
 have hb:=u64wf wi1
 obtain ⟨p,rfl⟩:=Int.eq_ofNat_of_zero_le hb.1
 obtain ⟨k,hk⟩:=(TextFewest_ev a0 p (by rw [p64];omega) ⟨a2_0,a2_1,a2_2.data.toList,a2_3⟩).rounds
 exact vernierlaw19_TextFewest.calls k a0 (p:Int) a2_0 a2_1 a2_2 a2_3 true w hk rfl htab
end Go.Proofs.Yy.PTx
end
section
namespace Go.Proofs.Yy.PTx
open Go.RowKit Go.Proofs.Yw.PrintWords Go.Proofs.Yw.PrintLast Go.Proofs.Yw.PrintMore Go.Proofs.Yy.M Go.Proofs.Yy.TA Go.Proofs.Yy.SC
theorem textN_fit {d:D} (hn:d.nar=false) (h1:d.ds.length≤4096) (h2 : -mostE≤d.e) (h3:d.e≤mostE):(textN d).length≤d.ds.length+22∧d.ds.length≤(textN d).length:=by
 have hm:mostE=1000000:=rfl
 obtain ⟨nar,neg,ds,e⟩:=d
 simp only at hn h1 h2 h3
 subst hn
 have hs:(if neg=true then [(45:UInt8)] else []).length≤1:=by split <;> simp
 unfold textN
 simp only [Bool.false_eq_true,if_false,List.length_append]
 by_cases c1:0≤e∧(ds.length:Int)+e≤21
 ·rw [if_pos c1];simp only [List.length_append,List.length_replicate];omega
 rw [if_neg c1]
 by_cases c2:1≤(ds.length:Int)+e∧(ds.length:Int)+e≤21
 ·rw [if_pos c2];simp only [List.length_append,List.length_take,List.length_drop,List.length_cons,List.length_nil];omega
 rw [if_neg c2]
 by_cases c3 : -5≤(ds.length:Int)+e∧(ds.length:Int)+e≤0
 ·rw [if_pos c3];simp only [List.length_append,List.length_replicate,List.length_cons,List.length_nil];omega
 rw [if_neg c3]
 have hi:=itoa_len (E:=(ds.length:Int)+e - 1) (by omega)
 have hf:(if 1<ds.length then [(46:UInt8)] ++ ds.drop 1 else []).length≤ds.length∧ds.length - 1≤(if 1<ds.length then [(46:UInt8)] ++ ds.drop 1 else []).length:=by
  split
  ·simp only [List.length_append,List.length_cons,List.length_nil,List.length_drop];omega
  ·simp only [List.length_nil];omega
 generalize (if 1<ds.length then [(46:UInt8)] ++ ds.drop 1 else [])=F at hf ⊢
 simp only [List.length_append,List.length_take,List.length_cons,List.length_nil]
 omega
theorem back_core {n own p:Nat} (hw:Wd n) (hp:p<2 ^ 64) (hown:p % 2 ^ n=own) {v t:D} (hdec:Ev (fun k=>text_Decimal.f k (n:Int) (p:Int)) (v.nar,v.neg,mkB v.ds,v.e,none))
  (hsh:Ev (fun k=>text_Short.f k (n:Int) (p:Int)) (mkB (textN t),none)) (fv:formed v=true) (nv:nrm v=v) (sv:scanF (textN v) = .ok v) (st:scanF (textN t) = .ok t) (ov:ofD n v=own) (ot:ofD n t=own)
  (hl:(textN t).length≤(textN v).length+30) (hsz:(textN v).length≤5000) {raw:Int} (hwid:Ev (fun k=>vernierlaw19_width.f k raw) (n:Int)):Ev (fun k=>vernierlaw19_TextBack.f k raw (p:Int)) true:=by
 have hex:Ev (fun k=>text_Exact.f k (n:Int) (p:Int)) (mkB (textN v),none):=by
  have ht:=text_f v
  rw [if_pos fv,nv] at ht
  unfold text_Exact.f
  refine Ev.bind hdec ?_
  simp only [Option.isNone_none,if_true,ht,Option.bind_some]
  exact Ev.now _
 have hf:=Fold_ev hw p hp
 have pv:=tParse_ev hw sv
 have pt:=tParse_ev hw st
 have hof:=tOf_ev hw v
 rw [hown] at hf
 rw [ov] at pv
 rw [ot] at pt
 rw [if_pos fv,ov] at hof
 unfold vernierlaw19_TextBack.f
 refine Ev.bind shown_ev (Ev.bind hwid (Ev.bind hf (Ev.bind hex (Ev.bind hsh (Ev.bind pv (Ev.bind pt (Ev.bind hdec (Ev.bind hof ?_))))))))
 simp only [Option.isNone_none,if_true]
 rw [mkB_size,mkB_size,tw64 (by omega) (by omega),decide_eq_true (by omega)]
 exact Ev.now _
theorem ofD_zero (n:Nat):ofD n ⟨false,false, [48],0⟩=0:=by
 have h:nrm ⟨false,false, [48],0⟩=⟨false,false, [48],0⟩:=by decide
 unfold ofD
 rw [h]
 rfl
theorem ofD_dN (n:Nat):ofD n dN=2 ^ (n - 1):=ofD_nar rfl
theorem TextBack_ev (raw:Int) (p:Nat) (hp:p<2 ^ 64):Ev (fun k=>vernierlaw19_TextBack.f k raw (p:Int)) true:=by
 obtain ⟨n,hw,hwid⟩:=width_ev raw
 obtain ⟨h8,h64⟩:=hw.bounds
 by_cases h0:p % 2 ^ n=0
 ·have hd:Ev (fun k=>text_Decimal.f k (n:Int) (p:Int)) (false,false,mkB [48],0,none):=Ev.congr (fun k=>Decimal_zero hw p hp h0 k) (Ev.now _)
  have hs:Ev (fun k=>text_Short.f k (n:Int) (p:Int)) (mkB [48],none):=by
   unfold text_Short.f
   refine Ev.bind hd ?_
   simp only [true_and,show (8:Int)≤(n:Int) by omega,show (n:Int)≤64 by omega,if_true,mkB_48,or_true,tx_zero]
   exact Ev.now _
  exact back_core (v:=⟨false,false, [48],0⟩) (t:=⟨false,false, [48],0⟩) hw hp h0 hd hs (by decide) (by decide) scan_zero scan_zero (ofD_zero n) (ofD_zero n) (by decide) (by decide) hwid
 by_cases h1:p % 2 ^ n=2 ^ (n - 1)
 ·have hd:Ev (fun k=>text_Decimal.f k (n:Int) (p:Int)) (true,false,mkB [],0,none):=Ev.congr (fun k=>Decimal_nar hw p hp h0 h1 k) (Ev.now _)
  have hs:Ev (fun k=>text_Short.f k (n:Int) (p:Int)) (mkB [110,97,114],none):=by
   unfold text_Short.f
   refine Ev.bind hd ?_
   simp only [true_and,show (8:Int)≤(n:Int) by omega,show (n:Int)≤64 by omega,if_true,true_or,tx_nar]
   exact Ev.now _
  exact back_core (v:=dN) (t:=dN) hw hp h1 hd hs (by decide) (by decide) scan_nar scan_nar (ofD_dN n) (ofD_dN n) (by decide) (by decide) hwid
 ·obtain ⟨v,t,h⟩:=Short_ev hw p hp h0 h1
  have hm:mostE=1000000:=rfl
  have a1:=textN_fit h.vr.nar (by have:=h.vl;omega) h.vr.bounds.2.1 h.vr.bounds.2.2
  have a2:=textN_fit h.tr.nar (by have:=h.vl;have:=h.tl;omega) h.tr.bounds.2.1 h.tr.bounds.2.2
  have b1:=h.vl
  have b2:=h.tl
  exact back_core hw hp rfl h.dec h.sh (formed_real h.vr) (nrm_of_norm h.vr.norm) (text_back h.vr (by omega)) (text_back h.tr (by omega)) h.vof h.tof (by omega) (by omega) hwid
theorem TextBack_all (a0 a1:Int) (w:World) (htab:Fx.Laid w) (wi0:(Lit.int .i64 a0).wf=true) (wi1:(Lit.int .u64 a1).wf=true) :
  Calls Tryz.prog 6 #[.int .i64 a0, .int .u64 a1] w fun e w'=>e = .returned (.bool true)∧Below w.heap.size w w':=by
 have hb:=u64wf wi1
 obtain ⟨p,rfl⟩:=Int.eq_ofNat_of_zero_le hb.1
 obtain ⟨k,hk⟩:=(TextBack_ev a0 p (by rw [p64];omega)).rounds
 exact vernierlaw19_TextBack.calls k a0 (p:Int) true w hk rfl htab
end Go.Proofs.Yy.PTx
end
