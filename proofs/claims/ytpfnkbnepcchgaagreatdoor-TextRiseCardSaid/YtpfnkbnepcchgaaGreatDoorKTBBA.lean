/- Part 27 of what the proof needs. -/
import Derived.Test.YtpfnkbnepcchgaaGreatDoorKTBAZ
set_option linter.unusedSimpArgs false
set_option linter.unusedVariables false
section
namespace Go.Proofs.Yy.PTx
open Go.RowKit Go.Proofs.Yw.PrintWords Go.Proofs.Yw.PrintLast Go.Proofs.Yw.PrintMore Go.Proofs.Yy.M Go.Proofs.Yy.NM
attribute [local irreducible] add64Lo add64Hi sub64Lo sub64Hi val
theorem val_split (l:List Int) (i:Nat):val B l=val B (l.take i)+pw B i * val B (l.drop i):=by
 induction i with
 | zero=>rw [List.take_zero,List.drop_zero,val_nil,pw_zero];omega
 | succ i ih =>
  rw [ih,pval_take_succ,val_drop l i,pw_succ,Int.mul_add,Int.mul_assoc]
  omega
theorem getD_val {l:List Int} (h:Dig B l) (i:Nat):l.getD i 0=val B l / pw B i % B:=by
 have h1:=val_split l i
 have h2:=val_nonneg Bpos (h.take i)
 have h3:val B (l.take i)<pw B i:=Int.lt_of_lt_of_le (pval_lt Bpos (h.take i)) (pw_le Bpos (by rw [List.length_take];omega))
 obtain ⟨e,_⟩:=quot_of (a:=val B l) (y:=pw B i) (q:=val B (l.drop i)) (t:=val B (l.take i)) (by rw [Int.mul_comm];omega) h2 h3
 have hg:=h.get Bpos i
 rw [e,val_drop l i,Int.add_mul_emod_self_left,Int.emod_eq_of_lt hg.1 hg.2]
theorem getD_drop (l:List Int) (i j:Nat):(l.drop i).getD j 0=l.getD (i+j) 0:=by
 simp [List.getD_eq_getElem?_getD]
theorem getD_take (l:List Int) (i j:Nat) (h:j<i):(l.take i).getD j 0=l.getD j 0:=by
 simp [List.getD_eq_getElem?_getD,List.getElem?_take,h]
theorem win_mid {pre w post:List Int} {j n:Nat} (hp:pre.length=j) (hw:w.length=n):((pre ++ w ++ post).take (j+n)).drop j=w:=by
 have e:(pre ++ w).length=j+n:=by rw [List.length_append,hp,hw]
 rw [← e,List.take_left, ← hp,List.drop_left]
theorem win_pre {pre w post:List Int} {j:Nat} (hp:pre.length=j):(pre ++ w ++ post).take j=pre:=by
 rw [List.append_assoc, ← hp,List.take_left]
theorem win_post {pre w post:List Int} {j n:Nat} (hp:pre.length=j) (hw:w.length=n):(pre ++ w ++ post).drop (j+n)=post:=by
 have e:(pre ++ w).length=j+n:=by rw [List.length_append,hp,hw]
 rw [← e,List.drop_left]
theorem win_drop {pre w post:List Int} {j:Nat} (hp:pre.length=j):(pre ++ w ++ post).drop j=w ++ post:=by
 rw [List.append_assoc, ← hp,List.drop_left]
theorem less_step {X qd p o c b v q lo c' s o' x V:Int} (hf:lo+b * c'=v * q+c+0) (hs:s - b * o'=x - lo - o) (hV:V=X - q * qd+p * (c+o)):V+p * (s - x)=X - q * (qd+p * v)+p * b * (c'+o'):=by grind
theorem less_end {X D p o c b s o' x V:Int} (hs:s - b * o'=x - c - o) (hV:V=X - D+p * (c+o)):V+p * (s - x)=X - D+p * b * o':=by grind
theorem less_l0 {d:List Int} (hd:Dig B d) {q:Int} (hq:0≤q∧q<B) (hL:d.length≤1099511627775) (X:Int):∀ (m i:Nat) (x:List Int) (o c:Int),i+m=d.length→x.length=d.length+1→Dig B x→0≤o→o≤1→0≤c→c<B →
  val B x=X - q * val B (d.take i)+pw B i * (c+o) →
  ∃ x' o',Ev (fun k=>nat_less.l0 k x d q o c d (d.length:Int) (i:Int)) (decide (o' > 0),x')∧x'.length=d.length+1∧Dig B x'∧0≤o'∧o'≤1∧val B x'=X - q * val B d+pw B (d.length+1) * o':=by
 intro m
 induction m with
 | zero =>
  intro i x o c hi hx hdx o0 o1 c0 c1 hv
  obtain rfl:i=d.length:=by omega
  rw [List.take_length] at hv
  have hg:=hdx.get Bpos d.length
  obtain ⟨s1,s2,s3,s4⟩:=sub64_spec hg ⟨c0,c1⟩ o0 o1
  refine ⟨x.set d.length (sub64Lo (x.getD d.length 0) c o),sub64Hi (x.getD d.length 0) c o,?_,by simpa using hx,hdx.set s2.1 s2.2,s3,s4,?_⟩
  ·refine Ev.step (f:=fun _=>some (decide (sub64Hi (x.getD d.length 0) c o > 0),x.set d.length (sub64Lo (x.getD d.length 0) c o))) (fun k=>?_) (Ev.now _)
   simp only [nat_less.l0]
   rw [if_neg (by omega),if_pos (by omega),if_pos (by omega),if_pos o1,rd_nat,Int.toNat_natCast]
  ·rw [pval_set B x _ _ (by omega),pw_succ]
   exact less_end s1 hv
 | succ m ih =>
  intro i x o c hi hx hdx o0 o1 c0 c1 hv
  have hg:=hdx.get Bpos i
  obtain ⟨lo,hi',hf,hs,hlo,hh⟩:=fused_spec (hd.get Bpos i) hq ⟨c0,c1⟩ (show (0:Int)≤0∧(0:Int)<B from ⟨Int.le_refl _,Bpos⟩)
  obtain ⟨s1,s2,s3,s4⟩:=sub64_spec hg hlo o0 o1
  have hw1:Aside0 (wrap64 ((i:Int)+1)=((i+1:Nat):Int)):=⟨by rw [w64 (by omega) (by omega)];omega⟩
  have hi1:i+1+m=d.length:=by omega
  have hlt:i<x.length:=by omega
  obtain ⟨x',o',h1,h2⟩:=ih (i+1) (x.set i (sub64Lo (x.getD i 0) lo o)) (sub64Hi (x.getD i 0) lo o) hi' hi1 (by simpa using hx) (hdx.set s2.1 s2.2) s3 s4 hh.1 hh.2 (by
   rw [pval_set B x i _ hlt,pval_take_succ B d,pw_succ]
   exact less_step hs s1 hv)
  refine ⟨x',o',Ev.step (fun k=>?_) h1,h2⟩
  simp only [nat_less.l0]
  rw [hw1.out,if_pos (by omega),if_pos (by omega),if_pos (by omega),rd_nat,rd_nat,hf]
  simp only [Option.bind_some]
  rw [if_pos (by omega),if_pos o1,Int.toNat_natCast]
theorem less_ev {x d:List Int} (hx:Dig B x) (hd:Dig B d) {q:Int} (hq:0≤q∧q<B) (hL:d.length≤1099511627775) (hn:x.length=d.length+1) :
  ∃ x' o',Ev (fun k=>nat_less.f k x d q) (decide (o' > 0),x')∧x'.length=d.length+1∧Dig B x'∧0≤o'∧o'≤1∧val B x'=val B x - q * val B d+pw B (d.length+1) * o':=by
 have:=less_l0 hd hq hL (val B x) d.length 0 x 0 0 (by omega) hn hx (Int.le_refl _) (by decide) (Int.le_refl _) Bpos (by rw [List.take_zero,val_nil];simp)
 exact this
theorem back_step {X p c b v s c' x V D:Int} (hs:s+b * c'=x+v+c) (hV:V=X+D - p * c):V+p * (s - x)=X+(D+p * v) - p * b * c':=by grind
theorem back_l0 {d:List Int} (hd:Dig B d) (hL:d.length≤1099511627775) (X:Int):∀ (m i:Nat) (x:List Int) (c:Int),i+m=d.length→x.length=d.length+1→Dig B x→0≤c→c≤1 →
  val B x=X+val B (d.take i) - pw B i * c →
  ∃ x' c',Ev (fun k=>nat_back.l0 k x d c d (d.length:Int) (i:Int)) (decide (c' > 0),x')∧x'.length=d.length+1∧Dig B x'∧0≤c'∧c'≤1∧val B x'=X+val B d - pw B (d.length+1) * c':=by
 intro m
 induction m with
 | zero =>
  intro i x c hi hx hdx c0 c1 hv
  obtain rfl:i=d.length:=by omega
  rw [List.take_length] at hv
  have hg:=hdx.get Bpos d.length
  obtain ⟨s1,s2,s3,s4⟩:=add64_spec hg (show (0:Int)≤0∧(0:Int)<B from ⟨Int.le_refl _,Bpos⟩) c0 c1
  refine ⟨x.set d.length (add64Lo (x.getD d.length 0) 0 c),add64Hi (x.getD d.length 0) 0 c,?_,by simpa using hx,hdx.set s2.1 s2.2,s3,s4,?_⟩
  ·refine Ev.step (f:=fun _=>some (decide (add64Hi (x.getD d.length 0) 0 c > 0),x.set d.length (add64Lo (x.getD d.length 0) 0 c))) (fun k=>?_) (Ev.now _)
   simp only [nat_back.l0]
   rw [if_neg (by omega),if_pos (by omega),if_pos (by omega),if_pos c1,rd_nat,Int.toNat_natCast]
  ·rw [pval_set B x _ _ (by omega),pw_succ]
   have:=back_step s1 hv
   rw [Int.mul_zero,Int.add_zero] at this
   exact this
 | succ m ih =>
  intro i x c hi hx hdx c0 c1 hv
  have hg:=hdx.get Bpos i
  obtain ⟨s1,s2,s3,s4⟩:=add64_spec hg (hd.get Bpos i) c0 c1
  have hw1:Aside0 (wrap64 ((i:Int)+1)=((i+1:Nat):Int)):=⟨by rw [w64 (by omega) (by omega)];omega⟩
  have hi1:i+1+m=d.length:=by omega
  have hlt:i<x.length:=by omega
  obtain ⟨x',c',h1,h2⟩:=ih (i+1) (x.set i (add64Lo (x.getD i 0) (d.getD i 0) c)) (add64Hi (x.getD i 0) (d.getD i 0) c) hi1 (by simpa using hx) (hdx.set s2.1 s2.2) s3 s4 (by
   rw [pval_set B x i _ hlt,pval_take_succ B d,pw_succ]
   exact back_step s1 hv)
  refine ⟨x',c',Ev.step (fun k=>?_) h1,h2⟩
  simp only [nat_back.l0]
  rw [hw1.out,if_pos (by omega),if_pos (by omega),if_pos (by omega),if_pos (by omega),if_pos c1,rd_nat,rd_nat,Int.toNat_natCast]
theorem back_ev {x d:List Int} (hx:Dig B x) (hd:Dig B d) (hL:d.length≤1099511627775) (hn:x.length=d.length+1) :
  ∃ x' c',Ev (fun k=>nat_back.f k x d) (decide (c' > 0),x')∧x'.length=d.length+1∧Dig B x'∧0≤c'∧c'≤1∧val B x'=val B x+val B d - pw B (d.length+1) * c':=by
 have:=back_l0 hd hL (val B x) d.length 0 x 0 (by omega) hn hx (Int.le_refl _) (by decide) (by rw [List.take_zero,val_nil];simp)
 exact this
theorem lessW_eq (k:Nat) {pre w post d:List Int} {q:Int} {j n:Nat} (hp:pre.length=j) (hw:w.length=n) (h0:0<n) :
  nat_lessW.f k (pre ++ w ++ post) (j:Int) ((j+n:Nat):Int) d q=(nat_less.f k w d q).bind fun b=>some (b.1,pre ++ b.2 ++ post):=by
 unfold nat_lessW.f
 rw [if_pos ⟨by omega,by omega,by simp only [List.length_append];omega⟩,Int.toNat_natCast,Int.toNat_natCast,win_mid hp hw,win_pre hp,win_post hp hw]
theorem backW_eq (k:Nat) {pre w post d:List Int} {j n:Nat} (hp:pre.length=j) (hw:w.length=n) (h0:0<n) :
  nat_backW.f k (pre ++ w ++ post) (j:Int) ((j+n:Nat):Int) d=(nat_back.f k w d).bind fun b=>some (b.1,pre ++ b.2 ++ post):=by
 unfold nat_backW.f
 rw [if_pos ⟨by omega,by omega,by simp only [List.length_append];omega⟩,Int.toNat_natCast,Int.toNat_natCast,win_mid hp hw,win_pre hp,win_post hp hw]
theorem long_l1 {d pre post x10:List Int} (hd:Dig B d) (hL:d.length≤1073741824) {s:Int} {j:Nat} (hj:j≤1099511627775) (hp:pre.length=j) (hx10:j<x10.length) {W:Int} (hW0:0≤W) (hW1:W<val B d * B) {R:List Int × List Int}
  (next:∀ w',w'.length=d.length+1→Dig B w'→val B w'=W % val B d→Ev (fun k=>nat_long.l0 k s (d.length:Int) d (pre ++ w' ++ post) (x10.set j (W / val B d)) ((j:Int) - 1)) R) :
  ∀ (m:Nat) (g:Int) (w:List Int) (low:Bool),g.toNat≤m→0≤g→g<B→w.length=d.length+1→Dig B w→(low=true ↔ W - g * val B d<0)→W - g * val B d<val B d→val B w=W - g * val B d+pw B (d.length+1) * (if low then 1 else 0) →
   Ev (fun k=>nat_long.l1 k s (d.length:Int) d (pre ++ w ++ post) x10 (j:Int) g low) R:=by
 have hD0:=val_nonneg Bpos hd
 have done:∀ (g:Int) (w:List Int),0≤g→w.length=d.length+1→Dig B w→0≤W - g * val B d→W - g * val B d<val B d→val B w=W - g * val B d →
   Ev (fun k=>nat_long.l1 k s (d.length:Int) d (pre ++ w ++ post) x10 (j:Int) g false) R:=by
  intro g w g0 hw hdw t0 t1 hv
  obtain ⟨e1,e2⟩:=quot_of (a:=W) (y:=val B d) (q:=g) (t:=W - g * val B d) (by omega) t0 t1
  have hn:=next w hw hdw (by rw [hv,e2])
  rw [e1] at hn
  have hw1:Aside0 (wrap64 ((j:Int) - 1)=(j:Int) - 1):=⟨w64 (by omega) (by omega)⟩
  refine Ev.step (fun k=>?_) hn
  simp only [nat_long.l1]
  rw [if_neg (by decide),if_pos (by omega),if_pos (by omega),Int.toNat_natCast,hw1.out]
 have hw2:Aside0 (wrap64 (wrap64 ((j:Int)+(d.length:Int))+1)=((j+(d.length+1):Nat):Int)):=⟨by rw [w64 (x:=(j:Int)+(d.length:Int)) (by omega) (by omega),w64 (by omega) (by omega)];omega⟩
 intro m
 induction m with
 | zero =>
  intro g w low hm g0 g1 hw hdw hlow ht hv
  obtain rfl:g=0:=by omega
  rw [Int.zero_mul,Int.sub_zero] at *
  have:low=false:=by
   cases low with
   | false=>rfl
   | true=>have:=hlow.1 rfl;omega
  subst this
  refine done 0 w (Int.le_refl _) hw hdw (by rw [Int.zero_mul];omega) (by rw [Int.zero_mul];omega) ?_
  rw [hv,Int.zero_mul];simp
 | succ m ih =>
  intro g w low hm g0 g1 hw hdw hlow ht hv
  cases low with
  | false =>
   have h0:0≤W - g * val B d:=by
    by_cases h:W - g * val B d<0
    ·have:=hlow.2 h;cases this
    ·omega
   refine done g w g0 hw hdw h0 ht ?_
   rw [hv];simp
  | true =>
   have hneg:=hlow.1 rfl
   rw [if_pos rfl,Int.mul_one] at hv
   have hg1:1≤g:=by
    by_cases h:g=0
    ·subst h;rw [Int.zero_mul] at hneg;omega
    ·omega
   obtain ⟨x',c',h1,h2,h3,h4,h5,h6⟩:=back_ev hdw hd (by omega) hw
   have hb0:=val_nonneg Bpos h3
   have hb1:=pval_lt Bpos h3
   rw [h2] at hb1
   have hdl:val B d<pw B (d.length+1):=Int.lt_of_lt_of_le (pval_lt Bpos hd) (pw_le Bpos (by omega))
   have he:(g - 1) * val B d=g * val B d - val B d:=stage_dec _ _
   have hgw:Aside0 (IntKind.u64.wrap (g - 1)=g - 1):=⟨by rw [Bdef] at g1;exact u64w (by omega) (by omega)⟩
   have hc:c'=0∨c'=1:=by omega
   generalize pw B (d.length+1)=p at *
   have key:Ev (fun k=>nat_long.l1 k s (d.length:Int) d (pre ++ x' ++ post) x10 (j:Int) (g - 1) (!decide (c' > 0))) R:=by
    refine ih (g - 1) x' (!decide (c' > 0)) (by omega) (by omega) (by omega) h2 h3 ?_ (by omega) ?_
    ·rcases hc with rfl|rfl
     ·simp only [show decide ((0:Int) > 0)=false from rfl,Bool.not_false,true_iff];omega
     ·simp only [show decide ((1:Int) > 0)=true from rfl,Bool.not_true,Bool.false_eq_true,false_iff];omega
    ·rcases hc with rfl|rfl
     ·simp only [show decide ((0:Int) > 0)=false from rfl,Bool.not_false,if_true];omega
     ·simp only [show decide ((1:Int) > 0)=true from rfl,Bool.not_true,Bool.false_eq_true,if_false];omega
   refine Ev.step (f:=fun k=>(nat_back.f k w d).bind fun b=>nat_long.l1 k s (d.length:Int) d (pre ++ b.2 ++ post) x10 (j:Int) (g - 1) (!b.1)) (fun k=>?_) (Ev.bind h1 key)
   simp only [nat_long.l1]
   rw [if_pos trivial,if_pos (by omega),hw2.out,hgw.out,if_pos (by omega),if_pos (by simp only [List.length_append];omega),backW_eq k hp hw (by omega)]
   cases nat_back.f k w d <;> rfl
theorem w_of_top {w:List Int} {n:Nat} (h:Dig B w) (hl:w.length=n+1):val B w=val B (w.take n)+pw B n * w.getD n 0:=by
 have:=pval_take_succ B w n
 rw [← hl,List.take_length] at this
 exact this
theorem est_bound {w d:List Int} {g:Int} {n:Nat} (hw:Dig B w) (hd:Dig B d) (hwl:w.length=n+3) (hdl:d.length=n+2) (hW:val B w<val B d * B) (g0:0≤g)
  (h:(w.getD (n+2) 0 * B+w.getD (n+1) 0) * B+w.getD n 0<(g+1) * (d.getD (n+1) 0 * B+d.getD n 0)∨g=B - 1):val B w - g * val B d<val B d:=by
 have e:(g+1) * val B d=g * val B d+val B d:=by rw [Int.add_mul,Int.one_mul]
 rcases h with h|h
 ·have w1:=w_of_top hw hwl
  rw [pval_take_succ B w (n+1),pval_take_succ B w n,pw_succ,pw_succ,pw_succ] at w1
  have d1:=w_of_top hd hdl
  rw [pval_take_succ B d n,pw_succ] at d1
  have hp:=pw_pos Bpos n
  have hwl:val B (w.take n)<pw B n:=Int.lt_of_lt_of_le (pval_lt Bpos (hw.take n)) (pw_le Bpos (by rw [List.length_take];omega))
  have hdl0:=val_nonneg Bpos (hd.take n)
  generalize val B (w.take n)=wl at *
  generalize val B (d.take n)=dl at *
  generalize pw B n=p at *
  have h2:((w.getD (n+2) 0 * B+w.getD (n+1) 0) * B+w.getD n 0+1) * p≤(g+1) * (d.getD (n+1) 0 * B+d.getD n 0) * p:=Int.mul_le_mul_of_nonneg_right (by omega) (by omega)
  have h3:0≤(g+1) * dl:=Int.mul_nonneg (by omega) hdl0
  have h4:val B w=wl+((w.getD (n+2) 0 * B+w.getD (n+1) 0) * B+w.getD n 0) * p:=by rw [w1];grind
  have h5:(g+1) * val B d=(g+1) * dl+(g+1) * (d.getD (n+1) 0 * B+d.getD n 0) * p:=by rw [d1];grind
  rw [Int.add_mul ((w.getD (n+2) 0 * B+w.getD (n+1) 0) * B+w.getD n 0),Int.one_mul] at h2
  omega
 ·subst h
  rw [show B - 1+1=B by omega,Int.mul_comm B] at e
  omega
theorem long_step {T W D Q b p g R A:Int} (hR:R=W - g * D) (hA:A=T+p * W+p * b * D * Q):A=T+p * R+p * D * (g+b * Q):=by grind
theorem long_l0 {d:List Int} (hd:Dig B d) {n:Nat} (hdl:d.length=n+2) (hL:d.length≤1073741824) (htop:0<d.getD (n+1) 0) {s:Int} (L:Nat) (hL2:L≤1099511627775) (A:Int) {R:List Int × List Int}
  (next:∀ x q,x.length=L→Dig B x→val B x<val B d→Dig B q→q.length+d.length=L→A=val B x+val B d * val B q→Ev (fun k=>nat_long.l2 k s (d.length:Int) x q (d.length:Int) 0) R) :
  ∀ (i:Nat) (x q:List Int),i+d.length≤L→x.length=L→Dig B x→Dig B q→q.length+d.length=L→val B (x.drop i)<val B d→A=val B x+pw B i * val B d * val B (q.drop i) →
   Ev (fun k=>nat_long.l0 k s (d.length:Int) d x q ((i:Int) - 1)) R:=by
 intro i
 induction i with
 | zero =>
  intro x q hi hx hdx hdq hql hR hA
  rw [List.drop_zero] at hR hA
  rw [pw_zero,Int.one_mul] at hA
  refine Ev.step (fun k=>?_) (next x q hx hdx hR hdq hql hA)
  simp only [nat_long.l0]
  rw [if_neg (by omega)]
 | succ i ih =>
  intro x q hi hx hdx hdq hql hR hA
  have hi1:Aside0 (((i+1:Nat):Int) - 1=(i:Int)):=⟨by omega⟩
  obtain ⟨w,hw⟩:∃ w,w=(x.take (i+(d.length+1))).drop i:=⟨_,rfl⟩
  obtain ⟨post,hpost⟩:∃ post,post=x.drop (i+(d.length+1)):=⟨_,rfl⟩
  have hsplit:x.take i ++ w ++ post=x:=by
   have e:x.take i=(x.take (i+(d.length+1))).take i:=by rw [List.take_take,Nat.min_eq_left (by omega)]
   rw [hw,hpost,e,List.take_append_drop,List.take_append_drop]
  have hpre:(x.take i).length=i:=by rw [List.length_take];omega
  have hwl:w.length=d.length+1:=by rw [hw,List.length_drop,List.length_take];omega
  have hdw:Dig B w:=by rw [hw];exact (hdx.take _).drop _
  have hdp:Dig B post:=by rw [hpost];exact hdx.drop _
  have hwd:x.drop i=w ++ post:=by
   have:=win_drop (w:=w) (post:=post) hpre
   rw [hsplit] at this
   exact this
  have hxd1:x.drop (i+1)=w.drop 1 ++ post:=by
   have:x.drop (i+1)=(x.drop i).drop 1:=by rw [List.drop_drop]
   rw [this,hwd,List.drop_append_of_le_length (by omega)]
  have hw1:=val_drop w 0
  rw [List.drop_zero] at hw1
  have hg0:=hdw.get Bpos 0
  have hD0:=val_nonneg Bpos hd
  have hDl:=pval_lt Bpos hd
  rw [hxd1,pval_append] at hR
  have hdl1:(w.drop 1).length=d.length:=by rw [List.length_drop];omega
  rw [hdl1] at hR
  have hp0:=val_nonneg Bpos hdp
  have hwd0:=val_nonneg Bpos (hdw.drop 1)
  have hpn:=pw_pos Bpos d.length
  have hpz:val B post=0:=by
   by_cases h:1≤val B post
   ·have:pw B d.length * 1≤pw B d.length * val B post:=Int.mul_le_mul_of_nonneg_left h (by omega)
    omega
   ·omega
  rw [hpz,Int.mul_zero,Int.add_zero] at hR
  have hW0:0≤val B w:=val_nonneg Bpos hdw
  have hW1:val B w<val B d * B:=by
   have:B * (val B (w.drop (0+1))+1)≤B * val B d:=Int.mul_le_mul_of_nonneg_left (by rw [Nat.zero_add];omega) (Int.le_of_lt Bpos)
   rw [Int.mul_add,Int.mul_one,Int.mul_comm B (val B d)] at this
   omega
  have hdg1:=hd.get Bpos (n+1)
  obtain ⟨g,hg,g0,g1,g2⟩:=est_ev (hdw.get Bpos (n+2)) (hdw.get Bpos (n+1)) (hdw.get Bpos n) ⟨htop,hdg1.2⟩ (hd.get Bpos n)
  have hgt:=est_bound hdw hd (by omega) hdl hW1 g0 g2
  obtain ⟨x',o',h1,h2,h3,h4,h5,h6⟩:=less_ev hdw hd ⟨g0,g1⟩ (by omega) hwl
  have hx0:=val_nonneg Bpos h3
  have hx1:=pval_lt Bpos h3
  rw [h2] at hx1
  have hwlt:=pval_lt Bpos hdw
  rw [hwl] at hwlt
  have ho:o'=0∨o'=1:=by omega
  have hgD:0≤g * val B d:=Int.mul_nonneg g0 hD0
  have hlow:decide (o' > 0)=true ↔ val B w - g * val B d<0:=by
   rw [decide_eq_true_iff]
   rcases ho with rfl|rfl
   ·rw [Int.mul_zero] at h6;omega
   ·rw [Int.mul_one] at h6;omega
  have key:Ev (fun k=>nat_long.l1 k s (d.length:Int) d (x.take i ++ x' ++ post) q (i:Int) g (decide (o' > 0))) R:=by
   refine long_l1 hd hL (by omega) hpre (by omega) hW0 hW1 ?_ g.toNat g x' (decide (o' > 0)) (Nat.le_refl _) g0 g1 h2 h3 hlow hgt ?_
   ·intro w' hw' hdw' hvw'
    have hmod0:=Int.emod_nonneg (val B w) (show val B d≠0 by intro h;rw [h] at hW1;omega)
    have hmod1:=Int.emod_lt_of_pos (val B w) (show 0<val B d by by_cases h:val B d=0;(rw [h] at hW1;omega);omega)
    have hdm:=Int.mul_ediv_add_emod (val B w) (val B d)
    have hq0:0≤val B w / val B d:=Int.ediv_nonneg hW0 hD0
    have hq1:val B w / val B d<B:=Int.ediv_lt_of_lt_mul (by omega) (by rw [Int.mul_comm B];exact hW1)
    have hpre2:(x.take i).length=i:=hpre
    refine ih (x.take i ++ w' ++ post) (q.set i (val B w / val B d)) (by omega) ?_ (((hdx.take i).append hdw').append hdp) (hdq.set hq0 hq1) (by simpa using hql) ?_ ?_
    ·have:=congrArg List.length hsplit
     simp only [List.length_append] at this ⊢
     omega
    ·rw [win_drop hpre,pval_append,hpz,Int.mul_zero,Int.add_zero,hvw']
     exact hmod1
    ·rw [drop_set_cons q i _ (by omega),val_cons,pval_append,hpz,Int.mul_zero,Int.add_zero,pval_append,hpre,hvw']
     have hvx:val B x=val B (x.take i)+pw B i * val B w:=by
      rw [val_split x i,hwd,pval_append,hpz,Int.mul_zero,Int.add_zero]
     rw [hvx,pw_succ] at hA
     exact long_step (by rw [Int.mul_comm];omega) hA
   ·rw [h6]
    rcases ho with rfl|rfl <;> simp
  have hwj:Aside0 (wrap64 ((i:Int)+(d.length:Int))=((i+(n+2):Nat):Int)):=⟨by rw [w64 (by omega) (by omega)];omega⟩
  have hwj1:Aside0 (wrap64 (((i+(n+2):Nat):Int) - 1)=((i+(n+1):Nat):Int)):=⟨by rw [w64 (by omega) (by omega)];omega⟩
  have hwj2:Aside0 (wrap64 (((i+(n+2):Nat):Int) - 2)=((i+n:Nat):Int)):=⟨by rw [w64 (by omega) (by omega)];omega⟩
  have hwn1:Aside0 (wrap64 ((d.length:Int) - 1)=((n+1:Nat):Int)):=⟨by rw [w64 (by omega) (by omega)];omega⟩
  have hwn2:Aside0 (wrap64 ((d.length:Int) - 2)=((n:Nat):Int)):=⟨by rw [w64 (by omega) (by omega)];omega⟩
  have hwp:Aside0 (wrap64 (((i+(n+2):Nat):Int)+1)=((i+(d.length+1):Nat):Int)):=⟨by rw [w64 (by omega) (by omega)];omega⟩
  have hgw:∀ t,t<d.length+1→x.getD (i+t) 0=w.getD t 0:=by
   intro t ht
   rw [hw,getD_drop,getD_take _ _ _ (by omega)]
  refine Ev.step (f:=fun k=>(nat_estimate.f k (w.getD (n+2) 0) (w.getD (n+1) 0) (w.getD n 0) (d.getD (n+1) 0) (d.getD n 0)).bind fun t=>(nat_lessW.f k x (i:Int) ((i+(d.length+1):Nat):Int) d t).bind fun b=>nat_long.l1 k s (d.length:Int) d b.2 q (i:Int) t b.1) (fun k=>?_) (Ev.bind hg ?_)
  ·simp only [nat_long.l0]
   rw [hi1.out,hwj.out,hwj1.out,hwj2.out,hwn1.out,hwn2.out,hwp.out]
   rw [if_pos (by omega),if_pos (by omega),if_pos (by omega),if_pos (by omega),if_pos (by omega),if_pos (by omega),if_pos (by omega),if_pos (by omega),if_pos (by omega),if_pos (by omega),if_pos (by omega)]
   rw [rd_nat,rd_nat,rd_nat,rd_nat,rd_nat,hgw _ (by omega),hgw _ (by omega),hgw _ (by omega)]
   congr 1
   funext t
   rw [if_pos (by omega),if_pos (by omega),if_pos (by omega)]
  ·refine Ev.congr (f:=fun k=>(nat_less.f k w d g).bind fun b=>nat_long.l1 k s (d.length:Int) d (x.take i ++ b.2 ++ post) q (i:Int) g b.1) (fun k=>?_) (Ev.bind h1 key)
   have:=lessW_eq k (pre:=x.take i) (w:=w) (post:=post) (d:=d) (q:=g) (j:=i) (n:=d.length+1) hpre hwl (by omega)
   rw [hsplit] at this
   rw [this]
   cases nat_less.f k w d g <;> rfl
theorem long_l2 {M:Int} (hM:0≤M) {s n:Nat} (hs:s<64) (hMn:M<pw B n) (q:List Int) (hdq:Dig B q) (hql:q.length≤1099511627776) {len:Nat} (hnl:n≤len) (hL:len≤1099511627775):∀ (d i:Nat) (x:List Int),i+d=n→x.length=len→Dig B x→(∀ j,i≤j→j<n→x.getD j 0=M / pw B j % B)→val B (x.take i)=M / pw 2 s % pw B i →
  Ev (fun k=>nat_long.l2 k (s:Int) (n:Int) x q (n:Int) (i:Int)) (enc B (val B q),enc B (M / pw 2 s)):=by
 have hf:=pw2_pos s
 have hfD:pw 2 s * pw 2 (64 - s)=B:=pw2_pq (by omega)
 have hg:=pw2_pos (64 - s)
 have hMs:=Int.ediv_nonneg hM (Int.le_of_lt hf)
 intro d
 induction d with
 | zero =>
  intro i x hi hx hd hj hv
  obtain rfl:i=n:=by omega
  have hlt:M / pw 2 s<pw B i:=Int.lt_of_le_of_lt (Int.ediv_le_self _ hM) hMn
  rw [Int.emod_eq_of_lt hMs hlt] at hv
  have ht:=trim_ev (hd.take i) (by rw [List.length_take];omega)
  rw [hv] at ht
  refine Ev.step (f:=fun k=>(nat_trim.f k q).bind fun t=>(nat_trim.f k (x.take i)).bind fun u=>some (t,u)) (fun k=>?_) (Ev.bind (trim_ev hdq hql) (Ev.bind ht (Ev.now _)))
  simp only [nat_long.l2]
  rw [if_neg (by omega)]
  congr 1
  funext t
  rw [if_pos (by omega),if_pos (by omega),Int.toNat_natCast]
 | succ d ih =>
  intro i x hi hx hd hj hv
  have hw1:Aside0 (wrap64 ((i:Int)+1)=((i+1:Nat):Int)):=⟨by rw [w64 (by omega) (by omega)];omega⟩
  have hw2:Aside0 (wrap64 (64 - (s:Int))=((64 - s:Nat):Int)):=⟨by rw [w64 (by omega) (by omega)];omega⟩
  have hlt:i<x.length:=by omega
  have hi1:i+1+d=n:=by omega
  have hMi:=div_pw_nonneg Bpos hM i
  have hsd:=shr_digit hf hg hMi
  rw [hfD, ← div_pw_succ Bpos] at hsd
  have hcc:M / pw B i / pw 2 s=M / pw 2 s / pw B i:=div_div_comm (Int.le_of_lt (pw_pos Bpos i)) (Int.le_of_lt hf)
  rw [hcc] at hsd
  have hdg0:=Int.emod_nonneg (M / pw 2 s / pw B i) (show B≠0 by have:=B1;omega)
  have hdg1:=Int.emod_lt_of_pos (M / pw 2 s / pw B i) Bpos
  have key:=ih (i+1) (x.set i (M / pw 2 s / pw B i % B)) hi1 (by simpa using hx) (hd.set hdg0 hdg1) (fun j hj' hj2=>by rw [getD_set _ _ _ _ (by omega)];exact hj j (by omega) hj2) (by
   rw [pval_take_set B x i _ hlt,hv, ← emod_pw_succ Bpos hMs i,Int.mul_comm (pw B i)];omega)
  have a0:=Int.emod_nonneg (M / pw B i) (show B≠0 by have:=B1;omega)
  have a1:=Int.emod_lt_of_pos (M / pw B i) Bpos
  have q0:0≤M / pw B i % B / pw 2 s:=Int.ediv_nonneg a0 (Int.le_of_lt hf)
  have q1:M / pw B i % B / pw 2 s<pw 2 (64 - s):=Int.ediv_lt_of_lt_mul hf (by rw [Int.mul_comm,hfD];exact a1)
  have q2:M / pw B i % B / pw 2 s≤M / pw B i % B:=Int.ediv_le_self _ a0
  by_cases hn:0<s∧i+1<n
  ·have c0:=Int.emod_nonneg (M / pw B (i+1) % B) (show pw 2 s≠0 by omega)
   have p0:0≤M / pw B (i+1) % B % pw 2 s * pw 2 (64 - s):=Int.mul_nonneg c0 (Int.le_of_lt hg)
   rw [hsd] at key hdg1
   have hor:Go.bits .or .u64 (M / pw B i % B / pw 2 s) (M / pw B (i+1) % B % pw 2 s * pw 2 (64 - s))=M / pw B i % B / pw 2 s+M / pw B (i+1) % B % pw 2 s * pw 2 (64 - s):=by
    rw [or_comm' q0 (by omega) p0 (by omega),or_join p0 (Int.mul_emod_left _ _) (by omega) q0 q1 (by omega),Int.add_comm]
   have hsh:shl .u64 (M / pw B (i+1) % B) ((64 - s:Nat):Int)=M / pw B (i+1) % B % pw 2 s * pw 2 (64 - s):=by
    rw [shl_u64 _ (by omega), ← hfD]
    exact mul_shl hg
   refine Ev.step (f:=fun k=>nat_long.l2 k (s:Int) (n:Int) (x.set i (M / pw B i % B / pw 2 s+M / pw B (i+1) % B % pw 2 s * pw 2 (64 - s))) q (n:Int) ((i+1:Nat):Int)) (fun k=>?_) key
   simp only [nat_long.l2]
   rw [hw1.out,hw2.out,if_pos (by omega),if_pos (by omega),if_pos (by omega),if_pos (by omega)]
   simp only [Option.bind_some]
   rw [if_pos (by omega),if_pos (by omega),if_pos (by omega),if_pos (by omega),if_pos (by omega),rd_nat,rd_nat,rd_nat,Int.toNat_natCast,getD_set_self _ _ _ hlt,getD_set _ _ _ _ (by omega),hj i (by omega) (by omega),hj (i+1) (by omega) (by omega),shr_u64 _ (by omega),hsh,hor,List.set_set]
  ·have hz:M / pw B (i+1) % B % pw 2 s=0:=by
    by_cases h0:0<s
    ·have:M / pw B (i+1)=0:=by
      rw [show i+1=n by omega]
      exact Int.ediv_eq_zero_of_lt hM hMn
     rw [this,Int.zero_emod,Int.zero_emod]
    ·rw [show s=0 by omega,pw_zero,Int.emod_one]
   rw [hz,Int.zero_mul,Int.add_zero] at hsd
   rw [hsd] at key
   refine Ev.step (f:=fun k=>nat_long.l2 k (s:Int) (n:Int) (x.set i (M / pw B i % B / pw 2 s)) q (n:Int) ((i+1:Nat):Int)) (fun k=>?_) key
   simp only [nat_long.l2]
   rw [hw1.out,if_pos (by omega),if_pos (by omega),if_pos (by omega),if_pos (by omega)]
   simp only [Option.bind_some]
   by_cases h0:0<s
   ·rw [if_pos (by omega),if_neg (by omega),rd_nat,Int.toNat_natCast,hj i (by omega) (by omega),shr_u64 _ (by omega)]
   ·rw [if_neg (by omega),rd_nat,Int.toNat_natCast,hj i (by omega) (by omega),shr_u64 _ (by omega)]
theorem long_ev {A C:Int} (hC:0<C) (hCA:C≤A) (hn:2≤(enc B C).length) (hLA:(enc B A).length≤1073741823):Ev (fun k=>nat_long.f k (enc B A) (enc B C)) (enc B (A / C),enc B (A % C)):=by
 have hA:0≤A:=by omega
 have hAp:0<A:=by omega
 obtain ⟨n1,hn1,hg1,ht0,ht1⟩:=top_digit B1 hC
 obtain ⟨n,rfl⟩:∃ n,n1=n+1:=⟨n1 - 1,by omega⟩
 have hAl:=pval_lt Bpos (dig_enc' B1 A)
 rw [val_enc' B1 hA] at hAl
 have hcl:pw B ((enc B C).length - 1)≤C:=ple_of_len B1 hC
 rw [hn1,Nat.add_sub_cancel] at hcl
 have hmn:(enc B C).length≤(enc B A).length:=by
  by_cases h:(enc B A).length<(enc B C).length
  ·have:=cmpI_len B1 hA (Int.le_of_lt hC) h;omega
  ·omega
 generalize htop:C / pw B (n+1)=top at *
 obtain ⟨m1,m2,m3,m4⟩:=norm64 ht0 ht1
 have hlz:=lz_ev (Int.le_of_lt ht0) ht1
 have hbl:top<pw 2 (bl top):=by
  have h1:=Int.mul_ediv_add_emod top (pw 2 (bl top))
  have h2:=Int.emod_lt_of_pos top (pw2_pos (bl top))
  have h3:top / pw 2 (bl top)=0:=div_len two1 (by omega)
  rw [h3,Int.mul_zero] at h1
  omega
 have hpb:pw 2 (bl top) * pw 2 (64 - bl top)=B:=pw2_pq m4
 have hs:64 - bl top<64:=by omega
 generalize 64 - bl top=s at *
 have hP:=pw2_pos s
 have hP1:1≤pw 2 s:=hP
 obtain ⟨d1,dl,dd,dv,de⟩:=lifted_ev (dig_enc' B1 C) (s:=s) hs (by omega)
 obtain ⟨r1,rl,rd',rv,re⟩:=lifted_ev (dig_enc' B1 A) (s:=s) hs (by omega)
 rw [val_enc' B1 (Int.le_of_lt hC)] at dv
 rw [val_enc' B1 hA] at rv
 have hp1:=pw_pos Bpos (n+1)
 have hCP0:C≤C * pw 2 s:=by
  have:C * 1≤C * pw 2 s:=Int.mul_le_mul_of_nonneg_left hP1 (by omega)
  omega
 -- the divisor, lifted, has no limb more
 have hCP1:C * pw 2 s<pw B (n+2):=by
  have h1:=Int.mul_ediv_add_emod C (pw B (n+1))
  have h2:=Int.emod_lt_of_pos C hp1
  rw [htop] at h1
  have h3:C<pw B (n+1) * (top+1):=by rw [Int.mul_add,Int.mul_one];omega
  have h4:C * pw 2 s<pw B (n+1) * (top+1) * pw 2 s:=Int.mul_lt_mul_of_pos_right h3 hP
  have h5:(top+1) * pw 2 s≤pw 2 (bl top) * pw 2 s:=Int.mul_le_mul_of_nonneg_right (by omega) (by omega)
  rw [hpb] at h5
  have h6:pw B (n+1) * ((top+1) * pw 2 s)≤pw B (n+1) * B:=Int.mul_le_mul_of_nonneg_left h5 (by omega)
  rw [← Int.mul_assoc, ← pw_succ,show n+1+1=n+2 from rfl] at h6
  omega
 have hdt:(d1.take (n+2)).length=n+2:=by rw [List.length_take];omega
 have hdv:val B (d1.take (n+2))=C * pw 2 s:=by
  have h1:=val_split d1 (n+2)
  have h2:=val_nonneg Bpos (dd.take (n+2))
  have h3:=val_nonneg Bpos (dd.drop (n+2))
  have hp2:=pw_pos Bpos (n+2)
  by_cases h4:1≤val B (d1.drop (n+2))
  ·have:pw B (n+2) * 1≤pw B (n+2) * val B (d1.drop (n+2)):=Int.mul_le_mul_of_nonneg_left h4 (by omega)
   omega
  ·rw [show val B (d1.drop (n+2))=0 by omega,Int.mul_zero,Int.add_zero,dv] at h1
   exact h1.symm
 have hdtop:0<(d1.take (n+2)).getD (n+1) 0:=by
  rw [getD_val (dd.take (n+2)),hdv]
  have h1:1≤C * pw 2 s / pw B (n+1):=(Int.le_ediv_iff_mul_le hp1).2 (by omega)
  have h2:C * pw 2 s / pw B (n+1)<B:=Int.ediv_lt_of_lt_mul hp1 (by rw [Int.mul_comm B, ← pw_succ];exact hCP1)
  rw [Int.emod_eq_of_lt (by omega) h2]
  omega
 -- the upper limbs of what is divided are below it
 have hup:val B (r1.drop ((enc B A).length+1 - (n+2)))<C * pw 2 s:=by
  have h1:=val_split r1 ((enc B A).length+1 - (n+2))
  have h2:=val_nonneg Bpos (rd'.take ((enc B A).length+1 - (n+2)))
  have hpi:=pw_pos Bpos ((enc B A).length+1 - (n+2))
  have h3:pw B (enc B A).length=pw B ((enc B A).length+1 - (n+2)) * pw B (n+1):=by rw [← pw_add];congr 1;omega
  have h4:A * pw 2 s<pw B (enc B A).length * pw 2 s:=Int.mul_lt_mul_of_pos_right hAl hP
  have h5:pw B (n+1) * pw 2 s≤C * pw 2 s:=Int.mul_le_mul_of_nonneg_right hcl (by omega)
  have h6:pw B ((enc B A).length+1 - (n+2)) * (pw B (n+1) * pw 2 s)≤pw B ((enc B A).length+1 - (n+2)) * (C * pw 2 s):=Int.mul_le_mul_of_nonneg_left h5 (by omega)
  rw [h3,Int.mul_assoc] at h4
  refine Int.lt_of_mul_lt_mul_left (a:=pw B ((enc B A).length+1 - (n+2))) ?_ (by omega)
  omega
 have hmain:Ev (fun k=>nat_long.l0 k (s:Int) ((d1.take (n+2)).length:Int) (d1.take (n+2)) r1 (List.replicate ((enc B A).length+1 - (n+2)) 0) ((((enc B A).length+1 - (n+2):Nat):Int) - 1)) (enc B (A / C),enc B (A % C)):=by
  refine long_l0 (dd.take (n+2)) hdt (by omega) hdtop ((enc B A).length+1) (by omega) (A * pw 2 s) ?_ ((enc B A).length+1 - (n+2)) r1 _ (by omega) rl rd' (Dig.zeros Bpos _) (by rw [List.length_replicate];omega) (by rw [hdv];exact hup) ?_
  ·intro x q hx hdx hlt hdq hql hA2
   rw [hdv] at hlt hA2
   have hx0:=val_nonneg Bpos hdx
   have hq0:=val_nonneg Bpos hdq
   have hxd:=Int.mul_ediv_add_emod (val B x) (pw 2 s)
   have hxm:val B x % pw 2 s=0:=by
    have e:val B x=(A - C * val B q) * pw 2 s:=by rw [Int.sub_mul,hA2];grind
    rw [e,Int.mul_emod_left]
   rw [hxm,Int.add_zero] at hxd
   have e1:A * pw 2 s=(val B q * C+val B x / pw 2 s) * pw 2 s:=by rw [hA2];grind
   have e2:A=val B q * C+val B x / pw 2 s:=Int.eq_of_mul_eq_mul_right (by omega) e1
   have hr0:=Int.ediv_nonneg hx0 (Int.le_of_lt hP)
   have hr1:val B x / pw 2 s<C:=Int.ediv_lt_of_lt_mul hP hlt
   obtain ⟨f1,f2⟩:=quot_of e2 hr0 hr1
   rw [f1,f2,hdt]
   refine long_l2 hx0 hs (by omega) q hdq (by omega) (len:=(enc B A).length+1) (by omega) (by omega) (n+2) 0 x (by omega) hx hdx (fun j _ _=>getD_val hdx j) ?_
   rw [List.take_zero,val_nil,pw_zero,Int.emod_one]
  ·rw [List.drop_replicate,val_zeros,Int.mul_zero,Int.add_zero,rv]
 rw [hdt] at hmain
 have hw:Aside0 (wrap64 (((n+2:Nat):Int) - 1)=((n+1:Nat):Int)):=⟨by rw [w64 (by omega) (by omega)];omega⟩
 have hw2:Aside0 (wrap64 ((((enc B A).length+1:Nat):Int) - ((n+2:Nat):Int))=(((enc B A).length+1 - (n+2):Nat):Int)):=⟨by rw [w64 (by omega) (by omega)];omega⟩
 have hw3:Aside0 (wrap64 ((((enc B A).length+1 - (n+2):Nat):Int) - 1)=(((enc B A).length+1 - (n+2):Nat):Int) - 1):=⟨w64 (by omega) (by omega)⟩
 have hC2:(enc B C).length=n+2:=hn1
 refine Ev.congr (fun k=>by unfold nat_long.f;rw [hC2,hw.out,if_pos (by omega),if_pos (by omega),rd_nat,hg1]) (Ev.bind hlz ?_)
 refine Ev.bind de ?_
 refine Ev.congr (fun k=>by rw [if_pos (by omega),if_pos (by omega)]) (Ev.bind re ?_)
 refine Ev.congr (fun k=>?_) hmain
 rw [rl,hw2.out,if_pos (by omega),Int.toNat_natCast,if_pos (by omega)]
 simp only [Option.bind_some,List.length_replicate]
 rw [hw3.out,Int.toNat_natCast]
theorem nDiv_zero {a b:List Int} (ha:Dig B a) (hb:Dig B b) (hLa:a.length≤1073741823) (hLb:b.length≤1073741823) (h0:val B b=0):Ev (fun k=>nat_Div.f k a b) ([], [],some 4):=by
 have tb:=trim_ev hb (by omega)
 rw [h0,enc_zero] at tb
 refine Ev.congr (fun k=>by unfold nat_Div.f;rfl) (Ev.bind (trim_ev ha (by omega)) (Ev.bind tb ?_))
 exact Ev.congr (f:=fun _=>some ([], [],some 4)) (fun k=>by rw [if_pos (show (([]:List Int).length:Int)=0 from rfl)]) (Ev.now _)
theorem nDiv_ev {a b:List Int} (ha:Dig B a) (hb:Dig B b) (hLa:a.length≤1073741823) (hLb:b.length≤1073741823) (h0:0<val B b):Ev (fun k=>nat_Div.f k a b) (enc B (val B a / val B b),enc B (val B a % val B b),none):=by
 have hA:=val_nonneg Bpos ha
 have la:=enc_len_le B1 ha
 have lb:=enc_len_le B1 hb
 refine Ev.congr (fun k=>by unfold nat_Div.f;rfl) (Ev.bind (trim_ev ha (by omega)) (Ev.bind (trim_ev hb (by omega)) ?_))
 generalize val B a=A at *
 generalize val B b=C at *
 obtain ⟨n,hn,hg,t0,t1⟩:=top_digit B1 h0
 by_cases h1:n=0
 ·subst h1
  rw [div_pw_zero] at hg t0 t1
  have hd:=dig_enc' B1 A
  have hs:=short_ev hd (by omega) h0 t1
  rw [val_enc' B1 hA] at hs
  have hr0:=Int.emod_nonneg A (show C≠0 by omega)
  have hr1:=Int.emod_lt_of_pos A h0
  refine Ev.congr (f:=fun k=>(nat_short.f k (enc B A) C).bind fun b=>(nat_Of.f k b.2).bind fun t=>some (b.1,t,none)) (fun k=>?_) (Ev.bind hs (Ev.bind (nOf_ev hr0 (by omega)) (Ev.now _)))
  rw [if_neg (by omega),if_pos (by omega),if_pos (by omega),show rd (enc B C) 0=(enc B C).getD 0 0 from rd_nat _ 0,hg]
 ·have hc:=nCmp_ev (dig_enc' B1 A) (dig_enc' B1 C) (by omega) (by omega)
  rw [val_enc' B1 hA,val_enc' B1 (Int.le_of_lt h0)] at hc
  refine Ev.congr (fun k=>by rw [if_neg (by omega),if_neg (by omega)]) (Ev.bind hc ?_)
  by_cases h2:A<C
  ·rw [Int.ediv_eq_zero_of_lt hA h2,Int.emod_eq_of_lt hA h2,enc_zero]
   refine Ev.congr (f:=fun _=>some ([],enc B A,none)) (fun k=>?_) (Ev.now _)
   rw [if_pos (cmpI_neg.2 h2),if_pos (by simp only [List.length_nil];omega)]
   rfl
  ·refine Ev.congr (fun k=>by rw [if_neg (fun h=>h2 (cmpI_neg.1 h))]) (Ev.bind (long_ev h0 (by omega) (by omega) (by omega)) (Ev.now _))
def dec (A:Int):List UInt8:=Lib.decDigits A.toNat
def padD:Nat→Nat→List UInt8
 | 0,_ => []
 | k+1,r=>padD k (r / 10) ++ [UInt8.ofNat (48+r % 10)]
theorem dd_big {u:Nat} (h:¬ u<10):Lib.decDigits u=Lib.decDigits (u / 10) ++ [UInt8.ofNat (48+u % 10)]:=by rw [Lib.decDigits,dif_neg h]
theorem dd_split (k:Nat):∀ q r:Nat,0<q→r<10 ^ k→Lib.decDigits (q * 10 ^ k+r)=Lib.decDigits q ++ padD k r:=by
 induction k with
 | zero=>intro q r hq hr;rw [Nat.pow_zero] at *;rw [show r=0 by omega];simp [padD]
 | succ k ih =>
  intro q r hq hr
  have hp:1≤10 ^ k:=Nat.one_le_pow _ _ (by decide)
  have e1:q * 10 ^ (k+1)=q * 10 ^ k * 10:=by rw [Nat.pow_succ,Nat.mul_assoc]
  have hqp:0<q * 10 ^ k:=Nat.mul_pos hq hp
  rw [Nat.pow_succ] at hr
  rw [e1,dd_big (by omega),show (q * 10 ^ k * 10+r) / 10=q * 10 ^ k+r / 10 by omega,show (q * 10 ^ k * 10+r) % 10=r % 10 by omega,ih q (r / 10) hq (by omega),padD,List.append_assoc]
theorem padD_zero (k:Nat):padD k 0=List.replicate k 48:=by
 induction k with
 | zero=>rfl
 | succ k ih=>rw [padD,Nat.zero_div,ih,List.replicate_succ'];rfl
theorem dd_len_le (k:Nat):∀ r:Nat,1≤k→r<10 ^ k→(Lib.decDigits r).length≤k:=by
 induction k with
 | zero=>intro r h;omega
 | succ k ih =>
  intro r _ hr
  by_cases h:r<10
  ·rw [Lib.decDigits_one h];simp
  ·rw [dd_big h,List.length_append]
   rw [Nat.pow_succ] at hr
   have hk:1≤k:=by
    by_cases h0:k=0
    ·subst h0;rw [Nat.pow_zero] at hr;omega
    ·omega
   have:=ih (r / 10) hk (by omega)
   simp only [List.length_cons,List.length_nil]
   omega
theorem padD_eq (k:Nat):∀ r:Nat,1≤k→r<10 ^ k→padD k r=List.replicate (k - (Lib.decDigits r).length) 48 ++ Lib.decDigits r:=by
 induction k with
 | zero=>intro r h;omega
 | succ k ih =>
  intro r _ hr
  by_cases h:r<10
  ·rw [Lib.decDigits_one h,padD,Nat.div_eq_of_lt h,padD_zero,Nat.mod_eq_of_lt h];simp
  ·rw [Nat.pow_succ] at hr
   have hk:1≤k:=by
    by_cases h0:k=0
    ·subst h0;rw [Nat.pow_zero] at hr;omega
    ·omega
   have hl:=dd_len_le k (r / 10) hk (by omega)
   rw [padD,ih (r / 10) hk (by omega),dd_big h,List.length_append,List.append_assoc]
   simp only [List.length_cons,List.length_nil]
   rw [show k+1 - ((Lib.decDigits (r / 10)).length+1)=k - (Lib.decDigits (r / 10)).length by omega]
theorem toNat_pw {A:Int} {k:Nat} (h0:0≤A) (h:A<pw 10 k):A.toNat<10 ^ k:=by
 rw [pw_def] at h
 have e:((10 ^ k:Nat):Int)=(10:Int) ^ k:=by simp
 omega
theorem pwB_10 (n:Nat):pw B n≤pw 10 (38 * n):=by
 induction n with
 | zero=>rw [pw_zero];exact Int.le_of_eq (pw_zero 10).symm
 | succ n ih =>
  have h38:pw 10 38=100000000000000000000000000000000000000:=by rw [pw_def];decide
  have hp:=pw10_pos (38 * n)
  rw [pw_succ,show 38 * (n+1)=38 * n+38 by omega,pw_add,h38,Bdef]
  have h1:pw B n * 18446744073709551616≤pw 10 (38 * n) * 18446744073709551616:=Int.mul_le_mul_of_nonneg_right ih (by decide)
  rw [Bdef] at h1
  have h2:pw 10 (38 * n) * 18446744073709551616≤pw 10 (38 * n) * 100000000000000000000000000000000000000:=Int.mul_le_mul_of_nonneg_left (by decide) (by omega)
  omega
theorem decB_mk (u:Int):decB u=mkB (dec u):=rfl
theorem repeat48 (c:Nat):Lib.repeatL [48] c=List.replicate c 48:=by
 induction c with
 | zero=>rfl
 | succ c ih=>rw [Lib.repeatL,ih];rfl
theorem catL_append (a b:List ByteArray):catL (a ++ b)=catL b ++ catL a:=by
 unfold catL
 rw [List.reverse_append,List.map_append,List.flatten_append]
theorem enc_pos_len {b n:Int} (hb:1<b) (h:0<n):0<(enc b n).length:=(enc_lt hb (Int.le_of_lt h) 0).2 (by rw [div_pw_zero];exact h)
theorem dec_split (k:Nat) {q r:Int} (hq:0<q) (hr0:0≤r) (hr:r<pw 10 k):dec (q * pw 10 k+r)=dec q ++ padD k r.toNat:=by
 have hrp:=toNat_pw hr0 hr
 have e:(q * pw 10 k+r).toNat=q.toNat * 10 ^ k+r.toNat:=by
  have h1:q * pw 10 k=((q.toNat * 10 ^ k:Nat):Int):=by
   rw [pw_def,Int.natCast_mul,Int.toNat_of_nonneg (Int.le_of_lt hq)]
   simp
  omega
 unfold dec
 rw [e]
 exact dd_split k q.toNat r.toNat (by omega) hrp
theorem ntext_end {x3:List ByteArray} (h0:x3 ≠ []) (hl:(catL x3).length≤140737488355328):Ev (fun k=>nat_Text.l0 k (enc B 0) x3) (catB x3):=by
 refine Ev.step (f:=fun _=>some (catB x3)) (fun k=>?_) (Ev.now _)
 have hn:0<x3.length:=List.length_pos_iff.2 h0
 simp only [nat_Text.l0,enc_zero]
 rw [if_neg (by simp),if_neg (by omega),if_pos hl]
theorem ntext_l0:∀ (m:Nat) (A:Int),0<A→A<pw 10 (19 * m)→m≤4194304 → ∃ ps,ps.length≤m∧catL ps=dec A ∧ ∀ x3:List ByteArray,x3.length+m≤8796093022207→(dec A).length+(catL x3).length≤140737488355328→Ev (fun k=>nat_Text.l0 k (enc B A) x3) (catB (x3 ++ ps)):=by
 intro m
 induction m with
 | zero=>intro A h0 h1;rw [Nat.mul_zero,pw_zero] at h1;omega
 | succ m ih =>
  intro A h0 h1 hm
  have hA:0≤A:=by omega
  have hs:=short_ev (dig_enc' B1 A) (d:=10000000000000000000) (by
   have:=penc_len B1 (Int.lt_trans h1 (pw10_ltB _))
   omega) (by decide) (by rw [Bdef];decide)
  rw [val_enc' B1 hA] at hs
  have hl:=enc_pos_len B1 h0
  have hq0:0≤A / 10000000000000000000:=by omega
  have hr0:0≤A % 10000000000000000000:=by omega
  have hr1:A % 10000000000000000000<10000000000000000000:=by omega
  have hA2:=Int.mul_ediv_add_emod A 10000000000000000000
  generalize hq:A / 10000000000000000000=q at *
  generalize hr:A % 10000000000000000000=r at *
  have hrp:r.toNat<10 ^ 19:=toNat_pw hr0 (by rw [pw10_19];exact hr1)
  have hf:strconv_FormatUint.f r 10=some (mkB (dec r)):=by
   unfold strconv_FormatUint.f
   rw [if_pos ⟨hr0,by omega,rfl⟩,decB_mk]
  have hlen:=dd_len_le 19 r.toNat (by decide) hrp
  have hsz:(mkB (dec r)).size=(Lib.decDigits r.toNat).length:=mkB_size _
  by_cases hqp:0<q
  ·have hp19:pw 10 19=10000000000000000000:=pw10_19
   have hqlt:q<pw 10 (19 * m):=by
    rw [show 19 * (m+1)=19 * m+19 by omega,pw_add,hp19] at h1
    omega
   obtain ⟨ps,p1,p2,p3⟩:=ih q hqp hqlt (by omega)
   have hd:dec A=dec q ++ padD 19 r.toNat:=by
    have h2:=dec_split 19 hqp hr0 (by rw [hp19];exact hr1)
    rw [hp19,show q * 10000000000000000000+r=A by omega] at h2
    exact h2
   have hpad:=padD_eq 19 r.toNat (by decide) hrp
   have hrep:strings_Repeat.f ⟨#[48]⟩ (19 - ((mkB (dec r)).size:Int))=some (mkB (List.replicate (19 - (Lib.decDigits r.toNat).length) 48)):=by
    unfold strings_Repeat.f
    have e:(19 - ((mkB (dec r)).size:Int)).toNat=19 - (Lib.decDigits r.toNat).length:=by omega
    rw [e,if_pos ⟨by omega,by omega,by show 1 * _≤_;omega⟩]
    exact congrArg (fun l=>some (mkB l)) (repeat48 _)
   have hcat:mkB (List.replicate (19 - (Lib.decDigits r.toNat).length) 48) ++ mkB (dec r)=mkB (padD 19 r.toNat):=by rw [mkB_append,hpad];rfl
   have hpl:(padD 19 r.toNat).length≤19:=by rw [hpad,List.length_append,List.length_replicate];omega
   refine ⟨mkB (padD 19 r.toNat) :: ps,by simp;omega,by rw [catL_cons,p2,mkB_list,hd],fun x3 hx hlx=>?_⟩
   have hx1:catL (x3 ++ [mkB (padD 19 r.toNat)])=padD 19 r.toNat ++ catL x3:=by rw [catL_append,catL_cons,catL_nil,mkB_list,List.nil_append]
   have key:=p3 (x3 ++ [mkB (padD 19 r.toNat)]) (by simp;omega) (by rw [hx1,List.length_append];rw [hd,List.length_append] at hlx;omega)
   rw [List.append_assoc,List.singleton_append] at key
   have hql:=enc_pos_len B1 hqp
   refine Ev.step (f:=fun k=>(nat_short.f k (enc B A) 10000000000000000000).bind fun b=>(strconv_FormatUint.f b.2 10).bind fun t=>if (b.1.length:Int) > 0 then ((strings_Repeat.f ⟨#[48]⟩ (wrap64 (19 - (t.size:Int)))).bind fun t2=>if t2.size+t.size≤9223372036854775807 then (if x3.length<8796093022208 then nat_Text.l0 k b.1 (x3 ++ [t2 ++ t]) else none) else none) else (if x3.length<8796093022208 then nat_Text.l0 k b.1 (x3 ++ [t]) else none)) (fun k=>?_) (Ev.bind hs ?_)
   ·simp only [nat_Text.l0]
    rw [if_pos (by omega)]
   ·refine Ev.congr (fun k=>?_) key
    rw [hf]
    simp only [Option.bind_some]
    rw [if_pos (by omega),w64 (x:=19 - ((mkB (dec r)).size:Int)) (by omega) (by omega),hrep]
    simp only [Option.bind_some]
    rw [if_pos (by rw [mkB_size,mkB_size,List.length_replicate];have:=hsz;rw [mkB_size] at this;omega),if_pos (by omega),hcat]
  ·obtain rfl:q=0:=by omega
   have hAr:A=r:=by omega
   subst hAr
   refine ⟨[mkB (dec A)],by simp,by rw [catL_cons,catL_nil,mkB_list,List.nil_append],fun x3 hx hlx=>?_⟩
   have hx1:catL (x3 ++ [mkB (dec A)])=dec A ++ catL x3:=by rw [catL_append,catL_cons,catL_nil,mkB_list,List.nil_append]
   have key:=ntext_end (x3:=x3 ++ [mkB (dec A)]) (by simp) (by rw [hx1,List.length_append];exact hlx)
   refine Ev.step (f:=fun k=>(nat_short.f k (enc B A) 10000000000000000000).bind fun b=>(strconv_FormatUint.f b.2 10).bind fun t=>if (b.1.length:Int) > 0 then ((strings_Repeat.f ⟨#[48]⟩ (wrap64 (19 - (t.size:Int)))).bind fun t2=>if t2.size+t.size≤9223372036854775807 then (if x3.length<8796093022208 then nat_Text.l0 k b.1 (x3 ++ [t2 ++ t]) else none) else none) else (if x3.length<8796093022208 then nat_Text.l0 k b.1 (x3 ++ [t]) else none)) (fun k=>?_) (Ev.bind hs ?_)
   ·simp only [nat_Text.l0]
    rw [if_pos (by omega)]
   ·refine Ev.congr (fun k=>?_) key
    rw [hf]
    simp only [Option.bind_some]
    rw [enc_zero,if_neg (by simp),if_pos (by omega)]
theorem dec_len {A:Int} (h0:0≤A) {n:Nat} (h:A<pw B n) (h1:1≤n):(dec A).length≤38 * n :=
 dd_len_le (38 * n) A.toNat (by omega) (toNat_pw h0 (Int.lt_of_lt_of_le h (pwB_10 n)))
theorem nText_ev {a:List Int} (ha:Dig B a) (hL:a.length≤1048576):Ev (fun k=>nat_Text.f k a) (mkB (dec (val B a))):=by
 have hA:=val_nonneg Bpos ha
 have hlt:=pval_lt Bpos ha
 refine Ev.congr (fun k=>by unfold nat_Text.f;rfl) (Ev.bind (trim_ev ha (by omega)) ?_)
 by_cases h:0<val B a
 ·have hn:1≤a.length:=by
   by_cases h0:a.length=0
   ·rw [List.length_eq_zero_iff] at h0;subst h0;rw [val_nil] at h;omega
   ·omega
  have hb:=Int.lt_of_lt_of_le hlt (pwB_10 a.length)
  rw [show 38 * a.length=19 * (2 * a.length) by omega] at hb
  obtain ⟨ps,p1,p2,p3⟩:=ntext_l0 (2 * a.length) (val B a) h hb (by omega)
  have hd:=dec_len hA hlt hn
  have:=p3 [] (by simp;omega) (by rw [catL_nil];simp;omega)
  rw [List.nil_append] at this
  have e:catB ps=mkB (dec (val B a)):=by unfold catB;rw [p2];rfl
  rw [e] at this
  exact this
 ·have h0:val B a=0:=by omega
  rw [h0,enc_zero]
  have e:mkB (dec 0)=(⟨#[48]⟩:ByteArray):=by
   show mkB (Lib.decDigits 0)=_
   rw [Lib.decDigits_one (by decide)];rfl
  rw [e]
  refine Ev.step (f:=fun _=>some ⟨#[48]⟩) (fun k=>?_) (Ev.now _)
  simp only [nat_Text.l0]
  rw [if_neg (by simp),if_pos (by simp)]
end Go.Proofs.Yy.PTx
end
