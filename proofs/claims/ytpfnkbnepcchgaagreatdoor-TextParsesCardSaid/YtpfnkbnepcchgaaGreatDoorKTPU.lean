/- Part 21. -/
import Derived.Test.YtpfnkbnepcchgaaGreatDoorKTPT
set_option linter.unusedSimpArgs false
set_option linter.unusedVariables false
section
namespace Go.Proofs.Yy.PTx
open Go.RowKit Go.Proofs.Yw.PrintWords Go.Proofs.Yw.PrintLast Go.Proofs.Yw.PrintMore Go.Proofs.Yy.M Go.Proofs.Yy.NM
attribute [local irreducible] fK iD iV jY val
theorem y7 (l:List Int)(i:Nat):val B l=val B (l.take i)+pw B i*val B (l.drop i):=by
 induction i with
 | zero=>rw[List.take_zero,List.drop_zero,mX,iU];omega
 | succ i ih =>
  rw[ih,eF,GX l i,eU,Int.mul_add,Int.mul_assoc]
  omega
theorem NC {l:List Int}(h:Dig B l)(i:Nat):l.getD i 0=val B l / pw B i % B:=by
 have h1:=y7 l i;have h2:=fC jm (h.take i);have h3:val B (l.take i)<pw B i:=Int.lt_of_lt_of_le (kM jm (h.take i)) (EL jm (by rw[List.length_take];omega));obtain⟨e,_⟩:=xN (a:=val B l) (y:=pw B i) (q:=val B (l.drop i)) (t:=val B (l.take i)) (by rw[Int.mul_comm];omega) h2 h3;have hg:=h.get jm i;rw[e,GX l i,Int.add_mul_emod_self_left,Int.emod_eq_of_lt hg.1 hg.2]
theorem getD_drop (l:List Int)(i j:Nat):(l.drop i).getD j 0=l.getD (i+j) 0:=by
 simp[List.getD_eq_getElem?_getD]
theorem getD_take (l:List Int)(i j:Nat)(h:j<i):(l.take i).getD j 0=l.getD j 0:=by
 simp[List.getD_eq_getElem?_getD,List.getElem?_take,h]
theorem Sj {pre w post:List Int}{j n:Nat}(hp:pre.length=j)(hw:w.length=n):((pre++w++post).take (j+n)).drop j=w:=by
 have e:(pre++w).length=j+n:=by rw[List.length_append,hp,hw]
 rw[← e,List.take_left, ← hp,List.drop_left]
theorem TN {pre w post:List Int}{j:Nat}(hp:pre.length=j):(pre++w++post).take j=pre:=by
 rw[List.append_assoc, ← hp,List.take_left]
theorem N9 {pre w post:List Int}{j n:Nat}(hp:pre.length=j)(hw:w.length=n):(pre++w++post).drop (j+n)=post:=by
 have e:(pre++w).length=j+n:=by rw[List.length_append,hp,hw]
 rw[← e,List.drop_left]
theorem NW {pre w post:List Int}{j:Nat}(hp:pre.length=j):(pre++w++post).drop j=w++post:=by
 rw[List.append_assoc, ← hp,List.drop_left]
theorem RS {X qd p o c b v q lo c' s o' x V:Int}(hf:lo+b*c'=v*q+c+0)(hs:s-b*o'=x-lo-o)(hV:V=X-q*qd+p*(c+o)):V+p*(s-x)=X-q*(qd+p*v)+p*b*(c'+o'):=by grind
theorem XJ {X D p o c b s o' x V:Int}(hs:s-b*o'=x-c-o)(hV:V=X-D+p*(c+o)):V+p*(s-x)=X-D+p*b*o':=by grind
theorem aa1 {d:List Int}(hd:Dig B d){q:Int}(hq:0≤q∧q<B)(hL:d.length≤1099511627775)(X:Int):∀ (m i:Nat) (x:List Int) (o c:Int),i+m=d.length→x.length=d.length+1→Dig B x→0≤o→o≤1→0≤c→c<B →
  val B x=X-q*val B (d.take i)+pw B i*(c+o) →
  ∃ x' o',Ev (fun k=>kY.l0 k x d q o c d (d.length:Int) (i:Int)) (decide (o' > 0),x')∧x'.length=d.length+1∧Dig B x'∧0≤o'∧o'≤1∧val B x'=X-q*val B d+pw B (d.length+1)*o':=by
 intro m
 induction m with
 | zero =>
  intro i x o c hi hx hdx o0 o1 c0 c1 hv
  obtain rfl:i=d.length:=by omega
  rw[List.take_length]at hv;have hg:=hdx.get jm d.length;obtain⟨s1,s2,s3,s4⟩:=FT hg ⟨c0,c1⟩ o0 o1;refine⟨x.set d.length (iV (x.getD d.length 0) c o),jY (x.getD d.length 0) c o,?_,by simpa using hx,hdx.set s2.1 s2.2,s3,s4,?_⟩
  ·refine Ev.step (f:=fun _=>some (decide (jY (x.getD d.length 0) c o > 0),x.set d.length (iV (x.getD d.length 0) c o))) (fun k=>?_) (Ev.now _)
   simp only[kY.l0];rw[if_neg (by omega),if_pos (by omega),if_pos (by omega),if_pos o1,eP,Int.toNat_natCast]
  ·rw[o8 B x _ _ (by omega),eU]
   exact XJ s1 hv
 | succ m ih =>
  intro i x o c hi hx hdx o0 o1 c0 c1 hv;have hg:=hdx.get jm i;obtain⟨lo,hi',hf,hs,hlo,hh⟩:=Gf (hd.get jm i) hq ⟨c0,c1⟩ (show (0:Int)≤0∧(0:Int)<B from ⟨Int.le_refl _,jm⟩);obtain⟨s1,s2,s3,s4⟩:=FT hg hlo o0 o1
  have hw1:ae (wrap64 ((i:Int)+1)=((i+1:Nat):Int)):=⟨by rw[w64 (by omega) (by omega)];omega⟩
  have hi1:i+1+m=d.length:=by omega
  have hlt:i<x.length:=by omega
  obtain⟨x',o',h1,h2⟩:=ih (i+1) (x.set i (iV (x.getD i 0) lo o)) (jY (x.getD i 0) lo o) hi' hi1 (by simpa using hx) (hdx.set s2.1 s2.2) s3 s4 hh.1 hh.2 (by
   rw[o8 B x i _ hlt,eF B d,eU]
   exact RS hs s1 hv)
  refine⟨x',o',Ev.step (fun k=>?_) h1,h2⟩;simp only[kY.l0];rw[hw1.out,if_pos (by omega),if_pos (by omega),if_pos (by omega),eP,eP,hf];simp only[Option.bind_some];rw[if_pos (by omega),if_pos o1,Int.toNat_natCast]
theorem aaS {x d:List Int}(hx:Dig B x)(hd:Dig B d){q:Int}(hq:0≤q∧q<B)(hL:d.length≤1099511627775)(hn:x.length=d.length+1) :
  ∃ x' o',Ev (fun k=>kY.f k x d q) (decide (o' > 0),x')∧x'.length=d.length+1∧Dig B x'∧0≤o'∧o'≤1∧val B x'=val B x-q*val B d+pw B (d.length+1)*o':=by
 have:=aa1 hd hq hL (val B x) d.length 0 x 0 0 (by omega) hn hx (Int.le_refl _) (by decide) (Int.le_refl _) jm (by rw[List.take_zero,mX];simp);exact this
theorem IX {X p c b v s c' x V D:Int}(hs:s+b*c'=x+v+c)(hV:V=X+D-p*c):V+p*(s-x)=X+(D+p*v)-p*b*c':=by grind
theorem aca {d:List Int}(hd:Dig B d)(hL:d.length≤1099511627775)(X:Int):∀ (m i:Nat) (x:List Int) (c:Int),i+m=d.length→x.length=d.length+1→Dig B x→0≤c→c≤1 →
  val B x=X+val B (d.take i)-pw B i*c →
  ∃ x' c',Ev (fun k=>kX.l0 k x d c d (d.length:Int) (i:Int)) (decide (c' > 0),x')∧x'.length=d.length+1∧Dig B x'∧0≤c'∧c'≤1∧val B x'=X+val B d-pw B (d.length+1)*c':=by
 intro m
 induction m with
 | zero =>
  intro i x c hi hx hdx c0 c1 hv
  obtain rfl:i=d.length:=by omega
  rw[List.take_length]at hv;have hg:=hdx.get jm d.length;obtain⟨s1,s2,s3,s4⟩:=um hg (show (0:Int)≤0∧(0:Int)<B from ⟨Int.le_refl _,jm⟩) c0 c1;refine⟨x.set d.length (fK (x.getD d.length 0) 0 c),iD (x.getD d.length 0) 0 c,?_,by simpa using hx,hdx.set s2.1 s2.2,s3,s4,?_⟩
  ·refine Ev.step (f:=fun _=>some (decide (iD (x.getD d.length 0) 0 c > 0),x.set d.length (fK (x.getD d.length 0) 0 c))) (fun k=>?_) (Ev.now _)
   simp only[kX.l0];rw[if_neg (by omega),if_pos (by omega),if_pos (by omega),if_pos c1,eP,Int.toNat_natCast]
  ·rw[o8 B x _ _ (by omega),eU]
   have:=IX s1 hv;rw[Int.mul_zero,Int.add_zero]at this;exact this
 | succ m ih =>
  intro i x c hi hx hdx c0 c1 hv;have hg:=hdx.get jm i;obtain⟨s1,s2,s3,s4⟩:=um hg (hd.get jm i) c0 c1
  have hw1:ae (wrap64 ((i:Int)+1)=((i+1:Nat):Int)):=⟨by rw[w64 (by omega) (by omega)];omega⟩
  have hi1:i+1+m=d.length:=by omega
  have hlt:i<x.length:=by omega
  obtain⟨x',c',h1,h2⟩:=ih (i+1) (x.set i (fK (x.getD i 0) (d.getD i 0) c)) (iD (x.getD i 0) (d.getD i 0) c) hi1 (by simpa using hx) (hdx.set s2.1 s2.2) s3 s4 (by
   rw[o8 B x i _ hlt,eF B d,eU]
   exact IX s1 hv)
  refine⟨x',c',Ev.step (fun k=>?_) h1,h2⟩;simp only[kX.l0];rw[hw1.out,if_pos (by omega),if_pos (by omega),if_pos (by omega),if_pos (by omega),if_pos c1,eP,eP,Int.toNat_natCast]
theorem acE {x d:List Int}(hx:Dig B x)(hd:Dig B d)(hL:d.length≤1099511627775)(hn:x.length=d.length+1) :
  ∃ x' c',Ev (fun k=>kX.f k x d) (decide (c' > 0),x')∧x'.length=d.length+1∧Dig B x'∧0≤c'∧c'≤1∧val B x'=val B x+val B d-pw B (d.length+1)*c':=by
 have:=aca hd hL (val B x) d.length 0 x 0 (by omega) hn hx (Int.le_refl _) (by decide) (by rw[List.take_zero,mX];simp);exact this
theorem Ya (k:Nat){pre w post d:List Int}{q:Int}{j n:Nat}(hp:pre.length=j)(hw:w.length=n)(h0:0<n) :
  qH.f k (pre++w++post) (j:Int) ((j+n:Nat):Int) d q=(kY.f k w d q).bind fun b=>some (b.1,pre++b.2++post):=by
 unfold qH.f;rw[if_pos ⟨by omega,by omega,by simp only[List.length_append];omega⟩,Int.toNat_natCast,Int.toNat_natCast,Sj hp hw,TN hp,N9 hp hw]
theorem XW (k:Nat){pre w post d:List Int}{j n:Nat}(hp:pre.length=j)(hw:w.length=n)(h0:0<n) :
  rO.f k (pre++w++post) (j:Int) ((j+n:Nat):Int) d=(kX.f k w d).bind fun b=>some (b.1,pre++b.2++post):=by
 unfold rO.f;rw[if_pos ⟨by omega,by omega,by simp only[List.length_append];omega⟩,Int.toNat_natCast,Int.toNat_natCast,Sj hp hw,TN hp,N9 hp hw]
theorem abl {d pre post x10:List Int}(hd:Dig B d)(hL:d.length≤1073741824){s:Int}{j:Nat}(hj:j≤1099511627775)(hp:pre.length=j)(aK7:j<x10.length){W:Int}(hW0:0≤W)(hW1:W<val B d*B){R:List Int × List Int}
  (next:∀ w',w'.length=d.length+1→Dig B w'→val B w'=W % val B d→Ev (fun k=>bz.l0 k s (d.length:Int) d (pre++w' ++ post) (x10.set j (W / val B d)) ((j:Int)-1)) R) :
  ∀ (m:Nat) (g:Int) (w:List Int) (low:Bool),g.toNat≤m→0≤g→g<B→w.length=d.length+1→Dig B w→(low=true ↔ W-g*val B d<0)→W-g*val B d<val B d→val B w=W-g*val B d+pw B (d.length+1)*(if low then 1 else 0) →
   Ev (fun k=>bz.l1 k s (d.length:Int) d (pre++w++post) x10 (j:Int) g low) R:=by
 have hD0:=fC jm hd
 have done:∀ (g:Int) (w:List Int),0≤g→w.length=d.length+1→Dig B w→0≤W-g*val B d→W-g*val B d<val B d→val B w=W-g*val B d →
   Ev (fun k=>bz.l1 k s (d.length:Int) d (pre++w++post) x10 (j:Int) g false) R:=by
  intro g w g0 hw hdw t0 t1 hv;obtain⟨e1,e2⟩:=xN (a:=W) (y:=val B d) (q:=g) (t:=W-g*val B d) (by omega) t0 t1;have hn:=next w hw hdw (by rw[hv,e2]);rw[e1]at hn
  have hw1:ae (wrap64 ((j:Int)-1)=(j:Int)-1):=⟨w64 (by omega) (by omega)⟩
  refine Ev.step (fun k=>?_) hn;simp only[bz.l1];rw[if_neg (by decide),if_pos (by omega),if_pos (by omega),Int.toNat_natCast,hw1.out]
 have hw2:ae (wrap64 (wrap64 ((j:Int)+(d.length:Int))+1)=((j+(d.length+1):Nat):Int)):=⟨by rw[w64 (x:=(j:Int)+(d.length:Int)) (by omega) (by omega),w64 (by omega) (by omega)];omega⟩
 intro m
 induction m with
 | zero =>
  intro g w low hm g0 g1 hw hdw hlow ht hv
  obtain rfl:g=0:=by omega
  rw[Int.zero_mul,Int.sub_zero]at *
  have:low=false:=by
   cases low with
   | false=>rfl
   | true=>have:=hlow.1 rfl;omega
  subst this;refine done 0 w (Int.le_refl _) hw hdw (by rw[Int.zero_mul];omega) (by rw[Int.zero_mul];omega) ?_;rw[hv,Int.zero_mul];simp
 | succ m ih =>
  intro g w low hm g0 g1 hw hdw hlow ht hv
  cases low with
  | false =>
   have h0:0≤W-g*val B d:=by
    by_cases h:W-g*val B d<0
    ·have:=hlow.2 h;cases this
    ·omega
   refine done g w g0 hw hdw h0 ht ?_;rw[hv];simp
  | true =>
   have hneg:=hlow.1 rfl;rw[if_pos rfl,Int.mul_one]at hv
   have hg1:1≤g:=by
    by_cases h:g=0
    ·subst h;rw[Int.zero_mul]at hneg;omega
    ·omega
   obtain⟨x',c',h1,h2,h3,h4,h5,h6⟩:=acE hdw hd (by omega) hw;have hb0:=fC jm h3;have hb1:=kM jm h3;rw[h2]at hb1;have hdl:val B d<pw B (d.length+1):=Int.lt_of_lt_of_le (kM jm hd) (EL jm (by omega));have he:(g-1)*val B d=g*val B d-val B d:=uj _ _
   have hgw:ae (IntKind.u64.wrap (g-1)=g-1):=⟨by rw[ug]at g1;exact tV (by omega) (by omega)⟩
   have hc:c'=0∨c'=1:=by omega
   generalize pw B (d.length+1)=p at *
   have key:Ev (fun k=>bz.l1 k s (d.length:Int) d (pre++x' ++ post) x10 (j:Int) (g-1) (!decide (c' > 0))) R:=by
    refine ih (g-1) x' (!decide (c' > 0)) (by omega) (by omega) (by omega) h2 h3 ?_ (by omega) ?_
    ·rcases hc with rfl|rfl
     ·simp only[show decide ((0:Int) > 0)=false from rfl,Bool.not_false,true_iff];omega
     ·simp only[show decide ((1:Int) > 0)=true from rfl,Bool.not_true,Bool.false_eq_true,false_iff];omega
    ·rcases hc with rfl|rfl
     ·simp only[show decide ((0:Int) > 0)=false from rfl,Bool.not_false,if_true];omega
     ·simp only[show decide ((1:Int) > 0)=true from rfl,Bool.not_true,Bool.false_eq_true,if_false];omega
   refine Ev.step (f:=fun k=>(kX.f k w d).bind fun b=>bz.l1 k s (d.length:Int) d (pre++b.2++post) x10 (j:Int) (g-1) (!b.1)) (fun k=>?_) (Ev.bind h1 key);simp only[bz.l1];rw[if_pos trivial,if_pos (by omega),hw2.out,hgw.out,if_pos (by omega),if_pos (by simp only[List.length_append];omega),XW k hp hw (by omega)]
   cases kX.f k w d <;> rfl
theorem Og {w:List Int}{n:Nat}(h:Dig B w)(hl:w.length=n+1):val B w=val B (w.take n)+pw B n*w.getD n 0:=by
 have:=eF B w n;rw[← hl,List.take_length]at this;exact this
theorem QP {w d:List Int}{g:Int}{n:Nat}(hw:Dig B w)(hd:Dig B d)(hwl:w.length=n+3)(hdl:d.length=n+2)(hW:val B w<val B d*B)(g0:0≤g)
  (h:(w.getD (n+2) 0*B+w.getD (n+1) 0)*B+w.getD n 0<(g+1)*(d.getD (n+1) 0*B+d.getD n 0)∨g=B-1):val B w-g*val B d<val B d:=by
 have e:(g+1)*val B d=g*val B d+val B d:=by rw[Int.add_mul,Int.one_mul]
 rcases h with h|h
 ·have w1:=Og hw hwl
  rw[eF B w (n+1),eF B w n,eU,eU,eU]at w1;have d1:=Og hd hdl;rw[eF B d n,eU]at d1;have hp:=jQ jm n;have hwl:val B (w.take n)<pw B n:=Int.lt_of_lt_of_le (kM jm (hw.take n)) (EL jm (by rw[List.length_take];omega));have hdl0:=fC jm (hd.take n);generalize val B (w.take n)=wl at *;generalize val B (d.take n)=dl at *;generalize pw B n=p at *;have h2:((w.getD (n+2) 0*B+w.getD (n+1) 0)*B+w.getD n 0+1)*p≤(g+1)*(d.getD (n+1) 0*B+d.getD n 0)*p:=Int.mul_le_mul_of_nonneg_right (by omega) (by omega);have h3:0≤(g+1)*dl:=Int.mul_nonneg (by omega) hdl0
  have h4:val B w=wl+((w.getD (n+2) 0*B+w.getD (n+1) 0)*B+w.getD n 0)*p:=by rw[w1];grind
  have h5:(g+1)*val B d=(g+1)*dl+(g+1)*(d.getD (n+1) 0*B+d.getD n 0)*p:=by rw[d1];grind
  rw[Int.add_mul ((w.getD (n+2) 0*B+w.getD (n+1) 0)*B+w.getD n 0),Int.one_mul]at h2
  omega
 ·subst h
  rw[show B-1+1=B by omega,Int.mul_comm B]at e
  omega
theorem RJ {T W D Q b p g R A:Int}(hR:R=W-g*D)(hA:A=T+p*W+p*b*D*Q):A=T+p*R+p*D*(g+b*Q):=by grind
theorem ab3 {d:List Int}(hd:Dig B d){n:Nat}(hdl:d.length=n+2)(hL:d.length≤1073741824)(htop:0<d.getD (n+1) 0){s:Int}(L:Nat)(hL2:L≤1099511627775)(A:Int){R:List Int × List Int}
  (next:∀ x q,x.length=L→Dig B x→val B x<val B d→Dig B q→q.length+d.length=L→A=val B x+val B d*val B q→Ev (fun k=>bz.l2 k s (d.length:Int) x q (d.length:Int) 0) R) :
  ∀ (i:Nat) (x q:List Int),i+d.length≤L→x.length=L→Dig B x→Dig B q→q.length+d.length=L→val B (x.drop i)<val B d→A=val B x+pw B i*val B d*val B (q.drop i) →
   Ev (fun k=>bz.l0 k s (d.length:Int) d x q ((i:Int)-1)) R:=by
 intro i
 induction i with
 | zero =>
  intro x q hi hx hdx hdq hql hR hA;rw[List.drop_zero]at hR hA;rw[iU,Int.one_mul]at hA;refine Ev.step (fun k=>?_) (next x q hx hdx hR hdq hql hA);simp only[bz.l0];rw[if_neg (by omega)]
 | succ i ih =>
  intro x q hi hx hdx hdq hql hR hA
  have hi1:ae (((i+1:Nat):Int)-1=(i:Int)):=⟨by omega⟩
  obtain⟨w,hw⟩:∃ w,w=(x.take (i+(d.length+1))).drop i:=⟨_,rfl⟩
  obtain⟨post,hpost⟩:∃ post,post=x.drop (i+(d.length+1)):=⟨_,rfl⟩
  have hsplit:x.take i++w++post=x:=by
   have e:x.take i=(x.take (i+(d.length+1))).take i:=by rw[List.take_take,Nat.min_eq_left (by omega)]
   rw[hw,hpost,e,List.take_append_drop,List.take_append_drop]
  have hpre:(x.take i).length=i:=by rw[List.length_take];omega
  have hwl:w.length=d.length+1:=by rw[hw,List.length_drop,List.length_take];omega
  have hdw:Dig B w:=by rw[hw];exact (hdx.take _).drop _
  have hdp:Dig B post:=by rw[hpost];exact hdx.drop _
  have hwd:x.drop i=w++post:=by
   have:=NW (w:=w) (post:=post) hpre;rw[hsplit]at this;exact this
  have alH:x.drop (i+1)=w.drop 1++post:=by
   have:x.drop (i+1)=(x.drop i).drop 1:=by rw[List.drop_drop]
   rw[this,hwd,List.drop_append_of_le_length (by omega)]
  have hw1:=GX w 0;rw[List.drop_zero]at hw1;have hg0:=hdw.get jm 0;have hD0:=fC jm hd;have hDl:=kM jm hd;rw[alH,mO]at hR
  have aFr:(w.drop 1).length=d.length:=by rw[List.length_drop];omega
  rw[aFr]at hR;have hp0:=fC jm hdp;have aK8:=fC jm (hdw.drop 1);have hpn:=jQ jm d.length
  have hpz:val B post=0:=by
   by_cases h:1≤val B post
   ·have:pw B d.length*1≤pw B d.length*val B post:=Int.mul_le_mul_of_nonneg_left h (by omega)
    omega
   ·omega
  rw[hpz,Int.mul_zero,Int.add_zero]at hR;have hW0:0≤val B w:=fC jm hdw
  have hW1:val B w<val B d*B:=by
   have:B*(val B (w.drop (0+1))+1)≤B*val B d:=Int.mul_le_mul_of_nonneg_left (by rw[Nat.zero_add];omega) (Int.le_of_lt jm);rw[Int.mul_add,Int.mul_one,Int.mul_comm B (val B d)]at this
   omega
  have U8:=hd.get jm (n+1);obtain⟨g,hg,g0,g1,g2⟩:=agj (hdw.get jm (n+2)) (hdw.get jm (n+1)) (hdw.get jm n) ⟨htop,U8.2⟩ (hd.get jm n);have hgt:=QP hdw hd (by omega) hdl hW1 g0 g2;obtain⟨x',o',h1,h2,h3,h4,h5,h6⟩:=aaS hdw hd ⟨g0,g1⟩ (by omega) hwl;have hx0:=fC jm h3;have hx1:=kM jm h3;rw[h2]at hx1;have hwlt:=kM jm hdw;rw[hwl]at hwlt
  have ho:o'=0∨o'=1:=by omega
  have hgD:0≤g*val B d:=Int.mul_nonneg g0 hD0
  have hlow:decide (o' > 0)=true ↔ val B w-g*val B d<0:=by
   rw[decide_eq_true_iff];rcases ho with rfl|rfl
   ·rw[Int.mul_zero]at h6;omega
   ·rw[Int.mul_one]at h6;omega
  have key:Ev (fun k=>bz.l1 k s (d.length:Int) d (x.take i++x' ++ post) q (i:Int) g (decide (o' > 0))) R:=by
   refine abl hd hL (by omega) hpre (by omega) hW0 hW1 ?_ g.toNat g x' (decide (o' > 0)) (Nat.le_refl _) g0 g1 h2 h3 hlow hgt ?_
   ·intro w' hw' hdw' hvw'
    have aFs:=Int.emod_nonneg (val B w) (show val B d≠0 by intro h;rw[h]at hW1;omega);have as5:=Int.emod_lt_of_pos (val B w) (show 0<val B d by by_cases h:val B d=0;(rw[h]at hW1;omega);omega);have hdm:=Int.mul_ediv_add_emod (val B w) (val B d);have hq0:0≤val B w / val B d:=Int.ediv_nonneg hW0 hD0;have hq1:val B w / val B d<B:=Int.ediv_lt_of_lt_mul (by omega) (by rw[Int.mul_comm B];exact hW1);have aFt:(x.take i).length=i:=hpre;refine ih (x.take i++w' ++ post) (q.set i (val B w / val B d)) (by omega) ?_ (((hdx.take i).append hdw').append hdp) (hdq.set hq0 hq1) (by simpa using hql) ?_ ?_
    ·have:=congrArg List.length hsplit
     simp only[List.length_append]at this ⊢
     omega
    ·rw[NW hpre,mO,hpz,Int.mul_zero,Int.add_zero,hvw']
     exact as5
    ·rw[uK q i _ (by omega),jh,mO,hpz,Int.mul_zero,Int.add_zero,mO,hpre,hvw']
     have hvx:val B x=val B (x.take i)+pw B i*val B w:=by
      rw[y7 x i,hwd,mO,hpz,Int.mul_zero,Int.add_zero]
     rw[hvx,eU]at hA;exact RJ (by rw[Int.mul_comm];omega) hA
   ·rw[h6]
    rcases ho with rfl|rfl <;> simp
  have hwj:ae (wrap64 ((i:Int)+(d.length:Int))=((i+(n+2):Nat):Int)):=⟨by rw[w64 (by omega) (by omega)];omega⟩
  have aFu:ae (wrap64 (((i+(n+2):Nat):Int)-1)=((i+(n+1):Nat):Int)):=⟨by rw[w64 (by omega) (by omega)];omega⟩
  have aFv:ae (wrap64 (((i+(n+2):Nat):Int)-2)=((i+n:Nat):Int)):=⟨by rw[w64 (by omega) (by omega)];omega⟩
  have aFw:ae (wrap64 ((d.length:Int)-1)=((n+1:Nat):Int)):=⟨by rw[w64 (by omega) (by omega)];omega⟩
  have hwn2:ae (wrap64 ((d.length:Int)-2)=((n:Nat):Int)):=⟨by rw[w64 (by omega) (by omega)];omega⟩
  have hwp:ae (wrap64 (((i+(n+2):Nat):Int)+1)=((i+(d.length+1):Nat):Int)):=⟨by rw[w64 (by omega) (by omega)];omega⟩
  have hgw:∀ t,t<d.length+1→x.getD (i+t) 0=w.getD t 0:=by
   intro t ht;rw[hw,getD_drop,getD_take _ _ _ (by omega)]
  refine Ev.step (f:=fun k=>(bM.f k (w.getD (n+2) 0) (w.getD (n+1) 0) (w.getD n 0) (d.getD (n+1) 0) (d.getD n 0)).bind fun t=>(qH.f k x (i:Int) ((i+(d.length+1):Nat):Int) d t).bind fun b=>bz.l1 k s (d.length:Int) d b.2 q (i:Int) t b.1) (fun k=>?_) (Ev.bind hg ?_)
  ·simp only[bz.l0]
   rw[hi1.out,hwj.out,aFu.out,aFv.out,aFw.out,hwn2.out,hwp.out];rw[if_pos (by omega),if_pos (by omega),if_pos (by omega),if_pos (by omega),if_pos (by omega),if_pos (by omega),if_pos (by omega),if_pos (by omega),if_pos (by omega),if_pos (by omega),if_pos (by omega)];rw[eP,eP,eP,eP,eP,hgw _ (by omega),hgw _ (by omega),hgw _ (by omega)]
   congr 1
   funext t
   rw[if_pos (by omega),if_pos (by omega),if_pos (by omega)]
  ·refine Ev.congr (f:=fun k=>(kY.f k w d g).bind fun b=>bz.l1 k s (d.length:Int) d (x.take i++b.2++post) q (i:Int) g b.1) (fun k=>?_) (Ev.bind h1 key)
   have:=Ya k (pre:=x.take i) (w:=w) (post:=post) (d:=d) (q:=g) (j:=i) (n:=d.length+1) hpre hwl (by omega);rw[hsplit]at this;rw[this]
   cases kY.f k w d g <;> rfl
theorem aaH {M:Int}(hM:0≤M){s n:Nat}(hs:s<64)(hMn:M<pw B n)(q:List Int)(hdq:Dig B q)(hql:q.length≤1099511627776){len:Nat}(hnl:n≤len)(hL:len≤1099511627775):∀ (d i:Nat) (x:List Int),i+d=n→x.length=len→Dig B x→(∀ j,i≤j→j<n→x.getD j 0=M / pw B j % B)→val B (x.take i)=M / pw 2 s % pw B i →
  Ev (fun k=>bz.l2 k (s:Int) (n:Int) x q (n:Int) (i:Int)) (enc B (val B q),enc B (M / pw 2 s)):=by
 have hf:=jO s;have hfD:pw 2 s*pw 2 (64-s)=B:=AQ (by omega);have hg:=jO (64-s);have hMs:=Int.ediv_nonneg hM (Int.le_of_lt hf);intro d
 induction d with
 | zero =>
  intro i x hi hx hd hj hv
  obtain rfl:i=n:=by omega
  have hlt:M / pw 2 s<pw B i:=Int.lt_of_le_of_lt (Int.ediv_le_self _ hM) hMn;rw[Int.emod_eq_of_lt hMs hlt]at hv;have ht:=nV (hd.take i) (by rw[List.length_take];omega);rw[hv]at ht;refine Ev.step (f:=fun k=>(bG.f k q).bind fun t=>(bG.f k (x.take i)).bind fun u=>some (t,u)) (fun k=>?_) (Ev.bind (nV hdq hql) (Ev.bind ht (Ev.now _)));simp only[bz.l2];rw[if_neg (by omega)]
  congr 1
  funext t
  rw[if_pos (by omega),if_pos (by omega),Int.toNat_natCast]
 | succ d ih =>
  intro i x hi hx hd hj hv
  have hw1:ae (wrap64 ((i:Int)+1)=((i+1:Nat):Int)):=⟨by rw[w64 (by omega) (by omega)];omega⟩
  have hw2:ae (wrap64 (64-(s:Int))=((64-s:Nat):Int)):=⟨by rw[w64 (by omega) (by omega)];omega⟩
  have hlt:i<x.length:=by omega
  have hi1:i+1+d=n:=by omega
  have hMi:=gY jm hM i;have hsd:=Ci hf hg hMi;rw[hfD, ← lh jm]at hsd;have hcc:M / pw B i / pw 2 s=M / pw 2 s / pw B i:=vK (Int.le_of_lt (jQ jm i)) (Int.le_of_lt hf);rw[hcc]at hsd;have ai0:=Int.emod_nonneg (M / pw 2 s / pw B i) (show B≠0 by have:=B1;omega);have U8:=Int.emod_lt_of_pos (M / pw 2 s / pw B i) jm
  have key:=ih (i+1) (x.set i (M / pw 2 s / pw B i % B)) hi1 (by simpa using hx) (hd.set ai0 U8) (fun j hj' hj2=>by rw[qB _ _ _ _ (by omega)];exact hj j (by omega) hj2) (by
   rw[qZ B x i _ hlt,hv, ← qJ jm hMs i,Int.mul_comm (pw B i)];omega)
  have a0:=Int.emod_nonneg (M / pw B i) (show B≠0 by have:=B1;omega);have a1:=Int.emod_lt_of_pos (M / pw B i) jm;have q0:0≤M / pw B i % B / pw 2 s:=Int.ediv_nonneg a0 (Int.le_of_lt hf);have q1:M / pw B i % B / pw 2 s<pw 2 (64-s):=Int.ediv_lt_of_lt_mul hf (by rw[Int.mul_comm,hfD];exact a1);have q2:M / pw B i % B / pw 2 s≤M / pw B i % B:=Int.ediv_le_self _ a0
  by_cases hn:0<s∧i+1<n
  ·have c0:=Int.emod_nonneg (M / pw B (i+1) % B) (show pw 2 s≠0 by omega)
   have p0:0≤M / pw B (i+1) % B % pw 2 s*pw 2 (64-s):=Int.mul_nonneg c0 (Int.le_of_lt hg);rw[hsd]at key U8
   have hor:Go.bits .or .u64 (M / pw B i % B / pw 2 s) (M / pw B (i+1) % B % pw 2 s*pw 2 (64-s))=M / pw B i % B / pw 2 s+M / pw B (i+1) % B % pw 2 s*pw 2 (64-s):=by
    rw[Gn q0 (by omega) p0 (by omega),Hw p0 (Int.mul_emod_left _ _) (by omega) q0 q1 (by omega),Int.add_comm]
   have hsh:shl .u64 (M / pw B (i+1) % B) ((64-s:Nat):Int)=M / pw B (i+1) % B % pw 2 s*pw 2 (64-s):=by
    rw[xM _ (by omega), ← hfD];exact KO hg
   refine Ev.step (f:=fun k=>bz.l2 k (s:Int) (n:Int) (x.set i (M / pw B i % B / pw 2 s+M / pw B (i+1) % B % pw 2 s*pw 2 (64-s))) q (n:Int) ((i+1:Nat):Int)) (fun k=>?_) key;simp only[bz.l2];rw[hw1.out,hw2.out,if_pos (by omega),if_pos (by omega),if_pos (by omega),if_pos (by omega)];simp only[Option.bind_some];rw[if_pos (by omega),if_pos (by omega),if_pos (by omega),if_pos (by omega),if_pos (by omega),eP,eP,eP,Int.toNat_natCast,rq _ _ _ hlt,qB _ _ _ _ (by omega),hj i (by omega) (by omega),hj (i+1) (by omega) (by omega),vU _ (by omega),hsh,hor,List.set_set]
  ·have hz:M / pw B (i+1) % B % pw 2 s=0:=by
    by_cases h0:0<s
    ·have:M / pw B (i+1)=0:=by
      rw[show i+1=n by omega];exact Int.ediv_eq_zero_of_lt hM hMn
     rw[this,Int.zero_emod,Int.zero_emod]
    ·rw[show s=0 by omega,iU,Int.emod_one]
   rw[hz,Int.zero_mul,Int.add_zero]at hsd;rw[hsd]at key;refine Ev.step (f:=fun k=>bz.l2 k (s:Int) (n:Int) (x.set i (M / pw B i % B / pw 2 s)) q (n:Int) ((i+1:Nat):Int)) (fun k=>?_) key;simp only[bz.l2];rw[hw1.out,if_pos (by omega),if_pos (by omega),if_pos (by omega),if_pos (by omega)];simp only[Option.bind_some]
   by_cases h0:0<s
   ·rw[if_pos (by omega),if_neg (by omega),eP,Int.toNat_natCast,hj i (by omega) (by omega),vU _ (by omega)]
   ·rw[if_neg (by omega),eP,Int.toNat_natCast,hj i (by omega) (by omega),vU _ (by omega)]
theorem aaF {A C:Int}(hC:0<C)(hCA:C≤A)(hn:2≤(enc B C).length)(hLA:(enc B A).length≤1073741823):Ev (fun k=>bz.f k (enc B A) (enc B C)) (enc B (A / C),enc B (A % C)):=by
 have hA:0≤A:=by omega
 have hAp:0<A:=by omega
 obtain⟨n1,hn1,hg1,ht0,ht1⟩:=yR B1 hC
 obtain⟨n,rfl⟩:∃ n,n1=n+1:=⟨n1-1,by omega⟩
 have hAl:=kM jm (fO B1 A);rw[fB B1 hA]at hAl;have hcl:pw B ((enc B C).length-1)≤C:=F7 B1 hC;rw[hn1,Nat.add_sub_cancel]at hcl
 have hmn:(enc B C).length≤(enc B A).length:=by
  by_cases h:(enc B A).length<(enc B C).length
  ·have:=yT B1 hA (Int.le_of_lt hC) h;omega
  ·omega
 generalize htop:C / pw B (n+1)=top at *;obtain⟨m1,m2,m3,m4⟩:=Zx ht0 ht1;have hlz:=afF (Int.le_of_lt ht0) ht1
 have hbl:top<pw 2 (bl top):=by
  have h1:=Int.mul_ediv_add_emod top (pw 2 (bl top));have h2:=Int.emod_lt_of_pos top (jO (bl top));have h3:top / pw 2 (bl top)=0:=Ak aaV (by omega);rw[h3,Int.mul_zero]at h1
  omega
 have hpb:pw 2 (bl top)*pw 2 (64-bl top)=B:=AQ m4
 have hs:64-bl top<64:=by omega
 generalize 64-bl top=s at *;have hP:=jO s;have hP1:1≤pw 2 s:=hP;obtain⟨d1,dl,dd,dv,de⟩:=CE (fO B1 C) (s:=s) hs (by omega);obtain⟨r1,rl,rd',rv,re⟩:=CE (fO B1 A) (s:=s) hs (by omega);rw[fB B1 (Int.le_of_lt hC)]at dv;rw[fB B1 hA]at rv;have hp1:=jQ jm (n+1)
 have aK9:C≤C*pw 2 s:=by
  have:C*1≤C*pw 2 s:=Int.mul_le_mul_of_nonneg_left hP1 (by omega)
  omega
 -- the divisor, lifted, has no limb more
 have aFx:C*pw 2 s<pw B (n+2):=by
  have h1:=Int.mul_ediv_add_emod C (pw B (n+1));have h2:=Int.emod_lt_of_pos C hp1;rw[htop]at h1
  have h3:C<pw B (n+1)*(top+1):=by rw[Int.mul_add,Int.mul_one];omega
  have h4:C*pw 2 s<pw B (n+1)*(top+1)*pw 2 s:=Int.mul_lt_mul_of_pos_right h3 hP;have h5:(top+1)*pw 2 s≤pw 2 (bl top)*pw 2 s:=Int.mul_le_mul_of_nonneg_right (by omega) (by omega);rw[hpb]at h5;have h6:pw B (n+1)*((top+1)*pw 2 s)≤pw B (n+1)*B:=Int.mul_le_mul_of_nonneg_left h5 (by omega);rw[← Int.mul_assoc, ← eU,show n+1+1=n+2 from rfl]at h6
  omega
 have hdt:(d1.take (n+2)).length=n+2:=by rw[List.length_take];omega
 have hdv:val B (d1.take (n+2))=C*pw 2 s:=by
  have h1:=y7 d1 (n+2);have h2:=fC jm (dd.take (n+2));have h3:=fC jm (dd.drop (n+2));have hp2:=jQ jm (n+2)
  by_cases h4:1≤val B (d1.drop (n+2))
  ·have:pw B (n+2)*1≤pw B (n+2)*val B (d1.drop (n+2)):=Int.mul_le_mul_of_nonneg_left h4 (by omega)
   omega
  ·rw[show val B (d1.drop (n+2))=0 by omega,Int.mul_zero,Int.add_zero,dv]at h1
   exact h1.symm
 have hdtop:0<(d1.take (n+2)).getD (n+1) 0:=by
  rw[NC (dd.take (n+2)),hdv];have h1:1≤C*pw 2 s / pw B (n+1):=(Int.le_ediv_iff_mul_le hp1).2 (by omega);have h2:C*pw 2 s / pw B (n+1)<B:=Int.ediv_lt_of_lt_mul hp1 (by rw[Int.mul_comm B, ← eU];exact aFx);rw[Int.emod_eq_of_lt (by omega) h2]
  omega
 -- the upper limbs of what is divided are below it
 have hup:val B (r1.drop ((enc B A).length+1-(n+2)))<C*pw 2 s:=by
  have h1:=y7 r1 ((enc B A).length+1-(n+2));have h2:=fC jm (rd'.take ((enc B A).length+1-(n+2)));have hpi:=jQ jm ((enc B A).length+1-(n+2))
  have h3:pw B (enc B A).length=pw B ((enc B A).length+1-(n+2))*pw B (n+1):=by rw[← qG];congr 1;omega
  have h4:A*pw 2 s<pw B (enc B A).length*pw 2 s:=Int.mul_lt_mul_of_pos_right hAl hP;have h5:pw B (n+1)*pw 2 s≤C*pw 2 s:=Int.mul_le_mul_of_nonneg_right hcl (by omega);have h6:pw B ((enc B A).length+1-(n+2))*(pw B (n+1)*pw 2 s)≤pw B ((enc B A).length+1-(n+2))*(C*pw 2 s):=Int.mul_le_mul_of_nonneg_left h5 (by omega);rw[h3,Int.mul_assoc]at h4;refine Int.lt_of_mul_lt_mul_left (a:=pw B ((enc B A).length+1-(n+2))) ?_ (by omega)
  omega
 have hmain:Ev (fun k=>bz.l0 k (s:Int) ((d1.take (n+2)).length:Int) (d1.take (n+2)) r1 (List.replicate ((enc B A).length+1-(n+2)) 0) ((((enc B A).length+1-(n+2):Nat):Int)-1)) (enc B (A / C),enc B (A % C)):=by
  refine ab3 (dd.take (n+2)) hdt (by omega) hdtop ((enc B A).length+1) (by omega) (A*pw 2 s) ?_ ((enc B A).length+1-(n+2)) r1 _ (by omega) rl rd' (Dig.zeros jm _) (by rw[List.length_replicate];omega) (by rw[hdv];exact hup) ?_
  ·intro x q hx hdx hlt hdq hql hA2
   rw[hdv]at hlt hA2;have hx0:=fC jm hdx;have hq0:=fC jm hdq;have hxd:=Int.mul_ediv_add_emod (val B x) (pw 2 s)
   have hxm:val B x % pw 2 s=0:=by
    have e:val B x=(A-C*val B q)*pw 2 s:=by rw[Int.sub_mul,hA2];grind
    rw[e,Int.mul_emod_left]
   rw[hxm,Int.add_zero]at hxd
   have e1:A*pw 2 s=(val B q*C+val B x / pw 2 s)*pw 2 s:=by rw[hA2];grind
   have e2:A=val B q*C+val B x / pw 2 s:=Int.eq_of_mul_eq_mul_right (by omega) e1;have hr0:=Int.ediv_nonneg hx0 (Int.le_of_lt hP);have hr1:val B x / pw 2 s<C:=Int.ediv_lt_of_lt_mul hP hlt;obtain⟨f1,f2⟩:=xN e2 hr0 hr1;rw[f1,f2,hdt];refine aaH hx0 hs (by omega) q hdq (by omega) (len:=(enc B A).length+1) (by omega) (by omega) (n+2) 0 x (by omega) hx hdx (fun j _ _=>NC hdx j) ?_;rw[List.take_zero,mX,iU,Int.emod_one]
  ·rw[List.drop_replicate,vS,Int.mul_zero,Int.add_zero,rv]
 rw[hdt]at hmain
 have hw:ae (wrap64 (((n+2:Nat):Int)-1)=((n+1:Nat):Int)):=⟨by rw[w64 (by omega) (by omega)];omega⟩
 have hw2:ae (wrap64 ((((enc B A).length+1:Nat):Int)-((n+2:Nat):Int))=(((enc B A).length+1-(n+2):Nat):Int)):=⟨by rw[w64 (by omega) (by omega)];omega⟩
 have hw3:ae (wrap64 ((((enc B A).length+1-(n+2):Nat):Int)-1)=(((enc B A).length+1-(n+2):Nat):Int)-1):=⟨w64 (by omega) (by omega)⟩
 have hC2:(enc B C).length=n+2:=hn1;refine Ev.congr (fun k=>by unfold bz.f;rw[hC2,hw.out,if_pos (by omega),if_pos (by omega),eP,hg1]) (Ev.bind hlz ?_);refine Ev.bind de ?_;refine Ev.congr (fun k=>by rw[if_pos (by omega),if_pos (by omega)]) (Ev.bind re ?_);refine Ev.congr (fun k=>?_) hmain;rw[rl,hw2.out,if_pos (by omega),Int.toNat_natCast,if_pos (by omega)];simp only[Option.bind_some,List.length_replicate];rw[hw3.out,Int.toNat_natCast]
theorem ab5 {a b:List Int}(ha:Dig B a)(hb:Dig B b)(hLa:a.length≤1073741823)(hLb:b.length≤1073741823)(h0:0<val B b):Ev (fun k=>xW.f k a b) (enc B (val B a / val B b),enc B (val B a % val B b),none):=by
 have hA:=fC jm ha;have la:=nI B1 ha;have lb:=nI B1 hb;refine Ev.congr (fun k=>by unfold xW.f;rfl) (Ev.bind (nV ha (by omega)) (Ev.bind (nV hb (by omega)) ?_));generalize val B a=A at *;generalize val B b=C at *;obtain⟨n,hn,hg,t0,t1⟩:=yR B1 h0
 by_cases h1:n=0
 ·subst h1
  rw[fH]at hg t0 t1;have hd:=fO B1 A;have hs:=XZ hd (by omega) h0 t1;rw[fB B1 hA]at hs;have hr0:=Int.emod_nonneg A (show C≠0 by omega);have hr1:=Int.emod_lt_of_pos A h0;refine Ev.congr (f:=fun k=>(iY.f k (enc B A) C).bind fun b=>(uk.f k b.2).bind fun t=>some (b.1,t,none)) (fun k=>?_) (Ev.bind hs (Ev.bind (ZB hr0 (by omega)) (Ev.now _)));rw[if_neg (by omega),if_pos (by omega),if_pos (by omega),show rd (enc B C) 0=(enc B C).getD 0 0 from eP _ 0,hg]
 ·have hc:=ab9 (fO B1 A) (fO B1 C) (by omega) (by omega)
  rw[fB B1 hA,fB B1 (Int.le_of_lt h0)]at hc;refine Ev.congr (fun k=>by rw[if_neg (by omega),if_neg (by omega)]) (Ev.bind hc ?_)
  by_cases h2:A<C
  ·rw[Int.ediv_eq_zero_of_lt hA h2,Int.emod_eq_of_lt hA h2,eQ]
   refine Ev.congr (f:=fun _=>some ([],enc B A,none)) (fun k=>?_) (Ev.now _);rw[if_pos (NU.2 h2),if_pos (by simp only[List.length_nil];omega)]
   rfl
  ·refine Ev.congr (fun k=>by rw[if_neg (fun h=>h2 (NU.1 h))]) (Ev.bind (aaF h0 (by omega) (by omega) (by omega)) (Ev.now _))
end Go.Proofs.Yy.PTx
end
section
namespace Go.Proofs.Yy.PTx
open Go.RowKit Go.Proofs.Yw.PrintWords Go.Proofs.Yw.PrintLast Go.Proofs.Yw.PrintMore Go.Proofs.Yy.M Go.Proofs.Yy.TA Go.Proofs.Yy.NM
attribute [local irreducible] fK iD iV jY val
theorem QV (n:Nat):pw 2 n=((2 ^ n:Nat):Int):=by rw[ui,Int.natCast_pow];rfl
theorem abD {V b:Nat}(h1:V<2 ^ b)(h2:b≠0→2 ^ (b-1)≤V):bl (V:Int)=b:=by
 apply Nat.le_antisymm
 ·exact Py (by rw[QV];exact_mod_cast h1)
 ·by_cases h:b=0
  ·omega
  ·have:=(abh (A:=(V:Int)) (by omega) (b-1)).2 (by rw[QV];exact_mod_cast Nat.div_pos (h2 h) (two_pos _))
   omega
theorem agA (t:Nat):hiI (t*2 ^ 64)=(t:Int):=by unfold hiI;rw[Nat.mul_div_cancel _ (two_pos _)]
theorem agy (t:Nat):loI (t*2 ^ 64)=0:=by unfold loI;rw[Nat.mul_mod_left];rfl
theorem NJ {V b:Nat}(hb1:1≤b)(h1:V<2 ^ b)(h2:2 ^ (b-1)≤V):V / 2 ^ (b-64)<2 ^ min b 64∧2 ^ (min b 64-1)≤V / 2 ^ (b-64):=by
 have e1:2 ^ b=2 ^ min b 64*2 ^ (b-64):=by rw[← Nat.pow_add];congr 1;omega
 have e2:2 ^ (b-1)=2 ^ (min b 64-1)*2 ^ (b-64):=by rw[← Nat.pow_add];congr 1;omega
 rw[e1]at h1;rw[e2]at h2;exact⟨(Nat.div_lt_iff_lt_mul (two_pos _)).2 h1,(Nat.le_div_iff_mul_le (two_pos _)).2 h2⟩
def Ku (V b:Nat):Nat:=V / 2 ^ (b-64)*2 ^ 64*2 ^ (64-min b 64)
theorem SG (V b:Nat):Ku V b / 2 ^ 64=V / 2 ^ (b-64)*2 ^ (64-min b 64)∧Ku V b % 2 ^ 64=0:=by
 have e:Ku V b=V / 2 ^ (b-64)*2 ^ (64-min b 64)*2 ^ 64:=by unfold Ku;rw[Nat.mul_right_comm]
 rw[e];exact⟨Nat.mul_div_cancel _ (two_pos _),Nat.mul_mod_left _ _⟩
theorem xO {V b:Nat}(hb1:1≤b)(h1:V<2 ^ b)(h2:2 ^ (b-1)≤V):2 ^ 127≤Ku V b∧Ku V b<2 ^ 128:=by
 obtain⟨q1,q2⟩:=NJ hb1 h1 h2
 have e1:(2:Nat) ^ 128=2 ^ min b 64*2 ^ 64*2 ^ (64-min b 64):=by rw[← Nat.pow_add, ← Nat.pow_add];congr 1;omega
 have e2:(2:Nat) ^ 127=2 ^ (min b 64-1)*2 ^ 64*2 ^ (64-min b 64):=by rw[← Nat.pow_add, ← Nat.pow_add];congr 1;omega
 unfold Ku;rw[e1,e2];exact⟨Nat.mul_le_mul_right _ (Nat.mul_le_mul_right _ q2),Nat.mul_lt_mul_of_pos_right (Nat.mul_lt_mul_of_pos_right q1 (two_pos _)) (two_pos _)⟩
theorem Np {a:List Int}(ha:Dig B a)(hL:a.length≤1073741824){V b:Nat}(hV:val B a=(V:Int))(hb1:1≤b)(h1:V<2 ^ b)(h2:2 ^ (b-1)≤V)(neg c:Bool)(hc:c=true→64≤b)(hbb:b≤500000){x:Int}(hx1 : -400000≤x)(hx2:x≤400000) :
  Ev (fun k=>nK.f k neg a x c) (1,neg,x+b-1,hiI (Ku V b),loI (Ku V b),(c || decide (V % 2 ^ (b-64)≠0)),none):=by
 obtain⟨q1,q2⟩:=NJ hb1 h1 h2
 have hu:under (val B a) 64=b-64:=by unfold under;rw[hV,abD h1 (fun _=>h2)]
 have ht:=ack ha hL 64 (by decide) (Nat.le_refl _);rw[hu,hV,QV]at ht
 have e1:((V:Int) / ((2 ^ (b-64):Nat):Int)) % B=((V / 2 ^ (b-64):Nat):Int):=by
  rw[← Int.natCast_ediv,ug];have:V / 2 ^ (b-64)<2 ^ 64:=Nat.lt_of_lt_of_le q1 (Nat.pow_le_pow_right (by omega) (Nat.min_le_right _ _));rw[p64]at this
  obtain⟨y,hy⟩:∃ y,V / 2 ^ (b-64)=y:=⟨_,rfl⟩
  rw[hy]at this ⊢;clear hy q1 q2 h1 h2
  omega
 have e2:decide ((V:Int) % ((2 ^ (b-64):Nat):Int)≠0)=decide (V % 2 ^ (b-64)≠0):=by
  rw[← Int.natCast_emod];exact decide_eq_decide.2 (by omega)
 rw[e1,e2]at ht
 have hmk:∀ c':Bool,(c'=true→min b 64=64)→Ev (fun k=>dM.f k neg ((V / 2 ^ (b-64):Nat):Int) 0 (x+((b-64:Nat):Int)-64) c') (1,neg,x+b-1,hiI (Ku V b),loI (Ku V b),c',none):=by
  intro c' hc'
  have h:=Rn (V:=V / 2 ^ (b-64)*2 ^ 64) (b:=min b 64+64) (by omega) (by omega) (by rw[Nat.pow_add];exact Nat.mul_lt_mul_of_pos_right q1 (two_pos _))
   (by rw[show min b 64+64-1=(min b 64-1)+64 by omega,Nat.pow_add];exact Nat.mul_le_mul_right _ q2) neg c' (fun h=>by have:=hc' h;omega) (x:=x+((b-64:Nat):Int)-64) (by omega) (by omega)
  rw[agA,agy,show x+((b-64:Nat):Int)-64+((min b 64+64:Nat):Int)-1=x+b-1 by omega,show 128-(min b 64+64)=64-min b 64 by omega]at h;exact h
 unfold nK.f;refine Ev.bind ht ?_;simp only[Option.isNone_none,if_true];rw[qh (x:=x+((b-64:Nat):Int)) (by omega) (by omega),qh (by omega) (by omega)]
 by_cases hs:V % 2 ^ (b-64)≠0
 ·have hb64:min b 64=64:=by
   apply Nat.min_eq_right
   apply Nat.le_of_not_lt
   intro h;rw[show b-64=0 by omega,Nat.pow_zero,Nat.mod_one]at hs;exact hs rfl
  rw[decide_eq_true hs,Bool.or_true];simp only[if_true];exact Ev.bind (hmk true (fun _=>hb64)) (Ev.now _)
 ·rw[decide_eq_false hs,Bool.or_false]
  simp only[Bool.false_eq_true,if_false];exact Ev.bind (hmk c (fun h=>by have:=hc h;omega)) (Ev.now _)
end Go.Proofs.Yy.PTx
end
section
namespace Go.Proofs.Yy.PTx
open Go.RowKit Go.Proofs.Yw.PrintWords Go.Proofs.Yw.PrintLast Go.Proofs.Yw.PrintMore Go.Proofs.Yy.M Go.Proofs.Yy.TA
open Go.Proofs.Yy.SC (D)
theorem abz {N C u q r b:Nat}(hC:0<C)(hq:N*2 ^ u=C*q+r)(hr:r<C)(hb1:1≤b)(h1:q<2 ^ b)(h2:2 ^ (b-1)≤q)(h:r≠0→64≤b) :
  Rep N C (-(u:Int)+b-1) (Ku q b / 2 ^ 64) ((decide (r≠0) || decide (q % 2 ^ (b-64)≠0)) || decide (Ku q b % 2 ^ 64≠0)):=by
 rw[(SG q b).1,(SG q b).2,show -(u:Int)+b-1=(b:Int)-1-u by omega]
 by_cases hb:64≤b
 ·have e:=Rep.ofQ hC hq hr h2 h1 hb
  rw[Nat.min_eq_right hb,Nat.sub_self,Nat.pow_zero,Nat.mul_one];rw[Bool.or_comm]at e
  simpa using e
 ·have hr0:r=0:=by
   apply Classical.byContradiction
   intro h3;exact hb (h h3)
  subst hr0;have e:=Rep.ofE hC (by rw[hq,Nat.add_zero]) h2 h1 hb1 (by omega);rw[show b-64=0 by omega,Nat.pow_zero,Nat.mod_one,Nat.div_one,Nat.min_eq_left (by omega)]
  simpa using e
theorem Oy {n N C u q r b:Nat}(hn:8≤n)(hn2:n≤64)(hC:0<C)(hq:N*2 ^ u=C*q+r)(hr:r<C)(hb1:1≤b)(h1:q<2 ^ b)(h2:2 ^ (b-1)≤q)(h:r≠0→64≤b) :
  Ny n (-(u:Int)+b-1) (Ku q b) (decide (r≠0) || decide (q % 2 ^ (b-64)≠0))=pos n (scl N C) N C:=by
 have e:=abz hC hq hr hb1 h1 h2 h;rw[Ot hn hn2 (xO hb1 h1 h2).1 e,TT e]
theorem NZ {n:Nat}(hn:8≤n)(hn2:n≤64)(T:Nat)(c:Bool):Ny n 1000 T c=2 ^ (n-1)-1∧Ny n (-1000) T c=1:=by
 have:=top_le hn2
 have h8:0≤top n:=by unfold top;omega
 unfold Ny;exact⟨by rw[if_pos (by omega)],by rw[if_neg (by omega),if_pos (by omega)]⟩
theorem GI:∀ (l:List UInt8) (a:Nat),(∀ c ∈ l,48≤c.toNat∧c.toNat≤57)→l.foldl (fun a c=>a*10+(c.toNat-48)) a<(a+1)*10 ^ l.length
 | [],a,_=>by simp
 | c::l,a,h=>by
  have h1:=h c (List.mem_cons_self ..);have ih:=GI l (a*10+(c.toNat-48)) (fun x hx=>h x (List.mem_cons_of_mem _ hx));rw[List.foldl_cons,List.length_cons,Nat.pow_succ];refine Nat.lt_of_lt_of_le ih ?_;rw[Nat.mul_comm (10 ^ l.length) 10, ← Nat.mul_assoc];exact Nat.mul_le_mul_right _ (by omega)
theorem RY:∀ (l:List UInt8) (a:Nat),a*10 ^ l.length≤l.foldl (fun a c=>a*10+(c.toNat-48)) a
 | [],a=>by simp
 | c::l,a=>by
  have ih:=RY l (a*10+(c.toNat-48));rw[List.foldl_cons,List.length_cons,Nat.pow_succ];refine Nat.le_trans ?_ ih;rw[Nat.mul_comm (10 ^ l.length) 10, ← Nat.mul_assoc];exact Nat.mul_le_mul_right _ (by omega)
theorem yQ {c:UInt8}{l:List UInt8}(hc:49≤c.toNat):10 ^ l.length≤xx (c::l):=by
 have h:=RY l (0*10+(c.toNat-48));unfold xx;rw[List.foldl_cons];refine Nat.le_trans ?_ h;exact Nat.le_mul_of_pos_left _ (by omega)
theorem Jp {n:Nat}(hn:n≤64){d:D}{c:UInt8}{l:List UInt8}(hd:d.ds=c::l)(hc:49≤c.toNat)(h:(101:Int)≤d.ds.length+d.e):QF n d=2 ^ (n-1)-1:=by
 unfold QF;refine WU hn (uD d) ?_;have h1:=yQ (l:=l) hc;rw[← hd]at h1
 have hl:d.ds.length=l.length+1:=by rw[hd];rfl
 have aFy:(2:Nat) ^ 248≤10 ^ 100:=by decide +kernel
 unfold Ad JK
 have e1:10 ^ 100*10 ^ (-d.e).toNat≤10 ^ l.length*10 ^ d.e.toNat:=by
  rw[← Nat.pow_add, ← Nat.pow_add];exact Nat.pow_le_pow_right (by decide) (by omega)
 exact Nat.le_trans (Nat.mul_le_mul_right _ aFy) (Nat.le_trans e1 (Nat.mul_le_mul_right _ h1))
theorem Nv {n:Nat}(hn1:2≤n)(hn:n≤64){d:D}{c:UInt8}{l:List UInt8}(hd:d.ds=c::l)(hc:49≤c.toNat)(hg:∀ c ∈ d.ds,48≤c.toNat∧c.toNat≤57)(h:d.ds.length+d.e ≤ -101):QF n d=1:=by
 have h1:=yQ (l:=l) hc;rw[← hd]at h1;have h2:=GI d.ds 0 hg;rw[Nat.zero_add,Nat.one_mul]at h2;have h3:xx d.ds<10 ^ d.ds.length:=h2;have hp:=Nat.pow_pos (a:=10) (n:=l.length) (by decide)
 have aFz:(2:Nat) ^ 249≤10 ^ 101:=by decide +kernel
 unfold QF;refine abC hn1 hn ?_ ?_
 ·unfold Ad
  exact Nat.mul_pos (by omega) (Nat.pow_pos (by decide))
 ·unfold Ad JK
  rw[show d.e.toNat=0 by omega,Nat.pow_zero,Nat.mul_one]
  have e1:10 ^ d.ds.length*10 ^ 101≤10 ^ (-d.e).toNat:=by
   rw[← Nat.pow_add];exact Nat.pow_le_pow_right (by decide) (by omega)
  exact Nat.le_trans (Nat.mul_le_mul (Nat.le_of_lt h3) aFz) e1
end Go.Proofs.Yy.PTx
end
section
namespace Go.Proofs.Yy.PTx
open Go.RowKit Go.Proofs.Yw.PrintWords Go.Proofs.Yw.PrintLast Go.Proofs.Yw.PrintMore Go.Proofs.Yy.M Go.Proofs.Yy.TA Go.Proofs.Yy.SC
theorem Xh (m:Nat)(h:m≤63):∀ n i:Nat,i+n=m→Ev (fun k=>bK.l0 k (m:Int) ((2 ^ i:Nat):Int) (i:Int)) ((2 ^ m:Nat):Int):=by
 intro n
 induction n with
 | zero =>
  intro i hi
  obtain rfl:i=m:=by omega
  refine Ev.step (f:=fun _=>some ((2 ^ i:Nat):Int)) (fun k=>?_) (Ev.now _);simp only[bK.l0];rw[if_neg (by omega)]
 | succ n ih =>
  intro i hi;have h1:2 ^ (i+1)<2 ^ 64:=Nat.pow_lt_pow_right (by omega) (by omega)
  have e:IntKind.u64.wrap (2*((2 ^ i:Nat):Int))=((2 ^ (i+1):Nat):Int):=by
   rw[IntKind.wrap_u64];rw[Nat.pow_succ]at h1 ⊢
   omega
  refine Ev.step (f:=fun k=>bK.l0 k (m:Int) ((2 ^ (i+1):Nat):Int) ((i+1:Nat):Int)) (fun k=>?_) (ih (i+1) (by omega));simp only[bK.l0];rw[if_pos (by omega),e,qh (by omega) (by omega)]
  rfl
theorem NY {n:Nat}(hw:Wd n):Ev (fun k=>bK.f k (wrap64 ((n:Int)-1))) ((2 ^ (n-1):Nat):Int):=by
 obtain⟨h8,h64⟩:=hw.bounds;rw[qh (by omega) (by omega),show ((n:Int)-1)=((n-1:Nat):Int) by omega];exact Xh (n-1) (by omega) (n-1) 0 (by omega)
theorem ZX (w v:Nat):bs (w+1) v=EP (v / 2 ^ w)::bs w v:=by
 have h:=yY 1 (v / 2 ^ w) w v;rw[Nat.mul_comm,Nat.div_add_mod,Nat.add_comm]at h;rw[← h];rfl
theorem KT (l:List UInt8):strOfNums (l.map fun c=>(c.toNat:Int))=mkB l:=by
 unfold strOfNums mkB;rw[List.map_map]
 congr 2
 conv=>rhs;rw[← List.map_id l]
 exact List.map_congr_left fun c _=>by simp
theorem SN (p:Nat)(hp:p<2 ^ 64):∀ (j:Nat) (acc:List UInt8),acc.length+j≤64 →
  Ev (fun k=>aY.l0 k (p:Int) (acc.map fun c=>(c.toNat:Int)) ((j:Int)-1)) (mkB (acc++bs j p)):=by
 intro j
 induction j with
 | zero =>
  intro acc h;refine Ev.step (f:=fun _=>some (mkB (acc++bs 0 p))) (fun k=>?_) (Ev.now _);simp only[aY.l0];rw[if_neg (by omega),KT];unfold bs;rw[List.append_nil]
 | succ j ih =>
  intro acc h
  have hb:(48+(Int.tmod (shr .u64 (p:Int) (j:Int)) 2)) % 256=((EP (p / 2 ^ j)).toNat:Int):=by
   rw[Ac p j hp,Dw,Int.tmod_eq_emod_of_nonneg (Int.natCast_nonneg _)]
   omega
  refine Ev.step (f:=fun k=>aY.l0 k (p:Int) ((acc ++ [EP (p / 2 ^ j)]).map fun c=>(c.toNat:Int)) ((j:Int)-1)) (fun k=>?_) ?_
  ·simp only[aY.l0]
   rw[show (((j+1:Nat):Int)-1)=(j:Int) by omega,if_pos (by omega),if_pos (by omega),if_pos (by rw[List.length_map];omega),hb,qh (by omega) (by omega),List.map_append]
   rfl
  ·have:=ih (acc ++ [EP (p / 2 ^ j)]) (by rw[List.length_append,List.length_singleton];omega)
   rw[List.append_assoc,List.singleton_append, ← ZX]at this;exact this
theorem yL (p:Nat)(hp:p<2 ^ 64)(n:Nat)(hn:n≤64):Ev (fun k=>aY.f k (p:Int) (n:Int)) (mkB (bs n p)):=by
 have h:=SN p hp n [] (by simp;exact hn);refine Ev.congr (fun k=>?_) h;unfold aY.f;rw[qh (by omega) (by omega)]
 rfl
theorem agq (l:List UInt8)(h:∀ c ∈ l,c=48∨c=49):num l<2 ^ l.length:=by
 obtain⟨m,hm⟩:∃ m,m=l.length:=⟨_,rfl⟩
 induction m generalizing l with
 | zero=>obtain rfl:l=[]:=List.length_eq_zero_iff.1 hm.symm;decide
 | succ m ih =>
  rcases List.eq_nil_or_concat l with rfl|⟨q,c,rfl⟩
  ·decide
  ·rw[List.concat_eq_append]at *
   have hq:q.length=m:=by rw[List.length_append,List.length_singleton]at hm;omega
   have h1:=ih q (fun x hx=>h x (List.mem_append_left _ hx)) hq.symm;have h2:=h c (by simp);rw[Ha,List.length_append,List.length_singleton,Nat.pow_succ]
   have:c.toNat-48≤1:=by rcases h2 with rfl|rfl <;> decide
   omega
theorem Td (w:Nat):∀ v:Nat,∀ c ∈ bs w v,c=48∨c=49:=by
 induction w with
 | zero=>intro v c hc;simp[bs]at hc
 | succ w ih =>
  intro v c hc;rw[bs]at hc;rcases List.mem_append.1 hc with hc|hc
  ·exact ih _ c hc
  ·rw[List.mem_singleton]at hc
   subst hc;unfold EP
   have:v % 2=0∨v % 2=1:=by omega
   rcases this with h|h <;> rw[h]
   ·left;rfl
   ·right;rfl
theorem Jg (l:List UInt8)(h:∀ c ∈ l,c=48∨c=49)(hl:l.length≤64):∀ n i:Nat,i+n=l.length→Ev (fun k=>bu.l0 k (mkB l) ((num (l.take i):Nat):Int) (i:Int)) ((num l:Nat):Int):=by
 intro n
 induction n with
 | zero =>
  intro i hi;refine Ev.step (f:=fun _=>some ((num l:Nat):Int)) (fun k=>?_) (Ev.now _);simp only[bu.l0];rw[if_neg (by rw[bH];omega),List.take_of_length_le (by omega)]
 | succ n ih =>
  intro i hi
  have hi2:i<l.length:=by omega
  have ht:l.take (i+1)=l.take i ++ [l[i]]:=by rw[List.take_append_getElem]
  have hb:=agq (l.take (i+1)) (fun c hc=>h c (List.mem_of_mem_take hc));rw[List.length_take,show min (i+1) l.length=i+1 by omega]at hb;have hb2:2 ^ (i+1)≤2 ^ 64:=Nat.pow_le_pow_right (by decide) (by omega);have hc:=h l[i] (List.getElem_mem hi2);have hbt:=Bv hi2
  have hcv:((l[i].toNat:Int)-48) % 256=((l[i].toNat-48:Nat):Int)∧l[i].toNat-48≤1:=by rcases hc with e|e <;> rw[e] <;> decide
  have e:IntKind.u64.wrap ((IntKind.u64.wrap (2*((num (l.take i):Nat):Int)))+(((bt (mkB l) (i:Int))-48) % 256))=((num (l.take (i+1)):Nat):Int):=by
   rw[hbt,hcv.1];rw[ht,Ha]at hb ⊢;rw[p64]at hb2;rw[IntKind.wrap_u64,IntKind.wrap_u64];have:=hcv.2
   omega
  refine Ev.step (f:=fun k=>bu.l0 k (mkB l) ((num (l.take (i+1)):Nat):Int) ((i+1:Nat):Int)) (fun k=>?_) (ih (i+1) (by omega));simp only[bu.l0];rw[if_pos (by rw[bH];omega),if_pos (by omega),e,qh (by omega) (by omega)]
  rfl
theorem acd {n:Nat}(hw:Wd n):gu.f (n:Int)=some true:=by
 rcases hw with rfl|rfl|rfl|rfl <;> rfl
theorem ace {n:Nat}(hw:Wd n)(p:Nat)(hp:p<2 ^ 64):Ev (fun k=>iO.f k (n:Int) (p:Int)) ((p % 2 ^ n:Nat):Int):=by
 obtain⟨h8,h64⟩:=hw.bounds;have h1:=yL p hp n h64;have h2:=Jg (bs n p) (Td n p) (by rw[bs_len];exact h64) n 0 (by rw[bs_len];omega);rw[ZV]at h2;refine Ev.congr (f:=fun k=>((aY.f k (p:Int) (n:Int)).bind fun akk=>((bu.f k akk).bind fun alP=>(some (alP,(0:Int))))).bind fun as6=>some as6.1) (fun k=>?_) ?_
 ·unfold iO.f kD.f
  rw[acd hw]
  rfl
 ·refine Ev.bind (a:=(((p % 2 ^ n:Nat):Int),(0:Int))) ?_ (Ev.now _)
  refine Ev.bind h1 ?_;refine Ev.bind (a:=((p % 2 ^ n:Nat):Int)) (g:=fun k=>bu.f k (mkB (bs n p))) ?_ (Ev.now _);refine Ev.congr (fun k=>?_) h2;unfold bu.f
  rfl
theorem QT (l:List UInt8)(h:∀ c ∈ l,c=48∨c=49)(hl:l.length≤64):Ev (fun k=>bu.f k (mkB l)) ((num l:Nat):Int):=by
 have h2:=Jg l h hl l.length 0 (by omega);exact Ev.congr (fun k=>by unfold bu.f;rfl) h2
theorem Um {n p:Nat}(hn:1≤n):(p / 2 ^ (n-1) % 2=1) ↔ 2 ^ (n-1)≤p % 2 ^ n:=by
 have hpw:2 ^ n=2 ^ (n-1)*2:=by rw[← Nat.pow_succ];congr 1;omega
 have e:p / 2 ^ (n-1) % 2=p % 2 ^ n / 2 ^ (n-1):=by rw[hpw,Nat.mod_mul_right_div_self]
 have hlt:p % 2 ^ n<2 ^ n:=Nat.mod_lt _ (two_pos _);have hp:=two_pos (n-1)
 obtain⟨K,hK⟩:∃ K,2 ^ (n-1)=K:=⟨_,rfl⟩
 rw[e];rw[hK]at hpw hp ⊢;rw[hpw]at hlt
 constructor
 ·intro h
  apply Nat.le_of_not_lt
  intro h2;rw[Nat.div_eq_of_lt h2]at h
  omega
 ·intro h
  have h1:p % 2 ^ n / K<2:=by rw[Nat.div_lt_iff_lt_mul hp];omega
  have h2:1≤p % 2 ^ n / K:=by rw[Nat.le_div_iff_mul_le hp];omega
  omega
theorem Nw {n p:Nat}(hn:1≤n):bs n p=EP (p / 2 ^ (n-1))::bs (n-1) p:=by
 have h:=ZX (n-1) p
 rwa [show n-1+1=n by omega]at h
theorem XU {n p:Nat}(hn:1≤n):(bt (mkB (bs n p)) 0=49) ↔ 2 ^ (n-1)≤p % 2 ^ n:=by
 rw[Nw hn,Nr,Dw, ← Um hn]
 omega
theorem QZ {n p:Nat}(hn:1≤n):(mkB (bs n p)).extract 1 (mkB (bs n p)).size=mkB (bs (n-1) p):=by
 rw[BP,Nw hn];rfl
theorem Sr (l:List UInt8)(hl:l.length≤9223372036854775806):∀ d i:Nat,i+d=l.length→Ev (fun k=>bU.l0 k (mkB l) (i:Int)) ((l.drop i).contains 49):=by
 intro d
 induction d with
 | zero =>
  intro i hi;refine Ev.step (f:=fun _=>some ((l.drop i).contains 49)) (fun k=>?_) (Ev.now _);simp only[bU.l0];rw[if_neg (by rw[bH];omega),List.drop_of_length_le (by omega)]
  rfl
 | succ d ih =>
  intro i hi
  have hx:i<l.length:=by omega
  have hd:l.drop i=l[i]::l.drop (i+1):=List.drop_eq_getElem_cons hx
  by_cases h:l[i]=49
  ·refine Ev.step (f:=fun _=>some ((l.drop i).contains 49)) (fun k=>?_) (Ev.now _)
   simp only[bU.l0];rw[if_pos (by rw[bH];omega),if_pos (by omega),Bv hx,if_pos (by rw[h];rfl),hd,h]
   rfl
  ·refine Ev.step (f:=fun k=>bU.l0 k (mkB l) ((i+1:Nat):Int)) (fun k=>?_) ?_
   ·simp only[bU.l0]
    have e49:(49:UInt8).toNat=49:=rfl;have hne:¬ ((l[i].toNat:Int)=49):=fun e=>h (UInt8.toNat_inj.1 (by omega));rw[if_pos (by rw[bH];omega),if_pos (by omega),Bv hx,if_neg hne,qh (by omega) (by omega)]
    rfl
   ·have:=ih (i+1) (by omega)
    rw[hd,List.contains_cons]
    rwa [show ((49:UInt8) == l[i])=false from beq_eq_false_iff_ne.2 (fun e=>h e.symm),Bool.false_or]
theorem I9 (l:List UInt8)(hl:l.length≤1000):Ev (fun k=>bU.f k (mkB l)) (l.contains 49):=by
 have h:=Sr l (by omega) l.length 0 (by omega);exact Ev.congr (fun k=>by unfold bU.f;rfl) h
theorem TZ (L y:Nat)(hL:1≤L)(hL2:L≤900)(c:Bool):Ev (fun k=>bg.f k (mkB (bs L y)) c) ((lft (y % 2 ^ L) (2 ^ (L-1)) c:Nat):Int):=by
 have hlen:=bs_len L y
 have hne:(mkB (bs L y)).toList≠([]:List UInt8):=by
  rw[qj];intro e;rw[e]at hlen;simp at hlen;omega
 have hsz:(mkB (bs L y)).size=L:=by rw[bH,hlen]
 have hsome:=I9 (bs (L-1) y) (by rw[bs_len];omega);rw[Zp]at hsome;have htop:=Um (n:=L) (p:=y) hL;have hf:=XU (n:=L) (p:=y) hL
 have hpw:2 ^ L=2 ^ (L-1)*2:=by rw[← Nat.pow_succ];congr 1;omega
 have hr:y % 2 ^ L=2 ^ (L-1)*(y / 2 ^ (L-1) % 2)+y % 2 ^ (L-1):=by
  rw[hpw,Nat.mod_mul,Nat.add_comm]
 have hm:=Nat.mod_lt y (two_pos (L-1));have h01:y / 2 ^ (L-1) % 2<2:=Nat.mod_lt _ (by decide)
 obtain⟨H,hH⟩:∃ H,2 ^ (L-1)=H:=⟨_,rfl⟩
 obtain⟨r,hre⟩:∃ r,y % 2 ^ L=r:=⟨_,rfl⟩
 obtain⟨m,hme⟩:∃ m,y % 2 ^ (L-1)=m:=⟨_,rfl⟩
 obtain⟨q,hq⟩:∃ q,y / 2 ^ (L-1) % 2=q:=⟨_,rfl⟩
 rw[hre,hme,hq,hH]at hr;rw[hme,hH]at hm;rw[hq]at h01;rw[hq]at htop;rw[hH,hre]at htop hf;rw[hme]at hsome;rw[hre,hH];refine Ev.congr (f:=fun k=>bg.j0 k (mkB (bs L y)) c) (fun k=>by unfold bg.f;rw[if_neg hne]) ?_;refine Ev.step (f:=fun k=>(bU.f k (mkB (bs (L-1) y))).bind fun Qo=>(if (bt (mkB (bs L y)) 0)=49 then (if Qo=true then (bg.j1 k (mkB (bs L y)) c Qo true) else (bg.j1 k (mkB (bs L y)) c Qo c)) else (bg.j1 k (mkB (bs L y)) c Qo false))) (fun k=>?_) ?_
 ·simp only[bg.j0]
  rw[if_pos (by rw[hsz];omega),QZ hL]
  have h0:0<((mkB (bs L y)).size:Int):=by rw[hsz];omega
  simp only[if_pos h0]
 refine Ev.bind hsome ?_
 have hj1:∀ x11:Bool,Ev (fun k=>bg.j1 k (mkB (bs L y)) c (decide (m≠0)) x11) (if x11=true then 3 else if H≤r then 2 else if m≠0∨c=true then 1 else 0):=by
  intro x11;refine Ev.step (f:=fun _=>some (if x11=true then 3 else if H≤r then 2 else if m≠0∨c=true then 1 else 0)) (fun k=>?_) (Ev.now _);simp only[bg.j1]
  by_cases h3:x11=true
  ·rw[if_pos h3,if_pos h3]
  ·rw[if_neg h3,if_neg h3,if_pos (by rw[hsz];omega)]
   by_cases h4:H≤r
   ·rw[if_pos (hf.2 h4),if_pos h4]
   ·rw[if_neg (fun e=>h4 (hf.1 e)),if_neg h4]
    by_cases h5:m=0
    ·simp[h5]
     cases c <;> rfl
    ·simp[h5]
 by_cases h4:H≤r
 ·have hq1:=htop.2 h4
  simp only[if_pos (hf.2 h4)]
  by_cases h5:m=0
  ·simp only[show ¬ (decide (m≠0)=true) by simp[h5],if_false]
   have:=hj1 c;rw[if_pos h4,show decide (m≠0)=false by simp[h5]]at this;unfold lft;rw[if_neg (by rw[hr,hq1,h5];omega),if_pos (by rw[hr,hq1,h5];omega)]
   cases c
   ·simpa using this
   ·simpa using this
  ·simp only[show decide (m≠0)=true by simp[h5],if_true]
   have:=hj1 true;rw[if_pos rfl]at this;unfold lft;rw[if_pos (by rw[hr,hq1];omega)]
   simpa [h5] using this
 ·simp only[if_neg (show ¬ bt (mkB (bs L y)) 0=49 from fun e=>h4 (hf.1 e))]
  have:=hj1 false;rw[if_neg (by decide),if_neg h4]at this
  have hq0:q=0:=by
   have:¬ q=1:=fun e=>h4 (htop.1 e)
   omega
  have hrm:r=m:=by rw[hr,hq0];omega
  unfold lft;rw[if_neg (by omega),if_neg (by omega),hrm]
  have e:(m≠0∨c=true) ↔ (0<m∨c=true):=by constructor <;> (intro h;rcases h with h|h;exact .inl (by omega);exact .inr h)
  by_cases h6:0<m∨c=true
  ·rw[if_pos (e.2 h6)]at this
   rw[if_pos h6];exact this
  ·rw[if_neg (fun h=>h6 (e.1 h))]at this
   rw[if_neg h6];exact this
theorem Rk {s:Int}(h1 : -1000≤s)(h2:s≤1000):iJ.f s=some (s / 4):=by
 have ht:Int.tdiv s 4=if 0≤s then s / 4 else -((-s) / 4):=by
  by_cases h:0≤s
  ·rw[if_pos h,Int.tdiv_eq_ediv_of_nonneg h]
  ·rw[if_neg h]
   have e:s = -(-s):=by omega
   conv=>lhs;rw[e]
   rw[Int.neg_tdiv,Int.tdiv_eq_ediv_of_nonneg (by omega)]
 unfold iJ.f
 obtain⟨k,hk⟩:∃ k,Int.tdiv s 4=k:=⟨_,rfl⟩
 rw[hk]at ht ⊢
 have hb : -251≤k∧k≤251:=by split at ht <;> omega
 rw[qh (x:=k) (by omega) (by omega),qh (x:=4*k) (by omega) (by omega)]
 by_cases h:4*k > s
 ·rw[if_pos h,qh (by omega) (by omega)]
  congr 1
  split at ht <;> omega
 ·rw[if_neg h]
  congr 1
  split at ht <;> omega
theorem NF (l:List UInt8)(c:UInt8)(n:Int)(h:(c.toNat:Int)=n):(l.map fun c=>(c.toNat:Int)) ++ [n]=(l ++ [c]).map fun c=>(c.toNat:Int):=by
 rw[List.map_append, ← h];rfl
theorem Nz {s:Int}(h1 : -1000≤s)(h2:s≤1000)(l:List UInt8)(hl:l.length≤1000)(i:Int)(hi:¬ i > s / 4) :
  Ev (fun k=>aG.l1 k s (s / 4) (l.map fun c=>(c.toNat:Int)) i) (mkB (l ++ [if 0≤s / 4 then 48 else 49]++bs 2 (s % 4).toNat)):=by
 have he:IntKind.u64.wrap (wrap64 (s-wrap64 (4*(s / 4))))=((s % 4).toNat:Int):=by
  rw[qh (x:=4*(s / 4)) (by omega) (by omega),qh (by omega) (by omega),IntKind.wrap_u64];omega
 have ht:=yL (s % 4).toNat (by have:(s % 4).toNat<4:=(by omega);rw[p64];omega) 2 (by decide);have hsz:∀ m:List UInt8,(mkB m).size=m.length:=bH
 by_cases hk:0≤s / 4
 ·refine Ev.step (f:=fun k=>(aY.f k ((s % 4).toNat:Int) ((2:Nat):Int)).bind fun axP=>(if (mkB (l ++ [48])).size+axP.size≤9223372036854775807 then some (mkB (l ++ [48])++axP) else none)) (fun k=>?_) ?_
  ·simp only[aG.l1]
   rw[if_neg hi,if_pos hk,if_pos (by rw[List.length_map];omega),NF l 48 48 rfl,Option.bind_some,KT,he]
   rfl
  ·refine Ev.bind ht ?_
   rw[if_pos (by rw[hsz,hsz,bs_len,List.length_append];simp;omega),rH,if_pos hk];exact Ev.now _
 ·refine Ev.step (f:=fun k=>(aY.f k ((s % 4).toNat:Int) ((2:Nat):Int)).bind fun axQ=>(if (mkB (l ++ [49])).size+axQ.size≤9223372036854775807 then some (mkB (l ++ [49])++axQ) else none)) (fun k=>?_) ?_
  ·simp only[aG.l1]
   rw[if_neg hi,if_neg hk,if_pos (by rw[List.length_map];omega),NF l 49 49 rfl,Option.bind_some,KT,he]
   rfl
  ·refine Ev.bind ht ?_
   rw[if_pos (by rw[hsz,hsz,bs_len,List.length_append];simp;omega),rH,if_neg hk];exact Ev.now _
theorem S9 {s:Int}(h1 : -1000≤s)(h2:s≤1000):Ev (fun k=>aG.f k s) (mkB (bs (TA.hL s) (hV s))):=by
 have hstr:bs (TA.hL s) (hV s)=(if 0≤s / 4 then List.replicate ((s / 4).toNat+1) 49 else List.replicate (-(s / 4)).toNat 48) ++ [if 0≤s / 4 then 48 else 49]++bs 2 (s % 4).toNat:=by
  have hb:(s % 4).toNat % 2 ^ 2=(s % 4).toNat:=Nat.mod_eq_of_lt (by omega);have ha:=yY (SK s) (ZY s) 2 (s % 4).toNat;rw[hb]at ha;unfold TA.hL hV;rw[show (4:Nat)=2 ^ 2 from rfl, ← ha]
  congr 1
  unfold SK ZY
  by_cases hk:0≤s / 4
  ·rw[if_pos hk,if_pos hk,if_pos hk,if_pos hk]
   obtain⟨j,hj⟩:∃ j,(s / 4).toNat=j:=⟨_,rfl⟩
   rw[hj];have hp2:=two_pos (j+1);rw[aa6,show j+2=(j+1)+1 by omega,bs,show (2 ^ (j+1+1)-2) / 2=2 ^ (j+1)-1 by rw[Nat.pow_succ];omega]
   congr 1
   unfold EP;rw[show (2 ^ (j+1+1)-2) % 2=0 by rw[Nat.pow_succ];omega]
   rfl
  ·rw[if_neg hk,if_neg hk,if_neg hk,if_neg hk,ab6]
   rfl
 have ups:0≤s / 4→∀ d i:Nat,(i:Int)+d=s / 4+1→Ev (fun k=>aG.l0 k s (s / 4) ((List.replicate i (49:UInt8)).map fun c=>(c.toNat:Int)) (i:Int)) (mkB (bs (TA.hL s) (hV s))):=by
  intro hk d
  induction d with
  | zero =>
   intro i hi;have he:=Nz h1 h2 (List.replicate i 49) (by rw[List.length_replicate];omega) 0 (by omega)
   have e:bs (TA.hL s) (hV s)=List.replicate i 49 ++ [if 0≤s / 4 then 48 else 49]++bs 2 (s % 4).toNat:=by
    rw[hstr,if_pos hk,if_pos hk,show (s / 4).toNat+1=i by omega]
   rw[← e]at he;refine Ev.step (fun k=>?_) he;simp only[aG.l0];rw[if_neg (by omega)]
  | succ d ih =>
   intro i hi;refine Ev.step (fun k=>?_) (ih (i+1) (by omega));simp only[aG.l0];rw[if_pos (by omega),if_pos (by rw[List.length_map,List.length_replicate];omega),NF (List.replicate i 49) 49 49 rfl, ← List.replicate_succ',qh (by omega) (by omega)]
   rfl
 have dns:¬ 0≤s / 4→∀ d i:Nat,(i:Int)+d = -(s / 4)→Ev (fun k=>aG.l1 k s (s / 4) ((List.replicate i (48:UInt8)).map fun c=>(c.toNat:Int)) (-(i:Int))) (mkB (bs (TA.hL s) (hV s))):=by
  intro hk d
  induction d with
  | zero =>
   intro i hi;have he:=Nz h1 h2 (List.replicate i 48) (by rw[List.length_replicate];omega) (-(i:Int)) (by omega)
   have e:bs (TA.hL s) (hV s)=List.replicate i 48 ++ [if 0≤s / 4 then 48 else 49]++bs 2 (s % 4).toNat:=by
    rw[hstr,if_neg hk,if_neg hk,show (-(s / 4)).toNat=i by omega]
   rw[← e]at he;exact he
  | succ d ih =>
   intro i hi;refine Ev.step (fun k=>?_) (ih (i+1) (by omega));simp only[aG.l1];rw[if_pos (by omega),if_pos (by rw[List.length_map,List.length_replicate];omega),NF (List.replicate i 48) 48 48 rfl, ← List.replicate_succ',qh (by omega) (by omega),show -(i:Int)-1 = -((i+1:Nat):Int) by omega]
 unfold aG.f;rw[Rk h1 h2];simp only[Option.bind_some]
 by_cases hk:0≤s / 4
 ·obtain⟨j,hj⟩:=Int.eq_ofNat_of_zero_le hk
  exact ups hk (j+1) 0 (by omega)
 ·obtain⟨j,hj⟩:=Int.eq_ofNat_of_zero_le (show 0 ≤ -(s / 4) by omega)
  refine Ev.step (fun k=>?_) (dns hk j 0 (by omega));simp only[aG.l0];rw[if_neg (by omega)]
  rfl
theorem Fg {T:Nat}(h1:2 ^ 127≤T)(h2:T<2 ^ 128):T % 2 ^ 127=T-2 ^ 127:=by
 have e:(2:Nat) ^ 128=2 ^ 127+2 ^ 127:=by rw[← Nat.mul_two, ← Nat.pow_succ]
 rw[e]at h2
 obtain⟨H,hH⟩:∃ H:Nat,2 ^ 127=H:=⟨_,rfl⟩
 rw[hH]at h1 h2 ⊢;rw[Nat.mod_eq_sub_mod h1,Nat.mod_eq_of_lt (by omega)]
theorem XA {n:Nat}(hw:Wd n)(neg:Bool){s:Int}(hs1 : -1000000≤s)(hs2:s≤1000000){T:Nat}(hT1:2 ^ 127≤T)(hT2:T<2 ^ 128)(rest:Bool) :
  Ev (fun k=>ay.f k (n:Int) 1 neg s (hiI T) (loI T) rest) (((oV n s T rest).1:Int),((oV n s T rest).2:Int),0):=by
 obtain⟨h8,h64⟩:=hw.bounds;obtain⟨g1,g2⟩:=Z5 hT1 hT2
 have hso:iE.f 1 neg s (hiI T) (loI T) rest=some true:=by
  unfold iE.f;rw[if_neg (by decide),if_neg (by decide),if_pos rfl,if_pos g1,if_pos (by omega),decide_eq_true (by omega)]
 have hhi:T / 2 ^ 64<2 ^ 64:=by rw[Nat.div_lt_iff_lt_mul (two_pos _), ← Nat.pow_add];exact hT2
 have hlo:T % 2 ^ 64<2 ^ 64:=Nat.mod_lt _ (two_pos _);have t1:=yL (T / 2 ^ 64) hhi 64 (by decide);have t2:=yL (T % 2 ^ 64) hlo 64 (by decide)
 have hdig:mkB (bs 63 (T / 2 ^ 64))++mkB (bs 64 (T % 2 ^ 64))=mkB (bs 127 T):=by
  rw[rH,yY,Nat.mod_mod,Nat.mul_comm,Nat.div_add_mod]
 have hsz:(mkB (bs 127 T)).size=127:=by rw[bH,bs_len]
 have hsome:=I9 (bs 127 T) (by rw[bs_len];decide);rw[Zp]at hsome;have hTm:=Fg hT1 hT2;have ht:(4*(n:Int)-8)=top n:=rfl
 have htop:wrap64 (wrap64 (4*(n:Int))-8)=top n:=by rw[qh (x:=4*(n:Int)) (by omega) (by omega),qh (by omega) (by omega)];rfl
 have htn:top n=4*(n:Int)-8:=rfl;have hneg:wrap64 (-(top n)) = -top n:=qh (by omega) (by omega)
 -- the way behind the digits
 have hj1:∀ x73:Bool,(x73=true→s < -top n∨(s = -top n∧T=2 ^ 127∧rest=false))→(x73=false→¬ (s < -top n∨(s = -top n∧T=2 ^ 127∧rest=false)))→¬ top n≤s→(x73=false → -1000≤s∧s≤1000) →
   Ev (fun k=>ay.j1 k (n:Int) (mkB (bs 127 T)) x73 1 neg s (hiI T) (loI T) rest) (((oV n s T rest).1:Int),((oV n s T rest).2:Int),0):=by
  intro x73 hx1 hx2 hnt hb
  cases x73
  ·obtain⟨b1,b2⟩:=hb rfl
   have hPQ:oV n s T rest=(BV n s 127 T,I4 n s 127 T rest):=by unfold oV;rw[if_neg hnt,if_neg (hx2 rfl)]
   rw[hPQ];have hh:=S9 b1 b2;have hL4:=TU s
   have hLb:TA.hL s≤300:=by unfold TA.hL SK;split <;> omega
   have hX:zU s 127 T=hV s*2 ^ 127+T % 2 ^ 127:=by unfold zU;rw[hTm]
   have hcat:mkB (bs (TA.hL s) (hV s))++mkB (bs 127 T)=mkB (bs (TA.hL s+127) (zU s 127 T)):=by rw[rH,yY,hX]
   have hcl:TA.hL s+127=n-1+xG n s 127:=by unfold xG;omega
   have hsz2:(mkB (bs (TA.hL s+127) (zU s 127 T))).size=TA.hL s+127:=by rw[bH,bs_len]
   have hXlt:zU s 127 T<2 ^ (n-1+xG n s 127):=by
    rw[← hcl,Nat.pow_add,hX];have h1:=Ye s;have h2:=Nat.mod_lt T (two_pos 127);have h3:(hV s+1)*2 ^ 127≤2 ^ TA.hL s*2 ^ 127:=Nat.mul_le_mul_right _ h1;rw[Nat.add_mul,Nat.one_mul]at h3
    omega
   have hPlt:BV n s 127 T<2 ^ (n-1):=by
    unfold BV;rw[Nat.div_lt_iff_lt_mul (two_pos _), ← Nat.pow_add];exact hXlt
   have hw1:wrap64 ((n:Int)-1)=((n-1:Nat):Int):=by rw[qh (by omega) (by omega)];omega
   have e1:(mkB (bs (TA.hL s+127) (zU s 127 T))).extract 0 (n-1)=mkB (bs (n-1) (BV n s 127 T)):=by
    rw[BR _ _ (by rw[bs_len];omega),aa0 _ _ _ (by omega)];unfold BV;rw[show TA.hL s+127-(n-1)=xG n s 127 by unfold xG;omega]
   have e2:(mkB (bs (TA.hL s+127) (zU s 127 T))).extract (n-1) (mkB (bs (TA.hL s+127) (zU s 127 T))).size=mkB (bs (xG n s 127) (zU s 127 T)):=by
    rw[BP,aaJ _ _ _ (by omega),show TA.hL s+127-(n-1)=xG n s 127 by unfold xG;omega]
   have hn:=QT (bs (n-1) (BV n s 127 T)) (Td _ _) (by rw[bs_len];omega);rw[ZV,Nat.mod_eq_of_lt hPlt]at hn;have hl:=TZ (xG n s 127) (zU s 127 T) (by unfold xG;omega) (by unfold xG;omega) rest;refine Ev.step (f:=fun k=>(aG.f k s).bind fun aax=>(if aax.size+(mkB (bs 127 T)).size≤9223372036854775807 then (if 0≤(wrap64 ((n:Int)-1)) then (if (wrap64 ((n:Int)-1))≤((aax++(mkB (bs 127 T))).size:Int) then ((bu.f k ((aax++(mkB (bs 127 T))).extract 0 ((wrap64 ((n:Int)-1)):Int).toNat)).bind fun Gm=>((bg.f k ((aax++(mkB (bs 127 T))).extract ((wrap64 ((n:Int)-1)):Int).toNat (aax++(mkB (bs 127 T))).size) rest).bind fun aki=>(some (Gm,aki,0)))) else (none)) else (none)) else (none))) (fun k=>?_) ?_
   ·simp only[ay.j1,Bool.false_eq_true,if_false]
   ·refine Ev.bind hh ?_
    simp only[hcat,hw1,Int.toNat_natCast,e1,e2]
    have c1:(mkB (bs (TA.hL s) (hV s))).size+(mkB (bs 127 T)).size≤9223372036854775807:=by rw[hsz,bH,bs_len];omega
    have c2:((n-1:Nat):Int)≤((mkB (bs (TA.hL s+127) (zU s 127 T))).size:Int):=by rw[hsz2];omega
    simp only[if_pos c1,if_pos (Int.natCast_nonneg (n-1)),if_pos c2];exact Ev.bind hn (Ev.bind hl (Ev.now _))
  ·have hPQ:oV n s T rest=(1,0):=by unfold oV;rw[if_neg hnt,if_pos (hx1 rfl)]
   rw[hPQ];refine Ev.step (f:=fun _=>some (1,0,0)) (fun k=>?_) (Ev.now _);simp only[ay.j1,if_true]
 have hj0:∀ x11:Bool,(x11=true ↔ T=2 ^ 127∧rest=false)→Ev (fun k=>ay.j0 k (n:Int) (mkB (bs 127 T)) x11 1 neg s (hiI T) (loI T) rest) (((oV n s T rest).1:Int),((oV n s T rest).2:Int),0):=by
  intro x11 hx
  by_cases c1:top n≤s
  ·have hPQ:oV n s T rest=(2 ^ (n-1)-1,0):=by unfold oV;rw[if_pos c1]
   rw[hPQ];have hp:=NY hw;have hlt:2 ^ (n-1)<2 ^ 64:=Nat.pow_lt_pow_right (by decide) (by omega);have hp0:=two_pos (n-1)
   have hsub:IntKind.u64.wrap (((2 ^ (n-1):Nat):Int)-1)=((2 ^ (n-1)-1:Nat):Int):=by
    rw[IntKind.wrap_u64];rw[p64]at hlt
    omega
   refine Ev.step (f:=fun k=>(bK.f k (wrap64 ((n:Int)-1))).bind fun akj=>some (IntKind.u64.wrap (akj-1),(0:Int),(0:Int))) (fun k=>?_) ?_
   ·simp only[ay.j0]
    rw[htop,if_pos c1]
   ·refine Ev.bind hp ?_
    rw[hsub];exact Ev.now _
  ·by_cases c2:s < -top n
   ·refine Ev.step (fun k=>?_) (hj1 true (fun _ => .inl c2) (fun h=>by cases h) c1 (fun h=>by cases h))
    simp only[ay.j0];rw[htop,if_neg c1,hneg,if_pos c2]
   ·by_cases c3:s = -top n
    ·refine Ev.step (fun k=>?_) (hj1 x11 (fun h => .inr ⟨c3,hx.1 h⟩) (fun h a=>by
      rcases a with a|a
      ·exact c2 a
      ·rw[hx.2 a.2]at h;cases h) c1 (fun _=>by omega))
     simp only[ay.j0];rw[htop,if_neg c1,hneg,if_neg c2,if_pos c3]
    ·refine Ev.step (fun k=>?_) (hj1 false (fun h=>by cases h) (fun _ a=>by
      rcases a with a|a
      ·exact c2 a
      ·exact c3 a.1) c1 (fun _=>by omega))
     simp only[ay.j0];rw[htop,if_neg c1,hneg,if_neg c2,if_neg c3]
 unfold ay.f;rw[acd hw,hso];simp only[Option.bind_some,if_true];have hi1:hiI T=((T / 2 ^ 64:Nat):Int):=rfl;have lo1:loI T=((T % 2 ^ 64:Nat):Int):=rfl;refine Ev.bind (a:=mkB (bs 64 (T / 2 ^ 64))) t1 ?_
 have s64:∀ x:Nat,((mkB (bs 64 x)).size:Int)=64:=fun x=>by rw[bH,bs_len];rfl
 simp only[if_pos (show 1≤((mkB (bs 64 (T / 2 ^ 64))).size:Int) by rw[s64];decide)];refine Ev.bind (a:=mkB (bs 64 (T % 2 ^ 64))) t2 ?_;have htail:(mkB (bs 64 (T / 2 ^ 64))).extract 1 (mkB (bs 64 (T / 2 ^ 64))).size=mkB (bs 63 (T / 2 ^ 64)):=QZ (n:=64) (by decide);simp only[htail,hdig];simp only[if_pos (show (mkB (bs 63 (T / 2 ^ 64))).size+(mkB (bs 64 (T % 2 ^ 64))).size≤9223372036854775807 by rw[bH,bH,bs_len,bs_len];decide)]
 cases rest
 ·simp only[Bool.false_eq_true,if_false]
  refine Ev.bind hsome ?_;refine hj0 _ ?_;rw[hTm]
  constructor
  ·intro h
   refine⟨?_,rfl⟩
   have:¬ (T-2 ^ 127≠0):=by simpa using h
   omega
  ·intro h
   simp[h.1]
 ·simp only[if_true]
  exact hj0 false ⟨fun h=>(by cases h),fun h=>(by cases h.2)⟩
theorem Pq {n:Nat}(hw:Wd n)(neg:Bool){s:Int}(hs1 : -1000000≤s)(hs2:s≤1000000){T:Nat}(hT1:2 ^ 127≤T)(hT2:T<2 ^ 128)(rest:Bool)(hP:(oV n s T rest).1<2 ^ (n-1)) :
  Ev (fun k=>dm.f k (n:Int) 1 neg s (hiI T) (loI T) rest) ((sgn n neg (Ny n s T rest):Nat):Int):=by
 obtain⟨h8,h64⟩:=hw.bounds;have hc:=XA hw neg hs1 hs2 hT1 hT2 rest;rw[← JO h8 h64]
 obtain⟨P,hPe⟩:∃ P,(oV n s T rest).1=P:=⟨_,rfl⟩
 obtain⟨Q,hQe⟩:∃ Q,(oV n s T rest).2=Q:=⟨_,rfl⟩
 rw[hPe,hQe]at hc ⊢;rw[hPe]at hP;have hlt:2 ^ (n-1)<2 ^ 64:=Nat.pow_lt_pow_right (by decide) (by omega)
 have hpw:2 ^ n=2*2 ^ (n-1):=by rw[show n=(n-1)+1 by omega,Nat.pow_succ];simp;omega
 have hup:IntKind.u64.wrap ((P:Int)+1)=((P+1:Nat):Int):=by
  rw[IntKind.wrap_u64];rw[p64]at hlt
  omega
 have hneg:∀ R:Nat,R≤2 ^ (n-1)→Ev (fun k=>gK.f k (n:Int) (R:Int)) ((sgn n true R:Nat):Int):=by
  intro R hR;have hf:=ace hw ((2 ^ 64-R) % 2 ^ 64) (Nat.mod_lt _ (two_pos _));rw[← NQ (by omega),TE h64 (by omega)]at hf;refine Ev.congr (f:=fun k=>(iO.f k (n:Int) (IntKind.u64.wrap (-(R:Int)))).bind fun axC=>some axC) (fun k=>by unfold gK.f;rfl) ?_;unfold sgn;rw[if_pos rfl];exact Ev.bind hf (Ev.now _)
 have hpos:∀ R:Nat,R≤2 ^ (n-1)→sgn n false R=R:=by
  intro R hR;unfold sgn;rw[if_neg (by decide)];have:=two_pos (n-1);exact Nat.mod_eq_of_lt (by omega)
 have hj0:∀ x29:Bool,Ev (fun k=>bT.j0 k (n:Int) (P:Int) x29 1 neg s (hiI T) (loI T) rest) (((sgn n neg (if x29=true then P+1 else P):Nat):Int),0):=by
  intro x29
  cases x29 <;> cases neg
  ·refine Ev.step (f:=fun _=>some ((P:Int),0)) (fun k=>by simp only[bT.j0,Bool.false_eq_true,if_false]) ?_
   rw[if_neg (by decide),hpos P (by omega)];exact Ev.now _
  ·refine Ev.step (f:=fun k=>(gK.f k (n:Int) (P:Int)).bind fun alQ=>some (alQ,0)) (fun k=>by simp only[bT.j0,Bool.false_eq_true,if_false,if_true]) ?_
   rw[if_neg (by decide)];exact Ev.bind (hneg P (by omega)) (Ev.now _)
  ·refine Ev.step (f:=fun _=>some (((P+1:Nat):Int),0)) (fun k=>by simp only[bT.j0,Bool.false_eq_true,if_false,if_true,hup]) ?_
   rw[if_pos rfl,hpos (P+1) (by omega)];exact Ev.now _
  ·refine Ev.step (f:=fun k=>(gK.f k (n:Int) ((P+1:Nat):Int)).bind fun axG=>some (axG,0)) (fun k=>by simp only[bT.j0,if_true,hup]) ?_
   rw[if_pos rfl];exact Ev.bind (hneg (P+1) (by omega)) (Ev.now _)
 have hr:Ev (fun k=>bT.f k (n:Int) 1 neg s (hiI T) (loI T) rest) (((sgn n neg (rnd P Q):Nat):Int),0):=by
  unfold bT.f;refine Ev.bind hc ?_;simp only[if_true]
  have hmod:((Int.tmod (P:Int) 2) == 1)=decide (P % 2=1):=by
   rw[Int.tmod_eq_emod_of_nonneg (Int.natCast_nonneg _)]
   by_cases h:P % 2=1
   ·rw[decide_eq_true h];exact beq_iff_eq.2 (by omega)
   ·rw[decide_eq_false h];exact beq_eq_false_iff_ne.2 (by omega)
  by_cases h3:Q=3
  ·have:=hj0 true
   rw[if_pos rfl]at this;unfold rnd;rw[if_pos (.inl h3)];simp only[if_pos (show (Q:Int)=3 by omega)];exact this
  ·simp only[if_neg (show ¬ (Q:Int)=3 by omega)]
   by_cases h2:Q=2
   ·simp only[if_pos (show (Q:Int)=2 by omega),hmod]
    have:=hj0 (decide (P % 2=1));unfold rnd
    by_cases hp:P % 2=1
    ·rw[if_pos (.inr ⟨h2,hp⟩)]
     rw[decide_eq_true hp]at this ⊢;exact this
    ·rw[if_neg (fun a=>a.elim h3 (fun b=>hp b.2))]
     rw[decide_eq_false hp]at this ⊢;exact this
   ·simp only[if_neg (show ¬ (Q:Int)=2 by omega)]
    have:=hj0 false;unfold rnd;rw[if_neg (fun a=>a.elim h3 (fun b=>h2 b.1))];exact this
 unfold dm.f;exact Ev.bind hr (Ev.now _)
end Go.Proofs.Yy.PTx
end
