/- Part 24. -/
import Derived.Test.YtpfnkbnepcchgaaGreatDoorKTOAW
set_option linter.unusedSimpArgs false
set_option linter.unusedVariables false
section
namespace Go.Proofs.Yy.PTx
open Go.RowKit Go.Proofs.Yw.PrintWords Go.Proofs.Yw.PrintLast Go.Proofs.Yw.PrintMore Go.Proofs.Yy.M Go.Proofs.Yy.NM
attribute [local irreducible] fK iG ji kQ val
theorem jL (i:Nat):0<pw 2 i:=jQ (by decide) i
theorem BV {i:Nat}(h:i≤24):pw 2 i≤D:=by rw[← JB];exact EN (by decide) h
theorem abm {n:Nat}(hn:n≤24):∀ (d i:Nat),i+d=n→Ev (fun k=>bM.l0 k (n:Int) (pw 2 i) (i:Int)) (pw 2 n):=by
 intro d
 induction d with
 | zero =>
  intro i hi
  obtain rfl:i=n:=by omega
  refine Ev.step (f:=fun _=>some (pw 2 i)) (fun k=>?_) (Ev.now _);simp only[bM.l0];rw[if_neg (by omega)]
 | succ d ih =>
  intro i hi;have h1:=jL i
  have h2:pw 2 i≤16777216:=by rw[← vN];exact BV (by omega)
  refine Ev.step (f:=fun k=>bM.l0 k (n:Int) (pw 2 (i+1)) ((i+1:Nat):Int)) (fun k=>?_) (ih (i+1) (by omega));simp only[bM.l0];rw[if_pos (by omega),w64 (by omega) (by omega),w64 (by omega) (by omega),fA,Int.mul_comm (pw 2 i) 2]
  rfl
theorem Hr {n:Nat}(hn:n≤24):Ev (fun k=>bM.f k (n:Int)) (pw 2 n):=by
 have:=abm hn n 0 (by omega);rw[iW]at this;exact this
theorem Z4 (k:Nat):Int.tdiv (k:Int) 24=((k / 24:Nat):Int):=by rw[Int.tdiv_eq_ediv_of_nonneg (by omega)];omega
theorem aaf (k:Nat):Int.tmod (k:Int) 24=((k % 24:Nat):Int):=by rw[Int.tmod_eq_emod_of_nonneg (by omega)];omega
theorem Jm (k:Nat):pw 2 k=pw 2 (k % 24)*pw D (k / 24):=by rw[pwD, ← qA];congr 1;omega
theorem Tm {A:Int}(hA:0≤A)(k:Nat)(hk:k≤1099511627776){m:Nat}(hm:A<pw D m)(hm1:m≤549755813888):Ev (fun n=>gB.f n (enc D A) (k:Int)) (enc D (A*pw 2 k)):=by
 by_cases h0:0<A
 ·have hl:(enc D A).length≠0:=by have:=(qH D1 hA 0).2 (by rw[fG];exact h0);omega
  have hq:ae (wrap64 (Int.tdiv (k:Int) 24)=((k / 24:Nat):Int)):=⟨by rw[Z4];exact w64 (by omega) (by omega)⟩
  have hb:A*pw 2 (k % 24)<pw D (m+1):=by
   rw[fA];exact Int.lt_of_lt_of_le (Int.mul_lt_mul_of_pos_right hm (jL _)) (Int.mul_le_mul_of_nonneg_left (BV (by omega)) (Int.le_of_lt (jQ nX _)))
  have hlen:=mG D1 hb
  refine Ev.congr (f:=fun n=>(bM.f n ((k % 24:Nat):Int)).bind fun t=>(aI.f n (enc D A) t).bind fun u=>if (List.replicate (k / 24) (0:Int)).length+u.length<17592186044416 then some (List.replicate (k / 24) 0++u) else none) (fun n=>?_)
   (Ev.bind (Hr (by omega)) (Ev.bind (vW hA (Int.le_of_lt (jL _)) (BV (by omega)) hb (by omega)) ?_))
  ·unfold gB.f
   rw[if_neg (by omega),hq.out,if_pos (by omega),Int.toNat_natCast,if_pos (by omega),aaf]
   rfl
  ·rw[List.length_replicate,if_pos (by omega),Rx D1 (Int.mul_pos h0 (jL _)),Jm k,Int.mul_assoc]
   exact Ev.now _
 ·obtain rfl:A=0:=by omega
  rw[eX,Int.zero_mul,eX];exact Ev.congr (f:=fun _=>some []) (fun n=>by unfold gB.f;rw[if_pos (by simp)]) (Ev.now _)
theorem GG (a:List Int)(i:Nat):val B (a.drop i)=a.getD i 0+B*val B (a.drop (i+1)):=by
 by_cases h:i<a.length
 ·rw[List.drop_eq_getElem_cons h,jm,List.getD_eq_getElem?_getD,List.getElem?_eq_getElem h];rfl
 ·rw[List.drop_of_length_le (by omega),List.drop_of_length_le (by omega),List.getD_eq_getElem?_getD,List.getElem?_eq_none (by omega),nG];simp
theorem abR {l:List Int}(h:Dig D l)(hL:l.length≤1099511627776):∀ n:Nat,n≤l.length→Ev (fun k=>aV.l0 k l (n:Int)) (enc D (val D (l.take n))):=by
 intro n
 induction n with
 | zero =>
  intro _;refine Ev.step (f:=fun _=>some []) (fun k=>?_) (by rw[List.take_zero,nG,eX];exact Ev.now _);simp only[aV.l0];rw[if_neg (by omega),if_pos (by omega),if_pos (by omega)];simp
 | succ n ih =>
  intro hn
  have hw:ae (wrap64 (((n+1:Nat):Int)-1)=(n:Int)):=⟨by rw[w64 (by omega) (by omega)];omega⟩
  have hd:=h.take (n+1)
  have ht:l.take (n+1)=l.take n ++ [l.getD n 0]:=by
   rw[List.take_succ_eq_append_getElem (by omega),List.getD_eq_getElem?_getD,List.getElem?_eq_getElem (by omega)];rfl
  rw[ht]at hd;have he:=Hu D1 hd;rw[← ht]at he
  by_cases h0:l.getD n 0=0
  ·rw[if_pos h0]at he
   rw[he];refine Ev.step (f:=fun k=>aV.l0 k l (n:Int)) (fun k=>?_) (ih (by omega));simp only[aV.l0];rw[hw.out,if_pos (by omega),if_pos (by omega),if_pos (by omega),eF,if_pos h0]
  ·rw[if_neg h0]at he
   rw[he];refine Ev.step (f:=fun _=>some (l.take (n+1))) (fun k=>?_) (Ev.now _);simp only[aV.l0];rw[hw.out,if_pos (by omega),if_pos (by omega),if_pos (by omega),eF,if_neg h0,if_pos (by omega),if_pos (by omega)]
   rfl
theorem Dl {l:List Int}(h:Dig D l)(hL:l.length≤1099511627776):Ev (fun k=>aV.f k l) (enc D (val D l)):=by
 have:=abR h hL l.length (Nat.le_refl _);rw[List.take_length]at this;exact this
theorem AQ (X p r:Int){b:Int}:((X % b)*p+r) % b=(X*p+r) % b:=by
 have h:=Int.mul_ediv_add_emod X b
 have e:X*p+r=(X % b)*p+r+b*(X / b*p):=by
  have:X*p=(b*(X / b)+X % b)*p:=by rw[h]
  rw[this,Int.add_mul,Int.mul_assoc];omega
 rw[e,Int.add_mul_emod_self_left]
theorem Pm {w d p r R:Int}(h:d*p+r=R):(w*16777216+d)*p+r=w*(p*16777216)+R:=by grind
theorem qB {n b:Int}(hb:0<b)(hn:0≤n)(i:Nat):n / pw b i % b*pw b i+n % pw b i=n % pw b (i+1):=by
 have hp:=jQ hb i;have h1:=Int.mul_ediv_add_emod n (pw b i);have h2:=Int.mul_ediv_add_emod (n / pw b i) b;have h3:=Int.emod_nonneg n (show pw b i≠0 by omega);have h4:=Int.emod_lt_of_pos n hp;have h5:=Int.emod_nonneg (n / pw b i) (show b≠0 by omega);have h6:=Int.emod_lt_of_pos (n / pw b i) hb
 have e:n=n / pw b i % b*pw b i+n % pw b i+pw b (i+1)*(n / pw b i / b):=by
  rw[fA];generalize pw b i=p at *;generalize hq:n / p=q at *;generalize n % p=r at *;generalize hs:q / b=s at *;generalize q % b=t at *;rw[← h1, ← h2]
  grind
 have lo:0≤n / pw b i % b*pw b i+n % pw b i:=by have:=Int.mul_nonneg h5 (Int.le_of_lt hp);omega
 have hi:n / pw b i % b*pw b i+n % pw b i<pw b (i+1):=by
  rw[fA];have h7:(n / pw b i % b+1)*pw b i≤b*pw b i:=Int.mul_le_mul_of_nonneg_right (by omega) (Int.le_of_lt hp);rw[Int.add_mul,Int.one_mul,Int.mul_comm b]at h7
  omega
 have h8:=Int.add_mul_emod_self_left (n / pw b i % b*pw b i+n % pw b i) (pw b (i+1)) (n / pw b i / b);rw[← e,Int.emod_eq_of_lt lo hi]at h8;exact h8.symm
theorem Yg {A:Int}(hA:0≤A):∀ (i:Nat) (w:Int),i≤1000→0≤w→w<B→Ev (fun k=>bC.l0 k (enc D A) w ((i:Int)-1)) ((w*pw D i+A % pw D i) % B):=by
 intro i
 induction i with
 | zero =>
  intro w _ h0 h1;rw[iW,Int.mul_one,Int.emod_one,Int.add_zero,Int.emod_eq_of_lt h0 h1];refine Ev.step (f:=fun _=>some w) (fun k=>?_) (Ev.now _);simp only[bC.l0];rw[if_neg (by omega)]
 | succ i ih =>
  intro w hi h0 h1
  have hw:ae (wrap64 ((i:Int)-1)=(i:Int)-1):=⟨w64 (by omega) (by omega)⟩
  have e:((i+1:Nat):Int)-1=(i:Int):=by omega
  have key:=ih ((w*16777216+A / pw D i % D) % B) (by omega) (Int.emod_nonneg _ (by have:=jw;omega)) (Int.emod_lt_of_pos _ jw);rw[AQ,Pm (qB nX hA i)]at key;rw[show pw D i*16777216=pw D (i+1) by rw[fA,vN]]at key;refine Ev.step (f:=fun k=>bC.l0 k (enc D A) ((w*16777216+A / pw D i % D) % B) ((i:Int)-1)) (fun k=>?_) key;simp only[bC.l0];rw[e,if_pos (by omega),ql,jC D1 hA];simp only[Option.bind_some];rw[hw.out,IntKind.wrap_u64,IntKind.wrap_u64,IntKind.wrap_u64, ← Int.add_emod,uh]
theorem Ob {A:Int}(hA:0≤A):Ev (fun k=>bC.f k (enc D A)) (A % B):=by
 have:=Yg hA 3 0 (by omega) (by omega) jw;rw[Int.zero_mul,Int.zero_add,Int.emod_emod_of_dvd A (show B ∣ pw D 3 from ⟨256,by rw[uq,uh,vN];decide⟩)]at this;exact this
theorem Ci {M f g:Int}(hf:0<f)(hg:0<g)(hM:0≤M):M / f % (f*g)=M % (f*g) / f+M / (f*g) % (f*g) % f*g:=by
 have h1:=Int.mul_ediv_add_emod M (f*g);have hb:0<f*g:=Int.mul_pos hf hg;have h2:=Int.emod_nonneg M (show f*g≠0 by omega);have h3:=Int.emod_lt_of_pos M hb;have h4:M / (f*g) % (f*g) % f=M / (f*g) % f:=Int.emod_emod_of_dvd _ ⟨g,rfl⟩;rw[h4];generalize hq:M / (f*g)=q at *;generalize hr:M % (f*g)=r at *
 have e1:M=r+f*(g*q):=by rw[← h1, ← Int.mul_assoc];omega
 have e2:M / f=r / f+g*q:=by rw[e1,Int.add_mul_ediv_left _ _ (by omega)]
 have h5:=Int.mul_ediv_add_emod q f;have h6:=Int.emod_nonneg q (show f≠0 by omega);have h7:=Int.emod_lt_of_pos q hf;have h8:0≤r / f:=Int.ediv_nonneg h2 (by omega);have h9:r / f<g:=Int.ediv_lt_of_lt_mul hf (by rw[Int.mul_comm];exact h3)
 have e3:r / f+g*q=(r / f+q % f*g)+f*g*(q / f):=by
  have:g*q=g*(f*(q / f)+q % f):=by rw[h5]
  rw[this];grind
 rw[e2,e3,Int.add_mul_emod_self_left]
 have lo:0≤r / f+q % f*g:=by have:=Int.mul_nonneg h6 (Int.le_of_lt hg);omega
 have hi:r / f+q % f*g<f*g:=by
  have:(q % f+1)*g≤f*g:=Int.mul_le_mul_of_nonneg_right (by omega) (by omega);rw[Int.add_mul,Int.one_mul]at this
  omega
 exact Int.emod_eq_of_lt lo hi
theorem vP {n a b:Int}(ha:0≤a)(hb:0≤b):n / a / b=n / b / a:=by
 rw[Int.ediv_ediv_of_nonneg ha,Int.ediv_ediv_of_nonneg hb,Int.mul_comm]
theorem aa4 {M:Int}(hM:0≤M){s:Nat}(hs:s≤23)(hL:(enc D M).length≤549755813888):∀ (d i:Nat) (x:List Int),i+d=(enc D M).length→x.length=(enc D M).length→Dig D x→val D (x.take i)=M / pw 2 s % pw D i →
  Ev (fun k=>aQ.l0 k (enc D M) (pw 2 s) x (i:Int)) (enc D (M / pw 2 s)):=by
 have hf:=jL s
 have hfD:pw 2 s*pw 2 (24-s)=D:=by rw[← qA, ← JB];congr 1;omega
 have hg:=jL (24-s);intro d
 induction d with
 | zero =>
  intro i x hi hx hd hv
  obtain rfl:i=x.length:=by omega
  rw[List.take_length]at hv
  have hlt:M / pw 2 s<pw D x.length:=by
   rw[hx];refine Int.lt_of_le_of_lt (Int.ediv_le_self _ hM) ?_;have:=kW nX (fJ D1 M);rw[fC D1 hM]at this;exact this
  rw[Int.emod_eq_of_lt (Int.ediv_nonneg hM (Int.le_of_lt hf)) hlt]at hv;refine Ev.step (f:=fun k=>(aV.f k x).bind fun t=>some t) (fun k=>?_) (Ev.bind (by rw[← hv];exact Dl hd (by omega)) (Ev.now _));simp only[aQ.l0];rw[if_neg (by omega)]
 | succ d ih =>
  intro i x hi hx hd hv
  have hw1:ae (wrap64 ((i:Int)+1)=((i+1:Nat):Int)):=⟨by rw[w64 (by omega) (by omega)];omega⟩
  have hlt:i<x.length:=by omega
  have hi1:i+1+d=(enc D M).length:=by omega
  have hMi:=gK nX hM i;have hsd:=Ci hf hg hMi;rw[hfD, ← lu nX]at hsd;have hcc:M / pw D i / pw 2 s=M / pw 2 s / pw D i:=vP (Int.le_of_lt (jQ nX i)) (Int.le_of_lt hf);rw[hcc]at hsd;have hMs:=Int.ediv_nonneg hM (Int.le_of_lt hf);have akQ:=Int.emod_nonneg (M / pw 2 s / pw D i) (show D≠0 by have:=D1;omega);have Xg:=Int.emod_lt_of_pos (M / pw 2 s / pw D i) nX
  have key:=ih (i+1) (x.set i (M / pw 2 s / pw D i % D)) hi1 (by simpa using hx) (hd.set akQ Xg) (by
   rw[rq D x i _ hlt,hv, ← qB nX hMs i,Int.mul_comm (pw D i)];omega)
  have a0:=Int.emod_nonneg (M / pw D i) (show D≠0 by have:=D1;omega);have a1:=Int.emod_lt_of_pos (M / pw D i) nX;have b0:=Int.emod_nonneg (M / pw D (i+1)) (show D≠0 by have:=D1;omega);have b1:=Int.emod_lt_of_pos (M / pw D (i+1)) nX;have c0:=Int.emod_nonneg (M / pw D (i+1) % D) (show pw 2 s≠0 by omega);have c1:=Int.emod_lt_of_pos (M / pw D (i+1) % D) hf;have q0:0≤M / pw D i % D / pw 2 s:=Int.ediv_nonneg a0 (Int.le_of_lt hf);have q1:M / pw D i % D / pw 2 s≤M / pw D i % D:=Int.ediv_le_self _ a0
  have hgd:(16777216:Int) / pw 2 s=pw 2 (24-s):=by rw[← vN, ← hfD,Int.mul_ediv_cancel_left _ (by omega)]
  have p0:0≤M / pw D (i+1) % D % pw 2 s*pw 2 (24-s):=Int.mul_nonneg c0 (Int.le_of_lt hg)
  have hA1:ae (wrap64 (Int.tdiv (16777216:Int) (pw 2 s))=pw 2 (24-s)):=⟨by
   rw[Int.tdiv_eq_ediv_of_nonneg (by omega),hgd];have:=BV (i:=24-s) (by omega);rw[vN]at this
   exact w64 (by omega) (by omega)⟩
  rw[hsd]at key Xg
  have hA2:ae (wrap64 (wrap64 (Int.tdiv (M / pw D i % D) (pw 2 s))+wrap64 (Int.tmod (M / pw D (i+1) % D) (pw 2 s)*pw 2 (24-s)))=M / pw D i % D / pw 2 s+M / pw D (i+1) % D % pw 2 s*pw 2 (24-s)):=⟨by
   rw[Int.tdiv_eq_ediv_of_nonneg a0,Int.tmod_eq_emod_of_nonneg b0];rw[vN]at a1 Xg q1 q0 p0 ⊢
   rw[w64 (x:=M / pw 16777216 i % 16777216 / pw 2 s) (by omega) (by omega),w64 (x:=M / pw 16777216 (i+1) % 16777216 % pw 2 s*pw 2 (24-s)) (by omega) (by omega),w64 (by omega) (by omega)]⟩
  refine Ev.step (f:=fun k=>aQ.l0 k (enc D M) (pw 2 s) (x.set i (M / pw D i % D / pw 2 s+M / pw D (i+1) % D % pw 2 s*pw 2 (24-s))) ((i+1:Nat):Int)) (fun k=>?_) key;simp only[aQ.l0];rw[hw1.out,ql,eF,jC D1 hM,jC D1 hM];simp only[Option.bind_some];rw[hA1.out,hA2.out,if_pos (by omega),if_pos (by omega),if_neg (by omega),if_pos (by omega)]
  rfl
theorem Sz {A:Int}(hA:0≤A)(k:Nat)(hk:k≤9223372036854775807)(hL:(enc D A).length≤549755813888):Ev (fun n=>aQ.f n (enc D A) (k:Int)) (enc D (A / pw 2 k)):=by
 have hq:ae (wrap64 (Int.tdiv (k:Int) 24)=((k / 24:Nat):Int)):=⟨by rw[Z4];exact w64 (by omega) (by omega)⟩
 by_cases h:(enc D A).length≤k / 24
 ·have hlt:A<pw 2 k:=by
   have h1:=kW nX (fJ D1 A);rw[fC D1 hA]at h1;refine Int.lt_of_lt_of_le h1 ?_;rw[pwD];exact EN (by decide) (by omega)
  rw[Int.ediv_eq_zero_of_lt hA hlt,eX];exact Ev.congr (f:=fun _=>some []) (fun n=>by unfold aQ.f;rw[hq.out,if_pos (by omega)]) (Ev.now _)
 ·have hdr:=BU D1 hA (k / 24)
  have hM:=gK nX hA (k / 24)
  have hlen:(enc D (A / pw D (k / 24))).length≤(enc D A).length:=by rw[← hdr,List.length_drop];omega
  have e:A / pw D (k / 24) / pw 2 (k % 24)=A / pw 2 k:=by
   rw[Int.ediv_ediv_of_nonneg (Int.le_of_lt (jQ nX _)),Jm k,Int.mul_comm]
  refine Ev.congr (f:=fun n=>(bM.f n ((k % 24:Nat):Int)).bind fun t=>aQ.l0 n (enc D (A / pw D (k / 24))) t (List.replicate (enc D (A / pw D (k / 24))).length 0) ((0:Nat):Int)) (fun n=>?_)
   (Ev.bind (Hr (by omega)) (by rw[← e];exact aa4 hM (s:=k % 24) (by omega) (by omega) (enc D (A / pw D (k / 24))).length 0 _ (by omega) (by simp) (Dig.zeros nX _) (by rw[List.take_zero,nG,iW,Int.emod_one])))
  unfold aQ.f;rw[hq.out,if_neg (by omega),if_pos (by omega),if_pos (by omega),aaf,Int.toNat_natCast,hdr];simp only[Option.bind_some]
  congr 1
  funext t
  rw[if_pos (by omega),Int.toNat_natCast,if_pos (by omega)]
  rfl
theorem UF {v w x y:Int}(hv:0≤v∧v<D)(hw:0≤w∧w<D)(hx:0≤x∧x<D)(hy:0≤y∧y<D) :
  ae (wrap64 (wrap64 (x+wrap64 (v*w))+y)=x+v*w+y)∧ae (wrap64 ((x+v*w+y) / D)=(x+v*w+y) / D)∧0≤x+v*w+y∧(x+v*w+y) / D<D:=by
 have hm0:0≤v*w:=Int.mul_nonneg hv.1 hw.1;have hm1:v*w≤(D-1)*(D-1):=Int.mul_le_mul (by omega) (by omega) hw.1 (by have:=D1;omega)
 have hm2:v*w≤281474943156225:=by rw[vN]at hm1;exact hm1
 have ht1:x+v*w+y<D*D:=by rw[vN]at *;omega
 have hx1:=hx.2;have hy1:=hy.2;have hc0:0≤(x+v*w+y) / D:=Int.ediv_nonneg (by omega) (Int.le_of_lt nX);have hc1:(x+v*w+y) / D<D:=Int.ediv_lt_of_lt_mul nX ht1;refine⟨⟨?_⟩,⟨?_⟩,by omega,hc1⟩
 ·rw[vN]at hx1 hy1
  rw[w64 (x:=v*w) (by omega) (by omega),w64 (x:=x+v*w) (by omega) (by omega),w64 (by omega) (by omega)]
 ·rw[vN]at hc0 hc1 ⊢
  exact w64 (by omega) (by omega)
theorem Ug {pi pk b v q r x y w V A W:Int}(hs:b*q+r=x+v*w+y)(hv:V+pi*pk*y=A+pi*v*W):V+pi*pk*(r-x)+pi*pk*b*q=A+pi*v*(W+pk*w):=by grind
theorem abv {a b:List Int}(ha:Dig D a)(hb:Dig D b)(hL:a.length+b.length≤1099511627776)(i:Nat)(hi:i<a.length)(A:Int)(r:List Int)
  (next:∀ x,x.length=a.length+b.length→Dig D x→(∀ j,i+1+b.length≤j→x.getD j 0=0)→val D x=A+pw D i*a.getD i 0*val D b→Ev (fun k=>aC.l0 k a b x ((i+1:Nat):Int)) r) :
  ∀ (d k:Nat) (x:List Int) (y:Int),k+d=b.length→x.length=a.length+b.length→Dig D x→0≤y→y<D→(∀ j,i+b.length≤j→x.getD j 0=0) →
   val D x+pw D i*pw D k*y=A+pw D i*a.getD i 0*val D (b.take k) →
   Ev (fun n=>aC.l1 n a b x (i:Int) y (k:Int)) r:=by
 intro d
 induction d with
 | zero =>
  intro k x y hk hx hd h0 h1 hz hval
  obtain rfl:k=b.length:=by omega
  rw[List.take_length, ← qA]at hval
  have hw:ae (wrap64 ((i:Int)+(b.length:Int))=((i+b.length:Nat):Int)):=⟨by rw[w64 (by omega) (by omega)];omega⟩
  have hw1:ae (wrap64 ((i:Int)+1)=((i+1:Nat):Int)):=⟨by rw[w64 (by omega) (by omega)];omega⟩
  have hlt:i+b.length<x.length:=by omega
  refine Ev.step (f:=fun n=>aC.l0 n a b (x.set (i+b.length) y) ((i+1:Nat):Int)) (fun n=>?_) (next _ (by simpa using hx) (hd.set h0 h1) (fun j hj=>by rw[qw _ _ _ _ (by omega)];exact hz j (by omega)) ?_)
  ·simp only[aC.l1]
   rw[hw.out,hw1.out,if_neg (by omega),if_pos (by omega),if_pos (by omega)]
   rfl
  ·rw[pG D x _ y hlt,hz _ (by omega),Int.sub_zero]
   exact hval
 | succ d ih =>
  intro k x y hk hx hd h0 h1 hz hval
  have hw:ae (wrap64 ((i:Int)+(k:Int))=((i+k:Nat):Int)):=⟨by rw[w64 (by omega) (by omega)];omega⟩
  have hw1:ae (wrap64 ((k:Int)+1)=((k+1:Nat):Int)):=⟨by rw[w64 (by omega) (by omega)];omega⟩
  have hlt:i+k<x.length:=by omega
  have hk1:k+1+d=b.length:=by omega
  obtain⟨e1,e2,p0,p1⟩:=UF (ha.get nX i) (hb.get nX k) (hd.get nX (i+k)) ⟨h0,h1⟩
  obtain⟨t,ht⟩:∃ t,t=x.getD (i+k) 0+a.getD i 0*b.getD k 0+y:=⟨_,rfl⟩
  rw[← ht]at e1 e2 p0 p1
  refine Ev.step (f:=fun n=>aC.l1 n a b (x.set (i+k) (t % D)) (i:Int) (t / D) ((k+1:Nat):Int)) (fun n=>?_)
   (ih (k+1) _ _ hk1 (by simpa using hx) (hd.set (Int.emod_nonneg _ (by have:=D1;omega)) (Int.emod_lt_of_pos _ nX)) (Int.ediv_nonneg p0 (Int.le_of_lt nX)) p1 (fun j hj=>by rw[qw _ _ _ _ (by omega)];exact hz j hj) ?_)
  ·simp only[aC.l1]
   rw[hw.out,hw1.out,if_pos (by omega),if_pos (by omega),if_pos (by omega),if_pos (by omega),if_pos (by omega),if_pos (by omega),eF,eF,eF,e1.out,Uu p0,X6 p0,e2.out,Int.toNat_natCast]
  ·rw[pG D x _ _ hlt,eP D b,fA, ← Int.mul_assoc,qA]
   exact Ug ((Int.mul_ediv_add_emod t D).trans ht) hval
theorem abf {a b:List Int}(ha:Dig D a)(hb:Dig D b)(hL:a.length+b.length≤1099511627776):∀ (d i:Nat) (x:List Int),i+d=a.length→x.length=a.length+b.length→Dig D x→(∀ j,i+b.length≤j→x.getD j 0=0) →
  val D x=val D (a.take i)*val D b→Ev (fun k=>aC.l0 k a b x (i:Int)) (enc D (val D a*val D b)):=by
 intro d
 induction d with
 | zero =>
  intro i x hi hx hd _ hval
  obtain rfl:i=a.length:=by omega
  rw[List.take_length]at hval;refine Ev.step (f:=fun k=>(aV.f k x).bind fun t=>some t) (fun k=>?_) (Ev.bind (by rw[← hval];exact Dl hd (by omega)) (Ev.now _));simp only[aC.l0];rw[if_neg (by omega)]
 | succ d ih =>
  intro i x hi hx hd hz hval
  have hilt:i<a.length:=by omega
  have hi1:i+1+d=a.length:=by omega
  refine Ev.step (f:=fun k=>aC.l1 k a b x (i:Int) 0 ((0:Nat):Int)) (fun k=>?_)
   (abv ha hb hL i hilt (val D (a.take i)*val D b) _ (fun x' hx' hd' hz' hval'=>ih (i+1) x' hi1 hx' hd' hz' ?_) b.length 0 x 0 (by omega) hx hd (by omega) nX hz ?_)
  ·simp only[aC.l0]
   rw[if_pos (by omega)]
   rfl
  ·rw[eP D a]
   exact JK hval'
  ·rw[List.take_zero,nG,hval];simp
theorem ab4 {a b:List Int}(ha:Dig D a)(hb:Dig D b)(hL:a.length+b.length≤1099511627776):Ev (fun k=>aC.f k a b) (enc D (val D a*val D b)):=by
 have hw:ae (wrap64 ((a.length:Int)+(b.length:Int))=((a.length+b.length:Nat):Int)):=⟨by rw[w64 (by omega) (by omega)];omega⟩
 have hT:a=[]∨b=[]→Ev (fun k=>aC.j0 k a b true) (enc D (val D a*val D b)):=fun h=>by
  have e:enc D (val D a*val D b)=[]:=by rcases h with h|h <;> rw[h,nG] <;> simp[eX]
  rw[e];refine Ev.step (f:=fun _=>some []) (fun k=>?_) (Ev.now _);simp only[aC.j0];rw[if_pos trivial]
 by_cases h1:a.length=0
 ·refine Ev.congr (fun k=>?_) (hT (.inl (List.length_eq_zero_iff.1 h1)))
  unfold aC.f;rw[if_pos (by omega)]
 ·by_cases h2:b.length=0
  ·refine Ev.congr (fun k=>?_) (hT (.inr (List.length_eq_zero_iff.1 h2)))
   unfold aC.f;rw[if_neg (by omega),h2]
   rfl
  ·refine Ev.congr (f:=fun k=>aC.j0 k a b false) (fun k=>?_) ?_
   ·unfold aC.f
    rw[if_neg (by omega),show ((b.length:Int) == 0)=false from beq_eq_false_iff_ne.2 (by omega)]
   ·refine Ev.step (f:=fun k=>aC.l0 k a b (List.replicate (a.length+b.length) 0) ((0:Nat):Int)) (fun k=>?_)
     (abf ha hb (by omega) a.length 0 _ (by omega) (by simp) (Dig.zeros nX _) (fun j _=>by simp[List.getD_eq_getElem?_getD,List.getElem?_replicate];split <;> rfl) (by simp[wC,val]))
    simp only[aC.j0];rw[if_neg (by decide),hw.out,if_pos (by omega),Int.toNat_natCast,if_pos (by omega)]
    rfl
def NP (A C:Int):Int:=if A<C then -1 else if A=C then 0 else 1
theorem qF {A C p:Int}(hp:0<p)(h:A / p<C / p):A<C:=by
 rcases Int.lt_or_le A C with h1|h1
 ·exact h1
 ·have:=Int.ediv_le_ediv hp h1
  omega
theorem y7 {A b:Int}(hb:0<b)(i:Nat):A / pw b i=b*(A / pw b (i+1))+A / pw b i % b:=by
 rw[lu hb];exact (Int.mul_ediv_add_emod _ _).symm
theorem G7 {A C:Int}(h:A<C):NP A C = -1:=by unfold NP;rw[if_pos h]
theorem Hm {A C:Int}(h:C<A):NP A C=1:=by unfold NP;rw[if_neg (by omega),if_neg (by omega)]
theorem TJ (A:Int):NP A A=0:=by unfold NP;rw[if_neg (by omega),if_pos rfl]
theorem yK {A C b:Int}(hb:1<b)(hA:0≤A)(hC:0≤C)(h:(enc b A).length<(enc b C).length):A<C:=by
 have h1:=(qH hb hC (enc b A).length).1 h
 have h2:¬ 0<A / pw b (enc b A).length:=fun e=>by
  have:=(qH hb hA (enc b A).length).2 e
  omega
 exact qF (p:=pw b (enc b A).length) (jQ (by omega) (enc b A).length) (by omega)
theorem acd {A C:Int}(hA:0≤A)(hC:0≤C)(hl:(enc B A).length=(enc B C).length)(hL:(enc B A).length≤1099511627776):∀ i:Nat,i≤(enc B A).length→A / pw B i=C / pw B i →
  Ev (fun k=>nz.l0 k (enc B A) (enc B C) ((i:Int)-1)) (NP A C):=by
 intro i
 induction i with
 | zero =>
  intro _ h;rw[fG,fG]at h;refine Ev.step (f:=fun _=>some 0) (fun k=>?_) (by rw[h,TJ];exact Ev.now _);simp only[nz.l0];rw[if_neg (by omega)]
 | succ i ih =>
  intro hi h
  have hw:ae (wrap64 ((i:Int)-1)=(i:Int)-1):=⟨w64 (by omega) (by omega)⟩
  have e:((i+1:Nat):Int)-1=(i:Int):=by omega
  have dA:=y7 (A:=A) jw i;have dC:=y7 (A:=C) jw i;rw[h]at dA
  by_cases h1:A / pw B i % B=C / pw B i % B
  ·refine Ev.step (f:=fun k=>nz.l0 k (enc B A) (enc B C) ((i:Int)-1)) (fun k=>?_) (ih (by omega) (by rw[dA,dC,h1]))
   simp only[nz.l0];rw[e,if_pos (by omega),if_pos (by omega),if_pos (by omega),if_pos (by omega),eF,eF,jC B1 hA,jC B1 hC,if_pos h1,hw.out]
  ·by_cases h2:A / pw B i % B<C / pw B i % B
   ·refine Ev.step (f:=fun _=>some (-1)) (fun k=>?_) (by rw[G7 (qF (jQ jw i) (by omega))];exact Ev.now _)
    simp only[nz.l0];rw[e,if_pos (by omega),if_pos (by omega),if_pos (by omega),if_pos (by omega),eF,eF,jC B1 hA,jC B1 hC,if_neg h1,if_pos h2]
   ·refine Ev.step (f:=fun _=>some 1) (fun k=>?_) (by rw[Hm (qF (jQ jw i) (by omega))];exact Ev.now _)
    simp only[nz.l0];rw[e,if_pos (by omega),if_pos (by omega),if_pos (by omega),if_pos (by omega),eF,eF,jC B1 hA,jC B1 hC,if_neg h1,if_neg h2]
theorem Aa {A b:Int}(hb:1<b)(hA:0≤A):A / pw b (enc b A).length=0:=by
 have h1:=qH hb hA (enc b A).length;have h2:=gK (b:=b) (by omega) hA (enc b A).length
 omega
theorem acA {a b:List Int}(ha:Dig B a)(hb:Dig B b)(hL:a.length≤1099511627776)(hM:b.length≤1099511627776):Ev (fun k=>nz.f k a b) (NP (val B a) (val B b)):=by
 have hA:=fD jw ha;have hC:=fD jw hb;have la:=nR B1 ha;have lb:=nR B1 hb;refine Ev.congr (fun k=>rfl) (Ev.bind (og ha hL) (Ev.bind (og hb hM) ?_))
 by_cases h:(enc B (val B a)).length=(enc B (val B b)).length
 ·have:=acd hA hC h (by omega) (enc B (val B a)).length (Nat.le_refl _) (by rw[Aa B1 hA];rw[h,Aa B1 hC])
  refine Ev.congr (fun k=>?_) this;rw[if_pos (by omega),w64 (by omega) (by omega)]
 ·by_cases h2:(enc B (val B a)).length<(enc B (val B b)).length
  ·rw[G7 (yK B1 hA hC h2)]
   exact Ev.congr (f:=fun _=>some (-1)) (fun k=>by rw[if_neg (by omega),if_pos (by omega)]) (Ev.now _)
  ·rw[Hm (yK B1 hC hA (by omega))]
   exact Ev.congr (f:=fun _=>some 1) (fun k=>by rw[if_neg (by omega),if_neg (by omega)]) (Ev.now _)
theorem ack {A C:Int}(hA:0≤A)(hC:0≤C)(hl:(enc D A).length=(enc D C).length)(hL:(enc D A).length≤1099511627776):∀ i:Nat,i≤(enc D A).length→A / pw D i=C / pw D i →
  Ev (fun k=>bV.l0 k (enc D A) (enc D C) ((i:Int)-1)) (NP A C):=by
 intro i
 induction i with
 | zero =>
  intro _ h;rw[fG,fG]at h;refine Ev.step (f:=fun _=>some 0) (fun k=>?_) (by rw[h,TJ];exact Ev.now _);simp only[bV.l0];rw[if_neg (by omega)]
 | succ i ih =>
  intro hi h
  have hw:ae (wrap64 ((i:Int)-1)=(i:Int)-1):=⟨w64 (by omega) (by omega)⟩
  have e:((i+1:Nat):Int)-1=(i:Int):=by omega
  have dA:=y7 (A:=A) nX i;have dC:=y7 (A:=C) nX i;rw[h]at dA
  by_cases h1:A / pw D i % D=C / pw D i % D
  ·refine Ev.step (f:=fun k=>bV.l0 k (enc D A) (enc D C) ((i:Int)-1)) (fun k=>?_) (ih (by omega) (by rw[dA,dC,h1]))
   simp only[bV.l0];rw[e,if_pos (by omega),if_pos (by omega),if_pos (by omega),if_pos (by omega),eF,eF,jC D1 hA,jC D1 hC,if_neg (by omega),if_neg (by omega),hw.out]
  ·by_cases h2:A / pw D i % D<C / pw D i % D
   ·refine Ev.step (f:=fun _=>some (-1)) (fun k=>?_) (by rw[G7 (qF (jQ nX i) (by omega))];exact Ev.now _)
    simp only[bV.l0];rw[e,if_pos (by omega),if_pos (by omega),if_pos (by omega),if_pos (by omega),eF,eF,jC D1 hA,jC D1 hC,if_pos h2]
   ·refine Ev.step (f:=fun _=>some 1) (fun k=>?_) (by rw[Hm (qF (jQ nX i) (by omega))];exact Ev.now _)
    simp only[bV.l0];rw[e,if_pos (by omega),if_pos (by omega),if_pos (by omega),if_pos (by omega),eF,eF,jC D1 hA,jC D1 hC,if_neg h2,if_pos (by omega)]
theorem abj {A C:Int}(hA:0≤A)(hC:0≤C)(hL:(enc D A).length≤1099511627776):Ev (fun k=>bV.f k (enc D A) (enc D C)) (NP A C):=by
 by_cases h:(enc D A).length=(enc D C).length
 ·have:=ack hA hC h (by omega) (enc D A).length (Nat.le_refl _) (by rw[Aa D1 hA];rw[h,Aa D1 hC])
  refine Ev.congr (fun k=>?_) this;unfold bV.f;rw[if_pos (by omega),w64 (by omega) (by omega)]
 ·by_cases h2:(enc D A).length<(enc D C).length
  ·rw[G7 (yK D1 hA hC h2)]
   exact Ev.congr (f:=fun _=>some (-1)) (fun k=>by unfold bV.f;rw[if_neg (by omega),if_pos (by omega)]) (Ev.now _)
  ·rw[Hm (yK D1 hC hA (by omega))]
   exact Ev.congr (f:=fun _=>some 1) (fun k=>by unfold bV.f;rw[if_neg (by omega),if_neg (by omega)]) (Ev.now _)
theorem FX {x y c:Int}(hx:0≤x∧x<B)(hy:0≤y∧y<B)(hc:0≤c)(hc1:c≤1):ji x y c-B*kQ x y c=x-y-c∧(0≤ji x y c∧ji x y c<B)∧0≤kQ x y c∧kQ x y c≤1:=by
 unfold ji kQ;rw[uh]at *
 split <;> omega
theorem XK {p b lo hi ai bi c X A C:Int}(hs:lo-b*hi=ai-bi-c)(hv:X-p*c=A-C):X+p*lo-p*b*hi=(A+p*ai)-(C+p*bi):=by grind
theorem Oy {A C:Int}:NP A C<0 ↔ A<C:=by
 unfold NP
 by_cases h:A<C
 ·rw[if_pos h];omega
 ·rw[if_neg h];split <;> omega
theorem abG {A C:Int}(hA:0≤A)(hC:0≤C)(hle:C≤A)(hL:(enc D A).length≤1099511627775):∀ (d i:Nat) (out:List Int) (c:Int),i+d=(enc D A).length→out.length=i→0≤c→c≤1→Dig D out →
  val D out-pw D i*c=val D ((enc D A).take i)-val D ((enc D C).take i)→Ev (fun k=>df.l0 k (enc D A) (enc D C) out c (i:Int)) (enc D (A-C)):=by
 intro d
 induction d with
 | zero =>
  intro i out c hi hx h0 h1 hd hv
  have hvb:C<pw D (enc D A).length:=by
   have:=kW nX (fJ D1 A);rw[fC D1 hA]at this
   omega
  have hcl:=mG D1 hvb
  obtain rfl:i=(enc D A).length:=by omega
  rw[List.take_length,List.take_of_length_le hcl,fC D1 hA,fC D1 hC]at hv;have hlt:=kW nX hd;rw[hx]at hlt
  have hc:c=0:=by
   rcases (show c=0∨c=1 by omega) with h|h
   ·exact h
   ·rw[h,Int.mul_one]at hv;omega
  rw[hc,Int.mul_zero,Int.sub_zero]at hv;refine Ev.step (f:=fun k=>(aV.f k out).bind fun t=>some t) (fun k=>?_) (Ev.bind (by rw[← hv];exact Dl hd (by omega)) (Ev.now _));simp only[df.l0];rw[if_neg (by omega)]
 | succ d ih =>
  intro i out c hi hx h0 h1 hd hv
  have hw:ae (wrap64 ((i:Int)+1)=((i+1:Nat):Int)):=⟨by rw[w64 (by omega) (by omega)];omega⟩
  have hq2:i+1+d=(enc D A).length:=by omega
  have ga:=(fJ D1 A).get nX i;have gc:=(fJ D1 C).get nX i;have ga1:=ga.2;have gc1:=gc.2
  have step:∀ lo hi:Int,0≤lo→lo<D→0≤hi→hi≤1→lo-D*hi=(enc D A).getD i 0-(enc D C).getD i 0-c→Ev (fun k=>df.l0 k (enc D A) (enc D C) (out ++ [lo]) hi ((i+1:Nat):Int)) (enc D (A-C)):=fun lo hi l0 l1 h0 h1 hs=>by
   refine ih (i+1) (out ++ [lo]) hi hq2 (by simp[hx]) h0 h1 (hd.append (Dig.cons l0 l1 (Dig.nil D))) ?_;rw[nC,eP D (enc D A),eP D (enc D C),fA,hx];simp only[jm,nG,Int.mul_zero,Int.add_zero];exact XK hs hv
  have hd1:ae (wrap64 (wrap64 ((enc D A).getD i 0-(enc D C).getD i 0)-c)=(enc D A).getD i 0-(enc D C).getD i 0-c):=⟨by
   rw[vN]at ga1 gc1;rw[vN]at *
   rw[w64 (x:=(enc 16777216 A).getD i 0-(enc 16777216 C).getD i 0) (by omega) (by omega),w64 (by omega) (by omega)]⟩
  by_cases hn:(enc D A).getD i 0-(enc D C).getD i 0-c<0
  ·have hd2:ae (wrap64 ((enc D A).getD i 0-(enc D C).getD i 0-c+16777216)=(enc D A).getD i 0-(enc D C).getD i 0-c+D):=⟨by
    rw[vN]at *
    rw[w64 (by omega) (by omega)]⟩
   refine Ev.step (f:=fun k=>df.l0 k (enc D A) (enc D C) (out ++ [(enc D A).getD i 0-(enc D C).getD i 0-c+D]) 1 ((i+1:Nat):Int)) (fun k=>?_) (step _ 1 (by omega) (by omega) (by omega) (by omega) (by omega));simp only[df.l0];rw[hw.out,if_pos (by omega),if_pos (by omega),ql,eF];simp only[Option.bind_some];rw[hd1.out,if_pos hn,hd2.out,if_pos (by omega)]
  ·refine Ev.step (f:=fun k=>df.l0 k (enc D A) (enc D C) (out ++ [(enc D A).getD i 0-(enc D C).getD i 0-c]) 0 ((i+1:Nat):Int)) (fun k=>?_) (step _ 0 (by omega) (by omega) (by omega) (by omega) (by omega))
   simp only[df.l0];rw[hw.out,if_pos (by omega),if_pos (by omega),ql,eF];simp only[Option.bind_some];rw[hd1.out,if_neg hn,if_pos (by omega)]
theorem acH {A C:Int}(hA:0≤A)(hC:0≤C)(hle:C≤A)(hL:(enc D A).length≤1099511627775):Ev (fun k=>df.f k (enc D A) (enc D C)) (enc D (A-C)) :=
 abG hA hC hle hL (enc D A).length 0 [] 0 (by omega) rfl (by omega) (by omega) (Dig.nil D) (by simp[nG,iW])
theorem yU (i:Nat):0<pw 10 i:=jQ (by decide) i
theorem Ui (i:Nat):pw 10 i<pw D (i+1):=by
 induction i with
 | zero=>rw[iW,fA,iW,Int.one_mul];exact D1
 | succ i ih =>
  rw[fA,fA D];have h1:=jQ nX (i+1);have h2:pw 10 i*10≤pw D (i+1)*10:=Int.mul_le_mul_of_nonneg_right (Int.le_of_lt ih) (by decide);have h3:pw D (i+1)*10<pw D (i+1)*D:=Int.mul_lt_mul_of_pos_left (by rw[vN];decide) h1
  omega
theorem NR (i:Nat):pw 10 i<pw B (i+1):=by
 induction i with
 | zero=>rw[iW,fA,iW,Int.one_mul];exact B1
 | succ i ih =>
  rw[fA,fA B];have h1:=jQ jw (i+1);have h2:pw 10 i*10≤pw B (i+1)*10:=Int.mul_le_mul_of_nonneg_right (Int.le_of_lt ih) (by decide);have h3:pw B (i+1)*10<pw B (i+1)*B:=Int.mul_lt_mul_of_pos_left (by rw[uh];decide) h1
  omega
theorem Ht (b x:Int):val b [x]=x:=by rw[jm,nG];omega
theorem GL {b x:Int}(h0:0≤x)(h1:x<b):Dig b [x]:=Dig.cons h0 h1 (Dig.nil b)
theorem RF:∀ (n i:Nat),n+i≤1099511627774→Ev (fun k=>iw.l1 k (n:Int) (enc B (pw 10 i))) (enc B (pw 10 (n+i)),none):=by
 intro n
 induction n with
 | zero =>
  intro i _;rw[Nat.zero_add];refine Ev.step (f:=fun _=>some (enc B (pw 10 i),none)) (fun k=>?_) (Ev.now _);simp only[iw.l1];rw[if_neg (by omega)]
 | succ n ih =>
  intro i h
  have hw:ae (wrap64 (((n+1:Nat):Int)-1)=(n:Int)):=⟨by rw[w64 (by omega) (by omega)];omega⟩
  have hl:=mG B1 (NR i);have ht:=BQ (fJ B1 (pw 10 i)) (GL (b:=B) (x:=10) (by decide) (by rw[uh];decide)) (by simp;omega);rw[fC B1 (Int.le_of_lt (yU i)),Ht, ← fA]at ht;refine Ev.step (f:=fun k=>(dJ.f k (enc B (pw 10 i)) [10]).bind fun t=>iw.l1 k (n:Int) t) (fun k=>?_) (Ev.bind ht (by rw[show n+1+i=n+(i+1) by omega];exact ih (i+1) (by omega)));simp only[iw.l1];rw[if_pos (by omega),hw.out]
theorem Gy:pw 10 19=10000000000000000000:=by rw[uq];decide
theorem ab7:∀ (m n i:Nat),n≤m→n+i≤1099511627774→Ev (fun k=>iw.l0 k (n:Int) (enc B (pw 10 i))) (enc B (pw 10 (n+i)),none):=by
 intro m
 induction m with
 | zero =>
  intro n i hm h;refine Ev.step (f:=fun k=>iw.l1 k (n:Int) (enc B (pw 10 i))) (fun k=>?_) (RF n i h);simp only[iw.l0];rw[if_neg (by omega)]
 | succ m ih =>
  intro n i hm h
  by_cases h19:19≤n
  ·have hw:ae (wrap64 ((n:Int)-19)=((n-19:Nat):Int)):=⟨by rw[w64 (by omega) (by omega)];omega⟩
   have hl:=mG B1 (NR i);have ht:=BQ (fJ B1 (pw 10 i)) (GL (b:=B) (x:=10000000000000000000) (by decide) (by rw[uh];decide)) (by simp;omega);rw[fC B1 (Int.le_of_lt (yU i)),Ht, ← Gy, ← qA,Gy]at ht;refine Ev.step (f:=fun k=>(dJ.f k (enc B (pw 10 i)) [10000000000000000000]).bind fun t=>iw.l0 k ((n-19:Nat):Int) t) (fun k=>?_) (Ev.bind ht (by rw[show n+i=(n-19)+(i+19) by omega];exact ih (n-19) (i+19) (by omega) (by omega)));simp only[iw.l0];rw[if_pos (by omega),hw.out]
  ·refine Ev.step (f:=fun k=>iw.l1 k (n:Int) (enc B (pw 10 i))) (fun k=>?_) (RF n i h)
   simp only[iw.l0];rw[if_neg (by omega)]
theorem SA (n:Nat)(h:n≤16384):Ev (fun k=>iw.f k (n:Int)) (enc B (pw 10 n),none):=by
 have:=ab7 n n 0 (Nat.le_refl _) (by omega);rw[iW,Sm,Nat.add_zero]at this;refine Ev.congr (fun k=>?_) this;unfold iw.f;rw[if_neg (by omega),if_neg (by omega)]
theorem abC (n:Nat)(h:n≤1099511627774):∀ (d i:Nat),i+d=n→Ev (fun k=>dB.l0 k (n:Int) (enc D (pw 10 i)) (i:Int)) (enc D (pw 10 n)):=by
 intro d
 induction d with
 | zero =>
  intro i hi
  obtain rfl:i=n:=by omega
  refine Ev.step (f:=fun _=>some (enc D (pw 10 i))) (fun k=>?_) (Ev.now _);simp only[dB.l0];rw[if_neg (by omega)]
 | succ d ih =>
  intro i hi
  have hw:ae (wrap64 ((i:Int)+1)=((i+1:Nat):Int)):=⟨by rw[w64 (by omega) (by omega)];omega⟩
  refine Ev.step (f:=fun k=>(aI.f k (enc D (pw 10 i)) 10).bind fun t=>dB.l0 k (n:Int) t ((i+1:Nat):Int)) (fun k=>?_)
   (Ev.bind (vW (Int.le_of_lt (yU i)) (by decide) (by rw[vN];decide) (m:=i+2) (by rw[← fA];exact Ui (i+1)) (by omega)) (by rw[← fA];exact ih (i+1) (by omega)))
  simp only[dB.l0];rw[if_pos (by omega),hw.out]
theorem XO:enc D 1=[1]:=by rw[oI D1 (by decide),Int.emod_eq_of_lt (by decide) D1,Int.ediv_eq_zero_of_lt (by decide) D1,eX]
theorem TE (n:Nat)(h:n≤1099511627774):Ev (fun k=>dB.f k (n:Int)) (enc D (pw 10 n)):=by
 have:=abC n h n 0 (by omega);rw[iW,XO]at this;exact this
theorem aaj {v:Int}(h0:0≤v)(h1:v<B):Ev (fun k=>qU.f k v) (enc B v):=by
 have:=og (GL h0 h1) (by simp);rw[Ht]at this;exact Ev.congr (fun k=>rfl) (Ev.bind this (Ev.now _))
def bl (A:Int):Nat:=(enc 2 A).length
theorem abI:(1:Int)<2:=by decide
theorem xP:bl 0=0:=by unfold bl;rw[eX];rfl
theorem ab5 {A:Int}(hA:0≤A)(i:Nat):i<bl A ↔ 0<A / pw 2 i:=qH abI hA i
theorem Di {A:Int}(h:0<A):bl A=bl (A / 2)+1:=by unfold bl;rw[oI abI h];rfl
theorem Om {A:Int}(hA:0≤A)(m:Nat)(h:0<A / pw 2 m):bl A=m+bl (A / pw 2 m):=by
 have h1:=BU abI hA m;have h2:=(ab5 hA m).2 h;unfold bl at *;rw[← h1,List.length_drop]
 omega
theorem O0 {A:Int}{m:Nat}(h:A<pw 2 m):bl A≤m:=mG abI h
theorem Yf:∀ (m:Nat) (v:Int) (n:Int),0≤v→bl v≤m→v≤9223372036854775807→0≤n→n+m≤1099511627776000→Ev (fun k=>bg.l0 k n v) (n+bl v):=by
 intro m
 induction m with
 | zero =>
  intro v n h0 h1 h2 h3 h4
  have:v=0:=by
   rcases Int.lt_or_le 0 v with h|h
   ·have:=Di h;omega
   ·omega
  subst this;refine Ev.step (f:=fun _=>some n) (fun k=>?_) (by rw[xP];exact (Int.add_zero n).symm ▸ Ev.now _);simp only[bg.l0];rw[if_neg (by omega)]
 | succ m ih =>
  intro v n h0 h1 h2 h3 h4
  by_cases h:0<v
  ·have hb:=Di h
   have key:=ih (v / 2) (n+1) (by omega) (by omega) (by omega) (by omega) (by omega);refine Ev.step (f:=fun k=>bg.l0 k (n+1) (v / 2)) (fun k=>?_) (by rw[hb,show n+((bl (v / 2)+1:Nat):Int)=n+1+(bl (v / 2):Int) by omega];exact key);simp only[bg.l0];rw[if_pos (by omega),w64 (x:=n+1) (by omega) (by omega),Int.tdiv_eq_ediv_of_nonneg h0,w64 (by omega) (by omega)]
  ·obtain rfl:v=0:=by omega
   refine Ev.step (f:=fun _=>some n) (fun k=>?_) (by rw[xP];exact (Int.add_zero n).symm ▸ Ev.now _);simp only[bg.l0];rw[if_neg (by omega)]
theorem yN {A b:Int}(hb:1<b)(hA:0<A):∃ n,(enc b A).length=n+1∧(enc b A).getD n 0=A / pw b n∧0<A / pw b n∧A / pw b n<b:=by
 have h0:=(qH hb (Int.le_of_lt hA) 0).2 (by rw[fG];exact hA)
 obtain⟨n,hn⟩:∃ n,(enc b A).length=n+1:=⟨(enc b A).length-1,by omega⟩
 have h1:=(qH hb (Int.le_of_lt hA) n).1 (by omega)
 have h2:A / pw b n<b:=by
  have h3:=kW (by omega) (fJ hb A);rw[fC hb (Int.le_of_lt hA),hn,fA,Int.mul_comm]at h3;exact Int.ediv_lt_of_lt_mul (jQ (by omega) n) h3
 exact⟨n,hn,by rw[jC hb (Int.le_of_lt hA),Int.emod_eq_of_lt (by omega) h2],h1,h2⟩
theorem Hw {A:Int}(hA:0≤A)(hL:(enc D A).length≤1099511627776):Ev (fun k=>bg.f k (enc D A)) ((bl A:Nat):Int):=by
 by_cases h:0<A
 ·obtain⟨n,hn,hg,h1,h2⟩:=yN D1 h
  have hw:ae (wrap64 (((enc D A).length:Int)-1)=(n:Int)):=⟨by rw[w64 (by omega) (by omega)];omega⟩
  have e:(bl A:Int)=((24*n:Nat):Int)+(bl (A / pw D n):Int):=by
   have:=Om hA (24*n) (by rw[← pwD];exact h1);rw[← pwD]at this
   omega
  have hbl:bl (A / pw D n)≤24:=O0 (by rw[JB];exact h2);refine Ev.congr (f:=fun k=>bg.l0 k ((24*n:Nat):Int) (A / pw D n)) (fun k=>?_) (by rw[e];exact Yf 24 _ _ (Int.le_of_lt h1) hbl (by rw[vN]at h2 ⊢;omega) (by omega) (by omega));unfold bg.f;rw[if_neg (by omega),hw.out,if_pos (by omega),if_pos (by omega),eF,hg,w64 (by omega) (by omega)]
  rfl
 ·obtain rfl:A=0:=by omega
  refine Ev.congr (f:=fun _=>some 0) (fun k=>?_) (by rw[xP];exact Ev.now _);rw[eX];unfold bg.f;rw[if_pos (by simp)]
def blN:Nat→Nat→Nat
 | 0,_=>0
 | k+1,v=>if v=0 then 0 else blN k (v / 2)+1
def len8:ByteArray:=⟨#[0,1,2,2,3,3,3,3,4,4,4,4,4,4,4,4,5,5,5,5,5,5,5,5,5,5,5,5,5,5,5,5,6,6,6,6,6,6,6,6,6,6,6,6,6,6,6,6,6,6,6,6,6,6,6,6,6,6,6,6,6,6,6,6,7,7,7,7,7,7,7,7,7,7,7,7,7,7,7,7,7,7,7,7,7,7,7,7,7,7,7,7,7,7,7,7,7,7,7,7,7,7,7,7,7,7,7,7,7,7,7,7,7,7,7,7,7,7,7,7,7,7,7,7,7,7,7,7,8,8,8,8,8,8,8,8,8,8,8,8,8,8,8,8,8,8,8,8,8,8,8,8,8,8,8,8,8,8,8,8,8,8,8,8,8,8,8,8,8,8,8,8,8,8,8,8,8,8,8,8,8,8,8,8,8,8,8,8,8,8,8,8,8,8,8,8,8,8,8,8,8,8,8,8,8,8,8,8,8,8,8,8,8,8,8,8,8,8,8,8,8,8,8,8,8,8,8,8,8,8,8,8,8,8,8,8,8,8,8,8,8,8,8,8,8,8,8,8,8,8,8,8,8,8,8,8]⟩
attribute [local irreducible] len8
theorem Js:∀ (k x:Nat),k≤64→x<2 ^ k→Lib.bitLen x=bl (x:Int)
 | 0,x,_,h=>by
  have:x=0:=by rw[Nat.pow_zero]at h;omega
  subst this;show Lib.bitLen 0=bl 0;rw[xP];rfl
 | k+1,x,hk,h=>by
  by_cases h0:x=0
  ·subst h0
   show Lib.bitLen 0=bl 0;rw[xP];rfl
  ·have h64:x<2 ^ 64:=Nat.lt_of_lt_of_le h (Nat.pow_le_pow_right (by omega) hk)
   rw[Lib.bitLen_half x h0 h64,Di (by omega),Js k (x / 2) (by omega) (by rw[Nat.pow_succ]at h;omega),Nat.add_comm]
   congr 1
theorem OA {x:Int}(h0:0≤x)(h1:x<B):Ev (fun k=>bits_Len64.f k x) (bl x:Int):=by
 rw[uh]at h1;refine⟨0,fun k _=>?_⟩;unfold bits_Len64.f;rw[if_pos (by omega)];obtain⟨v,rfl⟩:=Int.eq_ofNat_of_zero_le h0;rw[Int.toNat_natCast,Js 64 v (Nat.le_refl _) (by omega)]
theorem Hl {a:List Int}(ha:Dig B a)(hL:a.length≤1099511627776):Ev (fun k=>pg.f k a) ((bl (val B a):Nat):Int):=by
 have hA:=fD jw ha;have la:=nR B1 ha;refine Ev.congr (fun k=>rfl) (Ev.bind (og ha hL) ?_)
 by_cases h:0<val B a
 ·obtain⟨n,hn,hg,h1,h2⟩:=yN B1 h
  have hw:ae (wrap64 (((enc B (val B a)).length:Int)-1)=(n:Int)):=⟨by rw[w64 (by omega) (by omega)];omega⟩
  have e:(bl (val B a):Int)=((64*n:Nat):Int)+(bl (val B a / pw B n):Int):=by
   have:=Om hA (64*n) (by rw[← pwB];exact h1);rw[← pwB]at this
   omega
  have hbl:bl (val B a / pw B n)≤64:=O0 (by rw[Dv];exact h2);refine Ev.congr (f:=fun k=>(bits_Len64.f k (val B a / pw B n)).bind fun t=>some (wrap64 (wrap64 (64*(n:Int))+t))) (fun k=>?_) (Ev.bind (OA (Int.le_of_lt h1) h2) ?_)
  ·rw[if_neg (by omega),hw.out,if_pos (by omega),if_pos (by omega),eF,hg]
  ·rw[w64 (x:=64*(n:Int)) (by omega) (by omega),w64 (by omega) (by omega),e,show ((64*n:Nat):Int)=64*(n:Int) by omega]
   exact Ev.now _
 ·have h0:val B a=0:=by omega
  refine Ev.congr (f:=fun _=>some 0) (fun k=>?_) (by rw[h0,xP];exact Ev.now _);rw[h0,eX,if_pos (by simp)]
theorem aad (k:Nat):Int.tdiv (k:Int) 64=((k / 64:Nat):Int):=by rw[Int.tdiv_eq_ediv_of_nonneg (by omega)];omega
theorem OG (k:Nat):Int.tmod (k:Int) 64=((k % 64:Nat):Int):=by rw[Int.tmod_eq_emod_of_nonneg (by omega)];omega
theorem xR (k:Nat):pw 2 k=pw 2 (k % 64)*pw B (k / 64):=by rw[pwB, ← qA];congr 1;omega
theorem xX (x:Int){s:Nat}(h:s≤64):shl .u64 x (s:Int)=x*pw 2 s % B:=by
 have e:min (s:Int).toNat IntKind.u64.bits=s:=by rw[Int.toNat_natCast];exact Nat.min_eq_left h
 unfold shl;rw[e,IntKind.wrap_u64,uq,uh]
theorem ww (x:Int){s:Nat}(h:s≤64):shr .u64 x (s:Int)=x / pw 2 s:=by
 have e:min (s:Int).toNat IntKind.u64.bits=s:=by rw[Int.toNat_natCast];exact Nat.min_eq_left h
 unfold shr;rw[e,uq]
theorem GY {x y:Int}{i:Nat}(hx0:0≤x)(hx:x % pw 2 i=0)(hx1:x<B)(hy0:0≤y)(hy:y<pw 2 i)(hy1:y<B):Go.bits .or .u64 x y=x+y:=by
 rw[uh]at hx1 hy1;rw[uq]at hx hy;exact bits_join .u64 64 (by decide) (fun n a b=>tJ a (by omega)) i x y hx0 hx (by omega) hy0 hy (by omega)
theorem G9 {x y:Int}(hx0:0≤x)(hx1:x<B)(hy0:0≤y)(hy1:y<B):Go.bits .or .u64 x y=Go.bits .or .u64 y x:=by
 rw[uh]at hx1 hy1;obtain⟨a,rfl⟩:=Int.eq_ofNat_of_zero_le hx0;obtain⟨b,rfl⟩:=Int.eq_ofNat_of_zero_le hy0;have hk:∀ n:Int,0≤n→n<2 ^ 64→IntKind.u64.wrap n=n:=fun n a b=>tJ a (by omega);rw[(bits_nat .u64 64 (by decide) hk a b (by omega) (by omega)).2,(bits_nat .u64 64 (by decide) hk b a (by omega) (by omega)).2,Nat.or_comm]
theorem AX {s:Nat}(h:s≤64):pw 2 s*pw 2 (64-s)=B:=by rw[← qA, ← Dv];congr 1;omega
theorem NI {i:Nat}(h:i≤64):pw 2 i≤B:=by rw[← Dv];exact EN (by decide) h
theorem Fh {a P Q:Int}(hP:0<P)(hQ:0<Q)(ha:0≤a)(ha1:a<P*Q):a*P=a*P % (P*Q)+P*Q*(a / Q)∧a*P % (P*Q) % P=0∧0≤a*P % (P*Q)∧a*P % (P*Q)+P≤P*Q∧0≤a / Q∧a / Q<P:=by
 have h1:=Int.mul_ediv_add_emod a Q;have h2:=Int.emod_nonneg a (show Q≠0 by omega);have h3:=Int.emod_lt_of_pos a hQ
 have e:a*P=a % Q*P+P*Q*(a / Q):=by
  have:a*P=(Q*(a / Q)+a % Q)*P:=by rw[h1]
  rw[this];grind
 have l0:0≤a % Q*P:=Int.mul_nonneg h2 (by omega);have l1:(a % Q+1)*P≤Q*P:=Int.mul_le_mul_of_nonneg_right (by omega) (by omega);rw[Int.add_mul,Int.one_mul,Int.mul_comm Q]at l1
 have e2:a*P % (P*Q)=a % Q*P:=by
  rw[e,Int.add_mul_emod_self_left];exact Int.emod_eq_of_lt l0 (by omega)
 rw[e2];refine⟨e,by rw[Int.mul_emod_left],l0,l1,Int.ediv_nonneg ha (by omega),Int.ediv_lt_of_lt_mul hQ ha1⟩
theorem ry (l:List Int)(i:Nat)(v:Int)(h:i<l.length):(l.set i v).getD i 0=v:=by
 simp[List.getD_eq_getElem?_getD,h]
theorem Jb {A c lo hi a p b P V:Int}(hV:V=A*P)(h:a*P=lo+b*hi):V+p*(c+lo-c)+p*b*hi=(A+p*a)*P:=by grind
theorem Uy {a:List Int}(ha:Dig B a){s:Nat}(hs:s<64)(hL:a.length≤1099511627775):∀ (d i:Nat) (x:List Int),i+d=a.length→x.length=a.length+1→Dig B x→(∀ j,i<j→x.getD j 0=0)→x.getD i 0<pw 2 s→val B x=val B (a.take i)*pw 2 s →
  ∃ r,r.length=a.length+1∧Dig B r∧val B r=val B a*pw 2 s∧Ev (fun k=>dH.l0 k (s:Int) x a (a.length:Int) (i:Int)) r:=by
 intro d
 induction d with
 | zero =>
  intro i x hi hx hd hz hc hv
  obtain rfl:i=a.length:=by omega
  rw[List.take_length]at hv;refine⟨x,hx,hd,hv,Ev.step (f:=fun _=>some x) (fun k=>?_) (Ev.now _)⟩;simp only[dH.l0];rw[if_neg (by omega)]
 | succ d ih =>
  intro i x hi hx hd hz hc hv
  have hw:ae (wrap64 ((i:Int)+1)=((i+1:Nat):Int)):=⟨by rw[w64 (by omega) (by omega)];omega⟩
  have hws:ae (wrap64 (64-(s:Int))=((64-s:Nat):Int)):=⟨by rw[w64 (by omega) (by omega)];omega⟩
  have hlt:i<x.length:=by omega
  have hlt1:i+1<x.length:=by omega
  have hi1:i+1+d=a.length:=by omega
  have hP:=jL s;have hQ:=jL (64-s);have hPQ:=AX (s:=s) (by omega);obtain⟨ga0,ga1⟩:=ha.get jw i;obtain⟨gx0,gx1⟩:=hd.get jw i;obtain⟨e1,e2,e3,e4,e5,e6⟩:=Fh hP hQ ga0 (by rw[hPQ];exact ga1);rw[hPQ]at e1 e2 e3 e4
  have hor:Go.bits .or .u64 (x.getD i 0) (a.getD i 0*pw 2 s % B)=x.getD i 0+a.getD i 0*pw 2 s % B:=by
   rw[G9 gx0 gx1 e3 (by omega),GY e3 e2 (by omega) gx0 hc gx1,Int.add_comm]
  have hd':Dig B (x.set i (x.getD i 0+a.getD i 0*pw 2 s % B)):=hd.set (by omega) (by omega)
  have hz':∀ j,i<j→(x.set i (x.getD i 0+a.getD i 0*pw 2 s % B)).getD j 0=0:=fun j hj=>by rw[qw _ _ _ _ (by omega)];exact hz j hj
  have hPB:=NI (i:=s) (by omega)
  by_cases hs0:0<s
  ·obtain⟨r,r1,r2,r3,r4⟩:=ih (i+1) ((x.set i (x.getD i 0+a.getD i 0*pw 2 s % B)).set (i+1) (a.getD i 0 / pw 2 (64-s))) hi1 (by simpa using hx) (hd'.set e5 (by omega)) (fun j hj=>by rw[qw _ _ _ _ (by omega)];exact hz' j (by omega)) (by rw[ry _ _ _ (by simpa using hlt1)];exact e6) (by
    rw[pG B _ _ _ (by simpa using hlt1),hz' (i+1) (by omega),Int.sub_zero,pG B x i _ hlt,eP B a,fA]
    exact Jb hv e1)
   refine⟨r,r1,r2,r3,Ev.step (f:=fun k=>dH.l0 k (s:Int) ((x.set i (x.getD i 0+a.getD i 0*pw 2 s % B)).set (i+1) (a.getD i 0 / pw 2 (64-s))) a (a.length:Int) ((i+1:Nat):Int)) (fun k=>?_) r4⟩;simp only[dH.l0];rw[if_pos (by omega),if_pos (by omega),if_pos (by omega),if_pos (by omega),if_pos (by omega),eF,eF,xX _ (by omega),hor];simp only[Option.bind_some];rw[if_pos (by omega),hws.out,hw.out,if_pos (by omega),if_pos (by omega),if_pos (by omega),ww _ (by omega),Int.toNat_natCast,Int.toNat_natCast]
  ·obtain rfl:s=0:=by omega
   have hq0:a.getD i 0 / pw 2 (64-0)=0:=by rw[Nat.sub_zero,Dv];exact Int.ediv_eq_zero_of_lt ga0 ga1
   rw[hq0,Int.mul_zero]at e1
   obtain⟨r,r1,r2,r3,r4⟩:=ih (i+1) (x.set i (x.getD i 0+a.getD i 0*pw 2 0 % B)) hi1 (by simpa using hx) hd' (fun j hj=>hz' j (by omega)) (by rw[hz' (i+1) (by omega)];exact hP) (by
    rw[pG B x i _ hlt,eP B a];have:=Jb (p:=pw B i) (c:=x.getD i 0) (hi:=0) (b:=B) hv (by rw[Int.mul_zero];exact e1);rw[Int.mul_zero,Int.add_zero]at this
    exact this)
   refine⟨r,r1,r2,r3,Ev.step (f:=fun k=>dH.l0 k ((0:Nat):Int) (x.set i (x.getD i 0+a.getD i 0*pw 2 0 % B)) a (a.length:Int) ((i+1:Nat):Int)) (fun k=>?_) r4⟩;simp only[dH.l0];rw[if_pos (by omega),if_pos (by omega),if_pos (by omega),if_pos (by omega),if_pos (by omega),eF,eF,xX _ (by omega),hor];simp only[Option.bind_some];rw[if_neg (by omega),hw.out,Int.toNat_natCast]
theorem Cj {a:List Int}(ha:Dig B a){s:Nat}(hs:s<64)(hL:a.length≤1099511627775) :
  ∃ r,r.length=a.length+1∧Dig B r∧val B r=val B a*pw 2 s∧Ev (fun k=>dH.f k a (s:Int)) r:=by
 have hw:ae (wrap64 ((a.length:Int)+1)=((a.length+1:Nat):Int)):=⟨by rw[w64 (by omega) (by omega)];omega⟩
 have hz:∀ j,(List.replicate (a.length+1) (0:Int)).getD j 0=0:=fun j=>by simp[List.getD_eq_getElem?_getD,List.getElem?_replicate];split <;> rfl
 obtain⟨r,r1,r2,r3,r4⟩:=Uy ha hs hL a.length 0 (List.replicate (a.length+1) 0) (by omega) (by simp) (Dig.zeros jw _) (fun j _=>hz j) (by rw[hz];exact jL s) (by rw[wC,List.take_zero,nG,Int.zero_mul]);refine⟨r,r1,r2,r3,Ev.congr (fun k=>?_) r4⟩;unfold dH.f;rw[hw.out,if_pos (by omega),Int.toNat_natCast,if_pos (by omega)]
 rfl
theorem abZ {a:List Int}(ha:Dig B a)(hL:a.length≤1073741824)(k:Nat)(hk:k≤65536):Ev (fun n=>lQ.f n a (k:Int)) (enc B (val B a*pw 2 k),none):=by
 have hA:=fD jw ha;have la:=nR B1 ha
 have hq:ae (wrap64 (Int.tdiv (k:Int) 64)=((k / 64:Nat):Int)):=⟨by rw[aad];exact w64 (by omega) (by omega)⟩
 refine Ev.congr (fun n=>by unfold lQ.f;rw[if_neg (by omega),if_neg (by omega)]) (Ev.bind (og ha (by omega)) ?_)
 by_cases h:0<val B a
 ·have hl:=(qH B1 hA 0).2 (by rw[fG];exact h)
  obtain⟨r,r1,r2,r3,r4⟩:=Cj (fJ B1 (val B a)) (s:=k % 64) (by omega) (by omega);rw[fC B1 hA]at r3;have hd:Dig B (List.replicate (k / 64) 0++r):=(Dig.zeros jw _).append r2
  have hv:val B (List.replicate (k / 64) 0++r)=val B a*pw 2 k:=by rw[Am,r3,xR k,Int.mul_comm,Int.mul_assoc]
  have ht:=og hd (by rw[List.length_append,List.length_replicate,r1];omega);rw[hv]at ht
  refine Ev.congr (f:=fun n=>(dH.f n (enc B (val B a)) ((k % 64:Nat):Int)).bind fun t=>if (List.replicate (k / 64) (0:Int)).length+t.length<17592186044416 then ((bH.f n (List.replicate (k / 64) 0++t)).bind fun u=>some (u,none)) else none) (fun n=>?_)
   (Ev.bind r4 (Ev.congr (fun n=>by rw[if_pos (by rw[List.length_replicate,r1];omega)]) (Ev.bind ht (Ev.now _))))
  rw[if_neg (by omega),hq.out,if_pos (by omega),Int.toNat_natCast,if_pos (by omega),OG,Option.bind_some]
 ·have h0:val B a=0:=by omega
  rw[h0,Int.zero_mul,eX];exact Ev.congr (f:=fun _=>some ([],none)) (fun n=>by rw[if_pos (by simp)]) (Ev.now _)
def xJ (l:List Int):Bool:=l.any (fun x=>x != 0)
theorem KI (x:Int)(l:List Int):xJ (x::l)=((x != 0) || xJ l):=rfl
theorem PU {l:List Int}:xJ l=true ↔ ¬ ∀ x ∈ l,x=0:=by
 unfold xJ;rw[List.any_eq_true]
 constructor
 ·rintro⟨x,hx,h⟩ hall
  rw[hall x hx]at h;exact absurd h (by decide)
 ·intro h
  refine Decidable.byContradiction fun hn=>h fun x hx=>Decidable.byContradiction fun hx0=>hn ⟨x,hx,bne_iff_ne.2 hx0⟩
theorem afH (c:Int)(q:List Int)(l:List Int)(hL:l.length≤1099511627776)(r:List Int)(next:∀ b:Bool,Ev (fun k=>eQ.l1 k c q b (q.length:Int) 0) (r,b,none)):∀ (d i:Nat) (b:Bool),i+d=l.length →
  Ev (fun k=>eQ.l0 k c q b l (l.length:Int) (i:Int)) (r,b || xJ (l.drop i),none):=by
 intro d
 induction d with
 | zero =>
  intro i b hi
  obtain rfl:i=l.length:=by omega
  have e:(b || xJ (l.drop l.length))=b:=by rw[List.drop_length];exact Bool.or_false b
  rw[e];refine Ev.step (f:=fun k=>eQ.l1 k c q b (q.length:Int) 0) (fun k=>?_) (next b);simp only[eQ.l0];rw[if_neg (by omega)]
 | succ d ih =>
  intro i b hi
  have hw:ae (wrap64 ((i:Int)+1)=((i+1:Nat):Int)):=⟨by rw[w64 (by omega) (by omega)];omega⟩
  have hd:l.drop i=l.getD i 0::l.drop (i+1):=by rw[List.drop_eq_getElem_cons (by omega),List.getD_eq_getElem?_getD,List.getElem?_eq_getElem (by omega)];rfl
  cases b with
  | true =>
   have key:=ih (i+1) true (by omega);rw[Bool.true_or]at key ⊢;refine Ev.step (f:=fun k=>eQ.l0 k c q true l (l.length:Int) ((i+1:Nat):Int)) (fun k=>?_) key;simp only[eQ.l0];rw[if_pos (by omega),if_pos (by omega),if_pos (by omega),if_pos trivial,hw.out]
  | false =>
   have key:=ih (i+1) (l.getD i 0 != 0) (by omega)
   have e:(false || xJ (l.drop i))=((l.getD i 0 != 0) || xJ (l.drop (i+1))):=by rw[hd,KI,Bool.false_or]
   rw[e];refine Ev.step (f:=fun k=>eQ.l0 k c q (l.getD i 0 != 0) l (l.length:Int) ((i+1:Nat):Int)) (fun k=>?_) key;simp only[eQ.l0];rw[if_pos (by omega),if_pos (by omega),if_pos (by omega),if_neg (by decide),hw.out,eF]
theorem Lm {d g P:Int}(hg:0<g):d*g % (P*g)=d % P*g:=by rw[Int.mul_comm d,Int.mul_comm P,Int.mul_comm (d % P)];exact Int.mul_emod_mul_of_pos _ _ hg
theorem SI {d:Int}{s:Nat}(hs:s≤63):shl .u64 (IntKind.u64.wrap (d*2)) (((63-s:Nat):Nat):Int)=d % pw 2 s*pw 2 (64-s):=by
 rw[xX _ (by omega),IntKind.wrap_u64, ← uh];have e:=AQ (d*2) (pw 2 (63-s)) 0 (b:=B);rw[Int.add_zero,Int.add_zero]at e;rw[e,Int.mul_assoc,show 2*pw 2 (63-s)=pw 2 (64-s) by rw[show 64-s=63-s+1 by omega,fA,Int.mul_comm], ← AX (s:=s) (by omega)];exact Lm (jL _)
theorem agf {M:Int}(hM:0≤M){c:Nat}(b:Bool)(hL:(enc B M).length≤1099511627776):∀ (d i:Nat) (x:List Int),i+d=(enc B M).length→x.length=(enc B M).length→Dig B x→(∀ j,i≤j→x.getD j 0=M / pw B j % B)→val B (x.take i)=M / pw 2 (c % 64) % pw B i →
  Ev (fun k=>eQ.l1 k (c:Int) x b ((enc B M).length:Int) (i:Int)) (enc B (M / pw 2 (c % 64)),b,none):=by
 have hf:=jL (c % 64);have hfD:pw 2 (c % 64)*pw 2 (64-c % 64)=B:=AX (by omega);have hg:=jL (64-c % 64);have hMs:=Int.ediv_nonneg hM (Int.le_of_lt hf);intro d
 induction d with
 | zero =>
  intro i x hi hx hd hj hv
  obtain rfl:i=x.length:=by omega
  rw[List.take_length]at hv
  have hlt:M / pw 2 (c % 64)<pw B x.length:=by
   rw[hx];refine Int.lt_of_le_of_lt (Int.ediv_le_self _ hM) ?_;have:=kW jw (fJ B1 M);rw[fC B1 hM]at this;exact this
  rw[Int.emod_eq_of_lt hMs hlt]at hv;refine Ev.step (f:=fun k=>(bH.f k x).bind fun t=>some (t,b,none)) (fun k=>?_) (Ev.bind (by rw[← hv];exact og hd (by omega)) (Ev.now _));simp only[eQ.l1];rw[if_neg (by omega)]
 | succ d ih =>
  intro i x hi hx hd hj hv
  have hw1:ae (wrap64 ((i:Int)+1)=((i+1:Nat):Int)):=⟨by rw[w64 (by omega) (by omega)];omega⟩
  have hw2:ae (wrap64 (63-((c % 64:Nat):Int))=((63-c % 64:Nat):Int)):=⟨by rw[w64 (by omega) (by omega)];omega⟩
  have hlt:i<x.length:=by omega
  have hi1:i+1+d=(enc B M).length:=by omega
  have hMi:=gK jw hM i;have hsd:=Ci hf hg hMi;rw[hfD, ← lu jw]at hsd;have hcc:M / pw B i / pw 2 (c % 64)=M / pw 2 (c % 64) / pw B i:=vP (Int.le_of_lt (jQ jw i)) (Int.le_of_lt hf);rw[hcc]at hsd;have akQ:=Int.emod_nonneg (M / pw 2 (c % 64) / pw B i) (show B≠0 by have:=B1;omega);have Xg:=Int.emod_lt_of_pos (M / pw 2 (c % 64) / pw B i) jw
  have key:=ih (i+1) (x.set i (M / pw 2 (c % 64) / pw B i % B)) hi1 (by simpa using hx) (hd.set akQ Xg) (fun j hj'=>by rw[qw _ _ _ _ (by omega)];exact hj j (by omega)) (by
   rw[rq B x i _ hlt,hv, ← qB jw hMs i,Int.mul_comm (pw B i)];omega)
  have a0:=Int.emod_nonneg (M / pw B i) (show B≠0 by have:=B1;omega);have a1:=Int.emod_lt_of_pos (M / pw B i) jw;have q0:0≤M / pw B i % B / pw 2 (c % 64):=Int.ediv_nonneg a0 (Int.le_of_lt hf);have q1:M / pw B i % B / pw 2 (c % 64)<pw 2 (64-c % 64):=Int.ediv_lt_of_lt_mul hf (by rw[Int.mul_comm,hfD];exact a1);have q2:M / pw B i % B / pw 2 (c % 64)≤M / pw B i % B:=Int.ediv_le_self _ a0
  by_cases hn:i+1<x.length
  ·have c0:=Int.emod_nonneg (M / pw B (i+1) % B) (show pw 2 (c % 64)≠0 by omega)
   have p0:0≤M / pw B (i+1) % B % pw 2 (c % 64)*pw 2 (64-c % 64):=Int.mul_nonneg c0 (Int.le_of_lt hg);rw[hsd]at key Xg
   have hor:Go.bits .or .u64 (M / pw B i % B / pw 2 (c % 64)) (M / pw B (i+1) % B % pw 2 (c % 64)*pw 2 (64-c % 64))=M / pw B i % B / pw 2 (c % 64)+M / pw B (i+1) % B % pw 2 (c % 64)*pw 2 (64-c % 64):=by
    rw[G9 q0 (by omega) p0 (by omega),GY p0 (Int.mul_emod_left _ _) (by omega) q0 q1 (by omega),Int.add_comm]
   refine Ev.step (f:=fun k=>eQ.l1 k (c:Int) (x.set i (M / pw B i % B / pw 2 (c % 64)+M / pw B (i+1) % B % pw 2 (c % 64)*pw 2 (64-c % 64))) b ((enc B M).length:Int) ((i+1:Nat):Int)) (fun k=>?_) key;simp only[eQ.l1];rw[OG,hw1.out,hw2.out,if_pos (by omega),if_pos (by omega),if_pos (by omega),if_pos (by omega)];simp only[Option.bind_some];rw[if_pos (by omega),if_pos (by omega),if_pos (by omega),eF,eF,eF,Int.toNat_natCast,ry _ _ _ hlt,qw _ _ _ _ (by omega),hj i (by omega),hj (i+1) (by omega),ww _ (by omega),SI (by omega),hor,List.set_set]
  ·have hz:M / pw B (i+1) % B=0:=by
    have:=hj (i+1) (by omega);rw[List.getD_eq_getElem?_getD,List.getElem?_eq_none (by omega)]at this;exact this.symm
   rw[hz,Int.zero_emod,Int.zero_mul,Int.add_zero]at hsd;rw[hsd]at key;refine Ev.step (f:=fun k=>eQ.l1 k (c:Int) (x.set i (M / pw B i % B / pw 2 (c % 64))) b ((enc B M).length:Int) ((i+1:Nat):Int)) (fun k=>?_) key;simp only[eQ.l1];rw[OG,hw1.out,hw2.out,if_pos (by omega),if_pos (by omega),if_pos (by omega),if_pos (by omega)];simp only[Option.bind_some];rw[if_neg (by omega),eF,Int.toNat_natCast,hj i (by omega),ww _ (by omega)]
theorem Jl {b:Int}(hb:0<b){l:List Int}(h:Dig b l):val b l=0 ↔ ∀ x ∈ l,x=0:=by
 induction l with
 | nil=>simp[nG]
 | cons x r ih =>
  have h0:=fD hb h.tail;have hx:=h.head;have hm:=Int.mul_nonneg (Int.le_of_lt hb) h0;rw[jm]
  constructor
  ·intro e
   have e1:x=0:=by omega
   have e2:b*val b r=0:=by omega
   have e3:val b r=0:=by rcases Int.mul_eq_zero.1 e2 with z|z <;> omega
   intro y hy;rcases List.mem_cons.1 hy with h1|h1
   ·rw[h1];exact e1
   ·exact (ih h.tail).1 e3 y h1
  ·intro e
   rw[e x List.mem_cons_self,(ih h.tail).2 (fun y hy=>e y (List.mem_cons_of_mem _ hy)),Int.mul_zero];rfl
theorem JG {b A:Int}(hb:1<b)(hA:0≤A)(q:Nat):val b ((enc b A).take q)=A % pw b q:=by
 have hd:=fJ hb A
 have h1:val b ((enc b A).take q)=A % pw b q:=by
  have h2:=nC b ((enc b A).take q) ((enc b A).drop q);rw[List.take_append_drop,fC hb hA,BU hb hA,fC hb (gK (by omega) hA q)]at h2
  by_cases hq:q≤(enc b A).length
  ·rw[List.length_take,Nat.min_eq_left hq]at h2
   have:=Int.mul_ediv_add_emod A (pw b q)
   omega
  ·rw[List.take_of_length_le (by omega),fC hb hA]
   have h3:=kW (by omega) hd;rw[fC hb hA]at h3;exact (Int.emod_eq_of_lt hA (Int.lt_of_lt_of_le h3 (EN (by omega) (by omega)))).symm
 exact h1
theorem xG {A p q:Int}(hp:0<p)(hq:0<q)(hA:0≤A):A % (p*q)=A / p % q*p+A % p:=by
 have h1:=Int.mul_ediv_add_emod A p;have h2:=Int.mul_ediv_add_emod (A / p) q;have h3:=Int.emod_nonneg A (show p≠0 by omega);have h4:=Int.emod_lt_of_pos A hp;have h5:=Int.emod_nonneg (A / p) (show q≠0 by omega);have h6:=Int.emod_lt_of_pos (A / p) hq
 have e:A=A / p % q*p+A % p+p*q*(A / p / q):=by
  generalize hs:A / p / q=s at *;generalize A / p % q=t at *;generalize hq':A / p=u at *;generalize A % p=r at *;rw[← h1, ← h2]
  grind
 have lo:0≤A / p % q*p+A % p:=by have:=Int.mul_nonneg h5 (Int.le_of_lt hp);omega
 have hi:A / p % q*p+A % p<p*q:=by
  have h7:(A / p % q+1)*p≤q*p:=Int.mul_le_mul_of_nonneg_right (by omega) (Int.le_of_lt hp);rw[Int.add_mul,Int.one_mul,Int.mul_comm q]at h7
  omega
 have h8:=Int.add_mul_emod_self_left (A / p % q*p+A % p) (p*q) (A / p / q);rw[← e,Int.emod_eq_of_lt lo hi]at h8;exact h8
theorem Ye {A:Int}(hA:0≤A)(k:Nat):A % pw 2 k≠0 ↔ A / pw B (k / 64) % pw 2 (k % 64)≠0∨A % pw B (k / 64)≠0:=by
 have hp:=jQ jw (k / 64);have e:=xG hp (jL (k % 64)) hA;rw[Int.mul_comm, ← xR]at e;have h3:=Int.emod_nonneg A (show pw B (k / 64)≠0 by omega);have h5:=Int.emod_nonneg (A / pw B (k / 64)) (show pw 2 (k % 64)≠0 by have:=jL (k % 64);omega);have h6:=Int.mul_nonneg h5 (Int.le_of_lt hp);rw[e]
 constructor
 ·intro h
  by_cases h7:A % pw B (k / 64)=0
  ·left
   intro h8;rw[h8,Int.zero_mul]at h
   omega
  ·exact .inr h7
 ·intro h h9
  rcases h with h|h
  ·have h10:A / pw B (k / 64) % pw 2 (k % 64)*pw B (k / 64)=0:=by omega
   rcases Int.mul_eq_zero.1 h10 with z|z <;> omega
  ·omega
theorem abV {a:List Int}(ha:Dig B a)(hL:a.length≤1099511627775)(k:Nat)(hk:k≤9223372036854775807):Ev (fun n=>eQ.f n a (k:Int)) (enc B (val B a / pw 2 k),decide (val B a % pw 2 k≠0),none):=by
 have hA:=fD jw ha;have la:=nR B1 ha
 have hq:ae (wrap64 (Int.tdiv (k:Int) 64)=((k / 64:Nat):Int)):=⟨by rw[aad];exact w64 (by omega) (by omega)⟩
 have hw2:ae (wrap64 (63-((k % 64:Nat):Int))=((63-k % 64:Nat):Int)):=⟨by rw[w64 (by omega) (by omega)];omega⟩
 refine Ev.congr (fun n=>by unfold eQ.f;rw[if_neg (by omega)]) (Ev.bind (og ha (by omega)) ?_)
 by_cases h:(enc B (val B a)).length≤k / 64
 ·have hlt:val B a<pw 2 k:=by
   have h1:=kW jw (fJ B1 (val B a));rw[fC B1 hA]at h1;refine Int.lt_of_lt_of_le h1 ?_;rw[pwB];exact EN (by decide) (by omega)
  rw[Int.ediv_eq_zero_of_lt hA hlt,Int.emod_eq_of_lt hA hlt,eX]
  have e:decide (val B a≠0)=decide (((enc B (val B a)).length:Int) > 0):=by
   by_cases h0:val B a=0
   ·rw[h0,eX];simp
   ·have:=(qH B1 hA 0).2 (by rw[fG];omega)
    rw[decide_eq_true h0,decide_eq_true (by omega)]
  rw[e];exact Ev.congr (f:=fun _=>some ([],decide (((enc B (val B a)).length:Int) > 0),none)) (fun n=>by rw[hq.out,if_pos (by omega)]) (Ev.now _)
 ·have hM:=gK jw hA (k / 64)
  have hdr:=BU B1 hA (k / 64)
  have hlen:(enc B (val B a / pw B (k / 64))).length=(enc B (val B a)).length-k / 64:=by rw[← hdr,List.length_drop]
  have e:val B a / pw B (k / 64) / pw 2 (k % 64)=val B a / pw 2 k:=by
   rw[Int.ediv_ediv_of_nonneg (Int.le_of_lt (jQ jw _)),xR k,Int.mul_comm]
  have key:=afH (k:Int) (enc B (val B a / pw B (k / 64))) ((enc B (val B a)).take (k / 64)) (by rw[List.length_take];omega) (enc B (val B a / pw 2 k)) (fun b=>by
   have:=agf hM (c:=k) b (by omega) _ 0 (enc B (val B a / pw B (k / 64))) (Nat.zero_add _) rfl (fJ B1 _) (fun j _=>jC B1 hM j) (by rw[List.take_zero,nG,iW,Int.emod_one]);rw[e]at this
   exact this) _ 0 (val B a / pw B (k / 64) % B % pw 2 (k % 64)*pw 2 (64-k % 64) != 0) (Nat.zero_add _)
  have eb:((val B a / pw B (k / 64) % B % pw 2 (k % 64)*pw 2 (64-k % 64) != 0) || xJ (((enc B (val B a)).take (k / 64)).drop 0))=decide (val B a % pw 2 k≠0):=by
   have hmm:val B a / pw B (k / 64) % B % pw 2 (k % 64)=val B a / pw B (k / 64) % pw 2 (k % 64):=Int.emod_emod_of_dvd _ ⟨pw 2 (64-k % 64),(AX (by omega)).symm⟩
   have hz:xJ (((enc B (val B a)).take (k / 64)).drop 0)=true ↔ val B a % pw B (k / 64)≠0:=by
    rw[List.drop_zero, ← JG B1 hA,Ne,Jl jw ((fJ B1 _).take _),PU]
   have hne:val B a / pw B (k / 64) % pw 2 (k % 64)*pw 2 (64-k % 64)=0 ↔ val B a / pw B (k / 64) % pw 2 (k % 64)=0:=by
    have:=jL (64-k % 64);rw[Int.mul_eq_zero]
    omega
   have hl:=Ye hA k;rw[hmm]
   by_cases c1:val B a % pw 2 k≠0
   ·rw[decide_eq_true c1]
    rcases hl.1 c1 with c2|c2
    ·rw[bne_iff_ne.2 (fun z=>c2 (hne.1 z)),Bool.true_or]
    ·rw[hz.2 c2,Bool.or_true]
   ·rw[decide_eq_false c1]
    have c2:val B a / pw B (k / 64) % pw 2 (k % 64)=0:=Decidable.byContradiction fun z=>c1 (hl.2 (.inl z));have c3:¬ val B a % pw B (k / 64)≠0:=fun z=>c1 (hl.2 (.inr z));rw[hne.2 c2,Bool.eq_false_iff.2 (fun z=>c3 (hz.1 z))]
    rfl
  rw[eb]at key;refine Ev.congr (fun n=>?_) key;have g0:=jC B1 hM 0;rw[fG]at g0;rw[hq.out,if_neg (by omega),if_pos (by omega),if_pos (by omega),Int.toNat_natCast,hdr,OG,hw2.out];simp only[Option.bind_some,List.nil_append,List.length_nil];rw[if_pos (by omega),if_pos (by omega),if_pos (by omega),show (rd (enc B (val B a / pw B (k / 64))) 0)=val B a / pw B (k / 64) % B from by rw[← g0];exact eF _ 0,SI (by omega)]
  rfl
def under (A:Int)(c:Nat):Nat:=bl A-c
theorem abK {a:List Int}(ha:Dig B a)(hL:a.length≤1073741824)(c:Nat)(h1:1≤c)(h2:c≤64) :
  Ev (fun n=>o9.f n a (c:Int)) (val B a / pw 2 (under (val B a) c) % B,((under (val B a) c:Nat):Int),decide (val B a % pw 2 (under (val B a) c)≠0),none):=by
 have hA:=fD jw ha;have lA:=kW jw ha;have hb:bl (val B a)≤64*a.length:=O0 (by rw[← pwB];exact lA)
 have hmx:ae (mx 0 (wrap64 ((bl (val B a):Int)-(c:Int)))=((under (val B a) c:Nat):Int)):=⟨by
  rw[w64 (by omega) (by omega)];unfold mx under
  split <;> omega⟩
 have hu:under (val B a) c≤64*a.length:=by unfold under;omega
 refine Ev.congr (f:=fun n=>o9.j0 n a (c:Int) false) (fun n=>by unfold o9.f;rw[if_neg (by omega),decide_eq_false (by omega)]) ?_;have hM:=Int.ediv_nonneg hA (Int.le_of_lt (jL (under (val B a) c)))
 refine Ev.step (f:=fun n=>(pg.f n a).bind fun t=>(eQ.f n a (mx 0 (wrap64 (t-(c:Int))))).bind fun u=>if u.2.2.isNone=true then (if (u.1.length:Int)=0 then some (0,0,false,none) else (if 0<(u.1.length:Int) then some (rd u.1 0,mx 0 (wrap64 (t-(c:Int))),u.2.1,none) else none)) else some (0,0,false,some (u.2.2.getD 0))) (fun n=>?_)
  (Ev.bind (Hl ha (by omega)) (Ev.bind (show Ev (fun n=>eQ.f n a (mx 0 (wrap64 ((bl (val B a):Int)-(c:Int))))) (enc B (val B a / pw 2 (under (val B a) c)),decide (val B a % pw 2 (under (val B a) c)≠0),none) by rw[hmx.out];exact abV ha (by omega) _ (by omega)) ?_))
 ·simp only[o9.j0]
  rw[if_neg (by decide)]
 ·simp only[Option.isNone_none,if_true]
  by_cases hp:0<val B a / pw 2 (under (val B a) c)
  ·have hl:=(qH B1 hM 0).2 (by rw[fG];exact hp)
   have g0:=jC B1 hM 0;rw[fG]at g0;refine Ev.congr (f:=fun _=>some _) (fun n=>?_) (Ev.now _);rw[if_neg (by omega),if_pos (by omega),hmx.out, ← g0]
   rfl
  ·have hz:val B a / pw 2 (under (val B a) c)=0:=by omega
   have hA0:val B a=0:=by
    rcases Int.lt_or_le 0 (val B a) with hpos|hle
    ·have hbl:=Di hpos
     have:=(ab5 hA (under (val B a) c)).1 (by unfold under;omega)
     omega
    ·omega
   have hu0:under (val B a) c=0:=by unfold under;rw[hA0,xP];omega
   rw[hu0,hA0,iW];refine Ev.congr (f:=fun _=>some (0,0,false,none)) (fun n=>?_) (Ev.now _);rw[Int.ediv_one,eX,if_pos (by simp)]
theorem acC {A:Int}(hA:0≤A)(hL:(enc D A).length≤1099511627776)(n:Nat)(hn:n≤9223372036854775807):∀ (d i:Nat),i+d=(enc D A).length→(24*i≤n→A % pw D i=0)→(n≤24*i→A % pw 2 n=0) →
  Ev (fun k=>aN.l0 k (enc D A) (n:Int) (i:Int)) (decide (A % pw 2 n≠0)):=by
 have stop:∀ i:Nat,A % pw 2 n=0→Ev (fun k=>aN.j1 k (enc D A) (n:Int) (i:Int) false) (decide (A % pw 2 n≠0)):=fun i h0=>by
  rw[decide_eq_false (fun z=>z h0)];refine Ev.step (f:=fun _=>some false) (fun k=>?_) (Ev.now _);simp only[aN.j1];rw[if_neg (by decide)]
 intro d
 induction d with
 | zero =>
  intro i hi h1 h2
  obtain rfl:i=(enc D A).length:=by omega
  have h0:A % pw 2 n=0:=by
   by_cases hc:n≤24*(enc D A).length
   ·exact h2 hc
   ·have h3:=h1 (by omega)
    have h4:=kW nX (fJ D1 A);rw[fC D1 hA]at h4;rw[Int.emod_eq_of_lt hA h4]at h3;rw[h3,Int.zero_emod]
  refine Ev.step (f:=fun k=>aN.j1 k (enc D A) (n:Int) ((enc D A).length:Int) false) (fun k=>?_) (stop _ h0);simp only[aN.l0];rw[if_neg (by omega)]
 | succ d ih =>
  intro i hi h1 h2
  have hw:ae (wrap64 ((i:Int)+1)=((i+1:Nat):Int)):=⟨by rw[w64 (by omega) (by omega)];omega⟩
  have afv:ae (wrap64 (24*(i:Int))=((24*i:Nat):Int)):=⟨by rw[w64 (by omega) (by omega)];omega⟩
  by_cases hc:24*i<n
  ·have hp:=jQ nX i
   have hz:=h1 (by omega);have hMi:=gK nX hA i;have a0:=Int.emod_nonneg (A / pw D i) (show D≠0 by have:=D1;omega)
   have hws:ae (wrap64 ((n:Int)-((24*i:Nat):Int))=((n-24*i:Nat):Int)):=⟨by rw[w64 (by omega) (by omega)];omega⟩
   have hj:Ev (fun k=>aN.j1 k (enc D A) (n:Int) (i:Int) true) (decide (A % pw 2 n≠0)):=by
    by_cases hr:n-24*i<24
    ·have hp2:=jL (n-24*i)
     have e:A % pw 2 n=A / pw D i % pw 2 (n-24*i)*pw D i:=by
      have e1:=xG hp hp2 hA;rw[pwD, ← qA,show 24*i+(n-24*i)=n by omega, ← pwD,hz,Int.add_zero]at e1;exact e1
     have e2:A / pw D i % D % pw 2 (n-24*i)=A / pw D i % pw 2 (n-24*i):=Int.emod_emod_of_dvd _ ⟨pw 2 (24-(n-24*i)),by rw[← qA, ← JB];congr 1;omega⟩
     have hiff:A % pw 2 n=0 ↔ A / pw D i % pw 2 (n-24*i)=0:=by rw[e,Int.mul_eq_zero];omega
     by_cases h0:A / pw D i % pw 2 (n-24*i)=0
     ·refine Ev.step (f:=fun k=>(bM.f k ((n-24*i:Nat):Int)).bind fun t=>if t=0 then none else (if Int.tmod (A / pw D i % D) t=0 then aN.l0 k (enc D A) (n:Int) ((i+1:Nat):Int) else some true)) (fun k=>?_)
       (Ev.bind (Hr (by omega)) (Ev.congr (fun k=>?_) (ih (i+1) (by omega) (fun z=>by omega) (fun _=>hiff.2 h0))))
      ·simp only[aN.j1]
       rw[if_pos trivial,afv.out,hws.out,if_pos (by omega)]
       congr 1
       funext t
       rw[if_pos (by omega),if_pos (by omega),eF,jC D1 hA,hw.out]
      ·rw[if_neg (by omega),Int.tmod_eq_emod_of_nonneg a0,e2,if_pos h0]
     ·rw[decide_eq_true (show A % pw 2 n≠0 from fun z=>h0 (hiff.1 z))]
      refine Ev.step (f:=fun k=>(bM.f k ((n-24*i:Nat):Int)).bind fun t=>if t=0 then none else (if Int.tmod (A / pw D i % D) t=0 then aN.l0 k (enc D A) (n:Int) ((i+1:Nat):Int) else some true)) (fun k=>?_)
       (Ev.bind (Hr (by omega)) (Ev.congr (f:=fun _=>some true) (fun k=>?_) (Ev.now _)))
      ·simp only[aN.j1]
       rw[if_pos trivial,afv.out,hws.out,if_pos (by omega)]
       congr 1
       funext t
       rw[if_pos (by omega),if_pos (by omega),eF,jC D1 hA,hw.out]
      ·rw[if_neg (by omega),Int.tmod_eq_emod_of_nonneg a0,e2,if_neg h0]
    ·have e:=qB nX hA i
     rw[hz,Int.add_zero]at e
     have e2:Int.tmod (A / pw D i % D) 16777216=A / pw D i % D:=by rw[Uu a0];exact Int.emod_emod_of_dvd _ (Int.dvd_refl D)
     by_cases h0:A / pw D i % D=0
     ·rw[h0,Int.zero_mul]at e
      refine Ev.step (f:=fun k=>aN.l0 k (enc D A) (n:Int) ((i+1:Nat):Int)) (fun k=>?_) (ih (i+1) (by omega) (fun _=>e.symm) (fun z=>by
       have:n=24*(i+1):=by omega
       rw[this, ← pwD];exact e.symm))
      simp only[aN.j1];rw[if_pos trivial,afv.out,hws.out,if_neg (by omega),if_pos (by omega),if_pos (by omega),eF,jC D1 hA,e2,if_pos h0,hw.out]
     ·have hne:A % pw 2 n≠0:=fun z=>by
       have h5:A % pw 2 n % pw D (i+1)=A % pw D (i+1):=Int.emod_emod_of_dvd _ ⟨pw 2 (n-24*(i+1)),by rw[pwD, ← qA];congr 1;omega⟩;rw[z,Int.zero_emod, ← e]at h5
       rcases Int.mul_eq_zero.1 h5.symm with y|y <;> omega
      rw[decide_eq_true hne];refine Ev.step (f:=fun _=>some true) (fun k=>?_) (Ev.now _);simp only[aN.j1];rw[if_pos trivial,afv.out,hws.out,if_neg (by omega),if_pos (by omega),if_pos (by omega),eF,jC D1 hA,e2,if_neg h0]
   refine Ev.step (fun k=>?_) hj;simp only[aN.l0];rw[if_pos (by omega),afv.out,decide_eq_true (by omega)]
  ·refine Ev.step (f:=fun k=>aN.j1 k (enc D A) (n:Int) (i:Int) false) (fun k=>?_) (stop i (h2 (by omega)))
   simp only[aN.l0];rw[if_pos (by omega),afv.out,decide_eq_false (by omega)]
theorem acp {A:Int}(hA:0≤A)(hL:(enc D A).length≤1099511627776)(n:Nat)(hn:n≤9223372036854775807):Ev (fun k=>aN.f k (enc D A) (n:Int)) (decide (A % pw 2 n≠0)) :=
 acC hA hL n hn (enc D A).length 0 (by omega) (fun _=>by rw[iW,Int.emod_one]) (fun z=>by
  obtain rfl:n=0:=by omega
  rw[iW,Int.emod_one])
end Go.Proofs.Yy.PTx
end
