/- Part 20. -/
import Derived.Test.YtpfnkbnepcchgaaGreatDoorKTPS
set_option linter.unusedSimpArgs false
set_option linter.unusedVariables false
section
namespace Go.Proofs.Yy.PTx
open Go.RowKit Go.Proofs.Yw.PrintWords Go.Proofs.Yw.PrintLast Go.Proofs.Yw.PrintMore Go.Proofs.Yy.M Go.Proofs.Yy.NM
attribute [local irreducible] fK iD iV jY val
theorem ZE (k:Nat):Int.tdiv (k:Int) 64=((k / 64:Nat):Int):=by rw[Int.tdiv_eq_ediv_of_nonneg (by omega)];omega
theorem ND (k:Nat):Int.tmod (k:Int) 64=((k % 64:Nat):Int):=by rw[Int.tmod_eq_emod_of_nonneg (by omega)];omega
theorem xQ (k:Nat):pw 2 k=pw 2 (k % 64)*pw B (k / 64):=by rw[pwB, ← qG];congr 1;omega
theorem xM (x:Int){s:Nat}(h:s≤64):shl .u64 x (s:Int)=x*pw 2 s % B:=by
 have e:min (s:Int).toNat IntKind.u64.bits=s:=by rw[Int.toNat_natCast];exact Nat.min_eq_left h
 unfold shl;rw[e,IntKind.wrap_u64,ui,ug]
theorem vU (x:Int){s:Nat}(h:s≤64):shr .u64 x (s:Int)=x / pw 2 s:=by
 have e:min (s:Int).toNat IntKind.u64.bits=s:=by rw[Int.toNat_natCast];exact Nat.min_eq_left h
 unfold shr;rw[e,ui]
theorem Hw {x y:Int}{i:Nat}(hx0:0≤x)(hx:x % pw 2 i=0)(hx1:x<B)(hy0:0≤y)(hy:y<pw 2 i)(hy1:y<B):Go.bits .or .u64 x y=x+y:=by
 rw[ug]at hx1 hy1;rw[ui]at hx hy;exact bits_join .u64 64 (by decide) (fun n a b=>tV a (by omega)) i x y hx0 hx (by omega) hy0 hy (by omega)
theorem Gn {x y:Int}(hx0:0≤x)(hx1:x<B)(hy0:0≤y)(hy1:y<B):Go.bits .or .u64 x y=Go.bits .or .u64 y x:=by
 rw[ug]at hx1 hy1;obtain⟨a,rfl⟩:=Int.eq_ofNat_of_zero_le hx0;obtain⟨b,rfl⟩:=Int.eq_ofNat_of_zero_le hy0;have hk:∀ n:Int,0≤n→n<2 ^ 64→IntKind.u64.wrap n=n:=fun n a b=>tV a (by omega);rw[(bits_nat .u64 64 (by decide) hk a b (by omega) (by omega)).2,(bits_nat .u64 64 (by decide) hk b a (by omega) (by omega)).2,Nat.or_comm]
theorem AQ {s:Nat}(h:s≤64):pw 2 s*pw 2 (64-s)=B:=by rw[← qG, ← CP];congr 1;omega
theorem Oa {i:Nat}(h:i≤64):pw 2 i≤B:=by rw[← CP];exact EL (by decide) h
theorem Fh {a P Q:Int}(hP:0<P)(hQ:0<Q)(ha:0≤a)(ha1:a<P*Q):a*P=a*P % (P*Q)+P*Q*(a / Q)∧a*P % (P*Q) % P=0∧0≤a*P % (P*Q)∧a*P % (P*Q)+P≤P*Q∧0≤a / Q∧a / Q<P:=by
 have h1:=Int.mul_ediv_add_emod a Q;have h2:=Int.emod_nonneg a (show Q≠0 by omega);have h3:=Int.emod_lt_of_pos a hQ
 have e:a*P=a % Q*P+P*Q*(a / Q):=by
  have:a*P=(Q*(a / Q)+a % Q)*P:=by rw[h1]
  rw[this];grind
 have l0:0≤a % Q*P:=Int.mul_nonneg h2 (by omega);have l1:(a % Q+1)*P≤Q*P:=Int.mul_le_mul_of_nonneg_right (by omega) (by omega);rw[Int.add_mul,Int.one_mul,Int.mul_comm Q]at l1
 have e2:a*P % (P*Q)=a % Q*P:=by
  rw[e,Int.add_mul_emod_self_left];exact Int.emod_eq_of_lt l0 (by omega)
 rw[e2];refine⟨e,by rw[Int.mul_emod_left],l0,l1,Int.ediv_nonneg ha (by omega),Int.ediv_lt_of_lt_mul hQ ha1⟩
theorem rq (l:List Int)(i:Nat)(v:Int)(h:i<l.length):(l.set i v).getD i 0=v:=by
 simp[List.getD_eq_getElem?_getD,h]
theorem Jf {A c lo hi a p b P V:Int}(hV:V=A*P)(h:a*P=lo+b*hi):V+p*(c+lo-c)+p*b*hi=(A+p*a)*P:=by grind
theorem TB {a:List Int}(ha:Dig B a){s:Nat}(hs:s<64)(hL:a.length≤1099511627775):∀ (d i:Nat) (x:List Int),i+d=a.length→x.length=a.length+1→Dig B x→(∀ j,i<j→x.getD j 0=0)→x.getD i 0<pw 2 s→val B x=val B (a.take i)*pw 2 s →
  ∃ r,r.length=a.length+1∧Dig B r∧val B r=val B a*pw 2 s∧Ev (fun k=>dH.l0 k (s:Int) x a (a.length:Int) (i:Int)) r:=by
 intro d
 induction d with
 | zero =>
  intro i x hi hx hd hz hc hv
  obtain rfl:i=a.length:=by omega
  rw[List.take_length]at hv;refine⟨x,hx,hd,hv,Ev.step (f:=fun _=>some x) (fun k=>?_) (Ev.now _)⟩;simp only[dH.l0];rw[if_neg (by omega)]
 | succ d ih =>
  intro i x hi hx hd hz hc hv
  have hw:ae (wrap64 ((i:Int)+1)=((i+1:Nat):Int)):=⟨by rw[w64 (by omega) (by omega)];omega⟩
  have hws:ae (wrap64 (64-(s:Int))=((64-s:Nat):Int)):=⟨by rw[w64 (by omega) (by omega)];omega⟩
  have hlt:i<x.length:=by omega
  have hlt1:i+1<x.length:=by omega
  have hi1:i+1+d=a.length:=by omega
  have hP:=jO s;have hQ:=jO (64-s);have hPQ:=AQ (s:=s) (by omega);obtain⟨ga0,ga1⟩:=ha.get jm i;obtain⟨gx0,gx1⟩:=hd.get jm i;obtain⟨e1,e2,e3,e4,e5,e6⟩:=Fh hP hQ ga0 (by rw[hPQ];exact ga1);rw[hPQ]at e1 e2 e3 e4
  have hor:Go.bits .or .u64 (x.getD i 0) (a.getD i 0*pw 2 s % B)=x.getD i 0+a.getD i 0*pw 2 s % B:=by
   rw[Gn gx0 gx1 e3 (by omega),Hw e3 e2 (by omega) gx0 hc gx1,Int.add_comm]
  have hd':Dig B (x.set i (x.getD i 0+a.getD i 0*pw 2 s % B)):=hd.set (by omega) (by omega)
  have hz':∀ j,i<j→(x.set i (x.getD i 0+a.getD i 0*pw 2 s % B)).getD j 0=0:=fun j hj=>by rw[qB _ _ _ _ (by omega)];exact hz j hj
  have hPB:=Oa (i:=s) (by omega)
  by_cases hs0:0<s
  ·obtain⟨r,r1,r2,r3,r4⟩:=ih (i+1) ((x.set i (x.getD i 0+a.getD i 0*pw 2 s % B)).set (i+1) (a.getD i 0 / pw 2 (64-s))) hi1 (by simpa using hx) (hd'.set e5 (by omega)) (fun j hj=>by rw[qB _ _ _ _ (by omega)];exact hz' j (by omega)) (by rw[rq _ _ _ (by simpa using hlt1)];exact e6) (by
    rw[o8 B _ _ _ (by simpa using hlt1),hz' (i+1) (by omega),Int.sub_zero,o8 B x i _ hlt,eF B a,eU]
    exact Jf hv e1)
   refine⟨r,r1,r2,r3,Ev.step (f:=fun k=>dH.l0 k (s:Int) ((x.set i (x.getD i 0+a.getD i 0*pw 2 s % B)).set (i+1) (a.getD i 0 / pw 2 (64-s))) a (a.length:Int) ((i+1:Nat):Int)) (fun k=>?_) r4⟩;simp only[dH.l0];rw[if_pos (by omega),if_pos (by omega),if_pos (by omega),if_pos (by omega),if_pos (by omega),eP,eP,xM _ (by omega),hor];simp only[Option.bind_some];rw[if_pos (by omega),hws.out,hw.out,if_pos (by omega),if_pos (by omega),if_pos (by omega),vU _ (by omega),Int.toNat_natCast,Int.toNat_natCast]
  ·obtain rfl:s=0:=by omega
   have hq0:a.getD i 0 / pw 2 (64-0)=0:=by rw[Nat.sub_zero,CP];exact Int.ediv_eq_zero_of_lt ga0 ga1
   rw[hq0,Int.mul_zero]at e1
   obtain⟨r,r1,r2,r3,r4⟩:=ih (i+1) (x.set i (x.getD i 0+a.getD i 0*pw 2 0 % B)) hi1 (by simpa using hx) hd' (fun j hj=>hz' j (by omega)) (by rw[hz' (i+1) (by omega)];exact hP) (by
    rw[o8 B x i _ hlt,eF B a];have:=Jf (p:=pw B i) (c:=x.getD i 0) (hi:=0) (b:=B) hv (by rw[Int.mul_zero];exact e1);rw[Int.mul_zero,Int.add_zero]at this
    exact this)
   refine⟨r,r1,r2,r3,Ev.step (f:=fun k=>dH.l0 k ((0:Nat):Int) (x.set i (x.getD i 0+a.getD i 0*pw 2 0 % B)) a (a.length:Int) ((i+1:Nat):Int)) (fun k=>?_) r4⟩;simp only[dH.l0];rw[if_pos (by omega),if_pos (by omega),if_pos (by omega),if_pos (by omega),if_pos (by omega),eP,eP,xM _ (by omega),hor];simp only[Option.bind_some];rw[if_neg (by omega),hw.out,Int.toNat_natCast]
theorem CE {a:List Int}(ha:Dig B a){s:Nat}(hs:s<64)(hL:a.length≤1099511627775) :
  ∃ r,r.length=a.length+1∧Dig B r∧val B r=val B a*pw 2 s∧Ev (fun k=>dH.f k a (s:Int)) r:=by
 have hw:ae (wrap64 ((a.length:Int)+1)=((a.length+1:Nat):Int)):=⟨by rw[w64 (by omega) (by omega)];omega⟩
 have hz:∀ j,(List.replicate (a.length+1) (0:Int)).getD j 0=0:=fun j=>by simp[List.getD_eq_getElem?_getD,List.getElem?_replicate];split <;> rfl
 obtain⟨r,r1,r2,r3,r4⟩:=TB ha hs hL a.length 0 (List.replicate (a.length+1) 0) (by omega) (by simp) (Dig.zeros jm _) (fun j _=>hz j) (by rw[hz];exact jO s) (by rw[vS,List.take_zero,mX,Int.zero_mul]);refine⟨r,r1,r2,r3,Ev.congr (fun k=>?_) r4⟩;unfold dH.f;rw[hw.out,if_pos (by omega),Int.toNat_natCast,if_pos (by omega)]
 rfl
theorem acy {a:List Int}(ha:Dig B a)(hL:a.length≤1073741824)(k:Nat)(hk:k≤65536):Ev (fun n=>lY.f n a (k:Int)) (enc B (val B a*pw 2 k),none):=by
 have hA:=fC jm ha;have la:=nI B1 ha
 have hq:ae (wrap64 (Int.tdiv (k:Int) 64)=((k / 64:Nat):Int)):=⟨by rw[ZE];exact w64 (by omega) (by omega)⟩
 refine Ev.congr (fun n=>by unfold lY.f;rw[if_neg (by omega),if_neg (by omega)]) (Ev.bind (nV ha (by omega)) ?_)
 by_cases h:0<val B a
 ·have hl:=(qE B1 hA 0).2 (by rw[fH];exact h)
  obtain⟨r,r1,r2,r3,r4⟩:=CE (fO B1 (val B a)) (s:=k % 64) (by omega) (by omega);rw[fB B1 hA]at r3;have hd:Dig B (List.replicate (k / 64) 0++r):=(Dig.zeros jm _).append r2
  have hv:val B (List.replicate (k / 64) 0++r)=val B a*pw 2 k:=by rw[Ai,r3,xQ k,Int.mul_comm,Int.mul_assoc]
  have ht:=nV hd (by rw[List.length_append,List.length_replicate,r1];omega);rw[hv]at ht
  refine Ev.congr (f:=fun n=>(dH.f n (enc B (val B a)) ((k % 64:Nat):Int)).bind fun t=>if (List.replicate (k / 64) (0:Int)).length+t.length<17592186044416 then ((bG.f n (List.replicate (k / 64) 0++t)).bind fun u=>some (u,none)) else none) (fun n=>?_)
   (Ev.bind r4 (Ev.congr (fun n=>by rw[if_pos (by rw[List.length_replicate,r1];omega)]) (Ev.bind ht (Ev.now _))))
  rw[if_neg (by omega),hq.out,if_pos (by omega),Int.toNat_natCast,if_pos (by omega),ND,Option.bind_some]
 ·have h0:val B a=0:=by omega
  rw[h0,Int.zero_mul,eQ];exact Ev.congr (f:=fun _=>some ([],none)) (fun n=>by rw[if_pos (by simp)]) (Ev.now _)
def xE (l:List Int):Bool:=l.any (fun x=>x != 0)
theorem KR (x:Int)(l:List Int):xE (x::l)=((x != 0) || xE l):=rfl
theorem Pi {l:List Int}:xE l=true ↔ ¬ ∀ x ∈ l,x=0:=by
 unfold xE;rw[List.any_eq_true]
 constructor
 ·rintro⟨x,hx,h⟩ hall
  rw[hall x hx]at h;exact absurd h (by decide)
 ·intro h
  refine Decidable.byContradiction fun hn=>h fun x hx=>Decidable.byContradiction fun hx0=>hn ⟨x,hx,bne_iff_ne.2 hx0⟩
theorem af1 (c:Int)(q:List Int)(l:List Int)(hL:l.length≤1099511627776)(r:List Int)(next:∀ b:Bool,Ev (fun k=>eX.l1 k c q b (q.length:Int) 0) (r,b,none)):∀ (d i:Nat) (b:Bool),i+d=l.length →
  Ev (fun k=>eX.l0 k c q b l (l.length:Int) (i:Int)) (r,b || xE (l.drop i),none):=by
 intro d
 induction d with
 | zero =>
  intro i b hi
  obtain rfl:i=l.length:=by omega
  have e:(b || xE (l.drop l.length))=b:=by rw[List.drop_length];exact Bool.or_false b
  rw[e];refine Ev.step (f:=fun k=>eX.l1 k c q b (q.length:Int) 0) (fun k=>?_) (next b);simp only[eX.l0];rw[if_neg (by omega)]
 | succ d ih =>
  intro i b hi
  have hw:ae (wrap64 ((i:Int)+1)=((i+1:Nat):Int)):=⟨by rw[w64 (by omega) (by omega)];omega⟩
  have hd:l.drop i=l.getD i 0::l.drop (i+1):=by rw[List.drop_eq_getElem_cons (by omega),List.getD_eq_getElem?_getD,List.getElem?_eq_getElem (by omega)];rfl
  cases b with
  | true =>
   have key:=ih (i+1) true (by omega);rw[Bool.true_or]at key ⊢;refine Ev.step (f:=fun k=>eX.l0 k c q true l (l.length:Int) ((i+1:Nat):Int)) (fun k=>?_) key;simp only[eX.l0];rw[if_pos (by omega),if_pos (by omega),if_pos (by omega),if_pos trivial,hw.out]
  | false =>
   have key:=ih (i+1) (l.getD i 0 != 0) (by omega)
   have e:(false || xE (l.drop i))=((l.getD i 0 != 0) || xE (l.drop (i+1))):=by rw[hd,KR,Bool.false_or]
   rw[e];refine Ev.step (f:=fun k=>eX.l0 k c q (l.getD i 0 != 0) l (l.length:Int) ((i+1:Nat):Int)) (fun k=>?_) key;simp only[eX.l0];rw[if_pos (by omega),if_pos (by omega),if_pos (by omega),if_neg (by decide),hw.out,eP]
theorem KO {d g P:Int}(hg:0<g):d*g % (P*g)=d % P*g:=by rw[Int.mul_comm d,Int.mul_comm P,Int.mul_comm (d % P)];exact Int.mul_emod_mul_of_pos _ _ hg
theorem SB {d:Int}{s:Nat}(hs:s≤63):shl .u64 (IntKind.u64.wrap (d*2)) (((63-s:Nat):Nat):Int)=d % pw 2 s*pw 2 (64-s):=by
 rw[xM _ (by omega),IntKind.wrap_u64, ← ug];have e:=AX (d*2) (pw 2 (63-s)) 0 (b:=B);rw[Int.add_zero,Int.add_zero]at e;rw[e,Int.mul_assoc,show 2*pw 2 (63-s)=pw 2 (64-s) by rw[show 64-s=63-s+1 by omega,eU,Int.mul_comm], ← AQ (s:=s) (by omega)];exact KO (jO _)
theorem afI {M:Int}(hM:0≤M){c:Nat}(b:Bool)(hL:(enc B M).length≤1099511627776):∀ (d i:Nat) (x:List Int),i+d=(enc B M).length→x.length=(enc B M).length→Dig B x→(∀ j,i≤j→x.getD j 0=M / pw B j % B)→val B (x.take i)=M / pw 2 (c % 64) % pw B i →
  Ev (fun k=>eX.l1 k (c:Int) x b ((enc B M).length:Int) (i:Int)) (enc B (M / pw 2 (c % 64)),b,none):=by
 have hf:=jO (c % 64);have hfD:pw 2 (c % 64)*pw 2 (64-c % 64)=B:=AQ (by omega);have hg:=jO (64-c % 64);have hMs:=Int.ediv_nonneg hM (Int.le_of_lt hf);intro d
 induction d with
 | zero =>
  intro i x hi hx hd hj hv
  obtain rfl:i=x.length:=by omega
  rw[List.take_length]at hv
  have hlt:M / pw 2 (c % 64)<pw B x.length:=by
   rw[hx];refine Int.lt_of_le_of_lt (Int.ediv_le_self _ hM) ?_;have:=kM jm (fO B1 M);rw[fB B1 hM]at this;exact this
  rw[Int.emod_eq_of_lt hMs hlt]at hv;refine Ev.step (f:=fun k=>(bG.f k x).bind fun t=>some (t,b,none)) (fun k=>?_) (Ev.bind (by rw[← hv];exact nV hd (by omega)) (Ev.now _));simp only[eX.l1];rw[if_neg (by omega)]
 | succ d ih =>
  intro i x hi hx hd hj hv
  have hw1:ae (wrap64 ((i:Int)+1)=((i+1:Nat):Int)):=⟨by rw[w64 (by omega) (by omega)];omega⟩
  have hw2:ae (wrap64 (63-((c % 64:Nat):Int))=((63-c % 64:Nat):Int)):=⟨by rw[w64 (by omega) (by omega)];omega⟩
  have hlt:i<x.length:=by omega
  have hi1:i+1+d=(enc B M).length:=by omega
  have hMi:=gY jm hM i;have hsd:=Ci hf hg hMi;rw[hfD, ← lh jm]at hsd;have hcc:M / pw B i / pw 2 (c % 64)=M / pw 2 (c % 64) / pw B i:=vK (Int.le_of_lt (jQ jm i)) (Int.le_of_lt hf);rw[hcc]at hsd;have ai0:=Int.emod_nonneg (M / pw 2 (c % 64) / pw B i) (show B≠0 by have:=B1;omega);have U8:=Int.emod_lt_of_pos (M / pw 2 (c % 64) / pw B i) jm
  have key:=ih (i+1) (x.set i (M / pw 2 (c % 64) / pw B i % B)) hi1 (by simpa using hx) (hd.set ai0 U8) (fun j hj'=>by rw[qB _ _ _ _ (by omega)];exact hj j (by omega)) (by
   rw[qZ B x i _ hlt,hv, ← qJ jm hMs i,Int.mul_comm (pw B i)];omega)
  have a0:=Int.emod_nonneg (M / pw B i) (show B≠0 by have:=B1;omega);have a1:=Int.emod_lt_of_pos (M / pw B i) jm;have q0:0≤M / pw B i % B / pw 2 (c % 64):=Int.ediv_nonneg a0 (Int.le_of_lt hf);have q1:M / pw B i % B / pw 2 (c % 64)<pw 2 (64-c % 64):=Int.ediv_lt_of_lt_mul hf (by rw[Int.mul_comm,hfD];exact a1);have q2:M / pw B i % B / pw 2 (c % 64)≤M / pw B i % B:=Int.ediv_le_self _ a0
  by_cases hn:i+1<x.length
  ·have c0:=Int.emod_nonneg (M / pw B (i+1) % B) (show pw 2 (c % 64)≠0 by omega)
   have p0:0≤M / pw B (i+1) % B % pw 2 (c % 64)*pw 2 (64-c % 64):=Int.mul_nonneg c0 (Int.le_of_lt hg);rw[hsd]at key U8
   have hor:Go.bits .or .u64 (M / pw B i % B / pw 2 (c % 64)) (M / pw B (i+1) % B % pw 2 (c % 64)*pw 2 (64-c % 64))=M / pw B i % B / pw 2 (c % 64)+M / pw B (i+1) % B % pw 2 (c % 64)*pw 2 (64-c % 64):=by
    rw[Gn q0 (by omega) p0 (by omega),Hw p0 (Int.mul_emod_left _ _) (by omega) q0 q1 (by omega),Int.add_comm]
   refine Ev.step (f:=fun k=>eX.l1 k (c:Int) (x.set i (M / pw B i % B / pw 2 (c % 64)+M / pw B (i+1) % B % pw 2 (c % 64)*pw 2 (64-c % 64))) b ((enc B M).length:Int) ((i+1:Nat):Int)) (fun k=>?_) key;simp only[eX.l1];rw[ND,hw1.out,hw2.out,if_pos (by omega),if_pos (by omega),if_pos (by omega),if_pos (by omega)];simp only[Option.bind_some];rw[if_pos (by omega),if_pos (by omega),if_pos (by omega),eP,eP,eP,Int.toNat_natCast,rq _ _ _ hlt,qB _ _ _ _ (by omega),hj i (by omega),hj (i+1) (by omega),vU _ (by omega),SB (by omega),hor,List.set_set]
  ·have hz:M / pw B (i+1) % B=0:=by
    have:=hj (i+1) (by omega);rw[List.getD_eq_getElem?_getD,List.getElem?_eq_none (by omega)]at this;exact this.symm
   rw[hz,Int.zero_emod,Int.zero_mul,Int.add_zero]at hsd;rw[hsd]at key;refine Ev.step (f:=fun k=>eX.l1 k (c:Int) (x.set i (M / pw B i % B / pw 2 (c % 64))) b ((enc B M).length:Int) ((i+1:Nat):Int)) (fun k=>?_) key;simp only[eX.l1];rw[ND,hw1.out,hw2.out,if_pos (by omega),if_pos (by omega),if_pos (by omega),if_pos (by omega)];simp only[Option.bind_some];rw[if_neg (by omega),eP,Int.toNat_natCast,hj i (by omega),vU _ (by omega)]
theorem I7 {b:Int}(hb:0<b){l:List Int}(h:Dig b l):val b l=0 ↔ ∀ x ∈ l,x=0:=by
 induction l with
 | nil=>simp[mX]
 | cons x r ih =>
  have h0:=fC hb h.tail;have hx:=h.head;have hm:=Int.mul_nonneg (Int.le_of_lt hb) h0;rw[jh]
  constructor
  ·intro e
   have e1:x=0:=by omega
   have e2:b*val b r=0:=by omega
   have e3:val b r=0:=by rcases Int.mul_eq_zero.1 e2 with z|z <;> omega
   intro y hy;rcases List.mem_cons.1 hy with h1|h1
   ·rw[h1];exact e1
   ·exact (ih h.tail).1 e3 y h1
  ·intro e
   rw[e x List.mem_cons_self,(ih h.tail).2 (fun y hy=>e y (List.mem_cons_of_mem _ hy)),Int.mul_zero];rfl
theorem JI {b A:Int}(hb:1<b)(hA:0≤A)(q:Nat):val b ((enc b A).take q)=A % pw b q:=by
 have hd:=fO hb A
 have h1:val b ((enc b A).take q)=A % pw b q:=by
  have h2:=mO b ((enc b A).take q) ((enc b A).drop q);rw[List.take_append_drop,fB hb hA,BQ hb hA,fB hb (gY (by omega) hA q)]at h2
  by_cases hq:q≤(enc b A).length
  ·rw[List.length_take,Nat.min_eq_left hq]at h2
   have:=Int.mul_ediv_add_emod A (pw b q)
   omega
  ·rw[List.take_of_length_le (by omega),fB hb hA]
   have h3:=kM (by omega) hd;rw[fB hb hA]at h3;exact (Int.emod_eq_of_lt hA (Int.lt_of_lt_of_le h3 (EL (by omega) (by omega)))).symm
 exact h1
theorem xI {A p q:Int}(hp:0<p)(hq:0<q)(hA:0≤A):A % (p*q)=A / p % q*p+A % p:=by
 have h1:=Int.mul_ediv_add_emod A p;have h2:=Int.mul_ediv_add_emod (A / p) q;have h3:=Int.emod_nonneg A (show p≠0 by omega);have h4:=Int.emod_lt_of_pos A hp;have h5:=Int.emod_nonneg (A / p) (show q≠0 by omega);have h6:=Int.emod_lt_of_pos (A / p) hq
 have e:A=A / p % q*p+A % p+p*q*(A / p / q):=by
  generalize hs:A / p / q=s at *;generalize A / p % q=t at *;generalize hq':A / p=u at *;generalize A % p=r at *;rw[← h1, ← h2]
  grind
 have lo:0≤A / p % q*p+A % p:=by have:=Int.mul_nonneg h5 (Int.le_of_lt hp);omega
 have hi:A / p % q*p+A % p<p*q:=by
  have h7:(A / p % q+1)*p≤q*p:=Int.mul_le_mul_of_nonneg_right (by omega) (Int.le_of_lt hp);rw[Int.add_mul,Int.one_mul,Int.mul_comm q]at h7
  omega
 have h8:=Int.add_mul_emod_self_left (A / p % q*p+A % p) (p*q) (A / p / q);rw[← e,Int.emod_eq_of_lt lo hi]at h8;exact h8
theorem WW {A:Int}(hA:0≤A)(k:Nat):A % pw 2 k≠0 ↔ A / pw B (k / 64) % pw 2 (k % 64)≠0∨A % pw B (k / 64)≠0:=by
 have hp:=jQ jm (k / 64);have e:=xI hp (jO (k % 64)) hA;rw[Int.mul_comm, ← xQ]at e;have h3:=Int.emod_nonneg A (show pw B (k / 64)≠0 by omega);have h5:=Int.emod_nonneg (A / pw B (k / 64)) (show pw 2 (k % 64)≠0 by have:=jO (k % 64);omega);have h6:=Int.mul_nonneg h5 (Int.le_of_lt hp);rw[e]
 constructor
 ·intro h
  by_cases h7:A % pw B (k / 64)=0
  ·left
   intro h8;rw[h8,Int.zero_mul]at h
   omega
  ·exact .inr h7
 ·intro h h9
  rcases h with h|h
  ·have h10:A / pw B (k / 64) % pw 2 (k % 64)*pw B (k / 64)=0:=by omega
   rcases Int.mul_eq_zero.1 h10 with z|z <;> omega
  ·omega
theorem acI {a:List Int}(ha:Dig B a)(hL:a.length≤1099511627775)(k:Nat)(hk:k≤9223372036854775807):Ev (fun n=>eX.f n a (k:Int)) (enc B (val B a / pw 2 k),decide (val B a % pw 2 k≠0),none):=by
 have hA:=fC jm ha;have la:=nI B1 ha
 have hq:ae (wrap64 (Int.tdiv (k:Int) 64)=((k / 64:Nat):Int)):=⟨by rw[ZE];exact w64 (by omega) (by omega)⟩
 have hw2:ae (wrap64 (63-((k % 64:Nat):Int))=((63-k % 64:Nat):Int)):=⟨by rw[w64 (by omega) (by omega)];omega⟩
 refine Ev.congr (fun n=>by unfold eX.f;rw[if_neg (by omega)]) (Ev.bind (nV ha (by omega)) ?_)
 by_cases h:(enc B (val B a)).length≤k / 64
 ·have hlt:val B a<pw 2 k:=by
   have h1:=kM jm (fO B1 (val B a));rw[fB B1 hA]at h1;refine Int.lt_of_lt_of_le h1 ?_;rw[pwB];exact EL (by decide) (by omega)
  rw[Int.ediv_eq_zero_of_lt hA hlt,Int.emod_eq_of_lt hA hlt,eQ]
  have e:decide (val B a≠0)=decide (((enc B (val B a)).length:Int) > 0):=by
   by_cases h0:val B a=0
   ·rw[h0,eQ];simp
   ·have:=(qE B1 hA 0).2 (by rw[fH];omega)
    rw[decide_eq_true h0,decide_eq_true (by omega)]
  rw[e];exact Ev.congr (f:=fun _=>some ([],decide (((enc B (val B a)).length:Int) > 0),none)) (fun n=>by rw[hq.out,if_pos (by omega)]) (Ev.now _)
 ·have hM:=gY jm hA (k / 64)
  have hdr:=BQ B1 hA (k / 64)
  have hlen:(enc B (val B a / pw B (k / 64))).length=(enc B (val B a)).length-k / 64:=by rw[← hdr,List.length_drop]
  have e:val B a / pw B (k / 64) / pw 2 (k % 64)=val B a / pw 2 k:=by
   rw[Int.ediv_ediv_of_nonneg (Int.le_of_lt (jQ jm _)),xQ k,Int.mul_comm]
  have key:=af1 (k:Int) (enc B (val B a / pw B (k / 64))) ((enc B (val B a)).take (k / 64)) (by rw[List.length_take];omega) (enc B (val B a / pw 2 k)) (fun b=>by
   have:=afI hM (c:=k) b (by omega) _ 0 (enc B (val B a / pw B (k / 64))) (Nat.zero_add _) rfl (fO B1 _) (fun j _=>jA B1 hM j) (by rw[List.take_zero,mX,iU,Int.emod_one]);rw[e]at this
   exact this) _ 0 (val B a / pw B (k / 64) % B % pw 2 (k % 64)*pw 2 (64-k % 64) != 0) (Nat.zero_add _)
  have eb:((val B a / pw B (k / 64) % B % pw 2 (k % 64)*pw 2 (64-k % 64) != 0) || xE (((enc B (val B a)).take (k / 64)).drop 0))=decide (val B a % pw 2 k≠0):=by
   have hmm:val B a / pw B (k / 64) % B % pw 2 (k % 64)=val B a / pw B (k / 64) % pw 2 (k % 64):=Int.emod_emod_of_dvd _ ⟨pw 2 (64-k % 64),(AQ (by omega)).symm⟩
   have hz:xE (((enc B (val B a)).take (k / 64)).drop 0)=true ↔ val B a % pw B (k / 64)≠0:=by
    rw[List.drop_zero, ← JI B1 hA,Ne,I7 jm ((fO B1 _).take _),Pi]
   have hne:val B a / pw B (k / 64) % pw 2 (k % 64)*pw 2 (64-k % 64)=0 ↔ val B a / pw B (k / 64) % pw 2 (k % 64)=0:=by
    have:=jO (64-k % 64);rw[Int.mul_eq_zero]
    omega
   have hl:=WW hA k;rw[hmm]
   by_cases c1:val B a % pw 2 k≠0
   ·rw[decide_eq_true c1]
    rcases hl.1 c1 with c2|c2
    ·rw[bne_iff_ne.2 (fun z=>c2 (hne.1 z)),Bool.true_or]
    ·rw[hz.2 c2,Bool.or_true]
   ·rw[decide_eq_false c1]
    have c2:val B a / pw B (k / 64) % pw 2 (k % 64)=0:=Decidable.byContradiction fun z=>c1 (hl.2 (.inl z));have c3:¬ val B a % pw B (k / 64)≠0:=fun z=>c1 (hl.2 (.inr z));rw[hne.2 c2,Bool.eq_false_iff.2 (fun z=>c3 (hz.1 z))]
    rfl
  rw[eb]at key;refine Ev.congr (fun n=>?_) key;have g0:=jA B1 hM 0;rw[fH]at g0;rw[hq.out,if_neg (by omega),if_pos (by omega),if_pos (by omega),Int.toNat_natCast,hdr,ND,hw2.out];simp only[Option.bind_some,List.nil_append,List.length_nil];rw[if_pos (by omega),if_pos (by omega),if_pos (by omega),show (rd (enc B (val B a / pw B (k / 64))) 0)=val B a / pw B (k / 64) % B from by rw[← g0];exact eP _ 0,SB (by omega)]
  rfl
def under (A:Int)(c:Nat):Nat:=bl A-c
theorem ack {a:List Int}(ha:Dig B a)(hL:a.length≤1073741824)(c:Nat)(h1:1≤c)(h2:c≤64) :
  Ev (fun n=>o6.f n a (c:Int)) (val B a / pw 2 (under (val B a) c) % B,((under (val B a) c:Nat):Int),decide (val B a % pw 2 (under (val B a) c)≠0),none):=by
 have hA:=fC jm ha;have lA:=kM jm ha;have hb:bl (val B a)≤64*a.length:=Py (by rw[← pwB];exact lA)
 have hmx:ae (mx 0 (wrap64 ((bl (val B a):Int)-(c:Int)))=((under (val B a) c:Nat):Int)):=⟨by
  rw[w64 (by omega) (by omega)];unfold mx under
  split <;> omega⟩
 have hu:under (val B a) c≤64*a.length:=by unfold under;omega
 refine Ev.congr (f:=fun n=>o6.j0 n a (c:Int) false) (fun n=>by unfold o6.f;rw[if_neg (by omega),decide_eq_false (by omega)]) ?_;have hM:=Int.ediv_nonneg hA (Int.le_of_lt (jO (under (val B a) c)))
 refine Ev.step (f:=fun n=>(oZ.f n a).bind fun t=>(eX.f n a (mx 0 (wrap64 (t-(c:Int))))).bind fun u=>if u.2.2.isNone=true then (if (u.1.length:Int)=0 then some (0,0,false,none) else (if 0<(u.1.length:Int) then some (rd u.1 0,mx 0 (wrap64 (t-(c:Int))),u.2.1,none) else none)) else none) (fun n=>?_)
  (Ev.bind (Gw ha (by omega)) (Ev.bind (show Ev (fun n=>eX.f n a (mx 0 (wrap64 ((bl (val B a):Int)-(c:Int))))) (enc B (val B a / pw 2 (under (val B a) c)),decide (val B a % pw 2 (under (val B a) c)≠0),none) by rw[hmx.out];exact acI ha (by omega) _ (by omega)) ?_))
 ·simp only[o6.j0]
  rw[if_neg (by decide)]
 ·simp only[Option.isNone_none,if_true]
  by_cases hp:0<val B a / pw 2 (under (val B a) c)
  ·have hl:=(qE B1 hM 0).2 (by rw[fH];exact hp)
   have g0:=jA B1 hM 0;rw[fH]at g0;refine Ev.congr (f:=fun _=>some _) (fun n=>?_) (Ev.now _);rw[if_neg (by omega),if_pos (by omega),hmx.out, ← g0]
   rfl
  ·have hz:val B a / pw 2 (under (val B a) c)=0:=by omega
   have hA0:val B a=0:=by
    rcases Int.lt_or_le 0 (val B a) with hpos|hle
    ·have hbl:=CW hpos
     have:=(abh hA (under (val B a) c)).1 (by unfold under;omega)
     omega
    ·omega
   have hu0:under (val B a) c=0:=by unfold under;rw[hA0,xR];omega
   rw[hu0,hA0,iU];refine Ev.congr (f:=fun _=>some (0,0,false,none)) (fun n=>?_) (Ev.now _);rw[Int.ediv_one,eQ,if_pos (by simp)]
theorem aaM {A:Int}(hA:0≤A)(hL:(enc D A).length≤1099511627776)(n:Nat)(hn:n≤9223372036854775807):∀ (d i:Nat),i+d=(enc D A).length→(24*i≤n→A % pw D i=0)→(n≤24*i→A % pw 2 n=0) →
  Ev (fun k=>aU.l0 k (enc D A) (n:Int) (i:Int)) (decide (A % pw 2 n≠0)):=by
 have stop:∀ i:Nat,A % pw 2 n=0→Ev (fun k=>aU.j1 k (enc D A) (n:Int) (i:Int) false) (decide (A % pw 2 n≠0)):=fun i h0=>by
  rw[decide_eq_false (fun z=>z h0)];refine Ev.step (f:=fun _=>some false) (fun k=>?_) (Ev.now _);simp only[aU.j1];rw[if_neg (by decide)]
 intro d
 induction d with
 | zero =>
  intro i hi h1 h2
  obtain rfl:i=(enc D A).length:=by omega
  have h0:A % pw 2 n=0:=by
   by_cases hc:n≤24*(enc D A).length
   ·exact h2 hc
   ·have h3:=h1 (by omega)
    have h4:=kM nS (fO D1 A);rw[fB D1 hA]at h4;rw[Int.emod_eq_of_lt hA h4]at h3;rw[h3,Int.zero_emod]
  refine Ev.step (f:=fun k=>aU.j1 k (enc D A) (n:Int) ((enc D A).length:Int) false) (fun k=>?_) (stop _ h0);simp only[aU.l0];rw[if_neg (by omega)]
 | succ d ih =>
  intro i hi h1 h2
  have hw:ae (wrap64 ((i:Int)+1)=((i+1:Nat):Int)):=⟨by rw[w64 (by omega) (by omega)];omega⟩
  have afw:ae (wrap64 (24*(i:Int))=((24*i:Nat):Int)):=⟨by rw[w64 (by omega) (by omega)];omega⟩
  by_cases hc:24*i<n
  ·have hp:=jQ nS i
   have hz:=h1 (by omega);have hMi:=gY nS hA i;have a0:=Int.emod_nonneg (A / pw D i) (show D≠0 by have:=D1;omega)
   have hws:ae (wrap64 ((n:Int)-((24*i:Nat):Int))=((n-24*i:Nat):Int)):=⟨by rw[w64 (by omega) (by omega)];omega⟩
   have hj:Ev (fun k=>aU.j1 k (enc D A) (n:Int) (i:Int) true) (decide (A % pw 2 n≠0)):=by
    by_cases hr:n-24*i<24
    ·have hp2:=jO (n-24*i)
     have e:A % pw 2 n=A / pw D i % pw 2 (n-24*i)*pw D i:=by
      have e1:=xI hp hp2 hA;rw[pwD, ← qG,show 24*i+(n-24*i)=n by omega, ← pwD,hz,Int.add_zero]at e1;exact e1
     have e2:A / pw D i % D % pw 2 (n-24*i)=A / pw D i % pw 2 (n-24*i):=Int.emod_emod_of_dvd _ ⟨pw 2 (24-(n-24*i)),by rw[← qG, ← Jz];congr 1;omega⟩
     have hiff:A % pw 2 n=0 ↔ A / pw D i % pw 2 (n-24*i)=0:=by rw[e,Int.mul_eq_zero];omega
     by_cases h0:A / pw D i % pw 2 (n-24*i)=0
     ·refine Ev.step (f:=fun k=>(bP.f k ((n-24*i:Nat):Int)).bind fun t=>if t=0 then none else (if Int.tmod (A / pw D i % D) t=0 then aU.l0 k (enc D A) (n:Int) ((i+1:Nat):Int) else some true)) (fun k=>?_)
       (Ev.bind (Ht (by omega)) (Ev.congr (fun k=>?_) (ih (i+1) (by omega) (fun z=>by omega) (fun _=>hiff.2 h0))))
      ·simp only[aU.j1]
       rw[if_pos trivial,afw.out,hws.out,if_pos (by omega)]
       congr 1
       funext t
       rw[if_pos (by omega),if_pos (by omega),eP,jA D1 hA,hw.out]
      ·rw[if_neg (by omega),Int.tmod_eq_emod_of_nonneg a0,e2,if_pos h0]
     ·rw[decide_eq_true (show A % pw 2 n≠0 from fun z=>h0 (hiff.1 z))]
      refine Ev.step (f:=fun k=>(bP.f k ((n-24*i:Nat):Int)).bind fun t=>if t=0 then none else (if Int.tmod (A / pw D i % D) t=0 then aU.l0 k (enc D A) (n:Int) ((i+1:Nat):Int) else some true)) (fun k=>?_)
       (Ev.bind (Ht (by omega)) (Ev.congr (f:=fun _=>some true) (fun k=>?_) (Ev.now _)))
      ·simp only[aU.j1]
       rw[if_pos trivial,afw.out,hws.out,if_pos (by omega)]
       congr 1
       funext t
       rw[if_pos (by omega),if_pos (by omega),eP,jA D1 hA,hw.out]
      ·rw[if_neg (by omega),Int.tmod_eq_emod_of_nonneg a0,e2,if_neg h0]
    ·have e:=qJ nS hA i
     rw[hz,Int.add_zero]at e
     have e2:Int.tmod (A / pw D i % D) 16777216=A / pw D i % D:=by rw[RU a0];exact Int.emod_emod_of_dvd _ (Int.dvd_refl D)
     by_cases h0:A / pw D i % D=0
     ·rw[h0,Int.zero_mul]at e
      refine Ev.step (f:=fun k=>aU.l0 k (enc D A) (n:Int) ((i+1:Nat):Int)) (fun k=>?_) (ih (i+1) (by omega) (fun _=>e.symm) (fun z=>by
       have:n=24*(i+1):=by omega
       rw[this, ← pwD];exact e.symm))
      simp only[aU.j1];rw[if_pos trivial,afw.out,hws.out,if_neg (by omega),if_pos (by omega),if_pos (by omega),eP,jA D1 hA,e2,if_pos h0,hw.out]
     ·have hne:A % pw 2 n≠0:=fun z=>by
       have h5:A % pw 2 n % pw D (i+1)=A % pw D (i+1):=Int.emod_emod_of_dvd _ ⟨pw 2 (n-24*(i+1)),by rw[pwD, ← qG];congr 1;omega⟩;rw[z,Int.zero_emod, ← e]at h5
       rcases Int.mul_eq_zero.1 h5.symm with y|y <;> omega
      rw[decide_eq_true hne];refine Ev.step (f:=fun _=>some true) (fun k=>?_) (Ev.now _);simp only[aU.j1];rw[if_pos trivial,afw.out,hws.out,if_neg (by omega),if_pos (by omega),if_pos (by omega),eP,jA D1 hA,e2,if_neg h0]
   refine Ev.step (fun k=>?_) hj;simp only[aU.l0];rw[if_pos (by omega),afw.out,decide_eq_true (by omega)]
  ·refine Ev.step (f:=fun k=>aU.j1 k (enc D A) (n:Int) (i:Int) false) (fun k=>?_) (stop i (h2 (by omega)))
   simp only[aU.l0];rw[if_pos (by omega),afw.out,decide_eq_false (by omega)]
theorem abK {A:Int}(hA:0≤A)(hL:(enc D A).length≤1099511627776)(n:Nat)(hn:n≤9223372036854775807):Ev (fun k=>aU.f k (enc D A) (n:Int)) (decide (A % pw 2 n≠0)) :=
 aaM hA hL n hn (enc D A).length 0 (by omega) (fun _=>by rw[iU,Int.emod_one]) (fun z=>by
  obtain rfl:n=0:=by omega
  rw[iU,Int.emod_one])
theorem xN {a y q t:Int}(h:a=q*y+t)(h0:0≤t)(h1:t<y):a / y=q∧a % y=t:=by
 have e:a=t+y*q:=by rw[h,Int.mul_comm];omega
 rw[e,Int.add_mul_ediv_left _ _ (by omega),Int.add_mul_emod_self_left,Int.ediv_eq_zero_of_lt h0 h1,Int.emod_eq_of_lt h0 h1];exact⟨by omega,rfl⟩
theorem aaW {x y:Int}(h:0≤x)(hx:x≤18446744073709551615)(hy:0<y):IntKind.u64.wrap (Int.tdiv x y)=x / y:=by
 rw[Int.tdiv_eq_ediv_of_nonneg h];have h1:=Int.ediv_nonneg h (Int.le_of_lt hy);have h2:=Int.ediv_le_self y h;exact tV h1 (by omega)
theorem CO {q y1 y0 Y:Int}(hY:Y=y1*4294967296+y0):q*Y=q*y1*4294967296+q*y0:=by rw[hY];grind
theorem uj (q y:Int):(q-1)*y=q*y-y:=by grind
theorem F8 {q r y1 y0 Y u u1 P S:Int}(hP:P=q*y1)(hS:S=q*y0)(hY:Y=y1*4294967296+y0)(y1b:2147483648≤y1∧y1<4294967296)(y0b:0≤y0∧y0<4294967296)(hu:0≤u)(hu1:u<Y)(h1:0≤u1∧u1<4294967296)
  (hq:0≤q∧q≤4294967297) (hr:r=u-P) (hr0:0≤r) (hr1:r<4294967296) (hT:r*4294967296+u1-S<Y) :
  (4294967296≤q→r*4294967296+u1-S<0)∧(q<4294967296→0≤S∧S≤18446744065119617025):=by
 refine⟨fun hc=>?_,fun hc=>?_⟩
 ·have h2:4294967296*Y≤q*Y:=Int.mul_le_mul_of_nonneg_right hc (by omega)
  have h3:=CO (q:=q) hY;rw[← hP, ← hS]at h3
  omega
 ·rw[hS]
  exact⟨Int.mul_nonneg hq.1 y0b.1,uy (m:=4294967295) hq.1 y0b.1 (by omega) (by omega)⟩
theorem Dv {q r y1 y0 Y u u1 P S:Int}(hP:P=q*y1)(hS:S=q*y0)(hY:Y=y1*4294967296+y0)(y0b:0≤y0∧y0<4294967296)(h1:0≤u1)(hq:q≤4294967297)(hr:r+y1≥4294967296) :
  0≤(r+y1)*4294967296+u1-(S-y0):=by
 have h2:(q-1)*y0≤4294967296*y0:=Int.mul_le_mul_of_nonneg_right (by omega) y0b.1;rw[uj, ← hS]at h2
 omega
theorem Dp {q r y1 y0 u1 S:Int}(hS:S=q*y0)(hq:0≤q)(hr:0≤r)(h1:0≤u1)(hT:r*4294967296+u1-S<0):1≤q:=by
 by_cases h:q=0
 ·subst h;rw[Int.zero_mul]at hS;omega
 ·omega
theorem XI {Y s y1 y0 u u1 u0:Int}(hY:Y=y1*4294967296+y0)(y1b:2147483648≤y1∧y1<4294967296)(y0b:0≤y0∧y0<4294967296)(hu:0≤u)(hu1:u<Y)(h1:0≤u1∧u1<4294967296){R:Int × Int}
  (next:∀ q t,u*4294967296+u1=q*Y+t→0≤t→t<Y→0≤q→q≤4294967297→Ev (fun k=>aN.j2 k Y s y1 y0 u u1 u0 q) R):∀ (m:Nat) (q r P S:Int),q.toNat≤m→0≤q→q≤4294967297→P=q*y1→S=q*y0→r=u-P→0≤r→r<4294967296 →
  r*4294967296+u1-S<Y→Ev (fun k=>aN.l0 k Y s y1 y0 u u1 u0 q r) R:=by
 have fin:∀ (q r P S:Int),0≤q→q≤4294967297→P=q*y1→S=q*y0→r=u-P→0≤r*4294967296+u1-S→r*4294967296+u1-S<Y→Ev (fun k=>aN.j2 k Y s y1 y0 u u1 u0 q) R:=by
  intro q r P S hq hq1 hP hS hr ht ht1;refine next q (r*4294967296+u1-S) ?_ ht ht1 hq hq1;have h3:=CO (q:=q) hY;rw[← hP, ← hS]at h3
  omega
 intro m
 induction m with
 | zero =>
  intro q r P S hm hq hq1 hP hS hr hr0 hr1 hT
  obtain rfl:q=0:=by omega
  rw[Int.zero_mul]at hS;refine Ev.step (f:=fun k=>aN.j1 k Y s y1 y0 u u1 u0 0 r false) (fun k=>?_) (Ev.step (fun k=>?_) (fin 0 r P S hq hq1 hP (by rw[Int.zero_mul];exact hS) hr (by omega) hT))
  ·simp only[aN.l0]
   rw[if_neg (by decide),Int.zero_mul]
   congr 1
   refine decide_eq_false ?_;rw[tV (x:=0) (by decide) (by decide),tV (x:=4294967296*r) (by omega) (by omega),tV (by omega) (by omega)]
   omega
  ·simp only[aN.j1]
   rw[if_neg (by decide)]
 | succ m ih =>
  intro q r P S hm hq hq1 hP hS hr hr0 hr1 hT;obtain⟨t1,t2⟩:=F8 hP hS hY y1b y0b hu hu1 h1 ⟨hq,hq1⟩ hr hr0 hr1 hT
  have yes:r*4294967296+u1-S<0→Ev (fun k=>aN.j1 k Y s y1 y0 u u1 u0 q r true) R:=by
   intro hlt;have hq2:=Dp (y1:=y1) hS hq hr0 h1.1 hlt
   have hw:ae (IntKind.u64.wrap (q-1)=q-1):=⟨tV (by omega) (by omega)⟩
   have hw2:ae (IntKind.u64.wrap (r+y1)=r+y1):=⟨tV (by omega) (by omega)⟩
   have hP':P-y1=(q-1)*y1:=by rw[uj,hP]
   have hS':S-y0=(q-1)*y0:=by rw[uj,hS]
   by_cases hb:4294967296≤r+y1
   ·have hn:=Dv (u:=u) hP hS hY y0b h1.1 hq1 hb
    refine Ev.step (fun k=>?_) (fin (q-1) (r+y1) (P-y1) (S-y0) (by omega) (by omega) hP' hS' (by omega) hn (by omega));simp only[aN.j1];rw[if_pos trivial,hw2.out,if_pos (by omega),hw.out]
   ·refine Ev.step (fun k=>?_) (ih (q-1) (r+y1) (P-y1) (S-y0) (by omega) (by omega) (by omega) hP' hS' (by omega) (by omega) (by omega) (by omega))
    simp only[aN.j1];rw[if_pos trivial,hw2.out,if_neg (by omega),hw.out]
  by_cases hc:4294967296≤q
  ·refine Ev.step (fun k=>?_) (yes (t1 hc))
   simp only[aN.l0];rw[if_pos (by omega)]
  ·obtain⟨s0,s1⟩:=t2 (by omega)
   have hw:ae (IntKind.u64.wrap (q*y0)=S):=⟨by rw[← hS];exact tV (by omega) (by omega)⟩
   have hw2:ae (IntKind.u64.wrap (IntKind.u64.wrap (4294967296*r)+u1)=4294967296*r+u1):=⟨by rw[tV (x:=4294967296*r) (by omega) (by omega),tV (by omega) (by omega)]⟩
   by_cases hlt:r*4294967296+u1-S<0
   ·refine Ev.step (fun k=>?_) (yes hlt)
    simp only[aN.l0];rw[if_neg (by omega),hw.out,hw2.out,decide_eq_true (by omega)]
   ·refine Ev.step (f:=fun k=>aN.j1 k Y s y1 y0 u u1 u0 q r false) (fun k=>?_) (Ev.step (fun k=>?_) (fin q r P S hq hq1 hP hS hr (by omega) hT))
    ·simp only[aN.l0]
     rw[if_neg (by omega),hw.out,hw2.out,decide_eq_false (by omega)]
    ·simp only[aN.j1]
     rw[if_neg (by decide)]
theorem XT {Y s y1 y0 u u1 q1:Int}(hs:0≤s)(hY:Y=y1*4294967296+y0)(y1b:2147483648≤y1∧y1<4294967296)(y0b:0≤y0∧y0<4294967296)(hu:0≤u)(hu1:u<Y)(h1:0≤u1∧u1<4294967296){R:Int × Int}
  (next:∀ q t,u*4294967296+u1=q*Y+t→0≤t→t<Y→0≤q→q≤4294967297→(IntKind.u64.wrap (IntKind.u64.wrap (q1*4294967296)+q),shr .u64 (IntKind.u64.wrap (IntKind.u64.wrap (IntKind.u64.wrap (u*4294967296)+u1)-IntKind.u64.wrap (q*Y))) s)=R):∀ (m:Nat) (q r P S:Int),q.toNat≤m→0≤q→q≤4294967297→P=q*y1→S=q*y0→r=u-P→0≤r→r<4294967296 →
  r*4294967296+u1-S<Y→Ev (fun k=>aN.l1 k Y s y1 y0 u1 q1 r u q) R:=by
 have fin:∀ (q r P S:Int),0≤q→q≤4294967297→P=q*y1→S=q*y0→r=u-P→0≤r*4294967296+u1-S→r*4294967296+u1-S<Y→(IntKind.u64.wrap (IntKind.u64.wrap (q1*4294967296)+q),shr .u64 (IntKind.u64.wrap (IntKind.u64.wrap (IntKind.u64.wrap (u*4294967296)+u1)-IntKind.u64.wrap (q*Y))) s)=R:=by
  intro q r P S hq hq1 hP hS hr ht ht1;refine next q (r*4294967296+u1-S) ?_ ht ht1 hq hq1;have h3:=CO (q:=q) hY;rw[← hP, ← hS]at h3
  omega
 intro m
 induction m with
 | zero =>
  intro q r P S hm hq hq1 hP hS hr hr0 hr1 hT
  obtain rfl:q=0:=by omega
  rw[Int.zero_mul]at hS;have hf:=fin 0 r P S hq hq1 hP (by rw[Int.zero_mul];exact hS) hr (by omega) hT;refine Ev.step (f:=fun k=>aN.j4 k Y s y1 y0 u1 q1 r u 0 false) (fun k=>?_) (Ev.step (f:=fun _=>some R) (fun k=>?_) (Ev.now _))
  ·simp only[aN.l1]
   rw[if_neg (by decide),Int.zero_mul]
   congr 1
   refine decide_eq_false ?_;rw[tV (x:=0) (by decide) (by decide),tV (x:=4294967296*r) (by omega) (by omega),tV (by omega) (by omega)]
   omega
  ·simp only[aN.j4]
   rw[if_neg (by decide),if_pos hs,hf]
 | succ m ih =>
  intro q r P S hm hq hq1 hP hS hr hr0 hr1 hT;obtain⟨t1,t2⟩:=F8 hP hS hY y1b y0b hu hu1 h1 ⟨hq,hq1⟩ hr hr0 hr1 hT
  have yes:r*4294967296+u1-S<0→Ev (fun k=>aN.j4 k Y s y1 y0 u1 q1 r u q true) R:=by
   intro hlt;have hq2:=Dp (y1:=y1) hS hq hr0 h1.1 hlt
   have hw:ae (IntKind.u64.wrap (q-1)=q-1):=⟨tV (by omega) (by omega)⟩
   have hw2:ae (IntKind.u64.wrap (r+y1)=r+y1):=⟨tV (by omega) (by omega)⟩
   have hP':P-y1=(q-1)*y1:=by rw[uj,hP]
   have hS':S-y0=(q-1)*y0:=by rw[uj,hS]
   by_cases hb:4294967296≤r+y1
   ·have hn:=Dv (u:=u) hP hS hY y0b h1.1 hq1 hb
    have hf:=fin (q-1) (r+y1) (P-y1) (S-y0) (by omega) (by omega) hP' hS' (by omega) hn (by omega);refine Ev.step (f:=fun _=>some R) (fun k=>?_) (Ev.now _);simp only[aN.j4];rw[if_pos trivial,hw2.out,if_pos (by omega),if_pos hs,hw.out,hf]
   ·refine Ev.step (fun k=>?_) (ih (q-1) (r+y1) (P-y1) (S-y0) (by omega) (by omega) (by omega) hP' hS' (by omega) (by omega) (by omega) (by omega))
    simp only[aN.j4];rw[if_pos trivial,hw2.out,if_neg (by omega),hw.out]
  by_cases hc:4294967296≤q
  ·refine Ev.step (fun k=>?_) (yes (t1 hc))
   simp only[aN.l1];rw[if_pos (by omega)]
  ·obtain⟨s0,s1⟩:=t2 (by omega)
   have hw:ae (IntKind.u64.wrap (q*y0)=S):=⟨by rw[← hS];exact tV (by omega) (by omega)⟩
   have hw2:ae (IntKind.u64.wrap (IntKind.u64.wrap (4294967296*r)+u1)=4294967296*r+u1):=⟨by rw[tV (x:=4294967296*r) (by omega) (by omega),tV (by omega) (by omega)]⟩
   by_cases hlt:r*4294967296+u1-S<0
   ·refine Ev.step (fun k=>?_) (yes hlt)
    simp only[aN.l1];rw[if_neg (by omega),hw.out,hw2.out,decide_eq_true (by omega)]
   ·have hf:=fin q r P S hq hq1 hP hS hr (by omega) hT
    refine Ev.step (f:=fun k=>aN.j4 k Y s y1 y0 u1 q1 r u q false) (fun k=>?_) (Ev.step (f:=fun _=>some R) (fun k=>?_) (Ev.now _))
    ·simp only[aN.l1]
     rw[if_neg (by omega),hw.out,hw2.out,decide_eq_false (by omega)]
    ·simp only[aN.j4]
     rw[if_neg (by decide),if_pos hs,hf]
theorem Cf {u y1 y0 Y u1:Int}(hY:Y=y1*4294967296+y0)(y1b:2147483648≤y1∧y1<4294967296)(y0b:0≤y0∧y0<4294967296)(hu:0≤u)(hu1:u<Y)(h1:0≤u1∧u1<4294967296) :
  0≤u / y1∧u / y1≤4294967297∧0≤u-u / y1*y1∧u-u / y1*y1<4294967296∧(u-u / y1*y1)*4294967296+u1-u / y1*y0<Y:=by
 have h2:=Int.mul_ediv_add_emod u y1;have h3:=Int.emod_nonneg u (show y1≠0 by omega);have h4:=Int.emod_lt_of_pos u (show 0<y1 by omega);have h5:0≤u / y1:=Int.ediv_nonneg hu (by omega);have h6:u / y1<4294967298:=Int.ediv_lt_of_lt_mul (by omega) (by omega);have h7:0≤u / y1*y0:=Int.mul_nonneg h5 y0b.1;rw[Int.mul_comm y1]at h2;exact⟨h5,by omega,by omega,by omega,by omega⟩
theorem FY {u u1 q Y t:Int}(h:u*4294967296+u1=q*Y+t)(h0:0≤t)(h1:t<18446744073709551616) :
  IntKind.u64.wrap (IntKind.u64.wrap (IntKind.u64.wrap (u*4294967296)+u1)-IntKind.u64.wrap (q*Y))=t:=by
 generalize q*Y=Q at *;rw[IntKind.wrap_u64,IntKind.wrap_u64,IntKind.wrap_u64,IntKind.wrap_u64]
 omega
theorem PI {Y s y1 y0 u a1 a0:Int}(hs:0≤s)(hY:Y=y1*4294967296+y0)(y1b:2147483648≤y1∧y1<4294967296)(y0b:0≤y0∧y0<4294967296)(hu:0≤u)(hu1:u<Y)(h1:0≤a1∧a1<4294967296)(h0:0≤a0∧a0<4294967296) :
  Ev (fun k=>aN.l0 k Y s y1 y0 u a1 a0 (u / y1) (u-u / y1*y1)) ((u*18446744073709551616+a1*4294967296+a0) / Y,shr .u64 ((u*18446744073709551616+a1*4294967296+a0) % Y) s):=by
 obtain⟨f1,f2,f3,f4,f5⟩:=Cf hY y1b y0b hu hu1 h1;refine XI hY y1b y0b hu hu1 h1 ?_ _ (u / y1) (u-u / y1*y1) _ _ (Nat.le_refl _) f1 f2 rfl rfl rfl f3 f4 f5;intro q t e t0 t1 q0 q1
 have hYB:Y<18446744073709551616:=by omega
 have hw:=FY e t0 (by omega);obtain⟨g1,g2,g3,g4,g5⟩:=Cf hY y1b y0b t0 t1 h0;have hd:=aaW t0 (by omega) (show 0<y1 by omega);refine Ev.step (f:=fun k=>aN.l1 k Y s y1 y0 a0 q (t-t / y1*y1) t (t / y1)) (fun k=>?_) (XT hs hY y1b y0b t0 t1 h0 ?_ _ (t / y1) (t-t / y1*y1) _ _ (Nat.le_refl _) g1 g2 rfl rfl rfl g3 g4 g5)
 ·simp only[aN.j2]
  have hP:0≤t / y1*y1:=Int.mul_nonneg g1 (by omega);rw[if_neg (by omega),hw,hd];rw[tV (x:=t / y1*y1) hP (by omega),tV (x:=t-t / y1*y1) g3 (by omega)]
 ·intro q' t' e' t0' t1' q0' q1'
  rw[FY e' t0' (by omega)]
  have he:u*18446744073709551616+a1*4294967296+a0=(q*4294967296+q')*Y+t':=by
   have:(q*4294967296+q')*Y=q*Y*4294967296+q' * Y:=by grind
   rw[this]
   omega
  obtain⟨x1,x2⟩:=xN he t0' t1';rw[x1,x2]
  have hq:q*4294967296+q'<18446744073709551616:=by
   rw[← x1];exact Int.ediv_lt_of_lt_mul (by omega) (by omega)
  rw[tV (x:=q*4294967296) (by omega) (by omega),tV (by omega) (by omega)]
theorem afF {x:Int}(h0:0≤x)(h1:x<B):Ev (fun k=>bits_LeadingZeros64.f k x) (((64-bl x:Nat):Nat):Int):=by
 have hb:bl x≤64:=Py (by rw[CP];exact h1);refine Ev.congr (f:=fun k=>(bits_Len64.f k x).bind fun t=>some (wrap64 (64-t))) (fun k=>by unfold bits_LeadingZeros64.f;rfl) (Ev.congr (fun k=>rfl) (Ev.bind (NG h0 h1) ?_))
 have e:wrap64 (64-((bl x:Nat):Int))=(((64-bl x:Nat):Nat):Int):=by rw[w64 (by omega) (by omega)];omega
 rw[e];exact Ev.now _
theorem Zx {y:Int}(h0:0<y)(h1:y<B):9223372036854775808≤y*pw 2 (64-bl y)∧y*pw 2 (64-bl y)<18446744073709551616∧1≤bl y∧bl y≤64:=by
 have hb:bl y≤64:=Py (by rw[CP];exact h1)
 have hb1:1≤bl y:=by rw[CW h0];omega
 have hp:=jO (64-bl y);have hd:y / pw 2 (bl y)=0:=Ak aaV (by omega)
 have hlt:y<pw 2 (bl y):=by
  have:=Int.mul_ediv_add_emod y (pw 2 (bl y));have:=Int.emod_lt_of_pos y (jO (bl y));rw[hd,Int.mul_zero]at *
  omega
 have hle:pw 2 (bl y-1)≤y:=F7 aaV h0
 have e1:pw 2 (bl y)*pw 2 (64-bl y)=18446744073709551616:=by rw[← ug, ← AQ (s:=bl y) hb]
 have e2:pw 2 (bl y-1)*pw 2 (64-bl y)=9223372036854775808:=by
  rw[← qG,show bl y-1+(64-bl y)=63 by omega,ui];decide
 refine⟨?_,?_,hb1,hb⟩
 ·rw[← e2];exact Int.mul_le_mul_of_nonneg_right hle (by omega)
 ·rw[← e1];exact Int.mul_lt_mul_of_pos_right hlt hp
theorem Oz {hi lo y:Int}(h0:0≤hi)(h1:hi<y)(hy:y<B)(l0:0≤lo)(l1:lo<B):Ev (fun k=>aN.f k hi lo y) ((hi*B+lo) / y,(hi*B+lo) % y):=by
 by_cases hz:hi=0
 ·subst hz
  rw[Int.zero_mul,Int.zero_add];refine Ev.congr (f:=fun _=>some (lo / y,lo % y)) (fun k=>?_) (Ev.now _);unfold aN.f;rw[ug]at l1;rw[if_neg (by omega),if_neg (by omega),if_pos rfl,aaW l0 (by omega) (by omega),Int.tmod_eq_emod_of_nonneg l0]
 ·obtain⟨n1,n2,n3,n4⟩:=Zx (show 0<y by omega) hy
  have hs1:64-bl y≤63:=by omega
  generalize hs:64-bl y=s at *;have hP:=jO s;have hQ:=jO (64-s);have hPQ:=AQ (s:=s) (by omega);have lv:=Ev.congr (f:=fun k=>bits_LeadingZeros64.f k y) (fun k=>rfl) (afF (x:=y) (by omega) hy);rw[hs]at lv;obtain⟨d1,d2,d3,d4,d5,d6⟩:=Fh hP hQ l0 (by rw[hPQ];exact l1);rw[hPQ]at d1 d3 d4;have hhi:hi*pw 2 s<y*pw 2 s:=Int.mul_lt_mul_of_pos_right h1 hP;have hhi1:(hi+1)*pw 2 s≤y*pw 2 s:=Int.mul_le_mul_of_nonneg_right (by omega) (by omega);rw[Int.add_mul,Int.one_mul]at hhi1;have hhi0:0≤hi*pw 2 s:=Int.mul_nonneg h0 (by omega)
  have eY:shl .u64 y (s:Int)=y*pw 2 s:=by rw[xM _ (by omega)];exact Int.emod_eq_of_lt (by omega) (by rw[ug];omega)
  have eH:shl .u64 hi (s:Int)=hi*pw 2 s:=by rw[xM _ (by omega)];exact Int.emod_eq_of_lt (by omega) (by rw[ug];omega)
  have eL:shl .u64 lo (s:Int)=lo*pw 2 s % B:=xM _ (by omega);have eW:IntKind.u64.wrap (s:Int)=(s:Int):=tV (by omega) (by omega)
  have eV:IntKind.u64.wrap (64-(s:Int))=((64-s:Nat):Int):=by rw[tV (by omega) (by omega)];omega
  have eR:shr .u64 lo ((64-s:Nat):Int)=lo / pw 2 (64-s):=vU _ (by omega)
  have eO:Go.bits .or .u64 (hi*pw 2 s) (lo / pw 2 (64-s))=hi*pw 2 s+lo / pw 2 (64-s) :=
   Hw (i:=s) hhi0 (Int.mul_emod_left _ _) (by rw[ug];omega) d5 d6 (by have:=Oa (i:=s) (by omega);omega)
  have aFp:0≤lo*pw 2 s % B:=Int.emod_nonneg _ (by have:=jm;omega)
  have aFq:lo*pw 2 s % B<18446744073709551616:=by rw[← ug];exact Int.emod_lt_of_pos _ jm
  have eA:(hi*pw 2 s+lo / pw 2 (64-s))*18446744073709551616+(lo*pw 2 s % B)=(hi*B+lo)*pw 2 s:=by
   rw[Int.add_mul (hi*B),d1]
   have:hi*B*pw 2 s=hi*pw 2 s*B:=by grind
   rw[this,ug]
   have:(lo*pw 2 s % 18446744073709551616+18446744073709551616*(lo / pw 2 (64-s))) % 18446744073709551616=lo*pw 2 s % 18446744073709551616:=by omega
   omega
  generalize hYd:y*pw 2 s=Y at *;generalize hud:hi*pw 2 s+lo / pw 2 (64-s)=u at *;generalize had:lo*pw 2 s % B=a at *
  have hu0:0≤u:=by omega
  have hu1:u<Y:=by omega
  have core:=PI (Y:=Y) (s:=(s:Int)) (y1:=Y / 4294967296) (y0:=Y % 4294967296) (u:=u) (a1:=a / 4294967296) (a0:=a % 4294967296) (by omega) (by omega) (by omega) (by omega) hu0 hu1 (by omega) (by omega)
  have eN:u*18446744073709551616+a / 4294967296*4294967296+a % 4294967296=(hi*B+lo)*pw 2 s:=by rw[← eA];omega
  rw[eN, ← hYd,Int.mul_ediv_mul_of_pos_left _ _ hP,KO hP,vU _ (by omega),Int.mul_ediv_cancel _ (show pw 2 s≠0 by omega),hYd]at core;have hP1:0≤u / (Y / 4294967296)*(Y / 4294967296):=Int.mul_nonneg (Int.ediv_nonneg hu0 (by omega)) (by omega);have hP2:=Int.mul_ediv_add_emod u (Y / 4294967296);have hP3:=Int.emod_nonneg u (show Y / 4294967296≠0 by omega);rw[Int.mul_comm (Y / 4294967296)]at hP2;refine Ev.congr (fun k=>by unfold aN.f;rw[if_neg (by omega),if_neg (by omega),if_neg hz]) (Ev.bind lv ?_);refine Ev.congr (fun k=>?_) core;rw[eW,if_pos (by omega),eV,if_pos (by omega),eY,eH,eL,eR,eO,if_neg (by omega),aaW hu0 (by omega) (by omega),vZ (by omega) (by omega),vZ aFp aFq];rw[tV (x:=u / (Y / 4294967296)*(Y / 4294967296)) hP1 (by omega),tV (x:=u-u / (Y / 4294967296)*(Y / 4294967296)) (by omega) (by omega)]
theorem Af (l:List Int)(i:Nat)(h:i<l.length):l.drop i=l.getD i 0::l.drop (i+1):=by
 rw[List.drop_eq_getElem_cons h,List.getD_eq_getElem?_getD,List.getElem?_eq_getElem h];rfl
theorem uK (l:List Int)(i:Nat)(v:Int)(h:i<l.length):(l.set i v).drop i=v::l.drop (i+1):=by
 rw[Af _ i (by simpa using h),rq l i v h]
 congr 1
 rw[List.drop_set_of_lt (by omega)]
theorem FC {b a r d q t V Q:Int}(h:r*b+a=q*d+t)(hv:V=Q*d+r):a+b*V=(q+b*Q)*d+t:=by grind
theorem Xm {l:List Int}(hl:Dig B l)(hL:l.length≤1099511627775){d:Int}(d0:0<d)(d1:d<B):∀ (i:Nat) (x:List Int) (r:Int),i≤l.length→x.length=l.length→Dig B x→0≤r→r<d→val B (l.drop i)=val B (x.drop i)*d+r →
  Ev (fun k=>iY.l0 k l d x r ((i:Int)-1)) (enc B (val B l / d),val B l % d):=by
 intro i
 induction i with
 | zero =>
  intro x r hi hx hd r0 r1 hv;rw[List.drop_zero,List.drop_zero]at hv;obtain⟨e1,e2⟩:=xN hv r0 r1;rw[e1,e2];refine Ev.step (f:=fun k=>(bG.f k x).bind fun t=>some (t,r)) (fun k=>?_) (Ev.bind (nV hd (by omega)) (Ev.now _));simp only[iY.l0];rw[if_neg (by omega)]
 | succ i ih =>
  intro x r hi hx hd r0 r1 hv;have hg:=hl.get jm i;have hD:=Oz r0 r1 d1 hg.1 hg.2
  have hn:0≤r*B+l.getD i 0:=by have:=Int.mul_nonneg r0 (Int.le_of_lt jm);omega
  have q0:0≤(r*B+l.getD i 0) / d:=Int.ediv_nonneg hn (by omega);have hrb:(r+1)*B≤d*B:=Int.mul_le_mul_of_nonneg_right (by omega) (Int.le_of_lt jm);rw[Int.add_mul,Int.one_mul]at hrb;have q1:(r*B+l.getD i 0) / d<B:=Int.ediv_lt_of_lt_mul d0 (by rw[Int.mul_comm B];omega);have t0:=Int.emod_nonneg (r*B+l.getD i 0) (show d≠0 by omega);have t1:=Int.emod_lt_of_pos (r*B+l.getD i 0) d0;have he:=Int.mul_ediv_add_emod (r*B+l.getD i 0) d;generalize (r*B+l.getD i 0) / d=q at *;generalize (r*B+l.getD i 0) % d=t at *
  have hw:ae (wrap64 (((i+1:Nat):Int)-1-1)=(i:Int)-1):=⟨by rw[w64 (by omega) (by omega)];omega⟩
  have hw1:ae (((i+1:Nat):Int)-1=(i:Int)):=⟨by omega⟩
  have hlt:i<x.length:=by omega
  refine Ev.step (f:=fun k=>(aN.f k r (l.getD i 0) d).bind fun b=>if (i:Int)<(x.length:Int) then iY.l0 k l d (x.set i b.1) b.2 ((i:Int)-1) else none) (fun k=>?_) (Ev.bind hD ?_)
  ·simp only[iY.l0]
   rw[if_pos (by omega),if_pos (by omega),if_pos (by omega),hw.out,hw1.out,eP]
   rfl
  ·refine Ev.congr (fun k=>by rw[if_pos (by omega)]) (ih (x.set i q) t (by omega) (by simpa using hx) (hd.set q0 q1) t0 t1 ?_)
   rw[uK x i q hlt,Af l i (by omega),jh,jh];exact FC (by rw[← he,Int.mul_comm d]) hv
theorem XZ {l:List Int}(hl:Dig B l)(hL:l.length≤1099511627775){d:Int}(d0:0<d)(d1:d<B):Ev (fun k=>iY.f k l d) (enc B (val B l / d),val B l % d):=by
 have:=Xm hl hL d0 d1 l.length (List.replicate l.length 0) 0 (Nat.le_refl _) (by simp) (Dig.zeros jm _) (Int.le_refl _) d0 (by simp[val]);refine Ev.congr (fun k=>?_) this;unfold iY.f;rw[if_pos (by omega),Int.toNat_natCast,if_pos (by omega),w64 (by omega) (by omega)]
theorem acz {q d1 d0 b:Int}:q*(d1*b+d0)=q*d1*b+q*d0:=by grind
theorem afO {u0 d1 d0:Int}(hu0:0≤u0∧u0<B)(hd1:0<d1∧d1<B)(hd0:0≤d0∧d0<B)(U:Int):∀ (m:Nat) (q r:Int),q.toNat≤m→0≤q→q<B→0≤r→r<B→U=(q*d1+r)*B+u0→U<(q+1)*(d1*B+d0) →
  ∃ g,Ev (fun k=>bM.l0 k u0 d1 d0 q r) g∧0≤g∧g<B∧U<(g+1)*(d1*B+d0):=by
 intro m
 induction m with
 | zero =>
  intro q r hm q0 q1 r0 r1 hU hlt
  obtain rfl:q=0:=by omega
  refine⟨0,?_,q0,q1,hlt⟩;have hj:Ev (fun k=>bM.j1 k u0 d1 d0 0 r true) 0:=Ev.step (f:=fun _=>some 0) (fun k=>by simp only[bM.j1];rw[if_pos trivial]) (Ev.now _);refine Ev.step (f:=fun k=>bM.j1 k u0 d1 d0 0 r true) (fun k=>?_) hj;simp only[bM.l0];rw[xg ⟨q0,q1⟩ hd0,Int.zero_mul];simp only[Option.bind_some,Int.zero_ediv,Int.zero_emod]
  by_cases h:0<r
  ·rw[if_pos h]
  ·rw[if_neg h,if_pos (by omega),decide_eq_true (by omega)]
 | succ m ih =>
  intro q r hm q0 q1 r0 r1 hU hlt;have hP:0≤q*d0:=Int.mul_nonneg q0 hd0.1
  have hm1:q*d0=q*d0 / 18446744073709551616*18446744073709551616+q*d0 % 18446744073709551616:=by omega
  by_cases hle:q*d0≤r*B+u0
  ·refine⟨q,?_,q0,q1,hlt⟩
   have hj:Ev (fun k=>bM.j1 k u0 d1 d0 q r true) q:=Ev.step (f:=fun _=>some q) (fun k=>by simp only[bM.j1];rw[if_pos trivial]) (Ev.now _);refine Ev.step (f:=fun k=>bM.j1 k u0 d1 d0 q r true) (fun k=>?_) hj;simp only[bM.l0];rw[xg ⟨q0,q1⟩ hd0];simp only[Option.bind_some];rw[ug]at hle hu0
   by_cases h:q*d0 / 18446744073709551616<r
   ·rw[if_pos h]
   ·rw[if_neg h,if_pos (by omega),decide_eq_true (by omega)]
  ·have hq1:1≤q:=by
    by_cases h:q=0
    ·subst h;rw[Int.zero_mul]at hle;have:=Int.mul_nonneg r0 (Int.le_of_lt jm);omega
    ·omega
   have hw:ae (IntKind.u64.wrap (q-1)=q-1):=⟨by rw[ug]at q1;exact tV (by omega) (by omega)⟩
   have hlt2:U<(q-1+1)*(d1*B+d0):=by
    rw[show q-1+1=q by omega,acz,hU,Int.add_mul]
    omega
   have hU2:U=((q-1)*d1+(r+d1))*B+u0:=by rw[hU];grind
   have no:∀ R,Ev (fun k=>bM.j1 k u0 d1 d0 q r false) R→Ev (fun k=>bM.l0 k u0 d1 d0 q r) R:=by
    intro R hR;refine Ev.step (fun k=>?_) hR;simp only[bM.l0];rw[xg ⟨q0,q1⟩ hd0];simp only[Option.bind_some];rw[ug]at hle hu0;rw[if_neg (by omega)]
    by_cases h:q*d0 / 18446744073709551616=r
    ·rw[if_pos h,decide_eq_false (by omega)]
    ·rw[if_neg h]
   by_cases hb:B≤r+d1
   ·refine⟨q-1,no _ (Ev.step (f:=fun _=>some (q-1)) (fun k=>?_) (Ev.now _)),by omega,by omega,hlt2⟩
    simp only[bM.j1]
    have e:IntKind.u64.wrap (r+d1)=r+d1-18446744073709551616:=by
     rw[ug]at hb r1 hd1;rw[IntKind.wrap_u64]
     omega
    rw[ug]at r1;rw[if_neg (by decide),e,if_pos (by omega),hw.out]
   ·obtain⟨g,hg,g0,g1,g2⟩:=ih (q-1) (r+d1) (by omega) (by omega) (by omega) (by omega) (by omega) hU2 hlt2
    refine⟨g,no _ (Ev.step (fun k=>?_) hg),g0,g1,g2⟩;simp only[bM.j1]
    have e:IntKind.u64.wrap (r+d1)=r+d1:=by rw[ug]at hb;exact tV (by omega) (by omega)
    rw[if_neg (by decide),e,if_neg (by omega),hw.out]
theorem agj {u2 u1 u0 d1 d0:Int}(hu2:0≤u2∧u2<B)(hu1:0≤u1∧u1<B)(hu0:0≤u0∧u0<B)(hd1:0<d1∧d1<B)(hd0:0≤d0∧d0<B) :
  ∃ g,Ev (fun k=>bM.f k u2 u1 u0 d1 d0) g∧0≤g∧g<B∧((u2*B+u1)*B+u0<(g+1)*(d1*B+d0)∨g=B-1):=by
 by_cases h:d1≤u2
 ·refine⟨B-1,Ev.congr (f:=fun _=>some (B-1)) (fun k=>?_) (Ev.now _),by rw[ug];decide,by omega,.inr rfl⟩
  unfold bM.f;rw[if_pos (by omega),ug]
  rfl
 ·have hD:=Oz hu2.1 (show u2<d1 by omega) hd1.2 hu1.1 hu1.2
  have hn:0≤u2*B+u1:=by have:=Int.mul_nonneg hu2.1 (Int.le_of_lt jm);omega
  have q0:0≤(u2*B+u1) / d1:=Int.ediv_nonneg hn (by omega);have hrb:(u2+1)*B≤d1*B:=Int.mul_le_mul_of_nonneg_right (by omega) (Int.le_of_lt jm);rw[Int.add_mul,Int.one_mul]at hrb;have q1:(u2*B+u1) / d1<B:=Int.ediv_lt_of_lt_mul hd1.1 (by rw[Int.mul_comm B];omega);have t0:=Int.emod_nonneg (u2*B+u1) (show d1≠0 by omega);have t1:=Int.emod_lt_of_pos (u2*B+u1) hd1.1;have he:=Int.mul_ediv_add_emod (u2*B+u1) d1;generalize (u2*B+u1) / d1=q at *;generalize (u2*B+u1) % d1=t at *
  have e1:(q+1)*(d1*B+d0)=(q*d1+d1)*B+(q*d0+d0):=by grind
  have hqd:=Int.mul_nonneg q0 hd0.1
  have hU:(u2*B+u1)*B+u0=(q*d1+t)*B+u0:=by rw[← he,Int.mul_comm d1]
  have hlt:(u2*B+u1)*B+u0<(q+1)*(d1*B+d0):=by
   rw[e1,hU];have h2:(q*d1+t+1)*B≤(q*d1+d1)*B:=Int.mul_le_mul_of_nonneg_right (by omega) (Int.le_of_lt jm);rw[Int.add_mul (q*d1+t),Int.one_mul]at h2
   omega
  obtain⟨g,hg,g0,g1,g2⟩:=afO hu0 hd1 hd0 ((u2*B+u1)*B+u0) q.toNat q t (Nat.le_refl _) q0 q1 t0 (by omega) hU hlt;refine⟨g,Ev.congr (fun k=>by unfold bM.f;rw[if_neg (by omega)]) (Ev.bind hD hg),g0,g1,.inl g2⟩
end Go.Proofs.Yy.PTx
end
