/- Part 13. -/
import Derived.Test.YtpfnkbnepcchgaaGreatDoorKTPL
set_option linter.unusedSimpArgs false
set_option linter.unusedVariables false
section
namespace Go.Proofs.Yy.PTx
open Go.RowKit Go.Proofs.Yw.PrintWords Go.Proofs.Yw.PrintLast Go.Proofs.Yw.PrintMore Go.Proofs.Yy.M Go.Proofs.Yy.NM
attribute [local irreducible] fK iD iV jY val
theorem vZ {x:Int}(h0:0≤x)(h1:x<18446744073709551616):Go.bits .and .u64 x 4294967295=x % 4294967296 :=
 bits_mask .u64 64 (by decide) (fun n a b=>tV a (by omega)) 32 (by decide) x h0 h1
theorem uy {a b m:Int}(ha:0≤a)(hb:0≤b)(h1:a≤m)(h2:b≤m):a*b≤m*m :=
 Int.mul_le_mul h1 h2 hb (by omega)
theorem TD {p q r s A:Int}(hp:0≤p∧p≤18446744065119617025)(hq:0≤q∧q≤18446744065119617025)(hr:0≤r∧r≤18446744065119617025)(hs:0≤s∧s≤18446744065119617025)
  (hA:A=p*18446744073709551616+(q+s)*4294967296+r):p+(q+r / 4294967296) / 4294967296+((q+r / 4294967296) % 4294967296+s) / 4294967296=A / 18446744073709551616:=by
 omega
theorem xg {a b:Int}(ha:0≤a∧a<B)(hb:0≤b∧b<B):bits_Mul64.f a b=some (a*b / 18446744073709551616,a*b % 18446744073709551616):=by
 rw[ug]at *;unfold bits_Mul64.f
 obtain⟨x1,hx1⟩:∃ x1,x1=a / 4294967296:=⟨_,rfl⟩
 obtain⟨x0,hx0⟩:∃ x0,x0=a % 4294967296:=⟨_,rfl⟩
 obtain⟨y1,hy1⟩:∃ y1,y1=b / 4294967296:=⟨_,rfl⟩
 obtain⟨y0,hy0⟩:∃ y0,y0=b % 4294967296:=⟨_,rfl⟩
 rw[vZ ha.1 ha.2,vZ hb.1 hb.2, ← hx1, ← hx0, ← hy1, ← hy0]
 have ea:a=x1*4294967296+x0:=by omega
 have eb:b=y1*4294967296+y0:=by omega
 have x1b:0≤x1∧x1≤4294967295:=by omega
 have x0b:0≤x0∧x0≤4294967295:=by omega
 have y1b:0≤y1∧y1≤4294967295:=by omega
 have y0b:0≤y0∧y0≤4294967295:=by omega
 have hp:0≤x1*y1∧x1*y1≤18446744065119617025:=⟨Int.mul_nonneg x1b.1 y1b.1,uy x1b.1 y1b.1 x1b.2 y1b.2⟩
 have hq:0≤x1*y0∧x1*y0≤18446744065119617025:=⟨Int.mul_nonneg x1b.1 y0b.1,uy x1b.1 y0b.1 x1b.2 y0b.2⟩
 have hr:0≤x0*y0∧x0*y0≤18446744065119617025:=⟨Int.mul_nonneg x0b.1 y0b.1,uy x0b.1 y0b.1 x0b.2 y0b.2⟩
 have hs:0≤x0*y1∧x0*y1≤18446744065119617025:=⟨Int.mul_nonneg x0b.1 y1b.1,uy x0b.1 y1b.1 x0b.2 y1b.2⟩
 have hA:a*b=x1*y1*18446744073709551616+(x1*y0+x0*y1)*4294967296+x0*y0:=by rw[ea,eb];grind
 have hM:=TD hp hq hr hs hA;generalize a*b=A at *;generalize x1*y1=p at *;generalize x1*y0=q at *;generalize x0*y0=r at *;generalize x0*y1=s at *;clear hx1 hx0 hy1 hy0 ea eb x1b x0b y1b y0b ha hb;rw[tV (x:=p) (by omega) (by omega),tV (x:=q) (by omega) (by omega),tV (x:=r) (by omega) (by omega),tV (x:=s) (by omega) (by omega)];rw[tV (x:=q+r / 4294967296) (by omega) (by omega),vZ (x:=q+r / 4294967296) (by omega) (by omega),tV (x:=(q+r / 4294967296) % 4294967296+s) (by omega) (by omega)];rw[tV (x:=p+(q+r / 4294967296) / 4294967296) (by omega) (by omega),tV (x:=p+(q+r / 4294967296) / 4294967296+((q+r / 4294967296) % 4294967296+s) / 4294967296) (by omega) (by omega),hM];rw[IntKind.wrap_u64]
theorem SQ {P x y h l l1 c1 l2 c2:Int}(hP:0≤P∧P≤340282366920938463426481119284349108225)(hx:0≤x∧x<18446744073709551616)(hy:0≤y∧y<18446744073709551616)
  (hh:h=P / 18446744073709551616) (hl:l=P % 18446744073709551616) (h1:l1+18446744073709551616*c1=l+x) (hc1:0≤c1∧c1≤1) (hl1:0≤l1∧l1<18446744073709551616)
  (h2:l2+18446744073709551616*c2=l1+y) (hc2:0≤c2∧c2≤1) (hl2:0≤l2∧l2<18446744073709551616):l2+18446744073709551616*(h+c1+c2)=P+x+y∧0≤h+c1∧h+c1≤18446744073709551615∧0≤h+c1+c2∧h+c1+c2≤18446744073709551615:=by
 omega
theorem Gf {v w x y:Int}(hv:0≤v∧v<B)(hw:0≤w∧w<B)(hx:0≤x∧x<B)(hy:0≤y∧y<B) :
  ∃ lo hi,oW.f v w x y=some (lo,hi)∧lo+B*hi=v*w+x+y∧(0≤lo∧lo<B)∧0≤hi∧hi<B:=by
 unfold oW.f;rw[xg hv hw]
 have hl:0≤v*w % 18446744073709551616∧v*w % 18446744073709551616<B:=by rw[ug];exact⟨Int.emod_nonneg _ (by decide),Int.emod_lt_of_pos _ (by decide)⟩
 obtain⟨s1,b1,c1,d1⟩:=um hl hx (Int.le_refl 0) (by decide);obtain⟨s2,b2,c2,d2⟩:=um b1 hy (Int.le_refl 0) (by decide)
 have hP:0≤v*w∧v*w≤340282366920938463426481119284349108225:=by
  rw[ug]at hv hw;exact⟨Int.mul_nonneg hv.1 hw.1,uy (m:=18446744073709551615) hv.1 hw.1 (by omega) (by omega)⟩
 refine⟨_,_,rfl,?_⟩;dsimp only;rw[ug]at *;obtain⟨e1,e2,e3,e4,e5⟩:=SQ hP hx hy rfl rfl (by rw[s1];omega) ⟨c1,d1⟩ b1 (by rw[s2];omega) ⟨c2,d2⟩ b2;rw[tV e2 e3,tV e4 e5];exact⟨e1,b2,e4,by omega⟩
theorem PQ {pi pk b v hi lo x y w V A W:Int}(hs:lo+b*hi=v*w+x+y)(hv:V+pi*pk*y=A+pi*v*W):V+pi*pk*(lo-x)+pi*pk*b*hi=A+pi*v*(W+pk*w):=by grind
theorem qB (l:List Int)(i j:Nat)(v:Int)(h:i≠j):(l.set i v).getD j 0=l.getD j 0:=by
 simp[List.getD_eq_getElem?_getD,List.getElem?_set_ne h]
theorem Xw {a b:List Int}(hb:Dig B b)(hL:a.length+b.length≤1099511627776)(i:Nat)(hi:i<a.length)(v:Int)(hv:0≤v∧v<B)(A:Int)(r:List Int)
  (next:∀ x,x.length=a.length+b.length→Dig B x→(∀ j,i+1+b.length≤j→x.getD j 0=0)→val B x=A+pw B i*v*val B b→Ev (fun k=>dI.l0 k b x a (a.length:Int) ((i+1:Nat):Int)) r) :
  ∀ (d k:Nat) (x:List Int) (y:Int),k+d=b.length→x.length=a.length+b.length→Dig B x→0≤y→y<B→(∀ j,i+b.length≤j→x.getD j 0=0) →
   val B x+pw B i*pw B k*y=A+pw B i*v*val B (b.take k) →
   Ev (fun n=>dI.l1 n b x (i:Int) v y a (a.length:Int) (i:Int) b (b.length:Int) (k:Int)) r:=by
 intro d
 induction d with
 | zero =>
  intro k x y hk hx hd h0 h1 hz hval
  obtain rfl:k=b.length:=by omega
  rw[List.take_length, ← qG]at hval
  have hw:ae (wrap64 ((i:Int)+(b.length:Int))=((i+b.length:Nat):Int)):=⟨by rw[w64 (by omega) (by omega)];omega⟩
  have hw1:ae (wrap64 ((i:Int)+1)=((i+1:Nat):Int)):=⟨by rw[w64 (by omega) (by omega)];omega⟩
  have hlt:i+b.length<x.length:=by omega
  refine Ev.step (f:=fun n=>dI.l0 n b (x.set (i+b.length) y) a (a.length:Int) ((i+1:Nat):Int)) (fun n=>?_) (next _ (by simpa using hx) (hd.set h0 h1) (fun j hj=>by rw[qB _ _ _ _ (by omega)];exact hz j (by omega)) ?_)
  ·simp only[dI.l1]
   rw[hw.out,hw1.out,if_neg (by omega),if_pos (by omega),if_pos (by omega)]
   rfl
  ·rw[o8 B x _ y hlt,hz _ (by omega),Int.sub_zero]
   exact hval
 | succ d ih =>
  intro k x y hk hx hd h0 h1 hz hval
  have hw:ae (wrap64 ((i:Int)+(k:Int))=((i+k:Nat):Int)):=⟨by rw[w64 (by omega) (by omega)];omega⟩
  have hw1:ae (wrap64 ((k:Int)+1)=((k+1:Nat):Int)):=⟨by rw[w64 (by omega) (by omega)];omega⟩
  have hlt:i+k<x.length:=by omega
  have hk1:k+1+d=b.length:=by omega
  obtain⟨lo,hi',hf,hs,hlo,hh⟩:=Gf hv (hb.get jm k) (hd.get jm (i+k)) ⟨h0,h1⟩
  refine Ev.step (f:=fun n=>dI.l1 n b (x.set (i+k) lo) (i:Int) v hi' a (a.length:Int) (i:Int) b (b.length:Int) ((k+1:Nat):Int)) (fun n=>?_)
   (ih (k+1) _ _ hk1 (by simpa using hx) (hd.set hlo.1 hlo.2) hh.1 hh.2 (fun j hj=>by rw[qB _ _ _ _ (by omega)];exact hz j hj) ?_)
  ·simp only[dI.l1]
   rw[hw.out,hw1.out,if_pos (by omega),if_pos (by omega),if_pos (by omega),if_pos (by omega),if_pos (by omega),eP,eP,hf];simp only[Option.bind_some,Int.toNat_natCast]
  ·rw[o8 B x _ lo hlt,eF B b,eU, ← Int.mul_assoc,qG]
   exact PQ hs hval
theorem JE {pi v V A W:Int}(h:V=A*W+pi*v*W):V=(A+pi*v)*W:=by grind
theorem Xx {a b:List Int}(ha:Dig B a)(hb:Dig B b)(hL:a.length+b.length≤1099511627776):∀ (d i:Nat) (x:List Int),i+d=a.length→x.length=a.length+b.length→Dig B x→(∀ j,i+b.length≤j→x.getD j 0=0) →
  val B x=val B (a.take i)*val B b→Ev (fun k=>dI.l0 k b x a (a.length:Int) (i:Int)) (enc B (val B a*val B b)):=by
 intro d
 induction d with
 | zero =>
  intro i x hi hx hd _ hval
  obtain rfl:i=a.length:=by omega
  rw[List.take_length]at hval;refine Ev.step (f:=fun k=>(bG.f k x).bind fun t=>some t) (fun k=>?_) (Ev.bind (by rw[← hval];exact nV hd (by omega)) (Ev.now _));simp only[dI.l0];rw[if_neg (by omega)]
 | succ d ih =>
  intro i x hi hx hd hz hval;have hv:=ha.get jm i
  have hilt:i<a.length:=by omega
  have hi1:i+1+d=a.length:=by omega
  refine Ev.step (f:=fun k=>dI.l1 k b x (i:Int) (a.getD i 0) 0 a (a.length:Int) (i:Int) b (b.length:Int) ((0:Nat):Int)) (fun k=>?_)
   (Xw hb hL i hilt _ hv (val B (a.take i)*val B b) _ (fun x' hx' hd' hz' hval'=>ih (i+1) x' hi1 hx' hd' hz' ?_) b.length 0 x 0 (by omega) hx hd (by omega) (by omega) hz ?_)
  ·simp only[dI.l0]
   rw[if_pos (by omega),if_pos (by omega),if_pos (by omega),eP]
   rfl
  ·rw[eF B a]
   exact JE hval'
  ·rw[List.take_zero,mX,hval];simp
theorem BM {a b:List Int}(ha:Dig B a)(hb:Dig B b)(hL:a.length+b.length≤1099511627776):Ev (fun k=>dI.f k a b) (enc B (val B a*val B b)):=by
 have hw:ae (wrap64 ((a.length:Int)+(b.length:Int))=((a.length+b.length:Nat):Int)):=⟨by rw[w64 (by omega) (by omega)];omega⟩
 refine Ev.congr (f:=fun k=>dI.l0 k b (List.replicate (a.length+b.length) 0) a (a.length:Int) ((0:Nat):Int)) (fun k=>?_)
  (Xx ha hb hL a.length 0 _ (by omega) (by simp) (Dig.zeros jm _) (fun j _=>by simp[List.getD_eq_getElem?_getD,List.getElem?_replicate];split <;> rfl) (by simp[vS,val]))
 unfold dI.f;rw[hw.out,if_pos (by omega),Int.toNat_natCast,if_pos (by omega)]
 rfl
def agn (l:List (List Int)):Int:=l.foldl (fun p x=>p*val B x) 1
theorem afV (l:List (List Int))(n:Nat):Ho l (n:Int)=l.getD n []:=by simp[Ho]
theorem TK {v:Int}{m:Nat}(h:v<pw B m):(enc B v).length≤m:=mf B1 h
theorem agv {l:List (List Int)}(hd:∀ x ∈ l,Dig B x)(hL:(l.map List.length).sum+l.length≤1099511627774):∀ (d i:Nat) (v:Int) (s:Nat),i+d=l.length→0≤v→v≤pw B s→s+((l.drop i).map List.length).sum=(l.map List.length).sum →
  Ev (fun k=>l7.l0 k (enc B v) l (l.length:Int) (i:Int)) (enc B ((l.drop i).foldl (fun p x=>p*val B x) v)):=by
 intro d
 induction d with
 | zero =>
  intro i v s hi h0 h1 hs
  obtain rfl:i=l.length:=by omega
  rw[List.drop_length];refine Ev.step (f:=fun _=>some (enc B v)) (fun k=>?_) (Ev.now _);simp only[l7.l0];rw[if_neg (by omega)]
 | succ d ih =>
  intro i v s hi h0 h1 hs
  have hilt:i<l.length:=by omega
  have hg:l.getD i []=l[i]:=by simp[List.getD_eq_getElem?_getD,List.getElem?_eq_getElem hilt]
  have hm:l.getD i [] ∈ l:=by rw[hg];exact List.getElem_mem hilt
  have hdi:=hd _ hm
  have hw1:ae (wrap64 ((i:Int)+1)=((i+1:Nat):Int)):=⟨by rw[w64 (by omega) (by omega)];omega⟩
  have hv0:=fC jm hdi;have hvl:=kM jm hdi
  have hi1:i+1+d=l.length:=by omega
  have hds:(l.drop i).foldl (fun p x=>p*val B x) v=(l.drop (i+1)).foldl (fun p x=>p*val B x) (v*val B (l.getD i [])):=by rw[hg,List.drop_eq_getElem_cons hilt];rfl
  have hsum:((l.drop i).map List.length).sum=(l.getD i []).length+((l.drop (i+1)).map List.length).sum:=by rw[hg,List.drop_eq_getElem_cons hilt,List.map_cons,List.sum_cons]
  have hlen:(enc B v).length≤s+1:=by
   refine TK (Int.lt_of_le_of_lt h1 ?_);rw[eU];have:=Int.mul_lt_mul_of_pos_left (a:=1) (b:=B) B1 (jQ jm s)
   omega
  have hli:(enc B (val B (l.getD i []))).length≤(l.getD i []).length:=nI B1 hdi
  have hv2:v*val B (l.getD i [])≤pw B (s+(l.getD i []).length):=by
   rw[qG];exact Int.mul_le_mul h1 (Int.le_of_lt hvl) hv0 (Int.le_of_lt (jQ jm s))
  have key:=ih (i+1) _ (s+(l.getD i []).length) hi1 (Int.mul_nonneg h0 hv0) hv2 (by omega);rw[hds]
  refine Ev.step (f:=fun k=>(bG.f k (l.getD i [])).bind fun t=>(dI.f k (enc B v) t).bind fun u=>l7.l0 k u l (l.length:Int) ((i+1:Nat):Int)) (fun k=>?_)
   (Ev.bind (nV hdi (by omega)) (Ev.bind (BM (fO B1 _) (fO B1 _) (by omega)) ?_))
  ·simp only[l7.l0]
   rw[hw1.out,if_pos (by omega),if_pos (by omega),if_pos (by omega),afV]
  ·rw[fB B1 h0,fB B1 hv0]
   exact key
theorem SY:enc B 1=[1]:=by
 rw[oD B1 (by decide),Int.emod_eq_of_lt (by decide) B1,Int.ediv_eq_zero_of_lt (by decide) B1,eQ]
theorem agu {l:List (List Int)}(hd:∀ x ∈ l,Dig B x)(hL:(l.map List.length).sum+l.length≤1099511627774):Ev (fun k=>l7.f k l) (enc B (agn l)):=by
 have:=agv hd hL l.length 0 1 0 (by omega) (by omega) (by rw[iU];exact Int.le_refl 1) (by simp);rw[SY,List.drop_zero]at this;exact this
theorem nS:0<D:=by have:=D1;omega
theorem qi (l:List Int)(i:Nat):aZ.f l (i:Int)=some (l.getD i 0):=by
  unfold aZ.f
  by_cases h:i<l.length
  · rw[if_pos (by omega),if_pos (by omega),eP]
  · rw[if_neg (by omega),List.getD_eq_getElem?_getD,List.getElem?_eq_none (by omega)];rfl
theorem RU {x:Int}(h:0≤x):Int.tmod x 16777216=x % D:=by rw[vY];exact Int.tmod_eq_emod_of_nonneg h
theorem XG {x:Int}(h:0≤x):Int.tdiv x 16777216=x / D:=by rw[vY];exact Int.tdiv_eq_ediv_of_nonneg h
theorem RI {X Y c b t:Int}(hb:0<b)(ht:t=X % b+Y % b+c):(X+Y+c) % b=t % b∧(X+Y+c) / b=X / b+Y / b+t / b:=by
  have h1:=Int.mul_ediv_add_emod X b;have h2:=Int.mul_ediv_add_emod Y b
  have e:X+Y+c=t+b*(X / b+Y / b):=by rw[ht,Int.mul_add];omega
  rw[e,Int.add_mul_emod_self_left,Int.add_mul_ediv_left _ _ (by omega)];exact⟨rfl,by omega⟩
theorem abb {A C:Int}(hA:0≤A)(hC:0≤C):∀ (d i:Nat) (c:Int) (out:List Int),A / pw D i+C / pw D i+c<pw D d→0≤c→c≤1→out.length=i→i+d≤1099511627776 →
    Ev (fun k=>aV.l0 k (enc D A) (enc D C) out c (i:Int)) (out++enc D (A / pw D i+C / pw D i+c)):=by
  intro d
  induction d with
  | zero =>
    intro i c out hv h0 h1 ho hL;have hx:=gY nS hA i;have hy:=gY nS hC i;rw[iU]at hv;have hxl:=qE D1 hA i;have hyl:=qE D1 hC i
    have e:A / pw D i+C / pw D i+c=0:=by omega
    rw[e,eQ,List.append_nil];refine Ev.step (f:=fun k=>aV.j1 k (enc D A) (enc D C) out c (i:Int) false) (fun k=>?_) (Ev.step (f:=fun _=>some out) (fun k=>?_) (Ev.now _))
    · simp only[aV.l0]
      rw[if_neg (by omega),if_neg (by omega),decide_eq_false (by omega)]
    · simp only[aV.j1]
      rw[if_neg (by decide)]
  | succ d ih =>
    intro i c out hv h0 h1 ho hL;have hx:=gY nS hA i;have hy:=gY nS hC i;have hxl:=qE D1 hA i;have hyl:=qE D1 hC i
    by_cases hp:0<A / pw D i+C / pw D i+c
    · have hxd:=Int.emod_nonneg (A / pw D i) (show D≠0 by have:=D1;omega)
      have hyd:=Int.emod_nonneg (C / pw D i) (show D≠0 by have:=D1;omega);have alH:=Int.emod_lt_of_pos (A / pw D i) nS;have aAW:=Int.emod_lt_of_pos (C / pw D i) nS
      obtain⟨t,ht⟩:∃ t,t=A / pw D i % D+C / pw D i % D+c:=⟨_,rfl⟩
      obtain⟨e1,e2⟩:=RI nS ht
      have ht0:0≤t:=by omega
      have ht1:t<2*D:=by omega
      have ht2:t≤33554431:=by rw[vY]at ht1;omega
      have hc0:0≤t / D:=Int.ediv_nonneg ht0 (Int.le_of_lt nS)
      have hc1:t / D≤1:=by have:=Int.ediv_lt_of_lt_mul nS ht1;omega
      have hw1:ae (wrap64 ((i:Int)+1)=((i+1:Nat):Int)):=⟨by rw[w64 (by omega) (by omega)];omega⟩
      have key:=ih (i+1) (t / D) (out ++ [t % D]) (by rw[lh nS,lh nS, ← e2];exact Ce D1 hv) hc0 hc1 (by simp[ho]) (by omega);rw[lh nS,lh nS, ← e2, ← e1,GZ D1 hp]at key
      have hw:ae (wrap64 (wrap64 (A / pw D i % D+C / pw D i % D)+c)=t):=⟨by
        rw[vY]at alH aAW;rw[vY]at ht hxd hyd ⊢
        rw[w64 (x:=A / pw 16777216 i % 16777216+C / pw 16777216 i % 16777216) (by omega) (by omega), ← ht,w64 (by omega) (by omega)]⟩
      have hj:Ev (fun k=>aV.j1 k (enc D A) (enc D C) out c (i:Int) true) (out++enc D (A / pw D i+C / pw D i+c)):=by
        refine Ev.step (f:=fun k=>aV.l0 k (enc D A) (enc D C) (out ++ [t % D]) (t / D) ((i+1:Nat):Int)) (fun k=>?_) (by rw[← e1];exact key);simp only[aV.j1];rw[if_pos trivial,qi,qi,jA D1 hA,jA D1 hC];simp only[Option.bind_some];rw[hw.out,if_pos (by omega),RU ht0,XG ht0,hw1.out];rw[w64 (by omega) (by omega)]
      by_cases ha:0<A / pw D i
      · refine Ev.step (f:=fun k=>aV.j1 k (enc D A) (enc D C) out c (i:Int) true) (fun k=>?_) hj
        simp only[aV.l0];rw[if_pos (by have:=hxl.2 ha;omega)]
      · by_cases hc:0<C / pw D i
        · refine Ev.step (f:=fun k=>aV.j1 k (enc D A) (enc D C) out c (i:Int) true) (fun k=>?_) hj
          simp only[aV.l0];rw[if_neg (by omega),if_pos (by have:=hyl.2 hc;omega)]
        · refine Ev.step (f:=fun k=>aV.j1 k (enc D A) (enc D C) out c (i:Int) true) (fun k=>?_) hj
          simp only[aV.l0];rw[if_neg (by omega),if_neg (by omega),decide_eq_true (by omega)]
    · have e:A / pw D i+C / pw D i+c=0:=by omega
      rw[e,eQ,List.append_nil];refine Ev.step (f:=fun k=>aV.j1 k (enc D A) (enc D C) out c (i:Int) false) (fun k=>?_) (Ev.step (f:=fun _=>some out) (fun k=>?_) (Ev.now _))
      · simp only[aV.l0]
        rw[if_neg (by omega),if_neg (by omega),decide_eq_false (by omega)]
      · simp only[aV.j1]
        rw[if_neg (by decide)]
theorem acp {A C:Int}(hA:0≤A)(hC:0≤C){m:Nat}(hm:A+C<pw D m)(hL:m≤1099511627776):Ev (fun k=>aV.f k (enc D A) (enc D C)) (enc D (A+C)):=by
  have:=abb hA hC m 0 0 [] (by rw[fH,fH];omega) (by omega) (by omega) rfl (by omega);rw[fH,fH,Int.add_zero,List.nil_append]at this;exact this
theorem af7:∀ (d:Nat) (v:Int) (out:List Int),0≤v→v<B→v<pw D d→out.length+d≤1099511627776→Ev (fun k=>dU.l0 k v out) (out++enc D v):=by
  intro d
  induction d with
  | zero =>
    intro v out h0 _ h1 _;rw[iU]at h1
    obtain rfl:v=0:=by omega
    rw[eQ,List.append_nil];refine Ev.step (f:=fun _=>some out) (fun k=>?_) (Ev.now _);simp only[dU.l0];rw[if_neg (by omega)]
  | succ d ih =>
    intro v out h0 hb h1 hL
    by_cases hp:0<v
    · have hq0:0≤v / D:=Int.ediv_nonneg h0 (Int.le_of_lt nS)
      have hq1:v / D<v:=Int.ediv_lt_self_of_pos_of_ne_one hp (by have:=D1;omega);have hr0:=Int.emod_nonneg v (show D≠0 by have:=D1;omega);have hr1:=Int.emod_lt_of_pos v nS;have key:=ih (v / D) (out ++ [v % D]) hq0 (by omega) (Ce D1 h1) (by simp;omega);rw[GZ D1 hp]at key;refine Ev.step (f:=fun k=>dU.l0 k (v / D) (out ++ [v % D])) (fun k=>?_) key;simp only[dU.l0];rw[if_pos (by omega),if_pos (by omega),XG h0,RU h0,tV hq0 (by rw[ug]at hb;omega),w64 (by omega) (by rw[vY]at hr1 ⊢;omega)]
    · obtain rfl:v=0:=by omega
      rw[eQ,List.append_nil];refine Ev.step (f:=fun _=>some out) (fun k=>?_) (Ev.now _);simp only[dU.l0];rw[if_neg (by omega)]
theorem ayD:B<pw D 3:=by
  rw[eU,eU,ZP,ug,vY];decide
theorem agk {v:Int}(h0:0≤v)(h1:v<B):Ev (fun k=>dU.f k v) (enc D v):=by
  have:=af7 3 v [] h0 h1 (Int.lt_trans h1 ayD) (by simp);rw[List.nil_append]at this;exact this
theorem Tm {X q c b t:Int}(hb:0<b)(ht:t=X % b*q+c):(X*q+c) % b=t % b∧(X*q+c) / b=X / b*q+t / b:=by
  have h1:=Int.mul_ediv_add_emod X b
  have e:X*q+c=t+b*(X / b*q):=by
    rw[ht]
    have:X*q=(b*(X / b)+X % b)*q:=by rw[h1]
    rw[this,Int.add_mul,Int.mul_assoc];omega
  rw[e,Int.add_mul_emod_self_left,Int.add_mul_ediv_left _ _ (by omega)];exact⟨rfl,by omega⟩
theorem RF {A q:Int}(hA:0≤A)(hq:0≤q)(hqD:q≤D):∀ (d i:Nat) (c:Int) (out:List Int),A / pw D i*q+c<pw D d→0≤c→c<D→out.length=i→i+d≤1099511627776 →
    Ev (fun k=>aJ.l0 k (enc D A) q out c (i:Int)) (out++enc D (A / pw D i*q+c)):=by
  intro d
  induction d with
  | zero =>
    intro i c out hv h0 h1 ho hL;have hx:=gY nS hA i;have hxq:=Int.mul_nonneg hx hq;rw[iU]at hv;have hxl:=qE D1 hA i
    have e:A / pw D i*q+c=0:=by omega
    have hc:c=0:=by omega
    have hz:A / pw D i*q=0:=by omega
    rw[e,eQ,List.append_nil];refine Ev.step (f:=fun _=>some out) (fun k=>?_) (Ev.now _);simp only[aJ.l0];rcases Int.mul_eq_zero.1 hz with h|h
    · rw[if_neg (by omega),if_neg (by omega)]
    · rw[h]
      split
      · rw[if_neg (by omega),if_neg (by omega)]
      · rw[if_neg (by omega)]
  | succ d ih =>
    intro i c out hv h0 h1 ho hL;have hx:=gY nS hA i;have hxq:=Int.mul_nonneg hx hq;have hxl:=qE D1 hA i
    by_cases hp:0<A / pw D i*q+c
    · have hxd:=Int.emod_nonneg (A / pw D i) (show D≠0 by have:=D1;omega)
      have alH:=Int.emod_lt_of_pos (A / pw D i) nS
      obtain⟨t,ht⟩:∃ t,t=A / pw D i % D*q+c:=⟨_,rfl⟩
      obtain⟨e1,e2⟩:=Tm nS ht;have hm0:0≤A / pw D i % D*q:=Int.mul_nonneg hxd hq;have hm1:A / pw D i % D*q≤(D-1)*D:=Int.mul_le_mul (by omega) hqD hq (by have:=D1;omega)
      have hm2:A / pw D i % D*q≤281474959933440:=by rw[vY]at hm1 ⊢;exact hm1
      have ht0:0≤t:=by omega
      have ht1 : t < D * D := by have : (D - 1) * D = D * D - D := by rw [Int.sub_mul, Int.one_mul]
                                 omega
      have ht2:t≤281474976710655:=by rw[vY]at h1;omega
      have hc0:0≤t / D:=Int.ediv_nonneg ht0 (Int.le_of_lt nS);have hc1:t / D<D:=Int.ediv_lt_of_lt_mul nS ht1
      have hw1:ae (wrap64 ((i:Int)+1)=((i+1:Nat):Int)):=⟨by rw[w64 (by omega) (by omega)];omega⟩
      have key:=ih (i+1) (t / D) (out ++ [t % D]) (by rw[lh nS, ← e2];exact Ce D1 hv) hc0 hc1 (by simp[ho]) (by omega);rw[lh nS, ← e2, ← e1,GZ D1 hp]at key
      have hw:ae (wrap64 (wrap64 (A / pw D i % D*q)+c)=t):=⟨by
        rw[w64 (x:=A / pw D i % D*q) (by omega) (by omega), ← ht,w64 (by omega) (by omega)]⟩
      have hcd:ae (wrap64 (t / D)=t / D):=⟨by rw[vY]at hc1 hc0 ⊢;exact w64 (by omega) (by omega)⟩
      have hol:out.length<17592186044416:=by omega
      rw[e1]at key;refine Ev.step (f:=fun k=>aJ.l0 k (enc D A) q (out ++ [t % D]) (t / D) ((i+1:Nat):Int)) (fun k=>?_) key;simp only[aJ.l0];rw[qi,jA D1 hA];simp only[Option.bind_some];rw[hw.out,RU ht0,XG ht0,hw1.out,hcd.out,if_pos hol]
      by_cases ha:i<(enc D A).length
      · rw[if_pos (by omega)]
        by_cases hq0:0<q
        · rw[if_pos (by omega)]
        · rw[if_neg (by omega),if_pos]
          have:q=0:=by omega
          rw[this,Int.mul_zero]at hp
          omega
      · rw[if_neg (by omega),if_pos]
        have:A / pw D i=0:=by omega
        rw[this,Int.zero_mul]at hp
        omega
    · have e:A / pw D i*q+c=0:=by omega
      have hc:c=0:=by omega
      have hz:A / pw D i*q=0:=by omega
      rw[e,eQ,List.append_nil];refine Ev.step (f:=fun _=>some out) (fun k=>?_) (Ev.now _);simp only[aJ.l0];rcases Int.mul_eq_zero.1 hz with h|h
      · rw[if_neg (by omega),if_neg (by omega)]
      · rw[h]
        split
        · rw[if_neg (by omega),if_neg (by omega)]
        · rw[if_neg (by omega)]
theorem vX {A q:Int}(hA:0≤A)(hq:0≤q)(hqD:q≤D){m:Nat}(hm:A*q<pw D m)(hL:m≤1099511627776):Ev (fun k=>aJ.f k (enc D A) q) (enc D (A*q)):=by
  have:=RF hA hq hqD m 0 0 [] (by rw[fH];omega) (by omega) nS rfl (by omega);rw[fH,Int.add_zero,List.nil_append]at this;exact this
end Go.Proofs.Yy.PTx
end
section
set_option maxHeartbeats 8000000
set_option maxRecDepth 100000
namespace Go.Proofs.Yy.PTx
open Go.RowKit Go.Proofs.Yy.Z Go.Proofs.Yw.PrintWords Go.Proofs.Yw.PrintLast Go.Proofs.Yw.PrintMore
open Go.Proofs.Yy.M
attribute [local go_sem] dG dP kR kT kW kS
attribute [local go_sem] gI gG iP iR fF fG gW gV
def aQ.l0:Nat→List Int→Int→List Int→Int→Option (List Int)
  | 0,_,_,_,_=>none
  | k+1,x5,x6,x7,x8=>if x8<(x5.length:Int) then (if 0≤x8 then (if x6=0 then (none) else ((aZ.f x5 (wrap64 (x8+1))).bind fun aiS=>(if x8<(x7.length:Int) then (aQ.l0 k x5 x6 (x7.set (x8:Int).toNat (wrap64 ((wrap64 (Int.tdiv (rd x5 x8) x6))+(wrap64 ((Int.tmod aiS x6)*(wrap64 (Int.tdiv (16777216:Int) x6))))))) (wrap64 (x8+1))) else (none)))) else (none)) else ((aW.f k x7).bind fun avZ=>(some avZ))
def aQ.f (k:Nat)(l0:List Int)(a1:Int):Option (List Int):=if (wrap64 (Int.tdiv a1 24))≥(l0.length:Int) then (some ([]:List Int)) else (if 0≤(wrap64 (Int.tdiv a1 24)) then (if (wrap64 (Int.tdiv a1 24))≤(l0.length:Int) then ((some (l0.drop ((wrap64 (Int.tdiv a1 24)):Int).toNat:List Int)).bind fun Gl=>((bP.f k (Int.tmod a1 24)).bind fun YN=>(if 0≤(Gl.length:Int) then (if ((Gl.length:Int):Int).toNat≤35184372088832 then (aQ.l0 k Gl YN (List.replicate ((Gl.length:Int):Int).toNat 0) 0) else (none)) else (none)))) else (none)) else (none))
def aQ.T9:Bool × List (List Nat × List Nat):=(true,[([],[]),([],[]),([],[]),([],[]),([2,3],[2,3]),([4],[4]),([],[]),([5,6],[5,6]),([],[]),([],[]),([9],[9]),([8,10],[8,10]),([],[]),([11,12],[11,12]),([],[]),([14],[14]),([13,15],[13,15]),([7,16],[7,16]),([0,1,0,1,2,3,4,5,6,7,8,9,10,11,12,13,14,15,16,17],[0,1]),([18,17,11,0,1,2,3,4,5,6,7,8,9,10,11,12,13,14,15,16,17],[17,18])])
def aQ.B9:List Nat := [0,0,0,0,12,28,0,124,0,0,512,1792,0,7936,0,16384,65280,131068,262143,524287]
theorem aQ.agM:rG .any (opsOf Tryz.f109 9)=aQ.T9:=by kernel_rfl
theorem aQ.Rt:jb aQ.T9.2 aQ.B9=true:=by kernel_rfl
theorem aQ.calls (k:Nat)(A0:Option Addr)(c0:Nat)(l0:List Int)(a1:Int)(r:List Int)(w:World)(hr0:Kd.C (Kd.int .i64) w A0 l0.length l0)(hc0:l0.length≤c0)(h:aQ.f k l0 a1=some r) :
    Calls Tryz.prog 109 #[.slice A0 l0.length c0,.int .i64 a1] w fun e w' => ∃ v0_:Value,e=.returned (v0_)∧Kd.R (Kd.int .i64) 3 w' w.heap.size (fun _=>True) v0_ r∧Below w.heap.size w w':=by
 have HR0:=am hr0;have HC0:=am hc0;clear hr0 hc0;have HB:=am (Below.refl w.heap.size w);have H:=am h;unfold aQ.f at H;clear h;replace H:=yH H;rcases H with⟨pI,H⟩|⟨pI,H⟩;obtain rfl:=Option.some.inj H.out;rotate_left;generalize xA:(wrap64 (Int.tdiv a1 24):Int)=ji4 at H
 (try rw[xA]at pI)
 have UK:(IntKind.i64.wrap (Int.tdiv a1 24))=ji4:=(cu _).trans xA;replace H:=zit H;obtain⟨qg,xy,H⟩:=H;replace H:=zit H;obtain⟨qm,zg,H⟩:=H;obtain⟨Gl,aiT,H⟩:=zw H;replace H:=zo H;obtain⟨YN,A7,H⟩:=H;replace H:=zit H;obtain⟨sO,Ap,H⟩:=H;replace H:=zit H;obtain⟨wu,Ez,H⟩:=H;generalize aiU:(List.replicate ((Gl.length:Int):Int).toNat 0:List Int)=aAX at H;have aiV:=zY aiU;clear aiU;have q10:((ji4):Int)≤((l0.length:Int):Int):=zD;obtain⟨azH,UL,_,Yx,_⟩:=info_parts info3;have MH:l0.length≤c0:=HC0.out;have av1:Kd.C (Kd.int .i64) _ A0 l0.length l0:=HR0.out;have aAY:(0:Int)≤((ji4):Int):=zD;have UM:=NK (P:=Tryz.prog) 70 3 .i64 Tryz.underlying70 UL 1 Yx A0 l0.length c0 (ji4) aAY q10;have WH:=Kd.Ud (m:=((ji4):Int).toNat) (c:=c0) av1 (by omega) MH
 obtain⟨A10,hA10⟩:∃ A1,A1=(if c0=((ji4):Int).toNat then A0 else (A0:Option Addr).map (·.add (((ji4):Int).toNat*1))):=⟨_,rfl⟩
 obtain⟨c10,apB⟩:∃ c1,c1=c0-((ji4):Int).toNat:=⟨_,rfl⟩
 have ac9:Gl.length=l0.length-((ji4):Int).toNat:=(by rw[aiT.out,List.length_drop] <;> omega)
 rw[show (l0).drop ((ji4):Int).toNat=Gl from aiT.out.symm]at WH
 replace WH:Kd.C (Kd.int .i64) _ A10 Gl.length Gl:=(by rw[hA10];exact WH)
 rw[← ac9, ← hA10, ← apB]at UM;have aiW:=am WH;have apC:=am (show Gl.length≤c10 from by rw[ac9,apB];exact Nat.sub_le_sub_right MH _);clear WH av1 MH UL Yx apB;have aIr:=am ac9;have aIs:=am hA10;clear ac9 hA10;replace q10:=eq_true q10;rotate_left
 all_goals (go_enter Tryz.func109,Tryz.ntmps109;go_wp2_with (first|((with_reducible refine af (f:=142) rfl ?_);refine zc (some 20) Tryz.func142 _ (bP.calls _ _ _ _ A7.out) ?_;rintro e w' ⟨rfl,⟨nd,rfl⟩⟩;refine⟨_,rfl,?_⟩)|((with_reducible refine aI (N:=23) rfl ?_);refine Kd.vH (Kd.int .i64) _ 3 rfl (N:=23) rfl 70 _ _ rfl (Gl.length:Int) (by first|rfl|(simp only[List.length_drop,List.length_take];rfl)) (by first|rfl|(simp only[List.length_drop,List.length_take];rfl)) Tryz.underlying70 (.int .i64 0) 8 info3 rfl (by decide) (by omega) 0 (ok:=fun _=>True) (okp:=fun _=>True) rfl (fun _ hk=>hk) trivial (zD) (Nat.le_trans (Nat.mul_le_mul_right _ (zD:(Gl.length:Int).toNat≤35184372088832)) (by omega)) (Below.refl _ _) (Nat.le_refl _) ?_;intro av2 w11 aiX hb hg_ ku;clear hg_ ku;(first|rw[← aiV.out]at aiX|(simp only[Int.reduceToNat]at aiX;rw[← aiV.out]at aiX));have apD:=am (Kd.eu aiX (zS HB));replace HB:=zBs HB hb;clear hb aiX)))
 ·go_ret
  exact⟨_,z2,by first|exact Kd.GN _ _ _ _ _|exact Kd.XO _ _ _ _ _|exact Kd.JB _ _ _ _ _|exact Kd.Xg _ _ _ _ _|exact Kd.XE _ _ _ _ _,zB HB⟩
 go_loopg [8] k (fun kq v8 w' => ∃ (lu:List Int) (lC:Int),v8=.int .i64 lC∧ae (aQ.l0 kq Gl YN lu lC=some r)∧ae (kq≤k)∧ae (Kd.R (Kd.int .i64) 3 w' w.heap.size (fun _=>True) av2 lu)∧ae (Below w.heap.size w w'))
 case atStart=>exact⟨(aAX),(0),z1,H,zL,⟨zR apD⟩,⟨zB HB⟩⟩
 clear H;obtain⟨lu,lC,rfl,H,HK1,jH,HB⟩:=hrel;obtain _|k1:=gk
 ·exact zz H rfl
 simp only[aQ.l0]at H;replace H:=zsd H;rcases H with⟨qo,H⟩|⟨qo,H⟩
 ·replace H:=zid H
  obtain⟨ww,H⟩:=H;replace H:=zjk H;obtain⟨uS,DI,c15,H⟩:=H;replace H:=zo H;obtain⟨aiS,A16,H⟩:=H;replace H:=zid H;obtain⟨wE,H⟩:=H;generalize aiY:(lu.set (lC:Int).toNat (wrap64 ((wrap64 (Int.tdiv (rd Gl lC) YN))+(wrap64 ((Int.tmod aiS YN)*(wrap64 (Int.tdiv (16777216:Int) YN)))))):List Int)=aAZ at H;have apE:=zY aiY;clear aiY
  try go_wp2
  replace jH:=am (Kd.dJ jH.out);replace HB:=am (aX HB.out);have apF:0≤(lC:Int):=zD;have apG:lC<(Gl.length:Int):=zD;obtain⟨aiZ,aA0,DU⟩:=Kd.dQ aiW.out lC apF apG;have Io:=DU
  cases aA0
  replace DU:=(HB.out.cell (World.block_lt_of_cell? w _ DU)).trans DU;replace apF:=eq_true apF;replace apG:=eq_true apG;refine lQ (n:=20) (S:=fun w'=>w'.cell? (aiZ.add (lC).toNat)=some (.int .i64 (rd Gl lC))) (ds := [19]) (Array.replicate 20 false) (by kernel_rfl) rfl rfl (((HB.out.cell (World.block_lt_of_cell? w _ Io)).trans Io)) (fun hHeld=>?_);refine gU aQ.agM aQ.Rt (fun HT_ HW_=>?_);generalize wr.drew=w19 at jH HB DU hHeld ⊢;refine zp HT_ 0 (some 30) ?_;refine zp HT_ 1 (some 31) ?_;refine zp HT_ 2 (some 32) ?_;refine zp HT_ 3 (some 33) ?_;refine zp HT_ 4 (some 34) ?_;refine zp HT_ 6 (some 36) ?_;refine zp HT_ 8 (some 38) ?_;refine zp HT_ 9 (some 39) ?_;refine zp HT_ 10 (some 40) ?_;refine zp HT_ 12 (some 42) ?_;refine zp HT_ 14 (some 44) ?_;refine zp HT_ 15 (some 45) ?_;refine zt HT_ HW_ 5 (some 35) hHeld ?_;refine zp HT_ 7 (some 37) ?_;refine zu HT_ 11 (some 41) (fun K hK=>?_);refine o5 Tryz.func138 (by kernel_rfl) rfl #[.slice (some aiZ) Gl.length c10,.int .i64 (wrap64 (lC+1))] (by rfl) rfl rfl (by (try simp only[List.map_toArray,List.map_cons,List.map_nil]);first|done|rfl|(simp only[List.length_drop,List.length_take];rfl)) ?_
  with_reducible refine (aZ.calls _ _ Gl (wrap64 (lC+1)) aiS _ ?fE ?kN A16.out).mono ?_
  (case fE=>repeat (first|exact (Kd.jZ aiW.out HB.out)|(with_reducible refine Kd.lm ?_ _)|(with_reducible refine Kd.lg ?_ _)|(with_reducible refine Kd.nZ ?_)))
  (case kN=>exact apC.out)
  rintro e w' ⟨rfl,⟨nd,rfl⟩⟩;refine⟨_,rfl,?_⟩
  (try (rw[fZ w19];generalize hq_:World.drewN w19 _=w19;have n0_:ae (Kd.R (Kd.int .i64) 3 w19 w.heap.size (fun _=>True) av2 lu):=⟨by rw[← hq_];exact (zR jH)⟩;have n1_:ae (Below w.heap.size w w19):=⟨by rw[← hq_];exact (zB HB)⟩;clear jH HB hq_;have jH:=n0_;have HB:=n1_;clear n0_ n1_))
  have p18:0≤(lC:Int):=zD;have q18:(lC:Int)<((lu.length:Int):Int):=zD;obtain⟨alz,rZ,LW,ah5,aoE,aAc,ah6⟩:=Kd.oH jH.out (by omega)
  (first|cases LW|(injection LW with ea_ en_ ec_;(first|subst ea_|(injection ea_ with ea_;subst ea_));subst ec_;clear en_))
  have avo:=am ah5;have aAd:=am ah6;clear ah5 aoE ah6;obtain⟨ah7,ah8⟩:=Kd.iQ 0 jH.out (lC:Int) p18 q18;replace p18:=eq_true p18;replace q18:=eq_true q18;have adk:=Kd.N7 jH.out (lC:Int) (wrap64 ((wrap64 (Int.tdiv (rd Gl lC) YN))+(wrap64 ((Int.tmod aiS YN)*(wrap64 (Int.tdiv (16777216:Int) YN))))));rw[← apE.out]at adk;have aA1:=am adk;clear adk;refine hK.out _ _ (((HB.out.cell (World.block_lt_of_cell? w _ Io)).trans Io)) (fun hHeld=>?_);clear hK K;refine lI (a':=?_) ?_ ?_;rotate_left
  ·show Act.put _ (some 41) _=_
   simp only[Act.put,List.setIfInBounds_toArray,List.set_cons_zero,List.set_cons_succ,cu,fQ]
   rfl
  refine zp HT_ 13 (some 43) ?_;refine zp HT_ 16 (some 46) ?_;refine zp HT_ 17 (some 47) ?_;refine zp HT_ 18 (some 48) ?_;refine LC (i:=19) (N:=none) #[true,true,true,true,true,true,true,true,true,true,true,true,true,true,true,true,true,true,true,true] rfl rfl (AP HT_.out (by kernel_rfl)) (by decide) (fun K hK=>?_);refine vW (w1:=?_) (by rfl) rfl ?_ ?_;rotate_left
  ·go_simp
   rfl
  refine hK.out _ _ ?_;clear hK K;refine oU (iZ HT_.out (by kernel_rfl)) ?_
  try go_wp2
  go_roundg k1
  case measure=>have:=HK1.out;omega
  case rel=>exact⟨(aAZ),(wrap64 (lC+1)),z1,H,(zH HK1),⟨zR aA1⟩,⟨zB HB⟩⟩
 replace H:=zo H;obtain⟨avZ,A21,H⟩:=H;obtain rfl:=Option.some.inj H.out;obtain⟨UZ,IR,YJ⟩:=Kd.dZ jH.out;subst YJ
 go_wp2_with (first|((with_reducible refine af (f:=141) rfl ?_);refine zc (some 50) Tryz.func141 #[.slice UZ lu.length IR] (aW.calls _ (fun k_=>some k_=(.slice UZ lu.length IR:Value).ownBlock) (.slice UZ lu.length IR) _ _ w _ ?fE (Kd.jX rfl jH.out) A21.out) ?_;(case fE=>repeat (first|(with_reducible first|exact HB.out|apply bD|apply aK|apply aX)|exact HB.out));rintro e w23 ⟨aIt,rfl,ho0,hb,hkp⟩;refine⟨_,rfl,?_⟩;have apH:=am (Kd.dw (ok':=fun k_=>True) ho0 (fun k_ hk_=>trivial));replace HB:=am (hb);clear jH hb hkp ho0))
 go_ret
 exact⟨_,by first|exact z3|(simp only[← xA];exact z3)|exact z2,zR apH,zB HB⟩
def jk.f (a0:Int):Option (Int):=if a0<(-1099511627776) then (some (-1099511627776)) else (if a0 > 1099511627776 then (some 1099511627776) else (some a0))
theorem jk.calls (a0:Int)(r:Int)(w:World)(h:jk.f a0=some r) :
    Calls Tryz.prog 161 #[.int .i64 a0] w fun e w'=>e=.returned (.int .i64 r)∧dR w w':=by
 have H:=am h;unfold jk.f at H;clear h;replace H:=zsd H;rcases H with⟨ry,H⟩|⟨ry,H⟩;obtain rfl:=Option.some.inj H.out;rotate_left;replace H:=AV H;rcases H with⟨pI,H⟩|⟨pI,H⟩;obtain rfl:=Option.some.inj H.out;rotate_left;obtain rfl:=Option.some.inj H.out;rotate_left
 all_goals (go_enter Tryz.func161,Tryz.ntmps161;go_wp2)
 ·go_ret
  exact⟨z1,z4⟩
 ·go_ret
  exact⟨z1,z4⟩
 go_ret
 exact⟨z1,z4⟩
def bC.l0:Nat→List Int→Int→Int→Option (Int)
  | 0,_,_,_=>none
  | k+1,x0,x3,x4=>if x4≥0 then ((aZ.f x0 x4).bind fun apI=>(bC.l0 k x0 (IntKind.u64.wrap ((IntKind.u64.wrap (x3*16777216))+(IntKind.u64.wrap (apI)))) (wrap64 (x4-1)))) else (some x3)
def bC.f (k:Nat)(l0:List Int):Option (Int):=bC.l0 k l0 0 2
theorem bC.calls (k:Nat)(A0:Option Addr)(c0:Nat)(l0:List Int)(r:Int)(w:World)(hr0:Kd.C (Kd.int .i64) w A0 l0.length l0)(hc0:l0.length≤c0)(h:bC.f k l0=some r) :
    Calls Tryz.prog 162 #[.slice A0 l0.length c0] w fun e w'=>e=.returned (.int .u64 r)∧dR w w':=by
 have HR0:=am hr0;have HC0:=am hc0;clear hr0 hc0;have H:=am h;unfold bC.f at H;clear h
 go_enter Tryz.func162,Tryz.ntmps162
 go_wp2
 go_loopg [3,4] k (fun kq v3 v4 w' => ∃ (iH:Int) (nO:Int),v3=.int .u64 iH∧v4=.int .i64 nO∧ae (bC.l0 kq l0 iH nO=some r)∧ae (kq≤k)∧dR w w')
 case atStart=>exact⟨(0),(2),z1,z1,H,zL,z4⟩
 clear H;obtain⟨iH,nO,rfl,rfl,H,HK1,⟨m1,rfl⟩⟩:=hrel;obtain _|k1:=gk
 ·exact zz H rfl
 simp only[bC.l0]at H;replace H:=yH H;rcases H with⟨ry,H⟩|⟨ry,H⟩;replace H:=zo H;obtain⟨apI,A3,H⟩:=H;rotate_left;obtain rfl:=Option.some.inj H.out;rotate_left
 all_goals (go_wp2_with (first|((with_reducible refine af (f:=138) rfl ?_);refine zc (some 13) Tryz.func138 #[.slice A0 l0.length c0,.int .i64 nO] (aZ.calls _ _ _ _ _ _ (zC HR0.out) HC0.out A3.out) ?_;rintro e w' ⟨rfl,⟨nd,rfl⟩⟩;refine⟨_,rfl,?_⟩)))
 ·go_roundg k1
  case measure=>have:=HK1.out;omega
  case rel=>exact⟨(IntKind.u64.wrap ((IntKind.u64.wrap (iH*16777216))+(IntKind.u64.wrap (apI)))),(wrap64 (nO-1)),z1,z1,H,(zH HK1),z4⟩
 go_ret
 exact⟨z1,z4⟩
end Go.Proofs.Yy.PTx
end
section
namespace Go.Proofs.Yy.PTx
open Go.RowKit Go.Proofs.Yw.PrintWords Go.Proofs.Yw.PrintLast Go.Proofs.Yw.PrintMore Go.Proofs.Yy.M Go.Proofs.Yy.NM
attribute [local irreducible] fK iD iV jY val
theorem jO (i:Nat):0<pw 2 i:=jQ (by decide) i
theorem BL {i:Nat}(h:i≤24):pw 2 i≤D:=by rw[← Jz];exact EL (by decide) h
theorem aa2 {n:Nat}(hn:n≤24):∀ (d i:Nat),i+d=n→Ev (fun k=>bP.l0 k (n:Int) (pw 2 i) (i:Int)) (pw 2 n):=by
 intro d
 induction d with
 | zero =>
  intro i hi
  obtain rfl:i=n:=by omega
  refine Ev.step (f:=fun _=>some (pw 2 i)) (fun k=>?_) (Ev.now _);simp only[bP.l0];rw[if_neg (by omega)]
 | succ d ih =>
  intro i hi;have h1:=jO i
  have h2:pw 2 i≤16777216:=by rw[← vY];exact BL (by omega)
  refine Ev.step (f:=fun k=>bP.l0 k (n:Int) (pw 2 (i+1)) ((i+1:Nat):Int)) (fun k=>?_) (ih (i+1) (by omega));simp only[bP.l0];rw[if_pos (by omega),w64 (by omega) (by omega),w64 (by omega) (by omega),eU,Int.mul_comm (pw 2 i) 2]
  rfl
theorem Ht {n:Nat}(hn:n≤24):Ev (fun k=>bP.f k (n:Int)) (pw 2 n):=by
 have:=aa2 hn n 0 (by omega);rw[iU]at this;exact this
theorem ZI (k:Nat):Int.tdiv (k:Int) 24=((k / 24:Nat):Int):=by rw[Int.tdiv_eq_ediv_of_nonneg (by omega)];omega
theorem ZH (k:Nat):Int.tmod (k:Int) 24=((k % 24:Nat):Int):=by rw[Int.tmod_eq_emod_of_nonneg (by omega)];omega
theorem Jq (k:Nat):pw 2 k=pw 2 (k % 24)*pw D (k / 24):=by rw[pwD, ← qG];congr 1;omega
theorem Q3 {A:Int}(hA:0≤A)(k:Nat)(hk:k≤1099511627776){m:Nat}(hm:A<pw D m)(hm1:m≤549755813888):Ev (fun n=>gQ.f n (enc D A) (k:Int)) (enc D (A*pw 2 k)):=by
 by_cases h0:0<A
 ·have hl:(enc D A).length≠0:=by have:=(qE D1 hA 0).2 (by rw[fH];exact h0);omega
  have hq:ae (wrap64 (Int.tdiv (k:Int) 24)=((k / 24:Nat):Int)):=⟨by rw[ZI];exact w64 (by omega) (by omega)⟩
  have hb:A*pw 2 (k % 24)<pw D (m+1):=by
   rw[eU];exact Int.lt_of_lt_of_le (Int.mul_lt_mul_of_pos_right hm (jO _)) (Int.mul_le_mul_of_nonneg_left (BL (by omega)) (Int.le_of_lt (jQ nS _)))
  have hlen:=mf D1 hb
  refine Ev.congr (f:=fun n=>(bP.f n ((k % 24:Nat):Int)).bind fun t=>(aJ.f n (enc D A) t).bind fun u=>if (List.replicate (k / 24) (0:Int)).length+u.length<17592186044416 then some (List.replicate (k / 24) 0++u) else none) (fun n=>?_)
   (Ev.bind (Ht (by omega)) (Ev.bind (vX hA (Int.le_of_lt (jO _)) (BL (by omega)) hb (by omega)) ?_))
  ·unfold gQ.f
   rw[if_neg (by omega),hq.out,if_pos (by omega),Int.toNat_natCast,if_pos (by omega),ZH]
   rfl
  ·rw[List.length_replicate,if_pos (by omega),TJ D1 (Int.mul_pos h0 (jO _)),Jq k,Int.mul_assoc]
   exact Ev.now _
 ·obtain rfl:A=0:=by omega
  rw[eQ,Int.zero_mul,eQ];exact Ev.congr (f:=fun _=>some []) (fun n=>by unfold gQ.f;rw[if_pos (by simp)]) (Ev.now _)
theorem GX (a:List Int)(i:Nat):val B (a.drop i)=a.getD i 0+B*val B (a.drop (i+1)):=by
 by_cases h:i<a.length
 ·rw[List.drop_eq_getElem_cons h,jh,List.getD_eq_getElem?_getD,List.getElem?_eq_getElem h];rfl
 ·rw[List.drop_of_length_le (by omega),List.drop_of_length_le (by omega),List.getD_eq_getElem?_getD,List.getElem?_eq_none (by omega),mX];simp
theorem ach {l:List Int}(h:Dig D l)(hL:l.length≤1099511627776):∀ n:Nat,n≤l.length→Ev (fun k=>aW.l0 k l (n:Int)) (enc D (val D (l.take n))):=by
 intro n
 induction n with
 | zero =>
  intro _;refine Ev.step (f:=fun _=>some []) (fun k=>?_) (by rw[List.take_zero,mX,eQ];exact Ev.now _);simp only[aW.l0];rw[if_neg (by omega),if_pos (by omega),if_pos (by omega)];simp
 | succ n ih =>
  intro hn
  have hw:ae (wrap64 (((n+1:Nat):Int)-1)=(n:Int)):=⟨by rw[w64 (by omega) (by omega)];omega⟩
  have hd:=h.take (n+1)
  have ht:l.take (n+1)=l.take n ++ [l.getD n 0]:=by
   rw[List.take_succ_eq_append_getElem (by omega),List.getD_eq_getElem?_getD,List.getElem?_eq_getElem (by omega)];rfl
  rw[ht]at hd;have he:=Hg D1 hd;rw[← ht]at he
  by_cases h0:l.getD n 0=0
  ·rw[if_pos h0]at he
   rw[he];refine Ev.step (f:=fun k=>aW.l0 k l (n:Int)) (fun k=>?_) (ih (by omega));simp only[aW.l0];rw[hw.out,if_pos (by omega),if_pos (by omega),if_pos (by omega),eP,if_pos h0]
  ·rw[if_neg h0]at he
   rw[he];refine Ev.step (f:=fun _=>some (l.take (n+1))) (fun k=>?_) (Ev.now _);simp only[aW.l0];rw[hw.out,if_pos (by omega),if_pos (by omega),if_pos (by omega),eP,if_neg h0,if_pos (by omega),if_pos (by omega)]
   rfl
theorem Dj {l:List Int}(h:Dig D l)(hL:l.length≤1099511627776):Ev (fun k=>aW.f k l) (enc D (val D l)):=by
 have:=ach h hL l.length (Nat.le_refl _);rw[List.take_length]at this;exact this
theorem AX (X p r:Int){b:Int}:((X % b)*p+r) % b=(X*p+r) % b:=by
 have h:=Int.mul_ediv_add_emod X b
 have e:X*p+r=(X % b)*p+r+b*(X / b*p):=by
  have:X*p=(b*(X / b)+X % b)*p:=by rw[h]
  rw[this,Int.add_mul,Int.mul_assoc];omega
 rw[e,Int.add_mul_emod_self_left]
theorem PD {w d p r R:Int}(h:d*p+r=R):(w*16777216+d)*p+r=w*(p*16777216)+R:=by grind
theorem qJ {n b:Int}(hb:0<b)(hn:0≤n)(i:Nat):n / pw b i % b*pw b i+n % pw b i=n % pw b (i+1):=by
 have hp:=jQ hb i;have h1:=Int.mul_ediv_add_emod n (pw b i);have h2:=Int.mul_ediv_add_emod (n / pw b i) b;have h3:=Int.emod_nonneg n (show pw b i≠0 by omega);have h4:=Int.emod_lt_of_pos n hp;have h5:=Int.emod_nonneg (n / pw b i) (show b≠0 by omega);have h6:=Int.emod_lt_of_pos (n / pw b i) hb
 have e:n=n / pw b i % b*pw b i+n % pw b i+pw b (i+1)*(n / pw b i / b):=by
  rw[eU];generalize pw b i=p at *;generalize hq:n / p=q at *;generalize n % p=r at *;generalize hs:q / b=s at *;generalize q % b=t at *;rw[← h1, ← h2]
  grind
 have lo:0≤n / pw b i % b*pw b i+n % pw b i:=by have:=Int.mul_nonneg h5 (Int.le_of_lt hp);omega
 have hi:n / pw b i % b*pw b i+n % pw b i<pw b (i+1):=by
  rw[eU];have h7:(n / pw b i % b+1)*pw b i≤b*pw b i:=Int.mul_le_mul_of_nonneg_right (by omega) (Int.le_of_lt hp);rw[Int.add_mul,Int.one_mul,Int.mul_comm b]at h7
  omega
 have h8:=Int.add_mul_emod_self_left (n / pw b i % b*pw b i+n % pw b i) (pw b (i+1)) (n / pw b i / b);rw[← e,Int.emod_eq_of_lt lo hi]at h8;exact h8.symm
theorem XC {A:Int}(hA:0≤A):∀ (i:Nat) (w:Int),i≤1000→0≤w→w<B→Ev (fun k=>bC.l0 k (enc D A) w ((i:Int)-1)) ((w*pw D i+A % pw D i) % B):=by
 intro i
 induction i with
 | zero =>
  intro w _ h0 h1;rw[iU,Int.mul_one,Int.emod_one,Int.add_zero,Int.emod_eq_of_lt h0 h1];refine Ev.step (f:=fun _=>some w) (fun k=>?_) (Ev.now _);simp only[bC.l0];rw[if_neg (by omega)]
 | succ i ih =>
  intro w hi h0 h1
  have hw:ae (wrap64 ((i:Int)-1)=(i:Int)-1):=⟨w64 (by omega) (by omega)⟩
  have e:((i+1:Nat):Int)-1=(i:Int):=by omega
  have key:=ih ((w*16777216+A / pw D i % D) % B) (by omega) (Int.emod_nonneg _ (by have:=jm;omega)) (Int.emod_lt_of_pos _ jm);rw[AX,PD (qJ nS hA i)]at key;rw[show pw D i*16777216=pw D (i+1) by rw[eU,vY]]at key;refine Ev.step (f:=fun k=>bC.l0 k (enc D A) ((w*16777216+A / pw D i % D) % B) ((i:Int)-1)) (fun k=>?_) key;simp only[bC.l0];rw[e,if_pos (by omega),qi,jA D1 hA];simp only[Option.bind_some];rw[hw.out,IntKind.wrap_u64,IntKind.wrap_u64,IntKind.wrap_u64, ← Int.add_emod,ug]
theorem NP {A:Int}(hA:0≤A):Ev (fun k=>bC.f k (enc D A)) (A % B):=by
 have:=XC hA 3 0 (by omega) (by omega) jm;rw[Int.zero_mul,Int.zero_add,Int.emod_emod_of_dvd A (show B ∣ pw D 3 from ⟨256,by rw[ui,ug,vY];decide⟩)]at this;exact this
theorem Ci {M f g:Int}(hf:0<f)(hg:0<g)(hM:0≤M):M / f % (f*g)=M % (f*g) / f+M / (f*g) % (f*g) % f*g:=by
 have h1:=Int.mul_ediv_add_emod M (f*g);have hb:0<f*g:=Int.mul_pos hf hg;have h2:=Int.emod_nonneg M (show f*g≠0 by omega);have h3:=Int.emod_lt_of_pos M hb;have h4:M / (f*g) % (f*g) % f=M / (f*g) % f:=Int.emod_emod_of_dvd _ ⟨g,rfl⟩;rw[h4];generalize hq:M / (f*g)=q at *;generalize hr:M % (f*g)=r at *
 have e1:M=r+f*(g*q):=by rw[← h1, ← Int.mul_assoc];omega
 have e2:M / f=r / f+g*q:=by rw[e1,Int.add_mul_ediv_left _ _ (by omega)]
 have h5:=Int.mul_ediv_add_emod q f;have h6:=Int.emod_nonneg q (show f≠0 by omega);have h7:=Int.emod_lt_of_pos q hf;have h8:0≤r / f:=Int.ediv_nonneg h2 (by omega);have h9:r / f<g:=Int.ediv_lt_of_lt_mul hf (by rw[Int.mul_comm];exact h3)
 have e3:r / f+g*q=(r / f+q % f*g)+f*g*(q / f):=by
  have:g*q=g*(f*(q / f)+q % f):=by rw[h5]
  rw[this];grind
 rw[e2,e3,Int.add_mul_emod_self_left]
 have lo:0≤r / f+q % f*g:=by have:=Int.mul_nonneg h6 (Int.le_of_lt hg);omega
 have hi:r / f+q % f*g<f*g:=by
  have:(q % f+1)*g≤f*g:=Int.mul_le_mul_of_nonneg_right (by omega) (by omega);rw[Int.add_mul,Int.one_mul]at this
  omega
 exact Int.emod_eq_of_lt lo hi
theorem vK {n a b:Int}(ha:0≤a)(hb:0≤b):n / a / b=n / b / a:=by
 rw[Int.ediv_ediv_of_nonneg ha,Int.ediv_ediv_of_nonneg hb,Int.mul_comm]
theorem aaT {M:Int}(hM:0≤M){s:Nat}(hs:s≤23)(hL:(enc D M).length≤549755813888):∀ (d i:Nat) (x:List Int),i+d=(enc D M).length→x.length=(enc D M).length→Dig D x→val D (x.take i)=M / pw 2 s % pw D i →
  Ev (fun k=>aQ.l0 k (enc D M) (pw 2 s) x (i:Int)) (enc D (M / pw 2 s)):=by
 have hf:=jO s
 have hfD:pw 2 s*pw 2 (24-s)=D:=by rw[← qG, ← Jz];congr 1;omega
 have hg:=jO (24-s);intro d
 induction d with
 | zero =>
  intro i x hi hx hd hv
  obtain rfl:i=x.length:=by omega
  rw[List.take_length]at hv
  have hlt:M / pw 2 s<pw D x.length:=by
   rw[hx];refine Int.lt_of_le_of_lt (Int.ediv_le_self _ hM) ?_;have:=kM nS (fO D1 M);rw[fB D1 hM]at this;exact this
  rw[Int.emod_eq_of_lt (Int.ediv_nonneg hM (Int.le_of_lt hf)) hlt]at hv;refine Ev.step (f:=fun k=>(aW.f k x).bind fun t=>some t) (fun k=>?_) (Ev.bind (by rw[← hv];exact Dj hd (by omega)) (Ev.now _));simp only[aQ.l0];rw[if_neg (by omega)]
 | succ d ih =>
  intro i x hi hx hd hv
  have hw1:ae (wrap64 ((i:Int)+1)=((i+1:Nat):Int)):=⟨by rw[w64 (by omega) (by omega)];omega⟩
  have hlt:i<x.length:=by omega
  have hi1:i+1+d=(enc D M).length:=by omega
  have hMi:=gY nS hM i;have hsd:=Ci hf hg hMi;rw[hfD, ← lh nS]at hsd;have hcc:M / pw D i / pw 2 s=M / pw 2 s / pw D i:=vK (Int.le_of_lt (jQ nS i)) (Int.le_of_lt hf);rw[hcc]at hsd;have hMs:=Int.ediv_nonneg hM (Int.le_of_lt hf);have ai0:=Int.emod_nonneg (M / pw 2 s / pw D i) (show D≠0 by have:=D1;omega);have U8:=Int.emod_lt_of_pos (M / pw 2 s / pw D i) nS
  have key:=ih (i+1) (x.set i (M / pw 2 s / pw D i % D)) hi1 (by simpa using hx) (hd.set ai0 U8) (by
   rw[qZ D x i _ hlt,hv, ← qJ nS hMs i,Int.mul_comm (pw D i)];omega)
  have a0:=Int.emod_nonneg (M / pw D i) (show D≠0 by have:=D1;omega);have a1:=Int.emod_lt_of_pos (M / pw D i) nS;have b0:=Int.emod_nonneg (M / pw D (i+1)) (show D≠0 by have:=D1;omega);have b1:=Int.emod_lt_of_pos (M / pw D (i+1)) nS;have c0:=Int.emod_nonneg (M / pw D (i+1) % D) (show pw 2 s≠0 by omega);have c1:=Int.emod_lt_of_pos (M / pw D (i+1) % D) hf;have q0:0≤M / pw D i % D / pw 2 s:=Int.ediv_nonneg a0 (Int.le_of_lt hf);have q1:M / pw D i % D / pw 2 s≤M / pw D i % D:=Int.ediv_le_self _ a0
  have hgd:(16777216:Int) / pw 2 s=pw 2 (24-s):=by rw[← vY, ← hfD,Int.mul_ediv_cancel_left _ (by omega)]
  have p0:0≤M / pw D (i+1) % D % pw 2 s*pw 2 (24-s):=Int.mul_nonneg c0 (Int.le_of_lt hg)
  have hA1:ae (wrap64 (Int.tdiv (16777216:Int) (pw 2 s))=pw 2 (24-s)):=⟨by
   rw[Int.tdiv_eq_ediv_of_nonneg (by omega),hgd];have:=BL (i:=24-s) (by omega);rw[vY]at this
   exact w64 (by omega) (by omega)⟩
  rw[hsd]at key U8
  have hA2:ae (wrap64 (wrap64 (Int.tdiv (M / pw D i % D) (pw 2 s))+wrap64 (Int.tmod (M / pw D (i+1) % D) (pw 2 s)*pw 2 (24-s)))=M / pw D i % D / pw 2 s+M / pw D (i+1) % D % pw 2 s*pw 2 (24-s)):=⟨by
   rw[Int.tdiv_eq_ediv_of_nonneg a0,Int.tmod_eq_emod_of_nonneg b0];rw[vY]at a1 U8 q1 q0 p0 ⊢
   rw[w64 (x:=M / pw 16777216 i % 16777216 / pw 2 s) (by omega) (by omega),w64 (x:=M / pw 16777216 (i+1) % 16777216 % pw 2 s*pw 2 (24-s)) (by omega) (by omega),w64 (by omega) (by omega)]⟩
  refine Ev.step (f:=fun k=>aQ.l0 k (enc D M) (pw 2 s) (x.set i (M / pw D i % D / pw 2 s+M / pw D (i+1) % D % pw 2 s*pw 2 (24-s))) ((i+1:Nat):Int)) (fun k=>?_) key;simp only[aQ.l0];rw[hw1.out,qi,eP,jA D1 hM,jA D1 hM];simp only[Option.bind_some];rw[hA1.out,hA2.out,if_pos (by omega),if_pos (by omega),if_neg (by omega),if_pos (by omega)]
  rfl
theorem QU {A:Int}(hA:0≤A)(k:Nat)(hk:k≤9223372036854775807)(hL:(enc D A).length≤549755813888):Ev (fun n=>aQ.f n (enc D A) (k:Int)) (enc D (A / pw 2 k)):=by
 have hq:ae (wrap64 (Int.tdiv (k:Int) 24)=((k / 24:Nat):Int)):=⟨by rw[ZI];exact w64 (by omega) (by omega)⟩
 by_cases h:(enc D A).length≤k / 24
 ·have hlt:A<pw 2 k:=by
   have h1:=kM nS (fO D1 A);rw[fB D1 hA]at h1;refine Int.lt_of_lt_of_le h1 ?_;rw[pwD];exact EL (by decide) (by omega)
  rw[Int.ediv_eq_zero_of_lt hA hlt,eQ];exact Ev.congr (f:=fun _=>some []) (fun n=>by unfold aQ.f;rw[hq.out,if_pos (by omega)]) (Ev.now _)
 ·have hdr:=BQ D1 hA (k / 24)
  have hM:=gY nS hA (k / 24)
  have hlen:(enc D (A / pw D (k / 24))).length≤(enc D A).length:=by rw[← hdr,List.length_drop];omega
  have e:A / pw D (k / 24) / pw 2 (k % 24)=A / pw 2 k:=by
   rw[Int.ediv_ediv_of_nonneg (Int.le_of_lt (jQ nS _)),Jq k,Int.mul_comm]
  refine Ev.congr (f:=fun n=>(bP.f n ((k % 24:Nat):Int)).bind fun t=>aQ.l0 n (enc D (A / pw D (k / 24))) t (List.replicate (enc D (A / pw D (k / 24))).length 0) ((0:Nat):Int)) (fun n=>?_)
   (Ev.bind (Ht (by omega)) (by rw[← e];exact aaT hM (s:=k % 24) (by omega) (by omega) (enc D (A / pw D (k / 24))).length 0 _ (by omega) (by simp) (Dig.zeros nS _) (by rw[List.take_zero,mX,iU,Int.emod_one])))
  unfold aQ.f;rw[hq.out,if_neg (by omega),if_pos (by omega),if_pos (by omega),ZH,Int.toNat_natCast,hdr];simp only[Option.bind_some]
  congr 1
  funext t
  rw[if_pos (by omega),Int.toNat_natCast,if_pos (by omega)]
  rfl
theorem SV {v w x y:Int}(hv:0≤v∧v<D)(hw:0≤w∧w<D)(hx:0≤x∧x<D)(hy:0≤y∧y<D) :
  ae (wrap64 (wrap64 (x+wrap64 (v*w))+y)=x+v*w+y)∧ae (wrap64 ((x+v*w+y) / D)=(x+v*w+y) / D)∧0≤x+v*w+y∧(x+v*w+y) / D<D:=by
 have hm0:0≤v*w:=Int.mul_nonneg hv.1 hw.1;have hm1:v*w≤(D-1)*(D-1):=Int.mul_le_mul (by omega) (by omega) hw.1 (by have:=D1;omega)
 have hm2:v*w≤281474943156225:=by rw[vY]at hm1;exact hm1
 have ht1:x+v*w+y<D*D:=by rw[vY]at *;omega
 have hx1:=hx.2;have hy1:=hy.2;have hc0:0≤(x+v*w+y) / D:=Int.ediv_nonneg (by omega) (Int.le_of_lt nS);have hc1:(x+v*w+y) / D<D:=Int.ediv_lt_of_lt_mul nS ht1;refine⟨⟨?_⟩,⟨?_⟩,by omega,hc1⟩
 ·rw[vY]at hx1 hy1
  rw[w64 (x:=v*w) (by omega) (by omega),w64 (x:=x+v*w) (by omega) (by omega),w64 (by omega) (by omega)]
 ·rw[vY]at hc0 hc1 ⊢
  exact w64 (by omega) (by omega)
theorem QO {pi pk b v q r x y w V A W:Int}(hs:b*q+r=x+v*w+y)(hv:V+pi*pk*y=A+pi*v*W):V+pi*pk*(r-x)+pi*pk*b*q=A+pi*v*(W+pk*w):=by grind
theorem abq {a b:List Int}(ha:Dig D a)(hb:Dig D b)(hL:a.length+b.length≤1099511627776)(i:Nat)(hi:i<a.length)(A:Int)(r:List Int)
  (next:∀ x,x.length=a.length+b.length→Dig D x→(∀ j,i+1+b.length≤j→x.getD j 0=0)→val D x=A+pw D i*a.getD i 0*val D b→Ev (fun k=>aC.l0 k a b x ((i+1:Nat):Int)) r) :
  ∀ (d k:Nat) (x:List Int) (y:Int),k+d=b.length→x.length=a.length+b.length→Dig D x→0≤y→y<D→(∀ j,i+b.length≤j→x.getD j 0=0) →
   val D x+pw D i*pw D k*y=A+pw D i*a.getD i 0*val D (b.take k) →
   Ev (fun n=>aC.l1 n a b x (i:Int) y (k:Int)) r:=by
 intro d
 induction d with
 | zero =>
  intro k x y hk hx hd h0 h1 hz hval
  obtain rfl:k=b.length:=by omega
  rw[List.take_length, ← qG]at hval
  have hw:ae (wrap64 ((i:Int)+(b.length:Int))=((i+b.length:Nat):Int)):=⟨by rw[w64 (by omega) (by omega)];omega⟩
  have hw1:ae (wrap64 ((i:Int)+1)=((i+1:Nat):Int)):=⟨by rw[w64 (by omega) (by omega)];omega⟩
  have hlt:i+b.length<x.length:=by omega
  refine Ev.step (f:=fun n=>aC.l0 n a b (x.set (i+b.length) y) ((i+1:Nat):Int)) (fun n=>?_) (next _ (by simpa using hx) (hd.set h0 h1) (fun j hj=>by rw[qB _ _ _ _ (by omega)];exact hz j (by omega)) ?_)
  ·simp only[aC.l1]
   rw[hw.out,hw1.out,if_neg (by omega),if_pos (by omega),if_pos (by omega)]
   rfl
  ·rw[o8 D x _ y hlt,hz _ (by omega),Int.sub_zero]
   exact hval
 | succ d ih =>
  intro k x y hk hx hd h0 h1 hz hval
  have hw:ae (wrap64 ((i:Int)+(k:Int))=((i+k:Nat):Int)):=⟨by rw[w64 (by omega) (by omega)];omega⟩
  have hw1:ae (wrap64 ((k:Int)+1)=((k+1:Nat):Int)):=⟨by rw[w64 (by omega) (by omega)];omega⟩
  have hlt:i+k<x.length:=by omega
  have hk1:k+1+d=b.length:=by omega
  obtain⟨e1,e2,p0,p1⟩:=SV (ha.get nS i) (hb.get nS k) (hd.get nS (i+k)) ⟨h0,h1⟩
  obtain⟨t,ht⟩:∃ t,t=x.getD (i+k) 0+a.getD i 0*b.getD k 0+y:=⟨_,rfl⟩
  rw[← ht]at e1 e2 p0 p1
  refine Ev.step (f:=fun n=>aC.l1 n a b (x.set (i+k) (t % D)) (i:Int) (t / D) ((k+1:Nat):Int)) (fun n=>?_)
   (ih (k+1) _ _ hk1 (by simpa using hx) (hd.set (Int.emod_nonneg _ (by have:=D1;omega)) (Int.emod_lt_of_pos _ nS)) (Int.ediv_nonneg p0 (Int.le_of_lt nS)) p1 (fun j hj=>by rw[qB _ _ _ _ (by omega)];exact hz j hj) ?_)
  ·simp only[aC.l1]
   rw[hw.out,hw1.out,if_pos (by omega),if_pos (by omega),if_pos (by omega),if_pos (by omega),if_pos (by omega),if_pos (by omega),eP,eP,eP,e1.out,RU p0,XG p0,e2.out,Int.toNat_natCast]
  ·rw[o8 D x _ _ hlt,eF D b,eU, ← Int.mul_assoc,qG]
   exact QO ((Int.mul_ediv_add_emod t D).trans ht) hval
theorem abw {a b:List Int}(ha:Dig D a)(hb:Dig D b)(hL:a.length+b.length≤1099511627776):∀ (d i:Nat) (x:List Int),i+d=a.length→x.length=a.length+b.length→Dig D x→(∀ j,i+b.length≤j→x.getD j 0=0) →
  val D x=val D (a.take i)*val D b→Ev (fun k=>aC.l0 k a b x (i:Int)) (enc D (val D a*val D b)):=by
 intro d
 induction d with
 | zero =>
  intro i x hi hx hd _ hval
  obtain rfl:i=a.length:=by omega
  rw[List.take_length]at hval;refine Ev.step (f:=fun k=>(aW.f k x).bind fun t=>some t) (fun k=>?_) (Ev.bind (by rw[← hval];exact Dj hd (by omega)) (Ev.now _));simp only[aC.l0];rw[if_neg (by omega)]
 | succ d ih =>
  intro i x hi hx hd hz hval
  have hilt:i<a.length:=by omega
  have hi1:i+1+d=a.length:=by omega
  refine Ev.step (f:=fun k=>aC.l1 k a b x (i:Int) 0 ((0:Nat):Int)) (fun k=>?_)
   (abq ha hb hL i hilt (val D (a.take i)*val D b) _ (fun x' hx' hd' hz' hval'=>ih (i+1) x' hi1 hx' hd' hz' ?_) b.length 0 x 0 (by omega) hx hd (by omega) nS hz ?_)
  ·simp only[aC.l0]
   rw[if_pos (by omega)]
   rfl
  ·rw[eF D a]
   exact JE hval'
  ·rw[List.take_zero,mX,hval];simp
theorem acA {a b:List Int}(ha:Dig D a)(hb:Dig D b)(hL:a.length+b.length≤1099511627776):Ev (fun k=>aC.f k a b) (enc D (val D a*val D b)):=by
 have hw:ae (wrap64 ((a.length:Int)+(b.length:Int))=((a.length+b.length:Nat):Int)):=⟨by rw[w64 (by omega) (by omega)];omega⟩
 have hT:a=[]∨b=[]→Ev (fun k=>aC.j0 k a b true) (enc D (val D a*val D b)):=fun h=>by
  have e:enc D (val D a*val D b)=[]:=by rcases h with h|h <;> rw[h,mX] <;> simp[eQ]
  rw[e];refine Ev.step (f:=fun _=>some []) (fun k=>?_) (Ev.now _);simp only[aC.j0];rw[if_pos trivial]
 by_cases h1:a.length=0
 ·refine Ev.congr (fun k=>?_) (hT (.inl (List.length_eq_zero_iff.1 h1)))
  unfold aC.f;rw[if_pos (by omega)]
 ·by_cases h2:b.length=0
  ·refine Ev.congr (fun k=>?_) (hT (.inr (List.length_eq_zero_iff.1 h2)))
   unfold aC.f;rw[if_neg (by omega),h2]
   rfl
  ·refine Ev.congr (f:=fun k=>aC.j0 k a b false) (fun k=>?_) ?_
   ·unfold aC.f
    rw[if_neg (by omega),show ((b.length:Int) == 0)=false from beq_eq_false_iff_ne.2 (by omega)]
   ·refine Ev.step (f:=fun k=>aC.l0 k a b (List.replicate (a.length+b.length) 0) ((0:Nat):Int)) (fun k=>?_)
     (abw ha hb (by omega) a.length 0 _ (by omega) (by simp) (Dig.zeros nS _) (fun j _=>by simp[List.getD_eq_getElem?_getD,List.getElem?_replicate];split <;> rfl) (by simp[vS,val]))
    simp only[aC.j0];rw[if_neg (by decide),hw.out,if_pos (by omega),Int.toNat_natCast,if_pos (by omega)]
    rfl
end Go.Proofs.Yy.PTx
end
