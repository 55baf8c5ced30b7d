/- Part 4. -/
import Derived.Lib.ItoaNum
set_option linter.unusedSimpArgs false
set_option linter.unusedVariables false
section
namespace Go.Proofs.Yy.NM
def B:Int:=18446744073709551616
def D:Int:=16777216
theorem B1:1<B:=by decide
theorem D1:1<D:=by decide
theorem uh:B=18446744073709551616:=rfl
theorem vN:D=16777216:=rfl
attribute [irreducible] B D
def val (b:Int):List Int→Int
 | []=>0
 | x::r=>x+b*val b r
def Dig (b:Int)(l:List Int):Prop := ∀ x ∈ l,0≤x∧x<b
def enc (b:Int)(n:Int):List Int:=if h:1<b∧0<n then (n % b)::enc b (n / b) else []
termination_by n.toNat
decreasing_by
 have h1:n / b<n:=Int.ediv_lt_self_of_pos_of_ne_one h.2 (by omega) |> fun h=>h;have h2:0≤n / b:=Int.ediv_nonneg (by omega) (by omega)
 omega
theorem eX (b:Int):enc b 0=[]:=by unfold enc;simp
theorem oI {b n:Int}(hb:1<b)(hn:0<n):enc b n=(n % b)::enc b (n / b):=by
 rw[enc,dif_pos ⟨hb,hn⟩]
theorem Ag {b n:Int}(hn:n≤0):enc b n=[]:=by
 rw[enc,dif_neg (by omega)]
theorem nG (b:Int):val b []=0:=rfl
theorem jm (b x:Int)(l:List Int):val b (x::l)=x+b*val b l:=rfl
theorem Dig.nil (b:Int):Dig b []:=fun _ h=>by cases h
theorem Dig.cons {b x:Int}{l:List Int}(h0:0≤x)(h1:x<b)(h:Dig b l):Dig b (x::l):=fun y hy=>by
 cases List.mem_cons.1 hy with
 | inl e=>subst e;exact⟨h0,h1⟩
 | inr e=>exact h y e
theorem Dig.head {b x:Int}{l:List Int}(h:Dig b (x::l)):0≤x∧x<b:=h x List.mem_cons_self
theorem Dig.tail {b x:Int}{l:List Int}(h:Dig b (x::l)):Dig b l:=fun y hy=>h y (List.mem_cons_of_mem _ hy)
theorem Dig.append {b:Int}{l m:List Int}(h:Dig b l)(k:Dig b m):Dig b (l++m):=fun y hy=>by
 cases List.mem_append.1 hy with
 | inl e=>exact h y e
 | inr e=>exact k y e
theorem Dig.take {b:Int}{l:List Int}(h:Dig b l)(n:Nat):Dig b (l.take n):=fun y hy=>h y (List.mem_of_mem_take hy)
theorem Dig.drop {b:Int}{l:List Int}(h:Dig b l)(n:Nat):Dig b (l.drop n):=fun y hy=>h y (List.mem_of_mem_drop hy)
theorem Dig.zeros {b:Int}(hb:0<b)(n:Nat):Dig b (List.replicate n 0):=fun y hy=>by
 obtain⟨_,rfl⟩:=List.mem_replicate.1 hy
 omega
theorem Dig.set {b:Int}{l:List Int}(h:Dig b l){i:Nat}{v:Int}(h0:0≤v)(h1:v<b):Dig b (l.set i v):=fun y hy=>by
 rcases List.mem_or_eq_of_mem_set hy with e|e
 ·exact h y e
 ·subst e;exact⟨h0,h1⟩
theorem Dig.get {b:Int}{l:List Int}(hb:0<b)(h:Dig b l)(i:Nat):0≤l.getD i 0∧l.getD i 0<b:=by
 rw[List.getD_eq_getElem?_getD]
 cases e:l[i]? with
 | none=>simp;omega
 | some v=>simp;exact h v (List.mem_of_getElem? e)
theorem fD {b:Int}(hb:0<b){l:List Int}(h:Dig b l):0≤val b l:=by
 induction l with
 | nil=>simp[val]
 | cons x r ih =>
  have h1:=ih h.tail;have h2:=h.head;have h3:=Int.mul_nonneg (Int.le_of_lt hb) h1;rw[jm]
  omega
theorem NW {b:Int}(hb:0<b)(n:Nat):0<b ^ n:=Int.pow_pos hb
theorem aag {b:Int}(hb:0<b){l:List Int}(h:Dig b l):val b l<b ^ l.length:=by
 induction l with
 | nil=>simp[val]
 | cons x r ih =>
  have h1:=ih h.tail;have h2:=h.head;rw[jm,List.length_cons,Int.pow_succ];have h3:b*(val b r+1)≤b*b ^ r.length:=Int.mul_le_mul_of_nonneg_left (by omega) (by omega);rw[Int.mul_add,Int.mul_one]at h3;rw[Int.mul_comm (b ^ r.length) b]
  omega
theorem val_append (b:Int)(l m:List Int):val b (l++m)=val b l+b ^ l.length*val b m:=by
 induction l with
 | nil=>simp[val]
 | cons x r ih =>
  rw[List.cons_append,jm,ih,jm,List.length_cons,Int.pow_succ,Int.mul_add]
  have:b*(b ^ r.length*val b m)=b ^ r.length*b*val b m:=by rw[← Int.mul_assoc,Int.mul_comm b]
  omega
theorem wC (b:Int)(n:Nat):val b (List.replicate n 0)=0:=by
 induction n with
 | zero=>rfl
 | succ n ih=>rw[List.replicate_succ,jm,ih];simp
theorem Bz (b:Int)(n:Nat)(m:List Int):val b (List.replicate n 0++m)=b ^ n*val b m:=by
 rw[val_append,wC,List.length_replicate];omega
theorem yL (b:Int)(l:List Int)(i:Nat):val b (l.take (i+1))=val b (l.take i)+b ^ i*l.getD i 0:=by
 by_cases h:i<l.length
 ·rw[List.take_succ_eq_append_getElem h,val_append,List.length_take,Nat.min_eq_left (by omega),List.getD_eq_getElem?_getD,List.getElem?_eq_getElem h]
  simp[val]
 ·rw[List.take_of_length_le (by omega),List.take_of_length_le (by omega),List.getD_eq_getElem?_getD,List.getElem?_eq_none (by omega)]
  simp
theorem yQ (l:List Int)(i:Nat)(v:Int)(h:i<l.length):(l.set i v).take (i+1)=l.take i ++ [v]:=by
 rw[List.take_succ_eq_append_getElem (by simpa using h)];simp[List.take_set_of_le]
theorem I7 (b:Int)(l:List Int)(i:Nat)(v:Int)(h:i<l.length):val b ((l.set i v).take (i+1))=val b (l.take i)+b ^ i*v:=by
 rw[yQ l i v h,val_append,List.length_take,Nat.min_eq_left (by omega)];simp[val]
theorem Xu (l:List Int)(n:Nat)(v:Int)(h:l.length=n+1):l.set n v=l.take n ++ [v]:=by
 have h1:=yQ l n v (by omega);rw[List.take_of_length_le (by simp;omega)]at h1;exact h1
theorem abE (b:Int)(l:List Int)(i:Nat)(v:Int)(h:i<l.length):val b (l.set i v)=val b l+b ^ i*(v-l.getD i 0):=by
 induction l generalizing i with
 | nil=>simp at h
 | cons x r ih =>
  cases i with
  | zero=>simp[val];omega
  | succ i =>
   rw[List.set_cons_succ,jm,ih i (by simpa using h),jm,Int.mul_add,Int.pow_succ];simp only[List.getD_cons_succ]
   have:b*(b ^ i*(v-r.getD i 0))=b ^ i*b*(v-r.getD i 0):=by rw[← Int.mul_assoc,Int.mul_comm b]
   omega
theorem acB {b:Int}(hb:1<b):∀ (m:Nat) (n:Int),0≤n→n.toNat≤m→val b (enc b n)=n:=by
 intro m
 induction m with
 | zero=>intro n h0 h1;rw[show n=0 by omega,eX];rfl
 | succ m ih =>
  intro n h0 h1
  by_cases hn:0<n
  ·have h2:n / b<n:=Int.ediv_lt_self_of_pos_of_ne_one hn (by omega)
   have h3:0≤n / b:=Int.ediv_nonneg (by omega) (by omega);rw[oI hb hn,jm,ih (n / b) h3 (by omega)];have:=Int.mul_ediv_add_emod n b
   omega
  ·rw[show n=0 by omega,eX];rfl
theorem fC {b n:Int}(hb:1<b)(h:0≤n):val b (enc b n)=n:=acB hb _ n h (Nat.le_refl _)
theorem acr {b:Int}(hb:1<b):∀ (m:Nat) (n:Int),n.toNat≤m→Dig b (enc b n):=by
 intro m
 induction m with
 | zero=>intro n h1;rw[Ag (by omega)];exact Dig.nil b
 | succ m ih =>
  intro n h1
  by_cases hn:0<n
  ·have h2:n / b<n:=Int.ediv_lt_self_of_pos_of_ne_one hn (by omega)
   have h3:0≤n / b:=Int.ediv_nonneg (by omega) (by omega);rw[oI hb hn];exact Dig.cons (Int.emod_nonneg _ (by omega)) (Int.emod_lt_of_pos _ (by omega)) (ih _ (by omega))
  ·rw[Ag (by omega)];exact Dig.nil b
theorem fJ {b:Int}(hb:1<b)(n:Int):Dig b (enc b n):=acr hb _ n (Nat.le_refl _)
theorem RS {b:Int}(hb:1<b):∀ (m:Nat) (n:Int),n<b ^ m→(enc b n).length≤m:=by
 intro m
 induction m with
 | zero=>intro n h;rw[Ag (by simp at h;omega)];simp
 | succ m ih =>
  intro n h
  by_cases hn:0<n
  ·rw[oI hb hn,List.length_cons]
   have:n / b<b ^ m:=Int.ediv_lt_of_lt_mul (by omega) (by rw[← Int.pow_succ];exact h);have:=ih _ this
   omega
  ·rw[Ag (by omega)];simp
theorem GN {b x:Int}{l:List Int}(hb:1<b)(h:Dig b (x::l)):enc b (val b (x::l))=if val b l=0∧x=0 then [] else x::enc b (val b l):=by
 have h0:=fD (by omega) h.tail;have hx:=h.head
 have hp:val b l=0∨b≤b*val b l:=by
  by_cases hz:val b l=0
  ·exact .inl hz
  ·refine .inr ?_
   have:b*1≤b*val b l:=Int.mul_le_mul_of_nonneg_left (by omega) (by omega)
   omega
 by_cases hc:val b l=0∧x=0
 ·rw[if_pos hc,jm,hc.1,hc.2];simp[eX]
 ·rw[if_neg hc]
  have hpos:0<val b (x::l):=by
   rw[jm];rcases hp with hp|hp
   ·rw[hp]at hc ⊢;simp at hc ⊢;omega
   ·omega
  have h1:val b (x::l) % b=x:=by rw[jm,Int.add_mul_emod_self_left];exact Int.emod_eq_of_lt hx.1 hx.2
  have h2:val b (x::l) / b=val b l:=by
   rw[jm,Int.add_mul_ediv_left _ _ (by omega),Int.ediv_eq_zero_of_lt hx.1 hx.2];omega
  rw[oI hb hpos,h1,h2]
theorem Hu {b x:Int}{l:List Int}(hb:1<b)(h:Dig b (l ++ [x])):enc b (val b (l ++ [x]))=if x=0 then enc b (val b l) else l ++ [x]:=by
 induction l with
 | nil =>
  rw[List.nil_append,GN hb (by simpa using h)];simp[val,eX]
 | cons y r ih =>
  have hd:Dig b (y::(r ++ [x])):=h;have hr:Dig b (r ++ [x]):=hd.tail;have hr0:Dig b r:=fun z hz=>hr z (by simp[hz]);have ih':=ih hr;rw[List.cons_append,GN hb hd,ih']
  have hv:val b (r ++ [x])=val b r+b ^ r.length*x:=by rw[val_append];simp[val]
  by_cases hx:x=0
  ·subst hx
   have hy:Dig b (y::r):=Dig.cons hd.head.1 hd.head.2 hr0;rw[if_pos rfl,if_pos rfl,GN hb hy,hv];simp
  ·rw[if_neg hx,if_neg hx,if_neg]
   rintro⟨h1,_⟩;rw[hv]at h1;have h2:=fD (by omega) hr0;have h3:=NW (b:=b) (by omega) r.length;have h4:=(hr x (by simp)).1;have:0<b ^ r.length*x:=Int.mul_pos h3 (by omega)
   omega
theorem nR {b:Int}{l:List Int}(hb:1<b)(h:Dig b l):(enc b (val b l)).length≤l.length:=RS hb _ _ (aag (by omega) h)
theorem acx {b n:Int}(hb:1<b)(hn:0≤n):enc b n=[] ↔ n=0:=by
 constructor
 ·intro h;have:=fC hb hn;rw[h]at this;simp[val]at this;omega
 ·rintro rfl;exact eX b
theorem YD {b:Int}(hb:1<b)(n:Int)(k:Nat)(hk:(enc b n).length=k+1):(enc b n).getD k 0≠0:=by
 intro h0;have hd:=fJ hb n
 by_cases hn:0≤n
 ·have hv:=fC hb hn
  have hs:enc b n=(enc b n).take k ++ [0]:=by
   have h1:=List.take_succ_eq_append_getElem (show k<(enc b n).length by omega);rw[List.take_of_length_le (by omega)]at h1
   have h2:(enc b n)[k]=0:=by simpa [List.getD_eq_getElem?_getD,List.getElem?_eq_getElem (show k<(enc b n).length by omega)] using h0
   rw[h2]at h1;exact h1
  have h3:=Hu (l:=(enc b n).take k) (x:=0) hb (by rw[← hs];exact hd);rw[← hs,hv,if_pos rfl]at h3;have h4:=nR hb (hd.take k);rw[← h3,List.length_take]at h4
  omega
 ·rw[Ag (by omega)]at hk
  simp at hk
theorem Bv {b n:Int}(hb:1<b)(hn:0<n):b ^ ((enc b n).length-1)≤n:=by
 have hd:=fJ hb n;have hv:=fC hb (Int.le_of_lt hn)
 obtain⟨k,hk⟩:∃ k,(enc b n).length=k+1:=by
  cases h:(enc b n).length with
  | zero=>rw[List.length_eq_zero_iff,acx hb (by omega)]at h;omega
  | succ k=>exact⟨k,rfl⟩
 have hl:=YD hb n k hk;have hg:=hd.get (by omega) k;have h1:=yL b (enc b n) k;rw[List.take_of_length_le (by omega),hv]at h1;have h2:=fD (b:=b) (by omega) (hd.take k);have h3:b ^ k*1≤b ^ k*(enc b n).getD k 0:=Int.mul_le_mul_of_nonneg_left (by omega) (Int.le_of_lt (NW (by omega) k));rw[hk,Nat.add_sub_cancel]
 omega
def pw (b:Int)(i:Nat):Int:=b ^ i
theorem iW (b:Int):pw b 0=1:=Int.pow_zero b
theorem ZQ (b:Int):pw b 1=b:=by show b ^ (0+1)=b;rw[Int.pow_succ,Int.pow_zero,Int.one_mul]
theorem fA (b:Int)(i:Nat):pw b (i+1)=pw b i*b:=Int.pow_succ b i
theorem qA (b:Int)(i j:Nat):pw b (i+j)=pw b i*pw b j:=Int.pow_add b i j
theorem jQ {b:Int}(hb:0<b)(i:Nat):0<pw b i:=Int.pow_pos hb
theorem EN {b:Int}(hb:0<b){i j:Nat}(h:i≤j):pw b i≤pw b j:=by
 obtain⟨d,rfl⟩:∃ d,j=i+d:=⟨j-i,by omega⟩
 rw[qA];have h1:=jQ hb i;have h2:=jQ hb d;have:pw b i*1≤pw b i*pw b d:=Int.mul_le_mul_of_nonneg_left (by omega) (by omega)
 omega
theorem kW {b:Int}(hb:0<b){l:List Int}(h:Dig b l):val b l<pw b l.length:=aag hb h
theorem nC (b:Int)(l m:List Int):val b (l++m)=val b l+pw b l.length*val b m:=val_append b l m
theorem Am (b:Int)(n:Nat)(m:List Int):val b (List.replicate n 0++m)=pw b n*val b m:=Bz b n m
theorem eP (b:Int)(l:List Int)(i:Nat):val b (l.take (i+1))=val b (l.take i)+pw b i*l.getD i 0:=yL b l i
theorem rq (b:Int)(l:List Int)(i:Nat)(v:Int)(h:i<l.length):val b ((l.set i v).take (i+1))=val b (l.take i)+pw b i*v:=I7 b l i v h
theorem pG (b:Int)(l:List Int)(i:Nat)(v:Int)(h:i<l.length):val b (l.set i v)=val b l+pw b i*(v-l.getD i 0):=abE b l i v h
theorem mG {b:Int}(hb:1<b){m:Nat}{n:Int}(h:n<pw b m):(enc b n).length≤m:=RS hb m n h
theorem FT {b n:Int}(hb:1<b)(hn:0<n):pw b ((enc b n).length-1)≤n:=Bv hb hn
theorem uq (b:Int)(i:Nat):pw b i=b ^ i:=rfl
theorem ZU (b:Int)(m n:Nat):pw b (m*n)=pw (pw b m) n:=Int.pow_mul ..
attribute [irreducible] pw
theorem JB:pw 2 24=D:=by rw[uq,vN];decide
theorem Dv:pw 2 64=B:=by rw[uq,uh];decide
theorem pwD (q:Nat):pw D q=pw 2 (24*q):=by rw[ZU,JB]
theorem pwB (q:Nat):pw B q=pw 2 (64*q):=by rw[ZU,Dv]
theorem lu {b:Int}(hb:0<b)(n:Int)(i:Nat):n / pw b (i+1)=n / pw b i / b:=by
 rw[fA,Int.ediv_ediv_of_nonneg (Int.le_of_lt (jQ hb i))]
theorem vU {b:Int}(hb:0<b)(n:Int)(i:Nat):n / pw b (i+1)=n / b / pw b i:=by
 rw[fA,Int.mul_comm,Int.ediv_ediv_of_nonneg (Int.le_of_lt hb)]
theorem fG (b n:Int):n / pw b 0=n:=by rw[iW,Int.ediv_one]
theorem gK {b n:Int}(hb:0<b)(hn:0≤n)(i:Nat):0≤n / pw b i:=Int.ediv_nonneg hn (Int.le_of_lt (jQ hb i))
theorem qH {b n:Int}(hb:1<b)(hn:0≤n)(i:Nat):i<(enc b n).length ↔ 0<n / pw b i:=by
 induction i generalizing n with
 | zero =>
  rw[fG]
  by_cases h:0<n
  ·rw[oI hb h];simp[h]
  ·rw[Ag (by omega)];simp;omega
 | succ i ih =>
  rw[vU (by omega), ← ih (Int.ediv_nonneg hn (by omega))]
  by_cases h:0<n
  ·rw[oI hb h];simp
  ·rw[show n=0 by omega];simp[eX]
theorem jC {b n:Int}(hb:1<b)(hn:0≤n)(i:Nat):(enc b n).getD i 0=n / pw b i % b:=by
 induction i generalizing n with
 | zero =>
  rw[fG]
  by_cases h:0<n
  ·rw[oI hb h];simp
  ·rw[show n=0 by omega];simp[eX]
 | succ i ih =>
  rw[vU (by omega), ← ih (Int.ediv_nonneg hn (by omega))]
  by_cases h:0<n
  ·rw[oI hb h];simp
  ·rw[show n=0 by omega];simp[eX]
theorem BU {b n:Int}(hb:1<b)(hn:0≤n)(i:Nat):(enc b n).drop i=enc b (n / pw b i):=by
 induction i generalizing n with
 | zero=>rw[fG];rfl
 | succ i ih =>
  rw[vU (by omega), ← ih (Int.ediv_nonneg hn (by omega))]
  by_cases h:0<n
  ·rw[oI hb h];simp
  ·rw[show n=0 by omega];simp[eX]
theorem Rx {b v:Int}(hb:1<b)(hv:0<v)(n:Nat):List.replicate n 0++enc b v=enc b (v*pw b n):=by
 induction n with
 | zero=>rw[iW,Int.mul_one];rfl
 | succ n ih =>
  have hp:=jQ (b:=b) (by omega) n;have h1:0<v*pw b (n+1):=Int.mul_pos hv (jQ (by omega) _);rw[List.replicate_succ,List.cons_append,ih,oI hb h1,fA, ← Int.mul_assoc,Int.mul_emod_left,Int.mul_ediv_cancel _ (by omega)]
theorem GX {b v:Int}(hb:1<b)(hv:0<v)(out:List Int):(out ++ [v % b])++enc b (v / b)=out++enc b v:=by
 rw[oI hb hv];simp
theorem Dq {b v:Int}(hb:1<b){d:Nat}(h:v<pw b (d+1)):v / b<pw b d:=by
 refine Int.ediv_lt_of_lt_mul (by omega) ?_;rw[← fA];exact h
theorem X9 {p b lo hi ai bi c X A C:Int}(hs:lo+b*hi=ai+bi+c)(hv:X+p*c=A+C):X+p*lo+p*b*hi=(A+p*ai)+(C+p*bi):=by grind
end Go.Proofs.Yy.NM
end
section
namespace Go.Proofs.Yy.SC
def dg (c:UInt8):Bool:=decide (48≤c.toNat) && decide (c.toNat≤57)
def ld:List UInt8→Nat
 | []=>0
 | c::l=>if dg c=true then ld l+1 else 0
structure R where
 st:Nat
 neg:Bool
 ds:List UInt8
 beh:Nat
 eneg:Bool
 exp:Nat
def r0:R:=⟨0,false,[],0,false,0⟩
def eb (c:UInt8):Bool:=c == 101 || c == 69
def sg (c:UInt8):Bool:=c == 43 || c == 45
def far:Nat:=100000000
def ex (e:Nat)(c:UInt8):Nat:=min (10*e+(c.toNat-48)) far
def tk (r:R)(c:UInt8):Option R :=
 match r.st with
 | 0=>if sg c=true then some { r with neg:=c == 45,st:=2 } else if dg c=true then some { r with st:=3,ds:=r.ds ++ [c] } else none
 | 2=>if dg c=true then some { r with st:=3,ds:=r.ds ++ [c] } else none
 | 3=>if c == 46 then some { r with st:=4 } else if dg c=true then some { r with ds:=r.ds ++ [c] } else if eb c=true then some { r with st:=6 } else none
 | 4=>if dg c=true then some { r with st:=5,ds:=r.ds ++ [c],beh:=r.beh+1 } else none
 | 5=>if dg c=true then some { r with st:=5,ds:=r.ds ++ [c],beh:=r.beh+1 } else if eb c=true then some { r with st:=6 } else none
 | 6=>if sg c=true then some { r with eneg:=c == 45,st:=7 } else if dg c=true then some { r with st:=8,exp:=ex r.exp c } else none
 | 7=>if dg c=true then some { r with st:=8,exp:=ex r.exp c } else none
 | 8=>if dg c=true then some { r with st:=8,exp:=ex r.exp c } else none
 | _=>none
def run (r:R)(i:Nat):List UInt8→Nat ⊕ R
 | [] => .inr r
 | c::l=>match tk r c with|none => .inl i|some r'=>run r' (i+1) l
def whole (r:R):Bool:=r.st == 3 || r.st == 5 || r.st == 8
def scan (l:List UInt8):Nat ⊕ R :=
 match run r0 0 l with
 | .inl i => .inl i
 | .inr r=>if whole r=true then .inr r else .inl l.length
theorem jT {c:UInt8}(h:dg c=true):sg c=false∧eb c=false∧(c == 46)=false:=by
 unfold dg at h;simp only[Bool.and_eq_true,decide_eq_true_iff]at h;unfold sg eb
 refine⟨?_,?_,?_⟩ <;> simp only[Bool.or_eq_false_iff,beq_eq_false_iff_ne,ne_eq] <;> (try constructor) <;> (rintro rfl;simp at h)
def hd (p:UInt8→Bool):List UInt8→Bool
 | []=>false
 | c::_=>p c
def afI (r:R):Bool:=r.st == 0 || r.st == 2 || r.st == 3 || r.st == 4 || r.st == 5 || r.st == 6 || r.st == 7 || r.st == 8
theorem alP {r r':R}{c:UInt8}(h:tk r c=some r'):afI r'=true:=by
 unfold tk at h
 split at h <;> (try split at h) <;> (try split at h) <;> (try split at h) <;> simp at h <;> (subst h) <;> simp_all [afI]
end Go.Proofs.Yy.SC
end
section
namespace Go.Proofs.Yy.SC
open Go
structure D where
  nar:Bool
  neg:Bool
  ds:List UInt8
  e:Int
deriving DecidableEq
def dN:D:=⟨true,false,[],0⟩
def lz (l:List UInt8):List UInt8:=l.dropWhile (· == 48)
def rz (l:List UInt8):List UInt8:=(l.reverse.dropWhile (· == 48)).reverse
def tz (l:List UInt8):Nat:=l.length-(rz l).length
def mP:Int:=1000000
def nrm (d:D):D :=
  if d.nar=true then d
  else if lz d.ds=[] then ⟨false,false,[48],0⟩
  else ⟨false,d.neg,(lz d.ds).take ((lz d.ds).length-min (tz (lz d.ds)) (mP-d.e).toNat),d.e+min (tz (lz d.ds)) (mP-d.e).toNat⟩
def formed (d:D):Bool :=
  if d.nar=true then (!d.neg && (d.ds.isEmpty && decide (d.e=0)))
  else !d.ds.isEmpty && (decide (d.ds.length≤4096) && (d.ds.all dg && (decide (-mP≤d.e) && decide (d.e≤mP))))
def held (n:Int):Int:=if n < -mP then -mP else if mP<n then mP else n
def wordAt (l:List UInt8):Nat :=
  if hd (· == 110) l=true then (if hd (· == 97) (l.drop 1)=true then (if hd (· == 114) (l.drop 2)=true then 3 else 2) else 1) else 0
inductive Res where
  | long
  | bad (p:Nat)
  | ok (d:D)
def toD (r:R):D:=⟨false,r.neg,r.ds,held ((if r.eneg=true then -(r.exp:Int) else (r.exp:Int))-(r.beh:Int))⟩
def PO (l:List UInt8):Res :=
  if 4096<l.length then .long
  else if hd (· == 110) l=true then (if wordAt l<3∨3<l.length then .bad (wordAt l) else .ok dN)
  else match scan l with
    | .inl p => .bad p
    | .inr r => .ok (nrm (toD r))
def Ac (d:D):List UInt8 :=
  if d.nar=true then [110,97,114]
  else (if d.neg=true then [45] else []) ++
    (let a:Int:=d.ds.length+d.e
     if 0≤d.e∧a≤21 then d.ds++List.replicate d.e.toNat 48
     else if 1≤a∧a≤21 then d.ds.take a.toNat ++ [46]++d.ds.drop a.toNat
     else if -5≤a∧a≤0 then [48,46]++List.replicate (-a).toNat 48++d.ds
     else d.ds.take 1++(if 1<d.ds.length then [46]++d.ds.drop 1 else []) ++ [101]++Lib.itoa (a-1))
def alS (d:D):Prop:=d=dN∨(d.nar=false∧d.ds.all dg=true∧d.ds≠[]∧d.ds.length≤4096 ∧ -mP≤d.e∧d.e≤mP ∧
  ((d.neg=false∧d.ds=[48]∧d.e=0)∨(hd (· == 48) d.ds=false∧(d.ds.getLast? ≠ some 48∨d.e=mP))))
theorem C9 (l:List UInt8):rz (l ++ [48])=rz l:=by simp[rz]
theorem KY {l:List UInt8}(h:l.getLast? ≠ some 48):rz l=l:=by
  rcases List.eq_nil_or_concat l with rfl|⟨m,c,rfl⟩
  · rfl
  · have hc:(c == 48)=false:=by simpa using h
    simp[rz,hc]
theorem Fv (l:List UInt8)(n:Nat):rz (l++List.replicate n 48)=rz l:=by
  induction n with
  | zero=>simp
  | succ n ih=>rw[List.replicate_succ', ← List.append_assoc,C9,ih]
theorem Xt (l:List UInt8):(rz l).length≤l.length:=by
  unfold rz;have:=(List.dropWhile_sublist (p:=(· == 48)) (l:=l.reverse)).length_le
  simpa using this
theorem abb {l:List UInt8}(h:l.getLast? ≠ some 48):tz l=0:=by unfold tz;rw[KY h];omega
theorem FB (n:Nat)(l:List UInt8):lz (List.replicate n 48++l)=lz l:=by
  induction n with
  | zero=>simp
  | succ n ih=>rw[List.replicate_succ,List.cons_append];unfold lz at *;rw[List.dropWhile_cons];simp
theorem agv {l:List UInt8}(h:hd (· == 48) l=false):lz l=l:=by
  cases l with
  | nil=>rfl
  | cons c l=>unfold lz;rw[List.dropWhile_cons];have:(c == 48)=false:=h;simp[this]
theorem ZT (l:List UInt8):hd (· == 48) (lz l)=false:=by
  induction l with
  | nil=>rfl
  | cons c l ih =>
    unfold lz at *;rw[List.dropWhile_cons]
    by_cases hc:(c == 48)=true
    · rw[if_pos hc];exact ih
    · rw[if_neg hc];simpa [hd] using hc
theorem EI {d:D}(h:alS d):formed d=true:=by
  rcases h with rfl|⟨h1,h2,h3,h4,h5,h6,h7⟩
  · rfl
  · unfold formed
    rw[h1];simp[h2,h3,h4,h5,h6]
theorem OC (l:List UInt8):∃ n,l=rz l++List.replicate n 48:=by
  obtain⟨m,hm⟩:∃ m,m=l.length:=⟨_,rfl⟩
  induction m generalizing l with
  | zero=>obtain rfl:l=[]:=List.length_eq_zero_iff.1 hm.symm;exact⟨0,rfl⟩
  | succ m ih =>
    rcases List.eq_nil_or_concat l with rfl|⟨q,c,rfl⟩
    · exact⟨0,rfl⟩
    · by_cases hc:c=48
      · subst hc
        obtain⟨n,hn⟩:=ih q (by simpa using hm);refine⟨n+1,?_⟩;rw[List.concat_eq_append,C9,List.replicate_succ', ← List.append_assoc, ← hn]
      · refine⟨0,?_⟩
        rw[KY (by simpa using hc)];simp
theorem acD (l:List UInt8):rz l=l.take (rz l).length:=by
  obtain⟨n,hn⟩:=OC l
  conv=>rhs;rw[hn,Fv]
  have:rz (rz l)=rz l:=by
    conv=>rhs;rw[hn,Fv]
  simp[this]
theorem Pv (l:List UInt8):(rz l).getLast? ≠ some 48:=by
  obtain⟨m,hm⟩:∃ m,m=l.length:=⟨_,rfl⟩
  induction m generalizing l with
  | zero=>obtain rfl:l=[]:=List.length_eq_zero_iff.1 hm.symm;simp[rz]
  | succ m ih =>
    rcases List.eq_nil_or_concat l with rfl|⟨q,c,rfl⟩
    · simp[rz]
    · by_cases hc:c=48
      · subst hc
        rw[List.concat_eq_append,C9];exact ih q (by simpa using hm)
      · rw[KY (by simpa using hc)]
        simpa using hc
theorem af0 {l:List UInt8}(h:rz l=[]):lz l=[]:=by
  obtain⟨n,hn⟩:=OC l;rw[h]at hn;rw[hn,List.nil_append];have:=FB n [];rw[List.append_nil]at this;rw[this]
  rfl
theorem alR {l:List UInt8}(h:l≠[])(h2:hd (· == 48) l=false):rz l≠[]:=fun h3=>h (by rw[← agv h2];exact af0 h3)
theorem ab8 {p:UInt8→Bool}{l:List UInt8}{n:Nat}(h:0<n):hd p (l.take n)=hd p l:=by
  cases l with
  | nil=>simp
  | cons c l=>obtain⟨m,rfl⟩:∃ m,n=m+1:=⟨n-1,by omega⟩;rfl
theorem aga {l:List UInt8}{p:UInt8→Bool}(h:l.all p=true):(lz l).all p=true :=
  List.all_eq_true.2 fun x hx=>List.all_eq_true.1 h x ((List.dropWhile_sublist _).subset hx)
theorem aaX (l:List UInt8):(lz l).length≤l.length:=(List.dropWhile_sublist _).length_le
theorem GU {d:D}(h:formed d=true):alS (nrm d):=by
  obtain⟨nar,neg,ds,e⟩:=d
  cases nar with
  | true =>
    simp[formed]at h;obtain⟨rfl,rfl,rfl⟩:=h;exact .inl rfl
  | false =>
    unfold formed at h;simp only[Bool.false_eq_true,if_false,Bool.and_eq_true,decide_eq_true_iff,Bool.not_eq_true',List.isEmpty_eq_false_iff]at h;obtain⟨h1,h2,h3,h4,h5⟩:=h;unfold nrm;simp only[Bool.false_eq_true,if_false]
    by_cases h0:lz ds=[]
    · rw[if_pos h0]
      exact .inr ⟨rfl,by decide,by decide,by decide,by decide,by decide,.inl ⟨rfl,rfl,rfl⟩⟩
    · rw[if_neg h0]
      have ha:=aga h3;have hh:=ZT ds;have hl:=aaX ds;have hr:=alR h0 hh;have hrl:=Xt (lz ds);have hr1:0<(rz (lz ds)).length:=List.length_pos_iff.2 hr
      have hk:(lz ds).length-min (tz (lz ds)) (mP-e).toNat≥(rz (lz ds)).length:=by unfold tz;omega
      have hk2:min (tz (lz ds)) (mP-e).toNat≤(mP-e).toNat:=Nat.min_le_right _ _;refine .inr ⟨rfl,?_,?_,?_,?_,?_,.inr ⟨?_,?_⟩⟩
      · exact List.all_eq_true.2 fun x hx=>List.all_eq_true.1 ha x (List.mem_of_mem_take hx)
      · exact List.length_pos_iff.1 (by simp only[List.length_take];omega)
      · simp only[List.length_take];omega
      · simp only;omega
      · simp only;omega
      · simp only;rw[ab8 (by omega)];exact hh
      · simp only
        by_cases hm:tz (lz ds)≤(mP-e).toNat
        · left
          rw[Nat.min_eq_left hm,show (lz ds).length-tz (lz ds)=(rz (lz ds)).length by unfold tz;omega, ← acD];exact Pv _
        · right
          rw[Nat.min_eq_right (by omega)]
          omega
structure Inv (k:Nat) (r:R):Prop where
 all:r.ds.all dg=true
 len:r.ds.length≤k
 beh:r.beh≤r.ds.length
 exp:r.exp≤far
 st:afI r=true
 some_:r.st=0∨r.st=2∨r.ds≠[]
theorem inv0:Inv 0 r0:=⟨rfl,by decide,by decide,by decide,rfl,.inl rfl⟩
theorem Inv.tk {k:Nat}{r r':R}{c:UInt8}(h:Inv k r)(ht:tk r c=some r'):Inv (k+1) r':=by
 obtain⟨h1,h2,h3,h4,h5,h6⟩:=h;have h7:=alP ht;have hx:∀ e,ex e c≤far:=fun e=>Nat.min_le_right _ _
 have ha:dg c=true→(r.ds ++ [c]).all dg=true:=fun hc=>by rw[List.all_append,h1,List.all_cons,hc];rfl
 unfold Go.Proofs.Yy.SC.tk at ht
 refine⟨?_,?_,?_,?_,h7,?_⟩ <;> (split at ht <;> (try split at ht) <;> (try split at ht) <;> (try split at ht) <;> simp only[Option.some.injEq,reduceCtorEq]at ht <;> subst ht) <;>
  first|exact h1|exact ha (by assumption)|omega|(simp only[List.length_append,List.length_singleton];omega)|exact h3|exact hx _|(right;right;simp;done)|(right;left;rfl)|(right;right;rcases h6 with h6|h6|h6 <;> first|exact h6|(simp_all;done))
theorem abq (l:List UInt8):∀ (r q:R) (i k:Nat),Inv k r→run r i l=.inr q→Inv (k+l.length) q:=by
 induction l with
 | nil=>intro r q i k h h2;simp[run]at h2;subst h2;exact h
 | cons c l ih =>
  intro r q i k h h2;rw[run]at h2
  cases ht:tk r c with
  | none=>rw[ht]at h2;simp at h2
  | some r' =>
   rw[ht]at h2;have:=ih r' q (i+1) (k+1) (h.tk ht) h2;rw[List.length_cons,show k+(l.length+1)=k+1+l.length by omega];exact this
theorem XH {l:List UInt8}{q:R}(h:scan l=.inr q):Inv l.length q∧whole q=true:=by
 unfold scan at h
 cases hr:run r0 0 l with
 | inl i=>rw[hr]at h;simp at h
 | inr r =>
  rw[hr]at h;simp only at h
  cases hw:whole r with
  | false=>rw[hw]at h;simp at h
  | true =>
   rw[hw,if_pos rfl]at h
   obtain rfl:r=q:=by simpa using h
   refine⟨?_,hw⟩;have:=abq l r0 r 0 0 inv0 hr
   rwa [Nat.zero_add]at this
theorem Qs (n:Int) : -mP≤held n∧held n≤mP:=by unfold held mP;split <;> (try split) <;> omega
theorem LX {l:List UInt8}{q:R}(h:scan l=.inr q)(hl:l.length≤4096):formed (toD q)=true:=by
 obtain⟨⟨h1,h2,h3,h4,h5,h6⟩,hw⟩:=XH h
 have hne:q.ds≠[]:=by
  rcases h6 with h6|h6|h6
  ·unfold whole at hw;rw[h6]at hw;simp at hw
  ·unfold whole at hw;rw[h6]at hw;simp at hw
  ·exact h6
 have hb:=Qs ((if q.eneg=true then -(q.exp:Int) else (q.exp:Int))-(q.beh:Int));unfold formed toD;have hd:decide (q.ds.length≤4096)=true:=decide_eq_true (by omega);simp only[Bool.false_eq_true,if_false,h1,hd,Bool.true_and,Bool.and_eq_true,Bool.not_eq_true',List.isEmpty_eq_false_iff,decide_eq_true_iff];exact⟨hne,hb⟩
theorem RG (l:List UInt8):wordAt l≤3∧wordAt l≤l.length:=by
 rcases l with _|⟨a,_|⟨b,_|⟨c,l⟩⟩⟩ <;> unfold wordAt <;> simp only[hd,List.drop_succ_cons,List.drop_zero,List.drop_nil,List.length_cons,List.length_nil,Bool.false_eq_true,if_false] <;> (repeat' split) <;> omega
end Go.Proofs.Yy.SC
end
