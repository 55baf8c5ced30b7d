/- Part 4. -/
import Derived.Lib.ItoaNum
set_option linter.unusedSimpArgs false
set_option linter.unusedVariables false
section
namespace Go.Proofs.Yy.NM
def B:Int:=18446744073709551616
def D:Int:=16777216
theorem B1:1<B:=by decide
theorem D1:1<D:=by decide
theorem ug:B=18446744073709551616:=rfl
theorem vY:D=16777216:=rfl
attribute [irreducible] B D
def val (b:Int):List Int→Int
 | []=>0
 | x::r=>x+b*val b r
def Dig (b:Int)(l:List Int):Prop := ∀ x ∈ l,0≤x∧x<b
def enc (b:Int)(n:Int):List Int:=if h:1<b∧0<n then (n % b)::enc b (n / b) else []
termination_by n.toNat
decreasing_by
 have h1:n / b<n:=Int.ediv_lt_self_of_pos_of_ne_one h.2 (by omega) |> fun h=>h;have h2:0≤n / b:=Int.ediv_nonneg (by omega) (by omega)
 omega
theorem eQ (b:Int):enc b 0=[]:=by unfold enc;simp
theorem oD {b n:Int}(hb:1<b)(hn:0<n):enc b n=(n % b)::enc b (n / b):=by
 rw[enc,dif_pos ⟨hb,hn⟩]
theorem zX {b n:Int}(hn:n≤0):enc b n=[]:=by
 rw[enc,dif_neg (by omega)]
theorem mX (b:Int):val b []=0:=rfl
theorem jh (b x:Int)(l:List Int):val b (x::l)=x+b*val b l:=rfl
theorem Dig.nil (b:Int):Dig b []:=fun _ h=>by cases h
theorem Dig.cons {b x:Int}{l:List Int}(h0:0≤x)(h1:x<b)(h:Dig b l):Dig b (x::l):=fun y hy=>by
 cases List.mem_cons.1 hy with
 | inl e=>subst e;exact⟨h0,h1⟩
 | inr e=>exact h y e
theorem Dig.head {b x:Int}{l:List Int}(h:Dig b (x::l)):0≤x∧x<b:=h x List.mem_cons_self
theorem Dig.tail {b x:Int}{l:List Int}(h:Dig b (x::l)):Dig b l:=fun y hy=>h y (List.mem_cons_of_mem _ hy)
theorem Dig.append {b:Int}{l m:List Int}(h:Dig b l)(k:Dig b m):Dig b (l++m):=fun y hy=>by
 cases List.mem_append.1 hy with
 | inl e=>exact h y e
 | inr e=>exact k y e
theorem Dig.take {b:Int}{l:List Int}(h:Dig b l)(n:Nat):Dig b (l.take n):=fun y hy=>h y (List.mem_of_mem_take hy)
theorem Dig.drop {b:Int}{l:List Int}(h:Dig b l)(n:Nat):Dig b (l.drop n):=fun y hy=>h y (List.mem_of_mem_drop hy)
theorem Dig.zeros {b:Int}(hb:0<b)(n:Nat):Dig b (List.replicate n 0):=fun y hy=>by
 obtain⟨_,rfl⟩:=List.mem_replicate.1 hy
 omega
theorem Dig.set {b:Int}{l:List Int}(h:Dig b l){i:Nat}{v:Int}(h0:0≤v)(h1:v<b):Dig b (l.set i v):=fun y hy=>by
 rcases List.mem_or_eq_of_mem_set hy with e|e
 ·exact h y e
 ·subst e;exact⟨h0,h1⟩
theorem Dig.get {b:Int}{l:List Int}(hb:0<b)(h:Dig b l)(i:Nat):0≤l.getD i 0∧l.getD i 0<b:=by
 rw[List.getD_eq_getElem?_getD]
 cases e:l[i]? with
 | none=>simp;omega
 | some v=>simp;exact h v (List.mem_of_getElem? e)
theorem fC {b:Int}(hb:0<b){l:List Int}(h:Dig b l):0≤val b l:=by
 induction l with
 | nil=>simp[val]
 | cons x r ih =>
  have h1:=ih h.tail;have h2:=h.head;have h3:=Int.mul_nonneg (Int.le_of_lt hb) h1;rw[jh]
  omega
theorem Oj {b:Int}(hb:0<b)(n:Nat):0<b ^ n:=Int.pow_pos hb
theorem ZW {b:Int}(hb:0<b){l:List Int}(h:Dig b l):val b l<b ^ l.length:=by
 induction l with
 | nil=>simp[val]
 | cons x r ih =>
  have h1:=ih h.tail;have h2:=h.head;rw[jh,List.length_cons,Int.pow_succ];have h3:b*(val b r+1)≤b*b ^ r.length:=Int.mul_le_mul_of_nonneg_left (by omega) (by omega);rw[Int.mul_add,Int.mul_one]at h3;rw[Int.mul_comm (b ^ r.length) b]
  omega
theorem val_append (b:Int)(l m:List Int):val b (l++m)=val b l+b ^ l.length*val b m:=by
 induction l with
 | nil=>simp[val]
 | cons x r ih =>
  rw[List.cons_append,jh,ih,jh,List.length_cons,Int.pow_succ,Int.mul_add]
  have:b*(b ^ r.length*val b m)=b ^ r.length*b*val b m:=by rw[← Int.mul_assoc,Int.mul_comm b]
  omega
theorem vS (b:Int)(n:Nat):val b (List.replicate n 0)=0:=by
 induction n with
 | zero=>rfl
 | succ n ih=>rw[List.replicate_succ,jh,ih];simp
theorem Bj (b:Int)(n:Nat)(m:List Int):val b (List.replicate n 0++m)=b ^ n*val b m:=by
 rw[val_append,vS,List.length_replicate];omega
theorem yO (b:Int)(l:List Int)(i:Nat):val b (l.take (i+1))=val b (l.take i)+b ^ i*l.getD i 0:=by
 by_cases h:i<l.length
 ·rw[List.take_succ_eq_append_getElem h,val_append,List.length_take,Nat.min_eq_left (by omega),List.getD_eq_getElem?_getD,List.getElem?_eq_getElem h]
  simp[val]
 ·rw[List.take_of_length_le (by omega),List.take_of_length_le (by omega),List.getD_eq_getElem?_getD,List.getElem?_eq_none (by omega)]
  simp
theorem yF (l:List Int)(i:Nat)(v:Int)(h:i<l.length):(l.set i v).take (i+1)=l.take i ++ [v]:=by
 rw[List.take_succ_eq_append_getElem (by simpa using h)];simp[List.take_set_of_le]
theorem Jn (b:Int)(l:List Int)(i:Nat)(v:Int)(h:i<l.length):val b ((l.set i v).take (i+1))=val b (l.take i)+b ^ i*v:=by
 rw[yF l i v h,val_append,List.length_take,Nat.min_eq_left (by omega)];simp[val]
theorem X9 (l:List Int)(n:Nat)(v:Int)(h:l.length=n+1):l.set n v=l.take n ++ [v]:=by
 have h1:=yF l n v (by omega);rw[List.take_of_length_le (by simp;omega)]at h1;exact h1
theorem abA (b:Int)(l:List Int)(i:Nat)(v:Int)(h:i<l.length):val b (l.set i v)=val b l+b ^ i*(v-l.getD i 0):=by
 induction l generalizing i with
 | nil=>simp at h
 | cons x r ih =>
  cases i with
  | zero=>simp[val];omega
  | succ i =>
   rw[List.set_cons_succ,jh,ih i (by simpa using h),jh,Int.mul_add,Int.pow_succ];simp only[List.getD_cons_succ]
   have:b*(b ^ i*(v-r.getD i 0))=b ^ i*b*(v-r.getD i 0):=by rw[← Int.mul_assoc,Int.mul_comm b]
   omega
theorem aaZ {b:Int}(hb:1<b):∀ (m:Nat) (n:Int),0≤n→n.toNat≤m→val b (enc b n)=n:=by
 intro m
 induction m with
 | zero=>intro n h0 h1;rw[show n=0 by omega,eQ];rfl
 | succ m ih =>
  intro n h0 h1
  by_cases hn:0<n
  ·have h2:n / b<n:=Int.ediv_lt_self_of_pos_of_ne_one hn (by omega)
   have h3:0≤n / b:=Int.ediv_nonneg (by omega) (by omega);rw[oD hb hn,jh,ih (n / b) h3 (by omega)];have:=Int.mul_ediv_add_emod n b
   omega
  ·rw[show n=0 by omega,eQ];rfl
theorem fB {b n:Int}(hb:1<b)(h:0≤n):val b (enc b n)=n:=aaZ hb _ n h (Nat.le_refl _)
theorem aaR {b:Int}(hb:1<b):∀ (m:Nat) (n:Int),n.toNat≤m→Dig b (enc b n):=by
 intro m
 induction m with
 | zero=>intro n h1;rw[zX (by omega)];exact Dig.nil b
 | succ m ih =>
  intro n h1
  by_cases hn:0<n
  ·have h2:n / b<n:=Int.ediv_lt_self_of_pos_of_ne_one hn (by omega)
   have h3:0≤n / b:=Int.ediv_nonneg (by omega) (by omega);rw[oD hb hn];exact Dig.cons (Int.emod_nonneg _ (by omega)) (Int.emod_lt_of_pos _ (by omega)) (ih _ (by omega))
  ·rw[zX (by omega)];exact Dig.nil b
theorem fO {b:Int}(hb:1<b)(n:Int):Dig b (enc b n):=aaR hb _ n (Nat.le_refl _)
theorem QW {b:Int}(hb:1<b):∀ (m:Nat) (n:Int),n<b ^ m→(enc b n).length≤m:=by
 intro m
 induction m with
 | zero=>intro n h;rw[zX (by simp at h;omega)];simp
 | succ m ih =>
  intro n h
  by_cases hn:0<n
  ·rw[oD hb hn,List.length_cons]
   have:n / b<b ^ m:=Int.ediv_lt_of_lt_mul (by omega) (by rw[← Int.pow_succ];exact h);have:=ih _ this
   omega
  ·rw[zX (by omega)];simp
theorem G5 {b x:Int}{l:List Int}(hb:1<b)(h:Dig b (x::l)):enc b (val b (x::l))=if val b l=0∧x=0 then [] else x::enc b (val b l):=by
 have h0:=fC (by omega) h.tail;have hx:=h.head
 have hp:val b l=0∨b≤b*val b l:=by
  by_cases hz:val b l=0
  ·exact .inl hz
  ·refine .inr ?_
   have:b*1≤b*val b l:=Int.mul_le_mul_of_nonneg_left (by omega) (by omega)
   omega
 by_cases hc:val b l=0∧x=0
 ·rw[if_pos hc,jh,hc.1,hc.2];simp[eQ]
 ·rw[if_neg hc]
  have hpos:0<val b (x::l):=by
   rw[jh];rcases hp with hp|hp
   ·rw[hp]at hc ⊢;simp at hc ⊢;omega
   ·omega
  have h1:val b (x::l) % b=x:=by rw[jh,Int.add_mul_emod_self_left];exact Int.emod_eq_of_lt hx.1 hx.2
  have h2:val b (x::l) / b=val b l:=by
   rw[jh,Int.add_mul_ediv_left _ _ (by omega),Int.ediv_eq_zero_of_lt hx.1 hx.2];omega
  rw[oD hb hpos,h1,h2]
theorem Hg {b x:Int}{l:List Int}(hb:1<b)(h:Dig b (l ++ [x])):enc b (val b (l ++ [x]))=if x=0 then enc b (val b l) else l ++ [x]:=by
 induction l with
 | nil =>
  rw[List.nil_append,G5 hb (by simpa using h)];simp[val,eQ]
 | cons y r ih =>
  have hd:Dig b (y::(r ++ [x])):=h;have hr:Dig b (r ++ [x]):=hd.tail;have hr0:Dig b r:=fun z hz=>hr z (by simp[hz]);have ih':=ih hr;rw[List.cons_append,G5 hb hd,ih']
  have hv:val b (r ++ [x])=val b r+b ^ r.length*x:=by rw[val_append];simp[val]
  by_cases hx:x=0
  ·subst hx
   have hy:Dig b (y::r):=Dig.cons hd.head.1 hd.head.2 hr0;rw[if_pos rfl,if_pos rfl,G5 hb hy,hv];simp
  ·rw[if_neg hx,if_neg hx,if_neg]
   rintro⟨h1,_⟩;rw[hv]at h1;have h2:=fC (by omega) hr0;have h3:=Oj (b:=b) (by omega) r.length;have h4:=(hr x (by simp)).1;have:0<b ^ r.length*x:=Int.mul_pos h3 (by omega)
   omega
theorem nI {b:Int}{l:List Int}(hb:1<b)(h:Dig b l):(enc b (val b l)).length≤l.length:=QW hb _ _ (ZW (by omega) h)
theorem acf {b n:Int}(hb:1<b)(hn:0≤n):enc b n=[] ↔ n=0:=by
 constructor
 ·intro h;have:=fB hb hn;rw[h]at this;simp[val]at this;omega
 ·rintro rfl;exact eQ b
theorem Xq {b:Int}(hb:1<b)(n:Int)(k:Nat)(hk:(enc b n).length=k+1):(enc b n).getD k 0≠0:=by
 intro h0;have hd:=fO hb n
 by_cases hn:0≤n
 ·have hv:=fB hb hn
  have hs:enc b n=(enc b n).take k ++ [0]:=by
   have h1:=List.take_succ_eq_append_getElem (show k<(enc b n).length by omega);rw[List.take_of_length_le (by omega)]at h1
   have h2:(enc b n)[k]=0:=by simpa [List.getD_eq_getElem?_getD,List.getElem?_eq_getElem (show k<(enc b n).length by omega)] using h0
   rw[h2]at h1;exact h1
  have h3:=Hg (l:=(enc b n).take k) (x:=0) hb (by rw[← hs];exact hd);rw[← hs,hv,if_pos rfl]at h3;have h4:=nI hb (hd.take k);rw[← h3,List.length_take]at h4
  omega
 ·rw[zX (by omega)]at hk
  simp at hk
theorem Bo {b n:Int}(hb:1<b)(hn:0<n):b ^ ((enc b n).length-1)≤n:=by
 have hd:=fO hb n;have hv:=fB hb (Int.le_of_lt hn)
 obtain⟨k,hk⟩:∃ k,(enc b n).length=k+1:=by
  cases h:(enc b n).length with
  | zero=>rw[List.length_eq_zero_iff,acf hb (by omega)]at h;omega
  | succ k=>exact⟨k,rfl⟩
 have hl:=Xq hb n k hk;have hg:=hd.get (by omega) k;have h1:=yO b (enc b n) k;rw[List.take_of_length_le (by omega),hv]at h1;have h2:=fC (b:=b) (by omega) (hd.take k);have h3:b ^ k*1≤b ^ k*(enc b n).getD k 0:=Int.mul_le_mul_of_nonneg_left (by omega) (Int.le_of_lt (Oj (by omega) k));rw[hk,Nat.add_sub_cancel]
 omega
def pw (b:Int)(i:Nat):Int:=b ^ i
theorem iU (b:Int):pw b 0=1:=Int.pow_zero b
theorem ZP (b:Int):pw b 1=b:=by show b ^ (0+1)=b;rw[Int.pow_succ,Int.pow_zero,Int.one_mul]
theorem eU (b:Int)(i:Nat):pw b (i+1)=pw b i*b:=Int.pow_succ b i
theorem qG (b:Int)(i j:Nat):pw b (i+j)=pw b i*pw b j:=Int.pow_add b i j
theorem jQ {b:Int}(hb:0<b)(i:Nat):0<pw b i:=Int.pow_pos hb
theorem EL {b:Int}(hb:0<b){i j:Nat}(h:i≤j):pw b i≤pw b j:=by
 obtain⟨d,rfl⟩:∃ d,j=i+d:=⟨j-i,by omega⟩
 rw[qG];have h1:=jQ hb i;have h2:=jQ hb d;have:pw b i*1≤pw b i*pw b d:=Int.mul_le_mul_of_nonneg_left (by omega) (by omega)
 omega
theorem kM {b:Int}(hb:0<b){l:List Int}(h:Dig b l):val b l<pw b l.length:=ZW hb h
theorem mO (b:Int)(l m:List Int):val b (l++m)=val b l+pw b l.length*val b m:=val_append b l m
theorem Ai (b:Int)(n:Nat)(m:List Int):val b (List.replicate n 0++m)=pw b n*val b m:=Bj b n m
theorem eF (b:Int)(l:List Int)(i:Nat):val b (l.take (i+1))=val b (l.take i)+pw b i*l.getD i 0:=yO b l i
theorem qZ (b:Int)(l:List Int)(i:Nat)(v:Int)(h:i<l.length):val b ((l.set i v).take (i+1))=val b (l.take i)+pw b i*v:=Jn b l i v h
theorem o8 (b:Int)(l:List Int)(i:Nat)(v:Int)(h:i<l.length):val b (l.set i v)=val b l+pw b i*(v-l.getD i 0):=abA b l i v h
theorem mf {b:Int}(hb:1<b){m:Nat}{n:Int}(h:n<pw b m):(enc b n).length≤m:=QW hb m n h
theorem F7 {b n:Int}(hb:1<b)(hn:0<n):pw b ((enc b n).length-1)≤n:=Bo hb hn
theorem ui (b:Int)(i:Nat):pw b i=b ^ i:=rfl
theorem ZZ (b:Int)(m n:Nat):pw b (m*n)=pw (pw b m) n:=Int.pow_mul ..
attribute [irreducible] pw
theorem Jz:pw 2 24=D:=by rw[ui,vY];decide
theorem CP:pw 2 64=B:=by rw[ui,ug];decide
theorem pwD (q:Nat):pw D q=pw 2 (24*q):=by rw[ZZ,Jz]
theorem pwB (q:Nat):pw B q=pw 2 (64*q):=by rw[ZZ,CP]
theorem lh {b:Int}(hb:0<b)(n:Int)(i:Nat):n / pw b (i+1)=n / pw b i / b:=by
 rw[eU,Int.ediv_ediv_of_nonneg (Int.le_of_lt (jQ hb i))]
theorem vO {b:Int}(hb:0<b)(n:Int)(i:Nat):n / pw b (i+1)=n / b / pw b i:=by
 rw[eU,Int.mul_comm,Int.ediv_ediv_of_nonneg (Int.le_of_lt hb)]
theorem fH (b n:Int):n / pw b 0=n:=by rw[iU,Int.ediv_one]
theorem gY {b n:Int}(hb:0<b)(hn:0≤n)(i:Nat):0≤n / pw b i:=Int.ediv_nonneg hn (Int.le_of_lt (jQ hb i))
theorem qE {b n:Int}(hb:1<b)(hn:0≤n)(i:Nat):i<(enc b n).length ↔ 0<n / pw b i:=by
 induction i generalizing n with
 | zero =>
  rw[fH]
  by_cases h:0<n
  ·rw[oD hb h];simp[h]
  ·rw[zX (by omega)];simp;omega
 | succ i ih =>
  rw[vO (by omega), ← ih (Int.ediv_nonneg hn (by omega))]
  by_cases h:0<n
  ·rw[oD hb h];simp
  ·rw[show n=0 by omega];simp[eQ]
theorem jA {b n:Int}(hb:1<b)(hn:0≤n)(i:Nat):(enc b n).getD i 0=n / pw b i % b:=by
 induction i generalizing n with
 | zero =>
  rw[fH]
  by_cases h:0<n
  ·rw[oD hb h];simp
  ·rw[show n=0 by omega];simp[eQ]
 | succ i ih =>
  rw[vO (by omega), ← ih (Int.ediv_nonneg hn (by omega))]
  by_cases h:0<n
  ·rw[oD hb h];simp
  ·rw[show n=0 by omega];simp[eQ]
theorem BQ {b n:Int}(hb:1<b)(hn:0≤n)(i:Nat):(enc b n).drop i=enc b (n / pw b i):=by
 induction i generalizing n with
 | zero=>rw[fH];rfl
 | succ i ih =>
  rw[vO (by omega), ← ih (Int.ediv_nonneg hn (by omega))]
  by_cases h:0<n
  ·rw[oD hb h];simp
  ·rw[show n=0 by omega];simp[eQ]
theorem TJ {b v:Int}(hb:1<b)(hv:0<v)(n:Nat):List.replicate n 0++enc b v=enc b (v*pw b n):=by
 induction n with
 | zero=>rw[iU,Int.mul_one];rfl
 | succ n ih =>
  have hp:=jQ (b:=b) (by omega) n;have h1:0<v*pw b (n+1):=Int.mul_pos hv (jQ (by omega) _);rw[List.replicate_succ,List.cons_append,ih,oD hb h1,eU, ← Int.mul_assoc,Int.mul_emod_left,Int.mul_ediv_cancel _ (by omega)]
theorem GZ {b v:Int}(hb:1<b)(hv:0<v)(out:List Int):(out ++ [v % b])++enc b (v / b)=out++enc b v:=by
 rw[oD hb hv];simp
theorem Ce {b v:Int}(hb:1<b){d:Nat}(h:v<pw b (d+1)):v / b<pw b d:=by
 refine Int.ediv_lt_of_lt_mul (by omega) ?_;rw[← eU];exact h
theorem Xb {p b lo hi ai bi c X A C:Int}(hs:lo+b*hi=ai+bi+c)(hv:X+p*c=A+C):X+p*lo+p*b*hi=(A+p*ai)+(C+p*bi):=by grind
end Go.Proofs.Yy.NM
end
section
namespace Go.Proofs.Yy.SC
def dg (c:UInt8):Bool:=decide (48≤c.toNat) && decide (c.toNat≤57)
def ld:List UInt8→Nat
  | []=>0
  | c::l=>if dg c=true then ld l+1 else 0
structure R where
  st:Nat
  neg:Bool
  ds:List UInt8
  beh:Nat
  eneg:Bool
  exp:Nat
def r0:R:=⟨0,false,[],0,false,0⟩
def eb (c:UInt8):Bool:=c == 101 || c == 69
def sg (c:UInt8):Bool:=c == 43 || c == 45
def far:Nat:=100000000
def ex (e:Nat)(c:UInt8):Nat:=min (10*e+(c.toNat-48)) far
def tk (r:R)(c:UInt8):Option R :=
  match r.st with
  | 0=>if sg c=true then some { r with neg:=c == 45,st:=2 } else if dg c=true then some { r with st:=3,ds:=r.ds ++ [c] } else none
  | 2=>if dg c=true then some { r with st:=3,ds:=r.ds ++ [c] } else none
  | 3=>if c == 46 then some { r with st:=4 } else if dg c=true then some { r with ds:=r.ds ++ [c] } else if eb c=true then some { r with st:=6 } else none
  | 4=>if dg c=true then some { r with st:=5,ds:=r.ds ++ [c],beh:=r.beh+1 } else none
  | 5=>if dg c=true then some { r with st:=5,ds:=r.ds ++ [c],beh:=r.beh+1 } else if eb c=true then some { r with st:=6 } else none
  | 6=>if sg c=true then some { r with eneg:=c == 45,st:=7 } else if dg c=true then some { r with st:=8,exp:=ex r.exp c } else none
  | 7=>if dg c=true then some { r with st:=8,exp:=ex r.exp c } else none
  | 8=>if dg c=true then some { r with st:=8,exp:=ex r.exp c } else none
  | _=>none
def run (r:R)(i:Nat):List UInt8→Nat ⊕ R
  | [] => .inr r
  | c::l=>match tk r c with|none => .inl i|some r'=>run r' (i+1) l
def whole (r:R):Bool:=r.st == 3 || r.st == 5 || r.st == 8
def scan (l:List UInt8):Nat ⊕ R :=
  match run r0 0 l with
  | .inl i => .inl i
  | .inr r=>if whole r=true then .inr r else .inl l.length
theorem vJ {c:UInt8}(h:dg c=true):sg c=false∧eb c=false∧(c == 46)=false:=by
  unfold dg at h;simp only[Bool.and_eq_true,decide_eq_true_iff]at h;unfold sg eb
  refine⟨?_,?_,?_⟩ <;> simp only[Bool.or_eq_false_iff,beq_eq_false_iff_ne,ne_eq] <;> (try constructor) <;> (rintro rfl;simp at h)
def sc (r:R)(i:Nat)(l:List UInt8):Nat ⊕ R :=
  match run r i l with
  | .inl p => .inl p
  | .inr q=>if whole q=true then .inr q else .inl (i+l.length)
theorem abG (l:List UInt8):scan l=sc r0 0 l:=by unfold scan sc;simp
theorem tK {r r':R}{c:UInt8}(i:Nat)(l:List UInt8)(h:tk r c=some r'):sc r i (c::l)=sc r' (i+1) l:=by
  unfold sc;rw[run,h];simp only[List.length_cons,Nat.add_assoc,Nat.add_comm 1]
theorem CY {r:R}{c:UInt8}(i:Nat)(l:List UInt8)(h:tk r c=none):sc r i (c::l)=.inl i:=by
  unfold sc;rw[run,h]
theorem sc3 (l:List UInt8):∀ (r:R) (i:Nat),r.st=3→sc r i l=sc { r with ds:=r.ds++l.take (ld l) } (i+ld l) (l.drop (ld l)):=by
  induction l with
  | nil=>intro r i h;simp[ld]
  | cons c l ih =>
    intro r i h
    by_cases hc:dg c=true
    · have t:tk r c=some { r with ds:=r.ds ++ [c] }:=by
        unfold tk;rw[h];simp[(vJ hc).2.2,hc]
      rw[tK i l t,ih { r with ds:=r.ds ++ [c] } (i+1) h,ld,if_pos hc,List.take_succ_cons,List.drop_succ_cons,show i+1+ld l=i+(ld l+1) by omega];simp only[List.append_assoc,List.singleton_append]
    · rw[ld,if_neg hc];simp
theorem sc5 (l:List UInt8):∀ (r:R) (i:Nat),r.st=5→sc r i l=sc { r with ds:=r.ds++l.take (ld l),beh:=r.beh+ld l } (i+ld l) (l.drop (ld l)):=by
  induction l with
  | nil=>intro r i h;simp[ld]
  | cons c l ih =>
    intro r i h
    by_cases hc:dg c=true
    · have t:tk r c=some { r with ds:=r.ds ++ [c],beh:=r.beh+1 }:=by
        unfold tk;rw[h];simp[hc]
      rw[tK i l t,ih { r with ds:=r.ds ++ [c],beh:=r.beh+1 } (i+1) h,ld,if_pos hc,List.take_succ_cons,List.drop_succ_cons,show i+1+ld l=i+(ld l+1) by omega,show r.beh+(ld l+1)=r.beh+1+ld l by omega];simp only[List.append_assoc,List.singleton_append]
    · rw[ld,if_neg hc];simp
theorem sc8 (l:List UInt8):∀ (r:R) (i:Nat),r.st=8→sc r i l=sc { r with exp:=(l.take (ld l)).foldl ex r.exp } (i+ld l) (l.drop (ld l)):=by
  induction l with
  | nil=>intro r i h;simp[ld]
  | cons c l ih =>
    intro r i h
    by_cases hc:dg c=true
    · have t:tk r c=some { r with exp:=ex r.exp c }:=by
        unfold tk;rw[h];simp[hc]
      rw[tK i l t,ih { r with exp:=ex r.exp c } (i+1) h,ld,if_pos hc,List.take_succ_cons,List.drop_succ_cons,show i+1+ld l=i+(ld l+1) by omega];simp only[List.foldl_cons]
    · rw[ld,if_neg hc];simp
def hd (p:UInt8→Bool):List UInt8→Bool
  | []=>false
  | c::_=>p c
theorem Ls (l:List UInt8):hd dg (l.drop (ld l))=false:=by
  induction l with
  | nil=>rfl
  | cons c l ih =>
    by_cases hc:dg c=true
    · rw[ld,if_pos hc];exact ih
    · rw[ld,if_neg hc];simpa [hd] using hc
theorem Yf (l:List UInt8):ld l≤l.length:=by
  induction l with
  | nil=>simp[ld]
  | cons c l ih=>rw[ld];split <;> simp;omega
def tailE (r:R)(i:Nat)(l:List UInt8):Nat ⊕ R :=
  let f:=if hd sg l=true then 1 else 0
  let n:=ld (l.drop f)
  if n=0 then .inl (i+f)
  else if f+n<l.length then .inl (i+f+n)
  else .inr { r with st:=8,eneg:=hd (· == 45) l,exp:=((l.drop f).take n).foldl ex r.exp }
def Pm (r:R)(i:Nat)(l:List UInt8):Nat ⊕ R :=
  if hd eb l=true then tailE r (i+1) (l.drop 1) else if 0<l.length then .inl i else .inr r
def Xi (r:R)(i:Nat)(l:List UInt8):Nat ⊕ R :=
  if hd (· == 46) l=true then
    (let n:=ld (l.drop 1)
     if n=0 then .inl (i+1) else Pm { r with st:=5,ds:=r.ds++(l.drop 1).take n,beh:=r.beh+n } (i+1+n) ((l.drop 1).drop n))
  else Pm r i l
def Fq (r:R)(i:Nat)(l:List UInt8):Nat ⊕ R :=
  if ld l=0 then .inl i else Xi { r with st:=3,ds:=r.ds++l.take (ld l) } (i+ld l) (l.drop (ld l))
def ref (l:List UInt8):Nat ⊕ R :=
  if hd sg l=true then Fq { r0 with st:=2,neg:=hd (· == 45) l } 1 (l.drop 1) else Fq r0 0 l
theorem ZL (l:List UInt8)(r:R)(i:Nat)(h:(r.st=6∧hd sg l=false)∨r.st=7):sc r i l=(if ld l=0 then .inl i else if ld l<l.length then .inl (i+ld l) else .inr { r with st:=8,exp:=(l.take (ld l)).foldl ex r.exp }):=by
  cases l with
  | nil =>
    have hw:whole r=false:=by unfold whole;rcases h with⟨h,_⟩|h <;> rw[h] <;> rfl
    simp[ld,sc,run,hw]
  | cons c l =>
    by_cases hc:dg c=true
    · have t:tk r c=some { r with st:=8,exp:=ex r.exp c }:=by
        unfold tk;rcases h with⟨h,_⟩|h <;> rw[h] <;> simp[hc,(vJ hc).1]
      rw[tK i l t,sc8 l { r with st:=8,exp:=ex r.exp c } (i+1) rfl,ld,if_pos hc,if_neg (by omega),List.take_succ_cons,List.foldl_cons];have hd0:=Ls l;have hlen:=Yf l
      cases hq:l.drop (ld l) with
      | nil =>
        have:l.length≤ld l:=List.drop_eq_nil_iff.1 hq;rw[if_neg (by simp;omega)];simp[sc,run,whole]
      | cons d q =>
        have:ld l<l.length:=by
          rcases Nat.lt_or_ge (ld l) l.length with h'|h'
          · exact h'
          · rw[List.drop_eq_nil_iff.2 h']at hq;cases hq
        rw[hq]at hd0;rw[if_pos (by simp;omega)];rw[CY]
        · congr 1;omega
        · unfold tk;simp only;rw[if_neg (by simpa [hd] using hd0)]
    · have t:tk r c=none:=by
        unfold tk
        rcases h with⟨h,h2⟩|h <;> rw[h]
        · have h3:sg c=false:=h2
          simp[hc,h3]
        · simp[hc]
      rw[CY i l t,ld,if_neg hc,if_pos rfl]
theorem Yb (l:List UInt8)(r:R)(i:Nat)(h:r.st=6)(he:r.eneg=false):sc r i l=tailE r i l:=by
  unfold tailE
  by_cases hs:hd sg l=true
  · cases l with
    | nil=>cases hs
    | cons c l =>
      have hs':sg c=true:=hs
      have t:tk r c=some { r with eneg:=c == 45,st:=7 }:=by unfold tk;rw[h];simp[hs']
      rw[if_pos hs];simp only[List.drop_succ_cons,List.drop_zero,List.length_cons];rw[tK i l t,ZL l _ (i+1) (.inr rfl)]
      by_cases h0:ld l=0
      · rw[if_pos h0,if_pos h0]
      · rw[if_neg h0,if_neg h0]
        by_cases h1:ld l<l.length
        · rw[if_pos h1,if_pos (by omega)]
        · rw[if_neg h1,if_neg (by omega)]
          rfl
  · have hs':hd sg l=false:=by simpa using hs
    have h45:hd (· == 45) l=false:=by
      cases l with
      | nil=>rfl
      | cons c l=>simp only[hd,sg,Bool.or_eq_false_iff]at hs' ⊢;exact hs'.2
    simp only[hs,Bool.false_eq_true,if_false,List.drop_zero,Nat.zero_add,Nat.add_zero];rw[ZL l r i (.inl ⟨h,hs'⟩),h45]
    by_cases h0:ld l=0
    · rw[if_pos h0,if_pos h0]
    · rw[if_neg h0,if_neg h0]
      by_cases h1:ld l<l.length
      · rw[if_pos h1,if_pos h1]
      · rw[if_neg h1,if_neg h1,he]
theorem Oo (l:List UInt8)(r:R)(i:Nat)(h:(r.st=3∧hd (· == 46) l=false)∨r.st=5)(hn:hd dg l=false)(he:r.eneg=false):sc r i l=Pm r i l:=by
  unfold Pm
  cases l with
  | nil =>
    have hw:whole r=true:=by unfold whole;rcases h with⟨h,_⟩|h <;> rw[h] <;> rfl
    simp[hd,sc,run,hw]
  | cons c l =>
    have hc:dg c=false:=hn
    by_cases hb:eb c=true
    · have t:tk r c=some { r with st:=6 }:=by
        unfold tk
        rcases h with⟨h,h2⟩|h <;> rw[h]
        · have h3:(c == 46)=false:=h2
          simp[hc,h3,hb]
        · simp[hc,hb]
      rw[tK i l t,if_pos (show hd eb (c::l)=true from hb),Yb l { r with st:=6 } (i+1) rfl he,List.drop_succ_cons,List.drop_zero]
      rfl
    · have t:tk r c=none:=by
        unfold tk
        rcases h with⟨h,h2⟩|h <;> rw[h]
        · have h3:(c == 46)=false:=h2
          simp[hc,h3,hb]
        · simp[hc,hb]
      rw[CY i l t,if_neg (show ¬ hd eb (c::l)=true from hb),if_pos (by simp)]
theorem XN (l:List UInt8)(r:R)(i:Nat)(h:r.st=3)(hn:hd dg l=false)(he:r.eneg=false):sc r i l=Xi r i l:=by
  unfold Xi
  by_cases hp:hd (· == 46) l=true
  · rw[if_pos hp]
    cases l with
    | nil=>cases hp
    | cons c l =>
      have hp':(c == 46)=true:=hp
      have t:tk r c=some { r with st:=4 }:=by unfold tk;rw[h];simp[hp']
      rw[tK i l t];simp only[List.drop_succ_cons,List.drop_zero]
      cases l with
      | nil=>simp[sc,run,whole,ld]
      | cons d l =>
        by_cases hd':dg d=true
        · have t2:tk { r with st:=4 } d=some { r with st:=5,ds:=r.ds ++ [d],beh:=r.beh+1 }:=by unfold tk;simp[hd']
          rw[tK (i+1) l t2,sc5 l { r with st:=5,ds:=r.ds ++ [d],beh:=r.beh+1 } (i+1+1) rfl];rw[Oo _ { r with st:=5,ds:=r.ds ++ [d]++l.take (ld l),beh:=r.beh+1+ld l } _ (.inr rfl) (Ls l) he];rw[ld,if_pos hd',if_neg (by omega),List.take_succ_cons,List.drop_succ_cons,show i+1+1+ld l=i+1+(ld l+1) by omega,show r.beh+1+ld l=r.beh+(ld l+1) by omega,List.append_assoc,List.singleton_append]
        · have t2:tk { r with st:=4 } d=none:=by unfold tk;simp[hd']
          rw[CY (i+1) l t2,ld,if_neg hd',if_pos rfl]
  · rw[if_neg hp]
    exact Oo l r i (.inl ⟨h,by simpa using hp⟩) hn he
theorem N8 (l:List UInt8)(r:R)(i:Nat)(h:(r.st=0∧hd sg l=false)∨r.st=2)(he:r.eneg=false):sc r i l=Fq r i l:=by
  unfold Fq
  cases l with
  | nil =>
    have hw:whole r=false:=by unfold whole;rcases h with⟨h,_⟩|h <;> rw[h] <;> rfl
    simp[sc,run,ld,hw]
  | cons c l =>
    by_cases hc:dg c=true
    · have t:tk r c=some { r with st:=3,ds:=r.ds ++ [c] }:=by
        unfold tk;rcases h with⟨h,_⟩|h <;> rw[h] <;> simp[hc,(vJ hc).1]
      rw[tK i l t,sc3 l { r with st:=3,ds:=r.ds ++ [c] } (i+1) rfl,XN _ { r with st:=3,ds:=r.ds ++ [c]++l.take (ld l) } _ rfl (Ls l) he];rw[ld,if_pos hc,if_neg (by omega),List.take_succ_cons,List.drop_succ_cons,show i+1+ld l=i+(ld l+1) by omega,List.append_assoc,List.singleton_append]
    · have t:tk r c=none:=by
        unfold tk
        rcases h with⟨h,h2⟩|h <;> rw[h]
        · have h3:sg c=false:=h2
          simp[hc,h3]
        · simp[hc]
      rw[CY i l t,ld,if_neg hc,if_pos rfl]
theorem Xy (l:List UInt8):scan l=ref l:=by
  rw[abG];unfold ref
  by_cases hs:hd sg l=true
  · rw[if_pos hs]
    cases l with
    | nil=>cases hs
    | cons c l =>
      have hs':sg c=true:=hs
      have t:tk r0 c=some { r0 with neg:=c == 45,st:=2 }:=by unfold tk;simp[r0,hs']
      rw[tK 0 l t,List.drop_succ_cons,List.drop_zero,N8 l _ _ (.inr rfl) rfl]
      rfl
  · rw[if_neg hs]
    exact N8 l r0 0 (.inl ⟨rfl,by simpa using hs⟩) rfl
def af4 (r:R):Bool:=r.st == 0 || r.st == 2 || r.st == 3 || r.st == 4 || r.st == 5 || r.st == 6 || r.st == 7 || r.st == 8
theorem ami {r r':R}{c:UInt8}(h:tk r c=some r'):af4 r'=true:=by
  unfold tk at h
  split at h <;> (try split at h) <;> (try split at h) <;> (try split at h) <;> simp at h <;> (subst h) <;> simp_all [af4]
end Go.Proofs.Yy.SC
end
section
namespace Go.Proofs.Yy.SC
open Go
structure D where
  nar:Bool
  neg:Bool
  ds:List UInt8
  e:Int
deriving DecidableEq
def dN:D:=⟨true,false,[],0⟩
def lz (l:List UInt8):List UInt8:=l.dropWhile (· == 48)
def rz (l:List UInt8):List UInt8:=(l.reverse.dropWhile (· == 48)).reverse
def tz (l:List UInt8):Nat:=l.length-(rz l).length
def nM:Int:=1000000
def nrm (d:D):D :=
  if d.nar=true then d
  else if lz d.ds=[] then ⟨false,false,[48],0⟩
  else ⟨false,d.neg,(lz d.ds).take ((lz d.ds).length-min (tz (lz d.ds)) (nM-d.e).toNat),d.e+min (tz (lz d.ds)) (nM-d.e).toNat⟩
def formed (d:D):Bool :=
  if d.nar=true then (!d.neg && (d.ds.isEmpty && decide (d.e=0)))
  else !d.ds.isEmpty && (decide (d.ds.length≤4096) && (d.ds.all dg && (decide (-nM≤d.e) && decide (d.e≤nM))))
def held (n:Int):Int:=if n < -nM then -nM else if nM<n then nM else n
def wordAt (l:List UInt8):Nat :=
  if hd (· == 110) l=true then (if hd (· == 97) (l.drop 1)=true then (if hd (· == 114) (l.drop 2)=true then 3 else 2) else 1) else 0
inductive Res where
  | long
  | bad (p:Nat)
  | ok (d:D)
def toD (r:R):D:=⟨false,r.neg,r.ds,held ((if r.eneg=true then -(r.exp:Int) else (r.exp:Int))-(r.beh:Int))⟩
def vw (l:List UInt8):Res :=
  if 4096<l.length then .long
  else if hd (· == 110) l=true then (if wordAt l<3∨3<l.length then .bad (wordAt l) else .ok dN)
  else match scan l with
    | .inl p => .bad p
    | .inr r => .ok (nrm (toD r))
def Pn (d:D):List UInt8 :=
  if d.nar=true then [110,97,114]
  else (if d.neg=true then [45] else []) ++
    (let a:Int:=d.ds.length+d.e
     if 0≤d.e∧a≤21 then d.ds++List.replicate d.e.toNat 48
     else if 1≤a∧a≤21 then d.ds.take a.toNat ++ [46]++d.ds.drop a.toNat
     else if -5≤a∧a≤0 then [48,46]++List.replicate (-a).toNat 48++d.ds
     else d.ds.take 1++(if 1<d.ds.length then [46]++d.ds.drop 1 else []) ++ [101]++Lib.itoa (a-1))
def ale (d:D):Prop:=d=dN∨(d.nar=false∧d.ds.all dg=true∧d.ds≠[]∧d.ds.length≤4096 ∧ -nM≤d.e∧d.e≤nM ∧
  ((d.neg=false∧d.ds=[48]∧d.e=0)∨(hd (· == 48) d.ds=false∧(d.ds.getLast? ≠ some 48∨d.e=nM))))
theorem abZ (l:List UInt8):(l.take (ld l)).all dg=true:=by
  induction l with
  | nil=>rfl
  | cons c l ih =>
    by_cases hc:dg c=true
    · rw[ld,if_pos hc,List.take_succ_cons,List.all_cons,hc,ih];rfl
    · rw[ld,if_neg hc];rfl
theorem Dh (l:List UInt8):rz (l ++ [48])=rz l:=by simp[rz]
theorem Lt {l:List UInt8}(h:l.getLast? ≠ some 48):rz l=l:=by
  rcases List.eq_nil_or_concat l with rfl|⟨m,c,rfl⟩
  · rfl
  · have hc:(c == 48)=false:=by simpa using h
    simp[rz,hc]
theorem FQ (l:List UInt8)(n:Nat):rz (l++List.replicate n 48)=rz l:=by
  induction n with
  | zero=>simp
  | succ n ih=>rw[List.replicate_succ', ← List.append_assoc,Dh,ih]
theorem XX (l:List UInt8):(rz l).length≤l.length:=by
  unfold rz;have:=(List.dropWhile_sublist (p:=(· == 48)) (l:=l.reverse)).length_le
  simpa using this
theorem aaC {l:List UInt8}(h:l.getLast? ≠ some 48):tz l=0:=by unfold tz;rw[Lt h];omega
theorem FZ (n:Nat)(l:List UInt8):lz (List.replicate n 48++l)=lz l:=by
  induction n with
  | zero=>simp
  | succ n ih=>rw[List.replicate_succ,List.cons_append];unfold lz at *;rw[List.dropWhile_cons];simp
theorem agr {l:List UInt8}(h:hd (· == 48) l=false):lz l=l:=by
  cases l with
  | nil=>rfl
  | cons c l=>unfold lz;rw[List.dropWhile_cons];have:(c == 48)=false:=h;simp[this]
theorem ZO (l:List UInt8):hd (· == 48) (lz l)=false:=by
  induction l with
  | nil=>rfl
  | cons c l ih =>
    unfold lz at *;rw[List.dropWhile_cons]
    by_cases hc:(c == 48)=true
    · rw[if_pos hc];exact ih
    · rw[if_neg hc];simpa [hd] using hc
theorem tN {d:D}(h:ale d):formed d=true:=by
  rcases h with rfl|⟨h1,h2,h3,h4,h5,h6,h7⟩
  · rfl
  · unfold formed
    rw[h1];simp[h2,h3,h4,h5,h6]
theorem Ns (l:List UInt8):∃ n,l=rz l++List.replicate n 48:=by
  obtain⟨m,hm⟩:∃ m,m=l.length:=⟨_,rfl⟩
  induction m generalizing l with
  | zero=>obtain rfl:l=[]:=List.length_eq_zero_iff.1 hm.symm;exact⟨0,rfl⟩
  | succ m ih =>
    rcases List.eq_nil_or_concat l with rfl|⟨q,c,rfl⟩
    · exact⟨0,rfl⟩
    · by_cases hc:c=48
      · subst hc
        obtain⟨n,hn⟩:=ih q (by simpa using hm);refine⟨n+1,?_⟩;rw[List.concat_eq_append,Dh,List.replicate_succ', ← List.append_assoc, ← hn]
      · refine⟨0,?_⟩
        rw[Lt (by simpa using hc)];simp
theorem abE (l:List UInt8):rz l=l.take (rz l).length:=by
  obtain⟨n,hn⟩:=Ns l
  conv=>rhs;rw[hn,FQ]
  have:rz (rz l)=rz l:=by
    conv=>rhs;rw[hn,FQ]
  simp[this]
theorem Pg (l:List UInt8):(rz l).getLast? ≠ some 48:=by
  obtain⟨m,hm⟩:∃ m,m=l.length:=⟨_,rfl⟩
  induction m generalizing l with
  | zero=>obtain rfl:l=[]:=List.length_eq_zero_iff.1 hm.symm;simp[rz]
  | succ m ih =>
    rcases List.eq_nil_or_concat l with rfl|⟨q,c,rfl⟩
    · simp[rz]
    · by_cases hc:c=48
      · subst hc
        rw[List.concat_eq_append,Dh];exact ih q (by simpa using hm)
      · rw[Lt (by simpa using hc)]
        simpa using hc
theorem afJ {l:List UInt8}(h:rz l=[]):lz l=[]:=by
  obtain⟨n,hn⟩:=Ns l;rw[h]at hn;rw[hn,List.nil_append];have:=FZ n [];rw[List.append_nil]at this;rw[this]
  rfl
theorem amk {l:List UInt8}(h:l≠[])(h2:hd (· == 48) l=false):rz l≠[]:=fun h3=>h (by rw[← agr h2];exact afJ h3)
theorem aaN {p:UInt8→Bool}{l:List UInt8}{n:Nat}(h:0<n):hd p (l.take n)=hd p l:=by
  cases l with
  | nil=>simp
  | cons c l=>obtain⟨m,rfl⟩:∃ m,n=m+1:=⟨n-1,by omega⟩;rfl
theorem agl {l:List UInt8}{p:UInt8→Bool}(h:l.all p=true):(lz l).all p=true :=
  List.all_eq_true.2 fun x hx=>List.all_eq_true.1 h x ((List.dropWhile_sublist _).subset hx)
theorem abV (l:List UInt8):(lz l).length≤l.length:=(List.dropWhile_sublist _).length_le
theorem BK {d:D}(h:formed d=true):ale (nrm d):=by
  obtain⟨nar,neg,ds,e⟩:=d
  cases nar with
  | true =>
    simp[formed]at h;obtain⟨rfl,rfl,rfl⟩:=h;exact .inl rfl
  | false =>
    unfold formed at h;simp only[Bool.false_eq_true,if_false,Bool.and_eq_true,decide_eq_true_iff,Bool.not_eq_true',List.isEmpty_eq_false_iff]at h;obtain⟨h1,h2,h3,h4,h5⟩:=h;unfold nrm;simp only[Bool.false_eq_true,if_false]
    by_cases h0:lz ds=[]
    · rw[if_pos h0]
      exact .inr ⟨rfl,by decide,by decide,by decide,by decide,by decide,.inl ⟨rfl,rfl,rfl⟩⟩
    · rw[if_neg h0]
      have ha:=agl h3;have hh:=ZO ds;have hl:=abV ds;have hr:=amk h0 hh;have hrl:=XX (lz ds);have hr1:0<(rz (lz ds)).length:=List.length_pos_iff.2 hr
      have hk:(lz ds).length-min (tz (lz ds)) (nM-e).toNat≥(rz (lz ds)).length:=by unfold tz;omega
      have hk2:min (tz (lz ds)) (nM-e).toNat≤(nM-e).toNat:=Nat.min_le_right _ _;refine .inr ⟨rfl,?_,?_,?_,?_,?_,.inr ⟨?_,?_⟩⟩
      · exact List.all_eq_true.2 fun x hx=>List.all_eq_true.1 ha x (List.mem_of_mem_take hx)
      · exact List.length_pos_iff.1 (by simp only[List.length_take];omega)
      · simp only[List.length_take];omega
      · simp only;omega
      · simp only;omega
      · simp only;rw[aaN (by omega)];exact hh
      · simp only
        by_cases hm:tz (lz ds)≤(nM-e).toNat
        · left
          rw[Nat.min_eq_left hm,show (lz ds).length-tz (lz ds)=(rz (lz ds)).length by unfold tz;omega, ← abE];exact Pg _
        · right
          rw[Nat.min_eq_right (by omega)]
          omega
structure Inv (k:Nat) (r:R):Prop where
 all:r.ds.all dg=true
 len:r.ds.length≤k
 beh:r.beh≤r.ds.length
 exp:r.exp≤far
 st:af4 r=true
 some_:r.st=0∨r.st=2∨r.ds≠[]
theorem inv0:Inv 0 r0:=⟨rfl,by decide,by decide,by decide,rfl,.inl rfl⟩
theorem Inv.tk {k:Nat}{r r':R}{c:UInt8}(h:Inv k r)(ht:tk r c=some r'):Inv (k+1) r':=by
 obtain⟨h1,h2,h3,h4,h5,h6⟩:=h;have h7:=ami ht;have hx:∀ e,ex e c≤far:=fun e=>Nat.min_le_right _ _
 have ha:dg c=true→(r.ds ++ [c]).all dg=true:=fun hc=>by rw[List.all_append,h1,List.all_cons,hc];rfl
 unfold Go.Proofs.Yy.SC.tk at ht
 refine⟨?_,?_,?_,?_,h7,?_⟩ <;> (split at ht <;> (try split at ht) <;> (try split at ht) <;> (try split at ht) <;> simp only[Option.some.injEq,reduceCtorEq]at ht <;> subst ht) <;>
  first|exact h1|exact ha (by assumption)|omega|(simp only[List.length_append,List.length_singleton];omega)|exact h3|exact hx _|(right;right;simp;done)|(right;left;rfl)|(right;right;rcases h6 with h6|h6|h6 <;> first|exact h6|(simp_all;done))
theorem abv (l:List UInt8):∀ (r q:R) (i k:Nat),Inv k r→run r i l=.inr q→Inv (k+l.length) q:=by
 induction l with
 | nil=>intro r q i k h h2;simp[run]at h2;subst h2;exact h
 | cons c l ih =>
  intro r q i k h h2;rw[run]at h2
  cases ht:tk r c with
  | none=>rw[ht]at h2;simp at h2
  | some r' =>
   rw[ht]at h2;have:=ih r' q (i+1) (k+1) (h.tk ht) h2;rw[List.length_cons,show k+(l.length+1)=k+1+l.length by omega];exact this
theorem XB {l:List UInt8}{q:R}(h:scan l=.inr q):Inv l.length q∧whole q=true:=by
 unfold scan at h
 cases hr:run r0 0 l with
 | inl i=>rw[hr]at h;simp at h
 | inr r =>
  rw[hr]at h;simp only at h
  cases hw:whole r with
  | false=>rw[hw]at h;simp at h
  | true =>
   rw[hw,if_pos rfl]at h
   obtain rfl:r=q:=by simpa using h
   refine⟨?_,hw⟩;have:=abv l r0 r 0 0 inv0 hr
   rwa [Nat.zero_add]at this
theorem Fz (n:Int) : -nM≤held n∧held n≤nM:=by unfold held nM;split <;> (try split) <;> omega
theorem Dc {l:List UInt8}{q:R}(h:scan l=.inr q)(hl:l.length≤4096):formed (toD q)=true:=by
 obtain⟨⟨h1,h2,h3,h4,h5,h6⟩,hw⟩:=XB h
 have hne:q.ds≠[]:=by
  rcases h6 with h6|h6|h6
  ·unfold whole at hw;rw[h6]at hw;simp at hw
  ·unfold whole at hw;rw[h6]at hw;simp at hw
  ·exact h6
 have hb:=Fz ((if q.eneg=true then -(q.exp:Int) else (q.exp:Int))-(q.beh:Int));unfold formed toD;have hd:decide (q.ds.length≤4096)=true:=decide_eq_true (by omega);simp only[Bool.false_eq_true,if_false,h1,hd,Bool.true_and,Bool.and_eq_true,Bool.not_eq_true',List.isEmpty_eq_false_iff,decide_eq_true_iff];exact⟨hne,hb⟩
theorem FB {l:List UInt8}{d:D}(h:vw l=.ok d):ale d:=by
 unfold vw at h
 split at h
 ·cases h
 ·split at h
  ·split at h
   ·cases h
   ·obtain rfl:dN=d:=by simpa using h
    exact .inl rfl
  ·cases hs:scan l with
   | inl p=>rw[hs]at h;simp at h
   | inr q =>
    rw[hs]at h
    obtain rfl:nrm (toD q)=d:=by simpa using h
    exact BK (Dc hs (by omega))
theorem JR (l:List UInt8):wordAt l≤3∧wordAt l≤l.length:=by
 rcases l with _|⟨a,_|⟨b,_|⟨c,l⟩⟩⟩ <;> unfold wordAt <;> simp only[hd,List.drop_succ_cons,List.drop_zero,List.drop_nil,List.length_cons,List.length_nil,Bool.false_eq_true,if_false] <;> (repeat' split) <;> omega
end Go.Proofs.Yy.SC
end
