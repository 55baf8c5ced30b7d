/- Part 25. -/
import Derived.Laws.Strings2
import Derived.Laws.RangeString
import Derived.Test.YtpfnkbnepcchgaaGreatDoorKTPU
import Derived.Test.YtpfnkbnepcchgaaGreatDoorKTPX
set_option linter.unusedSimpArgs false
set_option linter.unusedVariables false
section
namespace Go.Proofs.Yy.PTx
open Go.RowKit Go.Proofs.Yw.PrintWords Go.Proofs.Yw.PrintLast Go.Proofs.Yw.PrintMore Go.Proofs.Yy.M Go.Proofs.Yy.NM
attribute [local irreducible] fK iD iV jY val
theorem Tu {A C:Int}:Nu A C≤0 ↔ A≤C:=by
 unfold Nu
 by_cases h:A<C
 ·rw[if_pos h];constructor <;> omega
 ·rw[if_neg h]
  by_cases h2:A=C
  ·rw[if_pos h2];constructor <;> omega
  ·rw[if_neg h2];constructor <;> omega
theorem agb {l x6:List Int}{C:Int}(hC:0<C){n:Nat}(hCn:C<pw D n)(hn:n≤1073741824){i:Nat}(hi:i<x6.length)(hi1:i≤1073741824){R:Int}(hR0:0≤R)(hR1:R<D*C){res:List Int × List Int}
  (next:Ev (fun k=>aH.l0 k l (enc D C) (x6.set i (R / C)) (enc D (R % C)) ((i:Int)-1)) res) :
  ∀ (m:Nat) (low high:Int),(high-low).toNat≤m→0≤low→low<high→high≤D→low*C≤R→R<high*C →
   Ev (fun k=>aH.l1 k l (enc D C) x6 (enc D R) (i:Int) low high) res:=by
 have htm:∀ q,0≤q→q≤D→C*q<pw D (n+1):=by
  intro q h0 h1;rw[eU];have h2:C*q≤C*D:=Int.mul_le_mul_of_nonneg_left h1 (by omega);have h3:C*D<pw D n*D:=Int.mul_lt_mul_of_pos_right hCn nS
  omega
 have htl:∀ q,0≤q→q≤D→(enc D (C*q)).length≤n+1:=fun q h0 h1=>mf D1 (htm q h0 h1)
 have hRl:(enc D R).length≤n+1:=by
  refine mf D1 ?_;rw[eU,Int.mul_comm];exact Int.lt_of_lt_of_le hR1 (Int.mul_le_mul_of_nonneg_left (by omega) (Int.le_of_lt nS))
 intro m
 induction m with
 | zero=>intro low high hm;omega
 | succ m ih =>
  intro low high hm l0 l1 hD hl hh;have hDn:D=16777216:=vY
  by_cases h1:high-low > 1
  ·have hw1:ae (wrap64 (high-low)=high-low):=⟨w64 (by omega) (by omega)⟩
   have hw2:ae (wrap64 (Int.tdiv (wrap64 (low+high)) 2)=(low+high) / 2):=⟨by rw[w64 (x:=low+high) (by omega) (by omega),Int.tdiv_eq_ediv_of_nonneg (by omega),w64 (by omega) (by omega)]⟩
   have ht:=vX (A:=C) (q:=(low+high) / 2) (by omega) (by omega) (by omega) (htm _ (by omega) (by omega)) (by omega);have hp:0≤C*((low+high) / 2):=Int.mul_nonneg (by omega) (by omega);have hc:=aaG hp hR0 (by have:=htl ((low+high) / 2) (by omega) (by omega);omega);refine Ev.congr (f:=fun k=>aH.l1 k l (enc D C) x6 (enc D R) (i:Int) low high) (fun k=>rfl) ?_;refine Ev.step (f:=fun k=>(aJ.f k (enc D C) ((low+high) / 2)).bind fun t=>(bZ.f k t (enc D R)).bind fun c=>if c≤0 then aH.l1 k l (enc D C) x6 (enc D R) (i:Int) ((low+high) / 2) high else aH.l1 k l (enc D C) x6 (enc D R) (i:Int) low ((low+high) / 2)) (fun k=>?_) (Ev.bind ht (Ev.bind hc ?_))
   ·simp only[aH.l1]
    rw[hw1.out,hw2.out,if_pos h1]
   ·by_cases hle:C*((low+high) / 2)≤R
    ·refine Ev.congr (fun k=>by rw[if_pos (Tu.2 hle)]) (ih ((low+high) / 2) high (by omega) (by omega) (by omega) hD (by rw[Int.mul_comm];exact hle) hh)
    ·refine Ev.congr (fun k=>by rw[if_neg (fun h=>hle (Tu.1 h))]) (ih low ((low+high) / 2) (by omega) l0 (by omega) (by omega) hl (by rw[Int.mul_comm];omega))
  ·obtain rfl:high=low+1:=by omega
   rw[Int.add_mul,Int.one_mul]at hh;obtain⟨e1,e2⟩:=xN (a:=R) (y:=C) (q:=low) (t:=R-low*C) (by omega) (by omega) (by omega);rw[e1,e2]at next
   have hw1:ae (wrap64 (low+1-low)=1):=⟨by rw[w64 (by omega) (by omega)];omega⟩
   have hw3:ae (wrap64 ((i:Int)-1)=(i:Int)-1):=⟨w64 (by omega) (by omega)⟩
   have ht:=vX (A:=C) (q:=low) (by omega) l0 (by omega) (htm _ l0 (by omega)) (by omega);have hp:0≤C*low:=Int.mul_nonneg (by omega) l0;rw[Int.mul_comm]at hl;have hs:=abU hR0 hp hl (by omega);rw[Int.mul_comm low]at next;refine Ev.step (f:=fun k=>(aJ.f k (enc D C) low).bind fun t=>(di.f k (enc D R) t).bind fun u=>aH.l0 k l (enc D C) (x6.set i low) u ((i:Int)-1)) (fun k=>?_) (Ev.bind ht (Ev.bind hs next));simp only[aH.l1];rw[hw1.out,hw3.out,if_neg (by omega),if_pos (by omega),if_pos (by omega),Int.toNat_natCast]
theorem agD {l:List Int}(hl:Dig D l)(hL:l.length≤1073741824){C:Int}(hC:0<C){n:Nat}(hCn:C<pw D n)(hn:n≤1073741823):∀ (i:Nat) (x:List Int) (r:Int),i≤l.length→x.length=l.length→Dig D x→0≤r→r<C→val D (l.drop i)=val D (x.drop i)*C+r →
  Ev (fun k=>aH.l0 k l (enc D C) x (enc D r) ((i:Int)-1)) (enc D (val D l / C),enc D (val D l % C)):=by
 intro i
 induction i with
 | zero =>
  intro x r hi hx hd r0 r1 hv;rw[List.drop_zero,List.drop_zero]at hv;obtain⟨e1,e2⟩:=xN hv r0 r1;rw[e1,e2];refine Ev.step (f:=fun k=>(aW.f k x).bind fun t=>some (t,enc D r)) (fun k=>?_) (Ev.bind (Dj hd (by omega)) (Ev.now _));simp only[aH.l0];rw[if_neg (by omega)]
 | succ i ih =>
  intro x r hi hx hd r0 r1 hv;have hg:=hl.get nS i;have hrl:(enc D r).length≤n:=mf D1 (by omega);have hdn:Dig D ([l.getD i 0]++enc D r):=Dig.append (Dig.cons hg.1 hg.2 (Dig.nil D)) (fO D1 r);have hcut:=Dj hdn (by simp only[List.length_append,List.length_cons,List.length_nil];omega)
  have hval:val D ([l.getD i 0]++enc D r)=l.getD i 0+D*r:=by rw[List.singleton_append,jh,fB D1 r0]
  rw[hval]at hcut
  have hlt:i<x.length:=by omega
  have aMw:0≤D*r:=Int.mul_nonneg (Int.le_of_lt nS) r0;have aGK:D*(r+1)≤D*C:=Int.mul_le_mul_of_nonneg_left (by omega) (Int.le_of_lt nS);rw[Int.mul_add,Int.mul_one]at aGK;have he:=Int.mul_ediv_add_emod (l.getD i 0+D*r) C;have q0:0≤(l.getD i 0+D*r) / C:=Int.ediv_nonneg (by omega) (by omega);have q1:(l.getD i 0+D*r) / C<D:=Int.ediv_lt_of_lt_mul hC (by omega);have t0:=Int.emod_nonneg (l.getD i 0+D*r) (show C≠0 by omega);have t1:=Int.emod_lt_of_pos (l.getD i 0+D*r) hC
  have key:=agb (l:=l) (x6:=x) hC hCn (by omega) hlt (by omega) (show 0≤l.getD i 0+D*r by omega) (by omega) (ih (x.set i ((l.getD i 0+D*r) / C)) ((l.getD i 0+D*r) % C) (by omega) (by simpa using hx) (hd.set q0 q1) t0 t1 (by
   rw[uK x i _ hlt,Af l i (by omega),jh,jh]
   exact FC (by rw[Int.mul_comm r,Int.add_comm (D*r),Int.mul_comm _ C];omega) hv)) (D-0).toNat 0 D (Nat.le_refl _) (Int.le_refl _) nS (Int.le_refl _) (by omega) (by omega)
  have hi1:ae (((i+1:Nat):Int)-1=(i:Int)):=⟨by omega⟩
  rw[show D=16777216 from vY]at key;refine Ev.step (f:=fun k=>(aW.f k ([l.getD i 0]++enc D r)).bind fun t=>aH.l1 k l (enc D C) x t (i:Int) 0 16777216) (fun k=>?_) (Ev.bind hcut (by rw[show D=16777216 from vY];exact key));simp only[aH.l0];rw[hi1.out,if_pos (by omega),if_pos (by omega),if_pos (by omega),eP];simp only[Option.bind_some];rw[if_pos (by simp only[List.length_cons,List.length_nil];omega)]
theorem Px {A C:Int}(hA:0≤A)(hC:0<C)(hLA:(enc D A).length≤1073741824)(hLC:(enc D C).length≤1073741823):Ev (fun k=>aH.f k (enc D A) (enc D C)) (enc D (A / C),enc D (A % C)):=by
 have hCn:=kM nS (fO D1 C);rw[fB D1 (Int.le_of_lt hC)]at hCn;have:=agD (fO D1 A) hLA hC hCn hLC (enc D A).length (List.replicate (enc D A).length 0) 0 (Nat.le_refl _) (by simp) (Dig.zeros nS _) (Int.le_refl _) hC (by simp[val]);rw[fB D1 hA,eQ]at this;refine Ev.congr (fun k=>?_) this;unfold aH.f;rw[if_pos (by omega),Int.toNat_natCast,if_pos (by omega),w64 (by omega) (by omega)]
theorem Dq {b n:Int}(hb:1<b)(h:0<n):0<(enc b n).length:=(qE hb (Int.le_of_lt h) 0).2 (by rw[fH];exact h)
def dgt (c:UInt8):Bool:=decide (48≤c.toNat) && decide (c.toNat≤57)
def lead:List UInt8→Nat
 | []=>0
 | c::r=>if dgt c=true then lead r+1 else 0
theorem Xj {l:List UInt8}(h:∀ c ∈ l,dgt c=true):lead l=l.length:=by
 induction l with
 | nil=>rfl
 | cons c r ih =>
  unfold lead;rw[if_pos (h c List.mem_cons_self),ih (fun x hx=>h x (List.mem_cons_of_mem _ hx)),List.length_cons]
theorem decode_high (s:ByteArray)(i:Nat)(h:¬ (s.get! i).toNat<128):128≤(Utf8.decode s i).1:=by
 unfold Utf8.decode Utf8.runeError;simp only[Nat.add_zero]
 repeat' split
 all_goals first|omega|(dsimp only;omega)|(simp_all;done)|(simp_all;omega)
theorem EQ {c:UInt8}(h:¬ dgt c=true):lZ c.toNat=true:=by
 unfold lZ dgt at *
 by_cases h1:c.toNat<48
 ·simp[h1]
 ·by_cases h2:57<c.toNat
  ·simp[h2]
  ·exact absurd (by simp;omega) h
theorem O3 {c:UInt8}(h:dgt c=true):lZ c.toNat=false:=by
 unfold lZ dgt at *;simp at h ⊢
 omega
theorem Yh (l:List UInt8):∀ (f pos:Nat),l.length≤pos+f→Lib.idxFuncFrom lZ true (mkB l) f pos=if pos+lead (l.drop pos)<l.length then ((pos+lead (l.drop pos):Nat):Int) else -1:=by
 intro f
 induction f with
 | zero =>
  intro pos h;rw[List.drop_of_length_le (by omega)];unfold Lib.idxFuncFrom;rw[if_neg (by simp[lead];omega)]
 | succ f ih =>
  intro pos h;unfold Lib.idxFuncFrom;rw[bH]
  by_cases hp:pos<l.length
  ·have hps:pos<(mkB l).size:=by rw[bH];exact hp
   obtain⟨c,hc⟩:∃ c,l[pos]'hp=c:=⟨_,rfl⟩
   have hdrop:l.drop pos=c::l.drop (pos+1):=by rw[← hc];exact List.drop_eq_getElem_cons hp
   have hgc:(mkB l)[pos]'hps=c:=hc;rw[if_pos hp,hdrop]
   by_cases hd:dgt c=true
   ·have h128:c.toNat<128:=by
     have hd2:=hd;unfold dgt at hd2;simp at hd2;omega
    rw[decode_ascii (mkB l) pos hps (by rw[hgc];exact h128)];dsimp only;rw[hgc,O3 hd,if_neg (by decide),ih (pos+1) (by omega)]
    have e:lead (c::l.drop (pos+1))=lead (l.drop (pos+1))+1:=by rw[lead,if_pos hd]
    rw[e,show pos+(lead (l.drop (pos+1))+1)=pos+1+lead (l.drop (pos+1)) by omega]
   ·have hn:lZ (Utf8.decode (mkB l) pos).1=true:=by
     by_cases h128:c.toNat<128
     ·rw[decode_ascii (mkB l) pos hps (by rw[hgc];exact h128)]
      dsimp only;rw[hgc];exact EQ hd
     ·have hg:(mkB l).get! pos=(mkB l)[pos]'hps:=by
       show (mkB l).data[pos]! = _;rw[getElem!_pos (mkB l).data pos hps];rfl
      have:=decode_high (mkB l) pos (by rw[hg,hgc];exact h128);unfold lZ;simp
      omega
    rw[hn,if_pos rfl]
    have e:lead (c::l.drop (pos+1))=0:=by rw[lead,if_neg hd]
    rw[e,Nat.add_zero,if_pos hp]
  ·rw[if_neg hp,List.drop_of_length_le (by omega),if_neg (by simp[lead];omega)]
theorem XK (l:List UInt8):Lib.idxFuncFrom lZ true (mkB l) (mkB l).size 0=if lead l<l.length then ((lead l:Nat):Int) else -1:=by
 have h:=Yh l (mkB l).size 0 (by rw[bH];omega);rw[List.drop_zero,Nat.zero_add]at h;exact h
theorem amE (s:ByteArray):strings_IndexFunc.f s=some (Lib.idxFuncFrom lZ true s s.size 0):=by unfold strings_IndexFunc.f Lib.idxFunc;exact congrArg some rfl
theorem aby (l:List UInt8):strings_IndexFunc.f (mkB l)=some (if lead l<l.length then ((lead l:Nat):Int) else -1):=(amE _).trans (congrArg some (XK l))
def tJ (V:Nat)(l:List UInt8):Nat:=l.foldl (fun a c=>a*10+(c.toNat-48)) V
theorem rP (V:Nat)(c:UInt8)(r:List UInt8):tJ V (c::r)=tJ (V*10+(c.toNat-48)) r:=by unfold tJ;rw[List.foldl_cons]
theorem KU (V:Nat)(a b:List UInt8):tJ V (a++b)=tJ (tJ V a) b:=by unfold tJ;rw[List.foldl_append]
theorem abY (l:List UInt8):∀ V,V≤tJ V l:=by
 induction l with
 | nil=>intro V;exact Nat.le_refl _
 | cons c r ih=>intro V;rw[rP];have:=ih (V*10+(c.toNat-48));omega
theorem FW (l:List UInt8):∀ V,tJ V l=V*10 ^ l.length+tJ 0 l:=by
 induction l with
 | nil=>intro V;simp[tJ]
 | cons c r ih =>
  intro V;rw[rP,rP,ih,ih (0*10+(c.toNat-48)),List.length_cons,Nat.pow_succ];have e1:(V*10+(c.toNat-48))*10 ^ r.length=V*10*10 ^ r.length+(c.toNat-48)*10 ^ r.length:=Nat.add_mul ..
  have e2:(0*10+(c.toNat-48))*10 ^ r.length=(c.toNat-48)*10 ^ r.length:=by rw[Nat.zero_mul,Nat.zero_add]
  have e3:V*(10 ^ r.length*10)=V*10*10 ^ r.length:=by rw[Nat.mul_comm (10 ^ r.length),Nat.mul_assoc]
  rw[e1,e2,e3]
  omega
theorem RD {l:List UInt8}(h:∀ c ∈ l,dgt c=true):tJ 0 l<10 ^ l.length:=by
 induction l with
 | nil=>simp[tJ]
 | cons c r ih =>
  have hc:=h c List.mem_cons_self;have hr:=ih (fun x hx=>h x (List.mem_cons_of_mem _ hx));rw[rP,FW,List.length_cons,Nat.pow_succ];unfold dgt at hc;simp at hc;have h9:(0*10+(c.toNat-48))*10 ^ r.length≤9*10 ^ r.length:=Nat.mul_le_mul_right _ (by omega)
  omega
theorem X6 (M:Nat)(hM:M≤18446744073709551615)(l:List UInt8):∀ acc,(∀ c ∈ l,dgt c=true)→tJ acc l≤M→Lib.parseUintM M acc l=.ok (tJ acc l):=by
 induction l with
 | nil=>intro acc _ _;rfl
 | cons c r ih =>
  intro acc hd hle;have hc:=hd c List.mem_cons_self;unfold dgt at hc;simp at hc;rw[rP]at hle;have hge:=abY r (acc*10+(c.toNat-48));unfold Lib.parseUintM;rw[if_pos hc,if_neg (by omega),if_neg (by omega),ih _ (fun x hx=>hd x (List.mem_cons_of_mem _ hx)) hle,rP]
theorem KL {l:List UInt8}(h:∀ c ∈ l,dgt c=true)(h0:l≠[])(h19:l.length≤19):iy.f (mkB l) 10 64=some ((tJ 0 l:Int),none):=by
 have hlt:=RD h;have hp:10 ^ l.length≤10 ^ 19:=Nat.pow_le_pow_right (by decide) h19
 have e19:(10:Nat) ^ 19=10000000000000000000:=by decide
 unfold iy.f;rw[if_pos ⟨rfl,rfl,by rw[bH];omega⟩]
 have hpu:Lib.parseUintB 64 (mkB l).data.toList=.ok (tJ 0 l):=by
  rw[yZ];unfold Lib.parseUintB;rw[if_neg h0];exact X6 _ (by decide) l 0 h (by omega)
 rw[hpu]
theorem Po (s:ByteArray)(x5:List Int)(n v:Int)(nn:Nat)(h19:nn≤19)(R:List Int × Option Int)
  (next:Ev (fun k=>(dI.f k x5 [pw 10 nn]).bind fun t=>(uk.f k v).bind fun u=>(gz.f k t u).bind fun z=>(if 0≤n then (if n≤(s.size:Int) then gq.l0 k (s.extract n.toNat s.size) z else none) else none)) R) :
  ∀ (d i:Nat),i+d=nn→Ev (fun k=>gq.l1 k s x5 n v (pw 10 i) (nn:Int) (i:Int)) R:=by
 intro d
 induction d with
 | zero =>
  intro i hi
  obtain rfl:i=nn:=by omega
  refine Ev.step (fun k=>?_) next;simp only[gq.l1];rw[if_neg (by omega)]
 | succ d ih =>
  intro i hi
  have hw:ae (wrap64 ((i:Int)+1)=((i+1:Nat):Int)):=⟨by rw[w64 (by omega) (by omega)];omega⟩
  have hp0:=yN i
  have hp:pw 10 i*10≤10000000000000000000:=by
   rw[← GL, ← eU];exact EL (by decide) (by omega)
  have hw2:ae (IntKind.u64.wrap (pw 10 i*10)=pw 10 (i+1)):=⟨by rw[tV (by omega) (by omega),eU]⟩
  refine Ev.step (fun k=>?_) (ih (i+1) (by omega));simp only[gq.l1];rw[if_pos (by omega),hw.out,hw2.out]
theorem aaI:∀ (m:Nat) (l:List UInt8) (V:Int),(∀ c ∈ l,dgt c=true)→l.length≤m→0≤V→(enc B V).length+l.length≤1073741824 →
  Ev (fun k=>gq.l0 k (mkB l) (enc B V)) (enc B (V*pw 10 l.length+(tJ 0 l:Int)),none):=by
 intro m
 induction m with
 | zero =>
  intro l V hd hl hV hL;obtain rfl:l=[]:=List.length_eq_zero_iff.1 (by omega);refine Ev.step (f:=fun _=>some (enc B V,none)) (fun k=>?_) (by rw[List.length_nil,iU,Int.mul_one];exact (by simp[tJ];exact Ev.now _));simp only[gq.l0];rw[bH,if_neg (by simp)]
 | succ m ih =>
  intro l V hd hl hV hL
  by_cases h0:l=[]
  ·subst h0
   refine Ev.step (f:=fun _=>some (enc B V,none)) (fun k=>?_) (by rw[List.length_nil,iU,Int.mul_one];exact (by simp[tJ];exact Ev.now _));simp only[gq.l0];rw[bH,if_neg (by simp)]
  ·have hlp:0<l.length:=List.length_pos_iff.2 h0
   obtain⟨n,hn⟩:∃ n:Nat,n=min l.length 19:=⟨_,rfl⟩
   have hmn:mn ((mkB l).size:Int) 19=(n:Int):=by rw[bH];unfold mn;split <;> omega
   have hda:∀ c ∈ l.take n,dgt c=true:=fun c hc=>hd c (List.mem_of_mem_take hc);have hdb:∀ c ∈ l.drop n,dgt c=true:=fun c hc=>hd c (List.mem_of_mem_drop hc)
   have hla:(l.take n).length=n:=by rw[List.length_take];omega
   have hpc:=KL hda (by intro h;rw[h]at hla;simp at hla;omega) (by omega)
   have hext:(mkB l).extract 0 n=mkB (l.take n):=by
    unfold mkB;rw[ByteArray.extract_mk,List.drop_zero,Nat.sub_zero]
   have auf:(mkB l).extract n l.length=mkB (l.drop n):=by
    unfold mkB;rw[ByteArray.extract_mk,List.take_of_length_le (by rw[List.length_drop];omega)]
   have hlt:=RD hda;rw[hla]at hlt
   have hvB:((tJ 0 (l.take n):Nat):Int)<B:=by
    have hp:10 ^ n≤10 ^ 19:=Nat.pow_le_pow_right (by decide) (by omega)
    have e19:(10:Nat) ^ 19=10000000000000000000:=by decide
    rw[ug];omega
   have hsB:pw 10 n<B:=by
    have:=EL (b:=10) (by decide) (show n≤19 by omega);rw[GL]at this;rw[ug];omega
   have hs0:=yN n;have ht:=BM (fO B1 V) (GK (b:=B) (Int.le_of_lt hs0) hsB) (by simp;omega);rw[fB B1 hV,Hu]at ht;have hVs:0≤V*pw 10 n:=Int.mul_nonneg hV (Int.le_of_lt hs0)
   have hl1:(enc B (V*pw 10 n)).length≤(enc B V).length+1:=by
    refine mf B1 ?_;rw[eU];have h1:=kM jm (fO B1 V);rw[fB B1 hV]at h1;have h2:V*pw 10 n≤V*B:=Int.mul_le_mul_of_nonneg_left (Int.le_of_lt hsB) hV;have h3:V*B<pw B (enc B V).length*B:=Int.mul_lt_mul_of_pos_right h1 jm
    omega
   have hof:=ZB (v:=((tJ 0 (l.take n):Nat):Int)) (by omega) hvB;have hl2:(enc B ((tJ 0 (l.take n):Nat):Int)).length≤1:=mf B1 (by rw[ZP];exact hvB);have hpl:=abx (fO B1 (V*pw 10 n)) (fO B1 ((tJ 0 (l.take n):Nat):Int)) (by omega) (by omega);rw[fB B1 hVs,fB B1 (by omega)]at hpl
   have hnew:0≤V*pw 10 n+((tJ 0 (l.take n):Nat):Int):=by omega
   have hl3:(enc B (V*pw 10 n+((tJ 0 (l.take n):Nat):Int))).length≤(enc B V).length+1:=by
    refine mf B1 ?_;rw[eU];have h1:=kM jm (fO B1 V);rw[fB B1 hV]at h1
    have h4:((tJ 0 (l.take n):Nat):Int)<pw 10 n:=by
     rw[ui]
     have e:((10 ^ n:Nat):Int)=(10:Int) ^ n:=by simp
     omega
    have h5:(V+1)*pw 10 n≤pw B (enc B V).length*pw 10 n:=Int.mul_le_mul_of_nonneg_right (by omega) (Int.le_of_lt hs0);have h6:pw B (enc B V).length*pw 10 n≤pw B (enc B V).length*B:=Int.mul_le_mul_of_nonneg_left (Int.le_of_lt hsB) (Int.le_of_lt (jQ jm _));rw[Int.add_mul,Int.one_mul]at h5
    omega
   have key:=ih (l.drop n) _ hdb (by rw[List.length_drop];omega) hnew (by rw[List.length_drop];omega)
   have hfin:(V*pw 10 n+((tJ 0 (l.take n):Nat):Int))*pw 10 (l.drop n).length+((tJ 0 (l.drop n):Nat):Int)=V*pw 10 l.length+((tJ 0 l:Nat):Int):=by
    have e1:l.length=n+(l.drop n).length:=by rw[List.length_drop];omega
    have e2:tJ 0 l=tJ 0 (l.take n)*10 ^ (l.drop n).length+tJ 0 (l.drop n):=by
     rw[← FW, ← KU,List.take_append_drop]
    have e3:((10 ^ (l.drop n).length:Nat):Int)=pw 10 (l.drop n).length:=by rw[ui];simp
    rw[e2,Int.natCast_add,Int.natCast_mul,e3,e1,qG];simp only[List.length_drop]
    grind
   rw[hfin]at key
   have hsc:=Po (mkB l) (enc B V) (n:Int) ((tJ 0 (l.take n):Nat):Int) n (by omega) (enc B (V*pw 10 l.length+((tJ 0 l:Nat):Int)),none) (by
    refine Ev.bind ht (Ev.bind hof (Ev.bind hpl ?_));refine Ev.congr (fun k=>?_) key
    rw[if_pos (by omega),bH,if_pos (by omega),Int.toNat_natCast,auf]) n 0 (by omega)
   rw[iU]at hsc;refine Ev.step (fun k=>?_) hsc;simp only[gq.l0];rw[hmn,bH,if_pos (by omega),if_pos (by omega),if_pos (by omega),Int.toNat_natCast,hext,hpc];simp only[Option.bind_some];rw[if_pos (by rfl)]
   rfl
theorem WX {l:List UInt8}(hd:∀ c ∈ l,dgt c=true)(h0:l≠[])(hl:l.length≤4096):Ev (fun k=>gq.f k (mkB l)) (enc B (tJ 0 l:Int),none):=by
 have h:=aaI l.length l 0 hd (Nat.le_refl _) (Int.le_refl _) (by rw[eQ];simp;omega);rw[Int.zero_mul,Int.zero_add,eQ]at h;refine Ev.congr (f:=fun k=>gq.j0 k (mkB l) (-1)) (fun k=>?_) (Ev.step (fun k=>?_) h)
 ·unfold gq.f
  rw[bH,if_neg (by omega),aby,if_neg (by rw[Xj hd];omega)];simp only[Option.bind_some];rw[if_neg (by rw[Lib.toList_data,yZ];exact h0)]
 ·simp only[gq.j0]
  rw[if_neg (by decide)]
end Go.Proofs.Yy.PTx
end
section
namespace Go.Proofs.Yy.PTx
open Go.RowKit Go.Proofs.Yw.PrintWords Go.Proofs.Yw.PrintLast Go.Proofs.Yw.PrintMore Go.Proofs.Yy.M Go.Proofs.Yy.TA Go.Proofs.Yy.NM
open Go.Proofs.Yy.SC (D)
attribute [local irreducible] fK iD iV jY val
theorem XV (n:Nat):pw 10 n=((10 ^ n:Nat):Int):=by rw[ui,Int.natCast_pow];rfl
theorem Jl (l:List UInt8):tJ 0 l=xx l:=rfl
theorem vT {V:Nat}(h:0<V):∃ b,1≤b∧V<2 ^ b∧2 ^ (b-1)≤V∧bl (V:Int)=b:=by
 refine⟨V.log2+1,by omega,Nat.lt_log2_self,?_,?_⟩
 ·rw[Nat.add_sub_cancel];exact Nat.log2_self_le (by omega)
 ·exact abD Nat.lt_log2_self (fun _=>by rw[Nat.add_sub_cancel];exact Nat.log2_self_le (by omega))
theorem vM {V b m:Nat}(hb1:1≤b)(h2:2 ^ (b-1)≤V)(h:V<2 ^ m):b≤m:=by
 apply Nat.le_of_not_lt
 intro hc;have:2 ^ m≤2 ^ (b-1):=Nat.pow_le_pow_right (by omega) (by omega)
 omega
theorem Ff (k:Nat):10 ^ k<2 ^ (4*k+1):=by
 have h:10 ^ k≤16 ^ k:=Nat.pow_le_pow_left (by omega) k;rw[show (16:Nat)=2 ^ 4 by rfl, ← Nat.pow_mul]at h;have:2 ^ (4*k)<2 ^ (4*k+1):=Nat.pow_lt_pow_right (by omega) (by omega)
 omega
theorem xC {a m n:Nat}(h1:a<2 ^ m)(h2:m≤n):a<2 ^ n:=Nat.lt_of_lt_of_le h1 (Nat.pow_le_pow_right Nat.two_pos h2)
theorem G8 {a c m n k:Nat}(h1:a<2 ^ m)(h2:c<2 ^ n)(h3:m+n=k):a*c<2 ^ k:=by
 rw[← h3,Nat.pow_add];exact Nat.mul_lt_mul_of_lt_of_lt h1 h2
def Told (f:Nat→Option (Int × Bool × Int × Int × Int × Bool × Option Int))(d:D):Prop :=
 ∃ (s:Int) (T:Nat) (c:Bool), -1000000≤s∧s≤1000000∧2 ^ 127≤T∧T<2 ^ 128∧Ev f (1,d.neg,s,hiI T,loI T,c,none)∧∀ n,8≤n→n≤64→Ny n s T c=QF n d
theorem Oe (neg:Bool){x:Int}(h1 : -1000000≤x)(h2:x≤1000000):Ev (fun k=>dM.f k neg 0 1 x false) (1,neg,x,hiI (2 ^ 127),loI (2 ^ 127),false,none):=by
 have h:=Rn (V:=1) (b:=1) (Nat.le_refl _) (by decide) (by decide) (by decide) neg false (by simp) h1 h2;rw[show hiI 1=0 by rfl,show loI 1=1 by rfl,show x+((1:Nat):Int)-1=x by omega,Nat.one_mul]at h;exact h
theorem Bc {v:Nat}:Dig B (enc B (v:Int)):=fO B1 _
theorem yG {v:Nat}:val B (enc B (v:Int))=(v:Int):=fB B1 (Int.natCast_nonneg v)
theorem y9 {v m:Nat}(h:v<2 ^ (64*m)):(enc B (v:Int)).length≤m:=mf B1 (by rw[pwB,QV];exact_mod_cast h)
theorem Xf {d:D}(hn:d.nar=false){c0:UInt8}{l0:List UInt8}(hd:d.ds=c0::l0)(hc0:49≤c0.toNat)(hg:∀ c ∈ d.ds,48≤c.toNat∧c.toNat≤57)(hl:d.ds.length≤4096)(he1 : -1000000≤d.e)(he2:d.e≤1000000) :
  Told (fun k=>ik.f k d.nar d.neg (mkB d.ds) d.e) d:=by
 have hl1:d.ds.length=l0.length+1:=by rw[hd];rfl
 obtain⟨A_,hA_⟩:∃ x:Nat,x=260:=⟨_,rfl⟩
 obtain⟨T_,hT_⟩:∃ x:Nat,x=270:=⟨_,rfl⟩
 obtain⟨U_,hU_⟩:∃ x:Nat,x=340:=⟨_,rfl⟩
 obtain⟨S_,hS_⟩:∃ x:Nat,x=600:=⟨_,rfl⟩
 obtain⟨X_,hX_⟩:∃ x:Nat,x=10:=⟨_,rfl⟩
 have hsz:((mkB d.ds).size:Int)=d.ds.length:=by rw[bH]
 by_cases h1:(100:Int)<d.ds.length+d.e
 ·refine⟨1000,2 ^ 127,false,by omega,by omega,by decide,by decide,?_,fun n h8 h64=>by rw[(NZ h8 h64 _ _).1,Jp h64 hd hc0 (by omega)]⟩
  unfold ik.f;rw[hsz,qh (by omega) (by omega)];simp only[show (d.ds.length:Int)+d.e > 100 from h1,if_true];exact Ev.bind (Oe _ (by omega) (by omega)) (Ev.now _)
 by_cases h2:(d.ds.length:Int)+d.e < -100
 ·refine⟨-1000,2 ^ 127,false,by omega,by omega,by decide,by decide,?_,fun n h8 h64=>by rw[(NZ h8 h64 _ _).2,Nv (by omega) h64 hd hc0 hg (by omega)]⟩
  unfold ik.f;rw[hsz,qh (by omega) (by omega)];simp only[show ¬ ((d.ds.length:Int)+d.e > 100) by omega,show (d.ds.length:Int)+d.e < -100 from h2,if_true,if_false];exact Ev.bind (Oe _ (by omega) (by omega)) (Ev.now _)
 have hdg:∀ c ∈ d.ds,dgt c=true:=fun c hc=>by unfold dgt;rw[decide_eq_true (hg c hc).1,decide_eq_true (hg c hc).2];rfl
 have hread:=WX hdg (by rw[hd];simp) hl;rw[Jl]at hread
 have hm0:0<xx d.ds:=by
  have:=yQ (l:=l0) hc0;rw[← hd]at this;have:=Nat.pow_pos (a:=10) (n:=l0.length) (by decide)
  omega
 have hmlt:xx d.ds<2 ^ (64*A_):=by
  have h3:=GI d.ds 0 hg;rw[Nat.zero_add,Nat.one_mul]at h3;have h4:xx d.ds<10 ^ d.ds.length:=h3;have h5:=Ff d.ds.length;exact xC (Nat.lt_trans h4 h5) (by omega)
 by_cases he:0≤d.e
 ·obtain⟨k,hk⟩:=Int.eq_ofNat_of_zero_le he
  have aMx:k≤99:=by omega
  have hmx:mx d.e (wrap64 (-d.e))=(k:Int):=by rw[qh (by omega) (by omega)];unfold mx;split <;> omega
  have hten:=TL k (by omega);rw[XV]at hten
  have hV:Ad d=xx d.ds*10 ^ k:=by unfold Ad;rw[hk,Int.toNat_natCast]
  have hC:JK d=1:=by unfold JK;rw[show (-d.e).toNat=0 by omega,Nat.pow_zero]
  have hp:=Nat.pow_pos (a:=10) (n:=k) (by decide)
  have hV0:0<Ad d:=by rw[hV];exact Nat.mul_pos hm0 hp
  have htlt:10 ^ k<2 ^ (64*X_):=xC (Ff k) (by omega)
  have hVlt:Ad d<2 ^ (64*T_):=by
   rw[hV];exact G8 hmlt htlt (by omega)
  have hmul:Ev (fun n=>l7.f n [enc B (xx d.ds:Int),enc B ((10 ^ k:Nat):Int)]) (enc B (Ad d:Int)):=by
   have h:=agu (l := [enc B (xx d.ds:Int),enc B ((10 ^ k:Nat):Int)]) (by intro x hx;simp only[List.mem_cons,List.mem_nil_iff,or_false]at hx;rcases hx with rfl|rfl <;> exact Bc) (by
    have a1:=y9 hmlt;have a2:=y9 htlt;simp only[List.map_cons,List.map_nil,List.sum_cons,List.sum_nil,List.length_cons,List.length_nil]
    omega)
   unfold agn at h;simp only[List.foldl_cons,List.foldl_nil,yG,Int.one_mul]at h;rw[← Int.natCast_mul, ← hV]at h;exact h
  obtain⟨b,hb1,hb2,hb3,_⟩:=vT hV0;have hbb:=vM hb1 hb3 hVlt;have hup:=Np (a:=enc B (Ad d:Int)) Bc (Nat.le_trans (y9 hVlt) (by omega)) yG hb1 hb2 hb3 d.neg false (by simp) (by omega) (x:=0) (by omega) (by omega);obtain⟨t1,t2⟩:=xO hb1 hb2 hb3;refine⟨0+b-1,Ku (Ad d) b,false || decide (Ad d % 2 ^ (b-64)≠0),by omega,by omega,t1,t2,?_,fun n h8 h64=>?_⟩
  ·unfold ik.f
   rw[hsz,qh (by omega) (by omega)];simp only[show ¬ ((d.ds.length:Int)+d.e > 100) by omega,show ¬ ((d.ds.length:Int)+d.e < -100) by omega,if_false,hmx];refine Ev.bind hread ?_;simp only[Option.isNone_none,if_true];refine Ev.bind hten ?_;simp only[Option.isNone_none,if_true,show d.e≥0 from he];refine Ev.bind hmul ?_;exact Ev.bind hup (Ev.now _)
  ·have h:=Oy (n:=n) (N:=Ad d) (C:=JK d) (u:=0) (q:=Ad d) (r:=0) (b:=b) h8 h64 (uD d) (by rw[hC];simp) (uD d) hb1 hb2 hb3 (by simp)
   unfold QF;rw[← h]
   rfl
 ·obtain⟨k,hk⟩:=Int.eq_ofNat_of_zero_le (show 0 ≤ -d.e by omega)
  have hk1:k≤4196:=by omega
  have hmx:mx d.e (wrap64 (-d.e))=(k:Int):=by rw[qh (by omega) (by omega)];unfold mx;split <;> omega
  have hten:=TL k (by omega);rw[XV]at hten
  have hN:Ad d=xx d.ds:=by unfold Ad;rw[show d.e.toNat=0 by omega,Nat.pow_zero,Nat.mul_one]
  have hC:JK d=10 ^ k:=by unfold JK;rw[hk,Int.toNat_natCast]
  have hp:=Nat.pow_pos (a:=10) (n:=k) (by decide);have htlt:10 ^ k<2 ^ (64*T_):=xC (Ff k) (by omega);obtain⟨bm,m1,m2,m3,m4⟩:=vT hm0;obtain⟨bt_,t1,t2,t3,t4⟩:=vT hp;have bm1:=vM m1 m3 hmlt;have bt1:=vM t1 t3 htlt
  obtain⟨up,hup⟩:∃ up,bt_+66-bm=up:=⟨_,rfl⟩
  have humx:mx 0 (wrap64 (wrap64 ((bt_:Int)-(bm:Int))+66))=(up:Int):=by
   rw[qh (x:=(bt_:Int)-(bm:Int)) (by omega) (by omega),qh (by omega) (by omega)];unfold mx
   split <;> omega
  have hbt:=Gw (a:=enc B ((10 ^ k:Nat):Int)) Bc (Nat.le_trans (y9 htlt) (by omega));have hbm:=Gw (a:=enc B (xx d.ds:Int)) Bc (Nat.le_trans (y9 hmlt) (by omega));rw[yG,t4]at hbt;rw[yG,m4]at hbm;have hshl:=acy (a:=enc B (xx d.ds:Int)) Bc (Nat.le_trans (y9 hmlt) (by omega)) up (by omega);rw[yG,QV, ← Int.natCast_mul]at hshl
  have hnlt:xx d.ds*2 ^ up<2 ^ (64*S_):=by
   have h3:2 ^ up<2 ^ (up+1):=by rw[Nat.pow_succ];have:=two_pos up;omega
   exact G8 hmlt (xC (n:=64*U_) h3 (by omega)) (by omega)
  have hdiv:=ab5 (a:=enc B ((xx d.ds*2 ^ up:Nat):Int)) (b:=enc B ((10 ^ k:Nat):Int)) Bc Bc (Nat.le_trans (y9 hnlt) (by omega)) (Nat.le_trans (y9 htlt) (by omega)) (by rw[yG];omega);rw[yG,yG, ← Int.natCast_ediv, ← Int.natCast_emod]at hdiv
  obtain⟨q,hq⟩:∃ q,xx d.ds*2 ^ up / 10 ^ k=q:=⟨_,rfl⟩
  obtain⟨r,hr⟩:∃ r,xx d.ds*2 ^ up % 10 ^ k=r:=⟨_,rfl⟩
  have hqr:xx d.ds*2 ^ up=10 ^ k*q+r:=by rw[← hq, ← hr];exact (Nat.div_add_mod _ _).symm
  have hrlt:r<10 ^ k:=by rw[← hr];exact Nat.mod_lt _ hp
  rw[hq,hr]at hdiv
  have aMy:2 ^ 65≤q:=by
   rw[← hq,Nat.le_div_iff_mul_le hp];have e1:2 ^ 65*10 ^ k≤2 ^ 65*2 ^ bt_:=Nat.mul_le_mul_left _ (Nat.le_of_lt t2)
   have e2:2 ^ 65*2 ^ bt_≤2 ^ (bm-1)*2 ^ up:=by
    rw[← Nat.pow_add, ← Nat.pow_add];exact Nat.pow_le_pow_right (by omega) (by omega)
   exact Nat.le_trans e1 (Nat.le_trans e2 (Nat.mul_le_mul_right _ m3))
  obtain⟨b,hb1,hb2,hb3,_⟩:=vT (V:=q) (by omega)
  have hb64:64≤b:=by
   apply Nat.le_of_not_lt
   intro hc;have:2 ^ b≤2 ^ 64:=Nat.pow_le_pow_right (by omega) (by omega)
   omega
  have hqlt:q<2 ^ (64*S_):=Nat.lt_of_le_of_lt (by rw[← hq];exact Nat.div_le_self _ _) hnlt;have hbb:=vM hb1 hb3 hqlt
  have hrest:decide (((enc B (r:Int)).length:Int) > 0)=decide (r≠0):=by
   apply decide_eq_decide.2
   constructor
   ·intro h h0
    rw[h0]at h;rw[show ((0:Nat):Int)=0 by rfl,eQ]at h;exact absurd h (by decide)
   ·intro h
    have:=Dq B1 (n:=(r:Int)) (by omega)
    omega
  have aGL:=Np (a:=enc B (q:Int)) Bc (Nat.le_trans (y9 hqlt) (by omega)) yG hb1 hb2 hb3 d.neg (decide (r≠0)) (fun _=>hb64) (by omega) (x := -(up:Int)) (by omega) (by omega);obtain⟨tt1,tt2⟩:=xO hb1 hb2 hb3;refine⟨-(up:Int)+b-1,Ku q b,decide (r≠0) || decide (q % 2 ^ (b-64)≠0),by omega,by omega,tt1,tt2,?_,fun n h8 h64=>?_⟩
  ·unfold ik.f
   rw[hsz,qh (by omega) (by omega)];simp only[show ¬ ((d.ds.length:Int)+d.e > 100) by omega,show ¬ ((d.ds.length:Int)+d.e < -100) by omega,if_false,hmx];refine Ev.bind hread ?_;simp only[Option.isNone_none,if_true];refine Ev.bind hten ?_;simp only[Option.isNone_none,if_true,show ¬ (d.e≥0) from he,if_false];refine Ev.bind hbt ?_;refine Ev.bind hbm ?_;simp only[humx];refine Ev.bind hshl ?_;simp only[Option.isNone_none,if_true];refine Ev.bind hdiv ?_;simp only[Option.isNone_none,if_true,hrest];rw[qh (x := -(up:Int)) (by omega) (by omega)];exact Ev.bind aGL (Ev.now _)
  ·have h:=Oy (n:=n) (N:=Ad d) (C:=JK d) (u:=up) (q:=q) (r:=r) (b:=b) h8 h64 (uD d) (by rw[hC,hN];exact hqr) (by rw[hC];exact hrlt) hb1 hb2 hb3 (fun _=>hb64)
   unfold QF;rw[← h]
end Go.Proofs.Yy.PTx
end
section
namespace Go.Proofs.Yy.PTx
open Go.RowKit Go.Proofs.Yw.PrintWords Go.Proofs.Yw.PrintLast Go.Proofs.Yw.PrintMore Go.Proofs.Yy.M Go.Proofs.Yy.TA Go.Proofs.Yy.NM Go.Proofs.Yy.SC
theorem Gu {n:Nat}(hw:Wd n)(k:Nat):dS.f k (n:Int) 0=some (0,false,0,0,none):=by
 unfold dS.f;have h:=TY hw 0 (Nat.two_pow_pos _);rw[show ((0:Nat):Int)=0 by rfl,Nat.zero_mod,if_pos rfl]at h;rw[h]
 rfl
theorem agK {a:Int}(h:¬ ∃ n:Nat,Wd n∧a=n):oq.f a=some false:=by
 have h8:a≠8:=fun e=>h ⟨8,.inl rfl,e⟩;have h16:a≠16:=fun e=>h ⟨16,.inr (.inl rfl),e⟩;have h32:a≠32:=fun e=>h ⟨32,.inr (.inr (.inl rfl)),e⟩;have h64:a≠64:=fun e=>h ⟨64,.inr (.inr (.inr rfl)),e⟩;unfold oq.f;simp[h8,h16,h32,h64]
theorem PL {a:Int}(h:¬ ∃ n:Nat,Wd n∧a=n)(p:Int)(k:Nat):∃ x y z v,dS.f k a p=some (x,y,z,v,some 2):=by
 unfold dS.f kQ.f fD.f;rw[agK h];exact⟨_,_,_,_,rfl⟩
theorem dgs {l:List UInt8}(h:l.all dg=true):∀ c ∈ l,48≤c.toNat∧c.toNat≤57:=fun c hc=>by
 have:=List.all_eq_true.1 h c hc;unfold dg at this
 simpa using this
theorem CX {d:D}(hN:ale d)(hn:d.nar=false)(h0:d.ds≠[48]):∃ c l,d.ds=c::l∧49≤c.toNat∧(∀ c ∈ d.ds,48≤c.toNat∧c.toNat≤57)∧d.ds.length≤4096 ∧ -1000000≤d.e∧d.e≤1000000:=by
 rcases hN with h|⟨_,h1,h2,h3,h4,h5,h6⟩
 ·rw[h]at hn;exact absurd hn (by decide)
 rcases h6 with⟨_,h7,_⟩|⟨h7,_⟩
 ·exact absurd h7 h0
 cases hd_:d.ds with
 | nil=>exact absurd hd_ h2
 | cons c l =>
  have hg:=dgs h1;have hc:=hg c (by rw[hd_];exact List.mem_cons_self);refine⟨c,l,rfl,?_,by rw[← hd_];exact hg,by rw[← hd_];exact h3,h4,h5⟩;rw[hd_]at h7
  have:c≠48:=fun e=>by rw[e]at h7;simp[SC.hd]at h7
  have:c.toNat≠48:=fun e=>this (UInt8.toNat_inj.1 e)
  omega
theorem ZJ {l:List UInt8}:(mkB l).toList=([48]:List UInt8) ↔ l=[48]:=by rw[qj]
theorem afZ {n:Nat}(hw:Wd n):shl .u64 1 (wrap64 ((n:Int)-1))=((2 ^ (n-1):Nat):Int)∧0≤wrap64 ((n:Int)-1):=by
 obtain⟨h8,h64⟩:=hw.bounds;have hm:2 ^ (n-1)<2 ^ 64:=Nat.pow_lt_pow_right (by omega) (by omega);rw[qh (by omega) (by omega),show ((n:Int)-1)=((n-1:Nat):Int) by omega];refine⟨?_,Int.natCast_nonneg _⟩;have h:=xK 1 (n-1);rw[Nat.one_mul,Nat.mod_eq_of_lt hm]at h;exact h
theorem ags {n:Nat}(hw:Wd n)(d:D):Ev (fun k=>o9.f k (n:Int) d.nar d.neg (mkB d.ds) d.e) (if formed d=true then (((ofD n d:Nat):Int),none) else (0,some 23)):=by
 obtain⟨h8,h64⟩:=hw.bounds;refine Ev.congr (f:=fun k=>(lJ.f d.nar d.neg (mkB d.ds) d.e).bind fun wK=>(if wK.2.2.2.2.isNone=true then (if wK.1=true then (if 0≤(wrap64 ((n:Int)-1)) then (some (shl .u64 1 (wrap64 ((n:Int)-1)),none)) else (none)) else (if wK.2.2.1.toList=([48]:List UInt8) then (some (0,none)) else ((ik.f k wK.1 wK.2.1 wK.2.2.1 wK.2.2.2.1).bind fun yw=>(if yw.2.2.2.2.2.2.isNone=true then ((kF.f k (n:Int) yw.1 yw.2.1 yw.2.2.1 yw.2.2.2.1 yw.2.2.2.2.1 yw.2.2.2.2.2.1).bind fun VQ=>(some (VQ.1,VQ.2))) else (none))))) else (some (0,some (wK.2.2.2.2.getD 0))))) (fun k=>by unfold o9.f;rw[Gu hw];rfl) ?_;rw[Bg]
 by_cases hf:formed d=true
 ·simp only[if_pos hf,Option.bind_some,Option.isNone_none,if_true]
  have hN:=BK hf;unfold ofD
  by_cases hnar:(nrm d).nar=true
  ·simp only[if_pos hnar]
   rw[(afZ hw).1,if_pos (afZ hw).2];exact Ev.now _
  ·simp only[if_neg hnar,ZJ]
   by_cases h0:(nrm d).ds=[48]
   ·simp only[if_pos h0]
    exact Ev.now _
   ·simp only[if_neg h0]
    have hn:(nrm d).nar=false:=by simpa using hnar
    obtain⟨c,l,e1,e2,e3,e4,e5,e6⟩:=CX hN hn h0;obtain⟨s,T,c',s1,s2,t1,t2,hev,hpos⟩:=Xf hn e1 e2 e3 e4 e5 e6;refine Ev.bind hev ?_;simp only[Option.isNone_none,if_true];have hr:=Xr hw (nrm d).neg s1 s2 t1 t2 c';rw[hpos n h8 h64]at hr;exact Ev.bind hr (Ev.now _)
 ·simp only[if_neg hf,Option.bind_some]
  exact Ev.now _
theorem Ol:Ev (fun k=>dK.f k) true:=⟨40,fun k hk=>by obtain⟨m,rfl⟩:∃ m,k=m+40:=⟨k-40,by omega⟩;exact dK.at_ m⟩
theorem Ub {n:Nat}(hw:Wd n){l:List UInt8}{d:D}(h:vw l=.ok d):Ev (fun k=>jl.f k (n:Int) (mkB l)) (((ofD n d:Nat):Int),none):=by
 have hN:=FB h;have ht:=ags hw d;rw[if_pos (tN hN)]at ht;refine Ev.congr (f:=fun k=>(o9.f k (n:Int) d.nar d.neg (mkB d.ds) d.e).bind fun VX=>(some (VX.1,VX.2))) (fun k=>?_) (Ev.bind ht (Ev.now _));unfold jl.f rU.f;rw[Gu hw,yZ,h]
 rfl
end Go.Proofs.Yy.PTx
end
section
namespace Go.Proofs.Yy.PTx
open Go.RowKit Go.Proofs.Yw.PrintWords Go.Proofs.Yw.PrintLast Go.Proofs.Yw.PrintMore Go.Proofs.Yy.M Go.Proofs.Yy.NM
attribute [local irreducible] fK iD iV jY val
theorem aga {l:List UInt8}{i:Nat}(h:i<l.length):bt (mkB l) (i:Int)=((l[i]'h).toNat:Int):=by
 unfold bt;rw[Int.toNat_natCast,dif_pos (by rw[bH];exact h)]
 rfl
theorem Pj (l:List UInt8)(hd:∀ c ∈ l,dgt c=true)(hl:l.length≤1048576):∀ (d i:Nat) (V:Int),i+d=l.length→0≤V→V<pw 10 i →
  Ev (fun k=>bW.l0 k (mkB l) (enc D V) (i:Int)) (enc D (tJ V.toNat (l.drop i):Int)):=by
 intro d
 induction d with
 | zero =>
  intro i V hi hV hVl;refine Ev.step (f:=fun _=>some (enc D V)) (fun k=>?_) ?_
  ·simp only[bW.l0]
   rw[bH,if_neg (by omega)]
  ·rw[List.drop_of_length_le (by omega)]
   have e:((tJ V.toNat []:Nat):Int)=V:=by show ((V.toNat:Nat):Int)=V;omega
   rw[e];exact Ev.now _
 | succ d ih =>
  intro i V hi hV hVl
  have hlt:i<l.length:=by omega
  have hc:=hd _ (List.getElem_mem hlt);unfold dgt at hc;simp only[Bool.and_eq_true,decide_eq_true_iff]at hc;have hb:=aga hlt
  obtain⟨q,hq⟩:∃ q:Int,q=((l[i].toNat-48:Nat):Int):=⟨_,rfl⟩
  have hq0:0≤q∧q≤9:=by omega
  have hbt:(bt (mkB l) (i:Int)-48) % 256=q:=by rw[hb];omega
  have h10:=Uh (i+1);have hs:pw 10 (i+1)=pw 10 i*10:=eU ..;have ht:=vX hV (q:=10) (by decide) (by rw[vY];decide) (m:=i+1+1) (by omega) (by omega);have ho:=agk (v:=q) hq0.1 (by rw[ug];omega);have ha:=acp (A:=V*10) (C:=q) (by omega) hq0.1 (m:=i+1+1) (by omega) (by omega);have hn:=ih (i+1) (V*10+q) (by omega) (by omega) (by omega)
  have e:tJ V.toNat (l.drop i)=tJ (V*10+q).toNat (l.drop (i+1)):=by
   rw[List.drop_eq_getElem_cons hlt,rP]
   congr 1
   omega
  rw[e]
  have hbody:Ev (fun k=>(aJ.f k (enc D V) 10).bind fun t1=>(dU.f k q).bind fun t2=>(aV.f k t1 t2).bind fun t3=>bW.l0 k (mkB l) t3 ((i+1:Nat):Int)) (enc D ((tJ (V*10+q).toNat (l.drop (i+1)):Nat):Int)):=by
   refine Ev.bind ht ?_;refine Ev.bind ho ?_;refine Ev.bind ha ?_;exact hn
  refine Ev.step (fun k=>?_) hbody;simp only[bW.l0]
  have hi0:0≤(i:Int):=by omega
  have ew:wrap64 ((i:Int)+1)=((i+1:Nat):Int):=by rw[w64 (by omega) (by omega)];rfl
  rw[bH,if_pos (by omega)];simp only[if_pos hi0,hbt,ew]
theorem PG {l:List UInt8}(hd:∀ c ∈ l,dgt c=true)(hl:l.length≤1048576):Ev (fun k=>bW.f k (mkB l)) (enc D (tJ 0 l:Int)):=by
 have h:=Pj l hd hl l.length 0 0 (by omega) (Int.le_refl _) (by rw[iU];decide);rw[eQ,List.drop_zero]at h;exact h
end Go.Proofs.Yy.PTx
end
section
namespace Go.Proofs.Yy.PTx
open Go.RowKit Go.Proofs.Yw.PrintWords Go.Proofs.Yw.PrintLast Go.Proofs.Yw.PrintMore Go.Proofs.Yy.M Go.Proofs.Yy.TA Go.Proofs.Yy.NM
open Go.Proofs.Yy.SC hiding D
attribute [local irreducible] fK iD iV jY val
theorem pwD (m:Nat):pw D m=((2 ^ (24*m):Nat):Int):=by
 rw[ui,vY,Nat.pow_mul,Int.natCast_pow];rfl
theorem D1':1<D:=by rw[vY];decide
theorem Q4 {v:Nat}(h0:0<v)(h:v<16777216):enc D (v:Int)=[(v:Int)]:=by
 have h1:(v:Int) % D=(v:Int):=by rw[vY];omega
 have h2:(v:Int) / D=0:=by rw[vY];omega
 rw[oD D1' (by omega),h1,h2,eQ]
theorem Zn {v:Nat}:Dig D (enc D (v:Int)):=fO D1' _
theorem Zq {v:Nat}:val D (enc D (v:Int))=(v:Int):=fB D1' (Int.natCast_nonneg v)
theorem ab2 {v m:Nat}(h:v<2 ^ (24*m)):(v:Int)<pw D m:=by rw[pwD];exact_mod_cast h
theorem Ba {v m:Nat}(h:v<2 ^ (24*m)):(enc D (v:Int)).length≤m:=mf D1' (ab2 h)
end Go.Proofs.Yy.PTx
end
section
set_option maxRecDepth 40000
namespace Go.Proofs.Yy.PTx
open Go.RowKit Go.Proofs.Yw.PrintWords Go.Proofs.Yw.PrintLast Go.Proofs.Yw.PrintMore Go.Proofs.Yy.M Go.Proofs.Yy.TA Go.Proofs.Yy.NM
open Go.Proofs.Yy.SC hiding D
attribute [local irreducible] fK iD iV jY val
def Cj (V b:Nat):Nat:=V / 2 ^ (b-128)*2 ^ (128-min b 128)
theorem xJ {V b:Nat}(hb1:1≤b)(h1:V<2 ^ b)(h2:2 ^ (b-1)≤V):2 ^ 127≤Cj V b∧Cj V b<2 ^ 128:=by
 unfold Cj
 by_cases hb:128≤b
 ·rw[Nat.min_eq_right hb,Nat.sub_self,Nat.pow_zero,Nat.mul_one]
  constructor
  ·rw[Nat.le_div_iff_mul_le (two_pos _), ← Nat.pow_add,show 127+(b-128)=b-1 by omega];exact h2
  ·rw[Nat.div_lt_iff_lt_mul (two_pos _), ← Nat.pow_add,show 128+(b-128)=b by omega];exact h1
 ·rw[Nat.min_eq_left (by omega),show b-128=0 by omega,Nat.pow_zero,Nat.div_one]
  constructor
  ·have:=Nat.mul_le_mul_right (2 ^ (128-b)) h2
   rwa [← Nat.pow_add,show b-1+(128-b)=127 by omega]at this
  ·have:=Nat.mul_lt_mul_of_pos_right (k:=2 ^ (128-b)) h1 (two_pos _)
   rwa [← Nat.pow_add,show b+(128-b)=128 by omega]at this
theorem JQ {n N C u q r b:Nat}(hn:8≤n)(hn2:n≤64)(hC:0<C)(hq:N*2 ^ u=C*q+r)(hr:r<C)(hb1:1≤b)(h1:q<2 ^ b)(h2:2 ^ (b-1)≤q)(h:r≠0→128≤b) :
  Ny n (-(u:Int)+b-1) (Cj q b) (decide (r≠0) || decide (q % 2 ^ (b-128)≠0))=pos n (scl N C) N C:=by
 have e:Rep N C (-(u:Int)+b-1) (Cj q b / 2 ^ 64) ((decide (r≠0) || decide (q % 2 ^ (b-128)≠0)) || decide (Cj q b % 2 ^ 64≠0)):=by
  rw[show -(u:Int)+b-1=(b:Int)-1-u by omega]
  by_cases hb:128≤b
  ·have e:=Rep.af2 hC hq hr h2 h1 hb
   have hT:Cj q b=q / 2 ^ (b-128):=by unfold Cj;rw[Nat.min_eq_right hb,Nat.sub_self,Nat.pow_zero,Nat.mul_one]
   rw[hT,Bool.or_comm (decide (r≠0))];exact e
  ·have hr0:r=0:=by
    apply Classical.byContradiction
    intro h3;exact hb (h h3)
   subst hr0;have e:=Rep.agw hC (by rw[hq,Nat.add_zero]) h2 h1 hb1 (by omega)
   have hT:Cj q b=q*2 ^ (128-b):=by unfold Cj;rw[Nat.min_eq_left (by omega),show b-128=0 by omega,Nat.pow_zero,Nat.div_one]
   rw[hT,show b-128=0 by omega,Nat.pow_zero,Nat.mod_one]
   simpa using e
 rw[Ot hn hn2 (xJ hb1 h1 h2).1 e,TT e]
theorem abI (T:Nat):((T:Int) % B)=loI T:=by unfold loI;rw[ug];omega
theorem ab8 {T:Nat}(h:T<2 ^ 128):((T:Int) / pw 2 64 % B)=hiI T:=by
 have hlt:T / 2 ^ 64<2 ^ 64:=by rw[Nat.div_lt_iff_lt_mul (two_pos _), ← Nat.pow_add];exact h
 rw[QV, ← Int.natCast_ediv,ug];unfold hiI;rw[p64]at *
 omega
theorem al8 {T:Nat}:0≤(T:Int) / pw 2 64:=by rw[QV, ← Int.natCast_ediv];exact Int.natCast_nonneg _
theorem Gs {T:Nat}(h:T<2 ^ 128)(kd:Int)(neg:Bool)(s:Int)(c:Bool):Ev (fun k=>(bC.f k (enc D (T:Int))).bind fun akm=>((aQ.f k (enc D (T:Int)) 64).bind fun Y9=>((bC.f k Y9).bind fun aGM=>(some (kd,neg,s,aGM,akm,c))))) (kd,neg,s,hiI T,loI T,c):=by
 have hlen:=Ba (v:=T) (m:=6) (Nat.lt_of_lt_of_le h (Nat.pow_le_pow_right (by decide) (by decide)));have w1:=NP (A:=(T:Int)) (Int.natCast_nonneg _);have w2:=QU (A:=(T:Int)) (Int.natCast_nonneg _) 64 (by omega) (by omega);have w3:=NP (A:=(T:Int) / pw 2 64) al8;rw[abI]at w1;rw[ab8 h]at w3;exact Ev.bind w1 (Ev.bind w2 (Ev.bind w3 (Ev.now _)))
theorem JF {V b:Nat}(hb1:1≤b)(h1:V<2 ^ b)(h2:2 ^ (b-1)≤V)(hb2:b≤60000)(neg rest:Bool){e:Int}(he1 : -900000≤e)(he2:e≤900000) :
  Ev (fun k=>az.f k neg (enc D (V:Int)) e rest) (1,neg,e+b-1,hiI (Cj V b),loI (Cj V b),rest || decide (V % 2 ^ (b-128)≠0)):=by
 obtain⟨g1,g2⟩:=xJ hb1 h1 h2
 obtain⟨m,hm⟩:∃ m,m=b / 24+1:=⟨_,rfl⟩
 have hVm:V<2 ^ (24*m):=xC h1 (by omega);have hlen:=Ba hVm;have hbits:=GG (A:=(V:Int)) (Int.natCast_nonneg _) (by omega);rw[abD h1 (fun _=>h2)]at hbits
 have hheld:jk.f (wrap64 (wrap64 (e+(b:Int))-1))=some (e+b-1):=by
  rw[qh (x:=e+(b:Int)) (by omega) (by omega),qh (by omega) (by omega)];unfold jk.f;rw[if_neg (by omega),if_neg (by omega)]
 unfold az.f;refine Ev.bind hbits ?_;simp only[if_neg (show ¬ (b:Int)=0 by omega),hheld,Option.bind_some]
 by_cases hlt:b<128
 ·simp only[if_pos (show (b:Int)<128 by omega)]
  have hs:=Q3 (A:=(V:Int)) (Int.natCast_nonneg _) (128-b) (by omega) (ab2 hVm) (by omega);rw[QV, ← Int.natCast_mul]at hs
  have hT:V*2 ^ (128-b)=Cj V b:=by unfold Cj;rw[Nat.min_eq_left (by omega),show b-128=0 by omega,Nat.pow_zero,Nat.div_one]
  rw[hT]at hs
  have hw:wrap64 (128-(b:Int))=((128-b:Nat):Int):=by rw[qh (by omega) (by omega)];omega
  rw[hw];refine Ev.bind hs ?_;refine Ev.step (fun k=>?_) (Gs (T:=Cj V b) g2 1 neg (e+b-1) (rest || decide (V % 2 ^ (b-128)≠0)));simp only[az.j0];rw[if_neg (by omega),show b-128=0 by omega,Nat.pow_zero,Nat.mod_one];simp
 ·simp only[if_neg (show ¬ (b:Int)<128 by omega)]
  have hT:Cj V b=V / 2 ^ (b-128):=by unfold Cj;rw[Nat.min_eq_right (by omega),Nat.sub_self,Nat.pow_zero,Nat.mul_one]
  by_cases heq:b=128
  ·subst heq
   have hT2:Cj V 128=V:=by rw[hT,Nat.sub_self,Nat.pow_zero,Nat.div_one]
   have hw:=Gs (T:=Cj V 128) g2 1 neg (e+((128:Nat):Int)-1) (rest || decide (V % 2 ^ (128-128)≠0));rw[hT2]at hw ⊢;refine Ev.step (fun k=>?_) hw;simp only[az.j0];rw[if_neg (by omega),Nat.sub_self,Nat.pow_zero,Nat.mod_one];simp
  ·have hw:wrap64 ((b:Int)-128)=((b-128:Nat):Int):=by rw[qh (by omega) (by omega)];omega
   have hl:=abK (A:=(V:Int)) (Int.natCast_nonneg _) (by omega) (b-128) (by omega)
   have hmod:decide ((V:Int) % pw 2 (b-128)≠0)=decide (V % 2 ^ (b-128)≠0):=by
    rw[QV, ← Int.natCast_emod];exact decide_eq_decide.2 (by omega)
   rw[hmod]at hl;have hs:=QU (A:=(V:Int)) (Int.natCast_nonneg _) (b-128) (by omega) (by omega);rw[QV, ← Int.natCast_ediv, ← hT]at hs
   have hj1:∀ c:Bool,Ev (fun k=>az.j1 k (enc D (V:Int)) (b:Int) 1 neg (e+b-1) 0 0 c) (1,neg,e+b-1,hiI (Cj V b),loI (Cj V b),c):=by
    intro c;refine Ev.step (f:=fun k=>(aQ.f k (enc D (V:Int)) ((b-128:Nat):Int)).bind fun aeA=>((bC.f k aeA).bind fun aGN=>((aQ.f k aeA 64).bind fun V7=>((bC.f k V7).bind fun aGO=>(some ((1:Int),neg,e+b-1,aGO,aGN,c)))))) (fun k=>?_) ?_
    ·simp only[az.j1,hw]
    ·exact Ev.bind hs (Gs (T:=Cj V b) g2 1 neg (e+b-1) c)
   refine Ev.step (f:=fun k=>(aU.f k (enc D (V:Int)) ((b-128:Nat):Int)).bind fun aGP=>(if rest=true then (az.j1 k (enc D (V:Int)) (b:Int) 1 neg (e+b-1) 0 0 true) else (az.j1 k (enc D (V:Int)) (b:Int) 1 neg (e+b-1) 0 0 aGP))) (fun k=>?_) ?_
   ·simp only[az.j0,hw]
    rw[if_pos (by omega)]
   ·refine Ev.bind hl ?_
    cases rest
    ·simp only[Bool.false_eq_true,if_false,Bool.false_or]
     exact hj1 _
    ·simp only[if_true,Bool.true_or]
     exact hj1 true
theorem Yi {n:Nat}(hn:8≤n)(hn2:n≤64)(s:Int){T:Nat}(hT1:2 ^ 127≤T)(hT2:T<2 ^ 128)(c:Bool):(oV n s T c).1<2 ^ (n-1):=by
 have hp:=two_pos (n-1)
 have hp1:2≤2 ^ (n-1):=by
  have:2 ^ 1≤2 ^ (n-1):=Nat.pow_le_pow_right (by decide) (by omega);exact this
 unfold oV
 split
 ·show 2 ^ (n-1)-1<_;omega
 ·split
  ·show 1<_;omega
  ·show BV n s 127 T<_
   have hL4:=TU s
   have hcl:TA.hL s+127=n-1+xG n s 127:=by unfold xG;omega
   unfold BV;rw[Nat.div_lt_iff_lt_mul (two_pos _), ← Nat.pow_add, ← hcl,Nat.pow_add];unfold zU;have h1:=Ye s;have hTm:=Fg hT1 hT2;have h2:=Nat.mod_lt T (two_pos 127);have h3:(hV s+1)*2 ^ 127≤2 ^ TA.hL s*2 ^ 127:=Nat.mul_le_mul_right _ h1;rw[Nat.add_mul,Nat.one_mul]at h3
   omega
theorem TF {n:Nat}(hw:Wd n)(neg:Bool){V b:Nat}(hb1:1≤b)(h1:V<2 ^ b)(h2:2 ^ (b-1)≤V)(hb2:b≤60000)(rest:Bool){e:Int}(he1 : -900000≤e)(he2:e≤900000){P:Nat}
  (hP:Ny n (e+b-1) (Cj V b) (rest || decide (V % 2 ^ (b-128)≠0))=P) :
  Ev (fun k=>(az.f k neg (enc D (V:Int)) e rest).bind fun x=>(dm.f k (n:Int) x.1 x.2.1 x.2.2.1 x.2.2.2.1 x.2.2.2.2.1 x.2.2.2.2.2).bind fun t=>some t) ((sgn n neg P:Nat):Int):=by
 obtain⟨h8,h64⟩:=hw.bounds;obtain⟨g1,g2⟩:=xJ hb1 h1 h2;have hx:=JF hb1 h1 h2 hb2 neg rest he1 he2;have hr:=Pq hw neg (s:=e+b-1) (by omega) (by omega) g1 g2 (rest || decide (V % 2 ^ (b-128)≠0)) (Yi h8 h64 _ g1 g2 _);rw[hP]at hr;exact Ev.bind hx (Ev.bind hr (Ev.now _))
theorem agh {n:Nat}(hw:Wd n)(neg:Bool)(e:Int)(P:Nat)(he:(e=4000∧P=2 ^ (n-1)-1)∨(e = -4000∧P=1)) :
  Ev (fun k=>(az.f k neg (([1]:List Int)) e false).bind fun x=>(dm.f k (n:Int) x.1 x.2.1 x.2.2.1 x.2.2.2.1 x.2.2.2.2.1 x.2.2.2.2.2).bind fun t=>some t) ((sgn n neg P:Nat):Int):=by
 obtain⟨h8,h64⟩:=hw.bounds;have h1:([1]:List Int)=enc D ((1:Nat):Int):=(Q4 (by decide) (by decide)).symm;have ht:=top_le h64
 have ht8:0≤top n:=by unfold top;omega
 rw[h1];refine TF hw neg (V:=1) (b:=1) (by decide) (by decide) (by decide) (by decide) false (by omega) (by omega) ?_;unfold Ny;rcases he with⟨e1,e2⟩|⟨e1,e2⟩
 ·rw[e1,e2,if_pos (by omega)]
 ·rw[e1,e2,if_neg (by omega),if_pos (by omega)]
theorem O1 {n:Nat}(hw:Wd n){v:SC.D}(hn:v.nar=false){c0:UInt8}{l0:List UInt8}(hd:v.ds=c0::l0)(hc0:49≤c0.toNat)(hg:∀ c ∈ v.ds,48≤c.toNat∧c.toNat≤57)(hl:v.ds.length≤4096)(he1 : -1000000≤v.e)(he2:v.e≤1000000)
  (hm1 : -400≤(v.ds.length:Int)+v.e) (hm2:(v.ds.length:Int)+v.e≤400) :
  Ev (fun k=>(bW.f k (mkB v.ds)).bind fun aeV=>(if v.e≥0 then ((dE.f k v.e).bind fun aGQ=>((aC.f k aeV aGQ).bind fun aGR=>((az.f k v.neg aGR 0 false).bind fun QD=>((dm.f k (n:Int) QD.1 QD.2.1 QD.2.2.1 QD.2.2.2.1 QD.2.2.2.2.1 QD.2.2.2.2.2).bind fun ax2=>(some ax2))))) else ((dE.f k (wrap64 (-v.e))).bind fun afz=>((bn.f k afz).bind fun ays=>((bn.f k aeV).bind fun aaA=>(if (wrap64 ((wrap64 (ays-aaA))+140))<0 then (bV.j0 k (n:Int) aeV afz 0 v.nar v.neg (mkB v.ds) v.e) else (bV.j0 k (n:Int) aeV afz (wrap64 ((wrap64 (ays-aaA))+140)) v.nar v.neg (mkB v.ds) v.e))))))) ((sgn n v.neg (QF n v):Nat):Int):=by
 obtain⟨h8,h64⟩:=hw.bounds
 have hl1:v.ds.length=l0.length+1:=by rw[hd];rfl
 obtain⟨A_,hA_⟩:∃ x:Nat,x=17000:=⟨_,rfl⟩
 obtain⟨T_,hT_⟩:∃ x:Nat,x=19000:=⟨_,rfl⟩
 have hdg:∀ c ∈ v.ds,dgt c=true:=fun c hc=>by unfold dgt;rw[decide_eq_true (hg c hc).1,decide_eq_true (hg c hc).2];rfl
 have hread:=PG hdg (by omega);rw[Jl]at hread
 have hm0:0<xx v.ds:=by
  have:=yQ (l:=l0) hc0;rw[← hd]at this;have:=Nat.pow_pos (a:=10) (n:=l0.length) (by decide)
  omega
 have hmA:xx v.ds<2 ^ A_:=by
  have h3:=GI v.ds 0 hg;rw[Nat.zero_add,Nat.one_mul]at h3;exact xC (Nat.lt_trans h3 (Ff v.ds.length)) (by omega)
 have hlimb:∀ {V M:Nat},V<2 ^ M→V<2 ^ (24*(M / 24+1)):=fun h=>xC h (by omega);obtain⟨bm,m1,m2,m3,m4⟩:=vT hm0;have bm1:=vM m1 m3 hmA;refine Ev.bind hread ?_
 by_cases he:0≤v.e
 ·obtain⟨k,hk⟩:=Int.eq_ofNat_of_zero_le he
  have hk4:k≤400:=by omega
  simp only[show v.e≥0 from he,if_true];have hten:=Tv k (by omega);rw[XV]at hten;rw[hk];refine Ev.bind hten ?_
  have hV:Ad v=xx v.ds*10 ^ k:=by unfold Ad;rw[hk,Int.toNat_natCast]
  have hC:JK v=1:=by unfold JK;rw[show (-v.e).toNat=0 by omega,Nat.pow_zero]
  have hp:=Nat.pow_pos (a:=10) (n:=k) (by decide);have htlt:10 ^ k<2 ^ (4*k+1):=Ff k
  have hmul:=acA (a:=enc D (xx v.ds:Int)) (b:=enc D ((10 ^ k:Nat):Int)) Zn Zn (by
   have a1:=Ba (hlimb hmA);have a2:=Ba (hlimb htlt)
   omega)
  rw[Zq,Zq, ← Int.natCast_mul, ← hV]at hmul;refine Ev.bind hmul ?_
  have hV0:0<Ad v:=by rw[hV];exact Nat.mul_pos hm0 hp
  have hVlt:Ad v<2 ^ T_:=by
   rw[hV];exact xC (G8 hmA htlt rfl) (by omega)
  obtain⟨b,hb1,hb2,hb3,_⟩:=vT hV0;have hbb:=vM hb1 hb3 hVlt;refine TF hw v.neg hb1 hb2 hb3 (by omega) false (by omega) (by omega) ?_;have h:=JQ (n:=n) (N:=Ad v) (C:=JK v) (u:=0) (q:=Ad v) (r:=0) (b:=b) h8 h64 (uD v) (by rw[hC];simp) (uD v) hb1 hb2 hb3 (by simp);unfold QF;rw[← h];simp
 ·obtain⟨k,hk⟩:=Int.eq_ofNat_of_zero_le (show 0 ≤ -v.e by omega)
  have hk1:k≤4496:=by omega
  simp only[ge_iff_le,if_neg he]
  have hwk:wrap64 (-v.e)=(k:Int):=by rw[qh (by omega) (by omega),hk]
  have hten:=Tv k (by omega);rw[XV]at hten;rw[hwk];refine Ev.bind hten ?_
  have hN:Ad v=xx v.ds:=by unfold Ad;rw[show v.e.toNat=0 by omega,Nat.pow_zero,Nat.mul_one]
  have hC:JK v=10 ^ k:=by unfold JK;rw[hk,Int.toNat_natCast]
  have hp:=Nat.pow_pos (a:=10) (n:=k) (by decide);have htlt:10 ^ k<2 ^ T_:=xC (Ff k) (by omega);obtain⟨bt_,t1,t2,t3,t4⟩:=vT hp;have bt1:=vM t1 t3 htlt;have hbt:=GG (A:=((10 ^ k:Nat):Int)) (Int.natCast_nonneg _) (Nat.le_trans (Ba (hlimb htlt)) (by omega));have hbm:=GG (A:=(xx v.ds:Int)) (Int.natCast_nonneg _) (Nat.le_trans (Ba (hlimb hmA)) (by omega));rw[t4]at hbt;rw[m4]at hbm;refine Ev.bind hbt (Ev.bind hbm ?_)
  obtain⟨up,hup⟩:∃ up,bt_+140-bm=up:=⟨_,rfl⟩
  have hwb:wrap64 (wrap64 ((bt_:Int)-(bm:Int))+140)=(bt_:Int)-bm+140:=by rw[qh (x:=(bt_:Int)-(bm:Int)) (by omega) (by omega),qh (by omega) (by omega)]
  -- behind the number of places
  have hj0:Ev (fun j=>bV.j0 j (n:Int) (enc D (xx v.ds:Int)) (enc D ((10 ^ k:Nat):Int)) (up:Int) v.nar v.neg (mkB v.ds) v.e) ((sgn n v.neg (QF n v):Nat):Int):=by
   have hshl:=Q3 (A:=(xx v.ds:Int)) (Int.natCast_nonneg _) up (by omega) (ab2 (hlimb hmA)) (by omega);rw[QV, ← Int.natCast_mul]at hshl
   obtain⟨S_,hS_⟩:∃ x:Nat,x=40000:=⟨_,rfl⟩
   have hnlt:xx v.ds*2 ^ up<2 ^ S_:=by
    have h3:2 ^ up<2 ^ (up+1):=by rw[Nat.pow_succ];have:=two_pos up;omega
    exact xC (G8 hmA h3 rfl) (by omega)
   have hdiv:=Px (A:=((xx v.ds*2 ^ up:Nat):Int)) (C:=((10 ^ k:Nat):Int)) (Int.natCast_nonneg _) (by omega) (Nat.le_trans (Ba (hlimb hnlt)) (by omega)) (Nat.le_trans (Ba (hlimb htlt)) (by omega));rw[← Int.natCast_ediv, ← Int.natCast_emod]at hdiv
   obtain⟨q,hq⟩:∃ q,xx v.ds*2 ^ up / 10 ^ k=q:=⟨_,rfl⟩
   obtain⟨r,hr⟩:∃ r,xx v.ds*2 ^ up % 10 ^ k=r:=⟨_,rfl⟩
   have hqr:xx v.ds*2 ^ up=10 ^ k*q+r:=by rw[← hq, ← hr];exact (Nat.div_add_mod _ _).symm
   have hrlt:r<10 ^ k:=by rw[← hr];exact Nat.mod_lt _ hp
   rw[hq,hr]at hdiv
   obtain⟨F_,hF_⟩:∃ x:Nat,x=138:=⟨_,rfl⟩
   have aGS:2 ^ F_≤q:=by
    rw[← hq,Nat.le_div_iff_mul_le hp];have e1:2 ^ F_*10 ^ k≤2 ^ F_*2 ^ bt_:=Nat.mul_le_mul_left _ (Nat.le_of_lt t2)
    have e2:2 ^ F_*2 ^ bt_≤2 ^ (bm-1)*2 ^ up:=by
     rw[← Nat.pow_add, ← Nat.pow_add];exact Nat.pow_le_pow_right (by omega) (by omega)
    exact Nat.le_trans e1 (Nat.le_trans e2 (Nat.mul_le_mul_right _ m3))
   obtain⟨b,hb1,hb2,hb3,_⟩:=vT (V:=q) (by have:=two_pos F_;omega)
   have aug:128≤b:=by
    apply Nat.le_of_not_lt
    intro hc;have:2 ^ b≤2 ^ F_:=Nat.pow_le_pow_right (by omega) (by omega)
    omega
   have hqlt:q<2 ^ S_:=Nat.lt_of_le_of_lt (by rw[← hq];exact Nat.div_le_self _ _) hnlt;have hbb:=vM hb1 hb3 hqlt
   have hrest:decide (((enc D (r:Int)).length:Int) > 0)=decide (r≠0):=by
    apply decide_eq_decide.2
    constructor
    ·intro h h0
     rw[h0]at h;rw[show ((0:Nat):Int)=0 by rfl,eQ]at h;exact absurd h (by decide)
    ·intro h
     have:=Dq D1' (n:=(r:Int)) (by omega)
     omega
   have hwu:wrap64 (-(up:Int)) = -(up:Int):=qh (by omega) (by omega);refine Ev.step (f:=fun j=>(gQ.f j (enc D (xx v.ds:Int)) (up:Int)).bind fun aeW=>((aH.f j aeW (enc D ((10 ^ k:Nat):Int))).bind fun ak9=>((az.f j v.neg ak9.1 (-(up:Int)) (decide ((ak9.2.length:Int) > 0))).bind fun QE=>((dm.f j (n:Int) QE.1 QE.2.1 QE.2.2.1 QE.2.2.2.1 QE.2.2.2.2.1 QE.2.2.2.2.2).bind fun ax3=>(some ax3))))) (fun j=>?_) ?_
   ·simp only[bV.j0,hwu]
   ·refine Ev.bind hshl (Ev.bind hdiv ?_)
    simp only[hrest];refine TF hw v.neg hb1 hb2 hb3 (by omega) (decide (r≠0)) (by omega) (by omega) ?_;have h:=JQ (n:=n) (N:=Ad v) (C:=JK v) (u:=up) (q:=q) (r:=r) (b:=b) h8 h64 (uD v) (by rw[hN,hC];exact hqr) (by rw[hC];exact hrlt) hb1 hb2 hb3 (fun _=>aug);unfold QF;exact h
  by_cases hneg:(bt_:Int)-bm+140<0
  ·simp only[hwb,if_pos hneg]
   have:up=0:=by omega
   rw[this]at hj0;exact hj0
  ·simp only[hwb,if_neg hneg]
   rw[show (bt_:Int)-bm+140=(up:Int) by omega];exact hj0
theorem PO {n:Nat}(hw:Wd n)(d:SC.D)(hf:formed d=true)(hl:d.ds.length≤5000)(he1 : -1000000≤d.e)(he2:d.e≤1000000):Ev (fun k=>bV.f k (n:Int) d.nar d.neg (mkB d.ds) d.e) ((ofD n d:Nat):Int):=by
 obtain⟨h8,h64⟩:=hw.bounds;have hN:=BK hf;have hnm:=JD d (by omega) he1 he2;unfold bV.f;refine Ev.bind hnm ?_;simp only[KN];unfold ofD
 by_cases hnar:(nrm d).nar=true
 ·simp only[hnar,if_true]
  exact Ev.bind (NY hw) (Ev.now _)
 ·simp only[if_neg hnar,ZJ]
  by_cases h0:(nrm d).ds=[48]
  ·simp only[if_pos h0]
   exact Ev.now _
  ·simp only[if_neg h0]
   have hn:(nrm d).nar=false:=by simpa using hnar
   obtain⟨c,l,e1,e2,e3,e4,e5,e6⟩:=CX hN hn h0
   have hsz:wrap64 (((mkB (nrm d).ds).size:Int)+(nrm d).e)=((nrm d).ds.length:Int)+(nrm d).e:=by rw[bH,qh (by omega) (by omega)]
   simp only[hsz]
   by_cases f1:(400:Int)<(nrm d).ds.length+(nrm d).e
   ·simp only[gt_iff_lt,if_pos f1]
    rw[Jp h64 e1 e2 (by omega)];exact agh hw _ 4000 _ (.inl ⟨rfl,rfl⟩)
   ·simp only[gt_iff_lt,if_neg f1]
    by_cases f2:((nrm d).ds.length:Int)+(nrm d).e < -400
    ·simp only[if_pos f2]
     rw[Nv (by omega) h64 e1 e2 e3 (by omega)];exact agh hw _ (-4000) _ (.inr ⟨rfl,rfl⟩)
    ·simp only[if_neg f2]
     exact O1 hw hn e1 e2 e3 e4 e5 e6 (by omega) (by omega)
end Go.Proofs.Yy.PTx
end
section
namespace Go.Proofs.Yy.PTx
open Go.RowKit Go.Proofs.Yw.PrintWords Go.Proofs.Yw.PrintLast Go.Proofs.Yw.PrintMore
def pF.f (e:Option Int)(_l _a _c:Int):Option Bool:=match e with|none=>some false|some _=>none
theorem pF.calls (a0:Option Int)(a1 a2 a3:Int)(r:Bool)(w:World)(h:pF.f a0 a1 a2 a3=some r) :
  Calls Tryz.prog 35 #[rF a0,.int .i64 a1,.int .i64 a2,.int .i64 a3] w fun e w'=>e=.returned (.bool r)∧Below w.heap.size w w':=by
 cases a0 with
 | none=>obtain rfl:=Option.some.inj h;exact Fa.afR a1 a2 a3 w
 | some c=>cases h
end Go.Proofs.Yy.PTx
end
section
set_option maxHeartbeats 8000000
set_option maxRecDepth 100000
namespace Go.Proofs.Yy.PTx
open Go.RowKit Go.Proofs.Yy.Z Go.Proofs.Yw.PrintWords Go.Proofs.Yw.PrintLast Go.Proofs.Yw.PrintMore
open Go.Proofs.Yy.M
attribute [local go_sem] dG dP kR kT kW kS
attribute [local go_sem] gI gG iP iR fF fG gW gV
def iC.f (k:Nat)(a0:Int)(a1:ByteArray):Option (Bool):=(dK.f k).bind fun ala=>((jl.f k a0 a1).bind fun Zm=>((fP.f k a0 a1).bind fun Wx=>(if Wx.2.1=14 then ((pF.f Zm.2 0 Wx.2.2 Wx.2.1).bind fun auh=>(if ala=true then (if auh=true then (some (Zm.1 == 0)) else (some false)) else (some false))) else (if ala=true then (if Zm.1=Wx.1 then ((iM.f Zm.2).bind fun aui=>(some (aui == Wx.2.1))) else (some false)) else (some false)))))
theorem iC.calls (k:Nat)(a0:Int)(a1:ByteArray)(r:Bool)(w:World)(h:iC.f k a0 a1=some r)(hr_:r=true:=by rfl)(htab:Fx.Laid w:=by exact Fx.Laid.below HTAB.out (by repeat (first|(with_reducible first|exact HB.out|apply bD|apply aK|apply aX|refine bQ ?_ (ae.out (by assumption)))|exact HB.out))) :
    Calls Tryz.prog 10 #[.int .i64 a0,.string a1] w fun e w'=>e=.returned (.bool r)∧Below w.heap.size w w':=by
 have HTAB:=am htab;clear htab;have HRT:=am hr_;clear hr_;have HB:=am (Below.refl w.heap.size w);have H:=am h;unfold iC.f at H;clear h;replace H:=zo H;obtain⟨ala,A3,H⟩:=H;replace H:=zo H;obtain⟨⟨aMz,ayt⟩,A4,H⟩:=H
 try dsimp only at H
 replace H:=zo H;obtain⟨⟨aMA,aGT,aGU⟩,A5,H⟩:=H
 try dsimp only at H
 replace H:=zsk H;rcases H with⟨qm,zg,H⟩|⟨qm,zg,c6,H⟩;replace H:=zo H;obtain⟨auh,A7,H⟩:=H
 cases ala
 ·replace H:=zb0 H
  exact absurd (Option.some.inj H.out) (by rw[HRT.out];decide)
 replace H:=zb1 H
 cases auh
 ·replace H:=zb0 H
  exact absurd (Option.some.inj H.out) (by rw[HRT.out];decide)
 replace H:=zb1 H;clear HRT;obtain rfl:=Option.some.inj H.out;rotate_left
 cases ala
 ·replace H:=zb0 H
  exact absurd (Option.some.inj H.out) (by rw[HRT.out];decide)
 replace H:=zb1 H;replace H:=zsk H;rcases H with⟨uS,DI,H⟩|⟨uS,DI,c15,H⟩;replace H:=zo H;obtain⟨aui,A16,H⟩:=H;clear HRT;obtain rfl:=Option.some.inj H.out;rotate_left
 ·exact absurd (Option.some.inj H.out) (by rw[HRT.out];decide)
 all_goals (go_enter Tryz.func10,Tryz.ntmps10;go_wp2_with (first|((with_reducible refine af (f:=12) rfl ?_);refine zc (some 12) Tryz.func12 _ (dK.calls _ _ _ A3.out) ?_;rintro e w10 ⟨rfl,hb⟩;refine⟨_,rfl,?_⟩;replace HB:=zBs HB hb;clear hb)|((with_reducible refine af (f:=24) rfl ?_);refine zc (some 16) Tryz.func24 _ (jl.calls _ _ _ _ _ _ A4.out) ?_;rintro e w11 ⟨rfl,hb⟩;refine⟨_,rfl,?_⟩;replace HB:=zBs HB hb;clear hb;(try simp only[au,ax]))|((with_reducible refine af (f:=34) rfl ?_);refine zc (some 22) Tryz.func34 _ (fP.calls _ _ _ _ _ _ _ A5.out) ?_;rintro e w12 ⟨rfl,hb⟩;refine⟨_,rfl,?_⟩;replace HB:=zBs HB hb;clear hb;have CA7:=fun W=>pF.calls ayt 0 aGU aGT true W A7.out;try simp only[au,ax]at CA7)|(go_at_call 35;(with_reducible refine (CA7 _).mono ?_);rintro e w13 ⟨rfl,hb⟩;replace HB:=zBs HB hb;clear hb)|((with_reducible refine af (f:=34) rfl ?_);refine zc (some 22) Tryz.func34 _ (fP.calls _ _ _ _ _ _ _ A5.out) ?_;rintro e w19 ⟨rfl,hb⟩;refine⟨_,rfl,?_⟩;replace HB:=zBs HB hb;clear hb;have ayu:=fun W=>iM.calls ayt aui W A16.out;try simp only[au,ax]at ayu)|(go_at_call 15;(with_reducible refine (ayu _).mono ?_);rintro e w' ⟨rfl,⟨nd,rfl⟩⟩)))
 ·go_ret
  exact⟨z2,zB HB⟩
 go_ret
 exact⟨z2,zB HB⟩
end Go.Proofs.Yy.PTx
end
section
namespace Go.Proofs.Yy.PTx
open Go.RowKit Go.Proofs.Yw.PrintWords Go.Proofs.Yw.PrintLast Go.Proofs.Yw.PrintMore Go.Proofs.Yy.M Go.Proofs.Yy.TA Go.Proofs.Yy.SC Go.Proofs.Yy.Z
theorem acx {a:Int}(h:¬ ∃ n:Nat,Wd n∧a=n):gu.f a=some false:=by
 have h8:a≠8:=fun e=>h ⟨8,.inl rfl,e⟩;have h16:a≠16:=fun e=>h ⟨16,.inr (.inl rfl),e⟩;have h32:a≠32:=fun e=>h ⟨32,.inr (.inr (.inl rfl)),e⟩;have h64:a≠64:=fun e=>h ⟨64,.inr (.inr (.inr rfl)),e⟩;unfold gu.f;simp[h8,h16,h32,h64]
theorem FV {n:Nat}(hw:Wd n)(l:List UInt8):Ev (fun k=>fP.f k (n:Int) (mkB l)) (match vw l with | .long=>((0:Int),13,0) | .bad p=>(0,14,(p:Int)) | .ok d=>(((ofD n d:Nat):Int),0,0)):=by
 have hr:=OX l;unfold outT at hr;unfold fP.f;simp only[acd hw,Option.bind_some,if_true]
 cases hc:vw l with
 | long =>
  rw[hc]at hr;exact Ev.bind hr (Ev.now _)
 | bad p =>
  rw[hc]at hr;exact Ev.bind hr (Ev.now _)
 | ok d =>
  rw[hc]at hr;refine Ev.bind hr ?_;have hf:=tN (FB hc);have hb:=qX hf;simp only[okT,ne_eq,not_true_eq_false,if_false];exact Ev.bind (PO hw d hf (by omega) hb.2.1 hb.2.2) (Ev.now _)
theorem Gp (a:Int)(l:List UInt8)(hb:(∃ n:Nat,Wd n∧a=n)→∀ p,vw l≠.bad p):Ev (fun k=>iC.f k a (mkB l)) true:=by
 have c0:iM.f none=some 0:=rfl
 have c2:iM.f (some 2)=some 2:=by decide
 have c13:iM.f (some 13)=some 13:=by decide
 unfold iC.f;refine Ev.bind Ol ?_
 by_cases hx:∃ n:Nat,Wd n∧a=n
 ·have hbb:=hb hx
  clear hb;obtain⟨n,hw,rfl⟩:=hx;have hr:=FV hw l
  cases hc:vw l with
  | long =>
   rw[hc]at hr
   have hp:∀ k,jl.f k (n:Int) (mkB l)=some (0,some 13):=fun k=>by
    unfold jl.f rU.f;rw[Gu hw,yZ,hc]
    rfl
   simp only[hp,Option.bind_some];refine Ev.bind hr ?_;simp[c13];exact Ev.now _
  | bad p=>exact absurd hc (hbb p)
  | ok d =>
   rw[hc]at hr;refine Ev.bind (Ub hw hc) (Ev.bind hr ?_);simp[c0];exact Ev.now _
 ·have hr:∀ k,fP.f k a (mkB l)=some (0,2,0):=fun k=>by
   unfold fP.f;rw[acx hx];rfl
  have hp:∀ k,jl.f k a (mkB l)=some (0,some 2):=fun k=>by
   obtain⟨x,y,z,v,hd_⟩:=PL hx 0 k;unfold jl.f;rw[hd_]
   rfl
  simp only[hp,hr,Option.bind_some];simp[c2];exact Ev.now _
set_option maxHeartbeats 1000000 in
set_option maxRecDepth 100000 in
theorem QQ {n:Nat}(hw:Wd n)(a1:ByteArray)(p:Nat)(w:World)(h:vw a1.data.toList=.bad p) :
  Calls Tryz.prog 24 #[.int .i64 (n:Int),.string a1] w fun e w' => ∃ g,e=.returned (.tuple #[.int .u64 0,.iface 122 (.pointer (some ⟨g,0,none⟩))])∧Fa.lM w' g 0 (p:Int) 14∧Below w.heap.size w w':=by
 have alh:=Tryz.underlying77;have PS:=Tryz.underlying23;have yB:=Tryz.underlying27;have HB:=am (Below.refl w.heap.size w);have A3:=am (Gu hw 0);have A4:=am h;clear h
 go_enter Tryz.func24,Tryz.ntmps24
 go_wp2_with (first|((with_reducible refine af (f:=42) rfl ?_);refine zc (some 12) Tryz.func42 _ (dS.calls _ _ _ _ _ _ _ _ _ A3.out) ?_;rintro e w6 ⟨rfl,hb⟩;refine⟨_,rfl,?_⟩;replace HB:=zBs HB hb;clear hb;(try simp only[au,ax]))|((with_reducible refine aI (N:=6) rfl ?_);refine zx 6 77 #[.int .i64 0,.bool false,.int .i64 0,.int .u64 0] ?_;intro asf hg w7 hbox hb;have Em:=am (hbox);have asg:=zG hg HB;replace HB:=zBs HB hb;clear hb hbox hg;obtain⟨_,_,_,_,_,_,_,_⟩:=zf4 Em)|((with_reducible refine af (f:=25) rfl ?_);refine zc (some 20) Tryz.func25 _ (scan_bad a1 p _ A4.out) ?_;rintro e w9 ⟨g,rfl,hgw,hF,hb⟩;refine⟨_,rfl,?_⟩;have KF:=am (show w9.heap[g]? = some (.cells #[.int .i64 0,.int .i64 (p:Int),.iface 64 (.int .i64 14)] 126 (0,0)) from hF);replace HB:=zBs HB hb;clear hb hF hgw)|((with_reducible refine aI (N:=8) rfl ?_);refine zx 8 23 #[.bool false,.bool false,.string (⟨#[]⟩:ByteArray),.int .i64 0] ?_;intro ash hg w10 hbox hb;have VY:=am (hbox);have asi:=zG hg HB;replace HB:=zBs HB hb;have NBF:=zNl hg KF;replace KF:=zKb KF hb;clear hb hbox hg;obtain⟨_,_,_,_,_,_,_,_⟩:=zf4 VY))
 go_ret2
 exact⟨g,rfl,zK KF,zB HB⟩
def Ua (a:Int)(s:ByteArray)(p:Int):Prop := ∀ W:World,Calls Tryz.prog 24 #[.int .i64 a,.string s] W fun e w' => ∃ g,e=.returned (.tuple #[.int .u64 0,.iface 122 (.pointer (some ⟨g,0,none⟩))])∧Fa.lM w' g 0 p 14∧Below W.heap.size W w'
theorem OV {a:Int}{s:ByteArray}{p:Int}(h:Ua a s p)(W:World):Calls Tryz.prog 24 #[.int .i64 a,.string s] W fun e w' => ∃ g,e=.returned (.tuple #[.int .u64 0,.iface 122 (.pointer (some ⟨g,0,none⟩))])∧Fa.lM w' g 0 p 14∧Below W.heap.size W w':=h W
def ZF (a:Int)(s:ByteArray)(p:Int):Prop := ∀ W:World,Calls Tryz.prog 34 #[.int .i64 a,.string s] W fun e w'=>e=.returned (.tuple #[.int .u64 0,.int .i64 14,.int .i64 p])∧Below W.heap.size W w'
theorem RX {a:Int}{s:ByteArray}{p:Int}(h:ZF a s p)(W:World):Calls Tryz.prog 34 #[.int .i64 a,.string s] W fun e w'=>e=.returned (.tuple #[.int .u64 0,.int .i64 14,.int .i64 p])∧Below W.heap.size W w':=h W
theorem Hr {w w':World}(h:Fa.mP w)(hb:Below w.heap.size w w'):Fa.mP w':=by
 have hlt:=h.lt;unfold Fa.mP at *;rw[← h];unfold World.cell?;rw[hb.block _ hlt]
theorem X0 (g:Nat)(p:Int)(W:World)(hE:Fa.mP W)(hF:Fa.lM W g 0 p 14) :
  Calls Tryz.prog 35 #[.iface 122 (.pointer (some ⟨g,0,none⟩)),.int .i64 0,.int .i64 p,.int .i64 14] W fun e w'=>e=.returned (.bool true)∧Below W.heap.size W w' :=
 (Fa.Xv g 0 p 14 0 p 14 W hE hF (by decide)).mono fun e w' h=>⟨by rw[h.1];simp,h.2⟩
theorem CQ {w w1 w2:World}(h:Below w.heap.size w w1)(hb:Below w1.heap.size w1 w2):Below w.heap.size w w2:=h.trans (hb.mono h.size)
theorem OT {w w':World}{g:Nat}{l a c:Int}(h:Fa.lM w g l a c)(hb:Below w.heap.size w w'):Fa.lM w' g l a c:=h.below hb h.lt
theorem PN (w:World)(hl:Fx.Laid w):Calls Tryz.prog 12 #[] w fun e w'=>e=.returned (.bool true)∧Below w.heap.size w w':=by
 obtain⟨k,hk⟩:=Ol.rounds;exact dK.calls k true w hk hl
set_option maxHeartbeats 1000000 in
set_option maxRecDepth 100000 in
theorem law_bad (a:Int)(s:ByteArray)(v:Int)(w:World)(hl:Fx.Laid w)(hE:Fa.mP w)(hr:ZF a s v)(hs:Ua a s v) :
  Calls Tryz.prog 10 #[.int .i64 a,.string s] w fun e w'=>e=.returned (.bool true)∧Below w.heap.size w w':=by
 have HL:=am hl;have HE:=am hE;have HR:=am hr;have HS:=am hs;clear hl hr hs hE
 go_enter Tryz.func10,Tryz.ntmps10
 go_wp2_with (first|(go_at_call 12;refine (PN _ HL.out).mono ?_;rintro e w1 ⟨rfl,hb⟩;have HB1:=am hb;clear hb)|(go_at_call 24;refine (OV HS.out _).mono ?_;rintro e w2 ⟨g,rfl,hF,hb⟩;have HF2:=am hF;have HB2:=am (CQ HB1.out hb);clear hb hF)|(go_at_call 34;refine (RX HR.out _).mono ?_;rintro e w3 ⟨rfl,hb⟩;have HF3:=am (OT HF2.out hb);have HB3:=am (CQ HB2.out hb);clear hb)|(go_at_call 35;refine (X0 g v _ (Hr HE.out HB3.out) HF3.out).mono ?_;rintro e w4 ⟨rfl,hb⟩;have HB4:=am (CQ HB3.out hb);clear hb))
 go_ret
 exact⟨rfl,HB4.out⟩
theorem ER (a0:Int)(a1:ByteArray)(w:World)(htab:Fx.Laid w)(hE:Fa.mP w) :
  Calls Tryz.prog 10 #[.int .i64 a0,.string a1] w fun e w'=>e=.returned (.bool true)∧Below w.heap.size w w':=by
 by_cases hb:(∃ n:Nat,Wd n∧a0=n)∧∃ p,vw a1.data.toList=.bad p
 ·obtain⟨⟨n,hw,rfl⟩,p,hp⟩:=hb
  refine law_bad (n:Int) a1 (p:Int) w htab hE (fun W=>?_) (fun W=>QQ hw a1 p W hp);have hr:=FV hw a1.data.toList;rw[hp]at hr;obtain⟨k,hk⟩:=hr.rounds;exact fP.calls k _ a1 _ _ _ W hk
 ·obtain⟨k,hk⟩:=(Gp a0 a1.data.toList (fun hx p hp=>hb ⟨hx,p,hp⟩)).rounds
  exact iC.calls k a0 a1 true w hk rfl htab
end Go.Proofs.Yy.PTx
end
