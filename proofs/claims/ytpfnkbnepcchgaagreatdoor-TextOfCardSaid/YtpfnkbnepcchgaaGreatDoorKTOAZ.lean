/- Part 26. -/
import Derived.Laws.Strings2
import Derived.Laws.RangeString
import Derived.Test.YtpfnkbnepcchgaaGreatDoorKTOAY
set_option linter.unusedSimpArgs false
set_option linter.unusedVariables false
section
namespace Go.Proofs.Yy.PTx
open Go.RowKit Go.Proofs.Yw.PrintWords Go.Proofs.Yw.PrintLast Go.Proofs.Yw.PrintMore Go.Proofs.Yy.SC
theorem afE {c:UInt8}:dg c=true ↔ (48≤(c.toNat:Int)∧(c.toNat:Int)≤57):=by
 unfold dg;simp only[Bool.and_eq_true,decide_eq_true_iff];omega
theorem ab6 (l:List UInt8)(hl:l.length≤9223372036854775807):∀ (d i:Nat),i+d=l.length→Ev (fun k=>dF.l0 k (mkB l) (i:Int)) ((i+ld (l.drop i):Nat):Int):=by
 intro d
 induction d with
 | zero =>
  intro i hi;refine Ev.step (f:=fun _=>some ((i+ld (l.drop i):Nat):Int)) (fun k=>?_) (Ev.now _);simp only[dF.l0];rw[if_neg (by rw[cZ];omega),List.drop_eq_nil_iff.2 (by omega)]
  rfl
 | succ d ih =>
  intro i hi
  have hlt:i<l.length:=by omega
  have hb:=EG hlt;have hd:=List.drop_eq_getElem_cons hlt
  by_cases hc:dg (l[i]'hlt)=true
  ·obtain⟨h1,h2⟩:=afE.1 hc
   have:=ih (i+1) (by omega);refine Ev.step (f:=fun k=>dF.l0 k (mkB l) ((i+1:Nat):Int)) (fun k=>?_) ?_
   ·simp only[dF.l0]
    rw[if_pos (by rw[cZ];omega),if_pos (by omega),if_pos (by rw[hb];omega),if_pos (by rw[hb];omega),kN (by omega) (by omega)]
    rfl
   ·have e:i+ld (l.drop i)=i+1+ld (l.drop (i+1)):=by rw[hd,ld,if_pos hc];omega
    rw[e];exact this
  ·refine Ev.step (f:=fun _=>some ((i+ld (l.drop i):Nat):Int)) (fun k=>?_) (Ev.now _)
   have e:i+ld (l.drop i)=i:=by rw[hd,ld,if_neg hc];rfl
   rw[e];simp only[dF.l0];rw[if_pos (by rw[cZ];omega),if_pos (by omega)]
   by_cases h1:(bt (mkB l) (i:Int))≥48
   ·rw[if_pos h1,if_neg]
    intro h2;exact hc (afE.2 ⟨by rw[hb]at h1;omega,by rw[hb]at h2;omega⟩)
   ·rw[if_neg h1]
theorem abU (l:List UInt8)(i:Nat)(hi:i≤l.length)(hl:l.length≤9223372036854775807):Ev (fun k=>dF.f k (mkB l) (i:Int)) ((i+ld (l.drop i):Nat):Int) :=
 ab6 l hl (l.length-i) i (by omega)
theorem agk {l:List UInt8}:ld l=l.length ↔ l.all dg=true:=by
 induction l with
 | nil=>simp[ld]
 | cons c l ih =>
  by_cases hc:dg c=true
  ·rw[ld,if_pos hc,List.length_cons,List.all_cons,hc,Bool.true_and, ← ih];omega
  ·rw[ld,if_neg hc,List.length_cons,List.all_cons,Bool.eq_false_iff.2 hc];simp
theorem SY (d:D)(hl:d.ds.length≤9223372036854775807):Ev (fun k=>ig.f k d.nar d.neg (mkB d.ds) d.e) (formed d):=by
 obtain⟨nar,neg,ds,e⟩:=d;simp only at hl;unfold formed
 cases nar with
 | true =>
  refine Ev.congr (f:=fun _=>some (!neg && (ds.isEmpty && decide (e=0)))) (fun k=>?_) (Ev.now _);simp only[ig.f,if_true,nO]
  cases neg with
  | true=>rfl
  | false =>
   simp only[Bool.false_eq_true,if_false]
   by_cases h0:ds=[]
   ·rw[if_pos h0];subst h0;rfl
   ·rw[if_neg h0,List.isEmpty_eq_false_iff.2 h0];rfl
 | false =>
  have ho:=abU ds 0 (Nat.zero_le _) hl;rw[Nat.zero_add,List.drop_zero]at ho;refine Ev.congr (f:=fun k=>(dF.f k (mkB ds) 0).bind fun t=>(if (mkB ds).toList=([]:List UInt8) then (some false) else (if ((mkB ds).size:Int)≤4096 then (if t=((mkB ds).size:Int) then (if e≥(-1000000) then (some (decide (e≤1000000))) else (some false)) else (some false)) else (some false)))) (fun k=>?_) ?_
  ·simp only[ig.f,Bool.false_eq_true,if_false]
  ·refine Ev.bind ho ?_
   refine Ev.congr (fun k=>?_) (Ev.now _);simp only[Bool.false_eq_true,if_false,nO,cZ];have hm:mP=1000000:=rfl
   by_cases h0:ds=[]
   ·rw[if_pos h0];subst h0;rfl
   ·rw[if_neg h0,List.isEmpty_eq_false_iff.2 h0]
    by_cases h1:(ds.length:Int)≤4096
    ·rw[if_pos h1,decide_eq_true (by omega:ds.length≤4096)]
     by_cases h2:ds.all dg=true
     ·rw[if_pos (by rw[agk.2 h2]),h2]
      by_cases h3:e ≥ -1000000
      ·rw[if_pos h3,decide_eq_true (by omega : -mP≤e)]
       rfl
      ·rw[if_neg h3,decide_eq_false (by omega:¬ -mP≤e)]
       rfl
     ·rw[if_neg (fun h=>h2 (agk.1 (by omega))),Bool.eq_false_iff.2 h2]
      rfl
    ·rw[if_neg h1,decide_eq_false (by omega:¬ ds.length≤4096)]
     rfl
theorem Ry (nar neg:Bool):∀ (n:Nat) (l:List UInt8) (e:Int),n=min (tz l) (mP-e).toNat→hd (· == 48) l=false→l≠[]→l.length≤9223372036854775807 → -1000000≤e→e≤1000000 →
  Ev (fun k=>au.l1 k nar neg (mkB l) e) (nar,neg,mkB (l.take (l.length-n)),e+n):=by
 intro n
 induction n with
 | zero =>
  intro l e hn hh h0 hl he1 he2;have hp:=List.length_pos_iff.2 h0;have hm:mP=1000000:=rfl;refine Ev.step (f:=fun _=>some (nar,neg,mkB (l.take (l.length-0)),e+((0:Nat):Int))) (fun k=>?_) (Ev.now _);simp only[au.l1];rw[Nat.sub_zero,List.take_length,show e+((0:Nat):Int)=e by omega,cZ,kN (by omega) (by omega),if_pos (by omega),if_pos (by omega)]
  by_cases hz:tz l=0
  ·have hlast:l.getLast? ≠ some 48:=by
    intro h;rcases List.eq_nil_or_concat l with h2|⟨q,c,rfl⟩
    ·exact h0 h2
    ·have hc:c=48:=by simpa using h
     subst hc;have h3:=Xt q;unfold tz at hz;rw[List.concat_eq_append,C9,List.length_append]at hz;simp at hz
     omega
   rw[if_neg];intro hb
   apply hlast
   have e1:((l.length:Int)-1)=((l.length-1:Nat):Int):=by omega
   rw[e1,EG (by omega:l.length-1<l.length)]at hb;rw[List.getLast?_eq_getElem?, List.getElem?_eq_getElem (by omega:l.length-1<l.length)]
   congr 1
   exact UInt8.toNat_inj.1 (by have:(48:UInt8).toNat=48:=rfl;omega)
  ·have:¬ e<1000000:=by omega
   by_cases hb:bt (mkB l) ((l.length:Int)-1)=48
   ·rw[if_pos hb,if_neg this]
   ·rw[if_neg hb]
 | succ n ih =>
  intro l e hn hh h0 hl he1 he2;have hp:=List.length_pos_iff.2 h0;have hm:mP=1000000:=rfl
  have hz:tz l≠0:=by omega
  obtain⟨q,c,rfl⟩:∃ q c,l=q ++ [c]:=by
   rcases List.eq_nil_or_concat l with h2|⟨q,c,h2⟩
   ·exact absurd h2 h0
   ·exact⟨q,c,by rw[h2,List.concat_eq_append]⟩
  have hc:c=48:=by
   by_cases hc:c=48
   ·exact hc
   ·exact absurd (abb (by simpa using hc)) hz
  subst hc
  have hq0:q≠[]:=by
   rintro rfl;simp[hd]at hh
  have hlen:(q ++ [48]).length=q.length+1:=by simp
  have htz:tz (q ++ [48])=tz q+1:=by
   have:=Xt q;unfold tz;rw[C9,hlen];omega
  have hq:hd (· == 48) q=false:=by
   cases q with
   | nil=>exact absurd rfl hq0
   | cons a q=>exact hh
  have key:=ih q (e+1) (by rw[htz]at hn;omega) hq hq0 (by omega) (by omega) (by rw[htz]at hn;omega)
  have hb:bt (mkB (q ++ [48])) (((q ++ [48]).length:Int)-1)=48:=by
   have e1:(((q ++ [48]).length:Int)-1)=(q.length:Int):=by rw[hlen];omega
   rw[e1,EG (by rw[hlen];omega)];simp
  have ew:wrap64 (((q ++ [48]).length:Int)-1)=((q ++ [48]).length:Int)-1:=kN (by omega) (by omega);refine Ev.step (f:=fun k=>au.l1 k nar neg (mkB q) (e+1)) (fun k=>?_) ?_
  ·simp only[au.l1]
   rw[cZ,ew,if_pos (by omega),if_pos (by omega),if_pos hb,if_pos (by omega),if_pos (by omega),kN (n:=e+1) (by omega) (by omega)]
   have e2:(((q ++ [48]).length:Int)-1).toNat=q.length:=by rw[hlen];omega
   rw[e2,xg _ _ (by rw[hlen];omega),List.take_left' rfl]
  ·have e3:(q ++ [48]).take ((q ++ [48]).length-(n+1))=q.take (q.length-n):=by
    rw[hlen,show q.length+1-(n+1)=q.length-n by omega,List.take_append_of_le_length (by omega)]
   rw[e3,show e+((n+1:Nat):Int)=e+1+(n:Int) by omega];exact key
theorem TR (neg:Bool)(e:Int)(ds:List UInt8)(hl:ds.length≤9223372036854775807)(he1 : -1000000≤e)(he2:e≤1000000):∀ (d i:Nat),i+d=ds.length→lz (ds.drop i)=lz ds →
  Ev (fun k=>au.l0 k (i:Int) false neg (mkB ds) e) (LJ (nrm ⟨false,neg,ds,e⟩)):=by
 have stop:∀ i:Nat,i≤ds.length→ds.drop i=lz ds→Ev (fun k=>au.j1 k (i:Int) false neg (mkB ds) e) (LJ (nrm ⟨false,neg,ds,e⟩)):=by
  intro i hi hd;unfold LJ nrm;simp only[Bool.false_eq_true,if_false]
  by_cases h0:lz ds=[]
  ·rw[if_pos h0]
   have:i=ds.length:=by rw[h0,List.drop_eq_nil_iff]at hd;omega
   refine Ev.step (f:=fun _=>some (false,false,mkB [48],0)) (fun k=>?_) (Ev.now _);simp only[au.j1];rw[if_pos (by rw[cZ,this])]
   rfl
  ·rw[if_neg h0]
   have hne:¬ (i:Int)=((mkB ds).size:Int):=by
    intro h;rw[cZ]at h
    apply h0
    rw[← hd,List.drop_eq_nil_iff];omega
   have hll:=aaX ds;refine Ev.step (f:=fun k=>au.l1 k false neg (mkB (lz ds)) e) (fun k=>?_) (Ry false neg _ (lz ds) e rfl (ZT ds) h0 (by omega) he1 he2);simp only[au.j1];rw[if_neg hne,if_pos (by omega),if_pos (by rw[cZ];omega),Int.toNat_natCast,xu,hd]
 intro d
 induction d with
 | zero =>
  intro i hi hz;have hn:ds.drop i=[]:=List.drop_eq_nil_iff.2 (by omega);refine Ev.step (f:=fun k=>au.j1 k (i:Int) false neg (mkB ds) e) (fun k=>?_) (stop i (by omega) (by rw[← hz,hn];rfl));simp only[au.l0];rw[if_neg (by rw[cZ];omega)]
 | succ d ih =>
  intro i hi hz
  have hlt:i<ds.length:=by omega
  have hb:=EG hlt;have hdr:=List.drop_eq_getElem_cons hlt
  by_cases hc:ds[i]'hlt=48
  ·have hc2:bt (mkB ds) (i:Int)=48:=by rw[hb,hc];rfl
   refine Ev.step (f:=fun k=>au.l0 k ((i+1:Nat):Int) false neg (mkB ds) e) (fun k=>?_) (ih (i+1) (by omega) ?_)
   ·simp only[au.l0]
    rw[if_pos (by rw[cZ];omega),if_pos (by omega),if_pos hc2,kN (by omega) (by omega)]
    rfl
   ·rw[← hz,hdr,hc]
    have:=FB 1 (ds.drop (i+1))
    simpa using this.symm
  ·have hc2:¬ bt (mkB ds) (i:Int)=48:=by
    intro h;rw[hb]at h;exact hc (UInt8.toNat_inj.1 (by have:(48:UInt8).toNat=48:=rfl;omega))
   have hcb:((ds[i]'hlt) == 48)=false:=beq_eq_false_iff_ne.2 hc;refine Ev.step (f:=fun k=>au.j1 k (i:Int) false neg (mkB ds) e) (fun k=>?_) (stop i (by omega) ?_)
   ·simp only[au.l0]
    rw[if_pos (by rw[cZ];omega),if_pos (by omega),if_neg hc2]
   ·rw[← hz]
    exact (agv (by rw[hdr];exact hcb)).symm
theorem Tq (d:D)(hl:d.ds.length≤9223372036854775807)(he1 : -1000000≤d.e)(he2:d.e≤1000000):Ev (fun k=>au.f k d.nar d.neg (mkB d.ds) d.e) (LJ (nrm d)):=by
 obtain⟨nar,neg,ds,e⟩:=d
 cases nar with
 | true =>
  refine Ev.congr (fun k=>?_) (Ev.now _);simp only[au.f,if_true]
  rfl
 | false =>
  refine Ev.congr (f:=fun k=>au.l0 k ((0:Nat):Int) false neg (mkB ds) e) (fun k=>?_) (TR neg e ds hl he1 he2 ds.length 0 (by omega) (by rw[List.drop_zero]));simp only[au.f,Bool.false_eq_true,if_false]
  rfl
end Go.Proofs.Yy.PTx
end
section
namespace Go.Proofs.Yy.PTx
open Go.RowKit Go.Proofs.Yw.PrintWords Go.Proofs.Yw.PrintLast Go.Proofs.Yw.PrintMore Go.Proofs.Yy.M Go.Proofs.Yy.NM
attribute [local irreducible] fK iG ji kQ val
theorem UT {A C:Int}:NP A C≤0 ↔ A≤C:=by
 unfold NP
 by_cases h:A<C
 ·rw[if_pos h];constructor <;> omega
 ·rw[if_neg h]
  by_cases h2:A=C
  ·rw[if_pos h2];constructor <;> omega
  ·rw[if_neg h2];constructor <;> omega
theorem afR {l x6:List Int}{C:Int}(hC:0<C){n:Nat}(hCn:C<pw D n)(hn:n≤1073741824){i:Nat}(hi:i<x6.length)(hi1:i≤1073741824){R:Int}(hR0:0≤R)(hR1:R<D*C){res:List Int × List Int}
  (next:Ev (fun k=>aH.l0 k l (enc D C) (x6.set i (R / C)) (enc D (R % C)) ((i:Int)-1)) res) :
  ∀ (m:Nat) (low high:Int),(high-low).toNat≤m→0≤low→low<high→high≤D→low*C≤R→R<high*C →
   Ev (fun k=>aH.l1 k l (enc D C) x6 (enc D R) (i:Int) low high) res:=by
 have htm:∀ q,0≤q→q≤D→C*q<pw D (n+1):=by
  intro q h0 h1;rw[fA];have h2:C*q≤C*D:=Int.mul_le_mul_of_nonneg_left h1 (by omega);have h3:C*D<pw D n*D:=Int.mul_lt_mul_of_pos_right hCn nX
  omega
 have htl:∀ q,0≤q→q≤D→(enc D (C*q)).length≤n+1:=fun q h0 h1=>mG D1 (htm q h0 h1)
 have hRl:(enc D R).length≤n+1:=by
  refine mG D1 ?_;rw[fA,Int.mul_comm];exact Int.lt_of_lt_of_le hR1 (Int.mul_le_mul_of_nonneg_left (by omega) (Int.le_of_lt nX))
 intro m
 induction m with
 | zero=>intro low high hm;omega
 | succ m ih =>
  intro low high hm l0 l1 hD hl hh;have hDn:D=16777216:=vN
  by_cases h1:high-low > 1
  ·have hw1:ae (wrap64 (high-low)=high-low):=⟨w64 (by omega) (by omega)⟩
   have hw2:ae (wrap64 (Int.tdiv (wrap64 (low+high)) 2)=(low+high) / 2):=⟨by rw[w64 (x:=low+high) (by omega) (by omega),Int.tdiv_eq_ediv_of_nonneg (by omega),w64 (by omega) (by omega)]⟩
   have ht:=vW (A:=C) (q:=(low+high) / 2) (by omega) (by omega) (by omega) (htm _ (by omega) (by omega)) (by omega);have hp:0≤C*((low+high) / 2):=Int.mul_nonneg (by omega) (by omega);have hc:=abj hp hR0 (by have:=htl ((low+high) / 2) (by omega) (by omega);omega);refine Ev.congr (f:=fun k=>aH.l1 k l (enc D C) x6 (enc D R) (i:Int) low high) (fun k=>rfl) ?_;refine Ev.step (f:=fun k=>(aI.f k (enc D C) ((low+high) / 2)).bind fun t=>(bV.f k t (enc D R)).bind fun c=>if c≤0 then aH.l1 k l (enc D C) x6 (enc D R) (i:Int) ((low+high) / 2) high else aH.l1 k l (enc D C) x6 (enc D R) (i:Int) low ((low+high) / 2)) (fun k=>?_) (Ev.bind ht (Ev.bind hc ?_))
   ·simp only[aH.l1]
    rw[hw1.out,hw2.out,if_pos h1]
   ·by_cases hle:C*((low+high) / 2)≤R
    ·refine Ev.congr (fun k=>by rw[if_pos (UT.2 hle)]) (ih ((low+high) / 2) high (by omega) (by omega) (by omega) hD (by rw[Int.mul_comm];exact hle) hh)
    ·refine Ev.congr (fun k=>by rw[if_neg (fun h=>hle (UT.1 h))]) (ih low ((low+high) / 2) (by omega) l0 (by omega) (by omega) hl (by rw[Int.mul_comm];omega))
  ·obtain rfl:high=low+1:=by omega
   rw[Int.add_mul,Int.one_mul]at hh;obtain⟨e1,e2⟩:=xO (a:=R) (y:=C) (q:=low) (t:=R-low*C) (by omega) (by omega) (by omega);rw[e1,e2]at next
   have hw1:ae (wrap64 (low+1-low)=1):=⟨by rw[w64 (by omega) (by omega)];omega⟩
   have hw3:ae (wrap64 ((i:Int)-1)=(i:Int)-1):=⟨w64 (by omega) (by omega)⟩
   have ht:=vW (A:=C) (q:=low) (by omega) l0 (by omega) (htm _ l0 (by omega)) (by omega);have hp:0≤C*low:=Int.mul_nonneg (by omega) l0;rw[Int.mul_comm]at hl;have hs:=acH hR0 hp hl (by omega);rw[Int.mul_comm low]at next;refine Ev.step (f:=fun k=>(aI.f k (enc D C) low).bind fun t=>(df.f k (enc D R) t).bind fun u=>aH.l0 k l (enc D C) (x6.set i low) u ((i:Int)-1)) (fun k=>?_) (Ev.bind ht (Ev.bind hs next));simp only[aH.l1];rw[hw1.out,hw3.out,if_neg (by omega),if_pos (by omega),if_pos (by omega),Int.toNat_natCast]
theorem agx {l:List Int}(hl:Dig D l)(hL:l.length≤1073741824){C:Int}(hC:0<C){n:Nat}(hCn:C<pw D n)(hn:n≤1073741823):∀ (i:Nat) (x:List Int) (r:Int),i≤l.length→x.length=l.length→Dig D x→0≤r→r<C→val D (l.drop i)=val D (x.drop i)*C+r →
  Ev (fun k=>aH.l0 k l (enc D C) x (enc D r) ((i:Int)-1)) (enc D (val D l / C),enc D (val D l % C)):=by
 intro i
 induction i with
 | zero =>
  intro x r hi hx hd r0 r1 hv;rw[List.drop_zero,List.drop_zero]at hv;obtain⟨e1,e2⟩:=xO hv r0 r1;rw[e1,e2];refine Ev.step (f:=fun k=>(aV.f k x).bind fun t=>some (t,enc D r)) (fun k=>?_) (Ev.bind (Dl hd (by omega)) (Ev.now _));simp only[aH.l0];rw[if_neg (by omega)]
 | succ i ih =>
  intro x r hi hx hd r0 r1 hv;have hg:=hl.get nX i;have hrl:(enc D r).length≤n:=mG D1 (by omega);have hdn:Dig D ([l.getD i 0]++enc D r):=Dig.append (Dig.cons hg.1 hg.2 (Dig.nil D)) (fJ D1 r);have hcut:=Dl hdn (by simp only[List.length_append,List.length_cons,List.length_nil];omega)
  have hval:val D ([l.getD i 0]++enc D r)=l.getD i 0+D*r:=by rw[List.singleton_append,jm,fC D1 r0]
  rw[hval]at hcut
  have hlt:i<x.length:=by omega
  have aLU:0≤D*r:=Int.mul_nonneg (Int.le_of_lt nX) r0;have aGd:D*(r+1)≤D*C:=Int.mul_le_mul_of_nonneg_left (by omega) (Int.le_of_lt nX);rw[Int.mul_add,Int.mul_one]at aGd;have he:=Int.mul_ediv_add_emod (l.getD i 0+D*r) C;have q0:0≤(l.getD i 0+D*r) / C:=Int.ediv_nonneg (by omega) (by omega);have q1:(l.getD i 0+D*r) / C<D:=Int.ediv_lt_of_lt_mul hC (by omega);have t0:=Int.emod_nonneg (l.getD i 0+D*r) (show C≠0 by omega);have t1:=Int.emod_lt_of_pos (l.getD i 0+D*r) hC
  have key:=afR (l:=l) (x6:=x) hC hCn (by omega) hlt (by omega) (show 0≤l.getD i 0+D*r by omega) (by omega) (ih (x.set i ((l.getD i 0+D*r) / C)) ((l.getD i 0+D*r) % C) (by omega) (by simpa using hx) (hd.set q0 q1) t0 t1 (by
   rw[uD x i _ hlt,Af l i (by omega),jm,jm]
   exact FW (by rw[Int.mul_comm r,Int.add_comm (D*r),Int.mul_comm _ C];omega) hv)) (D-0).toNat 0 D (Nat.le_refl _) (Int.le_refl _) nX (Int.le_refl _) (by omega) (by omega)
  have hi1:ae (((i+1:Nat):Int)-1=(i:Int)):=⟨by omega⟩
  rw[show D=16777216 from vN]at key;refine Ev.step (f:=fun k=>(aV.f k ([l.getD i 0]++enc D r)).bind fun t=>aH.l1 k l (enc D C) x t (i:Int) 0 16777216) (fun k=>?_) (Ev.bind hcut (by rw[show D=16777216 from vN];exact key));simp only[aH.l0];rw[hi1.out,if_pos (by omega),if_pos (by omega),if_pos (by omega),eF];simp only[Option.bind_some];rw[if_pos (by simp only[List.length_cons,List.length_nil];omega)]
theorem O1 {A C:Int}(hA:0≤A)(hC:0<C)(hLA:(enc D A).length≤1073741824)(hLC:(enc D C).length≤1073741823):Ev (fun k=>aH.f k (enc D A) (enc D C)) (enc D (A / C),enc D (A % C)):=by
 have hCn:=kW nX (fJ D1 C);rw[fC D1 (Int.le_of_lt hC)]at hCn;have:=agx (fJ D1 A) hLA hC hCn hLC (enc D A).length (List.replicate (enc D A).length 0) 0 (Nat.le_refl _) (by simp) (Dig.zeros nX _) (Int.le_refl _) hC (by simp[val]);rw[fC D1 hA,eX]at this;refine Ev.congr (fun k=>?_) this;unfold aH.f;rw[if_pos (by omega),Int.toNat_natCast,if_pos (by omega),w64 (by omega) (by omega)]
theorem Cm {b n:Int}(hb:1<b)(h:0<n):0<(enc b n).length:=(qH hb (Int.le_of_lt h) 0).2 (by rw[fG];exact h)
def dgt (c:UInt8):Bool:=decide (48≤c.toNat) && decide (c.toNat≤57)
def lead:List UInt8→Nat
 | []=>0
 | c::r=>if dgt c=true then lead r+1 else 0
theorem XI {l:List UInt8}(h:∀ c ∈ l,dgt c=true):lead l=l.length:=by
 induction l with
 | nil=>rfl
 | cons c r ih =>
  unfold lead;rw[if_pos (h c List.mem_cons_self),ih (fun x hx=>h x (List.mem_cons_of_mem _ hx)),List.length_cons]
theorem decode_high (s:ByteArray)(i:Nat)(h:¬ (s.get! i).toNat<128):128≤(Utf8.decode s i).1:=by
 unfold Utf8.decode Utf8.runeError;simp only[Nat.add_zero]
 repeat' split
 all_goals first|omega|(dsimp only;omega)|(simp_all;done)|(simp_all;omega)
theorem EL {c:UInt8}(h:¬ dgt c=true):mF c.toNat=true:=by
 unfold mF dgt at *
 by_cases h1:c.toNat<48
 ·simp[h1]
 ·by_cases h2:57<c.toNat
  ·simp[h2]
  ·exact absurd (by simp;omega) h
theorem Px {c:UInt8}(h:dgt c=true):mF c.toNat=false:=by
 unfold mF dgt at *;simp at h ⊢
 omega
theorem Yu (l:List UInt8):∀ (f pos:Nat),l.length≤pos+f→Lib.idxFuncFrom mF true (mkB l) f pos=if pos+lead (l.drop pos)<l.length then ((pos+lead (l.drop pos):Nat):Int) else -1:=by
 intro f
 induction f with
 | zero =>
  intro pos h;rw[List.drop_of_length_le (by omega)];unfold Lib.idxFuncFrom;rw[if_neg (by simp[lead];omega)]
 | succ f ih =>
  intro pos h;unfold Lib.idxFuncFrom;rw[cZ]
  by_cases hp:pos<l.length
  ·have hps:pos<(mkB l).size:=by rw[cZ];exact hp
   obtain⟨c,hc⟩:∃ c,l[pos]'hp=c:=⟨_,rfl⟩
   have hdrop:l.drop pos=c::l.drop (pos+1):=by rw[← hc];exact List.drop_eq_getElem_cons hp
   have hgc:(mkB l)[pos]'hps=c:=hc;rw[if_pos hp,hdrop]
   by_cases hd:dgt c=true
   ·have h128:c.toNat<128:=by
     have hd2:=hd;unfold dgt at hd2;simp at hd2;omega
    rw[decode_ascii (mkB l) pos hps (by rw[hgc];exact h128)];dsimp only;rw[hgc,Px hd,if_neg (by decide),ih (pos+1) (by omega)]
    have e:lead (c::l.drop (pos+1))=lead (l.drop (pos+1))+1:=by rw[lead,if_pos hd]
    rw[e,show pos+(lead (l.drop (pos+1))+1)=pos+1+lead (l.drop (pos+1)) by omega]
   ·have hn:mF (Utf8.decode (mkB l) pos).1=true:=by
     by_cases h128:c.toNat<128
     ·rw[decode_ascii (mkB l) pos hps (by rw[hgc];exact h128)]
      dsimp only;rw[hgc];exact EL hd
     ·have hg:(mkB l).get! pos=(mkB l)[pos]'hps:=by
       show (mkB l).data[pos]! = _;rw[getElem!_pos (mkB l).data pos hps];rfl
      have:=decode_high (mkB l) pos (by rw[hg,hgc];exact h128);unfold mF;simp
      omega
    rw[hn,if_pos rfl]
    have e:lead (c::l.drop (pos+1))=0:=by rw[lead,if_neg hd]
    rw[e,Nat.add_zero,if_pos hp]
  ·rw[if_neg hp,List.drop_of_length_le (by omega),if_neg (by simp[lead];omega)]
theorem Yj (l:List UInt8):Lib.idxFuncFrom mF true (mkB l) (mkB l).size 0=if lead l<l.length then ((lead l:Nat):Int) else -1:=by
 have h:=Yu l (mkB l).size 0 (by rw[cZ];omega);rw[List.drop_zero,Nat.zero_add]at h;exact h
theorem alK (s:ByteArray):strings_IndexFunc.f s=some (Lib.idxFuncFrom mF true s s.size 0):=by unfold strings_IndexFunc.f Lib.idxFunc;exact congrArg some rfl
theorem abS (l:List UInt8):strings_IndexFunc.f (mkB l)=some (if lead l<l.length then ((lead l:Nat):Int) else -1):=(alK _).trans (congrArg some (Yj l))
def tN (V:Nat)(l:List UInt8):Nat:=l.foldl (fun a c=>a*10+(c.toNat-48)) V
theorem rW (V:Nat)(c:UInt8)(r:List UInt8):tN V (c::r)=tN (V*10+(c.toNat-48)) r:=by unfold tN;rw[List.foldl_cons]
theorem KG (V:Nat)(a b:List UInt8):tN V (a++b)=tN (tN V a) b:=by unfold tN;rw[List.foldl_append]
theorem aa6 (l:List UInt8):∀ V,V≤tN V l:=by
 induction l with
 | nil=>intro V;exact Nat.le_refl _
 | cons c r ih=>intro V;rw[rW];have:=ih (V*10+(c.toNat-48));omega
theorem FC (l:List UInt8):∀ V,tN V l=V*10 ^ l.length+tN 0 l:=by
 induction l with
 | nil=>intro V;simp[tN]
 | cons c r ih =>
  intro V;rw[rW,rW,ih,ih (0*10+(c.toNat-48)),List.length_cons,Nat.pow_succ];have e1:(V*10+(c.toNat-48))*10 ^ r.length=V*10*10 ^ r.length+(c.toNat-48)*10 ^ r.length:=Nat.add_mul ..
  have e2:(0*10+(c.toNat-48))*10 ^ r.length=(c.toNat-48)*10 ^ r.length:=by rw[Nat.zero_mul,Nat.zero_add]
  have e3:V*(10 ^ r.length*10)=V*10*10 ^ r.length:=by rw[Nat.mul_comm (10 ^ r.length),Nat.mul_assoc]
  rw[e1,e2,e3]
  omega
theorem SB {l:List UInt8}(h:∀ c ∈ l,dgt c=true):tN 0 l<10 ^ l.length:=by
 induction l with
 | nil=>simp[tN]
 | cons c r ih =>
  have hc:=h c List.mem_cons_self;have hr:=ih (fun x hx=>h x (List.mem_cons_of_mem _ hx));rw[rW,FC,List.length_cons,Nat.pow_succ];unfold dgt at hc;simp at hc;have h9:(0*10+(c.toNat-48))*10 ^ r.length≤9*10 ^ r.length:=Nat.mul_le_mul_right _ (by omega)
  omega
theorem XL (M:Nat)(hM:M≤18446744073709551615)(l:List UInt8):∀ acc,(∀ c ∈ l,dgt c=true)→tN acc l≤M→Lib.parseUintM M acc l=.ok (tN acc l):=by
 induction l with
 | nil=>intro acc _ _;rfl
 | cons c r ih =>
  intro acc hd hle;have hc:=hd c List.mem_cons_self;unfold dgt at hc;simp at hc;rw[rW]at hle;have hge:=aa6 r (acc*10+(c.toNat-48));unfold Lib.parseUintM;rw[if_pos hc,if_neg (by omega),if_neg (by omega),ih _ (fun x hx=>hd x (List.mem_cons_of_mem _ hx)) hle,rW]
theorem LW {l:List UInt8}(h:∀ c ∈ l,dgt c=true)(h0:l≠[])(h19:l.length≤19):gZ.f (mkB l) 10 64=some ((tN 0 l:Int),none):=by
 have hlt:=SB h;have hp:10 ^ l.length≤10 ^ 19:=Nat.pow_le_pow_right (by decide) h19
 have e19:(10:Nat) ^ 19=10000000000000000000:=by decide
 unfold gZ.f;rw[if_pos ⟨rfl,rfl,by rw[cZ];omega⟩]
 have hpu:Lib.parseUintB 64 (mkB l).data.toList=.ok (tN 0 l):=by
  rw[uG];unfold Lib.parseUintB;rw[if_neg h0];exact XL _ (by decide) l 0 h (by omega)
 rw[hpu]
theorem Qn (s:ByteArray)(x5:List Int)(n v:Int)(nn:Nat)(h19:nn≤19)(R:List Int × Option Int)
  (next:Ev (fun k=>(dJ.f k x5 [pw 10 nn]).bind fun t=>(qU.f k v).bind fun u=>(gp.f k t u).bind fun z=>(if 0≤n then (if n≤(s.size:Int) then fU.l0 k (s.extract n.toNat s.size) z else none) else none)) R) :
  ∀ (d i:Nat),i+d=nn→Ev (fun k=>fU.l1 k s x5 n v (pw 10 i) (nn:Int) (i:Int)) R:=by
 intro d
 induction d with
 | zero =>
  intro i hi
  obtain rfl:i=nn:=by omega
  refine Ev.step (fun k=>?_) next;simp only[fU.l1];rw[if_neg (by omega)]
 | succ d ih =>
  intro i hi
  have hw:ae (wrap64 ((i:Int)+1)=((i+1:Nat):Int)):=⟨by rw[w64 (by omega) (by omega)];omega⟩
  have hp0:=yU i
  have hp:pw 10 i*10≤10000000000000000000:=by
   rw[← Gy, ← fA];exact EN (by decide) (by omega)
  have hw2:ae (IntKind.u64.wrap (pw 10 i*10)=pw 10 (i+1)):=⟨by rw[tJ (by omega) (by omega),fA]⟩
  refine Ev.step (fun k=>?_) (ih (i+1) (by omega));simp only[fU.l1];rw[if_pos (by omega),hw.out,hw2.out]
theorem abr:∀ (m:Nat) (l:List UInt8) (V:Int),(∀ c ∈ l,dgt c=true)→l.length≤m→0≤V→(enc B V).length+l.length≤1073741824 →
  Ev (fun k=>fU.l0 k (mkB l) (enc B V)) (enc B (V*pw 10 l.length+(tN 0 l:Int)),none):=by
 intro m
 induction m with
 | zero =>
  intro l V hd hl hV hL;obtain rfl:l=[]:=List.length_eq_zero_iff.1 (by omega);refine Ev.step (f:=fun _=>some (enc B V,none)) (fun k=>?_) (by rw[List.length_nil,iW,Int.mul_one];exact (by simp[tN];exact Ev.now _));simp only[fU.l0];rw[cZ,if_neg (by simp)]
 | succ m ih =>
  intro l V hd hl hV hL
  by_cases h0:l=[]
  ·subst h0
   refine Ev.step (f:=fun _=>some (enc B V,none)) (fun k=>?_) (by rw[List.length_nil,iW,Int.mul_one];exact (by simp[tN];exact Ev.now _));simp only[fU.l0];rw[cZ,if_neg (by simp)]
  ·have hlp:0<l.length:=List.length_pos_iff.2 h0
   obtain⟨n,hn⟩:∃ n:Nat,n=min l.length 19:=⟨_,rfl⟩
   have hmn:mn ((mkB l).size:Int) 19=(n:Int):=by rw[cZ];unfold mn;split <;> omega
   have hda:∀ c ∈ l.take n,dgt c=true:=fun c hc=>hd c (List.mem_of_mem_take hc);have hdb:∀ c ∈ l.drop n,dgt c=true:=fun c hc=>hd c (List.mem_of_mem_drop hc)
   have hla:(l.take n).length=n:=by rw[List.length_take];omega
   have hpc:=LW hda (by intro h;rw[h]at hla;simp at hla;omega) (by omega)
   have hext:(mkB l).extract 0 n=mkB (l.take n):=by
    unfold mkB;rw[ByteArray.extract_mk,List.drop_zero,Nat.sub_zero]
   have atT:(mkB l).extract n l.length=mkB (l.drop n):=by
    unfold mkB;rw[ByteArray.extract_mk,List.take_of_length_le (by rw[List.length_drop];omega)]
   have hlt:=SB hda;rw[hla]at hlt
   have hvB:((tN 0 (l.take n):Nat):Int)<B:=by
    have hp:10 ^ n≤10 ^ 19:=Nat.pow_le_pow_right (by decide) (by omega)
    have e19:(10:Nat) ^ 19=10000000000000000000:=by decide
    rw[uh];omega
   have hsB:pw 10 n<B:=by
    have:=EN (b:=10) (by decide) (show n≤19 by omega);rw[Gy]at this;rw[uh];omega
   have hs0:=yU n;have ht:=BQ (fJ B1 V) (GL (b:=B) (Int.le_of_lt hs0) hsB) (by simp;omega);rw[fC B1 hV,Ht]at ht;have hVs:0≤V*pw 10 n:=Int.mul_nonneg hV (Int.le_of_lt hs0)
   have hl1:(enc B (V*pw 10 n)).length≤(enc B V).length+1:=by
    refine mG B1 ?_;rw[fA];have h1:=kW jw (fJ B1 V);rw[fC B1 hV]at h1;have h2:V*pw 10 n≤V*B:=Int.mul_le_mul_of_nonneg_left (Int.le_of_lt hsB) hV;have h3:V*B<pw B (enc B V).length*B:=Int.mul_lt_mul_of_pos_right h1 jw
    omega
   have hof:=aaj (v:=((tN 0 (l.take n):Nat):Int)) (by omega) hvB;have hl2:(enc B ((tN 0 (l.take n):Nat):Int)).length≤1:=mG B1 (by rw[ZQ];exact hvB);have hpl:=aaU (fJ B1 (V*pw 10 n)) (fJ B1 ((tN 0 (l.take n):Nat):Int)) (by omega) (by omega);rw[fC B1 hVs,fC B1 (by omega)]at hpl
   have hnew:0≤V*pw 10 n+((tN 0 (l.take n):Nat):Int):=by omega
   have hl3:(enc B (V*pw 10 n+((tN 0 (l.take n):Nat):Int))).length≤(enc B V).length+1:=by
    refine mG B1 ?_;rw[fA];have h1:=kW jw (fJ B1 V);rw[fC B1 hV]at h1
    have h4:((tN 0 (l.take n):Nat):Int)<pw 10 n:=by
     rw[uq]
     have e:((10 ^ n:Nat):Int)=(10:Int) ^ n:=by simp
     omega
    have h5:(V+1)*pw 10 n≤pw B (enc B V).length*pw 10 n:=Int.mul_le_mul_of_nonneg_right (by omega) (Int.le_of_lt hs0);have h6:pw B (enc B V).length*pw 10 n≤pw B (enc B V).length*B:=Int.mul_le_mul_of_nonneg_left (Int.le_of_lt hsB) (Int.le_of_lt (jQ jw _));rw[Int.add_mul,Int.one_mul]at h5
    omega
   have key:=ih (l.drop n) _ hdb (by rw[List.length_drop];omega) hnew (by rw[List.length_drop];omega)
   have hfin:(V*pw 10 n+((tN 0 (l.take n):Nat):Int))*pw 10 (l.drop n).length+((tN 0 (l.drop n):Nat):Int)=V*pw 10 l.length+((tN 0 l:Nat):Int):=by
    have e1:l.length=n+(l.drop n).length:=by rw[List.length_drop];omega
    have e2:tN 0 l=tN 0 (l.take n)*10 ^ (l.drop n).length+tN 0 (l.drop n):=by
     rw[← FC, ← KG,List.take_append_drop]
    have e3:((10 ^ (l.drop n).length:Nat):Int)=pw 10 (l.drop n).length:=by rw[uq];simp
    rw[e2,Int.natCast_add,Int.natCast_mul,e3,e1,qA];simp only[List.length_drop]
    grind
   rw[hfin]at key
   have hsc:=Qn (mkB l) (enc B V) (n:Int) ((tN 0 (l.take n):Nat):Int) n (by omega) (enc B (V*pw 10 l.length+((tN 0 l:Nat):Int)),none) (by
    refine Ev.bind ht (Ev.bind hof (Ev.bind hpl ?_));refine Ev.congr (fun k=>?_) key
    rw[if_pos (by omega),cZ,if_pos (by omega),Int.toNat_natCast,atT]) n 0 (by omega)
   rw[iW]at hsc;refine Ev.step (fun k=>?_) hsc;simp only[fU.l0];rw[hmn,cZ,if_pos (by omega),if_pos (by omega),if_pos (by omega),Int.toNat_natCast,hext,hpc];simp only[Option.bind_some];rw[if_pos (by rfl)]
   rfl
theorem Yn {l:List UInt8}(hd:∀ c ∈ l,dgt c=true)(h0:l≠[])(hl:l.length≤4096):Ev (fun k=>fU.f k (mkB l)) (enc B (tN 0 l:Int),none):=by
 have h:=abr l.length l 0 hd (Nat.le_refl _) (Int.le_refl _) (by rw[eX];simp;omega);rw[Int.zero_mul,Int.zero_add,eX]at h;refine Ev.congr (f:=fun k=>fU.j0 k (mkB l) (-1)) (fun k=>?_) (Ev.step (fun k=>?_) h)
 ·unfold fU.f
  rw[cZ,if_neg (by omega),abS,if_neg (by rw[XI hd];omega)];simp only[Option.bind_some];rw[if_neg (by rw[Lib.toList_data,uG];exact h0)]
 ·simp only[fU.j0]
  rw[if_neg (by decide)]
end Go.Proofs.Yy.PTx
end
section
namespace Go.Proofs.Yy.PTx
open Go.RowKit Go.Proofs.Yw.PrintWords Go.Proofs.Yw.PrintLast Go.Proofs.Yw.PrintMore Go.Proofs.Yy.M Go.Proofs.Yy.TA Go.Proofs.Yy.NM
open Go.Proofs.Yy.SC (D)
attribute [local irreducible] fK iG ji kQ val
theorem XD (n:Nat):pw 10 n=((10 ^ n:Nat):Int):=by rw[uq,Int.natCast_pow];rfl
theorem JD (l:List UInt8):tN 0 l=xB l:=rfl
theorem wz {V:Nat}(h:0<V):∃ b,1≤b∧V<2 ^ b∧2 ^ (b-1)≤V∧bl (V:Int)=b:=by
 refine⟨V.log2+1,by omega,Nat.lt_log2_self,?_,?_⟩
 ·rw[Nat.add_sub_cancel];exact Nat.log2_self_le (by omega)
 ·exact acu Nat.lt_log2_self (fun _=>by rw[Nat.add_sub_cancel];exact Nat.log2_self_le (by omega))
theorem vZ {V b m:Nat}(hb1:1≤b)(h2:2 ^ (b-1)≤V)(h:V<2 ^ m):b≤m:=by
 apply Nat.le_of_not_lt
 intro hc;have:2 ^ m≤2 ^ (b-1):=Nat.pow_le_pow_right (by omega) (by omega)
 omega
theorem Gf (k:Nat):10 ^ k<2 ^ (4*k+1):=by
 have h:10 ^ k≤16 ^ k:=Nat.pow_le_pow_left (by omega) k;rw[show (16:Nat)=2 ^ 4 by rfl, ← Nat.pow_mul]at h;have:2 ^ (4*k)<2 ^ (4*k+1):=Nat.pow_lt_pow_right (by omega) (by omega)
 omega
theorem xI {a m n:Nat}(h1:a<2 ^ m)(h2:m≤n):a<2 ^ n:=Nat.lt_of_lt_of_le h1 (Nat.pow_le_pow_right Nat.two_pos h2)
theorem Ha {a c m n k:Nat}(h1:a<2 ^ m)(h2:c<2 ^ n)(h3:m+n=k):a*c<2 ^ k:=by
 rw[← h3,Nat.pow_add];exact Nat.mul_lt_mul_of_lt_of_lt h1 h2
def Told (f:Nat→Option (Int × Bool × Int × Int × Int × Bool × Option Int))(d:D):Prop :=
 ∃ (s:Int) (T:Nat) (c:Bool), -1000000≤s∧s≤1000000∧2 ^ 127≤T∧T<2 ^ 128∧Ev f (1,d.neg,s,hiI T,loI T,c,none)∧∀ n,8≤n→n≤64→Ov n s T c=Q9 n d
theorem OE (neg:Bool){x:Int}(h1 : -1000000≤x)(h2:x≤1000000):Ev (fun k=>dL.f k neg 0 1 x false) (1,neg,x,hiI (2 ^ 127),loI (2 ^ 127),false,none):=by
 have h:=Uk (V:=1) (b:=1) (Nat.le_refl _) (by decide) (by decide) (by decide) neg false (by simp) h1 h2;rw[show hiI 1=0 by rfl,show loI 1=1 by rfl,show x+((1:Nat):Int)-1=x by omega,Nat.one_mul]at h;exact h
theorem Bg {v:Nat}:Dig B (enc B (v:Int)):=fJ B1 _
theorem yM {v:Nat}:val B (enc B (v:Int))=(v:Int):=fC B1 (Int.natCast_nonneg v)
theorem y9 {v m:Nat}(h:v<2 ^ (64*m)):(enc B (v:Int)).length≤m:=mG B1 (by rw[pwB,TP];exact_mod_cast h)
theorem Xw {d:D}(hn:d.nar=false){c0:UInt8}{l0:List UInt8}(hd:d.ds=c0::l0)(hc0:49≤c0.toNat)(hg:∀ c ∈ d.ds,48≤c.toNat∧c.toNat≤57)(hl:d.ds.length≤4096)(he1 : -1000000≤d.e)(he2:d.e≤1000000) :
  Told (fun k=>gW.f k d.nar d.neg (mkB d.ds) d.e) d:=by
 have hl1:d.ds.length=l0.length+1:=by rw[hd];rfl
 obtain⟨A_,hA_⟩:∃ x:Nat,x=260:=⟨_,rfl⟩
 obtain⟨T_,hT_⟩:∃ x:Nat,x=270:=⟨_,rfl⟩
 obtain⟨U_,hU_⟩:∃ x:Nat,x=340:=⟨_,rfl⟩
 obtain⟨S_,hS_⟩:∃ x:Nat,x=600:=⟨_,rfl⟩
 obtain⟨X_,hX_⟩:∃ x:Nat,x=10:=⟨_,rfl⟩
 have hsz:((mkB d.ds).size:Int)=d.ds.length:=by rw[cZ]
 by_cases h1:(100:Int)<d.ds.length+d.e
 ·refine⟨1000,2 ^ 127,false,by omega,by omega,by decide,by decide,?_,fun n h8 h64=>by rw[(N8 h8 h64 _ _).1,JI h64 hd hc0 (by omega)]⟩
  unfold gW.f;rw[hsz,qm (by omega) (by omega)];simp only[show (d.ds.length:Int)+d.e > 100 from h1,if_true];exact Ev.bind (OE _ (by omega) (by omega)) (Ev.now _)
 by_cases h2:(d.ds.length:Int)+d.e < -100
 ·refine⟨-1000,2 ^ 127,false,by omega,by omega,by decide,by decide,?_,fun n h8 h64=>by rw[(N8 h8 h64 _ _).2,NJ (by omega) h64 hd hc0 hg (by omega)]⟩
  unfold gW.f;rw[hsz,qm (by omega) (by omega)];simp only[show ¬ ((d.ds.length:Int)+d.e > 100) by omega,show (d.ds.length:Int)+d.e < -100 from h2,if_true,if_false];exact Ev.bind (OE _ (by omega) (by omega)) (Ev.now _)
 have hdg:∀ c ∈ d.ds,dgt c=true:=fun c hc=>by unfold dgt;rw[decide_eq_true (hg c hc).1,decide_eq_true (hg c hc).2];rfl
 have hread:=Yn hdg (by rw[hd];simp) hl;rw[JD]at hread
 have hm0:0<xB d.ds:=by
  have:=yX (l:=l0) hc0;rw[← hd]at this;have:=Nat.pow_pos (a:=10) (n:=l0.length) (by decide)
  omega
 have hmlt:xB d.ds<2 ^ (64*A_):=by
  have h3:=GH d.ds 0 hg;rw[Nat.zero_add,Nat.one_mul]at h3;have h4:xB d.ds<10 ^ d.ds.length:=h3;have h5:=Gf d.ds.length;exact xI (Nat.lt_trans h4 h5) (by omega)
 by_cases he:0≤d.e
 ·obtain⟨k,hk⟩:=Int.eq_ofNat_of_zero_le he
  have aLV:k≤99:=by omega
  have hmx:mx d.e (wrap64 (-d.e))=(k:Int):=by rw[qm (by omega) (by omega)];unfold mx;split <;> omega
  have hten:=SA k (by omega);rw[XD]at hten
  have hV:Ak d=xB d.ds*10 ^ k:=by unfold Ak;rw[hk,Int.toNat_natCast]
  have hC:Jj d=1:=by unfold Jj;rw[show (-d.e).toNat=0 by omega,Nat.pow_zero]
  have hp:=Nat.pow_pos (a:=10) (n:=k) (by decide)
  have hV0:0<Ak d:=by rw[hV];exact Nat.mul_pos hm0 hp
  have htlt:10 ^ k<2 ^ (64*X_):=xI (Gf k) (by omega)
  have hVlt:Ak d<2 ^ (64*T_):=by
   rw[hV];exact Ha hmlt htlt (by omega)
  have hmul:Ev (fun n=>lM.f n [enc B (xB d.ds:Int),enc B ((10 ^ k:Nat):Int)]) (enc B (Ak d:Int)):=by
   have h:=afW (l := [enc B (xB d.ds:Int),enc B ((10 ^ k:Nat):Int)]) (by intro x hx;simp only[List.mem_cons,List.mem_nil_iff,or_false]at hx;rcases hx with rfl|rfl <;> exact Bg) (by
    have a1:=y9 hmlt;have a2:=y9 htlt;simp only[List.map_cons,List.map_nil,List.sum_cons,List.sum_nil,List.length_cons,List.length_nil]
    omega)
   unfold afO at h;simp only[List.foldl_cons,List.foldl_nil,yM,Int.one_mul]at h;rw[← Int.natCast_mul, ← hV]at h;exact h
  obtain⟨b,hb1,hb2,hb3,_⟩:=wz hV0;have hbb:=vZ hb1 hb3 hVlt;have hup:=Ol (a:=enc B (Ak d:Int)) Bg (Nat.le_trans (y9 hVlt) (by omega)) yM hb1 hb2 hb3 d.neg false (by simp) (by omega) (x:=0) (by omega) (by omega);obtain⟨t1,t2⟩:=xU hb1 hb2 hb3;refine⟨0+b-1,Ku (Ak d) b,false || decide (Ak d % 2 ^ (b-64)≠0),by omega,by omega,t1,t2,?_,fun n h8 h64=>?_⟩
  ·unfold gW.f
   rw[hsz,qm (by omega) (by omega)];simp only[show ¬ ((d.ds.length:Int)+d.e > 100) by omega,show ¬ ((d.ds.length:Int)+d.e < -100) by omega,if_false,hmx];refine Ev.bind hread ?_;simp only[Option.isNone_none,if_true];refine Ev.bind hten ?_;simp only[Option.isNone_none,if_true,show d.e≥0 from he];refine Ev.bind hmul ?_;exact Ev.bind hup (Ev.now _)
  ·have h:=Oa (n:=n) (N:=Ak d) (C:=Jj d) (u:=0) (q:=Ak d) (r:=0) (b:=b) h8 h64 (uJ d) (by rw[hC];simp) (uJ d) hb1 hb2 hb3 (by simp)
   unfold Q9;rw[← h]
   rfl
 ·obtain⟨k,hk⟩:=Int.eq_ofNat_of_zero_le (show 0 ≤ -d.e by omega)
  have hk1:k≤4196:=by omega
  have hmx:mx d.e (wrap64 (-d.e))=(k:Int):=by rw[qm (by omega) (by omega)];unfold mx;split <;> omega
  have hten:=SA k (by omega);rw[XD]at hten
  have hN:Ak d=xB d.ds:=by unfold Ak;rw[show d.e.toNat=0 by omega,Nat.pow_zero,Nat.mul_one]
  have hC:Jj d=10 ^ k:=by unfold Jj;rw[hk,Int.toNat_natCast]
  have hp:=Nat.pow_pos (a:=10) (n:=k) (by decide);have htlt:10 ^ k<2 ^ (64*T_):=xI (Gf k) (by omega);obtain⟨bm,m1,m2,m3,m4⟩:=wz hm0;obtain⟨bt_,t1,t2,t3,t4⟩:=wz hp;have bm1:=vZ m1 m3 hmlt;have bt1:=vZ t1 t3 htlt
  obtain⟨up,hup⟩:∃ up,bt_+66-bm=up:=⟨_,rfl⟩
  have humx:mx 0 (wrap64 (wrap64 ((bt_:Int)-(bm:Int))+66))=(up:Int):=by
   rw[qm (x:=(bt_:Int)-(bm:Int)) (by omega) (by omega),qm (by omega) (by omega)];unfold mx
   split <;> omega
  have hbt:=Hl (a:=enc B ((10 ^ k:Nat):Int)) Bg (Nat.le_trans (y9 htlt) (by omega));have hbm:=Hl (a:=enc B (xB d.ds:Int)) Bg (Nat.le_trans (y9 hmlt) (by omega));rw[yM,t4]at hbt;rw[yM,m4]at hbm;have hshl:=abZ (a:=enc B (xB d.ds:Int)) Bg (Nat.le_trans (y9 hmlt) (by omega)) up (by omega);rw[yM,TP, ← Int.natCast_mul]at hshl
  have hnlt:xB d.ds*2 ^ up<2 ^ (64*S_):=by
   have h3:2 ^ up<2 ^ (up+1):=by rw[Nat.pow_succ];have:=two_pos up;omega
   exact Ha hmlt (xI (n:=64*U_) h3 (by omega)) (by omega)
  have hdiv:=aa1 (a:=enc B ((xB d.ds*2 ^ up:Nat):Int)) (b:=enc B ((10 ^ k:Nat):Int)) Bg Bg (Nat.le_trans (y9 hnlt) (by omega)) (Nat.le_trans (y9 htlt) (by omega)) (by rw[yM];omega);rw[yM,yM, ← Int.natCast_ediv, ← Int.natCast_emod]at hdiv
  obtain⟨q,hq⟩:∃ q,xB d.ds*2 ^ up / 10 ^ k=q:=⟨_,rfl⟩
  obtain⟨r,hr⟩:∃ r,xB d.ds*2 ^ up % 10 ^ k=r:=⟨_,rfl⟩
  have hqr:xB d.ds*2 ^ up=10 ^ k*q+r:=by rw[← hq, ← hr];exact (Nat.div_add_mod _ _).symm
  have hrlt:r<10 ^ k:=by rw[← hr];exact Nat.mod_lt _ hp
  rw[hq,hr]at hdiv
  have aLW:2 ^ 65≤q:=by
   rw[← hq,Nat.le_div_iff_mul_le hp];have e1:2 ^ 65*10 ^ k≤2 ^ 65*2 ^ bt_:=Nat.mul_le_mul_left _ (Nat.le_of_lt t2)
   have e2:2 ^ 65*2 ^ bt_≤2 ^ (bm-1)*2 ^ up:=by
    rw[← Nat.pow_add, ← Nat.pow_add];exact Nat.pow_le_pow_right (by omega) (by omega)
   exact Nat.le_trans e1 (Nat.le_trans e2 (Nat.mul_le_mul_right _ m3))
  obtain⟨b,hb1,hb2,hb3,_⟩:=wz (V:=q) (by omega)
  have hb64:64≤b:=by
   apply Nat.le_of_not_lt
   intro hc;have:2 ^ b≤2 ^ 64:=Nat.pow_le_pow_right (by omega) (by omega)
   omega
  have hqlt:q<2 ^ (64*S_):=Nat.lt_of_le_of_lt (by rw[← hq];exact Nat.div_le_self _ _) hnlt;have hbb:=vZ hb1 hb3 hqlt
  have hrest:decide (((enc B (r:Int)).length:Int) > 0)=decide (r≠0):=by
   apply decide_eq_decide.2
   constructor
   ·intro h h0
    rw[h0]at h;rw[show ((0:Nat):Int)=0 by rfl,eX]at h;exact absurd h (by decide)
   ·intro h
    have:=Cm B1 (n:=(r:Int)) (by omega)
    omega
  have aGe:=Ol (a:=enc B (q:Int)) Bg (Nat.le_trans (y9 hqlt) (by omega)) yM hb1 hb2 hb3 d.neg (decide (r≠0)) (fun _=>hb64) (by omega) (x := -(up:Int)) (by omega) (by omega);obtain⟨tt1,tt2⟩:=xU hb1 hb2 hb3;refine⟨-(up:Int)+b-1,Ku q b,decide (r≠0) || decide (q % 2 ^ (b-64)≠0),by omega,by omega,tt1,tt2,?_,fun n h8 h64=>?_⟩
  ·unfold gW.f
   rw[hsz,qm (by omega) (by omega)];simp only[show ¬ ((d.ds.length:Int)+d.e > 100) by omega,show ¬ ((d.ds.length:Int)+d.e < -100) by omega,if_false,hmx];refine Ev.bind hread ?_;simp only[Option.isNone_none,if_true];refine Ev.bind hten ?_;simp only[Option.isNone_none,if_true,show ¬ (d.e≥0) from he,if_false];refine Ev.bind hbt ?_;refine Ev.bind hbm ?_;simp only[humx];refine Ev.bind hshl ?_;simp only[Option.isNone_none,if_true];refine Ev.bind hdiv ?_;simp only[Option.isNone_none,if_true,hrest];rw[qm (x := -(up:Int)) (by omega) (by omega)];exact Ev.bind aGe (Ev.now _)
  ·have h:=Oa (n:=n) (N:=Ak d) (C:=Jj d) (u:=up) (q:=q) (r:=r) (b:=b) h8 h64 (uJ d) (by rw[hC,hN];exact hqr) (by rw[hC];exact hrlt) hb1 hb2 hb3 (fun _=>hb64)
   unfold Q9;rw[← h]
end Go.Proofs.Yy.PTx
end
section
namespace Go.Proofs.Yy.PTx
open Go.RowKit Go.Proofs.Yw.PrintWords Go.Proofs.Yw.PrintLast Go.Proofs.Yw.PrintMore Go.Proofs.Yy.M Go.Proofs.Yy.TA Go.Proofs.Yy.NM Go.Proofs.Yy.SC
theorem aci {n:Nat}(hw:Wd n)(k:Nat):dI.f k (n:Int) 0=some (0,false,0,0,none):=by
 unfold dI.f;have h:=SN hw 0 (Nat.two_pow_pos _);rw[show ((0:Nat):Int)=0 by rfl,Nat.zero_mod,if_pos rfl]at h;rw[h]
 rfl
theorem ags {a:Int}(h:¬ ∃ n:Nat,Wd n∧a=n):oz.f a=some false:=by
 have h8:a≠8:=fun e=>h ⟨8,.inl rfl,e⟩;have h16:a≠16:=fun e=>h ⟨16,.inr (.inl rfl),e⟩;have h32:a≠32:=fun e=>h ⟨32,.inr (.inr (.inl rfl)),e⟩;have h64:a≠64:=fun e=>h ⟨64,.inr (.inr (.inr rfl)),e⟩;unfold oz.f;simp[h8,h16,h32,h64]
theorem PM {a:Int}(h:¬ ∃ n:Nat,Wd n∧a=n)(p:Int)(k:Nat):∃ x y z v,dI.f k a p=some (x,y,z,v,some 2):=by
 unfold dI.f kY.f fE.f;rw[ags h];exact⟨_,_,_,_,rfl⟩
theorem dgs {l:List UInt8}(h:l.all dg=true):∀ c ∈ l,48≤c.toNat∧c.toNat≤57:=fun c hc=>by
 have:=List.all_eq_true.1 h c hc;unfold dg at this
 simpa using this
theorem CP {d:D}(hN:alS d)(hn:d.nar=false)(h0:d.ds≠[48]):∃ c l,d.ds=c::l∧49≤c.toNat∧(∀ c ∈ d.ds,48≤c.toNat∧c.toNat≤57)∧d.ds.length≤4096 ∧ -1000000≤d.e∧d.e≤1000000:=by
 rcases hN with h|⟨_,h1,h2,h3,h4,h5,h6⟩
 ·rw[h]at hn;exact absurd hn (by decide)
 rcases h6 with⟨_,h7,_⟩|⟨h7,_⟩
 ·exact absurd h7 h0
 cases hd_:d.ds with
 | nil=>exact absurd hd_ h2
 | cons c l =>
  have hg:=dgs h1;have hc:=hg c (by rw[hd_];exact List.mem_cons_self);refine⟨c,l,rfl,?_,by rw[← hd_];exact hg,by rw[← hd_];exact h3,h4,h5⟩;rw[hd_]at h7
  have:c≠48:=fun e=>by rw[e]at h7;simp[SC.hd]at h7
  have:c.toNat≠48:=fun e=>this (UInt8.toNat_inj.1 e)
  omega
theorem ZV {l:List UInt8}:(mkB l).toList=([48]:List UInt8) ↔ l=[48]:=by rw[nO]
theorem abX {a:Int}(h:¬ ∃ n:Nat,Wd n∧a=n)(nar neg:Bool)(ds:ByteArray)(e:Int)(k:Nat):ng.f k a nar neg ds e=some (0,some 2):=by
 obtain⟨x,y,z,v,hd_⟩:=PM h 0 k;unfold ng.f;rw[hd_]
 rfl
theorem afK {n:Nat}(hw:Wd n):shl .u64 1 (wrap64 ((n:Int)-1))=((2 ^ (n-1):Nat):Int)∧0≤wrap64 ((n:Int)-1):=by
 obtain⟨h8,h64⟩:=hw.bounds;have hm:2 ^ (n-1)<2 ^ 64:=Nat.pow_lt_pow_right (by omega) (by omega);rw[qm (by omega) (by omega),show ((n:Int)-1)=((n-1:Nat):Int) by omega];refine⟨?_,Int.natCast_nonneg _⟩;have h:=xM 1 (n-1);rw[Nat.one_mul,Nat.mod_eq_of_lt hm]at h;exact h
theorem afD {n:Nat}(hw:Wd n)(d:D):Ev (fun k=>ng.f k (n:Int) d.nar d.neg (mkB d.ds) d.e) (if formed d=true then (((ofD n d:Nat):Int),none) else (0,some 23)):=by
 obtain⟨h8,h64⟩:=hw.bounds;refine Ev.congr (f:=fun k=>(lh.f d.nar d.neg (mkB d.ds) d.e).bind fun wO=>(if wO.2.2.2.2.isNone=true then (if wO.1=true then (if 0≤(wrap64 ((n:Int)-1)) then (some (shl .u64 1 (wrap64 ((n:Int)-1)),none)) else (none)) else (if wO.2.2.1.toList=([48]:List UInt8) then (some (0,none)) else ((gW.f k wO.1 wO.2.1 wO.2.2.1 wO.2.2.2.1).bind fun wP=>(if wP.2.2.2.2.2.2.isNone=true then ((kP.f k (n:Int) wP.1 wP.2.1 wP.2.2.1 wP.2.2.2.1 wP.2.2.2.2.1 wP.2.2.2.2.2.1).bind fun WA=>(some (WA.1,WA.2))) else (some (0,some (wP.2.2.2.2.2.2.getD 0))))))) else (some (0,some (wO.2.2.2.2.getD 0))))) (fun k=>by unfold ng.f;rw[aci hw];rfl) ?_;rw[vY]
 by_cases hf:formed d=true
 ·simp only[if_pos hf,Option.bind_some,Option.isNone_none,if_true]
  have hN:=GU hf;unfold ofD
  by_cases hnar:(nrm d).nar=true
  ·simp only[if_pos hnar]
   rw[(afK hw).1,if_pos (afK hw).2];exact Ev.now _
  ·simp only[if_neg hnar,ZV]
   by_cases h0:(nrm d).ds=[48]
   ·simp only[if_pos h0]
    exact Ev.now _
   ·simp only[if_neg h0]
    have hn:(nrm d).nar=false:=by simpa using hnar
    obtain⟨c,l,e1,e2,e3,e4,e5,e6⟩:=CP hN hn h0;obtain⟨s,T,c',s1,s2,t1,t2,hev,hpos⟩:=Xw hn e1 e2 e3 e4 e5 e6;refine Ev.bind hev ?_;simp only[Option.isNone_none,if_true];have hr:=Yc hw (nrm d).neg s1 s2 t1 t2 c';rw[hpos n h8 h64]at hr;exact Ev.bind hr (Ev.now _)
 ·simp only[if_neg hf,Option.bind_some]
  exact Ev.now _
theorem Yd:Ev (fun k=>dV.f k) true:=⟨40,fun k hk=>by obtain⟨m,rfl⟩:∃ m,k=m+40:=⟨k-40,by omega⟩;exact dV.at_ m⟩
end Go.Proofs.Yy.PTx
end
section
namespace Go.Proofs.Yy.PTx
open Go.RowKit Go.Proofs.Yw.PrintWords Go.Proofs.Yw.PrintLast Go.Proofs.Yw.PrintMore Go.Proofs.Yy.M Go.Proofs.Yy.NM
attribute [local irreducible] fK iG ji kQ val
theorem af9 {l:List UInt8}{i:Nat}(h:i<l.length):bt (mkB l) (i:Int)=((l[i]'h).toNat:Int):=by
 unfold bt;rw[Int.toNat_natCast,dif_pos (by rw[cZ];exact h)]
 rfl
theorem OZ (l:List UInt8)(hd:∀ c ∈ l,dgt c=true)(hl:l.length≤1048576):∀ (d i:Nat) (V:Int),i+d=l.length→0≤V→V<pw 10 i →
  Ev (fun k=>bU.l0 k (mkB l) (enc D V) (i:Int)) (enc D (tN V.toNat (l.drop i):Int)):=by
 intro d
 induction d with
 | zero =>
  intro i V hi hV hVl;refine Ev.step (f:=fun _=>some (enc D V)) (fun k=>?_) ?_
  ·simp only[bU.l0]
   rw[cZ,if_neg (by omega)]
  ·rw[List.drop_of_length_le (by omega)]
   have e:((tN V.toNat []:Nat):Int)=V:=by show ((V.toNat:Nat):Int)=V;omega
   rw[e];exact Ev.now _
 | succ d ih =>
  intro i V hi hV hVl
  have hlt:i<l.length:=by omega
  have hc:=hd _ (List.getElem_mem hlt);unfold dgt at hc;simp only[Bool.and_eq_true,decide_eq_true_iff]at hc;have hb:=af9 hlt
  obtain⟨q,hq⟩:∃ q:Int,q=((l[i].toNat-48:Nat):Int):=⟨_,rfl⟩
  have hq0:0≤q∧q≤9:=by omega
  have hbt:(bt (mkB l) (i:Int)-48) % 256=q:=by rw[hb];omega
  have h10:=Ui (i+1);have hs:pw 10 (i+1)=pw 10 i*10:=fA ..;have ht:=vW hV (q:=10) (by decide) (by rw[vN];decide) (m:=i+1+1) (by omega) (by omega);have ho:=afB (v:=q) hq0.1 (by rw[uh];omega);have ha:=aaW (A:=V*10) (C:=q) (by omega) hq0.1 (m:=i+1+1) (by omega) (by omega);have hn:=ih (i+1) (V*10+q) (by omega) (by omega) (by omega)
  have e:tN V.toNat (l.drop i)=tN (V*10+q).toNat (l.drop (i+1)):=by
   rw[List.drop_eq_getElem_cons hlt,rW]
   congr 1
   omega
  rw[e]
  have hbody:Ev (fun k=>(aI.f k (enc D V) 10).bind fun t1=>(dR.f k q).bind fun t2=>(aU.f k t1 t2).bind fun t3=>bU.l0 k (mkB l) t3 ((i+1:Nat):Int)) (enc D ((tN (V*10+q).toNat (l.drop (i+1)):Nat):Int)):=by
   refine Ev.bind ht ?_;refine Ev.bind ho ?_;refine Ev.bind ha ?_;exact hn
  refine Ev.step (fun k=>?_) hbody;simp only[bU.l0]
  have hi0:0≤(i:Int):=by omega
  have ew:wrap64 ((i:Int)+1)=((i+1:Nat):Int):=by rw[w64 (by omega) (by omega)];rfl
  rw[cZ,if_pos (by omega)];simp only[if_pos hi0,hbt,ew]
theorem Qp {l:List UInt8}(hd:∀ c ∈ l,dgt c=true)(hl:l.length≤1048576):Ev (fun k=>bU.f k (mkB l)) (enc D (tN 0 l:Int)):=by
 have h:=OZ l hd hl l.length 0 0 (by omega) (Int.le_refl _) (by rw[iW];decide);rw[eX,List.drop_zero]at h;exact h
end Go.Proofs.Yy.PTx
end
section
namespace Go.Proofs.Yy.PTx
open Go.RowKit Go.Proofs.Yw.PrintWords Go.Proofs.Yw.PrintLast Go.Proofs.Yw.PrintMore Go.Proofs.Yy.M Go.Proofs.Yy.TA Go.Proofs.Yy.SC
theorem UL (l:List UInt8)(h:∀ c ∈ l,c=48∨c=49)(hl:l.length≤64):Ev (fun k=>bu.f k (mkB l)) ((num l:Nat):Int):=by
 have h2:=IZ l h hl l.length 0 (by omega);exact Ev.congr (fun k=>by unfold bu.f;rfl) h2
theorem Ul {n p:Nat}(hn:1≤n):(p / 2 ^ (n-1) % 2=1) ↔ 2 ^ (n-1)≤p % 2 ^ n:=by
 have hpw:2 ^ n=2 ^ (n-1)*2:=by rw[← Nat.pow_succ];congr 1;omega
 have e:p / 2 ^ (n-1) % 2=p % 2 ^ n / 2 ^ (n-1):=by rw[hpw,Nat.mod_mul_right_div_self]
 have hlt:p % 2 ^ n<2 ^ n:=Nat.mod_lt _ (two_pos _);have hp:=two_pos (n-1)
 obtain⟨K,hK⟩:∃ K,2 ^ (n-1)=K:=⟨_,rfl⟩
 rw[e];rw[hK]at hpw hp ⊢;rw[hpw]at hlt
 constructor
 ·intro h
  apply Nat.le_of_not_lt
  intro h2;rw[Nat.div_eq_of_lt h2]at h
  omega
 ·intro h
  have h1:p % 2 ^ n / K<2:=by rw[Nat.div_lt_iff_lt_mul hp];omega
  have h2:1≤p % 2 ^ n / K:=by rw[Nat.le_div_iff_mul_le hp];omega
  omega
theorem NQ {n p:Nat}(hn:1≤n):bs n p=EO (p / 2 ^ (n-1))::bs (n-1) p:=by
 have h:=Z8 (n-1) p
 rwa [show n-1+1=n by omega]at h
theorem Yt {n p:Nat}(hn:1≤n):(bt (mkB (bs n p)) 0=49) ↔ 2 ^ (n-1)≤p % 2 ^ n:=by
 rw[NQ hn,ZO,CJ, ← Ul hn]
 omega
theorem Rz {n p:Nat}(hn:1≤n):(mkB (bs n p)).extract 1 (mkB (bs n p)).size=mkB (bs (n-1) p):=by
 rw[xu,NQ hn];rfl
theorem Uo (l:List UInt8)(hl:l.length≤9223372036854775806):∀ d i:Nat,i+d=l.length→Ev (fun k=>bQ.l0 k (mkB l) (i:Int)) ((l.drop i).contains 49):=by
  intro d
  induction d with
  | zero =>
    intro i hi;refine Ev.step (f:=fun _=>some ((l.drop i).contains 49)) (fun k=>?_) (Ev.now _);simp only[bQ.l0];rw[if_neg (by rw[cZ];omega),List.drop_of_length_le (by omega)]
    rfl
  | succ d ih =>
    intro i hi
    have hx:i<l.length:=by omega
    have hd:l.drop i=l[i]::l.drop (i+1):=List.drop_eq_getElem_cons hx
    by_cases h:l[i]=49
    · refine Ev.step (f:=fun _=>some ((l.drop i).contains 49)) (fun k=>?_) (Ev.now _)
      simp only[bQ.l0];rw[if_pos (by rw[cZ];omega),if_pos (by omega),EG hx,if_pos (by rw[h];rfl),hd,h]
      rfl
    · refine Ev.step (f:=fun k=>bQ.l0 k (mkB l) ((i+1:Nat):Int)) (fun k=>?_) ?_
      · simp only[bQ.l0]
        have e49:(49:UInt8).toNat=49:=rfl;have hne:¬ ((l[i].toNat:Int)=49):=fun e=>h (UInt8.toNat_inj.1 (by omega));rw[if_pos (by rw[cZ];omega),if_pos (by omega),EG hx,if_neg hne,qm (by omega) (by omega)]
        rfl
      · have:=ih (i+1) (by omega)
        rw[hd,List.contains_cons]
        rwa [show ((49:UInt8) == l[i])=false from beq_eq_false_iff_ne.2 (fun e=>h e.symm),Bool.false_or]
theorem Jn (l:List UInt8)(hl:l.length≤1000):Ev (fun k=>bQ.f k (mkB l)) (l.contains 49):=by
  have h:=Uo l (by omega) l.length 0 (by omega);exact Ev.congr (fun k=>by unfold bQ.f;rfl) h
theorem Uz (L y:Nat)(hL:1≤L)(hL2:L≤900)(c:Bool):Ev (fun k=>bf.f k (mkB (bs L y)) c) ((lft (y % 2 ^ L) (2 ^ (L-1)) c:Nat):Int):=by
  have hlen:=bs_len L y
  have hne:(mkB (bs L y)).toList≠([]:List UInt8):=by
    rw[nO];intro e;rw[e]at hlen;simp at hlen;omega
  have hsz:(mkB (bs L y)).size=L:=by rw[cZ,hlen]
  have hsome:=Jn (bs (L-1) y) (by rw[bs_len];omega);rw[ZZ]at hsome;have htop:=Ul (n:=L) (p:=y) hL;have hf:=Yt (n:=L) (p:=y) hL
  have hpw:2 ^ L=2 ^ (L-1)*2:=by rw[← Nat.pow_succ];congr 1;omega
  have hr:y % 2 ^ L=2 ^ (L-1)*(y / 2 ^ (L-1) % 2)+y % 2 ^ (L-1):=by
    rw[hpw,Nat.mod_mul,Nat.add_comm]
  have hm:=Nat.mod_lt y (two_pos (L-1));have h01:y / 2 ^ (L-1) % 2<2:=Nat.mod_lt _ (by decide)
  obtain⟨H,hH⟩:∃ H,2 ^ (L-1)=H:=⟨_,rfl⟩
  obtain⟨r,hre⟩:∃ r,y % 2 ^ L=r:=⟨_,rfl⟩
  obtain⟨m,hme⟩:∃ m,y % 2 ^ (L-1)=m:=⟨_,rfl⟩
  obtain⟨q,hq⟩:∃ q,y / 2 ^ (L-1) % 2=q:=⟨_,rfl⟩
  rw[hre,hme,hq,hH]at hr;rw[hme,hH]at hm;rw[hq]at h01;rw[hq]at htop;rw[hH,hre]at htop hf;rw[hme]at hsome;rw[hre,hH];refine Ev.congr (f:=fun k=>bf.j0 k (mkB (bs L y)) c) (fun k=>by unfold bf.f;rw[if_neg hne]) ?_;refine Ev.step (f:=fun k=>(bQ.f k (mkB (bs (L-1) y))).bind fun QY=>(if (bt (mkB (bs L y)) 0)=49 then (if QY=true then (bf.j1 k (mkB (bs L y)) c QY true) else (bf.j1 k (mkB (bs L y)) c QY c)) else (bf.j1 k (mkB (bs L y)) c QY false))) (fun k=>?_) ?_
  · simp only[bf.j0]
    rw[if_pos (by rw[hsz];omega),Rz hL]
    have h0:0<((mkB (bs L y)).size:Int):=by rw[hsz];omega
    simp only[if_pos h0]
  refine Ev.bind hsome ?_
  have hj1:∀ x11:Bool,Ev (fun k=>bf.j1 k (mkB (bs L y)) c (decide (m≠0)) x11) (if x11=true then 3 else if H≤r then 2 else if m≠0∨c=true then 1 else 0):=by
    intro x11;refine Ev.step (f:=fun _=>some (if x11=true then 3 else if H≤r then 2 else if m≠0∨c=true then 1 else 0)) (fun k=>?_) (Ev.now _);simp only[bf.j1]
    by_cases h3:x11=true
    · rw[if_pos h3,if_pos h3]
    · rw[if_neg h3,if_neg h3,if_pos (by rw[hsz];omega)]
      by_cases h4:H≤r
      · rw[if_pos (hf.2 h4),if_pos h4]
      · rw[if_neg (fun e=>h4 (hf.1 e)),if_neg h4]
        by_cases h5:m=0
        · simp[h5]
          cases c <;> rfl
        · simp[h5]
  by_cases h4:H≤r
  · have hq1:=htop.2 h4
    simp only[if_pos (hf.2 h4)]
    by_cases h5:m=0
    · simp only[show ¬ (decide (m≠0)=true) by simp[h5],if_false]
      have:=hj1 c;rw[if_pos h4,show decide (m≠0)=false by simp[h5]]at this;unfold lft;rw[if_neg (by rw[hr,hq1,h5];omega),if_pos (by rw[hr,hq1,h5];omega)]
      cases c
      · simpa using this
      · simpa using this
    · simp only[show decide (m≠0)=true by simp[h5],if_true]
      have:=hj1 true;rw[if_pos rfl]at this;unfold lft;rw[if_pos (by rw[hr,hq1];omega)]
      simpa [h5] using this
  · simp only[if_neg (show ¬ bt (mkB (bs L y)) 0=49 from fun e=>h4 (hf.1 e))]
    have:=hj1 false;rw[if_neg (by decide),if_neg h4]at this
    have hq0:q=0:=by
      have:¬ q=1:=fun e=>h4 (htop.1 e)
      omega
    have hrm:r=m:=by rw[hr,hq0];omega
    unfold lft;rw[if_neg (by omega),if_neg (by omega),hrm]
    have e:(m≠0∨c=true) ↔ (0<m∨c=true):=by constructor <;> (intro h;rcases h with h|h;exact .inl (by omega);exact .inr h)
    by_cases h6:0<m∨c=true
    · rw[if_pos (e.2 h6)]at this
      rw[if_pos h6];exact this
    · rw[if_neg (fun h=>h6 (e.1 h))]at this
      rw[if_neg h6];exact this
theorem RY {s:Int}(h1 : -1000≤s)(h2:s≤1000):iK.f s=some (s / 4):=by
  have ht:Int.tdiv s 4=if 0≤s then s / 4 else -((-s) / 4):=by
    by_cases h:0≤s
    · rw[if_pos h,Int.tdiv_eq_ediv_of_nonneg h]
    · rw[if_neg h]
      have e:s = -(-s):=by omega
      conv=>lhs;rw[e]
      rw[Int.neg_tdiv,Int.tdiv_eq_ediv_of_nonneg (by omega)]
  unfold iK.f
  obtain⟨k,hk⟩:∃ k,Int.tdiv s 4=k:=⟨_,rfl⟩
  rw[hk]at ht ⊢
  have hb : -251≤k∧k≤251:=by split at ht <;> omega
  rw[qm (x:=k) (by omega) (by omega),qm (x:=4*k) (by omega) (by omega)]
  by_cases h:4*k > s
  · rw[if_pos h,qm (by omega) (by omega)]
    congr 1
    split at ht <;> omega
  · rw[if_neg h]
    congr 1
    split at ht <;> omega
theorem Ou (l:List UInt8)(c:UInt8)(n:Int)(h:(c.toNat:Int)=n):(l.map fun c=>(c.toNat:Int)) ++ [n]=(l ++ [c]).map fun c=>(c.toNat:Int):=by
  rw[List.map_append, ← h];rfl
theorem Oq {s:Int}(h1 : -1000≤s)(h2:s≤1000)(l:List UInt8)(hl:l.length≤1000)(i:Int)(hi:¬ i > s / 4) :
    Ev (fun k=>aG.l1 k s (s / 4) (l.map fun c=>(c.toNat:Int)) i) (mkB (l ++ [if 0≤s / 4 then 48 else 49]++bs 2 (s % 4).toNat)):=by
  have he:IntKind.u64.wrap (wrap64 (s-wrap64 (4*(s / 4))))=((s % 4).toNat:Int):=by
    rw[qm (x:=4*(s / 4)) (by omega) (by omega),qm (by omega) (by omega),IntKind.wrap_u64];omega
  have ht:=yH (s % 4).toNat (by have:(s % 4).toNat<4:=(by omega);rw[p64];omega) 2 (by decide)
  have hsz:∀ m:List UInt8,(mkB m).size=m.length:=cZ
  by_cases hk:0≤s / 4
  · refine Ev.step (f:=fun k=>(aY.f k ((s % 4).toNat:Int) ((2:Nat):Int)).bind fun WL=>(if (mkB (l ++ [48])).size+WL.size≤9223372036854775807 then some (mkB (l ++ [48])++WL) else none)) (fun k=>?_) ?_
    · simp only[aG.l1]
      rw[if_neg hi,if_pos hk,if_pos (by rw[List.length_map];omega),Ou l 48 48 rfl,Option.bind_some,KO,he]
      rfl
    · refine Ev.bind ht ?_
      rw[if_pos (by rw[hsz,hsz,bs_len,List.length_append];simp;omega),mf,if_pos hk];exact Ev.now _
  · refine Ev.step (f:=fun k=>(aY.f k ((s % 4).toNat:Int) ((2:Nat):Int)).bind fun WM=>(if (mkB (l ++ [49])).size+WM.size≤9223372036854775807 then some (mkB (l ++ [49])++WM) else none)) (fun k=>?_) ?_
    · simp only[aG.l1]
      rw[if_neg hi,if_neg hk,if_pos (by rw[List.length_map];omega),Ou l 49 49 rfl,Option.bind_some,KO,he]
      rfl
    · refine Ev.bind ht ?_
      rw[if_pos (by rw[hsz,hsz,bs_len,List.length_append];simp;omega),mf,if_neg hk];exact Ev.now _
theorem Su {s:Int}(h1 : -1000≤s)(h2:s≤1000):Ev (fun k=>aG.f k s) (mkB (bs (TA.hL s) (hV s))):=by
  have hstr:bs (TA.hL s) (hV s)=(if 0≤s / 4 then List.replicate ((s / 4).toNat+1) 49 else List.replicate (-(s / 4)).toNat 48) ++ [if 0≤s / 4 then 48 else 49]++bs 2 (s % 4).toNat:=by
    have hb:(s % 4).toNat % 2 ^ 2=(s % 4).toNat:=Nat.mod_eq_of_lt (by omega);have ha:=yI (Tj s) (aac s) 2 (s % 4).toNat;rw[hb]at ha;unfold TA.hL hV;rw[show (4:Nat)=2 ^ 2 from rfl, ← ha]
    congr 1
    unfold Tj aac
    by_cases hk:0≤s / 4
    · rw[if_pos hk,if_pos hk,if_pos hk,if_pos hk]
      obtain⟨j,hj⟩:∃ j,(s / 4).toNat=j:=⟨_,rfl⟩
      rw[hj];have hp2:=two_pos (j+1);rw[ab2,show j+2=(j+1)+1 by omega,bs,show (2 ^ (j+1+1)-2) / 2=2 ^ (j+1)-1 by rw[Nat.pow_succ];omega]
      congr 1
      unfold EO;rw[show (2 ^ (j+1+1)-2) % 2=0 by rw[Nat.pow_succ];omega]
      rfl
    · rw[if_neg hk,if_neg hk,if_neg hk,if_neg hk,acs]
      rfl
  have ups:0≤s / 4→∀ d i:Nat,(i:Int)+d=s / 4+1→Ev (fun k=>aG.l0 k s (s / 4) ((List.replicate i (49:UInt8)).map fun c=>(c.toNat:Int)) (i:Int)) (mkB (bs (TA.hL s) (hV s))):=by
    intro hk d
    induction d with
    | zero =>
      intro i hi;have he:=Oq h1 h2 (List.replicate i 49) (by rw[List.length_replicate];omega) 0 (by omega)
      have e:bs (TA.hL s) (hV s)=List.replicate i 49 ++ [if 0≤s / 4 then 48 else 49]++bs 2 (s % 4).toNat:=by
        rw[hstr,if_pos hk,if_pos hk,show (s / 4).toNat+1=i by omega]
      rw[← e]at he;refine Ev.step (fun k=>?_) he;simp only[aG.l0];rw[if_neg (by omega)]
    | succ d ih =>
      intro i hi;refine Ev.step (fun k=>?_) (ih (i+1) (by omega));simp only[aG.l0];rw[if_pos (by omega),if_pos (by rw[List.length_map,List.length_replicate];omega),Ou (List.replicate i 49) 49 49 rfl, ← List.replicate_succ',qm (by omega) (by omega)]
      rfl
  have dns:¬ 0≤s / 4→∀ d i:Nat,(i:Int)+d = -(s / 4)→Ev (fun k=>aG.l1 k s (s / 4) ((List.replicate i (48:UInt8)).map fun c=>(c.toNat:Int)) (-(i:Int))) (mkB (bs (TA.hL s) (hV s))):=by
    intro hk d
    induction d with
    | zero =>
      intro i hi;have he:=Oq h1 h2 (List.replicate i 48) (by rw[List.length_replicate];omega) (-(i:Int)) (by omega)
      have e:bs (TA.hL s) (hV s)=List.replicate i 48 ++ [if 0≤s / 4 then 48 else 49]++bs 2 (s % 4).toNat:=by
        rw[hstr,if_neg hk,if_neg hk,show (-(s / 4)).toNat=i by omega]
      rw[← e]at he;exact he
    | succ d ih =>
      intro i hi;refine Ev.step (fun k=>?_) (ih (i+1) (by omega));simp only[aG.l1];rw[if_pos (by omega),if_pos (by rw[List.length_map,List.length_replicate];omega),Ou (List.replicate i 48) 48 48 rfl, ← List.replicate_succ',qm (by omega) (by omega),show -(i:Int)-1 = -((i+1:Nat):Int) by omega]
  unfold aG.f;rw[RY h1 h2];simp only[Option.bind_some]
  by_cases hk:0≤s / 4
  · obtain⟨j,hj⟩:=Int.eq_ofNat_of_zero_le hk
    exact ups hk (j+1) 0 (by omega)
  · obtain⟨j,hj⟩:=Int.eq_ofNat_of_zero_le (show 0 ≤ -(s / 4) by omega)
    refine Ev.step (fun k=>?_) (dns hk j 0 (by omega));simp only[aG.l0];rw[if_neg (by omega)]
    rfl
theorem Fp {T:Nat}(h1:2 ^ 127≤T)(h2:T<2 ^ 128):T % 2 ^ 127=T-2 ^ 127:=by
  have e:(2:Nat) ^ 128=2 ^ 127+2 ^ 127:=by rw[← Nat.mul_two, ← Nat.pow_succ]
  rw[e]at h2
  obtain⟨H,hH⟩:∃ H:Nat,2 ^ 127=H:=⟨_,rfl⟩
  rw[hH]at h1 h2 ⊢;rw[Nat.mod_eq_sub_mod h1,Nat.mod_eq_of_lt (by omega)]
theorem XQ {n:Nat}(hw:Wd n)(neg:Bool){s:Int}(hs1 : -1000000≤s)(hs2:s≤1000000){T:Nat}(hT1:2 ^ 127≤T)(hT2:T<2 ^ 128)(rest:Bool) :
    Ev (fun k=>ax.f k (n:Int) 1 neg s (hiI T) (loI T) rest) (((pF n s T rest).1:Int),((pF n s T rest).2:Int),0):=by
  obtain⟨h8,h64⟩:=hw.bounds;obtain⟨g1,g2⟩:=aak hT1 hT2
  have hso:iC.f 1 neg s (hiI T) (loI T) rest=some true:=by
    unfold iC.f;rw[if_neg (by decide),if_neg (by decide),if_pos rfl,if_pos g1,if_pos (by omega),decide_eq_true (by omega)]
  have hhi:T / 2 ^ 64<2 ^ 64:=by rw[Nat.div_lt_iff_lt_mul (two_pos _), ← Nat.pow_add];exact hT2
  have hlo:T % 2 ^ 64<2 ^ 64:=Nat.mod_lt _ (two_pos _);have t1:=yH (T / 2 ^ 64) hhi 64 (by decide);have t2:=yH (T % 2 ^ 64) hlo 64 (by decide)
  have hdig:mkB (bs 63 (T / 2 ^ 64))++mkB (bs 64 (T % 2 ^ 64))=mkB (bs 127 T):=by
    rw[mf,yI,Nat.mod_mod,Nat.mul_comm,Nat.div_add_mod]
  have hsz:(mkB (bs 127 T)).size=127:=by rw[cZ,bs_len]
  have hsome:=Jn (bs 127 T) (by rw[bs_len];decide);rw[ZZ]at hsome;have hTm:=Fp hT1 hT2;have ht:(4*(n:Int)-8)=top n:=rfl
  have htop:wrap64 (wrap64 (4*(n:Int))-8)=top n:=by rw[qm (x:=4*(n:Int)) (by omega) (by omega),qm (by omega) (by omega)];rfl
  have htn:top n=4*(n:Int)-8:=rfl;have hneg:wrap64 (-(top n)) = -top n:=qm (by omega) (by omega)
  -- the way behind the digits
  have hj1:∀ x73:Bool,(x73=true→s < -top n∨(s = -top n∧T=2 ^ 127∧rest=false))→(x73=false→¬ (s < -top n∨(s = -top n∧T=2 ^ 127∧rest=false)))→¬ top n≤s→(x73=false → -1000≤s∧s≤1000) →
      Ev (fun k=>ax.j1 k (n:Int) (mkB (bs 127 T)) x73 1 neg s (hiI T) (loI T) rest) (((pF n s T rest).1:Int),((pF n s T rest).2:Int),0):=by
    intro x73 hx1 hx2 hnt hb
    cases x73
    · obtain⟨b1,b2⟩:=hb rfl
      have hPQ:pF n s T rest=(BP n s 127 T,JA n s 127 T rest):=by unfold pF;rw[if_neg hnt,if_neg (hx2 rfl)]
      rw[hPQ];have hh:=Su b1 b2;have hL4:=UZ s
      have hLb:TA.hL s≤300:=by unfold TA.hL Tj;split <;> omega
      have hX:zX s 127 T=hV s*2 ^ 127+T % 2 ^ 127:=by unfold zX;rw[hTm]
      have hcat:mkB (bs (TA.hL s) (hV s))++mkB (bs 127 T)=mkB (bs (TA.hL s+127) (zX s 127 T)):=by rw[mf,yI,hX]
      have hcl:TA.hL s+127=n-1+xH n s 127:=by unfold xH;omega
      have hsz2:(mkB (bs (TA.hL s+127) (zX s 127 T))).size=TA.hL s+127:=by rw[cZ,bs_len]
      have hXlt:zX s 127 T<2 ^ (n-1+xH n s 127):=by
        rw[← hcl,Nat.pow_add,hX];have h1:=Xx s;have h2:=Nat.mod_lt T (two_pos 127);have h3:(hV s+1)*2 ^ 127≤2 ^ TA.hL s*2 ^ 127:=Nat.mul_le_mul_right _ h1;rw[Nat.add_mul,Nat.one_mul]at h3
        omega
      have hPlt:BP n s 127 T<2 ^ (n-1):=by
        unfold BP;rw[Nat.div_lt_iff_lt_mul (two_pos _), ← Nat.pow_add];exact hXlt
      have hw1:wrap64 ((n:Int)-1)=((n-1:Nat):Int):=by rw[qm (by omega) (by omega)];omega
      have e1:(mkB (bs (TA.hL s+127) (zX s 127 T))).extract 0 (n-1)=mkB (bs (n-1) (BP n s 127 T)):=by
        rw[xg _ _ (by rw[bs_len];omega),aaP _ _ _ (by omega)];unfold BP;rw[show TA.hL s+127-(n-1)=xH n s 127 by unfold xH;omega]
      have e2:(mkB (bs (TA.hL s+127) (zX s 127 T))).extract (n-1) (mkB (bs (TA.hL s+127) (zX s 127 T))).size=mkB (bs (xH n s 127) (zX s 127 T)):=by
        rw[xu,abz _ _ _ (by omega),show TA.hL s+127-(n-1)=xH n s 127 by unfold xH;omega]
      have hn:=UL (bs (n-1) (BP n s 127 T)) (UE _ _) (by rw[bs_len];omega);rw[ZW,Nat.mod_eq_of_lt hPlt]at hn;have hl:=Uz (xH n s 127) (zX s 127 T) (by unfold xH;omega) (by unfold xH;omega) rest;refine Ev.step (f:=fun k=>(aG.f k s).bind fun Cb=>(if Cb.size+(mkB (bs 127 T)).size≤9223372036854775807 then (if 0≤(wrap64 ((n:Int)-1)) then (if (wrap64 ((n:Int)-1))≤((Cb++(mkB (bs 127 T))).size:Int) then ((bu.f k ((Cb++(mkB (bs 127 T))).extract 0 ((wrap64 ((n:Int)-1)):Int).toNat)).bind fun akd=>((bf.f k ((Cb++(mkB (bs 127 T))).extract ((wrap64 ((n:Int)-1)):Int).toNat (Cb++(mkB (bs 127 T))).size) rest).bind fun ake=>(some (akd,ake,0)))) else (none)) else (none)) else (none))) (fun k=>?_) ?_
      · simp only[ax.j1,Bool.false_eq_true,if_false]
      · refine Ev.bind hh ?_
        simp only[hcat,hw1,Int.toNat_natCast,e1,e2]
        have c1:(mkB (bs (TA.hL s) (hV s))).size+(mkB (bs 127 T)).size≤9223372036854775807:=by rw[hsz,cZ,bs_len];omega
        have c2:((n-1:Nat):Int)≤((mkB (bs (TA.hL s+127) (zX s 127 T))).size:Int):=by rw[hsz2];omega
        simp only[if_pos c1,if_pos (Int.natCast_nonneg (n-1)),if_pos c2];exact Ev.bind hn (Ev.bind hl (Ev.now _))
    · have hPQ:pF n s T rest=(1,0):=by unfold pF;rw[if_neg hnt,if_pos (hx1 rfl)]
      rw[hPQ];refine Ev.step (f:=fun _=>some (1,0,0)) (fun k=>?_) (Ev.now _);simp only[ax.j1,if_true]
  have hj0:∀ x11:Bool,(x11=true ↔ T=2 ^ 127∧rest=false)→Ev (fun k=>ax.j0 k (n:Int) (mkB (bs 127 T)) x11 1 neg s (hiI T) (loI T) rest) (((pF n s T rest).1:Int),((pF n s T rest).2:Int),0):=by
    intro x11 hx
    by_cases c1:top n≤s
    · have hPQ:pF n s T rest=(2 ^ (n-1)-1,0):=by unfold pF;rw[if_pos c1]
      rw[hPQ];have hp:=Oj hw;have hlt:2 ^ (n-1)<2 ^ 64:=Nat.pow_lt_pow_right (by decide) (by omega);have hp0:=two_pos (n-1)
      have hsub:IntKind.u64.wrap (((2 ^ (n-1):Nat):Int)-1)=((2 ^ (n-1)-1:Nat):Int):=by
        rw[IntKind.wrap_u64];rw[p64]at hlt
        omega
      refine Ev.step (f:=fun k=>(bJ.f k (wrap64 ((n:Int)-1))).bind fun alu=>some (IntKind.u64.wrap (alu-1),(0:Int),(0:Int))) (fun k=>?_) ?_
      · simp only[ax.j0]
        rw[htop,if_pos c1]
      · refine Ev.bind hp ?_
        rw[hsub];exact Ev.now _
    · by_cases c2:s < -top n
      · refine Ev.step (fun k=>?_) (hj1 true (fun _ => .inl c2) (fun h=>by cases h) c1 (fun h=>by cases h))
        simp only[ax.j0];rw[htop,if_neg c1,hneg,if_pos c2]
      · by_cases c3:s = -top n
        · refine Ev.step (fun k=>?_) (hj1 x11 (fun h => .inr ⟨c3,hx.1 h⟩) (fun h a=>by
            rcases a with a|a
            · exact c2 a
            · rw[hx.2 a.2]at h;cases h) c1 (fun _=>by omega))
          simp only[ax.j0];rw[htop,if_neg c1,hneg,if_neg c2,if_pos c3]
        · refine Ev.step (fun k=>?_) (hj1 false (fun h=>by cases h) (fun _ a=>by
            rcases a with a|a
            · exact c2 a
            · exact c3 a.1) c1 (fun _=>by omega))
          simp only[ax.j0];rw[htop,if_neg c1,hneg,if_neg c2,if_neg c3]
  unfold ax.f;rw[aa3 hw,hso];simp only[Option.bind_some,if_true];have hi1:hiI T=((T / 2 ^ 64:Nat):Int):=rfl;have lo1:loI T=((T % 2 ^ 64:Nat):Int):=rfl;refine Ev.bind (a:=mkB (bs 64 (T / 2 ^ 64))) t1 ?_
  have s64:∀ x:Nat,((mkB (bs 64 x)).size:Int)=64:=fun x=>by rw[cZ,bs_len];rfl
  simp only[if_pos (show 1≤((mkB (bs 64 (T / 2 ^ 64))).size:Int) by rw[s64];decide)];refine Ev.bind (a:=mkB (bs 64 (T % 2 ^ 64))) t2 ?_;have htail:(mkB (bs 64 (T / 2 ^ 64))).extract 1 (mkB (bs 64 (T / 2 ^ 64))).size=mkB (bs 63 (T / 2 ^ 64)):=Rz (n:=64) (by decide);simp only[htail,hdig];simp only[if_pos (show (mkB (bs 63 (T / 2 ^ 64))).size+(mkB (bs 64 (T % 2 ^ 64))).size≤9223372036854775807 by rw[cZ,cZ,bs_len,bs_len];decide)]
  cases rest
  · simp only[Bool.false_eq_true,if_false]
    refine Ev.bind hsome ?_;refine hj0 _ ?_;rw[hTm]
    constructor
    · intro h
      refine⟨?_,rfl⟩
      have:¬ (T-2 ^ 127≠0):=by simpa using h
      omega
    · intro h
      simp[h.1]
  · simp only[if_true]
    exact hj0 false ⟨fun h=>(by cases h),fun h=>(by cases h.2)⟩
theorem Qk {n:Nat}(hw:Wd n)(neg:Bool){s:Int}(hs1 : -1000000≤s)(hs2:s≤1000000){T:Nat}(hT1:2 ^ 127≤T)(hT2:T<2 ^ 128)(rest:Bool)(hP:(pF n s T rest).1<2 ^ (n-1)) :
    Ev (fun k=>di.f k (n:Int) 1 neg s (hiI T) (loI T) rest) ((sgn n neg (Ov n s T rest):Nat):Int):=by
  obtain⟨h8,h64⟩:=hw.bounds;have hc:=XQ hw neg hs1 hs2 hT1 hT2 rest;rw[← JH h8 h64]
  obtain⟨P,hPe⟩:∃ P,(pF n s T rest).1=P:=⟨_,rfl⟩
  obtain⟨Q,hQe⟩:∃ Q,(pF n s T rest).2=Q:=⟨_,rfl⟩
  rw[hPe,hQe]at hc ⊢;rw[hPe]at hP;have hlt:2 ^ (n-1)<2 ^ 64:=Nat.pow_lt_pow_right (by decide) (by omega)
  have hpw:2 ^ n=2*2 ^ (n-1):=by rw[show n=(n-1)+1 by omega,Nat.pow_succ];simp;omega
  have hup:IntKind.u64.wrap ((P:Int)+1)=((P+1:Nat):Int):=by
    rw[IntKind.wrap_u64];rw[p64]at hlt
    omega
  have hneg:∀ R:Nat,R≤2 ^ (n-1)→Ev (fun k=>gz.f k (n:Int) (R:Int)) ((sgn n true R:Nat):Int):=by
    intro R hR;have hf:=abM hw ((2 ^ 64-R) % 2 ^ 64) (Nat.mod_lt _ (two_pos _));rw[← NG (by omega),Sv h64 (by omega)]at hf;refine Ev.congr (f:=fun k=>(iL.f k (n:Int) (IntKind.u64.wrap (-(R:Int)))).bind fun aly=>some aly) (fun k=>by unfold gz.f;rfl) ?_;unfold sgn;rw[if_pos rfl];exact Ev.bind hf (Ev.now _)
  have hpos:∀ R:Nat,R≤2 ^ (n-1)→sgn n false R=R:=by
    intro R hR;unfold sgn;rw[if_neg (by decide)];have:=two_pos (n-1);exact Nat.mod_eq_of_lt (by omega)
  have hj0:∀ x29:Bool,Ev (fun k=>bP.j0 k (n:Int) (P:Int) x29 1 neg s (hiI T) (loI T) rest) (((sgn n neg (if x29=true then P+1 else P):Nat):Int),0):=by
    intro x29
    cases x29 <;> cases neg
    · refine Ev.step (f:=fun _=>some ((P:Int),0)) (fun k=>by simp only[bP.j0,Bool.false_eq_true,if_false]) ?_
      rw[if_neg (by decide),hpos P (by omega)];exact Ev.now _
    · refine Ev.step (f:=fun k=>(gz.f k (n:Int) (P:Int)).bind fun alA=>some (alA,0)) (fun k=>by simp only[bP.j0,Bool.false_eq_true,if_false,if_true]) ?_
      rw[if_neg (by decide)];exact Ev.bind (hneg P (by omega)) (Ev.now _)
    · refine Ev.step (f:=fun _=>some (((P+1:Nat):Int),0)) (fun k=>by simp only[bP.j0,Bool.false_eq_true,if_false,if_true,hup]) ?_
      rw[if_pos rfl,hpos (P+1) (by omega)];exact Ev.now _
    · refine Ev.step (f:=fun k=>(gz.f k (n:Int) ((P+1:Nat):Int)).bind fun alz=>some (alz,0)) (fun k=>by simp only[bP.j0,if_true,hup]) ?_
      rw[if_pos rfl];exact Ev.bind (hneg (P+1) (by omega)) (Ev.now _)
  have hr:Ev (fun k=>bP.f k (n:Int) 1 neg s (hiI T) (loI T) rest) (((sgn n neg (rnd P Q):Nat):Int),0):=by
    unfold bP.f;refine Ev.bind hc ?_;simp only[if_true]
    have hmod:((Int.tmod (P:Int) 2) == 1)=decide (P % 2=1):=by
      rw[Int.tmod_eq_emod_of_nonneg (Int.natCast_nonneg _)]
      by_cases h:P % 2=1
      · rw[decide_eq_true h];exact beq_iff_eq.2 (by omega)
      · rw[decide_eq_false h];exact beq_eq_false_iff_ne.2 (by omega)
    by_cases h3:Q=3
    · have:=hj0 true
      rw[if_pos rfl]at this;unfold rnd;rw[if_pos (.inl h3)];simp only[if_pos (show (Q:Int)=3 by omega)];exact this
    · simp only[if_neg (show ¬ (Q:Int)=3 by omega)]
      by_cases h2:Q=2
      · simp only[if_pos (show (Q:Int)=2 by omega),hmod]
        have:=hj0 (decide (P % 2=1));unfold rnd
        by_cases hp:P % 2=1
        · rw[if_pos (.inr ⟨h2,hp⟩)]
          rw[decide_eq_true hp]at this ⊢;exact this
        · rw[if_neg (fun a=>a.elim h3 (fun b=>hp b.2))]
          rw[decide_eq_false hp]at this ⊢;exact this
      · simp only[if_neg (show ¬ (Q:Int)=2 by omega)]
        have:=hj0 false;unfold rnd;rw[if_neg (fun a=>a.elim h3 (fun b=>h2 b.1))];exact this
  unfold di.f;exact Ev.bind hr (Ev.now _)
end Go.Proofs.Yy.PTx
end
