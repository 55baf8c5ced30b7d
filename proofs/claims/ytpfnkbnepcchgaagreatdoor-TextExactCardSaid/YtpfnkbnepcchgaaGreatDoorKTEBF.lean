/- Part 32 of what the proof needs. -/
import Derived.Test.YtpfnkbnepcchgaaGreatDoorKTEAZ
set_option linter.unusedSimpArgs false
set_option linter.unusedVariables false
section
namespace Go.Proofs.Yy.PTx
open Go.RowKit Go.Proofs.Yw.PrintWords Go.Proofs.Yw.PrintLast Go.Proofs.Yw.PrintMore Go.Proofs.Yy.M Go.Proofs.Yy.NM
attribute [local irreducible] gp jK lI oL val
theorem qc:0<D:=by have:=D1;omega
theorem wK (l:List Int) (i:Nat):bK.f l (i:Int)=some (l.getD i 0):=by
  unfold bK.f
  by_cases h:i<l.length
  · rw [if_pos (by omega),if_pos (by omega),jg]
  · rw [if_neg (by omega),List.getD_eq_getElem?_getD,List.getElem?_eq_none (by omega)];rfl
theorem Xy {x:Int} (h:0≤x):Int.tmod x 16777216=x % D:=by rw [xP];exact Int.tmod_eq_emod_of_nonneg h
theorem aao {x:Int} (h:0≤x):Int.tdiv x 16777216=x / D:=by rw [xP];exact Int.tdiv_eq_ediv_of_nonneg h
theorem aeH:∀ (d:Nat) (v:Int) (out:List Int),0≤v→v<B→v<pw D d→out.length+d≤1099511627776→Ev (fun k=>dP.l0 k v out) (out ++ enc D v):=by
  intro d
  induction d with
  | zero =>
    intro v out h0 _ h1 _
    rw [lW] at h1
    obtain rfl:v=0:=by omega
    rw [eu,List.append_nil]
    refine Ev.step (f:=fun _=>some out) (fun k=>?_) (Ev.now _)
    simp only [dP.l0]
    rw [if_neg (by omega)]
  | succ d ih =>
    intro v out h0 hb h1 hL
    by_cases hp:0<v
    · have hq0:0≤v / D:=Int.ediv_nonneg h0 (Int.le_of_lt qc)
      have hq1:v / D<v:=Int.ediv_lt_self_of_pos_of_ne_one hp (by have:=D1;omega)
      have hr0:=Int.emod_nonneg v (show D≠0 by have:=D1;omega)
      have hr1:=Int.emod_lt_of_pos v qc
      have key:=ih (v / D) (out ++ [v % D]) hq0 (by omega) (I8 D1 h1) (by simp;omega)
      rw [NJ D1 hp] at key
      refine Ev.step (f:=fun k=>dP.l0 k (v / D) (out ++ [v % D])) (fun k=>?_) key
      simp only [dP.l0]
      rw [if_pos (by omega),if_pos (by omega),aao h0,Xy h0,ut hq0 (by rw [y9] at hb;omega),w64 (by omega) (by rw [xP] at hr1 ⊢;omega)]
    · obtain rfl:v=0:=by omega
      rw [eu,List.append_nil]
      refine Ev.step (f:=fun _=>some out) (fun k=>?_) (Ev.now _)
      simp only [dP.l0]
      rw [if_neg (by omega)]
theorem awP:B<pw D 3:=by
  rw [jU,jU,Oi,y9,xP];decide
theorem aeX {v:Int} (h0:0≤v) (h1:v<B):Ev (fun k=>dP.f k v) (enc D v):=by
  have:=aeH 3 v [] h0 h1 (Int.lt_trans h1 awP) (by simp)
  rw [List.nil_append] at this
  exact this
theorem Su {X q c b t:Int} (hb:0<b) (ht:t=X % b * q+c):(X * q+c) % b=t % b∧(X * q+c) / b=X / b * q+t / b:=by
  have h1:=Int.mul_ediv_add_emod X b
  have e:X * q+c=t+b * (X / b * q):=by
    rw [ht]
    have:X * q=(b * (X / b)+X % b) * q:=by rw [h1]
    rw [this,Int.add_mul,Int.mul_assoc];omega
  rw [e,Int.add_mul_emod_self_left,Int.add_mul_ediv_left _ _ (by omega)]
  exact ⟨rfl,by omega⟩
theorem Rf {A q:Int} (hA:0≤A) (hq:0≤q) (hqD:q≤D):∀ (d i:Nat) (c:Int) (out:List Int),A / pw D i * q+c<pw D d→0≤c→c<D→out.length=i→i+d≤1099511627776 →
    Ev (fun k=>bg.l0 k (enc D A) q out c (i:Int)) (out ++ enc D (A / pw D i * q+c)):=by
  intro d
  induction d with
  | zero =>
    intro i c out hv h0 h1 ho hL
    have hx:=jJ qc hA i
    have hxq:=Int.mul_nonneg hx hq
    rw [lW] at hv
    have hxl:=yw D1 hA i
    have e:A / pw D i * q+c=0:=by omega
    have hc:c=0:=by omega
    have hz:A / pw D i * q=0:=by omega
    rw [e,eu,List.append_nil]
    refine Ev.step (f:=fun _=>some out) (fun k=>?_) (Ev.now _)
    simp only [bg.l0]
    rcases Int.mul_eq_zero.1 hz with h|h
    · rw [if_neg (by omega),if_neg (by omega)]
    · rw [h]
      split
      · rw [if_neg (by omega),if_neg (by omega)]
      · rw [if_neg (by omega)]
  | succ d ih =>
    intro i c out hv h0 h1 ho hL
    have hx:=jJ qc hA i
    have hxq:=Int.mul_nonneg hx hq
    have hxl:=yw D1 hA i
    by_cases hp:0<A / pw D i * q+c
    · have hxd:=Int.emod_nonneg (A / pw D i) (show D≠0 by have:=D1;omega)
      have aJg:=Int.emod_lt_of_pos (A / pw D i) qc
      obtain ⟨t,ht⟩:∃ t,t=A / pw D i % D * q+c:=⟨_,rfl⟩
      obtain ⟨e1,e2⟩:=Su qc ht
      have hm0:0≤A / pw D i % D * q:=Int.mul_nonneg hxd hq
      have hm1:A / pw D i % D * q≤(D - 1) * D:=Int.mul_le_mul (by omega) hqD hq (by have:=D1;omega)
      have hm2:A / pw D i % D * q≤281474959933440:=by rw [xP] at hm1 ⊢;exact hm1
      have ht0:0≤t:=by omega
      have ht1 : t < D * D := by have : (D - 1) * D = D * D - D := by rw [Int.sub_mul, Int.one_mul]
                                 omega
      have ht2:t≤281474976710655:=by rw [xP] at h1;omega
      have hc0:0≤t / D:=Int.ediv_nonneg ht0 (Int.le_of_lt qc)
      have hc1:t / D<D:=Int.ediv_lt_of_lt_mul qc ht1
      have hw1:ae (wrap64 ((i:Int)+1)=((i+1:Nat):Int)):=⟨by rw [w64 (by omega) (by omega)];omega⟩
      have key:=ih (i+1) (t / D) (out ++ [t % D]) (by rw [qQ qc, ← e2];exact I8 D1 hv) hc0 hc1 (by simp [ho]) (by omega)
      rw [qQ qc, ← e2, ← e1,NJ D1 hp] at key
      have hw:ae (wrap64 (wrap64 (A / pw D i % D * q)+c)=t):=⟨by
        rw [w64 (x:=A / pw D i % D * q) (by omega) (by omega), ← ht,w64 (by omega) (by omega)]⟩
      have hcd:ae (wrap64 (t / D)=t / D):=⟨by rw [xP] at hc1 hc0 ⊢;exact w64 (by omega) (by omega)⟩
      have hol:out.length<17592186044416:=by omega
      rw [e1] at key
      refine Ev.step (f:=fun k=>bg.l0 k (enc D A) q (out ++ [t % D]) (t / D) ((i+1:Nat):Int)) (fun k=>?_) key
      simp only [bg.l0]
      rw [wK,nU D1 hA]
      simp only [Option.bind_some]
      rw [hw.out,Xy ht0,aao ht0,hw1.out,hcd.out,if_pos hol]
      by_cases ha:i<(enc D A).length
      · rw [if_pos (by omega)]
        by_cases hq0:0<q
        · rw [if_pos (by omega)]
        · rw [if_neg (by omega),if_pos]
          have:q=0:=by omega
          rw [this,Int.mul_zero] at hp
          omega
      · rw [if_neg (by omega),if_pos]
        have:A / pw D i=0:=by omega
        rw [this,Int.zero_mul] at hp
        omega
    · have e:A / pw D i * q+c=0:=by omega
      have hc:c=0:=by omega
      have hz:A / pw D i * q=0:=by omega
      rw [e,eu,List.append_nil]
      refine Ev.step (f:=fun _=>some out) (fun k=>?_) (Ev.now _)
      simp only [bg.l0]
      rcases Int.mul_eq_zero.1 hz with h|h
      · rw [if_neg (by omega),if_neg (by omega)]
      · rw [h]
        split
        · rw [if_neg (by omega),if_neg (by omega)]
        · rw [if_neg (by omega)]
theorem CU {A q:Int} (hA:0≤A) (hq:0≤q) (hqD:q≤D) {m:Nat} (hm:A * q<pw D m) (hL:m≤1099511627776):Ev (fun k=>bg.f k (enc D A) q) (enc D (A * q)):=by
  have:=Rf hA hq hqD m 0 0 [] (by rw [jA];omega) (by omega) qc rfl (by omega)
  rw [jA,Int.add_zero,List.nil_append] at this
  exact this
theorem lq (i:Nat):0<pw 2 i:=nz (by decide) i
theorem BC {i:Nat} (h:i≤24):pw 2 i≤D:=by rw [← NV];exact PN (by decide) h
theorem aaZ {n:Nat} (hn:n≤24):∀ (d i:Nat),i+d=n→Ev (fun k=>bH.l0 k (n:Int) (pw 2 i) (i:Int)) (pw 2 n):=by
 intro d
 induction d with
 | zero =>
  intro i hi
  obtain rfl:i=n:=by omega
  refine Ev.step (f:=fun _=>some (pw 2 i)) (fun k=>?_) (Ev.now _)
  simp only [bH.l0]
  rw [if_neg (by omega)]
 | succ d ih =>
  intro i hi
  have h1:=lq i
  have h2:pw 2 i≤16777216:=by rw [← xP];exact BC (by omega)
  refine Ev.step (f:=fun k=>bH.l0 k (n:Int) (pw 2 (i+1)) ((i+1:Nat):Int)) (fun k=>?_) (ih (i+1) (by omega))
  simp only [bH.l0]
  rw [if_pos (by omega),w64 (by omega) (by omega),w64 (by omega) (by omega),jU,Int.mul_comm (pw 2 i) 2]
  rfl
theorem F8 {n:Nat} (hn:n≤24):Ev (fun k=>bH.f k (n:Int)) (pw 2 n):=by
 have:=aaZ hn n 0 (by omega)
 rw [lW] at this
 exact this
theorem ZB (k:Nat):Int.tdiv (k:Int) 24=((k / 24:Nat):Int):=by rw [Int.tdiv_eq_ediv_of_nonneg (by omega)];omega
theorem Zm (k:Nat):Int.tmod (k:Int) 24=((k % 24:Nat):Int):=by rw [Int.tmod_eq_emod_of_nonneg (by omega)];omega
theorem Jf (k:Nat):pw 2 k=pw 2 (k % 24) * pw D (k / 24):=by rw [pwD, ← o9];congr 1;omega
theorem abb {A:Int} (hA:0≤A) (k:Nat) (hk:k≤1099511627776) {m:Nat} (hm:A<pw D m) (hm1:m≤549755813888):Ev (fun n=>iE.f n (enc D A) (k:Int)) (enc D (A * pw 2 k)):=by
 by_cases h0:0<A
 ·have hl:(enc D A).length≠0:=by have:=(yw D1 hA 0).2 (by rw [jA];exact h0);omega
  have hq:ae (wrap64 (Int.tdiv (k:Int) 24)=((k / 24:Nat):Int)):=⟨by rw [ZB];exact w64 (by omega) (by omega)⟩
  have hb:A * pw 2 (k % 24)<pw D (m+1):=by
   rw [jU]
   exact Int.lt_of_lt_of_le (Int.mul_lt_mul_of_pos_right hm (lq _)) (Int.mul_le_mul_of_nonneg_left (BC (by omega)) (Int.le_of_lt (nz qc _)))
  have hlen:=mV D1 hb
  refine Ev.congr (f:=fun n=>(bH.f n ((k % 24:Nat):Int)).bind fun t=>(bg.f n (enc D A) t).bind fun u=>if (List.replicate (k / 24) (0:Int)).length+u.length<17592186044416 then some (List.replicate (k / 24) 0 ++ u) else none) (fun n=>?_)
   (Ev.bind (F8 (by omega)) (Ev.bind (CU hA (Int.le_of_lt (lq _)) (BC (by omega)) hb (by omega)) ?_))
  ·unfold iE.f
   rw [if_neg (by omega),hq.out,if_pos (by omega),Int.toNat_natCast,if_pos (by omega),Zm]
   rfl
  ·rw [List.length_replicate,if_pos (by omega),Ul D1 (Int.mul_pos h0 (lq _)),Jf k,Int.mul_assoc]
   exact Ev.now _
 ·obtain rfl:A=0:=by omega
  rw [eu,Int.zero_mul,eu]
  exact Ev.congr (f:=fun _=>some []) (fun n=>by unfold iE.f;rw [if_pos (by simp)]) (Ev.now _)
theorem aaN {l:List Int} (h:Dig D l) (hL:l.length≤1099511627776):∀ n:Nat,n≤l.length→Ev (fun k=>aU.l0 k l (n:Int)) (enc D (val D (l.take n))):=by
 intro n
 induction n with
 | zero =>
  intro _
  refine Ev.step (f:=fun _=>some []) (fun k=>?_) (by rw [List.take_zero,pR,eu];exact Ev.now _)
  simp only [aU.l0]
  rw [if_neg (by omega),if_pos (by omega),if_pos (by omega)]
  simp
 | succ n ih =>
  intro hn
  have hw:ae (wrap64 (((n+1:Nat):Int) - 1)=(n:Int)):=⟨by rw [w64 (by omega) (by omega)];omega⟩
  have hd:=h.take (n+1)
  have ht:l.take (n+1)=l.take n ++ [l.getD n 0]:=by
   rw [List.take_succ_eq_append_getElem (by omega),List.getD_eq_getElem?_getD,List.getElem?_eq_getElem (by omega)];rfl
  rw [ht] at hd
  have he:=F6 D1 hd
  rw [← ht] at he
  by_cases h0:l.getD n 0=0
  ·rw [if_pos h0] at he
   rw [he]
   refine Ev.step (f:=fun k=>aU.l0 k l (n:Int)) (fun k=>?_) (ih (by omega))
   simp only [aU.l0]
   rw [hw.out,if_pos (by omega),if_pos (by omega),if_pos (by omega),jg,if_pos h0]
  ·rw [if_neg h0] at he
   rw [he]
   refine Ev.step (f:=fun _=>some (l.take (n+1))) (fun k=>?_) (Ev.now _)
   simp only [aU.l0]
   rw [hw.out,if_pos (by omega),if_pos (by omega),if_pos (by omega),jg,if_neg h0,if_pos (by omega),if_pos (by omega)]
   rfl
theorem Di {l:List Int} (h:Dig D l) (hL:l.length≤1099511627776):Ev (fun k=>aU.f k l) (enc D (val D l)):=by
 have:=aaN h hL l.length (Nat.le_refl _)
 rw [List.take_length] at this
 exact this
theorem I4 (X p r:Int) {b:Int}:((X % b) * p+r) % b=(X * p+r) % b:=by
 have h:=Int.mul_ediv_add_emod X b
 have e:X * p+r=(X % b) * p+r+b * (X / b * p):=by
  have:X * p=(b * (X / b)+X % b) * p:=by rw [h]
  rw [this,Int.add_mul,Int.mul_assoc];omega
 rw [e,Int.add_mul_emod_self_left]
theorem vS {n b:Int} (hb:0<b) (hn:0≤n) (i:Nat):n / pw b i % b * pw b i+n % pw b i=n % pw b (i+1):=by
 have hp:=nz hb i
 have h1:=Int.mul_ediv_add_emod n (pw b i)
 have h2:=Int.mul_ediv_add_emod (n / pw b i) b
 have h3:=Int.emod_nonneg n (show pw b i≠0 by omega)
 have h4:=Int.emod_lt_of_pos n hp
 have h5:=Int.emod_nonneg (n / pw b i) (show b≠0 by omega)
 have h6:=Int.emod_lt_of_pos (n / pw b i) hb
 have e:n=n / pw b i % b * pw b i+n % pw b i+pw b (i+1) * (n / pw b i / b):=by
  rw [jU]
  generalize pw b i=p at *
  generalize hq:n / p=q at *
  generalize n % p=r at *
  generalize hs:q / b=s at *
  generalize q % b=t at *
  rw [← h1, ← h2]
  grind
 have lo:0≤n / pw b i % b * pw b i+n % pw b i:=by have:=Int.mul_nonneg h5 (Int.le_of_lt hp);omega
 have hi:n / pw b i % b * pw b i+n % pw b i<pw b (i+1):=by
  rw [jU]
  have h7:(n / pw b i % b+1) * pw b i≤b * pw b i:=Int.mul_le_mul_of_nonneg_right (by omega) (Int.le_of_lt hp)
  rw [Int.add_mul,Int.one_mul,Int.mul_comm b] at h7
  omega
 have h8:=Int.add_mul_emod_self_left (n / pw b i % b * pw b i+n % pw b i) (pw b (i+1)) (n / pw b i / b)
 rw [← e,Int.emod_eq_of_lt lo hi] at h8
 exact h8.symm
theorem Jm {M f g:Int} (hf:0<f) (hg:0<g) (hM:0≤M):M / f % (f * g)=M % (f * g) / f+M / (f * g) % (f * g) % f * g:=by
 have h1:=Int.mul_ediv_add_emod M (f * g)
 have hb:0<f * g:=Int.mul_pos hf hg
 have h2:=Int.emod_nonneg M (show f * g≠0 by omega)
 have h3:=Int.emod_lt_of_pos M hb
 have h4:M / (f * g) % (f * g) % f=M / (f * g) % f:=Int.emod_emod_of_dvd _ ⟨g,rfl⟩
 rw [h4]
 generalize hq:M / (f * g)=q at *
 generalize hr:M % (f * g)=r at *
 have e1:M=r+f * (g * q):=by rw [← h1, ← Int.mul_assoc];omega
 have e2:M / f=r / f+g * q:=by rw [e1,Int.add_mul_ediv_left _ _ (by omega)]
 have h5:=Int.mul_ediv_add_emod q f
 have h6:=Int.emod_nonneg q (show f≠0 by omega)
 have h7:=Int.emod_lt_of_pos q hf
 have h8:0≤r / f:=Int.ediv_nonneg h2 (by omega)
 have h9:r / f<g:=Int.ediv_lt_of_lt_mul hf (by rw [Int.mul_comm];exact h3)
 have e3:r / f+g * q=(r / f+q % f * g)+f * g * (q / f):=by
  have:g * q=g * (f * (q / f)+q % f):=by rw [h5]
  rw [this];grind
 rw [e2,e3,Int.add_mul_emod_self_left]
 have lo:0≤r / f+q % f * g:=by have:=Int.mul_nonneg h6 (Int.le_of_lt hg);omega
 have hi:r / f+q % f * g<f * g:=by
  have:(q % f+1) * g≤f * g:=Int.mul_le_mul_of_nonneg_right (by omega) (by omega)
  rw [Int.add_mul,Int.one_mul] at this
  omega
 exact Int.emod_eq_of_lt lo hi
theorem Ar {n a b:Int} (ha:0≤a) (hb:0≤b):n / a / b=n / b / a:=by
 rw [Int.ediv_ediv_of_nonneg ha,Int.ediv_ediv_of_nonneg hb,Int.mul_comm]
theorem aa1 {M:Int} (hM:0≤M) {s:Nat} (hs:s≤23) (hL:(enc D M).length≤549755813888):∀ (d i:Nat) (x:List Int),i+d=(enc D M).length→x.length=(enc D M).length→Dig D x→val D (x.take i)=M / pw 2 s % pw D i →
  Ev (fun k=>bn.l0 k (enc D M) (pw 2 s) x (i:Int)) (enc D (M / pw 2 s)):=by
 have hf:=lq s
 have hfD:pw 2 s * pw 2 (24 - s)=D:=by rw [← o9, ← NV];congr 1;omega
 have hg:=lq (24 - s)
 intro d
 induction d with
 | zero =>
  intro i x hi hx hd hv
  obtain rfl:i=x.length:=by omega
  rw [List.take_length] at hv
  have hlt:M / pw 2 s<pw D x.length:=by
   rw [hx]
   refine Int.lt_of_le_of_lt (Int.ediv_le_self _ hM) ?_
   have:=qo qc (iG D1 M)
   rw [gJ D1 hM] at this
   exact this
  rw [Int.emod_eq_of_lt (Int.ediv_nonneg hM (Int.le_of_lt hf)) hlt] at hv
  refine Ev.step (f:=fun k=>(aU.f k x).bind fun t=>some t) (fun k=>?_) (Ev.bind (by rw [← hv];exact Di hd (by omega)) (Ev.now _))
  simp only [bn.l0]
  rw [if_neg (by omega)]
 | succ d ih =>
  intro i x hi hx hd hv
  have hw1:ae (wrap64 ((i:Int)+1)=((i+1:Nat):Int)):=⟨by rw [w64 (by omega) (by omega)];omega⟩
  have hlt:i<x.length:=by omega
  have hi1:i+1+d=(enc D M).length:=by omega
  have hMi:=jJ qc hM i
  have hsd:=Jm hf hg hMi
  rw [hfD, ← qQ qc] at hsd
  have hcc:M / pw D i / pw 2 s=M / pw 2 s / pw D i:=Ar (Int.le_of_lt (nz qc i)) (Int.le_of_lt hf)
  rw [hcc] at hsd
  have hMs:=Int.ediv_nonneg hM (Int.le_of_lt hf)
  have arQ:=Int.emod_nonneg (M / pw 2 s / pw D i) (show D≠0 by have:=D1;omega)
  have aen:=Int.emod_lt_of_pos (M / pw 2 s / pw D i) qc
  have key:=ih (i+1) (x.set i (M / pw 2 s / pw D i % D)) hi1 (by simpa using hx) (hd.set arQ aen) (by
   rw [xW D x i _ hlt,hv, ← vS qc hMs i,Int.mul_comm (pw D i)];omega)
  have a0:=Int.emod_nonneg (M / pw D i) (show D≠0 by have:=D1;omega)
  have a1:=Int.emod_lt_of_pos (M / pw D i) qc
  have b0:=Int.emod_nonneg (M / pw D (i+1)) (show D≠0 by have:=D1;omega)
  have b1:=Int.emod_lt_of_pos (M / pw D (i+1)) qc
  have c0:=Int.emod_nonneg (M / pw D (i+1) % D) (show pw 2 s≠0 by omega)
  have c1:=Int.emod_lt_of_pos (M / pw D (i+1) % D) hf
  have q0:0≤M / pw D i % D / pw 2 s:=Int.ediv_nonneg a0 (Int.le_of_lt hf)
  have q1:M / pw D i % D / pw 2 s≤M / pw D i % D:=Int.ediv_le_self _ a0
  have hgd:(16777216:Int) / pw 2 s=pw 2 (24 - s):=by rw [← xP, ← hfD,Int.mul_ediv_cancel_left _ (by omega)]
  have p0:0≤M / pw D (i+1) % D % pw 2 s * pw 2 (24 - s):=Int.mul_nonneg c0 (Int.le_of_lt hg)
  have hA1:ae (wrap64 (Int.tdiv (16777216:Int) (pw 2 s))=pw 2 (24 - s)):=⟨by
   rw [Int.tdiv_eq_ediv_of_nonneg (by omega),hgd]
   have:=BC (i:=24 - s) (by omega)
   rw [xP] at this
   exact w64 (by omega) (by omega)⟩
  rw [hsd] at key aen
  have hA2:ae (wrap64 (wrap64 (Int.tdiv (M / pw D i % D) (pw 2 s))+wrap64 (Int.tmod (M / pw D (i+1) % D) (pw 2 s) * pw 2 (24 - s)))=M / pw D i % D / pw 2 s+M / pw D (i+1) % D % pw 2 s * pw 2 (24 - s)):=⟨by
   rw [Int.tdiv_eq_ediv_of_nonneg a0,Int.tmod_eq_emod_of_nonneg b0]
   rw [xP] at a1 aen q1 q0 p0 ⊢
   rw [w64 (x:=M / pw 16777216 i % 16777216 / pw 2 s) (by omega) (by omega),w64 (x:=M / pw 16777216 (i+1) % 16777216 % pw 2 s * pw 2 (24 - s)) (by omega) (by omega),w64 (by omega) (by omega)]⟩
  refine Ev.step (f:=fun k=>bn.l0 k (enc D M) (pw 2 s) (x.set i (M / pw D i % D / pw 2 s+M / pw D (i+1) % D % pw 2 s * pw 2 (24 - s))) ((i+1:Nat):Int)) (fun k=>?_) key
  simp only [bn.l0]
  rw [hw1.out,wK,jg,nU D1 hM,nU D1 hM]
  simp only [Option.bind_some]
  rw [hA1.out,hA2.out,if_pos (by omega),if_pos (by omega),if_neg (by omega),if_pos (by omega)]
  rfl
theorem aa7 {A:Int} (hA:0≤A) (k:Nat) (hk:k≤9223372036854775807) (hL:(enc D A).length≤549755813888):Ev (fun n=>bn.f n (enc D A) (k:Int)) (enc D (A / pw 2 k)):=by
 have hq:ae (wrap64 (Int.tdiv (k:Int) 24)=((k / 24:Nat):Int)):=⟨by rw [ZB];exact w64 (by omega) (by omega)⟩
 by_cases h:(enc D A).length≤k / 24
 ·have hlt:A<pw 2 k:=by
   have h1:=qo qc (iG D1 A)
   rw [gJ D1 hA] at h1
   refine Int.lt_of_lt_of_le h1 ?_
   rw [pwD]
   exact PN (by decide) (by omega)
  rw [Int.ediv_eq_zero_of_lt hA hlt,eu]
  exact Ev.congr (f:=fun _=>some []) (fun n=>by unfold bn.f;rw [hq.out,if_pos (by omega)]) (Ev.now _)
 ·have hdr:=GK D1 hA (k / 24)
  have hM:=jJ qc hA (k / 24)
  have hlen:(enc D (A / pw D (k / 24))).length≤(enc D A).length:=by rw [← hdr,List.length_drop];omega
  have e:A / pw D (k / 24) / pw 2 (k % 24)=A / pw 2 k:=by
   rw [Int.ediv_ediv_of_nonneg (Int.le_of_lt (nz qc _)),Jf k,Int.mul_comm]
  refine Ev.congr (f:=fun n=>(bH.f n ((k % 24:Nat):Int)).bind fun t=>bn.l0 n (enc D (A / pw D (k / 24))) t (List.replicate (enc D (A / pw D (k / 24))).length 0) ((0:Nat):Int)) (fun n=>?_)
   (Ev.bind (F8 (by omega)) (by rw [← e];exact aa1 hM (s:=k % 24) (by omega) (by omega) (enc D (A / pw D (k / 24))).length 0 _ (by omega) (by simp) (Dig.zeros qc _) (by rw [List.take_zero,pR,lW,Int.emod_one])))
  unfold bn.f
  rw [hq.out,if_neg (by omega),if_pos (by omega),if_pos (by omega),Zm,Int.toNat_natCast,hdr]
  simp only [Option.bind_some]
  congr 1
  funext t
  rw [if_pos (by omega),Int.toNat_natCast,if_pos (by omega)]
  rfl
theorem RN {v w x y:Int} (hv:0≤v∧v<D) (hw:0≤w∧w<D) (hx:0≤x∧x<D) (hy:0≤y∧y<D) :
  ae (wrap64 (wrap64 (x+wrap64 (v * w))+y)=x+v * w+y)∧ae (wrap64 ((x+v * w+y) / D)=(x+v * w+y) / D)∧0≤x+v * w+y∧(x+v * w+y) / D<D:=by
 have hm0:0≤v * w:=Int.mul_nonneg hv.1 hw.1
 have hm1:v * w≤(D - 1) * (D - 1):=Int.mul_le_mul (by omega) (by omega) hw.1 (by have:=D1;omega)
 have hm2:v * w≤281474943156225:=by rw [xP] at hm1;exact hm1
 have ht1:x+v * w+y<D * D:=by rw [xP] at *;omega
 have hx1:=hx.2
 have hy1:=hy.2
 have hc0:0≤(x+v * w+y) / D:=Int.ediv_nonneg (by omega) (Int.le_of_lt qc)
 have hc1:(x+v * w+y) / D<D:=Int.ediv_lt_of_lt_mul qc ht1
 refine ⟨⟨?_⟩,⟨?_⟩,by omega,hc1⟩
 ·rw [xP] at hx1 hy1
  rw [w64 (x:=v * w) (by omega) (by omega),w64 (x:=x+v * w) (by omega) (by omega),w64 (by omega) (by omega)]
 ·rw [xP] at hc0 hc1 ⊢
  exact w64 (by omega) (by omega)
theorem Sl {pi pk b v q r x y w V A W:Int} (hs:b * q+r=x+v * w+y) (hv:V+pi * pk * y=A+pi * v * W):V+pi * pk * (r - x)+pi * pk * b * q=A+pi * v * (W+pk * w):=by grind
theorem abn {a b:List Int} (ha:Dig D a) (hb:Dig D b) (hL:a.length+b.length≤1099511627776) (i:Nat) (hi:i<a.length) (A:Int) (r:List Int)
  (next:∀ x,x.length=a.length+b.length→Dig D x→(∀ j,i+1+b.length≤j→x.getD j 0=0)→val D x=A+pw D i * a.getD i 0 * val D b→Ev (fun k=>az.l0 k a b x ((i+1:Nat):Int)) r) :
  ∀ (d k:Nat) (x:List Int) (y:Int),k+d=b.length→x.length=a.length+b.length→Dig D x→0≤y→y<D→(∀ j,i+b.length≤j→x.getD j 0=0) →
   val D x+pw D i * pw D k * y=A+pw D i * a.getD i 0 * val D (b.take k) →
   Ev (fun n=>az.l1 n a b x (i:Int) y (k:Int)) r:=by
 intro d
 induction d with
 | zero =>
  intro k x y hk hx hd h0 h1 hz hval
  obtain rfl:k=b.length:=by omega
  rw [List.take_length, ← o9] at hval
  have hw:ae (wrap64 ((i:Int)+(b.length:Int))=((i+b.length:Nat):Int)):=⟨by rw [w64 (by omega) (by omega)];omega⟩
  have hw1:ae (wrap64 ((i:Int)+1)=((i+1:Nat):Int)):=⟨by rw [w64 (by omega) (by omega)];omega⟩
  have hlt:i+b.length<x.length:=by omega
  refine Ev.step (f:=fun n=>az.l0 n a b (x.set (i+b.length) y) ((i+1:Nat):Int)) (fun n=>?_) (next _ (by simpa using hx) (hd.set h0 h1) (fun j hj=>by rw [rQ _ _ _ _ (by omega)];exact hz j (by omega)) ?_)
  ·simp only [az.l1]
   rw [hw.out,hw1.out,if_neg (by omega),if_pos (by omega),if_pos (by omega)]
   rfl
  ·rw [uo D x _ y hlt,hz _ (by omega),Int.sub_zero]
   exact hval
 | succ d ih =>
  intro k x y hk hx hd h0 h1 hz hval
  have hw:ae (wrap64 ((i:Int)+(k:Int))=((i+k:Nat):Int)):=⟨by rw [w64 (by omega) (by omega)];omega⟩
  have hw1:ae (wrap64 ((k:Int)+1)=((k+1:Nat):Int)):=⟨by rw [w64 (by omega) (by omega)];omega⟩
  have hlt:i+k<x.length:=by omega
  have hk1:k+1+d=b.length:=by omega
  obtain ⟨e1,e2,p0,p1⟩:=RN (ha.get qc i) (hb.get qc k) (hd.get qc (i+k)) ⟨h0,h1⟩
  obtain ⟨t,ht⟩:∃ t,t=x.getD (i+k) 0+a.getD i 0 * b.getD k 0+y:=⟨_,rfl⟩
  rw [← ht] at e1 e2 p0 p1
  refine Ev.step (f:=fun n=>az.l1 n a b (x.set (i+k) (t % D)) (i:Int) (t / D) ((k+1:Nat):Int)) (fun n=>?_)
   (ih (k+1) _ _ hk1 (by simpa using hx) (hd.set (Int.emod_nonneg _ (by have:=D1;omega)) (Int.emod_lt_of_pos _ qc)) (Int.ediv_nonneg p0 (Int.le_of_lt qc)) p1 (fun j hj=>by rw [rQ _ _ _ _ (by omega)];exact hz j hj) ?_)
  ·simp only [az.l1]
   rw [hw.out,hw1.out,if_pos (by omega),if_pos (by omega),if_pos (by omega),if_pos (by omega),if_pos (by omega),if_pos (by omega),jg,jg,jg,e1.out,Xy p0,aao p0,e2.out,Int.toNat_natCast]
  ·rw [uo D x _ _ hlt,jM D b,jU, ← Int.mul_assoc,o9]
   exact Sl ((Int.mul_ediv_add_emod t D).trans ht) hval
theorem aa5 {a b:List Int} (ha:Dig D a) (hb:Dig D b) (hL:a.length+b.length≤1099511627776):∀ (d i:Nat) (x:List Int),i+d=a.length→x.length=a.length+b.length→Dig D x→(∀ j,i+b.length≤j→x.getD j 0=0) →
  val D x=val D (a.take i) * val D b→Ev (fun k=>az.l0 k a b x (i:Int)) (enc D (val D a * val D b)):=by
 intro d
 induction d with
 | zero =>
  intro i x hi hx hd _ hval
  obtain rfl:i=a.length:=by omega
  rw [List.take_length] at hval
  refine Ev.step (f:=fun k=>(aU.f k x).bind fun t=>some t) (fun k=>?_) (Ev.bind (by rw [← hval];exact Di hd (by omega)) (Ev.now _))
  simp only [az.l0]
  rw [if_neg (by omega)]
 | succ d ih =>
  intro i x hi hx hd hz hval
  have hilt:i<a.length:=by omega
  have hi1:i+1+d=a.length:=by omega
  refine Ev.step (f:=fun k=>az.l1 k a b x (i:Int) 0 ((0:Nat):Int)) (fun k=>?_)
   (abn ha hb hL i hilt (val D (a.take i) * val D b) _ (fun x' hx' hd' hz' hval'=>ih (i+1) x' hi1 hx' hd' hz' ?_) b.length 0 x 0 (by omega) hx hd (by omega) qc hz ?_)
  ·simp only [az.l0]
   rw [if_pos (by omega)]
   rfl
  ·rw [jM D a]
   exact Jq hval'
  ·rw [List.take_zero,pR,hval];simp
theorem Ub {a b:List Int} (ha:Dig D a) (hb:Dig D b) (hL:a.length+b.length≤1099511627776):Ev (fun k=>az.f k a b) (enc D (val D a * val D b)):=by
 have hw:ae (wrap64 ((a.length:Int)+(b.length:Int))=((a.length+b.length:Nat):Int)):=⟨by rw [w64 (by omega) (by omega)];omega⟩
 have hT:a = []∨b = []→Ev (fun k=>az.j0 k a b true) (enc D (val D a * val D b)):=fun h=>by
  have e:enc D (val D a * val D b) = []:=by rcases h with h|h <;> rw [h,pR] <;> simp [eu]
  rw [e]
  refine Ev.step (f:=fun _=>some []) (fun k=>?_) (Ev.now _)
  simp only [az.j0]
  rw [if_pos trivial]
 by_cases h1:a.length=0
 ·refine Ev.congr (fun k=>?_) (hT (.inl (List.length_eq_zero_iff.1 h1)))
  unfold az.f
  rw [if_pos (by omega)]
 ·by_cases h2:b.length=0
  ·refine Ev.congr (fun k=>?_) (hT (.inr (List.length_eq_zero_iff.1 h2)))
   unfold az.f
   rw [if_neg (by omega),h2]
   rfl
  ·refine Ev.congr (f:=fun k=>az.j0 k a b false) (fun k=>?_) ?_
   ·unfold az.f
    rw [if_neg (by omega),show ((b.length:Int) == 0)=false from beq_eq_false_iff_ne.2 (by omega)]
   ·refine Ev.step (f:=fun k=>az.l0 k a b (List.replicate (a.length+b.length) 0) ((0:Nat):Int)) (fun k=>?_)
     (aa5 ha hb (by omega) a.length 0 _ (by omega) (by simp) (Dig.zeros qc _) (fun j _=>by simp [List.getD_eq_getElem?_getD,List.getElem?_replicate];split <;> rfl) (by simp [yj,val]))
    simp only [az.j0]
    rw [if_neg (by decide),hw.out,if_pos (by omega),Int.toNat_natCast,if_pos (by omega)]
    rfl
def WO (A C:Int):Int:=if A<C then -1 else if A=C then 0 else 1
theorem vO {A C p:Int} (hp:0<p) (h:A / p<C / p):A<C:=by
 rcases Int.lt_or_le A C with h1|h1
 ·exact h1
 ·have:=Int.ediv_le_ediv hp h1
  omega
theorem Jn {A b:Int} (hb:0<b) (i:Nat):A / pw b i=b * (A / pw b (i+1))+A / pw b i % b:=by
 rw [qQ hb]
 exact (Int.mul_ediv_add_emod _ _).symm
theorem Ue {A C:Int} (h:A<C):WO A C = -1:=by unfold WO;rw [if_pos h]
theorem UA {A C:Int} (h:C<A):WO A C=1:=by unfold WO;rw [if_neg (by omega),if_neg (by omega)]
theorem aaP (A:Int):WO A A=0:=by unfold WO;rw [if_neg (by omega),if_pos rfl]
theorem Ol {A C b:Int} (hb:1<b) (hA:0≤A) (hC:0≤C) (h:(enc b A).length<(enc b C).length):A<C:=by
 have h1:=(yw hb hC (enc b A).length).1 h
 have h2:¬ 0<A / pw b (enc b A).length:=fun e=>by
  have:=(yw hb hA (enc b A).length).2 e
  omega
 exact vO (p:=pw b (enc b A).length) (nz (by omega) (enc b A).length) (by omega)
theorem KQ {A b:Int} (hb:1<b) (hA:0≤A):A / pw b (enc b A).length=0:=by
 have h1:=yw hb hA (enc b A).length
 have h2:=jJ (b:=b) (by omega) hA (enc b A).length
 omega
theorem abo {A C:Int} (hA:0≤A) (hC:0≤C) (hl:(enc D A).length=(enc D C).length) (hL:(enc D A).length≤1099511627776):∀ i:Nat,i≤(enc D A).length→A / pw D i=C / pw D i →
  Ev (fun k=>bP.l0 k (enc D A) (enc D C) ((i:Int) - 1)) (WO A C):=by
 intro i
 induction i with
 | zero =>
  intro _ h
  rw [jA,jA] at h
  refine Ev.step (f:=fun _=>some 0) (fun k=>?_) (by rw [h,aaP];exact Ev.now _)
  simp only [bP.l0]
  rw [if_neg (by omega)]
 | succ i ih =>
  intro hi h
  have hw:ae (wrap64 ((i:Int) - 1)=(i:Int) - 1):=⟨w64 (by omega) (by omega)⟩
  have e:((i+1:Nat):Int) - 1=(i:Int):=by omega
  have dA:=Jn (A:=A) qc i
  have dC:=Jn (A:=C) qc i
  rw [h] at dA
  by_cases h1:A / pw D i % D=C / pw D i % D
  ·refine Ev.step (f:=fun k=>bP.l0 k (enc D A) (enc D C) ((i:Int) - 1)) (fun k=>?_) (ih (by omega) (by rw [dA,dC,h1]))
   simp only [bP.l0]
   rw [e,if_pos (by omega),if_pos (by omega),if_pos (by omega),if_pos (by omega),jg,jg,nU D1 hA,nU D1 hC,if_neg (by omega),if_neg (by omega),hw.out]
  ·by_cases h2:A / pw D i % D<C / pw D i % D
   ·refine Ev.step (f:=fun _=>some (-1)) (fun k=>?_) (by rw [Ue (vO (nz qc i) (by omega))];exact Ev.now _)
    simp only [bP.l0]
    rw [e,if_pos (by omega),if_pos (by omega),if_pos (by omega),if_pos (by omega),jg,jg,nU D1 hA,nU D1 hC,if_pos h2]
   ·refine Ev.step (f:=fun _=>some 1) (fun k=>?_) (by rw [UA (vO (nz qc i) (by omega))];exact Ev.now _)
    simp only [bP.l0]
    rw [e,if_pos (by omega),if_pos (by omega),if_pos (by omega),if_pos (by omega),jg,jg,nU D1 hA,nU D1 hC,if_neg h2,if_pos (by omega)]
theorem abt {A C:Int} (hA:0≤A) (hC:0≤C) (hL:(enc D A).length≤1099511627776):Ev (fun k=>bP.f k (enc D A) (enc D C)) (WO A C):=by
 by_cases h:(enc D A).length=(enc D C).length
 ·have:=abo hA hC h (by omega) (enc D A).length (Nat.le_refl _) (by rw [KQ D1 hA];rw [h,KQ D1 hC])
  refine Ev.congr (fun k=>?_) this
  unfold bP.f
  rw [if_pos (by omega),w64 (by omega) (by omega)]
 ·by_cases h2:(enc D A).length<(enc D C).length
  ·rw [Ue (Ol D1 hA hC h2)]
   exact Ev.congr (f:=fun _=>some (-1)) (fun k=>by unfold bP.f;rw [if_neg (by omega),if_pos (by omega)]) (Ev.now _)
  ·rw [UA (Ol D1 hC hA (by omega))]
   exact Ev.congr (f:=fun _=>some 1) (fun k=>by unfold bP.f;rw [if_neg (by omega),if_neg (by omega)]) (Ev.now _)
theorem Xo {p b lo hi ai bi c X A C:Int} (hs:lo - b * hi=ai - bi - c) (hv:X - p * c=A - C):X+p * lo - p * b * hi=(A+p * ai) - (C+p * bi):=by grind
theorem aa3 {A C:Int} (hA:0≤A) (hC:0≤C) (hle:C≤A) (hL:(enc D A).length≤1099511627775):∀ (d i:Nat) (out:List Int) (c:Int),i+d=(enc D A).length→out.length=i→0≤c→c≤1→Dig D out →
  val D out - pw D i * c=val D ((enc D A).take i) - val D ((enc D C).take i)→Ev (fun k=>bQ.l0 k (enc D A) (enc D C) out c (i:Int)) (enc D (A - C)):=by
 intro d
 induction d with
 | zero =>
  intro i out c hi hx h0 h1 hd hv
  have hvb:C<pw D (enc D A).length:=by
   have:=qo qc (iG D1 A)
   rw [gJ D1 hA] at this
   omega
  have hcl:=mV D1 hvb
  obtain rfl:i=(enc D A).length:=by omega
  rw [List.take_length,List.take_of_length_le hcl,gJ D1 hA,gJ D1 hC] at hv
  have hlt:=qo qc hd
  rw [hx] at hlt
  have hc:c=0:=by
   rcases (show c=0∨c=1 by omega) with h|h
   ·exact h
   ·rw [h,Int.mul_one] at hv;omega
  rw [hc,Int.mul_zero,Int.sub_zero] at hv
  refine Ev.step (f:=fun k=>(aU.f k out).bind fun t=>some t) (fun k=>?_) (Ev.bind (by rw [← hv];exact Di hd (by omega)) (Ev.now _))
  simp only [bQ.l0]
  rw [if_neg (by omega)]
 | succ d ih =>
  intro i out c hi hx h0 h1 hd hv
  have hw:ae (wrap64 ((i:Int)+1)=((i+1:Nat):Int)):=⟨by rw [w64 (by omega) (by omega)];omega⟩
  have hq2:i+1+d=(enc D A).length:=by omega
  have ga:=(iG D1 A).get qc i
  have gc:=(iG D1 C).get qc i
  have ga1:=ga.2
  have gc1:=gc.2
  have step:∀ lo hi:Int,0≤lo→lo<D→0≤hi→hi≤1→lo - D * hi=(enc D A).getD i 0 - (enc D C).getD i 0 - c→Ev (fun k=>bQ.l0 k (enc D A) (enc D C) (out ++ [lo]) hi ((i+1:Nat):Int)) (enc D (A - C)):=fun lo hi l0 l1 h0 h1 hs=>by
   refine ih (i+1) (out ++ [lo]) hi hq2 (by simp [hx]) h0 h1 (hd.append (Dig.cons l0 l1 (Dig.nil D))) ?_
   rw [BV,jM D (enc D A),jM D (enc D C),jU,hx]
   simp only [jr,pR,Int.mul_zero,Int.add_zero]
   exact Xo hs hv
  have hd1:ae (wrap64 (wrap64 ((enc D A).getD i 0 - (enc D C).getD i 0) - c)=(enc D A).getD i 0 - (enc D C).getD i 0 - c):=⟨by
   rw [xP] at ga1 gc1
   rw [xP] at *
   rw [w64 (x:=(enc 16777216 A).getD i 0 - (enc 16777216 C).getD i 0) (by omega) (by omega),w64 (by omega) (by omega)]⟩
  by_cases hn:(enc D A).getD i 0 - (enc D C).getD i 0 - c<0
  ·have hd2:ae (wrap64 ((enc D A).getD i 0 - (enc D C).getD i 0 - c+16777216)=(enc D A).getD i 0 - (enc D C).getD i 0 - c+D):=⟨by
    rw [xP] at *
    rw [w64 (by omega) (by omega)]⟩
   refine Ev.step (f:=fun k=>bQ.l0 k (enc D A) (enc D C) (out ++ [(enc D A).getD i 0 - (enc D C).getD i 0 - c+D]) 1 ((i+1:Nat):Int)) (fun k=>?_) (step _ 1 (by omega) (by omega) (by omega) (by omega) (by omega))
   simp only [bQ.l0]
   rw [hw.out,if_pos (by omega),if_pos (by omega),wK,jg]
   simp only [Option.bind_some]
   rw [hd1.out,if_pos hn,hd2.out,if_pos (by omega)]
  ·refine Ev.step (f:=fun k=>bQ.l0 k (enc D A) (enc D C) (out ++ [(enc D A).getD i 0 - (enc D C).getD i 0 - c]) 0 ((i+1:Nat):Int)) (fun k=>?_) (step _ 0 (by omega) (by omega) (by omega) (by omega) (by omega))
   simp only [bQ.l0]
   rw [hw.out,if_pos (by omega),if_pos (by omega),wK,jg]
   simp only [Option.bind_some]
   rw [hd1.out,if_neg hn,if_pos (by omega)]
theorem abz {A C:Int} (hA:0≤A) (hC:0≤C) (hle:C≤A) (hL:(enc D A).length≤1099511627775):Ev (fun k=>bQ.f k (enc D A) (enc D C)) (enc D (A - C)) :=
 aa3 hA hC hle hL (enc D A).length 0 [] 0 (by omega) rfl (by omega) (by omega) (Dig.nil D) (by simp [pR,lW])
theorem GL (i:Nat):0<pw 10 i:=nz (by decide) i
theorem GH (i:Nat):pw 10 i<pw B (i+1):=by
 induction i with
 | zero=>rw [lW,jU,lW,Int.one_mul];exact B1
 | succ i ih =>
  rw [jU,jU B]
  have h1:=nz vV (i+1)
  have h2:pw 10 i * 10≤pw B (i+1) * 10:=Int.mul_le_mul_of_nonneg_right (Int.le_of_lt ih) (by decide)
  have h3:pw B (i+1) * 10<pw B (i+1) * B:=Int.mul_lt_mul_of_pos_left (by rw [y9];decide) h1
  omega
theorem Lm (b x:Int):val b [x]=x:=by rw [jr,pR];omega
theorem KZ {b x:Int} (h0:0≤x) (h1:x<b):Dig b [x]:=Dig.cons h0 h1 (Dig.nil b)
theorem Sj:∀ (n i:Nat),n+i≤1099511627774→Ev (fun k=>gX.l1 k (n:Int) (enc B (pw 10 i))) (enc B (pw 10 (n+i)),none):=by
 intro n
 induction n with
 | zero =>
  intro i _
  rw [Nat.zero_add]
  refine Ev.step (f:=fun _=>some (enc B (pw 10 i),none)) (fun k=>?_) (Ev.now _)
  simp only [gX.l1]
  rw [if_neg (by omega)]
 | succ n ih =>
  intro i h
  have hw:ae (wrap64 (((n+1:Nat):Int) - 1)=(n:Int)):=⟨by rw [w64 (by omega) (by omega)];omega⟩
  have hl:=mV B1 (GH i)
  have ht:=Gw (iG B1 (pw 10 i)) (KZ (b:=B) (x:=10) (by decide) (by rw [y9];decide)) (by simp;omega)
  rw [gJ B1 (Int.le_of_lt (GL i)),Lm, ← jU] at ht
  refine Ev.step (f:=fun k=>(dD.f k (enc B (pw 10 i)) [10]).bind fun t=>gX.l1 k (n:Int) t) (fun k=>?_) (Ev.bind ht (by rw [show n+1+i=n+(i+1) by omega];exact ih (i+1) (by omega)))
  simp only [gX.l1]
  rw [if_pos (by omega),hw.out]
theorem F9:pw 10 19=10000000000000000000:=by rw [rU];decide
theorem aap:∀ (m n i:Nat),n≤m→n+i≤1099511627774→Ev (fun k=>gX.l0 k (n:Int) (enc B (pw 10 i))) (enc B (pw 10 (n+i)),none):=by
 intro m
 induction m with
 | zero =>
  intro n i hm h
  refine Ev.step (f:=fun k=>gX.l1 k (n:Int) (enc B (pw 10 i))) (fun k=>?_) (Sj n i h)
  simp only [gX.l0]
  rw [if_neg (by omega)]
 | succ m ih =>
  intro n i hm h
  by_cases h19:19≤n
  ·have hw:ae (wrap64 ((n:Int) - 19)=((n - 19:Nat):Int)):=⟨by rw [w64 (by omega) (by omega)];omega⟩
   have hl:=mV B1 (GH i)
   have ht:=Gw (iG B1 (pw 10 i)) (KZ (b:=B) (x:=10000000000000000000) (by decide) (by rw [y9];decide)) (by simp;omega)
   rw [gJ B1 (Int.le_of_lt (GL i)),Lm, ← F9, ← o9,F9] at ht
   refine Ev.step (f:=fun k=>(dD.f k (enc B (pw 10 i)) [10000000000000000000]).bind fun t=>gX.l0 k ((n - 19:Nat):Int) t) (fun k=>?_) (Ev.bind ht (by rw [show n+i=(n - 19)+(i+19) by omega];exact ih (n - 19) (i+19) (by omega) (by omega)))
   simp only [gX.l0]
   rw [if_pos (by omega),hw.out]
  ·refine Ev.step (f:=fun k=>gX.l1 k (n:Int) (enc B (pw 10 i))) (fun k=>?_) (Sj n i h)
   simp only [gX.l0]
   rw [if_neg (by omega)]
theorem abw (n:Nat) (h:n≤16384):Ev (fun k=>gX.f k (n:Int)) (enc B (pw 10 n),none):=by
 have:=aap n n 0 (Nat.le_refl _) (by omega)
 rw [lW,SI,Nat.add_zero] at this
 refine Ev.congr (fun k=>?_) this
 unfold gX.f
 rw [if_neg (by omega),if_neg (by omega)]
theorem afd {v:Int} (h0:0≤v) (h1:v<B):Ev (fun k=>rV.f k v) (enc B v):=by
 have:=ul (KZ h0 h1) (by simp)
 rw [Lm] at this
 exact Ev.congr (fun k=>rfl) (Ev.bind this (Ev.now _))
def bl (A:Int):Nat:=(enc 2 A).length
theorem ajJ:(1:Int)<2:=by decide
theorem Ut:bl 0=0:=by unfold bl;rw [eu];rfl
theorem RQ {A:Int} (h:0<A):bl A=bl (A / 2)+1:=by unfold bl;rw [nH ajJ h];rfl
theorem ae5 {A:Int} {m:Nat} (h:A<pw 2 m):bl A≤m:=mV ajJ h
def blN:Nat→Nat→Nat
 | 0,_=>0
 | k+1,v=>if v=0 then 0 else blN k (v / 2)+1
def len8:ByteArray:=⟨#[0,1,2,2,3,3,3,3,4,4,4,4,4,4,4,4,5,5,5,5,5,5,5,5,5,5,5,5,5,5,5,5,6,6,6,6,6,6,6,6,6,6,6,6,6,6,6,6,6,6,6,6,6,6,6,6,6,6,6,6,6,6,6,6,7,7,7,7,7,7,7,7,7,7,7,7,7,7,7,7,7,7,7,7,7,7,7,7,7,7,7,7,7,7,7,7,7,7,7,7,7,7,7,7,7,7,7,7,7,7,7,7,7,7,7,7,7,7,7,7,7,7,7,7,7,7,7,7,8,8,8,8,8,8,8,8,8,8,8,8,8,8,8,8,8,8,8,8,8,8,8,8,8,8,8,8,8,8,8,8,8,8,8,8,8,8,8,8,8,8,8,8,8,8,8,8,8,8,8,8,8,8,8,8,8,8,8,8,8,8,8,8,8,8,8,8,8,8,8,8,8,8,8,8,8,8,8,8,8,8,8,8,8,8,8,8,8,8,8,8,8,8,8,8,8,8,8,8,8,8,8,8,8,8,8,8,8,8,8,8,8,8,8,8,8,8,8,8,8,8,8,8,8,8,8,8]⟩
attribute [local irreducible] len8
theorem IW:∀ (k x:Nat),k≤64→x<2 ^ k→Lib.bitLen x=bl (x:Int)
 | 0,x,_,h=>by
  have:x=0:=by rw [Nat.pow_zero] at h;omega
  subst this
  show Lib.bitLen 0=bl 0
  rw [Ut];rfl
 | k+1,x,hk,h=>by
  by_cases h0:x=0
  ·subst h0
   show Lib.bitLen 0=bl 0
   rw [Ut];rfl
  ·have h64:x<2 ^ 64:=Nat.lt_of_lt_of_le h (Nat.pow_le_pow_right (by omega) hk)
   rw [Lib.bitLen_half x h0 h64,RQ (by omega),IW k (x / 2) (by omega) (by rw [Nat.pow_succ] at h;omega),Nat.add_comm]
   congr 1
theorem X8 {x:Int} (h0:0≤x) (h1:x<B):Ev (fun k=>bits_Len64.f k x) (bl x:Int):=by
 rw [y9] at h1
 refine ⟨0,fun k _=>?_⟩
 unfold bits_Len64.f
 rw [if_pos (by omega)]
 obtain ⟨v,rfl⟩:=Int.eq_ofNat_of_zero_le h0
 rw [Int.toNat_natCast,IW 64 v (Nat.le_refl _) (by omega)]
end Go.Proofs.Yy.PTx
end
