/- Part 34 of what the proof needs. -/
import Derived.Laws.Strings2
import Derived.Laws.RangeString
import Derived.Test.YtpfnkbnepcchgaaGreatDoorKTEBE
import Derived.Test.YtpfnkbnepcchgaaGreatDoorKTEBG
set_option linter.unusedSimpArgs false
set_option linter.unusedVariables false
section
namespace Go.Proofs.Yy.PTx
open Go Go.Proofs.Yy.TA
open Go.Proofs.Yy.SC (D dg nrm formed lz rz tz kQ BH zk AO oI)
theorem N9 (l m:List UInt8):wX (l ++ m)=wX l * 10 ^ m.length+wX m:=by
 have:=Ox m (wX l)
 unfold wX at *
 rw [List.foldl_append];exact this
theorem ND:∀ k:Nat,wX (List.replicate k 48)=0
 | 0=>rfl
 | k+1=>by rw [List.replicate_succ,Iq,ND k];simp
theorem Xv (l:List UInt8) (k:Nat):wX (l ++ List.replicate k 48)=wX l * 10 ^ k:=by
 rw [N9,ND,List.length_replicate,Nat.add_zero]
theorem J8 (l:List UInt8):wX (lz l)=wX l:=by
 induction l with
 | nil=>rfl
 | cons c l ih =>
  unfold lz at *
  rw [List.dropWhile_cons]
  by_cases hc:(c == 48)=true
  ·rw [if_pos hc,ih,Iq,show c=48 by simpa using hc];simp
  ·rw [if_neg hc]
theorem abA (l:List UInt8) (k:Nat) (hk:k≤tz l):l=l.take (l.length - k) ++ List.replicate k 48:=by
 obtain ⟨n,hn⟩:=BH l
 have hl:l.length=(rz l).length+n:=by
  have:=congrArg List.length hn
  rwa [List.length_append,List.length_replicate] at this
 have ht:tz l=n:=by unfold tz;omega
 have e:l=(rz l ++ List.replicate (n - k) 48) ++ List.replicate k 48:=by
  rw [List.append_assoc,List.replicate_append_replicate,show n - k+k=n by omega];exact hn
 have e2:l.take (l.length - k)=rz l ++ List.replicate (n - k) 48:=by
  conv=>lhs;rw [e]
  rw [List.take_left' (by simp only [List.length_append,List.length_replicate];omega)]
 rw [e2];exact e
theorem abd {d:D} (hn:d.nar=false) (h0:lz d.ds ≠ []):RP (nrm d) * aeV d=RP d * aeV (nrm d):=by
 obtain ⟨k,hk⟩:∃ k,min (tz (lz d.ds)) (kQ - d.e).toNat=k:=⟨_,rfl⟩
 have hkt:k≤tz (lz d.ds):=by omega
 have e1:(nrm d).ds=(lz d.ds).take ((lz d.ds).length - k)∧(nrm d).e=d.e+k:=by
  unfold nrm
  rw [if_neg (by rw [hn];decide),if_neg h0,hk]
  exact ⟨rfl,rfl⟩
 have e2:wX d.ds=wX (nrm d).ds * 10 ^ k:=by
  rw [e1.1, ← Xv, ← abA _ k hkt,J8]
 obtain ⟨K,hK⟩:∃ K:Nat,K=d.e.natAbs+(nrm d).e.natAbs:=⟨_,rfl⟩
 have s1:=I7 d K (by omega)
 have s2:=I7 (nrm d) K (by omega)
 have e3:wX d.ds * 10 ^ (d.e+K).toNat=wX (nrm d).ds * 10 ^ ((nrm d).e+K).toNat:=by
  rw [e2,Nat.mul_assoc, ← Nat.pow_add,e1.2]
  congr 2
  have:=e1.2
  omega
 refine Nat.eq_of_mul_eq_mul_right (Nat.pow_pos (a:=10) (n:=K) (by decide)) ?_
 rw [Nat.mul_right_comm,s2,Nat.mul_right_comm (RP d),s1,e3]
 ac_rfl
theorem GR (u:Nat):wX (Lib.decDigits u)=u:=by
 induction u using Nat.strongRecOn with
 | ind u ih =>
  by_cases h:u<10
  ·rw [Lib.decDigits,dif_pos h]
   unfold wX
   rw [List.foldl_cons,List.foldl_nil,(SC.BB h).2];omega
  ·rw [Lib.decDigits,dif_neg h,N9,ih _ (by omega)]
   have h2:u % 10<10:=Nat.mod_lt _ (by decide)
   unfold wX
   rw [List.foldl_cons,List.foldl_nil,(SC.BB h2).2]
   simp only [List.length_cons,List.length_nil]
   omega
theorem afc {u:Nat} (h:0<u):lz (Lib.decDigits u) ≠ []:=fun e=>by
 have h1:=J8 (Lib.decDigits u)
 rw [e,GR] at h1
 have:wX ([]:List UInt8)=0:=rfl
 omega
theorem Xc {u:Nat} {e:Int} {neg:Bool} {K:Nat} (hu:0<u) (hK:u<10 ^ (K+1)) (hK2:K+1≤4096) (he1 : -kQ≤e) (he2:e≤kQ) :
  formed ⟨false,neg,Lib.decDigits u,e⟩=true∧lz (Lib.decDigits u) ≠ []∧RP ⟨false,neg,Lib.decDigits u,e⟩=u * 10 ^ e.toNat:=by
 have h1:=oI K u hK
 obtain ⟨h2,h3,_⟩:=AO u
 refine ⟨?_,afc hu,?_⟩
 ·unfold formed
  simp only [Bool.false_eq_true,if_false,Bool.and_eq_true,decide_eq_true_iff,Bool.not_eq_true',List.isEmpty_eq_false_iff]
  exact ⟨h3,by omega,h2,he1,he2⟩
 ·unfold RP;rw [GR]
theorem tK:∀ k:Nat,2 ^ k<10 ^ (k / 3+1)
 | 0=>by decide
 | 1=>by decide
 | 2=>by decide
 | k+3=>by
  have:=tK k
  rw [show (k+3) / 3=k / 3+1 by omega,Nat.pow_add,Nat.pow_succ 10 (k / 3+1)]
  have:(2:Nat) ^ 3=8:=rfl
  omega
theorem I9 {n p:Nat} {s:Int} {M:Nat} (hn:n≤64) (h:xY n p s M) : -248≤s∧s≤248:=by
 have:=top_le hn
 have:=h.low
 have:=h.high
 omega
end Go.Proofs.Yy.PTx
end
section
namespace Go.Proofs.Yy.PTx
open Go.RowKit Go.Proofs.Yw.PrintWords Go.Proofs.Yw.PrintLast Go.Proofs.Yw.PrintMore Go.Proofs.Yy.M Go.Proofs.Yy.NM
attribute [local irreducible] gp jK lI oL val
theorem Tu {A C:Int}:WO A C≤0 ↔ A≤C:=by
 unfold WO
 by_cases h:A<C
 ·rw [if_pos h];constructor <;> omega
 ·rw [if_neg h]
  by_cases h2:A=C
  ·rw [if_pos h2];constructor <;> omega
  ·rw [if_neg h2];constructor <;> omega
theorem aev {l x6:List Int} {C:Int} (hC:0<C) {n:Nat} (hCn:C<pw D n) (hn:n≤1073741824) {i:Nat} (hi:i<x6.length) (hi1:i≤1073741824) {R:Int} (hR0:0≤R) (hR1:R<D * C) {res:List Int × List Int}
  (next:Ev (fun k=>aH.l0 k l (enc D C) (x6.set i (R / C)) (enc D (R % C)) ((i:Int) - 1)) res) :
  ∀ (m:Nat) (low high:Int),(high - low).toNat≤m→0≤low→low<high→high≤D→low * C≤R→R<high * C →
   Ev (fun k=>aH.l1 k l (enc D C) x6 (enc D R) (i:Int) low high) res:=by
 have htm:∀ q,0≤q→q≤D→C * q<pw D (n+1):=by
  intro q h0 h1
  rw [jU]
  have h2:C * q≤C * D:=Int.mul_le_mul_of_nonneg_left h1 (by omega)
  have h3:C * D<pw D n * D:=Int.mul_lt_mul_of_pos_right hCn qc
  omega
 have htl:∀ q,0≤q→q≤D→(enc D (C * q)).length≤n+1:=fun q h0 h1=>mV D1 (htm q h0 h1)
 have hRl:(enc D R).length≤n+1:=by
  refine mV D1 ?_
  rw [jU,Int.mul_comm]
  exact Int.lt_of_lt_of_le hR1 (Int.mul_le_mul_of_nonneg_left (by omega) (Int.le_of_lt qc))
 intro m
 induction m with
 | zero=>intro low high hm;omega
 | succ m ih =>
  intro low high hm l0 l1 hD hl hh
  have hDn:D=16777216:=xP
  by_cases h1:high - low > 1
  ·have hw1:ae (wrap64 (high - low)=high - low):=⟨w64 (by omega) (by omega)⟩
   have hw2:ae (wrap64 (Int.tdiv (wrap64 (low+high)) 2)=(low+high) / 2):=⟨by rw [w64 (x:=low+high) (by omega) (by omega),Int.tdiv_eq_ediv_of_nonneg (by omega),w64 (by omega) (by omega)]⟩
   have ht:=CU (A:=C) (q:=(low+high) / 2) (by omega) (by omega) (by omega) (htm _ (by omega) (by omega)) (by omega)
   have hp:0≤C * ((low+high) / 2):=Int.mul_nonneg (by omega) (by omega)
   have hc:=abt hp hR0 (by have:=htl ((low+high) / 2) (by omega) (by omega);omega)
   refine Ev.congr (f:=fun k=>aH.l1 k l (enc D C) x6 (enc D R) (i:Int) low high) (fun k=>rfl) ?_
   refine Ev.step (f:=fun k=>(bg.f k (enc D C) ((low+high) / 2)).bind fun t=>(bP.f k t (enc D R)).bind fun c=>if c≤0 then aH.l1 k l (enc D C) x6 (enc D R) (i:Int) ((low+high) / 2) high else aH.l1 k l (enc D C) x6 (enc D R) (i:Int) low ((low+high) / 2)) (fun k=>?_) (Ev.bind ht (Ev.bind hc ?_))
   ·simp only [aH.l1]
    rw [hw1.out,hw2.out,if_pos h1]
   ·by_cases hle:C * ((low+high) / 2)≤R
    ·refine Ev.congr (fun k=>by rw [if_pos (Tu.2 hle)]) (ih ((low+high) / 2) high (by omega) (by omega) (by omega) hD (by rw [Int.mul_comm];exact hle) hh)
    ·refine Ev.congr (fun k=>by rw [if_neg (fun h=>hle (Tu.1 h))]) (ih low ((low+high) / 2) (by omega) l0 (by omega) (by omega) hl (by rw [Int.mul_comm];omega))
  ·obtain rfl:high=low+1:=by omega
   rw [Int.add_mul,Int.one_mul] at hh
   obtain ⟨e1,e2⟩:=Gi (a:=R) (y:=C) (q:=low) (t:=R - low * C) (by omega) (by omega) (by omega)
   rw [e1,e2] at next
   have hw1:ae (wrap64 (low+1 - low)=1):=⟨by rw [w64 (by omega) (by omega)];omega⟩
   have hw3:ae (wrap64 ((i:Int) - 1)=(i:Int) - 1):=⟨w64 (by omega) (by omega)⟩
   have ht:=CU (A:=C) (q:=low) (by omega) l0 (by omega) (htm _ l0 (by omega)) (by omega)
   have hp:0≤C * low:=Int.mul_nonneg (by omega) l0
   rw [Int.mul_comm] at hl
   have hs:=abz hR0 hp hl (by omega)
   rw [Int.mul_comm low] at next
   refine Ev.step (f:=fun k=>(bg.f k (enc D C) low).bind fun t=>(bQ.f k (enc D R) t).bind fun u=>aH.l0 k l (enc D C) (x6.set i low) u ((i:Int) - 1)) (fun k=>?_) (Ev.bind ht (Ev.bind hs next))
   simp only [aH.l1]
   rw [hw1.out,hw3.out,if_neg (by omega),if_pos (by omega),if_pos (by omega),Int.toNat_natCast]
theorem aeU {l:List Int} (hl:Dig D l) (hL:l.length≤1073741824) {C:Int} (hC:0<C) {n:Nat} (hCn:C<pw D n) (hn:n≤1073741823):∀ (i:Nat) (x:List Int) (r:Int),i≤l.length→x.length=l.length→Dig D x→0≤r→r<C→val D (l.drop i)=val D (x.drop i) * C+r →
  Ev (fun k=>aH.l0 k l (enc D C) x (enc D r) ((i:Int) - 1)) (enc D (val D l / C),enc D (val D l % C)):=by
 intro i
 induction i with
 | zero =>
  intro x r hi hx hd r0 r1 hv
  rw [List.drop_zero,List.drop_zero] at hv
  obtain ⟨e1,e2⟩:=Gi hv r0 r1
  rw [e1,e2]
  refine Ev.step (f:=fun k=>(aU.f k x).bind fun t=>some (t,enc D r)) (fun k=>?_) (Ev.bind (Di hd (by omega)) (Ev.now _))
  simp only [aH.l0]
  rw [if_neg (by omega)]
 | succ i ih =>
  intro x r hi hx hd r0 r1 hv
  have hg:=hl.get qc i
  have hrl:(enc D r).length≤n:=mV D1 (by omega)
  have hdn:Dig D ([l.getD i 0] ++ enc D r):=Dig.append (Dig.cons hg.1 hg.2 (Dig.nil D)) (iG D1 r)
  have hcut:=Di hdn (by simp only [List.length_append,List.length_cons,List.length_nil];omega)
  have hval:val D ([l.getD i 0] ++ enc D r)=l.getD i 0+D * r:=by rw [List.singleton_append,jr,gJ D1 r0]
  rw [hval] at hcut
  have hlt:i<x.length:=by omega
  have aJh:0≤D * r:=Int.mul_nonneg (Int.le_of_lt qc) r0
  have aDB:D * (r+1)≤D * C:=Int.mul_le_mul_of_nonneg_left (by omega) (Int.le_of_lt qc)
  rw [Int.mul_add,Int.mul_one] at aDB
  have he:=Int.mul_ediv_add_emod (l.getD i 0+D * r) C
  have q0:0≤(l.getD i 0+D * r) / C:=Int.ediv_nonneg (by omega) (by omega)
  have q1:(l.getD i 0+D * r) / C<D:=Int.ediv_lt_of_lt_mul hC (by omega)
  have t0:=Int.emod_nonneg (l.getD i 0+D * r) (show C≠0 by omega)
  have t1:=Int.emod_lt_of_pos (l.getD i 0+D * r) hC
  have key:=aev (l:=l) (x6:=x) hC hCn (by omega) hlt (by omega) (show 0≤l.getD i 0+D * r by omega) (by omega) (ih (x.set i ((l.getD i 0+D * r) / C)) ((l.getD i 0+D * r) % C) (by omega) (by simpa using hx) (hd.set q0 q1) t0 t1 (by
   rw [xX x i _ hlt,zO l i (by omega),jr,jr]
   exact Fz (by rw [Int.mul_comm r,Int.add_comm (D * r),Int.mul_comm _ C];omega) hv)) (D - 0).toNat 0 D (Nat.le_refl _) (Int.le_refl _) qc (Int.le_refl _) (by omega) (by omega)
  have hi1:ae (((i+1:Nat):Int) - 1=(i:Int)):=⟨by omega⟩
  rw [show D=16777216 from xP] at key
  refine Ev.step (f:=fun k=>(aU.f k ([l.getD i 0] ++ enc D r)).bind fun t=>aH.l1 k l (enc D C) x t (i:Int) 0 16777216) (fun k=>?_) (Ev.bind hcut (by rw [show D=16777216 from xP];exact key))
  simp only [aH.l0]
  rw [hi1.out,if_pos (by omega),if_pos (by omega),if_pos (by omega),jg]
  simp only [Option.bind_some]
  rw [if_pos (by simp only [List.length_cons,List.length_nil];omega)]
theorem Qd {A C:Int} (hA:0≤A) (hC:0<C) (hLA:(enc D A).length≤1073741824) (hLC:(enc D C).length≤1073741823):Ev (fun k=>aH.f k (enc D A) (enc D C)) (enc D (A / C),enc D (A % C)):=by
 have hCn:=qo qc (iG D1 C)
 rw [gJ D1 (Int.le_of_lt hC)] at hCn
 have:=aeU (iG D1 A) hLA hC hCn hLC (enc D A).length (List.replicate (enc D A).length 0) 0 (Nat.le_refl _) (by simp) (Dig.zeros qc _) (Int.le_refl _) hC (by simp [val])
 rw [gJ D1 hA,eu] at this
 refine Ev.congr (fun k=>?_) this
 unfold aH.f
 rw [if_pos (by omega),Int.toNat_natCast,if_pos (by omega),w64 (by omega) (by omega)]
def dec (A:Int):List UInt8:=Lib.decDigits A.toNat
def BD:Nat→Nat→List UInt8
 | 0,_ => []
 | k+1,r=>BD k (r / 10) ++ [UInt8.ofNat (48+r % 10)]
theorem NU {u:Nat} (h:¬ u<10):Lib.decDigits u=Lib.decDigits (u / 10) ++ [UInt8.ofNat (48+u % 10)]:=by rw [Lib.decDigits,dif_neg h]
theorem Xa (k:Nat):∀ q r:Nat,0<q→r<10 ^ k→Lib.decDigits (q * 10 ^ k+r)=Lib.decDigits q ++ BD k r:=by
 induction k with
 | zero=>intro q r hq hr;rw [Nat.pow_zero] at *;rw [show r=0 by omega];simp [BD]
 | succ k ih =>
  intro q r hq hr
  have hp:1≤10 ^ k:=Nat.one_le_pow _ _ (by decide)
  have e1:q * 10 ^ (k+1)=q * 10 ^ k * 10:=by rw [Nat.pow_succ,Nat.mul_assoc]
  have hqp:0<q * 10 ^ k:=Nat.mul_pos hq hp
  rw [Nat.pow_succ] at hr
  rw [e1,NU (by omega),show (q * 10 ^ k * 10+r) / 10=q * 10 ^ k+r / 10 by omega,show (q * 10 ^ k * 10+r) % 10=r % 10 by omega,ih q (r / 10) hq (by omega),BD,List.append_assoc]
theorem Rh (k:Nat):BD k 0=List.replicate k 48:=by
 induction k with
 | zero=>rfl
 | succ k ih=>rw [BD,Nat.zero_div,ih,List.replicate_succ'];rfl
theorem yG (k:Nat):∀ r:Nat,1≤k→r<10 ^ k→(Lib.decDigits r).length≤k:=by
 induction k with
 | zero=>intro r h;omega
 | succ k ih =>
  intro r _ hr
  by_cases h:r<10
  ·rw [Lib.decDigits_one h];simp
  ·rw [NU h,List.length_append]
   rw [Nat.pow_succ] at hr
   have hk:1≤k:=by
    by_cases h0:k=0
    ·subst h0;rw [Nat.pow_zero] at hr;omega
    ·omega
   have:=ih (r / 10) hk (by omega)
   simp only [List.length_cons,List.length_nil]
   omega
theorem SS (k:Nat):∀ r:Nat,1≤k→r<10 ^ k→BD k r=List.replicate (k - (Lib.decDigits r).length) 48 ++ Lib.decDigits r:=by
 induction k with
 | zero=>intro r h;omega
 | succ k ih =>
  intro r _ hr
  by_cases h:r<10
  ·rw [Lib.decDigits_one h,BD,Nat.div_eq_of_lt h,Rh,Nat.mod_eq_of_lt h];simp
  ·rw [Nat.pow_succ] at hr
   have hk:1≤k:=by
    by_cases h0:k=0
    ·subst h0;rw [Nat.pow_zero] at hr;omega
    ·omega
   have hl:=yG k (r / 10) hk (by omega)
   rw [BD,ih (r / 10) hk (by omega),NU h,List.length_append,List.append_assoc]
   simp only [List.length_cons,List.length_nil]
   rw [show k+1 - ((Lib.decDigits (r / 10)).length+1)=k - (Lib.decDigits (r / 10)).length by omega]
theorem Gv {A:Int} {k:Nat} (h0:0≤A) (h:A<pw 10 k):A.toNat<10 ^ k:=by
 rw [rU] at h
 have e:((10 ^ k:Nat):Int)=(10:Int) ^ k:=by simp
 omega
theorem Uu (n:Nat):pw B n≤pw 10 (38 * n):=by
 induction n with
 | zero=>rw [lW];exact Int.le_of_eq (lW 10).symm
 | succ n ih =>
  have h38:pw 10 38=100000000000000000000000000000000000000:=by rw [rU];decide
  have hp:=GL (38 * n)
  rw [jU,show 38 * (n+1)=38 * n+38 by omega,o9,h38,y9]
  have h1:pw B n * 18446744073709551616≤pw 10 (38 * n) * 18446744073709551616:=Int.mul_le_mul_of_nonneg_right ih (by decide)
  rw [y9] at h1
  have h2:pw 10 (38 * n) * 18446744073709551616≤pw 10 (38 * n) * 100000000000000000000000000000000000000:=Int.mul_le_mul_of_nonneg_left (by decide) (by omega)
  omega
theorem aat (u:Int):aso u=mkB (dec u):=rfl
theorem Xp (c:Nat):Lib.repeatL [48] c=List.replicate c 48:=by
 induction c with
 | zero=>rfl
 | succ c ih=>rw [Lib.repeatL,ih];rfl
theorem BQ (a b:List ByteArray):xQ (a ++ b)=xQ b ++ xQ a:=by
 unfold xQ
 rw [List.reverse_append,List.map_append,List.flatten_append]
theorem uz {b n:Int} (hb:1<b) (h:0<n):0<(enc b n).length:=(yw hb (Int.le_of_lt h) 0).2 (by rw [jA];exact h)
theorem Ja (k:Nat) {q r:Int} (hq:0<q) (hr0:0≤r) (hr:r<pw 10 k):dec (q * pw 10 k+r)=dec q ++ BD k r.toNat:=by
 have hrp:=Gv hr0 hr
 have e:(q * pw 10 k+r).toNat=q.toNat * 10 ^ k+r.toNat:=by
  have h1:q * pw 10 k=((q.toNat * 10 ^ k:Nat):Int):=by
   rw [rU,Int.natCast_mul,Int.toNat_of_nonneg (Int.le_of_lt hq)]
   simp
  omega
 unfold dec
 rw [e]
 exact Xa k q.toNat r.toNat (by omega) hrp
theorem TC {x3:List ByteArray} (h0:x3 ≠ []) (hl:(xQ x3).length≤140737488355328):Ev (fun k=>eU.l0 k (enc B 0) x3) (adT x3):=by
 refine Ev.step (f:=fun _=>some (adT x3)) (fun k=>?_) (Ev.now _)
 have hn:0<x3.length:=List.length_pos_iff.2 h0
 simp only [eU.l0,eu]
 rw [if_neg (by simp),if_neg (by omega),if_pos hl]
theorem Xi:∀ (m:Nat) (A:Int),0<A→A<pw 10 (19 * m)→m≤4194304 → ∃ ps,ps.length≤m∧xQ ps=dec A ∧ ∀ x3:List ByteArray,x3.length+m≤8796093022207→(dec A).length+(xQ x3).length≤140737488355328→Ev (fun k=>eU.l0 k (enc B A) x3) (adT (x3 ++ ps)):=by
 intro m
 induction m with
 | zero=>intro A h0 h1;rw [Nat.mul_zero,lW] at h1;omega
 | succ m ih =>
  intro A h0 h1 hm
  have hA:0≤A:=by omega
  have hs:=Xz (iG B1 A) (d:=10000000000000000000) (by
   have:=mV B1 (Int.lt_trans h1 (GH _))
   omega) (by decide) (by rw [y9];decide)
  rw [gJ B1 hA] at hs
  have hl:=uz B1 h0
  have hq0:0≤A / 10000000000000000000:=by omega
  have hr0:0≤A % 10000000000000000000:=by omega
  have hr1:A % 10000000000000000000<10000000000000000000:=by omega
  have hA2:=Int.mul_ediv_add_emod A 10000000000000000000
  generalize hq:A / 10000000000000000000=q at *
  generalize hr:A % 10000000000000000000=r at *
  have hrp:r.toNat<10 ^ 19:=Gv hr0 (by rw [F9];exact hr1)
  have hf:dF.f r 10=some (mkB (dec r)):=by
   unfold dF.f
   rw [if_pos ⟨hr0,by omega,rfl⟩,aat]
  have hlen:=yG 19 r.toNat (by decide) hrp
  have hsz:(mkB (dec r)).size=(Lib.decDigits r.toNat).length:=aY _
  by_cases hqp:0<q
  ·have asi:pw 10 19=10000000000000000000:=F9
   have hqlt:q<pw 10 (19 * m):=by
    rw [show 19 * (m+1)=19 * m+19 by omega,o9,asi] at h1
    omega
   obtain ⟨ps,p1,p2,p3⟩:=ih q hqp hqlt (by omega)
   have hd:dec A=dec q ++ BD 19 r.toNat:=by
    have h2:=Ja 19 hqp hr0 (by rw [asi];exact hr1)
    rw [asi,show q * 10000000000000000000+r=A by omega] at h2
    exact h2
   have hpad:=SS 19 r.toNat (by decide) hrp
   have hrep:strings_Repeat.f ⟨#[48]⟩ (19 - ((mkB (dec r)).size:Int))=some (mkB (List.replicate (19 - (Lib.decDigits r.toNat).length) 48)):=by
    unfold strings_Repeat.f
    have e:(19 - ((mkB (dec r)).size:Int)).toNat=19 - (Lib.decDigits r.toNat).length:=by omega
    rw [e,if_pos ⟨by omega,by omega,by show 1 * _≤_;omega⟩]
    exact congrArg (fun l=>some (mkB l)) (Xp _)
   have hcat:mkB (List.replicate (19 - (Lib.decDigits r.toNat).length) 48) ++ mkB (dec r)=mkB (BD 19 r.toNat):=by rw [fO,hpad];rfl
   have hpl:(BD 19 r.toNat).length≤19:=by rw [hpad,List.length_append,List.length_replicate];omega
   refine ⟨mkB (BD 19 r.toNat) :: ps,by simp;omega,by rw [tC,p2,qF,hd],fun x3 hx hlx=>?_⟩
   have hx1:xQ (x3 ++ [mkB (BD 19 r.toNat)])=BD 19 r.toNat ++ xQ x3:=by rw [BQ,tC,BG,qF,List.nil_append]
   have key:=p3 (x3 ++ [mkB (BD 19 r.toNat)]) (by simp;omega) (by rw [hx1,List.length_append];rw [hd,List.length_append] at hlx;omega)
   rw [List.append_assoc,List.singleton_append] at key
   have hql:=uz B1 hqp
   refine Ev.step (f:=fun k=>(iy.f k (enc B A) 10000000000000000000).bind fun b=>(dF.f b.2 10).bind fun t=>if (b.1.length:Int) > 0 then ((strings_Repeat.f ⟨#[48]⟩ (wrap64 (19 - (t.size:Int)))).bind fun t2=>if t2.size+t.size≤9223372036854775807 then (if x3.length<8796093022208 then eU.l0 k b.1 (x3 ++ [t2 ++ t]) else none) else none) else (if x3.length<8796093022208 then eU.l0 k b.1 (x3 ++ [t]) else none)) (fun k=>?_) (Ev.bind hs ?_)
   ·simp only [eU.l0]
    rw [if_pos (by omega)]
   ·refine Ev.congr (fun k=>?_) key
    rw [hf]
    simp only [Option.bind_some]
    rw [if_pos (by omega),w64 (x:=19 - ((mkB (dec r)).size:Int)) (by omega) (by omega),hrep]
    simp only [Option.bind_some]
    rw [if_pos (by rw [aY,aY,List.length_replicate];have:=hsz;rw [aY] at this;omega),if_pos (by omega),hcat]
  ·obtain rfl:q=0:=by omega
   have hAr:A=r:=by omega
   subst hAr
   refine ⟨[mkB (dec A)],by simp,by rw [tC,BG,qF,List.nil_append],fun x3 hx hlx=>?_⟩
   have hx1:xQ (x3 ++ [mkB (dec A)])=dec A ++ xQ x3:=by rw [BQ,tC,BG,qF,List.nil_append]
   have key:=TC (x3:=x3 ++ [mkB (dec A)]) (by simp) (by rw [hx1,List.length_append];exact hlx)
   refine Ev.step (f:=fun k=>(iy.f k (enc B A) 10000000000000000000).bind fun b=>(dF.f b.2 10).bind fun t=>if (b.1.length:Int) > 0 then ((strings_Repeat.f ⟨#[48]⟩ (wrap64 (19 - (t.size:Int)))).bind fun t2=>if t2.size+t.size≤9223372036854775807 then (if x3.length<8796093022208 then eU.l0 k b.1 (x3 ++ [t2 ++ t]) else none) else none) else (if x3.length<8796093022208 then eU.l0 k b.1 (x3 ++ [t]) else none)) (fun k=>?_) (Ev.bind hs ?_)
   ·simp only [eU.l0]
    rw [if_pos (by omega)]
   ·refine Ev.congr (fun k=>?_) key
    rw [hf]
    simp only [Option.bind_some]
    rw [eu,if_neg (by simp),if_pos (by omega)]
theorem abq {A:Int} (h0:0≤A) {n:Nat} (h:A<pw B n) (h1:1≤n):(dec A).length≤38 * n :=
 yG (38 * n) A.toNat (by omega) (Gv h0 (Int.lt_of_lt_of_le h (Uu n)))
theorem Oy {a:List Int} (ha:Dig B a) (hL:a.length≤1048576):Ev (fun k=>eU.f k a) (mkB (dec (val B a))):=by
 have hA:=oC vV ha
 have hlt:=qo vV ha
 refine Ev.congr (fun k=>by unfold eU.f;rfl) (Ev.bind (ul ha (by omega)) ?_)
 by_cases h:0<val B a
 ·have hn:1≤a.length:=by
   by_cases h0:a.length=0
   ·rw [List.length_eq_zero_iff] at h0;subst h0;rw [pR] at h;omega
   ·omega
  have hb:=Int.lt_of_lt_of_le hlt (Uu a.length)
  rw [show 38 * a.length=19 * (2 * a.length) by omega] at hb
  obtain ⟨ps,p1,p2,p3⟩:=Xi (2 * a.length) (val B a) h hb (by omega)
  have hd:=abq hA hlt hn
  have:=p3 [] (by simp;omega) (by rw [BG];simp;omega)
  rw [List.nil_append] at this
  have e:adT ps=mkB (dec (val B a)):=by unfold adT;rw [p2];rfl
  rw [e] at this
  exact this
 ·have h0:val B a=0:=by omega
  rw [h0,eu]
  have e:mkB (dec 0)=(⟨#[48]⟩:ByteArray):=by
   show mkB (Lib.decDigits 0)=_
   rw [Lib.decDigits_one (by decide)];rfl
  rw [e]
  refine Ev.step (f:=fun _=>some ⟨#[48]⟩) (fun k=>?_) (Ev.now _)
  simp only [eU.l0]
  rw [if_neg (by simp),if_pos (by simp)]
theorem Ff {n:Int} (h0:0≤n) (h1:n<1000000):(some (([(wrap64 (48+(Int.tmod n 10))) % 256]:List Int):List Int))=some [((48+n.toNat % 10:Nat):Int)]:=by
 rw [Int.tmod_eq_emod_of_nonneg h0,w64 (by omega) (by omega)]
 congr 2
 omega
theorem Ip (n:Nat):strOfNums [((48+n % 10:Nat):Int)]=mkB [UInt8.ofNat (48+n % 10)]:=by
 unfold strOfNums
 rw [List.map_cons,List.map_nil,Int.toNat_natCast]
 rfl
theorem RU {q:Int} (hq:0<q) (R:ByteArray):∀ (d:Nat) (n:Int) (s:List UInt8),d≤6→0≤n→n<1000000→s.length+d≤1000000000000 →
  Ev (fun k=>ax.l0 k (enc D q) (mkB (BD d n.toNat ++ s))) R→Ev (fun k=>ax.l1 k (mkB s) (enc D q) n ((6 - d:Nat):Int)) R:=by
 have hl:=uz D1 hq
 intro d
 induction d with
 | zero =>
  intro n s _ h0 h1 hs next
  refine Ev.step (fun k=>?_) next
  simp only [ax.l1]
  rw [if_neg (by omega)]
  rfl
 | succ d ih =>
  intro n s hd h0 h1 hs next
  have hw:ae (wrap64 (((6 - (d+1):Nat):Int)+1)=((6 - d:Nat):Int)):=⟨by rw [w64 (by omega) (by omega)];omega⟩
  have hw2:ae (wrap64 (Int.tdiv n 10)=n / 10):=⟨by rw [Int.tdiv_eq_ediv_of_nonneg h0,w64 (by omega) (by omega)]⟩
  have e1:BD (d+1) n.toNat ++ s=BD d (n / 10).toNat ++ (UInt8.ofNat (48+n.toNat % 10) :: s):=by
   rw [BD,List.append_assoc,show (n / 10).toNat=n.toNat / 10 by omega];rfl
  rw [e1] at next
  refine Ev.step (fun k=>?_) (ih (n / 10) (UInt8.ofNat (48+n.toNat % 10) :: s) (by omega) (by omega) (by omega) (by simp;omega) next)
  simp only [ax.l1]
  rw [if_pos (by omega),if_pos (by omega),Ff h0 h1]
  simp only [Option.bind_some]
  rw [Ip,fO,hw.out,hw2.out,if_pos (by rw [aY,aY];simp;omega)]
  rfl
theorem UB (R:ByteArray):∀ (d:Nat) (n:Int) (s:List UInt8),d≤6→0≤n→n.toNat<10 ^ d→n<1000000→s.length+d≤1000000000000 →
  Ev (fun k=>ax.l0 k [] (mkB ((if n=0 then [] else dec n) ++ s))) R→Ev (fun k=>ax.l1 k (mkB s) [] n ((6 - d:Nat):Int)) R:=by
 intro d
 induction d with
 | zero =>
  intro n s _ h0 hlt h1 hs next
  rw [Nat.pow_zero] at hlt
  rw [if_pos (by omega),List.nil_append] at next
  refine Ev.step (fun k=>?_) next
  simp only [ax.l1]
  rw [if_neg (by omega)]
 | succ d ih =>
  intro n s hd h0 hlt h1 hs next
  by_cases hn:n=0
  ·rw [if_pos hn,List.nil_append] at next
   refine Ev.step (fun k=>?_) next
   simp only [ax.l1]
   rw [if_pos (by omega),if_neg (by simp),if_neg (by omega)]
  ·rw [if_neg hn] at next
   have hw:ae (wrap64 (((6 - (d+1):Nat):Int)+1)=((6 - d:Nat):Int)):=⟨by rw [w64 (by omega) (by omega)];omega⟩
   have hw2:ae (wrap64 (Int.tdiv n 10)=n / 10):=⟨by rw [Int.tdiv_eq_ediv_of_nonneg h0,w64 (by omega) (by omega)]⟩
   have e1:dec n ++ s=(if n / 10=0 then [] else dec (n / 10)) ++ (UInt8.ofNat (48+n.toNat % 10) :: s):=by
    unfold dec
    by_cases h10:n.toNat<10
    ·rw [if_pos (by omega),Lib.decDigits_one h10,Nat.mod_eq_of_lt h10];rfl
    ·rw [if_neg (by omega),NU h10,List.append_assoc,show (n / 10).toNat=n.toNat / 10 by omega];rfl
   rw [e1] at next
   rw [Nat.pow_succ] at hlt
   refine Ev.step (fun k=>?_) (ih (n / 10) (UInt8.ofNat (48+n.toNat % 10) :: s) (by omega) (by omega) (by omega) (by omega) (by simp;omega) next)
   simp only [ax.l1]
   rw [if_pos (by omega),if_neg (by simp),if_pos (by omega),Ff h0 h1]
   simp only [Option.bind_some]
   rw [Ip,fO,hw.out,hw2.out,if_pos (by rw [aY,aY];simp;omega)]
   rfl
theorem XF:∀ (m:Nat) (A:Int) (s:List UInt8),0≤A→A<pw 10 (6 * m)→(enc D A).length≤1073741824→s.length+6 * m≤1000000000000→(0<A∨s ≠ []) →
  Ev (fun k=>ax.l0 k (enc D A) (mkB s)) (mkB ((if A=0 then [] else dec A) ++ s)):=by
 have fin:∀ s:List UInt8,s ≠ []→Ev (fun k=>ax.l0 k [] (mkB s)) (mkB s):=by
  intro s hs
  refine Ev.step (f:=fun _=>some (mkB s)) (fun k=>?_) (Ev.now _)
  simp only [ax.l0]
  rw [if_neg (by simp),if_neg (by rw [Lib.toList_data];exact hs)]
 intro m
 induction m with
 | zero =>
  intro A s h0 h1 hL hs hne
  rw [Nat.mul_zero,lW] at h1
  obtain rfl:A=0:=by omega
  rw [if_pos rfl,List.nil_append,eu]
  exact fin s (by rcases hne with h|h;(exact absurd h (by decide));exact h)
 | succ m ih =>
  intro A s h0 h1 hL hs hne
  by_cases hA:0<A
  ·have hDe:enc D 1000000 = [1000000]:=by rw [nH D1 (by decide),Int.emod_eq_of_lt (by decide) (by rw [xP];decide),Int.ediv_eq_zero_of_lt (by decide) (by rw [xP];decide),eu]
   have hdm:=Qd (A:=A) (C:=1000000) h0 (by decide) hL (by rw [hDe];decide)
   rw [hDe] at hdm
   have hl:=uz D1 hA
   have hq0:0≤A / 1000000:=by omega
   have hr0:0≤A % 1000000:=by omega
   have hr1:A % 1000000<1000000:=by omega
   have hA2:=Int.mul_ediv_add_emod A 1000000
   have hqA:A / 1000000≤A:=Int.ediv_le_self _ h0
   have hqL:(enc D (A / 1000000)).length≤(enc D A).length:=by
    refine mV D1 (Int.lt_of_le_of_lt hqA ?_)
    have:=qo qc (iG D1 A)
    rw [gJ D1 h0] at this
    exact this
   rw [if_neg (by omega)]
   generalize hq:A / 1000000=q at *
   generalize hr:A % 1000000=r at *
   have hrp:r.toNat<10 ^ 6:=by omega
   have hj:Ev (fun k=>ax.j1 k (mkB s) (enc D q) r) (mkB (dec A ++ s)):=by
    by_cases hqp:0<q
    ·have hp6:pw 10 6=1000000:=by rw [rU];decide
     have hqlt:q<pw 10 (6 * m):=by
      rw [show 6 * (m+1)=6 * m+6 by omega,o9,hp6] at h1
      omega
     have hd:dec A=dec q ++ BD 6 r.toNat:=by
      have h2:=Ja 6 hqp hr0 (by rw [hp6];exact hr1)
      rw [hp6,show q * 1000000+r=A by omega] at h2
      exact h2
     have hpl:(BD 6 r.toNat).length=6:=by
      rw [SS 6 r.toNat (by decide) hrp,List.length_append,List.length_replicate]
      have:=yG 6 r.toNat (by decide) hrp
      omega
     have key:=ih q (BD 6 r.toNat ++ s) hq0 hqlt (by omega) (by rw [List.length_append,hpl];omega) (.inl hqp)
     rw [if_neg (by omega), ← List.append_assoc, ← hd] at key
     have:=RU hqp _ 6 r s (by decide) hr0 hr1 (by omega) key
     exact Ev.step (f:=fun k=>ax.l1 k (mkB s) (enc D q) r ((6 - 6:Nat):Int)) (fun k=>by simp only [ax.j1];rfl) this
    ·obtain rfl:q=0:=by omega
     have hAr:A=r:=by omega
     subst hAr
     have key:=fin (dec A ++ s) (by
      intro h
      have h2:=congrArg List.length h
      rw [List.length_append] at h2
      have h3:1≤(dec A).length:=by unfold dec;rw [Lib.decDigits_length];exact Lib.nDigits_pos _
      rw [List.length_nil] at h2
      omega)
     have:=UB _ 6 A s (by decide) hr0 hrp hr1 (by omega) (by rw [if_neg (by omega)];exact key)
     rw [eu]
     exact Ev.step (f:=fun k=>ax.l1 k (mkB s) [] A ((6 - 6:Nat):Int)) (fun k=>by simp only [ax.j1];rfl) this
   refine Ev.step (f:=fun k=>(aH.f k (enc D A) [1000000]).bind fun b=>if (b.2.length:Int) > 0 then (if 0<(b.2.length:Int) then ax.j1 k (mkB s) b.1 (rd b.2 0) else none) else ax.j1 k (mkB s) b.1 0) (fun k=>?_) (Ev.bind hdm ?_)
   ·simp only [ax.l0]
    rw [if_pos (by omega)]
   ·refine Ev.congr (fun k=>?_) hj
    by_cases hrz:0<r
    ·have he:enc D r = [r]:=by rw [nH D1 hrz,Int.emod_eq_of_lt hr0 (by rw [xP];omega),Int.ediv_eq_zero_of_lt hr0 (by rw [xP];omega),eu]
     rw [he,if_pos (by simp),if_pos (by simp)]
     rfl
    ·rw [show r=0 by omega,eu,if_neg (by simp)]
  ·obtain rfl:A=0:=by omega
   rw [if_pos rfl,List.nil_append,eu]
   exact fin s (by rcases hne with h|h;(exact absurd h (by decide));exact h)
theorem XI {A:Int} (h0:0≤A) {n:Nat} (h:A<pw B n) (hn:n≤1048576) (hL:(enc D A).length≤1073741824):Ev (fun k=>ax.f k (enc D A)) (mkB (dec A)):=by
 by_cases hA:0<A
 ·have hb:=Int.lt_of_lt_of_le h (Uu n)
  have hb2:=Int.lt_of_lt_of_le hb (PN (b:=10) (by decide) (show 38 * n≤6 * (7 * n) by omega))
  have:=XF (7 * n) A [] h0 hb2 hL (by simp;omega) (.inl hA)
  rw [if_neg (by omega),List.append_nil] at this
  exact this
 ·obtain rfl:A=0:=by omega
  have e:mkB (dec 0)=(⟨#[48]⟩:ByteArray):=by
   show mkB (Lib.decDigits 0)=_
   rw [Lib.decDigits_one (by decide)];rfl
  rw [e,eu]
  refine Ev.congr (f:=fun k=>ax.l0 k [] ⟨#[]⟩) (fun k=>by unfold ax.f;rfl) (Ev.step (f:=fun _=>some ⟨#[48]⟩) (fun k=>?_) (Ev.now _))
  simp only [ax.l0]
  rw [if_neg (by simp),if_pos (by rw [Lib.toList_data])]
end Go.Proofs.Yy.PTx
end
section
namespace Go.Proofs.Yy.PTx
open Go.RowKit Go.Proofs.Yw.PrintWords Go.Proofs.Yw.PrintLast Go.Proofs.Yw.PrintMore Go.Proofs.Yy.M Go.Proofs.Yy.TA Go.Proofs.Yy.NM
open Go.Proofs.Yy.SC (D)
attribute [local irreducible] gp jK lI oL val
theorem akZ (n:Nat):pw 10 n=((10 ^ n:Nat):Int):=by rw [rU,Int.natCast_pow];rfl
theorem aeC (k:Nat):10 ^ k<2 ^ (4 * k+1):=by
 have h:10 ^ k≤16 ^ k:=Nat.pow_le_pow_left (by omega) k
 rw [show (16:Nat)=2 ^ 4 by rfl, ← Nat.pow_mul] at h
 have:2 ^ (4 * k)<2 ^ (4 * k+1):=Nat.pow_lt_pow_right (by omega) (by omega)
 omega
theorem IV {a m n:Nat} (h1:a<2 ^ m) (h2:m≤n):a<2 ^ n:=Nat.lt_of_lt_of_le h1 (Nat.pow_le_pow_right Nat.two_pos h2)
theorem abE {a c m n k:Nat} (h1:a<2 ^ m) (h2:c<2 ^ n) (h3:m+n=k):a * c<2 ^ k:=by
 rw [← h3,Nat.pow_add]
 exact Nat.mul_lt_mul_of_lt_of_lt h1 h2
theorem IR {v:Nat}:Dig B (enc B (v:Int)):=iG B1 _
theorem Ju {v:Nat}:val B (enc B (v:Int))=(v:Int):=gJ B1 (Int.natCast_nonneg v)
theorem Fj {v m:Nat} (h:v<2 ^ (64 * m)):(enc B (v:Int)).length≤m:=mV B1 (by rw [pwB,aeQ];exact_mod_cast h)
end Go.Proofs.Yy.PTx
end
section
namespace Go.Proofs.Yy.PTx
open Go.RowKit Go.Proofs.Yw.PrintWords Go.Proofs.Yw.PrintLast Go.Proofs.Yw.PrintMore Go.Proofs.Yy.M Go.Proofs.Yy.TA Go.Proofs.Yy.NM Go.Proofs.Yy.SC
theorem aeP {a:Int} (h:¬ ∃ n:Nat,Wd n∧a=n):nR.f a=some false:=by
 have h8:a≠8:=fun e=>h ⟨8, .inl rfl,e⟩
 have h16:a≠16:=fun e=>h ⟨16, .inr (.inl rfl),e⟩
 have h32:a≠32:=fun e=>h ⟨32, .inr (.inr (.inl rfl)),e⟩
 have h64:a≠64:=fun e=>h ⟨64, .inr (.inr (.inr rfl)),e⟩
 unfold nR.f
 simp [h8,h16,h32,h64]
theorem PD {a:Int} (h:¬ ∃ n:Nat,Wd n∧a=n) (p:Int) (k:Nat):∃ x y z v,bM.f k a p=some (x,y,z,v,some 2):=by
 unfold bM.f jP.f eX.f
 rw [aeP h]
 exact ⟨_,_,_,_,rfl⟩
theorem Oa:Ev (fun k=>dJ.f k) true:=⟨40,fun k hk=>by obtain ⟨m,rfl⟩:∃ m,k=m+40:=⟨k - 40,by omega⟩;exact dJ.at_ m⟩
theorem aeR (d:D):lN.f d.nar d.neg (mkB d.ds) d.e=if formed d=true then some (mkB (qp (nrm d)),none) else some ((⟨#[]⟩:ByteArray),some 23):=rfl
end Go.Proofs.Yy.PTx
end
section
namespace Go.Proofs.Yy.PTx
open Go.RowKit Go.Proofs.Yw.PrintWords Go.Proofs.Yw.PrintLast Go.Proofs.Yw.PrintMore Go.Proofs.Yy.M Go.Proofs.Yy.TA Go.Proofs.Yy.SC
theorem abB {d:D} (h:d.nar=false):(nrm d).nar=false:=by
 unfold nrm
 rw [h]
 simp only [Bool.false_eq_true,if_false]
 split <;> rfl
end Go.Proofs.Yy.PTx
end
section
namespace Go.Proofs.Yy.PTx
open Go.RowKit Go.Proofs.Yw.PrintWords Go.Proofs.Yw.PrintLast Go.Proofs.Yw.PrintMore Go.Proofs.Yy.TA
open Go.Proofs.Yy.SC (D dg nrm formed ajL lz rz tz kQ hd)
theorem Tf {l:List UInt8} (h:0<wX l):lz l ≠ []:=fun e=>by
 have h1:=J8 l
 rw [e] at h1
 have:wX ([]:List UInt8)=0:=rfl
 omega
structure Real (v:D):Prop where
 norm:ajL v
 nar:v.nar=false
 ds:v.ds ≠ [48]
theorem XZ {d:D} (hf:formed d=true) (hn:d.nar=false) (h:0<wX d.ds):Real (nrm d)∧(nrm d).neg=d.neg:=by
 have h0:=Tf h
 have hN:=SC.GN hf
 have hnn:(nrm d).nar=false:=abB hn
 have hv:=abd hn h0
 refine ⟨⟨hN,hnn,fun e=>?_⟩,?_⟩
 ·have h1:RP (nrm d)=0:=by
   unfold RP;rw [e]
   have:wX [48]=0:=rfl
   rw [this,Nat.zero_mul]
  rw [h1,Nat.zero_mul] at hv
  have h2:0<RP d:=by unfold RP;exact Nat.mul_pos h (Nat.pow_pos (by decide))
  have h3:=Nat.mul_pos h2 (Xk (nrm d))
  omega
 ·unfold nrm
  rw [if_neg (by rw [hn];decide),if_neg h0]
theorem aaQ (d:D):(nrm d).ds.length≤max d.ds.length 1:=by
 unfold nrm
 split
 ·omega
 ·split
  ·simp only [List.length_cons,List.length_nil];omega
  ·simp only [List.length_take]
   have:=SC.Uz d.ds
   omega
end Go.Proofs.Yy.PTx
end
section
namespace Go.Proofs.Yy.PTx
open Go.RowKit Go.Proofs.Yw.PrintWords Go.Proofs.Yw.PrintLast Go.Proofs.Yw.PrintMore Go.Proofs.Yy.M Go.Proofs.Yy.TA Go.Proofs.Yy.NM Go.Proofs.Yy.SC
attribute [local irreducible] gp jK lI oL val
theorem akC {d:D} (hn:d.nar=false) (h0:lz d.ds ≠ []):d.e≤(nrm d).e∧(nrm d).e≤d.e+d.ds.length:=by
 unfold nrm
 rw [if_neg (by rw [hn];decide),if_neg h0]
 have h1:=Uz d.ds
 have h2:tz (lz d.ds)≤(lz d.ds).length:=Nat.sub_le _ _
 simp only
 omega
theorem afh {n p:Nat} (hn:1≤n) (h1:p % 2 ^ n≠2 ^ (n - 1)):(if 2 ^ (n - 1)≤p % 2 ^ n then 2 ^ n - p % 2 ^ n else p % 2 ^ n)≤2 ^ (n - 1) - 1:=by
 have hlt:p % 2 ^ n<2 ^ n:=Nat.mod_lt _ (Nat.two_pow_pos _)
 have hpw:2 ^ n=2 * 2 ^ (n - 1):=by rw [show n=(n - 1)+1 by omega,Nat.pow_succ];simp;omega
 split <;> omega
theorem aeZ {M:Nat} (h1:2 ^ 63≤M) (h2:M<2 ^ 64):∃ c:Nat,Lib.ctz 64 M=c∧c<64∧M=M / 2 ^ c * 2 ^ c∧M / 2 ^ c % 2=1∧bits_TrailingZeros64.f (M:Int)=some (c:Int):=by
 have h0:0<M:=Nat.lt_of_lt_of_le (Nat.two_pow_pos _) h1
 obtain ⟨q,e,hc⟩:=Lib.ctzFrom_spec 64 M h0 h2
 have hz:Lib.ctz 64 M=Lib.ctzFrom 64 M:=by unfold Lib.ctz;rw [if_neg (by omega)]
 obtain ⟨c,hcc⟩:∃ c,Lib.ctzFrom 64 M=c:=⟨_,rfl⟩
 rw [hcc] at e hc hz
 have hd:M / 2 ^ c=2 * q+1:=by rw [e];exact Nat.mul_div_cancel_left _ (Nat.two_pow_pos c)
 refine ⟨c,hz,hc,?_,by rw [hd];omega,?_⟩
 ·rw [hd,Nat.mul_comm];exact e
 ·unfold bits_TrailingZeros64.f
  rw [if_pos ⟨Int.natCast_nonneg _,by rw [p64] at h2;omega⟩,Int.toNat_natCast,hz]
theorem NY {u:Nat} {e:Int} {neg:Bool} {K:Nat} (hu:0<u) (hK:u<10 ^ (K+1)) (hK2:K+1≤600) (he1 : -400≤e) (he2:e≤400) :
  ∃ v,v=nrm ⟨false,neg,Lib.decDigits u,e⟩∧Real v∧v.neg=neg ∧ -1000≤v.e∧v.e≤1000∧v.ds.length≤600∧kF.f false neg (mkB (Lib.decDigits u)) e=some (v.nar,v.neg,mkB v.ds,v.e,none):=by
 have hm:kQ=1000000:=rfl
 obtain ⟨f1,f2,f3⟩:=Xc (neg:=neg) (e:=e) hu hK (by omega) (by omega) (by omega)
 have h4:0<wX (⟨false,neg,Lib.decDigits u,e⟩:D).ds:=by show 0<wX (Lib.decDigits u);rw [GR];exact hu
 obtain ⟨r1,r2⟩:=XZ f1 rfl h4
 obtain ⟨e1,e2⟩:=akC (d:=⟨false,neg,Lib.decDigits u,e⟩) rfl f2
 have hl:=oI K u hK
 have hl2:=aaQ ⟨false,neg,Lib.decDigits u,e⟩
 simp only at e1 e2 hl2
 have hs:=vF ⟨false,neg,Lib.decDigits u,e⟩
 rw [if_pos f1] at hs
 exact ⟨_,rfl,r1,r2,by omega,by omega,by omega,hs⟩
def exD (neg:Bool) (s:Int) (M:Nat):D :=
 if 0≤s - 63+(Lib.ctz 64 M:Int) then nrm ⟨false,neg,Lib.decDigits (M / 2 ^ Lib.ctz 64 M * 2 ^ (s - 63+(Lib.ctz 64 M:Int)).toNat),0⟩
 else nrm ⟨false,neg,Lib.decDigits (M / 2 ^ Lib.ctz 64 M * 5 ^ (-(s - 63+(Lib.ctz 64 M:Int))).toNat),s - 63+(Lib.ctz 64 M:Int)⟩
theorem O6 {n:Nat} (hw:Wd n) (p:Nat) (hp:p<2 ^ 64) (h0:p % 2 ^ n≠0) (h1:p % 2 ^ n≠2 ^ (n - 1)) :
  ∃ v:D,(∃ s M,xY n (if 2 ^ (n - 1)≤p % 2 ^ n then 2 ^ n - p % 2 ^ n else p % 2 ^ n) s M∧v=exD (decide (2 ^ (n - 1)≤p % 2 ^ n)) s M)∧Real v∧v.neg=decide (2 ^ (n - 1)≤p % 2 ^ n)∧(-1000≤v.e∧v.e≤1000)∧v.ds.length≤600∧Ev (fun k=>aN.f k (n:Int) (p:Int)) (v.nar,v.neg,mkB v.ds,v.e,none):=by
 obtain ⟨h8,h64⟩:=hw.bounds
 obtain ⟨s,M,hM,hdec⟩:=Ku hw p hp h0 h1
 have hle:=afh (n:=n) (p:=p) (by omega) h1
 obtain ⟨m',hm'⟩:∃ m',(if 2 ^ (n - 1)≤p % 2 ^ n then 2 ^ n - p % 2 ^ n else p % 2 ^ n)=m':=⟨_,rfl⟩
 obtain ⟨neg,hneg⟩:∃ neg,decide (2 ^ (n - 1)≤p % 2 ^ n)=neg:=⟨_,rfl⟩
 rw [hm'] at hM hle
 rw [hneg] at hdec
 rw [hm',hneg]
 obtain ⟨hs1,hs2⟩:=I9 h64 hM
 obtain ⟨c,hcz,hc,hMc,_,htz⟩:=aeZ hM.lo hM.hi
 obtain ⟨m,hm⟩:∃ m,M / 2 ^ c=m:=⟨_,rfl⟩
 have hshr:shr .u64 (M:Int) (c:Int)=(m:Int):=by rw [Lr M c hM.hi,hm]
 rw [hm] at hMc
 have hmM:m≤M:=by rw [← hm];exact Nat.div_le_self _ _
 have hmlt:m<2 ^ 64:=Nat.lt_of_le_of_lt hmM hM.hi
 have hm0:0<m:=Nat.pos_of_ne_zero fun e=>by
  have:=hM.lo
  rw [hMc,e,Nat.zero_mul] at this
  omega
 have hmB:(m:Int)<B:=by
  have h:=hmlt
  rw [p64] at h
  rw [y9];omega
 have hof:=afd (v:=(m:Int)) (Int.natCast_nonneg _) hmB
 obtain ⟨A_,hA_⟩:∃ x:Nat,x=5:=⟨_,rfl⟩
 obtain ⟨X_,hX_⟩:∃ x:Nat,x=30:=⟨_,rfl⟩
 obtain ⟨Y_,hY_⟩:∃ x:Nat,x=64:=⟨_,rfl⟩
 have hmY:m<2 ^ Y_:=by rw [hY_];exact hmlt
 have hmA:m<2 ^ (64 * A_):=IV hmY (by omega)
 have he:wrap64 (wrap64 (s - 63)+(c:Int))=s - 63+c:=by rw [y8 (x:=s - 63) (by omega) (by omega),y8 (by omega) (by omega)]
 by_cases hge:0≤s - 63+c
 ·obtain ⟨j,hj⟩:=Int.eq_ofNat_of_zero_le hge
  have hjle:j≤248:=by omega
  have hshl:=aa0 (a:=enc B (m:Int)) IR (Nat.le_trans (Fj hmA) (by omega)) j (by omega)
  rw [Ju,aeQ, ← Int.natCast_mul] at hshl
  obtain ⟨u,hu⟩:∃ u,m * 2 ^ j=u:=⟨_,rfl⟩
  rw [hu] at hshl
  have hu0:0<u:=by rw [← hu];exact Nat.mul_pos hm0 (Nat.two_pow_pos _)
  obtain ⟨Z_,hZ_⟩:∃ x:Nat,x=Y_+j:=⟨_,rfl⟩
  have huZ:u<2 ^ Z_:=by rw [← hu,hZ_,Nat.pow_add];exact Nat.mul_lt_mul_of_pos_right hmY (Nat.two_pow_pos _)
  have huX:u<2 ^ (64 * X_):=IV huZ (by omega)
  have htext:=Oy (a:=enc B (u:Int)) IR (Nat.le_trans (Fj huX) (by omega))
  rw [Ju] at htext
  have hdd:dec (u:Int)=Lib.decDigits u:=by unfold dec;rw [Int.toNat_natCast]
  rw [hdd] at htext
  have hK:u<10 ^ (Z_ / 3+1):=Nat.lt_trans huZ (tK _)
  obtain ⟨v,hv,r1,r2,r3,r4,r5,r6⟩:=NY (e:=0) (neg:=neg) hu0 hK (by omega) (by omega) (by omega)
  refine ⟨v,⟨s,M,hM,by unfold exD;rw [hcz,if_pos hge,hm,hv, ← hu,show j=(s - 63+(c:Int)).toNat by omega]⟩,r1,r2,⟨r3,r4⟩,r5,?_⟩
  ·unfold aN.f
   refine Ev.bind hdec ?_
   simp only [Option.isNone_none,if_true,show ¬ ((1:Int)=2) by decide,show ¬ ((1:Int)=0) by decide,if_false,htz,Option.bind_some,hshr,he,Int.natCast_nonneg]
   refine Ev.bind hof ?_
   rw [hj]
   simp only [ge_iff_le,Int.natCast_nonneg,if_true]
   refine Ev.bind hshl ?_
   simp only [Option.isNone_none,if_true]
   refine Ev.bind htext ?_
   rw [r6]
   exact Ev.now _
 ·obtain ⟨j,hj⟩:=Int.eq_ofNat_of_zero_le (show 0 ≤ -(s - 63+(c:Int)) by omega)
  have hjle:j≤311:=by omega
  have hej:wrap64 (-(s - 63+(c:Int)))=(j:Int):=by rw [y8 (by omega) (by omega),hj]
  have hten:=abw j (by omega)
  rw [akZ] at hten
  have htlt:10 ^ j<2 ^ (64 * X_):=IV (aeC j) (by omega)
  have hmul:Ev (fun n=>lL.f n [enc B (m:Int),enc B ((10 ^ j:Nat):Int)]) (enc B ((m * 10 ^ j:Nat):Int)):=by
   have h:=ae9 (l := [enc B (m:Int),enc B ((10 ^ j:Nat):Int)]) (by intro x hx;simp only [List.mem_cons,List.mem_nil_iff,or_false] at hx;rcases hx with rfl|rfl <;> exact IR) (by
    have a1:=Fj hmA
    have a2:=Fj htlt
    simp only [List.map_cons,List.map_nil,List.sum_cons,List.sum_nil,List.length_cons,List.length_nil]
    omega)
   unfold afj at h
   simp only [List.foldl_cons,List.foldl_nil,Ju,Int.one_mul] at h
   rw [← Int.natCast_mul] at h
   exact h
  have hV:m * 10 ^ j<2 ^ (64 * (A_+X_)):=abE hmA htlt (by omega)
  have ajI:=aa4 (a:=enc B ((m * 10 ^ j:Nat):Int)) IR (Nat.le_trans (Fj hV) (by omega)) j (by omega)
  obtain ⟨u,hu⟩:∃ u,m * 5 ^ j=u:=⟨_,rfl⟩
  have hdiv:((m * 10 ^ j:Nat):Int) / pw 2 j=(u:Int):=by
   rw [aeQ, ← Int.natCast_ediv,show (10:Nat) ^ j=5 ^ j * 2 ^ j by rw [← Nat.mul_pow], ← Nat.mul_assoc,hu,Nat.mul_div_cancel _ (Nat.two_pow_pos _)]
  rw [Ju,hdiv] at ajI
  have hu0:0<u:=by rw [← hu];exact Nat.mul_pos hm0 (Nat.pow_pos (by decide))
  have aFk:u≤m * 10 ^ j:=by rw [← hu];exact Nat.mul_le_mul_left _ (Nat.pow_le_pow_left (by decide) j)
  have huX:u<2 ^ (64 * (A_+X_)):=Nat.lt_of_le_of_lt aFk hV
  have htext:=Oy (a:=enc B (u:Int)) IR (Nat.le_trans (Fj huX) (by omega))
  rw [Ju] at htext
  have hdd:dec (u:Int)=Lib.decDigits u:=by unfold dec;rw [Int.toNat_natCast]
  rw [hdd] at htext
  have hK:u<10 ^ (Y_ / 3+j+1):=by
   have h3:=Nat.lt_trans hmY (tK Y_)
   have h4:m * 10 ^ j<10 ^ (Y_ / 3+1) * 10 ^ j:=Nat.mul_lt_mul_of_pos_right h3 (Nat.pow_pos (by decide))
   rw [← Nat.pow_add] at h4
   rw [show Y_ / 3+j+1=Y_ / 3+1+j by omega]
   omega
  obtain ⟨v,hv,r1,r2,r3,r4,r5,r6⟩:=NY (e:=s - 63+c) (neg:=neg) hu0 hK (by omega) (by omega) (by omega)
  refine ⟨v,⟨s,M,hM,by unfold exD;rw [hcz,if_neg hge,hm,hv, ← hu,show j=(-(s - 63+(c:Int))).toNat by omega]⟩,r1,r2,⟨r3,r4⟩,r5,?_⟩
  ·unfold aN.f
   refine Ev.bind hdec ?_
   simp only [Option.isNone_none,if_true,show ¬ ((1:Int)=2) by decide,show ¬ ((1:Int)=0) by decide,if_false,htz,Option.bind_some,hshr,he,Int.natCast_nonneg]
   refine Ev.bind hof ?_
   simp only [ge_iff_le,show ¬ (0≤s - 63+(c:Int)) from hge,if_false,hej]
   refine Ev.bind hten ?_
   simp only [Option.isNone_none,if_true]
   refine Ev.bind hmul ?_
   refine Ev.bind ajI ?_
   simp only [Option.isNone_none,if_true]
   refine Ev.bind htext ?_
   rw [r6]
   exact Ev.now _
theorem Jo {n:Nat} (hw:Wd n) (p:Nat) (hp:p<2 ^ 64) (h0:p % 2 ^ n=0) (k:Nat):aN.f k (n:Int) (p:Int)=some (false,false,mkB [48],0,none):=by
 unfold aN.f bM.f
 rw [BO hw p hp,if_pos h0]
 rfl
theorem LD {n:Nat} (hw:Wd n) (p:Nat) (hp:p<2 ^ 64) (h0:p % 2 ^ n≠0) (h1:p % 2 ^ n=2 ^ (n - 1)) (k:Nat):aN.f k (n:Int) (p:Int)=some (true,false,mkB [],0,none):=by
 unfold aN.f bM.f
 rw [BO hw p hp,if_neg h0,if_pos h1]
 rfl
end Go.Proofs.Yy.PTx
end
