/- Part 35 of what the proof needs. -/
import Derived.Test.YtpfnkbnepcchgaaGreatDoorKTEBH
set_option linter.unusedSimpArgs false
set_option linter.unusedVariables false
section
namespace Go.Proofs.Yy.PTx
open Go.RowKit Go.Proofs.Yw.PrintWords Go.Proofs.Yw.PrintLast Go.Proofs.Yw.PrintMore Go.Proofs.Yy.M Go.Proofs.Yy.TA Go.Proofs.Yy.NM
open Go.Proofs.Yy.SC hiding D
attribute [local irreducible] gp jK lI oL val
theorem pwD (m:Nat):pw D m=((2 ^ (24 * m):Nat):Int):=by
 rw [rU,xP,Nat.pow_mul,Int.natCast_pow];rfl
theorem D1':1<D:=by rw [xP];decide
theorem Js {v:Nat} (h0:0<v) (h:v<16777216):enc D (v:Int) = [(v:Int)]:=by
 have h1:(v:Int) % D=(v:Int):=by rw [xP];omega
 have h2:(v:Int) / D=0:=by rw [xP];omega
 rw [nH D1' (by omega),h1,h2,eu]
theorem NK {v:Nat}:Dig D (enc D (v:Int)):=iG D1' _
theorem Oo {v:Nat}:val D (enc D (v:Int))=(v:Int):=gJ D1' (Int.natCast_nonneg v)
theorem ae2 {v m:Nat} (h:v<2 ^ (24 * m)):(v:Int)<pw D m:=by rw [pwD];exact_mod_cast h
theorem AL {v m:Nat} (h:v<2 ^ (24 * m)):(enc D (v:Int)).length≤m:=mV D1' (ae2 h)
theorem akD {v m:Nat} (h:v<2 ^ (64 * m)):(v:Int)<pw B m:=by rw [pwB,aeQ];exact_mod_cast h
theorem abf (u:Nat):dec (u:Int)=Lib.decDigits u:=by unfold dec;rw [Int.toNat_natCast]
theorem Zl {u A:Nat} (h:u<2 ^ (64 * A)) (hA:A≤60):Ev (fun k=>ax.f k (enc D (u:Int))) (mkB (Lib.decDigits u)):=by
 have h2:u<2 ^ (24 * (3 * A)):=Nat.lt_of_lt_of_le h (Nat.pow_le_pow_right (by decide) (by omega))
 have:=XI (A:=(u:Int)) (Int.natCast_nonneg _) (akD h) (by omega) (Nat.le_trans (AL h2) (by omega))
 rwa [abf] at this
theorem NQ {u:Nat} {e:Int} (neg:Bool) {K:Nat} (hK:u<10 ^ (K+1)) (hK2:K≤4000) (he1 : -1000≤e) (he2:e≤1000) :
  Ev (fun k=>ah.f k false neg (mkB (Lib.decDigits u)) e) (zX (nrm ⟨false,neg,Lib.decDigits u,e⟩)):=by
 have hl:=oI K u hK
 exact IJ ⟨false,neg,Lib.decDigits u,e⟩ (by simp only;omega) (by simp only;omega) (by simp only;omega)
theorem aas (j:Nat) (hj:j≤400):∀ d i:Nat,i+d=j→Ev (fun k=>cu.l0 k (j:Int) (enc D ((5 ^ i:Nat):Int)) (i:Int)) (enc D ((5 ^ j:Nat):Int)):=by
 obtain ⟨S_,hS_⟩:∃ x:Nat,x=60:=⟨_,rfl⟩
 intro d
 induction d with
 | zero =>
  intro i hi
  obtain rfl:i=j:=by omega
  refine Ev.step (f:=fun _=>some (enc D ((5 ^ i:Nat):Int))) (fun k=>?_) (Ev.now _)
  simp only [cu.l0]
  rw [if_neg (by omega)]
 | succ d ih =>
  intro i hi
  have h5:([5]:List Int)=enc D ((5:Nat):Int):=(Js (by decide) (by decide)).symm
  have hlt:5 ^ i<2 ^ (24 * S_):=by
   have h1:5 ^ i≤8 ^ i:=Nat.pow_le_pow_left (by decide) i
   rw [show (8:Nat)=2 ^ 3 by rfl, ← Nat.pow_mul] at h1
   exact Nat.lt_of_le_of_lt h1 (Nat.pow_lt_pow_right (by decide) (by omega))
  have hm:=Ub (a:=enc D ((5 ^ i:Nat):Int)) (b:=enc D ((5:Nat):Int)) NK NK (by
   have:=AL hlt
   have:=AL (v:=5) (m:=1) (by decide)
   omega)
  rw [Oo,Oo, ← Int.natCast_mul, ← Nat.pow_succ] at hm
  refine Ev.step (f:=fun k=>(az.f k (enc D ((5 ^ i:Nat):Int)) (([5]:List Int))).bind fun ajw=>cu.l0 k (j:Int) ajw ((i+1:Nat):Int)) (fun k=>?_) ?_
  ·simp only [cu.l0]
   rw [if_pos (by omega),y8 (by omega) (by omega)]
   rfl
  ·rw [h5]
   exact Ev.bind hm (ih (i+1) (by omega))
theorem aaF (j:Nat) (hj:j≤400):Ev (fun k=>cu.f k (j:Int)) (enc D ((5 ^ j:Nat):Int)):=by
 have h:=aas j hj j 0 (by omega)
 refine Ev.congr (fun k=>?_) h
 unfold cu.f
 have:([1]:List Int)=enc D ((5 ^ 0:Nat):Int):=(Js (by decide) (by decide)).symm
 rw [this]
 rfl
theorem XD {A j:Nat} (hA:A<2 ^ 64) (hj:j≤300) (neg:Bool) (kd sc fr:Int) :
  Ev (fun k=>aA.j1 k (enc D (A:Int)) (j:Int) kd neg sc fr) (zX (nrm ⟨false,neg,Lib.decDigits (A * 2 ^ j),0⟩)):=by
 obtain ⟨X_,hX_⟩:∃ x:Nat,x=10:=⟨_,rfl⟩
 obtain ⟨Y_,hY_⟩:∃ x:Nat,x=64:=⟨_,rfl⟩
 have hY:A<2 ^ Y_:=by rw [hY_];exact hA
 have h72:A<2 ^ (24 * 3):=Nat.lt_of_lt_of_le hY (Nat.pow_le_pow_right (by decide) (by omega))
 have hs:=abb (A:=(A:Int)) (Int.natCast_nonneg _) j (by omega) (ae2 h72) (by omega)
 rw [aeQ, ← Int.natCast_mul] at hs
 obtain ⟨Z_,hZ_⟩:∃ x:Nat,x=Y_+j:=⟨_,rfl⟩
 have hu:A * 2 ^ j<2 ^ Z_:=by rw [hZ_,Nat.pow_add];exact Nat.mul_lt_mul_of_pos_right hY (Nat.two_pow_pos _)
 have ht:=Zl (u:=A * 2 ^ j) (A:=X_) (IV hu (by omega)) (by omega)
 have hn:=NQ (u:=A * 2 ^ j) (e:=0) neg (K:=Z_ / 3) (Nat.lt_trans hu (tK _)) (by omega) (by omega) (by omega)
 refine Ev.step (f:=fun k=>(iE.f k (enc D (A:Int)) (j:Int)).bind fun QU=>((ax.f k QU).bind fun QV=>((ah.f k false neg QV 0).bind fun yV=>(some (yV.1,yV.2.1,yV.2.2.1,yV.2.2.2))))) (fun k=>?_) ?_
 ·simp only [aA.j1]
  rw [if_pos (by omega)]
 ·exact Ev.bind hs (Ev.bind ht (Ev.bind hn (Ev.now _)))
theorem X5 {A j:Nat} (hA:A<2 ^ 64) (hj0:0<j) (hj:j≤320) (neg:Bool) (kd sc fr:Int) :
  Ev (fun k=>aA.j1 k (enc D (A:Int)) (-(j:Int)) kd neg sc fr) (zX (nrm ⟨false,neg,Lib.decDigits (A * 5 ^ j), -(j:Int)⟩)):=by
 obtain ⟨X_,hX_⟩:∃ x:Nat,x=20:=⟨_,rfl⟩
 obtain ⟨Y_,hY_⟩:∃ x:Nat,x=64:=⟨_,rfl⟩
 have hY:A<2 ^ Y_:=by rw [hY_];exact hA
 have h72:A<2 ^ (24 * 3):=Nat.lt_of_lt_of_le hY (Nat.pow_le_pow_right (by decide) (by omega))
 have h5:5 ^ j≤2 ^ (3 * j):=by
  have h1:5 ^ j≤8 ^ j:=Nat.pow_le_pow_left (by decide) j
  rwa [show (8:Nat)=2 ^ 3 by rfl, ← Nat.pow_mul] at h1
 obtain ⟨S_,hS_⟩:∃ x:Nat,x=60:=⟨_,rfl⟩
 have aFl:5 ^ j<2 ^ (24 * S_):=Nat.lt_of_le_of_lt h5 (Nat.pow_lt_pow_right (by decide) (by omega))
 have hm:=Ub (a:=enc D (A:Int)) (b:=enc D ((5 ^ j:Nat):Int)) NK NK (by
  have:=AL aFl
  have:=AL h72
  omega)
 rw [Oo,Oo, ← Int.natCast_mul] at hm
 have hu:A * 5 ^ j<2 ^ (64 * X_):=by
  have h2:A * 5 ^ j<2 ^ Y_ * 2 ^ (3 * j):=Nat.lt_of_le_of_lt (Nat.mul_le_mul_left _ h5) (Nat.mul_lt_mul_of_pos_right hY (Nat.two_pow_pos _))
  rw [← Nat.pow_add] at h2
  exact IV h2 (by omega)
 obtain ⟨Z_,hZ_⟩:∃ x:Nat,x=64 * X_:=⟨_,rfl⟩
 have ht:=Zl hu (by omega)
 have hn:=NQ (u:=A * 5 ^ j) (e := -(j:Int)) neg (K:=64 * X_ / 3) (Nat.lt_trans hu (tK _)) (by omega) (by omega) (by omega)
 have hf:=aaF j (by omega)
 have hw:wrap64 (-(-(j:Int)))=(j:Int):=by rw [y8 (by omega) (by omega)];omega
 refine Ev.step (f:=fun k=>(cu.f k (j:Int)).bind fun WI=>((az.f k (enc D (A:Int)) WI).bind fun QW=>((ax.f k QW).bind fun MX=>((ah.f k false neg MX (-(j:Int))).bind fun yX=>(some (yX.1,yX.2.1,yX.2.2.1,yX.2.2.2)))))) (fun k=>?_) ?_
 ·simp only [aA.j1]
  rw [if_neg (by omega),hw]
 ·exact Ev.bind hf (Ev.bind hm (Ev.bind ht (Ev.bind hn (Ev.now _))))
theorem XG {M m c:Nat} (hM:M=m * 2 ^ c) (hm:m % 2=1) (aFm:M<2 ^ 64) (hc:c<64) {s:Int} (hs1 : -248≤s) (hs2:s≤248) (neg:Bool) (kd sc fr:Int) {v:SC.D}
  (hup:0≤s - 63+(c:Int)→v=nrm ⟨false,neg,Lib.decDigits (m * 2 ^ (s - 63+(c:Int)).toNat),0⟩)
  (hdn:s - 63+(c:Int)<0→v=nrm ⟨false,neg,Lib.decDigits (m * 5 ^ (-(s - 63+(c:Int))).toNat),s - 63+(c:Int)⟩):∀ d i:Nat,i+d=c →
  Ev (fun k=>aA.l0 k (enc D ((m * 2 ^ d:Nat):Int)) (s - 63+(i:Int)) kd neg sc fr) (zX v):=by
 have hb:∀ d,d≤c→m * 2 ^ d<2 ^ 64:=fun d hd=>Nat.lt_of_le_of_lt (by rw [hM];exact Nat.mul_le_mul_left _ (Nat.pow_le_pow_right (by decide) hd)) aFm
 have h72:∀ d,d≤c→m * 2 ^ d<2 ^ (24 * 3):=fun d hd=>Nat.lt_of_lt_of_le (hb d hd) (Nat.pow_le_pow_right (by decide) (by omega))
 have ready:∀ d i:Nat,i+d=c→0≤s - 63+(i:Int)→Ev (fun k=>aA.l0 k (enc D ((m * 2 ^ d:Nat):Int)) (s - 63+(i:Int)) kd neg sc fr) (zX v):=by
  intro d i hi hge
  obtain ⟨j,hj⟩:=Int.eq_ofNat_of_zero_le hge
  have h:=XD (A:=m * 2 ^ d) (j:=j) (hb d (by omega)) (by omega) neg kd sc fr
  rw [Nat.mul_assoc, ← Nat.pow_add,show d+j=(s - 63+(c:Int)).toNat by omega, ← hup (by omega)] at h
  refine Ev.step (fun k=>?_) h
  simp only [aA.l0]
  rw [if_neg (by omega),hj]
 intro d
 induction d with
 | zero =>
  intro i hi
  by_cases hge:0≤s - 63+(i:Int)
  ·exact ready 0 i hi hge
  ·obtain rfl:i=c:=by omega
   have hl:=Rj (A:=((m * 2 ^ 0:Nat):Int)) (Int.natCast_nonneg _) (Nat.le_trans (AL (h72 0 (by omega))) (by omega)) 1 (by omega)
   have hodd:decide ((((m * 2 ^ 0:Nat):Int)) % pw 2 1≠0)=true:=decide_eq_true (by rw [Oi,Nat.pow_zero,Nat.mul_one];omega)
   rw [hodd] at hl
   obtain ⟨j,hj⟩:=Int.eq_ofNat_of_zero_le (show 0 ≤ -(s - 63+(i:Int)) by omega)
   have h:=X5 (A:=m * 2 ^ 0) (j:=j) (hb 0 (by omega)) (by omega) (by omega) neg kd sc fr
   rw [show (-(j:Int))=s - 63+(i:Int) by omega] at h
   have hv:=hdn (by omega)
   rw [show (-(s - 63+(i:Int))).toNat=j by omega] at hv
   rw [Nat.pow_zero,Nat.mul_one] at h hl ⊢
   rw [← hv] at h
   refine Ev.step (f:=fun k=>(aJ.f k (enc D (m:Int)) ((1:Nat):Int)).bind fun MZ=>(if MZ=true then (aA.j1 k (enc D (m:Int)) (s - 63+(i:Int)) kd neg sc fr) else ((bn.f k (enc D (m:Int)) 1).bind fun Na=>(aA.l0 k Na (wrap64 (s - 63+(i:Int)+1)) kd neg sc fr)))) (fun k=>?_) ?_
   ·simp only [aA.l0]
    rw [if_pos (by omega)]
    rfl
   ·refine Ev.bind hl ?_
    simp only [if_true]
    exact h
 | succ d ih =>
  intro i hi
  by_cases hge:0≤s - 63+(i:Int)
  ·exact ready (d+1) i hi hge
  ·have hl:=Rj (A:=((m * 2 ^ (d+1):Nat):Int)) (Int.natCast_nonneg _) (Nat.le_trans (AL (h72 (d+1) (by omega))) (by omega)) 1 (by omega)
   have hev:decide ((((m * 2 ^ (d+1):Nat):Int)) % pw 2 1≠0)=false:=decide_eq_false (by rw [Oi,Nat.pow_succ, ← Nat.mul_assoc];omega)
   rw [hev] at hl
   have hr:=aa7 (A:=((m * 2 ^ (d+1):Nat):Int)) (Int.natCast_nonneg _) 1 (by omega) (Nat.le_trans (AL (h72 (d+1) (by omega))) (by omega))
   have hd2:((m * 2 ^ (d+1):Nat):Int) / pw 2 1=((m * 2 ^ d:Nat):Int):=by rw [Oi,Nat.pow_succ, ← Nat.mul_assoc];omega
   rw [hd2] at hr
   refine Ev.step (f:=fun k=>(aJ.f k (enc D ((m * 2 ^ (d+1):Nat):Int)) ((1:Nat):Int)).bind fun MZ=>(if MZ=true then (aA.j1 k (enc D ((m * 2 ^ (d+1):Nat):Int)) (s - 63+(i:Int)) kd neg sc fr) else ((bn.f k (enc D ((m * 2 ^ (d+1):Nat):Int)) ((1:Nat):Int)).bind fun Na=>(aA.l0 k Na (s - 63+((i+1:Nat):Int)) kd neg sc fr)))) (fun k=>?_) ?_
   ·simp only [aA.l0]
    rw [if_pos (by omega),y8 (x:=s - 63+(i:Int)+1) (by omega) (by omega),show s - 63+(i:Int)+1=s - 63+((i+1:Nat):Int) by omega]
    rfl
   ·refine Ev.bind hl ?_
    simp only [Bool.false_eq_true,if_false]
    exact Ev.bind hr (ih (i+1) (by omega))
theorem Xm {n:Nat} (hw:Wd n) (p:Nat) (hp:p<2 ^ 64) (h0:p % 2 ^ n≠0) (h1:p % 2 ^ n≠2 ^ (n - 1)) {s:Int} {M:Nat} (hM:xY n (if 2 ^ (n - 1)≤p % 2 ^ n then 2 ^ n - p % 2 ^ n else p % 2 ^ n) s M) :
  Ev (fun k=>aA.f k (n:Int) (p:Int)) (zX (exD (decide (2 ^ (n - 1)≤p % 2 ^ n)) s M)):=by
 obtain ⟨h8,h64⟩:=hw.bounds
 obtain ⟨s',M',hM',hdec⟩:=Kv hw p hp h0 h1
 obtain ⟨rfl,rfl⟩:=hM'.same hM
 obtain ⟨hs1,hs2⟩:=I9 h64 hM
 obtain ⟨c,hcz,hc,hMc,hodd,_⟩:=aeZ hM.lo hM.hi
 have hB:(M':Int)<B:=by
  have h:=hM.hi
  rw [p64] at h
  rw [y9];omega
 have hof:=aeX (v:=(M':Int)) (Int.natCast_nonneg _) hB
 have hl:=XG hMc hodd hM.hi hc hs1 hs2 (decide (2 ^ (n - 1)≤p % 2 ^ n)) 1 s' (M':Int) (v:=exD (decide (2 ^ (n - 1)≤p % 2 ^ n)) s' M')
  (fun h=>by unfold exD;rw [hcz,if_pos h]) (fun h=>by unfold exD;rw [hcz,if_neg (by omega)]) c 0 (by omega)
 rw [← hMc,show s' - 63+((0:Nat):Int)=s' - 63 by omega] at hl
 unfold aA.f
 refine Ev.bind hdec ?_
 simp only [show ¬ ((1:Int)=2) by decide,show ¬ ((1:Int)=0) by decide,if_false]
 refine Ev.bind hof ?_
 rw [y8 (x:=s' - 63) (by omega) (by omega)]
 exact hl
theorem yl {n:Nat} (hw:Wd n) (p:Nat) (hp:p<2 ^ 64) {kd:Int} (hk:(if p % 2 ^ n=0 then (0:Int) else if p % 2 ^ n=2 ^ (n - 1) then 2 else 1)=kd) (h:kd≠1) :
  Ev (fun k=>fJ.f k (n:Int) (p:Int)) (kd,false,0,0):=by
 have hke:=BU hw p hp
 rw [hk] at hke
 refine Ev.congr (f:=fun k=>(aK.f k (n:Int) (p:Int)).bind fun yU=>some (yU.1,yU.2.1,yU.2.2.1,yU.2.2.2.1)) (fun k=>rfl) ?_
 refine Ev.bind (a:=(kd,false,0,0,0)) ?_ (Ev.now _)
 unfold aK.f
 refine Ev.bind hke ?_
 simp only [if_true]
 refine Ev.step (f:=fun _=>some (kd,false,0,0,0)) (fun k=>?_) (Ev.now _)
 simp only [aK.j0]
 rw [if_pos (by simpa using h)]
theorem PO {n:Nat} (hw:Wd n) (p:Nat) (hp:p<2 ^ 64) (h0:p % 2 ^ n=0):Ev (fun k=>aA.f k (n:Int) (p:Int)) (false,false,mkB [48],0):=by
 have hd:=yl hw p hp (kd:=0) (by rw [if_pos h0]) (by decide)
 unfold aA.f
 refine Ev.bind hd ?_
 simp only [show ¬ ((0:Int)=2) by decide,if_false,if_true]
 exact Ev.now _
theorem Ro {n:Nat} (hw:Wd n) (p:Nat) (hp:p<2 ^ 64) (h0:p % 2 ^ n≠0) (h1:p % 2 ^ n=2 ^ (n - 1)):Ev (fun k=>aA.f k (n:Int) (p:Int)) (true,false,mkB [],0):=by
 have hd:=yl hw p hp (kd:=2) (by rw [if_neg h0,if_pos h1]) (by decide)
 unfold aA.f
 refine Ev.bind hd ?_
 simp only [if_true]
 exact Ev.now _
end Go.Proofs.Yy.PTx
end
section
namespace Go.Proofs.Yy.PTx
open Go.RowKit Go.Proofs.Yw.PrintWords Go.Proofs.Yw.PrintLast Go.Proofs.Yw.PrintMore Go.Proofs.Yy.M Go.Proofs.Yy.TA Go.Proofs.Yy.SC
theorem NI {a:Int} (h:¬ ∃ n:Nat,Wd n∧a=n):fK.f a=some false:=by
 have h8:a≠8:=fun e=>h ⟨8, .inl rfl,e⟩
 have h16:a≠16:=fun e=>h ⟨16, .inr (.inl rfl),e⟩
 have h32:a≠32:=fun e=>h ⟨32, .inr (.inr (.inl rfl)),e⟩
 have h64:a≠64:=fun e=>h ⟨64, .inr (.inr (.inr rfl)),e⟩
 unfold fK.f
 simp [h8,h16,h32,h64]
theorem zn {n p:Nat} (hw:Wd n) {v:D} (hdec:Ev (fun k=>aN.f k (n:Int) (p:Int)) (v.nar,v.neg,mkB v.ds,v.e,none))
  (hval:Ev (fun k=>aA.f k (n:Int) (p:Int)) (v.nar,v.neg,mkB v.ds,v.e)) (fv:formed v=true) (hl:v.ds.length≤5000):Ev (fun k=>dZ.f k (n:Int) (p:Int)) true:=by
 have hex:Ev (fun k=>lm.f k (n:Int) (p:Int)) (mkB (qp (nrm v)),none):=by
  have ht:=aeR v
  rw [if_pos fv] at ht
  unfold lm.f
  refine Ev.bind hdec ?_
  simp only [Option.isNone_none,if_true,ht,Option.bind_some]
  exact Ev.now _
 have hrd:Ev (fun k=>fB.f k (n:Int) (p:Int)) (v.nar,v.neg,mkB v.ds,v.e,0):=by
  unfold fB.f
  simp only [aaC hw,Option.bind_some,if_true]
  exact Ev.bind hval (Ev.now _)
 have hrt:=OZ v (by omega)
 rw [if_pos fv] at hrt
 have hre:Ev (fun k=>fZ.f k (n:Int) (p:Int)) (mkB (qp (nrm v)),0):=by
  unfold fZ.f
  simp only [aaC hw,Option.bind_some,if_true]
  exact Ev.bind hval (Ev.bind hrt (Ev.now _))
 unfold dZ.f
 refine Ev.bind Oa (Ev.bind hdec (Ev.bind hex (Ev.bind hrd (Ev.bind hre ?_))))
 have hc:gU.f none=some 0:=rfl
 simp only [if_true,beq_self_eq_true,Bool.and_self,hc,Option.bind_some]
 exact Ev.now _
theorem SG {a:Int} (h:¬ ∃ n:Nat,Wd n∧a=n) (p:Int):Ev (fun k=>dZ.f k a p) true:=by
 have hd:∀ k,aN.f k a p=some (false,false,(⟨#[]⟩:ByteArray),0,some 2):=fun k=>by
  obtain ⟨x,y,z,v,e⟩:=PD h p k
  unfold aN.f
  rw [e];rfl
 have he:∀ k,lm.f k a p=some ((⟨#[]⟩:ByteArray),some 2):=fun k=>by
  unfold lm.f
  rw [hd];rfl
 have hrd:∀ k,fB.f k a p=some (false,false,(⟨#[]⟩:ByteArray),0,2):=fun k=>by
  unfold fB.f
  rw [NI h];rfl
 have hre:∀ k,fZ.f k a p=some ((⟨#[]⟩:ByteArray),2):=fun k=>by
  unfold fZ.f
  rw [NI h];rfl
 have hc:gU.f (some 2)=some 2:=by decide
 unfold dZ.f
 refine Ev.bind Oa ?_
 simp only [hd,he,hrd,hre,Option.bind_some,if_true,beq_self_eq_true,Bool.and_self,hc]
 exact Ev.now _
theorem IC (a:Int) (p:Nat) (hp:p<2 ^ 64):Ev (fun k=>dZ.f k a (p:Int)) true:=by
 by_cases hx:∃ n:Nat,Wd n∧a=n
 ·obtain ⟨n,hw,rfl⟩:=hx
  by_cases h0:p % 2 ^ n=0
  ·exact zn (v:=⟨false,false, [48],0⟩) hw (Ev.congr (fun k=>Jo hw p hp h0 k) (Ev.now _)) (PO hw p hp h0) (by decide) (by decide)
  by_cases h1:p % 2 ^ n=2 ^ (n - 1)
  ·exact zn (v:=dN) hw (Ev.congr (fun k=>LD hw p hp h0 h1 k) (Ev.now _)) (Ro hw p hp h0 h1) (by decide) (by decide)
  ·obtain ⟨v,⟨s,M,hM,hv⟩,vr,_,_,vl,hdec⟩:=O6 hw p hp h0 h1
   have hval:=Xm hw p hp h0 h1 hM
   rw [← hv] at hval
   exact zn hw hdec hval (sG vr.norm) (by omega)
 ·exact SG hx _
theorem Gt (a0 a1:Int) (w:World) (htab:Fx.Laid w) (wi1:(Lit.int .u64 a1).wf=true) :
  Calls Tryz.prog 4 #[.int .i64 a0, .int .u64 a1] w fun e w'=>e = .returned (.bool true)∧Below w.heap.size w w':=by
 have hb:=akP wi1
 obtain ⟨p,rfl⟩:=Int.eq_ofNat_of_zero_le hb.1
 obtain ⟨k,hk⟩:=(IC a0 p (by rw [p64];omega)).rounds
 exact dZ.calls k a0 (p:Int) true w hk rfl htab
end Go.Proofs.Yy.PTx
end
