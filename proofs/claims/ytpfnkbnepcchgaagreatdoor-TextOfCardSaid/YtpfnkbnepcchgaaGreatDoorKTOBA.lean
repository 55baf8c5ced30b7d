/- Part 27. -/
import Derived.Test.YtpfnkbnepcchgaaGreatDoorKTOAZ
set_option linter.unusedSimpArgs false
set_option linter.unusedVariables false
section
namespace Go.Proofs.Yy.PTx
open Go.RowKit Go.Proofs.Yw.PrintWords Go.Proofs.Yw.PrintLast Go.Proofs.Yw.PrintMore Go.Proofs.Yy.M Go.Proofs.Yy.TA Go.Proofs.Yy.NM
open Go.Proofs.Yy.SC hiding D
attribute [local irreducible] fK iG ji kQ val
theorem pwD (m:Nat):pw D m=((2 ^ (24*m):Nat):Int):=by
 rw[uq,vN,Nat.pow_mul,Int.natCast_pow];rfl
theorem D1':1<D:=by rw[vN];decide
theorem TB {v:Nat}(h0:0<v)(h:v<16777216):enc D (v:Int)=[(v:Int)]:=by
 have h1:(v:Int) % D=(v:Int):=by rw[vN];omega
 have h2:(v:Int) / D=0:=by rw[vN];omega
 rw[oI D1' (by omega),h1,h2,eX]
theorem aah {v:Nat}:Dig D (enc D (v:Int)):=fJ D1' _
theorem ZK {v:Nat}:val D (enc D (v:Int))=(v:Int):=fC D1' (Int.natCast_nonneg v)
theorem abH {v m:Nat}(h:v<2 ^ (24*m)):(v:Int)<pw D m:=by rw[pwD];exact_mod_cast h
theorem AY {v m:Nat}(h:v<2 ^ (24*m)):(enc D (v:Int)).length≤m:=mG D1' (abH h)
end Go.Proofs.Yy.PTx
end
section
set_option maxRecDepth 40000
namespace Go.Proofs.Yy.PTx
open Go.RowKit Go.Proofs.Yw.PrintWords Go.Proofs.Yw.PrintLast Go.Proofs.Yw.PrintMore Go.Proofs.Yy.M Go.Proofs.Yy.TA Go.Proofs.Yy.NM
open Go.Proofs.Yy.SC hiding D
attribute [local irreducible] fK iG ji kQ val
def CX (V b:Nat):Nat:=V / 2 ^ (b-128)*2 ^ (128-min b 128)
theorem xN {V b:Nat}(hb1:1≤b)(h1:V<2 ^ b)(h2:2 ^ (b-1)≤V):2 ^ 127≤CX V b∧CX V b<2 ^ 128:=by
 unfold CX
 by_cases hb:128≤b
 ·rw[Nat.min_eq_right hb,Nat.sub_self,Nat.pow_zero,Nat.mul_one]
  constructor
  ·rw[Nat.le_div_iff_mul_le (two_pos _), ← Nat.pow_add,show 127+(b-128)=b-1 by omega];exact h2
  ·rw[Nat.div_lt_iff_lt_mul (two_pos _), ← Nat.pow_add,show 128+(b-128)=b by omega];exact h1
 ·rw[Nat.min_eq_left (by omega),show b-128=0 by omega,Nat.pow_zero,Nat.div_one]
  constructor
  ·have:=Nat.mul_le_mul_right (2 ^ (128-b)) h2
   rwa [← Nat.pow_add,show b-1+(128-b)=127 by omega]at this
  ·have:=Nat.mul_lt_mul_of_pos_right (k:=2 ^ (128-b)) h1 (two_pos _)
   rwa [← Nat.pow_add,show b+(128-b)=128 by omega]at this
theorem JM {n N C u q r b:Nat}(hn:8≤n)(hn2:n≤64)(hC:0<C)(hq:N*2 ^ u=C*q+r)(hr:r<C)(hb1:1≤b)(h1:q<2 ^ b)(h2:2 ^ (b-1)≤q)(h:r≠0→128≤b) :
  Ov n (-(u:Int)+b-1) (CX q b) (decide (r≠0) || decide (q % 2 ^ (b-128)≠0))=pos n (scl N C) N C:=by
 have e:Rep N C (-(u:Int)+b-1) (CX q b / 2 ^ 64) ((decide (r≠0) || decide (q % 2 ^ (b-128)≠0)) || decide (CX q b % 2 ^ 64≠0)):=by
  rw[show -(u:Int)+b-1=(b:Int)-1-u by omega]
  by_cases hb:128≤b
  ·have e:=Rep.agb hC hq hr h2 h1 hb
   have hT:CX q b=q / 2 ^ (b-128):=by unfold CX;rw[Nat.min_eq_right hb,Nat.sub_self,Nat.pow_zero,Nat.mul_one]
   rw[hT,Bool.or_comm (decide (r≠0))];exact e
  ·have hr0:r=0:=by
    apply Classical.byContradiction
    intro h3;exact hb (h h3)
   subst hr0;have e:=Rep.afP hC (by rw[hq,Nat.add_zero]) h2 h1 hb1 (by omega)
   have hT:CX q b=q*2 ^ (128-b):=by unfold CX;rw[Nat.min_eq_left (by omega),show b-128=0 by omega,Nat.pow_zero,Nat.div_one]
   rw[hT,show b-128=0 by omega,Nat.pow_zero,Nat.mod_one]
   simpa using e
 rw[Ot hn hn2 (xN hb1 h1 h2).1 e,TI e]
theorem abg (T:Nat):((T:Int) % B)=loI T:=by unfold loI;rw[uh];omega
theorem acz {T:Nat}(h:T<2 ^ 128):((T:Int) / pw 2 64 % B)=hiI T:=by
 have hlt:T / 2 ^ 64<2 ^ 64:=by rw[Nat.div_lt_iff_lt_mul (two_pos _), ← Nat.pow_add];exact h
 rw[TP, ← Int.natCast_ediv,uh];unfold hiI;rw[p64]at *
 omega
theorem al2 {T:Nat}:0≤(T:Int) / pw 2 64:=by rw[TP, ← Int.natCast_ediv];exact Int.natCast_nonneg _
theorem GM {T:Nat}(h:T<2 ^ 128)(kd:Int)(neg:Bool)(s:Int)(c:Bool):Ev (fun k=>(bC.f k (enc D (T:Int))).bind fun ZA=>((aQ.f k (enc D (T:Int)) 64).bind fun aaJ=>((bC.f k aaJ).bind fun ako=>(some (kd,neg,s,ako,ZA,c))))) (kd,neg,s,hiI T,loI T,c):=by
 have hlen:=AY (v:=T) (m:=6) (Nat.lt_of_lt_of_le h (Nat.pow_le_pow_right (by decide) (by decide)));have w1:=Ob (A:=(T:Int)) (Int.natCast_nonneg _);have w2:=Sz (A:=(T:Int)) (Int.natCast_nonneg _) 64 (by omega) (by omega);have w3:=Ob (A:=(T:Int) / pw 2 64) al2;rw[abg]at w1;rw[acz h]at w3;exact Ev.bind w1 (Ev.bind w2 (Ev.bind w3 (Ev.now _)))
theorem Jz {V b:Nat}(hb1:1≤b)(h1:V<2 ^ b)(h2:2 ^ (b-1)≤V)(hb2:b≤60000)(neg rest:Bool){e:Int}(he1 : -900000≤e)(he2:e≤900000) :
  Ev (fun k=>ay.f k neg (enc D (V:Int)) e rest) (1,neg,e+b-1,hiI (CX V b),loI (CX V b),rest || decide (V % 2 ^ (b-128)≠0)):=by
 obtain⟨g1,g2⟩:=xN hb1 h1 h2
 obtain⟨m,hm⟩:∃ m,m=b / 24+1:=⟨_,rfl⟩
 have hVm:V<2 ^ (24*m):=xI h1 (by omega);have hlen:=AY hVm;have hbits:=Hw (A:=(V:Int)) (Int.natCast_nonneg _) (by omega);rw[acu h1 (fun _=>h2)]at hbits
 have hheld:jy.f (wrap64 (wrap64 (e+(b:Int))-1))=some (e+b-1):=by
  rw[qm (x:=e+(b:Int)) (by omega) (by omega),qm (by omega) (by omega)];unfold jy.f;rw[if_neg (by omega),if_neg (by omega)]
 unfold ay.f;refine Ev.bind hbits ?_;simp only[if_neg (show ¬ (b:Int)=0 by omega),hheld,Option.bind_some]
 by_cases hlt:b<128
 ·simp only[if_pos (show (b:Int)<128 by omega)]
  have hs:=Tm (A:=(V:Int)) (Int.natCast_nonneg _) (128-b) (by omega) (abH hVm) (by omega);rw[TP, ← Int.natCast_mul]at hs
  have hT:V*2 ^ (128-b)=CX V b:=by unfold CX;rw[Nat.min_eq_left (by omega),show b-128=0 by omega,Nat.pow_zero,Nat.div_one]
  rw[hT]at hs
  have hw:wrap64 (128-(b:Int))=((128-b:Nat):Int):=by rw[qm (by omega) (by omega)];omega
  rw[hw];refine Ev.bind hs ?_;refine Ev.step (fun k=>?_) (GM (T:=CX V b) g2 1 neg (e+b-1) (rest || decide (V % 2 ^ (b-128)≠0)));simp only[ay.j0];rw[if_neg (by omega),show b-128=0 by omega,Nat.pow_zero,Nat.mod_one];simp
 ·simp only[if_neg (show ¬ (b:Int)<128 by omega)]
  have hT:CX V b=V / 2 ^ (b-128):=by unfold CX;rw[Nat.min_eq_right (by omega),Nat.sub_self,Nat.pow_zero,Nat.mul_one]
  by_cases heq:b=128
  ·subst heq
   have hT2:CX V 128=V:=by rw[hT,Nat.sub_self,Nat.pow_zero,Nat.div_one]
   have hw:=GM (T:=CX V 128) g2 1 neg (e+((128:Nat):Int)-1) (rest || decide (V % 2 ^ (128-128)≠0));rw[hT2]at hw ⊢;refine Ev.step (fun k=>?_) hw;simp only[ay.j0];rw[if_neg (by omega),Nat.sub_self,Nat.pow_zero,Nat.mod_one];simp
  ·have hw:wrap64 ((b:Int)-128)=((b-128:Nat):Int):=by rw[qm (by omega) (by omega)];omega
   have hl:=acp (A:=(V:Int)) (Int.natCast_nonneg _) (by omega) (b-128) (by omega)
   have hmod:decide ((V:Int) % pw 2 (b-128)≠0)=decide (V % 2 ^ (b-128)≠0):=by
    rw[TP, ← Int.natCast_emod];exact decide_eq_decide.2 (by omega)
   rw[hmod]at hl;have hs:=Sz (A:=(V:Int)) (Int.natCast_nonneg _) (b-128) (by omega) (by omega);rw[TP, ← Int.natCast_ediv, ← hT]at hs
   have hj1:∀ c:Bool,Ev (fun k=>ay.j1 k (enc D (V:Int)) (b:Int) 1 neg (e+b-1) 0 0 c) (1,neg,e+b-1,hiI (CX V b),loI (CX V b),c):=by
    intro c;refine Ev.step (f:=fun k=>(aQ.f k (enc D (V:Int)) ((b-128:Nat):Int)).bind fun KE=>((bC.f k KE).bind fun WY=>((aQ.f k KE 64).bind fun ZB=>((bC.f k ZB).bind fun akp=>(some ((1:Int),neg,e+b-1,akp,WY,c)))))) (fun k=>?_) ?_
    ·simp only[ay.j1,hw]
    ·exact Ev.bind hs (GM (T:=CX V b) g2 1 neg (e+b-1) c)
   refine Ev.step (f:=fun k=>(aN.f k (enc D (V:Int)) ((b-128:Nat):Int)).bind fun afs=>(if rest=true then (ay.j1 k (enc D (V:Int)) (b:Int) 1 neg (e+b-1) 0 0 true) else (ay.j1 k (enc D (V:Int)) (b:Int) 1 neg (e+b-1) 0 0 afs))) (fun k=>?_) ?_
   ·simp only[ay.j0,hw]
    rw[if_pos (by omega)]
   ·refine Ev.bind hl ?_
    cases rest
    ·simp only[Bool.false_eq_true,if_false,Bool.false_or]
     exact hj1 _
    ·simp only[if_true,Bool.true_or]
     exact hj1 true
theorem Yo {n:Nat}(hn:8≤n)(hn2:n≤64)(s:Int){T:Nat}(hT1:2 ^ 127≤T)(hT2:T<2 ^ 128)(c:Bool):(pF n s T c).1<2 ^ (n-1):=by
 have hp:=two_pos (n-1)
 have hp1:2≤2 ^ (n-1):=by
  have:2 ^ 1≤2 ^ (n-1):=Nat.pow_le_pow_right (by decide) (by omega);exact this
 unfold pF
 split
 ·show 2 ^ (n-1)-1<_;omega
 ·split
  ·show 1<_;omega
  ·show BP n s 127 T<_
   have hL4:=UZ s
   have hcl:TA.hL s+127=n-1+xH n s 127:=by unfold xH;omega
   unfold BP;rw[Nat.div_lt_iff_lt_mul (two_pos _), ← Nat.pow_add, ← hcl,Nat.pow_add];unfold zX;have h1:=Xx s;have hTm:=Fp hT1 hT2;have h2:=Nat.mod_lt T (two_pos 127);have h3:(hV s+1)*2 ^ 127≤2 ^ TA.hL s*2 ^ 127:=Nat.mul_le_mul_right _ h1;rw[Nat.add_mul,Nat.one_mul]at h3
   omega
theorem RX {n:Nat}(hw:Wd n)(neg:Bool){V b:Nat}(hb1:1≤b)(h1:V<2 ^ b)(h2:2 ^ (b-1)≤V)(hb2:b≤60000)(rest:Bool){e:Int}(he1 : -900000≤e)(he2:e≤900000){P:Nat}
  (hP:Ov n (e+b-1) (CX V b) (rest || decide (V % 2 ^ (b-128)≠0))=P) :
  Ev (fun k=>(ay.f k neg (enc D (V:Int)) e rest).bind fun x=>(di.f k (n:Int) x.1 x.2.1 x.2.2.1 x.2.2.2.1 x.2.2.2.2.1 x.2.2.2.2.2).bind fun t=>some t) ((sgn n neg P:Nat):Int):=by
 obtain⟨h8,h64⟩:=hw.bounds;obtain⟨g1,g2⟩:=xN hb1 h1 h2;have hx:=Jz hb1 h1 h2 hb2 neg rest he1 he2;have hr:=Qk hw neg (s:=e+b-1) (by omega) (by omega) g1 g2 (rest || decide (V % 2 ^ (b-128)≠0)) (Yo h8 h64 _ g1 g2 _);rw[hP]at hr;exact Ev.bind hx (Ev.bind hr (Ev.now _))
theorem afG {n:Nat}(hw:Wd n)(neg:Bool)(e:Int)(P:Nat)(he:(e=4000∧P=2 ^ (n-1)-1)∨(e = -4000∧P=1)) :
  Ev (fun k=>(ay.f k neg (([1]:List Int)) e false).bind fun x=>(di.f k (n:Int) x.1 x.2.1 x.2.2.1 x.2.2.2.1 x.2.2.2.2.1 x.2.2.2.2.2).bind fun t=>some t) ((sgn n neg P:Nat):Int):=by
 obtain⟨h8,h64⟩:=hw.bounds;have h1:([1]:List Int)=enc D ((1:Nat):Int):=(TB (by decide) (by decide)).symm;have ht:=top_le h64
 have ht8:0≤top n:=by unfold top;omega
 rw[h1];refine RX hw neg (V:=1) (b:=1) (by decide) (by decide) (by decide) (by decide) false (by omega) (by omega) ?_;unfold Ov;rcases he with⟨e1,e2⟩|⟨e1,e2⟩
 ·rw[e1,e2,if_pos (by omega)]
 ·rw[e1,e2,if_neg (by omega),if_pos (by omega)]
theorem Qi {n:Nat}(hw:Wd n){v:SC.D}(hn:v.nar=false){c0:UInt8}{l0:List UInt8}(hd:v.ds=c0::l0)(hc0:49≤c0.toNat)(hg:∀ c ∈ v.ds,48≤c.toNat∧c.toNat≤57)(hl:v.ds.length≤4096)(he1 : -1000000≤v.e)(he2:v.e≤1000000)
  (hm1 : -400≤(v.ds.length:Int)+v.e) (hm2:(v.ds.length:Int)+v.e≤400) :
  Ev (fun k=>(bU.f k (mkB v.ds)).bind fun Et=>(if v.e≥0 then ((dB.f k v.e).bind fun afu=>((aC.f k Et afu).bind fun aeS=>((ay.f k v.neg aeS 0 false).bind fun AL=>((di.f k (n:Int) AL.1 AL.2.1 AL.2.2.1 AL.2.2.2.1 AL.2.2.2.2.1 AL.2.2.2.2.2).bind fun alG=>(some alG))))) else ((dB.f k (wrap64 (-v.e))).bind fun IM=>((bg.f k IM).bind fun aaM=>((bg.f k Et).bind fun aaN=>(if (wrap64 ((wrap64 (aaM-aaN))+140))<0 then (bT.j0 k (n:Int) Et IM 0 v.nar v.neg (mkB v.ds) v.e) else (bT.j0 k (n:Int) Et IM (wrap64 ((wrap64 (aaM-aaN))+140)) v.nar v.neg (mkB v.ds) v.e))))))) ((sgn n v.neg (Q9 n v):Nat):Int):=by
 obtain⟨h8,h64⟩:=hw.bounds
 have hl1:v.ds.length=l0.length+1:=by rw[hd];rfl
 obtain⟨A_,hA_⟩:∃ x:Nat,x=17000:=⟨_,rfl⟩
 obtain⟨T_,hT_⟩:∃ x:Nat,x=19000:=⟨_,rfl⟩
 have hdg:∀ c ∈ v.ds,dgt c=true:=fun c hc=>by unfold dgt;rw[decide_eq_true (hg c hc).1,decide_eq_true (hg c hc).2];rfl
 have hread:=Qp hdg (by omega);rw[JD]at hread
 have hm0:0<xB v.ds:=by
  have:=yX (l:=l0) hc0;rw[← hd]at this;have:=Nat.pow_pos (a:=10) (n:=l0.length) (by decide)
  omega
 have hmA:xB v.ds<2 ^ A_:=by
  have h3:=GH v.ds 0 hg;rw[Nat.zero_add,Nat.one_mul]at h3;exact xI (Nat.lt_trans h3 (Gf v.ds.length)) (by omega)
 have hlimb:∀ {V M:Nat},V<2 ^ M→V<2 ^ (24*(M / 24+1)):=fun h=>xI h (by omega);obtain⟨bm,m1,m2,m3,m4⟩:=wz hm0;have bm1:=vZ m1 m3 hmA;refine Ev.bind hread ?_
 by_cases he:0≤v.e
 ·obtain⟨k,hk⟩:=Int.eq_ofNat_of_zero_le he
  have hk4:k≤400:=by omega
  simp only[show v.e≥0 from he,if_true];have hten:=TE k (by omega);rw[XD]at hten;rw[hk];refine Ev.bind hten ?_
  have hV:Ak v=xB v.ds*10 ^ k:=by unfold Ak;rw[hk,Int.toNat_natCast]
  have hC:Jj v=1:=by unfold Jj;rw[show (-v.e).toNat=0 by omega,Nat.pow_zero]
  have hp:=Nat.pow_pos (a:=10) (n:=k) (by decide);have htlt:10 ^ k<2 ^ (4*k+1):=Gf k
  have hmul:=ab4 (a:=enc D (xB v.ds:Int)) (b:=enc D ((10 ^ k:Nat):Int)) aah aah (by
   have a1:=AY (hlimb hmA);have a2:=AY (hlimb htlt)
   omega)
  rw[ZK,ZK, ← Int.natCast_mul, ← hV]at hmul;refine Ev.bind hmul ?_
  have hV0:0<Ak v:=by rw[hV];exact Nat.mul_pos hm0 hp
  have hVlt:Ak v<2 ^ T_:=by
   rw[hV];exact xI (Ha hmA htlt rfl) (by omega)
  obtain⟨b,hb1,hb2,hb3,_⟩:=wz hV0;have hbb:=vZ hb1 hb3 hVlt;refine RX hw v.neg hb1 hb2 hb3 (by omega) false (by omega) (by omega) ?_;have h:=JM (n:=n) (N:=Ak v) (C:=Jj v) (u:=0) (q:=Ak v) (r:=0) (b:=b) h8 h64 (uJ v) (by rw[hC];simp) (uJ v) hb1 hb2 hb3 (by simp);unfold Q9;rw[← h];simp
 ·obtain⟨k,hk⟩:=Int.eq_ofNat_of_zero_le (show 0 ≤ -v.e by omega)
  have hk1:k≤4496:=by omega
  simp only[ge_iff_le,if_neg he]
  have hwk:wrap64 (-v.e)=(k:Int):=by rw[qm (by omega) (by omega),hk]
  have hten:=TE k (by omega);rw[XD]at hten;rw[hwk];refine Ev.bind hten ?_
  have hN:Ak v=xB v.ds:=by unfold Ak;rw[show v.e.toNat=0 by omega,Nat.pow_zero,Nat.mul_one]
  have hC:Jj v=10 ^ k:=by unfold Jj;rw[hk,Int.toNat_natCast]
  have hp:=Nat.pow_pos (a:=10) (n:=k) (by decide);have htlt:10 ^ k<2 ^ T_:=xI (Gf k) (by omega);obtain⟨bt_,t1,t2,t3,t4⟩:=wz hp;have bt1:=vZ t1 t3 htlt;have hbt:=Hw (A:=((10 ^ k:Nat):Int)) (Int.natCast_nonneg _) (Nat.le_trans (AY (hlimb htlt)) (by omega));have hbm:=Hw (A:=(xB v.ds:Int)) (Int.natCast_nonneg _) (Nat.le_trans (AY (hlimb hmA)) (by omega));rw[t4]at hbt;rw[m4]at hbm;refine Ev.bind hbt (Ev.bind hbm ?_)
  obtain⟨up,hup⟩:∃ up,bt_+140-bm=up:=⟨_,rfl⟩
  have hwb:wrap64 (wrap64 ((bt_:Int)-(bm:Int))+140)=(bt_:Int)-bm+140:=by rw[qm (x:=(bt_:Int)-(bm:Int)) (by omega) (by omega),qm (by omega) (by omega)]
  -- behind the number of places
  have hj0:Ev (fun j=>bT.j0 j (n:Int) (enc D (xB v.ds:Int)) (enc D ((10 ^ k:Nat):Int)) (up:Int) v.nar v.neg (mkB v.ds) v.e) ((sgn n v.neg (Q9 n v):Nat):Int):=by
   have hshl:=Tm (A:=(xB v.ds:Int)) (Int.natCast_nonneg _) up (by omega) (abH (hlimb hmA)) (by omega);rw[TP, ← Int.natCast_mul]at hshl
   obtain⟨S_,hS_⟩:∃ x:Nat,x=40000:=⟨_,rfl⟩
   have hnlt:xB v.ds*2 ^ up<2 ^ S_:=by
    have h3:2 ^ up<2 ^ (up+1):=by rw[Nat.pow_succ];have:=two_pos up;omega
    exact xI (Ha hmA h3 rfl) (by omega)
   have hdiv:=O1 (A:=((xB v.ds*2 ^ up:Nat):Int)) (C:=((10 ^ k:Nat):Int)) (Int.natCast_nonneg _) (by omega) (Nat.le_trans (AY (hlimb hnlt)) (by omega)) (Nat.le_trans (AY (hlimb htlt)) (by omega));rw[← Int.natCast_ediv, ← Int.natCast_emod]at hdiv
   obtain⟨q,hq⟩:∃ q,xB v.ds*2 ^ up / 10 ^ k=q:=⟨_,rfl⟩
   obtain⟨r,hr⟩:∃ r,xB v.ds*2 ^ up % 10 ^ k=r:=⟨_,rfl⟩
   have hqr:xB v.ds*2 ^ up=10 ^ k*q+r:=by rw[← hq, ← hr];exact (Nat.div_add_mod _ _).symm
   have hrlt:r<10 ^ k:=by rw[← hr];exact Nat.mod_lt _ hp
   rw[hq,hr]at hdiv
   obtain⟨F_,hF_⟩:∃ x:Nat,x=138:=⟨_,rfl⟩
   have aGf:2 ^ F_≤q:=by
    rw[← hq,Nat.le_div_iff_mul_le hp];have e1:2 ^ F_*10 ^ k≤2 ^ F_*2 ^ bt_:=Nat.mul_le_mul_left _ (Nat.le_of_lt t2)
    have e2:2 ^ F_*2 ^ bt_≤2 ^ (bm-1)*2 ^ up:=by
     rw[← Nat.pow_add, ← Nat.pow_add];exact Nat.pow_le_pow_right (by omega) (by omega)
    exact Nat.le_trans e1 (Nat.le_trans e2 (Nat.mul_le_mul_right _ m3))
   obtain⟨b,hb1,hb2,hb3,_⟩:=wz (V:=q) (by have:=two_pos F_;omega)
   have atU:128≤b:=by
    apply Nat.le_of_not_lt
    intro hc;have:2 ^ b≤2 ^ F_:=Nat.pow_le_pow_right (by omega) (by omega)
    omega
   have hqlt:q<2 ^ S_:=Nat.lt_of_le_of_lt (by rw[← hq];exact Nat.div_le_self _ _) hnlt;have hbb:=vZ hb1 hb3 hqlt
   have hrest:decide (((enc D (r:Int)).length:Int) > 0)=decide (r≠0):=by
    apply decide_eq_decide.2
    constructor
    ·intro h h0
     rw[h0]at h;rw[show ((0:Nat):Int)=0 by rfl,eX]at h;exact absurd h (by decide)
    ·intro h
     have:=Cm D1' (n:=(r:Int)) (by omega)
     omega
   have hwu:wrap64 (-(up:Int)) = -(up:Int):=qm (by omega) (by omega);refine Ev.step (f:=fun j=>(gB.f j (enc D (xB v.ds:Int)) (up:Int)).bind fun aaL=>((aH.f j aaL (enc D ((10 ^ k:Nat):Int))).bind fun Xa=>((ay.f j v.neg Xa.1 (-(up:Int)) (decide ((Xa.2.length:Int) > 0))).bind fun AC=>((di.f j (n:Int) AC.1 AC.2.1 AC.2.2.1 AC.2.2.2.1 AC.2.2.2.2.1 AC.2.2.2.2.2).bind fun alF=>(some alF))))) (fun j=>?_) ?_
   ·simp only[bT.j0,hwu]
   ·refine Ev.bind hshl (Ev.bind hdiv ?_)
    simp only[hrest];refine RX hw v.neg hb1 hb2 hb3 (by omega) (decide (r≠0)) (by omega) (by omega) ?_;have h:=JM (n:=n) (N:=Ak v) (C:=Jj v) (u:=up) (q:=q) (r:=r) (b:=b) h8 h64 (uJ v) (by rw[hN,hC];exact hqr) (by rw[hC];exact hrlt) hb1 hb2 hb3 (fun _=>atU);unfold Q9;exact h
  by_cases hneg:(bt_:Int)-bm+140<0
  ·simp only[hwb,if_pos hneg]
   have:up=0:=by omega
   rw[this]at hj0;exact hj0
  ·simp only[hwb,if_neg hneg]
   rw[show (bt_:Int)-bm+140=(up:Int) by omega];exact hj0
theorem PK {n:Nat}(hw:Wd n)(d:SC.D)(hf:formed d=true)(hl:d.ds.length≤5000)(he1 : -1000000≤d.e)(he2:d.e≤1000000):Ev (fun k=>bT.f k (n:Int) d.nar d.neg (mkB d.ds) d.e) ((ofD n d:Nat):Int):=by
 obtain⟨h8,h64⟩:=hw.bounds;have hN:=GU hf;have hnm:=Tq d (by omega) he1 he2;unfold bT.f;refine Ev.bind hnm ?_;simp only[LJ];unfold ofD
 by_cases hnar:(nrm d).nar=true
 ·simp only[hnar,if_true]
  exact Ev.bind (Oj hw) (Ev.now _)
 ·simp only[if_neg hnar,ZV]
  by_cases h0:(nrm d).ds=[48]
  ·simp only[if_pos h0]
   exact Ev.now _
  ·simp only[if_neg h0]
   have hn:(nrm d).nar=false:=by simpa using hnar
   obtain⟨c,l,e1,e2,e3,e4,e5,e6⟩:=CP hN hn h0
   have hsz:wrap64 (((mkB (nrm d).ds).size:Int)+(nrm d).e)=((nrm d).ds.length:Int)+(nrm d).e:=by rw[cZ,qm (by omega) (by omega)]
   simp only[hsz]
   by_cases f1:(400:Int)<(nrm d).ds.length+(nrm d).e
   ·simp only[gt_iff_lt,if_pos f1]
    rw[JI h64 e1 e2 (by omega)];exact afG hw _ 4000 _ (.inl ⟨rfl,rfl⟩)
   ·simp only[gt_iff_lt,if_neg f1]
    by_cases f2:((nrm d).ds.length:Int)+(nrm d).e < -400
    ·simp only[if_pos f2]
     rw[NJ (by omega) h64 e1 e2 e3 (by omega)];exact afG hw _ (-4000) _ (.inr ⟨rfl,rfl⟩)
    ·simp only[if_neg f2]
     exact Qi hw hn e1 e2 e3 e4 e5 e6 (by omega) (by omega)
end Go.Proofs.Yy.PTx
end
section
namespace Go.Proofs.Yy.PTx
open Go.RowKit Go.Proofs.Yw.PrintWords Go.Proofs.Yw.PrintLast Go.Proofs.Yw.PrintMore Go.Proofs.Yy.M Go.Proofs.Yy.TA Go.Proofs.Yy.SC
theorem abx {a:Int}(h:¬ ∃ n:Nat,Wd n∧a=n):fZ.f a=some false:=by
 have h8:a≠8:=fun e=>h ⟨8,.inl rfl,e⟩;have h16:a≠16:=fun e=>h ⟨16,.inr (.inl rfl),e⟩;have h32:a≠32:=fun e=>h ⟨32,.inr (.inr (.inl rfl)),e⟩;have h64:a≠64:=fun e=>h ⟨64,.inr (.inr (.inr rfl)),e⟩;unfold fZ.f;simp[h8,h16,h32,h64]
theorem acG {n:Nat}(hw:Wd n)(d:D)(hl:d.ds.length≤9223372036854775807):Ev (fun k=>iV.f k (n:Int) d.nar d.neg (mkB d.ds) d.e) (if formed d=true then (((ofD n d:Nat):Int),0) else (0,23)):=by
 have hf:=SY d hl;unfold iV.f;simp only[aa3 hw,Option.bind_some,if_true];refine Ev.bind hf ?_
 by_cases h:formed d=true
 ·simp only[h,if_true]
  have hb:=qZ h;exact Ev.bind (PK hw d h (by omega) hb.2.1 hb.2.2) (Ev.now _)
 ·simp only[show formed d=false by simpa using h,Bool.false_eq_true,if_false]
  exact Ev.now _
theorem Sj (a:Int)(d:D)(hl:d.ds.length≤9223372036854775807):Ev (fun k=>jr.f k a d.nar d.neg (mkB d.ds) d.e) true:=by
 have c0:iP.f none=some 0:=rfl
 have c2:iP.f (some 2)=some 2:=by decide
 have c23:iP.f (some 23)=some 23:=by decide
 unfold jr.f;refine Ev.bind Yd ?_
 by_cases hx:∃ n:Nat,Wd n∧a=n
 ·obtain⟨n,hw,rfl⟩:=hx
  refine Ev.bind (afD hw d) (Ev.bind (acG hw d hl) ?_)
  by_cases h:formed d=true
  ·simp only[h,if_true,c0,Option.bind_some,beq_self_eq_true]
   exact Ev.now _
  ·simp only[show formed d=false by simpa using h,Bool.false_eq_true,if_false,if_true,c23,Option.bind_some,beq_self_eq_true]
   exact Ev.now _
 ·have hr:∀ k,iV.f k a d.nar d.neg (mkB d.ds) d.e=some (0,2):=fun k=>by
   unfold iV.f;rw[abx hx];rfl
  simp only[abX hx,hr,Option.bind_some,if_true,c2,beq_self_eq_true];exact Ev.now _
theorem O5 (a0:Int)(kG jY:Bool)(jP:ByteArray)(kD:Int)(w:World)(htab:Fx.Laid w)(atV:jP.size≤maxLen) :
  Calls Tryz.prog 3 #[.int .i64 a0,.agg #[.bool kG,.bool jY,.string jP,.int .i64 kD]] w fun e w'=>e=.returned (.bool true)∧Below w.heap.size w w':=by
 have hl:jP.data.toList.length≤9223372036854775807:=by
  have e1:jP.data.toList.length=jP.size:=Array.length_toList;rw[e1];unfold maxLen at atV;omega
 obtain⟨k,hk⟩:=(Sj a0 ⟨kG,jY,jP.data.toList,kD⟩ hl).rounds;exact jr.calls k a0 kG jY jP kD true w hk rfl htab
end Go.Proofs.Yy.PTx
end
