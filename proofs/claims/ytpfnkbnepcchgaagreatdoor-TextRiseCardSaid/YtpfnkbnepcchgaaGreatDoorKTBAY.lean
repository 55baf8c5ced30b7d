/- Part 25 of what the proof needs. -/
import Derived.Test.YtpfnkbnepcchgaaGreatDoorKTBAX
set_option linter.unusedSimpArgs false
set_option linter.unusedVariables false
section
namespace Go.Proofs.Yy.PTx
open Go.RowKit Go.Proofs.Yw.PrintWords Go.Proofs.Yw.PrintLast Go.Proofs.Yw.PrintMore Go.Proofs.Yy.M Go.Proofs.Yy.NM
attribute [local irreducible] add64Lo add64Hi sub64Lo sub64Hi val
theorem pw10_pos (i:Nat):0<pw 10 i:=pw_pos (by decide) i
theorem pw10_ltB (i:Nat):pw 10 i<pw B (i+1):=by
 induction i with
 | zero=>rw [pw_zero,pw_succ,pw_zero,Int.one_mul];exact B1
 | succ i ih =>
  rw [pw_succ,pw_succ B]
  have h1:=pw_pos Bpos (i+1)
  have h2:pw 10 i * 10≤pw B (i+1) * 10:=Int.mul_le_mul_of_nonneg_right (Int.le_of_lt ih) (by decide)
  have h3:pw B (i+1) * 10<pw B (i+1) * B:=Int.mul_lt_mul_of_pos_left (by rw [Bdef];decide) h1
  omega
theorem val_one (b x:Int):val b [x]=x:=by rw [val_cons,val_nil];omega
theorem Dig_one {b x:Int} (h0:0≤x) (h1:x<b):Dig b [x]:=Dig.cons h0 h1 (Dig.nil b)
theorem nTen_l1:∀ (n i:Nat),n+i≤1099511627774→Ev (fun k=>nat_Ten.l1 k (n:Int) (enc B (pw 10 i))) (enc B (pw 10 (n+i)),none):=by
 intro n
 induction n with
 | zero =>
  intro i _
  rw [Nat.zero_add]
  refine Ev.step (f:=fun _=>some (enc B (pw 10 i),none)) (fun k=>?_) (Ev.now _)
  simp only [nat_Ten.l1]
  rw [if_neg (by omega)]
 | succ n ih =>
  intro i h
  have hw:Aside0 (wrap64 (((n+1:Nat):Int) - 1)=(n:Int)):=⟨by rw [w64 (by omega) (by omega)];omega⟩
  have hl:=penc_len B1 (pw10_ltB i)
  have ht:=times_ev (dig_enc' B1 (pw 10 i)) (Dig_one (b:=B) (x:=10) (by decide) (by rw [Bdef];decide)) (by simp;omega)
  rw [val_enc' B1 (Int.le_of_lt (pw10_pos i)),val_one, ← pw_succ] at ht
  refine Ev.step (f:=fun k=>(nat_times.f k (enc B (pw 10 i)) [10]).bind fun t=>nat_Ten.l1 k (n:Int) t) (fun k=>?_) (Ev.bind ht (by rw [show n+1+i=n+(i+1) by omega];exact ih (i+1) (by omega)))
  simp only [nat_Ten.l1]
  rw [if_pos (by omega),hw.out]
theorem pw10_19:pw 10 19=10000000000000000000:=by rw [pw_def];decide
theorem nTen_l0:∀ (m n i:Nat),n≤m→n+i≤1099511627774→Ev (fun k=>nat_Ten.l0 k (n:Int) (enc B (pw 10 i))) (enc B (pw 10 (n+i)),none):=by
 intro m
 induction m with
 | zero =>
  intro n i hm h
  refine Ev.step (f:=fun k=>nat_Ten.l1 k (n:Int) (enc B (pw 10 i))) (fun k=>?_) (nTen_l1 n i h)
  simp only [nat_Ten.l0]
  rw [if_neg (by omega)]
 | succ m ih =>
  intro n i hm h
  by_cases h19:19≤n
  ·have hw:Aside0 (wrap64 ((n:Int) - 19)=((n - 19:Nat):Int)):=⟨by rw [w64 (by omega) (by omega)];omega⟩
   have hl:=penc_len B1 (pw10_ltB i)
   have ht:=times_ev (dig_enc' B1 (pw 10 i)) (Dig_one (b:=B) (x:=10000000000000000000) (by decide) (by rw [Bdef];decide)) (by simp;omega)
   rw [val_enc' B1 (Int.le_of_lt (pw10_pos i)),val_one, ← pw10_19, ← pw_add,pw10_19] at ht
   refine Ev.step (f:=fun k=>(nat_times.f k (enc B (pw 10 i)) [10000000000000000000]).bind fun t=>nat_Ten.l0 k ((n - 19:Nat):Int) t) (fun k=>?_) (Ev.bind ht (by rw [show n+i=(n - 19)+(i+19) by omega];exact ih (n - 19) (i+19) (by omega) (by omega)))
   simp only [nat_Ten.l0]
   rw [if_pos (by omega),hw.out]
  ·refine Ev.step (f:=fun k=>nat_Ten.l1 k (n:Int) (enc B (pw 10 i))) (fun k=>?_) (nTen_l1 n i h)
   simp only [nat_Ten.l0]
   rw [if_neg (by omega)]
theorem nTen_ev (n:Nat) (h:n≤16384):Ev (fun k=>nat_Ten.f k (n:Int)) (enc B (pw 10 n),none):=by
 have:=nTen_l0 n n 0 (Nat.le_refl _) (by omega)
 rw [pw_zero,enc_one,Nat.add_zero] at this
 refine Ev.congr (fun k=>?_) this
 unfold nat_Ten.f
 rw [if_neg (by omega),if_neg (by omega)]
theorem nOf_ev {v:Int} (h0:0≤v) (h1:v<B):Ev (fun k=>nat_Of.f k v) (enc B v):=by
 have:=trim_ev (Dig_one h0 h1) (by simp)
 rw [val_one] at this
 exact Ev.congr (fun k=>rfl) (Ev.bind this (Ev.now _))
def bl (A:Int):Nat:=(enc 2 A).length
theorem two1:(1:Int)<2:=by decide
theorem bl_zero:bl 0=0:=by unfold bl;rw [enc_zero];rfl
theorem bl_lt {A:Int} (hA:0≤A) (i:Nat):i<bl A ↔ 0<A / pw 2 i:=enc_lt two1 hA i
theorem bl_half {A:Int} (h:0<A):bl A=bl (A / 2)+1:=by unfold bl;rw [enc_pos two1 h];rfl
theorem bl_shift {A:Int} (hA:0≤A) (m:Nat) (h:0<A / pw 2 m):bl A=m+bl (A / pw 2 m):=by
 have h1:=enc_drop two1 hA m
 have h2:=(bl_lt hA m).2 h
 unfold bl at *
 rw [← h1,List.length_drop]
 omega
theorem bl_le {A:Int} {m:Nat} (h:A<pw 2 m):bl A≤m:=penc_len two1 h
theorem top_digit {A b:Int} (hb:1<b) (hA:0<A):∃ n,(enc b A).length=n+1∧(enc b A).getD n 0=A / pw b n∧0<A / pw b n∧A / pw b n<b:=by
 have h0:=(enc_lt hb (Int.le_of_lt hA) 0).2 (by rw [div_pw_zero];exact hA)
 obtain ⟨n,hn⟩:∃ n,(enc b A).length=n+1:=⟨(enc b A).length - 1,by omega⟩
 have h1:=(enc_lt hb (Int.le_of_lt hA) n).1 (by omega)
 have h2:A / pw b n<b:=by
  have h3:=pval_lt (by omega) (dig_enc' hb A)
  rw [val_enc' hb (Int.le_of_lt hA),hn,pw_succ,Int.mul_comm] at h3
  exact Int.ediv_lt_of_lt_mul (pw_pos (by omega) n) h3
 exact ⟨n,hn,by rw [enc_get hb (Int.le_of_lt hA),Int.emod_eq_of_lt (by omega) h2],h1,h2⟩
def blN:Nat→Nat→Nat
 | 0,_=>0
 | k+1,v=>if v=0 then 0 else blN k (v / 2)+1
theorem bl_blN:∀ (k v:Nat),v<2 ^ k→bl (v:Int)=blN k v:=by
 intro k
 induction k with
 | zero => intro v h; obtain rfl : v = 0 := by simpa using h
           exact bl_zero
 | succ k ih =>
  intro v h
  unfold blN
  by_cases h0:v=0
  ·rw [if_pos h0,h0];exact bl_zero
  ·rw [if_neg h0,bl_half (by omega), ← ih (v / 2) (by rw [Nat.pow_succ] at h;omega)]
   congr 1
def len8:ByteArray:=⟨#[0,1,2,2,3,3,3,3,4,4,4,4,4,4,4,4,5,5,5,5,5,5,5,5,5,5,5,5,5,5,5,5,6,6,6,6,6,6,6,6,6,6,6,6,6,6,6,6,6,6,6,6,6,6,6,6,6,6,6,6,6,6,6,6,7,7,7,7,7,7,7,7,7,7,7,7,7,7,7,7,7,7,7,7,7,7,7,7,7,7,7,7,7,7,7,7,7,7,7,7,7,7,7,7,7,7,7,7,7,7,7,7,7,7,7,7,7,7,7,7,7,7,7,7,7,7,7,7,8,8,8,8,8,8,8,8,8,8,8,8,8,8,8,8,8,8,8,8,8,8,8,8,8,8,8,8,8,8,8,8,8,8,8,8,8,8,8,8,8,8,8,8,8,8,8,8,8,8,8,8,8,8,8,8,8,8,8,8,8,8,8,8,8,8,8,8,8,8,8,8,8,8,8,8,8,8,8,8,8,8,8,8,8,8,8,8,8,8,8,8,8,8,8,8,8,8,8,8,8,8,8,8,8,8,8,8,8,8,8,8,8,8,8,8,8,8,8,8,8,8,8,8,8,8,8,8]⟩
attribute [local irreducible] len8
theorem bitLen_bl:∀ (k x:Nat),k≤64→x<2 ^ k→Lib.bitLen x=bl (x:Int)
 | 0,x,_,h=>by
  have:x=0:=by rw [Nat.pow_zero] at h;omega
  subst this
  show Lib.bitLen 0=bl 0
  rw [bl_zero];rfl
 | k+1,x,hk,h=>by
  by_cases h0:x=0
  ·subst h0
   show Lib.bitLen 0=bl 0
   rw [bl_zero];rfl
  ·have h64:x<2 ^ 64:=Nat.lt_of_lt_of_le h (Nat.pow_le_pow_right (by omega) hk)
   rw [Lib.bitLen_half x h0 h64,bl_half (by omega),bitLen_bl k (x / 2) (by omega) (by rw [Nat.pow_succ] at h;omega),Nat.add_comm]
   congr 1
theorem len64_ev {x:Int} (h0:0≤x) (h1:x<B):Ev (fun k=>bits_Len64.f k x) (bl x:Int):=by
 rw [Bdef] at h1
 refine ⟨0,fun k _=>?_⟩
 unfold bits_Len64.f
 rw [if_pos (by omega)]
 obtain ⟨v,rfl⟩:=Int.eq_ofNat_of_zero_le h0
 rw [Int.toNat_natCast,bitLen_bl 64 v (Nat.le_refl _) (by omega)]
theorem nBits_ev {a:List Int} (ha:Dig B a) (hL:a.length≤1099511627776):Ev (fun k=>nat_Bits.f k a) ((bl (val B a):Nat):Int):=by
 have hA:=val_nonneg Bpos ha
 have la:=enc_len_le B1 ha
 refine Ev.congr (fun k=>rfl) (Ev.bind (trim_ev ha hL) ?_)
 by_cases h:0<val B a
 ·obtain ⟨n,hn,hg,h1,h2⟩:=top_digit B1 h
  have hw:Aside0 (wrap64 (((enc B (val B a)).length:Int) - 1)=(n:Int)):=⟨by rw [w64 (by omega) (by omega)];omega⟩
  have e:(bl (val B a):Int)=((64 * n:Nat):Int)+(bl (val B a / pw B n):Int):=by
   have:=bl_shift hA (64 * n) (by rw [← pwB];exact h1)
   rw [← pwB] at this
   omega
  have hbl:bl (val B a / pw B n)≤64:=bl_le (by rw [pw2_64];exact h2)
  refine Ev.congr (f:=fun k=>(bits_Len64.f k (val B a / pw B n)).bind fun t=>some (wrap64 (wrap64 (64 * (n:Int))+t))) (fun k=>?_) (Ev.bind (len64_ev (Int.le_of_lt h1) h2) ?_)
  ·rw [if_neg (by omega),hw.out,if_pos (by omega),if_pos (by omega),rd_nat,hg]
  ·rw [w64 (x:=64 * (n:Int)) (by omega) (by omega),w64 (by omega) (by omega),e,show ((64 * n:Nat):Int)=64 * (n:Int) by omega]
   exact Ev.now _
 ·have h0:val B a=0:=by omega
  refine Ev.congr (f:=fun _=>some 0) (fun k=>?_) (by rw [h0,bl_zero];exact Ev.now _)
  rw [h0,enc_zero,if_pos (by simp)]
theorem tdiv64 (k:Nat):Int.tdiv (k:Int) 64=((k / 64:Nat):Int):=by rw [Int.tdiv_eq_ediv_of_nonneg (by omega)];omega
theorem tmod64 (k:Nat):Int.tmod (k:Int) 64=((k % 64:Nat):Int):=by rw [Int.tmod_eq_emod_of_nonneg (by omega)];omega
theorem pw2_split64 (k:Nat):pw 2 k=pw 2 (k % 64) * pw B (k / 64):=by rw [pwB, ← pw_add];congr 1;omega
theorem shl_u64 (x:Int) {s:Nat} (h:s≤64):shl .u64 x (s:Int)=x * pw 2 s % B:=by
 have e:min (s:Int).toNat IntKind.u64.bits=s:=by rw [Int.toNat_natCast];exact Nat.min_eq_left h
 unfold shl
 rw [e,IntKind.wrap_u64,pw_def,Bdef]
theorem shr_u64 (x:Int) {s:Nat} (h:s≤64):shr .u64 x (s:Int)=x / pw 2 s:=by
 have e:min (s:Int).toNat IntKind.u64.bits=s:=by rw [Int.toNat_natCast];exact Nat.min_eq_left h
 unfold shr
 rw [e,pw_def]
theorem or_join {x y:Int} {i:Nat} (hx0:0≤x) (hx:x % pw 2 i=0) (hx1:x<B) (hy0:0≤y) (hy:y<pw 2 i) (hy1:y<B):Go.bits .or .u64 x y=x+y:=by
 rw [Bdef] at hx1 hy1
 rw [pw_def] at hx hy
 exact bits_join .u64 64 (by decide) (fun n a b=>u64w a (by omega)) i x y hx0 hx (by omega) hy0 hy (by omega)
theorem or_comm' {x y:Int} (hx0:0≤x) (hx1:x<B) (hy0:0≤y) (hy1:y<B):Go.bits .or .u64 x y=Go.bits .or .u64 y x:=by
 rw [Bdef] at hx1 hy1
 obtain ⟨a,rfl⟩:=Int.eq_ofNat_of_zero_le hx0
 obtain ⟨b,rfl⟩:=Int.eq_ofNat_of_zero_le hy0
 have hk:∀ n:Int,0≤n→n<2 ^ 64→IntKind.u64.wrap n=n:=fun n a b=>u64w a (by omega)
 rw [(bits_nat .u64 64 (by decide) hk a b (by omega) (by omega)).2,(bits_nat .u64 64 (by decide) hk b a (by omega) (by omega)).2,Nat.or_comm]
theorem pw2_pq {s:Nat} (h:s≤64):pw 2 s * pw 2 (64 - s)=B:=by rw [← pw_add, ← pw2_64];congr 1;omega
theorem pw2_le_B {i:Nat} (h:i≤64):pw 2 i≤B:=by rw [← pw2_64];exact pw_le (by decide) h
theorem lift_digit {a P Q:Int} (hP:0<P) (hQ:0<Q) (ha:0≤a) (ha1:a<P * Q):a * P=a * P % (P * Q)+P * Q * (a / Q)∧a * P % (P * Q) % P=0∧0≤a * P % (P * Q)∧a * P % (P * Q)+P≤P * Q∧0≤a / Q∧a / Q<P:=by
 have h1:=Int.mul_ediv_add_emod a Q
 have h2:=Int.emod_nonneg a (show Q≠0 by omega)
 have h3:=Int.emod_lt_of_pos a hQ
 have e:a * P=a % Q * P+P * Q * (a / Q):=by
  have:a * P=(Q * (a / Q)+a % Q) * P:=by rw [h1]
  rw [this];grind
 have l0:0≤a % Q * P:=Int.mul_nonneg h2 (by omega)
 have l1:(a % Q+1) * P≤Q * P:=Int.mul_le_mul_of_nonneg_right (by omega) (by omega)
 rw [Int.add_mul,Int.one_mul,Int.mul_comm Q] at l1
 have e2:a * P % (P * Q)=a % Q * P:=by
  rw [e,Int.add_mul_emod_self_left]
  exact Int.emod_eq_of_lt l0 (by omega)
 rw [e2]
 refine ⟨e,by rw [Int.mul_emod_left],l0,l1,Int.ediv_nonneg ha (by omega),Int.ediv_lt_of_lt_mul hQ ha1⟩
theorem getD_set_self (l:List Int) (i:Nat) (v:Int) (h:i<l.length):(l.set i v).getD i 0=v:=by
 simp [List.getD_eq_getElem?_getD,h]
theorem lift_step {A c lo hi a p b P V:Int} (hV:V=A * P) (h:a * P=lo+b * hi):V+p * (c+lo - c)+p * b * hi=(A+p * a) * P:=by grind
theorem lifted_l0 {a:List Int} (ha:Dig B a) {s:Nat} (hs:s<64) (hL:a.length≤1099511627775):∀ (d i:Nat) (x:List Int),i+d=a.length→x.length=a.length+1→Dig B x→(∀ j,i<j→x.getD j 0=0)→x.getD i 0<pw 2 s→val B x=val B (a.take i) * pw 2 s →
  ∃ r,r.length=a.length+1∧Dig B r∧val B r=val B a * pw 2 s∧Ev (fun k=>nat_lifted.l0 k (s:Int) x a (a.length:Int) (i:Int)) r:=by
 intro d
 induction d with
 | zero =>
  intro i x hi hx hd hz hc hv
  obtain rfl:i=a.length:=by omega
  rw [List.take_length] at hv
  refine ⟨x,hx,hd,hv,Ev.step (f:=fun _=>some x) (fun k=>?_) (Ev.now _)⟩
  simp only [nat_lifted.l0]
  rw [if_neg (by omega)]
 | succ d ih =>
  intro i x hi hx hd hz hc hv
  have hw:Aside0 (wrap64 ((i:Int)+1)=((i+1:Nat):Int)):=⟨by rw [w64 (by omega) (by omega)];omega⟩
  have hws:Aside0 (wrap64 (64 - (s:Int))=((64 - s:Nat):Int)):=⟨by rw [w64 (by omega) (by omega)];omega⟩
  have hlt:i<x.length:=by omega
  have hlt1:i+1<x.length:=by omega
  have hi1:i+1+d=a.length:=by omega
  have hP:=pw2_pos s
  have hQ:=pw2_pos (64 - s)
  have hPQ:=pw2_pq (s:=s) (by omega)
  obtain ⟨ga0,ga1⟩:=ha.get Bpos i
  obtain ⟨gx0,gx1⟩:=hd.get Bpos i
  obtain ⟨e1,e2,e3,e4,e5,e6⟩:=lift_digit hP hQ ga0 (by rw [hPQ];exact ga1)
  rw [hPQ] at e1 e2 e3 e4
  have hor:Go.bits .or .u64 (x.getD i 0) (a.getD i 0 * pw 2 s % B)=x.getD i 0+a.getD i 0 * pw 2 s % B:=by
   rw [or_comm' gx0 gx1 e3 (by omega),or_join e3 e2 (by omega) gx0 hc gx1,Int.add_comm]
  have hd':Dig B (x.set i (x.getD i 0+a.getD i 0 * pw 2 s % B)):=hd.set (by omega) (by omega)
  have hz':∀ j,i<j→(x.set i (x.getD i 0+a.getD i 0 * pw 2 s % B)).getD j 0=0:=fun j hj=>by rw [getD_set _ _ _ _ (by omega)];exact hz j hj
  have hPB:=pw2_le_B (i:=s) (by omega)
  by_cases hs0:0<s
  ·obtain ⟨r,r1,r2,r3,r4⟩:=ih (i+1) ((x.set i (x.getD i 0+a.getD i 0 * pw 2 s % B)).set (i+1) (a.getD i 0 / pw 2 (64 - s))) hi1 (by simpa using hx) (hd'.set e5 (by omega)) (fun j hj=>by rw [getD_set _ _ _ _ (by omega)];exact hz' j (by omega)) (by rw [getD_set_self _ _ _ (by simpa using hlt1)];exact e6) (by
    rw [pval_set B _ _ _ (by simpa using hlt1),hz' (i+1) (by omega),Int.sub_zero,pval_set B x i _ hlt,pval_take_succ B a,pw_succ]
    exact lift_step hv e1)
   refine ⟨r,r1,r2,r3,Ev.step (f:=fun k=>nat_lifted.l0 k (s:Int) ((x.set i (x.getD i 0+a.getD i 0 * pw 2 s % B)).set (i+1) (a.getD i 0 / pw 2 (64 - s))) a (a.length:Int) ((i+1:Nat):Int)) (fun k=>?_) r4⟩
   simp only [nat_lifted.l0]
   rw [if_pos (by omega),if_pos (by omega),if_pos (by omega),if_pos (by omega),if_pos (by omega),rd_nat,rd_nat,shl_u64 _ (by omega),hor]
   simp only [Option.bind_some]
   rw [if_pos (by omega),hws.out,hw.out,if_pos (by omega),if_pos (by omega),if_pos (by omega),shr_u64 _ (by omega),Int.toNat_natCast,Int.toNat_natCast]
  ·obtain rfl:s=0:=by omega
   have hq0:a.getD i 0 / pw 2 (64 - 0)=0:=by rw [Nat.sub_zero,pw2_64];exact Int.ediv_eq_zero_of_lt ga0 ga1
   rw [hq0,Int.mul_zero] at e1
   obtain ⟨r,r1,r2,r3,r4⟩:=ih (i+1) (x.set i (x.getD i 0+a.getD i 0 * pw 2 0 % B)) hi1 (by simpa using hx) hd' (fun j hj=>hz' j (by omega)) (by rw [hz' (i+1) (by omega)];exact hP) (by
    rw [pval_set B x i _ hlt,pval_take_succ B a]
    have:=lift_step (p:=pw B i) (c:=x.getD i 0) (hi:=0) (b:=B) hv (by rw [Int.mul_zero];exact e1)
    rw [Int.mul_zero,Int.add_zero] at this
    exact this)
   refine ⟨r,r1,r2,r3,Ev.step (f:=fun k=>nat_lifted.l0 k ((0:Nat):Int) (x.set i (x.getD i 0+a.getD i 0 * pw 2 0 % B)) a (a.length:Int) ((i+1:Nat):Int)) (fun k=>?_) r4⟩
   simp only [nat_lifted.l0]
   rw [if_pos (by omega),if_pos (by omega),if_pos (by omega),if_pos (by omega),if_pos (by omega),rd_nat,rd_nat,shl_u64 _ (by omega),hor]
   simp only [Option.bind_some]
   rw [if_neg (by omega),hw.out,Int.toNat_natCast]
theorem lifted_ev {a:List Int} (ha:Dig B a) {s:Nat} (hs:s<64) (hL:a.length≤1099511627775) :
  ∃ r,r.length=a.length+1∧Dig B r∧val B r=val B a * pw 2 s∧Ev (fun k=>nat_lifted.f k a (s:Int)) r:=by
 have hw:Aside0 (wrap64 ((a.length:Int)+1)=((a.length+1:Nat):Int)):=⟨by rw [w64 (by omega) (by omega)];omega⟩
 have hz:∀ j,(List.replicate (a.length+1) (0:Int)).getD j 0=0:=fun j=>by simp [List.getD_eq_getElem?_getD,List.getElem?_replicate];split <;> rfl
 obtain ⟨r,r1,r2,r3,r4⟩:=lifted_l0 ha hs hL a.length 0 (List.replicate (a.length+1) 0) (by omega) (by simp) (Dig.zeros Bpos _) (fun j _=>hz j) (by rw [hz];exact pw2_pos s) (by rw [val_zeros,List.take_zero,val_nil,Int.zero_mul])
 refine ⟨r,r1,r2,r3,Ev.congr (fun k=>?_) r4⟩
 unfold nat_lifted.f
 rw [hw.out,if_pos (by omega),Int.toNat_natCast,if_pos (by omega)]
 rfl
theorem nShl_ev {a:List Int} (ha:Dig B a) (hL:a.length≤1073741824) (k:Nat) (hk:k≤65536):Ev (fun n=>nat_Shl.f n a (k:Int)) (enc B (val B a * pw 2 k),none):=by
 have hA:=val_nonneg Bpos ha
 have la:=enc_len_le B1 ha
 have hq:Aside0 (wrap64 (Int.tdiv (k:Int) 64)=((k / 64:Nat):Int)):=⟨by rw [tdiv64];exact w64 (by omega) (by omega)⟩
 refine Ev.congr (fun n=>by unfold nat_Shl.f;rw [if_neg (by omega),if_neg (by omega)]) (Ev.bind (trim_ev ha (by omega)) ?_)
 by_cases h:0<val B a
 ·have hl:=(enc_lt B1 hA 0).2 (by rw [div_pw_zero];exact h)
  obtain ⟨r,r1,r2,r3,r4⟩:=lifted_ev (dig_enc' B1 (val B a)) (s:=k % 64) (by omega) (by omega)
  rw [val_enc' B1 hA] at r3
  have hd:Dig B (List.replicate (k / 64) 0 ++ r):=(Dig.zeros Bpos _).append r2
  have hv:val B (List.replicate (k / 64) 0 ++ r)=val B a * pw 2 k:=by rw [pval_zeros_append,r3,pw2_split64 k,Int.mul_comm,Int.mul_assoc]
  have ht:=trim_ev hd (by rw [List.length_append,List.length_replicate,r1];omega)
  rw [hv] at ht
  refine Ev.congr (f:=fun n=>(nat_lifted.f n (enc B (val B a)) ((k % 64:Nat):Int)).bind fun t=>if (List.replicate (k / 64) (0:Int)).length+t.length<17592186044416 then ((nat_trim.f n (List.replicate (k / 64) 0 ++ t)).bind fun u=>some (u,none)) else none) (fun n=>?_)
   (Ev.bind r4 (Ev.congr (fun n=>by rw [if_pos (by rw [List.length_replicate,r1];omega)]) (Ev.bind ht (Ev.now _))))
  rw [if_neg (by omega),hq.out,if_pos (by omega),Int.toNat_natCast,if_pos (by omega),tmod64,Option.bind_some]
 ·have h0:val B a=0:=by omega
  rw [h0,Int.zero_mul,enc_zero]
  exact Ev.congr (f:=fun _=>some ([],none)) (fun n=>by rw [if_pos (by simp)]) (Ev.now _)
def someNZ (l:List Int):Bool:=l.any (fun x=>x != 0)
theorem someNZ_cons (x:Int) (l:List Int):someNZ (x :: l)=((x != 0) || someNZ l):=rfl
theorem someNZ_iff {l:List Int}:someNZ l=true ↔ ¬ ∀ x ∈ l,x=0:=by
 unfold someNZ
 rw [List.any_eq_true]
 constructor
 ·rintro ⟨x,hx,h⟩ hall
  rw [hall x hx] at h
  exact absurd h (by decide)
 ·intro h
  refine Decidable.byContradiction fun hn=>h fun x hx=>Decidable.byContradiction fun hx0=>hn ⟨x,hx,bne_iff_ne.2 hx0⟩
theorem shr_l0 (c:Int) (q:List Int) (l:List Int) (hL:l.length≤1099511627776) (r:List Int) (next:∀ b:Bool,Ev (fun k=>nat_Shr.l1 k c q b (q.length:Int) 0) (r,b,none)):∀ (d i:Nat) (b:Bool),i+d=l.length →
  Ev (fun k=>nat_Shr.l0 k c q b l (l.length:Int) (i:Int)) (r,b || someNZ (l.drop i),none):=by
 intro d
 induction d with
 | zero =>
  intro i b hi
  obtain rfl:i=l.length:=by omega
  have e:(b || someNZ (l.drop l.length))=b:=by rw [List.drop_length];exact Bool.or_false b
  rw [e]
  refine Ev.step (f:=fun k=>nat_Shr.l1 k c q b (q.length:Int) 0) (fun k=>?_) (next b)
  simp only [nat_Shr.l0]
  rw [if_neg (by omega)]
 | succ d ih =>
  intro i b hi
  have hw:Aside0 (wrap64 ((i:Int)+1)=((i+1:Nat):Int)):=⟨by rw [w64 (by omega) (by omega)];omega⟩
  have hd:l.drop i=l.getD i 0 :: l.drop (i+1):=by rw [List.drop_eq_getElem_cons (by omega),List.getD_eq_getElem?_getD,List.getElem?_eq_getElem (by omega)];rfl
  cases b with
  | true =>
   have key:=ih (i+1) true (by omega)
   rw [Bool.true_or] at key ⊢
   refine Ev.step (f:=fun k=>nat_Shr.l0 k c q true l (l.length:Int) ((i+1:Nat):Int)) (fun k=>?_) key
   simp only [nat_Shr.l0]
   rw [if_pos (by omega),if_pos (by omega),if_pos (by omega),if_pos trivial,hw.out]
  | false =>
   have key:=ih (i+1) (l.getD i 0 != 0) (by omega)
   have e:(false || someNZ (l.drop i))=((l.getD i 0 != 0) || someNZ (l.drop (i+1))):=by rw [hd,someNZ_cons,Bool.false_or]
   rw [e]
   refine Ev.step (f:=fun k=>nat_Shr.l0 k c q (l.getD i 0 != 0) l (l.length:Int) ((i+1:Nat):Int)) (fun k=>?_) key
   simp only [nat_Shr.l0]
   rw [if_pos (by omega),if_pos (by omega),if_pos (by omega),if_neg (by decide),hw.out,rd_nat]
theorem mul_shl {d g P:Int} (hg:0<g):d * g % (P * g)=d % P * g:=by rw [Int.mul_comm d,Int.mul_comm P,Int.mul_comm (d % P)];exact Int.mul_emod_mul_of_pos _ _ hg
theorem two_shl {d:Int} {s:Nat} (hs:s≤63):shl .u64 (IntKind.u64.wrap (d * 2)) (((63 - s:Nat):Nat):Int)=d % pw 2 s * pw 2 (64 - s):=by
 rw [shl_u64 _ (by omega),IntKind.wrap_u64, ← Bdef]
 have e:=emod_mul_add (d * 2) (pw 2 (63 - s)) 0 (b:=B)
 rw [Int.add_zero,Int.add_zero] at e
 rw [e,Int.mul_assoc,show 2 * pw 2 (63 - s)=pw 2 (64 - s) by rw [show 64 - s=63 - s+1 by omega,pw_succ,Int.mul_comm], ← pw2_pq (s:=s) (by omega)]
 exact mul_shl (pw2_pos _)
theorem shr_l1 {M:Int} (hM:0≤M) {c:Nat} (b:Bool) (hL:(enc B M).length≤1099511627776):∀ (d i:Nat) (x:List Int),i+d=(enc B M).length→x.length=(enc B M).length→Dig B x→(∀ j,i≤j→x.getD j 0=M / pw B j % B)→val B (x.take i)=M / pw 2 (c % 64) % pw B i →
  Ev (fun k=>nat_Shr.l1 k (c:Int) x b ((enc B M).length:Int) (i:Int)) (enc B (M / pw 2 (c % 64)),b,none):=by
 have hf:=pw2_pos (c % 64)
 have hfD:pw 2 (c % 64) * pw 2 (64 - c % 64)=B:=pw2_pq (by omega)
 have hg:=pw2_pos (64 - c % 64)
 have hMs:=Int.ediv_nonneg hM (Int.le_of_lt hf)
 intro d
 induction d with
 | zero =>
  intro i x hi hx hd hj hv
  obtain rfl:i=x.length:=by omega
  rw [List.take_length] at hv
  have hlt:M / pw 2 (c % 64)<pw B x.length:=by
   rw [hx]
   refine Int.lt_of_le_of_lt (Int.ediv_le_self _ hM) ?_
   have:=pval_lt Bpos (dig_enc' B1 M)
   rw [val_enc' B1 hM] at this
   exact this
  rw [Int.emod_eq_of_lt hMs hlt] at hv
  refine Ev.step (f:=fun k=>(nat_trim.f k x).bind fun t=>some (t,b,none)) (fun k=>?_) (Ev.bind (by rw [← hv];exact trim_ev hd (by omega)) (Ev.now _))
  simp only [nat_Shr.l1]
  rw [if_neg (by omega)]
 | succ d ih =>
  intro i x hi hx hd hj hv
  have hw1:Aside0 (wrap64 ((i:Int)+1)=((i+1:Nat):Int)):=⟨by rw [w64 (by omega) (by omega)];omega⟩
  have hw2:Aside0 (wrap64 (63 - ((c % 64:Nat):Int))=((63 - c % 64:Nat):Int)):=⟨by rw [w64 (by omega) (by omega)];omega⟩
  have hlt:i<x.length:=by omega
  have hi1:i+1+d=(enc B M).length:=by omega
  have hMi:=div_pw_nonneg Bpos hM i
  have hsd:=shr_digit hf hg hMi
  rw [hfD, ← div_pw_succ Bpos] at hsd
  have hcc:M / pw B i / pw 2 (c % 64)=M / pw 2 (c % 64) / pw B i:=div_div_comm (Int.le_of_lt (pw_pos Bpos i)) (Int.le_of_lt hf)
  rw [hcc] at hsd
  have hdg0:=Int.emod_nonneg (M / pw 2 (c % 64) / pw B i) (show B≠0 by have:=B1;omega)
  have hdg1:=Int.emod_lt_of_pos (M / pw 2 (c % 64) / pw B i) Bpos
  have key:=ih (i+1) (x.set i (M / pw 2 (c % 64) / pw B i % B)) hi1 (by simpa using hx) (hd.set hdg0 hdg1) (fun j hj'=>by rw [getD_set _ _ _ _ (by omega)];exact hj j (by omega)) (by
   rw [pval_take_set B x i _ hlt,hv, ← emod_pw_succ Bpos hMs i,Int.mul_comm (pw B i)];omega)
  have a0:=Int.emod_nonneg (M / pw B i) (show B≠0 by have:=B1;omega)
  have a1:=Int.emod_lt_of_pos (M / pw B i) Bpos
  have q0:0≤M / pw B i % B / pw 2 (c % 64):=Int.ediv_nonneg a0 (Int.le_of_lt hf)
  have q1:M / pw B i % B / pw 2 (c % 64)<pw 2 (64 - c % 64):=Int.ediv_lt_of_lt_mul hf (by rw [Int.mul_comm,hfD];exact a1)
  have q2:M / pw B i % B / pw 2 (c % 64)≤M / pw B i % B:=Int.ediv_le_self _ a0
  by_cases hn:i+1<x.length
  ·have c0:=Int.emod_nonneg (M / pw B (i+1) % B) (show pw 2 (c % 64)≠0 by omega)
   have p0:0≤M / pw B (i+1) % B % pw 2 (c % 64) * pw 2 (64 - c % 64):=Int.mul_nonneg c0 (Int.le_of_lt hg)
   rw [hsd] at key hdg1
   have hor:Go.bits .or .u64 (M / pw B i % B / pw 2 (c % 64)) (M / pw B (i+1) % B % pw 2 (c % 64) * pw 2 (64 - c % 64))=M / pw B i % B / pw 2 (c % 64)+M / pw B (i+1) % B % pw 2 (c % 64) * pw 2 (64 - c % 64):=by
    rw [or_comm' q0 (by omega) p0 (by omega),or_join p0 (Int.mul_emod_left _ _) (by omega) q0 q1 (by omega),Int.add_comm]
   refine Ev.step (f:=fun k=>nat_Shr.l1 k (c:Int) (x.set i (M / pw B i % B / pw 2 (c % 64)+M / pw B (i+1) % B % pw 2 (c % 64) * pw 2 (64 - c % 64))) b ((enc B M).length:Int) ((i+1:Nat):Int)) (fun k=>?_) key
   simp only [nat_Shr.l1]
   rw [tmod64,hw1.out,hw2.out,if_pos (by omega),if_pos (by omega),if_pos (by omega),if_pos (by omega)]
   simp only [Option.bind_some]
   rw [if_pos (by omega),if_pos (by omega),if_pos (by omega),rd_nat,rd_nat,rd_nat,Int.toNat_natCast,getD_set_self _ _ _ hlt,getD_set _ _ _ _ (by omega),hj i (by omega),hj (i+1) (by omega),shr_u64 _ (by omega),two_shl (by omega),hor,List.set_set]
  ·have hz:M / pw B (i+1) % B=0:=by
    have:=hj (i+1) (by omega)
    rw [List.getD_eq_getElem?_getD,List.getElem?_eq_none (by omega)] at this
    exact this.symm
   rw [hz,Int.zero_emod,Int.zero_mul,Int.add_zero] at hsd
   rw [hsd] at key
   refine Ev.step (f:=fun k=>nat_Shr.l1 k (c:Int) (x.set i (M / pw B i % B / pw 2 (c % 64))) b ((enc B M).length:Int) ((i+1:Nat):Int)) (fun k=>?_) key
   simp only [nat_Shr.l1]
   rw [tmod64,hw1.out,hw2.out,if_pos (by omega),if_pos (by omega),if_pos (by omega),if_pos (by omega)]
   simp only [Option.bind_some]
   rw [if_neg (by omega),rd_nat,Int.toNat_natCast,hj i (by omega),shr_u64 _ (by omega)]
theorem val_zero_iff {b:Int} (hb:0<b) {l:List Int} (h:Dig b l):val b l=0 ↔ ∀ x ∈ l,x=0:=by
 induction l with
 | nil=>simp [val_nil]
 | cons x r ih =>
  have h0:=val_nonneg hb h.tail
  have hx:=h.head
  have hm:=Int.mul_nonneg (Int.le_of_lt hb) h0
  rw [val_cons]
  constructor
  ·intro e
   have e1:x=0:=by omega
   have e2:b * val b r=0:=by omega
   have e3:val b r=0:=by rcases Int.mul_eq_zero.1 e2 with z|z <;> omega
   intro y hy
   rcases List.mem_cons.1 hy with h1|h1
   ·rw [h1];exact e1
   ·exact (ih h.tail).1 e3 y h1
  ·intro e
   rw [e x List.mem_cons_self,(ih h.tail).2 (fun y hy=>e y (List.mem_cons_of_mem _ hy)),Int.mul_zero];rfl
theorem val_take_enc {b A:Int} (hb:1<b) (hA:0≤A) (q:Nat):val b ((enc b A).take q)=A % pw b q:=by
 have hd:=dig_enc' hb A
 have h1:val b ((enc b A).take q)=A % pw b q:=by
  have h2:=pval_append b ((enc b A).take q) ((enc b A).drop q)
  rw [List.take_append_drop,val_enc' hb hA,enc_drop hb hA,val_enc' hb (div_pw_nonneg (by omega) hA q)] at h2
  by_cases hq:q≤(enc b A).length
  ·rw [List.length_take,Nat.min_eq_left hq] at h2
   have:=Int.mul_ediv_add_emod A (pw b q)
   omega
  ·rw [List.take_of_length_le (by omega),val_enc' hb hA]
   have h3:=pval_lt (by omega) hd
   rw [val_enc' hb hA] at h3
   exact (Int.emod_eq_of_lt hA (Int.lt_of_lt_of_le h3 (pw_le (by omega) (by omega)))).symm
 exact h1
theorem emod_mul_split {A p q:Int} (hp:0<p) (hq:0<q) (hA:0≤A):A % (p * q)=A / p % q * p+A % p:=by
 have h1:=Int.mul_ediv_add_emod A p
 have h2:=Int.mul_ediv_add_emod (A / p) q
 have h3:=Int.emod_nonneg A (show p≠0 by omega)
 have h4:=Int.emod_lt_of_pos A hp
 have h5:=Int.emod_nonneg (A / p) (show q≠0 by omega)
 have h6:=Int.emod_lt_of_pos (A / p) hq
 have e:A=A / p % q * p+A % p+p * q * (A / p / q):=by
  generalize hs:A / p / q=s at *
  generalize A / p % q=t at *
  generalize hq':A / p=u at *
  generalize A % p=r at *
  rw [← h1, ← h2]
  grind
 have lo:0≤A / p % q * p+A % p:=by have:=Int.mul_nonneg h5 (Int.le_of_lt hp);omega
 have hi:A / p % q * p+A % p<p * q:=by
  have h7:(A / p % q+1) * p≤q * p:=Int.mul_le_mul_of_nonneg_right (by omega) (Int.le_of_lt hp)
  rw [Int.add_mul,Int.one_mul,Int.mul_comm q] at h7
  omega
 have h8:=Int.add_mul_emod_self_left (A / p % q * p+A % p) (p * q) (A / p / q)
 rw [← e,Int.emod_eq_of_lt lo hi] at h8
 exact h8
theorem lost_iff {A:Int} (hA:0≤A) (k:Nat):A % pw 2 k≠0 ↔ A / pw B (k / 64) % pw 2 (k % 64)≠0∨A % pw B (k / 64)≠0:=by
 have hp:=pw_pos Bpos (k / 64)
 have e:=emod_mul_split hp (pw2_pos (k % 64)) hA
 rw [Int.mul_comm, ← pw2_split64] at e
 have h3:=Int.emod_nonneg A (show pw B (k / 64)≠0 by omega)
 have h5:=Int.emod_nonneg (A / pw B (k / 64)) (show pw 2 (k % 64)≠0 by have:=pw2_pos (k % 64);omega)
 have h6:=Int.mul_nonneg h5 (Int.le_of_lt hp)
 rw [e]
 constructor
 ·intro h
  by_cases h7:A % pw B (k / 64)=0
  ·left
   intro h8
   rw [h8,Int.zero_mul] at h
   omega
  ·exact .inr h7
 ·intro h h9
  rcases h with h|h
  ·have h10:A / pw B (k / 64) % pw 2 (k % 64) * pw B (k / 64)=0:=by omega
   rcases Int.mul_eq_zero.1 h10 with z|z <;> omega
  ·omega
theorem nShr_ev {a:List Int} (ha:Dig B a) (hL:a.length≤1099511627775) (k:Nat) (hk:k≤9223372036854775807):Ev (fun n=>nat_Shr.f n a (k:Int)) (enc B (val B a / pw 2 k),decide (val B a % pw 2 k≠0),none):=by
 have hA:=val_nonneg Bpos ha
 have la:=enc_len_le B1 ha
 have hq:Aside0 (wrap64 (Int.tdiv (k:Int) 64)=((k / 64:Nat):Int)):=⟨by rw [tdiv64];exact w64 (by omega) (by omega)⟩
 have hw2:Aside0 (wrap64 (63 - ((k % 64:Nat):Int))=((63 - k % 64:Nat):Int)):=⟨by rw [w64 (by omega) (by omega)];omega⟩
 refine Ev.congr (fun n=>by unfold nat_Shr.f;rw [if_neg (by omega)]) (Ev.bind (trim_ev ha (by omega)) ?_)
 by_cases h:(enc B (val B a)).length≤k / 64
 ·have hlt:val B a<pw 2 k:=by
   have h1:=pval_lt Bpos (dig_enc' B1 (val B a))
   rw [val_enc' B1 hA] at h1
   refine Int.lt_of_lt_of_le h1 ?_
   rw [pwB]
   exact pw_le (by decide) (by omega)
  rw [Int.ediv_eq_zero_of_lt hA hlt,Int.emod_eq_of_lt hA hlt,enc_zero]
  have e:decide (val B a≠0)=decide (((enc B (val B a)).length:Int) > 0):=by
   by_cases h0:val B a=0
   ·rw [h0,enc_zero];simp
   ·have:=(enc_lt B1 hA 0).2 (by rw [div_pw_zero];omega)
    rw [decide_eq_true h0,decide_eq_true (by omega)]
  rw [e]
  exact Ev.congr (f:=fun _=>some ([],decide (((enc B (val B a)).length:Int) > 0),none)) (fun n=>by rw [hq.out,if_pos (by omega)]) (Ev.now _)
 ·have hM:=div_pw_nonneg Bpos hA (k / 64)
  have hdr:=enc_drop B1 hA (k / 64)
  have hlen:(enc B (val B a / pw B (k / 64))).length=(enc B (val B a)).length - k / 64:=by rw [← hdr,List.length_drop]
  have e:val B a / pw B (k / 64) / pw 2 (k % 64)=val B a / pw 2 k:=by
   rw [Int.ediv_ediv_of_nonneg (Int.le_of_lt (pw_pos Bpos _)),pw2_split64 k,Int.mul_comm]
  have key:=shr_l0 (k:Int) (enc B (val B a / pw B (k / 64))) ((enc B (val B a)).take (k / 64)) (by rw [List.length_take];omega) (enc B (val B a / pw 2 k)) (fun b=>by
   have:=shr_l1 hM (c:=k) b (by omega) _ 0 (enc B (val B a / pw B (k / 64))) (Nat.zero_add _) rfl (dig_enc' B1 _) (fun j _=>enc_get B1 hM j) (by rw [List.take_zero,val_nil,pw_zero,Int.emod_one])
   rw [e] at this
   exact this) _ 0 (val B a / pw B (k / 64) % B % pw 2 (k % 64) * pw 2 (64 - k % 64) != 0) (Nat.zero_add _)
  have eb:((val B a / pw B (k / 64) % B % pw 2 (k % 64) * pw 2 (64 - k % 64) != 0) || someNZ (((enc B (val B a)).take (k / 64)).drop 0))=decide (val B a % pw 2 k≠0):=by
   have hmm:val B a / pw B (k / 64) % B % pw 2 (k % 64)=val B a / pw B (k / 64) % pw 2 (k % 64):=Int.emod_emod_of_dvd _ ⟨pw 2 (64 - k % 64),(pw2_pq (by omega)).symm⟩
   have hz:someNZ (((enc B (val B a)).take (k / 64)).drop 0)=true ↔ val B a % pw B (k / 64)≠0:=by
    rw [List.drop_zero, ← val_take_enc B1 hA,Ne,val_zero_iff Bpos ((dig_enc' B1 _).take _),someNZ_iff]
   have hne:val B a / pw B (k / 64) % pw 2 (k % 64) * pw 2 (64 - k % 64)=0 ↔ val B a / pw B (k / 64) % pw 2 (k % 64)=0:=by
    have:=pw2_pos (64 - k % 64)
    rw [Int.mul_eq_zero]
    omega
   have hl:=lost_iff hA k
   rw [hmm]
   by_cases c1:val B a % pw 2 k≠0
   ·rw [decide_eq_true c1]
    rcases hl.1 c1 with c2|c2
    ·rw [bne_iff_ne.2 (fun z=>c2 (hne.1 z)),Bool.true_or]
    ·rw [hz.2 c2,Bool.or_true]
   ·rw [decide_eq_false c1]
    have c2:val B a / pw B (k / 64) % pw 2 (k % 64)=0:=Decidable.byContradiction fun z=>c1 (hl.2 (.inl z))
    have c3:¬ val B a % pw B (k / 64)≠0:=fun z=>c1 (hl.2 (.inr z))
    rw [hne.2 c2,Bool.eq_false_iff.2 (fun z=>c3 (hz.1 z))]
    rfl
  rw [eb] at key
  refine Ev.congr (fun n=>?_) key
  have g0:=enc_get B1 hM 0
  rw [div_pw_zero] at g0
  rw [hq.out,if_neg (by omega),if_pos (by omega),if_pos (by omega),Int.toNat_natCast,hdr,tmod64,hw2.out]
  simp only [Option.bind_some,List.nil_append,List.length_nil]
  rw [if_pos (by omega),if_pos (by omega),if_pos (by omega),show (rd (enc B (val B a / pw B (k / 64))) 0)=val B a / pw B (k / 64) % B from by rw [← g0];exact rd_nat _ 0,two_shl (by omega)]
  rfl
def under (A:Int) (c:Nat):Nat:=bl A - c
theorem nTop_ev {a:List Int} (ha:Dig B a) (hL:a.length≤1073741824) (c:Nat) (h1:1≤c) (h2:c≤64) :
  Ev (fun n=>nat_Top.f n a (c:Int)) (val B a / pw 2 (under (val B a) c) % B,((under (val B a) c:Nat):Int),decide (val B a % pw 2 (under (val B a) c)≠0),none):=by
 have hA:=val_nonneg Bpos ha
 have lA:=pval_lt Bpos ha
 have hb:bl (val B a)≤64 * a.length:=bl_le (by rw [← pwB];exact lA)
 have hmx:Aside0 (mx 0 (wrap64 ((bl (val B a):Int) - (c:Int)))=((under (val B a) c:Nat):Int)):=⟨by
  rw [w64 (by omega) (by omega)]
  unfold mx under
  split <;> omega⟩
 have hu:under (val B a) c≤64 * a.length:=by unfold under;omega
 refine Ev.congr (f:=fun n=>nat_Top.j0 n a (c:Int) false) (fun n=>by unfold nat_Top.f;rw [if_neg (by omega),decide_eq_false (by omega)]) ?_
 have hM:=Int.ediv_nonneg hA (Int.le_of_lt (pw2_pos (under (val B a) c)))
 refine Ev.step (f:=fun n=>(nat_Bits.f n a).bind fun t=>(nat_Shr.f n a (mx 0 (wrap64 (t - (c:Int))))).bind fun u=>if u.2.2.isNone=true then (if (u.1.length:Int)=0 then some (0,0,false,none) else (if 0<(u.1.length:Int) then some (rd u.1 0,mx 0 (wrap64 (t - (c:Int))),u.2.1,none) else none)) else some (0,0,false,some (u.2.2.getD 0))) (fun n=>?_)
  (Ev.bind (nBits_ev ha (by omega)) (Ev.bind (show Ev (fun n=>nat_Shr.f n a (mx 0 (wrap64 ((bl (val B a):Int) - (c:Int))))) (enc B (val B a / pw 2 (under (val B a) c)),decide (val B a % pw 2 (under (val B a) c)≠0),none) by rw [hmx.out];exact nShr_ev ha (by omega) _ (by omega)) ?_))
 ·simp only [nat_Top.j0]
  rw [if_neg (by decide)]
 ·simp only [Option.isNone_none,if_true]
  by_cases hp:0<val B a / pw 2 (under (val B a) c)
  ·have hl:=(enc_lt B1 hM 0).2 (by rw [div_pw_zero];exact hp)
   have g0:=enc_get B1 hM 0
   rw [div_pw_zero] at g0
   refine Ev.congr (f:=fun _=>some _) (fun n=>?_) (Ev.now _)
   rw [if_neg (by omega),if_pos (by omega),hmx.out, ← g0]
   rfl
  ·have hz:val B a / pw 2 (under (val B a) c)=0:=by omega
   have hA0:val B a=0:=by
    rcases Int.lt_or_le 0 (val B a) with hpos|hle
    ·have hbl:=bl_half hpos
     have:=(bl_lt hA (under (val B a) c)).1 (by unfold under;omega)
     omega
    ·omega
   have hu0:under (val B a) c=0:=by unfold under;rw [hA0,bl_zero];omega
   rw [hu0,hA0,pw_zero]
   refine Ev.congr (f:=fun _=>some (0,0,false,none)) (fun n=>?_) (Ev.now _)
   rw [Int.ediv_one,enc_zero,if_pos (by simp)]
end Go.Proofs.Yy.PTx
end
