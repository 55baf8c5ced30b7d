/- Part 24 of what the proof needs. -/
import Derived.Test.YtpfnkbnepcchgaaGreatDoorKTBAW
set_option linter.unusedSimpArgs false
set_option linter.unusedVariables false
section
namespace Go.Proofs.Yy.PTx
open Go.RowKit Go.Proofs.Yw.PrintWords Go.Proofs.Yw.PrintLast Go.Proofs.Yw.PrintMore Go.Proofs.Yy.M Go.Proofs.Yy.TA
theorem bitLen_spec (b:Nat):∀ x:Nat,x<2 ^ b→b≤64→x<2 ^ Lib.bitLen x∧(x≠0→1≤Lib.bitLen x∧2 ^ (Lib.bitLen x - 1)≤x):=by
 induction b with
 | zero =>
  intro x hx _
  have:x=0:=by simpa using hx
  subst this
  exact ⟨by decide,fun h=>absurd rfl h⟩
 | succ b ih =>
  intro x hx hb
  by_cases h0:x=0
  ·subst h0;exact ⟨by decide,fun h=>absurd rfl h⟩
  ·have h64:x<2 ^ 64:=Nat.lt_of_lt_of_le hx (Nat.pow_le_pow_right (by omega) hb)
   have e:=Lib.bitLen_half x h0 h64
   have hh:x / 2<2 ^ b:=by rw [Nat.pow_succ] at hx;omega
   obtain ⟨a1,a2⟩:=ih (x / 2) hh (by omega)
   rw [e,Nat.add_comm 1,Nat.pow_succ]
   refine ⟨by omega,fun _=>⟨by omega,?_⟩⟩
   rw [Nat.add_sub_cancel]
   by_cases h1:x / 2=0
   ·rw [h1];show 2 ^ 0≤x;omega
   ·obtain ⟨a3,a4⟩:=a2 h1
    obtain ⟨c,hc⟩:∃ c,Lib.bitLen (x / 2)=c+1:=⟨Lib.bitLen (x / 2) - 1,by omega⟩
    rw [hc,Nat.add_sub_cancel] at a4
    rw [hc,Nat.pow_succ];omega
theorem bitLen_eq {x b:Nat} (hb:b≤64) (h1:x<2 ^ b) (h2:b≠0→2 ^ (b - 1)≤x):Lib.bitLen x=b:=by
 obtain ⟨a1,a2⟩:=bitLen_spec b x h1 hb
 by_cases h0:b=0
 ·subst h0
  have:x=0:=by simpa using h1
  subst this;rfl
 ·have h3:=h2 h0
  have hx:x≠0:=by have:=Nat.two_pow_pos (b - 1);omega
  obtain ⟨a3,a4⟩:=a2 hx
  apply Nat.le_antisymm
  ·apply Nat.le_of_not_lt;intro h
   have:2 ^ b≤2 ^ (Lib.bitLen x - 1):=Nat.pow_le_pow_right (by omega) (by omega)
   omega
  ·apply Nat.le_of_not_lt;intro h
   have:2 ^ Lib.bitLen x≤2 ^ (b - 1):=Nat.pow_le_pow_right (by omega) (by omega)
   omega
theorem LZ_ev {x b:Nat} (hb:b≤64) (h1:x<2 ^ b) (h2:b≠0→2 ^ (b - 1)≤x):Ev (fun k=>bits_LeadingZeros64.f k (x:Int)) ((64 - b:Nat):Int):=by
 have hx:x<2 ^ 64:=Nat.lt_of_lt_of_le h1 (Nat.pow_le_pow_right (by omega) hb)
 rw [p64] at hx
 refine ⟨0,fun k _=>?_⟩
 unfold bits_LeadingZeros64.f bits_Len64.f
 rw [if_pos (by omega)]
 simp only [Option.bind_some,Int.toNat_natCast]
 rw [bitLen_eq hb h1 h2,tw64 (by omega) (by omega)]
 congr 1;omega
theorem xor_nat (x:Nat) (h:x<2 ^ 64):Go.bits .xor .u64 18446744073709551615 (x:Int)=((2 ^ 64 - 1 - x:Nat):Int):=by
 rw [p64] at h
 have e:=bits_xor_u64_nat 18446744073709551615 x (by omega) h
 have e2:((18446744073709551615:Nat):Int)=18446744073709551615:=rfl
 rw [e2] at e
 rw [e]
 congr 1
 have h3:=BitVec.toNat_not (x:=BitVec.ofNat 64 x)
 have h4:(BitVec.allOnes 64 ^^^ BitVec.ofNat 64 x) = ~~~(BitVec.ofNat 64 x):=by rw [BitVec.xor_comm,BitVec.xor_allOnes]
 have h5:(BitVec.allOnes 64 ^^^ BitVec.ofNat 64 x).toNat=18446744073709551615 ^^^ x:=by
  rw [BitVec.toNat_xor,BitVec.toNat_ofNat,Nat.mod_eq_of_lt (by rw [p64];exact h)];rfl
 rw [← h5,h4,h3,BitVec.toNat_ofNat,Nat.mod_eq_of_lt (by rw [p64];exact h)]
theorem run_noughts {n p m:Nat} (hn:8≤n) (hn2:n≤64) (hp:p<2 ^ 64) (hm:m=p % 2 ^ (n - 1)) (h0:m≠0) (h1:m<2 ^ (n - 2)) :
  ∃ r,1≤r∧r+2≤n∧m / 2 ^ (n - 2 - r)=1∧Ev (fun k=>lead_Run.f k (p:Int) ((n:Int) - 1)) (false,(r:Int),none):=by
 obtain ⟨a1,a2⟩:=bitLen_spec (n - 2) m h1 (by omega)
 obtain ⟨a3,a4⟩:=a2 h0
 obtain ⟨b,hb⟩:∃ b,Lib.bitLen m=b:=⟨_,rfl⟩
 rw [hb] at a1 a3 a4
 have hbn:b≤n - 2:=by
  apply Nat.le_of_not_lt;intro h
  have:2 ^ (n - 2)≤2 ^ (b - 1):=Nat.pow_le_pow_right (by omega) (by omega)
  omega
 have ex:p * 2 ^ (65 - n) % 2 ^ 64=m * 2 ^ (65 - n):=by
  rw [hm,show (2:Nat) ^ 64=2 ^ (n - 1) * 2 ^ (65 - n) by rw [← Nat.pow_add];congr 1;omega,Nat.mul_mod_mul_right]
 have hx1:m * 2 ^ (65 - n)<2 ^ (b+(65 - n)):=by rw [Nat.pow_add];exact Nat.mul_lt_mul_of_pos_right a1 (Nat.two_pow_pos _)
 have hx2:2 ^ (b+(65 - n) - 1)≤m * 2 ^ (65 - n):=by
  rw [show b+(65 - n) - 1=(b - 1)+(65 - n) by omega,Nat.pow_add];exact Nat.mul_le_mul_right _ a4
 have hx3:m * 2 ^ (65 - n)<2 ^ 63:=Nat.lt_of_lt_of_le hx1 (Nat.pow_le_pow_right (by omega) (by omega))
 refine ⟨n - 1 - b,by omega,by omega,?_,?_⟩
 ·rw [show n - 2 - (n - 1 - b)=b - 1 by omega]
  apply Nat.le_antisymm
  ·apply Nat.le_of_lt_succ
   rw [Nat.div_lt_iff_lt_mul (Nat.two_pow_pos _)]
   obtain ⟨c,rfl⟩:∃ c,b=c+1:=⟨b - 1,by omega⟩
   rw [Nat.pow_succ] at a1
   show m<2 * 2 ^ (c+1 - 1);rw [Nat.add_sub_cancel];omega
  ·rw [Nat.le_div_iff_mul_le (Nat.two_pow_pos _),Nat.one_mul];exact a4
 ·have hlz:=LZ_ev (x:=m * 2 ^ (65 - n)) (b:=b+(65 - n)) (by omega) hx1 (fun _=>hx2)
  refine Ev.step (f:=fun k=>(bits_LeadingZeros64.f k ((m * 2 ^ (65 - n):Nat):Int)).bind fun t=>some (false,mn t ((n:Int) - 1),(none:Option Int))) (fun k=>?_) (Ev.bind hlz ?_)
  ·unfold lead_Run.f
   rw [if_neg (by omega),decide_eq_false (by omega)]
   simp only [lead_Run.j0]
   rw [if_neg (by decide),tw64 (by omega) (by omega),if_pos (by omega),show (64 - ((n:Int) - 1))=((65 - n:Nat):Int) by omega,shl_nat,ex]
   have h9:((m * 2 ^ (65 - n):Nat):Int) / 9223372036854775808=0:=by
    generalize m * 2 ^ (65 - n)=y at hx3
    omega
   rw [h9,if_neg (by decide)]
   rfl
  ·have:mn ((64 - (b+(65 - n)):Nat):Int) ((n:Int) - 1)=((n - 1 - b:Nat):Int):=by unfold mn;rw [if_neg (by omega)];omega
   rw [this];exact Ev.now _
theorem run_ones {n p m:Nat} (hn:8≤n) (hn2:n≤64) (hp:p<2 ^ 64) (hm:m=p % 2 ^ (n - 1)) (h1:2 ^ (n - 2)≤m) :
  ∃ r,1≤r∧r+1≤n∧(r+1=n→m=2 ^ (n - 1) - 1)∧(r+2≤n→m / 2 ^ (n - 2 - r)=2 ^ (r+1) - 2)∧Ev (fun k=>lead_Run.f k (p:Int) ((n:Int) - 1)) (true,(r:Int),none):=by
 have hml:m<2 ^ (n - 1):=by rw [hm];exact Nat.mod_lt _ (Nat.two_pow_pos _)
 have hpw:2 ^ (n - 1)=2 * 2 ^ (n - 2):=by rw [show n - 1=(n - 2)+1 by omega,Nat.pow_succ];omega
 obtain ⟨q,hq⟩:∃ q,2 ^ (n - 1) - 1 - m=q:=⟨_,rfl⟩
 have hq1:q<2 ^ (n - 2):=by omega
 obtain ⟨a1,a2⟩:=bitLen_spec (n - 2) q hq1 (by omega)
 obtain ⟨b,hb⟩:∃ b,Lib.bitLen q=b:=⟨_,rfl⟩
 rw [hb] at a1 a2
 have hbn:b≤n - 2:=by
  by_cases h:q=0
  ·subst h;rw [← hb];show 0≤n - 2;omega
  ·obtain ⟨a3,a4⟩:=a2 h
   apply Nat.le_of_not_lt;intro h
   have:2 ^ (n - 2)≤2 ^ (b - 1):=Nat.pow_le_pow_right (by omega) (by omega)
   omega
 have ex:p * 2 ^ (65 - n) % 2 ^ 64=m * 2 ^ (65 - n):=by
  rw [hm,show (2:Nat) ^ 64=2 ^ (n - 1) * 2 ^ (65 - n) by rw [← Nat.pow_add];congr 1;omega,Nat.mul_mod_mul_right]
 obtain ⟨K,hK⟩:∃ K,2 ^ (65 - n)=K:=⟨_,rfl⟩
 have hK0:0<K:=by rw [← hK];exact Nat.two_pow_pos _
 have h64:2 ^ (n - 1) * K=2 ^ 64:=by rw [← hK, ← Nat.pow_add];congr 1;omega
 have hmK:m * K<2 ^ 64:=by rw [← h64];exact Nat.mul_lt_mul_of_pos_right hml hK0
 have hmK2:2 ^ 63≤m * K:=by
  have:=Nat.mul_le_mul_right K h1
  rw [← hK, ← Nat.pow_add,show n - 2+(65 - n)=63 by omega] at this
  rw [← hK];exact this
 have hz:2 ^ 64 - 1 - m * K=q * K+(K - 1):=by
  have e:(q+(m+1)) * K=2 ^ 64:=by rw [← h64, ← hq];congr 1;omega
  rw [Nat.add_mul,Nat.add_mul,Nat.one_mul] at e
  omega
 have hzz:Ev (fun k=>bits_LeadingZeros64.f k ((2 ^ 64 - 1 - m * K:Nat):Int)) ((64 - (b+(65 - n)):Nat):Int):=by
  refine LZ_ev (by omega) ?_ ?_
  ·rw [hz,Nat.pow_add,hK]
   have h:(q+1) * K≤2 ^ b * K:=Nat.mul_le_mul_right _ a1
   rw [Nat.add_mul,Nat.one_mul] at h
   omega
  ·intro _
   rw [hz]
   by_cases h:q=0
   ·have hb0:b=0:=by rw [← hb,h];rfl
    subst hb0
    rw [h,Nat.zero_mul,Nat.zero_add,Nat.zero_add]
    obtain ⟨c,hc⟩:∃ c,65 - n=c+1:=⟨64 - n,by omega⟩
    rw [hc,Nat.add_sub_cancel]
    have:K=2 * 2 ^ c:=by rw [← hK,hc,Nat.pow_succ];omega
    have:=Nat.two_pow_pos c
    omega
   ·obtain ⟨a3,a4⟩:=a2 h
    rw [show b+(65 - n) - 1=(b - 1)+(65 - n) by omega,Nat.pow_add,hK]
    exact Nat.le_trans (Nat.mul_le_mul_right _ a4) (Nat.le_add_right _ _)
 refine ⟨n - 1 - b,by omega,by omega,?_,?_,?_⟩
 ·intro h
  have hb0:b=0:=by omega
  by_cases h:q=0
  ·omega
  ·obtain ⟨a3,a4⟩:=a2 h;omega
 ·intro h
  have hq0:q≠0:=by
   intro hq0
   have:b=0:=by rw [← hb,hq0];rfl
   omega
  obtain ⟨a3,a4⟩:=a2 hq0
  rw [show n - 2 - (n - 1 - b)=b - 1 by omega]
  obtain ⟨c,rfl⟩:∃ c,b=c+1:=⟨b - 1,by omega⟩
  rw [Nat.add_sub_cancel] at a4 ⊢
  obtain ⟨J,hJ⟩:∃ J,2 ^ c=J:=⟨_,rfl⟩
  have hJ0:0<J:=by rw [← hJ];exact Nat.two_pow_pos _
  rw [Nat.pow_succ,hJ] at a1
  rw [hJ] at a4 ⊢
  have e1:2 ^ (n - 1)=2 ^ (n - 1 - (c+1)+1) * J:=by rw [← hJ, ← Nat.pow_add];congr 1;omega
  obtain ⟨G,hG⟩:∃ G,2 ^ (n - 1 - (c+1)+1)=G:=⟨_,rfl⟩
  have hG2:2≤G:=by
   rw [← hG]
   have:2 ^ 1≤2 ^ (n - 1 - (c+1)+1):=Nat.pow_le_pow_right (by omega) (by omega)
   simpa using this
  rw [hG] at e1 ⊢
  obtain ⟨g,rfl⟩:∃ g,G=g+2:=⟨G - 2,by omega⟩
  rw [Nat.add_mul] at e1
  have e2:m=J * g+(m - J * g):=by rw [Nat.mul_comm];omega
  rw [e2,Nat.mul_add_div hJ0,Nat.div_eq_of_lt (by rw [Nat.mul_comm];omega)]
  omega
 ·refine Ev.step (f:=fun k=>(bits_LeadingZeros64.f k ((2 ^ 64 - 1 - m * K:Nat):Int)).bind fun t=>some (true,mn t ((n:Int) - 1),(none:Option Int))) (fun k=>?_) (Ev.bind hzz ?_)
  ·unfold lead_Run.f
   rw [if_neg (by omega),decide_eq_false (by omega)]
   simp only [lead_Run.j0]
   rw [if_neg (by decide),tw64 (by omega) (by omega),if_pos (by omega),show (64 - ((n:Int) - 1))=((65 - n:Nat):Int) by omega,shl_nat,ex,hK,xor_nat _ hmK]
   have h9:((m * K:Nat):Int) / 9223372036854775808=1:=by
    generalize m * K=y at hmK hmK2
    omega
   rw [h9,if_pos rfl]
   rfl
  ·have:mn ((64 - (b+(65 - n)):Nat):Int) ((n:Int) - 1)=((n - 1 - b:Nat):Int):=by unfold mn;rw [if_neg (by omega)];omega
   rw [this];exact Ev.now _
theorem Kind_spec {n:Nat} (h:Wd n) (p:Nat) (hp:p<2 ^ 64):shape_Kind.f (n:Int) (p:Int)=some (if p % 2 ^ n=0 then 0 else if p % 2 ^ n=2 ^ (n - 1) then 2 else 1,none):=by
 obtain ⟨h8,h64⟩:=h.bounds
 have hm:2 ^ (n - 1)<2 ^ 64:=Nat.pow_lt_pow_right (by omega) (by omega)
 unfold shape_Kind.f
 rw [Fold_spec h p hp]
 simp only [Option.bind_some,Option.isNone_none,if_true]
 by_cases h0:p % 2 ^ n=0
 ·rw [if_pos (by rw [h0];rfl),if_pos h0]
 ·rw [if_neg (fun e=>h0 (Int.natCast_eq_zero.1 e)),if_neg h0,tw64 (by omega) (by omega),if_pos (by omega),show ((n:Int) - 1)=((n - 1:Nat):Int) by omega]
  have e1:shl .u64 1 ((n - 1:Nat):Int)=((2 ^ (n - 1):Nat):Int):=by
   have:=shl_nat 1 (n - 1)
   rw [Nat.one_mul,Nat.mod_eq_of_lt hm] at this
   exact this
  rw [e1]
  by_cases h1:p % 2 ^ n=2 ^ (n - 1)
  ·rw [if_pos (by rw [h1]),if_pos h1]
  ·rw [if_neg (fun e=>h1 (Int.natCast_inj.1 e)),if_neg h1]
theorem Rank_spec {n:Nat} (h:Wd n) (p:Nat) (hp:p<2 ^ 64):∃ c co,shape_Rank.f (n:Int) (p:Int)=some (c,co)∧(c<0 ↔ 2 ^ (n - 1)≤p % 2 ^ n):=by
 obtain ⟨h8,h64⟩:=h.bounds
 have e1:p * 2 ^ (64 - n) % 2 ^ 64=p % 2 ^ n * 2 ^ (64 - n):=by
  rw [show (2:Nat) ^ 64=2 ^ n * 2 ^ (64 - n) by rw [← Nat.pow_add];congr 1;omega,Nat.mul_mod_mul_right]
 have e2:2 ^ (n - 1) * 2 ^ (64 - n)=2 ^ 63:=by rw [← Nat.pow_add];congr 1;omega
 have hlt:p % 2 ^ n * 2 ^ (64 - n)<2 ^ 64:=by rw [← e1];exact Nat.mod_lt _ (Nat.two_pow_pos _)
 obtain ⟨K,hK⟩:∃ K,2 ^ (64 - n)=K:=⟨_,rfl⟩
 have hK0:0<K:=by rw [← hK];exact Nat.two_pow_pos _
 rw [hK] at e1 e2 hlt
 have hiff:2 ^ 63≤p % 2 ^ n * K ↔ 2 ^ (n - 1)≤p % 2 ^ n:=by
  rw [← e2];exact Nat.mul_le_mul_right_iff hK0
 refine ⟨shr .i64 (wrap64 ((p % 2 ^ n * K:Nat):Int)) ((64 - n:Nat):Int),none,?_,?_⟩
 ·unfold shape_Rank.f
  rw [shape_is_spec h]
  simp only [Option.bind_some,if_true]
  unfold lead_Extend.f
  rw [if_neg (by omega),if_neg (by omega),tw64 (by omega) (by omega),if_pos (by omega),show (64 - (n:Int))=((64 - n:Nat):Int) by omega,shl_nat,hK,e1]
  rfl
 ·unfold shr
  rw [Int.toNat_natCast,show min (64 - n) IntKind.i64.bits=64 - n from Nat.min_eq_left (by show 64 - n≤64;omega)]
  have hP:(0:Int)<2 ^ (64 - n):=Int.pow_pos (by omega)
  rw [Int.ediv_lt_iff_lt_mul hP,Int.zero_mul, ← hiff]
  generalize p % 2 ^ n * K=y at hlt
  unfold wrap64
  omega
theorem Field_spec (q at_ len:Nat) (hq:q<2 ^ 64) (h:at_+len≤64):lead_Field.f (q:Int) (at_:Int) (len:Int)=some (((q / 2 ^ at_ % 2 ^ len:Nat):Int),none):=by
 have hf:lead_field.f (at_:Int) (len:Int)=some true:=by
  unfold lead_field.f
  rw [if_pos (by omega),if_pos (by omega),if_pos (by omega),tw64 (by omega) (by omega),decide_eq_true (by omega)]
 have ho:lead_ones.f (len:Int)=some ((2 ^ len - 1:Nat):Int):=by
  unfold lead_ones.f
  by_cases h64:len=64
  ·subst h64;rw [if_pos (show ((64:Nat):Int)=64 from rfl)];rfl
  ·rw [if_neg (by omega),if_pos (by omega)]
   have h1:=shl_nat 1 len
   have hm:2 ^ len<2 ^ 64:=Nat.pow_lt_pow_right (by omega) (by omega)
   rw [Nat.one_mul,Nat.mod_eq_of_lt hm] at h1
   rw [show shl .u64 1 (len:Int)=((2 ^ len:Nat):Int) from h1,IntKind.wrap_u64]
   have:=Nat.two_pow_pos len
   rw [p64] at hm
   congr 1;omega
 unfold lead_Field.f
 rw [hf]
 simp only [Option.bind_some,if_true]
 rw [if_pos (by omega),ho]
 simp only [Option.bind_some]
 rw [shr_nat _ _ hq,and_nat _ _ (Nat.lt_of_le_of_lt (Nat.div_le_self _ _) hq) (by omega)]
def magQ (n p:Nat):Nat:=if 2 ^ (n - 1)≤p % 2 ^ n then (2 ^ 64 - p) % 2 ^ 64 else p
theorem magQ_mod {n p:Nat} (hn:8≤n) (hn2:n≤64) (hp:p<2 ^ 64) (h1:p % 2 ^ n≠2 ^ (n - 1)):magQ n p % 2 ^ (n - 1)=(if 2 ^ (n - 1)≤p % 2 ^ n then 2 ^ n - p % 2 ^ n else p % 2 ^ n)∧magQ n p<2 ^ 64:=by
 have hpw:2 ^ n=2 * 2 ^ (n - 1):=by rw [show n=(n - 1)+1 by omega,Nat.pow_succ];simp;omega
 have hlt:p % 2 ^ n<2 ^ n:=Nat.mod_lt _ (Nat.two_pow_pos _)
 have hd:(2:Nat) ^ (n - 1) ∣ 2 ^ n:=⟨2,by rw [hpw];omega⟩
 unfold magQ
 by_cases h:2 ^ (n - 1)≤p % 2 ^ n
 ·rw [if_pos h,if_pos h]
  refine ⟨?_,Nat.mod_lt _ (Nat.two_pow_pos _)⟩
  have e:(2:Nat) ^ 64=2 ^ n * 2 ^ (64 - n):=by rw [← Nat.pow_add];congr 1;omega
  have e2:(2 ^ 64 - p) % 2 ^ 64 % 2 ^ n=(2 ^ n - p % 2 ^ n) % 2 ^ n:=by
   rw [Nat.mod_mod_of_dvd _ ⟨2 ^ (64 - n),e⟩]
   have hd2:=Nat.div_add_mod p (2 ^ n)
   have hq:p / 2 ^ n<2 ^ (64 - n):=by rw [Nat.div_lt_iff_lt_mul (Nat.two_pow_pos _),Nat.mul_comm, ← e];exact hp
   have e3:2 ^ 64 - p=2 ^ n * (2 ^ (64 - n) - 1 - p / 2 ^ n)+(2 ^ n - p % 2 ^ n):=by
    obtain ⟨u,hu⟩:∃ u,2 ^ (64 - n)=p / 2 ^ n+1+u:=⟨2 ^ (64 - n) - 1 - p / 2 ^ n,by omega⟩
    have e4:2 ^ 64=2 ^ n * (p / 2 ^ n)+2 ^ n+2 ^ n * u:=by rw [e,hu,Nat.mul_add,Nat.mul_add,Nat.mul_one]
    rw [show 2 ^ (64 - n) - 1 - p / 2 ^ n=u by omega]
    omega
   rw [e3,Nat.mul_add_mod]
  rw [← Nat.mod_mod_of_dvd _ hd,e2,Nat.mod_mod_of_dvd _ hd]
  exact Nat.mod_eq_of_lt (by omega)
 ·rw [if_neg h,if_neg h]
  refine ⟨?_,hp⟩
  rw [← Nat.mod_mod_of_dvd _ hd]
  exact Nat.mod_eq_of_lt (by omega)
theorem Decode_spec {n:Nat} (hw:Wd n) (p:Nat) (hp:p<2 ^ 64) (h0:p % 2 ^ n≠0) (h1:p % 2 ^ n≠2 ^ (n - 1)) :
  ∃ s M,Means n (if 2 ^ (n - 1)≤p % 2 ^ n then 2 ^ n - p % 2 ^ n else p % 2 ^ n) s M∧Ev (fun k=>codec_Decode.f k (n:Int) (p:Int)) (1,decide (2 ^ (n - 1)≤p % 2 ^ n),s,(M:Int),none):=by
 obtain ⟨h8,h64⟩:=hw.bounds
 obtain ⟨hm,hq⟩:=magQ_mod h8 h64 hp h1
 have hpw:2 ^ n=2 * 2 ^ (n - 1):=by rw [show n=(n - 1)+1 by omega,Nat.pow_succ];simp;omega
 have hlt:p % 2 ^ n<2 ^ n:=Nat.mod_lt _ (Nat.two_pow_pos _)
 obtain ⟨m,hmm⟩:∃ m,(if 2 ^ (n - 1)≤p % 2 ^ n then 2 ^ n - p % 2 ^ n else p % 2 ^ n)=m:=⟨_,rfl⟩
 rw [hmm] at hm ⊢
 have hm0:m≠0:=by rw [← hmm];split <;> omega
 have hm1:m<2 ^ (n - 1):=by rw [← hm];exact Nat.mod_lt _ (Nat.two_pow_pos _)
 obtain ⟨c,co,hrank,hsign⟩:=Rank_spec hw p hp
 have hneg:decide (c<0)=decide (2 ^ (n - 1)≤p % 2 ^ n):=decide_eq_decide.2 hsign
 have hQ:(if c<0 then IntKind.u64.wrap (-(p:Int)) else (p:Int))=(magQ n p:Int):=by
  unfold magQ
  by_cases h:c<0
  ·rw [if_pos h,if_pos (hsign.1 h),wrap_neg hp]
  ·rw [if_neg h,if_neg (fun k=>h (hsign.2 k))]
 have hkind:shape_Kind.f (n:Int) (p:Int)=some (1,none):=by rw [Kind_spec hw p hp,if_neg h0,if_neg h1]
 obtain ⟨Q,hQe⟩:∃ Q,magQ n p=Q:=⟨_,rfl⟩
 rw [hQe] at hm hq hQ
 -- the run, and what the parts make
 have key:∀ (ones:Bool) (r:Nat),1≤r→r+1≤n→Ev (fun k=>lead_Run.f k (Q:Int) ((n:Int) - 1)) (ones,(r:Int),none) →
   ∀ (L eb:Nat),L=n - 2 - r→eb=min L 2→Ev (fun k=>codec_Decode.f k (n:Int) (p:Int)) (1,decide (2 ^ (n - 1)≤p % 2 ^ n),4 * (if ones=true then (r:Int) - 1 else -(r:Int))+((m / 2 ^ (L - eb) % 2 ^ eb * 2 ^ (2 - eb):Nat):Int),((2 ^ 63+m % 2 ^ (L - eb) * 2 ^ (63 - (L - eb)):Nat):Int),none):=by
  intro ones r hr1 hr2 hrun L eb hL heb
  have hfb:L - eb+eb≤n - 1:=by omega
  have e1:Q / 2 ^ (L - eb) % 2 ^ eb=m / 2 ^ (L - eb) % 2 ^ eb:=by
   rw [← hm]
   rw [← Nat.mod_mul_right_div_self Q (2 ^ (L - eb)) (2 ^ eb), ← Nat.mod_mul_right_div_self (Q % 2 ^ (n - 1)) (2 ^ (L - eb)) (2 ^ eb), ← Nat.pow_add,Nat.mod_mod_of_dvd _ (Nat.pow_dvd_pow 2 hfb)]
  have e2:Q % 2 ^ (L - eb)=m % 2 ^ (L - eb):=by
   rw [← hm,Nat.mod_mod_of_dvd _ (Nat.pow_dvd_pow 2 (by omega))]
  have f1:=Field_spec Q (L - eb) eb hq (by omega)
  have f2:=Field_spec Q 0 (L - eb) hq (by omega)
  rw [e1] at f1
  rw [Nat.pow_zero,Nat.div_one,e2] at f2
  have hE:m / 2 ^ (L - eb) % 2 ^ eb * 2 ^ (2 - eb)<4:=by
   have h1:=Nat.mod_lt (m / 2 ^ (L - eb)) (Nat.two_pow_pos eb)
   have h2:m / 2 ^ (L - eb) % 2 ^ eb * 2 ^ (2 - eb)<2 ^ eb * 2 ^ (2 - eb):=Nat.mul_lt_mul_of_pos_right h1 (Nat.two_pow_pos _)
   rwa [← Nat.pow_add,show eb+(2 - eb)=2 by omega] at h2
  have hE2:m / 2 ^ (L - eb) % 2 ^ eb<4:=Nat.lt_of_le_of_lt (Nat.le_mul_of_pos_right _ (Nat.two_pow_pos _)) hE
  obtain ⟨E,hEe⟩:∃ E,m / 2 ^ (L - eb) % 2 ^ eb=E:=⟨_,rfl⟩
  obtain ⟨G,hG⟩:∃ G,m % 2 ^ (L - eb)=G:=⟨_,rfl⟩
  rw [hEe] at f1 hE hE2 ⊢
  rw [hG] at f2 ⊢
  have hG2:G<2 ^ (L - eb):=by rw [← hG];exact Nat.mod_lt _ (Nat.two_pow_pos _)
  have hG3:G * 2 ^ (63 - (L - eb))<2 ^ 63:=by
   have:=Nat.mul_lt_mul_of_pos_right (k:=2 ^ (63 - (L - eb))) hG2 (Nat.two_pow_pos _)
   rwa [← Nat.pow_add,show L - eb+(63 - (L - eb))=63 by omega] at this
  have hl:split_left (n:Int) (r:Int)=(L:Int):=by unfold split_left;omega
  have hb:split_eb (L:Int)=(eb:Int):=by unfold split_eb;omega
  refine Ev.congr (f:=fun k=>(lead_Run.f k (Q:Int) ((n:Int) - 1)).bind fun u=>if u=(ones,(r:Int),none) then some (1,decide (2 ^ (n - 1)≤p % 2 ^ n),4 * (if ones=true then (r:Int) - 1 else -(r:Int))+((E * 2 ^ (2 - eb):Nat):Int),((2 ^ 63+G * 2 ^ (63 - (L - eb)):Nat):Int),(none:Option Int)) else codec_Decode.f k (n:Int) (p:Int)) (fun k=>?_) (Ev.bind hrun (by simp only [if_true];exact Ev.now _))
  cases hr:lead_Run.f k (Q:Int) ((n:Int) - 1) with
  | none =>
   unfold codec_Decode.f codec_Split.f
   rw [hkind]
   simp only [Option.bind_some,Option.isNone_none,if_true]
   rw [if_pos (by simp;omega),hrank]
   simp only [Option.bind_some]
   rw [hQ,hr];rfl
  | some u =>
   simp only [Option.bind_some]
   by_cases hu:u=(ones,(r:Int),none)
   ·rw [if_pos hu]
    unfold codec_Decode.f codec_Split.f
    rw [hkind]
    simp only [Option.bind_some,Option.isNone_none,if_true]
    rw [if_pos (by simp;omega),hrank]
    simp only [Option.bind_some]
    rw [hQ,hr,hu]
    simp only [Option.bind_some]
    rw [if_pos ⟨by omega,by omega⟩,hl,hb]
    unfold split_rest
    rw [show ((L:Int) - (eb:Int))=((L - eb:Nat):Int) by omega,f1]
    simp only [Option.bind_some]
    have f2':lead_Field.f (Q:Int) 0 ((L - eb:Nat):Int)=_:=f2
    rw [f2']
    simp only [Option.bind_some]
    rw [if_pos ⟨by omega,by omega⟩]
    simp only [Option.bind_some]
    rw [tw64 (x:=63 - ((L - eb:Nat):Int)) (by omega) (by omega),if_pos (by omega),show (63 - ((L - eb:Nat):Int))=((63 - (L - eb):Nat):Int) by omega,shl_nat,Nat.mod_eq_of_lt (by omega)]
    have o1:=or_nat 1 (G * 2 ^ (63 - (L - eb))) 63 hG3 (by omega)
    rw [Nat.one_mul] at o1
    have o2:Go.bits .or .u64 9223372036854775808 ((G * 2 ^ (63 - (L - eb)):Nat):Int)=_:=o1
    have e9:((2 - (eb:Int)).toNat)=2 - eb:=by omega
    have e10:((E:Int) * 2 ^ (2 - eb))=((E * 2 ^ (2 - eb):Nat):Int):=by rw [Int.natCast_mul,Int.natCast_pow];rfl
    rw [o2,hneg,e9,e10]
    generalize E * 2 ^ (2 - eb)=EE at hE
    cases ones
    ·simp only [Bool.false_eq_true,if_false]
     rw [tw64 (x:=4 * -(r:Int)) (by omega) (by omega),tw64 (by omega) (by omega)]
    ·simp only [if_true]
     rw [tw64 (x:=4 * ((r:Int) - 1)) (by omega) (by omega),tw64 (by omega) (by omega)]
   ·rw [if_neg hu]
 by_cases hlow:m<2 ^ (n - 2)
 ·obtain ⟨r,r1,r2,r3,r4⟩:=run_noughts h8 h64 hq hm.symm hm0 hlow
  have k:=key false r r1 (by omega) r4 (n - 2 - r) (min (n - 2 - r) 2) rfl rfl
  exact ⟨_,_,means_parts (n:=n) (p:=m) (r:=r) (ones:=false) (by omega) h64 r1 r2 r3 rfl rfl,k⟩
 ·obtain ⟨r,r1,r2,r3,r4,r5⟩:=run_ones h8 h64 hq hm.symm (by omega)
  have k:=key true r r1 r2 r5 (n - 2 - r) (min (n - 2 - r) 2) rfl rfl
  by_cases hr:r+1=n
  ·have hmo:=r3 hr
   have e0:n - 2 - r=0:=by omega
   rw [e0] at k
   have k2:Ev (fun k=>codec_Decode.f k (n:Int) (p:Int)) (1,decide (2 ^ (n - 1)≤p % 2 ^ n),top n,((2 ^ 63:Nat):Int),none):=by
    have e1:(4 * (if true=true then (r:Int) - 1 else -(r:Int))+((m / 2 ^ (0 - min 0 2) % 2 ^ (min 0 2) * 2 ^ (2 - min 0 2):Nat):Int))=top n:=by
     have:m / 2 ^ (0 - min 0 2) % 2 ^ (min 0 2)=0:=by rw [show min 0 2=0 from rfl,Nat.pow_zero (2)];exact Nat.mod_one _
     rw [this,Nat.zero_mul,if_pos rfl]
     unfold top;omega
    have e2:2 ^ 63+m % 2 ^ (0 - min 0 2) * 2 ^ (63 - (0 - min 0 2))=2 ^ 63:=by
     have:m % 2 ^ (0 - min 0 2)=0:=by rw [show 0 - min 0 2=0 from rfl,Nat.pow_zero];exact Nat.mod_one _
     rw [this,Nat.zero_mul,Nat.add_zero]
    rw [e1,e2] at k
    exact k
   rw [hmo]
   exact ⟨_,_,means_most (by omega),k2⟩
  ·exact ⟨_,_,means_parts (n:=n) (p:=m) (r:=r) (ones:=true) (by omega) h64 r1 (by omega) (by rw [if_pos rfl];exact r4 (by omega)) rfl rfl,k⟩
theorem Len64_ev {x b:Nat} (hb:b≤64) (h1:x<2 ^ b) (h2:b≠0→2 ^ (b - 1)≤x):Ev (fun k=>bits_Len64.f k (x:Int)) (b:Int):=by
 have hx:x<2 ^ 64:=Nat.lt_of_lt_of_le h1 (Nat.pow_le_pow_right (by omega) hb)
 rw [p64] at hx
 refine ⟨0,fun k _=>?_⟩
 unfold bits_Len64.f
 rw [if_pos (by omega)]
 simp only [Int.toNat_natCast]
 rw [bitLen_eq hb h1 h2]
theorem Len_ev {V b:Nat} (hb1:1≤b) (hb:b≤128) (h1:V<2 ^ b) (h2:2 ^ (b - 1)≤V):Ev (fun k=>twin_Len.f k (hiI V) (loI V)) (b:Int):=by
 by_cases hc:64<b
 ·have e1:2 ^ b=2 ^ (b - 64) * 2 ^ 64:=by rw [← Nat.pow_add];congr 1;omega
  have e2:2 ^ (b - 1)=2 ^ (b - 64 - 1) * 2 ^ 64:=by rw [← Nat.pow_add];congr 1;omega
  have q1:V / 2 ^ 64<2 ^ (b - 64):=by rw [Nat.div_lt_iff_lt_mul (two_pos _), ← e1];exact h1
  have q2:2 ^ (b - 64 - 1)≤V / 2 ^ 64:=by rw [Nat.le_div_iff_mul_le (two_pos _), ← e2];exact h2
  have q3:=two_pos (b - 64 - 1)
  unfold twin_Len.f hiI
  have hp:((V / 2 ^ 64:Nat):Int) > 0:=by omega
  simp only [if_pos hp]
  refine Ev.bind (Len64_ev (by omega) q1 (fun _=>q2)) ?_
  rw [tw64 (by omega) (by omega),show (64:Int)+((b - 64:Nat):Int)=b by omega]
  exact Ev.now _
 ·have hV:V<2 ^ 64:=Nat.lt_of_lt_of_le h1 (Nat.pow_le_pow_right (by omega) (by omega))
  unfold twin_Len.f hiI loI
  rw [Nat.div_eq_of_lt hV,Nat.mod_eq_of_lt hV]
  simp only [show ¬ (((0:Nat):Int) > 0) by decide,if_false]
  refine Ev.bind (Len64_ev (by omega) h1 (fun _=>h2)) (Ev.now _)
theorem nz_hi_lo {V:Nat} (h:V≠0):(hiI V == 0 && (loI V == 0))=false:=by
 unfold hiI loI
 rw [Bool.and_eq_false_iff,beq_eq_false_iff_ne,beq_eq_false_iff_ne]
 omega
theorem Norm_ev {V b:Nat} (hb1:1≤b) (hb:b≤128) (h1:V<2 ^ b) (h2:2 ^ (b - 1)≤V):Ev (fun k=>twin_Norm.f k (hiI V) (loI V)) (hiI (V * 2 ^ (128 - b)),loI (V * 2 ^ (128 - b)),((128 - b:Nat):Int)):=by
 have h0:V≠0:=by have:=two_pos (b - 1);omega
 have hV:V<2 ^ 128:=Nat.lt_of_lt_of_le h1 (Nat.pow_le_pow_right (by omega) hb)
 have hm:V * 2 ^ (128 - b)<2 ^ 128:=by
  have e:(2:Nat) ^ 128=2 ^ b * 2 ^ (128 - b):=by rw [← Nat.pow_add];congr 1;omega
  rw [e]
  exact Nat.mul_lt_mul_of_pos_right h1 (two_pos _)
 unfold twin_Norm.f
 simp only [nz_hi_lo h0,Bool.false_eq_true,if_false]
 refine Ev.bind (Len_ev hb1 hb h1 h2) ?_
 rw [tw64 (by omega) (by omega),show (128:Int) - (b:Int)=((128 - b:Nat):Int) by omega,twin_shl_spec V (128 - b) hV (by omega),Nat.mod_eq_of_lt hm]
 exact Ev.now _
theorem Make_ev {V b:Nat} (hb1:1≤b) (hb:b≤128) (h1:V<2 ^ b) (h2:2 ^ (b - 1)≤V) (neg c:Bool) (hc:c=true→b=128) {x:Int} (hx1 : -1000000≤x) (hx2:x≤1000000) :
  Ev (fun k=>round_Make.f k neg (hiI V) (loI V) x c) (1,neg,x+b - 1,hiI (V * 2 ^ (128 - b)),loI (V * 2 ^ (128 - b)),c,none):=by
 have hj:Ev (fun k=>round_Make.j0 k neg (hiI V) (loI V) x c false) (1,neg,x+b - 1,hiI (V * 2 ^ (128 - b)),loI (V * 2 ^ (128 - b)),c,none):=by
  have hbb:V * 2 ^ (128 - b)≠0:=by
   have a1:=two_pos (b - 1)
   have a2:=two_pos (128 - b)
   exact Nat.mul_ne_zero (by omega) (by omega)
  refine Ev.step (f:=fun k=>(twin_Norm.f k (hiI V) (loI V)).bind fun bt329=>(if (bt329.1 == 0 && (bt329.2.1 == 0))=true then (some (0,false,0,0,0,false,none)) else ((round_held.f (wrap64 ((wrap64 ((mx (-4398046511104) (mn x 4398046511104))+127)) - bt329.2.2))).bind fun t333=>(some (1,neg,t333,bt329.1,bt329.2.1,c,none))))) (fun k=>?_) ?_
  ·simp only [round_Make.j0,Bool.false_eq_true,if_false]
  ·refine Ev.bind (Norm_ev hb1 hb h1 h2) ?_
   simp only [nz_hi_lo hbb,Bool.false_eq_true,if_false]
   have e1:mx (-4398046511104) (mn x 4398046511104)=x:=by unfold mx mn;split <;> split <;> omega
   rw [e1,tw64 (x:=x+127) (by omega) (by omega),tw64 (by omega) (by omega),held_spec (by omega) (by omega)]
   simp only [Option.bind_some]
   rw [show x+127 - ((128 - b:Nat):Int)=x+b - 1 by omega]
   exact Ev.now _
 unfold round_Make.f
 cases c with
 | false=>simpa using hj
 | true =>
  have hbb:=hc rfl
  subst hbb
  have hh:((hiI V / 9223372036854775808) == 0)=false:=by
   rw [beq_eq_false_iff_ne]
   unfold hiI
   have e:(2:Nat) ^ (128 - 1)=9223372036854775808 * 2 ^ 64:=by decide
   rw [e] at h2
   have:9223372036854775808≤V / 2 ^ 64:=(Nat.le_div_iff_mul_le (two_pos _)).2 h2
   omega
  simp only [hh,if_true]
  exact hj
end Go.Proofs.Yy.PTx
end
section
namespace Go.Proofs.Yy.PTx
open Go.RowKit Go.Proofs.Yw.PrintWords Go.Proofs.Yw.PrintLast Go.Proofs.Yw.PrintMore Go.Proofs.Yy.M Go.Proofs.Yy.NM
attribute [local irreducible] add64Lo add64Hi sub64Lo sub64Hi val
theorem w64 {x:Int} (h0 : -9223372036854775808≤x) (h1:x≤9223372036854775807):wrap64 x=x:=by unfold wrap64;omega
theorem u64w {x:Int} (h0:0≤x) (h1:x≤18446744073709551615):IntKind.u64.wrap x=x:=IntWalk.u64_in x ⟨h0,h1⟩
theorem rd_nat (l:List Int) (n:Nat):rd l (n:Int)=l.getD n 0:=by simp [rd]
theorem Bpos:0<B:=by have:=B1;omega
theorem trim_l0 {l:List Int} (h:Dig B l) (hL:l.length≤1099511627776):∀ n:Nat,n≤l.length→Ev (fun k=>nat_trim.l0 k l (n:Int)) (enc B (val B (l.take n))):=by
 intro n
 induction n with
 | zero =>
  intro _
  refine Ev.step (f:=fun _=>some []) (fun k=>?_) (by rw [List.take_zero,val_nil,enc_zero];exact Ev.now _)
  simp only [nat_trim.l0]
  rw [if_neg (by omega),if_pos (by omega),if_pos (by omega)]
  simp
 | succ n ih =>
  intro hn
  have hw:Aside0 (wrap64 (((n+1:Nat):Int) - 1)=(n:Int)):=⟨by rw [w64 (by omega) (by omega)];omega⟩
  have hd:=h.take (n+1)
  have ht:l.take (n+1)=l.take n ++ [l.getD n 0]:=by
   rw [List.take_succ_eq_append_getElem (by omega),List.getD_eq_getElem?_getD,List.getElem?_eq_getElem (by omega)];rfl
  rw [ht] at hd
  have he:=enc_snoc B1 hd
  rw [← ht] at he
  by_cases h0:l.getD n 0=0
  ·rw [if_pos h0] at he
   rw [he]
   refine Ev.step (f:=fun k=>nat_trim.l0 k l (n:Int)) (fun k=>?_) (ih (by omega))
   simp only [nat_trim.l0]
   rw [hw.out,if_pos (by omega),if_pos (by omega),if_pos (by omega),rd_nat,if_pos h0]
  ·rw [if_neg h0] at he
   rw [he]
   refine Ev.step (f:=fun _=>some (l.take (n+1))) (fun k=>?_) (Ev.now _)
   simp only [nat_trim.l0]
   rw [hw.out,if_pos (by omega),if_pos (by omega),if_pos (by omega),rd_nat,if_neg h0,if_pos (by omega),if_pos (by omega)]
   rfl
theorem trim_ev {l:List Int} (h:Dig B l) (hL:l.length≤1099511627776):Ev (fun k=>nat_trim.f k l) (enc B (val B l)):=by
 have:=trim_l0 h hL l.length (Nat.le_refl _)
 rw [List.take_length] at this
 exact this
theorem add64_spec {x y c:Int} (hx:0≤x∧x<B) (hy:0≤y∧y<B) (hc:0≤c) (hc1:c≤1):add64Lo x y c+B * add64Hi x y c=x+y+c∧(0≤add64Lo x y c∧add64Lo x y c<B)∧0≤add64Hi x y c∧add64Hi x y c≤1:=by
 unfold add64Lo add64Hi
 rw [Bdef] at *
 omega
theorem plus_l0 {a b:List Int} (ha:Dig B a) (hb:Dig B b) (hab:b.length≤a.length) (hL:a.length≤1099511627775):∀ (d i:Nat) (x:List Int) (c:Int),i+d=a.length→x.length=a.length+1→0≤c→c≤1→Dig B x →
  val B (x.take i)+pw B i * c=val B (a.take i)+val B (b.take i)→Ev (fun k=>nat_plus.l0 k a b x c a (a.length:Int) (i:Int)) (enc B (val B a+val B b)):=by
 intro d
 induction d with
 | zero =>
  intro i x c hi hx h0 h1 hd hv
  have hs:=set_last x a.length c hx
  have hds:Dig B (x.set a.length c):=hd.set h0 (by rw [Bdef];omega)
  have hval:val B (x.set a.length c)=val B a+val B b:=by
   rw [hs,pval_append,List.length_take,Nat.min_eq_left (by omega)]
   have:i=a.length:=by omega
   subst this
   rw [List.take_length,List.take_of_length_le hab] at hv
   simp only [val,Int.mul_zero,Int.add_zero]
   exact hv
  refine Ev.step (f:=fun k=>(nat_trim.f k (x.set a.length c)).bind fun t=>some t) (fun k=>?_) (Ev.bind (by rw [← hval];exact trim_ev hds (by simp;omega)) (Ev.now _))
  simp only [nat_plus.l0]
  rw [if_neg (by omega),if_pos (by omega),if_pos (by omega)]
  rfl
 | succ d ih =>
  intro i x c hi hx h0 h1 hd hv
  have hw:Aside0 (wrap64 ((i:Int)+1)=((i+1:Nat):Int)):=⟨by rw [w64 (by omega) (by omega)];omega⟩
  have hq:i<x.length:=by omega
  have hq2:i+1+d=a.length:=by omega
  obtain ⟨hs,hlo,hh0,hh1⟩:=add64_spec (ha.get Bpos i) (hb.get Bpos i) h0 h1
  have key:Ev (fun k=>nat_plus.l0 k a b (x.set i (add64Lo (a.getD i 0) (b.getD i 0) c)) (add64Hi (a.getD i 0) (b.getD i 0) c) a (a.length:Int) ((i+1:Nat):Int)) (enc B (val B a+val B b)):=by
   refine ih (i+1) _ _ hq2 (by simpa using hx) hh0 hh1 (hd.set hlo.1 hlo.2) ?_
   rw [pval_take_set B x i _ hq,pval_take_succ B a,pval_take_succ B b,pw_succ]
   exact add_step hs hv
  by_cases hlt:i<b.length
  ·refine Ev.step (f:=fun k=>nat_plus.l0 k a b (x.set i (add64Lo (a.getD i 0) (b.getD i 0) c)) (add64Hi (a.getD i 0) (b.getD i 0) c) a (a.length:Int) ((i+1:Nat):Int)) (fun k=>?_) key
   simp only [nat_plus.l0]
   rw [hw.out,if_pos (by omega),if_pos (by omega),if_pos (by omega),if_pos (by omega),if_pos h1,if_pos (by omega),rd_nat,rd_nat]
   rfl
  ·have hb0:b.getD i 0=0:=by rw [List.getD_eq_getElem?_getD,List.getElem?_eq_none (by omega)];rfl
   rw [hb0] at key
   refine Ev.step (f:=fun k=>nat_plus.l0 k a b (x.set i (add64Lo (a.getD i 0) 0 c)) (add64Hi (a.getD i 0) 0 c) a (a.length:Int) ((i+1:Nat):Int)) (fun k=>?_) key
   simp only [nat_plus.l0]
   rw [hw.out,if_pos (by omega),if_pos (by omega),if_pos (by omega),if_neg (by omega),if_pos h1,if_pos (by omega),rd_nat]
   rfl
theorem plus_j0 {a b:List Int} (ha:Dig B a) (hb:Dig B b) (hab:b.length≤a.length) (hL:a.length≤1099511627775):Ev (fun k=>nat_plus.j0 k a b) (enc B (val B a+val B b)):=by
 have hw:Aside0 (wrap64 ((a.length:Int)+1)=((a.length+1:Nat):Int)):=⟨by rw [w64 (by omega) (by omega)];omega⟩
 refine Ev.step (f:=fun k=>nat_plus.l0 k a b (List.replicate (a.length+1) 0) 0 a (a.length:Int) ((0:Nat):Int)) (fun k=>?_)
  (plus_l0 ha hb hab hL a.length 0 _ 0 (by omega) (by simp) (by omega) (by omega) (Dig.zeros Bpos _) (by simp [val,pw_zero]))
 simp only [nat_plus.j0]
 rw [hw.out,if_pos (by omega),Int.toNat_natCast,if_pos (by omega)]
 rfl
theorem plus_ev {a b:List Int} (ha:Dig B a) (hb:Dig B b) (hL:a.length≤1099511627775) (hM:b.length≤1099511627775):Ev (fun k=>nat_plus.f k a b) (enc B (val B a+val B b)):=by
 by_cases h:a.length<b.length
 ·refine Ev.congr (f:=fun k=>nat_plus.j0 k b a) (fun k=>?_) (by rw [Int.add_comm];exact plus_j0 hb ha (by omega) hM)
  unfold nat_plus.f
  rw [if_pos (by omega)]
 ·refine Ev.congr (f:=fun k=>nat_plus.j0 k a b) (fun k=>?_) (plus_j0 ha hb (by omega) hL)
  unfold nat_plus.f
  rw [if_neg (by omega)]
theorem u64_and32 {x:Int} (h0:0≤x) (h1:x<18446744073709551616):Go.bits .and .u64 x 4294967295=x % 4294967296 :=
 bits_mask .u64 64 (by decide) (fun n a b=>u64w a (by omega)) 32 (by decide) x h0 h1
theorem mul_le_sq {a b m:Int} (ha:0≤a) (hb:0≤b) (h1:a≤m) (h2:b≤m):a * b≤m * m :=
 Int.mul_le_mul h1 h2 hb (by omega)
theorem mul64_alg {p q r s A:Int} (hp:0≤p∧p≤18446744065119617025) (hq:0≤q∧q≤18446744065119617025) (hr:0≤r∧r≤18446744065119617025) (hs:0≤s∧s≤18446744065119617025)
  (hA:A=p * 18446744073709551616+(q+s) * 4294967296+r):p+(q+r / 4294967296) / 4294967296+((q+r / 4294967296) % 4294967296+s) / 4294967296=A / 18446744073709551616:=by
 omega
theorem mul64_spec {a b:Int} (ha:0≤a∧a<B) (hb:0≤b∧b<B):bits_Mul64.f a b=some (a * b / 18446744073709551616,a * b % 18446744073709551616):=by
 rw [Bdef] at *
 unfold bits_Mul64.f
 obtain ⟨x1,hx1⟩:∃ x1,x1=a / 4294967296:=⟨_,rfl⟩
 obtain ⟨x0,hx0⟩:∃ x0,x0=a % 4294967296:=⟨_,rfl⟩
 obtain ⟨y1,hy1⟩:∃ y1,y1=b / 4294967296:=⟨_,rfl⟩
 obtain ⟨y0,hy0⟩:∃ y0,y0=b % 4294967296:=⟨_,rfl⟩
 rw [u64_and32 ha.1 ha.2,u64_and32 hb.1 hb.2, ← hx1, ← hx0, ← hy1, ← hy0]
 have ea:a=x1 * 4294967296+x0:=by omega
 have eb:b=y1 * 4294967296+y0:=by omega
 have x1b:0≤x1∧x1≤4294967295:=by omega
 have x0b:0≤x0∧x0≤4294967295:=by omega
 have y1b:0≤y1∧y1≤4294967295:=by omega
 have y0b:0≤y0∧y0≤4294967295:=by omega
 have hp:0≤x1 * y1∧x1 * y1≤18446744065119617025:=⟨Int.mul_nonneg x1b.1 y1b.1,mul_le_sq x1b.1 y1b.1 x1b.2 y1b.2⟩
 have hq:0≤x1 * y0∧x1 * y0≤18446744065119617025:=⟨Int.mul_nonneg x1b.1 y0b.1,mul_le_sq x1b.1 y0b.1 x1b.2 y0b.2⟩
 have hr:0≤x0 * y0∧x0 * y0≤18446744065119617025:=⟨Int.mul_nonneg x0b.1 y0b.1,mul_le_sq x0b.1 y0b.1 x0b.2 y0b.2⟩
 have hs:0≤x0 * y1∧x0 * y1≤18446744065119617025:=⟨Int.mul_nonneg x0b.1 y1b.1,mul_le_sq x0b.1 y1b.1 x0b.2 y1b.2⟩
 have hA:a * b=x1 * y1 * 18446744073709551616+(x1 * y0+x0 * y1) * 4294967296+x0 * y0:=by rw [ea,eb];grind
 have hM:=mul64_alg hp hq hr hs hA
 generalize a * b=A at *
 generalize x1 * y1=p at *
 generalize x1 * y0=q at *
 generalize x0 * y0=r at *
 generalize x0 * y1=s at *
 clear hx1 hx0 hy1 hy0 ea eb x1b x0b y1b y0b ha hb
 rw [u64w (x:=p) (by omega) (by omega),u64w (x:=q) (by omega) (by omega),u64w (x:=r) (by omega) (by omega),u64w (x:=s) (by omega) (by omega)]
 rw [u64w (x:=q+r / 4294967296) (by omega) (by omega),u64_and32 (x:=q+r / 4294967296) (by omega) (by omega),u64w (x:=(q+r / 4294967296) % 4294967296+s) (by omega) (by omega)]
 rw [u64w (x:=p+(q+r / 4294967296) / 4294967296) (by omega) (by omega),u64w (x:=p+(q+r / 4294967296) / 4294967296+((q+r / 4294967296) % 4294967296+s) / 4294967296) (by omega) (by omega),hM]
 rw [IntKind.wrap_u64]
theorem fused_alg {P x y h l l1 c1 l2 c2:Int} (hP:0≤P∧P≤340282366920938463426481119284349108225) (hx:0≤x∧x<18446744073709551616) (hy:0≤y∧y<18446744073709551616)
  (hh:h=P / 18446744073709551616) (hl:l=P % 18446744073709551616) (h1:l1+18446744073709551616 * c1=l+x) (hc1:0≤c1∧c1≤1) (hl1:0≤l1∧l1<18446744073709551616)
  (h2:l2+18446744073709551616 * c2=l1+y) (hc2:0≤c2∧c2≤1) (hl2:0≤l2∧l2<18446744073709551616):l2+18446744073709551616 * (h+c1+c2)=P+x+y∧0≤h+c1∧h+c1≤18446744073709551615∧0≤h+c1+c2∧h+c1+c2≤18446744073709551615:=by
 omega
theorem fused_spec {v w x y:Int} (hv:0≤v∧v<B) (hw:0≤w∧w<B) (hx:0≤x∧x<B) (hy:0≤y∧y<B) :
  ∃ lo hi,nat_fused.f v w x y=some (lo,hi)∧lo+B * hi=v * w+x+y∧(0≤lo∧lo<B)∧0≤hi∧hi<B:=by
 unfold nat_fused.f
 rw [mul64_spec hv hw]
 have hl:0≤v * w % 18446744073709551616∧v * w % 18446744073709551616<B:=by rw [Bdef];exact ⟨Int.emod_nonneg _ (by decide),Int.emod_lt_of_pos _ (by decide)⟩
 obtain ⟨s1,b1,c1,d1⟩:=add64_spec hl hx (Int.le_refl 0) (by decide)
 obtain ⟨s2,b2,c2,d2⟩:=add64_spec b1 hy (Int.le_refl 0) (by decide)
 have hP:0≤v * w∧v * w≤340282366920938463426481119284349108225:=by
  rw [Bdef] at hv hw
  exact ⟨Int.mul_nonneg hv.1 hw.1,mul_le_sq (m:=18446744073709551615) hv.1 hw.1 (by omega) (by omega)⟩
 refine ⟨_,_,rfl,?_⟩
 dsimp only
 rw [Bdef] at *
 obtain ⟨e1,e2,e3,e4,e5⟩:=fused_alg hP hx hy rfl rfl (by rw [s1];omega) ⟨c1,d1⟩ b1 (by rw [s2];omega) ⟨c2,d2⟩ b2
 rw [u64w e2 e3,u64w e4 e5]
 exact ⟨e1,b2,e4,by omega⟩
theorem times_step {pi pk b v hi lo x y w V A W:Int} (hs:lo+b * hi=v * w+x+y) (hv:V+pi * pk * y=A+pi * v * W):V+pi * pk * (lo - x)+pi * pk * b * hi=A+pi * v * (W+pk * w):=by grind
theorem getD_set (l:List Int) (i j:Nat) (v:Int) (h:i≠j):(l.set i v).getD j 0=l.getD j 0:=by
 simp [List.getD_eq_getElem?_getD,List.getElem?_set_ne h]
theorem times_l1 {a b:List Int} (hb:Dig B b) (hL:a.length+b.length≤1099511627776) (i:Nat) (hi:i<a.length) (v:Int) (hv:0≤v∧v<B) (A:Int) (r:List Int)
  (next:∀ x,x.length=a.length+b.length→Dig B x→(∀ j,i+1+b.length≤j→x.getD j 0=0)→val B x=A+pw B i * v * val B b→Ev (fun k=>nat_times.l0 k b x a (a.length:Int) ((i+1:Nat):Int)) r) :
  ∀ (d k:Nat) (x:List Int) (y:Int),k+d=b.length→x.length=a.length+b.length→Dig B x→0≤y→y<B→(∀ j,i+b.length≤j→x.getD j 0=0) →
   val B x+pw B i * pw B k * y=A+pw B i * v * val B (b.take k) →
   Ev (fun n=>nat_times.l1 n b x (i:Int) v y a (a.length:Int) (i:Int) b (b.length:Int) (k:Int)) r:=by
 intro d
 induction d with
 | zero =>
  intro k x y hk hx hd h0 h1 hz hval
  obtain rfl:k=b.length:=by omega
  rw [List.take_length, ← pw_add] at hval
  have hw:Aside0 (wrap64 ((i:Int)+(b.length:Int))=((i+b.length:Nat):Int)):=⟨by rw [w64 (by omega) (by omega)];omega⟩
  have hw1:Aside0 (wrap64 ((i:Int)+1)=((i+1:Nat):Int)):=⟨by rw [w64 (by omega) (by omega)];omega⟩
  have hlt:i+b.length<x.length:=by omega
  refine Ev.step (f:=fun n=>nat_times.l0 n b (x.set (i+b.length) y) a (a.length:Int) ((i+1:Nat):Int)) (fun n=>?_) (next _ (by simpa using hx) (hd.set h0 h1) (fun j hj=>by rw [getD_set _ _ _ _ (by omega)];exact hz j (by omega)) ?_)
  ·simp only [nat_times.l1]
   rw [hw.out,hw1.out,if_neg (by omega),if_pos (by omega),if_pos (by omega)]
   rfl
  ·rw [pval_set B x _ y hlt,hz _ (by omega),Int.sub_zero]
   exact hval
 | succ d ih =>
  intro k x y hk hx hd h0 h1 hz hval
  have hw:Aside0 (wrap64 ((i:Int)+(k:Int))=((i+k:Nat):Int)):=⟨by rw [w64 (by omega) (by omega)];omega⟩
  have hw1:Aside0 (wrap64 ((k:Int)+1)=((k+1:Nat):Int)):=⟨by rw [w64 (by omega) (by omega)];omega⟩
  have hlt:i+k<x.length:=by omega
  have hk1:k+1+d=b.length:=by omega
  obtain ⟨lo,hi',hf,hs,hlo,hh⟩:=fused_spec hv (hb.get Bpos k) (hd.get Bpos (i+k)) ⟨h0,h1⟩
  refine Ev.step (f:=fun n=>nat_times.l1 n b (x.set (i+k) lo) (i:Int) v hi' a (a.length:Int) (i:Int) b (b.length:Int) ((k+1:Nat):Int)) (fun n=>?_)
   (ih (k+1) _ _ hk1 (by simpa using hx) (hd.set hlo.1 hlo.2) hh.1 hh.2 (fun j hj=>by rw [getD_set _ _ _ _ (by omega)];exact hz j hj) ?_)
  ·simp only [nat_times.l1]
   rw [hw.out,hw1.out,if_pos (by omega),if_pos (by omega),if_pos (by omega),if_pos (by omega),if_pos (by omega),rd_nat,rd_nat,hf]
   simp only [Option.bind_some,Int.toNat_natCast]
  ·rw [pval_set B x _ lo hlt,pval_take_succ B b,pw_succ, ← Int.mul_assoc,pw_add]
   exact times_step hs hval
theorem times_row {pi v V A W:Int} (h:V=A * W+pi * v * W):V=(A+pi * v) * W:=by grind
theorem times_l0 {a b:List Int} (ha:Dig B a) (hb:Dig B b) (hL:a.length+b.length≤1099511627776):∀ (d i:Nat) (x:List Int),i+d=a.length→x.length=a.length+b.length→Dig B x→(∀ j,i+b.length≤j→x.getD j 0=0) →
  val B x=val B (a.take i) * val B b→Ev (fun k=>nat_times.l0 k b x a (a.length:Int) (i:Int)) (enc B (val B a * val B b)):=by
 intro d
 induction d with
 | zero =>
  intro i x hi hx hd _ hval
  obtain rfl:i=a.length:=by omega
  rw [List.take_length] at hval
  refine Ev.step (f:=fun k=>(nat_trim.f k x).bind fun t=>some t) (fun k=>?_) (Ev.bind (by rw [← hval];exact trim_ev hd (by omega)) (Ev.now _))
  simp only [nat_times.l0]
  rw [if_neg (by omega)]
 | succ d ih =>
  intro i x hi hx hd hz hval
  have hv:=ha.get Bpos i
  have hilt:i<a.length:=by omega
  have hi1:i+1+d=a.length:=by omega
  refine Ev.step (f:=fun k=>nat_times.l1 k b x (i:Int) (a.getD i 0) 0 a (a.length:Int) (i:Int) b (b.length:Int) ((0:Nat):Int)) (fun k=>?_)
   (times_l1 hb hL i hilt _ hv (val B (a.take i) * val B b) _ (fun x' hx' hd' hz' hval'=>ih (i+1) x' hi1 hx' hd' hz' ?_) b.length 0 x 0 (by omega) hx hd (by omega) (by omega) hz ?_)
  ·simp only [nat_times.l0]
   rw [if_pos (by omega),if_pos (by omega),if_pos (by omega),rd_nat]
   rfl
  ·rw [pval_take_succ B a]
   exact times_row hval'
  ·rw [List.take_zero,val_nil,hval];simp
theorem times_ev {a b:List Int} (ha:Dig B a) (hb:Dig B b) (hL:a.length+b.length≤1099511627776):Ev (fun k=>nat_times.f k a b) (enc B (val B a * val B b)):=by
 have hw:Aside0 (wrap64 ((a.length:Int)+(b.length:Int))=((a.length+b.length:Nat):Int)):=⟨by rw [w64 (by omega) (by omega)];omega⟩
 refine Ev.congr (f:=fun k=>nat_times.l0 k b (List.replicate (a.length+b.length) 0) a (a.length:Int) ((0:Nat):Int)) (fun k=>?_)
  (times_l0 ha hb hL a.length 0 _ (by omega) (by simp) (Dig.zeros Bpos _) (fun j _=>by simp [List.getD_eq_getElem?_getD,List.getElem?_replicate];split <;> rfl) (by simp [val_zeros,val]))
 unfold nat_times.f
 rw [hw.out,if_pos (by omega),Int.toNat_natCast,if_pos (by omega)]
 rfl
def prodV (l:List (List Int)):Int:=l.foldl (fun p x=>p * val B x) 1
theorem rd_row (l:List (List Int)) (n:Nat):rd_L1 l (n:Int)=l.getD n []:=by simp [rd_L1]
theorem len_of_lt {v:Int} {m:Nat} (h:v<pw B m):(enc B v).length≤m:=penc_len B1 h
theorem Mul_l0 {l:List (List Int)} (hd:∀ x ∈ l,Dig B x) (hL:(l.map List.length).sum+l.length≤1099511627774):∀ (d i:Nat) (v:Int) (s:Nat),i+d=l.length→0≤v→v≤pw B s→s+((l.drop i).map List.length).sum=(l.map List.length).sum →
  Ev (fun k=>nat_Mul.l0 k (enc B v) l (l.length:Int) (i:Int)) (enc B ((l.drop i).foldl (fun p x=>p * val B x) v)):=by
 intro d
 induction d with
 | zero =>
  intro i v s hi h0 h1 hs
  obtain rfl:i=l.length:=by omega
  rw [List.drop_length]
  refine Ev.step (f:=fun _=>some (enc B v)) (fun k=>?_) (Ev.now _)
  simp only [nat_Mul.l0]
  rw [if_neg (by omega)]
 | succ d ih =>
  intro i v s hi h0 h1 hs
  have hilt:i<l.length:=by omega
  have hg:l.getD i []=l[i]:=by simp [List.getD_eq_getElem?_getD,List.getElem?_eq_getElem hilt]
  have hm:l.getD i [] ∈ l:=by rw [hg];exact List.getElem_mem hilt
  have hdi:=hd _ hm
  have hw1:Aside0 (wrap64 ((i:Int)+1)=((i+1:Nat):Int)):=⟨by rw [w64 (by omega) (by omega)];omega⟩
  have hv0:=val_nonneg Bpos hdi
  have hvl:=pval_lt Bpos hdi
  have hi1:i+1+d=l.length:=by omega
  have hds:(l.drop i).foldl (fun p x=>p * val B x) v=(l.drop (i+1)).foldl (fun p x=>p * val B x) (v * val B (l.getD i [])):=by rw [hg,List.drop_eq_getElem_cons hilt];rfl
  have hsum:((l.drop i).map List.length).sum=(l.getD i []).length+((l.drop (i+1)).map List.length).sum:=by rw [hg,List.drop_eq_getElem_cons hilt,List.map_cons,List.sum_cons]
  have hlen:(enc B v).length≤s+1:=by
   refine len_of_lt (Int.lt_of_le_of_lt h1 ?_)
   rw [pw_succ]
   have:=Int.mul_lt_mul_of_pos_left (a:=1) (b:=B) B1 (pw_pos Bpos s)
   omega
  have hli:(enc B (val B (l.getD i []))).length≤(l.getD i []).length:=enc_len_le B1 hdi
  have hv2:v * val B (l.getD i [])≤pw B (s+(l.getD i []).length):=by
   rw [pw_add]
   exact Int.mul_le_mul h1 (Int.le_of_lt hvl) hv0 (Int.le_of_lt (pw_pos Bpos s))
  have key:=ih (i+1) _ (s+(l.getD i []).length) hi1 (Int.mul_nonneg h0 hv0) hv2 (by omega)
  rw [hds]
  refine Ev.step (f:=fun k=>(nat_trim.f k (l.getD i [])).bind fun t=>(nat_times.f k (enc B v) t).bind fun u=>nat_Mul.l0 k u l (l.length:Int) ((i+1:Nat):Int)) (fun k=>?_)
   (Ev.bind (trim_ev hdi (by omega)) (Ev.bind (times_ev (dig_enc' B1 _) (dig_enc' B1 _) (by omega)) ?_))
  ·simp only [nat_Mul.l0]
   rw [hw1.out,if_pos (by omega),if_pos (by omega),if_pos (by omega),rd_row]
  ·rw [val_enc' B1 h0,val_enc' B1 hv0]
   exact key
theorem enc_one:enc B 1 = [1]:=by
 rw [enc_pos B1 (by decide),Int.emod_eq_of_lt (by decide) B1,Int.ediv_eq_zero_of_lt (by decide) B1,enc_zero]
theorem Mul_ev {l:List (List Int)} (hd:∀ x ∈ l,Dig B x) (hL:(l.map List.length).sum+l.length≤1099511627774):Ev (fun k=>nat_Mul.f k l) (enc B (prodV l)):=by
 have:=Mul_l0 hd hL l.length 0 1 0 (by omega) (by omega) (by rw [pw_zero];exact Int.le_refl 1) (by simp)
 rw [enc_one,List.drop_zero] at this
 exact this
theorem pw2_pos (i:Nat):0<pw 2 i:=pw_pos (by decide) i
theorem val_drop (a:List Int) (i:Nat):val B (a.drop i)=a.getD i 0+B * val B (a.drop (i+1)):=by
 by_cases h:i<a.length
 ·rw [List.drop_eq_getElem_cons h,val_cons,List.getD_eq_getElem?_getD,List.getElem?_eq_getElem h];rfl
 ·rw [List.drop_of_length_le (by omega),List.drop_of_length_le (by omega),List.getD_eq_getElem?_getD,List.getElem?_eq_none (by omega),val_nil];simp
theorem emod_mul_add (X p r:Int) {b:Int}:((X % b) * p+r) % b=(X * p+r) % b:=by
 have h:=Int.mul_ediv_add_emod X b
 have e:X * p+r=(X % b) * p+r+b * (X / b * p):=by
  have:X * p=(b * (X / b)+X % b) * p:=by rw [h]
  rw [this,Int.add_mul,Int.mul_assoc];omega
 rw [e,Int.add_mul_emod_self_left]
theorem emod_pw_succ {n b:Int} (hb:0<b) (hn:0≤n) (i:Nat):n / pw b i % b * pw b i+n % pw b i=n % pw b (i+1):=by
 have hp:=pw_pos hb i
 have h1:=Int.mul_ediv_add_emod n (pw b i)
 have h2:=Int.mul_ediv_add_emod (n / pw b i) b
 have h3:=Int.emod_nonneg n (show pw b i≠0 by omega)
 have h4:=Int.emod_lt_of_pos n hp
 have h5:=Int.emod_nonneg (n / pw b i) (show b≠0 by omega)
 have h6:=Int.emod_lt_of_pos (n / pw b i) hb
 have e:n=n / pw b i % b * pw b i+n % pw b i+pw b (i+1) * (n / pw b i / b):=by
  rw [pw_succ]
  generalize pw b i=p at *
  generalize hq:n / p=q at *
  generalize n % p=r at *
  generalize hs:q / b=s at *
  generalize q % b=t at *
  rw [← h1, ← h2]
  grind
 have lo:0≤n / pw b i % b * pw b i+n % pw b i:=by have:=Int.mul_nonneg h5 (Int.le_of_lt hp);omega
 have hi:n / pw b i % b * pw b i+n % pw b i<pw b (i+1):=by
  rw [pw_succ]
  have h7:(n / pw b i % b+1) * pw b i≤b * pw b i:=Int.mul_le_mul_of_nonneg_right (by omega) (Int.le_of_lt hp)
  rw [Int.add_mul,Int.one_mul,Int.mul_comm b] at h7
  omega
 have h8:=Int.add_mul_emod_self_left (n / pw b i % b * pw b i+n % pw b i) (pw b (i+1)) (n / pw b i / b)
 rw [← e,Int.emod_eq_of_lt lo hi] at h8
 exact h8.symm
theorem shr_digit {M f g:Int} (hf:0<f) (hg:0<g) (hM:0≤M):M / f % (f * g)=M % (f * g) / f+M / (f * g) % (f * g) % f * g:=by
 have h1:=Int.mul_ediv_add_emod M (f * g)
 have hb:0<f * g:=Int.mul_pos hf hg
 have h2:=Int.emod_nonneg M (show f * g≠0 by omega)
 have h3:=Int.emod_lt_of_pos M hb
 have h4:M / (f * g) % (f * g) % f=M / (f * g) % f:=Int.emod_emod_of_dvd _ ⟨g,rfl⟩
 rw [h4]
 generalize hq:M / (f * g)=q at *
 generalize hr:M % (f * g)=r at *
 have e1:M=r+f * (g * q):=by rw [← h1, ← Int.mul_assoc];omega
 have e2:M / f=r / f+g * q:=by rw [e1,Int.add_mul_ediv_left _ _ (by omega)]
 have h5:=Int.mul_ediv_add_emod q f
 have h6:=Int.emod_nonneg q (show f≠0 by omega)
 have h7:=Int.emod_lt_of_pos q hf
 have h8:0≤r / f:=Int.ediv_nonneg h2 (by omega)
 have h9:r / f<g:=Int.ediv_lt_of_lt_mul hf (by rw [Int.mul_comm];exact h3)
 have e3:r / f+g * q=(r / f+q % f * g)+f * g * (q / f):=by
  have:g * q=g * (f * (q / f)+q % f):=by rw [h5]
  rw [this];grind
 rw [e2,e3,Int.add_mul_emod_self_left]
 have lo:0≤r / f+q % f * g:=by have:=Int.mul_nonneg h6 (Int.le_of_lt hg);omega
 have hi:r / f+q % f * g<f * g:=by
  have:(q % f+1) * g≤f * g:=Int.mul_le_mul_of_nonneg_right (by omega) (by omega)
  rw [Int.add_mul,Int.one_mul] at this
  omega
 exact Int.emod_eq_of_lt lo hi
theorem div_div_comm {n a b:Int} (ha:0≤a) (hb:0≤b):n / a / b=n / b / a:=by
 rw [Int.ediv_ediv_of_nonneg ha,Int.ediv_ediv_of_nonneg hb,Int.mul_comm]
def cmpI (A C:Int):Int:=if A<C then -1 else if A=C then 0 else 1
theorem lt_of_div_lt {A C p:Int} (hp:0<p) (h:A / p<C / p):A<C:=by
 rcases Int.lt_or_le A C with h1|h1
 ·exact h1
 ·have:=Int.ediv_le_ediv hp h1
  omega
theorem div_digit {A b:Int} (hb:0<b) (i:Nat):A / pw b i=b * (A / pw b (i+1))+A / pw b i % b:=by
 rw [div_pw_succ hb]
 exact (Int.mul_ediv_add_emod _ _).symm
theorem cmpI_lt {A C:Int} (h:A<C):cmpI A C = -1:=by unfold cmpI;rw [if_pos h]
theorem cmpI_gt {A C:Int} (h:C<A):cmpI A C=1:=by unfold cmpI;rw [if_neg (by omega),if_neg (by omega)]
theorem cmpI_eq (A:Int):cmpI A A=0:=by unfold cmpI;rw [if_neg (by omega),if_pos rfl]
theorem cmpI_len {A C b:Int} (hb:1<b) (hA:0≤A) (hC:0≤C) (h:(enc b A).length<(enc b C).length):A<C:=by
 have h1:=(enc_lt hb hC (enc b A).length).1 h
 have h2:¬ 0<A / pw b (enc b A).length:=fun e=>by
  have:=(enc_lt hb hA (enc b A).length).2 e
  omega
 exact lt_of_div_lt (p:=pw b (enc b A).length) (pw_pos (by omega) (enc b A).length) (by omega)
theorem ncmp_l0 {A C:Int} (hA:0≤A) (hC:0≤C) (hl:(enc B A).length=(enc B C).length) (hL:(enc B A).length≤1099511627776):∀ i:Nat,i≤(enc B A).length→A / pw B i=C / pw B i →
  Ev (fun k=>nat_Cmp.l0 k (enc B A) (enc B C) ((i:Int) - 1)) (cmpI A C):=by
 intro i
 induction i with
 | zero =>
  intro _ h
  rw [div_pw_zero,div_pw_zero] at h
  refine Ev.step (f:=fun _=>some 0) (fun k=>?_) (by rw [h,cmpI_eq];exact Ev.now _)
  simp only [nat_Cmp.l0]
  rw [if_neg (by omega)]
 | succ i ih =>
  intro hi h
  have hw:Aside0 (wrap64 ((i:Int) - 1)=(i:Int) - 1):=⟨w64 (by omega) (by omega)⟩
  have e:((i+1:Nat):Int) - 1=(i:Int):=by omega
  have dA:=div_digit (A:=A) Bpos i
  have dC:=div_digit (A:=C) Bpos i
  rw [h] at dA
  by_cases h1:A / pw B i % B=C / pw B i % B
  ·refine Ev.step (f:=fun k=>nat_Cmp.l0 k (enc B A) (enc B C) ((i:Int) - 1)) (fun k=>?_) (ih (by omega) (by rw [dA,dC,h1]))
   simp only [nat_Cmp.l0]
   rw [e,if_pos (by omega),if_pos (by omega),if_pos (by omega),if_pos (by omega),rd_nat,rd_nat,enc_get B1 hA,enc_get B1 hC,if_pos h1,hw.out]
  ·by_cases h2:A / pw B i % B<C / pw B i % B
   ·refine Ev.step (f:=fun _=>some (-1)) (fun k=>?_) (by rw [cmpI_lt (lt_of_div_lt (pw_pos Bpos i) (by omega))];exact Ev.now _)
    simp only [nat_Cmp.l0]
    rw [e,if_pos (by omega),if_pos (by omega),if_pos (by omega),if_pos (by omega),rd_nat,rd_nat,enc_get B1 hA,enc_get B1 hC,if_neg h1,if_pos h2]
   ·refine Ev.step (f:=fun _=>some 1) (fun k=>?_) (by rw [cmpI_gt (lt_of_div_lt (pw_pos Bpos i) (by omega))];exact Ev.now _)
    simp only [nat_Cmp.l0]
    rw [e,if_pos (by omega),if_pos (by omega),if_pos (by omega),if_pos (by omega),rd_nat,rd_nat,enc_get B1 hA,enc_get B1 hC,if_neg h1,if_neg h2]
theorem div_len {A b:Int} (hb:1<b) (hA:0≤A):A / pw b (enc b A).length=0:=by
 have h1:=enc_lt hb hA (enc b A).length
 have h2:=div_pw_nonneg (b:=b) (by omega) hA (enc b A).length
 omega
theorem nCmp_ev {a b:List Int} (ha:Dig B a) (hb:Dig B b) (hL:a.length≤1099511627776) (hM:b.length≤1099511627776):Ev (fun k=>nat_Cmp.f k a b) (cmpI (val B a) (val B b)):=by
 have hA:=val_nonneg Bpos ha
 have hC:=val_nonneg Bpos hb
 have la:=enc_len_le B1 ha
 have lb:=enc_len_le B1 hb
 refine Ev.congr (fun k=>rfl) (Ev.bind (trim_ev ha hL) (Ev.bind (trim_ev hb hM) ?_))
 by_cases h:(enc B (val B a)).length=(enc B (val B b)).length
 ·have:=ncmp_l0 hA hC h (by omega) (enc B (val B a)).length (Nat.le_refl _) (by rw [div_len B1 hA];rw [h,div_len B1 hC])
  refine Ev.congr (fun k=>?_) this
  rw [if_pos (by omega),w64 (by omega) (by omega)]
 ·by_cases h2:(enc B (val B a)).length<(enc B (val B b)).length
  ·rw [cmpI_lt (cmpI_len B1 hA hC h2)]
   exact Ev.congr (f:=fun _=>some (-1)) (fun k=>by rw [if_neg (by omega),if_pos (by omega)]) (Ev.now _)
  ·rw [cmpI_gt (cmpI_len B1 hC hA (by omega))]
   exact Ev.congr (f:=fun _=>some 1) (fun k=>by rw [if_neg (by omega),if_neg (by omega)]) (Ev.now _)
theorem sub64_spec {x y c:Int} (hx:0≤x∧x<B) (hy:0≤y∧y<B) (hc:0≤c) (hc1:c≤1):sub64Lo x y c - B * sub64Hi x y c=x - y - c∧(0≤sub64Lo x y c∧sub64Lo x y c<B)∧0≤sub64Hi x y c∧sub64Hi x y c≤1:=by
 unfold sub64Lo sub64Hi
 rw [Bdef] at *
 split <;> omega
theorem cmpI_neg {A C:Int}:cmpI A C<0 ↔ A<C:=by
 unfold cmpI
 by_cases h:A<C
 ·rw [if_pos h];omega
 ·rw [if_neg h];split <;> omega
end Go.Proofs.Yy.PTx
end
