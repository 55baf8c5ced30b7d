/- Part 10 of what the proof needs. -/
import Derived.Laws.Bits64
import Derived.Laws.Bits64b
import Derived.Lib.Hide
import Derived.Test.YtpfnkbnepcchgaaGreatDoorKTBAI
set_option linter.unusedSimpArgs false
set_option linter.unusedVariables false
section
namespace Go.Proofs.Yy.PTx
open Go.RowKit Go.Proofs.Yw.PrintWords Go.Proofs.Yw.PrintLast Go.Proofs.Yw.PrintMore Go.Proofs.Yy.M Go.Proofs.Yy.TA
theorem tw64 {x:Int} (h0 : -9223372036854775808≤x) (h1:x≤9223372036854775807):wrap64 x=x:=by unfold wrap64;omega
theorem p64:(2:Nat) ^ 64=18446744073709551616:=rfl
theorem p128:(2:Nat) ^ 128=2 ^ 64 * 2 ^ 64:=rfl
theorem shl_nat (x k:Nat):shl .u64 (x:Int) (k:Int)=((x * 2 ^ k % 2 ^ 64:Nat):Int):=by
 unfold shl
 rw [IntKind.wrap_u64,Int.toNat_natCast]
 by_cases h:k≤64
 ·rw [show min k IntKind.u64.bits=k from Nat.min_eq_left h,p64,Int.natCast_emod,Int.natCast_mul,Int.natCast_pow];rfl
 ·rw [show min k IntKind.u64.bits=64 from Nat.min_eq_right (by show 64≤k;omega)]
  have e1:x * 2 ^ k % 2 ^ 64=0:=by
   rw [show k=(k - 64)+64 by omega,Nat.pow_add, ← Nat.mul_assoc,Nat.mul_mod_left]
  rw [e1]
  have:(x:Int) * 2 ^ 64 % 18446744073709551616=0:=by omega
  rw [this];rfl
theorem shr_nat (x k:Nat) (h:x<2 ^ 64):shr .u64 (x:Int) (k:Int)=((x / 2 ^ k:Nat):Int):=by
 unfold shr
 rw [Int.toNat_natCast]
 by_cases h1:k≤64
 ·rw [show min k IntKind.u64.bits=k from Nat.min_eq_left h1,Int.natCast_ediv,Int.natCast_pow];rfl
 ·rw [show min k IntKind.u64.bits=64 from Nat.min_eq_right (by show 64≤k;omega)]
  have e1:x / 2 ^ k=0:=Nat.div_eq_of_lt (Nat.lt_of_lt_of_le h (Nat.pow_le_pow_right (by omega) (by omega)))
  rw [e1]
  rw [p64] at h
  omega
theorem or_nat (a b k:Nat) (hb:b<2 ^ k) (h:a * 2 ^ k+b<2 ^ 64):Go.bits .or .u64 ((a * 2 ^ k:Nat):Int) (b:Int)=((a * 2 ^ k+b:Nat):Int):=by
 rw [p64] at h
 rw [bits_or_u64_nat _ _ (by omega) (by omega)]
 congr 1
 rw [Nat.mul_comm a,Nat.two_pow_add_eq_or_of_lt hb]
theorem or_nat' (a b k:Nat) (hb:b<2 ^ k) (h:a * 2 ^ k+b<2 ^ 64):Go.bits .or .u64 (b:Int) ((a * 2 ^ k:Nat):Int)=((a * 2 ^ k+b:Nat):Int):=by
 rw [p64] at h
 rw [bits_or_u64_nat _ _ (by omega) (by omega),Nat.or_comm]
 congr 1
 rw [Nat.mul_comm a,Nat.two_pow_add_eq_or_of_lt hb]
theorem and_nat (p n:Nat) (hp:p<2 ^ 64) (hn:n≤64):Go.bits .and .u64 (p:Int) ((2 ^ n - 1:Nat):Int)=((p % 2 ^ n:Nat):Int):=by
 have h1:2 ^ n≤2 ^ 64:=Nat.pow_le_pow_right (by omega) hn
 have h0:=Nat.two_pow_pos n
 rw [p64] at h1 hp
 rw [bits_and_u64_nat _ _ (by omega) (by omega),Nat.and_two_pow_sub_one_eq_mod]
def hiI (V:Nat):Int:=((V / 2 ^ 64:Nat):Int)
def loI (V:Nat):Int:=((V % 2 ^ 64:Nat):Int)
theorem half_lt {V:Nat} (h:V<2 ^ 128):V / 2 ^ 64<2 ^ 64∧V % 2 ^ 64<2 ^ 64:=⟨by rw [Nat.div_lt_iff_lt_mul (Nat.two_pow_pos _), ← p128];exact h,Nat.mod_lt _ (Nat.two_pow_pos _)⟩
theorem twin_shl_spec (V k:Nat) (hV:V<2 ^ 128) (hk:k≤128):twin_shl.f (hiI V) (loI V) (k:Int)=some (hiI (V * 2 ^ k % 2 ^ 128),loI (V * 2 ^ k % 2 ^ 128)):=by
 have hd:=Nat.div_add_mod V (2 ^ 64)
 obtain ⟨h,hh⟩:∃ h,V / 2 ^ 64=h:=⟨_,rfl⟩
 obtain ⟨l,hl⟩:∃ l,V % 2 ^ 64=l:=⟨_,rfl⟩
 have hb:=half_lt hV
 rw [hh,hl] at hb hd
 obtain ⟨hb1,hb2⟩:=hb
 have e1:V * 2 ^ k % 2 ^ 128 % 2 ^ 64=l * 2 ^ k % 2 ^ 64:=by
  rw [p128,Nat.mod_mul_right_mod, ← hd,Nat.add_mul,Nat.mul_assoc,Nat.mul_add_mod]
 have e2:V * 2 ^ k % 2 ^ 128 / 2 ^ 64=(h * 2 ^ k+l * 2 ^ k / 2 ^ 64) % 2 ^ 64:=by
  rw [p128,Nat.mod_mul_right_div_self, ← hd,Nat.add_mul,Nat.mul_assoc,Nat.mul_add_div (Nat.two_pow_pos _)]
 unfold twin_shl.f hiI loI
 rw [hh,hl,e1,e2]
 by_cases hc:64≤k
 ·rw [if_pos (by omega),tw64 (by omega) (by omega),if_pos (by omega),show ((k:Int) - 64)=((k - 64:Nat):Int) by omega,shl_nat]
  have a1:l * 2 ^ k=l * 2 ^ (k - 64) * 2 ^ 64:=by rw [Nat.mul_assoc, ← Nat.pow_add];congr 2;omega
  have a2:h * 2 ^ k=h * 2 ^ (k - 64) * 2 ^ 64:=by rw [Nat.mul_assoc, ← Nat.pow_add];congr 2;omega
  rw [a1,a2,Nat.mul_mod_left,Nat.mul_div_cancel _ (Nat.two_pow_pos _),Nat.mul_comm (h * 2 ^ (k - 64)),Nat.mul_add_mod]
  rfl
 ·rw [if_neg (by omega),if_pos (by omega),tw64 (by omega) (by omega),if_pos (by omega),show (64 - (k:Int))=((64 - k:Nat):Int) by omega,shl_nat,shl_nat,shr_nat _ _ hb2]
  have a1:l * 2 ^ k / 2 ^ 64=l / 2 ^ (64 - k):=by
   rw [show (2:Nat) ^ 64=2 ^ (64 - k) * 2 ^ k by rw [← Nat.pow_add];congr 1;omega,Nat.mul_div_mul_right _ _ (Nat.two_pow_pos _)]
  have a2:h * 2 ^ k % 2 ^ 64=h % 2 ^ (64 - k) * 2 ^ k:=by
   rw [show (2:Nat) ^ 64=2 ^ (64 - k) * 2 ^ k by rw [← Nat.pow_add];congr 1;omega,Nat.mul_mod_mul_right]
  have a3:l / 2 ^ (64 - k)<2 ^ k:=by
   rw [Nat.div_lt_iff_lt_mul (Nat.two_pow_pos _), ← Nat.pow_add,show k+(64 - k)=64 by omega];exact hb2
  have a4:h % 2 ^ (64 - k) * 2 ^ k+l / 2 ^ (64 - k)<2 ^ 64:=by
   have:h % 2 ^ (64 - k)<2 ^ (64 - k):=Nat.mod_lt _ (Nat.two_pow_pos _)
   have h3:(h % 2 ^ (64 - k)+1) * 2 ^ k≤2 ^ (64 - k) * 2 ^ k:=Nat.mul_le_mul_right _ this
   rw [← Nat.pow_add,show 64 - k+k=64 by omega,Nat.add_mul] at h3
   omega
  rw [a1,a2,or_nat _ _ _ a3 a4]
  have a5:(h * 2 ^ k+l / 2 ^ (64 - k)) % 2 ^ 64=h % 2 ^ (64 - k) * 2 ^ k+l / 2 ^ (64 - k):=by
   rw [Nat.add_mod,a2,Nat.mod_eq_of_lt (a:=l / 2 ^ (64 - k)) (by omega),Nat.mod_eq_of_lt a4]
  rw [a5]
theorem twin_shr_spec (V k:Nat) (hV:V<2 ^ 128) (hk:k≤128):twin_shr.f (hiI V) (loI V) (k:Int)=some (hiI (V / 2 ^ k),loI (V / 2 ^ k)):=by
 have hd:=Nat.div_add_mod V (2 ^ 64)
 obtain ⟨h,hh⟩:∃ h,V / 2 ^ 64=h:=⟨_,rfl⟩
 obtain ⟨l,hl⟩:∃ l,V % 2 ^ 64=l:=⟨_,rfl⟩
 have hb:=half_lt hV
 have e0:V / 2 ^ k / 2 ^ 64=h / 2 ^ k:=by rw [← hh,Nat.div_div_eq_div_mul,Nat.mul_comm, ← Nat.div_div_eq_div_mul]
 rw [hh,hl] at hb hd
 obtain ⟨hb1,hb2⟩:=hb
 unfold twin_shr.f hiI loI
 rw [hh,hl,e0]
 by_cases hc:64≤k
 ·rw [if_pos (by omega),tw64 (by omega) (by omega),if_pos (by omega),show ((k:Int) - 64)=((k - 64:Nat):Int) by omega,shr_nat _ _ hb1]
  have a1:V / 2 ^ k=h / 2 ^ (k - 64):=by rw [← hh,Nat.div_div_eq_div_mul, ← Nat.pow_add];congr 2;omega
  have a2:h / 2 ^ k=0:=Nat.div_eq_of_lt (Nat.lt_of_lt_of_le hb1 (Nat.pow_le_pow_right (by omega) hc))
  have a3:h / 2 ^ (k - 64)<2 ^ 64:=Nat.lt_of_le_of_lt (Nat.div_le_self _ _) hb1
  rw [a1,a2,Nat.mod_eq_of_lt a3];rfl
 ·rw [if_neg (by omega),if_pos (by omega),tw64 (by omega) (by omega),if_pos (by omega),show (64 - (k:Int))=((64 - k:Nat):Int) by omega,shr_nat _ _ hb1,shr_nat _ _ hb2,shl_nat]
  have a2:h * 2 ^ (64 - k) % 2 ^ 64=h % 2 ^ k * 2 ^ (64 - k):=by
   rw [show (2:Nat) ^ 64=2 ^ k * 2 ^ (64 - k) by rw [← Nat.pow_add];congr 1;omega,Nat.mul_mod_mul_right]
  have a3:l / 2 ^ k<2 ^ (64 - k):=by
   rw [Nat.div_lt_iff_lt_mul (Nat.two_pow_pos _), ← Nat.pow_add,show 64 - k+k=64 by omega];exact hb2
  have a4:h % 2 ^ k * 2 ^ (64 - k)+l / 2 ^ k<2 ^ 64:=by
   have:h % 2 ^ k<2 ^ k:=Nat.mod_lt _ (Nat.two_pow_pos _)
   have h3:(h % 2 ^ k+1) * 2 ^ (64 - k)≤2 ^ k * 2 ^ (64 - k):=Nat.mul_le_mul_right _ this
   rw [← Nat.pow_add,show k+(64 - k)=64 by omega,Nat.add_mul] at h3
   omega
  have a5:V / 2 ^ k % 2 ^ 64=h % 2 ^ k * 2 ^ (64 - k)+l / 2 ^ k:=by
   have b1:V / 2 ^ k=h * 2 ^ (64 - k)+l / 2 ^ k:=by
    rw [← hd,show (2:Nat) ^ 64=2 ^ k * 2 ^ (64 - k) by rw [← Nat.pow_add];congr 1;omega,Nat.mul_assoc,Nat.mul_add_div (Nat.two_pow_pos _),Nat.mul_comm h]
   rw [b1,Nat.add_mod,a2,Nat.mod_eq_of_lt (a:=l / 2 ^ k) (by omega),Nat.mod_eq_of_lt a4]
  rw [a2,or_nat' _ _ _ a3 a4,a5]
theorem hi_lo_inj {V W:Nat}:(hiI V=hiI W∧loI V=loI W) ↔ V=W:=by
 constructor
 ·rintro ⟨h1,h2⟩
  unfold hiI at h1
  unfold loI at h2
  have a:=Nat.div_add_mod V (2 ^ 64)
  have b:=Nat.div_add_mod W (2 ^ 64)
  rw [← a, ← b,Int.ofNat.inj h1,Int.ofNat.inj h2]
 ·rintro rfl;exact ⟨rfl,rfl⟩
theorem twin_Shr_spec (V k:Nat) (hV:V<2 ^ 128) (hk:k≤128):twin_Shr.f (hiI V) (loI V) (k:Int)=some (hiI (V / 2 ^ k),loI (V / 2 ^ k),decide (V % 2 ^ k≠0),none):=by
 have hq:V / 2 ^ k<2 ^ 128:=Nat.lt_of_le_of_lt (Nat.div_le_self _ _) hV
 have hm:mn (k:Int) 128=(k:Int):=by unfold mn;rw [if_neg (by omega)]
 have e:V / 2 ^ k * 2 ^ k % 2 ^ 128=V / 2 ^ k * 2 ^ k:=Nat.mod_eq_of_lt (Nat.lt_of_le_of_lt (Nat.div_mul_le_self _ _) hV)
 unfold twin_Shr.f
 rw [if_neg (by omega),hm,twin_shr_spec V k hV hk]
 simp only [Option.bind_some]
 rw [twin_shl_spec _ _ hq hk,e]
 simp only [Option.bind_some]
 have d:=Nat.div_add_mod V (2 ^ k)
 have hne:(V / 2 ^ k * 2 ^ k=V) ↔ V % 2 ^ k=0:=by rw [Nat.mul_comm];omega
 have h2:(!(hiI (V / 2 ^ k * 2 ^ k) == hiI V) || !(loI (V / 2 ^ k * 2 ^ k) == loI V))=decide (V % 2 ^ k≠0):=by
  rw [← Bool.not_and]
  have:=hi_lo_inj (V:=V / 2 ^ k * 2 ^ k) (W:=V)
  rw [hne] at this
  by_cases hz:V % 2 ^ k=0
  ·rw [hz] at this ⊢
   obtain ⟨a,b⟩:=this.2 rfl
   rw [a,b];simp
  ·rw [Bool.eq_iff_iff]
   simp only [Bool.not_eq_true',Bool.and_eq_false_iff,beq_eq_false_iff_ne,decide_eq_true_eq]
   constructor
   ·intro _;exact hz
   ·intro _
    by_cases a:hiI (V / 2 ^ k * 2 ^ k)=hiI V
    ·right;intro b;exact hz (this.1 ⟨a,b⟩)
    ·left;exact a
 rw [h2]
theorem under_spec (W b m:Nat) (c:Bool) (hW:W<2 ^ 128) (hb:b<2 ^ m) (hm:1≤m) (hm2:m≤64) :
  round_under.f (hiI W) (loI W) (b:Int) (m:Int) c=some (hiI (W / 2 ^ m+b * 2 ^ (128 - m)),loI (W / 2 ^ m+b * 2 ^ (128 - m)),c || decide (W % 2 ^ m≠0)):=by
 have hq:W / 2 ^ m<2 ^ (128 - m):=by
  rw [Nat.div_lt_iff_lt_mul (Nat.two_pow_pos _), ← Nat.pow_add,show 128 - m+m=128 by omega];exact hW
 have e1:b * 2 ^ (128 - m)=b * 2 ^ (64 - m) * 2 ^ 64:=by rw [Nat.mul_assoc, ← Nat.pow_add];congr 2;omega
 have e2:(W / 2 ^ m+b * 2 ^ (128 - m)) % 2 ^ 64=W / 2 ^ m % 2 ^ 64:=by rw [e1,Nat.add_mul_mod_self_right]
 have e3:(W / 2 ^ m+b * 2 ^ (128 - m)) / 2 ^ 64=b * 2 ^ (64 - m)+W / 2 ^ m / 2 ^ 64:=by rw [e1,Nat.add_mul_div_right _ _ (Nat.two_pow_pos _),Nat.add_comm]
 have a3:W / 2 ^ m / 2 ^ 64<2 ^ (64 - m):=by
  rw [Nat.div_lt_iff_lt_mul (Nat.two_pow_pos _), ← Nat.pow_add,show 64 - m+64=128 - m by omega];exact hq
 have a4:b * 2 ^ (64 - m)+W / 2 ^ m / 2 ^ 64<2 ^ 64:=by
  have h3:(b+1) * 2 ^ (64 - m)≤2 ^ m * 2 ^ (64 - m):=Nat.mul_le_mul_right _ hb
  rw [← Nat.pow_add,show m+(64 - m)=64 by omega,Nat.add_mul] at h3
  omega
 have e4:b * 2 ^ (64 - m) % 2 ^ 64=b * 2 ^ (64 - m):=Nat.mod_eq_of_lt (Nat.lt_of_le_of_lt (Nat.le_add_right _ _) a4)
 unfold round_under.f
 rw [twin_Shr_spec W m hW (by omega)]
 simp only [Option.bind_some]
 rw [tw64 (by omega) (by omega),if_pos (by omega),show (64 - (m:Int))=((64 - m:Nat):Int) by omega,shl_nat,e4]
 have e5:Go.bits .or .u64 (hiI (W / 2 ^ m)) ((b * 2 ^ (64 - m):Nat):Int)=hiI (W / 2 ^ m+b * 2 ^ (128 - m)):=by
  unfold hiI;rw [or_nat' _ _ _ a3 a4,e3]
 have e6:loI (W / 2 ^ m)=loI (W / 2 ^ m+b * 2 ^ (128 - m)):=by unfold loI;rw [e2]
 rw [e5,e6]
 cases c <;> simp
end Go.Proofs.Yy.PTx
end
section
set_option maxHeartbeats 8000000
set_option maxRecDepth 100000
namespace Go.Proofs.Yy.PTx
open Go.RowKit Go.Proofs.Yy.Z Go.Proofs.Yw.PrintWords Go.Proofs.Yw.PrintLast Go.Proofs.Yw.PrintMore
open Go.Proofs.Yy.M
attribute [local go_sem] runx_add64 runx_sub64 eql_cc eql_nc neq_cc neq_nc
attribute [local go_sem] max2_int min2_int max_two min_two max_three min_three max_four min_four
def bits_LeadingZeros64.f (k:Nat) (a0:Int):Option (Int):=(bits_Len64.f k a0).bind fun t124=>(some (wrap64 (64 - t124)))
theorem bits_LeadingZeros64.mono:∀ a0 k,LeO (bits_LeadingZeros64.f k a0) (bits_LeadingZeros64.f (k+1) a0):=by
  intro a0 k
  unfold bits_LeadingZeros64.f
  repeat' (with_reducible first|exact bits_Len64.mono _ _|exact zm|exact zv|refine zI ?_ ?_|refine zO ?_ fun _=>?_)
theorem bits_LeadingZeros64.calls (k:Nat) (a0:Int) (r:Int) (w:World) (h:bits_LeadingZeros64.f k a0=some r) :
    Calls Tryz.prog 184 #[.int .u64 a0] w fun e w'=>e = .returned (.int .i64 r)∧Drawn0 w w':=by
 have H:=am h
 unfold bits_LeadingZeros64.f at H
 clear h
 replace H:=zo H
 obtain ⟨t124,A2,H⟩:=H
 obtain rfl:=Option.some.inj H.out
 go_enter Tryz.func184,Tryz.ntmps184
 go_wp2_with (first|((with_reducible refine gate_callee (f:=152) rfl ?_);refine zc (some 4) Tryz.func152 _ (bits_Len64.calls _ _ _ _ A2.out) ?_;rintro e w' ⟨rfl,⟨nd,rfl⟩⟩;refine ⟨_,rfl,?_⟩))
 go_ret
 exact ⟨z1,z4⟩
def lead_Run.j0:Nat→Int→Int→Bool→Option (Bool × Int × Option Int)
  | 0,_,_,_=>none
  | k+1,x0,x1,x13=>if x13=true then (some (false,0,some 1)) else (if 0≤(wrap64 (64 - x1)) then (if ((shl .u64 x0 (wrap64 (64 - x1))) / 9223372036854775808)=1 then ((bits_LeadingZeros64.f k (Go.bits .xor .u64 18446744073709551615 (shl .u64 x0 (wrap64 (64 - x1))))).bind fun t125=>(some ((((shl .u64 x0 (wrap64 (64 - x1))) / 9223372036854775808) == 1),mn t125 x1,none))) else ((bits_LeadingZeros64.f k (shl .u64 x0 (wrap64 (64 - x1)))).bind fun t126=>(some ((((shl .u64 x0 (wrap64 (64 - x1))) / 9223372036854775808) == 1),mn t126 x1,none)))) else (none))
def lead_Run.f (k:Nat) (a0:Int) (a1:Int):Option (Bool × Int × Option Int):=if a1<1 then (lead_Run.j0 k a0 a1 true) else (lead_Run.j0 k a0 a1 (decide (a1 > 64)))
theorem lead_Run.mono_l:∀ k,(∀ y0 y1 y2,LeO (lead_Run.j0 k y0 y1 y2) (lead_Run.j0 (k+1) y0 y1 y2))
  | 0=>fun _ _ _ r h=>by simp [lead_Run.j0] at h
  | k+1=>by
    have ih0:=lead_Run.mono_l k
    · intro y0 y1 y2
      unfold lead_Run.j0
      repeat' (with_reducible first|exact ih0 _ _ _|exact bits_LeadingZeros64.mono _ _|exact zm|exact zv|refine zI ?_ ?_|refine zO ?_ fun _=>?_)
theorem lead_Run.mono:∀ a0 a1 k,LeO (lead_Run.f k a0 a1) (lead_Run.f (k+1) a0 a1):=by
  intro a0 a1 k
  have ih0:=lead_Run.mono_l k
  unfold lead_Run.f
  repeat' (with_reducible first|exact ih0 _ _ _|exact bits_LeadingZeros64.mono _ _|exact zm|exact zv|refine zI ?_ ?_|refine zO ?_ fun _=>?_)
theorem lead_Run.calls (k:Nat) (a0:Int) (a1:Int) (r1:Bool) (r2:Int) (r3:Option Int) (w:World) (h:lead_Run.f k a0 a1=some (r1,r2,r3)) :
    Calls Tryz.prog 143 #[.int .u64 a0, .int .i64 a1] w fun e w'=>e = .returned (.tuple #[.bool r1, .int .i64 r2,errW r3])∧Below w.heap.size w w':=by
 have hu27:=Tryz.underlying27
 have hu64:=Tryz.underlying64
 have HB:=am (Below.refl w.heap.size w)
 have H:=am h
 unfold lead_Run.f at H
 clear h
 go_enter Tryz.func143,Tryz.ntmps143
 go_upto_region 1 with (fail)
 go_cut [13] (fun v13 wc => ∃ (kq:Nat) (x13_2:Bool),v13 = .bool x13_2∧Aside0 (lead_Run.j0 kq a0 a1 x13_2=some (r1,r2,r3))∧Aside0 (kq≤k)∧Aside0 (Below w.heap.size w wc))
 case first =>
  replace H:=zsd H
  rcases H with ⟨c4b0,H⟩|⟨c4b0,H⟩
  (first|rw [c4b0]|(simp only [i64_w,i32_w];rw [c4b0])|rw [c4b1]|skip)
  rotate_left
  (first|rw [c4b0]|(simp only [i64_w,i32_w];rw [c4b0])|rw [c4b1]|skip)
  rotate_left
  all_goals (go_wp2)
  ·go_meet
   case rel=>exact ⟨_,(true),z1,H,⟨z5⟩,⟨zB HB⟩⟩
  go_meet
  case rel=>exact ⟨_,(decide (a1 > 64)),z1,H,⟨z5⟩,⟨zB HB⟩⟩
 case rest =>
  obtain ⟨kq,x13_2,rfl,H,HJ2,HB⟩:=hcut
  obtain _|kj2:=kq
  ·exact zz H rfl
  simp only [lead_Run.j0] at H
  cases x13_2
  replace H:=zb0 H
  generalize hji6:(wrap64 (64 - a1):Int)=ji6 at H
  have hji6w:(IntKind.i64.wrap (64 - a1))=ji6:=(i64_w _).trans hji6
  replace H:=zit H
  obtain ⟨c7b0,c7b1,H⟩:=H
  generalize hji8:(shl .u64 a0 (ji6):Int)=ji8 at H
  have hji8_:(IntKind.u64.wrap (a0 * 2 ^ min (ji6).toNat 64))=ji8:=hji8
  have hji8z:(ji6)≤64→(IntKind.u64.wrap (a0 * 2 ^ (ji6).toNat))=ji8:=shl_small hji8
  replace H:=zsk H
  rcases H with ⟨c9b0,c9b1,H⟩|⟨c9b0,c9b1,c9,H⟩
  replace H:=zo H
  obtain ⟨t125,A10,H⟩:=H
  generalize hji11:(mn t125 a1:Int)=ji11 at H
  (try rw [hji11] at A10)
  have hji11_:(if a1<t125 then a1 else t125)=ji11:=hji11
  obtain ⟨rfl,rfl,rfl⟩:=zJ3 H
  rotate_left
  replace H:=zo H
  obtain ⟨t126,A12,H⟩:=H
  generalize hji13:(mn t126 a1:Int)=ji13 at H
  (try rw [hji13] at A12)
  have hji13_:(if a1<t126 then a1 else t126)=ji13:=hji13
  obtain ⟨rfl,rfl,rfl⟩:=zJ3 H
  rotate_left
  replace H:=zb1 H
  obtain ⟨rfl,rfl,rfl⟩:=zJ3 H
  rotate_left
  all_goals (go_wp2_with (first|((with_reducible refine gate_callee (f:=184) rfl ?_);refine goesL_ (some 27) rfl rfl Tryz.func184 (by kernel_rfl) rfl #[.int .u64 (Go.bits .xor .u64 18446744073709551615 (ji8))] rfl (by (try simp only [List.map_toArray,List.map_cons,List.map_nil]);first|done|(simp only [hji8];rfl)|rfl|(simp only [List.length_drop,List.length_take];rfl)) ?_;(with_reducible refine (bits_LeadingZeros64.calls _ _ _ _ A10.out).mono ?_);rintro e w' ⟨rfl,⟨nd,rfl⟩⟩;refine ⟨_,rfl,?_⟩)|((with_reducible refine gate_callee (f:=184) rfl ?_);refine goesL_ (some 27) rfl rfl Tryz.func184 (by kernel_rfl) rfl #[.int .u64 ji8] rfl (by (try simp only [List.map_toArray,List.map_cons,List.map_nil]);first|done|(simp only [hji8];rfl)|rfl|(simp only [List.length_drop,List.length_take];rfl)) ?_;(with_reducible refine (bits_LeadingZeros64.calls _ _ _ _ A12.out).mono ?_);rintro e w' ⟨rfl,⟨nd,rfl⟩⟩;refine ⟨_,rfl,?_⟩)))
  ·go_ret3
   exact ⟨by first|exact z3|(simp only [← hji6, ← hji8, ← hji11];exact z3)|exact z2,zB HB⟩
  ·go_ret3
   exact ⟨by first|exact z3|(simp only [← hji6, ← hji8, ← hji13];exact z3)|exact z2,zB HB⟩
  go_ret3
  exact ⟨z2,zB HB⟩
def lead_field.f (a0:Int) (a1:Int):Option (Bool):=if a0 ≥ 0 then (if a0≤64 then (if a1 ≥ 0 then (some (decide (a1≤(wrap64 (64 - a0))))) else (some false)) else (some false)) else (some false)
theorem lead_field.calls (a0:Int) (a1:Int) (r:Bool) (w:World) (h:lead_field.f a0 a1=some r) :
    Calls Tryz.prog 185 #[.int .i64 a0, .int .i64 a1] w fun e w'=>e = .returned (.bool r)∧Drawn0 w w':=by
 have H:=am h
 unfold lead_field.f at H
 clear h
 replace H:=zsde H
 rcases H with ⟨c3b0,H⟩|⟨c3b0,H⟩
 replace H:=zsd H
 rcases H with ⟨c4b0,H⟩|⟨c4b0,H⟩
 replace H:=zsde H
 rcases H with ⟨c5b0,H⟩|⟨c5b0,H⟩
 obtain rfl:=Option.some.inj H.out
 rotate_left
 obtain rfl:=Option.some.inj H.out
 rotate_left
 obtain rfl:=Option.some.inj H.out
 rotate_left
 obtain rfl:=Option.some.inj H.out
 rotate_left
 all_goals (go_enter Tryz.func185,Tryz.ntmps185;go_wp2)
 ·go_ret
  exact ⟨z1,z4⟩
 ·go_ret
  exact ⟨z1,z4⟩
 ·go_ret
  exact ⟨z1,z4⟩
 go_ret
 exact ⟨z1,z4⟩
def lead_Field.f (a0:Int) (a1:Int) (a2:Int):Option (Int × Option Int):=(lead_field.f a1 a2).bind fun t127=>(if t127=true then (if 0≤a1 then ((lead_ones.f a2).bind fun t128=>(some (Go.bits .and .u64 (shr .u64 a0 a1) t128,none))) else (none)) else (some (0,some 1)))
theorem lead_Field.calls (a0:Int) (a1:Int) (a2:Int) (r1:Int) (r2:Option Int) (w:World) (h:lead_Field.f a0 a1 a2=some (r1,r2)) :
    Calls Tryz.prog 144 #[.int .u64 a0, .int .i64 a1, .int .i64 a2] w fun e w'=>e = .returned (.tuple #[.int .u64 r1,errW r2])∧Drawn0 w w':=by
 have hu27:=Tryz.underlying27
 have hu64:=Tryz.underlying64
 have H:=am h
 unfold lead_Field.f at H
 clear h
 replace H:=zo H
 obtain ⟨t127,A4,H⟩:=H
 cases t127
 replace H:=zb0 H
 obtain ⟨rfl,rfl⟩:=zJ2 H
 rotate_left
 replace H:=zb1 H
 replace H:=zit H
 obtain ⟨c6b0,c6b1,H⟩:=H
 generalize hji7:(shr .u64 a0 a1:Int)=ji7 at H
 (try rw [hji7] at A4)
 have hji7_:(a0 / 2 ^ min a1.toNat 64)=ji7:=hji7
 have hji7z:a1≤64→(a0 / 2 ^ a1.toNat)=ji7:=shr_small hji7
 replace H:=zo H
 obtain ⟨t128,A8,H⟩:=H
 obtain ⟨rfl,rfl⟩:=zJ2 H
 rotate_left
 all_goals (go_enter Tryz.func144,Tryz.ntmps144;go_wp2_with (first|(go_at_call 185;(with_reducible refine (lead_field.calls _ _ _ _ A4.out).mono ?_);rintro e w' ⟨rfl,⟨nd,rfl⟩⟩;(try first|exact ⟨rfl,_,World.drewN_drewN _ _ _⟩|exact ⟨rfl,_,Eq.trans (World.drewN_drewN _ _ _) (congrArg (World.drewN _) (Nat.add_assoc _ _ _))⟩))|(go_at_call 181;(with_reducible refine (lead_ones.calls _ _ _ A8.out).mono ?_);rintro e w' ⟨rfl,⟨nd,rfl⟩⟩;(try first|exact ⟨rfl,_,World.drewN_drewN _ _ _⟩|exact ⟨rfl,_,Eq.trans (World.drewN_drewN _ _ _) (congrArg (World.drewN _) (Nat.add_assoc _ _ _))⟩))))
 ·repeat (go_quiet (first|(go_at_call 185;(with_reducible refine (lead_field.calls a1 a2 false _ A4.out).mono ?_);rintro e w' ⟨rfl,⟨nd,rfl⟩⟩;(try first|exact ⟨rfl,_,World.drewN_drewN _ _ _⟩|exact ⟨rfl,_,Eq.trans (World.drewN_drewN _ _ _) (congrArg (World.drewN _) (Nat.add_assoc _ _ _))⟩)));try go_wp2_with (first|(go_at_call 185;(with_reducible refine (lead_field.calls a1 a2 false _ A4.out).mono ?_);rintro e w' ⟨rfl,⟨nd,rfl⟩⟩;(try first|exact ⟨rfl,_,World.drewN_drewN _ _ _⟩|exact ⟨rfl,_,Eq.trans (World.drewN_drewN _ _ _) (congrArg (World.drewN _) (Nat.add_assoc _ _ _))⟩))))
  go_ret2
  exact ⟨z1,z4⟩
 repeat (go_quiet (first|(go_at_call 185;(with_reducible refine (lead_field.calls a1 a2 true _ A4.out).mono ?_);rintro e w' ⟨rfl,⟨nd,rfl⟩⟩;(try first|exact ⟨rfl,_,World.drewN_drewN _ _ _⟩|exact ⟨rfl,_,Eq.trans (World.drewN_drewN _ _ _) (congrArg (World.drewN _) (Nat.add_assoc _ _ _))⟩))|(go_at_call 181;(with_reducible refine (lead_ones.calls a2 t128 _ A8.out).mono ?_);rintro e w' ⟨rfl,⟨nd,rfl⟩⟩;(try first|exact ⟨rfl,_,World.drewN_drewN _ _ _⟩|exact ⟨rfl,_,Eq.trans (World.drewN_drewN _ _ _) (congrArg (World.drewN _) (Nat.add_assoc _ _ _))⟩)));try go_wp2_with (first|(go_at_call 185;(with_reducible refine (lead_field.calls a1 a2 true _ A4.out).mono ?_);rintro e w' ⟨rfl,⟨nd,rfl⟩⟩;(try first|exact ⟨rfl,_,World.drewN_drewN _ _ _⟩|exact ⟨rfl,_,Eq.trans (World.drewN_drewN _ _ _) (congrArg (World.drewN _) (Nat.add_assoc _ _ _))⟩))|(go_at_call 181;(with_reducible refine (lead_ones.calls a2 t128 _ A8.out).mono ?_);rintro e w' ⟨rfl,⟨nd,rfl⟩⟩;(try first|exact ⟨rfl,_,World.drewN_drewN _ _ _⟩|exact ⟨rfl,_,Eq.trans (World.drewN_drewN _ _ _) (congrArg (World.drewN _) (Nat.add_assoc _ _ _))⟩))))
 go_ret2
 exact ⟨by first|rfl|(simp;done)|(simp only [← hji7] <;> (first|rfl|simp))|(simp [*];done),z4⟩
end Go.Proofs.Yy.PTx
end
section
namespace Go.Proofs.Yy.PTx
open Go.RowKit Go.Proofs.Yw.PrintWords Go.Proofs.Yw.PrintLast Go.Proofs.Yw.PrintMore Go.Proofs.Yy.M
attribute [local go_sem] max2_int min2_int
def split_rest (q n:Int) (neg ones:Bool) (r left eb:Int):Option (Bool × Bool × Int × Int × Int × Int × Int × Int × Option Int) :=
 (lead_Field.f q (left - eb) eb).bind fun e=>(lead_Field.f q 0 (left - eb)).bind fun g =>
  if 0≤e.1∧e.1≤3 then some (neg,ones,r,(if ones=true then r - 1 else -r),eb,e.1 * 2 ^ (2 - eb).toNat,left - eb,g.1,none) else none
def split_left (n r:Int):Int:=max (n - 1 - r - 1) 0
def split_eb (l:Int):Int:=min l 2
def codec_Split.f (k:Nat) (n p:Int):Option (Bool × Bool × Int × Int × Int × Int × Int × Int × Option Int) :=
 (shape_Kind.f n p).bind fun b=>if b.1=1∧b.2=none∧8≤n∧n≤64 then
  (shape_Rank.f n p).bind fun c=>(lead_Run.f k (if c.1<0 then IntKind.u64.wrap (-p) else p) (n - 1)).bind fun u =>
   if 1≤u.2.1∧u.2.1≤n - 1 then split_rest (if c.1<0 then IntKind.u64.wrap (-p) else p) n (decide (c.1<0)) u.1 u.2.1 (split_left n u.2.1) (split_eb (split_left n u.2.1))
   else none
 else none
theorem codec_Split.mono:∀ a0 a1 k,LeO (codec_Split.f k a0 a1) (codec_Split.f (k+1) a0 a1):=by
 intro a0 a1 k
 unfold codec_Split.f
 refine LeO.bind (LeO.refl _) (fun b=>?_)
 refine LeO.ite ?_ (LeO.refl _)
 refine LeO.bind (LeO.refl _) (fun c=>?_)
 exact LeO.bind (lead_Run.mono _ _ _) (fun u=>LeO.refl _)
theorem size_two (w:World) (o:Obj) (n:Nat):((w.alloc o).drewN n).heap.size=w.heap.size+1:=by simp
theorem blk_new' {W:World} {o:Obj} {g:Nat} (h:W.heap.size=g):(W.alloc o).heap[g]? = some o:=by subst h;exact blk_new W o
set_option maxHeartbeats 4000000 in
set_option maxRecDepth 100000 in
theorem split_walk (k:Nat) (n p:Int) (q:Int) (neg ones:Bool) (r L E:Int) (c:Int) (e g:Int) (eo go_ co ro:Option Int) (w:World)
  (hk:shape_Kind.f n p=some (1,none)) (h8:8≤n) (h64:n≤64) (hc:shape_Rank.f n p=some (c,co)) (hneg:neg=decide (c<0)) (hq:q=if c<0 then IntKind.u64.wrap (-p) else p)
  (hr:lead_Run.f k q (n - 1)=some (ones,r,ro)) (hr1:1≤r) (hr2:r≤n - 1) (hl:max (n - 1 - r - 1) 0=L) (heb:min L 2=E)
  (he:lead_Field.f q (L - E) E=some (e,eo)) (hg:lead_Field.f q 0 (L - E)=some (g,go_)) (he0:0≤e) (he3:e≤3) (R:Int) (hR:R=if ones=true then r - 1 else -r) :
  Calls Tryz.prog 92 #[.int .i64 n, .int .u64 p] w fun e' w'=>e' = .returned (.tuple #[.agg #[.bool neg, .bool ones, .int .i64 r, .int .i64 R, .int .i64 E, .int .i64 (e * 2 ^ (2 - E).toNat), .int .i64 (L - E), .int .u64 g], .nilIface])∧Below w.heap.size w w':=by
 have HRR:=Lib.hid hR
 clear hR
 have hL0:0≤L:=by omega
 have hL1:L≤64:=by omega
 have hE0:0≤E:=by omega
 have hE2:E≤2:=by omega
 have hEL:E≤L:=by omega
 have hkK:∀ W:World,Calls Tryz.prog 91 #[.int .i64 n, .int .u64 p] W fun e' w'=>e' = .returned (.tuple #[.int .i64 1, .nilIface])∧Drawn0 W w':=fun W=>shape_Kind.calls n p 1 none W hk
 have hkC:∀ W:World,Calls Tryz.prog 75 #[.int .i64 n, .int .u64 p] W fun e' w'=>e' = .returned (.tuple #[.int .i64 c,errW co])∧Drawn0 W w':=fun W=>shape_Rank.calls n p c co W hc
 have hkR:∀ W:World,Calls Tryz.prog 143 #[.int .u64 q, .int .i64 (n - 1)] W fun e' w'=>e' = .returned (.tuple #[.bool ones, .int .i64 r,errW ro])∧Below W.heap.size W w':=fun W=>lead_Run.calls k q (n - 1) ones r ro W hr
 have hkE:∀ W:World,Calls Tryz.prog 144 #[.int .u64 q, .int .i64 (L - E), .int .i64 E] W fun e' w'=>e' = .returned (.tuple #[.int .u64 e,errW eo])∧Drawn0 W w':=fun W=>lead_Field.calls q (L - E) E e eo W he
 have hkG:∀ W:World,Calls Tryz.prog 144 #[.int .u64 q, .int .i64 0, .int .i64 (L - E)] W fun e' w'=>e' = .returned (.tuple #[.int .u64 g,errW go_])∧Drawn0 W w':=fun W=>lead_Field.calls q 0 (L - E) g go_ W hg
 generalize errW co=vc at hkC
 generalize errW ro=vr at hkR
 generalize errW eo=ve at hkE
 generalize errW go_=vg at hkG
 have HK:=Lib.hid hkK
 have HC:=Lib.hid hkC
 have HR:=Lib.hid hkR
 have HE:=Lib.hid hkE
 have HG:=Lib.hid hkG
 clear hkK hkC hkR hkE hkG hk hc hr he hg
 go_enter Tryz.func92,Tryz.ntmps92
 go_upto_if 35 with (first|(go_at_call 91;(with_reducible refine (HK.out _).mono ?_);rintro e1 w1 ⟨rfl,hw1⟩;obtain ⟨n1,rfl⟩:=hw1.out)|(go_at_call 75;(with_reducible refine (HC.out _).mono ?_);rintro e2 w2 ⟨rfl,hw2⟩;obtain ⟨n2,rfl⟩:=hw2.out))
 go_cut [1] (fun v1 wc=>v1 = .int .u64 q∧Aside0 (wc.heap[w.heap.size]? = some (.cells #[.bool false, .bool false, .int .i64 0, .int .i64 0, .int .i64 0, .int .i64 0, .int .i64 0, .int .u64 0] 140 (0,0)))∧Aside0 (wc.heap[w.heap.size+1]? = some (.cells #[.bool neg, .bool false, .int .i64 0, .int .i64 0, .int .i64 0, .int .i64 0, .int .i64 0, .int .u64 0] 140 (0,0)))∧Aside0 (Below w.heap.size w wc))
 case first =>
  by_cases hneg0:c<0
  all_goals
   simp only [hneg0,if_true,if_false,decide_true,decide_false] at hq hneg
   subst hq hneg
   go_wp2
   go_meet
   case rel=>exact ⟨rfl,⟨(by apply Eq.trans;(repeat (first|(with_reducible assumption)|(with_reducible exact blk_new _ _)|(with_reducible exact blk_new' (size_two _ _ _))|(with_reducible apply blk_drewN)|(with_reducible apply blk_alloc)|(with_reducible apply blk_set)|(with_reducible apply blk_far (hp:=Nat.ne_of_lt (Nat.lt_succ_self _)))|(with_reducible apply blk_far (hp:=Nat.ne_of_gt (Nat.lt_succ_self _)))));rfl)⟩,⟨(by apply Eq.trans;(repeat (first|(with_reducible assumption)|(with_reducible exact blk_new _ _)|(with_reducible exact blk_new' (size_two _ _ _))|(with_reducible apply blk_drewN)|(with_reducible apply blk_alloc)|(with_reducible apply blk_set)|(with_reducible apply blk_far (hp:=Nat.ne_of_lt (Nat.lt_succ_self _)))|(with_reducible apply blk_far (hp:=Nat.ne_of_gt (Nat.lt_succ_self _)))));rfl)⟩,⟨(by repeat (first|(with_reducible assumption)|(with_reducible exact Below.refl _ _)|(with_reducible apply below_alloc)|(with_reducible apply pw_below_drewN)|(with_reducible refine below_set ?_ (by first|exact Nat.le_refl _|exact Nat.le_succ _))))⟩⟩
 case rest =>
  obtain ⟨rfl,K1,K2,HB⟩:=hcut
  rename_i wc
  clear HK HC hneg hq
  have hc0:∀ i,wc.cell? ⟨w.heap.size+1,i,none⟩=(_:Array Value)[i]?:=blk_cell K2.out
  have hf0:∀ i,wc.frozen? ⟨w.heap.size+1,i,none⟩=false:=blk_frozen K2.out
  go_upto_if 55 with (go_at_call 143;(with_reducible refine (HR.out _).mono ?_);rintro e3 w3 ⟨rfl,hb3⟩;have k1:=blk_below K1.out hb3;have k2:=blk_below K2.out hb3;have hb:=below_step HB.out hb3;clear hc0 hf0 hb3;have hc0:∀ i,w3.cell? ⟨w.heap.size+1,i,none⟩=(_:Array Value)[i]?:=blk_cell k2;have hf0:∀ i,w3.frozen? ⟨w.heap.size+1,i,none⟩=false:=blk_frozen k2;have K1:=am k1;have K2:=am k2;have HB:=am hb;clear k1 k2 hb)
  go_cut [] (fun wc=>Aside0 (wc.heap[w.heap.size]? = some (.cells #[.bool false, .bool false, .int .i64 0, .int .i64 0, .int .i64 0, .int .i64 0, .int .i64 0, .int .u64 0] 140 (0,0)))∧Aside0 (wc.heap[w.heap.size+1]? = some (.cells #[.bool neg, .bool ones, .int .i64 r, .int .i64 R, .int .i64 0, .int .i64 0, .int .i64 0, .int .u64 0] 140 (0,0)))∧Aside0 (Below w.heap.size w wc))
  case first =>
   cases ones
   all_goals
    obtain rfl:=HRR.out
    go_wp2
    go_meet
    case rel=>exact ⟨⟨(by apply Eq.trans;(repeat (first|(with_reducible exact K1.out)|(with_reducible exact K2.out)|(with_reducible apply blk_drewN)|(with_reducible apply blk_set)|(with_reducible apply blk_far (hp:=Nat.ne_of_lt (Nat.lt_succ_self _)))|(with_reducible apply blk_far (hp:=Nat.ne_of_gt (Nat.lt_succ_self _)))));rfl)⟩,⟨(by apply Eq.trans;(repeat (first|(with_reducible exact K1.out)|(with_reducible exact K2.out)|(with_reducible apply blk_drewN)|(with_reducible apply blk_set)|(with_reducible apply blk_far (hp:=Nat.ne_of_lt (Nat.lt_succ_self _)))|(with_reducible apply blk_far (hp:=Nat.ne_of_gt (Nat.lt_succ_self _)))));rfl)⟩,⟨(by repeat (first|(with_reducible exact HB.out)|(with_reducible apply pw_below_drewN)|(with_reducible refine below_set ?_ (by first|exact Nat.le_refl _|exact Nat.le_succ _))))⟩⟩
  case rest =>
  clear hc0 hf0 K1 K2 HB
  obtain ⟨K1,K2,HB⟩:=hcut
  rename_i wc
  have hc0:∀ i,wc.cell? ⟨w.heap.size+1,i,none⟩=(_:Array Value)[i]?:=blk_cell K2.out
  have hf0:∀ i,wc.frozen? ⟨w.heap.size+1,i,none⟩=false:=blk_frozen K2.out
  go_upto_region 18 with (go_at_call 144;(with_reducible refine (HE.out _).mono ?_);rintro e4 w4 ⟨rfl,hw4⟩;obtain ⟨n4,rfl⟩:=hw4.out)
  go_cut [] (fun wc=>Aside0 (wc.heap[w.heap.size]? = some (.cells #[.bool false, .bool false, .int .i64 0, .int .i64 0, .int .i64 0, .int .i64 0, .int .i64 0, .int .u64 0] 140 (0,0)))∧Aside0 (wc.heap[w.heap.size+1]? = some (.cells #[.bool neg, .bool ones, .int .i64 r, .int .i64 R, .int .i64 E, .int .i64 (e * 2 ^ (2 - E).toNat), .int .i64 0, .int .u64 0] 140 (0,0)))∧Aside0 (Below w.heap.size w wc))
  case first =>
   obtain rfl|rfl|rfl:E=0∨E=1∨E=2:=by omega
   all_goals
    go_wp2
    go_meet
    case rel=>exact ⟨⟨(by apply Eq.trans;(repeat (first|(with_reducible exact K1.out)|(with_reducible exact K2.out)|(with_reducible apply blk_drewN)|(with_reducible apply blk_set)|(with_reducible apply blk_far (hp:=Nat.ne_of_lt (Nat.lt_succ_self _)))|(with_reducible apply blk_far (hp:=Nat.ne_of_gt (Nat.lt_succ_self _)))));first|rfl|simp)⟩,⟨(by apply Eq.trans;(repeat (first|(with_reducible exact K1.out)|(with_reducible exact K2.out)|(with_reducible apply blk_drewN)|(with_reducible apply blk_set)|(with_reducible apply blk_far (hp:=Nat.ne_of_lt (Nat.lt_succ_self _)))|(with_reducible apply blk_far (hp:=Nat.ne_of_gt (Nat.lt_succ_self _)))));first|rfl|simp)⟩,⟨(by repeat (first|(with_reducible exact HB.out)|(with_reducible apply pw_below_drewN)|(with_reducible refine below_set ?_ (by first|exact Nat.le_refl _|exact Nat.le_succ _))))⟩⟩
  case rest =>
  clear hc0 hf0 K1 K2 HB
  obtain ⟨K1,K2,HB⟩:=hcut
  rename_i wc
  have hc0:∀ i,wc.cell? ⟨w.heap.size+1,i,none⟩=(_:Array Value)[i]?:=blk_cell K2.out
  have hf0:∀ i,wc.frozen? ⟨w.heap.size+1,i,none⟩=false:=blk_frozen K2.out
  have hg1:∀ i,wc.cell? ⟨w.heap.size,i,none⟩=(_:Array Value)[i]?:=blk_cell K1.out
  have hg2:∀ i,wc.frozen? ⟨w.heap.size,i,none⟩=false:=blk_frozen K1.out
  go_wp2_with (go_at_call 144;(with_reducible refine (HG.out _).mono ?_);rintro e4 w4 ⟨rfl,hw4⟩;obtain ⟨n4,rfl⟩:=hw4.out)
  refine bodyPost_ret (results_ct rfl _ _ w.heap.size 140 #[.bool _, .bool _, .int .i64 _, .int .i64 _, .int .i64 _, .int .i64 _, .int .i64 _, .int .u64 _] (0,0) _ rfl ?blk Tryz.underlying140 rfl (by kernel_rfl)) rfl ⟨rfl,?_⟩
  case blk=>exact (by apply Eq.trans;(repeat (first|(with_reducible exact K1.out)|(with_reducible exact K2.out)|(with_reducible apply blk_drewN)|(with_reducible apply blk_set)|(with_reducible apply blk_far (hp:=Nat.ne_of_lt (Nat.lt_succ_self _)))|(with_reducible apply blk_far (hp:=Nat.ne_of_gt (Nat.lt_succ_self _)))));rfl)
  exact (by repeat (first|(with_reducible exact HB.out)|(with_reducible apply pw_below_drewN)|(with_reducible refine below_set ?_ (by first|exact Nat.le_refl _|exact Nat.le_succ _))))
theorem codec_Split.calls (k:Nat) (a0:Int) (a1:Int) (r1:Bool) (r2:Bool) (r3:Int) (r4:Int) (r5:Int) (r6:Int) (r7:Int) (r8:Int) (r9:Option Int) (w:World) (h:codec_Split.f k a0 a1=some (r1,r2,r3,r4,r5,r6,r7,r8,r9)) :
  Calls Tryz.prog 92 #[.int .i64 a0, .int .u64 a1] w fun e w'=>e = .returned (.tuple #[.agg #[.bool r1, .bool r2, .int .i64 r3, .int .i64 r4, .int .i64 r5, .int .i64 r6, .int .i64 r7, .int .u64 r8],errW r9])∧Below w.heap.size w w':=by
 unfold codec_Split.f at h
 obtain ⟨⟨b1,b2⟩,hb,h⟩:=Option.bind_eq_some_iff.mp h
 by_cases hc:b1=1∧b2=none∧8≤a0∧a0≤64
 case neg=>rw [if_neg hc] at h;exact absurd h (by simp)
 rw [if_pos hc] at h
 obtain ⟨rfl,rfl,h8,h64⟩:=hc
 obtain ⟨⟨c1,c2⟩,hk,h⟩:=Option.bind_eq_some_iff.mp h
 obtain ⟨⟨u1,u2,u3⟩,hu,h⟩:=Option.bind_eq_some_iff.mp h
 by_cases hr:1≤u2∧u2≤a0 - 1
 case neg=>rw [if_neg hr] at h;exact absurd h (by simp)
 rw [if_pos hr] at h
 unfold split_rest at h
 obtain ⟨⟨e1,e2⟩,he,h⟩:=Option.bind_eq_some_iff.mp h
 obtain ⟨⟨g1,g2⟩,hg,h⟩:=Option.bind_eq_some_iff.mp h
 by_cases h0:0≤e1∧e1≤3
 case neg=>rw [if_neg h0] at h;exact absurd h (by simp)
 rw [if_pos h0] at h
 simp only [Option.some.injEq,Prod.mk.injEq] at h
 obtain ⟨rfl,rfl,rfl,rfl,rfl,rfl,rfl,rfl,rfl⟩:=h
 exact split_walk k a0 a1 _ _ u1 u2 _ _ c1 e1 g1 e2 g2 c2 u3 w hb h8 h64 hk rfl rfl hu hr.1 hr.2 rfl rfl he hg h0.1 h0.2 _ rfl
end Go.Proofs.Yy.PTx
end
section
set_option maxHeartbeats 8000000
set_option maxRecDepth 100000
namespace Go.Proofs.Yy.PTx
open Go.RowKit Go.Proofs.Yy.Z Go.Proofs.Yw.PrintWords Go.Proofs.Yw.PrintLast Go.Proofs.Yw.PrintMore
open Go.Proofs.Yy.M
attribute [local go_sem] runx_add64 runx_sub64 eql_cc eql_nc neq_cc neq_nc
attribute [local go_sem] max2_int min2_int max_two min_two max_three min_three max_four min_four
def codec_Decode.f (k:Nat) (a0:Int) (a1:Int):Option (Int × Bool × Int × Int × Option Int):=(shape_Kind.f a0 a1).bind fun bt130=>(if bt130.2.isNone=true then (if bt130.1=1 then ((codec_Split.f k a0 a1).bind fun bt133=>(if 0≤(wrap64 (63 - bt133.2.2.2.2.2.2.1)) then (some (bt130.1,bt133.1,wrap64 ((wrap64 (4 * bt133.2.2.2.1))+bt133.2.2.2.2.2.1),Go.bits .or .u64 9223372036854775808 (shl .u64 bt133.2.2.2.2.2.2.2.1 (wrap64 (63 - bt133.2.2.2.2.2.2.1))),none)) else (none))) else (some (bt130.1,false,0,0,none))) else (some (bt130.1,false,0,0,some (bt130.2.getD 0))))
theorem codec_Decode.mono:∀ a0 a1 k,LeO (codec_Decode.f k a0 a1) (codec_Decode.f (k+1) a0 a1):=by
  intro a0 a1 k
  unfold codec_Decode.f
  repeat' (with_reducible first|exact codec_Split.mono _ _ _|exact zm|exact zv|refine zI ?_ ?_|refine zO ?_ fun _=>?_)
def codec_Decode.T5:Bool × List (List Nat × List Nat):=(true, [([], []),([], []),([1], [1]),([], []),([3], [3]),([4], [4]),([], []),([6], [6]),([5,7], [5,7]),([], []),([9], [9]),([], []),([11], [11]),([12], [12]),([10,13], [10,13]),([14], [14]),([0,2,8,15], [0,2,8,15]),([16,0,1,2,3,4,5,6,7,8,9,10,11,12,13,14,15,16], [16]),([17,0,1,2,3,4,5,6,7,8,9,10,11,12,13,14,15,16,17], [])])
def codec_Decode.B5:List Nat := [0,0,2,0,8,24,0,64,248,0,512,0,2048,6144,15872,32256,65535,131071,262143]
theorem codec_Decode.tab5:rtab .any (opsOf Tryz.f42 5)=codec_Decode.T5:=by kernel_rfl
theorem codec_Decode.bits5:waitsOk codec_Decode.T5.2 codec_Decode.B5=true:=by kernel_rfl
theorem codec_Decode.calls (k:Nat) (a0:Int) (a1:Int) (r1:Int) (r2:Bool) (r3:Int) (r4:Int) (r5:Option Int) (w:World) (h:codec_Decode.f k a0 a1=some (r1,r2,r3,r4,r5)) :
    Calls Tryz.prog 42 #[.int .i64 a0, .int .u64 a1] w fun e w'=>e = .returned (.tuple #[.agg #[.int .i64 r1, .bool r2, .int .i64 r3, .int .u64 r4],errW r5])∧Below w.heap.size w w':=by
 have hu77:=Tryz.underlying77
 have hu140:=Tryz.underlying140
 have hu27:=Tryz.underlying27
 have hu64:=Tryz.underlying64
 have HB:=am (Below.refl w.heap.size w)
 have H:=am h
 unfold codec_Decode.f at H
 clear h
 replace H:=zo H
 obtain ⟨⟨t130,t131⟩,A3,H⟩:=H
 try dsimp only at H
 rcases t131 with _|q132
 replace H:=zb1 H
 try simp only [errW_none,errW_some]
 replace H:=zsk H
 rcases H with ⟨c4b0,c4b1,H⟩|⟨c4b0,c4b1,c4,H⟩
 ·replace H:=zo H
  obtain ⟨⟨t133,t134,t135,t136,t137,t138,t139,t140,t141⟩,A5,H⟩:=H
  try dsimp only at H
  generalize hji6:(wrap64 (63 - t139):Int)=ji6 at H
  (try rw [hji6] at A3)
  (try rw [hji6] at A5)
  have hji6w:(IntKind.i64.wrap (63 - t139))=ji6:=(i64_w _).trans hji6
  replace H:=zit H
  obtain ⟨c7b0,c7b1,H⟩:=H
  generalize hji8:(shl .u64 t140 (ji6):Int)=ji8 at H
  (try rw [hji8] at A3)
  (try rw [hji8] at A5)
  have hji8_:(IntKind.u64.wrap (t140 * 2 ^ min (ji6).toNat 64))=ji8:=hji8
  have hji8z:(ji6)≤64→(IntKind.u64.wrap (t140 * 2 ^ (ji6).toNat))=ji8:=shl_small hji8
  obtain ⟨rfl,rfl,rfl,rfl,rfl⟩:=zJ5 H
  go_enter Tryz.func42,Tryz.ntmps42
  try go_wp2_with (first|((with_reducible refine gate_dst (N:=4) rfl ?_);refine zx 4 77 #[.int .i64 0, .bool false, .int .i64 0, .int .u64 0] ?_;intro gb129 hg w9 hbox hb;have BK129:=am (hbox);have GW129:=zG hg HB;have GE129:=zG hg HB;replace HB:=zBs HB hb;clear hb hbox hg)|((with_reducible refine gate_callee (f:=91) rfl ?_);refine zc (some 13) Tryz.func91 _ (shape_Kind.calls _ _ _ _ _ A3.out) ?_;rintro e w' ⟨rfl,⟨nd,rfl⟩⟩;refine ⟨_,rfl,?_⟩;(try simp only [errW_none,errW_some]);(try (rw [drewN_self w9];generalize hq_:World.drewN w9 _=w9;have n0_:Aside0 (w9.heap[gb129]? = some (.cells #[.int .i64 0, .bool false, .int .i64 0, .int .u64 0] 77 (0,0))):=⟨by rw [← hq_];exact (zK BK129)⟩;have n1_:Aside0 (Below w.heap.size w w9):=⟨by rw [← hq_];exact (zB HB)⟩;clear BK129 HB hq_;have BK129:=n0_;have HB:=n1_;clear n0_ n1_)))|((with_reducible refine gate_callee (f:=92) rfl ?_);refine zc (some 28) Tryz.func92 _ (codec_Split.calls _ _ _ _ _ _ _ _ _ _ _ _ _ A5.out) ?_;rintro e w10 ⟨rfl,hb⟩;refine ⟨_,rfl,?_⟩;replace BK129:=zKb BK129 hb;replace HB:=zBs HB hb;clear hb;(try simp only [errW_none,errW_some]))|((with_reducible refine gate_dst (N:=8) rfl ?_);refine zx 8 140 #[.bool false, .bool false, .int .i64 0, .int .i64 0, .int .i64 0, .int .i64 0, .int .i64 0, .int .u64 0] ?_;intro gb142 hg w11 hbox hb;have BK142:=am (hbox);have GW142:=zG hg HB;have GE142:=zG hg HB;replace HB:=zBs HB hb;have NB129_142:=zNl hg BK129;have NB142_129:=zNg hg BK129;replace BK129:=zKb BK129 hb;clear hb hbox hg;have hnb12:=NB142_129.out;have hnc12:=NB129_142.out;obtain ⟨_,_,_,_,_,_,_,_,_,_,_,_,_,_,_,_⟩:=zf8 BK142))
  have n0_:Aside0 (((((((((w11.setCell ⟨gb142,0,none⟩ (.bool t133)).setCell ⟨gb142,1,none⟩ (.bool t134)).setCell ⟨gb142,2,none⟩ (.int .i64 t135)).setCell ⟨gb142,3,none⟩ (.int .i64 t136)).setCell ⟨gb142,4,none⟩ (.int .i64 t137)).setCell ⟨gb142,5,none⟩ (.int .i64 t138)).setCell ⟨gb142,6,none⟩ (.int .i64 t139)).setCell ⟨gb142,7,none⟩ (.int .u64 t140)).heap[gb129]? = some (.cells #[.int .i64 0, .bool false, .int .i64 0, .int .u64 0] 77 (0,0))):=⟨zK BK129⟩
  have n1_:Aside0 (((((((((w11.setCell ⟨gb142,0,none⟩ (.bool t133)).setCell ⟨gb142,1,none⟩ (.bool t134)).setCell ⟨gb142,2,none⟩ (.int .i64 t135)).setCell ⟨gb142,3,none⟩ (.int .i64 t136)).setCell ⟨gb142,4,none⟩ (.int .i64 t137)).setCell ⟨gb142,5,none⟩ (.int .i64 t138)).setCell ⟨gb142,6,none⟩ (.int .i64 t139)).setCell ⟨gb142,7,none⟩ (.int .u64 t140)).heap[gb142]? = some (.cells #[.bool t133, .bool t134, .int .i64 t135, .int .i64 t136, .int .i64 t137, .int .i64 t138, .int .i64 t139, .int .u64 t140] 140 (0,0))):=⟨zKp BK142⟩
  have n2_:Aside0 (Below w.heap.size w ((((((((w11.setCell ⟨gb142,0,none⟩ (.bool t133)).setCell ⟨gb142,1,none⟩ (.bool t134)).setCell ⟨gb142,2,none⟩ (.int .i64 t135)).setCell ⟨gb142,3,none⟩ (.int .i64 t136)).setCell ⟨gb142,4,none⟩ (.int .i64 t137)).setCell ⟨gb142,5,none⟩ (.int .i64 t138)).setCell ⟨gb142,6,none⟩ (.int .i64 t139)).setCell ⟨gb142,7,none⟩ (.int .u64 t140))):=⟨zB HB⟩
  (try clear BK129)
  (try clear BK142)
  (try clear HB)
  generalize ((((((((w11.setCell ⟨gb142,0,none⟩ (.bool t133)).setCell ⟨gb142,1,none⟩ (.bool t134)).setCell ⟨gb142,2,none⟩ (.int .i64 t135)).setCell ⟨gb142,3,none⟩ (.int .i64 t136)).setCell ⟨gb142,4,none⟩ (.int .i64 t137)).setCell ⟨gb142,5,none⟩ (.int .i64 t138)).setCell ⟨gb142,6,none⟩ (.int .i64 t139)).setCell ⟨gb142,7,none⟩ (.int .u64 t140))=w14 at n0_ n1_ n2_ ⊢
  have BK129:=n0_
  have BK142:=n1_
  have HB:=n2_
  clear n0_ n1_ n2_
  replace BK129:=am (blk_drew BK129.out)
  replace BK142:=am (blk_drew BK142.out)
  replace HB:=am (below_drew1 HB.out)
  refine start_ (n:=19) (S:=fun w'=>w'.cell? ⟨gb142,0,none⟩=some (.bool t133)∧w'.cell? ⟨gb142,1,none⟩=some (.bool t134)∧w'.cell? ⟨gb142,2,none⟩=some (.int .i64 t135)∧w'.cell? ⟨gb142,3,none⟩=some (.int .i64 t136)∧w'.cell? ⟨gb142,4,none⟩=some (.int .i64 t137)∧w'.cell? ⟨gb142,5,none⟩=some (.int .i64 t138)∧w'.cell? ⟨gb142,6,none⟩=some (.int .i64 t139)∧w'.cell? ⟨gb142,7,none⟩=some (.int .u64 t140)) (ds := []) (Array.replicate 19 false) (by kernel_rfl) rfl rfl ⟨(blk_cell BK142.out 0).trans rfl,(blk_cell BK142.out 1).trans rfl,(blk_cell BK142.out 2).trans rfl,(blk_cell BK142.out 3).trans rfl,(blk_cell BK142.out 4).trans rfl,(blk_cell BK142.out 5).trans rfl,(blk_cell BK142.out 6).trans rfl,(blk_cell BK142.out 7).trans rfl⟩ (fun hHeld=>?_);refine with_tabW codec_Decode.tab5 codec_Decode.bits5 (fun HT_ HW_=>?_)
  generalize w14.drew=w15 at BK129 BK142 HB hHeld ⊢
  refine zp HT_ 0 (some 31) ?_
  refine zp HT_ 1 (some 32) ?_
  refine zp HT_ 3 (some 34) ?_
  refine zp HT_ 6 (some 37) ?_
  refine zp HT_ 9 (some 40) ?_
  refine zp HT_ 11 (some 42) ?_
  refine zt HT_ HW_ 2 (some 33) hHeld ?_
  refine zt HT_ HW_ 4 (some 35) hHeld ?_
  refine zp HT_ 5 (some 36) ?_
  refine zt HT_ HW_ 7 (some 38) hHeld ?_
  refine zp HT_ 8 (some 39) ?_
  refine zt HT_ HW_ 10 (some 41) hHeld ?_
  refine zt HT_ HW_ 12 (some 43) hHeld ?_
  refine zp HT_ 13 (some 44) ?_
  refine zp HT_ 14 (some 45) ?_
  refine zp HT_ 15 (some 46) ?_
  refine zp HT_ 16 (some 47) ?_
  refine zu HT_ 17 none (fun K hK=>?_)
  have hs16:=zl BK129 0
  have hfs16:=blk_frozen BK129.out 0
  have hns16_1:=NB142_129.out
  have hms16_1:=NB129_142.out
  have hs17:=zl BK129 1
  have hfs17:=blk_frozen BK129.out 1
  have hns17_1:=NB142_129.out
  have hms17_1:=NB129_142.out
  have hs18:=zl BK129 2
  have hfs18:=blk_frozen BK129.out 2
  have hns18_1:=NB142_129.out
  have hms18_1:=NB129_142.out
  have hs19:=zl BK129 3
  have hfs19:=blk_frozen BK129.out 3
  have hns19_1:=NB142_129.out
  have hms19_1:=NB129_142.out
  refine skip_ (w1:=?_) (by rfl) rfl ?_ ?_
  rotate_left
  ·go_simp
   rfl
  refine hK.out _ _ ⟨(zh hHeld),(zh hHeld),(zh hHeld),(zh hHeld),(zh hHeld),(zh hHeld),(zh hHeld),(zh hHeld)⟩ (fun hHeld=>?_)
  clear hK K
  refine zp HT_ 18 (some 5) ?_
  refine done_ (done_of HT_.out (by kernel_rfl)) ?_
  try go_wp2
  refine bodyPost_ret (results_ct rfl _ _ gb129 77 #[.int .i64 t130, .bool t133, .int .i64 (wrap64 ((wrap64 (4 * t136))+t138)), .int .u64 (Go.bits .or .u64 9223372036854775808 (ji8))] (0,0) _ rfl (zKp BK129) Tryz.underlying77 rfl (by kernel_rfl)) rfl ?_
  exact ⟨by first|exact z3|(simp only [← hji6, ← hji8];exact z3)|exact z2,zB HB⟩
 obtain ⟨rfl,rfl,rfl,rfl,rfl⟩:=zJ5 H
 rotate_left
 replace H:=zb0 H
 try simp only [Option.getD_some] at H
 try simp only [errW_none,errW_some]
 obtain ⟨rfl,rfl,rfl,rfl,rfl⟩:=zJ5 H
 rotate_left
 all_goals (go_enter Tryz.func42,Tryz.ntmps42;go_wp2_with (first|((with_reducible refine gate_dst (N:=4) rfl ?_);refine zx 4 77 #[.int .i64 0, .bool false, .int .i64 0, .int .u64 0] ?_;intro gb129 hg w20 hbox hb;have BK129:=am (hbox);have GW129:=zG hg HB;have GE129:=zG hg HB;replace HB:=zBs HB hb;clear hb hbox hg)|((with_reducible refine gate_callee (f:=91) rfl ?_);refine zc (some 13) Tryz.func91 _ (shape_Kind.calls _ _ _ _ _ A3.out) ?_;rintro e w' ⟨rfl,⟨nd,rfl⟩⟩;refine ⟨_,rfl,?_⟩;(try simp only [errW_none,errW_some]);(try (rw [drewN_self w20];generalize hq_:World.drewN w20 _=w20;have n0_:Aside0 (w20.heap[gb129]? = some (.cells #[.int .i64 0, .bool false, .int .i64 0, .int .u64 0] 77 (0,0))):=⟨by rw [← hq_];exact (zK BK129)⟩;have n1_:Aside0 (Below w.heap.size w w20):=⟨by rw [← hq_];exact (zB HB)⟩;clear BK129 HB hq_;have BK129:=n0_;have HB:=n1_;clear n0_ n1_));obtain ⟨_,_,_,_,_,_,_,_⟩:=zf4 BK129)))
 all_goals
  refine bodyPost_ret (results_ct rfl _ _ gb129 77 #[.int .i64 t130, .bool false, .int .i64 0, .int .u64 0] (0,0) _ rfl (zKp BK129) Tryz.underlying77 rfl (by kernel_rfl)) rfl ?_
  exact ⟨z2,zB HB⟩
def nat_trim.l0:Nat→List Int→Int→Option (List Int)
  | 0,_,_=>none
  | k+1,x0,x3=>if x3 > 0 then (if 0≤(wrap64 (x3 - 1)) then (if (wrap64 (x3 - 1))<(x0.length:Int) then (if (rd x0 (wrap64 (x3 - 1)))=0 then (nat_trim.l0 k x0 (wrap64 (x3 - 1))) else (if 0≤x3 then (if x3≤(x0.length:Int) then (some (x0.take (x3:Int).toNat)) else (none)) else (none))) else (none)) else (none)) else (if 0≤x3 then (if x3≤(x0.length:Int) then (some (x0.take (x3:Int).toNat)) else (none)) else (none))
def nat_trim.f (k:Nat) (l0:List Int):Option (List Int):=nat_trim.l0 k l0 (l0.length:Int)
theorem nat_trim.mono_l:∀ k,(∀ y0 y1,LeO (nat_trim.l0 k y0 y1) (nat_trim.l0 (k+1) y0 y1))
  | 0=>fun _ _ r h=>by simp [nat_trim.l0] at h
  | k+1=>by
    have ih0:=nat_trim.mono_l k
    · intro y0 y1
      unfold nat_trim.l0
      repeat' (with_reducible first|exact ih0 _ _|exact zm|exact zv|refine zI ?_ ?_|refine zO ?_ fun _=>?_)
theorem nat_trim.mono:∀ a0 k,LeO (nat_trim.f k a0) (nat_trim.f (k+1) a0):=by
  intro a0 k
  have ih0:=nat_trim.mono_l k
  unfold nat_trim.f
  repeat' (with_reducible first|exact ih0 _ _|exact zm|exact zv|refine zI ?_ ?_|refine zO ?_ fun _=>?_)
theorem nat_trim.calls (k:Nat) (P0_:Nat→Prop) (A0:Option Addr) (c0:Nat) (l0:List Int) (r:List Int) (w:World) (hs0:Kd.V (Kd.int .u64) 25 w w.heap.size (fun k_=>P0_ k_) (.slice A0 l0.length c0) l0) (h:nat_trim.f k l0=some r) :
    Calls Tryz.prog 103 #[.slice A0 l0.length c0] w fun e w' => ∃ v0_:Value,e = .returned (v0_)∧Kd.V (Kd.int .u64) 25 w' w.heap.size (fun k_=>(P0_ k_∨w.heap.size≤k_)) v0_ r∧Below w.heap.size w w':=by
 have HO0:=am (show Kd.V (Kd.int .u64) 25 w w.heap.size (fun k_=>(P0_ k_∨w.heap.size≤k_)) (.slice A0 l0.length c0) l0 from Kd.V_mono hs0 (fun k_ hk => .inl hk))
 have HB:=am (Below.refl w.heap.size w)
 have H:=am h
 unfold nat_trim.f at H
 clear h
 go_enter Tryz.func103,Tryz.ntmps103
 go_wp2
 go_loopg [3] k (fun kq v3 w' => ∃ (x3_1:Int),v3 = .int .i64 x3_1∧Aside0 (nat_trim.l0 kq l0 x3_1=some r)∧Aside0 (kq≤k)∧Aside0 (Kd.V (Kd.int .u64) 25 w' w.heap.size (fun k_=>(P0_ k_∨w.heap.size≤k_)) (.slice A0 l0.length c0) l0)∧Aside0 (Below w.heap.size w w'))
 case atStart=>exact ⟨((l0.length:Int)),z1,H,zL,⟨zV HO0⟩,⟨zB HB⟩⟩
 clear H
 obtain ⟨x3_1,rfl,H,HK1,HO_0,HB⟩:=hrel
 obtain _|k1:=gk
 ·exact zz H rfl
 simp only [nat_trim.l0] at H
 replace H:=zsdg H
 rcases H with ⟨c2b0,H⟩|⟨c2b0,H⟩
 generalize hji3:(wrap64 (x3_1 - 1):Int)=ji3 at H
 have hji3w:(IntKind.i64.wrap (x3_1 - 1))=ji3:=(i64_w _).trans hji3
 replace H:=zid H
 obtain ⟨c4b0,H⟩:=H
 replace H:=zid H
 obtain ⟨c5b0,H⟩:=H
 replace H:=zsk H
 rcases H with ⟨c6b0,c6b1,H⟩|⟨c6b0,c6b1,c6,H⟩
 obtain ⟨p143,q143,ad143,rfl,hx143_0⟩:=zA (Kd.at_int (Kd.V_reads' HO_0.out).2.2 (ji3))
 rotate_left
 replace H:=zit H
 obtain ⟨c7b0,c7b1,H⟩:=H
 replace H:=zit H
 obtain ⟨c8b0,c8b1,H⟩:=H
 generalize hy144:(l0.take (x3_1:Int).toNat:List Int)=y144 at H
 have Ny144:=zY hy144
 clear hy144
 obtain rfl:=Option.some.inj H.out
 obtain ⟨p143,q143,ad143,rfl,hx143_0⟩:=zA (Kd.at_int (Kd.V_reads' HO_0.out).2.2 (ji3))
 have q9:(x3_1:Int)≤((l0.length:Int):Int):=zD
 obtain ⟨i09,hi09,_,hsz9,_⟩:=info_parts info25
 have hroom9:l0.length≤c0:=(Kd.V_reads' HO_0.out).2.1
 have hC9:Kd.F (Kd.int .u64) _ _ (some ad143) l0.length l0:=(Kd.V_at (base:=w.heap.size) HO_0.out).2.2
 have hcut9:=cut_cap (P:=Tryz.prog) 88 25 .i64 .i64 Tryz.underlying88 hi09 (some ad143) l0.length c0 x3_1 (zD) q9 hroom9
 have hr9:=Kd.F_take (m:=(x3_1:Int).toNat) hC9 (by omega)
 have hy9:y144.length=(x3_1:Int).toNat:=(by rw [Ny144.out,List.length_take];omega)
 rw [← Ny144.out] at hr9
 rw [← hy9] at hcut9
 have HO148:=am (show Kd.V (Kd.int .u64) 25 _ w.heap.size _ (.slice (some ad143) y144.length y144.length) y144 from Kd.V_mk (Nat.le_refl _) hr9)
 have HC148:=am (Nat.le_refl y144.length)
 clear hr9 hC9 hroom9 hi09 hsz9
 have KY9:=am hy9
 clear hy9
 replace q9:=eq_true q9
 rotate_left
 replace H:=zit H
 obtain ⟨c10b0,c10b1,H⟩:=H
 replace H:=zit H
 obtain ⟨c11b0,c11b1,H⟩:=H
 generalize hy149:(l0.take (x3_1:Int).toNat:List Int)=y149 at H
 have Ny149:=zY hy149
 clear hy149
 obtain rfl:=Option.some.inj H.out
 have q12:(x3_1:Int)≤((l0.length:Int):Int):=zD
 obtain ⟨i012,hi012,_,hsz12,_⟩:=info_parts info25
 have hroom12:l0.length≤c0:=(Kd.V_reads' HO_0.out).2.1
 have hC12:Kd.F (Kd.int .u64) _ _ A0 l0.length l0:=(Kd.V_at (base:=w.heap.size) HO_0.out).2.2
 have hcut12:=cut_cap (P:=Tryz.prog) 88 25 .i64 .i64 Tryz.underlying88 hi012 A0 l0.length c0 x3_1 (zD) q12 hroom12
 have hr12:=Kd.F_take (m:=(x3_1:Int).toNat) hC12 (by omega)
 have hy12:y149.length=(x3_1:Int).toNat:=(by rw [Ny149.out,List.length_take];omega)
 rw [← Ny149.out] at hr12
 rw [← hy12] at hcut12
 have HO153:=am (show Kd.V (Kd.int .u64) 25 _ w.heap.size _ (.slice A0 y149.length y149.length) y149 from Kd.V_mk (Nat.le_refl _) hr12)
 have HC153:=am (Nat.le_refl y149.length)
 clear hr12 hC12 hroom12 hi012 hsz12
 have KY12:=am hy12
 clear hy12
 replace q12:=eq_true q12
 rotate_left
 all_goals (go_wp2)
 ·go_roundg k1
  case measure=>have:=HK1.out;omega
  case rel=>exact ⟨(ji3),(by first|rfl|(simp;done)|(simp only [← hji3] <;> (first|rfl|simp))|(simp [*];done)),H,(zH HK1),⟨zV HO_0⟩,⟨zB HB⟩⟩
 ·go_ret
  exact ⟨_,by first|exact z3|(simp only [← hji3];exact z3)|exact z2,zV HO148,zB HB⟩
 go_ret
 exact ⟨_,z2,zV HO153,zB HB⟩
def nat_Of.f (k:Nat) (a0:Int):Option (List Int):=(nat_trim.f k (([a0]:List Int))).bind fun t157=>(some t157)
theorem nat_Of.mono:∀ a0 k,LeO (nat_Of.f k a0) (nat_Of.f (k+1) a0):=by
  intro a0 k
  unfold nat_Of.f
  repeat' (with_reducible first|exact nat_trim.mono _ _|exact zm|exact zv|refine zI ?_ ?_|refine zO ?_ fun _=>?_)
theorem nat_Of.calls (k:Nat) (a0:Int) (r:List Int) (w:World) (h:nat_Of.f k a0=some r) :
    Calls Tryz.prog 48 #[.int .u64 a0] w fun e w' => ∃ v0_:Value,e = .returned (v0_)∧Kd.V (Kd.int .u64) 25 w' w.heap.size (fun k_=>(w.heap.size≤k_)) v0_ r∧Below w.heap.size w w':=by
 have HB:=am (Below.refl w.heap.size w)
 have H:=am h
 unfold nat_Of.f at H
 clear h
 generalize hy154:(([a0]:List Int):List Int)=y154 at H
 have Ny154:=zY hy154
 clear hy154
 replace H:=zo H
 obtain ⟨t157,A2,H⟩:=H
 obtain rfl:=Option.some.inj H.out
 go_enter Tryz.func48,Tryz.ntmps48
 go_wp2_with (first|((with_reducible refine gate_dst (N:=4) rfl ?_);refine Kd.R_lit (Kd.int .u64) _ 25 ?hg (N:=4) ?hd (xs:=([a0]:List Int)) (inner := [.int .u64 a0]) (ok:=fun _=>True) (okp:=fun _=>True) ?hr ?hp (fun _ hk=>hk) trivial (Below.refl _ _) (Nat.le_refl _) (by simp) ?_;(case hd=>rfl);(case hg=>rfl);(case hr=>first|(go_simp;done)|(go_simp;rfl));(case hp=>exact (Reps.one (show Kd.M (Kd.int .u64) _ _ _ a0 [.int .u64 a0] from rfl) (Reps.none _ _)));intro v155 w3 ho4 hb hg_ hnew_;clear hg_ hnew_;(first|rw [← Ny154.out] at ho4|(simp only [Int.reduceToNat] at ho4;rw [← Ny154.out] at ho4));have HO156:=am (Kd.R_lower (Kd.R_newM (M:=fun k_=>(w.heap.size≤k_)) ho4 (zS HB) (fun k_ h_=>h_)) (zS HB));replace HB:=zBs HB hb;clear hb ho4;obtain ⟨Ao5,co5,eo5⟩:=Kd.R_slice HO156.out;subst eo5)|((with_reducible refine gate_callee (f:=103) rfl ?_);refine zc (some 5) Tryz.func103 #[.slice Ao5 y154.length co5] (nat_trim.calls _ (fun k_=>some k_=(.slice Ao5 y154.length co5:Value).ownBlock) _ _ _ _ _ (Kd.R_V (Kd.R_tight rfl (HO156.out))) A2.out) ?_;rintro e w6 ⟨v158,rfl,ho0,hb⟩;refine ⟨_,rfl,?_⟩;have HO159:=am (Kd.V_lower (Kd.V_mono (ok':=fun k_=>(w.heap.size≤k_)) ho0 (fun k_ hk_=>Or.elim hk_ (fun hs_=>((HO156.out).1 k_ hs_.symm).1) (fun hn_=>(Nat.le_trans (zS HB) hn_)))) (zS HB));replace HO156:=zRb HO156 hb;replace HB:=zBs HB hb;clear hb ho0))
 go_ret
 exact ⟨_,z2,zV HO159,zB HB⟩
end Go.Proofs.Yy.PTx
end
