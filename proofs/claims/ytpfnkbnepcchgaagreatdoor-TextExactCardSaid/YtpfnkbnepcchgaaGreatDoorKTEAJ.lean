/- Part 10 of what the proof needs. -/
import Derived.Lib.Hide
import Derived.Test.YtpfnkbnepcchgaaGreatDoorKTEAI
set_option linter.unusedSimpArgs false
set_option linter.unusedVariables false
section
set_option maxHeartbeats 8000000
set_option maxRecDepth 100000
namespace Go.Proofs.Yy.PTx
open Go.RowKit Go.Proofs.Yy.Z Go.Proofs.Yw.PrintWords Go.Proofs.Yw.PrintLast Go.Proofs.Yw.PrintMore
open Go.Proofs.Yy.M
attribute [local go_sem] dw dQ lD lF lC lG
attribute [local go_sem] gy gz ja jc fC fD gQ gK
def bits_LeadingZeros64.f (k:Nat) (a0:Int):Option (Int):=(bits_Len64.f k a0).bind fun t124=>(some (wrap64 (64 - t124)))
theorem bits_LeadingZeros64.calls (k:Nat) (a0:Int) (r:Int) (w:World) (h:bits_LeadingZeros64.f k a0=some r) :
    Calls Tryz.prog 184 #[.int .u64 a0] w fun e w'=>e = .returned (.int .i64 r)∧dX w w':=by
 have H:=am h
 unfold bits_LeadingZeros64.f at H
 clear h
 replace H:=zo H
 obtain ⟨t124,A2,H⟩:=H
 obtain rfl:=Option.some.inj H.out
 go_enter Tryz.func184,Tryz.ntmps184
 go_wp2_with (first|((with_reducible refine af (f:=152) rfl ?_);refine zc (some 4) Tryz.func152 _ (bits_Len64.calls _ _ _ _ A2.out) ?_;rintro e w' ⟨rfl,⟨nd,rfl⟩⟩;refine ⟨_,rfl,?_⟩))
 go_ret
 exact ⟨z1,z4⟩
def jo.j0:Nat→Int→Int→Bool→Option (Bool × Int × Option Int)
  | 0,_,_,_=>none
  | k+1,x0,x1,x13=>if x13=true then (some (false,0,some 1)) else (if 0≤(wrap64 (64 - x1)) then (if ((shl .u64 x0 (wrap64 (64 - x1))) / 9223372036854775808)=1 then ((bits_LeadingZeros64.f k (Go.bits .xor .u64 18446744073709551615 (shl .u64 x0 (wrap64 (64 - x1))))).bind fun agP=>(some ((((shl .u64 x0 (wrap64 (64 - x1))) / 9223372036854775808) == 1),mn agP x1,none))) else ((bits_LeadingZeros64.f k (shl .u64 x0 (wrap64 (64 - x1)))).bind fun agQ=>(some ((((shl .u64 x0 (wrap64 (64 - x1))) / 9223372036854775808) == 1),mn agQ x1,none)))) else (none))
def jo.f (k:Nat) (a0:Int) (a1:Int):Option (Bool × Int × Option Int):=if a1<1 then (jo.j0 k a0 a1 true) else (jo.j0 k a0 a1 (decide (a1 > 64)))
theorem jo.calls (k:Nat) (a0:Int) (a1:Int) (r1:Bool) (r2:Int) (r3:Option Int) (w:World) (h:jo.f k a0 a1=some (r1,r2,r3)) :
    Calls Tryz.prog 143 #[.int .u64 a0, .int .i64 a1] w fun e w'=>e = .returned (.tuple #[.bool r1, .int .i64 r2,qm r3])∧Below w.heap.size w w':=by
 have yL:=Tryz.underlying27
 have hu64:=Tryz.underlying64
 have HB:=am (Below.refl w.heap.size w)
 have H:=am h
 unfold jo.f at H
 clear h
 go_enter Tryz.func143,Tryz.ntmps143
 go_upto_region 1 with (fail)
 go_cut [13] (fun v13 wc => ∃ (kq:Nat) (G7:Bool),v13 = .bool G7∧ae (jo.j0 kq a0 a1 G7=some (r1,r2,r3))∧ae (kq≤k)∧ae (Below w.heap.size w wc))
 case first =>
  replace H:=zsd H
  rcases H with ⟨kM,H⟩|⟨kM,H⟩
  (first|rw [kM]|(simp only [bI,dV];rw [kM])|rw [rY]|skip)
  rotate_left
  (first|rw [kM]|(simp only [bI,dV];rw [kM])|rw [rY]|skip)
  rotate_left
  all_goals (go_wp2)
  ·go_meet
   case rel=>exact ⟨_,(true),z1,H,⟨z5⟩,⟨zB HB⟩⟩
  go_meet
  case rel=>exact ⟨_,(decide (a1 > 64)),z1,H,⟨z5⟩,⟨zB HB⟩⟩
 case rest =>
  obtain ⟨kq,G7,rfl,H,HJ2,HB⟩:=hcut
  obtain _|kj2:=kq
  ·exact zz H rfl
  simp only [jo.j0] at H
  cases G7
  replace H:=zb0 H
  generalize uI:(wrap64 (64 - a1):Int)=ji6 at H
  have UN:(IntKind.i64.wrap (64 - a1))=ji6:=(bI _).trans uI
  replace H:=zit H
  obtain ⟨wQ,Bh,H⟩:=H
  generalize sV:(shl .u64 a0 (ji6):Int)=ji8 at H
  have Qv:(IntKind.u64.wrap (a0 * 2 ^ min (ji6).toNat 64))=ji8:=sV
  have YE:(ji6)≤64→(IntKind.u64.wrap (a0 * 2 ^ (ji6).toNat))=ji8:=iR sV
  replace H:=zsk H
  rcases H with ⟨yI,Ed,H⟩|⟨yI,Ed,c9,H⟩
  replace H:=zo H
  obtain ⟨agP,A10,H⟩:=H
  generalize G8:(mn agP a1:Int)=agR at H
  (try rw [G8] at A10)
  have as6:(if a1<agP then a1 else agP)=agR:=G8
  obtain ⟨rfl,rfl,rfl⟩:=zJ3 H
  rotate_left
  replace H:=zo H
  obtain ⟨agQ,A12,H⟩:=H
  generalize qw:(mn agQ a1:Int)=qj at H
  (try rw [qw] at A12)
  have U0:(if a1<agQ then a1 else agQ)=qj:=qw
  obtain ⟨rfl,rfl,rfl⟩:=zJ3 H
  rotate_left
  replace H:=zb1 H
  obtain ⟨rfl,rfl,rfl⟩:=zJ3 H
  rotate_left
  all_goals (go_wp2_with (first|((with_reducible refine af (f:=184) rfl ?_);refine lg (some 27) rfl rfl Tryz.func184 (by kernel_rfl) rfl #[.int .u64 (Go.bits .xor .u64 18446744073709551615 (ji8))] rfl (by (try simp only [List.map_toArray,List.map_cons,List.map_nil]);first|done|(simp only [sV];rfl)|rfl|(simp only [List.length_drop,List.length_take];rfl)) ?_;(with_reducible refine (bits_LeadingZeros64.calls _ _ _ _ A10.out).mono ?_);rintro e w' ⟨rfl,⟨nd,rfl⟩⟩;refine ⟨_,rfl,?_⟩)|((with_reducible refine af (f:=184) rfl ?_);refine lg (some 27) rfl rfl Tryz.func184 (by kernel_rfl) rfl #[.int .u64 ji8] rfl (by (try simp only [List.map_toArray,List.map_cons,List.map_nil]);first|done|(simp only [sV];rfl)|rfl|(simp only [List.length_drop,List.length_take];rfl)) ?_;(with_reducible refine (bits_LeadingZeros64.calls _ _ _ _ A12.out).mono ?_);rintro e w' ⟨rfl,⟨nd,rfl⟩⟩;refine ⟨_,rfl,?_⟩)))
  ·go_ret3
   exact ⟨by first|exact z3|(simp only [← uI, ← sV, ← G8];exact z3)|exact z2,zB HB⟩
  ·go_ret3
   exact ⟨by first|exact z3|(simp only [← uI, ← sV, ← qw];exact z3)|exact z2,zB HB⟩
  go_ret3
  exact ⟨z2,zB HB⟩
def lh.f (a0:Int) (a1:Int):Option (Bool):=if a0 ≥ 0 then (if a0≤64 then (if a1 ≥ 0 then (some (decide (a1≤(wrap64 (64 - a0))))) else (some false)) else (some false)) else (some false)
theorem lh.calls (a0:Int) (a1:Int) (r:Bool) (w:World) (h:lh.f a0 a1=some r) :
    Calls Tryz.prog 185 #[.int .i64 a0, .int .i64 a1] w fun e w'=>e = .returned (.bool r)∧dX w w':=by
 have H:=am h
 unfold lh.f at H
 clear h
 replace H:=zf H
 rcases H with ⟨pg,H⟩|⟨pg,H⟩
 replace H:=zsd H
 rcases H with ⟨kM,H⟩|⟨kM,H⟩
 replace H:=zf H
 rcases H with ⟨rG,H⟩|⟨rG,H⟩
 obtain rfl:=Option.some.inj H.out
 rotate_left
 obtain rfl:=Option.some.inj H.out
 rotate_left
 obtain rfl:=Option.some.inj H.out
 rotate_left
 obtain rfl:=Option.some.inj H.out
 rotate_left
 all_goals (go_enter Tryz.func185,Tryz.ntmps185;go_wp2)
 ·go_ret
  exact ⟨z1,z4⟩
 ·go_ret
  exact ⟨z1,z4⟩
 ·go_ret
  exact ⟨z1,z4⟩
 go_ret
 exact ⟨z1,z4⟩
def kD.f (a0:Int) (a1:Int) (a2:Int):Option (Int × Option Int):=(lh.f a1 a2).bind fun t127=>(if t127=true then (if 0≤a1 then ((mi.f a2).bind fun aj0=>(some (Go.bits .and .u64 (shr .u64 a0 a1) aj0,none))) else (none)) else (some (0,some 1)))
theorem kD.calls (a0:Int) (a1:Int) (a2:Int) (r1:Int) (r2:Option Int) (w:World) (h:kD.f a0 a1 a2=some (r1,r2)) :
    Calls Tryz.prog 144 #[.int .u64 a0, .int .i64 a1, .int .i64 a2] w fun e w'=>e = .returned (.tuple #[.int .u64 r1,qm r2])∧dX w w':=by
 have yL:=Tryz.underlying27
 have hu64:=Tryz.underlying64
 have H:=am h
 unfold kD.f at H
 clear h
 replace H:=zo H
 obtain ⟨t127,A4,H⟩:=H
 cases t127
 replace H:=zb0 H
 obtain ⟨rfl,rfl⟩:=zJ2 H
 rotate_left
 replace H:=zb1 H
 replace H:=zit H
 obtain ⟨rF,Bg,H⟩:=H
 generalize FN:(shr .u64 a0 a1:Int)=ji7 at H
 (try rw [FN] at A4)
 have YJ:(a0 / 2 ^ min a1.toNat 64)=ji7:=FN
 have acy:a1≤64→(a0 / 2 ^ a1.toNat)=ji7:=jT FN
 replace H:=zo H
 obtain ⟨aj0,A8,H⟩:=H
 obtain ⟨rfl,rfl⟩:=zJ2 H
 rotate_left
 all_goals (go_enter Tryz.func144,Tryz.ntmps144;go_wp2_with (first|(go_at_call 185;(with_reducible refine (lh.calls _ _ _ _ A4.out).mono ?_);rintro e w' ⟨rfl,⟨nd,rfl⟩⟩;(try first|exact ⟨rfl,_,World.drewN_drewN _ _ _⟩|exact ⟨rfl,_,Eq.trans (World.drewN_drewN _ _ _) (congrArg (World.drewN _) (Nat.add_assoc _ _ _))⟩))|(go_at_call 181;(with_reducible refine (mi.calls _ _ _ A8.out).mono ?_);rintro e w' ⟨rfl,⟨nd,rfl⟩⟩;(try first|exact ⟨rfl,_,World.drewN_drewN _ _ _⟩|exact ⟨rfl,_,Eq.trans (World.drewN_drewN _ _ _) (congrArg (World.drewN _) (Nat.add_assoc _ _ _))⟩))))
 ·repeat (go_quiet (first|(go_at_call 185;(with_reducible refine (lh.calls a1 a2 false _ A4.out).mono ?_);rintro e w' ⟨rfl,⟨nd,rfl⟩⟩;(try first|exact ⟨rfl,_,World.drewN_drewN _ _ _⟩|exact ⟨rfl,_,Eq.trans (World.drewN_drewN _ _ _) (congrArg (World.drewN _) (Nat.add_assoc _ _ _))⟩)));try go_wp2_with (first|(go_at_call 185;(with_reducible refine (lh.calls a1 a2 false _ A4.out).mono ?_);rintro e w' ⟨rfl,⟨nd,rfl⟩⟩;(try first|exact ⟨rfl,_,World.drewN_drewN _ _ _⟩|exact ⟨rfl,_,Eq.trans (World.drewN_drewN _ _ _) (congrArg (World.drewN _) (Nat.add_assoc _ _ _))⟩))))
  go_ret2
  exact ⟨z1,z4⟩
 repeat (go_quiet (first|(go_at_call 185;(with_reducible refine (lh.calls a1 a2 true _ A4.out).mono ?_);rintro e w' ⟨rfl,⟨nd,rfl⟩⟩;(try first|exact ⟨rfl,_,World.drewN_drewN _ _ _⟩|exact ⟨rfl,_,Eq.trans (World.drewN_drewN _ _ _) (congrArg (World.drewN _) (Nat.add_assoc _ _ _))⟩))|(go_at_call 181;(with_reducible refine (mi.calls a2 aj0 _ A8.out).mono ?_);rintro e w' ⟨rfl,⟨nd,rfl⟩⟩;(try first|exact ⟨rfl,_,World.drewN_drewN _ _ _⟩|exact ⟨rfl,_,Eq.trans (World.drewN_drewN _ _ _) (congrArg (World.drewN _) (Nat.add_assoc _ _ _))⟩)));try go_wp2_with (first|(go_at_call 185;(with_reducible refine (lh.calls a1 a2 true _ A4.out).mono ?_);rintro e w' ⟨rfl,⟨nd,rfl⟩⟩;(try first|exact ⟨rfl,_,World.drewN_drewN _ _ _⟩|exact ⟨rfl,_,Eq.trans (World.drewN_drewN _ _ _) (congrArg (World.drewN _) (Nat.add_assoc _ _ _))⟩))|(go_at_call 181;(with_reducible refine (mi.calls a2 aj0 _ A8.out).mono ?_);rintro e w' ⟨rfl,⟨nd,rfl⟩⟩;(try first|exact ⟨rfl,_,World.drewN_drewN _ _ _⟩|exact ⟨rfl,_,Eq.trans (World.drewN_drewN _ _ _) (congrArg (World.drewN _) (Nat.add_assoc _ _ _))⟩))))
 go_ret2
 exact ⟨by first|rfl|(simp;done)|(simp only [← FN] <;> (first|rfl|simp))|(simp [*];done),z4⟩
end Go.Proofs.Yy.PTx
end
section
namespace Go.Proofs.Yy.PTx
open Go.RowKit Go.Proofs.Yw.PrintWords Go.Proofs.Yw.PrintLast Go.Proofs.Yw.PrintMore Go.Proofs.Yy.M
attribute [local go_sem] gy gz
def zZ (q n:Int) (neg ones:Bool) (r left eb:Int):Option (Bool × Bool × Int × Int × Int × Int × Int × Int × Option Int) :=
 (kD.f q (left - eb) eb).bind fun e=>(kD.f q 0 (left - eb)).bind fun g =>
  if 0≤e.1∧e.1≤3 then some (neg,ones,r,(if ones=true then r - 1 else -r),eb,e.1 * 2 ^ (2 - eb).toNat,left - eb,g.1,none) else none
def wL (n r:Int):Int:=max (n - 1 - r - 1) 0
def Gg (l:Int):Int:=min l 2
def nZ.f (k:Nat) (n p:Int):Option (Bool × Bool × Int × Int × Int × Int × Int × Int × Option Int) :=
 (jP.f n p).bind fun b=>if b.1=1∧b.2=none∧8≤n∧n≤64 then
  (ou.f n p).bind fun c=>(jo.f k (if c.1<0 then IntKind.u64.wrap (-p) else p) (n - 1)).bind fun u =>
   if 1≤u.2.1∧u.2.1≤n - 1 then zZ (if c.1<0 then IntKind.u64.wrap (-p) else p) n (decide (c.1<0)) u.1 u.2.1 (wL n u.2.1) (Gg (wL n u.2.1))
   else none
 else none
theorem size_two (w:World) (o:Obj) (n:Nat):((w.alloc o).drewN n).heap.size=w.heap.size+1:=by simp
theorem wH {W:World} {o:Obj} {g:Nat} (h:W.heap.size=g):(W.alloc o).heap[g]? = some o:=by subst h;exact sJ W o
set_option maxHeartbeats 4000000 in
set_option maxRecDepth 100000 in
theorem O4 (k:Nat) (n p:Int) (q:Int) (neg ones:Bool) (r L E:Int) (c:Int) (e g:Int) (eo go_ co ro:Option Int) (w:World)
  (hk:jP.f n p=some (1,none)) (h8:8≤n) (h64:n≤64) (hc:ou.f n p=some (c,co)) (hneg:neg=decide (c<0)) (hq:q=if c<0 then IntKind.u64.wrap (-p) else p)
  (hr:jo.f k q (n - 1)=some (ones,r,ro)) (hr1:1≤r) (hr2:r≤n - 1) (hl:max (n - 1 - r - 1) 0=L) (heb:min L 2=E)
  (he:kD.f q (L - E) E=some (e,eo)) (hg:kD.f q 0 (L - E)=some (g,go_)) (he0:0≤e) (he3:e≤3) (R:Int) (hR:R=if ones=true then r - 1 else -r) :
  Calls Tryz.prog 92 #[.int .i64 n, .int .u64 p] w fun e' w'=>e' = .returned (.tuple #[.agg #[.bool neg, .bool ones, .int .i64 r, .int .i64 R, .int .i64 E, .int .i64 (e * 2 ^ (2 - E).toNat), .int .i64 (L - E), .int .u64 g], .nilIface])∧Below w.heap.size w w':=by
 have HRR:=Lib.hid hR
 clear hR
 have hL0:0≤L:=by omega
 have hL1:L≤64:=by omega
 have hE0:0≤E:=by omega
 have hE2:E≤2:=by omega
 have hEL:E≤L:=by omega
 have hkK:∀ W:World,Calls Tryz.prog 91 #[.int .i64 n, .int .u64 p] W fun e' w'=>e' = .returned (.tuple #[.int .i64 1, .nilIface])∧dX W w':=fun W=>jP.calls n p 1 none W hk
 have hkC:∀ W:World,Calls Tryz.prog 75 #[.int .i64 n, .int .u64 p] W fun e' w'=>e' = .returned (.tuple #[.int .i64 c,qm co])∧dX W w':=fun W=>ou.calls n p c co W hc
 have hkR:∀ W:World,Calls Tryz.prog 143 #[.int .u64 q, .int .i64 (n - 1)] W fun e' w'=>e' = .returned (.tuple #[.bool ones, .int .i64 r,qm ro])∧Below W.heap.size W w':=fun W=>jo.calls k q (n - 1) ones r ro W hr
 have hkE:∀ W:World,Calls Tryz.prog 144 #[.int .u64 q, .int .i64 (L - E), .int .i64 E] W fun e' w'=>e' = .returned (.tuple #[.int .u64 e,qm eo])∧dX W w':=fun W=>kD.calls q (L - E) E e eo W he
 have hkG:∀ W:World,Calls Tryz.prog 144 #[.int .u64 q, .int .i64 0, .int .i64 (L - E)] W fun e' w'=>e' = .returned (.tuple #[.int .u64 g,qm go_])∧dX W w':=fun W=>kD.calls q 0 (L - E) g go_ W hg
 generalize qm co=vc at hkC
 generalize qm ro=vr at hkR
 generalize qm eo=ve at hkE
 generalize qm go_=vg at hkG
 have HK:=Lib.hid hkK
 have HC:=Lib.hid hkC
 have HR:=Lib.hid hkR
 have HE:=Lib.hid hkE
 have HG:=Lib.hid hkG
 clear hkK hkC hkR hkE hkG hk hc hr he hg
 go_enter Tryz.func92,Tryz.ntmps92
 go_upto_if 35 with (first|(go_at_call 91;(with_reducible refine (HK.out _).mono ?_);rintro e1 w1 ⟨rfl,hw1⟩;obtain ⟨n1,rfl⟩:=hw1.out)|(go_at_call 75;(with_reducible refine (HC.out _).mono ?_);rintro e2 w2 ⟨rfl,hw2⟩;obtain ⟨n2,rfl⟩:=hw2.out))
 go_cut [1] (fun v1 wc=>v1 = .int .u64 q∧ae (wc.heap[w.heap.size]? = some (.cells #[.bool false, .bool false, .int .i64 0, .int .i64 0, .int .i64 0, .int .i64 0, .int .i64 0, .int .u64 0] 140 (0,0)))∧ae (wc.heap[w.heap.size+1]? = some (.cells #[.bool neg, .bool false, .int .i64 0, .int .i64 0, .int .i64 0, .int .i64 0, .int .i64 0, .int .u64 0] 140 (0,0)))∧ae (Below w.heap.size w wc))
 case first =>
  by_cases anH:c<0
  all_goals
   simp only [anH,if_true,if_false,decide_true,decide_false] at hq hneg
   subst hq hneg
   go_wp2
   go_meet
   case rel=>exact ⟨rfl,⟨(by apply Eq.trans;(repeat (first|(with_reducible assumption)|(with_reducible exact sJ _ _)|(with_reducible exact wH (size_two _ _ _))|(with_reducible apply iY)|(with_reducible apply jR)|(with_reducible apply lK)|(with_reducible apply gG (hp:=Nat.ne_of_lt (Nat.lt_succ_self _)))|(with_reducible apply gG (hp:=Nat.ne_of_gt (Nat.lt_succ_self _)))));rfl)⟩,⟨(by apply Eq.trans;(repeat (first|(with_reducible assumption)|(with_reducible exact sJ _ _)|(with_reducible exact wH (size_two _ _ _))|(with_reducible apply iY)|(with_reducible apply jR)|(with_reducible apply lK)|(with_reducible apply gG (hp:=Nat.ne_of_lt (Nat.lt_succ_self _)))|(with_reducible apply gG (hp:=Nat.ne_of_gt (Nat.lt_succ_self _)))));rfl)⟩,⟨(by repeat (first|(with_reducible assumption)|(with_reducible exact Below.refl _ _)|(with_reducible apply bz)|(with_reducible apply aI)|(with_reducible refine bu ?_ (by first|exact Nat.le_refl _|exact Nat.le_succ _))))⟩⟩
 case rest =>
  obtain ⟨rfl,K1,K2,HB⟩:=hcut
  rename_i wc
  clear HK HC hneg hq
  have hc0:∀ i,wc.cell? ⟨w.heap.size+1,i,none⟩=(_:Array Value)[i]?:=ag K2.out
  have hf0:∀ i,wc.frozen? ⟨w.heap.size+1,i,none⟩=false:=au K2.out
  go_upto_if 55 with (go_at_call 143;(with_reducible refine (HR.out _).mono ?_);rintro e3 w3 ⟨rfl,hb3⟩;have k1:=bU K1.out hb3;have k2:=bU K2.out hb3;have hb:=gq HB.out hb3;clear hc0 hf0 hb3;have hc0:∀ i,w3.cell? ⟨w.heap.size+1,i,none⟩=(_:Array Value)[i]?:=ag k2;have hf0:∀ i,w3.frozen? ⟨w.heap.size+1,i,none⟩=false:=au k2;have K1:=am k1;have K2:=am k2;have HB:=am hb;clear k1 k2 hb)
  go_cut [] (fun wc=>ae (wc.heap[w.heap.size]? = some (.cells #[.bool false, .bool false, .int .i64 0, .int .i64 0, .int .i64 0, .int .i64 0, .int .i64 0, .int .u64 0] 140 (0,0)))∧ae (wc.heap[w.heap.size+1]? = some (.cells #[.bool neg, .bool ones, .int .i64 r, .int .i64 R, .int .i64 0, .int .i64 0, .int .i64 0, .int .u64 0] 140 (0,0)))∧ae (Below w.heap.size w wc))
  case first =>
   cases ones
   all_goals
    obtain rfl:=HRR.out
    go_wp2
    go_meet
    case rel=>exact ⟨⟨(by apply Eq.trans;(repeat (first|(with_reducible exact K1.out)|(with_reducible exact K2.out)|(with_reducible apply iY)|(with_reducible apply lK)|(with_reducible apply gG (hp:=Nat.ne_of_lt (Nat.lt_succ_self _)))|(with_reducible apply gG (hp:=Nat.ne_of_gt (Nat.lt_succ_self _)))));rfl)⟩,⟨(by apply Eq.trans;(repeat (first|(with_reducible exact K1.out)|(with_reducible exact K2.out)|(with_reducible apply iY)|(with_reducible apply lK)|(with_reducible apply gG (hp:=Nat.ne_of_lt (Nat.lt_succ_self _)))|(with_reducible apply gG (hp:=Nat.ne_of_gt (Nat.lt_succ_self _)))));rfl)⟩,⟨(by repeat (first|(with_reducible exact HB.out)|(with_reducible apply aI)|(with_reducible refine bu ?_ (by first|exact Nat.le_refl _|exact Nat.le_succ _))))⟩⟩
  case rest =>
  clear hc0 hf0 K1 K2 HB
  obtain ⟨K1,K2,HB⟩:=hcut
  rename_i wc
  have hc0:∀ i,wc.cell? ⟨w.heap.size+1,i,none⟩=(_:Array Value)[i]?:=ag K2.out
  have hf0:∀ i,wc.frozen? ⟨w.heap.size+1,i,none⟩=false:=au K2.out
  go_upto_region 18 with (go_at_call 144;(with_reducible refine (HE.out _).mono ?_);rintro e4 w4 ⟨rfl,hw4⟩;obtain ⟨n4,rfl⟩:=hw4.out)
  go_cut [] (fun wc=>ae (wc.heap[w.heap.size]? = some (.cells #[.bool false, .bool false, .int .i64 0, .int .i64 0, .int .i64 0, .int .i64 0, .int .i64 0, .int .u64 0] 140 (0,0)))∧ae (wc.heap[w.heap.size+1]? = some (.cells #[.bool neg, .bool ones, .int .i64 r, .int .i64 R, .int .i64 E, .int .i64 (e * 2 ^ (2 - E).toNat), .int .i64 0, .int .u64 0] 140 (0,0)))∧ae (Below w.heap.size w wc))
  case first =>
   obtain rfl|rfl|rfl:E=0∨E=1∨E=2:=by omega
   all_goals
    go_wp2
    go_meet
    case rel=>exact ⟨⟨(by apply Eq.trans;(repeat (first|(with_reducible exact K1.out)|(with_reducible exact K2.out)|(with_reducible apply iY)|(with_reducible apply lK)|(with_reducible apply gG (hp:=Nat.ne_of_lt (Nat.lt_succ_self _)))|(with_reducible apply gG (hp:=Nat.ne_of_gt (Nat.lt_succ_self _)))));first|rfl|simp)⟩,⟨(by apply Eq.trans;(repeat (first|(with_reducible exact K1.out)|(with_reducible exact K2.out)|(with_reducible apply iY)|(with_reducible apply lK)|(with_reducible apply gG (hp:=Nat.ne_of_lt (Nat.lt_succ_self _)))|(with_reducible apply gG (hp:=Nat.ne_of_gt (Nat.lt_succ_self _)))));first|rfl|simp)⟩,⟨(by repeat (first|(with_reducible exact HB.out)|(with_reducible apply aI)|(with_reducible refine bu ?_ (by first|exact Nat.le_refl _|exact Nat.le_succ _))))⟩⟩
  case rest =>
  clear hc0 hf0 K1 K2 HB
  obtain ⟨K1,K2,HB⟩:=hcut
  rename_i wc
  have hc0:∀ i,wc.cell? ⟨w.heap.size+1,i,none⟩=(_:Array Value)[i]?:=ag K2.out
  have hf0:∀ i,wc.frozen? ⟨w.heap.size+1,i,none⟩=false:=au K2.out
  have hg1:∀ i,wc.cell? ⟨w.heap.size,i,none⟩=(_:Array Value)[i]?:=ag K1.out
  have hg2:∀ i,wc.frozen? ⟨w.heap.size,i,none⟩=false:=au K1.out
  go_wp2_with (go_at_call 144;(with_reducible refine (HG.out _).mono ?_);rintro e4 w4 ⟨rfl,hw4⟩;obtain ⟨n4,rfl⟩:=hw4.out)
  refine bodyPost_ret (bJ rfl _ _ w.heap.size 140 #[.bool _, .bool _, .int .i64 _, .int .i64 _, .int .i64 _, .int .i64 _, .int .i64 _, .int .u64 _] (0,0) _ rfl ?blk Tryz.underlying140 rfl (by kernel_rfl)) rfl ⟨rfl,?_⟩
  case blk=>exact (by apply Eq.trans;(repeat (first|(with_reducible exact K1.out)|(with_reducible exact K2.out)|(with_reducible apply iY)|(with_reducible apply lK)|(with_reducible apply gG (hp:=Nat.ne_of_lt (Nat.lt_succ_self _)))|(with_reducible apply gG (hp:=Nat.ne_of_gt (Nat.lt_succ_self _)))));rfl)
  exact (by repeat (first|(with_reducible exact HB.out)|(with_reducible apply aI)|(with_reducible refine bu ?_ (by first|exact Nat.le_refl _|exact Nat.le_succ _))))
theorem nZ.calls (k:Nat) (a0:Int) (a1:Int) (r1:Bool) (r2:Bool) (r3:Int) (r4:Int) (r5:Int) (r6:Int) (r7:Int) (r8:Int) (r9:Option Int) (w:World) (h:nZ.f k a0 a1=some (r1,r2,r3,r4,r5,r6,r7,r8,r9)) :
  Calls Tryz.prog 92 #[.int .i64 a0, .int .u64 a1] w fun e w'=>e = .returned (.tuple #[.agg #[.bool r1, .bool r2, .int .i64 r3, .int .i64 r4, .int .i64 r5, .int .i64 r6, .int .i64 r7, .int .u64 r8],qm r9])∧Below w.heap.size w w':=by
 unfold nZ.f at h
 obtain ⟨⟨b1,b2⟩,hb,h⟩:=Option.bind_eq_some_iff.mp h
 by_cases hc:b1=1∧b2=none∧8≤a0∧a0≤64
 case neg=>rw [if_neg hc] at h;exact absurd h (by simp)
 rw [if_pos hc] at h
 obtain ⟨rfl,rfl,h8,h64⟩:=hc
 obtain ⟨⟨c1,c2⟩,hk,h⟩:=Option.bind_eq_some_iff.mp h
 obtain ⟨⟨u1,u2,u3⟩,hu,h⟩:=Option.bind_eq_some_iff.mp h
 by_cases hr:1≤u2∧u2≤a0 - 1
 case neg=>rw [if_neg hr] at h;exact absurd h (by simp)
 rw [if_pos hr] at h
 unfold zZ at h
 obtain ⟨⟨e1,e2⟩,he,h⟩:=Option.bind_eq_some_iff.mp h
 obtain ⟨⟨g1,g2⟩,hg,h⟩:=Option.bind_eq_some_iff.mp h
 by_cases h0:0≤e1∧e1≤3
 case neg=>rw [if_neg h0] at h;exact absurd h (by simp)
 rw [if_pos h0] at h
 simp only [Option.some.injEq,Prod.mk.injEq] at h
 obtain ⟨rfl,rfl,rfl,rfl,rfl,rfl,rfl,rfl,rfl⟩:=h
 exact O4 k a0 a1 _ _ u1 u2 _ _ c1 e1 g1 e2 g2 c2 u3 w hb h8 h64 hk rfl rfl hu hr.1 hr.2 rfl rfl he hg h0.1 h0.2 _ rfl
end Go.Proofs.Yy.PTx
end
section
set_option maxHeartbeats 8000000
set_option maxRecDepth 100000
namespace Go.Proofs.Yy.PTx
open Go.RowKit Go.Proofs.Yy.Z Go.Proofs.Yw.PrintWords Go.Proofs.Yw.PrintLast Go.Proofs.Yw.PrintMore
open Go.Proofs.Yy.M
attribute [local go_sem] dw dQ lD lF lC lG
attribute [local go_sem] gy gz ja jc fC fD gQ gK
def bM.f (k:Nat) (a0:Int) (a1:Int):Option (Int × Bool × Int × Int × Option Int):=(jP.f a0 a1).bind fun Qw=>(if Qw.2.isNone=true then (if Qw.1=1 then ((nZ.f k a0 a1).bind fun Qx=>(if 0≤(wrap64 (63 - Qx.2.2.2.2.2.2.1)) then (some (Qw.1,Qx.1,wrap64 ((wrap64 (4 * Qx.2.2.2.1))+Qx.2.2.2.2.2.1),Go.bits .or .u64 9223372036854775808 (shl .u64 Qx.2.2.2.2.2.2.2.1 (wrap64 (63 - Qx.2.2.2.2.2.2.1))),none)) else (none))) else (some (Qw.1,false,0,0,none))) else (some (Qw.1,false,0,0,some (Qw.2.getD 0))))
def bM.T5:Bool × List (List Nat × List Nat):=(true, [([], []),([], []),([1], [1]),([], []),([3], [3]),([4], [4]),([], []),([6], [6]),([5,7], [5,7]),([], []),([9], [9]),([], []),([11], [11]),([12], [12]),([10,13], [10,13]),([14], [14]),([0,2,8,15], [0,2,8,15]),([16,0,1,2,3,4,5,6,7,8,9,10,11,12,13,14,15,16], [16]),([17,0,1,2,3,4,5,6,7,8,9,10,11,12,13,14,15,16,17], [])])
def bM.B5:List Nat := [0,0,2,0,8,24,0,64,248,0,512,0,2048,6144,15872,32256,65535,131071,262143]
theorem bM.ae1:rW .any (opsOf Tryz.f42 5)=bM.T5:=by kernel_rfl
theorem bM.Rl:jB bM.T5.2 bM.B5=true:=by kernel_rfl
theorem bM.calls (k:Nat) (a0:Int) (a1:Int) (r1:Int) (r2:Bool) (r3:Int) (r4:Int) (r5:Option Int) (w:World) (h:bM.f k a0 a1=some (r1,r2,r3,r4,r5)) :
    Calls Tryz.prog 42 #[.int .i64 a0, .int .u64 a1] w fun e w'=>e = .returned (.tuple #[.agg #[.int .i64 r1, .bool r2, .int .i64 r3, .int .u64 r4],qm r5])∧Below w.heap.size w w':=by
 have ad4:=Tryz.underlying77
 have anI:=Tryz.underlying140
 have yL:=Tryz.underlying27
 have hu64:=Tryz.underlying64
 have HB:=am (Below.refl w.heap.size w)
 have H:=am h
 unfold bM.f at H
 clear h
 replace H:=zo H
 obtain ⟨⟨t130,t131⟩,A3,H⟩:=H
 try dsimp only at H
 rcases t131 with _|aGc
 replace H:=zb1 H
 try simp only [ak,aj]
 replace H:=zsk H
 rcases H with ⟨kM,rY,H⟩|⟨kM,rY,c4,H⟩
 ·replace H:=zo H
  obtain ⟨⟨acz,ad5,ad6,acA,ad7,t138,t139,YK,t141⟩,A5,H⟩:=H
  try dsimp only at H
  generalize uI:(wrap64 (63 - t139):Int)=ji6 at H
  (try rw [uI] at A3)
  (try rw [uI] at A5)
  have UN:(IntKind.i64.wrap (63 - t139))=ji6:=(bI _).trans uI
  replace H:=zit H
  obtain ⟨wQ,Bh,H⟩:=H
  generalize sV:(shl .u64 YK (ji6):Int)=ji8 at H
  (try rw [sV] at A3)
  (try rw [sV] at A5)
  have Qv:(IntKind.u64.wrap (YK * 2 ^ min (ji6).toNat 64))=ji8:=sV
  have YE:(ji6)≤64→(IntKind.u64.wrap (YK * 2 ^ (ji6).toNat))=ji8:=iR sV
  obtain ⟨rfl,rfl,rfl,rfl,rfl⟩:=zJ5 H
  go_enter Tryz.func42,Tryz.ntmps42
  try go_wp2_with (first|((with_reducible refine ay (N:=4) rfl ?_);refine zx 4 77 #[.int .i64 0, .bool false, .int .i64 0, .int .u64 0] ?_;intro Qy hg w9 hbox hb;have oG:=am (hbox);have anJ:=zG hg HB;have anK:=zG hg HB;replace HB:=zBs HB hb;clear hb hbox hg)|((with_reducible refine af (f:=91) rfl ?_);refine zc (some 13) Tryz.func91 _ (jP.calls _ _ _ _ _ A3.out) ?_;rintro e w' ⟨rfl,⟨nd,rfl⟩⟩;refine ⟨_,rfl,?_⟩;(try simp only [ak,aj]);(try (rw [iT w9];generalize hq_:World.drewN w9 _=w9;have n0_:ae (w9.heap[Qy]? = some (.cells #[.int .i64 0, .bool false, .int .i64 0, .int .u64 0] 77 (0,0))):=⟨by rw [← hq_];exact (zK oG)⟩;have n1_:ae (Below w.heap.size w w9):=⟨by rw [← hq_];exact (zB HB)⟩;clear oG HB hq_;have oG:=n0_;have HB:=n1_;clear n0_ n1_)))|((with_reducible refine af (f:=92) rfl ?_);refine zc (some 28) Tryz.func92 _ (nZ.calls _ _ _ _ _ _ _ _ _ _ _ _ _ A5.out) ?_;rintro e w10 ⟨rfl,hb⟩;refine ⟨_,rfl,?_⟩;replace oG:=zKb oG hb;replace HB:=zBs HB hb;clear hb;(try simp only [ak,aj]))|((with_reducible refine ay (N:=8) rfl ?_);refine zx 8 140 #[.bool false, .bool false, .int .i64 0, .int .i64 0, .int .i64 0, .int .i64 0, .int .i64 0, .int .u64 0] ?_;intro lw hg w11 hbox hb;have xG:=am (hbox);have ayI:=zG hg HB;have ayJ:=zG hg HB;replace HB:=zBs HB hb;have ww:=zNl hg oG;have wz:=zNg hg oG;replace oG:=zKb oG hb;clear hb hbox hg;have agv:=wz.out;have agw:=ww.out;obtain ⟨_,_,_,_,_,_,_,_,_,_,_,_,_,_,_,_⟩:=zf8 xG))
  have n0_:ae (((((((((w11.setCell ⟨lw,0,none⟩ (.bool acz)).setCell ⟨lw,1,none⟩ (.bool ad5)).setCell ⟨lw,2,none⟩ (.int .i64 ad6)).setCell ⟨lw,3,none⟩ (.int .i64 acA)).setCell ⟨lw,4,none⟩ (.int .i64 ad7)).setCell ⟨lw,5,none⟩ (.int .i64 t138)).setCell ⟨lw,6,none⟩ (.int .i64 t139)).setCell ⟨lw,7,none⟩ (.int .u64 YK)).heap[Qy]? = some (.cells #[.int .i64 0, .bool false, .int .i64 0, .int .u64 0] 77 (0,0))):=⟨zK oG⟩
  have n1_:ae (((((((((w11.setCell ⟨lw,0,none⟩ (.bool acz)).setCell ⟨lw,1,none⟩ (.bool ad5)).setCell ⟨lw,2,none⟩ (.int .i64 ad6)).setCell ⟨lw,3,none⟩ (.int .i64 acA)).setCell ⟨lw,4,none⟩ (.int .i64 ad7)).setCell ⟨lw,5,none⟩ (.int .i64 t138)).setCell ⟨lw,6,none⟩ (.int .i64 t139)).setCell ⟨lw,7,none⟩ (.int .u64 YK)).heap[lw]? = some (.cells #[.bool acz, .bool ad5, .int .i64 ad6, .int .i64 acA, .int .i64 ad7, .int .i64 t138, .int .i64 t139, .int .u64 YK] 140 (0,0))):=⟨zKp xG⟩
  have n2_:ae (Below w.heap.size w ((((((((w11.setCell ⟨lw,0,none⟩ (.bool acz)).setCell ⟨lw,1,none⟩ (.bool ad5)).setCell ⟨lw,2,none⟩ (.int .i64 ad6)).setCell ⟨lw,3,none⟩ (.int .i64 acA)).setCell ⟨lw,4,none⟩ (.int .i64 ad7)).setCell ⟨lw,5,none⟩ (.int .i64 t138)).setCell ⟨lw,6,none⟩ (.int .i64 t139)).setCell ⟨lw,7,none⟩ (.int .u64 YK))):=⟨zB HB⟩
  (try clear oG)
  (try clear xG)
  (try clear HB)
  generalize ((((((((w11.setCell ⟨lw,0,none⟩ (.bool acz)).setCell ⟨lw,1,none⟩ (.bool ad5)).setCell ⟨lw,2,none⟩ (.int .i64 ad6)).setCell ⟨lw,3,none⟩ (.int .i64 acA)).setCell ⟨lw,4,none⟩ (.int .i64 ad7)).setCell ⟨lw,5,none⟩ (.int .i64 t138)).setCell ⟨lw,6,none⟩ (.int .i64 t139)).setCell ⟨lw,7,none⟩ (.int .u64 YK))=w14 at n0_ n1_ n2_ ⊢
  have oG:=n0_
  have xG:=n1_
  have HB:=n2_
  clear n0_ n1_ n2_
  replace oG:=am (dS oG.out)
  replace xG:=am (dS xG.out)
  replace HB:=am (aZ HB.out)
  refine ny (n:=19) (S:=fun w'=>w'.cell? ⟨lw,0,none⟩=some (.bool acz)∧w'.cell? ⟨lw,1,none⟩=some (.bool ad5)∧w'.cell? ⟨lw,2,none⟩=some (.int .i64 ad6)∧w'.cell? ⟨lw,3,none⟩=some (.int .i64 acA)∧w'.cell? ⟨lw,4,none⟩=some (.int .i64 ad7)∧w'.cell? ⟨lw,5,none⟩=some (.int .i64 t138)∧w'.cell? ⟨lw,6,none⟩=some (.int .i64 t139)∧w'.cell? ⟨lw,7,none⟩=some (.int .u64 YK)) (ds := []) (Array.replicate 19 false) (by kernel_rfl) rfl rfl ⟨(ag xG.out 0).trans rfl,(ag xG.out 1).trans rfl,(ag xG.out 2).trans rfl,(ag xG.out 3).trans rfl,(ag xG.out 4).trans rfl,(ag xG.out 5).trans rfl,(ag xG.out 6).trans rfl,(ag xG.out 7).trans rfl⟩ (fun hHeld=>?_);refine iw bM.ae1 bM.Rl (fun HT_ HW_=>?_)
  generalize w14.drew=w15 at oG xG HB hHeld ⊢
  refine zp HT_ 0 (some 31) ?_
  refine zp HT_ 1 (some 32) ?_
  refine zp HT_ 3 (some 34) ?_
  refine zp HT_ 6 (some 37) ?_
  refine zp HT_ 9 (some 40) ?_
  refine zp HT_ 11 (some 42) ?_
  refine zt HT_ HW_ 2 (some 33) hHeld ?_
  refine zt HT_ HW_ 4 (some 35) hHeld ?_
  refine zp HT_ 5 (some 36) ?_
  refine zt HT_ HW_ 7 (some 38) hHeld ?_
  refine zp HT_ 8 (some 39) ?_
  refine zt HT_ HW_ 10 (some 41) hHeld ?_
  refine zt HT_ HW_ 12 (some 43) hHeld ?_
  refine zp HT_ 13 (some 44) ?_
  refine zp HT_ 14 (some 45) ?_
  refine zp HT_ 15 (some 46) ?_
  refine zp HT_ 16 (some 47) ?_
  refine zu HT_ 17 none (fun K hK=>?_)
  have ayc:=zl oG 0
  have amV:=au oG.out 0
  have anL:=wz.out
  have anM:=ww.out
  have ayd:=zl oG 1
  have amY:=au oG.out 1
  have anN:=wz.out
  have anO:=ww.out
  have aGd:=zl oG 2
  have ayK:=au oG.out 2
  have anP:=wz.out
  have anQ:=ww.out
  have aGe:=zl oG 3
  have ayL:=au oG.out 3
  have anR:=wz.out
  have anS:=ww.out
  refine vK (w1:=?_) (by rfl) rfl ?_ ?_
  rotate_left
  ·go_simp
   rfl
  refine hK.out _ _ ⟨(zh hHeld),(zh hHeld),(zh hHeld),(zh hHeld),(zh hHeld),(zh hHeld),(zh hHeld),(zh hHeld)⟩ (fun hHeld=>?_)
  clear hK K
  refine zp HT_ 18 (some 5) ?_
  refine o6 (jd HT_.out (by kernel_rfl)) ?_
  try go_wp2
  refine bodyPost_ret (bJ rfl _ _ Qy 77 #[.int .i64 t130, .bool acz, .int .i64 (wrap64 ((wrap64 (4 * acA))+t138)), .int .u64 (Go.bits .or .u64 9223372036854775808 (ji8))] (0,0) _ rfl (zKp oG) Tryz.underlying77 rfl (by kernel_rfl)) rfl ?_
  exact ⟨by first|exact z3|(simp only [← uI, ← sV];exact z3)|exact z2,zB HB⟩
 obtain ⟨rfl,rfl,rfl,rfl,rfl⟩:=zJ5 H
 rotate_left
 replace H:=zb0 H
 try simp only [Option.getD_some] at H
 try simp only [ak,aj]
 obtain ⟨rfl,rfl,rfl,rfl,rfl⟩:=zJ5 H
 rotate_left
 all_goals (go_enter Tryz.func42,Tryz.ntmps42;go_wp2_with (first|((with_reducible refine ay (N:=4) rfl ?_);refine zx 4 77 #[.int .i64 0, .bool false, .int .i64 0, .int .u64 0] ?_;intro Qy hg w20 hbox hb;have oG:=am (hbox);have anJ:=zG hg HB;have anK:=zG hg HB;replace HB:=zBs HB hb;clear hb hbox hg)|((with_reducible refine af (f:=91) rfl ?_);refine zc (some 13) Tryz.func91 _ (jP.calls _ _ _ _ _ A3.out) ?_;rintro e w' ⟨rfl,⟨nd,rfl⟩⟩;refine ⟨_,rfl,?_⟩;(try simp only [ak,aj]);(try (rw [iT w20];generalize hq_:World.drewN w20 _=w20;have n0_:ae (w20.heap[Qy]? = some (.cells #[.int .i64 0, .bool false, .int .i64 0, .int .u64 0] 77 (0,0))):=⟨by rw [← hq_];exact (zK oG)⟩;have n1_:ae (Below w.heap.size w w20):=⟨by rw [← hq_];exact (zB HB)⟩;clear oG HB hq_;have oG:=n0_;have HB:=n1_;clear n0_ n1_));obtain ⟨_,_,_,_,_,_,_,_⟩:=zf4 oG)))
 all_goals
  refine bodyPost_ret (bJ rfl _ _ Qy 77 #[.int .i64 t130, .bool false, .int .i64 0, .int .u64 0] (0,0) _ rfl (zKp oG) Tryz.underlying77 rfl (by kernel_rfl)) rfl ?_
  exact ⟨z2,zB HB⟩
def bG.l0:Nat→List Int→Int→Option (List Int)
  | 0,_,_=>none
  | k+1,x0,x3=>if x3 > 0 then (if 0≤(wrap64 (x3 - 1)) then (if (wrap64 (x3 - 1))<(x0.length:Int) then (if (rd x0 (wrap64 (x3 - 1)))=0 then (bG.l0 k x0 (wrap64 (x3 - 1))) else (if 0≤x3 then (if x3≤(x0.length:Int) then (some (x0.take (x3:Int).toNat)) else (none)) else (none))) else (none)) else (none)) else (if 0≤x3 then (if x3≤(x0.length:Int) then (some (x0.take (x3:Int).toNat)) else (none)) else (none))
def bG.f (k:Nat) (l0:List Int):Option (List Int):=bG.l0 k l0 (l0.length:Int)
theorem bG.calls (k:Nat) (P0_:Nat→Prop) (A0:Option Addr) (c0:Nat) (l0:List Int) (r:List Int) (w:World) (hs0:Kd.V (Kd.int .u64) 25 w w.heap.size (fun k_=>P0_ k_) (.slice A0 l0.length c0) l0) (h:bG.f k l0=some r) :
    Calls Tryz.prog 103 #[.slice A0 l0.length c0] w fun e w' => ∃ v0_:Value,e = .returned (v0_)∧Kd.V (Kd.int .u64) 25 w' w.heap.size (fun k_=>(P0_ k_∨w.heap.size≤k_)) v0_ r∧Below w.heap.size w w':=by
 have HO0:=am (show Kd.V (Kd.int .u64) 25 w w.heap.size (fun k_=>(P0_ k_∨w.heap.size≤k_)) (.slice A0 l0.length c0) l0 from Kd.bD hs0 (fun k_ hk => .inl hk))
 have HB:=am (Below.refl w.heap.size w)
 have H:=am h
 unfold bG.f at H
 clear h
 go_enter Tryz.func103,Tryz.ntmps103
 go_wp2
 go_loopg [3] k (fun kq v3 w' => ∃ (gY:Int),v3 = .int .i64 gY∧ae (bG.l0 kq l0 gY=some r)∧ae (kq≤k)∧ae (Kd.V (Kd.int .u64) 25 w' w.heap.size (fun k_=>(P0_ k_∨w.heap.size≤k_)) (.slice A0 l0.length c0) l0)∧ae (Below w.heap.size w w'))
 case atStart=>exact ⟨((l0.length:Int)),z1,H,zL,⟨zV HO0⟩,⟨zB HB⟩⟩
 clear H
 obtain ⟨gY,rfl,H,HK1,iU,HB⟩:=hrel
 obtain _|k1:=gk
 ·exact zz H rfl
 simp only [bG.l0] at H
 replace H:=Em H
 rcases H with ⟨uU,H⟩|⟨uU,H⟩
 generalize JC:(wrap64 (gY - 1):Int)=ji3 at H
 have YL:(IntKind.i64.wrap (gY - 1))=ji3:=(bI _).trans JC
 replace H:=zid H
 obtain ⟨kM,H⟩:=H
 replace H:=zid H
 obtain ⟨rG,H⟩:=H
 replace H:=zsk H
 rcases H with ⟨rF,Bg,H⟩|⟨rF,Bg,c6,H⟩
 obtain ⟨ayM,ayN,YM,rfl,acB⟩:=zA (Kd.dH (Kd.aX iU.out).2.2 (ji3))
 rotate_left
 replace H:=zit H
 obtain ⟨wQ,Bh,H⟩:=H
 replace H:=zit H
 obtain ⟨uD,Ey,H⟩:=H
 generalize agS:(l0.take (gY:Int).toNat:List Int)=agT at H
 have agU:=zY agS
 clear agS
 obtain rfl:=Option.some.inj H.out
 obtain ⟨ayM,ayN,YM,rfl,acB⟩:=zA (Kd.dH (Kd.aX iU.out).2.2 (ji3))
 have q9:(gY:Int)≤((l0.length:Int):Int):=zD
 obtain ⟨i09,as7,_,ayO,_⟩:=info_parts info25
 have ZR:l0.length≤c0:=(Kd.aX iU.out).2.1
 have hC9:Kd.F (Kd.int .u64) _ _ (some YM) l0.length l0:=(Kd.WQ (base:=w.heap.size) iU.out).2.2
 have anT:=J9 (P:=Tryz.prog) 88 25 .i64 .i64 Tryz.underlying88 as7 (some YM) l0.length c0 gY (zD) q9 ZR
 have hr9:=Kd.Jl (m:=(gY:Int).toNat) hC9 (by omega)
 have hy9:agT.length=(gY:Int).toNat:=(by rw [agU.out,List.length_take];omega)
 rw [← agU.out] at hr9
 rw [← hy9] at anT
 have anU:=am (show Kd.V (Kd.int .u64) 25 _ w.heap.size _ (.slice (some YM) agT.length agT.length) agT from Kd.Ih (Nat.le_refl _) hr9)
 have ayP:=am (Nat.le_refl agT.length)
 clear hr9 hC9 ZR as7 ayO
 have KY9:=am hy9
 clear hy9
 replace q9:=eq_true q9
 rotate_left
 replace H:=zit H
 obtain ⟨qx,xx,H⟩:=H
 replace H:=zit H
 obtain ⟨mY,tN,H⟩:=H
 generalize agV:(l0.take (gY:Int).toNat:List Int)=agW at H
 have agX:=zY agV
 clear agV
 obtain rfl:=Option.some.inj H.out
 have q12:(gY:Int)≤((l0.length:Int):Int):=zD
 obtain ⟨aGf,agY,_,anV,_⟩:=info_parts info25
 have Vo:l0.length≤c0:=(Kd.aX iU.out).2.1
 have as8:Kd.F (Kd.int .u64) _ _ A0 l0.length l0:=(Kd.WQ (base:=w.heap.size) iU.out).2.2
 have agZ:=J9 (P:=Tryz.prog) 88 25 .i64 .i64 Tryz.underlying88 agY A0 l0.length c0 gY (zD) q12 Vo
 have anW:=Kd.Jl (m:=(gY:Int).toNat) as8 (by omega)
 have anX:agW.length=(gY:Int).toNat:=(by rw [agX.out,List.length_take];omega)
 rw [← agX.out] at anW
 rw [← anX] at agZ
 have anY:=am (show Kd.V (Kd.int .u64) 25 _ w.heap.size _ (.slice A0 agW.length agW.length) agW from Kd.Ih (Nat.le_refl _) anW)
 have ayQ:=am (Nat.le_refl agW.length)
 clear anW as8 Vo agY anV
 have aGg:=am anX
 clear anX
 replace q12:=eq_true q12
 rotate_left
 all_goals (go_wp2)
 ·go_roundg k1
  case measure=>have:=HK1.out;omega
  case rel=>exact ⟨(ji3),(by first|rfl|(simp;done)|(simp only [← JC] <;> (first|rfl|simp))|(simp [*];done)),H,(zH HK1),⟨zV iU⟩,⟨zB HB⟩⟩
 ·go_ret
  exact ⟨_,by first|exact z3|(simp only [← JC];exact z3)|exact z2,zV anU,zB HB⟩
 go_ret
 exact ⟨_,z2,zV anY,zB HB⟩
def rV.f (k:Nat) (a0:Int):Option (List Int):=(bG.f k (([a0]:List Int))).bind fun t157=>(some t157)
theorem rV.calls (k:Nat) (a0:Int) (r:List Int) (w:World) (h:rV.f k a0=some r) :
    Calls Tryz.prog 48 #[.int .u64 a0] w fun e w' => ∃ v0_:Value,e = .returned (v0_)∧Kd.V (Kd.int .u64) 25 w' w.heap.size (fun k_=>(w.heap.size≤k_)) v0_ r∧Below w.heap.size w w':=by
 have HB:=am (Below.refl w.heap.size w)
 have H:=am h
 unfold rV.f at H
 clear h
 generalize ag0:(([a0]:List Int):List Int)=as9 at H
 have ag1:=zY ag0
 clear ag0
 replace H:=zo H
 obtain ⟨t157,A2,H⟩:=H
 obtain rfl:=Option.some.inj H.out
 go_enter Tryz.func48,Tryz.ntmps48
 go_wp2_with (first|((with_reducible refine ay (N:=4) rfl ?_);refine Kd.yx (Kd.int .u64) _ 25 ?hg (N:=4) ?hd (xs:=([a0]:List Int)) (inner := [.int .u64 a0]) (ok:=fun _=>True) (okp:=fun _=>True) ?hr ?hp (fun _ hk=>hk) trivial (Below.refl _ _) (Nat.le_refl _) (by simp) ?_;(case hd=>rfl);(case hg=>rfl);(case hr=>first|(go_simp;done)|(go_simp;rfl));(case hp=>exact (jm.one (show Kd.M (Kd.int .u64) _ _ _ a0 [.int .u64 a0] from rfl) (jm.none _ _)));intro aGh w3 ho4 hb hg_ jf;clear hg_ jf;(first|rw [← ag1.out] at ho4|(simp only [Int.reduceToNat] at ho4;rw [← ag1.out] at ho4));have Vp:=am (Kd.eP (Kd.nM (M:=fun k_=>(w.heap.size≤k_)) ho4 (zS HB) (fun k_ h_=>h_)) (zS HB));replace HB:=zBs HB hb;clear hb ho4;obtain ⟨Ao5,co5,eo5⟩:=Kd.eF Vp.out;subst eo5)|((with_reducible refine af (f:=103) rfl ?_);refine zc (some 5) Tryz.func103 #[.slice Ao5 as9.length co5] (bG.calls _ (fun k_=>some k_=(.slice Ao5 as9.length co5:Value).ownBlock) _ _ _ _ _ (Kd.R_V (Kd.jY rfl (Vp.out))) A2.out) ?_;rintro e w6 ⟨aGi,rfl,ho0,hb⟩;refine ⟨_,rfl,?_⟩;have anZ:=am (Kd.df (Kd.bD (ok':=fun k_=>(w.heap.size≤k_)) ho0 (fun k_ hk_=>Or.elim hk_ (fun hs_=>((Vp.out).1 k_ hs_.symm).1) (fun hn_=>(Nat.le_trans (zS HB) hn_)))) (zS HB));replace Vp:=zRb Vp hb;replace HB:=zBs HB hb;clear hb ho0))
 go_ret
 exact ⟨_,z2,zV anZ,zB HB⟩
end Go.Proofs.Yy.PTx
end
