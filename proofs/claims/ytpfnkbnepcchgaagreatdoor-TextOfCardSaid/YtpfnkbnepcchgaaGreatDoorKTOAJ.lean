/- Part 10. -/
import Derived.Lib.Hide
import Derived.Test.YtpfnkbnepcchgaaGreatDoorKTOAI
set_option linter.unusedSimpArgs false
set_option linter.unusedVariables false
section
set_option maxHeartbeats 8000000
set_option maxRecDepth 100000
namespace Go.Proofs.Yy.PTx
open Go.RowKit Go.Proofs.Yy.Z Go.Proofs.Yw.PrintWords Go.Proofs.Yw.PrintLast Go.Proofs.Yw.PrintMore
open Go.Proofs.Yy.M
attribute [local go_sem] dP eU lV lX lW lU
attribute [local go_sem] iq ik jE jD gu gq iE iD
def bits_LeadingZeros64.f (k:Nat)(a0:Int):Option (Int):=(bits_Len64.f k a0).bind fun t124=>(some (wrap64 (64-t124)))
theorem bits_LeadingZeros64.calls (k:Nat)(a0:Int)(r:Int)(w:World)(h:bits_LeadingZeros64.f k a0=some r) :
    Calls Tryz.prog 184 #[.int .u64 a0] w fun e w'=>e=.returned (.int .i64 r)∧dX w w':=by
 have H:=am h;unfold bits_LeadingZeros64.f at H;clear h;replace H:=zo H;obtain⟨t124,A2,H⟩:=H;obtain rfl:=Option.some.inj H.out
 go_enter Tryz.func184,Tryz.ntmps184
 go_wp2_with (first|((with_reducible refine af (f:=152) rfl ?_);refine zc (some 4) Tryz.func152 _ (bits_Len64.calls _ _ _ _ A2.out) ?_;rintro e w' ⟨rfl,⟨nd,rfl⟩⟩;refine⟨_,rfl,?_⟩))
 go_ret
 exact⟨z1,z4⟩
def o8.j0:Nat→Int→Int→Bool→Option (Bool × Int × Option Int)
  | 0,_,_,_=>none
  | k+1,x0,x1,x13=>if x13=true then (some (false,0,some 1)) else (if 0≤(wrap64 (64-x1)) then (if ((shl .u64 x0 (wrap64 (64-x1))) / 9223372036854775808)=1 then ((bits_LeadingZeros64.f k (Go.bits .xor .u64 18446744073709551615 (shl .u64 x0 (wrap64 (64-x1))))).bind fun ag7=>(some ((((shl .u64 x0 (wrap64 (64-x1))) / 9223372036854775808) == 1),mn ag7 x1,none))) else ((bits_LeadingZeros64.f k (shl .u64 x0 (wrap64 (64-x1)))).bind fun ag8=>(some ((((shl .u64 x0 (wrap64 (64-x1))) / 9223372036854775808) == 1),mn ag8 x1,none)))) else (none))
def o8.f (k:Nat)(a0:Int)(a1:Int):Option (Bool × Int × Option Int):=if a1<1 then (o8.j0 k a0 a1 true) else (o8.j0 k a0 a1 (decide (a1 > 64)))
theorem o8.calls (k:Nat)(a0:Int)(a1:Int)(r1:Bool)(r2:Int)(r3:Option Int)(w:World)(h:o8.f k a0 a1=some (r1,r2,r3)) :
    Calls Tryz.prog 143 #[.int .u64 a0,.int .i64 a1] w fun e w'=>e=.returned (.tuple #[.bool r1,.int .i64 r2,qL r3])∧Below w.heap.size w w':=by
 have zq:=Tryz.underlying27;have hu64:=Tryz.underlying64;have HB:=am (Below.refl w.heap.size w);have H:=am h;unfold o8.f at H;clear h
 go_enter Tryz.func143,Tryz.ntmps143
 go_upto_region 1 with (fail)
 go_cut [13] (fun v13 wc => ∃ (kq:Nat) (Hz:Bool),v13=.bool Hz∧ae (o8.j0 kq a0 a1 Hz=some (r1,r2,r3))∧ae (kq≤k)∧ae (Below w.heap.size w wc))
 case first =>
  replace H:=zsd H;rcases H with⟨jV,H⟩|⟨jV,H⟩
  (first|rw[jV]|(simp only[bW,fV];rw[jV])|rw[rZ]|skip)
  rotate_left
  (first|rw[jV]|(simp only[bW,fV];rw[jV])|rw[rZ]|skip)
  rotate_left
  all_goals (go_wp2)
  ·go_meet
   case rel=>exact⟨_,(true),z1,H,⟨z5⟩,⟨zB HB⟩⟩
  go_meet
  case rel=>exact⟨_,(decide (a1 > 64)),z1,H,⟨z5⟩,⟨zB HB⟩⟩
 case rest =>
  obtain⟨kq,Hz,rfl,H,HJ2,HB⟩:=hcut;obtain _|kj2:=kq
  ·exact zz H rfl
  simp only[o8.j0]at H
  cases Hz
  replace H:=zb0 H;generalize uS:(wrap64 (64-a1):Int)=ji6 at H;have Vk:(IntKind.i64.wrap (64-a1))=ji6:=(bW _).trans uS;replace H:=zit H;obtain⟨yE,DJ,H⟩:=H;generalize ui:(shl .u64 a0 (ji6):Int)=ji8 at H;have Qv:(IntKind.u64.wrap (a0*2 ^ min (ji6).toNat 64))=ji8:=ui;have YQ:(ji6)≤64→(IntKind.u64.wrap (a0*2 ^ (ji6).toNat))=ji8:=iY ui;replace H:=zsk H;rcases H with⟨vF,BD,H⟩|⟨vF,BD,c9,H⟩;replace H:=zo H;obtain⟨ag7,A10,H⟩:=H;generalize HY:(mn ag7 a1:Int)=ag9 at H
  (try rw[HY]at A10)
  have aun:(if a1<ag7 then a1 else ag7)=ag9:=HY;obtain⟨rfl,rfl,rfl⟩:=zJ3 H;rotate_left;replace H:=zo H;obtain⟨ag8,A12,H⟩:=H;generalize qO:(mn ag8 a1:Int)=qI at H
  (try rw[qO]at A12)
  have U5:(if a1<ag8 then a1 else ag8)=qI:=qO;obtain⟨rfl,rfl,rfl⟩:=zJ3 H;rotate_left;replace H:=zb1 H;obtain⟨rfl,rfl,rfl⟩:=zJ3 H;rotate_left
  all_goals (go_wp2_with (first|((with_reducible refine af (f:=184) rfl ?_);refine jS (some 27) rfl rfl Tryz.func184 (by kernel_rfl) rfl #[.int .u64 (Go.bits .xor .u64 18446744073709551615 (ji8))] rfl (by (try simp only[List.map_toArray,List.map_cons,List.map_nil]);first|done|(simp only[ui];rfl)|rfl|(simp only[List.length_drop,List.length_take];rfl)) ?_;(with_reducible refine (bits_LeadingZeros64.calls _ _ _ _ A10.out).mono ?_);rintro e w' ⟨rfl,⟨nd,rfl⟩⟩;refine⟨_,rfl,?_⟩)|((with_reducible refine af (f:=184) rfl ?_);refine jS (some 27) rfl rfl Tryz.func184 (by kernel_rfl) rfl #[.int .u64 ji8] rfl (by (try simp only[List.map_toArray,List.map_cons,List.map_nil]);first|done|(simp only[ui];rfl)|rfl|(simp only[List.length_drop,List.length_take];rfl)) ?_;(with_reducible refine (bits_LeadingZeros64.calls _ _ _ _ A12.out).mono ?_);rintro e w' ⟨rfl,⟨nd,rfl⟩⟩;refine⟨_,rfl,?_⟩)))
  ·go_ret3
   exact⟨by first|exact z3|(simp only[← uS, ← ui, ← HY];exact z3)|exact z2,zB HB⟩
  ·go_ret3
   exact⟨by first|exact z3|(simp only[← uS, ← ui, ← qO];exact z3)|exact z2,zB HB⟩
  go_ret3
  exact⟨z2,zB HB⟩
def nN.f (a0:Int)(a1:Int):Option (Bool):=if a0≥0 then (if a0≤64 then (if a1≥0 then (some (decide (a1≤(wrap64 (64-a0))))) else (some false)) else (some false)) else (some false)
theorem nN.calls (a0:Int)(a1:Int)(r:Bool)(w:World)(h:nN.f a0 a1=some r) :
    Calls Tryz.prog 185 #[.int .i64 a0,.int .i64 a1] w fun e w'=>e=.returned (.bool r)∧dX w w':=by
 have H:=am h;unfold nN.f at H;clear h;replace H:=yD H;rcases H with⟨pK,H⟩|⟨pK,H⟩;replace H:=zsd H;rcases H with⟨jV,H⟩|⟨jV,H⟩;replace H:=yD H;rcases H with⟨qN,H⟩|⟨qN,H⟩;obtain rfl:=Option.some.inj H.out;rotate_left;obtain rfl:=Option.some.inj H.out;rotate_left;obtain rfl:=Option.some.inj H.out;rotate_left;obtain rfl:=Option.some.inj H.out;rotate_left
 all_goals (go_enter Tryz.func185,Tryz.ntmps185;go_wp2)
 ·go_ret
  exact⟨z1,z4⟩
 ·go_ret
  exact⟨z1,z4⟩
 ·go_ret
  exact⟨z1,z4⟩
 go_ret
 exact⟨z1,z4⟩
def nP.f (a0:Int)(a1:Int)(a2:Int):Option (Int × Option Int):=(nN.f a1 a2).bind fun t127=>(if t127=true then (if 0≤a1 then ((o7.f a2).bind fun akV=>(some (Go.bits .and .u64 (shr .u64 a0 a1) akV,none))) else (none)) else (some (0,some 1)))
theorem nP.calls (a0:Int)(a1:Int)(a2:Int)(r1:Int)(r2:Option Int)(w:World)(h:nP.f a0 a1 a2=some (r1,r2)) :
    Calls Tryz.prog 144 #[.int .u64 a0,.int .i64 a1,.int .i64 a2] w fun e w'=>e=.returned (.tuple #[.int .u64 r1,qL r2])∧dX w w':=by
 have zq:=Tryz.underlying27;have hu64:=Tryz.underlying64;have H:=am h;unfold nP.f at H;clear h;replace H:=zo H;obtain⟨t127,A4,H⟩:=H
 cases t127
 replace H:=zb0 H;obtain⟨rfl,rfl⟩:=zJ2 H;rotate_left;replace H:=zb1 H;replace H:=zit H;obtain⟨qV,BB,H⟩:=H;generalize Gh:(shr .u64 a0 a1:Int)=ji7 at H
 (try rw[Gh]at A4)
 have YU:(a0 / 2 ^ min a1.toNat 64)=ji7:=Gh;have ac4:a1≤64→(a0 / 2 ^ a1.toNat)=ji7:=kH Gh;replace H:=zo H;obtain⟨akV,A8,H⟩:=H;obtain⟨rfl,rfl⟩:=zJ2 H;rotate_left
 all_goals (go_enter Tryz.func144,Tryz.ntmps144;go_wp2_with (first|(go_at_call 185;(with_reducible refine (nN.calls _ _ _ _ A4.out).mono ?_);rintro e w' ⟨rfl,⟨nd,rfl⟩⟩;(try first|exact⟨rfl,_,World.drewN_drewN _ _ _⟩|exact⟨rfl,_,Eq.trans (World.drewN_drewN _ _ _) (congrArg (World.drewN _) (Nat.add_assoc _ _ _))⟩))|(go_at_call 181;(with_reducible refine (o7.calls _ _ _ A8.out).mono ?_);rintro e w' ⟨rfl,⟨nd,rfl⟩⟩;(try first|exact⟨rfl,_,World.drewN_drewN _ _ _⟩|exact⟨rfl,_,Eq.trans (World.drewN_drewN _ _ _) (congrArg (World.drewN _) (Nat.add_assoc _ _ _))⟩))))
 ·repeat (go_quiet (first|(go_at_call 185;(with_reducible refine (nN.calls a1 a2 false _ A4.out).mono ?_);rintro e w' ⟨rfl,⟨nd,rfl⟩⟩;(try first|exact⟨rfl,_,World.drewN_drewN _ _ _⟩|exact⟨rfl,_,Eq.trans (World.drewN_drewN _ _ _) (congrArg (World.drewN _) (Nat.add_assoc _ _ _))⟩)));try go_wp2_with (first|(go_at_call 185;(with_reducible refine (nN.calls a1 a2 false _ A4.out).mono ?_);rintro e w' ⟨rfl,⟨nd,rfl⟩⟩;(try first|exact⟨rfl,_,World.drewN_drewN _ _ _⟩|exact⟨rfl,_,Eq.trans (World.drewN_drewN _ _ _) (congrArg (World.drewN _) (Nat.add_assoc _ _ _))⟩))))
  go_ret2
  exact⟨z1,z4⟩
 repeat (go_quiet (first|(go_at_call 185;(with_reducible refine (nN.calls a1 a2 true _ A4.out).mono ?_);rintro e w' ⟨rfl,⟨nd,rfl⟩⟩;(try first|exact⟨rfl,_,World.drewN_drewN _ _ _⟩|exact⟨rfl,_,Eq.trans (World.drewN_drewN _ _ _) (congrArg (World.drewN _) (Nat.add_assoc _ _ _))⟩))|(go_at_call 181;(with_reducible refine (o7.calls a2 akV _ A8.out).mono ?_);rintro e w' ⟨rfl,⟨nd,rfl⟩⟩;(try first|exact⟨rfl,_,World.drewN_drewN _ _ _⟩|exact⟨rfl,_,Eq.trans (World.drewN_drewN _ _ _) (congrArg (World.drewN _) (Nat.add_assoc _ _ _))⟩)));try go_wp2_with (first|(go_at_call 185;(with_reducible refine (nN.calls a1 a2 true _ A4.out).mono ?_);rintro e w' ⟨rfl,⟨nd,rfl⟩⟩;(try first|exact⟨rfl,_,World.drewN_drewN _ _ _⟩|exact⟨rfl,_,Eq.trans (World.drewN_drewN _ _ _) (congrArg (World.drewN _) (Nat.add_assoc _ _ _))⟩))|(go_at_call 181;(with_reducible refine (o7.calls a2 akV _ A8.out).mono ?_);rintro e w' ⟨rfl,⟨nd,rfl⟩⟩;(try first|exact⟨rfl,_,World.drewN_drewN _ _ _⟩|exact⟨rfl,_,Eq.trans (World.drewN_drewN _ _ _) (congrArg (World.drewN _) (Nat.add_assoc _ _ _))⟩))))
 go_ret2
 exact⟨by first|rfl|(simp;done)|(simp only[← Gh] <;> (first|rfl|simp))|(simp[*];done),z4⟩
end Go.Proofs.Yy.PTx
end
section
namespace Go.Proofs.Yy.PTx
open Go.RowKit Go.Proofs.Yw.PrintWords Go.Proofs.Yw.PrintLast Go.Proofs.Yw.PrintMore Go.Proofs.Yy.M
attribute [local go_sem] iq ik
def F5 (q n:Int)(neg ones:Bool)(r left eb:Int):Option (Bool × Bool × Int × Int × Int × Int × Int × Int × Option Int) :=
 (nP.f q (left-eb) eb).bind fun e=>(nP.f q 0 (left-eb)).bind fun g =>
  if 0≤e.1∧e.1≤3 then some (neg,ones,r,(if ones=true then r-1 else -r),eb,e.1*2 ^ (2-eb).toNat,left-eb,g.1,none) else none
def F8 (n r:Int):Int:=max (n-1-r-1) 0
def XM (l:Int):Int:=min l 2
def rP.f (k:Nat)(n p:Int):Option (Bool × Bool × Int × Int × Int × Int × Int × Int × Option Int) :=
 (kY.f n p).bind fun b=>if b.1=1∧b.2=none∧8≤n∧n≤64 then
  (rG.f n p).bind fun c=>(o8.f k (if c.1<0 then IntKind.u64.wrap (-p) else p) (n-1)).bind fun u =>
   if 1≤u.2.1∧u.2.1≤n-1 then F5 (if c.1<0 then IntKind.u64.wrap (-p) else p) n (decide (c.1<0)) u.1 u.2.1 (F8 n u.2.1) (XM (F8 n u.2.1))
   else none
 else none
theorem size_two (w:World)(o:Obj)(n:Nat):((w.alloc o).drewN n).heap.size=w.heap.size+1:=by simp
theorem wY {W:World}{o:Obj}{g:Nat}(h:W.heap.size=g):(W.alloc o).heap[g]? = some o:=by subst h;exact vS W o
set_option maxHeartbeats 4000000 in
set_option maxRecDepth 100000 in
theorem Pi (k:Nat)(n p:Int)(q:Int)(neg ones:Bool)(r L E:Int)(c:Int)(e g:Int)(eo go_ co ro:Option Int)(w:World)
  (hk:kY.f n p=some (1,none)) (h8:8≤n) (h64:n≤64) (hc:rG.f n p=some (c,co)) (hneg:neg=decide (c<0)) (hq:q=if c<0 then IntKind.u64.wrap (-p) else p)
  (hr:o8.f k q (n-1)=some (ones,r,ro)) (hr1:1≤r) (hr2:r≤n-1) (hl:max (n-1-r-1) 0=L) (heb:min L 2=E)
  (he:nP.f q (L-E) E=some (e,eo)) (hg:nP.f q 0 (L-E)=some (g,go_)) (he0:0≤e) (he3:e≤3) (R:Int) (hR:R=if ones=true then r-1 else -r) :
  Calls Tryz.prog 92 #[.int .i64 n,.int .u64 p] w fun e' w'=>e'=.returned (.tuple #[.agg #[.bool neg,.bool ones,.int .i64 r,.int .i64 R,.int .i64 E,.int .i64 (e*2 ^ (2-E).toNat),.int .i64 (L-E),.int .u64 g],.nilIface])∧Below w.heap.size w w':=by
 have HRR:=Lib.hid hR;clear hR
 have hL0:0≤L:=by omega
 have hL1:L≤64:=by omega
 have hE0:0≤E:=by omega
 have hE2:E≤2:=by omega
 have hEL:E≤L:=by omega
 have hkK:∀ W:World,Calls Tryz.prog 91 #[.int .i64 n,.int .u64 p] W fun e' w'=>e'=.returned (.tuple #[.int .i64 1,.nilIface])∧dX W w':=fun W=>kY.calls n p 1 none W hk;have hkC:∀ W:World,Calls Tryz.prog 75 #[.int .i64 n,.int .u64 p] W fun e' w'=>e'=.returned (.tuple #[.int .i64 c,qL co])∧dX W w':=fun W=>rG.calls n p c co W hc;have hkR:∀ W:World,Calls Tryz.prog 143 #[.int .u64 q,.int .i64 (n-1)] W fun e' w'=>e'=.returned (.tuple #[.bool ones,.int .i64 r,qL ro])∧Below W.heap.size W w':=fun W=>o8.calls k q (n-1) ones r ro W hr;have hkE:∀ W:World,Calls Tryz.prog 144 #[.int .u64 q,.int .i64 (L-E),.int .i64 E] W fun e' w'=>e'=.returned (.tuple #[.int .u64 e,qL eo])∧dX W w':=fun W=>nP.calls q (L-E) E e eo W he;have hkG:∀ W:World,Calls Tryz.prog 144 #[.int .u64 q,.int .i64 0,.int .i64 (L-E)] W fun e' w'=>e'=.returned (.tuple #[.int .u64 g,qL go_])∧dX W w':=fun W=>nP.calls q 0 (L-E) g go_ W hg;generalize qL co=vc at hkC;generalize qL ro=vr at hkR;generalize qL eo=ve at hkE;generalize qL go_=vg at hkG;have HK:=Lib.hid hkK;have HC:=Lib.hid hkC;have HR:=Lib.hid hkR;have HE:=Lib.hid hkE;have HG:=Lib.hid hkG;clear hkK hkC hkR hkE hkG hk hc hr he hg
 go_enter Tryz.func92,Tryz.ntmps92
 go_upto_if 35 with (first|(go_at_call 91;(with_reducible refine (HK.out _).mono ?_);rintro e1 w1 ⟨rfl,hw1⟩;obtain⟨n1,rfl⟩:=hw1.out)|(go_at_call 75;(with_reducible refine (HC.out _).mono ?_);rintro e2 w2 ⟨rfl,hw2⟩;obtain⟨n2,rfl⟩:=hw2.out))
 go_cut [1] (fun v1 wc=>v1=.int .u64 q∧ae (wc.heap[w.heap.size]? = some (.cells #[.bool false,.bool false,.int .i64 0,.int .i64 0,.int .i64 0,.int .i64 0,.int .i64 0,.int .u64 0] 140 (0,0)))∧ae (wc.heap[w.heap.size+1]? = some (.cells #[.bool neg,.bool false,.int .i64 0,.int .i64 0,.int .i64 0,.int .i64 0,.int .i64 0,.int .u64 0] 140 (0,0)))∧ae (Below w.heap.size w wc))
 case first =>
  by_cases anN:c<0
  all_goals
   simp only[anN,if_true,if_false,decide_true,decide_false]at hq hneg;subst hq hneg
   go_wp2
   go_meet
   case rel=>exact⟨rfl,⟨(by apply Eq.trans;(repeat (first|(with_reducible assumption)|(with_reducible exact vS _ _)|(with_reducible exact wY (size_two _ _ _))|(with_reducible apply lT)|(with_reducible apply kL)|(with_reducible apply qM)|(with_reducible apply jg (hp:=Nat.ne_of_lt (Nat.lt_succ_self _)))|(with_reducible apply jg (hp:=Nat.ne_of_gt (Nat.lt_succ_self _)))));rfl)⟩,⟨(by apply Eq.trans;(repeat (first|(with_reducible assumption)|(with_reducible exact vS _ _)|(with_reducible exact wY (size_two _ _ _))|(with_reducible apply lT)|(with_reducible apply kL)|(with_reducible apply qM)|(with_reducible apply jg (hp:=Nat.ne_of_lt (Nat.lt_succ_self _)))|(with_reducible apply jg (hp:=Nat.ne_of_gt (Nat.lt_succ_self _)))));rfl)⟩,⟨(by repeat (first|(with_reducible assumption)|(with_reducible exact Below.refl _ _)|(with_reducible apply bn)|(with_reducible apply aJ)|(with_reducible refine bF ?_ (by first|exact Nat.le_refl _|exact Nat.le_succ _))))⟩⟩
 case rest =>
  obtain⟨rfl,K1,K2,HB⟩:=hcut
  rename_i wc
  clear HK HC hneg hq;have hc0:∀ i,wc.cell? ⟨w.heap.size+1,i,none⟩=(_:Array Value)[i]?:=ag K2.out;have hf0:∀ i,wc.frozen? ⟨w.heap.size+1,i,none⟩=false:=ak K2.out
  go_upto_if 55 with (go_at_call 143;(with_reducible refine (HR.out _).mono ?_);rintro e3 w3 ⟨rfl,hb3⟩;have k1:=eG K1.out hb3;have k2:=eG K2.out hb3;have hb:=kE HB.out hb3;clear hc0 hf0 hb3;have hc0:∀ i,w3.cell? ⟨w.heap.size+1,i,none⟩=(_:Array Value)[i]?:=ag k2;have hf0:∀ i,w3.frozen? ⟨w.heap.size+1,i,none⟩=false:=ak k2;have K1:=am k1;have K2:=am k2;have HB:=am hb;clear k1 k2 hb)
  go_cut [] (fun wc=>ae (wc.heap[w.heap.size]? = some (.cells #[.bool false,.bool false,.int .i64 0,.int .i64 0,.int .i64 0,.int .i64 0,.int .i64 0,.int .u64 0] 140 (0,0)))∧ae (wc.heap[w.heap.size+1]? = some (.cells #[.bool neg,.bool ones,.int .i64 r,.int .i64 R,.int .i64 0,.int .i64 0,.int .i64 0,.int .u64 0] 140 (0,0)))∧ae (Below w.heap.size w wc))
  case first =>
   cases ones
   all_goals
    obtain rfl:=HRR.out
    go_wp2
    go_meet
    case rel=>exact⟨⟨(by apply Eq.trans;(repeat (first|(with_reducible exact K1.out)|(with_reducible exact K2.out)|(with_reducible apply lT)|(with_reducible apply qM)|(with_reducible apply jg (hp:=Nat.ne_of_lt (Nat.lt_succ_self _)))|(with_reducible apply jg (hp:=Nat.ne_of_gt (Nat.lt_succ_self _)))));rfl)⟩,⟨(by apply Eq.trans;(repeat (first|(with_reducible exact K1.out)|(with_reducible exact K2.out)|(with_reducible apply lT)|(with_reducible apply qM)|(with_reducible apply jg (hp:=Nat.ne_of_lt (Nat.lt_succ_self _)))|(with_reducible apply jg (hp:=Nat.ne_of_gt (Nat.lt_succ_self _)))));rfl)⟩,⟨(by repeat (first|(with_reducible exact HB.out)|(with_reducible apply aJ)|(with_reducible refine bF ?_ (by first|exact Nat.le_refl _|exact Nat.le_succ _))))⟩⟩
  case rest =>
  clear hc0 hf0 K1 K2 HB;obtain⟨K1,K2,HB⟩:=hcut
  rename_i wc
  have hc0:∀ i,wc.cell? ⟨w.heap.size+1,i,none⟩=(_:Array Value)[i]?:=ag K2.out;have hf0:∀ i,wc.frozen? ⟨w.heap.size+1,i,none⟩=false:=ak K2.out
  go_upto_region 18 with (go_at_call 144;(with_reducible refine (HE.out _).mono ?_);rintro e4 w4 ⟨rfl,hw4⟩;obtain⟨n4,rfl⟩:=hw4.out)
  go_cut [] (fun wc=>ae (wc.heap[w.heap.size]? = some (.cells #[.bool false,.bool false,.int .i64 0,.int .i64 0,.int .i64 0,.int .i64 0,.int .i64 0,.int .u64 0] 140 (0,0)))∧ae (wc.heap[w.heap.size+1]? = some (.cells #[.bool neg,.bool ones,.int .i64 r,.int .i64 R,.int .i64 E,.int .i64 (e*2 ^ (2-E).toNat),.int .i64 0,.int .u64 0] 140 (0,0)))∧ae (Below w.heap.size w wc))
  case first =>
   obtain rfl|rfl|rfl:E=0∨E=1∨E=2:=by omega
   all_goals
    go_wp2
    go_meet
    case rel=>exact⟨⟨(by apply Eq.trans;(repeat (first|(with_reducible exact K1.out)|(with_reducible exact K2.out)|(with_reducible apply lT)|(with_reducible apply qM)|(with_reducible apply jg (hp:=Nat.ne_of_lt (Nat.lt_succ_self _)))|(with_reducible apply jg (hp:=Nat.ne_of_gt (Nat.lt_succ_self _)))));first|rfl|simp)⟩,⟨(by apply Eq.trans;(repeat (first|(with_reducible exact K1.out)|(with_reducible exact K2.out)|(with_reducible apply lT)|(with_reducible apply qM)|(with_reducible apply jg (hp:=Nat.ne_of_lt (Nat.lt_succ_self _)))|(with_reducible apply jg (hp:=Nat.ne_of_gt (Nat.lt_succ_self _)))));first|rfl|simp)⟩,⟨(by repeat (first|(with_reducible exact HB.out)|(with_reducible apply aJ)|(with_reducible refine bF ?_ (by first|exact Nat.le_refl _|exact Nat.le_succ _))))⟩⟩
  case rest =>
  clear hc0 hf0 K1 K2 HB;obtain⟨K1,K2,HB⟩:=hcut
  rename_i wc
  have hc0:∀ i,wc.cell? ⟨w.heap.size+1,i,none⟩=(_:Array Value)[i]?:=ag K2.out;have hf0:∀ i,wc.frozen? ⟨w.heap.size+1,i,none⟩=false:=ak K2.out;have hg1:∀ i,wc.cell? ⟨w.heap.size,i,none⟩=(_:Array Value)[i]?:=ag K1.out;have hg2:∀ i,wc.frozen? ⟨w.heap.size,i,none⟩=false:=ak K1.out
  go_wp2_with (go_at_call 144;(with_reducible refine (HG.out _).mono ?_);rintro e4 w4 ⟨rfl,hw4⟩;obtain⟨n4,rfl⟩:=hw4.out)
  refine bodyPost_ret (dh rfl _ _ w.heap.size 140 #[.bool _,.bool _,.int .i64 _,.int .i64 _,.int .i64 _,.int .i64 _,.int .i64 _,.int .u64 _] (0,0) _ rfl ?blk Tryz.underlying140 rfl (by kernel_rfl)) rfl ⟨rfl,?_⟩
  case blk=>exact (by apply Eq.trans;(repeat (first|(with_reducible exact K1.out)|(with_reducible exact K2.out)|(with_reducible apply lT)|(with_reducible apply qM)|(with_reducible apply jg (hp:=Nat.ne_of_lt (Nat.lt_succ_self _)))|(with_reducible apply jg (hp:=Nat.ne_of_gt (Nat.lt_succ_self _)))));rfl)
  exact (by repeat (first|(with_reducible exact HB.out)|(with_reducible apply aJ)|(with_reducible refine bF ?_ (by first|exact Nat.le_refl _|exact Nat.le_succ _))))
theorem rP.calls (k:Nat)(a0:Int)(a1:Int)(r1:Bool)(r2:Bool)(r3:Int)(r4:Int)(r5:Int)(r6:Int)(r7:Int)(r8:Int)(r9:Option Int)(w:World)(h:rP.f k a0 a1=some (r1,r2,r3,r4,r5,r6,r7,r8,r9)) :
  Calls Tryz.prog 92 #[.int .i64 a0,.int .u64 a1] w fun e w'=>e=.returned (.tuple #[.agg #[.bool r1,.bool r2,.int .i64 r3,.int .i64 r4,.int .i64 r5,.int .i64 r6,.int .i64 r7,.int .u64 r8],qL r9])∧Below w.heap.size w w':=by
 unfold rP.f at h;obtain⟨⟨b1,b2⟩,hb,h⟩:=Option.bind_eq_some_iff.mp h
 by_cases hc:b1=1∧b2=none∧8≤a0∧a0≤64
 case neg=>rw[if_neg hc]at h;exact absurd h (by simp)
 rw[if_pos hc]at h;obtain⟨rfl,rfl,h8,h64⟩:=hc;obtain⟨⟨c1,c2⟩,hk,h⟩:=Option.bind_eq_some_iff.mp h;obtain⟨⟨u1,u2,u3⟩,hu,h⟩:=Option.bind_eq_some_iff.mp h
 by_cases hr:1≤u2∧u2≤a0-1
 case neg=>rw[if_neg hr]at h;exact absurd h (by simp)
 rw[if_pos hr]at h;unfold F5 at h;obtain⟨⟨e1,e2⟩,he,h⟩:=Option.bind_eq_some_iff.mp h;obtain⟨⟨g1,g2⟩,hg,h⟩:=Option.bind_eq_some_iff.mp h
 by_cases h0:0≤e1∧e1≤3
 case neg=>rw[if_neg h0]at h;exact absurd h (by simp)
 rw[if_pos h0]at h;simp only[Option.some.injEq,Prod.mk.injEq]at h;obtain⟨rfl,rfl,rfl,rfl,rfl,rfl,rfl,rfl,rfl⟩:=h;exact Pi k a0 a1 _ _ u1 u2 _ _ c1 e1 g1 e2 g2 c2 u3 w hb h8 h64 hk rfl rfl hu hr.1 hr.2 rfl rfl he hg h0.1 h0.2 _ rfl
end Go.Proofs.Yy.PTx
end
section
set_option maxHeartbeats 8000000
set_option maxRecDepth 100000
namespace Go.Proofs.Yy.PTx
open Go.RowKit Go.Proofs.Yy.Z Go.Proofs.Yw.PrintWords Go.Proofs.Yw.PrintLast Go.Proofs.Yw.PrintMore
open Go.Proofs.Yy.M
attribute [local go_sem] dP eU lV lX lW lU
attribute [local go_sem] iq ik jE jD gu gq iE iD
def dI.f (k:Nat)(a0:Int)(a1:Int):Option (Int × Bool × Int × Int × Option Int):=(kY.f a0 a1).bind fun Qy=>(if Qy.2.isNone=true then (if Qy.1=1 then ((rP.f k a0 a1).bind fun Qz=>(if 0≤(wrap64 (63-Qz.2.2.2.2.2.2.1)) then (some (Qy.1,Qz.1,wrap64 ((wrap64 (4*Qz.2.2.2.1))+Qz.2.2.2.2.2.1),Go.bits .or .u64 9223372036854775808 (shl .u64 Qz.2.2.2.2.2.2.2.1 (wrap64 (63-Qz.2.2.2.2.2.2.1))),none)) else (none))) else (some (Qy.1,false,0,0,none))) else (some (Qy.1,false,0,0,some (Qy.2.getD 0))))
def dI.T5:Bool × List (List Nat × List Nat):=(true,[([],[]),([],[]),([1],[1]),([],[]),([3],[3]),([4],[4]),([],[]),([6],[6]),([5,7],[5,7]),([],[]),([9],[9]),([],[]),([11],[11]),([12],[12]),([10,13],[10,13]),([14],[14]),([0,2,8,15],[0,2,8,15]),([16,0,1,2,3,4,5,6,7,8,9,10,11,12,13,14,15,16],[16]),([17,0,1,2,3,4,5,6,7,8,9,10,11,12,13,14,15,16,17],[])])
def dI.B5:List Nat := [0,0,2,0,8,24,0,64,248,0,512,0,2048,6144,15872,32256,65535,131071,262143]
theorem dI.afx:rX .any (opsOf Tryz.f42 5)=dI.T5:=by kernel_rfl
theorem dI.SH:jf dI.T5.2 dI.B5=true:=by kernel_rfl
theorem dI.calls (k:Nat)(a0:Int)(a1:Int)(r1:Int)(r2:Bool)(r3:Int)(r4:Int)(r5:Option Int)(w:World)(h:dI.f k a0 a1=some (r1,r2,r3,r4,r5)) :
    Calls Tryz.prog 42 #[.int .i64 a0,.int .u64 a1] w fun e w'=>e=.returned (.tuple #[.agg #[.int .i64 r1,.bool r2,.int .i64 r3,.int .u64 r4],qL r5])∧Below w.heap.size w w':=by
 have anO:=Tryz.underlying77;have azo:=Tryz.underlying140;have zq:=Tryz.underlying27;have hu64:=Tryz.underlying64;have HB:=am (Below.refl w.heap.size w);have H:=am h;unfold dI.f at H;clear h;replace H:=zo H;obtain⟨⟨t130,t131⟩,A3,H⟩:=H
 try dsimp only at H
 rcases t131 with _|aGV;replace H:=zb1 H
 try simp only[aj,ah]
 replace H:=zsk H;rcases H with⟨jV,rZ,H⟩|⟨jV,rZ,c4,H⟩
 ·replace H:=zo H
  obtain⟨⟨ac5,aeZ,ae0,ac6,ae1,t138,t139,YV,t141⟩,A5,H⟩:=H
  try dsimp only at H
  generalize uS:(wrap64 (63-t139):Int)=ji6 at H
  (try rw[uS]at A3)
  (try rw[uS]at A5)
  have Vk:(IntKind.i64.wrap (63-t139))=ji6:=(bW _).trans uS;replace H:=zit H;obtain⟨yE,DJ,H⟩:=H;generalize ui:(shl .u64 YV (ji6):Int)=ji8 at H
  (try rw[ui]at A3)
  (try rw[ui]at A5)
  have Qv:(IntKind.u64.wrap (YV*2 ^ min (ji6).toNat 64))=ji8:=ui;have YQ:(ji6)≤64→(IntKind.u64.wrap (YV*2 ^ (ji6).toNat))=ji8:=iY ui;obtain⟨rfl,rfl,rfl,rfl,rfl⟩:=zJ5 H
  go_enter Tryz.func42,Tryz.ntmps42
  try go_wp2_with (first|((with_reducible refine aA (N:=4) rfl ?_);refine zx 4 77 #[.int .i64 0,.bool false,.int .i64 0,.int .u64 0] ?_;intro QA hg w9 hbox hb;have oW:=am (hbox);have anP:=zG hg HB;have anQ:=zG hg HB;replace HB:=zBs HB hb;clear hb hbox hg)|((with_reducible refine af (f:=91) rfl ?_);refine zc (some 13) Tryz.func91 _ (kY.calls _ _ _ _ _ A3.out) ?_;rintro e w' ⟨rfl,⟨nd,rfl⟩⟩;refine⟨_,rfl,?_⟩;(try simp only[aj,ah]);(try (rw[gI w9];generalize hq_:World.drewN w9 _=w9;have n0_:ae (w9.heap[QA]? = some (.cells #[.int .i64 0,.bool false,.int .i64 0,.int .u64 0] 77 (0,0))):=⟨by rw[← hq_];exact (zK oW)⟩;have n1_:ae (Below w.heap.size w w9):=⟨by rw[← hq_];exact (zB HB)⟩;clear oW HB hq_;have oW:=n0_;have HB:=n1_;clear n0_ n1_)))|((with_reducible refine af (f:=92) rfl ?_);refine zc (some 28) Tryz.func92 _ (rP.calls _ _ _ _ _ _ _ _ _ _ _ _ _ A5.out) ?_;rintro e w10 ⟨rfl,hb⟩;refine⟨_,rfl,?_⟩;replace oW:=zKb oW hb;replace HB:=zBs HB hb;clear hb;(try simp only[aj,ah]))|((with_reducible refine aA (N:=8) rfl ?_);refine zx 8 140 #[.bool false,.bool false,.int .i64 0,.int .i64 0,.int .i64 0,.int .i64 0,.int .i64 0,.int .u64 0] ?_;intro lK hg w11 hbox hb;have yj:=am (hbox);have azp:=zG hg HB;have azq:=zG hg HB;replace HB:=zBs HB hb;have wK:=zNl hg oW;have wL:=zNg hg oW;replace oW:=zKb oW hb;clear hb hbox hg;have agP:=wL.out;have agQ:=wK.out;obtain⟨_,_,_,_,_,_,_,_,_,_,_,_,_,_,_,_⟩:=zf8 yj))
  have n0_:ae (((((((((w11.setCell ⟨lK,0,none⟩ (.bool ac5)).setCell ⟨lK,1,none⟩ (.bool aeZ)).setCell ⟨lK,2,none⟩ (.int .i64 ae0)).setCell ⟨lK,3,none⟩ (.int .i64 ac6)).setCell ⟨lK,4,none⟩ (.int .i64 ae1)).setCell ⟨lK,5,none⟩ (.int .i64 t138)).setCell ⟨lK,6,none⟩ (.int .i64 t139)).setCell ⟨lK,7,none⟩ (.int .u64 YV)).heap[QA]? = some (.cells #[.int .i64 0,.bool false,.int .i64 0,.int .u64 0] 77 (0,0))):=⟨zK oW⟩
  have n1_:ae (((((((((w11.setCell ⟨lK,0,none⟩ (.bool ac5)).setCell ⟨lK,1,none⟩ (.bool aeZ)).setCell ⟨lK,2,none⟩ (.int .i64 ae0)).setCell ⟨lK,3,none⟩ (.int .i64 ac6)).setCell ⟨lK,4,none⟩ (.int .i64 ae1)).setCell ⟨lK,5,none⟩ (.int .i64 t138)).setCell ⟨lK,6,none⟩ (.int .i64 t139)).setCell ⟨lK,7,none⟩ (.int .u64 YV)).heap[lK]? = some (.cells #[.bool ac5,.bool aeZ,.int .i64 ae0,.int .i64 ac6,.int .i64 ae1,.int .i64 t138,.int .i64 t139,.int .u64 YV] 140 (0,0))):=⟨zKp yj⟩
  have n2_:ae (Below w.heap.size w ((((((((w11.setCell ⟨lK,0,none⟩ (.bool ac5)).setCell ⟨lK,1,none⟩ (.bool aeZ)).setCell ⟨lK,2,none⟩ (.int .i64 ae0)).setCell ⟨lK,3,none⟩ (.int .i64 ac6)).setCell ⟨lK,4,none⟩ (.int .i64 ae1)).setCell ⟨lK,5,none⟩ (.int .i64 t138)).setCell ⟨lK,6,none⟩ (.int .i64 t139)).setCell ⟨lK,7,none⟩ (.int .u64 YV))):=⟨zB HB⟩
  (try clear oW)
  (try clear yj)
  (try clear HB)
  generalize ((((((((w11.setCell ⟨lK,0,none⟩ (.bool ac5)).setCell ⟨lK,1,none⟩ (.bool aeZ)).setCell ⟨lK,2,none⟩ (.int .i64 ae0)).setCell ⟨lK,3,none⟩ (.int .i64 ac6)).setCell ⟨lK,4,none⟩ (.int .i64 ae1)).setCell ⟨lK,5,none⟩ (.int .i64 t138)).setCell ⟨lK,6,none⟩ (.int .i64 t139)).setCell ⟨lK,7,none⟩ (.int .u64 YV))=w14 at n0_ n1_ n2_ ⊢;have oW:=n0_;have yj:=n1_;have HB:=n2_;clear n0_ n1_ n2_;replace oW:=am (dY oW.out);replace yj:=am (dY yj.out);replace HB:=am (aW HB.out);refine mM (n:=19) (S:=fun w'=>w'.cell? ⟨lK,0,none⟩=some (.bool ac5)∧w'.cell? ⟨lK,1,none⟩=some (.bool aeZ)∧w'.cell? ⟨lK,2,none⟩=some (.int .i64 ae0)∧w'.cell? ⟨lK,3,none⟩=some (.int .i64 ac6)∧w'.cell? ⟨lK,4,none⟩=some (.int .i64 ae1)∧w'.cell? ⟨lK,5,none⟩=some (.int .i64 t138)∧w'.cell? ⟨lK,6,none⟩=some (.int .i64 t139)∧w'.cell? ⟨lK,7,none⟩=some (.int .u64 YV)) (ds := []) (Array.replicate 19 false) (by kernel_rfl) rfl rfl ⟨(ag yj.out 0).trans rfl,(ag yj.out 1).trans rfl,(ag yj.out 2).trans rfl,(ag yj.out 3).trans rfl,(ag yj.out 4).trans rfl,(ag yj.out 5).trans rfl,(ag yj.out 6).trans rfl,(ag yj.out 7).trans rfl⟩ (fun hHeld=>?_);refine gQ dI.afx dI.SH (fun HT_ HW_=>?_);generalize w14.drew=w15 at oW yj HB hHeld ⊢;refine zp HT_ 0 (some 31) ?_;refine zp HT_ 1 (some 32) ?_;refine zp HT_ 3 (some 34) ?_;refine zp HT_ 6 (some 37) ?_;refine zp HT_ 9 (some 40) ?_;refine zp HT_ 11 (some 42) ?_;refine zt HT_ HW_ 2 (some 33) hHeld ?_;refine zt HT_ HW_ 4 (some 35) hHeld ?_;refine zp HT_ 5 (some 36) ?_;refine zt HT_ HW_ 7 (some 38) hHeld ?_;refine zp HT_ 8 (some 39) ?_;refine zt HT_ HW_ 10 (some 41) hHeld ?_;refine zt HT_ HW_ 12 (some 43) hHeld ?_;refine zp HT_ 13 (some 44) ?_;refine zp HT_ 14 (some 45) ?_;refine zp HT_ 15 (some 46) ?_;refine zp HT_ 16 (some 47) ?_;refine zu HT_ 17 none (fun K hK=>?_);have ayV:=zl oW 0;have amU:=ak oW.out 0;have anR:=wL.out;have anS:=wK.out;have ayW:=zl oW 1;have amX:=ak oW.out 1;have anT:=wL.out;have anU:=wK.out;have aGW:=zl oW 2;have azr:=ak oW.out 2;have anV:=wL.out;have anW:=wK.out;have aGX:=zl oW 3;have azs:=ak oW.out 3;have anX:=wL.out;have anY:=wK.out;refine xy (w1:=?_) (by rfl) rfl ?_ ?_;rotate_left
  ·go_simp
   rfl
  refine hK.out _ _ ⟨(zh hHeld),(zh hHeld),(zh hHeld),(zh hHeld),(zh hHeld),(zh hHeld),(zh hHeld),(zh hHeld)⟩ (fun hHeld=>?_);clear hK K;refine zp HT_ 18 (some 5) ?_;refine oG (iJ HT_.out (by kernel_rfl)) ?_
  try go_wp2
  refine bodyPost_ret (dh rfl _ _ QA 77 #[.int .i64 t130,.bool ac5,.int .i64 (wrap64 ((wrap64 (4*ac6))+t138)),.int .u64 (Go.bits .or .u64 9223372036854775808 (ji8))] (0,0) _ rfl (zKp oW) Tryz.underlying77 rfl (by kernel_rfl)) rfl ?_;exact⟨by first|exact z3|(simp only[← uS, ← ui];exact z3)|exact z2,zB HB⟩
 obtain⟨rfl,rfl,rfl,rfl,rfl⟩:=zJ5 H;rotate_left;replace H:=zb0 H
 try simp only[Option.getD_some]at H
 try simp only[aj,ah]
 obtain⟨rfl,rfl,rfl,rfl,rfl⟩:=zJ5 H;rotate_left
 all_goals (go_enter Tryz.func42,Tryz.ntmps42;go_wp2_with (first|((with_reducible refine aA (N:=4) rfl ?_);refine zx 4 77 #[.int .i64 0,.bool false,.int .i64 0,.int .u64 0] ?_;intro QA hg w20 hbox hb;have oW:=am (hbox);have anP:=zG hg HB;have anQ:=zG hg HB;replace HB:=zBs HB hb;clear hb hbox hg)|((with_reducible refine af (f:=91) rfl ?_);refine zc (some 13) Tryz.func91 _ (kY.calls _ _ _ _ _ A3.out) ?_;rintro e w' ⟨rfl,⟨nd,rfl⟩⟩;refine⟨_,rfl,?_⟩;(try simp only[aj,ah]);(try (rw[gI w20];generalize hq_:World.drewN w20 _=w20;have n0_:ae (w20.heap[QA]? = some (.cells #[.int .i64 0,.bool false,.int .i64 0,.int .u64 0] 77 (0,0))):=⟨by rw[← hq_];exact (zK oW)⟩;have n1_:ae (Below w.heap.size w w20):=⟨by rw[← hq_];exact (zB HB)⟩;clear oW HB hq_;have oW:=n0_;have HB:=n1_;clear n0_ n1_));obtain⟨_,_,_,_,_,_,_,_⟩:=zf4 oW)))
 all_goals
  refine bodyPost_ret (dh rfl _ _ QA 77 #[.int .i64 t130,.bool false,.int .i64 0,.int .u64 0] (0,0) _ rfl (zKp oW) Tryz.underlying77 rfl (by kernel_rfl)) rfl ?_;exact⟨z2,zB HB⟩
def bH.l0:Nat→List Int→Int→Option (List Int)
  | 0,_,_=>none
  | k+1,x0,x3=>if x3 > 0 then (if 0≤(wrap64 (x3-1)) then (if (wrap64 (x3-1))<(x0.length:Int) then (if (rd x0 (wrap64 (x3-1)))=0 then (bH.l0 k x0 (wrap64 (x3-1))) else (if 0≤x3 then (if x3≤(x0.length:Int) then (some (x0.take (x3:Int).toNat)) else (none)) else (none))) else (none)) else (none)) else (if 0≤x3 then (if x3≤(x0.length:Int) then (some (x0.take (x3:Int).toNat)) else (none)) else (none))
def bH.f (k:Nat)(l0:List Int):Option (List Int):=bH.l0 k l0 (l0.length:Int)
theorem bH.calls (k:Nat)(P0_:Nat→Prop)(A0:Option Addr)(c0:Nat)(l0:List Int)(r:List Int)(w:World)(hs0:Kd.V (Kd.int .u64) 25 w w.heap.size (fun k_=>P0_ k_) (.slice A0 l0.length c0) l0)(h:bH.f k l0=some r) :
    Calls Tryz.prog 103 #[.slice A0 l0.length c0] w fun e w' => ∃ v0_:Value,e=.returned (v0_)∧Kd.V (Kd.int .u64) 25 w' w.heap.size (fun k_=>(P0_ k_∨w.heap.size≤k_)) v0_ r∧Below w.heap.size w w':=by
 have HO0:=am (show Kd.V (Kd.int .u64) 25 w w.heap.size (fun k_=>(P0_ k_∨w.heap.size≤k_)) (.slice A0 l0.length c0) l0 from Kd.bG hs0 (fun k_ hk => .inl hk));have HB:=am (Below.refl w.heap.size w);have H:=am h;unfold bH.f at H;clear h
 go_enter Tryz.func103,Tryz.ntmps103
 go_wp2
 go_loopg [3] k (fun kq v3 w' => ∃ (iy:Int),v3=.int .i64 iy∧ae (bH.l0 kq l0 iy=some r)∧ae (kq≤k)∧ae (Kd.V (Kd.int .u64) 25 w' w.heap.size (fun k_=>(P0_ k_∨w.heap.size≤k_)) (.slice A0 l0.length c0) l0)∧ae (Below w.heap.size w w'))
 case atStart=>exact⟨((l0.length:Int)),z1,H,zL,⟨zV HO0⟩,⟨zB HB⟩⟩
 clear H;obtain⟨iy,rfl,H,HK1,jF,HB⟩:=hrel;obtain _|k1:=gk
 ·exact zz H rfl
 simp only[bH.l0]at H;replace H:=AV H;rcases H with⟨sQ,H⟩|⟨sQ,H⟩;generalize Ew:(wrap64 (iy-1):Int)=ji3 at H;have Vs:(IntKind.i64.wrap (iy-1))=ji3:=(bW _).trans Ew;replace H:=zid H;obtain⟨jV,H⟩:=H;replace H:=zid H;obtain⟨qN,H⟩:=H;replace H:=zsk H;rcases H with⟨qV,BB,H⟩|⟨qV,BB,c6,H⟩;obtain⟨azt,azu,YW,rfl,ac7⟩:=zA (Kd.dQ (Kd.aX jF.out).2.2 (ji3));rotate_left;replace H:=zit H;obtain⟨yE,DJ,H⟩:=H;replace H:=zit H;obtain⟨uz,Ey,H⟩:=H;generalize aha:(l0.take (iy:Int).toNat:List Int)=ahb at H;have ahc:=zY aha;clear aha;obtain rfl:=Option.some.inj H.out;obtain⟨azt,azu,YW,rfl,ac7⟩:=zA (Kd.dQ (Kd.aX jF.out).2.2 (ji3));have q9:(iy:Int)≤((l0.length:Int):Int):=zD;obtain⟨i09,auo,_,azv,_⟩:=info_parts info25;have aap:l0.length≤c0:=(Kd.aX jF.out).2.1;have hC9:Kd.F (Kd.int .u64) _ _ (some YW) l0.length l0:=(Kd.Xh (base:=w.heap.size) jF.out).2.2;have anZ:=Lc (P:=Tryz.prog) 88 25 .i64 .i64 Tryz.underlying88 auo (some YW) l0.length c0 iy (zD) q9 aap;have hr9:=Kd.JF (m:=(iy:Int).toNat) hC9 (by omega)
 have hy9:ahb.length=(iy:Int).toNat:=(by rw[ahc.out,List.length_take];omega)
 rw[← ahc.out]at hr9;rw[← hy9]at anZ;have an0:=am (show Kd.V (Kd.int .u64) 25 _ w.heap.size _ (.slice (some YW) ahb.length ahb.length) ahb from Kd.IQ (Nat.le_refl _) hr9);have azw:=am (Nat.le_refl ahb.length);clear hr9 hC9 aap auo azv;have KY9:=am hy9;clear hy9;replace q9:=eq_true q9;rotate_left;replace H:=zit H;obtain⟨oL,uX,H⟩:=H;replace H:=zit H;obtain⟨qJ,zM,H⟩:=H;generalize ahd:(l0.take (iy:Int).toNat:List Int)=ahe at H;have ahf:=zY ahd;clear ahd;obtain rfl:=Option.some.inj H.out;have q12:(iy:Int)≤((l0.length:Int):Int):=zD;obtain⟨aGY,ahg,_,an1,_⟩:=info_parts info25;have Vt:l0.length≤c0:=(Kd.aX jF.out).2.1;have aup:Kd.F (Kd.int .u64) _ _ A0 l0.length l0:=(Kd.Xh (base:=w.heap.size) jF.out).2.2;have ahh:=Lc (P:=Tryz.prog) 88 25 .i64 .i64 Tryz.underlying88 ahg A0 l0.length c0 iy (zD) q12 Vt;have an2:=Kd.JF (m:=(iy:Int).toNat) aup (by omega)
 have an3:ahe.length=(iy:Int).toNat:=(by rw[ahf.out,List.length_take];omega)
 rw[← ahf.out]at an2;rw[← an3]at ahh;have an4:=am (show Kd.V (Kd.int .u64) 25 _ w.heap.size _ (.slice A0 ahe.length ahe.length) ahe from Kd.IQ (Nat.le_refl _) an2);have azx:=am (Nat.le_refl ahe.length);clear an2 aup Vt ahg an1;have aGZ:=am an3;clear an3;replace q12:=eq_true q12;rotate_left
 all_goals (go_wp2)
 ·go_roundg k1
  case measure=>have:=HK1.out;omega
  case rel=>exact⟨(ji3),(by first|rfl|(simp;done)|(simp only[← Ew] <;> (first|rfl|simp))|(simp[*];done)),H,(zH HK1),⟨zV jF⟩,⟨zB HB⟩⟩
 ·go_ret
  exact⟨_,by first|exact z3|(simp only[← Ew];exact z3)|exact z2,zV an0,zB HB⟩
 go_ret
 exact⟨_,z2,zV an4,zB HB⟩
def qU.f (k:Nat)(a0:Int):Option (List Int):=(bH.f k (([a0]:List Int))).bind fun t157=>(some t157)
theorem qU.calls (k:Nat)(a0:Int)(r:List Int)(w:World)(h:qU.f k a0=some r) :
    Calls Tryz.prog 48 #[.int .u64 a0] w fun e w' => ∃ v0_:Value,e=.returned (v0_)∧Kd.V (Kd.int .u64) 25 w' w.heap.size (fun k_=>(w.heap.size≤k_)) v0_ r∧Below w.heap.size w w':=by
 have HB:=am (Below.refl w.heap.size w);have H:=am h;unfold qU.f at H;clear h;generalize ahi:(([a0]:List Int):List Int)=auq at H;have ahj:=zY ahi;clear ahi;replace H:=zo H;obtain⟨t157,A2,H⟩:=H;obtain rfl:=Option.some.inj H.out
 go_enter Tryz.func48,Tryz.ntmps48
 go_wp2_with (first|((with_reducible refine aA (N:=4) rfl ?_);refine Kd.Bq (Kd.int .u64) _ 25 ?hg (N:=4) ?hd (xs:=([a0]:List Int)) (inner := [.int .u64 a0]) (ok:=fun _=>True) (okp:=fun _=>True) ?hr ?hp (fun _ hk=>hk) trivial (Below.refl _ _) (Nat.le_refl _) (by simp) ?_;(case hd=>rfl);(case hg=>rfl);(case hr=>first|(go_simp;done)|(go_simp;rfl));(case hp=>exact (jM.one (show Kd.M (Kd.int .u64) _ _ _ a0 [.int .u64 a0] from rfl) (jM.none _ _)));intro aG0 w3 ho4 hb hg_ jO;clear hg_ jO;(first|rw[← ahj.out]at ho4|(simp only[Int.reduceToNat]at ho4;rw[← ahj.out]at ho4));have Vu:=am (Kd.dZ (Kd.oQ (M:=fun k_=>(w.heap.size≤k_)) ho4 (zS HB) (fun k_ h_=>h_)) (zS HB));replace HB:=zBs HB hb;clear hb ho4;obtain⟨Ao5,co5,eo5⟩:=Kd.dU Vu.out;subst eo5)|((with_reducible refine af (f:=103) rfl ?_);refine zc (some 5) Tryz.func103 #[.slice Ao5 auq.length co5] (bH.calls _ (fun k_=>some k_=(.slice Ao5 auq.length co5:Value).ownBlock) _ _ _ _ _ (Kd.R_V (Kd.jZ rfl (Vu.out))) A2.out) ?_;rintro e w6 ⟨aG1,rfl,ho0,hb⟩;refine⟨_,rfl,?_⟩;have an5:=am (Kd.dG (Kd.bG (ok':=fun k_=>(w.heap.size≤k_)) ho0 (fun k_ hk_=>Or.elim hk_ (fun hs_=>((Vu.out).1 k_ hs_.symm).1) (fun hn_=>(Nat.le_trans (zS HB) hn_)))) (zS HB));replace Vu:=zRb Vu hb;replace HB:=zBs HB hb;clear hb ho0))
 go_ret
 exact⟨_,z2,zV an5,zB HB⟩
def bits_Mul64.f (a0:Int)(a1:Int):Option (Int × Int):=some (IntKind.u64.wrap ((IntKind.u64.wrap ((IntKind.u64.wrap ((a0 / 4294967296)*(a1 / 4294967296)))+((IntKind.u64.wrap ((IntKind.u64.wrap ((a0 / 4294967296)*(Go.bits .and .u64 a1 4294967295)))+((IntKind.u64.wrap ((Go.bits .and .u64 a0 4294967295)*(Go.bits .and .u64 a1 4294967295))) / 4294967296))) / 4294967296)))+((IntKind.u64.wrap ((Go.bits .and .u64 (IntKind.u64.wrap ((IntKind.u64.wrap ((a0 / 4294967296)*(Go.bits .and .u64 a1 4294967295)))+((IntKind.u64.wrap ((Go.bits .and .u64 a0 4294967295)*(Go.bits .and .u64 a1 4294967295))) / 4294967296))) 4294967295)+(IntKind.u64.wrap ((Go.bits .and .u64 a0 4294967295)*(a1 / 4294967296))))) / 4294967296)),IntKind.u64.wrap (a0*a1))
theorem bits_Mul64.calls (a0:Int)(a1:Int)(r1:Int)(r2:Int)(w:World)(h:bits_Mul64.f a0 a1=some (r1,r2)) :
    Calls Tryz.prog 178 #[.int .u64 a0,.int .u64 a1] w fun e w'=>e=.returned (.tuple #[.int .u64 r1,.int .u64 r2])∧dX w w':=by
 have H:=am h;unfold bits_Mul64.f at H;clear h;obtain⟨rfl,rfl⟩:=zJ2 H
 go_enter Tryz.func178,Tryz.ntmps178
 go_wp2
 go_ret2
 exact⟨z1,z4⟩
mutual
def aK.j2:Nat→Int→Int→Int→Int→Int→Int→Int→Int→Option (Int × Int)
  | 0,_,_,_,_,_,_,_,_=>none
  | k+1,x2,x8,x9,x10,x11,x13,x14,x15=>if x9=0 then (none) else (aK.l1 k x2 x8 x9 x10 x14 x15 (IntKind.u64.wrap ((IntKind.u64.wrap ((IntKind.u64.wrap ((IntKind.u64.wrap (x11*4294967296))+x13))-(IntKind.u64.wrap (x15*x2))))-(IntKind.u64.wrap ((IntKind.u64.wrap (Int.tdiv (IntKind.u64.wrap ((IntKind.u64.wrap ((IntKind.u64.wrap (x11*4294967296))+x13))-(IntKind.u64.wrap (x15*x2)))) x9))*x9)))) (IntKind.u64.wrap ((IntKind.u64.wrap ((IntKind.u64.wrap (x11*4294967296))+x13))-(IntKind.u64.wrap (x15*x2)))) (IntKind.u64.wrap (Int.tdiv (IntKind.u64.wrap ((IntKind.u64.wrap ((IntKind.u64.wrap (x11*4294967296))+x13))-(IntKind.u64.wrap (x15*x2)))) x9)))
def aK.l1:Nat→Int→Int→Int→Int→Int→Int→Int→Int→Int→Option (Int × Int)
  | 0,_,_,_,_,_,_,_,_,_=>none
  | k+1,x2,x8,x9,x10,x14,x15,x16,x17,x18=>if x18≥4294967296 then (aK.j4 k x2 x8 x9 x10 x14 x15 x16 x17 x18 true) else (aK.j4 k x2 x8 x9 x10 x14 x15 x16 x17 x18 (decide ((IntKind.u64.wrap (x18*x10)) > (IntKind.u64.wrap ((IntKind.u64.wrap (4294967296*x16))+x14)))))
def aK.j4:Nat→Int→Int→Int→Int→Int→Int→Int→Int→Int→Bool→Option (Int × Int)
  | 0,_,_,_,_,_,_,_,_,_,_=>none
  | k+1,x2,x8,x9,x10,x14,x15,x16,x17,x18,x113=>if x113=true then (if (IntKind.u64.wrap (x16+x9))≥4294967296 then (if 0≤x8 then (some (IntKind.u64.wrap ((IntKind.u64.wrap (x15*4294967296))+(IntKind.u64.wrap (x18-1))),shr .u64 (IntKind.u64.wrap ((IntKind.u64.wrap ((IntKind.u64.wrap (x17*4294967296))+x14))-(IntKind.u64.wrap ((IntKind.u64.wrap (x18-1))*x2)))) x8)) else (none)) else (aK.l1 k x2 x8 x9 x10 x14 x15 (IntKind.u64.wrap (x16+x9)) x17 (IntKind.u64.wrap (x18-1)))) else (if 0≤x8 then (some (IntKind.u64.wrap ((IntKind.u64.wrap (x15*4294967296))+x18),shr .u64 (IntKind.u64.wrap ((IntKind.u64.wrap ((IntKind.u64.wrap (x17*4294967296))+x14))-(IntKind.u64.wrap (x18*x2)))) x8)) else (none))
def aK.l0:Nat→Int→Int→Int→Int→Int→Int→Int→Int→Int→Option (Int × Int)
  | 0,_,_,_,_,_,_,_,_,_=>none
  | k+1,x2,x8,x9,x10,x11,x13,x14,x15,x16=>if x15≥4294967296 then (aK.j1 k x2 x8 x9 x10 x11 x13 x14 x15 x16 true) else (aK.j1 k x2 x8 x9 x10 x11 x13 x14 x15 x16 (decide ((IntKind.u64.wrap (x15*x10)) > (IntKind.u64.wrap ((IntKind.u64.wrap (4294967296*x16))+x13)))))
def aK.j1:Nat→Int→Int→Int→Int→Int→Int→Int→Int→Int→Bool→Option (Int × Int)
  | 0,_,_,_,_,_,_,_,_,_,_=>none
  | k+1,x2,x8,x9,x10,x11,x13,x14,x15,x16,x78=>if x78=true then (if (IntKind.u64.wrap (x16+x9))≥4294967296 then (aK.j2 k x2 x8 x9 x10 x11 x13 x14 (IntKind.u64.wrap (x15-1))) else (aK.l0 k x2 x8 x9 x10 x11 x13 x14 (IntKind.u64.wrap (x15-1)) (IntKind.u64.wrap (x16+x9)))) else (aK.j2 k x2 x8 x9 x10 x11 x13 x14 x15)
end
def aK.f (k:Nat)(a0:Int)(a1:Int)(a2:Int):Option (Int × Int):=if a2=0 then (none) else (if a2≤a0 then (none) else (if a0=0 then (some (IntKind.u64.wrap (Int.tdiv a1 a2),Int.tmod a1 a2)) else ((bits_LeadingZeros64.f k a2).bind fun BZ=>(if 0≤(IntKind.u64.wrap (BZ)) then (if 0≤(IntKind.u64.wrap (64-(IntKind.u64.wrap (BZ)))) then (if ((shl .u64 a2 (IntKind.u64.wrap (BZ))) / 4294967296)=0 then (none) else (aK.l0 k (shl .u64 a2 (IntKind.u64.wrap (BZ))) (IntKind.u64.wrap (BZ)) ((shl .u64 a2 (IntKind.u64.wrap (BZ))) / 4294967296) (Go.bits .and .u64 (shl .u64 a2 (IntKind.u64.wrap (BZ))) 4294967295) (Go.bits .or .u64 (shl .u64 a0 (IntKind.u64.wrap (BZ))) (shr .u64 a1 (IntKind.u64.wrap (64-(IntKind.u64.wrap (BZ)))))) ((shl .u64 a1 (IntKind.u64.wrap (BZ))) / 4294967296) (Go.bits .and .u64 (shl .u64 a1 (IntKind.u64.wrap (BZ))) 4294967295) (IntKind.u64.wrap (Int.tdiv (Go.bits .or .u64 (shl .u64 a0 (IntKind.u64.wrap (BZ))) (shr .u64 a1 (IntKind.u64.wrap (64-(IntKind.u64.wrap (BZ)))))) ((shl .u64 a2 (IntKind.u64.wrap (BZ))) / 4294967296))) (IntKind.u64.wrap ((Go.bits .or .u64 (shl .u64 a0 (IntKind.u64.wrap (BZ))) (shr .u64 a1 (IntKind.u64.wrap (64-(IntKind.u64.wrap (BZ))))))-(IntKind.u64.wrap ((IntKind.u64.wrap (Int.tdiv (Go.bits .or .u64 (shl .u64 a0 (IntKind.u64.wrap (BZ))) (shr .u64 a1 (IntKind.u64.wrap (64-(IntKind.u64.wrap (BZ)))))) ((shl .u64 a2 (IntKind.u64.wrap (BZ))) / 4294967296)))*((shl .u64 a2 (IntKind.u64.wrap (BZ))) / 4294967296))))))) else (none)) else (none)))))
theorem aK.calls (k:Nat)(a0:Int)(a1:Int)(a2:Int)(r1:Int)(r2:Int)(w:World)(h:aK.f k a0 a1 a2=some (r1,r2)) :
    Calls Tryz.prog 164 #[.int .u64 a0,.int .u64 a1,.int .u64 a2] w fun e w'=>e=.returned (.tuple #[.int .u64 r1,.int .u64 r2])∧dX w w':=by
 have H:=am h;unfold aK.f at H;clear h;replace H:=zjk H;obtain⟨jV,rZ,c4,H⟩:=H;replace H:=zjd H;obtain⟨qN,H⟩:=H;replace H:=zsk H;rcases H with⟨qV,BB,H⟩|⟨qV,BB,c6,H⟩
 ·obtain⟨rfl,rfl⟩:=zJ2 H
  go_enter Tryz.func164,Tryz.ntmps164
  go_wp2
  repeat (go_quiet (fail);try go_wp2)
  go_ret2
  exact⟨z1,z4⟩
 replace H:=zo H;obtain⟨BZ,A7,H⟩:=H;generalize ui:(IntKind.u64.wrap (BZ):Int)=ji8 at H
 (try rw[ui]at A7)
 replace H:=zit H;obtain⟨vF,BD,H⟩:=H;generalize Au:(shl .u64 a2 (ji8):Int)=tC at H
 (try rw[Au]at A7)
 have aur:(IntKind.u64.wrap (a2*2 ^ min (ji8).toNat 64))=tC:=Au;have aus:(ji8)≤64→(IntKind.u64.wrap (a2*2 ^ (ji8).toNat))=tC:=iY Au;have qJ:=eq_true (zD:0≤(ji8));generalize H5:(shl .u64 a0 (ji8):Int)=H6 at H
 (try rw[H5]at A7)
 have aut:(IntKind.u64.wrap (a0*2 ^ min (ji8).toNat 64))=H6:=H5;have auu:(ji8)≤64→(IntKind.u64.wrap (a0*2 ^ (ji8).toNat))=H6:=iY H5;generalize qO:(IntKind.u64.wrap (64-(ji8)):Int)=qI at H
 (try rw[qO]at A7)
 replace H:=zit H;obtain⟨wG,Md,H⟩:=H;generalize uU:(shr .u64 a1 (qI):Int)=Ap at H
 (try rw[uU]at A7)
 have aan:(a1 / 2 ^ min (qI).toNat 64)=Ap:=uU;have aao:(qI)≤64→(a1 / 2 ^ (qI).toNat)=Ap:=kH uU;have Dx:=eq_true (zD:0≤(ji8));generalize H7:(shl .u64 a1 (ji8):Int)=zO at H
 (try rw[H7]at A7)
 have auv:(IntKind.u64.wrap (a1*2 ^ min (ji8).toNat 64))=zO:=H7;have auw:(ji8)≤64→(IntKind.u64.wrap (a1*2 ^ (ji8).toNat))=zO:=iY H7;replace H:=zjk H;obtain⟨YX,an6,c18,H⟩:=H
 go_enter Tryz.func164,Tryz.ntmps164
 go_upto_block 0 with (first|(go_at_call 184;(with_reducible refine (bits_LeadingZeros64.calls _ _ _ _ A7.out).mono ?_);rintro e w' ⟨rfl,⟨nd,rfl⟩⟩;(try first|exact⟨rfl,_,World.drewN_drewN _ _ _⟩|exact⟨rfl,_,Eq.trans (World.drewN_drewN _ _ _) (congrArg (World.drewN _) (Nat.add_assoc _ _ _))⟩)))
 repeat (go_quiet (first|(go_at_call 184;(with_reducible refine (bits_LeadingZeros64.calls k a2 BZ _ A7.out).mono ?_);rintro e w' ⟨rfl,⟨nd,rfl⟩⟩;(try first|exact⟨rfl,_,World.drewN_drewN _ _ _⟩|exact⟨rfl,_,Eq.trans (World.drewN_drewN _ _ _) (congrArg (World.drewN _) (Nat.add_assoc _ _ _))⟩)));go_upto_block 0 with (first|(go_at_call 184;(with_reducible refine (bits_LeadingZeros64.calls k a2 BZ _ A7.out).mono ?_);rintro e w' ⟨rfl,⟨nd,rfl⟩⟩;(try first|exact⟨rfl,_,World.drewN_drewN _ _ _⟩|exact⟨rfl,_,Eq.trans (World.drewN_drewN _ _ _) (congrArg (World.drewN _) (Nat.add_assoc _ _ _))⟩))))
 (try simp only[Act.put,List.setIfInBounds_toArray,List.set_cons_zero,List.set_cons_succ])
 go_cut [15] (fun v15 wc => ∃ (kq:Nat) (qX:Int),v15=.int .u64 qX∧ae (aK.j2 kq tC ji8 ((tC) / 4294967296) (Go.bits .and .u64 (tC) 4294967295) (Go.bits .or .u64 (H6) (Ap)) ((zO) / 4294967296) (Go.bits .and .u64 (zO) 4294967295) qX=some (r1,r2))∧ae (kq≤k)∧dX w wc)
 case first =>
  go_wp2
  repeat (go_quiet (fail);try go_wp2)
  go_loopg [15,16] k (fun kq v15 v16 w' => ∃ (JZ:Int) (QB:Int),v15=.int .u64 JZ∧v16=.int .u64 QB∧ae (aK.l0 kq tC ji8 ((tC) / 4294967296) (Go.bits .and .u64 (tC) 4294967295) (Go.bits .or .u64 (H6) (Ap)) ((zO) / 4294967296) (Go.bits .and .u64 (zO) 4294967295) JZ QB=some (r1,r2))∧ae (kq≤k)∧dX w w')
  case atStart=>exact⟨(IntKind.u64.wrap (Int.tdiv (Go.bits .or .u64 (H6) (Ap)) ((tC) / 4294967296))),(IntKind.u64.wrap ((Go.bits .or .u64 (H6) (Ap))-(IntKind.u64.wrap ((IntKind.u64.wrap (Int.tdiv (Go.bits .or .u64 (H6) (Ap)) ((tC) / 4294967296)))*((tC) / 4294967296))))),(by first|rfl|(simp;done)|(simp only[← Au, ← H5, ← uU] <;> (first|rfl|simp))|(simp[*];done)),(by first|rfl|(simp;done)|(simp only[← Au, ← H5, ← uU] <;> (first|rfl|simp))|(simp[*];done)),H,zL,z4⟩
  clear H;obtain⟨JZ,QB,rfl,rfl,H,HK1,⟨m1,rfl⟩⟩:=hrel;obtain _|k1:=gk
  ·exact zz H rfl
  simp only[aK.l0]at H
  go_upto_region 17 with (fail)
  repeat (go_quiet (fail);go_upto_region 17 with (fail))
  go_cut [78] (fun v78 wc => ∃ (kq:Nat) (OL:Bool),v78=.bool OL∧ae (aK.j1 kq tC ji8 ((tC) / 4294967296) (Go.bits .and .u64 (tC) 4294967295) (Go.bits .or .u64 (H6) (Ap)) ((zO) / 4294967296) (Go.bits .and .u64 (zO) 4294967295) JZ QB OL=some (r1,r2))∧ae (kq≤k1)∧dX w wc)
  case first =>
   replace H:=yD H;rcases H with⟨BF,H⟩|⟨BF,H⟩
   (first|rw[BF]|(simp only[bW,fV];rw[BF])|rw[ac2]|skip)
   rotate_left
   (first|rw[BF]|(simp only[bW,fV];rw[BF])|rw[ac2]|skip)
   rotate_left
   all_goals (go_wp2;repeat (go_quiet (fail);try go_wp2))
   ·go_meet
    case rel=>exact⟨_,(true),z1,H,⟨by have:=HK1.out;first|omega|exact Nat.le_refl _⟩,z4⟩
   go_meet
   case rel=>exact⟨_,(decide ((IntKind.u64.wrap (JZ*(Go.bits .and .u64 (tC) 4294967295))) > (IntKind.u64.wrap ((IntKind.u64.wrap (4294967296*QB))+((zO) / 4294967296))))),(by first|rfl|(simp;done)|(simp only[← Au, ← H7] <;> (first|rfl|simp))|(simp[*];done)),H,⟨by have:=HK1.out;first|omega|exact Nat.le_refl _⟩,z4⟩
  case rest =>
   obtain⟨kq,OL,rfl,H,akW,⟨aG2,rfl⟩⟩:=hcut;obtain _|azy:=kq
   ·exact zz H rfl
   simp only[aK.j1]at H
   cases OL
   replace H:=zb0 H;rotate_left;replace H:=zb1 H;replace H:=yD H;rcases H with⟨J3,H⟩|⟨J3,H⟩;rotate_left;rotate_left
   all_goals (go_wp2;repeat (go_quiet (fail);try go_wp2))
   ·go_meet
    case rel=>exact⟨_,(JZ),z1,H,⟨by have:=HK1.out;have:=akW.out;first|omega|exact Nat.le_refl _⟩,z4⟩
   ·go_meet
    case rel=>exact⟨_,(IntKind.u64.wrap (JZ-1)),z1,H,⟨by have:=HK1.out;have:=akW.out;first|omega|exact Nat.le_refl _⟩,z4⟩
   go_roundg azy
   case measure=>have:=HK1.out;have:=akW.out;omega
   case rel=>exact⟨(IntKind.u64.wrap (JZ-1)),(IntKind.u64.wrap (QB+((tC) / 4294967296))),z1,(by first|rfl|(simp;done)|(simp only[← Au] <;> (first|rfl|simp))|(simp[*];done)),H,⟨by have:=HK1.out;have:=akW.out;omega⟩,z4⟩
 case rest =>
  obtain⟨kq,qX,rfl,H,akX,⟨aG3,rfl⟩⟩:=hcut;obtain _|aux:=kq
  ·exact zz H rfl
  simp only[aK.j2]at H;replace H:=zjk H;obtain⟨Me,azz,c24,H⟩:=H
  go_wp2
  repeat (go_quiet (fail);try go_wp2)
  go_loopg [16,18] aux (fun kq v16 v18 w' => ∃ (DW:Int) (BG:Int),v16=.int .u64 DW∧v18=.int .u64 BG∧ae (aK.l1 kq tC ji8 ((tC) / 4294967296) (Go.bits .and .u64 (tC) 4294967295) (Go.bits .and .u64 (zO) 4294967295) qX DW (IntKind.u64.wrap ((IntKind.u64.wrap ((IntKind.u64.wrap ((Go.bits .or .u64 (H6) (Ap))*4294967296))+((zO) / 4294967296)))-(IntKind.u64.wrap (qX*tC)))) BG=some (r1,r2))∧ae (kq≤aux)∧dX w w')
  case atStart=>exact⟨(IntKind.u64.wrap ((IntKind.u64.wrap ((IntKind.u64.wrap ((IntKind.u64.wrap ((Go.bits .or .u64 (H6) (Ap))*4294967296))+((zO) / 4294967296)))-(IntKind.u64.wrap (qX*tC))))-(IntKind.u64.wrap ((IntKind.u64.wrap (Int.tdiv (IntKind.u64.wrap ((IntKind.u64.wrap ((IntKind.u64.wrap ((Go.bits .or .u64 (H6) (Ap))*4294967296))+((zO) / 4294967296)))-(IntKind.u64.wrap (qX*tC)))) ((tC) / 4294967296)))*((tC) / 4294967296))))),(IntKind.u64.wrap (Int.tdiv (IntKind.u64.wrap ((IntKind.u64.wrap ((IntKind.u64.wrap ((Go.bits .or .u64 (H6) (Ap))*4294967296))+((zO) / 4294967296)))-(IntKind.u64.wrap (qX*tC)))) ((tC) / 4294967296))),(by first|rfl|(simp;done)|(simp only[← Au, ← H5, ← uU, ← H7] <;> (first|rfl|simp))|(simp[*];done)),(by first|rfl|(simp;done)|(simp only[← Au, ← H5, ← uU, ← H7] <;> (first|rfl|simp))|(simp[*];done)),H,zL,z4⟩
  clear H;obtain⟨DW,BG,rfl,rfl,H,HK2,⟨m2,rfl⟩⟩:=hrel;obtain _|k2:=gk
  ·exact zz H rfl
  simp only[aK.l1]at H
  go_upto_region 24 with (fail)
  repeat (go_quiet (fail);go_upto_region 24 with (fail))
  go_cut [113] (fun azA wc => ∃ (kq:Nat) (H8:Bool),azA=.bool H8∧ae (aK.j4 kq tC ji8 ((tC) / 4294967296) (Go.bits .and .u64 (tC) 4294967295) (Go.bits .and .u64 (zO) 4294967295) qX DW (IntKind.u64.wrap ((IntKind.u64.wrap ((IntKind.u64.wrap ((Go.bits .or .u64 (H6) (Ap))*4294967296))+((zO) / 4294967296)))-(IntKind.u64.wrap (qX*tC)))) BG H8=some (r1,r2))∧ae (kq≤k2)∧dX w wc)
  case first =>
   replace H:=yD H;rcases H with⟨QC,H⟩|⟨QC,H⟩
   (first|rw[QC]|(simp only[bW,fV];rw[QC])|rw[an7]|skip)
   rotate_left
   (first|rw[QC]|(simp only[bW,fV];rw[QC])|rw[an7]|skip)
   rotate_left
   all_goals (go_wp2;repeat (go_quiet (fail);try go_wp2))
   ·go_meet
    case rel=>exact⟨_,(true),z1,H,⟨by have:=akX.out;have:=HK2.out;first|omega|exact Nat.le_refl _⟩,z4⟩
   go_meet
   case rel=>exact⟨_,(decide ((IntKind.u64.wrap (BG*(Go.bits .and .u64 (tC) 4294967295))) > (IntKind.u64.wrap ((IntKind.u64.wrap (4294967296*DW))+(Go.bits .and .u64 (zO) 4294967295))))),(by first|rfl|(simp;done)|(simp only[← Au, ← H7] <;> (first|rfl|simp))|(simp[*];done)),H,⟨by have:=akX.out;have:=HK2.out;first|omega|exact Nat.le_refl _⟩,z4⟩
  case rest =>
   obtain⟨kq,H8,rfl,H,auy,⟨aG4,rfl⟩⟩:=hcut;obtain _|azB:=kq
   ·exact zz H rfl
   simp only[aK.j4]at H
   cases H8
   replace H:=zb0 H;replace H:=zit H;obtain⟨QD,ahk,H⟩:=H;generalize QE:(shr .u64 (IntKind.u64.wrap ((IntKind.u64.wrap ((IntKind.u64.wrap ((IntKind.u64.wrap ((IntKind.u64.wrap ((IntKind.u64.wrap ((Go.bits .or .u64 (H6) (Ap))*4294967296))+((zO) / 4294967296)))-(IntKind.u64.wrap (qX*tC))))*4294967296))+(Go.bits .and .u64 (zO) 4294967295)))-(IntKind.u64.wrap (BG*tC)))) ji8:Int)=Xk at H;have auz:((IntKind.u64.wrap ((IntKind.u64.wrap ((IntKind.u64.wrap ((IntKind.u64.wrap ((IntKind.u64.wrap ((IntKind.u64.wrap ((Go.bits .or .u64 (H6) (Ap))*4294967296))+((zO) / 4294967296)))-(IntKind.u64.wrap (qX*tC))))*4294967296))+(Go.bits .and .u64 (zO) 4294967295)))-(IntKind.u64.wrap (BG*tC)))) / 2 ^ min ji8.toNat 64)=Xk:=QE;have auA:ji8≤64→((IntKind.u64.wrap ((IntKind.u64.wrap ((IntKind.u64.wrap ((IntKind.u64.wrap ((IntKind.u64.wrap ((IntKind.u64.wrap ((Go.bits .or .u64 (H6) (Ap))*4294967296))+((zO) / 4294967296)))-(IntKind.u64.wrap (qX*tC))))*4294967296))+(Go.bits .and .u64 (zO) 4294967295)))-(IntKind.u64.wrap (BG*tC)))) / 2 ^ ji8.toNat)=Xk:=kH QE;obtain⟨rfl,rfl⟩:=zJ2 H;rotate_left;replace H:=zb1 H;replace H:=yD H;rcases H with⟨zQ,H⟩|⟨zQ,H⟩;replace H:=zit H;obtain⟨EU,ahl,H⟩:=H;generalize ac8:(shr .u64 (IntKind.u64.wrap ((IntKind.u64.wrap ((IntKind.u64.wrap ((IntKind.u64.wrap ((IntKind.u64.wrap ((IntKind.u64.wrap ((Go.bits .or .u64 (H6) (Ap))*4294967296))+((zO) / 4294967296)))-(IntKind.u64.wrap (qX*tC))))*4294967296))+(Go.bits .and .u64 (zO) 4294967295)))-(IntKind.u64.wrap ((IntKind.u64.wrap (BG-1))*tC)))) ji8:Int)=auB at H;have auC:((IntKind.u64.wrap ((IntKind.u64.wrap ((IntKind.u64.wrap ((IntKind.u64.wrap ((IntKind.u64.wrap ((IntKind.u64.wrap ((Go.bits .or .u64 (H6) (Ap))*4294967296))+((zO) / 4294967296)))-(IntKind.u64.wrap (qX*tC))))*4294967296))+(Go.bits .and .u64 (zO) 4294967295)))-(IntKind.u64.wrap ((IntKind.u64.wrap (BG-1))*tC)))) / 2 ^ min ji8.toNat 64)=auB:=ac8;have auD:ji8≤64→((IntKind.u64.wrap ((IntKind.u64.wrap ((IntKind.u64.wrap ((IntKind.u64.wrap ((IntKind.u64.wrap ((IntKind.u64.wrap ((Go.bits .or .u64 (H6) (Ap))*4294967296))+((zO) / 4294967296)))-(IntKind.u64.wrap (qX*tC))))*4294967296))+(Go.bits .and .u64 (zO) 4294967295)))-(IntKind.u64.wrap ((IntKind.u64.wrap (BG-1))*tC)))) / 2 ^ ji8.toNat)=auB:=kH ac8;obtain⟨rfl,rfl⟩:=zJ2 H;rotate_left;rotate_left
   all_goals (go_wp2;repeat (go_quiet (fail);try go_wp2))
   ·go_ret2
    exact⟨by first|rfl|(simp;done)|(simp only[← ui, ← Au, ← H5, ← qO, ← uU, ← H7, ← QE] <;> (first|rfl|simp))|(simp[*];done),z4⟩
   ·go_ret2
    exact⟨by first|rfl|(simp;done)|(simp only[← ui, ← Au, ← H5, ← qO, ← uU, ← H7, ← ac8] <;> (first|rfl|simp))|(simp[*];done),z4⟩
   go_roundg azB
   case measure=>have:=akX.out;have:=HK2.out;have:=auy.out;omega
   case rel=>exact⟨(IntKind.u64.wrap (DW+((tC) / 4294967296))),(IntKind.u64.wrap (BG-1)),(by first|rfl|(simp;done)|(simp only[← Au] <;> (first|rfl|simp))|(simp[*];done)),z1,H,⟨by have:=akX.out;have:=HK2.out;have:=auy.out;omega⟩,z4⟩
def iO.l0:Nat→List Int→Int→List Int→Int→Int→Option (List Int × Int)
  | 0,_,_,_,_,_=>none
  | k+1,x0,x1,x6,x7,x8=>if x8≥0 then (if 0≤x8 then (if x8<(x0.length:Int) then ((aK.f k x7 (rd x0 x8) x1).bind fun ahm=>(if x8<(x6.length:Int) then (iO.l0 k x0 x1 (x6.set (x8:Int).toNat ahm.1) ahm.2 (wrap64 (x8-1))) else (none))) else (none)) else (none)) else ((bH.f k x6).bind fun t193=>(some (t193,x7)))
def iO.f (k:Nat)(l0:List Int)(a1:Int):Option (List Int × Int):=if 0≤(l0.length:Int) then (if ((l0.length:Int):Int).toNat≤35184372088832 then (iO.l0 k l0 a1 (List.replicate ((l0.length:Int):Int).toNat 0) 0 (wrap64 ((l0.length:Int)-1))) else (none)) else (none)
theorem iO.calls (k:Nat)(A0:Option Addr)(c0:Nat)(l0:List Int)(a1:Int)(r1:List Int)(r2:Int)(w:World)(hr0:Kd.C (Kd.int .u64) w A0 l0.length l0)(hc0:l0.length≤c0)(h:iO.f k l0 a1=some (r1,r2)) :
    Calls Tryz.prog 105 #[.slice A0 l0.length c0,.int .u64 a1] w fun e w' => ∃ v0_:Value,e=.returned (.tuple #[v0_,.int .u64 r2])∧Kd.V (Kd.int .u64) 25 w' w.heap.size (fun k_=>(w.heap.size≤k_)) v0_ r1∧Below w.heap.size w w':=by
 have HR0:=am hr0;have HC0:=am hc0;clear hr0 hc0;have HB:=am (Below.refl w.heap.size w);have H:=am h;unfold iO.f at H;clear h;replace H:=zit H;obtain⟨pK,Kv,H⟩:=H;replace H:=zit H;obtain⟨jV,rZ,H⟩:=H;generalize ahn:(List.replicate ((l0.length:Int):Int).toNat 0:List Int)=azC at H;have aho:=zY ahn;clear ahn
 go_enter Tryz.func105,Tryz.ntmps105
 go_wp2_with (first|((with_reducible refine aA (N:=11) rfl ?_);refine Kd.wE (Kd.int .u64) _ 25 rfl (N:=11) rfl 88 _ _ rfl (l0.length:Int) (by first|rfl|(simp only[List.length_drop,List.length_take];rfl)) (by first|rfl|(simp only[List.length_drop,List.length_take];rfl)) Tryz.underlying88 (.int .u64 0) 8 info25 rfl (by decide) (by omega) 0 (ok:=fun _=>True) (okp:=fun _=>True) rfl (fun _ hk=>hk) trivial (zD) (Nat.le_trans (Nat.mul_le_mul_right _ (zD:(l0.length:Int).toNat≤35184372088832)) (by omega)) (Below.refl _ _) (Nat.le_refl _) ?_;intro auE w5 ho6 hb hg_ jO;clear hg_ jO;(first|rw[← aho.out]at ho6|(simp only[Int.reduceToNat]at ho6;rw[← aho.out]at ho6));have an8:=am (Kd.dZ (Kd.oQ (M:=fun k_=>(w.heap.size≤k_)) ho6 (zS HB) (fun k_ h_=>h_)) (zS HB));replace HB:=zBs HB hb;clear hb ho6))
 go_loopg [7,8] k (fun kq v7 v8 w' => ∃ (mr:List Int) (lC:Int) (lF:Int),v7=.int .u64 lC∧v8=.int .i64 lF∧ae (iO.l0 kq l0 a1 mr lC lF=some (r1,r2))∧ae (kq≤k)∧ae (Kd.R (Kd.int .u64) 25 w' w.heap.size (fun k_=>(w.heap.size≤k_)) auE mr)∧ae (Below w.heap.size w w'))
 case atStart=>exact⟨(azC),(0),(wrap64 ((l0.length:Int)-1)),z1,z1,H,zL,⟨by (with_reducible repeat (first|apply Kd.cO|apply Kd.bZ|apply Kd.dK));exact Kd.dm an8.out (fun _ hk=>hk.1)⟩,⟨zB HB⟩⟩
 clear H;obtain⟨mr,lC,lF,rfl,rfl,H,HK1,o5,HB⟩:=hrel;obtain _|k1:=gk
 ·exact zz H rfl
 simp only[iO.l0]at H;replace H:=yD H;rcases H with⟨yE,H⟩|⟨yE,H⟩;replace H:=zid H;obtain⟨uz,H⟩:=H;replace H:=zid H;obtain⟨vF,H⟩:=H;replace H:=zo H;obtain⟨⟨an9,azD⟩,A10,H⟩:=H
 try dsimp only at H
 replace H:=zid H;obtain⟨qJ,H⟩:=H;generalize ahp:(mr.set (lF:Int).toNat an9:List Int)=auF at H;have aoa:=zY ahp;clear ahp;have aob:0≤(lF:Int):=zD;have aoc:lF<(l0.length:Int):=zD;obtain⟨azE,e189,MB⟩:=Kd.dQ HR0.out lF aob aoc
 cases e189
 replace MB:=(HB.out.cell (World.block_lt_of_cell? w _ MB)).trans MB;replace aob:=eq_true aob;replace aoc:=eq_true aoc;rotate_left;replace H:=zo H;obtain⟨t193,A15,H⟩:=H;obtain⟨rfl,rfl⟩:=zJ2 H;obtain⟨Gi,Bj,QF⟩:=Kd.dU o5.out;subst QF;rotate_left
 all_goals (go_wp2_with (first|((with_reducible refine af (f:=164) rfl ?_);refine zc (some 28) Tryz.func164 _ (aK.calls _ _ _ _ _ _ _ A10.out) ?_;rintro e w' ⟨rfl,⟨nd,rfl⟩⟩;refine⟨_,rfl,?_⟩;(try (rw[gI wr];generalize hq_:World.drewN wr _=wr;have n0_:ae (Kd.R (Kd.int .u64) 25 wr w.heap.size (fun k_=>(w.heap.size≤k_)) auE mr):=⟨by rw[← hq_];exact (zR o5)⟩;have n1_:ae (Below w.heap.size w wr):=⟨by rw[← hq_];exact (zB HB)⟩;clear o5 HB hq_;have o5:=n0_;have HB:=n1_;clear n0_ n1_));have p12:0≤(lF:Int):=zD;have q12:(lF:Int)<((mr.length:Int):Int):=zD;obtain⟨aod,Vw,aaq,auG,azF,aG5,auH⟩:=Kd.oP o5.out (by omega);(first|cases aaq|(injection aaq with ea_ en_ ec_;(first|subst ea_|(injection ea_ with ea_;subst ea_));subst ec_;clear en_));have azG:=am auG;have aG6:=am auH;clear auG azF auH;obtain⟨auI,auJ⟩:=Kd.iR 0 o5.out (lF:Int) p12 q12;replace p12:=eq_true p12;replace q12:=eq_true q12;obtain⟨azH,azI⟩:=Kd.iR 0 o5.out (lF:Int) (zD) (zD);have aoe:=Kd.mX o5.out (lF:Int) an9)|((with_reducible refine fO (t:=25) (p:=31) rfl ?_);refine ed (t:=25) (p:=31) (v:=?auK) (w1:=(wr.setCell ⟨aod,(lF:Int).toNat,none⟩ (.int .u64 an9))) ?hg ?ho ?hn ?hr ?_;(case ho=>rfl);(case hg=>rfl);(case hn=>rfl);(case hr=>first|(go_simp;done)|(go_simp;rfl));intro w14 hw;have hg:wr.grownBy w14 (some aod):=(by rw[hw];exact aoe.2);have hp_:Kd.R (Kd.int .u64) 25 w14 w.heap.size (fun k_=>(w.heap.size≤k_)) (.slice (some ⟨aod,0,none⟩) mr.length Vw) auF:=(by rw[hw,aoa.out];exact aoe.1);clear aoe;replace o5:=am (hp_);replace HB:=am ((by rw[hw];exact bF (HB.out) azG.out:Below w.heap.size w w14));clear hg hw hp_)|((with_reducible refine af (f:=103) rfl ?_);refine zc (some 33) Tryz.func103 #[.slice Gi mr.length Bj] (bH.calls _ (fun k_=>some k_=(.slice Gi mr.length Bj:Value).ownBlock) _ _ _ _ _ (Kd.R_V (Kd.jZ rfl (o5.out))) A15.out) ?_;rintro e w17 ⟨v194,rfl,ho0,hb⟩;refine⟨_,rfl,?_⟩;have aof:=am (Kd.dG (Kd.bG (ok':=fun k_=>(w.heap.size≤k_)) ho0 (fun k_ hk_=>Or.elim hk_ (fun hs_=>((o5.out).1 k_ hs_.symm)) (fun hn_=>(Nat.le_trans (zS HB) hn_)))) (zS HB));replace o5:=zRb o5 hb;replace HB:=zBs HB hb;clear hb ho0)))
 ·go_roundg k1
  case measure=>have:=HK1.out;omega
  case rel=>exact⟨(auF),(azD),(wrap64 (lF-1)),z1,z1,H,(zH HK1),⟨zR o5⟩,⟨zB HB⟩⟩
 go_ret2
 exact⟨_,z2,zV aof,zB HB⟩
end Go.Proofs.Yy.PTx
end
