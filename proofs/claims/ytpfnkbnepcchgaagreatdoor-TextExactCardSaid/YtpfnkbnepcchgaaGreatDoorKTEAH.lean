/- Part 8 of what the proof needs. -/
import Derived.Test.YtpfnkbnepcchgaaGreatDoorKTEAG
set_option linter.unusedSimpArgs false
set_option linter.unusedVariables false
section
set_option maxHeartbeats 8000000
set_option maxRecDepth 100000
namespace Go.Proofs.Yy.PTx
open Go.RowKit Go.Proofs.Yy.Z Go.Proofs.Yw.PrintWords Go.Proofs.Yw.PrintLast Go.Proofs.Yw.PrintMore
open Go.Proofs.Yy.M
attribute [local go_sem] dw dQ lD lF lC lG
attribute [local go_sem] gy gz ja jc fC fD gQ gK
attribute [local go_sem high] Zy
def uB.f (k:Nat) (dW:Int) (dK:Int):Option (Int):=if dW > 0 then ((bits_Len64.f k dW).bind fun asU=>(some (wrap64 (64+asU)))) else ((bits_Len64.f k dK).bind fun asV=>(some asV))
theorem uB.calls (k:Nat) (dW:Int) (dK:Int) (r:Int) (w:World) (h:uB.f k dW dK=some r) :
    Calls Tryz.prog 186 #[.agg #[.int .u64 dW, .int .u64 dK]] w fun e w'=>e = .returned (.int .i64 r)∧Below w.heap.size w w':=by
 have Jz:=Tryz.underlying211
 have HB:=am (Below.refl w.heap.size w)
 have H:=am h
 unfold uB.f at H
 clear h
 replace H:=Em H
 rcases H with ⟨uU,H⟩|⟨uU,H⟩
 replace H:=zo H
 obtain ⟨asU,A3,H⟩:=H
 obtain rfl:=Option.some.inj H.out
 rotate_left
 replace H:=zo H
 obtain ⟨asV,A6,H⟩:=H
 obtain rfl:=Option.some.inj H.out
 rotate_left
 all_goals (go_enter Tryz.func186,Tryz.ntmps186;go_wp2_with (first|((with_reducible refine ay (N:=1) rfl ?_);refine zx 1 211 #[.int .u64 dW, .int .u64 dK] ?_;intro axJ hg w4 hbox hb;have amq:=am (hbox);have axK:=zG hg HB;have axL:=zG hg HB;replace HB:=zBs HB hb;clear hb hbox hg;obtain ⟨_,_,_,_⟩:=zf2 amq)|((with_reducible refine af (f:=152) rfl ?_);refine zc (some 8) Tryz.func152 _ (bits_Len64.calls _ _ _ _ A3.out) ?_;rintro e w' ⟨rfl,⟨nd,rfl⟩⟩;refine ⟨_,rfl,?_⟩)|((with_reducible refine af (f:=152) rfl ?_);refine zc (some 12) Tryz.func152 _ (bits_Len64.calls _ _ _ _ A6.out) ?_;rintro e w' ⟨rfl,⟨nd,rfl⟩⟩;refine ⟨_,rfl,?_⟩)))
 ·go_ret
  exact ⟨z2,zB HB⟩
 go_ret
 exact ⟨z2,zB HB⟩
def jX.f (dW:Int) (dK:Int) (a1:Int):Option (Int × Int):=if a1 ≥ 64 then (if 0≤(wrap64 (a1 - 64)) then (some (shl .u64 dK (wrap64 (a1 - 64)),0)) else (none)) else (if 0≤a1 then (if 0≤(wrap64 (64 - a1)) then (some (Go.bits .or .u64 (shl .u64 dW a1) (shr .u64 dK (wrap64 (64 - a1))),shl .u64 dK a1)) else (none)) else (none))
def jX.T3:Bool × List (List Nat × List Nat):=(true, [([], []),([0], [0]),([], []),([1,2], [1,2]),([], []),([4], [4]),([], []),([6], [6]),([5,7], [5,7]),([3,8], [3,8]),([], []),([10], [10]),([], []),([11,12], [11,12]),([9,13], [9,13]),([14,0,1,2,3,4,5,6,7,8,9,10,11,12,13,14], [14])])
def jX.B3:List Nat := [0,1,0,7,0,16,0,64,240,511,0,1024,0,7168,16383,32767]
theorem jX.akR:rW .any (opsOf Tryz.f187 3)=jX.T3:=by kernel_rfl
theorem jX.aa6:jB jX.T3.2 jX.B3=true:=by kernel_rfl
theorem jX.calls (dW:Int) (dK:Int) (a1:Int) (r1:Int) (r2:Int) (w:World) (h:jX.f dW dK a1=some (r1,r2)) :
    Calls Tryz.prog 187 #[.agg #[.int .u64 dW, .int .u64 dK], .int .i64 a1] w fun e w'=>e = .returned (.agg #[.int .u64 r1, .int .u64 r2])∧Below w.heap.size w w':=by
 have Jz:=Tryz.underlying211
 have HB:=am (Below.refl w.heap.size w)
 have H:=am h
 unfold jX.f at H
 clear h
 replace H:=zf H
 rcases H with ⟨pg,H⟩|⟨pg,H⟩
 ·generalize BI:(wrap64 (a1 - 64):Int)=ji4 at H
  have UK:(IntKind.i64.wrap (a1 - 64))=ji4:=(bI _).trans BI
  replace H:=zit H
  obtain ⟨rG,xw,H⟩:=H
  generalize uI:(shl .u64 dK (ji4):Int)=ji6 at H
  have ach:(IntKind.u64.wrap (dK * 2 ^ min (ji4).toNat 64))=ji6:=uI
  have aci:(ji4)≤64→(IntKind.u64.wrap (dK * 2 ^ (ji4).toNat))=ji6:=iR uI
  obtain ⟨rfl,rfl⟩:=zJ2 H
  go_enter Tryz.func187,Tryz.ntmps187
  go_wp2_with (first|((with_reducible refine ay (N:=2) rfl ?_);refine zx 2 211 #[.int .u64 dW, .int .u64 dK] ?_;intro acj hg w7 hbox hb;have xA:=am (hbox);have amr:=zG hg HB;have ams:=zG hg HB;replace HB:=zBs HB hb;clear hb hbox hg)|((with_reducible refine ay (N:=4) rfl ?_);refine zx 4 211 #[.int .u64 0, .int .u64 0] ?_;intro ack hg w8 hbox hb;have Dp:=am (hbox);have amu:=zG hg HB;have amv:=zG hg HB;replace HB:=zBs HB hb;have yJ:=zNl hg xA;have yK:=zNg hg xA;replace xA:=zKb xA hb;clear hb hbox hg;have axM:=yJ.out;have axN:=yK.out;obtain ⟨_,_,_,_⟩:=zf2 xA;obtain ⟨_,_,_,_⟩:=zf2 Dp))
  refine bodyPost_ret (results_cell_row rfl _ _ ack 211 #[.int .u64 ji6, .int .u64 0] (0,0) _ rfl (zKp Dp) Tryz.underlying211 rfl (by kernel_rfl)) rfl ?_
  exact ⟨by first|exact z3|(simp only [← BI, ← uI];exact z3)|exact z2,zB HB⟩
 replace H:=zit H
 obtain ⟨nO,rH,H⟩:=H
 generalize qw:(shl .u64 dW a1:Int)=qj at H
 have U0:(IntKind.u64.wrap (dW * 2 ^ min a1.toNat 64))=qj:=qw
 have ZN:a1≤64→(IntKind.u64.wrap (dW * 2 ^ a1.toNat))=qj:=iR qw
 generalize U1:(wrap64 (64 - a1):Int)=J4 at H
 have agr:(IntKind.i64.wrap (64 - a1))=J4:=(bI _).trans U1
 replace H:=zit H
 obtain ⟨Bf,Qm,H⟩:=H
 generalize JA:(shr .u64 dK (J4):Int)=LX at H
 have asW:(dK / 2 ^ min (J4).toNat 64)=LX:=JA
 have asX:(J4)≤64→(dK / 2 ^ (J4).toNat)=LX:=jT JA
 have Dk:=eq_true (zD:0≤a1)
 generalize uJ:(shl .u64 dK a1:Int)=Dq at H
 have OB:(IntKind.u64.wrap (dK * 2 ^ min a1.toNat 64))=Dq:=uJ
 have ZO:a1≤64→(IntKind.u64.wrap (dK * 2 ^ a1.toNat))=Dq:=iR uJ
 obtain ⟨rfl,rfl⟩:=zJ2 H
 go_enter Tryz.func187,Tryz.ntmps187
 try go_wp2_with (first|((with_reducible refine ay (N:=2) rfl ?_);refine zx 2 211 #[.int .u64 dW, .int .u64 dK] ?_;intro acj hg w19 hbox hb;have xA:=am (hbox);have amr:=zG hg HB;have ams:=zG hg HB;replace HB:=zBs HB hb;clear hb hbox hg)|((with_reducible refine ay (N:=4) rfl ?_);refine zx 4 211 #[.int .u64 0, .int .u64 0] ?_;intro ack hg w20 hbox hb;have Dp:=am (hbox);have amu:=zG hg HB;have amv:=zG hg HB;replace HB:=zBs HB hb;have yJ:=zNl hg xA;have yK:=zNg hg xA;replace xA:=zKb xA hb;clear hb hbox hg))
 replace xA:=am (dS xA.out)
 replace Dp:=am (dS Dp.out)
 replace HB:=am (aZ HB.out)
 refine ny (n:=16) (S:=fun w'=>w'.cell? ⟨acj,0,none⟩=some (.int .u64 dW)∧w'.cell? ⟨acj,1,none⟩=some (.int .u64 dK)) (ds := []) (Array.replicate 16 false) (by kernel_rfl) rfl rfl ⟨(ag xA.out 0).trans rfl,(ag xA.out 1).trans rfl⟩ (fun hHeld=>?_);refine iw jX.akR jX.aa6 (fun HT_ HW_=>?_)
 generalize w20.drew=w21 at xA Dp HB hHeld ⊢
 refine zp HT_ 0 (some 13) ?_
 refine zp HT_ 2 (some 15) ?_
 refine zp HT_ 4 (some 17) ?_
 refine zp HT_ 6 (some 19) ?_
 refine zp HT_ 7 (some 20) ?_
 refine zp HT_ 10 (some 23) ?_
 refine zp HT_ 12 (some 25) ?_
 refine zt HT_ HW_ 1 (some 14) hHeld ?_
 refine zp HT_ 3 (some 16) ?_
 refine zt HT_ HW_ 5 (some 18) hHeld ?_
 refine zp HT_ 8 (some 21) ?_
 refine zp HT_ 9 (some 22) ?_
 refine zt HT_ HW_ 11 (some 24) hHeld ?_
 refine zp HT_ 13 (some 26) ?_
 refine zp HT_ 14 (some 27) ?_
 refine zu HT_ 15 none (fun K hK=>?_)
 have axO:=zl Dp 0
 have amw:=au Dp.out 0
 have acl:=yJ.out
 have acm:=yK.out
 have asY:=zl Dp 1
 have ags:=au Dp.out 1
 have U2:=yJ.out
 have U3:=yK.out
 refine vK (w1:=?_) (by rfl) rfl ?_ ?_
 rotate_left
 ·go_simp
  rfl
 refine hK.out _ _ ⟨(zh hHeld),(zh hHeld)⟩ (fun hHeld=>?_)
 clear hK K
 refine o6 (jd HT_.out (by kernel_rfl)) ?_
 try go_wp2
 refine bodyPost_ret (results_cell_row rfl _ _ ack 211 #[.int .u64 (Go.bits .or .u64 (qj) (LX)), .int .u64 Dq] (0,0) _ rfl (zKp Dp) Tryz.underlying211 rfl (by kernel_rfl)) rfl ?_
 exact ⟨by first|exact z3|(simp only [← qw, ← U1, ← JA, ← uJ];exact z3)|exact z2,zB HB⟩
def tq.f (k:Nat) (dW:Int) (dK:Int):Option (Int × Int × Int):=if (dW == 0 && (dK == 0))=true then (some (dW,dK,0)) else ((uB.f k dW dK).bind fun amx=>((jX.f dW dK (wrap64 (128 - amx))).bind fun agt=>(some (agt.1,agt.2,wrap64 (128 - amx)))))
theorem tq.calls (k:Nat) (dW:Int) (dK:Int) (r1:Int) (r2:Int) (r3:Int) (w:World) (h:tq.f k dW dK=some (r1,r2,r3)) :
    Calls Tryz.prog 145 #[.agg #[.int .u64 dW, .int .u64 dK]] w fun e w'=>e = .returned (.tuple #[.agg #[.int .u64 r1, .int .u64 r2], .int .i64 r3])∧Below w.heap.size w w':=by
 have Jz:=Tryz.underlying211
 have HB:=am (Below.refl w.heap.size w)
 have H:=am h
 unfold tq.f at H
 clear h
 replace H:=zs H
 rcases H with ⟨c2,H⟩|⟨c2,H⟩
 have uU:(dW == 0 && (dK == 0))=true:=c2
 (try (have LJ:decide (dW=0 && (dK == 0))=true:=by simpa using c2))
 (try (have axP:(dW == 0 && (dK == 0))=true:=by simpa using c2))
 clear c2
 obtain ⟨rfl,rfl,rfl⟩:=zJ3 H
 rotate_left
 have uU:(dW == 0 && (dK == 0))=false:=by simpa using c2
 (try (have LJ:decide (dW=0 && (dK == 0))=false:=by simpa using c2))
 (try (have axP:(dW == 0 && (dK == 0))=false:=by simpa using c2))
 (try (have aFW:¬ (dW=0 && (dK == 0)):=by simpa using c2))
 clear c2
 replace H:=zo H
 obtain ⟨amx,A8,H⟩:=H
 replace H:=zo H
 obtain ⟨⟨axQ,axR⟩,A9,H⟩:=H
 try dsimp only at H
 obtain ⟨rfl,rfl,rfl⟩:=zJ3 H
 rotate_left
 all_goals (go_enter Tryz.func145,Tryz.ntmps145;go_wp2_with (first|((with_reducible refine ay (N:=1) rfl ?_);refine zx 1 211 #[.int .u64 dW, .int .u64 dK] ?_;intro axS hg w10 hbox hb;have ED:=am (hbox);have axT:=zG hg HB;have axU:=zG hg HB;replace HB:=zBs HB hb;clear hb hbox hg)|((with_reducible refine ay (N:=2) rfl ?_);refine zx 2 211 #[.int .u64 0, .int .u64 0] ?_;intro agu hg w11 hbox hb;have JB:=am (hbox);have axV:=zG hg HB;have axW:=zG hg HB;replace HB:=zBs HB hb;have U4:=zNl hg ED;have U5:=zNg hg ED;replace ED:=zKb ED hb;clear hb hbox hg;have agv:=U4.out;have agw:=U5.out;obtain ⟨_,_,_,_⟩:=zf2 ED;obtain ⟨_,_,_,_⟩:=zf2 JB)|((with_reducible refine af (f:=186) rfl ?_);refine zc (some 10) Tryz.func186 _ (uB.calls _ _ _ _ _ A8.out) ?_;rintro e w14 ⟨rfl,hb⟩;refine ⟨_,rfl,?_⟩;replace ED:=zKb ED hb;replace JB:=zKb JB hb;replace HB:=zBs HB hb;clear hb;obtain ⟨_,_,_,_⟩:=zf2 ED)|((with_reducible refine af (f:=187) rfl ?_);refine zc (some 14) Tryz.func187 _ (jX.calls _ _ _ _ _ _ A9.out) ?_;rintro e w16 ⟨rfl,hb⟩;refine ⟨_,rfl,?_⟩;replace ED:=zKb ED hb;replace JB:=zKb JB hb;replace HB:=zBs HB hb;clear hb;obtain ⟨_,_,_,_⟩:=zf2 JB)))
 ·refine bodyPost_ret (bJ rfl _ _ agu 211 #[.int .u64 dW, .int .u64 dK] (0,0) _ rfl (zKp JB) Tryz.underlying211 rfl (by kernel_rfl)) rfl ?_
  exact ⟨z2,zB HB⟩
 refine bodyPost_ret (bJ rfl _ _ agu 211 #[.int .u64 axQ, .int .u64 axR] (0,0) _ rfl (zKp JB) Tryz.underlying211 rfl (by kernel_rfl)) rfl ?_
 exact ⟨z2,zB HB⟩
def pG.f (a0:Int):Option (Int):=some (mx (-1099511627776) (mn a0 1099511627776))
theorem pG.calls (a0:Int) (r:Int) (w:World) (h:pG.f a0=some r) :
    Calls Tryz.prog 146 #[.int .i64 a0] w fun e w'=>e = .returned (.int .i64 r)∧Below w.heap.size w w':=by
 have HB:=am (Below.refl w.heap.size w)
 have H:=am h
 unfold pG.f at H
 clear h
 generalize asZ:(mn a0 1099511627776:Int)=ji2 at H
 have axX:(if 1099511627776<a0 then 1099511627776 else a0)=ji2:=asZ
 generalize JC:(mx (-1099511627776) (ji2):Int)=ji3 at H
 have axY:(if (-1099511627776)<(ji2) then (ji2) else (-1099511627776))=ji3:=JC
 obtain rfl:=Option.some.inj H.out
 go_enter Tryz.func146,Tryz.ntmps146
 go_wp2
 go_ret
 exact ⟨by first|exact z3|(simp only [← asZ, ← JC];exact z3)|exact z2,zB HB⟩
def eG.j0:Nat→Bool→Int→Int→Int→Bool→Bool→Option (Int × Bool × Int × Int × Int × Bool × Option Int)
  | 0,_,_,_,_,_,_=>none
  | k+1,x0,x1,x2,x3,x4,x19=>if x19=true then (some (0,false,0,0,0,false,some 1)) else ((tq.f k x1 x2).bind fun U6=>(if (U6.1 == 0 && (U6.2.1 == 0))=true then (some (0,false,0,0,0,false,none)) else ((pG.f (wrap64 ((wrap64 ((mx (-4398046511104) (mn x3 4398046511104))+127)) - U6.2.2))).bind fun ajZ=>(some (1,x0,ajZ,U6.1,U6.2.1,x4,none)))))
def eG.f (k:Nat) (a0:Bool) (a1:Int) (a2:Int) (a3:Int) (a4:Bool):Option (Int × Bool × Int × Int × Int × Bool × Option Int):=if a4=true then (eG.j0 k a0 a1 a2 a3 a4 ((a1 / 9223372036854775808) == 0)) else (eG.j0 k a0 a1 a2 a3 a4 false)
def eG.T7:Bool × List (List Nat × List Nat):=(true, [([], []),([], []),([1], [1]),([], []),([2,3], [2,3]),([4], [4]),([], []),([6], [6]),([], []),([8], [8]),([], []),([0,5,7,9,10], [0,5,7,9,10]),([11,5,0,1,2,3,4,5,6,7,8,9,10,11], [11]),([12,0,1,2,3,4,5,6,7,8,9,10,11,12], [])])
def eG.B7:List Nat := [0,0,2,0,14,30,0,64,0,256,0,2047,4095,8191]
theorem eG.awN:rW .any (opsOf Tryz.f93 7)=eG.T7:=by kernel_rfl
theorem eG.akS:jB eG.T7.2 eG.B7=true:=by kernel_rfl
theorem eG.calls (k:Nat) (a0:Bool) (a1:Int) (a2:Int) (a3:Int) (a4:Bool) (r1:Int) (r2:Bool) (r3:Int) (r4:Int) (r5:Int) (r6:Bool) (r7:Option Int) (w:World) (h:eG.f k a0 a1 a2 a3 a4=some (r1,r2,r3,r4,r5,r6,r7)) :
    Calls Tryz.prog 93 #[.bool a0, .int .u64 a1, .int .u64 a2, .int .i64 a3, .bool a4] w fun e w'=>e = .returned (.tuple #[.agg #[.int .i64 r1, .bool r2, .int .i64 r3, .int .u64 r4, .int .u64 r5, .bool r6],qm r7])∧Below w.heap.size w w':=by
 have ad3:=Tryz.underlying81
 have Jz:=Tryz.underlying211
 have yL:=Tryz.underlying27
 have hu64:=Tryz.underlying64
 have HB:=am (Below.refl w.heap.size w)
 have H:=am h
 unfold eG.f at H
 clear h
 go_enter Tryz.func93,Tryz.ntmps93
 go_upto_region 1 with (first|((with_reducible refine ay (N:=10) rfl ?_);refine zx 10 81 #[.int .i64 0, .bool false, .int .i64 0, .int .u64 0, .int .u64 0, .bool false] ?_;intro Yv hg w7 hbox hb;have lM:=am (hbox);have axZ:=zG hg HB;have ax0:=zG hg HB;replace HB:=zBs HB hb;clear hb hbox hg))
 (try simp only [Act.put,List.setIfInBounds_toArray,List.set_cons_zero,List.set_cons_succ])
 go_cut [19] (fun v19 wc => ∃ (kq:Nat) (Yx:Bool),v19 = .bool Yx∧ae (eG.j0 kq a0 a1 a2 a3 a4 Yx=some (r1,r2,r3,r4,r5,r6,r7))∧ae (kq≤k)∧ae (wc.heap[Yv]? = some (.cells #[.int .i64 0, .bool false, .int .i64 0, .int .u64 0, .int .u64 0, .bool false] 81 (0,0)))∧ae (Below w.heap.size w wc))
 case first =>
  cases a4
  replace H:=zb0 H
  rotate_left
  replace H:=zb1 H
  rotate_left
  all_goals (go_wp2)
  ·go_meet
   case rel=>exact ⟨_,(false),z1,H,⟨z5⟩,⟨zK lM⟩,⟨zB HB⟩⟩
  go_meet
  case rel=>exact ⟨_,(((a1 / 9223372036854775808) == 0)),z1,H,⟨z5⟩,⟨zK lM⟩,⟨zB HB⟩⟩
 case rest =>
  obtain ⟨kq,Yx,rfl,H,HJ5,lM,HB⟩:=hcut
  obtain _|kj5:=kq
  ·exact zz H rfl
  simp only [eG.j0] at H
  cases Yx
  replace H:=zb0 H
  replace H:=zo H
  obtain ⟨⟨OC,OD,as1⟩,A11,H⟩:=H
  try dsimp only at H
  replace H:=zs H
  rcases H with ⟨c12,H⟩|⟨c12,H⟩
  have nO:(OC == 0 && (OD == 0))=true:=c12
  (try (have rH:decide (OC=0 && (OD == 0))=true:=by simpa using c12))
  (try (have agx:(OC == 0 && (OD == 0))=true:=by simpa using c12))
  clear c12
  obtain ⟨rfl,rfl,rfl,rfl,rfl,rfl,rfl⟩:=zJ7 H
  rotate_left
  ·have nO:(OC == 0 && (OD == 0))=false:=by simpa using c12
   (try (have rH:decide (OC=0 && (OD == 0))=false:=by simpa using c12))
   (try (have agx:(OC == 0 && (OD == 0))=false:=by simpa using c12))
   (try (have ax1:¬ (OC=0 && (OD == 0)):=by simpa using c12))
   clear c12
   generalize uJ:(mn a3 4398046511104:Int)=Dq at H
   (try rw [uJ] at A11)
   have OB:(if 4398046511104<a3 then 4398046511104 else a3)=Dq:=uJ
   generalize sO:(mx (-4398046511104) (Dq):Int)=FM at H
   (try rw [sO] at A11)
   have agy:(if (-4398046511104)<(Dq) then (Dq) else (-4398046511104))=FM:=sO
   replace H:=zo H
   obtain ⟨ajZ,A20,H⟩:=H
   obtain ⟨rfl,rfl,rfl,rfl,rfl,rfl,rfl⟩:=zJ7 H
   try go_wp2_with (first|((with_reducible refine af (f:=145) rfl ?_);refine zc (some 26) Tryz.func145 _ (tq.calls _ _ _ _ _ _ _ A11.out) ?_;rintro e w21 ⟨rfl,hb⟩;refine ⟨_,rfl,?_⟩;replace lM:=zKb lM hb;replace HB:=zBs HB hb;clear hb)|((with_reducible refine ay (N:=12) rfl ?_);refine zx 12 211 #[.int .u64 0, .int .u64 0] ?_;intro Bj hg w22 hbox hb;have xB:=am (hbox);have amy:=zG hg HB;have amz:=zG hg HB;replace HB:=zBs HB hb;have oQ:=zNl hg lM;have oU:=zNg hg lM;replace lM:=zKb lM hb;clear hb hbox hg;have amA:=oU.out;have amB:=oQ.out;obtain ⟨_,_,_,_⟩:=zf2 xB))
   have n0_:ae (((w22.setCell ⟨Bj,0,none⟩ (.int .u64 OC)).setCell ⟨Bj,1,none⟩ (.int .u64 OD)).heap[Yv]? = some (.cells #[.int .i64 0, .bool false, .int .i64 0, .int .u64 0, .int .u64 0, .bool false] 81 (0,0))):=⟨zK lM⟩
   have n1_:ae (((w22.setCell ⟨Bj,0,none⟩ (.int .u64 OC)).setCell ⟨Bj,1,none⟩ (.int .u64 OD)).heap[Bj]? = some (.cells #[.int .u64 OC, .int .u64 OD] 211 (0,0))):=⟨zKp xB⟩
   have n2_:ae (Below w.heap.size w ((w22.setCell ⟨Bj,0,none⟩ (.int .u64 OC)).setCell ⟨Bj,1,none⟩ (.int .u64 OD))):=⟨zB HB⟩
   (try clear lM)
   (try clear xB)
   (try clear HB)
   generalize ((w22.setCell ⟨Bj,0,none⟩ (.int .u64 OC)).setCell ⟨Bj,1,none⟩ (.int .u64 OD))=w25 at n0_ n1_ n2_ ⊢
   have lM:=n0_
   have xB:=n1_
   have HB:=n2_
   clear n0_ n1_ n2_
   replace lM:=am (dS lM.out)
   replace xB:=am (dS xB.out)
   replace HB:=am (aZ HB.out)
   refine ny (n:=14) (S:=fun w'=>w'.cell? ⟨Bj,0,none⟩=some (.int .u64 OC)∧w'.cell? ⟨Bj,1,none⟩=some (.int .u64 OD)) (ds := []) (Array.replicate 14 false) (by kernel_rfl) rfl rfl ⟨(ag xB.out 0).trans rfl,(ag xB.out 1).trans rfl⟩ (fun hHeld=>?_);refine iw eG.awN eG.akS (fun HT_ HW_=>?_)
   generalize w25.drew=w26 at lM xB HB hHeld ⊢
   refine zp HT_ 0 (some 36) ?_
   refine zp HT_ 1 (some 37) ?_
   refine zp HT_ 2 (some 38) ?_
   refine zp HT_ 3 (some 39) ?_
   refine zp HT_ 4 (some 40) ?_
   refine zp HT_ 6 (some 42) ?_
   refine zp HT_ 8 (some 44) ?_
   refine zp HT_ 10 (some 46) ?_
   refine zt HT_ HW_ 7 (some 43) hHeld ?_
   refine zt HT_ HW_ 9 (some 45) hHeld ?_
   refine zu HT_ 5 (some 41) (fun K hK=>?_)
   refine oK Tryz.func146 (by kernel_rfl) rfl #[.int .i64 (wrap64 ((wrap64 ((FM)+127)) - as1))] (by rfl) rfl rfl (by (try simp only [List.map_toArray,List.map_cons,List.map_nil]);first|done|(simp only [sO];rfl)|rfl|(simp only [List.length_drop,List.length_take];rfl)) ?_
   with_reducible refine (pG.calls (wrap64 ((wrap64 ((FM)+127)) - as1)) ajZ _ A20.out).mono ?_
   rintro e w27 ⟨rfl,hb⟩
   refine ⟨_,rfl,?_⟩
   replace lM:=zKb lM hb
   replace xB:=zKb xB hb
   replace HB:=zBs HB hb
   (try clear hb)
   (try clear hb2)
   (try clear hk)
   (try clear hi)
   refine hK.out _ _ ⟨(ag xB.out 0).trans rfl,(ag xB.out 1).trans rfl⟩ (fun hHeld=>?_)
   clear hK K
   refine kK (a':=?_) ?_ ?_
   rotate_left
   ·show Act.put _ (some 41) _=_
    simp only [Act.put,List.setIfInBounds_toArray,List.set_cons_zero,List.set_cons_succ,bI,dV]
    rfl
   refine zp HT_ 11 (some 47) ?_
   refine zu HT_ 12 none (fun K hK=>?_)
   have aFX:=zl lM 0
   have ax2:=au lM.out 0
   have amC:=oU.out
   have amD:=oQ.out
   have aFY:=zl lM 1
   have ax3:=au lM.out 1
   have amE:=oU.out
   have amF:=oQ.out
   have aFZ:=zl lM 2
   have ax4:=au lM.out 2
   have amG:=oU.out
   have amH:=oQ.out
   have aF0:=zl lM 3
   have ax5:=au lM.out 3
   have amI:=oU.out
   have amJ:=oQ.out
   have aF1:=zl lM 4
   have ax6:=au lM.out 4
   have amK:=oU.out
   have amL:=oQ.out
   have aF2:=zl lM 5
   have ax7:=au lM.out 5
   have amM:=oU.out
   have amN:=oQ.out
   refine vK (w1:=?_) (by rfl) rfl ?_ ?_
   rotate_left
   ·go_simp
    rfl
   refine hK.out _ _ ⟨(zh hHeld),(zh hHeld)⟩ (fun hHeld=>?_)
   clear hK K
   refine zp HT_ 13 (some 11) ?_
   refine o6 (jd HT_.out (by kernel_rfl)) ?_
   try go_wp2
   refine bodyPost_ret (bJ rfl _ _ Yv 81 #[.int .i64 1, .bool a0, .int .i64 ajZ, .int .u64 OC, .int .u64 OD, .bool a4] (0,0) _ rfl (zKp lM) Tryz.underlying81 rfl (by kernel_rfl)) rfl ?_
   exact ⟨by first|exact z3|(simp only [← uJ, ← sO];exact z3)|exact z2,zB HB⟩
  replace H:=zb1 H
  obtain ⟨rfl,rfl,rfl,rfl,rfl,rfl,rfl⟩:=zJ7 H
  obtain ⟨_,_,_,_,_,_,_,_,_,_,_,_⟩:=zf6 lM
  rotate_left
  all_goals (go_wp2_with (first|((with_reducible refine af (f:=145) rfl ?_);refine zc (some 26) Tryz.func145 _ (tq.calls _ _ _ _ _ _ _ A11.out) ?_;rintro e w13 ⟨rfl,hb⟩;refine ⟨_,rfl,?_⟩;replace lM:=zKb lM hb;replace HB:=zBs HB hb;clear hb)|((with_reducible refine ay (N:=12) rfl ?_);refine zx 12 211 #[.int .u64 0, .int .u64 0] ?_;intro Bj hg w14 hbox hb;have xB:=am (hbox);have amy:=zG hg HB;have amz:=zG hg HB;replace HB:=zBs HB hb;have oQ:=zNl hg lM;have oU:=zNg hg lM;replace lM:=zKb lM hb;clear hb hbox hg;have agz:=oU.out;have agA:=oQ.out;obtain ⟨_,_,_,_⟩:=zf2 xB;obtain ⟨_,_,_,_,_,_,_,_,_,_,_,_⟩:=zf6 lM)))
  all_goals
   refine bodyPost_ret (bJ rfl _ _ Yv 81 #[.int .i64 0, .bool false, .int .i64 0, .int .u64 0, .int .u64 0, .bool false] (0,0) _ rfl (zKp lM) Tryz.underlying81 rfl (by kernel_rfl)) rfl ?_
   exact ⟨z2,zB HB⟩
end Go.Proofs.Yy.PTx
end
section
set_option maxHeartbeats 8000000
set_option maxRecDepth 100000
namespace Go.Proofs.Yy.PTx
open Go.RowKit Go.Proofs.Yy.Z Go.Proofs.Yw.PrintWords Go.Proofs.Yw.PrintLast Go.Proofs.Yw.PrintMore
open Go.Proofs.Yy.M
attribute [local go_sem] dw dQ lD lF lC lG
attribute [local go_sem] gy gz ja jc fC fD gQ gK
attribute [local go_sem high] afk
def fH.j0:Nat→Int→Bool→Int→Bool→Int→Int→Int→Bool→Option (Bool)
  | 0,_,_,_,_,_,_,_,_=>none
  | k+1,x4,x5,amO,acn,LY,U7,aco,acp=>if x5=true then (some (!acn && (LY == 0 && (U7 == 0 && (aco == 0 && (!acp)))))) else (if x4=1 then (if (U7 / 9223372036854775808)=1 then ((pG.f LY).bind fun amP=>(some (LY == amP))) else (some false)) else (some false))
def fH.f (k:Nat) (dW:Int) (dK:Bool) (gI:Int) (gW:Int) (Yz:Int) (YA:Bool):Option (Bool):=if dW=0 then (fH.j0 k dW (dW == 0) dW dK gI gW Yz YA) else (fH.j0 k dW (dW == 2) dW dK gI gW Yz YA)
def fH.T6:Bool × List (List Nat × List Nat):=(true, [([], []),([0], [0]),([1], [1]),([2], [2]),([3], [3]),([4], [4]),([5,4], [4,5]),([4], [4]),([7,4], [4,7]),([8,4,4], [4,8]),([6,9,4], [4,6,9]),([4,10], [4,10]),([11,9,0,1,2,3,4,5,6,7,8,9,10,11], [11])])
def fH.B6:List Nat := [0,1,3,7,15,31,63,31,159,415,1023,2047,4095]
theorem fH.tab6:rW .any (opsOf Tryz.f156 6)=fH.T6:=by kernel_rfl
theorem fH.aax:jB fH.T6.2 fH.B6=true:=by kernel_rfl
theorem fH.calls (k:Nat) (dW:Int) (dK:Bool) (gI:Int) (gW:Int) (Yz:Int) (YA:Bool) (r:Bool) (w:World) (h:fH.f k dW dK gI gW Yz YA=some r) :
    Calls Tryz.prog 156 #[.agg #[.int .i64 dW, .bool dK, .int .i64 gI, .int .u64 gW, .int .u64 Yz, .bool YA]] w fun e w'=>e = .returned (.bool r)∧Below w.heap.size w w':=by
 have ad3:=Tryz.underlying81
 have HB:=am (Below.refl w.heap.size w)
 have H:=am h
 unfold fH.f at H
 clear h
 go_enter Tryz.func156,Tryz.ntmps156
 go_upto_if 5 with (first|((with_reducible refine ay (N:=1) rfl ?_);refine zx 1 81 #[.int .i64 dW, .bool dK, .int .i64 gI, .int .u64 gW, .int .u64 Yz, .bool YA] ?_;intro LZ hg w3 hbox hb;have n0_:=zBs HB hb;have n1_:=am (hbox);have n2_:=zG hg HB;have n3_:=zG hg HB;clear HB;have HB:=n0_;have qZ:=n1_;have ax8:=n2_;have ax9:=n3_;clear n0_ n1_ n2_ n3_;clear hb hbox hg;obtain ⟨_,_,_,_,_,_,_,_,_,_,_,_⟩:=zf6 qZ))
 (try simp only [Act.put,List.setIfInBounds_toArray,List.set_cons_zero,List.set_cons_succ])
 go_cut [5] (fun v5 wc => ∃ (kq:Nat) (ig:Bool),v5 = .bool ig∧ae (fH.j0 kq dW ig dW dK gI gW Yz YA=some r)∧ae (kq≤k)∧ae (wc.heap[LZ]? = some (.cells #[.int .i64 dW, .bool dK, .int .i64 gI, .int .u64 gW, .int .u64 Yz, .bool YA] 81 (0,0)))∧ae (Below w.heap.size w wc))
 case first =>
  replace H:=zsk H
  rcases H with ⟨rG,xw,H⟩|⟨rG,xw,c5,H⟩
  (first|rw [rG]|(simp only [bI,dV];rw [rG])|rw [xw]|skip)
  rotate_left
  (first|rw [rG]|(simp only [bI,dV];rw [rG])|rw [xw]|skip)
  rotate_left
  all_goals (go_wp2)
  ·go_meet
   case rel=>exact ⟨_,((dW == 0)),z1,H,⟨z5⟩,⟨zK qZ⟩,⟨zB HB⟩⟩
  go_meet
  case rel=>exact ⟨_,((dW == 2)),z1,H,⟨z5⟩,⟨zK qZ⟩,⟨zB HB⟩⟩
 case rest =>
  obtain ⟨kq,ig,rfl,H,HJ1,qZ,HB⟩:=hcut
  obtain _|kj1:=kq
  ·exact zz H rfl
  simp only [fH.j0] at H
  cases ig
  replace H:=zb0 H
  replace H:=zsk H
  rcases H with ⟨uD,Ey,H⟩|⟨uD,Ey,c8,H⟩
  replace H:=zsk H
  rcases H with ⟨yI,Ed,H⟩|⟨yI,Ed,c9,H⟩
  replace H:=zo H
  obtain ⟨amP,A10,H⟩:=H
  obtain rfl:=Option.some.inj H.out
  rotate_left
  obtain rfl:=Option.some.inj H.out
  rotate_left
  ·obtain rfl:=Option.some.inj H.out
   go_wp2
   go_ret
   exact ⟨z2,zB HB⟩
  ·replace H:=zb1 H
   obtain rfl:=Option.some.inj H.out
   obtain ⟨_,_,_,_,_,_,_,_,_,_,_,_⟩:=zf6 qZ
   go_wp2
   go_ret
   exact ⟨z2,zB HB⟩
  all_goals (try go_wp2)
  all_goals
   replace qZ:=am (dS qZ.out)
   replace HB:=am (aZ HB.out)
   refine ny (n:=13) (S:=fun w'=>w'.cell? ⟨LZ,0,none⟩=some (.int .i64 dW)∧w'.cell? ⟨LZ,1,none⟩=some (.bool dK)∧w'.cell? ⟨LZ,2,none⟩=some (.int .i64 gI)∧w'.cell? ⟨LZ,3,none⟩=some (.int .u64 gW)∧w'.cell? ⟨LZ,4,none⟩=some (.int .u64 Yz)∧w'.cell? ⟨LZ,5,none⟩=some (.bool YA)) (ds := []) (Array.replicate 13 false) (by kernel_rfl) rfl rfl ⟨(ag qZ.out 0).trans rfl,(ag qZ.out 1).trans rfl,(ag qZ.out 2).trans rfl,(ag qZ.out 3).trans rfl,(ag qZ.out 4).trans rfl,(ag qZ.out 5).trans rfl⟩ (fun hHeld=>?_);refine iw fH.tab6 fH.aax (fun HT_ HW_=>?_)
  ·generalize wc.drew=w11 at qZ HB hHeld ⊢
   refine zp HT_ 0 (some 15) ?_
   refine zt HT_ HW_ 1 (some 16) hHeld ?_
   refine zp HT_ 2 (some 17) ?_
   refine zp HT_ 3 (some 18) ?_
   refine zp HT_ 4 (some 19) ?_
   refine zp HT_ 5 (some 20) ?_
   refine zp HT_ 7 (some 22) ?_
   refine zt HT_ HW_ 6 (some 21) hHeld ?_
   refine zt HT_ HW_ 8 (some 23) hHeld ?_
   refine zu HT_ 9 (some 24) (fun K hK=>?_)
   refine oK Tryz.func146 (by kernel_rfl) rfl #[.int .i64 gI] (by rfl) rfl rfl (by (try simp only [List.map_toArray,List.map_cons,List.map_nil]);first|done|rfl|(simp only [List.length_drop,List.length_take];rfl)) ?_
   with_reducible refine (pG.calls gI amP _ A10.out).mono ?_
   rintro e w12 ⟨rfl,hb⟩
   refine ⟨_,rfl,?_⟩
   replace qZ:=zKb qZ hb
   replace HB:=zBs HB hb
   (try clear hb)
   (try clear hb2)
   (try clear hk)
   (try clear hi)
   refine hK.out _ _ ⟨(ag qZ.out 0).trans rfl,(ag qZ.out 1).trans rfl,(ag qZ.out 2).trans rfl,(ag qZ.out 3).trans rfl,(ag qZ.out 4).trans rfl,(ag qZ.out 5).trans rfl⟩ (fun hHeld=>?_)
   clear hK K
   refine kK (a':=?_) ?_ ?_
   rotate_left
   ·show Act.put _ (some 24) _=_
    simp only [Act.put,List.setIfInBounds_toArray,List.set_cons_zero,List.set_cons_succ,bI,dV]
    rfl
   refine zp HT_ 10 (some 25) ?_
   refine zp HT_ 11 (some 26) ?_
   refine zp HT_ 12 (some 2) ?_
   refine o6 (jd HT_.out (by kernel_rfl)) ?_
   try go_wp2
   go_ret
   exact ⟨z2,zB HB⟩
  generalize wc.drew=w13 at qZ HB hHeld ⊢
  refine zp HT_ 0 (some 15) ?_
  refine zt HT_ HW_ 1 (some 16) hHeld ?_
  refine zp HT_ 2 (some 17) ?_
  refine zp HT_ 3 (some 18) ?_
  refine zp HT_ 4 (some 19) ?_
  refine tJ (i:=5) (N:=some 20) (v:=undef) (a':=?_) #[true,true,true,true,true,true,false,false,false,false,false,false,false] rfl rfl (CO HT_.out (by kernel_rfl)) (fun _ _ _ h=>h) (Or.inr ⟨by rfl,rfl⟩) ?_ ?_
  rotate_left
  ·simp only [Act.put,List.setIfInBounds_toArray,List.set_cons_zero,List.set_cons_succ,bI,dV]
   rfl
  refine tJ (i:=6) (N:=some 21) (v:=undef) (a':=?_) #[true,true,true,true,true,true,true,false,false,false,false,false,false] rfl rfl (CO HT_.out (by kernel_rfl)) (fun _ _ _ h=>h) (Or.inr ⟨by rfl,rfl⟩) ?_ ?_
  rotate_left
  ·simp only [Act.put,List.setIfInBounds_toArray,List.set_cons_zero,List.set_cons_succ,bI,dV]
   rfl
  refine tJ (i:=7) (N:=some 22) (v:=undef) (a':=?_) #[true,true,true,true,true,true,true,true,false,false,false,false,false] rfl rfl (CO HT_.out (by kernel_rfl)) (fun _ _ _ h=>h) (Or.inr ⟨by rfl,rfl⟩) ?_ ?_
  rotate_left
  ·simp only [Act.put,List.setIfInBounds_toArray,List.set_cons_zero,List.set_cons_succ,bI,dV]
   rfl
  refine tJ (i:=8) (N:=some 23) (v:=undef) (a':=?_) #[true,true,true,true,true,true,true,true,true,false,false,false,false] rfl rfl (CO HT_.out (by kernel_rfl)) (fun _ _ _ h=>h) (Or.inr ⟨by rfl,rfl⟩) ?_ ?_
  rotate_left
  ·simp only [Act.put,List.setIfInBounds_toArray,List.set_cons_zero,List.set_cons_succ,bI,dV]
   rfl
  refine tJ (i:=9) (N:=some 24) (v:=undef) (a':=?_) #[true,true,true,true,true,true,true,true,true,true,false,false,false] rfl rfl (CO HT_.out (by kernel_rfl)) (fun _ _ _ h=>h) (Or.inr ⟨by rfl,rfl⟩) ?_ ?_
  rotate_left
  ·simp only [Act.put,List.setIfInBounds_toArray,List.set_cons_zero,List.set_cons_succ,bI,dV]
   rfl
  refine tJ (i:=10) (N:=some 25) (v:=undef) (a':=?_) #[true,true,true,true,true,true,true,true,true,true,true,false,false] rfl rfl (CO HT_.out (by kernel_rfl)) (fun _ _ _ h=>h) (Or.inr ⟨by rfl,rfl⟩) ?_ ?_
  rotate_left
  ·simp only [Act.put,List.setIfInBounds_toArray,List.set_cons_zero,List.set_cons_succ,bI,dV]
   rfl
  refine zp HT_ 11 (some 26) ?_
  refine zp HT_ 12 (some 2) ?_
  refine o6 (jd HT_.out (by kernel_rfl)) ?_
  try go_wp2
  go_ret
  exact ⟨z2,zB HB⟩
def kU.f (k:Nat) (dW:Int) (dK:Int) (a1:Int):Option (Int × Int × Bool × Option Int):=if a1<0 then (some (0,0,false,some 1)) else ((jX.f dW dK (mn a1 128)).bind fun agB=>((uB.f k dW dK).bind fun amQ=>(some (agB.1,agB.2,decide (amQ > (wrap64 (128 - (mn a1 128)))),none))))
def kU.T4:Bool × List (List Nat × List Nat):=(true, [([], []),([], []),([0,1], [0,1]),([], []),([3,2], [3]),([], []),([5], [5]),([4,6], [4,6]),([2,4,0,1,2], [2]),([7,8,0,1,2,3,4,5,6,7,8], [7]),([9,0,1,2,3,4,5,6,7,8,9], [])])
def kU.B4:List Nat := [0,0,3,0,15,0,32,127,31,511,1023]
theorem kU.awS:rW .any (opsOf Tryz.f157 4)=kU.T4:=by kernel_rfl
theorem kU.akU:jB kU.T4.2 kU.B4=true:=by kernel_rfl
theorem kU.calls (k:Nat) (dW:Int) (dK:Int) (a1:Int) (r1:Int) (r2:Int) (r3:Bool) (r4:Option Int) (w:World) (h:kU.f k dW dK a1=some (r1,r2,r3,r4)) :
    Calls Tryz.prog 157 #[.agg #[.int .u64 dW, .int .u64 dK], .int .i64 a1] w fun e w'=>e = .returned (.tuple #[.agg #[.int .u64 r1, .int .u64 r2], .bool r3,qm r4])∧Below w.heap.size w w':=by
 have Jz:=Tryz.underlying211
 have yL:=Tryz.underlying27
 have hu64:=Tryz.underlying64
 have HB:=am (Below.refl w.heap.size w)
 have H:=am h
 unfold kU.f at H
 clear h
 replace H:=zsd H
 rcases H with ⟨pg,H⟩|⟨pg,H⟩
 ·obtain ⟨rfl,rfl,rfl,rfl⟩:=zJ4 H
  go_enter Tryz.func157,Tryz.ntmps157
  go_wp2_with (first|((with_reducible refine ay (N:=2) rfl ?_);refine zx 2 211 #[.int .u64 dW, .int .u64 dK] ?_;intro acr hg w4 hbox hb;have rM:=am (hbox);have amR:=zG hg HB;have amS:=zG hg HB;replace HB:=zBs HB hb;clear hb hbox hg)|((with_reducible refine ay (N:=4) rfl ?_);refine zx 4 211 #[.int .u64 0, .int .u64 0] ?_;intro acs hg w5 hbox hb;have xC:=am (hbox);have amT:=zG hg HB;have amU:=zG hg HB;replace HB:=zBs HB hb;have yM:=zNl hg rM;have yN:=zNg hg rM;replace rM:=zKb rM hb;clear hb hbox hg;have aya:=yN.out;have ayb:=yM.out;obtain ⟨_,_,_,_⟩:=zf2 xC))
  refine bodyPost_ret (ui rfl _ _ acs 211 #[.int .u64 0, .int .u64 0] (0,0) _ rfl (zKp xC) Tryz.underlying211 rfl (by kernel_rfl)) rfl ?_
  exact ⟨z2,zB HB⟩
 generalize sV:(mn a1 128:Int)=ji8 at H
 have Qv:(if 128<a1 then 128 else a1)=ji8:=sV
 replace H:=zo H
 obtain ⟨⟨as2,as3⟩,A9,H⟩:=H
 try dsimp only at H
 replace H:=zo H
 obtain ⟨amQ,A10,H⟩:=H
 obtain ⟨rfl,rfl,rfl,rfl⟩:=zJ4 H
 go_enter Tryz.func157,Tryz.ntmps157
 try go_wp2_with (first|((with_reducible refine ay (N:=2) rfl ?_);refine zx 2 211 #[.int .u64 dW, .int .u64 dK] ?_;intro acr hg w11 hbox hb;have rM:=am (hbox);have amR:=zG hg HB;have amS:=zG hg HB;replace HB:=zBs HB hb;clear hb hbox hg)|((with_reducible refine ay (N:=4) rfl ?_);refine zx 4 211 #[.int .u64 0, .int .u64 0] ?_;intro acs hg w12 hbox hb;have xC:=am (hbox);have amT:=zG hg HB;have amU:=zG hg HB;replace HB:=zBs HB hb;have yM:=zNl hg rM;have yN:=zNg hg rM;replace rM:=zKb rM hb;clear hb hbox hg))
 replace rM:=am (dS rM.out)
 replace xC:=am (dS xC.out)
 replace HB:=am (aZ HB.out)
 refine ny (n:=11) (S:=fun w'=>w'.cell? ⟨acr,0,none⟩=some (.int .u64 dW)∧w'.cell? ⟨acr,1,none⟩=some (.int .u64 dK)) (ds := []) (Array.replicate 11 false) (by kernel_rfl) rfl rfl ⟨(ag rM.out 0).trans rfl,(ag rM.out 1).trans rfl⟩ (fun hHeld=>?_);refine iw kU.awS kU.akU (fun HT_ HW_=>?_)
 generalize w12.drew=w13 at rM xC HB hHeld ⊢
 refine zp HT_ 1 (some 14) ?_
 refine zp HT_ 5 (some 18) ?_
 refine zp HT_ 6 (some 19) ?_
 refine zt HT_ HW_ 0 (some 13) hHeld ?_
 refine zt HT_ HW_ 3 (some 16) hHeld ?_
 refine zu HT_ 2 (some 15) (fun K hK=>?_)
 refine oK Tryz.func187 (by kernel_rfl) rfl #[.agg #[.int .u64 dW, .int .u64 dK], .int .i64 ji8] (by rfl) rfl rfl (by (try simp only [List.map_toArray,List.map_cons,List.map_nil]);first|done|(simp only [sV];rfl)|rfl|(simp only [List.length_drop,List.length_take];rfl)) ?_
 with_reducible refine (jX.calls dW dK ji8 as2 as3 _ A9.out).mono ?_
 rintro e w14 ⟨rfl,hb⟩
 refine ⟨_,rfl,?_⟩
 replace rM:=zKb rM hb
 replace xC:=zKb xC hb
 replace HB:=zBs HB hb
 (try clear hb)
 (try clear hb2)
 (try clear hk)
 (try clear hi)
 refine hK.out _ _ ⟨(ag rM.out 0).trans rfl,(ag rM.out 1).trans rfl⟩ (fun hHeld=>?_)
 clear hK K
 refine kK (a':=?_) ?_ ?_
 rotate_left
 ·show Act.put _ (some 15) _=_
  simp only [Act.put,List.setIfInBounds_toArray,List.set_cons_zero,List.set_cons_succ,bI,dV]
  rfl
 refine zu HT_ 4 (some 17) (fun K hK=>?_)
 refine oK Tryz.func186 (by kernel_rfl) rfl #[.agg #[.int .u64 dW, .int .u64 dK]] (by rfl) rfl rfl (by (try simp only [List.map_toArray,List.map_cons,List.map_nil]);first|done|rfl|(simp only [List.length_drop,List.length_take];rfl)) ?_
 with_reducible refine (uB.calls k dW dK amQ _ A10.out).mono ?_
 rintro e w15 ⟨rfl,hb⟩
 refine ⟨_,rfl,?_⟩
 replace rM:=zKb rM hb
 replace xC:=zKb xC hb
 replace HB:=zBs HB hb
 (try clear hb)
 (try clear hb2)
 (try clear hk)
 (try clear hi)
 refine hK.out _ _ ⟨(ag rM.out 0).trans rfl,(ag rM.out 1).trans rfl⟩ (fun hHeld=>?_)
 clear hK K
 refine kK (a':=?_) ?_ ?_
 rotate_left
 ·show Act.put _ (some 17) _=_
  simp only [Act.put,List.setIfInBounds_toArray,List.set_cons_zero,List.set_cons_succ,bI,dV]
  rfl
 refine zp HT_ 7 (some 20) ?_
 refine zu HT_ 8 none (fun K hK=>?_)
 have ayc:=zl xC 0
 have amV:=au xC.out 0
 have amW:=yM.out
 have amX:=yN.out
 have ayd:=zl xC 1
 have amY:=au xC.out 1
 have amZ:=yM.out
 have am0:=yN.out
 refine vK (w1:=?_) (by rfl) rfl ?_ ?_
 rotate_left
 ·go_simp
  rfl
 refine hK.out _ _ ⟨(zh hHeld),(zh hHeld)⟩ (fun hHeld=>?_)
 clear hK K
 refine zp HT_ 9 (some 5) ?_
 refine zp HT_ 10 (some 6) ?_
 refine o6 (jd HT_.out (by kernel_rfl)) ?_
 try go_wp2
 refine bodyPost_ret (ui rfl _ _ acs 211 #[.int .u64 as2, .int .u64 as3] (0,0) _ rfl (zKp xC) Tryz.underlying211 rfl (by kernel_rfl)) rfl ?_
 exact ⟨by first|exact z3|(simp only [← sV];exact z3)|exact z2,zB HB⟩
def lZ.f (dW:Int) (dK:Int) (a1:Int):Option (Int × Int):=if a1 ≥ 64 then (if 0≤(wrap64 (a1 - 64)) then (some (0,shr .u64 dW (wrap64 (a1 - 64)))) else (none)) else (if 0≤a1 then (if 0≤(wrap64 (64 - a1)) then (some (shr .u64 dW a1,Go.bits .or .u64 (shr .u64 dK a1) (shl .u64 dW (wrap64 (64 - a1))))) else (none)) else (none))
def lZ.T3:Bool × List (List Nat × List Nat):=(true, [([], []),([0], [0]),([], []),([1,2], [1,2]),([], []),([4], [4]),([], []),([5,6], [5,6]),([], []),([8], [8]),([], []),([10], [10]),([9,11], [9,11]),([7,12], [7,12]),([3,13], [3,13]),([14,0,1,2,3,4,5,6,7,8,9,10,11,12,13,14], [14])])
def lZ.B3:List Nat := [0,1,0,7,0,16,0,112,0,256,0,1024,3840,8176,16383,32767]
theorem lZ.akR:rW .any (opsOf Tryz.f216 3)=lZ.T3:=by kernel_rfl
theorem lZ.aa6:jB lZ.T3.2 lZ.B3=true:=by kernel_rfl
theorem lZ.calls (dW:Int) (dK:Int) (a1:Int) (r1:Int) (r2:Int) (w:World) (h:lZ.f dW dK a1=some (r1,r2)) :
    Calls Tryz.prog 216 #[.agg #[.int .u64 dW, .int .u64 dK], .int .i64 a1] w fun e w'=>e = .returned (.agg #[.int .u64 r1, .int .u64 r2])∧Below w.heap.size w w':=by
 have Jz:=Tryz.underlying211
 have HB:=am (Below.refl w.heap.size w)
 have H:=am h
 unfold lZ.f at H
 clear h
 replace H:=zf H
 rcases H with ⟨pg,H⟩|⟨pg,H⟩
 ·generalize BI:(wrap64 (a1 - 64):Int)=ji4 at H
  have UK:(IntKind.i64.wrap (a1 - 64))=ji4:=(bI _).trans BI
  replace H:=zit H
  obtain ⟨rG,xw,H⟩:=H
  generalize uI:(shr .u64 dW (ji4):Int)=ji6 at H
  have ach:(dW / 2 ^ min (ji4).toNat 64)=ji6:=uI
  have aci:(ji4)≤64→(dW / 2 ^ (ji4).toNat)=ji6:=jT uI
  obtain ⟨rfl,rfl⟩:=zJ2 H
  go_enter Tryz.func216,Tryz.ntmps216
  go_wp2_with (first|((with_reducible refine ay (N:=2) rfl ?_);refine zx 2 211 #[.int .u64 dW, .int .u64 dK] ?_;intro acu hg w7 hbox hb;have xE:=am (hbox);have am1:=zG hg HB;have am2:=zG hg HB;replace HB:=zBs HB hb;clear hb hbox hg)|((with_reducible refine ay (N:=4) rfl ?_);refine zx 4 211 #[.int .u64 0, .int .u64 0] ?_;intro acv hg w8 hbox hb;have Dt:=am (hbox);have am3:=zG hg HB;have am4:=zG hg HB;replace HB:=zBs HB hb;have yO:=zNl hg xE;have yP:=zNg hg xE;replace xE:=zKb xE hb;clear hb hbox hg;have axM:=yO.out;have axN:=yP.out;obtain ⟨_,_,_,_⟩:=zf2 xE;obtain ⟨_,_,_,_⟩:=zf2 Dt))
  refine bodyPost_ret (results_cell_row rfl _ _ acv 211 #[.int .u64 0, .int .u64 ji6] (0,0) _ rfl (zKp Dt) Tryz.underlying211 rfl (by kernel_rfl)) rfl ?_
  exact ⟨by first|exact z3|(simp only [← BI, ← uI];exact z3)|exact z2,zB HB⟩
 replace H:=zit H
 obtain ⟨nO,rH,H⟩:=H
 generalize qw:(shr .u64 dW a1:Int)=qj at H
 have U0:(dW / 2 ^ min a1.toNat 64)=qj:=qw
 have ZN:a1≤64→(dW / 2 ^ a1.toNat)=qj:=jT qw
 have uH:=eq_true (zD:0≤a1)
 generalize uK:(shr .u64 dK a1:Int)=Af at H
 have ZP:(dK / 2 ^ min a1.toNat 64)=Af:=uK
 have ZQ:a1≤64→(dK / 2 ^ a1.toNat)=Af:=jT uK
 generalize JA:(wrap64 (64 - a1):Int)=LX at H
 have agC:(IntKind.i64.wrap (64 - a1))=LX:=(bI _).trans JA
 replace H:=zit H
 obtain ⟨Dk,U8,H⟩:=H
 generalize uJ:(shl .u64 dW (LX):Int)=Dq at H
 have OB:(IntKind.u64.wrap (dW * 2 ^ min (LX).toNat 64))=Dq:=uJ
 have ZO:(LX)≤64→(IntKind.u64.wrap (dW * 2 ^ (LX).toNat))=Dq:=iR uJ
 obtain ⟨rfl,rfl⟩:=zJ2 H
 go_enter Tryz.func216,Tryz.ntmps216
 try go_wp2_with (first|((with_reducible refine ay (N:=2) rfl ?_);refine zx 2 211 #[.int .u64 dW, .int .u64 dK] ?_;intro acu hg w19 hbox hb;have xE:=am (hbox);have am1:=zG hg HB;have am2:=zG hg HB;replace HB:=zBs HB hb;clear hb hbox hg)|((with_reducible refine ay (N:=4) rfl ?_);refine zx 4 211 #[.int .u64 0, .int .u64 0] ?_;intro acv hg w20 hbox hb;have Dt:=am (hbox);have am3:=zG hg HB;have am4:=zG hg HB;replace HB:=zBs HB hb;have yO:=zNl hg xE;have yP:=zNg hg xE;replace xE:=zKb xE hb;clear hb hbox hg))
 replace xE:=am (dS xE.out)
 replace Dt:=am (dS Dt.out)
 replace HB:=am (aZ HB.out)
 refine ny (n:=16) (S:=fun w'=>w'.cell? ⟨acu,0,none⟩=some (.int .u64 dW)∧w'.cell? ⟨acu,1,none⟩=some (.int .u64 dK)) (ds := []) (Array.replicate 16 false) (by kernel_rfl) rfl rfl ⟨(ag xE.out 0).trans rfl,(ag xE.out 1).trans rfl⟩ (fun hHeld=>?_);refine iw lZ.akR lZ.aa6 (fun HT_ HW_=>?_)
 generalize w20.drew=w21 at xE Dt HB hHeld ⊢
 refine zp HT_ 0 (some 13) ?_
 refine zp HT_ 2 (some 15) ?_
 refine zp HT_ 4 (some 17) ?_
 refine zp HT_ 6 (some 19) ?_
 refine zp HT_ 8 (some 21) ?_
 refine zp HT_ 10 (some 23) ?_
 refine zp HT_ 11 (some 24) ?_
 refine zt HT_ HW_ 1 (some 14) hHeld ?_
 refine zp HT_ 3 (some 16) ?_
 refine zt HT_ HW_ 5 (some 18) hHeld ?_
 refine zp HT_ 7 (some 20) ?_
 refine zt HT_ HW_ 9 (some 22) hHeld ?_
 refine zp HT_ 12 (some 25) ?_
 refine zp HT_ 13 (some 26) ?_
 refine zp HT_ 14 (some 27) ?_
 refine zu HT_ 15 none (fun K hK=>?_)
 have axO:=zl Dt 0
 have amw:=au Dt.out 0
 have acl:=yO.out
 have acm:=yP.out
 have asY:=zl Dt 1
 have ags:=au Dt.out 1
 have U2:=yO.out
 have U3:=yP.out
 refine vK (w1:=?_) (by rfl) rfl ?_ ?_
 rotate_left
 ·go_simp
  rfl
 refine hK.out _ _ ⟨(zh hHeld),(zh hHeld)⟩ (fun hHeld=>?_)
 clear hK K
 refine o6 (jd HT_.out (by kernel_rfl)) ?_
 try go_wp2
 refine bodyPost_ret (results_cell_row rfl _ _ acv 211 #[.int .u64 qj, .int .u64 (Go.bits .or .u64 (Af) (Dq))] (0,0) _ rfl (zKp Dt) Tryz.underlying211 rfl (by kernel_rfl)) rfl ?_
 exact ⟨by first|exact z3|(simp only [← qw, ← uK, ← JA, ← uJ];exact z3)|exact z2,zB HB⟩
end Go.Proofs.Yy.PTx
end
