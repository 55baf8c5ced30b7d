/- Part 14. -/
import Derived.Test.YtpfnkbnepcchgaaGreatDoorKTPL
set_option linter.unusedSimpArgs false
set_option linter.unusedVariables false
section
set_option maxHeartbeats 8000000
set_option maxRecDepth 100000
namespace Go.Proofs.Yy.PTx
open Go.RowKit Go.Proofs.Yy.Z Go.Proofs.Yw.PrintWords Go.Proofs.Yw.PrintLast Go.Proofs.Yw.PrintMore
open Go.Proofs.Yy.M
attribute [local go_sem] dG dP kR kT kW kS
attribute [local go_sem] gI gG iP iR fF fG gW gV
attribute [local go_sem high] Zw
def oh.f (k:Nat)(gy:Int)(fU:Int):Option (Int):=if gy > 0 then ((bits_Len64.f k gy).bind fun av3=>(some (wrap64 (64+av3)))) else ((bits_Len64.f k fU).bind fun av4=>(some av4))
theorem oh.calls (k:Nat)(gy:Int)(fU:Int)(r:Int)(w:World)(h:oh.f k gy fU=some r) :
    Calls Tryz.prog 186 #[.agg #[.int .u64 gy,.int .u64 fU]] w fun e w'=>e=.returned (.int .i64 r)∧Below w.heap.size w w':=by
 have J4:=Tryz.underlying211;have HB:=am (Below.refl w.heap.size w);have H:=am h;unfold oh.f at H;clear h;replace H:=AV H;rcases H with⟨ry,H⟩|⟨ry,H⟩;replace H:=zo H;obtain⟨av3,A3,H⟩:=H;obtain rfl:=Option.some.inj H.out;rotate_left;replace H:=zo H;obtain⟨av4,A6,H⟩:=H;obtain rfl:=Option.some.inj H.out;rotate_left
 all_goals (go_enter Tryz.func186,Tryz.ntmps186;go_wp2_with (first|((with_reducible refine aI (N:=1) rfl ?_);refine zx 1 211 #[.int .u64 gy,.int .u64 fU] ?_;intro aA2 hg w4 hbox hb;have apJ:=am (hbox);have aA3:=zG hg HB;have aA4:=zG hg HB;replace HB:=zBs HB hb;clear hb hbox hg;obtain⟨_,_,_,_⟩:=zf2 apJ)|((with_reducible refine af (f:=152) rfl ?_);refine zc (some 8) Tryz.func152 _ (bits_Len64.calls _ _ _ _ A3.out) ?_;rintro e w' ⟨rfl,⟨nd,rfl⟩⟩;refine⟨_,rfl,?_⟩)|((with_reducible refine af (f:=152) rfl ?_);refine zc (some 12) Tryz.func152 _ (bits_Len64.calls _ _ _ _ A6.out) ?_;rintro e w' ⟨rfl,⟨nd,rfl⟩⟩;refine⟨_,rfl,?_⟩)))
 ·go_ret
  exact⟨z2,zB HB⟩
 go_ret
 exact⟨z2,zB HB⟩
def jD.f (gy:Int)(fU:Int)(a1:Int):Option (Int × Int):=if a1≥64 then (if 0≤(wrap64 (a1-64)) then (some (shl .u64 fU (wrap64 (a1-64)),0)) else (none)) else (if 0≤a1 then (if 0≤(wrap64 (64-a1)) then (some (Go.bits .or .u64 (shl .u64 gy a1) (shr .u64 fU (wrap64 (64-a1))),shl .u64 fU a1)) else (none)) else (none))
def jD.T3:Bool × List (List Nat × List Nat):=(true,[([],[]),([0],[0]),([],[]),([1,2],[1,2]),([],[]),([4],[4]),([],[]),([6],[6]),([5,7],[5,7]),([3,8],[3,8]),([],[]),([10],[10]),([],[]),([11,12],[11,12]),([9,13],[9,13]),([14,0,1,2,3,4,5,6,7,8,9,10,11,12,13,14],[14])])
def jD.B3:List Nat := [0,1,0,7,0,16,0,64,240,511,0,1024,0,7168,16383,32767]
theorem jD.amd:rG .any (opsOf Tryz.f187 3)=jD.T3:=by kernel_rfl
theorem jD.acB:jb jD.T3.2 jD.B3=true:=by kernel_rfl
theorem jD.calls (gy:Int)(fU:Int)(a1:Int)(r1:Int)(r2:Int)(w:World)(h:jD.f gy fU a1=some (r1,r2)) :
    Calls Tryz.prog 187 #[.agg #[.int .u64 gy,.int .u64 fU],.int .i64 a1] w fun e w'=>e=.returned (.agg #[.int .u64 r1,.int .u64 r2])∧Below w.heap.size w w':=by
 have J4:=Tryz.underlying211;have HB:=am (Below.refl w.heap.size w);have H:=am h;unfold jD.f at H;clear h;replace H:=yH H;rcases H with⟨pI,H⟩|⟨pI,H⟩
 ·generalize xA:(wrap64 (a1-64):Int)=ji4 at H
  have UK:(IntKind.i64.wrap (a1-64))=ji4:=(cu _).trans xA;replace H:=zit H;obtain⟨qg,xy,H⟩:=H;generalize uQ:(shl .u64 fU (ji4):Int)=ji6 at H;have ady:(IntKind.u64.wrap (fU*2 ^ min (ji4).toNat 64))=ji6:=uQ;have adz:(ji4)≤64→(IntKind.u64.wrap (fU*2 ^ (ji4).toNat))=ji6:=iW uQ;obtain⟨rfl,rfl⟩:=zJ2 H
  go_enter Tryz.func187,Tryz.ntmps187
  go_wp2_with (first|((with_reducible refine aI (N:=2) rfl ?_);refine zx 2 211 #[.int .u64 gy,.int .u64 fU] ?_;intro adA hg w7 hbox hb;have yj:=am (hbox);have apK:=zG hg HB;have apL:=zG hg HB;replace HB:=zBs HB hb;clear hb hbox hg)|((with_reducible refine aI (N:=4) rfl ?_);refine zx 4 211 #[.int .u64 0,.int .u64 0] ?_;intro adB hg w8 hbox hb;have DV:=am (hbox);have apM:=zG hg HB;have apN:=zG hg HB;replace HB:=zBs HB hb;have zy:=zNl hg yj;have zF:=zNg hg yj;replace yj:=zKb yj hb;clear hb hbox hg;have av5:=zy.out;have av6:=zF.out;obtain⟨_,_,_,_⟩:=zf2 yj;obtain⟨_,_,_,_⟩:=zf2 DV))
  refine bodyPost_ret (results_cell_row rfl _ _ adB 211 #[.int .u64 ji6,.int .u64 0] (0,0) _ rfl (zKp DV) Tryz.underlying211 rfl (by kernel_rfl)) rfl ?_;exact⟨by first|exact z3|(simp only[← xA, ← uQ];exact z3)|exact z2,zB HB⟩
 replace H:=zit H;obtain⟨qO,xY,H⟩:=H;generalize qN:(shl .u64 gy a1:Int)=qL at H;have Uz:(IntKind.u64.wrap (gy*2 ^ min a1.toNat 64))=qL:=qN;have Z8:a1≤64→(IntKind.u64.wrap (gy*2 ^ a1.toNat))=qL:=iW qN;generalize UY:(wrap64 (64-a1):Int)=Kz at H;have ah1:(IntKind.i64.wrap (64-a1))=Kz:=(cu _).trans UY;replace H:=zit H;obtain⟨uS,DI,H⟩:=H;generalize JV:(shr .u64 fU (Kz):Int)=LJ at H;have av7:(fU / 2 ^ min (Kz).toNat 64)=LJ:=JV;have av8:(Kz)≤64→(fU / 2 ^ (Kz).toNat)=LJ:=kE JV;have wE:=eq_true (zD:0≤a1);generalize uz:(shl .u64 fU a1:Int)=EC at H;have OB:(IntKind.u64.wrap (fU*2 ^ min a1.toNat 64))=EC:=uz;have Z9:a1≤64→(IntKind.u64.wrap (fU*2 ^ a1.toNat))=EC:=iW uz;obtain⟨rfl,rfl⟩:=zJ2 H
 go_enter Tryz.func187,Tryz.ntmps187
 try go_wp2_with (first|((with_reducible refine aI (N:=2) rfl ?_);refine zx 2 211 #[.int .u64 gy,.int .u64 fU] ?_;intro adA hg w19 hbox hb;have yj:=am (hbox);have apK:=zG hg HB;have apL:=zG hg HB;replace HB:=zBs HB hb;clear hb hbox hg)|((with_reducible refine aI (N:=4) rfl ?_);refine zx 4 211 #[.int .u64 0,.int .u64 0] ?_;intro adB hg w20 hbox hb;have DV:=am (hbox);have apM:=zG hg HB;have apN:=zG hg HB;replace HB:=zBs HB hb;have zy:=zNl hg yj;have zF:=zNg hg yj;replace yj:=zKb yj hb;clear hb hbox hg))
 replace yj:=am (dX yj.out);replace DV:=am (dX DV.out);replace HB:=am (aX HB.out);refine lQ (n:=16) (S:=fun w'=>w'.cell? ⟨adA,0,none⟩=some (.int .u64 gy)∧w'.cell? ⟨adA,1,none⟩=some (.int .u64 fU)) (ds := []) (Array.replicate 16 false) (by kernel_rfl) rfl rfl ⟨(ag yj.out 0).trans rfl,(ag yj.out 1).trans rfl⟩ (fun hHeld=>?_);refine gU jD.amd jD.acB (fun HT_ HW_=>?_);generalize w20.drew=w21 at yj DV HB hHeld ⊢;refine zp HT_ 0 (some 13) ?_;refine zp HT_ 2 (some 15) ?_;refine zp HT_ 4 (some 17) ?_;refine zp HT_ 6 (some 19) ?_;refine zp HT_ 7 (some 20) ?_;refine zp HT_ 10 (some 23) ?_;refine zp HT_ 12 (some 25) ?_;refine zt HT_ HW_ 1 (some 14) hHeld ?_;refine zp HT_ 3 (some 16) ?_;refine zt HT_ HW_ 5 (some 18) hHeld ?_;refine zp HT_ 8 (some 21) ?_;refine zp HT_ 9 (some 22) ?_;refine zt HT_ HW_ 11 (some 24) hHeld ?_;refine zp HT_ 13 (some 26) ?_;refine zp HT_ 14 (some 27) ?_;refine zu HT_ 15 none (fun K hK=>?_);have aA5:=zl DV 0;have apO:=aj DV.out 0;have adC:=zy.out;have adD:=zF.out;have aA6:=zl DV 1;have apP:=aj DV.out 1;have adE:=zy.out;have adF:=zF.out;refine vW (w1:=?_) (by rfl) rfl ?_ ?_;rotate_left
 ·go_simp
  rfl
 refine hK.out _ _ ⟨(zh hHeld),(zh hHeld)⟩ (fun hHeld=>?_);clear hK K;refine oU (iZ HT_.out (by kernel_rfl)) ?_
 try go_wp2
 refine bodyPost_ret (results_cell_row rfl _ _ adB 211 #[.int .u64 (Go.bits .or .u64 (qL) (LJ)),.int .u64 EC] (0,0) _ rfl (zKp DV) Tryz.underlying211 rfl (by kernel_rfl)) rfl ?_;exact⟨by first|exact z3|(simp only[← qN, ← UY, ← JV, ← uz];exact z3)|exact z2,zB HB⟩
def oQ.f (k:Nat)(gy:Int)(fU:Int):Option (Int × Int × Int):=if (gy == 0 && (fU == 0))=true then (some (gy,fU,0)) else ((oh.f k gy fU).bind fun apQ=>((jD.f gy fU (wrap64 (128-apQ))).bind fun ai1=>(some (ai1.1,ai1.2,wrap64 (128-apQ)))))
theorem oQ.calls (k:Nat)(gy:Int)(fU:Int)(r1:Int)(r2:Int)(r3:Int)(w:World)(h:oQ.f k gy fU=some (r1,r2,r3)) :
    Calls Tryz.prog 145 #[.agg #[.int .u64 gy,.int .u64 fU]] w fun e w'=>e=.returned (.tuple #[.agg #[.int .u64 r1,.int .u64 r2],.int .i64 r3])∧Below w.heap.size w w':=by
 have J4:=Tryz.underlying211;have HB:=am (Below.refl w.heap.size w);have H:=am h;unfold oQ.f at H;clear h;replace H:=zs H;rcases H with⟨c2,H⟩|⟨c2,H⟩;have ry:(gy == 0 && (fU == 0))=true:=c2
 (try (have IM:decide (gy=0 && (fU == 0))=true:=by simpa using c2))
 (try (have av9:(gy == 0 && (fU == 0))=true:=by simpa using c2))
 clear c2;obtain⟨rfl,rfl,rfl⟩:=zJ3 H;rotate_left
 have ry:(gy == 0 && (fU == 0))=false:=by simpa using c2
 (try (have IM:decide (gy=0 && (fU == 0))=false:=by simpa using c2))
 (try (have av9:(gy == 0 && (fU == 0))=false:=by simpa using c2))
 (try (have aIu:¬ (gy=0 && (fU == 0)):=by simpa using c2))
 clear c2;replace H:=zo H;obtain⟨apQ,A8,H⟩:=H;replace H:=zo H;obtain⟨⟨aA7,aA8⟩,A9,H⟩:=H
 try dsimp only at H
 obtain⟨rfl,rfl,rfl⟩:=zJ3 H;rotate_left
 all_goals (go_enter Tryz.func145,Tryz.ntmps145;go_wp2_with (first|((with_reducible refine aI (N:=1) rfl ?_);refine zx 1 211 #[.int .u64 gy,.int .u64 fU] ?_;intro aA9 hg w10 hbox hb;have EX:=am (hbox);have aBa:=zG hg HB;have aBb:=zG hg HB;replace HB:=zBs HB hb;clear hb hbox hg)|((with_reducible refine aI (N:=2) rfl ?_);refine zx 2 211 #[.int .u64 0,.int .u64 0] ?_;intro ai2 hg w11 hbox hb;have J5:=am (hbox);have aBc:=zG hg HB;have aBd:=zG hg HB;replace HB:=zBs HB hb;have U9:=zNl hg EX;have Va:=zNg hg EX;replace EX:=zKb EX hb;clear hb hbox hg;have agT:=U9.out;have agU:=Va.out;obtain⟨_,_,_,_⟩:=zf2 EX;obtain⟨_,_,_,_⟩:=zf2 J5)|((with_reducible refine af (f:=186) rfl ?_);refine zc (some 10) Tryz.func186 _ (oh.calls _ _ _ _ _ A8.out) ?_;rintro e w14 ⟨rfl,hb⟩;refine⟨_,rfl,?_⟩;replace EX:=zKb EX hb;replace J5:=zKb J5 hb;replace HB:=zBs HB hb;clear hb;obtain⟨_,_,_,_⟩:=zf2 EX)|((with_reducible refine af (f:=187) rfl ?_);refine zc (some 14) Tryz.func187 _ (jD.calls _ _ _ _ _ _ A9.out) ?_;rintro e w16 ⟨rfl,hb⟩;refine⟨_,rfl,?_⟩;replace EX:=zKb EX hb;replace J5:=zKb J5 hb;replace HB:=zBs HB hb;clear hb;obtain⟨_,_,_,_⟩:=zf2 J5)))
 ·refine bodyPost_ret (dY rfl _ _ ai2 211 #[.int .u64 gy,.int .u64 fU] (0,0) _ rfl (zKp J5) Tryz.underlying211 rfl (by kernel_rfl)) rfl ?_
  exact⟨z2,zB HB⟩
 refine bodyPost_ret (dY rfl _ _ ai2 211 #[.int .u64 aA7,.int .u64 aA8] (0,0) _ rfl (zKp J5) Tryz.underlying211 rfl (by kernel_rfl)) rfl ?_;exact⟨z2,zB HB⟩
def lW.f (a0:Int):Option (Int):=some (mx (-1099511627776) (mn a0 1099511627776))
theorem lW.calls (a0:Int)(r:Int)(w:World)(h:lW.f a0=some r) :
    Calls Tryz.prog 146 #[.int .i64 a0] w fun e w'=>e=.returned (.int .i64 r)∧Below w.heap.size w w':=by
 have HB:=am (Below.refl w.heap.size w);have H:=am h;unfold lW.f at H;clear h;generalize awc:(mn a0 1099511627776:Int)=ji2 at H;have aBe:(if 1099511627776<a0 then 1099511627776 else a0)=ji2:=awc;generalize ED:(mx (-1099511627776) (ji2):Int)=ji3 at H;have aBf:(if (-1099511627776)<(ji2) then (ji2) else (-1099511627776))=ji3:=ED;obtain rfl:=Option.some.inj H.out
 go_enter Tryz.func146,Tryz.ntmps146
 go_wp2
 go_ret
 exact⟨by first|exact z3|(simp only[← awc, ← ED];exact z3)|exact z2,zB HB⟩
def dM.j0:Nat→Bool→Int→Int→Int→Bool→Bool→Option (Int × Bool × Int × Int × Int × Bool × Option Int)
  | 0,_,_,_,_,_,_=>none
  | k+1,x0,x1,x2,x3,x4,x19=>if x19=true then (none) else ((oQ.f k x1 x2).bind fun DW=>(if (DW.1 == 0 && (DW.2.1 == 0))=true then (some (0,false,0,0,0,false,none)) else ((lW.f (wrap64 ((wrap64 ((mx (-4398046511104) (mn x3 4398046511104))+127))-DW.2.2))).bind fun afo=>(some (1,x0,afo,DW.1,DW.2.1,x4,none)))))
def dM.f (k:Nat)(a0:Bool)(a1:Int)(a2:Int)(a3:Int)(a4:Bool):Option (Int × Bool × Int × Int × Int × Bool × Option Int):=if a4=true then (dM.j0 k a0 a1 a2 a3 a4 ((a1 / 9223372036854775808) == 0)) else (dM.j0 k a0 a1 a2 a3 a4 false)
def dM.T7:Bool × List (List Nat × List Nat):=(true,[([],[]),([],[]),([1],[1]),([],[]),([2,3],[2,3]),([4],[4]),([],[]),([6],[6]),([],[]),([8],[8]),([],[]),([0,5,7,9,10],[0,5,7,9,10]),([11,5,0,1,2,3,4,5,6,7,8,9,10,11],[11]),([12,0,1,2,3,4,5,6,7,8,9,10,11,12],[])])
def dM.B7:List Nat := [0,0,2,0,14,30,0,64,0,256,0,2047,4095,8191]
theorem dM.ayE:rG .any (opsOf Tryz.f93 7)=dM.T7:=by kernel_rfl
theorem dM.al5:jb dM.T7.2 dM.B7=true:=by kernel_rfl
theorem dM.calls (k:Nat)(a0:Bool)(a1:Int)(a2:Int)(a3:Int)(a4:Bool)(r1:Int)(r2:Bool)(r3:Int)(r4:Int)(r5:Int)(r6:Bool)(r7:Option Int)(w:World)(h:dM.f k a0 a1 a2 a3 a4=some (r1,r2,r3,r4,r5,r6,r7)) :
    Calls Tryz.prog 93 #[.bool a0,.int .u64 a1,.int .u64 a2,.int .i64 a3,.bool a4] w fun e w'=>e=.returned (.tuple #[.agg #[.int .i64 r1,.bool r2,.int .i64 r3,.int .u64 r4,.int .u64 r5,.bool r6],rF r7])∧Below w.heap.size w w':=by
 have Vb:=Tryz.underlying81;have J4:=Tryz.underlying211;have yB:=Tryz.underlying27;have hu64:=Tryz.underlying64;have HB:=am (Below.refl w.heap.size w);have H:=am h;unfold dM.f at H;clear h
 go_enter Tryz.func93,Tryz.ntmps93
 go_upto_region 1 with (first|((with_reducible refine aI (N:=10) rfl ?_);refine zx 10 81 #[.int .i64 0,.bool false,.int .i64 0,.int .u64 0,.int .u64 0,.bool false] ?_;intro YO hg w7 hbox hb;have lT:=am (hbox);have aBg:=zG hg HB;have aBh:=zG hg HB;replace HB:=zBs HB hb;clear hb hbox hg))
 (try simp only[Act.put,List.setIfInBounds_toArray,List.set_cons_zero,List.set_cons_succ])
 go_cut [19] (fun v19 wc => ∃ (kq:Nat) (YP:Bool),v19=.bool YP∧ae (dM.j0 kq a0 a1 a2 a3 a4 YP=some (r1,r2,r3,r4,r5,r6,r7))∧ae (kq≤k)∧ae (wc.heap[YO]? = some (.cells #[.int .i64 0,.bool false,.int .i64 0,.int .u64 0,.int .u64 0,.bool false] 81 (0,0)))∧ae (Below w.heap.size w wc))
 case first =>
  cases a4
  replace H:=zb0 H;rotate_left;replace H:=zb1 H;rotate_left
  all_goals (go_wp2)
  ·go_meet
   case rel=>exact⟨_,(false),z1,H,⟨z5⟩,⟨zK lT⟩,⟨zB HB⟩⟩
  go_meet
  case rel=>exact⟨_,(((a1 / 9223372036854775808) == 0)),z1,H,⟨z5⟩,⟨zK lT⟩,⟨zB HB⟩⟩
 case rest =>
  obtain⟨kq,YP,rfl,H,HJ5,lT,HB⟩:=hcut;obtain _|kj5:=kq
  ·exact zz H rfl
  simp only[dM.j0]at H
  cases YP
  ·replace H:=zb0 H
   replace H:=zo H;obtain⟨⟨OG,OH,awd⟩,A10,H⟩:=H
   try dsimp only at H
   replace H:=zs H;rcases H with⟨c11,H⟩|⟨c11,H⟩
   ·have qK:(OG == 0 && (OH == 0))=true:=c11
    (try (have zk:decide (OG=0 && (OH == 0))=true:=by simpa using c11))
    (try (have ai3:(OG == 0 && (OH == 0))=true:=by simpa using c11))
    clear c11;obtain⟨rfl,rfl,rfl,rfl,rfl,rfl,rfl⟩:=zJ7 H
    go_wp2_with (first|((with_reducible refine af (f:=145) rfl ?_);refine zc (some 26) Tryz.func145 _ (oQ.calls _ _ _ _ _ _ _ A10.out) ?_;rintro e w12 ⟨rfl,hb⟩;refine⟨_,rfl,?_⟩;replace lT:=zKb lT hb;replace HB:=zBs HB hb;clear hb)|((with_reducible refine aI (N:=12) rfl ?_);refine zx 12 211 #[.int .u64 0,.int .u64 0] ?_;intro BD hg w13 hbox hb;have yl:=am (hbox);have apR:=zG hg HB;have apS:=zG hg HB;replace HB:=zBs HB hb;have pK:=zNl hg lT;have pM:=zNg hg lT;replace lT:=zKb lT hb;clear hb hbox hg;have apT:=pM.out;have apU:=pK.out;obtain⟨_,_,_,_⟩:=zf2 yl;obtain⟨_,_,_,_,_,_,_,_,_,_,_,_⟩:=zf6 lT))
    refine bodyPost_ret (dY rfl _ _ YO 81 #[.int .i64 0,.bool false,.int .i64 0,.int .u64 0,.int .u64 0,.bool false] (0,0) _ rfl (zKp lT) Tryz.underlying81 rfl (by kernel_rfl)) rfl ?_;exact⟨z2,zB HB⟩
   have qK:(OG == 0 && (OH == 0))=false:=by simpa using c11
   (try (have zk:decide (OG=0 && (OH == 0))=false:=by simpa using c11))
   (try (have ai3:(OG == 0 && (OH == 0))=false:=by simpa using c11))
   (try (have aBi:¬ (OG=0 && (OH == 0)):=by simpa using c11))
   clear c11;generalize Au:(mn a3 4398046511104:Int)=xm at H
   (try rw[Au]at A10)
   have ahg:(if 4398046511104<a3 then 4398046511104 else a3)=xm:=Au;generalize uz:(mx (-4398046511104) (xm):Int)=EC at H
   (try rw[uz]at A10)
   have OB:(if (-4398046511104)<(xm) then (xm) else (-4398046511104))=EC:=uz;replace H:=zo H;obtain⟨afo,A19,H⟩:=H;obtain⟨rfl,rfl,rfl,rfl,rfl,rfl,rfl⟩:=zJ7 H
   try go_wp2_with (first|((with_reducible refine af (f:=145) rfl ?_);refine zc (some 26) Tryz.func145 _ (oQ.calls _ _ _ _ _ _ _ A10.out) ?_;rintro e w20 ⟨rfl,hb⟩;refine⟨_,rfl,?_⟩;replace lT:=zKb lT hb;replace HB:=zBs HB hb;clear hb)|((with_reducible refine aI (N:=12) rfl ?_);refine zx 12 211 #[.int .u64 0,.int .u64 0] ?_;intro BD hg w21 hbox hb;have yl:=am (hbox);have apR:=zG hg HB;have apS:=zG hg HB;replace HB:=zBs HB hb;have pK:=zNl hg lT;have pM:=zNg hg lT;replace lT:=zKb lT hb;clear hb hbox hg;have aBj:=pM.out;have aBk:=pK.out;obtain⟨_,_,_,_⟩:=zf2 yl))
   have n0_:ae (((w21.setCell ⟨BD,0,none⟩ (.int .u64 OG)).setCell ⟨BD,1,none⟩ (.int .u64 OH)).heap[YO]? = some (.cells #[.int .i64 0,.bool false,.int .i64 0,.int .u64 0,.int .u64 0,.bool false] 81 (0,0))):=⟨zK lT⟩
   have n1_:ae (((w21.setCell ⟨BD,0,none⟩ (.int .u64 OG)).setCell ⟨BD,1,none⟩ (.int .u64 OH)).heap[BD]? = some (.cells #[.int .u64 OG,.int .u64 OH] 211 (0,0))):=⟨zKp yl⟩
   have n2_:ae (Below w.heap.size w ((w21.setCell ⟨BD,0,none⟩ (.int .u64 OG)).setCell ⟨BD,1,none⟩ (.int .u64 OH))):=⟨zB HB⟩
   (try clear lT)
   (try clear yl)
   (try clear HB)
   generalize ((w21.setCell ⟨BD,0,none⟩ (.int .u64 OG)).setCell ⟨BD,1,none⟩ (.int .u64 OH))=w24 at n0_ n1_ n2_ ⊢;have lT:=n0_;have yl:=n1_;have HB:=n2_;clear n0_ n1_ n2_;replace lT:=am (dX lT.out);replace yl:=am (dX yl.out);replace HB:=am (aX HB.out);refine lQ (n:=14) (S:=fun w'=>w'.cell? ⟨BD,0,none⟩=some (.int .u64 OG)∧w'.cell? ⟨BD,1,none⟩=some (.int .u64 OH)) (ds := []) (Array.replicate 14 false) (by kernel_rfl) rfl rfl ⟨(ag yl.out 0).trans rfl,(ag yl.out 1).trans rfl⟩ (fun hHeld=>?_);refine gU dM.ayE dM.al5 (fun HT_ HW_=>?_);generalize w24.drew=w25 at lT yl HB hHeld ⊢;refine zp HT_ 0 (some 36) ?_;refine zp HT_ 1 (some 37) ?_;refine zp HT_ 2 (some 38) ?_;refine zp HT_ 3 (some 39) ?_;refine zp HT_ 4 (some 40) ?_;refine zp HT_ 6 (some 42) ?_;refine zp HT_ 8 (some 44) ?_;refine zp HT_ 10 (some 46) ?_;refine zt HT_ HW_ 7 (some 43) hHeld ?_;refine zt HT_ HW_ 9 (some 45) hHeld ?_;refine zu HT_ 5 (some 41) (fun K hK=>?_);refine o5 Tryz.func146 (by kernel_rfl) rfl #[.int .i64 (wrap64 ((wrap64 ((EC)+127))-awd))] (by rfl) rfl rfl (by (try simp only[List.map_toArray,List.map_cons,List.map_nil]);first|done|(simp only[uz];rfl)|rfl|(simp only[List.length_drop,List.length_take];rfl)) ?_
   with_reducible refine (lW.calls (wrap64 ((wrap64 ((EC)+127))-awd)) afo _ A19.out).mono ?_
   rintro e w26 ⟨rfl,hb⟩;refine⟨_,rfl,?_⟩;replace lT:=zKb lT hb;replace yl:=zKb yl hb;replace HB:=zBs HB hb
   (try clear hb)
   (try clear hb2)
   (try clear hk)
   (try clear hi)
   refine hK.out _ _ ⟨(ag yl.out 0).trans rfl,(ag yl.out 1).trans rfl⟩ (fun hHeld=>?_);clear hK K;refine lI (a':=?_) ?_ ?_;rotate_left
   ·show Act.put _ (some 41) _=_
    simp only[Act.put,List.setIfInBounds_toArray,List.set_cons_zero,List.set_cons_succ,cu,fQ]
    rfl
   refine zp HT_ 11 (some 47) ?_;refine zu HT_ 12 none (fun K hK=>?_);have aIv:=zl lT 0;have aBl:=aj lT.out 0;have apV:=pM.out;have apW:=pK.out;have aBm:=zl lT 1;have apX:=aj lT.out 1;have adG:=pM.out;have adH:=pK.out;have aBn:=zl lT 2;have apY:=aj lT.out 2;have adI:=pM.out;have adJ:=pK.out;have aBo:=zl lT 3;have apZ:=aj lT.out 3;have adK:=pM.out;have adL:=pK.out;have aBp:=zl lT 4;have ap0:=aj lT.out 4;have adM:=pM.out;have adN:=pK.out;have aIw:=zl lT 5;have aBq:=aj lT.out 5;have ap1:=pM.out;have ap2:=pK.out;refine vW (w1:=?_) (by rfl) rfl ?_ ?_;rotate_left
   ·go_simp
    rfl
   refine hK.out _ _ ⟨(zh hHeld),(zh hHeld)⟩ (fun hHeld=>?_);clear hK K;refine zp HT_ 13 (some 11) ?_;refine oU (iZ HT_.out (by kernel_rfl)) ?_
   try go_wp2
   refine bodyPost_ret (dY rfl _ _ YO 81 #[.int .i64 1,.bool a0,.int .i64 afo,.int .u64 OG,.int .u64 OH,.bool a4] (0,0) _ rfl (zKp lT) Tryz.underlying81 rfl (by kernel_rfl)) rfl ?_;exact⟨by first|exact z3|(simp only[← Au, ← uz];exact z3)|exact z2,zB HB⟩
  replace H:=zb1 H;exact zn H
end Go.Proofs.Yy.PTx
end
section
set_option maxHeartbeats 8000000
set_option maxRecDepth 100000
namespace Go.Proofs.Yy.PTx
open Go.RowKit Go.Proofs.Yy.Z Go.Proofs.Yw.PrintWords Go.Proofs.Yw.PrintLast Go.Proofs.Yw.PrintMore
open Go.Proofs.Yy.M
attribute [local go_sem] dG dP kR kT kW kS
attribute [local go_sem] gI gG iP iR fF fG gW gV
def oZ.f (k:Nat)(l0:List Int):Option (Int):=(bG.f k l0).bind fun MF=>(if (MF.length:Int)=0 then (some 0) else (if 0≤(wrap64 ((MF.length:Int)-1)) then (if (wrap64 ((MF.length:Int)-1))<(MF.length:Int) then ((bits_Len64.f k (rd MF (wrap64 ((MF.length:Int)-1)))).bind fun awe=>(some (wrap64 ((wrap64 (64*(wrap64 ((MF.length:Int)-1))))+awe)))) else (none)) else (none)))
theorem oZ.calls (k:Nat)(A0:Option Addr)(c0:Nat)(l0:List Int)(r:Int)(w:World)(hr0:Kd.C (Kd.int .u64) w A0 l0.length l0)(hc0:l0.length≤c0)(h:oZ.f k l0=some r) :
    Calls Tryz.prog 96 #[.slice A0 l0.length c0] w fun e w'=>e=.returned (.int .i64 r)∧Below w.heap.size w w':=by
 have HR0:=am hr0;have HC0:=am hc0;clear hr0 hc0;have HB:=am (Below.refl w.heap.size w);have H:=am h;unfold oZ.f at H;clear h;replace H:=zo H;obtain⟨MF,A2,H⟩:=H;replace H:=zsk H;rcases H with⟨pI,Kw,H⟩|⟨pI,Kw,c3,H⟩;obtain rfl:=Option.some.inj H.out;rotate_left;have an5:¬ (MF=[]):=fun h_=>c3 (by rw[h_];rfl);generalize uQ:(wrap64 ((MF.length:Int)-1):Int)=ji6 at H
 (try rw[uQ]at A2)
 have Uw:(IntKind.i64.wrap ((MF.length:Int)-1))=ji6:=(cu _).trans uQ;replace H:=zid H;obtain⟨wz,H⟩:=H;replace H:=zid H;obtain⟨sO,H⟩:=H;replace H:=zo H;obtain⟨awe,A9,H⟩:=H;obtain rfl:=Option.some.inj H.out;rotate_left
 all_goals (go_enter Tryz.func96,Tryz.ntmps96;go_wp2_with (first|((with_reducible refine af (f:=103) rfl ?_);refine zc (some 4) Tryz.func103 #[.slice A0 l0.length c0] (bG.calls _ (fun k_=>k_<w.heap.size) _ _ _ _ _ (Kd.IL HC0.out (Kd.ou (Kd.C_F (Kd.pg .u64) HR0.out) (zB HB))) A2.out) ?_;rintro e w10 ⟨aBr,rfl,ho0,hb⟩;refine⟨_,rfl,?_⟩;have YQ:=am (Kd.dV (Kd.cO (ok':=fun k_=>True) ho0 (fun k_ hk_=>trivial)) (zS HB));replace HB:=zBs HB hb;clear hb ho0;obtain⟨aak,YB,YC⟩:=Kd.fJ YQ.out;subst YC;have adu:0≤((ji6):Int):=zD;have adv:(ji6)<(MF.length:Int):=zD;obtain⟨apo,apq,MG⟩:=Kd.dQ (Kd.bf YQ.out).2.2 (ji6) adu adv;cases apq;replace adu:=eq_true adu;replace adv:=eq_true adv)|((with_reducible refine af (f:=152) rfl ?_);refine jS (some 18) rfl rfl Tryz.func152 (by kernel_rfl) rfl #[.int .u64 (rd MF (ji6))] rfl (by (try simp only[List.map_toArray,List.map_cons,List.map_nil]);first|done|(simp only[uQ];rfl)|rfl|(simp only[List.length_drop,List.length_take];rfl)) ?_;(with_reducible refine (bits_Len64.calls _ _ _ _ A9.out).mono ?_);rintro e w' ⟨rfl,⟨nd,rfl⟩⟩;refine⟨_,rfl,?_⟩)|((with_reducible refine af (f:=103) rfl ?_);refine zc (some 4) Tryz.func103 #[.slice A0 l0.length c0] (bG.calls _ (fun k_=>k_<w.heap.size) _ _ _ _ _ (Kd.IL HC0.out (Kd.ou (Kd.C_F (Kd.pg .u64) HR0.out) (zB HB))) A2.out) ?_;rintro e w4 ⟨aBr,rfl,ho0,hb⟩;refine⟨_,rfl,?_⟩;have YQ:=am (Kd.dV (Kd.cO (ok':=fun k_=>True) ho0 (fun k_ hk_=>trivial)) (zS HB));replace HB:=zBs HB hb;clear hb ho0;obtain⟨Ao5,co5,eo5⟩:=Kd.fJ YQ.out;subst eo5)))
 ·go_ret
  exact⟨z2,zB HB⟩
 go_ret
 exact⟨by first|exact z3|(simp only[← uQ];exact z3)|exact z2,zB HB⟩
def o6.j0:Nat→List Int→Int→Bool→Option (Int × Int × Bool × Option Int)
  | 0,_,_,_=>none
  | k+1,x0,x1,x17=>if x17=true then (none) else ((oZ.f k x0).bind fun afp=>((eX.f k x0 (mx 0 (wrap64 (afp-x1)))).bind fun Vd=>(if Vd.2.2.isNone=true then (if (Vd.1.length:Int)=0 then (some (0,0,false,none)) else (if 0<(Vd.1.length:Int) then (some (rd Vd.1 0,mx 0 (wrap64 (afp-x1)),Vd.2.1,none)) else (none))) else (none))))
def o6.f (k:Nat)(l0:List Int)(a1:Int):Option (Int × Int × Bool × Option Int):=if a1<1 then (o6.j0 k l0 a1 true) else (o6.j0 k l0 a1 (decide (a1 > 64)))
theorem o6.calls (k:Nat)(A0:Option Addr)(c0:Nat)(l0:List Int)(a1:Int)(r1:Int)(r2:Int)(r3:Bool)(r4:Option Int)(w:World)(hr0:Kd.C (Kd.int .u64) w A0 l0.length l0)(hc0:l0.length≤c0)(h:o6.f k l0 a1=some (r1,r2,r3,r4)) :
    Calls Tryz.prog 151 #[.slice A0 l0.length c0,.int .i64 a1] w fun e w'=>e=.returned (.tuple #[.int .u64 r1,.int .i64 r2,.bool r3,rF r4])∧Below w.heap.size w w':=by
 have yB:=Tryz.underlying27;have hu64:=Tryz.underlying64;have HR0:=am hr0;have HC0:=am hc0;clear hr0 hc0;have HB:=am (Below.refl w.heap.size w);have H:=am h;unfold o6.f at H;clear h
 go_enter Tryz.func151,Tryz.ntmps151
 go_upto_region 1 with (fail)
 go_cut [17] (fun v17 wc => ∃ (kq:Nat) (Ic:Bool),v17=.bool Ic∧ae (o6.j0 kq l0 a1 Ic=some (r1,r2,r3,r4))∧ae (kq≤k)∧ae (Below w.heap.size w wc))
 case first =>
  replace H:=zsd H;rcases H with⟨jP,H⟩|⟨jP,H⟩
  (first|rw[jP]|(simp only[cu,fQ];rw[jP])|rw[sQ]|skip)
  rotate_left
  (first|rw[jP]|(simp only[cu,fQ];rw[jP])|rw[sQ]|skip)
  rotate_left
  all_goals (go_wp2)
  ·go_meet
   case rel=>exact⟨_,(true),z1,H,⟨z5⟩,⟨zB HB⟩⟩
  go_meet
  case rel=>exact⟨_,(decide (a1 > 64)),z1,H,⟨z5⟩,⟨zB HB⟩⟩
 case rest =>
  obtain⟨kq,Ic,rfl,H,HJ2,HB⟩:=hcut;obtain _|kj2:=kq
  ·exact zz H rfl
  simp only[o6.j0]at H
  cases Ic
  replace H:=zb0 H;replace H:=zo H;obtain⟨afp,A6,H⟩:=H;generalize Gh:(mx 0 (wrap64 (afp-a1)):Int)=ji7 at H
  (try rw[Gh]at A6)
  have Yp:(if 0<(wrap64 (afp-a1)) then (wrap64 (afp-a1)) else 0)=ji7:=Gh;replace H:=zo H;obtain⟨⟨ai4,aIx,aIy⟩,A8,H⟩:=H
  try dsimp only at H
  replace H:=zIn H;obtain⟨rfl,H⟩:=H
  try simp only[au,ax]
  replace H:=zsk H;rcases H with⟨wu,Ez,H⟩|⟨wu,Ez,c9,H⟩;obtain⟨rfl,rfl,rfl,rfl⟩:=zJ4 H;rotate_left;have aIz:¬ (ai4=[]):=fun h_=>c9 (by rw[h_];rfl);replace H:=zi H;obtain⟨c13,H⟩:=H;have qo:decide (0<(ai4.length:Int))=true:=decide_eq_true c13;have Ib:decide (0<ai4.length)=true:=decide_eq_true (by omega);clear c13;obtain⟨rfl,rfl,rfl,rfl⟩:=zJ4 H;rotate_left
  ·replace H:=zb1 H
   exact zn H
  all_goals (go_wp2_with (first|((with_reducible refine af (f:=96) rfl ?_);refine zc (some 20) Tryz.func96 #[.slice A0 l0.length c0] (oZ.calls _ _ _ _ _ _ (zC (Kd.jZ HR0.out HB.out)) HC0.out A6.out) ?_;rintro e w10 ⟨rfl,hb⟩;refine⟨_,rfl,?_⟩;replace HB:=zBs HB hb;clear hb)|((with_reducible refine af (f:=52) rfl ?_);refine jS (some 27) rfl rfl Tryz.func52 (by kernel_rfl) rfl #[.slice A0 l0.length c0,.int .i64 ji7] rfl (by (try simp only[List.map_toArray,List.map_cons,List.map_nil]);first|done|(simp only[Gh];rfl)|rfl|(simp only[List.length_drop,List.length_take];rfl)) ?_;(with_reducible refine (eX.calls _ (fun k_=>k_<w.heap.size) _ _ _ _ _ _ _ _ ?fE A8.out).mono ?_);(case fE=>exact Kd.IL HC0.out (Kd.ou (Kd.C_F (Kd.pg .u64) HR0.out) (zB HB)));rintro e w11 ⟨aBs,rfl,ho0,hb⟩;refine⟨_,rfl,?_⟩;have YR:=am (Kd.dV (Kd.cO (ok':=fun k_=>True) ho0 (fun k_ hk_=>trivial)) (zS HB));replace HB:=zBs HB hb;clear hb ho0;(try simp only[au,ax]);obtain⟨IP,BX,UF⟩:=Kd.fJ YR.out;subst UF;have ap3:0≤(0:Int):=(by omega);have ap4:0<(ai4.length:Int):=zD;obtain⟨aBt,aBu,Ve⟩:=Kd.dQ (Kd.bf YR.out).2.2 0 ap3 ap4;cases aBu;have aBv:(0<ai4.length)=True:=eq_true (by omega);(try rw[show ((0:Int)).toNat=0 from rfl]at Ve);(try rw[Addr.add_zero']at Ve);replace ap3:=eq_true ap3;replace ap4:=eq_true ap4)|((with_reducible refine af (f:=52) rfl ?_);refine jS (some 27) rfl rfl Tryz.func52 (by kernel_rfl) rfl #[.slice A0 l0.length c0,.int .i64 ji7] rfl (by (try simp only[List.map_toArray,List.map_cons,List.map_nil]);first|done|(simp only[Gh];rfl)|rfl|(simp only[List.length_drop,List.length_take];rfl)) ?_;(with_reducible refine (eX.calls _ (fun k_=>k_<w.heap.size) _ _ _ _ _ _ _ _ ?fE A8.out).mono ?_);(case fE=>exact Kd.IL HC0.out (Kd.ou (Kd.C_F (Kd.pg .u64) HR0.out) (zB HB)));rintro e w11 ⟨aBs,rfl,ho0,hb⟩;refine⟨_,rfl,?_⟩;have YR:=am (Kd.dV (Kd.cO (ok':=fun k_=>True) ho0 (fun k_ hk_=>trivial)) (zS HB));replace HB:=zBs HB hb;clear hb ho0;(try simp only[au,ax]);obtain⟨WJ,QH,WF⟩:=Kd.fJ YR.out;subst WF)))
  all_goals
   refine bodyPost_ret (Jv (rs := [.tmp 4,.tmp 5,.tmp 6,.tmp 7]) rfl (by simp) (.tmp (.tmp (.tmp (.tmp .nil))))) rfl ?_;exact⟨by first|exact z3|(simp only[← Gh];exact z3)|exact z2,zB HB⟩
def nK.f (k:Nat)(a0:Bool)(l1:List Int)(a2:Int)(a3:Bool):Option (Int × Bool × Int × Int × Int × Bool × Option Int):=(o6.f k l1 64).bind fun Qe=>(if Qe.2.2.2.isNone=true then (if Qe.2.2.1=true then ((dM.f k a0 Qe.1 0 (wrap64 ((wrap64 (a2+Qe.2.1))-64)) true).bind fun MI=>(some (MI.1,MI.2.1,MI.2.2.1,MI.2.2.2.1,MI.2.2.2.2.1,MI.2.2.2.2.2.1,MI.2.2.2.2.2.2))) else ((dM.f k a0 Qe.1 0 (wrap64 ((wrap64 (a2+Qe.2.1))-64)) a3).bind fun MJ=>(some (MJ.1,MJ.2.1,MJ.2.2.1,MJ.2.2.2.1,MJ.2.2.2.2.1,MJ.2.2.2.2.2.1,MJ.2.2.2.2.2.2)))) else (none))
theorem nK.calls (k:Nat)(a0:Bool)(A1:Option Addr)(c1:Nat)(l1:List Int)(a2:Int)(a3:Bool)(r1:Int)(r2:Bool)(r3:Int)(r4:Int)(r5:Int)(r6:Bool)(r7:Option Int)(w:World)(hr1:Kd.C (Kd.int .u64) w A1 l1.length l1)(hc1:l1.length≤c1)(h:nK.f k a0 l1 a2 a3=some (r1,r2,r3,r4,r5,r6,r7)) :
    Calls Tryz.prog 95 #[.bool a0,.slice A1 l1.length c1,.int .i64 a2,.bool a3] w fun e w'=>e=.returned (.tuple #[.agg #[.int .i64 r1,.bool r2,.int .i64 r3,.int .u64 r4,.int .u64 r5,.bool r6],rF r7])∧Below w.heap.size w w':=by
 have Vb:=Tryz.underlying81;have yB:=Tryz.underlying27;have hu64:=Tryz.underlying64;have HR1:=am hr1;have HC1:=am hc1;clear hr1 hc1;have HB:=am (Below.refl w.heap.size w);have H:=am h;unfold nK.f at H;clear h;replace H:=zo H;obtain⟨⟨aIA,aIB,aBw,aIC⟩,A5,H⟩:=H
 try dsimp only at H
 replace H:=zIn H;obtain⟨rfl,H⟩:=H
 try simp only[au,ax]
 cases aBw
 replace H:=zb0 H;replace H:=zo H;obtain⟨⟨aBx,aBy,aBz,aBA,aBB,aBC,aID⟩,A12,H⟩:=H
 try dsimp only at H
 obtain⟨rfl,rfl,rfl,rfl,rfl,rfl,rfl⟩:=zJ7 H;rotate_left;replace H:=zb1 H;replace H:=zo H;obtain⟨⟨aBD,aBE,aBF,aBG,aBH,aBI,aIE⟩,A7,H⟩:=H
 try dsimp only at H
 obtain⟨rfl,rfl,rfl,rfl,rfl,rfl,rfl⟩:=zJ7 H;rotate_left
 all_goals (go_enter Tryz.func95,Tryz.ntmps95;go_wp2_with (first|((with_reducible refine aI (N:=8) rfl ?_);refine zx 8 81 #[.int .i64 0,.bool false,.int .i64 0,.int .u64 0,.int .u64 0,.bool false] ?_;intro ai5 hg w13 hbox hb;have EY:=am (hbox);have aBJ:=zG hg HB;have aBK:=zG hg HB;replace HB:=zBs HB hb;clear hb hbox hg)|((with_reducible refine af (f:=151) rfl ?_);refine zc (some 16) Tryz.func151 #[.slice A1 l1.length c1,.int .i64 64] (o6.calls _ _ _ _ _ _ _ _ _ _ (zC (Kd.jZ HR1.out HB.out)) HC1.out A5.out) ?_;rintro e w14 ⟨rfl,hb⟩;refine⟨_,rfl,?_⟩;replace EY:=zKb EY hb;replace HB:=zBs HB hb;clear hb;(try simp only[au,ax]))|((with_reducible refine af (f:=93) rfl ?_);refine zc (some 35) Tryz.func93 _ (dM.calls _ _ _ _ _ _ _ _ _ _ _ _ _ _ A12.out) ?_;rintro e w15 ⟨rfl,hb⟩;refine⟨_,rfl,?_⟩;replace EY:=zKb EY hb;replace HB:=zBs HB hb;clear hb;(try simp only[au,ax]);obtain⟨_,_,_,_,_,_,_,_,_,_,_,_⟩:=zf6 EY)|((with_reducible refine af (f:=93) rfl ?_);refine zc (some 35) Tryz.func93 _ (dM.calls _ _ _ _ _ _ _ _ _ _ _ _ _ _ A7.out) ?_;rintro e w10 ⟨rfl,hb⟩;refine⟨_,rfl,?_⟩;replace EY:=zKb EY hb;replace HB:=zBs HB hb;clear hb;(try simp only[au,ax]);obtain⟨_,_,_,_,_,_,_,_,_,_,_,_⟩:=zf6 EY)))
 ·refine bodyPost_ret (dY rfl _ _ ai5 81 #[.int .i64 aBx,.bool aBy,.int .i64 aBz,.int .u64 aBA,.int .u64 aBB,.bool aBC] (0,0) _ rfl (zKp EY) Tryz.underlying81 rfl (by kernel_rfl)) rfl ?_
  exact⟨z2,zB HB⟩
 refine bodyPost_ret (dY rfl _ _ ai5 81 #[.int .i64 aBD,.bool aBE,.int .i64 aBF,.int .u64 aBG,.int .u64 aBH,.bool aBI] (0,0) _ rfl (zKp EY) Tryz.underlying81 rfl (by kernel_rfl)) rfl ?_;exact⟨z2,zB HB⟩
def mW.l0:Nat→List Int→List Int→Int→Option (Int)
  | 0,_,_,_=>none
  | k+1,x0,x1,x5=>if x5≥0 then (if 0≤x5 then (if x5<(x0.length:Int) then (if x5<(x1.length:Int) then (if (rd x0 x5)=(rd x1 x5) then (mW.l0 k x0 x1 (wrap64 (x5-1))) else (if (rd x0 x5)<(rd x1 x5) then (some (-1)) else (some 1))) else (none)) else (none)) else (none)) else (some 0)
def mW.f (k:Nat)(l0:List Int)(l1:List Int):Option (Int):=(bG.f k l0).bind fun DX=>((bG.f k l1).bind fun EZ=>(if (DX.length:Int)=(EZ.length:Int) then (mW.l0 k DX EZ (wrap64 ((DX.length:Int)-1))) else (if (DX.length:Int)<(EZ.length:Int) then (some (-1)) else (some 1))))
theorem mW.calls (k:Nat)(A0:Option Addr)(c0:Nat)(l0:List Int)(A1:Option Addr)(c1:Nat)(l1:List Int)(r:Int)(w:World)(hr0:Kd.C (Kd.int .u64) w A0 l0.length l0)(hc0:l0.length≤c0)(hr1:Kd.C (Kd.int .u64) w A1 l1.length l1)(hc1:l1.length≤c1)(h:mW.f k l0 l1=some r) :
    Calls Tryz.prog 153 #[.slice A0 l0.length c0,.slice A1 l1.length c1] w fun e w'=>e=.returned (.int .i64 r)∧Below w.heap.size w w':=by
 have HR0:=am hr0;have HC0:=am hc0;clear hr0 hc0;have HR1:=am hr1;have HC1:=am hc1;clear hr1 hc1;have HB:=am (Below.refl w.heap.size w);have H:=am h;unfold mW.f at H;clear h;replace H:=zo H;obtain⟨DX,A3,H⟩:=H;replace H:=zo H;obtain⟨EZ,A4,H⟩:=H;replace H:=zs H;rcases H with⟨c5,H⟩|⟨c5,H⟩;have qg:((DX.length:Int) == (EZ.length:Int))=true:=beq_iff_eq.mpr c5;have xy:((DX.length:Int) != (EZ.length:Int))=false:=bne_eq_false_iff_eq.mpr c5
 have awf:(DX.length == EZ.length)=true:=by first|simpa using c5|(simp at c5 ⊢;omega)
 clear c5;rotate_left;have qg:((DX.length:Int) == (EZ.length:Int))=false:=beq_eq_false_iff_ne.mpr c5;have xy:((DX.length:Int) != (EZ.length:Int))=true:=bne_iff_ne.mpr c5
 have awf:(DX.length == EZ.length)=false:=by first|simpa using c5|(simp at c5 ⊢;omega)
 replace H:=zs H;rcases H with⟨c16,H⟩|⟨c16,H⟩;have H9:decide ((DX.length:Int)<(EZ.length:Int))=true:=decide_eq_true c16;have YE:decide (DX.length<EZ.length)=true:=decide_eq_true (Int.ofNat_lt.mp c16);clear c16;obtain rfl:=Option.some.inj H.out;rotate_left;have H9:decide ((DX.length:Int)<(EZ.length:Int))=false:=decide_eq_false c16;have YE:decide (DX.length<EZ.length)=false:=decide_eq_false (fun h=>c16 (Int.ofNat_lt.mpr h));clear c16;obtain rfl:=Option.some.inj H.out;rotate_left
 all_goals (go_enter Tryz.func153,Tryz.ntmps153;go_wp2_with (first|(go_at_call 103;(with_reducible refine (bG.calls _ (fun k_=>k_<w.heap.size) _ _ _ _ _ ?fE A3.out).mono ?_);(case fE=>exact Kd.IL HC0.out (Kd.ou (Kd.C_F (Kd.pg .u64) HR0.out) (zB HB)));rintro e w6 ⟨awg,rfl,ho0,hb⟩;have zI:=am (Kd.dV (Kd.cO (ok':=fun k_=>True) ho0 (fun k_ hk_=>trivial)) (zS HB));replace HB:=zBs HB hb;clear hb ho0)|(go_at_call 103;(with_reducible refine (bG.calls _ (fun k_=>k_<w.heap.size) _ _ _ _ _ ?fE A4.out).mono ?_);(case fE=>exact Kd.IL HC1.out (Kd.ou (Kd.C_F (Kd.pg .u64) HR1.out) (zB HB)));rintro e w7 ⟨awh,rfl,ho0,hb⟩;replace zI:=zVb zI hb;have Qg:=am (Kd.dV (Kd.cO (ok':=fun k_=>True) ho0 (fun k_ hk_=>trivial)) (zS HB));replace HB:=zBs HB hb;clear hb ho0;obtain⟨Ao8,co8,eo8⟩:=Kd.fJ zI.out;subst eo8;obtain⟨Ao9,co9,eo9⟩:=Kd.fJ Qg.out;subst eo9)))
 all_goals (repeat (go_quiet (first|(go_at_call 103;(with_reducible refine (bG.calls k (fun k_=>k_<w.heap.size) _ _ l0 DX _ ?fE A3.out).mono ?_);(case fE=>exact Kd.IL HC0.out (Kd.ou (Kd.C_F (Kd.pg .u64) HR0.out) (zB HB)));rintro e w6 ⟨awg,rfl,ho0,hb⟩;have n0_:=am (Kd.dV (Kd.cO (ok':=fun k_=>True) ho0 (fun k_ hk_=>trivial)) (zS HB));have n1_:=zBs HB hb;clear HB;have zI:=n0_;have HB:=n1_;clear n0_ n1_;(try clear hb);(try clear hb2);(try clear hk);(try clear hi);(try clear ho0))|(go_at_call 103;(with_reducible refine (bG.calls k (fun k_=>k_<w.heap.size) _ _ l1 EZ _ ?fE A4.out).mono ?_);(case fE=>exact Kd.IL HC1.out (Kd.ou (Kd.C_F (Kd.pg .u64) HR1.out) (zB HB)));rintro e w7 ⟨awh,rfl,ho0,hb⟩;have n0_:=zVb zI hb;have n1_:=am (Kd.dV (Kd.cO (ok':=fun k_=>True) ho0 (fun k_ hk_=>trivial)) (zS HB));have n2_:=zBs HB hb;clear zI;clear HB;have zI:=n0_;have Qg:=n1_;have HB:=n2_;clear n0_ n1_ n2_;(try clear hb);(try clear hb2);(try clear hk);(try clear hi);(try clear ho0);obtain⟨Ao8,co8,eo8⟩:=Kd.fJ zI.out;subst eo8;obtain⟨Ao9,co9,eo9⟩:=Kd.fJ Qg.out;subst eo9));try go_wp2_with (first|(go_at_call 103;(with_reducible refine (bG.calls k (fun k_=>k_<w.heap.size) _ _ l0 DX _ ?fE A3.out).mono ?_);(case fE=>exact Kd.IL HC0.out (Kd.ou (Kd.C_F (Kd.pg .u64) HR0.out) (zB HB)));rintro e w6 ⟨awg,rfl,ho0,hb⟩;have n0_:=am (Kd.dV (Kd.cO (ok':=fun k_=>True) ho0 (fun k_ hk_=>trivial)) (zS HB));have n1_:=zBs HB hb;clear HB;have zI:=n0_;have HB:=n1_;clear n0_ n1_;(try clear hb);(try clear hb2);(try clear hk);(try clear hi);(try clear ho0))|(go_at_call 103;(with_reducible refine (bG.calls k (fun k_=>k_<w.heap.size) _ _ l1 EZ _ ?fE A4.out).mono ?_);(case fE=>exact Kd.IL HC1.out (Kd.ou (Kd.C_F (Kd.pg .u64) HR1.out) (zB HB)));rintro e w7 ⟨awh,rfl,ho0,hb⟩;have n0_:=zVb zI hb;have n1_:=am (Kd.dV (Kd.cO (ok':=fun k_=>True) ho0 (fun k_ hk_=>trivial)) (zS HB));have n2_:=zBs HB hb;clear zI;clear HB;have zI:=n0_;have Qg:=n1_;have HB:=n2_;clear n0_ n1_ n2_;(try clear hb);(try clear hb2);(try clear hk);(try clear hi);(try clear ho0);obtain⟨Ao8,co8,eo8⟩:=Kd.fJ zI.out;subst eo8;obtain⟨Ao9,co9,eo9⟩:=Kd.fJ Qg.out;subst eo9))))
 ·go_loopg [5] k (fun kq v5 w' => ∃ (ig:Int),v5=.int .i64 ig∧ae (mW.l0 kq DX EZ ig=some r)∧ae (kq≤k)∧ae (Kd.V (Kd.int .u64) 25 w' w.heap.size (fun _=>True) (.slice Ao8 DX.length co8) DX)∧ae (Kd.V (Kd.int .u64) 25 w' w.heap.size (fun _=>True) (.slice Ao9 EZ.length co9) EZ)∧ae (Below w.heap.size w w'))
  case atStart=>exact⟨(wrap64 ((DX.length:Int)-1)),z1,H,zL,⟨zV zI⟩,⟨zV Qg⟩,⟨zB HB⟩⟩
  clear H;obtain⟨ig,rfl,H,HK1,kL,pJ,HB⟩:=hrel;obtain _|k1:=gk
  ·exact zz H rfl
  simp only[mW.l0]at H;replace H:=yH H;rcases H with⟨mr,H⟩|⟨mr,H⟩;replace H:=zid H;obtain⟨qK,H⟩:=H;replace H:=zid H;obtain⟨qO,H⟩:=H;replace H:=zid H;obtain⟨qo,H⟩:=H;replace H:=zsk H;rcases H with⟨ww,LM,H⟩|⟨ww,LM,c14,H⟩;obtain⟨awi,awj,YS,rfl,Vf⟩:=zA (Kd.dQ (Kd.bf kL.out).2.2 ig);obtain⟨awk,awl,YT,rfl,Vg⟩:=zA (Kd.dQ (Kd.bf pJ.out).2.2 ig);rotate_left;replace H:=zsd H;rcases H with⟨uS,H⟩|⟨uS,H⟩;obtain rfl:=Option.some.inj H.out;obtain⟨awi,awj,YS,rfl,Vf⟩:=zA (Kd.dQ (Kd.bf kL.out).2.2 ig);obtain⟨awk,awl,YT,rfl,Vg⟩:=zA (Kd.dQ (Kd.bf pJ.out).2.2 ig);have adO:0≤(ig:Int):=zD;have adP:ig<(DX.length:Int):=zD;obtain⟨adQ,ap5,adR⟩:=Kd.dQ (Kd.bf kL.out).2.2 ig adO adP
  obtain rfl:YS=adQ:=(by injection ap5)
  replace adO:=eq_true adO;replace adP:=eq_true adP;have adS:0≤(ig:Int):=zD;have adT:ig<(EZ.length:Int):=zD;obtain⟨adU,ap6,adV⟩:=Kd.dQ (Kd.bf pJ.out).2.2 ig adS adT
  obtain rfl:YT=adU:=(by injection ap6)
  replace adS:=eq_true adS;replace adT:=eq_true adT;rotate_left;obtain rfl:=Option.some.inj H.out;obtain⟨awi,awj,YS,rfl,Vf⟩:=zA (Kd.dQ (Kd.bf kL.out).2.2 ig);obtain⟨awk,awl,YT,rfl,Vg⟩:=zA (Kd.dQ (Kd.bf pJ.out).2.2 ig);have adO:0≤(ig:Int):=zD;have adP:ig<(DX.length:Int):=zD;obtain⟨adQ,ap5,adR⟩:=Kd.dQ (Kd.bf kL.out).2.2 ig adO adP
  obtain rfl:YS=adQ:=(by injection ap5)
  replace adO:=eq_true adO;replace adP:=eq_true adP;have adS:0≤(ig:Int):=zD;have adT:ig<(EZ.length:Int):=zD;obtain⟨adU,ap6,adV⟩:=Kd.dQ (Kd.bf pJ.out).2.2 ig adS adT
  obtain rfl:YT=adU:=(by injection ap6)
  replace adS:=eq_true adS;replace adT:=eq_true adT;rotate_left;obtain rfl:=Option.some.inj H.out;rotate_left
  all_goals (go_wp2;repeat (go_quiet (fail);try go_wp2))
  ·go_roundg k1
   case measure=>have:=HK1.out;omega
   case rel=>exact⟨(wrap64 (ig-1)),z1,H,(zH HK1),⟨zV kL⟩,⟨zV pJ⟩,⟨zB HB⟩⟩
  ·go_ret
   exact⟨z2,zB HB⟩
  ·go_ret
   exact⟨z2,zB HB⟩
  go_ret
  exact⟨z2,zB HB⟩
 ·go_ret
  exact⟨z2,zB HB⟩
 go_ret
 exact⟨z2,zB HB⟩
mutual
def bM.l0:Nat→Int→Int→Int→Int→Int→Option (Int)
  | 0,_,_,_,_,_=>none
  | k+1,x2,x3,x4,x11,x12=>(bits_Mul64.f x11 x4).bind fun adW=>(if adW.1<x12 then (bM.j1 k x2 x3 x4 x11 x12 true) else (if adW.1=x12 then (bM.j1 k x2 x3 x4 x11 x12 (decide (adW.2≤x2))) else (bM.j1 k x2 x3 x4 x11 x12 false)))
def bM.j1:Nat→Int→Int→Int→Int→Int→Bool→Option (Int)
  | 0,_,_,_,_,_,_=>none
  | k+1,x2,x3,x4,x11,x12,x43=>if x43=true then (some x11) else (if (IntKind.u64.wrap (x12+x3))<x3 then (some (IntKind.u64.wrap (x11-1))) else (bM.l0 k x2 x3 x4 (IntKind.u64.wrap (x11-1)) (IntKind.u64.wrap (x12+x3))))
end
def bM.f (k:Nat)(a0:Int)(a1:Int)(a2:Int)(a3:Int)(a4:Int):Option (Int):=if a0≥a3 then (some 18446744073709551615) else ((aN.f k a0 a1 a3).bind fun ai6=>(bM.l0 k a2 a3 a4 ai6.1 ai6.2))
theorem bM.calls (k:Nat)(a0:Int)(a1:Int)(a2:Int)(a3:Int)(a4:Int)(r:Int)(w:World)(h:bM.f k a0 a1 a2 a3 a4=some r) :
    Calls Tryz.prog 192 #[.int .u64 a0,.int .u64 a1,.int .u64 a2,.int .u64 a3,.int .u64 a4] w fun e w'=>e=.returned (.int .u64 r)∧dR w w':=by
 have H:=am h;unfold bM.f at H;clear h;replace H:=yH H;rcases H with⟨qm,H⟩|⟨qm,H⟩;obtain rfl:=Option.some.inj H.out;rotate_left;replace H:=zo H;obtain⟨⟨aBL,aBM⟩,A7,H⟩:=H
 try dsimp only at H
 rotate_left
 all_goals (go_enter Tryz.func192,Tryz.ntmps192;go_wp2_with (first|((with_reducible refine af (f:=164) rfl ?_);refine zc (some 22) Tryz.func164 _ (aN.calls _ _ _ _ _ _ _ A7.out) ?_;rintro e w' ⟨rfl,⟨nd,rfl⟩⟩;refine⟨_,rfl,?_⟩)))
 ·go_ret
  exact⟨z1,z4⟩
 go_loopg [11,12] k (fun kq v11 v12 w' => ∃ (mF:Int) (Vh:Int),v11=.int .u64 mF∧v12=.int .u64 Vh∧ae (bM.l0 kq a2 a3 a4 mF Vh=some r)∧ae (kq≤k)∧dR w w')
 case atStart=>exact⟨(aBL),(aBM),z1,z1,H,zL,z4⟩
 clear H;obtain⟨mF,Vh,rfl,rfl,H,HK1,⟨m1,rfl⟩⟩:=hrel;obtain _|k1:=gk
 ·exact zz H rfl
 simp only[bM.l0]at H;replace H:=zo H;obtain⟨⟨aIF,aBN⟩,A8,H⟩:=H
 try dsimp only at H
 go_upto_region 5 with (first|((with_reducible refine af (f:=178) rfl ?_);refine zc (some 28) Tryz.func178 _ (bits_Mul64.calls _ _ _ _ _ A8.out) ?_;rintro e w' ⟨rfl,⟨nd,rfl⟩⟩;refine⟨_,rfl,?_⟩))
 (try simp only[Act.put,List.setIfInBounds_toArray,List.set_cons_zero,List.set_cons_succ])
 go_cut [43] (fun v43 wc => ∃ (kq:Nat) (YU:Bool),v43=.bool YU∧ae (bM.j1 kq a2 a3 a4 mF Vh YU=some r)∧ae (kq≤k1)∧dR w wc)
 case first =>
  replace H:=zsd H;rcases H with⟨mr,H⟩|⟨mr,H⟩
  (first|rw[mr]|(simp only[cu,fQ];rw[mr])|rw[sS]|skip)
  rotate_left
  (first|rw[mr]|(simp only[cu,fQ];rw[mr])|rw[sS]|skip)
  replace H:=zsk H;rcases H with⟨qK,zk,H⟩|⟨qK,zk,c11,H⟩;rotate_left;rotate_left
  all_goals (go_wp2)
  ·go_meet
   case rel=>exact⟨_,(true),z1,H,⟨by have:=HK1.out;first|omega|exact Nat.le_refl _⟩,z4⟩
  ·go_meet
   case rel=>exact⟨_,(decide (aBN≤a2)),z1,H,⟨by have:=HK1.out;first|omega|exact Nat.le_refl _⟩,z4⟩
  go_meet
  case rel=>exact⟨_,(false),z1,H,⟨by have:=HK1.out;first|omega|exact Nat.le_refl _⟩,z4⟩
 case rest =>
  obtain⟨kq,YU,rfl,H,HJ8,⟨mc8,rfl⟩⟩:=hcut;obtain _|kj8:=kq
  ·exact zz H rfl
  simp only[bM.j1]at H
  cases YU
  replace H:=zb0 H;replace H:=zsd H;rcases H with⟨qo,H⟩|⟨qo,H⟩;obtain rfl:=Option.some.inj H.out;rotate_left;rotate_left;replace H:=zb1 H;obtain rfl:=Option.some.inj H.out;rotate_left
  all_goals (go_wp2)
  ·go_ret
   exact⟨z1,z4⟩
  ·go_roundg kj8
   case measure=>have:=HK1.out;have:=HJ8.out;omega
   case rel=>exact⟨(IntKind.u64.wrap (mF-1)),(IntKind.u64.wrap (Vh+a3)),z1,z1,H,⟨by have:=HK1.out;have:=HJ8.out;omega⟩,z4⟩
  go_ret
  exact⟨z1,z4⟩
end Go.Proofs.Yy.PTx
end
