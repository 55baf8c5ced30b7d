/- Part 22 of what the proof needs. -/
import Derived.Test.YtpfnkbnepcchgaaGreatDoorKTEAU
set_option linter.unusedSimpArgs false
set_option linter.unusedVariables false
section
set_option maxHeartbeats 8000000
set_option maxRecDepth 100000
namespace Go.Proofs.Yy.PTx
open Go.RowKit Go.Proofs.Yy.Z Go.Proofs.Yw.PrintWords Go.Proofs.Yw.PrintLast Go.Proofs.Yw.PrintMore
open Go.Proofs.Yy.M
attribute [local go_sem] dw dQ lD lF lC lG
attribute [local go_sem] gy gz ja jc fC fD gQ gK
mutual
def fE.j0:Nat→Int→Int→Bool→Int→Int→Int→Bool→Option (Int × Int × Option Int)
  | 0,_,_,_,_,_,_,_=>none
  | k+1,x0,arB,arC,H7,adw,adx,ady=>(kU.f k adw adx 1).bind fun aiX=>((dR.f aiX.1 aiX.2.1 (IntKind.u64.wrap (Go.bits .and .i64 H7 3)) 2 ady).bind fun QP=>(if (H7 / 4) ≥ 0 then ((dR.f QP.1 QP.2.1 0 1 QP.2.2).bind fun adz=>(fE.l0 k x0 adz.2.2 (wrap64 ((H7 / 4)+1)) 0 adz.1 adz.2.1)) else ((dR.f QP.1 QP.2.1 1 1 QP.2.2).bind fun adA=>(fE.l1 k x0 adA.2.2 (wrap64 (-(H7 / 4))) 0 adA.1 adA.2.1))))
def fE.j3:Nat→Int→Bool→Int→Int→Option (Int × Int × Option Int)
  | 0,_,_,_,_=>none
  | k+1,x0,x12,uN,xN=>if 0≤(wrap64 (65 - x0)) then ((kU.f k uN xN (wrap64 (x0 - 1))).bind fun adB=>(if adB.2.1=0 then ((jQ.f k adB.1 x12).bind fun avT=>(some (shr .u64 uN (wrap64 (65 - x0)),avT,none))) else ((jQ.f k adB.1 true).bind fun avU=>(some (shr .u64 uN (wrap64 (65 - x0)),avU,none))))) else (none)
def fE.l0:Nat→Int→Bool→Int→Int→Int→Int→Option (Int × Int × Option Int)
  | 0,_,_,_,_,_,_=>none
  | k+1,x0,x12,x114,x115,uN,xN=>if x115<x114 then ((dR.f uN xN 1 1 x12).bind fun adC=>(fE.l0 k x0 adC.2.2 x114 (wrap64 (x115+1)) adC.1 adC.2.1)) else (fE.j3 k x0 x12 uN xN)
def fE.l1:Nat→Int→Bool→Int→Int→Int→Int→Option (Int × Int × Option Int)
  | 0,_,_,_,_,_,_=>none
  | k+1,x0,x12,avV,avW,uN,xN=>if avW<avV then ((dR.f uN xN 0 1 x12).bind fun adD=>(fE.l1 k x0 adD.2.2 avV (wrap64 (avW+1)) adD.1 adD.2.1)) else (fE.j3 k x0 x12 uN xN)
end
def fE.f (k:Nat) (a0:Int) (xU:Int) (wR:Bool) (wC:Int) (xO:Int) (BA:Int) (AX:Bool):Option (Int × Int × Option Int):=(yF.f a0).bind fun H8=>(if H8.2.2.2.2.2.isNone=true then ((fH.f k xU wR wC xO BA AX).bind fun arD=>(if arD=true then (if xU=0 then (some (0,0,none)) else (if xU=2 then (some (H8.2.2.2.1,0,none)) else (if wC ≥ H8.2.2.2.2.1 then (some (H8.2.1,0,none)) else (if wC<(wrap64 (-H8.2.2.2.2.1)) then (some (H8.2.2.1,0,none)) else (if wC=(wrap64 (-H8.2.2.2.2.1)) then (if xO=9223372036854775808 then (if BA=0 then (if AX=true then (fE.j0 k a0 xU wR wC xO BA AX) else (some (H8.2.2.1,0,none))) else (fE.j0 k a0 xU wR wC xO BA AX)) else (fE.j0 k a0 xU wR wC xO BA AX)) else (fE.j0 k a0 xU wR wC xO BA AX)))))) else (some (0,0,some 1)))) else (some (0,0,some (H8.2.2.2.2.2.getD 0))))
theorem fE.calls (k:Nat) (a0:Int) (xU:Int) (wR:Bool) (wC:Int) (xO:Int) (BA:Int) (AX:Bool) (r1:Int) (r2:Int) (r3:Option Int) (w:World) (h:fE.f k a0 xU wR wC xO BA AX=some (r1,r2,r3)) :
    Calls Tryz.prog 98 #[.int .i64 a0, .agg #[.int .i64 xU, .bool wR, .int .i64 wC, .int .u64 xO, .int .u64 BA, .bool AX]] w fun e w'=>e = .returned (.tuple #[.int .u64 r1, .int .i64 r2,qm r3])∧Below w.heap.size w w':=by
 have ad3:=Tryz.underlying81
 have arA:=Tryz.underlying223
 have Jz:=Tryz.underlying211
 have yL:=Tryz.underlying27
 have hu64:=Tryz.underlying64
 have HB:=am (Below.refl w.heap.size w)
 have H:=am h
 unfold fE.f at H
 clear h
 replace H:=zo H
 obtain ⟨⟨akl,akm,akn,ako,akp,aCo⟩,A3,H⟩:=H
 try dsimp only at H
 go_enter Tryz.func98,Tryz.ntmps98
 go_upto_block 0 with (first|((with_reducible refine ay (N:=3) rfl ?_);refine zx 3 81 #[.int .i64 xU, .bool wR, .int .i64 wC, .int .u64 xO, .int .u64 BA, .bool AX] ?_;intro Ze hg w5 hbox hb;have iK:=am (hbox);have aCp:=zG hg HB;have aCq:=zG hg HB;replace HB:=zBs HB hb;clear hb hbox hg)|((with_reducible refine af (f:=155) rfl ?_);refine zc (some 20) Tryz.func155 _ (yF.calls _ _ _ _ _ _ _ _ A3.out) ?_;rintro e w6 ⟨rfl,hb⟩;refine ⟨_,rfl,?_⟩;replace iK:=zKb iK hb;replace HB:=zBs HB hb;clear hb;(try simp only [ak,aj]))|((with_reducible refine ay (N:=7) rfl ?_);refine zx 7 223 #[.int .i64 0, .int .u64 0, .int .u64 0, .int .u64 0, .int .i64 0] ?_;intro Zf hg w7 hbox hb;have kL:=am (hbox);have aCr:=zG hg HB;have aCs:=zG hg HB;replace HB:=zBs HB hb;have lT:=zNl hg iK;have lU:=zNg hg iK;replace iK:=zKb iK hb;clear hb hbox hg;have aup:=lU.out;have auq:=lT.out;obtain ⟨_,_,_,_,_,_,_,_,_,_⟩:=zf5 kL))
 (try simp only [Act.put,List.setIfInBounds_toArray,List.set_cons_zero,List.set_cons_succ])
 go_cut [] (fun wc => ∃ (kq:Nat),ae (fE.j0 kq a0 xU wR wC xO BA AX=some (r1,r2,r3))∧ae (kq≤k)∧ae (wc.heap[Ze]? = some (.cells #[.int .i64 xU, .bool wR, .int .i64 wC, .int .u64 xO, .int .u64 BA, .bool AX] 81 (0,0)))∧ae (wc.heap[Zf]? = some (.cells #[.int .i64 akl, .int .u64 akm, .int .u64 akn, .int .u64 ako, .int .i64 akp] 223 (0,0)))∧ae (Below w.heap.size w wc))
 case first =>
  rcases aCo with _|aIu
  replace H:=zb1 H
  try simp only [ak,aj]
  replace H:=zo H
  obtain ⟨arD,A10,H⟩:=H
  cases arD
  replace H:=zb0 H
  obtain ⟨rfl,rfl,rfl⟩:=zJ3 H
  have aCt:=lT.out
  have aCu:=lU.out
  obtain ⟨_,_,_,_,_,_,_,_,_,_,_,_⟩:=zf6 iK
  rotate_left
  replace H:=zb1 H
  replace H:=zsk H
  rcases H with ⟨nO,rH,H⟩|⟨nO,rH,c12,H⟩
  (first|rw [nO]|(simp only [bI,dV];rw [nO])|rw [rH]|skip)
  obtain ⟨rfl,rfl,rfl⟩:=zJ3 H
  have am9:=lT.out
  have ana:=lU.out
  obtain ⟨_,_,_,_,_,_,_,_,_,_,_,_⟩:=zf6 iK
  rotate_left
  (first|rw [nO]|(simp only [bI,dV];rw [nO])|rw [rH]|skip)
  replace H:=zsk H
  rcases H with ⟨Dk,U8,H⟩|⟨Dk,U8,c17,H⟩
  obtain ⟨rfl,rfl,rfl⟩:=zJ3 H
  have agE:=lT.out
  have agF:=lU.out
  obtain ⟨_,_,_,_,_,_,_,_,_,_,_,_⟩:=zf6 iK
  rotate_left
  replace H:=zf H
  rcases H with ⟨Eu,H⟩|⟨Eu,H⟩
  obtain ⟨rfl,rfl,rfl⟩:=zJ3 H
  have afA:=lT.out
  have afB:=lU.out
  obtain ⟨_,_,_,_,_,_,_,_,_,_,_,_⟩:=zf6 iK
  rotate_left
  replace H:=zsd H
  rcases H with ⟨Yt,H⟩|⟨Yt,H⟩
  obtain ⟨rfl,rfl,rfl⟩:=zJ3 H
  have anj:=lT.out
  have ank:=lU.out
  obtain ⟨_,_,_,_,_,_,_,_,_,_,_,_⟩:=zf6 iK
  rotate_left
  replace H:=zsk H
  rcases H with ⟨GX,Yj,H⟩|⟨GX,Yj,c35,H⟩
  replace H:=zsk H
  rcases H with ⟨UJ,aiY,H⟩|⟨UJ,aiY,c36,H⟩
  replace H:=zsk H
  rcases H with ⟨Jy,aiZ,H⟩|⟨Jy,aiZ,c37,H⟩
  cases AX
  replace H:=zb0 H
  obtain ⟨rfl,rfl,rfl⟩:=zJ3 H
  have alz:=lT.out
  have alA:=lU.out
  obtain ⟨_,_,_,_,_,_,_,_,_,_,_,_⟩:=zf6 iK
  rotate_left
  replace H:=zb1 H
  have afE:=lT.out
  have afF:=lU.out
  obtain ⟨_,_,_,_,_,_,_,_,_,_,_,_⟩:=zf6 iK
  rotate_left
  have aCv:=lT.out
  have aCw:=lU.out
  obtain ⟨_,_,_,_,_,_,_,_,_,_,_,_⟩:=zf6 iK
  rotate_left
  have aCx:=lT.out
  have aCy:=lU.out
  obtain ⟨_,_,_,_,_,_,_,_,_,_,_,_⟩:=zf6 iK
  rotate_left
  have arE:=lT.out
  have arF:=lU.out
  obtain ⟨_,_,_,_,_,_,_,_,_,_,_,_⟩:=zf6 iK
  rotate_left
  replace H:=zb0 H
  try simp only [Option.getD_some] at H
  try simp only [ak,aj]
  obtain ⟨rfl,rfl,rfl⟩:=zJ3 H
  rotate_left
  all_goals (go_wp2_with (first|((with_reducible refine af (f:=156) rfl ?_);refine zc (some 29) Tryz.func156 _ (fH.calls _ _ _ _ _ _ _ _ _ A10.out) ?_;rintro e w66 ⟨rfl,hb⟩;refine ⟨_,rfl,?_⟩;replace iK:=zKb iK hb;replace kL:=am (bU (zKp kL) hb);replace HB:=zBs HB hb;clear hb;obtain ⟨_,_,_,_,_,_,_,_,_,_,_,_⟩:=zf6 iK;obtain ⟨_,_,_,_,_,_,_,_,_,_⟩:=zf5 kL)))
  ·go_ret3
   exact ⟨z2,zB HB⟩
  ·go_ret3
   exact ⟨z2,zB HB⟩
  ·go_ret3
   exact ⟨z2,zB HB⟩
  ·go_ret3
   exact ⟨z2,zB HB⟩
  ·go_ret3
   exact ⟨z2,zB HB⟩
  ·go_ret3
   exact ⟨z2,zB HB⟩
  ·go_meet
   case rel=>exact ⟨_,H,⟨z5⟩,⟨zK iK⟩,⟨zK kL⟩,⟨zB HB⟩⟩
  ·go_meet
   case rel=>exact ⟨_,H,⟨z5⟩,⟨zK iK⟩,⟨zK kL⟩,⟨zB HB⟩⟩
  ·go_meet
   case rel=>exact ⟨_,H,⟨z5⟩,⟨zK iK⟩,⟨zK kL⟩,⟨zB HB⟩⟩
  ·go_meet
   case rel=>exact ⟨_,H,⟨z5⟩,⟨zK iK⟩,⟨zK kL⟩,⟨zB HB⟩⟩
  go_ret3
  exact ⟨z2,zB HB⟩
 case rest =>
  obtain ⟨kq,H,HJ3,iK,kL,HB⟩:=hcut
  obtain _|kj3:=kq
  ·exact zz H rfl
  simp only [fE.j0] at H
  replace H:=zo H
  obtain ⟨⟨arG,arH,aCz,aCA⟩,A67,H⟩:=H
  try dsimp only at H
  replace H:=zo H
  obtain ⟨⟨aCB,aCC,aCD⟩,A68,H⟩:=H
  try dsimp only at H
  have aCE:=lT.out
  have aCF:=lU.out
  obtain ⟨_,_,_,_,_,_,_,_,_,_,_,_⟩:=zf6 iK
  go_upto_if 106 with (first|((with_reducible refine af (f:=157) rfl ?_);refine lg (some 86) rfl rfl Tryz.func157 (by kernel_rfl) rfl #[.agg #[.int .u64 xO, .int .u64 BA], .int .i64 1] rfl (by (try simp only [List.map_toArray,List.map_cons,List.map_nil]);first|done|rfl|(simp only [List.length_drop,List.length_take];rfl)) ?_;(with_reducible refine (kU.calls kj3 xO BA 1 arG arH aCz aCA _ A67.out).mono ?_);rintro e w72 ⟨rfl,hb⟩;refine ⟨_,rfl,?_⟩;have n0_:=zKb iK hb;have n1_:=zKb kL hb;have n2_:=zBs HB hb;clear iK;clear kL;clear HB;have iK:=n0_;have kL:=n1_;have HB:=n2_;clear n0_ n1_ n2_;(try clear hb);(try clear hb2);(try clear hk);(try clear hi);(try simp only [ak,aj]))|((with_reducible refine ay (N:=9) rfl ?_);refine zx 9 211 #[.int .u64 0, .int .u64 0] ?_;intro adE hg w73 hbox hb;have n0_:=zKb iK hb;have n1_:=zKb kL hb;have n2_:=zBs HB hb;have n3_:=am (hbox);have n4_:=zG hg HB;have n5_:=zG hg HB;have n6_:=zNl hg iK;have n7_:=zNg hg iK;have n8_:=zNl hg kL;have n9_:=zNg hg kL;clear iK;clear kL;clear HB;have iK:=n0_;have kL:=n1_;have HB:=n2_;have lV:=n3_;have aCG:=n4_;have aCH:=n5_;have rq:=n6_;have ru:=n7_;have ry:=n8_;have rC:=n9_;clear n0_ n1_ n2_ n3_ n4_ n5_ n6_ n7_ n8_ n9_;clear hb hbox hg;have aCI:=ru.out;have aCJ:=rq.out;have aCK:=rC.out;have aCL:=ry.out;obtain ⟨_,_,_,_⟩:=zf2 lV;obtain ⟨_,_,_,_,_,_,_,_,_,_,_,_⟩:=zf6 iK)|((with_reducible refine af (f:=158) rfl ?_);refine lg (some 102) rfl rfl Tryz.func158 (by kernel_rfl) rfl #[.agg #[.int .u64 arG, .int .u64 arH], .int .u64 (IntKind.u64.wrap (Go.bits .and .i64 wC 3)), .int .i64 2, .bool AX] rfl (by (try simp only [List.map_toArray,List.map_cons,List.map_nil]);first|done|rfl|(simp only [List.length_drop,List.length_take];rfl)) ?_;(with_reducible refine (dR.calls arG arH (IntKind.u64.wrap (Go.bits .and .i64 wC 3)) 2 AX aCB aCC aCD _ A68.out).mono ?_);rintro e w78 ⟨rfl,hb⟩;refine ⟨_,rfl,?_⟩;have n0_:=zKb iK hb;have n1_:=zKb kL hb;have n2_:=am (bU (zKp lV) hb);have n3_:=zBs HB hb;clear iK;clear kL;clear lV;clear HB;have iK:=n0_;have kL:=n1_;have lV:=n2_;have HB:=n3_;clear n0_ n1_ n2_ n3_;(try clear hb);(try clear hb2);(try clear hk);(try clear hi);obtain ⟨_,_,_,_⟩:=zf2 lV))
  (try simp only [Act.put,List.setIfInBounds_toArray,List.set_cons_zero,List.set_cons_succ])
  go_cut [12] (fun v12 wc => ∃ (kq:Nat) (V3:Bool) (qO:Int) (Am:Int),v12 = .bool V3∧ae (fE.j3 kq a0 V3 qO Am=some (r1,r2,r3))∧ae (kq≤kj3)∧ae (wc.heap[Ze]? = some (.cells #[.int .i64 xU, .bool wR, .int .i64 wC, .int .u64 xO, .int .u64 BA, .bool AX] 81 (0,0)))∧ae (wc.heap[Zf]? = some (.cells #[.int .i64 akl, .int .u64 akm, .int .u64 akn, .int .u64 ako, .int .i64 akp] 223 (0,0)))∧ae (wc.heap[adE]? = some (.cells #[.int .u64 qO, .int .u64 Am] 211 (0,0)))∧ae (Below w.heap.size w wc))
  case first =>
   replace H:=zf H
   rcases H with ⟨V4,H⟩|⟨V4,H⟩
   (first|rw [V4]|(simp only [bI,dV];rw [V4])|rw [arI]|skip)
   replace H:=zo H
   obtain ⟨⟨aCM,aCN,aCO⟩,A81,H⟩:=H
   try dsimp only at H
   have aCP:=ru.out
   have aCQ:=rq.out
   have aCR:=rC.out
   have aCS:=ry.out
   obtain ⟨_,_,_,_⟩:=zf2 lV
   rotate_left
   (first|rw [V4]|(simp only [bI,dV];rw [V4])|rw [arI]|skip)
   replace H:=zo H
   obtain ⟨⟨aCT,aCU,aCV⟩,A94,H⟩:=H
   try dsimp only at H
   have aCW:=ru.out
   have aCX:=rq.out
   have aCY:=rC.out
   have aCZ:=ry.out
   obtain ⟨_,_,_,_⟩:=zf2 lV
   rotate_left
   all_goals (go_wp2_with (first|((with_reducible refine af (f:=158) rfl ?_);refine zc (some 110) Tryz.func158 _ (dR.calls _ _ _ _ _ _ _ _ _ A81.out) ?_;rintro e w85 ⟨rfl,hb⟩;refine ⟨_,rfl,?_⟩;replace iK:=zKb iK hb;replace kL:=zKb kL hb;replace lV:=am (bU (zKp lV) hb);replace HB:=zBs HB hb;clear hb;obtain ⟨_,_,_,_⟩:=zf2 lV)|((with_reducible refine af (f:=158) rfl ?_);refine zc (some 127) Tryz.func158 _ (dR.calls _ _ _ _ _ _ _ _ _ A94.out) ?_;rintro e w98 ⟨rfl,hb⟩;refine ⟨_,rfl,?_⟩;replace iK:=zKb iK hb;replace kL:=zKb kL hb;replace lV:=am (bU (zKp lV) hb);replace HB:=zBs HB hb;clear hb;obtain ⟨_,_,_,_⟩:=zf2 lV)))
   ·go_loopg [12,115] kj3 (fun kq v12 aC0 w' => ∃ (wB:Bool) (OH:Int) (oZ:Int) (o5:Int),v12 = .bool wB∧aC0 = .int .i64 OH∧ae (fE.l0 kq a0 wB (wrap64 ((wC / 4)+1)) OH oZ o5=some (r1,r2,r3))∧ae (kq≤kj3)∧ae (w'.heap[Ze]? = some (.cells #[.int .i64 xU, .bool wR, .int .i64 wC, .int .u64 xO, .int .u64 BA, .bool AX] 81 (0,0)))∧ae (w'.heap[Zf]? = some (.cells #[.int .i64 akl, .int .u64 akm, .int .u64 akn, .int .u64 ako, .int .i64 akp] 223 (0,0)))∧ae (w'.heap[adE]? = some (.cells #[.int .u64 oZ, .int .u64 o5] 211 (0,0)))∧ae (Below w.heap.size w w'))
    case atStart=>exact ⟨(aCO),(0),(aCM),(aCN),z1,z1,H,zL,⟨zK iK⟩,⟨zK kL⟩,⟨zKp lV⟩,⟨zB HB⟩⟩
    clear H
    obtain ⟨wB,OH,oZ,o5,rfl,rfl,H,HK2,iK,kL,lV,HB⟩:=hrel
    obtain _|k2:=gk
    ·exact zz H rfl
    simp only [fE.l0] at H
    replace H:=zsd H
    rcases H with ⟨arJ,H⟩|⟨arJ,H⟩
    replace H:=zo H
    obtain ⟨⟨aC1,aC2,aC3⟩,A88,H⟩:=H
    try dsimp only at H
    have aC4:=ru.out
    have aC5:=rq.out
    have aC6:=rC.out
    have aC7:=ry.out
    obtain ⟨_,_,_,_⟩:=zf2 lV
    rotate_left
    rotate_left
    all_goals (go_wp2_with (first|((with_reducible refine af (f:=158) rfl ?_);refine zc (some 120) Tryz.func158 _ (dR.calls _ _ _ _ _ _ _ _ _ A88.out) ?_;rintro e w92 ⟨rfl,hb⟩;refine ⟨_,rfl,?_⟩;replace iK:=zKb iK hb;replace kL:=zKb kL hb;replace lV:=zKb lV hb;replace HB:=zBs HB hb;clear hb;obtain ⟨_,_,_,_⟩:=zf2 lV)))
    ·go_roundg k2
     case measure=>have:=HJ3.out;have:=HK2.out;omega
     case rel=>exact ⟨(aC3),(wrap64 (OH+1)),(aC1),(aC2),z1,z1,H,⟨by have:=HJ3.out;have:=HK2.out;omega⟩,⟨zK iK⟩,⟨zK kL⟩,⟨zKp lV⟩,⟨zB HB⟩⟩
    go_meet
    case rel=>exact ⟨_,(wB),(oZ),(o5),z1,H,⟨by have:=HJ3.out;have:=HK2.out;first|omega|exact Nat.le_refl _⟩,⟨zK iK⟩,⟨zK kL⟩,⟨zK lV⟩,⟨zB HB⟩⟩
   go_loopg [12,132] kj3 (fun kq v12 aC8 w' => ∃ (wB:Bool) (OI:Int) (oZ:Int) (o5:Int),v12 = .bool wB∧aC8 = .int .i64 OI∧ae (fE.l1 kq a0 wB (wrap64 (-(wC / 4))) OI oZ o5=some (r1,r2,r3))∧ae (kq≤kj3)∧ae (w'.heap[Ze]? = some (.cells #[.int .i64 xU, .bool wR, .int .i64 wC, .int .u64 xO, .int .u64 BA, .bool AX] 81 (0,0)))∧ae (w'.heap[Zf]? = some (.cells #[.int .i64 akl, .int .u64 akm, .int .u64 akn, .int .u64 ako, .int .i64 akp] 223 (0,0)))∧ae (w'.heap[adE]? = some (.cells #[.int .u64 oZ, .int .u64 o5] 211 (0,0)))∧ae (Below w.heap.size w w'))
   case atStart=>exact ⟨(aCV),(0),(aCT),(aCU),z1,z1,H,zL,⟨zK iK⟩,⟨zK kL⟩,⟨zKp lV⟩,⟨zB HB⟩⟩
   clear H
   obtain ⟨wB,OI,oZ,o5,rfl,rfl,H,HK2,iK,kL,lV,HB⟩:=hrel
   obtain _|k2:=gk
   ·exact zz H rfl
   simp only [fE.l1] at H
   replace H:=zsd H
   rcases H with ⟨ai0,H⟩|⟨ai0,H⟩
   replace H:=zo H
   obtain ⟨⟨aC9,aDa,aDb⟩,aDc,H⟩:=H
   try dsimp only at H
   have avX:=ru.out
   have avY:=rq.out
   have avZ:=rC.out
   have av1:=ry.out
   obtain ⟨_,_,_,_⟩:=zf2 lV
   rotate_left
   rotate_left
   all_goals (go_wp2_with (first|((with_reducible refine af (f:=158) rfl ?_);refine zc (some 137) Tryz.func158 _ (dR.calls _ _ _ _ _ _ _ _ _ aDc.out) ?_;rintro e aIv ⟨rfl,hb⟩;refine ⟨_,rfl,?_⟩;replace iK:=zKb iK hb;replace kL:=zKb kL hb;replace lV:=zKb lV hb;replace HB:=zBs HB hb;clear hb;obtain ⟨_,_,_,_⟩:=zf2 lV)))
   ·go_roundg k2
    case measure=>have:=HJ3.out;have:=HK2.out;omega
    case rel=>exact ⟨(aDb),(wrap64 (OI+1)),(aC9),(aDa),z1,z1,H,⟨by have:=HJ3.out;have:=HK2.out;omega⟩,⟨zK iK⟩,⟨zK kL⟩,⟨zKp lV⟩,⟨zB HB⟩⟩
   go_meet
   case rel=>exact ⟨_,(wB),(oZ),(o5),z1,H,⟨by have:=HJ3.out;have:=HK2.out;first|omega|exact Nat.le_refl _⟩,⟨zK iK⟩,⟨zK kL⟩,⟨zK lV⟩,⟨zB HB⟩⟩
  case rest =>
   obtain ⟨kq,V3,qO,Am,rfl,H,aIw,iK,kL,lV,HB⟩:=hcut
   obtain _|aIx:=kq
   ·exact zz H rfl
   simp only [fE.j3] at H
   generalize aaf:(wrap64 (65 - a0):Int)=V5 at H
   have arK:(IntKind.i64.wrap (65 - a0))=V5:=(bI _).trans aaf
   replace H:=zit H
   obtain ⟨av2,av3,H⟩:=H
   generalize V6:(shr .u64 qO (V5):Int)=ai1 at H
   have arL:(qO / 2 ^ min (V5).toNat 64)=ai1:=V6
   have arM:(V5)≤64→(qO / 2 ^ (V5).toNat)=ai1:=jT V6
   replace H:=zo H
   obtain ⟨⟨aIy,aIz,aIA,aIB⟩,aDd,H⟩:=H
   try dsimp only at H
   replace H:=zsk H
   rcases H with ⟨ai2,ai3,H⟩|⟨ai2,ai3,aIC,H⟩
   replace H:=zo H
   obtain ⟨avT,aDe,H⟩:=H
   obtain ⟨rfl,rfl,rfl⟩:=zJ3 H
   have av4:=ru.out
   have av5:=rq.out
   have av6:=rC.out
   have av7:=ry.out
   obtain ⟨_,_,_,_⟩:=zf2 lV
   rotate_left
   replace H:=zo H
   obtain ⟨avU,aDf,H⟩:=H
   obtain ⟨rfl,rfl,rfl⟩:=zJ3 H
   have av8:=ru.out
   have av9:=rq.out
   have awc:=rC.out
   have awd:=ry.out
   obtain ⟨_,_,_,_⟩:=zf2 lV
   rotate_left
   all_goals (go_wp2_with (first|((with_reducible refine af (f:=157) rfl ?_);refine zc (some 150) Tryz.func157 _ (kU.calls _ _ _ _ _ _ _ _ _ aDd.out) ?_;rintro e aID ⟨rfl,hb⟩;refine ⟨_,rfl,?_⟩;replace iK:=zKb iK hb;replace kL:=zKb kL hb;replace lV:=zKb lV hb;replace HB:=zBs HB hb;clear hb;(try simp only [ak,aj]))|((with_reducible refine ay (N:=15) rfl ?_);refine zx 15 211 #[.int .u64 0, .int .u64 0] ?_;intro aDg hg aIE hbox hb;have arN:=am (hbox);have aDh:=zG hg HB;have aDi:=zG hg HB;replace HB:=zBs HB hb;have V7:=zNl hg iK;have V8:=zNg hg iK;replace iK:=zKb iK hb;have V9:=zNl hg kL;have We:=zNg hg kL;replace kL:=zKb kL hb;have Wh:=zNl hg lV;have Wi:=zNg hg lV;replace lV:=zKb lV hb;clear hb hbox hg;have awe:=V8.out;have awf:=V7.out;have awg:=We.out;have awh:=V9.out;have awi:=Wi.out;have awj:=Wh.out;obtain ⟨_,_,_,_⟩:=zf2 arN)|((with_reducible refine af (f:=159) rfl ?_);refine zc (some 161) Tryz.func159 _ (jQ.calls _ _ _ _ _ aDe.out) ?_;rintro e w' ⟨rfl,⟨nd,rfl⟩⟩;refine ⟨_,rfl,?_⟩)|((with_reducible refine af (f:=159) rfl ?_);refine zc (some 161) Tryz.func159 _ (jQ.calls _ _ _ _ _ aDf.out) ?_;rintro e w' ⟨rfl,⟨nd,rfl⟩⟩;refine ⟨_,rfl,?_⟩)))
   all_goals
    go_ret3
    exact ⟨by first|exact z3|(simp only [← aaf, ← V6];exact z3)|exact z2,zB HB⟩
def qV.f (k:Nat) (a0:Int) (xU:Int) (wR:Bool) (wC:Int) (xO:Int) (BA:Int) (AX:Bool):Option (Int × Option Int):=(fE.f k a0 xU wR wC xO BA AX).bind fun Ap=>(if Ap.2.2.isNone=true then (if Ap.2.1=2 then (if (Go.bits .and .u64 Ap.1 1)=0 then (if wR=true then ((eX.f a0 (IntKind.u64.wrap (-Ap.1))).bind fun ai4=>(some (ai4.1,ai4.2))) else ((eX.f a0 Ap.1).bind fun ai5=>(some (ai5.1,ai5.2)))) else (if wR=true then ((eX.f a0 (IntKind.u64.wrap (-(IntKind.u64.wrap (Ap.1+1))))).bind fun ai6=>(some (ai6.1,ai6.2))) else ((eX.f a0 (IntKind.u64.wrap (Ap.1+1))).bind fun ai7=>(some (ai7.1,ai7.2))))) else (if Ap.2.1=3 then (if wR=true then ((eX.f a0 (IntKind.u64.wrap (-(IntKind.u64.wrap (Ap.1+1))))).bind fun ai8=>(some (ai8.1,ai8.2))) else ((eX.f a0 (IntKind.u64.wrap (Ap.1+1))).bind fun ai9=>(some (ai9.1,ai9.2)))) else (if wR=true then ((eX.f a0 (IntKind.u64.wrap (-Ap.1))).bind fun aja=>(some (aja.1,aja.2))) else ((eX.f a0 Ap.1).bind fun ajb=>(some (ajb.1,ajb.2)))))) else (some (0,some (Ap.2.2.getD 0))))
theorem qV.calls (k:Nat) (a0:Int) (xU:Int) (wR:Bool) (wC:Int) (xO:Int) (BA:Int) (AX:Bool) (r1:Int) (r2:Option Int) (w:World) (h:qV.f k a0 xU wR wC xO BA AX=some (r1,r2)) :
    Calls Tryz.prog 44 #[.int .i64 a0, .agg #[.int .i64 xU, .bool wR, .int .i64 wC, .int .u64 xO, .int .u64 BA, .bool AX]] w fun e w'=>e = .returned (.tuple #[.int .u64 r1,qm r2])∧Below w.heap.size w w':=by
 have ad3:=Tryz.underlying81
 have yL:=Tryz.underlying27
 have hu64:=Tryz.underlying64
 have HB:=am (Below.refl w.heap.size w)
 have H:=am h
 unfold qV.f at H
 clear h
 replace H:=zo H
 obtain ⟨⟨aIF,aIG,aDj⟩,A3,H⟩:=H
 try dsimp only at H
 rcases aDj with _|aIH
 replace H:=zb1 H
 try simp only [ak,aj]
 replace H:=zsk H
 rcases H with ⟨kM,rY,H⟩|⟨kM,rY,c4,H⟩
 replace H:=zsk H
 rcases H with ⟨rG,xw,H⟩|⟨rG,xw,c5,H⟩
 cases wR
 replace H:=zb0 H
 replace H:=zo H
 obtain ⟨⟨aII,aIJ⟩,A12,H⟩:=H
 try dsimp only at H
 obtain ⟨rfl,rfl⟩:=zJ2 H
 rotate_left
 replace H:=zb1 H
 replace H:=zo H
 obtain ⟨⟨aIK,aIL⟩,A7,H⟩:=H
 try dsimp only at H
 obtain ⟨rfl,rfl⟩:=zJ2 H
 rotate_left
 cases wR
 replace H:=zb0 H
 replace H:=zo H
 obtain ⟨⟨aIM,aIN⟩,A23,H⟩:=H
 try dsimp only at H
 obtain ⟨rfl,rfl⟩:=zJ2 H
 rotate_left
 replace H:=zb1 H
 replace H:=zo H
 obtain ⟨⟨aIO,aIP⟩,A18,H⟩:=H
 try dsimp only at H
 obtain ⟨rfl,rfl⟩:=zJ2 H
 rotate_left
 replace H:=zsk H
 rcases H with ⟨xq,Yi,H⟩|⟨xq,Yi,c28,H⟩
 cases wR
 replace H:=zb0 H
 replace H:=zo H
 obtain ⟨⟨aIQ,aIR⟩,A35,H⟩:=H
 try dsimp only at H
 obtain ⟨rfl,rfl⟩:=zJ2 H
 rotate_left
 replace H:=zb1 H
 replace H:=zo H
 obtain ⟨⟨aIS,aIT⟩,A30,H⟩:=H
 try dsimp only at H
 obtain ⟨rfl,rfl⟩:=zJ2 H
 rotate_left
 cases wR
 replace H:=zb0 H
 replace H:=zo H
 obtain ⟨⟨aIU,aIV⟩,A46,H⟩:=H
 try dsimp only at H
 obtain ⟨rfl,rfl⟩:=zJ2 H
 rotate_left
 replace H:=zb1 H
 replace H:=zo H
 obtain ⟨⟨aIW,aIX⟩,A41,H⟩:=H
 try dsimp only at H
 obtain ⟨rfl,rfl⟩:=zJ2 H
 rotate_left
 replace H:=zb0 H
 try simp only [Option.getD_some] at H
 try simp only [ak,aj]
 obtain ⟨rfl,rfl⟩:=zJ2 H
 rotate_left
 all_goals (go_enter Tryz.func44,Tryz.ntmps44;go_wp2_with (first|((with_reducible refine ay (N:=3) rfl ?_);refine zx 3 81 #[.int .i64 xU, .bool false, .int .i64 wC, .int .u64 xO, .int .u64 BA, .bool AX] ?_;intro ajc hg w13 hbox hb;have JK:=am (hbox);have ajd:=zG hg HB;have aje:=zG hg HB;replace HB:=zBs HB hb;clear hb hbox hg;obtain ⟨_,_,_,_,_,_,_,_,_,_,_,_⟩:=zf6 JK)|((with_reducible refine af (f:=98) rfl ?_);refine zc (some 12) Tryz.func98 _ (fE.calls _ _ _ _ _ _ _ _ _ _ _ _ A3.out) ?_;rintro e w15 ⟨rfl,hb⟩;refine ⟨_,rfl,?_⟩;replace JK:=zKb JK hb;replace HB:=zBs HB hb;clear hb;(try simp only [ak,aj]);obtain ⟨_,_,_,_,_,_,_,_,_,_,_,_⟩:=zf6 JK)|((with_reducible refine af (f:=76) rfl ?_);refine zc (some 35) Tryz.func76 _ (eX.calls _ _ _ _ _ A12.out) ?_;rintro e w' ⟨rfl,⟨nd,rfl⟩⟩;refine ⟨_,rfl,?_⟩;(try simp only [ak,aj]))|((with_reducible refine ay (N:=3) rfl ?_);refine zx 3 81 #[.int .i64 xU, .bool true, .int .i64 wC, .int .u64 xO, .int .u64 BA, .bool AX] ?_;intro ajc hg w8 hbox hb;have JK:=am (hbox);have ajd:=zG hg HB;have aje:=zG hg HB;replace HB:=zBs HB hb;clear hb hbox hg;obtain ⟨_,_,_,_,_,_,_,_,_,_,_,_⟩:=zf6 JK)|((with_reducible refine af (f:=76) rfl ?_);refine zc (some 35) Tryz.func76 _ (eX.calls _ _ _ _ _ A7.out) ?_;rintro e w' ⟨rfl,⟨nd,rfl⟩⟩;refine ⟨_,rfl,?_⟩;(try simp only [ak,aj]))|((with_reducible refine af (f:=76) rfl ?_);refine zc (some 35) Tryz.func76 _ (eX.calls _ _ _ _ _ A23.out) ?_;rintro e w' ⟨rfl,⟨nd,rfl⟩⟩;refine ⟨_,rfl,?_⟩;(try simp only [ak,aj]))|((with_reducible refine af (f:=76) rfl ?_);refine zc (some 35) Tryz.func76 _ (eX.calls _ _ _ _ _ A18.out) ?_;rintro e w' ⟨rfl,⟨nd,rfl⟩⟩;refine ⟨_,rfl,?_⟩;(try simp only [ak,aj]))|((with_reducible refine af (f:=76) rfl ?_);refine zc (some 35) Tryz.func76 _ (eX.calls _ _ _ _ _ A35.out) ?_;rintro e w' ⟨rfl,⟨nd,rfl⟩⟩;refine ⟨_,rfl,?_⟩;(try simp only [ak,aj]))|((with_reducible refine af (f:=76) rfl ?_);refine zc (some 35) Tryz.func76 _ (eX.calls _ _ _ _ _ A30.out) ?_;rintro e w' ⟨rfl,⟨nd,rfl⟩⟩;refine ⟨_,rfl,?_⟩;(try simp only [ak,aj]))|((with_reducible refine af (f:=76) rfl ?_);refine zc (some 35) Tryz.func76 _ (eX.calls _ _ _ _ _ A46.out) ?_;rintro e w' ⟨rfl,⟨nd,rfl⟩⟩;refine ⟨_,rfl,?_⟩;(try simp only [ak,aj]))|((with_reducible refine af (f:=76) rfl ?_);refine zc (some 35) Tryz.func76 _ (eX.calls _ _ _ _ _ A41.out) ?_;rintro e w' ⟨rfl,⟨nd,rfl⟩⟩;refine ⟨_,rfl,?_⟩;(try simp only [ak,aj]))|((with_reducible refine ay (N:=3) rfl ?_);refine zx 3 81 #[.int .i64 xU, .bool wR, .int .i64 wC, .int .u64 xO, .int .u64 BA, .bool AX] ?_;intro ajc hg w51 hbox hb;have JK:=am (hbox);have ajd:=zG hg HB;have aje:=zG hg HB;replace HB:=zBs HB hb;clear hb hbox hg;obtain ⟨_,_,_,_,_,_,_,_,_,_,_,_⟩:=zf6 JK)))
 ·go_ret2
  exact ⟨z2,zB HB⟩
 ·go_ret2
  exact ⟨z2,zB HB⟩
 ·go_ret2
  exact ⟨z2,zB HB⟩
 ·go_ret2
  exact ⟨z2,zB HB⟩
 ·go_ret2
  exact ⟨z2,zB HB⟩
 ·go_ret2
  exact ⟨z2,zB HB⟩
 ·go_ret2
  exact ⟨z2,zB HB⟩
 ·go_ret2
  exact ⟨z2,zB HB⟩
 go_ret2
 exact ⟨z2,zB HB⟩
def qU.f (k:Nat) (a0:Int) (xU:Bool) (wR:Bool) (wC:ByteArray) (xO:Int):Option (Int × Option Int):=(bM.f k a0 0).bind fun ajf=>(if ajf.2.2.2.2.isNone=true then ((kF.f xU wR wC xO).bind fun JL=>(if JL.2.2.2.2.isNone=true then (if JL.1=true then (if 0≤(wrap64 (a0 - 1)) then (some (shl .u64 1 (wrap64 (a0 - 1)),none)) else (none)) else (if JL.2.2.1.toList=([48]:List UInt8) then (some (0,none)) else ((jv.f k JL.1 JL.2.1 JL.2.2.1 JL.2.2.2.1).bind fun JM=>(if JM.2.2.2.2.2.2.isNone=true then ((qV.f k a0 JM.1 JM.2.1 JM.2.2.1 JM.2.2.2.1 JM.2.2.2.2.1 JM.2.2.2.2.2.1).bind fun ajg=>(some (ajg.1,ajg.2))) else (some (0,some (JM.2.2.2.2.2.2.getD 0))))))) else (some (0,some (JL.2.2.2.2.getD 0))))) else (some (0,some (ajf.2.2.2.2.getD 0))))
theorem qU.calls (k:Nat) (a0:Int) (xU:Bool) (wR:Bool) (wC:ByteArray) (xO:Int) (r1:Int) (r2:Option Int) (w:World) (h:qU.f k a0 xU wR wC xO=some (r1,r2)) :
    Calls Tryz.prog 13 #[.int .i64 a0, .agg #[.bool xU, .bool wR, .string wC, .int .i64 xO]] w fun e w'=>e = .returned (.tuple #[.int .u64 r1,qm r2])∧Below w.heap.size w w':=by
 have Ql:=Tryz.underlying23
 have ad4:=Tryz.underlying77
 have ad3:=Tryz.underlying81
 have yL:=Tryz.underlying27
 have hu64:=Tryz.underlying64
 have HB:=am (Below.refl w.heap.size w)
 have H:=am h
 unfold qU.f at H
 clear h
 replace H:=zo H
 obtain ⟨⟨aIY,aIZ,aI0,aI1,aDk⟩,A3,H⟩:=H
 try dsimp only at H
 rcases aDk with _|aI2
 replace H:=zb1 H
 try simp only [ak,aj]
 replace H:=zo H
 obtain ⟨⟨aDl,aI3,aI4,aI5,aDm⟩,A4,H⟩:=H
 try dsimp only at H
 rcases aDm with _|aI6
 replace H:=zb1 H
 try simp only [ak,aj]
 cases aDl
 replace H:=zb0 H
 replace H:=zsk H
 rcases H with ⟨Dk,U8,H⟩|⟨Dk,U8,c17,H⟩
 obtain ⟨rfl,rfl⟩:=zJ2 H
 rotate_left
 replace H:=zo H
 obtain ⟨⟨aI7,aI8,aI9,aJa,aJb,aJc,aDn⟩,A26,H⟩:=H
 try dsimp only at H
 rcases aDn with _|aJd
 replace H:=zb1 H
 try simp only [ak,aj]
 replace H:=zo H
 obtain ⟨⟨aJe,aJf⟩,A27,H⟩:=H
 try dsimp only at H
 obtain ⟨rfl,rfl⟩:=zJ2 H
 rotate_left
 replace H:=zb0 H
 try simp only [Option.getD_some] at H
 try simp only [ak,aj]
 obtain ⟨rfl,rfl⟩:=zJ2 H
 rotate_left
 replace H:=zb1 H
 generalize uI:(wrap64 (a0 - 1):Int)=ji6 at H
 (try rw [uI] at A3)
 (try rw [uI] at A4)
 have UN:(IntKind.i64.wrap (a0 - 1))=ji6:=(bI _).trans uI
 replace H:=zit H
 obtain ⟨wQ,Bh,H⟩:=H
 generalize sV:(shl .u64 1 (ji6):Int)=ji8 at H
 (try rw [sV] at A3)
 (try rw [sV] at A4)
 have Qv:(IntKind.u64.wrap (1 * 2 ^ min (ji6).toNat 64))=ji8:=sV
 have YE:(ji6)≤64→(IntKind.u64.wrap (1 * 2 ^ (ji6).toNat))=ji8:=iR sV
 have aDo:(IntKind.u64.wrap (2 ^ min (ji6).toNat 64))=ji8:=by have h_:=Qv;rw [Int.one_mul] at h_;exact h_
 have aDp:(ji6)≤64→(IntKind.u64.wrap (2 ^ (ji6).toNat))=ji8:=fun acx=>by have h_:=YE acx;rw [Int.one_mul] at h_;exact h_
 obtain ⟨rfl,rfl⟩:=zJ2 H
 rotate_left
 replace H:=zb0 H
 try simp only [Option.getD_some] at H
 try simp only [ak,aj]
 obtain ⟨rfl,rfl⟩:=zJ2 H
 rotate_left
 replace H:=zb0 H
 try simp only [Option.getD_some] at H
 try simp only [ak,aj]
 obtain ⟨rfl,rfl⟩:=zJ2 H
 rotate_left
 all_goals (go_enter Tryz.func13,Tryz.ntmps13;go_wp2_with (first|((with_reducible refine ay (N:=3) rfl ?_);refine zx 3 23 #[.bool xU, .bool wR, .string wC, .int .i64 xO] ?_;intro aDq hg w28 hbox hb;have uX:=am (hbox);have aDr:=zG hg HB;have aDs:=zG hg HB;replace HB:=zBs HB hb;clear hb hbox hg)|((with_reducible refine af (f:=42) rfl ?_);refine zc (some 12) Tryz.func42 _ (bM.calls _ _ _ _ _ _ _ _ _ A3.out) ?_;rintro e w29 ⟨rfl,hb⟩;refine ⟨_,rfl,?_⟩;replace uX:=zKb uX hb;replace HB:=zBs HB hb;clear hb;(try simp only [ak,aj]))|((with_reducible refine ay (N:=6) rfl ?_);refine zx 6 77 #[.int .i64 0, .bool false, .int .i64 0, .int .u64 0] ?_;intro aDt hg w30 hbox hb;have D8:=am (hbox);have aDu:=zG hg HB;have aDv:=zG hg HB;replace HB:=zBs HB hb;have Wj:=zNl hg uX;have Wl:=zNg hg uX;replace uX:=zKb uX hb;clear hb hbox hg;have anl:=Wl.out;have anm:=Wj.out;obtain ⟨_,_,_,_,_,_,_,_⟩:=zf4 D8;obtain ⟨_,_,_,_,_,_,_,_⟩:=zf4 uX)|((with_reducible refine af (f:=26) rfl ?_);refine zc (some 20) Tryz.func26 _ (kF.calls _ _ _ _ _ _ _ _ _ _ A4.out) ?_;rintro e w34 ⟨rfl,hb⟩;refine ⟨_,rfl,?_⟩;replace uX:=zKb uX hb;replace D8:=am (bU (zKp D8) hb);replace HB:=zBs HB hb;clear hb;(try simp only [ak,aj]);obtain ⟨_,_,_,_,_,_,_,_⟩:=zf4 uX)|((with_reducible refine af (f:=43) rfl ?_);refine zc (some 39) Tryz.func43 _ (jv.calls _ _ _ _ _ _ _ _ _ _ _ _ _ A26.out) ?_;rintro e w36 ⟨rfl,hb⟩;refine ⟨_,rfl,?_⟩;replace uX:=am (bU (zKp uX) hb);replace D8:=zKb D8 hb;replace HB:=zBs HB hb;clear hb;(try simp only [ak,aj]))|((with_reducible refine ay (N:=9) rfl ?_);refine zx 9 81 #[.int .i64 0, .bool false, .int .i64 0, .int .u64 0, .int .u64 0, .bool false] ?_;intro aDw hg w37 hbox hb;have adF:=am (hbox);have aDx:=zG hg HB;have aDy:=zG hg HB;replace HB:=zBs HB hb;have Wn:=zNl hg uX;have Wp:=zNg hg uX;replace uX:=zKb uX hb;have Wq:=zNl hg D8;have Ws:=zNg hg D8;replace D8:=zKb D8 hb;clear hb hbox hg;have arO:=Wp.out;have arP:=Wn.out;have afE:=Ws.out;have afF:=Wq.out;obtain ⟨_,_,_,_,_,_,_,_,_,_,_,_⟩:=zf6 adF)|((with_reducible refine af (f:=44) rfl ?_);refine zc (some 47) Tryz.func44 _ (qV.calls _ _ _ _ _ _ _ _ _ _ _ A27.out) ?_;rintro e w41 ⟨rfl,hb⟩;refine ⟨_,rfl,?_⟩;replace uX:=zKb uX hb;replace D8:=zKb D8 hb;replace adF:=am (bU (zKp adF) hb);replace HB:=zBs HB hb;clear hb;(try simp only [ak,aj]))))
 ·go_ret2
  exact ⟨z2,zB HB⟩
 ·go_ret2
  exact ⟨z2,zB HB⟩
 ·go_ret2
  exact ⟨z2,zB HB⟩
 ·go_ret2
  exact ⟨by first|exact z3|(simp only [← uI, ← sV];exact z3)|exact z2,zB HB⟩
 ·go_ret2
  exact ⟨z2,zB HB⟩
 go_ret2
 exact ⟨z2,zB HB⟩
def pK.f (k:Nat) (a0:Int) (a1:ByteArray):Option (Int × Option Int):=(bM.f k a0 0).bind fun ajh=>(if ajh.2.2.2.2.isNone=true then ((vU.f a1).bind fun QQ=>(if QQ.2.2.2.2.isNone=true then ((qU.f k a0 QQ.1 QQ.2.1 QQ.2.2.1 QQ.2.2.2.1).bind fun aji=>(some (aji.1,aji.2))) else (some (0,some (QQ.2.2.2.2.getD 0))))) else (some (0,some (ajh.2.2.2.2.getD 0))))
theorem pK.calls (k:Nat) (a0:Int) (a1:ByteArray) (r1:Int) (r2:Option Int) (w:World) (h:pK.f k a0 a1=some (r1,r2)) :
    Calls Tryz.prog 24 #[.int .i64 a0, .string a1] w fun e w'=>e = .returned (.tuple #[.int .u64 r1,qm r2])∧Below w.heap.size w w':=by
 have ad4:=Tryz.underlying77
 have Ql:=Tryz.underlying23
 have yL:=Tryz.underlying27
 have hu64:=Tryz.underlying64
 have HB:=am (Below.refl w.heap.size w)
 have H:=am h
 unfold pK.f at H
 clear h
 replace H:=zo H
 obtain ⟨⟨aJi,aJj,aJk,aJl,aDD⟩,A3,H⟩:=H
 try dsimp only at H
 rcases aDD with _|aJm
 replace H:=zb1 H
 try simp only [ak,aj]
 replace H:=zo H
 obtain ⟨⟨aJn,aJo,aJp,aJq,aDE⟩,A4,H⟩:=H
 try dsimp only at H
 rcases aDE with _|aJr
 replace H:=zb1 H
 try simp only [ak,aj]
 replace H:=zo H
 obtain ⟨⟨aJs,aJt⟩,A5,H⟩:=H
 try dsimp only at H
 obtain ⟨rfl,rfl⟩:=zJ2 H
 rotate_left
 replace H:=zb0 H
 try simp only [Option.getD_some] at H
 try simp only [ak,aj]
 obtain ⟨rfl,rfl⟩:=zJ2 H
 rotate_left
 replace H:=zb0 H
 try simp only [Option.getD_some] at H
 try simp only [ak,aj]
 obtain ⟨rfl,rfl⟩:=zJ2 H
 rotate_left
 all_goals (go_enter Tryz.func24,Tryz.ntmps24;go_wp2_with (first|((with_reducible refine af (f:=42) rfl ?_);refine zc (some 12) Tryz.func42 _ (bM.calls _ _ _ _ _ _ _ _ _ A3.out) ?_;rintro e w6 ⟨rfl,hb⟩;refine ⟨_,rfl,?_⟩;replace HB:=zBs HB hb;clear hb;(try simp only [ak,aj]))|((with_reducible refine ay (N:=6) rfl ?_);refine zx 6 77 #[.int .i64 0, .bool false, .int .i64 0, .int .u64 0] ?_;intro aDF hg w7 hbox hb;have H9:=am (hbox);have aDG:=zG hg HB;have aDH:=zG hg HB;replace HB:=zBs HB hb;clear hb hbox hg;obtain ⟨_,_,_,_,_,_,_,_⟩:=zf4 H9)|((with_reducible refine af (f:=25) rfl ?_);refine zc (some 20) Tryz.func25 _ (vU.calls _ _ _ _ _ _ _ A4.out) ?_;rintro e w9 ⟨rfl,hb⟩;refine ⟨_,rfl,?_⟩;replace H9:=am (bU (zKp H9) hb);replace HB:=zBs HB hb;clear hb;(try simp only [ak,aj]))|((with_reducible refine ay (N:=8) rfl ?_);refine zx 8 23 #[.bool false, .bool false, .string (⟨#[]⟩:ByteArray), .int .i64 0] ?_;intro aDI hg w10 hbox hb;have adG:=am (hbox);have aDJ:=zG hg HB;have aDK:=zG hg HB;replace HB:=zBs HB hb;have Wu:=zNl hg H9;have Wv:=zNg hg H9;replace H9:=zKb H9 hb;clear hb hbox hg;have alk:=Wv.out;have alm:=Wu.out;obtain ⟨_,_,_,_,_,_,_,_⟩:=zf4 adG)|((with_reducible refine af (f:=13) rfl ?_);refine zc (some 28) Tryz.func13 _ (qU.calls _ _ _ _ _ _ _ _ _ A5.out) ?_;rintro e w13 ⟨rfl,hb⟩;refine ⟨_,rfl,?_⟩;replace H9:=zKb H9 hb;replace adG:=am (bU (zKp adG) hb);replace HB:=zBs HB hb;clear hb;(try simp only [ak,aj]))))
 ·go_ret2
  exact ⟨z2,zB HB⟩
 ·go_ret2
  exact ⟨z2,zB HB⟩
 go_ret2
 exact ⟨z2,zB HB⟩
end Go.Proofs.Yy.PTx
end
