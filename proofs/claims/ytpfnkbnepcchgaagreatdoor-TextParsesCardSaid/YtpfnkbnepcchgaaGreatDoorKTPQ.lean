/- Part 17. -/
import Derived.Laws.Bits64
import Derived.Test.YtpfnkbnepcchgaaGreatDoorKTPP
set_option linter.unusedSimpArgs false
set_option linter.unusedVariables false
section
set_option maxHeartbeats 8000000
set_option maxRecDepth 100000
namespace Go.Proofs.Yy.PTx
open Go.RowKit Go.Proofs.Yy.Z Go.Proofs.Yw.PrintWords Go.Proofs.Yw.PrintLast Go.Proofs.Yw.PrintMore
open Go.Proofs.Yy.M
attribute [local go_sem] dG dP kR kT kW kS
attribute [local go_sem] gI gG iP iR fF fG gW gV
mutual
def bJ.j0:Nat→Int→Int→Bool→Int→Int→Int→Bool→Option (Int × Int × Option Int)
  | 0,_,_,_,_,_,_,_=>none
  | k+1,x0,arX,arY,Iy,ael,aem,aen=>(jv.f k ael aem 1).bind fun ajX=>((cZ.f ajX.1 ajX.2.1 (IntKind.u64.wrap (Go.bits .and .i64 Iy 3)) 2 aen).bind fun Ql=>(if (Iy / 4)≥0 then ((cZ.f Ql.1 Ql.2.1 0 1 Ql.2.2).bind fun aeo=>(bJ.l0 k x0 aeo.2.2 (wrap64 ((Iy / 4)+1)) 0 aeo.1 aeo.2.1)) else ((cZ.f Ql.1 Ql.2.1 1 1 Ql.2.2).bind fun aep=>(bJ.l1 k x0 aep.2.2 (wrap64 (-(Iy / 4))) 0 aep.1 aep.2.1))))
def bJ.j3:Nat→Int→Bool→Int→Int→Option (Int × Int × Option Int)
  | 0,_,_,_,_=>none
  | k+1,x0,x12,uY,yu=>if 0≤(wrap64 (65-x0)) then ((jv.f k uY yu (wrap64 (x0-1))).bind fun aeq=>(if aeq.2.1=0 then ((gB.f k aeq.1 x12).bind fun axb=>(some (shr .u64 uY (wrap64 (65-x0)),axb,none))) else ((gB.f k aeq.1 true).bind fun axc=>(some (shr .u64 uY (wrap64 (65-x0)),axc,none))))) else (none)
def bJ.l0:Nat→Int→Bool→Int→Int→Int→Int→Option (Int × Int × Option Int)
  | 0,_,_,_,_,_,_=>none
  | k+1,x0,x12,x114,x115,uY,yu=>if x115<x114 then ((cZ.f uY yu 1 1 x12).bind fun aer=>(bJ.l0 k x0 aer.2.2 x114 (wrap64 (x115+1)) aer.1 aer.2.1)) else (bJ.j3 k x0 x12 uY yu)
def bJ.l1:Nat→Int→Bool→Int→Int→Int→Int→Option (Int × Int × Option Int)
  | 0,_,_,_,_,_,_=>none
  | k+1,x0,x12,axd,axe,uY,yu=>if axe<axd then ((cZ.f uY yu 0 1 x12).bind fun aes=>(bJ.l1 k x0 aes.2.2 axd (wrap64 (axe+1)) aes.1 aes.2.1)) else (bJ.j3 k x0 x12 uY yu)
end
def bJ.f (k:Nat)(a0:Int)(mG:Int)(lU:Bool)(lX:Int)(l9:Int)(oP:Int)(oK:Bool):Option (Int × Int × Option Int):=(xk.f a0).bind fun Kr=>(if Kr.2.2.2.2.2.isNone=true then ((fA.f k mG lU lX l9 oP oK).bind fun arZ=>(if arZ=true then (if mG=0 then (some (0,0,none)) else (if mG=2 then (some (Kr.2.2.2.1,0,none)) else (if lX≥Kr.2.2.2.2.1 then (some (Kr.2.1,0,none)) else (if lX<(wrap64 (-Kr.2.2.2.2.1)) then (some (Kr.2.2.1,0,none)) else (if lX=(wrap64 (-Kr.2.2.2.2.1)) then (if l9=9223372036854775808 then (if oP=0 then (if oK=true then (bJ.j0 k a0 mG lU lX l9 oP oK) else (some (Kr.2.2.1,0,none))) else (bJ.j0 k a0 mG lU lX l9 oP oK)) else (bJ.j0 k a0 mG lU lX l9 oP oK)) else (bJ.j0 k a0 mG lU lX l9 oP oK)))))) else (none))) else (none))
theorem bJ.calls (k:Nat)(a0:Int)(mG:Int)(lU:Bool)(lX:Int)(l9:Int)(oP:Int)(oK:Bool)(r1:Int)(r2:Int)(r3:Option Int)(w:World)(h:bJ.f k a0 mG lU lX l9 oP oK=some (r1,r2,r3)) :
    Calls Tryz.prog 98 #[.int .i64 a0,.agg #[.int .i64 mG,.bool lU,.int .i64 lX,.int .u64 l9,.int .u64 oP,.bool oK]] w fun e w'=>e=.returned (.tuple #[.int .u64 r1,.int .i64 r2,rF r3])∧Below w.heap.size w w':=by
 have Vb:=Tryz.underlying81;have arl:=Tryz.underlying223;have J4:=Tryz.underlying211;have yB:=Tryz.underlying27;have hu64:=Tryz.underlying64;have HB:=am (Below.refl w.heap.size w);have H:=am h;unfold bJ.f at H;clear h;replace H:=zo H;obtain⟨⟨alK,alL,alM,alN,alO,aJF⟩,A3,H⟩:=H
 try dsimp only at H
 go_enter Tryz.func98,Tryz.ntmps98
 go_upto_block 0 with (first|((with_reducible refine aI (N:=3) rfl ?_);refine zx 3 81 #[.int .i64 mG,.bool lU,.int .i64 lX,.int .u64 l9,.int .u64 oP,.bool oK] ?_;intro Y5 hg w5 hbox hb;have je:=am (hbox);have aDw:=zG hg HB;have aDx:=zG hg HB;replace HB:=zBs HB hb;clear hb hbox hg)|((with_reducible refine af (f:=155) rfl ?_);refine zc (some 20) Tryz.func155 _ (xk.calls _ _ _ _ _ _ _ _ A3.out) ?_;rintro e w6 ⟨rfl,hb⟩;refine⟨_,rfl,?_⟩;replace je:=zKb je hb;replace HB:=zBs HB hb;clear hb;(try simp only[au,ax]))|((with_reducible refine aI (N:=7) rfl ?_);refine zx 7 223 #[.int .i64 0,.int .u64 0,.int .u64 0,.int .u64 0,.int .i64 0] ?_;intro Y6 hg w7 hbox hb;have lq:=am (hbox);have aDy:=zG hg HB;have aDz:=zG hg HB;replace HB:=zBs HB hb;have nz:=zNl hg je;have nC:=zNg hg je;replace je:=zKb je hb;clear hb hbox hg;have aJG:=nC.out;have aJH:=nz.out;obtain⟨_,_,_,_,_,_,_,_,_,_⟩:=zf5 lq))
 (try simp only[Act.put,List.setIfInBounds_toArray,List.set_cons_zero,List.set_cons_succ])
 go_cut [] (fun wc => ∃ (kq:Nat),ae (bJ.j0 kq a0 mG lU lX l9 oP oK=some (r1,r2,r3))∧ae (kq≤k)∧ae (wc.heap[Y5]? = some (.cells #[.int .i64 mG,.bool lU,.int .i64 lX,.int .u64 l9,.int .u64 oP,.bool oK] 81 (0,0)))∧ae (wc.heap[Y6]? = some (.cells #[.int .i64 alK,.int .u64 alL,.int .u64 alM,.int .u64 alN,.int .i64 alO] 223 (0,0)))∧ae (Below w.heap.size w wc))
 case first =>
  replace H:=zIn H;obtain⟨rfl,H⟩:=H
  try simp only[au,ax]
  replace H:=zo H;obtain⟨arZ,A10,H⟩:=H
  cases arZ
  ·replace H:=zb0 H
   exact zn H
  replace H:=zb1 H;replace H:=zsk H;rcases H with⟨qO,xY,H⟩|⟨qO,xY,c12,H⟩
  (first|rw[qO]|(simp only[cu,fQ];rw[qO])|rw[xY]|skip)
  obtain⟨rfl,rfl,rfl⟩:=zJ3 H;have arA:=nz.out;have arB:=nC.out;obtain⟨_,_,_,_,_,_,_,_,_,_,_,_⟩:=zf6 je;rotate_left
  (first|rw[qO]|(simp only[cu,fQ];rw[qO])|rw[xY]|skip)
  replace H:=zsk H;rcases H with⟨wE,LK,H⟩|⟨wE,LK,c17,H⟩;obtain⟨rfl,rfl,rfl⟩:=zJ3 H;have aDA:=nz.out;have aDB:=nC.out;obtain⟨_,_,_,_,_,_,_,_,_,_,_,_⟩:=zf6 je;rotate_left;replace H:=yH H;rcases H with⟨LP,H⟩|⟨LP,H⟩;obtain⟨rfl,rfl,rfl⟩:=zJ3 H;have agR:=nz.out;have agS:=nC.out;obtain⟨_,_,_,_,_,_,_,_,_,_,_,_⟩:=zf6 je;rotate_left;replace H:=zsd H;rcases H with⟨EU,H⟩|⟨EU,H⟩;obtain⟨rfl,rfl,rfl⟩:=zJ3 H;have arL:=nz.out;have arM:=nC.out;obtain⟨_,_,_,_,_,_,_,_,_,_,_,_⟩:=zf6 je;rotate_left;replace H:=zsk H;rcases H with⟨JZ,adg,H⟩|⟨JZ,adg,c35,H⟩;replace H:=zsk H;rcases H with⟨UX,ajY,H⟩|⟨UX,ajY,c36,H⟩;replace H:=zsk H;rcases H with⟨L9,ar0,H⟩|⟨L9,ar0,c37,H⟩
  cases oK
  replace H:=zb0 H;obtain⟨rfl,rfl,rfl⟩:=zJ3 H;have aop:=nz.out;have aoq:=nC.out;obtain⟨_,_,_,_,_,_,_,_,_,_,_,_⟩:=zf6 je;rotate_left;replace H:=zb1 H;have ahW:=nz.out;have ahX:=nC.out;obtain⟨_,_,_,_,_,_,_,_,_,_,_,_⟩:=zf6 je;rotate_left;have aDC:=nz.out;have aDD:=nC.out;obtain⟨_,_,_,_,_,_,_,_,_,_,_,_⟩:=zf6 je;rotate_left;have aDE:=nz.out;have aDF:=nC.out;obtain⟨_,_,_,_,_,_,_,_,_,_,_,_⟩:=zf6 je;rotate_left;have aDG:=nz.out;have aDH:=nC.out;obtain⟨_,_,_,_,_,_,_,_,_,_,_,_⟩:=zf6 je;rotate_left
  all_goals (go_wp2_with (first|((with_reducible refine af (f:=156) rfl ?_);refine zc (some 29) Tryz.func156 _ (fA.calls _ _ _ _ _ _ _ _ _ A10.out) ?_;rintro e w15 ⟨rfl,hb⟩;refine⟨_,rfl,?_⟩;replace je:=zKb je hb;replace lq:=am (dW (zKp lq) hb);replace HB:=zBs HB hb;clear hb;obtain⟨_,_,_,_,_,_,_,_,_,_,_,_⟩:=zf6 je;obtain⟨_,_,_,_,_,_,_,_,_,_⟩:=zf5 lq)))
  ·go_ret3
   exact⟨z2,zB HB⟩
  ·go_ret3
   exact⟨z2,zB HB⟩
  ·go_ret3
   exact⟨z2,zB HB⟩
  ·go_ret3
   exact⟨z2,zB HB⟩
  ·go_ret3
   exact⟨z2,zB HB⟩
  ·go_meet
   case rel=>exact⟨_,H,⟨z5⟩,⟨zK je⟩,⟨zK lq⟩,⟨zB HB⟩⟩
  ·go_meet
   case rel=>exact⟨_,H,⟨z5⟩,⟨zK je⟩,⟨zK lq⟩,⟨zB HB⟩⟩
  ·go_meet
   case rel=>exact⟨_,H,⟨z5⟩,⟨zK je⟩,⟨zK lq⟩,⟨zB HB⟩⟩
  go_meet
  case rel=>exact⟨_,H,⟨z5⟩,⟨zK je⟩,⟨zK lq⟩,⟨zB HB⟩⟩
 case rest =>
  obtain⟨kq,H,HJ3,je,lq,HB⟩:=hcut;obtain _|kj3:=kq
  ·exact zz H rfl
  simp only[bJ.j0]at H;replace H:=zo H;obtain⟨⟨ar1,ar2,aDI,aDJ⟩,A64,H⟩:=H
  try dsimp only at H
  replace H:=zo H;obtain⟨⟨aDK,aDL,aDM⟩,A65,H⟩:=H
  try dsimp only at H
  have aDN:=nz.out;have aDO:=nC.out;obtain⟨_,_,_,_,_,_,_,_,_,_,_,_⟩:=zf6 je
  go_upto_if 106 with (first|((with_reducible refine af (f:=157) rfl ?_);refine jS (some 86) rfl rfl Tryz.func157 (by kernel_rfl) rfl #[.agg #[.int .u64 l9,.int .u64 oP],.int .i64 1] rfl (by (try simp only[List.map_toArray,List.map_cons,List.map_nil]);first|done|rfl|(simp only[List.length_drop,List.length_take];rfl)) ?_;(with_reducible refine (jv.calls kj3 l9 oP 1 ar1 ar2 aDI aDJ _ A64.out).mono ?_);rintro e w69 ⟨rfl,hb⟩;refine⟨_,rfl,?_⟩;have n0_:=zKb je hb;have n1_:=zKb lq hb;have n2_:=zBs HB hb;clear je;clear lq;clear HB;have je:=n0_;have lq:=n1_;have HB:=n2_;clear n0_ n1_ n2_;(try clear hb);(try clear hb2);(try clear hk);(try clear hi);(try simp only[au,ax]))|((with_reducible refine aI (N:=9) rfl ?_);refine zx 9 211 #[.int .u64 0,.int .u64 0] ?_;intro aet hg w70 hbox hb;have n0_:=zKb je hb;have n1_:=zKb lq hb;have n2_:=zBs HB hb;have n3_:=am (hbox);have n4_:=zG hg HB;have n5_:=zG hg HB;have n6_:=zNl hg je;have n7_:=zNg hg je;have n8_:=zNl hg lq;have n9_:=zNg hg lq;clear je;clear lq;clear HB;have je:=n0_;have lq:=n1_;have HB:=n2_;have lV:=n3_;have aDP:=n4_;have aDQ:=n5_;have sG:=n6_;have sH:=n7_;have sJ:=n8_;have sK:=n9_;clear n0_ n1_ n2_ n3_ n4_ n5_ n6_ n7_ n8_ n9_;clear hb hbox hg;have aDR:=sH.out;have aDS:=sG.out;have aDT:=sK.out;have aDU:=sJ.out;obtain⟨_,_,_,_⟩:=zf2 lV;obtain⟨_,_,_,_,_,_,_,_,_,_,_,_⟩:=zf6 je)|((with_reducible refine af (f:=158) rfl ?_);refine jS (some 102) rfl rfl Tryz.func158 (by kernel_rfl) rfl #[.agg #[.int .u64 ar1,.int .u64 ar2],.int .u64 (IntKind.u64.wrap (Go.bits .and .i64 lX 3)),.int .i64 2,.bool oK] rfl (by (try simp only[List.map_toArray,List.map_cons,List.map_nil]);first|done|rfl|(simp only[List.length_drop,List.length_take];rfl)) ?_;(with_reducible refine (cZ.calls ar1 ar2 (IntKind.u64.wrap (Go.bits .and .i64 lX 3)) 2 oK aDK aDL aDM _ A65.out).mono ?_);rintro e w75 ⟨rfl,hb⟩;refine⟨_,rfl,?_⟩;have n0_:=zKb je hb;have n1_:=zKb lq hb;have n2_:=am (dW (zKp lV) hb);have n3_:=zBs HB hb;clear je;clear lq;clear lV;clear HB;have je:=n0_;have lq:=n1_;have lV:=n2_;have HB:=n3_;clear n0_ n1_ n2_ n3_;(try clear hb);(try clear hb2);(try clear hk);(try clear hi);obtain⟨_,_,_,_⟩:=zf2 lV))
  (try simp only[Act.put,List.setIfInBounds_toArray,List.set_cons_zero,List.set_cons_succ])
  go_cut [12] (fun v12 wc => ∃ (kq:Nat) (VG:Bool) (rJ:Int) (AB:Int),v12=.bool VG∧ae (bJ.j3 kq a0 VG rJ AB=some (r1,r2,r3))∧ae (kq≤kj3)∧ae (wc.heap[Y5]? = some (.cells #[.int .i64 mG,.bool lU,.int .i64 lX,.int .u64 l9,.int .u64 oP,.bool oK] 81 (0,0)))∧ae (wc.heap[Y6]? = some (.cells #[.int .i64 alK,.int .u64 alL,.int .u64 alM,.int .u64 alN,.int .i64 alO] 223 (0,0)))∧ae (wc.heap[aet]? = some (.cells #[.int .u64 rJ,.int .u64 AB] 211 (0,0)))∧ae (Below w.heap.size w wc))
  case first =>
   replace H:=yH H;rcases H with⟨VH,H⟩|⟨VH,H⟩
   (first|rw[VH]|(simp only[cu,fQ];rw[VH])|rw[ar4]|skip)
   replace H:=zo H;obtain⟨⟨aDV,aDW,aDX⟩,A78,H⟩:=H
   try dsimp only at H
   have aDY:=sH.out;have aDZ:=sG.out;have aD0:=sK.out;have aD1:=sJ.out;obtain⟨_,_,_,_⟩:=zf2 lV;rotate_left
   (first|rw[VH]|(simp only[cu,fQ];rw[VH])|rw[ar4]|skip)
   replace H:=zo H;obtain⟨⟨aD2,aD3,aD4⟩,A91,H⟩:=H
   try dsimp only at H
   have aD5:=sH.out;have aD6:=sG.out;have aD7:=sK.out;have aD8:=sJ.out;obtain⟨_,_,_,_⟩:=zf2 lV;rotate_left
   all_goals (go_wp2_with (first|((with_reducible refine af (f:=158) rfl ?_);refine zc (some 110) Tryz.func158 _ (cZ.calls _ _ _ _ _ _ _ _ _ A78.out) ?_;rintro e w82 ⟨rfl,hb⟩;refine⟨_,rfl,?_⟩;replace je:=zKb je hb;replace lq:=zKb lq hb;replace lV:=am (dW (zKp lV) hb);replace HB:=zBs HB hb;clear hb;obtain⟨_,_,_,_⟩:=zf2 lV)|((with_reducible refine af (f:=158) rfl ?_);refine zc (some 127) Tryz.func158 _ (cZ.calls _ _ _ _ _ _ _ _ _ A91.out) ?_;rintro e w95 ⟨rfl,hb⟩;refine⟨_,rfl,?_⟩;replace je:=zKb je hb;replace lq:=zKb lq hb;replace lV:=am (dW (zKp lV) hb);replace HB:=zBs HB hb;clear hb;obtain⟨_,_,_,_⟩:=zf2 lV)))
   ·go_loopg [12,115] kj3 (fun kq v12 aD9 w' => ∃ (wH:Bool) (OI:Int) (pU:Int) (pV:Int),v12=.bool wH∧aD9=.int .i64 OI∧ae (bJ.l0 kq a0 wH (wrap64 ((lX / 4)+1)) OI pU pV=some (r1,r2,r3))∧ae (kq≤kj3)∧ae (w'.heap[Y5]? = some (.cells #[.int .i64 mG,.bool lU,.int .i64 lX,.int .u64 l9,.int .u64 oP,.bool oK] 81 (0,0)))∧ae (w'.heap[Y6]? = some (.cells #[.int .i64 alK,.int .u64 alL,.int .u64 alM,.int .u64 alN,.int .i64 alO] 223 (0,0)))∧ae (w'.heap[aet]? = some (.cells #[.int .u64 pU,.int .u64 pV] 211 (0,0)))∧ae (Below w.heap.size w w'))
    case atStart=>exact⟨(aDX),(0),(aDV),(aDW),z1,z1,H,zL,⟨zK je⟩,⟨zK lq⟩,⟨zKp lV⟩,⟨zB HB⟩⟩
    clear H;obtain⟨wH,OI,pU,pV,rfl,rfl,H,HK2,je,lq,lV,HB⟩:=hrel;obtain _|k2:=gk
    ·exact zz H rfl
    simp only[bJ.l0]at H;replace H:=zsd H;rcases H with⟨ar5,H⟩|⟨ar5,H⟩;replace H:=zo H;obtain⟨⟨aEa,aEb,aEc⟩,A85,H⟩:=H
    try dsimp only at H
    have aEd:=sH.out;have aEe:=sG.out;have aEf:=sK.out;have aEg:=sJ.out;obtain⟨_,_,_,_⟩:=zf2 lV;rotate_left;rotate_left
    all_goals (go_wp2_with (first|((with_reducible refine af (f:=158) rfl ?_);refine zc (some 120) Tryz.func158 _ (cZ.calls _ _ _ _ _ _ _ _ _ A85.out) ?_;rintro e w89 ⟨rfl,hb⟩;refine⟨_,rfl,?_⟩;replace je:=zKb je hb;replace lq:=zKb lq hb;replace lV:=zKb lV hb;replace HB:=zBs HB hb;clear hb;obtain⟨_,_,_,_⟩:=zf2 lV)))
    ·go_roundg k2
     case measure=>have:=HJ3.out;have:=HK2.out;omega
     case rel=>exact⟨(aEc),(wrap64 (OI+1)),(aEa),(aEb),z1,z1,H,⟨by have:=HJ3.out;have:=HK2.out;omega⟩,⟨zK je⟩,⟨zK lq⟩,⟨zKp lV⟩,⟨zB HB⟩⟩
    go_meet
    case rel=>exact⟨_,(wH),(pU),(pV),z1,H,⟨by have:=HJ3.out;have:=HK2.out;first|omega|exact Nat.le_refl _⟩,⟨zK je⟩,⟨zK lq⟩,⟨zK lV⟩,⟨zB HB⟩⟩
   go_loopg [12,132] kj3 (fun kq v12 aEh w' => ∃ (wH:Bool) (OJ:Int) (pU:Int) (pV:Int),v12=.bool wH∧aEh=.int .i64 OJ∧ae (bJ.l1 kq a0 wH (wrap64 (-(lX / 4))) OJ pU pV=some (r1,r2,r3))∧ae (kq≤kj3)∧ae (w'.heap[Y5]? = some (.cells #[.int .i64 mG,.bool lU,.int .i64 lX,.int .u64 l9,.int .u64 oP,.bool oK] 81 (0,0)))∧ae (w'.heap[Y6]? = some (.cells #[.int .i64 alK,.int .u64 alL,.int .u64 alM,.int .u64 alN,.int .i64 alO] 223 (0,0)))∧ae (w'.heap[aet]? = some (.cells #[.int .u64 pU,.int .u64 pV] 211 (0,0)))∧ae (Below w.heap.size w w'))
   case atStart=>exact⟨(aD4),(0),(aD2),(aD3),z1,z1,H,zL,⟨zK je⟩,⟨zK lq⟩,⟨zKp lV⟩,⟨zB HB⟩⟩
   clear H;obtain⟨wH,OJ,pU,pV,rfl,rfl,H,HK2,je,lq,lV,HB⟩:=hrel;obtain _|k2:=gk
   ·exact zz H rfl
   simp only[bJ.l1]at H;replace H:=zsd H;rcases H with⟨ar6,H⟩|⟨ar6,H⟩;replace H:=zo H;obtain⟨⟨aEi,aEj,aEk⟩,A98,H⟩:=H
   try dsimp only at H
   have aEl:=sH.out;have aEm:=sG.out;have axf:=sK.out;have axg:=sJ.out;obtain⟨_,_,_,_⟩:=zf2 lV;rotate_left;rotate_left
   all_goals (go_wp2_with (first|((with_reducible refine af (f:=158) rfl ?_);refine zc (some 137) Tryz.func158 _ (cZ.calls _ _ _ _ _ _ _ _ _ A98.out) ?_;rintro e aJI ⟨rfl,hb⟩;refine⟨_,rfl,?_⟩;replace je:=zKb je hb;replace lq:=zKb lq hb;replace lV:=zKb lV hb;replace HB:=zBs HB hb;clear hb;obtain⟨_,_,_,_⟩:=zf2 lV)))
   ·go_roundg k2
    case measure=>have:=HJ3.out;have:=HK2.out;omega
    case rel=>exact⟨(aEk),(wrap64 (OJ+1)),(aEi),(aEj),z1,z1,H,⟨by have:=HJ3.out;have:=HK2.out;omega⟩,⟨zK je⟩,⟨zK lq⟩,⟨zKp lV⟩,⟨zB HB⟩⟩
   go_meet
   case rel=>exact⟨_,(wH),(pU),(pV),z1,H,⟨by have:=HJ3.out;have:=HK2.out;first|omega|exact Nat.le_refl _⟩,⟨zK je⟩,⟨zK lq⟩,⟨zK lV⟩,⟨zB HB⟩⟩
  case rest =>
   obtain⟨kq,VG,rJ,AB,rfl,H,aJJ,je,lq,lV,HB⟩:=hcut;obtain _|aJK:=kq
   ·exact zz H rfl
   simp only[bJ.j3]at H;generalize aat:(wrap64 (65-a0):Int)=VI at H;have ar7:(IntKind.i64.wrap (65-a0))=VI:=(cu _).trans aat;replace H:=zit H;obtain⟨axh,axi,H⟩:=H;generalize VJ:(shr .u64 rJ (VI):Int)=ajZ at H;have ar8:(rJ / 2 ^ min (VI).toNat 64)=ajZ:=VJ;have ar9:(VI)≤64→(rJ / 2 ^ (VI).toNat)=ajZ:=kE VJ;replace H:=zo H;obtain⟨⟨aJL,aJM,aJN,aJO⟩,aEn,H⟩:=H
   try dsimp only at H
   replace H:=zsk H;rcases H with⟨aj0,aj1,H⟩|⟨aj0,aj1,aJP,H⟩;replace H:=zo H;obtain⟨axb,aEo,H⟩:=H;obtain⟨rfl,rfl,rfl⟩:=zJ3 H;have axj:=sH.out;have axk:=sG.out;have axl:=sK.out;have axm:=sJ.out;obtain⟨_,_,_,_⟩:=zf2 lV;rotate_left;replace H:=zo H;obtain⟨axc,aEp,H⟩:=H;obtain⟨rfl,rfl,rfl⟩:=zJ3 H;have axn:=sH.out;have axo:=sG.out;have axp:=sK.out;have axq:=sJ.out;obtain⟨_,_,_,_⟩:=zf2 lV;rotate_left
   all_goals (go_wp2_with (first|((with_reducible refine af (f:=157) rfl ?_);refine zc (some 150) Tryz.func157 _ (jv.calls _ _ _ _ _ _ _ _ _ aEn.out) ?_;rintro e aJQ ⟨rfl,hb⟩;refine⟨_,rfl,?_⟩;replace je:=zKb je hb;replace lq:=zKb lq hb;replace lV:=zKb lV hb;replace HB:=zBs HB hb;clear hb;(try simp only[au,ax]))|((with_reducible refine aI (N:=15) rfl ?_);refine zx 15 211 #[.int .u64 0,.int .u64 0] ?_;intro aEq hg aJR hbox hb;have asa:=am (hbox);have aEr:=zG hg HB;have aEs:=zG hg HB;replace HB:=zBs HB hb;have VK:=zNl hg je;have VL:=zNg hg je;replace je:=zKb je hb;have VM:=zNl hg lq;have VN:=zNg hg lq;replace lq:=zKb lq hb;have VO:=zNl hg lV;have VP:=zNg hg lV;replace lV:=zKb lV hb;clear hb hbox hg;have axr:=VL.out;have axs:=VK.out;have axt:=VN.out;have axu:=VM.out;have axv:=VP.out;have axw:=VO.out;obtain⟨_,_,_,_⟩:=zf2 asa)|((with_reducible refine af (f:=159) rfl ?_);refine zc (some 161) Tryz.func159 _ (gB.calls _ _ _ _ _ aEo.out) ?_;rintro e w' ⟨rfl,⟨nd,rfl⟩⟩;refine⟨_,rfl,?_⟩)|((with_reducible refine af (f:=159) rfl ?_);refine zc (some 161) Tryz.func159 _ (gB.calls _ _ _ _ _ aEp.out) ?_;rintro e w' ⟨rfl,⟨nd,rfl⟩⟩;refine⟨_,rfl,?_⟩)))
   all_goals
    go_ret3
    exact⟨by first|exact z3|(simp only[← aat, ← VJ];exact z3)|exact z2,zB HB⟩
def kF.f (k:Nat)(a0:Int)(mG:Int)(lU:Bool)(lX:Int)(l9:Int)(oP:Int)(oK:Bool):Option (Int × Option Int):=(bJ.f k a0 mG lU lX l9 oP oK).bind fun BG=>(if BG.2.2.isNone=true then (if BG.2.1=2 then (if (Go.bits .and .u64 BG.1 1)=0 then (if lU=true then ((fD.f a0 (IntKind.u64.wrap (-BG.1))).bind fun aj2=>(some (aj2.1,aj2.2))) else ((fD.f a0 BG.1).bind fun aj3=>(some (aj3.1,aj3.2)))) else (if lU=true then ((fD.f a0 (IntKind.u64.wrap (-(IntKind.u64.wrap (BG.1+1))))).bind fun aj6=>(some (aj6.1,aj6.2))) else ((fD.f a0 (IntKind.u64.wrap (BG.1+1))).bind fun aj7=>(some (aj7.1,aj7.2))))) else (if BG.2.1=3 then (if lU=true then ((fD.f a0 (IntKind.u64.wrap (-(IntKind.u64.wrap (BG.1+1))))).bind fun aj8=>(some (aj8.1,aj8.2))) else ((fD.f a0 (IntKind.u64.wrap (BG.1+1))).bind fun aj9=>(some (aj9.1,aj9.2)))) else (if lU=true then ((fD.f a0 (IntKind.u64.wrap (-BG.1))).bind fun aka=>(some (aka.1,aka.2))) else ((fD.f a0 BG.1).bind fun akb=>(some (akb.1,akb.2)))))) else (none))
theorem kF.calls (k:Nat)(a0:Int)(mG:Int)(lU:Bool)(lX:Int)(l9:Int)(oP:Int)(oK:Bool)(r1:Int)(r2:Option Int)(w:World)(h:kF.f k a0 mG lU lX l9 oP oK=some (r1,r2)) :
    Calls Tryz.prog 44 #[.int .i64 a0,.agg #[.int .i64 mG,.bool lU,.int .i64 lX,.int .u64 l9,.int .u64 oP,.bool oK]] w fun e w'=>e=.returned (.tuple #[.int .u64 r1,rF r2])∧Below w.heap.size w w':=by
 have Vb:=Tryz.underlying81;have yB:=Tryz.underlying27;have hu64:=Tryz.underlying64;have HB:=am (Below.refl w.heap.size w);have H:=am h;unfold kF.f at H;clear h;replace H:=zo H;obtain⟨⟨aJS,aJT,aJU⟩,A3,H⟩:=H
 try dsimp only at H
 replace H:=zIn H;obtain⟨rfl,H⟩:=H
 try simp only[au,ax]
 replace H:=zsk H;rcases H with⟨jP,sQ,H⟩|⟨jP,sQ,c4,H⟩;replace H:=zsk H;rcases H with⟨qg,xy,H⟩|⟨qg,xy,c5,H⟩
 cases lU
 replace H:=zb0 H;replace H:=zo H;obtain⟨⟨aJV,aJW⟩,A12,H⟩:=H
 try dsimp only at H
 obtain⟨rfl,rfl⟩:=zJ2 H;rotate_left;replace H:=zb1 H;replace H:=zo H;obtain⟨⟨aJX,aJY⟩,A7,H⟩:=H
 try dsimp only at H
 obtain⟨rfl,rfl⟩:=zJ2 H;rotate_left
 cases lU
 replace H:=zb0 H;replace H:=zo H;obtain⟨⟨aJZ,aJ0⟩,A23,H⟩:=H
 try dsimp only at H
 obtain⟨rfl,rfl⟩:=zJ2 H;rotate_left;replace H:=zb1 H;replace H:=zo H;obtain⟨⟨aJ1,aJ2⟩,A18,H⟩:=H
 try dsimp only at H
 obtain⟨rfl,rfl⟩:=zJ2 H;rotate_left;replace H:=zsk H;rcases H with⟨zq,ac1,H⟩|⟨zq,ac1,c28,H⟩
 cases lU
 replace H:=zb0 H;replace H:=zo H;obtain⟨⟨aJ3,aJ4⟩,A35,H⟩:=H
 try dsimp only at H
 obtain⟨rfl,rfl⟩:=zJ2 H;rotate_left;replace H:=zb1 H;replace H:=zo H;obtain⟨⟨aJ5,aJ6⟩,A30,H⟩:=H
 try dsimp only at H
 obtain⟨rfl,rfl⟩:=zJ2 H;rotate_left
 cases lU
 replace H:=zb0 H;replace H:=zo H;obtain⟨⟨aJ7,aJ8⟩,A46,H⟩:=H
 try dsimp only at H
 obtain⟨rfl,rfl⟩:=zJ2 H;rotate_left;replace H:=zb1 H;replace H:=zo H;obtain⟨⟨aJ9,aKa⟩,A41,H⟩:=H
 try dsimp only at H
 obtain⟨rfl,rfl⟩:=zJ2 H;rotate_left
 all_goals (go_enter Tryz.func44,Tryz.ntmps44;go_wp2_with (first|((with_reducible refine aI (N:=3) rfl ?_);refine zx 3 81 #[.int .i64 mG,.bool false,.int .i64 lX,.int .u64 l9,.int .u64 oP,.bool oK] ?_;intro asb hg w13 hbox hb;have Qm:=am (hbox);have asc:=zG hg HB;have ase:=zG hg HB;replace HB:=zBs HB hb;clear hb hbox hg;obtain⟨_,_,_,_,_,_,_,_,_,_,_,_⟩:=zf6 Qm)|((with_reducible refine af (f:=98) rfl ?_);refine zc (some 12) Tryz.func98 _ (bJ.calls _ _ _ _ _ _ _ _ _ _ _ _ A3.out) ?_;rintro e w15 ⟨rfl,hb⟩;refine⟨_,rfl,?_⟩;replace Qm:=zKb Qm hb;replace HB:=zBs HB hb;clear hb;(try simp only[au,ax]);obtain⟨_,_,_,_,_,_,_,_,_,_,_,_⟩:=zf6 Qm)|((with_reducible refine af (f:=76) rfl ?_);refine zc (some 35) Tryz.func76 _ (fD.calls _ _ _ _ _ A12.out) ?_;rintro e w' ⟨rfl,⟨nd,rfl⟩⟩;refine⟨_,rfl,?_⟩;(try simp only[au,ax]))|((with_reducible refine aI (N:=3) rfl ?_);refine zx 3 81 #[.int .i64 mG,.bool true,.int .i64 lX,.int .u64 l9,.int .u64 oP,.bool oK] ?_;intro asb hg w8 hbox hb;have Qm:=am (hbox);have asc:=zG hg HB;have ase:=zG hg HB;replace HB:=zBs HB hb;clear hb hbox hg;obtain⟨_,_,_,_,_,_,_,_,_,_,_,_⟩:=zf6 Qm)|((with_reducible refine af (f:=76) rfl ?_);refine zc (some 35) Tryz.func76 _ (fD.calls _ _ _ _ _ A7.out) ?_;rintro e w' ⟨rfl,⟨nd,rfl⟩⟩;refine⟨_,rfl,?_⟩;(try simp only[au,ax]))|((with_reducible refine af (f:=76) rfl ?_);refine zc (some 35) Tryz.func76 _ (fD.calls _ _ _ _ _ A23.out) ?_;rintro e w' ⟨rfl,⟨nd,rfl⟩⟩;refine⟨_,rfl,?_⟩;(try simp only[au,ax]))|((with_reducible refine af (f:=76) rfl ?_);refine zc (some 35) Tryz.func76 _ (fD.calls _ _ _ _ _ A18.out) ?_;rintro e w' ⟨rfl,⟨nd,rfl⟩⟩;refine⟨_,rfl,?_⟩;(try simp only[au,ax]))|((with_reducible refine af (f:=76) rfl ?_);refine zc (some 35) Tryz.func76 _ (fD.calls _ _ _ _ _ A35.out) ?_;rintro e w' ⟨rfl,⟨nd,rfl⟩⟩;refine⟨_,rfl,?_⟩;(try simp only[au,ax]))|((with_reducible refine af (f:=76) rfl ?_);refine zc (some 35) Tryz.func76 _ (fD.calls _ _ _ _ _ A30.out) ?_;rintro e w' ⟨rfl,⟨nd,rfl⟩⟩;refine⟨_,rfl,?_⟩;(try simp only[au,ax]))|((with_reducible refine af (f:=76) rfl ?_);refine zc (some 35) Tryz.func76 _ (fD.calls _ _ _ _ _ A46.out) ?_;rintro e w' ⟨rfl,⟨nd,rfl⟩⟩;refine⟨_,rfl,?_⟩;(try simp only[au,ax]))|((with_reducible refine af (f:=76) rfl ?_);refine zc (some 35) Tryz.func76 _ (fD.calls _ _ _ _ _ A41.out) ?_;rintro e w' ⟨rfl,⟨nd,rfl⟩⟩;refine⟨_,rfl,?_⟩;(try simp only[au,ax]))))
 ·go_ret2
  exact⟨z2,zB HB⟩
 ·go_ret2
  exact⟨z2,zB HB⟩
 ·go_ret2
  exact⟨z2,zB HB⟩
 ·go_ret2
  exact⟨z2,zB HB⟩
 ·go_ret2
  exact⟨z2,zB HB⟩
 ·go_ret2
  exact⟨z2,zB HB⟩
 ·go_ret2
  exact⟨z2,zB HB⟩
 go_ret2
 exact⟨z2,zB HB⟩
def o9.f (k:Nat)(a0:Int)(mG:Bool)(lU:Bool)(lX:ByteArray)(l9:Int):Option (Int × Option Int):=(dS.f k a0 0).bind fun akc=>(if akc.2.2.2.2.isNone=true then ((lJ.f mG lU lX l9).bind fun wK=>(if wK.2.2.2.2.isNone=true then (if wK.1=true then (if 0≤(wrap64 (a0-1)) then (some (shl .u64 1 (wrap64 (a0-1)),none)) else (none)) else (if wK.2.2.1.toList=([48]:List UInt8) then (some (0,none)) else ((ik.f k wK.1 wK.2.1 wK.2.2.1 wK.2.2.2.1).bind fun yw=>(if yw.2.2.2.2.2.2.isNone=true then ((kF.f k a0 yw.1 yw.2.1 yw.2.2.1 yw.2.2.2.1 yw.2.2.2.2.1 yw.2.2.2.2.2.1).bind fun VQ=>(some (VQ.1,VQ.2))) else (none))))) else (some (0,some (wK.2.2.2.2.getD 0))))) else (some (0,some (akc.2.2.2.2.getD 0))))
theorem o9.calls (k:Nat)(a0:Int)(mG:Bool)(lU:Bool)(lX:ByteArray)(l9:Int)(r1:Int)(r2:Option Int)(w:World)(h:o9.f k a0 mG lU lX l9=some (r1,r2)) :
    Calls Tryz.prog 13 #[.int .i64 a0,.agg #[.bool mG,.bool lU,.string lX,.int .i64 l9]] w fun e w'=>e=.returned (.tuple #[.int .u64 r1,rF r2])∧Below w.heap.size w w':=by
 have PS:=Tryz.underlying23;have alh:=Tryz.underlying77;have Vb:=Tryz.underlying81;have yB:=Tryz.underlying27;have hu64:=Tryz.underlying64;have HB:=am (Below.refl w.heap.size w);have H:=am h;unfold o9.f at H;clear h;replace H:=zo H;obtain⟨⟨aKb,aKc,aKd,aKe,aEt⟩,A3,H⟩:=H
 try dsimp only at H
 rcases aEt with _|aKf;replace H:=zb1 H
 try simp only[au,ax]
 replace H:=zo H;obtain⟨⟨aEu,aKg,aKh,aKi,aEv⟩,A4,H⟩:=H
 try dsimp only at H
 rcases aEv with _|aKj;replace H:=zb1 H
 try simp only[au,ax]
 cases aEu
 replace H:=zb0 H;replace H:=zsk H;rcases H with⟨wE,LK,H⟩|⟨wE,LK,c17,H⟩;obtain⟨rfl,rfl⟩:=zJ2 H;rotate_left;replace H:=zo H;obtain⟨⟨aKk,aKl,aKm,aKn,aKo,aKp,aKq⟩,A26,H⟩:=H
 try dsimp only at H
 replace H:=zIn H;obtain⟨rfl,H⟩:=H
 try simp only[au,ax]
 replace H:=zo H;obtain⟨⟨aKr,aKs⟩,A27,H⟩:=H
 try dsimp only at H
 obtain⟨rfl,rfl⟩:=zJ2 H;rotate_left;replace H:=zb1 H;generalize uQ:(wrap64 (a0-1):Int)=ji6 at H
 (try rw[uQ]at A3)
 (try rw[uQ]at A4)
 have Uw:(IntKind.i64.wrap (a0-1))=ji6:=(cu _).trans uQ;replace H:=zit H;obtain⟨wz,Bi,H⟩:=H;generalize uh:(shl .u64 1 (ji6):Int)=ji8 at H
 (try rw[uh]at A3)
 (try rw[uh]at A4)
 have Ux:(IntKind.u64.wrap (1*2 ^ min (ji6).toNat 64))=ji8:=uh;have Uy:(ji6)≤64→(IntKind.u64.wrap (1*2 ^ (ji6).toNat))=ji8:=iW uh
 have aEw:(IntKind.u64.wrap (2 ^ min (ji6).toNat 64))=ji8:=by have h_:=Ux;rw[Int.one_mul]at h_;exact h_
 have aEx:(ji6)≤64→(IntKind.u64.wrap (2 ^ (ji6).toNat))=ji8:=fun acK=>by have h_:=Uy acK;rw[Int.one_mul]at h_;exact h_
 obtain⟨rfl,rfl⟩:=zJ2 H;rotate_left;replace H:=zb0 H
 try simp only[Option.getD_some]at H
 try simp only[au,ax]
 obtain⟨rfl,rfl⟩:=zJ2 H;rotate_left;replace H:=zb0 H
 try simp only[Option.getD_some]at H
 try simp only[au,ax]
 obtain⟨rfl,rfl⟩:=zJ2 H;rotate_left
 all_goals (go_enter Tryz.func13,Tryz.ntmps13;go_wp2_with (first|((with_reducible refine aI (N:=3) rfl ?_);refine zx 3 23 #[.bool mG,.bool lU,.string lX,.int .i64 l9] ?_;intro aEy hg w28 hbox hb;have vF:=am (hbox);have aEz:=zG hg HB;have aEA:=zG hg HB;replace HB:=zBs HB hb;clear hb hbox hg)|((with_reducible refine af (f:=42) rfl ?_);refine zc (some 12) Tryz.func42 _ (dS.calls _ _ _ _ _ _ _ _ _ A3.out) ?_;rintro e w29 ⟨rfl,hb⟩;refine⟨_,rfl,?_⟩;replace vF:=zKb vF hb;replace HB:=zBs HB hb;clear hb;(try simp only[au,ax]))|((with_reducible refine aI (N:=6) rfl ?_);refine zx 6 77 #[.int .i64 0,.bool false,.int .i64 0,.int .u64 0] ?_;intro aEB hg w30 hbox hb;have Ej:=am (hbox);have aEC:=zG hg HB;have aED:=zG hg HB;replace HB:=zBs HB hb;have VR:=zNl hg vF;have VS:=zNg hg vF;replace vF:=zKb vF hb;clear hb hbox hg;have arN:=VS.out;have arO:=VR.out;obtain⟨_,_,_,_,_,_,_,_⟩:=zf4 Ej;obtain⟨_,_,_,_,_,_,_,_⟩:=zf4 vF)|((with_reducible refine af (f:=26) rfl ?_);refine zc (some 20) Tryz.func26 _ (lJ.calls _ _ _ _ _ _ _ _ _ _ A4.out) ?_;rintro e w34 ⟨rfl,hb⟩;refine⟨_,rfl,?_⟩;replace vF:=zKb vF hb;replace Ej:=am (dW (zKp Ej) hb);replace HB:=zBs HB hb;clear hb;(try simp only[au,ax]);obtain⟨_,_,_,_,_,_,_,_⟩:=zf4 vF)|((with_reducible refine af (f:=43) rfl ?_);refine zc (some 39) Tryz.func43 _ (ik.calls _ _ _ _ _ _ _ _ _ _ _ _ _ A26.out) ?_;rintro e w36 ⟨rfl,hb⟩;refine⟨_,rfl,?_⟩;replace vF:=am (dW (zKp vF) hb);replace Ej:=zKb Ej hb;replace HB:=zBs HB hb;clear hb;(try simp only[au,ax]))|((with_reducible refine aI (N:=9) rfl ?_);refine zx 9 81 #[.int .i64 0,.bool false,.int .i64 0,.int .u64 0,.int .u64 0,.bool false] ?_;intro aEE hg w37 hbox hb;have aeu:=am (hbox);have aEF:=zG hg HB;have aEG:=zG hg HB;replace HB:=zBs HB hb;have VT:=zNl hg vF;have VU:=zNg hg vF;replace vF:=zKb vF hb;have VV:=zNl hg Ej;have VW:=zNg hg Ej;replace Ej:=zKb Ej hb;clear hb hbox hg;have aEH:=VU.out;have aEI:=VT.out;have ahW:=VW.out;have ahX:=VV.out;obtain⟨_,_,_,_,_,_,_,_,_,_,_,_⟩:=zf6 aeu)|((with_reducible refine af (f:=44) rfl ?_);refine zc (some 47) Tryz.func44 _ (kF.calls _ _ _ _ _ _ _ _ _ _ _ A27.out) ?_;rintro e w41 ⟨rfl,hb⟩;refine⟨_,rfl,?_⟩;replace vF:=zKb vF hb;replace Ej:=zKb Ej hb;replace aeu:=am (dW (zKp aeu) hb);replace HB:=zBs HB hb;clear hb;(try simp only[au,ax]))))
 ·go_ret2
  exact⟨z2,zB HB⟩
 ·go_ret2
  exact⟨z2,zB HB⟩
 ·go_ret2
  exact⟨by first|exact z3|(simp only[← uQ, ← uh];exact z3)|exact z2,zB HB⟩
 ·go_ret2
  exact⟨z2,zB HB⟩
 go_ret2
 exact⟨z2,zB HB⟩
end Go.Proofs.Yy.PTx
end
section
namespace Go.Proofs.Yy.PTx
open Go.RowKit Go.Proofs.Yw.PrintWords Go.Proofs.Yw.PrintLast Go.Proofs.Yw.PrintMore Go.Proofs.Yy.M Go.Proofs.Yy.TA
theorem qh {x:Int}(h0 : -9223372036854775808≤x)(h1:x≤9223372036854775807):wrap64 x=x:=by unfold wrap64;omega
theorem p64:(2:Nat) ^ 64=18446744073709551616:=rfl
theorem al7:(2:Nat) ^ 128=2 ^ 64*2 ^ 64:=rfl
theorem xK (x k:Nat):shl .u64 (x:Int) (k:Int)=((x*2 ^ k % 2 ^ 64:Nat):Int):=by
 unfold shl;rw[IntKind.wrap_u64,Int.toNat_natCast]
 by_cases h:k≤64
 ·rw[show min k IntKind.u64.bits=k from Nat.min_eq_left h,p64,Int.natCast_emod,Int.natCast_mul,Int.natCast_pow];rfl
 ·rw[show min k IntKind.u64.bits=64 from Nat.min_eq_right (by show 64≤k;omega)]
  have e1:x*2 ^ k % 2 ^ 64=0:=by
   rw[show k=(k-64)+64 by omega,Nat.pow_add, ← Nat.mul_assoc,Nat.mul_mod_left]
  rw[e1]
  have:(x:Int)*2 ^ 64 % 18446744073709551616=0:=by omega
  rw[this];rfl
theorem Ac (x k:Nat)(h:x<2 ^ 64):shr .u64 (x:Int) (k:Int)=((x / 2 ^ k:Nat):Int):=by
 unfold shr;rw[Int.toNat_natCast]
 by_cases h1:k≤64
 ·rw[show min k IntKind.u64.bits=k from Nat.min_eq_left h1,Int.natCast_ediv,Int.natCast_pow];rfl
 ·rw[show min k IntKind.u64.bits=64 from Nat.min_eq_right (by show 64≤k;omega)]
  have e1:x / 2 ^ k=0:=Nat.div_eq_of_lt (Nat.lt_of_lt_of_le h (Nat.pow_le_pow_right (by omega) (by omega)));rw[e1];rw[p64]at h
  omega
theorem afW (a b k:Nat)(hb:b<2 ^ k)(h:a*2 ^ k+b<2 ^ 64):Go.bits .or .u64 ((a*2 ^ k:Nat):Int) (b:Int)=((a*2 ^ k+b:Nat):Int):=by
 rw[p64]at h;rw[bits_or_u64_nat _ _ (by omega) (by omega)]
 congr 1
 rw[Nat.mul_comm a,Nat.two_pow_add_eq_or_of_lt hb]
theorem SA (a b k:Nat)(hb:b<2 ^ k)(h:a*2 ^ k+b<2 ^ 64):Go.bits .or .u64 (b:Int) ((a*2 ^ k:Nat):Int)=((a*2 ^ k+b:Nat):Int):=by
 rw[p64]at h;rw[bits_or_u64_nat _ _ (by omega) (by omega),Nat.or_comm]
 congr 1
 rw[Nat.mul_comm a,Nat.two_pow_add_eq_or_of_lt hb]
theorem Tt (p n:Nat)(hp:p<2 ^ 64)(hn:n≤64):Go.bits .and .u64 (p:Int) ((2 ^ n-1:Nat):Int)=((p % 2 ^ n:Nat):Int):=by
 have h1:2 ^ n≤2 ^ 64:=Nat.pow_le_pow_right (by omega) hn;have h0:=Nat.two_pow_pos n;rw[p64]at h1 hp;rw[bits_and_u64_nat _ _ (by omega) (by omega),Nat.and_two_pow_sub_one_eq_mod]
def hiI (V:Nat):Int:=((V / 2 ^ 64:Nat):Int)
def loI (V:Nat):Int:=((V % 2 ^ 64:Nat):Int)
theorem G6 {V:Nat}(h:V<2 ^ 128):V / 2 ^ 64<2 ^ 64∧V % 2 ^ 64<2 ^ 64:=⟨by rw[Nat.div_lt_iff_lt_mul (Nat.two_pow_pos _), ← al7];exact h,Nat.mod_lt _ (Nat.two_pow_pos _)⟩
theorem rf (V k:Nat)(hV:V<2 ^ 128)(hk:k≤128):jD.f (hiI V) (loI V) (k:Int)=some (hiI (V*2 ^ k % 2 ^ 128),loI (V*2 ^ k % 2 ^ 128)):=by
 have hd:=Nat.div_add_mod V (2 ^ 64)
 obtain⟨h,hh⟩:∃ h,V / 2 ^ 64=h:=⟨_,rfl⟩
 obtain⟨l,hl⟩:∃ l,V % 2 ^ 64=l:=⟨_,rfl⟩
 have hb:=G6 hV;rw[hh,hl]at hb hd;obtain⟨hb1,hb2⟩:=hb
 have e1:V*2 ^ k % 2 ^ 128 % 2 ^ 64=l*2 ^ k % 2 ^ 64:=by
  rw[al7,Nat.mod_mul_right_mod, ← hd,Nat.add_mul,Nat.mul_assoc,Nat.mul_add_mod]
 have e2:V*2 ^ k % 2 ^ 128 / 2 ^ 64=(h*2 ^ k+l*2 ^ k / 2 ^ 64) % 2 ^ 64:=by
  rw[al7,Nat.mod_mul_right_div_self, ← hd,Nat.add_mul,Nat.mul_assoc,Nat.mul_add_div (Nat.two_pow_pos _)]
 unfold jD.f hiI loI;rw[hh,hl,e1,e2]
 by_cases hc:64≤k
 ·rw[if_pos (by omega),qh (by omega) (by omega),if_pos (by omega),show ((k:Int)-64)=((k-64:Nat):Int) by omega,xK]
  have a1:l*2 ^ k=l*2 ^ (k-64)*2 ^ 64:=by rw[Nat.mul_assoc, ← Nat.pow_add];congr 2;omega
  have a2:h*2 ^ k=h*2 ^ (k-64)*2 ^ 64:=by rw[Nat.mul_assoc, ← Nat.pow_add];congr 2;omega
  rw[a1,a2,Nat.mul_mod_left,Nat.mul_div_cancel _ (Nat.two_pow_pos _),Nat.mul_comm (h*2 ^ (k-64)),Nat.mul_add_mod]
  rfl
 ·rw[if_neg (by omega),if_pos (by omega),qh (by omega) (by omega),if_pos (by omega),show (64-(k:Int))=((64-k:Nat):Int) by omega,xK,xK,Ac _ _ hb2]
  have a1:l*2 ^ k / 2 ^ 64=l / 2 ^ (64-k):=by
   rw[show (2:Nat) ^ 64=2 ^ (64-k)*2 ^ k by rw[← Nat.pow_add];congr 1;omega,Nat.mul_div_mul_right _ _ (Nat.two_pow_pos _)]
  have a2:h*2 ^ k % 2 ^ 64=h % 2 ^ (64-k)*2 ^ k:=by
   rw[show (2:Nat) ^ 64=2 ^ (64-k)*2 ^ k by rw[← Nat.pow_add];congr 1;omega,Nat.mul_mod_mul_right]
  have a3:l / 2 ^ (64-k)<2 ^ k:=by
   rw[Nat.div_lt_iff_lt_mul (Nat.two_pow_pos _), ← Nat.pow_add,show k+(64-k)=64 by omega];exact hb2
  have a4:h % 2 ^ (64-k)*2 ^ k+l / 2 ^ (64-k)<2 ^ 64:=by
   have:h % 2 ^ (64-k)<2 ^ (64-k):=Nat.mod_lt _ (Nat.two_pow_pos _);have h3:(h % 2 ^ (64-k)+1)*2 ^ k≤2 ^ (64-k)*2 ^ k:=Nat.mul_le_mul_right _ this;rw[← Nat.pow_add,show 64-k+k=64 by omega,Nat.add_mul]at h3
   omega
  rw[a1,a2,afW _ _ _ a3 a4]
  have a5:(h*2 ^ k+l / 2 ^ (64-k)) % 2 ^ 64=h % 2 ^ (64-k)*2 ^ k+l / 2 ^ (64-k):=by
   rw[Nat.add_mod,a2,Nat.mod_eq_of_lt (a:=l / 2 ^ (64-k)) (by omega),Nat.mod_eq_of_lt a4]
  rw[a5]
theorem GM (V k:Nat)(hV:V<2 ^ 128)(hk:k≤128):lG.f (hiI V) (loI V) (k:Int)=some (hiI (V / 2 ^ k),loI (V / 2 ^ k)):=by
 have hd:=Nat.div_add_mod V (2 ^ 64)
 obtain⟨h,hh⟩:∃ h,V / 2 ^ 64=h:=⟨_,rfl⟩
 obtain⟨l,hl⟩:∃ l,V % 2 ^ 64=l:=⟨_,rfl⟩
 have hb:=G6 hV
 have e0:V / 2 ^ k / 2 ^ 64=h / 2 ^ k:=by rw[← hh,Nat.div_div_eq_div_mul,Nat.mul_comm, ← Nat.div_div_eq_div_mul]
 rw[hh,hl]at hb hd;obtain⟨hb1,hb2⟩:=hb;unfold lG.f hiI loI;rw[hh,hl,e0]
 by_cases hc:64≤k
 ·rw[if_pos (by omega),qh (by omega) (by omega),if_pos (by omega),show ((k:Int)-64)=((k-64:Nat):Int) by omega,Ac _ _ hb1]
  have a1:V / 2 ^ k=h / 2 ^ (k-64):=by rw[← hh,Nat.div_div_eq_div_mul, ← Nat.pow_add];congr 2;omega
  have a2:h / 2 ^ k=0:=Nat.div_eq_of_lt (Nat.lt_of_lt_of_le hb1 (Nat.pow_le_pow_right (by omega) hc));have a3:h / 2 ^ (k-64)<2 ^ 64:=Nat.lt_of_le_of_lt (Nat.div_le_self _ _) hb1;rw[a1,a2,Nat.mod_eq_of_lt a3];rfl
 ·rw[if_neg (by omega),if_pos (by omega),qh (by omega) (by omega),if_pos (by omega),show (64-(k:Int))=((64-k:Nat):Int) by omega,Ac _ _ hb1,Ac _ _ hb2,xK]
  have a2:h*2 ^ (64-k) % 2 ^ 64=h % 2 ^ k*2 ^ (64-k):=by
   rw[show (2:Nat) ^ 64=2 ^ k*2 ^ (64-k) by rw[← Nat.pow_add];congr 1;omega,Nat.mul_mod_mul_right]
  have a3:l / 2 ^ k<2 ^ (64-k):=by
   rw[Nat.div_lt_iff_lt_mul (Nat.two_pow_pos _), ← Nat.pow_add,show 64-k+k=64 by omega];exact hb2
  have a4:h % 2 ^ k*2 ^ (64-k)+l / 2 ^ k<2 ^ 64:=by
   have:h % 2 ^ k<2 ^ k:=Nat.mod_lt _ (Nat.two_pow_pos _);have h3:(h % 2 ^ k+1)*2 ^ (64-k)≤2 ^ k*2 ^ (64-k):=Nat.mul_le_mul_right _ this;rw[← Nat.pow_add,show k+(64-k)=64 by omega,Nat.add_mul]at h3
   omega
  have a5:V / 2 ^ k % 2 ^ 64=h % 2 ^ k*2 ^ (64-k)+l / 2 ^ k:=by
   have b1:V / 2 ^ k=h*2 ^ (64-k)+l / 2 ^ k:=by
    rw[← hd,show (2:Nat) ^ 64=2 ^ k*2 ^ (64-k) by rw[← Nat.pow_add];congr 1;omega,Nat.mul_assoc,Nat.mul_add_div (Nat.two_pow_pos _),Nat.mul_comm h]
   rw[b1,Nat.add_mod,a2,Nat.mod_eq_of_lt (a:=l / 2 ^ k) (by omega),Nat.mod_eq_of_lt a4]
  rw[a2,SA _ _ _ a3 a4,a5]
theorem RH {V W:Nat}:(hiI V=hiI W∧loI V=loI W) ↔ V=W:=by
 constructor
 ·rintro⟨h1,h2⟩
  unfold hiI at h1;unfold loI at h2;have a:=Nat.div_add_mod V (2 ^ 64);have b:=Nat.div_add_mod W (2 ^ 64);rw[← a, ← b,Int.ofNat.inj h1,Int.ofNat.inj h2]
 ·rintro rfl;exact⟨rfl,rfl⟩
theorem Gt (V k:Nat)(hV:V<2 ^ 128)(hk:k≤128):lF.f (hiI V) (loI V) (k:Int)=some (hiI (V / 2 ^ k),loI (V / 2 ^ k),decide (V % 2 ^ k≠0),none):=by
 have hq:V / 2 ^ k<2 ^ 128:=Nat.lt_of_le_of_lt (Nat.div_le_self _ _) hV
 have hm:mn (k:Int) 128=(k:Int):=by unfold mn;rw[if_neg (by omega)]
 have e:V / 2 ^ k*2 ^ k % 2 ^ 128=V / 2 ^ k*2 ^ k:=Nat.mod_eq_of_lt (Nat.lt_of_le_of_lt (Nat.div_mul_le_self _ _) hV);unfold lF.f;rw[if_neg (by omega),hm,GM V k hV hk];simp only[Option.bind_some];rw[rf _ _ hq hk,e];simp only[Option.bind_some];have d:=Nat.div_add_mod V (2 ^ k)
 have hne:(V / 2 ^ k*2 ^ k=V) ↔ V % 2 ^ k=0:=by rw[Nat.mul_comm];omega
 have h2:(!(hiI (V / 2 ^ k*2 ^ k) == hiI V) || !(loI (V / 2 ^ k*2 ^ k) == loI V))=decide (V % 2 ^ k≠0):=by
  rw[← Bool.not_and];have:=RH (V:=V / 2 ^ k*2 ^ k) (W:=V);rw[hne]at this
  by_cases hz:V % 2 ^ k=0
  ·rw[hz]at this ⊢
   obtain⟨a,b⟩:=this.2 rfl;rw[a,b];simp
  ·rw[Bool.eq_iff_iff]
   simp only[Bool.not_eq_true',Bool.and_eq_false_iff,beq_eq_false_iff_ne,decide_eq_true_eq]
   constructor
   ·intro _;exact hz
   ·intro _
    by_cases a:hiI (V / 2 ^ k*2 ^ k)=hiI V
    ·right;intro b;exact hz (this.1 ⟨a,b⟩)
    ·left;exact a
 rw[h2]
theorem uo (W b m:Nat)(c:Bool)(hW:W<2 ^ 128)(hb:b<2 ^ m)(hm:1≤m)(hm2:m≤64) :
  cZ.f (hiI W) (loI W) (b:Int) (m:Int) c=some (hiI (W / 2 ^ m+b*2 ^ (128-m)),loI (W / 2 ^ m+b*2 ^ (128-m)),c || decide (W % 2 ^ m≠0)):=by
 have hq:W / 2 ^ m<2 ^ (128-m):=by
  rw[Nat.div_lt_iff_lt_mul (Nat.two_pow_pos _), ← Nat.pow_add,show 128-m+m=128 by omega];exact hW
 have e1:b*2 ^ (128-m)=b*2 ^ (64-m)*2 ^ 64:=by rw[Nat.mul_assoc, ← Nat.pow_add];congr 2;omega
 have e2:(W / 2 ^ m+b*2 ^ (128-m)) % 2 ^ 64=W / 2 ^ m % 2 ^ 64:=by rw[e1,Nat.add_mul_mod_self_right]
 have e3:(W / 2 ^ m+b*2 ^ (128-m)) / 2 ^ 64=b*2 ^ (64-m)+W / 2 ^ m / 2 ^ 64:=by rw[e1,Nat.add_mul_div_right _ _ (Nat.two_pow_pos _),Nat.add_comm]
 have a3:W / 2 ^ m / 2 ^ 64<2 ^ (64-m):=by
  rw[Nat.div_lt_iff_lt_mul (Nat.two_pow_pos _), ← Nat.pow_add,show 64-m+64=128-m by omega];exact hq
 have a4:b*2 ^ (64-m)+W / 2 ^ m / 2 ^ 64<2 ^ 64:=by
  have h3:(b+1)*2 ^ (64-m)≤2 ^ m*2 ^ (64-m):=Nat.mul_le_mul_right _ hb;rw[← Nat.pow_add,show m+(64-m)=64 by omega,Nat.add_mul]at h3
  omega
 have e4:b*2 ^ (64-m) % 2 ^ 64=b*2 ^ (64-m):=Nat.mod_eq_of_lt (Nat.lt_of_le_of_lt (Nat.le_add_right _ _) a4);unfold cZ.f;rw[Gt W m hW (by omega)];simp only[Option.bind_some];rw[qh (by omega) (by omega),if_pos (by omega),show (64-(m:Int))=((64-m:Nat):Int) by omega,xK,e4]
 have e5:Go.bits .or .u64 (hiI (W / 2 ^ m)) ((b*2 ^ (64-m):Nat):Int)=hiI (W / 2 ^ m+b*2 ^ (128-m)):=by
  unfold hiI;rw[SA _ _ _ a3 a4,e3]
 have e6:loI (W / 2 ^ m)=loI (W / 2 ^ m+b*2 ^ (128-m)):=by unfold loI;rw[e2]
 rw[e5,e6]
 cases c <;> simp
end Go.Proofs.Yy.PTx
end
section
set_option maxHeartbeats 8000000
set_option maxRecDepth 100000
namespace Go.Proofs.Yy.PTx
open Go.RowKit Go.Proofs.Yy.Z Go.Proofs.Yw.PrintWords Go.Proofs.Yw.PrintLast Go.Proofs.Yw.PrintMore
open Go.Proofs.Yy.M
attribute [local go_sem] dG dP kR kT kW kS
attribute [local go_sem] gI gG iP iR fF fG gW gV
def jl.f (k:Nat)(a0:Int)(a1:ByteArray):Option (Int × Option Int):=(dS.f k a0 0).bind fun akd=>(if akd.2.2.2.2.isNone=true then ((rU.f a1).bind fun Qn=>(if Qn.2.2.2.2.isNone=true then ((o9.f k a0 Qn.1 Qn.2.1 Qn.2.2.1 Qn.2.2.2.1).bind fun VX=>(some (VX.1,VX.2))) else (some (0,some (Qn.2.2.2.2.getD 0))))) else (some (0,some (akd.2.2.2.2.getD 0))))
theorem jl.calls (k:Nat)(a0:Int)(a1:ByteArray)(r1:Int)(r2:Option Int)(w:World)(h:jl.f k a0 a1=some (r1,r2)) :
    Calls Tryz.prog 24 #[.int .i64 a0,.string a1] w fun e w'=>e=.returned (.tuple #[.int .u64 r1,rF r2])∧Below w.heap.size w w':=by
 have alh:=Tryz.underlying77;have PS:=Tryz.underlying23;have yB:=Tryz.underlying27;have hu64:=Tryz.underlying64;have HB:=am (Below.refl w.heap.size w);have H:=am h;unfold jl.f at H;clear h;replace H:=zo H;obtain⟨⟨aKt,aKu,aKv,aKw,aEJ⟩,A3,H⟩:=H
 try dsimp only at H
 rcases aEJ with _|aKx;replace H:=zb1 H
 try simp only[au,ax]
 replace H:=zo H;obtain⟨⟨aKy,aKz,aKA,aKB,aEK⟩,A4,H⟩:=H
 try dsimp only at H
 rcases aEK with _|aKC;replace H:=zb1 H
 try simp only[au,ax]
 replace H:=zo H;obtain⟨⟨aKD,aKE⟩,A5,H⟩:=H
 try dsimp only at H
 obtain⟨rfl,rfl⟩:=zJ2 H;rotate_left;replace H:=zb0 H
 try simp only[Option.getD_some]at H
 try simp only[au,ax]
 obtain⟨rfl,rfl⟩:=zJ2 H;rotate_left;replace H:=zb0 H
 try simp only[Option.getD_some]at H
 try simp only[au,ax]
 obtain⟨rfl,rfl⟩:=zJ2 H;rotate_left
 all_goals (go_enter Tryz.func24,Tryz.ntmps24;go_wp2_with (first|((with_reducible refine af (f:=42) rfl ?_);refine zc (some 12) Tryz.func42 _ (dS.calls _ _ _ _ _ _ _ _ _ A3.out) ?_;rintro e w6 ⟨rfl,hb⟩;refine⟨_,rfl,?_⟩;replace HB:=zBs HB hb;clear hb;(try simp only[au,ax]))|((with_reducible refine aI (N:=6) rfl ?_);refine zx 6 77 #[.int .i64 0,.bool false,.int .i64 0,.int .u64 0] ?_;intro asf hg w7 hbox hb;have Em:=am (hbox);have asg:=zG hg HB;have aEL:=zG hg HB;replace HB:=zBs HB hb;clear hb hbox hg;obtain⟨_,_,_,_,_,_,_,_⟩:=zf4 Em)|((with_reducible refine af (f:=25) rfl ?_);refine zc (some 20) Tryz.func25 _ (rU.calls _ _ _ _ _ _ _ A4.out) ?_;rintro e w9 ⟨rfl,hb⟩;refine⟨_,rfl,?_⟩;replace Em:=am (dW (zKp Em) hb);replace HB:=zBs HB hb;clear hb;(try simp only[au,ax]))|((with_reducible refine aI (N:=8) rfl ?_);refine zx 8 23 #[.bool false,.bool false,.string (⟨#[]⟩:ByteArray),.int .i64 0] ?_;intro ash hg w10 hbox hb;have VY:=am (hbox);have asi:=zG hg HB;have aEM:=zG hg HB;replace HB:=zBs HB hb;have VZ:=zNl hg Em;have V3:=zNg hg Em;replace Em:=zKb Em hb;clear hb hbox hg;have aoi:=V3.out;have aoj:=VZ.out;obtain⟨_,_,_,_,_,_,_,_⟩:=zf4 VY)|((with_reducible refine af (f:=13) rfl ?_);refine zc (some 28) Tryz.func13 _ (o9.calls _ _ _ _ _ _ _ _ _ A5.out) ?_;rintro e w13 ⟨rfl,hb⟩;refine⟨_,rfl,?_⟩;replace Em:=zKb Em hb;replace VY:=am (dW (zKp VY) hb);replace HB:=zBs HB hb;clear hb;(try simp only[au,ax]))))
 ·go_ret2
  exact⟨z2,zB HB⟩
 ·go_ret2
  exact⟨z2,zB HB⟩
 go_ret2
 exact⟨z2,zB HB⟩
end Go.Proofs.Yy.PTx
end
section
namespace Go.Proofs.Yy.PTx
open Go.RowKit Go.Proofs.Yw.PrintWords Go.Proofs.Yw.PrintLast Go.Proofs.Yw.PrintMore Go.Proofs.Yy.M Go.Proofs.Yy.TA
theorem JA (x:Nat)(c:Bool):Ev (fun k=>gB.f k (x:Int) c) ((lft x (2 ^ 63) c:Nat):Int):=by
 have e:(9223372036854775808:Int)=((2 ^ 63:Nat):Int):=rfl;refine Ev.step (f:=fun k=>(some ((lft x (2 ^ 63) c:Nat):Int))) (fun k=>?_) (Ev.now _);unfold gB.f lft;rw[e]
 by_cases h1:2 ^ 63<x
 ·rw[if_pos (by omega),if_pos h1,decide_eq_true (by omega)];rfl
 ·rw[if_neg (by omega),if_neg h1]
  by_cases h2:x=2 ^ 63
  ·rw[if_pos (by omega),if_pos h2]
   cases c
   ·simp only[gB.j0]
    rw[if_neg (by simp),if_pos (by omega)];rfl
   ·simp only[gB.j0];rfl
  ·rw[if_neg (by omega),if_neg h2]
   simp only[gB.j0];rw[if_neg (by simp),if_neg (by omega)]
   by_cases h3:0<x
   ·rw[if_pos (by omega),if_pos (.inl h3)];rfl
   ·rw[if_neg (by omega)]
    cases c
    ·rw[if_neg (by simp),if_neg (by simp;omega)];rfl
    ·rw[if_pos rfl,if_pos (.inr rfl)];rfl
theorem Zo (V k:Nat)(hV:V<2 ^ 128)(hk:k≤128):∃ b,Ev (fun n=>jv.f n (hiI V) (loI V) (k:Int)) (hiI (V*2 ^ k % 2 ^ 128),loI (V*2 ^ k % 2 ^ 128),b,none):=by
 have hm:mn (k:Int) 128=(k:Int):=by unfold mn;rw[if_neg (by omega)]
 obtain⟨h1,h2⟩:=G6 hV;rw[p64]at h1 h2
 by_cases hz:V / 2 ^ 64 > 0
 ·refine⟨decide (wrap64 (64+(Lib.bitLen (V / 2 ^ 64):Int)) > wrap64 (128-(k:Int))),0,fun n _=>?_⟩
  unfold jv.f oh.f bits_Len64.f hiI loI;rw[if_neg (by omega),hm];rw[show (some (_:Int × Int × Bool × Option Int))=_ from rfl];have:=rf V k hV hk;unfold hiI loI at this;rw[this];simp only[Option.bind_some];rw[if_pos (by omega),if_pos (by omega)];simp only[Option.bind_some,Int.toNat_natCast]
 ·refine⟨decide ((Lib.bitLen (V % 2 ^ 64):Int) > wrap64 (128-(k:Int))),0,fun n _=>?_⟩
  unfold jv.f oh.f bits_Len64.f hiI loI;rw[if_neg (by omega),hm];have:=rf V k hV hk;unfold hiI loI at this;rw[this];simp only[Option.bind_some];rw[if_neg (by omega),if_pos (by omega)];simp only[Option.bind_some,Int.toNat_natCast]
theorem acb (n W:Nat)(c:Bool)(hn:1≤n)(hn2:n≤64)(hW:W<2 ^ 128):Ev (fun k=>bJ.j3 k (n:Int) c (hiI W) (loI W)) (((W / 2 ^ (129-n):Nat):Int),((lft (W % 2 ^ (129-n)) (2 ^ (128-n)) c:Nat):Int),none):=by
 obtain⟨b,hb⟩:=Zo W (n-1) hW (by omega);have hl:=af6 (W:=W) (c:=c) hn hn2
 have e1:W*2 ^ (n-1) % 2 ^ 128=W % 2 ^ (129-n)*2 ^ (n-1):=by
  rw[show (2:Nat) ^ 128=2 ^ (129-n)*2 ^ (n-1) by rw[← Nat.pow_add];congr 1;omega,Nat.mul_mod_mul_right]
 rw[e1]at hb
 have e2:shr .u64 (hiI W) ((65-n:Nat):Int)=((W / 2 ^ (129-n):Nat):Int):=by
  unfold hiI;rw[Ac _ _ (G6 hW).1,Nat.div_div_eq_div_mul, ← Nat.pow_add];congr 3;omega
 obtain⟨Y,hY⟩:∃ Y,W % 2 ^ (129-n)*2 ^ (n-1)=Y:=⟨_,rfl⟩
 rw[hY]at hb hl;refine Ev.step (f:=fun k=>(jv.f k (hiI W) (loI W) ((n-1:Nat):Int)).bind fun bt=>(if bt.2.1=0 then ((gB.f k bt.1 c).bind fun t=>(some (shr .u64 (hiI W) ((65-n:Nat):Int),t,(none:Option Int)))) else ((gB.f k bt.1 true).bind fun t=>(some (shr .u64 (hiI W) ((65-n:Nat):Int),t,none))))) (fun k=>?_) (Ev.bind hb ?_)
 ·simp only[bJ.j3]
  rw[qh (by omega) (by omega),if_pos (by omega),qh (by omega) (by omega),show (65-(n:Int))=((65-n:Nat):Int) by omega,show ((n:Int)-1)=((n-1:Nat):Int) by omega]
 ·rw[← hl]
  by_cases hz:Y % 2 ^ 64=0
  ·refine Ev.congr (f:=fun k=>(gB.f k (hiI Y) c).bind fun t=>(some (shr .u64 (hiI W) ((65-n:Nat):Int),t,(none:Option Int)))) (fun k=>if_pos (by unfold loI;rw[hz];rfl)) ?_
   refine Ev.bind (JA (Y / 2 ^ 64) c) ?_;rw[e2,hz]
   have:(c || decide (0≠0))=c:=by simp
   rw[this];exact Ev.now _
  ·refine Ev.congr (f:=fun k=>(gB.f k (hiI Y) true).bind fun t=>(some (shr .u64 (hiI W) ((65-n:Nat):Int),t,(none:Option Int)))) (fun k=>if_neg (fun h=>hz (Int.natCast_eq_zero.1 h))) ?_
   refine Ev.bind (JA (Y / 2 ^ 64) true) ?_;rw[e2]
   have:(c || decide (Y % 2 ^ 64≠0))=true:=by simp[hz]
   rw[this];exact Ev.now _
theorem Ou {W X L:Nat}{c c0:Bool}(h:Rel W c X L c0)(hX:X<2 ^ L):W<2 ^ 128:=by
 obtain⟨z,h1,h2,_⟩:=h;have:2 ^ 128*X<2 ^ 128*2 ^ L:=Nat.mul_lt_mul_of_pos_left hX (Nat.two_pow_pos _);exact Nat.lt_of_mul_lt_mul_right (a:=2 ^ L) (by omega)
theorem Jj {b X L m:Nat}(hb:b<2 ^ m)(hX:X<2 ^ L):b*2 ^ L+X<2 ^ (L+m):=by
 have h:(b+1)*2 ^ L≤2 ^ m*2 ^ L:=Nat.mul_le_mul_right _ hb;rw[Nat.pow_add,Nat.mul_comm (2 ^ L)];rw[Nat.add_mul]at h
 omega
theorem Xt (n m:Nat)(R:Int × Int × Option Int)(c0:Bool)(hm:m≤9223372036854775806):∀ (d i W:Nat) (c:Bool) (X L:Nat),i+d=m→Rel W c X L c0→X<2 ^ L →
  (∀ W' c',Rel W' c' ((2 ^ d-1)*2 ^ L+X) (L+d) c0→Ev (fun k=>bJ.j3 k (n:Int) c' (hiI W') (loI W')) R) →
  Ev (fun k=>bJ.l0 k (n:Int) c (m:Int) (i:Int) (hiI W) (loI W)) R:=by
 intro d
 induction d with
 | zero =>
  intro i W c X L hi hR hX next;have h:=next W c (by rw[Nat.pow_zero,Nat.sub_self,Nat.zero_mul,Nat.zero_add,Nat.add_zero];exact hR);exact Ev.step (f:=fun k=>bJ.j3 k (n:Int) c (hiI W) (loI W)) (fun k=>by simp only[bJ.l0];rw[if_neg (by omega)]) h
 | succ d ih =>
  intro i W c X L hi hR hX next;have hu:=uo W 1 1 c (Ou hR hX) (by omega) (by omega) (by omega);have h2:=Rel.under hR 1 1 (by omega);have hX2:=Jj (b:=1) (m:=1) (by omega) hX;refine Ev.step (f:=fun k=>bJ.l0 k (n:Int) (c || decide (W % 2 ^ 1≠0)) (m:Int) ((i+1:Nat):Int) (hiI (W / 2 ^ 1+1*2 ^ (128-1))) (loI (W / 2 ^ 1+1*2 ^ (128-1)))) (fun k=>?_) (ih (i+1) _ _ _ _ (by omega) h2 hX2 ?_)
  ·simp only[bJ.l0]
   rw[if_pos (by omega)];have hu':cZ.f (hiI W) (loI W) 1 1 c=_:=hu;rw[hu'];simp only[Option.bind_some];rw[qh (by omega) (by omega)];rfl
  ·intro W' c' h
   refine next W' c' ?_
   have e1:(2 ^ d-1)*2 ^ (L+1)+(1*2 ^ L+X)=(2 ^ (d+1)-1)*2 ^ L+X:=by
    have hp:=Nat.two_pow_pos d;rw[Nat.pow_succ 2 L,Nat.mul_comm (2 ^ L) 2, ← Nat.mul_assoc, ← Nat.add_assoc, ← Nat.add_mul,Nat.pow_succ 2 d]
    congr 2;omega
   rw[e1,show L+1+d=L+(d+1) by omega]at h;exact h
theorem KI (n m:Nat)(R:Int × Int × Option Int)(c0:Bool)(hm:m≤9223372036854775806):∀ (d i W:Nat) (c:Bool) (X L:Nat),i+d=m→Rel W c X L c0→X<2 ^ L →
  (∀ W' c',Rel W' c' X (L+d) c0→Ev (fun k=>bJ.j3 k (n:Int) c' (hiI W') (loI W')) R) →
  Ev (fun k=>bJ.l1 k (n:Int) c (m:Int) (i:Int) (hiI W) (loI W)) R:=by
 intro d
 induction d with
 | zero =>
  intro i W c X L hi hR hX next;have h:=next W c (by rw[Nat.add_zero];exact hR);exact Ev.step (f:=fun k=>bJ.j3 k (n:Int) c (hiI W) (loI W)) (fun k=>by simp only[bJ.l1];rw[if_neg (by omega)]) h
 | succ d ih =>
  intro i W c X L hi hR hX next;have hu:=uo W 0 1 c (Ou hR hX) (by omega) (by omega) (by omega);have h2:=Rel.under hR 0 1 (by omega);have hX2:=Jj (b:=0) (m:=1) (by omega) hX;simp only[Nat.zero_mul,Nat.zero_add,Nat.add_zero]at h2 hX2 hu;refine Ev.step (f:=fun k=>bJ.l1 k (n:Int) (c || decide (W % 2 ^ 1≠0)) (m:Int) ((i+1:Nat):Int) (hiI (W / 2 ^ 1)) (loI (W / 2 ^ 1))) (fun k=>?_) (ih (i+1) _ _ _ _ (by omega) h2 hX2 ?_)
  ·simp only[bJ.l1]
   rw[if_pos (by omega)];have hu':cZ.f (hiI W) (loI W) 0 1 c=_:=hu;rw[hu'];simp only[Option.bind_some];rw[qh (by omega) (by omega)];rfl
  ·intro W' c' h
   rw[show L+1+d=L+(d+1) by omega]at h;exact next W' c' h
theorem Yg {p:Prop}[Decidable p]{α:Type}{a b c d:α}(h1:a=c)(h2:b=d):(if p then a else b)=if p then c else d:=by rw[h1,h2]
def Wd (n:Nat):Prop:=n=8∨n=16∨n=32∨n=64
theorem Wd.bounds {n:Nat}(h:Wd n):8≤n∧n≤64:=by rcases h with rfl|rfl|rfl|rfl <;> omega
theorem XF (n:Int):Go.bits .and .i64 n 3=n % 4:=by
 have h3:(BitVec.ofInt 64 3).toNat=2 ^ 2-1:=by decide
 have key:(BitVec.ofInt 64 n &&& BitVec.ofInt 64 3).toNat=(n % ((2 ^ 64:Nat):Int)).toNat % 2 ^ 2:=by
  rw[BitVec.toNat_and,BitVec.toNat_ofInt,h3,Nat.and_two_pow_sub_one_eq_mod]
 show IntKind.i64.wrap ((BitVec.ofInt 64 n &&& BitVec.ofInt 64 3).toNat:Nat)=n % 4;rw[key,IntKind.wrap_i64]
 omega
theorem acG {n:Nat}(h:Wd n):xk.f (n:Int)=some ((n:Int),((2 ^ (n-1)-1:Nat):Int),1,((2 ^ (n-1):Nat):Int),top n,none):=by
 rcases h with rfl|rfl|rfl|rfl <;> decide +kernel
theorem GH {n:Nat}(h:Wd n):oq.f (n:Int)=some true:=by
 rcases h with rfl|rfl|rfl|rfl <;> decide
theorem Dl {n:Nat}(h:Wd n)(p:Nat)(hp:p<2 ^ 64):fD.f (n:Int) (p:Int)=some (((p % 2 ^ n:Nat):Int),none):=by
 obtain⟨h8,h64⟩:=h.bounds
 have hm:ul.f (n:Int)=some (((2 ^ n-1:Nat):Int),none):=by rcases h with rfl|rfl|rfl|rfl <;> decide +kernel
 unfold fD.f;rw[GH h];simp only[Option.bind_some,if_true];rw[hm];simp only[Option.bind_some];rw[Tt _ _ hp h64]
theorem Ja {s:Int}(h1 : -1099511627776≤s)(h2:s≤1099511627776):lW.f s=some s:=by
 unfold lW.f mx mn
 congr 1
 split <;> split <;> omega
theorem PP {s hi lo:Int}{neg rest:Bool}(h1 : -1099511627776≤s)(h2:s≤1099511627776)(hh:9223372036854775808≤hi)(hh2:hi<18446744073709551616):Ev (fun k=>fA.f k 1 neg s hi lo rest) true:=by
 refine Ev.step (f:=fun k=>some true) (fun k=>?_) (Ev.now _);unfold fA.f;rw[if_neg (by decide)];simp only[fA.j0];rw[if_neg (by decide),if_pos True.intro,if_pos (by omega),Ja h1 h2];simp
theorem agH {n:Nat}(hn:8≤n)(hn2:n≤64)(kind:Int)(neg:Bool){s:Int}(hs1 : -1000000≤s)(hs2:s≤1000000){T:Nat}(hT1:2 ^ 127≤T)(hT2:T<2 ^ 128)(rest:Bool) :
  Ev (fun k=>bJ.j0 k (n:Int) kind neg s (hiI T) (loI T) rest) ((BV n s 127 T:Int),(I4 n s 127 T rest:Int),none):=by
 obtain⟨b,hb⟩:=Zo T 1 hT2 (by omega)
 have e1:T*2 ^ 1 % 2 ^ 128=2*(T-2 ^ 127):=by omega
 rw[e1]at hb
 obtain⟨f,hf⟩:∃ f,T-2 ^ 127=f:=⟨_,rfl⟩
 have hf2:f<2 ^ 127:=by omega
 rw[hf]at hb
 obtain⟨e,he⟩:∃ e:Nat,s % 4=e:=⟨(s % 4).toNat,by omega⟩
 have he4:e<2 ^ 2:=by omega
 have r0:Rel (2*f) rest f 127 rest:=Rel.start rest;have r1:=r0.under e 2 (by omega);have x1:=Jj (b:=e) (m:=2) he4 hf2;have u1:=uo (2*f) e 2 rest (by omega) he4 (by omega) (by omega)
 obtain⟨W1,hW1⟩:∃ W,2*f / 2 ^ 2+e*2 ^ (128-2)=W:=⟨_,rfl⟩
 obtain⟨c1,hc1⟩:∃ c,(rest || decide (2*f % 2 ^ 2≠0))=c:=⟨_,rfl⟩
 rw[hW1,hc1]at r1 u1
 have hband:IntKind.u64.wrap (Go.bits .and .i64 s 3)=(e:Int):=by rw[XF,he,IntKind.wrap_u64];omega
 have hL:hL s=SK s+2:=rfl
 -- the end: the cut of the whole string
 have fin:∀ (X L:Nat),X=zU s 127 T→L=TA.hL s+127→∀ W' c',Rel W' c' X L rest→X<2 ^ L→Ev (fun k=>bJ.j3 k (n:Int) c' (hiI W') (loI W')) ((BV n s 127 T:Int),(I4 n s 127 T rest:Int),none):=by
  intro X L hX hLL W' c' hR hXl;have h:=TU s;obtain⟨a1,a2⟩:=hR.cut (n:=n) (by omega) (by omega) (by omega);have h3:=acb n W' c' (by omega) hn2 (Ou hR hXl);rw[a1,a2,hX,hLL]at h3;exact h3
 have hxl:zU s 127 T<2 ^ (TA.hL s+127):=by
  unfold zU;rw[hf];have:=Ye s;have h3:(hV s+1)*2 ^ 127≤2 ^ TA.hL s*2 ^ 127:=Nat.mul_le_mul_right _ this;rw[Nat.pow_add];rw[Nat.add_mul,Nat.one_mul]at h3;exact Nat.lt_of_lt_of_le (Nat.add_lt_add_left hf2 _) h3
 refine Ev.step (f:=fun k=>(jv.f k (hiI T) (loI T) ((1:Nat):Int)).bind fun bt=>((cZ.f bt.1 bt.2.1 (e:Int) 2 rest).bind fun bt2=>(if (s / 4)≥0 then ((cZ.f bt2.1 bt2.2.1 0 1 bt2.2.2).bind fun bt3=>(bJ.l0 k (n:Int) bt3.2.2 (wrap64 ((s / 4)+1)) 0 bt3.1 bt3.2.1)) else ((cZ.f bt2.1 bt2.2.1 1 1 bt2.2.2).bind fun bt3=>(bJ.l1 k (n:Int) bt3.2.2 (wrap64 (-(s / 4))) 0 bt3.1 bt3.2.1))))) (fun k=>by simp only[bJ.j0];rw[hband];rfl) (Ev.bind hb ?_);have u1':cZ.f (hiI (2*f)) (loI (2*f)) (e:Int) 2 rest=some (hiI W1,loI W1,c1):=u1;simp only[u1',Option.bind_some];have axx:=Ou r1 x1
 by_cases hk:0≤s / 4
 ·obtain⟨k4,hk4⟩:∃ k4:Nat,s / 4=k4:=⟨(s / 4).toNat,by omega⟩
  have r2:=r1.under 0 1 (by omega);have x2:=Jj (b:=0) (m:=1) (by omega) x1;have u2:=uo W1 0 1 c1 axx (by omega) (by omega) (by omega);simp only[Nat.zero_mul,Nat.zero_add,Nat.add_zero]at r2 x2 u2;have u2':cZ.f (hiI W1) (loI W1) 0 1 c1=_:=u2;simp only[if_pos hk,u2',Option.bind_some];rw[hk4,qh (by omega) (by omega),show (k4:Int)+1=((k4+1:Nat):Int) by omega]
  have hXe:(2 ^ (k4+1)-1)*2 ^ (127+2+1)+(e*2 ^ 127+f)=zU s 127 T:=by
   unfold zU hV ZY;rw[hf,if_pos hk,hk4,he,Int.toNat_natCast,Int.toNat_natCast,show k4+2=(k4+1)+1 by omega,Nat.pow_succ 2 (k4+1)];have:=Nat.two_pow_pos (k4+1)
   omega
  have hLe:127+2+1+(k4+1)=TA.hL s+127:=by unfold TA.hL SK;rw[if_pos hk,hk4,Int.toNat_natCast];omega
  refine Xt n (k4+1) _ rest (by omega) (k4+1) 0 _ _ _ _ (by omega) r2 x2 (fun W' c' h=>?_);rw[hXe,hLe]at h;exact fin _ _ rfl rfl W' c' h hxl
 ·obtain⟨k4,hk4⟩:∃ k4:Nat, -(s / 4)=k4:=⟨(-(s / 4)).toNat,by omega⟩
  have r2:=r1.under 1 1 (by omega);have x2:=Jj (b:=1) (m:=1) (by omega) x1;have u2:=uo W1 1 1 c1 axx (by omega) (by omega) (by omega);have u2':cZ.f (hiI W1) (loI W1) 1 1 c1=_:=u2;simp only[if_neg (show ¬ (s / 4≥0) from hk),u2',Option.bind_some];rw[hk4,qh (by omega) (by omega)]
  have hXe:1*2 ^ (127+2)+(e*2 ^ 127+f)=zU s 127 T:=by
   unfold zU hV ZY;rw[hf,if_neg hk,he,Int.toNat_natCast]
   omega
  have hLe:127+2+1+k4=TA.hL s+127:=by unfold TA.hL SK;rw[if_neg hk,hk4,Int.toNat_natCast];omega
  refine KI n k4 _ rest (by omega) k4 0 _ _ _ _ (by omega) r2 x2 (fun W' c' h=>?_);rw[hXe,hLe]at h;exact fin _ _ rfl rfl W' c' h hxl
def Ny (n:Nat)(s:Int)(T:Nat)(c:Bool):Nat:=if top n≤s then 2 ^ (n-1)-1 else if s < -top n then 1 else rnd (BV n s 127 T) (I4 n s 127 T c)
def oV (n:Nat)(s:Int)(T:Nat)(c:Bool):Nat × Nat:=if top n≤s then (2 ^ (n-1)-1,0) else if s < -top n∨(s = -top n∧T=2 ^ 127∧c=false) then (1,0) else (BV n s 127 T,I4 n s 127 T c)
theorem aba {n:Nat}(hn:8≤n)(hn2:n≤64):BV n (-top n) 127 (2 ^ 127)=1∧I4 n (-top n) 127 (2 ^ 127) false=0:=by
 have h1 : -top n / 4 = -((n:Int)-2):=by unfold top;omega
 have h2 : -top n % 4=0:=by unfold top;omega
 have hv:hV (-top n)=4:=by
  unfold hV ZY;rw[h1,h2,if_neg (by omega)];rfl
 have hl:TA.hL (-top n)=n+1:=by
  unfold TA.hL SK;rw[h1,if_neg (by omega)];omega
 have hx:zU (-top n) 127 (2 ^ 127)=2 ^ 129:=by unfold zU;rw[hv,Nat.sub_self]
 have hc:xG n (-top n) 127=129:=by unfold xG;rw[hl];omega
 unfold BV I4;rw[hx,hc];exact⟨Nat.div_self (Nat.two_pow_pos _),by rw[Nat.mod_self];rfl⟩
theorem JO {n:Nat}(hn:8≤n)(hn2:n≤64)(s:Int)(T:Nat)(c:Bool):rnd (oV n s T c).1 (oV n s T c).2=Ny n s T c:=by
 unfold oV Ny
 by_cases h1:top n≤s
 ·rw[if_pos h1,if_pos h1];rfl
 ·rw[if_neg h1,if_neg h1]
  by_cases h2:s < -top n
  ·rw[if_pos (.inl h2),if_pos h2];rfl
  ·rw[if_neg h2]
   by_cases h3:s = -top n∧T=2 ^ 127∧c=false
   ·rw[if_pos (.inr h3)]
    obtain⟨a,b,d⟩:=h3;obtain⟨k1,k2⟩:=aba hn hn2;rw[a,b,d,k1,k2]
   ·rw[if_neg (fun a=>a.elim h2 h3)]
theorem Z5 {T:Nat}(h:2 ^ 127≤T)(h2:T<2 ^ 128):9223372036854775808≤hiI T∧hiI T<18446744073709551616:=by unfold hiI;omega
theorem agB {n:Nat}(hw:Wd n)(neg:Bool){s:Int}(hs1 : -1000000≤s)(hs2:s≤1000000){T:Nat}(hT1:2 ^ 127≤T)(hT2:T<2 ^ 128)(rest:Bool) :
  Ev (fun k=>bJ.f k (n:Int) 1 neg s (hiI T) (loI T) rest) (((oV n s T rest).1:Int),((oV n s T rest).2:Int),none):=by
 obtain⟨h8,h64⟩:=hw.bounds;obtain⟨g1,g2⟩:=Z5 hT1 hT2;have ht:top n=4*(n:Int)-8:=rfl;have hj:=agH h8 h64 1 neg hs1 hs2 hT1 hT2 rest;refine Ev.congr (f:=fun k=>(fA.f k 1 neg s (hiI T) (loI T) rest).bind fun t=>(if t=true then (if top n≤s then some (((2 ^ (n-1)-1:Nat):Int),(0:Int),(none:Option Int)) else if s < -top n∨(s = -top n∧T=2 ^ 127∧rest=false) then some (1,0,none) else bJ.j0 k (n:Int) 1 neg s (hiI T) (loI T) rest) else none)) (fun k=>?_) (Ev.bind (PP (by omega) (by omega) g1 g2) ?_)
 ·unfold bJ.f
  rw[acG hw];simp only[Option.bind_some,Option.isNone_none,if_true]
  congr 1
  funext t
  refine Yg ?_ rfl;rw[if_neg (by decide),if_neg (by decide),qh (by omega) (by omega)];refine Yg rfl ?_
  by_cases c1:s < -top n
  ·rw[if_pos c1,if_pos (.inl c1)]
  ·rw[if_neg c1]
   by_cases c2:s = -top n
   ·rw[if_pos c2]
    by_cases c3:T=2 ^ 127
    ·rw[if_pos (by rw[c3];rfl),if_pos (by rw[c3];rfl)]
     cases rest
     ·rw[if_neg (by decide),if_pos (.inr ⟨c2,c3,rfl⟩)]
     ·rw[if_pos rfl,if_neg (by simp[c1])]
    ·rw[if_neg (show ¬ (s < -top n∨(s = -top n∧T=2 ^ 127∧rest=false)) by simp[c1,c3])]
     by_cases c4:hiI T=9223372036854775808
     ·rw[if_pos c4,if_neg]
      intro c5
      apply c3
      unfold hiI at c4;unfold loI at c5
      omega
     ·rw[if_neg c4]
   ·rw[if_neg c2,if_neg (by simp[c1,c2])]
 ·unfold oV
  by_cases c0:top n≤s
  ·simp only[if_pos c0,if_true];exact Ev.now _
  ·by_cases c1:s < -top n∨(s = -top n∧T=2 ^ 127∧rest=false)
   ·simp only[if_neg c0,if_pos c1,if_true];exact Ev.now _
   ·simp only[if_neg c0,if_neg c1,if_true];exact hj
theorem NQ {p:Nat}(h:p<2 ^ 64):IntKind.u64.wrap (-(p:Int))=(((2 ^ 64-p) % 2 ^ 64:Nat):Int):=by rw[IntKind.wrap_u64];omega
theorem TE {n p:Nat}(hn:n≤64)(hp:p≤2 ^ n):(2 ^ 64-p) % 2 ^ 64 % 2 ^ n=(2 ^ n-p) % 2 ^ n:=by
 have e:(2:Nat) ^ 64=2 ^ n*2 ^ (64-n):=by rw[← Nat.pow_add];congr 1;omega
 have h1:1≤2 ^ (64-n):=Nat.two_pow_pos _
 obtain⟨q,hq⟩:∃ q,2 ^ (64-n)=q+1:=⟨2 ^ (64-n)-1,by omega⟩
 rw[Nat.mod_mod_of_dvd _ ⟨2 ^ (64-n),e⟩,e,hq,Nat.mul_add,Nat.mul_one,Nat.add_sub_assoc hp,Nat.mul_add_mod]
theorem Oc {n:Nat}(h:Wd n)(p:Nat)(hp:p≤2 ^ (n-1)):fD.f (n:Int) (IntKind.u64.wrap (-(p:Int)))=some (((sgn n true p:Nat):Int),none):=by
 obtain⟨h8,h64⟩:=h.bounds;have h1:2 ^ (n-1)≤2 ^ 63:=Nat.pow_le_pow_right (by omega) (by omega);have h2:2 ^ (n-1)≤2 ^ n:=Nat.pow_le_pow_right (by omega) (by omega);rw[NQ (by omega),Dl h _ (Nat.mod_lt _ (Nat.two_pow_pos _)),TE h64 (by omega)]
 rfl
theorem Nq {n:Nat}(h:Wd n)(p:Nat)(hp:p≤2 ^ (n-1)):fD.f (n:Int) (p:Int)=some (((sgn n false p:Nat):Int),none):=by
 obtain⟨h8,h64⟩:=h.bounds;have h1:2 ^ (n-1)≤2 ^ 63:=Nat.pow_le_pow_right (by omega) (by omega);rw[Dl h _ (by omega)]
 rfl
theorem u64_and1 {p:Nat}(hp:p<2 ^ 64):Go.bits .and .u64 (p:Int) 1=((p % 2:Nat):Int):=Tt p 1 hp (by omega)
theorem X4 {n:Nat}(hw:Wd n)(neg:Bool)(kind s hi lo:Int)(rest:Bool){P Q:Nat}(hP:P<2 ^ (n-1))(hQ:Q≤3)(h:Ev (fun k=>bJ.f k (n:Int) kind neg s hi lo rest) ((P:Int),(Q:Int),none)) :
  Ev (fun k=>kF.f k (n:Int) kind neg s hi lo rest) (((sgn n neg (rnd P Q):Nat):Int),none):=by
 obtain⟨h8,h64⟩:=hw.bounds;have h1:2 ^ (n-1)≤2 ^ 63:=Nat.pow_le_pow_right (by omega) (by omega)
 have e1:IntKind.u64.wrap ((P:Int)+1)=((P+1:Nat):Int):=by rw[IntKind.wrap_u64];omega
 have f1:=Nq hw P (by omega);have f2:=Nq hw (P+1) (by omega);have f3:=Oc hw P (by omega);have f4:=Oc hw (P+1) (by omega);have ha:=u64_and1 (p:=P) (by omega);refine Ev.congr (f:=fun k=>(bJ.f k (n:Int) kind neg s hi lo rest).bind fun bt=>(if bt=((P:Int),(Q:Int),none) then some (((sgn n neg (rnd P Q):Nat):Int),(none:Option Int)) else kF.f k (n:Int) kind neg s hi lo rest)) (fun k=>?_) (Ev.bind h (by simp only[if_true];exact Ev.now _))
 cases hc:bJ.f k (n:Int) kind neg s hi lo rest with
 | none=>unfold kF.f;rw[hc];rfl
 | some bt =>
  simp only[Option.bind_some]
  by_cases hb:bt=((P:Int),(Q:Int),none)
  ·rw[if_pos hb]
   unfold kF.f;rw[hc,hb];simp only[Option.bind_some,Option.isNone_none,if_true];rw[e1,ha,f1,f2,f3,f4];unfold rnd
   have hq:Q=0∨Q=1∨Q=2∨Q=3:=by omega
   rcases Nat.mod_two_eq_zero_or_one P with hp|hp <;> rcases hq with rfl|rfl|rfl|rfl <;> cases neg <;> simp[hp]
  ·rw[if_neg hb]
theorem agF (r h:Nat)(c:Bool):lft r h c≤3:=by unfold lft;split <;> (try split) <;> (try split) <;> omega
theorem acn {n:Nat}(hn:1≤n)(s:Int){F T:Nat}(hT:T<2 ^ (F+1))(hL:n-1≤TA.hL s+F):BV n s F T<2 ^ (n-1):=by
 have h:=Ye s;have h3:(hV s+1)*2 ^ F≤2 ^ TA.hL s*2 ^ F:=Nat.mul_le_mul_right _ h;rw[Nat.add_mul,Nat.one_mul]at h3;unfold BV;rw[Nat.div_lt_iff_lt_mul (Nat.two_pow_pos _), ← Nat.pow_add,show n-1+xG n s F=TA.hL s+F by unfold xG;omega,Nat.pow_add];refine Nat.lt_of_lt_of_le (Nat.add_lt_add_left ?_ _) h3;rw[Nat.pow_succ]at hT
 omega
theorem Xr {n:Nat}(hw:Wd n)(neg:Bool){s:Int}(hs1 : -1000000≤s)(hs2:s≤1000000){T:Nat}(hT1:2 ^ 127≤T)(hT2:T<2 ^ 128)(rest:Bool) :
  Ev (fun k=>kF.f k (n:Int) 1 neg s (hiI T) (loI T) rest) (((sgn n neg (Ny n s T rest):Nat):Int),none):=by
 obtain⟨h8,h64⟩:=hw.bounds;have h1:2 ^ 7≤2 ^ (n-1):=Nat.pow_le_pow_right (by omega) (by omega)
 have hp:(oV n s T rest).1<2 ^ (n-1)∧(oV n s T rest).2≤3:=by
  have hn1:1≤n:=by omega
  have hk:n-1≤TA.hL s+127:=by omega
  have hT3:T<2 ^ (127+1):=hT2;have h4:=acn hn1 s hT3 hk
  have h5:I4 n s 127 T rest≤3:=by unfold I4;exact agF _ _ _
  have h0:oV n s T rest=(2 ^ (n-1)-1,0)∨oV n s T rest=(1,0)∨oV n s T rest=(BV n s 127 T,I4 n s 127 T rest):=by
   unfold oV
   by_cases a:top n≤s
   ·rw[if_pos a];exact .inl rfl
   ·rw[if_neg a]
    by_cases b:s < -top n∨(s = -top n∧T=2 ^ 127∧rest=false)
    ·rw[if_pos b];exact .inr (.inl rfl)
    ·rw[if_neg b];exact .inr (.inr rfl)
  generalize BV n s 127 T=P at h4 h0;generalize I4 n s 127 T rest=Q at h5 h0;clear hT1 hT2 hT3
  have hz:∀ z:Nat × Nat,z=(2 ^ (n-1)-1,0)∨z=(1,0)∨z=(P,Q)→z.1<2 ^ (n-1)∧z.2≤3:=by
   rintro z (rfl|rfl|rfl)
   ·exact⟨Nat.sub_lt (Nat.two_pow_pos _) (by decide),Nat.zero_le _⟩
   ·exact⟨Nat.lt_of_lt_of_le (by decide) h1,Nat.zero_le _⟩
   ·exact⟨h4,h5⟩
  exact hz _ h0
 have h:=X4 hw neg 1 s (hiI T) (loI T) rest hp.1 hp.2 (agB hw neg hs1 hs2 hT1 hT2 rest)
 rwa [JO h8 h64]at h
theorem Ot {n:Nat}(hn:8≤n)(hn2:n≤64){N C:Nat}{s:Int}{T:Nat}{c:Bool}(hT:2 ^ 127≤T)(h:Rep N C s (T / 2 ^ 64) (c || decide (T % 2 ^ 64≠0))):Ny n s T c=pos n s N C:=by
 have hl:=TU s;unfold Ny pos;refine Yg rfl (Yg rfl ?_);have e1:=O6 n s 63 64 T hT (by omega);have e2:=O0 n s 63 64 T c hT (by omega);rw[show 63+64=127 from rfl]at e1 e2;rw[e1,e2];exact h.sig hn2
theorem bitLen_spec (b:Nat):∀ x:Nat,x<2 ^ b→b≤64→x<2 ^ Lib.bitLen x∧(x≠0→1≤Lib.bitLen x∧2 ^ (Lib.bitLen x-1)≤x):=by
 induction b with
 | zero =>
  intro x hx _
  have:x=0:=by simpa using hx
  subst this;exact⟨by decide,fun h=>absurd rfl h⟩
 | succ b ih =>
  intro x hx hb
  by_cases h0:x=0
  ·subst h0;exact⟨by decide,fun h=>absurd rfl h⟩
  ·have h64:x<2 ^ 64:=Nat.lt_of_lt_of_le hx (Nat.pow_le_pow_right (by omega) hb)
   have e:=Lib.bitLen_half x h0 h64
   have hh:x / 2<2 ^ b:=by rw[Nat.pow_succ]at hx;omega
   obtain⟨a1,a2⟩:=ih (x / 2) hh (by omega);rw[e,Nat.add_comm 1,Nat.pow_succ];refine⟨by omega,fun _=>⟨by omega,?_⟩⟩;rw[Nat.add_sub_cancel]
   by_cases h1:x / 2=0
   ·rw[h1];show 2 ^ 0≤x;omega
   ·obtain⟨a3,a4⟩:=a2 h1
    obtain⟨c,hc⟩:∃ c,Lib.bitLen (x / 2)=c+1:=⟨Lib.bitLen (x / 2)-1,by omega⟩
    rw[hc,Nat.add_sub_cancel]at a4;rw[hc,Nat.pow_succ];omega
theorem bitLen_eq {x b:Nat}(hb:b≤64)(h1:x<2 ^ b)(h2:b≠0→2 ^ (b-1)≤x):Lib.bitLen x=b:=by
 obtain⟨a1,a2⟩:=bitLen_spec b x h1 hb
 by_cases h0:b=0
 ·subst h0
  have:x=0:=by simpa using h1
  subst this;rfl
 ·have h3:=h2 h0
  have hx:x≠0:=by have:=Nat.two_pow_pos (b-1);omega
  obtain⟨a3,a4⟩:=a2 hx
  apply Nat.le_antisymm
  ·apply Nat.le_of_not_lt;intro h
   have:2 ^ b≤2 ^ (Lib.bitLen x-1):=Nat.pow_le_pow_right (by omega) (by omega)
   omega
  ·apply Nat.le_of_not_lt;intro h
   have:2 ^ Lib.bitLen x≤2 ^ (b-1):=Nat.pow_le_pow_right (by omega) (by omega)
   omega
theorem TY {n:Nat}(h:Wd n)(p:Nat)(hp:p<2 ^ 64):kQ.f (n:Int) (p:Int)=some (if p % 2 ^ n=0 then 0 else if p % 2 ^ n=2 ^ (n-1) then 2 else 1,none):=by
 obtain⟨h8,h64⟩:=h.bounds;have hm:2 ^ (n-1)<2 ^ 64:=Nat.pow_lt_pow_right (by omega) (by omega);unfold kQ.f;rw[Dl h p hp];simp only[Option.bind_some,Option.isNone_none,if_true]
 by_cases h0:p % 2 ^ n=0
 ·rw[if_pos (by rw[h0];rfl),if_pos h0]
 ·rw[if_neg (fun e=>h0 (Int.natCast_eq_zero.1 e)),if_neg h0,qh (by omega) (by omega),if_pos (by omega),show ((n:Int)-1)=((n-1:Nat):Int) by omega]
  have e1:shl .u64 1 ((n-1:Nat):Int)=((2 ^ (n-1):Nat):Int):=by
   have:=xK 1 (n-1);rw[Nat.one_mul,Nat.mod_eq_of_lt hm]at this;exact this
  rw[e1]
  by_cases h1:p % 2 ^ n=2 ^ (n-1)
  ·rw[if_pos (by rw[h1]),if_pos h1]
  ·rw[if_neg (fun e=>h1 (Int.natCast_inj.1 e)),if_neg h1]
end Go.Proofs.Yy.PTx
end
