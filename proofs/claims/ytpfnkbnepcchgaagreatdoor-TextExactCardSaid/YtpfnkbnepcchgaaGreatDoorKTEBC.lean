/- Part 29 of what the proof needs. -/
import Derived.Test.YtpfnkbnepcchgaaGreatDoorKTEBB
set_option linter.unusedSimpArgs false
set_option linter.unusedVariables false
section
set_option maxHeartbeats 8000000
set_option maxRecDepth 100000
namespace Go.Proofs.Yy.PTx
open Go.RowKit Go.Proofs.Yy.Z Go.Proofs.Yw.PrintWords Go.Proofs.Yw.PrintLast Go.Proofs.Yw.PrintMore
open Go.Proofs.Yy.M
attribute [local go_sem] dw dQ lD lF lC lG
attribute [local go_sem] gy gz ja jc fC fD gQ gK
mutual
def aA.j1:Nat→List Int→Int→Int→Bool→Int→Int→Option (Bool × Bool × ByteArray × Int)
  | 0,_,_,_,_,_,_=>none
  | k+1,x6,x7,BL,wS,BM,BN=>if x7 ≥ 0 then ((iE.f k x6 x7).bind fun QU=>((ax.f k QU).bind fun QV=>((ah.f k false wS QV 0).bind fun yV=>(some (yV.1,yV.2.1,yV.2.2.1,yV.2.2.2))))) else ((cu.f k (wrap64 (-x7))).bind fun WI=>((az.f k x6 WI).bind fun QW=>((ax.f k QW).bind fun MX=>((ah.f k false wS MX x7).bind fun yX=>(some (yX.1,yX.2.1,yX.2.2.1,yX.2.2.2))))))
def aA.l0:Nat→List Int→Int→Int→Bool→Int→Int→Option (Bool × Bool × ByteArray × Int)
  | 0,_,_,_,_,_,_=>none
  | k+1,x6,x7,BL,wS,BM,BN=>if x7<0 then ((aJ.f k x6 1).bind fun MZ=>(if MZ=true then (aA.j1 k x6 x7 BL wS BM BN) else ((bn.f k x6 1).bind fun Na=>(aA.l0 k Na (wrap64 (x7+1)) BL wS BM BN)))) else (aA.j1 k x6 x7 BL wS BM BN)
end
def aA.f (k:Nat) (a0:Int) (a1:Int):Option (Bool × Bool × ByteArray × Int):=(fJ.f k a0 a1).bind fun AY=>(if AY.1=2 then (some (true,false,(⟨#[]⟩:ByteArray),0)) else (if AY.1=0 then (some (false,false,(⟨#[48]⟩:ByteArray),0)) else ((dP.f k AY.2.2.2).bind fun adJ=>(aA.l0 k adJ (wrap64 (AY.2.2.1 - 63)) AY.1 AY.2.1 AY.2.2.1 AY.2.2.2))))
theorem aA.calls (k:Nat) (a0:Int) (a1:Int) (r1:Bool) (r2:Bool) (r3:ByteArray) (r4:Int) (w:World) (h:aA.f k a0 a1=some (r1,r2,r3,r4)) :
    Calls Tryz.prog 54 #[.int .i64 a0, .int .u64 a1] w fun e w'=>e = .returned (.agg #[.bool r1, .bool r2, .string r3, .int .i64 r4])∧Below w.heap.size w w':=by
 have Ql:=Tryz.underlying23
 have ad4:=Tryz.underlying77
 have HB:=am (Below.refl w.heap.size w)
 have H:=am h
 unfold aA.f at H
 clear h
 replace H:=zo H
 obtain ⟨⟨Zj,Ib,WJ,Zk⟩,A3,H⟩:=H
 try dsimp only at H
 replace H:=zsk H
 rcases H with ⟨kM,rY,H⟩|⟨kM,rY,c4,H⟩
 obtain ⟨rfl,rfl,rfl,rfl⟩:=zJ4 H
 rotate_left
 replace H:=zsk H
 rcases H with ⟨mY,tN,H⟩|⟨mY,tN,c11,H⟩
 obtain ⟨rfl,rfl,rfl,rfl⟩:=zJ4 H
 rotate_left
 ·replace H:=zo H
  obtain ⟨adJ,A18,H⟩:=H
  go_enter Tryz.func54,Tryz.ntmps54
  go_upto_block 0 with (first|((with_reducible refine ay (N:=4) rfl ?_);refine zx 4 23 #[.bool false, .bool false, .string (⟨#[]⟩:ByteArray), .int .i64 0] ?_;intro Ea hg w20 hbox hb;have fV:=am (hbox);have ajC:=zG hg HB;have ajD:=zG hg HB;replace HB:=zBs HB hb;clear hb hbox hg)|((with_reducible refine af (f:=57) rfl ?_);refine zc (some 12) Tryz.func57 _ (fJ.calls _ _ _ _ _ _ _ _ A3.out) ?_;rintro e w21 ⟨rfl,hb⟩;refine ⟨_,rfl,?_⟩;replace fV:=zKb fV hb;replace HB:=zBs HB hb;clear hb)|((with_reducible refine ay (N:=5) rfl ?_);refine zx 5 77 #[.int .i64 0, .bool false, .int .i64 0, .int .u64 0] ?_;intro WL hg w22 hbox hb;have jh:=am (hbox);have ajE:=zG hg HB;have ajF:=zG hg HB;replace HB:=zBs HB hb;have rD:=zNl hg fV;have rE:=zNg hg fV;replace fV:=zKb fV hb;clear hb hbox hg;have amA:=rE.out;have amB:=rD.out;obtain ⟨_,_,_,_,_,_,_,_⟩:=zf4 jh)|((with_reducible refine af (f:=84) rfl ?_);refine zc (some 23) Tryz.func84 _ (dP.calls _ _ _ _ A18.out) ?_;rintro e w25 ⟨aEl,rfl,ho0,hb⟩;refine ⟨_,rfl,?_⟩;have ajG:=am (Kd.eP ho0 (zS HB));replace fV:=zKb fV hb;replace jh:=am (bU (zKp jh) hb);replace HB:=zBs HB hb;clear hb ho0;obtain ⟨_,_,_,_,_,_,_,_⟩:=zf4 jh))
  (try simp only [Act.put,List.setIfInBounds_toArray,List.set_cons_zero,List.set_cons_succ])
  go_cut [6,7] (fun v6 v7 wc => ∃ (kq:Nat) (QX:List Int) (Nb:Int),v7 = .int .i64 Nb∧ae (aA.j1 kq QX Nb Zj Ib WJ Zk=some (r1,r2,r3,r4))∧ae (kq≤k)∧ae (Kd.R (Kd.int .i64) 3 wc w.heap.size (fun _=>True) v6 QX)∧ae (wc.heap[Ea]? = some (.cells #[.bool false, .bool false, .string (⟨#[]⟩:ByteArray), .int .i64 0] 23 (0,0)))∧ae (wc.heap[WL]? = some (.cells #[.int .i64 Zj, .bool Ib, .int .i64 WJ, .int .u64 Zk] 77 (0,0)))∧ae (Below w.heap.size w wc))
  case first =>
   go_wp2
   go_loopg [6,7] k (fun kq v6 v7 w' => ∃ (lX:List Int) (kR:Int),v7 = .int .i64 kR∧ae (aA.l0 kq lX kR Zj Ib WJ Zk=some (r1,r2,r3,r4))∧ae (kq≤k)∧ae (Kd.R (Kd.int .i64) 3 w' w.heap.size (fun _=>True) v6 lX)∧ae (w'.heap[Ea]? = some (.cells #[.bool false, .bool false, .string (⟨#[]⟩:ByteArray), .int .i64 0] 23 (0,0)))∧ae (w'.heap[WL]? = some (.cells #[.int .i64 Zj, .bool Ib, .int .i64 WJ, .int .u64 Zk] 77 (0,0)))∧ae (Below w.heap.size w w'))
   case atStart=>exact ⟨(adJ),(wrap64 (WJ - 63)),z1,H,zL,⟨zR ajG⟩,⟨zK fV⟩,⟨zK jh⟩,⟨zB HB⟩⟩
   clear H
   obtain ⟨lX,kR,rfl,H,HK1,kN,fV,jh,HB⟩:=hrel
   obtain _|k1:=gk
   ·exact zz H rfl
   simp only [aA.l0] at H
   replace H:=zsd H
   rcases H with ⟨Ew,H⟩|⟨Ew,H⟩
   (first|rw [Ew]|(simp only [bI,dV];rw [Ew])|rw [UH]|skip)
   replace H:=zo H
   obtain ⟨MZ,A28,H⟩:=H
   cases MZ
   replace H:=zb0 H
   replace H:=zo H
   obtain ⟨Na,A31,H⟩:=H
   obtain ⟨awq,awr,aEm⟩:=Kd.eF kN.out
   subst aEm
   rotate_left
   replace H:=zb1 H
   obtain ⟨ZL,QZ,adV⟩:=Kd.eF kN.out
   subst adV
   rotate_left
   (first|rw [Ew]|(simp only [bI,dV];rw [Ew])|rw [UH]|skip)
   rotate_left
   all_goals (go_wp2_with (first|((with_reducible refine af (f:=108) rfl ?_);refine zc (some 30) Tryz.func108 #[.slice awq lX.length awr, .int .i64 1] (aJ.calls _ _ _ _ _ _ _ (zC ((Kd.aW kN.out).2.2)) ((Kd.aW kN.out).2.1) A28.out) ?_;rintro e w' ⟨rfl,⟨nd,rfl⟩⟩;refine ⟨_,rfl,?_⟩)|((with_reducible refine af (f:=109) rfl ?_);refine zc (some 33) Tryz.func109 #[.slice awq lX.length awr, .int .i64 1] (bn.calls _ _ _ _ _ _ _ (zC ((Kd.aW kN.out).2.2)) ((Kd.aW kN.out).2.1) A31.out) ?_;rintro e w33 ⟨aEn,rfl,ho0,hb⟩;refine ⟨_,rfl,?_⟩;have ajH:=am (Kd.eP (Kd.lQ ho0 (Kd.sU (zR kN))) (zS HB));replace kN:=am (Kd.iM (zR kN) (Kd.gV ho0) hb);replace fV:=zKb fV hb;replace jh:=zKb jh hb;replace HB:=zBs HB hb;clear hb ho0)|((with_reducible refine af (f:=108) rfl ?_);refine zc (some 30) Tryz.func108 #[.slice ZL lX.length QZ, .int .i64 1] (aJ.calls _ _ _ _ _ _ _ (zC ((Kd.aW kN.out).2.2)) ((Kd.aW kN.out).2.1) A28.out) ?_;rintro e w' ⟨rfl,⟨nd,rfl⟩⟩;refine ⟨_,rfl,?_⟩)))
   ·go_roundg k1
    case measure=>have:=HK1.out;omega
    case rel=>exact ⟨(Na),(wrap64 (kR+1)),z1,H,(zH HK1),⟨by (with_reducible repeat (first|apply Kd.dE|apply Kd.dn|apply Kd.dY));exact Kd.dL ajH.out (fun _ hk=>trivial)⟩,⟨zK fV⟩,⟨zK jh⟩,⟨zB HB⟩⟩
   ·go_meet
    case rel=>exact ⟨_,(lX),(kR),z1,H,⟨by have:=HK1.out;first|omega|exact Nat.le_refl _⟩,⟨zR kN⟩,⟨zK fV⟩,⟨zK jh⟩,⟨zB HB⟩⟩
   go_meet
   case rel=>exact ⟨_,(lX),(kR),z1,H,⟨by have:=HK1.out;first|omega|exact Nat.le_refl _⟩,⟨zR kN⟩,⟨zK fV⟩,⟨zK jh⟩,⟨zB HB⟩⟩
  case rest =>
   obtain ⟨kq,QX,Nb,rfl,H,ag3,kN,fV,jh,HB⟩:=hcut
   obtain _|an1:=kq
   ·exact zz H rfl
   simp only [aA.j1] at H
   replace H:=zf H
   rcases H with ⟨QJ,H⟩|⟨QJ,H⟩
   replace H:=zo H
   obtain ⟨QU,A35,H⟩:=H
   replace H:=zo H
   obtain ⟨QV,A36,H⟩:=H
   replace H:=zo H
   obtain ⟨⟨ar0,ar1,ar2,ar4⟩,A37,H⟩:=H
   try dsimp only at H
   obtain ⟨rfl,rfl,rfl,rfl⟩:=zJ4 H
   have arO:=rE.out
   have arP:=rD.out
   obtain ⟨_,_,_,_,_,_,_,_⟩:=zf4 jh
   rotate_left
   replace H:=zo H
   obtain ⟨WI,A51,H⟩:=H
   replace H:=zo H
   obtain ⟨QW,A52,H⟩:=H
   replace H:=zo H
   obtain ⟨MX,A53,H⟩:=H
   replace H:=zo H
   obtain ⟨⟨ar5,ar6,ar7,ar8⟩,A54,H⟩:=H
   try dsimp only at H
   obtain ⟨rfl,rfl,rfl,rfl⟩:=zJ4 H
   have arx:=rE.out
   have ary:=rD.out
   obtain ⟨_,_,_,_,_,_,_,_⟩:=zf4 jh
   rotate_left
   all_goals (go_wp2_with (first|((with_reducible refine ay (N:=9) rfl ?_);refine zx 9 23 #[.bool false, .bool false, .string (⟨#[]⟩:ByteArray), .int .i64 0] ?_;intro kP hg w57 hbox hb;replace kN:=zRb kN hb;have kH:=am (hbox);have aws:=zG hg HB;have awt:=zG hg HB;replace HB:=zBs HB hb;have Nc:=zNl hg fV;have Nh:=zNg hg fV;replace fV:=zKb fV hb;have Nk:=zNl hg jh;have Nl:=zNg hg jh;replace jh:=zKb jh hb;clear hb hbox hg;have aEo:=Nh.out;have aEp:=Nc.out;have arE:=Nl.out;have arF:=Nk.out;obtain ⟨_,_,_,_,_,_,_,_⟩:=zf4 kH)|((with_reducible refine af (f:=111) rfl ?_);refine zc (some 49) Tryz.func111 _ (cu.calls _ _ _ _ A51.out) ?_;rintro e w61 ⟨aEq,rfl,ho0,hb⟩;refine ⟨_,rfl,?_⟩;have xe:=am (Kd.eP (Kd.lQ ho0 (Kd.sU (by (with_reducible repeat (first|apply Kd.dE|apply Kd.dn|apply Kd.dY));exact (Kd.dL (Kd.oJ (p:=⟨kP,3,none⟩) (Kd.oJ (p:=⟨kP,2,none⟩) (Kd.oJ (p:=⟨kP,1,none⟩) (Kd.oJ (p:=⟨kP,0,none⟩) (Kd.nG kN.out kH.out (by decide)) (fun _ hk=>hk.2) (.bool false)) (fun _ hk=>hk.2) (.bool Ib)) (fun _ hk=>hk.2) (.string (⟨#[]⟩:ByteArray))) (fun _ hk=>hk.2) (.int .i64 0)) (fun _ h_=>h_.1))))) (zS HB));replace kN:=am (Kd.iM (by (with_reducible repeat (first|apply Kd.dE|apply Kd.dn|apply Kd.dY));exact (Kd.dL (Kd.oJ (p:=⟨kP,3,none⟩) (Kd.oJ (p:=⟨kP,2,none⟩) (Kd.oJ (p:=⟨kP,1,none⟩) (Kd.oJ (p:=⟨kP,0,none⟩) (Kd.nG kN.out kH.out (by decide)) (fun _ hk=>hk.2) (.bool false)) (fun _ hk=>hk.2) (.bool Ib)) (fun _ hk=>hk.2) (.string (⟨#[]⟩:ByteArray))) (fun _ hk=>hk.2) (.int .i64 0)) (fun _ h_=>h_.1))) (Kd.gV ho0) hb);replace fV:=zKb fV hb;replace jh:=zKb jh hb;replace kH:=am (bU (zKp kH) hb);replace HB:=zBs HB hb;clear hb ho0;obtain ⟨aEr,aEs,aEt⟩:=Kd.eF kN.out;subst aEt;obtain ⟨akk,adn,Q9⟩:=Kd.eF xe.out;subst Q9)|((with_reducible refine af (f:=86) rfl ?_);refine zc (some 50) Tryz.func86 #[.slice aEr QX.length aEs, .slice akk WI.length adn] (az.calls _ _ _ _ _ _ _ _ _ (zC ((Kd.aW kN.out).2.2)) ((Kd.aW kN.out).2.1) (zC ((Kd.aW xe.out).2.2)) ((Kd.aW xe.out).2.1) A52.out) ?_;rintro e w64 ⟨aEu,rfl,ho0,hb⟩;refine ⟨_,rfl,?_⟩;have FP:=am (Kd.eP (Kd.lQ (Kd.lQ ho0 (Kd.sU (zR kN))) (Kd.sU (zR xe))) (zS HB));replace kN:=am (Kd.iM (zR kN) (Kd.gV ho0) hb);replace xe:=am (Kd.iM (zR xe) (Kd.gV ho0) hb);replace fV:=zKb fV hb;replace jh:=zKb jh hb;replace kH:=zKb kH hb;replace HB:=zBs HB hb;clear hb ho0;obtain ⟨awu,awv,aEv⟩:=Kd.eF FP.out;subst aEv)|((with_reducible refine af (f:=110) rfl ?_);refine zc (some 51) Tryz.func110 #[.slice awu QW.length awv] (ax.calls _ (fun k_=>some k_=(.slice awu QW.length awv:Value).ownBlock) _ _ _ _ _ (Kd.R_V (Kd.jY rfl (Kd.nG (Kd.nG (Kd.nG (FP.out) fV.out (by decide)) jh.out (by decide)) kH.out (by decide)))) A53.out) ?_;rintro e w66 ⟨rfl,hb⟩;refine ⟨_,rfl,?_⟩;replace kN:=zRb kN hb;replace xe:=zRb xe hb;replace FP:=zRb FP hb;replace fV:=zKb fV hb;replace jh:=zKb jh hb;replace kH:=zKb kH hb;replace HB:=zBs HB hb;clear hb;obtain ⟨_,_,_,_,_,_,_,_⟩:=zf4 kH)|((with_reducible refine af (f:=72) rfl ?_);refine zc (some 56) Tryz.func72 _ (ah.calls _ _ _ _ _ _ _ _ _ _ A54.out) ?_;rintro e w68 ⟨rfl,hb⟩;refine ⟨_,rfl,?_⟩;replace kN:=am (Kd.sH (by (with_reducible repeat (first|apply Kd.dE|apply Kd.dn|apply Kd.dY));exact (Kd.dL (Kd.oJ (p:=⟨kP,3,none⟩) (Kd.oJ (p:=⟨kP,2,none⟩) (Kd.nG kN.out kH.out (by decide)) (fun _ hk=>hk.2) (.string MX)) (fun _ hk=>hk.2) (.int .i64 Nb)) (fun _ h_=>h_.1))) hb);replace xe:=am (Kd.sH (by (with_reducible repeat (first|apply Kd.dE|apply Kd.dn|apply Kd.dY));exact (Kd.dL (Kd.oJ (p:=⟨kP,3,none⟩) (Kd.oJ (p:=⟨kP,2,none⟩) (Kd.nG xe.out kH.out (by decide)) (fun _ hk=>hk.2) (.string MX)) (fun _ hk=>hk.2) (.int .i64 Nb)) (fun _ h_=>h_.1))) hb);replace FP:=am (Kd.sH (by (with_reducible repeat (first|apply Kd.dE|apply Kd.dn|apply Kd.dY));exact (Kd.dL (Kd.oJ (p:=⟨kP,3,none⟩) (Kd.oJ (p:=⟨kP,2,none⟩) (Kd.nG FP.out kH.out (by decide)) (fun _ hk=>hk.2) (.string MX)) (fun _ hk=>hk.2) (.int .i64 Nb)) (fun _ h_=>h_.1))) hb);replace fV:=zKb fV hb;replace jh:=zKb jh hb;replace kH:=am (bU (zKp kH) hb);replace HB:=zBs HB hb;clear hb;obtain ⟨_,_,_,_,_,_,_,_⟩:=zf4 fV)|((with_reducible refine af (f:=90) rfl ?_);obtain ⟨aEw,aqC,akj⟩:=Kd.eF kN.out;subst akj;refine zc (some 43) Tryz.func90 #[.slice aEw QX.length aqC, .int .i64 Nb] (iE.calls _ _ _ _ _ _ _ ?fF ((Kd.aW kN.out).2.1) A35.out) ?_;(case fF=>refine (Kd.aW (e:=3) (base:=w.heap.size) (ok:=fun k_=>True) (n:=QX.length) (c:=aqC) ?_).2.2;exact (by (with_reducible repeat (first|apply Kd.dE|apply Kd.dn|apply Kd.dY));exact (Kd.dL (Kd.oJ (p:=⟨kP,3,none⟩) (Kd.oJ (p:=⟨kP,2,none⟩) (Kd.oJ (p:=⟨kP,1,none⟩) (Kd.oJ (p:=⟨kP,0,none⟩) (Kd.nG kN.out kH.out (by decide)) (fun _ hk=>hk.2) (.bool false)) (fun _ hk=>hk.2) (.bool Ib)) (fun _ hk=>hk.2) (.string (⟨#[]⟩:ByteArray))) (fun _ hk=>hk.2) (.int .i64 0)) (fun _ h_=>h_.1))));rintro e w45 ⟨aEx,rfl,ho0,hb⟩;refine ⟨_,rfl,?_⟩;have FQ:=am (Kd.eP (Kd.lQ ho0 (Kd.sU (by (with_reducible repeat (first|apply Kd.dE|apply Kd.dn|apply Kd.dY));exact (Kd.dL (Kd.oJ (p:=⟨kP,3,none⟩) (Kd.oJ (p:=⟨kP,2,none⟩) (Kd.oJ (p:=⟨kP,1,none⟩) (Kd.oJ (p:=⟨kP,0,none⟩) (Kd.nG kN.out kH.out (by decide)) (fun _ hk=>hk.2) (.bool false)) (fun _ hk=>hk.2) (.bool Ib)) (fun _ hk=>hk.2) (.string (⟨#[]⟩:ByteArray))) (fun _ hk=>hk.2) (.int .i64 0)) (fun _ h_=>h_.1))))) (zS HB));replace kN:=am (Kd.iM (by (with_reducible repeat (first|apply Kd.dE|apply Kd.dn|apply Kd.dY));exact (Kd.dL (Kd.oJ (p:=⟨kP,3,none⟩) (Kd.oJ (p:=⟨kP,2,none⟩) (Kd.oJ (p:=⟨kP,1,none⟩) (Kd.oJ (p:=⟨kP,0,none⟩) (Kd.nG kN.out kH.out (by decide)) (fun _ hk=>hk.2) (.bool false)) (fun _ hk=>hk.2) (.bool Ib)) (fun _ hk=>hk.2) (.string (⟨#[]⟩:ByteArray))) (fun _ hk=>hk.2) (.int .i64 0)) (fun _ h_=>h_.1))) (Kd.gV ho0) hb);replace fV:=zKb fV hb;replace jh:=zKb jh hb;replace kH:=am (bU (zKp kH) hb);replace HB:=zBs HB hb;clear hb ho0;obtain ⟨aww,awx,aEy⟩:=Kd.eF FQ.out;subst aEy)|((with_reducible refine af (f:=110) rfl ?_);refine zc (some 44) Tryz.func110 #[.slice aww QU.length awx] (ax.calls _ (fun k_=>some k_=(.slice aww QU.length awx:Value).ownBlock) _ _ _ _ _ (Kd.R_V (Kd.jY rfl (Kd.nG (Kd.nG (Kd.nG (FQ.out) fV.out (by decide)) jh.out (by decide)) kH.out (by decide)))) A36.out) ?_;rintro e w47 ⟨rfl,hb⟩;refine ⟨_,rfl,?_⟩;replace kN:=zRb kN hb;replace FQ:=zRb FQ hb;replace fV:=zKb fV hb;replace jh:=zKb jh hb;replace kH:=zKb kH hb;replace HB:=zBs HB hb;clear hb;obtain ⟨_,_,_,_,_,_,_,_⟩:=zf4 kH)|((with_reducible refine af (f:=72) rfl ?_);refine zc (some 56) Tryz.func72 _ (ah.calls _ _ _ _ _ _ _ _ _ _ A37.out) ?_;rintro e w49 ⟨rfl,hb⟩;refine ⟨_,rfl,?_⟩;replace kN:=am (Kd.sH (by (with_reducible repeat (first|apply Kd.dE|apply Kd.dn|apply Kd.dY));exact (Kd.dL (Kd.oJ (p:=⟨kP,2,none⟩) (Kd.nG kN.out kH.out (by decide)) (fun _ hk=>hk.2) (.string QV)) (fun _ h_=>h_.1))) hb);replace FQ:=am (Kd.sH (by (with_reducible repeat (first|apply Kd.dE|apply Kd.dn|apply Kd.dY));exact (Kd.dL (Kd.oJ (p:=⟨kP,2,none⟩) (Kd.nG FQ.out kH.out (by decide)) (fun _ hk=>hk.2) (.string QV)) (fun _ h_=>h_.1))) hb);replace fV:=zKb fV hb;replace jh:=zKb jh hb;replace kH:=am (bU (zKp kH) hb);replace HB:=zBs HB hb;clear hb;obtain ⟨_,_,_,_,_,_,_,_⟩:=zf4 fV)))
   ·refine bodyPost_ret (results_cell_row rfl _ _ Ea 23 #[.bool ar0, .bool ar1, .string ar2, .int .i64 ar4] (0,0) _ rfl (zKp fV) Tryz.underlying23 rfl (by kernel_rfl)) rfl ?_
    exact ⟨z2,zB HB⟩
   refine bodyPost_ret (results_cell_row rfl _ _ Ea 23 #[.bool ar5, .bool ar6, .string ar7, .int .i64 ar8] (0,0) _ rfl (zKp fV) Tryz.underlying23 rfl (by kernel_rfl)) rfl ?_
   exact ⟨z2,zB HB⟩
 all_goals (go_enter Tryz.func54,Tryz.ntmps54;go_wp2_with (first|((with_reducible refine ay (N:=4) rfl ?_);refine zx 4 23 #[.bool false, .bool false, .string (⟨#[]⟩:ByteArray), .int .i64 0] ?_;intro Ea hg w5 hbox hb;have fV:=am (hbox);have ajC:=zG hg HB;have ajD:=zG hg HB;replace HB:=zBs HB hb;clear hb hbox hg)|((with_reducible refine af (f:=57) rfl ?_);refine zc (some 12) Tryz.func57 _ (fJ.calls _ _ _ _ _ _ _ _ A3.out) ?_;rintro e w6 ⟨rfl,hb⟩;refine ⟨_,rfl,?_⟩;replace fV:=zKb fV hb;replace HB:=zBs HB hb;clear hb)|((with_reducible refine ay (N:=5) rfl ?_);refine zx 5 77 #[.int .i64 0, .bool false, .int .i64 0, .int .u64 0] ?_;intro WL hg w7 hbox hb;have jh:=am (hbox);have ajE:=zG hg HB;have ajF:=zG hg HB;replace HB:=zBs HB hb;have rD:=zNl hg fV;have rE:=zNg hg fV;replace fV:=zKb fV hb;clear hb hbox hg;have aup:=rE.out;have auq:=rD.out;obtain ⟨_,_,_,_,_,_,_,_⟩:=zf4 jh;obtain ⟨_,_,_,_,_,_,_,_⟩:=zf4 fV)))
 ·refine bodyPost_ret (results_cell_row rfl _ _ Ea 23 #[.bool true, .bool false, .string (⟨#[]⟩:ByteArray), .int .i64 0] (0,0) _ rfl (zKp fV) Tryz.underlying23 rfl (by kernel_rfl)) rfl ?_
  exact ⟨z2,zB HB⟩
 refine bodyPost_ret (results_cell_row rfl _ _ Ea 23 #[.bool false, .bool false, .string (⟨#[48]⟩:ByteArray), .int .i64 0] (0,0) _ rfl (zKp fV) Tryz.underlying23 rfl (by kernel_rfl)) rfl ?_
 exact ⟨z2,zB HB⟩
def fB.f (k:Nat) (a0:Int) (a1:Int):Option (Bool × Bool × ByteArray × Int × Int):=(fK.f a0).bind fun adK=>(if adK=true then ((aA.f k a0 a1).bind fun OJ=>(some (OJ.1,OJ.2.1,OJ.2.2.1,OJ.2.2.2,0))) else (some (false,false,(⟨#[]⟩:ByteArray),0,2)))
theorem fB.calls (k:Nat) (a0:Int) (a1:Int) (r1:Bool) (r2:Bool) (r3:ByteArray) (r4:Int) (r5:Int) (w:World) (h:fB.f k a0 a1=some (r1,r2,r3,r4,r5)) :
    Calls Tryz.prog 18 #[.int .i64 a0, .int .u64 a1] w fun e w'=>e = .returned (.tuple #[.agg #[.bool r1, .bool r2, .string r3, .int .i64 r4], .int .i64 r5])∧Below w.heap.size w w':=by
 have Ql:=Tryz.underlying23
 have HB:=am (Below.refl w.heap.size w)
 have H:=am h
 unfold fB.f at H
 clear h
 replace H:=zo H
 obtain ⟨adK,A3,H⟩:=H
 cases adK
 replace H:=zb0 H
 obtain ⟨rfl,rfl,rfl,rfl,rfl⟩:=zJ5 H
 rotate_left
 replace H:=zb1 H
 replace H:=zo H
 obtain ⟨⟨ar9,asa,asb,asc⟩,A5,H⟩:=H
 try dsimp only at H
 obtain ⟨rfl,rfl,rfl,rfl,rfl⟩:=zJ5 H
 rotate_left
 all_goals (go_enter Tryz.func18,Tryz.ntmps18;go_wp2_with (first|((with_reducible refine ay (N:=4) rfl ?_);refine zx 4 23 #[.bool false, .bool false, .string (⟨#[]⟩:ByteArray), .int .i64 0] ?_;intro WM hg w6 hbox hb;have yY:=am (hbox);have awy:=zG hg HB;have awz:=zG hg HB;replace HB:=zBs HB hb;clear hb hbox hg)|((with_reducible refine af (f:=36) rfl ?_);refine zc (some 8) Tryz.func36 _ (fK.calls _ _ _ A3.out) ?_;rintro e w' ⟨rfl,⟨nd,rfl⟩⟩;refine ⟨_,rfl,?_⟩;(try (rw [iT w6];generalize hq_:World.drewN w6 _=w6;have n0_:ae (w6.heap[WM]? = some (.cells #[.bool false, .bool false, .string (⟨#[]⟩:ByteArray), .int .i64 0] 23 (0,0))):=⟨by rw [← hq_];exact (zK yY)⟩;have n1_:ae (Below w.heap.size w w6):=⟨by rw [← hq_];exact (zB HB)⟩;clear yY HB hq_;have yY:=n0_;have HB:=n1_;clear n0_ n1_));obtain ⟨_,_,_,_,_,_,_,_⟩:=zf4 yY)|((with_reducible refine af (f:=54) rfl ?_);refine zc (some 14) Tryz.func54 _ (aA.calls _ _ _ _ _ _ _ _ A5.out) ?_;rintro e w7 ⟨rfl,hb⟩;refine ⟨_,rfl,?_⟩;replace yY:=zKb yY hb;replace HB:=zBs HB hb;clear hb;obtain ⟨_,_,_,_,_,_,_,_⟩:=zf4 yY)))
 ·refine bodyPost_ret (bJ rfl _ _ WM 23 #[.bool false, .bool false, .string (⟨#[]⟩:ByteArray), .int .i64 0] (0,0) _ rfl (zKp yY) Tryz.underlying23 rfl (by kernel_rfl)) rfl ?_
  exact ⟨z2,zB HB⟩
 refine bodyPost_ret (bJ rfl _ _ WM 23 #[.bool ar9, .bool asa, .string asb, .int .i64 asc] (0,0) _ rfl (zKp yY) Tryz.underlying23 rfl (by kernel_rfl)) rfl ?_
 exact ⟨z2,zB HB⟩
def bC.l0:Nat→Int→ByteArray→Int→Option (ByteArray)
  | 0,_,_,_=>none
  | k+1,x0,x3,x4=>if x4<x0 then (if x3.size+1≤9223372036854775807 then (bC.l0 k x0 (x3 ++ (⟨#[48]⟩:ByteArray)) (wrap64 (x4+1))) else (none)) else (some x3)
def bC.f (k:Nat) (a0:Int):Option (ByteArray):=bC.l0 k a0 (⟨#[]⟩:ByteArray) 0
theorem bC.calls (k:Nat) (a0:Int) (r:ByteArray) (w:World) (h:bC.f k a0=some r) :
    Calls Tryz.prog 112 #[.int .i64 a0] w fun e w'=>e = .returned (.string r)∧dX w w':=by
 have H:=am h
 unfold bC.f at H
 clear h
 go_enter Tryz.func112,Tryz.ntmps112
 go_wp2
 go_loopg [3,4] k (fun kq v3 v4 w' => ∃ (gY:ByteArray) (wP:Int),v3 = .string gY∧v4 = .int .i64 wP∧ae (bC.l0 kq a0 gY wP=some r)∧ae (kq≤k)∧dX w w')
 case atStart=>exact ⟨((⟨#[]⟩:ByteArray)),(0),z1,z1,H,zL,z4⟩
 clear H
 obtain ⟨gY,wP,rfl,rfl,H,HK1,⟨m1,rfl⟩⟩:=hrel
 obtain _|k1:=gk
 ·exact zz H rfl
 simp only [bC.l0] at H
 replace H:=zsd H
 rcases H with ⟨uU,H⟩|⟨uU,H⟩
 replace H:=zi H
 obtain ⟨c3,H⟩:=H
 have pg:=eq_true c3
 have Jv:decide (gY.size+1≤9223372036854775807)=true:=decide_eq_true c3
 try have ajU:(9223372036854775807<gY.size+1)=False:=eq_false (Nat.not_lt.2 c3)
 try have c3m:(9223372036854775807<gY.size+1)=False:=eq_false (by have h_:=c3;have l1_:(⟨#[46]⟩:ByteArray).size=1:=rfl;have l2_:(⟨#[48,46]⟩:ByteArray).size=2:=rfl;have l3_:(⟨#[101]⟩:ByteArray).size=1:=rfl;(try simp only [ByteArray.size_append,ByteArray.size_extract] at h_);omega)
 try have c3n:(9223372036854775807<gY.size+1)=False:=eq_false (by have h_:=c3;have l1_:(⟨#[46]⟩:ByteArray).size=1:=rfl;have l2_:(⟨#[48,46]⟩:ByteArray).size=2:=rfl;have l3_:(⟨#[101]⟩:ByteArray).size=1:=rfl;(try simp only [ByteArray.size_append,ByteArray.size_extract] at h_);omega)
 rotate_left
 obtain rfl:=Option.some.inj H.out
 rotate_left
 all_goals (go_wp2)
 ·go_roundg k1
  case measure=>have:=HK1.out;omega
  case rel=>exact ⟨(gY ++ (⟨#[48]⟩:ByteArray)),(wrap64 (wP+1)),z1,z1,H,(zH HK1),z4⟩
 go_ret
 exact ⟨z1,z4⟩
end Go.Proofs.Yy.PTx
end
