/- Part 21 of what the proof needs. -/
import Derived.Test.YtpfnkbnepcchgaaGreatDoorKTEAT
set_option linter.unusedSimpArgs false
set_option linter.unusedVariables false
section
set_option maxHeartbeats 8000000
set_option maxRecDepth 100000
namespace Go.Proofs.Yy.PTx
open Go.RowKit Go.Proofs.Yy.Z Go.Proofs.Yw.PrintWords Go.Proofs.Yw.PrintLast Go.Proofs.Yw.PrintMore
open Go.Proofs.Yy.M
attribute [local go_sem] dw dQ lD lF lC lG
attribute [local go_sem] gy gz ja jc fC fD gQ gK
def Ce.f (k:Nat) (l0:List Int) (l1:List Int):Option (List Int × List Int × Option Int):=(bG.f k l0).bind fun VU=>((bG.f k l1).bind fun MO=>(if (MO.length:Int)=0 then (some (([]:List Int),([]:List Int),some 4)) else (if (MO.length:Int)=1 then (if 0<(MO.length:Int) then ((iy.f k VU (rd MO 0)).bind fun aiQ=>((rV.f k aiQ.2).bind fun avD=>(some (aiQ.1,avD,none)))) else (none)) else ((sD.f k VU MO).bind fun avE=>(if avE<0 then (if ([]:List Int).length+VU.length<17592186044416 then (some (([]:List Int),(([]:List Int) ++ VU),none)) else (none)) else ((cZ.f k VU MO).bind fun aiR=>(some (aiR.1,aiR.2,none))))))))
theorem Ce.calls (k:Nat) (P0_:Nat→Prop) (A0:Option Addr) (c0:Nat) (l0:List Int) (P1_:Nat→Prop) (A1:Option Addr) (c1:Nat) (l1:List Int) (r1:List Int) (r2:List Int) (r3:Option Int) (w:World) (hs0:Kd.V (Kd.int .u64) 25 w w.heap.size (fun k_=>P0_ k_) (.slice A0 l0.length c0) l0) (hs1:Kd.V (Kd.int .u64) 25 w w.heap.size (fun k_=>P1_ k_) (.slice A1 l1.length c1) l1) (h:Ce.f k l0 l1=some (r1,r2,r3)) :
    Calls Tryz.prog 97 #[.slice A0 l0.length c0, .slice A1 l1.length c1] w fun e w' => ∃ v0_ v1_:Value,e = .returned (.tuple #[v0_,v1_,qm r3])∧Kd.V (Kd.int .u64) 25 w' w.heap.size (fun k_=>((P0_ k_∨P1_ k_)∨w.heap.size≤k_)) v0_ r1∧Kd.V (Kd.int .u64) 25 w' w.heap.size (fun k_=>((P0_ k_∨P1_ k_)∨w.heap.size≤k_)) v1_ r2∧Below w.heap.size w w':=by
 have yL:=Tryz.underlying27
 have hu64:=Tryz.underlying64
 have HO0:=am (show Kd.V (Kd.int .u64) 25 w w.heap.size (fun k_=>((P0_ k_∨P1_ k_)∨w.heap.size≤k_)) (.slice A0 l0.length c0) l0 from Kd.bD hs0 (fun k_ hk => .inl (.inl hk)))
 have HO1:=am (show Kd.V (Kd.int .u64) 25 w w.heap.size (fun k_=>((P0_ k_∨P1_ k_)∨w.heap.size≤k_)) (.slice A1 l1.length c1) l1 from Kd.bD hs1 (fun k_ hk => .inl (.inr hk)))
 have HB:=am (Below.refl w.heap.size w)
 have H:=am h
 unfold Ce.f at H
 clear h
 replace H:=zo H
 obtain ⟨VU,A3,H⟩:=H
 replace H:=zo H
 obtain ⟨MO,A4,H⟩:=H
 replace H:=zsk H
 rcases H with ⟨rG,xw,H⟩|⟨rG,xw,c5,H⟩
 obtain ⟨rfl,rfl,rfl⟩:=zJ3 H
 rotate_left
 have auN:¬ (MO = []):=fun h_=>c5 (by rw [h_];rfl)
 replace H:=zsk H
 rcases H with ⟨yI,Ed,H⟩|⟨yI,Ed,c9,H⟩
 replace H:=zi H
 obtain ⟨c10,H⟩:=H
 have qx:decide (0<(MO.length:Int))=true:=decide_eq_true c10
 have xx:decide (0<MO.length)=true:=decide_eq_true (by omega)
 clear c10
 replace H:=zo H
 obtain ⟨⟨aH4,aH5⟩,A11,H⟩:=H
 try dsimp only at H
 replace H:=zo H
 obtain ⟨avD,A12,H⟩:=H
 obtain ⟨rfl,rfl,rfl⟩:=zJ3 H
 rotate_left
 replace H:=zo H
 obtain ⟨avE,A19,H⟩:=H
 replace H:=zsd H
 rcases H with ⟨Vh,H⟩|⟨Vh,H⟩
 replace H:=zil H
 obtain ⟨aq4,H⟩:=H
 generalize aiS:(([]:List Int) ++ VU:List Int)=aH6 at H
 have aq5:=zY aiS
 clear aiS
 obtain ⟨rfl,rfl,rfl⟩:=zJ3 H
 rotate_left
 replace H:=zo H
 obtain ⟨⟨aH7,aH8⟩,A28,H⟩:=H
 try dsimp only at H
 obtain ⟨rfl,rfl,rfl⟩:=zJ3 H
 rotate_left
 all_goals (go_enter Tryz.func97,Tryz.ntmps97;go_wp2_with (first|((with_reducible refine af (f:=103) rfl ?_);refine zc (some 12) Tryz.func103 #[.slice A0 l0.length c0] (bG.calls _ (fun k_=>((P0_ k_∨P1_ k_)∨w.heap.size≤k_)) _ _ _ _ _ HO0.out A3.out) ?_;rintro e w13 ⟨aH9,rfl,ho0,hb⟩;refine ⟨_,rfl,?_⟩;replace HO0:=zVb HO0 hb;replace HO1:=zVb HO1 hb;have rf:=am (Kd.df (Kd.bD (ok':=fun k_=>((P0_ k_∨P1_ k_)∨w.heap.size≤k_)) ho0 (fun k_ hk_=>Or.elim hk_ (fun hs_=>hs_) (fun hn_=>(.inr (Nat.le_trans (zS HB) hn_))))) (zS HB));replace HB:=zBs HB hb;clear hb ho0)|((with_reducible refine af (f:=103) rfl ?_);refine zc (some 14) Tryz.func103 #[.slice A1 l1.length c1] (bG.calls _ (fun k_=>((P0_ k_∨P1_ k_)∨w.heap.size≤k_)) _ _ _ _ _ HO1.out A4.out) ?_;rintro e w14 ⟨aBG,rfl,ho0,hb⟩;refine ⟨_,rfl,?_⟩;replace HO0:=zVb HO0 hb;replace HO1:=zVb HO1 hb;replace rf:=zVb rf hb;have uV:=am (Kd.df (Kd.bD (ok':=fun k_=>((P0_ k_∨P1_ k_)∨w.heap.size≤k_)) ho0 (fun k_ hk_=>Or.elim hk_ (fun hs_=>hs_) (fun hn_=>(.inr (Nat.le_trans (zS HB) hn_))))) (zS HB));replace HB:=zBs HB hb;clear hb ho0;obtain ⟨agk,ad1,ad2⟩:=Kd.dG uV.out;subst ad2;have aq6:0≤(0:Int):=(by omega);have aq7:0<(MO.length:Int):=zD;obtain ⟨aBH,aBI,VV⟩:=Kd.dH (Kd.aX uV.out).2.2 0 aq6 aq7;cases aBI;have aBJ:(0<MO.length)=True:=eq_true (by omega);(try rw [show ((0:Int)).toNat=0 from rfl] at VV);(try rw [Addr.add_zero'] at VV);replace aq6:=eq_true aq6;replace aq7:=eq_true aq7;obtain ⟨Ez,Ad,LW⟩:=Kd.dG rf.out;subst LW)|((with_reducible refine af (f:=105) rfl ?_);refine zc (some 29) Tryz.func105 #[.slice Ez VU.length Ad, .int .u64 (rd MO 0)] (iy.calls _ _ _ _ _ _ _ _ (zC ((Kd.aX rf.out).2.2)) ((Kd.aX rf.out).2.1) A11.out) ?_;rintro e w17 ⟨aIa,rfl,ho0,hb⟩;refine ⟨_,rfl,?_⟩;replace HO0:=zVb HO0 hb;replace HO1:=zVb HO1 hb;replace rf:=zVb rf hb;replace uV:=zVb uV hb;have adp:=am (Kd.df (Kd.bD (ok':=fun k_=>((P0_ k_∨P1_ k_)∨w.heap.size≤k_)) ho0 (fun k_ hk_=>(.inr (Nat.le_trans (zS HB) hk_)))) (zS HB));replace HB:=zBs HB hb;clear hb ho0)|((with_reducible refine af (f:=48) rfl ?_);refine zc (some 34) Tryz.func48 _ (rV.calls _ _ _ _ A12.out) ?_;rintro e w18 ⟨aIb,rfl,ho0,hb⟩;refine ⟨_,rfl,?_⟩;replace HO0:=zVb HO0 hb;replace HO1:=zVb HO1 hb;replace rf:=zVb rf hb;replace uV:=zVb uV hb;replace adp:=zVb adp hb;have aq8:=am (Kd.df (Kd.bD (ok':=fun k_=>((P0_ k_∨P1_ k_)∨w.heap.size≤k_)) ho0 (fun k_ hk_=>(.inr (Nat.le_trans (zS HB) hk_)))) (zS HB));replace HB:=zBs HB hb;clear hb ho0)|((with_reducible refine af (f:=103) rfl ?_);refine zc (some 14) Tryz.func103 #[.slice A1 l1.length c1] (bG.calls _ (fun k_=>((P0_ k_∨P1_ k_)∨w.heap.size≤k_)) _ _ _ _ _ HO1.out A4.out) ?_;rintro e w23 ⟨aBG,rfl,ho0,hb⟩;refine ⟨_,rfl,?_⟩;replace HO0:=zVb HO0 hb;replace HO1:=zVb HO1 hb;replace rf:=zVb rf hb;have uV:=am (Kd.df (Kd.bD (ok':=fun k_=>((P0_ k_∨P1_ k_)∨w.heap.size≤k_)) ho0 (fun k_ hk_=>Or.elim hk_ (fun hs_=>hs_) (fun hn_=>(.inr (Nat.le_trans (zS HB) hn_))))) (zS HB));replace HB:=zBs HB hb;clear hb ho0;obtain ⟨WS,Q3,Qu⟩:=Kd.dG uV.out;subst Qu;obtain ⟨aoD,ahn,aeb⟩:=Kd.dG rf.out;subst aeb)|((with_reducible refine af (f:=153) rfl ?_);refine zc (some 38) Tryz.func153 #[.slice aoD VU.length ahn, .slice WS MO.length Q3] (sD.calls _ _ _ _ _ _ _ _ _ (zC ((Kd.aX rf.out).2.2)) ((Kd.aX rf.out).2.1) (zC ((Kd.aX uV.out).2.2)) ((Kd.aX uV.out).2.1) A19.out) ?_;rintro e w26 ⟨rfl,hb⟩;refine ⟨_,rfl,?_⟩;replace HO0:=zVb HO0 hb;replace HO1:=zVb HO1 hb;replace rf:=zVb rf hb;replace uV:=zVb uV hb;replace HB:=zBs HB hb;clear hb)|((with_reducible refine fG (b := .append) (xs:=#[.const (.slice none 0 0), .tmp 40]) rfl ?_);at_builtin;refine Kd.qG (Kd.int .u64) (w0:=w) w.heap.size rfl (.const (.slice none 0 0)) (.tmp 40) 88 25 (.int .u64 0) 8 rfl Tryz.underlying88 info25 rfl (by decide) (by omega) (.slice none 0 0) ([]:List Int) VU _ _ _ (fun k_=>(w.heap.size≤k_)) (fun _=>False) rfl rfl ?aO ?aR (fun _ _ h=>h) (fun _ h=>h.elim) ?aF ?aB ?aS ?aL ?_;(case aR=>repeat (first|exact (Kd.aX rf.out).2.2|(with_reducible refine Kd.ku ?_ _)|(with_reducible refine Kd.jZ ?_ _)|(with_reducible refine Kd.nC ?_)));(case aB=>exact (zB HB));(case aF=>exact (fun k_ hk=>(Nat.le_trans (zS HB) hk)));(case aO=>exact ((Kd.Gq _ _ _ _ (fun k_=>(w.heap.size≤k_)))));(case aS=>exact (zS HB));(case aL=>have:=aq4.out;omega);intro aIc w27 ho hb hg hat;rw [← aq5.out] at ho;replace HO0:=am (Kd.iO (Kd.nY (zV HO0)) hg hat);replace HO1:=am (Kd.iO (Kd.nY (zV HO1)) hg hat);replace rf:=am (Kd.iO (Kd.nY (zV rf)) hg hat);replace uV:=am (Kd.iO (Kd.nY (zV uV)) hg hat);replace HB:=am (hb);have aq9:=am (ho);clear ho hb hg hat)|((with_reducible refine af (f:=154) rfl ?_);refine zc (some 45) Tryz.func154 #[.slice aoD VU.length ahn, .slice WS MO.length Q3] (cZ.calls _ _ _ _ _ _ _ _ _ _ (zC ((Kd.aX rf.out).2.2)) ((Kd.aX rf.out).2.1) (zC ((Kd.aX uV.out).2.2)) ((Kd.aX uV.out).2.1) A28.out) ?_;rintro e w34 ⟨aId,aIe,rfl,ho0,ho1,hb⟩;refine ⟨_,rfl,?_⟩;replace HO0:=zVb HO0 hb;replace HO1:=zVb HO1 hb;replace rf:=zVb rf hb;replace uV:=zVb uV hb;have ara:=am (Kd.df (Kd.bD (ok':=fun k_=>((P0_ k_∨P1_ k_)∨w.heap.size≤k_)) ho0 (fun k_ hk_=>(.inr (Nat.le_trans (zS HB) hk_)))) (zS HB));have arb:=am (Kd.df (Kd.bD (ok':=fun k_=>((P0_ k_∨P1_ k_)∨w.heap.size≤k_)) ho1 (fun k_ hk_=>(.inr (Nat.le_trans (zS HB) hk_)))) (zS HB));replace HB:=zBs HB hb;clear hb ho0 ho1)))
 ·go_ret3
  exact ⟨_,_,z2,Kd.zg _ _ _ _ _,Kd.zg _ _ _ _ _,zB HB⟩
 ·go_ret3
  exact ⟨_,_,z2,zV adp,zV aq8,zB HB⟩
 ·go_ret3
  exact ⟨_,_,z2,Kd.zg _ _ _ _ _,Kd.bD (Kd.R_V (zR aq9)) (fun k_ hk=>by first|exact ⟨(.inr (hk.1)),hk.2⟩|exact (.inr (hk))),zB HB⟩
 go_ret3
 exact ⟨_,_,z2,zV ara,zV arb,zB HB⟩
def jv.f (k:Nat) (dW:Bool) (dK:Bool) (gI:ByteArray) (gW:Int):Option (Int × Bool × Int × Int × Int × Bool × Option Int):=if (wrap64 ((gI.size:Int)+gW)) > 100 then ((eG.f k dK 0 1 1000 false).bind fun MP=>(some (MP.1,MP.2.1,MP.2.2.1,MP.2.2.2.1,MP.2.2.2.2.1,MP.2.2.2.2.2.1,MP.2.2.2.2.2.2))) else (if (wrap64 ((gI.size:Int)+gW))<(-100) then ((eG.f k dK 0 1 (-1000) false).bind fun MQ=>(some (MQ.1,MQ.2.1,MQ.2.2.1,MQ.2.2.2.1,MQ.2.2.2.2.1,MQ.2.2.2.2.2.1,MQ.2.2.2.2.2.2))) else ((ji.f k gI).bind fun VW=>(if VW.2.isNone=true then ((gX.f k (mx gW (wrap64 (-gW)))).bind fun VX=>(if VX.2.isNone=true then (if gW ≥ 0 then ((lL.f k (([VW.1,VX.1]:List (List Int)))).bind fun aiT=>((pq.f k dK aiT 0 false).bind fun MR=>(some (MR.1,MR.2.1,MR.2.2.1,MR.2.2.2.1,MR.2.2.2.2.1,MR.2.2.2.2.2.1,MR.2.2.2.2.2.2)))) else ((qI.f k VX.1).bind fun ael=>((qI.f k VW.1).bind fun aem=>((lH.f k VW.1 (mx 0 (wrap64 ((wrap64 (ael - aem))+66)))).bind fun adq=>(if adq.2.isNone=true then ((Ce.f k adq.1 VX.1).bind fun Zd=>(if Zd.2.2.isNone=true then ((pq.f k dK Zd.1 (wrap64 (-(mx 0 (wrap64 ((wrap64 (ael - aem))+66))))) (decide ((Zd.2.1.length:Int) > 0))).bind fun MS=>(some (MS.1,MS.2.1,MS.2.2.1,MS.2.2.2.1,MS.2.2.2.2.1,MS.2.2.2.2.2.1,MS.2.2.2.2.2.2))) else (some (0,false,0,0,0,false,some (Zd.2.2.getD 0))))) else (some (0,false,0,0,0,false,some (adq.2.getD 0)))))))) else (some (0,false,0,0,0,false,some (VX.2.getD 0))))) else (some (0,false,0,0,0,false,some (VW.2.getD 0))))))
def jv.T13:Bool × List (List Nat × List Nat):=(true, [([], []),([0], [0]),([], []),([], []),([2,3], [2,3]),([4], [4]),([1,5,5], [1,5]),([6], [6]),([6], [6]),([7,6,0,1,2,3,4,5,6,7,8], [7]),([8,9,0,1,2,3,4,5,6,7,8,9], [8])])
def jv.B13:List Nat := [0,1,0,0,12,28,63,127,127,511,1023]
theorem jv.akY:rW .any (opsOf Tryz.f43 13)=jv.T13:=by kernel_rfl
theorem jv.aet:jB jv.T13.2 jv.B13=true:=by kernel_rfl
theorem jv.calls (k:Nat) (dW:Bool) (dK:Bool) (gI:ByteArray) (gW:Int) (r1:Int) (r2:Bool) (r3:Int) (r4:Int) (r5:Int) (r6:Bool) (r7:Option Int) (w:World) (h:jv.f k dW dK gI gW=some (r1,r2,r3,r4,r5,r6,r7)) :
    Calls Tryz.prog 43 #[.agg #[.bool dW, .bool dK, .string gI, .int .i64 gW]] w fun e w'=>e = .returned (.tuple #[.agg #[.int .i64 r1, .bool r2, .int .i64 r3, .int .u64 r4, .int .u64 r5, .bool r6],qm r7])∧Below w.heap.size w w':=by
 have Ql:=Tryz.underlying23
 have ad3:=Tryz.underlying81
 have yL:=Tryz.underlying27
 have hu64:=Tryz.underlying64
 have HB:=am (Below.refl w.heap.size w)
 have H:=am h
 unfold jv.f at H
 clear h
 replace H:=Em H
 rcases H with ⟨uU,H⟩|⟨uU,H⟩
 replace H:=zo H
 obtain ⟨⟨aBK,aBL,aBM,aBN,aBO,aBP,aIf⟩,A3,H⟩:=H
 try dsimp only at H
 obtain ⟨rfl,rfl,rfl,rfl,rfl,rfl,rfl⟩:=zJ7 H
 rotate_left
 replace H:=zsd H
 rcases H with ⟨qx,H⟩|⟨qx,H⟩
 replace H:=zo H
 obtain ⟨⟨aBQ,aBR,aBS,aBT,aBU,aBV,aIg⟩,A11,H⟩:=H
 try dsimp only at H
 obtain ⟨rfl,rfl,rfl,rfl,rfl,rfl,rfl⟩:=zJ7 H
 rotate_left
 replace H:=zo H
 obtain ⟨⟨adr,aBW⟩,A18,H⟩:=H
 try dsimp only at H
 rcases aBW with _|aIh
 replace H:=zb1 H
 try simp only [ak,aj]
 generalize sO:(mx gW (wrap64 (-gW)):Int)=FM at H
 (try rw [sO] at A18)
 have agy:(if gW<(wrap64 (-gW)) then (wrap64 (-gW)) else gW)=FM:=sO
 replace H:=zo H
 obtain ⟨⟨ads,aBX⟩,A20,H⟩:=H
 try dsimp only at H
 rcases aBX with _|aIi
 replace H:=zb1 H
 try simp only [ak,aj]
 replace H:=zf H
 rcases H with ⟨Ae,H⟩|⟨Ae,H⟩
 ·generalize aiU:(([adr,ads]:List (List Int)):List (List Int))=avF at H
  have aiV:=zY aiU
  clear aiU
  replace H:=zo H
  obtain ⟨aiT,A22,H⟩:=H
  replace H:=zo H
  obtain ⟨⟨avG,avH,avI,avJ,avK,avL,aBY⟩,A23,H⟩:=H
  try dsimp only at H
  obtain ⟨rfl,rfl,rfl,rfl,rfl,rfl,rfl⟩:=zJ7 H
  go_enter Tryz.func43,Tryz.ntmps43
  try go_wp2_with (first|((with_reducible refine ay (N:=1) rfl ?_);refine zx 1 23 #[.bool dW, .bool dK, .string gI, .int .i64 gW] ?_;intro nJ hg w24 hbox hb;have gu:=am (hbox);have arc:=zG hg HB;have ard:=zG hg HB;replace HB:=zBs HB hb;clear hb hbox hg)|((with_reducible refine ay (N:=2) rfl ?_);refine zx 2 81 #[.int .i64 0, .bool false, .int .i64 0, .int .u64 0, .int .u64 0, .bool false] ?_;intro ni hg w25 hbox hb;have iD:=am (hbox);have arf:=zG hg HB;have arh:=zG hg HB;replace HB:=zBs HB hb;have oV:=zNl hg gu;have oW:=zNg hg gu;replace gu:=zKb gu hb;clear hb hbox hg;have agG:=oV.out;have agH:=oW.out;obtain ⟨_,_,_,_,_,_,_,_⟩:=zf4 gu)|((with_reducible refine af (f:=94) rfl ?_);refine zc (some 36) Tryz.func94 _ (ji.calls _ _ _ _ _ A18.out) ?_;rintro e w28 ⟨aBZ,rfl,ho0,hb⟩;refine ⟨_,rfl,?_⟩;have oh:=am (Kd.df (Kd.bD (ok':=fun k_=>k_≠nJ∧k_≠ni) ho0 (fun k_ hk_=>⟨(Kd.fU (g:=nJ) (o := .cells #[.bool dW, .bool dK, .string gI, .int .i64 gW] 23 (0,0)) (zK gu) k_ hk_),(Kd.fU (g:=ni) (o := .cells #[.int .i64 0, .bool false, .int .i64 0, .int .u64 0, .int .u64 0, .bool false] 81 (0,0)) (zK iD) k_ hk_)⟩)) (zS HB));replace gu:=zKb gu hb;replace iD:=zKb iD hb;replace HB:=zBs HB hb;clear hb ho0;(try simp only [ak,aj]);obtain ⟨_,_,_,_,_,_,_,_⟩:=zf4 gu)|((with_reducible refine af (f:=51) rfl ?_);refine lg (some 50) rfl rfl Tryz.func51 (by kernel_rfl) rfl #[.int .i64 FM] rfl (by (try simp only [List.map_toArray,List.map_cons,List.map_nil]);first|done|(simp only [sO];rfl)|rfl|(simp only [List.length_drop,List.length_take];rfl)) ?_;(with_reducible refine (gX.calls _ _ _ _ _ A20.out).mono ?_);rintro e w30 ⟨aB0,rfl,ho0,hb⟩;refine ⟨_,rfl,?_⟩;replace oh:=zVb oh hb;have pV:=am (Kd.df (Kd.bD (ok':=fun k_=>k_≠nJ∧k_≠ni) ho0 (fun k_ hk_=>⟨(Kd.fU (g:=nJ) (o := .cells #[.bool dW, .bool dK, .string gI, .int .i64 gW] 23 (0,0)) (zK gu) k_ hk_),(Kd.fU (g:=ni) (o := .cells #[.int .i64 0, .bool false, .int .i64 0, .int .u64 0, .int .u64 0, .bool false] 81 (0,0)) (zK iD) k_ hk_)⟩)) (zS HB));replace gu:=zKb gu hb;replace iD:=zKb iD hb;replace HB:=zBs HB hb;clear hb ho0;(try simp only [ak,aj]);obtain ⟨_,_,_,_,_,_,_,_⟩:=zf4 gu))
  replace oh:=am (Kd.iQ oh.out)
  replace pV:=am (Kd.iQ pV.out)
  replace gu:=am (dS gu.out)
  replace iD:=am (dS iD.out)
  replace HB:=am (aZ HB.out)
  obtain ⟨avM,avN,avO⟩:=Kd.dG oh.out
  (first|subst avO|(injection avO with f1_ f2_ f3_;have f4_:=f1_.symm;have f5_:=f3_.symm;clear f1_ f2_ f3_;subst f4_;subst f5_))
  obtain ⟨akf,aee,WX⟩:=Kd.dG pV.out
  (first|subst WX|(injection WX with f1_ f2_ f3_;have f4_:=f1_.symm;have f5_:=f3_.symm;clear f1_ f2_ f3_;subst f4_;subst f5_))
  refine ny (n:=11) (S:=fun w'=>w'.cell? ⟨nJ,0,none⟩=some (.bool dW)∧w'.cell? ⟨nJ,1,none⟩=some (.bool dK)∧w'.cell? ⟨nJ,2,none⟩=some (.string gI)∧w'.cell? ⟨nJ,3,none⟩=some (.int .i64 gW)) (ds := []) (Array.replicate 11 false) (by kernel_rfl) rfl rfl ⟨(ag gu.out 0).trans rfl,(ag gu.out 1).trans rfl,(ag gu.out 2).trans rfl,(ag gu.out 3).trans rfl⟩ (fun hHeld=>?_);refine iw jv.akY jv.aet (fun HT_ HW_=>?_)
  generalize w30.drew=w32 at oh pV gu iD HB hHeld ⊢
  refine zp HT_ 0 (some 60) ?_
  refine zp HT_ 2 (some 62) ?_
  refine zp HT_ 3 (some 63) ?_
  refine zt HT_ HW_ 1 (some 61) hHeld ?_
  refine zu HT_ 4 (some 64) (fun K hK=>?_)
  refine Kd.Qb (Kd.slice 25 (Kd.int .u64)) _ 88 ?hg (N':=64) ?hd (xs:=([adr,ads]:List (List Int))) (inner := [.slice avM adr.length avN, .slice akf ads.length aee]) (ok:=(fun k_=>k_≠nJ∧k_≠ni)) (okp:=(fun k_=>k_≠nJ∧k_≠ni)) ?hr ?hp (fun _ hk=>hk) ((show ∀ k_,w32.heap.size≤k_→(fun k_=>k_≠nJ∧k_≠ni) k_ from fun k_ hk=>⟨Kd.fU (g:=nJ) (o := .cells #[.bool dW, .bool dK, .string gI, .int .i64 gW] 23 (0,0)) (zK gu) k_ hk,Kd.fU (g:=ni) (o := .cells #[.int .i64 0, .bool false, .int .i64 0, .int .u64 0, .int .u64 0, .bool false] 81 (0,0)) (zK iD) k_ hk⟩) _ (Nat.le_refl _)) (Below.refl _ _) (Nat.le_refl _) (by simp) ?_;(case hd=>rfl);(case hg=>rfl);(case hr=>first|(go_simp;done)|(go_simp;rfl));(case hp=>exact (jm.one (show Kd.FK (Kd.slice 25 (Kd.int .u64)) _ _ adr [.slice avM adr.length avN] from (Kd.pJ (Kd.aX (Kd.bD (ok':=(fun k_=>k_≠nJ∧k_≠ni)) (oh.out) (fun k_ hk=>⟨hk.1,hk.2⟩))).2.1 (Kd.V_F (Kd.bD (ok':=(fun k_=>k_≠nJ∧k_≠ni)) (oh.out) (fun k_ hk=>⟨hk.1,hk.2⟩))))) (jm.one (show Kd.FK (Kd.slice 25 (Kd.int .u64)) _ _ ads [.slice akf ads.length aee] from (Kd.pJ (Kd.aX (Kd.bD (ok':=(fun k_=>k_≠nJ∧k_≠ni)) (pV.out) (fun k_ hk=>⟨hk.1,hk.2⟩))).2.1 (Kd.V_F (Kd.bD (ok':=(fun k_=>k_≠nJ∧k_≠ni)) (pV.out) (fun k_ hk=>⟨hk.1,hk.2⟩))))) (jm.none _ _))))
  intro aIj w35 adt hb hg_ jf
  clear hg_ jf
  (first|rw [← aiV.out] at adt|(simp only [Int.reduceToNat] at adt;rw [← aiV.out] at adt))
  replace oh:=am (Kd.iP (zV oh) (Kd.EW adt) hb)
  replace pV:=am (Kd.iP (zV pV) (Kd.EW adt) hb)
  have QM:=am (Kd.KI adt (zS HB))
  replace gu:=zKb gu hb
  replace iD:=zKb iD hb
  replace HB:=zBs HB hb
  clear hb adt
  obtain ⟨agp,agq,acf⟩:=Kd.F7 QM.out
  (first|subst acf|(injection acf with f1_ f2_ f3_;have f4_:=f1_.symm;have f5_:=f3_.symm;clear f1_ f2_ f3_;subst f4_;subst f5_))
  refine hK.out _ _ ⟨(ag gu.out 0).trans rfl,(ag gu.out 1).trans rfl,(ag gu.out 2).trans rfl,(ag gu.out 3).trans rfl⟩ (fun hHeld=>?_)
  clear hK K
  refine kK (a':=?_) ?_ ?_
  rotate_left
  ·show Act.put _ (some 64) _=_
   simp only [Act.put,List.setIfInBounds_toArray,List.set_cons_zero,List.set_cons_succ,bI,dV]
   rfl
  refine zu HT_ 5 (some 65) (fun K hK=>?_)
  refine oK Tryz.func53 (by kernel_rfl) rfl #[.slice agp avF.length agq] (by rfl) rfl rfl (by (try simp only [List.map_toArray,List.map_cons,List.map_nil]);first|done|rfl|(simp only [List.length_drop,List.length_take];rfl)) ?_
  with_reducible refine (lL.calls k (fun k_=>(k_≠nJ∧k_≠ni)) _ _ avF aiT _ ?fF A22.out).mono ?_
  (case fF=>exact Kd.N_V (QM.out))
  rintro e w38 ⟨aIk,rfl,ho0,hb⟩
  refine ⟨_,rfl,?_⟩
  replace oh:=zVb oh hb
  replace pV:=zVb pV hb
  replace QM:=am (Kd.qW (by (with_reducible repeat (first|apply Kd.uY|apply Kd.vH|apply Kd.yu));exact QM.out) hb)
  have VY:=am (Kd.df (Kd.bD (ok':=fun k_=>k_≠nJ∧k_≠ni) ho0 (fun k_ hk_=>⟨Or.elim hk_ (fun hs_=>hs_.1) (fun hn_=>(Kd.fU (g:=nJ) (o := .cells #[.bool dW, .bool dK, .string gI, .int .i64 gW] 23 (0,0)) (zK gu) k_ hn_)),Or.elim hk_ (fun hs_=>hs_.2) (fun hn_=>(Kd.fU (g:=ni) (o := .cells #[.int .i64 0, .bool false, .int .i64 0, .int .u64 0, .int .u64 0, .bool false] 81 (0,0)) (zK iD) k_ hn_))⟩)) (zS HB))
  replace gu:=zKb gu hb
  replace iD:=zKb iD hb
  replace HB:=zBs HB hb
  (try clear hb)
  (try clear hb2)
  (try clear hk)
  (try clear hi)
  (try clear ho0)
  obtain ⟨aB1,aB2,avP⟩:=Kd.dG VY.out
  (first|subst avP|(injection avP with f1_ f2_ f3_;have f4_:=f1_.symm;have f5_:=f3_.symm;clear f1_ f2_ f3_;subst f4_;subst f5_))
  refine hK.out _ _ ⟨(ag gu.out 0).trans rfl,(ag gu.out 1).trans rfl,(ag gu.out 2).trans rfl,(ag gu.out 3).trans rfl⟩ (fun hHeld=>?_)
  clear hK K
  refine kK (a':=?_) ?_ ?_
  rotate_left
  ·show Act.put _ (some 65) _=_
   simp only [Act.put,List.setIfInBounds_toArray,List.set_cons_zero,List.set_cons_succ,bI,dV]
   rfl
  refine zu HT_ 6 (some 66) (fun K hK=>?_)
  refine oK Tryz.func95 (by kernel_rfl) rfl #[.bool dK, .slice aB1 aiT.length aB2, .int .i64 0, .bool false] (by rfl) rfl rfl (by (try simp only [List.map_toArray,List.map_cons,List.map_nil]);first|done|rfl|(simp only [List.length_drop,List.length_take];rfl)) ?_
  with_reducible refine (pq.calls k dK _ _ aiT 0 false avG avH avI avJ avK avL aBY _ ?fF ?kC A23.out).mono ?_
  (case fF=>repeat (first|exact (Kd.aX VY.out).2.2|(with_reducible refine Kd.ku ?_ _)|(with_reducible refine Kd.jZ ?_ _)|(with_reducible refine Kd.nC ?_)))
  (case kC=>exact (Kd.aX VY.out).2.1)
  rintro e w40 ⟨rfl,hb⟩
  refine ⟨_,rfl,?_⟩
  replace oh:=zVb oh hb
  replace pV:=zVb pV hb
  replace QM:=am (Kd.qW (by (with_reducible repeat (first|apply Kd.uY|apply Kd.vH|apply Kd.yu));exact QM.out) hb)
  replace VY:=zVb VY hb
  replace gu:=zKb gu hb
  replace iD:=zKb iD hb
  replace HB:=zBs HB hb
  (try clear hb)
  (try clear hb2)
  (try clear hk)
  (try clear hi)
  (try simp only [ak,aj])
  refine hK.out _ _ ⟨(ag gu.out 0).trans rfl,(ag gu.out 1).trans rfl,(ag gu.out 2).trans rfl,(ag gu.out 3).trans rfl⟩ (fun hHeld=>?_)
  clear hK K
  refine kK (a':=?_) ?_ ?_
  rotate_left
  ·show Act.put _ (some 66) _=_
   simp only [Act.put,List.setIfInBounds_toArray,List.set_cons_zero,List.set_cons_succ,bI,dV]
   rfl
  refine zp HT_ 7 (some 67) ?_
  refine zp HT_ 8 (some 68) ?_
  refine zu HT_ 9 none (fun K hK=>?_)
  have azW:=zl iD 0
  have apw:=au iD.out 0
  have ari:=oV.out
  have arj:=oW.out
  have azX:=zl iD 1
  have apz:=au iD.out 1
  have ark:=oV.out
  have arl:=oW.out
  have azY:=zl iD 2
  have apC:=au iD.out 2
  have arn:=oV.out
  have aro:=oW.out
  have aIl:=zl iD 3
  have aB3:=au iD.out 3
  have arp:=oV.out
  have arq:=oW.out
  have aIm:=zl iD 4
  have aB4:=au iD.out 4
  have ars:=oV.out
  have art:=oW.out
  have aIn:=zl iD 5
  have aB5:=au iD.out 5
  have aru:=oV.out
  have arv:=oW.out
  refine vK (w1:=?_) (by rfl) rfl ?_ ?_
  rotate_left
  ·go_simp
   rfl
  refine hK.out _ _ ⟨(zh hHeld),(zh hHeld),(zh hHeld),(zh hHeld)⟩ (fun hHeld=>?_)
  clear hK K
  refine zp HT_ 10 (some 3) ?_
  refine o6 (jd HT_.out (by kernel_rfl)) ?_
  try go_wp2
  refine bodyPost_ret (bJ rfl _ _ ni 81 #[.int .i64 avG, .bool avH, .int .i64 avI, .int .u64 avJ, .int .u64 avK, .bool avL] (0,0) _ rfl (zKp iD) Tryz.underlying81 rfl (by kernel_rfl)) rfl ?_
  exact ⟨by first|exact z3|(simp only [← sO];exact z3)|exact z2,zB HB⟩
 replace H:=zo H
 obtain ⟨ael,A47,H⟩:=H
 replace H:=zo H
 obtain ⟨aem,A48,H⟩:=H
 generalize H6:(mx 0 (wrap64 ((wrap64 (ael - aem))+66)):Int)=arw at H
 (try rw [H6] at A18)
 (try rw [H6] at A20)
 (try rw [H6] at A47)
 (try rw [H6] at A48)
 have avQ:(if 0<(wrap64 ((wrap64 (ael - aem))+66)) then (wrap64 ((wrap64 (ael - aem))+66)) else 0)=arw:=H6
 replace H:=zo H
 obtain ⟨⟨aB6,aB7⟩,A50,H⟩:=H
 try dsimp only at H
 rcases aB7 with _|aIo
 replace H:=zb1 H
 try simp only [ak,aj]
 replace H:=zo H
 obtain ⟨⟨aB8,aiW,aB9⟩,A51,H⟩:=H
 (try rw [show decide ((aiW.length:Int) > 0)=decide (0<aiW.length) from decide_eq_decide.2 (by omega)] at A51)
 try dsimp only at H
 rcases aB9 with _|aIp
 replace H:=zb1 H
 try simp only [ak,aj]
 replace H:=zo H
 obtain ⟨⟨aCa,aCb,aCc,aCd,aCe,aCf,aIq⟩,A52,H⟩:=H
 (try rw [show decide ((aiW.length:Int) > 0)=decide (0<aiW.length) from decide_eq_decide.2 (by omega)] at A52)
 try dsimp only at H
 obtain ⟨rfl,rfl,rfl,rfl,rfl,rfl,rfl⟩:=zJ7 H
 rotate_left
 replace H:=zb0 H
 try simp only [Option.getD_some] at H
 try simp only [ak,aj]
 obtain ⟨rfl,rfl,rfl,rfl,rfl,rfl,rfl⟩:=zJ7 H
 rotate_left
 replace H:=zb0 H
 try simp only [Option.getD_some] at H
 try simp only [ak,aj]
 obtain ⟨rfl,rfl,rfl,rfl,rfl,rfl,rfl⟩:=zJ7 H
 rotate_left
 replace H:=zb0 H
 try simp only [Option.getD_some] at H
 try simp only [ak,aj]
 obtain ⟨rfl,rfl,rfl,rfl,rfl,rfl,rfl⟩:=zJ7 H
 rotate_left
 replace H:=zb0 H
 try simp only [Option.getD_some] at H
 try simp only [ak,aj]
 obtain ⟨rfl,rfl,rfl,rfl,rfl,rfl,rfl⟩:=zJ7 H
 rotate_left
 all_goals (go_enter Tryz.func43,Tryz.ntmps43;go_wp2_with (first|((with_reducible refine ay (N:=1) rfl ?_);refine zx 1 23 #[.bool dW, .bool dK, .string gI, .int .i64 gW] ?_;intro nJ hg w53 hbox hb;have gu:=am (hbox);have arc:=zG hg HB;have ard:=zG hg HB;replace HB:=zBs HB hb;clear hb hbox hg)|((with_reducible refine ay (N:=2) rfl ?_);refine zx 2 81 #[.int .i64 0, .bool false, .int .i64 0, .int .u64 0, .int .u64 0, .bool false] ?_;intro ni hg w54 hbox hb;have iD:=am (hbox);have arf:=zG hg HB;have arh:=zG hg HB;replace HB:=zBs HB hb;have oV:=zNl hg gu;have oW:=zNg hg gu;replace gu:=zKb gu hb;clear hb hbox hg;have arx:=oV.out;have ary:=oW.out;obtain ⟨_,_,_,_,_,_,_,_⟩:=zf4 gu)|((with_reducible refine af (f:=94) rfl ?_);refine zc (some 36) Tryz.func94 _ (ji.calls _ _ _ _ _ A18.out) ?_;rintro e w57 ⟨aBZ,rfl,ho0,hb⟩;refine ⟨_,rfl,?_⟩;have oh:=am (Kd.df (Kd.bD (ok':=fun k_=>k_≠nJ∧k_≠ni) ho0 (fun k_ hk_=>⟨(Kd.fU (g:=nJ) (o := .cells #[.bool dW, .bool dK, .string gI, .int .i64 gW] 23 (0,0)) (zK gu) k_ hk_),(Kd.fU (g:=ni) (o := .cells #[.int .i64 0, .bool false, .int .i64 0, .int .u64 0, .int .u64 0, .bool false] 81 (0,0)) (zK iD) k_ hk_)⟩)) (zS HB));replace gu:=zKb gu hb;replace iD:=zKb iD hb;replace HB:=zBs HB hb;clear hb ho0;(try simp only [ak,aj]);obtain ⟨_,_,_,_,_,_,_,_⟩:=zf4 gu;obtain ⟨_,_,_,_,_,_,_,_,_,_,_,_⟩:=zf6 iD)|((with_reducible refine af (f:=51) rfl ?_);refine lg (some 50) rfl rfl Tryz.func51 (by kernel_rfl) rfl #[.int .i64 FM] rfl (by (try simp only [List.map_toArray,List.map_cons,List.map_nil]);first|done|(simp only [sO];rfl)|rfl|(simp only [List.length_drop,List.length_take];rfl)) ?_;(with_reducible refine (gX.calls _ _ _ _ _ A20.out).mono ?_);rintro e w59 ⟨aB0,rfl,ho0,hb⟩;refine ⟨_,rfl,?_⟩;replace oh:=zVb oh hb;have pV:=am (Kd.df (Kd.bD (ok':=fun k_=>k_≠nJ∧k_≠ni) ho0 (fun k_ hk_=>⟨(Kd.fU (g:=nJ) (o := .cells #[.bool dW, .bool dK, .string gI, .int .i64 gW] 23 (0,0)) (zK gu) k_ hk_),(Kd.fU (g:=ni) (o := .cells #[.int .i64 0, .bool false, .int .i64 0, .int .u64 0, .int .u64 0, .bool false] 81 (0,0)) (zK iD) k_ hk_)⟩)) (zS HB));replace gu:=zKb gu hb;replace iD:=zKb iD hb;replace HB:=zBs HB hb;clear hb ho0;(try simp only [ak,aj]);obtain ⟨_,_,_,_,_,_,_,_⟩:=zf4 gu;obtain ⟨avR,avS,aCg⟩:=Kd.dG pV.out;subst aCg;obtain ⟨_,_,_,_,_,_,_,_,_,_,_,_⟩:=zf6 iD)|((with_reducible refine af (f:=96) rfl ?_);refine zc (some 70) Tryz.func96 #[.slice avR ads.length avS] (qI.calls _ _ _ _ _ _ (zC ((Kd.aX pV.out).2.2)) ((Kd.aX pV.out).2.1) A47.out) ?_;rintro e w62 ⟨rfl,hb⟩;refine ⟨_,rfl,?_⟩;replace oh:=zVb oh hb;replace pV:=zVb pV hb;replace gu:=zKb gu hb;replace iD:=zKb iD hb;replace HB:=zBs HB hb;clear hb;obtain ⟨akk,adn,Q9⟩:=Kd.dG oh.out;subst Q9)|((with_reducible refine af (f:=96) rfl ?_);refine zc (some 72) Tryz.func96 #[.slice akk adr.length adn] (qI.calls _ _ _ _ _ _ (zC ((Kd.aX oh.out).2.2)) ((Kd.aX oh.out).2.1) A48.out) ?_;rintro e w64 ⟨rfl,hb⟩;refine ⟨_,rfl,?_⟩;replace oh:=zVb oh hb;replace pV:=zVb pV hb;replace gu:=zKb gu hb;replace iD:=zKb iD hb;replace HB:=zBs HB hb;clear hb)|((with_reducible refine af (f:=49) rfl ?_);refine lg (some 79) rfl rfl Tryz.func49 (by kernel_rfl) rfl #[.slice akk adr.length adn, .int .i64 arw] rfl (by (try simp only [List.map_toArray,List.map_cons,List.map_nil]);first|done|(simp only [H6];rfl)|rfl|(simp only [List.length_drop,List.length_take];rfl)) ?_;(with_reducible refine (lH.calls _ (fun k_=>(k_≠nJ∧k_≠ni)) _ _ _ _ _ _ _ ?fF A50.out).mono ?_);(case fF=>exact oh.out);rintro e w65 ⟨aIr,rfl,ho0,hb⟩;refine ⟨_,rfl,?_⟩;replace oh:=zVb oh hb;replace pV:=zVb pV hb;have QN:=am (Kd.df (Kd.bD (ok':=fun k_=>k_≠nJ∧k_≠ni) ho0 (fun k_ hk_=>⟨Or.elim hk_ (fun hs_=>hs_.1) (fun hn_=>(Kd.fU (g:=nJ) (o := .cells #[.bool dW, .bool dK, .string gI, .int .i64 gW] 23 (0,0)) (zK gu) k_ hn_)),Or.elim hk_ (fun hs_=>hs_.2) (fun hn_=>(Kd.fU (g:=ni) (o := .cells #[.int .i64 0, .bool false, .int .i64 0, .int .u64 0, .int .u64 0, .bool false] 81 (0,0)) (zK iD) k_ hn_))⟩)) (zS HB));replace gu:=zKb gu hb;replace iD:=zKb iD hb;replace HB:=zBs HB hb;clear hb ho0;(try simp only [ak,aj]);obtain ⟨aCh,aCi,aCj⟩:=Kd.dG QN.out;subst aCj;obtain ⟨_,_,_,_,_,_,_,_,_,_,_,_⟩:=zf6 iD)|((with_reducible refine af (f:=97) rfl ?_);refine zc (some 89) Tryz.func97 #[.slice aCh aB6.length aCi, .slice avR ads.length avS] (Ce.calls _ (fun k_=>(k_≠nJ∧k_≠ni)) _ _ _ (fun k_=>(k_≠nJ∧k_≠ni)) _ _ _ _ _ _ _ QN.out pV.out A51.out) ?_;rintro e w67 ⟨aIs,aIt,rfl,ho0,ho1,hb⟩;refine ⟨_,rfl,?_⟩;replace oh:=zVb oh hb;replace pV:=zVb pV hb;replace QN:=zVb QN hb;have VZ:=am (Kd.df (Kd.bD (ok':=fun k_=>k_≠nJ∧k_≠ni) ho0 (fun k_ hk_=>⟨Or.elim hk_ (fun hs_=>Or.elim hs_ (fun hs_=>hs_.1) (fun hs_=>hs_.1)) (fun hn_=>(Kd.fU (g:=nJ) (o := .cells #[.bool dW, .bool dK, .string gI, .int .i64 gW] 23 (0,0)) (zK gu) k_ hn_)),Or.elim hk_ (fun hs_=>Or.elim hs_ (fun hs_=>hs_.2) (fun hs_=>hs_.2)) (fun hn_=>(Kd.fU (g:=ni) (o := .cells #[.int .i64 0, .bool false, .int .i64 0, .int .u64 0, .int .u64 0, .bool false] 81 (0,0)) (zK iD) k_ hn_))⟩)) (zS HB));have adu:=am (Kd.df (Kd.bD (ok':=fun k_=>k_≠nJ∧k_≠ni) ho1 (fun k_ hk_=>⟨Or.elim hk_ (fun hs_=>Or.elim hs_ (fun hs_=>hs_.1) (fun hs_=>hs_.1)) (fun hn_=>(Kd.fU (g:=nJ) (o := .cells #[.bool dW, .bool dK, .string gI, .int .i64 gW] 23 (0,0)) (zK gu) k_ hn_)),Or.elim hk_ (fun hs_=>Or.elim hs_ (fun hs_=>hs_.2) (fun hs_=>hs_.2)) (fun hn_=>(Kd.fU (g:=ni) (o := .cells #[.int .i64 0, .bool false, .int .i64 0, .int .u64 0, .int .u64 0, .bool false] 81 (0,0)) (zK iD) k_ hn_))⟩)) (zS HB));replace gu:=zKb gu hb;replace iD:=zKb iD hb;replace HB:=zBs HB hb;clear hb ho0 ho1;(try simp only [ak,aj]);obtain ⟨_,_,_,_,_,_,_,_⟩:=zf4 gu;obtain ⟨apF,apG,apH⟩:=Kd.dG adu.out;subst apH;obtain ⟨akg,akh,apI⟩:=Kd.dG VZ.out;subst apI;obtain ⟨_,_,_,_,_,_,_,_,_,_,_,_⟩:=zf6 iD)|((with_reducible refine af (f:=95) rfl ?_);refine lg (some 105) rfl rfl Tryz.func95 (by kernel_rfl) rfl #[.bool dK, .slice akg aB8.length akh, .int .i64 (wrap64 (-(arw))), .bool (decide (0<aiW.length))] rfl (by (try simp only [List.map_toArray,List.map_cons,List.map_nil]);first|done|(simp only [H6];rfl)|rfl|(simp only [List.length_drop,List.length_take];rfl)) ?_;(with_reducible refine (pq.calls _ _ _ _ _ _ _ _ _ _ _ _ _ _ _ ?fF ?kC A52.out).mono ?_);(case fF=>repeat (first|exact (Kd.aX VZ.out).2.2|(with_reducible refine Kd.ku ?_ _)|(with_reducible refine Kd.jZ ?_ _)|(with_reducible refine Kd.nC ?_)));(case kC=>exact (Kd.aX VZ.out).2.1);rintro e w71 ⟨rfl,hb⟩;refine ⟨_,rfl,?_⟩;replace oh:=zVb oh hb;replace pV:=zVb pV hb;replace QN:=zVb QN hb;replace VZ:=zVb VZ hb;replace adu:=zVb adu hb;replace gu:=zKb gu hb;replace iD:=zKb iD hb;replace HB:=zBs HB hb;clear hb;(try simp only [ak,aj]);obtain ⟨_,_,_,_,_,_,_,_,_,_,_,_⟩:=zf6 iD)|((with_reducible refine af (f:=93) rfl ?_);refine zc (some 22) Tryz.func93 _ (eG.calls _ _ _ _ _ _ _ _ _ _ _ _ _ _ A3.out) ?_;rintro e w8 ⟨rfl,hb⟩;refine ⟨_,rfl,?_⟩;replace gu:=zKb gu hb;replace iD:=zKb iD hb;replace HB:=zBs HB hb;clear hb;(try simp only [ak,aj]);obtain ⟨_,_,_,_,_,_,_,_,_,_,_,_⟩:=zf6 iD)|((with_reducible refine af (f:=93) rfl ?_);refine zc (some 30) Tryz.func93 _ (eG.calls _ _ _ _ _ _ _ _ _ _ _ _ _ _ A11.out) ?_;rintro e w16 ⟨rfl,hb⟩;refine ⟨_,rfl,?_⟩;replace gu:=zKb gu hb;replace iD:=zKb iD hb;replace HB:=zBs HB hb;clear hb;(try simp only [ak,aj]);obtain ⟨_,_,_,_,_,_,_,_,_,_,_,_⟩:=zf6 iD)))
 ·refine bodyPost_ret (bJ rfl _ _ ni 81 #[.int .i64 aBK, .bool aBL, .int .i64 aBM, .int .u64 aBN, .int .u64 aBO, .bool aBP] (0,0) _ rfl (zKp iD) Tryz.underlying81 rfl (by kernel_rfl)) rfl ?_
  exact ⟨z2,zB HB⟩
 ·refine bodyPost_ret (bJ rfl _ _ ni 81 #[.int .i64 aBQ, .bool aBR, .int .i64 aBS, .int .u64 aBT, .int .u64 aBU, .bool aBV] (0,0) _ rfl (zKp iD) Tryz.underlying81 rfl (by kernel_rfl)) rfl ?_
  exact ⟨z2,zB HB⟩
 ·refine bodyPost_ret (bJ rfl _ _ ni 81 #[.int .i64 aCa, .bool aCb, .int .i64 aCc, .int .u64 aCd, .int .u64 aCe, .bool aCf] (0,0) _ rfl (zKp iD) Tryz.underlying81 rfl (by kernel_rfl)) rfl ?_
  exact ⟨by first|exact z3|(simp only [← sO, ← H6];exact z3)|exact z2,zB HB⟩
 rotate_left
 rotate_left
 rotate_left
 rotate_left
 all_goals (refine bodyPost_ret (bJ rfl _ _ ni 81 #[.int .i64 0, .bool false, .int .i64 0, .int .u64 0, .int .u64 0, .bool false] (0,0) _ rfl (zKp iD) Tryz.underlying81 rfl (by kernel_rfl)) rfl ?_)
 rotate_left
 rotate_left
 ·exact ⟨by first|exact z3|(simp only [← sO];exact z3)|exact z2,zB HB⟩
 ·exact ⟨z2,zB HB⟩
 all_goals (exact ⟨by first|exact z3|(simp only [← sO, ← H6];exact z3)|exact z2,zB HB⟩)
def yF.f (a0:Int):Option (Int × Int × Int × Int × Int × Option Int):=(nR.f a0).bind fun arz=>(if arz=true then (if 0≤(wrap64 (a0 - 1)) then (some (a0,IntKind.u64.wrap ((shl .u64 1 (wrap64 (a0 - 1))) - 1),1,shl .u64 1 (wrap64 (a0 - 1)),wrap64 ((wrap64 (4 * a0)) - 8),none)) else (none)) else (some (0,0,0,0,0,some 2)))
theorem yF.calls (a0:Int) (r1:Int) (r2:Int) (r3:Int) (r4:Int) (r5:Int) (r6:Option Int) (w:World) (h:yF.f a0=some (r1,r2,r3,r4,r5,r6)) :
    Calls Tryz.prog 155 #[.int .i64 a0] w fun e w'=>e = .returned (.tuple #[.agg #[.int .i64 r1, .int .u64 r2, .int .u64 r3, .int .u64 r4, .int .i64 r5],qm r6])∧Below w.heap.size w w':=by
 have arA:=Tryz.underlying223
 have yL:=Tryz.underlying27
 have hu64:=Tryz.underlying64
 have HB:=am (Below.refl w.heap.size w)
 have H:=am h
 unfold yF.f at H
 clear h
 replace H:=zo H
 obtain ⟨arz,A2,H⟩:=H
 cases arz
 replace H:=zb0 H
 obtain ⟨rfl,rfl,rfl,rfl,rfl,rfl⟩:=zJ6 H
 rotate_left
 replace H:=zb1 H
 generalize BI:(wrap64 (a0 - 1):Int)=ji4 at H
 (try rw [BI] at A2)
 have UK:(IntKind.i64.wrap (a0 - 1))=ji4:=(bI _).trans BI
 replace H:=zit H
 obtain ⟨rG,xw,H⟩:=H
 generalize uI:(shl .u64 1 (ji4):Int)=ji6 at H
 (try rw [uI] at A2)
 have ach:(IntKind.u64.wrap (1 * 2 ^ min (ji4).toNat 64))=ji6:=uI
 have aci:(ji4)≤64→(IntKind.u64.wrap (1 * 2 ^ (ji4).toNat))=ji6:=iR uI
 have aCk:(IntKind.u64.wrap (2 ^ min (ji4).toNat 64))=ji6:=by have h_:=ach;rw [Int.one_mul] at h_;exact h_
 have aCl:(ji4)≤64→(IntKind.u64.wrap (2 ^ (ji4).toNat))=ji6:=fun acx=>by have h_:=aci acx;rw [Int.one_mul] at h_;exact h_
 obtain ⟨rfl,rfl,rfl,rfl,rfl,rfl⟩:=zJ6 H
 rotate_left
 all_goals (go_enter Tryz.func155,Tryz.ntmps155;go_wp2_with (first|((with_reducible refine ay (N:=2) rfl ?_);refine zx 2 223 #[.int .i64 0, .int .u64 0, .int .u64 0, .int .u64 0, .int .i64 0] ?_;intro adv hg w9 hbox hb;have QO:=am (hbox);have aCm:=zG hg HB;have aCn:=zG hg HB;replace HB:=zBs HB hb;clear hb hbox hg)|((with_reducible refine af (f:=126) rfl ?_);refine zc (some 6) Tryz.func126 _ (nR.calls _ _ _ A2.out) ?_;rintro e w' ⟨rfl,⟨nd,rfl⟩⟩;refine ⟨_,rfl,?_⟩;(try (rw [iT w9];generalize hq_:World.drewN w9 _=w9;have n0_:ae (w9.heap[adv]? = some (.cells #[.int .i64 0, .int .u64 0, .int .u64 0, .int .u64 0, .int .i64 0] 223 (0,0))):=⟨by rw [← hq_];exact (zK QO)⟩;have n1_:ae (Below w.heap.size w w9):=⟨by rw [← hq_];exact (zB HB)⟩;clear QO HB hq_;have QO:=n0_;have HB:=n1_;clear n0_ n1_));obtain ⟨_,_,_,_,_,_,_,_,_,_⟩:=zf5 QO)))
 ·refine bodyPost_ret (bJ rfl _ _ adv 223 #[.int .i64 0, .int .u64 0, .int .u64 0, .int .u64 0, .int .i64 0] (0,0) _ rfl (zKp QO) Tryz.underlying223 rfl (by kernel_rfl)) rfl ?_
  exact ⟨z2,zB HB⟩
 refine bodyPost_ret (bJ rfl _ _ adv 223 #[.int .i64 a0, .int .u64 (IntKind.u64.wrap ((ji6) - 1)), .int .u64 1, .int .u64 ji6, .int .i64 (wrap64 ((wrap64 (4 * a0)) - 8))] (0,0) _ rfl (zKp QO) Tryz.underlying223 rfl (by kernel_rfl)) rfl ?_
 exact ⟨by first|exact z3|(simp only [← BI, ← uI];exact z3)|exact z2,zB HB⟩
end Go.Proofs.Yy.PTx
end
