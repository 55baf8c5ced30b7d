/- Part 17 of what the proof needs. -/
import Derived.Test.YtpfnkbnepcchgaaGreatDoorKTEAL
import Derived.Test.YtpfnkbnepcchgaaGreatDoorKTEAP
set_option linter.unusedSimpArgs false
set_option linter.unusedVariables false
section
set_option maxHeartbeats 8000000
set_option maxRecDepth 100000
namespace Go.Proofs.Yy.PTx
open Go.RowKit Go.Proofs.Yy.Z Go.Proofs.Yw.PrintWords Go.Proofs.Yw.PrintLast Go.Proofs.Yw.PrintMore
open Go.Proofs.Yy.M
attribute [local go_sem] dw dQ lD lF lC lG
attribute [local go_sem] gy gz ja jc fC fD gQ gK
def aN.f (k:Nat) (a0:Int) (a1:Int):Option (Bool × Bool × ByteArray × Int × Option Int):=(bM.f k a0 a1).bind fun Aj=>(if Aj.2.2.2.2.isNone=true then (if Aj.1=2 then (some (true,false,(⟨#[]⟩:ByteArray),0,none)) else (if Aj.1=0 then (some (false,false,(⟨#[48]⟩:ByteArray),0,none)) else ((bits_TrailingZeros64.f Aj.2.2.2.1).bind fun Ik=>(if 0≤Ik then ((rV.f k (shr .u64 Aj.2.2.2.1 Ik)).bind fun Hu=>(if (wrap64 ((wrap64 (Aj.2.2.1 - 63))+Ik)) ≥ 0 then ((lH.f k Hu (wrap64 ((wrap64 (Aj.2.2.1 - 63))+Ik))).bind fun acU=>(if acU.2.isNone=true then ((eU.f k acU.1).bind fun ah1=>((kF.f false Aj.2.1 ah1 0).bind fun VD=>(some (VD.1,VD.2.1,VD.2.2.1,VD.2.2.2.1,VD.2.2.2.2)))) else (some (false,false,(⟨#[]⟩:ByteArray),0,some (acU.2.getD 0))))) else ((gX.f k (wrap64 (-(wrap64 ((wrap64 (Aj.2.2.1 - 63))+Ik))))).bind fun acV=>(if acV.2.isNone=true then ((lL.f k (([Hu,acV.1]:List (List Int)))).bind fun akd=>((ed.f k akd (wrap64 (-(wrap64 ((wrap64 (Aj.2.2.1 - 63))+Ik))))).bind fun acW=>(if acW.2.2.isNone=true then ((eU.f k acW.1).bind fun ah2=>((kF.f false Aj.2.1 ah2 (wrap64 ((wrap64 (Aj.2.2.1 - 63))+Ik))).bind fun VE=>(some (VE.1,VE.2.1,VE.2.2.1,VE.2.2.2.1,VE.2.2.2.2)))) else (some (false,false,(⟨#[]⟩:ByteArray),0,some (acW.2.2.getD 0)))))) else (some (false,false,(⟨#[]⟩:ByteArray),0,some (acV.2.getD 0))))))) else (none))))) else (some (false,false,(⟨#[]⟩:ByteArray),0,some (Aj.2.2.2.2.getD 0))))
def aN.T9:Bool × List (List Nat × List Nat):=(true, [([], []),([0], [0]),([], []),([1,2], [1,2]),([3], [3]),([], []),([5], [5]),([6], [6]),([], []),([7,8], [7,8]),([4,4,0,1,2,3,4], [4]),([9,10,0,1,2,3,4,5,6,7,8,9,10], [9])])
def aN.B9:List Nat := [0,1,0,7,15,0,32,96,0,480,31,2047]
theorem aN.aez:rW .any (opsOf Tryz.f16 9)=aN.T9:=by kernel_rfl
theorem aN.Ux:jB aN.T9.2 aN.B9=true:=by kernel_rfl
def aN.T14:Bool × List (List Nat × List Nat):=(true, [([], []),([0], [0]),([], []),([2], [2]),([1,3], [1,3]),([4,3], [4]),([5], [5]),([5], [5]),([6,5,0,1,2,3,4,5,6,7], [6]),([7,8,0,1,2,3,4,5,6,7,8], [7])])
def aN.B14:List Nat := [0,1,0,4,15,31,63,63,255,511]
theorem aN.akA:rW .any (opsOf Tryz.f16 14)=aN.T14:=by kernel_rfl
theorem aN.aeO:jB aN.T14.2 aN.B14=true:=by kernel_rfl
def aN.T21:Bool × List (List Nat × List Nat):=(true, [([], []),([0], [0]),([], []),([2], [2]),([], []),([1,3,4], [1,3,4]),([5,3], [5]),([6], [6]),([6], [6]),([7,6,0,1,2,3,4,5,6,7,8], [7]),([8,9,0,1,2,3,4,5,6,7,8,9], [8])])
def aN.B21:List Nat := [0,1,0,4,0,31,63,127,127,511,1023]
theorem aN.akL:rW .any (opsOf Tryz.f16 21)=aN.T21:=by kernel_rfl
theorem aN.aeK:jB aN.T21.2 aN.B21=true:=by kernel_rfl
theorem aN.calls (k:Nat) (a0:Int) (a1:Int) (r1:Bool) (r2:Bool) (r3:ByteArray) (r4:Int) (r5:Option Int) (w:World) (h:aN.f k a0 a1=some (r1,r2,r3,r4,r5)) (htab:Fx.Laid w:=by exact Fx.Laid.below HTAB.out (by repeat (first|(with_reducible first|exact HB.out|apply bz|apply aI|apply aZ|refine bu ?_ (ae.out (by assumption)))|exact HB.out))) :
    Calls Tryz.prog 16 #[.int .i64 a0, .int .u64 a1] w fun e w'=>e = .returned (.tuple #[.agg #[.bool r1, .bool r2, .string r3, .int .i64 r4],qm r5])∧Below w.heap.size w w':=by
 have HTAB:=am htab
 clear htab
 have Ql:=Tryz.underlying23
 have ad4:=Tryz.underlying77
 have yL:=Tryz.underlying27
 have hu64:=Tryz.underlying64
 have HB:=am (Below.refl w.heap.size w)
 have H:=am h
 unfold aN.f at H
 clear h
 replace H:=zo H
 obtain ⟨⟨Hw,DR,Bq,Eh,azO⟩,A3,H⟩:=H
 try dsimp only at H
 rcases azO with _|aGU
 replace H:=zb1 H
 try simp only [ak,aj]
 replace H:=zsk H
 rcases H with ⟨kM,rY,H⟩|⟨kM,rY,c4,H⟩
 ·obtain ⟨rfl,rfl,rfl,rfl,rfl⟩:=zJ5 H
  go_enter Tryz.func16,Tryz.ntmps16
  go_wp2_with (first|((with_reducible refine ay (N:=4) rfl ?_);refine zx 4 23 #[.bool false, .bool false, .string (⟨#[]⟩:ByteArray), .int .i64 0] ?_;intro iJ hg w5 hbox hb;have bV:=am (hbox);have acX:=zG hg HB;have acY:=zG hg HB;replace HB:=zBs HB hb;clear hb hbox hg)|((with_reducible refine af (f:=42) rfl ?_);refine zc (some 15) Tryz.func42 _ (bM.calls _ _ _ _ _ _ _ _ _ A3.out) ?_;rintro e w6 ⟨rfl,hb⟩;refine ⟨_,rfl,?_⟩;replace bV:=zKb bV hb;replace HB:=zBs HB hb;clear hb;(try simp only [ak,aj]))|((with_reducible refine ay (N:=6) rfl ?_);refine zx 6 77 #[.int .i64 0, .bool false, .int .i64 0, .int .u64 0] ?_;intro iC hg w7 hbox hb;have bZ:=am (hbox);have acZ:=zG hg HB;have ac0:=zG hg HB;replace HB:=zBs HB hb;have jV:=zNl hg bV;have jW:=zNg hg bV;replace bV:=zKb bV hb;clear hb hbox hg;have aup:=jW.out;have auq:=jV.out;obtain ⟨_,_,_,_,_,_,_,_⟩:=zf4 bZ;obtain ⟨_,_,_,_,_,_,_,_⟩:=zf4 bV))
  refine bodyPost_ret (bJ rfl _ _ iJ 23 #[.bool true, .bool false, .string (⟨#[]⟩:ByteArray), .int .i64 0] (0,0) _ rfl (zKp bV) Tryz.underlying23 rfl (by kernel_rfl)) rfl ?_
  exact ⟨z2,zB HB⟩
 replace H:=zsk H
 rcases H with ⟨mY,tN,H⟩|⟨mY,tN,c11,H⟩
 ·obtain ⟨rfl,rfl,rfl,rfl,rfl⟩:=zJ5 H
  go_enter Tryz.func16,Tryz.ntmps16
  go_wp2_with (first|((with_reducible refine ay (N:=4) rfl ?_);refine zx 4 23 #[.bool false, .bool false, .string (⟨#[]⟩:ByteArray), .int .i64 0] ?_;intro iJ hg w12 hbox hb;have bV:=am (hbox);have acX:=zG hg HB;have acY:=zG hg HB;replace HB:=zBs HB hb;clear hb hbox hg)|((with_reducible refine af (f:=42) rfl ?_);refine zc (some 15) Tryz.func42 _ (bM.calls _ _ _ _ _ _ _ _ _ A3.out) ?_;rintro e w13 ⟨rfl,hb⟩;refine ⟨_,rfl,?_⟩;replace bV:=zKb bV hb;replace HB:=zBs HB hb;clear hb;(try simp only [ak,aj]))|((with_reducible refine ay (N:=6) rfl ?_);refine zx 6 77 #[.int .i64 0, .bool false, .int .i64 0, .int .u64 0] ?_;intro iC hg w14 hbox hb;have bZ:=am (hbox);have acZ:=zG hg HB;have ac0:=zG hg HB;replace HB:=zBs HB hb;have jV:=zNl hg bV;have jW:=zNg hg bV;replace bV:=zKb bV hb;clear hb hbox hg;have agz:=jW.out;have agA:=jV.out;obtain ⟨_,_,_,_,_,_,_,_⟩:=zf4 bZ;obtain ⟨_,_,_,_,_,_,_,_⟩:=zf4 bV))
  refine bodyPost_ret (bJ rfl _ _ iJ 23 #[.bool false, .bool false, .string (⟨#[48]⟩:ByteArray), .int .i64 0] (0,0) _ rfl (zKp bV) Tryz.underlying23 rfl (by kernel_rfl)) rfl ?_
  exact ⟨z2,zB HB⟩
 replace H:=zo H
 obtain ⟨Ik,A18,H⟩:=H
 replace H:=zit H
 obtain ⟨aps,apt,H⟩:=H
 generalize yR:(shr .u64 Eh Ik:Int)=Q8 at H
 (try rw [yR] at A3)
 (try rw [yR] at A18)
 have aur:(Eh / 2 ^ min Ik.toNat 64)=Q8:=yR
 have aus:Ik≤64→(Eh / 2 ^ Ik.toNat)=Q8:=jT yR
 replace H:=zo H
 obtain ⟨Hu,A21,H⟩:=H
 replace H:=zf H
 rcases H with ⟨EH,H⟩|⟨EH,H⟩
 replace H:=zo H
 obtain ⟨⟨aut,azP⟩,A23,H⟩:=H
 try dsimp only at H
 rcases azP with _|aGV
 replace H:=zb1 H
 try simp only [ak,aj]
 replace H:=zo H
 obtain ⟨ah1,A24,H⟩:=H
 replace H:=zo H
 obtain ⟨⟨auu,auv,auw,aux,azQ⟩,A25,H⟩:=H
 try dsimp only at H
 obtain ⟨rfl,rfl,rfl,rfl,rfl⟩:=zJ5 H
 rotate_left
 replace H:=zb0 H
 try simp only [Option.getD_some] at H
 try simp only [ak,aj]
 obtain ⟨rfl,rfl,rfl,rfl,rfl⟩:=zJ5 H
 rotate_left
 replace H:=zo H
 obtain ⟨⟨YX,azR⟩,A55,H⟩:=H
 try dsimp only at H
 rcases azR with _|aGW
 replace H:=zb1 H
 try simp only [ak,aj]
 generalize ah3:(([Hu,YX]:List (List Int)):List (List Int))=auy at H
 have YY:=zY ah3
 clear ah3
 replace H:=zo H
 obtain ⟨akd,A56,H⟩:=H
 replace H:=zo H
 obtain ⟨⟨auz,aGX,azS⟩,A57,H⟩:=H
 try dsimp only at H
 rcases azS with _|aGY
 replace H:=zb1 H
 try simp only [ak,aj]
 replace H:=zo H
 obtain ⟨ah2,A58,H⟩:=H
 replace H:=zo H
 obtain ⟨⟨auA,auB,auC,auD,azT⟩,A59,H⟩:=H
 try dsimp only at H
 obtain ⟨rfl,rfl,rfl,rfl,rfl⟩:=zJ5 H
 rotate_left
 replace H:=zb0 H
 try simp only [Option.getD_some] at H
 try simp only [ak,aj]
 obtain ⟨rfl,rfl,rfl,rfl,rfl⟩:=zJ5 H
 rotate_left
 replace H:=zb0 H
 try simp only [Option.getD_some] at H
 try simp only [ak,aj]
 obtain ⟨rfl,rfl,rfl,rfl,rfl⟩:=zJ5 H
 rotate_left
 ·replace H:=zb0 H
  try simp only [Option.getD_some] at H
  try simp only [ak,aj]
  obtain ⟨rfl,rfl,rfl,rfl,rfl⟩:=zJ5 H
  go_enter Tryz.func16,Tryz.ntmps16
  go_wp2_with (first|((with_reducible refine ay (N:=4) rfl ?_);refine zx 4 23 #[.bool false, .bool false, .string (⟨#[]⟩:ByteArray), .int .i64 0] ?_;intro iJ hg aGZ hbox hb;have bV:=am (hbox);have acX:=zG hg HB;have acY:=zG hg HB;replace HB:=zBs HB hb;clear hb hbox hg)|((with_reducible refine af (f:=42) rfl ?_);refine zc (some 15) Tryz.func42 _ (bM.calls _ _ _ _ _ _ _ _ _ A3.out) ?_;rintro e aG0 ⟨rfl,hb⟩;refine ⟨_,rfl,?_⟩;replace bV:=zKb bV hb;replace HB:=zBs HB hb;clear hb;(try simp only [ak,aj]))|((with_reducible refine ay (N:=6) rfl ?_);refine zx 6 77 #[.int .i64 0, .bool false, .int .i64 0, .int .u64 0] ?_;intro iC hg aG1 hbox hb;have bZ:=am (hbox);have acZ:=zG hg HB;have ac0:=zG hg HB;replace HB:=zBs HB hb;have jV:=zNl hg bV;have jW:=zNg hg bV;replace bV:=zKb bV hb;clear hb hbox hg;have auE:=jW.out;have auF:=jV.out;obtain ⟨_,_,_,_,_,_,_,_⟩:=zf4 bZ;obtain ⟨_,_,_,_,_,_,_,_⟩:=zf4 bV))
  refine bodyPost_ret (bJ rfl _ _ iJ 23 #[.bool false, .bool false, .string (⟨#[]⟩:ByteArray), .int .i64 0] (0,0) _ rfl (zKp bV) Tryz.underlying23 rfl (by kernel_rfl)) rfl ?_
  exact ⟨z2,zB HB⟩
 all_goals (go_enter Tryz.func16,Tryz.ntmps16;try go_wp2_with (first|((with_reducible refine ay (N:=4) rfl ?_);refine zx 4 23 #[.bool false, .bool false, .string (⟨#[]⟩:ByteArray), .int .i64 0] ?_;intro iJ hg w26 hbox hb;have bV:=am (hbox);have acX:=zG hg HB;have acY:=zG hg HB;replace HB:=zBs HB hb;clear hb hbox hg)|((with_reducible refine af (f:=42) rfl ?_);refine zc (some 15) Tryz.func42 _ (bM.calls _ _ _ _ _ _ _ _ _ A3.out) ?_;rintro e w27 ⟨rfl,hb⟩;refine ⟨_,rfl,?_⟩;replace bV:=zKb bV hb;replace HB:=zBs HB hb;clear hb;(try simp only [ak,aj]))|((with_reducible refine ay (N:=6) rfl ?_);refine zx 6 77 #[.int .i64 0, .bool false, .int .i64 0, .int .u64 0] ?_;intro iC hg w28 hbox hb;have bZ:=am (hbox);have acZ:=zG hg HB;have ac0:=zG hg HB;replace HB:=zBs HB hb;have jV:=zNl hg bV;have jW:=zNg hg bV;replace bV:=zKb bV hb;clear hb hbox hg;have afC:=jW.out;have afD:=jV.out;obtain ⟨_,_,_,_,_,_,_,_⟩:=zf4 bZ)|((with_reducible refine af (f:=47) rfl ?_);refine zc (some 35) Tryz.func47 _ (bits_TrailingZeros64.calls _ _ _ A18.out) ?_;rintro e w31 ⟨rfl,hb⟩;refine ⟨_,rfl,?_⟩;replace bV:=zKb bV hb;replace bZ:=am (bU (zKp bZ) hb);replace HB:=zBs HB hb;clear hb)))
 all_goals
  replace bV:=am (dS bV.out)
  replace bZ:=am (dS bZ.out)
  replace HB:=am (aZ HB.out)
  refine ny (n:=12) (S:=fun w'=>w'.cell? ⟨iC,0,none⟩=some (.int .i64 Hw)∧w'.cell? ⟨iC,1,none⟩=some (.bool DR)∧w'.cell? ⟨iC,2,none⟩=some (.int .i64 Bq)∧w'.cell? ⟨iC,3,none⟩=some (.int .u64 Eh)) (ds := []) (Array.replicate 12 false) (by kernel_rfl) rfl rfl ⟨(ag bZ.out 0).trans rfl,(ag bZ.out 1).trans rfl,(ag bZ.out 2).trans rfl,(ag bZ.out 3).trans rfl⟩ (fun hHeld=>?_);refine iw aN.aez aN.Ux (fun HT_ HW_=>?_)
 ·generalize w31.drew=w32 at bV bZ HB hHeld ⊢
  refine zp HT_ 0 (some 36) ?_
  refine zp HT_ 2 (some 38) ?_
  refine zp HT_ 5 (some 41) ?_
  refine zp HT_ 8 (some 44) ?_
  refine zt HT_ HW_ 1 (some 37) hHeld ?_
  refine zp HT_ 3 (some 39) ?_
  refine zt HT_ HW_ 6 (some 42) hHeld ?_
  refine zp HT_ 7 (some 43) ?_
  refine zp HT_ 9 (some 45) ?_
  refine zu HT_ 4 (some 40) (fun K hK=>?_)
  refine oK Tryz.func48 (by kernel_rfl) rfl #[.int .u64 Q8] (by rfl) rfl rfl (by (try simp only [List.map_toArray,List.map_cons,List.map_nil]);first|done|(simp only [yR];rfl)|rfl|(simp only [List.length_drop,List.length_take];rfl)) ?_
  with_reducible refine (rV.calls k Q8 Hu _ A21.out).mono ?_
  rintro e w33 ⟨ake,rfl,ho0,hb⟩
  refine ⟨_,rfl,?_⟩
  have jH:=am (Kd.df (Kd.bD (ok':=fun k_=>k_≠iJ∧k_≠iC) ho0 (fun k_ hk_=>⟨(Kd.fU (g:=iJ) (o := .cells #[.bool false, .bool false, .string (⟨#[]⟩:ByteArray), .int .i64 0] 23 (0,0)) (zK bV) k_ hk_),(Kd.fU (g:=iC) (o := .cells #[.int .i64 Hw, .bool DR, .int .i64 Bq, .int .u64 Eh] 77 (0,0)) (zK bZ) k_ hk_)⟩)) (zS HB))
  replace bV:=zKb bV hb
  replace bZ:=zKb bZ hb
  replace HB:=zBs HB hb
  (try clear hb)
  (try clear hb2)
  (try clear hk)
  (try clear hi)
  (try clear ho0)
  refine hK.out _ _ ⟨(ag bZ.out 0).trans rfl,(ag bZ.out 1).trans rfl,(ag bZ.out 2).trans rfl,(ag bZ.out 3).trans rfl⟩ (fun hHeld=>?_)
  clear hK K
  refine kK (a':=?_) ?_ ?_
  rotate_left
  ·show Act.put _ (some 40) _=_
   simp only [Act.put,List.setIfInBounds_toArray,List.set_cons_zero,List.set_cons_succ,bI,dV]
   rfl
  refine zp HT_ 10 (some 9) ?_
  refine zp HT_ 11 (some 10) ?_
  refine o6 (jd HT_.out (by kernel_rfl)) ?_
  obtain ⟨akf,aee,WX⟩:=Kd.dG jH.out
  subst WX
  try go_wp2_with (first|((with_reducible refine af (f:=49) rfl ?_);refine zc (some 51) Tryz.func49 #[.slice akf Hu.length aee, .int .i64 (wrap64 ((wrap64 (Bq - 63))+Ik))] (lH.calls _ (fun k_=>(k_≠iJ∧k_≠iC)) _ _ _ _ _ _ _ jH.out A23.out) ?_;rintro e w35 ⟨azU,rfl,ho0,hb⟩;refine ⟨_,rfl,?_⟩;replace jH:=zVb jH hb;have DT:=am (Kd.df (Kd.bD (ok':=fun k_=>k_≠iJ∧k_≠iC) ho0 (fun k_ hk_=>⟨Or.elim hk_ (fun hs_=>hs_.1) (fun hn_=>(Kd.fU (g:=iJ) (o := .cells #[.bool false, .bool false, .string (⟨#[]⟩:ByteArray), .int .i64 0] 23 (0,0)) (zK bV) k_ hn_)),Or.elim hk_ (fun hs_=>hs_.2) (fun hn_=>(Kd.fU (g:=iC) (o := .cells #[.int .i64 Hw, .bool DR, .int .i64 Bq, .int .u64 Eh] 77 (0,0)) (zK bZ) k_ hn_))⟩)) (zS HB));replace bV:=zKb bV hb;replace bZ:=zKb bZ hb;replace HB:=zBs HB hb;clear hb ho0;(try simp only [ak,aj])))
  replace jH:=am (Kd.iQ jH.out)
  replace DT:=am (Kd.iQ DT.out)
  replace bV:=am (dS bV.out)
  replace bZ:=am (dS bZ.out)
  replace HB:=am (aZ HB.out)
  obtain ⟨agp,agq,acf⟩:=Kd.dG DT.out
  (first|subst acf|(injection acf with f1_ f2_ f3_;have f4_:=f1_.symm;have f5_:=f3_.symm;clear f1_ f2_ f3_;subst f4_;subst f5_))
  refine ny (n:=10) (S:=fun w'=>w'.cell? ⟨iC,0,none⟩=some (.int .i64 Hw)∧w'.cell? ⟨iC,1,none⟩=some (.bool DR)∧w'.cell? ⟨iC,2,none⟩=some (.int .i64 Bq)∧w'.cell? ⟨iC,3,none⟩=some (.int .u64 Eh)) (ds := []) (Array.replicate 10 false) (by kernel_rfl) rfl rfl ⟨(ag bZ.out 0).trans rfl,(ag bZ.out 1).trans rfl,(ag bZ.out 2).trans rfl,(ag bZ.out 3).trans rfl⟩ (fun hHeld=>?_);refine iw aN.akA aN.aeO (fun HT_ HW_=>?_)
  generalize w35.drew=w36 at jH DT bV bZ HB hHeld ⊢
  refine zp HT_ 0 (some 58) ?_
  refine zp HT_ 2 (some 60) ?_
  refine zt HT_ HW_ 1 (some 59) hHeld ?_
  refine zu HT_ 3 (some 61) (fun K hK=>?_)
  refine oK Tryz.func50 (by kernel_rfl) rfl #[.slice agp aut.length agq] (by rfl) rfl rfl (by (try simp only [List.map_toArray,List.map_cons,List.map_nil]);first|done|rfl|(simp only [List.length_drop,List.length_take];rfl)) ?_
  with_reducible refine (eU.calls k _ _ aut ah1 _ ?fF ?kC A24.out).mono ?_
  (case fF=>repeat (first|exact (Kd.aX DT.out).2.2|(with_reducible refine Kd.ku ?_ _)|(with_reducible refine Kd.jZ ?_ _)|(with_reducible refine Kd.nC ?_)))
  (case kC=>exact (Kd.aX DT.out).2.1)
  rintro e w38 ⟨rfl,hb⟩
  refine ⟨_,rfl,?_⟩
  replace jH:=zVb jH hb
  replace DT:=zVb DT hb
  replace bV:=zKb bV hb
  replace bZ:=zKb bZ hb
  replace HB:=zBs HB hb
  (try clear hb)
  (try clear hb2)
  (try clear hk)
  (try clear hi)
  refine hK.out _ _ ⟨(ag bZ.out 0).trans rfl,(ag bZ.out 1).trans rfl,(ag bZ.out 2).trans rfl,(ag bZ.out 3).trans rfl⟩ (fun hHeld=>?_)
  clear hK K
  refine kK (a':=?_) ?_ ?_
  rotate_left
  ·show Act.put _ (some 61) _=_
   simp only [Act.put,List.setIfInBounds_toArray,List.set_cons_zero,List.set_cons_succ,bI,dV]
   rfl
  refine zp HT_ 4 (some 62) ?_
  refine zu HT_ 5 (some 63) (fun K hK=>?_)
  refine oK Tryz.func26 (by kernel_rfl) rfl #[.agg #[.bool false, .bool DR, .string ah1, .int .i64 0]] (by rfl) rfl rfl (by (try simp only [List.map_toArray,List.map_cons,List.map_nil]);first|done|rfl|(simp only [List.length_drop,List.length_take];rfl)) ?_
  with_reducible refine (kF.calls false DR ah1 0 auu auv auw aux azQ _ A25.out).mono ?_
  rintro e w39 ⟨rfl,hb⟩
  refine ⟨_,rfl,?_⟩
  replace jH:=zVb jH hb
  replace DT:=zVb DT hb
  replace bV:=zKb bV hb
  replace bZ:=zKb bZ hb
  replace HB:=zBs HB hb
  (try clear hb)
  (try clear hb2)
  (try clear hk)
  (try clear hi)
  (try simp only [ak,aj])
  refine hK.out _ _ ⟨(ag bZ.out 0).trans rfl,(ag bZ.out 1).trans rfl,(ag bZ.out 2).trans rfl,(ag bZ.out 3).trans rfl⟩ (fun hHeld=>?_)
  clear hK K
  refine kK (a':=?_) ?_ ?_
  rotate_left
  ·show Act.put _ (some 63) _=_
   simp only [Act.put,List.setIfInBounds_toArray,List.set_cons_zero,List.set_cons_succ,bI,dV]
   rfl
  refine zp HT_ 6 (some 64) ?_
  refine zp HT_ 7 (some 65) ?_
  refine zu HT_ 8 none (fun K hK=>?_)
  have aG2:=zl bV 0
  have azV:=au bV.out 0
  have apu:=jW.out
  have apv:=jV.out
  have azW:=zl bV 1
  have apw:=au bV.out 1
  have apx:=jW.out
  have apy:=jV.out
  have azX:=zl bV 2
  have apz:=au bV.out 2
  have apA:=jW.out
  have apB:=jV.out
  have azY:=zl bV 3
  have apC:=au bV.out 3
  have apD:=jW.out
  have apE:=jV.out
  refine vK (w1:=?_) (by rfl) rfl ?_ ?_
  rotate_left
  ·go_simp
   rfl
  refine hK.out _ _ ⟨(zh hHeld),(zh hHeld),(zh hHeld),(zh hHeld)⟩ (fun hHeld=>?_)
  clear hK K
  refine zp HT_ 9 (some 5) ?_
  refine o6 (jd HT_.out (by kernel_rfl)) ?_
  try go_wp2
  refine bodyPost_ret (bJ rfl _ _ iJ 23 #[.bool auu, .bool auv, .string auw, .int .i64 aux] (0,0) _ rfl (zKp bV) Tryz.underlying23 rfl (by kernel_rfl)) rfl ?_
  exact ⟨by first|exact z3|(simp only [← yR];exact z3)|exact z2,zB HB⟩
 ·generalize w31.drew=w50 at bV bZ HB hHeld ⊢
  refine zp HT_ 0 (some 36) ?_
  refine zp HT_ 2 (some 38) ?_
  refine zp HT_ 5 (some 41) ?_
  refine zp HT_ 8 (some 44) ?_
  refine zt HT_ HW_ 1 (some 37) hHeld ?_
  refine zp HT_ 3 (some 39) ?_
  refine zt HT_ HW_ 6 (some 42) hHeld ?_
  refine zp HT_ 7 (some 43) ?_
  refine zp HT_ 9 (some 45) ?_
  refine zu HT_ 4 (some 40) (fun K hK=>?_)
  refine oK Tryz.func48 (by kernel_rfl) rfl #[.int .u64 Q8] (by rfl) rfl rfl (by (try simp only [List.map_toArray,List.map_cons,List.map_nil]);first|done|(simp only [yR];rfl)|rfl|(simp only [List.length_drop,List.length_take];rfl)) ?_
  with_reducible refine (rV.calls k Q8 Hu _ A21.out).mono ?_
  rintro e w51 ⟨ake,rfl,ho0,hb⟩
  refine ⟨_,rfl,?_⟩
  have jH:=am (Kd.df (Kd.bD (ok':=fun k_=>k_≠iJ∧k_≠iC) ho0 (fun k_ hk_=>⟨(Kd.fU (g:=iJ) (o := .cells #[.bool false, .bool false, .string (⟨#[]⟩:ByteArray), .int .i64 0] 23 (0,0)) (zK bV) k_ hk_),(Kd.fU (g:=iC) (o := .cells #[.int .i64 Hw, .bool DR, .int .i64 Bq, .int .u64 Eh] 77 (0,0)) (zK bZ) k_ hk_)⟩)) (zS HB))
  replace bV:=zKb bV hb
  replace bZ:=zKb bZ hb
  replace HB:=zBs HB hb
  (try clear hb)
  (try clear hb2)
  (try clear hk)
  (try clear hi)
  (try clear ho0)
  refine hK.out _ _ ⟨(ag bZ.out 0).trans rfl,(ag bZ.out 1).trans rfl,(ag bZ.out 2).trans rfl,(ag bZ.out 3).trans rfl⟩ (fun hHeld=>?_)
  clear hK K
  refine kK (a':=?_) ?_ ?_
  rotate_left
  ·show Act.put _ (some 40) _=_
   simp only [Act.put,List.setIfInBounds_toArray,List.set_cons_zero,List.set_cons_succ,bI,dV]
   rfl
  refine zp HT_ 10 (some 9) ?_
  refine zp HT_ 11 (some 10) ?_
  refine o6 (jd HT_.out (by kernel_rfl)) ?_
  obtain ⟨azZ,az0,az1⟩:=Kd.dG jH.out
  subst az1
  try go_wp2_with (first|((with_reducible refine af (f:=49) rfl ?_);refine zc (some 51) Tryz.func49 #[.slice azZ Hu.length az0, .int .i64 (wrap64 ((wrap64 (Bq - 63))+Ik))] (lH.calls _ (fun k_=>(k_≠iJ∧k_≠iC)) _ _ _ _ _ _ _ jH.out A23.out) ?_;rintro e w53 ⟨azU,rfl,ho0,hb⟩;refine ⟨_,rfl,?_⟩;replace jH:=zVb jH hb;have DT:=am (Kd.df (Kd.bD (ok':=fun k_=>k_≠iJ∧k_≠iC) ho0 (fun k_ hk_=>⟨Or.elim hk_ (fun hs_=>hs_.1) (fun hn_=>(Kd.fU (g:=iJ) (o := .cells #[.bool false, .bool false, .string (⟨#[]⟩:ByteArray), .int .i64 0] 23 (0,0)) (zK bV) k_ hn_)),Or.elim hk_ (fun hs_=>hs_.2) (fun hn_=>(Kd.fU (g:=iC) (o := .cells #[.int .i64 Hw, .bool DR, .int .i64 Bq, .int .u64 Eh] 77 (0,0)) (zK bZ) k_ hn_))⟩)) (zS HB));replace bV:=zKb bV hb;replace bZ:=zKb bZ hb;replace HB:=zBs HB hb;clear hb ho0;(try simp only [ak,aj]);obtain ⟨_,_,_,_,_,_,_,_⟩:=zf4 bV))
  refine bodyPost_ret (bJ rfl _ _ iJ 23 #[.bool false, .bool false, .string (⟨#[]⟩:ByteArray), .int .i64 0] (0,0) _ rfl (zKp bV) Tryz.underlying23 rfl (by kernel_rfl)) rfl ?_
  exact ⟨by first|exact z3|(simp only [← yR];exact z3)|exact z2,zB HB⟩
 ·generalize w31.drew=w66 at bV bZ HB hHeld ⊢
  refine zp HT_ 0 (some 36) ?_
  refine zp HT_ 2 (some 38) ?_
  refine zp HT_ 5 (some 41) ?_
  refine zp HT_ 8 (some 44) ?_
  refine zt HT_ HW_ 1 (some 37) hHeld ?_
  refine zp HT_ 3 (some 39) ?_
  refine zt HT_ HW_ 6 (some 42) hHeld ?_
  refine zp HT_ 7 (some 43) ?_
  refine zp HT_ 9 (some 45) ?_
  refine zu HT_ 4 (some 40) (fun K hK=>?_)
  refine oK Tryz.func48 (by kernel_rfl) rfl #[.int .u64 Q8] (by rfl) rfl rfl (by (try simp only [List.map_toArray,List.map_cons,List.map_nil]);first|done|(simp only [yR];rfl)|rfl|(simp only [List.length_drop,List.length_take];rfl)) ?_
  with_reducible refine (rV.calls k Q8 Hu _ A21.out).mono ?_
  rintro e w67 ⟨ake,rfl,ho0,hb⟩
  refine ⟨_,rfl,?_⟩
  have jH:=am (Kd.df (Kd.bD (ok':=fun k_=>k_≠iJ∧k_≠iC) ho0 (fun k_ hk_=>⟨(Kd.fU (g:=iJ) (o := .cells #[.bool false, .bool false, .string (⟨#[]⟩:ByteArray), .int .i64 0] 23 (0,0)) (zK bV) k_ hk_),(Kd.fU (g:=iC) (o := .cells #[.int .i64 Hw, .bool DR, .int .i64 Bq, .int .u64 Eh] 77 (0,0)) (zK bZ) k_ hk_)⟩)) (zS HB))
  replace bV:=zKb bV hb
  replace bZ:=zKb bZ hb
  replace HB:=zBs HB hb
  (try clear hb)
  (try clear hb2)
  (try clear hk)
  (try clear hi)
  (try clear ho0)
  refine hK.out _ _ ⟨(ag bZ.out 0).trans rfl,(ag bZ.out 1).trans rfl,(ag bZ.out 2).trans rfl,(ag bZ.out 3).trans rfl⟩ (fun hHeld=>?_)
  clear hK K
  refine kK (a':=?_) ?_ ?_
  rotate_left
  ·show Act.put _ (some 40) _=_
   simp only [Act.put,List.setIfInBounds_toArray,List.set_cons_zero,List.set_cons_succ,bI,dV]
   rfl
  refine zp HT_ 10 (some 9) ?_
  refine zp HT_ 11 (some 10) ?_
  refine o6 (jd HT_.out (by kernel_rfl)) ?_
  try go_wp2_with (first|((with_reducible refine af (f:=51) rfl ?_);refine zc (some 69) Tryz.func51 _ (gX.calls _ _ _ _ _ A55.out) ?_;rintro e w68 ⟨auG,rfl,ho0,hb⟩;refine ⟨_,rfl,?_⟩;replace jH:=zVb jH hb;have pU:=am (Kd.df (Kd.bD (ok':=fun k_=>k_≠iJ∧k_≠iC) ho0 (fun k_ hk_=>⟨(Kd.fU (g:=iJ) (o := .cells #[.bool false, .bool false, .string (⟨#[]⟩:ByteArray), .int .i64 0] 23 (0,0)) (zK bV) k_ hk_),(Kd.fU (g:=iC) (o := .cells #[.int .i64 Hw, .bool DR, .int .i64 Bq, .int .u64 Eh] 77 (0,0)) (zK bZ) k_ hk_)⟩)) (zS HB));replace bV:=zKb bV hb;replace bZ:=zKb bZ hb;replace HB:=zBs HB hb;clear hb ho0;(try simp only [ak,aj]);obtain ⟨apF,apG,apH⟩:=Kd.dG jH.out;subst apH;obtain ⟨akg,akh,apI⟩:=Kd.dG pU.out;subst apI)|((with_reducible refine ay (N:=79) rfl ?_);refine Kd.aeL (Kd.slice 25 (Kd.int .u64)) _ 88 ?hg (N':=79) ?hd (xs:=([Hu,YX]:List (List Int))) (inner := [.slice apF Hu.length apG, .slice akg YX.length akh]) (ok:=(fun k_=>k_≠iJ∧k_≠iC)) (okp:=(fun k_=>k_≠iJ∧k_≠iC)) ?hr ?hp (fun _ hk=>hk) ((show ∀ k_,w68.heap.size≤k_→(fun k_=>k_≠iJ∧k_≠iC) k_ from fun k_ hk=>⟨Kd.fU (g:=iJ) (o := .cells #[.bool false, .bool false, .string (⟨#[]⟩:ByteArray), .int .i64 0] 23 (0,0)) (zK bV) k_ hk,Kd.fU (g:=iC) (o := .cells #[.int .i64 Hw, .bool DR, .int .i64 Bq, .int .u64 Eh] 77 (0,0)) (zK bZ) k_ hk⟩) _ (Nat.le_refl _)) (Below.refl _ _) (Nat.le_refl _) (by simp) ?_;(case hd=>rfl);(case hg=>rfl);(case hr=>first|(go_simp;done)|(go_simp;rfl));(case hp=>exact (jm.one (show Kd.FK (Kd.slice 25 (Kd.int .u64)) _ _ Hu [.slice apF Hu.length apG] from (Kd.pJ (Kd.aX (Kd.bD (ok':=(fun k_=>k_≠iJ∧k_≠iC)) (jH.out) (fun k_ hk=>⟨hk.1,hk.2⟩))).2.1 (Kd.V_F (Kd.bD (ok':=(fun k_=>k_≠iJ∧k_≠iC)) (jH.out) (fun k_ hk=>⟨hk.1,hk.2⟩))))) (jm.one (show Kd.FK (Kd.slice 25 (Kd.int .u64)) _ _ YX [.slice akg YX.length akh] from (Kd.pJ (Kd.aX (Kd.bD (ok':=(fun k_=>k_≠iJ∧k_≠iC)) (pU.out) (fun k_ hk=>⟨hk.1,hk.2⟩))).2.1 (Kd.V_F (Kd.bD (ok':=(fun k_=>k_≠iJ∧k_≠iC)) (pU.out) (fun k_ hk=>⟨hk.1,hk.2⟩))))) (jm.none _ _))));intro az2 w71 ac1 hb hg_ jf;clear hg_ jf;(first|rw [← YY.out] at ac1|(simp only [Int.reduceToNat] at ac1;rw [← YY.out] at ac1));replace jH:=am (Kd.iP (zV jH) (Kd.EW ac1) hb);replace pU:=am (Kd.iP (zV pU) (Kd.EW ac1) hb);have tY:=am (Kd.KI ac1 (zS HB));replace bV:=zKb bV hb;replace bZ:=zKb bZ hb;replace HB:=zBs HB hb;clear hb ac1;obtain ⟨az3,az4,az5⟩:=Kd.F7 tY.out;subst az5)|((with_reducible refine af (f:=53) rfl ?_);refine zc (some 80) Tryz.func53 #[.slice az3 auy.length az4] (lL.calls _ (fun k_=>(k_≠iJ∧k_≠iC)) _ _ _ _ _ (Kd.N_V (tY.out)) A56.out) ?_;rintro e w74 ⟨az6,rfl,ho0,hb⟩;refine ⟨_,rfl,?_⟩;replace jH:=zVb jH hb;replace pU:=zVb pU hb;replace tY:=am (Kd.qW (by (with_reducible repeat (first|apply Kd.uY|apply Kd.vH|apply Kd.yu));exact tY.out) hb);have wV:=am (Kd.df (Kd.bD (ok':=fun k_=>k_≠iJ∧k_≠iC) ho0 (fun k_ hk_=>⟨Or.elim hk_ (fun hs_=>hs_.1) (fun hn_=>(Kd.fU (g:=iJ) (o := .cells #[.bool false, .bool false, .string (⟨#[]⟩:ByteArray), .int .i64 0] 23 (0,0)) (zK bV) k_ hn_)),Or.elim hk_ (fun hs_=>hs_.2) (fun hn_=>(Kd.fU (g:=iC) (o := .cells #[.int .i64 Hw, .bool DR, .int .i64 Bq, .int .u64 Eh] 77 (0,0)) (zK bZ) k_ hn_))⟩)) (zS HB));replace bV:=zKb bV hb;replace bZ:=zKb bZ hb;replace HB:=zBs HB hb;clear hb ho0;obtain ⟨az7,az8,az9⟩:=Kd.dG wV.out;subst az9)|((with_reducible refine af (f:=52) rfl ?_);refine zc (some 83) Tryz.func52 #[.slice az7 akd.length az8, .int .i64 (wrap64 (-(wrap64 ((wrap64 (Bq - 63))+Ik))))] (ed.calls _ (fun k_=>(k_≠iJ∧k_≠iC)) _ _ _ _ _ _ _ _ wV.out A57.out) ?_;rintro e w76 ⟨aAa,rfl,ho0,hb⟩;refine ⟨_,rfl,?_⟩;replace jH:=zVb jH hb;replace pU:=zVb pU hb;replace tY:=am (Kd.qW (by (with_reducible repeat (first|apply Kd.uY|apply Kd.vH|apply Kd.yu));exact tY.out) hb);replace wV:=zVb wV hb;have DU:=am (Kd.df (Kd.bD (ok':=fun k_=>k_≠iJ∧k_≠iC) ho0 (fun k_ hk_=>⟨Or.elim hk_ (fun hs_=>hs_.1) (fun hn_=>(Kd.fU (g:=iJ) (o := .cells #[.bool false, .bool false, .string (⟨#[]⟩:ByteArray), .int .i64 0] 23 (0,0)) (zK bV) k_ hn_)),Or.elim hk_ (fun hs_=>hs_.2) (fun hn_=>(Kd.fU (g:=iC) (o := .cells #[.int .i64 Hw, .bool DR, .int .i64 Bq, .int .u64 Eh] 77 (0,0)) (zK bZ) k_ hn_))⟩)) (zS HB));replace bV:=zKb bV hb;replace bZ:=zKb bZ hb;replace HB:=zBs HB hb;clear hb ho0;(try simp only [ak,aj])))
  replace jH:=am (Kd.iQ jH.out)
  replace pU:=am (Kd.iQ pU.out)
  replace tY:=am (Kd.yu tY.out)
  replace wV:=am (Kd.iQ wV.out)
  replace DU:=am (Kd.iQ DU.out)
  replace bV:=am (dS bV.out)
  replace bZ:=am (dS bZ.out)
  replace HB:=am (aZ HB.out)
  obtain ⟨aAb,aAc,auH⟩:=Kd.dG DU.out
  (first|subst auH|(injection auH with f1_ f2_ f3_;have f4_:=f1_.symm;have f5_:=f3_.symm;clear f1_ f2_ f3_;subst f4_;subst f5_))
  refine ny (n:=11) (S:=fun w'=>w'.cell? ⟨iC,0,none⟩=some (.int .i64 Hw)∧w'.cell? ⟨iC,1,none⟩=some (.bool DR)∧w'.cell? ⟨iC,2,none⟩=some (.int .i64 Bq)∧w'.cell? ⟨iC,3,none⟩=some (.int .u64 Eh)) (ds := []) (Array.replicate 11 false) (by kernel_rfl) rfl rfl ⟨(ag bZ.out 0).trans rfl,(ag bZ.out 1).trans rfl,(ag bZ.out 2).trans rfl,(ag bZ.out 3).trans rfl⟩ (fun hHeld=>?_);refine iw aN.akL aN.aeK (fun HT_ HW_=>?_)
  generalize w76.drew=w77 at jH pU tY wV DU bV bZ HB hHeld ⊢
  refine zp HT_ 0 (some 91) ?_
  refine zp HT_ 2 (some 93) ?_
  refine zp HT_ 4 (some 95) ?_
  refine zt HT_ HW_ 1 (some 92) hHeld ?_
  refine zu HT_ 3 (some 94) (fun K hK=>?_)
  refine oK Tryz.func50 (by kernel_rfl) rfl #[.slice aAb auz.length aAc] (by rfl) rfl rfl (by (try simp only [List.map_toArray,List.map_cons,List.map_nil]);first|done|rfl|(simp only [List.length_drop,List.length_take];rfl)) ?_
  with_reducible refine (eU.calls k _ _ auz ah2 _ ?fF ?kC A58.out).mono ?_
  (case fF=>repeat (first|exact (Kd.aX DU.out).2.2|(with_reducible refine Kd.ku ?_ _)|(with_reducible refine Kd.jZ ?_ _)|(with_reducible refine Kd.nC ?_)))
  (case kC=>exact (Kd.aX DU.out).2.1)
  rintro e w79 ⟨rfl,hb⟩
  refine ⟨_,rfl,?_⟩
  replace jH:=zVb jH hb
  replace pU:=zVb pU hb
  replace tY:=am (Kd.qW (by (with_reducible repeat (first|apply Kd.uY|apply Kd.vH|apply Kd.yu));exact tY.out) hb)
  replace wV:=zVb wV hb
  replace DU:=zVb DU hb
  replace bV:=zKb bV hb
  replace bZ:=zKb bZ hb
  replace HB:=zBs HB hb
  (try clear hb)
  (try clear hb2)
  (try clear hk)
  (try clear hi)
  refine hK.out _ _ ⟨(ag bZ.out 0).trans rfl,(ag bZ.out 1).trans rfl,(ag bZ.out 2).trans rfl,(ag bZ.out 3).trans rfl⟩ (fun hHeld=>?_)
  clear hK K
  refine kK (a':=?_) ?_ ?_
  rotate_left
  ·show Act.put _ (some 94) _=_
   simp only [Act.put,List.setIfInBounds_toArray,List.set_cons_zero,List.set_cons_succ,bI,dV]
   rfl
  refine zp HT_ 5 (some 96) ?_
  refine zu HT_ 6 (some 97) (fun K hK=>?_)
  refine oK Tryz.func26 (by kernel_rfl) rfl #[.agg #[.bool false, .bool DR, .string ah2, .int .i64 (wrap64 ((wrap64 (Bq - 63))+Ik))]] (by rfl) rfl rfl (by (try simp only [List.map_toArray,List.map_cons,List.map_nil]);first|done|rfl|(simp only [List.length_drop,List.length_take];rfl)) ?_
  with_reducible refine (kF.calls false DR ah2 (wrap64 ((wrap64 (Bq - 63))+Ik)) auA auB auC auD azT _ A59.out).mono ?_
  rintro e w80 ⟨rfl,hb⟩
  refine ⟨_,rfl,?_⟩
  replace jH:=zVb jH hb
  replace pU:=zVb pU hb
  replace tY:=am (Kd.qW (by (with_reducible repeat (first|apply Kd.uY|apply Kd.vH|apply Kd.yu));exact tY.out) hb)
  replace wV:=zVb wV hb
  replace DU:=zVb DU hb
  replace bV:=zKb bV hb
  replace bZ:=zKb bZ hb
  replace HB:=zBs HB hb
  (try clear hb)
  (try clear hb2)
  (try clear hk)
  (try clear hi)
  (try simp only [ak,aj])
  refine hK.out _ _ ⟨(ag bZ.out 0).trans rfl,(ag bZ.out 1).trans rfl,(ag bZ.out 2).trans rfl,(ag bZ.out 3).trans rfl⟩ (fun hHeld=>?_)
  clear hK K
  refine kK (a':=?_) ?_ ?_
  rotate_left
  ·show Act.put _ (some 97) _=_
   simp only [Act.put,List.setIfInBounds_toArray,List.set_cons_zero,List.set_cons_succ,bI,dV]
   rfl
  refine zp HT_ 7 (some 98) ?_
  refine zp HT_ 8 (some 99) ?_
  refine zu HT_ 9 none (fun K hK=>?_)
  have aG3:=zl bV 0
  have aAd:=au bV.out 0
  have apJ:=jW.out
  have apK:=jV.out
  have aG4:=zl bV 1
  have aAe:=au bV.out 1
  have apL:=jW.out
  have apM:=jV.out
  have aG5:=zl bV 2
  have aAf:=au bV.out 2
  have apN:=jW.out
  have apO:=jV.out
  have aG6:=zl bV 3
  have aAg:=au bV.out 3
  have apP:=jW.out
  have apQ:=jV.out
  refine vK (w1:=?_) (by rfl) rfl ?_ ?_
  rotate_left
  ·go_simp
   rfl
  refine hK.out _ _ ⟨(zh hHeld),(zh hHeld),(zh hHeld),(zh hHeld)⟩ (fun hHeld=>?_)
  clear hK K
  refine zp HT_ 10 (some 5) ?_
  refine o6 (jd HT_.out (by kernel_rfl)) ?_
  try go_wp2
  refine bodyPost_ret (bJ rfl _ _ iJ 23 #[.bool auA, .bool auB, .string auC, .int .i64 auD] (0,0) _ rfl (zKp bV) Tryz.underlying23 rfl (by kernel_rfl)) rfl ?_
  exact ⟨by first|exact z3|(simp only [← yR];exact z3)|exact z2,zB HB⟩
 ·generalize w31.drew=w91 at bV bZ HB hHeld ⊢
  refine zp HT_ 0 (some 36) ?_
  refine zp HT_ 2 (some 38) ?_
  refine zp HT_ 5 (some 41) ?_
  refine zp HT_ 8 (some 44) ?_
  refine zt HT_ HW_ 1 (some 37) hHeld ?_
  refine zp HT_ 3 (some 39) ?_
  refine zt HT_ HW_ 6 (some 42) hHeld ?_
  refine zp HT_ 7 (some 43) ?_
  refine zp HT_ 9 (some 45) ?_
  refine zu HT_ 4 (some 40) (fun K hK=>?_)
  refine oK Tryz.func48 (by kernel_rfl) rfl #[.int .u64 Q8] (by rfl) rfl rfl (by (try simp only [List.map_toArray,List.map_cons,List.map_nil]);first|done|(simp only [yR];rfl)|rfl|(simp only [List.length_drop,List.length_take];rfl)) ?_
  with_reducible refine (rV.calls k Q8 Hu _ A21.out).mono ?_
  rintro e w92 ⟨ake,rfl,ho0,hb⟩
  refine ⟨_,rfl,?_⟩
  have jH:=am (Kd.df (Kd.bD (ok':=fun k_=>k_≠iJ∧k_≠iC) ho0 (fun k_ hk_=>⟨(Kd.fU (g:=iJ) (o := .cells #[.bool false, .bool false, .string (⟨#[]⟩:ByteArray), .int .i64 0] 23 (0,0)) (zK bV) k_ hk_),(Kd.fU (g:=iC) (o := .cells #[.int .i64 Hw, .bool DR, .int .i64 Bq, .int .u64 Eh] 77 (0,0)) (zK bZ) k_ hk_)⟩)) (zS HB))
  replace bV:=zKb bV hb
  replace bZ:=zKb bZ hb
  replace HB:=zBs HB hb
  (try clear hb)
  (try clear hb2)
  (try clear hk)
  (try clear hi)
  (try clear ho0)
  refine hK.out _ _ ⟨(ag bZ.out 0).trans rfl,(ag bZ.out 1).trans rfl,(ag bZ.out 2).trans rfl,(ag bZ.out 3).trans rfl⟩ (fun hHeld=>?_)
  clear hK K
  refine kK (a':=?_) ?_ ?_
  rotate_left
  ·show Act.put _ (some 40) _=_
   simp only [Act.put,List.setIfInBounds_toArray,List.set_cons_zero,List.set_cons_succ,bI,dV]
   rfl
  refine zp HT_ 10 (some 9) ?_
  refine zp HT_ 11 (some 10) ?_
  refine o6 (jd HT_.out (by kernel_rfl)) ?_
  try go_wp2_with (first|((with_reducible refine af (f:=51) rfl ?_);refine zc (some 69) Tryz.func51 _ (gX.calls _ _ _ _ _ A55.out) ?_;rintro e w93 ⟨auG,rfl,ho0,hb⟩;refine ⟨_,rfl,?_⟩;replace jH:=zVb jH hb;have pU:=am (Kd.df (Kd.bD (ok':=fun k_=>k_≠iJ∧k_≠iC) ho0 (fun k_ hk_=>⟨(Kd.fU (g:=iJ) (o := .cells #[.bool false, .bool false, .string (⟨#[]⟩:ByteArray), .int .i64 0] 23 (0,0)) (zK bV) k_ hk_),(Kd.fU (g:=iC) (o := .cells #[.int .i64 Hw, .bool DR, .int .i64 Bq, .int .u64 Eh] 77 (0,0)) (zK bZ) k_ hk_)⟩)) (zS HB));replace bV:=zKb bV hb;replace bZ:=zKb bZ hb;replace HB:=zBs HB hb;clear hb ho0;(try simp only [ak,aj]);obtain ⟨auI,auJ,aAh⟩:=Kd.dG jH.out;subst aAh;obtain ⟨auK,auL,aAi⟩:=Kd.dG pU.out;subst aAi)|((with_reducible refine ay (N:=79) rfl ?_);refine Kd.aeL (Kd.slice 25 (Kd.int .u64)) _ 88 ?hg (N':=79) ?hd (xs:=([Hu,YX]:List (List Int))) (inner := [.slice auI Hu.length auJ, .slice auK YX.length auL]) (ok:=(fun k_=>k_≠iJ∧k_≠iC)) (okp:=(fun k_=>k_≠iJ∧k_≠iC)) ?hr ?hp (fun _ hk=>hk) ((show ∀ k_,w93.heap.size≤k_→(fun k_=>k_≠iJ∧k_≠iC) k_ from fun k_ hk=>⟨Kd.fU (g:=iJ) (o := .cells #[.bool false, .bool false, .string (⟨#[]⟩:ByteArray), .int .i64 0] 23 (0,0)) (zK bV) k_ hk,Kd.fU (g:=iC) (o := .cells #[.int .i64 Hw, .bool DR, .int .i64 Bq, .int .u64 Eh] 77 (0,0)) (zK bZ) k_ hk⟩) _ (Nat.le_refl _)) (Below.refl _ _) (Nat.le_refl _) (by simp) ?_;(case hd=>rfl);(case hg=>rfl);(case hr=>first|(go_simp;done)|(go_simp;rfl));(case hp=>exact (jm.one (show Kd.FK (Kd.slice 25 (Kd.int .u64)) _ _ Hu [.slice auI Hu.length auJ] from (Kd.pJ (Kd.aX (Kd.bD (ok':=(fun k_=>k_≠iJ∧k_≠iC)) (jH.out) (fun k_ hk=>⟨hk.1,hk.2⟩))).2.1 (Kd.V_F (Kd.bD (ok':=(fun k_=>k_≠iJ∧k_≠iC)) (jH.out) (fun k_ hk=>⟨hk.1,hk.2⟩))))) (jm.one (show Kd.FK (Kd.slice 25 (Kd.int .u64)) _ _ YX [.slice auK YX.length auL] from (Kd.pJ (Kd.aX (Kd.bD (ok':=(fun k_=>k_≠iJ∧k_≠iC)) (pU.out) (fun k_ hk=>⟨hk.1,hk.2⟩))).2.1 (Kd.V_F (Kd.bD (ok':=(fun k_=>k_≠iJ∧k_≠iC)) (pU.out) (fun k_ hk=>⟨hk.1,hk.2⟩))))) (jm.none _ _))));intro az2 w96 ac2 hb hg_ jf;clear hg_ jf;(first|rw [← YY.out] at ac2|(simp only [Int.reduceToNat] at ac2;rw [← YY.out] at ac2));replace jH:=am (Kd.iP (zV jH) (Kd.EW ac2) hb);replace pU:=am (Kd.iP (zV pU) (Kd.EW ac2) hb);have tY:=am (Kd.KI ac2 (zS HB));replace bV:=zKb bV hb;replace bZ:=zKb bZ hb;replace HB:=zBs HB hb;clear hb ac2;obtain ⟨aAj,aAk,aAl⟩:=Kd.F7 tY.out;subst aAl)|((with_reducible refine af (f:=53) rfl ?_);refine zc (some 80) Tryz.func53 #[.slice aAj auy.length aAk] (lL.calls _ (fun k_=>(k_≠iJ∧k_≠iC)) _ _ _ _ _ (Kd.N_V (tY.out)) A56.out) ?_;rintro e w99 ⟨az6,rfl,ho0,hb⟩;refine ⟨_,rfl,?_⟩;replace jH:=zVb jH hb;replace pU:=zVb pU hb;replace tY:=am (Kd.qW (by (with_reducible repeat (first|apply Kd.uY|apply Kd.vH|apply Kd.yu));exact tY.out) hb);have wV:=am (Kd.df (Kd.bD (ok':=fun k_=>k_≠iJ∧k_≠iC) ho0 (fun k_ hk_=>⟨Or.elim hk_ (fun hs_=>hs_.1) (fun hn_=>(Kd.fU (g:=iJ) (o := .cells #[.bool false, .bool false, .string (⟨#[]⟩:ByteArray), .int .i64 0] 23 (0,0)) (zK bV) k_ hn_)),Or.elim hk_ (fun hs_=>hs_.2) (fun hn_=>(Kd.fU (g:=iC) (o := .cells #[.int .i64 Hw, .bool DR, .int .i64 Bq, .int .u64 Eh] 77 (0,0)) (zK bZ) k_ hn_))⟩)) (zS HB));replace bV:=zKb bV hb;replace bZ:=zKb bZ hb;replace HB:=zBs HB hb;clear hb ho0;obtain ⟨apR,apS,apT⟩:=Kd.dG wV.out;subst apT)|((with_reducible refine af (f:=52) rfl ?_);refine zc (some 83) Tryz.func52 #[.slice apR akd.length apS, .int .i64 (wrap64 (-(wrap64 ((wrap64 (Bq - 63))+Ik))))] (ed.calls _ (fun k_=>(k_≠iJ∧k_≠iC)) _ _ _ _ _ _ _ _ wV.out A57.out) ?_;rintro e aG7 ⟨aAa,rfl,ho0,hb⟩;refine ⟨_,rfl,?_⟩;replace jH:=zVb jH hb;replace pU:=zVb pU hb;replace tY:=am (Kd.qW (by (with_reducible repeat (first|apply Kd.uY|apply Kd.vH|apply Kd.yu));exact tY.out) hb);replace wV:=zVb wV hb;have DU:=am (Kd.df (Kd.bD (ok':=fun k_=>k_≠iJ∧k_≠iC) ho0 (fun k_ hk_=>⟨Or.elim hk_ (fun hs_=>hs_.1) (fun hn_=>(Kd.fU (g:=iJ) (o := .cells #[.bool false, .bool false, .string (⟨#[]⟩:ByteArray), .int .i64 0] 23 (0,0)) (zK bV) k_ hn_)),Or.elim hk_ (fun hs_=>hs_.2) (fun hn_=>(Kd.fU (g:=iC) (o := .cells #[.int .i64 Hw, .bool DR, .int .i64 Bq, .int .u64 Eh] 77 (0,0)) (zK bZ) k_ hn_))⟩)) (zS HB));replace bV:=zKb bV hb;replace bZ:=zKb bZ hb;replace HB:=zBs HB hb;clear hb ho0;(try simp only [ak,aj]);obtain ⟨_,_,_,_,_,_,_,_⟩:=zf4 bV))
  refine bodyPost_ret (bJ rfl _ _ iJ 23 #[.bool false, .bool false, .string (⟨#[]⟩:ByteArray), .int .i64 0] (0,0) _ rfl (zKp bV) Tryz.underlying23 rfl (by kernel_rfl)) rfl ?_
  exact ⟨by first|exact z3|(simp only [← yR];exact z3)|exact z2,zB HB⟩
 generalize w31.drew=aG8 at bV bZ HB hHeld ⊢
 refine zp HT_ 0 (some 36) ?_
 refine zp HT_ 2 (some 38) ?_
 refine zp HT_ 5 (some 41) ?_
 refine zp HT_ 8 (some 44) ?_
 refine zt HT_ HW_ 1 (some 37) hHeld ?_
 refine zp HT_ 3 (some 39) ?_
 refine zt HT_ HW_ 6 (some 42) hHeld ?_
 refine zp HT_ 7 (some 43) ?_
 refine zp HT_ 9 (some 45) ?_
 refine zu HT_ 4 (some 40) (fun K hK=>?_)
 refine oK Tryz.func48 (by kernel_rfl) rfl #[.int .u64 Q8] (by rfl) rfl rfl (by (try simp only [List.map_toArray,List.map_cons,List.map_nil]);first|done|(simp only [yR];rfl)|rfl|(simp only [List.length_drop,List.length_take];rfl)) ?_
 with_reducible refine (rV.calls k Q8 Hu _ A21.out).mono ?_
 rintro e aG9 ⟨ake,rfl,ho0,hb⟩
 refine ⟨_,rfl,?_⟩
 have jH:=am (Kd.df (Kd.bD (ok':=fun k_=>k_≠iJ∧k_≠iC) ho0 (fun k_ hk_=>⟨(Kd.fU (g:=iJ) (o := .cells #[.bool false, .bool false, .string (⟨#[]⟩:ByteArray), .int .i64 0] 23 (0,0)) (zK bV) k_ hk_),(Kd.fU (g:=iC) (o := .cells #[.int .i64 Hw, .bool DR, .int .i64 Bq, .int .u64 Eh] 77 (0,0)) (zK bZ) k_ hk_)⟩)) (zS HB))
 replace bV:=zKb bV hb
 replace bZ:=zKb bZ hb
 replace HB:=zBs HB hb
 (try clear hb)
 (try clear hb2)
 (try clear hk)
 (try clear hi)
 (try clear ho0)
 refine hK.out _ _ ⟨(ag bZ.out 0).trans rfl,(ag bZ.out 1).trans rfl,(ag bZ.out 2).trans rfl,(ag bZ.out 3).trans rfl⟩ (fun hHeld=>?_)
 clear hK K
 refine kK (a':=?_) ?_ ?_
 rotate_left
 ·show Act.put _ (some 40) _=_
  simp only [Act.put,List.setIfInBounds_toArray,List.set_cons_zero,List.set_cons_succ,bI,dV]
  rfl
 refine zp HT_ 10 (some 9) ?_
 refine zp HT_ 11 (some 10) ?_
 refine o6 (jd HT_.out (by kernel_rfl)) ?_
 try go_wp2_with (first|((with_reducible refine af (f:=51) rfl ?_);refine zc (some 69) Tryz.func51 _ (gX.calls _ _ _ _ _ A55.out) ?_;rintro e aHa ⟨auG,rfl,ho0,hb⟩;refine ⟨_,rfl,?_⟩;replace jH:=zVb jH hb;have pU:=am (Kd.df (Kd.bD (ok':=fun k_=>k_≠iJ∧k_≠iC) ho0 (fun k_ hk_=>⟨(Kd.fU (g:=iJ) (o := .cells #[.bool false, .bool false, .string (⟨#[]⟩:ByteArray), .int .i64 0] 23 (0,0)) (zK bV) k_ hk_),(Kd.fU (g:=iC) (o := .cells #[.int .i64 Hw, .bool DR, .int .i64 Bq, .int .u64 Eh] 77 (0,0)) (zK bZ) k_ hk_)⟩)) (zS HB));replace bV:=zKb bV hb;replace bZ:=zKb bZ hb;replace HB:=zBs HB hb;clear hb ho0;(try simp only [ak,aj]);obtain ⟨_,_,_,_,_,_,_,_⟩:=zf4 bV))
 refine bodyPost_ret (bJ rfl _ _ iJ 23 #[.bool false, .bool false, .string (⟨#[]⟩:ByteArray), .int .i64 0] (0,0) _ rfl (zKp bV) Tryz.underlying23 rfl (by kernel_rfl)) rfl ?_
 exact ⟨by first|exact z3|(simp only [← yR];exact z3)|exact z2,zB HB⟩
def lm.f (k:Nat) (a0:Int) (a1:Int):Option (ByteArray × Option Int):=(aN.f k a0 a1).bind fun QF=>(if QF.2.2.2.2.isNone=true then ((lN.f QF.1 QF.2.1 QF.2.2.1 QF.2.2.2.1).bind fun ah4=>(some (ah4.1,ah4.2))) else (some ((⟨#[]⟩:ByteArray),some (QF.2.2.2.2.getD 0))))
theorem lm.calls (k:Nat) (a0:Int) (a1:Int) (r1:ByteArray) (r2:Option Int) (w:World) (h:lm.f k a0 a1=some (r1,r2)) (htab:Fx.Laid w:=by exact Fx.Laid.below HTAB.out (by repeat (first|(with_reducible first|exact HB.out|apply bz|apply aI|apply aZ|refine bu ?_ (ae.out (by assumption)))|exact HB.out))) :
    Calls Tryz.prog 17 #[.int .i64 a0, .int .u64 a1] w fun e w'=>e = .returned (.tuple #[.string r1,qm r2])∧Below w.heap.size w w':=by
 have HTAB:=am htab
 clear htab
 have Ql:=Tryz.underlying23
 have yL:=Tryz.underlying27
 have hu64:=Tryz.underlying64
 have HB:=am (Below.refl w.heap.size w)
 have H:=am h
 unfold lm.f at H
 clear h
 replace H:=zo H
 obtain ⟨⟨aHb,aHc,aHd,aHe,aAm⟩,A3,H⟩:=H
 try dsimp only at H
 rcases aAm with _|aHf
 replace H:=zb1 H
 try simp only [ak,aj]
 replace H:=zo H
 obtain ⟨⟨aHg,aHh⟩,A4,H⟩:=H
 try dsimp only at H
 obtain ⟨rfl,rfl⟩:=zJ2 H
 rotate_left
 replace H:=zb0 H
 try simp only [Option.getD_some] at H
 try simp only [ak,aj]
 obtain ⟨rfl,rfl⟩:=zJ2 H
 rotate_left
 all_goals (go_enter Tryz.func17,Tryz.ntmps17;go_wp2_with (first|((with_reducible refine af (f:=16) rfl ?_);refine zc (some 11) Tryz.func16 _ (aN.calls _ _ _ _ _ _ _ _ _ A3.out) ?_;rintro e w5 ⟨rfl,hb⟩;refine ⟨_,rfl,?_⟩;replace HB:=zBs HB hb;clear hb;(try simp only [ak,aj]))|((with_reducible refine ay (N:=6) rfl ?_);refine zx 6 23 #[.bool false, .bool false, .string (⟨#[]⟩:ByteArray), .int .i64 0] ?_;intro aAn hg w6 hbox hb;have ac3:=am (hbox);have aAo:=zG hg HB;have aAp:=zG hg HB;replace HB:=zBs HB hb;clear hb hbox hg;obtain ⟨_,_,_,_,_,_,_,_⟩:=zf4 ac3)|((with_reducible refine af (f:=30) rfl ?_);refine zc (some 18) Tryz.func30 _ (lN.calls _ _ _ _ _ _ _ A4.out) ?_;rintro e w8 ⟨rfl,hb⟩;refine ⟨_,rfl,?_⟩;replace ac3:=am (bU (zKp ac3) hb);replace HB:=zBs HB hb;clear hb;(try simp only [ak,aj]))))
 ·go_ret2
  exact ⟨z2,zB HB⟩
 go_ret2
 exact ⟨z2,zB HB⟩
end Go.Proofs.Yy.PTx
end
