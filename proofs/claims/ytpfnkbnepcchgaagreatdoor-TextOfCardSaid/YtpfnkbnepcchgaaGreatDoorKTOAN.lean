/- Part 14. -/
import Derived.Test.YtpfnkbnepcchgaaGreatDoorKTOAM
set_option linter.unusedSimpArgs false
set_option linter.unusedVariables false
section
set_option maxHeartbeats 8000000
set_option maxRecDepth 100000
namespace Go.Proofs.Yy.PTx
open Go.RowKit Go.Proofs.Yy.Z Go.Proofs.Yw.PrintWords Go.Proofs.Yw.PrintLast Go.Proofs.Yw.PrintMore
open Go.Proofs.Yy.M
attribute [local go_sem] dP eU lV lX lW lU
attribute [local go_sem] iq ik jE jD gu gq iE iD
def bD.f (k:Nat)(a0:Int)(a1:Int):Option (Bool × Bool × ByteArray × Int × Option Int):=(dI.f k a0 a1).bind fun Aw=>(if Aw.2.2.2.2.isNone=true then (if Aw.1=2 then (some (true,false,(⟨#[]⟩:ByteArray),0,none)) else (if Aw.1=0 then (some (false,false,(⟨#[48]⟩:ByteArray),0,none)) else ((bits_TrailingZeros64.f Aw.2.2.2.1).bind fun IU=>(if 0≤IU then ((qU.f k (shr .u64 Aw.2.2.2.1 IU)).bind fun Ik=>(if (wrap64 ((wrap64 (Aw.2.2.1-63))+IU))≥0 then ((lQ.f k Ik (wrap64 ((wrap64 (Aw.2.2.1-63))+IU))).bind fun adv=>(if adv.2.isNone=true then ((jo.f k adv.1).bind fun aio=>((lh.f false Aw.2.1 aio 0).bind fun VO=>(some (VO.1,VO.2.1,VO.2.2.1,VO.2.2.2.1,VO.2.2.2.2)))) else (some (false,false,(⟨#[]⟩:ByteArray),0,some (adv.2.getD 0))))) else ((iw.f k (wrap64 (-(wrap64 ((wrap64 (Aw.2.2.1-63))+IU))))).bind fun adw=>(if adw.2.isNone=true then ((lM.f k (([Ik,adw.1]:List (List Int)))).bind fun ak9=>((eQ.f k ak9 (wrap64 (-(wrap64 ((wrap64 (Aw.2.2.1-63))+IU))))).bind fun adx=>(if adx.2.2.isNone=true then ((jo.f k adx.1).bind fun aip=>((lh.f false Aw.2.1 aip (wrap64 ((wrap64 (Aw.2.2.1-63))+IU))).bind fun VP=>(some (VP.1,VP.2.1,VP.2.2.1,VP.2.2.2.1,VP.2.2.2.2)))) else (some (false,false,(⟨#[]⟩:ByteArray),0,some (adx.2.2.getD 0)))))) else (some (false,false,(⟨#[]⟩:ByteArray),0,some (adw.2.getD 0))))))) else (none))))) else (some (false,false,(⟨#[]⟩:ByteArray),0,some (Aw.2.2.2.2.getD 0))))
def bD.T9:Bool × List (List Nat × List Nat):=(true,[([],[]),([0],[0]),([],[]),([1,2],[1,2]),([3],[3]),([],[]),([5],[5]),([6],[6]),([],[]),([7,8],[7,8]),([4,4,0,1,2,3,4],[4]),([9,10,0,1,2,3,4,5,6,7,8,9,10],[9])])
def bD.B9:List Nat := [0,1,0,7,15,0,32,96,0,480,31,2047]
theorem bD.agr:rX .any (opsOf Tryz.f16 9)=bD.T9:=by kernel_rfl
theorem bD.TV:jf bD.T9.2 bD.B9=true:=by kernel_rfl
def bD.T14:Bool × List (List Nat × List Nat):=(true,[([],[]),([0],[0]),([],[]),([2],[2]),([1,3],[1,3]),([4,3],[4]),([5],[5]),([5],[5]),([6,5,0,1,2,3,4,5,6,7],[6]),([7,8,0,1,2,3,4,5,6,7,8],[7])])
def bD.B14:List Nat := [0,1,0,4,15,31,63,63,255,511]
theorem bD.aa5:rX .any (opsOf Tryz.f16 14)=bD.T14:=by kernel_rfl
theorem bD.Sl:jf bD.T14.2 bD.B14=true:=by kernel_rfl
def bD.T21:Bool × List (List Nat × List Nat):=(true,[([],[]),([0],[0]),([],[]),([2],[2]),([],[]),([1,3,4],[1,3,4]),([5,3],[5]),([6],[6]),([6],[6]),([7,6,0,1,2,3,4,5,6,7,8],[7]),([8,9,0,1,2,3,4,5,6,7,8,9],[8])])
def bD.B21:List Nat := [0,1,0,4,0,31,63,127,127,511,1023]
theorem bD.alV:rX .any (opsOf Tryz.f16 21)=bD.T21:=by kernel_rfl
theorem bD.afF:jf bD.T21.2 bD.B21=true:=by kernel_rfl
theorem bD.calls (k:Nat)(a0:Int)(a1:Int)(r1:Bool)(r2:Bool)(r3:ByteArray)(r4:Int)(r5:Option Int)(w:World)(h:bD.f k a0 a1=some (r1,r2,r3,r4,r5))(htab:Fx.Laid w:=by exact Fx.Laid.below HTAB.out (by repeat (first|(with_reducible first|exact HB.out|apply bn|apply aJ|apply aW|refine bF ?_ (ae.out (by assumption)))|exact HB.out))) :
    Calls Tryz.prog 16 #[.int .i64 a0,.int .u64 a1] w fun e w'=>e=.returned (.tuple #[.agg #[.bool r1,.bool r2,.string r3,.int .i64 r4],qL r5])∧Below w.heap.size w w':=by
 have HTAB:=am htab;clear htab;have Rf:=Tryz.underlying23;have anO:=Tryz.underlying77;have zq:=Tryz.underlying27;have hu64:=Tryz.underlying64;have HB:=am (Below.refl w.heap.size w);have H:=am h;unfold bD.f at H;clear h;replace H:=zo H;obtain⟨⟨Il,D8,BJ,EC,aAz⟩,A3,H⟩:=H
 try dsimp only at H
 rcases aAz with _|aHD;replace H:=zb1 H
 try simp only[aj,ah]
 replace H:=zsk H;rcases H with⟨jV,rZ,H⟩|⟨jV,rZ,c4,H⟩
 ·obtain⟨rfl,rfl,rfl,rfl,rfl⟩:=zJ5 H
  go_enter Tryz.func16,Tryz.ntmps16
  go_wp2_with (first|((with_reducible refine aA (N:=4) rfl ?_);refine zx 4 23 #[.bool false,.bool false,.string (⟨#[]⟩:ByteArray),.int .i64 0] ?_;intro iT hg w5 hbox hb;have dD:=am (hbox);have ady:=zG hg HB;have adz:=zG hg HB;replace HB:=zBs HB hb;clear hb hbox hg)|((with_reducible refine af (f:=42) rfl ?_);refine zc (some 15) Tryz.func42 _ (dI.calls _ _ _ _ _ _ _ _ _ A3.out) ?_;rintro e w6 ⟨rfl,hb⟩;refine⟨_,rfl,?_⟩;replace dD:=zKb dD hb;replace HB:=zBs HB hb;clear hb;(try simp only[aj,ah]))|((with_reducible refine aA (N:=6) rfl ?_);refine zx 6 77 #[.int .i64 0,.bool false,.int .i64 0,.int .u64 0] ?_;intro iH hg w7 hbox hb;have dE:=am (hbox);have adA:=zG hg HB;have adB:=zG hg HB;replace HB:=zBs HB hb;have kR:=zNl hg dD;have kS:=zNg hg dD;replace dD:=zKb dD hb;clear hb hbox hg;have aAA:=kS.out;have aAB:=kR.out;obtain⟨_,_,_,_,_,_,_,_⟩:=zf4 dE;obtain⟨_,_,_,_,_,_,_,_⟩:=zf4 dD))
  refine bodyPost_ret (dh rfl _ _ iT 23 #[.bool true,.bool false,.string (⟨#[]⟩:ByteArray),.int .i64 0] (0,0) _ rfl (zKp dD) Tryz.underlying23 rfl (by kernel_rfl)) rfl ?_;exact⟨z2,zB HB⟩
 replace H:=zsk H;rcases H with⟨qJ,zM,H⟩|⟨qJ,zM,c11,H⟩
 ·obtain⟨rfl,rfl,rfl,rfl,rfl⟩:=zJ5 H
  go_enter Tryz.func16,Tryz.ntmps16
  go_wp2_with (first|((with_reducible refine aA (N:=4) rfl ?_);refine zx 4 23 #[.bool false,.bool false,.string (⟨#[]⟩:ByteArray),.int .i64 0] ?_;intro iT hg w12 hbox hb;have dD:=am (hbox);have ady:=zG hg HB;have adz:=zG hg HB;replace HB:=zBs HB hb;clear hb hbox hg)|((with_reducible refine af (f:=42) rfl ?_);refine zc (some 15) Tryz.func42 _ (dI.calls _ _ _ _ _ _ _ _ _ A3.out) ?_;rintro e w13 ⟨rfl,hb⟩;refine⟨_,rfl,?_⟩;replace dD:=zKb dD hb;replace HB:=zBs HB hb;clear hb;(try simp only[aj,ah]))|((with_reducible refine aA (N:=6) rfl ?_);refine zx 6 77 #[.int .i64 0,.bool false,.int .i64 0,.int .u64 0] ?_;intro iH hg w14 hbox hb;have dE:=am (hbox);have adA:=zG hg HB;have adB:=zG hg HB;replace HB:=zBs HB hb;have kR:=zNl hg dD;have kS:=zNg hg dD;replace dD:=zKb dD hb;clear hb hbox hg;have agT:=kS.out;have agU:=kR.out;obtain⟨_,_,_,_,_,_,_,_⟩:=zf4 dE;obtain⟨_,_,_,_,_,_,_,_⟩:=zf4 dD))
  refine bodyPost_ret (dh rfl _ _ iT 23 #[.bool false,.bool false,.string (⟨#[48]⟩:ByteArray),.int .i64 0] (0,0) _ rfl (zKp dD) Tryz.underlying23 rfl (by kernel_rfl)) rfl ?_;exact⟨z2,zB HB⟩
 replace H:=zo H;obtain⟨IU,A18,H⟩:=H;replace H:=zit H;obtain⟨apy,apz,H⟩:=H;generalize zT:(shr .u64 EC IU:Int)=Ro at H
 (try rw[zT]at A3)
 (try rw[zT]at A18)
 have avC:(EC / 2 ^ min IU.toNat 64)=Ro:=zT;have avD:IU≤64→(EC / 2 ^ IU.toNat)=Ro:=kH zT;replace H:=zo H;obtain⟨Ik,A21,H⟩:=H;replace H:=yD H;rcases H with⟨YY,H⟩|⟨YY,H⟩;replace H:=zo H;obtain⟨⟨avE,aAC⟩,A23,H⟩:=H
 try dsimp only at H
 rcases aAC with _|aHE;replace H:=zb1 H
 try simp only[aj,ah]
 replace H:=zo H;obtain⟨aio,A24,H⟩:=H;replace H:=zo H;obtain⟨⟨avF,avG,avH,avI,aAD⟩,A25,H⟩:=H
 try dsimp only at H
 obtain⟨rfl,rfl,rfl,rfl,rfl⟩:=zJ5 H;rotate_left;replace H:=zb0 H
 try simp only[Option.getD_some]at H
 try simp only[aj,ah]
 obtain⟨rfl,rfl,rfl,rfl,rfl⟩:=zJ5 H;rotate_left;replace H:=zo H;obtain⟨⟨Y8,aAE⟩,A55,H⟩:=H
 try dsimp only at H
 rcases aAE with _|aHF;replace H:=zb1 H
 try simp only[aj,ah]
 generalize aiq:(([Ik,Y8]:List (List Int)):List (List Int))=avJ at H;have Y9:=zY aiq;clear aiq;replace H:=zo H;obtain⟨ak9,A56,H⟩:=H;replace H:=zo H;obtain⟨⟨avK,aHG,aAF⟩,A57,H⟩:=H
 try dsimp only at H
 rcases aAF with _|aHH;replace H:=zb1 H
 try simp only[aj,ah]
 replace H:=zo H;obtain⟨aip,A58,H⟩:=H;replace H:=zo H;obtain⟨⟨avL,avM,avN,avO,aAG⟩,A59,H⟩:=H
 try dsimp only at H
 obtain⟨rfl,rfl,rfl,rfl,rfl⟩:=zJ5 H;rotate_left;replace H:=zb0 H
 try simp only[Option.getD_some]at H
 try simp only[aj,ah]
 obtain⟨rfl,rfl,rfl,rfl,rfl⟩:=zJ5 H;rotate_left;replace H:=zb0 H
 try simp only[Option.getD_some]at H
 try simp only[aj,ah]
 obtain⟨rfl,rfl,rfl,rfl,rfl⟩:=zJ5 H;rotate_left
 ·replace H:=zb0 H
  try simp only[Option.getD_some]at H
  try simp only[aj,ah]
  obtain⟨rfl,rfl,rfl,rfl,rfl⟩:=zJ5 H
  go_enter Tryz.func16,Tryz.ntmps16
  go_wp2_with (first|((with_reducible refine aA (N:=4) rfl ?_);refine zx 4 23 #[.bool false,.bool false,.string (⟨#[]⟩:ByteArray),.int .i64 0] ?_;intro iT hg aHI hbox hb;have dD:=am (hbox);have ady:=zG hg HB;have adz:=zG hg HB;replace HB:=zBs HB hb;clear hb hbox hg)|((with_reducible refine af (f:=42) rfl ?_);refine zc (some 15) Tryz.func42 _ (dI.calls _ _ _ _ _ _ _ _ _ A3.out) ?_;rintro e aHJ ⟨rfl,hb⟩;refine⟨_,rfl,?_⟩;replace dD:=zKb dD hb;replace HB:=zBs HB hb;clear hb;(try simp only[aj,ah]))|((with_reducible refine aA (N:=6) rfl ?_);refine zx 6 77 #[.int .i64 0,.bool false,.int .i64 0,.int .u64 0] ?_;intro iH hg aHK hbox hb;have dE:=am (hbox);have adA:=zG hg HB;have adB:=zG hg HB;replace HB:=zBs HB hb;have kR:=zNl hg dD;have kS:=zNg hg dD;replace dD:=zKb dD hb;clear hb hbox hg;have avP:=kS.out;have avQ:=kR.out;obtain⟨_,_,_,_,_,_,_,_⟩:=zf4 dE;obtain⟨_,_,_,_,_,_,_,_⟩:=zf4 dD))
  refine bodyPost_ret (dh rfl _ _ iT 23 #[.bool false,.bool false,.string (⟨#[]⟩:ByteArray),.int .i64 0] (0,0) _ rfl (zKp dD) Tryz.underlying23 rfl (by kernel_rfl)) rfl ?_;exact⟨z2,zB HB⟩
 all_goals (go_enter Tryz.func16,Tryz.ntmps16;try go_wp2_with (first|((with_reducible refine aA (N:=4) rfl ?_);refine zx 4 23 #[.bool false,.bool false,.string (⟨#[]⟩:ByteArray),.int .i64 0] ?_;intro iT hg w26 hbox hb;have dD:=am (hbox);have ady:=zG hg HB;have adz:=zG hg HB;replace HB:=zBs HB hb;clear hb hbox hg)|((with_reducible refine af (f:=42) rfl ?_);refine zc (some 15) Tryz.func42 _ (dI.calls _ _ _ _ _ _ _ _ _ A3.out) ?_;rintro e w27 ⟨rfl,hb⟩;refine⟨_,rfl,?_⟩;replace dD:=zKb dD hb;replace HB:=zBs HB hb;clear hb;(try simp only[aj,ah]))|((with_reducible refine aA (N:=6) rfl ?_);refine zx 6 77 #[.int .i64 0,.bool false,.int .i64 0,.int .u64 0] ?_;intro iH hg w28 hbox hb;have dE:=am (hbox);have adA:=zG hg HB;have adB:=zG hg HB;replace HB:=zBs HB hb;have kR:=zNl hg dD;have kS:=zNg hg dD;replace dD:=zKb dD hb;clear hb hbox hg;have apA:=kS.out;have apB:=kR.out;obtain⟨_,_,_,_,_,_,_,_⟩:=zf4 dE)|((with_reducible refine af (f:=47) rfl ?_);refine zc (some 35) Tryz.func47 _ (bits_TrailingZeros64.calls _ _ _ A18.out) ?_;rintro e w31 ⟨rfl,hb⟩;refine⟨_,rfl,?_⟩;replace dD:=zKb dD hb;replace dE:=am (eG (zKp dE) hb);replace HB:=zBs HB hb;clear hb)))
 all_goals
  replace dD:=am (dY dD.out);replace dE:=am (dY dE.out);replace HB:=am (aW HB.out);refine mM (n:=12) (S:=fun w'=>w'.cell? ⟨iH,0,none⟩=some (.int .i64 Il)∧w'.cell? ⟨iH,1,none⟩=some (.bool D8)∧w'.cell? ⟨iH,2,none⟩=some (.int .i64 BJ)∧w'.cell? ⟨iH,3,none⟩=some (.int .u64 EC)) (ds := []) (Array.replicate 12 false) (by kernel_rfl) rfl rfl ⟨(ag dE.out 0).trans rfl,(ag dE.out 1).trans rfl,(ag dE.out 2).trans rfl,(ag dE.out 3).trans rfl⟩ (fun hHeld=>?_);refine gQ bD.agr bD.TV (fun HT_ HW_=>?_)
 ·generalize w31.drew=w32 at dD dE HB hHeld ⊢
  refine zp HT_ 0 (some 36) ?_;refine zp HT_ 2 (some 38) ?_;refine zp HT_ 5 (some 41) ?_;refine zp HT_ 8 (some 44) ?_;refine zt HT_ HW_ 1 (some 37) hHeld ?_;refine zp HT_ 3 (some 39) ?_;refine zt HT_ HW_ 6 (some 42) hHeld ?_;refine zp HT_ 7 (some 43) ?_;refine zp HT_ 9 (some 45) ?_;refine zu HT_ 4 (some 40) (fun K hK=>?_);refine oV Tryz.func48 (by kernel_rfl) rfl #[.int .u64 Ro] (by rfl) rfl rfl (by (try simp only[List.map_toArray,List.map_cons,List.map_nil]);first|done|(simp only[zT];rfl)|rfl|(simp only[List.length_drop,List.length_take];rfl)) ?_
  with_reducible refine (qU.calls k Ro Ik _ A21.out).mono ?_
  rintro e w33 ⟨ala,rfl,ho0,hb⟩;refine⟨_,rfl,?_⟩;have jW:=am (Kd.dG (Kd.bG (ok':=fun k_=>k_≠iT∧k_≠iH) ho0 (fun k_ hk_=>⟨(Kd.gJ (g:=iT) (o := .cells #[.bool false,.bool false,.string (⟨#[]⟩:ByteArray),.int .i64 0] 23 (0,0)) (zK dD) k_ hk_),(Kd.gJ (g:=iH) (o := .cells #[.int .i64 Il,.bool D8,.int .i64 BJ,.int .u64 EC] 77 (0,0)) (zK dE) k_ hk_)⟩)) (zS HB));replace dD:=zKb dD hb;replace dE:=zKb dE hb;replace HB:=zBs HB hb
  (try clear hb)
  (try clear hb2)
  (try clear hk)
  (try clear hi)
  (try clear ho0)
  refine hK.out _ _ ⟨(ag dE.out 0).trans rfl,(ag dE.out 1).trans rfl,(ag dE.out 2).trans rfl,(ag dE.out 3).trans rfl⟩ (fun hHeld=>?_);clear hK K;refine mD (a':=?_) ?_ ?_;rotate_left
  ·show Act.put _ (some 40) _=_
   simp only[Act.put,List.setIfInBounds_toArray,List.set_cons_zero,List.set_cons_succ,bW,fV]
   rfl
  refine zp HT_ 10 (some 9) ?_;refine zp HT_ 11 (some 10) ?_;refine oG (iJ HT_.out (by kernel_rfl)) ?_;obtain⟨Rq,ML,Rn⟩:=Kd.dS jW.out;subst Rn
  try go_wp2_with (first|((with_reducible refine af (f:=49) rfl ?_);refine zc (some 51) Tryz.func49 #[.slice Rq Ik.length ML,.int .i64 (wrap64 ((wrap64 (BJ-63))+IU))] (lQ.calls _ (fun k_=>(k_≠iT∧k_≠iH)) _ _ _ _ _ _ _ jW.out A23.out) ?_;rintro e w35 ⟨aAH,rfl,ho0,hb⟩;refine⟨_,rfl,?_⟩;replace jW:=zVb jW hb;have D9:=am (Kd.dG (Kd.bG (ok':=fun k_=>k_≠iT∧k_≠iH) ho0 (fun k_ hk_=>⟨Or.elim hk_ (fun hs_=>hs_.1) (fun hn_=>(Kd.gJ (g:=iT) (o := .cells #[.bool false,.bool false,.string (⟨#[]⟩:ByteArray),.int .i64 0] 23 (0,0)) (zK dD) k_ hn_)),Or.elim hk_ (fun hs_=>hs_.2) (fun hn_=>(Kd.gJ (g:=iH) (o := .cells #[.int .i64 Il,.bool D8,.int .i64 BJ,.int .u64 EC] 77 (0,0)) (zK dE) k_ hn_))⟩)) (zS HB));replace dD:=zKb dD hb;replace dE:=zKb dE hb;replace HB:=zBs HB hb;clear hb ho0;(try simp only[aj,ah])))
  replace jW:=am (Kd.jb jW.out);replace D9:=am (Kd.jb D9.out);replace dD:=am (dY dD.out);replace dE:=am (dY dE.out);replace HB:=am (aW HB.out);obtain⟨air,ais,adC⟩:=Kd.dS D9.out
  (first|subst adC|(injection adC with f1_ f2_ f3_;have f4_:=f1_.symm;have f5_:=f3_.symm;clear f1_ f2_ f3_;subst f4_;subst f5_))
  refine mM (n:=10) (S:=fun w'=>w'.cell? ⟨iH,0,none⟩=some (.int .i64 Il)∧w'.cell? ⟨iH,1,none⟩=some (.bool D8)∧w'.cell? ⟨iH,2,none⟩=some (.int .i64 BJ)∧w'.cell? ⟨iH,3,none⟩=some (.int .u64 EC)) (ds := []) (Array.replicate 10 false) (by kernel_rfl) rfl rfl ⟨(ag dE.out 0).trans rfl,(ag dE.out 1).trans rfl,(ag dE.out 2).trans rfl,(ag dE.out 3).trans rfl⟩ (fun hHeld=>?_);refine gQ bD.aa5 bD.Sl (fun HT_ HW_=>?_);generalize w35.drew=w36 at jW D9 dD dE HB hHeld ⊢;refine zp HT_ 0 (some 58) ?_;refine zp HT_ 2 (some 60) ?_;refine zt HT_ HW_ 1 (some 59) hHeld ?_;refine zu HT_ 3 (some 61) (fun K hK=>?_);refine oV Tryz.func50 (by kernel_rfl) rfl #[.slice air avE.length ais] (by rfl) rfl rfl (by (try simp only[List.map_toArray,List.map_cons,List.map_nil]);first|done|rfl|(simp only[List.length_drop,List.length_take];rfl)) ?_
  with_reducible refine (jo.calls k _ _ avE aio _ ?eu ?kw A24.out).mono ?_
  (case eu=>repeat (first|exact (Kd.aX D9.out).2.2|(with_reducible refine Kd.kJ ?_ _)|(with_reducible refine Kd.kM ?_ _)|(with_reducible refine Kd.ny ?_)))
  (case kw=>exact (Kd.aX D9.out).2.1)
  rintro e w38 ⟨rfl,hb⟩;refine⟨_,rfl,?_⟩;replace jW:=zVb jW hb;replace D9:=zVb D9 hb;replace dD:=zKb dD hb;replace dE:=zKb dE hb;replace HB:=zBs HB hb
  (try clear hb)
  (try clear hb2)
  (try clear hk)
  (try clear hi)
  refine hK.out _ _ ⟨(ag dE.out 0).trans rfl,(ag dE.out 1).trans rfl,(ag dE.out 2).trans rfl,(ag dE.out 3).trans rfl⟩ (fun hHeld=>?_);clear hK K;refine mD (a':=?_) ?_ ?_;rotate_left
  ·show Act.put _ (some 61) _=_
   simp only[Act.put,List.setIfInBounds_toArray,List.set_cons_zero,List.set_cons_succ,bW,fV]
   rfl
  refine zp HT_ 4 (some 62) ?_;refine zu HT_ 5 (some 63) (fun K hK=>?_);refine oV Tryz.func26 (by kernel_rfl) rfl #[.agg #[.bool false,.bool D8,.string aio,.int .i64 0]] (by rfl) rfl rfl (by (try simp only[List.map_toArray,List.map_cons,List.map_nil]);first|done|rfl|(simp only[List.length_drop,List.length_take];rfl)) ?_
  with_reducible refine (lh.calls false D8 aio 0 avF avG avH avI aAD _ A25.out).mono ?_
  rintro e w39 ⟨rfl,hb⟩;refine⟨_,rfl,?_⟩;replace jW:=zVb jW hb;replace D9:=zVb D9 hb;replace dD:=zKb dD hb;replace dE:=zKb dE hb;replace HB:=zBs HB hb
  (try clear hb)
  (try clear hb2)
  (try clear hk)
  (try clear hi)
  (try simp only[aj,ah])
  refine hK.out _ _ ⟨(ag dE.out 0).trans rfl,(ag dE.out 1).trans rfl,(ag dE.out 2).trans rfl,(ag dE.out 3).trans rfl⟩ (fun hHeld=>?_);clear hK K;refine mD (a':=?_) ?_ ?_;rotate_left
  ·show Act.put _ (some 63) _=_
   simp only[Act.put,List.setIfInBounds_toArray,List.set_cons_zero,List.set_cons_succ,bW,fV]
   rfl
  refine zp HT_ 6 (some 64) ?_;refine zp HT_ 7 (some 65) ?_;refine zu HT_ 8 none (fun K hK=>?_);have aHL:=zl dD 0;have aAI:=ak dD.out 0;have apC:=kS.out;have apD:=kR.out;have aAJ:=zl dD 1;have apE:=ak dD.out 1;have apF:=kS.out;have apG:=kR.out;have aAK:=zl dD 2;have apH:=ak dD.out 2;have apI:=kS.out;have apJ:=kR.out;have aAL:=zl dD 3;have apK:=ak dD.out 3;have apL:=kS.out;have apM:=kR.out;refine xy (w1:=?_) (by rfl) rfl ?_ ?_;rotate_left
  ·go_simp
   rfl
  refine hK.out _ _ ⟨(zh hHeld),(zh hHeld),(zh hHeld),(zh hHeld)⟩ (fun hHeld=>?_);clear hK K;refine zp HT_ 9 (some 5) ?_;refine oG (iJ HT_.out (by kernel_rfl)) ?_
  try go_wp2
  refine bodyPost_ret (dh rfl _ _ iT 23 #[.bool avF,.bool avG,.string avH,.int .i64 avI] (0,0) _ rfl (zKp dD) Tryz.underlying23 rfl (by kernel_rfl)) rfl ?_;exact⟨by first|exact z3|(simp only[← zT];exact z3)|exact z2,zB HB⟩
 ·generalize w31.drew=w50 at dD dE HB hHeld ⊢
  refine zp HT_ 0 (some 36) ?_;refine zp HT_ 2 (some 38) ?_;refine zp HT_ 5 (some 41) ?_;refine zp HT_ 8 (some 44) ?_;refine zt HT_ HW_ 1 (some 37) hHeld ?_;refine zp HT_ 3 (some 39) ?_;refine zt HT_ HW_ 6 (some 42) hHeld ?_;refine zp HT_ 7 (some 43) ?_;refine zp HT_ 9 (some 45) ?_;refine zu HT_ 4 (some 40) (fun K hK=>?_);refine oV Tryz.func48 (by kernel_rfl) rfl #[.int .u64 Ro] (by rfl) rfl rfl (by (try simp only[List.map_toArray,List.map_cons,List.map_nil]);first|done|(simp only[zT];rfl)|rfl|(simp only[List.length_drop,List.length_take];rfl)) ?_
  with_reducible refine (qU.calls k Ro Ik _ A21.out).mono ?_
  rintro e w51 ⟨ala,rfl,ho0,hb⟩;refine⟨_,rfl,?_⟩;have jW:=am (Kd.dG (Kd.bG (ok':=fun k_=>k_≠iT∧k_≠iH) ho0 (fun k_ hk_=>⟨(Kd.gJ (g:=iT) (o := .cells #[.bool false,.bool false,.string (⟨#[]⟩:ByteArray),.int .i64 0] 23 (0,0)) (zK dD) k_ hk_),(Kd.gJ (g:=iH) (o := .cells #[.int .i64 Il,.bool D8,.int .i64 BJ,.int .u64 EC] 77 (0,0)) (zK dE) k_ hk_)⟩)) (zS HB));replace dD:=zKb dD hb;replace dE:=zKb dE hb;replace HB:=zBs HB hb
  (try clear hb)
  (try clear hb2)
  (try clear hk)
  (try clear hi)
  (try clear ho0)
  refine hK.out _ _ ⟨(ag dE.out 0).trans rfl,(ag dE.out 1).trans rfl,(ag dE.out 2).trans rfl,(ag dE.out 3).trans rfl⟩ (fun hHeld=>?_);clear hK K;refine mD (a':=?_) ?_ ?_;rotate_left
  ·show Act.put _ (some 40) _=_
   simp only[Act.put,List.setIfInBounds_toArray,List.set_cons_zero,List.set_cons_succ,bW,fV]
   rfl
  refine zp HT_ 10 (some 9) ?_;refine zp HT_ 11 (some 10) ?_;refine oG (iJ HT_.out (by kernel_rfl)) ?_;obtain⟨alb,alc,apN⟩:=Kd.dS jW.out;subst apN
  try go_wp2_with (first|((with_reducible refine af (f:=49) rfl ?_);refine zc (some 51) Tryz.func49 #[.slice alb Ik.length alc,.int .i64 (wrap64 ((wrap64 (BJ-63))+IU))] (lQ.calls _ (fun k_=>(k_≠iT∧k_≠iH)) _ _ _ _ _ _ _ jW.out A23.out) ?_;rintro e w53 ⟨aAH,rfl,ho0,hb⟩;refine⟨_,rfl,?_⟩;replace jW:=zVb jW hb;have D9:=am (Kd.dG (Kd.bG (ok':=fun k_=>k_≠iT∧k_≠iH) ho0 (fun k_ hk_=>⟨Or.elim hk_ (fun hs_=>hs_.1) (fun hn_=>(Kd.gJ (g:=iT) (o := .cells #[.bool false,.bool false,.string (⟨#[]⟩:ByteArray),.int .i64 0] 23 (0,0)) (zK dD) k_ hn_)),Or.elim hk_ (fun hs_=>hs_.2) (fun hn_=>(Kd.gJ (g:=iH) (o := .cells #[.int .i64 Il,.bool D8,.int .i64 BJ,.int .u64 EC] 77 (0,0)) (zK dE) k_ hn_))⟩)) (zS HB));replace dD:=zKb dD hb;replace dE:=zKb dE hb;replace HB:=zBs HB hb;clear hb ho0;(try simp only[aj,ah]);obtain⟨_,_,_,_,_,_,_,_⟩:=zf4 dD))
  refine bodyPost_ret (dh rfl _ _ iT 23 #[.bool false,.bool false,.string (⟨#[]⟩:ByteArray),.int .i64 0] (0,0) _ rfl (zKp dD) Tryz.underlying23 rfl (by kernel_rfl)) rfl ?_;exact⟨by first|exact z3|(simp only[← zT];exact z3)|exact z2,zB HB⟩
 ·generalize w31.drew=w66 at dD dE HB hHeld ⊢
  refine zp HT_ 0 (some 36) ?_;refine zp HT_ 2 (some 38) ?_;refine zp HT_ 5 (some 41) ?_;refine zp HT_ 8 (some 44) ?_;refine zt HT_ HW_ 1 (some 37) hHeld ?_;refine zp HT_ 3 (some 39) ?_;refine zt HT_ HW_ 6 (some 42) hHeld ?_;refine zp HT_ 7 (some 43) ?_;refine zp HT_ 9 (some 45) ?_;refine zu HT_ 4 (some 40) (fun K hK=>?_);refine oV Tryz.func48 (by kernel_rfl) rfl #[.int .u64 Ro] (by rfl) rfl rfl (by (try simp only[List.map_toArray,List.map_cons,List.map_nil]);first|done|(simp only[zT];rfl)|rfl|(simp only[List.length_drop,List.length_take];rfl)) ?_
  with_reducible refine (qU.calls k Ro Ik _ A21.out).mono ?_
  rintro e w67 ⟨ala,rfl,ho0,hb⟩;refine⟨_,rfl,?_⟩;have jW:=am (Kd.dG (Kd.bG (ok':=fun k_=>k_≠iT∧k_≠iH) ho0 (fun k_ hk_=>⟨(Kd.gJ (g:=iT) (o := .cells #[.bool false,.bool false,.string (⟨#[]⟩:ByteArray),.int .i64 0] 23 (0,0)) (zK dD) k_ hk_),(Kd.gJ (g:=iH) (o := .cells #[.int .i64 Il,.bool D8,.int .i64 BJ,.int .u64 EC] 77 (0,0)) (zK dE) k_ hk_)⟩)) (zS HB));replace dD:=zKb dD hb;replace dE:=zKb dE hb;replace HB:=zBs HB hb
  (try clear hb)
  (try clear hb2)
  (try clear hk)
  (try clear hi)
  (try clear ho0)
  refine hK.out _ _ ⟨(ag dE.out 0).trans rfl,(ag dE.out 1).trans rfl,(ag dE.out 2).trans rfl,(ag dE.out 3).trans rfl⟩ (fun hHeld=>?_);clear hK K;refine mD (a':=?_) ?_ ?_;rotate_left
  ·show Act.put _ (some 40) _=_
   simp only[Act.put,List.setIfInBounds_toArray,List.set_cons_zero,List.set_cons_succ,bW,fV]
   rfl
  refine zp HT_ 10 (some 9) ?_;refine zp HT_ 11 (some 10) ?_;refine oG (iJ HT_.out (by kernel_rfl)) ?_
  try go_wp2_with (first|((with_reducible refine af (f:=51) rfl ?_);refine zc (some 69) Tryz.func51 _ (iw.calls _ _ _ _ _ A55.out) ?_;rintro e w68 ⟨avR,rfl,ho0,hb⟩;refine⟨_,rfl,?_⟩;replace jW:=zVb jW hb;have qo:=am (Kd.dG (Kd.bG (ok':=fun k_=>k_≠iT∧k_≠iH) ho0 (fun k_ hk_=>⟨(Kd.gJ (g:=iT) (o := .cells #[.bool false,.bool false,.string (⟨#[]⟩:ByteArray),.int .i64 0] 23 (0,0)) (zK dD) k_ hk_),(Kd.gJ (g:=iH) (o := .cells #[.int .i64 Il,.bool D8,.int .i64 BJ,.int .u64 EC] 77 (0,0)) (zK dE) k_ hk_)⟩)) (zS HB));replace dD:=zKb dD hb;replace dE:=zKb dE hb;replace HB:=zBs HB hb;clear hb ho0;(try simp only[aj,ah]);obtain⟨apO,apP,apQ⟩:=Kd.dS jW.out;subst apQ;obtain⟨Rt,Ru,ait⟩:=Kd.dS qo.out;subst ait)|((with_reducible refine aA (N:=79) rfl ?_);refine Kd.af5 (Kd.slice 25 (Kd.int .u64)) _ 88 ?hg (N':=79) ?hd (xs:=([Ik,Y8]:List (List Int))) (inner := [.slice apO Ik.length apP,.slice Rt Y8.length Ru]) (ok:=(fun k_=>k_≠iT∧k_≠iH)) (okp:=(fun k_=>k_≠iT∧k_≠iH)) ?hr ?hp (fun _ hk=>hk) ((show ∀ k_,w68.heap.size≤k_→(fun k_=>k_≠iT∧k_≠iH) k_ from fun k_ hk=>⟨Kd.gJ (g:=iT) (o := .cells #[.bool false,.bool false,.string (⟨#[]⟩:ByteArray),.int .i64 0] 23 (0,0)) (zK dD) k_ hk,Kd.gJ (g:=iH) (o := .cells #[.int .i64 Il,.bool D8,.int .i64 BJ,.int .u64 EC] 77 (0,0)) (zK dE) k_ hk⟩) _ (Nat.le_refl _)) (Below.refl _ _) (Nat.le_refl _) (by simp) ?_;(case hd=>rfl);(case hg=>rfl);(case hr=>first|(go_simp;done)|(go_simp;rfl));(case hp=>exact (jM.one (show Kd.FK (Kd.slice 25 (Kd.int .u64)) _ _ Ik [.slice apO Ik.length apP] from (Kd.qi (Kd.aX (Kd.bG (ok':=(fun k_=>k_≠iT∧k_≠iH)) (jW.out) (fun k_ hk=>⟨hk.1,hk.2⟩))).2.1 (Kd.V_F (Kd.bG (ok':=(fun k_=>k_≠iT∧k_≠iH)) (jW.out) (fun k_ hk=>⟨hk.1,hk.2⟩))))) (jM.one (show Kd.FK (Kd.slice 25 (Kd.int .u64)) _ _ Y8 [.slice Rt Y8.length Ru] from (Kd.qi (Kd.aX (Kd.bG (ok':=(fun k_=>k_≠iT∧k_≠iH)) (qo.out) (fun k_ hk=>⟨hk.1,hk.2⟩))).2.1 (Kd.V_F (Kd.bG (ok':=(fun k_=>k_≠iT∧k_≠iH)) (qo.out) (fun k_ hk=>⟨hk.1,hk.2⟩))))) (jM.none _ _))));intro aAM w71 adD hb hg_ jO;clear hg_ jO;(first|rw[← Y9.out]at adD|(simp only[Int.reduceToNat]at adD;rw[← Y9.out]at adD));replace jW:=am (Kd.jl (zV jW) (Kd.Fg adD) hb);replace qo:=am (Kd.jl (zV qo) (Kd.Fg adD) hb);have uB:=am (Kd.LK adD (zS HB));replace dD:=zKb dD hb;replace dE:=zKb dE hb;replace HB:=zBs HB hb;clear hb adD;obtain⟨aAN,aAO,aAP⟩:=Kd.GI uB.out;subst aAP)|((with_reducible refine af (f:=53) rfl ?_);refine zc (some 80) Tryz.func53 #[.slice aAN avJ.length aAO] (lM.calls _ (fun k_=>(k_≠iT∧k_≠iH)) _ _ _ _ _ (Kd.N_V (uB.out)) A56.out) ?_;rintro e w74 ⟨aAQ,rfl,ho0,hb⟩;refine⟨_,rfl,?_⟩;replace jW:=zVb jW hb;replace qo:=zVb qo hb;replace uB:=am (Kd.rM (by (with_reducible repeat (first|apply Kd.vK|apply Kd.vV|apply Kd.yO));exact uB.out) hb);have xE:=am (Kd.dG (Kd.bG (ok':=fun k_=>k_≠iT∧k_≠iH) ho0 (fun k_ hk_=>⟨Or.elim hk_ (fun hs_=>hs_.1) (fun hn_=>(Kd.gJ (g:=iT) (o := .cells #[.bool false,.bool false,.string (⟨#[]⟩:ByteArray),.int .i64 0] 23 (0,0)) (zK dD) k_ hn_)),Or.elim hk_ (fun hs_=>hs_.2) (fun hn_=>(Kd.gJ (g:=iH) (o := .cells #[.int .i64 Il,.bool D8,.int .i64 BJ,.int .u64 EC] 77 (0,0)) (zK dE) k_ hn_))⟩)) (zS HB));replace dD:=zKb dD hb;replace dE:=zKb dE hb;replace HB:=zBs HB hb;clear hb ho0;obtain⟨aAR,aAS,aAT⟩:=Kd.dS xE.out;subst aAT)|((with_reducible refine af (f:=52) rfl ?_);refine zc (some 83) Tryz.func52 #[.slice aAR ak9.length aAS,.int .i64 (wrap64 (-(wrap64 ((wrap64 (BJ-63))+IU))))] (eQ.calls _ (fun k_=>(k_≠iT∧k_≠iH)) _ _ _ _ _ _ _ _ xE.out A57.out) ?_;rintro e w76 ⟨aAU,rfl,ho0,hb⟩;refine⟨_,rfl,?_⟩;replace jW:=zVb jW hb;replace qo:=zVb qo hb;replace uB:=am (Kd.rM (by (with_reducible repeat (first|apply Kd.vK|apply Kd.vV|apply Kd.yO));exact uB.out) hb);replace xE:=zVb xE hb;have Ea:=am (Kd.dG (Kd.bG (ok':=fun k_=>k_≠iT∧k_≠iH) ho0 (fun k_ hk_=>⟨Or.elim hk_ (fun hs_=>hs_.1) (fun hn_=>(Kd.gJ (g:=iT) (o := .cells #[.bool false,.bool false,.string (⟨#[]⟩:ByteArray),.int .i64 0] 23 (0,0)) (zK dD) k_ hn_)),Or.elim hk_ (fun hs_=>hs_.2) (fun hn_=>(Kd.gJ (g:=iH) (o := .cells #[.int .i64 Il,.bool D8,.int .i64 BJ,.int .u64 EC] 77 (0,0)) (zK dE) k_ hn_))⟩)) (zS HB));replace dD:=zKb dD hb;replace dE:=zKb dE hb;replace HB:=zBs HB hb;clear hb ho0;(try simp only[aj,ah])))
  replace jW:=am (Kd.jb jW.out);replace qo:=am (Kd.jb qo.out);replace uB:=am (Kd.yO uB.out);replace xE:=am (Kd.jb xE.out);replace Ea:=am (Kd.jb Ea.out);replace dD:=am (dY dD.out);replace dE:=am (dY dE.out);replace HB:=am (aW HB.out);obtain⟨afe,aff,ald⟩:=Kd.dS Ea.out
  (first|subst ald|(injection ald with f1_ f2_ f3_;have f4_:=f1_.symm;have f5_:=f3_.symm;clear f1_ f2_ f3_;subst f4_;subst f5_))
  refine mM (n:=11) (S:=fun w'=>w'.cell? ⟨iH,0,none⟩=some (.int .i64 Il)∧w'.cell? ⟨iH,1,none⟩=some (.bool D8)∧w'.cell? ⟨iH,2,none⟩=some (.int .i64 BJ)∧w'.cell? ⟨iH,3,none⟩=some (.int .u64 EC)) (ds := []) (Array.replicate 11 false) (by kernel_rfl) rfl rfl ⟨(ag dE.out 0).trans rfl,(ag dE.out 1).trans rfl,(ag dE.out 2).trans rfl,(ag dE.out 3).trans rfl⟩ (fun hHeld=>?_);refine gQ bD.alV bD.afF (fun HT_ HW_=>?_);generalize w76.drew=w77 at jW qo uB xE Ea dD dE HB hHeld ⊢;refine zp HT_ 0 (some 91) ?_;refine zp HT_ 2 (some 93) ?_;refine zp HT_ 4 (some 95) ?_;refine zt HT_ HW_ 1 (some 92) hHeld ?_;refine zu HT_ 3 (some 94) (fun K hK=>?_);refine oV Tryz.func50 (by kernel_rfl) rfl #[.slice afe avK.length aff] (by rfl) rfl rfl (by (try simp only[List.map_toArray,List.map_cons,List.map_nil]);first|done|rfl|(simp only[List.length_drop,List.length_take];rfl)) ?_
  with_reducible refine (jo.calls k _ _ avK aip _ ?eu ?kw A58.out).mono ?_
  (case eu=>repeat (first|exact (Kd.aX Ea.out).2.2|(with_reducible refine Kd.kJ ?_ _)|(with_reducible refine Kd.kM ?_ _)|(with_reducible refine Kd.ny ?_)))
  (case kw=>exact (Kd.aX Ea.out).2.1)
  rintro e w79 ⟨rfl,hb⟩;refine⟨_,rfl,?_⟩;replace jW:=zVb jW hb;replace qo:=zVb qo hb;replace uB:=am (Kd.rM (by (with_reducible repeat (first|apply Kd.vK|apply Kd.vV|apply Kd.yO));exact uB.out) hb);replace xE:=zVb xE hb;replace Ea:=zVb Ea hb;replace dD:=zKb dD hb;replace dE:=zKb dE hb;replace HB:=zBs HB hb
  (try clear hb)
  (try clear hb2)
  (try clear hk)
  (try clear hi)
  refine hK.out _ _ ⟨(ag dE.out 0).trans rfl,(ag dE.out 1).trans rfl,(ag dE.out 2).trans rfl,(ag dE.out 3).trans rfl⟩ (fun hHeld=>?_);clear hK K;refine mD (a':=?_) ?_ ?_;rotate_left
  ·show Act.put _ (some 94) _=_
   simp only[Act.put,List.setIfInBounds_toArray,List.set_cons_zero,List.set_cons_succ,bW,fV]
   rfl
  refine zp HT_ 5 (some 96) ?_;refine zu HT_ 6 (some 97) (fun K hK=>?_);refine oV Tryz.func26 (by kernel_rfl) rfl #[.agg #[.bool false,.bool D8,.string aip,.int .i64 (wrap64 ((wrap64 (BJ-63))+IU))]] (by rfl) rfl rfl (by (try simp only[List.map_toArray,List.map_cons,List.map_nil]);first|done|rfl|(simp only[List.length_drop,List.length_take];rfl)) ?_
  with_reducible refine (lh.calls false D8 aip (wrap64 ((wrap64 (BJ-63))+IU)) avL avM avN avO aAG _ A59.out).mono ?_
  rintro e w80 ⟨rfl,hb⟩;refine⟨_,rfl,?_⟩;replace jW:=zVb jW hb;replace qo:=zVb qo hb;replace uB:=am (Kd.rM (by (with_reducible repeat (first|apply Kd.vK|apply Kd.vV|apply Kd.yO));exact uB.out) hb);replace xE:=zVb xE hb;replace Ea:=zVb Ea hb;replace dD:=zKb dD hb;replace dE:=zKb dE hb;replace HB:=zBs HB hb
  (try clear hb)
  (try clear hb2)
  (try clear hk)
  (try clear hi)
  (try simp only[aj,ah])
  refine hK.out _ _ ⟨(ag dE.out 0).trans rfl,(ag dE.out 1).trans rfl,(ag dE.out 2).trans rfl,(ag dE.out 3).trans rfl⟩ (fun hHeld=>?_);clear hK K;refine mD (a':=?_) ?_ ?_;rotate_left
  ·show Act.put _ (some 97) _=_
   simp only[Act.put,List.setIfInBounds_toArray,List.set_cons_zero,List.set_cons_succ,bW,fV]
   rfl
  refine zp HT_ 7 (some 98) ?_;refine zp HT_ 8 (some 99) ?_;refine zu HT_ 9 none (fun K hK=>?_);have aHM:=zl dD 0;have aAV:=ak dD.out 0;have apR:=kS.out;have apS:=kR.out;have aHN:=zl dD 1;have aAW:=ak dD.out 1;have apT:=kS.out;have apU:=kR.out;have aHO:=zl dD 2;have aAX:=ak dD.out 2;have apV:=kS.out;have apW:=kR.out;have aHP:=zl dD 3;have aAY:=ak dD.out 3;have apX:=kS.out;have apY:=kR.out;refine xy (w1:=?_) (by rfl) rfl ?_ ?_;rotate_left
  ·go_simp
   rfl
  refine hK.out _ _ ⟨(zh hHeld),(zh hHeld),(zh hHeld),(zh hHeld)⟩ (fun hHeld=>?_);clear hK K;refine zp HT_ 10 (some 5) ?_;refine oG (iJ HT_.out (by kernel_rfl)) ?_
  try go_wp2
  refine bodyPost_ret (dh rfl _ _ iT 23 #[.bool avL,.bool avM,.string avN,.int .i64 avO] (0,0) _ rfl (zKp dD) Tryz.underlying23 rfl (by kernel_rfl)) rfl ?_;exact⟨by first|exact z3|(simp only[← zT];exact z3)|exact z2,zB HB⟩
 ·generalize w31.drew=w91 at dD dE HB hHeld ⊢
  refine zp HT_ 0 (some 36) ?_;refine zp HT_ 2 (some 38) ?_;refine zp HT_ 5 (some 41) ?_;refine zp HT_ 8 (some 44) ?_;refine zt HT_ HW_ 1 (some 37) hHeld ?_;refine zp HT_ 3 (some 39) ?_;refine zt HT_ HW_ 6 (some 42) hHeld ?_;refine zp HT_ 7 (some 43) ?_;refine zp HT_ 9 (some 45) ?_;refine zu HT_ 4 (some 40) (fun K hK=>?_);refine oV Tryz.func48 (by kernel_rfl) rfl #[.int .u64 Ro] (by rfl) rfl rfl (by (try simp only[List.map_toArray,List.map_cons,List.map_nil]);first|done|(simp only[zT];rfl)|rfl|(simp only[List.length_drop,List.length_take];rfl)) ?_
  with_reducible refine (qU.calls k Ro Ik _ A21.out).mono ?_
  rintro e w92 ⟨ala,rfl,ho0,hb⟩;refine⟨_,rfl,?_⟩;have jW:=am (Kd.dG (Kd.bG (ok':=fun k_=>k_≠iT∧k_≠iH) ho0 (fun k_ hk_=>⟨(Kd.gJ (g:=iT) (o := .cells #[.bool false,.bool false,.string (⟨#[]⟩:ByteArray),.int .i64 0] 23 (0,0)) (zK dD) k_ hk_),(Kd.gJ (g:=iH) (o := .cells #[.int .i64 Il,.bool D8,.int .i64 BJ,.int .u64 EC] 77 (0,0)) (zK dE) k_ hk_)⟩)) (zS HB));replace dD:=zKb dD hb;replace dE:=zKb dE hb;replace HB:=zBs HB hb
  (try clear hb)
  (try clear hb2)
  (try clear hk)
  (try clear hi)
  (try clear ho0)
  refine hK.out _ _ ⟨(ag dE.out 0).trans rfl,(ag dE.out 1).trans rfl,(ag dE.out 2).trans rfl,(ag dE.out 3).trans rfl⟩ (fun hHeld=>?_);clear hK K;refine mD (a':=?_) ?_ ?_;rotate_left
  ·show Act.put _ (some 40) _=_
   simp only[Act.put,List.setIfInBounds_toArray,List.set_cons_zero,List.set_cons_succ,bW,fV]
   rfl
  refine zp HT_ 10 (some 9) ?_;refine zp HT_ 11 (some 10) ?_;refine oG (iJ HT_.out (by kernel_rfl)) ?_
  try go_wp2_with (first|((with_reducible refine af (f:=51) rfl ?_);refine zc (some 69) Tryz.func51 _ (iw.calls _ _ _ _ _ A55.out) ?_;rintro e w93 ⟨avR,rfl,ho0,hb⟩;refine⟨_,rfl,?_⟩;replace jW:=zVb jW hb;have qo:=am (Kd.dG (Kd.bG (ok':=fun k_=>k_≠iT∧k_≠iH) ho0 (fun k_ hk_=>⟨(Kd.gJ (g:=iT) (o := .cells #[.bool false,.bool false,.string (⟨#[]⟩:ByteArray),.int .i64 0] 23 (0,0)) (zK dD) k_ hk_),(Kd.gJ (g:=iH) (o := .cells #[.int .i64 Il,.bool D8,.int .i64 BJ,.int .u64 EC] 77 (0,0)) (zK dE) k_ hk_)⟩)) (zS HB));replace dD:=zKb dD hb;replace dE:=zKb dE hb;replace HB:=zBs HB hb;clear hb ho0;(try simp only[aj,ah]);obtain⟨avS,avT,aAZ⟩:=Kd.dS jW.out;subst aAZ;obtain⟨avU,avV,aA0⟩:=Kd.dS qo.out;subst aA0)|((with_reducible refine aA (N:=79) rfl ?_);refine Kd.af5 (Kd.slice 25 (Kd.int .u64)) _ 88 ?hg (N':=79) ?hd (xs:=([Ik,Y8]:List (List Int))) (inner := [.slice avS Ik.length avT,.slice avU Y8.length avV]) (ok:=(fun k_=>k_≠iT∧k_≠iH)) (okp:=(fun k_=>k_≠iT∧k_≠iH)) ?hr ?hp (fun _ hk=>hk) ((show ∀ k_,w93.heap.size≤k_→(fun k_=>k_≠iT∧k_≠iH) k_ from fun k_ hk=>⟨Kd.gJ (g:=iT) (o := .cells #[.bool false,.bool false,.string (⟨#[]⟩:ByteArray),.int .i64 0] 23 (0,0)) (zK dD) k_ hk,Kd.gJ (g:=iH) (o := .cells #[.int .i64 Il,.bool D8,.int .i64 BJ,.int .u64 EC] 77 (0,0)) (zK dE) k_ hk⟩) _ (Nat.le_refl _)) (Below.refl _ _) (Nat.le_refl _) (by simp) ?_;(case hd=>rfl);(case hg=>rfl);(case hr=>first|(go_simp;done)|(go_simp;rfl));(case hp=>exact (jM.one (show Kd.FK (Kd.slice 25 (Kd.int .u64)) _ _ Ik [.slice avS Ik.length avT] from (Kd.qi (Kd.aX (Kd.bG (ok':=(fun k_=>k_≠iT∧k_≠iH)) (jW.out) (fun k_ hk=>⟨hk.1,hk.2⟩))).2.1 (Kd.V_F (Kd.bG (ok':=(fun k_=>k_≠iT∧k_≠iH)) (jW.out) (fun k_ hk=>⟨hk.1,hk.2⟩))))) (jM.one (show Kd.FK (Kd.slice 25 (Kd.int .u64)) _ _ Y8 [.slice avU Y8.length avV] from (Kd.qi (Kd.aX (Kd.bG (ok':=(fun k_=>k_≠iT∧k_≠iH)) (qo.out) (fun k_ hk=>⟨hk.1,hk.2⟩))).2.1 (Kd.V_F (Kd.bG (ok':=(fun k_=>k_≠iT∧k_≠iH)) (qo.out) (fun k_ hk=>⟨hk.1,hk.2⟩))))) (jM.none _ _))));intro aAM w96 adE hb hg_ jO;clear hg_ jO;(first|rw[← Y9.out]at adE|(simp only[Int.reduceToNat]at adE;rw[← Y9.out]at adE));replace jW:=am (Kd.jl (zV jW) (Kd.Fg adE) hb);replace qo:=am (Kd.jl (zV qo) (Kd.Fg adE) hb);have uB:=am (Kd.LK adE (zS HB));replace dD:=zKb dD hb;replace dE:=zKb dE hb;replace HB:=zBs HB hb;clear hb adE;obtain⟨aA1,aA2,aA3⟩:=Kd.GI uB.out;subst aA3)|((with_reducible refine af (f:=53) rfl ?_);refine zc (some 80) Tryz.func53 #[.slice aA1 avJ.length aA2] (lM.calls _ (fun k_=>(k_≠iT∧k_≠iH)) _ _ _ _ _ (Kd.N_V (uB.out)) A56.out) ?_;rintro e w99 ⟨aAQ,rfl,ho0,hb⟩;refine⟨_,rfl,?_⟩;replace jW:=zVb jW hb;replace qo:=zVb qo hb;replace uB:=am (Kd.rM (by (with_reducible repeat (first|apply Kd.vK|apply Kd.vV|apply Kd.yO));exact uB.out) hb);have xE:=am (Kd.dG (Kd.bG (ok':=fun k_=>k_≠iT∧k_≠iH) ho0 (fun k_ hk_=>⟨Or.elim hk_ (fun hs_=>hs_.1) (fun hn_=>(Kd.gJ (g:=iT) (o := .cells #[.bool false,.bool false,.string (⟨#[]⟩:ByteArray),.int .i64 0] 23 (0,0)) (zK dD) k_ hn_)),Or.elim hk_ (fun hs_=>hs_.2) (fun hn_=>(Kd.gJ (g:=iH) (o := .cells #[.int .i64 Il,.bool D8,.int .i64 BJ,.int .u64 EC] 77 (0,0)) (zK dE) k_ hn_))⟩)) (zS HB));replace dD:=zKb dD hb;replace dE:=zKb dE hb;replace HB:=zBs HB hb;clear hb ho0;obtain⟨apZ,ap0,ap1⟩:=Kd.dS xE.out;subst ap1)|((with_reducible refine af (f:=52) rfl ?_);refine zc (some 83) Tryz.func52 #[.slice apZ ak9.length ap0,.int .i64 (wrap64 (-(wrap64 ((wrap64 (BJ-63))+IU))))] (eQ.calls _ (fun k_=>(k_≠iT∧k_≠iH)) _ _ _ _ _ _ _ _ xE.out A57.out) ?_;rintro e aHQ ⟨aAU,rfl,ho0,hb⟩;refine⟨_,rfl,?_⟩;replace jW:=zVb jW hb;replace qo:=zVb qo hb;replace uB:=am (Kd.rM (by (with_reducible repeat (first|apply Kd.vK|apply Kd.vV|apply Kd.yO));exact uB.out) hb);replace xE:=zVb xE hb;have Ea:=am (Kd.dG (Kd.bG (ok':=fun k_=>k_≠iT∧k_≠iH) ho0 (fun k_ hk_=>⟨Or.elim hk_ (fun hs_=>hs_.1) (fun hn_=>(Kd.gJ (g:=iT) (o := .cells #[.bool false,.bool false,.string (⟨#[]⟩:ByteArray),.int .i64 0] 23 (0,0)) (zK dD) k_ hn_)),Or.elim hk_ (fun hs_=>hs_.2) (fun hn_=>(Kd.gJ (g:=iH) (o := .cells #[.int .i64 Il,.bool D8,.int .i64 BJ,.int .u64 EC] 77 (0,0)) (zK dE) k_ hn_))⟩)) (zS HB));replace dD:=zKb dD hb;replace dE:=zKb dE hb;replace HB:=zBs HB hb;clear hb ho0;(try simp only[aj,ah]);obtain⟨_,_,_,_,_,_,_,_⟩:=zf4 dD))
  refine bodyPost_ret (dh rfl _ _ iT 23 #[.bool false,.bool false,.string (⟨#[]⟩:ByteArray),.int .i64 0] (0,0) _ rfl (zKp dD) Tryz.underlying23 rfl (by kernel_rfl)) rfl ?_;exact⟨by first|exact z3|(simp only[← zT];exact z3)|exact z2,zB HB⟩
 generalize w31.drew=aHR at dD dE HB hHeld ⊢;refine zp HT_ 0 (some 36) ?_;refine zp HT_ 2 (some 38) ?_;refine zp HT_ 5 (some 41) ?_;refine zp HT_ 8 (some 44) ?_;refine zt HT_ HW_ 1 (some 37) hHeld ?_;refine zp HT_ 3 (some 39) ?_;refine zt HT_ HW_ 6 (some 42) hHeld ?_;refine zp HT_ 7 (some 43) ?_;refine zp HT_ 9 (some 45) ?_;refine zu HT_ 4 (some 40) (fun K hK=>?_);refine oV Tryz.func48 (by kernel_rfl) rfl #[.int .u64 Ro] (by rfl) rfl rfl (by (try simp only[List.map_toArray,List.map_cons,List.map_nil]);first|done|(simp only[zT];rfl)|rfl|(simp only[List.length_drop,List.length_take];rfl)) ?_
 with_reducible refine (qU.calls k Ro Ik _ A21.out).mono ?_
 rintro e aHS ⟨ala,rfl,ho0,hb⟩;refine⟨_,rfl,?_⟩;have jW:=am (Kd.dG (Kd.bG (ok':=fun k_=>k_≠iT∧k_≠iH) ho0 (fun k_ hk_=>⟨(Kd.gJ (g:=iT) (o := .cells #[.bool false,.bool false,.string (⟨#[]⟩:ByteArray),.int .i64 0] 23 (0,0)) (zK dD) k_ hk_),(Kd.gJ (g:=iH) (o := .cells #[.int .i64 Il,.bool D8,.int .i64 BJ,.int .u64 EC] 77 (0,0)) (zK dE) k_ hk_)⟩)) (zS HB));replace dD:=zKb dD hb;replace dE:=zKb dE hb;replace HB:=zBs HB hb
 (try clear hb)
 (try clear hb2)
 (try clear hk)
 (try clear hi)
 (try clear ho0)
 refine hK.out _ _ ⟨(ag dE.out 0).trans rfl,(ag dE.out 1).trans rfl,(ag dE.out 2).trans rfl,(ag dE.out 3).trans rfl⟩ (fun hHeld=>?_);clear hK K;refine mD (a':=?_) ?_ ?_;rotate_left
 ·show Act.put _ (some 40) _=_
  simp only[Act.put,List.setIfInBounds_toArray,List.set_cons_zero,List.set_cons_succ,bW,fV]
  rfl
 refine zp HT_ 10 (some 9) ?_;refine zp HT_ 11 (some 10) ?_;refine oG (iJ HT_.out (by kernel_rfl)) ?_
 try go_wp2_with (first|((with_reducible refine af (f:=51) rfl ?_);refine zc (some 69) Tryz.func51 _ (iw.calls _ _ _ _ _ A55.out) ?_;rintro e aHT ⟨avR,rfl,ho0,hb⟩;refine⟨_,rfl,?_⟩;replace jW:=zVb jW hb;have qo:=am (Kd.dG (Kd.bG (ok':=fun k_=>k_≠iT∧k_≠iH) ho0 (fun k_ hk_=>⟨(Kd.gJ (g:=iT) (o := .cells #[.bool false,.bool false,.string (⟨#[]⟩:ByteArray),.int .i64 0] 23 (0,0)) (zK dD) k_ hk_),(Kd.gJ (g:=iH) (o := .cells #[.int .i64 Il,.bool D8,.int .i64 BJ,.int .u64 EC] 77 (0,0)) (zK dE) k_ hk_)⟩)) (zS HB));replace dD:=zKb dD hb;replace dE:=zKb dE hb;replace HB:=zBs HB hb;clear hb ho0;(try simp only[aj,ah]);obtain⟨_,_,_,_,_,_,_,_⟩:=zf4 dD))
 refine bodyPost_ret (dh rfl _ _ iT 23 #[.bool false,.bool false,.string (⟨#[]⟩:ByteArray),.int .i64 0] (0,0) _ rfl (zKp dD) Tryz.underlying23 rfl (by kernel_rfl)) rfl ?_;exact⟨by first|exact z3|(simp only[← zT];exact z3)|exact z2,zB HB⟩
def uu.f (k:Nat)(a0:Int)(a1:Int):Option (ByteArray × Option Int):=(bD.f k a0 a1).bind fun QK=>(if QK.2.2.2.2.isNone=true then ((nD.f QK.1 QK.2.1 QK.2.2.1 QK.2.2.2.1).bind fun aiu=>(some (aiu.1,aiu.2))) else (some ((⟨#[]⟩:ByteArray),some (QK.2.2.2.2.getD 0))))
theorem uu.calls (k:Nat)(a0:Int)(a1:Int)(r1:ByteArray)(r2:Option Int)(w:World)(h:uu.f k a0 a1=some (r1,r2))(htab:Fx.Laid w:=by exact Fx.Laid.below HTAB.out (by repeat (first|(with_reducible first|exact HB.out|apply bn|apply aJ|apply aW|refine bF ?_ (ae.out (by assumption)))|exact HB.out))) :
    Calls Tryz.prog 17 #[.int .i64 a0,.int .u64 a1] w fun e w'=>e=.returned (.tuple #[.string r1,qL r2])∧Below w.heap.size w w':=by
 have HTAB:=am htab;clear htab;have Rf:=Tryz.underlying23;have zq:=Tryz.underlying27;have hu64:=Tryz.underlying64;have HB:=am (Below.refl w.heap.size w);have H:=am h;unfold uu.f at H;clear h;replace H:=zo H;obtain⟨⟨aHU,aHV,aHW,aHX,aA4⟩,A3,H⟩:=H
 try dsimp only at H
 rcases aA4 with _|aHY;replace H:=zb1 H
 try simp only[aj,ah]
 replace H:=zo H;obtain⟨⟨aHZ,aH0⟩,A4,H⟩:=H
 try dsimp only at H
 obtain⟨rfl,rfl⟩:=zJ2 H;rotate_left;replace H:=zb0 H
 try simp only[Option.getD_some]at H
 try simp only[aj,ah]
 obtain⟨rfl,rfl⟩:=zJ2 H;rotate_left
 all_goals (go_enter Tryz.func17,Tryz.ntmps17;go_wp2_with (first|((with_reducible refine af (f:=16) rfl ?_);refine zc (some 11) Tryz.func16 _ (bD.calls _ _ _ _ _ _ _ _ _ A3.out) ?_;rintro e w5 ⟨rfl,hb⟩;refine⟨_,rfl,?_⟩;replace HB:=zBs HB hb;clear hb;(try simp only[aj,ah]))|((with_reducible refine aA (N:=6) rfl ?_);refine zx 6 23 #[.bool false,.bool false,.string (⟨#[]⟩:ByteArray),.int .i64 0] ?_;intro aA5 hg w6 hbox hb;have adF:=am (hbox);have aA6:=zG hg HB;have aA7:=zG hg HB;replace HB:=zBs HB hb;clear hb hbox hg;obtain⟨_,_,_,_,_,_,_,_⟩:=zf4 adF)|((with_reducible refine af (f:=30) rfl ?_);refine zc (some 18) Tryz.func30 _ (nD.calls _ _ _ _ _ _ _ A4.out) ?_;rintro e w8 ⟨rfl,hb⟩;refine⟨_,rfl,?_⟩;replace adF:=am (eG (zKp adF) hb);replace HB:=zBs HB hb;clear hb;(try simp only[aj,ah]))))
 ·go_ret2
  exact⟨z2,zB HB⟩
 go_ret2
 exact⟨z2,zB HB⟩
mutual
def fU.j0:Nat→ByteArray→Int→Option (List Int × Option Int)
  | 0,_,_=>none
  | k+1,x0,x4=>if x4≥0 then (none) else (fU.l0 k x0 ([]:List Int))
def fU.l0:Nat→ByteArray→List Int→Option (List Int × Option Int)
  | 0,_,_=>none
  | k+1,x0,x5=>if (x0.size:Int) > 0 then (if 0≤(mn (x0.size:Int) 19) then (if (mn (x0.size:Int) 19)≤(x0.size:Int) then ((gZ.f (x0.extract 0 ((mn (x0.size:Int) 19):Int).toNat) 10 64).bind fun aiv=>(if aiv.2.isNone=true then (fU.l1 k x0 x5 (mn (x0.size:Int) 19) aiv.1 1 (mn (x0.size:Int) 19) 0) else (some (([]:List Int),some 7)))) else (none)) else (none)) else (some (x5,none))
def fU.l1:Nat→ByteArray→List Int→Int→Int→Int→Int→Int→Option (List Int × Option Int)
  | 0,_,_,_,_,_,_,_=>none
  | k+1,x0,x5,x6,x7,x9,x41,x42=>if x42<x41 then (fU.l1 k x0 x5 x6 x7 (IntKind.u64.wrap (x9*10)) x41 (wrap64 (x42+1))) else ((dJ.f k x5 (([x9]:List Int))).bind fun ap2=>((qU.f k x7).bind fun ap3=>((gp.f k ap2 ap3).bind fun ap4=>(if 0≤x6 then (if x6≤(x0.size:Int) then (fU.l0 k (x0.extract (x6:Int).toNat x0.size) ap4) else (none)) else (none)))))
end
def fU.f (k:Nat)(a0:ByteArray):Option (List Int × Option Int):=if (a0.size:Int) > 4096 then (some (([]:List Int),some 13)) else ((strings_IndexFunc.f a0).bind fun ale=>(if a0.toList=([]:List UInt8) then (fU.j0 k a0 0) else (fU.j0 k a0 ale)))
theorem fU.calls (k:Nat)(a0:ByteArray)(r1:List Int)(r2:Option Int)(w:World)(h:fU.f k a0=some (r1,r2)) :
    Calls Tryz.prog 94 #[.string a0] w fun e w' => ∃ v0_:Value,e=.returned (.tuple #[v0_,qL r2])∧Kd.V (Kd.int .u64) 25 w' w.heap.size (fun k_=>(w.heap.size≤k_)) v0_ r1∧Below w.heap.size w w':=by
 have zq:=Tryz.underlying27;have hu64:=Tryz.underlying64;have HB:=am (Below.refl w.heap.size w);have H:=am h;unfold fU.f at H;clear h;replace H:=zs H;rcases H with⟨c2,H⟩|⟨c2,H⟩
 ·have sQ:decide (4096<(a0.size:Int))=true:=decide_eq_true c2
  have JU:decide (4096<a0.size)=true:=decide_eq_true (by omega);clear c2;obtain⟨rfl,rfl⟩:=zJ2 H
  go_enter Tryz.func94,Tryz.ntmps94
  go_wp2
  go_ret2
  exact⟨_,z2,Kd.Ah _ _ _ _ _,zB HB⟩
 have sQ:decide (4096<(a0.size:Int))=false:=decide_eq_false c2;have JU:decide (4096<a0.size)=false:=decide_eq_false (by omega);clear c2;replace H:=zo H;obtain⟨ale,A3,H⟩:=H
 go_enter Tryz.func94,Tryz.ntmps94
 go_upto_if 17 with (first|((with_reducible refine af (f:=147) rfl ?_);refine jS (some 15) rfl rfl Tryz.func147 (by kernel_rfl) rfl #[.string a0,.func (.func 148) #[] #[]] rfl (by (try simp only[List.map_toArray,List.map_cons,List.map_nil]);first|done|rfl|(simp only[List.length_drop,List.length_take];rfl)) ?_;(with_reducible refine (strings_IndexFunc.calls a0 ale _ A3.out).mono ?_);rintro e w5 ⟨rfl,hb⟩;refine⟨_,rfl,?_⟩;have n0_:=zBs HB hb;clear HB;have HB:=n0_;clear n0_;(try clear hb);(try clear hb2);(try clear hk);(try clear hi)))
 (try simp only[Act.put,List.setIfInBounds_toArray,List.set_cons_zero,List.set_cons_succ])
 go_cut [4] (fun v4 wc => ∃ (kq:Nat) (ap5:Int),v4=.int .i64 ap5∧ae (fU.j0 kq a0 ap5=some (r1,r2))∧ae (kq≤k)∧ae (Below w.heap.size w wc))
 case first =>
  replace H:=zsk H;rcases H with⟨qV,BB,H⟩|⟨qV,BB,c6,H⟩
  (first|rw[qV]|(simp only[bW,fV];rw[qV])|rw[BB]|rw[List.isEmpty_iff.mpr (beq_iff_eq.mp qV)]|rw[List.isEmpty_eq_false_iff.mpr (beq_eq_false_iff_ne.mp qV)]|skip)
  rotate_left
  (first|rw[qV]|(simp only[bW,fV];rw[qV])|rw[BB]|rw[List.isEmpty_iff.mpr (beq_iff_eq.mp qV)]|rw[List.isEmpty_eq_false_iff.mpr (beq_eq_false_iff_ne.mp qV)]|skip)
  rotate_left
  all_goals (go_wp2)
  ·go_meet
   case rel=>exact⟨_,(0),z1,H,⟨z5⟩,⟨zB HB⟩⟩
  go_meet
  case rel=>exact⟨_,(ale),z1,H,⟨z5⟩,⟨zB HB⟩⟩
 case rest =>
  obtain⟨kq,ap5,rfl,H,HJ3,HB⟩:=hcut;obtain _|kj3:=kq
  ·exact zz H rfl
  simp only[fU.j0]at H;replace H:=aye H;obtain⟨yE,H⟩:=H
  go_wp2
  go_loopg [0,5] kj3 (fun kq v0 v5 w' => ∃ (jq:ByteArray) (nY:List Int),v0=.string jq∧ae (fU.l0 kq jq nY=some (r1,r2))∧ae (kq≤kj3)∧ae (Kd.V (Kd.int .u64) 25 w' w.heap.size (fun k_=>(w.heap.size≤k_)) v5 nY)∧ae (Below w.heap.size w w'))
  case atStart=>exact⟨(a0),(([]:List Int)),z1,H,zL,⟨Kd.Ah _ _ _ _ _⟩,⟨zB HB⟩⟩
  clear H;obtain⟨jq,nY,rfl,H,HK2,fH,HB⟩:=hrel;obtain _|k2:=gk
  ·exact zz H rfl
  simp only[fU.l0]at H;replace H:=zs H;rcases H with⟨c8,H⟩|⟨c8,H⟩;have uz:decide (0<(jq.size:Int))=true:=decide_eq_true c8;have Ey:decide (0<jq.size)=true:=decide_eq_true (by omega);clear c8;generalize Rh:(mn (jq.size:Int) 19:Int)=ji9 at H;have anL:(if 19<(jq.size:Int) then 19 else (jq.size:Int))=ji9:=Rh;replace H:=zit H;obtain⟨oL,uX,H⟩:=H;replace H:=zit H;obtain⟨qJ,zM,H⟩:=H;replace H:=zo H;obtain⟨⟨aA8,aA9⟩,A12,H⟩:=H
  try dsimp only at H
  rcases aA9 with _|aH1;replace H:=zb1 H
  try simp only[aj,ah]
  rotate_left;replace H:=zb0 H
  try simp only[Option.getD_some]at H
  try simp only[aj,ah]
  obtain⟨rfl,rfl⟩:=zJ2 H;rotate_left;have uz:decide (0<(jq.size:Int))=false:=decide_eq_false c8;have Ey:decide (0<jq.size)=false:=decide_eq_false (by omega);clear c8;obtain⟨rfl,rfl⟩:=zJ2 H;rotate_left
  all_goals (go_wp2_with (first|((with_reducible refine af (f:=149) rfl ?_);refine jS (some 35) rfl rfl Tryz.func149 (by kernel_rfl) rfl #[.string (jq.extract 0 ((ji9):Int).toNat),.int .i64 10,.int .i64 64] rfl (by (try simp only[List.map_toArray,List.map_cons,List.map_nil]);first|done|(simp only[Rh];rfl)|rfl|(simp only[List.length_drop,List.length_take];rfl)) ?_;(with_reducible refine (gZ.calls _ _ _ _ _ _ A12.out).mono ?_);rintro e w13 ⟨rfl,hb⟩;refine⟨_,rfl,?_⟩;replace fH:=zVb fH hb;replace HB:=zBs HB hb;clear hb;(try simp only[aj,ah]))))
  ·go_loopg [9,42] k2 (fun kq v9 v42 w' => ∃ (Za:Int) (Zb:Int),v9=.int .u64 Za∧v42=.int .i64 Zb∧ae (fU.l1 kq jq nY ji9 aA8 Za ji9 Zb=some (r1,r2))∧ae (kq≤k2)∧ae (Kd.V (Kd.int .u64) 25 w' w.heap.size (fun k_=>(w.heap.size≤k_)) u5 nY)∧ae (Below w.heap.size w w'))
   case atStart=>exact⟨(1),(0),z1,z1,H,zL,⟨zV fH⟩,⟨zB HB⟩⟩
   clear H;obtain⟨Za,Zb,rfl,rfl,H,HK3,fH,HB⟩:=hrel;obtain _|k3:=gk
   ·exact zz H rfl
   simp only[fU.l1]at H;replace H:=zsd H;rcases H with⟨wG,H⟩|⟨wG,H⟩;rotate_left;generalize aiw:(([Za]:List Int):List Int)=afg at H;have aix:=zY aiw;clear aiw;replace H:=zo H;obtain⟨ap2,A15,H⟩:=H;replace H:=zo H;obtain⟨ap3,A16,H⟩:=H;replace H:=zo H;obtain⟨ap4,A17,H⟩:=H;replace H:=zit H;obtain⟨YX,an6,H⟩:=H;replace H:=zit H;obtain⟨apy,apz,H⟩:=H;rotate_left
   all_goals (go_wp2_with (first|((with_reducible refine aA (N:=49) rfl ?_);refine Kd.Bq (Kd.int .u64) _ 25 ?hg (N:=49) ?hd (xs:=([Za]:List Int)) (inner := [.int .u64 Za]) (ok:=fun _=>True) (okp:=fun _=>True) ?hr ?hp (fun _ hk=>hk) trivial (Below.refl _ _) (Nat.le_refl _) (by simp) ?_;(case hd=>rfl);(case hg=>rfl);(case hr=>first|(go_simp;done)|(go_simp;rfl));(case hp=>exact (jM.one (show Kd.M (Kd.int .u64) _ _ _ Za [.int .u64 Za] from rfl) (jM.none _ _)));intro aH2 w20 afh hb hg_ jO;clear hg_ jO;(first|rw[← aix.out]at afh|(simp only[Int.reduceToNat]at afh;rw[← aix.out]at afh));replace fH:=am (Kd.jl (zV fH) (Kd.fP afh) hb);have BK:=am (Kd.dZ (Kd.oQ (M:=fun k_=>(w.heap.size≤k_)) afh (zS HB) (fun k_ h_=>h_)) (zS HB));replace HB:=zBs HB hb;clear hb afh;obtain⟨afc,QJ,ah2⟩:=Kd.dS fH.out;subst ah2;obtain⟨DX,yl,Vy⟩:=Kd.dU BK.out;subst Vy)|((with_reducible refine af (f:=107) rfl ?_);refine zc (some 50) Tryz.func107 #[.slice afc nY.length QJ,.slice DX afg.length yl] (dJ.calls _ _ _ _ _ _ _ _ _ (zC ((Kd.aX fH.out).2.2)) ((Kd.aX fH.out).2.1) (zC ((Kd.az BK.out).2.2)) ((Kd.az BK.out).2.1) A15.out) ?_;rintro e w24 ⟨aH3,rfl,ho0,hb⟩;refine⟨_,rfl,?_⟩;replace fH:=zVb fH hb;have QL:=am (Kd.dG (Kd.bG (ok':=fun k_=>(w.heap.size≤k_)∧some k_≠(.slice DX afg.length yl:Value).ownBlock) ho0 (fun k_ hk_=>⟨(Nat.le_trans (zS HB) hk_),(Kd.fresh' (Kd.qg (zR BK)) k_ hk_)⟩)) (zS HB));replace BK:=zRb BK hb;replace HB:=zBs HB hb;clear hb ho0)|((with_reducible refine af (f:=48) rfl ?_);refine zc (some 52) Tryz.func48 _ (qU.calls _ _ _ _ A16.out) ?_;rintro e w25 ⟨aH4,rfl,ho0,hb⟩;refine⟨_,rfl,?_⟩;replace fH:=zVb fH hb;replace QL:=zVb QL hb;have Zc:=am (Kd.dG (Kd.bG (ok':=fun k_=>(w.heap.size≤k_)∧some k_≠(.slice DX afg.length yl:Value).ownBlock) ho0 (fun k_ hk_=>⟨(Nat.le_trans (zS HB) hk_),(Kd.fresh' (Kd.qg (zR BK)) k_ hk_)⟩)) (zS HB));replace BK:=zRb BK hb;replace HB:=zBs HB hb;clear hb ho0;obtain⟨au5,ae6,ae7⟩:=Kd.dS QL.out;subst ae7;obtain⟨au6,au7,aoK⟩:=Kd.dS Zc.out;subst aoK)|((with_reducible refine af (f:=150) rfl ?_);refine zc (some 53) Tryz.func150 #[.slice au5 ap2.length ae6,.slice au6 ap3.length au7] (gp.calls _ (fun k_=>((w.heap.size≤k_)∧some k_≠(.slice DX afg.length yl:Value).ownBlock)) _ _ _ (fun k_=>((w.heap.size≤k_)∧some k_≠(.slice DX afg.length yl:Value).ownBlock)) _ _ _ _ _ QL.out Zc.out A17.out) ?_;rintro e w28 ⟨aH5,rfl,ho0,hb⟩;refine⟨_,rfl,?_⟩;replace fH:=zVb fH hb;replace QL:=zVb QL hb;replace Zc:=zVb Zc hb;have ap6:=am (Kd.dG (Kd.bG (ok':=fun k_=>(w.heap.size≤k_)∧some k_≠(.slice DX afg.length yl:Value).ownBlock) ho0 (fun k_ hk_=>⟨Or.elim hk_ (fun hs_=>Or.elim hs_ (fun hs_=>hs_.1) (fun hs_=>hs_.1)) (fun hn_=>(Nat.le_trans (zS HB) hn_)),Or.elim hk_ (fun hs_=>Or.elim hs_ (fun hs_=>hs_.2) (fun hs_=>hs_.2)) (fun hn_=>(Kd.fresh' (Kd.qg (zR BK)) k_ hn_))⟩)) (zS HB));replace BK:=zRb BK hb;replace HB:=zBs HB hb;clear hb ho0)))
   ·go_roundg k3
    case measure=>have:=HJ3.out;have:=HK2.out;have:=HK3.out;omega
    case rel=>exact⟨(IntKind.u64.wrap (Za*10)),(wrap64 (Zb+1)),z1,z1,H,⟨by have:=HJ3.out;have:=HK2.out;have:=HK3.out;omega⟩,⟨zV fH⟩,⟨zB HB⟩⟩
   go_roundg k3
   case measure=>have:=HJ3.out;have:=HK2.out;have:=HK3.out;omega
   case rel=>exact⟨(jq.extract (ji9:Int).toNat jq.size),(ap4),(by first|rfl|(simp;done)|(simp only[← Rh] <;> (first|rfl|simp))|(simp[*];done)),H,⟨by have:=HJ3.out;have:=HK2.out;have:=HK3.out;omega⟩,⟨by (with_reducible repeat (first|apply Kd.je|apply Kd.jh|apply Kd.jb));exact Kd.bG ap6.out (fun _ hk=>hk.1)⟩,⟨zB HB⟩⟩
  ·go_ret2
   exact⟨_,by first|exact z3|(simp only[← Rh];exact z3)|exact z2,Kd.Ah _ _ _ _ _,zB HB⟩
  go_ret2
  exact⟨_,z2,zV fH,zB HB⟩
end Go.Proofs.Yy.PTx
end
