/- Part 17 of what the proof needs. -/
import Derived.Test.YtpfnkbnepcchgaaGreatDoorKTBAL
import Derived.Test.YtpfnkbnepcchgaaGreatDoorKTBAP
set_option linter.unusedSimpArgs false
set_option linter.unusedVariables false
section
set_option maxHeartbeats 8000000
set_option maxRecDepth 100000
namespace Go.Proofs.Yy.PTx
open Go.RowKit Go.Proofs.Yy.Z Go.Proofs.Yw.PrintWords Go.Proofs.Yw.PrintLast Go.Proofs.Yw.PrintMore
open Go.Proofs.Yy.M
attribute [local go_sem] runx_add64 runx_sub64 eql_cc eql_nc neq_cc neq_nc
attribute [local go_sem] max2_int min2_int max_two min_two max_three min_three max_four min_four
def text_Decimal.f (k:Nat) (a0:Int) (a1:Int):Option (Bool × Bool × ByteArray × Int × Option Int):=(codec_Decode.f k a0 a1).bind fun bt264=>(if bt264.2.2.2.2.isNone=true then (if bt264.1=2 then (some (true,false,(⟨#[]⟩:ByteArray),0,none)) else (if bt264.1=0 then (some (false,false,(⟨#[48]⟩:ByteArray),0,none)) else ((bits_TrailingZeros64.f bt264.2.2.2.1).bind fun t271=>(if 0≤t271 then ((nat_Of.f k (shr .u64 bt264.2.2.2.1 t271)).bind fun t272=>(if (wrap64 ((wrap64 (bt264.2.2.1 - 63))+t271)) ≥ 0 then ((nat_Shl.f k t272 (wrap64 ((wrap64 (bt264.2.2.1 - 63))+t271))).bind fun bt275=>(if bt275.2.isNone=true then ((nat_Text.f k bt275.1).bind fun t280=>((scan_Norm.f false bt264.2.1 t280 0).bind fun bt281=>(some (bt281.1,bt281.2.1,bt281.2.2.1,bt281.2.2.2.1,bt281.2.2.2.2)))) else (some (false,false,(⟨#[]⟩:ByteArray),0,some (bt275.2.getD 0))))) else ((nat_Ten.f k (wrap64 (-(wrap64 ((wrap64 (bt264.2.2.1 - 63))+t271))))).bind fun bt286=>(if bt286.2.isNone=true then ((nat_Mul.f k (([t272,bt286.1]:List (List Int)))).bind fun t294=>((nat_Shr.f k t294 (wrap64 (-(wrap64 ((wrap64 (bt264.2.2.1 - 63))+t271))))).bind fun bt297=>(if bt297.2.2.isNone=true then ((nat_Text.f k bt297.1).bind fun t303=>((scan_Norm.f false bt264.2.1 t303 (wrap64 ((wrap64 (bt264.2.2.1 - 63))+t271))).bind fun bt304=>(some (bt304.1,bt304.2.1,bt304.2.2.1,bt304.2.2.2.1,bt304.2.2.2.2)))) else (some (false,false,(⟨#[]⟩:ByteArray),0,some (bt297.2.2.getD 0)))))) else (some (false,false,(⟨#[]⟩:ByteArray),0,some (bt286.2.getD 0))))))) else (none))))) else (some (false,false,(⟨#[]⟩:ByteArray),0,some (bt264.2.2.2.2.getD 0))))
theorem text_Decimal.mono:∀ a0 a1 k,LeO (text_Decimal.f k a0 a1) (text_Decimal.f (k+1) a0 a1):=by
  intro a0 a1 k
  unfold text_Decimal.f
  repeat' (with_reducible first|exact codec_Decode.mono _ _ _|exact nat_Mul.mono _ _|exact nat_Of.mono _ _|exact nat_Shl.mono _ _ _|exact nat_Shr.mono _ _ _|exact nat_Ten.mono _ _|exact nat_Text.mono _ _|exact zm|exact zv|refine zI ?_ ?_|refine zO ?_ fun _=>?_)
def text_Decimal.T9:Bool × List (List Nat × List Nat):=(true, [([], []),([0], [0]),([], []),([1,2], [1,2]),([3], [3]),([], []),([5], [5]),([6], [6]),([], []),([7,8], [7,8]),([4,4,0,1,2,3,4], [4]),([9,10,0,1,2,3,4,5,6,7,8,9,10], [9])])
def text_Decimal.B9:List Nat := [0,1,0,7,15,0,32,96,0,480,31,2047]
theorem text_Decimal.tab9:rtab .any (opsOf Tryz.f16 9)=text_Decimal.T9:=by kernel_rfl
theorem text_Decimal.bits9:waitsOk text_Decimal.T9.2 text_Decimal.B9=true:=by kernel_rfl
def text_Decimal.T14:Bool × List (List Nat × List Nat):=(true, [([], []),([0], [0]),([], []),([2], [2]),([1,3], [1,3]),([4,3], [4]),([5], [5]),([5], [5]),([6,5,0,1,2,3,4,5,6,7], [6]),([7,8,0,1,2,3,4,5,6,7,8], [7])])
def text_Decimal.B14:List Nat := [0,1,0,4,15,31,63,63,255,511]
theorem text_Decimal.tab14:rtab .any (opsOf Tryz.f16 14)=text_Decimal.T14:=by kernel_rfl
theorem text_Decimal.bits14:waitsOk text_Decimal.T14.2 text_Decimal.B14=true:=by kernel_rfl
def text_Decimal.T21:Bool × List (List Nat × List Nat):=(true, [([], []),([0], [0]),([], []),([2], [2]),([], []),([1,3,4], [1,3,4]),([5,3], [5]),([6], [6]),([6], [6]),([7,6,0,1,2,3,4,5,6,7,8], [7]),([8,9,0,1,2,3,4,5,6,7,8,9], [8])])
def text_Decimal.B21:List Nat := [0,1,0,4,0,31,63,127,127,511,1023]
theorem text_Decimal.tab21:rtab .any (opsOf Tryz.f16 21)=text_Decimal.T21:=by kernel_rfl
theorem text_Decimal.bits21:waitsOk text_Decimal.T21.2 text_Decimal.B21=true:=by kernel_rfl
theorem text_Decimal.calls (k:Nat) (a0:Int) (a1:Int) (r1:Bool) (r2:Bool) (r3:ByteArray) (r4:Int) (r5:Option Int) (w:World) (h:text_Decimal.f k a0 a1=some (r1,r2,r3,r4,r5)) (htab:Fx.Laid w:=by exact Fx.Laid.below HTAB.out (by repeat (first|(with_reducible first|exact HB.out|apply below_alloc|apply pw_below_drewN|apply below_drew1|refine below_set ?_ (Aside0.out (by assumption)))|exact HB.out))) :
    Calls Tryz.prog 16 #[.int .i64 a0, .int .u64 a1] w fun e w'=>e = .returned (.tuple #[.agg #[.bool r1, .bool r2, .string r3, .int .i64 r4],errW r5])∧Below w.heap.size w w':=by
 have HTAB:=am htab
 clear htab
 have hu23:=Tryz.underlying23
 have hu77:=Tryz.underlying77
 have hu27:=Tryz.underlying27
 have hu64:=Tryz.underlying64
 have HB:=am (Below.refl w.heap.size w)
 have H:=am h
 unfold text_Decimal.f at H
 clear h
 replace H:=zo H
 obtain ⟨⟨t264,t265,t266,t267,t268⟩,A3,H⟩:=H
 try dsimp only at H
 rcases t268 with _|q270
 replace H:=zb1 H
 try simp only [errW_none,errW_some]
 replace H:=zsk H
 rcases H with ⟨c4b0,c4b1,H⟩|⟨c4b0,c4b1,c4,H⟩
 ·obtain ⟨rfl,rfl,rfl,rfl,rfl⟩:=zJ5 H
  go_enter Tryz.func16,Tryz.ntmps16
  go_wp2_with (first|((with_reducible refine gate_dst (N:=4) rfl ?_);refine zx 4 23 #[.bool false, .bool false, .string (⟨#[]⟩:ByteArray), .int .i64 0] ?_;intro gb263 hg w5 hbox hb;have BK263:=am (hbox);have GW263:=zG hg HB;have GE263:=zG hg HB;replace HB:=zBs HB hb;clear hb hbox hg)|((with_reducible refine gate_callee (f:=42) rfl ?_);refine zc (some 15) Tryz.func42 _ (codec_Decode.calls _ _ _ _ _ _ _ _ _ A3.out) ?_;rintro e w6 ⟨rfl,hb⟩;refine ⟨_,rfl,?_⟩;replace BK263:=zKb BK263 hb;replace HB:=zBs HB hb;clear hb;(try simp only [errW_none,errW_some]))|((with_reducible refine gate_dst (N:=6) rfl ?_);refine zx 6 77 #[.int .i64 0, .bool false, .int .i64 0, .int .u64 0] ?_;intro gb269 hg w7 hbox hb;have BK269:=am (hbox);have GW269:=zG hg HB;have GE269:=zG hg HB;replace HB:=zBs HB hb;have NB263_269:=zNl hg BK263;have NB269_263:=zNg hg BK263;replace BK263:=zKb BK263 hb;clear hb hbox hg;have hnb8:=NB269_263.out;have hnc8:=NB263_269.out;obtain ⟨_,_,_,_,_,_,_,_⟩:=zf4 BK269;obtain ⟨_,_,_,_,_,_,_,_⟩:=zf4 BK263))
  refine bodyPost_ret (results_ct rfl _ _ gb263 23 #[.bool true, .bool false, .string (⟨#[]⟩:ByteArray), .int .i64 0] (0,0) _ rfl (zKp BK263) Tryz.underlying23 rfl (by kernel_rfl)) rfl ?_
  exact ⟨z2,zB HB⟩
 replace H:=zsk H
 rcases H with ⟨c11b0,c11b1,H⟩|⟨c11b0,c11b1,c11,H⟩
 ·obtain ⟨rfl,rfl,rfl,rfl,rfl⟩:=zJ5 H
  go_enter Tryz.func16,Tryz.ntmps16
  go_wp2_with (first|((with_reducible refine gate_dst (N:=4) rfl ?_);refine zx 4 23 #[.bool false, .bool false, .string (⟨#[]⟩:ByteArray), .int .i64 0] ?_;intro gb263 hg w12 hbox hb;have BK263:=am (hbox);have GW263:=zG hg HB;have GE263:=zG hg HB;replace HB:=zBs HB hb;clear hb hbox hg)|((with_reducible refine gate_callee (f:=42) rfl ?_);refine zc (some 15) Tryz.func42 _ (codec_Decode.calls _ _ _ _ _ _ _ _ _ A3.out) ?_;rintro e w13 ⟨rfl,hb⟩;refine ⟨_,rfl,?_⟩;replace BK263:=zKb BK263 hb;replace HB:=zBs HB hb;clear hb;(try simp only [errW_none,errW_some]))|((with_reducible refine gate_dst (N:=6) rfl ?_);refine zx 6 77 #[.int .i64 0, .bool false, .int .i64 0, .int .u64 0] ?_;intro gb269 hg w14 hbox hb;have BK269:=am (hbox);have GW269:=zG hg HB;have GE269:=zG hg HB;replace HB:=zBs HB hb;have NB263_269:=zNl hg BK263;have NB269_263:=zNg hg BK263;replace BK263:=zKb BK263 hb;clear hb hbox hg;have hnb15:=NB269_263.out;have hnc15:=NB263_269.out;obtain ⟨_,_,_,_,_,_,_,_⟩:=zf4 BK269;obtain ⟨_,_,_,_,_,_,_,_⟩:=zf4 BK263))
  refine bodyPost_ret (results_ct rfl _ _ gb263 23 #[.bool false, .bool false, .string (⟨#[48]⟩:ByteArray), .int .i64 0] (0,0) _ rfl (zKp BK263) Tryz.underlying23 rfl (by kernel_rfl)) rfl ?_
  exact ⟨z2,zB HB⟩
 replace H:=zo H
 obtain ⟨t271,A18,H⟩:=H
 replace H:=zit H
 obtain ⟨c19b0,c19b1,H⟩:=H
 generalize hji20:(shr .u64 t267 t271:Int)=ji20 at H
 (try rw [hji20] at A3)
 (try rw [hji20] at A18)
 have hji20_:(t267 / 2 ^ min t271.toNat 64)=ji20:=hji20
 have hji20z:t271≤64→(t267 / 2 ^ t271.toNat)=ji20:=shr_small hji20
 replace H:=zo H
 obtain ⟨t272,A21,H⟩:=H
 replace H:=zsde H
 rcases H with ⟨c22b0,H⟩|⟨c22b0,H⟩
 replace H:=zo H
 obtain ⟨⟨t275,t278⟩,A23,H⟩:=H
 try dsimp only at H
 rcases t278 with _|q279
 replace H:=zb1 H
 try simp only [errW_none,errW_some]
 replace H:=zo H
 obtain ⟨t280,A24,H⟩:=H
 replace H:=zo H
 obtain ⟨⟨t281,t282,t283,t284,t285⟩,A25,H⟩:=H
 try dsimp only at H
 obtain ⟨rfl,rfl,rfl,rfl,rfl⟩:=zJ5 H
 rotate_left
 replace H:=zb0 H
 try simp only [Option.getD_some] at H
 try simp only [errW_none,errW_some]
 obtain ⟨rfl,rfl,rfl,rfl,rfl⟩:=zJ5 H
 rotate_left
 replace H:=zo H
 obtain ⟨⟨t286,t289⟩,A55,H⟩:=H
 try dsimp only at H
 rcases t289 with _|q290
 replace H:=zb1 H
 try simp only [errW_none,errW_some]
 generalize hy291:(([t272,t286]:List (List Int)):List (List Int))=y291 at H
 have Ny291:=zY hy291
 clear hy291
 replace H:=zo H
 obtain ⟨t294,A56,H⟩:=H
 replace H:=zo H
 obtain ⟨⟨t297,t300,t301⟩,A57,H⟩:=H
 try dsimp only at H
 rcases t301 with _|q302
 replace H:=zb1 H
 try simp only [errW_none,errW_some]
 replace H:=zo H
 obtain ⟨t303,A58,H⟩:=H
 replace H:=zo H
 obtain ⟨⟨t304,t305,t306,t307,t308⟩,A59,H⟩:=H
 try dsimp only at H
 obtain ⟨rfl,rfl,rfl,rfl,rfl⟩:=zJ5 H
 rotate_left
 replace H:=zb0 H
 try simp only [Option.getD_some] at H
 try simp only [errW_none,errW_some]
 obtain ⟨rfl,rfl,rfl,rfl,rfl⟩:=zJ5 H
 rotate_left
 replace H:=zb0 H
 try simp only [Option.getD_some] at H
 try simp only [errW_none,errW_some]
 obtain ⟨rfl,rfl,rfl,rfl,rfl⟩:=zJ5 H
 rotate_left
 ·replace H:=zb0 H
  try simp only [Option.getD_some] at H
  try simp only [errW_none,errW_some]
  obtain ⟨rfl,rfl,rfl,rfl,rfl⟩:=zJ5 H
  go_enter Tryz.func16,Tryz.ntmps16
  go_wp2_with (first|((with_reducible refine gate_dst (N:=4) rfl ?_);refine zx 4 23 #[.bool false, .bool false, .string (⟨#[]⟩:ByteArray), .int .i64 0] ?_;intro gb263 hg w113 hbox hb;have BK263:=am (hbox);have GW263:=zG hg HB;have GE263:=zG hg HB;replace HB:=zBs HB hb;clear hb hbox hg)|((with_reducible refine gate_callee (f:=42) rfl ?_);refine zc (some 15) Tryz.func42 _ (codec_Decode.calls _ _ _ _ _ _ _ _ _ A3.out) ?_;rintro e w114 ⟨rfl,hb⟩;refine ⟨_,rfl,?_⟩;replace BK263:=zKb BK263 hb;replace HB:=zBs HB hb;clear hb;(try simp only [errW_none,errW_some]))|((with_reducible refine gate_dst (N:=6) rfl ?_);refine zx 6 77 #[.int .i64 0, .bool false, .int .i64 0, .int .u64 0] ?_;intro gb269 hg w115 hbox hb;have BK269:=am (hbox);have GW269:=zG hg HB;have GE269:=zG hg HB;replace HB:=zBs HB hb;have NB263_269:=zNl hg BK263;have NB269_263:=zNg hg BK263;replace BK263:=zKb BK263 hb;clear hb hbox hg;have hnb116:=NB269_263.out;have hnc116:=NB263_269.out;obtain ⟨_,_,_,_,_,_,_,_⟩:=zf4 BK269;obtain ⟨_,_,_,_,_,_,_,_⟩:=zf4 BK263))
  refine bodyPost_ret (results_ct rfl _ _ gb263 23 #[.bool false, .bool false, .string (⟨#[]⟩:ByteArray), .int .i64 0] (0,0) _ rfl (zKp BK263) Tryz.underlying23 rfl (by kernel_rfl)) rfl ?_
  exact ⟨z2,zB HB⟩
 all_goals (go_enter Tryz.func16,Tryz.ntmps16;try go_wp2_with (first|((with_reducible refine gate_dst (N:=4) rfl ?_);refine zx 4 23 #[.bool false, .bool false, .string (⟨#[]⟩:ByteArray), .int .i64 0] ?_;intro gb263 hg w26 hbox hb;have BK263:=am (hbox);have GW263:=zG hg HB;have GE263:=zG hg HB;replace HB:=zBs HB hb;clear hb hbox hg)|((with_reducible refine gate_callee (f:=42) rfl ?_);refine zc (some 15) Tryz.func42 _ (codec_Decode.calls _ _ _ _ _ _ _ _ _ A3.out) ?_;rintro e w27 ⟨rfl,hb⟩;refine ⟨_,rfl,?_⟩;replace BK263:=zKb BK263 hb;replace HB:=zBs HB hb;clear hb;(try simp only [errW_none,errW_some]))|((with_reducible refine gate_dst (N:=6) rfl ?_);refine zx 6 77 #[.int .i64 0, .bool false, .int .i64 0, .int .u64 0] ?_;intro gb269 hg w28 hbox hb;have BK269:=am (hbox);have GW269:=zG hg HB;have GE269:=zG hg HB;replace HB:=zBs HB hb;have NB263_269:=zNl hg BK263;have NB269_263:=zNg hg BK263;replace BK263:=zKb BK263 hb;clear hb hbox hg;have hnb29:=NB269_263.out;have hnc29:=NB263_269.out;obtain ⟨_,_,_,_,_,_,_,_⟩:=zf4 BK269)|((with_reducible refine gate_callee (f:=47) rfl ?_);refine zc (some 35) Tryz.func47 _ (bits_TrailingZeros64.calls _ _ _ A18.out) ?_;rintro e w31 ⟨rfl,hb⟩;refine ⟨_,rfl,?_⟩;replace BK263:=zKb BK263 hb;replace BK269:=am (blk_below (zKp BK269) hb);replace HB:=zBs HB hb;clear hb)))
 all_goals
  replace BK263:=am (blk_drew BK263.out)
  replace BK269:=am (blk_drew BK269.out)
  replace HB:=am (below_drew1 HB.out)
  refine start_ (n:=12) (S:=fun w'=>w'.cell? ⟨gb269,0,none⟩=some (.int .i64 t264)∧w'.cell? ⟨gb269,1,none⟩=some (.bool t265)∧w'.cell? ⟨gb269,2,none⟩=some (.int .i64 t266)∧w'.cell? ⟨gb269,3,none⟩=some (.int .u64 t267)) (ds := []) (Array.replicate 12 false) (by kernel_rfl) rfl rfl ⟨(blk_cell BK269.out 0).trans rfl,(blk_cell BK269.out 1).trans rfl,(blk_cell BK269.out 2).trans rfl,(blk_cell BK269.out 3).trans rfl⟩ (fun hHeld=>?_);refine with_tabW text_Decimal.tab9 text_Decimal.bits9 (fun HT_ HW_=>?_)
 ·generalize w31.drew=w32 at BK263 BK269 HB hHeld ⊢
  refine zp HT_ 0 (some 36) ?_
  refine zp HT_ 2 (some 38) ?_
  refine zp HT_ 5 (some 41) ?_
  refine zp HT_ 8 (some 44) ?_
  refine zt HT_ HW_ 1 (some 37) hHeld ?_
  refine zp HT_ 3 (some 39) ?_
  refine zt HT_ HW_ 6 (some 42) hHeld ?_
  refine zp HT_ 7 (some 43) ?_
  refine zp HT_ 9 (some 45) ?_
  refine zu HT_ 4 (some 40) (fun K hK=>?_)
  refine goes_ Tryz.func48 (by kernel_rfl) rfl #[.int .u64 ji20] (by rfl) rfl rfl (by (try simp only [List.map_toArray,List.map_cons,List.map_nil]);first|done|(simp only [hji20];rfl)|rfl|(simp only [List.length_drop,List.length_take];rfl)) ?_
  with_reducible refine (nat_Of.calls k ji20 t272 _ A21.out).mono ?_
  rintro e w33 ⟨v273,rfl,ho0,hb⟩
  refine ⟨_,rfl,?_⟩
  have HO274:=am (Kd.V_lower (Kd.V_mono (ok':=fun k_=>k_≠gb263∧k_≠gb269) ho0 (fun k_ hk_=>⟨(Kd.freshB (g:=gb263) (o := .cells #[.bool false, .bool false, .string (⟨#[]⟩:ByteArray), .int .i64 0] 23 (0,0)) (zK BK263) k_ hk_),(Kd.freshB (g:=gb269) (o := .cells #[.int .i64 t264, .bool t265, .int .i64 t266, .int .u64 t267] 77 (0,0)) (zK BK269) k_ hk_)⟩)) (zS HB))
  replace BK263:=zKb BK263 hb
  replace BK269:=zKb BK269 hb
  replace HB:=zBs HB hb
  (try clear hb)
  (try clear hb2)
  (try clear hk)
  (try clear hi)
  (try clear ho0)
  refine hK.out _ _ ⟨(blk_cell BK269.out 0).trans rfl,(blk_cell BK269.out 1).trans rfl,(blk_cell BK269.out 2).trans rfl,(blk_cell BK269.out 3).trans rfl⟩ (fun hHeld=>?_)
  clear hK K
  refine norm_ (a':=?_) ?_ ?_
  rotate_left
  ·show Act.put _ (some 40) _=_
   simp only [Act.put,List.setIfInBounds_toArray,List.set_cons_zero,List.set_cons_succ,i64_w,i32_w]
   rfl
  refine zp HT_ 10 (some 9) ?_
  refine zp HT_ 11 (some 10) ?_
  refine done_ (done_of HT_.out (by kernel_rfl)) ?_
  obtain ⟨Ao34,co34,eo34⟩:=Kd.V_slice HO274.out
  subst eo34
  try go_wp2_with (first|((with_reducible refine gate_callee (f:=49) rfl ?_);refine zc (some 51) Tryz.func49 #[.slice Ao34 t272.length co34, .int .i64 (wrap64 ((wrap64 (t266 - 63))+t271))] (nat_Shl.calls _ (fun k_=>(k_≠gb263∧k_≠gb269)) _ _ _ _ _ _ _ HO274.out A23.out) ?_;rintro e w35 ⟨v276,rfl,ho0,hb⟩;refine ⟨_,rfl,?_⟩;replace HO274:=zVb HO274 hb;have HO277:=am (Kd.V_lower (Kd.V_mono (ok':=fun k_=>k_≠gb263∧k_≠gb269) ho0 (fun k_ hk_=>⟨Or.elim hk_ (fun hs_=>hs_.1) (fun hn_=>(Kd.freshB (g:=gb263) (o := .cells #[.bool false, .bool false, .string (⟨#[]⟩:ByteArray), .int .i64 0] 23 (0,0)) (zK BK263) k_ hn_)),Or.elim hk_ (fun hs_=>hs_.2) (fun hn_=>(Kd.freshB (g:=gb269) (o := .cells #[.int .i64 t264, .bool t265, .int .i64 t266, .int .u64 t267] 77 (0,0)) (zK BK269) k_ hn_))⟩)) (zS HB));replace BK263:=zKb BK263 hb;replace BK269:=zKb BK269 hb;replace HB:=zBs HB hb;clear hb ho0;(try simp only [errW_none,errW_some])))
  replace HO274:=am (Kd.V_drew HO274.out)
  replace HO277:=am (Kd.V_drew HO277.out)
  replace BK263:=am (blk_drew BK263.out)
  replace BK269:=am (blk_drew BK269.out)
  replace HB:=am (below_drew1 HB.out)
  obtain ⟨Ao37,co37,eo37⟩:=Kd.V_slice HO277.out
  (first|subst eo37|(injection eo37 with f1_ f2_ f3_;have f4_:=f1_.symm;have f5_:=f3_.symm;clear f1_ f2_ f3_;subst f4_;subst f5_))
  refine start_ (n:=10) (S:=fun w'=>w'.cell? ⟨gb269,0,none⟩=some (.int .i64 t264)∧w'.cell? ⟨gb269,1,none⟩=some (.bool t265)∧w'.cell? ⟨gb269,2,none⟩=some (.int .i64 t266)∧w'.cell? ⟨gb269,3,none⟩=some (.int .u64 t267)) (ds := []) (Array.replicate 10 false) (by kernel_rfl) rfl rfl ⟨(blk_cell BK269.out 0).trans rfl,(blk_cell BK269.out 1).trans rfl,(blk_cell BK269.out 2).trans rfl,(blk_cell BK269.out 3).trans rfl⟩ (fun hHeld=>?_);refine with_tabW text_Decimal.tab14 text_Decimal.bits14 (fun HT_ HW_=>?_)
  generalize w35.drew=w36 at HO274 HO277 BK263 BK269 HB hHeld ⊢
  refine zp HT_ 0 (some 58) ?_
  refine zp HT_ 2 (some 60) ?_
  refine zt HT_ HW_ 1 (some 59) hHeld ?_
  refine zu HT_ 3 (some 61) (fun K hK=>?_)
  refine goes_ Tryz.func50 (by kernel_rfl) rfl #[.slice Ao37 t275.length co37] (by rfl) rfl rfl (by (try simp only [List.map_toArray,List.map_cons,List.map_nil]);first|done|rfl|(simp only [List.length_drop,List.length_take];rfl)) ?_
  with_reducible refine (nat_Text.calls k _ _ t275 t280 _ ?side1 ?side2 A24.out).mono ?_
  (case side1=>repeat (first|exact (Kd.V_reads' HO277.out).2.2|(with_reducible refine Kd.C_alloc ?_ _)|(with_reducible refine Kd.C_drewN ?_ _)|(with_reducible refine Kd.C_drew ?_)))
  (case side2=>exact (Kd.V_reads' HO277.out).2.1)
  rintro e w38 ⟨rfl,hb⟩
  refine ⟨_,rfl,?_⟩
  replace HO274:=zVb HO274 hb
  replace HO277:=zVb HO277 hb
  replace BK263:=zKb BK263 hb
  replace BK269:=zKb BK269 hb
  replace HB:=zBs HB hb
  (try clear hb)
  (try clear hb2)
  (try clear hk)
  (try clear hi)
  refine hK.out _ _ ⟨(blk_cell BK269.out 0).trans rfl,(blk_cell BK269.out 1).trans rfl,(blk_cell BK269.out 2).trans rfl,(blk_cell BK269.out 3).trans rfl⟩ (fun hHeld=>?_)
  clear hK K
  refine norm_ (a':=?_) ?_ ?_
  rotate_left
  ·show Act.put _ (some 61) _=_
   simp only [Act.put,List.setIfInBounds_toArray,List.set_cons_zero,List.set_cons_succ,i64_w,i32_w]
   rfl
  refine zp HT_ 4 (some 62) ?_
  refine zu HT_ 5 (some 63) (fun K hK=>?_)
  refine goes_ Tryz.func26 (by kernel_rfl) rfl #[.agg #[.bool false, .bool t265, .string t280, .int .i64 0]] (by rfl) rfl rfl (by (try simp only [List.map_toArray,List.map_cons,List.map_nil]);first|done|rfl|(simp only [List.length_drop,List.length_take];rfl)) ?_
  with_reducible refine (scan_Norm.calls false t265 t280 0 t281 t282 t283 t284 t285 _ A25.out).mono ?_
  rintro e w39 ⟨rfl,hb⟩
  refine ⟨_,rfl,?_⟩
  replace HO274:=zVb HO274 hb
  replace HO277:=zVb HO277 hb
  replace BK263:=zKb BK263 hb
  replace BK269:=zKb BK269 hb
  replace HB:=zBs HB hb
  (try clear hb)
  (try clear hb2)
  (try clear hk)
  (try clear hi)
  (try simp only [errW_none,errW_some])
  refine hK.out _ _ ⟨(blk_cell BK269.out 0).trans rfl,(blk_cell BK269.out 1).trans rfl,(blk_cell BK269.out 2).trans rfl,(blk_cell BK269.out 3).trans rfl⟩ (fun hHeld=>?_)
  clear hK K
  refine norm_ (a':=?_) ?_ ?_
  rotate_left
  ·show Act.put _ (some 63) _=_
   simp only [Act.put,List.setIfInBounds_toArray,List.set_cons_zero,List.set_cons_succ,i64_w,i32_w]
   rfl
  refine zp HT_ 6 (some 64) ?_
  refine zp HT_ 7 (some 65) ?_
  refine zu HT_ 8 none (fun K hK=>?_)
  have hs40:=zl BK263 0
  have hfs40:=blk_frozen BK263.out 0
  have hns40_1:=NB269_263.out
  have hms40_1:=NB263_269.out
  have hs41:=zl BK263 1
  have hfs41:=blk_frozen BK263.out 1
  have hns41_1:=NB269_263.out
  have hms41_1:=NB263_269.out
  have hs42:=zl BK263 2
  have hfs42:=blk_frozen BK263.out 2
  have hns42_1:=NB269_263.out
  have hms42_1:=NB263_269.out
  have hs43:=zl BK263 3
  have hfs43:=blk_frozen BK263.out 3
  have hns43_1:=NB269_263.out
  have hms43_1:=NB263_269.out
  refine skip_ (w1:=?_) (by rfl) rfl ?_ ?_
  rotate_left
  ·go_simp
   rfl
  refine hK.out _ _ ⟨(zh hHeld),(zh hHeld),(zh hHeld),(zh hHeld)⟩ (fun hHeld=>?_)
  clear hK K
  refine zp HT_ 9 (some 5) ?_
  refine done_ (done_of HT_.out (by kernel_rfl)) ?_
  try go_wp2
  refine bodyPost_ret (results_ct rfl _ _ gb263 23 #[.bool t281, .bool t282, .string t283, .int .i64 t284] (0,0) _ rfl (zKp BK263) Tryz.underlying23 rfl (by kernel_rfl)) rfl ?_
  exact ⟨by first|exact z3|(simp only [← hji20];exact z3)|exact z2,zB HB⟩
 ·generalize w31.drew=w50 at BK263 BK269 HB hHeld ⊢
  refine zp HT_ 0 (some 36) ?_
  refine zp HT_ 2 (some 38) ?_
  refine zp HT_ 5 (some 41) ?_
  refine zp HT_ 8 (some 44) ?_
  refine zt HT_ HW_ 1 (some 37) hHeld ?_
  refine zp HT_ 3 (some 39) ?_
  refine zt HT_ HW_ 6 (some 42) hHeld ?_
  refine zp HT_ 7 (some 43) ?_
  refine zp HT_ 9 (some 45) ?_
  refine zu HT_ 4 (some 40) (fun K hK=>?_)
  refine goes_ Tryz.func48 (by kernel_rfl) rfl #[.int .u64 ji20] (by rfl) rfl rfl (by (try simp only [List.map_toArray,List.map_cons,List.map_nil]);first|done|(simp only [hji20];rfl)|rfl|(simp only [List.length_drop,List.length_take];rfl)) ?_
  with_reducible refine (nat_Of.calls k ji20 t272 _ A21.out).mono ?_
  rintro e w51 ⟨v273,rfl,ho0,hb⟩
  refine ⟨_,rfl,?_⟩
  have HO274:=am (Kd.V_lower (Kd.V_mono (ok':=fun k_=>k_≠gb263∧k_≠gb269) ho0 (fun k_ hk_=>⟨(Kd.freshB (g:=gb263) (o := .cells #[.bool false, .bool false, .string (⟨#[]⟩:ByteArray), .int .i64 0] 23 (0,0)) (zK BK263) k_ hk_),(Kd.freshB (g:=gb269) (o := .cells #[.int .i64 t264, .bool t265, .int .i64 t266, .int .u64 t267] 77 (0,0)) (zK BK269) k_ hk_)⟩)) (zS HB))
  replace BK263:=zKb BK263 hb
  replace BK269:=zKb BK269 hb
  replace HB:=zBs HB hb
  (try clear hb)
  (try clear hb2)
  (try clear hk)
  (try clear hi)
  (try clear ho0)
  refine hK.out _ _ ⟨(blk_cell BK269.out 0).trans rfl,(blk_cell BK269.out 1).trans rfl,(blk_cell BK269.out 2).trans rfl,(blk_cell BK269.out 3).trans rfl⟩ (fun hHeld=>?_)
  clear hK K
  refine norm_ (a':=?_) ?_ ?_
  rotate_left
  ·show Act.put _ (some 40) _=_
   simp only [Act.put,List.setIfInBounds_toArray,List.set_cons_zero,List.set_cons_succ,i64_w,i32_w]
   rfl
  refine zp HT_ 10 (some 9) ?_
  refine zp HT_ 11 (some 10) ?_
  refine done_ (done_of HT_.out (by kernel_rfl)) ?_
  obtain ⟨Ao52,co52,eo52⟩:=Kd.V_slice HO274.out
  subst eo52
  try go_wp2_with (first|((with_reducible refine gate_callee (f:=49) rfl ?_);refine zc (some 51) Tryz.func49 #[.slice Ao52 t272.length co52, .int .i64 (wrap64 ((wrap64 (t266 - 63))+t271))] (nat_Shl.calls _ (fun k_=>(k_≠gb263∧k_≠gb269)) _ _ _ _ _ _ _ HO274.out A23.out) ?_;rintro e w53 ⟨v276,rfl,ho0,hb⟩;refine ⟨_,rfl,?_⟩;replace HO274:=zVb HO274 hb;have HO277:=am (Kd.V_lower (Kd.V_mono (ok':=fun k_=>k_≠gb263∧k_≠gb269) ho0 (fun k_ hk_=>⟨Or.elim hk_ (fun hs_=>hs_.1) (fun hn_=>(Kd.freshB (g:=gb263) (o := .cells #[.bool false, .bool false, .string (⟨#[]⟩:ByteArray), .int .i64 0] 23 (0,0)) (zK BK263) k_ hn_)),Or.elim hk_ (fun hs_=>hs_.2) (fun hn_=>(Kd.freshB (g:=gb269) (o := .cells #[.int .i64 t264, .bool t265, .int .i64 t266, .int .u64 t267] 77 (0,0)) (zK BK269) k_ hn_))⟩)) (zS HB));replace BK263:=zKb BK263 hb;replace BK269:=zKb BK269 hb;replace HB:=zBs HB hb;clear hb ho0;(try simp only [errW_none,errW_some]);obtain ⟨_,_,_,_,_,_,_,_⟩:=zf4 BK263))
  refine bodyPost_ret (results_ct rfl _ _ gb263 23 #[.bool false, .bool false, .string (⟨#[]⟩:ByteArray), .int .i64 0] (0,0) _ rfl (zKp BK263) Tryz.underlying23 rfl (by kernel_rfl)) rfl ?_
  exact ⟨by first|exact z3|(simp only [← hji20];exact z3)|exact z2,zB HB⟩
 ·generalize w31.drew=w66 at BK263 BK269 HB hHeld ⊢
  refine zp HT_ 0 (some 36) ?_
  refine zp HT_ 2 (some 38) ?_
  refine zp HT_ 5 (some 41) ?_
  refine zp HT_ 8 (some 44) ?_
  refine zt HT_ HW_ 1 (some 37) hHeld ?_
  refine zp HT_ 3 (some 39) ?_
  refine zt HT_ HW_ 6 (some 42) hHeld ?_
  refine zp HT_ 7 (some 43) ?_
  refine zp HT_ 9 (some 45) ?_
  refine zu HT_ 4 (some 40) (fun K hK=>?_)
  refine goes_ Tryz.func48 (by kernel_rfl) rfl #[.int .u64 ji20] (by rfl) rfl rfl (by (try simp only [List.map_toArray,List.map_cons,List.map_nil]);first|done|(simp only [hji20];rfl)|rfl|(simp only [List.length_drop,List.length_take];rfl)) ?_
  with_reducible refine (nat_Of.calls k ji20 t272 _ A21.out).mono ?_
  rintro e w67 ⟨v273,rfl,ho0,hb⟩
  refine ⟨_,rfl,?_⟩
  have HO274:=am (Kd.V_lower (Kd.V_mono (ok':=fun k_=>k_≠gb263∧k_≠gb269) ho0 (fun k_ hk_=>⟨(Kd.freshB (g:=gb263) (o := .cells #[.bool false, .bool false, .string (⟨#[]⟩:ByteArray), .int .i64 0] 23 (0,0)) (zK BK263) k_ hk_),(Kd.freshB (g:=gb269) (o := .cells #[.int .i64 t264, .bool t265, .int .i64 t266, .int .u64 t267] 77 (0,0)) (zK BK269) k_ hk_)⟩)) (zS HB))
  replace BK263:=zKb BK263 hb
  replace BK269:=zKb BK269 hb
  replace HB:=zBs HB hb
  (try clear hb)
  (try clear hb2)
  (try clear hk)
  (try clear hi)
  (try clear ho0)
  refine hK.out _ _ ⟨(blk_cell BK269.out 0).trans rfl,(blk_cell BK269.out 1).trans rfl,(blk_cell BK269.out 2).trans rfl,(blk_cell BK269.out 3).trans rfl⟩ (fun hHeld=>?_)
  clear hK K
  refine norm_ (a':=?_) ?_ ?_
  rotate_left
  ·show Act.put _ (some 40) _=_
   simp only [Act.put,List.setIfInBounds_toArray,List.set_cons_zero,List.set_cons_succ,i64_w,i32_w]
   rfl
  refine zp HT_ 10 (some 9) ?_
  refine zp HT_ 11 (some 10) ?_
  refine done_ (done_of HT_.out (by kernel_rfl)) ?_
  try go_wp2_with (first|((with_reducible refine gate_callee (f:=51) rfl ?_);refine zc (some 69) Tryz.func51 _ (nat_Ten.calls _ _ _ _ _ A55.out) ?_;rintro e w68 ⟨v287,rfl,ho0,hb⟩;refine ⟨_,rfl,?_⟩;replace HO274:=zVb HO274 hb;have HO288:=am (Kd.V_lower (Kd.V_mono (ok':=fun k_=>k_≠gb263∧k_≠gb269) ho0 (fun k_ hk_=>⟨(Kd.freshB (g:=gb263) (o := .cells #[.bool false, .bool false, .string (⟨#[]⟩:ByteArray), .int .i64 0] 23 (0,0)) (zK BK263) k_ hk_),(Kd.freshB (g:=gb269) (o := .cells #[.int .i64 t264, .bool t265, .int .i64 t266, .int .u64 t267] 77 (0,0)) (zK BK269) k_ hk_)⟩)) (zS HB));replace BK263:=zKb BK263 hb;replace BK269:=zKb BK269 hb;replace HB:=zBs HB hb;clear hb ho0;(try simp only [errW_none,errW_some]);obtain ⟨Ao69,co69,eo69⟩:=Kd.V_slice HO274.out;subst eo69;obtain ⟨Ao70,co70,eo70⟩:=Kd.V_slice HO288.out;subst eo70)|((with_reducible refine gate_dst (N:=79) rfl ?_);refine Kd.N_lit (Kd.slice 25 (Kd.int .u64)) _ 88 ?hg (N':=79) ?hd (xs:=([t272,t286]:List (List Int))) (inner := [.slice Ao69 t272.length co69, .slice Ao70 t286.length co70]) (ok:=(fun k_=>k_≠gb263∧k_≠gb269)) (okp:=(fun k_=>k_≠gb263∧k_≠gb269)) ?hr ?hp (fun _ hk=>hk) ((show ∀ k_,w68.heap.size≤k_→(fun k_=>k_≠gb263∧k_≠gb269) k_ from fun k_ hk=>⟨Kd.freshB (g:=gb263) (o := .cells #[.bool false, .bool false, .string (⟨#[]⟩:ByteArray), .int .i64 0] 23 (0,0)) (zK BK263) k_ hk,Kd.freshB (g:=gb269) (o := .cells #[.int .i64 t264, .bool t265, .int .i64 t266, .int .u64 t267] 77 (0,0)) (zK BK269) k_ hk⟩) _ (Nat.le_refl _)) (Below.refl _ _) (Nat.le_refl _) (by simp) ?_;(case hd=>rfl);(case hg=>rfl);(case hr=>first|(go_simp;done)|(go_simp;rfl));(case hp=>exact (Reps.one (show Kd.FK (Kd.slice 25 (Kd.int .u64)) _ _ t272 [.slice Ao69 t272.length co69] from (Kd.FK_slice_mk (Kd.V_reads' (Kd.V_mono (ok':=(fun k_=>k_≠gb263∧k_≠gb269)) (HO274.out) (fun k_ hk=>⟨hk.1,hk.2⟩))).2.1 (Kd.V_F (Kd.V_mono (ok':=(fun k_=>k_≠gb263∧k_≠gb269)) (HO274.out) (fun k_ hk=>⟨hk.1,hk.2⟩))))) (Reps.one (show Kd.FK (Kd.slice 25 (Kd.int .u64)) _ _ t286 [.slice Ao70 t286.length co70] from (Kd.FK_slice_mk (Kd.V_reads' (Kd.V_mono (ok':=(fun k_=>k_≠gb263∧k_≠gb269)) (HO288.out) (fun k_ hk=>⟨hk.1,hk.2⟩))).2.1 (Kd.V_F (Kd.V_mono (ok':=(fun k_=>k_≠gb263∧k_≠gb269)) (HO288.out) (fun k_ hk=>⟨hk.1,hk.2⟩))))) (Reps.none _ _))));intro v292 w71 ho72 hb hg_ hnew_;clear hg_ hnew_;(first|rw [← Ny291.out] at ho72|(simp only [Int.reduceToNat] at ho72;rw [← Ny291.out] at ho72));replace HO274:=am (Kd.V_elder' (zV HO274) (Kd.N_base ho72) hb);replace HO288:=am (Kd.V_elder' (zV HO288) (Kd.N_base ho72) hb);have HO293:=am (Kd.N_lower ho72 (zS HB));replace BK263:=zKb BK263 hb;replace BK269:=zKb BK269 hb;replace HB:=zBs HB hb;clear hb ho72;obtain ⟨Ao73,co73,eo73⟩:=Kd.N_slice HO293.out;subst eo73)|((with_reducible refine gate_callee (f:=53) rfl ?_);refine zc (some 80) Tryz.func53 #[.slice Ao73 y291.length co73] (nat_Mul.calls _ (fun k_=>(k_≠gb263∧k_≠gb269)) _ _ _ _ _ (Kd.N_V (HO293.out)) A56.out) ?_;rintro e w74 ⟨v295,rfl,ho0,hb⟩;refine ⟨_,rfl,?_⟩;replace HO274:=zVb HO274 hb;replace HO288:=zVb HO288 hb;replace HO293:=am (Kd.N_below (by (with_reducible repeat (first|apply Kd.N_alloc|apply Kd.N_drewN|apply Kd.N_drew));exact HO293.out) hb);have HO296:=am (Kd.V_lower (Kd.V_mono (ok':=fun k_=>k_≠gb263∧k_≠gb269) ho0 (fun k_ hk_=>⟨Or.elim hk_ (fun hs_=>hs_.1) (fun hn_=>(Kd.freshB (g:=gb263) (o := .cells #[.bool false, .bool false, .string (⟨#[]⟩:ByteArray), .int .i64 0] 23 (0,0)) (zK BK263) k_ hn_)),Or.elim hk_ (fun hs_=>hs_.2) (fun hn_=>(Kd.freshB (g:=gb269) (o := .cells #[.int .i64 t264, .bool t265, .int .i64 t266, .int .u64 t267] 77 (0,0)) (zK BK269) k_ hn_))⟩)) (zS HB));replace BK263:=zKb BK263 hb;replace BK269:=zKb BK269 hb;replace HB:=zBs HB hb;clear hb ho0;obtain ⟨Ao75,co75,eo75⟩:=Kd.V_slice HO296.out;subst eo75)|((with_reducible refine gate_callee (f:=52) rfl ?_);refine zc (some 83) Tryz.func52 #[.slice Ao75 t294.length co75, .int .i64 (wrap64 (-(wrap64 ((wrap64 (t266 - 63))+t271))))] (nat_Shr.calls _ (fun k_=>(k_≠gb263∧k_≠gb269)) _ _ _ _ _ _ _ _ HO296.out A57.out) ?_;rintro e w76 ⟨v298,rfl,ho0,hb⟩;refine ⟨_,rfl,?_⟩;replace HO274:=zVb HO274 hb;replace HO288:=zVb HO288 hb;replace HO293:=am (Kd.N_below (by (with_reducible repeat (first|apply Kd.N_alloc|apply Kd.N_drewN|apply Kd.N_drew));exact HO293.out) hb);replace HO296:=zVb HO296 hb;have HO299:=am (Kd.V_lower (Kd.V_mono (ok':=fun k_=>k_≠gb263∧k_≠gb269) ho0 (fun k_ hk_=>⟨Or.elim hk_ (fun hs_=>hs_.1) (fun hn_=>(Kd.freshB (g:=gb263) (o := .cells #[.bool false, .bool false, .string (⟨#[]⟩:ByteArray), .int .i64 0] 23 (0,0)) (zK BK263) k_ hn_)),Or.elim hk_ (fun hs_=>hs_.2) (fun hn_=>(Kd.freshB (g:=gb269) (o := .cells #[.int .i64 t264, .bool t265, .int .i64 t266, .int .u64 t267] 77 (0,0)) (zK BK269) k_ hn_))⟩)) (zS HB));replace BK263:=zKb BK263 hb;replace BK269:=zKb BK269 hb;replace HB:=zBs HB hb;clear hb ho0;(try simp only [errW_none,errW_some])))
  replace HO274:=am (Kd.V_drew HO274.out)
  replace HO288:=am (Kd.V_drew HO288.out)
  replace HO293:=am (Kd.N_drew HO293.out)
  replace HO296:=am (Kd.V_drew HO296.out)
  replace HO299:=am (Kd.V_drew HO299.out)
  replace BK263:=am (blk_drew BK263.out)
  replace BK269:=am (blk_drew BK269.out)
  replace HB:=am (below_drew1 HB.out)
  obtain ⟨Ao78,co78,eo78⟩:=Kd.V_slice HO299.out
  (first|subst eo78|(injection eo78 with f1_ f2_ f3_;have f4_:=f1_.symm;have f5_:=f3_.symm;clear f1_ f2_ f3_;subst f4_;subst f5_))
  refine start_ (n:=11) (S:=fun w'=>w'.cell? ⟨gb269,0,none⟩=some (.int .i64 t264)∧w'.cell? ⟨gb269,1,none⟩=some (.bool t265)∧w'.cell? ⟨gb269,2,none⟩=some (.int .i64 t266)∧w'.cell? ⟨gb269,3,none⟩=some (.int .u64 t267)) (ds := []) (Array.replicate 11 false) (by kernel_rfl) rfl rfl ⟨(blk_cell BK269.out 0).trans rfl,(blk_cell BK269.out 1).trans rfl,(blk_cell BK269.out 2).trans rfl,(blk_cell BK269.out 3).trans rfl⟩ (fun hHeld=>?_);refine with_tabW text_Decimal.tab21 text_Decimal.bits21 (fun HT_ HW_=>?_)
  generalize w76.drew=w77 at HO274 HO288 HO293 HO296 HO299 BK263 BK269 HB hHeld ⊢
  refine zp HT_ 0 (some 91) ?_
  refine zp HT_ 2 (some 93) ?_
  refine zp HT_ 4 (some 95) ?_
  refine zt HT_ HW_ 1 (some 92) hHeld ?_
  refine zu HT_ 3 (some 94) (fun K hK=>?_)
  refine goes_ Tryz.func50 (by kernel_rfl) rfl #[.slice Ao78 t297.length co78] (by rfl) rfl rfl (by (try simp only [List.map_toArray,List.map_cons,List.map_nil]);first|done|rfl|(simp only [List.length_drop,List.length_take];rfl)) ?_
  with_reducible refine (nat_Text.calls k _ _ t297 t303 _ ?side1 ?side2 A58.out).mono ?_
  (case side1=>repeat (first|exact (Kd.V_reads' HO299.out).2.2|(with_reducible refine Kd.C_alloc ?_ _)|(with_reducible refine Kd.C_drewN ?_ _)|(with_reducible refine Kd.C_drew ?_)))
  (case side2=>exact (Kd.V_reads' HO299.out).2.1)
  rintro e w79 ⟨rfl,hb⟩
  refine ⟨_,rfl,?_⟩
  replace HO274:=zVb HO274 hb
  replace HO288:=zVb HO288 hb
  replace HO293:=am (Kd.N_below (by (with_reducible repeat (first|apply Kd.N_alloc|apply Kd.N_drewN|apply Kd.N_drew));exact HO293.out) hb)
  replace HO296:=zVb HO296 hb
  replace HO299:=zVb HO299 hb
  replace BK263:=zKb BK263 hb
  replace BK269:=zKb BK269 hb
  replace HB:=zBs HB hb
  (try clear hb)
  (try clear hb2)
  (try clear hk)
  (try clear hi)
  refine hK.out _ _ ⟨(blk_cell BK269.out 0).trans rfl,(blk_cell BK269.out 1).trans rfl,(blk_cell BK269.out 2).trans rfl,(blk_cell BK269.out 3).trans rfl⟩ (fun hHeld=>?_)
  clear hK K
  refine norm_ (a':=?_) ?_ ?_
  rotate_left
  ·show Act.put _ (some 94) _=_
   simp only [Act.put,List.setIfInBounds_toArray,List.set_cons_zero,List.set_cons_succ,i64_w,i32_w]
   rfl
  refine zp HT_ 5 (some 96) ?_
  refine zu HT_ 6 (some 97) (fun K hK=>?_)
  refine goes_ Tryz.func26 (by kernel_rfl) rfl #[.agg #[.bool false, .bool t265, .string t303, .int .i64 (wrap64 ((wrap64 (t266 - 63))+t271))]] (by rfl) rfl rfl (by (try simp only [List.map_toArray,List.map_cons,List.map_nil]);first|done|rfl|(simp only [List.length_drop,List.length_take];rfl)) ?_
  with_reducible refine (scan_Norm.calls false t265 t303 (wrap64 ((wrap64 (t266 - 63))+t271)) t304 t305 t306 t307 t308 _ A59.out).mono ?_
  rintro e w80 ⟨rfl,hb⟩
  refine ⟨_,rfl,?_⟩
  replace HO274:=zVb HO274 hb
  replace HO288:=zVb HO288 hb
  replace HO293:=am (Kd.N_below (by (with_reducible repeat (first|apply Kd.N_alloc|apply Kd.N_drewN|apply Kd.N_drew));exact HO293.out) hb)
  replace HO296:=zVb HO296 hb
  replace HO299:=zVb HO299 hb
  replace BK263:=zKb BK263 hb
  replace BK269:=zKb BK269 hb
  replace HB:=zBs HB hb
  (try clear hb)
  (try clear hb2)
  (try clear hk)
  (try clear hi)
  (try simp only [errW_none,errW_some])
  refine hK.out _ _ ⟨(blk_cell BK269.out 0).trans rfl,(blk_cell BK269.out 1).trans rfl,(blk_cell BK269.out 2).trans rfl,(blk_cell BK269.out 3).trans rfl⟩ (fun hHeld=>?_)
  clear hK K
  refine norm_ (a':=?_) ?_ ?_
  rotate_left
  ·show Act.put _ (some 97) _=_
   simp only [Act.put,List.setIfInBounds_toArray,List.set_cons_zero,List.set_cons_succ,i64_w,i32_w]
   rfl
  refine zp HT_ 7 (some 98) ?_
  refine zp HT_ 8 (some 99) ?_
  refine zu HT_ 9 none (fun K hK=>?_)
  have hs81:=zl BK263 0
  have hfs81:=blk_frozen BK263.out 0
  have hns81_1:=NB269_263.out
  have hms81_1:=NB263_269.out
  have hs82:=zl BK263 1
  have hfs82:=blk_frozen BK263.out 1
  have hns82_1:=NB269_263.out
  have hms82_1:=NB263_269.out
  have hs83:=zl BK263 2
  have hfs83:=blk_frozen BK263.out 2
  have hns83_1:=NB269_263.out
  have hms83_1:=NB263_269.out
  have hs84:=zl BK263 3
  have hfs84:=blk_frozen BK263.out 3
  have hns84_1:=NB269_263.out
  have hms84_1:=NB263_269.out
  refine skip_ (w1:=?_) (by rfl) rfl ?_ ?_
  rotate_left
  ·go_simp
   rfl
  refine hK.out _ _ ⟨(zh hHeld),(zh hHeld),(zh hHeld),(zh hHeld)⟩ (fun hHeld=>?_)
  clear hK K
  refine zp HT_ 10 (some 5) ?_
  refine done_ (done_of HT_.out (by kernel_rfl)) ?_
  try go_wp2
  refine bodyPost_ret (results_ct rfl _ _ gb263 23 #[.bool t304, .bool t305, .string t306, .int .i64 t307] (0,0) _ rfl (zKp BK263) Tryz.underlying23 rfl (by kernel_rfl)) rfl ?_
  exact ⟨by first|exact z3|(simp only [← hji20];exact z3)|exact z2,zB HB⟩
 ·generalize w31.drew=w91 at BK263 BK269 HB hHeld ⊢
  refine zp HT_ 0 (some 36) ?_
  refine zp HT_ 2 (some 38) ?_
  refine zp HT_ 5 (some 41) ?_
  refine zp HT_ 8 (some 44) ?_
  refine zt HT_ HW_ 1 (some 37) hHeld ?_
  refine zp HT_ 3 (some 39) ?_
  refine zt HT_ HW_ 6 (some 42) hHeld ?_
  refine zp HT_ 7 (some 43) ?_
  refine zp HT_ 9 (some 45) ?_
  refine zu HT_ 4 (some 40) (fun K hK=>?_)
  refine goes_ Tryz.func48 (by kernel_rfl) rfl #[.int .u64 ji20] (by rfl) rfl rfl (by (try simp only [List.map_toArray,List.map_cons,List.map_nil]);first|done|(simp only [hji20];rfl)|rfl|(simp only [List.length_drop,List.length_take];rfl)) ?_
  with_reducible refine (nat_Of.calls k ji20 t272 _ A21.out).mono ?_
  rintro e w92 ⟨v273,rfl,ho0,hb⟩
  refine ⟨_,rfl,?_⟩
  have HO274:=am (Kd.V_lower (Kd.V_mono (ok':=fun k_=>k_≠gb263∧k_≠gb269) ho0 (fun k_ hk_=>⟨(Kd.freshB (g:=gb263) (o := .cells #[.bool false, .bool false, .string (⟨#[]⟩:ByteArray), .int .i64 0] 23 (0,0)) (zK BK263) k_ hk_),(Kd.freshB (g:=gb269) (o := .cells #[.int .i64 t264, .bool t265, .int .i64 t266, .int .u64 t267] 77 (0,0)) (zK BK269) k_ hk_)⟩)) (zS HB))
  replace BK263:=zKb BK263 hb
  replace BK269:=zKb BK269 hb
  replace HB:=zBs HB hb
  (try clear hb)
  (try clear hb2)
  (try clear hk)
  (try clear hi)
  (try clear ho0)
  refine hK.out _ _ ⟨(blk_cell BK269.out 0).trans rfl,(blk_cell BK269.out 1).trans rfl,(blk_cell BK269.out 2).trans rfl,(blk_cell BK269.out 3).trans rfl⟩ (fun hHeld=>?_)
  clear hK K
  refine norm_ (a':=?_) ?_ ?_
  rotate_left
  ·show Act.put _ (some 40) _=_
   simp only [Act.put,List.setIfInBounds_toArray,List.set_cons_zero,List.set_cons_succ,i64_w,i32_w]
   rfl
  refine zp HT_ 10 (some 9) ?_
  refine zp HT_ 11 (some 10) ?_
  refine done_ (done_of HT_.out (by kernel_rfl)) ?_
  try go_wp2_with (first|((with_reducible refine gate_callee (f:=51) rfl ?_);refine zc (some 69) Tryz.func51 _ (nat_Ten.calls _ _ _ _ _ A55.out) ?_;rintro e w93 ⟨v287,rfl,ho0,hb⟩;refine ⟨_,rfl,?_⟩;replace HO274:=zVb HO274 hb;have HO288:=am (Kd.V_lower (Kd.V_mono (ok':=fun k_=>k_≠gb263∧k_≠gb269) ho0 (fun k_ hk_=>⟨(Kd.freshB (g:=gb263) (o := .cells #[.bool false, .bool false, .string (⟨#[]⟩:ByteArray), .int .i64 0] 23 (0,0)) (zK BK263) k_ hk_),(Kd.freshB (g:=gb269) (o := .cells #[.int .i64 t264, .bool t265, .int .i64 t266, .int .u64 t267] 77 (0,0)) (zK BK269) k_ hk_)⟩)) (zS HB));replace BK263:=zKb BK263 hb;replace BK269:=zKb BK269 hb;replace HB:=zBs HB hb;clear hb ho0;(try simp only [errW_none,errW_some]);obtain ⟨Ao94,co94,eo94⟩:=Kd.V_slice HO274.out;subst eo94;obtain ⟨Ao95,co95,eo95⟩:=Kd.V_slice HO288.out;subst eo95)|((with_reducible refine gate_dst (N:=79) rfl ?_);refine Kd.N_lit (Kd.slice 25 (Kd.int .u64)) _ 88 ?hg (N':=79) ?hd (xs:=([t272,t286]:List (List Int))) (inner := [.slice Ao94 t272.length co94, .slice Ao95 t286.length co95]) (ok:=(fun k_=>k_≠gb263∧k_≠gb269)) (okp:=(fun k_=>k_≠gb263∧k_≠gb269)) ?hr ?hp (fun _ hk=>hk) ((show ∀ k_,w93.heap.size≤k_→(fun k_=>k_≠gb263∧k_≠gb269) k_ from fun k_ hk=>⟨Kd.freshB (g:=gb263) (o := .cells #[.bool false, .bool false, .string (⟨#[]⟩:ByteArray), .int .i64 0] 23 (0,0)) (zK BK263) k_ hk,Kd.freshB (g:=gb269) (o := .cells #[.int .i64 t264, .bool t265, .int .i64 t266, .int .u64 t267] 77 (0,0)) (zK BK269) k_ hk⟩) _ (Nat.le_refl _)) (Below.refl _ _) (Nat.le_refl _) (by simp) ?_;(case hd=>rfl);(case hg=>rfl);(case hr=>first|(go_simp;done)|(go_simp;rfl));(case hp=>exact (Reps.one (show Kd.FK (Kd.slice 25 (Kd.int .u64)) _ _ t272 [.slice Ao94 t272.length co94] from (Kd.FK_slice_mk (Kd.V_reads' (Kd.V_mono (ok':=(fun k_=>k_≠gb263∧k_≠gb269)) (HO274.out) (fun k_ hk=>⟨hk.1,hk.2⟩))).2.1 (Kd.V_F (Kd.V_mono (ok':=(fun k_=>k_≠gb263∧k_≠gb269)) (HO274.out) (fun k_ hk=>⟨hk.1,hk.2⟩))))) (Reps.one (show Kd.FK (Kd.slice 25 (Kd.int .u64)) _ _ t286 [.slice Ao95 t286.length co95] from (Kd.FK_slice_mk (Kd.V_reads' (Kd.V_mono (ok':=(fun k_=>k_≠gb263∧k_≠gb269)) (HO288.out) (fun k_ hk=>⟨hk.1,hk.2⟩))).2.1 (Kd.V_F (Kd.V_mono (ok':=(fun k_=>k_≠gb263∧k_≠gb269)) (HO288.out) (fun k_ hk=>⟨hk.1,hk.2⟩))))) (Reps.none _ _))));intro v292 w96 ho97 hb hg_ hnew_;clear hg_ hnew_;(first|rw [← Ny291.out] at ho97|(simp only [Int.reduceToNat] at ho97;rw [← Ny291.out] at ho97));replace HO274:=am (Kd.V_elder' (zV HO274) (Kd.N_base ho97) hb);replace HO288:=am (Kd.V_elder' (zV HO288) (Kd.N_base ho97) hb);have HO293:=am (Kd.N_lower ho97 (zS HB));replace BK263:=zKb BK263 hb;replace BK269:=zKb BK269 hb;replace HB:=zBs HB hb;clear hb ho97;obtain ⟨Ao98,co98,eo98⟩:=Kd.N_slice HO293.out;subst eo98)|((with_reducible refine gate_callee (f:=53) rfl ?_);refine zc (some 80) Tryz.func53 #[.slice Ao98 y291.length co98] (nat_Mul.calls _ (fun k_=>(k_≠gb263∧k_≠gb269)) _ _ _ _ _ (Kd.N_V (HO293.out)) A56.out) ?_;rintro e w99 ⟨v295,rfl,ho0,hb⟩;refine ⟨_,rfl,?_⟩;replace HO274:=zVb HO274 hb;replace HO288:=zVb HO288 hb;replace HO293:=am (Kd.N_below (by (with_reducible repeat (first|apply Kd.N_alloc|apply Kd.N_drewN|apply Kd.N_drew));exact HO293.out) hb);have HO296:=am (Kd.V_lower (Kd.V_mono (ok':=fun k_=>k_≠gb263∧k_≠gb269) ho0 (fun k_ hk_=>⟨Or.elim hk_ (fun hs_=>hs_.1) (fun hn_=>(Kd.freshB (g:=gb263) (o := .cells #[.bool false, .bool false, .string (⟨#[]⟩:ByteArray), .int .i64 0] 23 (0,0)) (zK BK263) k_ hn_)),Or.elim hk_ (fun hs_=>hs_.2) (fun hn_=>(Kd.freshB (g:=gb269) (o := .cells #[.int .i64 t264, .bool t265, .int .i64 t266, .int .u64 t267] 77 (0,0)) (zK BK269) k_ hn_))⟩)) (zS HB));replace BK263:=zKb BK263 hb;replace BK269:=zKb BK269 hb;replace HB:=zBs HB hb;clear hb ho0;obtain ⟨Ao100,co100,eo100⟩:=Kd.V_slice HO296.out;subst eo100)|((with_reducible refine gate_callee (f:=52) rfl ?_);refine zc (some 83) Tryz.func52 #[.slice Ao100 t294.length co100, .int .i64 (wrap64 (-(wrap64 ((wrap64 (t266 - 63))+t271))))] (nat_Shr.calls _ (fun k_=>(k_≠gb263∧k_≠gb269)) _ _ _ _ _ _ _ _ HO296.out A57.out) ?_;rintro e w101 ⟨v298,rfl,ho0,hb⟩;refine ⟨_,rfl,?_⟩;replace HO274:=zVb HO274 hb;replace HO288:=zVb HO288 hb;replace HO293:=am (Kd.N_below (by (with_reducible repeat (first|apply Kd.N_alloc|apply Kd.N_drewN|apply Kd.N_drew));exact HO293.out) hb);replace HO296:=zVb HO296 hb;have HO299:=am (Kd.V_lower (Kd.V_mono (ok':=fun k_=>k_≠gb263∧k_≠gb269) ho0 (fun k_ hk_=>⟨Or.elim hk_ (fun hs_=>hs_.1) (fun hn_=>(Kd.freshB (g:=gb263) (o := .cells #[.bool false, .bool false, .string (⟨#[]⟩:ByteArray), .int .i64 0] 23 (0,0)) (zK BK263) k_ hn_)),Or.elim hk_ (fun hs_=>hs_.2) (fun hn_=>(Kd.freshB (g:=gb269) (o := .cells #[.int .i64 t264, .bool t265, .int .i64 t266, .int .u64 t267] 77 (0,0)) (zK BK269) k_ hn_))⟩)) (zS HB));replace BK263:=zKb BK263 hb;replace BK269:=zKb BK269 hb;replace HB:=zBs HB hb;clear hb ho0;(try simp only [errW_none,errW_some]);obtain ⟨_,_,_,_,_,_,_,_⟩:=zf4 BK263))
  refine bodyPost_ret (results_ct rfl _ _ gb263 23 #[.bool false, .bool false, .string (⟨#[]⟩:ByteArray), .int .i64 0] (0,0) _ rfl (zKp BK263) Tryz.underlying23 rfl (by kernel_rfl)) rfl ?_
  exact ⟨by first|exact z3|(simp only [← hji20];exact z3)|exact z2,zB HB⟩
 generalize w31.drew=w109 at BK263 BK269 HB hHeld ⊢
 refine zp HT_ 0 (some 36) ?_
 refine zp HT_ 2 (some 38) ?_
 refine zp HT_ 5 (some 41) ?_
 refine zp HT_ 8 (some 44) ?_
 refine zt HT_ HW_ 1 (some 37) hHeld ?_
 refine zp HT_ 3 (some 39) ?_
 refine zt HT_ HW_ 6 (some 42) hHeld ?_
 refine zp HT_ 7 (some 43) ?_
 refine zp HT_ 9 (some 45) ?_
 refine zu HT_ 4 (some 40) (fun K hK=>?_)
 refine goes_ Tryz.func48 (by kernel_rfl) rfl #[.int .u64 ji20] (by rfl) rfl rfl (by (try simp only [List.map_toArray,List.map_cons,List.map_nil]);first|done|(simp only [hji20];rfl)|rfl|(simp only [List.length_drop,List.length_take];rfl)) ?_
 with_reducible refine (nat_Of.calls k ji20 t272 _ A21.out).mono ?_
 rintro e w110 ⟨v273,rfl,ho0,hb⟩
 refine ⟨_,rfl,?_⟩
 have HO274:=am (Kd.V_lower (Kd.V_mono (ok':=fun k_=>k_≠gb263∧k_≠gb269) ho0 (fun k_ hk_=>⟨(Kd.freshB (g:=gb263) (o := .cells #[.bool false, .bool false, .string (⟨#[]⟩:ByteArray), .int .i64 0] 23 (0,0)) (zK BK263) k_ hk_),(Kd.freshB (g:=gb269) (o := .cells #[.int .i64 t264, .bool t265, .int .i64 t266, .int .u64 t267] 77 (0,0)) (zK BK269) k_ hk_)⟩)) (zS HB))
 replace BK263:=zKb BK263 hb
 replace BK269:=zKb BK269 hb
 replace HB:=zBs HB hb
 (try clear hb)
 (try clear hb2)
 (try clear hk)
 (try clear hi)
 (try clear ho0)
 refine hK.out _ _ ⟨(blk_cell BK269.out 0).trans rfl,(blk_cell BK269.out 1).trans rfl,(blk_cell BK269.out 2).trans rfl,(blk_cell BK269.out 3).trans rfl⟩ (fun hHeld=>?_)
 clear hK K
 refine norm_ (a':=?_) ?_ ?_
 rotate_left
 ·show Act.put _ (some 40) _=_
  simp only [Act.put,List.setIfInBounds_toArray,List.set_cons_zero,List.set_cons_succ,i64_w,i32_w]
  rfl
 refine zp HT_ 10 (some 9) ?_
 refine zp HT_ 11 (some 10) ?_
 refine done_ (done_of HT_.out (by kernel_rfl)) ?_
 try go_wp2_with (first|((with_reducible refine gate_callee (f:=51) rfl ?_);refine zc (some 69) Tryz.func51 _ (nat_Ten.calls _ _ _ _ _ A55.out) ?_;rintro e w111 ⟨v287,rfl,ho0,hb⟩;refine ⟨_,rfl,?_⟩;replace HO274:=zVb HO274 hb;have HO288:=am (Kd.V_lower (Kd.V_mono (ok':=fun k_=>k_≠gb263∧k_≠gb269) ho0 (fun k_ hk_=>⟨(Kd.freshB (g:=gb263) (o := .cells #[.bool false, .bool false, .string (⟨#[]⟩:ByteArray), .int .i64 0] 23 (0,0)) (zK BK263) k_ hk_),(Kd.freshB (g:=gb269) (o := .cells #[.int .i64 t264, .bool t265, .int .i64 t266, .int .u64 t267] 77 (0,0)) (zK BK269) k_ hk_)⟩)) (zS HB));replace BK263:=zKb BK263 hb;replace BK269:=zKb BK269 hb;replace HB:=zBs HB hb;clear hb ho0;(try simp only [errW_none,errW_some]);obtain ⟨_,_,_,_,_,_,_,_⟩:=zf4 BK263))
 refine bodyPost_ret (results_ct rfl _ _ gb263 23 #[.bool false, .bool false, .string (⟨#[]⟩:ByteArray), .int .i64 0] (0,0) _ rfl (zKp BK263) Tryz.underlying23 rfl (by kernel_rfl)) rfl ?_
 exact ⟨by first|exact z3|(simp only [← hji20];exact z3)|exact z2,zB HB⟩
def text_Exact.f (k:Nat) (a0:Int) (a1:Int):Option (ByteArray × Option Int):=(text_Decimal.f k a0 a1).bind fun bt309=>(if bt309.2.2.2.2.isNone=true then ((scan_Text.f bt309.1 bt309.2.1 bt309.2.2.1 bt309.2.2.2.1).bind fun bt316=>(some (bt316.1,bt316.2))) else (some ((⟨#[]⟩:ByteArray),some (bt309.2.2.2.2.getD 0))))
theorem text_Exact.mono:∀ a0 a1 k,LeO (text_Exact.f k a0 a1) (text_Exact.f (k+1) a0 a1):=by
  intro a0 a1 k
  unfold text_Exact.f
  repeat' (with_reducible first|exact text_Decimal.mono _ _ _|exact zm|exact zv|refine zI ?_ ?_|refine zO ?_ fun _=>?_)
theorem text_Exact.calls (k:Nat) (a0:Int) (a1:Int) (r1:ByteArray) (r2:Option Int) (w:World) (h:text_Exact.f k a0 a1=some (r1,r2)) (htab:Fx.Laid w:=by exact Fx.Laid.below HTAB.out (by repeat (first|(with_reducible first|exact HB.out|apply below_alloc|apply pw_below_drewN|apply below_drew1|refine below_set ?_ (Aside0.out (by assumption)))|exact HB.out))) :
    Calls Tryz.prog 17 #[.int .i64 a0, .int .u64 a1] w fun e w'=>e = .returned (.tuple #[.string r1,errW r2])∧Below w.heap.size w w':=by
 have HTAB:=am htab
 clear htab
 have hu23:=Tryz.underlying23
 have hu27:=Tryz.underlying27
 have hu64:=Tryz.underlying64
 have HB:=am (Below.refl w.heap.size w)
 have H:=am h
 unfold text_Exact.f at H
 clear h
 replace H:=zo H
 obtain ⟨⟨t309,t310,t311,t312,t313⟩,A3,H⟩:=H
 try dsimp only at H
 rcases t313 with _|q315
 replace H:=zb1 H
 try simp only [errW_none,errW_some]
 replace H:=zo H
 obtain ⟨⟨t316,t317⟩,A4,H⟩:=H
 try dsimp only at H
 obtain ⟨rfl,rfl⟩:=zJ2 H
 rotate_left
 replace H:=zb0 H
 try simp only [Option.getD_some] at H
 try simp only [errW_none,errW_some]
 obtain ⟨rfl,rfl⟩:=zJ2 H
 rotate_left
 all_goals (go_enter Tryz.func17,Tryz.ntmps17;go_wp2_with (first|((with_reducible refine gate_callee (f:=16) rfl ?_);refine zc (some 11) Tryz.func16 _ (text_Decimal.calls _ _ _ _ _ _ _ _ _ A3.out) ?_;rintro e w5 ⟨rfl,hb⟩;refine ⟨_,rfl,?_⟩;replace HB:=zBs HB hb;clear hb;(try simp only [errW_none,errW_some]))|((with_reducible refine gate_dst (N:=6) rfl ?_);refine zx 6 23 #[.bool false, .bool false, .string (⟨#[]⟩:ByteArray), .int .i64 0] ?_;intro gb314 hg w6 hbox hb;have BK314:=am (hbox);have GW314:=zG hg HB;have GE314:=zG hg HB;replace HB:=zBs HB hb;clear hb hbox hg;obtain ⟨_,_,_,_,_,_,_,_⟩:=zf4 BK314)|((with_reducible refine gate_callee (f:=30) rfl ?_);refine zc (some 18) Tryz.func30 _ (scan_Text.calls _ _ _ _ _ _ _ A4.out) ?_;rintro e w8 ⟨rfl,hb⟩;refine ⟨_,rfl,?_⟩;replace BK314:=am (blk_below (zKp BK314) hb);replace HB:=zBs HB hb;clear hb;(try simp only [errW_none,errW_some]))))
 ·go_ret2
  exact ⟨z2,zB HB⟩
 go_ret2
 exact ⟨z2,zB HB⟩
end Go.Proofs.Yy.PTx
end
