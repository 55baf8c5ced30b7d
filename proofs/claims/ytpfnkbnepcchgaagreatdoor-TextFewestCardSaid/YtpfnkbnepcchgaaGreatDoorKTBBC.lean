/- Part 29 of what the proof needs. -/
import Derived.Test.YtpfnkbnepcchgaaGreatDoorKTBBB
set_option linter.unusedSimpArgs false
set_option linter.unusedVariables false
section
set_option maxHeartbeats 8000000
set_option maxRecDepth 100000
namespace Go.Proofs.Yy.PTx
open Go.RowKit Go.Proofs.Yy.Z Go.Proofs.Yw.PrintWords Go.Proofs.Yw.PrintLast Go.Proofs.Yw.PrintMore
open Go.Proofs.Yy.M
attribute [local go_sem] runx_add64 runx_sub64 eql_cc eql_nc neq_cc neq_nc
attribute [local go_sem] max2_int min2_int max_two min_two max_three min_three max_four min_four
attribute [local go_sem high] eqA81
def vernierref01_Text.l0:Nat→Int→List Int→Int→Option (ByteArray)
  | 0,_,_,_=>none
  | k+1,x0,x5,x6=>if x6 ≥ 0 then (if 0≤x6 then (if x5.length<140737488355328 then (vernierref01_Text.l0 k x0 (x5 ++ [(48+(Int.tmod (shr .u64 x0 x6) 2)) % 256]) (wrap64 (x6 - 1))) else (none)) else (none)) else (some (strOfNums x5))
def vernierref01_Text.f (k:Nat) (a0:Int) (a1:Int):Option (ByteArray):=vernierref01_Text.l0 k a0 ([]:List Int) (wrap64 (a1 - 1))
theorem vernierref01_Text.calls (k:Nat) (a0:Int) (a1:Int) (r:ByteArray) (w:World) (h:vernierref01_Text.f k a0 a1=some r) :
    Calls Tryz.prog 88 #[.int .u64 a0, .int .i64 a1] w fun e w'=>e = .returned (.string r)∧Below w.heap.size w w':=by
 have HB:=am (Below.refl w.heap.size w)
 have H:=am h
 unfold vernierref01_Text.f at H
 clear h
 go_enter Tryz.func88,Tryz.ntmps88
 go_wp2
 go_loopg [5,6] k (fun kq v5 v6 w' => ∃ (x5_1:List Int) (x6_1:Int),v6 = .int .i64 x6_1∧Aside0 (vernierref01_Text.l0 kq a0 x5_1 x6_1=some r)∧Aside0 (kq≤k)∧Aside0 (Kd.R (Kd.int .u8) 5 w' w.heap.size (fun _=>True) v5 x5_1)∧Aside0 (Below w.heap.size w w'))
 case atStart=>exact ⟨(([]:List Int)),(wrap64 (a1 - 1)),z1,H,zL,⟨zN⟩,⟨zB HB⟩⟩
 clear H
 obtain ⟨x5_1,x6_1,rfl,H,HK1,HO_5,HB⟩:=hrel
 obtain _|k1:=gk
 ·exact zz H rfl
 simp only [vernierref01_Text.l0] at H
 replace H:=zsde H
 rcases H with ⟨c3b0,H⟩|⟨c3b0,H⟩
 replace H:=zit H
 obtain ⟨c4b0,c4b1,H⟩:=H
 generalize hji5:(shr .u64 a0 x6_1:Int)=ji5 at H
 have hji5_:(a0 / 2 ^ min x6_1.toNat 64)=ji5:=hji5
 have hji5z:x6_1≤64→(a0 / 2 ^ x6_1.toNat)=ji5:=shr_small hji5
 replace H:=zil H
 obtain ⟨LMc6,H⟩:=H
 generalize hy744:(x5_1 ++ [(48+(Int.tmod (ji5) 2)) % 256]:List Int)=y744 at H
 have Ny744:=zY hy744
 clear hy744
 rotate_left
 obtain rfl:=Option.some.inj H.out
 have hcv8:=own_string (P:=Tryz.prog) Tryz.underlying104 Tryz.underlying5 Tryz.underlying9 (Kd.own_of_R HO_5.out)
 rotate_left
 all_goals (go_wp2_with (first|((with_reducible refine gate_builtin (b := .append) (xs:=#[.tmp 13, .tmp 20]) rfl ?_);at_builtin;refine Kd.R_append (Kd.int .u8) (w0:=w) w.heap.size rfl (.tmp 13) (.tmp 20) 104 5 (.int .u8 0) 1 rfl Tryz.underlying104 info5 rfl (by decide) (by omega) u5 x5_1 ((48+(Int.tmod (ji5) 2)) % 256) [.int .u8 ((48+(Int.tmod (ji5) 2)) % 256)] (fun _=>True) (fun _=>False) rfl rfl ?aP (fun _ hk=>hk.elim) ?aF ?aO ?aB ?aS ?aL ?_;(case aP=>exact rfl);(case aB=>exact (zB HB));(case aF=>exact (fun _ _=>trivial));(case aO=>exact (zR HO_5));(case aS=>exact (zS HB));(case aL=>have:=LMc6.out;omega);intro v745 w7 ho hb hg hat;rw [← Ny744.out] at ho;replace HB:=am (hb);have HO746:=am (ho);clear HO_5 ho hb hg hat)))
 ·go_roundg k1
  case measure=>have:=HK1.out;omega
  case rel=>exact ⟨(y744),(wrap64 (x6_1 - 1)),z1,H,(zH HK1),⟨zR HO746⟩,⟨zB HB⟩⟩
 go_ret
 exact ⟨z2,zB HB⟩
def vernierref01_Number.l0:Nat→ByteArray→Int→Int→Option (Int)
  | 0,_,_,_=>none
  | k+1,x0,x3,x4=>if x4<(x0.size:Int) then (if 0≤x4 then (vernierref01_Number.l0 k x0 (IntKind.u64.wrap ((IntKind.u64.wrap (2 * x3))+(((bt x0 x4) - 48) % 256))) (wrap64 (x4+1))) else (none)) else (some x3)
def vernierref01_Number.f (k:Nat) (a0:ByteArray):Option (Int):=vernierref01_Number.l0 k a0 0 0
theorem vernierref01_Number.calls (k:Nat) (a0:ByteArray) (r:Int) (w:World) (h:vernierref01_Number.f k a0=some r) :
    Calls Tryz.prog 89 #[.string a0] w fun e w'=>e = .returned (.int .u64 r)∧Drawn0 w w':=by
 have H:=am h
 unfold vernierref01_Number.f at H
 clear h
 go_enter Tryz.func89,Tryz.ntmps89
 go_wp2
 go_loopg [3,4] k (fun kq v3 v4 w' => ∃ (x3_1:Int) (x4_1:Int),v3 = .int .u64 x3_1∧v4 = .int .i64 x4_1∧Aside0 (vernierref01_Number.l0 kq a0 x3_1 x4_1=some r)∧Aside0 (kq≤k)∧Drawn0 w w')
 case atStart=>exact ⟨(0),(0),z1,z1,H,zL,z4⟩
 clear H
 obtain ⟨x3_1,x4_1,rfl,rfl,H,HK1,⟨m1,rfl⟩⟩:=hrel
 obtain _|k1:=gk
 ·exact zz H rfl
 simp only [vernierref01_Number.l0] at H
 replace H:=zsd H
 rcases H with ⟨c2b0,H⟩|⟨c2b0,H⟩
 replace H:=zid H
 obtain ⟨c3b0,H⟩:=H
 have p4:0≤(x4_1:Int):=zD
 have q4:x4_1<(a0.size:Int):=zD
 have hx4:=bt_at a0 x4_1
 replace p4:=eq_true p4
 replace q4:=eq_true q4
 rotate_left
 obtain rfl:=Option.some.inj H.out
 rotate_left
 all_goals (go_wp2)
 ·go_roundg k1
  case measure=>have:=HK1.out;omega
  case rel=>exact ⟨(IntKind.u64.wrap ((IntKind.u64.wrap (2 * x3_1))+(((bt a0 x4_1) - 48) % 256))),(wrap64 (x4_1+1)),z1,z1,H,(zH HK1),z4⟩
 go_ret
 exact ⟨z1,z4⟩
end Go.Proofs.Yy.PTx
end
section
set_option maxHeartbeats 8000000
set_option maxRecDepth 100000
namespace Go.Proofs.Yy.PTx
open Go.RowKit Go.Proofs.Yy.Z Go.Proofs.Yw.PrintWords Go.Proofs.Yw.PrintLast Go.Proofs.Yw.PrintMore
open Go.Proofs.Yy.M
attribute [local go_sem] runx_add64 runx_sub64 eql_cc eql_nc neq_cc neq_nc
attribute [local go_sem] max2_int min2_int max_two min_two max_three min_three max_four min_four
def vernierref05_Fold.f (k:Nat) (a0:Int) (a1:Int):Option (Int × Int):=(vernierref05_Is.f a0).bind fun t775=>(if t775=true then ((vernierref01_Text.f k a1 a0).bind fun t776=>((vernierref01_Number.f k t776).bind fun t777=>(some (t777,0)))) else (some (0,2)))
theorem vernierref05_Fold.calls (k:Nat) (a0:Int) (a1:Int) (r1:Int) (r2:Int) (w:World) (h:vernierref05_Fold.f k a0 a1=some (r1,r2)) :
    Calls Tryz.prog 59 #[.int .i64 a0, .int .u64 a1] w fun e w'=>e = .returned (.tuple #[.int .u64 r1, .int .i64 r2])∧Below w.heap.size w w':=by
 have HB:=am (Below.refl w.heap.size w)
 have H:=am h
 unfold vernierref05_Fold.f at H
 clear h
 replace H:=zo H
 obtain ⟨t775,A3,H⟩:=H
 cases t775
 replace H:=zb0 H
 obtain ⟨rfl,rfl⟩:=zJ2 H
 rotate_left
 replace H:=zb1 H
 replace H:=zo H
 obtain ⟨t776,A5,H⟩:=H
 replace H:=zo H
 obtain ⟨t777,A6,H⟩:=H
 obtain ⟨rfl,rfl⟩:=zJ2 H
 rotate_left
 all_goals (go_enter Tryz.func59,Tryz.ntmps59;go_wp2_with (first|((with_reducible refine gate_callee (f:=36) rfl ?_);refine zc (some 8) Tryz.func36 _ (vernierref05_Is.calls _ _ _ A3.out) ?_;rintro e w' ⟨rfl,⟨nd,rfl⟩⟩;refine ⟨_,rfl,?_⟩)|((with_reducible refine gate_callee (f:=88) rfl ?_);refine zc (some 13) Tryz.func88 _ (vernierref01_Text.calls _ _ _ _ _ A5.out) ?_;rintro e w7 ⟨rfl,hb⟩;refine ⟨_,rfl,?_⟩;replace HB:=zBs HB hb;clear hb)|((with_reducible refine gate_callee (f:=89) rfl ?_);refine zc (some 14) Tryz.func89 _ (vernierref01_Number.calls _ _ _ _ A6.out) ?_;rintro e w' ⟨rfl,⟨nd,rfl⟩⟩;refine ⟨_,rfl,?_⟩)))
 ·go_ret2
  exact ⟨z2,zB HB⟩
 go_ret2
 exact ⟨z2,zB HB⟩
def vernierref06_Fold.f (k:Nat) (a0:Int) (a1:Int):Option (Int):=(vernierref05_Fold.f k a0 a1).bind fun bt778=>(some bt778.1)
theorem vernierref06_Fold.calls (k:Nat) (a0:Int) (a1:Int) (r:Int) (w:World) (h:vernierref06_Fold.f k a0 a1=some r) :
    Calls Tryz.prog 23 #[.int .i64 a0, .int .u64 a1] w fun e w'=>e = .returned (.int .u64 r)∧Below w.heap.size w w':=by
 have HB:=am (Below.refl w.heap.size w)
 have H:=am h
 unfold vernierref06_Fold.f at H
 clear h
 replace H:=zo H
 obtain ⟨⟨t778,t779⟩,A3,H⟩:=H
 try dsimp only at H
 obtain rfl:=Option.some.inj H.out
 go_enter Tryz.func23,Tryz.ntmps23
 go_wp2_with (first|((with_reducible refine gate_callee (f:=59) rfl ?_);refine zc (some 10) Tryz.func59 _ (vernierref05_Fold.calls _ _ _ _ _ _ A3.out) ?_;rintro e w4 ⟨rfl,hb⟩;refine ⟨_,rfl,?_⟩;replace HB:=zBs HB hb;clear hb))
 go_ret
 exact ⟨z2,zB HB⟩
mutual
def vernierlaw19_TextFewest.j0:Nat→Bool→Int→Int→Option Int→Bool→Bool→Bool→ByteArray→Int→Bool→Bool→ByteArray→Int→Option (Bool)
  | 0,_,_,_,_,_,_,_,_,_,_,_,_,_=>none
  | k+1,x7,x8,x9,x14,x44,x1159000,x1159001,x1159002,x1159003,x1170000,x1170001,x1170002,x1170003=>if x44=true then (some false) else (if x14.isNone=true then (if x1159000=true then (vernierlaw19_TextFewest.j1 k x7 x8 x9 true x1159000 x1159001 x1159002 x1159003 x1170000 x1170001 x1170002 x1170003) else (if x1170000=true then (vernierlaw19_TextFewest.j1 k x7 x8 x9 true x1159000 x1159001 x1159002 x1159003 x1170000 x1170001 x1170002 x1170003) else (vernierlaw19_TextFewest.j1 k x7 x8 x9 (x1170002.toList == ([48]:List UInt8)) x1159000 x1159001 x1159002 x1159003 x1170000 x1170001 x1170002 x1170003))) else (vernierlaw19_TextFewest.j1 k x7 x8 x9 true x1159000 x1159001 x1159002 x1159003 x1170000 x1170001 x1170002 x1170003))
def vernierlaw19_TextFewest.j1:Nat→Bool→Int→Int→Bool→Bool→Bool→ByteArray→Int→Bool→Bool→ByteArray→Int→Option (Bool)
  | 0,_,_,_,_,_,_,_,_,_,_,_,_=>none
  | k+1,x7,x8,x9,x59,x1159000,x1159001,x1159002,x1159003,x1170000,x1170001,x1170002,x1170003=>if x59=true then (if x7=true then ((vernierref05_Power.f k (wrap64 (x8 - 1))).bind fun t1178=>(some (x1170000 == (x9 == t1178)))) else (some false)) else ((text_Of.f k x8 x1159000 x1159001 x1159002 x1159003).bind fun bt1179=>(if bt1179.2.isNone=true then (if bt1179.1=x9 then (if x7=true then (some (decide ((x1159002.size:Int) ≥ (x1170002.size:Int)))) else (some false)) else (some x7)) else (some false)))
end
def vernierlaw19_TextFewest.f (k:Nat) (a0:Int) (a1:Int) (a2_0:Bool) (a2_1:Bool) (a2_2:ByteArray) (a2_3:Int):Option (Bool):=(vernierlaw19_shown.f k).bind fun t1159=>((vernierlaw19_width.f k a0).bind fun t1160=>((vernierref06_Fold.f k t1160 a1).bind fun t1161=>((text_Short.f k t1160 a1).bind fun bt1162=>((scan_Scan.f bt1162.1).bind fun bt1164=>((scan_Norm.f a2_0 a2_1 a2_2 a2_3).bind fun bt1170=>(if bt1162.2.isNone=true then (if bt1164.2.2.2.2.isNone=true then (vernierlaw19_TextFewest.j0 k t1159 t1160 t1161 bt1170.2.2.2.2 false bt1170.1 bt1170.2.1 bt1170.2.2.1 bt1170.2.2.2.1 bt1164.1 bt1164.2.1 bt1164.2.2.1 bt1164.2.2.2.1) else (vernierlaw19_TextFewest.j0 k t1159 t1160 t1161 bt1170.2.2.2.2 true bt1170.1 bt1170.2.1 bt1170.2.2.1 bt1170.2.2.2.1 bt1164.1 bt1164.2.1 bt1164.2.2.1 bt1164.2.2.2.1)) else (vernierlaw19_TextFewest.j0 k t1159 t1160 t1161 bt1170.2.2.2.2 true bt1170.1 bt1170.2.1 bt1170.2.2.1 bt1170.2.2.2.1 bt1164.1 bt1164.2.1 bt1164.2.2.1 bt1164.2.2.2.1)))))))
theorem vernierlaw19_TextFewest.calls (k:Nat) (a0:Int) (a1:Int) (a2_0:Bool) (a2_1:Bool) (a2_2:ByteArray) (a2_3:Int) (r:Bool) (w:World) (h:vernierlaw19_TextFewest.f k a0 a1 a2_0 a2_1 a2_2 a2_3=some r) (hr_:r=true:=by rfl) (htab:Fx.Laid w:=by exact Fx.Laid.below HTAB.out (by repeat (first|(with_reducible first|exact HB.out|apply below_alloc|apply pw_below_drewN|apply below_drew1|refine below_set ?_ (Aside0.out (by assumption)))|exact HB.out))) :
    Calls Tryz.prog 7 #[.int .i64 a0, .int .u64 a1, .agg #[.bool a2_0, .bool a2_1, .string a2_2, .int .i64 a2_3]] w fun e w'=>e = .returned (.bool r)∧Below w.heap.size w w':=by
 have HTAB:=am htab
 clear htab
 have HRT:=am hr_
 clear hr_
 have hu23:=Tryz.underlying23
 have hu27:=Tryz.underlying27
 have hu64:=Tryz.underlying64
 have HB:=am (Below.refl w.heap.size w)
 have H:=am h
 unfold vernierlaw19_TextFewest.f at H
 clear h
 replace H:=zo H
 obtain ⟨t1159,A4,H⟩:=H
 replace H:=zo H
 obtain ⟨t1160,A5,H⟩:=H
 replace H:=zo H
 obtain ⟨t1161,A6,H⟩:=H
 replace H:=zo H
 obtain ⟨⟨t1162,t1163⟩,A7,H⟩:=H
 try dsimp only at H
 replace H:=zo H
 obtain ⟨⟨t1164,t1165,t1166,t1167,t1168⟩,A8,H⟩:=H
 try dsimp only at H
 replace H:=zo H
 obtain ⟨⟨t1170,t1171,t1172,t1173,t1174⟩,A9,H⟩:=H
 try dsimp only at H
 go_enter Tryz.func7,Tryz.ntmps7
 go_upto_region 7 with (first|((with_reducible refine gate_dst (N:=5) rfl ?_);(try (refine gate_guard (by rfl) ?_;dsimp only));refine zx 5 23 #[.bool a2_0, .bool a2_1, .string a2_2, .int .i64 a2_3] ?_;intro gb1158 hg w11 hbox hb;have BK1158:=am (hbox);have GW1158:=zG hg HB;have GE1158:=zG hg HB;replace HB:=zBs HB hb;clear hb hbox hg)|(go_at_call 12;(with_reducible refine (vernierlaw19_shown.calls _ _ _ A4.out).mono ?_);rintro e w12 ⟨rfl,hb⟩;replace BK1158:=zKb BK1158 hb;replace HB:=zBs HB hb;clear hb)|(go_at_call 22;(with_reducible refine (vernierlaw19_width.calls _ _ _ _ A5.out).mono ?_);rintro e w' ⟨rfl,⟨nd,rfl⟩⟩;(try first|exact ⟨rfl,_,World.drewN_drewN _ _ _⟩|exact ⟨rfl,_,Eq.trans (World.drewN_drewN _ _ _) (congrArg (World.drewN _) (Nat.add_assoc _ _ _))⟩))|(go_at_call 23;(with_reducible refine (vernierref06_Fold.calls _ _ _ _ _ A6.out).mono ?_);rintro e w13 ⟨rfl,hb⟩;replace BK1158:=zKb BK1158 hb;replace HB:=zBs HB hb;clear hb)|(go_at_call 20;(with_reducible refine (text_Short.calls _ _ _ _ _ _ A7.out).mono ?_);rintro e w14 ⟨rfl,hb⟩;replace BK1158:=zKb BK1158 hb;replace HB:=zBs HB hb;clear hb;(try simp only [errW_none,errW_some]))|(go_at_call 25;(with_reducible refine (scan_Scan.calls _ _ _ _ _ _ _ A8.out).mono ?_);rintro e w15 ⟨rfl,hb⟩;replace BK1158:=zKb BK1158 hb;replace HB:=zBs HB hb;clear hb;(try simp only [errW_none,errW_some]))|((with_reducible refine gate_dst (N:=12) rfl ?_);(try (refine gate_guard (by rfl) ?_;dsimp only));refine zx 12 23 #[.bool false, .bool false, .string (⟨#[]⟩:ByteArray), .int .i64 0] ?_;intro gb1169 hg w16 hbox hb;have BK1169:=am (hbox);have GW1169:=zG hg HB;have GE1169:=zG hg HB;replace HB:=zBs HB hb;have NB1158_1169:=zNl hg BK1158;have NB1169_1158:=zNg hg BK1158;replace BK1158:=zKb BK1158 hb;clear hb hbox hg;have hnb17:=NB1169_1158.out;have hnc17:=NB1158_1169.out;obtain ⟨_,_,_,_,_,_,_,_⟩:=zf4 BK1169;obtain ⟨_,_,_,_,_,_,_,_⟩:=zf4 BK1158)|(go_at_call 26;(with_reducible refine (scan_Norm.calls _ _ _ _ _ _ _ _ _ _ A9.out).mono ?_);rintro e w20 ⟨rfl,hb⟩;replace BK1158:=zKb BK1158 hb;replace BK1169:=am (blk_below (zKp BK1169) hb);replace HB:=zBs HB hb;clear hb;(try simp only [errW_none,errW_some]);obtain ⟨_,_,_,_,_,_,_,_⟩:=zf4 BK1158))
 repeat (go_quiet (first|((with_reducible refine gate_dst (N:=5) rfl ?_);(try (refine gate_guard (by rfl) ?_;dsimp only));refine zx 5 23 #[.bool a2_0, .bool a2_1, .string a2_2, .int .i64 a2_3] ?_;intro gb1158 hg w11 hbox hb;have n0_:=zBs HB hb;have n1_:=am (hbox);have n2_:=zG hg HB;have n3_:=zG hg HB;clear HB;have HB:=n0_;have BK1158:=n1_;have GW1158:=n2_;have GE1158:=n3_;clear n0_ n1_ n2_ n3_;clear hb hbox hg)|(go_at_call 12;(with_reducible refine (vernierlaw19_shown.calls k  t1159 _ A4.out).mono ?_);rintro e w12 ⟨rfl,hb⟩;have n0_:=zKb BK1158 hb;have n1_:=zBs HB hb;clear BK1158;clear HB;have BK1158:=n0_;have HB:=n1_;clear n0_ n1_;(try clear hb);(try clear hb2);(try clear hk);(try clear hi))|(go_at_call 22;(with_reducible refine (vernierlaw19_width.calls k a0 t1160 _ A5.out).mono ?_);rintro e w' ⟨rfl,⟨nd,rfl⟩⟩;(try first|exact ⟨rfl,_,World.drewN_drewN _ _ _⟩|exact ⟨rfl,_,Eq.trans (World.drewN_drewN _ _ _) (congrArg (World.drewN _) (Nat.add_assoc _ _ _))⟩))|(go_at_call 23;(with_reducible refine (vernierref06_Fold.calls k t1160 a1 t1161 _ A6.out).mono ?_);rintro e w13 ⟨rfl,hb⟩;have n0_:=zKb BK1158 hb;have n1_:=zBs HB hb;clear BK1158;clear HB;have BK1158:=n0_;have HB:=n1_;clear n0_ n1_;(try clear hb);(try clear hb2);(try clear hk);(try clear hi))|(go_at_call 20;(with_reducible refine (text_Short.calls k t1160 a1 t1162 t1163 _ A7.out).mono ?_);rintro e w14 ⟨rfl,hb⟩;have n0_:=zKb BK1158 hb;have n1_:=zBs HB hb;clear BK1158;clear HB;have BK1158:=n0_;have HB:=n1_;clear n0_ n1_;(try clear hb);(try clear hb2);(try clear hk);(try clear hi);(try simp only [errW_none,errW_some]))|(go_at_call 25;(with_reducible refine (scan_Scan.calls t1162 t1164 t1165 t1166 t1167 t1168 _ A8.out).mono ?_);rintro e w15 ⟨rfl,hb⟩;have n0_:=zKb BK1158 hb;have n1_:=zBs HB hb;clear BK1158;clear HB;have BK1158:=n0_;have HB:=n1_;clear n0_ n1_;(try clear hb);(try clear hb2);(try clear hk);(try clear hi);(try simp only [errW_none,errW_some]))|((with_reducible refine gate_dst (N:=12) rfl ?_);(try (refine gate_guard (by rfl) ?_;dsimp only));refine zx 12 23 #[.bool false, .bool false, .string (⟨#[]⟩:ByteArray), .int .i64 0] ?_;intro gb1169 hg w16 hbox hb;have n0_:=zKb BK1158 hb;have n1_:=zBs HB hb;have n2_:=am (hbox);have n3_:=zG hg HB;have n4_:=zG hg HB;have n5_:=zNl hg BK1158;have n6_:=zNg hg BK1158;clear BK1158;clear HB;have BK1158:=n0_;have HB:=n1_;have BK1169:=n2_;have GW1169:=n3_;have GE1169:=n4_;have NB1158_1169:=n5_;have NB1169_1158:=n6_;clear n0_ n1_ n2_ n3_ n4_ n5_ n6_;clear hb hbox hg;have hnb17:=NB1169_1158.out;have hnc17:=NB1158_1169.out;obtain ⟨_,_,_,_,_,_,_,_⟩:=zf4 BK1169;obtain ⟨_,_,_,_,_,_,_,_⟩:=zf4 BK1158)|(go_at_call 26;(with_reducible refine (scan_Norm.calls a2_0 a2_1 a2_2 a2_3 t1170 t1171 t1172 t1173 t1174 _ A9.out).mono ?_);rintro e w20 ⟨rfl,hb⟩;have n0_:=zKb BK1158 hb;have n1_:=am (blk_below (zKp BK1169) hb);have n2_:=zBs HB hb;clear BK1158;clear BK1169;clear HB;have BK1158:=n0_;have BK1169:=n1_;have HB:=n2_;clear n0_ n1_ n2_;(try clear hb);(try clear hb2);(try clear hk);(try clear hi);(try simp only [errW_none,errW_some]);obtain ⟨_,_,_,_,_,_,_,_⟩:=zf4 BK1158));go_upto_region 7 with (first|((with_reducible refine gate_dst (N:=5) rfl ?_);(try (refine gate_guard (by rfl) ?_;dsimp only));refine zx 5 23 #[.bool a2_0, .bool a2_1, .string a2_2, .int .i64 a2_3] ?_;intro gb1158 hg w11 hbox hb;have n0_:=zBs HB hb;have n1_:=am (hbox);have n2_:=zG hg HB;have n3_:=zG hg HB;clear HB;have HB:=n0_;have BK1158:=n1_;have GW1158:=n2_;have GE1158:=n3_;clear n0_ n1_ n2_ n3_;clear hb hbox hg)|(go_at_call 12;(with_reducible refine (vernierlaw19_shown.calls k  t1159 _ A4.out).mono ?_);rintro e w12 ⟨rfl,hb⟩;have n0_:=zKb BK1158 hb;have n1_:=zBs HB hb;clear BK1158;clear HB;have BK1158:=n0_;have HB:=n1_;clear n0_ n1_;(try clear hb);(try clear hb2);(try clear hk);(try clear hi))|(go_at_call 22;(with_reducible refine (vernierlaw19_width.calls k a0 t1160 _ A5.out).mono ?_);rintro e w' ⟨rfl,⟨nd,rfl⟩⟩;(try first|exact ⟨rfl,_,World.drewN_drewN _ _ _⟩|exact ⟨rfl,_,Eq.trans (World.drewN_drewN _ _ _) (congrArg (World.drewN _) (Nat.add_assoc _ _ _))⟩))|(go_at_call 23;(with_reducible refine (vernierref06_Fold.calls k t1160 a1 t1161 _ A6.out).mono ?_);rintro e w13 ⟨rfl,hb⟩;have n0_:=zKb BK1158 hb;have n1_:=zBs HB hb;clear BK1158;clear HB;have BK1158:=n0_;have HB:=n1_;clear n0_ n1_;(try clear hb);(try clear hb2);(try clear hk);(try clear hi))|(go_at_call 20;(with_reducible refine (text_Short.calls k t1160 a1 t1162 t1163 _ A7.out).mono ?_);rintro e w14 ⟨rfl,hb⟩;have n0_:=zKb BK1158 hb;have n1_:=zBs HB hb;clear BK1158;clear HB;have BK1158:=n0_;have HB:=n1_;clear n0_ n1_;(try clear hb);(try clear hb2);(try clear hk);(try clear hi);(try simp only [errW_none,errW_some]))|(go_at_call 25;(with_reducible refine (scan_Scan.calls t1162 t1164 t1165 t1166 t1167 t1168 _ A8.out).mono ?_);rintro e w15 ⟨rfl,hb⟩;have n0_:=zKb BK1158 hb;have n1_:=zBs HB hb;clear BK1158;clear HB;have BK1158:=n0_;have HB:=n1_;clear n0_ n1_;(try clear hb);(try clear hb2);(try clear hk);(try clear hi);(try simp only [errW_none,errW_some]))|((with_reducible refine gate_dst (N:=12) rfl ?_);(try (refine gate_guard (by rfl) ?_;dsimp only));refine zx 12 23 #[.bool false, .bool false, .string (⟨#[]⟩:ByteArray), .int .i64 0] ?_;intro gb1169 hg w16 hbox hb;have n0_:=zKb BK1158 hb;have n1_:=zBs HB hb;have n2_:=am (hbox);have n3_:=zG hg HB;have n4_:=zG hg HB;have n5_:=zNl hg BK1158;have n6_:=zNg hg BK1158;clear BK1158;clear HB;have BK1158:=n0_;have HB:=n1_;have BK1169:=n2_;have GW1169:=n3_;have GE1169:=n4_;have NB1158_1169:=n5_;have NB1169_1158:=n6_;clear n0_ n1_ n2_ n3_ n4_ n5_ n6_;clear hb hbox hg;have hnb17:=NB1169_1158.out;have hnc17:=NB1158_1169.out;obtain ⟨_,_,_,_,_,_,_,_⟩:=zf4 BK1169;obtain ⟨_,_,_,_,_,_,_,_⟩:=zf4 BK1158)|(go_at_call 26;(with_reducible refine (scan_Norm.calls a2_0 a2_1 a2_2 a2_3 t1170 t1171 t1172 t1173 t1174 _ A9.out).mono ?_);rintro e w20 ⟨rfl,hb⟩;have n0_:=zKb BK1158 hb;have n1_:=am (blk_below (zKp BK1169) hb);have n2_:=zBs HB hb;clear BK1158;clear BK1169;clear HB;have BK1158:=n0_;have BK1169:=n1_;have HB:=n2_;clear n0_ n1_ n2_;(try clear hb);(try clear hb2);(try clear hk);(try clear hi);(try simp only [errW_none,errW_some]);obtain ⟨_,_,_,_,_,_,_,_⟩:=zf4 BK1158)))
 (try simp only [Act.put,List.setIfInBounds_toArray,List.set_cons_zero,List.set_cons_succ])
 go_cut [44] (fun v44 wc => ∃ (kq:Nat) (x44_9:Bool),v44 = .bool x44_9∧Aside0 (vernierlaw19_TextFewest.j0 kq t1159 t1160 t1161 t1174 x44_9 t1170 t1171 t1172 t1173 t1164 t1165 t1166 t1167=some r)∧Aside0 (kq≤k)∧Aside0 (wc.heap[gb1158]? = some (.cells #[.bool t1170, .bool t1171, .string t1172, .int .i64 t1173] 23 (0,0)))∧Aside0 (wc.heap[gb1169]? = some (.cells #[.bool t1164, .bool t1165, .string t1166, .int .i64 t1167] 23 (0,0)))∧Aside0 (Below w.heap.size w wc))
 case first =>
  rcases t1163 with _|q1175
  replace H:=zb1 H
  try simp only [errW_none,errW_some]
  rcases t1168 with _|q1176
  replace H:=zb1 H
  try simp only [errW_none,errW_some]
  rotate_left
  replace H:=zb0 H
  try simp only [Option.getD_some] at H
  try simp only [errW_none,errW_some]
  rotate_left
  replace H:=zb0 H
  try simp only [Option.getD_some] at H
  try simp only [errW_none,errW_some]
  rotate_left
  all_goals (go_wp2;repeat (go_quiet (fail);try go_wp2))
  ·go_meet
   case rel=>exact ⟨_,(false),z1,H,⟨z5⟩,⟨zKp BK1158⟩,⟨zK BK1169⟩,⟨zB HB⟩⟩
  ·go_meet
   case rel=>exact ⟨_,(true),z1,H,⟨z5⟩,⟨zKp BK1158⟩,⟨zK BK1169⟩,⟨zB HB⟩⟩
  go_meet
  case rel=>exact ⟨_,(true),z1,H,⟨z5⟩,⟨zKp BK1158⟩,⟨zK BK1169⟩,⟨zB HB⟩⟩
 case rest =>
  obtain ⟨kq,x44_9,rfl,H,HJ9,BK1158,BK1169,HB⟩:=hcut
  obtain _|kj9:=kq
  ·exact zz H rfl
  simp only [vernierlaw19_TextFewest.j0] at H
  cases x44_9
  ·replace H:=zb0 H
   go_upto_region 9 with (fail)
   repeat (go_quiet (fail);go_upto_region 9 with (fail))
   go_cut [59] (fun v59 wc => ∃ (kq:Nat) (x59_22:Bool),v59 = .bool x59_22∧Aside0 (vernierlaw19_TextFewest.j1 kq t1159 t1160 t1161 x59_22 t1170 t1171 t1172 t1173 t1164 t1165 t1166 t1167=some r)∧Aside0 (kq≤kj9)∧Aside0 (wc.heap[gb1158]? = some (.cells #[.bool t1170, .bool t1171, .string t1172, .int .i64 t1173] 23 (0,0)))∧Aside0 (wc.heap[gb1169]? = some (.cells #[.bool t1164, .bool t1165, .string t1166, .int .i64 t1167] 23 (0,0)))∧Aside0 (Below w.heap.size w wc))
   case first =>
    rcases t1174 with _|q1177
    replace H:=zb1 H
    try simp only [errW_none,errW_some]
    cases t1170
    replace H:=zb0 H
    cases t1164
    replace H:=zb0 H
    have hnb31:=NB1158_1169.out
    have hnc31:=NB1169_1158.out
    obtain ⟨_,_,_,_,_,_,_,_⟩:=zf4 BK1158
    obtain ⟨_,_,_,_,_,_,_,_⟩:=zf4 BK1169
    rotate_left
    replace H:=zb1 H
    have hnb28:=NB1158_1169.out
    have hnc28:=NB1169_1158.out
    obtain ⟨_,_,_,_,_,_,_,_⟩:=zf4 BK1158
    obtain ⟨_,_,_,_,_,_,_,_⟩:=zf4 BK1169
    rotate_left
    replace H:=zb1 H
    have hnb25:=NB1158_1169.out
    have hnc25:=NB1169_1158.out
    obtain ⟨_,_,_,_,_,_,_,_⟩:=zf4 BK1158
    rotate_left
    replace H:=zb0 H
    try simp only [Option.getD_some] at H
    try simp only [errW_none,errW_some]
    rotate_left
    all_goals (go_wp2;repeat (go_quiet (fail);try go_wp2))
    ·go_meet
     case rel=>exact ⟨_,((t1166.toList == ([48]:List UInt8))),z1,H,⟨by have:=HJ9.out;first|omega|exact Nat.le_refl _⟩,⟨zK BK1158⟩,⟨zK BK1169⟩,⟨zB HB⟩⟩
    ·go_meet
     case rel=>exact ⟨_,(true),z1,H,⟨by have:=HJ9.out;first|omega|exact Nat.le_refl _⟩,⟨zK BK1158⟩,⟨zK BK1169⟩,⟨zB HB⟩⟩
    ·go_meet
     case rel=>exact ⟨_,(true),z1,H,⟨by have:=HJ9.out;first|omega|exact Nat.le_refl _⟩,⟨zK BK1158⟩,⟨zK BK1169⟩,⟨zB HB⟩⟩
    go_meet
    case rel=>exact ⟨_,(true),z1,H,⟨by have:=HJ9.out;first|omega|exact Nat.le_refl _⟩,⟨zK BK1158⟩,⟨zK BK1169⟩,⟨zB HB⟩⟩
   case rest =>
    obtain ⟨kq,x59_22,rfl,H,HJ22,BK1158,BK1169,HB⟩:=hcut
    obtain _|kj22:=kq
    ·exact zz H rfl
    simp only [vernierlaw19_TextFewest.j1] at H
    cases x59_22
    replace H:=zb0 H
    replace H:=zo H
    obtain ⟨⟨t1179,t1180⟩,A39,H⟩:=H
    try dsimp only at H
    rcases t1180 with _|q1181
    replace H:=zb1 H
    try simp only [errW_none,errW_some]
    replace H:=zsk H
    rcases H with ⟨c40b0,c40b1,H⟩|⟨c40b0,c40b1,c40,H⟩
    cases t1159
    ·replace H:=zb0 H
     exact absurd (Option.some.inj H.out) (by rw [HRT.out];decide)
    replace H:=zb1 H
    clear HRT
    obtain rfl:=Option.some.inj H.out
    have hnb42:=NB1158_1169.out
    have hnc42:=NB1169_1158.out
    obtain ⟨_,_,_,_,_,_,_,_⟩:=zf4 BK1158
    rotate_left
    clear HRT
    obtain rfl:=Option.some.inj H.out
    have hnb47:=NB1158_1169.out
    have hnc47:=NB1169_1158.out
    obtain ⟨_,_,_,_,_,_,_,_⟩:=zf4 BK1158
    rotate_left
    ·replace H:=zb0 H
     try simp only [Option.getD_some] at H
     try simp only [errW_none,errW_some]
     exact absurd (Option.some.inj H.out) (by rw [HRT.out];decide)
    replace H:=zb1 H
    cases t1159
    ·replace H:=zb0 H
     exact absurd (Option.some.inj H.out) (by rw [HRT.out];decide)
    replace H:=zb1 H
    replace H:=zo H
    obtain ⟨t1178,A36,H⟩:=H
    clear HRT
    obtain rfl:=Option.some.inj H.out
    have hnb37:=NB1169_1158.out
    have hnc37:=NB1158_1169.out
    obtain ⟨_,_,_,_,_,_,_,_⟩:=zf4 BK1169
    rotate_left
    all_goals (go_wp2_with (first|(go_at_call 13;(with_reducible refine (text_Of.calls _ _ _ _ _ _ _ _ _ A39.out).mono ?_);rintro e w44 ⟨rfl,hb⟩;replace BK1158:=zKb BK1158 hb;replace BK1169:=zKb BK1169 hb;replace HB:=zBs HB hb;clear hb;(try simp only [errW_none,errW_some]);obtain ⟨_,_,_,_,_,_,_,_⟩:=zf4 BK1158;obtain ⟨_,_,_,_,_,_,_,_⟩:=zf4 BK1169)|(go_at_call 27;(with_reducible refine (vernierref05_Power.calls _ _ _ _ A36.out).mono ?_);rintro e w' ⟨rfl,⟨nd,rfl⟩⟩;(try first|exact ⟨rfl,_,World.drewN_drewN _ _ _⟩|exact ⟨rfl,_,Eq.trans (World.drewN_drewN _ _ _) (congrArg (World.drewN _) (Nat.add_assoc _ _ _))⟩))))
    ·repeat (go_quiet (first|(go_at_call 13;(with_reducible refine (text_Of.calls kj22 t1160 t1170 t1171 t1172 t1173 t1179 none _ A39.out).mono ?_);rintro e w44 ⟨rfl,hb⟩;have n0_:=zKb BK1158 hb;have n1_:=zKb BK1169 hb;have n2_:=zBs HB hb;clear BK1158;clear BK1169;clear HB;have BK1158:=n0_;have BK1169:=n1_;have HB:=n2_;clear n0_ n1_ n2_;(try clear hb);(try clear hb2);(try clear hk);(try clear hi);(try simp only [errW_none,errW_some]);obtain ⟨_,_,_,_,_,_,_,_⟩:=zf4 BK1158;obtain ⟨_,_,_,_,_,_,_,_⟩:=zf4 BK1169));try go_wp2_with (first|(go_at_call 13;(with_reducible refine (text_Of.calls kj22 t1160 t1170 t1171 t1172 t1173 t1179 none _ A39.out).mono ?_);rintro e w44 ⟨rfl,hb⟩;have n0_:=zKb BK1158 hb;have n1_:=zKb BK1169 hb;have n2_:=zBs HB hb;clear BK1158;clear BK1169;clear HB;have BK1158:=n0_;have BK1169:=n1_;have HB:=n2_;clear n0_ n1_ n2_;(try clear hb);(try clear hb2);(try clear hk);(try clear hi);(try simp only [errW_none,errW_some]);obtain ⟨_,_,_,_,_,_,_,_⟩:=zf4 BK1158;obtain ⟨_,_,_,_,_,_,_,_⟩:=zf4 BK1169)))
     go_ret
     exact ⟨z2,zB HB⟩
    ·repeat (go_quiet (first|(go_at_call 13;(with_reducible refine (text_Of.calls kj22 t1160 t1170 t1171 t1172 t1173 t1179 none _ A39.out).mono ?_);rintro e w44 ⟨rfl,hb⟩;have n0_:=zKb BK1158 hb;have n1_:=zKb BK1169 hb;have n2_:=zBs HB hb;clear BK1158;clear BK1169;clear HB;have BK1158:=n0_;have BK1169:=n1_;have HB:=n2_;clear n0_ n1_ n2_;(try clear hb);(try clear hb2);(try clear hk);(try clear hi);(try simp only [errW_none,errW_some])));try go_wp2_with (first|(go_at_call 13;(with_reducible refine (text_Of.calls kj22 t1160 t1170 t1171 t1172 t1173 t1179 none _ A39.out).mono ?_);rintro e w44 ⟨rfl,hb⟩;have n0_:=zKb BK1158 hb;have n1_:=zKb BK1169 hb;have n2_:=zBs HB hb;clear BK1158;clear BK1169;clear HB;have BK1158:=n0_;have BK1169:=n1_;have HB:=n2_;clear n0_ n1_ n2_;(try clear hb);(try clear hb2);(try clear hk);(try clear hi);(try simp only [errW_none,errW_some]))))
     go_ret
     exact ⟨z2,zB HB⟩
    repeat (go_quiet (first|(go_at_call 27;(with_reducible refine (vernierref05_Power.calls kj22 (wrap64 (t1160 - 1)) t1178 _ A36.out).mono ?_);rintro e w' ⟨rfl,⟨nd,rfl⟩⟩;(try first|exact ⟨rfl,_,World.drewN_drewN _ _ _⟩|exact ⟨rfl,_,Eq.trans (World.drewN_drewN _ _ _) (congrArg (World.drewN _) (Nat.add_assoc _ _ _))⟩)));try go_wp2_with (first|(go_at_call 27;(with_reducible refine (vernierref05_Power.calls kj22 (wrap64 (t1160 - 1)) t1178 _ A36.out).mono ?_);rintro e w' ⟨rfl,⟨nd,rfl⟩⟩;(try first|exact ⟨rfl,_,World.drewN_drewN _ _ _⟩|exact ⟨rfl,_,Eq.trans (World.drewN_drewN _ _ _) (congrArg (World.drewN _) (Nat.add_assoc _ _ _))⟩))))
    go_ret
    exact ⟨z2,zB HB⟩
  replace H:=zb1 H
  exact absurd (Option.some.inj H.out) (by rw [HRT.out];decide)
def vernierlaw19_TextBack.f (k:Nat) (a0:Int) (a1:Int):Option (Bool):=(vernierlaw19_shown.f k).bind fun t1133=>((vernierlaw19_width.f k a0).bind fun t1134=>((vernierref06_Fold.f k t1134 a1).bind fun t1135=>((text_Exact.f k t1134 a1).bind fun bt1136=>((text_Short.f k t1134 a1).bind fun bt1138=>((text_Parse.f k t1134 bt1136.1).bind fun bt1140=>((text_Parse.f k t1134 bt1138.1).bind fun bt1142=>((text_Decimal.f k t1134 a1).bind fun bt1144=>((text_Of.f k t1134 bt1144.1 bt1144.2.1 bt1144.2.2.1 bt1144.2.2.2.1).bind fun bt1150=>(if t1133=true then (if bt1136.2.isNone=true then (if bt1138.2.isNone=true then (if bt1140.2.isNone=true then (if bt1142.2.isNone=true then (if bt1144.2.2.2.2.isNone=true then (if bt1150.2.isNone=true then (if bt1140.1=t1135 then (if bt1142.1=t1135 then (if bt1150.1=t1135 then (some (decide ((bt1138.1.size:Int)≤(wrap64 ((bt1136.1.size:Int)+30))))) else (some false)) else (some false)) else (some false)) else (some false)) else (some false)) else (some false)) else (some false)) else (some false)) else (some false)) else (some false))))))))))
theorem vernierlaw19_TextBack.calls (k:Nat) (a0:Int) (a1:Int) (r:Bool) (w:World) (h:vernierlaw19_TextBack.f k a0 a1=some r) (hr_:r=true:=by rfl) (htab:Fx.Laid w:=by exact Fx.Laid.below HTAB.out (by repeat (first|(with_reducible first|exact HB.out|apply below_alloc|apply pw_below_drewN|apply below_drew1|refine below_set ?_ (Aside0.out (by assumption)))|exact HB.out))) :
    Calls Tryz.prog 6 #[.int .i64 a0, .int .u64 a1] w fun e w'=>e = .returned (.bool r)∧Below w.heap.size w w':=by
 have HTAB:=am htab
 clear htab
 have HRT:=am hr_
 clear hr_
 have hu23:=Tryz.underlying23
 have hu27:=Tryz.underlying27
 have hu64:=Tryz.underlying64
 have HB:=am (Below.refl w.heap.size w)
 have H:=am h
 unfold vernierlaw19_TextBack.f at H
 clear h
 replace H:=zo H
 obtain ⟨t1133,A3,H⟩:=H
 replace H:=zo H
 obtain ⟨t1134,A4,H⟩:=H
 replace H:=zo H
 obtain ⟨t1135,A5,H⟩:=H
 replace H:=zo H
 obtain ⟨⟨t1136,t1137⟩,A6,H⟩:=H
 try dsimp only at H
 replace H:=zo H
 obtain ⟨⟨t1138,t1139⟩,A7,H⟩:=H
 try dsimp only at H
 replace H:=zo H
 obtain ⟨⟨t1140,t1141⟩,A8,H⟩:=H
 try dsimp only at H
 replace H:=zo H
 obtain ⟨⟨t1142,t1143⟩,A9,H⟩:=H
 try dsimp only at H
 replace H:=zo H
 obtain ⟨⟨t1144,t1145,t1146,t1147,t1148⟩,A10,H⟩:=H
 try dsimp only at H
 replace H:=zo H
 obtain ⟨⟨t1150,t1151⟩,A11,H⟩:=H
 try dsimp only at H
 cases t1133
 ·replace H:=zb0 H
  exact absurd (Option.some.inj H.out) (by rw [HRT.out];decide)
 replace H:=zb1 H
 rcases t1137 with _|q1152
 ·replace H:=zb1 H
  try simp only [errW_none,errW_some]
  rcases t1139 with _|q1153
  ·replace H:=zb1 H
   try simp only [errW_none,errW_some]
   rcases t1141 with _|q1154
   ·replace H:=zb1 H
    try simp only [errW_none,errW_some]
    rcases t1143 with _|q1155
    ·replace H:=zb1 H
     try simp only [errW_none,errW_some]
     rcases t1148 with _|q1156
     ·replace H:=zb1 H
      try simp only [errW_none,errW_some]
      rcases t1151 with _|q1157
      ·replace H:=zb1 H
       try simp only [errW_none,errW_some]
       replace H:=zsk H
       rcases H with ⟨c13b0,c13b1,H⟩|⟨c13b0,c13b1,c13,H⟩
       ·replace H:=zsk H
        rcases H with ⟨c14b0,c14b1,H⟩|⟨c14b0,c14b1,c14,H⟩
        ·replace H:=zsk H
         rcases H with ⟨c15b0,c15b1,H⟩|⟨c15b0,c15b1,c15,H⟩
         ·clear HRT
          obtain rfl:=Option.some.inj H.out
          go_enter Tryz.func6,Tryz.ntmps6
          go_wp2_with (first|((with_reducible refine gate_callee (f:=12) rfl ?_);refine zc (some 20) Tryz.func12 _ (vernierlaw19_shown.calls _ _ _ A3.out) ?_;rintro e w16 ⟨rfl,hb⟩;refine ⟨_,rfl,?_⟩;replace HB:=zBs HB hb;clear hb)|((with_reducible refine gate_callee (f:=22) rfl ?_);refine zc (some 22) Tryz.func22 _ (vernierlaw19_width.calls _ _ _ _ A4.out) ?_;rintro e w' ⟨rfl,⟨nd,rfl⟩⟩;refine ⟨_,rfl,?_⟩;(try (rw [drewN_self w16];generalize hq_:World.drewN w16 _=w16;have n0_:Aside0 (Below w.heap.size w w16):=⟨by rw [← hq_];exact (zB HB)⟩;clear HB hq_;have HB:=n0_;clear n0_)))|((with_reducible refine gate_callee (f:=23) rfl ?_);refine zc (some 25) Tryz.func23 _ (vernierref06_Fold.calls _ _ _ _ _ A5.out) ?_;rintro e w17 ⟨rfl,hb⟩;refine ⟨_,rfl,?_⟩;replace HB:=zBs HB hb;clear hb)|((with_reducible refine gate_callee (f:=17) rfl ?_);refine zc (some 29) Tryz.func17 _ (text_Exact.calls _ _ _ _ _ _ A6.out) ?_;rintro e w18 ⟨rfl,hb⟩;refine ⟨_,rfl,?_⟩;replace HB:=zBs HB hb;clear hb;(try simp only [errW_none,errW_some]))|((with_reducible refine gate_callee (f:=20) rfl ?_);refine zc (some 35) Tryz.func20 _ (text_Short.calls _ _ _ _ _ _ A7.out) ?_;rintro e w19 ⟨rfl,hb⟩;refine ⟨_,rfl,?_⟩;replace HB:=zBs HB hb;clear hb;(try simp only [errW_none,errW_some]))|((with_reducible refine gate_callee (f:=24) rfl ?_);refine zc (some 41) Tryz.func24 _ (text_Parse.calls _ _ _ _ _ _ A8.out) ?_;rintro e w20 ⟨rfl,hb⟩;refine ⟨_,rfl,?_⟩;replace HB:=zBs HB hb;clear hb;(try simp only [errW_none,errW_some]))|((with_reducible refine gate_callee (f:=24) rfl ?_);refine zc (some 47) Tryz.func24 _ (text_Parse.calls _ _ _ _ _ _ A9.out) ?_;rintro e w21 ⟨rfl,hb⟩;refine ⟨_,rfl,?_⟩;replace HB:=zBs HB hb;clear hb;(try simp only [errW_none,errW_some]))|((with_reducible refine gate_callee (f:=16) rfl ?_);refine zc (some 53) Tryz.func16 _ (text_Decimal.calls _ _ _ _ _ _ _ _ _ A10.out) ?_;rintro e w22 ⟨rfl,hb⟩;refine ⟨_,rfl,?_⟩;replace HB:=zBs HB hb;clear hb;(try simp only [errW_none,errW_some]))|((with_reducible refine gate_dst (N:=16) rfl ?_);(try (refine gate_guard (by rfl) ?_;dsimp only));refine zx 16 23 #[.bool false, .bool false, .string (⟨#[]⟩:ByteArray), .int .i64 0] ?_;intro gb1149 hg w23 hbox hb;have BK1149:=am (hbox);have GW1149:=zG hg HB;have GE1149:=zG hg HB;replace HB:=zBs HB hb;clear hb hbox hg;obtain ⟨_,_,_,_,_,_,_,_⟩:=zf4 BK1149)|((with_reducible refine gate_callee (f:=13) rfl ?_);refine zc (some 59) Tryz.func13 _ (text_Of.calls _ _ _ _ _ _ _ _ _ A11.out) ?_;rintro e w25 ⟨rfl,hb⟩;refine ⟨_,rfl,?_⟩;replace BK1149:=am (blk_below (zKp BK1149) hb);replace HB:=zBs HB hb;clear hb;(try simp only [errW_none,errW_some])))
          go_ret
          exact ⟨z2,zB HB⟩
         exact absurd (Option.some.inj H.out) (by rw [HRT.out];decide)
        exact absurd (Option.some.inj H.out) (by rw [HRT.out];decide)
       exact absurd (Option.some.inj H.out) (by rw [HRT.out];decide)
      replace H:=zb0 H
      try simp only [Option.getD_some] at H
      try simp only [errW_none,errW_some]
      exact absurd (Option.some.inj H.out) (by rw [HRT.out];decide)
     replace H:=zb0 H
     try simp only [Option.getD_some] at H
     try simp only [errW_none,errW_some]
     exact absurd (Option.some.inj H.out) (by rw [HRT.out];decide)
    replace H:=zb0 H
    try simp only [Option.getD_some] at H
    try simp only [errW_none,errW_some]
    exact absurd (Option.some.inj H.out) (by rw [HRT.out];decide)
   replace H:=zb0 H
   try simp only [Option.getD_some] at H
   try simp only [errW_none,errW_some]
   exact absurd (Option.some.inj H.out) (by rw [HRT.out];decide)
  replace H:=zb0 H
  try simp only [Option.getD_some] at H
  try simp only [errW_none,errW_some]
  exact absurd (Option.some.inj H.out) (by rw [HRT.out];decide)
 replace H:=zb0 H
 try simp only [Option.getD_some] at H
 try simp only [errW_none,errW_some]
 exact absurd (Option.some.inj H.out) (by rw [HRT.out];decide)
end Go.Proofs.Yy.PTx
end
section
namespace Go.Proofs.Yy.PTx
open Go.RowKit Go.Proofs.Yw.PrintWords Go.Proofs.Yw.PrintLast Go.Proofs.Yw.PrintMore Go.Proofs.Yy.M Go.Proofs.Yy.TA Go.Proofs.Yy.SC
theorem power_l0 (m:Nat) (h:m≤63):∀ n i:Nat,i+n=m→Ev (fun k=>vernierref05_Power.l0 k (m:Int) ((2 ^ i:Nat):Int) (i:Int)) ((2 ^ m:Nat):Int):=by
 intro n
 induction n with
 | zero =>
  intro i hi
  obtain rfl:i=m:=by omega
  refine Ev.step (f:=fun _=>some ((2 ^ i:Nat):Int)) (fun k=>?_) (Ev.now _)
  simp only [vernierref05_Power.l0]
  rw [if_neg (by omega)]
 | succ n ih =>
  intro i hi
  have h1:2 ^ (i+1)<2 ^ 64:=Nat.pow_lt_pow_right (by omega) (by omega)
  have e:IntKind.u64.wrap (2 * ((2 ^ i:Nat):Int))=((2 ^ (i+1):Nat):Int):=by
   rw [IntKind.wrap_u64]
   rw [Nat.pow_succ] at h1 ⊢
   omega
  refine Ev.step (f:=fun k=>vernierref05_Power.l0 k (m:Int) ((2 ^ (i+1):Nat):Int) ((i+1:Nat):Int)) (fun k=>?_) (ih (i+1) (by omega))
  simp only [vernierref05_Power.l0]
  rw [if_pos (by omega),e,tw64 (by omega) (by omega)]
  rfl
theorem Power_ev {n:Nat} (hw:Wd n):Ev (fun k=>vernierref05_Power.f k (wrap64 ((n:Int) - 1))) ((2 ^ (n - 1):Nat):Int):=by
 obtain ⟨h8,h64⟩:=hw.bounds
 rw [tw64 (by omega) (by omega),show ((n:Int) - 1)=((n - 1:Nat):Int) by omega]
 exact power_l0 (n - 1) (by omega) (n - 1) 0 (by omega)
theorem ofD_nar {n:Nat} {d:D} (h:d.nar=true):ofD n d=2 ^ (n - 1):=by
 unfold ofD nrm
 rw [if_pos h,if_pos h]
theorem bs_top (w v:Nat):bs (w+1) v=bit1 (v / 2 ^ w) :: bs w v:=by
 have h:=bs_append 1 (v / 2 ^ w) w v
 rw [Nat.mul_comm,Nat.div_add_mod,Nat.add_comm] at h
 rw [← h];rfl
theorem str_num (l:List UInt8):strOfNums (l.map fun c=>(c.toNat:Int))=mkB l:=by
 unfold strOfNums mkB
 rw [List.map_map]
 congr 2
 conv=>rhs;rw [← List.map_id l]
 exact List.map_congr_left fun c _=>by simp
theorem text01_l0 (p:Nat) (hp:p<2 ^ 64):∀ (j:Nat) (acc:List UInt8),acc.length+j≤64 →
  Ev (fun k=>vernierref01_Text.l0 k (p:Int) (acc.map fun c=>(c.toNat:Int)) ((j:Int) - 1)) (mkB (acc ++ bs j p)):=by
 intro j
 induction j with
 | zero =>
  intro acc h
  refine Ev.step (f:=fun _=>some (mkB (acc ++ bs 0 p))) (fun k=>?_) (Ev.now _)
  simp only [vernierref01_Text.l0]
  rw [if_neg (by omega),str_num]
  unfold bs
  rw [List.append_nil]
 | succ j ih =>
  intro acc h
  have hb:(48+(Int.tmod (shr .u64 (p:Int) (j:Int)) 2)) % 256=((bit1 (p / 2 ^ j)).toNat:Int):=by
   rw [shr_nat p j hp,bit_toNat,Int.tmod_eq_emod_of_nonneg (Int.natCast_nonneg _)]
   omega
  refine Ev.step (f:=fun k=>vernierref01_Text.l0 k (p:Int) ((acc ++ [bit1 (p / 2 ^ j)]).map fun c=>(c.toNat:Int)) ((j:Int) - 1)) (fun k=>?_) ?_
  ·simp only [vernierref01_Text.l0]
   rw [show (((j+1:Nat):Int) - 1)=(j:Int) by omega,if_pos (by omega),if_pos (by omega),if_pos (by rw [List.length_map];omega),hb,tw64 (by omega) (by omega),List.map_append]
   rfl
  ·have:=ih (acc ++ [bit1 (p / 2 ^ j)]) (by rw [List.length_append,List.length_singleton];omega)
   rw [List.append_assoc,List.singleton_append, ← bs_top] at this
   exact this
theorem Text01_ev (p:Nat) (hp:p<2 ^ 64) (n:Nat) (hn:n≤64):Ev (fun k=>vernierref01_Text.f k (p:Int) (n:Int)) (mkB (bs n p)):=by
 have h:=text01_l0 p hp n [] (by simp;exact hn)
 refine Ev.congr (fun k=>?_) h
 unfold vernierref01_Text.f
 rw [tw64 (by omega) (by omega)]
 rfl
theorem num_lt (l:List UInt8) (h:∀ c ∈ l,c=48∨c=49):num l<2 ^ l.length:=by
 obtain ⟨m,hm⟩:∃ m,m=l.length:=⟨_,rfl⟩
 induction m generalizing l with
 | zero=>obtain rfl:l = []:=List.length_eq_zero_iff.1 hm.symm;decide
 | succ m ih =>
  rcases List.eq_nil_or_concat l with rfl|⟨q,c,rfl⟩
  ·decide
  ·rw [List.concat_eq_append] at *
   have hq:q.length=m:=by rw [List.length_append,List.length_singleton] at hm;omega
   have h1:=ih q (fun x hx=>h x (List.mem_append_left _ hx)) hq.symm
   have h2:=h c (by simp)
   rw [num_snoc,List.length_append,List.length_singleton,Nat.pow_succ]
   have:c.toNat - 48≤1:=by rcases h2 with rfl|rfl <;> decide
   omega
theorem bs_bits (w:Nat):∀ v:Nat, ∀ c ∈ bs w v,c=48∨c=49:=by
 induction w with
 | zero=>intro v c hc;simp [bs] at hc
 | succ w ih =>
  intro v c hc
  rw [bs] at hc
  rcases List.mem_append.1 hc with hc|hc
  ·exact ih _ c hc
  ·rw [List.mem_singleton] at hc
   subst hc
   unfold bit1
   have:v % 2=0∨v % 2=1:=by omega
   rcases this with h|h <;> rw [h]
   ·left;rfl
   ·right;rfl
theorem number_l0 (l:List UInt8) (h:∀ c ∈ l,c=48∨c=49) (hl:l.length≤64):∀ n i:Nat,i+n=l.length→Ev (fun k=>vernierref01_Number.l0 k (mkB l) ((num (l.take i):Nat):Int) (i:Int)) ((num l:Nat):Int):=by
 intro n
 induction n with
 | zero =>
  intro i hi
  refine Ev.step (f:=fun _=>some ((num l:Nat):Int)) (fun k=>?_) (Ev.now _)
  simp only [vernierref01_Number.l0]
  rw [if_neg (by rw [mkB_size];omega),List.take_of_length_le (by omega)]
 | succ n ih =>
  intro i hi
  have hi2:i<l.length:=by omega
  have ht:l.take (i+1)=l.take i ++ [l[i]]:=by rw [List.take_append_getElem]
  have hb:=num_lt (l.take (i+1)) (fun c hc=>h c (List.mem_of_mem_take hc))
  rw [List.length_take,show min (i+1) l.length=i+1 by omega] at hb
  have hb2:2 ^ (i+1)≤2 ^ 64:=Nat.pow_le_pow_right (by decide) (by omega)
  have hc:=h l[i] (List.getElem_mem hi2)
  have hbt:=bt_mk hi2
  have hcv:((l[i].toNat:Int) - 48) % 256=((l[i].toNat - 48:Nat):Int)∧l[i].toNat - 48≤1:=by rcases hc with e|e <;> rw [e] <;> decide
  have e:IntKind.u64.wrap ((IntKind.u64.wrap (2 * ((num (l.take i):Nat):Int)))+(((bt (mkB l) (i:Int)) - 48) % 256))=((num (l.take (i+1)):Nat):Int):=by
   rw [hbt,hcv.1]
   rw [ht,num_snoc] at hb ⊢
   rw [p64] at hb2
   rw [IntKind.wrap_u64,IntKind.wrap_u64]
   have:=hcv.2
   omega
  refine Ev.step (f:=fun k=>vernierref01_Number.l0 k (mkB l) ((num (l.take (i+1)):Nat):Int) ((i+1:Nat):Int)) (fun k=>?_) (ih (i+1) (by omega))
  simp only [vernierref01_Number.l0]
  rw [if_pos (by rw [mkB_size];omega),if_pos (by omega),e,tw64 (by omega) (by omega)]
  rfl
theorem u64wf {c:Int} (h:(Lit.int .u64 c).wf=true):0≤c∧c≤18446744073709551615:=by
 simp [Lit.wf,IntKind.min,IntKind.max,IntKind.signed,IntKind.bits] at h
 omega
theorem is_wd {n:Nat} (hw:Wd n):vernierref05_Is.f (n:Int)=some true:=by
 rcases hw with rfl|rfl|rfl|rfl <;> rfl
theorem Fold_ev {n:Nat} (hw:Wd n) (p:Nat) (hp:p<2 ^ 64):Ev (fun k=>vernierref06_Fold.f k (n:Int) (p:Int)) ((p % 2 ^ n:Nat):Int):=by
 obtain ⟨h8,h64⟩:=hw.bounds
 have h1:=Text01_ev p hp n h64
 have h2:=number_l0 (bs n p) (bs_bits n p) (by rw [bs_len];exact h64) n 0 (by rw [bs_len];omega)
 rw [num_bs] at h2
 refine Ev.congr (f:=fun k=>((vernierref01_Text.f k (p:Int) (n:Int)).bind fun t776=>((vernierref01_Number.f k t776).bind fun t777=>(some (t777,(0:Int))))).bind fun bt778=>some bt778.1) (fun k=>?_) ?_
 ·unfold vernierref06_Fold.f vernierref05_Fold.f
  rw [is_wd hw]
  rfl
 ·refine Ev.bind (a:=(((p % 2 ^ n:Nat):Int),(0:Int))) ?_ (Ev.now _)
  refine Ev.bind h1 ?_
  refine Ev.bind (a:=((p % 2 ^ n:Nat):Int)) (g:=fun k=>vernierref01_Number.f k (mkB (bs n p))) ?_ (Ev.now _)
  refine Ev.congr (fun k=>?_) h2
  unfold vernierref01_Number.f
  rfl
end Go.Proofs.Yy.PTx
end
section
namespace Go.Proofs.Yy.SC
theorem decDigits_len:∀ (n u:Nat),u<10 ^ (n+1)→(Lib.decDigits u).length≤n+1
 | 0,u,h=>by rw [Lib.decDigits,dif_pos (by simpa using h)];simp
 | n+1,u,h=>by
  by_cases h1:u<10
  ·rw [Lib.decDigits,dif_pos h1];simp
  ·rw [Lib.decDigits,dif_neg h1]
   have:=decDigits_len n (u / 10) (by rw [Nat.div_lt_iff_lt_mul (by omega)];rw [Nat.pow_succ] at h;exact h)
   simp only [List.length_append,List.length_cons,List.length_nil]
   omega
theorem itoa_len {E:Int} (h:E.natAbs<10 ^ 8):(Lib.itoa E).length≤9:=by
 unfold Lib.itoa
 split
 ·have:=decDigits_len 7 E.natAbs h
  simp only [List.length_cons];omega
 ·have:=decDigits_len 7 E.toNat (by omega)
  omega
theorem textN_len {d:D} (hn:d.nar=false) (h1:d.ds.length≤4096) (h2 : -mostE≤d.e) (h3:d.e≤mostE):(textN d).length≤d.ds.length+32:=by
 have hm:mostE=1000000:=rfl
 obtain ⟨nar,neg,ds,e⟩:=d
 simp only at hn h1 h2 h3
 subst hn
 have hs:(if neg=true then [(45:UInt8)] else []).length≤1:=by split <;> simp
 unfold textN
 simp only [Bool.false_eq_true,if_false,List.length_append]
 by_cases c1:0≤e∧(ds.length:Int)+e≤21
 ·rw [if_pos c1];simp only [List.length_append,List.length_replicate];omega
 rw [if_neg c1]
 by_cases c2:1≤(ds.length:Int)+e∧(ds.length:Int)+e≤21
 ·rw [if_pos c2];simp only [List.length_append,List.length_take,List.length_drop,List.length_cons,List.length_nil];omega
 rw [if_neg c2]
 by_cases c3 : -5≤(ds.length:Int)+e∧(ds.length:Int)+e≤0
 ·rw [if_pos c3];simp only [List.length_append,List.length_replicate,List.length_cons,List.length_nil];omega
 rw [if_neg c3]
 have hi:=itoa_len (E:=(ds.length:Int)+e - 1) (by omega)
 have hf:(if 1<ds.length then [(46:UInt8)] ++ ds.drop 1 else []).length≤ds.length:=by
  split
  ·simp only [List.length_append,List.length_cons,List.length_nil,List.length_drop];omega
  ·simp
 generalize (if 1<ds.length then [(46:UInt8)] ++ ds.drop 1 else [])=F at hf ⊢
 simp only [List.length_append,List.length_take,List.length_cons,List.length_nil]
 omega
end Go.Proofs.Yy.SC
end
section
namespace Go.Proofs.Yy.PTx
open Go Go.Proofs.Yy.TA
open Go.Proofs.Yy.SC (D dg nrm formed lz rz tz mostE rz_split rz_noughts decDigits_ex decDigits_len)
theorem numL_app (l m:List UInt8):numL (l ++ m)=numL l * 10 ^ m.length+numL m:=by
 have:=fold_num m (numL l)
 unfold numL at *
 rw [List.foldl_append];exact this
theorem numL_rep:∀ k:Nat,numL (List.replicate k 48)=0
 | 0=>rfl
 | k+1=>by rw [List.replicate_succ,numL_cons,numL_rep k];simp
theorem numL_pad (l:List UInt8) (k:Nat):numL (l ++ List.replicate k 48)=numL l * 10 ^ k:=by
 rw [numL_app,numL_rep,List.length_replicate,Nat.add_zero]
theorem numL_lz (l:List UInt8):numL (lz l)=numL l:=by
 induction l with
 | nil=>rfl
 | cons c l ih =>
  unfold lz at *
  rw [List.dropWhile_cons]
  by_cases hc:(c == 48)=true
  ·rw [if_pos hc,ih,numL_cons,show c=48 by simpa using hc];simp
  ·rw [if_neg hc]
theorem tz_take (l:List UInt8) (k:Nat) (hk:k≤tz l):l=l.take (l.length - k) ++ List.replicate k 48:=by
 obtain ⟨n,hn⟩:=rz_split l
 have hl:l.length=(rz l).length+n:=by
  have:=congrArg List.length hn
  rwa [List.length_append,List.length_replicate] at this
 have ht:tz l=n:=by unfold tz;omega
 have e:l=(rz l ++ List.replicate (n - k) 48) ++ List.replicate k 48:=by
  rw [List.append_assoc,List.replicate_append_replicate,show n - k+k=n by omega];exact hn
 have e2:l.take (l.length - k)=rz l ++ List.replicate (n - k) 48:=by
  conv=>lhs;rw [e]
  rw [List.take_left' (by simp only [List.length_append,List.length_replicate];omega)]
 rw [e2];exact e
theorem nrm_val {d:D} (hn:d.nar=false) (h0:lz d.ds ≠ []):numD (nrm d) * denD d=numD d * denD (nrm d):=by
 obtain ⟨k,hk⟩:∃ k,min (tz (lz d.ds)) (mostE - d.e).toNat=k:=⟨_,rfl⟩
 have hkt:k≤tz (lz d.ds):=by omega
 have e1:(nrm d).ds=(lz d.ds).take ((lz d.ds).length - k)∧(nrm d).e=d.e+k:=by
  unfold nrm
  rw [if_neg (by rw [hn];decide),if_neg h0,hk]
  exact ⟨rfl,rfl⟩
 have e2:numL d.ds=numL (nrm d).ds * 10 ^ k:=by
  rw [e1.1, ← numL_pad, ← tz_take _ k hkt,numL_lz]
 obtain ⟨K,hK⟩:∃ K:Nat,K=d.e.natAbs+(nrm d).e.natAbs:=⟨_,rfl⟩
 have s1:=scale_num d K (by omega)
 have s2:=scale_num (nrm d) K (by omega)
 have e3:numL d.ds * 10 ^ (d.e+K).toNat=numL (nrm d).ds * 10 ^ ((nrm d).e+K).toNat:=by
  rw [e2,Nat.mul_assoc, ← Nat.pow_add,e1.2]
  congr 2
  have:=e1.2
  omega
 refine Nat.eq_of_mul_eq_mul_right (Nat.pow_pos (a:=10) (n:=K) (by decide)) ?_
 rw [Nat.mul_right_comm,s2,Nat.mul_right_comm (numD d),s1,e3]
 ac_rfl
theorem numL_dec (u:Nat):numL (Lib.decDigits u)=u:=by
 induction u using Nat.strongRecOn with
 | ind u ih =>
  by_cases h:u<10
  ·rw [Lib.decDigits,dif_pos h]
   unfold numL
   rw [List.foldl_cons,List.foldl_nil,(SC.dg_ofNat h).2];omega
  ·rw [Lib.decDigits,dif_neg h,numL_app,ih _ (by omega)]
   have h2:u % 10<10:=Nat.mod_lt _ (by decide)
   unfold numL
   rw [List.foldl_cons,List.foldl_nil,(SC.dg_ofNat h2).2]
   simp only [List.length_cons,List.length_nil]
   omega
theorem means_posD {n p:Nat} {s:Int} {M:Nat} (hn:3≤n) (hp:p≤2 ^ (n - 1) - 1) (h:Means n p s M) {v:D}
  (hv:numD v * 2 ^ (-(s - 63)).toNat=M * 2 ^ (s - 63).toNat * denD v):posD n v=p:=by
 have he:up s (numD v) * 2 ^ 63=M * dn s (denD v):=by
  unfold up dn
  by_cases h1:63≤s
  ·rw [show (-(s - 63)).toNat=0 by omega,Nat.pow_zero,Nat.mul_one] at hv
   rw [show (-s).toNat=0 by omega,Nat.pow_zero,Nat.mul_one,hv,show s.toNat=(s - 63).toNat+63 by omega,Nat.pow_add]
   ac_rfl
  ·rw [show (s - 63).toNat=0 by omega,Nat.pow_zero,Nat.mul_one] at hv
   by_cases h2:0≤s
   ·rw [show (-s).toNat=0 by omega,Nat.pow_zero,Nat.mul_one,show (2:Nat) ^ 63=2 ^ (-(s - 63)).toNat * 2 ^ s.toNat by rw [← Nat.pow_add];congr 1;omega, ← Nat.mul_assoc,hv]
    ac_rfl
   ·rw [show s.toNat=0 by omega,Nat.pow_zero,Nat.mul_one, ← hv,Nat.mul_assoc, ← Nat.pow_add]
    congr 2;omega
 obtain ⟨h1,h2⟩:=h.pos hn hp (denD_pos v) he
 unfold posD
 rw [scl_eq h1];exact h2
theorem nrm_ratio {a b:Nat} {d:D} (hn:d.nar=false) (h0:lz d.ds ≠ []) (h:numD d * a=b * denD d):numD (nrm d) * a=b * denD (nrm d):=by
 have hv:=nrm_val hn h0
 refine Nat.eq_of_mul_eq_mul_right (denD_pos d) ?_
 rw [Nat.mul_right_comm,hv,Nat.mul_right_comm,h]
 ac_rfl
theorem lz_dec {u:Nat} (h:0<u):lz (Lib.decDigits u) ≠ []:=fun e=>by
 have h1:=numL_lz (Lib.decDigits u)
 rw [e,numL_dec] at h1
 have:numL ([]:List UInt8)=0:=rfl
 omega
theorem dec_form {u:Nat} {e:Int} {neg:Bool} {K:Nat} (hu:0<u) (hK:u<10 ^ (K+1)) (hK2:K+1≤4096) (he1 : -mostE≤e) (he2:e≤mostE) :
  formed ⟨false,neg,Lib.decDigits u,e⟩=true∧lz (Lib.decDigits u) ≠ []∧numD ⟨false,neg,Lib.decDigits u,e⟩=u * 10 ^ e.toNat:=by
 have h1:=decDigits_len K u hK
 obtain ⟨h2,h3,_⟩:=decDigits_ex u
 refine ⟨?_,lz_dec hu,?_⟩
 ·unfold formed
  simp only [Bool.false_eq_true,if_false,Bool.and_eq_true,decide_eq_true_iff,Bool.not_eq_true',List.isEmpty_eq_false_iff]
  exact ⟨h3,by omega,h2,he1,he2⟩
 ·unfold numD;rw [numL_dec]
theorem pow_lt_ten:∀ k:Nat,2 ^ k<10 ^ (k / 3+1)
 | 0=>by decide
 | 1=>by decide
 | 2=>by decide
 | k+3=>by
  have:=pow_lt_ten k
  rw [show (k+3) / 3=k / 3+1 by omega,Nat.pow_add,Nat.pow_succ 10 (k / 3+1)]
  have:(2:Nat) ^ 3=8:=rfl
  omega
theorem dec_up {n p:Nat} {s:Int} {M m k:Nat} (hn:3≤n) (hp:p≤2 ^ (n - 1) - 1) (h:Means n p s M) (hM:M=m * 2 ^ k) (he:0≤s - 63+k) (neg:Bool) :
  posD n (nrm ⟨false,neg,Lib.decDigits (m * 2 ^ (s - 63+k).toNat),0⟩)=p:=by
 have hm:0<m:=Nat.pos_of_ne_zero fun e=>by subst e;have:=h.lo;rw [hM,Nat.zero_mul] at this;omega
 refine means_posD hn hp h (nrm_ratio rfl (lz_dec (Nat.mul_pos hm (Nat.two_pow_pos _))) ?_)
 unfold numD denD
 simp only
 rw [numL_dec,show (0:Int).toNat=0 from rfl,show (-(0:Int)).toNat=0 from rfl,Nat.pow_zero,Nat.mul_one,Nat.mul_one,hM,Nat.mul_assoc,Nat.mul_assoc, ← Nat.pow_add, ← Nat.pow_add]
 congr 2;omega
theorem dec_dn {n p:Nat} {s:Int} {M m k:Nat} (hn:3≤n) (hp:p≤2 ^ (n - 1) - 1) (h:Means n p s M) (hM:M=m * 2 ^ k) (he:s - 63+k<0) (neg:Bool) :
  posD n (nrm ⟨false,neg,Lib.decDigits (m * 5 ^ (-(s - 63+k)).toNat),s - 63+k⟩)=p:=by
 have hm:0<m:=Nat.pos_of_ne_zero fun e=>by subst e;have:=h.lo;rw [hM,Nat.zero_mul] at this;omega
 refine means_posD hn hp h (nrm_ratio rfl (lz_dec (Nat.mul_pos hm (Nat.pow_pos (by decide)))) ?_)
 unfold numD denD
 simp only
 obtain ⟨j,hj⟩:∃ j,(-(s - 63+k)).toNat=j:=⟨_,rfl⟩
 rw [numL_dec,show (s - 63+(k:Int)).toNat=0 by omega,Nat.pow_zero,Nat.mul_one,hj,show (s - 63).toNat=0 by omega,Nat.pow_zero,Nat.mul_one,hM,show (-(s - 63)).toNat=k+j by omega,Nat.pow_add,
  show (10:Nat) ^ j=5 ^ j * 2 ^ j by rw [← Nat.mul_pow]]
 ac_rfl
theorem means_low {n p:Nat} {s:Int} {M:Nat} (hn:n≤64) (h:Means n p s M) : -248≤s∧s≤248:=by
 have:=top_le hn
 have:=h.low
 have:=h.high
 omega
end Go.Proofs.Yy.PTx
end
