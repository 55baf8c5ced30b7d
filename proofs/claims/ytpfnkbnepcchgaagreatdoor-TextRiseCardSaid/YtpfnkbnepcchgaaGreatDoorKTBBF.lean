/- Part 32 of what the proof needs. -/
import Derived.Test.YtpfnkbnepcchgaaGreatDoorKTBBE
set_option linter.unusedSimpArgs false
set_option linter.unusedVariables false
section
set_option maxHeartbeats 20000000
set_option maxRecDepth 100000
namespace Go.Proofs.Yy.PTx
open Go.RowKit Go.Proofs.Yy.Z Go.Proofs.Yw.PrintWords Go.Proofs.Yw.PrintLast Go.Proofs.Yw.PrintMore
open Go.Proofs.Yy.M
attribute [local go_sem] runx_add64 runx_sub64 eql_cc eql_nc neq_cc neq_nc
attribute [local go_sem] max2_int min2_int max_two min_two max_three min_three max_four min_four
mutual
def vernierlaw19_TextRise.j0:Nat→Bool→Int→Int→Option Int→Int→Option Int→Bool→Bool→Bool→ByteArray→Int→Bool→Bool→ByteArray→Int→Option (Bool)
  | 0,_,_,_,_,_,_,_,_,_,_,_,_,_,_,_=>none
  | k+1,x7,x8,x9,x10,x11,x12,x44,x1236000,x1236001,x1236002,x1236003,x1237000,x1237001,x1237002,x1237003=>if x44=true then ((vernierref18_Formed.f k x1236000 x1236001 x1236002 x1236003).bind fun t1245=>((vernierref18_Formed.f k x1237000 x1237001 x1237002 x1237003).bind fun t1246=>(if x7=true then (if x10.isNone=true then (if (true == t1245)=true then (if x12.isNone=true then (some (true == t1246)) else (some (false == t1246))) else (some false)) else (if (false == t1245)=true then (if x12.isNone=true then (some (true == t1246)) else (some (false == t1246))) else (some false))) else (some false)))) else (if x1236000=true then (vernierlaw19_TextRise.j1 k x7 x8 x9 x11 true x1236000 x1236001 x1236002 x1236003 x1237000 x1237001 x1237002 x1237003) else (vernierlaw19_TextRise.j1 k x7 x8 x9 x11 x1237000 x1236000 x1236001 x1236002 x1236003 x1237000 x1237001 x1237002 x1237003))
def vernierlaw19_TextRise.j1:Nat→Bool→Int→Int→Int→Bool→Bool→Bool→ByteArray→Int→Bool→Bool→ByteArray→Int→Option (Bool)
  | 0,_,_,_,_,_,_,_,_,_,_,_,_,_=>none
  | k+1,x7,x8,x9,x11,x67,x1236000,x1236001,x1236002,x1236003,x1237000,x1237001,x1237002,x1237003=>if x67=true then ((vernierref05_Power.f k (wrap64 (x8 - 1))).bind fun t1250=>(if x7=true then (if x1236000=true then (if x9=t1250 then (if x1237000=true then (some (x11 == t1250)) else (some true)) else (some false)) else (if x1237000=true then (some (x11 == t1250)) else (some true))) else (some false))) else ((vernierref18_Cmp.f k x1236000 x1236001 x1236002 x1236003 x1237000 x1237001 x1237002 x1237003).bind fun t1251=>((order_Cmp.f x8 x9 x11).bind fun bt1252=>(if bt1252.2.isNone=true then (if t1251<0 then (if bt1252.1 > 0 then (vernierlaw19_TextRise.j2 k x7 x8 x9 true x1236000 x1236001 x1236002 x1236003) else (if t1251 > 0 then (if bt1252.1<0 then (vernierlaw19_TextRise.j2 k x7 x8 x9 true x1236000 x1236001 x1236002 x1236003) else (if t1251=0 then (vernierlaw19_TextRise.j2 k x7 x8 x9 (bt1252.1 != 0) x1236000 x1236001 x1236002 x1236003) else (vernierlaw19_TextRise.j2 k x7 x8 x9 false x1236000 x1236001 x1236002 x1236003))) else (if t1251=0 then (vernierlaw19_TextRise.j2 k x7 x8 x9 (bt1252.1 != 0) x1236000 x1236001 x1236002 x1236003) else (vernierlaw19_TextRise.j2 k x7 x8 x9 false x1236000 x1236001 x1236002 x1236003)))) else (if t1251 > 0 then (if bt1252.1<0 then (vernierlaw19_TextRise.j2 k x7 x8 x9 true x1236000 x1236001 x1236002 x1236003) else (if t1251=0 then (vernierlaw19_TextRise.j2 k x7 x8 x9 (bt1252.1 != 0) x1236000 x1236001 x1236002 x1236003) else (vernierlaw19_TextRise.j2 k x7 x8 x9 false x1236000 x1236001 x1236002 x1236003))) else (if t1251=0 then (vernierlaw19_TextRise.j2 k x7 x8 x9 (bt1252.1 != 0) x1236000 x1236001 x1236002 x1236003) else (vernierlaw19_TextRise.j2 k x7 x8 x9 false x1236000 x1236001 x1236002 x1236003)))) else (vernierlaw19_TextRise.j2 k x7 x8 x9 true x1236000 x1236001 x1236002 x1236003))))
def vernierlaw19_TextRise.j2:Nat→Bool→Int→Int→Bool→Bool→Bool→ByteArray→Int→Option (Bool)
  | 0,_,_,_,_,_,_,_,_=>none
  | k+1,x7,x8,x9,x127,x1236000,x1236001,x1236002,x1236003=>if x127=true then (some false) else ((text_Of.f k x8 x1236000 (!x1236001) x1236002 x1236003).bind fun bt1256=>((order_Neg.f x8 x9).bind fun bt1258=>(if x7=true then (if bt1256.2.isNone=true then (if bt1258.2.isNone=true then (some (bt1256.1 == bt1258.1)) else (some false)) else (some false)) else (some false))))
end
def vernierlaw19_TextRise.f (k:Nat) (a0:Int) (a1_0:Bool) (a1_1:Bool) (a1_2:ByteArray) (a1_3:Int) (a2_0:Bool) (a2_1:Bool) (a2_2:ByteArray) (a2_3:Int):Option (Bool):=(vernierlaw19_shown.f k).bind fun t1237=>((vernierlaw19_width.f k a0).bind fun t1238=>((text_Of.f k t1238 a1_0 a1_1 a1_2 a1_3).bind fun bt1239=>((text_Of.f k t1238 a2_0 a2_1 a2_2 a2_3).bind fun bt1241=>(if bt1239.2.isNone=true then (if bt1241.2.isNone=true then (vernierlaw19_TextRise.j0 k t1237 t1238 bt1239.1 none bt1241.1 none false a1_0 a1_1 a1_2 a1_3 a2_0 a2_1 a2_2 a2_3) else (vernierlaw19_TextRise.j0 k t1237 t1238 bt1239.1 none bt1241.1 (some (bt1241.2.getD 0)) true a1_0 a1_1 a1_2 a1_3 a2_0 a2_1 a2_2 a2_3)) else (vernierlaw19_TextRise.j0 k t1237 t1238 bt1239.1 (some (bt1239.2.getD 0)) bt1241.1 bt1241.2 true a1_0 a1_1 a1_2 a1_3 a2_0 a2_1 a2_2 a2_3)))))
theorem vernierlaw19_TextRise.calls (k:Nat) (a0:Int) (a1_0:Bool) (a1_1:Bool) (a1_2:ByteArray) (a1_3:Int) (a2_0:Bool) (a2_1:Bool) (a2_2:ByteArray) (a2_3:Int) (r:Bool) (w:World) (h:vernierlaw19_TextRise.f k a0 a1_0 a1_1 a1_2 a1_3 a2_0 a2_1 a2_2 a2_3=some r) (hr_:r=true:=by rfl) (htab:Fx.Laid w:=by exact Fx.Laid.below HTAB.out (by repeat (first|(with_reducible first|exact HB.out|apply below_alloc|apply pw_below_drewN|apply below_drew1|refine below_set ?_ (Aside0.out (by assumption)))|exact HB.out))) :
    Calls Tryz.prog 9 #[.int .i64 a0, .agg #[.bool a1_0, .bool a1_1, .string a1_2, .int .i64 a1_3], .agg #[.bool a2_0, .bool a2_1, .string a2_2, .int .i64 a2_3]] w fun e w'=>e = .returned (.bool r)∧Below w.heap.size w w':=by
 have HTAB:=am htab
 clear htab
 have HRT:=am hr_
 clear hr_
 have hu23:=Tryz.underlying23
 have hu27:=Tryz.underlying27
 have hu64:=Tryz.underlying64
 have HB:=am (Below.refl w.heap.size w)
 have H:=am h
 unfold vernierlaw19_TextRise.f at H
 clear h
 replace H:=zo H
 obtain ⟨t1237,A4,H⟩:=H
 replace H:=zo H
 obtain ⟨t1238,A5,H⟩:=H
 replace H:=zo H
 obtain ⟨⟨t1239,t1240⟩,A6,H⟩:=H
 try dsimp only at H
 replace H:=zo H
 obtain ⟨⟨t1241,t1242⟩,A7,H⟩:=H
 try dsimp only at H
 go_enter Tryz.func9,Tryz.ntmps9
 go_upto_region 5 with (first|((with_reducible refine gate_dst (N:=4) rfl ?_);refine zx 4 23 #[.bool a1_0, .bool a1_1, .string a1_2, .int .i64 a1_3] ?_;intro gb1235 hg w9 hbox hb;have BK1235:=am (hbox);have GW1235:=zG hg HB;have GE1235:=zG hg HB;replace HB:=zBs HB hb;clear hb hbox hg)|((with_reducible refine gate_dst (N:=5) rfl ?_);refine zx 5 23 #[.bool a2_0, .bool a2_1, .string a2_2, .int .i64 a2_3] ?_;intro gb1236 hg w10 hbox hb;have BK1236:=am (hbox);have GW1236:=zG hg HB;have GE1236:=zG hg HB;replace HB:=zBs HB hb;have NB1235_1236:=zNl hg BK1235;have NB1236_1235:=zNg hg BK1235;replace BK1235:=zKb BK1235 hb;clear hb hbox hg)|((with_reducible refine gate_callee (f:=12) rfl ?_);refine zc (some 24) Tryz.func12 _ (vernierlaw19_shown.calls _ _ _ A4.out) ?_;rintro e w11 ⟨rfl,hb⟩;refine ⟨_,rfl,?_⟩;replace BK1235:=zKb BK1235 hb;replace BK1236:=zKb BK1236 hb;replace HB:=zBs HB hb;clear hb)|((with_reducible refine gate_callee (f:=22) rfl ?_);refine zc (some 26) Tryz.func22 _ (vernierlaw19_width.calls _ _ _ _ A5.out) ?_;rintro e w' ⟨rfl,⟨nd,rfl⟩⟩;refine ⟨_,rfl,?_⟩;have hnb12:=NB1235_1236.out;have hnc12:=NB1236_1235.out;obtain ⟨_,_,_,_,_,_,_,_⟩:=zf4 BK1235)|((with_reducible refine gate_callee (f:=13) rfl ?_);refine zc (some 30) Tryz.func13 _ (text_Of.calls _ _ _ _ _ _ _ _ _ A6.out) ?_;rintro e w14 ⟨rfl,hb⟩;refine ⟨_,rfl,?_⟩;replace BK1235:=zKb BK1235 hb;replace BK1236:=zKb BK1236 hb;replace HB:=zBs HB hb;clear hb;(try simp only [errW_none,errW_some]);obtain ⟨_,_,_,_,_,_,_,_⟩:=zf4 BK1236)|((with_reducible refine gate_callee (f:=13) rfl ?_);refine zc (some 36) Tryz.func13 _ (text_Of.calls _ _ _ _ _ _ _ _ _ A7.out) ?_;rintro e w16 ⟨rfl,hb⟩;refine ⟨_,rfl,?_⟩;replace BK1235:=zKb BK1235 hb;replace BK1236:=zKb BK1236 hb;replace HB:=zBs HB hb;clear hb;(try simp only [errW_none,errW_some])))
 (try simp only [Act.put,List.setIfInBounds_toArray,List.set_cons_zero,List.set_cons_succ])
 go_cut [44] (fun v44 wc => ∃ (kq:Nat) (x44_7:Bool),v44 = .bool x44_7∧Aside0 (vernierlaw19_TextRise.j0 kq t1237 t1238 t1239 t1240 t1241 t1242 x44_7 a1_0 a1_1 a1_2 a1_3 a2_0 a2_1 a2_2 a2_3=some r)∧Aside0 (kq≤k)∧Aside0 (wc.heap[gb1235]? = some (.cells #[.bool a1_0, .bool a1_1, .string a1_2, .int .i64 a1_3] 23 (0,0)))∧Aside0 (wc.heap[gb1236]? = some (.cells #[.bool a2_0, .bool a2_1, .string a2_2, .int .i64 a2_3] 23 (0,0)))∧Aside0 (Below w.heap.size w wc))
 case first =>
  rcases t1240 with _|q1243
  replace H:=zb1 H
  try simp only [errW_none,errW_some]
  rcases t1242 with _|q1244
  replace H:=zb1 H
  try simp only [errW_none,errW_some]
  rotate_left
  replace H:=zb0 H
  try simp only [Option.getD_some] at H
  try simp only [errW_none,errW_some]
  rotate_left
  replace H:=zb0 H
  try simp only [Option.getD_some] at H
  try simp only [errW_none,errW_some]
  rotate_left
  all_goals (go_wp2)
  ·go_meet
   case rel=>exact ⟨_,(false),z1,H,⟨z5⟩,⟨zK BK1235⟩,⟨zK BK1236⟩,⟨zB HB⟩⟩
  ·go_meet
   case rel=>exact ⟨_,(true),z1,H,⟨z5⟩,⟨zK BK1235⟩,⟨zK BK1236⟩,⟨zB HB⟩⟩
  go_meet
  case rel=>exact ⟨_,(true),z1,H,⟨z5⟩,⟨zK BK1235⟩,⟨zK BK1236⟩,⟨zB HB⟩⟩
 case rest =>
  obtain ⟨kq,x44_7,rfl,H,HJ7,BK1235,BK1236,HB⟩:=hcut
  obtain _|kj7:=kq
  ·exact zz H rfl
  simp only [vernierlaw19_TextRise.j0] at H
  cases x44_7
  ·replace H:=zb0 H
   go_upto_region 9 with (fail)
   go_cut [67] (fun v67 wc => ∃ (kq:Nat) (x67_42:Bool),v67 = .bool x67_42∧Aside0 (vernierlaw19_TextRise.j1 kq t1237 t1238 t1239 t1241 x67_42 a1_0 a1_1 a1_2 a1_3 a2_0 a2_1 a2_2 a2_3=some r)∧Aside0 (kq≤kj7)∧Aside0 (wc.heap[gb1235]? = some (.cells #[.bool a1_0, .bool a1_1, .string a1_2, .int .i64 a1_3] 23 (0,0)))∧Aside0 (wc.heap[gb1236]? = some (.cells #[.bool a2_0, .bool a2_1, .string a2_2, .int .i64 a2_3] 23 (0,0)))∧Aside0 (Below w.heap.size w wc))
   case first =>
    cases a1_0
    replace H:=zb0 H
    have hnb47:=NB1235_1236.out
    have hnc47:=NB1236_1235.out
    obtain ⟨_,_,_,_,_,_,_,_⟩:=zf4 BK1235
    obtain ⟨_,_,_,_,_,_,_,_⟩:=zf4 BK1236
    rotate_left
    replace H:=zb1 H
    have hnb45:=NB1235_1236.out
    have hnc45:=NB1236_1235.out
    obtain ⟨_,_,_,_,_,_,_,_⟩:=zf4 BK1235
    rotate_left
    all_goals (go_wp2)
    ·go_meet
     case rel=>exact ⟨_,(a2_0),z1,H,⟨by have:=HJ7.out;first|omega|exact Nat.le_refl _⟩,⟨zK BK1235⟩,⟨zK BK1236⟩,⟨zB HB⟩⟩
    go_meet
    case rel=>exact ⟨_,(true),z1,H,⟨by have:=HJ7.out;first|omega|exact Nat.le_refl _⟩,⟨zK BK1235⟩,⟨zK BK1236⟩,⟨zB HB⟩⟩
   case rest =>
    obtain ⟨kq,x67_42,rfl,H,HJ42,BK1235,BK1236,HB⟩:=hcut
    obtain _|kj42:=kq
    ·exact zz H rfl
    simp only [vernierlaw19_TextRise.j1] at H
    cases x67_42
    ·replace H:=zb0 H
     replace H:=zo H
     obtain ⟨t1251,A69,H⟩:=H
     replace H:=zo H
     obtain ⟨⟨t1252,t1253⟩,A70,H⟩:=H
     try dsimp only at H
     have hnb72:=NB1235_1236.out
     have hnc72:=NB1236_1235.out
     obtain ⟨_,_,_,_,_,_,_,_⟩:=zf4 BK1235
     obtain ⟨_,_,_,_,_,_,_,_⟩:=zf4 BK1236
     go_upto_region 14 with (first|((with_reducible refine gate_callee (f:=31) rfl ?_);refine zc (some 94) Tryz.func31 _ (vernierref18_Cmp.calls _ _ _ _ _ _ _ _ _ _ _ A69.out) ?_;rintro e w75 ⟨rfl,hb⟩;refine ⟨_,rfl,?_⟩;replace BK1235:=zKb BK1235 hb;replace BK1236:=zKb BK1236 hb;replace HB:=zBs HB hb;clear hb)|((with_reducible refine gate_callee (f:=32) rfl ?_);refine zc (some 99) Tryz.func32 _ (order_Cmp.calls _ _ _ _ _ _ A70.out) ?_;rintro e w' ⟨rfl,⟨nd,rfl⟩⟩;refine ⟨_,rfl,?_⟩;(try simp only [errW_none,errW_some])))
     (try simp only [Act.put,List.setIfInBounds_toArray,List.set_cons_zero,List.set_cons_succ])
     go_cut [127] (fun v127 wc => ∃ (kq:Nat) (x127_70:Bool),v127 = .bool x127_70∧Aside0 (vernierlaw19_TextRise.j2 kq t1237 t1238 t1239 x127_70 a1_0 a1_1 a1_2 a1_3=some r)∧Aside0 (kq≤kj42)∧Aside0 (wc.heap[gb1235]? = some (.cells #[.bool a1_0, .bool a1_1, .string a1_2, .int .i64 a1_3] 23 (0,0)))∧Aside0 (wc.heap[gb1236]? = some (.cells #[.bool a2_0, .bool a2_1, .string a2_2, .int .i64 a2_3] 23 (0,0)))∧Aside0 (Below w.heap.size w wc))
     case first =>
      rcases t1253 with _|q1254
      replace H:=zb1 H
      try simp only [errW_none,errW_some]
      replace H:=zsd H
      rcases H with ⟨c76b0,H⟩|⟨c76b0,H⟩
      (first|rw [c76b0]|(simp only [i64_w,i32_w];rw [c76b0])|rw [c76b1]|skip)
      replace H:=zsdg H
      rcases H with ⟨c77b0,H⟩|⟨c77b0,H⟩
      rotate_left
      replace H:=zsdg H
      rcases H with ⟨c78b0,H⟩|⟨c78b0,H⟩
      replace H:=zsd H
      rcases H with ⟨c79b0,H⟩|⟨c79b0,H⟩
      rotate_left
      replace H:=zsk H
      rcases H with ⟨c80b0,c80b1,H⟩|⟨c80b0,c80b1,c80,H⟩
      rotate_left
      rotate_left
      replace H:=zsk H
      rcases H with ⟨c81b0,c81b1,H⟩|⟨c81b0,c81b1,c81,H⟩
      rotate_left
      rotate_left
      (first|rw [c76b0]|(simp only [i64_w,i32_w];rw [c76b0])|rw [c76b1]|skip)
      replace H:=zsdg H
      rcases H with ⟨c82b0,H⟩|⟨c82b0,H⟩
      replace H:=zsd H
      rcases H with ⟨c83b0,H⟩|⟨c83b0,H⟩
      rotate_left
      replace H:=zsk H
      rcases H with ⟨c84b0,c84b1,H⟩|⟨c84b0,c84b1,c84,H⟩
      rotate_left
      rotate_left
      replace H:=zsk H
      rcases H with ⟨c85b0,c85b1,H⟩|⟨c85b0,c85b1,c85,H⟩
      rotate_left
      rotate_left
      replace H:=zb0 H
      try simp only [Option.getD_some] at H
      try simp only [errW_none,errW_some]
      rotate_left
      all_goals (go_wp2)
      ·go_meet
       case rel=>exact ⟨_,(true),z1,H,⟨by have:=HJ7.out;have:=HJ42.out;first|omega|exact Nat.le_refl _⟩,⟨zK BK1235⟩,⟨zK BK1236⟩,⟨zB HB⟩⟩
      ·go_meet
       case rel=>exact ⟨_,(true),z1,H,⟨by have:=HJ7.out;have:=HJ42.out;first|omega|exact Nat.le_refl _⟩,⟨zK BK1235⟩,⟨zK BK1236⟩,⟨zB HB⟩⟩
      ·go_meet
       case rel=>exact ⟨_,((t1252 != 0)),z1,H,⟨by have:=HJ7.out;have:=HJ42.out;first|omega|exact Nat.le_refl _⟩,⟨zK BK1235⟩,⟨zK BK1236⟩,⟨zB HB⟩⟩
      ·go_meet
       case rel=>exact ⟨_,(false),z1,H,⟨by have:=HJ7.out;have:=HJ42.out;first|omega|exact Nat.le_refl _⟩,⟨zK BK1235⟩,⟨zK BK1236⟩,⟨zB HB⟩⟩
      ·go_meet
       case rel=>exact ⟨_,((t1252 != 0)),z1,H,⟨by have:=HJ7.out;have:=HJ42.out;first|omega|exact Nat.le_refl _⟩,⟨zK BK1235⟩,⟨zK BK1236⟩,⟨zB HB⟩⟩
      ·go_meet
       case rel=>exact ⟨_,(false),z1,H,⟨by have:=HJ7.out;have:=HJ42.out;first|omega|exact Nat.le_refl _⟩,⟨zK BK1235⟩,⟨zK BK1236⟩,⟨zB HB⟩⟩
      ·go_meet
       case rel=>exact ⟨_,(true),z1,H,⟨by have:=HJ7.out;have:=HJ42.out;first|omega|exact Nat.le_refl _⟩,⟨zK BK1235⟩,⟨zK BK1236⟩,⟨zB HB⟩⟩
      ·go_meet
       case rel=>exact ⟨_,((t1252 != 0)),z1,H,⟨by have:=HJ7.out;have:=HJ42.out;first|omega|exact Nat.le_refl _⟩,⟨zK BK1235⟩,⟨zK BK1236⟩,⟨zB HB⟩⟩
      ·go_meet
       case rel=>exact ⟨_,(false),z1,H,⟨by have:=HJ7.out;have:=HJ42.out;first|omega|exact Nat.le_refl _⟩,⟨zK BK1235⟩,⟨zK BK1236⟩,⟨zB HB⟩⟩
      ·go_meet
       case rel=>exact ⟨_,((t1252 != 0)),z1,H,⟨by have:=HJ7.out;have:=HJ42.out;first|omega|exact Nat.le_refl _⟩,⟨zK BK1235⟩,⟨zK BK1236⟩,⟨zB HB⟩⟩
      ·go_meet
       case rel=>exact ⟨_,(false),z1,H,⟨by have:=HJ7.out;have:=HJ42.out;first|omega|exact Nat.le_refl _⟩,⟨zK BK1235⟩,⟨zK BK1236⟩,⟨zB HB⟩⟩
      go_meet
      case rel=>exact ⟨_,(true),z1,H,⟨by have:=HJ7.out;have:=HJ42.out;first|omega|exact Nat.le_refl _⟩,⟨zK BK1235⟩,⟨zK BK1236⟩,⟨zB HB⟩⟩
     case rest =>
      obtain ⟨kq,x127_70,rfl,H,HJ70,BK1235,BK1236,HB⟩:=hcut
      obtain _|kj70:=kq
      ·exact zz H rfl
      simp only [vernierlaw19_TextRise.j2] at H
      cases x127_70
      ·replace H:=zb0 H
       replace H:=zo H
       obtain ⟨⟨t1256,t1257⟩,A87,H⟩:=H
       try dsimp only at H
       replace H:=zo H
       obtain ⟨⟨t1258,t1259⟩,A88,H⟩:=H
       try dsimp only at H
       cases t1237
       ·replace H:=zb0 H
        exact absurd (Option.some.inj H.out) (by rw [HRT.out];decide)
       replace H:=zb1 H
       rcases t1257 with _|q1260
       ·replace H:=zb1 H
        try simp only [errW_none,errW_some]
        rcases t1259 with _|q1261
        ·replace H:=zb1 H
         try simp only [errW_none,errW_some]
         clear HRT
         obtain rfl:=Option.some.inj H.out
         have hnb90:=NB1235_1236.out
         have hnc90:=NB1236_1235.out
         obtain ⟨_,_,_,_,_,_,_,_⟩:=zf4 BK1235
         go_upto_region 18 with (first|((with_reducible refine gate_dst (N:=19) rfl ?_);refine zx 19 23 #[.bool false, .bool false, .string (⟨#[]⟩:ByteArray), .int .i64 0] ?_;intro gb1255 hg w92 hbox hb;have BK1255:=am (hbox);have GW1255:=zG hg HB;have GE1255:=zG hg HB;replace HB:=zBs HB hb;have NB1235_1255:=zNl hg BK1235;have NB1255_1235:=zNg hg BK1235;replace BK1235:=zKb BK1235 hb;have NB1236_1255:=zNl hg BK1236;have NB1255_1236:=zNg hg BK1236;replace BK1236:=zKb BK1236 hb;clear hb hbox hg;have hnb93:=NB1255_1235.out;have hnc93:=NB1235_1255.out;have hnb94:=NB1255_1236.out;have hnc94:=NB1236_1255.out;obtain ⟨_,_,_,_,_,_,_,_⟩:=zf4 BK1255;obtain ⟨_,_,_,_,_,_,_,_⟩:=zf4 BK1235)|((with_reducible refine gate_callee (f:=13) rfl ?_);refine zc (some 136) Tryz.func13 _ (text_Of.calls _ _ _ _ _ _ _ _ _ A87.out) ?_;rintro e w97 ⟨rfl,hb⟩;refine ⟨_,rfl,?_⟩;replace BK1235:=zKb BK1235 hb;replace BK1236:=zKb BK1236 hb;replace BK1255:=am (blk_below (zKp BK1255) hb);replace HB:=zBs HB hb;clear hb;(try simp only [errW_none,errW_some]))|((with_reducible refine gate_callee (f:=33) rfl ?_);refine zc (some 142) Tryz.func33 _ (order_Neg.calls _ _ _ _ _ A88.out) ?_;rintro e w' ⟨rfl,⟨nd,rfl⟩⟩;refine ⟨_,rfl,?_⟩;(try simp only [errW_none,errW_some])))
         obtain ⟨W,hW⟩:∃ W:World,W=(((((w92.setCell ⟨gb1255,0,none⟩ (.bool a1_0)).setCell ⟨gb1255,1,none⟩ (.bool a1_1)).setCell ⟨gb1255,2,none⟩ (.string a1_2)).setCell ⟨gb1255,3,none⟩ (.int .i64 a1_3)).setCell ⟨gb1255,1,none⟩ (.bool !a1_1)):=⟨_,rfl⟩
         rw [← hW]
         have K1255:Aside0 (W.heap[gb1255]? = some (.cells #[.bool a1_0, .bool !a1_1, .string a1_2, .int .i64 a1_3] 23 (0,0))):=⟨by rw [hW];exact zKp BK1255⟩
         have K1235:Aside0 (W.heap[gb1235]? = some (.cells #[.bool a1_0, .bool a1_1, .string a1_2, .int .i64 a1_3] 23 (0,0))):=⟨by rw [hW];exact zK BK1235⟩
         have K1236:Aside0 (W.heap[gb1236]? = some (.cells #[.bool a2_0, .bool a2_1, .string a2_2, .int .i64 a2_3] 23 (0,0))):=⟨by rw [hW];exact zK BK1236⟩
         have KB:Aside0 (Below w.heap.size w W):=⟨by rw [hW];exact zB HB⟩
         clear hW
         replace BK1255:=K1255
         replace BK1235:=K1235
         replace BK1236:=K1236
         replace HB:=KB
         clear K1255 K1235 K1236 KB
         obtain ⟨_,_,_,_,_,_,_,_⟩:=zf4 BK1255
         go_wp2_with (first|((with_reducible refine gate_callee (f:=13) rfl ?_);refine zc (some 136) Tryz.func13 _ (text_Of.calls _ _ _ _ _ _ _ _ _ A87.out) ?_;rintro e w97 ⟨rfl,hb⟩;refine ⟨_,rfl,?_⟩;replace BK1235:=zKb BK1235 hb;replace BK1236:=zKb BK1236 hb;replace BK1255:=am (blk_below (zKp BK1255) hb);replace HB:=zBs HB hb;clear hb;(try simp only [errW_none,errW_some]))|((with_reducible refine gate_callee (f:=33) rfl ?_);refine zc (some 142) Tryz.func33 _ (order_Neg.calls _ _ _ _ _ A88.out) ?_;rintro e w' ⟨rfl,⟨nd,rfl⟩⟩;refine ⟨_,rfl,?_⟩;(try simp only [errW_none,errW_some])))
         go_ret
         exact ⟨z2,zB HB⟩
        replace H:=zb0 H
        try simp only [Option.getD_some] at H
        try simp only [errW_none,errW_some]
        exact absurd (Option.some.inj H.out) (by rw [HRT.out];decide)
       replace H:=zb0 H
       try simp only [Option.getD_some] at H
       try simp only [errW_none,errW_some]
       exact absurd (Option.some.inj H.out) (by rw [HRT.out];decide)
      replace H:=zb1 H
      exact absurd (Option.some.inj H.out) (by rw [HRT.out];decide)
    replace H:=zb1 H
    replace H:=zo H
    obtain ⟨t1250,A51,H⟩:=H
    cases t1237
    ·replace H:=zb0 H
     exact absurd (Option.some.inj H.out) (by rw [HRT.out];decide)
    replace H:=zb1 H
    cases a1_0
    replace H:=zb0 H
    cases a2_0
    replace H:=zb0 H
    clear HRT
    obtain rfl:=Option.some.inj H.out
    rotate_left
    replace H:=zb1 H
    clear HRT
    obtain rfl:=Option.some.inj H.out
    rotate_left
    replace H:=zb1 H
    replace H:=zsk H
    rcases H with ⟨c54b0,c54b1,H⟩|⟨c54b0,c54b1,c54,H⟩
    cases a2_0
    replace H:=zb0 H
    clear HRT
    obtain rfl:=Option.some.inj H.out
    rotate_left
    replace H:=zb1 H
    clear HRT
    obtain rfl:=Option.some.inj H.out
    rotate_left
    ·exact absurd (Option.some.inj H.out) (by rw [HRT.out];decide)
    all_goals (go_wp2_with (first|((with_reducible refine gate_callee (f:=27) rfl ?_);refine zc (some 70) Tryz.func27 _ (vernierref05_Power.calls _ _ _ _ A51.out) ?_;rintro e w' ⟨rfl,⟨nd,rfl⟩⟩;refine ⟨_,rfl,?_⟩;have hnb66:=NB1235_1236.out;have hnc66:=NB1236_1235.out;obtain ⟨_,_,_,_,_,_,_,_⟩:=zf4 BK1235;obtain ⟨_,_,_,_,_,_,_,_⟩:=zf4 BK1236)))
    ·go_ret
     exact ⟨z2,zB HB⟩
    ·go_ret
     exact ⟨z2,zB HB⟩
    ·go_ret
     exact ⟨z2,zB HB⟩
    go_ret
    exact ⟨z2,zB HB⟩
  replace H:=zb1 H
  replace H:=zo H
  obtain ⟨t1245,A18,H⟩:=H
  replace H:=zo H
  obtain ⟨t1246,A19,H⟩:=H
  cases t1237
  ·replace H:=zb0 H
   exact absurd (Option.some.inj H.out) (by rw [HRT.out];decide)
  replace H:=zb1 H
  rcases t1240 with _|q1247
  replace H:=zb1 H
  try simp only [errW_none,errW_some]
  replace H:=zs H
  rcases H with ⟨c21,H⟩|⟨c21,H⟩
  have c21b0:(true == t1245)=true:=c21
  (try (have c21b1:decide (true=t1245)=true:=by simpa using c21))
  (try (have c21b2:(true == t1245)=true:=by simpa using c21))
  clear c21
  rcases t1242 with _|q1248
  replace H:=zb1 H
  try simp only [errW_none,errW_some]
  clear HRT
  obtain rfl:=Option.some.inj H.out
  have hnb22:=NB1235_1236.out
  have hnc22:=NB1236_1235.out
  obtain ⟨_,_,_,_,_,_,_,_⟩:=zf4 BK1235
  rotate_left
  replace H:=zb0 H
  try simp only [Option.getD_some] at H
  try simp only [errW_none,errW_some]
  clear HRT
  obtain rfl:=Option.some.inj H.out
  have hnb27:=NB1235_1236.out
  have hnc27:=NB1236_1235.out
  obtain ⟨_,_,_,_,_,_,_,_⟩:=zf4 BK1235
  rotate_left
  ·have c21b0:(true == t1245)=false:=by simpa using c21
   (try (have c21b1:decide (true=t1245)=false:=by simpa using c21))
   (try (have c21b2:(true == t1245)=false:=by simpa using c21))
   (try (have c21b3:¬ (true=t1245):=by simpa using c21))
   clear c21
   exact absurd (Option.some.inj H.out) (by rw [HRT.out];decide)
  replace H:=zb0 H
  try simp only [Option.getD_some] at H
  try simp only [errW_none,errW_some]
  replace H:=zs H
  rcases H with ⟨c32,H⟩|⟨c32,H⟩
  have c32b0:(false == t1245)=true:=c32
  (try (have c32b1:decide (false=t1245)=true:=by simpa using c32))
  (try (have c32b2:(false == t1245)=true:=by simpa using c32))
  clear c32
  rcases t1242 with _|q1249
  replace H:=zb1 H
  try simp only [errW_none,errW_some]
  clear HRT
  obtain rfl:=Option.some.inj H.out
  have hnb33:=NB1235_1236.out
  have hnc33:=NB1236_1235.out
  obtain ⟨_,_,_,_,_,_,_,_⟩:=zf4 BK1235
  rotate_left
  replace H:=zb0 H
  try simp only [Option.getD_some] at H
  try simp only [errW_none,errW_some]
  clear HRT
  obtain rfl:=Option.some.inj H.out
  have hnb38:=NB1235_1236.out
  have hnc38:=NB1236_1235.out
  obtain ⟨_,_,_,_,_,_,_,_⟩:=zf4 BK1235
  rotate_left
  ·have c32b0:(false == t1245)=false:=by simpa using c32
   (try (have c32b1:decide (false=t1245)=false:=by simpa using c32))
   (try (have c32b2:(false == t1245)=false:=by simpa using c32))
   (try (have c32b3:¬ (false=t1245):=by simpa using c32))
   clear c32
   exact absurd (Option.some.inj H.out) (by rw [HRT.out];decide)
  all_goals (go_wp2_with (first|((with_reducible refine gate_callee (f:=28) rfl ?_);refine zc (some 46) Tryz.func28 _ (vernierref18_Formed.calls _ _ _ _ _ _ _ A18.out) ?_;rintro e w24 ⟨rfl,hb⟩;refine ⟨_,rfl,?_⟩;replace BK1235:=zKb BK1235 hb;replace BK1236:=zKb BK1236 hb;replace HB:=zBs HB hb;clear hb;obtain ⟨_,_,_,_,_,_,_,_⟩:=zf4 BK1236)|((with_reducible refine gate_callee (f:=28) rfl ?_);refine zc (some 48) Tryz.func28 _ (vernierref18_Formed.calls _ _ _ _ _ _ _ A19.out) ?_;rintro e w26 ⟨rfl,hb⟩;refine ⟨_,rfl,?_⟩;replace BK1235:=zKb BK1235 hb;replace BK1236:=zKb BK1236 hb;replace HB:=zBs HB hb;clear hb)))
  ·go_ret
   exact ⟨z2,zB HB⟩
  ·go_ret
   exact ⟨z2,zB HB⟩
  ·go_ret
   exact ⟨z2,zB HB⟩
  go_ret
  exact ⟨z2,zB HB⟩
end Go.Proofs.Yy.PTx
end
section
namespace Go.Proofs.Yy.PTx
open Go.RowKit Go.Proofs.Yw.PrintWords Go.Proofs.Yw.PrintLast Go.Proofs.Yw.PrintMore Go.Proofs.Yy.TA
open Go.Proofs.Yy.SC (D)
def cmpP:List UInt8→List UInt8→Int
 | [], []=>0
 | c :: l, []=>if c.toNat<48 then -1 else if 48<c.toNat then 1 else cmpP l []
 | [],d :: m=>if 48<d.toNat then -1 else if d.toNat<48 then 1 else cmpP [] m
 | c :: l,d :: m=>if c.toNat<d.toNat then -1 else if d.toNat<c.toNat then 1 else cmpP l m
def Tells (c:Int) (a b:Nat):Prop:=(c = -1∧a<b)∨(c=0∧a=b)∨(c=1∧b<a)
theorem Tells.mul {c:Int} {a b k:Nat} (h:Tells c a b) (hk:0<k):Tells c (a * k) (b * k):=by
 rcases h with ⟨h1,h2⟩|⟨h1,h2⟩|⟨h1,h2⟩
 ·exact .inl ⟨h1,Nat.mul_lt_mul_of_pos_right h2 hk⟩
 ·exact .inr (.inl ⟨h1,by rw [h2]⟩)
 ·exact .inr (.inr ⟨h1,Nat.mul_lt_mul_of_pos_right h2 hk⟩)
theorem Tells.of_mul {c:Int} {a b k:Nat} (hk:0<k) (h:Tells c (a * k) (b * k)):Tells c a b:=by
 rcases h with ⟨h1,h2⟩|⟨h1,h2⟩|⟨h1,h2⟩
 ·exact .inl ⟨h1,Nat.lt_of_mul_lt_mul_right h2⟩
 ·exact .inr (.inl ⟨h1,Nat.eq_of_mul_eq_mul_right hk h2⟩)
 ·exact .inr (.inr ⟨h1,Nat.lt_of_mul_lt_mul_right h2⟩)
theorem Tells.add {c:Int} {a b k:Nat} (h:Tells c a b):Tells c (k+a) (k+b):=by
 rcases h with ⟨h1,h2⟩|⟨h1,h2⟩|⟨h1,h2⟩
 ·exact .inl ⟨h1,by omega⟩
 ·exact .inr (.inl ⟨h1,by omega⟩)
 ·exact .inr (.inr ⟨h1,by omega⟩)
theorem lead_lt {c d x y p q:Nat} (h:c<d) (hx:x<p) (hp:0<q):(c * p+x) * q<(d * q+y) * p:=by
 have h1:(c * p+x) * q<(c+1) * p * q:=Nat.mul_lt_mul_of_pos_right (by rw [Nat.add_mul,Nat.one_mul];omega) hp
 have h2:(c+1) * p * q≤d * p * q:=Nat.mul_le_mul_right _ (Nat.mul_le_mul_right _ h)
 have h3:(d * q+y) * p=d * p * q+y * p:=by rw [Nat.add_mul,Nat.mul_right_comm]
 omega
theorem cmpP_tells:∀ l m:List UInt8,Dgs l→Dgs m→Tells (cmpP l m) (numL l * 10 ^ m.length) (numL m * 10 ^ l.length)
 | [], [],_,_ => .inr (.inl ⟨by unfold cmpP;rfl,rfl⟩)
 | c :: l, [],hl,hm=>by
  have hc:=hl c List.mem_cons_self
  have ih:=cmpP_tells l [] (fun x hx=>hl x (List.mem_cons_of_mem _ hx)) hm
  have hz:numL []=0:=rfl
  rw [numL_cons]
  unfold cmpP
  rw [if_neg (by omega)]
  by_cases h:48<c.toNat
  ·rw [if_pos h,hz]
   refine .inr (.inr ⟨rfl,?_⟩)
   rw [Nat.zero_mul,List.length_nil,Nat.pow_zero,Nat.mul_one]
   have:=Nat.mul_pos (show 0<c.toNat - 48 by omega) (Nat.pow_pos (a:=10) (n:=l.length) (by decide))
   omega
  ·rw [if_neg h,show c.toNat - 48=0 by omega,Nat.zero_mul,Nat.zero_add]
   rw [hz,Nat.zero_mul] at ih ⊢
   exact ih
 | [],d :: m,hl,hm=>by
  have hd:=hm d List.mem_cons_self
  have ih:=cmpP_tells [] m hl (fun x hx=>hm x (List.mem_cons_of_mem _ hx))
  have hz:numL []=0:=rfl
  rw [numL_cons]
  unfold cmpP
  by_cases h:48<d.toNat
  ·rw [if_pos h,hz]
   refine .inl ⟨rfl,?_⟩
   rw [Nat.zero_mul,List.length_nil,Nat.pow_zero,Nat.mul_one]
   have:=Nat.mul_pos (show 0<d.toNat - 48 by omega) (Nat.pow_pos (a:=10) (n:=m.length) (by decide))
   omega
  ·rw [if_neg h,if_neg (by omega),show d.toNat - 48=0 by omega,Nat.zero_mul,Nat.zero_add]
   rw [hz,Nat.zero_mul] at ih ⊢
   exact ih
 | c :: l,d :: m,hl,hm=>by
  have hc:=hl c List.mem_cons_self
  have hd:=hm d List.mem_cons_self
  have hl':Dgs l:=fun x hx=>hl x (List.mem_cons_of_mem _ hx)
  have hm':Dgs m:=fun x hx=>hm x (List.mem_cons_of_mem _ hx)
  have ih:=cmpP_tells l m hl' hm'
  have h1:=numL_lt' hl'
  have h2:=numL_lt' hm'
  have p1:=Nat.pow_pos (a:=10) (n:=l.length) (by decide)
  have p2:=Nat.pow_pos (a:=10) (n:=m.length) (by decide)
  rw [numL_cons,numL_cons,List.length_cons,List.length_cons,Nat.pow_succ,Nat.pow_succ, ← Nat.mul_assoc, ← Nat.mul_assoc]
  refine Tells.mul ?_ (by decide)
  unfold cmpP
  by_cases h:c.toNat<d.toNat
  ·rw [if_pos h]
   exact .inl ⟨rfl,lead_lt (by omega) h1 p2⟩
  ·rw [if_neg h]
   by_cases h':d.toNat<c.toNat
   ·rw [if_pos h']
    exact .inr (.inr ⟨rfl,lead_lt (by omega) h2 p1⟩)
   ·rw [if_neg h',show d.toNat - 48=c.toNat - 48 by omega,Nat.add_mul,Nat.add_mul,Nat.mul_right_comm (c.toNat - 48) (10 ^ m.length)]
    exact Tells.add ih
def cmpM (x y:D):Int:=if (x.ds.length:Int)+x.e=y.ds.length+y.e then cmpP x.ds y.ds else if (x.ds.length:Int)+x.e<y.ds.length+y.e then -1 else 1
theorem less_of {a b p q:Nat} {u v:Nat} (ha:a<10 ^ u) (hb:10 ^ (v - 1)≤b) (hv:0<v) (h:u+p<v+q):a * 10 ^ p<b * 10 ^ q:=by
 have h1:a * 10 ^ p<10 ^ u * 10 ^ p:=Nat.mul_lt_mul_of_pos_right ha (Nat.pow_pos (by decide))
 have h2:10 ^ (v - 1) * 10 ^ q≤b * 10 ^ q:=Nat.mul_le_mul_right _ hb
 have h3:10 ^ (u+p)≤10 ^ (v - 1+q):=Nat.pow_le_pow_right (by decide) (by omega)
 rw [Nat.pow_add,Nat.pow_add] at h3
 omega
theorem cmpM_tells {x y:D} (hx:Lead x) (hy:Lead y):Tells (cmpM x y) (numD x * denD y) (numD y * denD x):=by
 obtain ⟨K,hK⟩:∃ K:Nat,K=x.e.natAbs+y.e.natAbs:=⟨_,rfl⟩
 have sx:=scale_num x K (by omega)
 have sy:=scale_num y K (by omega)
 obtain ⟨p,hp⟩:∃ p,(x.e+K).toNat=p:=⟨_,rfl⟩
 obtain ⟨q,hq⟩:∃ q,(y.e+K).toNat=q:=⟨_,rfl⟩
 rw [hp] at sx
 rw [hq] at sy
 have key:Tells (cmpM x y) (numL x.ds * 10 ^ p) (numL y.ds * 10 ^ q):=by
  unfold cmpM
  by_cases h:(x.ds.length:Int)+x.e=y.ds.length+y.e
  ·rw [if_pos h]
   have t:=(cmpP_tells x.ds y.ds hx.dgs hy.dgs).mul (k:=10 ^ (p+x.ds.length)) (Nat.pow_pos (by decide))
   refine Tells.of_mul (k:=10 ^ (x.ds.length+y.ds.length)) (Nat.pow_pos (by decide)) ?_
   have e1:numL x.ds * 10 ^ y.ds.length * 10 ^ (p+x.ds.length)=numL x.ds * 10 ^ p * 10 ^ (x.ds.length+y.ds.length):=by
    rw [Nat.mul_assoc,Nat.mul_assoc, ← Nat.pow_add, ← Nat.pow_add,show y.ds.length+(p+x.ds.length)=p+(x.ds.length+y.ds.length) by omega]
   have e2:numL y.ds * 10 ^ x.ds.length * 10 ^ (p+x.ds.length)=numL y.ds * 10 ^ q * 10 ^ (x.ds.length+y.ds.length):=by
    rw [Nat.mul_assoc,Nat.mul_assoc, ← Nat.pow_add, ← Nat.pow_add,show x.ds.length+(p+x.ds.length)=q+(x.ds.length+y.ds.length) by omega]
   rw [e1,e2] at t
   exact t
  ·rw [if_neg h]
   by_cases h':(x.ds.length:Int)+x.e<y.ds.length+y.e
   ·rw [if_pos h']
    exact .inl ⟨rfl,less_of (numL_lt' hx.dgs) hy.le hy.ne (by omega)⟩
   ·rw [if_neg h']
    exact .inr (.inr ⟨rfl,less_of (numL_lt' hy.dgs) hx.le hx.ne (by omega)⟩)
 have t2:=key.mul (k:=denD x * denD y) (Nat.mul_pos (denD_pos x) (denD_pos y))
 refine Tells.of_mul (k:=10 ^ K) (Nat.pow_pos (by decide)) ?_
 have e1:numL x.ds * 10 ^ p * (denD x * denD y)=numD x * denD y * 10 ^ K:=by rw [← Nat.mul_assoc, ← sx,Nat.mul_right_comm]
 have e2:numL y.ds * 10 ^ q * (denD x * denD y)=numD y * denD x * 10 ^ K:=by rw [Nat.mul_comm (denD x), ← Nat.mul_assoc, ← sy,Nat.mul_right_comm]
 rw [e1,e2] at t2
 exact t2
end Go.Proofs.Yy.PTx
end
section
namespace Go.Proofs.Yy.PTx
open Go.RowKit Go.Proofs.Yw.PrintWords Go.Proofs.Yw.PrintLast Go.Proofs.Yw.PrintMore Go.Proofs.Yy.TA Go.Proofs.Yy.SC
def at0 (l:List UInt8) (i:Nat):Int:=if h:i<l.length then ((l[i]'h).toNat:Int) else 48
theorem if3 {P Q P' Q':Prop} [Decidable P] [Decidable Q] [Decidable P'] [Decidable Q'] {a b c:Int} (h1:P ↔ P') (h2:Q ↔ Q'):(if P then a else if Q then b else c)=(if P' then a else if Q' then b else c):=by
 by_cases p:P
 ·rw [if_pos p,if_pos (h1.1 p)]
 ·rw [if_neg p,if_neg (fun h=>p (h1.2 h))]
  by_cases q:Q
  ·rw [if_pos q,if_pos (h2.1 q)]
  ·rw [if_neg q,if_neg (fun h=>q (h2.2 h))]
theorem cmpP_at (x y:List UInt8) (i:Nat) (h:i<x.length∨i<y.length):cmpP (x.drop i) (y.drop i)=if at0 x i<at0 y i then -1 else if at0 x i > at0 y i then 1 else cmpP (x.drop (i+1)) (y.drop (i+1)):=by
 unfold at0
 by_cases hx:i<x.length
 ·by_cases hy:i<y.length
  ·rw [List.drop_eq_getElem_cons hx,List.drop_eq_getElem_cons hy,dif_pos hx,dif_pos hy]
   conv=>lhs;unfold cmpP
   exact if3 (by omega) (by omega)
  ·rw [List.drop_eq_getElem_cons hx,List.drop_eq_nil_iff.2 (show y.length≤i by omega),List.drop_eq_nil_iff.2 (show y.length≤i+1 by omega),dif_pos hx,dif_neg hy]
   conv=>lhs;unfold cmpP
   exact if3 (by omega) (by omega)
 ·have hy:i<y.length:=by omega
  rw [List.drop_eq_getElem_cons hy,List.drop_eq_nil_iff.2 (show x.length≤i by omega),List.drop_eq_nil_iff.2 (show x.length≤i+1 by omega),dif_pos hy,dif_neg hx]
  conv=>lhs;unfold cmpP
  exact if3 (by omega) (by omega)
theorem size_l0 (xn xg yn yg:Bool) (xe ye:Int) (x y:List UInt8) (hx:x.length≤5000) (hy:y.length≤5000):∀ n i:Nat,i+n=5000 →
  Ev (fun k=>vernierref18_size.l0 k (i:Int) xn xg (mkB x) xe yn yg (mkB y) ye) (cmpP (x.drop i) (y.drop i)):=by
 have stop:∀ i:Nat,x.length≤i→y.length≤i→Ev (fun k=>vernierref18_size.l0 k (i:Int) xn xg (mkB x) xe yn yg (mkB y) ye) (cmpP (x.drop i) (y.drop i)):=by
  intro i h1 h2
  rw [List.drop_eq_nil_iff.2 h1,List.drop_eq_nil_iff.2 h2]
  refine Ev.step (f:=fun k=>vernierref18_size.j1 k (i:Int) false xn xg (mkB x) xe yn yg (mkB y) ye) (fun k=>?_) (Ev.step (f:=fun _=>some 0) (fun k=>?_) (by unfold cmpP;exact Ev.now _))
  ·simp only [vernierref18_size.l0]
   rw [if_neg (by rw [mkB_size];omega),decide_eq_false (by rw [mkB_size];omega)]
  ·simp only [vernierref18_size.j1]
   rfl
 intro n
 induction n with
 | zero=>intro i hi;exact stop i (by omega) (by omega)
 | succ n ih =>
  intro i hi
  by_cases h:i<x.length∨i<y.length
  ·have hj3:Ev (fun k=>vernierref18_size.j3 k (i:Int) (at0 x i) (at0 y i) xn xg (mkB x) xe yn yg (mkB y) ye) (cmpP (x.drop i) (y.drop i)):=by
    rw [cmpP_at x y i h]
    by_cases h1:at0 x i<at0 y i
    ·rw [if_pos h1]
     refine Ev.step (f:=fun _=>some (-1)) (fun k=>?_) (Ev.now _)
     simp only [vernierref18_size.j3]
     rw [if_pos h1]
    ·rw [if_neg h1]
     by_cases h2:at0 x i > at0 y i
     ·rw [if_pos h2]
      refine Ev.step (f:=fun _=>some 1) (fun k=>?_) (Ev.now _)
      simp only [vernierref18_size.j3]
      rw [if_neg h1,if_pos h2]
     ·rw [if_neg h2]
      refine Ev.step (f:=fun k=>vernierref18_size.l0 k ((i+1:Nat):Int) xn xg (mkB x) xe yn yg (mkB y) ye) (fun k=>?_) (ih (i+1) (by omega))
      simp only [vernierref18_size.j3]
      rw [if_neg h1,if_neg h2,wrap_id (by omega) (by omega)]
      rfl
   have hj2:Ev (fun k=>vernierref18_size.j2 k (i:Int) (at0 x i) 48 xn xg (mkB x) xe yn yg (mkB y) ye) (cmpP (x.drop i) (y.drop i)):=by
    by_cases h2:i<y.length
    ·have e:at0 y i=((y[i]'h2).toNat:Int):=dif_pos h2
     refine Ev.step (fun k=>?_) hj3
     simp only [vernierref18_size.j2]
     rw [if_pos (by rw [mkB_size];omega),if_pos (by omega),bt_mk h2,e]
    ·have e:at0 y i=48:=dif_neg h2
     refine Ev.step (fun k=>?_) hj3
     simp only [vernierref18_size.j2]
     rw [if_neg (by rw [mkB_size];omega),e]
   have hj1:Ev (fun k=>vernierref18_size.j1 k (i:Int) true xn xg (mkB x) xe yn yg (mkB y) ye) (cmpP (x.drop i) (y.drop i)):=by
    by_cases h2:i<x.length
    ·have e:at0 x i=((x[i]'h2).toNat:Int):=dif_pos h2
     refine Ev.step (fun k=>?_) hj2
     simp only [vernierref18_size.j1,if_true]
     rw [if_pos (by rw [mkB_size];omega),if_pos (by omega),bt_mk h2,e]
    ·have e:at0 x i=48:=dif_neg h2
     refine Ev.step (fun k=>?_) hj2
     simp only [vernierref18_size.j1,if_true]
     rw [if_neg (by rw [mkB_size];omega),e]
   refine Ev.step (fun k=>?_) hj1
   simp only [vernierref18_size.l0]
   by_cases h2:i<x.length
   ·rw [if_pos (by rw [mkB_size];omega)]
   ·rw [if_neg (by rw [mkB_size];omega),decide_eq_true (by rw [mkB_size];omega)]
  ·exact stop i (by omega) (by omega)
theorem size_ev (x y:D) (hx:x.ds.length≤5000) (hy:y.ds.length≤5000) (ex : -2000000≤x.e∧x.e≤2000000) (ey : -2000000≤y.e∧y.e≤2000000):Ev (fun k=>vernierref18_size.f k x.nar x.neg (mkB x.ds) x.e y.nar y.neg (mkB y.ds) y.e) (cmpM x y):=by
 unfold cmpM
 simp only [vernierref18_size.f,mkB_size]
 rw [wrap_id (by omega) (by omega),wrap_id (by omega) (by omega)]
 by_cases h:(x.ds.length:Int)+x.e=y.ds.length+y.e
 ·rw [if_pos h]
  simp only [if_pos h]
  exact size_l0 x.nar x.neg y.nar y.neg x.e y.e x.ds y.ds hx hy 5000 0 (by omega)
 ·rw [if_neg h]
  simp only [if_neg h]
  by_cases h2:(x.ds.length:Int)+x.e<y.ds.length+y.e
  ·rw [if_pos h2]
   simp only [if_pos h2]
   exact Ev.now _
  ·rw [if_neg h2]
   simp only [if_neg h2]
   exact Ev.now _
theorem sign_eq (d:D):vernierref18_sign.f d.nar d.neg (mkB d.ds) d.e=some (sgD d):=by
 unfold vernierref18_sign.f sgD
 rw [mkB_toList]
 by_cases h:d.ds = [48]
 ·rw [if_pos h,if_pos h]
 ·rw [if_neg h,if_neg h]
  cases d.neg <;> rfl
def cmpD (x y:D):Int:=if sgD x=sgD y then sgD x * cmpM x y else if sgD x<sgD y then -1 else 1
theorem cmpP_small:∀ l m:List UInt8, -1≤cmpP l m∧cmpP l m≤1
 | [], []=>by unfold cmpP;omega
 | c :: l, []=>by
  have ih:=cmpP_small l []
  unfold cmpP
  split
  ·omega
  ·split
   ·omega
   ·exact ih
 | [],d :: m=>by
  have ih:=cmpP_small [] m
  unfold cmpP
  split
  ·omega
  ·split
   ·omega
   ·exact ih
 | c :: l,d :: m=>by
  have ih:=cmpP_small l m
  unfold cmpP
  split
  ·omega
  ·split
   ·omega
   ·exact ih
theorem cmpM_small (x y:D) : -1≤cmpM x y∧cmpM x y≤1:=by
 unfold cmpM
 split
 ·exact cmpP_small _ _
 ·split <;> omega
theorem sgD_is (d:D):sgD d=0∨sgD d = -1∨sgD d=1:=by
 unfold sgD
 split
 ·exact .inl rfl
 ·split
  ·exact .inr (.inl rfl)
  ·exact .inr (.inr rfl)
theorem Cmp_ev (x y:D) (lx:x.ds.length≤5000) (ly:y.ds.length≤5000) (ex : -1000000≤x.e∧x.e≤1000000) (ey : -1000000≤y.e∧y.e≤1000000)
  (nx:(nrm x).ds.length≤5000 ∧ -2000000≤(nrm x).e∧(nrm x).e≤2000000) (ny:(nrm y).ds.length≤5000 ∧ -2000000≤(nrm y).e∧(nrm y).e≤2000000) :
  Ev (fun k=>vernierref18_Cmp.f k x.nar x.neg (mkB x.ds) x.e y.nar y.neg (mkB y.ds) y.e) (cmpD (nrm x) (nrm y)):=by
 simp only [vernierref18_Cmp.f]
 refine Ev.bind (Normed_ev x (by omega) ex.1 ex.2) ?_
 refine Ev.bind (Normed_ev y (by omega) ey.1 ey.2) ?_
 simp only [flatD,sign_eq,Option.bind_some]
 unfold cmpD
 by_cases h:sgD (nrm x)=sgD (nrm y)
 ·simp only [if_pos h]
  refine Ev.bind (size_ev (nrm x) (nrm y) nx.1 ny.1 nx.2 ny.2) ?_
  have h1:=sgD_is (nrm x)
  have h2:=cmpM_small (nrm x) (nrm y)
  rw [wrap_id (by rcases h1 with e|e|e <;> rw [e] <;> omega) (by rcases h1 with e|e|e <;> rw [e] <;> omega)]
  exact Ev.now _
 ·simp only [if_neg h]
  by_cases h2:sgD (nrm x)<sgD (nrm y)
  ·simp only [if_pos h2]
   exact Ev.now _
  ·simp only [if_neg h2]
   exact Ev.now _
end Go.Proofs.Yy.PTx
end
section
namespace Go.Proofs.Yy.PTx
open Go.RowKit Go.Proofs.Yw.PrintWords Go.Proofs.Yw.PrintLast Go.Proofs.Yw.PrintMore Go.Proofs.Yy.M Go.Proofs.Yy.TA Go.Proofs.Yy.SC
theorem shr_i64 (x:Int) (k:Nat) (h:k≤64):shr .i64 x (k:Int)=x / ((2 ^ k:Nat):Int):=by
 unfold shr
 rw [Int.toNat_natCast,show min k IntKind.i64.bits=k from Nat.min_eq_left h,Int.natCast_pow]
 rfl
theorem rank_ev {n:Nat} (h:Wd n) {p:Nat} (hp:p<2 ^ n):shape_Rank.f (n:Int) (p:Int)=some (rnk n p,none):=by
 obtain ⟨h8,h64⟩:=h.bounds
 have hq:2 ^ n * 2 ^ (64 - n)=18446744073709551616:=by rw [← Nat.pow_add,show n+(64 - n)=64 by omega]
 have hlt:p * 2 ^ (64 - n)<18446744073709551616:=by rw [← hq];exact Nat.mul_lt_mul_of_pos_right hp (Nat.two_pow_pos _)
 have h63:2 ^ (n - 1) * 2 ^ (64 - n)=9223372036854775808:=by rw [← Nat.pow_add,show n - 1+(64 - n)=63 by omega]
 have hk:(((2 ^ (64 - n):Nat):Int))≠0:=by have:=Nat.two_pow_pos (64 - n);omega
 unfold shape_Rank.f
 rw [shape_is_spec h]
 simp only [Option.bind_some,if_true]
 unfold lead_Extend.f
 rw [if_neg (by omega),if_neg (by omega),tw64 (x:=64 - (n:Int)) (by omega) (by omega),show ((64:Int) - (n:Int))=((64 - n:Nat):Int) by omega,if_pos (Int.natCast_nonneg _),shl_nat,Nat.mod_eq_of_lt hlt,shr_i64 _ _ (by omega)]
 simp only [Option.bind_some]
 unfold rnk
 by_cases hc:p<2 ^ (n - 1)
 ·rw [if_pos hc]
  have h6:p * 2 ^ (64 - n)<9223372036854775808:=by rw [← h63];exact Nat.mul_lt_mul_of_pos_right hc (Nat.two_pow_pos _)
  rw [tw64 (by omega) (by omega),Int.natCast_mul,Int.mul_ediv_cancel _ hk]
 ·rw [if_neg hc]
  have h6:9223372036854775808≤p * 2 ^ (64 - n):=by rw [← h63];exact Nat.mul_le_mul_right _ (by omega)
  have e1:((p:Int) - ((2 ^ n:Nat):Int)) * ((2 ^ (64 - n):Nat):Int)=((p * 2 ^ (64 - n):Nat):Int) - 18446744073709551616:=by
   rw [Int.sub_mul, ← Int.natCast_mul, ← Int.natCast_mul,hq];rfl
  have e2:wrap64 ((p * 2 ^ (64 - n):Nat):Int)=((p:Int) - ((2 ^ n:Nat):Int)) * ((2 ^ (64 - n):Nat):Int):=by
   rw [e1]
   unfold wrap64
   omega
  rw [e2,Int.mul_ediv_cancel _ hk]
theorem oCmp {n:Nat} (h:Wd n) {p q:Nat} (hp:p<2 ^ n) (hq:q<2 ^ n):order_Cmp.f (n:Int) (p:Int) (q:Int)=some (if rnk n p<rnk n q then -1 else if rnk n p > rnk n q then 1 else 0,none):=by
 unfold order_Cmp.f
 rw [rank_ev h hp,rank_ev h hq]
 simp only [Option.bind_some,Option.isNone_none,if_true]
 by_cases h1:rnk n p<rnk n q
 ·rw [if_pos h1,if_pos h1]
 ·rw [if_neg h1,if_neg h1]
  by_cases h2:rnk n p > rnk n q
  ·rw [if_pos h2,if_pos h2]
  ·rw [if_neg h2,if_neg h2]
theorem oNeg {n:Nat} (h:Wd n) {p:Nat} (hp:p<2 ^ n):order_Neg.f (n:Int) (p:Int)=some ((((2 ^ n - p) % 2 ^ n:Nat):Int),none):=by
 obtain ⟨h8,h64⟩:=h.bounds
 have h1:2 ^ n≤2 ^ 64:=Nat.pow_le_pow_right (by omega) h64
 unfold order_Neg.f
 rw [wrap_neg (by omega),Fold_spec h _ (Nat.mod_lt _ (Nat.two_pow_pos _)),neg_mod h64 (by omega)]
 rfl
theorem rise_core {n:Nat} (hn:3≤n) {x y:D} (hX:sgD x≠0→Lead x) (hY:sgD y≠0→Lead y) :
  (cmpD x y<0→sgD x * (posD n x:Int)≤sgD y * (posD n y:Int))∧(cmpD x y > 0→sgD y * (posD n y:Int)≤sgD x * (posD n x:Int))∧(cmpD x y=0→sgD x * (posD n x:Int)=sgD y * (posD n y:Int)):=by
 have hx:=sgD_is x
 have hy:=sgD_is y
 unfold cmpD
 by_cases h:sgD x=sgD y
 ·rw [if_pos h]
  rw [h] at hX ⊢
  by_cases h0:sgD y=0
  ·rw [h0];omega
  ·have LX:=hX h0
   have LY:=hY h0
   have m1:=posD_mono hn LX LY
   have m2:=posD_mono hn LY LX
   rcases cmpM_tells LX LY with ⟨e1,h1⟩|⟨e1,h1⟩|⟨e1,h1⟩
   ·have m1:=m1 (Nat.le_of_lt h1)
    rw [e1]
    rcases hy with e|e|e <;> rw [e] <;> omega
   ·have m1:=m1 (Nat.le_of_eq h1)
    have m2:=m2 (Nat.le_of_eq h1.symm)
    rw [e1]
    rcases hy with e|e|e <;> rw [e] <;> omega
   ·have m2:=m2 (Nat.le_of_lt h1)
    rw [e1]
    rcases hy with e|e|e <;> rw [e] <;> omega
 ·rw [if_neg h]
  by_cases h2:sgD x<sgD y
  ·rw [if_pos h2]
   rcases hx with e|e|e <;> rcases hy with f|f|f <;> rw [e,f] at h2 ⊢ <;> omega
  ·rw [if_neg h2]
   rcases hx with e|e|e <;> rcases hy with f|f|f <;> rw [e,f] at h h2 ⊢ <;> omega
def flipD (d:D):D:=⟨d.nar, !d.neg,d.ds,d.e⟩
theorem formed_flip {d:D} (h:d.nar=false):formed (flipD d)=formed d:=by
 unfold formed flipD
 simp only [h,Bool.false_eq_true,if_false]
theorem nrm_flip {d:D} (h:d.nar=false):(nrm (flipD d)).nar=false∧(nrm (flipD d)).ds=(nrm d).ds∧(nrm (flipD d)).e=(nrm d).e∧((nrm d).ds ≠ [48]→(nrm (flipD d)).neg = !(nrm d).neg):=by
 unfold nrm flipD
 simp only [h,Bool.false_eq_true,if_false]
 by_cases h0:lz d.ds = []
 ·simp [h0]
 ·simp [h0]
theorem posD_flip {n:Nat} {d:D} (h:d.nar=false):posD n (nrm (flipD d))=posD n (nrm d):=by
 obtain ⟨_,h2,h3,_⟩:=nrm_flip h
 unfold posD numD denD
 rw [h2,h3]
theorem ofD_flip {n:Nat} (hw:Wd n) {d:D} (hf:formed d=true) (h:d.nar=false):ofD n (flipD d)=(2 ^ n - ofD n d) % 2 ^ n:=by
 obtain ⟨h8,h64⟩:=hw.bounds
 have hz:2 ^ (n - 1) * 2=2 ^ n:=by rw [← Nat.pow_succ,show (n - 1).succ=n by omega]
 have hp:=Nat.two_pow_pos (n - 1)
 obtain ⟨h1,h2,h3,h4⟩:=nrm_flip h
 unfold ofD
 simp only [nrm_nar h,h1,h2,Bool.false_eq_true,if_false]
 by_cases h0:(nrm d).ds = [48]
 ·rw [if_pos h0,if_pos h0,Nat.sub_zero,Nat.mod_self]
 ·rw [if_neg h0,if_neg h0,h4 h0,posD_flip h]
  have hs:sgD (nrm d)=if (nrm d).neg=true then -1 else 1:=by unfold sgD;rw [if_neg h0]
  have L:=lead_norm hf h (by rw [hs];split <;> decide)
  have hb:1≤posD n (nrm d)∧posD n (nrm d)≤2 ^ (n - 1) - 1:=pos_bounds (by omega) (scl_sc L.pos (denD_pos _))
  unfold sgn
  cases (nrm d).neg with
  | true =>
   simp only [Bool.not_true,Bool.false_eq_true,if_false,if_true]
   rw [Nat.mod_eq_of_lt (show 2 ^ n - posD n (nrm d)<2 ^ n by omega),show 2 ^ n - (2 ^ n - posD n (nrm d))=posD n (nrm d) by omega]
  | false =>
   simp only [Bool.not_false,Bool.false_eq_true,if_false,if_true]
   rw [Nat.mod_eq_of_lt (show posD n (nrm d)<2 ^ n by omega)]
theorem rise {n:Nat} (hw:Wd n) {x y:D} (fx:formed x=true) (fy:formed y=true) (nx:x.nar=false) (ny:y.nar=false) :
  (cmpD (nrm x) (nrm y)<0→rnk n (ofD n x)≤rnk n (ofD n y))∧(cmpD (nrm x) (nrm y) > 0→rnk n (ofD n y)≤rnk n (ofD n x))∧(cmpD (nrm x) (nrm y)=0→rnk n (ofD n x)=rnk n (ofD n y)):=by
 rw [(ofD_rnk hw fx nx).2,(ofD_rnk hw fy ny).2]
 exact rise_core (by have:=hw.bounds;omega) (lead_norm fx nx) (lead_norm fy ny)
theorem formed_b {d:D} (hf:formed d=true) (h:d.nar=false):d.ds.length≤4096 ∧ -1000000≤d.e∧d.e≤1000000:=by
 have hm:mostE=1000000:=rfl
 unfold formed at hf
 simp [h] at hf
 omega
theorem norm_b {d:D} (hf:formed d=true) (h:d.nar=false):(nrm d).ds.length≤5000 ∧ -2000000≤(nrm d).e∧(nrm d).e≤2000000:=by
 have hm:mostE=1000000:=rfl
 rcases norm_nrm hf with e|⟨_,_,_,h3,h4,h5,_⟩
 ·have:=nrm_nar h
  rw [e] at this
  exact absurd this (by decide)
 ·omega
theorem rise_nar {n:Nat} (hw:Wd n) (x y:D) (h:x.nar=true∨y.nar=true):Ev (fun k=>vernierlaw19_TextRise.j1 k true (n:Int) ((ofD n x:Nat):Int) ((ofD n y:Nat):Int) true x.nar x.neg (mkB x.ds) x.e y.nar y.neg (mkB y.ds) y.e) true:=by
 apply Ev.step
 ·intro k
  simp only [vernierlaw19_TextRise.j1]
  rw [if_pos trivial]
 ·refine Ev.bind (Power_ev hw) ?_
  refine Ev.congr (f:=fun _=>some true) (fun k=>?_) (Ev.now _)
  by_cases h1:x.nar=true
  ·by_cases h2:y.nar=true
   ·simp [h1,h2,ofD_nar h1,ofD_nar h2]
   ·simp [h1,h2,ofD_nar h1]
  ·have h2:y.nar=true:=by rcases h with h|h;exact absurd h h1;exact h
   simp [h1,h2,ofD_nar h2]
theorem rise_j2 {n:Nat} (hw:Wd n) {x:D} (fx:formed x=true) (nx:x.nar=false):Ev (fun k=>vernierlaw19_TextRise.j2 k true (n:Int) ((ofD n x:Nat):Int) false x.nar x.neg (mkB x.ds) x.e) true:=by
 apply Ev.step
 ·intro k
  simp only [vernierlaw19_TextRise.j2]
  rw [if_neg (by decide)]
 ·refine Ev.bind (tOf_ev hw (flipD x)) ?_
  rw [formed_flip nx,if_pos fx,ofD_flip hw fx nx]
  refine Ev.congr (f:=fun _=>some true) (fun k=>?_) (Ev.now _)
  rw [oNeg hw (ofD_rnk hw fx nx).1]
  simp
theorem rise_j1 {n:Nat} (hw:Wd n) {x y:D} (fx:formed x=true) (fy:formed y=true) (nx:x.nar=false) (ny:y.nar=false):Ev (fun k=>vernierlaw19_TextRise.j1 k true (n:Int) ((ofD n x:Nat):Int) ((ofD n y:Nat):Int) false x.nar x.neg (mkB x.ds) x.e y.nar y.neg (mkB y.ds) y.e) true:=by
 have R:=rise hw fx fy nx ny
 have bx:=formed_b fx nx
 have by_:=formed_b fy ny
 apply Ev.step
 ·intro k
  simp only [vernierlaw19_TextRise.j1]
  rw [if_neg (by decide)]
 ·refine Ev.bind (Cmp_ev x y (by omega) (by omega) bx.2 by_.2 (norm_b fx nx) (norm_b fy ny)) ?_
  rw [oCmp hw (ofD_rnk hw fx nx).1 (ofD_rnk hw fy ny).1]
  simp only [Option.bind_some,Option.isNone_none,if_true]
  obtain ⟨o,ho⟩:∃ o,(if rnk n (ofD n x)<rnk n (ofD n y) then (-1:Int) else if rnk n (ofD n x) > rnk n (ofD n y) then 1 else 0)=o:=⟨_,rfl⟩
  rw [ho]
  generalize cmpD (nrm x) (nrm y)=c at R
  have H:(c<0 → ¬ o > 0)∧(c > 0 → ¬ o<0)∧(c=0→o=0):=by
   subst ho
   split
   ·omega
   ·split <;> omega
  have J:=rise_j2 hw fx nx
  by_cases c1:c<0
  ·have h2:¬ c > 0:=by omega
   have h3:¬ c=0:=by omega
   simp only [if_pos c1,if_neg (H.1 c1),if_neg h2,if_neg h3]
   exact J
  ·by_cases c2:c > 0
   ·have h3:¬ c=0:=by omega
    simp only [if_neg c1,if_pos c2,if_neg (H.2.1 c2),if_neg h3]
    exact J
   ·have h3:c=0:=by omega
    have h4:=H.2.2 h3
    simp only [if_neg c1,if_neg c2,if_pos h3,h4,bne_self_eq_false]
    exact J
theorem TextRise_ev (raw:Int) (x y:D) (lx:x.ds.length≤9223372036854775807) (ly:y.ds.length≤9223372036854775807):Ev (fun k=>vernierlaw19_TextRise.f k raw x.nar x.neg (mkB x.ds) x.e y.nar y.neg (mkB y.ds) y.e) true:=by
 obtain ⟨n,hw,hwe⟩:=width_ev raw
 have bad:∀ (o1 o2:Option Int) (p1 p2:Int),o1.isNone=formed x→o2.isNone=formed y→Ev (fun k=>vernierlaw19_TextRise.j0 k true (n:Int) p1 o1 p2 o2 true x.nar x.neg (mkB x.ds) x.e y.nar y.neg (mkB y.ds) y.e) true:=by
  intro o1 o2 p1 p2 h1 h2
  apply Ev.step
  ·intro k
   simp only [vernierlaw19_TextRise.j0]
   rw [if_pos trivial]
  ·refine Ev.bind (Formed_ev x lx) (Ev.bind (Formed_ev y ly) ?_)
   refine Ev.congr (f:=fun _=>some true) (fun k=>?_) (Ev.now _)
   rw [h1,h2]
   cases formed x <;> cases formed y <;> rfl
 refine Ev.bind shown_ev (Ev.bind hwe (Ev.bind (tOf_ev hw x) (Ev.bind (tOf_ev hw y) ?_)))
 by_cases fx:formed x=true
 ·by_cases fy:formed y=true
  ·simp only [if_pos fx,if_pos fy,Option.isNone_none,if_true]
   by_cases nx:x.nar=true
   ·refine Ev.step (fun k=>?_) (rise_nar hw x y (.inl nx))
    simp only [vernierlaw19_TextRise.j0]
    rw [if_neg (by decide),if_pos nx]
   ·have nx':x.nar=false:=by simpa using nx
    by_cases ny:y.nar=true
    ·refine Ev.step (fun k=>?_) (rise_nar hw x y (.inr ny))
     simp only [vernierlaw19_TextRise.j0]
     rw [if_neg (by decide),if_neg nx,ny]
    ·have ny':y.nar=false:=by simpa using ny
     refine Ev.step (fun k=>?_) (rise_j1 hw fx fy nx' ny')
     simp only [vernierlaw19_TextRise.j0]
     rw [if_neg (by decide),if_neg nx,ny']
  ·simp only [if_pos fx,if_neg fy,Option.isNone_none,Option.isNone_some,if_true,Bool.false_eq_true,if_false]
   exact bad _ _ _ _ (by rw [fx];rfl) (by simp at fy;rw [fy];rfl)
 ·by_cases fy:formed y=true
  ·simp only [if_neg fx,if_pos fy,Option.isNone_none,Option.isNone_some,if_true,Bool.false_eq_true,if_false]
   exact bad _ _ _ _ (by simp at fx;rw [fx];rfl) (by rw [fy];rfl)
  ·simp only [if_neg fx,if_neg fy,Option.isNone_none,Option.isNone_some,if_true,Bool.false_eq_true,if_false]
   exact bad _ _ _ _ (by simp at fx;rw [fx];rfl) (by simp at fy;rw [fy];rfl)
theorem TextRise_all (a0:Int) (a1_0 a1_1:Bool) (a1_2:ByteArray) (a1_3:Int) (a2_0 a2_1:Bool) (a2_2:ByteArray) (a2_3:Int) (w:World) (htab:Fx.Laid w) (hs1_2:a1_2.size≤maxLen) (hs2_2:a2_2.size≤maxLen) :
  Calls Tryz.prog 9 #[.int .i64 a0, .agg #[.bool a1_0, .bool a1_1, .string a1_2, .int .i64 a1_3], .agg #[.bool a2_0, .bool a2_1, .string a2_2, .int .i64 a2_3]] w fun e w'=>e = .returned (.bool true)∧Below w.heap.size w w':=by
 have hl1:a1_2.data.toList.length≤9223372036854775807:=by
  have e1:a1_2.data.toList.length=a1_2.size:=Array.length_toList
  rw [e1];unfold maxLen at hs1_2;omega
 have hl2:a2_2.data.toList.length≤9223372036854775807:=by
  have e1:a2_2.data.toList.length=a2_2.size:=Array.length_toList
  rw [e1];unfold maxLen at hs2_2;omega
 obtain ⟨k,hk⟩:=(TextRise_ev a0 ⟨a1_0,a1_1,a1_2.data.toList,a1_3⟩ ⟨a2_0,a2_1,a2_2.data.toList,a2_3⟩ hl1 hl2).rounds
 exact vernierlaw19_TextRise.calls k a0 a1_0 a1_1 a1_2 a1_3 a2_0 a2_1 a2_2 a2_3 true w hk rfl htab
end Go.Proofs.Yy.PTx
end
