/- Part 31 of what the proof needs. -/
import Derived.Test.YtpfnkbnepcchgaaGreatDoorKTBBB
set_option linter.unusedSimpArgs false
set_option linter.unusedVariables false
section
set_option maxHeartbeats 8000000
set_option maxRecDepth 100000
namespace Go.Proofs.Yy.PTx
open Go.RowKit Go.Proofs.Yy.Z Go.Proofs.Yw.PrintWords Go.Proofs.Yw.PrintLast Go.Proofs.Yw.PrintMore
open Go.Proofs.Yy.M
attribute [local go_sem] runx_add64 runx_sub64 eql_cc eql_nc neq_cc neq_nc
attribute [local go_sem] max2_int min2_int max_two min_two max_three min_three max_four min_four
def vernierref18_over.l0:Nat→ByteArray→Int→Option (Int)
  | 0,_,_=>none
  | k+1,x0,x1=>if x1<(x0.size:Int) then (if 0≤x1 then (if (bt x0 x1) ≥ 48 then (if (bt x0 x1)≤57 then (vernierref18_over.l0 k x0 (wrap64 (x1+1))) else (some x1)) else (some x1)) else (none)) else (some x1)
def vernierref18_over.f (k:Nat) (a0:ByteArray) (a1:Int):Option (Int):=vernierref18_over.l0 k a0 a1
theorem vernierref18_over.calls (k:Nat) (a0:ByteArray) (a1:Int) (r:Int) (w:World) (h:vernierref18_over.f k a0 a1=some r) :
    Calls Tryz.prog 66 #[.string a0, .int .i64 a1] w fun e w'=>e = .returned (.int .i64 r)∧Drawn0 w w':=by
 have H:=am h
 unfold vernierref18_over.f at H
 clear h
 go_enter Tryz.func66,Tryz.ntmps66
 go_wp2
 go_loopg [1] k (fun kq v1 w' => ∃ (x1_1:Int),v1 = .int .i64 x1_1∧Aside0 (vernierref18_over.l0 kq a0 x1_1=some r)∧Aside0 (kq≤k)∧Drawn0 w w')
 case atStart=>exact ⟨(a1),z1,H,zL,z4⟩
 clear H
 obtain ⟨x1_1,rfl,H,HK1,⟨m1,rfl⟩⟩:=hrel
 obtain _|k1:=gk
 ·exact zz H rfl
 simp only [vernierref18_over.l0] at H
 replace H:=zsd H
 rcases H with ⟨c3b0,H⟩|⟨c3b0,H⟩
 replace H:=zid H
 obtain ⟨c4b0,H⟩:=H
 replace H:=zsde H
 rcases H with ⟨c6b0,H⟩|⟨c6b0,H⟩
 replace H:=zsd H
 rcases H with ⟨c8b0,H⟩|⟨c8b0,H⟩
 have p5:0≤(x1_1:Int):=zD
 have q5:x1_1<(a0.size:Int):=zD
 have hx5:=bt_at a0 x1_1
 replace p5:=eq_true p5
 replace q5:=eq_true q5
 have p7:0≤(x1_1:Int):=zD
 have q7:x1_1<(a0.size:Int):=zD
 have hx7:=bt_at a0 x1_1
 replace p7:=eq_true p7
 replace q7:=eq_true q7
 rotate_left
 obtain rfl:=Option.some.inj H.out
 have p5:0≤(x1_1:Int):=zD
 have q5:x1_1<(a0.size:Int):=zD
 have hx5:=bt_at a0 x1_1
 replace p5:=eq_true p5
 replace q5:=eq_true q5
 have p7:0≤(x1_1:Int):=zD
 have q7:x1_1<(a0.size:Int):=zD
 have hx7:=bt_at a0 x1_1
 replace p7:=eq_true p7
 replace q7:=eq_true q7
 rotate_left
 obtain rfl:=Option.some.inj H.out
 have p5:0≤(x1_1:Int):=zD
 have q5:x1_1<(a0.size:Int):=zD
 have hx5:=bt_at a0 x1_1
 replace p5:=eq_true p5
 replace q5:=eq_true q5
 rotate_left
 obtain rfl:=Option.some.inj H.out
 rotate_left
 all_goals (go_wp2)
 ·go_roundg k1
  case measure=>have:=HK1.out;omega
  case rel=>exact ⟨(wrap64 (x1_1+1)),z1,H,(zH HK1),z4⟩
 ·go_ret
  exact ⟨z1,z4⟩
 ·go_ret
  exact ⟨z1,z4⟩
 go_ret
 exact ⟨z1,z4⟩
def vernierref18_Formed.f (k:Nat) (a0_0:Bool) (a0_1:Bool) (a0_2:ByteArray) (a0_3:Int):Option (Bool):=if a0_0=true then (if a0_1=true then (some false) else (if a0_2.toList=([]:List UInt8) then (some (a0_3 == 0)) else (some false))) else ((vernierref18_over.f k a0_2 0).bind fun t677=>(if a0_2.toList=([]:List UInt8) then (some false) else (if (a0_2.size:Int)≤4096 then (if t677=(a0_2.size:Int) then (if a0_3 ≥ (-1000000) then (some (decide (a0_3≤1000000))) else (some false)) else (some false)) else (some false))))
theorem vernierref18_Formed.calls (k:Nat) (a0_0:Bool) (a0_1:Bool) (a0_2:ByteArray) (a0_3:Int) (r:Bool) (w:World) (h:vernierref18_Formed.f k a0_0 a0_1 a0_2 a0_3=some r) :
    Calls Tryz.prog 28 #[.agg #[.bool a0_0, .bool a0_1, .string a0_2, .int .i64 a0_3]] w fun e w'=>e = .returned (.bool r)∧Below w.heap.size w w':=by
 have hu23:=Tryz.underlying23
 have HB:=am (Below.refl w.heap.size w)
 have H:=am h
 unfold vernierref18_Formed.f at H
 clear h
 cases a0_0
 replace H:=zb0 H
 replace H:=zo H
 obtain ⟨t677,A11,H⟩:=H
 replace H:=zsk H
 rcases H with ⟨c12b0,c12b1,H⟩|⟨c12b0,c12b1,c12,H⟩
 obtain rfl:=Option.some.inj H.out
 rotate_left
 replace H:=zs H
 rcases H with ⟨c15,H⟩|⟨c15,H⟩
 have c15b0:decide ((a0_2.size:Int)≤4096)=true:=decide_eq_true c15
 have c15b1:decide (a0_2.size≤4096)=true:=decide_eq_true (by omega)
 clear c15
 replace H:=zsk H
 rcases H with ⟨c16b0,c16b1,H⟩|⟨c16b0,c16b1,c16,H⟩
 replace H:=zsde H
 rcases H with ⟨c17b0,H⟩|⟨c17b0,H⟩
 obtain rfl:=Option.some.inj H.out
 rotate_left
 obtain rfl:=Option.some.inj H.out
 rotate_left
 obtain rfl:=Option.some.inj H.out
 rotate_left
 have c15b0:decide ((a0_2.size:Int)≤4096)=false:=decide_eq_false c15
 have c15b1:decide (a0_2.size≤4096)=false:=decide_eq_false (by omega)
 clear c15
 obtain rfl:=Option.some.inj H.out
 rotate_left
 replace H:=zb1 H
 cases a0_1
 replace H:=zb0 H
 replace H:=zsk H
 rcases H with ⟨c6b0,c6b1,H⟩|⟨c6b0,c6b1,c6,H⟩
 obtain rfl:=Option.some.inj H.out
 rotate_left
 obtain rfl:=Option.some.inj H.out
 rotate_left
 replace H:=zb1 H
 obtain rfl:=Option.some.inj H.out
 rotate_left
 all_goals (go_enter Tryz.func28,Tryz.ntmps28;go_wp2_with (first|((with_reducible refine gate_dst (N:=1) rfl ?_);(try (refine gate_guard (by rfl) ?_;dsimp only));refine zx 1 23 #[.bool false, .bool a0_1, .string a0_2, .int .i64 a0_3] ?_;intro gb676 hg w13 hbox hb;have BK676:=am (hbox);have GW676:=zG hg HB;have GE676:=zG hg HB;replace HB:=zBs HB hb;clear hb hbox hg;obtain ⟨_,_,_,_,_,_,_,_⟩:=zf4 BK676)|((with_reducible refine gate_callee (f:=66) rfl ?_);refine zc (some 21) Tryz.func66 _ (vernierref18_over.calls _ _ _ _ _ A11.out) ?_;rintro e w' ⟨rfl,⟨nd,rfl⟩⟩;refine ⟨_,rfl,?_⟩)|((with_reducible refine gate_dst (N:=1) rfl ?_);(try (refine gate_guard (by rfl) ?_;dsimp only));refine zx 1 23 #[.bool true, .bool false, .string a0_2, .int .i64 a0_3] ?_;intro gb676 hg w7 hbox hb;have BK676:=am (hbox);have GW676:=zG hg HB;have GE676:=zG hg HB;replace HB:=zBs HB hb;clear hb hbox hg;obtain ⟨_,_,_,_,_,_,_,_⟩:=zf4 BK676)|((with_reducible refine gate_dst (N:=1) rfl ?_);(try (refine gate_guard (by rfl) ?_;dsimp only));refine zx 1 23 #[.bool true, .bool true, .string a0_2, .int .i64 a0_3] ?_;intro gb676 hg w4 hbox hb;have BK676:=am (hbox);have GW676:=zG hg HB;have GE676:=zG hg HB;replace HB:=zBs HB hb;clear hb hbox hg;obtain ⟨_,_,_,_,_,_,_,_⟩:=zf4 BK676)))
 ·go_ret
  exact ⟨z2,zB HB⟩
 ·go_ret
  exact ⟨z2,zB HB⟩
 ·go_ret
  exact ⟨z2,zB HB⟩
 ·go_ret
  exact ⟨z2,zB HB⟩
 ·go_ret
  exact ⟨z2,zB HB⟩
 ·go_ret
  exact ⟨z2,zB HB⟩
 ·go_ret
  exact ⟨z2,zB HB⟩
 go_ret
 exact ⟨z2,zB HB⟩
mutual
def vernierref18_Normed.j1:Nat→Int→Bool→Bool→ByteArray→Int→Option (Bool × Bool × ByteArray × Int)
  | 0,_,_,_,_,_=>none
  | k+1,x3,x709000,x709001,x709002,x709003=>if x3=(x709002.size:Int) then (some (false,false,(⟨#[48]⟩:ByteArray),0)) else (if 0≤x3 then (if x3≤(x709002.size:Int) then (vernierref18_Normed.l1 k x709000 x709001 (x709002.extract (x3:Int).toNat x709002.size) x709003) else (none)) else (none))
def vernierref18_Normed.l1:Nat→Bool→Bool→ByteArray→Int→Option (Bool × Bool × ByteArray × Int)
  | 0,_,_,_,_=>none
  | k+1,x709000,x709001,x709002,x709003=>if 0≤(wrap64 ((x709002.size:Int) - 1)) then (if (wrap64 ((x709002.size:Int) - 1))<(x709002.size:Int) then (if (bt x709002 (wrap64 ((x709002.size:Int) - 1)))=48 then (if x709003<1000000 then (if (wrap64 ((x709002.size:Int) - 1))≤(x709002.size:Int) then (vernierref18_Normed.l1 k x709000 x709001 (x709002.extract 0 ((wrap64 ((x709002.size:Int) - 1)):Int).toNat) (wrap64 (x709003+1))) else (none)) else (some (x709000,x709001,x709002,x709003))) else (some (x709000,x709001,x709002,x709003))) else (none)) else (none)
def vernierref18_Normed.l0:Nat→Int→Bool→Bool→ByteArray→Int→Option (Bool × Bool × ByteArray × Int)
  | 0,_,_,_,_,_=>none
  | k+1,x3,x709000,x709001,x709002,x709003=>if x3<(x709002.size:Int) then (if 0≤x3 then (if (bt x709002 x3)=48 then (vernierref18_Normed.l0 k (wrap64 (x3+1)) x709000 x709001 x709002 x709003) else (vernierref18_Normed.j1 k x3 x709000 x709001 x709002 x709003)) else (none)) else (vernierref18_Normed.j1 k x3 x709000 x709001 x709002 x709003)
end
def vernierref18_Normed.f (k:Nat) (a0_0:Bool) (a0_1:Bool) (a0_2:ByteArray) (a0_3:Int):Option (Bool × Bool × ByteArray × Int):=if a0_0=true then (some (a0_0,a0_1,a0_2,a0_3)) else (vernierref18_Normed.l0 k 0 a0_0 a0_1 a0_2 a0_3)
theorem vernierref18_Normed.calls (k:Nat) (a0_0:Bool) (a0_1:Bool) (a0_2:ByteArray) (a0_3:Int) (r1:Bool) (r2:Bool) (r3:ByteArray) (r4:Int) (w:World) (h:vernierref18_Normed.f k a0_0 a0_1 a0_2 a0_3=some (r1,r2,r3,r4)) :
    Calls Tryz.prog 72 #[.agg #[.bool a0_0, .bool a0_1, .string a0_2, .int .i64 a0_3]] w fun e w'=>e = .returned (.agg #[.bool r1, .bool r2, .string r3, .int .i64 r4])∧Below w.heap.size w w':=by
 have hu23:=Tryz.underlying23
 have HB:=am (Below.refl w.heap.size w)
 have H:=am h
 unfold vernierref18_Normed.f at H
 clear h
 cases a0_0
 ·replace H:=zb0 H
  go_enter Tryz.func72,Tryz.ntmps72
  go_upto_block 0 with (first|((with_reducible refine gate_dst (N:=1) rfl ?_);refine zx 1 23 #[.bool false, .bool a0_1, .string a0_2, .int .i64 a0_3] ?_;intro gb708 hg w9 hbox hb;have BK708:=am (hbox);have GW708:=zG hg HB;have GE708:=zG hg HB;replace HB:=zBs HB hb;clear hb hbox hg)|((with_reducible refine gate_dst (N:=2) rfl ?_);refine zx 2 23 #[.bool false, .bool false, .string (⟨#[]⟩:ByteArray), .int .i64 0] ?_;intro gb709 hg w10 hbox hb;have BK709:=am (hbox);have GW709:=zG hg HB;have GE709:=zG hg HB;replace HB:=zBs HB hb;have NB708_709:=zNl hg BK708;have NB709_708:=zNg hg BK708;replace BK708:=zKb BK708 hb;clear hb hbox hg;have hnb11:=NB708_709.out;have hnc11:=NB709_708.out;obtain ⟨_,_,_,_,_,_,_,_⟩:=zf4 BK708))
  (try simp only [Act.put,List.setIfInBounds_toArray,List.set_cons_zero,List.set_cons_succ])
  go_cut [3] (fun v3 wc => ∃ (kq:Nat) (x3_7:Int),v3 = .int .i64 x3_7∧Aside0 (vernierref18_Normed.j1 kq x3_7 false a0_1 a0_2 a0_3=some (r1,r2,r3,r4))∧Aside0 (kq≤k)∧Aside0 (wc.heap[gb708]? = some (.cells #[.bool false, .bool a0_1, .string a0_2, .int .i64 a0_3] 23 (0,0)))∧Aside0 (wc.heap[gb709]? = some (.cells #[.bool false, .bool false, .string (⟨#[]⟩:ByteArray), .int .i64 0] 23 (0,0)))∧Aside0 (Below w.heap.size w wc))
  case first =>
   go_wp2
   go_loopg [3] k (fun kq v3 w' => ∃ (x3_1:Int),v3 = .int .i64 x3_1∧Aside0 (vernierref18_Normed.l0 kq x3_1 false a0_1 a0_2 a0_3=some (r1,r2,r3,r4))∧Aside0 (kq≤k)∧Aside0 (w'.heap[gb708]? = some (.cells #[.bool false, .bool a0_1, .string a0_2, .int .i64 a0_3] 23 (0,0)))∧Aside0 (w'.heap[gb709]? = some (.cells #[.bool false, .bool false, .string (⟨#[]⟩:ByteArray), .int .i64 0] 23 (0,0)))∧Aside0 (Below w.heap.size w w'))
   case atStart=>exact ⟨(0),z1,H,zL,⟨zK BK708⟩,⟨zK BK709⟩,⟨zB HB⟩⟩
   clear H
   obtain ⟨x3_1,rfl,H,HK1,BK708,BK709,HB⟩:=hrel
   obtain _|k1:=gk
   ·exact zz H rfl
   simp only [vernierref18_Normed.l0] at H
   replace H:=zsd H
   rcases H with ⟨c13b0,H⟩|⟨c13b0,H⟩
   (first|rw [c13b0]|(simp only [i64_w,i32_w];rw [c13b0])|rw [c13b1]|skip)
   replace H:=zid H
   obtain ⟨c14b0,H⟩:=H
   replace H:=zsk H
   rcases H with ⟨c16b0,c16b1,H⟩|⟨c16b0,c16b1,c16,H⟩
   have hnb17:=NB708_709.out
   have hnc17:=NB709_708.out
   obtain ⟨_,_,_,_,_,_,_,_⟩:=zf4 BK708
   have p15:0≤(x3_1:Int):=zD
   have q15:x3_1<(a0_2.size:Int):=zD
   have hx15:=bt_at a0_2 x3_1
   replace p15:=eq_true p15
   replace q15:=eq_true q15
   rotate_left
   have hnb19:=NB708_709.out
   have hnc19:=NB709_708.out
   obtain ⟨_,_,_,_,_,_,_,_⟩:=zf4 BK708
   have p15:0≤(x3_1:Int):=zD
   have q15:x3_1<(a0_2.size:Int):=zD
   have hx15:=bt_at a0_2 x3_1
   replace p15:=eq_true p15
   replace q15:=eq_true q15
   rotate_left
   (first|rw [c13b0]|(simp only [i64_w,i32_w];rw [c13b0])|rw [c13b1]|skip)
   have hnb21:=NB708_709.out
   have hnc21:=NB709_708.out
   obtain ⟨_,_,_,_,_,_,_,_⟩:=zf4 BK708
   rotate_left
   all_goals (go_wp2)
   ·go_roundg k1
    case measure=>have:=HK1.out;omega
    case rel=>exact ⟨(wrap64 (x3_1+1)),z1,H,(zH HK1),⟨zK BK708⟩,⟨zK BK709⟩,⟨zB HB⟩⟩
   ·go_meet
    case rel=>exact ⟨_,(x3_1),z1,H,⟨by have:=HK1.out;first|omega|exact Nat.le_refl _⟩,⟨zK BK708⟩,⟨zK BK709⟩,⟨zB HB⟩⟩
   go_meet
   case rel=>exact ⟨_,(x3_1),z1,H,⟨by have:=HK1.out;first|omega|exact Nat.le_refl _⟩,⟨zK BK708⟩,⟨zK BK709⟩,⟨zB HB⟩⟩
  case rest =>
   try clear hx1
   try clear hx15
   obtain ⟨kq,x3_7,rfl,H,HJ7,BK708,BK709,HB⟩:=hcut
   obtain _|kj7:=kq
   ·exact zz H rfl
   simp only [vernierref18_Normed.j1] at H
   replace H:=zsk H
   rcases H with ⟨c23b0,c23b1,H⟩|⟨c23b0,c23b1,c23,H⟩
   obtain ⟨rfl,rfl,rfl,rfl⟩:=zJ4 H
   have hnb24:=NB708_709.out
   have hnc24:=NB709_708.out
   obtain ⟨_,_,_,_,_,_,_,_⟩:=zf4 BK708
   obtain ⟨_,_,_,_,_,_,_,_⟩:=zf4 BK709
   rotate_left
   replace H:=zit H
   obtain ⟨c27b0,c27b1,H⟩:=H
   replace H:=zit H
   obtain ⟨c28b0,c28b1,H⟩:=H
   have hnb29:=NB708_709.out
   have hnc29:=NB709_708.out
   obtain ⟨_,_,_,_,_,_,_,_⟩:=zf4 BK708
   rotate_left
   all_goals (go_wp2)
   ·refine bodyPost_ret (results_cell_row rfl _ _ gb709 23 #[.bool false, .bool false, .string (⟨#[48]⟩:ByteArray), .int .i64 0] (0,0) _ rfl (zKp BK709) Tryz.underlying23 rfl (by kernel_rfl)) rfl ?_
    exact ⟨z2,zB HB⟩
   go_loopg [] kj7 (fun kq w' => ∃ (x709002_2:ByteArray) (x709003_2:Int),Aside0 (vernierref18_Normed.l1 kq false a0_1 x709002_2 x709003_2=some (r1,r2,r3,r4))∧Aside0 (kq≤kj7)∧Aside0 (w'.heap[gb708]? = some (.cells #[.bool false, .bool a0_1, .string x709002_2, .int .i64 x709003_2] 23 (0,0)))∧Aside0 (w'.heap[gb709]? = some (.cells #[.bool false, .bool false, .string (⟨#[]⟩:ByteArray), .int .i64 0] 23 (0,0)))∧Aside0 (Below w.heap.size w w'))
   case atStart=>exact ⟨(a0_2.extract (x3_7:Int).toNat a0_2.size),(a0_3),H,zL,⟨zKp BK708⟩,⟨zK BK709⟩,⟨zB HB⟩⟩
   clear H
   try clear hx1
   try clear hx15
   obtain ⟨x709002_2,x709003_2,H,HK2,BK708,BK709,HB⟩:=hrel
   obtain _|k2:=gk
   ·exact zz H rfl
   simp only [vernierref18_Normed.l1] at H
   generalize hji31:(wrap64 ((x709002_2.size:Int) - 1):Int)=ji31 at H
   have hji31w:(IntKind.i64.wrap ((x709002_2.size:Int) - 1))=ji31:=(i64_w _).trans hji31
   replace H:=zid H
   obtain ⟨c32b0,H⟩:=H
   replace H:=zid H
   obtain ⟨c33b0,H⟩:=H
   replace H:=zsk H
   rcases H with ⟨c35b0,c35b1,H⟩|⟨c35b0,c35b1,c35,H⟩
   replace H:=zsd H
   rcases H with ⟨c36b0,H⟩|⟨c36b0,H⟩
   have c37b0:=eq_true (zD:0≤(ji31))
   replace H:=zit H
   obtain ⟨c38b0,c38b1,H⟩:=H
   have hnb39:=NB708_709.out
   have hnc39:=NB709_708.out
   obtain ⟨_,_,_,_,_,_,_,_⟩:=zf4 BK708
   have p34:0≤((ji31):Int):=zD
   have q34:(ji31)<(x709002_2.size:Int):=zD
   have hx34:=bt_at x709002_2 (ji31)
   replace p34:=eq_true p34
   replace q34:=eq_true q34
   rotate_left
   obtain ⟨rfl,rfl,rfl,rfl⟩:=zJ4 H
   have hnb41:=NB708_709.out
   have hnc41:=NB709_708.out
   obtain ⟨_,_,_,_,_,_,_,_⟩:=zf4 BK708
   have p34:0≤((ji31):Int):=zD
   have q34:(ji31)<(x709002_2.size:Int):=zD
   have hx34:=bt_at x709002_2 (ji31)
   replace p34:=eq_true p34
   replace q34:=eq_true q34
   obtain ⟨_,_,_,_,_,_,_,_⟩:=zf4 BK709
   rotate_left
   obtain ⟨rfl,rfl,rfl,rfl⟩:=zJ4 H
   have hnb44:=NB708_709.out
   have hnc44:=NB709_708.out
   obtain ⟨_,_,_,_,_,_,_,_⟩:=zf4 BK708
   have p34:0≤((ji31):Int):=zD
   have q34:(ji31)<(x709002_2.size:Int):=zD
   have hx34:=bt_at x709002_2 (ji31)
   replace p34:=eq_true p34
   replace q34:=eq_true q34
   obtain ⟨_,_,_,_,_,_,_,_⟩:=zf4 BK709
   rotate_left
   all_goals (go_wp2)
   ·go_roundg k2
    case measure=>have:=HJ7.out;have:=HK2.out;omega
    case rel=>exact ⟨(x709002_2.extract 0 ((ji31):Int).toNat),(wrap64 (x709003_2+1)),H,⟨by have:=HJ7.out;have:=HK2.out;omega⟩,⟨zKp BK708⟩,⟨zK BK709⟩,⟨zB HB⟩⟩
   rotate_left
   rotate_left
   all_goals
    refine bodyPost_ret (results_cell_row rfl _ _ gb709 23 #[.bool false, .bool a0_1, .string x709002_2, .int .i64 x709003_2] (0,0) _ rfl (zKp BK709) Tryz.underlying23 rfl (by kernel_rfl)) rfl ?_
    exact ⟨by first|exact z3|(simp only [← hji31];exact z3)|exact z2,zB HB⟩
 replace H:=zb1 H
 obtain ⟨rfl,rfl,rfl,rfl⟩:=zJ4 H
 go_enter Tryz.func72,Tryz.ntmps72
 go_wp2_with (first|((with_reducible refine gate_dst (N:=1) rfl ?_);refine zx 1 23 #[.bool true, .bool a0_1, .string a0_2, .int .i64 a0_3] ?_;intro gb708 hg w3 hbox hb;have BK708:=am (hbox);have GW708:=zG hg HB;have GE708:=zG hg HB;replace HB:=zBs HB hb;clear hb hbox hg)|((with_reducible refine gate_dst (N:=2) rfl ?_);refine zx 2 23 #[.bool false, .bool false, .string (⟨#[]⟩:ByteArray), .int .i64 0] ?_;intro gb709 hg w4 hbox hb;have BK709:=am (hbox);have GW709:=zG hg HB;have GE709:=zG hg HB;replace HB:=zBs HB hb;have NB708_709:=zNl hg BK708;have NB709_708:=zNg hg BK708;replace BK708:=zKb BK708 hb;clear hb hbox hg;have hnb5:=NB708_709.out;have hnc5:=NB709_708.out;obtain ⟨_,_,_,_,_,_,_,_⟩:=zf4 BK708;obtain ⟨_,_,_,_,_,_,_,_⟩:=zf4 BK709))
 refine bodyPost_ret (results_cell_row rfl _ _ gb709 23 #[.bool true, .bool a0_1, .string a0_2, .int .i64 a0_3] (0,0) _ rfl (zKp BK709) Tryz.underlying23 rfl (by kernel_rfl)) rfl ?_
 exact ⟨z2,zB HB⟩
end Go.Proofs.Yy.PTx
end
section
namespace Go.Proofs.Yy.PTx
open Go.RowKit Go.Proofs.Yw.PrintWords Go.Proofs.Yw.PrintLast Go.Proofs.Yw.PrintMore Go.Proofs.Yy.SC
theorem dg_bt {c:UInt8}:dg c=true ↔ (48≤(c.toNat:Int)∧(c.toNat:Int)≤57):=by
 unfold dg;simp only [Bool.and_eq_true,decide_eq_true_iff];omega
theorem over_l0 (l:List UInt8) (hl:l.length≤9223372036854775807):∀ (d i:Nat),i+d=l.length→Ev (fun k=>vernierref18_over.l0 k (mkB l) (i:Int)) ((i+ld (l.drop i):Nat):Int):=by
 intro d
 induction d with
 | zero =>
  intro i hi
  refine Ev.step (f:=fun _=>some ((i+ld (l.drop i):Nat):Int)) (fun k=>?_) (Ev.now _)
  simp only [vernierref18_over.l0]
  rw [if_neg (by rw [mkB_size];omega),List.drop_eq_nil_iff.2 (by omega)]
  rfl
 | succ d ih =>
  intro i hi
  have hlt:i<l.length:=by omega
  have hb:=bt_mk hlt
  have hd:=List.drop_eq_getElem_cons hlt
  by_cases hc:dg (l[i]'hlt)=true
  ·obtain ⟨h1,h2⟩:=dg_bt.1 hc
   have:=ih (i+1) (by omega)
   refine Ev.step (f:=fun k=>vernierref18_over.l0 k (mkB l) ((i+1:Nat):Int)) (fun k=>?_) ?_
   ·simp only [vernierref18_over.l0]
    rw [if_pos (by rw [mkB_size];omega),if_pos (by omega),if_pos (by rw [hb];omega),if_pos (by rw [hb];omega),wrap_id (by omega) (by omega)]
    rfl
   ·have e:i+ld (l.drop i)=i+1+ld (l.drop (i+1)):=by rw [hd,ld,if_pos hc];omega
    rw [e];exact this
  ·refine Ev.step (f:=fun _=>some ((i+ld (l.drop i):Nat):Int)) (fun k=>?_) (Ev.now _)
   have e:i+ld (l.drop i)=i:=by rw [hd,ld,if_neg hc];rfl
   rw [e]
   simp only [vernierref18_over.l0]
   rw [if_pos (by rw [mkB_size];omega),if_pos (by omega)]
   by_cases h1:(bt (mkB l) (i:Int)) ≥ 48
   ·rw [if_pos h1,if_neg]
    intro h2
    exact hc (dg_bt.2 ⟨by rw [hb] at h1;omega,by rw [hb] at h2;omega⟩)
   ·rw [if_neg h1]
theorem over_ev (l:List UInt8) (i:Nat) (hi:i≤l.length) (hl:l.length≤9223372036854775807):Ev (fun k=>vernierref18_over.f k (mkB l) (i:Int)) ((i+ld (l.drop i):Nat):Int) :=
 over_l0 l hl (l.length - i) i (by omega)
theorem ld_eq {l:List UInt8}:ld l=l.length ↔ l.all dg=true:=by
 induction l with
 | nil=>simp [ld]
 | cons c l ih =>
  by_cases hc:dg c=true
  ·rw [ld,if_pos hc,List.length_cons,List.all_cons,hc,Bool.true_and, ← ih];omega
  ·rw [ld,if_neg hc,List.length_cons,List.all_cons,Bool.eq_false_iff.2 hc];simp
theorem Formed_ev (d:D) (hl:d.ds.length≤9223372036854775807):Ev (fun k=>vernierref18_Formed.f k d.nar d.neg (mkB d.ds) d.e) (formed d):=by
 obtain ⟨nar,neg,ds,e⟩:=d
 simp only at hl
 unfold formed
 cases nar with
 | true =>
  refine Ev.congr (f:=fun _=>some (!neg && (ds.isEmpty && decide (e=0)))) (fun k=>?_) (Ev.now _)
  simp only [vernierref18_Formed.f,if_true,mkB_toList]
  cases neg with
  | true=>rfl
  | false =>
   simp only [Bool.false_eq_true,if_false]
   by_cases h0:ds = []
   ·rw [if_pos h0];subst h0;rfl
   ·rw [if_neg h0,List.isEmpty_eq_false_iff.2 h0];rfl
 | false =>
  have ho:=over_ev ds 0 (Nat.zero_le _) hl
  rw [Nat.zero_add,List.drop_zero] at ho
  refine Ev.congr (f:=fun k=>(vernierref18_over.f k (mkB ds) 0).bind fun t=>(if (mkB ds).toList=([]:List UInt8) then (some false) else (if ((mkB ds).size:Int)≤4096 then (if t=((mkB ds).size:Int) then (if e ≥ (-1000000) then (some (decide (e≤1000000))) else (some false)) else (some false)) else (some false)))) (fun k=>?_) ?_
  ·simp only [vernierref18_Formed.f,Bool.false_eq_true,if_false]
  ·refine Ev.bind ho ?_
   refine Ev.congr (fun k=>?_) (Ev.now _)
   simp only [Bool.false_eq_true,if_false,mkB_toList,mkB_size]
   have hm:mostE=1000000:=rfl
   by_cases h0:ds = []
   ·rw [if_pos h0];subst h0;rfl
   ·rw [if_neg h0,List.isEmpty_eq_false_iff.2 h0]
    by_cases h1:(ds.length:Int)≤4096
    ·rw [if_pos h1,decide_eq_true (by omega:ds.length≤4096)]
     by_cases h2:ds.all dg=true
     ·rw [if_pos (by rw [ld_eq.2 h2]),h2]
      by_cases h3:e ≥ -1000000
      ·rw [if_pos h3,decide_eq_true (by omega : -mostE≤e)]
       rfl
      ·rw [if_neg h3,decide_eq_false (by omega:¬ -mostE≤e)]
       rfl
     ·rw [if_neg (fun h=>h2 (ld_eq.1 (by omega))),Bool.eq_false_iff.2 h2]
      rfl
    ·rw [if_neg h1,decide_eq_false (by omega:¬ ds.length≤4096)]
     rfl
theorem normed_l1 (nar neg:Bool):∀ (n:Nat) (l:List UInt8) (e:Int),n=min (tz l) (mostE - e).toNat→hd (· == 48) l=false→l ≠ []→l.length≤9223372036854775807 → -1000000≤e→e≤1000000 →
  Ev (fun k=>vernierref18_Normed.l1 k nar neg (mkB l) e) (nar,neg,mkB (l.take (l.length - n)),e+n):=by
 intro n
 induction n with
 | zero =>
  intro l e hn hh h0 hl he1 he2
  have hp:=List.length_pos_iff.2 h0
  have hm:mostE=1000000:=rfl
  refine Ev.step (f:=fun _=>some (nar,neg,mkB (l.take (l.length - 0)),e+((0:Nat):Int))) (fun k=>?_) (Ev.now _)
  simp only [vernierref18_Normed.l1]
  rw [Nat.sub_zero,List.take_length,show e+((0:Nat):Int)=e by omega,mkB_size,wrap_id (by omega) (by omega),if_pos (by omega),if_pos (by omega)]
  by_cases hz:tz l=0
  ·have hlast:l.getLast? ≠ some 48:=by
    intro h
    rcases List.eq_nil_or_concat l with h2|⟨q,c,rfl⟩
    ·exact h0 h2
    ·have hc:c=48:=by simpa using h
     subst hc
     have h3:=rz_le q
     unfold tz at hz
     rw [List.concat_eq_append,rz_snoc,List.length_append] at hz
     simp at hz
     omega
   rw [if_neg]
   intro hb
   apply hlast
   have e1:((l.length:Int) - 1)=((l.length - 1:Nat):Int):=by omega
   rw [e1,bt_mk (by omega:l.length - 1<l.length)] at hb
   rw [List.getLast?_eq_getElem?, List.getElem?_eq_getElem (by omega:l.length - 1<l.length)]
   congr 1
   exact UInt8.toNat_inj.1 (by have:(48:UInt8).toNat=48:=rfl;omega)
  ·have:¬ e<1000000:=by omega
   by_cases hb:bt (mkB l) ((l.length:Int) - 1)=48
   ·rw [if_pos hb,if_neg this]
   ·rw [if_neg hb]
 | succ n ih =>
  intro l e hn hh h0 hl he1 he2
  have hp:=List.length_pos_iff.2 h0
  have hm:mostE=1000000:=rfl
  have hz:tz l≠0:=by omega
  obtain ⟨q,c,rfl⟩:∃ q c,l=q ++ [c]:=by
   rcases List.eq_nil_or_concat l with h2|⟨q,c,h2⟩
   ·exact absurd h2 h0
   ·exact ⟨q,c,by rw [h2,List.concat_eq_append]⟩
  have hc:c=48:=by
   by_cases hc:c=48
   ·exact hc
   ·exact absurd (tz_last (by simpa using hc)) hz
  subst hc
  have hq0:q ≠ []:=by
   rintro rfl
   simp [hd] at hh
  have hlen:(q ++ [48]).length=q.length+1:=by simp
  have htz:tz (q ++ [48])=tz q+1:=by
   have:=rz_le q
   unfold tz;rw [rz_snoc,hlen];omega
  have hq:hd (· == 48) q=false:=by
   cases q with
   | nil=>exact absurd rfl hq0
   | cons a q=>exact hh
  have key:=ih q (e+1) (by rw [htz] at hn;omega) hq hq0 (by omega) (by omega) (by rw [htz] at hn;omega)
  have hb:bt (mkB (q ++ [48])) (((q ++ [48]).length:Int) - 1)=48:=by
   have e1:(((q ++ [48]).length:Int) - 1)=(q.length:Int):=by rw [hlen];omega
   rw [e1,bt_mk (by rw [hlen];omega)]
   simp
  have ew:wrap64 (((q ++ [48]).length:Int) - 1)=((q ++ [48]).length:Int) - 1:=wrap_id (by omega) (by omega)
  refine Ev.step (f:=fun k=>vernierref18_Normed.l1 k nar neg (mkB q) (e+1)) (fun k=>?_) ?_
  ·simp only [vernierref18_Normed.l1]
   rw [mkB_size,ew,if_pos (by omega),if_pos (by omega),if_pos hb,if_pos (by omega),if_pos (by omega),wrap_id (n:=e+1) (by omega) (by omega)]
   have e2:(((q ++ [48]).length:Int) - 1).toNat=q.length:=by rw [hlen];omega
   rw [e2,mkB_take _ _ (by rw [hlen];omega),List.take_left' rfl]
  ·have e3:(q ++ [48]).take ((q ++ [48]).length - (n+1))=q.take (q.length - n):=by
    rw [hlen,show q.length+1 - (n+1)=q.length - n by omega,List.take_append_of_le_length (by omega)]
   rw [e3,show e+((n+1:Nat):Int)=e+1+(n:Int) by omega]
   exact key
theorem normed_l0 (neg:Bool) (e:Int) (ds:List UInt8) (hl:ds.length≤9223372036854775807) (he1 : -1000000≤e) (he2:e≤1000000):∀ (d i:Nat),i+d=ds.length→lz (ds.drop i)=lz ds →
  Ev (fun k=>vernierref18_Normed.l0 k (i:Int) false neg (mkB ds) e) (flatD (nrm ⟨false,neg,ds,e⟩)):=by
 have stop:∀ i:Nat,i≤ds.length→ds.drop i=lz ds→Ev (fun k=>vernierref18_Normed.j1 k (i:Int) false neg (mkB ds) e) (flatD (nrm ⟨false,neg,ds,e⟩)):=by
  intro i hi hd
  unfold flatD nrm
  simp only [Bool.false_eq_true,if_false]
  by_cases h0:lz ds = []
  ·rw [if_pos h0]
   have:i=ds.length:=by rw [h0,List.drop_eq_nil_iff] at hd;omega
   refine Ev.step (f:=fun _=>some (false,false,mkB [48],0)) (fun k=>?_) (Ev.now _)
   simp only [vernierref18_Normed.j1]
   rw [if_pos (by rw [mkB_size,this])]
   rfl
  ·rw [if_neg h0]
   have hne:¬ (i:Int)=((mkB ds).size:Int):=by
    intro h
    rw [mkB_size] at h
    apply h0
    rw [← hd,List.drop_eq_nil_iff];omega
   have hll:=lz_le ds
   refine Ev.step (f:=fun k=>vernierref18_Normed.l1 k false neg (mkB (lz ds)) e) (fun k=>?_) (normed_l1 false neg _ (lz ds) e rfl (lz_hd' ds) h0 (by omega) he1 he2)
   simp only [vernierref18_Normed.j1]
   rw [if_neg hne,if_pos (by omega),if_pos (by rw [mkB_size];omega),Int.toNat_natCast,mkB_drop,hd]
 intro d
 induction d with
 | zero =>
  intro i hi hz
  have hn:ds.drop i = []:=List.drop_eq_nil_iff.2 (by omega)
  refine Ev.step (f:=fun k=>vernierref18_Normed.j1 k (i:Int) false neg (mkB ds) e) (fun k=>?_) (stop i (by omega) (by rw [← hz,hn];rfl))
  simp only [vernierref18_Normed.l0]
  rw [if_neg (by rw [mkB_size];omega)]
 | succ d ih =>
  intro i hi hz
  have hlt:i<ds.length:=by omega
  have hb:=bt_mk hlt
  have hdr:=List.drop_eq_getElem_cons hlt
  by_cases hc:ds[i]'hlt=48
  ·have hc2:bt (mkB ds) (i:Int)=48:=by rw [hb,hc];rfl
   refine Ev.step (f:=fun k=>vernierref18_Normed.l0 k ((i+1:Nat):Int) false neg (mkB ds) e) (fun k=>?_) (ih (i+1) (by omega) ?_)
   ·simp only [vernierref18_Normed.l0]
    rw [if_pos (by rw [mkB_size];omega),if_pos (by omega),if_pos hc2,wrap_id (by omega) (by omega)]
    rfl
   ·rw [← hz,hdr,hc]
    have:=lz_noughts 1 (ds.drop (i+1))
    simpa using this.symm
  ·have hc2:¬ bt (mkB ds) (i:Int)=48:=by
    intro h
    rw [hb] at h
    exact hc (UInt8.toNat_inj.1 (by have:(48:UInt8).toNat=48:=rfl;omega))
   have hcb:((ds[i]'hlt) == 48)=false:=beq_eq_false_iff_ne.2 hc
   refine Ev.step (f:=fun k=>vernierref18_Normed.j1 k (i:Int) false neg (mkB ds) e) (fun k=>?_) (stop i (by omega) ?_)
   ·simp only [vernierref18_Normed.l0]
    rw [if_pos (by rw [mkB_size];omega),if_pos (by omega),if_neg hc2]
   ·rw [← hz]
    exact (lz_hd (by rw [hdr];exact hcb)).symm
theorem Normed_ev (d:D) (hl:d.ds.length≤9223372036854775807) (he1 : -1000000≤d.e) (he2:d.e≤1000000):Ev (fun k=>vernierref18_Normed.f k d.nar d.neg (mkB d.ds) d.e) (flatD (nrm d)):=by
 obtain ⟨nar,neg,ds,e⟩:=d
 cases nar with
 | true =>
  refine Ev.congr (fun k=>?_) (Ev.now _)
  simp only [vernierref18_Normed.f,if_true]
  rfl
 | false =>
  refine Ev.congr (f:=fun k=>vernierref18_Normed.l0 k ((0:Nat):Int) false neg (mkB ds) e) (fun k=>?_) (normed_l0 neg e ds hl he1 he2 ds.length 0 (by omega) (by rw [List.drop_zero]))
  simp only [vernierref18_Normed.f,Bool.false_eq_true,if_false]
  rfl
end Go.Proofs.Yy.PTx
end
section
namespace Go.Proofs.Yy.PTx
open Go.RowKit Go.Proofs.Yw.PrintWords Go.Proofs.Yw.PrintLast Go.Proofs.Yw.PrintMore Go.Proofs.Yy.M Go.Proofs.Yy.TA Go.Proofs.Yy.SC
theorem power_l0 (m:Nat) (h:m≤63):∀ n i:Nat,i+n=m→Ev (fun k=>vernierref05_Power.l0 k (m:Int) ((2 ^ i:Nat):Int) (i:Int)) ((2 ^ m:Nat):Int):=by
 intro n
 induction n with
 | zero =>
  intro i hi
  obtain rfl:i=m:=by omega
  refine Ev.step (f:=fun _=>some ((2 ^ i:Nat):Int)) (fun k=>?_) (Ev.now _)
  simp only [vernierref05_Power.l0]
  rw [if_neg (by omega)]
 | succ n ih =>
  intro i hi
  have h1:2 ^ (i+1)<2 ^ 64:=Nat.pow_lt_pow_right (by omega) (by omega)
  have e:IntKind.u64.wrap (2 * ((2 ^ i:Nat):Int))=((2 ^ (i+1):Nat):Int):=by
   rw [IntKind.wrap_u64]
   rw [Nat.pow_succ] at h1 ⊢
   omega
  refine Ev.step (f:=fun k=>vernierref05_Power.l0 k (m:Int) ((2 ^ (i+1):Nat):Int) ((i+1:Nat):Int)) (fun k=>?_) (ih (i+1) (by omega))
  simp only [vernierref05_Power.l0]
  rw [if_pos (by omega),e,tw64 (by omega) (by omega)]
  rfl
theorem Power_ev {n:Nat} (hw:Wd n):Ev (fun k=>vernierref05_Power.f k (wrap64 ((n:Int) - 1))) ((2 ^ (n - 1):Nat):Int):=by
 obtain ⟨h8,h64⟩:=hw.bounds
 rw [tw64 (by omega) (by omega),show ((n:Int) - 1)=((n - 1:Nat):Int) by omega]
 exact power_l0 (n - 1) (by omega) (n - 1) 0 (by omega)
theorem ofD_nar {n:Nat} {d:D} (h:d.nar=true):ofD n d=2 ^ (n - 1):=by
 unfold ofD nrm
 rw [if_pos h,if_pos h]
end Go.Proofs.Yy.PTx
end
section
set_option maxHeartbeats 8000000
set_option maxRecDepth 100000
namespace Go.Proofs.Yy.PTx
open Go.RowKit Go.Proofs.Yy.Z Go.Proofs.Yw.PrintWords Go.Proofs.Yw.PrintLast Go.Proofs.Yw.PrintMore
open Go.Proofs.Yy.M
attribute [local go_sem] runx_add64 runx_sub64 eql_cc eql_nc neq_cc neq_nc
attribute [local go_sem] max2_int min2_int max_two min_two max_three min_three max_four min_four
theorem vernierlaw19_shown.few:∀ k<40,vernierlaw19_shown.f k≠some false:=by decide +kernel
theorem vernierlaw19_shown.at_ (k:Nat):vernierlaw19_shown.f (k+40)=some true:=by kernel_rfl
def vernierref18_sign.f (a0_0:Bool) (a0_1:Bool) (a0_2:ByteArray) (a0_3:Int):Option (Int):=if a0_2.toList=([48]:List UInt8) then (some 0) else (if a0_1=true then (some (-1)) else (some 1))
theorem vernierref18_sign.calls (a0_0:Bool) (a0_1:Bool) (a0_2:ByteArray) (a0_3:Int) (r:Int) (w:World) (h:vernierref18_sign.f a0_0 a0_1 a0_2 a0_3=some r) :
    Calls Tryz.prog 73 #[.agg #[.bool a0_0, .bool a0_1, .string a0_2, .int .i64 a0_3]] w fun e w'=>e = .returned (.int .i64 r)∧Below w.heap.size w w':=by
 have hu23:=Tryz.underlying23
 have HB:=am (Below.refl w.heap.size w)
 have H:=am h
 unfold vernierref18_sign.f at H
 clear h
 replace H:=zsk H
 rcases H with ⟨c2b0,c2b1,H⟩|⟨c2b0,c2b1,c2,H⟩
 obtain rfl:=Option.some.inj H.out
 rotate_left
 cases a0_1
 replace H:=zb0 H
 obtain rfl:=Option.some.inj H.out
 rotate_left
 replace H:=zb1 H
 obtain rfl:=Option.some.inj H.out
 rotate_left
 all_goals (go_enter Tryz.func73,Tryz.ntmps73;go_wp2_with (first|((with_reducible refine gate_dst (N:=1) rfl ?_);refine zx 1 23 #[.bool a0_0, .bool a0_1, .string a0_2, .int .i64 a0_3] ?_;intro gb1212 hg w3 hbox hb;have BK1212:=am (hbox);have GW1212:=zG hg HB;have GE1212:=zG hg HB;replace HB:=zBs HB hb;clear hb hbox hg;obtain ⟨_,_,_,_,_,_,_,_⟩:=zf4 BK1212)|((with_reducible refine gate_dst (N:=1) rfl ?_);refine zx 1 23 #[.bool a0_0, .bool false, .string a0_2, .int .i64 a0_3] ?_;intro gb1212 hg w8 hbox hb;have BK1212:=am (hbox);have GW1212:=zG hg HB;have GE1212:=zG hg HB;replace HB:=zBs HB hb;clear hb hbox hg;obtain ⟨_,_,_,_,_,_,_,_⟩:=zf4 BK1212)|((with_reducible refine gate_dst (N:=1) rfl ?_);refine zx 1 23 #[.bool a0_0, .bool true, .string a0_2, .int .i64 a0_3] ?_;intro gb1212 hg w6 hbox hb;have BK1212:=am (hbox);have GW1212:=zG hg HB;have GE1212:=zG hg HB;replace HB:=zBs HB hb;clear hb hbox hg;obtain ⟨_,_,_,_,_,_,_,_⟩:=zf4 BK1212)))
 ·go_ret
  exact ⟨z2,zB HB⟩
 ·go_ret
  exact ⟨z2,zB HB⟩
 go_ret
 exact ⟨z2,zB HB⟩
mutual
def vernierref18_size.l0:Nat→Int→Bool→Bool→ByteArray→Int→Bool→Bool→ByteArray→Int→Option (Int)
  | 0,_,_,_,_,_,_,_,_,_=>none
  | k+1,x7,x1214000,x1214001,x1214002,x1214003,x1215000,x1215001,x1215002,x1215003=>if x7<(x1214002.size:Int) then (vernierref18_size.j1 k x7 true x1214000 x1214001 x1214002 x1214003 x1215000 x1215001 x1215002 x1215003) else (vernierref18_size.j1 k x7 (decide (x7<(x1215002.size:Int))) x1214000 x1214001 x1214002 x1214003 x1215000 x1215001 x1215002 x1215003)
def vernierref18_size.j1:Nat→Int→Bool→Bool→Bool→ByteArray→Int→Bool→Bool→ByteArray→Int→Option (Int)
  | 0,_,_,_,_,_,_,_,_,_,_=>none
  | k+1,x7,x39,x1214000,x1214001,x1214002,x1214003,x1215000,x1215001,x1215002,x1215003=>if x39=true then (if x7<(x1214002.size:Int) then (if 0≤x7 then (vernierref18_size.j2 k x7 (bt x1214002 x7) 48 x1214000 x1214001 x1214002 x1214003 x1215000 x1215001 x1215002 x1215003) else (none)) else (vernierref18_size.j2 k x7 48 48 x1214000 x1214001 x1214002 x1214003 x1215000 x1215001 x1215002 x1215003)) else (some 0)
def vernierref18_size.j2:Nat→Int→Int→Int→Bool→Bool→ByteArray→Int→Bool→Bool→ByteArray→Int→Option (Int)
  | 0,_,_,_,_,_,_,_,_,_,_,_=>none
  | k+1,x7,x8,x9,x1214000,x1214001,x1214002,x1214003,x1215000,x1215001,x1215002,x1215003=>if x7<(x1215002.size:Int) then (if 0≤x7 then (vernierref18_size.j3 k x7 x8 (bt x1215002 x7) x1214000 x1214001 x1214002 x1214003 x1215000 x1215001 x1215002 x1215003) else (none)) else (vernierref18_size.j3 k x7 x8 x9 x1214000 x1214001 x1214002 x1214003 x1215000 x1215001 x1215002 x1215003)
def vernierref18_size.j3:Nat→Int→Int→Int→Bool→Bool→ByteArray→Int→Bool→Bool→ByteArray→Int→Option (Int)
  | 0,_,_,_,_,_,_,_,_,_,_,_=>none
  | k+1,x7,x8,x9,x1214000,x1214001,x1214002,x1214003,x1215000,x1215001,x1215002,x1215003=>if x8<x9 then (some (-1)) else (if x8 > x9 then (some 1) else (vernierref18_size.l0 k (wrap64 (x7+1)) x1214000 x1214001 x1214002 x1214003 x1215000 x1215001 x1215002 x1215003))
end
def vernierref18_size.f (k:Nat) (a0_0:Bool) (a0_1:Bool) (a0_2:ByteArray) (a0_3:Int) (a1_0:Bool) (a1_1:Bool) (a1_2:ByteArray) (a1_3:Int):Option (Int):=if (wrap64 ((a0_2.size:Int)+a0_3))=(wrap64 ((a1_2.size:Int)+a1_3)) then (vernierref18_size.l0 k 0 a0_0 a0_1 a0_2 a0_3 a1_0 a1_1 a1_2 a1_3) else (if (wrap64 ((a0_2.size:Int)+a0_3))<(wrap64 ((a1_2.size:Int)+a1_3)) then (some (-1)) else (some 1))
theorem vernierref18_size.calls (k:Nat) (a0_0:Bool) (a0_1:Bool) (a0_2:ByteArray) (a0_3:Int) (a1_0:Bool) (a1_1:Bool) (a1_2:ByteArray) (a1_3:Int) (r:Int) (w:World) (h:vernierref18_size.f k a0_0 a0_1 a0_2 a0_3 a1_0 a1_1 a1_2 a1_3=some r) :
    Calls Tryz.prog 74 #[.agg #[.bool a0_0, .bool a0_1, .string a0_2, .int .i64 a0_3], .agg #[.bool a1_0, .bool a1_1, .string a1_2, .int .i64 a1_3]] w fun e w'=>e = .returned (.int .i64 r)∧Below w.heap.size w w':=by
 have hu23:=Tryz.underlying23
 have HB:=am (Below.refl w.heap.size w)
 have H:=am h
 unfold vernierref18_size.f at H
 clear h
 replace H:=zsk H
 rcases H with ⟨c3b0,c3b1,H⟩|⟨c3b0,c3b1,c3,H⟩
 rotate_left
 replace H:=zsd H
 rcases H with ⟨c35b0,H⟩|⟨c35b0,H⟩
 obtain rfl:=Option.some.inj H.out
 rotate_left
 obtain rfl:=Option.some.inj H.out
 rotate_left
 all_goals (go_enter Tryz.func74,Tryz.ntmps74;go_wp2_with (first|((with_reducible refine gate_dst (N:=2) rfl ?_);(try (refine gate_guard (by rfl) ?_;dsimp only));refine zx 2 23 #[.bool a0_0, .bool a0_1, .string a0_2, .int .i64 a0_3] ?_;intro gb1213 hg w4 hbox hb;have BK1213:=am (hbox);have GW1213:=zG hg HB;have GE1213:=zG hg HB;replace HB:=zBs HB hb;clear hb hbox hg)|((with_reducible refine gate_dst (N:=3) rfl ?_);(try (refine gate_guard (by rfl) ?_;dsimp only));refine zx 3 23 #[.bool a1_0, .bool a1_1, .string a1_2, .int .i64 a1_3] ?_;intro gb1214 hg w5 hbox hb;have BK1214:=am (hbox);have GW1214:=zG hg HB;have GE1214:=zG hg HB;replace HB:=zBs HB hb;have NB1213_1214:=zNl hg BK1213;have NB1214_1213:=zNg hg BK1213;replace BK1213:=zKb BK1213 hb;clear hb hbox hg;have hnb6:=NB1213_1214.out;have hnc6:=NB1214_1213.out;obtain ⟨_,_,_,_,_,_,_,_⟩:=zf4 BK1213;obtain ⟨_,_,_,_,_,_,_,_⟩:=zf4 BK1214)))
 ·go_loopg [7] k (fun kq v7 w' => ∃ (x7_1:Int),v7 = .int .i64 x7_1∧Aside0 (vernierref18_size.l0 kq x7_1 a0_0 a0_1 a0_2 a0_3 a1_0 a1_1 a1_2 a1_3=some r)∧Aside0 (kq≤k)∧Aside0 (w'.heap[gb1213]? = some (.cells #[.bool a0_0, .bool a0_1, .string a0_2, .int .i64 a0_3] 23 (0,0)))∧Aside0 (w'.heap[gb1214]? = some (.cells #[.bool a1_0, .bool a1_1, .string a1_2, .int .i64 a1_3] 23 (0,0)))∧Aside0 (Below w.heap.size w w'))
  case atStart=>exact ⟨(0),z1,H,zL,⟨zK BK1213⟩,⟨zK BK1214⟩,⟨zB HB⟩⟩
  clear H
  obtain ⟨x7_1,rfl,H,HK1,BK1213,BK1214,HB⟩:=hrel
  obtain _|k1:=gk
  ·exact zz H rfl
  simp only [vernierref18_size.l0] at H
  go_upto_region 8 with (fail)
  go_cut [39] (fun v39 wc => ∃ (kq:Nat) (x39_8:Bool),v39 = .bool x39_8∧Aside0 (vernierref18_size.j1 kq x7_1 x39_8 a0_0 a0_1 a0_2 a0_3 a1_0 a1_1 a1_2 a1_3=some r)∧Aside0 (kq≤k1)∧Aside0 (wc.heap[gb1213]? = some (.cells #[.bool a0_0, .bool a0_1, .string a0_2, .int .i64 a0_3] 23 (0,0)))∧Aside0 (wc.heap[gb1214]? = some (.cells #[.bool a1_0, .bool a1_1, .string a1_2, .int .i64 a1_3] 23 (0,0)))∧Aside0 (Below w.heap.size w wc))
  case first =>
   replace H:=zsd H
   rcases H with ⟨c10b0,H⟩|⟨c10b0,H⟩
   (first|rw [c10b0]|(simp only [i64_w,i32_w];rw [c10b0])|rw [c10b1]|skip)
   have hnb11:=NB1213_1214.out
   have hnc11:=NB1214_1213.out
   obtain ⟨_,_,_,_,_,_,_,_⟩:=zf4 BK1213
   rotate_left
   (first|rw [c10b0]|(simp only [i64_w,i32_w];rw [c10b0])|rw [c10b1]|skip)
   have hnb13:=NB1213_1214.out
   have hnc13:=NB1214_1213.out
   obtain ⟨_,_,_,_,_,_,_,_⟩:=zf4 BK1213
   obtain ⟨_,_,_,_,_,_,_,_⟩:=zf4 BK1214
   rotate_left
   all_goals (go_wp2)
   ·go_meet
    case rel=>exact ⟨_,(true),z1,H,⟨by have:=HK1.out;first|omega|exact Nat.le_refl _⟩,⟨zK BK1213⟩,⟨zK BK1214⟩,⟨zB HB⟩⟩
   go_meet
   case rel=>exact ⟨_,(decide (x7_1<(a1_2.size:Int))),z1,H,⟨by have:=HK1.out;first|omega|exact Nat.le_refl _⟩,⟨zK BK1213⟩,⟨zK BK1214⟩,⟨zB HB⟩⟩
  case rest =>
   obtain ⟨kq,x39_8,rfl,H,HJ8,BK1213,BK1214,HB⟩:=hcut
   obtain _|kj8:=kq
   ·exact zz H rfl
   simp only [vernierref18_size.j1] at H
   cases x39_8
   ·replace H:=zb0 H
    obtain rfl:=Option.some.inj H.out
    go_wp2
    go_ret
    exact ⟨z2,zB HB⟩
   replace H:=zb1 H
   have hnb18:=NB1213_1214.out
   have hnc18:=NB1214_1213.out
   obtain ⟨_,_,_,_,_,_,_,_⟩:=zf4 BK1213
   go_upto_if 46 with (fail)
   go_cut [8] (fun v8 wc => ∃ (kq:Nat) (x8_16:Int),v8 = .int .u8 x8_16∧Aside0 (vernierref18_size.j2 kq x7_1 x8_16 48 a0_0 a0_1 a0_2 a0_3 a1_0 a1_1 a1_2 a1_3=some r)∧Aside0 (kq≤kj8)∧Aside0 (wc.heap[gb1213]? = some (.cells #[.bool a0_0, .bool a0_1, .string a0_2, .int .i64 a0_3] 23 (0,0)))∧Aside0 (wc.heap[gb1214]? = some (.cells #[.bool a1_0, .bool a1_1, .string a1_2, .int .i64 a1_3] 23 (0,0)))∧Aside0 (Below w.heap.size w wc))
   case first =>
    replace H:=zsd H
    rcases H with ⟨c20b0,H⟩|⟨c20b0,H⟩
    (first|rw [c20b0]|(simp only [i64_w,i32_w];rw [c20b0])|rw [c20b1]|skip)
    replace H:=zid H
    obtain ⟨c21b0,H⟩:=H
    have hnb23:=NB1213_1214.out
    have hnc23:=NB1214_1213.out
    obtain ⟨_,_,_,_,_,_,_,_⟩:=zf4 BK1213
    have p22:0≤(x7_1:Int):=zD
    have q22:x7_1<(a0_2.size:Int):=zD
    have hx22:=bt_at a0_2 x7_1
    replace p22:=eq_true p22
    replace q22:=eq_true q22
    rotate_left
    (first|rw [c20b0]|(simp only [i64_w,i32_w];rw [c20b0])|rw [c20b1]|skip)
    rotate_left
    all_goals (go_wp2)
    ·go_meet
     case rel=>exact ⟨_,(bt a0_2 x7_1),z1,H,⟨by have:=HK1.out;have:=HJ8.out;first|omega|exact Nat.le_refl _⟩,⟨zK BK1213⟩,⟨zK BK1214⟩,⟨zB HB⟩⟩
    go_meet
    case rel=>exact ⟨_,(48),z1,H,⟨by have:=HK1.out;have:=HJ8.out;first|omega|exact Nat.le_refl _⟩,⟨zK BK1213⟩,⟨zK BK1214⟩,⟨zB HB⟩⟩
   case rest =>
    try clear hx2
    try clear hx22
    obtain ⟨kq,x8_16,rfl,H,HJ16,BK1213,BK1214,HB⟩:=hcut
    obtain _|kj16:=kq
    ·exact zz H rfl
    simp only [vernierref18_size.j2] at H
    have hnb26:=NB1214_1213.out
    have hnc26:=NB1213_1214.out
    obtain ⟨_,_,_,_,_,_,_,_⟩:=zf4 BK1214
    go_upto_if 55 with (fail)
    go_cut [9] (fun v9 wc => ∃ (kq:Nat) (x9_24:Int),v9 = .int .u8 x9_24∧Aside0 (vernierref18_size.j3 kq x7_1 x8_16 x9_24 a0_0 a0_1 a0_2 a0_3 a1_0 a1_1 a1_2 a1_3=some r)∧Aside0 (kq≤kj16)∧Aside0 (wc.heap[gb1213]? = some (.cells #[.bool a0_0, .bool a0_1, .string a0_2, .int .i64 a0_3] 23 (0,0)))∧Aside0 (wc.heap[gb1214]? = some (.cells #[.bool a1_0, .bool a1_1, .string a1_2, .int .i64 a1_3] 23 (0,0)))∧Aside0 (Below w.heap.size w wc))
    case first =>
     replace H:=zsd H
     rcases H with ⟨c28b0,H⟩|⟨c28b0,H⟩
     (first|rw [c28b0]|(simp only [i64_w,i32_w];rw [c28b0])|rw [c28b1]|skip)
     replace H:=zid H
     obtain ⟨c29b0,H⟩:=H
     have hnb31:=NB1214_1213.out
     have hnc31:=NB1213_1214.out
     obtain ⟨_,_,_,_,_,_,_,_⟩:=zf4 BK1214
     have p30:0≤(x7_1:Int):=zD
     have q30:x7_1<(a1_2.size:Int):=zD
     have hx30:=bt_at a1_2 x7_1
     replace p30:=eq_true p30
     replace q30:=eq_true q30
     rotate_left
     (first|rw [c28b0]|(simp only [i64_w,i32_w];rw [c28b0])|rw [c28b1]|skip)
     rotate_left
     all_goals (go_wp2)
     ·go_meet
      case rel=>exact ⟨_,(bt a1_2 x7_1),z1,H,⟨by have:=HK1.out;have:=HJ8.out;have:=HJ16.out;first|omega|exact Nat.le_refl _⟩,⟨zK BK1213⟩,⟨zK BK1214⟩,⟨zB HB⟩⟩
     go_meet
     case rel=>exact ⟨_,(48),z1,H,⟨by have:=HK1.out;have:=HJ8.out;have:=HJ16.out;first|omega|exact Nat.le_refl _⟩,⟨zK BK1213⟩,⟨zK BK1214⟩,⟨zB HB⟩⟩
    case rest =>
     try clear hx2
     try clear hx3
     try clear hx22
     try clear hx30
     obtain ⟨kq,x9_24,rfl,H,HJ24,BK1213,BK1214,HB⟩:=hcut
     obtain _|kj24:=kq
     ·exact zz H rfl
     simp only [vernierref18_size.j3] at H
     replace H:=zsd H
     rcases H with ⟨c33b0,H⟩|⟨c33b0,H⟩
     obtain rfl:=Option.some.inj H.out
     rotate_left
     replace H:=zsdg H
     rcases H with ⟨c34b0,H⟩|⟨c34b0,H⟩
     obtain rfl:=Option.some.inj H.out
     rotate_left
     rotate_left
     all_goals (go_wp2)
     ·go_ret
      exact ⟨z2,zB HB⟩
     ·go_ret
      exact ⟨z2,zB HB⟩
     go_roundg kj24
     case measure=>have:=HK1.out;have:=HJ8.out;have:=HJ16.out;have:=HJ24.out;omega
     case rel=>exact ⟨(wrap64 (x7_1+1)),z1,H,⟨by have:=HK1.out;have:=HJ8.out;have:=HJ16.out;have:=HJ24.out;omega⟩,⟨zK BK1213⟩,⟨zK BK1214⟩,⟨zB HB⟩⟩
 ·go_ret
  exact ⟨z2,zB HB⟩
 go_ret
 exact ⟨z2,zB HB⟩
def vernierref18_Cmp.f (k:Nat) (a0_0:Bool) (a0_1:Bool) (a0_2:ByteArray) (a0_3:Int) (a1_0:Bool) (a1_1:Bool) (a1_2:ByteArray) (a1_3:Int):Option (Int):=(vernierref18_Normed.f k a0_0 a0_1 a0_2 a0_3).bind fun bt1217=>((vernierref18_Normed.f k a1_0 a1_1 a1_2 a1_3).bind fun bt1221=>((vernierref18_sign.f bt1217.1 bt1217.2.1 bt1217.2.2.1 bt1217.2.2.2).bind fun t1225=>((vernierref18_sign.f bt1221.1 bt1221.2.1 bt1221.2.2.1 bt1221.2.2.2).bind fun t1226=>(if t1225=t1226 then ((vernierref18_size.f k bt1217.1 bt1217.2.1 bt1217.2.2.1 bt1217.2.2.2 bt1221.1 bt1221.2.1 bt1221.2.2.1 bt1221.2.2.2).bind fun t1227=>(some (wrap64 (t1225 * t1227)))) else (if t1225<t1226 then (some (-1)) else (some 1))))))
theorem vernierref18_Cmp.calls (k:Nat) (a0_0:Bool) (a0_1:Bool) (a0_2:ByteArray) (a0_3:Int) (a1_0:Bool) (a1_1:Bool) (a1_2:ByteArray) (a1_3:Int) (r:Int) (w:World) (h:vernierref18_Cmp.f k a0_0 a0_1 a0_2 a0_3 a1_0 a1_1 a1_2 a1_3=some r) :
    Calls Tryz.prog 31 #[.agg #[.bool a0_0, .bool a0_1, .string a0_2, .int .i64 a0_3], .agg #[.bool a1_0, .bool a1_1, .string a1_2, .int .i64 a1_3]] w fun e w'=>e = .returned (.int .i64 r)∧Below w.heap.size w w':=by
 have hu23:=Tryz.underlying23
 have HB:=am (Below.refl w.heap.size w)
 have H:=am h
 unfold vernierref18_Cmp.f at H
 clear h
 replace H:=zo H
 obtain ⟨⟨t1217,t1218,t1219,t1220⟩,A3,H⟩:=H
 try dsimp only at H
 replace H:=zo H
 obtain ⟨⟨t1221,t1222,t1223,t1224⟩,A4,H⟩:=H
 try dsimp only at H
 replace H:=zo H
 obtain ⟨t1225,A5,H⟩:=H
 replace H:=zo H
 obtain ⟨t1226,A6,H⟩:=H
 replace H:=zsk H
 rcases H with ⟨c7b0,c7b1,H⟩|⟨c7b0,c7b1,c7,H⟩
 replace H:=zo H
 obtain ⟨t1227,A8,H⟩:=H
 obtain rfl:=Option.some.inj H.out
 rotate_left
 replace H:=zsd H
 rcases H with ⟨c25b0,H⟩|⟨c25b0,H⟩
 obtain rfl:=Option.some.inj H.out
 rotate_left
 obtain rfl:=Option.some.inj H.out
 rotate_left
 all_goals (go_enter Tryz.func31,Tryz.ntmps31;go_wp2_with (first|((with_reducible refine gate_dst (N:=2) rfl ?_);refine zx 2 23 #[.bool a0_0, .bool a0_1, .string a0_2, .int .i64 a0_3] ?_;intro gb1215 hg w9 hbox hb;have BK1215:=am (hbox);have GW1215:=zG hg HB;have GE1215:=zG hg HB;replace HB:=zBs HB hb;clear hb hbox hg)|((with_reducible refine gate_dst (N:=3) rfl ?_);refine zx 3 23 #[.bool a1_0, .bool a1_1, .string a1_2, .int .i64 a1_3] ?_;intro gb1216 hg w10 hbox hb;have BK1216:=am (hbox);have GW1216:=zG hg HB;have GE1216:=zG hg HB;replace HB:=zBs HB hb;have NB1215_1216:=zNl hg BK1215;have NB1216_1215:=zNg hg BK1215;replace BK1215:=zKb BK1215 hb;clear hb hbox hg;have hnb11:=NB1215_1216.out;have hnc11:=NB1216_1215.out;obtain ⟨_,_,_,_,_,_,_,_⟩:=zf4 BK1215)|((with_reducible refine gate_callee (f:=72) rfl ?_);refine zc (some 8) Tryz.func72 _ (vernierref18_Normed.calls _ _ _ _ _ _ _ _ _ _ A3.out) ?_;rintro e w13 ⟨rfl,hb⟩;refine ⟨_,rfl,?_⟩;replace BK1215:=zKb BK1215 hb;replace BK1216:=zKb BK1216 hb;replace HB:=zBs HB hb;clear hb;obtain ⟨_,_,_,_,_,_,_,_⟩:=zf4 BK1215;obtain ⟨_,_,_,_,_,_,_,_⟩:=zf4 BK1216)|((with_reducible refine gate_callee (f:=72) rfl ?_);refine zc (some 10) Tryz.func72 _ (vernierref18_Normed.calls _ _ _ _ _ _ _ _ _ _ A4.out) ?_;rintro e w16 ⟨rfl,hb⟩;refine ⟨_,rfl,?_⟩;replace BK1215:=am (blk_below (zKp BK1215) hb);replace BK1216:=zKb BK1216 hb;replace HB:=zBs HB hb;clear hb;obtain ⟨_,_,_,_,_,_,_,_⟩:=zf4 BK1216;obtain ⟨_,_,_,_,_,_,_,_⟩:=zf4 BK1215)|((with_reducible refine gate_callee (f:=73) rfl ?_);refine zc (some 12) Tryz.func73 _ (vernierref18_sign.calls _ _ _ _ _ _ A5.out) ?_;rintro e w19 ⟨rfl,hb⟩;refine ⟨_,rfl,?_⟩;replace BK1215:=zKb BK1215 hb;replace BK1216:=am (blk_below (zKp BK1216) hb);replace HB:=zBs HB hb;clear hb;obtain ⟨_,_,_,_,_,_,_,_⟩:=zf4 BK1216)|((with_reducible refine gate_callee (f:=73) rfl ?_);refine zc (some 14) Tryz.func73 _ (vernierref18_sign.calls _ _ _ _ _ _ A6.out) ?_;rintro e w21 ⟨rfl,hb⟩;refine ⟨_,rfl,?_⟩;replace BK1215:=zKb BK1215 hb;replace BK1216:=zKb BK1216 hb;replace HB:=zBs HB hb;clear hb;obtain ⟨_,_,_,_,_,_,_,_⟩:=zf4 BK1215;obtain ⟨_,_,_,_,_,_,_,_⟩:=zf4 BK1216)|((with_reducible refine gate_callee (f:=74) rfl ?_);refine zc (some 24) Tryz.func74 _ (vernierref18_size.calls _ _ _ _ _ _ _ _ _ _ _ A8.out) ?_;rintro e w24 ⟨rfl,hb⟩;refine ⟨_,rfl,?_⟩;replace BK1215:=zKb BK1215 hb;replace BK1216:=zKb BK1216 hb;replace HB:=zBs HB hb;clear hb)))
 ·go_ret
  exact ⟨z2,zB HB⟩
 ·go_ret
  exact ⟨z2,zB HB⟩
 go_ret
 exact ⟨z2,zB HB⟩
def order_Cmp.f (a0:Int) (a1:Int) (a2:Int):Option (Int × Option Int):=(shape_Rank.f a0 a1).bind fun bt1228=>(if bt1228.2.isNone=true then ((shape_Rank.f a0 a2).bind fun bt1231=>(if bt1228.1<bt1231.1 then (some ((-1),bt1231.2)) else (if bt1228.1 > bt1231.1 then (some (1,bt1231.2)) else (some (0,bt1231.2))))) else (some (0,some (bt1228.2.getD 0))))
theorem order_Cmp.calls (a0:Int) (a1:Int) (a2:Int) (r1:Int) (r2:Option Int) (w:World) (h:order_Cmp.f a0 a1 a2=some (r1,r2)) :
    Calls Tryz.prog 32 #[.int .i64 a0, .int .u64 a1, .int .u64 a2] w fun e w'=>e = .returned (.tuple #[.int .i64 r1,errW r2])∧Drawn0 w w':=by
 have hu27:=Tryz.underlying27
 have hu64:=Tryz.underlying64
 have H:=am h
 unfold order_Cmp.f at H
 clear h
 replace H:=zo H
 obtain ⟨⟨t1228,t1229⟩,A4,H⟩:=H
 try dsimp only at H
 rcases t1229 with _|q1230
 replace H:=zb1 H
 try simp only [errW_none,errW_some]
 replace H:=zo H
 obtain ⟨⟨t1231,t1232⟩,A5,H⟩:=H
 try dsimp only at H
 replace H:=zsd H
 rcases H with ⟨c6b0,H⟩|⟨c6b0,H⟩
 obtain ⟨rfl,rfl⟩:=zJ2 H
 rotate_left
 replace H:=zsdg H
 rcases H with ⟨c7b0,H⟩|⟨c7b0,H⟩
 obtain ⟨rfl,rfl⟩:=zJ2 H
 rotate_left
 obtain ⟨rfl,rfl⟩:=zJ2 H
 rotate_left
 replace H:=zb0 H
 try simp only [Option.getD_some] at H
 try simp only [errW_none,errW_some]
 obtain ⟨rfl,rfl⟩:=zJ2 H
 rotate_left
 all_goals (go_enter Tryz.func32,Tryz.ntmps32;go_wp2_with (first|((with_reducible refine gate_callee (f:=75) rfl ?_);refine zc (some 14) Tryz.func75 _ (shape_Rank.calls _ _ _ _ _ A4.out) ?_;rintro e w' ⟨rfl,⟨nd,rfl⟩⟩;refine ⟨_,rfl,?_⟩;(try simp only [errW_none,errW_some]))|((with_reducible refine gate_callee (f:=75) rfl ?_);refine zc (some 23) Tryz.func75 _ (shape_Rank.calls _ _ _ _ _ A5.out) ?_;rintro e w' ⟨rfl,⟨nd,rfl⟩⟩;refine ⟨_,rfl,?_⟩;(try simp only [errW_none,errW_some]))))
 ·go_ret2
  exact ⟨z1,z4⟩
 ·go_ret2
  exact ⟨z1,z4⟩
 ·go_ret2
  exact ⟨z1,z4⟩
 go_ret2
 exact ⟨z1,z4⟩
def order_Neg.f (a0:Int) (a1:Int):Option (Int × Option Int):=(shape_Fold.f a0 (IntKind.u64.wrap (-a1))).bind fun bt1233=>(some (bt1233.1,bt1233.2))
theorem order_Neg.calls (a0:Int) (a1:Int) (r1:Int) (r2:Option Int) (w:World) (h:order_Neg.f a0 a1=some (r1,r2)) :
    Calls Tryz.prog 33 #[.int .i64 a0, .int .u64 a1] w fun e w'=>e = .returned (.tuple #[.int .u64 r1,errW r2])∧Drawn0 w w':=by
 have H:=am h
 unfold order_Neg.f at H
 clear h
 replace H:=zo H
 obtain ⟨⟨t1233,t1234⟩,A3,H⟩:=H
 try dsimp only at H
 obtain ⟨rfl,rfl⟩:=zJ2 H
 go_enter Tryz.func33,Tryz.ntmps33
 go_wp2_with (first|((with_reducible refine gate_callee (f:=76) rfl ?_);refine zc (some 9) Tryz.func76 _ (shape_Fold.calls _ _ _ _ _ A3.out) ?_;rintro e w' ⟨rfl,⟨nd,rfl⟩⟩;refine ⟨_,rfl,?_⟩;(try simp only [errW_none,errW_some])))
 go_ret2
 exact ⟨z1,z4⟩
end Go.Proofs.Yy.PTx
end
