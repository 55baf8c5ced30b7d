/- Part 11 of what the proof needs. -/
import Derived.Test.YtpfnkbnepcchgaaGreatDoorKTBAJ
set_option linter.unusedSimpArgs false
set_option linter.unusedVariables false
section
set_option maxHeartbeats 8000000
set_option maxRecDepth 100000
namespace Go.Proofs.Yy.PTx
open Go.RowKit Go.Proofs.Yy.Z Go.Proofs.Yw.PrintWords Go.Proofs.Yw.PrintLast Go.Proofs.Yw.PrintMore
open Go.Proofs.Yy.M
attribute [local go_sem] runx_add64 runx_sub64 eql_cc eql_nc neq_cc neq_nc
attribute [local go_sem] max2_int min2_int max_two min_two max_three min_three max_four min_four
def bits_Mul64.f (a0:Int) (a1:Int):Option (Int × Int):=some (IntKind.u64.wrap ((IntKind.u64.wrap ((IntKind.u64.wrap ((a0 / 4294967296) * (a1 / 4294967296)))+((IntKind.u64.wrap ((IntKind.u64.wrap ((a0 / 4294967296) * (Go.bits .and .u64 a1 4294967295)))+((IntKind.u64.wrap ((Go.bits .and .u64 a0 4294967295) * (Go.bits .and .u64 a1 4294967295))) / 4294967296))) / 4294967296)))+((IntKind.u64.wrap ((Go.bits .and .u64 (IntKind.u64.wrap ((IntKind.u64.wrap ((a0 / 4294967296) * (Go.bits .and .u64 a1 4294967295)))+((IntKind.u64.wrap ((Go.bits .and .u64 a0 4294967295) * (Go.bits .and .u64 a1 4294967295))) / 4294967296))) 4294967295)+(IntKind.u64.wrap ((Go.bits .and .u64 a0 4294967295) * (a1 / 4294967296))))) / 4294967296)),IntKind.u64.wrap (a0 * a1))
theorem bits_Mul64.calls (a0:Int) (a1:Int) (r1:Int) (r2:Int) (w:World) (h:bits_Mul64.f a0 a1=some (r1,r2)) :
    Calls Tryz.prog 178 #[.int .u64 a0, .int .u64 a1] w fun e w'=>e = .returned (.tuple #[.int .u64 r1, .int .u64 r2])∧Drawn0 w w':=by
 have H:=am h
 unfold bits_Mul64.f at H
 clear h
 obtain ⟨rfl,rfl⟩:=zJ2 H
 go_enter Tryz.func178,Tryz.ntmps178
 go_wp2
 go_ret2
 exact ⟨z1,z4⟩
mutual
def bits_Div64.j2:Nat→Int→Int→Int→Int→Int→Int→Int→Int→Option (Int × Int)
  | 0,_,_,_,_,_,_,_,_=>none
  | k+1,x2,x8,x9,x10,x11,x13,x14,x15=>if x9=0 then (none) else (bits_Div64.l1 k x2 x8 x9 x10 x14 x15 (IntKind.u64.wrap ((IntKind.u64.wrap ((IntKind.u64.wrap ((IntKind.u64.wrap (x11 * 4294967296))+x13)) - (IntKind.u64.wrap (x15 * x2)))) - (IntKind.u64.wrap ((IntKind.u64.wrap (Int.tdiv (IntKind.u64.wrap ((IntKind.u64.wrap ((IntKind.u64.wrap (x11 * 4294967296))+x13)) - (IntKind.u64.wrap (x15 * x2)))) x9)) * x9)))) (IntKind.u64.wrap ((IntKind.u64.wrap ((IntKind.u64.wrap (x11 * 4294967296))+x13)) - (IntKind.u64.wrap (x15 * x2)))) (IntKind.u64.wrap (Int.tdiv (IntKind.u64.wrap ((IntKind.u64.wrap ((IntKind.u64.wrap (x11 * 4294967296))+x13)) - (IntKind.u64.wrap (x15 * x2)))) x9)))
def bits_Div64.l1:Nat→Int→Int→Int→Int→Int→Int→Int→Int→Int→Option (Int × Int)
  | 0,_,_,_,_,_,_,_,_,_=>none
  | k+1,x2,x8,x9,x10,x14,x15,x16,x17,x18=>if x18 ≥ 4294967296 then (bits_Div64.j4 k x2 x8 x9 x10 x14 x15 x16 x17 x18 true) else (bits_Div64.j4 k x2 x8 x9 x10 x14 x15 x16 x17 x18 (decide ((IntKind.u64.wrap (x18 * x10)) > (IntKind.u64.wrap ((IntKind.u64.wrap (4294967296 * x16))+x14)))))
def bits_Div64.j4:Nat→Int→Int→Int→Int→Int→Int→Int→Int→Int→Bool→Option (Int × Int)
  | 0,_,_,_,_,_,_,_,_,_,_=>none
  | k+1,x2,x8,x9,x10,x14,x15,x16,x17,x18,x113=>if x113=true then (if (IntKind.u64.wrap (x16+x9)) ≥ 4294967296 then (if 0≤x8 then (some (IntKind.u64.wrap ((IntKind.u64.wrap (x15 * 4294967296))+(IntKind.u64.wrap (x18 - 1))),shr .u64 (IntKind.u64.wrap ((IntKind.u64.wrap ((IntKind.u64.wrap (x17 * 4294967296))+x14)) - (IntKind.u64.wrap ((IntKind.u64.wrap (x18 - 1)) * x2)))) x8)) else (none)) else (bits_Div64.l1 k x2 x8 x9 x10 x14 x15 (IntKind.u64.wrap (x16+x9)) x17 (IntKind.u64.wrap (x18 - 1)))) else (if 0≤x8 then (some (IntKind.u64.wrap ((IntKind.u64.wrap (x15 * 4294967296))+x18),shr .u64 (IntKind.u64.wrap ((IntKind.u64.wrap ((IntKind.u64.wrap (x17 * 4294967296))+x14)) - (IntKind.u64.wrap (x18 * x2)))) x8)) else (none))
def bits_Div64.l0:Nat→Int→Int→Int→Int→Int→Int→Int→Int→Int→Option (Int × Int)
  | 0,_,_,_,_,_,_,_,_,_=>none
  | k+1,x2,x8,x9,x10,x11,x13,x14,x15,x16=>if x15 ≥ 4294967296 then (bits_Div64.j1 k x2 x8 x9 x10 x11 x13 x14 x15 x16 true) else (bits_Div64.j1 k x2 x8 x9 x10 x11 x13 x14 x15 x16 (decide ((IntKind.u64.wrap (x15 * x10)) > (IntKind.u64.wrap ((IntKind.u64.wrap (4294967296 * x16))+x13)))))
def bits_Div64.j1:Nat→Int→Int→Int→Int→Int→Int→Int→Int→Int→Bool→Option (Int × Int)
  | 0,_,_,_,_,_,_,_,_,_,_=>none
  | k+1,x2,x8,x9,x10,x11,x13,x14,x15,x16,x78=>if x78=true then (if (IntKind.u64.wrap (x16+x9)) ≥ 4294967296 then (bits_Div64.j2 k x2 x8 x9 x10 x11 x13 x14 (IntKind.u64.wrap (x15 - 1))) else (bits_Div64.l0 k x2 x8 x9 x10 x11 x13 x14 (IntKind.u64.wrap (x15 - 1)) (IntKind.u64.wrap (x16+x9)))) else (bits_Div64.j2 k x2 x8 x9 x10 x11 x13 x14 x15)
end
def bits_Div64.f (k:Nat) (a0:Int) (a1:Int) (a2:Int):Option (Int × Int):=if a2=0 then (none) else (if a2≤a0 then (none) else (if a0=0 then (some (IntKind.u64.wrap (Int.tdiv a1 a2),Int.tmod a1 a2)) else ((bits_LeadingZeros64.f k a2).bind fun t185=>(if 0≤(IntKind.u64.wrap (t185)) then (if 0≤(IntKind.u64.wrap (64 - (IntKind.u64.wrap (t185)))) then (if ((shl .u64 a2 (IntKind.u64.wrap (t185))) / 4294967296)=0 then (none) else (bits_Div64.l0 k (shl .u64 a2 (IntKind.u64.wrap (t185))) (IntKind.u64.wrap (t185)) ((shl .u64 a2 (IntKind.u64.wrap (t185))) / 4294967296) (Go.bits .and .u64 (shl .u64 a2 (IntKind.u64.wrap (t185))) 4294967295) (Go.bits .or .u64 (shl .u64 a0 (IntKind.u64.wrap (t185))) (shr .u64 a1 (IntKind.u64.wrap (64 - (IntKind.u64.wrap (t185)))))) ((shl .u64 a1 (IntKind.u64.wrap (t185))) / 4294967296) (Go.bits .and .u64 (shl .u64 a1 (IntKind.u64.wrap (t185))) 4294967295) (IntKind.u64.wrap (Int.tdiv (Go.bits .or .u64 (shl .u64 a0 (IntKind.u64.wrap (t185))) (shr .u64 a1 (IntKind.u64.wrap (64 - (IntKind.u64.wrap (t185)))))) ((shl .u64 a2 (IntKind.u64.wrap (t185))) / 4294967296))) (IntKind.u64.wrap ((Go.bits .or .u64 (shl .u64 a0 (IntKind.u64.wrap (t185))) (shr .u64 a1 (IntKind.u64.wrap (64 - (IntKind.u64.wrap (t185)))))) - (IntKind.u64.wrap ((IntKind.u64.wrap (Int.tdiv (Go.bits .or .u64 (shl .u64 a0 (IntKind.u64.wrap (t185))) (shr .u64 a1 (IntKind.u64.wrap (64 - (IntKind.u64.wrap (t185)))))) ((shl .u64 a2 (IntKind.u64.wrap (t185))) / 4294967296))) * ((shl .u64 a2 (IntKind.u64.wrap (t185))) / 4294967296))))))) else (none)) else (none)))))
theorem bits_Div64.mono_l:∀ k,(∀ y0 y1 y2 y3 y4 y5 y6 y7,LeO (bits_Div64.j2 k y0 y1 y2 y3 y4 y5 y6 y7) (bits_Div64.j2 (k+1) y0 y1 y2 y3 y4 y5 y6 y7))∧(∀ y0 y1 y2 y3 y4 y5 y6 y7 y8,LeO (bits_Div64.l1 k y0 y1 y2 y3 y4 y5 y6 y7 y8) (bits_Div64.l1 (k+1) y0 y1 y2 y3 y4 y5 y6 y7 y8))∧(∀ y0 y1 y2 y3 y4 y5 y6 y7 y8 y9,LeO (bits_Div64.j4 k y0 y1 y2 y3 y4 y5 y6 y7 y8 y9) (bits_Div64.j4 (k+1) y0 y1 y2 y3 y4 y5 y6 y7 y8 y9))∧(∀ y0 y1 y2 y3 y4 y5 y6 y7 y8,LeO (bits_Div64.l0 k y0 y1 y2 y3 y4 y5 y6 y7 y8) (bits_Div64.l0 (k+1) y0 y1 y2 y3 y4 y5 y6 y7 y8))∧(∀ y0 y1 y2 y3 y4 y5 y6 y7 y8 y9,LeO (bits_Div64.j1 k y0 y1 y2 y3 y4 y5 y6 y7 y8 y9) (bits_Div64.j1 (k+1) y0 y1 y2 y3 y4 y5 y6 y7 y8 y9))
  | 0=>⟨fun _ _ _ _ _ _ _ _ r h=>by simp [bits_Div64.j2] at h,fun _ _ _ _ _ _ _ _ _ r h=>by simp [bits_Div64.l1] at h,fun _ _ _ _ _ _ _ _ _ _ r h=>by simp [bits_Div64.j4] at h,fun _ _ _ _ _ _ _ _ _ r h=>by simp [bits_Div64.l0] at h,fun _ _ _ _ _ _ _ _ _ _ r h=>by simp [bits_Div64.j1] at h⟩
  | k+1=>by
    obtain ⟨ih0,ih1,ih2,ih3,ih4⟩:=bits_Div64.mono_l k
    refine ⟨?_,?_,?_,?_,?_⟩
    · intro y0 y1 y2 y3 y4 y5 y6 y7
      unfold bits_Div64.j2
      repeat' (with_reducible first|exact ih0 _ _ _ _ _ _ _ _|exact ih1 _ _ _ _ _ _ _ _ _|exact ih2 _ _ _ _ _ _ _ _ _ _|exact ih3 _ _ _ _ _ _ _ _ _|exact ih4 _ _ _ _ _ _ _ _ _ _|exact bits_LeadingZeros64.mono _ _|exact zm|exact zv|refine zI ?_ ?_|refine zO ?_ fun _=>?_)
    · intro y0 y1 y2 y3 y4 y5 y6 y7 y8
      unfold bits_Div64.l1
      repeat' (with_reducible first|exact ih0 _ _ _ _ _ _ _ _|exact ih1 _ _ _ _ _ _ _ _ _|exact ih2 _ _ _ _ _ _ _ _ _ _|exact ih3 _ _ _ _ _ _ _ _ _|exact ih4 _ _ _ _ _ _ _ _ _ _|exact bits_LeadingZeros64.mono _ _|exact zm|exact zv|refine zI ?_ ?_|refine zO ?_ fun _=>?_)
    · intro y0 y1 y2 y3 y4 y5 y6 y7 y8 y9
      unfold bits_Div64.j4
      repeat' (with_reducible first|exact ih0 _ _ _ _ _ _ _ _|exact ih1 _ _ _ _ _ _ _ _ _|exact ih2 _ _ _ _ _ _ _ _ _ _|exact ih3 _ _ _ _ _ _ _ _ _|exact ih4 _ _ _ _ _ _ _ _ _ _|exact bits_LeadingZeros64.mono _ _|exact zm|exact zv|refine zI ?_ ?_|refine zO ?_ fun _=>?_)
    · intro y0 y1 y2 y3 y4 y5 y6 y7 y8
      unfold bits_Div64.l0
      repeat' (with_reducible first|exact ih0 _ _ _ _ _ _ _ _|exact ih1 _ _ _ _ _ _ _ _ _|exact ih2 _ _ _ _ _ _ _ _ _ _|exact ih3 _ _ _ _ _ _ _ _ _|exact ih4 _ _ _ _ _ _ _ _ _ _|exact bits_LeadingZeros64.mono _ _|exact zm|exact zv|refine zI ?_ ?_|refine zO ?_ fun _=>?_)
    · intro y0 y1 y2 y3 y4 y5 y6 y7 y8 y9
      unfold bits_Div64.j1
      repeat' (with_reducible first|exact ih0 _ _ _ _ _ _ _ _|exact ih1 _ _ _ _ _ _ _ _ _|exact ih2 _ _ _ _ _ _ _ _ _ _|exact ih3 _ _ _ _ _ _ _ _ _|exact ih4 _ _ _ _ _ _ _ _ _ _|exact bits_LeadingZeros64.mono _ _|exact zm|exact zv|refine zI ?_ ?_|refine zO ?_ fun _=>?_)
theorem bits_Div64.mono:∀ a0 a1 a2 k,LeO (bits_Div64.f k a0 a1 a2) (bits_Div64.f (k+1) a0 a1 a2):=by
  intro a0 a1 a2 k
  obtain ⟨ih0,ih1,ih2,ih3,ih4⟩:=bits_Div64.mono_l k
  unfold bits_Div64.f
  repeat' (with_reducible first|exact ih0 _ _ _ _ _ _ _ _|exact ih1 _ _ _ _ _ _ _ _ _|exact ih2 _ _ _ _ _ _ _ _ _ _|exact ih3 _ _ _ _ _ _ _ _ _|exact ih4 _ _ _ _ _ _ _ _ _ _|exact bits_LeadingZeros64.mono _ _|exact zm|exact zv|refine zI ?_ ?_|refine zO ?_ fun _=>?_)
theorem bits_Div64.calls (k:Nat) (a0:Int) (a1:Int) (a2:Int) (r1:Int) (r2:Int) (w:World) (h:bits_Div64.f k a0 a1 a2=some (r1,r2)) :
    Calls Tryz.prog 164 #[.int .u64 a0, .int .u64 a1, .int .u64 a2] w fun e w'=>e = .returned (.tuple #[.int .u64 r1, .int .u64 r2])∧Drawn0 w w':=by
 have H:=am h
 unfold bits_Div64.f at H
 clear h
 replace H:=zjk H
 obtain ⟨c4b0,c4b1,c4,H⟩:=H
 replace H:=zjd H
 obtain ⟨c5b0,H⟩:=H
 replace H:=zsk H
 rcases H with ⟨c6b0,c6b1,H⟩|⟨c6b0,c6b1,c6,H⟩
 ·obtain ⟨rfl,rfl⟩:=zJ2 H
  go_enter Tryz.func164,Tryz.ntmps164
  go_wp2
  repeat (go_quiet (fail);try go_wp2)
  go_ret2
  exact ⟨z1,z4⟩
 replace H:=zo H
 obtain ⟨t185,A7,H⟩:=H
 generalize hji8:(IntKind.u64.wrap (t185):Int)=ji8 at H
 (try rw [hji8] at A7)
 replace H:=zit H
 obtain ⟨c9b0,c9b1,H⟩:=H
 generalize hji10:(shl .u64 a2 (ji8):Int)=ji10 at H
 (try rw [hji10] at A7)
 have hji10_:(IntKind.u64.wrap (a2 * 2 ^ min (ji8).toNat 64))=ji10:=hji10
 have hji10z:(ji8)≤64→(IntKind.u64.wrap (a2 * 2 ^ (ji8).toNat))=ji10:=shl_small hji10
 have c11b0:=eq_true (zD:0≤(ji8))
 generalize hji12:(shl .u64 a0 (ji8):Int)=ji12 at H
 (try rw [hji12] at A7)
 have hji12_:(IntKind.u64.wrap (a0 * 2 ^ min (ji8).toNat 64))=ji12:=hji12
 have hji12z:(ji8)≤64→(IntKind.u64.wrap (a0 * 2 ^ (ji8).toNat))=ji12:=shl_small hji12
 generalize hji13:(IntKind.u64.wrap (64 - (ji8)):Int)=ji13 at H
 (try rw [hji13] at A7)
 replace H:=zit H
 obtain ⟨c14b0,c14b1,H⟩:=H
 generalize hji15:(shr .u64 a1 (ji13):Int)=ji15 at H
 (try rw [hji15] at A7)
 have hji15_:(a1 / 2 ^ min (ji13).toNat 64)=ji15:=hji15
 have hji15z:(ji13)≤64→(a1 / 2 ^ (ji13).toNat)=ji15:=shr_small hji15
 have c16b0:=eq_true (zD:0≤(ji8))
 generalize hji17:(shl .u64 a1 (ji8):Int)=ji17 at H
 (try rw [hji17] at A7)
 have hji17_:(IntKind.u64.wrap (a1 * 2 ^ min (ji8).toNat 64))=ji17:=hji17
 have hji17z:(ji8)≤64→(IntKind.u64.wrap (a1 * 2 ^ (ji8).toNat))=ji17:=shl_small hji17
 replace H:=zjk H
 obtain ⟨c18b0,c18b1,c18,H⟩:=H
 go_enter Tryz.func164,Tryz.ntmps164
 go_upto_block 0 with (first|(go_at_call 184;(with_reducible refine (bits_LeadingZeros64.calls _ _ _ _ A7.out).mono ?_);rintro e w' ⟨rfl,⟨nd,rfl⟩⟩;(try first|exact ⟨rfl,_,World.drewN_drewN _ _ _⟩|exact ⟨rfl,_,Eq.trans (World.drewN_drewN _ _ _) (congrArg (World.drewN _) (Nat.add_assoc _ _ _))⟩)))
 repeat (go_quiet (first|(go_at_call 184;(with_reducible refine (bits_LeadingZeros64.calls k a2 t185 _ A7.out).mono ?_);rintro e w' ⟨rfl,⟨nd,rfl⟩⟩;(try first|exact ⟨rfl,_,World.drewN_drewN _ _ _⟩|exact ⟨rfl,_,Eq.trans (World.drewN_drewN _ _ _) (congrArg (World.drewN _) (Nat.add_assoc _ _ _))⟩)));go_upto_block 0 with (first|(go_at_call 184;(with_reducible refine (bits_LeadingZeros64.calls k a2 t185 _ A7.out).mono ?_);rintro e w' ⟨rfl,⟨nd,rfl⟩⟩;(try first|exact ⟨rfl,_,World.drewN_drewN _ _ _⟩|exact ⟨rfl,_,Eq.trans (World.drewN_drewN _ _ _) (congrArg (World.drewN _) (Nat.add_assoc _ _ _))⟩))))
 (try simp only [Act.put,List.setIfInBounds_toArray,List.set_cons_zero,List.set_cons_succ])
 go_cut [15] (fun v15 wc => ∃ (kq:Nat) (x15_18:Int),v15 = .int .u64 x15_18∧Aside0 (bits_Div64.j2 kq ji10 ji8 ((ji10) / 4294967296) (Go.bits .and .u64 (ji10) 4294967295) (Go.bits .or .u64 (ji12) (ji15)) ((ji17) / 4294967296) (Go.bits .and .u64 (ji17) 4294967295) x15_18=some (r1,r2))∧Aside0 (kq≤k)∧Drawn0 w wc)
 case first =>
  go_wp2
  repeat (go_quiet (fail);try go_wp2)
  go_loopg [15,16] k (fun kq v15 v16 w' => ∃ (x15_1:Int) (x16_1:Int),v15 = .int .u64 x15_1∧v16 = .int .u64 x16_1∧Aside0 (bits_Div64.l0 kq ji10 ji8 ((ji10) / 4294967296) (Go.bits .and .u64 (ji10) 4294967295) (Go.bits .or .u64 (ji12) (ji15)) ((ji17) / 4294967296) (Go.bits .and .u64 (ji17) 4294967295) x15_1 x16_1=some (r1,r2))∧Aside0 (kq≤k)∧Drawn0 w w')
  case atStart=>exact ⟨(IntKind.u64.wrap (Int.tdiv (Go.bits .or .u64 (ji12) (ji15)) ((ji10) / 4294967296))),(IntKind.u64.wrap ((Go.bits .or .u64 (ji12) (ji15)) - (IntKind.u64.wrap ((IntKind.u64.wrap (Int.tdiv (Go.bits .or .u64 (ji12) (ji15)) ((ji10) / 4294967296))) * ((ji10) / 4294967296))))),(by first|rfl|(simp;done)|(simp only [← hji10, ← hji12, ← hji15] <;> (first|rfl|simp))|(simp [*];done)),(by first|rfl|(simp;done)|(simp only [← hji10, ← hji12, ← hji15] <;> (first|rfl|simp))|(simp [*];done)),H,zL,z4⟩
  clear H
  obtain ⟨x15_1,x16_1,rfl,rfl,H,HK1,⟨m1,rfl⟩⟩:=hrel
  obtain _|k1:=gk
  ·exact zz H rfl
  simp only [bits_Div64.l0] at H
  go_upto_region 17 with (fail)
  repeat (go_quiet (fail);go_upto_region 17 with (fail))
  go_cut [78] (fun v78 wc => ∃ (kq:Nat) (x78_19:Bool),v78 = .bool x78_19∧Aside0 (bits_Div64.j1 kq ji10 ji8 ((ji10) / 4294967296) (Go.bits .and .u64 (ji10) 4294967295) (Go.bits .or .u64 (ji12) (ji15)) ((ji17) / 4294967296) (Go.bits .and .u64 (ji17) 4294967295) x15_1 x16_1 x78_19=some (r1,r2))∧Aside0 (kq≤k1)∧Drawn0 w wc)
  case first =>
   replace H:=zsde H
   rcases H with ⟨c21b0,H⟩|⟨c21b0,H⟩
   (first|rw [c21b0]|(simp only [i64_w,i32_w];rw [c21b0])|rw [c21b1]|skip)
   rotate_left
   (first|rw [c21b0]|(simp only [i64_w,i32_w];rw [c21b0])|rw [c21b1]|skip)
   rotate_left
   all_goals (go_wp2;repeat (go_quiet (fail);try go_wp2))
   ·go_meet
    case rel=>exact ⟨_,(true),z1,H,⟨by have:=HK1.out;first|omega|exact Nat.le_refl _⟩,z4⟩
   go_meet
   case rel=>exact ⟨_,(decide ((IntKind.u64.wrap (x15_1 * (Go.bits .and .u64 (ji10) 4294967295))) > (IntKind.u64.wrap ((IntKind.u64.wrap (4294967296 * x16_1))+((ji17) / 4294967296))))),(by first|rfl|(simp;done)|(simp only [← hji10, ← hji17] <;> (first|rfl|simp))|(simp [*];done)),H,⟨by have:=HK1.out;first|omega|exact Nat.le_refl _⟩,z4⟩
  case rest =>
   obtain ⟨kq,x78_19,rfl,H,HJ19,⟨mc19,rfl⟩⟩:=hcut
   obtain _|kj19:=kq
   ·exact zz H rfl
   simp only [bits_Div64.j1] at H
   cases x78_19
   replace H:=zb0 H
   rotate_left
   replace H:=zb1 H
   replace H:=zsde H
   rcases H with ⟨c23b0,H⟩|⟨c23b0,H⟩
   rotate_left
   rotate_left
   all_goals (go_wp2;repeat (go_quiet (fail);try go_wp2))
   ·go_meet
    case rel=>exact ⟨_,(x15_1),z1,H,⟨by have:=HK1.out;have:=HJ19.out;first|omega|exact Nat.le_refl _⟩,z4⟩
   ·go_meet
    case rel=>exact ⟨_,(IntKind.u64.wrap (x15_1 - 1)),z1,H,⟨by have:=HK1.out;have:=HJ19.out;first|omega|exact Nat.le_refl _⟩,z4⟩
   go_roundg kj19
   case measure=>have:=HK1.out;have:=HJ19.out;omega
   case rel=>exact ⟨(IntKind.u64.wrap (x15_1 - 1)),(IntKind.u64.wrap (x16_1+((ji10) / 4294967296))),z1,(by first|rfl|(simp;done)|(simp only [← hji10] <;> (first|rfl|simp))|(simp [*];done)),H,⟨by have:=HK1.out;have:=HJ19.out;omega⟩,z4⟩
 case rest =>
  obtain ⟨kq,x15_18,rfl,H,HJ18,⟨mc18,rfl⟩⟩:=hcut
  obtain _|kj18:=kq
  ·exact zz H rfl
  simp only [bits_Div64.j2] at H
  replace H:=zjk H
  obtain ⟨c24b0,c24b1,c24,H⟩:=H
  go_wp2
  repeat (go_quiet (fail);try go_wp2)
  go_loopg [16,18] kj18 (fun kq v16 v18 w' => ∃ (x16_2:Int) (x18_2:Int),v16 = .int .u64 x16_2∧v18 = .int .u64 x18_2∧Aside0 (bits_Div64.l1 kq ji10 ji8 ((ji10) / 4294967296) (Go.bits .and .u64 (ji10) 4294967295) (Go.bits .and .u64 (ji17) 4294967295) x15_18 x16_2 (IntKind.u64.wrap ((IntKind.u64.wrap ((IntKind.u64.wrap ((Go.bits .or .u64 (ji12) (ji15)) * 4294967296))+((ji17) / 4294967296))) - (IntKind.u64.wrap (x15_18 * ji10)))) x18_2=some (r1,r2))∧Aside0 (kq≤kj18)∧Drawn0 w w')
  case atStart=>exact ⟨(IntKind.u64.wrap ((IntKind.u64.wrap ((IntKind.u64.wrap ((IntKind.u64.wrap ((Go.bits .or .u64 (ji12) (ji15)) * 4294967296))+((ji17) / 4294967296))) - (IntKind.u64.wrap (x15_18 * ji10)))) - (IntKind.u64.wrap ((IntKind.u64.wrap (Int.tdiv (IntKind.u64.wrap ((IntKind.u64.wrap ((IntKind.u64.wrap ((Go.bits .or .u64 (ji12) (ji15)) * 4294967296))+((ji17) / 4294967296))) - (IntKind.u64.wrap (x15_18 * ji10)))) ((ji10) / 4294967296))) * ((ji10) / 4294967296))))),(IntKind.u64.wrap (Int.tdiv (IntKind.u64.wrap ((IntKind.u64.wrap ((IntKind.u64.wrap ((Go.bits .or .u64 (ji12) (ji15)) * 4294967296))+((ji17) / 4294967296))) - (IntKind.u64.wrap (x15_18 * ji10)))) ((ji10) / 4294967296))),(by first|rfl|(simp;done)|(simp only [← hji10, ← hji12, ← hji15, ← hji17] <;> (first|rfl|simp))|(simp [*];done)),(by first|rfl|(simp;done)|(simp only [← hji10, ← hji12, ← hji15, ← hji17] <;> (first|rfl|simp))|(simp [*];done)),H,zL,z4⟩
  clear H
  obtain ⟨x16_2,x18_2,rfl,rfl,H,HK2,⟨m2,rfl⟩⟩:=hrel
  obtain _|k2:=gk
  ·exact zz H rfl
  simp only [bits_Div64.l1] at H
  go_upto_region 24 with (fail)
  repeat (go_quiet (fail);go_upto_region 24 with (fail))
  go_cut [113] (fun v113 wc => ∃ (kq:Nat) (x113_24:Bool),v113 = .bool x113_24∧Aside0 (bits_Div64.j4 kq ji10 ji8 ((ji10) / 4294967296) (Go.bits .and .u64 (ji10) 4294967295) (Go.bits .and .u64 (ji17) 4294967295) x15_18 x16_2 (IntKind.u64.wrap ((IntKind.u64.wrap ((IntKind.u64.wrap ((Go.bits .or .u64 (ji12) (ji15)) * 4294967296))+((ji17) / 4294967296))) - (IntKind.u64.wrap (x15_18 * ji10)))) x18_2 x113_24=some (r1,r2))∧Aside0 (kq≤k2)∧Drawn0 w wc)
  case first =>
   replace H:=zsde H
   rcases H with ⟨c26b0,H⟩|⟨c26b0,H⟩
   (first|rw [c26b0]|(simp only [i64_w,i32_w];rw [c26b0])|rw [c26b1]|skip)
   rotate_left
   (first|rw [c26b0]|(simp only [i64_w,i32_w];rw [c26b0])|rw [c26b1]|skip)
   rotate_left
   all_goals (go_wp2;repeat (go_quiet (fail);try go_wp2))
   ·go_meet
    case rel=>exact ⟨_,(true),z1,H,⟨by have:=HJ18.out;have:=HK2.out;first|omega|exact Nat.le_refl _⟩,z4⟩
   go_meet
   case rel=>exact ⟨_,(decide ((IntKind.u64.wrap (x18_2 * (Go.bits .and .u64 (ji10) 4294967295))) > (IntKind.u64.wrap ((IntKind.u64.wrap (4294967296 * x16_2))+(Go.bits .and .u64 (ji17) 4294967295))))),(by first|rfl|(simp;done)|(simp only [← hji10, ← hji17] <;> (first|rfl|simp))|(simp [*];done)),H,⟨by have:=HJ18.out;have:=HK2.out;first|omega|exact Nat.le_refl _⟩,z4⟩
  case rest =>
   obtain ⟨kq,x113_24,rfl,H,HJ24,⟨mc24,rfl⟩⟩:=hcut
   obtain _|kj24:=kq
   ·exact zz H rfl
   simp only [bits_Div64.j4] at H
   cases x113_24
   replace H:=zb0 H
   replace H:=zit H
   obtain ⟨c31b0,c31b1,H⟩:=H
   generalize hji32:(shr .u64 (IntKind.u64.wrap ((IntKind.u64.wrap ((IntKind.u64.wrap ((IntKind.u64.wrap ((IntKind.u64.wrap ((IntKind.u64.wrap ((Go.bits .or .u64 (ji12) (ji15)) * 4294967296))+((ji17) / 4294967296))) - (IntKind.u64.wrap (x15_18 * ji10)))) * 4294967296))+(Go.bits .and .u64 (ji17) 4294967295))) - (IntKind.u64.wrap (x18_2 * ji10)))) ji8:Int)=ji32 at H
   have hji32_:((IntKind.u64.wrap ((IntKind.u64.wrap ((IntKind.u64.wrap ((IntKind.u64.wrap ((IntKind.u64.wrap ((IntKind.u64.wrap ((Go.bits .or .u64 (ji12) (ji15)) * 4294967296))+((ji17) / 4294967296))) - (IntKind.u64.wrap (x15_18 * ji10)))) * 4294967296))+(Go.bits .and .u64 (ji17) 4294967295))) - (IntKind.u64.wrap (x18_2 * ji10)))) / 2 ^ min ji8.toNat 64)=ji32:=hji32
   have hji32z:ji8≤64→((IntKind.u64.wrap ((IntKind.u64.wrap ((IntKind.u64.wrap ((IntKind.u64.wrap ((IntKind.u64.wrap ((IntKind.u64.wrap ((Go.bits .or .u64 (ji12) (ji15)) * 4294967296))+((ji17) / 4294967296))) - (IntKind.u64.wrap (x15_18 * ji10)))) * 4294967296))+(Go.bits .and .u64 (ji17) 4294967295))) - (IntKind.u64.wrap (x18_2 * ji10)))) / 2 ^ ji8.toNat)=ji32:=shr_small hji32
   obtain ⟨rfl,rfl⟩:=zJ2 H
   rotate_left
   replace H:=zb1 H
   replace H:=zsde H
   rcases H with ⟨c28b0,H⟩|⟨c28b0,H⟩
   replace H:=zit H
   obtain ⟨c29b0,c29b1,H⟩:=H
   generalize hji30:(shr .u64 (IntKind.u64.wrap ((IntKind.u64.wrap ((IntKind.u64.wrap ((IntKind.u64.wrap ((IntKind.u64.wrap ((IntKind.u64.wrap ((Go.bits .or .u64 (ji12) (ji15)) * 4294967296))+((ji17) / 4294967296))) - (IntKind.u64.wrap (x15_18 * ji10)))) * 4294967296))+(Go.bits .and .u64 (ji17) 4294967295))) - (IntKind.u64.wrap ((IntKind.u64.wrap (x18_2 - 1)) * ji10)))) ji8:Int)=ji30 at H
   have hji30_:((IntKind.u64.wrap ((IntKind.u64.wrap ((IntKind.u64.wrap ((IntKind.u64.wrap ((IntKind.u64.wrap ((IntKind.u64.wrap ((Go.bits .or .u64 (ji12) (ji15)) * 4294967296))+((ji17) / 4294967296))) - (IntKind.u64.wrap (x15_18 * ji10)))) * 4294967296))+(Go.bits .and .u64 (ji17) 4294967295))) - (IntKind.u64.wrap ((IntKind.u64.wrap (x18_2 - 1)) * ji10)))) / 2 ^ min ji8.toNat 64)=ji30:=hji30
   have hji30z:ji8≤64→((IntKind.u64.wrap ((IntKind.u64.wrap ((IntKind.u64.wrap ((IntKind.u64.wrap ((IntKind.u64.wrap ((IntKind.u64.wrap ((Go.bits .or .u64 (ji12) (ji15)) * 4294967296))+((ji17) / 4294967296))) - (IntKind.u64.wrap (x15_18 * ji10)))) * 4294967296))+(Go.bits .and .u64 (ji17) 4294967295))) - (IntKind.u64.wrap ((IntKind.u64.wrap (x18_2 - 1)) * ji10)))) / 2 ^ ji8.toNat)=ji30:=shr_small hji30
   obtain ⟨rfl,rfl⟩:=zJ2 H
   rotate_left
   rotate_left
   all_goals (go_wp2;repeat (go_quiet (fail);try go_wp2))
   ·go_ret2
    exact ⟨by first|rfl|(simp;done)|(simp only [← hji8, ← hji10, ← hji12, ← hji13, ← hji15, ← hji17, ← hji32] <;> (first|rfl|simp))|(simp [*];done),z4⟩
   ·go_ret2
    exact ⟨by first|rfl|(simp;done)|(simp only [← hji8, ← hji10, ← hji12, ← hji13, ← hji15, ← hji17, ← hji30] <;> (first|rfl|simp))|(simp [*];done),z4⟩
   go_roundg kj24
   case measure=>have:=HJ18.out;have:=HK2.out;have:=HJ24.out;omega
   case rel=>exact ⟨(IntKind.u64.wrap (x16_2+((ji10) / 4294967296))),(IntKind.u64.wrap (x18_2 - 1)),(by first|rfl|(simp;done)|(simp only [← hji10] <;> (first|rfl|simp))|(simp [*];done)),z1,H,⟨by have:=HJ18.out;have:=HK2.out;have:=HJ24.out;omega⟩,z4⟩
def nat_short.l0:Nat→List Int→Int→List Int→Int→Int→Option (List Int × Int)
  | 0,_,_,_,_,_=>none
  | k+1,x0,x1,x6,x7,x8=>if x8 ≥ 0 then (if 0≤x8 then (if x8<(x0.length:Int) then ((bits_Div64.f k x7 (rd x0 x8) x1).bind fun bt190=>(if x8<(x6.length:Int) then (nat_short.l0 k x0 x1 (x6.set (x8:Int).toNat bt190.1) bt190.2 (wrap64 (x8 - 1))) else (none))) else (none)) else (none)) else ((nat_trim.f k x6).bind fun t193=>(some (t193,x7)))
def nat_short.f (k:Nat) (l0:List Int) (a1:Int):Option (List Int × Int):=if 0≤(l0.length:Int) then (if ((l0.length:Int):Int).toNat≤35184372088832 then (nat_short.l0 k l0 a1 (List.replicate ((l0.length:Int):Int).toNat 0) 0 (wrap64 ((l0.length:Int) - 1))) else (none)) else (none)
theorem nat_short.mono_l:∀ k,(∀ y0 y1 y2 y3 y4,LeO (nat_short.l0 k y0 y1 y2 y3 y4) (nat_short.l0 (k+1) y0 y1 y2 y3 y4))
  | 0=>fun _ _ _ _ _ r h=>by simp [nat_short.l0] at h
  | k+1=>by
    have ih0:=nat_short.mono_l k
    · intro y0 y1 y2 y3 y4
      unfold nat_short.l0
      repeat' (with_reducible first|exact ih0 _ _ _ _ _|exact bits_Div64.mono _ _ _ _|exact nat_trim.mono _ _|exact zm|exact zv|refine zI ?_ ?_|refine zO ?_ fun _=>?_)
theorem nat_short.mono:∀ a0 a1 k,LeO (nat_short.f k a0 a1) (nat_short.f (k+1) a0 a1):=by
  intro a0 a1 k
  have ih0:=nat_short.mono_l k
  unfold nat_short.f
  repeat' (with_reducible first|exact ih0 _ _ _ _ _|exact bits_Div64.mono _ _ _ _|exact nat_trim.mono _ _|exact zm|exact zv|refine zI ?_ ?_|refine zO ?_ fun _=>?_)
theorem nat_short.calls (k:Nat) (A0:Option Addr) (c0:Nat) (l0:List Int) (a1:Int) (r1:List Int) (r2:Int) (w:World) (hr0:Kd.C (Kd.int .u64) w A0 l0.length l0) (hc0:l0.length≤c0) (h:nat_short.f k l0 a1=some (r1,r2)) :
    Calls Tryz.prog 105 #[.slice A0 l0.length c0, .int .u64 a1] w fun e w' => ∃ v0_:Value,e = .returned (.tuple #[v0_, .int .u64 r2])∧Kd.V (Kd.int .u64) 25 w' w.heap.size (fun k_=>(w.heap.size≤k_)) v0_ r1∧Below w.heap.size w w':=by
 have HR0:=am hr0
 have HC0:=am hc0
 clear hr0 hc0
 have HB:=am (Below.refl w.heap.size w)
 have H:=am h
 unfold nat_short.f at H
 clear h
 replace H:=zit H
 obtain ⟨c3b0,c3b1,H⟩:=H
 replace H:=zit H
 obtain ⟨c4b0,c4b1,H⟩:=H
 generalize hy186:(List.replicate ((l0.length:Int):Int).toNat 0:List Int)=y186 at H
 have Ny186:=zY hy186
 clear hy186
 go_enter Tryz.func105,Tryz.ntmps105
 go_wp2_with (first|((with_reducible refine gate_dst (N:=11) rfl ?_);refine Kd.R_make (Kd.int .u64) _ 25 rfl (N:=11) rfl 88 _ _ rfl (l0.length:Int) (by first|rfl|(simp only [List.length_drop,List.length_take];rfl)) (by first|rfl|(simp only [List.length_drop,List.length_take];rfl)) Tryz.underlying88 (.int .u64 0) 8 info25 rfl (by decide) (by omega) 0 (ok:=fun _=>True) (okp:=fun _=>True) rfl (fun _ hk=>hk) trivial (zD) (Nat.le_trans (Nat.mul_le_mul_right _ (zD:(l0.length:Int).toNat≤35184372088832)) (by omega)) (Below.refl _ _) (Nat.le_refl _) ?_;intro v187 w5 ho6 hb hg_ hnew_;clear hg_ hnew_;(first|rw [← Ny186.out] at ho6|(simp only [Int.reduceToNat] at ho6;rw [← Ny186.out] at ho6));have HO188:=am (Kd.R_lower (Kd.R_newM (M:=fun k_=>(w.heap.size≤k_)) ho6 (zS HB) (fun k_ h_=>h_)) (zS HB));replace HB:=zBs HB hb;clear hb ho6))
 go_loopg [7,8] k (fun kq v7 v8 w' => ∃ (x6_1:List Int) (x7_1:Int) (x8_1:Int),v7 = .int .u64 x7_1∧v8 = .int .i64 x8_1∧Aside0 (nat_short.l0 kq l0 a1 x6_1 x7_1 x8_1=some (r1,r2))∧Aside0 (kq≤k)∧Aside0 (Kd.R (Kd.int .u64) 25 w' w.heap.size (fun k_=>(w.heap.size≤k_)) v187 x6_1)∧Aside0 (Below w.heap.size w w'))
 case atStart=>exact ⟨(y186),(0),(wrap64 ((l0.length:Int) - 1)),z1,z1,H,zL,⟨by (with_reducible repeat (first|apply Kd.R_alloc|apply Kd.R_drewN|apply Kd.R_drew));exact Kd.R_mono HO188.out (fun _ hk=>hk.1)⟩,⟨zB HB⟩⟩
 clear H
 obtain ⟨x6_1,x7_1,x8_1,rfl,rfl,H,HK1,HO_6,HB⟩:=hrel
 obtain _|k1:=gk
 ·exact zz H rfl
 simp only [nat_short.l0] at H
 replace H:=zsde H
 rcases H with ⟨c7b0,H⟩|⟨c7b0,H⟩
 replace H:=zid H
 obtain ⟨c8b0,H⟩:=H
 replace H:=zid H
 obtain ⟨c9b0,H⟩:=H
 replace H:=zo H
 obtain ⟨⟨t190,t191⟩,A10,H⟩:=H
 try dsimp only at H
 replace H:=zid H
 obtain ⟨c11b0,H⟩:=H
 generalize hy192:(x6_1.set (x8_1:Int).toNat t190:List Int)=y192 at H
 have Ny192:=zY hy192
 clear hy192
 have p189:0≤(x8_1:Int):=zD
 have q189:x8_1<(l0.length:Int):=zD
 obtain ⟨ad189,e189,hx189_0⟩:=Kd.at_int HR0.out x8_1 p189 q189
 cases e189
 replace hx189_0:=(HB.out.cell (World.block_lt_of_cell? w _ hx189_0)).trans hx189_0
 replace p189:=eq_true p189
 replace q189:=eq_true q189
 rotate_left
 replace H:=zo H
 obtain ⟨t193,A15,H⟩:=H
 obtain ⟨rfl,rfl⟩:=zJ2 H
 obtain ⟨Ao16,co16,eo16⟩:=Kd.R_slice HO_6.out
 subst eo16
 rotate_left
 all_goals (go_wp2_with (first|((with_reducible refine gate_callee (f:=164) rfl ?_);refine zc (some 28) Tryz.func164 _ (bits_Div64.calls _ _ _ _ _ _ _ A10.out) ?_;rintro e w' ⟨rfl,⟨nd,rfl⟩⟩;refine ⟨_,rfl,?_⟩;(try (rw [drewN_self wr];generalize hq_:World.drewN wr _=wr;have n0_:Aside0 (Kd.R (Kd.int .u64) 25 wr w.heap.size (fun k_=>(w.heap.size≤k_)) v187 x6_1):=⟨by rw [← hq_];exact (zR HO_6)⟩;have n1_:Aside0 (Below w.heap.size w wr):=⟨by rw [← hq_];exact (zB HB)⟩;clear HO_6 HB hq_;have HO_6:=n0_;have HB:=n1_;clear n0_ n1_));have p12:0≤(x8_1:Int):=zD;have q12:(x8_1:Int)<((x6_1.length:Int):Int):=zD;obtain ⟨go12,co12,eo12,gb12,gl12,cl12,HG12⟩:=Kd.R_form HO_6.out (by omega);(first|cases eo12|(injection eo12 with ea_ en_ ec_;(first|subst ea_|(injection ea_ with ea_;subst ea_));subst ec_;clear en_));have GB12:=am gb12;have GG12:=am HG12;clear gb12 gl12 HG12;obtain ⟨hx12_0,hf12_0⟩:=Kd.R_celln 0 HO_6.out (x8_1:Int) p12 q12;replace p12:=eq_true p12;replace q12:=eq_true q12;obtain ⟨hy13_,hz13_⟩:=Kd.R_celln 0 HO_6.out (x8_1:Int) (zD) (zD);have HP13:=Kd.R_putg HO_6.out (x8_1:Int) t190)|((with_reducible refine gate_store (t:=25) (p:=31) rfl ?_);refine store_event (t:=25) (p:=31) (v:=?vo_w14) (w1:=(wr.setCell ⟨go12,(x8_1:Int).toNat,none⟩ (.int .u64 t190))) ?hg ?ho ?hn ?hr ?_;(case ho=>rfl);(case hg=>rfl);(case hn=>rfl);(case hr=>first|(go_simp;done)|(go_simp;rfl));intro w14 hw;have hg:wr.grownBy w14 (some go12):=(by rw [hw];exact HP13.2);have hp_:Kd.R (Kd.int .u64) 25 w14 w.heap.size (fun k_=>(w.heap.size≤k_)) (.slice (some ⟨go12,0,none⟩) x6_1.length co12) y192:=(by rw [hw,Ny192.out];exact HP13.1);clear HP13;replace HO_6:=am (hp_);replace HB:=am ((by rw [hw];exact below_set (HB.out) GB12.out:Below w.heap.size w w14));clear hg hw hp_)|((with_reducible refine gate_callee (f:=103) rfl ?_);refine zc (some 33) Tryz.func103 #[.slice Ao16 x6_1.length co16] (nat_trim.calls _ (fun k_=>some k_=(.slice Ao16 x6_1.length co16:Value).ownBlock) _ _ _ _ _ (Kd.R_V (Kd.R_tight rfl (HO_6.out))) A15.out) ?_;rintro e w17 ⟨v194,rfl,ho0,hb⟩;refine ⟨_,rfl,?_⟩;have HO195:=am (Kd.V_lower (Kd.V_mono (ok':=fun k_=>(w.heap.size≤k_)) ho0 (fun k_ hk_=>Or.elim hk_ (fun hs_=>((HO_6.out).1 k_ hs_.symm)) (fun hn_=>(Nat.le_trans (zS HB) hn_)))) (zS HB));replace HO_6:=zRb HO_6 hb;replace HB:=zBs HB hb;clear hb ho0)))
 ·go_roundg k1
  case measure=>have:=HK1.out;omega
  case rel=>exact ⟨(y192),(t191),(wrap64 (x8_1 - 1)),z1,z1,H,(zH HK1),⟨zR HO_6⟩,⟨zB HB⟩⟩
 go_ret2
 exact ⟨_,z2,zV HO195,zB HB⟩
mutual
def nat_plus.j0:Nat→List Int→List Int→Option (List Int)
  | 0,_,_=>none
  | k+1,x0,x1=>if 0≤(wrap64 ((x0.length:Int)+1)) then (if (wrap64 ((x0.length:Int)+1):Int).toNat≤35184372088832 then (nat_plus.l0 k x0 x1 (List.replicate (wrap64 ((x0.length:Int)+1):Int).toNat 0) 0 x0 (x0.length:Int) 0) else (none)) else (none)
def nat_plus.l0:Nat→List Int→List Int→List Int→Int→List Int→Int→Int→Option (List Int)
  | 0,_,_,_,_,_,_,_=>none
  | k+1,x0,x1,x5,x6,x21,x22,x23=>if x23<x22 then (if 0≤x23 then (if x23<(x21.length:Int) then (if x23<(x1.length:Int) then (if x6≤1 then (if x23<(x5.length:Int) then (nat_plus.l0 k x0 x1 (x5.set (x23:Int).toNat (add64Lo (rd x21 x23) (rd x1 x23) x6)) (add64Hi (rd x21 x23) (rd x1 x23) x6) x21 x22 (wrap64 (x23+1))) else (none)) else (none)) else (if x6≤1 then (if x23<(x5.length:Int) then (nat_plus.l0 k x0 x1 (x5.set (x23:Int).toNat (add64Lo (rd x21 x23) 0 x6)) (add64Hi (rd x21 x23) 0 x6) x21 x22 (wrap64 (x23+1))) else (none)) else (none))) else (none)) else (none)) else (if 0≤(x0.length:Int) then (if (x0.length:Int)<(x5.length:Int) then ((nat_trim.f k (x5.set ((x0.length:Int):Int).toNat x6)).bind fun t342=>(some t342)) else (none)) else (none))
end
def nat_plus.f (k:Nat) (l0:List Int) (l1:List Int):Option (List Int):=if (l0.length:Int)<(l1.length:Int) then (nat_plus.j0 k l1 l0) else (nat_plus.j0 k l0 l1)
theorem nat_plus.mono_l:∀ k,(∀ y0 y1,LeO (nat_plus.j0 k y0 y1) (nat_plus.j0 (k+1) y0 y1))∧(∀ y0 y1 y2 y3 y4 y5 y6,LeO (nat_plus.l0 k y0 y1 y2 y3 y4 y5 y6) (nat_plus.l0 (k+1) y0 y1 y2 y3 y4 y5 y6))
  | 0=>⟨fun _ _ r h=>by simp [nat_plus.j0] at h,fun _ _ _ _ _ _ _ r h=>by simp [nat_plus.l0] at h⟩
  | k+1=>by
    obtain ⟨ih0,ih1⟩:=nat_plus.mono_l k
    refine ⟨?_,?_⟩
    · intro y0 y1
      unfold nat_plus.j0
      repeat' (with_reducible first|exact ih0 _ _|exact ih1 _ _ _ _ _ _ _|exact nat_trim.mono _ _|exact zm|exact zv|refine zI ?_ ?_|refine zO ?_ fun _=>?_)
    · intro y0 y1 y2 y3 y4 y5 y6
      unfold nat_plus.l0
      repeat' (with_reducible first|exact ih0 _ _|exact ih1 _ _ _ _ _ _ _|exact nat_trim.mono _ _|exact zm|exact zv|refine zI ?_ ?_|refine zO ?_ fun _=>?_)
theorem nat_plus.mono:∀ a0 a1 k,LeO (nat_plus.f k a0 a1) (nat_plus.f (k+1) a0 a1):=by
  intro a0 a1 k
  obtain ⟨ih0,ih1⟩:=nat_plus.mono_l k
  unfold nat_plus.f
  repeat' (with_reducible first|exact ih0 _ _|exact ih1 _ _ _ _ _ _ _|exact nat_trim.mono _ _|exact zm|exact zv|refine zI ?_ ?_|refine zO ?_ fun _=>?_)
theorem nat_plus.calls (k:Nat) (P0_:Nat→Prop) (A0:Option Addr) (c0:Nat) (l0:List Int) (P1_:Nat→Prop) (A1:Option Addr) (c1:Nat) (l1:List Int) (r:List Int) (w:World) (hs0:Kd.V (Kd.int .u64) 25 w w.heap.size (fun k_=>P0_ k_) (.slice A0 l0.length c0) l0) (hs1:Kd.V (Kd.int .u64) 25 w w.heap.size (fun k_=>P1_ k_) (.slice A1 l1.length c1) l1) (h:nat_plus.f k l0 l1=some r) :
    Calls Tryz.prog 150 #[.slice A0 l0.length c0, .slice A1 l1.length c1] w fun e w' => ∃ v0_:Value,e = .returned (v0_)∧Kd.V (Kd.int .u64) 25 w' w.heap.size (fun k_=>((P0_ k_∨P1_ k_)∨w.heap.size≤k_)) v0_ r∧Below w.heap.size w w':=by
 have HO0:=am (show Kd.V (Kd.int .u64) 25 w w.heap.size (fun k_=>((P0_ k_∨P1_ k_)∨w.heap.size≤k_)) (.slice A0 l0.length c0) l0 from Kd.V_mono hs0 (fun k_ hk => .inl (.inl hk)))
 have HO1:=am (show Kd.V (Kd.int .u64) 25 w w.heap.size (fun k_=>((P0_ k_∨P1_ k_)∨w.heap.size≤k_)) (.slice A1 l1.length c1) l1 from Kd.V_mono hs1 (fun k_ hk => .inl (.inr hk)))
 have HB:=am (Below.refl w.heap.size w)
 have H:=am h
 unfold nat_plus.f at H
 clear h
 go_enter Tryz.func150,Tryz.ntmps150
 go_upto_if 14 with (fail)
 go_cut [0,1] (fun v0 v1 wc => ∃ (kq:Nat) (x0_2:List Int) (x1_2:List Int),Aside0 (nat_plus.j0 kq x0_2 x1_2=some r)∧Aside0 (kq≤k)∧Aside0 (Kd.V (Kd.int .u64) 25 wc w.heap.size (fun k_=>((P0_ k_∨P1_ k_)∨w.heap.size≤k_)) v0 x0_2)∧Aside0 (Kd.V (Kd.int .u64) 25 wc w.heap.size (fun k_=>((P0_ k_∨P1_ k_)∨w.heap.size≤k_)) v1 x1_2)∧Aside0 (Below w.heap.size w wc))
 case first =>
  replace H:=zs H
  rcases H with ⟨c4,H⟩|⟨c4,H⟩
  have c4b0:decide ((l0.length:Int)<(l1.length:Int))=true:=decide_eq_true c4
  have c4b1:decide (l0.length<l1.length)=true:=decide_eq_true (Int.ofNat_lt.mp c4)
  clear c4
  (first|rw [c4b0]|(simp only [i64_w,i32_w];rw [c4b0])|rw [c4b1]|skip)
  rotate_left
  have c4b0:decide ((l0.length:Int)<(l1.length:Int))=false:=decide_eq_false c4
  have c4b1:decide (l0.length<l1.length)=false:=decide_eq_false (fun h=>c4 (Int.ofNat_lt.mpr h))
  clear c4
  (first|rw [c4b0]|(simp only [i64_w,i32_w];rw [c4b0])|rw [c4b1]|skip)
  rotate_left
  all_goals (go_wp2)
  ·go_meet
   case rel=>exact ⟨_,(l1),(l0),H,⟨z5⟩,⟨zV HO1⟩,⟨zV HO0⟩,⟨zB HB⟩⟩
  go_meet
  case rel=>exact ⟨_,(l0),(l1),H,⟨z5⟩,⟨zV HO0⟩,⟨zV HO1⟩,⟨zB HB⟩⟩
 case rest =>
  obtain ⟨kq,x0_2,x1_2,H,HJ2,HO_0,HO_1,HB⟩:=hcut
  obtain _|kj2:=kq
  ·exact zz H rfl
  simp only [nat_plus.j0] at H
  generalize hji5:(wrap64 ((x0_2.length:Int)+1):Int)=ji5 at H
  have hji5w:(IntKind.i64.wrap ((x0_2.length:Int)+1))=ji5:=(i64_w _).trans hji5
  replace H:=zit H
  obtain ⟨c6b0,c6b1,H⟩:=H
  replace H:=zit H
  obtain ⟨c7b0,c7b1,H⟩:=H
  generalize hy334:(List.replicate (ji5:Int).toNat 0:List Int)=y334 at H
  have Ny334:=zY hy334
  clear hy334
  obtain ⟨Ao8,co8,eo8⟩:=Kd.V_slice HO_0.out
  subst eo8
  go_wp2_with (first|((with_reducible refine gate_dst (N:=20) rfl ?_);refine Kd.R_make (Kd.int .u64) _ 25 rfl (N:=20) rfl 88 _ _ rfl ji5 (by first|rfl|(simp only [List.length_drop,List.length_take];rfl)) (by first|rfl|(simp only [List.length_drop,List.length_take];rfl)) Tryz.underlying88 (.int .u64 0) 8 info25 rfl (by decide) (by omega) 0 (ok:=fun _=>True) (okp:=fun _=>True) rfl (fun _ hk=>hk) trivial (zD) (Nat.le_trans (Nat.mul_le_mul_right _ (zD:ji5.toNat≤35184372088832)) (by omega)) (Below.refl _ _) (Nat.le_refl _) ?_;intro v335 w9 ho10 hb hg_ hnew_;clear hg_ hnew_;(first|rw [← Ny334.out] at ho10|(simp only [Int.reduceToNat] at ho10;rw [← Ny334.out] at ho10));replace HO_0:=am (Kd.V_elder' (zV HO_0) (Kd.R_base ho10) hb);replace HO_1:=am (Kd.V_elder' (zV HO_1) (Kd.R_base ho10) hb);have HO336:=am (Kd.R_lower (Kd.R_newM (M:=fun k_=>(w.heap.size≤k_)) ho10 (zS HB) (fun k_ h_=>h_)) (zS HB));replace HB:=zBs HB hb;clear hb ho10))
  go_loopg [6,23] kj2 (fun kq v6 v23 w' => ∃ (x5_2:List Int) (x6_2:Int) (x23_2:Int),v6 = .int .u64 x6_2∧v23 = .int .i64 x23_2∧Aside0 (nat_plus.l0 kq x0_2 x1_2 x5_2 x6_2 x0_2 (x0_2.length:Int) x23_2=some r)∧Aside0 (kq≤kj2)∧Aside0 (Kd.V (Kd.int .u64) 25 w' w.heap.size (fun k_=>((P0_ k_∨P1_ k_)∨w.heap.size≤k_)∧some k_≠(v335:Value).ownBlock) (.slice Ao8 x0_2.length co8) x0_2)∧Aside0 (Kd.V (Kd.int .u64) 25 w' w.heap.size (fun k_=>((P0_ k_∨P1_ k_)∨w.heap.size≤k_)∧some k_≠(v335:Value).ownBlock) u1 x1_2)∧Aside0 (Kd.R (Kd.int .u64) 25 w' w.heap.size (fun k_=>(w.heap.size≤k_)) v335 x5_2)∧Aside0 (Kd.V (Kd.int .u64) 25 w' w.heap.size (fun k_=>((P0_ k_∨P1_ k_)∨w.heap.size≤k_)∧some k_≠(v335:Value).ownBlock) (.slice Ao8 x0_2.length co8) x0_2)∧Aside0 (Below w.heap.size w w'))
  case atStart=>exact ⟨(y334),(0),(0),z1,z1,H,zL,⟨zV HO_0⟩,⟨zV HO_1⟩,⟨by (with_reducible repeat (first|apply Kd.R_alloc|apply Kd.R_drewN|apply Kd.R_drew));exact Kd.R_mono HO336.out (fun _ hk=>hk.1)⟩,⟨zV HO_0⟩,⟨zB HB⟩⟩
  clear H
  obtain ⟨x5_2,x6_2,x23_2,rfl,rfl,H,HK2,HO_0,HO_1,HO_5,HO_21,HB⟩:=hrel
  obtain _|k2:=gk
  ·exact zz H rfl
  simp only [nat_plus.l0] at H
  replace H:=zsd H
  rcases H with ⟨c11b0,H⟩|⟨c11b0,H⟩
  replace H:=zid H
  obtain ⟨c12b0,H⟩:=H
  replace H:=zid H
  obtain ⟨c13b0,H⟩:=H
  replace H:=zsd H
  rcases H with ⟨c14b0,H⟩|⟨c14b0,H⟩
  replace H:=zit H
  obtain ⟨c15b0,c15b1,H⟩:=H
  replace H:=zid H
  obtain ⟨c16b0,H⟩:=H
  generalize hy339:(x5_2.set (x23_2:Int).toNat (add64Lo (rd x0_2 x23_2) (rd x1_2 x23_2) x6_2):List Int)=y339 at H
  have Ny339:=zY hy339
  clear hy339
  obtain ⟨p337,q337,ad337,rfl,hx337_0⟩:=zA (Kd.at_int (Kd.V_reads' HO_21.out).2.2 x23_2)
  obtain ⟨Ao18,co18,eo18⟩:=Kd.V_slice HO_1.out
  subst eo18
  obtain ⟨p338,q338,ad338,rfl,hx338_0⟩:=zA (Kd.at_int (Kd.V_reads' HO_1.out).2.2 x23_2)
  have p17:0≤(x23_2:Int):=zD
  have q17:(x23_2:Int)<((x5_2.length:Int):Int):=zD
  obtain ⟨go17,co17,eo17,gb17,gl17,cl17,HG17⟩:=Kd.R_form HO_5.out (by omega)
  (first|cases eo17|(injection eo17 with ea_ en_ ec_;(first|subst ea_|(injection ea_ with ea_;subst ea_));subst ec_;clear en_))
  have GB17:=am gb17
  have GG17:=am HG17
  clear gb17 gl17 HG17
  obtain ⟨hx17_0,hf17_0⟩:=Kd.R_celln 0 HO_5.out (x23_2:Int) p17 q17
  replace p17:=eq_true p17
  replace q17:=eq_true q17
  have HP19:=Kd.R_putg HO_5.out (x23_2:Int) (add64Lo (rd x0_2 x23_2) (rd x1_2 x23_2) x6_2)
  rotate_left
  replace H:=zit H
  obtain ⟨c21b0,c21b1,H⟩:=H
  replace H:=zid H
  obtain ⟨c22b0,H⟩:=H
  generalize hy340:(x5_2.set (x23_2:Int).toNat (add64Lo (rd x0_2 x23_2) 0 x6_2):List Int)=y340 at H
  have Ny340:=zY hy340
  clear hy340
  obtain ⟨p337,q337,ad337,rfl,hx337_0⟩:=zA (Kd.at_int (Kd.V_reads' HO_21.out).2.2 x23_2)
  obtain ⟨Ao24,co24,eo24⟩:=Kd.V_slice HO_1.out
  subst eo24
  have p23:0≤(x23_2:Int):=zD
  have q23:(x23_2:Int)<((x5_2.length:Int):Int):=zD
  obtain ⟨go23,co23,eo23,gb23,gl23,cl23,HG23⟩:=Kd.R_form HO_5.out (by omega)
  (first|cases eo23|(injection eo23 with ea_ en_ ec_;(first|subst ea_|(injection ea_ with ea_;subst ea_));subst ec_;clear en_))
  have GB23:=am gb23
  have GG23:=am HG23
  clear gb23 gl23 HG23
  obtain ⟨hx23_0,hf23_0⟩:=Kd.R_celln 0 HO_5.out (x23_2:Int) p23 q23
  replace p23:=eq_true p23
  replace q23:=eq_true q23
  have HP25:=Kd.R_putg HO_5.out (x23_2:Int) (add64Lo (rd x0_2 x23_2) 0 x6_2)
  rotate_left
  replace H:=zi H
  obtain ⟨c27,H⟩:=H
  have c27b0:decide (0≤(x0_2.length:Int))=true:=decide_eq_true c27
  have c27b1:decide (0≤x0_2.length)=true:=decide_eq_true (by omega)
  clear c27
  replace H:=zi H
  obtain ⟨c28,H⟩:=H
  have c28b0:decide ((x0_2.length:Int)<(x5_2.length:Int))=true:=decide_eq_true c28
  have c28b1:decide (x0_2.length<x5_2.length)=true:=decide_eq_true (Int.ofNat_lt.mp c28)
  clear c28
  generalize hy341:(x5_2.set ((x0_2.length:Int):Int).toNat x6_2:List Int)=y341 at H
  have Ny341:=zY hy341
  clear hy341
  replace H:=zo H
  obtain ⟨t342,A30,H⟩:=H
  obtain rfl:=Option.some.inj H.out
  have p29:0≤((x0_2.length:Int):Int):=zD
  have q29:((x0_2.length:Int):Int)<((x5_2.length:Int):Int):=zD
  obtain ⟨go29,co29,eo29,gb29,gl29,cl29,HG29⟩:=Kd.R_form HO_5.out (by omega)
  (first|cases eo29|(injection eo29 with ea_ en_ ec_;(first|subst ea_|(injection ea_ with ea_;subst ea_));subst ec_;clear en_))
  have GB29:=am gb29
  have GG29:=am HG29
  clear gb29 gl29 HG29
  obtain ⟨hx29_0,hf29_0⟩:=Kd.R_celln 0 HO_5.out ((x0_2.length:Int):Int) p29 q29
  (try simp only [Go.IntWalk.toNatUp] at hx29_0 hf29_0)
  replace p29:=eq_true p29
  replace q29:=eq_true q29
  have HP31:=Kd.R_putg HO_5.out ((x0_2.length:Int):Int) x6_2
  rotate_left
  all_goals (go_wp2_with (first|((with_reducible refine gate_callee (f:=191) rfl ?_);refine goesX_ (some 42) rfl rfl #[.int .u64 (rd x0_2 x23_2), .int .u64 (rd x1_2 x23_2), .int .u64 x6_2] _ rfl (by (try simp only [List.map_toArray,List.map_cons,List.map_nil]);rfl) (fun w_=>runx_add64 (rd x0_2 x23_2) (rd x1_2 x23_2) x6_2 (by first|decide|(with_reducible assumption)|exact zD) w_) ?_)|((with_reducible refine gate_store (t:=25) (p:=45) rfl ?_);refine store_event (t:=25) (p:=45) (v:=?vo_w20) (w1:=(wr.setCell ⟨go17,(x23_2:Int).toNat,none⟩ (.int .u64 (add64Lo (rd x0_2 x23_2) (rd x1_2 x23_2) x6_2)))) ?hg ?ho ?hn ?hr ?_;(case ho=>rfl);(case hg=>rfl);(case hn=>rfl);(case hr=>first|(go_simp;done)|(go_simp;rfl));intro w20 hw;have hg:wr.grownBy w20 (some go17):=(by rw [hw];exact HP19.2);have hp_:Kd.R (Kd.int .u64) 25 w20 w.heap.size (fun k_=>(w.heap.size≤k_)) (.slice (some ⟨go17,0,none⟩) x5_2.length co17) y339:=(by rw [hw,Ny339.out];exact HP19.1);clear HP19;replace HO_0:=am (Kd.V_afterv (v:=(.slice (some ⟨go17,0,none⟩) x5_2.length co17)) (v1:=(.slice (some ⟨go17,0,none⟩) x5_2.length co17)) (ok:=(fun k_=>((P0_ k_∨P1_ k_)∨w.heap.size≤k_))) (zV HO_0) hg (.inl rfl));replace HO_1:=am (Kd.V_afterv (v:=(.slice (some ⟨go17,0,none⟩) x5_2.length co17)) (v1:=(.slice (some ⟨go17,0,none⟩) x5_2.length co17)) (ok:=(fun k_=>((P0_ k_∨P1_ k_)∨w.heap.size≤k_))) (zV HO_1) hg (.inl rfl));replace HO_5:=am (hp_);replace HO_21:=am (Kd.V_afterv (v:=(.slice (some ⟨go17,0,none⟩) x5_2.length co17)) (v1:=(.slice (some ⟨go17,0,none⟩) x5_2.length co17)) (ok:=(fun k_=>((P0_ k_∨P1_ k_)∨w.heap.size≤k_))) (zV HO_21) hg (.inl rfl));replace HB:=am ((by rw [hw];exact below_set (HB.out) GB17.out:Below w.heap.size w w20));clear hg hw hp_)|((with_reducible refine gate_callee (f:=191) rfl ?_);refine goesX_ (some 42) rfl rfl #[.int .u64 (rd x0_2 x23_2), .int .u64 0, .int .u64 x6_2] _ rfl (by (try simp only [List.map_toArray,List.map_cons,List.map_nil]);rfl) (fun w_=>runx_add64 (rd x0_2 x23_2) 0 x6_2 (by first|decide|(with_reducible assumption)|exact zD) w_) ?_)|((with_reducible refine gate_store (t:=25) (p:=45) rfl ?_);refine store_event (t:=25) (p:=45) (v:=?vo_w26) (w1:=(wr.setCell ⟨go23,(x23_2:Int).toNat,none⟩ (.int .u64 (add64Lo (rd x0_2 x23_2) 0 x6_2)))) ?hg ?ho ?hn ?hr ?_;(case ho=>rfl);(case hg=>rfl);(case hn=>rfl);(case hr=>first|(go_simp;done)|(go_simp;rfl));intro w26 hw;have hg:wr.grownBy w26 (some go23):=(by rw [hw];exact HP25.2);have hp_:Kd.R (Kd.int .u64) 25 w26 w.heap.size (fun k_=>(w.heap.size≤k_)) (.slice (some ⟨go23,0,none⟩) x5_2.length co23) y340:=(by rw [hw,Ny340.out];exact HP25.1);clear HP25;replace HO_0:=am (Kd.V_afterv (v:=(.slice (some ⟨go23,0,none⟩) x5_2.length co23)) (v1:=(.slice (some ⟨go23,0,none⟩) x5_2.length co23)) (ok:=(fun k_=>((P0_ k_∨P1_ k_)∨w.heap.size≤k_))) (zV HO_0) hg (.inl rfl));replace HO_1:=am (Kd.V_afterv (v:=(.slice (some ⟨go23,0,none⟩) x5_2.length co23)) (v1:=(.slice (some ⟨go23,0,none⟩) x5_2.length co23)) (ok:=(fun k_=>((P0_ k_∨P1_ k_)∨w.heap.size≤k_))) (zV HO_1) hg (.inl rfl));replace HO_5:=am (hp_);replace HO_21:=am (Kd.V_afterv (v:=(.slice (some ⟨go23,0,none⟩) x5_2.length co23)) (v1:=(.slice (some ⟨go23,0,none⟩) x5_2.length co23)) (ok:=(fun k_=>((P0_ k_∨P1_ k_)∨w.heap.size≤k_))) (zV HO_21) hg (.inl rfl));replace HB:=am ((by rw [hw];exact below_set (HB.out) GB23.out:Below w.heap.size w w26));clear hg hw hp_)|((with_reducible refine gate_store (t:=25) (p:=51) rfl ?_);refine store_event (t:=25) (p:=51) (v:=?vo_w32) (w1:=(wr.setCell ⟨go29,((x0_2.length:Int):Int).toNat,none⟩ (.int .u64 x6_2))) ?hg ?ho ?hn ?hr ?_;(case ho=>rfl);(case hg=>rfl);(case hn=>rfl);(case hr=>first|(go_simp;done)|(go_simp;rfl));intro w32 hw;have hg:wr.grownBy w32 (some go29):=(by rw [hw];exact HP31.2);have hp_:Kd.R (Kd.int .u64) 25 w32 w.heap.size (fun k_=>(w.heap.size≤k_)) (.slice (some ⟨go29,0,none⟩) x5_2.length co29) y341:=(by rw [hw,Ny341.out];exact HP31.1);clear HP31;replace HO_0:=am (Kd.V_afterv (v:=(.slice (some ⟨go29,0,none⟩) x5_2.length co29)) (v1:=(.slice (some ⟨go29,0,none⟩) x5_2.length co29)) (ok:=(fun k_=>((P0_ k_∨P1_ k_)∨w.heap.size≤k_))) (zV HO_0) hg (.inl rfl));replace HO_1:=am (Kd.V_afterv (v:=(.slice (some ⟨go29,0,none⟩) x5_2.length co29)) (v1:=(.slice (some ⟨go29,0,none⟩) x5_2.length co29)) (ok:=(fun k_=>((P0_ k_∨P1_ k_)∨w.heap.size≤k_))) (zV HO_1) hg (.inl rfl));replace HO_5:=am (hp_);replace HO_21:=am (Kd.V_afterv (v:=(.slice (some ⟨go29,0,none⟩) x5_2.length co29)) (v1:=(.slice (some ⟨go29,0,none⟩) x5_2.length co29)) (ok:=(fun k_=>((P0_ k_∨P1_ k_)∨w.heap.size≤k_))) (zV HO_21) hg (.inl rfl));replace HB:=am ((by rw [hw];exact below_set (HB.out) GB29.out:Below w.heap.size w w32));clear hg hw hp_)|((with_reducible refine gate_callee (f:=103) rfl ?_);refine goesL_ (some 53) rfl rfl Tryz.func103 (by kernel_rfl) rfl #[.slice (some ⟨go29,0,none⟩) y341.length co29] rfl (by (try simp only [List.map_toArray,List.map_cons,List.map_nil]);first|done|(rw [show y341.length=x5_2.length from (Kd.R_reads' HO_5.out).1.symm] <;> rfl)|rfl|(simp only [List.length_drop,List.length_take];rfl)) ?_;(with_reducible refine (nat_trim.calls _ (fun k_=>some k_=(.slice (some ⟨go29,0,none⟩) x5_2.length co29:Value).ownBlock) _ _ _ _ _ ?side1 A30.out).mono ?_);(case side1=>rw [show y341.length=x5_2.length from (Kd.R_reads' HO_5.out).1.symm];exact Kd.R_V (Kd.R_tight rfl (HO_5.out)));rintro e w33 ⟨v343,rfl,ho0,hb⟩;refine ⟨_,rfl,?_⟩;replace HO_0:=zVb HO_0 hb;replace HO_1:=zVb HO_1 hb;replace HO_21:=zVb HO_21 hb;have HO344:=am (Kd.V_lower (Kd.V_mono (ok':=fun k_=>((P0_ k_∨P1_ k_)∨w.heap.size≤k_)) ho0 (fun k_ hk_=>Or.elim hk_ (fun hs_=>(.inr (((HO_5.out).1 k_ hs_.symm)))) (fun hn_=>(.inr (Nat.le_trans (zS HB) hn_))))) (zS HB));replace HO_5:=zRb HO_5 hb;replace HB:=zBs HB hb;clear hb ho0)))
  ·go_roundg k2
   case measure=>have:=HJ2.out;have:=HK2.out;omega
   case rel=>exact ⟨(y339),(add64Hi (rd x0_2 x23_2) (rd x1_2 x23_2) x6_2),(wrap64 (x23_2+1)),z1,z1,H,⟨by have:=HJ2.out;have:=HK2.out;omega⟩,⟨zV HO_0⟩,⟨zV HO_1⟩,⟨zR HO_5⟩,⟨zV HO_21⟩,⟨zB HB⟩⟩
  ·go_roundg k2
   case measure=>have:=HJ2.out;have:=HK2.out;omega
   case rel=>exact ⟨(y340),(add64Hi (rd x0_2 x23_2) 0 x6_2),(wrap64 (x23_2+1)),z1,z1,H,⟨by have:=HJ2.out;have:=HK2.out;omega⟩,⟨zV HO_0⟩,⟨zV HO_1⟩,⟨zR HO_5⟩,⟨zV HO_21⟩,⟨zB HB⟩⟩
  go_ret
  exact ⟨_,by first|exact z3|(simp only [← hji5];exact z3)|exact z2,zV HO344,zB HB⟩
end Go.Proofs.Yy.PTx
end
