/- Part 11 of what the proof needs. -/
import Derived.Test.YtpfnkbnepcchgaaGreatDoorKTEAJ
set_option linter.unusedSimpArgs false
set_option linter.unusedVariables false
section
set_option maxHeartbeats 8000000
set_option maxRecDepth 100000
namespace Go.Proofs.Yy.PTx
open Go.RowKit Go.Proofs.Yy.Z Go.Proofs.Yw.PrintWords Go.Proofs.Yw.PrintLast Go.Proofs.Yw.PrintMore
open Go.Proofs.Yy.M
attribute [local go_sem] dw dQ lD lF lC lG
attribute [local go_sem] gy gz ja jc fC fD gQ gK
def bits_Mul64.f (a0:Int) (a1:Int):Option (Int × Int):=some (IntKind.u64.wrap ((IntKind.u64.wrap ((IntKind.u64.wrap ((a0 / 4294967296) * (a1 / 4294967296)))+((IntKind.u64.wrap ((IntKind.u64.wrap ((a0 / 4294967296) * (Go.bits .and .u64 a1 4294967295)))+((IntKind.u64.wrap ((Go.bits .and .u64 a0 4294967295) * (Go.bits .and .u64 a1 4294967295))) / 4294967296))) / 4294967296)))+((IntKind.u64.wrap ((Go.bits .and .u64 (IntKind.u64.wrap ((IntKind.u64.wrap ((a0 / 4294967296) * (Go.bits .and .u64 a1 4294967295)))+((IntKind.u64.wrap ((Go.bits .and .u64 a0 4294967295) * (Go.bits .and .u64 a1 4294967295))) / 4294967296))) 4294967295)+(IntKind.u64.wrap ((Go.bits .and .u64 a0 4294967295) * (a1 / 4294967296))))) / 4294967296)),IntKind.u64.wrap (a0 * a1))
theorem bits_Mul64.calls (a0:Int) (a1:Int) (r1:Int) (r2:Int) (w:World) (h:bits_Mul64.f a0 a1=some (r1,r2)) :
    Calls Tryz.prog 178 #[.int .u64 a0, .int .u64 a1] w fun e w'=>e = .returned (.tuple #[.int .u64 r1, .int .u64 r2])∧dX w w':=by
 have H:=am h
 unfold bits_Mul64.f at H
 clear h
 obtain ⟨rfl,rfl⟩:=zJ2 H
 go_enter Tryz.func178,Tryz.ntmps178
 go_wp2
 go_ret2
 exact ⟨z1,z4⟩
mutual
def aQ.j2:Nat→Int→Int→Int→Int→Int→Int→Int→Int→Option (Int × Int)
  | 0,_,_,_,_,_,_,_,_=>none
  | k+1,x2,x8,x9,x10,x11,x13,x14,x15=>if x9=0 then (none) else (aQ.l1 k x2 x8 x9 x10 x14 x15 (IntKind.u64.wrap ((IntKind.u64.wrap ((IntKind.u64.wrap ((IntKind.u64.wrap (x11 * 4294967296))+x13)) - (IntKind.u64.wrap (x15 * x2)))) - (IntKind.u64.wrap ((IntKind.u64.wrap (Int.tdiv (IntKind.u64.wrap ((IntKind.u64.wrap ((IntKind.u64.wrap (x11 * 4294967296))+x13)) - (IntKind.u64.wrap (x15 * x2)))) x9)) * x9)))) (IntKind.u64.wrap ((IntKind.u64.wrap ((IntKind.u64.wrap (x11 * 4294967296))+x13)) - (IntKind.u64.wrap (x15 * x2)))) (IntKind.u64.wrap (Int.tdiv (IntKind.u64.wrap ((IntKind.u64.wrap ((IntKind.u64.wrap (x11 * 4294967296))+x13)) - (IntKind.u64.wrap (x15 * x2)))) x9)))
def aQ.l1:Nat→Int→Int→Int→Int→Int→Int→Int→Int→Int→Option (Int × Int)
  | 0,_,_,_,_,_,_,_,_,_=>none
  | k+1,x2,x8,x9,x10,x14,x15,x16,x17,x18=>if x18 ≥ 4294967296 then (aQ.j4 k x2 x8 x9 x10 x14 x15 x16 x17 x18 true) else (aQ.j4 k x2 x8 x9 x10 x14 x15 x16 x17 x18 (decide ((IntKind.u64.wrap (x18 * x10)) > (IntKind.u64.wrap ((IntKind.u64.wrap (4294967296 * x16))+x14)))))
def aQ.j4:Nat→Int→Int→Int→Int→Int→Int→Int→Int→Int→Bool→Option (Int × Int)
  | 0,_,_,_,_,_,_,_,_,_,_=>none
  | k+1,x2,x8,x9,x10,x14,x15,x16,x17,x18,x113=>if x113=true then (if (IntKind.u64.wrap (x16+x9)) ≥ 4294967296 then (if 0≤x8 then (some (IntKind.u64.wrap ((IntKind.u64.wrap (x15 * 4294967296))+(IntKind.u64.wrap (x18 - 1))),shr .u64 (IntKind.u64.wrap ((IntKind.u64.wrap ((IntKind.u64.wrap (x17 * 4294967296))+x14)) - (IntKind.u64.wrap ((IntKind.u64.wrap (x18 - 1)) * x2)))) x8)) else (none)) else (aQ.l1 k x2 x8 x9 x10 x14 x15 (IntKind.u64.wrap (x16+x9)) x17 (IntKind.u64.wrap (x18 - 1)))) else (if 0≤x8 then (some (IntKind.u64.wrap ((IntKind.u64.wrap (x15 * 4294967296))+x18),shr .u64 (IntKind.u64.wrap ((IntKind.u64.wrap ((IntKind.u64.wrap (x17 * 4294967296))+x14)) - (IntKind.u64.wrap (x18 * x2)))) x8)) else (none))
def aQ.l0:Nat→Int→Int→Int→Int→Int→Int→Int→Int→Int→Option (Int × Int)
  | 0,_,_,_,_,_,_,_,_,_=>none
  | k+1,x2,x8,x9,x10,x11,x13,x14,x15,x16=>if x15 ≥ 4294967296 then (aQ.j1 k x2 x8 x9 x10 x11 x13 x14 x15 x16 true) else (aQ.j1 k x2 x8 x9 x10 x11 x13 x14 x15 x16 (decide ((IntKind.u64.wrap (x15 * x10)) > (IntKind.u64.wrap ((IntKind.u64.wrap (4294967296 * x16))+x13)))))
def aQ.j1:Nat→Int→Int→Int→Int→Int→Int→Int→Int→Int→Bool→Option (Int × Int)
  | 0,_,_,_,_,_,_,_,_,_,_=>none
  | k+1,x2,x8,x9,x10,x11,x13,x14,x15,x16,x78=>if x78=true then (if (IntKind.u64.wrap (x16+x9)) ≥ 4294967296 then (aQ.j2 k x2 x8 x9 x10 x11 x13 x14 (IntKind.u64.wrap (x15 - 1))) else (aQ.l0 k x2 x8 x9 x10 x11 x13 x14 (IntKind.u64.wrap (x15 - 1)) (IntKind.u64.wrap (x16+x9)))) else (aQ.j2 k x2 x8 x9 x10 x11 x13 x14 x15)
end
def aQ.f (k:Nat) (a0:Int) (a1:Int) (a2:Int):Option (Int × Int):=if a2=0 then (none) else (if a2≤a0 then (none) else (if a0=0 then (some (IntKind.u64.wrap (Int.tdiv a1 a2),Int.tmod a1 a2)) else ((bits_LeadingZeros64.f k a2).bind fun BJ=>(if 0≤(IntKind.u64.wrap (BJ)) then (if 0≤(IntKind.u64.wrap (64 - (IntKind.u64.wrap (BJ)))) then (if ((shl .u64 a2 (IntKind.u64.wrap (BJ))) / 4294967296)=0 then (none) else (aQ.l0 k (shl .u64 a2 (IntKind.u64.wrap (BJ))) (IntKind.u64.wrap (BJ)) ((shl .u64 a2 (IntKind.u64.wrap (BJ))) / 4294967296) (Go.bits .and .u64 (shl .u64 a2 (IntKind.u64.wrap (BJ))) 4294967295) (Go.bits .or .u64 (shl .u64 a0 (IntKind.u64.wrap (BJ))) (shr .u64 a1 (IntKind.u64.wrap (64 - (IntKind.u64.wrap (BJ)))))) ((shl .u64 a1 (IntKind.u64.wrap (BJ))) / 4294967296) (Go.bits .and .u64 (shl .u64 a1 (IntKind.u64.wrap (BJ))) 4294967295) (IntKind.u64.wrap (Int.tdiv (Go.bits .or .u64 (shl .u64 a0 (IntKind.u64.wrap (BJ))) (shr .u64 a1 (IntKind.u64.wrap (64 - (IntKind.u64.wrap (BJ)))))) ((shl .u64 a2 (IntKind.u64.wrap (BJ))) / 4294967296))) (IntKind.u64.wrap ((Go.bits .or .u64 (shl .u64 a0 (IntKind.u64.wrap (BJ))) (shr .u64 a1 (IntKind.u64.wrap (64 - (IntKind.u64.wrap (BJ)))))) - (IntKind.u64.wrap ((IntKind.u64.wrap (Int.tdiv (Go.bits .or .u64 (shl .u64 a0 (IntKind.u64.wrap (BJ))) (shr .u64 a1 (IntKind.u64.wrap (64 - (IntKind.u64.wrap (BJ)))))) ((shl .u64 a2 (IntKind.u64.wrap (BJ))) / 4294967296))) * ((shl .u64 a2 (IntKind.u64.wrap (BJ))) / 4294967296))))))) else (none)) else (none)))))
theorem aQ.calls (k:Nat) (a0:Int) (a1:Int) (a2:Int) (r1:Int) (r2:Int) (w:World) (h:aQ.f k a0 a1 a2=some (r1,r2)) :
    Calls Tryz.prog 164 #[.int .u64 a0, .int .u64 a1, .int .u64 a2] w fun e w'=>e = .returned (.tuple #[.int .u64 r1, .int .u64 r2])∧dX w w':=by
 have H:=am h
 unfold aQ.f at H
 clear h
 replace H:=zjk H
 obtain ⟨kM,rY,c4,H⟩:=H
 replace H:=zjd H
 obtain ⟨rG,H⟩:=H
 replace H:=zsk H
 rcases H with ⟨rF,Bg,H⟩|⟨rF,Bg,c6,H⟩
 ·obtain ⟨rfl,rfl⟩:=zJ2 H
  go_enter Tryz.func164,Tryz.ntmps164
  go_wp2
  repeat (go_quiet (fail);try go_wp2)
  go_ret2
  exact ⟨z1,z4⟩
 replace H:=zo H
 obtain ⟨BJ,A7,H⟩:=H
 generalize sV:(IntKind.u64.wrap (BJ):Int)=ji8 at H
 (try rw [sV] at A7)
 replace H:=zit H
 obtain ⟨yI,Ed,H⟩:=H
 generalize Ai:(shl .u64 a2 (ji8):Int)=rZ at H
 (try rw [Ai] at A7)
 have ata:(IntKind.u64.wrap (a2 * 2 ^ min (ji8).toNat 64))=rZ:=Ai
 have atb:(ji8)≤64→(IntKind.u64.wrap (a2 * 2 ^ (ji8).toNat))=rZ:=iR Ai
 have mY:=eq_true (zD:0≤(ji8))
 generalize G9:(shl .u64 a0 (ji8):Int)=Ha at H
 (try rw [G9] at A7)
 have atc:(IntKind.u64.wrap (a0 * 2 ^ min (ji8).toNat 64))=Ha:=G9
 have atd:(ji8)≤64→(IntKind.u64.wrap (a0 * 2 ^ (ji8).toNat))=Ha:=iR G9
 generalize qw:(IntKind.u64.wrap (64 - (ji8)):Int)=qj at H
 (try rw [qw] at A7)
 replace H:=zit H
 obtain ⟨uH,G5,H⟩:=H
 generalize uK:(shr .u64 a1 (qj):Int)=Af at H
 (try rw [uK] at A7)
 have ZP:(a1 / 2 ^ min (qj).toNat 64)=Af:=uK
 have ZQ:(qj)≤64→(a1 / 2 ^ (qj).toNat)=Af:=jT uK
 have Dj:=eq_true (zD:0≤(ji8))
 generalize He:(shl .u64 a1 (ji8):Int)=yQ at H
 (try rw [He] at A7)
 have ate:(IntKind.u64.wrap (a1 * 2 ^ min (ji8).toNat 64))=yQ:=He
 have atf:(ji8)≤64→(IntKind.u64.wrap (a1 * 2 ^ (ji8).toNat))=yQ:=iR He
 replace H:=zjk H
 obtain ⟨Yl,an0,c18,H⟩:=H
 go_enter Tryz.func164,Tryz.ntmps164
 go_upto_block 0 with (first|(go_at_call 184;(with_reducible refine (bits_LeadingZeros64.calls _ _ _ _ A7.out).mono ?_);rintro e w' ⟨rfl,⟨nd,rfl⟩⟩;(try first|exact ⟨rfl,_,World.drewN_drewN _ _ _⟩|exact ⟨rfl,_,Eq.trans (World.drewN_drewN _ _ _) (congrArg (World.drewN _) (Nat.add_assoc _ _ _))⟩)))
 repeat (go_quiet (first|(go_at_call 184;(with_reducible refine (bits_LeadingZeros64.calls k a2 BJ _ A7.out).mono ?_);rintro e w' ⟨rfl,⟨nd,rfl⟩⟩;(try first|exact ⟨rfl,_,World.drewN_drewN _ _ _⟩|exact ⟨rfl,_,Eq.trans (World.drewN_drewN _ _ _) (congrArg (World.drewN _) (Nat.add_assoc _ _ _))⟩)));go_upto_block 0 with (first|(go_at_call 184;(with_reducible refine (bits_LeadingZeros64.calls k a2 BJ _ A7.out).mono ?_);rintro e w' ⟨rfl,⟨nd,rfl⟩⟩;(try first|exact ⟨rfl,_,World.drewN_drewN _ _ _⟩|exact ⟨rfl,_,Eq.trans (World.drewN_drewN _ _ _) (congrArg (World.drewN _) (Nat.add_assoc _ _ _))⟩))))
 (try simp only [Act.put,List.setIfInBounds_toArray,List.set_cons_zero,List.set_cons_succ])
 go_cut [15] (fun v15 wc => ∃ (kq:Nat) (qB:Int),v15 = .int .u64 qB∧ae (aQ.j2 kq rZ ji8 ((rZ) / 4294967296) (Go.bits .and .u64 (rZ) 4294967295) (Go.bits .or .u64 (Ha) (Af)) ((yQ) / 4294967296) (Go.bits .and .u64 (yQ) 4294967295) qB=some (r1,r2))∧ae (kq≤k)∧dX w wc)
 case first =>
  go_wp2
  repeat (go_quiet (fail);try go_wp2)
  go_loopg [15,16] k (fun kq v15 v16 w' => ∃ (JE:Int) (Qz:Int),v15 = .int .u64 JE∧v16 = .int .u64 Qz∧ae (aQ.l0 kq rZ ji8 ((rZ) / 4294967296) (Go.bits .and .u64 (rZ) 4294967295) (Go.bits .or .u64 (Ha) (Af)) ((yQ) / 4294967296) (Go.bits .and .u64 (yQ) 4294967295) JE Qz=some (r1,r2))∧ae (kq≤k)∧dX w w')
  case atStart=>exact ⟨(IntKind.u64.wrap (Int.tdiv (Go.bits .or .u64 (Ha) (Af)) ((rZ) / 4294967296))),(IntKind.u64.wrap ((Go.bits .or .u64 (Ha) (Af)) - (IntKind.u64.wrap ((IntKind.u64.wrap (Int.tdiv (Go.bits .or .u64 (Ha) (Af)) ((rZ) / 4294967296))) * ((rZ) / 4294967296))))),(by first|rfl|(simp;done)|(simp only [← Ai, ← G9, ← uK] <;> (first|rfl|simp))|(simp [*];done)),(by first|rfl|(simp;done)|(simp only [← Ai, ← G9, ← uK] <;> (first|rfl|simp))|(simp [*];done)),H,zL,z4⟩
  clear H
  obtain ⟨JE,Qz,rfl,rfl,H,HK1,⟨m1,rfl⟩⟩:=hrel
  obtain _|k1:=gk
  ·exact zz H rfl
  simp only [aQ.l0] at H
  go_upto_region 17 with (fail)
  repeat (go_quiet (fail);go_upto_region 17 with (fail))
  go_cut [78] (fun v78 wc => ∃ (kq:Nat) (OE:Bool),v78 = .bool OE∧ae (aQ.j1 kq rZ ji8 ((rZ) / 4294967296) (Go.bits .and .u64 (rZ) 4294967295) (Go.bits .or .u64 (Ha) (Af)) ((yQ) / 4294967296) (Go.bits .and .u64 (yQ) 4294967295) JE Qz OE=some (r1,r2))∧ae (kq≤k1)∧dX w wc)
  case first =>
   replace H:=zf H
   rcases H with ⟨Ae,H⟩|⟨Ae,H⟩
   (first|rw [Ae]|(simp only [bI,dV];rw [Ae])|rw [YG]|skip)
   rotate_left
   (first|rw [Ae]|(simp only [bI,dV];rw [Ae])|rw [YG]|skip)
   rotate_left
   all_goals (go_wp2;repeat (go_quiet (fail);try go_wp2))
   ·go_meet
    case rel=>exact ⟨_,(true),z1,H,⟨by have:=HK1.out;first|omega|exact Nat.le_refl _⟩,z4⟩
   go_meet
   case rel=>exact ⟨_,(decide ((IntKind.u64.wrap (JE * (Go.bits .and .u64 (rZ) 4294967295))) > (IntKind.u64.wrap ((IntKind.u64.wrap (4294967296 * Qz))+((yQ) / 4294967296))))),(by first|rfl|(simp;done)|(simp only [← Ai, ← He] <;> (first|rfl|simp))|(simp [*];done)),H,⟨by have:=HK1.out;first|omega|exact Nat.le_refl _⟩,z4⟩
  case rest =>
   obtain ⟨kq,OE,rfl,H,YN,⟨aGj,rfl⟩⟩:=hcut
   obtain _|ag2:=kq
   ·exact zz H rfl
   simp only [aQ.j1] at H
   cases OE
   replace H:=zb0 H
   rotate_left
   replace H:=zb1 H
   replace H:=zf H
   rcases H with ⟨Eu,H⟩|⟨Eu,H⟩
   rotate_left
   rotate_left
   all_goals (go_wp2;repeat (go_quiet (fail);try go_wp2))
   ·go_meet
    case rel=>exact ⟨_,(JE),z1,H,⟨by have:=HK1.out;have:=YN.out;first|omega|exact Nat.le_refl _⟩,z4⟩
   ·go_meet
    case rel=>exact ⟨_,(IntKind.u64.wrap (JE - 1)),z1,H,⟨by have:=HK1.out;have:=YN.out;first|omega|exact Nat.le_refl _⟩,z4⟩
   go_roundg ag2
   case measure=>have:=HK1.out;have:=YN.out;omega
   case rel=>exact ⟨(IntKind.u64.wrap (JE - 1)),(IntKind.u64.wrap (Qz+((rZ) / 4294967296))),z1,(by first|rfl|(simp;done)|(simp only [← Ai] <;> (first|rfl|simp))|(simp [*];done)),H,⟨by have:=HK1.out;have:=YN.out;omega⟩,z4⟩
 case rest =>
  obtain ⟨kq,qB,rfl,H,ag3,⟨aGk,rfl⟩⟩:=hcut
  obtain _|an1:=kq
  ·exact zz H rfl
  simp only [aQ.j2] at H
  replace H:=zjk H
  obtain ⟨Qp,an2,c24,H⟩:=H
  go_wp2
  repeat (go_quiet (fail);try go_wp2)
  go_loopg [16,18] an1 (fun kq v16 v18 w' => ∃ (Dn:Int) (Bl:Int),v16 = .int .u64 Dn∧v18 = .int .u64 Bl∧ae (aQ.l1 kq rZ ji8 ((rZ) / 4294967296) (Go.bits .and .u64 (rZ) 4294967295) (Go.bits .and .u64 (yQ) 4294967295) qB Dn (IntKind.u64.wrap ((IntKind.u64.wrap ((IntKind.u64.wrap ((Go.bits .or .u64 (Ha) (Af)) * 4294967296))+((yQ) / 4294967296))) - (IntKind.u64.wrap (qB * rZ)))) Bl=some (r1,r2))∧ae (kq≤an1)∧dX w w')
  case atStart=>exact ⟨(IntKind.u64.wrap ((IntKind.u64.wrap ((IntKind.u64.wrap ((IntKind.u64.wrap ((Go.bits .or .u64 (Ha) (Af)) * 4294967296))+((yQ) / 4294967296))) - (IntKind.u64.wrap (qB * rZ)))) - (IntKind.u64.wrap ((IntKind.u64.wrap (Int.tdiv (IntKind.u64.wrap ((IntKind.u64.wrap ((IntKind.u64.wrap ((Go.bits .or .u64 (Ha) (Af)) * 4294967296))+((yQ) / 4294967296))) - (IntKind.u64.wrap (qB * rZ)))) ((rZ) / 4294967296))) * ((rZ) / 4294967296))))),(IntKind.u64.wrap (Int.tdiv (IntKind.u64.wrap ((IntKind.u64.wrap ((IntKind.u64.wrap ((Go.bits .or .u64 (Ha) (Af)) * 4294967296))+((yQ) / 4294967296))) - (IntKind.u64.wrap (qB * rZ)))) ((rZ) / 4294967296))),(by first|rfl|(simp;done)|(simp only [← Ai, ← G9, ← uK, ← He] <;> (first|rfl|simp))|(simp [*];done)),(by first|rfl|(simp;done)|(simp only [← Ai, ← G9, ← uK, ← He] <;> (first|rfl|simp))|(simp [*];done)),H,zL,z4⟩
  clear H
  obtain ⟨Dn,Bl,rfl,rfl,H,HK2,⟨m2,rfl⟩⟩:=hrel
  obtain _|k2:=gk
  ·exact zz H rfl
  simp only [aQ.l1] at H
  go_upto_region 24 with (fail)
  repeat (go_quiet (fail);go_upto_region 24 with (fail))
  go_cut [113] (fun ayR wc => ∃ (kq:Nat) (Hf:Bool),ayR = .bool Hf∧ae (aQ.j4 kq rZ ji8 ((rZ) / 4294967296) (Go.bits .and .u64 (rZ) 4294967295) (Go.bits .and .u64 (yQ) 4294967295) qB Dn (IntKind.u64.wrap ((IntKind.u64.wrap ((IntKind.u64.wrap ((Go.bits .or .u64 (Ha) (Af)) * 4294967296))+((yQ) / 4294967296))) - (IntKind.u64.wrap (qB * rZ)))) Bl Hf=some (r1,r2))∧ae (kq≤k2)∧dX w wc)
  case first =>
   replace H:=zf H
   rcases H with ⟨L6,H⟩|⟨L6,H⟩
   (first|rw [L6]|(simp only [bI,dV];rw [L6])|rw [ag4]|skip)
   rotate_left
   (first|rw [L6]|(simp only [bI,dV];rw [L6])|rw [ag4]|skip)
   rotate_left
   all_goals (go_wp2;repeat (go_quiet (fail);try go_wp2))
   ·go_meet
    case rel=>exact ⟨_,(true),z1,H,⟨by have:=ag3.out;have:=HK2.out;first|omega|exact Nat.le_refl _⟩,z4⟩
   go_meet
   case rel=>exact ⟨_,(decide ((IntKind.u64.wrap (Bl * (Go.bits .and .u64 (rZ) 4294967295))) > (IntKind.u64.wrap ((IntKind.u64.wrap (4294967296 * Dn))+(Go.bits .and .u64 (yQ) 4294967295))))),(by first|rfl|(simp;done)|(simp only [← Ai, ← He] <;> (first|rfl|simp))|(simp [*];done)),H,⟨by have:=ag3.out;have:=HK2.out;first|omega|exact Nat.le_refl _⟩,z4⟩
  case rest =>
   obtain ⟨kq,Hf,rfl,H,atg,⟨aGl,rfl⟩⟩:=hcut
   obtain _|ayS:=kq
   ·exact zz H rfl
   simp only [aQ.j4] at H
   cases Hf
   replace H:=zb0 H
   replace H:=zit H
   obtain ⟨EG,ag5,H⟩:=H
   generalize QA:(shr .u64 (IntKind.u64.wrap ((IntKind.u64.wrap ((IntKind.u64.wrap ((IntKind.u64.wrap ((IntKind.u64.wrap ((IntKind.u64.wrap ((Go.bits .or .u64 (Ha) (Af)) * 4294967296))+((yQ) / 4294967296))) - (IntKind.u64.wrap (qB * rZ)))) * 4294967296))+(Go.bits .and .u64 (yQ) 4294967295))) - (IntKind.u64.wrap (Bl * rZ)))) ji8:Int)=WV at H
   have ath:((IntKind.u64.wrap ((IntKind.u64.wrap ((IntKind.u64.wrap ((IntKind.u64.wrap ((IntKind.u64.wrap ((IntKind.u64.wrap ((Go.bits .or .u64 (Ha) (Af)) * 4294967296))+((yQ) / 4294967296))) - (IntKind.u64.wrap (qB * rZ)))) * 4294967296))+(Go.bits .and .u64 (yQ) 4294967295))) - (IntKind.u64.wrap (Bl * rZ)))) / 2 ^ min ji8.toNat 64)=WV:=QA
   have ati:ji8≤64→((IntKind.u64.wrap ((IntKind.u64.wrap ((IntKind.u64.wrap ((IntKind.u64.wrap ((IntKind.u64.wrap ((IntKind.u64.wrap ((Go.bits .or .u64 (Ha) (Af)) * 4294967296))+((yQ) / 4294967296))) - (IntKind.u64.wrap (qB * rZ)))) * 4294967296))+(Go.bits .and .u64 (yQ) 4294967295))) - (IntKind.u64.wrap (Bl * rZ)))) / 2 ^ ji8.toNat)=WV:=jT QA
   obtain ⟨rfl,rfl⟩:=zJ2 H
   rotate_left
   replace H:=zb1 H
   replace H:=zf H
   rcases H with ⟨xq,H⟩|⟨xq,H⟩
   replace H:=zit H
   obtain ⟨Yt,ayT,H⟩:=H
   generalize acC:(shr .u64 (IntKind.u64.wrap ((IntKind.u64.wrap ((IntKind.u64.wrap ((IntKind.u64.wrap ((IntKind.u64.wrap ((IntKind.u64.wrap ((Go.bits .or .u64 (Ha) (Af)) * 4294967296))+((yQ) / 4294967296))) - (IntKind.u64.wrap (qB * rZ)))) * 4294967296))+(Go.bits .and .u64 (yQ) 4294967295))) - (IntKind.u64.wrap ((IntKind.u64.wrap (Bl - 1)) * rZ)))) ji8:Int)=atj at H
   have atl:((IntKind.u64.wrap ((IntKind.u64.wrap ((IntKind.u64.wrap ((IntKind.u64.wrap ((IntKind.u64.wrap ((IntKind.u64.wrap ((Go.bits .or .u64 (Ha) (Af)) * 4294967296))+((yQ) / 4294967296))) - (IntKind.u64.wrap (qB * rZ)))) * 4294967296))+(Go.bits .and .u64 (yQ) 4294967295))) - (IntKind.u64.wrap ((IntKind.u64.wrap (Bl - 1)) * rZ)))) / 2 ^ min ji8.toNat 64)=atj:=acC
   have atm:ji8≤64→((IntKind.u64.wrap ((IntKind.u64.wrap ((IntKind.u64.wrap ((IntKind.u64.wrap ((IntKind.u64.wrap ((IntKind.u64.wrap ((Go.bits .or .u64 (Ha) (Af)) * 4294967296))+((yQ) / 4294967296))) - (IntKind.u64.wrap (qB * rZ)))) * 4294967296))+(Go.bits .and .u64 (yQ) 4294967295))) - (IntKind.u64.wrap ((IntKind.u64.wrap (Bl - 1)) * rZ)))) / 2 ^ ji8.toNat)=atj:=jT acC
   obtain ⟨rfl,rfl⟩:=zJ2 H
   rotate_left
   rotate_left
   all_goals (go_wp2;repeat (go_quiet (fail);try go_wp2))
   ·go_ret2
    exact ⟨by first|rfl|(simp;done)|(simp only [← sV, ← Ai, ← G9, ← qw, ← uK, ← He, ← QA] <;> (first|rfl|simp))|(simp [*];done),z4⟩
   ·go_ret2
    exact ⟨by first|rfl|(simp;done)|(simp only [← sV, ← Ai, ← G9, ← qw, ← uK, ← He, ← acC] <;> (first|rfl|simp))|(simp [*];done),z4⟩
   go_roundg ayS
   case measure=>have:=ag3.out;have:=HK2.out;have:=atg.out;omega
   case rel=>exact ⟨(IntKind.u64.wrap (Dn+((rZ) / 4294967296))),(IntKind.u64.wrap (Bl - 1)),(by first|rfl|(simp;done)|(simp only [← Ai] <;> (first|rfl|simp))|(simp [*];done)),z1,H,⟨by have:=ag3.out;have:=HK2.out;have:=atg.out;omega⟩,z4⟩
def iy.l0:Nat→List Int→Int→List Int→Int→Int→Option (List Int × Int)
  | 0,_,_,_,_,_=>none
  | k+1,x0,x1,x6,x7,x8=>if x8 ≥ 0 then (if 0≤x8 then (if x8<(x0.length:Int) then ((aQ.f k x7 (rd x0 x8) x1).bind fun ag6=>(if x8<(x6.length:Int) then (iy.l0 k x0 x1 (x6.set (x8:Int).toNat ag6.1) ag6.2 (wrap64 (x8 - 1))) else (none))) else (none)) else (none)) else ((bG.f k x6).bind fun t193=>(some (t193,x7)))
def iy.f (k:Nat) (l0:List Int) (a1:Int):Option (List Int × Int):=if 0≤(l0.length:Int) then (if ((l0.length:Int):Int).toNat≤35184372088832 then (iy.l0 k l0 a1 (List.replicate ((l0.length:Int):Int).toNat 0) 0 (wrap64 ((l0.length:Int) - 1))) else (none)) else (none)
theorem iy.calls (k:Nat) (A0:Option Addr) (c0:Nat) (l0:List Int) (a1:Int) (r1:List Int) (r2:Int) (w:World) (hr0:Kd.C (Kd.int .u64) w A0 l0.length l0) (hc0:l0.length≤c0) (h:iy.f k l0 a1=some (r1,r2)) :
    Calls Tryz.prog 105 #[.slice A0 l0.length c0, .int .u64 a1] w fun e w' => ∃ v0_:Value,e = .returned (.tuple #[v0_, .int .u64 r2])∧Kd.V (Kd.int .u64) 25 w' w.heap.size (fun k_=>(w.heap.size≤k_)) v0_ r1∧Below w.heap.size w w':=by
 have HR0:=am hr0
 have HC0:=am hc0
 clear hr0 hc0
 have HB:=am (Below.refl w.heap.size w)
 have H:=am h
 unfold iy.f at H
 clear h
 replace H:=zit H
 obtain ⟨pg,Jv,H⟩:=H
 replace H:=zit H
 obtain ⟨kM,rY,H⟩:=H
 generalize ag7:(List.replicate ((l0.length:Int):Int).toNat 0:List Int)=ayU at H
 have ag8:=zY ag7
 clear ag7
 go_enter Tryz.func105,Tryz.ntmps105
 go_wp2_with (first|((with_reducible refine ay (N:=11) rfl ?_);refine Kd.vw (Kd.int .u64) _ 25 rfl (N:=11) rfl 88 _ _ rfl (l0.length:Int) (by first|rfl|(simp only [List.length_drop,List.length_take];rfl)) (by first|rfl|(simp only [List.length_drop,List.length_take];rfl)) Tryz.underlying88 (.int .u64 0) 8 info25 rfl (by decide) (by omega) 0 (ok:=fun _=>True) (okp:=fun _=>True) rfl (fun _ hk=>hk) trivial (zD) (Nat.le_trans (Nat.mul_le_mul_right _ (zD:(l0.length:Int).toNat≤35184372088832)) (by omega)) (Below.refl _ _) (Nat.le_refl _) ?_;intro atn w5 ho6 hb hg_ jf;clear hg_ jf;(first|rw [← ag8.out] at ho6|(simp only [Int.reduceToNat] at ho6;rw [← ag8.out] at ho6));have an3:=am (Kd.eP (Kd.nM (M:=fun k_=>(w.heap.size≤k_)) ho6 (zS HB) (fun k_ h_=>h_)) (zS HB));replace HB:=zBs HB hb;clear hb ho6))
 go_loopg [7,8] k (fun kq v7 v8 w' => ∃ (lX:List Int) (kR:Int) (kS:Int),v7 = .int .u64 kR∧v8 = .int .i64 kS∧ae (iy.l0 kq l0 a1 lX kR kS=some (r1,r2))∧ae (kq≤k)∧ae (Kd.R (Kd.int .u64) 25 w' w.heap.size (fun k_=>(w.heap.size≤k_)) atn lX)∧ae (Below w.heap.size w w'))
 case atStart=>exact ⟨(ayU),(0),(wrap64 ((l0.length:Int) - 1)),z1,z1,H,zL,⟨by (with_reducible repeat (first|apply Kd.dE|apply Kd.dn|apply Kd.dY));exact Kd.dL an3.out (fun _ hk=>hk.1)⟩,⟨zB HB⟩⟩
 clear H
 obtain ⟨lX,kR,kS,rfl,rfl,H,HK1,kN,HB⟩:=hrel
 obtain _|k1:=gk
 ·exact zz H rfl
 simp only [iy.l0] at H
 replace H:=zf H
 rcases H with ⟨wQ,H⟩|⟨wQ,H⟩
 replace H:=zid H
 obtain ⟨uD,H⟩:=H
 replace H:=zid H
 obtain ⟨yI,H⟩:=H
 replace H:=zo H
 obtain ⟨⟨an4,ayV⟩,A10,H⟩:=H
 try dsimp only at H
 replace H:=zid H
 obtain ⟨mY,H⟩:=H
 generalize ag9:(lX.set (kS:Int).toNat an4:List Int)=ato at H
 have an5:=zY ag9
 clear ag9
 have an6:0≤(kS:Int):=zD
 have an7:kS<(l0.length:Int):=zD
 obtain ⟨ayW,e189,L8⟩:=Kd.dH HR0.out kS an6 an7
 cases e189
 replace L8:=(HB.out.cell (World.block_lt_of_cell? w _ L8)).trans L8
 replace an6:=eq_true an6
 replace an7:=eq_true an7
 rotate_left
 replace H:=zo H
 obtain ⟨t193,A15,H⟩:=H
 obtain ⟨rfl,rfl⟩:=zJ2 H
 obtain ⟨Ez,Ad,LW⟩:=Kd.eF kN.out
 subst LW
 rotate_left
 all_goals (go_wp2_with (first|((with_reducible refine af (f:=164) rfl ?_);refine zc (some 28) Tryz.func164 _ (aQ.calls _ _ _ _ _ _ _ A10.out) ?_;rintro e w' ⟨rfl,⟨nd,rfl⟩⟩;refine ⟨_,rfl,?_⟩;(try (rw [iT wr];generalize hq_:World.drewN wr _=wr;have n0_:ae (Kd.R (Kd.int .u64) 25 wr w.heap.size (fun k_=>(w.heap.size≤k_)) atn lX):=⟨by rw [← hq_];exact (zR kN)⟩;have n1_:ae (Below w.heap.size w wr):=⟨by rw [← hq_];exact (zB HB)⟩;clear kN HB hq_;have kN:=n0_;have HB:=n1_;clear n0_ n1_));have p12:0≤(kS:Int):=zD;have q12:(kS:Int)<((lX.length:Int):Int):=zD;obtain ⟨an8,Yr,adY,atp,ayX,aGm,atq⟩:=Kd.oD kN.out (by omega);(first|cases adY|(injection adY with ea_ en_ ec_;(first|subst ea_|(injection ea_ with ea_;subst ea_));subst ec_;clear en_));have ayY:=am atp;have aGn:=am atq;clear atp ayX atq;obtain ⟨atr,att⟩:=Kd.iI 0 kN.out (kS:Int) p12 q12;replace p12:=eq_true p12;replace q12:=eq_true q12;obtain ⟨ayZ,ay0⟩:=Kd.iI 0 kN.out (kS:Int) (zD) (zD);have an9:=Kd.mD kN.out (kS:Int) an4)|((with_reducible refine eQ (t:=25) (p:=31) rfl ?_);refine dU (t:=25) (p:=31) (v:=?atu) (w1:=(wr.setCell ⟨an8,(kS:Int).toNat,none⟩ (.int .u64 an4))) ?hg ?ho ?hn ?hr ?_;(case ho=>rfl);(case hg=>rfl);(case hn=>rfl);(case hr=>first|(go_simp;done)|(go_simp;rfl));intro w14 hw;have hg:wr.grownBy w14 (some an8):=(by rw [hw];exact an9.2);have hp_:Kd.R (Kd.int .u64) 25 w14 w.heap.size (fun k_=>(w.heap.size≤k_)) (.slice (some ⟨an8,0,none⟩) lX.length Yr) ato:=(by rw [hw,an5.out];exact an9.1);clear an9;replace kN:=am (hp_);replace HB:=am ((by rw [hw];exact bu (HB.out) ayY.out:Below w.heap.size w w14));clear hg hw hp_)|((with_reducible refine af (f:=103) rfl ?_);refine zc (some 33) Tryz.func103 #[.slice Ez lX.length Ad] (bG.calls _ (fun k_=>some k_=(.slice Ez lX.length Ad:Value).ownBlock) _ _ _ _ _ (Kd.R_V (Kd.jY rfl (kN.out))) A15.out) ?_;rintro e w17 ⟨v194,rfl,ho0,hb⟩;refine ⟨_,rfl,?_⟩;have aoa:=am (Kd.df (Kd.bD (ok':=fun k_=>(w.heap.size≤k_)) ho0 (fun k_ hk_=>Or.elim hk_ (fun hs_=>((kN.out).1 k_ hs_.symm)) (fun hn_=>(Nat.le_trans (zS HB) hn_)))) (zS HB));replace kN:=zRb kN hb;replace HB:=zBs HB hb;clear hb ho0)))
 ·go_roundg k1
  case measure=>have:=HK1.out;omega
  case rel=>exact ⟨(ato),(ayV),(wrap64 (kS - 1)),z1,z1,H,(zH HK1),⟨zR kN⟩,⟨zB HB⟩⟩
 go_ret2
 exact ⟨_,z2,zV aoa,zB HB⟩
mutual
def kV.j0:Nat→List Int→List Int→Option (List Int)
  | 0,_,_=>none
  | k+1,x0,x1=>if 0≤(wrap64 ((x0.length:Int)+1)) then (if (wrap64 ((x0.length:Int)+1):Int).toNat≤35184372088832 then (kV.l0 k x0 x1 (List.replicate (wrap64 ((x0.length:Int)+1):Int).toNat 0) 0 x0 (x0.length:Int) 0) else (none)) else (none)
def kV.l0:Nat→List Int→List Int→List Int→Int→List Int→Int→Int→Option (List Int)
  | 0,_,_,_,_,_,_,_=>none
  | k+1,x0,x1,x5,x6,x21,x22,x23=>if x23<x22 then (if 0≤x23 then (if x23<(x21.length:Int) then (if x23<(x1.length:Int) then (if x6≤1 then (if x23<(x5.length:Int) then (kV.l0 k x0 x1 (x5.set (x23:Int).toNat (gp (rd x21 x23) (rd x1 x23) x6)) (jK (rd x21 x23) (rd x1 x23) x6) x21 x22 (wrap64 (x23+1))) else (none)) else (none)) else (if x6≤1 then (if x23<(x5.length:Int) then (kV.l0 k x0 x1 (x5.set (x23:Int).toNat (gp (rd x21 x23) 0 x6)) (jK (rd x21 x23) 0 x6) x21 x22 (wrap64 (x23+1))) else (none)) else (none))) else (none)) else (none)) else (if 0≤(x0.length:Int) then (if (x0.length:Int)<(x5.length:Int) then ((bG.f k (x5.set ((x0.length:Int):Int).toNat x6)).bind fun atv=>(some atv)) else (none)) else (none))
end
def kV.f (k:Nat) (l0:List Int) (l1:List Int):Option (List Int):=if (l0.length:Int)<(l1.length:Int) then (kV.j0 k l1 l0) else (kV.j0 k l0 l1)
theorem kV.calls (k:Nat) (P0_:Nat→Prop) (A0:Option Addr) (c0:Nat) (l0:List Int) (P1_:Nat→Prop) (A1:Option Addr) (c1:Nat) (l1:List Int) (r:List Int) (w:World) (hs0:Kd.V (Kd.int .u64) 25 w w.heap.size (fun k_=>P0_ k_) (.slice A0 l0.length c0) l0) (hs1:Kd.V (Kd.int .u64) 25 w w.heap.size (fun k_=>P1_ k_) (.slice A1 l1.length c1) l1) (h:kV.f k l0 l1=some r) :
    Calls Tryz.prog 150 #[.slice A0 l0.length c0, .slice A1 l1.length c1] w fun e w' => ∃ v0_:Value,e = .returned (v0_)∧Kd.V (Kd.int .u64) 25 w' w.heap.size (fun k_=>((P0_ k_∨P1_ k_)∨w.heap.size≤k_)) v0_ r∧Below w.heap.size w w':=by
 have HO0:=am (show Kd.V (Kd.int .u64) 25 w w.heap.size (fun k_=>((P0_ k_∨P1_ k_)∨w.heap.size≤k_)) (.slice A0 l0.length c0) l0 from Kd.bD hs0 (fun k_ hk => .inl (.inl hk)))
 have HO1:=am (show Kd.V (Kd.int .u64) 25 w w.heap.size (fun k_=>((P0_ k_∨P1_ k_)∨w.heap.size≤k_)) (.slice A1 l1.length c1) l1 from Kd.bD hs1 (fun k_ hk => .inl (.inr hk)))
 have HB:=am (Below.refl w.heap.size w)
 have H:=am h
 unfold kV.f at H
 clear h
 go_enter Tryz.func150,Tryz.ntmps150
 go_upto_if 14 with (fail)
 go_cut [0,1] (fun v0 v1 wc => ∃ (kq:Nat) (qf:List Int) (Vq:List Int),ae (kV.j0 kq qf Vq=some r)∧ae (kq≤k)∧ae (Kd.V (Kd.int .u64) 25 wc w.heap.size (fun k_=>((P0_ k_∨P1_ k_)∨w.heap.size≤k_)) v0 qf)∧ae (Kd.V (Kd.int .u64) 25 wc w.heap.size (fun k_=>((P0_ k_∨P1_ k_)∨w.heap.size≤k_)) v1 Vq)∧ae (Below w.heap.size w wc))
 case first =>
  replace H:=zs H
  rcases H with ⟨c4,H⟩|⟨c4,H⟩
  have kM:decide ((l0.length:Int)<(l1.length:Int))=true:=decide_eq_true c4
  have rY:decide (l0.length<l1.length)=true:=decide_eq_true (Int.ofNat_lt.mp c4)
  clear c4
  (first|rw [kM]|(simp only [bI,dV];rw [kM])|rw [rY]|skip)
  rotate_left
  have kM:decide ((l0.length:Int)<(l1.length:Int))=false:=decide_eq_false c4
  have rY:decide (l0.length<l1.length)=false:=decide_eq_false (fun h=>c4 (Int.ofNat_lt.mpr h))
  clear c4
  (first|rw [kM]|(simp only [bI,dV];rw [kM])|rw [rY]|skip)
  rotate_left
  all_goals (go_wp2)
  ·go_meet
   case rel=>exact ⟨_,(l1),(l0),H,⟨z5⟩,⟨zV HO1⟩,⟨zV HO0⟩,⟨zB HB⟩⟩
  go_meet
  case rel=>exact ⟨_,(l0),(l1),H,⟨z5⟩,⟨zV HO0⟩,⟨zV HO1⟩,⟨zB HB⟩⟩
 case rest =>
  obtain ⟨kq,qf,Vq,H,HJ2,iU,BK,HB⟩:=hcut
  obtain _|kj2:=kq
  ·exact zz H rfl
  simp only [kV.j0] at H
  generalize Qq:(wrap64 ((qf.length:Int)+1):Int)=ji5 at H
  have agN:(IntKind.i64.wrap ((qf.length:Int)+1))=ji5:=(bI _).trans Qq
  replace H:=zit H
  obtain ⟨rF,Bg,H⟩:=H
  replace H:=zit H
  obtain ⟨wQ,Bh,H⟩:=H
  generalize aha:(List.replicate (ji5:Int).toNat 0:List Int)=ay1 at H
  have ahb:=zY aha
  clear aha
  obtain ⟨Ao8,co8,eo8⟩:=Kd.dG iU.out
  subst eo8
  go_wp2_with (first|((with_reducible refine ay (N:=20) rfl ?_);refine Kd.vw (Kd.int .u64) _ 25 rfl (N:=20) rfl 88 _ _ rfl ji5 (by first|rfl|(simp only [List.length_drop,List.length_take];rfl)) (by first|rfl|(simp only [List.length_drop,List.length_take];rfl)) Tryz.underlying88 (.int .u64 0) 8 info25 rfl (by decide) (by omega) 0 (ok:=fun _=>True) (okp:=fun _=>True) rfl (fun _ hk=>hk) trivial (zD) (Nat.le_trans (Nat.mul_le_mul_right _ (zD:ji5.toNat≤35184372088832)) (by omega)) (Below.refl _ _) (Nat.le_refl _) ?_;intro aj1 w9 Bi hb hg_ jf;clear hg_ jf;(first|rw [← ahb.out] at Bi|(simp only [Int.reduceToNat] at Bi;rw [← ahb.out] at Bi));replace iU:=am (Kd.iP (zV iU) (Kd.gV Bi) hb);replace BK:=am (Kd.iP (zV BK) (Kd.gV Bi) hb);have aob:=am (Kd.eP (Kd.nM (M:=fun k_=>(w.heap.size≤k_)) Bi (zS HB) (fun k_ h_=>h_)) (zS HB));replace HB:=zBs HB hb;clear hb Bi))
  go_loopg [6,23] kj2 (fun kq v6 v23 w' => ∃ (nD:List Int) (rJ:Int) (lS:Int),v6 = .int .u64 rJ∧v23 = .int .i64 lS∧ae (kV.l0 kq qf Vq nD rJ qf (qf.length:Int) lS=some r)∧ae (kq≤kj2)∧ae (Kd.V (Kd.int .u64) 25 w' w.heap.size (fun k_=>((P0_ k_∨P1_ k_)∨w.heap.size≤k_)∧some k_≠(aj1:Value).ownBlock) (.slice Ao8 qf.length co8) qf)∧ae (Kd.V (Kd.int .u64) 25 w' w.heap.size (fun k_=>((P0_ k_∨P1_ k_)∨w.heap.size≤k_)∧some k_≠(aj1:Value).ownBlock) u1 Vq)∧ae (Kd.R (Kd.int .u64) 25 w' w.heap.size (fun k_=>(w.heap.size≤k_)) aj1 nD)∧ae (Kd.V (Kd.int .u64) 25 w' w.heap.size (fun k_=>((P0_ k_∨P1_ k_)∨w.heap.size≤k_)∧some k_≠(aj1:Value).ownBlock) (.slice Ao8 qf.length co8) qf)∧ae (Below w.heap.size w w'))
  case atStart=>exact ⟨(ay1),(0),(0),z1,z1,H,zL,⟨zV iU⟩,⟨zV BK⟩,⟨by (with_reducible repeat (first|apply Kd.dE|apply Kd.dn|apply Kd.dY));exact Kd.dL aob.out (fun _ hk=>hk.1)⟩,⟨zV iU⟩,⟨zB HB⟩⟩
  clear H
  obtain ⟨nD,rJ,lS,rfl,rfl,H,HK2,iU,BK,fA,Bo,HB⟩:=hrel
  obtain _|k2:=gk
  ·exact zz H rfl
  simp only [kV.l0] at H
  replace H:=zsd H
  rcases H with ⟨mY,H⟩|⟨mY,H⟩
  replace H:=zid H
  obtain ⟨nO,H⟩:=H
  replace H:=zid H
  obtain ⟨qJ,H⟩:=H
  replace H:=zsd H
  rcases H with ⟨uH,H⟩|⟨uH,H⟩
  replace H:=zit H
  obtain ⟨Bf,Qm,H⟩:=H
  replace H:=zid H
  obtain ⟨Dj,H⟩:=H
  generalize ahc:(nD.set (lS:Int).toNat (gp (rd qf lS) (rd Vq lS) rJ):List Int)=atw at H
  have aoc:=zY ahc
  clear ahc
  obtain ⟨ay2,ay3,aod,rfl,acD⟩:=zA (Kd.dH (Kd.aX Bo.out).2.2 lS)
  obtain ⟨JF,qY,LV⟩:=Kd.dG BK.out
  subst LV
  obtain ⟨aGo,aGp,ay4,rfl,aoe⟩:=zA (Kd.dH (Kd.aX BK.out).2.2 lS)
  have p17:0≤(lS:Int):=zD
  have q17:(lS:Int)<((nD.length:Int):Int):=zD
  obtain ⟨L9,WW,acE,ahd,aof,ay5,ahe⟩:=Kd.oD fA.out (by omega)
  (first|cases acE|(injection acE with ea_ en_ ec_;(first|subst ea_|(injection ea_ with ea_;subst ea_));subst ec_;clear en_))
  have aog:=am ahd
  have ay6:=am ahe
  clear ahd aof ahe
  obtain ⟨ZT,ZU⟩:=Kd.iI 0 fA.out (lS:Int) p17 q17
  replace p17:=eq_true p17
  replace q17:=eq_true q17
  have acF:=Kd.mD fA.out (lS:Int) (gp (rd qf lS) (rd Vq lS) rJ)
  rotate_left
  replace H:=zit H
  obtain ⟨Ae,YG,H⟩:=H
  replace H:=zid H
  obtain ⟨EH,H⟩:=H
  generalize ahf:(nD.set (lS:Int).toNat (gp (rd qf lS) 0 rJ):List Int)=atx at H
  have aoh:=zY ahf
  clear ahf
  obtain ⟨ay2,ay3,aod,rfl,acD⟩:=zA (Kd.dH (Kd.aX Bo.out).2.2 lS)
  obtain ⟨WS,Q3,Qu⟩:=Kd.dG BK.out
  subst Qu
  have p23:0≤(lS:Int):=zD
  have q23:(lS:Int)<((nD.length:Int):Int):=zD
  obtain ⟨YO,EC,Yu,aty,ay7,aGq,atz⟩:=Kd.oD fA.out (by omega)
  (first|cases Yu|(injection Yu with ea_ en_ ec_;(first|subst ea_|(injection ea_ with ea_;subst ea_));subst ec_;clear en_))
  have ay8:=am aty
  have aGr:=am atz
  clear aty ay7 atz
  obtain ⟨atA,atB⟩:=Kd.iI 0 fA.out (lS:Int) p23 q23
  replace p23:=eq_true p23
  replace q23:=eq_true q23
  have acG:=Kd.mD fA.out (lS:Int) (gp (rd qf lS) 0 rJ)
  rotate_left
  replace H:=zi H
  obtain ⟨c27,H⟩:=H
  have Ew:decide (0≤(qf.length:Int))=true:=decide_eq_true c27
  have UH:decide (0≤qf.length)=true:=decide_eq_true (by omega)
  clear c27
  replace H:=zi H
  obtain ⟨c28,H⟩:=H
  have xq:decide ((qf.length:Int)<(nD.length:Int))=true:=decide_eq_true c28
  have Yi:decide (qf.length<nD.length)=true:=decide_eq_true (Int.ofNat_lt.mp c28)
  clear c28
  generalize ahg:(nD.set ((qf.length:Int):Int).toNat rJ:List Int)=aj2 at H
  have aoi:=zY ahg
  clear ahg
  replace H:=zo H
  obtain ⟨atv,A30,H⟩:=H
  obtain rfl:=Option.some.inj H.out
  have p29:0≤((qf.length:Int):Int):=zD
  have q29:((qf.length:Int):Int)<((nD.length:Int):Int):=zD
  obtain ⟨Vr,QB,ad8,atC,ay9,aGs,atD⟩:=Kd.oD fA.out (by omega)
  (first|cases ad8|(injection ad8 with ea_ en_ ec_;(first|subst ea_|(injection ea_ with ea_;subst ea_));subst ec_;clear en_))
  have aza:=am atC
  have aGt:=am atD
  clear atC ay9 atD
  obtain ⟨ahh,ahi⟩:=Kd.iI 0 fA.out ((qf.length:Int):Int) p29 q29
  (try simp only [Go.IntWalk.toNatUp] at ahh ahi)
  replace p29:=eq_true p29
  replace q29:=eq_true q29
  have aoj:=Kd.mD fA.out ((qf.length:Int):Int) rJ
  rotate_left
  all_goals (go_wp2_with (first|((with_reducible refine af (f:=191) rfl ?_);refine AA (some 42) rfl rfl #[.int .u64 (rd qf lS), .int .u64 (rd Vq lS), .int .u64 rJ] _ rfl (by (try simp only [List.map_toArray,List.map_cons,List.map_nil]);rfl) (fun w_=>dw (rd qf lS) (rd Vq lS) rJ (by first|decide|(with_reducible assumption)|exact zD) w_) ?_)|((with_reducible refine eQ (t:=25) (p:=45) rfl ?_);refine dU (t:=25) (p:=45) (v:=?ahj) (w1:=(wr.setCell ⟨L9,(lS:Int).toNat,none⟩ (.int .u64 (gp (rd qf lS) (rd Vq lS) rJ)))) ?hg ?ho ?hn ?hr ?_;(case ho=>rfl);(case hg=>rfl);(case hn=>rfl);(case hr=>first|(go_simp;done)|(go_simp;rfl));intro w20 hw;have hg:wr.grownBy w20 (some L9):=(by rw [hw];exact acF.2);have hp_:Kd.R (Kd.int .u64) 25 w20 w.heap.size (fun k_=>(w.heap.size≤k_)) (.slice (some ⟨L9,0,none⟩) nD.length WW) atw:=(by rw [hw,aoc.out];exact acF.1);clear acF;replace iU:=am (Kd.iO (v:=(.slice (some ⟨L9,0,none⟩) nD.length WW)) (v1:=(.slice (some ⟨L9,0,none⟩) nD.length WW)) (ok:=(fun k_=>((P0_ k_∨P1_ k_)∨w.heap.size≤k_))) (zV iU) hg (.inl rfl));replace BK:=am (Kd.iO (v:=(.slice (some ⟨L9,0,none⟩) nD.length WW)) (v1:=(.slice (some ⟨L9,0,none⟩) nD.length WW)) (ok:=(fun k_=>((P0_ k_∨P1_ k_)∨w.heap.size≤k_))) (zV BK) hg (.inl rfl));replace fA:=am (hp_);replace Bo:=am (Kd.iO (v:=(.slice (some ⟨L9,0,none⟩) nD.length WW)) (v1:=(.slice (some ⟨L9,0,none⟩) nD.length WW)) (ok:=(fun k_=>((P0_ k_∨P1_ k_)∨w.heap.size≤k_))) (zV Bo) hg (.inl rfl));replace HB:=am ((by rw [hw];exact bu (HB.out) aog.out:Below w.heap.size w w20));clear hg hw hp_)|((with_reducible refine af (f:=191) rfl ?_);refine AA (some 42) rfl rfl #[.int .u64 (rd qf lS), .int .u64 0, .int .u64 rJ] _ rfl (by (try simp only [List.map_toArray,List.map_cons,List.map_nil]);rfl) (fun w_=>dw (rd qf lS) 0 rJ (by first|decide|(with_reducible assumption)|exact zD) w_) ?_)|((with_reducible refine eQ (t:=25) (p:=45) rfl ?_);refine dU (t:=25) (p:=45) (v:=?atE) (w1:=(wr.setCell ⟨YO,(lS:Int).toNat,none⟩ (.int .u64 (gp (rd qf lS) 0 rJ)))) ?hg ?ho ?hn ?hr ?_;(case ho=>rfl);(case hg=>rfl);(case hn=>rfl);(case hr=>first|(go_simp;done)|(go_simp;rfl));intro w26 hw;have hg:wr.grownBy w26 (some YO):=(by rw [hw];exact acG.2);have hp_:Kd.R (Kd.int .u64) 25 w26 w.heap.size (fun k_=>(w.heap.size≤k_)) (.slice (some ⟨YO,0,none⟩) nD.length EC) atx:=(by rw [hw,aoh.out];exact acG.1);clear acG;replace iU:=am (Kd.iO (v:=(.slice (some ⟨YO,0,none⟩) nD.length EC)) (v1:=(.slice (some ⟨YO,0,none⟩) nD.length EC)) (ok:=(fun k_=>((P0_ k_∨P1_ k_)∨w.heap.size≤k_))) (zV iU) hg (.inl rfl));replace BK:=am (Kd.iO (v:=(.slice (some ⟨YO,0,none⟩) nD.length EC)) (v1:=(.slice (some ⟨YO,0,none⟩) nD.length EC)) (ok:=(fun k_=>((P0_ k_∨P1_ k_)∨w.heap.size≤k_))) (zV BK) hg (.inl rfl));replace fA:=am (hp_);replace Bo:=am (Kd.iO (v:=(.slice (some ⟨YO,0,none⟩) nD.length EC)) (v1:=(.slice (some ⟨YO,0,none⟩) nD.length EC)) (ok:=(fun k_=>((P0_ k_∨P1_ k_)∨w.heap.size≤k_))) (zV Bo) hg (.inl rfl));replace HB:=am ((by rw [hw];exact bu (HB.out) ay8.out:Below w.heap.size w w26));clear hg hw hp_)|((with_reducible refine eQ (t:=25) (p:=51) rfl ?_);refine dU (t:=25) (p:=51) (v:=?atF) (w1:=(wr.setCell ⟨Vr,((qf.length:Int):Int).toNat,none⟩ (.int .u64 rJ))) ?hg ?ho ?hn ?hr ?_;(case ho=>rfl);(case hg=>rfl);(case hn=>rfl);(case hr=>first|(go_simp;done)|(go_simp;rfl));intro w32 hw;have hg:wr.grownBy w32 (some Vr):=(by rw [hw];exact aoj.2);have hp_:Kd.R (Kd.int .u64) 25 w32 w.heap.size (fun k_=>(w.heap.size≤k_)) (.slice (some ⟨Vr,0,none⟩) nD.length QB) aj2:=(by rw [hw,aoi.out];exact aoj.1);clear aoj;replace iU:=am (Kd.iO (v:=(.slice (some ⟨Vr,0,none⟩) nD.length QB)) (v1:=(.slice (some ⟨Vr,0,none⟩) nD.length QB)) (ok:=(fun k_=>((P0_ k_∨P1_ k_)∨w.heap.size≤k_))) (zV iU) hg (.inl rfl));replace BK:=am (Kd.iO (v:=(.slice (some ⟨Vr,0,none⟩) nD.length QB)) (v1:=(.slice (some ⟨Vr,0,none⟩) nD.length QB)) (ok:=(fun k_=>((P0_ k_∨P1_ k_)∨w.heap.size≤k_))) (zV BK) hg (.inl rfl));replace fA:=am (hp_);replace Bo:=am (Kd.iO (v:=(.slice (some ⟨Vr,0,none⟩) nD.length QB)) (v1:=(.slice (some ⟨Vr,0,none⟩) nD.length QB)) (ok:=(fun k_=>((P0_ k_∨P1_ k_)∨w.heap.size≤k_))) (zV Bo) hg (.inl rfl));replace HB:=am ((by rw [hw];exact bu (HB.out) aza.out:Below w.heap.size w w32));clear hg hw hp_)|((with_reducible refine af (f:=103) rfl ?_);refine lg (some 53) rfl rfl Tryz.func103 (by kernel_rfl) rfl #[.slice (some ⟨Vr,0,none⟩) aj2.length QB] rfl (by (try simp only [List.map_toArray,List.map_cons,List.map_nil]);first|done|(rw [show aj2.length=nD.length from (Kd.aW fA.out).1.symm] <;> rfl)|rfl|(simp only [List.length_drop,List.length_take];rfl)) ?_;(with_reducible refine (bG.calls _ (fun k_=>some k_=(.slice (some ⟨Vr,0,none⟩) nD.length QB:Value).ownBlock) _ _ _ _ _ ?fF A30.out).mono ?_);(case fF=>rw [show aj2.length=nD.length from (Kd.aW fA.out).1.symm];exact Kd.R_V (Kd.jY rfl (fA.out)));rintro e w33 ⟨aGu,rfl,ho0,hb⟩;refine ⟨_,rfl,?_⟩;replace iU:=zVb iU hb;replace BK:=zVb BK hb;replace Bo:=zVb Bo hb;have aok:=am (Kd.df (Kd.bD (ok':=fun k_=>((P0_ k_∨P1_ k_)∨w.heap.size≤k_)) ho0 (fun k_ hk_=>Or.elim hk_ (fun hs_=>(.inr (((fA.out).1 k_ hs_.symm)))) (fun hn_=>(.inr (Nat.le_trans (zS HB) hn_))))) (zS HB));replace fA:=zRb fA hb;replace HB:=zBs HB hb;clear hb ho0)))
  ·go_roundg k2
   case measure=>have:=HJ2.out;have:=HK2.out;omega
   case rel=>exact ⟨(atw),(jK (rd qf lS) (rd Vq lS) rJ),(wrap64 (lS+1)),z1,z1,H,⟨by have:=HJ2.out;have:=HK2.out;omega⟩,⟨zV iU⟩,⟨zV BK⟩,⟨zR fA⟩,⟨zV Bo⟩,⟨zB HB⟩⟩
  ·go_roundg k2
   case measure=>have:=HJ2.out;have:=HK2.out;omega
   case rel=>exact ⟨(atx),(jK (rd qf lS) 0 rJ),(wrap64 (lS+1)),z1,z1,H,⟨by have:=HJ2.out;have:=HK2.out;omega⟩,⟨zV iU⟩,⟨zV BK⟩,⟨zR fA⟩,⟨zV Bo⟩,⟨zB HB⟩⟩
  go_ret
  exact ⟨_,by first|exact z3|(simp only [← Qq];exact z3)|exact z2,zV aok,zB HB⟩
end Go.Proofs.Yy.PTx
end
