/- Part 30 of what the proof needs. -/
import Derived.Test.YtpfnkbnepcchgaaGreatDoorKTEBC
set_option linter.unusedSimpArgs false
set_option linter.unusedVariables false
section
set_option maxHeartbeats 8000000
set_option maxRecDepth 100000
namespace Go.Proofs.Yy.PTx
open Go.RowKit Go.Proofs.Yy.Z Go.Proofs.Yw.PrintWords Go.Proofs.Yw.PrintLast Go.Proofs.Yw.PrintMore
open Go.Proofs.Yy.M
attribute [local go_sem] dw dQ lD lF lC lG
attribute [local go_sem] gy gz ja jc fC fD gQ gK
mutual
def aG.j0:Nat→ByteArray→Bool→Bool→ByteArray→Int→Option (ByteArray × Int)
  | 0,_,_,_,_,_=>none
  | k+1,x5,qK,qL,dB,l9=>if l9 ≥ 0 then (aG.j1 k x5 (wrap64 ((dB.size:Int)+l9)) (decide ((wrap64 ((dB.size:Int)+l9))≤21)) qK qL dB l9) else (aG.j1 k x5 (wrap64 ((dB.size:Int)+l9)) false qK qL dB l9)
def aG.j1:Nat→ByteArray→Int→Bool→Bool→Bool→ByteArray→Int→Option (ByteArray × Int)
  | 0,_,_,_,_,_,_,_=>none
  | k+1,x5,x6,x23,qK,qL,dB,l9=>if x23=true then (if x5.size+dB.size≤9223372036854775807 then ((bC.f k l9).bind fun Ic=>(if (x5 ++ dB).size+Ic.size≤9223372036854775807 then (some ((x5 ++ dB) ++ Ic,0)) else (none))) else (none)) else (if x6 ≥ 1 then (aG.j2 k x5 x6 (decide (x6≤21)) qK qL dB l9) else (aG.j2 k x5 x6 false qK qL dB l9))
def aG.j2:Nat→ByteArray→Int→Bool→Bool→Bool→ByteArray→Int→Option (ByteArray × Int)
  | 0,_,_,_,_,_,_,_=>none
  | k+1,x5,x6,x39,qK,qL,dB,l9=>if x39=true then (if 0≤x6 then (if x6≤(dB.size:Int) then (if x5.size+(dB.extract 0 (x6:Int).toNat).size≤9223372036854775807 then (if (x5 ++ (dB.extract 0 (x6:Int).toNat)).size+1≤9223372036854775807 then (if ((x5 ++ (dB.extract 0 (x6:Int).toNat)) ++ (⟨#[46]⟩:ByteArray)).size+(dB.extract (x6:Int).toNat dB.size).size≤9223372036854775807 then (some (((x5 ++ (dB.extract 0 (x6:Int).toNat)) ++ (⟨#[46]⟩:ByteArray)) ++ (dB.extract (x6:Int).toNat dB.size),0)) else (none)) else (none)) else (none)) else (none)) else (none)) else (if x6 ≥ (-5) then (aG.j3 k x5 x6 (decide (x6≤0)) qK qL dB l9) else (aG.j3 k x5 x6 false qK qL dB l9))
def aG.j3:Nat→ByteArray→Int→Bool→Bool→Bool→ByteArray→Int→Option (ByteArray × Int)
  | 0,_,_,_,_,_,_,_=>none
  | k+1,x5,x6,x58,qK,qL,dB,l9=>if x58=true then (if x5.size+2≤9223372036854775807 then ((bC.f k (wrap64 (-x6))).bind fun yZ=>(if (x5 ++ (⟨#[48,46]⟩:ByteArray)).size+yZ.size≤9223372036854775807 then (if ((x5 ++ (⟨#[48,46]⟩:ByteArray)) ++ yZ).size+dB.size≤9223372036854775807 then (some (((x5 ++ (⟨#[48,46]⟩:ByteArray)) ++ yZ) ++ dB,0)) else (none)) else (none))) else (none)) else (if 0≤1 then (if 1≤(dB.size:Int) then (if x5.size+(dB.extract 0 1).size≤9223372036854775807 then (if (dB.size:Int) > 1 then (if (x5 ++ (dB.extract 0 1)).size+1≤9223372036854775807 then (if ((x5 ++ (dB.extract 0 1)) ++ (⟨#[46]⟩:ByteArray)).size+(dB.extract 1 dB.size).size≤9223372036854775807 then (if (((x5 ++ (dB.extract 0 1)) ++ (⟨#[46]⟩:ByteArray)) ++ (dB.extract 1 dB.size)).size+1≤9223372036854775807 then ((dM.f (wrap64 (x6 - 1))).bind fun Ie=>(if ((((x5 ++ (dB.extract 0 1)) ++ (⟨#[46]⟩:ByteArray)) ++ (dB.extract 1 dB.size)) ++ (⟨#[101]⟩:ByteArray)).size+Ie.size≤9223372036854775807 then (some (((((x5 ++ (dB.extract 0 1)) ++ (⟨#[46]⟩:ByteArray)) ++ (dB.extract 1 dB.size)) ++ (⟨#[101]⟩:ByteArray)) ++ Ie,0)) else (none))) else (none)) else (none)) else (none)) else (if (x5 ++ (dB.extract 0 1)).size+1≤9223372036854775807 then ((dM.f (wrap64 (x6 - 1))).bind fun Ig=>(if ((x5 ++ (dB.extract 0 1)) ++ (⟨#[101]⟩:ByteArray)).size+Ig.size≤9223372036854775807 then (some (((x5 ++ (dB.extract 0 1)) ++ (⟨#[101]⟩:ByteArray)) ++ Ig,0)) else (none))) else (none))) else (none)) else (none)) else (none))
end
def aG.f (k:Nat) (dW:Bool) (dK:Bool) (gI:ByteArray) (gW:Int):Option (ByteArray × Int):=(bW.f k dW dK gI gW).bind fun adL=>(if adL=true then ((ah.f k dW dK gI gW).bind fun xg=>(if xg.1=true then (some ((⟨#[110,97,114]⟩:ByteArray),0)) else (if xg.2.1=true then (aG.j0 k (⟨#[45]⟩:ByteArray) xg.1 xg.2.1 xg.2.2.1 xg.2.2.2) else (aG.j0 k (⟨#[]⟩:ByteArray) xg.1 xg.2.1 xg.2.2.1 xg.2.2.2)))) else (some ((⟨#[]⟩:ByteArray),23)))
theorem aG.calls (k:Nat) (dW:Bool) (dK:Bool) (gI:ByteArray) (gW:Int) (r1:ByteArray) (r2:Int) (w:World) (h:aG.f k dW dK gI gW=some (r1,r2)) (htab:Fx.Laid w:=by exact Fx.Laid.below HTAB.out (by repeat (first|(with_reducible first|exact HB.out|apply bz|apply aI|apply aZ|refine bu ?_ (ae.out (by assumption)))|exact HB.out))) :
    Calls Tryz.prog 55 #[.agg #[.bool dW, .bool dK, .string gI, .int .i64 gW]] w fun e w'=>e = .returned (.tuple #[.string r1, .int .i64 r2])∧Below w.heap.size w w':=by
 have HTAB:=am htab
 clear htab
 have Ql:=Tryz.underlying23
 have HB:=am (Below.refl w.heap.size w)
 have H:=am h
 unfold aG.f at H
 clear h
 replace H:=zo H
 obtain ⟨adL,A2,H⟩:=H
 cases adL
 replace H:=zb0 H
 obtain ⟨rfl,rfl⟩:=zJ2 H
 rotate_left
 replace H:=zb1 H
 replace H:=zo H
 obtain ⟨⟨ase,y7,dI,oq⟩,A4,H⟩:=H
 try dsimp only at H
 cases ase
 ·replace H:=zb0 H
  go_enter Tryz.func55,Tryz.ntmps55
  go_upto_if 16 with (first|((with_reducible refine ay (N:=1) rfl ?_);refine zx 1 23 #[.bool dW, .bool dK, .string gI, .int .i64 gW] ?_;intro wE hg w13 hbox hb;have n0_:=zBs HB hb;have n1_:=am (hbox);have n2_:=zG hg HB;have n3_:=zG hg HB;clear HB;have HB:=n0_;have bF:=n1_;have Eb:=n2_;have Ec:=n3_;clear n0_ n1_ n2_ n3_;clear hb hbox hg;obtain ⟨_,_,_,_,_,_,_,_⟩:=zf4 bF)|(go_at_call 28;(with_reducible refine (bW.calls k dW dK gI gW true _ A2.out).mono ?_);rintro e w15 ⟨rfl,hb⟩;have n0_:=zKb bF hb;have n1_:=zBs HB hb;clear bF;clear HB;have bF:=n0_;have HB:=n1_;clear n0_ n1_;(try clear hb);(try clear hb2);(try clear hk);(try clear hi);obtain ⟨_,_,_,_,_,_,_,_⟩:=zf4 bF)|(go_at_call 72;(with_reducible refine (ah.calls k dW dK gI gW false y7 dI oq _ A4.out).mono ?_);rintro e w17 ⟨rfl,hb⟩;have n0_:=zKb bF hb;have n1_:=zBs HB hb;clear bF;clear HB;have bF:=n0_;have HB:=n1_;clear n0_ n1_;(try clear hb);(try clear hb2);(try clear hk);(try clear hi);obtain ⟨_,_,_,_,_,_,_,_⟩:=zf4 bF))
  repeat (go_quiet (first|((with_reducible refine ay (N:=1) rfl ?_);refine zx 1 23 #[.bool dW, .bool dK, .string gI, .int .i64 gW] ?_;intro wE hg w13 hbox hb;have n0_:=zBs HB hb;have n1_:=am (hbox);have n2_:=zG hg HB;have n3_:=zG hg HB;clear HB;have HB:=n0_;have bF:=n1_;have Eb:=n2_;have Ec:=n3_;clear n0_ n1_ n2_ n3_;clear hb hbox hg;obtain ⟨_,_,_,_,_,_,_,_⟩:=zf4 bF)|(go_at_call 28;(with_reducible refine (bW.calls k dW dK gI gW true _ A2.out).mono ?_);rintro e w15 ⟨rfl,hb⟩;have n0_:=zKb bF hb;have n1_:=zBs HB hb;clear bF;clear HB;have bF:=n0_;have HB:=n1_;clear n0_ n1_;(try clear hb);(try clear hb2);(try clear hk);(try clear hi);obtain ⟨_,_,_,_,_,_,_,_⟩:=zf4 bF)|(go_at_call 72;(with_reducible refine (ah.calls k dW dK gI gW false y7 dI oq _ A4.out).mono ?_);rintro e w17 ⟨rfl,hb⟩;have n0_:=zKb bF hb;have n1_:=zBs HB hb;clear bF;clear HB;have bF:=n0_;have HB:=n1_;clear n0_ n1_;(try clear hb);(try clear hb2);(try clear hk);(try clear hi);obtain ⟨_,_,_,_,_,_,_,_⟩:=zf4 bF));go_upto_if 16 with (first|((with_reducible refine ay (N:=1) rfl ?_);refine zx 1 23 #[.bool dW, .bool dK, .string gI, .int .i64 gW] ?_;intro wE hg w13 hbox hb;have n0_:=zBs HB hb;have n1_:=am (hbox);have n2_:=zG hg HB;have n3_:=zG hg HB;clear HB;have HB:=n0_;have bF:=n1_;have Eb:=n2_;have Ec:=n3_;clear n0_ n1_ n2_ n3_;clear hb hbox hg;obtain ⟨_,_,_,_,_,_,_,_⟩:=zf4 bF)|(go_at_call 28;(with_reducible refine (bW.calls k dW dK gI gW true _ A2.out).mono ?_);rintro e w15 ⟨rfl,hb⟩;have n0_:=zKb bF hb;have n1_:=zBs HB hb;clear bF;clear HB;have bF:=n0_;have HB:=n1_;clear n0_ n1_;(try clear hb);(try clear hb2);(try clear hk);(try clear hi);obtain ⟨_,_,_,_,_,_,_,_⟩:=zf4 bF)|(go_at_call 72;(with_reducible refine (ah.calls k dW dK gI gW false y7 dI oq _ A4.out).mono ?_);rintro e w17 ⟨rfl,hb⟩;have n0_:=zKb bF hb;have n1_:=zBs HB hb;clear bF;clear HB;have bF:=n0_;have HB:=n1_;clear n0_ n1_;(try clear hb);(try clear hb2);(try clear hk);(try clear hi);obtain ⟨_,_,_,_,_,_,_,_⟩:=zf4 bF)))
  (try simp only [Act.put,List.setIfInBounds_toArray,List.set_cons_zero,List.set_cons_succ])
  go_cut [5] (fun v5 wc => ∃ (kq:Nat) (ik:ByteArray),v5 = .string ik∧ae (aG.j0 kq ik false y7 dI oq=some (r1,r2))∧ae (kq≤k)∧ae (wc.heap[wE]? = some (.cells #[.bool false, .bool y7, .string dI, .int .i64 oq] 23 (0,0)))∧ae (Below w.heap.size w wc))
  case first =>
   cases y7
   replace H:=zb0 H
   rotate_left
   replace H:=zb1 H
   rotate_left
   all_goals (go_wp2;repeat (go_quiet (fail);try go_wp2))
   ·go_meet
    case rel=>exact ⟨_,((⟨#[]⟩:ByteArray)),z1,H,⟨z5⟩,⟨zKp bF⟩,⟨zB HB⟩⟩
   go_meet
   case rel=>exact ⟨_,((⟨#[45]⟩:ByteArray)),z1,H,⟨z5⟩,⟨zKp bF⟩,⟨zB HB⟩⟩
  case rest =>
   obtain ⟨kq,ik,rfl,H,aep,bF,HB⟩:=hcut
   obtain _|aEz:=kq
   ·exact zz H rfl
   simp only [aG.j0] at H
   obtain ⟨_,_,_,_,_,_,_,_⟩:=zf4 bF
   go_upto_region 11 with (fail)
   repeat (go_quiet (fail);go_upto_region 11 with (fail))
   go_cut [23] (fun v23 wc => ∃ (kq:Nat) (OL:Bool),v23 = .bool OL∧ae (aG.j1 kq ik (wrap64 ((dI.size:Int)+oq)) OL false y7 dI oq=some (r1,r2))∧ae (kq≤aEz)∧ae (wc.heap[wE]? = some (.cells #[.bool false, .bool y7, .string dI, .int .i64 oq] 23 (0,0)))∧ae (Below w.heap.size w wc))
   case first =>
    replace H:=zf H
    rcases H with ⟨EH,H⟩|⟨EH,H⟩
    (first|rw [EH]|(simp only [bI,dV];rw [EH])|rw [asf]|skip)
    obtain ⟨_,_,_,_,_,_,_,_⟩:=zf4 bF
    rotate_left
    (first|rw [EH]|(simp only [bI,dV];rw [EH])|rw [asf]|skip)
    obtain ⟨_,_,_,_,_,_,_,_⟩:=zf4 bF
    rotate_left
    all_goals (go_wp2;repeat (go_quiet (fail);try go_wp2))
    ·go_meet
     case rel=>exact ⟨_,(decide ((wrap64 ((dI.size:Int)+oq))≤21)),z1,H,⟨by have:=aep.out;first|omega|exact Nat.le_refl _⟩,⟨zK bF⟩,⟨zB HB⟩⟩
    go_meet
    case rel=>exact ⟨_,(false),z1,H,⟨by have:=aep.out;first|omega|exact Nat.le_refl _⟩,⟨zK bF⟩,⟨zB HB⟩⟩
   case rest =>
    obtain ⟨kq,OL,rfl,H,YN,bF,HB⟩:=hcut
    obtain _|ag2:=kq
    ·exact zz H rfl
    simp only [aG.j1] at H
    cases OL
    ·replace H:=zb0 H
     go_upto_region 13 with (fail)
     repeat (go_quiet (fail);go_upto_region 13 with (fail))
     go_cut [39] (fun v39 wc => ∃ (kq:Nat) (OM:Bool),v39 = .bool OM∧ae (aG.j2 kq ik (wrap64 ((dI.size:Int)+oq)) OM false y7 dI oq=some (r1,r2))∧ae (kq≤ag2)∧ae (wc.heap[wE]? = some (.cells #[.bool false, .bool y7, .string dI, .int .i64 oq] 23 (0,0)))∧ae (Below w.heap.size w wc))
     case first =>
      replace H:=zf H
      rcases H with ⟨EG,H⟩|⟨EG,H⟩
      (first|rw [EG]|(simp only [bI,dV];rw [EG])|rw [ag5]|skip)
      rotate_left
      (first|rw [EG]|(simp only [bI,dV];rw [EG])|rw [ag5]|skip)
      rotate_left
      all_goals (go_wp2;repeat (go_quiet (fail);try go_wp2))
      ·go_meet
       case rel=>exact ⟨_,(decide ((wrap64 ((dI.size:Int)+oq))≤21)),z1,H,⟨by have:=aep.out;have:=YN.out;first|omega|exact Nat.le_refl _⟩,⟨zK bF⟩,⟨zB HB⟩⟩
      go_meet
      case rel=>exact ⟨_,(false),z1,H,⟨by have:=aep.out;have:=YN.out;first|omega|exact Nat.le_refl _⟩,⟨zK bF⟩,⟨zB HB⟩⟩
     case rest =>
      obtain ⟨kq,OM,rfl,H,awC,bF,HB⟩:=hcut
      obtain _|aEA:=kq
      ·exact zz H rfl
      simp only [aG.j2] at H
      cases OM
      ·replace H:=zb0 H
       go_upto_region 15 with (fail)
       repeat (go_quiet (fail);go_upto_region 15 with (fail))
       go_cut [58] (fun v58 wc => ∃ (kq:Nat) (OO:Bool),v58 = .bool OO∧ae (aG.j3 kq ik (wrap64 ((dI.size:Int)+oq)) OO false y7 dI oq=some (r1,r2))∧ae (kq≤aEA)∧ae (wc.heap[wE]? = some (.cells #[.bool false, .bool y7, .string dI, .int .i64 oq] 23 (0,0)))∧ae (Below w.heap.size w wc))
       case first =>
        replace H:=zf H
        rcases H with ⟨WN,H⟩|⟨WN,H⟩
        (first|rw [WN]|(simp only [bI,dV];rw [WN])|rw [asg]|skip)
        rotate_left
        (first|rw [WN]|(simp only [bI,dV];rw [WN])|rw [asg]|skip)
        rotate_left
        all_goals (go_wp2;repeat (go_quiet (fail);try go_wp2))
        ·go_meet
         case rel=>exact ⟨_,(decide ((wrap64 ((dI.size:Int)+oq))≤0)),z1,H,⟨by have:=aep.out;have:=YN.out;have:=awC.out;first|omega|exact Nat.le_refl _⟩,⟨zK bF⟩,⟨zB HB⟩⟩
        go_meet
        case rel=>exact ⟨_,(false),z1,H,⟨by have:=aep.out;have:=YN.out;have:=awC.out;first|omega|exact Nat.le_refl _⟩,⟨zK bF⟩,⟨zB HB⟩⟩
       case rest =>
        obtain ⟨kq,OO,rfl,H,aJY,bF,HB⟩:=hcut
        obtain _|awD:=kq
        ·exact zz H rfl
        simp only [aG.j3] at H
        cases OO
        replace H:=zb0 H
        replace H:=zit H
        obtain ⟨aEB,aEC,H⟩:=H
        replace H:=zit H
        obtain ⟨aED,aEE,H⟩:=H
        replace H:=zi H
        obtain ⟨c52,H⟩:=H
        have aEF:=eq_true c52
        have aEG:decide (ik.size+(dI.extract 0 1).size≤9223372036854775807)=true:=decide_eq_true c52
        try have aEH:(9223372036854775807<ik.size+(dI.extract 0 1).size)=False:=eq_false (Nat.not_lt.2 c52)
        try have aJZ:(9223372036854775807<ik.size+min 1 dI.size)=False:=eq_false (by have h_:=c52;have l1_:(⟨#[46]⟩:ByteArray).size=1:=rfl;have l2_:(⟨#[48,46]⟩:ByteArray).size=2:=rfl;have l3_:(⟨#[101]⟩:ByteArray).size=1:=rfl;(try simp only [ByteArray.size_append,ByteArray.size_extract] at h_);omega)
        try have aJ0:(9223372036854775807<ik.size+1)=False:=eq_false (by have h_:=c52;have l1_:(⟨#[46]⟩:ByteArray).size=1:=rfl;have l2_:(⟨#[48,46]⟩:ByteArray).size=2:=rfl;have l3_:(⟨#[101]⟩:ByteArray).size=1:=rfl;(try simp only [ByteArray.size_append,ByteArray.size_extract] at h_);omega)
        replace H:=zs H
        rcases H with ⟨c53,H⟩|⟨c53,H⟩
        have aiv:decide (1<(dI.size:Int))=true:=decide_eq_true c53
        have ash:decide (1<dI.size)=true:=decide_eq_true (by omega)
        clear c53
        replace H:=zi H
        obtain ⟨c54,H⟩:=H
        have MN:=eq_true c54
        have aEI:decide ((ik ++ (dI.extract 0 1)).size+1≤9223372036854775807)=true:=decide_eq_true c54
        try have aEJ:(9223372036854775807<(ik ++ (dI.extract 0 1)).size+1)=False:=eq_false (Nat.not_lt.2 c54)
        try have aJ1:(9223372036854775807<ik.size+min 1 dI.size+1)=False:=eq_false (by have h_:=c54;have l1_:(⟨#[46]⟩:ByteArray).size=1:=rfl;have l2_:(⟨#[48,46]⟩:ByteArray).size=2:=rfl;have l3_:(⟨#[101]⟩:ByteArray).size=1:=rfl;(try simp only [ByteArray.size_append,ByteArray.size_extract] at h_);omega)
        try have aJ2:(9223372036854775807<ik.size+1+1)=False:=eq_false (by have h_:=c54;have l1_:(⟨#[46]⟩:ByteArray).size=1:=rfl;have l2_:(⟨#[48,46]⟩:ByteArray).size=2:=rfl;have l3_:(⟨#[101]⟩:ByteArray).size=1:=rfl;(try simp only [ByteArray.size_append,ByteArray.size_extract] at h_);omega)
        have aEK:=eq_true (zD:1≤(dI.size:Int))
        replace H:=zi H
        obtain ⟨c56,H⟩:=H
        have aEL:=eq_true c56
        have aEM:decide (((ik ++ (dI.extract 0 1)) ++ (⟨#[46]⟩:ByteArray)).size+(dI.extract 1 dI.size).size≤9223372036854775807)=true:=decide_eq_true c56
        try have aEN:(9223372036854775807<((ik ++ (dI.extract 0 1)) ++ (⟨#[46]⟩:ByteArray)).size+(dI.extract 1 dI.size).size)=False:=eq_false (Nat.not_lt.2 c56)
        try have aJ3:(9223372036854775807<ik.size+min 1 dI.size+1+(dI.size - 1))=False:=eq_false (by have h_:=c56;have l1_:(⟨#[46]⟩:ByteArray).size=1:=rfl;have l2_:(⟨#[48,46]⟩:ByteArray).size=2:=rfl;have l3_:(⟨#[101]⟩:ByteArray).size=1:=rfl;(try simp only [ByteArray.size_append,ByteArray.size_extract] at h_);omega)
        try have aJ4:(9223372036854775807<ik.size+1+1+(dI.size - 1))=False:=eq_false (by have h_:=c56;have l1_:(⟨#[46]⟩:ByteArray).size=1:=rfl;have l2_:(⟨#[48,46]⟩:ByteArray).size=2:=rfl;have l3_:(⟨#[101]⟩:ByteArray).size=1:=rfl;(try simp only [ByteArray.size_append,ByteArray.size_extract] at h_);omega)
        replace H:=zi H
        obtain ⟨c57,H⟩:=H
        have aEO:=eq_true c57
        have aEP:decide ((((ik ++ (dI.extract 0 1)) ++ (⟨#[46]⟩:ByteArray)) ++ (dI.extract 1 dI.size)).size+1≤9223372036854775807)=true:=decide_eq_true c57
        try have aEQ:(9223372036854775807<(((ik ++ (dI.extract 0 1)) ++ (⟨#[46]⟩:ByteArray)) ++ (dI.extract 1 dI.size)).size+1)=False:=eq_false (Nat.not_lt.2 c57)
        try have aJ5:(9223372036854775807<ik.size+min 1 dI.size+1+(dI.size - 1)+1)=False:=eq_false (by have h_:=c57;have l1_:(⟨#[46]⟩:ByteArray).size=1:=rfl;have l2_:(⟨#[48,46]⟩:ByteArray).size=2:=rfl;have l3_:(⟨#[101]⟩:ByteArray).size=1:=rfl;(try simp only [ByteArray.size_append,ByteArray.size_extract] at h_);omega)
        try have aJ6:(9223372036854775807<ik.size+1+1+(dI.size - 1)+1)=False:=eq_false (by have h_:=c57;have l1_:(⟨#[46]⟩:ByteArray).size=1:=rfl;have l2_:(⟨#[48,46]⟩:ByteArray).size=2:=rfl;have l3_:(⟨#[101]⟩:ByteArray).size=1:=rfl;(try simp only [ByteArray.size_append,ByteArray.size_extract] at h_);omega)
        replace H:=zo H
        obtain ⟨Ie,A58,H⟩:=H
        replace H:=zi H
        obtain ⟨c59,H⟩:=H
        have aqN:=eq_true c59
        have aER:decide (((((ik ++ (dI.extract 0 1)) ++ (⟨#[46]⟩:ByteArray)) ++ (dI.extract 1 dI.size)) ++ (⟨#[101]⟩:ByteArray)).size+Ie.size≤9223372036854775807)=true:=decide_eq_true c59
        try have aES:(9223372036854775807<((((ik ++ (dI.extract 0 1)) ++ (⟨#[46]⟩:ByteArray)) ++ (dI.extract 1 dI.size)) ++ (⟨#[101]⟩:ByteArray)).size+Ie.size)=False:=eq_false (Nat.not_lt.2 c59)
        try have aJ7:(9223372036854775807<ik.size+min 1 dI.size+1+(dI.size - 1)+1+Ie.size)=False:=eq_false (by have h_:=c59;have l1_:(⟨#[46]⟩:ByteArray).size=1:=rfl;have l2_:(⟨#[48,46]⟩:ByteArray).size=2:=rfl;have l3_:(⟨#[101]⟩:ByteArray).size=1:=rfl;(try simp only [ByteArray.size_append,ByteArray.size_extract] at h_);omega)
        try have aJ8:(9223372036854775807<ik.size+1+1+(dI.size - 1)+1+Ie.size)=False:=eq_false (by have h_:=c59;have l1_:(⟨#[46]⟩:ByteArray).size=1:=rfl;have l2_:(⟨#[48,46]⟩:ByteArray).size=2:=rfl;have l3_:(⟨#[101]⟩:ByteArray).size=1:=rfl;(try simp only [ByteArray.size_append,ByteArray.size_extract] at h_);omega)
        obtain ⟨rfl,rfl⟩:=zJ2 H
        obtain ⟨_,_,_,_,_,_,_,_⟩:=zf4 bF
        rotate_left
        have aiv:decide (1<(dI.size:Int))=false:=decide_eq_false c53
        have ash:decide (1<dI.size)=false:=decide_eq_false (by omega)
        clear c53
        replace H:=zi H
        obtain ⟨c62,H⟩:=H
        have aET:=eq_true c62
        have aEU:decide ((ik ++ (dI.extract 0 1)).size+1≤9223372036854775807)=true:=decide_eq_true c62
        try have aEV:(9223372036854775807<(ik ++ (dI.extract 0 1)).size+1)=False:=eq_false (Nat.not_lt.2 c62)
        try have aJ9:(9223372036854775807<ik.size+min 1 dI.size+1)=False:=eq_false (by have h_:=c62;have l1_:(⟨#[46]⟩:ByteArray).size=1:=rfl;have l2_:(⟨#[48,46]⟩:ByteArray).size=2:=rfl;have l3_:(⟨#[101]⟩:ByteArray).size=1:=rfl;(try simp only [ByteArray.size_append,ByteArray.size_extract] at h_);omega)
        try have aKa:(9223372036854775807<ik.size+1+1)=False:=eq_false (by have h_:=c62;have l1_:(⟨#[46]⟩:ByteArray).size=1:=rfl;have l2_:(⟨#[48,46]⟩:ByteArray).size=2:=rfl;have l3_:(⟨#[101]⟩:ByteArray).size=1:=rfl;(try simp only [ByteArray.size_append,ByteArray.size_extract] at h_);omega)
        replace H:=zo H
        obtain ⟨Ig,A63,H⟩:=H
        replace H:=zi H
        obtain ⟨c64,H⟩:=H
        have aiC:=eq_true c64
        have aEW:decide (((ik ++ (dI.extract 0 1)) ++ (⟨#[101]⟩:ByteArray)).size+Ig.size≤9223372036854775807)=true:=decide_eq_true c64
        try have aEX:(9223372036854775807<((ik ++ (dI.extract 0 1)) ++ (⟨#[101]⟩:ByteArray)).size+Ig.size)=False:=eq_false (Nat.not_lt.2 c64)
        try have aKb:(9223372036854775807<ik.size+min 1 dI.size+1+Ig.size)=False:=eq_false (by have h_:=c64;have l1_:(⟨#[46]⟩:ByteArray).size=1:=rfl;have l2_:(⟨#[48,46]⟩:ByteArray).size=2:=rfl;have l3_:(⟨#[101]⟩:ByteArray).size=1:=rfl;(try simp only [ByteArray.size_append,ByteArray.size_extract] at h_);omega)
        try have aKc:(9223372036854775807<ik.size+1+1+Ig.size)=False:=eq_false (by have h_:=c64;have l1_:(⟨#[46]⟩:ByteArray).size=1:=rfl;have l2_:(⟨#[48,46]⟩:ByteArray).size=2:=rfl;have l3_:(⟨#[101]⟩:ByteArray).size=1:=rfl;(try simp only [ByteArray.size_append,ByteArray.size_extract] at h_);omega)
        obtain ⟨rfl,rfl⟩:=zJ2 H
        obtain ⟨_,_,_,_,_,_,_,_⟩:=zf4 bF
        rotate_left
        replace H:=zb1 H
        replace H:=zi H
        obtain ⟨c45,H⟩:=H
        have aEY:=eq_true c45
        have aEZ:decide (ik.size+2≤9223372036854775807)=true:=decide_eq_true c45
        try have aE0:(9223372036854775807<ik.size+2)=False:=eq_false (Nat.not_lt.2 c45)
        try have aKd:(9223372036854775807<ik.size+2)=False:=eq_false (by have h_:=c45;have l1_:(⟨#[46]⟩:ByteArray).size=1:=rfl;have l2_:(⟨#[48,46]⟩:ByteArray).size=2:=rfl;have l3_:(⟨#[101]⟩:ByteArray).size=1:=rfl;(try simp only [ByteArray.size_append,ByteArray.size_extract] at h_);omega)
        try have aKe:(9223372036854775807<ik.size+2)=False:=eq_false (by have h_:=c45;have l1_:(⟨#[46]⟩:ByteArray).size=1:=rfl;have l2_:(⟨#[48,46]⟩:ByteArray).size=2:=rfl;have l3_:(⟨#[101]⟩:ByteArray).size=1:=rfl;(try simp only [ByteArray.size_append,ByteArray.size_extract] at h_);omega)
        replace H:=zo H
        obtain ⟨yZ,A46,H⟩:=H
        replace H:=zi H
        obtain ⟨c47,H⟩:=H
        have aqG:=eq_true c47
        have aqH:decide ((ik ++ (⟨#[48,46]⟩:ByteArray)).size+yZ.size≤9223372036854775807)=true:=decide_eq_true c47
        try have aE1:(9223372036854775807<(ik ++ (⟨#[48,46]⟩:ByteArray)).size+yZ.size)=False:=eq_false (Nat.not_lt.2 c47)
        try have aKf:(9223372036854775807<ik.size+2+yZ.size)=False:=eq_false (by have h_:=c47;have l1_:(⟨#[46]⟩:ByteArray).size=1:=rfl;have l2_:(⟨#[48,46]⟩:ByteArray).size=2:=rfl;have l3_:(⟨#[101]⟩:ByteArray).size=1:=rfl;(try simp only [ByteArray.size_append,ByteArray.size_extract] at h_);omega)
        try have aKg:(9223372036854775807<ik.size+2+yZ.size)=False:=eq_false (by have h_:=c47;have l1_:(⟨#[46]⟩:ByteArray).size=1:=rfl;have l2_:(⟨#[48,46]⟩:ByteArray).size=2:=rfl;have l3_:(⟨#[101]⟩:ByteArray).size=1:=rfl;(try simp only [ByteArray.size_append,ByteArray.size_extract] at h_);omega)
        replace H:=zi H
        obtain ⟨c48,H⟩:=H
        have aqI:=eq_true c48
        have aqJ:decide (((ik ++ (⟨#[48,46]⟩:ByteArray)) ++ yZ).size+dI.size≤9223372036854775807)=true:=decide_eq_true c48
        try have aE2:(9223372036854775807<((ik ++ (⟨#[48,46]⟩:ByteArray)) ++ yZ).size+dI.size)=False:=eq_false (Nat.not_lt.2 c48)
        try have aKh:(9223372036854775807<ik.size+2+yZ.size+dI.size)=False:=eq_false (by have h_:=c48;have l1_:(⟨#[46]⟩:ByteArray).size=1:=rfl;have l2_:(⟨#[48,46]⟩:ByteArray).size=2:=rfl;have l3_:(⟨#[101]⟩:ByteArray).size=1:=rfl;(try simp only [ByteArray.size_append,ByteArray.size_extract] at h_);omega)
        try have aKi:(9223372036854775807<ik.size+2+yZ.size+dI.size)=False:=eq_false (by have h_:=c48;have l1_:(⟨#[46]⟩:ByteArray).size=1:=rfl;have l2_:(⟨#[48,46]⟩:ByteArray).size=2:=rfl;have l3_:(⟨#[101]⟩:ByteArray).size=1:=rfl;(try simp only [ByteArray.size_append,ByteArray.size_extract] at h_);omega)
        obtain ⟨rfl,rfl⟩:=zJ2 H
        have aE3:(IntKind.i64.wrap (-(wrap64 ((dI.size:Int)+oq))))=wrap64 (-(wrap64 ((dI.size:Int)+oq))):=bI _
        rotate_left
        all_goals (go_wp2_with (first|(go_at_call 70;(with_reducible refine (dM.calls _ _ _ A58.out).mono ?_);rintro e w61 ⟨rfl,hb⟩;replace bF:=zKb bF hb;replace HB:=zBs HB hb;clear hb)|(go_at_call 70;(with_reducible refine (dM.calls _ _ _ A63.out).mono ?_);rintro e w66 ⟨rfl,hb⟩;replace bF:=zKb bF hb;replace HB:=zBs HB hb;clear hb)|(go_at_call 112;(with_reducible refine (bC.calls _ _ _ _ A46.out).mono ?_);rintro e w' ⟨rfl,⟨nd,rfl⟩⟩;(try first|exact ⟨rfl,_,World.drewN_drewN _ _ _⟩|exact ⟨rfl,_,Eq.trans (World.drewN_drewN _ _ _) (congrArg (World.drewN _) (Nat.add_assoc _ _ _))⟩);obtain ⟨_,_,_,_,_,_,_,_⟩:=zf4 bF)))
        ·repeat (go_quiet (first|(go_at_call 70;(with_reducible refine (dM.calls (wrap64 ((wrap64 ((dI.size:Int)+oq)) - 1)) Ie _ A58.out).mono ?_);rintro e w61 ⟨rfl,hb⟩;have n0_:=zKb bF hb;have n1_:=zBs HB hb;clear bF;clear HB;have bF:=n0_;have HB:=n1_;clear n0_ n1_;(try clear hb);(try clear hb2);(try clear hk);(try clear hi)));try go_wp2_with (first|(go_at_call 70;(with_reducible refine (dM.calls (wrap64 ((wrap64 ((dI.size:Int)+oq)) - 1)) Ie _ A58.out).mono ?_);rintro e w61 ⟨rfl,hb⟩;have n0_:=zKb bF hb;have n1_:=zBs HB hb;clear bF;clear HB;have bF:=n0_;have HB:=n1_;clear n0_ n1_;(try clear hb);(try clear hb2);(try clear hk);(try clear hi))))
         go_ret2
         exact ⟨z2,zB HB⟩
        ·repeat (go_quiet (first|(go_at_call 70;(with_reducible refine (dM.calls (wrap64 ((wrap64 ((dI.size:Int)+oq)) - 1)) Ig _ A63.out).mono ?_);rintro e w66 ⟨rfl,hb⟩;have n0_:=zKb bF hb;have n1_:=zBs HB hb;clear bF;clear HB;have bF:=n0_;have HB:=n1_;clear n0_ n1_;(try clear hb);(try clear hb2);(try clear hk);(try clear hi)));try go_wp2_with (first|(go_at_call 70;(with_reducible refine (dM.calls (wrap64 ((wrap64 ((dI.size:Int)+oq)) - 1)) Ig _ A63.out).mono ?_);rintro e w66 ⟨rfl,hb⟩;have n0_:=zKb bF hb;have n1_:=zBs HB hb;clear bF;clear HB;have bF:=n0_;have HB:=n1_;clear n0_ n1_;(try clear hb);(try clear hb2);(try clear hk);(try clear hi))))
         go_ret2
         exact ⟨z2,zB HB⟩
        repeat (go_quiet (first|(go_at_call 112;(with_reducible refine (bC.calls awD (wrap64 (-(wrap64 ((dI.size:Int)+oq)))) yZ _ A46.out).mono ?_);rintro e w' ⟨rfl,⟨nd,rfl⟩⟩;(try first|exact ⟨rfl,_,World.drewN_drewN _ _ _⟩|exact ⟨rfl,_,Eq.trans (World.drewN_drewN _ _ _) (congrArg (World.drewN _) (Nat.add_assoc _ _ _))⟩);obtain ⟨_,_,_,_,_,_,_,_⟩:=zf4 bF));try go_wp2_with (first|(go_at_call 112;(with_reducible refine (bC.calls awD (wrap64 (-(wrap64 ((dI.size:Int)+oq)))) yZ _ A46.out).mono ?_);rintro e w' ⟨rfl,⟨nd,rfl⟩⟩;(try first|exact ⟨rfl,_,World.drewN_drewN _ _ _⟩|exact ⟨rfl,_,Eq.trans (World.drewN_drewN _ _ _) (congrArg (World.drewN _) (Nat.add_assoc _ _ _))⟩);obtain ⟨_,_,_,_,_,_,_,_⟩:=zf4 bF)))
        go_ret2
        exact ⟨z2,zB HB⟩
      replace H:=zb1 H
      generalize Vy:(wrap64 ((dI.size:Int)+oq):Int)=uS at H
      have awE:(IntKind.i64.wrap ((dI.size:Int)+oq))=uS:=(bI _).trans Vy
      replace H:=zit H
      obtain ⟨QJ,aE4,H⟩:=H
      replace H:=zit H
      obtain ⟨GX,Yj,H⟩:=H
      replace H:=zi H
      obtain ⟨c36,H⟩:=H
      have UJ:=eq_true c36
      have aiY:decide (ik.size+(dI.extract 0 ((uS):Int).toNat).size≤9223372036854775807)=true:=decide_eq_true c36
      try have aE5:(9223372036854775807<ik.size+(dI.extract 0 ((uS):Int).toNat).size)=False:=eq_false (Nat.not_lt.2 c36)
      try have aKj:(9223372036854775807<ik.size+min uS.toNat dI.size)=False:=eq_false (by have h_:=c36;have l1_:(⟨#[46]⟩:ByteArray).size=1:=rfl;have l2_:(⟨#[48,46]⟩:ByteArray).size=2:=rfl;have l3_:(⟨#[101]⟩:ByteArray).size=1:=rfl;have u0_:0≤(uS):=zD;have v0_:(uS)≤(dI.size:Int):=zD;(try simp only [ByteArray.size_append,ByteArray.size_extract] at h_);omega)
      try have aKk:(9223372036854775807<ik.size+uS.toNat)=False:=eq_false (by have h_:=c36;have l1_:(⟨#[46]⟩:ByteArray).size=1:=rfl;have l2_:(⟨#[48,46]⟩:ByteArray).size=2:=rfl;have l3_:(⟨#[101]⟩:ByteArray).size=1:=rfl;have u0_:0≤(uS):=zD;have v0_:(uS)≤(dI.size:Int):=zD;(try simp only [ByteArray.size_append,ByteArray.size_extract] at h_);omega)
      replace H:=zi H
      obtain ⟨c37,H⟩:=H
      have Jy:=eq_true c37
      have aiZ:decide ((ik ++ (dI.extract 0 ((uS):Int).toNat)).size+1≤9223372036854775807)=true:=decide_eq_true c37
      try have aE6:(9223372036854775807<(ik ++ (dI.extract 0 ((uS):Int).toNat)).size+1)=False:=eq_false (Nat.not_lt.2 c37)
      try have aKl:(9223372036854775807<ik.size+min uS.toNat dI.size+1)=False:=eq_false (by have h_:=c37;have l1_:(⟨#[46]⟩:ByteArray).size=1:=rfl;have l2_:(⟨#[48,46]⟩:ByteArray).size=2:=rfl;have l3_:(⟨#[101]⟩:ByteArray).size=1:=rfl;have u0_:0≤(uS):=zD;have v0_:(uS)≤(dI.size:Int):=zD;(try simp only [ByteArray.size_append,ByteArray.size_extract] at h_);omega)
      try have aKm:(9223372036854775807<ik.size+uS.toNat+1)=False:=eq_false (by have h_:=c37;have l1_:(⟨#[46]⟩:ByteArray).size=1:=rfl;have l2_:(⟨#[48,46]⟩:ByteArray).size=2:=rfl;have l3_:(⟨#[101]⟩:ByteArray).size=1:=rfl;have u0_:0≤(uS):=zD;have v0_:(uS)≤(dI.size:Int):=zD;(try simp only [ByteArray.size_append,ByteArray.size_extract] at h_);omega)
      have aly:=eq_true (zD:0≤(uS))
      have ahM:=eq_true (zD:(uS)≤(dI.size:Int))
      replace H:=zi H
      obtain ⟨c40,H⟩:=H
      have aqo:=eq_true c40
      have aqp:decide (((ik ++ (dI.extract 0 ((uS):Int).toNat)) ++ (⟨#[46]⟩:ByteArray)).size+(dI.extract ((uS):Int).toNat dI.size).size≤9223372036854775807)=true:=decide_eq_true c40
      try have aE7:(9223372036854775807<((ik ++ (dI.extract 0 ((uS):Int).toNat)) ++ (⟨#[46]⟩:ByteArray)).size+(dI.extract ((uS):Int).toNat dI.size).size)=False:=eq_false (Nat.not_lt.2 c40)
      try have aKn:(9223372036854775807<ik.size+min uS.toNat dI.size+1+(dI.size - uS.toNat))=False:=eq_false (by have h_:=c40;have l1_:(⟨#[46]⟩:ByteArray).size=1:=rfl;have l2_:(⟨#[48,46]⟩:ByteArray).size=2:=rfl;have l3_:(⟨#[101]⟩:ByteArray).size=1:=rfl;have u0_:0≤(uS):=zD;have v0_:(uS)≤(dI.size:Int):=zD;(try simp only [ByteArray.size_append,ByteArray.size_extract] at h_);omega)
      try have aKo:(9223372036854775807<ik.size+uS.toNat+1+(dI.size - uS.toNat))=False:=eq_false (by have h_:=c40;have l1_:(⟨#[46]⟩:ByteArray).size=1:=rfl;have l2_:(⟨#[48,46]⟩:ByteArray).size=2:=rfl;have l3_:(⟨#[101]⟩:ByteArray).size=1:=rfl;have u0_:0≤(uS):=zD;have v0_:(uS)≤(dI.size:Int):=zD;(try simp only [ByteArray.size_append,ByteArray.size_extract] at h_);omega)
      obtain ⟨rfl,rfl⟩:=zJ2 H
      obtain ⟨_,_,_,_,_,_,_,_⟩:=zf4 bF
      go_wp2
      repeat (go_quiet (fail);try go_wp2)
      go_ret2
      exact ⟨by first|exact z3|(simp only [← Vy];exact z3)|exact z2,zB HB⟩
    replace H:=zb1 H
    replace H:=zi H
    obtain ⟨c26,H⟩:=H
    have L6:=eq_true c26
    have ag4:decide (ik.size+dI.size≤9223372036854775807)=true:=decide_eq_true c26
    try have aE8:(9223372036854775807<ik.size+dI.size)=False:=eq_false (Nat.not_lt.2 c26)
    try have aKp:(9223372036854775807<ik.size+dI.size)=False:=eq_false (by have h_:=c26;have l1_:(⟨#[46]⟩:ByteArray).size=1:=rfl;have l2_:(⟨#[48,46]⟩:ByteArray).size=2:=rfl;have l3_:(⟨#[101]⟩:ByteArray).size=1:=rfl;(try simp only [ByteArray.size_append,ByteArray.size_extract] at h_);omega)
    try have aKq:(9223372036854775807<ik.size+dI.size)=False:=eq_false (by have h_:=c26;have l1_:(⟨#[46]⟩:ByteArray).size=1:=rfl;have l2_:(⟨#[48,46]⟩:ByteArray).size=2:=rfl;have l3_:(⟨#[101]⟩:ByteArray).size=1:=rfl;(try simp only [ByteArray.size_append,ByteArray.size_extract] at h_);omega)
    replace H:=zo H
    obtain ⟨Ic,A27,H⟩:=H
    replace H:=zi H
    obtain ⟨c28,H⟩:=H
    have xq:=eq_true c28
    have Yi:decide ((ik ++ dI).size+Ic.size≤9223372036854775807)=true:=decide_eq_true c28
    try have aE9:(9223372036854775807<(ik ++ dI).size+Ic.size)=False:=eq_false (Nat.not_lt.2 c28)
    try have aKr:(9223372036854775807<ik.size+dI.size+Ic.size)=False:=eq_false (by have h_:=c28;have l1_:(⟨#[46]⟩:ByteArray).size=1:=rfl;have l2_:(⟨#[48,46]⟩:ByteArray).size=2:=rfl;have l3_:(⟨#[101]⟩:ByteArray).size=1:=rfl;(try simp only [ByteArray.size_append,ByteArray.size_extract] at h_);omega)
    try have aKs:(9223372036854775807<ik.size+dI.size+Ic.size)=False:=eq_false (by have h_:=c28;have l1_:(⟨#[46]⟩:ByteArray).size=1:=rfl;have l2_:(⟨#[48,46]⟩:ByteArray).size=2:=rfl;have l3_:(⟨#[101]⟩:ByteArray).size=1:=rfl;(try simp only [ByteArray.size_append,ByteArray.size_extract] at h_);omega)
    obtain ⟨rfl,rfl⟩:=zJ2 H
    obtain ⟨_,_,_,_,_,_,_,_⟩:=zf4 bF
    go_wp2_with (first|(go_at_call 112;(with_reducible refine (bC.calls _ _ _ _ A27.out).mono ?_);rintro e w' ⟨rfl,⟨nd,rfl⟩⟩;(try first|exact ⟨rfl,_,World.drewN_drewN _ _ _⟩|exact ⟨rfl,_,Eq.trans (World.drewN_drewN _ _ _) (congrArg (World.drewN _) (Nat.add_assoc _ _ _))⟩)))
    repeat (go_quiet (first|(go_at_call 112;(with_reducible refine (bC.calls ag2 oq Ic _ A27.out).mono ?_);rintro e w' ⟨rfl,⟨nd,rfl⟩⟩;(try first|exact ⟨rfl,_,World.drewN_drewN _ _ _⟩|exact ⟨rfl,_,Eq.trans (World.drewN_drewN _ _ _) (congrArg (World.drewN _) (Nat.add_assoc _ _ _))⟩)));try go_wp2_with (first|(go_at_call 112;(with_reducible refine (bC.calls ag2 oq Ic _ A27.out).mono ?_);rintro e w' ⟨rfl,⟨nd,rfl⟩⟩;(try first|exact ⟨rfl,_,World.drewN_drewN _ _ _⟩|exact ⟨rfl,_,Eq.trans (World.drewN_drewN _ _ _) (congrArg (World.drewN _) (Nat.add_assoc _ _ _))⟩))))
    go_ret2
    exact ⟨z2,zB HB⟩
 replace H:=zb1 H
 obtain ⟨rfl,rfl⟩:=zJ2 H
 rotate_left
 all_goals (go_enter Tryz.func55,Tryz.ntmps55;go_wp2_with (first|((with_reducible refine ay (N:=1) rfl ?_);refine zx 1 23 #[.bool dW, .bool dK, .string gI, .int .i64 gW] ?_;intro wE hg w6 hbox hb;have bF:=am (hbox);have Eb:=zG hg HB;have Ec:=zG hg HB;replace HB:=zBs HB hb;clear hb hbox hg;obtain ⟨_,_,_,_,_,_,_,_⟩:=zf4 bF)|(go_at_call 28;(with_reducible refine (bW.calls _ _ _ _ _ _ _ A2.out).mono ?_);rintro e w8 ⟨rfl,hb⟩;replace bF:=zKb bF hb;replace HB:=zBs HB hb;clear hb;obtain ⟨_,_,_,_,_,_,_,_⟩:=zf4 bF)|(go_at_call 72;(with_reducible refine (ah.calls _ _ _ _ _ _ _ _ _ _ A4.out).mono ?_);rintro e w10 ⟨rfl,hb⟩;replace bF:=zKb bF hb;replace HB:=zBs HB hb;clear hb;obtain ⟨_,_,_,_,_,_,_,_⟩:=zf4 bF)))
 ·repeat (go_quiet (first|((with_reducible refine ay (N:=1) rfl ?_);refine zx 1 23 #[.bool dW, .bool dK, .string gI, .int .i64 gW] ?_;intro wE hg w6 hbox hb;have n0_:=zBs HB hb;have n1_:=am (hbox);have n2_:=zG hg HB;have n3_:=zG hg HB;clear HB;have HB:=n0_;have bF:=n1_;have Eb:=n2_;have Ec:=n3_;clear n0_ n1_ n2_ n3_;clear hb hbox hg;obtain ⟨_,_,_,_,_,_,_,_⟩:=zf4 bF)|(go_at_call 28;(with_reducible refine (bW.calls k dW dK gI gW false _ A2.out).mono ?_);rintro e w8 ⟨rfl,hb⟩;have n0_:=zKb bF hb;have n1_:=zBs HB hb;clear bF;clear HB;have bF:=n0_;have HB:=n1_;clear n0_ n1_;(try clear hb);(try clear hb2);(try clear hk);(try clear hi)));try go_wp2_with (first|((with_reducible refine ay (N:=1) rfl ?_);refine zx 1 23 #[.bool dW, .bool dK, .string gI, .int .i64 gW] ?_;intro wE hg w6 hbox hb;have n0_:=zBs HB hb;have n1_:=am (hbox);have n2_:=zG hg HB;have n3_:=zG hg HB;clear HB;have HB:=n0_;have bF:=n1_;have Eb:=n2_;have Ec:=n3_;clear n0_ n1_ n2_ n3_;clear hb hbox hg;obtain ⟨_,_,_,_,_,_,_,_⟩:=zf4 bF)|(go_at_call 28;(with_reducible refine (bW.calls k dW dK gI gW false _ A2.out).mono ?_);rintro e w8 ⟨rfl,hb⟩;have n0_:=zKb bF hb;have n1_:=zBs HB hb;clear bF;clear HB;have bF:=n0_;have HB:=n1_;clear n0_ n1_;(try clear hb);(try clear hb2);(try clear hk);(try clear hi))))
  go_ret2
  exact ⟨z2,zB HB⟩
 repeat (go_quiet (first|((with_reducible refine ay (N:=1) rfl ?_);refine zx 1 23 #[.bool dW, .bool dK, .string gI, .int .i64 gW] ?_;intro wE hg w6 hbox hb;have n0_:=zBs HB hb;have n1_:=am (hbox);have n2_:=zG hg HB;have n3_:=zG hg HB;clear HB;have HB:=n0_;have bF:=n1_;have Eb:=n2_;have Ec:=n3_;clear n0_ n1_ n2_ n3_;clear hb hbox hg;obtain ⟨_,_,_,_,_,_,_,_⟩:=zf4 bF)|(go_at_call 28;(with_reducible refine (bW.calls k dW dK gI gW true _ A2.out).mono ?_);rintro e w8 ⟨rfl,hb⟩;have n0_:=zKb bF hb;have n1_:=zBs HB hb;clear bF;clear HB;have bF:=n0_;have HB:=n1_;clear n0_ n1_;(try clear hb);(try clear hb2);(try clear hk);(try clear hi);obtain ⟨_,_,_,_,_,_,_,_⟩:=zf4 bF)|(go_at_call 72;(with_reducible refine (ah.calls k dW dK gI gW true y7 dI oq _ A4.out).mono ?_);rintro e w10 ⟨rfl,hb⟩;have n0_:=zKb bF hb;have n1_:=zBs HB hb;clear bF;clear HB;have bF:=n0_;have HB:=n1_;clear n0_ n1_;(try clear hb);(try clear hb2);(try clear hk);(try clear hi);obtain ⟨_,_,_,_,_,_,_,_⟩:=zf4 bF));try go_wp2_with (first|((with_reducible refine ay (N:=1) rfl ?_);refine zx 1 23 #[.bool dW, .bool dK, .string gI, .int .i64 gW] ?_;intro wE hg w6 hbox hb;have n0_:=zBs HB hb;have n1_:=am (hbox);have n2_:=zG hg HB;have n3_:=zG hg HB;clear HB;have HB:=n0_;have bF:=n1_;have Eb:=n2_;have Ec:=n3_;clear n0_ n1_ n2_ n3_;clear hb hbox hg;obtain ⟨_,_,_,_,_,_,_,_⟩:=zf4 bF)|(go_at_call 28;(with_reducible refine (bW.calls k dW dK gI gW true _ A2.out).mono ?_);rintro e w8 ⟨rfl,hb⟩;have n0_:=zKb bF hb;have n1_:=zBs HB hb;clear bF;clear HB;have bF:=n0_;have HB:=n1_;clear n0_ n1_;(try clear hb);(try clear hb2);(try clear hk);(try clear hi);obtain ⟨_,_,_,_,_,_,_,_⟩:=zf4 bF)|(go_at_call 72;(with_reducible refine (ah.calls k dW dK gI gW true y7 dI oq _ A4.out).mono ?_);rintro e w10 ⟨rfl,hb⟩;have n0_:=zKb bF hb;have n1_:=zBs HB hb;clear bF;clear HB;have bF:=n0_;have HB:=n1_;clear n0_ n1_;(try clear hb);(try clear hb2);(try clear hk);(try clear hi);obtain ⟨_,_,_,_,_,_,_,_⟩:=zf4 bF)))
 go_ret2
 exact ⟨z2,zB HB⟩
end Go.Proofs.Yy.PTx
end
