/- Part 23. -/
import Derived.Test.YtpfnkbnepcchgaaGreatDoorKTPV
set_option linter.unusedSimpArgs false
set_option linter.unusedVariables false
section
set_option maxHeartbeats 8000000
set_option maxRecDepth 100000
namespace Go.Proofs.Yy.PTx
open Go.RowKit Go.Proofs.Yy.Z Go.Proofs.Yw.PrintWords Go.Proofs.Yw.PrintLast Go.Proofs.Yw.PrintMore
open Go.Proofs.Yy.M
attribute [local go_sem] dG dP kR kT kW kS
attribute [local go_sem] gI gG iP iR fF fG gW gV
mutual
def ah.j0:Nat→ByteArray→Bool→Option (Bool × Bool × ByteArray × Int × Int × Int)
  | 0,_,_=>none
  | k+1,x0,x25=>if x25=true then ((dB.f k x0).bind fun Qz=>(some (Qz.1,Qz.2.1,Qz.2.2.1,Qz.2.2.2.1,Qz.2.2.2.2.1,Qz.2.2.2.2.2))) else ((dL.f x0 0 43 45).bind fun al0=>(if al0=true then (ah.j1 k x0 1) else (ah.j1 k x0 0)))
def ah.j1:Nat→ByteArray→Int→Option (Bool × Bool × ByteArray × Int × Int × Int)
  | 0,_,_=>none
  | k+1,x0,x5=>(bF.f k x0 x5).bind fun yD=>(if yD=x5 then (some (false,false,(⟨#[]⟩:ByteArray),0,14,yD)) else (if 0≤x5 then (if x5≤yD then (if yD≤(x0.size:Int) then ((dL.f x0 yD 46 46).bind fun al1=>(if al1=true then ((bF.f k x0 (wrap64 (yD+1))).bind fun KD=>(if KD=(wrap64 (yD+1)) then (some (false,false,(⟨#[]⟩:ByteArray),0,14,KD)) else (if 0≤(wrap64 (yD+1)) then (if (wrap64 (yD+1))≤KD then (if KD≤(x0.size:Int) then (if (x0.extract (x5:Int).toNat (yD:Int).toNat).size+(x0.extract ((wrap64 (yD+1)):Int).toNat (KD:Int).toNat).size≤9223372036854775807 then (ah.j2 k x0 KD ((x0.extract (x5:Int).toNat (yD:Int).toNat)++(x0.extract ((wrap64 (yD+1)):Int).toNat (KD:Int).toNat)) (wrap64 ((wrap64 (KD-yD))-1))) else (none)) else (none)) else (none)) else (none)))) else (ah.j2 k x0 yD (x0.extract (x5:Int).toNat (yD:Int).toNat) 0))) else (none)) else (none)) else (none)))
def ah.j2:Nat→ByteArray→Int→ByteArray→Int→Option (Bool × Bool × ByteArray × Int × Int × Int)
  | 0,_,_,_,_=>none
  | k+1,x0,x6,x7,x8=>(dL.f x0 x6 101 69).bind fun al2=>(if al2=true then ((dL.f x0 (wrap64 (x6+1)) 43 45).bind fun al3=>(if al3=true then (ah.j3 k x0 x6 x7 x8 (wrap64 ((wrap64 (x6+1))+1))) else (ah.j3 k x0 x6 x7 x8 (wrap64 (x6+1))))) else (ah.j4 k x0 x6 x7 x8 0))
def ah.j4:Nat→ByteArray→Int→ByteArray→Int→Int→Option (Bool × Bool × ByteArray × Int × Int × Int)
  | 0,_,_,_,_,_=>none
  | k+1,x0,x6,x7,x8,x10=>if x6<(x0.size:Int) then (some (false,false,(⟨#[]⟩:ByteArray),0,14,x6)) else (if 0<(x0.size:Int) then ((iK.f (wrap64 (x10-x8))).bind fun afA=>((ak.f k false ((bt x0 0) == 45) x7 afA).bind fun Zg=>(some (Zg.1,Zg.2.1,Zg.2.2.1,Zg.2.2.2,0,0)))) else (none))
def ah.j3:Nat→ByteArray→Int→ByteArray→Int→Int→Option (Bool × Bool × ByteArray × Int × Int × Int)
  | 0,_,_,_,_,_=>none
  | k+1,x0,x6,x7,x8,x11=>(bF.f k x0 x11).bind fun WR=>(if WR=x11 then (some (false,false,(⟨#[]⟩:ByteArray),0,14,WR)) else (if 0≤x11 then (if x11≤WR then (if WR≤(x0.size:Int) then ((dF.f k (x0.extract (x11:Int).toNat (WR:Int).toNat)).bind fun akT=>(if 0≤(wrap64 (x6+1)) then (if (wrap64 (x6+1))<(x0.size:Int) then (if (bt x0 (wrap64 (x6+1)))=45 then (ah.j4 k x0 WR x7 x8 (wrap64 (-akT))) else (ah.j4 k x0 WR x7 x8 akT)) else (none)) else (none))) else (none)) else (none)) else (none)))
end
def ah.f (k:Nat)(a0:ByteArray):Option (Bool × Bool × ByteArray × Int × Int × Int):=if (a0.size:Int) > 4096 then (some (false,false,(⟨#[]⟩:ByteArray),0,13,0)) else (if (a0.size:Int) > 0 then (if 0<(a0.size:Int) then (ah.j0 k a0 ((bt a0 0) == 110)) else (none)) else (ah.j0 k a0 false))
def ah.T34:Bool × List (List Nat × List Nat):=(true,[([],[]),([0],[0]),([1],[1]),([],[]),([],[]),([],[]),([4,5],[4,5]),([6],[6]),([2,3,7],[2,3,7]),([],[]),([9,8,7,0,1,2,3,4,5,6,7,8,9],[8,9])])
def ah.B34:List Nat := [0,1,3,0,0,0,48,112,255,0,1023]
theorem ah.amo:rG .any (opsOf Tryz.f77 34)=ah.T34:=by kernel_rfl
theorem ah.agc:jb ah.T34.2 ah.B34=true:=by kernel_rfl
theorem ah.calls (k:Nat)(a0:ByteArray)(r1:Bool)(r2:Bool)(r3:ByteArray)(r4:Int)(r5:Int)(r6:Int)(w:World)(h:ah.f k a0=some (r1,r2,r3,r4,r5,r6)) :
    Calls Tryz.prog 77 #[.string a0] w fun e w'=>e=.returned (.tuple #[.agg #[.bool r1,.bool r2,.string r3,.int .i64 r4],.int .i64 r5,.int .i64 r6])∧Below w.heap.size w w':=by
 have PS:=Tryz.underlying23;have HB:=am (Below.refl w.heap.size w);have H:=am h;unfold ah.f at H;clear h;replace H:=zs H;rcases H with⟨c2,H⟩|⟨c2,H⟩
 ·have ry:decide (4096<(a0.size:Int))=true:=decide_eq_true c2
  have IM:decide (4096<a0.size)=true:=decide_eq_true (by omega);clear c2;obtain⟨rfl,rfl,rfl,rfl,rfl,rfl⟩:=zJ6 H
  go_enter Tryz.func77,Tryz.ntmps77
  go_wp2_with (first|((with_reducible refine aI (N:=2) rfl ?_);refine zx 2 23 #[.bool false,.bool false,.string (⟨#[]⟩:ByteArray),.int .i64 0] ?_;intro sW hg w3 hbox hb;have jf:=am (hbox);have atF:=zG hg HB;have atG:=zG hg HB;replace HB:=zBs HB hb;clear hb hbox hg;obtain⟨_,_,_,_,_,_,_,_⟩:=zf4 jf))
  refine bodyPost_ret (jL rfl _ _ sW 23 #[.bool false,.bool false,.string (⟨#[]⟩:ByteArray),.int .i64 0] (0,0) _ rfl (zKp jf) Tryz.underlying23 rfl (by kernel_rfl)) rfl ?_;exact⟨z2,zB HB⟩
 have ry:decide (4096<(a0.size:Int))=false:=decide_eq_false c2;have IM:decide (4096<a0.size)=false:=decide_eq_false (by omega);clear c2
 go_enter Tryz.func77,Tryz.ntmps77
 go_upto_region 3 with (first|((with_reducible refine aI (N:=2) rfl ?_);refine zx 2 23 #[.bool false,.bool false,.string (⟨#[]⟩:ByteArray),.int .i64 0] ?_;intro sW hg w6 hbox hb;have jf:=am (hbox);have atF:=zG hg HB;have atG:=zG hg HB;replace HB:=zBs HB hb;clear hb hbox hg))
 (try simp only[Act.put,List.setIfInBounds_toArray,List.set_cons_zero,List.set_cons_succ])
 go_cut [25] (fun v25 wc => ∃ (kq:Nat) (Zh:Bool),v25=.bool Zh∧ae (ah.j0 kq a0 Zh=some (r1,r2,r3,r4,r5,r6))∧ae (kq≤k)∧ae (wc.heap[sW]? = some (.cells #[.bool false,.bool false,.string (⟨#[]⟩:ByteArray),.int .i64 0] 23 (0,0)))∧ae (Below w.heap.size w wc))
 case first =>
  replace H:=zs H;rcases H with⟨c7,H⟩|⟨c7,H⟩;have wz:decide (0<(a0.size:Int))=true:=decide_eq_true c7;have Bi:decide (0<a0.size)=true:=decide_eq_true (by omega);clear c7
  (first|rw[wz]|(simp only[cu,fQ];rw[wz])|rw[Bi]|skip)
  replace H:=zi H;obtain⟨c8,H⟩:=H;have sO:decide (0<(a0.size:Int))=true:=decide_eq_true c8;have Ap:decide (0<a0.size)=true:=decide_eq_true (by omega);clear c8
  have p9:0≤(0:Int):=(by omega)
  have q9:0<a0.size:=(by have:(0:Int)<(a0.size:Int):=zD;omega)
  have hx9:∀ h:0<a0.size,((a0[0]'h).toNat:Int)=bt a0 0:=mi a0 0;clear p9;have qi9:(0<(a0.size:Int))=True:=eq_true (zD);replace q9:=eq_true q9;rotate_left;have wz:decide (0<(a0.size:Int))=false:=decide_eq_false c7;have Bi:decide (0<a0.size)=false:=decide_eq_false (by omega);clear c7
  (first|rw[wz]|(simp only[cu,fQ];rw[wz])|rw[Bi]|skip)
  rotate_left
  all_goals (go_wp2)
  ·go_meet
   case rel=>exact⟨_,(((bt a0 0) == 110)),z1,H,⟨z5⟩,⟨zK jf⟩,⟨zB HB⟩⟩
  go_meet
  case rel=>exact⟨_,(false),z1,H,⟨z5⟩,⟨zK jf⟩,⟨zB HB⟩⟩
 case rest =>
  try clear hx9
  try clear qi9
  obtain⟨kq,Zh,rfl,H,HJ4,jf,HB⟩:=hcut;obtain _|kj4:=kq
  ·exact zz H rfl
  simp only[ah.j0]at H
  cases Zh
  ·replace H:=zb0 H
   replace H:=zo H;obtain⟨al0,A14,H⟩:=H
   go_upto_if 32 with (first|((with_reducible refine af (f:=130) rfl ?_);refine jS (some 32) rfl rfl Tryz.func130 (by kernel_rfl) rfl #[.string a0,.int .i64 0,.int .u8 43,.int .u8 45] rfl (by (try simp only[List.map_toArray,List.map_cons,List.map_nil]);first|done|rfl|(simp only[List.length_drop,List.length_take];rfl)) ?_;(with_reducible refine (dL.calls a0 0 43 45 al0 _ A14.out).mono ?_);rintro e w' ⟨rfl,⟨nd,rfl⟩⟩;refine⟨_,rfl,?_⟩))
   (try simp only[Act.put,List.setIfInBounds_toArray,List.set_cons_zero,List.set_cons_succ])
   go_cut [5] (fun v5 wc => ∃ (kq:Nat) (Eu:Int),v5=.int .i64 Eu∧ae (ah.j1 kq a0 Eu=some (r1,r2,r3,r4,r5,r6))∧ae (kq≤kj4)∧ae (wc.heap[sW]? = some (.cells #[.bool false,.bool false,.string (⟨#[]⟩:ByteArray),.int .i64 0] 23 (0,0)))∧ae (Below w.heap.size w wc))
   case first =>
    cases al0
    replace H:=zb0 H;rotate_left;replace H:=zb1 H;rotate_left
    all_goals (go_wp2)
    ·go_meet
     case rel=>exact⟨_,(0),z1,H,⟨by have:=HJ4.out;first|omega|exact Nat.le_refl _⟩,⟨zK jf⟩,⟨zB HB⟩⟩
    go_meet
    case rel=>exact⟨_,(1),z1,H,⟨by have:=HJ4.out;first|omega|exact Nat.le_refl _⟩,⟨zK jf⟩,⟨zB HB⟩⟩
   case rest =>
    try clear hx9
    try clear qi9
    obtain⟨kq,Eu,rfl,H,ae0,jf,HB⟩:=hcut;obtain _|ax6:=kq
    ·exact zz H rfl
    simp only[ah.j1]at H;replace H:=zo H;obtain⟨yD,A17,H⟩:=H;replace H:=zsk H;rcases H with⟨PY,acU,H⟩|⟨PY,acU,c18,H⟩
    ·obtain⟨rfl,rfl,rfl,rfl,rfl,rfl⟩:=zJ6 H
     go_wp2_with (first|((with_reducible refine af (f:=66) rfl ?_);refine zc (some 35) Tryz.func66 _ (bF.calls _ _ _ _ _ A17.out) ?_;rintro e w' ⟨rfl,⟨nd,rfl⟩⟩;refine⟨_,rfl,?_⟩;(try (rw[fZ wc];generalize hq_:World.drewN wc _=wc;have n0_:ae (wc.heap[sW]? = some (.cells #[.bool false,.bool false,.string (⟨#[]⟩:ByteArray),.int .i64 0] 23 (0,0))):=⟨by rw[← hq_];exact (zK jf)⟩;have n1_:ae (Below w.heap.size w wc):=⟨by rw[← hq_];exact (zB HB)⟩;clear jf HB hq_;have jf:=n0_;have HB:=n1_;clear n0_ n1_));obtain⟨_,_,_,_,_,_,_,_⟩:=zf4 jf))
     refine bodyPost_ret (jL rfl _ _ sW 23 #[.bool false,.bool false,.string (⟨#[]⟩:ByteArray),.int .i64 0] (0,0) _ rfl (zKp jf) Tryz.underlying23 rfl (by kernel_rfl)) rfl ?_;exact⟨z2,zB HB⟩
    replace H:=zit H;obtain⟨Un,agO,H⟩:=H;replace H:=zit H;obtain⟨Am,Ym,H⟩:=H;replace H:=zit H;obtain⟨ac0,aFQ,H⟩:=H;replace H:=zo H;obtain⟨al1,A23,H⟩:=H
    go_upto_if 47 with (first|((with_reducible refine af (f:=66) rfl ?_);refine jS (some 35) rfl rfl Tryz.func66 (by kernel_rfl) rfl #[.string a0,.int .i64 Eu] rfl (by (try simp only[List.map_toArray,List.map_cons,List.map_nil]);first|done|rfl|(simp only[List.length_drop,List.length_take];rfl)) ?_;(with_reducible refine (bF.calls ax6 a0 Eu yD _ A17.out).mono ?_);rintro e w' ⟨rfl,⟨nd,rfl⟩⟩;refine⟨_,rfl,?_⟩)|((with_reducible refine af (f:=130) rfl ?_);refine jS (some 47) rfl rfl Tryz.func130 (by kernel_rfl) rfl #[.string a0,.int .i64 yD,.int .u8 46,.int .u8 46] rfl (by (try simp only[List.map_toArray,List.map_cons,List.map_nil]);first|done|rfl|(simp only[List.length_drop,List.length_take];rfl)) ?_;(with_reducible refine (dL.calls a0 yD 46 46 al1 _ A23.out).mono ?_);rintro e w' ⟨rfl,⟨nd,rfl⟩⟩;refine⟨_,rfl,?_⟩))
    (try simp only[Act.put,List.setIfInBounds_toArray,List.set_cons_zero,List.set_cons_succ])
    go_cut [6,7,8] (fun v6 v7 v8 wc => ∃ (kq:Nat) (AC:Int) (QA:ByteArray) (II:Int) (qw:Bool) (qx:Bool) (qy:ByteArray) (qA:Int),v6=.int .i64 AC∧v7=.string QA∧v8=.int .i64 II∧ae (ah.j2 kq a0 AC QA II=some (r1,r2,r3,r4,r5,r6))∧ae (kq≤ax6)∧ae (wc.heap[sW]? = some (.cells #[.bool qw,.bool qx,.string qy,.int .i64 qA] 23 (0,0)))∧ae (Below w.heap.size w wc))
    case first =>
     cases al1
     replace H:=zb0 H;rotate_left;replace H:=zb1 H;replace H:=zo H;obtain⟨KD,A26,H⟩:=H;replace H:=zsk H;rcases H with⟨DJ,P7,H⟩|⟨DJ,P7,c27,H⟩
     (first|rw[DJ]|(simp only[cu,fQ];rw[DJ])|rw[P7]|skip)
     obtain⟨rfl,rfl,rfl,rfl,rfl,rfl⟩:=zJ6 H;rotate_left
     (first|rw[DJ]|(simp only[cu,fQ];rw[DJ])|rw[P7]|skip)
     generalize Iq:(wrap64 (yD+1):Int)=J6 at H
     (try rw[Iq]at DJ)
     (try rw[Iq]at P7)
     (try rw[Iq]at A26)
     have ajh:(IntKind.i64.wrap (yD+1))=J6:=(cu _).trans Iq;replace H:=zit H;obtain⟨adn,aFR,H⟩:=H;replace H:=zit H;obtain⟨LU,acV,H⟩:=H;replace H:=zit H;obtain⟨ahU,aoZ,H⟩:=H;replace H:=zi H;obtain⟨c33,H⟩:=H;have ahV:=eq_true c33;have aFS:decide ((a0.extract (Eu:Int).toNat (yD:Int).toNat).size+(a0.extract ((J6):Int).toNat (KD:Int).toNat).size≤9223372036854775807)=true:=decide_eq_true c33
     try have aFT:(9223372036854775807<(a0.extract (Eu:Int).toNat (yD:Int).toNat).size+(a0.extract ((J6):Int).toNat (KD:Int).toNat).size)=False:=eq_false (Nat.not_lt.2 c33)
     try have aLM:(9223372036854775807<(a0.extract (Eu:Int).toNat (yD:Int).toNat).size+(a0.extract ((J6):Int).toNat (KD:Int).toNat).size)=False:=eq_false (by have h_:=c33;have l1_:(⟨#[46]⟩:ByteArray).size=1:=rfl;have l2_:(⟨#[48,46]⟩:ByteArray).size=2:=rfl;have l3_:(⟨#[101]⟩:ByteArray).size=1:=rfl;(try simp only[ByteArray.size_append,ByteArray.size_extract]at h_);omega)
     try have aLN:(9223372036854775807<(a0.extract (Eu:Int).toNat (yD:Int).toNat).size+(a0.extract ((J6):Int).toNat (KD:Int).toNat).size)=False:=eq_false (by have h_:=c33;have l1_:(⟨#[46]⟩:ByteArray).size=1:=rfl;have l2_:(⟨#[48,46]⟩:ByteArray).size=2:=rfl;have l3_:(⟨#[101]⟩:ByteArray).size=1:=rfl;(try simp only[ByteArray.size_append,ByteArray.size_extract]at h_);omega)
     rotate_left
     all_goals (go_wp2_with (first|((with_reducible refine af (f:=66) rfl ?_);refine zc (some 51) Tryz.func66 _ (bF.calls _ _ _ _ _ A26.out) ?_;rintro e w' ⟨rfl,⟨nd,rfl⟩⟩;refine⟨_,rfl,?_⟩;(try (rw[fZ wc];generalize hq_:World.drewN wc _=wc;have n0_:ae (wc.heap[sW]? = some (.cells #[.bool false,.bool false,.string (⟨#[]⟩:ByteArray),.int .i64 0] 23 (0,0))):=⟨by rw[← hq_];exact (zK jf)⟩;have n1_:ae (Below w.heap.size w wc):=⟨by rw[← hq_];exact (zB HB)⟩;clear jf HB hq_;have jf:=n0_;have HB:=n1_;clear n0_ n1_));obtain⟨_,_,_,_,_,_,_,_⟩:=zf4 jf)|((with_reducible refine af (f:=66) rfl ?_);refine jS (some 51) rfl rfl Tryz.func66 (by kernel_rfl) rfl #[.string a0,.int .i64 J6] rfl (by (try simp only[List.map_toArray,List.map_cons,List.map_nil]);first|done|(simp only[Iq];rfl)|rfl|(simp only[List.length_drop,List.length_take];rfl)) ?_;(with_reducible refine (bF.calls _ _ _ _ _ A26.out).mono ?_);rintro e w' ⟨rfl,⟨nd,rfl⟩⟩;refine⟨_,rfl,?_⟩)))
     ·go_meet
      case rel=>exact⟨_,(yD),(a0.extract (Eu:Int).toNat (yD:Int).toNat),(0),(false),(false),((⟨#[]⟩:ByteArray)),(0),z1,z1,z1,H,⟨by have:=HJ4.out;have:=ae0.out;first|omega|exact Nat.le_refl _⟩,⟨zK jf⟩,⟨zB HB⟩⟩
     ·refine bodyPost_ret (jL rfl _ _ sW 23 #[.bool false,.bool false,.string (⟨#[]⟩:ByteArray),.int .i64 0] (0,0) _ rfl (zKp jf) Tryz.underlying23 rfl (by kernel_rfl)) rfl ?_
      exact⟨z2,zB HB⟩
     go_meet
     case rel=>exact⟨_,(KD),((a0.extract (Eu:Int).toNat (yD:Int).toNat)++(a0.extract ((J6):Int).toNat (KD:Int).toNat)),(wrap64 ((wrap64 (KD-yD))-1)),(false),(false),((⟨#[]⟩:ByteArray)),(0),z1,(by first|rfl|(simp;done)|(simp only[← Iq] <;> (first|rfl|simp))|(simp[*];done)),z1,H,⟨by have:=HJ4.out;have:=ae0.out;first|omega|exact Nat.le_refl _⟩,⟨zK jf⟩,⟨zB HB⟩⟩
    case rest =>
     try clear hx9
     try clear qi9
     obtain⟨kq,AC,QA,II,qw,qx,qy,qA,rfl,rfl,rfl,H,akU,jf,HB⟩:=hcut;obtain _|ax7:=kq
     ·exact zz H rfl
     simp only[ah.j2]at H;replace H:=zo H;obtain⟨al2,A34,H⟩:=H
     go_upto_if 72 with (first|((with_reducible refine af (f:=130) rfl ?_);refine jS (some 72) rfl rfl Tryz.func130 (by kernel_rfl) rfl #[.string a0,.int .i64 AC,.int .u8 101,.int .u8 69] rfl (by (try simp only[List.map_toArray,List.map_cons,List.map_nil]);first|done|rfl|(simp only[List.length_drop,List.length_take];rfl)) ?_;(with_reducible refine (dL.calls a0 AC 101 69 al2 _ A34.out).mono ?_);rintro e w' ⟨rfl,⟨nd,rfl⟩⟩;refine⟨_,rfl,?_⟩))
     (try simp only[Act.put,List.setIfInBounds_toArray,List.set_cons_zero,List.set_cons_succ])
     go_cut [6,10] (fun v6 v10 wc => ∃ (kq:Nat) (ae1:Int) (Ew:Int) (xn:Bool) (xq:Bool) (xu:ByteArray) (xw:Int),v6=.int .i64 ae1∧v10=.int .i64 Ew∧ae (ah.j4 kq a0 ae1 QA II Ew=some (r1,r2,r3,r4,r5,r6))∧ae (kq≤ax7)∧ae (wc.heap[sW]? = some (.cells #[.bool xn,.bool xq,.string xu,.int .i64 xw] 23 (0,0)))∧ae (Below w.heap.size w wc))
     case first =>
      cases al2
      ·replace H:=zb0 H
       go_wp2
       go_meet
       case rel=>exact⟨_,(AC),(0),(qw),(qx),(qy),(qA),z1,z1,H,⟨by have:=HJ4.out;have:=ae0.out;have:=akU.out;first|omega|exact Nat.le_refl _⟩,⟨zK jf⟩,⟨zB HB⟩⟩
      replace H:=zb1 H;replace H:=zo H;obtain⟨al3,A37,H⟩:=H
      go_upto_if 77 with (first|((with_reducible refine af (f:=130) rfl ?_);refine jS (some 77) rfl rfl Tryz.func130 (by kernel_rfl) rfl #[.string a0,.int .i64 (wrap64 (AC+1)),.int .u8 43,.int .u8 45] rfl (by (try simp only[List.map_toArray,List.map_cons,List.map_nil]);first|done|rfl|(simp only[List.length_drop,List.length_take];rfl)) ?_;(with_reducible refine (dL.calls a0 (wrap64 (AC+1)) 43 45 al3 _ A37.out).mono ?_);rintro e w' ⟨rfl,⟨nd,rfl⟩⟩;refine⟨_,rfl,?_⟩))
      (try simp only[Act.put,List.setIfInBounds_toArray,List.set_cons_zero,List.set_cons_succ])
      go_cut [11] (fun v11 wc => ∃ (kq:Nat) (Wn:Int),v11=.int .i64 Wn∧ae (ah.j3 kq a0 AC QA II Wn=some (r1,r2,r3,r4,r5,r6))∧ae (kq≤ax7)∧ae (wc.heap[sW]? = some (.cells #[.bool qw,.bool qx,.string qy,.int .i64 qA] 23 (0,0)))∧ae (Below w.heap.size w wc))
      case first =>
       cases al3
       replace H:=zb0 H;rotate_left;replace H:=zb1 H;rotate_left
       all_goals (go_wp2)
       ·go_meet
        case rel=>exact⟨_,(wrap64 (AC+1)),z1,H,⟨by have:=HJ4.out;have:=ae0.out;have:=akU.out;first|omega|exact Nat.le_refl _⟩,⟨zK jf⟩,⟨zB HB⟩⟩
       go_meet
       case rel=>exact⟨_,(wrap64 ((wrap64 (AC+1))+1)),z1,H,⟨by have:=HJ4.out;have:=ae0.out;have:=akU.out;first|omega|exact Nat.le_refl _⟩,⟨zK jf⟩,⟨zB HB⟩⟩
      case rest =>
       try clear hx9
       try clear qi9
       obtain⟨kq,Wn,rfl,H,ax8,jf,HB⟩:=hcut;obtain _|aLO:=kq
       ·exact zz H rfl
       simp only[ah.j3]at H;replace H:=zo H;obtain⟨WR,A40,H⟩:=H;replace H:=zsk H;rcases H with⟨adY,ajk,H⟩|⟨adY,ajk,c41,H⟩;obtain⟨rfl,rfl,rfl,rfl,rfl,rfl⟩:=zJ6 H;rotate_left;replace H:=zit H;obtain⟨aFU,aFV,H⟩:=H;replace H:=zit H;obtain⟨aFW,aFX,H⟩:=H;replace H:=zit H;obtain⟨aFY,aFZ,H⟩:=H;replace H:=zo H;obtain⟨akT,A46,H⟩:=H;generalize ae2:(wrap64 (AC+1):Int)=al4 at H
       (try rw[ae2]at A40)
       (try rw[ae2]at A46)
       have ax9:(IntKind.i64.wrap (AC+1))=al4:=(cu _).trans ae2;replace H:=zid H;obtain⟨aqs,H⟩:=H;replace H:=zid H;obtain⟨aqt,H⟩:=H;replace H:=zsk H;rcases H with⟨atH,atI,H⟩|⟨atH,atI,c51,H⟩;rotate_left;rotate_left
       all_goals (go_wp2_with (first|((with_reducible refine af (f:=66) rfl ?_);refine zc (some 82) Tryz.func66 _ (bF.calls _ _ _ _ _ A40.out) ?_;rintro e w' ⟨rfl,⟨nd,rfl⟩⟩;refine⟨_,rfl,?_⟩;(try (rw[fZ wc];generalize hq_:World.drewN wc _=wc;have n0_:ae (wc.heap[sW]? = some (.cells #[.bool qw,.bool qx,.string qy,.int .i64 qA] 23 (0,0))):=⟨by rw[← hq_];exact (zK jf)⟩;have n1_:ae (Below w.heap.size w wc):=⟨by rw[← hq_];exact (zB HB)⟩;clear jf HB hq_;have jf:=n0_;have HB:=n1_;clear n0_ n1_));obtain⟨_,_,_,_,_,_,_,_⟩:=zf4 jf)|((with_reducible refine af (f:=66) rfl ?_);refine zc (some 82) Tryz.func66 _ (bF.calls _ _ _ _ _ A40.out) ?_;rintro e w' ⟨rfl,⟨nd,rfl⟩⟩;refine⟨_,rfl,?_⟩)|((with_reducible refine af (f:=131) rfl ?_);refine zc (some 92) Tryz.func131 _ (dF.calls _ _ _ _ A46.out) ?_;rintro e w' ⟨rfl,⟨nd,rfl⟩⟩;refine⟨_,rfl,?_⟩;have p50:0≤((al4):Int):=zD;have q50:(al4)<(a0.size:Int):=zD;have aF0:=mi a0 (al4);replace p50:=eq_true p50;replace q50:=eq_true q50)))
       ·refine bodyPost_ret (jL rfl _ _ sW 23 #[.bool false,.bool false,.string (⟨#[]⟩:ByteArray),.int .i64 0] (0,0) _ rfl (zKp jf) Tryz.underlying23 rfl (by kernel_rfl)) rfl ?_
        exact⟨z2,zB HB⟩
       ·go_meet
        case rel=>exact⟨_,(WR),(wrap64 (-akT)),(qw),(qx),(qy),(qA),z1,z1,H,⟨by have:=HJ4.out;have:=ae0.out;have:=akU.out;have:=ax8.out;first|omega|exact Nat.le_refl _⟩,⟨zK jf⟩,⟨zB HB⟩⟩
       go_meet
       case rel=>exact⟨_,(WR),(akT),(qw),(qx),(qy),(qA),z1,z1,H,⟨by have:=HJ4.out;have:=ae0.out;have:=akU.out;have:=ax8.out;first|omega|exact Nat.le_refl _⟩,⟨zK jf⟩,⟨zB HB⟩⟩
     case rest =>
      try clear hx5
      try clear hx9
      try clear qi9
      try clear aF0
      obtain⟨kq,ae1,Ew,xn,xq,xu,xw,rfl,rfl,H,aLP,jf,HB⟩:=hcut;obtain _|aLQ:=kq
      ·exact zz H rfl
      simp only[ah.j4]at H;replace H:=zsd H;rcases H with⟨atJ,H⟩|⟨atJ,H⟩
      ·obtain⟨rfl,rfl,rfl,rfl,rfl,rfl⟩:=zJ6 H
       obtain⟨_,_,_,_,_,_,_,_⟩:=zf4 jf
       go_wp2
       refine bodyPost_ret (jL rfl _ _ sW 23 #[.bool false,.bool false,.string (⟨#[]⟩:ByteArray),.int .i64 0] (0,0) _ rfl (zKp jf) Tryz.underlying23 rfl (by kernel_rfl)) rfl ?_;exact⟨z2,zB HB⟩
      replace H:=zi H;obtain⟨c54,H⟩:=H;have MN:decide (0<(a0.size:Int))=true:=decide_eq_true c54;have aF1:decide (0<a0.size)=true:=decide_eq_true (by omega);clear c54;replace H:=zo H;obtain⟨afA,A56,H⟩:=H;replace H:=zo H;obtain⟨⟨aF2,aF3,aF4,aF5⟩,A57,H⟩:=H
      try dsimp only at H
      obtain⟨rfl,rfl,rfl,rfl,rfl,rfl⟩:=zJ6 H
      try go_wp2
      replace jf:=am (dX jf.out);replace HB:=am (aX HB.out)
      have p55:0≤(0:Int):=(by omega)
      have q55:0<a0.size:=(by have:(0:Int)<(a0.size:Int):=zD;omega)
      have aB6:∀ h:0<a0.size,((a0[0]'h).toNat:Int)=bt a0 0:=mi a0 0;clear p55;have aLR:(0<(a0.size:Int))=True:=eq_true (zD);replace q55:=eq_true q55;refine lQ (n:=11) (S:=fun w'=>True) (ds := []) (Array.replicate 11 false) (by kernel_rfl) rfl rfl trivial (fun hHeld=>?_);refine gU ah.amo ah.agc (fun HT_ HW_=>?_);generalize wc.drew=w58 at jf HB hHeld ⊢;refine zp HT_ 0 (some 107) ?_;refine zp HT_ 3 (some 110) ?_;refine zp HT_ 4 (some 111) ?_;refine zp HT_ 5 (some 112) ?_;refine zp HT_ 6 (some 113) ?_;refine zt HT_ HW_ 1 (some 108) hHeld ?_;refine zp HT_ 2 (some 109) ?_;refine afE (σ:=Nat) 1 #[true,true,true,true,true,true,true,true,true,true,false] (fun s_ => [(114,.int .i64 afA),(13,.pointer (some ⟨s_,0,none⟩)),(115,.agg #[.bool false,.bool ((bt a0 0) == 45),.string QA,.int .i64 afA])]) (fun s_ w'=>(w'.heap[sW]? = some (.cells #[.bool xn,.bool xq,.string xu,.int .i64 xw] 23 (0,0)))∧(w'.heap[s_]? = some (.cells #[.bool false,.bool false,.string (⟨#[]⟩:ByteArray),.int .i64 0] 23 (0,0)))∧(w.heap.size≤s_)∧(w.heap.size≤s_)∧(sW≠s_)∧(s_≠sW)∧(Below w.heap.size w w')) ?_ ?_;rotate_left
      ·intro hCont
       refine aul (i:=7) (j:=9) (Ni:=some 114) (Nj:=some 13) #[true,true,true,true,true,true,true,true,false,false,false] #[true,true,true,true,true,true,true,false,false,true,false] rfl rfl rfl rfl (ZC HT_.out (by kernel_rfl)) (by decide) (by decide) (fun K hK=>?_) (fun K hK=>?_)
       ·skip
        refine o5 Tryz.func132 (by kernel_rfl) rfl #[.int .i64 (wrap64 (Ew-II))] (by rfl) rfl rfl (by (try simp only[List.map_toArray,List.map_cons,List.map_nil]);first|done|rfl|(simp only[List.length_drop,List.length_take];rfl)) ?_
        with_reducible refine (iK.calls (wrap64 (Ew-II)) afA _ A56.out).mono ?_
        rintro e w' ⟨rfl,⟨nd,rfl⟩⟩;refine⟨_,rfl,?_⟩;refine hK.out _ _ trivial (fun hHeld=>?_);clear hK K;refine lI (a':=?_) ?_ ?_;rotate_left
        ·show Act.put _ (some 114) _=_
         simp only[Act.put,List.setIfInBounds_toArray,List.set_cons_zero,List.set_cons_succ,cu,fQ]
         rfl
        refine zp HT_ 8 (some 115) ?_;refine zu HT_ 9 (some 13) (fun K hK=>?_);refine NT ?hg (N:=13) ?hd (cs:=#[.bool false,.bool false,.string (⟨#[]⟩:ByteArray),.int .i64 0]) (t:=23) ?hr ?_;(case hd=>rfl);(case hg=>rfl);(case hr=>first|(go_simp;done)|(go_simp;rfl));intro IJ hg w59 hbox hb;have yA:=am (hbox);have Zi:=zG hg HB;have Zj:=zG hg HB;replace HB:=zBs HB hb;have pW:=zNl hg jf;have pX:=zNg hg jf;replace jf:=zKb jf hb;clear hb hbox hg;refine hK.out _ _ trivial (fun hHeld=>?_);clear hK K;refine lI (a':=?_) ?_ ?_;rotate_left
        ·show Act.put _ (some 13) _=_
         simp only[Act.put,List.setIfInBounds_toArray,List.set_cons_zero,List.set_cons_succ,cu,fQ]
         rfl
        exact lI (by simp only[yI,Act.put,List.setIfInBounds_toArray,List.set_cons_zero,List.set_cons_succ]) (hCont (IJ) _ ⟨(zK jf),(zK yA),Zi.out,Zj.out,pW.out,pX.out,(zB HB)⟩)
       skip
       refine NT ?hg (N:=13) ?hd (cs:=#[.bool false,.bool false,.string (⟨#[]⟩:ByteArray),.int .i64 0]) (t:=23) ?hr ?_;(case hd=>rfl);(case hg=>rfl);(case hr=>first|(go_simp;done)|(go_simp;rfl));intro IJ hg w59 hbox hb;have yA:=am (hbox);have Zi:=zG hg HB;have Zj:=zG hg HB;replace HB:=zBs HB hb;have pW:=zNl hg jf;have pX:=zNg hg jf;replace jf:=zKb jf hb;clear hb hbox hg;refine hK.out _ _ trivial (fun hHeld=>?_);clear hK K;refine lI (a':=?_) ?_ ?_;rotate_left
       ·show Act.put _ (some 13) _=_
        simp only[Act.put,List.setIfInBounds_toArray,List.set_cons_zero,List.set_cons_succ,cu,fQ]
        rfl
       refine zu HT_ 7 (some 114) (fun K hK=>?_);refine o5 Tryz.func132 (by kernel_rfl) rfl #[.int .i64 (wrap64 (Ew-II))] (by rfl) rfl rfl (by (try simp only[List.map_toArray,List.map_cons,List.map_nil]);first|done|rfl|(simp only[List.length_drop,List.length_take];rfl)) ?_
       with_reducible refine (iK.calls (wrap64 (Ew-II)) afA _ A56.out).mono ?_
       rintro e w' ⟨rfl,⟨nd,rfl⟩⟩;refine⟨_,rfl,?_⟩;refine hK.out _ _ trivial (fun hHeld=>?_);clear hK K;refine lI (a':=?_) ?_ ?_;rotate_left
       ·show Act.put _ (some 114) _=_
        simp only[Act.put,List.setIfInBounds_toArray,List.set_cons_zero,List.set_cons_succ,cu,fQ]
        rfl
       refine zp HT_ 8 (some 115) ?_;exact lI (by simp only[yI,Act.put,List.setIfInBounds_toArray,List.set_cons_zero,List.set_cons_succ]) (hCont (IJ) _ ⟨(zK jf),(zK yA),Zi.out,Zj.out,pW.out,pX.out,(zB HB)⟩)
      rintro IJ w60 ⟨h0_,h1_,h2_,h3_,h4_,h5_,h6_⟩
      have n0_:ae (w60.heap[sW]? = some (.cells #[.bool xn,.bool xq,.string xu,.int .i64 xw] 23 (0,0))):=⟨h0_⟩
      have n1_:ae (w60.heap[IJ]? = some (.cells #[.bool false,.bool false,.string (⟨#[]⟩:ByteArray),.int .i64 0] 23 (0,0))):=⟨h1_⟩
      have n2_:ae (w.heap.size≤IJ):=⟨h2_⟩
      have n3_:ae (w.heap.size≤IJ):=⟨h3_⟩
      have n4_:ae (sW≠IJ):=⟨h4_⟩
      have n5_:ae (IJ≠sW):=⟨h5_⟩
      have n6_:ae (Below w.heap.size w w60):=⟨h6_⟩
      clear jf;clear HB;clear h0_ h1_ h2_ h3_ h4_ h5_ h6_;have jf:=n0_;have yA:=n1_;have Zi:=n2_;have Zj:=n3_;have pW:=n4_;have pX:=n5_;have HB:=n6_;clear n0_ n1_ n2_ n3_ n4_ n5_ n6_;have hHeld:=trivial;refine lI (a':=?_) ?_ ?_;rotate_left
      ·simp only[yI,Act.put,List.setIfInBounds_toArray,List.set_cons_zero,List.set_cons_succ]
       rfl
      refine zu HT_ 10 none (fun K hK=>?_);have aF6:=zl yA 0;have atK:=aj yA.out 0;have atL:=pW.out;have atM:=pX.out;have hs62:=zl yA 1;have aF7:=aj yA.out 1;have atN:=pW.out;have atO:=pX.out;have hs63:=zl yA 2;have aF8:=aj yA.out 2;have atP:=pW.out;have atQ:=pX.out;have aLS:=zl yA 3;have aF9:=aj yA.out 3;have atS:=pW.out;have atT:=pX.out;refine vW (w1:=?_) (by rfl) rfl ?_ ?_;rotate_left
      ·go_simp
       rfl
      refine hK.out _ _ trivial (fun hHeld=>?_);clear hK K;refine oU (iZ HT_.out (by kernel_rfl)) ?_;have aGa:=pX.out;have aGb:=pW.out;obtain⟨_,_,_,_,_,_,_,_⟩:=zf4 yA
      try go_wp2_with (first|((with_reducible refine af (f:=72) rfl ?_);refine zc (some 117) Tryz.func72 _ (ak.calls _ _ ((bt a0 0) == 45) _ _ _ _ _ _ _ A57.out) ?_;rintro e w67 ⟨rfl,hb⟩;refine⟨_,rfl,?_⟩;replace jf:=zKb jf hb;replace yA:=am (dW (zKp yA) hb);replace HB:=zBs HB hb;clear hb;obtain⟨_,_,_,_,_,_,_,_⟩:=zf4 jf))
      refine bodyPost_ret (jL rfl _ _ sW 23 #[.bool aF2,.bool aF3,.string aF4,.int .i64 aF5] (0,0) _ rfl (zKp jf) Tryz.underlying23 rfl (by kernel_rfl)) rfl ?_;exact⟨z2,zB HB⟩
  replace H:=zb1 H;replace H:=zo H;obtain⟨⟨aGc,aGd,aGe,aGf,aLT,aLU⟩,A11,H⟩:=H
  try dsimp only at H
  obtain⟨rfl,rfl,rfl,rfl,rfl,rfl⟩:=zJ6 H
  go_wp2_with (first|((with_reducible refine af (f:=129) rfl ?_);refine zc (some 27) Tryz.func129 _ (dB.calls _ _ _ _ _ _ _ _ _ A11.out) ?_;rintro e w12 ⟨rfl,hb⟩;refine⟨_,rfl,?_⟩;replace jf:=zKb jf hb;replace HB:=zBs HB hb;clear hb;obtain⟨_,_,_,_,_,_,_,_⟩:=zf4 jf))
  refine bodyPost_ret (jL rfl _ _ sW 23 #[.bool aGc,.bool aGd,.string aGe,.int .i64 aGf] (0,0) _ rfl (zKp jf) Tryz.underlying23 rfl (by kernel_rfl)) rfl ?_;exact⟨z2,zB HB⟩
def fP.f (k:Nat)(a0:Int)(a1:ByteArray):Option (Int × Int × Int):=(gu.f a0).bind fun atU=>(if atU=true then ((ah.f k a1).bind fun Nk=>(if Nk.2.2.2.2.1=0 then ((bV.f k a0 Nk.1 Nk.2.1 Nk.2.2.1 Nk.2.2.2.1).bind fun aya=>(some (aya,0,0))) else (some (0,Nk.2.2.2.2.1,Nk.2.2.2.2.2)))) else (some (0,2,0)))
theorem fP.calls (k:Nat)(a0:Int)(a1:ByteArray)(r1:Int)(r2:Int)(r3:Int)(w:World)(h:fP.f k a0 a1=some (r1,r2,r3)) :
    Calls Tryz.prog 34 #[.int .i64 a0,.string a1] w fun e w'=>e=.returned (.tuple #[.int .u64 r1,.int .i64 r2,.int .i64 r3])∧Below w.heap.size w w':=by
 have PS:=Tryz.underlying23;have HB:=am (Below.refl w.heap.size w);have H:=am h;unfold fP.f at H;clear h;replace H:=zo H;obtain⟨atU,A3,H⟩:=H
 cases atU
 replace H:=zb0 H;obtain⟨rfl,rfl,rfl⟩:=zJ3 H;rotate_left;replace H:=zb1 H;replace H:=zo H;obtain⟨⟨aLV,aLW,aLX,aLY,aLZ,aL0⟩,A5,H⟩:=H
 try dsimp only at H
 replace H:=zsk H;rcases H with⟨qm,zg,H⟩|⟨qm,zg,c6,H⟩;replace H:=zo H;obtain⟨aya,A7,H⟩:=H;obtain⟨rfl,rfl,rfl⟩:=zJ3 H;rotate_left;obtain⟨rfl,rfl,rfl⟩:=zJ3 H;rotate_left
 all_goals (go_enter Tryz.func34,Tryz.ntmps34;go_wp2_with (first|((with_reducible refine af (f:=36) rfl ?_);refine zc (some 12) Tryz.func36 _ (gu.calls _ _ _ A3.out) ?_;rintro e w' ⟨rfl,⟨nd,rfl⟩⟩;refine⟨_,rfl,?_⟩)|((with_reducible refine af (f:=77) rfl ?_);refine zc (some 17) Tryz.func77 _ (ah.calls _ _ _ _ _ _ _ _ _ A5.out) ?_;rintro e w8 ⟨rfl,hb⟩;refine⟨_,rfl,?_⟩;replace HB:=zBs HB hb;clear hb)|((with_reducible refine aI (N:=8) rfl ?_);refine zx 8 23 #[.bool false,.bool false,.string (⟨#[]⟩:ByteArray),.int .i64 0] ?_;intro aGg hg w9 hbox hb;have ae3:=am (hbox);have aGh:=zG hg HB;have aGi:=zG hg HB;replace HB:=zBs HB hb;clear hb hbox hg;obtain⟨_,_,_,_,_,_,_,_⟩:=zf4 ae3)|((with_reducible refine af (f:=45) rfl ?_);refine zc (some 27) Tryz.func45 _ (bV.calls _ _ _ _ _ _ _ _ A7.out) ?_;rintro e w11 ⟨rfl,hb⟩;refine⟨_,rfl,?_⟩;replace ae3:=am (dW (zKp ae3) hb);replace HB:=zBs HB hb;clear hb)))
 ·go_ret3
  exact⟨z2,zB HB⟩
 ·go_ret3
  exact⟨z2,zB HB⟩
 go_ret3
 exact⟨z2,zB HB⟩
end Go.Proofs.Yy.PTx
end
section
namespace Go.Proofs.Yy.PTx
open Go.RowKit Go.Proofs.Yw.PrintWords Go.Proofs.Yw.PrintLast Go.Proofs.Yw.PrintMore Go.Proofs.Yy.SC
def upB (s:ByteArray):ByteArray:=mkB (s.data.toList.set (s.size-1) (s.data.toList.getD (s.size-1) 0+1))
def rD.f (gy fU:Bool)(jC:ByteArray)(jB:Int):Option (Bool × Bool × ByteArray × Int):=if jC.data.toList≠[]∧jC.size≤1048576∧jC.data.toList.getD (jC.size-1) 0≠57 then some (gy,fU,upB jC,jB) else none
structure ae7 (w:World) (g:Nat) (l:List UInt8):Prop where
 cell:∀ (i:Nat) (h:i<l.length),w.cell? ⟨g,i,none⟩=some (.int .u8 ((l[i]'h).toNat:Int))
 frz:∀ i:Nat,i<l.length→w.frozen? ⟨g,i,none⟩=false
theorem ae7.set {w:World}{g:Nat}{l:List UInt8}(h:ae7 w g l)(i:Nat)(hi:i<l.length)(c:UInt8):ae7 (w.setCell ⟨g,i,none⟩ (.int .u8 (c.toNat:Int))) g (l.set i c):=by
 refine⟨fun j hj=>?_,fun j hj=>?_⟩
 ·rw[List.length_set]at hj
  by_cases e:i=j
  ·subst e
   rw[World.cell?_setCell_same' _ _ _ (by rw[h.cell i hi];rfl),List.getElem_set_self]
  ·rw[World.cell?_setCell_other (h:=by intro k;injection k with _ k;exact e k),h.cell j hj,List.getElem_set_ne e]
 ·rw[List.length_set]at hj
  rw[World.frozen?_setCell];exact h.frz j hj
theorem Yk (w:World)(e:TypeId)(s:ByteArray):ae7 (Lib.bytesWorld w e s) w.heap.size s.data.toList:=by
 refine⟨fun i hi=>?_,fun i hi=>?_⟩
 ·rw[Lib.bytesWorld_cell w e s i (by simpa using hi),List.getD_eq_getElem?_getD,List.getElem?_eq_getElem hi];rfl
 ·simp only[World.frozen?, Lib.bytesWorld_at_new]
  have h1:i<s.size:=by simpa using hi
  have h2:s.size≤(Lib.bytesCells w e s).size:=by simp[Lib.bytesCells]
  simp
  omega
theorem LG {P:Program}{w:World}{g cap:Nat}{l:List UInt8}(h:ae7 w g l)(src e dst:TypeId)(hs:P.underlying src=some (.slice e))(he:P.underlying e=some (.int .u8))(hd:P.underlying dst=some .string) :
  (convert src dst (.slice (some ⟨g,0,none⟩) l.length cap)).run P w=.ok (.string (mkB l)) w:=by
 have h2:=run_convert_bytes_arg (P:=P) (w:=w) src e hs he g 0 l.length cap (l.map fun c=>(c.toNat:Int)) (by simp) (fun i hi=>by
  rw[Nat.zero_add,h.cell i hi,List.getD_eq_getElem?_getD,List.getElem?_map,List.getElem?_eq_getElem hi];rfl) dst hd
 rw[h2]
 congr 2
 unfold strOfNums mkB
 congr 1
 rw[List.map_map]
 have:((fun n:Int=>UInt8.ofNat n.toNat) ∘ fun c:UInt8=>(c.toNat:Int))=id:=by funext c;simp
 rw[this,List.map_id]
theorem Dk (w:World)(e:TypeId)(s:ByteArray):Below w.heap.size w (Lib.bytesWorld w e s) :=
 ⟨rfl,rfl,rfl,by rw[Lib.bytesWorld_size];omega,fun i hi=>Lib.bytesWorld_at_old w e s i hi⟩
structure Abv (w w':World) (a b:Bool) (s:ByteArray) (e:Int) (l:List UInt8):Prop where
 b0:w'.heap[w.heap.size]? = some (.cells #[.bool a,.bool b,.string s,.int .i64 e] 23 (0,0))
 b1:w'.heap[w.heap.size+1]? = some (.cells #[.bool false,.bool false,.string ⟨#[]⟩,.int .i64 0] 23 (0,0))
 row:ae7 w' (w.heap.size+1+1) l
 bel:Below w.heap.size w w'
theorem Abv.set {w w':World}{a b:Bool}{s:ByteArray}{e:Int}{l:List UInt8}(h:Abv w w' a b s e l)(i:Nat)(hi:i<l.length)(c:UInt8):Abv w (w'.setCell ⟨w.heap.size+1+1,i,none⟩ (.int .u8 (c.toNat:Int))) a b s e (l.set i c) :=
 ⟨jy h.b0 (by show w.heap.size≠w.heap.size+1+1;omega) _,jy h.b1 (by show w.heap.size+1≠w.heap.size+1+1;omega) _,h.row.set i hi c,bQ h.bel (by omega)⟩
set_option maxHeartbeats 4000000 in
set_option maxRecDepth 100000 in
theorem OY (a0 a1:Bool)(s:ByteArray)(e0:Int)(w:World)(h0:s.data.toList≠[])(hs:s.size≤1048576)(c:UInt8)(hcl:c=s.data.toList.getD (s.size-1) 0)(h57:c≠57) :
  Calls Tryz.prog 56 #[.agg #[.bool a0,.bool a1,.string s,.int .i64 e0]] w fun e w'=>e=.returned (.agg #[.bool a0,.bool a1,.string (upB s),.int .i64 e0])∧Below w.heap.size w w':=by
 have hcv:∀ W:World,(convert 9 104 (.string s)).run Tryz.prog W=.ok (.slice (some ⟨W.heap.size,0,none⟩) s.size (grownCap W s.size 0 5)) (Lib.bytesWorld W 5 s):=fun W=>Lib.run_convert_string_bytes W _ _ _ s Tryz.underlying9 Tryz.underlying104 Tryz.underlying5
 have hp:0<s.size:=by
  have:=List.length_pos_iff.2 h0
  simpa using this
 have HU:=Lib.hid (show upB s=mkB (s.data.toList.set (s.size-1) (c+1)) by unfold upB;rw[hcl])
 have HC:=Lib.hid (show ∀ h:s.size-1<s.data.toList.length,s.data.toList[s.size-1]'h=c from fun h=>by
  rw[hcl,List.getD_eq_getElem?_getD,List.getElem?_eq_getElem h];rfl)
 clear hcl h0
 go_enter Tryz.func56,Tryz.ntmps56
 go_wp2
 go_loopw [4] (fun i w'=>i=.int .i64 ((s.size:Int)-1)∧ae (Abv w w' a0 a1 s e0 s.data.toList)) (fun i _=>(intOf i+1).toNat)
 case atStart =>
  refine⟨rfl,⟨?_⟩⟩;refine⟨?_,?_,?_,?_⟩
  ·rw[Lib.bytesWorld_at_old _ _ _ _ (by simp;omega)]
   exact kG (uJ w _) _
  ·rw[Lib.bytesWorld_at_old _ _ _ _ (by simp)]
   exact wZ (by simp)
  ·have h:=Yk ((w.alloc (.cells #[.bool a0,.bool a1,.string s,.int .i64 e0] 23)).alloc (.cells #[.bool false,.bool false,.string ⟨#[]⟩,.int .i64 0] 23)) 5 s
   simpa using h
  ·exact oJ (bD (bD (Below.refl _ _) _) _) (Dk _ _ _)
 case round =>
  obtain⟨rfl,HA⟩:=hrel;clear hcv
  obtain⟨v,hv⟩:∃ v:Int,(s.size:Int)-1=v:=⟨_,rfl⟩
  rw[hv]
  have hv0:0≤v:=by omega
  have hv2:v<(s.size:Int):=by omega
  have HT:=Lib.hid (show v.toNat<s.data.toList.length by simp;omega);have HV:=Lib.hid (show s.size-1=v.toNat by omega);have hval:=HA.out.row.cell v.toNat HT.out;have hfrz:=HA.out.row.frz v.toNat HT.out
  have hcc:s.data.toList[v.toNat]'HT.out=c:=by
   have h:=HC.out (by rw[HV.out];exact HT.out)
   simpa only [HV.out] using h
  rw[hcc]at hval;clear hcc hv
  have heq:((c.toNat:Int) == 57)=false:=by
   rw[beq_eq_false_iff_ne];intro h;exact h57 (UInt8.toNat_inj.1 (by show c.toNat=57;omega))
  have e9:((c.toNat:Int)+1) % 256=((c+1).toNat:Int):=by rw[UInt8.toNat_add];simp
  have E9:=Lib.hid e9;clear h57 e9
  go_upto_region 9 with (fail)
  go_cut [] (fun wc=>ae (Abv w wc a0 a1 s e0 (s.data.toList.set v.toNat (c+1))))
  case first =>
   go_wp2
   go_meet
   case rel =>
    refine⟨?_⟩;have h:=HA.out.set v.toNat HT.out (c+1);rw[← E9.out]at h;exact h
  case rest =>
  clear heq hfrz hval;have K:=hcut;clear hcut
  rename_i wc
  have hl':(s.data.toList.set v.toNat (c+1)).length=s.size:=by simp
  have hcs:∀ cap,(convert 104 9 (.slice (some ⟨w.heap.size+1+1,0,none⟩) s.size cap)).run Tryz.prog wc=.ok (.string (mkB (s.data.toList.set v.toNat (c+1)))) wc:=fun cap=>by
   have h:=LG (P:=Tryz.prog) (cap:=cap) K.out.row 104 5 9 Tryz.underlying104 Tryz.underlying5 Tryz.underlying9
   rwa [hl']at h
  have q0:∀ i,wc.cell? ⟨w.heap.size,i,none⟩=(_:Array Value)[i]?:=ag K.out.b0;have f0:∀ i,wc.frozen? ⟨w.heap.size,i,none⟩=false:=aj K.out.b0;have q1:∀ i,wc.cell? ⟨w.heap.size+1,i,none⟩=(_:Array Value)[i]?:=ag K.out.b1;have f1:∀ i,wc.frozen? ⟨w.heap.size+1,i,none⟩=false:=aj K.out.b1;clear hl'
  go_wp2
  refine bodyPost_ret (results_cell_row rfl _ _ (w.heap.size+1) 23 #[.bool a0,.bool a1,.string (mkB (s.data.toList.set v.toNat (c+1))),.int .i64 e0] (0,0) _ rfl ?blk Tryz.underlying23 rfl (by kernel_rfl)) rfl ⟨by rw[HU.out,HV.out],?_⟩
  case blk =>
   apply Eq.trans
   ·repeat (first|(with_reducible exact K.out.b1)|(with_reducible apply rY)|(with_reducible apply jy (hp:=Nat.ne_of_lt (Nat.lt_succ_self _)))|(with_reducible apply jy (hp:=Nat.ne_of_gt (Nat.lt_succ_self _))))
   ·rfl
  repeat (first|(with_reducible exact K.out.bel)|(with_reducible refine bQ ?_ (by first|exact Nat.le_refl _|exact Nat.le_succ _)))
theorem rD.calls (gy fU:Bool)(jC:ByteArray)(jB:Int)(r1 r2:Bool)(r3:ByteArray)(r4:Int)(w:World)(h:rD.f gy fU jC jB=some (r1,r2,r3,r4)) :
  Calls Tryz.prog 56 #[.agg #[.bool gy,.bool fU,.string jC,.int .i64 jB]] w fun e w'=>e=.returned (.agg #[.bool r1,.bool r2,.string r3,.int .i64 r4])∧Below w.heap.size w w':=by
 unfold rD.f at h
 split at h
 case isFalse=>cases h
 rename_i hc
 simp only[Option.some.injEq,Prod.mk.injEq]at h;obtain⟨rfl,rfl,rfl,rfl⟩:=h;exact OY gy fU jC jB w hc.1 hc.2.1 _ rfl hc.2.2
theorem acu {c:UInt8}:dg c=true ↔ (48≤(c.toNat:Int)∧(c.toNat:Int)≤57):=by
 unfold dg;simp only[Bool.and_eq_true,decide_eq_true_iff];omega
theorem acs (l:List UInt8)(hl:l.length≤9223372036854775807):∀ (d i:Nat),i+d=l.length→Ev (fun k=>bF.l0 k (mkB l) (i:Int)) ((i+ld (l.drop i):Nat):Int):=by
 intro d
 induction d with
 | zero =>
  intro i hi;refine Ev.step (f:=fun _=>some ((i+ld (l.drop i):Nat):Int)) (fun k=>?_) (Ev.now _);simp only[bF.l0];rw[if_neg (by rw[bH];omega),List.drop_eq_nil_iff.2 (by omega)]
  rfl
 | succ d ih =>
  intro i hi
  have hlt:i<l.length:=by omega
  have hb:=Bv hlt;have hd:=List.drop_eq_getElem_cons hlt
  by_cases hc:dg (l[i]'hlt)=true
  ·obtain⟨h1,h2⟩:=acu.1 hc
   have:=ih (i+1) (by omega);refine Ev.step (f:=fun k=>bF.l0 k (mkB l) ((i+1:Nat):Int)) (fun k=>?_) ?_
   ·simp only[bF.l0]
    rw[if_pos (by rw[bH];omega),if_pos (by omega),if_pos (by rw[hb];omega),if_pos (by rw[hb];omega),ja (by omega) (by omega)]
    rfl
   ·have e:i+ld (l.drop i)=i+1+ld (l.drop (i+1)):=by rw[hd,ld,if_pos hc];omega
    rw[e];exact this
  ·refine Ev.step (f:=fun _=>some ((i+ld (l.drop i):Nat):Int)) (fun k=>?_) (Ev.now _)
   have e:i+ld (l.drop i)=i:=by rw[hd,ld,if_neg hc];rfl
   rw[e];simp only[bF.l0];rw[if_pos (by rw[bH];omega),if_pos (by omega)]
   by_cases h1:(bt (mkB l) (i:Int))≥48
   ·rw[if_pos h1,if_neg]
    intro h2;exact hc (acu.2 ⟨by rw[hb]at h1;omega,by rw[hb]at h2;omega⟩)
   ·rw[if_neg h1]
theorem Ll (l:List UInt8)(i:Nat)(hi:i≤l.length)(hl:l.length≤9223372036854775807):Ev (fun k=>bF.f k (mkB l) (i:Int)) ((i+ld (l.drop i):Nat):Int) :=
 acs l hl (l.length-i) i (by omega)
theorem Rw (nar neg:Bool):∀ (n:Nat) (l:List UInt8) (e:Int),n=min (tz l) (nM-e).toNat→hd (· == 48) l=false→l≠[]→l.length≤9223372036854775807 → -1000000≤e→e≤1000000 →
  Ev (fun k=>ak.l1 k nar neg (mkB l) e) (nar,neg,mkB (l.take (l.length-n)),e+n):=by
 intro n
 induction n with
 | zero =>
  intro l e hn hh h0 hl he1 he2;have hp:=List.length_pos_iff.2 h0;have hm:nM=1000000:=rfl;refine Ev.step (f:=fun _=>some (nar,neg,mkB (l.take (l.length-0)),e+((0:Nat):Int))) (fun k=>?_) (Ev.now _);simp only[ak.l1];rw[Nat.sub_zero,List.take_length,show e+((0:Nat):Int)=e by omega,bH,ja (by omega) (by omega),if_pos (by omega),if_pos (by omega)]
  by_cases hz:tz l=0
  ·have hlast:l.getLast? ≠ some 48:=by
    intro h;rcases List.eq_nil_or_concat l with h2|⟨q,c,rfl⟩
    ·exact h0 h2
    ·have hc:c=48:=by simpa using h
     subst hc;have h3:=XX q;unfold tz at hz;rw[List.concat_eq_append,Dh,List.length_append]at hz;simp at hz
     omega
   rw[if_neg];intro hb
   apply hlast
   have e1:((l.length:Int)-1)=((l.length-1:Nat):Int):=by omega
   rw[e1,Bv (by omega:l.length-1<l.length)]at hb;rw[List.getLast?_eq_getElem?, List.getElem?_eq_getElem (by omega:l.length-1<l.length)]
   congr 1
   exact UInt8.toNat_inj.1 (by have:(48:UInt8).toNat=48:=rfl;omega)
  ·have:¬ e<1000000:=by omega
   by_cases hb:bt (mkB l) ((l.length:Int)-1)=48
   ·rw[if_pos hb,if_neg this]
   ·rw[if_neg hb]
 | succ n ih =>
  intro l e hn hh h0 hl he1 he2;have hp:=List.length_pos_iff.2 h0;have hm:nM=1000000:=rfl
  have hz:tz l≠0:=by omega
  obtain⟨q,c,rfl⟩:∃ q c,l=q ++ [c]:=by
   rcases List.eq_nil_or_concat l with h2|⟨q,c,h2⟩
   ·exact absurd h2 h0
   ·exact⟨q,c,by rw[h2,List.concat_eq_append]⟩
  have hc:c=48:=by
   by_cases hc:c=48
   ·exact hc
   ·exact absurd (aaC (by simpa using hc)) hz
  subst hc
  have hq0:q≠[]:=by
   rintro rfl;simp[hd]at hh
  have hlen:(q ++ [48]).length=q.length+1:=by simp
  have htz:tz (q ++ [48])=tz q+1:=by
   have:=XX q;unfold tz;rw[Dh,hlen];omega
  have hq:hd (· == 48) q=false:=by
   cases q with
   | nil=>exact absurd rfl hq0
   | cons a q=>exact hh
  have key:=ih q (e+1) (by rw[htz]at hn;omega) hq hq0 (by omega) (by omega) (by rw[htz]at hn;omega)
  have hb:bt (mkB (q ++ [48])) (((q ++ [48]).length:Int)-1)=48:=by
   have e1:(((q ++ [48]).length:Int)-1)=(q.length:Int):=by rw[hlen];omega
   rw[e1,Bv (by rw[hlen];omega)];simp
  have ew:wrap64 (((q ++ [48]).length:Int)-1)=((q ++ [48]).length:Int)-1:=ja (by omega) (by omega);refine Ev.step (f:=fun k=>ak.l1 k nar neg (mkB q) (e+1)) (fun k=>?_) ?_
  ·simp only[ak.l1]
   rw[bH,ew,if_pos (by omega),if_pos (by omega),if_pos hb,if_pos (by omega),if_pos (by omega),ja (n:=e+1) (by omega) (by omega)]
   have e2:(((q ++ [48]).length:Int)-1).toNat=q.length:=by rw[hlen];omega
   rw[e2,BR _ _ (by rw[hlen];omega),List.take_left' rfl]
  ·have e3:(q ++ [48]).take ((q ++ [48]).length-(n+1))=q.take (q.length-n):=by
    rw[hlen,show q.length+1-(n+1)=q.length-n by omega,List.take_append_of_le_length (by omega)]
   rw[e3,show e+((n+1:Nat):Int)=e+1+(n:Int) by omega];exact key
theorem RV (neg:Bool)(e:Int)(ds:List UInt8)(hl:ds.length≤9223372036854775807)(he1 : -1000000≤e)(he2:e≤1000000):∀ (d i:Nat),i+d=ds.length→lz (ds.drop i)=lz ds →
  Ev (fun k=>ak.l0 k (i:Int) false neg (mkB ds) e) (KN (nrm ⟨false,neg,ds,e⟩)):=by
 have stop:∀ i:Nat,i≤ds.length→ds.drop i=lz ds→Ev (fun k=>ak.j1 k (i:Int) false neg (mkB ds) e) (KN (nrm ⟨false,neg,ds,e⟩)):=by
  intro i hi hd;unfold KN nrm;simp only[Bool.false_eq_true,if_false]
  by_cases h0:lz ds=[]
  ·rw[if_pos h0]
   have:i=ds.length:=by rw[h0,List.drop_eq_nil_iff]at hd;omega
   refine Ev.step (f:=fun _=>some (false,false,mkB [48],0)) (fun k=>?_) (Ev.now _);simp only[ak.j1];rw[if_pos (by rw[bH,this])]
   rfl
  ·rw[if_neg h0]
   have hne:¬ (i:Int)=((mkB ds).size:Int):=by
    intro h;rw[bH]at h
    apply h0
    rw[← hd,List.drop_eq_nil_iff];omega
   have hll:=abV ds;refine Ev.step (f:=fun k=>ak.l1 k false neg (mkB (lz ds)) e) (fun k=>?_) (Rw false neg _ (lz ds) e rfl (ZO ds) h0 (by omega) he1 he2);simp only[ak.j1];rw[if_neg hne,if_pos (by omega),if_pos (by rw[bH];omega),Int.toNat_natCast,BP,hd]
 intro d
 induction d with
 | zero =>
  intro i hi hz;have hn:ds.drop i=[]:=List.drop_eq_nil_iff.2 (by omega);refine Ev.step (f:=fun k=>ak.j1 k (i:Int) false neg (mkB ds) e) (fun k=>?_) (stop i (by omega) (by rw[← hz,hn];rfl));simp only[ak.l0];rw[if_neg (by rw[bH];omega)]
 | succ d ih =>
  intro i hi hz
  have hlt:i<ds.length:=by omega
  have hb:=Bv hlt;have hdr:=List.drop_eq_getElem_cons hlt
  by_cases hc:ds[i]'hlt=48
  ·have hc2:bt (mkB ds) (i:Int)=48:=by rw[hb,hc];rfl
   refine Ev.step (f:=fun k=>ak.l0 k ((i+1:Nat):Int) false neg (mkB ds) e) (fun k=>?_) (ih (i+1) (by omega) ?_)
   ·simp only[ak.l0]
    rw[if_pos (by rw[bH];omega),if_pos (by omega),if_pos hc2,ja (by omega) (by omega)]
    rfl
   ·rw[← hz,hdr,hc]
    have:=FZ 1 (ds.drop (i+1))
    simpa using this.symm
  ·have hc2:¬ bt (mkB ds) (i:Int)=48:=by
    intro h;rw[hb]at h;exact hc (UInt8.toNat_inj.1 (by have:(48:UInt8).toNat=48:=rfl;omega))
   have hcb:((ds[i]'hlt) == 48)=false:=beq_eq_false_iff_ne.2 hc;refine Ev.step (f:=fun k=>ak.j1 k (i:Int) false neg (mkB ds) e) (fun k=>?_) (stop i (by omega) ?_)
   ·simp only[ak.l0]
    rw[if_pos (by rw[bH];omega),if_pos (by omega),if_neg hc2]
   ·rw[← hz]
    exact (agr (by rw[hdr];exact hcb)).symm
theorem JD (d:D)(hl:d.ds.length≤9223372036854775807)(he1 : -1000000≤d.e)(he2:d.e≤1000000):Ev (fun k=>ak.f k d.nar d.neg (mkB d.ds) d.e) (KN (nrm d)):=by
 obtain⟨nar,neg,ds,e⟩:=d
 cases nar with
 | true =>
  refine Ev.congr (fun k=>?_) (Ev.now _);simp only[ak.f,if_true]
  rfl
 | false =>
  refine Ev.congr (f:=fun k=>ak.l0 k ((0:Nat):Int) false neg (mkB ds) e) (fun k=>?_) (RV neg e ds hl he1 he2 ds.length 0 (by omega) (by rw[List.drop_zero]));simp only[ak.f,Bool.false_eq_true,if_false]
  rfl
end Go.Proofs.Yy.PTx
end
section
namespace Go.Proofs.Yy.PTx
open Go.RowKit Go.Proofs.Yw.PrintWords Go.Proofs.Yw.PrintLast Go.Proofs.Yw.PrintMore Go.Proofs.Yy.SC Go.Proofs.Yy.SR
abbrev RT:Type:=Bool × Bool × ByteArray × Int × Int × Int
def WB (p:Nat):RT:=(false,false,mkB [],0,14,(p:Int))
def okT (d:D):RT:=(d.nar,d.neg,mkB d.ds,d.e,0,0)
def outT (l:List UInt8):RT :=
 match vw l with
 | .long=>(false,false,mkB [],0,13,0)
 | .bad p=>WB p
 | .ok d=>okT d
theorem abM (l:List UInt8)(hl:l.length≤4096):∀ (d v:Nat),v+d=wordAt l→Ev (fun k=>dB.l0 k (mkB l) vz (v:Int)) (if wordAt l<3∨3<l.length then WB (wordAt l) else (true,false,mkB [],0,0,0)):=by
 obtain⟨sp1,sp2⟩:=Dt l;obtain⟨le1,le2⟩:=JR l;have hw3:(vz.size:Int)=3:=rfl;intro d
 induction d with
 | zero =>
  intro v hv
  obtain rfl:v=wordAt l:=by omega
  refine Ev.step (f:=fun _=>some (if wordAt l<3∨3<l.length then WB (wordAt l) else (true,false,mkB [],0,0,0))) (fun k=>?_) (Ev.now _);simp only[dB.l0,bH,hw3]
  by_cases h1:wordAt l<l.length
  ·rw[if_pos (by omega)]
   by_cases h2:wordAt l<3
   ·rw[if_pos (by omega),if_pos (by omega),if_neg (sp2 h2 h1),if_pos (.inl h2)]
    rfl
   ·rw[if_neg (by omega),if_pos (by omega),if_pos (.inr (by omega))]
    rfl
  ·rw[if_neg (by omega)]
   by_cases h2:wordAt l<3
   ·rw[if_pos (by omega),if_pos (.inl h2)]
    rfl
   ·rw[if_neg (by omega),if_neg (by omega),if_neg (by omega)]
    rfl
 | succ d ih =>
  intro v hv;obtain⟨h1,h2⟩:=sp1 v (by omega);refine Ev.step (f:=fun k=>dB.l0 k (mkB l) vz ((v+1:Nat):Int)) (fun k=>?_) (ih (v+1) (by omega));simp only[dB.l0,bH,hw3];rw[if_pos (by omega),if_pos (by omega),if_pos (by omega),if_pos h2,ja (by omega) (by omega)]
  rfl
theorem BO (l:List UInt8)(i:Nat)(a b:Int)(p:UInt8→Bool)(hp:∀ c:UInt8,p c=(if (c.toNat:Int)=a then true else ((c.toNat:Int) == b))):dL.f (mkB l) (i:Int) a b=some (hd p (l.drop i)):=by
 unfold dL.f
 by_cases h:i<l.length
 ·rw[if_pos (by rw[bH];omega),if_pos (by omega),Bv h,List.drop_eq_getElem_cons h]
  simp only[hd];rw[hp]
  split <;> rfl
 ·rw[if_neg (by rw[bH];omega),List.drop_eq_nil_iff.2 (by omega)]
  rfl
theorem auo (c:UInt8):sg c=(if (c.toNat:Int)=43 then true else ((c.toNat:Int) == 45)):=by
 have h:∀ n:Fin 256,sg (UInt8.ofNat n.val)=(if ((UInt8.ofNat n.val).toNat:Int)=43 then true else (((UInt8.ofNat n.val).toNat:Int) == 45)):=by decide +kernel
 have:=h ⟨c.toNat,c.toNat_lt⟩
 simpa using this
theorem ayz (c:UInt8):eb c=(if (c.toNat:Int)=101 then true else ((c.toNat:Int) == 69)):=by
 have h:∀ n:Fin 256,eb (UInt8.ofNat n.val)=(if ((UInt8.ofNat n.val).toNat:Int)=101 then true else (((UInt8.ofNat n.val).toNat:Int) == 69)):=by decide +kernel
 have:=h ⟨c.toNat,c.toNat_lt⟩
 simpa using this
theorem amj (c:UInt8):(c == 46)=(if (c.toNat:Int)=46 then true else ((c.toNat:Int) == 46)):=by
 have h:∀ n:Fin 256,((UInt8.ofNat n.val) == 46)=(if ((UInt8.ofNat n.val).toNat:Int)=46 then true else (((UInt8.ofNat n.val).toNat:Int) == 46)):=by decide +kernel
 have:=h ⟨c.toNat,c.toNat_lt⟩
 simpa using this
theorem WZ (E:List UInt8)(hE:E.all dg=true)(hl:E.length≤4096):∀ (d i acc:Nat),i+d=E.length→acc≤far→Ev (fun k=>dF.l0 k (mkB E) (acc:Int) (i:Int)) (((E.drop i).foldl ex acc:Nat):Int):=by
 intro d
 induction d with
 | zero =>
  intro i acc hi ha;refine Ev.step (f:=fun _=>some ((acc:Nat):Int)) (fun k=>?_) ?_
  ·simp only[dF.l0]
   rw[if_neg (by rw[bH];omega)]
  ·rw[List.drop_eq_nil_iff.2 (by omega)]
   exact Ev.now _
 | succ d ih =>
  intro i acc hi ha
  have hlt:i<E.length:=by omega
  have hb:=Bv hlt;have hdg:=List.all_eq_true.1 hE _ (List.getElem_mem hlt);obtain⟨h1,h2⟩:=acu.1 hdg;have hf:far=100000000:=rfl;have hx:ex acc (E[i]'hlt)≤far:=Nat.min_le_right _ _
  have e1:wrap64 (wrap64 (10*(acc:Int))+((bt (mkB E) (i:Int))-48) % 256)=10*(acc:Int)+(((E[i]'hlt).toNat:Int)-48):=by
   rw[hb,ja (n:=10*(acc:Int)) (by omega) (by omega),Int.emod_eq_of_lt (by omega) (by omega)];exact ja (by omega) (by omega)
  rw[List.drop_eq_getElem_cons hlt,List.foldl_cons];refine Ev.step (f:=fun k=>dF.l0 k (mkB E) ((ex acc (E[i]'hlt):Nat):Int) ((i+1:Nat):Int)) (fun k=>?_) (ih (i+1) _ (by omega) hx);simp only[dF.l0];rw[if_pos (by rw[bH];omega),if_pos (by omega),e1,ja (n:=(i:Int)+1) (by omega) (by omega)]
  by_cases hg:10*(acc:Int)+(((E[i]'hlt).toNat:Int)-48) > 100000000
  ·rw[if_pos hg]
   have:((ex acc (E[i]'hlt):Nat):Int)=100000000:=by unfold ex far;omega
   rw[this];rfl
  ·rw[if_neg hg]
   have:((ex acc (E[i]'hlt):Nat):Int)=10*(acc:Int)+(((E[i]'hlt).toNat:Int)-48):=by unfold ex far;omega
   rw[this];rfl
theorem Xa (E:List UInt8)(hE:E.all dg=true)(hl:E.length≤4096):Ev (fun k=>dF.f k (mkB E)) ((E.foldl ex 0:Nat):Int):=by
 have:=WZ E hE hl E.length 0 0 (by omega) (by decide);rw[List.drop_zero]at this;exact this
theorem agf (x:Int):iK.f x=some (held x):=by
 unfold iK.f held nM
 split
 ·rfl
 ·split
  ·rfl
  ·rfl
def abk (x:Nat ⊕ R):RT :=
 match x with
 | .inl p=>WB p
 | .inr r=>okT (nrm (toD r))
theorem abQ (E:List UInt8)(acc:Nat)(h:acc≤far):E.foldl ex acc≤far:=by
 induction E generalizing acc with
 | nil=>exact h
 | cons c E ih=>exact ih _ (Nat.min_le_right _ _)
theorem QY (l:List UInt8)(hl:l.length≤4096)(h0:l≠[])(r:R)(hneg:r.neg=hd (· == 45) l)(hds:r.ds.length≤4096)(hbeh:r.beh≤4096)(hexp:r.exp≤far)(x:Int)(hx:x=if r.eneg=true then -(r.exp:Int) else (r.exp:Int))(e:Nat)(he:e≤l.length) :
  Ev (fun k=>ah.j4 k (mkB l) (e:Int) (mkB r.ds) (r.beh:Int) x) (abk (if e<l.length then .inl e else .inr r)):=by
 have hp:=List.length_pos_iff.2 h0;have hf:far=100000000:=rfl
 by_cases h1:e<l.length
 ·rw[if_pos h1]
  refine Ev.step (f:=fun _=>some (WB e)) (fun k=>?_) (Ev.now _);simp only[ah.j4];rw[if_pos (by rw[bH];omega)]
  rfl
 ·rw[if_neg h1]
  have hb:=Fz (x-(r.beh:Int))
  have hxb : -100000000≤x∧x≤100000000:=by rw[hx];split <;> omega
  have hneg2:(bt (mkB l) 0 == 45)=r.neg:=by
   rw[hneg]
   cases l with
   | nil=>exact absurd rfl h0
   | cons c l =>
    rw[Nr]
    have h:∀ n:Fin 256,(((UInt8.ofNat n.val).toNat:Int) == 45)=((UInt8.ofNat n.val) == 45):=by decide +kernel
    have:=h ⟨c.toNat,c.toNat_lt⟩
    simpa [hd] using this
  have hN:=JD ⟨false,r.neg,r.ds,held (x-(r.beh:Int))⟩ (by show r.ds.length≤_;omega) hb.1 hb.2
  have hD:toD r=⟨false,r.neg,r.ds,held (x-(r.beh:Int))⟩:=by unfold toD;rw[hx]
  refine Ev.step (f:=fun k=>(ak.f k false r.neg (mkB r.ds) (held (x-(r.beh:Int)))).bind fun Zk=>(some (Zk.1,Zk.2.1,Zk.2.2.1,Zk.2.2.2,0,0))) (fun k=>?_) ?_
  ·simp only[ah.j4]
   rw[if_neg (by rw[bH];omega),if_pos (by rw[bH];omega),ja (by omega) (by omega),agf];simp only[Option.bind_some];rw[hneg2]
  ·refine Ev.bind hN ?_
   show Ev _ (okT (nrm (toD r)));rw[hD];exact Ev.now _
theorem G7 (l:List UInt8)(a n:Nat)(h:a+n≤l.length):(mkB l).extract a (a+n)=mkB ((l.drop a).take n):=by
 rw[KQ l a (a+n) h,List.drop_take,Nat.add_sub_cancel_left]
set_option maxHeartbeats 1000000 in
theorem Zv (l:List UInt8)(hl:l.length≤4096)(r:R)(hneg:r.neg=hd (· == 45) l)(hds:r.ds.length≤4096)(hbeh:r.beh≤4096)(hexp:r.exp=0)(e f:Nat)(hf:f=if hd sg (l.drop (e+1))=true then 1 else 0)(he:e+1+f≤l.length) :
  Ev (fun k=>ah.j3 k (mkB l) (e:Int) (mkB r.ds) (r.beh:Int) ((e+1+f:Nat):Int)) (abk (tailE r (e+1) (l.drop (e+1)))):=by
 have ho:=Ll l (e+1+f) he (by omega);have hld:=Yf (l.drop (e+1+f));rw[List.length_drop]at hld;have htk:=abZ (l.drop (e+1+f));unfold tailE;simp only[← hf,List.drop_drop,List.length_drop]
 obtain⟨n,hn⟩:∃ n,n=ld (l.drop (e+1+f)):=⟨_,rfl⟩
 rw[← hn]at ho hld htk ⊢;refine Ev.step (fun k=>rfl) ?_;simp only[ah.j3];refine Ev.bind ho ?_
 by_cases hz:n=0
 ·rw[if_pos hz]
  have c:((e+1+f+n:Nat):Int)=((e+1+f:Nat):Int):=by omega
  simp only[if_pos c];refine Ev.congr (fun k=>?_) (Ev.now _);show some _=some (WB (e+1+f));rw[c];rfl
 ·rw[if_neg hz]
  have h0:l≠[]:=List.length_pos_iff.1 (by omega)
  have c1:¬ ((e+1+f+n:Nat):Int)=((e+1+f:Nat):Int):=by omega
  have c2:(0:Int)≤((e+1+f:Nat):Int):=by omega
  have c3:((e+1+f:Nat):Int)≤((e+1+f+n:Nat):Int):=by omega
  have c4:((e+1+f+n:Nat):Int)≤((mkB l).size:Int):=by rw[bH];omega
  have c5:(0:Int)≤((e+1:Nat):Int):=Int.natCast_nonneg _
  have c6:((e+1:Nat):Int)<((mkB l).size:Int):=by rw[bH];exact Int.ofNat_lt.2 (by omega)
  have hw:wrap64 ((e:Int)+1)=((e+1:Nat):Int):=ja (by omega) (by omega);simp only[if_neg c1,if_pos c2,if_pos c3,if_pos c4,hw,if_pos c5,if_pos c6,Int.toNat_natCast];clear hw c1 c2 c3 c4 c5 c6;rw[G7 l (e+1+f) n (by omega)];refine Ev.bind (Xa _ htk (by rw[List.length_take,List.length_drop];omega)) ?_
  obtain⟨E,hE⟩:∃ E,E=((l.drop (e+1+f)).take n).foldl ex 0:=⟨_,rfl⟩
  have hEl:E≤far:=by rw[hE];exact abQ _ 0 (by decide)
  rw[hexp, ← hE];have hfar:far=100000000:=rfl
  have hlt:e+1<l.length:=by omega
  have hsgn:(bt (mkB l) ((e+1:Nat):Int)=45) ↔ hd (· == 45) (l.drop (e+1))=true:=by
   have:=xh l (e+1) 45;rw[this];exact⟨fun h=>⟨hlt,h⟩,fun h=>h.2⟩
  have hlen:e+1+(f+n)=e+1+f+n:=by omega
  have ho2:abk (if f+n<l.length-(e+1) then .inl (e+1+f+n) else .inr { r with st:=8,eneg:=hd (· == 45) (l.drop (e+1)),exp:=E })=abk (if e+1+f+n<l.length then .inl (e+1+f+n) else .inr { r with st:=8,eneg:=hd (· == 45) (l.drop (e+1)),exp:=E }):=by
   by_cases hq:e+1+f+n<l.length
   ·rw[if_pos hq,if_pos (by omega)]
   ·rw[if_neg hq,if_neg (by omega)]
  rw[ho2]
  by_cases hs:hd (· == 45) (l.drop (e+1))=true
  ·simp only[if_pos (hsgn.2 hs)]
   have hx:wrap64 (-(E:Int)) = -(E:Int):=ja (by omega) (by omega);rw[hx];exact QY l hl h0 { r with st:=8,eneg:=hd (· == 45) (l.drop (e+1)),exp:=E } hneg hds hbeh hEl _ (by simp only[hs,if_true]) _ (by omega)
  ·simp only[if_neg (fun h=>hs (hsgn.1 h))]
   exact QY l hl h0 { r with st:=8,eneg:=hd (· == 45) (l.drop (e+1)),exp:=E } hneg hds hbeh hEl _ (by simp only[hs,if_false,Bool.false_eq_true]) _ (by omega)
theorem ZG (l:List UInt8)(hl:l.length≤4096)(h0:l≠[])(r:R)(hneg:r.neg=hd (· == 45) l)(hds:r.ds.length≤4096)(hbeh:r.beh≤4096)(hexp:r.exp=0)(hen:r.eneg=false)(e:Nat)(he:e≤l.length) :
  Ev (fun k=>ah.j2 k (mkB l) (e:Int) (mkB r.ds) (r.beh:Int)) (abk (Pm r e (l.drop e))):=by
 have h1:=BO l e 101 69 eb ayz;unfold Pm;refine Ev.step (fun k=>rfl) ?_;simp only[ah.j2];rw[h1];simp only[Option.bind_some]
 by_cases hb:hd eb (l.drop e)=true
 ·have hlt:e<l.length:=by
   rcases Nat.lt_or_ge e l.length with h|h
   ·exact h
   ·rw[List.drop_eq_nil_iff.2 h]at hb;cases hb
  have hw:wrap64 ((e:Int)+1)=((e+1:Nat):Int):=ja (by omega) (by omega);have h2:=BO l (e+1) 43 45 sg auo;rw[if_pos hb,List.drop_drop];simp only[if_pos hb,hw];rw[h2];simp only[Option.bind_some]
  by_cases hs:hd sg (l.drop (e+1))=true
  ·have hlt2:e+1<l.length:=by
    rcases Nat.lt_or_ge (e+1) l.length with h|h
    ·exact h
    ·rw[List.drop_eq_nil_iff.2 h]at hs;cases hs
   have hw2:wrap64 (((e+1:Nat):Int)+1)=((e+1+1:Nat):Int):=ja (by omega) (by omega);simp only[if_pos hs,hw2];exact Zv l hl r hneg hds hbeh hexp e 1 (by rw[if_pos hs]) (by omega)
  ·simp only[if_neg hs]
   exact Zv l hl r hneg hds hbeh hexp e 0 (by rw[if_neg hs]) (by omega)
 ·rw[if_neg hb]
  simp only[if_neg hb];have:=QY l hl h0 r hneg hds hbeh (by rw[hexp];decide) 0 (by rw[hen,hexp];rfl) e he
  have e1:(if 0<(l.drop e).length then (.inl e:Nat ⊕ R) else .inr r)=(if e<l.length then .inl e else .inr r):=by
   rw[List.length_drop]
   by_cases hq:e<l.length
   ·rw[if_pos hq,if_pos (by omega)]
   ·rw[if_neg hq,if_neg (by omega)]
  rw[e1];exact this
theorem ZA (l:List UInt8)(hl:l.length≤4096)(r:R)(hneg:r.neg=hd (· == 45) l)(hds:r.ds=[])(hbeh:r.beh=0)(hexp:r.exp=0)(hen:r.eneg=false)(b:Nat)(hb:b≤l.length) :
  Ev (fun k=>ah.j1 k (mkB l) (b:Int)) (abk (Fq r b (l.drop b))):=by
 have ho:=Ll l b hb (by omega);have hld:=Yf (l.drop b);rw[List.length_drop]at hld;unfold Fq
 obtain⟨n,hn⟩:∃ n,n=ld (l.drop b):=⟨_,rfl⟩
 rw[← hn]at ho hld ⊢;refine Ev.step (fun k=>rfl) ?_;simp only[ah.j1];refine Ev.bind ho ?_
 by_cases hz:n=0
 ·rw[if_pos hz]
  have c:((b+n:Nat):Int)=(b:Int):=by omega
  simp only[if_pos c];refine Ev.congr (fun k=>?_) (Ev.now _);show some _=some (WB b);rw[c];rfl
 ·rw[if_neg hz,List.drop_drop]
  have h0:l≠[]:=List.length_pos_iff.1 (by omega)
  have c1:¬ ((b+n:Nat):Int)=(b:Int):=by omega
  have c2:(0:Int)≤(b:Int):=by omega
  have c3:(b:Int)≤((b+n:Nat):Int):=by omega
  have c4:((b+n:Nat):Int)≤((mkB l).size:Int):=by rw[bH];omega
  have h1:=BO l (b+n) 46 46 (· == 46) amj
  have htl:((l.drop b).take n).length=n:=by rw[List.length_take,List.length_drop];omega
  simp only[if_neg c1,if_pos c2,if_pos c3,if_pos c4];rw[h1];simp only[Option.bind_some,Int.toNat_natCast];rw[G7 l b n (by omega)];unfold Xi
  by_cases hp:hd (· == 46) (l.drop (b+n))=true
  ·have hlt:b+n<l.length:=by
    rcases Nat.lt_or_ge (b+n) l.length with h|h
    ·exact h
    ·rw[List.drop_eq_nil_iff.2 h]at hp;cases hp
   have ho2:=Ll l (b+n+1) (by omega) (by omega);have ayb:=Yf (l.drop (b+n+1));rw[List.length_drop]at ayb;have hw:wrap64 (((b+n:Nat):Int)+1)=((b+n+1:Nat):Int):=ja (by omega) (by omega);rw[if_pos hp];simp only[if_pos hp,hw,List.drop_drop]
   obtain⟨n2,hn2⟩:∃ n2,n2=ld (l.drop (b+n+1)):=⟨_,rfl⟩
   rw[← hn2]at ho2 ayb ⊢;refine Ev.bind ho2 ?_
   by_cases hz2:n2=0
   ·rw[if_pos hz2]
    have d:((b+n+1+n2:Nat):Int)=((b+n+1:Nat):Int):=by omega
    simp only[if_pos d];refine Ev.congr (fun k=>?_) (Ev.now _);show some _=some (WB (b+n+1));rw[d];rfl
   ·rw[if_neg hz2]
    have d1:¬ ((b+n+1+n2:Nat):Int)=((b+n+1:Nat):Int):=by omega
    have d2:(0:Int)≤((b+n+1:Nat):Int):=by omega
    have d3:((b+n+1:Nat):Int)≤((b+n+1+n2:Nat):Int):=by omega
    have d4:((b+n+1+n2:Nat):Int)≤((mkB l).size:Int):=by rw[bH];omega
    have ayc:((l.drop (b+n+1)).take n2).length=n2:=by rw[List.length_take,List.length_drop];omega
    have hw2:wrap64 (wrap64 (((b+n+1+n2:Nat):Int)-((b+n:Nat):Int))-1)=(n2:Int):=by
     rw[ja (n:=((b+n+1+n2:Nat):Int)-((b+n:Nat):Int)) (by omega) (by omega),ja (by omega) (by omega)]
     omega
    simp only[if_neg d1,if_pos d2,if_pos d3,if_pos d4,Int.toNat_natCast,hw2];rw[G7 l (b+n+1) n2 (by omega)]
    have d5:(mkB ((l.drop b).take n)).size+(mkB ((l.drop (b+n+1)).take n2)).size≤9223372036854775807:=by rw[bH,bH,htl,ayc];omega
    simp only[if_pos d5,rH];have key:=ZG l hl h0 { r with st:=5,ds:=r.ds++(l.drop b).take n++(l.drop (b+n+1)).take n2,beh:=r.beh+n2 } hneg (by simp only[hds,List.nil_append,List.length_append,htl,ayc];omega) (by simp only[hbeh];omega) hexp hen (b+n+1+n2) (by omega);simp only[hds,hbeh,List.nil_append,Nat.zero_add]at key ⊢;exact key
  ·rw[if_neg hp]
   simp only[if_neg hp];have key:=ZG l hl h0 { r with st:=3,ds:=r.ds++(l.drop b).take n } hneg (by simp only[hds,List.nil_append,htl];omega) (by simp only[hbeh];omega) hexp hen (b+n) (by omega);simp only[hds,hbeh,List.nil_append]at key ⊢;exact key
theorem OX (l:List UInt8):Ev (fun k=>ah.f k (mkB l)) (outT l):=by
 unfold ah.f outT vw;rw[bH]
 by_cases h4:4096<l.length
 ·have hc4:(l.length:Int) > 4096:=by omega
  rw[if_pos h4];simp only[if_pos hc4];exact Ev.now _
 ·have hc4:¬ (l.length:Int) > 4096:=by omega
  rw[if_neg h4];simp only[if_neg hc4]
  have hj:Ev (fun k=>ah.j0 k (mkB l) (hd (· == 110) l)) (match (if hd (· == 110) l=true then (if wordAt l<3∨3<l.length then Res.bad (wordAt l) else .ok dN) else match scan l with | .inl p => .bad p | .inr r => .ok (nrm (toD r))) with | .long=>((false,false,mkB [],0,13,0):RT) | .bad p=>WB p | .ok d=>okT d):=by
   refine Ev.step (fun k=>rfl) ?_;simp only[ah.j0]
   by_cases hn:hd (· == 110) l=true
   ·simp only[if_pos hn]
    have hw:=abM l (by omega) (wordAt l) 0 (by omega);refine Ev.congr (f:=fun k=>dB.l0 k (mkB l) vz ((0:Nat):Int)) (fun k=>?_) ?_
    ·show (dB.l0 k (mkB l) vz 0).bind _=dB.l0 k (mkB l) vz 0
     cases dB.l0 k (mkB l) vz 0 <;> rfl
    ·by_cases hq:wordAt l<3∨3<l.length
     ·rw[if_pos hq]at hw ⊢
      exact hw
     ·rw[if_neg hq]at hw ⊢
      exact hw
   ·simp only[if_neg hn]
    have h1:=BO l 0 43 45 sg auo;rw[List.drop_zero]at h1;have h1':dL.f (mkB l) 0 43 45=some (hd sg l):=h1;rw[h1'];simp only[Option.bind_some]
    have hout:∀ x,abk x=(match (match x with | .inl p=>Res.bad p | .inr r => .ok (nrm (toD r))) with | .long=>((false,false,mkB [],0,13,0):RT) | .bad p=>WB p | .ok d=>okT d):=by
     intro x;cases x <;> rfl
    rw[← hout,Xy];unfold SC.ref
    by_cases hs:hd sg l=true
    ·rw[if_pos hs]
     simp only[if_pos hs]
     have hp:0<l.length:=by
      cases l with
      | nil=>cases hs
      | cons c l=>simp
     exact ZA l (by omega) { r0 with st:=2,neg:=hd (· == 45) l } rfl rfl rfl rfl rfl 1 (by omega)
    ·rw[if_neg hs]
     simp only[if_neg hs]
     have h45:r0.neg=hd (· == 45) l:=by
      cases l with
      | nil=>rfl
      | cons c l =>
       have:sg c=false:=Bool.eq_false_iff.2 hs;simp only[sg,Bool.or_eq_false_iff]at this;exact this.2.symm
     have key:=ZA l (by omega) r0 h45 rfl rfl rfl rfl 0 (by omega);rw[List.drop_zero]at key;exact key
  by_cases hp:(l.length:Int) > 0
  ·have c2:(0:Int)<(l.length:Int):=hp
   simp only[if_pos hp,if_pos c2]
   have aGj:(bt (mkB l) 0 == 110)=hd (· == 110) l:=by
    cases l with
    | nil=>simp at hp
    | cons c l =>
     rw[Nr]
     have h:∀ n:Fin 256,(((UInt8.ofNat n.val).toNat:Int) == 110)=((UInt8.ofNat n.val) == 110):=by decide +kernel
     have:=h ⟨c.toNat,c.toNat_lt⟩
     simpa [hd] using this
   rw[aGj];exact hj
  ·simp only[if_neg hp]
   have hnil:l=[]:=List.length_eq_zero_iff.1 (by omega);subst hnil;exact hj
end Go.Proofs.Yy.PTx
end
