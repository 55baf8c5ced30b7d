/- Part 28 of what the proof needs. -/
import Derived.Test.YtpfnkbnepcchgaaGreatDoorKTEBA
set_option linter.unusedSimpArgs false
set_option linter.unusedVariables false
section
set_option maxHeartbeats 8000000
set_option maxRecDepth 100000
namespace Go.Proofs.Yy.PTx
open Go.RowKit Go.Proofs.Yy.Z Go.Proofs.Yw.PrintWords Go.Proofs.Yw.PrintLast Go.Proofs.Yw.PrintMore
open Go.Proofs.Yy.M
attribute [local go_sem] dw dQ lD lF lC lG
attribute [local go_sem] gy gz ja jc fC fD gQ gK
mutual
def aK.j0:Nat→Int→Int→Int→Int→Bool→Option (Int × Bool × Int × Int × Int)
  | 0,_,_,_,_,_=>none
  | k+1,x0,x1,x6,x7,x23=>if x23=true then (some (x6,false,0,0,x7)) else ((gZ.f k x0 x1).bind fun D9=>((bf.f k D9.2.2.2.2.2.2.2.1 D9.2.2.2.2.2.2.1).bind fun Wx=>(if 1+Wx.size≤9223372036854775807 then (aK.l0 k ((⟨#[49]⟩:ByteArray) ++ Wx) x6 D9.1 (wrap64 ((wrap64 (4 * D9.2.2.2.1))+D9.2.2.2.2.2.1)) 0) else (none))))
def aK.l0:Nat→ByteArray→Int→Bool→Int→Int→Option (Int × Bool × Int × Int × Int)
  | 0,_,_,_,_,_=>none
  | k+1,x11,Wy,WA,WB,adH=>if (x11.size:Int)<64 then (if x11.size+1≤9223372036854775807 then (aK.l0 k (x11 ++ (⟨#[48]⟩:ByteArray)) Wy WA WB adH) else (none)) else ((aV.f k x11).bind fun ajn=>(some (Wy,WA,WB,ajn,0)))
end
def aK.f (k:Nat) (a0:Int) (a1:Int):Option (Int × Bool × Int × Int × Int):=(fM.f k a0 a1).bind fun QR=>(if QR.2=0 then (aK.j0 k a0 a1 QR.1 QR.2 (QR.1 != 1)) else (aK.j0 k a0 a1 QR.1 QR.2 true))
theorem aK.calls (k:Nat) (a0:Int) (a1:Int) (r1:Int) (r2:Bool) (r3:Int) (r4:Int) (r5:Int) (w:World) (h:aK.f k a0 a1=some (r1,r2,r3,r4,r5)) :
    Calls Tryz.prog 113 #[.int .i64 a0, .int .u64 a1] w fun e w'=>e = .returned (.tuple #[.agg #[.int .i64 r1, .bool r2, .int .i64 r3, .int .u64 r4], .int .i64 r5])∧Below w.heap.size w w':=by
 have ad4:=Tryz.underlying77
 have anI:=Tryz.underlying140
 have HB:=am (Below.refl w.heap.size w)
 have H:=am h
 unfold aK.f at H
 clear h
 replace H:=zo H
 obtain ⟨⟨adI,aDR⟩,A3,H⟩:=H
 try dsimp only at H
 go_enter Tryz.func113,Tryz.ntmps113
 go_upto_region 2 with (first|((with_reducible refine ay (N:=4) rfl ?_);refine zx 4 77 #[.int .i64 0, .bool false, .int .i64 0, .int .u64 0] ?_;intro WC hg w5 hbox hb;have pW:=am (hbox);have aDS:=zG hg HB;have aDT:=zG hg HB;replace HB:=zBs HB hb;clear hb hbox hg)|((with_reducible refine af (f:=167) rfl ?_);refine zc (some 15) Tryz.func167 _ (fM.calls _ _ _ _ _ _ A3.out) ?_;rintro e w6 ⟨rfl,hb⟩;refine ⟨_,rfl,?_⟩;replace pW:=zKb pW hb;replace HB:=zBs HB hb;clear hb))
 (try simp only [Act.put,List.setIfInBounds_toArray,List.set_cons_zero,List.set_cons_succ])
 go_cut [23] (fun v23 wc => ∃ (kq:Nat) (Zh:Bool),v23 = .bool Zh∧ae (aK.j0 kq a0 a1 adI aDR Zh=some (r1,r2,r3,r4,r5))∧ae (kq≤k)∧ae (wc.heap[WC]? = some (.cells #[.int .i64 0, .bool false, .int .i64 0, .int .u64 0] 77 (0,0)))∧ae (Below w.heap.size w wc))
 case first =>
  replace H:=zsk H
  rcases H with ⟨wQ,Bh,H⟩|⟨wQ,Bh,c7,H⟩
  (first|rw [wQ]|(simp only [bI,dV];rw [wQ])|rw [Bh]|skip)
  rotate_left
  (first|rw [wQ]|(simp only [bI,dV];rw [wQ])|rw [Bh]|skip)
  rotate_left
  all_goals (go_wp2)
  ·go_meet
   case rel=>exact ⟨_,((adI != 1)),z1,H,⟨z5⟩,⟨zK pW⟩,⟨zB HB⟩⟩
  go_meet
  case rel=>exact ⟨_,(true),z1,H,⟨z5⟩,⟨zK pW⟩,⟨zB HB⟩⟩
 case rest =>
  obtain ⟨kq,Zh,rfl,H,HJ3,pW,HB⟩:=hcut
  obtain _|kj3:=kq
  ·exact zz H rfl
  simp only [aK.j0] at H
  cases Zh
  replace H:=zb0 H
  replace H:=zo H
  obtain ⟨⟨aag,akr,aks,aah,akt,aai,aku,akv,aJG⟩,A10,H⟩:=H
  try dsimp only at H
  replace H:=zo H
  obtain ⟨Wx,A11,H⟩:=H
  replace H:=zi H
  obtain ⟨c12,H⟩:=H
  have nO:=eq_true c12
  have rH:decide (1+Wx.size≤9223372036854775807)=true:=decide_eq_true c12
  try have agx:(9223372036854775807<1+Wx.size)=False:=eq_false (Nat.not_lt.2 c12)
  try have aJH:(9223372036854775807<1+Wx.size)=False:=eq_false (by have h_:=c12;have l1_:(⟨#[46]⟩:ByteArray).size=1:=rfl;have l2_:(⟨#[48,46]⟩:ByteArray).size=2:=rfl;have l3_:(⟨#[101]⟩:ByteArray).size=1:=rfl;(try simp only [ByteArray.size_append,ByteArray.size_extract] at h_);omega)
  try have aJI:(9223372036854775807<1+Wx.size)=False:=eq_false (by have h_:=c12;have l1_:(⟨#[46]⟩:ByteArray).size=1:=rfl;have l2_:(⟨#[48,46]⟩:ByteArray).size=2:=rfl;have l3_:(⟨#[101]⟩:ByteArray).size=1:=rfl;(try simp only [ByteArray.size_append,ByteArray.size_extract] at h_);omega)
  rotate_left
  replace H:=zb1 H
  obtain ⟨rfl,rfl,rfl,rfl,rfl⟩:=zJ5 H
  obtain ⟨_,_,_,_,_,_,_,_⟩:=zf4 pW
  rotate_left
  all_goals (go_wp2_with (first|((with_reducible refine af (f:=168) rfl ?_);refine zc (some 30) Tryz.func168 _ (gZ.calls _ _ _ _ _ _ _ _ _ _ _ _ _ A10.out) ?_;rintro e w13 ⟨rfl,hb⟩;refine ⟨_,rfl,?_⟩;replace pW:=zKb pW hb;replace HB:=zBs HB hb;clear hb)|((with_reducible refine ay (N:=8) rfl ?_);refine zx 8 140 #[.bool false, .bool false, .int .i64 0, .int .i64 0, .int .i64 0, .int .i64 0, .int .i64 0, .int .u64 0] ?_;intro QS hg w14 hbox hb;have yT:=am (hbox);have aDU:=zG hg HB;have aDV:=zG hg HB;replace HB:=zBs HB hb;have JO:=zNl hg pW;have JP:=zNg hg pW;replace pW:=zKb pW hb;clear hb hbox hg;have agz:=JP.out;have agA:=JO.out;obtain ⟨_,_,_,_,_,_,_,_,_,_,_,_,_,_,_,_⟩:=zf8 yT)|((with_reducible refine ay (N:=10) rfl ?_);refine zx 10 77 #[.int .i64 0, .bool false, .int .i64 0, .int .u64 0] ?_;intro Zi hg w17 hbox hb;have EN:=am (hbox);have aDW:=zG hg HB;have aDX:=zG hg HB;replace HB:=zBs HB hb;have JQ:=zNl hg pW;have JR:=zNg hg pW;replace pW:=zKb pW hb;have JS:=am ((by rw [hg];exact Nat.ne_of_lt (uO (g:=QS) (o := .cells #[.bool aag, .bool akr, .int .i64 aks, .int .i64 aah, .int .i64 akt, .int .i64 aai, .int .i64 aku, .int .u64 akv] 140 (0,0)) (zKp yT)):QS≠Zi));have JU:=am ((by rw [hg];exact Nat.ne_of_gt (uO (g:=QS) (o := .cells #[.bool aag, .bool akr, .int .i64 aks, .int .i64 aah, .int .i64 akt, .int .i64 aai, .int .i64 aku, .int .u64 akv] 140 (0,0)) (zKp yT)):Zi≠QS));replace yT:=am (bU (zKp yT) hb);clear hb hbox hg;have agE:=JR.out;have agF:=JQ.out;have alq:=JU.out;have alr:=JS.out;obtain ⟨_,_,_,_,_,_,_,_⟩:=zf4 EN;obtain ⟨_,_,_,_,_,_,_,_,_,_,_,_,_,_,_,_⟩:=zf8 yT)|((with_reducible refine af (f:=88) rfl ?_);refine zc (some 47) Tryz.func88 _ (bf.calls _ _ _ _ _ A11.out) ?_;rintro e w22 ⟨rfl,hb⟩;refine ⟨_,rfl,?_⟩;replace pW:=zKb pW hb;replace yT:=zKb yT hb;replace EN:=am (bU (zKp EN) hb);replace HB:=zBs HB hb;clear hb)))
  ·go_loopg [11] kj3 (fun kq v11 w' => ∃ (tV:ByteArray),v11 = .string tV∧ae (aK.l0 kq tV adI aag (wrap64 ((wrap64 (4 * aah))+aai)) 0=some (r1,r2,r3,r4,r5))∧ae (kq≤kj3)∧ae (w'.heap[WC]? = some (.cells #[.int .i64 0, .bool false, .int .i64 0, .int .u64 0] 77 (0,0)))∧ae (w'.heap[QS]? = some (.cells #[.bool aag, .bool akr, .int .i64 aks, .int .i64 aah, .int .i64 akt, .int .i64 aai, .int .i64 aku, .int .u64 akv] 140 (0,0)))∧ae (w'.heap[Zi]? = some (.cells #[.int .i64 adI, .bool aag, .int .i64 (wrap64 ((wrap64 (4 * aah))+aai)), .int .u64 0] 77 (0,0)))∧ae (Below w.heap.size w w'))
   case atStart=>exact ⟨((⟨#[49]⟩:ByteArray) ++ Wx),z1,H,zL,⟨zK pW⟩,⟨zK yT⟩,⟨zK EN⟩,⟨zB HB⟩⟩
   clear H
   obtain ⟨tV,rfl,H,HK2,pW,yT,EN,HB⟩:=hrel
   obtain _|k2:=gk
   ·exact zz H rfl
   simp only [aK.l0] at H
   replace H:=zs H
   rcases H with ⟨c23,H⟩|⟨c23,H⟩
   have Eu:decide ((tV.size:Int)<64)=true:=decide_eq_true c23
   have UG:decide (tV.size<64)=true:=decide_eq_true (by omega)
   clear c23
   replace H:=zi H
   obtain ⟨c24,H⟩:=H
   have Qp:=eq_true c24
   have an2:decide (tV.size+1≤9223372036854775807)=true:=decide_eq_true c24
   try have aDY:(9223372036854775807<tV.size+1)=False:=eq_false (Nat.not_lt.2 c24)
   try have aJJ:(9223372036854775807<tV.size+1)=False:=eq_false (by have h_:=c24;have l1_:(⟨#[46]⟩:ByteArray).size=1:=rfl;have l2_:(⟨#[48,46]⟩:ByteArray).size=2:=rfl;have l3_:(⟨#[101]⟩:ByteArray).size=1:=rfl;(try simp only [ByteArray.size_append,ByteArray.size_extract] at h_);omega)
   try have aJK:(9223372036854775807<tV.size+1)=False:=eq_false (by have h_:=c24;have l1_:(⟨#[46]⟩:ByteArray).size=1:=rfl;have l2_:(⟨#[48,46]⟩:ByteArray).size=2:=rfl;have l3_:(⟨#[101]⟩:ByteArray).size=1:=rfl;(try simp only [ByteArray.size_append,ByteArray.size_extract] at h_);omega)
   rotate_left
   have Eu:decide ((tV.size:Int)<64)=false:=decide_eq_false c23
   have UG:decide (tV.size<64)=false:=decide_eq_false (by omega)
   clear c23
   replace H:=zo H
   obtain ⟨ajn,A25,H⟩:=H
   obtain ⟨rfl,rfl,rfl,rfl,rfl⟩:=zJ5 H
   rotate_left
   all_goals (go_wp2_with (first|((with_reducible refine af (f:=89) rfl ?_);refine zc (some 55) Tryz.func89 _ (aV.calls _ _ _ _ A25.out) ?_;rintro e w' ⟨rfl,⟨nd,rfl⟩⟩;refine ⟨_,rfl,?_⟩;(try (rw [iT wr];generalize hq_:World.drewN wr _=wr;have n0_:ae (wr.heap[WC]? = some (.cells #[.int .i64 0, .bool false, .int .i64 0, .int .u64 0] 77 (0,0))):=⟨by rw [← hq_];exact (zK pW)⟩;have n1_:ae (wr.heap[QS]? = some (.cells #[.bool aag, .bool akr, .int .i64 aks, .int .i64 aah, .int .i64 akt, .int .i64 aai, .int .i64 aku, .int .u64 akv] 140 (0,0))):=⟨by rw [← hq_];exact (zK yT)⟩;have n2_:ae (wr.heap[Zi]? = some (.cells #[.int .i64 adI, .bool aag, .int .i64 (wrap64 ((wrap64 (4 * aah))+aai)), .int .u64 0] 77 (0,0))):=⟨by rw [← hq_];exact (zK EN)⟩;have n3_:ae (Below w.heap.size w wr):=⟨by rw [← hq_];exact (zB HB)⟩;clear pW yT EN HB hq_;have pW:=n0_;have yT:=n1_;have EN:=n2_;have HB:=n3_;clear n0_ n1_ n2_ n3_));have agG:=JR.out;have agH:=JQ.out;have aDZ:=JU.out;have aD0:=JS.out;obtain ⟨_,_,_,_,_,_,_,_⟩:=zf4 EN;have afC:=JO.out;have afD:=JP.out;obtain ⟨_,_,_,_,_,_,_,_⟩:=zf4 pW)))
   ·go_roundg k2
    case measure=>have:=HJ3.out;have:=HK2.out;omega
    case rel=>exact ⟨(tV ++ (⟨#[48]⟩:ByteArray)),z1,H,⟨by have:=HJ3.out;have:=HK2.out;omega⟩,⟨zK pW⟩,⟨zK yT⟩,⟨zK EN⟩,⟨zB HB⟩⟩
   refine bodyPost_ret (bJ rfl _ _ WC 77 #[.int .i64 adI, .bool aag, .int .i64 (wrap64 ((wrap64 (4 * aah))+aai)), .int .u64 ajn] (0,0) _ rfl (zKp pW) Tryz.underlying77 rfl (by kernel_rfl)) rfl ?_
   exact ⟨z2,zB HB⟩
  refine bodyPost_ret (bJ rfl _ _ WC 77 #[.int .i64 adI, .bool false, .int .i64 0, .int .u64 0] (0,0) _ rfl (zKp pW) Tryz.underlying77 rfl (by kernel_rfl)) rfl ?_
  exact ⟨z2,zB HB⟩
def fJ.f (k:Nat) (a0:Int) (a1:Int):Option (Int × Bool × Int × Int):=(aK.f k a0 a1).bind fun yU=>(some (yU.1,yU.2.1,yU.2.2.1,yU.2.2.2.1))
theorem fJ.calls (k:Nat) (a0:Int) (a1:Int) (r1:Int) (r2:Bool) (r3:Int) (r4:Int) (w:World) (h:fJ.f k a0 a1=some (r1,r2,r3,r4)) :
    Calls Tryz.prog 57 #[.int .i64 a0, .int .u64 a1] w fun e w'=>e = .returned (.agg #[.int .i64 r1, .bool r2, .int .i64 r3, .int .u64 r4])∧Below w.heap.size w w':=by
 have ad4:=Tryz.underlying77
 have HB:=am (Below.refl w.heap.size w)
 have H:=am h
 unfold fJ.f at H
 clear h
 replace H:=zo H
 obtain ⟨⟨aD1,aD2,aD3,aD4,aJL⟩,A3,H⟩:=H
 try dsimp only at H
 obtain ⟨rfl,rfl,rfl,rfl⟩:=zJ4 H
 go_enter Tryz.func57,Tryz.ntmps57
 go_wp2_with (first|((with_reducible refine ay (N:=4) rfl ?_);refine zx 4 77 #[.int .i64 0, .bool false, .int .i64 0, .int .u64 0] ?_;intro arT hg w4 hbox hb;have JV:=am (hbox);have aD5:=zG hg HB;have aD6:=zG hg HB;replace HB:=zBs HB hb;clear hb hbox hg)|((with_reducible refine af (f:=113) rfl ?_);refine zc (some 10) Tryz.func113 _ (aK.calls _ _ _ _ _ _ _ _ _ A3.out) ?_;rintro e w5 ⟨rfl,hb⟩;refine ⟨_,rfl,?_⟩;replace JV:=zKb JV hb;replace HB:=zBs HB hb;clear hb)|((with_reducible refine ay (N:=5) rfl ?_);refine zx 5 77 #[.int .i64 0, .bool false, .int .i64 0, .int .u64 0] ?_;intro aD7 hg w6 hbox hb;have arU:=am (hbox);have aD8:=zG hg HB;have aD9:=zG hg HB;replace HB:=zBs HB hb;have WE:=zNl hg JV;have WF:=zNg hg JV;replace JV:=zKb JV hb;clear hb hbox hg;have ayB:=WF.out;have ayC:=WE.out;obtain ⟨_,_,_,_,_,_,_,_⟩:=zf4 arU;obtain ⟨_,_,_,_,_,_,_,_⟩:=zf4 JV))
 refine bodyPost_ret (results_cell_row rfl _ _ arT 77 #[.int .i64 aD1, .bool aD2, .int .i64 aD3, .int .u64 aD4] (0,0) _ rfl (zKp JV) Tryz.underlying77 rfl (by kernel_rfl)) rfl ?_
 exact ⟨z2,zB HB⟩
mutual
def ax.l0:Nat→List Int→ByteArray→Option (ByteArray)
  | 0,_,_=>none
  | k+1,x0,x3=>if (x0.length:Int) > 0 then ((aH.f k x0 (([1000000]:List Int))).bind fun WG=>(if (WG.2.length:Int) > 0 then (if 0<(WG.2.length:Int) then (ax.j1 k x3 WG.1 (rd WG.2 0)) else (none)) else (ax.j1 k x3 WG.1 0))) else (if x3.toList=([]:List UInt8) then (some (⟨#[48]⟩:ByteArray)) else (some x3))
def ax.j1:Nat→ByteArray→List Int→Int→Option (ByteArray)
  | 0,_,_,_=>none
  | k+1,x3,x4,x6=>ax.l1 k x3 x4 x6 0
def ax.l1:Nat→ByteArray→List Int→Int→Int→Option (ByteArray)
  | 0,_,_,_,_=>none
  | k+1,x3,x4,x6,x7=>if x7<6 then (if (x4.length:Int) > 0 then ((some (([(wrap64 (48+(Int.tmod x6 10))) % 256]:List Int):List Int)).bind fun aaj=>(if (strOfNums aaj).size+x3.size≤9223372036854775807 then (ax.l1 k ((strOfNums aaj) ++ x3) x4 (wrap64 (Int.tdiv x6 10)) (wrap64 (x7+1))) else (none))) else (if x6 > 0 then ((some (([(wrap64 (48+(Int.tmod x6 10))) % 256]:List Int):List Int)).bind fun aak=>(if (strOfNums aak).size+x3.size≤9223372036854775807 then (ax.l1 k ((strOfNums aak) ++ x3) x4 (wrap64 (Int.tdiv x6 10)) (wrap64 (x7+1))) else (none))) else (ax.l0 k x4 x3))) else (ax.l0 k x4 x3)
end
def ax.f (k:Nat) (l0:List Int):Option (ByteArray):=ax.l0 k l0 (⟨#[]⟩:ByteArray)
theorem ax.calls (k:Nat) (P0_:Nat→Prop) (A0:Option Addr) (c0:Nat) (l0:List Int) (r:ByteArray) (w:World) (hs0:Kd.V (Kd.int .i64) 3 w w.heap.size (fun k_=>P0_ k_) (.slice A0 l0.length c0) l0) (h:ax.f k l0=some r) :
    Calls Tryz.prog 110 #[.slice A0 l0.length c0] w fun e w'=>e = .returned (.string r)∧Below w.heap.size w w':=by
 have HO0:=am (show Kd.V (Kd.int .i64) 3 w w.heap.size (fun k_=>(P0_ k_∨w.heap.size≤k_)) (.slice A0 l0.length c0) l0 from Kd.bD hs0 (fun k_ hk => .inl hk))
 have HB:=am (Below.refl w.heap.size w)
 have H:=am h
 unfold ax.f at H
 clear h
 go_enter Tryz.func110,Tryz.ntmps110
 go_wp2
 go_loopg [0,3] k (fun kq v0 v3 w' => ∃ (kW:List Int) (gY:ByteArray),v3 = .string gY∧ae (ax.l0 kq kW gY=some r)∧ae (kq≤k)∧ae (Kd.V (Kd.int .i64) 3 w' w.heap.size (fun k_=>(P0_ k_∨w.heap.size≤k_)) v0 kW)∧ae (Below w.heap.size w w'))
 case atStart=>exact ⟨(l0),((⟨#[]⟩:ByteArray)),z1,H,zL,⟨zV HO0⟩,⟨zB HB⟩⟩
 clear H
 obtain ⟨kW,gY,rfl,H,HK1,iU,HB⟩:=hrel
 obtain _|k1:=gk
 ·exact zz H rfl
 simp only [ax.l0] at H
 replace H:=zs H
 rcases H with ⟨c2,H⟩|⟨c2,H⟩
 ·have uU:decide (0<(kW.length:Int))=true:=decide_eq_true c2
  have LJ:decide (0<kW.length)=true:=decide_eq_true (by omega)
  clear c2
  generalize ajo:(([1000000]:List Int):List Int)=awo at H
  have ajp:=zY ajo
  clear ajo
  replace H:=zo H
  obtain ⟨⟨WH,WY⟩,A3,H⟩:=H
  try dsimp only at H
  obtain ⟨Ao5,co5,eo5⟩:=Kd.dG iU.out
  subst eo5
  go_upto_if 19 with (first|((with_reducible refine ay (N:=13) rfl ?_);(try (refine kY (by rfl) ?_;dsimp only));refine Kd.yx (Kd.int .i64) _ 3 ?hg (N:=13) ?hd (xs:=([1000000]:List Int)) (inner := [.int .i64 1000000]) (ok:=fun _=>True) (okp:=fun _=>True) ?hr ?hp (fun _ hk=>hk) trivial (Below.refl _ _) (Nat.le_refl _) (by simp) ?_;(case hd=>rfl);(case hg=>rfl);(case hr=>first|(go_simp;done)|(go_simp;rfl));(case hp=>exact (jm.one (show Kd.M (Kd.int .i64) _ _ _ 1000000 [.int .i64 1000000] from rfl) (jm.none _ _)));intro aJM w6 ho7 hb hg_ jf;clear hg_ jf;(first|rw [← ajp.out] at ho7|(simp only [Int.reduceToNat] at ho7;rw [← ajp.out] at ho7));have n0_:=am (Kd.iP (zV iU) (Kd.gV ho7) hb);have n1_:=am (Kd.eP (Kd.nM (M:=fun k_=>(w.heap.size≤k_)) ho7 (zS HB) (fun k_ h_=>h_)) (zS HB));have n2_:=zBs HB hb;clear iU;clear HB;have iU:=n0_;have JW:=n1_;have HB:=n2_;clear n0_ n1_ n2_;clear hb ho7;obtain ⟨Ao8,co8,eo8⟩:=Kd.eF JW.out;subst eo8)|((with_reducible refine af (f:=102) rfl ?_);refine lg (some 14) rfl rfl Tryz.func102 (by kernel_rfl) rfl #[.slice Ao5 kW.length co5, .slice Ao8 awo.length co8] rfl (by (try simp only [List.map_toArray,List.map_cons,List.map_nil]);first|done|rfl|(simp only [List.length_drop,List.length_take];rfl)) ?_;(with_reducible refine (aH.calls k1 _ _ kW _ _ awo WH WY _ ?fF ?kC ?VP ?VQ A3.out).mono ?_);(case fF=>repeat (first|exact (Kd.aX iU.out).2.2|(with_reducible refine Kd.ku ?_ _)|(with_reducible refine Kd.jZ ?_ _)|(with_reducible refine Kd.nC ?_)));(case kC=>exact (Kd.aX iU.out).2.1);(case VP=>repeat (first|exact (Kd.aW JW.out).2.2|(with_reducible refine Kd.ku ?_ _)|(with_reducible refine Kd.jZ ?_ _)|(with_reducible refine Kd.nC ?_)));(case VQ=>exact (Kd.aW JW.out).2.1);rintro e w9 ⟨awp,aJN,rfl,ho0,ho1,hb⟩;refine ⟨_,rfl,?_⟩;have n0_:=am (Kd.bD (Kd.Zr (Kd.Zr (Kd.ak2 (zV iU) hb) (Kd.gV ho0)) (Kd.gV ho1)) (fun _ h_=>h_.1));have n1_:=am (Kd.dL (Kd.ZF (Kd.ZF (Kd.akI (zR JW) hb) (Kd.gV ho0)) (Kd.gV ho1)) (fun _ h_=>h_.1));have n2_:=am (Kd.eP (Kd.lQ (Kd.nM (M:=fun k_=>(w.heap.size≤k_)) ho0 (zS HB) (fun k_ h_=>h_)) (Kd.sU (zR JW))) (zS HB));have n3_:=am (Kd.eP (Kd.lQ (Kd.nM (M:=fun k_=>(w.heap.size≤k_)) ho1 (zS HB) (fun k_ h_=>h_)) (Kd.sU (zR JW))) (zS HB));have n4_:=zBs HB hb;clear iU;clear JW;clear HB;have iU:=n0_;have JW:=n1_;have ajq:=n2_;have ajr:=n3_;have HB:=n4_;clear n0_ n1_ n2_ n3_ n4_;(try clear hb);(try clear hb2);(try clear hk);(try clear hi);(try clear ho0);(try clear ho1);obtain ⟨aj7,ahy,Z4⟩:=Kd.eF ajr.out;subst Z4))
  (try simp only [Act.put,List.setIfInBounds_toArray,List.set_cons_zero,List.set_cons_succ])
  go_cut [6] (fun v6 wc => ∃ (kq:Nat) (Il:Int),v6 = .int .i64 Il∧ae (ax.j1 kq gY WH Il=some r)∧ae (kq≤k1)∧ae (Kd.R (Kd.int .i64) 3 wc w.heap.size (fun k_=>(w.heap.size≤k_)) awp WH)∧ae (Below w.heap.size w wc))
  case first =>
   replace H:=zs H
   rcases H with ⟨c11,H⟩|⟨c11,H⟩
   have mY:decide (0<(WY.length:Int))=true:=decide_eq_true c11
   have tN:decide (0<WY.length)=true:=decide_eq_true (by omega)
   clear c11
   (first|rw [mY]|(simp only [bI,dV];rw [mY])|rw [tN]|skip)
   replace H:=zi H
   obtain ⟨c12,H⟩:=H
   have nO:decide (0<(WY.length:Int))=true:=decide_eq_true c12
   have rH:decide (0<WY.length)=true:=decide_eq_true (by omega)
   clear c12
   have arV:0≤(0:Int):=(by omega)
   have arW:0<(WY.length:Int):=zD
   obtain ⟨aEa,aEb,Ia⟩:=Kd.dH (Kd.aW ajr.out).2.2 0 arV arW
   cases aEb
   have aEc:(0<WY.length)=True:=eq_true (by omega)
   (try rw [show ((0:Int)).toNat=0 from rfl] at Ia)
   (try rw [Addr.add_zero'] at Ia)
   replace arV:=eq_true arV
   replace arW:=eq_true arW
   rotate_left
   have mY:decide (0<(WY.length:Int))=false:=decide_eq_false c11
   have tN:decide (0<WY.length)=false:=decide_eq_false (by omega)
   clear c11
   (first|rw [mY]|(simp only [bI,dV];rw [mY])|rw [tN]|skip)
   rotate_left
   all_goals (go_wp2)
   ·go_meet
    case rel=>exact ⟨_,(rd WY 0),z1,H,⟨by have:=HK1.out;first|omega|exact Nat.le_refl _⟩,⟨by (with_reducible repeat (first|apply Kd.dE|apply Kd.dn|apply Kd.dY));exact Kd.dL ajq.out (fun _ hk=>hk.1.1)⟩,⟨zB HB⟩⟩
   go_meet
   case rel=>exact ⟨_,(0),z1,H,⟨by have:=HK1.out;first|omega|exact Nat.le_refl _⟩,⟨by (with_reducible repeat (first|apply Kd.dE|apply Kd.dn|apply Kd.dY));exact Kd.dL ajq.out (fun _ hk=>hk.1.1)⟩,⟨zB HB⟩⟩
  case rest =>
   try clear hx9
   try clear qi9
   try clear Ia
   obtain ⟨kq,Il,rfl,H,HJ3,xM,HB⟩:=hcut
   obtain _|kj3:=kq
   ·exact zz H rfl
   simp only [ax.j1] at H
   go_wp2
   go_loopg [3,6,7] kj3 (fun kq v3 v6 v7 w' => ∃ (MW:ByteArray) (Il:Int) (AP:Int),v3 = .string MW∧v6 = .int .i64 Il∧v7 = .int .i64 AP∧ae (ax.l1 kq MW WH Il AP=some r)∧ae (kq≤kj3)∧ae (Kd.R (Kd.int .i64) 3 w' w.heap.size (fun k_=>(w.heap.size≤k_)) awp WH)∧ae (Below w.heap.size w w'))
   case atStart=>exact ⟨(gY),(Il),(0),z1,z1,z1,H,zL,⟨zR xM⟩,⟨zB HB⟩⟩
   clear H
   try clear hx9
   try clear qi9
   try clear Ia
   obtain ⟨MW,Il,AP,rfl,rfl,rfl,H,HK3,xM,HB⟩:=hrel
   obtain _|k3:=gk
   ·exact zz H rfl
   simp only [ax.l1] at H
   replace H:=zsd H
   rcases H with ⟨qJ,H⟩|⟨qJ,H⟩
   replace H:=zs H
   rcases H with ⟨c14,H⟩|⟨c14,H⟩
   have uH:decide (0<(WH.length:Int))=true:=decide_eq_true c14
   have G5:decide (0<WH.length)=true:=decide_eq_true (by omega)
   clear c14
   obtain ⟨aaj,ajs,H⟩:=zw H
   replace H:=zi H
   obtain ⟨c15,H⟩:=H
   have Bf:=eq_true c15
   have Qm:decide ((strOfNums aaj).size+MW.size≤9223372036854775807)=true:=decide_eq_true c15
   try have aEd:(9223372036854775807<(strOfNums aaj).size+MW.size)=False:=eq_false (Nat.not_lt.2 c15)
   try have aJO:(9223372036854775807<(strOfNums aaj).size+MW.size)=False:=eq_false (by have h_:=c15;have l1_:(⟨#[46]⟩:ByteArray).size=1:=rfl;have l2_:(⟨#[48,46]⟩:ByteArray).size=2:=rfl;have l3_:(⟨#[101]⟩:ByteArray).size=1:=rfl;(try simp only [ByteArray.size_append,ByteArray.size_extract] at h_);omega)
   try have aJP:(9223372036854775807<(strOfNums aaj).size+MW.size)=False:=eq_false (by have h_:=c15;have l1_:(⟨#[46]⟩:ByteArray).size=1:=rfl;have l2_:(⟨#[48,46]⟩:ByteArray).size=2:=rfl;have l3_:(⟨#[101]⟩:ByteArray).size=1:=rfl;(try simp only [ByteArray.size_append,ByteArray.size_extract] at h_);omega)
   obtain ⟨Ez,Ad,LW⟩:=Kd.eF xM.out
   subst LW
   rotate_left
   have uH:decide (0<(WH.length:Int))=false:=decide_eq_false c14
   have G5:decide (0<WH.length)=false:=decide_eq_false (by omega)
   clear c14
   replace H:=Em H
   rcases H with ⟨Vh,H⟩|⟨Vh,H⟩
   obtain ⟨aak,ajt,H⟩:=zw H
   replace H:=zi H
   obtain ⟨c21,H⟩:=H
   have Ae:=eq_true c21
   have YG:decide ((strOfNums aak).size+MW.size≤9223372036854775807)=true:=decide_eq_true c21
   try have aEe:(9223372036854775807<(strOfNums aak).size+MW.size)=False:=eq_false (Nat.not_lt.2 c21)
   try have aJQ:(9223372036854775807<(strOfNums aak).size+MW.size)=False:=eq_false (by have h_:=c21;have l1_:(⟨#[46]⟩:ByteArray).size=1:=rfl;have l2_:(⟨#[48,46]⟩:ByteArray).size=2:=rfl;have l3_:(⟨#[101]⟩:ByteArray).size=1:=rfl;(try simp only [ByteArray.size_append,ByteArray.size_extract] at h_);omega)
   try have aJR:(9223372036854775807<(strOfNums aak).size+MW.size)=False:=eq_false (by have h_:=c21;have l1_:(⟨#[46]⟩:ByteArray).size=1:=rfl;have l2_:(⟨#[48,46]⟩:ByteArray).size=2:=rfl;have l3_:(⟨#[101]⟩:ByteArray).size=1:=rfl;(try simp only [ByteArray.size_append,ByteArray.size_extract] at h_);omega)
   obtain ⟨abS,OA,abT⟩:=Kd.eF xM.out
   subst abT
   rotate_left
   obtain ⟨aoE,abP,ZJ⟩:=Kd.eF xM.out
   subst ZJ
   rotate_left
   rotate_left
   all_goals (go_wp2_with (first|((with_reducible refine ay (N:=40) rfl ?_);(try (refine kY (by rfl) ?_;dsimp only));refine Kd.yx (Kd.int .u8) _ 5 ?hg (N:=40) ?hd (xs:=([(wrap64 (48+(Int.tmod Il 10))) % 256]:List Int)) (inner := [.int .u8 ((wrap64 (48+(Int.tmod Il 10))) % 256)]) (ok:=fun _=>True) (okp:=fun _=>True) ?hr ?hp (fun _ hk=>hk) trivial (Below.refl _ _) (Nat.le_refl _) (by simp) ?_;(case hd=>rfl);(case hg=>rfl);(case hr=>first|(go_simp;done)|(go_simp;rfl));(case hp=>exact (jm.one (show Kd.M (Kd.int .u8) _ _ _ ((wrap64 (48+(Int.tmod Il 10))) % 256) [.int .u8 ((wrap64 (48+(Int.tmod Il 10))) % 256)] from rfl) (jm.none _ _)));intro aJS w17 aju hb hg_ jf;clear hg_ jf;(first|rw [← ajs.out] at aju|(simp only [Int.reduceToNat] at aju;rw [← ajs.out] at aju));replace xM:=zRb xM hb;have arX:=am (Kd.eP (Kd.nM (M:=fun k_=>(w.heap.size≤k_)) aju (zS HB) (fun k_ h_=>h_)) (zS HB));replace HB:=zBs HB hb;clear hb aju;have aEf:=zT (P:=Tryz.prog) Tryz.underlying104 Tryz.underlying5 Tryz.underlying9 (Kd.yE arX.out))|((with_reducible refine ay (N:=40) rfl ?_);(try (refine kY (by rfl) ?_;dsimp only));refine Kd.yx (Kd.int .u8) _ 5 ?hg (N:=40) ?hd (xs:=([(wrap64 (48+(Int.tmod Il 10))) % 256]:List Int)) (inner := [.int .u8 ((wrap64 (48+(Int.tmod Il 10))) % 256)]) (ok:=fun _=>True) (okp:=fun _=>True) ?hr ?hp (fun _ hk=>hk) trivial (Below.refl _ _) (Nat.le_refl _) (by simp) ?_;(case hd=>rfl);(case hg=>rfl);(case hr=>first|(go_simp;done)|(go_simp;rfl));(case hp=>exact (jm.one (show Kd.M (Kd.int .u8) _ _ _ ((wrap64 (48+(Int.tmod Il 10))) % 256) [.int .u8 ((wrap64 (48+(Int.tmod Il 10))) % 256)] from rfl) (jm.none _ _)));intro aJT w23 ajv hb hg_ jf;clear hg_ jf;(first|rw [← ajt.out] at ajv|(simp only [Int.reduceToNat] at ajv;rw [← ajt.out] at ajv));replace xM:=zRb xM hb;have arY:=am (Kd.eP (Kd.nM (M:=fun k_=>(w.heap.size≤k_)) ajv (zS HB) (fun k_ h_=>h_)) (zS HB));replace HB:=zBs HB hb;clear hb ajv;have aEg:=zT (P:=Tryz.prog) Tryz.underlying104 Tryz.underlying5 Tryz.underlying9 (Kd.yE arY.out))))
   ·go_roundg k3
    case measure=>have:=HK1.out;have:=HJ3.out;have:=HK3.out;omega
    case rel=>exact ⟨((strOfNums aaj) ++ MW),(wrap64 (Int.tdiv Il 10)),(wrap64 (AP+1)),z1,z1,z1,H,⟨by have:=HK1.out;have:=HJ3.out;have:=HK3.out;omega⟩,⟨zR xM⟩,⟨zB HB⟩⟩
   ·go_roundg k3
    case measure=>have:=HK1.out;have:=HJ3.out;have:=HK3.out;omega
    case rel=>exact ⟨((strOfNums aak) ++ MW),(wrap64 (Int.tdiv Il 10)),(wrap64 (AP+1)),z1,z1,z1,H,⟨by have:=HK1.out;have:=HJ3.out;have:=HK3.out;omega⟩,⟨zR xM⟩,⟨zB HB⟩⟩
   ·go_roundg k3
    case measure=>have:=HK1.out;have:=HJ3.out;have:=HK3.out;omega
    case rel=>exact ⟨(WH),(MW),z1,H,⟨by have:=HK1.out;have:=HJ3.out;have:=HK3.out;omega⟩,⟨Kd.bD (Kd.R_V (zR xM)) (fun k_ hk=>by exact (.inr (hk)))⟩,⟨zB HB⟩⟩
   go_roundg k3
   case measure=>have:=HK1.out;have:=HJ3.out;have:=HK3.out;omega
   case rel=>exact ⟨(WH),(MW),z1,H,⟨by have:=HK1.out;have:=HJ3.out;have:=HK3.out;omega⟩,⟨Kd.bD (Kd.R_V (zR xM)) (fun k_ hk=>by exact (.inr (hk)))⟩,⟨zB HB⟩⟩
 have uU:decide (0<(kW.length:Int))=false:=decide_eq_false c2
 have LJ:decide (0<kW.length)=false:=decide_eq_false (by omega)
 clear c2
 replace H:=zsk H
 rcases H with ⟨Ew,UH,H⟩|⟨Ew,UH,c27,H⟩
 obtain rfl:=Option.some.inj H.out
 obtain ⟨aJU,aJV,aEh⟩:=Kd.dG iU.out
 subst aEh
 rotate_left
 obtain rfl:=Option.some.inj H.out
 obtain ⟨aoJ,QB,ad8⟩:=Kd.dG iU.out
 subst ad8
 rotate_left
 all_goals (go_wp2)
 ·go_ret
  exact ⟨z2,zB HB⟩
 go_ret
 exact ⟨z2,zB HB⟩
def cu.l0:Nat→Int→List Int→Int→Option (List Int)
  | 0,_,_,_=>none
  | k+1,x0,x3,x4=>if x4<x0 then ((az.f k x3 (([5]:List Int))).bind fun ajw=>(cu.l0 k x0 ajw (wrap64 (x4+1)))) else (some x3)
def cu.f (k:Nat) (a0:Int):Option (List Int):=cu.l0 k a0 (([1]:List Int)) 0
theorem cu.calls (k:Nat) (a0:Int) (r:List Int) (w:World) (h:cu.f k a0=some r) :
    Calls Tryz.prog 111 #[.int .i64 a0] w fun e w' => ∃ v0_:Value,e = .returned (v0_)∧Kd.R (Kd.int .i64) 3 w' w.heap.size (fun _=>True) v0_ r∧Below w.heap.size w w':=by
 have HB:=am (Below.refl w.heap.size w)
 have H:=am h
 unfold cu.f at H
 clear h
 generalize ajx:(([1]:List Int):List Int)=aEi at H
 have ajy:=zY ajx
 clear ajx
 go_enter Tryz.func111,Tryz.ntmps111
 go_wp2_with (first|((with_reducible refine ay (N:=5) rfl ?_);refine Kd.yx (Kd.int .i64) _ 3 ?hg (N:=5) ?hd (xs:=([1]:List Int)) (inner := [.int .i64 1]) (ok:=fun _=>True) (okp:=fun _=>True) ?hr ?hp (fun _ hk=>hk) trivial (Below.refl _ _) (Nat.le_refl _) (by simp) ?_;(case hd=>rfl);(case hg=>rfl);(case hr=>first|(go_simp;done)|(go_simp;rfl));(case hp=>exact (jm.one (show Kd.M (Kd.int .i64) _ _ _ 1 [.int .i64 1] from rfl) (jm.none _ _)));intro aJW w2 ho3 hb hg_ jf;clear hg_ jf;(first|rw [← ajy.out] at ho3|(simp only [Int.reduceToNat] at ho3;rw [← ajy.out] at ho3));have arZ:=am (Kd.eP ho3 (zS HB));replace HB:=zBs HB hb;clear hb ho3))
 go_loopg [3,4] k (fun kq v3 v4 w' => ∃ (gY:List Int) (wP:Int),v4 = .int .i64 wP∧ae (cu.l0 kq a0 gY wP=some r)∧ae (kq≤k)∧ae (Kd.R (Kd.int .i64) 3 w' w.heap.size (fun _=>True) v3 gY)∧ae (Below w.heap.size w w'))
 case atStart=>exact ⟨(aEi),(0),z1,H,zL,⟨zR arZ⟩,⟨zB HB⟩⟩
 clear H
 obtain ⟨gY,wP,rfl,H,HK1,sK,HB⟩:=hrel
 obtain _|k1:=gk
 ·exact zz H rfl
 simp only [cu.l0] at H
 replace H:=zsd H
 rcases H with ⟨kM,H⟩|⟨kM,H⟩
 generalize ajz:(([5]:List Int):List Int)=aEj at H
 have ajA:=zY ajz
 clear ajz
 replace H:=zo H
 obtain ⟨ajw,A5,H⟩:=H
 rotate_left
 obtain rfl:=Option.some.inj H.out
 rotate_left
 all_goals (go_wp2_with (first|((with_reducible refine ay (N:=12) rfl ?_);refine Kd.yx (Kd.int .i64) _ 3 ?hg (N:=12) ?hd (xs:=([5]:List Int)) (inner := [.int .i64 5]) (ok:=fun _=>True) (okp:=fun _=>True) ?hr ?hp (fun _ hk=>hk) trivial (Below.refl _ _) (Nat.le_refl _) (by simp) ?_;(case hd=>rfl);(case hg=>rfl);(case hr=>first|(go_simp;done)|(go_simp;rfl));(case hp=>exact (jm.one (show Kd.M (Kd.int .i64) _ _ _ 5 [.int .i64 5] from rfl) (jm.none _ _)));intro aJX w6 ho7 hb hg_ jf;clear hg_ jf;(first|rw [← ajA.out] at ho7|(simp only [Int.reduceToNat] at ho7;rw [← ajA.out] at ho7));have QT:=am (Kd.eP (Kd.lQ ho7 (Kd.sU (zR sK))) (zS HB));replace sK:=am (Kd.iM (zR sK) (Kd.gV ho7) hb);replace HB:=zBs HB hb;clear hb ho7;obtain ⟨Ao8,co8,eo8⟩:=Kd.eF sK.out;subst eo8;obtain ⟨Ao9,co9,eo9⟩:=Kd.eF QT.out;subst eo9)|((with_reducible refine af (f:=86) rfl ?_);refine zc (some 13) Tryz.func86 #[.slice Ao8 gY.length co8, .slice Ao9 aEj.length co9] (az.calls _ _ _ _ _ _ _ _ _ (zC ((Kd.aW sK.out).2.2)) ((Kd.aW sK.out).2.1) (zC ((Kd.aW QT.out).2.2)) ((Kd.aW QT.out).2.1) A5.out) ?_;rintro e w10 ⟨aEk,rfl,ho0,hb⟩;refine ⟨_,rfl,?_⟩;have ajB:=am (Kd.eP (Kd.lQ (Kd.lQ ho0 (Kd.sU (zR sK))) (Kd.sU (zR QT))) (zS HB));replace sK:=am (Kd.iM (zR sK) (Kd.gV ho0) hb);replace QT:=am (Kd.iM (zR QT) (Kd.gV ho0) hb);replace HB:=zBs HB hb;clear hb ho0)))
 ·go_roundg k1
  case measure=>have:=HK1.out;omega
  case rel=>exact ⟨(ajw),(wrap64 (wP+1)),z1,H,(zH HK1),⟨by (with_reducible repeat (first|apply Kd.dE|apply Kd.dn|apply Kd.dY));exact Kd.dL ajB.out (fun _ hk=>trivial)⟩,⟨zB HB⟩⟩
 go_ret
 exact ⟨_,z2,zR sK,zB HB⟩
end Go.Proofs.Yy.PTx
end
