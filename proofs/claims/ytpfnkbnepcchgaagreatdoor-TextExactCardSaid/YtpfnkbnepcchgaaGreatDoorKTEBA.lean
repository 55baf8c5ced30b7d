/- Part 27 of what the proof needs. -/
import Derived.Test.YtpfnkbnepcchgaaGreatDoorKTEAZ
set_option linter.unusedSimpArgs false
set_option linter.unusedVariables false
section
set_option maxHeartbeats 8000000
set_option maxRecDepth 100000
namespace Go.Proofs.Yy.PTx
open Go.RowKit Go.Proofs.Yy.Z Go.Proofs.Yw.PrintWords Go.Proofs.Yw.PrintLast Go.Proofs.Yw.PrintMore
open Go.Proofs.Yy.M
attribute [local go_sem] dw dQ lD lF lC lG
attribute [local go_sem] gy gz ja jc fC fD gQ gK
def jG.f (a0:Option Int):Option (Int):=if a0.isNone=true then (some (-1)) else (if (a0.getD 0)=13 then (some 13) else (if (a0.getD 0)=14 then (some 14) else (if (a0.getD 0)=15 then (some 15) else (if (a0.getD 0)=16 then (some 16) else (if (a0.getD 0)=17 then (some 17) else (if (a0.getD 0)=18 then (some 18) else (if (a0.getD 0)=19 then (some 19) else (if (a0.getD 0)=20 then (some 20) else (if (a0.getD 0)=21 then (some 21) else (if (a0.getD 0)=22 then (some 22) else (if (a0.getD 0)=23 then (some 23) else (if (a0.getD 0)=24 then (some 24) else (some (-1))))))))))))))
theorem jG.calls (a0:Option Int) (r:Int) (w:World) (h:jG.f a0=some r) :
    Calls Tryz.prog 46 #[qm a0] w fun e w'=>e = .returned (.int .i64 r)∧dX w w':=by
 have yL:=Tryz.underlying27
 have hu64:=Tryz.underlying64
 have H:=am h
 unfold jG.f at H
 clear h
 rcases a0 with _|aJC
 replace H:=zb1 H
 simp only [ak,aj]
 obtain rfl:=Option.some.inj H.out
 rotate_left
 replace H:=zb0 H
 try simp only [Option.getD_some] at H
 simp only [ak,aj]
 replace H:=zsk H
 rcases H with ⟨uU,LJ,H⟩|⟨uU,LJ,c2,H⟩
 obtain rfl:=Option.some.inj H.out
 rotate_left
 replace H:=zsk H
 rcases H with ⟨pg,Jv,H⟩|⟨pg,Jv,c3,H⟩
 obtain rfl:=Option.some.inj H.out
 rotate_left
 replace H:=zsk H
 rcases H with ⟨kM,rY,H⟩|⟨kM,rY,c4,H⟩
 obtain rfl:=Option.some.inj H.out
 rotate_left
 replace H:=zsk H
 rcases H with ⟨rG,xw,H⟩|⟨rG,xw,c5,H⟩
 obtain rfl:=Option.some.inj H.out
 rotate_left
 replace H:=zsk H
 rcases H with ⟨rF,Bg,H⟩|⟨rF,Bg,c6,H⟩
 obtain rfl:=Option.some.inj H.out
 rotate_left
 replace H:=zsk H
 rcases H with ⟨wQ,Bh,H⟩|⟨wQ,Bh,c7,H⟩
 obtain rfl:=Option.some.inj H.out
 rotate_left
 replace H:=zsk H
 rcases H with ⟨uD,Ey,H⟩|⟨uD,Ey,c8,H⟩
 obtain rfl:=Option.some.inj H.out
 rotate_left
 replace H:=zsk H
 rcases H with ⟨yI,Ed,H⟩|⟨yI,Ed,c9,H⟩
 obtain rfl:=Option.some.inj H.out
 rotate_left
 replace H:=zsk H
 rcases H with ⟨qx,xx,H⟩|⟨qx,xx,c10,H⟩
 obtain rfl:=Option.some.inj H.out
 rotate_left
 replace H:=zsk H
 rcases H with ⟨mY,tN,H⟩|⟨mY,tN,c11,H⟩
 obtain rfl:=Option.some.inj H.out
 rotate_left
 replace H:=zsk H
 rcases H with ⟨nO,rH,H⟩|⟨nO,rH,c12,H⟩
 obtain rfl:=Option.some.inj H.out
 rotate_left
 replace H:=zsk H
 rcases H with ⟨qJ,Jw,H⟩|⟨qJ,Jw,c13,H⟩
 obtain rfl:=Option.some.inj H.out
 rotate_left
 obtain rfl:=Option.some.inj H.out
 rotate_left
 all_goals (go_enter Tryz.func46,Tryz.ntmps46;go_wp2)
 ·go_ret
  exact ⟨z1,z4⟩
 ·go_ret
  exact ⟨z1,z4⟩
 ·go_ret
  exact ⟨z1,z4⟩
 ·go_ret
  exact ⟨z1,z4⟩
 ·go_ret
  exact ⟨z1,z4⟩
 ·go_ret
  exact ⟨z1,z4⟩
 ·go_ret
  exact ⟨z1,z4⟩
 ·go_ret
  exact ⟨z1,z4⟩
 ·go_ret
  exact ⟨z1,z4⟩
 ·go_ret
  exact ⟨z1,z4⟩
 ·go_ret
  exact ⟨z1,z4⟩
 ·go_ret
  exact ⟨z1,z4⟩
 ·go_ret
  exact ⟨z1,z4⟩
 go_ret
 exact ⟨z1,z4⟩
def gU.f (a0:Option Int):Option (Int):=if a0.isNone=true then (some 0) else (if (a0.getD 0)=1 then (some 1) else (if (a0.getD 0)=2 then (some 2) else (if (a0.getD 0)=3 then (some 3) else (if (a0.getD 0)=4 then (some 4) else (if (a0.getD 0)=5 then (some 5) else (if (a0.getD 0)=6 then (some 6) else (if (a0.getD 0)=7 then (some 7) else (if (a0.getD 0)=8 then (some 8) else (if (a0.getD 0)=9 then (some 9) else (if (a0.getD 0)=10 then (some 10) else (if (a0.getD 0)=11 then (some 11) else (if (a0.getD 0)=12 then (some 12) else ((jG.f (some (a0.getD 0))).bind fun arR=>(some arR))))))))))))))
theorem gU.calls (a0:Option Int) (r:Int) (w:World) (h:gU.f a0=some r) :
    Calls Tryz.prog 15 #[qm a0] w fun e w'=>e = .returned (.int .i64 r)∧dX w w':=by
 have yL:=Tryz.underlying27
 have hu64:=Tryz.underlying64
 have H:=am h
 unfold gU.f at H
 clear h
 rcases a0 with _|aDP
 replace H:=zb1 H
 simp only [ak,aj]
 obtain rfl:=Option.some.inj H.out
 rotate_left
 replace H:=zb0 H
 try simp only [Option.getD_some] at H
 simp only [ak,aj]
 replace H:=zsk H
 rcases H with ⟨uU,LJ,H⟩|⟨uU,LJ,c2,H⟩
 obtain rfl:=Option.some.inj H.out
 rotate_left
 replace H:=zsk H
 rcases H with ⟨pg,Jv,H⟩|⟨pg,Jv,c3,H⟩
 obtain rfl:=Option.some.inj H.out
 rotate_left
 replace H:=zsk H
 rcases H with ⟨kM,rY,H⟩|⟨kM,rY,c4,H⟩
 obtain rfl:=Option.some.inj H.out
 rotate_left
 replace H:=zsk H
 rcases H with ⟨rG,xw,H⟩|⟨rG,xw,c5,H⟩
 obtain rfl:=Option.some.inj H.out
 rotate_left
 replace H:=zsk H
 rcases H with ⟨rF,Bg,H⟩|⟨rF,Bg,c6,H⟩
 obtain rfl:=Option.some.inj H.out
 rotate_left
 replace H:=zsk H
 rcases H with ⟨wQ,Bh,H⟩|⟨wQ,Bh,c7,H⟩
 obtain rfl:=Option.some.inj H.out
 rotate_left
 replace H:=zsk H
 rcases H with ⟨uD,Ey,H⟩|⟨uD,Ey,c8,H⟩
 obtain rfl:=Option.some.inj H.out
 rotate_left
 replace H:=zsk H
 rcases H with ⟨yI,Ed,H⟩|⟨yI,Ed,c9,H⟩
 obtain rfl:=Option.some.inj H.out
 rotate_left
 replace H:=zsk H
 rcases H with ⟨qx,xx,H⟩|⟨qx,xx,c10,H⟩
 obtain rfl:=Option.some.inj H.out
 rotate_left
 replace H:=zsk H
 rcases H with ⟨mY,tN,H⟩|⟨mY,tN,c11,H⟩
 obtain rfl:=Option.some.inj H.out
 rotate_left
 replace H:=zsk H
 rcases H with ⟨nO,rH,H⟩|⟨nO,rH,c12,H⟩
 obtain rfl:=Option.some.inj H.out
 rotate_left
 replace H:=zsk H
 rcases H with ⟨qJ,Jw,H⟩|⟨qJ,Jw,c13,H⟩
 obtain rfl:=Option.some.inj H.out
 rotate_left
 replace H:=zo H
 obtain ⟨arR,A14,H⟩:=H
 obtain rfl:=Option.some.inj H.out
 have awk:=fun W=>jG.calls (some aDP) arR W A14.out
 try simp only [ak,aj] at awk
 rotate_left
 all_goals (go_enter Tryz.func15,Tryz.ntmps15;go_wp2_with (first|(go_at_call 46;(with_reducible refine (awk _).mono ?_);rintro e w' ⟨rfl,⟨nd,rfl⟩⟩)))
 ·go_ret
  exact ⟨z1,z4⟩
 ·go_ret
  exact ⟨z1,z4⟩
 ·go_ret
  exact ⟨z1,z4⟩
 ·go_ret
  exact ⟨z1,z4⟩
 ·go_ret
  exact ⟨z1,z4⟩
 ·go_ret
  exact ⟨z1,z4⟩
 ·go_ret
  exact ⟨z1,z4⟩
 ·go_ret
  exact ⟨z1,z4⟩
 ·go_ret
  exact ⟨z1,z4⟩
 ·go_ret
  exact ⟨z1,z4⟩
 ·go_ret
  exact ⟨z1,z4⟩
 ·go_ret
  exact ⟨z1,z4⟩
 ·go_ret
  exact ⟨z1,z4⟩
 go_ret
 exact ⟨z1,z4⟩
def fM.f (k:Nat) (a0:Int) (a1:Int):Option (Int × Int):=(je.f k a0 a1).bind fun Zg=>(if Zg.2=0 then (if Zg.1=0 then (some (0,0)) else ((di.f k (wrap64 (a0 - 1))).bind fun awl=>(if Zg.1=awl then (some (2,0)) else (some (1,0))))) else (some (0,Zg.2)))
theorem fM.calls (k:Nat) (a0:Int) (a1:Int) (r1:Int) (r2:Int) (w:World) (h:fM.f k a0 a1=some (r1,r2)) :
    Calls Tryz.prog 167 #[.int .i64 a0, .int .u64 a1] w fun e w'=>e = .returned (.tuple #[.int .i64 r1, .int .i64 r2])∧Below w.heap.size w w':=by
 have HB:=am (Below.refl w.heap.size w)
 have H:=am h
 unfold fM.f at H
 clear h
 replace H:=zo H
 obtain ⟨⟨aJD,aJE⟩,A3,H⟩:=H
 try dsimp only at H
 replace H:=zsk H
 rcases H with ⟨kM,rY,H⟩|⟨kM,rY,c4,H⟩
 replace H:=zsk H
 rcases H with ⟨rG,xw,H⟩|⟨rG,xw,c5,H⟩
 obtain ⟨rfl,rfl⟩:=zJ2 H
 rotate_left
 replace H:=zo H
 obtain ⟨awl,A7,H⟩:=H
 replace H:=zsk H
 rcases H with ⟨uD,Ey,H⟩|⟨uD,Ey,c8,H⟩
 obtain ⟨rfl,rfl⟩:=zJ2 H
 rotate_left
 obtain ⟨rfl,rfl⟩:=zJ2 H
 rotate_left
 obtain ⟨rfl,rfl⟩:=zJ2 H
 rotate_left
 all_goals (go_enter Tryz.func167,Tryz.ntmps167;go_wp2_with (first|((with_reducible refine af (f:=59) rfl ?_);refine zc (some 11) Tryz.func59 _ (je.calls _ _ _ _ _ _ A3.out) ?_;rintro e w9 ⟨rfl,hb⟩;refine ⟨_,rfl,?_⟩;replace HB:=zBs HB hb;clear hb)|((with_reducible refine af (f:=27) rfl ?_);refine zc (some 23) Tryz.func27 _ (di.calls _ _ _ _ A7.out) ?_;rintro e w' ⟨rfl,⟨nd,rfl⟩⟩;refine ⟨_,rfl,?_⟩)))
 ·go_ret2
  exact ⟨z2,zB HB⟩
 ·go_ret2
  exact ⟨z2,zB HB⟩
 ·go_ret2
  exact ⟨z2,zB HB⟩
 go_ret2
 exact ⟨z2,zB HB⟩
def gB.f (k:Nat) (a0:Int) (a1:Int):Option (ByteArray):=(bf.f k a1 a0).bind fun MV=>(if 0<(MV.size:Int) then (if (bt MV 0)=49 then ((bf.f k (IntKind.u64.wrap (-a1)) a0).bind fun akq=>(if 1≤(akq.size:Int) then (some (akq.extract 1 akq.size)) else (none))) else (if 1≤(MV.size:Int) then (some (MV.extract 1 MV.size)) else (none))) else (none))
theorem gB.calls (k:Nat) (a0:Int) (a1:Int) (r:ByteArray) (w:World) (h:gB.f k a0 a1=some r) :
    Calls Tryz.prog 202 #[.int .i64 a0, .int .u64 a1] w fun e w'=>e = .returned (.string r)∧Below w.heap.size w w':=by
 have HB:=am (Below.refl w.heap.size w)
 have H:=am h
 unfold gB.f at H
 clear h
 replace H:=zo H
 obtain ⟨MV,A3,H⟩:=H
 replace H:=zi H
 obtain ⟨c4,H⟩:=H
 have kM:decide (0<(MV.size:Int))=true:=decide_eq_true c4
 have rY:decide (0<MV.size)=true:=decide_eq_true (by omega)
 clear c4
 replace H:=zsk H
 rcases H with ⟨rF,Bg,H⟩|⟨rF,Bg,c6,H⟩
 replace H:=zo H
 obtain ⟨akq,A7,H⟩:=H
 replace H:=zit H
 obtain ⟨uD,Ey,H⟩:=H
 obtain rfl:=Option.some.inj H.out
 rotate_left
 replace H:=zit H
 obtain ⟨mY,tN,H⟩:=H
 obtain rfl:=Option.some.inj H.out
 rotate_left
 all_goals (go_enter Tryz.func202,Tryz.ntmps202;go_wp2_with (first|((with_reducible refine af (f:=88) rfl ?_);refine zc (some 8) Tryz.func88 _ (bf.calls _ _ _ _ _ A3.out) ?_;rintro e w9 ⟨rfl,hb⟩;refine ⟨_,rfl,?_⟩;replace HB:=zBs HB hb;clear hb;have p5:0≤(0:Int):=(by omega);have q5:0<MV.size:=(by have:(0:Int)<(MV.size:Int):=zD;omega);have hx5:∀ h:0<MV.size,((MV[0]'h).toNat:Int)=bt MV 0:=uC MV 0;clear p5;have qi5:(0<(MV.size:Int))=True:=eq_true (zD);replace q5:=eq_true q5)|((with_reducible refine af (f:=88) rfl ?_);refine zc (some 15) Tryz.func88 _ (bf.calls _ _ _ _ _ A7.out) ?_;rintro e w10 ⟨rfl,hb⟩;refine ⟨_,rfl,?_⟩;replace HB:=zBs HB hb;clear hb)))
 ·go_ret
  exact ⟨z2,zB HB⟩
 go_ret
 exact ⟨z2,zB HB⟩
def dm.l0:Nat→ByteArray→Int→Option (Int)
  | 0,_,_=>none
  | k+1,x0,x3=>if x3<(x0.size:Int) then (if 0≤x3 then (if 0<(x0.size:Int) then (if (bt x0 x3)=(bt x0 0) then (dm.l0 k x0 (wrap64 (x3+1))) else (some x3)) else (none)) else (none)) else (some x3)
def dm.f (k:Nat) (a0:ByteArray):Option (Int):=dm.l0 k a0 0
theorem dm.calls (k:Nat) (a0:ByteArray) (r:Int) (w:World) (h:dm.f k a0=some r) :
    Calls Tryz.prog 203 #[.string a0] w fun e w'=>e = .returned (.int .i64 r)∧dX w w':=by
 have H:=am h
 unfold dm.f at H
 clear h
 go_enter Tryz.func203,Tryz.ntmps203
 go_wp2
 repeat (go_quiet (fail);try go_wp2)
 go_loopg [3] k (fun kq v3 w' => ∃ (gY:Int),v3 = .int .i64 gY∧ae (dm.l0 kq a0 gY=some r)∧ae (kq≤k)∧dX w w')
 case atStart=>exact ⟨(0),z1,H,zL,z4⟩
 clear H
 obtain ⟨gY,rfl,H,HK1,⟨m1,rfl⟩⟩:=hrel
 obtain _|k1:=gk
 ·exact zz H rfl
 simp only [dm.l0] at H
 replace H:=zsd H
 rcases H with ⟨uU,H⟩|⟨uU,H⟩
 replace H:=zid H
 obtain ⟨pg,H⟩:=H
 replace H:=zi H
 obtain ⟨c5,H⟩:=H
 have rG:decide (0<(a0.size:Int))=true:=decide_eq_true c5
 have xw:decide (0<a0.size)=true:=decide_eq_true (by omega)
 clear c5
 replace H:=zsk H
 rcases H with ⟨wQ,Bh,H⟩|⟨wQ,Bh,c7,H⟩
 have p4:0≤(gY:Int):=zD
 have q4:gY<(a0.size:Int):=zD
 have hx4:=uC a0 gY
 replace p4:=eq_true p4
 replace q4:=eq_true q4
 have p6:0≤(0:Int):=(by omega)
 have q6:0<a0.size:=(by have:(0:Int)<(a0.size:Int):=zD;omega)
 have hx6:∀ h:0<a0.size,((a0[0]'h).toNat:Int)=bt a0 0:=uC a0 0
 clear p6
 have qi6:(0<(a0.size:Int))=True:=eq_true (zD)
 replace q6:=eq_true q6
 rotate_left
 obtain rfl:=Option.some.inj H.out
 have p4:0≤(gY:Int):=zD
 have q4:gY<(a0.size:Int):=zD
 have hx4:=uC a0 gY
 replace p4:=eq_true p4
 replace q4:=eq_true q4
 have p6:0≤(0:Int):=(by omega)
 have q6:0<a0.size:=(by have:(0:Int)<(a0.size:Int):=zD;omega)
 have hx6:∀ h:0<a0.size,((a0[0]'h).toNat:Int)=bt a0 0:=uC a0 0
 clear p6
 have qi6:(0<(a0.size:Int))=True:=eq_true (zD)
 replace q6:=eq_true q6
 rotate_left
 obtain rfl:=Option.some.inj H.out
 rotate_left
 all_goals (go_wp2;repeat (go_quiet (fail);try go_wp2))
 ·go_roundg k1
  case measure=>have:=HK1.out;omega
  case rel=>exact ⟨(wrap64 (gY+1)),z1,H,(zH HK1),z4⟩
 ·go_ret
  exact ⟨z1,z4⟩
 go_ret
 exact ⟨z1,z4⟩
end Go.Proofs.Yy.PTx
end
section
namespace Go.Proofs.Yy.PTx
open Go.RowKit Go.Proofs.Yw.PrintWords Go.Proofs.Yw.PrintLast Go.Proofs.Yw.PrintMore
def jD (s:ByteArray) (r:Int):ByteArray:=if r<s.size then s.extract (r+1).toNat s.size else ⟨#[]⟩
def qX (rest:ByteArray):Nat:=min rest.size 2
def gZ.f (k:Nat) (n p:Int):Option (Bool × Bool × Int × Int × Int × Int × Int × Int × Int) :=
 (fM.f k n p).bind fun b=>if b.1=1∧b.2=0 then
  (gB.f k n p).bind fun s=>(bf.f k p n).bind fun t=>(dm.f k s).bind fun r =>
   if 0<t.size∧0<s.size∧s.size≤64∧0≤r∧r≤64 then
    (aV.f k ((jD s r).extract 0 (qX (jD s r)) ++ ⟨#[48,48]⟩ |>.extract 0 2)).bind fun e =>
    (aV.f k ((jD s r).extract (qX (jD s r)) (jD s r).size)).bind fun g =>
    if 0≤e∧e≤3 then
     some (decide (bt t 0=49),decide (bt s 0=49),r,(if bt s 0=49 then r - 1 else -r),qX (jD s r),e,(jD s r).size - qX (jD s r),g,0)
    else none
   else none
 else none
def RAt (w:World) (neg ones:Bool) (r:Int) (v9:Value) (wc:World):Prop := ∃ G:Nat,v9 = .pointer (some ⟨G,0,none⟩)∧w.heap.size≠G∧ae (w.heap.size≤G)∧ae (wc.heap[w.heap.size]? = some (.cells #[.bool false, .bool false, .int .i64 0, .int .i64 0, .int .i64 0, .int .i64 0, .int .i64 0, .int .u64 0] 140 (0,0)))∧ae (wc.heap[G]? = some (.cells #[.bool neg, .bool ones, .int .i64 r, .int .i64 0, .int .i64 0, .int .i64 0, .int .i64 0, .int .u64 0] 140 (0,0)))∧ae (Below w.heap.size w wc)
set_option maxHeartbeats 4000000 in
set_option maxRecDepth 100000 in
theorem KL (k:Nat) (n p:Int) (s t rest:ByteArray) (neg ones:Bool) (r R:Int) (eb:Nat) (e g:Int) (w:World)
  (hk:fM.f k n p=some (1,0)) (hs:gB.f k n p=some s) (ht:bf.f k p n=some t) (hr:dm.f k s=some r)
  (ht0:0<t.size) (hs0:0<s.size) (awm:s.size≤64) (hr0:0≤r) (arS:r≤64) (hneg:(bt t 0 == 49)=neg) (hones:(bt s 0 == 49)=ones) (hR:R=if ones=true then r - 1 else -r)
  (hrest:rest=if r<s.size then s.extract (r+1).toNat s.size else ⟨#[]⟩) (heb:eb=min rest.size 2)
  (he:aV.f k ((rest.extract 0 eb ++ ⟨#[48,48]⟩).extract 0 2)=some e) (hg:aV.f k (rest.extract eb rest.size)=some g) (he0:0≤e) (he3:e≤3) :
  Calls Tryz.prog 168 #[.int .i64 n, .int .u64 p] w fun e' w'=>e' = .returned (.tuple #[.agg #[.bool neg, .bool ones, .int .i64 r, .int .i64 R, .int .i64 eb, .int .i64 e, .int .i64 ((rest.size:Int) - eb), .int .u64 g], .int .i64 0])∧Below w.heap.size w w':=by
 have HK:Hid (∀ W:World,Calls Tryz.prog 167 #[.int .i64 n, .int .u64 p] W fun e' w'=>e' = .returned (.tuple #[.int .i64 1, .int .i64 0])∧Below W.heap.size W w'):=Lib.hid fun W=>fM.calls k _ _ _ _ W hk
 have HS:Hid (∀ W:World,Calls Tryz.prog 202 #[.int .i64 n, .int .u64 p] W fun e' w'=>e' = .returned (.string s)∧Below W.heap.size W w'):=Lib.hid fun W=>gB.calls k _ _ _ W hs
 have HT:Hid (∀ W:World,Calls Tryz.prog 88 #[.int .u64 p, .int .i64 n] W fun e' w'=>e' = .returned (.string t)∧Below W.heap.size W w'):=Lib.hid fun W=>bf.calls k _ _ _ W ht
 have HR:Hid (∀ W:World,Calls Tryz.prog 203 #[.string s] W fun e' w'=>e' = .returned (.int .i64 r)∧dX W w'):=Lib.hid fun W=>dm.calls k _ _ W hr
 have HE:Hid (∀ W:World,Calls Tryz.prog 89 #[.string ((rest.extract 0 eb ++ ⟨#[48,48]⟩).extract 0 2)] W fun e' w'=>e' = .returned (.int .u64 e)∧dX W w'):=Lib.hid fun W=>aV.calls k _ _ W he
 have HG:Hid (∀ W:World,Calls Tryz.prog 89 #[.string (rest.extract eb rest.size)] W fun e' w'=>e' = .returned (.int .u64 g)∧dX W w'):=Lib.hid fun W=>aV.calls k _ _ W hg
 have HRR:=Lib.hid hR
 have HRE:=Lib.hid hrest
 have HEB:=Lib.hid heb
 clear hk hs ht hr he hg hR hrest heb
 go_enter Tryz.func168,Tryz.ntmps168
 go_upto_region 5 with (first|(go_at_call 167;(with_reducible refine (HK.out _).mono ?_);rintro e1 w1 ⟨rfl,hb1⟩;have K0:=am (bU (sJ _ _) hb1);have HB:=am (gq (bz (Below.refl _ _) _) hb1);clear hb1)|(go_at_call 202;(with_reducible refine (HS.out _).mono ?_);rintro e2 w2 ⟨rfl,hb2⟩;have k0:=bU K0.out hb2;have hb:=gq HB.out hb2;clear K0 HB hb2;have K0:=am k0;have HB:=am hb;clear k0 hb))
 have hneg':(bt t 0 == 49)=neg:=hneg
 have hones':(bt s 0 == 49)=ones:=hones
 have ht0':(0:Int)<t.size:=by omega
 have hs0':(0:Int)<s.size:=by omega
 have hbt:∀ h,(((t[0]'h:UInt8).toNat:Nat):Int)=bt t 0:=fun h=>by unfold bt;simp [h]
 have hbs:∀ h,(((s[0]'h:UInt8).toNat:Nat):Int)=bt s 0:=fun h=>by unfold bt;simp [h]
 have HBT:=Lib.hid hbt;have HBS:=Lib.hid hbs;clear hbt hbs
 go_cut [9] (fun v9 wc=>RAt w neg ones r v9 wc)
 case first =>
  have hbt:=HBT.out;have hbs:=HBS.out
  have k0:=dS K0.out;have hb:=aZ HB.out;clear K0 HB;have K0:=am k0;have HB:=am hb;clear k0 hb
  refine ny (n:=13) (S:=fun _=>True) (ds := []) #[false,false,false,false,false,false,false,false,false,false,false,false,false] (by kernel_rfl) rfl rfl trivial (fun hHeld=>?_)
  generalize w2.drew=w2' at K0 HB ⊢
  refine tJ (i:=0) (N:=some 29) (v:=?_) (a':=?_) #[true,false,false,false,false,false,false,false,false,false,false,false,false] rfl rfl (by kernel_rfl) (fun _ _ _ h=>h) (Or.inl ⟨by rfl,?_⟩) ?_ ?_
  rotate_left
  ·intro w'
   go_simp
   with_reducible rfl
  rotate_left
  ·simp only [Act.put,List.setIfInBounds_toArray,List.set_cons_zero,List.set_cons_succ,bI,dV]
   rfl
  refine tJ (i:=1) (N:=some 30) (v:=?_) (a':=?_) #[true,true,false,false,false,false,false,false,false,false,false,false,false] rfl rfl (by kernel_rfl) (fun _ _ _ h=>h) (Or.inl ⟨by rfl,?_⟩) ?_ ?_
  rotate_left
  ·intro w'
   go_simp
   with_reducible rfl
  rotate_left
  ·simp only [Act.put,List.setIfInBounds_toArray,List.set_cons_zero,List.set_cons_succ,bI,dV]
   rfl
  refine tJ (i:=5) (N:=some 34) (v:=?_) (a':=?_) #[true,true,false,false,false,true,false,false,false,false,false,false,false] rfl rfl (by kernel_rfl) (fun _ _ _ h=>h) (Or.inl ⟨by rfl,?_⟩) ?_ ?_
  rotate_left
  ·intro w'
   go_simp
   with_reducible rfl
  rotate_left
  ·simp only [Act.put,List.setIfInBounds_toArray,List.set_cons_zero,List.set_cons_succ,bI,dV]
   rfl
  refine tJ (i:=6) (N:=some 35) (v:=?_) (a':=?_) #[true,true,false,false,false,true,true,false,false,false,false,false,false] rfl rfl (by kernel_rfl) (fun _ _ _ h=>h) (Or.inl ⟨by rfl,?_⟩) ?_ ?_
  rotate_left
  ·intro w'
   go_simp
   with_reducible rfl
  rotate_left
  ·simp only [Act.put,List.setIfInBounds_toArray,List.set_cons_zero,List.set_cons_succ,bI,dV]
   rfl
  refine tJ (i:=7) (N:=some 36) (v:=?_) (a':=?_) #[true,true,false,false,false,true,true,true,false,false,false,false,false] rfl rfl (by kernel_rfl) (fun _ _ _ h=>h) (Or.inl ⟨by rfl,?_⟩) ?_ ?_
  rotate_left
  ·intro w'
   go_simp
   with_reducible rfl
  rotate_left
  ·simp only [Act.put,List.setIfInBounds_toArray,List.set_cons_zero,List.set_cons_succ,bI,dV]
   rfl
  refine tJ (i:=8) (N:=some 37) (v:=?_) (a':=?_) #[true,true,false,false,false,true,true,true,true,false,false,false,false] rfl rfl (by kernel_rfl) (fun _ _ _ h=>h) (Or.inl ⟨by rfl,?_⟩) ?_ ?_
  rotate_left
  ·intro w'
   go_simp
   with_reducible rfl
  rotate_left
  ·simp only [Act.put,List.setIfInBounds_toArray,List.set_cons_zero,List.set_cons_succ,bI,dV]
   rfl
  refine ae8 (σ:=Nat) 1 #[true,true,true,true,true,true,true,true,true,true,true,true,false] (fun s_ => [(31, .string t),(32, .int .u8 (bt t 0)),(33, .bool neg),(38, .int .i64 r),(39, .agg #[.bool neg, .bool ones, .int .i64 r, .int .i64 0, .int .i64 0, .int .i64 0, .int .i64 0, .int .u64 0]),(9, .pointer (some ⟨s_,0,none⟩))]) (fun s_ w'=>w'.heap[w.heap.size]? = some (.cells #[.bool false, .bool false, .int .i64 0, .int .i64 0, .int .i64 0, .int .i64 0, .int .i64 0, .int .u64 0] 140 (0,0))∧w'.heap[s_]? = some (.cells #[.bool false, .bool false, .int .i64 0, .int .i64 0, .int .i64 0, .int .i64 0, .int .i64 0, .int .u64 0] 140 (0,0))∧(w.heap.size≠s_∧w.heap.size≤s_)∧Below w.heap.size w w') ?_ ?_
  rotate_left
  ·intro hCont
   refine aky (i:=2) (j:=11) (Ni:=some 31) (Nj:=some 9) #[true,true,true,false,false,true,true,true,true,false,false,false,false] #[true,true,false,false,false,true,true,true,true,false,false,true,false] rfl rfl rfl rfl (by kernel_rfl) (by decide) (by decide) (fun K hK=>?_) (fun K hK=>?_)
   ·skip
    refine oK Tryz.func88 (by kernel_rfl) rfl #[.int .u64 p, .int .i64 n] (by rfl) rfl rfl (by (try simp only [List.map_toArray,List.map_cons,List.map_nil]);first|done|rfl) ?_
    with_reducible refine (HT.out _).mono ?_
    rintro e3 w3 ⟨rfl,hb3⟩
    refine ⟨_,rfl,?_⟩
    have k0:=bU K0.out hb3;have hb:=gq HB.out hb3;clear K0 HB;have K0:=am k0;have HB:=am hb;clear k0 hb
    clear hb3
    refine hK.out _ _ trivial (fun hHeld=>?_)
    refine kK (a':=?_) ?_ ?_
    rotate_left
    ·show Act.put _ (some 31) _=_
     simp only [Act.put,List.setIfInBounds_toArray,List.set_cons_zero,List.set_cons_succ,bI,dV]
     rfl
    refine tJ (i:=3) (N:=some 32) (v:=?_) (a':=?_) #[true,true,true,true,false,true,true,true,true,false,false,false,false] rfl rfl (by kernel_rfl) (fun _ _ _ h=>h) (Or.inl ⟨by rfl,?_⟩) ?_ ?_
    rotate_left
    ·intro w'
     go_simp
     with_reducible rfl
    rotate_left
    ·simp only [Act.put,List.setIfInBounds_toArray,List.set_cons_zero,List.set_cons_succ,bI,dV]
     rfl
    refine tJ (i:=4) (N:=some 33) (v:=?_) (a':=?_) #[true,true,true,true,true,true,true,true,true,false,false,false,false] rfl rfl (by kernel_rfl) (fun _ _ _ h=>h) (Or.inl ⟨by rfl,?_⟩) ?_ ?_
    rotate_left
    ·intro w'
     go_simp
     with_reducible rfl
    rotate_left
    ·simp only [Act.put,List.setIfInBounds_toArray,List.set_cons_zero,List.set_cons_succ,bI,dV]
     rfl
    refine aky (i:=9) (j:=11) (Ni:=some 38) (Nj:=some 9) #[true,true,true,true,true,true,true,true,true,true,false,false,false] #[true,true,true,true,true,true,true,true,true,false,false,true,false] rfl rfl rfl rfl (by kernel_rfl) (by decide) (by decide) (fun K hK=>?_) (fun K hK=>?_)
    ·skip
     refine oK Tryz.func203 (by kernel_rfl) rfl #[.string s] (by rfl) rfl rfl (by (try simp only [List.map_toArray,List.map_cons,List.map_nil]);first|done|rfl) ?_
     with_reducible refine (HR.out _).mono ?_
     rintro e4 w4 ⟨rfl,⟨n4,rfl⟩⟩
     refine ⟨_,rfl,?_⟩
     have k0:=iY K0.out n4;have hb:=aI HB.out n4;clear K0 HB;have K0:=am k0;have HB:=am hb;clear k0 hb
     refine hK.out _ _ trivial (fun hHeld=>?_)
     refine kK (a':=?_) ?_ ?_
     rotate_left
     ·show Act.put _ (some 38) _=_
      simp only [Act.put,List.setIfInBounds_toArray,List.set_cons_zero,List.set_cons_succ,bI,dV]
      rfl
     refine tJ (i:=10) (N:=some 39) (v:=?_) (a':=?_) #[true,true,true,true,true,true,true,true,true,true,true,false,false] rfl rfl (by kernel_rfl) (fun _ _ _ h=>h) (Or.inl ⟨by rfl,?_⟩) ?_ ?_
     rotate_left
     ·intro w'
      go_simp
      with_reducible rfl
     rotate_left
     ·simp only [Act.put,List.setIfInBounds_toArray,List.set_cons_zero,List.set_cons_succ,bI,dV]
      rfl
     refine adQ (i:=11) (N:=some 9) #[true,true,true,true,true,true,true,true,true,true,true,true,false] rfl rfl (by kernel_rfl) (by decide) (fun K hK=>?_)
     refine F5 ?hg (N:=9) ?hd (cs:=#[.bool false, .bool false, .int .i64 0, .int .i64 0, .int .i64 0, .int .i64 0, .int .i64 0, .int .u64 0]) (t:=140) ?hr ?_;(case hd=>rfl);(case hg=>rfl);(case hr=>first|(go_simp;done)|(go_simp;rfl))
     intro G hg w5 hbox hb5
     have NG:ae (w.heap.size≠G∧w.heap.size≤G):=⟨by rw [hg];exact ⟨Nat.ne_of_lt (uO K0.out),pM HB.out⟩⟩
     have k0:=bU K0.out hb5;have hb:=gq HB.out hb5;clear K0 HB;have K0:=am k0;have HB:=am hb;clear k0 hb;have KG:=am hbox;clear hbox hb5 hg
     refine hK.out _ _ trivial (fun hHeld=>?_)
     refine kK (a':=?_) ?_ ?_
     rotate_left
     ·show Act.put _ (some 9) _=_
      simp only [Act.put,List.setIfInBounds_toArray,List.set_cons_zero,List.set_cons_succ,bI,dV]
      rfl
     exact kK (by simp only [wZ,Act.put,List.setIfInBounds_toArray,List.set_cons_zero,List.set_cons_succ,hbt,hbs]) (hCont G _ ⟨K0.out,KG.out,NG.out,HB.out⟩)
    ·skip
     refine F5 ?hg (N:=9) ?hd (cs:=#[.bool false, .bool false, .int .i64 0, .int .i64 0, .int .i64 0, .int .i64 0, .int .i64 0, .int .u64 0]) (t:=140) ?hr ?_;(case hd=>rfl);(case hg=>rfl);(case hr=>first|(go_simp;done)|(go_simp;rfl))
     intro G hg w5 hbox hb5
     have NG:ae (w.heap.size≠G∧w.heap.size≤G):=⟨by rw [hg];exact ⟨Nat.ne_of_lt (uO K0.out),pM HB.out⟩⟩
     have k0:=bU K0.out hb5;have hb:=gq HB.out hb5;clear K0 HB;have K0:=am k0;have HB:=am hb;clear k0 hb;have KG:=am hbox;clear hbox hb5 hg
     refine hK.out _ _ trivial (fun hHeld=>?_)
     refine kK (a':=?_) ?_ ?_
     rotate_left
     ·show Act.put _ (some 9) _=_
      simp only [Act.put,List.setIfInBounds_toArray,List.set_cons_zero,List.set_cons_succ,bI,dV]
      rfl
     refine adQ (i:=9) (N:=some 38) #[true,true,true,true,true,true,true,true,true,true,false,true,false] rfl rfl (by kernel_rfl) (by decide) (fun K hK=>?_)
     refine oK Tryz.func203 (by kernel_rfl) rfl #[.string s] (by rfl) rfl rfl (by (try simp only [List.map_toArray,List.map_cons,List.map_nil]);first|done|rfl) ?_
     with_reducible refine (HR.out _).mono ?_
     rintro e4 w4 ⟨rfl,⟨n4,rfl⟩⟩
     refine ⟨_,rfl,?_⟩
     have k0:=iY K0.out n4;have hb:=aI HB.out n4;clear K0 HB;have K0:=am k0;have HB:=am hb;clear k0 hb
     have kg:=iY KG.out n4;clear KG;have KG:=am kg;clear kg
     refine hK.out _ _ trivial (fun hHeld=>?_)
     refine kK (a':=?_) ?_ ?_
     rotate_left
     ·show Act.put _ (some 38) _=_
      simp only [Act.put,List.setIfInBounds_toArray,List.set_cons_zero,List.set_cons_succ,bI,dV]
      rfl
     refine tJ (i:=10) (N:=some 39) (v:=?_) (a':=?_) #[true,true,true,true,true,true,true,true,true,true,true,true,false] rfl rfl (by kernel_rfl) (fun _ _ _ h=>h) (Or.inl ⟨by rfl,?_⟩) ?_ ?_
     rotate_left
     ·intro w'
      go_simp
      with_reducible rfl
     rotate_left
     ·simp only [Act.put,List.setIfInBounds_toArray,List.set_cons_zero,List.set_cons_succ,bI,dV]
      rfl
     exact kK (by simp only [wZ,Act.put,List.setIfInBounds_toArray,List.set_cons_zero,List.set_cons_succ,hbt,hbs]) (hCont G _ ⟨K0.out,KG.out,NG.out,HB.out⟩)
   ·skip
    refine F5 ?hg (N:=9) ?hd (cs:=#[.bool false, .bool false, .int .i64 0, .int .i64 0, .int .i64 0, .int .i64 0, .int .i64 0, .int .u64 0]) (t:=140) ?hr ?_;(case hd=>rfl);(case hg=>rfl);(case hr=>first|(go_simp;done)|(go_simp;rfl))
    intro G hg w5 hbox hb5
    have NG:ae (w.heap.size≠G∧w.heap.size≤G):=⟨by rw [hg];exact ⟨Nat.ne_of_lt (uO K0.out),pM HB.out⟩⟩
    have k0:=bU K0.out hb5;have hb:=gq HB.out hb5;clear K0 HB;have K0:=am k0;have HB:=am hb;clear k0 hb;have KG:=am hbox;clear hbox hb5 hg
    refine hK.out _ _ trivial (fun hHeld=>?_)
    refine kK (a':=?_) ?_ ?_
    rotate_left
    ·show Act.put _ (some 9) _=_
     simp only [Act.put,List.setIfInBounds_toArray,List.set_cons_zero,List.set_cons_succ,bI,dV]
     rfl
    refine adQ (i:=2) (N:=some 31) #[true,true,true,false,false,true,true,true,true,false,false,true,false] rfl rfl (by kernel_rfl) (by decide) (fun K hK=>?_)
    refine oK Tryz.func88 (by kernel_rfl) rfl #[.int .u64 p, .int .i64 n] (by rfl) rfl rfl (by (try simp only [List.map_toArray,List.map_cons,List.map_nil]);first|done|rfl) ?_
    with_reducible refine (HT.out _).mono ?_
    rintro e3 w3 ⟨rfl,hb3⟩
    refine ⟨_,rfl,?_⟩
    have k0:=bU K0.out hb3;have hb:=gq HB.out hb3;clear K0 HB;have K0:=am k0;have HB:=am hb;clear k0 hb
    have kg:=bU KG.out hb3;clear KG;have KG:=am kg;clear kg
    clear hb3
    refine hK.out _ _ trivial (fun hHeld=>?_)
    refine kK (a':=?_) ?_ ?_
    rotate_left
    ·show Act.put _ (some 31) _=_
     simp only [Act.put,List.setIfInBounds_toArray,List.set_cons_zero,List.set_cons_succ,bI,dV]
     rfl
    refine tJ (i:=3) (N:=some 32) (v:=?_) (a':=?_) #[true,true,true,true,false,true,true,true,true,false,false,true,false] rfl rfl (by kernel_rfl) (fun _ _ _ h=>h) (Or.inl ⟨by rfl,?_⟩) ?_ ?_
    rotate_left
    ·intro w'
     go_simp
     with_reducible rfl
    rotate_left
    ·simp only [Act.put,List.setIfInBounds_toArray,List.set_cons_zero,List.set_cons_succ,bI,dV]
     rfl
    refine tJ (i:=4) (N:=some 33) (v:=?_) (a':=?_) #[true,true,true,true,true,true,true,true,true,false,false,true,false] rfl rfl (by kernel_rfl) (fun _ _ _ h=>h) (Or.inl ⟨by rfl,?_⟩) ?_ ?_
    rotate_left
    ·intro w'
     go_simp
     with_reducible rfl
    rotate_left
    ·simp only [Act.put,List.setIfInBounds_toArray,List.set_cons_zero,List.set_cons_succ,bI,dV]
     rfl
    refine adQ (i:=9) (N:=some 38) #[true,true,true,true,true,true,true,true,true,true,false,true,false] rfl rfl (by kernel_rfl) (by decide) (fun K hK=>?_)
    refine oK Tryz.func203 (by kernel_rfl) rfl #[.string s] (by rfl) rfl rfl (by (try simp only [List.map_toArray,List.map_cons,List.map_nil]);first|done|rfl) ?_
    with_reducible refine (HR.out _).mono ?_
    rintro e4 w4 ⟨rfl,⟨n4,rfl⟩⟩
    refine ⟨_,rfl,?_⟩
    have k0:=iY K0.out n4;have hb:=aI HB.out n4;clear K0 HB;have K0:=am k0;have HB:=am hb;clear k0 hb
    have kg:=iY KG.out n4;clear KG;have KG:=am kg;clear kg
    refine hK.out _ _ trivial (fun hHeld=>?_)
    refine kK (a':=?_) ?_ ?_
    rotate_left
    ·show Act.put _ (some 38) _=_
     simp only [Act.put,List.setIfInBounds_toArray,List.set_cons_zero,List.set_cons_succ,bI,dV]
     rfl
    refine tJ (i:=10) (N:=some 39) (v:=?_) (a':=?_) #[true,true,true,true,true,true,true,true,true,true,true,true,false] rfl rfl (by kernel_rfl) (fun _ _ _ h=>h) (Or.inl ⟨by rfl,?_⟩) ?_ ?_
    rotate_left
    ·intro w'
     go_simp
     with_reducible rfl
    rotate_left
    ·simp only [Act.put,List.setIfInBounds_toArray,List.set_cons_zero,List.set_cons_succ,bI,dV]
     rfl
    exact kK (by simp only [wZ,Act.put,List.setIfInBounds_toArray,List.set_cons_zero,List.set_cons_succ,hbt,hbs]) (hCont G _ ⟨K0.out,KG.out,NG.out,HB.out⟩)
  clear K0 HB
  rintro G w6 ⟨k0,kg,⟨ng1,ng2⟩,hb⟩
  refine kK (a':=?_) ?_ ?_
  rotate_left
  ·simp only [wZ,Act.put,List.setIfInBounds_toArray,List.set_cons_zero,List.set_cons_succ]
   rfl
  refine adQ (i:=12) (N:=none) #[true,true,true,true,true,true,true,true,true,true,true,true,true] rfl rfl (by kernel_rfl) (by decide) (fun K hK=>?_)
  have qg:∀ i,w6.cell? ⟨G,i,none⟩=(_:Array Value)[i]?:=ag kg
  have fg:∀ i,w6.frozen? ⟨G,i,none⟩=false:=au kg
  refine vK (w1:=?_) (by rfl) rfl ?_ ?_
  rotate_left
  ·go_simp
   rfl
  refine hK.out _ _ trivial (fun hHeld=>?_)
  clear hK K
  refine o6 (by kernel_rfl) ?_
  go_wp2
  go_meet
  case rel=>exact ⟨G,rfl,ng1,⟨ng2⟩,⟨by repeat (first|(with_reducible exact k0)|(with_reducible apply gG (hp:=ng1)))⟩,⟨(by apply Eq.trans;(repeat (first|(with_reducible exact kg)|(with_reducible apply lK)));rfl)⟩,⟨by repeat (first|(with_reducible exact hb)|(with_reducible refine bu ?_ ng2))⟩⟩
 case rest =>
 obtain ⟨G,rfl,hn0,HGe,K0,K1,HB⟩:=hcut
 rename_i wc
 have hn:Hid (w.heap.size≠G):=Lib.hid hn0
 clear hn0 HK HS HT HR hneg hones hneg' hones' HBT HBS
 have q1:∀ i,wc.cell? ⟨G,i,none⟩=(_:Array Value)[i]?:=ag K1.out
 have f1:∀ i,wc.frozen? ⟨G,i,none⟩=false:=au K1.out
 go_upto_if 45 with (fail)
 go_cut [] (fun wc=>ae (wc.heap[w.heap.size]? = some (.cells #[.bool false, .bool false, .int .i64 0, .int .i64 0, .int .i64 0, .int .i64 0, .int .i64 0, .int .u64 0] 140 (0,0)))∧ae (wc.heap[G]? = some (.cells #[.bool neg, .bool ones, .int .i64 r, .int .i64 R, .int .i64 0, .int .i64 0, .int .i64 0, .int .u64 0] 140 (0,0)))∧ae (Below w.heap.size w wc))
 case first =>
  cases ones
  all_goals
   obtain rfl:=HRR.out
   go_wp2
   go_meet
   case rel=>exact ⟨⟨by repeat (first|(with_reducible exact K0.out)|(with_reducible apply gG (hp:=hn.out)))⟩,⟨(by apply Eq.trans;(repeat (first|(with_reducible exact K1.out)|(with_reducible apply lK)));first|rfl|simp)⟩,⟨by repeat (first|(with_reducible exact HB.out)|(with_reducible refine bu ?_ HGe.out))⟩⟩
 case rest =>
 clear q1 f1 K0 K1 HB
 obtain ⟨K0,K1,HB⟩:=hcut
 rename_i wc
 have q1:∀ i,wc.cell? ⟨G,i,none⟩=(_:Array Value)[i]?:=ag K1.out
 have f1:∀ i,wc.frozen? ⟨G,i,none⟩=false:=au K1.out
 go_upto_if 54 with (fail)
 go_cut [10] (fun v10 wc=>v10 = .string rest∧ae (wc.heap[w.heap.size]? = some (.cells #[.bool false, .bool false, .int .i64 0, .int .i64 0, .int .i64 0, .int .i64 0, .int .i64 0, .int .u64 0] 140 (0,0)))∧ae (wc.heap[G]? = some (.cells #[.bool neg, .bool ones, .int .i64 r, .int .i64 R, .int .i64 0, .int .i64 0, .int .i64 0, .int .u64 0] 140 (0,0)))∧ae (Below w.heap.size w wc))
 case first =>
  by_cases hlt:r<(s.size:Int)
  ·have e:=HRE.out
   rw [if_pos hlt] at e
   have hl1:(r<(s.size:Int))=True:=eq_true hlt
   have hl2:r+1≤(s.size:Int):=by omega
   have hl3:0≤r+1:=by omega
   go_wp2
   go_meet
   case rel=>exact ⟨by rw [e],⟨by repeat (first|(with_reducible exact K0.out)|(with_reducible apply gG (hp:=hn.out)))⟩,⟨(by apply Eq.trans;(repeat (first|(with_reducible exact K1.out)|(with_reducible apply lK)));first|rfl|simp)⟩,⟨by repeat (first|(with_reducible exact HB.out)|(with_reducible refine bu ?_ HGe.out))⟩⟩
  ·have e:=HRE.out
   rw [if_neg hlt] at e
   have hl1:(r<(s.size:Int))=False:=eq_false hlt
   go_wp2
   go_meet
   case rel=>exact ⟨by rw [e],⟨by repeat (first|(with_reducible exact K0.out)|(with_reducible apply gG (hp:=hn.out)))⟩,⟨(by apply Eq.trans;(repeat (first|(with_reducible exact K1.out)|(with_reducible apply lK)));first|rfl|simp)⟩,⟨by repeat (first|(with_reducible exact HB.out)|(with_reducible refine bu ?_ HGe.out))⟩⟩
 case rest =>
 clear q1 f1 K0 K1 HB
 obtain ⟨rfl,K0,K1,HB⟩:=hcut
 rename_i wc
 have q1:∀ i,wc.cell? ⟨G,i,none⟩=(_:Array Value)[i]?:=ag K1.out
 have f1:∀ i,wc.frozen? ⟨G,i,none⟩=false:=au K1.out
 have aDQ:rest.size≤64:=by
  rw [HRE.out]
  split
  ·rw [ByteArray.size_extract];omega
  ·exact Nat.zero_le _
 have aJF:eb≤rest.size:=by rw [HEB.out];exact Nat.min_le_left _ _
 have awn:eb≤2:=by rw [HEB.out];exact Nat.min_le_right _ _
 go_upto_if 65 with (fail)
 go_cut [] (fun wc=>ae (wc.heap[w.heap.size]? = some (.cells #[.bool false, .bool false, .int .i64 0, .int .i64 0, .int .i64 0, .int .i64 0, .int .i64 0, .int .u64 0] 140 (0,0)))∧ae (wc.heap[G]? = some (.cells #[.bool neg, .bool ones, .int .i64 r, .int .i64 R, .int .i64 eb, .int .i64 0, .int .i64 0, .int .u64 0] 140 (0,0)))∧ae (Below w.heap.size w wc))
 case first =>
  by_cases hgt:(2:Int)<(rest.size:Int)
  ·have hl1:((2:Int)<(rest.size:Int))=True:=eq_true hgt
   have e:eb=2:=by have:=HEB.out;omega
   subst e
   go_wp2
   go_meet
   case rel=>exact ⟨⟨by repeat (first|(with_reducible exact K0.out)|(with_reducible apply gG (hp:=hn.out)))⟩,⟨(by apply Eq.trans;(repeat (first|(with_reducible exact K1.out)|(with_reducible apply lK)));first|rfl|simp)⟩,⟨by repeat (first|(with_reducible exact HB.out)|(with_reducible refine bu ?_ HGe.out))⟩⟩
  ·have hl1:((2:Int)<(rest.size:Int))=False:=eq_false hgt
   have e:eb=rest.size:=by have:=HEB.out;omega
   subst e
   go_wp2
   go_meet
   case rel=>exact ⟨⟨by repeat (first|(with_reducible exact K0.out)|(with_reducible apply gG (hp:=hn.out)))⟩,⟨(by apply Eq.trans;(repeat (first|(with_reducible exact K1.out)|(with_reducible apply lK)));first|rfl|simp)⟩,⟨by repeat (first|(with_reducible exact HB.out)|(with_reducible refine bu ?_ HGe.out))⟩⟩
 case rest =>
 clear q1 f1 K0 K1 HB
 obtain ⟨K0,K1,HB⟩:=hcut
 rename_i wc
 have q1:∀ i,wc.cell? ⟨G,i,none⟩=(_:Array Value)[i]?:=ag K1.out
 have f1:∀ i,wc.frozen? ⟨G,i,none⟩=false:=au K1.out
 have q0:∀ i,wc.cell? ⟨w.heap.size,i,none⟩=(_:Array Value)[i]?:=ag K0.out
 have f0:∀ i,wc.frozen? ⟨w.heap.size,i,none⟩=false:=au K0.out
 have hn1:w.heap.size≠G:=hn.out
 have hn2:G≠w.heap.size:=fun h=>hn1 h.symm
 have hi1:(eb:Int)≤(rest.size:Int):=by omega
 have hsz:(rest.extract 0 eb ++ (⟨#[48,48]⟩:ByteArray)).size=eb+2:=by rw [ByteArray.size_append,ByteArray.size_extract];show min eb rest.size - 0+2=eb+2;omega
 have hi2:(2:Int)≤(((rest.extract 0 eb ++ (⟨#[48,48]⟩:ByteArray)).size:Nat):Int):=by rw [hsz];omega
 go_wp2_with (first|(go_at_call 89;(with_reducible refine (HE.out _).mono ?_);rintro e5 w5 ⟨rfl,⟨n5,rfl⟩⟩)|(go_at_call 89;(with_reducible refine (HG.out _).mono ?_);rintro e6 w6 ⟨rfl,⟨n6,rfl⟩⟩))
 refine bodyPost_ret (bJ rfl _ _ w.heap.size 140 #[.bool _, .bool _, .int .i64 _, .int .i64 _, .int .i64 _, .int .i64 _, .int .i64 _, .int .u64 _] (0,0) _ rfl ?blk Tryz.underlying140 rfl (by kernel_rfl)) rfl ⟨rfl,?_⟩
 case blk=>exact (by apply Eq.trans;(repeat (first|(with_reducible exact K0.out)|(with_reducible apply iY)|(with_reducible apply lK)|(with_reducible apply gG (hp:=hn1))));rfl)
 exact (by repeat (first|(with_reducible exact HB.out)|(with_reducible apply aI)|(with_reducible refine bu ?_ HGe.out)|(with_reducible refine bu ?_ (Nat.le_refl _))))
theorem gZ.calls (k:Nat) (a0 a1:Int) (r1 r2:Bool) (r3 r4 r5 r6 r7 r8 r9:Int) (w:World) (h:gZ.f k a0 a1=some (r1,r2,r3,r4,r5,r6,r7,r8,r9)) :
  Calls Tryz.prog 168 #[.int .i64 a0, .int .u64 a1] w fun e w'=>e = .returned (.tuple #[.agg #[.bool r1, .bool r2, .int .i64 r3, .int .i64 r4, .int .i64 r5, .int .i64 r6, .int .i64 r7, .int .u64 r8], .int .i64 r9])∧Below w.heap.size w w':=by
 unfold gZ.f at h
 obtain ⟨⟨b1,b2⟩,hk,h⟩:=Option.bind_eq_some_iff.mp h
 by_cases hc:b1=1∧b2=0
 case neg=>rw [if_neg hc] at h;exact absurd h (by simp)
 rw [if_pos hc] at h
 obtain ⟨rfl,rfl⟩:=hc
 obtain ⟨s,hs,h⟩:=Option.bind_eq_some_iff.mp h
 obtain ⟨t,ht,h⟩:=Option.bind_eq_some_iff.mp h
 obtain ⟨r,hr,h⟩:=Option.bind_eq_some_iff.mp h
 by_cases hz:0<t.size∧0<s.size∧s.size≤64∧0≤r∧r≤64
 case neg=>rw [if_neg hz] at h;exact absurd h (by simp)
 rw [if_pos hz] at h
 obtain ⟨ht0,hs0,awm,hr0,arS⟩:=hz
 obtain ⟨e,he,h⟩:=Option.bind_eq_some_iff.mp h
 obtain ⟨g,hg,h⟩:=Option.bind_eq_some_iff.mp h
 by_cases h0:0≤e∧e≤3
 case neg=>rw [if_neg h0] at h;exact absurd h (by simp)
 rw [if_pos h0] at h
 simp only [Option.some.injEq,Prod.mk.injEq] at h
 obtain ⟨rfl,rfl,rfl,rfl,rfl,rfl,rfl,rfl,rfl⟩:=h
 have e1:∀ x:Int,(x == 49)=decide (x=49):=fun x=>by rw [Bool.eq_iff_iff,beq_iff_eq,decide_eq_true_iff]
 exact KL k a0 a1 s t (jD s r) _ _ r _ (qX (jD s r)) e g w hk hs ht hr ht0 hs0 awm hr0 arS (e1 _) (e1 _) (by simp only [decide_eq_true_iff]) rfl rfl he hg h0.1 h0.2
end Go.Proofs.Yy.PTx
end
