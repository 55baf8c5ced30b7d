/- Part 21. -/
import Derived.Test.YtpfnkbnepcchgaaGreatDoorKTOAT
set_option linter.unusedSimpArgs false
set_option linter.unusedVariables false
section
set_option maxHeartbeats 8000000
set_option maxRecDepth 100000
namespace Go.Proofs.Yy.PTx
open Go.RowKit Go.Proofs.Yy.Z Go.Proofs.Yw.PrintWords Go.Proofs.Yw.PrintLast Go.Proofs.Yw.PrintMore
open Go.Proofs.Yy.M
attribute [local go_sem] dP eU lV lX lW lU
attribute [local go_sem] iq ik jE jD gu gq iE iD
def kF.f (k:Nat)(a0:Int)(a1:Int):Option (Int × Int):=(fZ.f a0).bind fun asJ=>(if asJ=true then ((aY.f k a1 a0).bind fun alv=>((bu.f k alv).bind fun alx=>(some (alx,0)))) else (some (0,2)))
theorem kF.calls (k:Nat)(a0:Int)(a1:Int)(r1:Int)(r2:Int)(w:World)(h:kF.f k a0 a1=some (r1,r2)) :
    Calls Tryz.prog 59 #[.int .i64 a0,.int .u64 a1] w fun e w'=>e=.returned (.tuple #[.int .u64 r1,.int .i64 r2])∧Below w.heap.size w w':=by
 have HB:=am (Below.refl w.heap.size w);have H:=am h;unfold kF.f at H;clear h;replace H:=zo H;obtain⟨asJ,A3,H⟩:=H
 cases asJ
 replace H:=zb0 H;obtain⟨rfl,rfl⟩:=zJ2 H;rotate_left;replace H:=zb1 H;replace H:=zo H;obtain⟨alv,A5,H⟩:=H;replace H:=zo H;obtain⟨alx,A6,H⟩:=H;obtain⟨rfl,rfl⟩:=zJ2 H;rotate_left
 all_goals (go_enter Tryz.func59,Tryz.ntmps59;go_wp2_with (first|((with_reducible refine af (f:=36) rfl ?_);refine zc (some 8) Tryz.func36 _ (fZ.calls _ _ _ A3.out) ?_;rintro e w' ⟨rfl,⟨nd,rfl⟩⟩;refine⟨_,rfl,?_⟩)|((with_reducible refine af (f:=88) rfl ?_);refine zc (some 13) Tryz.func88 _ (aY.calls _ _ _ _ _ A5.out) ?_;rintro e w7 ⟨rfl,hb⟩;refine⟨_,rfl,?_⟩;replace HB:=zBs HB hb;clear hb)|((with_reducible refine af (f:=89) rfl ?_);refine zc (some 14) Tryz.func89 _ (bu.calls _ _ _ _ A6.out) ?_;rintro e w' ⟨rfl,⟨nd,rfl⟩⟩;refine⟨_,rfl,?_⟩)))
 ·go_ret2
  exact⟨z2,zB HB⟩
 go_ret2
 exact⟨z2,zB HB⟩
def iL.f (k:Nat)(a0:Int)(a1:Int):Option (Int):=(kF.f k a0 a1).bind fun aev=>(some aev.1)
theorem iL.calls (k:Nat)(a0:Int)(a1:Int)(r:Int)(w:World)(h:iL.f k a0 a1=some r) :
    Calls Tryz.prog 23 #[.int .i64 a0,.int .u64 a1] w fun e w'=>e=.returned (.int .u64 r)∧Below w.heap.size w w':=by
 have HB:=am (Below.refl w.heap.size w);have H:=am h;unfold iL.f at H;clear h;replace H:=zo H;obtain⟨⟨aKR,aKS⟩,A3,H⟩:=H
 try dsimp only at H
 obtain rfl:=Option.some.inj H.out
 go_enter Tryz.func23,Tryz.ntmps23
 go_wp2_with (first|((with_reducible refine af (f:=59) rfl ?_);refine zc (some 10) Tryz.func59 _ (kF.calls _ _ _ _ _ _ A3.out) ?_;rintro e w4 ⟨rfl,hb⟩;refine⟨_,rfl,?_⟩;replace HB:=zBs HB hb;clear hb))
 go_ret
 exact⟨z2,zB HB⟩
def gz.f (k:Nat)(a0:Int)(a1:Int):Option (Int):=(iL.f k a0 (IntKind.u64.wrap (-a1))).bind fun aly=>(some aly)
theorem gz.calls (k:Nat)(a0:Int)(a1:Int)(r:Int)(w:World)(h:gz.f k a0 a1=some r) :
    Calls Tryz.prog 197 #[.int .i64 a0,.int .u64 a1] w fun e w'=>e=.returned (.int .u64 r)∧Below w.heap.size w w':=by
 have HB:=am (Below.refl w.heap.size w);have H:=am h;unfold gz.f at H;clear h;replace H:=zo H;obtain⟨aly,A3,H⟩:=H;obtain rfl:=Option.some.inj H.out
 go_enter Tryz.func197,Tryz.ntmps197
 go_wp2_with (first|((with_reducible refine af (f:=23) rfl ?_);refine zc (some 8) Tryz.func23 _ (iL.calls _ _ _ _ _ A3.out) ?_;rintro e w4 ⟨rfl,hb⟩;refine⟨_,rfl,?_⟩;replace HB:=zBs HB hb;clear hb))
 go_ret
 exact⟨z2,zB HB⟩
def bP.j0:Nat→Int→Int→Bool→Int→Bool→Int→Int→Int→Bool→Option (Int × Int)
  | 0,_,_,_,_,_,_,_,_,_=>none
  | k+1,x0,x6,x29,asK,WX,asL,asM,asN,asO=>if x29=true then (if WX=true then ((gz.f k x0 (IntKind.u64.wrap (x6+1))).bind fun alz=>(some (alz,0))) else (some (IntKind.u64.wrap (x6+1),0))) else (if WX=true then ((gz.f k x0 x6).bind fun alA=>(some (alA,0))) else (some (x6,0)))
def bP.f (k:Nat)(a0:Int)(kG:Int)(jY:Bool)(jP:Int)(kD:Int)(oZ:Int)(oO:Bool):Option (Int × Int):=(ax.f k a0 kG jY jP kD oZ oO).bind fun Kq=>(if Kq.2.2=0 then (if Kq.2.1=3 then (bP.j0 k a0 Kq.1 true kG jY jP kD oZ oO) else (if Kq.2.1=2 then (bP.j0 k a0 Kq.1 ((Int.tmod Kq.1 2) == 1) kG jY jP kD oZ oO) else (bP.j0 k a0 Kq.1 false kG jY jP kD oZ oO))) else (some (0,Kq.2.2)))
theorem bP.calls (k:Nat)(a0:Int)(kG:Int)(jY:Bool)(jP:Int)(kD:Int)(oZ:Int)(oO:Bool)(r1:Int)(r2:Int)(w:World)(h:bP.f k a0 kG jY jP kD oZ oO=some (r1,r2)) :
    Calls Tryz.prog 160 #[.int .i64 a0,.agg #[.int .i64 kG,.bool jY,.int .i64 jP,.int .u64 kD,.int .u64 oZ,.bool oO]] w fun e w'=>e=.returned (.tuple #[.int .u64 r1,.int .i64 r2])∧Below w.heap.size w w':=by
 have Vb:=Tryz.underlying81;have HB:=am (Below.refl w.heap.size w);have H:=am h;unfold bP.f at H;clear h;replace H:=zo H;obtain⟨⟨axH,aKT,aKU⟩,A3,H⟩:=H
 try dsimp only at H
 replace H:=zsk H;rcases H with⟨jV,rZ,H⟩|⟨jV,rZ,c4,H⟩
 ·go_enter Tryz.func160,Tryz.ntmps160
  go_upto_region 4 with (first|((with_reducible refine aA (N:=3) rfl ?_);refine zx 3 81 #[.int .i64 kG,.bool jY,.int .i64 jP,.int .u64 kD,.int .u64 oZ,.bool oO] ?_;intro akf hg w6 hbox hb;have vw:=am (hbox);have asP:=zG hg HB;have asQ:=zG hg HB;replace HB:=zBs HB hb;clear hb hbox hg;obtain⟨_,_,_,_,_,_,_,_,_,_,_,_⟩:=zf6 vw)|((with_reducible refine af (f:=196) rfl ?_);refine zc (some 12) Tryz.func196 _ (ax.calls _ _ _ _ _ _ _ _ _ _ _ _ A3.out) ?_;rintro e w8 ⟨rfl,hb⟩;refine⟨_,rfl,?_⟩;replace vw:=zKb vw hb;replace HB:=zBs HB hb;clear hb))
  (try simp only[Act.put,List.setIfInBounds_toArray,List.set_cons_zero,List.set_cons_succ])
  go_cut [29] (fun v29 wc => ∃ (kq:Nat) (Zy:Bool),v29=.bool Zy∧ae (bP.j0 kq a0 axH Zy kG jY jP kD oZ oO=some (r1,r2))∧ae (kq≤k)∧ae (wc.heap[akf]? = some (.cells #[.int .i64 kG,.bool jY,.int .i64 jP,.int .u64 kD,.int .u64 oZ,.bool oO] 81 (0,0)))∧ae (Below w.heap.size w wc))
  case first =>
   replace H:=zsk H;rcases H with⟨vF,BD,H⟩|⟨vF,BD,c9,H⟩
   (first|rw[vF]|(simp only[bW,fV];rw[vF])|rw[BD]|skip)
   rotate_left
   (first|rw[vF]|(simp only[bW,fV];rw[vF])|rw[BD]|skip)
   replace H:=zsk H;rcases H with⟨oL,uX,H⟩|⟨oL,uX,c10,H⟩;rotate_left;rotate_left
   all_goals (go_wp2)
   ·go_meet
    case rel=>exact⟨_,(true),z1,H,⟨z5⟩,⟨zK vw⟩,⟨zB HB⟩⟩
   ·go_meet
    case rel=>exact⟨_,(((Int.tmod axH 2) == 1)),z1,H,⟨z5⟩,⟨zK vw⟩,⟨zB HB⟩⟩
   go_meet
   case rel=>exact⟨_,(false),z1,H,⟨z5⟩,⟨zK vw⟩,⟨zB HB⟩⟩
  case rest =>
   obtain⟨kq,Zy,rfl,H,HJ4,vw,HB⟩:=hcut;obtain _|kj4:=kq
   ·exact zz H rfl
   simp only[bP.j0]at H
   cases Zy
   replace H:=zb0 H
   cases jY
   replace H:=zb0 H;obtain⟨rfl,rfl⟩:=zJ2 H;obtain⟨_,_,_,_,_,_,_,_,_,_,_,_⟩:=zf6 vw;rotate_left;replace H:=zb1 H;replace H:=zo H;obtain⟨alA,A18,H⟩:=H;obtain⟨rfl,rfl⟩:=zJ2 H;obtain⟨_,_,_,_,_,_,_,_,_,_,_,_⟩:=zf6 vw;rotate_left;replace H:=zb1 H
   cases jY
   replace H:=zb0 H;obtain⟨rfl,rfl⟩:=zJ2 H;obtain⟨_,_,_,_,_,_,_,_,_,_,_,_⟩:=zf6 vw;rotate_left;replace H:=zb1 H;replace H:=zo H;obtain⟨alz,A13,H⟩:=H;obtain⟨rfl,rfl⟩:=zJ2 H;obtain⟨_,_,_,_,_,_,_,_,_,_,_,_⟩:=zf6 vw;rotate_left
   all_goals (go_wp2_with (first|((with_reducible refine af (f:=197) rfl ?_);refine zc (some 36) Tryz.func197 _ (gz.calls _ _ _ _ _ A18.out) ?_;rintro e w20 ⟨rfl,hb⟩;refine⟨_,rfl,?_⟩;replace vw:=zKb vw hb;replace HB:=zBs HB hb;clear hb)|((with_reducible refine af (f:=197) rfl ?_);refine zc (some 36) Tryz.func197 _ (gz.calls _ _ _ _ _ A13.out) ?_;rintro e w15 ⟨rfl,hb⟩;refine⟨_,rfl,?_⟩;replace vw:=zKb vw hb;replace HB:=zBs HB hb;clear hb)))
   ·go_ret2
    exact⟨z2,zB HB⟩
   ·go_ret2
    exact⟨z2,zB HB⟩
   ·go_ret2
    exact⟨z2,zB HB⟩
   go_ret2
   exact⟨z2,zB HB⟩
 obtain⟨rfl,rfl⟩:=zJ2 H
 go_enter Tryz.func160,Tryz.ntmps160
 go_wp2_with (first|((with_reducible refine aA (N:=3) rfl ?_);refine zx 3 81 #[.int .i64 kG,.bool jY,.int .i64 jP,.int .u64 kD,.int .u64 oZ,.bool oO] ?_;intro akf hg w22 hbox hb;have vw:=am (hbox);have asP:=zG hg HB;have asQ:=zG hg HB;replace HB:=zBs HB hb;clear hb hbox hg;obtain⟨_,_,_,_,_,_,_,_,_,_,_,_⟩:=zf6 vw)|((with_reducible refine af (f:=196) rfl ?_);refine zc (some 12) Tryz.func196 _ (ax.calls _ _ _ _ _ _ _ _ _ _ _ _ A3.out) ?_;rintro e w24 ⟨rfl,hb⟩;refine⟨_,rfl,?_⟩;replace vw:=zKb vw hb;replace HB:=zBs HB hb;clear hb))
 go_ret2
 exact⟨z2,zB HB⟩
def di.f (k:Nat)(a0:Int)(kG:Int)(jY:Bool)(jP:Int)(kD:Int)(oZ:Int)(oO:Bool):Option (Int):=(bP.f k a0 kG jY jP kD oZ oO).bind fun asR=>(some asR.1)
theorem di.calls (k:Nat)(a0:Int)(kG:Int)(jY:Bool)(jP:Int)(kD:Int)(oZ:Int)(oO:Bool)(r:Int)(w:World)(h:di.f k a0 kG jY jP kD oZ oO=some r) :
    Calls Tryz.prog 99 #[.int .i64 a0,.agg #[.int .i64 kG,.bool jY,.int .i64 jP,.int .u64 kD,.int .u64 oZ,.bool oO]] w fun e w'=>e=.returned (.int .u64 r)∧Below w.heap.size w w':=by
 have Vb:=Tryz.underlying81;have HB:=am (Below.refl w.heap.size w);have H:=am h;unfold di.f at H;clear h;replace H:=zo H;obtain⟨⟨aKV,aKW⟩,A3,H⟩:=H
 try dsimp only at H
 obtain rfl:=Option.some.inj H.out
 go_enter Tryz.func99,Tryz.ntmps99
 go_wp2_with (first|((with_reducible refine aA (N:=3) rfl ?_);refine zx 3 81 #[.int .i64 kG,.bool jY,.int .i64 jP,.int .u64 kD,.int .u64 oZ,.bool oO] ?_;intro aFc hg w4 hbox hb;have aew:=am (hbox);have aFd:=zG hg HB;have aFe:=zG hg HB;replace HB:=zBs HB hb;clear hb hbox hg;obtain⟨_,_,_,_,_,_,_,_,_,_,_,_⟩:=zf6 aew)|((with_reducible refine af (f:=160) rfl ?_);refine zc (some 10) Tryz.func160 _ (bP.calls _ _ _ _ _ _ _ _ _ _ _ A3.out) ?_;rintro e w6 ⟨rfl,hb⟩;refine⟨_,rfl,?_⟩;replace aew:=zKb aew hb;replace HB:=zBs HB hb;clear hb))
 go_ret
 exact⟨z2,zB HB⟩
def bg.l0:Nat→Int→Int→Option (Int)
  | 0,_,_=>none
  | k+1,x3,x4=>if x4 > 0 then (bg.l0 k (wrap64 (x3+1)) (wrap64 (Int.tdiv x4 2))) else (some x3)
def bg.f (k:Nat)(l0:List Int):Option (Int):=if (l0.length:Int)=0 then (some 0) else (if 0≤(wrap64 ((l0.length:Int)-1)) then (if (wrap64 ((l0.length:Int)-1))<(l0.length:Int) then (bg.l0 k (wrap64 (24*(wrap64 ((l0.length:Int)-1)))) (rd l0 (wrap64 ((l0.length:Int)-1)))) else (none)) else (none))
theorem bg.calls (k:Nat)(A0:Option Addr)(c0:Nat)(l0:List Int)(r:Int)(w:World)(hr0:Kd.C (Kd.int .i64) w A0 l0.length l0)(hc0:l0.length≤c0)(h:bg.f k l0=some r) :
    Calls Tryz.prog 101 #[.slice A0 l0.length c0] w fun e w'=>e=.returned (.int .i64 r)∧dX w w':=by
 have HR0:=am hr0;have HC0:=am hc0;clear hr0 hc0;have H:=am h;unfold bg.f at H;clear h;replace H:=zsk H;rcases H with⟨sQ,JU,H⟩|⟨sQ,JU,c2,H⟩;obtain rfl:=Option.some.inj H.out;rotate_left;have aug:¬ (l0=[]):=fun h_=>c2 (by rw[h_];rfl);generalize Ew:(wrap64 ((l0.length:Int)-1):Int)=ji3 at H;have Vs:(IntKind.i64.wrap ((l0.length:Int)-1))=ji3:=(bW _).trans Ew;replace H:=zid H;obtain⟨jV,H⟩:=H;replace H:=zid H;obtain⟨qN,H⟩:=H;obtain⟨aKX,aKY,aFf,rfl,aex⟩:=zA (Kd.dQ HR0.out (ji3));rotate_left
 all_goals (go_enter Tryz.func101,Tryz.ntmps101;go_wp2)
 ·go_ret
  exact⟨z1,z4⟩
 go_loopg [3,4] k (fun kq v3 v4 w' => ∃ (iy:Int) (qh:Int),v3=.int .i64 iy∧v4=.int .i64 qh∧ae (bg.l0 kq iy qh=some r)∧ae (kq≤k)∧dX w w')
 case atStart=>exact⟨(wrap64 (24*(ji3))),(rd l0 (ji3)),(by first|rfl|(simp;done)|(simp only[← Ew] <;> (first|rfl|simp))|(simp[*];done)),(by first|rfl|(simp;done)|(simp only[← Ew] <;> (first|rfl|simp))|(simp[*];done)),H,zL,z4⟩
 clear H
 try clear aex
 obtain⟨iy,qh,rfl,rfl,H,HK1,⟨m1,rfl⟩⟩:=hrel;obtain _|k1:=gk
 ·exact zz H rfl
 simp only[bg.l0]at H;replace H:=AV H;rcases H with⟨qV,H⟩|⟨qV,H⟩;rotate_left;obtain rfl:=Option.some.inj H.out;rotate_left
 all_goals (go_wp2)
 ·go_roundg k1
  case measure=>have:=HK1.out;omega
  case rel=>exact⟨(wrap64 (iy+1)),(wrap64 (Int.tdiv qh 2)),z1,z1,H,(zH HK1),z4⟩
 go_ret
 exact⟨by first|rfl|(simp;done)|(simp only[← Ew] <;> (first|rfl|simp))|(simp[*];done),z4⟩
mutual
def aN.l0:Nat→List Int→Int→Int→Option (Bool)
  | 0,_,_,_=>none
  | k+1,x0,x1,x5=>if x5<(x0.length:Int) then (aN.j1 k x0 x1 x5 (decide ((wrap64 (24*x5))<x1))) else (aN.j1 k x0 x1 x5 false)
def aN.j1:Nat→List Int→Int→Int→Bool→Option (Bool)
  | 0,_,_,_,_=>none
  | k+1,x0,x1,x5,x16=>if x16=true then (if (wrap64 (x1-(wrap64 (24*x5))))<24 then ((bM.f k (wrap64 (x1-(wrap64 (24*x5))))).bind fun asT=>(if 0≤x5 then (if x5<(x0.length:Int) then (if asT=0 then (none) else (if (Int.tmod (rd x0 x5) asT)=0 then (aN.l0 k x0 x1 (wrap64 (x5+1))) else (some true))) else (none)) else (none))) else (if 0≤x5 then (if x5<(x0.length:Int) then (if (Int.tmod (rd x0 x5) 16777216)=0 then (aN.l0 k x0 x1 (wrap64 (x5+1))) else (some true)) else (none)) else (none))) else (some false)
end
def aN.f (k:Nat)(l0:List Int)(a1:Int):Option (Bool):=aN.l0 k l0 a1 0
theorem aN.calls (k:Nat)(A0:Option Addr)(c0:Nat)(l0:List Int)(a1:Int)(r:Bool)(w:World)(hr0:Kd.C (Kd.int .i64) w A0 l0.length l0)(hc0:l0.length≤c0)(h:aN.f k l0 a1=some r) :
    Calls Tryz.prog 108 #[.slice A0 l0.length c0,.int .i64 a1] w fun e w'=>e=.returned (.bool r)∧dX w w':=by
 have HR0:=am hr0;have HC0:=am hc0;clear hr0 hc0;have H:=am h;unfold aN.f at H;clear h
 go_enter Tryz.func108,Tryz.ntmps108
 go_wp2
 go_loopg [5] k (fun kq v5 w' => ∃ (gV:Int),v5=.int .i64 gV∧ae (aN.l0 kq l0 a1 gV=some r)∧ae (kq≤k)∧dX w w')
 case atStart=>exact⟨(0),z1,H,zL,z4⟩
 clear H;obtain⟨gV,rfl,H,HK1,⟨m1,rfl⟩⟩:=hrel;obtain _|k1:=gk
 ·exact zz H rfl
 simp only[aN.l0]at H
 go_upto_region 2 with (fail)
 go_cut [16] (fun v16 wc => ∃ (kq:Nat) (DW:Bool),v16=.bool DW∧ae (aN.j1 kq l0 a1 gV DW=some r)∧ae (kq≤k1)∧dX w wc)
 case first =>
  replace H:=zsd H;rcases H with⟨jV,H⟩|⟨jV,H⟩
  (first|rw[jV]|(simp only[bW,fV];rw[jV])|rw[rZ]|skip)
  rotate_left
  (first|rw[jV]|(simp only[bW,fV];rw[jV])|rw[rZ]|skip)
  rotate_left
  all_goals (go_wp2)
  ·go_meet
   case rel=>exact⟨_,(decide ((wrap64 (24*gV))<a1)),z1,H,⟨by have:=HK1.out;first|omega|exact Nat.le_refl _⟩,z4⟩
  go_meet
  case rel=>exact⟨_,(false),z1,H,⟨by have:=HK1.out;first|omega|exact Nat.le_refl _⟩,z4⟩
 case rest =>
  obtain⟨kq,DW,rfl,H,HJ2,⟨mc2,rfl⟩⟩:=hcut;obtain _|kj2:=kq
  ·exact zz H rfl
  simp only[aN.j1]at H
  cases DW
  replace H:=zb0 H;obtain rfl:=Option.some.inj H.out;rotate_left;replace H:=zb1 H;replace H:=zsd H;rcases H with⟨qV,H⟩|⟨qV,H⟩;replace H:=zo H;obtain⟨asT,A7,H⟩:=H;replace H:=zid H;obtain⟨uz,H⟩:=H;replace H:=zid H;obtain⟨vF,H⟩:=H;replace H:=zjk H;obtain⟨oL,uX,c10,H⟩:=H;replace H:=zsk H;rcases H with⟨qJ,zM,H⟩|⟨qJ,zM,c11,H⟩;rotate_left;obtain rfl:=Option.some.inj H.out;rotate_left;replace H:=zid H;obtain⟨pM,H⟩:=H;replace H:=zid H;obtain⟨sD,H⟩:=H;replace H:=zsk H;rcases H with⟨wG,Md,H⟩|⟨wG,Md,c14,H⟩;obtain⟨aFg,aFh,asU,rfl,aey⟩:=zA (Kd.dQ HR0.out gV);rotate_left;obtain rfl:=Option.some.inj H.out;obtain⟨aFg,aFh,asU,rfl,aey⟩:=zA (Kd.dQ HR0.out gV);rotate_left
  all_goals (go_wp2_with (first|((with_reducible refine af (f:=142) rfl ?_);refine zc (some 28) Tryz.func142 _ (bM.calls _ _ _ _ A7.out) ?_;rintro e w' ⟨rfl,⟨nd,rfl⟩⟩;refine⟨_,rfl,?_⟩;have asV:0≤(gV:Int):=zD;have asW:gV<(l0.length:Int):=zD;obtain⟨aFi,aFj,asX⟩:=Kd.dQ HR0.out gV asV asW;cases aFj;replace asV:=eq_true asV;replace asW:=eq_true asW)))
  ·go_ret
   exact⟨z1,z4⟩
  ·go_roundg kj2
   case measure=>have:=HK1.out;have:=HJ2.out;omega
   case rel=>exact⟨(wrap64 (gV+1)),z1,H,⟨by have:=HK1.out;have:=HJ2.out;omega⟩,z4⟩
  ·go_ret
   exact⟨z1,z4⟩
  ·go_roundg kj2
   case measure=>have:=HK1.out;have:=HJ2.out;omega
   case rel=>exact⟨(wrap64 (gV+1)),z1,H,⟨by have:=HK1.out;have:=HJ2.out;omega⟩,z4⟩
  go_ret
  exact⟨z1,z4⟩
end Go.Proofs.Yy.PTx
end
section
namespace Go.Proofs.Yy.PTx
open Go.RowKit Go.Proofs.Yw.PrintWords Go.Proofs.Yw.PrintLast Go.Proofs.Yw.PrintMore Go.Proofs.Yy.M Go.Proofs.Yy.TA Go.Proofs.Yy.SC
theorem Yh (m:Nat)(h:m≤63):∀ n i:Nat,i+n=m→Ev (fun k=>bJ.l0 k (m:Int) ((2 ^ i:Nat):Int) (i:Int)) ((2 ^ m:Nat):Int):=by
 intro n
 induction n with
 | zero =>
  intro i hi
  obtain rfl:i=m:=by omega
  refine Ev.step (f:=fun _=>some ((2 ^ i:Nat):Int)) (fun k=>?_) (Ev.now _);simp only[bJ.l0];rw[if_neg (by omega)]
 | succ n ih =>
  intro i hi;have h1:2 ^ (i+1)<2 ^ 64:=Nat.pow_lt_pow_right (by omega) (by omega)
  have e:IntKind.u64.wrap (2*((2 ^ i:Nat):Int))=((2 ^ (i+1):Nat):Int):=by
   rw[IntKind.wrap_u64];rw[Nat.pow_succ]at h1 ⊢
   omega
  refine Ev.step (f:=fun k=>bJ.l0 k (m:Int) ((2 ^ (i+1):Nat):Int) ((i+1:Nat):Int)) (fun k=>?_) (ih (i+1) (by omega));simp only[bJ.l0];rw[if_pos (by omega),e,qm (by omega) (by omega)]
  rfl
theorem Oj {n:Nat}(hw:Wd n):Ev (fun k=>bJ.f k (wrap64 ((n:Int)-1))) ((2 ^ (n-1):Nat):Int):=by
 obtain⟨h8,h64⟩:=hw.bounds;rw[qm (by omega) (by omega),show ((n:Int)-1)=((n-1:Nat):Int) by omega];exact Yh (n-1) (by omega) (n-1) 0 (by omega)
theorem Z8 (w v:Nat):bs (w+1) v=EO (v / 2 ^ w)::bs w v:=by
 have h:=yI 1 (v / 2 ^ w) w v;rw[Nat.mul_comm,Nat.div_add_mod,Nat.add_comm]at h;rw[← h];rfl
theorem KO (l:List UInt8):strOfNums (l.map fun c=>(c.toNat:Int))=mkB l:=by
 unfold strOfNums mkB;rw[List.map_map]
 congr 2
 conv=>rhs;rw[← List.map_id l]
 exact List.map_congr_left fun c _=>by simp
theorem Ut (p:Nat)(hp:p<2 ^ 64):∀ (j:Nat) (acc:List UInt8),acc.length+j≤64 →
  Ev (fun k=>aY.l0 k (p:Int) (acc.map fun c=>(c.toNat:Int)) ((j:Int)-1)) (mkB (acc++bs j p)):=by
 intro j
 induction j with
 | zero =>
  intro acc h;refine Ev.step (f:=fun _=>some (mkB (acc++bs 0 p))) (fun k=>?_) (Ev.now _);simp only[aY.l0];rw[if_neg (by omega),KO];unfold bs;rw[List.append_nil]
 | succ j ih =>
  intro acc h
  have hb:(48+(Int.tmod (shr .u64 (p:Int) (j:Int)) 2)) % 256=((EO (p / 2 ^ j)).toNat:Int):=by
   rw[Aj p j hp,CJ,Int.tmod_eq_emod_of_nonneg (Int.natCast_nonneg _)]
   omega
  refine Ev.step (f:=fun k=>aY.l0 k (p:Int) ((acc ++ [EO (p / 2 ^ j)]).map fun c=>(c.toNat:Int)) ((j:Int)-1)) (fun k=>?_) ?_
  ·simp only[aY.l0]
   rw[show (((j+1:Nat):Int)-1)=(j:Int) by omega,if_pos (by omega),if_pos (by omega),if_pos (by rw[List.length_map];omega),hb,qm (by omega) (by omega),List.map_append]
   rfl
  ·have:=ih (acc ++ [EO (p / 2 ^ j)]) (by rw[List.length_append,List.length_singleton];omega)
   rw[List.append_assoc,List.singleton_append, ← Z8]at this;exact this
theorem yH (p:Nat)(hp:p<2 ^ 64)(n:Nat)(hn:n≤64):Ev (fun k=>aY.f k (p:Int) (n:Int)) (mkB (bs n p)):=by
 have h:=Ut p hp n [] (by simp;exact hn);refine Ev.congr (fun k=>?_) h;unfold aY.f;rw[qm (by omega) (by omega)]
 rfl
theorem agi (l:List UInt8)(h:∀ c ∈ l,c=48∨c=49):num l<2 ^ l.length:=by
 obtain⟨m,hm⟩:∃ m,m=l.length:=⟨_,rfl⟩
 induction m generalizing l with
 | zero=>obtain rfl:l=[]:=List.length_eq_zero_iff.1 hm.symm;decide
 | succ m ih =>
  rcases List.eq_nil_or_concat l with rfl|⟨q,c,rfl⟩
  ·decide
  ·rw[List.concat_eq_append]at *
   have hq:q.length=m:=by rw[List.length_append,List.length_singleton]at hm;omega
   have h1:=ih q (fun x hx=>h x (List.mem_append_left _ hx)) hq.symm;have h2:=h c (by simp);rw[Ho,List.length_append,List.length_singleton,Nat.pow_succ]
   have:c.toNat-48≤1:=by rcases h2 with rfl|rfl <;> decide
   omega
theorem UE (w:Nat):∀ v:Nat,∀ c ∈ bs w v,c=48∨c=49:=by
 induction w with
 | zero=>intro v c hc;simp[bs]at hc
 | succ w ih =>
  intro v c hc;rw[bs]at hc;rcases List.mem_append.1 hc with hc|hc
  ·exact ih _ c hc
  ·rw[List.mem_singleton]at hc
   subst hc;unfold EO
   have:v % 2=0∨v % 2=1:=by omega
   rcases this with h|h <;> rw[h]
   ·left;rfl
   ·right;rfl
theorem IZ (l:List UInt8)(h:∀ c ∈ l,c=48∨c=49)(hl:l.length≤64):∀ n i:Nat,i+n=l.length→Ev (fun k=>bu.l0 k (mkB l) ((num (l.take i):Nat):Int) (i:Int)) ((num l:Nat):Int):=by
 intro n
 induction n with
 | zero =>
  intro i hi;refine Ev.step (f:=fun _=>some ((num l:Nat):Int)) (fun k=>?_) (Ev.now _);simp only[bu.l0];rw[if_neg (by rw[cZ];omega),List.take_of_length_le (by omega)]
 | succ n ih =>
  intro i hi
  have hi2:i<l.length:=by omega
  have ht:l.take (i+1)=l.take i ++ [l[i]]:=by rw[List.take_append_getElem]
  have hb:=agi (l.take (i+1)) (fun c hc=>h c (List.mem_of_mem_take hc));rw[List.length_take,show min (i+1) l.length=i+1 by omega]at hb;have hb2:2 ^ (i+1)≤2 ^ 64:=Nat.pow_le_pow_right (by decide) (by omega);have hc:=h l[i] (List.getElem_mem hi2);have hbt:=EG hi2
  have hcv:((l[i].toNat:Int)-48) % 256=((l[i].toNat-48:Nat):Int)∧l[i].toNat-48≤1:=by rcases hc with e|e <;> rw[e] <;> decide
  have e:IntKind.u64.wrap ((IntKind.u64.wrap (2*((num (l.take i):Nat):Int)))+(((bt (mkB l) (i:Int))-48) % 256))=((num (l.take (i+1)):Nat):Int):=by
   rw[hbt,hcv.1];rw[ht,Ho]at hb ⊢;rw[p64]at hb2;rw[IntKind.wrap_u64,IntKind.wrap_u64];have:=hcv.2
   omega
  refine Ev.step (f:=fun k=>bu.l0 k (mkB l) ((num (l.take (i+1)):Nat):Int) ((i+1:Nat):Int)) (fun k=>?_) (ih (i+1) (by omega));simp only[bu.l0];rw[if_pos (by rw[cZ];omega),if_pos (by omega),e,qm (by omega) (by omega)]
  rfl
theorem aa3 {n:Nat}(hw:Wd n):fZ.f (n:Int)=some true:=by
 rcases hw with rfl|rfl|rfl|rfl <;> rfl
theorem abM {n:Nat}(hw:Wd n)(p:Nat)(hp:p<2 ^ 64):Ev (fun k=>iL.f k (n:Int) (p:Int)) ((p % 2 ^ n:Nat):Int):=by
 obtain⟨h8,h64⟩:=hw.bounds;have h1:=yH p hp n h64;have h2:=IZ (bs n p) (UE n p) (by rw[bs_len];exact h64) n 0 (by rw[bs_len];omega);rw[ZW]at h2;refine Ev.congr (f:=fun k=>((aY.f k (p:Int) (n:Int)).bind fun alv=>((bu.f k alv).bind fun alx=>(some (alx,(0:Int))))).bind fun aev=>some aev.1) (fun k=>?_) ?_
 ·unfold iL.f kF.f
  rw[aa3 hw]
  rfl
 ·refine Ev.bind (a:=(((p % 2 ^ n:Nat):Int),(0:Int))) ?_ (Ev.now _)
  refine Ev.bind h1 ?_;refine Ev.bind (a:=((p % 2 ^ n:Nat):Int)) (g:=fun k=>bu.f k (mkB (bs n p))) ?_ (Ev.now _);refine Ev.congr (fun k=>?_) h2;unfold bu.f
  rfl
end Go.Proofs.Yy.PTx
end
section
set_option maxHeartbeats 8000000
set_option maxRecDepth 100000
namespace Go.Proofs.Yy.PTx
open Go.RowKit Go.Proofs.Yy.Z Go.Proofs.Yw.PrintWords Go.Proofs.Yw.PrintLast Go.Proofs.Yw.PrintMore
open Go.Proofs.Yy.M
attribute [local go_sem] dP eU lV lX lW lU
attribute [local go_sem] iq ik jE jD gu gq iE iD
def aQ.l0:Nat→List Int→Int→List Int→Int→Option (List Int)
  | 0,_,_,_,_=>none
  | k+1,x5,x6,x7,x8=>if x8<(x5.length:Int) then (if 0≤x8 then (if x6=0 then (none) else ((aZ.f x5 (wrap64 (x8+1))).bind fun akg=>(if x8<(x7.length:Int) then (aQ.l0 k x5 x6 (x7.set (x8:Int).toNat (wrap64 ((wrap64 (Int.tdiv (rd x5 x8) x6))+(wrap64 ((Int.tmod akg x6)*(wrap64 (Int.tdiv (16777216:Int) x6))))))) (wrap64 (x8+1))) else (none)))) else (none)) else ((aV.f k x7).bind fun axI=>(some axI))
def aQ.f (k:Nat)(l0:List Int)(a1:Int):Option (List Int):=if (wrap64 (Int.tdiv a1 24))≥(l0.length:Int) then (some ([]:List Int)) else (if 0≤(wrap64 (Int.tdiv a1 24)) then (if (wrap64 (Int.tdiv a1 24))≤(l0.length:Int) then ((some (l0.drop ((wrap64 (Int.tdiv a1 24)):Int).toNat:List Int)).bind fun Gm=>((bM.f k (Int.tmod a1 24)).bind fun Zz=>(if 0≤(Gm.length:Int) then (if ((Gm.length:Int):Int).toNat≤35184372088832 then (aQ.l0 k Gm Zz (List.replicate ((Gm.length:Int):Int).toNat 0) 0) else (none)) else (none)))) else (none)) else (none))
def aQ.T9:Bool × List (List Nat × List Nat):=(true,[([],[]),([],[]),([],[]),([],[]),([2,3],[2,3]),([4],[4]),([],[]),([5,6],[5,6]),([],[]),([],[]),([9],[9]),([8,10],[8,10]),([],[]),([11,12],[11,12]),([],[]),([14],[14]),([13,15],[13,15]),([7,16],[7,16]),([0,1,0,1,2,3,4,5,6,7,8,9,10,11,12,13,14,15,16,17],[0,1]),([18,17,11,0,1,2,3,4,5,6,7,8,9,10,11,12,13,14,15,16,17],[17,18])])
def aQ.B9:List Nat := [0,0,0,0,12,28,0,124,0,0,512,1792,0,7936,0,16384,65280,131068,262143,524287]
theorem aQ.agr:rX .any (opsOf Tryz.f109 9)=aQ.T9:=by kernel_rfl
theorem aQ.TV:jf aQ.T9.2 aQ.B9=true:=by kernel_rfl
theorem aQ.calls (k:Nat)(A0:Option Addr)(c0:Nat)(l0:List Int)(a1:Int)(r:List Int)(w:World)(hr0:Kd.C (Kd.int .i64) w A0 l0.length l0)(hc0:l0.length≤c0)(h:aQ.f k l0 a1=some r) :
    Calls Tryz.prog 109 #[.slice A0 l0.length c0,.int .i64 a1] w fun e w' => ∃ v0_:Value,e=.returned (v0_)∧Kd.R (Kd.int .i64) 3 w' w.heap.size (fun _=>True) v0_ r∧Below w.heap.size w w':=by
 have HR0:=am hr0;have HC0:=am hc0;clear hr0 hc0;have HB:=am (Below.refl w.heap.size w);have H:=am h;unfold aQ.f at H;clear h;replace H:=yD H;rcases H with⟨pK,H⟩|⟨pK,H⟩;obtain rfl:=Option.some.inj H.out;rotate_left;generalize BX:(wrap64 (Int.tdiv a1 24):Int)=ji4 at H
 (try rw[BX]at pK)
 have U4:(IntKind.i64.wrap (Int.tdiv a1 24))=ji4:=(bW _).trans BX;replace H:=zit H;obtain⟨qN,xC,H⟩:=H;replace H:=zit H;obtain⟨qV,BB,H⟩:=H;obtain⟨Gm,akh,H⟩:=zw H;replace H:=zo H;obtain⟨Zz,A7,H⟩:=H;replace H:=zit H;obtain⟨uz,Ey,H⟩:=H;replace H:=zit H;obtain⟨vF,BD,H⟩:=H;generalize aki:(List.replicate ((Gm.length:Int):Int).toNat 0:List Int)=aFk at H;have akj:=zY aki;clear aki;have q10:((ji4):Int)≤((l0.length:Int):Int):=zD;obtain⟨aEW,WN,_,Zu,_⟩:=info_parts info3;have Nr:l0.length≤c0:=HC0.out;have axJ:Kd.C (Kd.int .i64) _ A0 l0.length l0:=HR0.out;have aFl:(0:Int)≤((ji4):Int):=zD;have WO:=Nz (P:=Tryz.prog) 70 3 .i64 Tryz.underlying70 WN 1 Zu A0 l0.length c0 (ji4) aFl q10;have Xo:=Kd.Um (m:=((ji4):Int).toNat) (c:=c0) axJ (by omega) Nr
 obtain⟨A10,hA10⟩:∃ A1,A1=(if c0=((ji4):Int).toNat then A0 else (A0:Option Addr).map (·.add (((ji4):Int).toNat*1))):=⟨_,rfl⟩
 obtain⟨c10,asY⟩:∃ c1,c1=c0-((ji4):Int).toNat:=⟨_,rfl⟩
 have aep:Gm.length=l0.length-((ji4):Int).toNat:=(by rw[akh.out,List.length_drop] <;> omega)
 rw[show (l0).drop ((ji4):Int).toNat=Gm from akh.out.symm]at Xo
 replace Xo:Kd.C (Kd.int .i64) _ A10 Gm.length Gm:=(by rw[hA10];exact Xo)
 rw[← aep, ← hA10, ← asY]at WO;have akk:=am Xo;have asZ:=am (show Gm.length≤c10 from by rw[aep,asY];exact Nat.sub_le_sub_right Nr _);clear Xo axJ Nr WN Zu asY;have aKZ:=am aep;have aK1:=am hA10;clear aep hA10;replace q10:=eq_true q10;rotate_left
 all_goals (go_enter Tryz.func109,Tryz.ntmps109;go_wp2_with (first|((with_reducible refine af (f:=142) rfl ?_);refine zc (some 20) Tryz.func142 _ (bM.calls _ _ _ _ A7.out) ?_;rintro e w' ⟨rfl,⟨nd,rfl⟩⟩;refine⟨_,rfl,?_⟩)|((with_reducible refine aA (N:=23) rfl ?_);refine Kd.wE (Kd.int .i64) _ 3 rfl (N:=23) rfl 70 _ _ rfl (Gm.length:Int) (by first|rfl|(simp only[List.length_drop,List.length_take];rfl)) (by first|rfl|(simp only[List.length_drop,List.length_take];rfl)) Tryz.underlying70 (.int .i64 0) 8 info3 rfl (by decide) (by omega) 0 (ok:=fun _=>True) (okp:=fun _=>True) rfl (fun _ hk=>hk) trivial (zD) (Nat.le_trans (Nat.mul_le_mul_right _ (zD:(Gm.length:Int).toNat≤35184372088832)) (by omega)) (Below.refl _ _) (Nat.le_refl _) ?_;intro axK w11 akl hb hg_ jO;clear hg_ jO;(first|rw[← akj.out]at akl|(simp only[Int.reduceToNat]at akl;rw[← akj.out]at akl));have as1:=am (Kd.dZ akl (zS HB));replace HB:=zBs HB hb;clear hb akl)))
 ·go_ret
  exact⟨_,z2,by first|exact Kd.G8 _ _ _ _ _|exact Kd.Yl _ _ _ _ _|exact Kd.Ah _ _ _ _ _|exact Kd.Xy _ _ _ _ _|exact Kd.YJ _ _ _ _ _,zB HB⟩
 go_loopg [8] k (fun kq v8 w' => ∃ (lC:List Int) (lF:Int),v8=.int .i64 lF∧ae (aQ.l0 kq Gm Zz lC lF=some r)∧ae (kq≤k)∧ae (Kd.R (Kd.int .i64) 3 w' w.heap.size (fun _=>True) axK lC)∧ae (Below w.heap.size w w'))
 case atStart=>exact⟨(aFk),(0),z1,H,zL,⟨zR as1⟩,⟨zB HB⟩⟩
 clear H;obtain⟨lC,lF,rfl,H,HK1,jI,HB⟩:=hrel;obtain _|k1:=gk
 ·exact zz H rfl
 simp only[aQ.l0]at H;replace H:=zsd H;rcases H with⟨sD,H⟩|⟨sD,H⟩
 ·replace H:=zid H
  obtain⟨wG,H⟩:=H;replace H:=zjk H;obtain⟨xZ,LY,c15,H⟩:=H;replace H:=zo H;obtain⟨akg,A16,H⟩:=H;replace H:=zid H;obtain⟨wF,H⟩:=H;generalize akm:(lC.set (lF:Int).toNat (wrap64 ((wrap64 (Int.tdiv (rd Gm lF) Zz))+(wrap64 ((Int.tmod akg Zz)*(wrap64 (Int.tdiv (16777216:Int) Zz)))))):List Int)=aFm at H;have as2:=zY akm;clear akm
  try go_wp2
  replace jI:=am (Kd.dK jI.out);replace HB:=am (aW HB.out);have as3:0≤(lF:Int):=zD;have as4:lF<(Gm.length:Int):=zD;obtain⟨akn,aFn,En⟩:=Kd.dQ akk.out lF as3 as4;have IK:=En
  cases aFn
  replace En:=(HB.out.cell (World.block_lt_of_cell? w _ En)).trans En;replace as3:=eq_true as3;replace as4:=eq_true as4;refine mM (n:=20) (S:=fun w'=>w'.cell? (akn.add (lF).toNat)=some (.int .i64 (rd Gm lF))) (ds := [19]) (Array.replicate 20 false) (by kernel_rfl) rfl rfl (((HB.out.cell (World.block_lt_of_cell? w _ IK)).trans IK)) (fun hHeld=>?_);refine gQ aQ.agr aQ.TV (fun HT_ HW_=>?_);generalize wr.drew=w19 at jI HB En hHeld ⊢;refine zp HT_ 0 (some 30) ?_;refine zp HT_ 1 (some 31) ?_;refine zp HT_ 2 (some 32) ?_;refine zp HT_ 3 (some 33) ?_;refine zp HT_ 4 (some 34) ?_;refine zp HT_ 6 (some 36) ?_;refine zp HT_ 8 (some 38) ?_;refine zp HT_ 9 (some 39) ?_;refine zp HT_ 10 (some 40) ?_;refine zp HT_ 12 (some 42) ?_;refine zp HT_ 14 (some 44) ?_;refine zp HT_ 15 (some 45) ?_;refine zt HT_ HW_ 5 (some 35) hHeld ?_;refine zp HT_ 7 (some 37) ?_;refine zu HT_ 11 (some 41) (fun K hK=>?_);refine oV Tryz.func138 (by kernel_rfl) rfl #[.slice (some akn) Gm.length c10,.int .i64 (wrap64 (lF+1))] (by rfl) rfl rfl (by (try simp only[List.map_toArray,List.map_cons,List.map_nil]);first|done|rfl|(simp only[List.length_drop,List.length_take];rfl)) ?_
  with_reducible refine (aZ.calls _ _ Gm (wrap64 (lF+1)) akg _ ?eu ?kw A16.out).mono ?_
  (case eu=>repeat (first|exact (Kd.ku akk.out HB.out)|(with_reducible refine Kd.kJ ?_ _)|(with_reducible refine Kd.kM ?_ _)|(with_reducible refine Kd.ny ?_)))
  (case kw=>exact asZ.out)
  rintro e w' ⟨rfl,⟨nd,rfl⟩⟩;refine⟨_,rfl,?_⟩
  (try (rw[gI w19];generalize hq_:World.drewN w19 _=w19;have n0_:ae (Kd.R (Kd.int .i64) 3 w19 w.heap.size (fun _=>True) axK lC):=⟨by rw[← hq_];exact (zR jI)⟩;have n1_:ae (Below w.heap.size w w19):=⟨by rw[← hq_];exact (zB HB)⟩;clear jI HB hq_;have jI:=n0_;have HB:=n1_;clear n0_ n1_))
  have p18:0≤(lF:Int):=zD;have q18:(lF:Int)<((lC.length:Int):Int):=zD;obtain⟨ak3,sF,MC,ahK,aoX,az9,ahL⟩:=Kd.oP jI.out (by omega)
  (first|cases MC|(injection MC with ea_ en_ ec_;(first|subst ea_|(injection ea_ with ea_;subst ea_));subst ec_;clear en_))
  have avi:=am ahK;have aAa:=am ahL;clear ahK aoX ahL;obtain⟨ahM,ahN⟩:=Kd.iR 0 jI.out (lF:Int) p18 q18;replace p18:=eq_true p18;replace q18:=eq_true q18;have adn:=Kd.NT jI.out (lF:Int) (wrap64 ((wrap64 (Int.tdiv (rd Gm lF) Zz))+(wrap64 ((Int.tmod akg Zz)*(wrap64 (Int.tdiv (16777216:Int) Zz))))));rw[← as2.out]at adn;have aFo:=am adn;clear adn;refine hK.out _ _ (((HB.out.cell (World.block_lt_of_cell? w _ IK)).trans IK)) (fun hHeld=>?_);clear hK K;refine mD (a':=?_) ?_ ?_;rotate_left
  ·show Act.put _ (some 41) _=_
   simp only[Act.put,List.setIfInBounds_toArray,List.set_cons_zero,List.set_cons_succ,bW,fV]
   rfl
  refine zp HT_ 13 (some 43) ?_;refine zp HT_ 16 (some 46) ?_;refine zp HT_ 17 (some 47) ?_;refine zp HT_ 18 (some 48) ?_;refine Lh (i:=19) (N:=none) #[true,true,true,true,true,true,true,true,true,true,true,true,true,true,true,true,true,true,true,true] rfl rfl (AO HT_.out (by kernel_rfl)) (by decide) (fun K hK=>?_);refine xy (w1:=?_) (by rfl) rfl ?_ ?_;rotate_left
  ·go_simp
   rfl
  refine hK.out _ _ ?_;clear hK K;refine oG (iJ HT_.out (by kernel_rfl)) ?_
  try go_wp2
  go_roundg k1
  case measure=>have:=HK1.out;omega
  case rel=>exact⟨(aFm),(wrap64 (lF+1)),z1,H,(zH HK1),⟨zR aFo⟩,⟨zB HB⟩⟩
 replace H:=zo H;obtain⟨axI,A21,H⟩:=H;obtain rfl:=Option.some.inj H.out;obtain⟨afc,QJ,ah2⟩:=Kd.dU jI.out;subst ah2
 go_wp2_with (first|((with_reducible refine af (f:=141) rfl ?_);refine zc (some 50) Tryz.func141 #[.slice afc lC.length QJ] (aV.calls _ (fun k_=>some k_=(.slice afc lC.length QJ:Value).ownBlock) (.slice afc lC.length QJ) _ _ w _ ?eu (Kd.jZ rfl jI.out) A21.out) ?_;(case eu=>repeat (first|(with_reducible first|exact HB.out|apply bn|apply aJ|apply aW)|exact HB.out));rintro e w23 ⟨aK2,rfl,ho0,hb,hkp⟩;refine⟨_,rfl,?_⟩;have as5:=am (Kd.dm (ok':=fun k_=>True) ho0 (fun k_ hk_=>trivial));replace HB:=am (hb);clear jI hb hkp ho0))
 go_ret
 exact⟨_,by first|exact z3|(simp only[← BX];exact z3)|exact z2,zR as5,zB HB⟩
def jy.f (a0:Int):Option (Int):=if a0<(-1099511627776) then (some (-1099511627776)) else (if a0 > 1099511627776 then (some 1099511627776) else (some a0))
theorem jy.calls (a0:Int)(r:Int)(w:World)(h:jy.f a0=some r) :
    Calls Tryz.prog 161 #[.int .i64 a0] w fun e w'=>e=.returned (.int .i64 r)∧dX w w':=by
 have H:=am h;unfold jy.f at H;clear h;replace H:=zsd H;rcases H with⟨sQ,H⟩|⟨sQ,H⟩;obtain rfl:=Option.some.inj H.out;rotate_left;replace H:=AV H;rcases H with⟨pK,H⟩|⟨pK,H⟩;obtain rfl:=Option.some.inj H.out;rotate_left;obtain rfl:=Option.some.inj H.out;rotate_left
 all_goals (go_enter Tryz.func161,Tryz.ntmps161;go_wp2)
 ·go_ret
  exact⟨z1,z4⟩
 ·go_ret
  exact⟨z1,z4⟩
 go_ret
 exact⟨z1,z4⟩
def bC.l0:Nat→List Int→Int→Int→Option (Int)
  | 0,_,_,_=>none
  | k+1,x0,x3,x4=>if x4≥0 then ((aZ.f x0 x4).bind fun as6=>(bC.l0 k x0 (IntKind.u64.wrap ((IntKind.u64.wrap (x3*16777216))+(IntKind.u64.wrap (as6)))) (wrap64 (x4-1)))) else (some x3)
def bC.f (k:Nat)(l0:List Int):Option (Int):=bC.l0 k l0 0 2
theorem bC.calls (k:Nat)(A0:Option Addr)(c0:Nat)(l0:List Int)(r:Int)(w:World)(hr0:Kd.C (Kd.int .i64) w A0 l0.length l0)(hc0:l0.length≤c0)(h:bC.f k l0=some r) :
    Calls Tryz.prog 162 #[.slice A0 l0.length c0] w fun e w'=>e=.returned (.int .u64 r)∧dX w w':=by
 have HR0:=am hr0;have HC0:=am hc0;clear hr0 hc0;have H:=am h;unfold bC.f at H;clear h
 go_enter Tryz.func162,Tryz.ntmps162
 go_wp2
 go_loopg [3,4] k (fun kq v3 v4 w' => ∃ (iy:Int) (qh:Int),v3=.int .u64 iy∧v4=.int .i64 qh∧ae (bC.l0 kq l0 iy qh=some r)∧ae (kq≤k)∧dX w w')
 case atStart=>exact⟨(0),(2),z1,z1,H,zL,z4⟩
 clear H;obtain⟨iy,qh,rfl,rfl,H,HK1,⟨m1,rfl⟩⟩:=hrel;obtain _|k1:=gk
 ·exact zz H rfl
 simp only[bC.l0]at H;replace H:=yD H;rcases H with⟨sQ,H⟩|⟨sQ,H⟩;replace H:=zo H;obtain⟨as6,A3,H⟩:=H;rotate_left;obtain rfl:=Option.some.inj H.out;rotate_left
 all_goals (go_wp2_with (first|((with_reducible refine af (f:=138) rfl ?_);refine zc (some 13) Tryz.func138 #[.slice A0 l0.length c0,.int .i64 qh] (aZ.calls _ _ _ _ _ _ (zC HR0.out) HC0.out A3.out) ?_;rintro e w' ⟨rfl,⟨nd,rfl⟩⟩;refine⟨_,rfl,?_⟩)))
 ·go_roundg k1
  case measure=>have:=HK1.out;omega
  case rel=>exact⟨(IntKind.u64.wrap ((IntKind.u64.wrap (iy*16777216))+(IntKind.u64.wrap (as6)))),(wrap64 (qh-1)),z1,z1,H,(zH HK1),z4⟩
 go_ret
 exact⟨z1,z4⟩
end Go.Proofs.Yy.PTx
end
