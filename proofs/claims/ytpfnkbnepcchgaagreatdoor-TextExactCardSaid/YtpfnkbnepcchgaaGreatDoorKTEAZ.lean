/- Part 26 of what the proof needs. -/
import Derived.Test.YtpfnkbnepcchgaaGreatDoorKTEAY
set_option linter.unusedSimpArgs false
set_option linter.unusedVariables false
section
set_option maxHeartbeats 8000000
set_option maxRecDepth 100000
namespace Go.Proofs.Yy.PTx
open Go.RowKit Go.Proofs.Yy.Z Go.Proofs.Yw.PrintWords Go.Proofs.Yw.PrintLast Go.Proofs.Yw.PrintMore
open Go.Proofs.Yy.M
attribute [local go_sem] dw dQ lD lF lC lG
attribute [local go_sem] gy gz ja jc fC fD gQ gK
def bn.l0:Nat→List Int→Int→List Int→Int→Option (List Int)
  | 0,_,_,_,_=>none
  | k+1,x5,x6,x7,x8=>if x8<(x5.length:Int) then (if 0≤x8 then (if x6=0 then (none) else ((bK.f x5 (wrap64 (x8+1))).bind fun afX=>(if x8<(x7.length:Int) then (bn.l0 k x5 x6 (x7.set (x8:Int).toNat (wrap64 ((wrap64 (Int.tdiv (rd x5 x8) x6))+(wrap64 ((Int.tmod afX x6) * (wrap64 (Int.tdiv (16777216:Int) x6))))))) (wrap64 (x8+1))) else (none)))) else (none)) else ((aU.f k x7).bind fun asA=>(some asA))
def bn.f (k:Nat) (l0:List Int) (a1:Int):Option (List Int):=if (wrap64 (Int.tdiv a1 24)) ≥ (l0.length:Int) then (some ([]:List Int)) else (if 0≤(wrap64 (Int.tdiv a1 24)) then (if (wrap64 (Int.tdiv a1 24))≤(l0.length:Int) then ((some (l0.drop ((wrap64 (Int.tdiv a1 24)):Int).toNat:List Int)).bind fun FI=>((bH.f k (Int.tmod a1 24)).bind fun Yo=>(if 0≤(FI.length:Int) then (if ((FI.length:Int):Int).toNat≤35184372088832 then (bn.l0 k FI Yo (List.replicate ((FI.length:Int):Int).toNat 0) 0) else (none)) else (none)))) else (none)) else (none))
def bn.T9:Bool × List (List Nat × List Nat):=(true, [([], []),([], []),([], []),([], []),([2,3], [2,3]),([4], [4]),([], []),([5,6], [5,6]),([], []),([], []),([9], [9]),([8,10], [8,10]),([], []),([11,12], [11,12]),([], []),([14], [14]),([13,15], [13,15]),([7,16], [7,16]),([0,1,0,1,2,3,4,5,6,7,8,9,10,11,12,13,14,15,16,17], [0,1]),([18,17,11,0,1,2,3,4,5,6,7,8,9,10,11,12,13,14,15,16,17], [17,18])])
def bn.B9:List Nat := [0,0,0,0,12,28,0,124,0,0,512,1792,0,7936,0,16384,65280,131068,262143,524287]
theorem bn.aez:rW .any (opsOf Tryz.f109 9)=bn.T9:=by kernel_rfl
theorem bn.Ux:jB bn.T9.2 bn.B9=true:=by kernel_rfl
theorem bn.calls (k:Nat) (A0:Option Addr) (c0:Nat) (l0:List Int) (a1:Int) (r:List Int) (w:World) (hr0:Kd.C (Kd.int .i64) w A0 l0.length l0) (hc0:l0.length≤c0) (h:bn.f k l0 a1=some r) :
    Calls Tryz.prog 109 #[.slice A0 l0.length c0, .int .i64 a1] w fun e w' => ∃ v0_:Value,e = .returned (v0_)∧Kd.R (Kd.int .i64) 3 w' w.heap.size (fun _=>True) v0_ r∧Below w.heap.size w w':=by
 have HR0:=am hr0
 have HC0:=am hc0
 clear hr0 hc0
 have HB:=am (Below.refl w.heap.size w)
 have H:=am h
 unfold bn.f at H
 clear h
 replace H:=zf H
 rcases H with ⟨pg,H⟩|⟨pg,H⟩
 obtain rfl:=Option.some.inj H.out
 rotate_left
 generalize BI:(wrap64 (Int.tdiv a1 24):Int)=ji4 at H
 (try rw [BI] at pg)
 have UK:(IntKind.i64.wrap (Int.tdiv a1 24))=ji4:=(bI _).trans BI
 replace H:=zit H
 obtain ⟨rG,xw,H⟩:=H
 replace H:=zit H
 obtain ⟨rF,Bg,H⟩:=H
 obtain ⟨FI,afY,H⟩:=zw H
 replace H:=zo H
 obtain ⟨Yo,A7,H⟩:=H
 replace H:=zit H
 obtain ⟨uD,Ey,H⟩:=H
 replace H:=zit H
 obtain ⟨yI,Ed,H⟩:=H
 generalize afZ:(List.replicate ((FI.length:Int):Int).toNat 0:List Int)=axi at H
 have af0:=zY afZ
 clear afZ
 have q10:((ji4):Int)≤((l0.length:Int):Int):=zD
 obtain ⟨aw6,UL,_,Yk,_⟩:=info_parts info3
 have LU:l0.length≤c0:=HC0.out
 have asB:Kd.C (Kd.int .i64) _ A0 l0.length l0:=HR0.out
 have axj:(0:Int)≤((ji4):Int):=zD
 have UM:=N8 (P:=Tryz.prog) 70 3 .i64 Tryz.underlying70 UL 1 Yk A0 l0.length c0 (ji4) axj q10
 have WR:=Kd.Sm (m:=((ji4):Int).toNat) (c:=c0) asB (by omega) LU
 obtain ⟨A10,hA10⟩:∃ A1,A1=(if c0=((ji4):Int).toNat then A0 else (A0:Option Addr).map (·.add (((ji4):Int).toNat * 1))):=⟨_,rfl⟩
 obtain ⟨c10,alP⟩:∃ c1,c1=c0 - ((ji4):Int).toNat:=⟨_,rfl⟩
 have abK:FI.length=l0.length - ((ji4):Int).toNat:=(by rw [afY.out,List.length_drop] <;> omega)
 rw [show (l0).drop ((ji4):Int).toNat=FI from afY.out.symm] at WR
 replace WR:Kd.C (Kd.int .i64) _ A10 FI.length FI:=(by rw [hA10];exact WR)
 rw [← abK, ← hA10, ← alP] at UM
 have af1:=am WR
 have alQ:=am (show FI.length≤c10 from by rw [abK,alP];exact Nat.sub_le_sub_right LU _)
 clear WR asB LU UL Yk alP
 have aFL:=am abK
 have aFM:=am hA10
 clear abK hA10
 replace q10:=eq_true q10
 rotate_left
 all_goals (go_enter Tryz.func109,Tryz.ntmps109;go_wp2_with (first|((with_reducible refine af (f:=142) rfl ?_);refine zc (some 20) Tryz.func142 _ (bH.calls _ _ _ _ A7.out) ?_;rintro e w' ⟨rfl,⟨nd,rfl⟩⟩;refine ⟨_,rfl,?_⟩)|((with_reducible refine ay (N:=23) rfl ?_);refine Kd.vw (Kd.int .i64) _ 3 rfl (N:=23) rfl 70 _ _ rfl (FI.length:Int) (by first|rfl|(simp only [List.length_drop,List.length_take];rfl)) (by first|rfl|(simp only [List.length_drop,List.length_take];rfl)) Tryz.underlying70 (.int .i64 0) 8 info3 rfl (by decide) (by omega) 0 (ok:=fun _=>True) (okp:=fun _=>True) rfl (fun _ hk=>hk) trivial (zD) (Nat.le_trans (Nat.mul_le_mul_right _ (zD:(FI.length:Int).toNat≤35184372088832)) (by omega)) (Below.refl _ _) (Nat.le_refl _) ?_;intro asC w11 af2 hb hg_ jf;clear hg_ jf;(first|rw [← af0.out] at af2|(simp only [Int.reduceToNat] at af2;rw [← af0.out] at af2));have alR:=am (Kd.eP af2 (zS HB));replace HB:=zBs HB hb;clear hb af2)))
 ·go_ret
  exact ⟨_,z2,by first|exact Kd.Gq _ _ _ _ _|exact Kd.Xj _ _ _ _ _|exact Kd.zg _ _ _ _ _|exact Kd.XJ _ _ _ _ _|exact Kd.XN _ _ _ _ _,zB HB⟩
 go_loopg [8] k (fun kq v8 w' => ∃ (kR:List Int) (kS:Int),v8 = .int .i64 kS∧ae (bn.l0 kq FI Yo kR kS=some r)∧ae (kq≤k)∧ae (Kd.R (Kd.int .i64) 3 w' w.heap.size (fun _=>True) asC kR)∧ae (Below w.heap.size w w'))
 case atStart=>exact ⟨(axi),(0),z1,H,zL,⟨zR alR⟩,⟨zB HB⟩⟩
 clear H
 obtain ⟨kR,kS,rfl,H,HK1,kE,HB⟩:=hrel
 obtain _|k1:=gk
 ·exact zz H rfl
 simp only [bn.l0] at H
 replace H:=zsd H
 rcases H with ⟨qJ,H⟩|⟨qJ,H⟩
 ·replace H:=zid H
  obtain ⟨uH,H⟩:=H
  replace H:=zjk H
  obtain ⟨Bf,Qm,c15,H⟩:=H
  replace H:=zo H
  obtain ⟨afX,A16,H⟩:=H
  replace H:=zid H
  obtain ⟨Dk,H⟩:=H
  generalize af4:(kR.set (kS:Int).toNat (wrap64 ((wrap64 (Int.tdiv (rd FI kS) Yo))+(wrap64 ((Int.tmod afX Yo) * (wrap64 (Int.tdiv (16777216:Int) Yo)))))):List Int)=axk at H
  have alS:=zY af4
  clear af4
  try go_wp2
  replace kE:=am (Kd.dY kE.out)
  replace HB:=am (aZ HB.out)
  have alT:0≤(kS:Int):=zD
  have alU:kS<(FI.length:Int):=zD
  obtain ⟨af5,axl,Dl⟩:=Kd.dH af1.out kS alT alU
  have GZ:=Dl
  cases axl
  replace Dl:=(HB.out.cell (World.block_lt_of_cell? w _ Dl)).trans Dl
  replace alT:=eq_true alT
  replace alU:=eq_true alU
  refine ny (n:=20) (S:=fun w'=>w'.cell? (af5.add (kS).toNat)=some (.int .i64 (rd FI kS))) (ds := [19]) (Array.replicate 20 false) (by kernel_rfl) rfl rfl (((HB.out.cell (World.block_lt_of_cell? w _ GZ)).trans GZ)) (fun hHeld=>?_);refine iw bn.aez bn.Ux (fun HT_ HW_=>?_)
  generalize wr.drew=w19 at kE HB Dl hHeld ⊢
  refine zp HT_ 0 (some 30) ?_
  refine zp HT_ 1 (some 31) ?_
  refine zp HT_ 2 (some 32) ?_
  refine zp HT_ 3 (some 33) ?_
  refine zp HT_ 4 (some 34) ?_
  refine zp HT_ 6 (some 36) ?_
  refine zp HT_ 8 (some 38) ?_
  refine zp HT_ 9 (some 39) ?_
  refine zp HT_ 10 (some 40) ?_
  refine zp HT_ 12 (some 42) ?_
  refine zp HT_ 14 (some 44) ?_
  refine zp HT_ 15 (some 45) ?_
  refine zt HT_ HW_ 5 (some 35) hHeld ?_
  refine zp HT_ 7 (some 37) ?_
  refine zu HT_ 11 (some 41) (fun K hK=>?_)
  refine oK Tryz.func138 (by kernel_rfl) rfl #[.slice (some af5) FI.length c10, .int .i64 (wrap64 (kS+1))] (by rfl) rfl rfl (by (try simp only [List.map_toArray,List.map_cons,List.map_nil]);first|done|rfl|(simp only [List.length_drop,List.length_take];rfl)) ?_
  with_reducible refine (bK.calls _ _ FI (wrap64 (kS+1)) afX _ ?fF ?kC A16.out).mono ?_
  (case fF=>repeat (first|exact (Kd.kw af1.out HB.out)|(with_reducible refine Kd.ku ?_ _)|(with_reducible refine Kd.jZ ?_ _)|(with_reducible refine Kd.nC ?_)))
  (case kC=>exact alQ.out)
  rintro e w' ⟨rfl,⟨nd,rfl⟩⟩
  refine ⟨_,rfl,?_⟩
  (try (rw [iT w19];generalize hq_:World.drewN w19 _=w19;have n0_:ae (Kd.R (Kd.int .i64) 3 w19 w.heap.size (fun _=>True) asC kR):=⟨by rw [← hq_];exact (zR kE)⟩;have n1_:ae (Below w.heap.size w w19):=⟨by rw [← hq_];exact (zB HB)⟩;clear kE HB hq_;have kE:=n0_;have HB:=n1_;clear n0_ n1_))
  have p18:0≤(kS:Int):=zD
  have q18:(kS:Int)<((kR.length:Int):Int):=zD
  obtain ⟨ajV,qY,LV,af6,alV,axm,af7⟩:=Kd.oD kE.out (by omega)
  (first|cases LV|(injection LV with ea_ en_ ec_;(first|subst ea_|(injection ea_ with ea_;subst ea_));subst ec_;clear en_))
  have asD:=am af6
  have axn:=am af7
  clear af6 alV af7
  obtain ⟨af8,af9⟩:=Kd.iI 0 kE.out (kS:Int) p18 q18
  replace p18:=eq_true p18
  replace q18:=eq_true q18
  have abR:=Kd.NF kE.out (kS:Int) (wrap64 ((wrap64 (Int.tdiv (rd FI kS) Yo))+(wrap64 ((Int.tmod afX Yo) * (wrap64 (Int.tdiv (16777216:Int) Yo))))))
  rw [← alS.out] at abR
  have axo:=am abR
  clear abR
  refine hK.out _ _ (((HB.out.cell (World.block_lt_of_cell? w _ GZ)).trans GZ)) (fun hHeld=>?_)
  clear hK K
  refine kK (a':=?_) ?_ ?_
  rotate_left
  ·show Act.put _ (some 41) _=_
   simp only [Act.put,List.setIfInBounds_toArray,List.set_cons_zero,List.set_cons_succ,bI,dV]
   rfl
  refine zp HT_ 13 (some 43) ?_
  refine zp HT_ 16 (some 46) ?_
  refine zp HT_ 17 (some 47) ?_
  refine zp HT_ 18 (some 48) ?_
  refine KE (i:=19) (N:=none) #[true,true,true,true,true,true,true,true,true,true,true,true,true,true,true,true,true,true,true,true] rfl rfl (Aq HT_.out (by kernel_rfl)) (by decide) (fun K hK=>?_)
  refine vK (w1:=?_) (by rfl) rfl ?_ ?_
  rotate_left
  ·go_simp
   rfl
  refine hK.out _ _ ?_
  clear hK K
  refine o6 (jd HT_.out (by kernel_rfl)) ?_
  try go_wp2
  go_roundg k1
  case measure=>have:=HK1.out;omega
  case rel=>exact ⟨(axk),(wrap64 (kS+1)),z1,H,(zH HK1),⟨zR axo⟩,⟨zB HB⟩⟩
 replace H:=zo H
 obtain ⟨asA,A21,H⟩:=H
 obtain rfl:=Option.some.inj H.out
 obtain ⟨abS,OA,abT⟩:=Kd.eF kE.out
 subst abT
 go_wp2_with (first|((with_reducible refine af (f:=141) rfl ?_);refine zc (some 50) Tryz.func141 #[.slice abS kR.length OA] (aU.calls _ (fun k_=>some k_=(.slice abS kR.length OA:Value).ownBlock) (.slice abS kR.length OA) _ _ w _ ?fF (Kd.jY rfl kE.out) A21.out) ?_;(case fF=>repeat (first|(with_reducible first|exact HB.out|apply bz|apply aI|apply aZ)|exact HB.out));rintro e w23 ⟨aFN,rfl,ho0,hb,hkp⟩;refine ⟨_,rfl,?_⟩;have alW:=am (Kd.dL (ok':=fun k_=>True) ho0 (fun k_ hk_=>trivial));replace HB:=am (hb);clear kE hb hkp ho0))
 go_ret
 exact ⟨_,by first|exact z3|(simp only [← BI];exact z3)|exact z2,zR alW,zB HB⟩
def bP.l0:Nat→List Int→List Int→Int→Option (Int)
  | 0,_,_,_=>none
  | k+1,x0,x1,x5=>if x5 ≥ 0 then (if 0≤x5 then (if x5<(x0.length:Int) then (if x5<(x1.length:Int) then (if (rd x0 x5)<(rd x1 x5) then (some (-1)) else (if (rd x0 x5) > (rd x1 x5) then (some 1) else (bP.l0 k x0 x1 (wrap64 (x5 - 1))))) else (none)) else (none)) else (none)) else (some 0)
def bP.f (k:Nat) (l0:List Int) (l1:List Int):Option (Int):=if (l0.length:Int)=(l1.length:Int) then (bP.l0 k l0 l1 (wrap64 ((l0.length:Int) - 1))) else (if (l0.length:Int)<(l1.length:Int) then (some (-1)) else (some 1))
theorem bP.calls (k:Nat) (A0:Option Addr) (c0:Nat) (l0:List Int) (A1:Option Addr) (c1:Nat) (l1:List Int) (r:Int) (w:World) (hr0:Kd.C (Kd.int .i64) w A0 l0.length l0) (hc0:l0.length≤c0) (hr1:Kd.C (Kd.int .i64) w A1 l1.length l1) (hc1:l1.length≤c1) (h:bP.f k l0 l1=some r) :
    Calls Tryz.prog 140 #[.slice A0 l0.length c0, .slice A1 l1.length c1] w fun e w'=>e = .returned (.int .i64 r)∧dX w w':=by
 have HR0:=am hr0
 have HC0:=am hc0
 clear hr0 hc0
 have HR1:=am hr1
 have HC1:=am hc1
 clear hr1 hc1
 have H:=am h
 unfold bP.f at H
 clear h
 replace H:=zs H
 rcases H with ⟨c3,H⟩|⟨c3,H⟩
 have pg:((l0.length:Int) == (l1.length:Int))=true:=beq_iff_eq.mpr c3
 have Jv:((l0.length:Int) != (l1.length:Int))=false:=bne_eq_false_iff_eq.mpr c3
 have ajU:(l0.length == l1.length)=true:=by first|simpa using c3|(simp at c3 ⊢;omega)
 clear c3
 rotate_left
 have pg:((l0.length:Int) == (l1.length:Int))=false:=beq_eq_false_iff_ne.mpr c3
 have Jv:((l0.length:Int) != (l1.length:Int))=true:=bne_iff_ne.mpr c3
 have ajU:(l0.length == l1.length)=false:=by first|simpa using c3|(simp at c3 ⊢;omega)
 replace H:=zs H
 rcases H with ⟨c10,H⟩|⟨c10,H⟩
 have qx:decide ((l0.length:Int)<(l1.length:Int))=true:=decide_eq_true c10
 have xx:decide (l0.length<l1.length)=true:=decide_eq_true (Int.ofNat_lt.mp c10)
 clear c10
 obtain rfl:=Option.some.inj H.out
 rotate_left
 have qx:decide ((l0.length:Int)<(l1.length:Int))=false:=decide_eq_false c10
 have xx:decide (l0.length<l1.length)=false:=decide_eq_false (fun h=>c10 (Int.ofNat_lt.mpr h))
 clear c10
 obtain rfl:=Option.some.inj H.out
 rotate_left
 all_goals (go_enter Tryz.func140,Tryz.ntmps140;go_wp2;repeat (go_quiet (fail);try go_wp2))
 ·go_loopg [5] k (fun kq v5 w' => ∃ (ig:Int),v5 = .int .i64 ig∧ae (bP.l0 kq l0 l1 ig=some r)∧ae (kq≤k)∧dX w w')
  case atStart=>exact ⟨(wrap64 ((l0.length:Int) - 1)),z1,H,zL,z4⟩
  clear H
  obtain ⟨ig,rfl,H,HK1,⟨m1,rfl⟩⟩:=hrel
  obtain _|k1:=gk
  ·exact zz H rfl
  simp only [bP.l0] at H
  replace H:=zf H
  rcases H with ⟨kM,H⟩|⟨kM,H⟩
  replace H:=zid H
  obtain ⟨rG,H⟩:=H
  replace H:=zid H
  obtain ⟨rF,H⟩:=H
  replace H:=zid H
  obtain ⟨wQ,H⟩:=H
  replace H:=zsd H
  rcases H with ⟨uD,H⟩|⟨uD,H⟩
  obtain rfl:=Option.some.inj H.out
  obtain ⟨asE,asF,Yp,rfl,UY⟩:=zA (Kd.dH HR0.out ig)
  obtain ⟨asG,asH,Yq,rfl,UZ⟩:=zA (Kd.dH HR1.out ig)
  rotate_left
  replace H:=Em H
  rcases H with ⟨yI,H⟩|⟨yI,H⟩
  obtain rfl:=Option.some.inj H.out
  obtain ⟨asE,asF,Yp,rfl,UY⟩:=zA (Kd.dH HR0.out ig)
  obtain ⟨asG,asH,Yq,rfl,UZ⟩:=zA (Kd.dH HR1.out ig)
  have abV:0≤(ig:Int):=zD
  have abW:ig<(l0.length:Int):=zD
  obtain ⟨abX,al5,abY⟩:=Kd.dH HR0.out ig abV abW
  obtain rfl:Yp=abX:=(by injection al5)
  replace abV:=eq_true abV
  replace abW:=eq_true abW
  have abZ:0≤(ig:Int):=zD
  have ab1:ig<(l1.length:Int):=zD
  obtain ⟨ab2,al6,ab3⟩:=Kd.dH HR1.out ig abZ ab1
  obtain rfl:Yq=ab2:=(by injection al6)
  replace abZ:=eq_true abZ
  replace ab1:=eq_true ab1
  rotate_left
  obtain ⟨asE,asF,Yp,rfl,UY⟩:=zA (Kd.dH HR0.out ig)
  obtain ⟨asG,asH,Yq,rfl,UZ⟩:=zA (Kd.dH HR1.out ig)
  have abV:0≤(ig:Int):=zD
  have abW:ig<(l0.length:Int):=zD
  obtain ⟨abX,al5,abY⟩:=Kd.dH HR0.out ig abV abW
  obtain rfl:Yp=abX:=(by injection al5)
  replace abV:=eq_true abV
  replace abW:=eq_true abW
  have abZ:0≤(ig:Int):=zD
  have ab1:ig<(l1.length:Int):=zD
  obtain ⟨ab2,al6,ab3⟩:=Kd.dH HR1.out ig abZ ab1
  obtain rfl:Yq=ab2:=(by injection al6)
  replace abZ:=eq_true abZ
  replace ab1:=eq_true ab1
  rotate_left
  obtain rfl:=Option.some.inj H.out
  rotate_left
  all_goals (go_wp2;repeat (go_quiet (fail);try go_wp2))
  ·go_ret
   exact ⟨z1,z4⟩
  ·go_ret
   exact ⟨z1,z4⟩
  ·go_roundg k1
   case measure=>have:=HK1.out;omega
   case rel=>exact ⟨(wrap64 (ig - 1)),z1,H,(zH HK1),z4⟩
  go_ret
  exact ⟨z1,z4⟩
 ·go_ret
  exact ⟨z1,z4⟩
 go_ret
 exact ⟨z1,z4⟩
def bQ.l0:Nat→List Int→List Int→List Int→Int→Int→Option (List Int)
  | 0,_,_,_,_,_=>none
  | k+1,x0,x1,x5,x6,x7=>if x7<(x0.length:Int) then (if 0≤x7 then ((bK.f x1 x7).bind fun Ef=>(if (wrap64 ((wrap64 ((rd x0 x7) - Ef)) - x6))<0 then (if x5.length<17592186044416 then (bQ.l0 k x0 x1 (x5 ++ [wrap64 ((wrap64 ((wrap64 ((rd x0 x7) - Ef)) - x6))+16777216)]) 1 (wrap64 (x7+1))) else (none)) else (if x5.length<17592186044416 then (bQ.l0 k x0 x1 (x5 ++ [wrap64 ((wrap64 ((rd x0 x7) - Ef)) - x6)]) 0 (wrap64 (x7+1))) else (none)))) else (none)) else ((aU.f k x5).bind fun ajY=>(some ajY))
def bQ.f (k:Nat) (l0:List Int) (l1:List Int):Option (List Int):=bQ.l0 k l0 l1 ([]:List Int) 0 0
theorem bQ.calls (k:Nat) (A0:Option Addr) (c0:Nat) (l0:List Int) (A1:Option Addr) (c1:Nat) (l1:List Int) (r:List Int) (w:World) (hr0:Kd.C (Kd.int .i64) w A0 l0.length l0) (hc0:l0.length≤c0) (hr1:Kd.C (Kd.int .i64) w A1 l1.length l1) (hc1:l1.length≤c1) (h:bQ.f k l0 l1=some r) :
    Calls Tryz.prog 163 #[.slice A0 l0.length c0, .slice A1 l1.length c1] w fun e w' => ∃ v0_:Value,e = .returned (v0_)∧Kd.R (Kd.int .i64) 3 w' w.heap.size (fun _=>True) v0_ r∧Below w.heap.size w w':=by
 have HR0:=am hr0
 have HC0:=am hc0
 clear hr0 hc0
 have HR1:=am hr1
 have HC1:=am hc1
 clear hr1 hc1
 have HB:=am (Below.refl w.heap.size w)
 have H:=am h
 unfold bQ.f at H
 clear h
 go_enter Tryz.func163,Tryz.ntmps163
 go_wp2
 repeat (go_quiet (fail);try go_wp2)
 go_loopg [5,6,7] k (fun kq v5 v6 v7 w' => ∃ (ig:List Int) (lX:Int) (kR:Int),v6 = .int .i64 lX∧v7 = .int .i64 kR∧ae (bQ.l0 kq l0 l1 ig lX kR=some r)∧ae (kq≤k)∧ae (Kd.R (Kd.int .i64) 3 w' w.heap.size (fun _=>True) v5 ig)∧ae (Below w.heap.size w w'))
 case atStart=>exact ⟨(([]:List Int)),(0),(0),z1,z1,H,zL,⟨zN⟩,⟨zB HB⟩⟩
 clear H
 obtain ⟨ig,lX,kR,rfl,rfl,H,HK1,fA,HB⟩:=hrel
 obtain _|k1:=gk
 ·exact zz H rfl
 simp only [bQ.l0] at H
 replace H:=zsd H
 rcases H with ⟨pg,H⟩|⟨pg,H⟩
 replace H:=zid H
 obtain ⟨kM,H⟩:=H
 replace H:=zo H
 obtain ⟨Ef,A5,H⟩:=H
 replace H:=zsd H
 rcases H with ⟨rF,H⟩|⟨rF,H⟩
 replace H:=zil H
 obtain ⟨al7,H⟩:=H
 generalize agb:(ig ++ [wrap64 ((wrap64 ((wrap64 ((rd l0 kR) - Ef)) - lX))+16777216)]:List Int)=axw at H
 have ab4:=zY agb
 clear agb
 have ab5:0≤(kR:Int):=zD
 have ab6:kR<(l0.length:Int):=zD
 obtain ⟨al8,al9,xy⟩:=Kd.dH HR0.out kR ab5 ab6
 cases al9
 replace xy:=(HB.out.cell (World.block_lt_of_cell? w _ xy)).trans xy
 replace ab5:=eq_true ab5
 replace ab6:=eq_true ab6
 rotate_left
 replace H:=zil H
 obtain ⟨afU,H⟩:=H
 generalize agc:(ig ++ [wrap64 ((wrap64 ((rd l0 kR) - Ef)) - lX)]:List Int)=axx at H
 have ab7:=zY agc
 clear agc
 have ab5:0≤(kR:Int):=zD
 have ab6:kR<(l0.length:Int):=zD
 obtain ⟨al8,al9,xy⟩:=Kd.dH HR0.out kR ab5 ab6
 cases al9
 replace xy:=(HB.out.cell (World.block_lt_of_cell? w _ xy)).trans xy
 replace ab5:=eq_true ab5
 replace ab6:=eq_true ab6
 rotate_left
 replace H:=zo H
 obtain ⟨ajY,A11,H⟩:=H
 obtain rfl:=Option.some.inj H.out
 obtain ⟨ab8,Yr,adY⟩:=Kd.eF fA.out
 subst adY
 rotate_left
 all_goals (go_wp2_with (first|(go_at_call 138;(with_reducible refine (bK.calls _ _ _ _ _ _ ?fF ?kC A5.out).mono ?_);(case fF=>repeat (first|exact (Kd.kw HR1.out HB.out)|(with_reducible refine Kd.ku ?_ _)|(with_reducible refine Kd.jZ ?_ _)|(with_reducible refine Kd.nC ?_)));(case kC=>exact HC1.out);rintro e w' ⟨rfl,⟨nd,rfl⟩⟩;(try first|exact ⟨rfl,_,World.drewN_drewN _ _ _⟩|exact ⟨rfl,_,Eq.trans (World.drewN_drewN _ _ _) (congrArg (World.drewN _) (Nat.add_assoc _ _ _))⟩))|((with_reducible refine fG (b := .append) (xs:=#[.tmp 29, .tmp 31]) rfl ?_);at_builtin;refine Kd.mX (Kd.int .i64) (w0:=w) w.heap.size rfl (.tmp 29) (.tmp 31) 70 3 (.int .i64 0) 8 rfl Tryz.underlying70 info3 rfl (by decide) (by omega) u5 ig (wrap64 ((wrap64 ((wrap64 ((rd l0 kR) - Ef)) - lX))+16777216)) [.int .i64 (wrap64 ((wrap64 ((wrap64 ((rd l0 kR) - Ef)) - lX))+16777216))] (fun _=>True) (fun _=>False) rfl rfl ?aP (fun _ hk=>hk.elim) ?aF ?aO ?aB ?aS ?aL ?_;(case aP=>exact rfl);(case aB=>exact (zB HB));(case aF=>exact (fun _ _=>trivial));(case aO=>exact (zR fA));(case aS=>exact (zS HB));(case aL=>have:=al7.out;omega);intro asI w8 ho hb hg hat;rw [← ab4.out] at ho;replace HB:=am (hb);have ab9:=am (ho);clear fA ho hb hg hat)|((with_reducible refine fG (b := .append) (xs:=#[.tmp 29, .tmp 31]) rfl ?_);at_builtin;refine Kd.mX (Kd.int .i64) (w0:=w) w.heap.size rfl (.tmp 29) (.tmp 31) 70 3 (.int .i64 0) 8 rfl Tryz.underlying70 info3 rfl (by decide) (by omega) u5 ig (wrap64 ((wrap64 ((rd l0 kR) - Ef)) - lX)) [.int .i64 (wrap64 ((wrap64 ((rd l0 kR) - Ef)) - lX))] (fun _=>True) (fun _=>False) rfl rfl ?aP (fun _ hk=>hk.elim) ?aF ?aO ?aB ?aS ?aL ?_;(case aP=>exact rfl);(case aB=>exact (zB HB));(case aF=>exact (fun _ _=>trivial));(case aO=>exact (zR fA));(case aS=>exact (zS HB));(case aL=>have:=afU.out;omega);intro asJ w10 ho hb hg hat;rw [← ab7.out] at ho;replace HB:=am (hb);have aca:=am (ho);clear fA ho hb hg hat)|(go_at_call 141;(with_reducible refine (aU.calls _ (fun k_=>some k_=(.slice ab8 ig.length Yr:Value).ownBlock) (.slice ab8 ig.length Yr) _ _ w _ ?fF ?kC A11.out).mono ?_);(case fF=>repeat (first|(with_reducible first|exact HB.out|apply bz|apply aI|apply aZ)|exact HB.out));(case kC=>exact Kd.jY rfl fA.out);rintro e w13 ⟨asK,rfl,ho0,hb,hkp⟩;have acb:=am (Kd.dL (ok':=fun k_=>True) ho0 (fun k_ hk_=>trivial));replace HB:=am (hb);clear fA hb hkp ho0)))
 ·repeat (go_quiet (first|(go_at_call 138;(with_reducible refine (bK.calls _ _ l1 kR Ef _ ?fF ?kC A5.out).mono ?_);(case fF=>repeat (first|exact (Kd.kw HR1.out HB.out)|(with_reducible refine Kd.ku ?_ _)|(with_reducible refine Kd.jZ ?_ _)|(with_reducible refine Kd.nC ?_)));(case kC=>exact HC1.out);rintro e w' ⟨rfl,⟨nd,rfl⟩⟩;(try first|exact ⟨rfl,_,World.drewN_drewN _ _ _⟩|exact ⟨rfl,_,Eq.trans (World.drewN_drewN _ _ _) (congrArg (World.drewN _) (Nat.add_assoc _ _ _))⟩))|((with_reducible refine fG (b := .append) (xs:=#[.tmp 29, .tmp 31]) rfl ?_);at_builtin;refine Kd.mX (Kd.int .i64) (w0:=w) w.heap.size rfl (.tmp 29) (.tmp 31) 70 3 (.int .i64 0) 8 rfl Tryz.underlying70 info3 rfl (by decide) (by omega) u5 ig (wrap64 ((wrap64 ((wrap64 ((rd l0 kR) - Ef)) - lX))+16777216)) [.int .i64 (wrap64 ((wrap64 ((wrap64 ((rd l0 kR) - Ef)) - lX))+16777216))] (fun _=>True) (fun _=>False) rfl rfl ?aP (fun _ hk=>hk.elim) ?aF ?aO ?aB ?aS ?aL ?_;(case aP=>exact rfl);(case aB=>exact (zB HB));(case aF=>exact (fun _ _=>trivial));(case aO=>exact (zR fA));(case aS=>exact (zS HB));(case aL=>have:=al7.out;omega);intro asI w8 ho hb hg hat;rw [← ab4.out] at ho;have n0_:=am (hb);have n1_:=am (ho);clear HB;clear fA;have HB:=n0_;have ab9:=n1_;clear n0_ n1_;clear ho hb hg hat));try go_wp2_with (first|(go_at_call 138;(with_reducible refine (bK.calls _ _ l1 kR Ef _ ?fF ?kC A5.out).mono ?_);(case fF=>repeat (first|exact (Kd.kw HR1.out HB.out)|(with_reducible refine Kd.ku ?_ _)|(with_reducible refine Kd.jZ ?_ _)|(with_reducible refine Kd.nC ?_)));(case kC=>exact HC1.out);rintro e w' ⟨rfl,⟨nd,rfl⟩⟩;(try first|exact ⟨rfl,_,World.drewN_drewN _ _ _⟩|exact ⟨rfl,_,Eq.trans (World.drewN_drewN _ _ _) (congrArg (World.drewN _) (Nat.add_assoc _ _ _))⟩))|((with_reducible refine fG (b := .append) (xs:=#[.tmp 29, .tmp 31]) rfl ?_);at_builtin;refine Kd.mX (Kd.int .i64) (w0:=w) w.heap.size rfl (.tmp 29) (.tmp 31) 70 3 (.int .i64 0) 8 rfl Tryz.underlying70 info3 rfl (by decide) (by omega) u5 ig (wrap64 ((wrap64 ((wrap64 ((rd l0 kR) - Ef)) - lX))+16777216)) [.int .i64 (wrap64 ((wrap64 ((wrap64 ((rd l0 kR) - Ef)) - lX))+16777216))] (fun _=>True) (fun _=>False) rfl rfl ?aP (fun _ hk=>hk.elim) ?aF ?aO ?aB ?aS ?aL ?_;(case aP=>exact rfl);(case aB=>exact (zB HB));(case aF=>exact (fun _ _=>trivial));(case aO=>exact (zR fA));(case aS=>exact (zS HB));(case aL=>have:=al7.out;omega);intro asI w8 ho hb hg hat;rw [← ab4.out] at ho;have n0_:=am (hb);have n1_:=am (ho);clear HB;clear fA;have HB:=n0_;have ab9:=n1_;clear n0_ n1_;clear ho hb hg hat)))
  go_roundg k1
  case measure=>have:=HK1.out;omega
  case rel=>exact ⟨(axw),(1),(wrap64 (kR+1)),z1,z1,H,(zH HK1),⟨zR ab9⟩,⟨zB HB⟩⟩
 ·repeat (go_quiet (first|(go_at_call 138;(with_reducible refine (bK.calls _ _ l1 kR Ef _ ?fF ?kC A5.out).mono ?_);(case fF=>repeat (first|exact (Kd.kw HR1.out HB.out)|(with_reducible refine Kd.ku ?_ _)|(with_reducible refine Kd.jZ ?_ _)|(with_reducible refine Kd.nC ?_)));(case kC=>exact HC1.out);rintro e w' ⟨rfl,⟨nd,rfl⟩⟩;(try first|exact ⟨rfl,_,World.drewN_drewN _ _ _⟩|exact ⟨rfl,_,Eq.trans (World.drewN_drewN _ _ _) (congrArg (World.drewN _) (Nat.add_assoc _ _ _))⟩))|((with_reducible refine fG (b := .append) (xs:=#[.tmp 29, .tmp 31]) rfl ?_);at_builtin;refine Kd.mX (Kd.int .i64) (w0:=w) w.heap.size rfl (.tmp 29) (.tmp 31) 70 3 (.int .i64 0) 8 rfl Tryz.underlying70 info3 rfl (by decide) (by omega) u5 ig (wrap64 ((wrap64 ((rd l0 kR) - Ef)) - lX)) [.int .i64 (wrap64 ((wrap64 ((rd l0 kR) - Ef)) - lX))] (fun _=>True) (fun _=>False) rfl rfl ?aP (fun _ hk=>hk.elim) ?aF ?aO ?aB ?aS ?aL ?_;(case aP=>exact rfl);(case aB=>exact (zB HB));(case aF=>exact (fun _ _=>trivial));(case aO=>exact (zR fA));(case aS=>exact (zS HB));(case aL=>have:=afU.out;omega);intro asJ w10 ho hb hg hat;rw [← ab7.out] at ho;have n0_:=am (hb);have n1_:=am (ho);clear HB;clear fA;have HB:=n0_;have aca:=n1_;clear n0_ n1_;clear ho hb hg hat));try go_wp2_with (first|(go_at_call 138;(with_reducible refine (bK.calls _ _ l1 kR Ef _ ?fF ?kC A5.out).mono ?_);(case fF=>repeat (first|exact (Kd.kw HR1.out HB.out)|(with_reducible refine Kd.ku ?_ _)|(with_reducible refine Kd.jZ ?_ _)|(with_reducible refine Kd.nC ?_)));(case kC=>exact HC1.out);rintro e w' ⟨rfl,⟨nd,rfl⟩⟩;(try first|exact ⟨rfl,_,World.drewN_drewN _ _ _⟩|exact ⟨rfl,_,Eq.trans (World.drewN_drewN _ _ _) (congrArg (World.drewN _) (Nat.add_assoc _ _ _))⟩))|((with_reducible refine fG (b := .append) (xs:=#[.tmp 29, .tmp 31]) rfl ?_);at_builtin;refine Kd.mX (Kd.int .i64) (w0:=w) w.heap.size rfl (.tmp 29) (.tmp 31) 70 3 (.int .i64 0) 8 rfl Tryz.underlying70 info3 rfl (by decide) (by omega) u5 ig (wrap64 ((wrap64 ((rd l0 kR) - Ef)) - lX)) [.int .i64 (wrap64 ((wrap64 ((rd l0 kR) - Ef)) - lX))] (fun _=>True) (fun _=>False) rfl rfl ?aP (fun _ hk=>hk.elim) ?aF ?aO ?aB ?aS ?aL ?_;(case aP=>exact rfl);(case aB=>exact (zB HB));(case aF=>exact (fun _ _=>trivial));(case aO=>exact (zR fA));(case aS=>exact (zS HB));(case aL=>have:=afU.out;omega);intro asJ w10 ho hb hg hat;rw [← ab7.out] at ho;have n0_:=am (hb);have n1_:=am (ho);clear HB;clear fA;have HB:=n0_;have aca:=n1_;clear n0_ n1_;clear ho hb hg hat)))
  go_roundg k1
  case measure=>have:=HK1.out;omega
  case rel=>exact ⟨(axx),(0),(wrap64 (kR+1)),z1,z1,H,(zH HK1),⟨zR aca⟩,⟨zB HB⟩⟩
 repeat (go_quiet (first|(go_at_call 141;(with_reducible refine (aU.calls k1 (fun k_=>some k_=(.slice ab8 ig.length Yr:Value).ownBlock) (.slice ab8 ig.length Yr) ig ajY w _ ?fF ?kC A11.out).mono ?_);(case fF=>repeat (first|(with_reducible first|exact HB.out|apply bz|apply aI|apply aZ)|exact HB.out));(case kC=>exact Kd.jY rfl fA.out);rintro e w13 ⟨asK,rfl,ho0,hb,hkp⟩;have n0_:=am (Kd.dL (ok':=fun k_=>True) ho0 (fun k_ hk_=>trivial));have n1_:=am (hb);clear HB;clear fA;have acb:=n0_;have HB:=n1_;clear n0_ n1_;(try clear hb);(try clear hkp);(try clear ho0)));try go_wp2_with (first|(go_at_call 141;(with_reducible refine (aU.calls k1 (fun k_=>some k_=(.slice ab8 ig.length Yr:Value).ownBlock) (.slice ab8 ig.length Yr) ig ajY w _ ?fF ?kC A11.out).mono ?_);(case fF=>repeat (first|(with_reducible first|exact HB.out|apply bz|apply aI|apply aZ)|exact HB.out));(case kC=>exact Kd.jY rfl fA.out);rintro e w13 ⟨asK,rfl,ho0,hb,hkp⟩;have n0_:=am (Kd.dL (ok':=fun k_=>True) ho0 (fun k_ hk_=>trivial));have n1_:=am (hb);clear HB;clear fA;have acb:=n0_;have HB:=n1_;clear n0_ n1_;(try clear hb);(try clear hkp);(try clear ho0))))
 go_ret
 exact ⟨_,z2,zR acb,zB HB⟩
mutual
def aH.l0:Nat→List Int→List Int→List Int→List Int→Int→Option (List Int × List Int)
  | 0,_,_,_,_,_=>none
  | k+1,x0,x1,x6,x7,x8=>if x8 ≥ 0 then (if 0≤x8 then (if x8<(x0.length:Int) then ((some (([rd x0 x8]:List Int):List Int)).bind fun agd=>(if agd.length+x7.length<17592186044416 then ((aU.f k (agd ++ x7)).bind fun adZ=>(aH.l1 k x0 x1 x6 adZ x8 0 16777216)) else (none))) else (none)) else (none)) else ((aU.f k x6).bind fun asL=>(some (asL,x7)))
def aH.l1:Nat→List Int→List Int→List Int→List Int→Int→Int→Int→Option (List Int × List Int)
  | 0,_,_,_,_,_,_,_=>none
  | k+1,x0,x1,x6,x7,x8,x10,x11=>if (wrap64 (x11 - x10)) > 1 then ((bg.f k x1 (wrap64 (Int.tdiv (wrap64 (x10+x11)) 2))).bind fun ama=>((bP.f k ama x7).bind fun asM=>(if asM≤0 then (aH.l1 k x0 x1 x6 x7 x8 (wrap64 (Int.tdiv (wrap64 (x10+x11)) 2)) x11) else (aH.l1 k x0 x1 x6 x7 x8 x10 (wrap64 (Int.tdiv (wrap64 (x10+x11)) 2)))))) else (if 0≤x8 then (if x8<(x6.length:Int) then ((bg.f k x1 x10).bind fun amb=>((bQ.f k x7 amb).bind fun amc=>(aH.l0 k x0 x1 (x6.set (x8:Int).toNat x10) amc (wrap64 (x8 - 1))))) else (none)) else (none))
end
def aH.f (k:Nat) (l0:List Int) (l1:List Int):Option (List Int × List Int):=if 0≤(l0.length:Int) then (if ((l0.length:Int):Int).toNat≤35184372088832 then (aH.l0 k l0 l1 (List.replicate ((l0.length:Int):Int).toNat 0) ([]:List Int) (wrap64 ((l0.length:Int) - 1))) else (none)) else (none)
theorem aH.calls (k:Nat) (A0:Option Addr) (c0:Nat) (l0:List Int) (A1:Option Addr) (c1:Nat) (l1:List Int) (r1:List Int) (r2:List Int) (w:World) (hr0:Kd.C (Kd.int .i64) w A0 l0.length l0) (hc0:l0.length≤c0) (hr1:Kd.C (Kd.int .i64) w A1 l1.length l1) (hc1:l1.length≤c1) (h:aH.f k l0 l1=some (r1,r2)) :
    Calls Tryz.prog 102 #[.slice A0 l0.length c0, .slice A1 l1.length c1] w fun e w' => ∃ v0_ v1_:Value,e = .returned (.tuple #[v0_,v1_])∧Kd.R (Kd.int .i64) 3 w' w.heap.size (fun k_=>some k_≠(v1_:Value).ownBlock) v0_ r1∧Kd.R (Kd.int .i64) 3 w' w.heap.size (fun k_=>some k_≠(v0_:Value).ownBlock) v1_ r2∧Below w.heap.size w w':=by
 have HR0:=am hr0
 have HC0:=am hc0
 clear hr0 hc0
 have HR1:=am hr1
 have HC1:=am hc1
 clear hr1 hc1
 have HB:=am (Below.refl w.heap.size w)
 have H:=am h
 unfold aH.f at H
 clear h
 replace H:=zit H
 obtain ⟨pg,Jv,H⟩:=H
 replace H:=zit H
 obtain ⟨kM,rY,H⟩:=H
 generalize age:(List.replicate ((l0.length:Int):Int).toNat 0:List Int)=axy at H
 have agf:=zY age
 clear age
 go_enter Tryz.func102,Tryz.ntmps102
 go_wp2_with (first|((with_reducible refine ay (N:=17) rfl ?_);refine Kd.vw (Kd.int .i64) _ 3 rfl (N:=17) rfl 70 _ _ rfl (l0.length:Int) (by first|rfl|(simp only [List.length_drop,List.length_take];rfl)) (by first|rfl|(simp only [List.length_drop,List.length_take];rfl)) Tryz.underlying70 (.int .i64 0) 8 info3 rfl (by decide) (by omega) 0 (ok:=fun _=>True) (okp:=fun _=>True) rfl (fun _ hk=>hk) trivial (zD) (Nat.le_trans (Nat.mul_le_mul_right _ (zD:(l0.length:Int).toNat≤35184372088832)) (by omega)) (Below.refl _ _) (Nat.le_refl _) ?_;intro ZM w5 ho6 hb hg_ jf;clear hg_ jf;(first|rw [← agf.out] at ho6|(simp only [Int.reduceToNat] at ho6;rw [← agf.out] at ho6));have amd:=am (Kd.eP ho6 (zS HB));replace HB:=zBs HB hb;clear hb ho6))
 go_loopg [7,8] k (fun kq v7 v8 w' => ∃ (lX:List Int) (kR:List Int) (kS:Int),v8 = .int .i64 kS∧ae (aH.l0 kq l0 l1 lX kR kS=some (r1,r2))∧ae (kq≤k)∧ae (Kd.R (Kd.int .i64) 3 w' w.heap.size (fun k_=>some k_≠(v7:Value).ownBlock) ZM lX)∧ae (Kd.R (Kd.int .i64) 3 w' w.heap.size (fun k_=>some k_≠(ZM:Value).ownBlock) v7 kR)∧ae (Below w.heap.size w w'))
 case atStart=>exact ⟨(axy),(([]:List Int)),(wrap64 ((l0.length:Int) - 1)),z1,H,zL,⟨by (with_reducible repeat (first|apply Kd.dE|apply Kd.dn|apply Kd.dY));exact Kd.dL amd.out (fun _ hk=>(by simp [Value.ownBlock]))⟩,⟨zN⟩,⟨zB HB⟩⟩
 clear H
 obtain ⟨lX,kR,kS,rfl,H,HK1,kN,kE,HB⟩:=hrel
 obtain _|k1:=gk
 ·exact zz H rfl
 simp only [aH.l0] at H
 replace H:=zf H
 rcases H with ⟨wQ,H⟩|⟨wQ,H⟩
 replace H:=zid H
 obtain ⟨uD,H⟩:=H
 replace H:=zid H
 obtain ⟨yI,H⟩:=H
 obtain ⟨agd,agh,H⟩:=zw H
 replace H:=zil H
 obtain ⟨UF,H⟩:=H
 generalize agi:(agd ++ kR:List Int)=ame at H
 have amf:=zY agi
 clear agi
 replace H:=zo H
 obtain ⟨adZ,A11,H⟩:=H
 have amg:0≤(kS:Int):=zD
 have amh:kS<(l0.length:Int):=zD
 obtain ⟨axz,axA,G6⟩:=Kd.dH HR0.out kS amg amh
 cases axA
 replace G6:=(HB.out.cell (World.block_lt_of_cell? w _ G6)).trans G6
 replace amg:=eq_true amg
 replace amh:=eq_true amh
 rotate_left
 replace H:=zo H
 obtain ⟨asL,A39,H⟩:=H
 obtain ⟨rfl,rfl⟩:=zJ2 H
 obtain ⟨ami,amj,axB⟩:=Kd.eF kN.out
 subst axB
 rotate_left
 all_goals (go_wp2_with (first|((with_reducible refine ay (N:=29) rfl ?_);refine Kd.yx (Kd.int .i64) _ 3 ?hg (N:=29) ?hd (xs:=([rd l0 kS]:List Int)) (inner := [.int .i64 (rd l0 kS)]) (ok:=fun _=>True) (okp:=fun _=>True) ?hr ?hp (fun _ hk=>hk) trivial (Below.refl _ _) (Nat.le_refl _) (by simp) ?_;(case hd=>rfl);(case hg=>rfl);(case hr=>first|(go_simp;done)|(go_simp;rfl));(case hp=>exact (jm.one (show Kd.M (Kd.int .i64) _ _ _ (rd l0 kS) [.int .i64 (rd l0 kS)] from rfl) (jm.none _ _)));intro axC w12 acd hb hg_ jf;clear hg_ jf;(first|rw [← agh.out] at acd|(simp only [Int.reduceToNat] at acd;rw [← agh.out] at acd));have agj:=am (Kd.eP (Kd.lQ (Kd.lQ acd (Kd.sU (zR kN))) (Kd.sU (zR kE))) (zS HB));replace kN:=am (Kd.iM (zR kN) (Kd.gV acd) hb);replace kE:=am (Kd.iM (zR kE) (Kd.gV acd) hb);replace HB:=zBs HB hb;clear hb acd;obtain ⟨agk,ad1,ad2⟩:=Kd.eF kE.out;subst ad2)|((with_reducible refine fG (b := .append) (xs:=#[.tmp 30, .tmp 31]) rfl ?_);at_builtin;refine Kd.qG (Kd.int .i64) (w0:=w) w.heap.size rfl (.tmp 30) (.tmp 31) 70 3 (.int .i64 0) 8 rfl Tryz.underlying70 info3 rfl (by decide) (by omega) axC agd kR _ _ _ (fun k_=>some k_≠(ZM:Value).ownBlock∧some k_≠(.slice agk kR.length ad1:Value).ownBlock) (fun _=>False) rfl rfl ?aO ?aR (fun _ _ h=>h) (fun _ h=>h.elim) ?aF ?aB ?aS ?aL ?_;(case aR=>repeat (first|exact (Kd.aW kE.out).2.2|(with_reducible refine Kd.ku ?_ _)|(with_reducible refine Kd.jZ ?_ _)|(with_reducible refine Kd.nC ?_)));(case aB=>exact (zB HB));(case aF=>exact (fun k_ hk=>⟨Kd.fresh' (Kd.sU (zR kN)) k_ hk,Kd.fresh' (Kd.sU (zR kE)) k_ hk⟩));(case aO=>exact (by (with_reducible repeat (first|apply Kd.dE|apply Kd.dn|apply Kd.dY));exact Kd.dL agj.out (fun _ hk=>⟨hk.1.2,hk.2⟩)));(case aS=>exact (zS HB));(case aL=>have:=UF.out;omega);intro aFQ w14 ho hb hg hat;rw [← amf.out] at ho;replace kN:=am (Kd.uh (ok:=(fun k_=>some k_≠(.slice agk kR.length ad1:Value).ownBlock)) (zR kN) hg hat);replace kE:=am (Kd.uh (ok:=(fun k_=>some k_≠(ZM:Value).ownBlock)) (zR kE) hg hat);replace HB:=am (hb);have ace:=am (ho);clear agj ho hb hg hat;obtain ⟨Ez,Ad,LW⟩:=Kd.eF ace.out;subst LW)|((with_reducible refine af (f:=141) rfl ?_);refine zc (some 34) Tryz.func141 #[.slice Ez ame.length Ad] (aU.calls _ (fun k_=>some k_=(.slice Ez ame.length Ad:Value).ownBlock) (.slice Ez ame.length Ad) _ _ w _ ?fF (Kd.jY rfl ace.out) A11.out) ?_;(case fF=>repeat (first|(with_reducible first|exact HB.out|apply bz|apply aI|apply aZ)|exact HB.out));rintro e w17 ⟨agl,rfl,ho0,hb,hkp⟩;refine ⟨_,rfl,?_⟩;have amk:=am (Kd.dL (ok':=fun k_=>some k_≠(ZM:Value).ownBlock∧some k_≠(.slice agk kR.length ad1:Value).ownBlock) ho0 (fun k_ hk_=>⟨Or.elim hk_ (fun hs_=>fun e_=>(((kN.out).1 k_ e_.symm).2) hs_) (fun hn_=>(Kd.fresh' (Kd.sU (zR kN)) k_ hn_)),Or.elim hk_ (fun hs_=>fun e_=>(((kE.out).1 k_ e_.symm).2) hs_) (fun hn_=>(Kd.fresh' (Kd.sU (zR kE)) k_ hn_))⟩));replace kN:=am (Kd.dL (ok':=fun k_=>some k_≠(.slice agk kR.length ad1:Value).ownBlock∧some k_≠(agl:Value).ownBlock) (Kd.Df (kN.out) hkp (fun k_ hk_ hs_=>(hk_.2) hs_)) (fun k_ hk_=>⟨hk_.1.1,fun e_=>Or.elim (ho0.1 k_ e_.symm) (fun hs_=>hk_.2.1 hs_) (fun hn_=>Nat.not_le.2 hk_.2.2 hn_)⟩));replace kE:=am (Kd.dL (ok':=fun k_=>some k_≠(ZM:Value).ownBlock∧some k_≠(agl:Value).ownBlock) (Kd.Df (kE.out) hkp (fun k_ hk_ hs_=>(hk_.2) hs_)) (fun k_ hk_=>⟨hk_.1.1,fun e_=>Or.elim (ho0.1 k_ e_.symm) (fun hs_=>hk_.2.1 hs_) (fun hn_=>Nat.not_le.2 hk_.2.2 hn_)⟩));replace HB:=am (hb);clear ace hb hkp ho0)|((with_reducible refine af (f:=141) rfl ?_);refine zc (some 63) Tryz.func141 #[.slice ami lX.length amj] (aU.calls _ (fun k_=>some k_=(.slice ami lX.length amj:Value).ownBlock) (.slice ami lX.length amj) _ _ w _ ?fF (Kd.jY rfl kN.out) A39.out) ?_;(case fF=>repeat (first|(with_reducible first|exact HB.out|apply bz|apply aI|apply aZ)|exact HB.out));rintro e w41 ⟨axD,rfl,ho0,hb,hkp⟩;refine ⟨_,rfl,?_⟩;have aml:=am (Kd.dL (ok':=fun k_=>some k_≠(u7:Value).ownBlock) ho0 (fun k_ hk_=>Or.elim hk_ (fun hs_=>fun e_=>(((kE.out).1 k_ e_.symm)) hs_) (fun hn_=>(Kd.fresh' (Kd.sU (zR kE)) k_ hn_))));replace kE:=am (Kd.dL (ok':=fun k_=>some k_≠(axD:Value).ownBlock) (Kd.Df (kE.out) hkp (fun k_ hk_ hs_=>(hk_) hs_)) (fun k_ hk_=>fun e_=>Or.elim (ho0.1 k_ e_.symm) (fun hs_=>hk_.2.1 hs_) (fun hn_=>Nat.not_le.2 hk_.2.2 hn_)));replace HB:=am (hb);clear kN hb hkp ho0)))
 ·go_loopg [10,11] k1 (fun kq v10 v11 w' => ∃ (qy:Int) (tV:Int),v10 = .int .i64 qy∧v11 = .int .i64 tV∧ae (aH.l1 kq l0 l1 lX adZ kS qy tV=some (r1,r2))∧ae (kq≤k1)∧ae (Kd.R (Kd.int .i64) 3 w' w.heap.size (fun k_=>some k_≠(agl:Value).ownBlock) ZM lX)∧ae (Kd.R (Kd.int .i64) 3 w' w.heap.size (fun k_=>some k_≠(ZM:Value).ownBlock) agl adZ)∧ae (Below w.heap.size w w'))
  case atStart=>exact ⟨(0),(16777216),z1,z1,H,zL,⟨by (with_reducible repeat (first|apply Kd.dE|apply Kd.dn|apply Kd.dY));exact Kd.dL kN.out (fun _ hk=>hk.2)⟩,⟨by (with_reducible repeat (first|apply Kd.dE|apply Kd.dn|apply Kd.dY));exact Kd.dL amk.out (fun _ hk=>hk.1)⟩,⟨zB HB⟩⟩
  clear H
  try clear hx8
  try clear G6
  obtain ⟨qy,tV,rfl,rfl,H,HK2,kN,kE,HB⟩:=hrel
  obtain _|k2:=gk
  ·exact zz H rfl
  simp only [aH.l1] at H
  replace H:=Em H
  rcases H with ⟨Yl,H⟩|⟨Yl,H⟩
  replace H:=zo H
  obtain ⟨ama,A19,H⟩:=H
  replace H:=zo H
  obtain ⟨asM,A20,H⟩:=H
  replace H:=zsd H
  rcases H with ⟨Ae,H⟩|⟨Ae,H⟩
  rotate_left
  rotate_left
  replace H:=zid H
  obtain ⟨xq,H⟩:=H
  replace H:=zid H
  obtain ⟨Yt,H⟩:=H
  generalize agm:(lX.set (kS:Int).toNat qy:List Int)=asN at H
  have amm:=zY agm
  clear agm
  replace H:=zo H
  obtain ⟨amb,A31,H⟩:=H
  replace H:=zo H
  obtain ⟨amc,A32,H⟩:=H
  have p30:0≤(kS:Int):=zD
  have q30:(kS:Int)<((lX.length:Int):Int):=zD
  obtain ⟨agn,QZ,adV,asO,axE,aFR,asP⟩:=Kd.oD kN.out (by omega)
  (first|cases adV|(injection adV with ea_ en_ ec_;(first|subst ea_|(injection ea_ with ea_;subst ea_));subst ec_;clear en_))
  have axF:=am asO
  have aFS:=am asP
  clear asO axE asP
  obtain ⟨asQ,asR⟩:=Kd.iI 0 kN.out (kS:Int) p30 q30
  replace p30:=eq_true p30
  replace q30:=eq_true q30
  have amn:=Kd.mD kN.out (kS:Int) qy
  rotate_left
  all_goals (go_wp2_with (first|((with_reducible refine eQ (t:=3) (p:=55) rfl ?_);refine dU (t:=3) (p:=55) (v:=?asT) (w1:=(wr.setCell ⟨agn,(kS:Int).toNat,none⟩ (.int .i64 qy))) ?hg ?ho ?hn ?hr ?_;(case ho=>rfl);(case hg=>rfl);(case hn=>rfl);(case hr=>first|(go_simp;done)|(go_simp;rfl));intro w34 hw;have hg:wr.grownBy w34 (some agn):=(by rw [hw];exact amn.2);have hp_:Kd.R (Kd.int .i64) 3 w34 w.heap.size (fun k_=>some k_≠(agl:Value).ownBlock) (.slice (some ⟨agn,0,none⟩) lX.length QZ) asN:=(by rw [hw,amm.out];exact amn.1);clear amn;replace kN:=am (hp_);replace kE:=am (Kd.uh (v:=(.slice (some ⟨agn,0,none⟩) lX.length QZ)) (v1:=(.slice (some ⟨agn,0,none⟩) lX.length QZ)) (ok:=(fun _=>True)) (by (with_reducible repeat (first|apply Kd.dE|apply Kd.dn|apply Kd.dY));exact Kd.dL kE.out (fun _ hk=>⟨trivial,hk⟩)) hg (.inl rfl));replace HB:=am ((by rw [hw];exact bu (HB.out) axF.out:Below w.heap.size w w34));clear hg hw hp_)|((with_reducible refine af (f:=82) rfl ?_);refine zc (some 58) Tryz.func82 #[.slice A1 l1.length c1, .int .i64 qy] (bg.calls _ _ _ _ _ _ _ (zC (Kd.kw HR1.out HB.out)) HC1.out A31.out) ?_;rintro e w35 ⟨aFT,rfl,ho0,hb⟩;refine ⟨_,rfl,?_⟩;have Qr:=am (Kd.eP (Kd.lQ (Kd.lQ ho0 (Kd.sU (zR kN))) (Kd.sU (zR kE))) (zS HB));replace kN:=am (Kd.iM (zR kN) (Kd.gV ho0) hb);replace kE:=am (Kd.iM (zR kE) (Kd.gV ho0) hb);replace HB:=zBs HB hb;clear hb ho0;obtain ⟨axG,axH,axI⟩:=Kd.eF kE.out;subst axI;obtain ⟨agp,agq,acf⟩:=Kd.eF Qr.out;subst acf)|((with_reducible refine af (f:=163) rfl ?_);refine zc (some 61) Tryz.func163 #[.slice axG adZ.length axH, .slice agp amb.length agq] (bQ.calls _ _ _ _ _ _ _ _ _ (zC ((Kd.aW kE.out).2.2)) ((Kd.aW kE.out).2.1) (zC ((Kd.aW Qr.out).2.2)) ((Kd.aW Qr.out).2.1) A32.out) ?_;rintro e w38 ⟨aFU,rfl,ho0,hb⟩;refine ⟨_,rfl,?_⟩;have amo:=am (Kd.eP (Kd.lQ (Kd.lQ (Kd.lQ ho0 (Kd.sU (zR kN))) (Kd.sU (zR kE))) (Kd.sU (zR Qr))) (zS HB));replace kN:=am (Kd.iM (zR kN) (Kd.gV ho0) hb);replace kE:=am (Kd.iM (zR kE) (Kd.gV ho0) hb);replace Qr:=am (Kd.iM (zR Qr) (Kd.gV ho0) hb);replace HB:=zBs HB hb;clear hb ho0)|((with_reducible refine af (f:=82) rfl ?_);refine zc (some 45) Tryz.func82 #[.slice A1 l1.length c1, .int .i64 (wrap64 (Int.tdiv (wrap64 (qy+tV)) 2))] (bg.calls _ _ _ _ _ _ _ (zC (Kd.kw HR1.out HB.out)) HC1.out A19.out) ?_;rintro e w22 ⟨aFV,rfl,ho0,hb⟩;refine ⟨_,rfl,?_⟩;have acg:=am (Kd.eP (Kd.lQ (Kd.lQ ho0 (Kd.sU (zR kN))) (Kd.sU (zR kE))) (zS HB));replace kN:=am (Kd.iM (zR kN) (Kd.gV ho0) hb);replace kE:=am (Kd.iM (zR kE) (Kd.gV ho0) hb);replace HB:=zBs HB hb;clear hb ho0;obtain ⟨Qs,EC,Yu⟩:=Kd.eF acg.out;subst Yu;obtain ⟨WS,Q3,Qu⟩:=Kd.eF kE.out;subst Qu)|((with_reducible refine af (f:=140) rfl ?_);refine zc (some 48) Tryz.func140 #[.slice Qs ama.length EC, .slice WS adZ.length Q3] (bP.calls _ _ _ _ _ _ _ _ _ (zC ((Kd.aW acg.out).2.2)) ((Kd.aW acg.out).2.1) (zC ((Kd.aW kE.out).2.2)) ((Kd.aW kE.out).2.1) A20.out) ?_;rintro e w' ⟨rfl,⟨nd,rfl⟩⟩;refine ⟨_,rfl,?_⟩)))
  ·go_roundg k2
   case measure=>have:=HK1.out;have:=HK2.out;omega
   case rel=>exact ⟨(wrap64 (Int.tdiv (wrap64 (qy+tV)) 2)),(tV),z1,z1,H,⟨by have:=HK1.out;have:=HK2.out;omega⟩,⟨by (with_reducible repeat (first|apply Kd.dE|apply Kd.dn|apply Kd.dY));exact Kd.dL kN.out (fun _ hk=>hk.1)⟩,⟨by (with_reducible repeat (first|apply Kd.dE|apply Kd.dn|apply Kd.dY));exact Kd.dL kE.out (fun _ hk=>hk.1)⟩,⟨zB HB⟩⟩
  ·go_roundg k2
   case measure=>have:=HK1.out;have:=HK2.out;omega
   case rel=>exact ⟨(qy),(wrap64 (Int.tdiv (wrap64 (qy+tV)) 2)),z1,z1,H,⟨by have:=HK1.out;have:=HK2.out;omega⟩,⟨by (with_reducible repeat (first|apply Kd.dE|apply Kd.dn|apply Kd.dY));exact Kd.dL kN.out (fun _ hk=>hk.1)⟩,⟨by (with_reducible repeat (first|apply Kd.dE|apply Kd.dn|apply Kd.dY));exact Kd.dL kE.out (fun _ hk=>hk.1)⟩,⟨zB HB⟩⟩
  go_roundg k2
  case measure=>have:=HK1.out;have:=HK2.out;omega
  case rel=>exact ⟨(asN),(amc),(wrap64 (kS - 1)),z1,H,⟨by have:=HK1.out;have:=HK2.out;omega⟩,⟨by (with_reducible repeat (first|apply Kd.dE|apply Kd.dn|apply Kd.dY));exact Kd.dL kN.out (fun _ hk=>hk.2)⟩,⟨by (with_reducible repeat (first|apply Kd.dE|apply Kd.dn|apply Kd.dY));exact Kd.dL amo.out (fun _ hk=>hk.1.1.2)⟩,⟨zB HB⟩⟩
 go_ret2
 exact ⟨_,_,z2,zR aml,zR kE,zB HB⟩
end Go.Proofs.Yy.PTx
end
