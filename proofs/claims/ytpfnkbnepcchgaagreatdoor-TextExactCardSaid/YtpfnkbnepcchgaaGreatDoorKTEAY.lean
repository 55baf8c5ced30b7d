/- Part 25 of what the proof needs. -/
import Derived.Test.YtpfnkbnepcchgaaGreatDoorKTEAX
set_option linter.unusedSimpArgs false
set_option linter.unusedVariables false
section
set_option maxHeartbeats 8000000
set_option maxRecDepth 100000
namespace Go.Proofs.Yy.PTx
open Go.RowKit Go.Proofs.Yy.Z Go.Proofs.Yw.PrintWords Go.Proofs.Yw.PrintLast Go.Proofs.Yw.PrintMore
open Go.Proofs.Yy.M
attribute [local go_sem] dw dQ lD lF lC lG
attribute [local go_sem] gy gz ja jc fC fD gQ gK
def aU.l0:Nat→List Int→Int→Option (List Int)
  | 0,_,_=>none
  | k+1,x0,x3=>if x3 > 0 then (if 0≤(wrap64 (x3 - 1)) then (if (wrap64 (x3 - 1))<(x0.length:Int) then (if (rd x0 (wrap64 (x3 - 1)))=0 then (aU.l0 k x0 (wrap64 (x3 - 1))) else (if 0≤x3 then (if x3≤(x0.length:Int) then (some (x0.take (x3:Int).toNat)) else (none)) else (none))) else (none)) else (none)) else (if 0≤x3 then (if x3≤(x0.length:Int) then (some (x0.take (x3:Int).toNat)) else (none)) else (none))
def aU.f (k:Nat) (l0:List Int):Option (List Int):=aU.l0 k l0 (l0.length:Int)
theorem aU.calls (k:Nat) (P0_:Nat→Prop) (l7:Value) (l0:List Int) (r:List Int) (w0 w:World) (hB:Below w0.heap.size w0 w) (ho0:Kd.R (Kd.int .i64) 3 w w0.heap.size P0_ l7 l0) (h:aU.f k l0=some r) :
    Calls Tryz.prog 141 #[l7] w fun e w' => ∃ v0_:Value,e = .returned (v0_)∧Kd.R (Kd.int .i64) 3 w' w0.heap.size (fun k_=>(P0_ k_∨w.heap.size≤k_)) v0_ r∧Below w0.heap.size w0 w'∧Kept w w' (fun k_=>P0_ k_):=by
 have HO0:=am (show Kd.R (Kd.int .i64) 3 w w0.heap.size (fun k_=>(P0_ k_∨w.heap.size≤k_)) l7 l0 from Kd.dL ho0 (fun k_ hk=>(.inl hk)))
 have HK:=am (Kept.refl w (fun k_=>P0_ k_))
 have HW0:=am hB.size
 have HB:=am hB
 clear hB
 have H:=am h
 unfold aU.f at H
 clear h
 obtain ⟨Ao2,co2,eo2⟩:=Kd.eF HO0.out
 subst eo2
 go_enter Tryz.func141,Tryz.ntmps141
 go_wp2
 go_loopg [3] k (fun kq v3 w' => ∃ (gY:Int),v3 = .int .i64 gY∧ae (aU.l0 kq l0 gY=some r)∧ae (kq≤k)∧ae (Kd.R (Kd.int .i64) 3 w' w0.heap.size (fun k_=>(P0_ k_∨w.heap.size≤k_)) (.slice Ao2 l0.length co2) l0)∧ae (Kept w w' (fun k_=>P0_ k_))∧ae (Below w0.heap.size w0 w'))
 case atStart=>exact ⟨((l0.length:Int)),z1,H,zL,⟨zR HO0⟩,⟨by repeat (first|(with_reducible first|exact HK.out|apply Kept.alloc|apply Kept.drewN|apply Kept.drew)|exact HK.out)⟩,⟨zB HB⟩⟩
 clear H
 obtain ⟨gY,rfl,H,HK1,iU,HK,HB⟩:=hrel
 obtain _|k1:=gk
 ·exact zz H rfl
 simp only [aU.l0] at H
 replace H:=Em H
 rcases H with ⟨pg,H⟩|⟨pg,H⟩
 generalize BI:(wrap64 (gY - 1):Int)=ji4 at H
 have UK:(IntKind.i64.wrap (gY - 1))=ji4:=(bI _).trans BI
 replace H:=zid H
 obtain ⟨rG,H⟩:=H
 replace H:=zid H
 obtain ⟨rF,H⟩:=H
 replace H:=zsk H
 rcases H with ⟨wQ,Bh,H⟩|⟨wQ,Bh,c7,H⟩
 obtain ⟨aw3,aw4,afG,rfl,abJ⟩:=zA (Kd.dH (Kd.aW iU.out).2.2 (ji4))
 rotate_left
 replace H:=zit H
 obtain ⟨uD,Ey,H⟩:=H
 replace H:=zit H
 obtain ⟨yI,Ed,H⟩:=H
 generalize afH:(l0.take (gY:Int).toNat:List Int)=aw5 at H
 have afI:=zY afH
 clear afH
 obtain rfl:=Option.some.inj H.out
 obtain ⟨aw3,aw4,afG,rfl,abJ⟩:=zA (Kd.dH (Kd.aW iU.out).2.2 (ji4))
 have q10:(gY:Int)≤((l0.length:Int):Int):=zD
 obtain ⟨aw6,UL,_,Yk,_⟩:=info_parts info3
 have UM:=NR (P:=Tryz.prog) 70 3 .i64 Tryz.underlying70 UL (some afG) l0.length co2 gY (zD) q10 (Kd.aW iU.out).2.1
 have WR:=Kd.ZE (m:=(gY:Int).toNat) iU.out (by omega)
 have abK:aw5.length=(gY:Int).toNat:=(by rw [afI.out,List.length_take];omega)
 rw [← afI.out] at WR
 rw [← abK] at WR UM
 clear abK UL Yk iU
 have alB:=am WR
 clear WR
 replace q10:=eq_true q10
 rotate_left
 replace H:=zit H
 obtain ⟨mY,tN,H⟩:=H
 replace H:=zit H
 obtain ⟨nO,rH,H⟩:=H
 generalize afJ:(l0.take (gY:Int).toNat:List Int)=aw7 at H
 have afK:=zY afJ
 clear afJ
 obtain rfl:=Option.some.inj H.out
 have q13:(gY:Int)≤((l0.length:Int):Int):=zD
 obtain ⟨aFz,afL,_,alC,_⟩:=info_parts info3
 have afM:=NR (P:=Tryz.prog) 70 3 .i64 Tryz.underlying70 afL Ao2 l0.length co2 gY (zD) q13 (Kd.aW iU.out).2.1
 have ajP:=Kd.ZE (m:=(gY:Int).toNat) iU.out (by omega)
 have ast:aw7.length=(gY:Int).toNat:=(by rw [afK.out,List.length_take];omega)
 rw [← afK.out] at ajP
 rw [← ast] at ajP afM
 clear ast afL alC iU
 have alD:=am ajP
 clear ajP
 replace q13:=eq_true q13
 rotate_left
 all_goals (go_wp2)
 ·go_roundg k1
  case measure=>have:=HK1.out;omega
  case rel=>exact ⟨(ji4),(by first|rfl|(simp;done)|(simp only [← BI] <;> (first|rfl|simp))|(simp [*];done)),H,(zH HK1),⟨zR iU⟩,⟨by repeat (first|(with_reducible first|exact HK.out|apply Kept.alloc|apply Kept.drewN|apply Kept.drew)|exact HK.out)⟩,⟨zB HB⟩⟩
 ·go_ret
  exact ⟨_,by first|exact z3|(simp only [← BI];exact z3)|exact z2,zR alB,zB HB,by repeat (first|(with_reducible first|exact HK.out|apply Kept.alloc|apply Kept.drewN|apply Kept.drew)|exact HK.out)⟩
 go_ret
 exact ⟨_,z2,zR alD,zB HB,by repeat (first|(with_reducible first|exact HK.out|apply Kept.alloc|apply Kept.drewN|apply Kept.drew)|exact HK.out)⟩
mutual
def az.j0:Nat→List Int→List Int→Bool→Option (List Int)
  | 0,_,_,_=>none
  | k+1,x0,x1,x17=>if x17=true then (some ([]:List Int)) else (if 0≤(wrap64 ((x0.length:Int)+(x1.length:Int))) then (if (wrap64 ((x0.length:Int)+(x1.length:Int)):Int).toNat≤35184372088832 then (az.l0 k x0 x1 (List.replicate (wrap64 ((x0.length:Int)+(x1.length:Int)):Int).toNat 0) 0) else (none)) else (none))
def az.l0:Nat→List Int→List Int→List Int→Int→Option (List Int)
  | 0,_,_,_,_=>none
  | k+1,x0,x1,x5,x6=>if x6<(x0.length:Int) then (az.l1 k x0 x1 x5 x6 0 0) else ((aU.f k x5).bind fun ajQ=>(some ajQ))
def az.l1:Nat→List Int→List Int→List Int→Int→Int→Int→Option (List Int)
  | 0,_,_,_,_,_,_=>none
  | k+1,x0,x1,x5,x6,x7,x8=>if x8<(x1.length:Int) then (if 0≤(wrap64 (x6+x8)) then (if (wrap64 (x6+x8))<(x5.length:Int) then (if 0≤x6 then (if x6<(x0.length:Int) then (if 0≤x8 then (az.l1 k x0 x1 (x5.set ((wrap64 (x6+x8)):Int).toNat (Int.tmod (wrap64 ((wrap64 ((rd x5 (wrap64 (x6+x8)))+(wrap64 ((rd x0 x6) * (rd x1 x8)))))+x7)) 16777216)) x6 (wrap64 (Int.tdiv (wrap64 ((wrap64 ((rd x5 (wrap64 (x6+x8)))+(wrap64 ((rd x0 x6) * (rd x1 x8)))))+x7)) 16777216)) (wrap64 (x8+1))) else (none)) else (none)) else (none)) else (none)) else (none)) else (if 0≤(wrap64 (x6+(x1.length:Int))) then (if (wrap64 (x6+(x1.length:Int)))<(x5.length:Int) then (az.l0 k x0 x1 (x5.set ((wrap64 (x6+(x1.length:Int))):Int).toNat x7) (wrap64 (x6+1))) else (none)) else (none))
end
def az.f (k:Nat) (l0:List Int) (l1:List Int):Option (List Int):=if (l0.length:Int)=0 then (az.j0 k l0 l1 true) else (az.j0 k l0 l1 ((l1.length:Int) == 0))
theorem az.calls (k:Nat) (A0:Option Addr) (c0:Nat) (l0:List Int) (A1:Option Addr) (c1:Nat) (l1:List Int) (r:List Int) (w:World) (hr0:Kd.C (Kd.int .i64) w A0 l0.length l0) (hc0:l0.length≤c0) (hr1:Kd.C (Kd.int .i64) w A1 l1.length l1) (hc1:l1.length≤c1) (h:az.f k l0 l1=some r) :
    Calls Tryz.prog 86 #[.slice A0 l0.length c0, .slice A1 l1.length c1] w fun e w' => ∃ v0_:Value,e = .returned (v0_)∧Kd.R (Kd.int .i64) 3 w' w.heap.size (fun _=>True) v0_ r∧Below w.heap.size w w':=by
 have HR0:=am hr0
 have HC0:=am hc0
 clear hr0 hc0
 have HR1:=am hr1
 have HC1:=am hc1
 clear hr1 hc1
 have HB:=am (Below.refl w.heap.size w)
 have H:=am h
 unfold az.f at H
 clear h
 go_enter Tryz.func86,Tryz.ntmps86
 go_upto_region 1 with (fail)
 repeat (go_quiet (fail);go_upto_region 1 with (fail))
 go_cut [17] (fun v17 wc => ∃ (kq:Nat) (GY:Bool),v17 = .bool GY∧ae (az.j0 kq l0 l1 GY=some r)∧ae (kq≤k)∧ae (Below w.heap.size w wc))
 case first =>
  replace H:=zsk H
  rcases H with ⟨kM,rY,H⟩|⟨kM,rY,c4,H⟩
  (first|rw [kM]|(simp only [bI,dV];rw [kM])|rw [rY]|skip)
  rotate_left
  have aFA:¬ (l0 = []):=fun h_=>c4 (by rw [h_];rfl)
  (first|rw [kM]|(simp only [bI,dV];rw [kM])|rw [rY]|skip)
  rotate_left
  all_goals (go_wp2;repeat (go_quiet (fail);try go_wp2))
  ·go_meet
   case rel=>exact ⟨_,(true),z1,H,⟨z5⟩,⟨zB HB⟩⟩
  go_meet
  case rel=>exact ⟨_,(((l1.length:Int) == 0)),z1,H,⟨z5⟩,⟨zB HB⟩⟩
 case rest =>
  obtain ⟨kq,GY,rfl,H,HJ2,HB⟩:=hcut
  obtain _|kj2:=kq
  ·exact zz H rfl
  simp only [az.j0] at H
  cases GY
  ·replace H:=zb0 H
   generalize uI:(wrap64 ((l0.length:Int)+(l1.length:Int)):Int)=ji6 at H
   have UN:(IntKind.i64.wrap ((l0.length:Int)+(l1.length:Int)))=ji6:=(bI _).trans uI
   replace H:=zit H
   obtain ⟨wQ,Bh,H⟩:=H
   replace H:=zit H
   obtain ⟨uD,Ey,H⟩:=H
   generalize afN:(List.replicate (ji6:Int).toNat 0:List Int)=aw8 at H
   have Qo:=zY afN
   clear afN
   go_wp2_with (first|((with_reducible refine ay (N:=23) rfl ?_);(try (refine kY (by rfl) ?_;dsimp only));refine Kd.vw (Kd.int .i64) _ 3 rfl (N:=23) rfl 70 _ _ rfl ji6 (by first|rfl|(simp only [List.length_drop,List.length_take];rfl)) (by first|rfl|(simp only [List.length_drop,List.length_take];rfl)) Tryz.underlying70 (.int .i64 0) 8 info3 rfl (by decide) (by omega) 0 (ok:=fun _=>True) (okp:=fun _=>True) rfl (fun _ hk=>hk) trivial (zD) (Nat.le_trans (Nat.mul_le_mul_right _ (zD:ji6.toNat≤35184372088832)) (by omega)) (Below.refl _ _) (Nat.le_refl _) ?_;intro ajR w9 Bi hb hg_ jf;clear hg_ jf;(first|rw [← Qo.out] at Bi|(simp only [Int.reduceToNat] at Bi;rw [← Qo.out] at Bi));have abL:=am (Kd.eP Bi (zS HB));replace HB:=zBs HB hb;clear hb Bi))
   repeat (go_quiet (first|((with_reducible refine ay (N:=23) rfl ?_);(try (refine kY (by rfl) ?_;dsimp only));refine Kd.vw (Kd.int .i64) _ 3 rfl (N:=23) rfl 70 _ _ rfl ji6 (by first|rfl|(simp only [List.length_drop,List.length_take];rfl)) (by first|rfl|(simp only [List.length_drop,List.length_take];rfl)) Tryz.underlying70 (.int .i64 0) 8 info3 rfl (by decide) (by omega) 0 (ok:=fun _=>True) (okp:=fun _=>True) rfl (fun _ hk=>hk) trivial (zD) (Nat.le_trans (Nat.mul_le_mul_right _ (zD:ji6.toNat≤35184372088832)) (by omega)) (Below.refl _ _) (Nat.le_refl _) ?_;intro ajR w9 Bi hb hg_ jf;clear hg_ jf;(first|rw [← Qo.out] at Bi|(simp only [Int.reduceToNat] at Bi;rw [← Qo.out] at Bi));have n0_:=am (Kd.eP Bi (zS HB));have n1_:=zBs HB hb;clear HB;have abL:=n0_;have HB:=n1_;clear n0_ n1_;clear hb Bi));try go_wp2_with (first|((with_reducible refine ay (N:=23) rfl ?_);(try (refine kY (by rfl) ?_;dsimp only));refine Kd.vw (Kd.int .i64) _ 3 rfl (N:=23) rfl 70 _ _ rfl ji6 (by first|rfl|(simp only [List.length_drop,List.length_take];rfl)) (by first|rfl|(simp only [List.length_drop,List.length_take];rfl)) Tryz.underlying70 (.int .i64 0) 8 info3 rfl (by decide) (by omega) 0 (ok:=fun _=>True) (okp:=fun _=>True) rfl (fun _ hk=>hk) trivial (zD) (Nat.le_trans (Nat.mul_le_mul_right _ (zD:ji6.toNat≤35184372088832)) (by omega)) (Below.refl _ _) (Nat.le_refl _) ?_;intro ajR w9 Bi hb hg_ jf;clear hg_ jf;(first|rw [← Qo.out] at Bi|(simp only [Int.reduceToNat] at Bi;rw [← Qo.out] at Bi));have n0_:=am (Kd.eP Bi (zS HB));have n1_:=zBs HB hb;clear HB;have abL:=n0_;have HB:=n1_;clear n0_ n1_;clear hb Bi)))
   go_loopg [6] kj2 (fun kq v6 w' => ∃ (nD:List Int) (rJ:Int),v6 = .int .i64 rJ∧ae (az.l0 kq l0 l1 nD rJ=some r)∧ae (kq≤kj2)∧ae (Kd.R (Kd.int .i64) 3 w' w.heap.size (fun _=>True) ajR nD)∧ae (Below w.heap.size w w'))
   case atStart=>exact ⟨(aw8),(0),z1,H,zL,⟨zR abL⟩,⟨zB HB⟩⟩
   clear H
   obtain ⟨nD,rJ,rfl,H,HK2,fA,HB⟩:=hrel
   obtain _|k2:=gk
   ·exact zz H rfl
   simp only [az.l0] at H
   replace H:=zsd H
   rcases H with ⟨mY,H⟩|⟨mY,H⟩
   ·go_wp2
    repeat (go_quiet (fail);try go_wp2)
    go_loopg [7,8] k2 (fun kq v7 v8 w' => ∃ (Ee:List Int) (AP:Int) (Ii:Int),v7 = .int .i64 AP∧v8 = .int .i64 Ii∧ae (az.l1 kq l0 l1 Ee rJ AP Ii=some r)∧ae (kq≤k2)∧ae (Kd.R (Kd.int .i64) 3 w' w.heap.size (fun _=>True) ajR Ee)∧ae (Below w.heap.size w w'))
    case atStart=>exact ⟨(nD),(0),(0),z1,z1,H,zL,⟨zR fA⟩,⟨zB HB⟩⟩
    clear H
    obtain ⟨Ee,AP,Ii,rfl,rfl,H,HK3,fA,HB⟩:=hrel
    obtain _|k3:=gk
    ·exact zz H rfl
    simp only [az.l1] at H
    replace H:=zsd H
    rcases H with ⟨nO,H⟩|⟨nO,H⟩
    generalize qw:(wrap64 (rJ+Ii):Int)=qj at H
    have afO:(IntKind.i64.wrap (rJ+Ii))=qj:=(bI _).trans qw
    replace H:=zid H
    obtain ⟨uH,H⟩:=H
    replace H:=zid H
    obtain ⟨Bf,H⟩:=H
    replace H:=zid H
    obtain ⟨Dj,H⟩:=H
    replace H:=zid H
    obtain ⟨Dk,H⟩:=H
    replace H:=zid H
    obtain ⟨Yl,H⟩:=H
    generalize afP:(Ee.set ((qj):Int).toNat (Int.tmod (wrap64 ((wrap64 ((rd Ee (qj))+(wrap64 ((rd l0 rJ) * (rd l1 Ii)))))+AP)) 16777216):List Int)=ajS at H
    have abM:=zY afP
    clear afP
    obtain ⟨aFB,alE,aw9⟩:=Kd.eF fA.out
    subst aw9
    obtain ⟨aFC,aFD,axa,rfl,abN⟩:=zA (Kd.dH (Kd.aW fA.out).2.2 (qj))
    have alF:0≤(rJ:Int):=zD
    have alG:rJ<(l0.length:Int):=zD
    obtain ⟨axb,axc,LM⟩:=Kd.dH HR0.out rJ alF alG
    cases axc
    replace LM:=(HB.out.cell (World.block_lt_of_cell? w _ LM)).trans LM
    replace alF:=eq_true alF
    replace alG:=eq_true alG
    have alH:0≤(Ii:Int):=zD
    have alI:Ii<(l1.length:Int):=zD
    obtain ⟨axd,axe,LP⟩:=Kd.dH HR1.out Ii alH alI
    cases axe
    replace LP:=(HB.out.cell (World.block_lt_of_cell? w _ LP)).trans LP
    replace alH:=eq_true alH
    replace alI:=eq_true alI
    have p19:0≤((qj):Int):=zD
    have q19:((qj):Int)<((Ee.length:Int):Int):=zD
    obtain ⟨Ym,Oz,adU,asu,axf,aFE,asv⟩:=Kd.oD fA.out (by omega)
    (first|cases adU|(injection adU with ea_ en_ ec_;(first|subst ea_|(injection ea_ with ea_;subst ea_));subst ec_;clear en_))
    have alJ:=am asu
    have aFF:=am asv
    clear asu axf asv
    (first|simp only [add_plain] at abN|skip)
    obtain ⟨UO,UQ⟩:=Kd.iI 0 fA.out ((qj):Int) p19 q19
    replace p19:=eq_true p19
    replace q19:=eq_true q19
    have QY:=Kd.mD fA.out ((qj):Int) (Int.tmod (wrap64 ((wrap64 ((rd Ee (qj))+(wrap64 ((rd l0 rJ) * (rd l1 Ii)))))+AP)) 16777216)
    rotate_left
    generalize LQ:(wrap64 (rJ+(l1.length:Int)):Int)=xu at H
    have afQ:(IntKind.i64.wrap (rJ+(l1.length:Int)))=xu:=(bI _).trans LQ
    replace H:=zid H
    obtain ⟨Qp,H⟩:=H
    replace H:=zid H
    obtain ⟨UR,H⟩:=H
    generalize afR:(Ee.set ((xu):Int).toNat AP:List Int)=ajT at H
    have abO:=zY afR
    clear afR
    have p26:0≤((xu):Int):=zD
    have q26:((xu):Int)<((Ee.length:Int):Int):=zD
    obtain ⟨Yn,abP,ZJ,asw,axg,aFG,asx⟩:=Kd.oD fA.out (by omega)
    (first|cases ZJ|(injection ZJ with ea_ en_ ec_;(first|subst ea_|(injection ea_ with ea_;subst ea_));subst ec_;clear en_))
    have alK:=am asw
    have aFH:=am asx
    clear asw axg asx
    obtain ⟨UT,UU⟩:=Kd.iI 0 fA.out ((xu):Int) p26 q26
    replace p26:=eq_true p26
    replace q26:=eq_true q26
    have J3:=Kd.mD fA.out ((xu):Int) AP
    rotate_left
    all_goals (go_wp2_with (first|((with_reducible refine eQ (t:=3) (p:=60) rfl ?_);(try (rw [iT wr];generalize hq_:World.drewN wr _=wr;have n0_:=am (Kd.adS hq_ fA.out);have n1_:=am (wG hq_ HB.out);clear hq_ fA HB;have fA:=n0_;have HB:=n1_;clear n0_ n1_;(try (obtain ⟨UO,UQ⟩:=Kd.iI 0 fA.out ((qj):Int) (of_eq_true p19) (of_eq_true q19)));(try (have QY:=Kd.mD fA.out ((qj):Int) (Int.tmod (wrap64 ((wrap64 ((rd Ee (qj))+(wrap64 ((rd l0 rJ) * (rd l1 Ii)))))+AP)) 16777216)))));refine dU (t:=3) (p:=60) (v:=?ZK) (w1:=(wr.setCell ⟨Ym,((qj):Int).toNat,none⟩ (.int .i64 (Int.tmod (wrap64 ((wrap64 ((rd Ee (qj))+(wrap64 ((rd l0 rJ) * (rd l1 Ii)))))+AP)) 16777216)))) ?hg ?ho ?hn ?hr ?_;(case ho=>rfl);(case hg=>rfl);(case hn=>rfl);(case hr=>first|(go_simp;done)|(go_simp;rfl));intro w22 hw;have hg:wr.grownBy w22 (some Ym):=(by rw [hw];exact QY.2);have hp_:Kd.R (Kd.int .i64) 3 w22 w.heap.size (fun _=>True) (.slice (some ⟨Ym,0,none⟩) Ee.length alE) ajS:=(by rw [hw,abM.out];exact QY.1);clear QY;replace fA:=am (hp_);replace HB:=am ((by rw [hw];exact bu (HB.out) alJ.out:Below w.heap.size w w22));clear hg hw hp_)|((with_reducible refine eQ (t:=3) (p:=69) rfl ?_);(try (rw [iT wr];generalize hq_:World.drewN wr _=wr;have n0_:=am (Kd.adS hq_ fA.out);have n1_:=am (wG hq_ HB.out);clear hq_ fA HB;have fA:=n0_;have HB:=n1_;clear n0_ n1_;(try (obtain ⟨UT,UU⟩:=Kd.iI 0 fA.out ((xu):Int) (of_eq_true p26) (of_eq_true q26)));(try (have J3:=Kd.mD fA.out ((xu):Int) AP))));refine dU (t:=3) (p:=69) (v:=?UV) (w1:=(wr.setCell ⟨Yn,((xu):Int).toNat,none⟩ (.int .i64 AP))) ?hg ?ho ?hn ?hr ?_;(case ho=>rfl);(case hg=>rfl);(case hn=>rfl);(case hr=>first|(go_simp;done)|(go_simp;rfl));intro w28 hw;have hg:wr.grownBy w28 (some Yn):=(by rw [hw];exact J3.2);have hp_:Kd.R (Kd.int .i64) 3 w28 w.heap.size (fun _=>True) (.slice (some ⟨Yn,0,none⟩) Ee.length abP) ajT:=(by rw [hw,abO.out];exact J3.1);clear J3;replace fA:=am (hp_);replace HB:=am ((by rw [hw];exact bu (HB.out) alK.out:Below w.heap.size w w28));clear hg hw hp_)))
    ·repeat (go_quiet (first|((with_reducible refine eQ (t:=3) (p:=60) rfl ?_);(try (rw [iT wr];generalize hq_:World.drewN wr _=wr;have n0_:=am (Kd.adS hq_ fA.out);have n1_:=am (wG hq_ HB.out);clear hq_ fA HB;have fA:=n0_;have HB:=n1_;clear n0_ n1_;(try (obtain ⟨UO,UQ⟩:=Kd.iI 0 fA.out ((qj):Int) (of_eq_true p19) (of_eq_true q19)));(try (have QY:=Kd.mD fA.out ((qj):Int) (Int.tmod (wrap64 ((wrap64 ((rd Ee (qj))+(wrap64 ((rd l0 rJ) * (rd l1 Ii)))))+AP)) 16777216)))));refine dU (t:=3) (p:=60) (v:=?ZK) (w1:=(wr.setCell ⟨Ym,((qj):Int).toNat,none⟩ (.int .i64 (Int.tmod (wrap64 ((wrap64 ((rd Ee (qj))+(wrap64 ((rd l0 rJ) * (rd l1 Ii)))))+AP)) 16777216)))) ?hg ?ho ?hn ?hr ?_;(case ho=>rfl);(case hg=>rfl);(case hn=>rfl);(case hr=>first|(go_simp;done)|(go_simp;rfl));intro w22 hw;have hg:wr.grownBy w22 (some Ym):=(by rw [hw];exact QY.2);have hp_:Kd.R (Kd.int .i64) 3 w22 w.heap.size (fun _=>True) (.slice (some ⟨Ym,0,none⟩) Ee.length alE) ajS:=(by rw [hw,abM.out];exact QY.1);clear QY;have n0_:=am (hp_);have n1_:=am ((by rw [hw];exact bu (HB.out) alJ.out:Below w.heap.size w w22));clear fA;clear HB;have fA:=n0_;have HB:=n1_;clear n0_ n1_;clear hg hw hp_));try go_wp2_with (first|((with_reducible refine eQ (t:=3) (p:=60) rfl ?_);(try (rw [iT wr];generalize hq_:World.drewN wr _=wr;have n0_:=am (Kd.adS hq_ fA.out);have n1_:=am (wG hq_ HB.out);clear hq_ fA HB;have fA:=n0_;have HB:=n1_;clear n0_ n1_;(try (obtain ⟨UO,UQ⟩:=Kd.iI 0 fA.out ((qj):Int) (of_eq_true p19) (of_eq_true q19)));(try (have QY:=Kd.mD fA.out ((qj):Int) (Int.tmod (wrap64 ((wrap64 ((rd Ee (qj))+(wrap64 ((rd l0 rJ) * (rd l1 Ii)))))+AP)) 16777216)))));refine dU (t:=3) (p:=60) (v:=?ZK) (w1:=(wr.setCell ⟨Ym,((qj):Int).toNat,none⟩ (.int .i64 (Int.tmod (wrap64 ((wrap64 ((rd Ee (qj))+(wrap64 ((rd l0 rJ) * (rd l1 Ii)))))+AP)) 16777216)))) ?hg ?ho ?hn ?hr ?_;(case ho=>rfl);(case hg=>rfl);(case hn=>rfl);(case hr=>first|(go_simp;done)|(go_simp;rfl));intro w22 hw;have hg:wr.grownBy w22 (some Ym):=(by rw [hw];exact QY.2);have hp_:Kd.R (Kd.int .i64) 3 w22 w.heap.size (fun _=>True) (.slice (some ⟨Ym,0,none⟩) Ee.length alE) ajS:=(by rw [hw,abM.out];exact QY.1);clear QY;have n0_:=am (hp_);have n1_:=am ((by rw [hw];exact bu (HB.out) alJ.out:Below w.heap.size w w22));clear fA;clear HB;have fA:=n0_;have HB:=n1_;clear n0_ n1_;clear hg hw hp_)))
     go_roundg k3
     case measure=>have:=HJ2.out;have:=HK2.out;have:=HK3.out;omega
     case rel=>exact ⟨(ajS),(wrap64 (Int.tdiv (wrap64 ((wrap64 ((rd Ee (qj))+(wrap64 ((rd l0 rJ) * (rd l1 Ii)))))+AP)) 16777216)),(wrap64 (Ii+1)),(by first|rfl|(simp;done)|(simp only [← qw] <;> (first|rfl|simp))|(simp [*];done)),z1,H,⟨by have:=HJ2.out;have:=HK2.out;have:=HK3.out;omega⟩,⟨zR fA⟩,⟨zB HB⟩⟩
    repeat (go_quiet (first|((with_reducible refine eQ (t:=3) (p:=69) rfl ?_);(try (rw [iT wr];generalize hq_:World.drewN wr _=wr;have n0_:=am (Kd.adS hq_ fA.out);have n1_:=am (wG hq_ HB.out);clear hq_ fA HB;have fA:=n0_;have HB:=n1_;clear n0_ n1_;(try (obtain ⟨UT,UU⟩:=Kd.iI 0 fA.out ((xu):Int) (of_eq_true p26) (of_eq_true q26)));(try (have J3:=Kd.mD fA.out ((xu):Int) AP))));refine dU (t:=3) (p:=69) (v:=?UV) (w1:=(wr.setCell ⟨Yn,((xu):Int).toNat,none⟩ (.int .i64 AP))) ?hg ?ho ?hn ?hr ?_;(case ho=>rfl);(case hg=>rfl);(case hn=>rfl);(case hr=>first|(go_simp;done)|(go_simp;rfl));intro w28 hw;have hg:wr.grownBy w28 (some Yn):=(by rw [hw];exact J3.2);have hp_:Kd.R (Kd.int .i64) 3 w28 w.heap.size (fun _=>True) (.slice (some ⟨Yn,0,none⟩) Ee.length abP) ajT:=(by rw [hw,abO.out];exact J3.1);clear J3;have n0_:=am (hp_);have n1_:=am ((by rw [hw];exact bu (HB.out) alK.out:Below w.heap.size w w28));clear fA;clear HB;have fA:=n0_;have HB:=n1_;clear n0_ n1_;clear hg hw hp_));try go_wp2_with (first|((with_reducible refine eQ (t:=3) (p:=69) rfl ?_);(try (rw [iT wr];generalize hq_:World.drewN wr _=wr;have n0_:=am (Kd.adS hq_ fA.out);have n1_:=am (wG hq_ HB.out);clear hq_ fA HB;have fA:=n0_;have HB:=n1_;clear n0_ n1_;(try (obtain ⟨UT,UU⟩:=Kd.iI 0 fA.out ((xu):Int) (of_eq_true p26) (of_eq_true q26)));(try (have J3:=Kd.mD fA.out ((xu):Int) AP))));refine dU (t:=3) (p:=69) (v:=?UV) (w1:=(wr.setCell ⟨Yn,((xu):Int).toNat,none⟩ (.int .i64 AP))) ?hg ?ho ?hn ?hr ?_;(case ho=>rfl);(case hg=>rfl);(case hn=>rfl);(case hr=>first|(go_simp;done)|(go_simp;rfl));intro w28 hw;have hg:wr.grownBy w28 (some Yn):=(by rw [hw];exact J3.2);have hp_:Kd.R (Kd.int .i64) 3 w28 w.heap.size (fun _=>True) (.slice (some ⟨Yn,0,none⟩) Ee.length abP) ajT:=(by rw [hw,abO.out];exact J3.1);clear J3;have n0_:=am (hp_);have n1_:=am ((by rw [hw];exact bu (HB.out) alK.out:Below w.heap.size w w28));clear fA;clear HB;have fA:=n0_;have HB:=n1_;clear n0_ n1_;clear hg hw hp_)))
    go_roundg k3
    case measure=>have:=HJ2.out;have:=HK2.out;have:=HK3.out;omega
    case rel=>exact ⟨(ajT),(wrap64 (rJ+1)),z1,H,⟨by have:=HJ2.out;have:=HK2.out;have:=HK3.out;omega⟩,⟨zR fA⟩,⟨zB HB⟩⟩
   replace H:=zo H
   obtain ⟨ajQ,A29,H⟩:=H
   obtain rfl:=Option.some.inj H.out
   obtain ⟨ZL,QZ,adV⟩:=Kd.eF fA.out
   subst adV
   go_wp2_with (first|(go_at_call 141;(with_reducible refine (aU.calls _ (fun k_=>some k_=(.slice ZL nD.length QZ:Value).ownBlock) (.slice ZL nD.length QZ) _ _ w _ ?fF ?kC A29.out).mono ?_);(case fF=>repeat (first|(with_reducible first|exact HB.out|apply bz|apply aI|apply aZ)|exact HB.out));(case kC=>exact Kd.jY rfl fA.out);rintro e w31 ⟨asy,rfl,ho0,hb,hkp⟩;have abQ:=am (Kd.dL (ok':=fun k_=>True) ho0 (fun k_ hk_=>trivial));replace HB:=am (hb);clear fA hb hkp ho0))
   repeat (go_quiet (first|(go_at_call 141;(with_reducible refine (aU.calls k2 (fun k_=>some k_=(.slice ZL nD.length QZ:Value).ownBlock) (.slice ZL nD.length QZ) nD ajQ w _ ?fF ?kC A29.out).mono ?_);(case fF=>repeat (first|(with_reducible first|exact HB.out|apply bz|apply aI|apply aZ)|exact HB.out));(case kC=>exact Kd.jY rfl fA.out);rintro e w31 ⟨asy,rfl,ho0,hb,hkp⟩;have n0_:=am (Kd.dL (ok':=fun k_=>True) ho0 (fun k_ hk_=>trivial));have n1_:=am (hb);clear HB;clear fA;have abQ:=n0_;have HB:=n1_;clear n0_ n1_;(try clear hb);(try clear hkp);(try clear ho0)));try go_wp2_with (first|(go_at_call 141;(with_reducible refine (aU.calls k2 (fun k_=>some k_=(.slice ZL nD.length QZ:Value).ownBlock) (.slice ZL nD.length QZ) nD ajQ w _ ?fF ?kC A29.out).mono ?_);(case fF=>repeat (first|(with_reducible first|exact HB.out|apply bz|apply aI|apply aZ)|exact HB.out));(case kC=>exact Kd.jY rfl fA.out);rintro e w31 ⟨asy,rfl,ho0,hb,hkp⟩;have n0_:=am (Kd.dL (ok':=fun k_=>True) ho0 (fun k_ hk_=>trivial));have n1_:=am (hb);clear HB;clear fA;have abQ:=n0_;have HB:=n1_;clear n0_ n1_;(try clear hb);(try clear hkp);(try clear ho0))))
   go_ret
   exact ⟨_,by first|exact z3|(simp only [← uI];exact z3)|exact z2,zR abQ,zB HB⟩
  replace H:=zb1 H
  obtain rfl:=Option.some.inj H.out
  go_wp2
  repeat (go_quiet (fail);try go_wp2)
  go_ret
  exact ⟨_,z2,by first|exact Kd.Gq _ _ _ _ _|exact Kd.Xj _ _ _ _ _|exact Kd.zg _ _ _ _ _|exact Kd.XJ _ _ _ _ _|exact Kd.XN _ _ _ _ _,zB HB⟩
def bH.l0:Nat→Int→Int→Int→Option (Int)
  | 0,_,_,_=>none
  | k+1,x0,x3,x4=>if x4<x0 then (bH.l0 k x0 (wrap64 (2 * x3)) (wrap64 (x4+1))) else (some x3)
def bH.f (k:Nat) (a0:Int):Option (Int):=bH.l0 k a0 1 0
theorem bH.calls (k:Nat) (a0:Int) (r:Int) (w:World) (h:bH.f k a0=some r) :
    Calls Tryz.prog 142 #[.int .i64 a0] w fun e w'=>e = .returned (.int .i64 r)∧dX w w':=by
 have H:=am h
 unfold bH.f at H
 clear h
 go_enter Tryz.func142,Tryz.ntmps142
 go_wp2
 go_loopg [3,4] k (fun kq v3 v4 w' => ∃ (gY:Int) (wP:Int),v3 = .int .i64 gY∧v4 = .int .i64 wP∧ae (bH.l0 kq a0 gY wP=some r)∧ae (kq≤k)∧dX w w')
 case atStart=>exact ⟨(1),(0),z1,z1,H,zL,z4⟩
 clear H
 obtain ⟨gY,wP,rfl,rfl,H,HK1,⟨m1,rfl⟩⟩:=hrel
 obtain _|k1:=gk
 ·exact zz H rfl
 simp only [bH.l0] at H
 replace H:=zsd H
 rcases H with ⟨uU,H⟩|⟨uU,H⟩
 rotate_left
 obtain rfl:=Option.some.inj H.out
 rotate_left
 all_goals (go_wp2)
 ·go_roundg k1
  case measure=>have:=HK1.out;omega
  case rel=>exact ⟨(wrap64 (2 * gY)),(wrap64 (wP+1)),z1,z1,H,(zH HK1),z4⟩
 go_ret
 exact ⟨z1,z4⟩
def iE.f (k:Nat) (l0:List Int) (a1:Int):Option (List Int):=if (l0.length:Int)=0 then (some ([]:List Int)) else (if 0≤(wrap64 (Int.tdiv a1 24)) then (if (wrap64 (Int.tdiv a1 24):Int).toNat≤35184372088832 then ((some (List.replicate (wrap64 (Int.tdiv a1 24):Int).toNat 0:List Int)).bind fun afS=>((bH.f k (Int.tmod a1 24)).bind fun alL=>((bg.f k l0 alL).bind fun adW=>(if afS.length+adW.length<17592186044416 then (some (afS ++ adW)) else (none))))) else (none)) else (none))
theorem iE.calls (k:Nat) (A0:Option Addr) (c0:Nat) (l0:List Int) (a1:Int) (r:List Int) (w:World) (hr0:Kd.C (Kd.int .i64) w A0 l0.length l0) (hc0:l0.length≤c0) (h:iE.f k l0 a1=some r) :
    Calls Tryz.prog 90 #[.slice A0 l0.length c0, .int .i64 a1] w fun e w' => ∃ v0_:Value,e = .returned (v0_)∧Kd.R (Kd.int .i64) 3 w' w.heap.size (fun _=>True) v0_ r∧Below w.heap.size w w':=by
 have HR0:=am hr0
 have HC0:=am hc0
 clear hr0 hc0
 have HB:=am (Below.refl w.heap.size w)
 have H:=am h
 unfold iE.f at H
 clear h
 replace H:=zsk H
 rcases H with ⟨pg,Jv,H⟩|⟨pg,Jv,c3,H⟩
 obtain rfl:=Option.some.inj H.out
 rotate_left
 have ajU:¬ (l0 = []):=fun h_=>c3 (by rw [h_];rfl)
 generalize BI:(wrap64 (Int.tdiv a1 24):Int)=ji4 at H
 have UK:(IntKind.i64.wrap (Int.tdiv a1 24))=ji4:=(bI _).trans BI
 replace H:=zit H
 obtain ⟨rG,xw,H⟩:=H
 replace H:=zit H
 obtain ⟨rF,Bg,H⟩:=H
 obtain ⟨afS,afT,H⟩:=zw H
 replace H:=zo H
 obtain ⟨alL,A7,H⟩:=H
 replace H:=zo H
 obtain ⟨adW,A8,H⟩:=H
 replace H:=zil H
 obtain ⟨afU,H⟩:=H
 generalize afV:(afS ++ adW:List Int)=aFI at H
 have alM:=zY afV
 clear afV
 obtain rfl:=Option.some.inj H.out
 rotate_left
 all_goals (go_enter Tryz.func90,Tryz.ntmps90;go_wp2_with (first|((with_reducible refine ay (N:=11) rfl ?_);refine Kd.vw (Kd.int .i64) _ 3 rfl (N:=11) rfl 70 _ _ rfl ji4 (by first|rfl|(simp only [List.length_drop,List.length_take];rfl)) (by first|rfl|(simp only [List.length_drop,List.length_take];rfl)) Tryz.underlying70 (.int .i64 0) 8 info3 rfl (by decide) (by omega) 0 (ok:=fun _=>True) (okp:=fun _=>True) rfl (fun _ hk=>hk) trivial (zD) (Nat.le_trans (Nat.mul_le_mul_right _ (zD:ji4.toNat≤35184372088832)) (by omega)) (Below.refl _ _) (Nat.le_refl _) ?_;intro axh w10 afW hb hg_ jf;clear hg_ jf;(first|rw [← afT.out] at afW|(simp only [Int.reduceToNat] at afW;rw [← afT.out] at afW));have UW:=am (Kd.eP afW (zS HB));replace HB:=zBs HB hb;clear hb afW)|((with_reducible refine af (f:=142) rfl ?_);refine zc (some 16) Tryz.func142 _ (bH.calls _ _ _ _ A7.out) ?_;rintro e w' ⟨rfl,⟨nd,rfl⟩⟩;refine ⟨_,rfl,?_⟩)|((with_reducible refine af (f:=82) rfl ?_);refine zc (some 17) Tryz.func82 #[.slice A0 l0.length c0, .int .i64 alL] (bg.calls _ _ _ _ _ _ _ (zC (Kd.kw HR0.out (zB HB))) HC0.out A8.out) ?_;rintro e w12 ⟨aFJ,rfl,ho0,hb⟩;refine ⟨_,rfl,?_⟩;have UX:=am (Kd.eP (Kd.lQ ho0 (Kd.sU (zR UW))) (zS HB));replace UW:=am (Kd.iM (zR UW) (Kd.gV ho0) hb);replace HB:=zBs HB hb;clear hb ho0;obtain ⟨asz,alN,adX⟩:=Kd.eF UX.out;subst adX)|((with_reducible refine fG (b := .append) (xs:=#[.tmp 12, .tmp 17]) rfl ?_);at_builtin;refine Kd.qG (Kd.int .i64) (w0:=w) w.heap.size rfl (.tmp 12) (.tmp 17) 70 3 (.int .i64 0) 8 rfl Tryz.underlying70 info3 rfl (by decide) (by omega) axh afS adW _ _ _ (fun k_=>some k_≠(.slice asz adW.length alN:Value).ownBlock) (fun _=>False) rfl rfl ?aO ?aR (fun _ _ h=>h) (fun _ h=>h.elim) ?aF ?aB ?aS ?aL ?_;(case aR=>repeat (first|exact (Kd.aW UX.out).2.2|(with_reducible refine Kd.ku ?_ _)|(with_reducible refine Kd.jZ ?_ _)|(with_reducible refine Kd.nC ?_)));(case aB=>exact (zB HB));(case aF=>exact (fun k_ hk=>Kd.fresh' (Kd.sU (zR UX)) k_ hk));(case aO=>exact (by (with_reducible repeat (first|apply Kd.dE|apply Kd.dn|apply Kd.dY));exact Kd.dL UW.out (fun _ hk=>hk.2)));(case aS=>exact (zS HB));(case aL=>have:=afU.out;omega);intro aFK w13 ho hb hg hat;rw [← alM.out] at ho;replace UX:=am (Kd.uh (ok:=(fun _=>True)) (zR UX) hg hat);replace HB:=am (hb);have alO:=am (ho);clear UW ho hb hg hat)))
 ·go_ret
  exact ⟨_,z2,by first|exact Kd.Gq _ _ _ _ _|exact Kd.Xj _ _ _ _ _|exact Kd.zg _ _ _ _ _|exact Kd.XJ _ _ _ _ _|exact Kd.XN _ _ _ _ _,zB HB⟩
 go_ret
 exact ⟨_,by first|exact z3|(simp only [← BI];exact z3)|exact z2,by (with_reducible repeat (first|apply Kd.dE|apply Kd.dn|apply Kd.dY));exact Kd.dL alO.out (fun _ hk=>trivial),zB HB⟩
def je.f (k:Nat) (a0:Int) (a1:Int):Option (Int × Int):=(fK.f a0).bind fun alZ=>(if alZ=true then ((bf.f k a1 a0).bind fun ajW=>((aV.f k ajW).bind fun ajX=>(some (ajX,0)))) else (some (0,2)))
theorem je.calls (k:Nat) (a0:Int) (a1:Int) (r1:Int) (r2:Int) (w:World) (h:je.f k a0 a1=some (r1,r2)) :
    Calls Tryz.prog 59 #[.int .i64 a0, .int .u64 a1] w fun e w'=>e = .returned (.tuple #[.int .u64 r1, .int .i64 r2])∧Below w.heap.size w w':=by
 have HB:=am (Below.refl w.heap.size w)
 have H:=am h
 unfold je.f at H
 clear h
 replace H:=zo H
 obtain ⟨alZ,A3,H⟩:=H
 cases alZ
 replace H:=zb0 H
 obtain ⟨rfl,rfl⟩:=zJ2 H
 rotate_left
 replace H:=zb1 H
 replace H:=zo H
 obtain ⟨ajW,A5,H⟩:=H
 replace H:=zo H
 obtain ⟨ajX,A6,H⟩:=H
 obtain ⟨rfl,rfl⟩:=zJ2 H
 rotate_left
 all_goals (go_enter Tryz.func59,Tryz.ntmps59;go_wp2_with (first|((with_reducible refine af (f:=36) rfl ?_);refine zc (some 8) Tryz.func36 _ (fK.calls _ _ _ A3.out) ?_;rintro e w' ⟨rfl,⟨nd,rfl⟩⟩;refine ⟨_,rfl,?_⟩)|((with_reducible refine af (f:=88) rfl ?_);refine zc (some 13) Tryz.func88 _ (bf.calls _ _ _ _ _ A5.out) ?_;rintro e w7 ⟨rfl,hb⟩;refine ⟨_,rfl,?_⟩;replace HB:=zBs HB hb;clear hb)|((with_reducible refine af (f:=89) rfl ?_);refine zc (some 14) Tryz.func89 _ (aV.calls _ _ _ _ A6.out) ?_;rintro e w' ⟨rfl,⟨nd,rfl⟩⟩;refine ⟨_,rfl,?_⟩)))
 ·go_ret2
  exact ⟨z2,zB HB⟩
 go_ret2
 exact ⟨z2,zB HB⟩
mutual
def aJ.l0:Nat→List Int→Int→Int→Option (Bool)
  | 0,_,_,_=>none
  | k+1,x0,x1,x5=>if x5<(x0.length:Int) then (aJ.j1 k x0 x1 x5 (decide ((wrap64 (24 * x5))<x1))) else (aJ.j1 k x0 x1 x5 false)
def aJ.j1:Nat→List Int→Int→Int→Bool→Option (Bool)
  | 0,_,_,_,_=>none
  | k+1,x0,x1,x5,x16=>if x16=true then (if (wrap64 (x1 - (wrap64 (24 * x5))))<24 then ((bH.f k (wrap64 (x1 - (wrap64 (24 * x5))))).bind fun al0=>(if 0≤x5 then (if x5<(x0.length:Int) then (if al0=0 then (none) else (if (Int.tmod (rd x0 x5) al0)=0 then (aJ.l0 k x0 x1 (wrap64 (x5+1))) else (some true))) else (none)) else (none))) else (if 0≤x5 then (if x5<(x0.length:Int) then (if (Int.tmod (rd x0 x5) 16777216)=0 then (aJ.l0 k x0 x1 (wrap64 (x5+1))) else (some true)) else (none)) else (none))) else (some false)
end
def aJ.f (k:Nat) (l0:List Int) (a1:Int):Option (Bool):=aJ.l0 k l0 a1 0
theorem aJ.calls (k:Nat) (A0:Option Addr) (c0:Nat) (l0:List Int) (a1:Int) (r:Bool) (w:World) (hr0:Kd.C (Kd.int .i64) w A0 l0.length l0) (hc0:l0.length≤c0) (h:aJ.f k l0 a1=some r) :
    Calls Tryz.prog 108 #[.slice A0 l0.length c0, .int .i64 a1] w fun e w'=>e = .returned (.bool r)∧dX w w':=by
 have HR0:=am hr0
 have HC0:=am hc0
 clear hr0 hc0
 have H:=am h
 unfold aJ.f at H
 clear h
 go_enter Tryz.func108,Tryz.ntmps108
 go_wp2
 go_loopg [5] k (fun kq v5 w' => ∃ (ig:Int),v5 = .int .i64 ig∧ae (aJ.l0 kq l0 a1 ig=some r)∧ae (kq≤k)∧dX w w')
 case atStart=>exact ⟨(0),z1,H,zL,z4⟩
 clear H
 obtain ⟨ig,rfl,H,HK1,⟨m1,rfl⟩⟩:=hrel
 obtain _|k1:=gk
 ·exact zz H rfl
 simp only [aJ.l0] at H
 go_upto_region 2 with (fail)
 go_cut [16] (fun v16 wc => ∃ (kq:Nat) (Dn:Bool),v16 = .bool Dn∧ae (aJ.j1 kq l0 a1 ig Dn=some r)∧ae (kq≤k1)∧dX w wc)
 case first =>
  replace H:=zsd H
  rcases H with ⟨kM,H⟩|⟨kM,H⟩
  (first|rw [kM]|(simp only [bI,dV];rw [kM])|rw [rY]|skip)
  rotate_left
  (first|rw [kM]|(simp only [bI,dV];rw [kM])|rw [rY]|skip)
  rotate_left
  all_goals (go_wp2)
  ·go_meet
   case rel=>exact ⟨_,(decide ((wrap64 (24 * ig))<a1)),z1,H,⟨by have:=HK1.out;first|omega|exact Nat.le_refl _⟩,z4⟩
  go_meet
  case rel=>exact ⟨_,(false),z1,H,⟨by have:=HK1.out;first|omega|exact Nat.le_refl _⟩,z4⟩
 case rest =>
  obtain ⟨kq,Dn,rfl,H,HJ2,⟨mc2,rfl⟩⟩:=hcut
  obtain _|kj2:=kq
  ·exact zz H rfl
  simp only [aJ.j1] at H
  cases Dn
  replace H:=zb0 H
  obtain rfl:=Option.some.inj H.out
  rotate_left
  replace H:=zb1 H
  replace H:=zsd H
  rcases H with ⟨rF,H⟩|⟨rF,H⟩
  replace H:=zo H
  obtain ⟨al0,A7,H⟩:=H
  replace H:=zid H
  obtain ⟨uD,H⟩:=H
  replace H:=zid H
  obtain ⟨yI,H⟩:=H
  replace H:=zjk H
  obtain ⟨qx,xx,c10,H⟩:=H
  replace H:=zsk H
  rcases H with ⟨mY,tN,H⟩|⟨mY,tN,c11,H⟩
  rotate_left
  obtain rfl:=Option.some.inj H.out
  rotate_left
  replace H:=zid H
  obtain ⟨nO,H⟩:=H
  replace H:=zid H
  obtain ⟨qJ,H⟩:=H
  replace H:=zsk H
  rcases H with ⟨uH,G5,H⟩|⟨uH,G5,c14,H⟩
  obtain ⟨axs,axt,al1,rfl,abU⟩:=zA (Kd.dH HR0.out ig)
  rotate_left
  obtain rfl:=Option.some.inj H.out
  obtain ⟨axs,axt,al1,rfl,abU⟩:=zA (Kd.dH HR0.out ig)
  rotate_left
  all_goals (go_wp2_with (first|((with_reducible refine af (f:=142) rfl ?_);refine zc (some 28) Tryz.func142 _ (bH.calls _ _ _ _ A7.out) ?_;rintro e w' ⟨rfl,⟨nd,rfl⟩⟩;refine ⟨_,rfl,?_⟩;have al2:0≤(ig:Int):=zD;have al3:ig<(l0.length:Int):=zD;obtain ⟨axu,axv,al4⟩:=Kd.dH HR0.out ig al2 al3;cases axv;replace al2:=eq_true al2;replace al3:=eq_true al3)))
  ·go_ret
   exact ⟨z1,z4⟩
  ·go_roundg kj2
   case measure=>have:=HK1.out;have:=HJ2.out;omega
   case rel=>exact ⟨(wrap64 (ig+1)),z1,H,⟨by have:=HK1.out;have:=HJ2.out;omega⟩,z4⟩
  ·go_ret
   exact ⟨z1,z4⟩
  ·go_roundg kj2
   case measure=>have:=HK1.out;have:=HJ2.out;omega
   case rel=>exact ⟨(wrap64 (ig+1)),z1,H,⟨by have:=HK1.out;have:=HJ2.out;omega⟩,z4⟩
  go_ret
  exact ⟨z1,z4⟩
end Go.Proofs.Yy.PTx
end
section
namespace Go.Proofs.Yy.PTx
open Go.RowKit Go.Proofs.Yw.PrintWords Go.Proofs.Yw.PrintLast Go.Proofs.Yw.PrintMore Go.Proofs.Yy.M Go.Proofs.Yy.TA Go.Proofs.Yy.SC
theorem XM (m:Nat) (h:m≤63):∀ n i:Nat,i+n=m→Ev (fun k=>di.l0 k (m:Int) ((2 ^ i:Nat):Int) (i:Int)) ((2 ^ m:Nat):Int):=by
 intro n
 induction n with
 | zero =>
  intro i hi
  obtain rfl:i=m:=by omega
  refine Ev.step (f:=fun _=>some ((2 ^ i:Nat):Int)) (fun k=>?_) (Ev.now _)
  simp only [di.l0]
  rw [if_neg (by omega)]
 | succ n ih =>
  intro i hi
  have h1:2 ^ (i+1)<2 ^ 64:=Nat.pow_lt_pow_right (by omega) (by omega)
  have e:IntKind.u64.wrap (2 * ((2 ^ i:Nat):Int))=((2 ^ (i+1):Nat):Int):=by
   rw [IntKind.wrap_u64]
   rw [Nat.pow_succ] at h1 ⊢
   omega
  refine Ev.step (f:=fun k=>di.l0 k (m:Int) ((2 ^ (i+1):Nat):Int) ((i+1:Nat):Int)) (fun k=>?_) (ih (i+1) (by omega))
  simp only [di.l0]
  rw [if_pos (by omega),e,y8 (by omega) (by omega)]
  rfl
theorem XW {n:Nat} (hw:Wd n):Ev (fun k=>di.f k (wrap64 ((n:Int) - 1))) ((2 ^ (n - 1):Nat):Int):=by
 obtain ⟨h8,h64⟩:=hw.bounds
 rw [y8 (by omega) (by omega),show ((n:Int) - 1)=((n - 1:Nat):Int) by omega]
 exact XM (n - 1) (by omega) (n - 1) 0 (by omega)
theorem Zz (w v:Nat):bs (w+1) v=IB (v / 2 ^ w) :: bs w v:=by
 have h:=yA 1 (v / 2 ^ w) w v
 rw [Nat.mul_comm,Nat.div_add_mod,Nat.add_comm] at h
 rw [← h];rfl
theorem abk (l:List UInt8):strOfNums (l.map fun c=>(c.toNat:Int))=mkB l:=by
 unfold strOfNums mkB
 rw [List.map_map]
 congr 2
 conv=>rhs;rw [← List.map_id l]
 exact List.map_congr_left fun c _=>by simp
theorem Ui (p:Nat) (hp:p<2 ^ 64):∀ (j:Nat) (acc:List UInt8),acc.length+j≤64 →
  Ev (fun k=>bf.l0 k (p:Int) (acc.map fun c=>(c.toNat:Int)) ((j:Int) - 1)) (mkB (acc ++ bs j p)):=by
 intro j
 induction j with
 | zero =>
  intro acc h
  refine Ev.step (f:=fun _=>some (mkB (acc ++ bs 0 p))) (fun k=>?_) (Ev.now _)
  simp only [bf.l0]
  rw [if_neg (by omega),abk]
  unfold bs
  rw [List.append_nil]
 | succ j ih =>
  intro acc h
  have hb:(48+(Int.tmod (shr .u64 (p:Int) (j:Int)) 2)) % 256=((IB (p / 2 ^ j)).toNat:Int):=by
   rw [Lr p j hp,Cj,Int.tmod_eq_emod_of_nonneg (Int.natCast_nonneg _)]
   omega
  refine Ev.step (f:=fun k=>bf.l0 k (p:Int) ((acc ++ [IB (p / 2 ^ j)]).map fun c=>(c.toNat:Int)) ((j:Int) - 1)) (fun k=>?_) ?_
  ·simp only [bf.l0]
   rw [show (((j+1:Nat):Int) - 1)=(j:Int) by omega,if_pos (by omega),if_pos (by omega),if_pos (by rw [List.length_map];omega),hb,y8 (by omega) (by omega),List.map_append]
   rfl
  ·have:=ih (acc ++ [IB (p / 2 ^ j)]) (by rw [List.length_append,List.length_singleton];omega)
   rw [List.append_assoc,List.singleton_append, ← Zz] at this
   exact this
theorem uZ (p:Nat) (hp:p<2 ^ 64) (n:Nat) (hn:n≤64):Ev (fun k=>bf.f k (p:Int) (n:Int)) (mkB (bs n p)):=by
 have h:=Ui p hp n [] (by simp;exact hn)
 refine Ev.congr (fun k=>?_) h
 unfold bf.f
 rw [y8 (by omega) (by omega)]
 rfl
theorem aew (l:List UInt8) (h:∀ c ∈ l,c=48∨c=49):num l<2 ^ l.length:=by
 obtain ⟨m,hm⟩:∃ m,m=l.length:=⟨_,rfl⟩
 induction m generalizing l with
 | zero=>obtain rfl:l = []:=List.length_eq_zero_iff.1 hm.symm;decide
 | succ m ih =>
  rcases List.eq_nil_or_concat l with rfl|⟨q,c,rfl⟩
  ·decide
  ·rw [List.concat_eq_append] at *
   have hq:q.length=m:=by rw [List.length_append,List.length_singleton] at hm;omega
   have h1:=ih q (fun x hx=>h x (List.mem_append_left _ hx)) hq.symm
   have h2:=h c (by simp)
   rw [Gx,List.length_append,List.length_singleton,Nat.pow_succ]
   have:c.toNat - 48≤1:=by rcases h2 with rfl|rfl <;> decide
   omega
theorem FV (w:Nat):∀ v:Nat, ∀ c ∈ bs w v,c=48∨c=49:=by
 induction w with
 | zero=>intro v c hc;simp [bs] at hc
 | succ w ih =>
  intro v c hc
  rw [bs] at hc
  rcases List.mem_append.1 hc with hc|hc
  ·exact ih _ c hc
  ·rw [List.mem_singleton] at hc
   subst hc
   unfold IB
   have:v % 2=0∨v % 2=1:=by omega
   rcases this with h|h <;> rw [h]
   ·left;rfl
   ·right;rfl
theorem Rq (l:List UInt8) (h:∀ c ∈ l,c=48∨c=49) (hl:l.length≤64):∀ n i:Nat,i+n=l.length→Ev (fun k=>aV.l0 k (mkB l) ((num (l.take i):Nat):Int) (i:Int)) ((num l:Nat):Int):=by
 intro n
 induction n with
 | zero =>
  intro i hi
  refine Ev.step (f:=fun _=>some ((num l:Nat):Int)) (fun k=>?_) (Ev.now _)
  simp only [aV.l0]
  rw [if_neg (by rw [aY];omega),List.take_of_length_le (by omega)]
 | succ n ih =>
  intro i hi
  have hi2:i<l.length:=by omega
  have ht:l.take (i+1)=l.take i ++ [l[i]]:=by rw [List.take_append_getElem]
  have hb:=aew (l.take (i+1)) (fun c hc=>h c (List.mem_of_mem_take hc))
  rw [List.length_take,show min (i+1) l.length=i+1 by omega] at hb
  have hb2:2 ^ (i+1)≤2 ^ 64:=Nat.pow_le_pow_right (by decide) (by omega)
  have hc:=h l[i] (List.getElem_mem hi2)
  have hbt:=Cf hi2
  have hcv:((l[i].toNat:Int) - 48) % 256=((l[i].toNat - 48:Nat):Int)∧l[i].toNat - 48≤1:=by rcases hc with e|e <;> rw [e] <;> decide
  have e:IntKind.u64.wrap ((IntKind.u64.wrap (2 * ((num (l.take i):Nat):Int)))+(((bt (mkB l) (i:Int)) - 48) % 256))=((num (l.take (i+1)):Nat):Int):=by
   rw [hbt,hcv.1]
   rw [ht,Gx] at hb ⊢
   rw [p64] at hb2
   rw [IntKind.wrap_u64,IntKind.wrap_u64]
   have:=hcv.2
   omega
  refine Ev.step (f:=fun k=>aV.l0 k (mkB l) ((num (l.take (i+1)):Nat):Int) ((i+1:Nat):Int)) (fun k=>?_) (ih (i+1) (by omega))
  simp only [aV.l0]
  rw [if_pos (by rw [aY];omega),if_pos (by omega),e,y8 (by omega) (by omega)]
  rfl
theorem akP {c:Int} (h:(Lit.int .u64 c).wf=true):0≤c∧c≤18446744073709551615:=by
 simp [Lit.wf,IntKind.min,IntKind.max,IntKind.signed,IntKind.bits] at h
 omega
theorem aaC {n:Nat} (hw:Wd n):fK.f (n:Int)=some true:=by
 rcases hw with rfl|rfl|rfl|rfl <;> rfl
end Go.Proofs.Yy.PTx
end
