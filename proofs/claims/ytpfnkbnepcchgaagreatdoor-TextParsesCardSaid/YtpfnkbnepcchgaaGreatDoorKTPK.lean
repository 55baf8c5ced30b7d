/- Part 11. -/
import Derived.Test.YtpfnkbnepcchgaaGreatDoorKTPJ
set_option linter.unusedSimpArgs false
set_option linter.unusedVariables false
section
set_option maxHeartbeats 8000000
set_option maxRecDepth 100000
namespace Go.Proofs.Yy.PTx
open Go.RowKit Go.Proofs.Yy.Z Go.Proofs.Yw.PrintWords Go.Proofs.Yw.PrintLast Go.Proofs.Yw.PrintMore
open Go.Proofs.Yy.M
attribute [local go_sem] dG dP kR kT kW kS
attribute [local go_sem] gI gG iP iR fF fG gW gV
def aW.l0:Nat→List Int→Int→Option (List Int)
  | 0,_,_=>none
  | k+1,x0,x3=>if x3 > 0 then (if 0≤(wrap64 (x3-1)) then (if (wrap64 (x3-1))<(x0.length:Int) then (if (rd x0 (wrap64 (x3-1)))=0 then (aW.l0 k x0 (wrap64 (x3-1))) else (if 0≤x3 then (if x3≤(x0.length:Int) then (some (x0.take (x3:Int).toNat)) else (none)) else (none))) else (none)) else (none)) else (if 0≤x3 then (if x3≤(x0.length:Int) then (some (x0.take (x3:Int).toNat)) else (none)) else (none))
def aW.f (k:Nat)(l0:List Int):Option (List Int):=aW.l0 k l0 (l0.length:Int)
theorem aW.calls (k:Nat)(P0_:Nat→Prop)(lw:Value)(l0:List Int)(r:List Int)(w0 w:World)(hB:Below w0.heap.size w0 w)(ho0:Kd.R (Kd.int .i64) 3 w w0.heap.size P0_ lw l0)(h:aW.f k l0=some r) :
    Calls Tryz.prog 141 #[lw] w fun e w' => ∃ v0_:Value,e=.returned (v0_)∧Kd.R (Kd.int .i64) 3 w' w0.heap.size (fun k_=>(P0_ k_∨w.heap.size≤k_)) v0_ r∧Below w0.heap.size w0 w'∧Kept w w' (fun k_=>P0_ k_):=by
 have HO0:=am (show Kd.R (Kd.int .i64) 3 w w0.heap.size (fun k_=>(P0_ k_∨w.heap.size≤k_)) lw l0 from Kd.dw ho0 (fun k_ hk=>(.inl hk)));have HK:=am (Kept.refl w (fun k_=>P0_ k_));have HW0:=am hB.size;have HB:=am hB;clear hB;have H:=am h;unfold aW.f at H;clear h;obtain⟨Ao2,co2,eo2⟩:=Kd.dZ HO0.out;subst eo2
 go_enter Tryz.func141,Tryz.ntmps141
 go_wp2
 go_loopg [3] k (fun kq v3 w' => ∃ (iH:Int),v3=.int .i64 iH∧ae (aW.l0 kq l0 iH=some r)∧ae (kq≤k)∧ae (Kd.R (Kd.int .i64) 3 w' w0.heap.size (fun k_=>(P0_ k_∨w.heap.size≤k_)) (.slice Ao2 l0.length co2) l0)∧ae (Kept w w' (fun k_=>P0_ k_))∧ae (Below w0.heap.size w0 w'))
 case atStart=>exact⟨((l0.length:Int)),z1,H,zL,⟨zR HO0⟩,⟨by repeat (first|(with_reducible first|exact HK.out|apply Kept.alloc|apply Kept.drewN|apply Kept.drew)|exact HK.out)⟩,⟨zB HB⟩⟩
 clear H;obtain⟨iH,rfl,H,HK1,kL,HK,HB⟩:=hrel;obtain _|k1:=gk
 ·exact zz H rfl
 simp only[aW.l0]at H;replace H:=AV H;rcases H with⟨pI,H⟩|⟨pI,H⟩;generalize xA:(wrap64 (iH-1):Int)=ji4 at H;have UK:(IntKind.i64.wrap (iH-1))=ji4:=(cu _).trans xA;replace H:=zid H;obtain⟨qg,H⟩:=H;replace H:=zid H;obtain⟨qm,H⟩:=H;replace H:=zsk H;rcases H with⟨wz,Bi,H⟩|⟨wz,Bi,c7,H⟩;obtain⟨azE,azF,ahA,rfl,ac8⟩:=zA (Kd.dQ (Kd.aA kL.out).2.2 (ji4));rotate_left;replace H:=zit H;obtain⟨sO,Ap,H⟩:=H;replace H:=zit H;obtain⟨wu,Ez,H⟩:=H;generalize ahB:(l0.take (iH:Int).toNat:List Int)=azG at H;have ahC:=zY ahB;clear ahB;obtain rfl:=Option.some.inj H.out;obtain⟨azE,azF,ahA,rfl,ac8⟩:=zA (Kd.dQ (Kd.aA kL.out).2.2 (ji4));have q10:(iH:Int)≤((l0.length:Int):Int):=zD;obtain⟨azH,UL,_,Yx,_⟩:=info_parts info3;have UM:=Ov (P:=Tryz.prog) 70 3 .i64 Tryz.underlying70 UL (some ahA) l0.length co2 iH (zD) q10 (Kd.aA kL.out).2.1;have WH:=Kd.ZT (m:=(iH:Int).toNat) kL.out (by omega)
 have ac9:azG.length=(iH:Int).toNat:=(by rw[ahC.out,List.length_take];omega)
 rw[← ahC.out]at WH;rw[← ac9]at WH UM;clear ac9 UL Yx kL;have anR:=am WH;clear WH;replace q10:=eq_true q10;rotate_left;replace H:=zit H;obtain⟨qK,zk,H⟩:=H;replace H:=zit H;obtain⟨qO,xY,H⟩:=H;generalize ahD:(l0.take (iH:Int).toNat:List Int)=azI at H;have ahE:=zY ahD;clear ahD;obtain rfl:=Option.some.inj H.out;have q13:(iH:Int)≤((l0.length:Int):Int):=zD;obtain⟨aHA,ahF,_,anS,_⟩:=info_parts info3;have ahG:=Ov (P:=Tryz.prog) 70 3 .i64 Tryz.underlying70 ahF Ao2 l0.length co2 iH (zD) q13 (Kd.aA kL.out).2.1;have alq:=Kd.ZT (m:=(iH:Int).toNat) kL.out (by omega)
 have au7:azI.length=(iH:Int).toNat:=(by rw[ahE.out,List.length_take];omega)
 rw[← ahE.out]at alq;rw[← au7]at alq ahG;clear au7 ahF anS kL;have anT:=am alq;clear alq;replace q13:=eq_true q13;rotate_left
 all_goals (go_wp2)
 ·go_roundg k1
  case measure=>have:=HK1.out;omega
  case rel=>exact⟨(ji4),(by first|rfl|(simp;done)|(simp only[← xA] <;> (first|rfl|simp))|(simp[*];done)),H,(zH HK1),⟨zR kL⟩,⟨by repeat (first|(with_reducible first|exact HK.out|apply Kept.alloc|apply Kept.drewN|apply Kept.drew)|exact HK.out)⟩,⟨zB HB⟩⟩
 ·go_ret
  exact⟨_,by first|exact z3|(simp only[← xA];exact z3)|exact z2,zR anR,zB HB,by repeat (first|(with_reducible first|exact HK.out|apply Kept.alloc|apply Kept.drewN|apply Kept.drew)|exact HK.out)⟩
 go_ret
 exact⟨_,z2,zR anT,zB HB,by repeat (first|(with_reducible first|exact HK.out|apply Kept.alloc|apply Kept.drewN|apply Kept.drew)|exact HK.out)⟩
mutual
def aC.j0:Nat→List Int→List Int→Bool→Option (List Int)
  | 0,_,_,_=>none
  | k+1,x0,x1,x17=>if x17=true then (some ([]:List Int)) else (if 0≤(wrap64 ((x0.length:Int)+(x1.length:Int))) then (if (wrap64 ((x0.length:Int)+(x1.length:Int)):Int).toNat≤35184372088832 then (aC.l0 k x0 x1 (List.replicate (wrap64 ((x0.length:Int)+(x1.length:Int)):Int).toNat 0) 0) else (none)) else (none))
def aC.l0:Nat→List Int→List Int→List Int→Int→Option (List Int)
  | 0,_,_,_,_=>none
  | k+1,x0,x1,x5,x6=>if x6<(x0.length:Int) then (aC.l1 k x0 x1 x5 x6 0 0) else ((aW.f k x5).bind fun alr=>(some alr))
def aC.l1:Nat→List Int→List Int→List Int→Int→Int→Int→Option (List Int)
  | 0,_,_,_,_,_,_=>none
  | k+1,x0,x1,x5,x6,x7,x8=>if x8<(x1.length:Int) then (if 0≤(wrap64 (x6+x8)) then (if (wrap64 (x6+x8))<(x5.length:Int) then (if 0≤x6 then (if x6<(x0.length:Int) then (if 0≤x8 then (aC.l1 k x0 x1 (x5.set ((wrap64 (x6+x8)):Int).toNat (Int.tmod (wrap64 ((wrap64 ((rd x5 (wrap64 (x6+x8)))+(wrap64 ((rd x0 x6)*(rd x1 x8)))))+x7)) 16777216)) x6 (wrap64 (Int.tdiv (wrap64 ((wrap64 ((rd x5 (wrap64 (x6+x8)))+(wrap64 ((rd x0 x6)*(rd x1 x8)))))+x7)) 16777216)) (wrap64 (x8+1))) else (none)) else (none)) else (none)) else (none)) else (none)) else (if 0≤(wrap64 (x6+(x1.length:Int))) then (if (wrap64 (x6+(x1.length:Int)))<(x5.length:Int) then (aC.l0 k x0 x1 (x5.set ((wrap64 (x6+(x1.length:Int))):Int).toNat x7) (wrap64 (x6+1))) else (none)) else (none))
end
def aC.f (k:Nat)(l0:List Int)(l1:List Int):Option (List Int):=if (l0.length:Int)=0 then (aC.j0 k l0 l1 true) else (aC.j0 k l0 l1 ((l1.length:Int) == 0))
theorem aC.calls (k:Nat)(A0:Option Addr)(c0:Nat)(l0:List Int)(A1:Option Addr)(c1:Nat)(l1:List Int)(r:List Int)(w:World)(hr0:Kd.C (Kd.int .i64) w A0 l0.length l0)(hc0:l0.length≤c0)(hr1:Kd.C (Kd.int .i64) w A1 l1.length l1)(hc1:l1.length≤c1)(h:aC.f k l0 l1=some r) :
    Calls Tryz.prog 86 #[.slice A0 l0.length c0,.slice A1 l1.length c1] w fun e w' => ∃ v0_:Value,e=.returned (v0_)∧Kd.R (Kd.int .i64) 3 w' w.heap.size (fun _=>True) v0_ r∧Below w.heap.size w w':=by
 have HR0:=am hr0;have HC0:=am hc0;clear hr0 hc0;have HR1:=am hr1;have HC1:=am hc1;clear hr1 hc1;have HB:=am (Below.refl w.heap.size w);have H:=am h;unfold aC.f at H;clear h
 go_enter Tryz.func86,Tryz.ntmps86
 go_upto_region 1 with (fail)
 repeat (go_quiet (fail);go_upto_region 1 with (fail))
 go_cut [17] (fun v17 wc => ∃ (kq:Nat) (Ic:Bool),v17=.bool Ic∧ae (aC.j0 kq l0 l1 Ic=some r)∧ae (kq≤k)∧ae (Below w.heap.size w wc))
 case first =>
  replace H:=zsk H;rcases H with⟨jP,sQ,H⟩|⟨jP,sQ,c4,H⟩
  (first|rw[jP]|(simp only[cu,fQ];rw[jP])|rw[sQ]|skip)
  rotate_left;have aHB:¬ (l0=[]):=fun h_=>c4 (by rw[h_];rfl)
  (first|rw[jP]|(simp only[cu,fQ];rw[jP])|rw[sQ]|skip)
  rotate_left
  all_goals (go_wp2;repeat (go_quiet (fail);try go_wp2))
  ·go_meet
   case rel=>exact⟨_,(true),z1,H,⟨z5⟩,⟨zB HB⟩⟩
  go_meet
  case rel=>exact⟨_,(((l1.length:Int) == 0)),z1,H,⟨z5⟩,⟨zB HB⟩⟩
 case rest =>
  obtain⟨kq,Ic,rfl,H,HJ2,HB⟩:=hcut;obtain _|kj2:=kq
  ·exact zz H rfl
  simp only[aC.j0]at H
  cases Ic
  ·replace H:=zb0 H
   generalize uQ:(wrap64 ((l0.length:Int)+(l1.length:Int)):Int)=ji6 at H;have Uw:(IntKind.i64.wrap ((l0.length:Int)+(l1.length:Int)))=ji6:=(cu _).trans uQ;replace H:=zit H;obtain⟨wz,Bi,H⟩:=H;replace H:=zit H;obtain⟨sO,Ap,H⟩:=H;generalize ahH:(List.replicate (ji6:Int).toNat 0:List Int)=azJ at H;have P8:=zY ahH;clear ahH
   go_wp2_with (first|((with_reducible refine aI (N:=23) rfl ?_);(try (refine nJ (by rfl) ?_;dsimp only));refine Kd.vH (Kd.int .i64) _ 3 rfl (N:=23) rfl 70 _ _ rfl ji6 (by first|rfl|(simp only[List.length_drop,List.length_take];rfl)) (by first|rfl|(simp only[List.length_drop,List.length_take];rfl)) Tryz.underlying70 (.int .i64 0) 8 info3 rfl (by decide) (by omega) 0 (ok:=fun _=>True) (okp:=fun _=>True) rfl (fun _ hk=>hk) trivial (zD) (Nat.le_trans (Nat.mul_le_mul_right _ (zD:ji6.toNat≤35184372088832)) (by omega)) (Below.refl _ _) (Nat.le_refl _) ?_;intro als w9 BA hb hg_ ku;clear hg_ ku;(first|rw[← P8.out]at BA|(simp only[Int.reduceToNat]at BA;rw[← P8.out]at BA));have ada:=am (Kd.eu BA (zS HB));replace HB:=zBs HB hb;clear hb BA))
   repeat (go_quiet (first|((with_reducible refine aI (N:=23) rfl ?_);(try (refine nJ (by rfl) ?_;dsimp only));refine Kd.vH (Kd.int .i64) _ 3 rfl (N:=23) rfl 70 _ _ rfl ji6 (by first|rfl|(simp only[List.length_drop,List.length_take];rfl)) (by first|rfl|(simp only[List.length_drop,List.length_take];rfl)) Tryz.underlying70 (.int .i64 0) 8 info3 rfl (by decide) (by omega) 0 (ok:=fun _=>True) (okp:=fun _=>True) rfl (fun _ hk=>hk) trivial (zD) (Nat.le_trans (Nat.mul_le_mul_right _ (zD:ji6.toNat≤35184372088832)) (by omega)) (Below.refl _ _) (Nat.le_refl _) ?_;intro als w9 BA hb hg_ ku;clear hg_ ku;(first|rw[← P8.out]at BA|(simp only[Int.reduceToNat]at BA;rw[← P8.out]at BA));have n0_:=am (Kd.eu BA (zS HB));have n1_:=zBs HB hb;clear HB;have ada:=n0_;have HB:=n1_;clear n0_ n1_;clear hb BA));try go_wp2_with (first|((with_reducible refine aI (N:=23) rfl ?_);(try (refine nJ (by rfl) ?_;dsimp only));refine Kd.vH (Kd.int .i64) _ 3 rfl (N:=23) rfl 70 _ _ rfl ji6 (by first|rfl|(simp only[List.length_drop,List.length_take];rfl)) (by first|rfl|(simp only[List.length_drop,List.length_take];rfl)) Tryz.underlying70 (.int .i64 0) 8 info3 rfl (by decide) (by omega) 0 (ok:=fun _=>True) (okp:=fun _=>True) rfl (fun _ hk=>hk) trivial (zD) (Nat.le_trans (Nat.mul_le_mul_right _ (zD:ji6.toNat≤35184372088832)) (by omega)) (Below.refl _ _) (Nat.le_refl _) ?_;intro als w9 BA hb hg_ ku;clear hg_ ku;(first|rw[← P8.out]at BA|(simp only[Int.reduceToNat]at BA;rw[← P8.out]at BA));have n0_:=am (Kd.eu BA (zS HB));have n1_:=zBs HB hb;clear HB;have ada:=n0_;have HB:=n1_;clear n0_ n1_;clear hb BA)))
   go_loopg [6] kj2 (fun kq v6 w' => ∃ (nT:List Int) (qW:Int),v6=.int .i64 qW∧ae (aC.l0 kq l0 l1 nT qW=some r)∧ae (kq≤kj2)∧ae (Kd.R (Kd.int .i64) 3 w' w.heap.size (fun _=>True) als nT)∧ae (Below w.heap.size w w'))
   case atStart=>exact⟨(azJ),(0),z1,H,zL,⟨zR ada⟩,⟨zB HB⟩⟩
   clear H;obtain⟨nT,qW,rfl,H,HK2,fM,HB⟩:=hrel;obtain _|k2:=gk
   ·exact zz H rfl
   simp only[aC.l0]at H;replace H:=zsd H;rcases H with⟨qK,H⟩|⟨qK,H⟩
   ·go_wp2
    repeat (go_quiet (fail);try go_wp2)
    go_loopg [7,8] k2 (fun kq v7 v8 w' => ∃ (EE:List Int) (Gi:Int) (IQ:Int),v7=.int .i64 Gi∧v8=.int .i64 IQ∧ae (aC.l1 kq l0 l1 EE qW Gi IQ=some r)∧ae (kq≤k2)∧ae (Kd.R (Kd.int .i64) 3 w' w.heap.size (fun _=>True) als EE)∧ae (Below w.heap.size w w'))
    case atStart=>exact⟨(nT),(0),(0),z1,z1,H,zL,⟨zR fM⟩,⟨zB HB⟩⟩
    clear H;obtain⟨EE,Gi,IQ,rfl,rfl,H,HK3,fM,HB⟩:=hrel;obtain _|k3:=gk
    ·exact zz H rfl
    simp only[aC.l1]at H;replace H:=zsd H;rcases H with⟨qO,H⟩|⟨qO,H⟩;generalize qN:(wrap64 (qW+IQ):Int)=qL at H;have ahI:(IntKind.i64.wrap (qW+IQ))=qL:=(cu _).trans qN;replace H:=zid H;obtain⟨ww,H⟩:=H;replace H:=zid H;obtain⟨uS,H⟩:=H;replace H:=zid H;obtain⟨H9,H⟩:=H;replace H:=zid H;obtain⟨wE,H⟩:=H;replace H:=zid H;obtain⟨PY,H⟩:=H;generalize ahJ:(EE.set ((qL):Int).toNat (Int.tmod (wrap64 ((wrap64 ((rd EE (qL))+(wrap64 ((rd l0 qW)*(rd l1 IQ)))))+Gi)) 16777216):List Int)=alu at H;have adb:=zY ahJ;clear ahJ;obtain⟨aHC,anU,azK⟩:=Kd.dZ fM.out;subst azK;obtain⟨aHD,aHE,azL,rfl,adc⟩:=zA (Kd.dQ (Kd.aA fM.out).2.2 (qL));have anV:0≤(qW:Int):=zD;have anW:qW<(l0.length:Int):=zD;obtain⟨azM,azN,LY⟩:=Kd.dQ HR0.out qW anV anW
    cases azN
    replace LY:=(HB.out.cell (World.block_lt_of_cell? w _ LY)).trans LY;replace anV:=eq_true anV;replace anW:=eq_true anW;have anX:0≤(IQ:Int):=zD;have anY:IQ<(l1.length:Int):=zD;obtain⟨azO,azP,LZ⟩:=Kd.dQ HR1.out IQ anX anY
    cases azP
    replace LZ:=(HB.out.cell (World.block_lt_of_cell? w _ LZ)).trans LZ;replace anX:=eq_true anX;replace anY:=eq_true anY;have p19:0≤((qL):Int):=zD;have q19:((qL):Int)<((EE.length:Int):Int):=zD;obtain⟨Yz,OD,afd,au8,azQ,aHF,au9⟩:=Kd.oH fM.out (by omega)
    (first|cases afd|(injection afd with ea_ en_ ec_;(first|subst ea_|(injection ea_ with ea_;subst ea_));subst ec_;clear en_))
    have anZ:=am au8;have aHG:=am au9;clear au8 azQ au9
    (first|simp only[add_plain]at adc|skip)
    obtain⟨UN,UO⟩:=Kd.iQ 0 fM.out ((qL):Int) p19 q19;replace p19:=eq_true p19;replace q19:=eq_true q19;have QJ:=Kd.mM fM.out ((qL):Int) (Int.tmod (wrap64 ((wrap64 ((rd EE (qL))+(wrap64 ((rd l0 qW)*(rd l1 IQ)))))+Gi)) 16777216);rotate_left;generalize L6:(wrap64 (qW+(l1.length:Int)):Int)=yg at H;have ahK:(IntKind.i64.wrap (qW+(l1.length:Int)))=yg:=(cu _).trans L6;replace H:=zid H;obtain⟨LQ,H⟩:=H;replace H:=zid H;obtain⟨UQ,H⟩:=H;generalize ahL:(EE.set ((yg):Int).toNat Gi:List Int)=alv at H;have ade:=zY ahL;clear ahL;have p26:0≤((yg):Int):=zD;have q26:((yg):Int)<((EE.length:Int):Int):=zD;obtain⟨YA,afe,aff,ava,azR,aHH,avb⟩:=Kd.oH fM.out (by omega)
    (first|cases aff|(injection aff with ea_ en_ ec_;(first|subst ea_|(injection ea_ with ea_;subst ea_));subst ec_;clear en_))
    have an0:=am ava;have aHI:=am avb;clear ava azR avb;obtain⟨UR,UT⟩:=Kd.iQ 0 fM.out ((yg):Int) p26 q26;replace p26:=eq_true p26;replace q26:=eq_true q26;have Ky:=Kd.mM fM.out ((yg):Int) Gi;rotate_left
    all_goals (go_wp2_with (first|((with_reducible refine fV (t:=3) (p:=60) rfl ?_);(try (rw[fZ wr];generalize hq_:World.drewN wr _=wr;have n0_:=am (Kd.ae8 hq_ fM.out);have n1_:=am (wW hq_ HB.out);clear hq_ fM HB;have fM:=n0_;have HB:=n1_;clear n0_ n1_;(try (obtain⟨UN,UO⟩:=Kd.iQ 0 fM.out ((qL):Int) (of_eq_true p19) (of_eq_true q19)));(try (have QJ:=Kd.mM fM.out ((qL):Int) (Int.tmod (wrap64 ((wrap64 ((rd EE (qL))+(wrap64 ((rd l0 qW)*(rd l1 IQ)))))+Gi)) 16777216)))));refine ed (t:=3) (p:=60) (v:=?aaj) (w1:=(wr.setCell ⟨Yz,((qL):Int).toNat,none⟩ (.int .i64 (Int.tmod (wrap64 ((wrap64 ((rd EE (qL))+(wrap64 ((rd l0 qW)*(rd l1 IQ)))))+Gi)) 16777216)))) ?hg ?ho ?hn ?hr ?_;(case ho=>rfl);(case hg=>rfl);(case hn=>rfl);(case hr=>first|(go_simp;done)|(go_simp;rfl));intro w22 hw;have hg:wr.grownBy w22 (some Yz):=(by rw[hw];exact QJ.2);have hp_:Kd.R (Kd.int .i64) 3 w22 w.heap.size (fun _=>True) (.slice (some ⟨Yz,0,none⟩) EE.length anU) alu:=(by rw[hw,adb.out];exact QJ.1);clear QJ;replace fM:=am (hp_);replace HB:=am ((by rw[hw];exact bQ (HB.out) anZ.out:Below w.heap.size w w22));clear hg hw hp_)|((with_reducible refine fV (t:=3) (p:=69) rfl ?_);(try (rw[fZ wr];generalize hq_:World.drewN wr _=wr;have n0_:=am (Kd.ae8 hq_ fM.out);have n1_:=am (wW hq_ HB.out);clear hq_ fM HB;have fM:=n0_;have HB:=n1_;clear n0_ n1_;(try (obtain⟨UR,UT⟩:=Kd.iQ 0 fM.out ((yg):Int) (of_eq_true p26) (of_eq_true q26)));(try (have Ky:=Kd.mM fM.out ((yg):Int) Gi))));refine ed (t:=3) (p:=69) (v:=?UE) (w1:=(wr.setCell ⟨YA,((yg):Int).toNat,none⟩ (.int .i64 Gi))) ?hg ?ho ?hn ?hr ?_;(case ho=>rfl);(case hg=>rfl);(case hn=>rfl);(case hr=>first|(go_simp;done)|(go_simp;rfl));intro w28 hw;have hg:wr.grownBy w28 (some YA):=(by rw[hw];exact Ky.2);have hp_:Kd.R (Kd.int .i64) 3 w28 w.heap.size (fun _=>True) (.slice (some ⟨YA,0,none⟩) EE.length afe) alv:=(by rw[hw,ade.out];exact Ky.1);clear Ky;replace fM:=am (hp_);replace HB:=am ((by rw[hw];exact bQ (HB.out) an0.out:Below w.heap.size w w28));clear hg hw hp_)))
    ·repeat (go_quiet (first|((with_reducible refine fV (t:=3) (p:=60) rfl ?_);(try (rw[fZ wr];generalize hq_:World.drewN wr _=wr;have n0_:=am (Kd.ae8 hq_ fM.out);have n1_:=am (wW hq_ HB.out);clear hq_ fM HB;have fM:=n0_;have HB:=n1_;clear n0_ n1_;(try (obtain⟨UN,UO⟩:=Kd.iQ 0 fM.out ((qL):Int) (of_eq_true p19) (of_eq_true q19)));(try (have QJ:=Kd.mM fM.out ((qL):Int) (Int.tmod (wrap64 ((wrap64 ((rd EE (qL))+(wrap64 ((rd l0 qW)*(rd l1 IQ)))))+Gi)) 16777216)))));refine ed (t:=3) (p:=60) (v:=?aaj) (w1:=(wr.setCell ⟨Yz,((qL):Int).toNat,none⟩ (.int .i64 (Int.tmod (wrap64 ((wrap64 ((rd EE (qL))+(wrap64 ((rd l0 qW)*(rd l1 IQ)))))+Gi)) 16777216)))) ?hg ?ho ?hn ?hr ?_;(case ho=>rfl);(case hg=>rfl);(case hn=>rfl);(case hr=>first|(go_simp;done)|(go_simp;rfl));intro w22 hw;have hg:wr.grownBy w22 (some Yz):=(by rw[hw];exact QJ.2);have hp_:Kd.R (Kd.int .i64) 3 w22 w.heap.size (fun _=>True) (.slice (some ⟨Yz,0,none⟩) EE.length anU) alu:=(by rw[hw,adb.out];exact QJ.1);clear QJ;have n0_:=am (hp_);have n1_:=am ((by rw[hw];exact bQ (HB.out) anZ.out:Below w.heap.size w w22));clear fM;clear HB;have fM:=n0_;have HB:=n1_;clear n0_ n1_;clear hg hw hp_));try go_wp2_with (first|((with_reducible refine fV (t:=3) (p:=60) rfl ?_);(try (rw[fZ wr];generalize hq_:World.drewN wr _=wr;have n0_:=am (Kd.ae8 hq_ fM.out);have n1_:=am (wW hq_ HB.out);clear hq_ fM HB;have fM:=n0_;have HB:=n1_;clear n0_ n1_;(try (obtain⟨UN,UO⟩:=Kd.iQ 0 fM.out ((qL):Int) (of_eq_true p19) (of_eq_true q19)));(try (have QJ:=Kd.mM fM.out ((qL):Int) (Int.tmod (wrap64 ((wrap64 ((rd EE (qL))+(wrap64 ((rd l0 qW)*(rd l1 IQ)))))+Gi)) 16777216)))));refine ed (t:=3) (p:=60) (v:=?aaj) (w1:=(wr.setCell ⟨Yz,((qL):Int).toNat,none⟩ (.int .i64 (Int.tmod (wrap64 ((wrap64 ((rd EE (qL))+(wrap64 ((rd l0 qW)*(rd l1 IQ)))))+Gi)) 16777216)))) ?hg ?ho ?hn ?hr ?_;(case ho=>rfl);(case hg=>rfl);(case hn=>rfl);(case hr=>first|(go_simp;done)|(go_simp;rfl));intro w22 hw;have hg:wr.grownBy w22 (some Yz):=(by rw[hw];exact QJ.2);have hp_:Kd.R (Kd.int .i64) 3 w22 w.heap.size (fun _=>True) (.slice (some ⟨Yz,0,none⟩) EE.length anU) alu:=(by rw[hw,adb.out];exact QJ.1);clear QJ;have n0_:=am (hp_);have n1_:=am ((by rw[hw];exact bQ (HB.out) anZ.out:Below w.heap.size w w22));clear fM;clear HB;have fM:=n0_;have HB:=n1_;clear n0_ n1_;clear hg hw hp_)))
     go_roundg k3
     case measure=>have:=HJ2.out;have:=HK2.out;have:=HK3.out;omega
     case rel=>exact⟨(alu),(wrap64 (Int.tdiv (wrap64 ((wrap64 ((rd EE (qL))+(wrap64 ((rd l0 qW)*(rd l1 IQ)))))+Gi)) 16777216)),(wrap64 (IQ+1)),(by first|rfl|(simp;done)|(simp only[← qN] <;> (first|rfl|simp))|(simp[*];done)),z1,H,⟨by have:=HJ2.out;have:=HK2.out;have:=HK3.out;omega⟩,⟨zR fM⟩,⟨zB HB⟩⟩
    repeat (go_quiet (first|((with_reducible refine fV (t:=3) (p:=69) rfl ?_);(try (rw[fZ wr];generalize hq_:World.drewN wr _=wr;have n0_:=am (Kd.ae8 hq_ fM.out);have n1_:=am (wW hq_ HB.out);clear hq_ fM HB;have fM:=n0_;have HB:=n1_;clear n0_ n1_;(try (obtain⟨UR,UT⟩:=Kd.iQ 0 fM.out ((yg):Int) (of_eq_true p26) (of_eq_true q26)));(try (have Ky:=Kd.mM fM.out ((yg):Int) Gi))));refine ed (t:=3) (p:=69) (v:=?UE) (w1:=(wr.setCell ⟨YA,((yg):Int).toNat,none⟩ (.int .i64 Gi))) ?hg ?ho ?hn ?hr ?_;(case ho=>rfl);(case hg=>rfl);(case hn=>rfl);(case hr=>first|(go_simp;done)|(go_simp;rfl));intro w28 hw;have hg:wr.grownBy w28 (some YA):=(by rw[hw];exact Ky.2);have hp_:Kd.R (Kd.int .i64) 3 w28 w.heap.size (fun _=>True) (.slice (some ⟨YA,0,none⟩) EE.length afe) alv:=(by rw[hw,ade.out];exact Ky.1);clear Ky;have n0_:=am (hp_);have n1_:=am ((by rw[hw];exact bQ (HB.out) an0.out:Below w.heap.size w w28));clear fM;clear HB;have fM:=n0_;have HB:=n1_;clear n0_ n1_;clear hg hw hp_));try go_wp2_with (first|((with_reducible refine fV (t:=3) (p:=69) rfl ?_);(try (rw[fZ wr];generalize hq_:World.drewN wr _=wr;have n0_:=am (Kd.ae8 hq_ fM.out);have n1_:=am (wW hq_ HB.out);clear hq_ fM HB;have fM:=n0_;have HB:=n1_;clear n0_ n1_;(try (obtain⟨UR,UT⟩:=Kd.iQ 0 fM.out ((yg):Int) (of_eq_true p26) (of_eq_true q26)));(try (have Ky:=Kd.mM fM.out ((yg):Int) Gi))));refine ed (t:=3) (p:=69) (v:=?UE) (w1:=(wr.setCell ⟨YA,((yg):Int).toNat,none⟩ (.int .i64 Gi))) ?hg ?ho ?hn ?hr ?_;(case ho=>rfl);(case hg=>rfl);(case hn=>rfl);(case hr=>first|(go_simp;done)|(go_simp;rfl));intro w28 hw;have hg:wr.grownBy w28 (some YA):=(by rw[hw];exact Ky.2);have hp_:Kd.R (Kd.int .i64) 3 w28 w.heap.size (fun _=>True) (.slice (some ⟨YA,0,none⟩) EE.length afe) alv:=(by rw[hw,ade.out];exact Ky.1);clear Ky;have n0_:=am (hp_);have n1_:=am ((by rw[hw];exact bQ (HB.out) an0.out:Below w.heap.size w w28));clear fM;clear HB;have fM:=n0_;have HB:=n1_;clear n0_ n1_;clear hg hw hp_)))
    go_roundg k3
    case measure=>have:=HJ2.out;have:=HK2.out;have:=HK3.out;omega
    case rel=>exact⟨(alv),(wrap64 (qW+1)),z1,H,⟨by have:=HJ2.out;have:=HK2.out;have:=HK3.out;omega⟩,⟨zR fM⟩,⟨zB HB⟩⟩
   replace H:=zo H;obtain⟨alr,A29,H⟩:=H;obtain rfl:=Option.some.inj H.out;obtain⟨afg,WI,alx⟩:=Kd.dZ fM.out;subst alx
   go_wp2_with (first|(go_at_call 141;(with_reducible refine (aW.calls _ (fun k_=>some k_=(.slice afg nT.length WI:Value).ownBlock) (.slice afg nT.length WI) _ _ w _ ?fE ?kN A29.out).mono ?_);(case fE=>repeat (first|(with_reducible first|exact HB.out|apply bD|apply aK|apply aX)|exact HB.out));(case kN=>exact Kd.jX rfl fM.out);rintro e w31 ⟨avc,rfl,ho0,hb,hkp⟩;have adf:=am (Kd.dw (ok':=fun k_=>True) ho0 (fun k_ hk_=>trivial));replace HB:=am (hb);clear fM hb hkp ho0))
   repeat (go_quiet (first|(go_at_call 141;(with_reducible refine (aW.calls k2 (fun k_=>some k_=(.slice afg nT.length WI:Value).ownBlock) (.slice afg nT.length WI) nT alr w _ ?fE ?kN A29.out).mono ?_);(case fE=>repeat (first|(with_reducible first|exact HB.out|apply bD|apply aK|apply aX)|exact HB.out));(case kN=>exact Kd.jX rfl fM.out);rintro e w31 ⟨avc,rfl,ho0,hb,hkp⟩;have n0_:=am (Kd.dw (ok':=fun k_=>True) ho0 (fun k_ hk_=>trivial));have n1_:=am (hb);clear HB;clear fM;have adf:=n0_;have HB:=n1_;clear n0_ n1_;(try clear hb);(try clear hkp);(try clear ho0)));try go_wp2_with (first|(go_at_call 141;(with_reducible refine (aW.calls k2 (fun k_=>some k_=(.slice afg nT.length WI:Value).ownBlock) (.slice afg nT.length WI) nT alr w _ ?fE ?kN A29.out).mono ?_);(case fE=>repeat (first|(with_reducible first|exact HB.out|apply bD|apply aK|apply aX)|exact HB.out));(case kN=>exact Kd.jX rfl fM.out);rintro e w31 ⟨avc,rfl,ho0,hb,hkp⟩;have n0_:=am (Kd.dw (ok':=fun k_=>True) ho0 (fun k_ hk_=>trivial));have n1_:=am (hb);clear HB;clear fM;have adf:=n0_;have HB:=n1_;clear n0_ n1_;(try clear hb);(try clear hkp);(try clear ho0))))
   go_ret
   exact⟨_,by first|exact z3|(simp only[← uQ];exact z3)|exact z2,zR adf,zB HB⟩
  replace H:=zb1 H;obtain rfl:=Option.some.inj H.out
  go_wp2
  repeat (go_quiet (fail);try go_wp2)
  go_ret
  exact⟨_,z2,by first|exact Kd.GN _ _ _ _ _|exact Kd.XO _ _ _ _ _|exact Kd.JB _ _ _ _ _|exact Kd.Xg _ _ _ _ _|exact Kd.XE _ _ _ _ _,zB HB⟩
def dE.l0:Nat→Int→List Int→Int→Option (List Int)
  | 0,_,_,_=>none
  | k+1,x0,x3,x4=>if x4<x0 then ((aJ.f k x3 10).bind fun an1=>(dE.l0 k x0 an1 (wrap64 (x4+1)))) else (some x3)
def dE.f (k:Nat)(a0:Int):Option (List Int):=dE.l0 k a0 (([1]:List Int)) 0
theorem dE.calls (k:Nat)(a0:Int)(r:List Int)(w:World)(h:dE.f k a0=some r) :
    Calls Tryz.prog 87 #[.int .i64 a0] w fun e w' => ∃ v0_:Value,e=.returned (v0_)∧Kd.R (Kd.int .i64) 3 w' w.heap.size (fun _=>True) v0_ r∧Below w.heap.size w w':=by
 have HB:=am (Below.refl w.heap.size w);have H:=am h;unfold dE.f at H;clear h;generalize ahM:(([1]:List Int):List Int)=azS at H;have ahN:=zY ahM;clear ahM
 go_enter Tryz.func87,Tryz.ntmps87
 go_wp2_with (first|((with_reducible refine aI (N:=5) rfl ?_);refine Kd.Bq (Kd.int .i64) _ 3 ?hg (N:=5) ?hd (xs:=([1]:List Int)) (inner := [.int .i64 1]) (ok:=fun _=>True) (okp:=fun _=>True) ?hr ?hp (fun _ hk=>hk) trivial (Below.refl _ _) (Nat.le_refl _) (by simp) ?_;(case hd=>rfl);(case hg=>rfl);(case hr=>first|(go_simp;done)|(go_simp;rfl));(case hp=>exact (jW.one (show Kd.M (Kd.int .i64) _ _ _ 1 [.int .i64 1] from rfl) (jW.none _ _)));intro aHJ w2 ho3 hb hg_ ku;clear hg_ ku;(first|rw[← ahN.out]at ho3|(simp only[Int.reduceToNat]at ho3;rw[← ahN.out]at ho3));have an2:=am (Kd.eu ho3 (zS HB));replace HB:=zBs HB hb;clear hb ho3))
 go_loopg [3,4] k (fun kq v3 v4 w' => ∃ (iH:List Int) (nO:Int),v4=.int .i64 nO∧ae (dE.l0 kq a0 iH nO=some r)∧ae (kq≤k)∧ae (Kd.R (Kd.int .i64) 3 w' w.heap.size (fun _=>True) v3 iH)∧ae (Below w.heap.size w w'))
 case atStart=>exact⟨(azS),(0),z1,H,zL,⟨zR an2⟩,⟨zB HB⟩⟩
 clear H;obtain⟨iH,nO,rfl,H,HK1,tC,HB⟩:=hrel;obtain _|k1:=gk
 ·exact zz H rfl
 simp only[dE.l0]at H;replace H:=zsd H;rcases H with⟨jP,H⟩|⟨jP,H⟩;replace H:=zo H;obtain⟨an1,A5,H⟩:=H;obtain⟨Ao6,co6,eo6⟩:=Kd.dZ tC.out;subst eo6;rotate_left;obtain rfl:=Option.some.inj H.out;rotate_left
 all_goals (go_wp2_with (first|((with_reducible refine af (f:=82) rfl ?_);refine zc (some 12) Tryz.func82 #[.slice Ao6 iH.length co6,.int .i64 10] (aJ.calls _ _ _ _ _ _ _ (zC ((Kd.aA tC.out).2.2)) ((Kd.aA tC.out).2.1) A5.out) ?_;rintro e w7 ⟨aHK,rfl,ho0,hb⟩;refine⟨_,rfl,?_⟩;have an3:=am (Kd.eu (Kd.jd ho0 (Kd.ql (zR tC))) (zS HB));replace tC:=am (Kd.gp (zR tC) (Kd.gm ho0) hb);replace HB:=zBs HB hb;clear hb ho0)))
 ·go_roundg k1
  case measure=>have:=HK1.out;omega
  case rel=>exact⟨(an1),(wrap64 (nO+1)),z1,H,(zH HK1),⟨by (with_reducible repeat (first|apply Kd.dh|apply Kd.df|apply Kd.dJ));exact Kd.dw an3.out (fun _ hk=>trivial)⟩,⟨zB HB⟩⟩
 go_ret
 exact⟨_,z2,zR tC,zB HB⟩
def bP.l0:Nat→Int→Int→Int→Option (Int)
  | 0,_,_,_=>none
  | k+1,x0,x3,x4=>if x4<x0 then (bP.l0 k x0 (wrap64 (2*x3)) (wrap64 (x4+1))) else (some x3)
def bP.f (k:Nat)(a0:Int):Option (Int):=bP.l0 k a0 1 0
theorem bP.calls (k:Nat)(a0:Int)(r:Int)(w:World)(h:bP.f k a0=some r) :
    Calls Tryz.prog 142 #[.int .i64 a0] w fun e w'=>e=.returned (.int .i64 r)∧dR w w':=by
 have H:=am h;unfold bP.f at H;clear h
 go_enter Tryz.func142,Tryz.ntmps142
 go_wp2
 go_loopg [3,4] k (fun kq v3 v4 w' => ∃ (iH:Int) (nO:Int),v3=.int .i64 iH∧v4=.int .i64 nO∧ae (bP.l0 kq a0 iH nO=some r)∧ae (kq≤k)∧dR w w')
 case atStart=>exact⟨(1),(0),z1,z1,H,zL,z4⟩
 clear H;obtain⟨iH,nO,rfl,rfl,H,HK1,⟨m1,rfl⟩⟩:=hrel;obtain _|k1:=gk
 ·exact zz H rfl
 simp only[bP.l0]at H;replace H:=zsd H;rcases H with⟨ry,H⟩|⟨ry,H⟩;rotate_left;obtain rfl:=Option.some.inj H.out;rotate_left
 all_goals (go_wp2)
 ·go_roundg k1
  case measure=>have:=HK1.out;omega
  case rel=>exact⟨(wrap64 (2*iH)),(wrap64 (nO+1)),z1,z1,H,(zH HK1),z4⟩
 go_ret
 exact⟨z1,z4⟩
def gQ.f (k:Nat)(l0:List Int)(a1:Int):Option (List Int):=if (l0.length:Int)=0 then (some ([]:List Int)) else (if 0≤(wrap64 (Int.tdiv a1 24)) then (if (wrap64 (Int.tdiv a1 24):Int).toNat≤35184372088832 then ((some (List.replicate (wrap64 (Int.tdiv a1 24):Int).toNat 0:List Int)).bind fun ahO=>((bP.f k (Int.tmod a1 24)).bind fun an4=>((aJ.f k l0 an4).bind fun afh=>(if ahO.length+afh.length<17592186044416 then (some (ahO++afh)) else (none))))) else (none)) else (none))
theorem gQ.calls (k:Nat)(A0:Option Addr)(c0:Nat)(l0:List Int)(a1:Int)(r:List Int)(w:World)(hr0:Kd.C (Kd.int .i64) w A0 l0.length l0)(hc0:l0.length≤c0)(h:gQ.f k l0 a1=some r) :
    Calls Tryz.prog 90 #[.slice A0 l0.length c0,.int .i64 a1] w fun e w' => ∃ v0_:Value,e=.returned (v0_)∧Kd.R (Kd.int .i64) 3 w' w.heap.size (fun _=>True) v0_ r∧Below w.heap.size w w':=by
 have HR0:=am hr0;have HC0:=am hc0;clear hr0 hc0;have HB:=am (Below.refl w.heap.size w);have H:=am h;unfold gQ.f at H;clear h;replace H:=zsk H;rcases H with⟨pI,Kw,H⟩|⟨pI,Kw,c3,H⟩;obtain rfl:=Option.some.inj H.out;rotate_left;have an5:¬ (l0=[]):=fun h_=>c3 (by rw[h_];rfl);generalize xA:(wrap64 (Int.tdiv a1 24):Int)=ji4 at H;have UK:(IntKind.i64.wrap (Int.tdiv a1 24))=ji4:=(cu _).trans xA;replace H:=zit H;obtain⟨qg,xy,H⟩:=H;replace H:=zit H;obtain⟨qm,zg,H⟩:=H;obtain⟨ahO,ahP,H⟩:=zw H;replace H:=zo H;obtain⟨an4,A7,H⟩:=H;replace H:=zo H;obtain⟨afh,A8,H⟩:=H;replace H:=zil H;obtain⟨ac7,H⟩:=H;generalize ahQ:(ahO++afh:List Int)=aHL at H;have an6:=zY ahQ;clear ahQ;obtain rfl:=Option.some.inj H.out;rotate_left
 all_goals (go_enter Tryz.func90,Tryz.ntmps90;go_wp2_with (first|((with_reducible refine aI (N:=11) rfl ?_);refine Kd.vH (Kd.int .i64) _ 3 rfl (N:=11) rfl 70 _ _ rfl ji4 (by first|rfl|(simp only[List.length_drop,List.length_take];rfl)) (by first|rfl|(simp only[List.length_drop,List.length_take];rfl)) Tryz.underlying70 (.int .i64 0) 8 info3 rfl (by decide) (by omega) 0 (ok:=fun _=>True) (okp:=fun _=>True) rfl (fun _ hk=>hk) trivial (zD) (Nat.le_trans (Nat.mul_le_mul_right _ (zD:ji4.toNat≤35184372088832)) (by omega)) (Below.refl _ _) (Nat.le_refl _) ?_;intro azT w10 ahR hb hg_ ku;clear hg_ ku;(first|rw[← ahP.out]at ahR|(simp only[Int.reduceToNat]at ahR;rw[← ahP.out]at ahR));have UU:=am (Kd.eu ahR (zS HB));replace HB:=zBs HB hb;clear hb ahR)|((with_reducible refine af (f:=142) rfl ?_);refine zc (some 16) Tryz.func142 _ (bP.calls _ _ _ _ A7.out) ?_;rintro e w' ⟨rfl,⟨nd,rfl⟩⟩;refine⟨_,rfl,?_⟩)|((with_reducible refine af (f:=82) rfl ?_);refine zc (some 17) Tryz.func82 #[.slice A0 l0.length c0,.int .i64 an4] (aJ.calls _ _ _ _ _ _ _ (zC (Kd.jZ HR0.out (zB HB))) HC0.out A8.out) ?_;rintro e w12 ⟨aHM,rfl,ho0,hb⟩;refine⟨_,rfl,?_⟩;have UV:=am (Kd.eu (Kd.jd ho0 (Kd.ql (zR UU))) (zS HB));replace UU:=am (Kd.gp (zR UU) (Kd.gm ho0) hb);replace HB:=zBs HB hb;clear hb ho0;obtain⟨azU,auw,ali⟩:=Kd.dZ UV.out;subst ali)|((with_reducible refine eG (b := .append) (xs:=#[.tmp 12,.tmp 17]) rfl ?_);at_builtin;refine Kd.ru (Kd.int .i64) (w0:=w) w.heap.size rfl (.tmp 12) (.tmp 17) 70 3 (.int .i64 0) 8 rfl Tryz.underlying70 info3 rfl (by decide) (by omega) azT ahO afh _ _ _ (fun k_=>some k_≠(.slice azU afh.length auw:Value).ownBlock) (fun _=>False) rfl rfl ?aO ?aR (fun _ _ h=>h) (fun _ h=>h.elim) ?aF ?aB ?aS ?aL ?_;(case aR=>repeat (first|exact (Kd.aA UV.out).2.2|(with_reducible refine Kd.lm ?_ _)|(with_reducible refine Kd.lg ?_ _)|(with_reducible refine Kd.nZ ?_)));(case aB=>exact (zB HB));(case aF=>exact (fun k_ hk=>Kd.fresh' (Kd.ql (zR UV)) k_ hk));(case aO=>exact (by (with_reducible repeat (first|apply Kd.dh|apply Kd.df|apply Kd.dJ));exact Kd.dw UU.out (fun _ hk=>hk.2)));(case aS=>exact (zS HB));(case aL=>have:=ac7.out;omega);intro aHN w13 ho hb hg hat;rw[← an6.out]at ho;replace UV:=am (Kd.uG (ok:=(fun _=>True)) (zR UV) hg hat);replace HB:=am (hb);have an7:=am (ho);clear UU ho hb hg hat)))
 ·go_ret
  exact⟨_,z2,by first|exact Kd.GN _ _ _ _ _|exact Kd.XO _ _ _ _ _|exact Kd.JB _ _ _ _ _|exact Kd.Xg _ _ _ _ _|exact Kd.XE _ _ _ _ _,zB HB⟩
 go_ret
 exact⟨_,by first|exact z3|(simp only[← xA];exact z3)|exact z2,by (with_reducible repeat (first|apply Kd.dh|apply Kd.df|apply Kd.dJ));exact Kd.dw an7.out (fun _ hk=>trivial),zB HB⟩
def dU.l0:Nat→Int→List Int→Option (List Int)
  | 0,_,_=>none
  | k+1,x0,x3=>if x0 > 0 then (if x3.length<17592186044416 then (dU.l0 k (IntKind.u64.wrap (Int.tdiv x0 16777216)) (x3 ++ [wrap64 (Int.tmod x0 16777216)])) else (none)) else (some x3)
def dU.f (k:Nat)(a0:Int):Option (List Int):=dU.l0 k a0 ([]:List Int)
theorem dU.calls (k:Nat)(a0:Int)(r:List Int)(w:World)(h:dU.f k a0=some r) :
    Calls Tryz.prog 84 #[.int .u64 a0] w fun e w' => ∃ v0_:Value,e=.returned (v0_)∧Kd.R (Kd.int .i64) 3 w' w.heap.size (fun _=>True) v0_ r∧Below w.heap.size w w':=by
 have HB:=am (Below.refl w.heap.size w);have H:=am h;unfold dU.f at H;clear h
 go_enter Tryz.func84,Tryz.ntmps84
 go_wp2
 go_loopg [0,3] k (fun kq v0 v3 w' => ∃ (mD:Int) (iH:List Int),v0=.int .u64 mD∧ae (dU.l0 kq mD iH=some r)∧ae (kq≤k)∧ae (Kd.R (Kd.int .i64) 3 w' w.heap.size (fun _=>True) v3 iH)∧ae (Below w.heap.size w w'))
 case atStart=>exact⟨(a0),(([]:List Int)),z1,H,zL,⟨zN⟩,⟨zB HB⟩⟩
 clear H;obtain⟨mD,iH,rfl,H,HK1,tC,HB⟩:=hrel;obtain _|k1:=gk
 ·exact zz H rfl
 simp only[dU.l0]at H;replace H:=AV H;rcases H with⟨ry,H⟩|⟨ry,H⟩;replace H:=zil H;obtain⟨azV,H⟩:=H;generalize ahS:(iH ++ [wrap64 (Int.tmod mD 16777216)]:List Int)=azW at H;have an8:=zY ahS;clear ahS;rotate_left;obtain rfl:=Option.some.inj H.out;rotate_left
 all_goals (go_wp2_with (first|((with_reducible refine eG (b := .append) (xs:=#[.tmp 6,.tmp 10]) rfl ?_);at_builtin;refine Kd.kU (Kd.int .i64) (w0:=w) w.heap.size rfl (.tmp 6) (.tmp 10) 70 3 (.int .i64 0) 8 rfl Tryz.underlying70 info3 rfl (by decide) (by omega) u3 iH (wrap64 (Int.tmod mD 16777216)) [.int .i64 (wrap64 (Int.tmod mD 16777216))] (fun _=>True) (fun _=>False) rfl rfl ?aP (fun _ hk=>hk.elim) ?aF ?aO ?aB ?aS ?aL ?_;(case aP=>exact rfl);(case aB=>exact (zB HB));(case aF=>exact (fun _ _=>trivial));(case aO=>exact (zR tC));(case aS=>exact (zS HB));(case aL=>have:=azV.out;omega);intro aHO w4 ho hb hg hat;rw[← an8.out]at ho;replace HB:=am (hb);have an9:=am (ho);clear tC ho hb hg hat)))
 ·go_roundg k1
  case measure=>have:=HK1.out;omega
  case rel=>exact⟨(IntKind.u64.wrap (Int.tdiv mD 16777216)),(azW),z1,H,(zH HK1),⟨zR an9⟩,⟨zB HB⟩⟩
 go_ret
 exact⟨_,z2,zR tC,zB HB⟩
def bW.l0:Nat→ByteArray→List Int→Int→Option (List Int)
  | 0,_,_,_=>none
  | k+1,x0,x3,x4=>if x4<(x0.size:Int) then ((aJ.f k x3 10).bind fun aoa=>(if 0≤x4 then ((dU.f k (((bt x0 x4)-48) % 256)).bind fun aob=>((aV.f k aoa aob).bind fun aoc=>(bW.l0 k x0 aoc (wrap64 (x4+1))))) else (none))) else (some x3)
def bW.f (k:Nat)(a0:ByteArray):Option (List Int):=bW.l0 k a0 ([]:List Int) 0
theorem bW.calls (k:Nat)(a0:ByteArray)(r:List Int)(w:World)(h:bW.f k a0=some r) :
    Calls Tryz.prog 39 #[.string a0] w fun e w' => ∃ v0_:Value,e=.returned (v0_)∧Kd.R (Kd.int .i64) 3 w' w.heap.size (fun _=>True) v0_ r∧Below w.heap.size w w':=by
 have HB:=am (Below.refl w.heap.size w);have H:=am h;unfold bW.f at H;clear h
 go_enter Tryz.func39,Tryz.ntmps39
 go_wp2
 go_loopg [3,4] k (fun kq v3 v4 w' => ∃ (iH:List Int) (nO:Int),v4=.int .i64 nO∧ae (bW.l0 kq a0 iH nO=some r)∧ae (kq≤k)∧ae (Kd.R (Kd.int .i64) 3 w' w.heap.size (fun _=>True) v3 iH)∧ae (Below w.heap.size w w'))
 case atStart=>exact⟨(([]:List Int)),(0),z1,H,zL,⟨zN⟩,⟨zB HB⟩⟩
 clear H;obtain⟨iH,nO,rfl,H,HK1,tC,HB⟩:=hrel;obtain _|k1:=gk
 ·exact zz H rfl
 simp only[bW.l0]at H;replace H:=zsd H;rcases H with⟨ry,H⟩|⟨ry,H⟩;replace H:=zo H;obtain⟨aoa,A3,H⟩:=H;replace H:=zid H;obtain⟨jP,H⟩:=H;replace H:=zo H;obtain⟨aob,A6,H⟩:=H;replace H:=zo H;obtain⟨aoc,A7,H⟩:=H;obtain⟨Ao8,co8,eo8⟩:=Kd.dZ tC.out;subst eo8;rotate_left;obtain rfl:=Option.some.inj H.out;rotate_left
 all_goals (go_wp2_with (first|((with_reducible refine af (f:=82) rfl ?_);refine zc (some 12) Tryz.func82 #[.slice Ao8 iH.length co8,.int .i64 10] (aJ.calls _ _ _ _ _ _ _ (zC ((Kd.aA tC.out).2.2)) ((Kd.aA tC.out).2.1) A3.out) ?_;rintro e w9 ⟨aHP,rfl,ho0,hb⟩;refine⟨_,rfl,?_⟩;have Ie:=am (Kd.eu (Kd.jd ho0 (Kd.ql (zR tC))) (zS HB));replace tC:=am (Kd.gp (zR tC) (Kd.gm ho0) hb);replace HB:=zBs HB hb;clear hb ho0;have p5:0≤(nO:Int):=zD;have q5:nO<(a0.size:Int):=zD;have hx5:=mi a0 nO;replace p5:=eq_true p5;replace q5:=eq_true q5)|((with_reducible refine af (f:=84) rfl ?_);refine zc (some 19) Tryz.func84 _ (dU.calls _ (((bt a0 nO)-48) % 256) _ _ A6.out) ?_;rintro e w10 ⟨aHQ,rfl,ho0,hb⟩;refine⟨_,rfl,?_⟩;have P9:=am (Kd.eu (Kd.jd (Kd.jd ho0 (Kd.ql (zR tC))) (Kd.ql (zR Ie))) (zS HB));replace tC:=am (Kd.gp (zR tC) (Kd.gm ho0) hb);replace Ie:=am (Kd.gp (zR Ie) (Kd.gm ho0) hb);replace HB:=zBs HB hb;clear hb ho0;obtain⟨aak,YB,YC⟩:=Kd.dZ Ie.out;subst YC;obtain⟨WJ,QH,WF⟩:=Kd.dZ P9.out;subst WF)|((with_reducible refine af (f:=83) rfl ?_);refine zc (some 20) Tryz.func83 #[.slice aak aoa.length YB,.slice WJ aob.length QH] (aV.calls _ _ _ _ _ _ _ _ _ (zC ((Kd.aA Ie.out).2.2)) ((Kd.aA Ie.out).2.1) (zC ((Kd.aA P9.out).2.2)) ((Kd.aA P9.out).2.1) A7.out) ?_;rintro e w13 ⟨aHR,rfl,ho0,hb⟩;refine⟨_,rfl,?_⟩;have aod:=am (Kd.eu (Kd.jd (Kd.jd (Kd.jd ho0 (Kd.ql (zR tC))) (Kd.ql (zR Ie))) (Kd.ql (zR P9))) (zS HB));replace tC:=am (Kd.gp (zR tC) (Kd.gm ho0) hb);replace Ie:=am (Kd.gp (zR Ie) (Kd.gm ho0) hb);replace P9:=am (Kd.gp (zR P9) (Kd.gm ho0) hb);replace HB:=zBs HB hb;clear hb ho0)))
 ·go_roundg k1
  case measure=>have:=HK1.out;omega
  case rel=>exact⟨(aoc),(wrap64 (nO+1)),z1,H,(zH HK1),⟨by (with_reducible repeat (first|apply Kd.dh|apply Kd.df|apply Kd.dJ));exact Kd.dw aod.out (fun _ hk=>trivial)⟩,⟨zB HB⟩⟩
 go_ret
 exact⟨_,z2,zR tC,zB HB⟩
mutual
def ak.j1:Nat→Int→Bool→Bool→ByteArray→Int→Option (Bool × Bool × ByteArray × Int)
  | 0,_,_,_,_,_=>none
  | k+1,x3,uU,uV,kP,tX=>if x3=(kP.size:Int) then (some (false,false,(⟨#[48]⟩:ByteArray),0)) else (if 0≤x3 then (if x3≤(kP.size:Int) then (ak.l1 k uU uV (kP.extract (x3:Int).toNat kP.size) tX) else (none)) else (none))
def ak.l1:Nat→Bool→Bool→ByteArray→Int→Option (Bool × Bool × ByteArray × Int)
  | 0,_,_,_,_=>none
  | k+1,uU,uV,kP,tX=>if 0≤(wrap64 ((kP.size:Int)-1)) then (if (wrap64 ((kP.size:Int)-1))<(kP.size:Int) then (if (bt kP (wrap64 ((kP.size:Int)-1)))=48 then (if tX<1000000 then (if (wrap64 ((kP.size:Int)-1))≤(kP.size:Int) then (ak.l1 k uU uV (kP.extract 0 ((wrap64 ((kP.size:Int)-1)):Int).toNat) (wrap64 (tX+1))) else (none)) else (some (uU,uV,kP,tX))) else (some (uU,uV,kP,tX))) else (none)) else (none)
def ak.l0:Nat→Int→Bool→Bool→ByteArray→Int→Option (Bool × Bool × ByteArray × Int)
  | 0,_,_,_,_,_=>none
  | k+1,x3,uU,uV,kP,tX=>if x3<(kP.size:Int) then (if 0≤x3 then (if (bt kP x3)=48 then (ak.l0 k (wrap64 (x3+1)) uU uV kP tX) else (ak.j1 k x3 uU uV kP tX)) else (none)) else (ak.j1 k x3 uU uV kP tX)
end
def ak.f (k:Nat)(gy:Bool)(fU:Bool)(jC:ByteArray)(jB:Int):Option (Bool × Bool × ByteArray × Int):=if gy=true then (some (gy,fU,jC,jB)) else (ak.l0 k 0 gy fU jC jB)
theorem ak.calls (k:Nat)(gy:Bool)(fU:Bool)(jC:ByteArray)(jB:Int)(r1:Bool)(r2:Bool)(r3:ByteArray)(r4:Int)(w:World)(h:ak.f k gy fU jC jB=some (r1,r2,r3,r4)) :
    Calls Tryz.prog 72 #[.agg #[.bool gy,.bool fU,.string jC,.int .i64 jB]] w fun e w'=>e=.returned (.agg #[.bool r1,.bool r2,.string r3,.int .i64 r4])∧Below w.heap.size w w':=by
 have PS:=Tryz.underlying23;have HB:=am (Below.refl w.heap.size w);have H:=am h;unfold ak.f at H;clear h
 cases gy
 ·replace H:=zb0 H
  go_enter Tryz.func72,Tryz.ntmps72
  go_upto_block 0 with (first|((with_reducible refine aI (N:=1) rfl ?_);refine zx 1 23 #[.bool false,.bool fU,.string jC,.int .i64 jB] ?_;intro YD hg w9 hbox hb;have qf:=am (hbox);have aoe:=zG hg HB;have aof:=zG hg HB;replace HB:=zBs HB hb;clear hb hbox hg)|((with_reducible refine aI (N:=2) rfl ?_);refine zx 2 23 #[.bool false,.bool false,.string (⟨#[]⟩:ByteArray),.int .i64 0] ?_;intro L8 hg w10 hbox hb;have wF:=am (hbox);have aog:=zG hg HB;have aoh:=zG hg HB;replace HB:=zBs HB hb;have ni:=zNl hg qf;have ny:=zNg hg qf;replace qf:=zKb qf hb;clear hb hbox hg;have aoi:=ni.out;have aoj:=ny.out;obtain⟨_,_,_,_,_,_,_,_⟩:=zf4 qf))
  (try simp only[Act.put,List.setIfInBounds_toArray,List.set_cons_zero,List.set_cons_succ])
  go_cut [3] (fun v3 wc => ∃ (kq:Nat) (aly:Int),v3=.int .i64 aly∧ae (ak.j1 kq aly false fU jC jB=some (r1,r2,r3,r4))∧ae (kq≤k)∧ae (wc.heap[YD]? = some (.cells #[.bool false,.bool fU,.string jC,.int .i64 jB] 23 (0,0)))∧ae (wc.heap[L8]? = some (.cells #[.bool false,.bool false,.string (⟨#[]⟩:ByteArray),.int .i64 0] 23 (0,0)))∧ae (Below w.heap.size w wc))
  case first =>
   go_wp2
   go_loopg [3] k (fun kq v3 w' => ∃ (iH:Int),v3=.int .i64 iH∧ae (ak.l0 kq iH false fU jC jB=some (r1,r2,r3,r4))∧ae (kq≤k)∧ae (w'.heap[YD]? = some (.cells #[.bool false,.bool fU,.string jC,.int .i64 jB] 23 (0,0)))∧ae (w'.heap[L8]? = some (.cells #[.bool false,.bool false,.string (⟨#[]⟩:ByteArray),.int .i64 0] 23 (0,0)))∧ae (Below w.heap.size w w'))
   case atStart=>exact⟨(0),z1,H,zL,⟨zK qf⟩,⟨zK wF⟩,⟨zB HB⟩⟩
   clear H;obtain⟨iH,rfl,H,HK1,qf,wF,HB⟩:=hrel;obtain _|k1:=gk
   ·exact zz H rfl
   simp only[ak.l0]at H;replace H:=zsd H;rcases H with⟨qo,H⟩|⟨qo,H⟩
   (first|rw[qo]|(simp only[cu,fQ];rw[qo])|rw[Ib]|skip)
   replace H:=zid H;obtain⟨ww,H⟩:=H;replace H:=zsk H;rcases H with⟨H9,YE,H⟩|⟨H9,YE,c16,H⟩;have aok:=ni.out;have aol:=ny.out;obtain⟨_,_,_,_,_,_,_,_⟩:=zf4 qf;have p15:0≤(iH:Int):=zD;have q15:iH<(jC.size:Int):=zD;have aom:=mi jC iH;replace p15:=eq_true p15;replace q15:=eq_true q15;rotate_left;have azX:=ni.out;have azY:=ny.out;obtain⟨_,_,_,_,_,_,_,_⟩:=zf4 qf;have p15:0≤(iH:Int):=zD;have q15:iH<(jC.size:Int):=zD;have aom:=mi jC iH;replace p15:=eq_true p15;replace q15:=eq_true q15;rotate_left
   (first|rw[qo]|(simp only[cu,fQ];rw[qo])|rw[Ib]|skip)
   have azZ:=ni.out;have az0:=ny.out;obtain⟨_,_,_,_,_,_,_,_⟩:=zf4 qf;rotate_left
   all_goals (go_wp2)
   ·go_roundg k1
    case measure=>have:=HK1.out;omega
    case rel=>exact⟨(wrap64 (iH+1)),z1,H,(zH HK1),⟨zK qf⟩,⟨zK wF⟩,⟨zB HB⟩⟩
   ·go_meet
    case rel=>exact⟨_,(iH),z1,H,⟨by have:=HK1.out;first|omega|exact Nat.le_refl _⟩,⟨zK qf⟩,⟨zK wF⟩,⟨zB HB⟩⟩
   go_meet
   case rel=>exact⟨_,(iH),z1,H,⟨by have:=HK1.out;first|omega|exact Nat.le_refl _⟩,⟨zK qf⟩,⟨zK wF⟩,⟨zB HB⟩⟩
  case rest =>
   try clear hx1
   try clear aom
   obtain⟨kq,aly,rfl,H,HJ7,qf,wF,HB⟩:=hcut;obtain _|kj7:=kq
   ·exact zz H rfl
   simp only[ak.j1]at H;replace H:=zsk H;rcases H with⟨LP,ahT,H⟩|⟨LP,ahT,c23,H⟩;obtain⟨rfl,rfl,rfl,rfl⟩:=zJ4 H;have agR:=ni.out;have agS:=ny.out;obtain⟨_,_,_,_,_,_,_,_⟩:=zf4 qf;obtain⟨_,_,_,_,_,_,_,_⟩:=zf4 wF;rotate_left;replace H:=zit H;obtain⟨DJ,P7,H⟩:=H;replace H:=zit H;obtain⟨zq,ac1,H⟩:=H;have az1:=ni.out;have az2:=ny.out;obtain⟨_,_,_,_,_,_,_,_⟩:=zf4 qf;rotate_left
   all_goals (go_wp2)
   ·refine bodyPost_ret (results_cell_row rfl _ _ L8 23 #[.bool false,.bool false,.string (⟨#[48]⟩:ByteArray),.int .i64 0] (0,0) _ rfl (zKp wF) Tryz.underlying23 rfl (by kernel_rfl)) rfl ?_
    exact⟨z2,zB HB⟩
   go_loopg [] kj7 (fun kq w' => ∃ (lL:ByteArray) (wG:Int),ae (ak.l1 kq false fU lL wG=some (r1,r2,r3,r4))∧ae (kq≤kj7)∧ae (w'.heap[YD]? = some (.cells #[.bool false,.bool fU,.string lL,.int .i64 wG] 23 (0,0)))∧ae (w'.heap[L8]? = some (.cells #[.bool false,.bool false,.string (⟨#[]⟩:ByteArray),.int .i64 0] 23 (0,0)))∧ae (Below w.heap.size w w'))
   case atStart=>exact⟨(jC.extract (aly:Int).toNat jC.size),(jB),H,zL,⟨zKp qf⟩,⟨zK wF⟩,⟨zB HB⟩⟩
   clear H
   try clear hx1
   try clear aom
   obtain⟨lL,wG,H,HK2,qf,wF,HB⟩:=hrel;obtain _|k2:=gk
   ·exact zz H rfl
   simp only[ak.l1]at H;generalize UW:(wrap64 ((lL.size:Int)-1):Int)=Ig at H;have avd:(IntKind.i64.wrap ((lL.size:Int)-1))=Ig:=(cu _).trans UW;replace H:=zid H;obtain⟨ahU,H⟩:=H;replace H:=zid H;obtain⟨ahV,H⟩:=H;replace H:=zsk H;rcases H with⟨JZ,adg,H⟩|⟨JZ,adg,c35,H⟩;replace H:=zsd H;rcases H with⟨UX,H⟩|⟨UX,H⟩;have L9:=eq_true (zD:0≤(Ig));replace H:=zit H;obtain⟨aon,aoo,H⟩:=H;have ahW:=ni.out;have ahX:=ny.out;obtain⟨_,_,_,_,_,_,_,_⟩:=zf4 qf;have p34:0≤((Ig):Int):=zD;have q34:(Ig)<(lL.size:Int):=zD;have hx34:=mi lL (Ig);replace p34:=eq_true p34;replace q34:=eq_true q34;rotate_left;obtain⟨rfl,rfl,rfl,rfl⟩:=zJ4 H;have az3:=ni.out;have az4:=ny.out;obtain⟨_,_,_,_,_,_,_,_⟩:=zf4 qf;have p34:0≤((Ig):Int):=zD;have q34:(Ig)<(lL.size:Int):=zD;have hx34:=mi lL (Ig);replace p34:=eq_true p34;replace q34:=eq_true q34;obtain⟨_,_,_,_,_,_,_,_⟩:=zf4 wF;rotate_left;obtain⟨rfl,rfl,rfl,rfl⟩:=zJ4 H;have aop:=ni.out;have aoq:=ny.out;obtain⟨_,_,_,_,_,_,_,_⟩:=zf4 qf;have p34:0≤((Ig):Int):=zD;have q34:(Ig)<(lL.size:Int):=zD;have hx34:=mi lL (Ig);replace p34:=eq_true p34;replace q34:=eq_true q34;obtain⟨_,_,_,_,_,_,_,_⟩:=zf4 wF;rotate_left
   all_goals (go_wp2)
   ·go_roundg k2
    case measure=>have:=HJ7.out;have:=HK2.out;omega
    case rel=>exact⟨(lL.extract 0 ((Ig):Int).toNat),(wrap64 (wG+1)),H,⟨by have:=HJ7.out;have:=HK2.out;omega⟩,⟨zKp qf⟩,⟨zK wF⟩,⟨zB HB⟩⟩
   rotate_left;rotate_left
   all_goals
    refine bodyPost_ret (results_cell_row rfl _ _ L8 23 #[.bool false,.bool fU,.string lL,.int .i64 wG] (0,0) _ rfl (zKp wF) Tryz.underlying23 rfl (by kernel_rfl)) rfl ?_;exact⟨by first|exact z3|(simp only[← UW];exact z3)|exact z2,zB HB⟩
 replace H:=zb1 H;obtain⟨rfl,rfl,rfl,rfl⟩:=zJ4 H
 go_enter Tryz.func72,Tryz.ntmps72
 go_wp2_with (first|((with_reducible refine aI (N:=1) rfl ?_);refine zx 1 23 #[.bool true,.bool fU,.string jC,.int .i64 jB] ?_;intro YD hg w3 hbox hb;have qf:=am (hbox);have aoe:=zG hg HB;have aof:=zG hg HB;replace HB:=zBs HB hb;clear hb hbox hg)|((with_reducible refine aI (N:=2) rfl ?_);refine zx 2 23 #[.bool false,.bool false,.string (⟨#[]⟩:ByteArray),.int .i64 0] ?_;intro L8 hg w4 hbox hb;have wF:=am (hbox);have aog:=zG hg HB;have aoh:=zG hg HB;replace HB:=zBs HB hb;have ni:=zNl hg qf;have ny:=zNg hg qf;replace qf:=zKb qf hb;clear hb hbox hg;have aHS:=ni.out;have aHT:=ny.out;obtain⟨_,_,_,_,_,_,_,_⟩:=zf4 qf;obtain⟨_,_,_,_,_,_,_,_⟩:=zf4 wF))
 refine bodyPost_ret (results_cell_row rfl _ _ L8 23 #[.bool true,.bool fU,.string jC,.int .i64 jB] (0,0) _ rfl (zKp wF) Tryz.underlying23 rfl (by kernel_rfl)) rfl ?_;exact⟨z2,zB HB⟩
def oW.f (a0:Int)(a1:Int)(a2:Int)(a3:Int):Option (Int × Int):=(bits_Mul64.f a0 a1).bind fun YF=>(some (fK (fK YF.2 a2 0) a3 0,IntKind.u64.wrap ((IntKind.u64.wrap (YF.1+(iD YF.2 a2 0)))+(iD (fK YF.2 a2 0) a3 0))))
theorem oW.calls (a0:Int)(a1:Int)(a2:Int)(a3:Int)(r1:Int)(r2:Int)(w:World)(h:oW.f a0 a1 a2 a3=some (r1,r2)) :
    Calls Tryz.prog 166 #[.int .u64 a0,.int .u64 a1,.int .u64 a2,.int .u64 a3] w fun e w'=>e=.returned (.tuple #[.int .u64 r1,.int .u64 r2])∧dR w w':=by
 have H:=am h;unfold oW.f at H;clear h;replace H:=zo H;obtain⟨⟨aHU,t198⟩,A5,H⟩:=H
 try dsimp only at H
 obtain⟨rfl,rfl⟩:=zJ2 H
 go_enter Tryz.func166,Tryz.ntmps166
 go_wp2_with (first|((with_reducible refine af (f:=178) rfl ?_);refine zc (some 14) Tryz.func178 _ (bits_Mul64.calls _ _ _ _ _ A5.out) ?_;rintro e w' ⟨rfl,⟨nd,rfl⟩⟩;refine⟨_,rfl,?_⟩)|((with_reducible refine af (f:=191) rfl ?_);refine Be (some 20) rfl rfl #[.int .u64 t198,.int .u64 a2,.int .u64 0] _ rfl (by (try simp only[List.map_toArray,List.map_cons,List.map_nil]);rfl) (fun w_=>dG t198 a2 0 (by first|decide|(with_reducible assumption)|exact zD) w_) ?_)|((with_reducible refine af (f:=191) rfl ?_);refine Be (some 29) rfl rfl #[.int .u64 (fK t198 a2 0),.int .u64 a3,.int .u64 0] _ rfl (by (try simp only[List.map_toArray,List.map_cons,List.map_nil]);rfl) (fun w_=>dG (fK t198 a2 0) a3 0 (by first|decide|(with_reducible assumption)|exact zD) w_) ?_))
 go_ret2
 exact⟨z1,z4⟩
mutual
def dI.l0:Nat→List Int→List Int→List Int→Int→Int→Option (List Int)
  | 0,_,_,_,_,_=>none
  | k+1,x1,x5,x17,x18,x19=>if x19<x18 then (if 0≤x19 then (if x19<(x17.length:Int) then (dI.l1 k x1 x5 x19 (rd x17 x19) 0 x17 x18 x19 x1 (x1.length:Int) 0) else (none)) else (none)) else ((bG.f k x5).bind fun ave=>(some ave))
def dI.l1:Nat→List Int→List Int→Int→Int→Int→List Int→Int→Int→List Int→Int→Int→Option (List Int)
  | 0,_,_,_,_,_,_,_,_,_,_,_=>none
  | k+1,x1,x5,x6,x7,x8,x17,x18,x19,x24,x25,x26=>if x26<x25 then (if 0≤x26 then (if x26<(x24.length:Int) then (if 0≤(wrap64 (x6+x26)) then (if (wrap64 (x6+x26))<(x5.length:Int) then ((oW.f x7 (rd x24 x26) (rd x5 (wrap64 (x6+x26))) x8).bind fun ahY=>(dI.l1 k x1 (x5.set ((wrap64 (x6+x26)):Int).toNat ahY.1) x6 x7 ahY.2 x17 x18 x19 x24 x25 (wrap64 (x26+1)))) else (none)) else (none)) else (none)) else (none)) else (if 0≤(wrap64 (x6+(x1.length:Int))) then (if (wrap64 (x6+(x1.length:Int)))<(x5.length:Int) then (dI.l0 k x1 (x5.set ((wrap64 (x6+(x1.length:Int))):Int).toNat x8) x17 x18 (wrap64 (x19+1))) else (none)) else (none))
end
def dI.f (k:Nat)(l0:List Int)(l1:List Int):Option (List Int):=if 0≤(wrap64 ((l0.length:Int)+(l1.length:Int))) then (if (wrap64 ((l0.length:Int)+(l1.length:Int)):Int).toNat≤35184372088832 then (dI.l0 k l1 (List.replicate (wrap64 ((l0.length:Int)+(l1.length:Int)):Int).toNat 0) l0 (l0.length:Int) 0) else (none)) else (none)
theorem dI.calls (k:Nat)(A0:Option Addr)(c0:Nat)(l0:List Int)(A1:Option Addr)(c1:Nat)(l1:List Int)(r:List Int)(w:World)(hr0:Kd.C (Kd.int .u64) w A0 l0.length l0)(hc0:l0.length≤c0)(hr1:Kd.C (Kd.int .u64) w A1 l1.length l1)(hc1:l1.length≤c1)(h:dI.f k l0 l1=some r) :
    Calls Tryz.prog 107 #[.slice A0 l0.length c0,.slice A1 l1.length c1] w fun e w' => ∃ v0_:Value,e=.returned (v0_)∧Kd.V (Kd.int .u64) 25 w' w.heap.size (fun k_=>(w.heap.size≤k_)) v0_ r∧Below w.heap.size w w':=by
 have HR0:=am hr0;have HC0:=am hc0;clear hr0 hc0;have HR1:=am hr1;have HC1:=am hc1;clear hr1 hc1;have HB:=am (Below.refl w.heap.size w);have H:=am h;unfold dI.f at H;clear h;generalize ED:(wrap64 ((l0.length:Int)+(l1.length:Int)):Int)=ji3 at H;have UA:(IntKind.i64.wrap ((l0.length:Int)+(l1.length:Int)))=ji3:=(cu _).trans ED;replace H:=zit H;obtain⟨jP,sQ,H⟩:=H;replace H:=zit H;obtain⟨qg,xy,H⟩:=H;generalize ahZ:(List.replicate (ji3:Int).toNat 0:List Int)=az5 at H;have ah0:=zY ahZ;clear ahZ
 go_enter Tryz.func107,Tryz.ntmps107
 go_wp2_with (first|((with_reducible refine aI (N:=16) rfl ?_);refine Kd.vH (Kd.int .u64) _ 25 rfl (N:=16) rfl 88 _ _ rfl ji3 (by first|rfl|(simp only[List.length_drop,List.length_take];rfl)) (by first|rfl|(simp only[List.length_drop,List.length_take];rfl)) Tryz.underlying88 (.int .u64 0) 8 info25 rfl (by decide) (by omega) 0 (ok:=fun _=>True) (okp:=fun _=>True) rfl (fun _ hk=>hk) trivial (zD) (Nat.le_trans (Nat.mul_le_mul_right _ (zD:ji3.toNat≤35184372088832)) (by omega)) (Below.refl _ _) (Nat.le_refl _) ?_;intro avf w6 ho7 hb hg_ ku;clear hg_ ku;(first|rw[← ah0.out]at ho7|(simp only[Int.reduceToNat]at ho7;rw[← ah0.out]at ho7));have aor:=am (Kd.eu (Kd.oI (M:=fun k_=>(w.heap.size≤k_)) ho7 (zS HB) (fun k_ h_=>h_)) (zS HB));replace HB:=zBs HB hb;clear hb ho7))
 go_loopg [19] k (fun kq v19 w' => ∃ (ig:List Int) (yh:Int),v19=.int .i64 yh∧ae (dI.l0 kq l1 ig l0 (l0.length:Int) yh=some r)∧ae (kq≤k)∧ae (Kd.R (Kd.int .u64) 25 w' w.heap.size (fun k_=>(w.heap.size≤k_)) avf ig)∧ae (Below w.heap.size w w'))
 case atStart=>exact⟨(az5),(0),z1,H,zL,⟨by (with_reducible repeat (first|apply Kd.dh|apply Kd.df|apply Kd.dJ));exact Kd.dw aor.out (fun _ hk=>hk.1)⟩,⟨zB HB⟩⟩
 clear H;obtain⟨ig,yh,rfl,H,HK1,fM,HB⟩:=hrel;obtain _|k1:=gk
 ·exact zz H rfl
 simp only[dI.l0]at H;replace H:=zsd H;rcases H with⟨sO,H⟩|⟨sO,H⟩;replace H:=zid H;obtain⟨wu,H⟩:=H;replace H:=zid H;obtain⟨mr,H⟩:=H;have aos:0≤(yh:Int):=zD;have aot:yh<(l0.length:Int):=zD;obtain⟨az6,az7,Ih⟩:=Kd.dQ HR0.out yh aos aot
 cases az7
 replace Ih:=(HB.out.cell (World.block_lt_of_cell? w _ Ih)).trans Ih;replace aos:=eq_true aos;replace aot:=eq_true aot;rotate_left;replace H:=zo H;obtain⟨ave,A28,H⟩:=H;obtain rfl:=Option.some.inj H.out;obtain⟨avg,QI,alp⟩:=Kd.dZ fM.out;subst alp;rotate_left
 all_goals (go_wp2_with (first|((with_reducible refine af (f:=103) rfl ?_);refine zc (some 59) Tryz.func103 #[.slice avg ig.length QI] (bG.calls _ (fun k_=>some k_=(.slice avg ig.length QI:Value).ownBlock) _ _ _ _ _ (Kd.R_V (Kd.jX rfl (fM.out))) A28.out) ?_;rintro e w30 ⟨v203,rfl,ho0,hb⟩;refine⟨_,rfl,?_⟩;have aou:=am (Kd.dV (Kd.cO (ok':=fun k_=>(w.heap.size≤k_)) ho0 (fun k_ hk_=>Or.elim hk_ (fun hs_=>((fM.out).1 k_ hs_.symm)) (fun hn_=>(Nat.le_trans (zS HB) hn_)))) (zS HB));replace fM:=zRb fM hb;replace HB:=zBs HB hb;clear hb ho0)))
 ·go_loopg [8,26] k1 (fun kq v8 v26 w' => ∃ (nT:List Int) (OE:Int) (EW:Int),v8=.int .u64 OE∧v26=.int .i64 EW∧ae (dI.l1 kq l1 nT yh (rd l0 yh) OE l0 (l0.length:Int) yh l1 (l1.length:Int) EW=some r)∧ae (kq≤k1)∧ae (Kd.R (Kd.int .u64) 25 w' w.heap.size (fun k_=>(w.heap.size≤k_)) avf nT)∧ae (Below w.heap.size w w'))
  case atStart=>exact⟨(ig),(0),(0),z1,z1,H,zL,⟨zR fM⟩,⟨zB HB⟩⟩
  clear H
  try clear hx2
  try clear Ih
  obtain⟨nT,OE,EW,rfl,rfl,H,HK2,fM,HB⟩:=hrel;obtain _|k2:=gk
  ·exact zz H rfl
  simp only[dI.l1]at H;replace H:=zsd H;rcases H with⟨qK,H⟩|⟨qK,H⟩;replace H:=zid H;obtain⟨qO,H⟩:=H;replace H:=zid H;obtain⟨qo,H⟩:=H;generalize UY:(wrap64 (yh+EW):Int)=Kz at H;have ah1:(IntKind.i64.wrap (yh+EW))=Kz:=(cu _).trans UY;replace H:=zid H;obtain⟨uS,H⟩:=H;replace H:=zid H;obtain⟨H9,H⟩:=H;replace H:=zo H;obtain⟨⟨t208,az8⟩,A17,H⟩:=H
  try dsimp only at H
  generalize ah2:(nT.set ((Kz):Int).toNat t208:List Int)=avh at H;have aov:=zY ah2;clear ah2;have aow:0≤(EW:Int):=zD;have aox:EW<(l1.length:Int):=zD;obtain⟨az9,e206,Mc⟩:=Kd.dQ HR1.out EW aow aox
  cases e206
  replace Mc:=(HB.out.cell (World.block_lt_of_cell? w _ Mc)).trans Mc;replace aow:=eq_true aow;replace aox:=eq_true aox;obtain⟨YG,OD,afd⟩:=Kd.dZ fM.out;subst afd;obtain⟨aHV,aHW,aoy,rfl,adh⟩:=zA (Kd.dQ (Kd.aA fM.out).2.2 (Kz));rotate_left;generalize aoz:(wrap64 (yh+(l1.length:Int)):Int)=adi at H;have avi:(IntKind.i64.wrap (yh+(l1.length:Int)))=adi:=(cu _).trans aoz;replace H:=zid H;obtain⟨LP,H⟩:=H;replace H:=zid H;obtain⟨LQ,H⟩:=H;generalize ah3:(nT.set ((adi):Int).toNat OE:List Int)=avj at H;have aoA:=zY ah3;clear ah3;have p25:0≤((adi):Int):=zD;have q25:((adi):Int)<((nT.length:Int):Int):=zD;obtain⟨aoB,aoC,ah4,avk,aAa,aHX,avl⟩:=Kd.oH fM.out (by omega)
  (first|cases ah4|(injection ah4 with ea_ en_ ec_;(first|subst ea_|(injection ea_ with ea_;subst ea_));subst ec_;clear en_))
  have aAb:=am avk;have aHY:=am avl;clear avk aAa avl;obtain⟨avm,avn⟩:=Kd.iQ 0 fM.out ((adi):Int) p25 q25;replace p25:=eq_true p25;replace q25:=eq_true q25;have aoD:=Kd.mM fM.out ((adi):Int) OE;rotate_left
  all_goals (go_wp2_with (first|((with_reducible refine af (f:=166) rfl ?_);refine jS (some 45) rfl rfl Tryz.func166 (by kernel_rfl) rfl #[.int .u64 (rd l0 yh),.int .u64 (rd l1 EW),.int .u64 (rd nT (Kz)),.int .u64 OE] rfl (by (try simp only[List.map_toArray,List.map_cons,List.map_nil]);first|done|(simp only[UY];rfl)|rfl|(simp only[List.length_drop,List.length_take];rfl)) ?_;(with_reducible refine (oW.calls _ _ _ _ _ _ _ A17.out).mono ?_);rintro e w' ⟨rfl,⟨nd,rfl⟩⟩;refine⟨_,rfl,?_⟩;(try (rw[fZ wr];generalize hq_:World.drewN wr _=wr;have n0_:ae (Kd.R (Kd.int .u64) 25 wr w.heap.size (fun k_=>(w.heap.size≤k_)) (.slice (some aoy) nT.length OD) nT):=⟨by rw[← hq_];exact (zR fM)⟩;have n1_:ae (Below w.heap.size w wr):=⟨by rw[← hq_];exact (zB HB)⟩;clear fM HB hq_;have fM:=n0_;have HB:=n1_;clear n0_ n1_));have p18:0≤((Kz):Int):=zD;have q18:((Kz):Int)<((nT.length:Int):Int):=zD;obtain⟨alz,rZ,LW,ah5,aoE,aAc,ah6⟩:=Kd.oH fM.out (by omega);(first|cases LW|(injection LW with ea_ en_ ec_;(first|subst ea_|(injection ea_ with ea_;subst ea_));subst ec_;clear en_));have avo:=am ah5;have aAd:=am ah6;clear ah5 aoE ah6;(first|simp only[add_plain]at adh|skip);obtain⟨ah7,ah8⟩:=Kd.iQ 0 fM.out ((Kz):Int) p18 q18;replace p18:=eq_true p18;replace q18:=eq_true q18;obtain⟨aAe,aAf⟩:=Kd.iQ 0 fM.out ((Kz):Int) (zD) (zD);have adk:=Kd.mM fM.out ((Kz):Int) t208)|((with_reducible refine fV (t:=25) (p:=48) rfl ?_);refine ed (t:=25) (p:=48) (v:=?avp) (w1:=(wr.setCell ⟨alz,((Kz):Int).toNat,none⟩ (.int .u64 t208))) ?hg ?ho ?hn ?hr ?_;(case ho=>rfl);(case hg=>rfl);(case hn=>rfl);(case hr=>first|(go_simp;done)|(go_simp;rfl));intro w21 hw;have hg:wr.grownBy w21 (some alz):=(by rw[hw];exact adk.2);have hp_:Kd.R (Kd.int .u64) 25 w21 w.heap.size (fun k_=>(w.heap.size≤k_)) (.slice (some ⟨alz,0,none⟩) nT.length OD) avh:=(by rw[hw,aov.out];exact adk.1);clear adk;replace fM:=am (hp_);replace HB:=am ((by rw[hw];exact bQ (HB.out) avo.out:Below w.heap.size w w21));clear hg hw hp_)|((with_reducible refine fV (t:=25) (p:=56) rfl ?_);refine ed (t:=25) (p:=56) (v:=?avq) (w1:=(wr.setCell ⟨aoB,((adi):Int).toNat,none⟩ (.int .u64 OE))) ?hg ?ho ?hn ?hr ?_;(case ho=>rfl);(case hg=>rfl);(case hn=>rfl);(case hr=>first|(go_simp;done)|(go_simp;rfl));intro w27 hw;have hg:wr.grownBy w27 (some aoB):=(by rw[hw];exact aoD.2);have hp_:Kd.R (Kd.int .u64) 25 w27 w.heap.size (fun k_=>(w.heap.size≤k_)) (.slice (some ⟨aoB,0,none⟩) nT.length aoC) avj:=(by rw[hw,aoA.out];exact aoD.1);clear aoD;replace fM:=am (hp_);replace HB:=am ((by rw[hw];exact bQ (HB.out) aAb.out:Below w.heap.size w w27));clear hg hw hp_)))
  ·go_roundg k2
   case measure=>have:=HK1.out;have:=HK2.out;omega
   case rel=>exact⟨(avh),(az8),(wrap64 (EW+1)),z1,z1,H,⟨by have:=HK1.out;have:=HK2.out;omega⟩,⟨zR fM⟩,⟨zB HB⟩⟩
  go_roundg k2
  case measure=>have:=HK1.out;have:=HK2.out;omega
  case rel=>exact⟨(avj),(wrap64 (yh+1)),z1,H,⟨by have:=HK1.out;have:=HK2.out;omega⟩,⟨zR fM⟩,⟨zB HB⟩⟩
 go_ret
 exact⟨_,by first|exact z3|(simp only[← ED];exact z3)|exact z2,zV aou,zB HB⟩
mutual
def iI.l0:Nat→Int→List Int→Option (List Int × Option Int)
  | 0,_,_=>none
  | k+1,x0,x4=>if x0≥19 then ((dI.f k x4 (([10000000000000000000]:List Int))).bind fun t218=>(iI.l0 k (wrap64 (x0-19)) t218)) else (iI.l1 k x0 x4)
def iI.l1:Nat→Int→List Int→Option (List Int × Option Int)
  | 0,_,_=>none
  | k+1,x0,x4=>if x0 > 0 then ((dI.f k x4 (([10]:List Int))).bind fun aoF=>(iI.l1 k (wrap64 (x0-1)) aoF)) else (some (x4,none))
end
def iI.f (k:Nat)(a0:Int):Option (List Int × Option Int):=if a0<0 then (none) else (if a0 > 16384 then (none) else (iI.l0 k a0 (([1]:List Int))))
theorem iI.calls (k:Nat)(a0:Int)(r1:List Int)(r2:Option Int)(w:World)(h:iI.f k a0=some (r1,r2)) :
    Calls Tryz.prog 51 #[.int .i64 a0] w fun e w' => ∃ v0_:Value,e=.returned (.tuple #[v0_,rF r2])∧Kd.V (Kd.int .u64) 25 w' w.heap.size (fun k_=>(w.heap.size≤k_)) v0_ r1∧Below w.heap.size w w':=by
 have yB:=Tryz.underlying27;have hu64:=Tryz.underlying64;have HB:=am (Below.refl w.heap.size w);have H:=am h;unfold iI.f at H;clear h;replace H:=zjd H;obtain⟨ry,H⟩:=H;replace H:=auj H;obtain⟨pI,H⟩:=H;generalize ah9:(([1]:List Int):List Int)=aAg at H;have aia:=zY ah9;clear ah9
 go_enter Tryz.func51,Tryz.ntmps51
 go_wp2_with (first|((with_reducible refine aI (N:=11) rfl ?_);refine Kd.Bq (Kd.int .u64) _ 25 ?hg (N:=11) ?hd (xs:=([1]:List Int)) (inner := [.int .u64 1]) (ok:=fun _=>True) (okp:=fun _=>True) ?hr ?hp (fun _ hk=>hk) trivial (Below.refl _ _) (Nat.le_refl _) (by simp) ?_;(case hd=>rfl);(case hg=>rfl);(case hr=>first|(go_simp;done)|(go_simp;rfl));(case hp=>exact (jW.one (show Kd.M (Kd.int .u64) _ _ _ 1 [.int .u64 1] from rfl) (jW.none _ _)));intro aHZ w4 ho5 hb hg_ ku;clear hg_ ku;(first|rw[← aia.out]at ho5|(simp only[Int.reduceToNat]at ho5;rw[← aia.out]at ho5));have aoG:=am (Kd.eu (Kd.oI (M:=fun k_=>(w.heap.size≤k_)) ho5 (zS HB) (fun k_ h_=>h_)) (zS HB));replace HB:=zBs HB hb;clear hb ho5))
 go_loopg [0,4] k (fun kq v0 v4 w' => ∃ (mD:Int) (nO:List Int),v0=.int .i64 mD∧ae (iI.l0 kq mD nO=some (r1,r2))∧ae (kq≤k)∧ae (Kd.V (Kd.int .u64) 25 w' w.heap.size (fun k_=>(w.heap.size≤k_)) v4 nO)∧ae (Below w.heap.size w w'))
 case atStart=>exact⟨(a0),(aAg),z1,H,zL,⟨Kd.R_V (by (with_reducible repeat (first|apply Kd.dh|apply Kd.df|apply Kd.dJ));exact Kd.dw aoG.out (fun _ hk=>hk.1))⟩,⟨zB HB⟩⟩
 clear H;obtain⟨mD,nO,rfl,H,HK1,zW,HB⟩:=hrel;obtain _|k1:=gk
 ·exact zz H rfl
 simp only[iI.l0]at H;replace H:=yH H;rcases H with⟨qm,H⟩|⟨qm,H⟩;generalize aib:(([10000000000000000000]:List Int):List Int)=avr at H;have aic:=zY aib;clear aib;replace H:=zo H;obtain⟨t218,A7,H⟩:=H;rotate_left;rotate_left
 all_goals (go_wp2_with (first|((with_reducible refine aI (N:=17) rfl ?_);refine Kd.Bq (Kd.int .u64) _ 25 ?hg (N:=17) ?hd (xs:=([10000000000000000000]:List Int)) (inner := [.int .u64 10000000000000000000]) (ok:=fun _=>True) (okp:=fun _=>True) ?hr ?hp (fun _ hk=>hk) trivial (Below.refl _ _) (Nat.le_refl _) (by simp) ?_;(case hd=>rfl);(case hg=>rfl);(case hr=>first|(go_simp;done)|(go_simp;rfl));(case hp=>exact (jW.one (show Kd.M (Kd.int .u64) _ _ _ 10000000000000000000 [.int .u64 10000000000000000000] from rfl) (jW.none _ _)));intro aH0 w8 ho9 hb hg_ ku;clear hg_ ku;(first|rw[← aic.out]at ho9|(simp only[Int.reduceToNat]at ho9;rw[← aic.out]at ho9));replace zW:=am (Kd.jG (zV zW) (Kd.gm ho9) hb);have Qa:=am (Kd.eu (Kd.oI (M:=fun k_=>(w.heap.size≤k_)) ho9 (zS HB) (fun k_ h_=>h_)) (zS HB));replace HB:=zBs HB hb;clear hb ho9;obtain⟨aoH,alA,afi⟩:=Kd.fJ zW.out;subst afi;obtain⟨aak,YB,YC⟩:=Kd.dZ Qa.out;subst YC)|((with_reducible refine af (f:=107) rfl ?_);refine zc (some 18) Tryz.func107 #[.slice aoH nO.length alA,.slice aak avr.length YB] (dI.calls _ _ _ _ _ _ _ _ _ (zC ((Kd.bf zW.out).2.2)) ((Kd.bf zW.out).2.1) (zC ((Kd.aA Qa.out).2.2)) ((Kd.aA Qa.out).2.1) A7.out) ?_;rintro e w12 ⟨aH1,rfl,ho0,hb⟩;refine⟨_,rfl,?_⟩;replace zW:=zVb zW hb;have aoI:=am (Kd.dV (Kd.cO (ok':=fun k_=>(w.heap.size≤k_)∧some k_≠(.slice aak avr.length YB:Value).ownBlock) ho0 (fun k_ hk_=>⟨(Nat.le_trans (zS HB) hk_),(Kd.fresh' (Kd.ql (zR Qa)) k_ hk_)⟩)) (zS HB));replace Qa:=zRb Qa hb;replace HB:=zBs HB hb;clear hb ho0)))
 ·go_roundg k1
  case measure=>have:=HK1.out;omega
  case rel=>exact⟨(wrap64 (mD-19)),(t218),z1,H,(zH HK1),⟨by (with_reducible repeat (first|apply Kd.jJ|apply Kd.jK|apply Kd.jq));exact Kd.cO aoI.out (fun _ hk=>hk.1)⟩,⟨zB HB⟩⟩
 go_loopg [0,4] k1 (fun kq v0 v4 w' => ∃ (ji:Int) (QK:List Int),v0=.int .i64 ji∧ae (iI.l1 kq ji QK=some (r1,r2))∧ae (kq≤k1)∧ae (Kd.V (Kd.int .u64) 25 w' w.heap.size (fun k_=>(w.heap.size≤k_)) v4 QK)∧ae (Below w.heap.size w w'))
 case atStart=>exact⟨(mD),(nO),z1,H,zL,⟨zV zW⟩,⟨zB HB⟩⟩
 clear H;obtain⟨ji,QK,rfl,H,HK2,zW,HB⟩:=hrel;obtain _|k2:=gk
 ·exact zz H rfl
 simp only[iI.l1]at H;replace H:=AV H;rcases H with⟨qo,H⟩|⟨qo,H⟩;generalize aid:(([10]:List Int):List Int)=avs at H;have aie:=zY aid;clear aid;replace H:=zo H;obtain⟨aoF,A14,H⟩:=H;rotate_left;obtain⟨rfl,rfl⟩:=zJ2 H;rotate_left
 all_goals (go_wp2_with (first|((with_reducible refine aI (N:=24) rfl ?_);refine Kd.Bq (Kd.int .u64) _ 25 ?hg (N:=24) ?hd (xs:=([10]:List Int)) (inner := [.int .u64 10]) (ok:=fun _=>True) (okp:=fun _=>True) ?hr ?hp (fun _ hk=>hk) trivial (Below.refl _ _) (Nat.le_refl _) (by simp) ?_;(case hd=>rfl);(case hg=>rfl);(case hr=>first|(go_simp;done)|(go_simp;rfl));(case hp=>exact (jW.one (show Kd.M (Kd.int .u64) _ _ _ 10 [.int .u64 10] from rfl) (jW.none _ _)));intro v222 w15 afj hb hg_ ku;clear hg_ ku;(first|rw[← aie.out]at afj|(simp only[Int.reduceToNat]at afj;rw[← aie.out]at afj));replace zW:=am (Kd.jG (zV zW) (Kd.gm afj) hb);have Qb:=am (Kd.eu (Kd.oI (M:=fun k_=>(w.heap.size≤k_)) afj (zS HB) (fun k_ h_=>h_)) (zS HB));replace HB:=zBs HB hb;clear hb afj;obtain⟨aAh,WG,acY⟩:=Kd.fJ zW.out;subst acY;obtain⟨JY,rZ,LW⟩:=Kd.dZ Qb.out;subst LW)|((with_reducible refine af (f:=107) rfl ?_);refine zc (some 25) Tryz.func107 #[.slice aAh QK.length WG,.slice JY avs.length rZ] (dI.calls _ _ _ _ _ _ _ _ _ (zC ((Kd.bf zW.out).2.2)) ((Kd.bf zW.out).2.1) (zC ((Kd.aA Qb.out).2.2)) ((Kd.aA Qb.out).2.1) A14.out) ?_;rintro e w19 ⟨aH2,rfl,ho0,hb⟩;refine⟨_,rfl,?_⟩;replace zW:=zVb zW hb;have aoJ:=am (Kd.dV (Kd.cO (ok':=fun k_=>(w.heap.size≤k_)∧some k_≠(.slice JY avs.length rZ:Value).ownBlock) ho0 (fun k_ hk_=>⟨(Nat.le_trans (zS HB) hk_),(Kd.fresh' (Kd.ql (zR Qb)) k_ hk_)⟩)) (zS HB));replace Qb:=zRb Qb hb;replace HB:=zBs HB hb;clear hb ho0)))
 ·go_roundg k2
  case measure=>have:=HK1.out;have:=HK2.out;omega
  case rel=>exact⟨(wrap64 (ji-1)),(aoF),z1,H,⟨by have:=HK1.out;have:=HK2.out;omega⟩,⟨by (with_reducible repeat (first|apply Kd.jJ|apply Kd.jK|apply Kd.jq));exact Kd.cO aoJ.out (fun _ hk=>hk.1)⟩,⟨zB HB⟩⟩
 go_ret2
 exact⟨_,z2,zV zW,zB HB⟩
end Go.Proofs.Yy.PTx
end
