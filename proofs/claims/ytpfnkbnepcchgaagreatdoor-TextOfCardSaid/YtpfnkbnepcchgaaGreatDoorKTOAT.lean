/- Part 20. -/
import Derived.Test.YtpfnkbnepcchgaaGreatDoorKTOAS
set_option linter.unusedSimpArgs false
set_option linter.unusedVariables false
section
set_option maxHeartbeats 8000000
set_option maxRecDepth 100000
namespace Go.Proofs.Yy.PTx
open Go.RowKit Go.Proofs.Yy.Z Go.Proofs.Yw.PrintWords Go.Proofs.Yw.PrintLast Go.Proofs.Yw.PrintMore
open Go.Proofs.Yy.M
attribute [local go_sem] dP eU lV lX lW lU
attribute [local go_sem] iq ik jE jD gu gq iE iD
def aV.l0:Nat→List Int→Int→Option (List Int)
  | 0,_,_=>none
  | k+1,x0,x3=>if x3 > 0 then (if 0≤(wrap64 (x3-1)) then (if (wrap64 (x3-1))<(x0.length:Int) then (if (rd x0 (wrap64 (x3-1)))=0 then (aV.l0 k x0 (wrap64 (x3-1))) else (if 0≤x3 then (if x3≤(x0.length:Int) then (some (x0.take (x3:Int).toNat)) else (none)) else (none))) else (none)) else (none)) else (if 0≤x3 then (if x3≤(x0.length:Int) then (some (x0.take (x3:Int).toNat)) else (none)) else (none))
def aV.f (k:Nat)(l0:List Int):Option (List Int):=aV.l0 k l0 (l0.length:Int)
theorem aV.calls (k:Nat)(P0_:Nat→Prop)(lD:Value)(l0:List Int)(r:List Int)(w0 w:World)(hB:Below w0.heap.size w0 w)(ho0:Kd.R (Kd.int .i64) 3 w w0.heap.size P0_ lD l0)(h:aV.f k l0=some r) :
    Calls Tryz.prog 141 #[lD] w fun e w' => ∃ v0_:Value,e=.returned (v0_)∧Kd.R (Kd.int .i64) 3 w' w0.heap.size (fun k_=>(P0_ k_∨w.heap.size≤k_)) v0_ r∧Below w0.heap.size w0 w'∧Kept w w' (fun k_=>P0_ k_):=by
 have HO0:=am (show Kd.R (Kd.int .i64) 3 w w0.heap.size (fun k_=>(P0_ k_∨w.heap.size≤k_)) lD l0 from Kd.dm ho0 (fun k_ hk=>(.inl hk)));have HK:=am (Kept.refl w (fun k_=>P0_ k_));have HW0:=am hB.size;have HB:=am hB;clear hB;have H:=am h;unfold aV.f at H;clear h;obtain⟨Ao2,co2,eo2⟩:=Kd.dU HO0.out;subst eo2
 go_enter Tryz.func141,Tryz.ntmps141
 go_wp2
 go_loopg [3] k (fun kq v3 w' => ∃ (iy:Int),v3=.int .i64 iy∧ae (aV.l0 kq l0 iy=some r)∧ae (kq≤k)∧ae (Kd.R (Kd.int .i64) 3 w' w0.heap.size (fun k_=>(P0_ k_∨w.heap.size≤k_)) (.slice Ao2 l0.length co2) l0)∧ae (Kept w w' (fun k_=>P0_ k_))∧ae (Below w0.heap.size w0 w'))
 case atStart=>exact⟨((l0.length:Int)),z1,H,zL,⟨zR HO0⟩,⟨by repeat (first|(with_reducible first|exact HK.out|apply Kept.alloc|apply Kept.drewN|apply Kept.drew)|exact HK.out)⟩,⟨zB HB⟩⟩
 clear H;obtain⟨iy,rfl,H,HK1,jF,HK,HB⟩:=hrel;obtain _|k1:=gk
 ·exact zz H rfl
 simp only[aV.l0]at H;replace H:=AV H;rcases H with⟨pK,H⟩|⟨pK,H⟩;generalize BX:(wrap64 (iy-1):Int)=ji4 at H;have U4:(IntKind.i64.wrap (iy-1))=ji4:=(bW _).trans BX;replace H:=zid H;obtain⟨qN,H⟩:=H;replace H:=zid H;obtain⟨qV,H⟩:=H;replace H:=zsk H;rcases H with⟨yE,DJ,H⟩|⟨yE,DJ,c7,H⟩;obtain⟨aET,aEU,ajV,rfl,aeo⟩:=zA (Kd.dQ (Kd.az jF.out).2.2 (ji4));rotate_left;replace H:=zit H;obtain⟨uz,Ey,H⟩:=H;replace H:=zit H;obtain⟨vF,BD,H⟩:=H;generalize ajW:(l0.take (iy:Int).toNat:List Int)=aEV at H;have ajX:=zY ajW;clear ajW;obtain rfl:=Option.some.inj H.out;obtain⟨aET,aEU,ajV,rfl,aeo⟩:=zA (Kd.dQ (Kd.az jF.out).2.2 (ji4));have q10:(iy:Int)≤((l0.length:Int):Int):=zD;obtain⟨aEW,WN,_,Zu,_⟩:=info_parts info3;have WO:=Oz (P:=Tryz.prog) 70 3 .i64 Tryz.underlying70 WN (some ajV) l0.length co2 iy (zD) q10 (Kd.az jF.out).2.1;have Xo:=Kd.ZY (m:=(iy:Int).toNat) jF.out (by omega)
 have aep:aEV.length=(iy:Int).toNat:=(by rw[ajX.out,List.length_take];omega)
 rw[← ajX.out]at Xo;rw[← aep]at Xo WO;clear aep WN Zu jF;have ash:=am Xo;clear Xo;replace q10:=eq_true q10;rotate_left;replace H:=zit H;obtain⟨qJ,zM,H⟩:=H;replace H:=zit H;obtain⟨pM,uQ,H⟩:=H;generalize ajY:(l0.take (iy:Int).toNat:List Int)=aEX at H;have ajZ:=zY ajY;clear ajY;obtain rfl:=Option.some.inj H.out;have q13:(iy:Int)≤((l0.length:Int):Int):=zD;obtain⟨aKy,aj0,_,asi,_⟩:=info_parts info3;have aj1:=Oz (P:=Tryz.prog) 70 3 .i64 Tryz.underlying70 aj0 Ao2 l0.length co2 iy (zD) q13 (Kd.az jF.out).2.1;have aln:=Kd.ZY (m:=(iy:Int).toNat) jF.out (by omega)
 have axy:aEX.length=(iy:Int).toNat:=(by rw[ajZ.out,List.length_take];omega)
 rw[← ajZ.out]at aln;rw[← axy]at aln aj1;clear axy aj0 asi jF;have asj:=am aln;clear aln;replace q13:=eq_true q13;rotate_left
 all_goals (go_wp2)
 ·go_roundg k1
  case measure=>have:=HK1.out;omega
  case rel=>exact⟨(ji4),(by first|rfl|(simp;done)|(simp only[← BX] <;> (first|rfl|simp))|(simp[*];done)),H,(zH HK1),⟨zR jF⟩,⟨by repeat (first|(with_reducible first|exact HK.out|apply Kept.alloc|apply Kept.drewN|apply Kept.drew)|exact HK.out)⟩,⟨zB HB⟩⟩
 ·go_ret
  exact⟨_,by first|exact z3|(simp only[← BX];exact z3)|exact z2,zR ash,zB HB,by repeat (first|(with_reducible first|exact HK.out|apply Kept.alloc|apply Kept.drewN|apply Kept.drew)|exact HK.out)⟩
 go_ret
 exact⟨_,z2,zR asj,zB HB,by repeat (first|(with_reducible first|exact HK.out|apply Kept.alloc|apply Kept.drewN|apply Kept.drew)|exact HK.out)⟩
mutual
def aC.j0:Nat→List Int→List Int→Bool→Option (List Int)
  | 0,_,_,_=>none
  | k+1,x0,x1,x17=>if x17=true then (some ([]:List Int)) else (if 0≤(wrap64 ((x0.length:Int)+(x1.length:Int))) then (if (wrap64 ((x0.length:Int)+(x1.length:Int)):Int).toNat≤35184372088832 then (aC.l0 k x0 x1 (List.replicate (wrap64 ((x0.length:Int)+(x1.length:Int)):Int).toNat 0) 0) else (none)) else (none))
def aC.l0:Nat→List Int→List Int→List Int→Int→Option (List Int)
  | 0,_,_,_,_=>none
  | k+1,x0,x1,x5,x6=>if x6<(x0.length:Int) then (aC.l1 k x0 x1 x5 x6 0 0) else ((aV.f k x5).bind fun alo=>(some alo))
def aC.l1:Nat→List Int→List Int→List Int→Int→Int→Int→Option (List Int)
  | 0,_,_,_,_,_,_=>none
  | k+1,x0,x1,x5,x6,x7,x8=>if x8<(x1.length:Int) then (if 0≤(wrap64 (x6+x8)) then (if (wrap64 (x6+x8))<(x5.length:Int) then (if 0≤x6 then (if x6<(x0.length:Int) then (if 0≤x8 then (aC.l1 k x0 x1 (x5.set ((wrap64 (x6+x8)):Int).toNat (Int.tmod (wrap64 ((wrap64 ((rd x5 (wrap64 (x6+x8)))+(wrap64 ((rd x0 x6)*(rd x1 x8)))))+x7)) 16777216)) x6 (wrap64 (Int.tdiv (wrap64 ((wrap64 ((rd x5 (wrap64 (x6+x8)))+(wrap64 ((rd x0 x6)*(rd x1 x8)))))+x7)) 16777216)) (wrap64 (x8+1))) else (none)) else (none)) else (none)) else (none)) else (none)) else (if 0≤(wrap64 (x6+(x1.length:Int))) then (if (wrap64 (x6+(x1.length:Int)))<(x5.length:Int) then (aC.l0 k x0 x1 (x5.set ((wrap64 (x6+(x1.length:Int))):Int).toNat x7) (wrap64 (x6+1))) else (none)) else (none))
end
def aC.f (k:Nat)(l0:List Int)(l1:List Int):Option (List Int):=if (l0.length:Int)=0 then (aC.j0 k l0 l1 true) else (aC.j0 k l0 l1 ((l1.length:Int) == 0))
theorem aC.calls (k:Nat)(A0:Option Addr)(c0:Nat)(l0:List Int)(A1:Option Addr)(c1:Nat)(l1:List Int)(r:List Int)(w:World)(hr0:Kd.C (Kd.int .i64) w A0 l0.length l0)(hc0:l0.length≤c0)(hr1:Kd.C (Kd.int .i64) w A1 l1.length l1)(hc1:l1.length≤c1)(h:aC.f k l0 l1=some r) :
    Calls Tryz.prog 86 #[.slice A0 l0.length c0,.slice A1 l1.length c1] w fun e w' => ∃ v0_:Value,e=.returned (v0_)∧Kd.R (Kd.int .i64) 3 w' w.heap.size (fun _=>True) v0_ r∧Below w.heap.size w w':=by
 have HR0:=am hr0;have HC0:=am hc0;clear hr0 hc0;have HR1:=am hr1;have HC1:=am hc1;clear hr1 hc1;have HB:=am (Below.refl w.heap.size w);have H:=am h;unfold aC.f at H;clear h
 go_enter Tryz.func86,Tryz.ntmps86
 go_upto_region 1 with (fail)
 repeat (go_quiet (fail);go_upto_region 1 with (fail))
 go_cut [17] (fun v17 wc => ∃ (kq:Nat) (Io:Bool),v17=.bool Io∧ae (aC.j0 kq l0 l1 Io=some r)∧ae (kq≤k)∧ae (Below w.heap.size w wc))
 case first =>
  replace H:=zsk H;rcases H with⟨jV,rZ,H⟩|⟨jV,rZ,c4,H⟩
  (first|rw[jV]|(simp only[bW,fV];rw[jV])|rw[rZ]|skip)
  rotate_left;have aKz:¬ (l0=[]):=fun h_=>c4 (by rw[h_];rfl)
  (first|rw[jV]|(simp only[bW,fV];rw[jV])|rw[rZ]|skip)
  rotate_left
  all_goals (go_wp2;repeat (go_quiet (fail);try go_wp2))
  ·go_meet
   case rel=>exact⟨_,(true),z1,H,⟨z5⟩,⟨zB HB⟩⟩
  go_meet
  case rel=>exact⟨_,(((l1.length:Int) == 0)),z1,H,⟨z5⟩,⟨zB HB⟩⟩
 case rest =>
  obtain⟨kq,Io,rfl,H,HJ2,HB⟩:=hcut;obtain _|kj2:=kq
  ·exact zz H rfl
  simp only[aC.j0]at H
  cases Io
  ·replace H:=zb0 H
   generalize uS:(wrap64 ((l0.length:Int)+(l1.length:Int)):Int)=ji6 at H;have Vk:(IntKind.i64.wrap ((l0.length:Int)+(l1.length:Int)))=ji6:=(bW _).trans uS;replace H:=zit H;obtain⟨yE,DJ,H⟩:=H;replace H:=zit H;obtain⟨uz,Ey,H⟩:=H;generalize aj2:(List.replicate (ji6:Int).toNat 0:List Int)=aEY at H;have QX:=zY aj2;clear aj2
   go_wp2_with (first|((with_reducible refine aA (N:=23) rfl ?_);(try (refine nS (by rfl) ?_;dsimp only));refine Kd.wE (Kd.int .i64) _ 3 rfl (N:=23) rfl 70 _ _ rfl ji6 (by first|rfl|(simp only[List.length_drop,List.length_take];rfl)) (by first|rfl|(simp only[List.length_drop,List.length_take];rfl)) Tryz.underlying70 (.int .i64 0) 8 info3 rfl (by decide) (by omega) 0 (ok:=fun _=>True) (okp:=fun _=>True) rfl (fun _ hk=>hk) trivial (zD) (Nat.le_trans (Nat.mul_le_mul_right _ (zD:ji6.toNat≤35184372088832)) (by omega)) (Below.refl _ _) (Nat.le_refl _) ?_;intro alp w9 BH hb hg_ jO;clear hg_ jO;(first|rw[← QX.out]at BH|(simp only[Int.reduceToNat]at BH;rw[← QX.out]at BH));have aeq:=am (Kd.dZ BH (zS HB));replace HB:=zBs HB hb;clear hb BH))
   repeat (go_quiet (first|((with_reducible refine aA (N:=23) rfl ?_);(try (refine nS (by rfl) ?_;dsimp only));refine Kd.wE (Kd.int .i64) _ 3 rfl (N:=23) rfl 70 _ _ rfl ji6 (by first|rfl|(simp only[List.length_drop,List.length_take];rfl)) (by first|rfl|(simp only[List.length_drop,List.length_take];rfl)) Tryz.underlying70 (.int .i64 0) 8 info3 rfl (by decide) (by omega) 0 (ok:=fun _=>True) (okp:=fun _=>True) rfl (fun _ hk=>hk) trivial (zD) (Nat.le_trans (Nat.mul_le_mul_right _ (zD:ji6.toNat≤35184372088832)) (by omega)) (Below.refl _ _) (Nat.le_refl _) ?_;intro alp w9 BH hb hg_ jO;clear hg_ jO;(first|rw[← QX.out]at BH|(simp only[Int.reduceToNat]at BH;rw[← QX.out]at BH));have n0_:=am (Kd.dZ BH (zS HB));have n1_:=zBs HB hb;clear HB;have aeq:=n0_;have HB:=n1_;clear n0_ n1_;clear hb BH));try go_wp2_with (first|((with_reducible refine aA (N:=23) rfl ?_);(try (refine nS (by rfl) ?_;dsimp only));refine Kd.wE (Kd.int .i64) _ 3 rfl (N:=23) rfl 70 _ _ rfl ji6 (by first|rfl|(simp only[List.length_drop,List.length_take];rfl)) (by first|rfl|(simp only[List.length_drop,List.length_take];rfl)) Tryz.underlying70 (.int .i64 0) 8 info3 rfl (by decide) (by omega) 0 (ok:=fun _=>True) (okp:=fun _=>True) rfl (fun _ hk=>hk) trivial (zD) (Nat.le_trans (Nat.mul_le_mul_right _ (zD:ji6.toNat≤35184372088832)) (by omega)) (Below.refl _ _) (Nat.le_refl _) ?_;intro alp w9 BH hb hg_ jO;clear hg_ jO;(first|rw[← QX.out]at BH|(simp only[Int.reduceToNat]at BH;rw[← QX.out]at BH));have n0_:=am (Kd.dZ BH (zS HB));have n1_:=zBs HB hb;clear HB;have aeq:=n0_;have HB:=n1_;clear n0_ n1_;clear hb BH)))
   go_loopg [6] kj2 (fun kq v6 w' => ∃ (nY:List Int) (qW:Int),v6=.int .i64 qW∧ae (aC.l0 kq l0 l1 nY qW=some r)∧ae (kq≤kj2)∧ae (Kd.R (Kd.int .i64) 3 w' w.heap.size (fun _=>True) alp nY)∧ae (Below w.heap.size w w'))
   case atStart=>exact⟨(aEY),(0),z1,H,zL,⟨zR aeq⟩,⟨zB HB⟩⟩
   clear H;obtain⟨nY,qW,rfl,H,HK2,fH,HB⟩:=hrel;obtain _|k2:=gk
   ·exact zz H rfl
   simp only[aC.l0]at H;replace H:=zsd H;rcases H with⟨qJ,H⟩|⟨qJ,H⟩
   ·go_wp2
    repeat (go_quiet (fail);try go_wp2)
    go_loopg [7,8] k2 (fun kq v7 v8 w' => ∃ (EE:List Int) (Gl:Int) (IV:Int),v7=.int .i64 Gl∧v8=.int .i64 IV∧ae (aC.l1 kq l0 l1 EE qW Gl IV=some r)∧ae (kq≤k2)∧ae (Kd.R (Kd.int .i64) 3 w' w.heap.size (fun _=>True) alp EE)∧ae (Below w.heap.size w w'))
    case atStart=>exact⟨(nY),(0),(0),z1,z1,H,zL,⟨zR fH⟩,⟨zB HB⟩⟩
    clear H;obtain⟨EE,Gl,IV,rfl,rfl,H,HK3,fH,HB⟩:=hrel;obtain _|k3:=gk
    ·exact zz H rfl
    simp only[aC.l1]at H;replace H:=zsd H;rcases H with⟨pM,H⟩|⟨pM,H⟩;generalize qO:(wrap64 (qW+IV):Int)=qI at H;have ahV:(IntKind.i64.wrap (qW+IV))=qI:=(bW _).trans qO;replace H:=zid H;obtain⟨wG,H⟩:=H;replace H:=zid H;obtain⟨xZ,H⟩:=H;replace H:=zid H;obtain⟨Dx,H⟩:=H;replace H:=zid H;obtain⟨wF,H⟩:=H;replace H:=zid H;obtain⟨YX,H⟩:=H;generalize aj3:(EE.set ((qI):Int).toNat (Int.tmod (wrap64 ((wrap64 ((rd EE (qI))+(wrap64 ((rd l0 qW)*(rd l1 IV)))))+Gl)) 16777216):List Int)=alq at H;have aer:=zY aj3;clear aj3;obtain⟨aKA,asl,aEZ⟩:=Kd.dU fH.out;subst aEZ;obtain⟨aKB,aKC,aE0,rfl,aes⟩:=zA (Kd.dQ (Kd.az fH.out).2.2 (qI));have asn:0≤(qW:Int):=zD;have aso:qW<(l0.length:Int):=zD;obtain⟨aE1,aE2,Np⟩:=Kd.dQ HR0.out qW asn aso
    cases aE2
    replace Np:=(HB.out.cell (World.block_lt_of_cell? w _ Np)).trans Np;replace asn:=eq_true asn;replace aso:=eq_true aso;have asq:0≤(IV:Int):=zD;have asr:IV<(l1.length:Int):=zD;obtain⟨aE3,aE4,Nq⟩:=Kd.dQ HR1.out IV asq asr
    cases aE4
    replace Nq:=(HB.out.cell (World.block_lt_of_cell? w _ Nq)).trans Nq;replace asq:=eq_true asq;replace asr:=eq_true asr;have p19:0≤((qI):Int):=zD;have q19:((qI):Int)<((EE.length:Int):Int):=zD;obtain⟨Zv,OQ,ae9,axz,aE5,aKD,axA⟩:=Kd.oP fH.out (by omega)
    (first|cases ae9|(injection ae9 with ea_ en_ ec_;(first|subst ea_|(injection ea_ with ea_;subst ea_));subst ec_;clear en_))
    have ass:=am axz;have aKE:=am axA;clear axz aE5 axA
    (first|simp only[add_plain]at aes|skip)
    obtain⟨WP,WQ⟩:=Kd.iR 0 fH.out ((qI):Int) p19 q19;replace p19:=eq_true p19;replace q19:=eq_true q19;have Rw:=Kd.mX fH.out ((qI):Int) (Int.tmod (wrap64 ((wrap64 ((rd EE (qI))+(wrap64 ((rd l0 qW)*(rd l1 IV)))))+Gl)) 16777216);rotate_left;generalize MX:(wrap64 (qW+(l1.length:Int)):Int)=yz at H;have aiQ:(IntKind.i64.wrap (qW+(l1.length:Int)))=yz:=(bW _).trans MX;replace H:=zid H;obtain⟨Me,H⟩:=H;replace H:=zid H;obtain⟨VH,H⟩:=H;generalize aj6:(EE.set ((yz):Int).toNat Gl:List Int)=alr at H;have aet:=zY aj6;clear aj6;have p26:0≤((yz):Int):=zD;have q26:((yz):Int)<((EE.length:Int):Int):=zD;obtain⟨Zw,ae6,ae7,axB,aE6,aKF,axC⟩:=Kd.oP fH.out (by omega)
    (first|cases ae7|(injection ae7 with ea_ en_ ec_;(first|subst ea_|(injection ea_ with ea_;subst ea_));subst ec_;clear en_))
    have ast:=am axB;have aKG:=am axC;clear axB aE6 axC;obtain⟨WR,WS⟩:=Kd.iR 0 fH.out ((yz):Int) p26 q26;replace p26:=eq_true p26;replace q26:=eq_true q26;have KC:=Kd.mX fH.out ((yz):Int) Gl;rotate_left
    all_goals (go_wp2_with (first|((with_reducible refine fO (t:=3) (p:=60) rfl ?_);(try (rw[gI wr];generalize hq_:World.drewN wr _=wr;have n0_:=am (Kd.aeX hq_ fH.out);have n1_:=am (xh hq_ HB.out);clear hq_ fH HB;have fH:=n0_;have HB:=n1_;clear n0_ n1_;(try (obtain⟨WP,WQ⟩:=Kd.iR 0 fH.out ((qI):Int) (of_eq_true p19) (of_eq_true q19)));(try (have Rw:=Kd.mX fH.out ((qI):Int) (Int.tmod (wrap64 ((wrap64 ((rd EE (qI))+(wrap64 ((rd l0 qW)*(rd l1 IV)))))+Gl)) 16777216)))));refine ed (t:=3) (p:=60) (v:=?aaH) (w1:=(wr.setCell ⟨Zv,((qI):Int).toNat,none⟩ (.int .i64 (Int.tmod (wrap64 ((wrap64 ((rd EE (qI))+(wrap64 ((rd l0 qW)*(rd l1 IV)))))+Gl)) 16777216)))) ?hg ?ho ?hn ?hr ?_;(case ho=>rfl);(case hg=>rfl);(case hn=>rfl);(case hr=>first|(go_simp;done)|(go_simp;rfl));intro w22 hw;have hg:wr.grownBy w22 (some Zv):=(by rw[hw];exact Rw.2);have hp_:Kd.R (Kd.int .i64) 3 w22 w.heap.size (fun _=>True) (.slice (some ⟨Zv,0,none⟩) EE.length asl) alq:=(by rw[hw,aer.out];exact Rw.1);clear Rw;replace fH:=am (hp_);replace HB:=am ((by rw[hw];exact bF (HB.out) ass.out:Below w.heap.size w w22));clear hg hw hp_)|((with_reducible refine fO (t:=3) (p:=69) rfl ?_);(try (rw[gI wr];generalize hq_:World.drewN wr _=wr;have n0_:=am (Kd.aeX hq_ fH.out);have n1_:=am (xh hq_ HB.out);clear hq_ fH HB;have fH:=n0_;have HB:=n1_;clear n0_ n1_;(try (obtain⟨WR,WS⟩:=Kd.iR 0 fH.out ((yz):Int) (of_eq_true p26) (of_eq_true q26)));(try (have KC:=Kd.mX fH.out ((yz):Int) Gl))));refine ed (t:=3) (p:=69) (v:=?VA) (w1:=(wr.setCell ⟨Zw,((yz):Int).toNat,none⟩ (.int .i64 Gl))) ?hg ?ho ?hn ?hr ?_;(case ho=>rfl);(case hg=>rfl);(case hn=>rfl);(case hr=>first|(go_simp;done)|(go_simp;rfl));intro w28 hw;have hg:wr.grownBy w28 (some Zw):=(by rw[hw];exact KC.2);have hp_:Kd.R (Kd.int .i64) 3 w28 w.heap.size (fun _=>True) (.slice (some ⟨Zw,0,none⟩) EE.length ae6) alr:=(by rw[hw,aet.out];exact KC.1);clear KC;replace fH:=am (hp_);replace HB:=am ((by rw[hw];exact bF (HB.out) ast.out:Below w.heap.size w w28));clear hg hw hp_)))
    ·repeat (go_quiet (first|((with_reducible refine fO (t:=3) (p:=60) rfl ?_);(try (rw[gI wr];generalize hq_:World.drewN wr _=wr;have n0_:=am (Kd.aeX hq_ fH.out);have n1_:=am (xh hq_ HB.out);clear hq_ fH HB;have fH:=n0_;have HB:=n1_;clear n0_ n1_;(try (obtain⟨WP,WQ⟩:=Kd.iR 0 fH.out ((qI):Int) (of_eq_true p19) (of_eq_true q19)));(try (have Rw:=Kd.mX fH.out ((qI):Int) (Int.tmod (wrap64 ((wrap64 ((rd EE (qI))+(wrap64 ((rd l0 qW)*(rd l1 IV)))))+Gl)) 16777216)))));refine ed (t:=3) (p:=60) (v:=?aaH) (w1:=(wr.setCell ⟨Zv,((qI):Int).toNat,none⟩ (.int .i64 (Int.tmod (wrap64 ((wrap64 ((rd EE (qI))+(wrap64 ((rd l0 qW)*(rd l1 IV)))))+Gl)) 16777216)))) ?hg ?ho ?hn ?hr ?_;(case ho=>rfl);(case hg=>rfl);(case hn=>rfl);(case hr=>first|(go_simp;done)|(go_simp;rfl));intro w22 hw;have hg:wr.grownBy w22 (some Zv):=(by rw[hw];exact Rw.2);have hp_:Kd.R (Kd.int .i64) 3 w22 w.heap.size (fun _=>True) (.slice (some ⟨Zv,0,none⟩) EE.length asl) alq:=(by rw[hw,aer.out];exact Rw.1);clear Rw;have n0_:=am (hp_);have n1_:=am ((by rw[hw];exact bF (HB.out) ass.out:Below w.heap.size w w22));clear fH;clear HB;have fH:=n0_;have HB:=n1_;clear n0_ n1_;clear hg hw hp_));try go_wp2_with (first|((with_reducible refine fO (t:=3) (p:=60) rfl ?_);(try (rw[gI wr];generalize hq_:World.drewN wr _=wr;have n0_:=am (Kd.aeX hq_ fH.out);have n1_:=am (xh hq_ HB.out);clear hq_ fH HB;have fH:=n0_;have HB:=n1_;clear n0_ n1_;(try (obtain⟨WP,WQ⟩:=Kd.iR 0 fH.out ((qI):Int) (of_eq_true p19) (of_eq_true q19)));(try (have Rw:=Kd.mX fH.out ((qI):Int) (Int.tmod (wrap64 ((wrap64 ((rd EE (qI))+(wrap64 ((rd l0 qW)*(rd l1 IV)))))+Gl)) 16777216)))));refine ed (t:=3) (p:=60) (v:=?aaH) (w1:=(wr.setCell ⟨Zv,((qI):Int).toNat,none⟩ (.int .i64 (Int.tmod (wrap64 ((wrap64 ((rd EE (qI))+(wrap64 ((rd l0 qW)*(rd l1 IV)))))+Gl)) 16777216)))) ?hg ?ho ?hn ?hr ?_;(case ho=>rfl);(case hg=>rfl);(case hn=>rfl);(case hr=>first|(go_simp;done)|(go_simp;rfl));intro w22 hw;have hg:wr.grownBy w22 (some Zv):=(by rw[hw];exact Rw.2);have hp_:Kd.R (Kd.int .i64) 3 w22 w.heap.size (fun _=>True) (.slice (some ⟨Zv,0,none⟩) EE.length asl) alq:=(by rw[hw,aer.out];exact Rw.1);clear Rw;have n0_:=am (hp_);have n1_:=am ((by rw[hw];exact bF (HB.out) ass.out:Below w.heap.size w w22));clear fH;clear HB;have fH:=n0_;have HB:=n1_;clear n0_ n1_;clear hg hw hp_)))
     go_roundg k3
     case measure=>have:=HJ2.out;have:=HK2.out;have:=HK3.out;omega
     case rel=>exact⟨(alq),(wrap64 (Int.tdiv (wrap64 ((wrap64 ((rd EE (qI))+(wrap64 ((rd l0 qW)*(rd l1 IV)))))+Gl)) 16777216)),(wrap64 (IV+1)),(by first|rfl|(simp;done)|(simp only[← qO] <;> (first|rfl|simp))|(simp[*];done)),z1,H,⟨by have:=HJ2.out;have:=HK2.out;have:=HK3.out;omega⟩,⟨zR fH⟩,⟨zB HB⟩⟩
    repeat (go_quiet (first|((with_reducible refine fO (t:=3) (p:=69) rfl ?_);(try (rw[gI wr];generalize hq_:World.drewN wr _=wr;have n0_:=am (Kd.aeX hq_ fH.out);have n1_:=am (xh hq_ HB.out);clear hq_ fH HB;have fH:=n0_;have HB:=n1_;clear n0_ n1_;(try (obtain⟨WR,WS⟩:=Kd.iR 0 fH.out ((yz):Int) (of_eq_true p26) (of_eq_true q26)));(try (have KC:=Kd.mX fH.out ((yz):Int) Gl))));refine ed (t:=3) (p:=69) (v:=?VA) (w1:=(wr.setCell ⟨Zw,((yz):Int).toNat,none⟩ (.int .i64 Gl))) ?hg ?ho ?hn ?hr ?_;(case ho=>rfl);(case hg=>rfl);(case hn=>rfl);(case hr=>first|(go_simp;done)|(go_simp;rfl));intro w28 hw;have hg:wr.grownBy w28 (some Zw):=(by rw[hw];exact KC.2);have hp_:Kd.R (Kd.int .i64) 3 w28 w.heap.size (fun _=>True) (.slice (some ⟨Zw,0,none⟩) EE.length ae6) alr:=(by rw[hw,aet.out];exact KC.1);clear KC;have n0_:=am (hp_);have n1_:=am ((by rw[hw];exact bF (HB.out) ast.out:Below w.heap.size w w28));clear fH;clear HB;have fH:=n0_;have HB:=n1_;clear n0_ n1_;clear hg hw hp_));try go_wp2_with (first|((with_reducible refine fO (t:=3) (p:=69) rfl ?_);(try (rw[gI wr];generalize hq_:World.drewN wr _=wr;have n0_:=am (Kd.aeX hq_ fH.out);have n1_:=am (xh hq_ HB.out);clear hq_ fH HB;have fH:=n0_;have HB:=n1_;clear n0_ n1_;(try (obtain⟨WR,WS⟩:=Kd.iR 0 fH.out ((yz):Int) (of_eq_true p26) (of_eq_true q26)));(try (have KC:=Kd.mX fH.out ((yz):Int) Gl))));refine ed (t:=3) (p:=69) (v:=?VA) (w1:=(wr.setCell ⟨Zw,((yz):Int).toNat,none⟩ (.int .i64 Gl))) ?hg ?ho ?hn ?hr ?_;(case ho=>rfl);(case hg=>rfl);(case hn=>rfl);(case hr=>first|(go_simp;done)|(go_simp;rfl));intro w28 hw;have hg:wr.grownBy w28 (some Zw):=(by rw[hw];exact KC.2);have hp_:Kd.R (Kd.int .i64) 3 w28 w.heap.size (fun _=>True) (.slice (some ⟨Zw,0,none⟩) EE.length ae6) alr:=(by rw[hw,aet.out];exact KC.1);clear KC;have n0_:=am (hp_);have n1_:=am ((by rw[hw];exact bF (HB.out) ast.out:Below w.heap.size w w28));clear fH;clear HB;have fH:=n0_;have HB:=n1_;clear n0_ n1_;clear hg hw hp_)))
    go_roundg k3
    case measure=>have:=HJ2.out;have:=HK2.out;have:=HK3.out;omega
    case rel=>exact⟨(alr),(wrap64 (qW+1)),z1,H,⟨by have:=HJ2.out;have:=HK2.out;have:=HK3.out;omega⟩,⟨zR fH⟩,⟨zB HB⟩⟩
   replace H:=zo H;obtain⟨alo,A29,H⟩:=H;obtain rfl:=Option.some.inj H.out;obtain⟨afq,Xp,als⟩:=Kd.dU fH.out;subst als
   go_wp2_with (first|(go_at_call 141;(with_reducible refine (aV.calls _ (fun k_=>some k_=(.slice afq nY.length Xp:Value).ownBlock) (.slice afq nY.length Xp) _ _ w _ ?eu ?kw A29.out).mono ?_);(case eu=>repeat (first|(with_reducible first|exact HB.out|apply bn|apply aJ|apply aW)|exact HB.out));(case kw=>exact Kd.jZ rfl fH.out);rintro e w31 ⟨axD,rfl,ho0,hb,hkp⟩;have aeu:=am (Kd.dm (ok':=fun k_=>True) ho0 (fun k_ hk_=>trivial));replace HB:=am (hb);clear fH hb hkp ho0))
   repeat (go_quiet (first|(go_at_call 141;(with_reducible refine (aV.calls k2 (fun k_=>some k_=(.slice afq nY.length Xp:Value).ownBlock) (.slice afq nY.length Xp) nY alo w _ ?eu ?kw A29.out).mono ?_);(case eu=>repeat (first|(with_reducible first|exact HB.out|apply bn|apply aJ|apply aW)|exact HB.out));(case kw=>exact Kd.jZ rfl fH.out);rintro e w31 ⟨axD,rfl,ho0,hb,hkp⟩;have n0_:=am (Kd.dm (ok':=fun k_=>True) ho0 (fun k_ hk_=>trivial));have n1_:=am (hb);clear HB;clear fH;have aeu:=n0_;have HB:=n1_;clear n0_ n1_;(try clear hb);(try clear hkp);(try clear ho0)));try go_wp2_with (first|(go_at_call 141;(with_reducible refine (aV.calls k2 (fun k_=>some k_=(.slice afq nY.length Xp:Value).ownBlock) (.slice afq nY.length Xp) nY alo w _ ?eu ?kw A29.out).mono ?_);(case eu=>repeat (first|(with_reducible first|exact HB.out|apply bn|apply aJ|apply aW)|exact HB.out));(case kw=>exact Kd.jZ rfl fH.out);rintro e w31 ⟨axD,rfl,ho0,hb,hkp⟩;have n0_:=am (Kd.dm (ok':=fun k_=>True) ho0 (fun k_ hk_=>trivial));have n1_:=am (hb);clear HB;clear fH;have aeu:=n0_;have HB:=n1_;clear n0_ n1_;(try clear hb);(try clear hkp);(try clear ho0))))
   go_ret
   exact⟨_,by first|exact z3|(simp only[← uS];exact z3)|exact z2,zR aeu,zB HB⟩
  replace H:=zb1 H;obtain rfl:=Option.some.inj H.out
  go_wp2
  repeat (go_quiet (fail);try go_wp2)
  go_ret
  exact⟨_,z2,by first|exact Kd.G8 _ _ _ _ _|exact Kd.Yl _ _ _ _ _|exact Kd.Ah _ _ _ _ _|exact Kd.Xy _ _ _ _ _|exact Kd.YJ _ _ _ _ _,zB HB⟩
def dB.l0:Nat→Int→List Int→Int→Option (List Int)
  | 0,_,_,_=>none
  | k+1,x0,x3,x4=>if x4<x0 then ((aI.f k x3 10).bind fun asu=>(dB.l0 k x0 asu (wrap64 (x4+1)))) else (some x3)
def dB.f (k:Nat)(a0:Int):Option (List Int):=dB.l0 k a0 (([1]:List Int)) 0
theorem dB.calls (k:Nat)(a0:Int)(r:List Int)(w:World)(h:dB.f k a0=some r) :
    Calls Tryz.prog 87 #[.int .i64 a0] w fun e w' => ∃ v0_:Value,e=.returned (v0_)∧Kd.R (Kd.int .i64) 3 w' w.heap.size (fun _=>True) v0_ r∧Below w.heap.size w w':=by
 have HB:=am (Below.refl w.heap.size w);have H:=am h;unfold dB.f at H;clear h;generalize aj7:(([1]:List Int):List Int)=aE7 at H;have aj8:=zY aj7;clear aj7
 go_enter Tryz.func87,Tryz.ntmps87
 go_wp2_with (first|((with_reducible refine aA (N:=5) rfl ?_);refine Kd.Bq (Kd.int .i64) _ 3 ?hg (N:=5) ?hd (xs:=([1]:List Int)) (inner := [.int .i64 1]) (ok:=fun _=>True) (okp:=fun _=>True) ?hr ?hp (fun _ hk=>hk) trivial (Below.refl _ _) (Nat.le_refl _) (by simp) ?_;(case hd=>rfl);(case hg=>rfl);(case hr=>first|(go_simp;done)|(go_simp;rfl));(case hp=>exact (jM.one (show Kd.M (Kd.int .i64) _ _ _ 1 [.int .i64 1] from rfl) (jM.none _ _)));intro aKH w2 ho3 hb hg_ jO;clear hg_ jO;(first|rw[← aj8.out]at ho3|(simp only[Int.reduceToNat]at ho3;rw[← aj8.out]at ho3));have asv:=am (Kd.dZ ho3 (zS HB));replace HB:=zBs HB hb;clear hb ho3))
 go_loopg [3,4] k (fun kq v3 v4 w' => ∃ (iy:List Int) (qh:Int),v4=.int .i64 qh∧ae (dB.l0 kq a0 iy qh=some r)∧ae (kq≤k)∧ae (Kd.R (Kd.int .i64) 3 w' w.heap.size (fun _=>True) v3 iy)∧ae (Below w.heap.size w w'))
 case atStart=>exact⟨(aE7),(0),z1,H,zL,⟨zR asv⟩,⟨zB HB⟩⟩
 clear H;obtain⟨iy,qh,rfl,H,HK1,qx,HB⟩:=hrel;obtain _|k1:=gk
 ·exact zz H rfl
 simp only[dB.l0]at H;replace H:=zsd H;rcases H with⟨jV,H⟩|⟨jV,H⟩;replace H:=zo H;obtain⟨asu,A5,H⟩:=H;obtain⟨Ao6,co6,eo6⟩:=Kd.dU qx.out;subst eo6;rotate_left;obtain rfl:=Option.some.inj H.out;rotate_left
 all_goals (go_wp2_with (first|((with_reducible refine af (f:=82) rfl ?_);refine zc (some 12) Tryz.func82 #[.slice Ao6 iy.length co6,.int .i64 10] (aI.calls _ _ _ _ _ _ _ (zC ((Kd.az qx.out).2.2)) ((Kd.az qx.out).2.1) A5.out) ?_;rintro e w7 ⟨aKI,rfl,ho0,hb⟩;refine⟨_,rfl,?_⟩;have asw:=am (Kd.dZ (Kd.jc ho0 (Kd.qg (zR qx))) (zS HB));replace qx:=am (Kd.fQ (zR qx) (Kd.fP ho0) hb);replace HB:=zBs HB hb;clear hb ho0)))
 ·go_roundg k1
  case measure=>have:=HK1.out;omega
  case rel=>exact⟨(asu),(wrap64 (qh+1)),z1,H,(zH HK1),⟨by (with_reducible repeat (first|apply Kd.cO|apply Kd.bZ|apply Kd.dK));exact Kd.dm asw.out (fun _ hk=>trivial)⟩,⟨zB HB⟩⟩
 go_ret
 exact⟨_,z2,zR qx,zB HB⟩
def bM.l0:Nat→Int→Int→Int→Option (Int)
  | 0,_,_,_=>none
  | k+1,x0,x3,x4=>if x4<x0 then (bM.l0 k x0 (wrap64 (2*x3)) (wrap64 (x4+1))) else (some x3)
def bM.f (k:Nat)(a0:Int):Option (Int):=bM.l0 k a0 1 0
theorem bM.calls (k:Nat)(a0:Int)(r:Int)(w:World)(h:bM.f k a0=some r) :
    Calls Tryz.prog 142 #[.int .i64 a0] w fun e w'=>e=.returned (.int .i64 r)∧dX w w':=by
 have H:=am h;unfold bM.f at H;clear h
 go_enter Tryz.func142,Tryz.ntmps142
 go_wp2
 go_loopg [3,4] k (fun kq v3 v4 w' => ∃ (iy:Int) (qh:Int),v3=.int .i64 iy∧v4=.int .i64 qh∧ae (bM.l0 kq a0 iy qh=some r)∧ae (kq≤k)∧dX w w')
 case atStart=>exact⟨(1),(0),z1,z1,H,zL,z4⟩
 clear H;obtain⟨iy,qh,rfl,rfl,H,HK1,⟨m1,rfl⟩⟩:=hrel;obtain _|k1:=gk
 ·exact zz H rfl
 simp only[bM.l0]at H;replace H:=zsd H;rcases H with⟨sQ,H⟩|⟨sQ,H⟩;rotate_left;obtain rfl:=Option.some.inj H.out;rotate_left
 all_goals (go_wp2)
 ·go_roundg k1
  case measure=>have:=HK1.out;omega
  case rel=>exact⟨(wrap64 (2*iy)),(wrap64 (qh+1)),z1,z1,H,(zH HK1),z4⟩
 go_ret
 exact⟨z1,z4⟩
def gB.f (k:Nat)(l0:List Int)(a1:Int):Option (List Int):=if (l0.length:Int)=0 then (some ([]:List Int)) else (if 0≤(wrap64 (Int.tdiv a1 24)) then (if (wrap64 (Int.tdiv a1 24):Int).toNat≤35184372088832 then ((some (List.replicate (wrap64 (Int.tdiv a1 24):Int).toNat 0:List Int)).bind fun aj9=>((bM.f k (Int.tmod a1 24)).bind fun asx=>((aI.f k l0 asx).bind fun afr=>(if aj9.length+afr.length<17592186044416 then (some (aj9++afr)) else (none))))) else (none)) else (none))
theorem gB.calls (k:Nat)(A0:Option Addr)(c0:Nat)(l0:List Int)(a1:Int)(r:List Int)(w:World)(hr0:Kd.C (Kd.int .i64) w A0 l0.length l0)(hc0:l0.length≤c0)(h:gB.f k l0 a1=some r) :
    Calls Tryz.prog 90 #[.slice A0 l0.length c0,.int .i64 a1] w fun e w' => ∃ v0_:Value,e=.returned (v0_)∧Kd.R (Kd.int .i64) 3 w' w.heap.size (fun _=>True) v0_ r∧Below w.heap.size w w':=by
 have HR0:=am hr0;have HC0:=am hc0;clear hr0 hc0;have HB:=am (Below.refl w.heap.size w);have H:=am h;unfold gB.f at H;clear h;replace H:=zsk H;rcases H with⟨pK,Kv,H⟩|⟨pK,Kv,c3,H⟩;obtain rfl:=Option.some.inj H.out;rotate_left;have ap7:¬ (l0=[]):=fun h_=>c3 (by rw[h_];rfl);generalize BX:(wrap64 (Int.tdiv a1 24):Int)=ji4 at H;have U4:(IntKind.i64.wrap (Int.tdiv a1 24))=ji4:=(bW _).trans BX;replace H:=zit H;obtain⟨qN,xC,H⟩:=H;replace H:=zit H;obtain⟨qV,BB,H⟩:=H;obtain⟨aj9,aka,H⟩:=zw H;replace H:=zo H;obtain⟨asx,A7,H⟩:=H;replace H:=zo H;obtain⟨afr,A8,H⟩:=H;replace H:=zil H;obtain⟨acN,H⟩:=H;generalize akb:(aj9++afr:List Int)=aKJ at H;have asy:=zY akb;clear akb;obtain rfl:=Option.some.inj H.out;rotate_left
 all_goals (go_enter Tryz.func90,Tryz.ntmps90;go_wp2_with (first|((with_reducible refine aA (N:=11) rfl ?_);refine Kd.wE (Kd.int .i64) _ 3 rfl (N:=11) rfl 70 _ _ rfl ji4 (by first|rfl|(simp only[List.length_drop,List.length_take];rfl)) (by first|rfl|(simp only[List.length_drop,List.length_take];rfl)) Tryz.underlying70 (.int .i64 0) 8 info3 rfl (by decide) (by omega) 0 (ok:=fun _=>True) (okp:=fun _=>True) rfl (fun _ hk=>hk) trivial (zD) (Nat.le_trans (Nat.mul_le_mul_right _ (zD:ji4.toNat≤35184372088832)) (by omega)) (Below.refl _ _) (Nat.le_refl _) ?_;intro aE8 w10 akc hb hg_ jO;clear hg_ jO;(first|rw[← aka.out]at akc|(simp only[Int.reduceToNat]at akc;rw[← aka.out]at akc));have WT:=am (Kd.dZ akc (zS HB));replace HB:=zBs HB hb;clear hb akc)|((with_reducible refine af (f:=142) rfl ?_);refine zc (some 16) Tryz.func142 _ (bM.calls _ _ _ _ A7.out) ?_;rintro e w' ⟨rfl,⟨nd,rfl⟩⟩;refine⟨_,rfl,?_⟩)|((with_reducible refine af (f:=82) rfl ?_);refine zc (some 17) Tryz.func82 #[.slice A0 l0.length c0,.int .i64 asx] (aI.calls _ _ _ _ _ _ _ (zC (Kd.ku HR0.out (zB HB))) HC0.out A8.out) ?_;rintro e w12 ⟨aKK,rfl,ho0,hb⟩;refine⟨_,rfl,?_⟩;have WU:=am (Kd.dZ (Kd.jc ho0 (Kd.qg (zR WT))) (zS HB));replace WT:=am (Kd.fQ (zR WT) (Kd.fP ho0) hb);replace HB:=zBs HB hb;clear hb ho0;obtain⟨au3,aow,ae3⟩:=Kd.dU WU.out;subst ae3)|((with_reducible refine dW (b := .append) (xs:=#[.tmp 12,.tmp 17]) rfl ?_);at_builtin;refine Kd.rC (Kd.int .i64) (w0:=w) w.heap.size rfl (.tmp 12) (.tmp 17) 70 3 (.int .i64 0) 8 rfl Tryz.underlying70 info3 rfl (by decide) (by omega) aE8 aj9 afr _ _ _ (fun k_=>some k_≠(.slice au3 afr.length aow:Value).ownBlock) (fun _=>False) rfl rfl ?aO ?aR (fun _ _ h=>h) (fun _ h=>h.elim) ?aF ?aB ?aS ?aL ?_;(case aR=>repeat (first|exact (Kd.az WU.out).2.2|(with_reducible refine Kd.kJ ?_ _)|(with_reducible refine Kd.kM ?_ _)|(with_reducible refine Kd.ny ?_)));(case aB=>exact (zB HB));(case aF=>exact (fun k_ hk=>Kd.fresh' (Kd.qg (zR WU)) k_ hk));(case aO=>exact (by (with_reducible repeat (first|apply Kd.cO|apply Kd.bZ|apply Kd.dK));exact Kd.dm WT.out (fun _ hk=>hk.2)));(case aS=>exact (zS HB));(case aL=>have:=acN.out;omega);intro aKL w13 ho hb hg hat;rw[← asy.out]at ho;replace WU:=am (Kd.uI (ok:=(fun _=>True)) (zR WU) hg hat);replace HB:=am (hb);have asz:=am (ho);clear WT ho hb hg hat)))
 ·go_ret
  exact⟨_,z2,by first|exact Kd.G8 _ _ _ _ _|exact Kd.Yl _ _ _ _ _|exact Kd.Ah _ _ _ _ _|exact Kd.Xy _ _ _ _ _|exact Kd.YJ _ _ _ _ _,zB HB⟩
 go_ret
 exact⟨_,by first|exact z3|(simp only[← BX];exact z3)|exact z2,by (with_reducible repeat (first|apply Kd.cO|apply Kd.bZ|apply Kd.dK));exact Kd.dm asz.out (fun _ hk=>trivial),zB HB⟩
mutual
def bf.j0:Nat→ByteArray→Bool→Option (Int)
  | 0,_,_=>none
  | k+1,x0,x1=>if 1≤(x0.size:Int) then ((bQ.f k (x0.extract 1 x0.size)).bind fun QY=>(if 0<(x0.size:Int) then (if (bt x0 0)=49 then (if QY=true then (bf.j1 k x0 x1 QY true) else (bf.j1 k x0 x1 QY x1)) else (bf.j1 k x0 x1 QY false)) else (none))) else (none)
def bf.j1:Nat→ByteArray→Bool→Bool→Bool→Option (Int)
  | 0,_,_,_,_=>none
  | k+1,x0,x1,x5,x11=>if x11=true then (some 3) else (if 0<(x0.size:Int) then (if (bt x0 0)=49 then (some 2) else (if x5=true then (some 1) else (if x1=true then (some 1) else (some 0)))) else (none))
end
def bf.f (k:Nat)(a0:ByteArray)(a1:Bool):Option (Int):=if a0.toList=([]:List UInt8) then (bf.j0 k (⟨#[48]⟩:ByteArray) a1) else (bf.j0 k a0 a1)
theorem bf.calls (k:Nat)(a0:ByteArray)(a1:Bool)(r:Int)(w:World)(h:bf.f k a0 a1=some r) :
    Calls Tryz.prog 220 #[.string a0,.bool a1] w fun e w'=>e=.returned (.int .i64 r)∧dX w w':=by
 have H:=am h;unfold bf.f at H;clear h
 go_enter Tryz.func220,Tryz.ntmps220
 go_upto_if 7 with (fail)
 go_cut [0] (fun v0 wc => ∃ (kq:Nat) (jq:ByteArray),v0=.string jq∧ae (bf.j0 kq jq a1=some r)∧ae (kq≤k)∧dX w wc)
 case first =>
  replace H:=zsk H;rcases H with⟨jV,rZ,H⟩|⟨jV,rZ,c4,H⟩
  (first|rw[jV]|(simp only[bW,fV];rw[jV])|rw[rZ]|rw[List.isEmpty_iff.mpr (beq_iff_eq.mp jV)]|rw[List.isEmpty_eq_false_iff.mpr (beq_eq_false_iff_ne.mp jV)]|skip)
  rotate_left
  (first|rw[jV]|(simp only[bW,fV];rw[jV])|rw[rZ]|rw[List.isEmpty_iff.mpr (beq_iff_eq.mp jV)]|rw[List.isEmpty_eq_false_iff.mpr (beq_eq_false_iff_ne.mp jV)]|skip)
  rotate_left
  all_goals (go_wp2)
  ·go_meet
   case rel=>exact⟨_,((⟨#[48]⟩:ByteArray)),z1,H,⟨z5⟩,z4⟩
  go_meet
  case rel=>exact⟨_,(a0),z1,H,⟨z5⟩,z4⟩
 case rest =>
  obtain⟨kq,jq,rfl,H,HJ2,⟨mc2,rfl⟩⟩:=hcut;obtain _|kj2:=kq
  ·exact zz H rfl
  simp only[bf.j0]at H;replace H:=zit H;obtain⟨qN,xC,H⟩:=H;replace H:=zo H;obtain⟨QY,A6,H⟩:=H
  go_upto_region 4 with (first|((with_reducible refine af (f:=218) rfl ?_);refine zc (some 10) Tryz.func218 _ (bQ.calls _ _ _ _ A6.out) ?_;rintro e w' ⟨rfl,⟨nd,rfl⟩⟩;refine⟨_,rfl,?_⟩))
  (try simp only[Act.put,List.setIfInBounds_toArray,List.set_cons_zero,List.set_cons_succ])
  go_cut [11] (fun v11 wc => ∃ (kq:Nat) (Zx:Bool),v11=.bool Zx∧ae (bf.j1 kq jq a1 QY Zx=some r)∧ae (kq≤kj2)∧dX w wc)
  case first =>
   replace H:=zi H;obtain⟨c8,H⟩:=H;have uz:decide (0<(jq.size:Int))=true:=decide_eq_true c8;have Ey:decide (0<jq.size)=true:=decide_eq_true (by omega);clear c8
   (first|rw[uz]|(simp only[bW,fV];rw[uz])|rw[Ey]|skip)
   replace H:=zsk H;rcases H with⟨oL,uX,H⟩|⟨oL,uX,c10,H⟩
   cases QY
   replace H:=zb0 H
   have p9:0≤(0:Int):=(by omega)
   have q9:0<jq.size:=(by have:(0:Int)<(jq.size:Int):=zD;omega)
   have hx9:∀ h:0<jq.size,((jq[0]'h).toNat:Int)=bt jq 0:=ru jq 0;clear p9;have qi9:(0<(jq.size:Int))=True:=eq_true (zD);replace q9:=eq_true q9;rotate_left;replace H:=zb1 H
   have p9:0≤(0:Int):=(by omega)
   have q9:0<jq.size:=(by have:(0:Int)<(jq.size:Int):=zD;omega)
   have hx9:∀ h:0<jq.size,((jq[0]'h).toNat:Int)=bt jq 0:=ru jq 0;clear p9;have qi9:(0<(jq.size:Int))=True:=eq_true (zD);replace q9:=eq_true q9;rotate_left
   have p9:0≤(0:Int):=(by omega)
   have q9:0<jq.size:=(by have:(0:Int)<(jq.size:Int):=zD;omega)
   have hx9:∀ h:0<jq.size,((jq[0]'h).toNat:Int)=bt jq 0:=ru jq 0;clear p9;have qi9:(0<(jq.size:Int))=True:=eq_true (zD);replace q9:=eq_true q9;rotate_left
   all_goals (go_wp2)
   ·go_meet
    case rel=>exact⟨_,(a1),z1,H,⟨by have:=HJ2.out;first|omega|exact Nat.le_refl _⟩,z4⟩
   ·go_meet
    case rel=>exact⟨_,(true),z1,H,⟨by have:=HJ2.out;first|omega|exact Nat.le_refl _⟩,z4⟩
   go_meet
   case rel=>exact⟨_,(false),z1,H,⟨by have:=HJ2.out;first|omega|exact Nat.le_refl _⟩,z4⟩
  case rest =>
   try clear hx9
   try clear qi9
   obtain⟨kq,Zx,rfl,H,HJ6,⟨mc6,rfl⟩⟩:=hcut;obtain _|kj6:=kq
   ·exact zz H rfl
   simp only[bf.j1]at H
   cases Zx
   replace H:=zb0 H;replace H:=zi H;obtain⟨c13,H⟩:=H;have sD:decide (0<(jq.size:Int))=true:=decide_eq_true c13;have Ip:decide (0<jq.size)=true:=decide_eq_true (by omega);clear c13;replace H:=zsk H;rcases H with⟨xZ,LY,H⟩|⟨xZ,LY,c15,H⟩;obtain rfl:=Option.some.inj H.out
   have p14:0≤(0:Int):=(by omega)
   have q14:0<jq.size:=(by have:(0:Int)<(jq.size:Int):=zD;omega)
   have asA:∀ h:0<jq.size,((jq[0]'h).toNat:Int)=bt jq 0:=ru jq 0;clear p14;have asB:(0<(jq.size:Int))=True:=eq_true (zD);replace q14:=eq_true q14;rotate_left
   cases QY
   replace H:=zb0 H
   cases a1
   replace H:=zb0 H;obtain rfl:=Option.some.inj H.out
   have p14:0≤(0:Int):=(by omega)
   have q14:0<jq.size:=(by have:(0:Int)<(jq.size:Int):=zD;omega)
   have asA:∀ h:0<jq.size,((jq[0]'h).toNat:Int)=bt jq 0:=ru jq 0;clear p14;have asB:(0<(jq.size:Int))=True:=eq_true (zD);replace q14:=eq_true q14;rotate_left;replace H:=zb1 H;obtain rfl:=Option.some.inj H.out
   have p14:0≤(0:Int):=(by omega)
   have q14:0<jq.size:=(by have:(0:Int)<(jq.size:Int):=zD;omega)
   have asA:∀ h:0<jq.size,((jq[0]'h).toNat:Int)=bt jq 0:=ru jq 0;clear p14;have asB:(0<(jq.size:Int))=True:=eq_true (zD);replace q14:=eq_true q14;rotate_left;replace H:=zb1 H;obtain rfl:=Option.some.inj H.out
   have p14:0≤(0:Int):=(by omega)
   have q14:0<jq.size:=(by have:(0:Int)<(jq.size:Int):=zD;omega)
   have asA:∀ h:0<jq.size,((jq[0]'h).toNat:Int)=bt jq 0:=ru jq 0;clear p14;have asB:(0<(jq.size:Int))=True:=eq_true (zD);replace q14:=eq_true q14;rotate_left;replace H:=zb1 H;obtain rfl:=Option.some.inj H.out;rotate_left
   all_goals (go_wp2)
   ·go_ret
    exact⟨z1,z4⟩
   ·go_ret
    exact⟨z1,z4⟩
   ·go_ret
    exact⟨z1,z4⟩
   ·go_ret
    exact⟨z1,z4⟩
   go_ret
   exact⟨z1,z4⟩
mutual
def ax.j0:Nat→Int→ByteArray→Bool→Int→Bool→Int→Int→Int→Bool→Option (Int × Int × Int)
  | 0,_,_,_,_,_,_,_,_,_=>none
  | k+1,x0,x10,x11,IE,IG,wS,II,IJ,Em=>if wS≥(wrap64 ((wrap64 (4*x0))-8)) then ((bJ.f k (wrap64 (x0-1))).bind fun alu=>(some (IntKind.u64.wrap (alu-1),0,0))) else (if wS<(wrap64 (-(wrap64 ((wrap64 (4*x0))-8)))) then (ax.j1 k x0 x10 true IE IG wS II IJ Em) else (if wS=(wrap64 (-(wrap64 ((wrap64 (4*x0))-8)))) then (ax.j1 k x0 x10 x11 IE IG wS II IJ Em) else (ax.j1 k x0 x10 false IE IG wS II IJ Em)))
def ax.j1:Nat→Int→ByteArray→Bool→Int→Bool→Int→Int→Int→Bool→Option (Int × Int × Int)
  | 0,_,_,_,_,_,_,_,_,_=>none
  | k+1,x0,x10,x73,IE,IG,wS,II,IJ,Em=>if x73=true then (some (1,0,0)) else ((aG.f k wS).bind fun Cb=>(if Cb.size+x10.size≤9223372036854775807 then (if 0≤(wrap64 (x0-1)) then (if (wrap64 (x0-1))≤((Cb++x10).size:Int) then ((bu.f k ((Cb++x10).extract 0 ((wrap64 (x0-1)):Int).toNat)).bind fun akd=>((bf.f k ((Cb++x10).extract ((wrap64 (x0-1)):Int).toNat (Cb++x10).size) Em).bind fun ake=>(some (akd,ake,0)))) else (none)) else (none)) else (none)))
end
def ax.f (k:Nat)(a0:Int)(kG:Int)(jY:Bool)(jP:Int)(kD:Int)(oZ:Int)(oO:Bool):Option (Int × Int × Int):=(fZ.f a0).bind fun asC=>((iC.f kG jY jP kD oZ oO).bind fun asD=>(if asC=true then (if asD=true then (if kG=1 then ((aY.f k kD 64).bind fun sW=>(if 1≤(sW.size:Int) then ((aY.f k oZ 64).bind fun BN=>(if (sW.extract 1 sW.size).size+BN.size≤9223372036854775807 then (if oO=true then (ax.j0 k a0 ((sW.extract 1 sW.size)++BN) false kG jY jP kD oZ oO) else ((bQ.f k ((sW.extract 1 sW.size)++BN)).bind fun asE=>(ax.j0 k a0 ((sW.extract 1 sW.size)++BN) (!asE) kG jY jP kD oZ oO))) else (none))) else (none))) else (if kG=2 then ((bJ.f k (wrap64 (a0-1))).bind fun axE=>(some (axE,0,0))) else (some (0,0,0)))) else (some (0,0,1))) else (some (0,0,2))))
def ax.T12:Bool × List (List Nat × List Nat):=(true,[([],[]),([0],[0]),([1],[1]),([2],[2]),([],[]),([4],[4]),([5,2],[5]),([3,6],[3,6]),([7,6,0,1,2,3,4,5,6,7],[7])])
def ax.B12:List Nat := [0,1,3,7,0,16,55,127,255]
theorem ax.alI:rX .any (opsOf Tryz.f196 12)=ax.T12:=by kernel_rfl
theorem ax.age:jf ax.T12.2 ax.B12=true:=by kernel_rfl
def ax.T20:Bool × List (List Nat × List Nat):=(true,[([],[]),([],[]),([1],[1]),([0,2],[0,2]),([3],[3]),([],[]),([],[]),([6],[6]),([5,7],[5,7]),([],[]),([9],[9]),([8,10,4],[8,10]),([4,11,0,1,2,3,4],[4]),([11,12,0,1,2,3,4,5,6,7,8,9,10,11,12],[11]),([13,0,1,2,3,4,5,6,7,8,9,10,11,12,13],[])])
def ax.B20:List Nat := [0,0,2,7,15,0,0,64,224,0,512,2047,4095,8191,16383]
theorem ax.abu:rX .any (opsOf Tryz.f196 20)=ax.T20:=by kernel_rfl
theorem ax.RQ:jf ax.T20.2 ax.B20=true:=by kernel_rfl
theorem ax.calls (k:Nat)(a0:Int)(kG:Int)(jY:Bool)(jP:Int)(kD:Int)(oZ:Int)(oO:Bool)(r1:Int)(r2:Int)(r3:Int)(w:World)(h:ax.f k a0 kG jY jP kD oZ oO=some (r1,r2,r3)) :
    Calls Tryz.prog 196 #[.int .i64 a0,.agg #[.int .i64 kG,.bool jY,.int .i64 jP,.int .u64 kD,.int .u64 oZ,.bool oO]] w fun e w'=>e=.returned (.tuple #[.int .u64 r1,.int .i64 r2,.int .i64 r3])∧Below w.heap.size w w':=by
 have Vb:=Tryz.underlying81;have HB:=am (Below.refl w.heap.size w);have H:=am h;unfold ax.f at H;clear h;replace H:=zo H;obtain⟨asC,A3,H⟩:=H;replace H:=zo H;obtain⟨asD,A4,H⟩:=H
 cases asC
 replace H:=zb0 H;obtain⟨rfl,rfl,rfl⟩:=zJ3 H;rotate_left;replace H:=zb1 H
 cases asD
 replace H:=zb0 H;obtain⟨rfl,rfl,rfl⟩:=zJ3 H;rotate_left;replace H:=zb1 H;replace H:=zsk H;rcases H with⟨yE,DJ,H⟩|⟨yE,DJ,c7,H⟩
 ·replace H:=zo H
  obtain⟨sW,A8,H⟩:=H;replace H:=zit H;obtain⟨vF,BD,H⟩:=H;replace H:=zo H;obtain⟨BN,A10,H⟩:=H;replace H:=zi H;obtain⟨c11,H⟩:=H;have qJ:=eq_true c11;have zM:decide ((sW.extract 1 sW.size).size+BN.size≤9223372036854775807)=true:=decide_eq_true c11
  try have aE9:(9223372036854775807<(sW.extract 1 sW.size).size+BN.size)=False:=eq_false (Nat.not_lt.2 c11)
  try have aKM:(9223372036854775807<(sW.size-1)+BN.size)=False:=eq_false (by have h_:=c11;have l1_:(⟨#[46]⟩:ByteArray).size=1:=rfl;have l2_:(⟨#[48,46]⟩:ByteArray).size=2:=rfl;have l3_:(⟨#[101]⟩:ByteArray).size=1:=rfl;(try simp only[ByteArray.size_append,ByteArray.size_extract]at h_);omega)
  try have aKN:(9223372036854775807<(sW.size-1)+BN.size)=False:=eq_false (by have h_:=c11;have l1_:(⟨#[46]⟩:ByteArray).size=1:=rfl;have l2_:(⟨#[48,46]⟩:ByteArray).size=2:=rfl;have l3_:(⟨#[101]⟩:ByteArray).size=1:=rfl;(try simp only[ByteArray.size_append,ByteArray.size_extract]at h_);omega)
  go_enter Tryz.func196,Tryz.ntmps196
  try go_wp2_with (first|((with_reducible refine aA (N:=3) rfl ?_);refine zx 3 81 #[.int .i64 kG,.bool jY,.int .i64 jP,.int .u64 kD,.int .u64 oZ,.bool oO] ?_;intro yB hg w13 hbox hb;have gY:=am (hbox);have asF:=zG hg HB;have asG:=zG hg HB;replace HB:=zBs HB hb;clear hb hbox hg)|((with_reducible refine af (f:=36) rfl ?_);refine zc (some 15) Tryz.func36 _ (fZ.calls _ _ _ A3.out) ?_;rintro e w' ⟨rfl,⟨nd,rfl⟩⟩;refine⟨_,rfl,?_⟩;obtain⟨_,_,_,_,_,_,_,_,_,_,_,_⟩:=zf6 gY)|((with_reducible refine af (f:=217) rfl ?_);refine zc (some 17) Tryz.func217 _ (iC.calls _ _ _ _ _ _ _ _ A4.out) ?_;rintro e w15 ⟨rfl,hb⟩;refine⟨_,rfl,?_⟩;replace gY:=zKb gY hb;replace HB:=zBs HB hb;clear hb;obtain⟨_,_,_,_,_,_,_,_,_,_,_,_⟩:=zf6 gY))
  replace gY:=am (dY gY.out);replace HB:=am (aW HB.out);refine mM (n:=9) (S:=fun w'=>w'.cell? ⟨yB,0,none⟩=some (.int .i64 kG)∧w'.cell? ⟨yB,1,none⟩=some (.bool jY)∧w'.cell? ⟨yB,2,none⟩=some (.int .i64 jP)∧w'.cell? ⟨yB,3,none⟩=some (.int .u64 kD)∧w'.cell? ⟨yB,4,none⟩=some (.int .u64 oZ)∧w'.cell? ⟨yB,5,none⟩=some (.bool oO)) (ds := []) (Array.replicate 9 false) (by kernel_rfl) rfl rfl ⟨(ag gY.out 0).trans rfl,(ag gY.out 1).trans rfl,(ag gY.out 2).trans rfl,(ag gY.out 3).trans rfl,(ag gY.out 4).trans rfl,(ag gY.out 5).trans rfl⟩ (fun hHeld=>?_);refine gQ ax.alI ax.age (fun HT_ HW_=>?_);generalize w15.drew=w17 at gY HB hHeld ⊢;refine zp HT_ 0 (some 32) ?_;refine zp HT_ 4 (some 36) ?_;refine zt HT_ HW_ 1 (some 33) hHeld ?_;refine zt HT_ HW_ 5 (some 37) hHeld ?_;refine zu HT_ 2 (some 34) (fun K hK=>?_);refine oV Tryz.func88 (by kernel_rfl) rfl #[.int .u64 kD,.int .i64 64] (by rfl) rfl rfl (by (try simp only[List.map_toArray,List.map_cons,List.map_nil]);first|done|rfl|(simp only[List.length_drop,List.length_take];rfl)) ?_
  with_reducible refine (aY.calls k kD 64 sW _ A8.out).mono ?_
  rintro e w18 ⟨rfl,hb⟩;refine⟨_,rfl,?_⟩;replace gY:=zKb gY hb;replace HB:=zBs HB hb
  (try clear hb)
  (try clear hb2)
  (try clear hk)
  (try clear hi)
  refine hK.out _ _ ⟨(ag gY.out 0).trans rfl,(ag gY.out 1).trans rfl,(ag gY.out 2).trans rfl,(ag gY.out 3).trans rfl,(ag gY.out 4).trans rfl,(ag gY.out 5).trans rfl⟩ (fun hHeld=>?_);clear hK K;refine mD (a':=?_) ?_ ?_;rotate_left
  ·show Act.put _ (some 34) _=_
   simp only[Act.put,List.setIfInBounds_toArray,List.set_cons_zero,List.set_cons_succ,bW,fV]
   rfl
  refine zp HT_ 3 (some 35) ?_;refine zu HT_ 6 (some 38) (fun K hK=>?_);refine oV Tryz.func88 (by kernel_rfl) rfl #[.int .u64 oZ,.int .i64 64] (by rfl) rfl rfl (by (try simp only[List.map_toArray,List.map_cons,List.map_nil]);first|done|rfl|(simp only[List.length_drop,List.length_take];rfl)) ?_
  with_reducible refine (aY.calls k oZ 64 BN _ A10.out).mono ?_
  rintro e w19 ⟨rfl,hb⟩;refine⟨_,rfl,?_⟩;replace gY:=zKb gY hb;replace HB:=zBs HB hb
  (try clear hb)
  (try clear hb2)
  (try clear hk)
  (try clear hi)
  refine hK.out _ _ ⟨(ag gY.out 0).trans rfl,(ag gY.out 1).trans rfl,(ag gY.out 2).trans rfl,(ag gY.out 3).trans rfl,(ag gY.out 4).trans rfl,(ag gY.out 5).trans rfl⟩ (fun hHeld=>?_);clear hK K;refine mD (a':=?_) ?_ ?_;rotate_left
  ·show Act.put _ (some 38) _=_
   simp only[Act.put,List.setIfInBounds_toArray,List.set_cons_zero,List.set_cons_succ,bW,fV]
   rfl
  refine zp HT_ 7 (some 39) ?_;refine zp HT_ 8 (some 10) ?_;refine oG (iJ HT_.out (by kernel_rfl)) ?_
  go_upto_region 13 with (fail)
  go_cut [11] (fun v11 wc => ∃ (kq:Nat) (OV:Bool),v11=.bool OV∧ae (ax.j0 kq a0 ((sW.extract 1 sW.size)++BN) OV kG jY jP kD oZ oO=some (r1,r2,r3))∧ae (kq≤k)∧ae (wc.heap[yB]? = some (.cells #[.int .i64 kG,.bool jY,.int .i64 jP,.int .u64 kD,.int .u64 oZ,.bool oO] 81 (0,0)))∧ae (Below w.heap.size w wc))
  case first =>
   cases oO
   replace H:=zb0 H;replace H:=zo H;obtain⟨asE,A22,H⟩:=H;obtain⟨_,_,_,_,_,_,_,_,_,_,_,_⟩:=zf6 gY;rotate_left;replace H:=zb1 H;obtain⟨_,_,_,_,_,_,_,_,_,_,_,_⟩:=zf6 gY;rotate_left
   all_goals (go_wp2_with (first|(go_at_call 218;(with_reducible refine (bQ.calls _ ((sW.extract 1 sW.size)++BN) _ _ A22.out).mono ?_);rintro e w' ⟨rfl,⟨nd,rfl⟩⟩)))
   ·go_meet
    case rel=>exact⟨_,(!asE),z1,H,⟨z5⟩,⟨zK gY⟩,⟨zB HB⟩⟩
   go_meet
   case rel=>exact⟨_,(false),z1,H,⟨z5⟩,⟨zK gY⟩,⟨zB HB⟩⟩
  case rest =>
   obtain⟨kq,OV,rfl,H,asH,gY,HB⟩:=hcut;obtain _|aFa:=kq
   ·exact zz H rfl
   simp only[ax.j0]at H;replace H:=yD H;rcases H with⟨Me,H⟩|⟨Me,H⟩
   ·replace H:=zo H
    obtain⟨alu,A25,H⟩:=H;obtain⟨rfl,rfl,rfl⟩:=zJ3 H;obtain⟨_,_,_,_,_,_,_,_,_,_,_,_⟩:=zf6 gY
    go_wp2_with (first|((with_reducible refine af (f:=27) rfl ?_);refine zc (some 57) Tryz.func27 _ (bJ.calls _ _ _ _ A25.out) ?_;rintro e w' ⟨rfl,⟨nd,rfl⟩⟩;refine⟨_,rfl,?_⟩))
    go_ret3
    exact⟨z2,zB HB⟩
   obtain⟨_,_,_,_,_,_,_,_,_,_,_,_⟩:=zf6 gY
   go_upto_region 17 with (fail)
   go_cut [73] (fun v73 wc => ∃ (kq:Nat) (OW:Bool),v73=.bool OW∧ae (ax.j1 kq a0 ((sW.extract 1 sW.size)++BN) OW kG jY jP kD oZ oO=some (r1,r2,r3))∧ae (kq≤aFa)∧ae (wc.heap[yB]? = some (.cells #[.int .i64 kG,.bool jY,.int .i64 jP,.int .u64 kD,.int .u64 oZ,.bool oO] 81 (0,0)))∧ae (Below w.heap.size w wc))
   case first =>
    replace H:=zsd H;rcases H with⟨EU,H⟩|⟨EU,H⟩
    (first|rw[EU]|(simp only[bW,fV];rw[EU])|rw[ahl]|skip)
    obtain⟨_,_,_,_,_,_,_,_,_,_,_,_⟩:=zf6 gY;rotate_left
    (first|rw[EU]|(simp only[bW,fV];rw[EU])|rw[ahl]|skip)
    replace H:=zsk H;rcases H with⟨QD,ahk,H⟩|⟨QD,ahk,c31,H⟩;obtain⟨_,_,_,_,_,_,_,_,_,_,_,_⟩:=zf6 gY;rotate_left;obtain⟨_,_,_,_,_,_,_,_,_,_,_,_⟩:=zf6 gY;rotate_left
    all_goals (go_wp2)
    ·go_meet
     case rel=>exact⟨_,(true),z1,H,⟨by have:=asH.out;first|omega|exact Nat.le_refl _⟩,⟨zK gY⟩,⟨zB HB⟩⟩
    ·go_meet
     case rel=>exact⟨_,(OV),z1,H,⟨by have:=asH.out;first|omega|exact Nat.le_refl _⟩,⟨zK gY⟩,⟨zB HB⟩⟩
    go_meet
    case rel=>exact⟨_,(false),z1,H,⟨by have:=asH.out;first|omega|exact Nat.le_refl _⟩,⟨zK gY⟩,⟨zB HB⟩⟩
   case rest =>
    obtain⟨kq,OW,rfl,H,aKO,gY,HB⟩:=hcut;obtain _|axF:=kq
    ·exact zz H rfl
    simp only[ax.j1]at H
    cases OW
    ·replace H:=zb0 H
     replace H:=zo H;obtain⟨Cb,A35,H⟩:=H;replace H:=zi H;obtain⟨c36,H⟩:=H;have VZ:=eq_true c36;have ajs:decide (Cb.size+((sW.extract 1 sW.size)++BN).size≤9223372036854775807)=true:=decide_eq_true c36
     try have aFb:(9223372036854775807<Cb.size+((sW.extract 1 sW.size)++BN).size)=False:=eq_false (Nat.not_lt.2 c36)
     try have aKP:(9223372036854775807<Cb.size+(sW.size-1)+BN.size)=False:=eq_false (by have h_:=c36;have l1_:(⟨#[46]⟩:ByteArray).size=1:=rfl;have l2_:(⟨#[48,46]⟩:ByteArray).size=2:=rfl;have l3_:(⟨#[101]⟩:ByteArray).size=1:=rfl;(try simp only[ByteArray.size_append,ByteArray.size_extract]at h_);omega)
     try have aKQ:(9223372036854775807<Cb.size+(sW.size-1)+BN.size)=False:=eq_false (by have h_:=c36;have l1_:(⟨#[46]⟩:ByteArray).size=1:=rfl;have l2_:(⟨#[48,46]⟩:ByteArray).size=2:=rfl;have l3_:(⟨#[101]⟩:ByteArray).size=1:=rfl;(try simp only[ByteArray.size_append,ByteArray.size_extract]at h_);omega)
     generalize WV:(wrap64 (a0-1):Int)=aaI at H
     (try rw[WV]at A35)
     have axG:(IntKind.i64.wrap (a0-1))=aaI:=(bW _).trans WV;replace H:=zit H;obtain⟨asf,asg,H⟩:=H;replace H:=zit H;obtain⟨ah8,ah9,H⟩:=H;replace H:=zo H;obtain⟨akd,A40,H⟩:=H;have aqz:=eq_true (zD:0≤(aaI));have asI:=eq_true (zD:(aaI)≤((Cb++((sW.extract 1 sW.size)++BN)).size:Int))
     try (have WW:aaI≤((Cb++((sW.extract 1 sW.size)++BN)).size:Int):=of_eq_true asI;simp only[ByteArray.size_append,ByteArray.size_extract,Nat.min_self,Int.natCast_add]at WW;replace WW:=eq_true WW)
     replace H:=zo H;obtain⟨ake,A43,H⟩:=H;obtain⟨rfl,rfl,rfl⟩:=zJ3 H;obtain⟨_,_,_,_,_,_,_,_,_,_,_,_⟩:=zf6 gY
     try go_wp2_with (first|((with_reducible refine af (f:=219) rfl ?_);refine zc (some 76) Tryz.func219 _ (aG.calls _ _ _ _ A35.out) ?_;rintro e w45 ⟨rfl,hb⟩;refine⟨_,rfl,?_⟩;replace gY:=zKb gY hb;replace HB:=zBs HB hb;clear hb))
     replace gY:=am (dY gY.out);replace HB:=am (aW HB.out);refine mM (n:=15) (S:=fun w'=>w'.cell? ⟨yB,0,none⟩=some (.int .i64 kG)∧w'.cell? ⟨yB,1,none⟩=some (.bool jY)∧w'.cell? ⟨yB,2,none⟩=some (.int .i64 jP)∧w'.cell? ⟨yB,3,none⟩=some (.int .u64 kD)∧w'.cell? ⟨yB,4,none⟩=some (.int .u64 oZ)∧w'.cell? ⟨yB,5,none⟩=some (.bool oO)) (ds := []) (Array.replicate 15 false) (by kernel_rfl) rfl rfl ⟨(ag gY.out 0).trans rfl,(ag gY.out 1).trans rfl,(ag gY.out 2).trans rfl,(ag gY.out 3).trans rfl,(ag gY.out 4).trans rfl,(ag gY.out 5).trans rfl⟩ (fun hHeld=>?_);refine gQ ax.abu ax.RQ (fun HT_ HW_=>?_);generalize w45.drew=w46 at gY HB hHeld ⊢;refine zp HT_ 0 (some 79) ?_;refine zp HT_ 1 (some 80) ?_;refine zp HT_ 2 (some 81) ?_;refine zp HT_ 3 (some 82) ?_;refine zp HT_ 5 (some 84) ?_;refine zp HT_ 6 (some 85) ?_;refine zp HT_ 7 (some 86) ?_;refine zp HT_ 8 (some 87) ?_;refine zp HT_ 9 (some 88) ?_;refine zt HT_ HW_ 10 (some 89) hHeld ?_;refine zu HT_ 4 (some 83) (fun K hK=>?_);refine oV Tryz.func89 (by kernel_rfl) rfl #[.string ((Cb++((sW.extract 1 sW.size)++BN)).extract 0 ((aaI):Int).toNat)] (by rfl) rfl rfl (by (try simp only[List.map_toArray,List.map_cons,List.map_nil]);first|done|(simp only[ByteArray.size_append,ByteArray.size_extract,Nat.min_self];rfl)|(simp only[WV];rfl)|rfl|(simp only[List.length_drop,List.length_take];rfl)) ?_
     with_reducible refine (bu.calls axF ((Cb++((sW.extract 1 sW.size)++BN)).extract 0 ((aaI):Int).toNat) akd _ A40.out).mono ?_
     rintro e w' ⟨rfl,⟨nd,rfl⟩⟩;refine⟨_,rfl,?_⟩;refine hK.out _ _ ⟨(ag gY.out 0).trans rfl,(ag gY.out 1).trans rfl,(ag gY.out 2).trans rfl,(ag gY.out 3).trans rfl,(ag gY.out 4).trans rfl,(ag gY.out 5).trans rfl⟩ (fun hHeld=>?_);clear hK K;refine mD (a':=?_) ?_ ?_;rotate_left
     ·show Act.put _ (some 83) _=_
      simp only[Act.put,List.setIfInBounds_toArray,List.set_cons_zero,List.set_cons_succ,bW,fV]
      rfl
     refine zu HT_ 11 (some 90) (fun K hK=>?_);refine oV Tryz.func220 (by kernel_rfl) rfl #[.string ((Cb++((sW.extract 1 sW.size)++BN)).extract ((aaI):Int).toNat (Cb++((sW.extract 1 sW.size)++BN)).size),.bool oO] (by rfl) rfl rfl (by (try simp only[List.map_toArray,List.map_cons,List.map_nil]);first|done|(simp only[ByteArray.size_append,ByteArray.size_extract,Nat.min_self];rfl)|(simp only[WV];rfl)|rfl|(simp only[List.length_drop,List.length_take];rfl)) ?_
     with_reducible refine (bf.calls axF ((Cb++((sW.extract 1 sW.size)++BN)).extract ((aaI):Int).toNat (Cb++((sW.extract 1 sW.size)++BN)).size) oO ake _ A43.out).mono ?_
     rintro e w' ⟨rfl,⟨nd,rfl⟩⟩;refine⟨_,rfl,?_⟩;refine hK.out _ _ ⟨(ag gY.out 0).trans rfl,(ag gY.out 1).trans rfl,(ag gY.out 2).trans rfl,(ag gY.out 3).trans rfl,(ag gY.out 4).trans rfl,(ag gY.out 5).trans rfl⟩ (fun hHeld=>?_);clear hK K;refine mD (a':=?_) ?_ ?_;rotate_left
     ·show Act.put _ (some 90) _=_
      simp only[Act.put,List.setIfInBounds_toArray,List.set_cons_zero,List.set_cons_succ,bW,fV]
      rfl
     refine zp HT_ 12 (some 4) ?_;refine zp HT_ 13 (some 5) ?_;refine zp HT_ 14 (some 6) ?_;refine oG (iJ HT_.out (by kernel_rfl)) ?_
     try go_wp2
     go_ret3
     exact⟨by first|exact z3|(simp only[← WV];exact z3)|exact z2,zB HB⟩
    replace H:=zb1 H;obtain⟨rfl,rfl,rfl⟩:=zJ3 H
    go_wp2
    go_ret3
    exact⟨z2,zB HB⟩
 replace H:=zsk H;rcases H with⟨aiZ,ai0,H⟩|⟨aiZ,ai0,c47,H⟩;replace H:=zo H;obtain⟨axE,A48,H⟩:=H;obtain⟨rfl,rfl,rfl⟩:=zJ3 H;rotate_left;obtain⟨rfl,rfl,rfl⟩:=zJ3 H;rotate_left
 all_goals (go_enter Tryz.func196,Tryz.ntmps196;go_wp2_with (first|((with_reducible refine aA (N:=3) rfl ?_);refine zx 3 81 #[.int .i64 kG,.bool jY,.int .i64 jP,.int .u64 kD,.int .u64 oZ,.bool oO] ?_;intro yB hg w49 hbox hb;have gY:=am (hbox);have asF:=zG hg HB;have asG:=zG hg HB;replace HB:=zBs HB hb;clear hb hbox hg)|((with_reducible refine af (f:=36) rfl ?_);refine zc (some 15) Tryz.func36 _ (fZ.calls _ _ _ A3.out) ?_;rintro e w' ⟨rfl,⟨nd,rfl⟩⟩;refine⟨_,rfl,?_⟩;obtain⟨_,_,_,_,_,_,_,_,_,_,_,_⟩:=zf6 gY)|((with_reducible refine af (f:=217) rfl ?_);refine zc (some 17) Tryz.func217 _ (iC.calls _ _ _ _ _ _ _ _ A4.out) ?_;rintro e w51 ⟨rfl,hb⟩;refine⟨_,rfl,?_⟩;replace gY:=zKb gY hb;replace HB:=zBs HB hb;clear hb;obtain⟨_,_,_,_,_,_,_,_,_,_,_,_⟩:=zf6 gY)|((with_reducible refine af (f:=27) rfl ?_);refine zc (some 30) Tryz.func27 _ (bJ.calls _ _ _ _ A48.out) ?_;rintro e w' ⟨rfl,⟨nd,rfl⟩⟩;refine⟨_,rfl,?_⟩)))
 ·go_ret3
  exact⟨z2,zB HB⟩
 ·go_ret3
  exact⟨z2,zB HB⟩
 ·go_ret3
  exact⟨z2,zB HB⟩
 go_ret3
 exact⟨z2,zB HB⟩
end Go.Proofs.Yy.PTx
end
