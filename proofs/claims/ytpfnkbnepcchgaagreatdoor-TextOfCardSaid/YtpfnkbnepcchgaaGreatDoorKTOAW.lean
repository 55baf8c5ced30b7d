/- Part 23. -/
import Derived.Test.YtpfnkbnepcchgaaGreatDoorKTOAV
set_option linter.unusedSimpArgs false
set_option linter.unusedVariables false
section
set_option maxHeartbeats 8000000
set_option maxRecDepth 100000
namespace Go.Proofs.Yy.PTx
open Go.RowKit Go.Proofs.Yy.Z Go.Proofs.Yw.PrintWords Go.Proofs.Yw.PrintLast Go.Proofs.Yw.PrintMore
open Go.Proofs.Yy.M
attribute [local go_sem] dP eU lV lX lW lU
attribute [local go_sem] iq ik jE jD gu gq iE iD
mutual
def aH.l0:Nat→List Int→List Int→List Int→List Int→Int→Option (List Int × List Int)
  | 0,_,_,_,_,_=>none
  | k+1,x0,x1,x6,x7,x8=>if x8≥0 then (if 0≤x8 then (if x8<(x0.length:Int) then ((some (([rd x0 x8]:List Int):List Int)).bind fun aku=>(if aku.length+x7.length<17592186044416 then ((aV.f k (aku++x7)).bind fun aft=>(aH.l1 k x0 x1 x6 aft x8 0 16777216)) else (none))) else (none)) else (none)) else ((aV.f k x6).bind fun axT=>(some (axT,x7)))
def aH.l1:Nat→List Int→List Int→List Int→List Int→Int→Int→Int→Option (List Int × List Int)
  | 0,_,_,_,_,_,_,_=>none
  | k+1,x0,x1,x6,x7,x8,x10,x11=>if (wrap64 (x11-x10)) > 1 then ((aI.f k x1 (wrap64 (Int.tdiv (wrap64 (x10+x11)) 2))).bind fun atg=>((bV.f k atg x7).bind fun axU=>(if axU≤0 then (aH.l1 k x0 x1 x6 x7 x8 (wrap64 (Int.tdiv (wrap64 (x10+x11)) 2)) x11) else (aH.l1 k x0 x1 x6 x7 x8 x10 (wrap64 (Int.tdiv (wrap64 (x10+x11)) 2)))))) else (if 0≤x8 then (if x8<(x6.length:Int) then ((aI.f k x1 x10).bind fun ath=>((df.f k x7 ath).bind fun ati=>(aH.l0 k x0 x1 (x6.set (x8:Int).toNat x10) ati (wrap64 (x8-1))))) else (none)) else (none))
end
def aH.f (k:Nat)(l0:List Int)(l1:List Int):Option (List Int × List Int):=if 0≤(l0.length:Int) then (if ((l0.length:Int):Int).toNat≤35184372088832 then (aH.l0 k l0 l1 (List.replicate ((l0.length:Int):Int).toNat 0) ([]:List Int) (wrap64 ((l0.length:Int)-1))) else (none)) else (none)
theorem aH.calls (k:Nat)(A0:Option Addr)(c0:Nat)(l0:List Int)(A1:Option Addr)(c1:Nat)(l1:List Int)(r1:List Int)(r2:List Int)(w:World)(hr0:Kd.C (Kd.int .i64) w A0 l0.length l0)(hc0:l0.length≤c0)(hr1:Kd.C (Kd.int .i64) w A1 l1.length l1)(hc1:l1.length≤c1)(h:aH.f k l0 l1=some (r1,r2)) :
    Calls Tryz.prog 102 #[.slice A0 l0.length c0,.slice A1 l1.length c1] w fun e w' => ∃ v0_ v1_:Value,e=.returned (.tuple #[v0_,v1_])∧Kd.R (Kd.int .i64) 3 w' w.heap.size (fun k_=>some k_≠(v1_:Value).ownBlock) v0_ r1∧Kd.R (Kd.int .i64) 3 w' w.heap.size (fun k_=>some k_≠(v0_:Value).ownBlock) v1_ r2∧Below w.heap.size w w':=by
 have HR0:=am hr0;have HC0:=am hc0;clear hr0 hc0;have HR1:=am hr1;have HC1:=am hc1;clear hr1 hc1;have HB:=am (Below.refl w.heap.size w);have H:=am h;unfold aH.f at H;clear h;replace H:=zit H;obtain⟨pK,Kv,H⟩:=H;replace H:=zit H;obtain⟨jV,rZ,H⟩:=H;generalize akv:(List.replicate ((l0.length:Int):Int).toNat 0:List Int)=aFE at H;have akw:=zY akv;clear akv
 go_enter Tryz.func102,Tryz.ntmps102
 go_wp2_with (first|((with_reducible refine aA (N:=17) rfl ?_);refine Kd.wE (Kd.int .i64) _ 3 rfl (N:=17) rfl 70 _ _ rfl (l0.length:Int) (by first|rfl|(simp only[List.length_drop,List.length_take];rfl)) (by first|rfl|(simp only[List.length_drop,List.length_take];rfl)) Tryz.underlying70 (.int .i64 0) 8 info3 rfl (by decide) (by omega) 0 (ok:=fun _=>True) (okp:=fun _=>True) rfl (fun _ hk=>hk) trivial (zD) (Nat.le_trans (Nat.mul_le_mul_right _ (zD:(l0.length:Int).toNat≤35184372088832)) (by omega)) (Below.refl _ _) (Nat.le_refl _) ?_;intro aaK w5 ho6 hb hg_ jO;clear hg_ jO;(first|rw[← akw.out]at ho6|(simp only[Int.reduceToNat]at ho6;rw[← akw.out]at ho6));have atj:=am (Kd.dZ ho6 (zS HB));replace HB:=zBs HB hb;clear hb ho6))
 go_loopg [7,8] k (fun kq v7 v8 w' => ∃ (mr:List Int) (lC:List Int) (lF:Int),v8=.int .i64 lF∧ae (aH.l0 kq l0 l1 mr lC lF=some (r1,r2))∧ae (kq≤k)∧ae (Kd.R (Kd.int .i64) 3 w' w.heap.size (fun k_=>some k_≠(v7:Value).ownBlock) aaK mr)∧ae (Kd.R (Kd.int .i64) 3 w' w.heap.size (fun k_=>some k_≠(aaK:Value).ownBlock) v7 lC)∧ae (Below w.heap.size w w'))
 case atStart=>exact⟨(aFE),(([]:List Int)),(wrap64 ((l0.length:Int)-1)),z1,H,zL,⟨by (with_reducible repeat (first|apply Kd.cO|apply Kd.bZ|apply Kd.dK));exact Kd.dm atj.out (fun _ hk=>(by simp[Value.ownBlock]))⟩,⟨zN⟩,⟨zB HB⟩⟩
 clear H;obtain⟨mr,lC,lF,rfl,H,HK1,o5,jI,HB⟩:=hrel;obtain _|k1:=gk
 ·exact zz H rfl
 simp only[aH.l0]at H;replace H:=yD H;rcases H with⟨yE,H⟩|⟨yE,H⟩;replace H:=zid H;obtain⟨uz,H⟩:=H;replace H:=zid H;obtain⟨vF,H⟩:=H;obtain⟨aku,akx,H⟩:=zw H;replace H:=zil H;obtain⟨LZ,H⟩:=H;generalize aky:(aku++lC:List Int)=atl at H;have atm:=zY aky;clear aky;replace H:=zo H;obtain⟨aft,A11,H⟩:=H;have atn:0≤(lF:Int):=zD;have ato:lF<(l0.length:Int):=zD;obtain⟨aFF,aFG,IL⟩:=Kd.dQ HR0.out lF atn ato
 cases aFG
 replace IL:=(HB.out.cell (World.block_lt_of_cell? w _ IL)).trans IL;replace atn:=eq_true atn;replace ato:=eq_true ato;rotate_left;replace H:=zo H;obtain⟨axT,A39,H⟩:=H;obtain⟨rfl,rfl⟩:=zJ2 H;obtain⟨atp,atq,aFH⟩:=Kd.dU o5.out;subst aFH;rotate_left
 all_goals (go_wp2_with (first|((with_reducible refine aA (N:=29) rfl ?_);refine Kd.Bq (Kd.int .i64) _ 3 ?hg (N:=29) ?hd (xs:=([rd l0 lF]:List Int)) (inner := [.int .i64 (rd l0 lF)]) (ok:=fun _=>True) (okp:=fun _=>True) ?hr ?hp (fun _ hk=>hk) trivial (Below.refl _ _) (Nat.le_refl _) (by simp) ?_;(case hd=>rfl);(case hg=>rfl);(case hr=>first|(go_simp;done)|(go_simp;rfl));(case hp=>exact (jM.one (show Kd.M (Kd.int .i64) _ _ _ (rd l0 lF) [.int .i64 (rd l0 lF)] from rfl) (jM.none _ _)));intro aFI w12 aeO hb hg_ jO;clear hg_ jO;(first|rw[← akx.out]at aeO|(simp only[Int.reduceToNat]at aeO;rw[← akx.out]at aeO));have akz:=am (Kd.dZ (Kd.jc (Kd.jc aeO (Kd.qg (zR o5))) (Kd.qg (zR jI))) (zS HB));replace o5:=am (Kd.fQ (zR o5) (Kd.fP aeO) hb);replace jI:=am (Kd.fQ (zR jI) (Kd.fP aeO) hb);replace HB:=zBs HB hb;clear hb aeO;obtain⟨ajm,afk,afl⟩:=Kd.dU jI.out;subst afl)|((with_reducible refine dW (b := .append) (xs:=#[.tmp 30,.tmp 31]) rfl ?_);at_builtin;refine Kd.rC (Kd.int .i64) (w0:=w) w.heap.size rfl (.tmp 30) (.tmp 31) 70 3 (.int .i64 0) 8 rfl Tryz.underlying70 info3 rfl (by decide) (by omega) aFI aku lC _ _ _ (fun k_=>some k_≠(aaK:Value).ownBlock∧some k_≠(.slice ajm lC.length afk:Value).ownBlock) (fun _=>False) rfl rfl ?aO ?aR (fun _ _ h=>h) (fun _ h=>h.elim) ?aF ?aB ?aS ?aL ?_;(case aR=>repeat (first|exact (Kd.az jI.out).2.2|(with_reducible refine Kd.kJ ?_ _)|(with_reducible refine Kd.kM ?_ _)|(with_reducible refine Kd.ny ?_)));(case aB=>exact (zB HB));(case aF=>exact (fun k_ hk=>⟨Kd.fresh' (Kd.qg (zR o5)) k_ hk,Kd.fresh' (Kd.qg (zR jI)) k_ hk⟩));(case aO=>exact (by (with_reducible repeat (first|apply Kd.cO|apply Kd.bZ|apply Kd.dK));exact Kd.dm akz.out (fun _ hk=>⟨hk.1.2,hk.2⟩)));(case aS=>exact (zS HB));(case aL=>have:=LZ.out;omega);intro aK9 w14 ho hb hg hat;rw[← atm.out]at ho;replace o5:=am (Kd.uI (ok:=(fun k_=>some k_≠(.slice ajm lC.length afk:Value).ownBlock)) (zR o5) hg hat);replace jI:=am (Kd.uI (ok:=(fun k_=>some k_≠(aaK:Value).ownBlock)) (zR jI) hg hat);replace HB:=am (hb);have aeP:=am (ho);clear akz ho hb hg hat;obtain⟨Gi,Bj,QF⟩:=Kd.dU aeP.out;subst QF)|((with_reducible refine af (f:=141) rfl ?_);refine zc (some 34) Tryz.func141 #[.slice Gi atl.length Bj] (aV.calls _ (fun k_=>some k_=(.slice Gi atl.length Bj:Value).ownBlock) (.slice Gi atl.length Bj) _ _ w _ ?eu (Kd.jZ rfl aeP.out) A11.out) ?_;(case eu=>repeat (first|(with_reducible first|exact HB.out|apply bn|apply aJ|apply aW)|exact HB.out));rintro e w17 ⟨akA,rfl,ho0,hb,hkp⟩;refine⟨_,rfl,?_⟩;have atr:=am (Kd.dm (ok':=fun k_=>some k_≠(aaK:Value).ownBlock∧some k_≠(.slice ajm lC.length afk:Value).ownBlock) ho0 (fun k_ hk_=>⟨Or.elim hk_ (fun hs_=>fun e_=>(((o5.out).1 k_ e_.symm).2) hs_) (fun hn_=>(Kd.fresh' (Kd.qg (zR o5)) k_ hn_)),Or.elim hk_ (fun hs_=>fun e_=>(((jI.out).1 k_ e_.symm).2) hs_) (fun hn_=>(Kd.fresh' (Kd.qg (zR jI)) k_ hn_))⟩));replace o5:=am (Kd.dm (ok':=fun k_=>some k_≠(.slice ajm lC.length afk:Value).ownBlock∧some k_≠(akA:Value).ownBlock) (Kd.rY (o5.out) hkp (fun k_ hk_ hs_=>(hk_.2) hs_)) (fun k_ hk_=>⟨hk_.1.1,fun e_=>Or.elim (ho0.1 k_ e_.symm) (fun hs_=>hk_.2.1 hs_) (fun hn_=>Nat.not_le.2 hk_.2.2 hn_)⟩));replace jI:=am (Kd.dm (ok':=fun k_=>some k_≠(aaK:Value).ownBlock∧some k_≠(akA:Value).ownBlock) (Kd.rY (jI.out) hkp (fun k_ hk_ hs_=>(hk_.2) hs_)) (fun k_ hk_=>⟨hk_.1.1,fun e_=>Or.elim (ho0.1 k_ e_.symm) (fun hs_=>hk_.2.1 hs_) (fun hn_=>Nat.not_le.2 hk_.2.2 hn_)⟩));replace HB:=am (hb);clear aeP hb hkp ho0)|((with_reducible refine af (f:=141) rfl ?_);refine zc (some 63) Tryz.func141 #[.slice atp mr.length atq] (aV.calls _ (fun k_=>some k_=(.slice atp mr.length atq:Value).ownBlock) (.slice atp mr.length atq) _ _ w _ ?eu (Kd.jZ rfl o5.out) A39.out) ?_;(case eu=>repeat (first|(with_reducible first|exact HB.out|apply bn|apply aJ|apply aW)|exact HB.out));rintro e w41 ⟨aFJ,rfl,ho0,hb,hkp⟩;refine⟨_,rfl,?_⟩;have att:=am (Kd.dm (ok':=fun k_=>some k_≠(u7:Value).ownBlock) ho0 (fun k_ hk_=>Or.elim hk_ (fun hs_=>fun e_=>(((jI.out).1 k_ e_.symm)) hs_) (fun hn_=>(Kd.fresh' (Kd.qg (zR jI)) k_ hn_))));replace jI:=am (Kd.dm (ok':=fun k_=>some k_≠(aFJ:Value).ownBlock) (Kd.rY (jI.out) hkp (fun k_ hk_ hs_=>(hk_) hs_)) (fun k_ hk_=>fun e_=>Or.elim (ho0.1 k_ e_.symm) (fun hs_=>hk_.2.1 hs_) (fun hn_=>Nat.not_le.2 hk_.2.2 hn_)));replace HB:=am (hb);clear o5 hb hkp ho0)))
 ·go_loopg [10,11] k1 (fun kq v10 v11 w' => ∃ (qP:Int) (Ny:Int),v10=.int .i64 qP∧v11=.int .i64 Ny∧ae (aH.l1 kq l0 l1 mr aft lF qP Ny=some (r1,r2))∧ae (kq≤k1)∧ae (Kd.R (Kd.int .i64) 3 w' w.heap.size (fun k_=>some k_≠(akA:Value).ownBlock) aaK mr)∧ae (Kd.R (Kd.int .i64) 3 w' w.heap.size (fun k_=>some k_≠(aaK:Value).ownBlock) akA aft)∧ae (Below w.heap.size w w'))
  case atStart=>exact⟨(0),(16777216),z1,z1,H,zL,⟨by (with_reducible repeat (first|apply Kd.cO|apply Kd.bZ|apply Kd.dK));exact Kd.dm o5.out (fun _ hk=>hk.2)⟩,⟨by (with_reducible repeat (first|apply Kd.cO|apply Kd.bZ|apply Kd.dK));exact Kd.dm atr.out (fun _ hk=>hk.1)⟩,⟨zB HB⟩⟩
  clear H
  try clear hx8
  try clear IL
  obtain⟨qP,Ny,rfl,rfl,H,HK2,o5,jI,HB⟩:=hrel;obtain _|k2:=gk
  ·exact zz H rfl
  simp only[aH.l1]at H;replace H:=AV H;rcases H with⟨YX,H⟩|⟨YX,H⟩;replace H:=zo H;obtain⟨atg,A19,H⟩:=H;replace H:=zo H;obtain⟨axU,A20,H⟩:=H;replace H:=zsd H;rcases H with⟨BF,H⟩|⟨BF,H⟩;rotate_left;rotate_left;replace H:=zid H;obtain⟨zQ,H⟩:=H;replace H:=zid H;obtain⟨EU,H⟩:=H;generalize akB:(mr.set (lF:Int).toNat qP:List Int)=axV at H;have atu:=zY akB;clear akB;replace H:=zo H;obtain⟨ath,A31,H⟩:=H;replace H:=zo H;obtain⟨ati,A32,H⟩:=H;have p30:0≤(lF:Int):=zD;have q30:(lF:Int)<((mr.length:Int):Int):=zD;obtain⟨akC,Xp,als,axW,aFK,aLa,axX⟩:=Kd.oP o5.out (by omega)
  (first|cases als|(injection als with ea_ en_ ec_;(first|subst ea_|(injection ea_ with ea_;subst ea_));subst ec_;clear en_))
  have aFL:=am axW;have aLb:=am axX;clear axW aFK axX;obtain⟨axY,axZ⟩:=Kd.iR 0 o5.out (lF:Int) p30 q30;replace p30:=eq_true p30;replace q30:=eq_true q30;have atv:=Kd.mX o5.out (lF:Int) qP;rotate_left
  all_goals (go_wp2_with (first|((with_reducible refine fO (t:=3) (p:=55) rfl ?_);refine ed (t:=3) (p:=55) (v:=?ax0) (w1:=(wr.setCell ⟨akC,(lF:Int).toNat,none⟩ (.int .i64 qP))) ?hg ?ho ?hn ?hr ?_;(case ho=>rfl);(case hg=>rfl);(case hn=>rfl);(case hr=>first|(go_simp;done)|(go_simp;rfl));intro w34 hw;have hg:wr.grownBy w34 (some akC):=(by rw[hw];exact atv.2);have hp_:Kd.R (Kd.int .i64) 3 w34 w.heap.size (fun k_=>some k_≠(akA:Value).ownBlock) (.slice (some ⟨akC,0,none⟩) mr.length Xp) axV:=(by rw[hw,atu.out];exact atv.1);clear atv;replace o5:=am (hp_);replace jI:=am (Kd.uI (v:=(.slice (some ⟨akC,0,none⟩) mr.length Xp)) (v1:=(.slice (some ⟨akC,0,none⟩) mr.length Xp)) (ok:=(fun _=>True)) (by (with_reducible repeat (first|apply Kd.cO|apply Kd.bZ|apply Kd.dK));exact Kd.dm jI.out (fun _ hk=>⟨trivial,hk⟩)) hg (.inl rfl));replace HB:=am ((by rw[hw];exact bF (HB.out) aFL.out:Below w.heap.size w w34));clear hg hw hp_)|((with_reducible refine af (f:=82) rfl ?_);refine zc (some 58) Tryz.func82 #[.slice A1 l1.length c1,.int .i64 qP] (aI.calls _ _ _ _ _ _ _ (zC (Kd.ku HR1.out HB.out)) HC1.out A31.out) ?_;rintro e w35 ⟨aLc,rfl,ho0,hb⟩;refine⟨_,rfl,?_⟩;have Q4:=am (Kd.dZ (Kd.jc (Kd.jc ho0 (Kd.qg (zR o5))) (Kd.qg (zR jI))) (zS HB));replace o5:=am (Kd.fQ (zR o5) (Kd.fP ho0) hb);replace jI:=am (Kd.fQ (zR jI) (Kd.fP ho0) hb);replace HB:=zBs HB hb;clear hb ho0;obtain⟨akD,akE,atw⟩:=Kd.dU jI.out;subst atw;obtain⟨air,ais,adC⟩:=Kd.dU Q4.out;subst adC)|((with_reducible refine af (f:=163) rfl ?_);refine zc (some 61) Tryz.func163 #[.slice akD aft.length akE,.slice air ath.length ais] (df.calls _ _ _ _ _ _ _ _ _ (zC ((Kd.az jI.out).2.2)) ((Kd.az jI.out).2.1) (zC ((Kd.az Q4.out).2.2)) ((Kd.az Q4.out).2.1) A32.out) ?_;rintro e w38 ⟨aLd,rfl,ho0,hb⟩;refine⟨_,rfl,?_⟩;have atx:=am (Kd.dZ (Kd.jc (Kd.jc (Kd.jc ho0 (Kd.qg (zR o5))) (Kd.qg (zR jI))) (Kd.qg (zR Q4))) (zS HB));replace o5:=am (Kd.fQ (zR o5) (Kd.fP ho0) hb);replace jI:=am (Kd.fQ (zR jI) (Kd.fP ho0) hb);replace Q4:=am (Kd.fQ (zR Q4) (Kd.fP ho0) hb);replace HB:=zBs HB hb;clear hb ho0)|((with_reducible refine af (f:=82) rfl ?_);refine zc (some 45) Tryz.func82 #[.slice A1 l1.length c1,.int .i64 (wrap64 (Int.tdiv (wrap64 (qP+Ny)) 2))] (aI.calls _ _ _ _ _ _ _ (zC (Kd.ku HR1.out HB.out)) HC1.out A19.out) ?_;rintro e w22 ⟨aLe,rfl,ho0,hb⟩;refine⟨_,rfl,?_⟩;have aeQ:=am (Kd.dZ (Kd.jc (Kd.jc ho0 (Kd.qg (zR o5))) (Kd.qg (zR jI))) (zS HB));replace o5:=am (Kd.fQ (zR o5) (Kd.fP ho0) hb);replace jI:=am (Kd.fQ (zR jI) (Kd.fP ho0) hb);replace HB:=zBs HB hb;clear hb ho0;obtain⟨DX,yl,Vy⟩:=Kd.dU aeQ.out;subst Vy;obtain⟨OM,KA,MG⟩:=Kd.dU jI.out;subst MG)|((with_reducible refine af (f:=140) rfl ?_);refine zc (some 48) Tryz.func140 #[.slice DX atg.length yl,.slice OM aft.length KA] (bV.calls _ _ _ _ _ _ _ _ _ (zC ((Kd.az aeQ.out).2.2)) ((Kd.az aeQ.out).2.1) (zC ((Kd.az jI.out).2.2)) ((Kd.az jI.out).2.1) A20.out) ?_;rintro e w' ⟨rfl,⟨nd,rfl⟩⟩;refine⟨_,rfl,?_⟩)))
  ·go_roundg k2
   case measure=>have:=HK1.out;have:=HK2.out;omega
   case rel=>exact⟨(wrap64 (Int.tdiv (wrap64 (qP+Ny)) 2)),(Ny),z1,z1,H,⟨by have:=HK1.out;have:=HK2.out;omega⟩,⟨by (with_reducible repeat (first|apply Kd.cO|apply Kd.bZ|apply Kd.dK));exact Kd.dm o5.out (fun _ hk=>hk.1)⟩,⟨by (with_reducible repeat (first|apply Kd.cO|apply Kd.bZ|apply Kd.dK));exact Kd.dm jI.out (fun _ hk=>hk.1)⟩,⟨zB HB⟩⟩
  ·go_roundg k2
   case measure=>have:=HK1.out;have:=HK2.out;omega
   case rel=>exact⟨(qP),(wrap64 (Int.tdiv (wrap64 (qP+Ny)) 2)),z1,z1,H,⟨by have:=HK1.out;have:=HK2.out;omega⟩,⟨by (with_reducible repeat (first|apply Kd.cO|apply Kd.bZ|apply Kd.dK));exact Kd.dm o5.out (fun _ hk=>hk.1)⟩,⟨by (with_reducible repeat (first|apply Kd.cO|apply Kd.bZ|apply Kd.dK));exact Kd.dm jI.out (fun _ hk=>hk.1)⟩,⟨zB HB⟩⟩
  go_roundg k2
  case measure=>have:=HK1.out;have:=HK2.out;omega
  case rel=>exact⟨(axV),(ati),(wrap64 (lF-1)),z1,H,⟨by have:=HK1.out;have:=HK2.out;omega⟩,⟨by (with_reducible repeat (first|apply Kd.cO|apply Kd.bZ|apply Kd.dK));exact Kd.dm o5.out (fun _ hk=>hk.2)⟩,⟨by (with_reducible repeat (first|apply Kd.cO|apply Kd.bZ|apply Kd.dK));exact Kd.dm atx.out (fun _ hk=>hk.1.1.2)⟩,⟨zB HB⟩⟩
 go_ret2
 exact⟨_,_,z2,zR att,zR jI,zB HB⟩
def bT.j0:Nat→Int→List Int→List Int→Int→Bool→Bool→ByteArray→Int→Option (Int)
  | 0,_,_,_,_,_,_,_,_=>none
  | k+1,x0,x6,x7,x8,aty,aeR,atz,atA=>(gB.f k x6 x8).bind fun aaL=>((aH.f k aaL x7).bind fun Xa=>((ay.f k aeR Xa.1 (wrap64 (-x8)) (decide ((Xa.2.length:Int) > 0))).bind fun AC=>((di.f k x0 AC.1 AC.2.1 AC.2.2.1 AC.2.2.2.1 AC.2.2.2.2.1 AC.2.2.2.2.2).bind fun alF=>(some alF))))
def bT.f (k:Nat)(a0:Int)(kG:Bool)(jY:Bool)(jP:ByteArray)(kD:Int):Option (Int):=(au.f k kG jY jP kD).bind fun ug=>(if ug.1=true then ((bJ.f k (wrap64 (a0-1))).bind fun ax1=>(some ax1)) else (if ug.2.2.1.toList=([48]:List UInt8) then (some 0) else (if (wrap64 ((ug.2.2.1.size:Int)+ug.2.2.2)) > 400 then ((ay.f k ug.2.1 (([1]:List Int)) 4000 false).bind fun Q5=>((di.f k a0 Q5.1 Q5.2.1 Q5.2.2.1 Q5.2.2.2.1 Q5.2.2.2.2.1 Q5.2.2.2.2.2).bind fun ax2=>(some ax2))) else (if (wrap64 ((ug.2.2.1.size:Int)+ug.2.2.2))<(-400) then ((ay.f k ug.2.1 (([1]:List Int)) (-4000) false).bind fun Q7=>((di.f k a0 Q7.1 Q7.2.1 Q7.2.2.1 Q7.2.2.2.1 Q7.2.2.2.2.1 Q7.2.2.2.2.2).bind fun ax3=>(some ax3))) else ((bU.f k ug.2.2.1).bind fun Et=>(if ug.2.2.2≥0 then ((dB.f k ug.2.2.2).bind fun afu=>((aC.f k Et afu).bind fun aeS=>((ay.f k ug.2.1 aeS 0 false).bind fun AL=>((di.f k a0 AL.1 AL.2.1 AL.2.2.1 AL.2.2.2.1 AL.2.2.2.2.1 AL.2.2.2.2.2).bind fun alG=>(some alG))))) else ((dB.f k (wrap64 (-ug.2.2.2))).bind fun IM=>((bg.f k IM).bind fun aaM=>((bg.f k Et).bind fun aaN=>(if (wrap64 ((wrap64 (aaM-aaN))+140))<0 then (bT.j0 k a0 Et IM 0 ug.1 ug.2.1 ug.2.2.1 ug.2.2.2) else (bT.j0 k a0 Et IM (wrap64 ((wrap64 (aaM-aaN))+140)) ug.1 ug.2.1 ug.2.2.1 ug.2.2.2)))))))))))
theorem bT.calls (k:Nat)(a0:Int)(kG:Bool)(jY:Bool)(jP:ByteArray)(kD:Int)(r:Int)(w:World)(h:bT.f k a0 kG jY jP kD=some r) :
    Calls Tryz.prog 45 #[.int .i64 a0,.agg #[.bool kG,.bool jY,.string jP,.int .i64 kD]] w fun e w'=>e=.returned (.int .u64 r)∧Below w.heap.size w w':=by
 have Rf:=Tryz.underlying23;have HB:=am (Below.refl w.heap.size w);have H:=am h;unfold bT.f at H;clear h;replace H:=zo H;obtain⟨⟨aFM,aeT,akF,akG⟩,A3,H⟩:=H
 try dsimp only at H
 cases aFM
 replace H:=zb0 H;replace H:=zsk H;rcases H with⟨oL,uX,H⟩|⟨oL,uX,c10,H⟩;obtain rfl:=Option.some.inj H.out;rotate_left;replace H:=AV H;rcases H with⟨xZ,H⟩|⟨xZ,H⟩;generalize akH:(([1]:List Int):List Int)=atB at H;have akI:=zY akH;clear akH;replace H:=zo H;obtain⟨⟨aLf,aLg,aLh,aLi,aLj,aLk⟩,A16,H⟩:=H
 try dsimp only at H
 replace H:=zo H;obtain⟨ax2,A17,H⟩:=H;obtain rfl:=Option.some.inj H.out;rotate_left;replace H:=zsd H;rcases H with⟨Y0,H⟩|⟨Y0,H⟩;generalize akJ:(([1]:List Int):List Int)=atC at H;have akK:=zY akJ;clear akJ;replace H:=zo H;obtain⟨⟨aLl,aLm,aLn,aLo,aLp,aLq⟩,A28,H⟩:=H
 try dsimp only at H
 replace H:=zo H;obtain⟨ax3,A29,H⟩:=H;obtain rfl:=Option.some.inj H.out;rotate_left;replace H:=zo H;obtain⟨Et,A39,H⟩:=H;replace H:=yD H;rcases H with⟨aiU,H⟩|⟨aiU,H⟩;replace H:=zo H;obtain⟨afu,A41,H⟩:=H;replace H:=zo H;obtain⟨aeS,A42,H⟩:=H;replace H:=zo H;obtain⟨⟨aLr,aLs,aLt,aLu,aLv,aLw⟩,A43,H⟩:=H
 try dsimp only at H
 replace H:=zo H;obtain⟨alG,A44,H⟩:=H;obtain rfl:=Option.some.inj H.out;rotate_left
 ·replace H:=zo H
  obtain⟨IM,A59,H⟩:=H;replace H:=zo H;obtain⟨aaM,A60,H⟩:=H;replace H:=zo H;obtain⟨aaN,A61,H⟩:=H
  go_enter Tryz.func45,Tryz.ntmps45
  go_upto_if 71 with (first|((with_reducible refine aA (N:=3) rfl ?_);refine zx 3 23 #[.bool kG,.bool jY,.string jP,.int .i64 kD] ?_;intro akL hg w63 hbox hb;have n0_:=zBs HB hb;have n1_:=am (hbox);have n2_:=zG hg HB;have n3_:=zG hg HB;clear HB;have HB:=n0_;have jk:=n1_;have atD:=n2_;have Xb:=n3_;clear n0_ n1_ n2_ n3_;clear hb hbox hg;obtain⟨_,_,_,_,_,_,_,_⟩:=zf4 jk)|((with_reducible refine af (f:=72) rfl ?_);refine jS (some 12) rfl rfl Tryz.func72 (by kernel_rfl) rfl #[.agg #[.bool kG,.bool jY,.string jP,.int .i64 kD]] rfl (by (try simp only[List.map_toArray,List.map_cons,List.map_nil]);first|done|rfl|(simp only[List.length_drop,List.length_take];rfl)) ?_;(with_reducible refine (au.calls k kG jY jP kD false aeT akF akG _ A3.out).mono ?_);rintro e w65 ⟨rfl,hb⟩;refine⟨_,rfl,?_⟩;have n0_:=zKb jk hb;have n1_:=zBs HB hb;clear jk;clear HB;have jk:=n0_;have HB:=n1_;clear n0_ n1_;(try clear hb);(try clear hb2);(try clear hk);(try clear hi);obtain⟨_,_,_,_,_,_,_,_⟩:=zf4 jk)|((with_reducible refine af (f:=39) rfl ?_);refine jS (some 45) rfl rfl Tryz.func39 (by kernel_rfl) rfl #[.string akF] rfl (by (try simp only[List.map_toArray,List.map_cons,List.map_nil]);first|done|rfl|(simp only[List.length_drop,List.length_take];rfl)) ?_;(with_reducible refine (bU.calls k akF Et _ A39.out).mono ?_);rintro e w67 ⟨aFN,rfl,ho0,hb⟩;refine⟨_,rfl,?_⟩;have n0_:=am (Kd.dZ ho0 (zS HB));have n1_:=am (eG (zKp jk) hb);have n2_:=zBs HB hb;clear jk;clear HB;have sO:=n0_;have jk:=n1_;have HB:=n2_;clear n0_ n1_ n2_;(try clear hb);(try clear hb2);(try clear hk);(try clear hi);(try clear ho0);obtain⟨_,_,_,_,_,_,_,_⟩:=zf4 jk)|((with_reducible refine af (f:=87) rfl ?_);refine jS (some 63) rfl rfl Tryz.func87 (by kernel_rfl) rfl #[.int .i64 (wrap64 (-akG))] rfl (by (try simp only[List.map_toArray,List.map_cons,List.map_nil]);first|done|rfl|(simp only[List.length_drop,List.length_take];rfl)) ?_;(with_reducible refine (dB.calls k (wrap64 (-akG)) IM _ A59.out).mono ?_);rintro e w69 ⟨aLx,rfl,ho0,hb⟩;refine⟨_,rfl,?_⟩;have n0_:=am (Kd.fQ (zR sO) (Kd.fP ho0) hb);have n1_:=am (Kd.dZ (Kd.jc ho0 (Kd.qg (zR sO))) (zS HB));have n2_:=zKb jk hb;have n3_:=zBs HB hb;clear sO;clear jk;clear HB;have sO:=n0_;have Xc:=n1_;have jk:=n2_;have HB:=n3_;clear n0_ n1_ n2_ n3_;(try clear hb);(try clear hb2);(try clear hk);(try clear hi);(try clear ho0);obtain⟨Rt,Ru,ait⟩:=Kd.dU Xc.out;subst ait)|((with_reducible refine af (f:=101) rfl ?_);refine jS (some 65) rfl rfl Tryz.func101 (by kernel_rfl) rfl #[.slice Rt IM.length Ru] rfl (by (try simp only[List.map_toArray,List.map_cons,List.map_nil]);first|done|rfl|(simp only[List.length_drop,List.length_take];rfl)) ?_;(with_reducible refine (bg.calls k _ _ IM aaM _ ?eu ?kw A60.out).mono ?_);(case eu=>repeat (first|exact (Kd.az Xc.out).2.2|(with_reducible refine Kd.kJ ?_ _)|(with_reducible refine Kd.kM ?_ _)|(with_reducible refine Kd.ny ?_)));(case kw=>exact (Kd.az Xc.out).2.1);rintro e w' ⟨rfl,⟨nd,rfl⟩⟩;refine⟨_,rfl,?_⟩;obtain⟨aeU,aeV,aFO⟩:=Kd.dU sO.out;subst aFO)|((with_reducible refine af (f:=101) rfl ?_);refine jS (some 67) rfl rfl Tryz.func101 (by kernel_rfl) rfl #[.slice aeU Et.length aeV] rfl (by (try simp only[List.map_toArray,List.map_cons,List.map_nil]);first|done|rfl|(simp only[List.length_drop,List.length_take];rfl)) ?_;(with_reducible refine (bg.calls k _ _ Et aaN _ ?eu ?kw A61.out).mono ?_);(case eu=>repeat (first|exact (Kd.az sO.out).2.2|(with_reducible refine Kd.kJ ?_ _)|(with_reducible refine Kd.kM ?_ _)|(with_reducible refine Kd.ny ?_)));(case kw=>exact (Kd.az sO.out).2.1);rintro e w' ⟨rfl,⟨nd,rfl⟩⟩;refine⟨_,rfl,?_⟩))
  (try simp only[Act.put,List.setIfInBounds_toArray,List.set_cons_zero,List.set_cons_succ])
  go_cut [8] (fun v8 wc => ∃ (kq:Nat) (Xd:Int),v8=.int .i64 Xd∧ae (bT.j0 kq a0 Et IM Xd false aeT akF akG=some r)∧ae (kq≤k)∧ae (Kd.R (Kd.int .i64) 3 wc w.heap.size (fun k_=>some k_≠((.slice Rt IM.length Ru):Value).ownBlock) (.slice aeU Et.length aeV) Et)∧ae (Kd.R (Kd.int .i64) 3 wc w.heap.size (fun k_=>some k_≠((.slice aeU Et.length aeV):Value).ownBlock) (.slice Rt IM.length Ru) IM)∧ae (wc.heap[akL]? = some (.cells #[.bool false,.bool aeT,.string akF,.int .i64 akG] 23 (0,0)))∧ae (Below w.heap.size w wc))
  case first =>
   replace H:=zsd H;rcases H with⟨Xe,H⟩|⟨Xe,H⟩
   (first|rw[Xe]|(simp only[bW,fV];rw[Xe])|rw[atE]|skip)
   rotate_left
   (first|rw[Xe]|(simp only[bW,fV];rw[Xe])|rw[atE]|skip)
   rotate_left
   all_goals (go_wp2)
   ·go_meet
    case rel=>exact⟨_,(0),z1,H,⟨z5⟩,⟨by (with_reducible repeat (first|apply Kd.cO|apply Kd.bZ|apply Kd.dK));exact Kd.dm sO.out (fun _ hk=>hk.2)⟩,⟨by (with_reducible repeat (first|apply Kd.cO|apply Kd.bZ|apply Kd.dK));exact Kd.dm Xc.out (fun _ hk=>hk.2)⟩,⟨zK jk⟩,⟨zB HB⟩⟩
   go_meet
   case rel=>exact⟨_,(wrap64 ((wrap64 (aaM-aaN))+140)),z1,H,⟨z5⟩,⟨by (with_reducible repeat (first|apply Kd.cO|apply Kd.bZ|apply Kd.dK));exact Kd.dm sO.out (fun _ hk=>hk.2)⟩,⟨by (with_reducible repeat (first|apply Kd.cO|apply Kd.bZ|apply Kd.dK));exact Kd.dm Xc.out (fun _ hk=>hk.2)⟩,⟨zK jk⟩,⟨zB HB⟩⟩
  case rest =>
   obtain⟨kq,Xd,rfl,H,aLy,o5,jI,jk,HB⟩:=hcut;obtain _|aLz:=kq
   ·exact zz H rfl
   simp only[bT.j0]at H;replace H:=zo H;obtain⟨aaL,A73,H⟩:=H;replace H:=zo H;obtain⟨⟨atF,Xq⟩,A74,H⟩:=H
   (try rw[show decide ((Xq.length:Int) > 0)=decide (0<Xq.length) from decide_eq_decide.2 (by omega)]at A74)
   try dsimp only at H
   replace H:=zo H;obtain⟨⟨aLA,aLB,aLC,aLD,aLE,aLF⟩,A75,H⟩:=H
   (try rw[show decide ((Xq.length:Int) > 0)=decide (0<Xq.length) from decide_eq_decide.2 (by omega)]at A75)
   try dsimp only at H
   replace H:=zo H;obtain⟨alF,A76,H⟩:=H
   (try rw[show decide ((Xq.length:Int) > 0)=decide (0<Xq.length) from decide_eq_decide.2 (by omega)]at A76)
   obtain rfl:=Option.some.inj H.out
   go_wp2_with (first|((with_reducible refine af (f:=90) rfl ?_);refine zc (some 75) Tryz.func90 #[.slice aeU Et.length aeV,.int .i64 Xd] (gB.calls _ _ _ _ _ _ _ (zC ((Kd.az o5.out).2.2)) ((Kd.az o5.out).2.1) A73.out) ?_;rintro e w77 ⟨aLG,rfl,ho0,hb⟩;refine⟨_,rfl,?_⟩;have Eu:=am (Kd.dZ (Kd.jc (Kd.jc ho0 (Kd.qg (zR o5))) (Kd.qg (zR jI))) (zS HB));replace o5:=am (Kd.fQ (zR o5) (Kd.fP ho0) hb);replace jI:=am (Kd.fQ (zR jI) (Kd.fP ho0) hb);replace jk:=zKb jk hb;replace HB:=zBs HB hb;clear hb ho0;obtain⟨afe,aff,ald⟩:=Kd.dU Eu.out;subst ald)|((with_reducible refine af (f:=102) rfl ?_);refine zc (some 77) Tryz.func102 #[.slice afe aaL.length aff,.slice Rt IM.length Ru] (aH.calls _ _ _ _ _ _ _ _ _ _ (zC ((Kd.az Eu.out).2.2)) ((Kd.az Eu.out).2.1) (zC ((Kd.az jI.out).2.2)) ((Kd.az jI.out).2.1) A74.out) ?_;rintro e w79 ⟨aLH,aLI,rfl,ho0,ho1,hb⟩;refine⟨_,rfl,?_⟩;have ZF:=am (Kd.dZ (Kd.jc (Kd.jc (Kd.jc ho0 (Kd.qg (zR o5))) (Kd.qg (zR jI))) (Kd.qg (zR Eu))) (zS HB));have Xf:=am (Kd.dZ (Kd.jc (Kd.jc (Kd.jc ho1 (Kd.qg (zR o5))) (Kd.qg (zR jI))) (Kd.qg (zR Eu))) (zS HB));replace o5:=am (Kd.dm (Kd.FN (Kd.FN (Kd.abT (zR o5) hb) (Kd.fP ho0)) (Kd.fP ho1)) (fun _ h_=>h_.1));replace jI:=am (Kd.dm (Kd.FN (Kd.FN (Kd.abT (zR jI) hb) (Kd.fP ho0)) (Kd.fP ho1)) (fun _ h_=>h_.1));replace Eu:=am (Kd.dm (Kd.FN (Kd.FN (Kd.abT (zR Eu) hb) (Kd.fP ho0)) (Kd.fP ho1)) (fun _ h_=>h_.1));replace jk:=zKb jk hb;replace HB:=zBs HB hb;clear hb ho0 ho1;obtain⟨_,_,_,_,_,_,_,_⟩:=zf4 jk;obtain⟨atG,atH,aFP⟩:=Kd.dU Xf.out;subst aFP;obtain⟨atI,atJ,aFQ⟩:=Kd.dU ZF.out;subst aFQ)|((with_reducible refine af (f:=100) rfl ?_);refine zc (some 89) Tryz.func100 #[.bool aeT,.slice atI atF.length atJ,.int .i64 (wrap64 (-Xd)),.bool (decide (0<Xq.length))] (ay.calls _ _ (fun k_=>some k_=(.slice atI atF.length atJ:Value).ownBlock) (.slice atI atF.length atJ) _ _ _ _ _ _ _ _ _ w _ ?eu (Kd.jZ rfl ZF.out) A75.out) ?_;(case eu=>repeat (first|(with_reducible first|exact HB.out|apply bn|apply aJ|apply aW|refine bF ?_ Xb.out)|exact HB.out));rintro e w83 ⟨rfl,hb,hkp⟩;refine⟨_,rfl,?_⟩;replace o5:=am (Kd.dm (ok':=fun k_=>some k_≠(.slice Rt IM.length Ru:Value).ownBlock∧some k_≠(.slice afe aaL.length aff:Value).ownBlock∧some k_≠(.slice atG Xq.length atH:Value).ownBlock) (Kd.rY (o5.out) hkp (fun k_ hk_ hs_=>(hk_.1.2) hs_)) (fun k_ hk_=>⟨hk_.1.1.1.1,hk_.1.1.1.2,hk_.1.2⟩));replace jI:=am (Kd.dm (ok':=fun k_=>some k_≠(.slice aeU Et.length aeV:Value).ownBlock∧some k_≠(.slice afe aaL.length aff:Value).ownBlock∧some k_≠(.slice atG Xq.length atH:Value).ownBlock) (Kd.rY (jI.out) hkp (fun k_ hk_ hs_=>(hk_.1.2) hs_)) (fun k_ hk_=>⟨hk_.1.1.1.1,hk_.1.1.1.2,hk_.1.2⟩));replace jk:=am (BO (zK jk) hkp (fun hs_=>(fun e_=>(Kd.akT ZF.out jk.out (by decide)) e_) hs_));replace Eu:=am (Kd.dm (ok':=fun k_=>some k_≠(.slice aeU Et.length aeV:Value).ownBlock∧some k_≠(.slice Rt IM.length Ru:Value).ownBlock∧some k_≠(.slice atG Xq.length atH:Value).ownBlock) (Kd.rY (Eu.out) hkp (fun k_ hk_ hs_=>(hk_.1.2) hs_)) (fun k_ hk_=>⟨hk_.1.1.1.1.2,hk_.1.1.1.2,hk_.1.2⟩));replace Xf:=am (Kd.dm (ok':=fun k_=>some k_≠(.slice aeU Et.length aeV:Value).ownBlock∧some k_≠(.slice Rt IM.length Ru:Value).ownBlock∧some k_≠(.slice afe aaL.length aff:Value).ownBlock) (Kd.rY (Xf.out) hkp (fun k_ hk_ hs_=>(hk_.1.1.1) hs_)) (fun k_ hk_=>⟨hk_.1.1.1.2,hk_.1.1.2,hk_.1.2⟩));replace HB:=am (hb);clear ZF hb hkp)|((with_reducible refine af (f:=99) rfl ?_);refine zc (some 90) Tryz.func99 _ (di.calls _ _ _ _ _ _ _ _ _ _ A76.out) ?_;rintro e w84 ⟨rfl,hb⟩;refine⟨_,rfl,?_⟩;replace o5:=zRb o5 hb;replace jI:=zRb jI hb;replace Eu:=zRb Eu hb;replace Xf:=zRb Xf hb;replace jk:=zKb jk hb;replace HB:=zBs HB hb;clear hb))
   go_ret
   exact⟨z2,zB HB⟩
 replace H:=zb1 H;replace H:=zo H;obtain⟨ax1,A5,H⟩:=H;obtain rfl:=Option.some.inj H.out;rotate_left
 all_goals (go_enter Tryz.func45,Tryz.ntmps45;go_wp2_with (first|((with_reducible refine aA (N:=3) rfl ?_);refine zx 3 23 #[.bool kG,.bool jY,.string jP,.int .i64 kD] ?_;intro akL hg w45 hbox hb;have jk:=am (hbox);have atD:=zG hg HB;have Xb:=zG hg HB;replace HB:=zBs HB hb;clear hb hbox hg;obtain⟨_,_,_,_,_,_,_,_⟩:=zf4 jk)|((with_reducible refine af (f:=72) rfl ?_);refine zc (some 12) Tryz.func72 _ (au.calls _ _ _ _ _ _ _ _ _ _ A3.out) ?_;rintro e w47 ⟨rfl,hb⟩;refine⟨_,rfl,?_⟩;replace jk:=zKb jk hb;replace HB:=zBs HB hb;clear hb;obtain⟨_,_,_,_,_,_,_,_⟩:=zf4 jk)|((with_reducible refine af (f:=39) rfl ?_);refine zc (some 45) Tryz.func39 _ (bU.calls _ _ _ _ A39.out) ?_;rintro e w49 ⟨aFN,rfl,ho0,hb⟩;refine⟨_,rfl,?_⟩;have sO:=am (Kd.dZ ho0 (zS HB));replace jk:=am (eG (zKp jk) hb);replace HB:=zBs HB hb;clear hb ho0;obtain⟨_,_,_,_,_,_,_,_⟩:=zf4 jk)|((with_reducible refine af (f:=87) rfl ?_);refine zc (some 52) Tryz.func87 _ (dB.calls _ _ _ _ A41.out) ?_;rintro e w51 ⟨aLJ,rfl,ho0,hb⟩;refine⟨_,rfl,?_⟩;have E8:=am (Kd.dZ (Kd.jc ho0 (Kd.qg (zR sO))) (zS HB));replace sO:=am (Kd.fQ (zR sO) (Kd.fP ho0) hb);replace jk:=zKb jk hb;replace HB:=zBs HB hb;clear hb ho0;obtain⟨alb,alc,apN⟩:=Kd.dU sO.out;subst apN;obtain⟨ax4,ax5,aFR⟩:=Kd.dU E8.out;subst aFR)|((with_reducible refine af (f:=86) rfl ?_);refine zc (some 53) Tryz.func86 #[.slice alb Et.length alc,.slice ax4 afu.length ax5] (aC.calls _ _ _ _ _ _ _ _ _ (zC ((Kd.az sO.out).2.2)) ((Kd.az sO.out).2.1) (zC ((Kd.az E8.out).2.2)) ((Kd.az E8.out).2.1) A42.out) ?_;rintro e w54 ⟨aLK,rfl,ho0,hb⟩;refine⟨_,rfl,?_⟩;have ZG:=am (Kd.dZ (Kd.jc (Kd.jc ho0 (Kd.qg (zR sO))) (Kd.qg (zR E8))) (zS HB));replace sO:=am (Kd.fQ (zR sO) (Kd.fP ho0) hb);replace E8:=am (Kd.fQ (zR E8) (Kd.fP ho0) hb);replace jk:=zKb jk hb;replace HB:=zBs HB hb;clear hb ho0;obtain⟨_,_,_,_,_,_,_,_⟩:=zf4 jk;obtain⟨atK,atL,aFS⟩:=Kd.dU ZG.out;subst aFS)|((with_reducible refine af (f:=100) rfl ?_);refine zc (some 58) Tryz.func100 #[.bool aeT,.slice atK aeS.length atL,.int .i64 0,.bool false] (ay.calls _ _ (fun k_=>some k_=(.slice atK aeS.length atL:Value).ownBlock) (.slice atK aeS.length atL) _ _ _ _ _ _ _ _ _ w _ ?eu (Kd.jZ rfl ZG.out) A43.out) ?_;(case eu=>repeat (first|(with_reducible first|exact HB.out|apply bn|apply aJ|apply aW|refine bF ?_ Xb.out)|exact HB.out));rintro e w57 ⟨rfl,hb,hkp⟩;refine⟨_,rfl,?_⟩;replace jk:=am (BO (zK jk) hkp (fun hs_=>(fun e_=>(Kd.akT ZG.out jk.out (by decide)) e_) hs_));replace sO:=am (Kd.dm (ok':=fun k_=>some k_≠(.slice ax4 afu.length ax5:Value).ownBlock) (Kd.rY (sO.out) hkp (fun k_ hk_ hs_=>(hk_.2) hs_)) (fun k_ hk_=>hk_.1.1.2));replace E8:=am (Kd.dm (ok':=fun k_=>some k_≠(.slice alb Et.length alc:Value).ownBlock) (Kd.rY (E8.out) hkp (fun k_ hk_ hs_=>(hk_.2) hs_)) (fun k_ hk_=>hk_.1.1.2));replace HB:=am (hb);clear ZG hb hkp)|((with_reducible refine af (f:=99) rfl ?_);refine zc (some 59) Tryz.func99 _ (di.calls _ _ _ _ _ _ _ _ _ _ A44.out) ?_;rintro e w58 ⟨rfl,hb⟩;refine⟨_,rfl,?_⟩;replace sO:=zRb sO hb;replace E8:=zRb E8 hb;replace jk:=zKb jk hb;replace HB:=zBs HB hb;clear hb)|((with_reducible refine aA (N:=32) rfl ?_);refine Kd.Bq (Kd.int .i64) _ 3 ?hg (N:=32) ?hd (xs:=([1]:List Int)) (inner := [.int .i64 1]) (ok:=fun _=>True) (okp:=fun _=>True) ?hr ?hp (fun _ hk=>hk) trivial (Below.refl _ _) (Nat.le_refl _) (by simp) ?_;(case hd=>rfl);(case hg=>rfl);(case hr=>first|(go_simp;done)|(go_simp;rfl));(case hp=>exact (jM.one (show Kd.M (Kd.int .i64) _ _ _ 1 [.int .i64 1] from rfl) (jM.none _ _)));intro aLL w22 akM hb hg_ jO;clear hg_ jO;(first|rw[← akI.out]at akM|(simp only[Int.reduceToNat]at akM;rw[← akI.out]at akM));have ZH:=am (Kd.dZ akM (zS HB));replace jk:=am (eG (zKp jk) hb);replace HB:=zBs HB hb;clear hb akM;obtain⟨OM,KA,MG⟩:=Kd.dU ZH.out;subst MG)|((with_reducible refine af (f:=100) rfl ?_);refine zc (some 33) Tryz.func100 #[.bool aeT,.slice OM atB.length KA,.int .i64 4000,.bool false] (ay.calls _ _ (fun k_=>some k_=(.slice OM atB.length KA:Value).ownBlock) (.slice OM atB.length KA) _ _ _ _ _ _ _ _ _ w _ ?eu (Kd.jZ rfl ZH.out) A16.out) ?_;(case eu=>repeat (first|(with_reducible first|exact HB.out|apply bn|apply aJ|apply aW|refine bF ?_ Xb.out)|exact HB.out));rintro e w25 ⟨rfl,hb,hkp⟩;refine⟨_,rfl,?_⟩;replace jk:=am (BO (zK jk) hkp (fun hs_=>(fun e_=>(Kd.akT ZH.out jk.out (by decide)) e_) hs_));replace HB:=am (hb);clear ZH hb hkp)|((with_reducible refine af (f:=99) rfl ?_);refine zc (some 34) Tryz.func99 _ (di.calls _ _ _ _ _ _ _ _ _ _ A17.out) ?_;rintro e w26 ⟨rfl,hb⟩;refine⟨_,rfl,?_⟩;replace jk:=zKb jk hb;replace HB:=zBs HB hb;clear hb)|((with_reducible refine aA (N:=40) rfl ?_);refine Kd.Bq (Kd.int .i64) _ 3 ?hg (N:=40) ?hd (xs:=([1]:List Int)) (inner := [.int .i64 1]) (ok:=fun _=>True) (okp:=fun _=>True) ?hr ?hp (fun _ hk=>hk) trivial (Below.refl _ _) (Nat.le_refl _) (by simp) ?_;(case hd=>rfl);(case hg=>rfl);(case hr=>first|(go_simp;done)|(go_simp;rfl));(case hp=>exact (jM.one (show Kd.M (Kd.int .i64) _ _ _ 1 [.int .i64 1] from rfl) (jM.none _ _)));intro aLM w34 akN hb hg_ jO;clear hg_ jO;(first|rw[← akK.out]at akN|(simp only[Int.reduceToNat]at akN;rw[← akK.out]at akN));have ZI:=am (Kd.dZ akN (zS HB));replace jk:=am (eG (zKp jk) hb);replace HB:=zBs HB hb;clear hb akN;obtain⟨akD,akE,atw⟩:=Kd.dU ZI.out;subst atw)|((with_reducible refine af (f:=100) rfl ?_);refine zc (some 41) Tryz.func100 #[.bool aeT,.slice akD atC.length akE,.int .i64 (-4000),.bool false] (ay.calls _ _ (fun k_=>some k_=(.slice akD atC.length akE:Value).ownBlock) (.slice akD atC.length akE) _ _ _ _ _ _ _ _ _ w _ ?eu (Kd.jZ rfl ZI.out) A28.out) ?_;(case eu=>repeat (first|(with_reducible first|exact HB.out|apply bn|apply aJ|apply aW|refine bF ?_ Xb.out)|exact HB.out));rintro e w37 ⟨rfl,hb,hkp⟩;refine⟨_,rfl,?_⟩;replace jk:=am (BO (zK jk) hkp (fun hs_=>(fun e_=>(Kd.akT ZI.out jk.out (by decide)) e_) hs_));replace HB:=am (hb);clear ZI hb hkp)|((with_reducible refine af (f:=99) rfl ?_);refine zc (some 42) Tryz.func99 _ (di.calls _ _ _ _ _ _ _ _ _ _ A29.out) ?_;rintro e w38 ⟨rfl,hb⟩;refine⟨_,rfl,?_⟩;replace jk:=zKb jk hb;replace HB:=zBs HB hb;clear hb)|((with_reducible refine af (f:=27) rfl ?_);refine zc (some 17) Tryz.func27 _ (bJ.calls _ _ _ _ A5.out) ?_;rintro e w' ⟨rfl,⟨nd,rfl⟩⟩;refine⟨_,rfl,?_⟩)))
 ·go_ret
  exact⟨z2,zB HB⟩
 ·go_ret
  exact⟨z2,zB HB⟩
 ·go_ret
  exact⟨z2,zB HB⟩
 ·go_ret
  exact⟨z2,zB HB⟩
 go_ret
 exact⟨z2,zB HB⟩
def iV.f (k:Nat)(a0:Int)(kG:Bool)(jY:Bool)(jP:ByteArray)(kD:Int):Option (Int × Int):=(fZ.f a0).bind fun atM=>(if atM=true then ((ig.f k kG jY jP kD).bind fun atN=>(if atN=true then ((bT.f k a0 kG jY jP kD).bind fun ax6=>(some (ax6,0))) else (some (0,23)))) else (some (0,2)))
theorem iV.calls (k:Nat)(a0:Int)(kG:Bool)(jY:Bool)(jP:ByteArray)(kD:Int)(r1:Int)(r2:Int)(w:World)(h:iV.f k a0 kG jY jP kD=some (r1,r2)) :
    Calls Tryz.prog 14 #[.int .i64 a0,.agg #[.bool kG,.bool jY,.string jP,.int .i64 kD]] w fun e w'=>e=.returned (.tuple #[.int .u64 r1,.int .i64 r2])∧Below w.heap.size w w':=by
 have Rf:=Tryz.underlying23;have HB:=am (Below.refl w.heap.size w);have H:=am h;unfold iV.f at H;clear h;replace H:=zo H;obtain⟨atM,A3,H⟩:=H
 cases atM
 replace H:=zb0 H;obtain⟨rfl,rfl⟩:=zJ2 H;rotate_left;replace H:=zb1 H;replace H:=zo H;obtain⟨atN,A5,H⟩:=H
 cases atN
 replace H:=zb0 H;obtain⟨rfl,rfl⟩:=zJ2 H;rotate_left;replace H:=zb1 H;replace H:=zo H;obtain⟨ax6,A7,H⟩:=H;obtain⟨rfl,rfl⟩:=zJ2 H;rotate_left
 all_goals (go_enter Tryz.func14,Tryz.ntmps14;go_wp2_with (first|((with_reducible refine aA (N:=3) rfl ?_);refine zx 3 23 #[.bool kG,.bool jY,.string jP,.int .i64 kD] ?_;intro aFT hg w8 hbox hb;have Q8:=am (hbox);have aFU:=zG hg HB;have aFV:=zG hg HB;replace HB:=zBs HB hb;clear hb hbox hg)|((with_reducible refine af (f:=36) rfl ?_);refine zc (some 9) Tryz.func36 _ (fZ.calls _ _ _ A3.out) ?_;rintro e w' ⟨rfl,⟨nd,rfl⟩⟩;refine⟨_,rfl,?_⟩;obtain⟨_,_,_,_,_,_,_,_⟩:=zf4 Q8)|((with_reducible refine af (f:=28) rfl ?_);refine zc (some 13) Tryz.func28 _ (ig.calls _ _ _ _ _ _ _ A5.out) ?_;rintro e w10 ⟨rfl,hb⟩;refine⟨_,rfl,?_⟩;replace Q8:=zKb Q8 hb;replace HB:=zBs HB hb;clear hb;obtain⟨_,_,_,_,_,_,_,_⟩:=zf4 Q8)|((with_reducible refine af (f:=45) rfl ?_);refine zc (some 18) Tryz.func45 _ (bT.calls _ _ _ _ _ _ _ _ A7.out) ?_;rintro e w12 ⟨rfl,hb⟩;refine⟨_,rfl,?_⟩;replace Q8:=zKb Q8 hb;replace HB:=zBs HB hb;clear hb)))
 ·go_ret2
  exact⟨z2,zB HB⟩
 ·go_ret2
  exact⟨z2,zB HB⟩
 go_ret2
 exact⟨z2,zB HB⟩
def jR.f (a0:Option Int):Option (Int):=if a0.isNone=true then (some (-1)) else (if (a0.getD 0)=13 then (some 13) else (if (a0.getD 0)=14 then (some 14) else (if (a0.getD 0)=15 then (some 15) else (if (a0.getD 0)=16 then (some 16) else (if (a0.getD 0)=17 then (some 17) else (if (a0.getD 0)=18 then (some 18) else (if (a0.getD 0)=19 then (some 19) else (if (a0.getD 0)=20 then (some 20) else (if (a0.getD 0)=21 then (some 21) else (if (a0.getD 0)=22 then (some 22) else (if (a0.getD 0)=23 then (some 23) else (if (a0.getD 0)=24 then (some 24) else (some (-1))))))))))))))
theorem jR.calls (a0:Option Int)(r:Int)(w:World)(h:jR.f a0=some r) :
    Calls Tryz.prog 46 #[qL a0] w fun e w'=>e=.returned (.int .i64 r)∧dX w w':=by
 have zq:=Tryz.underlying27;have hu64:=Tryz.underlying64;have H:=am h;unfold jR.f at H;clear h;rcases a0 with _|aLN;replace H:=zb1 H;simp only[aj,ah];obtain rfl:=Option.some.inj H.out;rotate_left;replace H:=zb0 H
 try simp only[Option.getD_some]at H
 simp only[aj,ah];replace H:=zsk H;rcases H with⟨sQ,JU,H⟩|⟨sQ,JU,c2,H⟩;obtain rfl:=Option.some.inj H.out;rotate_left;replace H:=zsk H;rcases H with⟨pK,Kv,H⟩|⟨pK,Kv,c3,H⟩;obtain rfl:=Option.some.inj H.out;rotate_left;replace H:=zsk H;rcases H with⟨jV,rZ,H⟩|⟨jV,rZ,c4,H⟩;obtain rfl:=Option.some.inj H.out;rotate_left;replace H:=zsk H;rcases H with⟨qN,xC,H⟩|⟨qN,xC,c5,H⟩;obtain rfl:=Option.some.inj H.out;rotate_left;replace H:=zsk H;rcases H with⟨qV,BB,H⟩|⟨qV,BB,c6,H⟩;obtain rfl:=Option.some.inj H.out;rotate_left;replace H:=zsk H;rcases H with⟨yE,DJ,H⟩|⟨yE,DJ,c7,H⟩;obtain rfl:=Option.some.inj H.out;rotate_left;replace H:=zsk H;rcases H with⟨uz,Ey,H⟩|⟨uz,Ey,c8,H⟩;obtain rfl:=Option.some.inj H.out;rotate_left;replace H:=zsk H;rcases H with⟨vF,BD,H⟩|⟨vF,BD,c9,H⟩;obtain rfl:=Option.some.inj H.out;rotate_left;replace H:=zsk H;rcases H with⟨oL,uX,H⟩|⟨oL,uX,c10,H⟩;obtain rfl:=Option.some.inj H.out;rotate_left;replace H:=zsk H;rcases H with⟨qJ,zM,H⟩|⟨qJ,zM,c11,H⟩;obtain rfl:=Option.some.inj H.out;rotate_left;replace H:=zsk H;rcases H with⟨pM,uQ,H⟩|⟨pM,uQ,c12,H⟩;obtain rfl:=Option.some.inj H.out;rotate_left;replace H:=zsk H;rcases H with⟨sD,Ip,H⟩|⟨sD,Ip,c13,H⟩;obtain rfl:=Option.some.inj H.out;rotate_left;obtain rfl:=Option.some.inj H.out;rotate_left
 all_goals (go_enter Tryz.func46,Tryz.ntmps46;go_wp2)
 ·go_ret
  exact⟨z1,z4⟩
 ·go_ret
  exact⟨z1,z4⟩
 ·go_ret
  exact⟨z1,z4⟩
 ·go_ret
  exact⟨z1,z4⟩
 ·go_ret
  exact⟨z1,z4⟩
 ·go_ret
  exact⟨z1,z4⟩
 ·go_ret
  exact⟨z1,z4⟩
 ·go_ret
  exact⟨z1,z4⟩
 ·go_ret
  exact⟨z1,z4⟩
 ·go_ret
  exact⟨z1,z4⟩
 ·go_ret
  exact⟨z1,z4⟩
 ·go_ret
  exact⟨z1,z4⟩
 ·go_ret
  exact⟨z1,z4⟩
 go_ret
 exact⟨z1,z4⟩
def iP.f (a0:Option Int):Option (Int):=if a0.isNone=true then (some 0) else (if (a0.getD 0)=1 then (some 1) else (if (a0.getD 0)=2 then (some 2) else (if (a0.getD 0)=3 then (some 3) else (if (a0.getD 0)=4 then (some 4) else (if (a0.getD 0)=5 then (some 5) else (if (a0.getD 0)=6 then (some 6) else (if (a0.getD 0)=7 then (some 7) else (if (a0.getD 0)=8 then (some 8) else (if (a0.getD 0)=9 then (some 9) else (if (a0.getD 0)=10 then (some 10) else (if (a0.getD 0)=11 then (some 11) else (if (a0.getD 0)=12 then (some 12) else ((jR.f (some (a0.getD 0))).bind fun atO=>(some atO))))))))))))))
theorem iP.calls (a0:Option Int)(r:Int)(w:World)(h:iP.f a0=some r) :
    Calls Tryz.prog 15 #[qL a0] w fun e w'=>e=.returned (.int .i64 r)∧dX w w':=by
 have zq:=Tryz.underlying27;have hu64:=Tryz.underlying64;have H:=am h;unfold iP.f at H;clear h;rcases a0 with _|aFW;replace H:=zb1 H;simp only[aj,ah];obtain rfl:=Option.some.inj H.out;rotate_left;replace H:=zb0 H
 try simp only[Option.getD_some]at H
 simp only[aj,ah];replace H:=zsk H;rcases H with⟨sQ,JU,H⟩|⟨sQ,JU,c2,H⟩;obtain rfl:=Option.some.inj H.out;rotate_left;replace H:=zsk H;rcases H with⟨pK,Kv,H⟩|⟨pK,Kv,c3,H⟩;obtain rfl:=Option.some.inj H.out;rotate_left;replace H:=zsk H;rcases H with⟨jV,rZ,H⟩|⟨jV,rZ,c4,H⟩;obtain rfl:=Option.some.inj H.out;rotate_left;replace H:=zsk H;rcases H with⟨qN,xC,H⟩|⟨qN,xC,c5,H⟩;obtain rfl:=Option.some.inj H.out;rotate_left;replace H:=zsk H;rcases H with⟨qV,BB,H⟩|⟨qV,BB,c6,H⟩;obtain rfl:=Option.some.inj H.out;rotate_left;replace H:=zsk H;rcases H with⟨yE,DJ,H⟩|⟨yE,DJ,c7,H⟩;obtain rfl:=Option.some.inj H.out;rotate_left;replace H:=zsk H;rcases H with⟨uz,Ey,H⟩|⟨uz,Ey,c8,H⟩;obtain rfl:=Option.some.inj H.out;rotate_left;replace H:=zsk H;rcases H with⟨vF,BD,H⟩|⟨vF,BD,c9,H⟩;obtain rfl:=Option.some.inj H.out;rotate_left;replace H:=zsk H;rcases H with⟨oL,uX,H⟩|⟨oL,uX,c10,H⟩;obtain rfl:=Option.some.inj H.out;rotate_left;replace H:=zsk H;rcases H with⟨qJ,zM,H⟩|⟨qJ,zM,c11,H⟩;obtain rfl:=Option.some.inj H.out;rotate_left;replace H:=zsk H;rcases H with⟨pM,uQ,H⟩|⟨pM,uQ,c12,H⟩;obtain rfl:=Option.some.inj H.out;rotate_left;replace H:=zsk H;rcases H with⟨sD,Ip,H⟩|⟨sD,Ip,c13,H⟩;obtain rfl:=Option.some.inj H.out;rotate_left;replace H:=zo H;obtain⟨atO,A14,H⟩:=H;obtain rfl:=Option.some.inj H.out;have ax7:=fun W=>jR.calls (some aFW) atO W A14.out
 try simp only[aj,ah]at ax7
 rotate_left
 all_goals (go_enter Tryz.func15,Tryz.ntmps15;go_wp2_with (first|(go_at_call 46;(with_reducible refine (ax7 _).mono ?_);rintro e w' ⟨rfl,⟨nd,rfl⟩⟩)))
 ·go_ret
  exact⟨z1,z4⟩
 ·go_ret
  exact⟨z1,z4⟩
 ·go_ret
  exact⟨z1,z4⟩
 ·go_ret
  exact⟨z1,z4⟩
 ·go_ret
  exact⟨z1,z4⟩
 ·go_ret
  exact⟨z1,z4⟩
 ·go_ret
  exact⟨z1,z4⟩
 ·go_ret
  exact⟨z1,z4⟩
 ·go_ret
  exact⟨z1,z4⟩
 ·go_ret
  exact⟨z1,z4⟩
 ·go_ret
  exact⟨z1,z4⟩
 ·go_ret
  exact⟨z1,z4⟩
 ·go_ret
  exact⟨z1,z4⟩
 go_ret
 exact⟨z1,z4⟩
def jr.f (k:Nat)(a0:Int)(kG:Bool)(jY:Bool)(jP:ByteArray)(kD:Int):Option (Bool):=(dV.f k).bind fun atP=>((ng.f k a0 kG jY jP kD).bind fun akO=>((iV.f k a0 kG jY jP kD).bind fun akP=>(if atP=true then (if akO.1=akP.1 then ((iP.f akO.2).bind fun atQ=>(some (atQ == akP.2))) else (some false)) else (some false))))
theorem jr.calls (k:Nat)(a0:Int)(kG:Bool)(jY:Bool)(jP:ByteArray)(kD:Int)(r:Bool)(w:World)(h:jr.f k a0 kG jY jP kD=some r)(hr_:r=true:=by rfl)(htab:Fx.Laid w:=by exact Fx.Laid.below HTAB.out (by repeat (first|(with_reducible first|exact HB.out|apply bn|apply aJ|apply aW|refine bF ?_ (ae.out (by assumption)))|exact HB.out))) :
    Calls Tryz.prog 3 #[.int .i64 a0,.agg #[.bool kG,.bool jY,.string jP,.int .i64 kD]] w fun e w'=>e=.returned (.bool r)∧Below w.heap.size w w':=by
 have HTAB:=am htab;clear htab;have HRT:=am hr_;clear hr_;have Rf:=Tryz.underlying23;have HB:=am (Below.refl w.heap.size w);have H:=am h;unfold jr.f at H;clear h;replace H:=zo H;obtain⟨atP,A3,H⟩:=H;replace H:=zo H;obtain⟨⟨aLO,aFX⟩,A4,H⟩:=H
 try dsimp only at H
 replace H:=zo H;obtain⟨⟨aLP,aLQ⟩,A5,H⟩:=H
 try dsimp only at H
 cases atP
 ·replace H:=zb0 H
  exact absurd (Option.some.inj H.out) (by rw[HRT.out];decide)
 replace H:=zb1 H;replace H:=zsk H;rcases H with⟨yE,DJ,H⟩|⟨yE,DJ,c7,H⟩
 ·replace H:=zo H
  obtain⟨atQ,A8,H⟩:=H;clear HRT;obtain rfl:=Option.some.inj H.out
  go_enter Tryz.func3,Tryz.ntmps3
  go_wp2_with (first|((with_reducible refine aA (N:=3) rfl ?_);refine zx 3 23 #[.bool kG,.bool jY,.string jP,.int .i64 kD] ?_;intro aFY hg w9 hbox hb;have Kr:=am (hbox);have aFZ:=zG hg HB;have aF0:=zG hg HB;replace HB:=zBs HB hb;clear hb hbox hg)|((with_reducible refine af (f:=12) rfl ?_);refine zc (some 10) Tryz.func12 _ (dV.calls _ _ _ A3.out) ?_;rintro e w10 ⟨rfl,hb⟩;refine⟨_,rfl,?_⟩;replace Kr:=zKb Kr hb;replace HB:=zBs HB hb;clear hb;obtain⟨_,_,_,_,_,_,_,_⟩:=zf4 Kr)|((with_reducible refine af (f:=13) rfl ?_);refine zc (some 14) Tryz.func13 _ (ng.calls _ _ _ _ _ _ _ _ _ A4.out) ?_;rintro e w12 ⟨rfl,hb⟩;refine⟨_,rfl,?_⟩;replace Kr:=zKb Kr hb;replace HB:=zBs HB hb;clear hb;(try simp only[aj,ah]);obtain⟨_,_,_,_,_,_,_,_⟩:=zf4 Kr)|((with_reducible refine af (f:=14) rfl ?_);refine zc (some 20) Tryz.func14 _ (iV.calls _ _ _ _ _ _ _ _ _ A5.out) ?_;rintro e w14 ⟨rfl,hb⟩;refine⟨_,rfl,?_⟩;replace Kr:=zKb Kr hb;replace HB:=zBs HB hb;clear hb;have CA8:=fun W=>iP.calls aFX atQ W A8.out;try simp only[aj,ah]at CA8)|(go_at_call 15;(with_reducible refine (CA8 _).mono ?_);rintro e w' ⟨rfl,⟨nd,rfl⟩⟩))
  go_ret
  exact⟨z2,zB HB⟩
 exact absurd (Option.some.inj H.out) (by rw[HRT.out];decide)
end Go.Proofs.Yy.PTx
end
section
namespace Go.Proofs.Yy.PTx
open Go.RowKit Go.Proofs.Yw.PrintWords Go.Proofs.Yw.PrintLast Go.Proofs.Yw.PrintMore Go.Proofs.Yy.M Go.Proofs.Yy.NM
attribute [local irreducible] fK iG ji kQ val
theorem nX:0<D:=by have:=D1;omega
theorem ql (l:List Int)(i:Nat):aZ.f l (i:Int)=some (l.getD i 0):=by
  unfold aZ.f
  by_cases h:i<l.length
  · rw[if_pos (by omega),if_pos (by omega),eF]
  · rw[if_neg (by omega),List.getD_eq_getElem?_getD,List.getElem?_eq_none (by omega)];rfl
theorem Uu {x:Int}(h:0≤x):Int.tmod x 16777216=x % D:=by rw[vN];exact Int.tmod_eq_emod_of_nonneg h
theorem X6 {x:Int}(h:0≤x):Int.tdiv x 16777216=x / D:=by rw[vN];exact Int.tdiv_eq_ediv_of_nonneg h
theorem Uh {X Y c b t:Int}(hb:0<b)(ht:t=X % b+Y % b+c):(X+Y+c) % b=t % b∧(X+Y+c) / b=X / b+Y / b+t / b:=by
  have h1:=Int.mul_ediv_add_emod X b;have h2:=Int.mul_ediv_add_emod Y b
  have e:X+Y+c=t+b*(X / b+Y / b):=by rw[ht,Int.mul_add];omega
  rw[e,Int.add_mul_emod_self_left,Int.add_mul_ediv_left _ _ (by omega)];exact⟨rfl,by omega⟩
theorem acE {A C:Int}(hA:0≤A)(hC:0≤C):∀ (d i:Nat) (c:Int) (out:List Int),A / pw D i+C / pw D i+c<pw D d→0≤c→c≤1→out.length=i→i+d≤1099511627776 →
    Ev (fun k=>aU.l0 k (enc D A) (enc D C) out c (i:Int)) (out++enc D (A / pw D i+C / pw D i+c)):=by
  intro d
  induction d with
  | zero =>
    intro i c out hv h0 h1 ho hL;have hx:=gK nX hA i;have hy:=gK nX hC i;rw[iW]at hv;have hxl:=qH D1 hA i;have hyl:=qH D1 hC i
    have e:A / pw D i+C / pw D i+c=0:=by omega
    rw[e,eX,List.append_nil];refine Ev.step (f:=fun k=>aU.j1 k (enc D A) (enc D C) out c (i:Int) false) (fun k=>?_) (Ev.step (f:=fun _=>some out) (fun k=>?_) (Ev.now _))
    · simp only[aU.l0]
      rw[if_neg (by omega),if_neg (by omega),decide_eq_false (by omega)]
    · simp only[aU.j1]
      rw[if_neg (by decide)]
  | succ d ih =>
    intro i c out hv h0 h1 ho hL;have hx:=gK nX hA i;have hy:=gK nX hC i;have hxl:=qH D1 hA i;have hyl:=qH D1 hC i
    by_cases hp:0<A / pw D i+C / pw D i+c
    · have hxd:=Int.emod_nonneg (A / pw D i) (show D≠0 by have:=D1;omega)
      have hyd:=Int.emod_nonneg (C / pw D i) (show D≠0 by have:=D1;omega);have alH:=Int.emod_lt_of_pos (A / pw D i) nX;have aF1:=Int.emod_lt_of_pos (C / pw D i) nX
      obtain⟨t,ht⟩:∃ t,t=A / pw D i % D+C / pw D i % D+c:=⟨_,rfl⟩
      obtain⟨e1,e2⟩:=Uh nX ht
      have ht0:0≤t:=by omega
      have ht1:t<2*D:=by omega
      have ht2:t≤33554431:=by rw[vN]at ht1;omega
      have hc0:0≤t / D:=Int.ediv_nonneg ht0 (Int.le_of_lt nX)
      have hc1:t / D≤1:=by have:=Int.ediv_lt_of_lt_mul nX ht1;omega
      have hw1:ae (wrap64 ((i:Int)+1)=((i+1:Nat):Int)):=⟨by rw[w64 (by omega) (by omega)];omega⟩
      have key:=ih (i+1) (t / D) (out ++ [t % D]) (by rw[lu nX,lu nX, ← e2];exact Dq D1 hv) hc0 hc1 (by simp[ho]) (by omega);rw[lu nX,lu nX, ← e2, ← e1,GX D1 hp]at key
      have hw:ae (wrap64 (wrap64 (A / pw D i % D+C / pw D i % D)+c)=t):=⟨by
        rw[vN]at alH aF1;rw[vN]at ht hxd hyd ⊢
        rw[w64 (x:=A / pw 16777216 i % 16777216+C / pw 16777216 i % 16777216) (by omega) (by omega), ← ht,w64 (by omega) (by omega)]⟩
      have hj:Ev (fun k=>aU.j1 k (enc D A) (enc D C) out c (i:Int) true) (out++enc D (A / pw D i+C / pw D i+c)):=by
        refine Ev.step (f:=fun k=>aU.l0 k (enc D A) (enc D C) (out ++ [t % D]) (t / D) ((i+1:Nat):Int)) (fun k=>?_) (by rw[← e1];exact key);simp only[aU.j1];rw[if_pos trivial,ql,ql,jC D1 hA,jC D1 hC];simp only[Option.bind_some];rw[hw.out,if_pos (by omega),Uu ht0,X6 ht0,hw1.out];rw[w64 (by omega) (by omega)]
      by_cases ha:0<A / pw D i
      · refine Ev.step (f:=fun k=>aU.j1 k (enc D A) (enc D C) out c (i:Int) true) (fun k=>?_) hj
        simp only[aU.l0];rw[if_pos (by have:=hxl.2 ha;omega)]
      · by_cases hc:0<C / pw D i
        · refine Ev.step (f:=fun k=>aU.j1 k (enc D A) (enc D C) out c (i:Int) true) (fun k=>?_) hj
          simp only[aU.l0];rw[if_neg (by omega),if_pos (by have:=hyl.2 hc;omega)]
        · refine Ev.step (f:=fun k=>aU.j1 k (enc D A) (enc D C) out c (i:Int) true) (fun k=>?_) hj
          simp only[aU.l0];rw[if_neg (by omega),if_neg (by omega),decide_eq_true (by omega)]
    · have e:A / pw D i+C / pw D i+c=0:=by omega
      rw[e,eX,List.append_nil];refine Ev.step (f:=fun k=>aU.j1 k (enc D A) (enc D C) out c (i:Int) false) (fun k=>?_) (Ev.step (f:=fun _=>some out) (fun k=>?_) (Ev.now _))
      · simp only[aU.l0]
        rw[if_neg (by omega),if_neg (by omega),decide_eq_false (by omega)]
      · simp only[aU.j1]
        rw[if_neg (by decide)]
theorem aaW {A C:Int}(hA:0≤A)(hC:0≤C){m:Nat}(hm:A+C<pw D m)(hL:m≤1099511627776):Ev (fun k=>aU.f k (enc D A) (enc D C)) (enc D (A+C)):=by
  have:=acE hA hC m 0 0 [] (by rw[fG,fG];omega) (by omega) (by omega) rfl (by omega);rw[fG,fG,Int.add_zero,List.nil_append]at this;exact this
theorem af4:∀ (d:Nat) (v:Int) (out:List Int),0≤v→v<B→v<pw D d→out.length+d≤1099511627776→Ev (fun k=>dR.l0 k v out) (out++enc D v):=by
  intro d
  induction d with
  | zero =>
    intro v out h0 _ h1 _;rw[iW]at h1
    obtain rfl:v=0:=by omega
    rw[eX,List.append_nil];refine Ev.step (f:=fun _=>some out) (fun k=>?_) (Ev.now _);simp only[dR.l0];rw[if_neg (by omega)]
  | succ d ih =>
    intro v out h0 hb h1 hL
    by_cases hp:0<v
    · have hq0:0≤v / D:=Int.ediv_nonneg h0 (Int.le_of_lt nX)
      have hq1:v / D<v:=Int.ediv_lt_self_of_pos_of_ne_one hp (by have:=D1;omega);have hr0:=Int.emod_nonneg v (show D≠0 by have:=D1;omega);have hr1:=Int.emod_lt_of_pos v nX;have key:=ih (v / D) (out ++ [v % D]) hq0 (by omega) (Dq D1 h1) (by simp;omega);rw[GX D1 hp]at key;refine Ev.step (f:=fun k=>dR.l0 k (v / D) (out ++ [v % D])) (fun k=>?_) key;simp only[dR.l0];rw[if_pos (by omega),if_pos (by omega),X6 h0,Uu h0,tJ hq0 (by rw[uh]at hb;omega),w64 (by omega) (by rw[vN]at hr1 ⊢;omega)]
    · obtain rfl:v=0:=by omega
      rw[eX,List.append_nil];refine Ev.step (f:=fun _=>some out) (fun k=>?_) (Ev.now _);simp only[dR.l0];rw[if_neg (by omega)]
theorem ayd:B<pw D 3:=by
  rw[fA,fA,ZQ,uh,vN];decide
theorem afB {v:Int}(h0:0≤v)(h1:v<B):Ev (fun k=>dR.f k v) (enc D v):=by
  have:=af4 3 v [] h0 h1 (Int.lt_trans h1 ayd) (by simp);rw[List.nil_append]at this;exact this
theorem UW {X q c b t:Int}(hb:0<b)(ht:t=X % b*q+c):(X*q+c) % b=t % b∧(X*q+c) / b=X / b*q+t / b:=by
  have h1:=Int.mul_ediv_add_emod X b
  have e:X*q+c=t+b*(X / b*q):=by
    rw[ht]
    have:X*q=(b*(X / b)+X % b)*q:=by rw[h1]
    rw[this,Int.add_mul,Int.mul_assoc];omega
  rw[e,Int.add_mul_emod_self_left,Int.add_mul_ediv_left _ _ (by omega)];exact⟨rfl,by omega⟩
theorem RH {A q:Int}(hA:0≤A)(hq:0≤q)(hqD:q≤D):∀ (d i:Nat) (c:Int) (out:List Int),A / pw D i*q+c<pw D d→0≤c→c<D→out.length=i→i+d≤1099511627776 →
    Ev (fun k=>aI.l0 k (enc D A) q out c (i:Int)) (out++enc D (A / pw D i*q+c)):=by
  intro d
  induction d with
  | zero =>
    intro i c out hv h0 h1 ho hL;have hx:=gK nX hA i;have hxq:=Int.mul_nonneg hx hq;rw[iW]at hv;have hxl:=qH D1 hA i
    have e:A / pw D i*q+c=0:=by omega
    have hc:c=0:=by omega
    have hz:A / pw D i*q=0:=by omega
    rw[e,eX,List.append_nil];refine Ev.step (f:=fun _=>some out) (fun k=>?_) (Ev.now _);simp only[aI.l0];rcases Int.mul_eq_zero.1 hz with h|h
    · rw[if_neg (by omega),if_neg (by omega)]
    · rw[h]
      split
      · rw[if_neg (by omega),if_neg (by omega)]
      · rw[if_neg (by omega)]
  | succ d ih =>
    intro i c out hv h0 h1 ho hL;have hx:=gK nX hA i;have hxq:=Int.mul_nonneg hx hq;have hxl:=qH D1 hA i
    by_cases hp:0<A / pw D i*q+c
    · have hxd:=Int.emod_nonneg (A / pw D i) (show D≠0 by have:=D1;omega)
      have alH:=Int.emod_lt_of_pos (A / pw D i) nX
      obtain⟨t,ht⟩:∃ t,t=A / pw D i % D*q+c:=⟨_,rfl⟩
      obtain⟨e1,e2⟩:=UW nX ht;have hm0:0≤A / pw D i % D*q:=Int.mul_nonneg hxd hq;have hm1:A / pw D i % D*q≤(D-1)*D:=Int.mul_le_mul (by omega) hqD hq (by have:=D1;omega)
      have hm2:A / pw D i % D*q≤281474959933440:=by rw[vN]at hm1 ⊢;exact hm1
      have ht0:0≤t:=by omega
      have ht1 : t < D * D := by have : (D - 1) * D = D * D - D := by rw [Int.sub_mul, Int.one_mul]
                                 omega
      have ht2:t≤281474976710655:=by rw[vN]at h1;omega
      have hc0:0≤t / D:=Int.ediv_nonneg ht0 (Int.le_of_lt nX);have hc1:t / D<D:=Int.ediv_lt_of_lt_mul nX ht1
      have hw1:ae (wrap64 ((i:Int)+1)=((i+1:Nat):Int)):=⟨by rw[w64 (by omega) (by omega)];omega⟩
      have key:=ih (i+1) (t / D) (out ++ [t % D]) (by rw[lu nX, ← e2];exact Dq D1 hv) hc0 hc1 (by simp[ho]) (by omega);rw[lu nX, ← e2, ← e1,GX D1 hp]at key
      have hw:ae (wrap64 (wrap64 (A / pw D i % D*q)+c)=t):=⟨by
        rw[w64 (x:=A / pw D i % D*q) (by omega) (by omega), ← ht,w64 (by omega) (by omega)]⟩
      have hcd:ae (wrap64 (t / D)=t / D):=⟨by rw[vN]at hc1 hc0 ⊢;exact w64 (by omega) (by omega)⟩
      have hol:out.length<17592186044416:=by omega
      rw[e1]at key;refine Ev.step (f:=fun k=>aI.l0 k (enc D A) q (out ++ [t % D]) (t / D) ((i+1:Nat):Int)) (fun k=>?_) key;simp only[aI.l0];rw[ql,jC D1 hA];simp only[Option.bind_some];rw[hw.out,Uu ht0,X6 ht0,hw1.out,hcd.out,if_pos hol]
      by_cases ha:i<(enc D A).length
      · rw[if_pos (by omega)]
        by_cases hq0:0<q
        · rw[if_pos (by omega)]
        · rw[if_neg (by omega),if_pos]
          have:q=0:=by omega
          rw[this,Int.mul_zero]at hp
          omega
      · rw[if_neg (by omega),if_pos]
        have:A / pw D i=0:=by omega
        rw[this,Int.zero_mul]at hp
        omega
    · have e:A / pw D i*q+c=0:=by omega
      have hc:c=0:=by omega
      have hz:A / pw D i*q=0:=by omega
      rw[e,eX,List.append_nil];refine Ev.step (f:=fun _=>some out) (fun k=>?_) (Ev.now _);simp only[aI.l0];rcases Int.mul_eq_zero.1 hz with h|h
      · rw[if_neg (by omega),if_neg (by omega)]
      · rw[h]
        split
        · rw[if_neg (by omega),if_neg (by omega)]
        · rw[if_neg (by omega)]
theorem vW {A q:Int}(hA:0≤A)(hq:0≤q)(hqD:q≤D){m:Nat}(hm:A*q<pw D m)(hL:m≤1099511627776):Ev (fun k=>aI.f k (enc D A) q) (enc D (A*q)):=by
  have:=RH hA hq hqD m 0 0 [] (by rw[fG];omega) (by omega) nX rfl (by omega);rw[fG,Int.add_zero,List.nil_append]at this;exact this
end Go.Proofs.Yy.PTx
end
