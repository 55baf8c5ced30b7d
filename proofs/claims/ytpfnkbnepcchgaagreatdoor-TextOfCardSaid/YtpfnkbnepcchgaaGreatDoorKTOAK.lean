/- Part 11. -/
import Derived.Lib.Strings
import Derived.Test.YtpfnkbnepcchgaaGreatDoorKTOAJ
set_option linter.unusedSimpArgs false
set_option linter.unusedVariables false
section
set_option maxHeartbeats 8000000
set_option maxRecDepth 100000
namespace Go.Proofs.Yy.PTx
open Go.RowKit Go.Proofs.Yy.Z Go.Proofs.Yw.PrintWords Go.Proofs.Yw.PrintLast Go.Proofs.Yw.PrintMore
open Go.Proofs.Yy.M
attribute [local go_sem] dP eU lV lX lW lU
attribute [local go_sem] iq ik jE jD gu gq iE iD
mutual
def gp.j0:Nat→List Int→List Int→Option (List Int)
  | 0,_,_=>none
  | k+1,x0,x1=>if 0≤(wrap64 ((x0.length:Int)+1)) then (if (wrap64 ((x0.length:Int)+1):Int).toNat≤35184372088832 then (gp.l0 k x0 x1 (List.replicate (wrap64 ((x0.length:Int)+1):Int).toNat 0) 0 x0 (x0.length:Int) 0) else (none)) else (none)
def gp.l0:Nat→List Int→List Int→List Int→Int→List Int→Int→Int→Option (List Int)
  | 0,_,_,_,_,_,_,_=>none
  | k+1,x0,x1,x5,x6,x21,x22,x23=>if x23<x22 then (if 0≤x23 then (if x23<(x21.length:Int) then (if x23<(x1.length:Int) then (if x6≤1 then (if x23<(x5.length:Int) then (gp.l0 k x0 x1 (x5.set (x23:Int).toNat (fK (rd x21 x23) (rd x1 x23) x6)) (iG (rd x21 x23) (rd x1 x23) x6) x21 x22 (wrap64 (x23+1))) else (none)) else (none)) else (if x6≤1 then (if x23<(x5.length:Int) then (gp.l0 k x0 x1 (x5.set (x23:Int).toNat (fK (rd x21 x23) 0 x6)) (iG (rd x21 x23) 0 x6) x21 x22 (wrap64 (x23+1))) else (none)) else (none))) else (none)) else (none)) else (if 0≤(x0.length:Int) then (if (x0.length:Int)<(x5.length:Int) then ((bH.f k (x5.set ((x0.length:Int):Int).toNat x6)).bind fun auL=>(some auL)) else (none)) else (none))
end
def gp.f (k:Nat)(l0:List Int)(l1:List Int):Option (List Int):=if (l0.length:Int)<(l1.length:Int) then (gp.j0 k l1 l0) else (gp.j0 k l0 l1)
theorem gp.calls (k:Nat)(P0_:Nat→Prop)(A0:Option Addr)(c0:Nat)(l0:List Int)(P1_:Nat→Prop)(A1:Option Addr)(c1:Nat)(l1:List Int)(r:List Int)(w:World)(hs0:Kd.V (Kd.int .u64) 25 w w.heap.size (fun k_=>P0_ k_) (.slice A0 l0.length c0) l0)(hs1:Kd.V (Kd.int .u64) 25 w w.heap.size (fun k_=>P1_ k_) (.slice A1 l1.length c1) l1)(h:gp.f k l0 l1=some r) :
    Calls Tryz.prog 150 #[.slice A0 l0.length c0,.slice A1 l1.length c1] w fun e w' => ∃ v0_:Value,e=.returned (v0_)∧Kd.V (Kd.int .u64) 25 w' w.heap.size (fun k_=>((P0_ k_∨P1_ k_)∨w.heap.size≤k_)) v0_ r∧Below w.heap.size w w':=by
 have HO0:=am (show Kd.V (Kd.int .u64) 25 w w.heap.size (fun k_=>((P0_ k_∨P1_ k_)∨w.heap.size≤k_)) (.slice A0 l0.length c0) l0 from Kd.bG hs0 (fun k_ hk => .inl (.inl hk)));have HO1:=am (show Kd.V (Kd.int .u64) 25 w w.heap.size (fun k_=>((P0_ k_∨P1_ k_)∨w.heap.size≤k_)) (.slice A1 l1.length c1) l1 from Kd.bG hs1 (fun k_ hk => .inl (.inr hk)));have HB:=am (Below.refl w.heap.size w);have H:=am h;unfold gp.f at H;clear h
 go_enter Tryz.func150,Tryz.ntmps150
 go_upto_if 14 with (fail)
 go_cut [0,1] (fun v0 v1 wc => ∃ (kq:Nat) (jq:List Int) (Vx:List Int),ae (gp.j0 kq jq Vx=some r)∧ae (kq≤k)∧ae (Kd.V (Kd.int .u64) 25 wc w.heap.size (fun k_=>((P0_ k_∨P1_ k_)∨w.heap.size≤k_)) v0 jq)∧ae (Kd.V (Kd.int .u64) 25 wc w.heap.size (fun k_=>((P0_ k_∨P1_ k_)∨w.heap.size≤k_)) v1 Vx)∧ae (Below w.heap.size w wc))
 case first =>
  replace H:=zs H;rcases H with⟨c4,H⟩|⟨c4,H⟩;have jV:decide ((l0.length:Int)<(l1.length:Int))=true:=decide_eq_true c4;have rZ:decide (l0.length<l1.length)=true:=decide_eq_true (Int.ofNat_lt.mp c4);clear c4
  (first|rw[jV]|(simp only[bW,fV];rw[jV])|rw[rZ]|skip)
  rotate_left;have jV:decide ((l0.length:Int)<(l1.length:Int))=false:=decide_eq_false c4;have rZ:decide (l0.length<l1.length)=false:=decide_eq_false (fun h=>c4 (Int.ofNat_lt.mpr h));clear c4
  (first|rw[jV]|(simp only[bW,fV];rw[jV])|rw[rZ]|skip)
  rotate_left
  all_goals (go_wp2)
  ·go_meet
   case rel=>exact⟨_,(l1),(l0),H,⟨z5⟩,⟨zV HO1⟩,⟨zV HO0⟩,⟨zB HB⟩⟩
  go_meet
  case rel=>exact⟨_,(l0),(l1),H,⟨z5⟩,⟨zV HO0⟩,⟨zV HO1⟩,⟨zB HB⟩⟩
 case rest =>
  obtain⟨kq,jq,Vx,H,HJ2,jF,pU,HB⟩:=hcut;obtain _|kj2:=kq
  ·exact zz H rfl
  simp only[gp.j0]at H;generalize Qx:(wrap64 ((jq.length:Int)+1):Int)=ji5 at H;have ag5:(IntKind.i64.wrap ((jq.length:Int)+1))=ji5:=(bW _).trans Qx;replace H:=zit H;obtain⟨qV,BB,H⟩:=H;replace H:=zit H;obtain⟨yE,DJ,H⟩:=H;generalize ahq:(List.replicate (ji5:Int).toNat 0:List Int)=azJ at H;have ahr:=zY ahq;clear ahq;obtain⟨Ao8,co8,eo8⟩:=Kd.dS jF.out;subst eo8
  go_wp2_with (first|((with_reducible refine aA (N:=20) rfl ?_);refine Kd.wE (Kd.int .u64) _ 25 rfl (N:=20) rfl 88 _ _ rfl ji5 (by first|rfl|(simp only[List.length_drop,List.length_take];rfl)) (by first|rfl|(simp only[List.length_drop,List.length_take];rfl)) Tryz.underlying88 (.int .u64 0) 8 info25 rfl (by decide) (by omega) 0 (ok:=fun _=>True) (okp:=fun _=>True) rfl (fun _ hk=>hk) trivial (zD) (Nat.le_trans (Nat.mul_le_mul_right _ (zD:ji5.toNat≤35184372088832)) (by omega)) (Below.refl _ _) (Nat.le_refl _) ?_;intro akY w9 BH hb hg_ jO;clear hg_ jO;(first|rw[← ahr.out]at BH|(simp only[Int.reduceToNat]at BH;rw[← ahr.out]at BH));replace jF:=am (Kd.jl (zV jF) (Kd.fP BH) hb);replace pU:=am (Kd.jl (zV pU) (Kd.fP BH) hb);have aog:=am (Kd.dZ (Kd.oQ (M:=fun k_=>(w.heap.size≤k_)) BH (zS HB) (fun k_ h_=>h_)) (zS HB));replace HB:=zBs HB hb;clear hb BH))
  go_loopg [6,23] kj2 (fun kq v6 v23 w' => ∃ (nY:List Int) (qW:Int) (lY:Int),v6=.int .u64 qW∧v23=.int .i64 lY∧ae (gp.l0 kq jq Vx nY qW jq (jq.length:Int) lY=some r)∧ae (kq≤kj2)∧ae (Kd.V (Kd.int .u64) 25 w' w.heap.size (fun k_=>((P0_ k_∨P1_ k_)∨w.heap.size≤k_)∧some k_≠(akY:Value).ownBlock) (.slice Ao8 jq.length co8) jq)∧ae (Kd.V (Kd.int .u64) 25 w' w.heap.size (fun k_=>((P0_ k_∨P1_ k_)∨w.heap.size≤k_)∧some k_≠(akY:Value).ownBlock) u1 Vx)∧ae (Kd.R (Kd.int .u64) 25 w' w.heap.size (fun k_=>(w.heap.size≤k_)) akY nY)∧ae (Kd.V (Kd.int .u64) 25 w' w.heap.size (fun k_=>((P0_ k_∨P1_ k_)∨w.heap.size≤k_)∧some k_≠(akY:Value).ownBlock) (.slice Ao8 jq.length co8) jq)∧ae (Below w.heap.size w w'))
  case atStart=>exact⟨(azJ),(0),(0),z1,z1,H,zL,⟨zV jF⟩,⟨zV pU⟩,⟨by (with_reducible repeat (first|apply Kd.cO|apply Kd.bZ|apply Kd.dK));exact Kd.dm aog.out (fun _ hk=>hk.1)⟩,⟨zV jF⟩,⟨zB HB⟩⟩
  clear H;obtain⟨nY,qW,lY,rfl,rfl,H,HK2,jF,pU,fH,BI,HB⟩:=hrel;obtain _|k2:=gk
  ·exact zz H rfl
  simp only[gp.l0]at H;replace H:=zsd H;rcases H with⟨qJ,H⟩|⟨qJ,H⟩;replace H:=zid H;obtain⟨pM,H⟩:=H;replace H:=zid H;obtain⟨sD,H⟩:=H;replace H:=zsd H;rcases H with⟨wG,H⟩|⟨wG,H⟩;replace H:=zit H;obtain⟨xZ,LY,H⟩:=H;replace H:=zid H;obtain⟨Dx,H⟩:=H;generalize ahs:(nY.set (lY:Int).toNat (fK (rd jq lY) (rd Vx lY) qW):List Int)=auM at H;have aoh:=zY ahs;clear ahs;obtain⟨azK,azL,aoi,rfl,ac9⟩:=zA (Kd.dQ (Kd.aX BI.out).2.2 lY);obtain⟨J4,sF,MC⟩:=Kd.dS pU.out;subst MC;obtain⟨aG7,aG8,azM,rfl,aoj⟩:=zA (Kd.dQ (Kd.aX pU.out).2.2 lY);have p17:0≤(lY:Int):=zD;have q17:(lY:Int)<((nY.length:Int):Int):=zD;obtain⟨MF,Xl,ada,aht,aok,azN,ahu⟩:=Kd.oP fH.out (by omega)
  (first|cases ada|(injection ada with ea_ en_ ec_;(first|subst ea_|(injection ea_ with ea_;subst ea_));subst ec_;clear en_))
  have aol:=am aht;have azO:=am ahu;clear aht aok ahu;obtain⟨aar,aas⟩:=Kd.iR 0 fH.out (lY:Int) p17 q17;replace p17:=eq_true p17;replace q17:=eq_true q17;have adb:=Kd.mX fH.out (lY:Int) (fK (rd jq lY) (rd Vx lY) qW);rotate_left;replace H:=zit H;obtain⟨BF,ac2,H⟩:=H;replace H:=zid H;obtain⟨YY,H⟩:=H;generalize ahv:(nY.set (lY:Int).toNat (fK (rd jq lY) 0 qW):List Int)=auN at H;have aom:=zY ahv;clear ahv;obtain⟨azK,azL,aoi,rfl,ac9⟩:=zA (Kd.dQ (Kd.aX BI.out).2.2 lY);obtain⟨OM,KA,MG⟩:=Kd.dS pU.out;subst MG;have p23:0≤(lY:Int):=zD;have q23:(lY:Int)<((nY.length:Int):Int):=zD;obtain⟨YZ,yl,Vy,auO,azP,aG9,auP⟩:=Kd.oP fH.out (by omega)
  (first|cases Vy|(injection Vy with ea_ en_ ec_;(first|subst ea_|(injection ea_ with ea_;subst ea_));subst ec_;clear en_))
  have azQ:=am auO;have aHa:=am auP;clear auO azP auP;obtain⟨auQ,auR⟩:=Kd.iR 0 fH.out (lY:Int) p23 q23;replace p23:=eq_true p23;replace q23:=eq_true q23;have adc:=Kd.mX fH.out (lY:Int) (fK (rd jq lY) 0 qW);rotate_left;replace H:=zi H;obtain⟨c27,H⟩:=H;have Y0:decide (0≤(jq.length:Int))=true:=decide_eq_true c27;have aon:decide (0≤jq.length)=true:=decide_eq_true (by omega);clear c27;replace H:=zi H;obtain⟨c28,H⟩:=H;have zQ:decide ((jq.length:Int)<(nY.length:Int))=true:=decide_eq_true c28;have ade:decide (jq.length<nY.length)=true:=decide_eq_true (Int.ofNat_lt.mp c28);clear c28;generalize ahw:(nY.set ((jq.length:Int):Int).toNat qW:List Int)=akZ at H;have aoo:=zY ahw;clear ahw;replace H:=zo H;obtain⟨auL,A30,H⟩:=H;obtain rfl:=Option.some.inj H.out;have p29:0≤((jq.length:Int):Int):=zD;have q29:((jq.length:Int):Int)<((nY.length:Int):Int):=zD;obtain⟨Vz,Ri,ak0,auS,azR,aHb,auT⟩:=Kd.oP fH.out (by omega)
  (first|cases ak0|(injection ak0 with ea_ en_ ec_;(first|subst ea_|(injection ea_ with ea_;subst ea_));subst ec_;clear en_))
  have azS:=am auS;have aHc:=am auT;clear auS azR auT;obtain⟨ahx,ahy⟩:=Kd.iR 0 fH.out ((jq.length:Int):Int) p29 q29
  (try simp only[Go.IntWalk.toNatUp]at ahx ahy)
  replace p29:=eq_true p29;replace q29:=eq_true q29;have aop:=Kd.mX fH.out ((jq.length:Int):Int) qW;rotate_left
  all_goals (go_wp2_with (first|((with_reducible refine af (f:=191) rfl ?_);refine Ba (some 42) rfl rfl #[.int .u64 (rd jq lY),.int .u64 (rd Vx lY),.int .u64 qW] _ rfl (by (try simp only[List.map_toArray,List.map_cons,List.map_nil]);rfl) (fun w_=>dP (rd jq lY) (rd Vx lY) qW (by first|decide|(with_reducible assumption)|exact zD) w_) ?_)|((with_reducible refine fO (t:=25) (p:=45) rfl ?_);refine ed (t:=25) (p:=45) (v:=?ahz) (w1:=(wr.setCell ⟨MF,(lY:Int).toNat,none⟩ (.int .u64 (fK (rd jq lY) (rd Vx lY) qW)))) ?hg ?ho ?hn ?hr ?_;(case ho=>rfl);(case hg=>rfl);(case hn=>rfl);(case hr=>first|(go_simp;done)|(go_simp;rfl));intro w20 hw;have hg:wr.grownBy w20 (some MF):=(by rw[hw];exact adb.2);have hp_:Kd.R (Kd.int .u64) 25 w20 w.heap.size (fun k_=>(w.heap.size≤k_)) (.slice (some ⟨MF,0,none⟩) nY.length Xl) auM:=(by rw[hw,aoh.out];exact adb.1);clear adb;replace jF:=am (Kd.iZ (v:=(.slice (some ⟨MF,0,none⟩) nY.length Xl)) (v1:=(.slice (some ⟨MF,0,none⟩) nY.length Xl)) (ok:=(fun k_=>((P0_ k_∨P1_ k_)∨w.heap.size≤k_))) (zV jF) hg (.inl rfl));replace pU:=am (Kd.iZ (v:=(.slice (some ⟨MF,0,none⟩) nY.length Xl)) (v1:=(.slice (some ⟨MF,0,none⟩) nY.length Xl)) (ok:=(fun k_=>((P0_ k_∨P1_ k_)∨w.heap.size≤k_))) (zV pU) hg (.inl rfl));replace fH:=am (hp_);replace BI:=am (Kd.iZ (v:=(.slice (some ⟨MF,0,none⟩) nY.length Xl)) (v1:=(.slice (some ⟨MF,0,none⟩) nY.length Xl)) (ok:=(fun k_=>((P0_ k_∨P1_ k_)∨w.heap.size≤k_))) (zV BI) hg (.inl rfl));replace HB:=am ((by rw[hw];exact bF (HB.out) aol.out:Below w.heap.size w w20));clear hg hw hp_)|((with_reducible refine af (f:=191) rfl ?_);refine Ba (some 42) rfl rfl #[.int .u64 (rd jq lY),.int .u64 0,.int .u64 qW] _ rfl (by (try simp only[List.map_toArray,List.map_cons,List.map_nil]);rfl) (fun w_=>dP (rd jq lY) 0 qW (by first|decide|(with_reducible assumption)|exact zD) w_) ?_)|((with_reducible refine fO (t:=25) (p:=45) rfl ?_);refine ed (t:=25) (p:=45) (v:=?auU) (w1:=(wr.setCell ⟨YZ,(lY:Int).toNat,none⟩ (.int .u64 (fK (rd jq lY) 0 qW)))) ?hg ?ho ?hn ?hr ?_;(case ho=>rfl);(case hg=>rfl);(case hn=>rfl);(case hr=>first|(go_simp;done)|(go_simp;rfl));intro w26 hw;have hg:wr.grownBy w26 (some YZ):=(by rw[hw];exact adc.2);have hp_:Kd.R (Kd.int .u64) 25 w26 w.heap.size (fun k_=>(w.heap.size≤k_)) (.slice (some ⟨YZ,0,none⟩) nY.length yl) auN:=(by rw[hw,aom.out];exact adc.1);clear adc;replace jF:=am (Kd.iZ (v:=(.slice (some ⟨YZ,0,none⟩) nY.length yl)) (v1:=(.slice (some ⟨YZ,0,none⟩) nY.length yl)) (ok:=(fun k_=>((P0_ k_∨P1_ k_)∨w.heap.size≤k_))) (zV jF) hg (.inl rfl));replace pU:=am (Kd.iZ (v:=(.slice (some ⟨YZ,0,none⟩) nY.length yl)) (v1:=(.slice (some ⟨YZ,0,none⟩) nY.length yl)) (ok:=(fun k_=>((P0_ k_∨P1_ k_)∨w.heap.size≤k_))) (zV pU) hg (.inl rfl));replace fH:=am (hp_);replace BI:=am (Kd.iZ (v:=(.slice (some ⟨YZ,0,none⟩) nY.length yl)) (v1:=(.slice (some ⟨YZ,0,none⟩) nY.length yl)) (ok:=(fun k_=>((P0_ k_∨P1_ k_)∨w.heap.size≤k_))) (zV BI) hg (.inl rfl));replace HB:=am ((by rw[hw];exact bF (HB.out) azQ.out:Below w.heap.size w w26));clear hg hw hp_)|((with_reducible refine fO (t:=25) (p:=51) rfl ?_);refine ed (t:=25) (p:=51) (v:=?auV) (w1:=(wr.setCell ⟨Vz,((jq.length:Int):Int).toNat,none⟩ (.int .u64 qW))) ?hg ?ho ?hn ?hr ?_;(case ho=>rfl);(case hg=>rfl);(case hn=>rfl);(case hr=>first|(go_simp;done)|(go_simp;rfl));intro w32 hw;have hg:wr.grownBy w32 (some Vz):=(by rw[hw];exact aop.2);have hp_:Kd.R (Kd.int .u64) 25 w32 w.heap.size (fun k_=>(w.heap.size≤k_)) (.slice (some ⟨Vz,0,none⟩) nY.length Ri) akZ:=(by rw[hw,aoo.out];exact aop.1);clear aop;replace jF:=am (Kd.iZ (v:=(.slice (some ⟨Vz,0,none⟩) nY.length Ri)) (v1:=(.slice (some ⟨Vz,0,none⟩) nY.length Ri)) (ok:=(fun k_=>((P0_ k_∨P1_ k_)∨w.heap.size≤k_))) (zV jF) hg (.inl rfl));replace pU:=am (Kd.iZ (v:=(.slice (some ⟨Vz,0,none⟩) nY.length Ri)) (v1:=(.slice (some ⟨Vz,0,none⟩) nY.length Ri)) (ok:=(fun k_=>((P0_ k_∨P1_ k_)∨w.heap.size≤k_))) (zV pU) hg (.inl rfl));replace fH:=am (hp_);replace BI:=am (Kd.iZ (v:=(.slice (some ⟨Vz,0,none⟩) nY.length Ri)) (v1:=(.slice (some ⟨Vz,0,none⟩) nY.length Ri)) (ok:=(fun k_=>((P0_ k_∨P1_ k_)∨w.heap.size≤k_))) (zV BI) hg (.inl rfl));replace HB:=am ((by rw[hw];exact bF (HB.out) azS.out:Below w.heap.size w w32));clear hg hw hp_)|((with_reducible refine af (f:=103) rfl ?_);refine jS (some 53) rfl rfl Tryz.func103 (by kernel_rfl) rfl #[.slice (some ⟨Vz,0,none⟩) akZ.length Ri] rfl (by (try simp only[List.map_toArray,List.map_cons,List.map_nil]);first|done|(rw[show akZ.length=nY.length from (Kd.az fH.out).1.symm] <;> rfl)|rfl|(simp only[List.length_drop,List.length_take];rfl)) ?_;(with_reducible refine (bH.calls _ (fun k_=>some k_=(.slice (some ⟨Vz,0,none⟩) nY.length Ri:Value).ownBlock) _ _ _ _ _ ?eu A30.out).mono ?_);(case eu=>rw[show akZ.length=nY.length from (Kd.az fH.out).1.symm];exact Kd.R_V (Kd.jZ rfl (fH.out)));rintro e w33 ⟨aHd,rfl,ho0,hb⟩;refine⟨_,rfl,?_⟩;replace jF:=zVb jF hb;replace pU:=zVb pU hb;replace BI:=zVb BI hb;have aoq:=am (Kd.dG (Kd.bG (ok':=fun k_=>((P0_ k_∨P1_ k_)∨w.heap.size≤k_)) ho0 (fun k_ hk_=>Or.elim hk_ (fun hs_=>(.inr (((fH.out).1 k_ hs_.symm)))) (fun hn_=>(.inr (Nat.le_trans (zS HB) hn_))))) (zS HB));replace fH:=zRb fH hb;replace HB:=zBs HB hb;clear hb ho0)))
  ·go_roundg k2
   case measure=>have:=HJ2.out;have:=HK2.out;omega
   case rel=>exact⟨(auM),(iG (rd jq lY) (rd Vx lY) qW),(wrap64 (lY+1)),z1,z1,H,⟨by have:=HJ2.out;have:=HK2.out;omega⟩,⟨zV jF⟩,⟨zV pU⟩,⟨zR fH⟩,⟨zV BI⟩,⟨zB HB⟩⟩
  ·go_roundg k2
   case measure=>have:=HJ2.out;have:=HK2.out;omega
   case rel=>exact⟨(auN),(iG (rd jq lY) 0 qW),(wrap64 (lY+1)),z1,z1,H,⟨by have:=HJ2.out;have:=HK2.out;omega⟩,⟨zV jF⟩,⟨zV pU⟩,⟨zR fH⟩,⟨zV BI⟩,⟨zB HB⟩⟩
  go_ret
  exact⟨_,by first|exact z3|(simp only[← Qx];exact z3)|exact z2,zV aoq,zB HB⟩
def dH.l0:Nat→Int→List Int→List Int→Int→Int→Option (List Int)
  | 0,_,_,_,_,_=>none
  | k+1,x1,x5,x12,x13,x14=>if x14<x13 then (if 0≤x14 then (if x14<(x12.length:Int) then (if x14<(x5.length:Int) then (if 0≤x1 then ((some (x5.set (x14:Int).toNat (Go.bits .or .u64 (rd x5 x14) (shl .u64 (rd x12 x14) x1)):List Int)).bind fun ae2=>(if x1 > 0 then (if 0≤(wrap64 (64-x1)) then (if 0≤(wrap64 (x14+1)) then (if (wrap64 (x14+1))<(x5.length:Int) then (dH.l0 k x1 (ae2.set ((wrap64 (x14+1)):Int).toNat (shr .u64 (rd x12 x14) (wrap64 (64-x1)))) x12 x13 (wrap64 (x14+1))) else (none)) else (none)) else (none)) else (dH.l0 k x1 ae2 x12 x13 (wrap64 (x14+1))))) else (none)) else (none)) else (none)) else (none)) else (some x5)
def dH.f (k:Nat)(l0:List Int)(a1:Int):Option (List Int):=if 0≤(wrap64 ((l0.length:Int)+1)) then (if (wrap64 ((l0.length:Int)+1):Int).toNat≤35184372088832 then (dH.l0 k a1 (List.replicate (wrap64 ((l0.length:Int)+1):Int).toNat 0) l0 (l0.length:Int) 0) else (none)) else (none)
def dH.T5:Bool × List (List Nat × List Nat):=(true,[([],[]),([],[]),([0,1],[0,1]),([2],[2]),([],[]),([],[]),([4,5],[4,5]),([3,6],[3,6]),([0,1,0,1,2,3,4,5,6,7],[0,1]),([8,7,0,1,2,3,4,5,6,7],[7,8])])
def dH.B5:List Nat := [0,0,3,7,0,0,48,127,255,511]
theorem dH.afx:rX .any (opsOf Tryz.f104 5)=dH.T5:=by kernel_rfl
theorem dH.SH:jf dH.T5.2 dH.B5=true:=by kernel_rfl
theorem dH.calls (k:Nat)(A0:Option Addr)(c0:Nat)(l0:List Int)(a1:Int)(r:List Int)(w:World)(hr0:Kd.C (Kd.int .u64) w A0 l0.length l0)(hc0:l0.length≤c0)(h:dH.f k l0 a1=some r) :
    Calls Tryz.prog 104 #[.slice A0 l0.length c0,.int .i64 a1] w fun e w' => ∃ v0_:Value,e=.returned (v0_)∧Kd.R (Kd.int .u64) 25 w' w.heap.size (fun _=>True) v0_ r∧Below w.heap.size w w':=by
 have HR0:=am hr0;have HC0:=am hc0;clear hr0 hc0;have HB:=am (Below.refl w.heap.size w);have H:=am h;unfold dH.f at H;clear h;generalize Ew:(wrap64 ((l0.length:Int)+1):Int)=ji3 at H;have Vs:(IntKind.i64.wrap ((l0.length:Int)+1))=ji3:=(bW _).trans Ew;replace H:=zit H;obtain⟨jV,rZ,H⟩:=H;replace H:=zit H;obtain⟨qN,xC,H⟩:=H;generalize hy160:(List.replicate (ji3:Int).toNat 0:List Int)=y160 at H;have ahA:=zY hy160;clear hy160
 go_enter Tryz.func104,Tryz.ntmps104
 go_wp2_with (first|((with_reducible refine aA (N:=11) rfl ?_);refine Kd.wE (Kd.int .u64) _ 25 rfl (N:=11) rfl 88 _ _ rfl ji3 (by first|rfl|(simp only[List.length_drop,List.length_take];rfl)) (by first|rfl|(simp only[List.length_drop,List.length_take];rfl)) Tryz.underlying88 (.int .u64 0) 8 info25 rfl (by decide) (by omega) 0 (ok:=fun _=>True) (okp:=fun _=>True) rfl (fun _ hk=>hk) trivial (zD) (Nat.le_trans (Nat.mul_le_mul_right _ (zD:ji3.toNat≤35184372088832)) (by omega)) (Below.refl _ _) (Nat.le_refl _) ?_;intro azT w6 ho7 hb hg_ jO;clear hg_ jO;(first|rw[← ahA.out]at ho7|(simp only[Int.reduceToNat]at ho7;rw[← ahA.out]at ho7));have aor:=am (Kd.dZ ho7 (zS HB));replace HB:=zBs HB hb;clear hb ho7))
 go_loopg [14] k (fun kq v14 w' => ∃ (gV:List Int) (jB:Int),v14=.int .i64 jB∧ae (dH.l0 kq a1 gV l0 (l0.length:Int) jB=some r)∧ae (kq≤k)∧ae (Kd.R (Kd.int .u64) 25 w' w.heap.size (fun _=>True) azT gV)∧ae (Below w.heap.size w w'))
 case atStart=>exact⟨(y160),(0),z1,H,zL,⟨zR aor⟩,⟨zB HB⟩⟩
 clear H;obtain⟨gV,jB,rfl,H,HK1,fH,HB⟩:=hrel;obtain _|k1:=gk
 ·exact zz H rfl
 simp only[dH.l0]at H;replace H:=zsd H;rcases H with⟨uz,H⟩|⟨uz,H⟩;replace H:=zid H;obtain⟨vF,H⟩:=H;replace H:=zid H;obtain⟨oL,H⟩:=H;replace H:=zid H;obtain⟨qJ,H⟩:=H;replace H:=zit H;obtain⟨pM,uQ,H⟩:=H;generalize qO:(shl .u64 (rd l0 jB) a1:Int)=qI at H;have U5:(IntKind.u64.wrap ((rd l0 jB)*2 ^ min a1.toNat 64))=qI:=qO;have aal:a1≤64→(IntKind.u64.wrap ((rd l0 jB)*2 ^ a1.toNat))=qI:=iY qO;obtain⟨ae2,aos,H⟩:=zw H;replace H:=AV H;rcases H with⟨xZ,H⟩|⟨xZ,H⟩;generalize JW:(wrap64 (64-a1):Int)=L6 at H;have agW:(IntKind.i64.wrap (64-a1))=L6:=(bW _).trans JW;replace H:=zit H;obtain⟨wF,Mc,H⟩:=H;generalize uT:(shr .u64 (rd l0 jB) (L6):Int)=Dz at H;have OH:((rd l0 jB) / 2 ^ min (L6).toNat 64)=Dz:=uT;have aam:(L6)≤64→((rd l0 jB) / 2 ^ (L6).toNat)=Dz:=kH uT;generalize tX:(wrap64 (jB+1):Int)=Gg at H;have agY:(IntKind.i64.wrap (jB+1))=Gg:=(bW _).trans tX;replace H:=zid H;obtain⟨Qw,H⟩:=H;replace H:=zid H;obtain⟨BF,H⟩:=H;generalize ahB:(ae2.set ((Gg):Int).toNat (Dz):List Int)=auW at H;have aot:=zY ahB;clear ahB;have adf:0≤(jB:Int):=zD;have adg:jB<(l0.length:Int):=zD;obtain⟨aou,aov,yt⟩:=Kd.dQ HR0.out jB adf adg
 cases aov
 replace yt:=(HB.out.cell (World.block_lt_of_cell? w _ yt)).trans yt;replace adf:=eq_true adf;replace adg:=eq_true adg;rotate_left;have adf:0≤(jB:Int):=zD;have adg:jB<(l0.length:Int):=zD;obtain⟨aou,aov,yt⟩:=Kd.dQ HR0.out jB adf adg
 cases aov
 replace yt:=(HB.out.cell (World.block_lt_of_cell? w _ yt)).trans yt;replace adf:=eq_true adf;replace adg:=eq_true adg;rotate_left
 ·obtain rfl:=Option.some.inj H.out
  go_wp2
  go_ret
  exact⟨_,by first|exact z3|(simp only[← Ew];exact z3)|exact z2,zR fH,zB HB⟩
 all_goals (try go_wp2)
 all_goals
  replace fH:=am (Kd.dK fH.out);replace HB:=am (aW HB.out);obtain⟨OM,KA,MG⟩:=Kd.dU fH.out
  (first|subst MG|(injection MG with f1_ f2_ f3_;have f4_:=f1_.symm;have f5_:=f3_.symm;clear f1_ f2_ f3_;subst f4_;subst f5_))
  obtain⟨aHe,aHf,azU,rfl,H9⟩:=zA (Kd.dQ (Kd.az fH.out).2.2 jB);have p14:0≤(jB:Int):=zD;have q14:(jB:Int)<((gV.length:Int):Int):=zD;obtain⟨aat,aow,ae3,auX,azV,aHg,auY⟩:=Kd.oP fH.out (by omega)
  (first|cases ae3|(injection ae3 with ea_ en_ ec_;(first|subst ea_|(injection ea_ with ea_;subst ea_));subst ec_;clear en_))
  have azW:=am auX;have auZ:=am auY;clear auX azV auY
  (first|simp only[add_plain]at H9|skip)
  obtain⟨aau,aav⟩:=Kd.iR 0 fH.out (jB:Int) p14 q14;replace p14:=eq_true p14;replace q14:=eq_true q14;have adc:=Kd.NT fH.out (jB:Int) (Go.bits .or .u64 (rd gV jB) (qI));rw[← aos.out]at adc;have ak1:=am adc;clear adc;refine mM (n:=10) (S:=fun w'=>w'.cell? ⟨aat,(jB).toNat,none⟩=some (.int .u64 (rd gV jB))) (ds := [9]) (Array.replicate 10 false) (by kernel_rfl) rfl rfl (H9) (fun hHeld=>?_);refine gQ dH.afx dH.SH (fun HT_ HW_=>?_)
 ·generalize wr.drew=w23 at fH HB auZ ak1 aav aau H9 hHeld ⊢
  refine zp HT_ 0 (some 19) ?_;refine zp HT_ 1 (some 20) ?_;refine zp HT_ 2 (some 21) ?_;refine zp HT_ 4 (some 23) ?_;refine zp HT_ 5 (some 24) ?_;refine zp HT_ 6 (some 25) ?_;refine zt HT_ HW_ 3 (some 22) hHeld ?_;refine zp HT_ 7 (some 26) ?_;refine zp HT_ 8 (some 27) ?_;refine Lh (i:=9) (N:=none) #[true,true,true,true,true,true,true,true,true,true] rfl rfl (AO HT_.out (by kernel_rfl)) (by decide) (fun K hK=>?_);refine xy (w1:=?_) (by rfl) rfl ?_ ?_;rotate_left
  ·go_simp
   rfl
  refine hK.out _ _ ?_;clear hK K;refine oG (iJ HT_.out (by kernel_rfl)) ?_
  have n0_:ae (Kd.R (Kd.int .u64) 25 (w23.setCell ⟨aat,(jB:Int).toNat,none⟩ (.int .u64 (Go.bits .or .u64 (rd gV jB) (qI)))) w.heap.size (fun _=>True) (.slice (some ⟨aat,0,none⟩) gV.length KA) ae2):=⟨zR ak1⟩
  have n1_:ae (Below w.heap.size w (w23.setCell ⟨aat,(jB:Int).toNat,none⟩ (.int .u64 (Go.bits .or .u64 (rd gV jB) (qI))))):=⟨zB HB⟩
  (try clear fH)
  (try clear HB)
  generalize (w23.setCell ⟨aat,(jB:Int).toNat,none⟩ (.int .u64 (Go.bits .or .u64 (rd gV jB) (qI))))=w26 at n0_ n1_ ⊢;have fH:=n0_;have HB:=n1_;clear n0_ n1_;have p22:0≤((Gg):Int):=zD;have q22:((Gg):Int)<((gV.length:Int):Int):=zD;obtain⟨au0,au1⟩:=Kd.iR 0 fH.out ((Gg):Int) p22 q22;replace p22:=eq_true p22;replace q22:=eq_true q22;obtain⟨azX,azY⟩:=Kd.iR 0 fH.out ((Gg):Int) (zD) (zD);have KC:=Kd.mX fH.out ((Gg):Int) Dz
  try go_wp2_with (first|((with_reducible refine fO (t:=25) (p:=37) rfl ?_);refine ed (t:=25) (p:=37) (v:=?VA) (w1:=(w26.setCell ⟨aat,((Gg):Int).toNat,none⟩ (.int .u64 Dz))) ?hg ?ho ?hn ?hr ?_;(case ho=>rfl);(case hg=>rfl);(case hn=>rfl);(case hr=>first|(go_simp;done)|(go_simp;rfl));intro w28 hw;have hg:w26.grownBy w28 (some aat):=(by rw[hw];exact KC.2);have hp_:Kd.R (Kd.int .u64) 25 w28 w.heap.size (fun _=>True) (.slice (some ⟨aat,0,none⟩) gV.length KA) auW:=(by rw[hw,aot.out];exact KC.1);clear KC;replace fH:=am (hp_);replace HB:=am ((by rw[hw];exact bF (HB.out) azW.out:Below w.heap.size w w28));clear hg hw hp_))
  go_roundg k1
  case measure=>have:=HK1.out;omega
  case rel=>exact⟨(auW),(Gg),(by first|rfl|(simp;done)|(simp only[← tX] <;> (first|rfl|simp))|(simp[*];done)),H,(zH HK1),⟨zR fH⟩,⟨zB HB⟩⟩
 generalize wr.drew=w29 at fH HB auZ ak1 aav aau H9 hHeld ⊢;refine zp HT_ 0 (some 19) ?_;refine zp HT_ 1 (some 20) ?_;refine zp HT_ 2 (some 21) ?_;refine zp HT_ 4 (some 23) ?_;refine zp HT_ 5 (some 24) ?_;refine zp HT_ 6 (some 25) ?_;refine zt HT_ HW_ 3 (some 22) hHeld ?_;refine zp HT_ 7 (some 26) ?_;refine zp HT_ 8 (some 27) ?_;refine Lh (i:=9) (N:=none) #[true,true,true,true,true,true,true,true,true,true] rfl rfl (AO HT_.out (by kernel_rfl)) (by decide) (fun K hK=>?_);refine xy (w1:=?_) (by rfl) rfl ?_ ?_;rotate_left
 ·go_simp
  rfl
 refine hK.out _ _ ?_;clear hK K;refine oG (iJ HT_.out (by kernel_rfl)) ?_
 try go_wp2
 go_roundg k1
 case measure=>have:=HK1.out;omega
 case rel=>exact⟨(ae2),(wrap64 (jB+1)),z1,H,(zH HK1),⟨zR ak1⟩,⟨zB HB⟩⟩
def lQ.f (k:Nat)(l0:List Int)(a1:Int):Option (List Int × Option Int):=if a1<0 then (some (([]:List Int),some 1)) else (if a1 > 65536 then (some (([]:List Int),some 3)) else ((bH.f k l0).bind fun t167=>(if (t167.length:Int)=0 then (some (([]:List Int),none)) else (if 0≤(wrap64 (Int.tdiv a1 64)) then (if (wrap64 (Int.tdiv a1 64):Int).toNat≤35184372088832 then ((some (List.replicate (wrap64 (Int.tdiv a1 64):Int).toNat 0:List Int)).bind fun adh=>((dH.f k t167 (Int.tmod a1 64)).bind fun t173=>(if adh.length+t173.length<17592186044416 then ((bH.f k (adh++t173)).bind fun aox=>(some (aox,none))) else (none)))) else (none)) else (none)))))
def lQ.T8:Bool × List (List Nat × List Nat):=(true,[([],[]),([0],[0]),([1,1],[1]),([],[]),([],[]),([4],[4]),([3,5],[3,5]),([2,6,6],[2,6]),([7,7],[7]),([8,8,0,1,2,3,4,5,6,7,8],[8]),([9,0,1,2,3,4,5,6,7,8,9],[])])
def lQ.B8:List Nat := [0,1,3,0,0,16,56,127,255,511,1023]
theorem lQ.ayj:rX .any (opsOf Tryz.f49 8)=lQ.T8:=by kernel_rfl
theorem lQ.alT:jf lQ.T8.2 lQ.B8=true:=by kernel_rfl
theorem lQ.calls (k:Nat)(P0_:Nat→Prop)(A0:Option Addr)(c0:Nat)(l0:List Int)(a1:Int)(r1:List Int)(r2:Option Int)(w:World)(hs0:Kd.V (Kd.int .u64) 25 w w.heap.size (fun k_=>P0_ k_) (.slice A0 l0.length c0) l0)(h:lQ.f k l0 a1=some (r1,r2)) :
    Calls Tryz.prog 49 #[.slice A0 l0.length c0,.int .i64 a1] w fun e w' => ∃ v0_:Value,e=.returned (.tuple #[v0_,qL r2])∧Kd.V (Kd.int .u64) 25 w' w.heap.size (fun k_=>(P0_ k_∨w.heap.size≤k_)) v0_ r1∧Below w.heap.size w w':=by
 have zq:=Tryz.underlying27;have hu64:=Tryz.underlying64;have HO0:=am (show Kd.V (Kd.int .u64) 25 w w.heap.size (fun k_=>(P0_ k_∨w.heap.size≤k_)) (.slice A0 l0.length c0) l0 from Kd.bG hs0 (fun k_ hk => .inl hk));have HB:=am (Below.refl w.heap.size w);have H:=am h;unfold lQ.f at H;clear h;replace H:=zsd H;rcases H with⟨pK,H⟩|⟨pK,H⟩;obtain⟨rfl,rfl⟩:=zJ2 H;rotate_left;replace H:=AV H;rcases H with⟨jV,H⟩|⟨jV,H⟩;obtain⟨rfl,rfl⟩:=zJ2 H;rotate_left;replace H:=zo H;obtain⟨t167,A5,H⟩:=H;replace H:=zsk H;rcases H with⟨qV,BB,H⟩|⟨qV,BB,c6,H⟩;obtain⟨rfl,rfl⟩:=zJ2 H;rotate_left
 ·have aHh:¬ (t167=[]):=fun h_=>c6 (by rw[h_];rfl)
  generalize Rh:(wrap64 (Int.tdiv a1 64):Int)=ji9 at H
  (try rw[Rh]at A5)
  have azZ:(IntKind.i64.wrap (Int.tdiv a1 64))=ji9:=(bW _).trans Rh;replace H:=zit H;obtain⟨oL,uX,H⟩:=H;replace H:=zit H;obtain⟨qJ,zM,H⟩:=H;obtain⟨adh,Y1,H⟩:=zw H;replace H:=zo H;obtain⟨t173,A12,H⟩:=H;replace H:=zil H;obtain⟨aoy,H⟩:=H;generalize ahC:(adh++t173:List Int)=aoz at H;have aoA:=zY ahC;clear ahC;replace H:=zo H;obtain⟨aox,A14,H⟩:=H;obtain⟨rfl,rfl⟩:=zJ2 H
  go_enter Tryz.func49,Tryz.ntmps49
  try go_wp2_with (first|((with_reducible refine af (f:=103) rfl ?_);refine zc (some 13) Tryz.func103 #[.slice A0 l0.length c0] (bH.calls _ (fun k_=>(P0_ k_∨w.heap.size≤k_)) _ _ _ _ _ HO0.out A5.out) ?_;rintro e w15 ⟨v168,rfl,ho0,hb⟩;refine⟨_,rfl,?_⟩;replace HO0:=zVb HO0 hb;have qK:=am (Kd.dG (Kd.bG (ok':=fun k_=>(P0_ k_∨w.heap.size≤k_)) ho0 (fun k_ hk_=>Or.elim hk_ (fun hs_=>hs_) (fun hn_=>(.inr (Nat.le_trans (zS HB) hn_))))) (zS HB));replace HB:=zBs HB hb;clear hb ho0;obtain⟨Gi,Bj,QF⟩:=Kd.dS qK.out;subst QF))
  replace HO0:=am (Kd.jb HO0.out);replace qK:=am (Kd.jb qK.out);replace HB:=am (aW HB.out);refine mM (n:=11) (S:=fun w'=>True) (ds := []) (Array.replicate 11 false) (by kernel_rfl) rfl rfl trivial (fun hHeld=>?_);refine gQ lQ.ayj lQ.alT (fun HT_ HW_=>?_);generalize w15.drew=w17 at HO0 qK HB hHeld ⊢;refine zp HT_ 0 (some 17) ?_;refine zp HT_ 1 (some 18) ?_;refine zp HT_ 3 (some 20) ?_;refine zp HT_ 4 (some 21) ?_;refine zp HT_ 5 (some 22) ?_;refine al1 (σ:=Value × Value) 4 #[true,true,true,true,true,true,true,false,false,false,false] (fun s_ => [(19,s_.1),(23,s_.2)]) (fun s_ w'=>(Kd.V (Kd.int .u64) 25 w' w.heap.size (fun k_=>(P0_ k_∨w.heap.size≤k_)∧some k_≠(s_.1:Value).ownBlock∧some k_≠(s_.2:Value).ownBlock) (.slice A0 l0.length c0) l0)∧(Kd.V (Kd.int .u64) 25 w' w.heap.size (fun k_=>(P0_ k_∨w.heap.size≤k_)∧some k_≠(s_.1:Value).ownBlock∧some k_≠(s_.2:Value).ownBlock) (.slice Gi t167.length Bj) t167)∧(Kd.R (Kd.int .u64) 25 w' w.heap.size (fun k_=>(w.heap.size≤k_)∧some k_≠(s_.2:Value).ownBlock) s_.1 adh)∧(Kd.R (Kd.int .u64) 25 w' w.heap.size (fun k_=>(w.heap.size≤k_)∧some k_≠(s_.1:Value).ownBlock) s_.2 t173)∧(Below w.heap.size w w')) ?_ ?_;rotate_left
  ·intro hCont
   refine aya (i:=2) (j:=6) (Ni:=some 19) (Nj:=some 23) #[true,true,true,true,true,true,false,false,false,false,false] #[true,true,false,true,true,true,true,false,false,false,false] rfl rfl rfl rfl (afJ HT_.out (by kernel_rfl)) (by decide) (by decide) (fun K hK=>?_) (fun K hK=>?_)
   ·skip
    refine Kd.Dp (Kd.int .u64) _ 25 (by rfl) (N:=19) rfl 88 _ _ rfl ji9 (by first|rfl|(simp only[List.length_drop,List.length_take];rfl)) (by first|rfl|(simp only[List.length_drop,List.length_take];rfl)) Tryz.underlying88 (.int .u64 0) 8 info25 rfl (by decide) (by omega) 0 (ok:=fun _=>True) (okp:=fun _=>True) rfl (fun _ hk=>hk) trivial (zD) (Nat.le_trans (Nat.mul_le_mul_right _ (zD:ji9.toNat≤35184372088832)) (by omega)) (Below.refl _ _) (Nat.le_refl _) ?_;intro v171 w18 adi hb hg_ jO;clear hg_ jO
    (first|rw[← Y1.out]at adi|(simp only[Int.reduceToNat]at adi;rw[← Y1.out]at adi))
    replace HO0:=am (Kd.jl (zV HO0) (Kd.fP adi) hb);replace qK:=am (Kd.jl (zV qK) (Kd.fP adi) hb);have Ia:=am (Kd.dZ (Kd.oQ (M:=fun k_=>(w.heap.size≤k_)) adi (zS HB) (fun k_ h_=>h_)) (zS HB));replace HB:=zBs HB hb;clear hb adi;refine hK.out _ _ trivial (fun hHeld=>?_);clear hK K;refine mD (a':=?_) ?_ ?_;rotate_left
    ·show Act.put _ (some 19) _=_
     simp only[Act.put,List.setIfInBounds_toArray,List.set_cons_zero,List.set_cons_succ,bW,fV]
     rfl
    refine zu HT_ 6 (some 23) (fun K hK=>?_);refine oV Tryz.func104 (by kernel_rfl) rfl #[.slice Gi t167.length Bj,.int .i64 (Int.tmod a1 64)] (by rfl) rfl rfl (by (try simp only[List.map_toArray,List.map_cons,List.map_nil]);first|done|rfl|(simp only[List.length_drop,List.length_take];rfl)) ?_
    with_reducible refine (dH.calls k _ _ t167 (Int.tmod a1 64) t173 _ ?eu ?kw A12.out).mono ?_
    (case eu=>repeat (first|exact (Kd.aX qK.out).2.2|(with_reducible refine Kd.kJ ?_ _)|(with_reducible refine Kd.kM ?_ _)|(with_reducible refine Kd.ny ?_)))
    (case kw=>exact (Kd.aX qK.out).2.1)
    rintro e w20 ⟨aaw,rfl,ho0,hb⟩;refine⟨_,rfl,?_⟩;replace HO0:=am (Kd.jl (zV HO0) (Kd.fP ho0) hb);replace qK:=am (Kd.jl (zV qK) (Kd.fP ho0) hb);have yu:=am (Kd.dZ (Kd.jc (Kd.oQ (M:=fun k_=>(w.heap.size≤k_)) ho0 (zS HB) (fun k_ h_=>h_)) (Kd.qg (zR Ia))) (zS HB));replace Ia:=am (Kd.fQ (zR Ia) (Kd.fP ho0) hb);replace HB:=zBs HB hb
    (try clear hb)
    (try clear hb2)
    (try clear hk)
    (try clear hi)
    (try clear ho0)
    refine hK.out _ _ trivial (fun hHeld=>?_);clear hK K;refine mD (a':=?_) ?_ ?_;rotate_left
    ·show Act.put _ (some 23) _=_
     simp only[Act.put,List.setIfInBounds_toArray,List.set_cons_zero,List.set_cons_succ,bW,fV]
     rfl
    exact mD (by simp only[Fb,Act.put,List.setIfInBounds_toArray,List.set_cons_zero,List.set_cons_succ]) (hCont (v171,aaw) _ ⟨(by (with_reducible repeat (first|apply Kd.je|apply Kd.jh|apply Kd.jb));exact Kd.bG HO0.out (fun _ hk=>⟨hk.1.1,⟨hk.1.2,hk.2⟩⟩)),(by (with_reducible repeat (first|apply Kd.je|apply Kd.jh|apply Kd.jb));exact Kd.bG qK.out (fun _ hk=>⟨hk.1.1,⟨hk.1.2,hk.2⟩⟩)),(by (with_reducible repeat (first|apply Kd.cO|apply Kd.bZ|apply Kd.dK));exact Kd.dm Ia.out (fun _ hk=>⟨hk.1.1,hk.2⟩)),(by (with_reducible repeat (first|apply Kd.cO|apply Kd.bZ|apply Kd.dK));exact Kd.dm yu.out (fun _ hk=>⟨hk.1.1,hk.2⟩)),(zB HB)⟩)
   skip
   refine oV Tryz.func104 (by kernel_rfl) rfl #[.slice Gi t167.length Bj,.int .i64 (Int.tmod a1 64)] (by rfl) rfl rfl (by (try simp only[List.map_toArray,List.map_cons,List.map_nil]);first|done|rfl|(simp only[List.length_drop,List.length_take];rfl)) ?_
   with_reducible refine (dH.calls k _ _ t167 (Int.tmod a1 64) t173 _ ?eu ?kw A12.out).mono ?_
   (case eu=>repeat (first|exact (Kd.aX qK.out).2.2|(with_reducible refine Kd.kJ ?_ _)|(with_reducible refine Kd.kM ?_ _)|(with_reducible refine Kd.ny ?_)))
   (case kw=>exact (Kd.aX qK.out).2.1)
   rintro e w18 ⟨aaw,rfl,ho0,hb⟩;refine⟨_,rfl,?_⟩;replace HO0:=am (Kd.jl (zV HO0) (Kd.fP ho0) hb);replace qK:=am (Kd.jl (zV qK) (Kd.fP ho0) hb);have yu:=am (Kd.dZ (Kd.oQ (M:=fun k_=>(w.heap.size≤k_)) ho0 (zS HB) (fun k_ h_=>h_)) (zS HB));replace HB:=zBs HB hb
   (try clear hb)
   (try clear hb2)
   (try clear hk)
   (try clear hi)
   (try clear ho0)
   refine hK.out _ _ trivial (fun hHeld=>?_);clear hK K;refine mD (a':=?_) ?_ ?_;rotate_left
   ·show Act.put _ (some 23) _=_
    simp only[Act.put,List.setIfInBounds_toArray,List.set_cons_zero,List.set_cons_succ,bW,fV]
    rfl
   refine zu HT_ 2 (some 19) (fun K hK=>?_);refine Kd.Dp (Kd.int .u64) _ 25 (by rfl) (N:=19) rfl 88 _ _ rfl ji9 (by first|rfl|(simp only[List.length_drop,List.length_take];rfl)) (by first|rfl|(simp only[List.length_drop,List.length_take];rfl)) Tryz.underlying88 (.int .u64 0) 8 info25 rfl (by decide) (by omega) 0 (ok:=fun _=>True) (okp:=fun _=>True) rfl (fun _ hk=>hk) trivial (zD) (Nat.le_trans (Nat.mul_le_mul_right _ (zD:ji9.toNat≤35184372088832)) (by omega)) (Below.refl _ _) (Nat.le_refl _) ?_;intro v171 w19 J5 hb hg_ jO;clear hg_ jO
   (first|rw[← Y1.out]at J5|(simp only[Int.reduceToNat]at J5;rw[← Y1.out]at J5))
   replace HO0:=am (Kd.jl (zV HO0) (Kd.fP J5) hb);replace qK:=am (Kd.jl (zV qK) (Kd.fP J5) hb);have Ia:=am (Kd.dZ (Kd.jc (Kd.oQ (M:=fun k_=>(w.heap.size≤k_)) J5 (zS HB) (fun k_ h_=>h_)) (Kd.qg (zR yu))) (zS HB));replace yu:=am (Kd.fQ (zR yu) (Kd.fP J5) hb);replace HB:=zBs HB hb;clear hb J5;refine hK.out _ _ trivial (fun hHeld=>?_);clear hK K;refine mD (a':=?_) ?_ ?_;rotate_left
   ·show Act.put _ (some 19) _=_
    simp only[Act.put,List.setIfInBounds_toArray,List.set_cons_zero,List.set_cons_succ,bW,fV]
    rfl
   exact mD (by simp only[Fb,Act.put,List.setIfInBounds_toArray,List.set_cons_zero,List.set_cons_succ]) (hCont (v171,aaw) _ ⟨(by (with_reducible repeat (first|apply Kd.je|apply Kd.jh|apply Kd.jb));exact Kd.bG HO0.out (fun _ hk=>⟨hk.1.1,⟨hk.2,hk.1.2⟩⟩)),(by (with_reducible repeat (first|apply Kd.je|apply Kd.jh|apply Kd.jb));exact Kd.bG qK.out (fun _ hk=>⟨hk.1.1,⟨hk.2,hk.1.2⟩⟩)),(by (with_reducible repeat (first|apply Kd.cO|apply Kd.bZ|apply Kd.dK));exact Kd.dm Ia.out (fun _ hk=>⟨hk.1.1,hk.2⟩)),(by (with_reducible repeat (first|apply Kd.cO|apply Kd.bZ|apply Kd.dK));exact Kd.dm yu.out (fun _ hk=>⟨hk.1.1,hk.2⟩)),(zB HB)⟩)
  rintro⟨v171,aaw⟩ w21 ⟨h0_,h1_,h2_,h3_,h4_⟩
  have n0_:ae (Kd.V (Kd.int .u64) 25 w21 w.heap.size (fun k_=>(P0_ k_∨w.heap.size≤k_)∧some k_≠(v171:Value).ownBlock∧some k_≠(aaw:Value).ownBlock) (.slice A0 l0.length c0) l0):=⟨h0_⟩
  have n1_:ae (Kd.V (Kd.int .u64) 25 w21 w.heap.size (fun k_=>(P0_ k_∨w.heap.size≤k_)∧some k_≠(v171:Value).ownBlock∧some k_≠(aaw:Value).ownBlock) (.slice Gi t167.length Bj) t167):=⟨h1_⟩
  have n2_:ae (Kd.R (Kd.int .u64) 25 w21 w.heap.size (fun k_=>(w.heap.size≤k_)∧some k_≠(aaw:Value).ownBlock) v171 adh):=⟨h2_⟩
  have n3_:ae (Kd.R (Kd.int .u64) 25 w21 w.heap.size (fun k_=>(w.heap.size≤k_)∧some k_≠(v171:Value).ownBlock) aaw t173):=⟨h3_⟩
  have n4_:ae (Below w.heap.size w w21):=⟨h4_⟩
  clear HO0;clear qK;clear HB;clear h0_ h1_ h2_ h3_ h4_;have HO0:=n0_;have qK:=n1_;have Ia:=n2_;have yu:=n3_;have HB:=n4_;clear n0_ n1_ n2_ n3_ n4_;have hHeld:=trivial;obtain⟨DX,yl,Vy⟩:=Kd.dU yu.out
  (first|subst Vy|(injection Vy with f1_ f2_ f3_;have f4_:=f1_.symm;have f5_:=f3_.symm;clear f1_ f2_ f3_;subst f4_;subst f5_))
  refine mD (a':=?_) ?_ ?_;rotate_left
  ·simp only[Fb,Act.put,List.setIfInBounds_toArray,List.set_cons_zero,List.set_cons_succ]
   rfl
  refine zu HT_ 7 (some 24) (fun K hK=>?_);refine Kd.yY (Kd.int .u64) (w0:=w) w.heap.size (by rfl) (.tmp 19) (.tmp 23) 88 25 (.int .u64 0) 8 rfl Tryz.underlying88 info25 rfl (by decide) (by omega) v171 adh t173 _ _ _ (fun k_=>(w.heap.size≤k_)∧some k_≠(.slice DX t173.length yl:Value).ownBlock) (fun _=>False) rfl rfl ?aO ?aR (fun _ _ h=>h) (fun _ h=>h.elim) ?aF ?aB ?aS ?aL ?_
  (case aR=>repeat (first|exact (Kd.az yu.out).2.2|(with_reducible refine Kd.kJ ?_ _)|(with_reducible refine Kd.kM ?_ _)|(with_reducible refine Kd.ny ?_)))
  (case aB=>exact (zB HB))
  (case aF=>exact (fun k_ hk=>⟨(Nat.le_trans (zS HB) hk),Kd.fresh' (Kd.qg (zR yu)) k_ hk⟩))
  (case aO=>exact (zR Ia))
  (case aS=>exact (zS HB))
  (case aL=>have:=aoy.out;omega)
  intro aHi w22 ho hb hg hat;rw[← aoA.out]at ho;replace HO0:=am (Kd.iZ (ok:=(fun k_=>(P0_ k_∨w.heap.size≤k_)∧some k_≠(.slice DX t173.length yl:Value).ownBlock)) (by (with_reducible repeat (first|apply Kd.je|apply Kd.jh|apply Kd.jb));exact Kd.bG HO0.out (fun _ hk=>⟨⟨hk.1,hk.2.2⟩,hk.2.1⟩)) hg hat);replace qK:=am (Kd.iZ (ok:=(fun k_=>(P0_ k_∨w.heap.size≤k_)∧some k_≠(.slice DX t173.length yl:Value).ownBlock)) (by (with_reducible repeat (first|apply Kd.je|apply Kd.jh|apply Kd.jb));exact Kd.bG qK.out (fun _ hk=>⟨⟨hk.1,hk.2.2⟩,hk.2.1⟩)) hg hat);replace yu:=am (Kd.uI (ok:=(fun k_=>(w.heap.size≤k_))) (zR yu) hg hat);replace HB:=am (hb);have QG:=am (ho);clear Ia ho hb hg hat;obtain⟨OM,KA,MG⟩:=Kd.dU QG.out
  (first|subst MG|(injection MG with f1_ f2_ f3_;have f4_:=f1_.symm;have f5_:=f3_.symm;clear f1_ f2_ f3_;subst f4_;subst f5_))
  refine hK.out _ _ trivial (fun hHeld=>?_);clear hK K;refine mD (a':=?_) ?_ ?_;rotate_left
  ·show Act.put _ (some 24) _=_
   simp only[Act.put,List.setIfInBounds_toArray,List.set_cons_zero,List.set_cons_succ,bW,fV]
   rfl
  refine zu HT_ 8 (some 25) (fun K hK=>?_);refine oV Tryz.func103 (by kernel_rfl) rfl #[.slice OM aoz.length KA] (by rfl) rfl rfl (by (try simp only[List.map_toArray,List.map_cons,List.map_nil]);first|done|rfl|(simp only[List.length_drop,List.length_take];rfl)) ?_
  with_reducible refine (bH.calls k (fun k_=>some k_=(.slice OM aoz.length KA:Value).ownBlock) _ _ aoz aox _ ?eu A14.out).mono ?_
  (case eu=>exact Kd.R_V (Kd.jZ rfl (QG.out)))
  rintro e w25 ⟨aHj,rfl,ho0,hb⟩;refine⟨_,rfl,?_⟩;replace HO0:=zVb HO0 hb;replace qK:=zVb qK hb;have aoB:=am (Kd.dG (Kd.bG (ok':=fun k_=>(P0_ k_∨w.heap.size≤k_)∧some k_≠(.slice DX t173.length yl:Value).ownBlock) ho0 (fun k_ hk_=>⟨Or.elim hk_ (fun hs_=>(.inr (((QG.out).1 k_ hs_.symm).1))) (fun hn_=>(.inr (Nat.le_trans (zS HB) hn_))),Or.elim hk_ (fun hs_=>((QG.out).1 k_ hs_.symm).2) (fun hn_=>(Kd.fresh' (Kd.qg (zR yu)) k_ hn_))⟩)) (zS HB));replace yu:=zRb yu hb;replace QG:=zRb QG hb;replace HB:=zBs HB hb
  (try clear hb)
  (try clear hb2)
  (try clear hk)
  (try clear hi)
  (try clear ho0)
  refine hK.out _ _ trivial (fun hHeld=>?_);clear hK K;refine mD (a':=?_) ?_ ?_;rotate_left
  ·show Act.put _ (some 25) _=_
   simp only[Act.put,List.setIfInBounds_toArray,List.set_cons_zero,List.set_cons_succ,bW,fV]
   rfl
  refine zp HT_ 9 (some 4) ?_;refine zp HT_ 10 (some 5) ?_;refine oG (iJ HT_.out (by kernel_rfl)) ?_
  try go_wp2
  go_ret2
  exact⟨_,by first|exact z3|(simp only[← Rh];exact z3)|exact z2,by (with_reducible repeat (first|apply Kd.je|apply Kd.jh|apply Kd.jb));exact Kd.bG aoB.out (fun _ hk=>hk.1),zB HB⟩
 all_goals (go_enter Tryz.func49,Tryz.ntmps49;go_wp2_with (first|((with_reducible refine af (f:=103) rfl ?_);refine zc (some 13) Tryz.func103 #[.slice A0 l0.length c0] (bH.calls _ (fun k_=>(P0_ k_∨w.heap.size≤k_)) _ _ _ _ _ HO0.out A5.out) ?_;rintro e w7 ⟨v168,rfl,ho0,hb⟩;refine⟨_,rfl,?_⟩;replace HO0:=zVb HO0 hb;have qK:=am (Kd.dG (Kd.bG (ok':=fun k_=>(P0_ k_∨w.heap.size≤k_)) ho0 (fun k_ hk_=>Or.elim hk_ (fun hs_=>hs_) (fun hn_=>(.inr (Nat.le_trans (zS HB) hn_))))) (zS HB));replace HB:=zBs HB hb;clear hb ho0;obtain⟨Ao8,co8,eo8⟩:=Kd.dS qK.out;subst eo8)))
 all_goals
  go_ret2
  exact⟨_,z2,Kd.Ah _ _ _ _ _,zB HB⟩
end Go.Proofs.Yy.PTx
end
section
set_option maxHeartbeats 8000000
set_option maxRecDepth 100000
namespace Go.Proofs.Yy.PTx
open Go.RowKit Go.Proofs.Yy.Z Go.Proofs.Yw.PrintWords Go.Proofs.Yw.PrintLast Go.Proofs.Yw.PrintMore Go.Proofs.Yy.M
attribute [local go_sem] iq ik jE jD gu gq iE iD
theorem RJ:(Tryz.prog.info? 9).map (fun i=>(i.zero,i.size,i.bytes))=some (some (.string ⟨#[]⟩),1,16):=by kernel_rfl
def IP (ps:List ByteArray):List UInt8:=(ps.reverse.map (fun p=>p.data.toList)).flatten
def ayf (ps:List ByteArray):ByteArray:=⟨(IP ps).toArray⟩
theorem Jk (p:ByteArray)(ps:List ByteArray):IP (p::ps)=IP ps++p.data.toList:=by
 unfold IP;rw[List.reverse_cons,List.map_append,List.flatten_append];simp
theorem JO (ps:List ByteArray)(n:Nat):(IP (ps.drop n)).length≤(IP ps).length:=by
 induction n generalizing ps with
 | zero=>simp
 | succ n ih =>
  cases ps with
  | nil=>simp
  | cons p r =>
   rw[List.drop_succ_cons,Jk,List.length_append];have:=ih r
   omega
theorem Gv (B b:Nat)(l:List UInt8)(s:ByteArray)(w:World)(h:Lib.IsBuilderF 111 5 B b (Lib.byteCells l) w)(hlen:l.length+s.size≤140737488355328)(hBw:B≤w.heap.size) :
  Calls Tryz.prog 68 #[.pointer (some ⟨b,0,none⟩),.string s] w fun e w'=>e=.returned (.tuple #[.int .i64 s.size,.nilIface])∧Lib.IsBuilderF 111 5 B b (Lib.byteCells (l++s.data.toList)) w'∧Below B w w':=by
 refine (Any.Builder_WriteString_f { Tryz.lays105 with } Tryz.Builder_Extra_105 B b (Lib.byteCells l) s w h (by rw[show (Lib.byteCells l).length=l.length from List.length_map ..];exact hlen) hBw).mono ?_;rintro e w' ⟨he,h1,h2⟩;refine⟨he,.inr ?_,h2⟩
 have e2:Lib.byteCells (l++s.data.toList)=Lib.byteCells l++Lib.strCells s:=by simp[Lib.byteCells,Lib.strCells]
 rw[e2];exact h1
theorem Le (w:World):Lib.IsBuilderF 111 5 w.heap.size w.heap.size (Lib.byteCells []) (w.alloc (.cells #[.pointer none,.slice none 0 0] 111)):=by
 rcases Lib.fresh_isBuilder 111 5 w with h|h
 ·exact .inl (Lib.BuilderAtF.of h)
 ·exact .inr (Lib.BuilderAtF.of h)
theorem XE {a b:Int}{r:ByteArray}(h:gm.f a b=some r):r.size≤20:=by
 unfold gm.f at h
 by_cases hg:0≤a∧a<18446744073709551616∧b=10
 case neg=>rw[if_neg hg]at h;exact absurd h (by simp)
 rw[if_pos hg]at h;obtain rfl:=Option.some.inj h;show (Lib.decDigits a.toNat).toArray.size≤20;rw[List.size_toArray,Lib.decDigits_length]
 by_cases h1:1≤a.toNat
 ·have:=Lib.numDigits_eq a.toNat h1 (by omega)
  split at this <;> omega
 ·rw[show a.toNat=0 by omega]
  unfold Lib.nDigits
  decide
theorem oC {a b:Int}{r:ByteArray}(h:gm.f a b=some r):wrap64 (19-(r.size:Int))=19-(r.size:Int):=by
 have:=XE h;unfold wrap64
 omega
theorem PG {w:World}{A:Option Addr}{xs:List ByteArray}(h:Kd.C Kd.string w A xs.length xs):xs.length≤9223372036854775807:=Kd.alW h
theorem XC (xs:List ByteArray):IP (xs.drop ((xs.length:Int)-1+1).toNat)=[]:=by
 rw[show ((xs.length:Int)-1+1).toNat=xs.length by omega,List.drop_length];rfl
theorem S9 {xs:List ByteArray}{v:Int}(hl:(IP xs).length≤140737488355328)(h0:0≤v)(h1:v<(xs.length:Int)) :
  (IP (xs.drop (v+1).toNat)).length+(XN ByteArray.empty xs v).size≤140737488355328∧IP (xs.drop (v-1+1).toNat)=IP (xs.drop (v+1).toNat)++(XN ByteArray.empty xs v).data.toList:=by
 have e1:(v-1+1).toNat=v.toNat:=by omega
 have e2:(v+1).toNat=v.toNat+1:=by omega
 have hlt:v.toNat<xs.length:=by omega
 have e3:XN ByteArray.empty xs v=xs[v.toNat]:=by unfold XN;rw[List.getD_eq_getElem?_getD,List.getElem?_eq_getElem hlt];rfl
 have e4:IP (xs.drop v.toNat)=IP (xs.drop (v.toNat+1))++xs[v.toNat].data.toList:=by rw[List.drop_eq_getElem_cons hlt,Jk]
 rw[e1,e2,e3];refine⟨?_,e4⟩;have h5:=JO xs v.toNat;rw[e4,List.length_append]at h5;have h6:xs[v.toNat].data.toList.length=xs[v.toNat].size:=Array.length_toList
 omega
def jo.l0:Nat→List Int→List ByteArray→Option (ByteArray)
 | 0,_,_=>none
 | k+1,x0,x3=>if (x0.length:Int) > 0 then ((iO.f k x0 10000000000000000000).bind fun Y2=>((gm.f Y2.2 10).bind fun Bl=>(if (Y2.1.length:Int) > 0 then ((strings_Repeat.f (⟨#[48]⟩:ByteArray) (wrap64 (19-(Bl.size:Int)))).bind fun EW=>(if EW.size+Bl.size≤9223372036854775807 then (if x3.length<8796093022208 then (jo.l0 k Y2.1 (x3 ++ [EW++Bl])) else (none)) else (none))) else (if x3.length<8796093022208 then (jo.l0 k Y2.1 (x3 ++ [Bl])) else (none))))) else (if (x3.length:Int)=0 then (some (⟨#[48]⟩:ByteArray)) else (if (IP x3).length≤140737488355328 then (some (ayf x3)) else none))
def jo.f (k:Nat)(l0:List Int):Option (ByteArray):=(bH.f k l0).bind fun ae4=>(jo.l0 k ae4 ([]:List ByteArray))
theorem jo.calls (k:Nat)(A0:Option Addr)(c0:Nat)(l0:List Int)(r:ByteArray)(w:World)(hr0:Kd.C (Kd.int .u64) w A0 l0.length l0)(hc0:l0.length≤c0)(h:jo.f k l0=some r)(htab:Fx.Laid w:=by exact Fx.Laid.below HTAB.out (zB HB)) :
  Calls Tryz.prog 50 #[.slice A0 l0.length c0] w fun e w'=>e=.returned (.string r)∧Below w.heap.size w w':=by
 have HTAB:=am htab;clear htab;have HR0:=am hr0;have HC0:=am hc0;clear hr0 hc0;have HB:=am (Below.refl w.heap.size w);have H:((bH.f k l0).bind fun ae4=>(jo.l0 k ae4 ([]:List ByteArray)))=some r:=h;clear h;replace H:=Option.bind_eq_some_iff.mp H;obtain⟨ae4,A20,H⟩:=H;replace H:(jo.l0 k ae4 ([]:List ByteArray))=some r:=H;have A2:=am A20;clear A20;have H':=am H;clear H
 go_enter Tryz.func50,Tryz.ntmps50
 go_wp2_with (first|((with_reducible refine af (f:=103) rfl ?_);refine jS (some 9) rfl rfl Tryz.func103 (by kernel_rfl) rfl #[.slice A0 l0.length c0] rfl (by (try simp only[List.map_toArray,List.map_cons,List.map_nil]);first|done|rfl|(simp only[oC A6.out];done)|(simp only[oC A6.out];rfl)|(simp only[List.length_drop,List.length_take];rfl)) ?_;(with_reducible refine (bH.calls _ (fun k_=>k_<w.heap.size) _ _ _ _ _ ?eu A2.out).mono ?_);(case eu=>exact Kd.IQ HC0.out (Kd.oK (Kd.C_F (Kd.pJ .u64) HR0.out) (zB HB)));rintro e w3 ⟨aHk,rfl,ho0,hb⟩;refine⟨_,rfl,?_⟩;have aoC:=am (Kd.dG (Kd.bG (ok':=fun k_=>True) ho0 (fun k_ hk_=>trivial)) (zS HB));replace HB:=zBs HB hb;clear hb ho0))
 go_loopg [0,3] k (fun kq v0 v3 w' => ∃ (mO:List Int) (iy:List ByteArray),ae (jo.l0 kq mO iy=some r)∧ae (kq≤k)∧ae (Kd.V (Kd.int .u64) 25 w' w.heap.size (fun k_=>some k_≠(v3:Value).ownBlock) v0 mO)∧ae (Kd.R Kd.string 9 w' w.heap.size (fun _=>True) v3 iy)∧ae (Below w.heap.size w w'))
 case atStart=>exact⟨(ae4),(([]:List ByteArray)),H',zL,⟨by (with_reducible repeat (first|apply Kd.je|apply Kd.jh|apply Kd.jb));exact Kd.bG aoC.out (fun _ hk=>(by simp[Value.ownBlock]))⟩,⟨zN⟩,⟨zB HB⟩⟩
 case round =>
  clear H';obtain⟨mO,iy,HA,HK1,jF,qx,HB⟩:=hrel
  cases gk with
  | zero=>exact absurd HA.out (by simp[jo.l0])
  | succ k1 =>
   have H:=HA.out;clear HA;simp only[jo.l0]at H
   by_cases c4:(mO.length:Int) > 0
   ·rw[if_pos c4]at H
    have jV:decide (0<(mO.length:Int))=true:=decide_eq_true c4;have rZ:decide (0<mO.length)=true:=decide_eq_true (by omega);clear c4;replace H:=Option.bind_eq_some_iff.mp H;obtain⟨⟨KD,t222⟩,A50,H⟩:=H;replace H:((gm.f t222 10).bind fun Bl=>(if (KD.length:Int) > 0 then ((strings_Repeat.f (⟨#[48]⟩:ByteArray) (wrap64 (19-(Bl.size:Int)))).bind fun EW=>(if EW.size+Bl.size≤9223372036854775807 then (if iy.length<8796093022208 then (jo.l0 k1 KD (iy ++ [EW++Bl])) else (none)) else (none))) else (if iy.length<8796093022208 then (jo.l0 k1 KD (iy ++ [Bl])) else (none))))=some r:=H;have A5:=am A50;clear A50;replace H:=Option.bind_eq_some_iff.mp H;obtain⟨Bl,A60,H⟩:=H;replace H:(if (KD.length:Int) > 0 then ((strings_Repeat.f (⟨#[48]⟩:ByteArray) (wrap64 (19-(Bl.size:Int)))).bind fun EW=>(if EW.size+Bl.size≤9223372036854775807 then (if iy.length<8796093022208 then (jo.l0 k1 KD (iy ++ [EW++Bl])) else (none)) else (none))) else (if iy.length<8796093022208 then (jo.l0 k1 KD (iy ++ [Bl])) else (none)))=some r:=H;have A6:=am A60;clear A60
    by_cases c7:(KD.length:Int) > 0
    ·rw[if_pos c7]at H
     have yE:decide (0<(KD.length:Int))=true:=decide_eq_true c7;have DJ:decide (0<KD.length)=true:=decide_eq_true (by omega);clear c7;replace H:=Option.bind_eq_some_iff.mp H;obtain⟨EW,A80,H⟩:=H;replace H:(if EW.size+Bl.size≤9223372036854775807 then (if iy.length<8796093022208 then (jo.l0 k1 KD (iy ++ [EW++Bl])) else (none)) else (none))=some r:=H;have A8:=am A80;clear A80
     by_cases c9:EW.size+Bl.size≤9223372036854775807
     ·rw[if_pos c9]at H
      have vF:=eq_true c9;have BD:decide (EW.size+Bl.size≤9223372036854775807)=true:=decide_eq_true c9
      try have az0:(9223372036854775807<EW.size+Bl.size)=False:=eq_false (Nat.not_lt.2 c9)
      by_cases c10:iy.length<8796093022208
      ·rw[if_pos c10]at H
       have LZ:=am c10;clear c10
       obtain⟨au2,VB⟩:∃ y_:List ByteArray,y_=(iy ++ [EW++Bl]):=⟨_,rfl⟩
       replace H:(jo.l0 k1 KD au2)=some r:=by first|(rw[VB];with_reducible exact H)|(have H2_:=(Option.bind_some _ _).symm.trans H;rw[VB];with_reducible exact H2_)|(have H2_:=(Option.bind_some _ _).symm.trans H;with_reducible exact H2_)|with_reducible exact H|(rw[VB];exact H)|exact H
       have aoD:=am VB;clear VB;have H':=am H;clear H;obtain⟨Xm,VC,VD⟩:=Kd.dS jF.out;subst VD
       go_wp2_with (first|((with_reducible refine af (f:=105) rfl ?_);refine jS (some 15) rfl rfl Tryz.func105 (by kernel_rfl) rfl #[.slice Xm mO.length VC,.int .u64 10000000000000000000] rfl (by (try simp only[List.map_toArray,List.map_cons,List.map_nil]);first|done|rfl|(simp only[oC A6.out];done)|(simp only[oC A6.out];rfl)|(simp only[List.length_drop,List.length_take];rfl)) ?_;(with_reducible refine (iO.calls _ _ _ _ _ _ _ _ ?eu ?kw A5.out).mono ?_);(case eu=>repeat (first|exact (Kd.aX jF.out).2.2|(with_reducible refine Kd.kJ ?_ _)|(with_reducible refine Kd.kM ?_ _)|(with_reducible refine Kd.ny ?_)));(case kw=>exact (Kd.aX jF.out).2.1);rintro e w12 ⟨az1,rfl,ho0,hb⟩;refine⟨_,rfl,?_⟩;replace jF:=zVb jF hb;have yw:=am (Kd.dG (Kd.bG (ok':=fun k_=>some k_≠(u3:Value).ownBlock) ho0 (fun k_ hk_=>(Kd.fresh' (Kd.qg (zR qx)) k_ hk_))) (zS HB));replace qx:=zRb qx hb;replace HB:=zBs HB hb;clear hb ho0)|((with_reducible refine af (f:=106) rfl ?_);refine jS (some 19) rfl rfl Tryz.func106 (by kernel_rfl) rfl #[.int .u64 t222,.int .i64 10] rfl (by (try simp only[List.map_toArray,List.map_cons,List.map_nil]);first|done|rfl|(simp only[oC A6.out];done)|(simp only[oC A6.out];rfl)|(simp only[List.length_drop,List.length_take];rfl)) ?_;(with_reducible refine (gm.calls _ _ _ _ A6.out).mono ?_);rintro e w13 ⟨rfl,hb⟩;refine⟨_,rfl,?_⟩;replace jF:=zVb jF hb;replace qx:=zRb qx hb;replace yw:=zVb yw hb;replace HB:=zBs HB hb;clear hb;obtain⟨au3,aow,ae3⟩:=Kd.dS yw.out;subst ae3)|((with_reducible refine af (f:=69) rfl ?_);refine jS (some 26) rfl rfl Tryz.func69 (by kernel_rfl) rfl #[.string (⟨#[48]⟩:ByteArray),.int .i64 (wrap64 (19-(Bl.size:Int)))] rfl (by (try simp only[List.map_toArray,List.map_cons,List.map_nil]);first|done|rfl|(simp only[oC A6.out];done)|(simp only[oC A6.out];rfl)|(simp only[List.length_drop,List.length_take];rfl)) ?_;(with_reducible refine (strings_Repeat.calls _ _ _ _ A8.out).mono ?_);rintro e w15 ⟨rfl,hb⟩;refine⟨_,rfl,?_⟩;replace jF:=zVb jF hb;replace qx:=zRb qx hb;replace yw:=zVb yw hb;replace HB:=zBs HB hb;clear hb)|((with_reducible refine dW (b := .append) (xs:=#[.tmp 29,.tmp 31]) rfl ?_);at_builtin;refine Kd.kV Kd.string (w0:=w) w.heap.size rfl (.tmp 29) (.tmp 31) 160 9 (.string ⟨#[]⟩) 16 rfl Tryz.underlying160 RJ rfl (by decide) (by omega) u3 iy (EW++Bl) [.string (EW++Bl)] (fun _=>True) (fun _=>False) rfl rfl ?aP (fun _ hk=>hk.elim) ?aF ?aO ?aB ?aS ?aL ?_;(case aP=>exact rfl);(case aB=>exact (zB HB));(case aF=>exact (fun _ _=>trivial));(case aO=>exact (zR qx));(case aS=>exact (zS HB));(case aL=>have:=LZ.out;omega);intro v226 w16 ho hb hg hat;rw[← aoD.out]at ho;replace jF:=am (Kd.iZ (ok:=(fun _=>True)) (by (with_reducible repeat (first|apply Kd.je|apply Kd.jh|apply Kd.jb));exact Kd.bG jF.out (fun _ hk=>⟨trivial,hk⟩)) hg hat);replace yw:=am (Kd.iZ (ok:=(fun _=>True)) (by (with_reducible repeat (first|apply Kd.je|apply Kd.jh|apply Kd.jb));exact Kd.bG yw.out (fun _ hk=>⟨trivial,hk⟩)) hg hat);replace HB:=am (hb);have aoE:=am (ho);clear qx ho hb hg hat))
       go_roundg k1
       case measure=>have:=HK1.out;omega
       case rel=>exact⟨(KD),(au2),H',(zH HK1),⟨by (with_reducible repeat (first|apply Kd.je|apply Kd.jh|apply Kd.jb));exact Kd.bG yw.out (fun _ hk=>hk.2)⟩,⟨zR aoE⟩,⟨zB HB⟩⟩
      ·rw[if_neg c10]at H
       exact absurd H (by simp)
     ·rw[if_neg c9]at H
      exact absurd H (by simp)
    ·rw[if_neg c7]at H
     have yE:decide (0<(KD.length:Int))=false:=decide_eq_false c7;have DJ:decide (0<KD.length)=false:=decide_eq_false (by omega);clear c7
     by_cases c17:iy.length<8796093022208
     ·rw[if_pos c17]at H
      have aoF:=am c17;clear c17
      obtain⟨au4,VE⟩:∃ y_:List ByteArray,y_=(iy ++ [Bl]):=⟨_,rfl⟩
      replace H:(jo.l0 k1 KD au4)=some r:=by first|(rw[VE];with_reducible exact H)|(have H2_:=(Option.bind_some _ _).symm.trans H;rw[VE];with_reducible exact H2_)|(have H2_:=(Option.bind_some _ _).symm.trans H;with_reducible exact H2_)|with_reducible exact H|(rw[VE];exact H)|exact H
      have aoG:=am VE;clear VE;have H':=am H;clear H;obtain⟨J4,sF,MC⟩:=Kd.dS jF.out;subst MC
      go_wp2_with (first|((with_reducible refine af (f:=105) rfl ?_);refine jS (some 15) rfl rfl Tryz.func105 (by kernel_rfl) rfl #[.slice J4 mO.length sF,.int .u64 10000000000000000000] rfl (by (try simp only[List.map_toArray,List.map_cons,List.map_nil]);first|done|rfl|(simp only[oC A6.out];done)|(simp only[oC A6.out];rfl)|(simp only[List.length_drop,List.length_take];rfl)) ?_;(with_reducible refine (iO.calls _ _ _ _ _ _ _ _ ?eu ?kw A5.out).mono ?_);(case eu=>repeat (first|exact (Kd.aX jF.out).2.2|(with_reducible refine Kd.kJ ?_ _)|(with_reducible refine Kd.kM ?_ _)|(with_reducible refine Kd.ny ?_)));(case kw=>exact (Kd.aX jF.out).2.1);rintro e w19 ⟨az1,rfl,ho0,hb⟩;refine⟨_,rfl,?_⟩;replace jF:=zVb jF hb;have yw:=am (Kd.dG (Kd.bG (ok':=fun k_=>some k_≠(u3:Value).ownBlock) ho0 (fun k_ hk_=>(Kd.fresh' (Kd.qg (zR qx)) k_ hk_))) (zS HB));replace qx:=zRb qx hb;replace HB:=zBs HB hb;clear hb ho0)|((with_reducible refine af (f:=106) rfl ?_);refine jS (some 19) rfl rfl Tryz.func106 (by kernel_rfl) rfl #[.int .u64 t222,.int .i64 10] rfl (by (try simp only[List.map_toArray,List.map_cons,List.map_nil]);first|done|rfl|(simp only[oC A6.out];done)|(simp only[oC A6.out];rfl)|(simp only[List.length_drop,List.length_take];rfl)) ?_;(with_reducible refine (gm.calls _ _ _ _ A6.out).mono ?_);rintro e w20 ⟨rfl,hb⟩;refine⟨_,rfl,?_⟩;replace jF:=zVb jF hb;replace qx:=zRb qx hb;replace yw:=zVb yw hb;replace HB:=zBs HB hb;clear hb;obtain⟨EX,Bo,aoH⟩:=Kd.dS yw.out;subst aoH)|((with_reducible refine dW (b := .append) (xs:=#[.tmp 29,.tmp 31]) rfl ?_);at_builtin;refine Kd.kV Kd.string (w0:=w) w.heap.size rfl (.tmp 29) (.tmp 31) 160 9 (.string ⟨#[]⟩) 16 rfl Tryz.underlying160 RJ rfl (by decide) (by omega) u3 iy Bl [.string Bl] (fun _=>True) (fun _=>False) rfl rfl ?aP (fun _ hk=>hk.elim) ?aF ?aO ?aB ?aS ?aL ?_;(case aP=>exact rfl);(case aB=>exact (zB HB));(case aF=>exact (fun _ _=>trivial));(case aO=>exact (zR qx));(case aS=>exact (zS HB));(case aL=>have:=aoF.out;omega);intro v229 w22 ho hb hg hat;rw[← aoG.out]at ho;replace jF:=am (Kd.iZ (ok:=(fun _=>True)) (by (with_reducible repeat (first|apply Kd.je|apply Kd.jh|apply Kd.jb));exact Kd.bG jF.out (fun _ hk=>⟨trivial,hk⟩)) hg hat);replace yw:=am (Kd.iZ (ok:=(fun _=>True)) (by (with_reducible repeat (first|apply Kd.je|apply Kd.jh|apply Kd.jb));exact Kd.bG yw.out (fun _ hk=>⟨trivial,hk⟩)) hg hat);replace HB:=am (hb);have aoI:=am (ho);clear qx ho hb hg hat))
      go_roundg k1
      case measure=>have:=HK1.out;omega
      case rel=>exact⟨(KD),(au4),H',(zH HK1),⟨by (with_reducible repeat (first|apply Kd.je|apply Kd.jh|apply Kd.jb));exact Kd.bG yw.out (fun _ hk=>hk.2)⟩,⟨zR aoI⟩,⟨zB HB⟩⟩
     ·rw[if_neg c17]at H
      exact absurd H (by simp)
   ·rw[if_neg c4]at H
    have jV:decide (0<(mO.length:Int))=false:=decide_eq_false c4;have rZ:decide (0<mO.length)=false:=decide_eq_false (by omega);clear c4
    by_cases c23:(iy.length:Int)=0
    ·rw[if_pos c23]at H
     have J3:((iy.length:Int) == 0)=true:=beq_iff_eq.mpr c23;have adk:((iy.length:Int) != 0)=false:=bne_eq_false_iff_eq.mpr c23;clear c23;obtain rfl:=Option.some.inj H;obtain⟨OM,KA,MG⟩:=Kd.dS jF.out;subst MG;obtain⟨aoJ,ahD,ae5⟩:=Kd.dU qx.out;subst ae5
     go_wp2
     go_ret
     exact⟨z2,zB HB⟩
    ·rw[if_neg c23]at H
     have J3:((iy.length:Int) == 0)=false:=beq_eq_false_iff_ne.mpr c23;have adk:((iy.length:Int) != 0)=true:=bne_iff_ne.mpr c23;have ahE:¬ (iy=[]):=fun h_=>c23 (by rw[h_];rfl)
     by_cases c24:(IP iy).length≤140737488355328
     case neg=>rw[if_neg c24]at H;exact absurd H (by simp)
     rw[if_pos c24]at H;obtain rfl:=Option.some.inj H;obtain⟨au5,ae6,ae7⟩:=Kd.dS jF.out;subst ae7;obtain⟨au6,au7,aoK⟩:=Kd.dU qx.out;subst aoK
     obtain⟨W0,rfl⟩:∃ W0,W0=wr:=⟨_,rfl⟩
     have HPC:=am (Kd.az qx.out).2.2
     have hpos:1≤iy.length:=by omega
     have hmax:iy.length≤9223372036854775807:=PG HPC.out;have HCL:=am c24;have HNE:=am ahE;have HBN:=am (Le W0);have HBW:=am (Below.alloc (Below.refl W0.heap.size W0) (Nat.le_refl _) (.cells #[.pointer none,.slice none 0 0] 111));clear c24 H c23 ahE
     go_wp2
     go_loopw [7] (fun i w' => ∃ (v:Int), -1≤v∧v<(iy.length:Int)∧i=.int .i64 v∧ae (Lib.IsBuilderF 111 5 W0.heap.size W0.heap.size (Lib.byteCells (IP (iy.drop (v+1).toNat))) w')∧ae (Below W0.heap.size W0 w')) (fun i _=>(intOf i+1).toNat)
     case atStart=>exact⟨(iy.length:Int)-1,by omega,by omega,(by first|rfl|(rw[text_wrap hpos hmax])),⟨by rw[XC];exact HBN.out⟩,⟨HBW.out⟩⟩
     case round =>
      obtain⟨v,hv0,hv1,rfl,HBJ,HWJ⟩:=hrel;clear HBN HBW
      by_cases h0:0≤v
      ·have hd:decide (0≤v)=true:=decide_eq_true h0
       have hp:=eq_true h0;have hq:=eq_true hv1;obtain⟨ad,e,hx⟩:=Kd.RD (Kd.ku HPC.out HWJ.out) v h0 hv1
       cases e
       have HS:=am (S9 HCL.out h0 hv1);have HSZ:=am HWJ.out.size
       go_wp2_with (go_at_call 68;refine (Gv W0.heap.size W0.heap.size (IP (iy.drop (v+1).toNat)) _ _ HBJ.out HS.out.1 HSZ.out).mono ?_;rintro e w1 ⟨rfl,h1,h2⟩)
       go_roundw
       case rel=>exact⟨v-1,by omega,by omega,(by first|rfl|(rw[ae8 h0 hv1 hmax])),⟨by rw[HS.out.2];exact h1⟩,⟨HWJ.out.trans h2⟩⟩
       case measure=>simp[intOf];omega
      ·have hd:decide (0≤v)=false:=decide_eq_false h0
       have hz:v+1=0:=by omega
       have HZ:=am hz;have HSZ:=am HWJ.out.size;clear hz
       go_wp2_with (go_at_call 71;refine (Tryz.Builder_String_any_f W0.heap.size W0.heap.size (IP (iy.drop (v+1).toNat)) _ HBJ.out HSZ.out).mono ?_;rintro e w1 ⟨rfl,h1,h2⟩)
       go_ret
       exact⟨by rw[HZ.out];rfl,kE HB.out (HWJ.out.trans h2)⟩
end Go.Proofs.Yy.PTx
end
section
namespace Go.Proofs.Yy.PTx
open Go.RowKit Go.Proofs.Yw.PrintWords Go.Proofs.Yw.PrintLast Go.Proofs.Yw.PrintMore Go.Proofs.Yy.SC
def mkB (l:List UInt8):ByteArray:=⟨l.toArray⟩
theorem cZ (l:List UInt8):(mkB l).size=l.length:=List.size_toArray ..
theorem uG (l:List UInt8):(mkB l).data.toList=l:=rfl
theorem nO (l:List UInt8):(mkB l).toList=l:=by rw[Lib.toList_data];rfl
theorem Gq (s:ByteArray):mkB s.data.toList=s:=rfl
theorem mf (a b:List UInt8):mkB a++mkB b=mkB (a++b):=by
 apply ByteArray.ext
 rw[ByteArray.data_append];simp[mkB]
theorem TQ (l:List UInt8)(a b:Nat)(hb:b≤l.length):(mkB l).extract a b=mkB ((l.take b).drop a):=by
 apply ByteArray.ext
 rw[ByteArray.data_extract];simp only[mkB];rw[List.extract_toArray]
 congr 1
 rw[List.extract_eq_drop_take',List.drop_take] <;> rfl
theorem xg (l:List UInt8)(n:Nat)(h:n≤l.length):(mkB l).extract 0 n=mkB (l.take n):=by rw[TQ l 0 n h,List.drop_zero]
theorem xu (l:List UInt8)(n:Nat):(mkB l).extract n (mkB l).size=mkB (l.drop n):=by rw[cZ,TQ l n l.length (Nat.le_refl _),List.take_length]
theorem EG {l:List UInt8}{i:Nat}(h:i<l.length):bt (mkB l) (i:Int)=((l[i]'h).toNat:Int):=by
 unfold bt;rw[Int.toNat_natCast,dif_pos (by rw[cZ];exact h)]
 rfl
theorem ZO (c:UInt8)(l:List UInt8):bt (mkB (c::l)) 0=(c.toNat:Int):=by
 have:=EG (l:=c::l) (i:=0) (by simp)
 simpa using this
def LJ (d:D):Bool × Bool × ByteArray × Int:=(d.nar,d.neg,mkB d.ds,d.e)
theorem kN {n:Int}(h1 : -9223372036854775808≤n)(h2:n≤9223372036854775807):wrap64 n=n:=by unfold wrap64;omega
theorem Bc (d:D)(hl:d.ds.length≤9223372036854775807)(h1 : -1000000≤d.e)(h2:d.e≤1000000):iM.f d.nar d.neg (mkB d.ds) d.e=some (LJ (nrm d)):=by
 obtain⟨nar,neg,ds,e⟩:=d;simp only at hl h1 h2;unfold iM.f nrm LJ
 cases nar with
 | true=>rfl
 | false =>
  simp only[Bool.false_eq_true,if_false];have hs:jK.f (mkB ds) (⟨#[48]⟩:ByteArray)=some (mkB (lz ds)):=rfl;rw[hs];simp only[Option.bind_some];have hll:=aaX ds
  by_cases h0:lz ds=[]
  ·rw[if_pos (by rw[nO];exact h0),if_pos h0]
   rfl
  ·rw[if_neg (by rw[nO];exact h0),if_neg h0]
   have hr:jv.f (mkB (lz ds)) (⟨#[48]⟩:ByteArray)=some (mkB (rz (lz ds))):=by
    unfold jv.f;rw[if_pos ⟨rfl,by rw[cZ];omega⟩]
    rfl
   rw[hr];simp only[Option.bind_some,cZ];have hrl:=Xt (lz ds);have hm:mP=1000000:=rfl
   have e1:mn (wrap64 (((lz ds).length:Int)-((rz (lz ds)).length:Int))) (wrap64 (1000000-e))=((min (tz (lz ds)) (mP-e).toNat:Nat):Int):=by
    rw[kN (by omega) (by omega),kN (by omega) (by omega)];unfold mn tz
    split <;> omega
   rw[e1]
   have hk:min (tz (lz ds)) (mP-e).toNat≤(lz ds).length:=by unfold tz;omega
   have hk2:min (tz (lz ds)) (mP-e).toNat≤(mP-e).toNat:=Nat.min_le_right _ _;generalize min (tz (lz ds)) (mP-e).toNat=k at *;rw[kN (n:=((lz ds).length:Int)-(k:Int)) (by omega) (by omega),if_pos (by omega),if_pos (by omega),kN (n:=e+(k:Int)) (by omega) (by omega)]
   have e2:(((lz ds).length:Int)-(k:Int)).toNat=(lz ds).length-k:=by omega
   rw[e2,xg _ _ (by omega)]
theorem agm (c:UInt8):qC.contains c=dg c:=by
 have h:∀ n:Fin 256,qC.contains (UInt8.ofNat n.val)=dg (UInt8.ofNat n.val):=by decide +kernel
 have:=h ⟨c.toNat,c.toNat_lt⟩
 simpa using this
theorem TN {p:UInt8→Bool}{l:List UInt8}:l.dropWhile p=[] ↔ ∀ x ∈ l,p x=true:=by
 induction l with
 | nil=>simp
 | cons c l ih =>
  rw[List.dropWhile_cons]
  by_cases hc:p c=true
  ·rw[if_pos hc,ih];simp[hc]
  ·rw[if_neg hc];simp[hc]
theorem UG (l:List UInt8):(Lib.trimS l qC=[]) ↔ l.all dg=true:=by
 have hf:(fun c=>qC.contains c)=dg:=funext agm;unfold Lib.trimS Lib.trimLeftS Lib.trimRightS;rw[hf]
 constructor
 ·intro h
  have h1:∀ x ∈ (l.reverse.dropWhile dg).reverse,dg x=true:=by
   intro x hx;have:=TN.1 h x hx;exact this
  by_cases hr:l.reverse.dropWhile dg=[]
  ·have:=TN.1 hr
   exact List.all_eq_true.2 fun x hx=>this x (List.mem_reverse.2 hx)
  ·exfalso
   have h2:=List.head_dropWhile_not dg hr;have h3:=h1 _ (List.mem_reverse.2 (List.head_mem hr));rw[h2]at h3
   cases h3
 ·intro h
  have h2:l.reverse.dropWhile dg=[]:=TN.2 fun x hx=>List.all_eq_true.1 h x (List.mem_reverse.1 hx);rw[h2];rfl
theorem EQ (d:D):oH.f d.nar d.neg (mkB d.ds) d.e=some (formed d):=by
 obtain⟨nar,neg,ds,e⟩:=d;unfold oH.f formed
 cases nar with
 | true =>
  simp only[if_true,nO,Bool.true_and];rw[show (ds == ([]:List UInt8))=ds.isEmpty by cases ds <;> rfl]
  rfl
 | false =>
  simp only[Bool.false_eq_true,if_false,nO,cZ]
  by_cases h0:ds=[]
  ·rw[if_pos h0];subst h0;rfl
  ·rw[if_neg h0]
   have hm:mP=1000000:=rfl;have e0:ds.isEmpty=false:=List.isEmpty_eq_false_iff.2 h0
   by_cases h1:(ds.length:Int) > 4096
   ·rw[if_pos h1,decide_eq_false (by omega:¬ ds.length≤4096),Bool.false_and,Bool.and_false]
   ·rw[if_neg h1,decide_eq_true (by omega:ds.length≤4096),e0]
    by_cases h2:e < -1000000
    ·rw[if_pos h2,decide_eq_false (by omega:¬ -mP≤e)];simp
    ·rw[if_neg h2,decide_eq_true (by omega : -mP≤e)]
     by_cases h3:e > 1000000
     ·rw[if_pos h3,decide_eq_false (by omega:¬ e≤mP)];simp
     ·rw[if_neg h3,decide_eq_true (by omega:e≤mP)]
      have ht:mY.f (mkB ds) (⟨#[48,49,50,51,52,53,54,55,56,57]⟩:ByteArray)=some (mkB (Lib.trimS ds qC)):=by
       unfold mY.f;rw[if_pos ⟨rfl,by rw[cZ];omega⟩]
       rfl
      rw[ht];simp only[Option.bind_some,nO]
      congr 1
      rw[Bool.eq_iff_iff];simp only[Bool.not_false,Bool.true_and,Bool.and_true,beq_iff_eq];exact UG ds
theorem qZ {d:D}(h:formed d=true):d.ds.length≤4096 ∧ -1000000≤d.e∧d.e≤1000000:=by
 obtain⟨nar,neg,ds,e⟩:=d;unfold formed at h
 cases nar with
 | true =>
  simp only[if_true,Bool.and_eq_true,decide_eq_true_iff,List.isEmpty_iff]at h;obtain⟨_,h1,h2⟩:=h;subst h1 h2;exact⟨Nat.zero_le _,by show (-1000000:Int)≤0;decide,by show (0:Int)≤1000000;decide⟩
 | false =>
  simp only[Bool.false_eq_true,if_false,Bool.and_eq_true,decide_eq_true_iff]at h;obtain⟨_,h1,_,h2,h3⟩:=h;exact⟨h1,h2,h3⟩
theorem vY (d:D):lh.f d.nar d.neg (mkB d.ds) d.e=some (if formed d=true then ((nrm d).nar,(nrm d).neg,mkB (nrm d).ds,(nrm d).e,none) else (false,false,mkB [],0,some 23)):=by
 unfold lh.f;rw[EQ];simp only[Option.bind_some]
 by_cases h:formed d=true
 ·obtain⟨h1,h2,h3⟩:=qZ h
  rw[if_pos h,if_pos h,Bc d (by omega) h2 h3]
  rfl
 ·rw[if_neg h,if_neg h];rfl
end Go.Proofs.Yy.PTx
end
