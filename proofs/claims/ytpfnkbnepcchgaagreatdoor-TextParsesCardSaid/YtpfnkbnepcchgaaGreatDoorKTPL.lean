/- Part 12. -/
import Derived.Test.YtpfnkbnepcchgaaGreatDoorKTPK
set_option linter.unusedSimpArgs false
set_option linter.unusedVariables false
section
set_option maxHeartbeats 8000000
set_option maxRecDepth 100000
namespace Go.Proofs.Yy.PTx
open Go.RowKit Go.Proofs.Yy.Z Go.Proofs.Yw.PrintWords Go.Proofs.Yw.PrintLast Go.Proofs.Yw.PrintMore
open Go.Proofs.Yy.M
attribute [local go_sem] dG dP kR kT kW kS
attribute [local go_sem] gI gG iP iR fF fG gW gV
mutual
def gq.j0:Nat→ByteArray→Int→Option (List Int × Option Int)
  | 0,_,_=>none
  | k+1,x0,x4=>if x4≥0 then (none) else (gq.l0 k x0 ([]:List Int))
def gq.l0:Nat→ByteArray→List Int→Option (List Int × Option Int)
  | 0,_,_=>none
  | k+1,x0,x5=>if (x0.size:Int) > 0 then (if 0≤(mn (x0.size:Int) 19) then (if (mn (x0.size:Int) 19)≤(x0.size:Int) then ((iy.f (x0.extract 0 ((mn (x0.size:Int) 19):Int).toNat) 10 64).bind fun aif=>(if aif.2.isNone=true then (gq.l1 k x0 x5 (mn (x0.size:Int) 19) aif.1 1 (mn (x0.size:Int) 19) 0) else (none))) else (none)) else (none)) else (some (x5,none))
def gq.l1:Nat→ByteArray→List Int→Int→Int→Int→Int→Int→Option (List Int × Option Int)
  | 0,_,_,_,_,_,_,_=>none
  | k+1,x0,x5,x6,x7,x9,x41,x42=>if x42<x41 then (gq.l1 k x0 x5 x6 x7 (IntKind.u64.wrap (x9*10)) x41 (wrap64 (x42+1))) else ((dI.f k x5 (([x9]:List Int))).bind fun aoK=>((uk.f k x7).bind fun aoL=>((gz.f k aoK aoL).bind fun aoM=>(if 0≤x6 then (if x6≤(x0.size:Int) then (gq.l0 k (x0.extract (x6:Int).toNat x0.size) aoM) else (none)) else (none)))))
end
def gq.f (k:Nat)(a0:ByteArray):Option (List Int × Option Int):=if (a0.size:Int) > 4096 then (none) else ((strings_IndexFunc.f a0).bind fun alB=>(if a0.toList=([]:List UInt8) then (gq.j0 k a0 0) else (gq.j0 k a0 alB)))
theorem gq.calls (k:Nat)(a0:ByteArray)(r1:List Int)(r2:Option Int)(w:World)(h:gq.f k a0=some (r1,r2)) :
    Calls Tryz.prog 94 #[.string a0] w fun e w' => ∃ v0_:Value,e=.returned (.tuple #[v0_,rF r2])∧Kd.V (Kd.int .u64) 25 w' w.heap.size (fun k_=>(w.heap.size≤k_)) v0_ r1∧Below w.heap.size w w':=by
 have yB:=Tryz.underlying27;have hu64:=Tryz.underlying64;have HB:=am (Below.refl w.heap.size w);have H:=am h;unfold gq.f at H;clear h;replace H:=zj H;obtain⟨c2,H⟩:=H;have ry:decide (4096<(a0.size:Int))=false:=decide_eq_false c2;have IM:decide (4096<a0.size)=false:=decide_eq_false (by omega);clear c2;replace H:=zo H;obtain⟨alB,A3,H⟩:=H
 go_enter Tryz.func94,Tryz.ntmps94
 go_upto_if 17 with (first|((with_reducible refine af (f:=147) rfl ?_);refine jS (some 15) rfl rfl Tryz.func147 (by kernel_rfl) rfl #[.string a0,.func (.func 148) #[] #[]] rfl (by (try simp only[List.map_toArray,List.map_cons,List.map_nil]);first|done|rfl|(simp only[List.length_drop,List.length_take];rfl)) ?_;(with_reducible refine (strings_IndexFunc.calls a0 alB _ A3.out).mono ?_);rintro e w5 ⟨rfl,hb⟩;refine⟨_,rfl,?_⟩;have n0_:=zBs HB hb;clear HB;have HB:=n0_;clear n0_;(try clear hb);(try clear hb2);(try clear hk);(try clear hi)))
 (try simp only[Act.put,List.setIfInBounds_toArray,List.set_cons_zero,List.set_cons_succ])
 go_cut [4] (fun v4 wc => ∃ (kq:Nat) (aoN:Int),v4=.int .i64 aoN∧ae (gq.j0 kq a0 aoN=some (r1,r2))∧ae (kq≤k)∧ae (Below w.heap.size w wc))
 case first =>
  replace H:=zsk H;rcases H with⟨qm,zg,H⟩|⟨qm,zg,c6,H⟩
  (first|rw[qm]|(simp only[cu,fQ];rw[qm])|rw[zg]|rw[List.isEmpty_iff.mpr (beq_iff_eq.mp qm)]|rw[List.isEmpty_eq_false_iff.mpr (beq_eq_false_iff_ne.mp qm)]|skip)
  rotate_left
  (first|rw[qm]|(simp only[cu,fQ];rw[qm])|rw[zg]|rw[List.isEmpty_iff.mpr (beq_iff_eq.mp qm)]|rw[List.isEmpty_eq_false_iff.mpr (beq_eq_false_iff_ne.mp qm)]|skip)
  rotate_left
  all_goals (go_wp2)
  ·go_meet
   case rel=>exact⟨_,(0),z1,H,⟨z5⟩,⟨zB HB⟩⟩
  go_meet
  case rel=>exact⟨_,(alB),z1,H,⟨z5⟩,⟨zB HB⟩⟩
 case rest =>
  obtain⟨kq,aoN,rfl,H,HJ3,HB⟩:=hcut;obtain _|kj3:=kq
  ·exact zz H rfl
  simp only[gq.j0]at H;replace H:=ayB H;obtain⟨wz,H⟩:=H
  go_wp2
  go_loopg [0,5] kj3 (fun kq v0 v5 w' => ∃ (ji:ByteArray) (nT:List Int),v0=.string ji∧ae (gq.l0 kq ji nT=some (r1,r2))∧ae (kq≤kj3)∧ae (Kd.V (Kd.int .u64) 25 w' w.heap.size (fun k_=>(w.heap.size≤k_)) v5 nT)∧ae (Below w.heap.size w w'))
  case atStart=>exact⟨(a0),(([]:List Int)),z1,H,zL,⟨Kd.JB _ _ _ _ _⟩,⟨zB HB⟩⟩
  clear H;obtain⟨ji,nT,rfl,H,HK2,fM,HB⟩:=hrel;obtain _|k2:=gk
  ·exact zz H rfl
  simp only[gq.l0]at H;replace H:=zs H;rcases H with⟨c8,H⟩|⟨c8,H⟩;have sO:decide (0<(ji.size:Int))=true:=decide_eq_true c8;have Ap:decide (0<ji.size)=true:=decide_eq_true (by omega);clear c8;generalize Uu:(mn (ji.size:Int) 19:Int)=ji9 at H;have amO:(if 19<(ji.size:Int) then 19 else (ji.size:Int))=ji9:=Uu;replace H:=zit H;obtain⟨mr,sS,H⟩:=H;replace H:=zit H;obtain⟨qK,zk,H⟩:=H;replace H:=zo H;obtain⟨⟨aAi,aH3⟩,A12,H⟩:=H
  try dsimp only at H
  replace H:=zIn H;obtain⟨rfl,H⟩:=H
  try simp only[au,ax]
  rotate_left;have sO:decide (0<(ji.size:Int))=false:=decide_eq_false c8;have Ap:decide (0<ji.size)=false:=decide_eq_false (by omega);clear c8;obtain⟨rfl,rfl⟩:=zJ2 H;rotate_left
  all_goals (go_wp2_with (first|((with_reducible refine af (f:=149) rfl ?_);refine jS (some 35) rfl rfl Tryz.func149 (by kernel_rfl) rfl #[.string (ji.extract 0 ((ji9):Int).toNat),.int .i64 10,.int .i64 64] rfl (by (try simp only[List.map_toArray,List.map_cons,List.map_nil]);first|done|(simp only[Uu];rfl)|rfl|(simp only[List.length_drop,List.length_take];rfl)) ?_;(with_reducible refine (iy.calls _ _ _ _ _ _ A12.out).mono ?_);rintro e w13 ⟨rfl,hb⟩;refine⟨_,rfl,?_⟩;replace fM:=zVb fM hb;replace HB:=zBs HB hb;clear hb;(try simp only[au,ax]))))
  ·go_loopg [9,42] k2 (fun kq v9 v42 w' => ∃ (YH:Int) (YI:Int),v9=.int .u64 YH∧v42=.int .i64 YI∧ae (gq.l1 kq ji nT ji9 aAi YH ji9 YI=some (r1,r2))∧ae (kq≤k2)∧ae (Kd.V (Kd.int .u64) 25 w' w.heap.size (fun k_=>(w.heap.size≤k_)) u5 nT)∧ae (Below w.heap.size w w'))
   case atStart=>exact⟨(1),(0),z1,z1,H,zL,⟨zV fM⟩,⟨zB HB⟩⟩
   clear H;obtain⟨YH,YI,rfl,rfl,H,HK3,fM,HB⟩:=hrel;obtain _|k3:=gk
   ·exact zz H rfl
   simp only[gq.l1]at H;replace H:=zsd H;rcases H with⟨ww,H⟩|⟨ww,H⟩;rotate_left;generalize aig:(([YH]:List Int):List Int)=afk at H;have aih:=zY aig;clear aig;replace H:=zo H;obtain⟨aoK,A15,H⟩:=H;replace H:=zo H;obtain⟨aoL,A16,H⟩:=H;replace H:=zo H;obtain⟨aoM,A17,H⟩:=H;replace H:=zit H;obtain⟨PY,acU,H⟩:=H;replace H:=zit H;obtain⟨aAj,aAk,H⟩:=H;rotate_left
   all_goals (go_wp2_with (first|((with_reducible refine aI (N:=49) rfl ?_);refine Kd.Bq (Kd.int .u64) _ 25 ?hg (N:=49) ?hd (xs:=([YH]:List Int)) (inner := [.int .u64 YH]) (ok:=fun _=>True) (okp:=fun _=>True) ?hr ?hp (fun _ hk=>hk) trivial (Below.refl _ _) (Nat.le_refl _) (by simp) ?_;(case hd=>rfl);(case hg=>rfl);(case hr=>first|(go_simp;done)|(go_simp;rfl));(case hp=>exact (jW.one (show Kd.M (Kd.int .u64) _ _ _ YH [.int .u64 YH] from rfl) (jW.none _ _)));intro aH4 w20 afl hb hg_ ku;clear hg_ ku;(first|rw[← aih.out]at afl|(simp only[Int.reduceToNat]at afl;rw[← aih.out]at afl));replace fM:=am (Kd.jG (zV fM) (Kd.gm afl) hb);have BC:=am (Kd.eu (Kd.oI (M:=fun k_=>(w.heap.size≤k_)) afl (zS HB) (fun k_ h_=>h_)) (zS HB));replace HB:=zBs HB hb;clear hb afl;obtain⟨UZ,IR,YJ⟩:=Kd.fJ fM.out;subst YJ;obtain⟨DD,yf,UG⟩:=Kd.dZ BC.out;subst UG)|((with_reducible refine af (f:=107) rfl ?_);refine zc (some 50) Tryz.func107 #[.slice UZ nT.length IR,.slice DD afk.length yf] (dI.calls _ _ _ _ _ _ _ _ _ (zC ((Kd.bf fM.out).2.2)) ((Kd.bf fM.out).2.1) (zC ((Kd.aA BC.out).2.2)) ((Kd.aA BC.out).2.1) A15.out) ?_;rintro e w24 ⟨aH5,rfl,ho0,hb⟩;refine⟨_,rfl,?_⟩;replace fM:=zVb fM hb;have Qc:=am (Kd.dV (Kd.cO (ok':=fun k_=>(w.heap.size≤k_)∧some k_≠(.slice DD afk.length yf:Value).ownBlock) ho0 (fun k_ hk_=>⟨(Nat.le_trans (zS HB) hk_),(Kd.fresh' (Kd.ql (zR BC)) k_ hk_)⟩)) (zS HB));replace BC:=zRb BC hb;replace HB:=zBs HB hb;clear hb ho0)|((with_reducible refine af (f:=48) rfl ?_);refine zc (some 52) Tryz.func48 _ (uk.calls _ _ _ _ A16.out) ?_;rintro e w25 ⟨aH6,rfl,ho0,hb⟩;refine⟨_,rfl,?_⟩;replace fM:=zVb fM hb;replace Qc:=zVb Qc hb;have YK:=am (Kd.dV (Kd.cO (ok':=fun k_=>(w.heap.size≤k_)∧some k_≠(.slice DD afk.length yf:Value).ownBlock) ho0 (fun k_ hk_=>⟨(Nat.le_trans (zS HB) hk_),(Kd.fresh' (Kd.ql (zR BC)) k_ hk_)⟩)) (zS HB));replace BC:=zRb BC hb;replace HB:=zBs HB hb;clear hb ho0;obtain⟨avt,afe,aff⟩:=Kd.fJ Qc.out;subst aff;obtain⟨avu,avv,aoO⟩:=Kd.fJ YK.out;subst aoO)|((with_reducible refine af (f:=150) rfl ?_);refine zc (some 53) Tryz.func150 #[.slice avt aoK.length afe,.slice avu aoL.length avv] (gz.calls _ (fun k_=>((w.heap.size≤k_)∧some k_≠(.slice DD afk.length yf:Value).ownBlock)) _ _ _ (fun k_=>((w.heap.size≤k_)∧some k_≠(.slice DD afk.length yf:Value).ownBlock)) _ _ _ _ _ Qc.out YK.out A17.out) ?_;rintro e w28 ⟨aH7,rfl,ho0,hb⟩;refine⟨_,rfl,?_⟩;replace fM:=zVb fM hb;replace Qc:=zVb Qc hb;replace YK:=zVb YK hb;have aoP:=am (Kd.dV (Kd.cO (ok':=fun k_=>(w.heap.size≤k_)∧some k_≠(.slice DD afk.length yf:Value).ownBlock) ho0 (fun k_ hk_=>⟨Or.elim hk_ (fun hs_=>Or.elim hs_ (fun hs_=>hs_.1) (fun hs_=>hs_.1)) (fun hn_=>(Nat.le_trans (zS HB) hn_)),Or.elim hk_ (fun hs_=>Or.elim hs_ (fun hs_=>hs_.2) (fun hs_=>hs_.2)) (fun hn_=>(Kd.fresh' (Kd.ql (zR BC)) k_ hn_))⟩)) (zS HB));replace BC:=zRb BC hb;replace HB:=zBs HB hb;clear hb ho0)))
   ·go_roundg k3
    case measure=>have:=HJ3.out;have:=HK2.out;have:=HK3.out;omega
    case rel=>exact⟨(IntKind.u64.wrap (YH*10)),(wrap64 (YI+1)),z1,z1,H,⟨by have:=HJ3.out;have:=HK2.out;have:=HK3.out;omega⟩,⟨zV fM⟩,⟨zB HB⟩⟩
   go_roundg k3
   case measure=>have:=HJ3.out;have:=HK2.out;have:=HK3.out;omega
   case rel=>exact⟨(ji.extract (ji9:Int).toNat ji.size),(aoM),(by first|rfl|(simp;done)|(simp only[← Uu] <;> (first|rfl|simp))|(simp[*];done)),H,⟨by have:=HJ3.out;have:=HK2.out;have:=HK3.out;omega⟩,⟨by (with_reducible repeat (first|apply Kd.jJ|apply Kd.jK|apply Kd.jq));exact Kd.cO aoP.out (fun _ hk=>hk.1)⟩,⟨zB HB⟩⟩
  go_ret2
  exact⟨_,z2,zV fM,zB HB⟩
mutual
def eX.l0:Nat→Int→List Int→Bool→List Int→Int→Int→Option (List Int × Bool × Option Int)
  | 0,_,_,_,_,_,_=>none
  | k+1,x1,x7,x8,x43,x44,x45=>if x45<x44 then (if 0≤x45 then (if x45<(x43.length:Int) then (if x8=true then (eX.l0 k x1 x7 true x43 x44 (wrap64 (x45+1))) else (eX.l0 k x1 x7 ((rd x43 x45) != 0) x43 x44 (wrap64 (x45+1)))) else (none)) else (none)) else (eX.l1 k x1 x7 x8 (x7.length:Int) 0)
def eX.l1:Nat→Int→List Int→Bool→Int→Int→Option (List Int × Bool × Option Int)
  | 0,_,_,_,_,_=>none
  | k+1,x1,x7,x8,x56,x57=>if x57<x56 then (if 0≤x57 then (if x57<(x7.length:Int) then (if 0≤(Int.tmod x1 64) then ((some (x7.set (x57:Int).toNat (shr .u64 (rd x7 x57) (Int.tmod x1 64)):List Int)).bind fun IU=>(if (wrap64 (x57+1))<(x7.length:Int) then (if 0≤(wrap64 (x57+1)) then (if 0≤(wrap64 (63-(Int.tmod x1 64))) then (eX.l1 k x1 (IU.set (x57:Int).toNat (Go.bits .or .u64 (rd IU x57) (shl .u64 (IntKind.u64.wrap ((rd IU (wrap64 (x57+1)))*2)) (wrap64 (63-(Int.tmod x1 64)))))) x8 x56 (wrap64 (x57+1))) else (none)) else (none)) else (eX.l1 k x1 IU x8 x56 (wrap64 (x57+1))))) else (none)) else (none)) else (none)) else ((bG.f k x7).bind fun avw=>(some (avw,x8,none)))
end
def eX.f (k:Nat)(l0:List Int)(a1:Int):Option (List Int × Bool × Option Int):=if a1<0 then (none) else ((bG.f k l0).bind fun t227=>(if (wrap64 (Int.tdiv a1 64))≥(t227.length:Int) then (some (([]:List Int),decide ((t227.length:Int) > 0),none)) else (if 0≤(wrap64 (Int.tdiv a1 64)) then (if (wrap64 (Int.tdiv a1 64))≤(t227.length:Int) then ((some (t227.drop ((wrap64 (Int.tdiv a1 64)):Int).toNat:List Int)).bind fun U0=>(if ([]:List Int).length+U0.length<17592186044416 then ((some (([]:List Int)++U0:List Int)).bind fun Gj=>(if 0<(Gj.length:Int) then (if 0≤(wrap64 (63-(Int.tmod a1 64))) then ((some (t227.take ((wrap64 (Int.tdiv a1 64)):Int).toNat:List Int)).bind fun QL=>(eX.l0 k a1 Gj ((shl .u64 (IntKind.u64.wrap ((rd Gj 0)*2)) (wrap64 (63-(Int.tmod a1 64)))) != 0) QL (QL.length:Int) 0)) else (none)) else (none))) else (none))) else (none)) else (none))))
def eX.T18:Bool × List (List Nat × List Nat):=(true,[([],[]),([],[]),([0,1],[0,1]),([2],[2]),([],[]),([],[]),([5],[5]),([4,6],[4,6]),([7],[7]),([8],[8]),([],[]),([10],[10]),([11],[11]),([9,12],[9,12]),([3,13],[3,13]),([0,1,0,1,2,3,4,5,6,7,8,9,10,11,12,13,14],[0,1]),([15,14,0,1,2,3,4,5,6,7,8,9,10,11,12,13,14],[14,15])])
def eX.B18:List Nat := [0,0,3,7,0,0,32,112,240,496,0,1024,3072,8176,16383,32767,65535]
theorem eX.amy:rG .any (opsOf Tryz.f52 18)=eX.T18:=by kernel_rfl
theorem eX.afM:jb eX.T18.2 eX.B18=true:=by kernel_rfl
theorem eX.calls (k:Nat)(P0_:Nat→Prop)(A0:Option Addr)(c0:Nat)(l0:List Int)(a1:Int)(r1:List Int)(r2:Bool)(r3:Option Int)(w:World)(hs0:Kd.V (Kd.int .u64) 25 w w.heap.size (fun k_=>P0_ k_) (.slice A0 l0.length c0) l0)(h:eX.f k l0 a1=some (r1,r2,r3)) :
    Calls Tryz.prog 52 #[.slice A0 l0.length c0,.int .i64 a1] w fun e w' => ∃ v0_:Value,e=.returned (.tuple #[v0_,.bool r2,rF r3])∧Kd.V (Kd.int .u64) 25 w' w.heap.size (fun k_=>(P0_ k_∨w.heap.size≤k_)) v0_ r1∧Below w.heap.size w w':=by
 have yB:=Tryz.underlying27;have hu64:=Tryz.underlying64;have HO0:=am (show Kd.V (Kd.int .u64) 25 w w.heap.size (fun k_=>(P0_ k_∨w.heap.size≤k_)) (.slice A0 l0.length c0) l0 from Kd.cO hs0 (fun k_ hk => .inl hk));have HB:=am (Below.refl w.heap.size w);have H:=am h;unfold eX.f at H;clear h;replace H:=zjd H;obtain⟨pI,H⟩:=H;replace H:=zo H;obtain⟨t227,A4,H⟩:=H;replace H:=yH H;rcases H with⟨qg,H⟩|⟨qg,H⟩;obtain⟨rfl,rfl,rfl⟩:=zJ3 H;rotate_left;generalize uh:(wrap64 (Int.tdiv a1 64):Int)=ji8 at H
 (try rw[uh]at qg)
 (try rw[uh]at A4)
 have aAl:(IntKind.i64.wrap (Int.tdiv a1 64))=ji8:=(cu _).trans uh;replace H:=zit H;obtain⟨wu,Ez,H⟩:=H;replace H:=zit H;obtain⟨mr,sS,H⟩:=H;obtain⟨U0,aii,H⟩:=zw H;replace H:=zil H;obtain⟨aoQ,H⟩:=H;obtain⟨Gj,aoR,H⟩:=zw H;replace H:=zi H;obtain⟨c12,H⟩:=H;have qO:decide (0<(Gj.length:Int))=true:=decide_eq_true c12;have xY:decide (0<Gj.length)=true:=decide_eq_true (by omega);clear c12;generalize qN:(wrap64 (63-(Int.tmod a1 64)):Int)=qL at H
 (try rw[qN]at A4)
 have ahI:(IntKind.i64.wrap (63-(Int.tmod a1 64)))=qL:=(cu _).trans qN;replace H:=zit H;obtain⟨ww,LM,H⟩:=H;generalize uT:(shl .u64 (IntKind.u64.wrap ((rd Gj 0)*2)) (qL):Int)=Ar at H
 (try rw[uT]at A4)
 have aaf:(IntKind.u64.wrap ((IntKind.u64.wrap ((rd Gj 0)*2))*2 ^ min (qL).toNat 64))=Ar:=uT;have aag:(qL)≤64→(IntKind.u64.wrap ((IntKind.u64.wrap ((rd Gj 0)*2))*2 ^ (qL).toNat))=Ar:=iW uT;have H9:=eq_true (zD:0≤(ji8));have wE:=eq_true (zD:(ji8)≤(t227.length:Int));obtain⟨QL,aij,H⟩:=zw H;rotate_left
 all_goals (go_enter Tryz.func52,Tryz.ntmps52;go_wp2_with (first|((with_reducible refine af (f:=103) rfl ?_);refine zc (some 17) Tryz.func103 #[.slice A0 l0.length c0] (bG.calls _ (fun k_=>(P0_ k_∨w.heap.size≤k_)) _ _ _ _ _ HO0.out A4.out) ?_;rintro e w18 ⟨v228,rfl,ho0,hb⟩;refine⟨_,rfl,?_⟩;replace HO0:=zVb HO0 hb;have Ii:=am (Kd.dV (Kd.cO (ok':=fun k_=>(P0_ k_∨w.heap.size≤k_)) ho0 (fun k_ hk_=>Or.elim hk_ (fun hs_=>hs_) (fun hn_=>(.inr (Nat.le_trans (zS HB) hn_))))) (zS HB));replace HB:=zBs HB hb;clear hb ho0;obtain⟨YG,OD,afd⟩:=Kd.fJ Ii.out;subst afd;have q20:((ji8):Int)≤((t227.length:Int):Int):=zD;obtain⟨aH8,aik,_,ail,_⟩:=info_parts info25;have Ij:t227.length≤OD:=(Kd.bf Ii.out).2.1;have avx:Kd.F (Kd.int .u64) _ _ YG t227.length t227:=(Kd.Wy (base:=w.heap.size) Ii.out).2.2;have aAm:(0:Int)≤((ji8):Int):=zD;have aim:=NK (P:=Tryz.prog) 88 25 .i64 Tryz.underlying88 aik 1 ail YG t227.length OD (ji8) aAm q20;have ain:=Kd.ame (m:=((ji8):Int).toNat) (c:=OD) avx (by omega) Ij;obtain⟨A20,hA20⟩:∃ A1,A1=(if OD=((ji8):Int).toNat then YG else (YG:Option Addr).map (·.add (((ji8):Int).toNat*1))):=⟨_,rfl⟩;obtain⟨c20,alC⟩:∃ c1,c1=OD-((ji8):Int).toNat:=⟨_,rfl⟩;have aio:U0.length=t227.length-((ji8):Int).toNat:=(by rw[aii.out,List.length_drop] <;> omega);rw[show (t227).drop ((ji8):Int).toNat=U0 from aii.out.symm]at ain;replace ain:Kd.F (Kd.int .u64) _ _ A20 U0.length U0:=(by rw[hA20];exact ain);rw[← aio, ← hA20, ← alC]at aim;have adl:=am (show Kd.V (Kd.int .u64) 25 _ w.heap.size _ (.slice A20 U0.length c20) U0 from Kd.IL (by rw[aio,alC];exact Nat.sub_le_sub_right Ij _) ain);have aAn:=am (show U0.length≤c20 from by rw[aio,alC];exact Nat.sub_le_sub_right Ij _);clear ain avx Ij aik ail alC;have aH9:=am aio;have aIa:=am hA20;clear aio hA20;replace q20:=eq_true q20)|((with_reducible refine eG (b := .append) (xs:=#[.const (.slice none 0 0),.tmp 29]) rfl ?_);at_builtin;refine Kd.ru (Kd.int .u64) (w0:=w) w.heap.size rfl (.const (.slice none 0 0)) (.tmp 29) 88 25 (.int .u64 0) 8 rfl Tryz.underlying88 info25 rfl (by decide) (by omega) (.slice none 0 0) ([]:List Int) U0 _ _ _ (fun k_=>(w.heap.size≤k_)) (fun _=>False) rfl rfl ?aO ?aR (fun _ _ h=>h) (fun _ h=>h.elim) ?aF ?aB ?aS ?aL ?_;(case aR=>repeat (first|exact (Kd.bf adl.out).2.2|(with_reducible refine Kd.lm ?_ _)|(with_reducible refine Kd.lg ?_ _)|(with_reducible refine Kd.nZ ?_)));(case aB=>exact (zB HB));(case aF=>exact (fun k_ hk=>(Nat.le_trans (zS HB) hk)));(case aO=>exact ((Kd.GN _ _ _ _ (fun k_=>(w.heap.size≤k_)))));(case aS=>exact (zS HB));(case aL=>have:=aoQ.out;omega);intro v236 w21 ho hb hg hat;rw[← aoR.out]at ho;replace HO0:=am (Kd.jr (Kd.oz (zV HO0)) hg hat);replace Ii:=am (Kd.jr (Kd.oz (zV Ii)) hg hat);replace adl:=am (Kd.jr (Kd.oz (zV adl)) hg hat);replace HB:=am (hb);have adm:=am (ho);clear ho hb hg hat;obtain⟨UZ,IR,YJ⟩:=Kd.dZ adm.out;subst YJ;have aoS:0≤(0:Int):=(by omega);have aoT:0<(Gj.length:Int):=zD;obtain⟨Md,e238,DK⟩:=Kd.dQ (Kd.aA adm.out).2.2 0 aoS aoT;cases e238;have aAo:(0<Gj.length)=True:=eq_true (by omega);(try rw[show ((0:Int)).toNat=0 from rfl]at DK);(try rw[Addr.add_zero']at DK);replace aoS:=eq_true aoS;replace aoT:=eq_true aoT;have q23:((ji8):Int)≤((t227.length:Int):Int):=zD;obtain⟨aIb,aip,_,aoU,_⟩:=info_parts info25;have U1:t227.length≤OD:=(Kd.bf Ii.out).2.1;have avy:Kd.F (Kd.int .u64) _ _ YG t227.length t227:=(Kd.Wy (base:=w.heap.size) Ii.out).2.2;have aiq:=Ov (P:=Tryz.prog) 88 25 .i64 Tryz.underlying88 aip YG t227.length OD (ji8) (zD) q23 U1;have aoV:=Kd.Jb (m:=((ji8):Int).toNat) avy (by omega);have aoW:QL.length=((ji8):Int).toNat:=(by rw[aij.out,List.length_take];omega);rw[← aij.out]at aoV;rw[← aoW]at aiq;have aoX:=am (show Kd.V (Kd.int .u64) 25 _ w.heap.size _ (.slice YG QL.length OD) QL from Kd.IL (by omega) aoV);have aAp:=am (show QL.length≤OD from by omega);clear aoV avy U1 aip aoU;have aIc:=am aoW;clear aoW;replace q23:=eq_true q23)|((with_reducible refine af (f:=103) rfl ?_);refine zc (some 17) Tryz.func103 #[.slice A0 l0.length c0] (bG.calls _ (fun k_=>(P0_ k_∨w.heap.size≤k_)) _ _ _ _ _ HO0.out A4.out) ?_;rintro e w6 ⟨v228,rfl,ho0,hb⟩;refine⟨_,rfl,?_⟩;replace HO0:=zVb HO0 hb;have Ii:=am (Kd.dV (Kd.cO (ok':=fun k_=>(P0_ k_∨w.heap.size≤k_)) ho0 (fun k_ hk_=>Or.elim hk_ (fun hs_=>hs_) (fun hn_=>(.inr (Nat.le_trans (zS HB) hn_))))) (zS HB));replace HB:=zBs HB hb;clear hb ho0;obtain⟨Ao7,co7,eo7⟩:=Kd.fJ Ii.out;subst eo7)))
 ·go_ret3
  exact⟨_,z2,Kd.JB _ _ _ _ _,zB HB⟩
 go_loopg [8,45] k (fun kq v8 v45 w' => ∃ (lC:Bool) (J3:Int),v8=.bool lC∧v45=.int .i64 J3∧ae (eX.l0 kq a1 Gj lC QL (QL.length:Int) J3=some (r1,r2,r3))∧ae (kq≤k)∧ae (Kd.R (Kd.int .u64) 25 w' w.heap.size (fun k_=>(w.heap.size≤k_)) (.slice (some Md) Gj.length IR) Gj)∧ae (Kd.V (Kd.int .u64) 25 w' w.heap.size (fun k_=>(P0_ k_∨w.heap.size≤k_)∧some k_≠((.slice (some Md) Gj.length IR):Value).ownBlock) (.slice YG QL.length OD) QL)∧ae (Below w.heap.size w w'))
 case atStart=>exact⟨(((Ar) != 0)),(0),(by first|rfl|(simp;done)|(simp only[← uT] <;> (first|rfl|simp))|(simp[*];done)),z1,H,zL,⟨zR adm⟩,⟨zV aoX⟩,⟨zB HB⟩⟩
 clear H
 try clear hx2
 try clear qi2
 try clear aAq
 try clear aAr
 try clear DK
 obtain⟨lC,J3,rfl,rfl,H,HK1,jH,YL,HB⟩:=hrel;obtain _|k1:=gk
 ·exact zz H rfl
 simp only[eX.l0]at H;replace H:=zsd H;rcases H with⟨LQ,H⟩|⟨LQ,H⟩;replace H:=zid H;obtain⟨UQ,H⟩:=H;replace H:=zid H;obtain⟨P5,H⟩:=H
 cases lC
 replace H:=zb0 H;obtain⟨aAs,aAt,aoY,rfl,U2⟩:=zA (Kd.dQ (Kd.bf YL.out).2.2 J3);rotate_left;replace H:=zb1 H;obtain⟨aAs,aAt,aoY,rfl,U2⟩:=zA (Kd.dQ (Kd.bf YL.out).2.2 J3);rotate_left;rotate_left
 all_goals (go_wp2)
 ·go_roundg k1
  case measure=>have:=HK1.out;omega
  case rel=>exact⟨(((rd QL J3) != 0)),(wrap64 (J3+1)),z1,z1,H,(zH HK1),⟨zR jH⟩,⟨zV YL⟩,⟨zB HB⟩⟩
 ·go_roundg k1
  case measure=>have:=HK1.out;omega
  case rel=>exact⟨(true),(wrap64 (J3+1)),z1,z1,H,(zH HK1),⟨zR jH⟩,⟨zV YL⟩,⟨zB HB⟩⟩
 go_loopg [57] k1 (fun kq v57 w' => ∃ (EF:List Int) (kZ:Int),v57=.int .i64 kZ∧ae (eX.l1 kq a1 EF lC (Gj.length:Int) kZ=some (r1,r2,r3))∧ae (kq≤k1)∧ae (Kd.R (Kd.int .u64) 25 w' w.heap.size (fun k_=>(w.heap.size≤k_)) (.slice (some Md) Gj.length IR) EF)∧ae (Below w.heap.size w w'))
 case atStart=>exact⟨(Gj),(0),z1,H,zL,⟨zR jH⟩,⟨zB HB⟩⟩
 clear H
 try clear hx2
 try clear qi2
 try clear aAq
 try clear aAr
 try clear hx24
 try clear DK
 try clear U2
 obtain⟨EF,kZ,rfl,H,HK2,jH,HB⟩:=hrel;have DL:=(Kd.aA jH.out).1;rw[DL]at jH
 (try simp only[DL])
 obtain _|k2:=gk
 ·exact zz H rfl
 simp only[eX.l1]at H;replace H:=zs H;rcases H with⟨c28,H⟩|⟨c28,H⟩;have zq:decide (kZ<(Gj.length:Int))=true:=decide_eq_true c28
 (try simp only[DL]at zq)
 clear c28;replace H:=zid H;obtain⟨EU,H⟩:=H;replace H:=zi H;obtain⟨c30,H⟩:=H;have adn:decide (kZ<(EF.length:Int))=true:=decide_eq_true c30
 (try simp only[DL]at adn)
 clear c30;generalize UW:(Int.tmod a1 64:Int)=Ig at H;replace H:=zit H;obtain⟨ahU,aoZ,H⟩:=H;generalize air:(shr .u64 (rd EF kZ) (Ig):Int)=afm at H;have avz:((rd EF kZ) / 2 ^ min (Ig).toNat 64)=afm:=air;have avA:(Ig)≤64→((rd EF kZ) / 2 ^ (Ig).toNat)=afm:=kE air;obtain⟨IU,YM,H⟩:=zw H;replace H:=zs H;rcases H with⟨c35,H⟩|⟨c35,H⟩
 ·have JZ:decide ((wrap64 (kZ+1))<(EF.length:Int))=true:=decide_eq_true c35
  (try simp only[DL]at JZ)
  clear c35;generalize ado:(wrap64 (kZ+1):Int)=QM at H
  (try rw[ado]at JZ)
  have avC:(IntKind.i64.wrap (kZ+1))=QM:=(cu _).trans ado;replace H:=zid H;obtain⟨L9,H⟩:=H;generalize ao0:(wrap64 (63-(Ig)):Int)=ais at H;have avD:(IntKind.i64.wrap (63-(Ig)))=ais:=(cu _).trans ao0;replace H:=zit H;obtain⟨ait,aiu,H⟩:=H;generalize aiv:(shl .u64 (IntKind.u64.wrap ((rd IU (QM))*2)) (ais):Int)=alD at H;have avE:(IntKind.u64.wrap ((IntKind.u64.wrap ((rd IU (QM))*2))*2 ^ min (ais).toNat 64))=alD:=aiv;have avF:(ais)≤64→(IntKind.u64.wrap ((IntKind.u64.wrap ((rd IU (QM))*2))*2 ^ (ais).toNat))=alD:=iW aiv;generalize aiw:(IU.set (kZ:Int).toNat (Go.bits .or .u64 (rd IU kZ) (alD)):List Int)=aAu at H;have ao1:=zY aiw;clear aiw;have adp:0≤(kZ:Int):=zD;have adq:kZ<(EF.length:Int):=zD;obtain⟨adr,e245,Me⟩:=Kd.dQ (Kd.aA jH.out).2.2 kZ adp adq
  obtain rfl:Md=adr:=(by injection e245)
  replace adp:=eq_true adp;replace adq:=eq_true adq;have p34:0≤(kZ:Int):=zD;have q34:(kZ:Int)<((EF.length:Int):Int):=zD;obtain⟨U3,Qd,WL,aix,ao2,aAv,aiy⟩:=Kd.oH jH.out (by omega)
  (first|cases WL|(injection WL with ea_ en_ ec_;(first|subst ea_|(injection ea_ with ea_;subst ea_));subst ec_;clear en_))
  have ao3:=am aix;have aAw:=am aiy;clear aix ao2 aiy
  (first|simp only[add_plain]at DK|skip)
  (first|simp only[add_plain]at Me|skip)
  obtain⟨aiz,aiA⟩:=Kd.iQ 0 jH.out (kZ:Int) p34 q34;replace p34:=eq_true p34;replace q34:=eq_true q34;have ao4:=Kd.mM jH.out (kZ:Int) afm
  try go_wp2_with (first|((with_reducible refine fV (t:=25) (p:=68) rfl ?_);refine ed (t:=25) (p:=68) (v:=?avG) (w1:=(wr.setCell ⟨U3,(kZ:Int).toNat,none⟩ (.int .u64 afm))) ?hg ?ho ?hn ?hr ?_;(case ho=>rfl);(case hg=>rfl);(case hn=>rfl);(case hr=>first|(go_simp;done)|(go_simp;rfl));intro w43 hw;have hg:wr.grownBy w43 (some U3):=(by rw[hw];exact ao4.2);have hp_:Kd.R (Kd.int .u64) 25 w43 w.heap.size (fun k_=>(w.heap.size≤k_)) (.slice (some ⟨U3,0,none⟩) EF.length IR) IU:=(by rw[hw,YM.out];exact ao4.1);clear ao4;replace jH:=am (hp_);replace HB:=am ((by rw[hw];exact bQ (HB.out) ao3.out:Below w.heap.size w w43));clear hg hw hp_))
  replace jH:=am (Kd.dJ jH.out);replace HB:=am (aX HB.out);have ao5:0≤(kZ:Int):=zD
  have ao6:kZ<(IU.length:Int):=(by have h_:(kZ:Int)<((EF.length:Int):Int):=zD;first|(have e_:=(Kd.aA jH.out).1;omega)|simpa only [YM.out,List.length_set] using h_)
  have aAx:((kZ:Int)<((EF.length:Int):Int))=True:=eq_true (zD);obtain⟨ao7,e247,DN⟩:=Kd.dQ (Kd.aA jH.out).2.2 kZ ao5 ao6
  obtain rfl:(⟨U3,0,none⟩:Addr)=ao7:=(by injection e247)
  (first|simp only[add_plain]at DN|simp only[NH]at DN|simp only[Addr.add,Nat.zero_add]at DN|skip)
  replace ao5:=eq_true ao5;replace ao6:=eq_true ao6;have ao8:0≤((QM):Int):=zD
  have ao9:(QM)<(IU.length:Int):=(by have h_:((QM):Int)<((EF.length:Int):Int):=zD;first|(have e_:=(Kd.aA jH.out).1;omega)|simpa only [YM.out,List.length_set] using h_)
  have aAy:(((QM):Int)<((EF.length:Int):Int))=True:=eq_true (zD);obtain⟨apa,e248,DR⟩:=Kd.dQ (Kd.aA jH.out).2.2 (QM) ao8 ao9
  obtain rfl:(⟨U3,0,none⟩:Addr)=apa:=(by injection e248)
  (first|simp only[add_plain]at DR|simp only[NH]at DR|simp only[Addr.add,Nat.zero_add]at DR|skip)
  replace ao8:=eq_true ao8;replace ao9:=eq_true ao9;have p41:0≤(kZ:Int):=zD;have q41:(kZ:Int)<((EF.length:Int):Int):=zD;obtain⟨aiB,aiC⟩:=Kd.iQ 0 jH.out (kZ:Int) p41 q41;replace p41:=eq_true p41;replace q41:=eq_true q41;have apb:=Kd.N7 jH.out (kZ:Int) (Go.bits .or .u64 (rd IU kZ) (alD));rw[← ao1.out]at apb;have avH:=am apb;clear apb;refine lQ (n:=17) (S:=fun w'=>w'.cell? ⟨U3,(kZ).toNat,none⟩=some (.int .u64 (rd IU kZ))∧w'.cell? ⟨U3,((QM)).toNat,none⟩=some (.int .u64 (rd IU (QM)))) (ds := [16]) (Array.replicate 17 false) (by kernel_rfl) rfl rfl ⟨DN,DR⟩ (fun hHeld=>?_);refine gU eX.amy eX.afM (fun HT_ HW_=>?_);generalize w43.drew=w44 at jH HB avH aiC DN DR aiB hHeld ⊢;refine zp HT_ 0 (some 74) ?_;refine zp HT_ 1 (some 75) ?_;refine zp HT_ 2 (some 76) ?_;refine zp HT_ 4 (some 78) ?_;refine zp HT_ 5 (some 79) ?_;refine zp HT_ 6 (some 80) ?_;refine zp HT_ 7 (some 81) ?_;refine zp HT_ 10 (some 84) ?_;refine zp HT_ 11 (some 85) ?_;refine zp HT_ 12 (some 86) ?_;refine zt HT_ HW_ 3 (some 77) hHeld ?_;refine zt HT_ HW_ 8 (some 82) hHeld ?_;refine zp HT_ 9 (some 83) ?_;refine zp HT_ 13 (some 87) ?_;refine zp HT_ 14 (some 88) ?_;refine zp HT_ 15 (some 89) ?_;refine LC (i:=16) (N:=none) #[true,true,true,true,true,true,true,true,true,true,true,true,true,true,true,true,true] rfl rfl (AP HT_.out (by kernel_rfl)) (by decide) (fun K hK=>?_);refine vW (w1:=?_) (by rfl) rfl ?_ ?_;rotate_left
  ·go_simp
   rfl
  refine hK.out _ _ ?_;clear hK K;refine oU (iZ HT_.out (by kernel_rfl)) ?_
  try go_wp2
  (try simp only[← DL])
  (try simp only[← UW])
  go_roundg k2
  case measure=>have:=HK1.out;have:=HK2.out;omega
  case rel=>exact⟨(aAu),(QM),(by first|rfl|(simp;done)|(simp only[← ado] <;> (first|rfl|simp))|(simp[*];done)),H,⟨by have:=HK1.out;have:=HK2.out;omega⟩,⟨by (try simp only[DL]);(with_reducible repeat (first|apply Kd.dh|apply Kd.df|apply Kd.dJ));exact avH.out⟩,⟨zB HB⟩⟩
 have JZ:decide ((wrap64 (kZ+1))<(EF.length:Int))=false:=decide_eq_false c35
 (try simp only[DL]at JZ)
 clear c35;have adp:0≤(kZ:Int):=zD;have adq:kZ<(EF.length:Int):=zD;obtain⟨adr,e245,Me⟩:=Kd.dQ (Kd.aA jH.out).2.2 kZ adp adq
 obtain rfl:Md=adr:=(by injection e245)
 replace adp:=eq_true adp;replace adq:=eq_true adq;have p34:0≤(kZ:Int):=zD;have q34:(kZ:Int)<((EF.length:Int):Int):=zD;obtain⟨U3,Qd,WL,aix,ao2,aAv,aiy⟩:=Kd.oH jH.out (by omega)
 (first|cases WL|(injection WL with ea_ en_ ec_;(first|subst ea_|(injection ea_ with ea_;subst ea_));subst ec_;clear en_))
 have ao3:=am aix;have aAw:=am aiy;clear aix ao2 aiy
 (first|simp only[add_plain]at Me|skip)
 obtain⟨aiz,aiA⟩:=Kd.iQ 0 jH.out (kZ:Int) p34 q34;replace p34:=eq_true p34;replace q34:=eq_true q34;have apc:=Kd.mM jH.out (kZ:Int) afm;rotate_left;have zq:decide (kZ<(Gj.length:Int))=false:=decide_eq_false c28
 (try simp only[DL]at zq)
 clear c28;replace H:=zo H;obtain⟨avw,A48,H⟩:=H;obtain⟨rfl,rfl,rfl⟩:=zJ3 H;rotate_left
 all_goals (go_wp2_with (first|((with_reducible refine fV (t:=25) (p:=68) rfl ?_);refine ed (t:=25) (p:=68) (v:=?avI) (w1:=(wr.setCell ⟨U3,(kZ:Int).toNat,none⟩ (.int .u64 afm))) ?hg ?ho ?hn ?hr ?_;(case ho=>rfl);(case hg=>rfl);(case hn=>rfl);(case hr=>first|(go_simp;done)|(go_simp;rfl));intro w47 hw;have hg:wr.grownBy w47 (some U3):=(by rw[hw];exact apc.2);have hp_:Kd.R (Kd.int .u64) 25 w47 w.heap.size (fun k_=>(w.heap.size≤k_)) (.slice (some ⟨U3,0,none⟩) EF.length IR) IU:=(by rw[hw,YM.out];exact apc.1);clear apc;replace jH:=am (hp_);replace HB:=am ((by rw[hw];exact bQ (HB.out) ao3.out:Below w.heap.size w w47));clear hg hw hp_)|((with_reducible refine af (f:=103) rfl ?_);refine zc (some 92) Tryz.func103 #[.slice (some Md) EF.length IR] (bG.calls _ (fun k_=>some k_=(.slice (some Md) EF.length IR:Value).ownBlock) _ _ _ _ _ (Kd.R_V (Kd.jX rfl (jH.out))) A48.out) ?_;rintro e w49 ⟨aId,rfl,ho0,hb⟩;refine⟨_,rfl,?_⟩;have apd:=am (Kd.dV (Kd.cO (ok':=fun k_=>(P0_ k_∨w.heap.size≤k_)) ho0 (fun k_ hk_=>Or.elim hk_ (fun hs_=>(.inr (((jH.out).1 k_ hs_.symm)))) (fun hn_=>(.inr (Nat.le_trans (zS HB) hn_))))) (zS HB));replace jH:=zRb jH hb;replace HB:=zBs HB hb;clear hb ho0)))
 ·(try simp only[← DL])
  (try simp only[← UW])
  go_roundg k2
  case measure=>have:=HK1.out;have:=HK2.out;omega
  case rel=>exact⟨(IU),(wrap64 (kZ+1)),z1,H,⟨by have:=HK1.out;have:=HK2.out;omega⟩,⟨by (try simp only[DL]);(with_reducible repeat (first|apply Kd.dh|apply Kd.df|apply Kd.dJ));exact jH.out⟩,⟨zB HB⟩⟩
 go_ret3
 exact⟨_,by first|exact z3|(simp only[← uh, ← qN, ← uT];exact z3)|exact z2,zV apd,zB HB⟩
def l7.l0:Nat→List Int→List (List Int)→Int→Int→Option (List Int)
  | 0,_,_,_,_=>none
  | k+1,x3,x7,x8,x9=>if x9<x8 then (if 0≤x9 then (if x9<(x7.length:Int) then ((bG.f k (Ho x7 x9)).bind fun ape=>((dI.f k x3 ape).bind fun apf=>(l7.l0 k apf x7 x8 (wrap64 (x9+1))))) else (none)) else (none)) else (some x3)
def l7.f (k:Nat)(l0:List (List Int)):Option (List Int):=l7.l0 k (([1]:List Int)) l0 (l0.length:Int) 0
theorem l7.calls (k:Nat)(P0_:Nat→Prop)(A0:Option Addr)(c0:Nat)(l0:List (List Int))(r:List Int)(w:World)(hs0:Kd.V (Kd.slice 25 (Kd.int .u64)) 88 w w.heap.size (fun k_=>P0_ k_) (.slice A0 l0.length c0) l0)(h:l7.f k l0=some r) :
    Calls Tryz.prog 53 #[.slice A0 l0.length c0] w fun e w' => ∃ v0_:Value,e=.returned (v0_)∧Kd.V (Kd.int .u64) 25 w' w.heap.size (fun k_=>(P0_ k_∨w.heap.size≤k_)) v0_ r∧Below w.heap.size w w':=by
 have HO0:=am (show Kd.V (Kd.slice 25 (Kd.int .u64)) 88 w w.heap.size (fun k_=>(P0_ k_∨w.heap.size≤k_)) (.slice A0 l0.length c0) l0 from Kd.cO hs0 (fun k_ hk => .inl hk));have HB:=am (Below.refl w.heap.size w);have H:=am h;unfold l7.f at H;clear h;generalize aiD:(([1]:List Int):List Int)=aAz at H;have aiE:=zY aiD;clear aiD
 go_enter Tryz.func53,Tryz.ntmps53
 go_wp2_with (first|((with_reducible refine aI (N:=6) rfl ?_);refine Kd.Bq (Kd.int .u64) _ 25 ?hg (N:=6) ?hd (xs:=([1]:List Int)) (inner := [.int .u64 1]) (ok:=fun _=>True) (okp:=fun _=>True) ?hr ?hp (fun _ hk=>hk) trivial (Below.refl _ _) (Nat.le_refl _) (by simp) ?_;(case hd=>rfl);(case hg=>rfl);(case hr=>first|(go_simp;done)|(go_simp;rfl));(case hp=>exact (jW.one (show Kd.M (Kd.int .u64) _ _ _ 1 [.int .u64 1] from rfl) (jW.none _ _)));intro aIe w2 ho3 hb hg_ ku;clear hg_ ku;(first|rw[← aiE.out]at ho3|(simp only[Int.reduceToNat]at ho3;rw[← aiE.out]at ho3));replace HO0:=am (Kd.jG (zV HO0) (Kd.gm ho3) hb);have apg:=am (Kd.eu (Kd.oI (M:=fun k_=>(w.heap.size≤k_)) ho3 (zS HB) (fun k_ h_=>h_)) (zS HB));replace HB:=zBs HB hb;clear hb ho3))
 go_loopg [3,9] k (fun kq v3 v9 w' => ∃ (iH:List Int) (tH:Int),v9=.int .i64 tH∧ae (l7.l0 kq iH l0 (l0.length:Int) tH=some r)∧ae (kq≤k)∧ae (Kd.V (Kd.int .u64) 25 w' w.heap.size (fun k_=>(P0_ k_∨w.heap.size≤k_)) v3 iH)∧ae (Kd.V (Kd.slice 25 (Kd.int .u64)) 88 w' w.heap.size (fun k_=>(P0_ k_∨w.heap.size≤k_)) (.slice A0 l0.length c0) l0)∧ae (Below w.heap.size w w'))
 case atStart=>exact⟨(aAz),(0),z1,H,zL,⟨Kd.cO (Kd.R_V (zR apg)) (fun k_ hk=>by exact (.inr (hk.1)))⟩,⟨by (with_reducible repeat (first|apply Kd.jJ|apply Kd.jK|apply Kd.jq));exact Kd.cO HO0.out (fun _ hk=>hk.1)⟩,⟨zB HB⟩⟩
 clear H;obtain⟨iH,tH,rfl,H,HK1,tC,jH,HB⟩:=hrel;obtain _|k1:=gk
 ·exact zz H rfl
 simp only[l7.l0]at H;replace H:=zsd H;rcases H with⟨jP,H⟩|⟨jP,H⟩;replace H:=zid H;obtain⟨qg,H⟩:=H;replace H:=zid H;obtain⟨qm,H⟩:=H;replace H:=zo H;obtain⟨ape,A7,H⟩:=H;replace H:=zo H;obtain⟨apf,A8,H⟩:=H;have alE:0≤(tH:Int):=zD;have alF:tH<(l0.length:Int):=zD;obtain⟨aAA,aiF,aiG,aAB,ads,U4,U5⟩:=amC (Kd.bf jH.out).2.2 tH alE alF
 cases aAB
 obtain⟨aAC,aiH,aiI,aal⟩:=Kd.amv jH.out [] tH alE (by first|exact alF|exact zD|(have e_:=(Kd.bf jH.out).1;omega));obtain⟨aph,api,rfl,MB,MC⟩:=Kd.Hl aiI;have Ik:=aal 0 _ rfl;rw[Nat.add_zero,show ((Kd.slice 25 (Kd.int .u64))).sz=1 from rfl,Nat.mul_one]at Ik;replace Ik:=Option.some.inj (Ik.symm.trans ads)
 injection Ik with avJ aAD avK
 rw[avJ]at MC;rw[avK]at MB;have DT:=am (show Kd.V (Kd.int .u64) 25 _ w.heap.size _ _ (Ho l0 tH) from Kd.IL MB MC);clear avJ aAD avK MC MB;clear aal aiH;have Il:=am U5;have apj:=am U4;clear U5 U4;replace alE:=eq_true alE;replace alF:=eq_true alF;rotate_left;obtain rfl:=Option.some.inj H.out;rotate_left
 all_goals (go_wp2_with (first|((with_reducible refine af (f:=103) rfl ?_);refine zc (some 15) Tryz.func103 #[.slice aiF (Ho l0 tH).length aiG] (bG.calls _ (fun k_=>(P0_ k_∨w.heap.size≤k_)) _ _ _ _ _ DT.out A7.out) ?_;rintro e w9 ⟨aIf,rfl,ho0,hb⟩;refine⟨_,rfl,?_⟩;replace tC:=zVb tC hb;replace jH:=zVb jH hb;replace DT:=zVb DT hb;have U6:=am (Kd.dV (Kd.cO (ok':=fun k_=>(P0_ k_∨w.heap.size≤k_)) ho0 (fun k_ hk_=>Or.elim hk_ (fun hs_=>hs_) (fun hn_=>(.inr (Nat.le_trans (zS HB) hn_))))) (zS HB));replace Il:=am (Kd.jZ (zC Il.out) hb);replace HB:=zBs HB hb;clear hb ho0;obtain⟨aoH,alA,afi⟩:=Kd.fJ tC.out;subst afi;obtain⟨aak,YB,YC⟩:=Kd.fJ U6.out;subst YC)|((with_reducible refine af (f:=107) rfl ?_);refine zc (some 16) Tryz.func107 #[.slice aoH iH.length alA,.slice aak ape.length YB] (dI.calls _ _ _ _ _ _ _ _ _ (zC ((Kd.bf tC.out).2.2)) ((Kd.bf tC.out).2.1) (zC ((Kd.bf U6.out).2.2)) ((Kd.bf U6.out).2.1) A8.out) ?_;rintro e w12 ⟨aIg,rfl,ho0,hb⟩;refine⟨_,rfl,?_⟩;replace tC:=zVb tC hb;replace jH:=zVb jH hb;replace DT:=zVb DT hb;replace U6:=zVb U6 hb;have apk:=am (Kd.dV (Kd.cO (ok':=fun k_=>(P0_ k_∨w.heap.size≤k_)) ho0 (fun k_ hk_=>(.inr (Nat.le_trans (zS HB) hk_)))) (zS HB));replace Il:=am (Kd.jZ (zC Il.out) hb);replace HB:=zBs HB hb;clear hb ho0)))
 ·go_roundg k1
  case measure=>have:=HK1.out;omega
  case rel=>exact⟨(apf),(wrap64 (tH+1)),z1,H,(zH HK1),⟨zV apk⟩,⟨zV jH⟩,⟨zB HB⟩⟩
 go_ret
 exact⟨_,z2,zV tC,zB HB⟩
end Go.Proofs.Yy.PTx
end
section
set_option maxHeartbeats 8000000
set_option maxRecDepth 100000
namespace Go.Proofs.Yy.PTx
open Go.RowKit Go.Proofs.Yy.Z Go.Proofs.Yw.PrintWords Go.Proofs.Yw.PrintLast Go.Proofs.Yw.PrintMore
open Go.Proofs.Yy.M
attribute [local go_sem] dG dP kR kT kW kS
attribute [local go_sem] gI gG iP iR fF fG gW gV
open Go.Proofs.Yy.M
def kY.l0:Nat→List Int→List Int→Int→Int→Int→List Int→Int→Int→Option (Bool × List Int)
  | 0,_,_,_,_,_,_,_,_=>none
  | k+1,x0,x1,x2,x7,x8,x12,x13,x14=>if x14<x13 then (if 0≤x14 then (if x14<(x12.length:Int) then ((oW.f (rd x12 x14) x2 x8 0).bind fun adt=>(if x14<(x0.length:Int) then (if x7≤1 then (kY.l0 k (x0.set (x14:Int).toNat (iV (rd x0 x14) adt.1 x7)) x1 x2 (jY (rd x0 x14) adt.1 x7) adt.2 x12 x13 (wrap64 (x14+1))) else (none)) else (none))) else (none)) else (none)) else (if 0≤(x1.length:Int) then (if (x1.length:Int)<(x0.length:Int) then (if x7≤1 then (some (decide ((jY (rd x0 (x1.length:Int)) x8 x7) > 0),(x0.set ((x1.length:Int):Int).toNat (iV (rd x0 (x1.length:Int)) x8 x7)))) else (none)) else (none)) else (none))
def kY.f (k:Nat)(l0:List Int)(l1:List Int)(a2:Int):Option (Bool × List Int):=kY.l0 k l0 l1 a2 0 0 l1 (l1.length:Int) 0
theorem kY.calls (k:Nat)(P0_:Nat→Prop)(lw:Value)(l0:List Int)(pre post:List Int)(A1:Option Addr)(c1:Nat)(l1:List Int)(a2:Int)(r1:Bool)(r2:List Int)(w0 w:World)(hB:Below w0.heap.size w0 w)(ho0:Wd pre post 25 w w0.heap.size P0_ lw l0)(hr1:∀ W_,Kept w W_ (fun k_=>P0_ k_)→Kd.C (Kd.int .u64) W_ A1 l1.length l1)(hc1:l1.length≤c1)(h:kY.f k l0 l1 a2=some (r1,r2)) :
    Calls Tryz.prog 193 #[lw,.slice A1 l1.length c1,.int .u64 a2] w fun e w'=>e=.returned (.bool r1)∧Wd pre post 25 w' w0.heap.size (fun k_=>(P0_ k_∨w.heap.size≤k_)) lw r2∧Below w0.heap.size w0 w'∧Kept w w' (fun k_=>P0_ k_):=by
 have HO0:=am (show Wd pre post 25 w w0.heap.size (fun k_=>(P0_ k_∨w.heap.size≤k_)) lw l0 from TM ho0 (fun k_ hk=>(.inl hk)));have HR1:=am hr1;have HC1:=am hc1;clear hr1 hc1;have HK:=am (Kept.refl w (fun k_=>P0_ k_));have HW0:=am hB.size;have HB:=am hB;clear hB;have H:=am h;unfold kY.f at H;clear h
 go_enter Tryz.func193,Tryz.ntmps193
 go_wp2
 go_loopg [7,8,14] k (fun kq v7 v8 v14 w' => ∃ (mD:List Int) (lu:Int) (lC:Int) (jw:Int),v7=.int .u64 lu∧v8=.int .u64 lC∧v14=.int .i64 jw∧ae (kY.l0 kq mD l1 a2 lu lC l1 (l1.length:Int) jw=some (r1,r2))∧ae (kq≤k)∧ae (Wd pre post 25 w' w0.heap.size (fun k_=>(P0_ k_∨w.heap.size≤k_)) lw mD)∧ae (Kept w w' (fun k_=>P0_ k_))∧ae (Below w0.heap.size w0 w'))
 case atStart=>exact⟨(l0),(0),(0),(0),z1,z1,z1,H,zL,⟨by (with_reducible repeat (first|apply uN|apply uI|apply xU));exact HO0.out⟩,⟨by repeat (first|(with_reducible first|exact HK.out|apply Kept.alloc|apply Kept.drewN|apply Kept.drew)|exact HK.out)⟩,⟨zB HB⟩⟩
 clear H;obtain⟨mD,lu,lC,jw,rfl,rfl,rfl,H,HK1,kL,HK,HB⟩:=hrel;obtain _|k1:=gk
 ·exact zz H rfl
 simp only[kY.l0]at H;replace H:=zsd H;rcases H with⟨jP,H⟩|⟨jP,H⟩;replace H:=zid H;obtain⟨qg,H⟩:=H;replace H:=zid H;obtain⟨qm,H⟩:=H;replace H:=zo H;obtain⟨⟨afn,MF⟩,A7,H⟩:=H
 try dsimp only at H
 replace H:=zid H;obtain⟨sO,H⟩:=H;replace H:=zit H;obtain⟨wu,Ez,H⟩:=H;generalize aiJ:(mD.set (jw:Int).toNat (iV (rd mD jw) afn lu):List Int)=avL at H;have apl:=zY aiJ;clear aiJ;obtain⟨aIh,aIi,aAE,rfl,apm⟩:=zA (Kd.dQ (Kd.FX HR1.out HK.out) jw);rotate_left;replace H:=zi H;obtain⟨c14,H⟩:=H;have ww:decide (0≤(l1.length:Int))=true:=decide_eq_true c14;have LM:decide (0≤l1.length)=true:=decide_eq_true (by omega);clear c14;replace H:=zi H;obtain⟨c15,H⟩:=H;have uS:decide ((l1.length:Int)<(mD.length:Int))=true:=decide_eq_true c15;have DI:decide (l1.length<mD.length)=true:=decide_eq_true (Int.ofNat_lt.mp c15);clear c15;replace H:=zit H;obtain⟨H9,YE,H⟩:=H;generalize aiK:(mD.set ((l1.length:Int):Int).toNat (iV (rd mD (l1.length:Int)) lC lu):List Int)=aAF at H;have apn:=zY aiK;clear aiK;obtain⟨rfl,rfl⟩:=zJ2 H;obtain⟨JY,rZ,LW⟩:=yK kL.out;subst LW;have adu:0≤((l1.length:Int):Int):=zD;have adv:(l1.length:Int)<(mD.length:Int):=zD;obtain⟨apo,apq,MG⟩:=Kd.dQ (yJ kL.out).2.2 (l1.length:Int) adu adv
 cases apq
 (try simp only[Go.IntWalk.toNatUp]at MG)
 replace adu:=eq_true adu;replace adv:=eq_true adv;have p17:0≤((l1.length:Int):Int):=zD;have q17:((l1.length:Int):Int)<((mD.length:Int):Int):=zD;obtain⟨LX,WG,acY,ahp,anz,azs,ahq⟩:=GV kL.out (by omega)
 (first|cases acY|(injection acY with ea_ en_ ec_;(first|subst ea_|(injection ea_ with ea_;subst ea_));subst ec_;clear en_))
 have anA:=am ahp;have azt:=am ahq;clear ahp anz ahq;have avM:=am (show (P0_ LX∨w.heap.size≤LX) from (JP kL.out))
 (first|simp only[add_plain]at MG|skip)
 obtain⟨aah,aai⟩:=yE kL.out ((l1.length:Int):Int) p17 q17
 (try simp only[Go.IntWalk.toNatUp]at aah aai)
 replace p17:=eq_true p17;replace q17:=eq_true q17;have acZ:=Gx kL.out ((l1.length:Int):Int) (by have h1_:=of_eq_true p17;have h2_:=of_eq_true q17;omega) (iV (rd mD (l1.length:Int)) lC lu);rotate_left
 all_goals (go_wp2_with (first|((with_reducible refine af (f:=166) rfl ?_);refine zc (some 23) Tryz.func166 _ (oW.calls _ _ _ _ _ _ _ A7.out) ?_;rintro e w' ⟨rfl,⟨nd,rfl⟩⟩;refine⟨_,rfl,?_⟩;(try (rw[fZ wr];generalize hq_:World.drewN wr _=wr;have n0_:ae (Wd pre post 25 wr w0.heap.size (fun k_=>(P0_ k_∨w.heap.size≤k_)) lw mD):=⟨by rw[← hq_];exact (by (with_reducible repeat (first|apply uN|apply uI|apply xU));exact kL.out)⟩;have n1_:ae (Kept w wr (fun k_=>P0_ k_)):=⟨by rw[← hq_];exact (by repeat (first|(with_reducible first|exact HK.out|apply Kept.alloc|apply Kept.drewN|apply Kept.drew)|exact HK.out))⟩;have n2_:ae (Below w0.heap.size w0 wr):=⟨by rw[← hq_];exact (zB HB)⟩;clear kL HK HB hq_;have kL:=n0_;have HK:=n1_;have HB:=n2_;clear n0_ n1_ n2_));obtain⟨aak,YB,YC⟩:=yK kL.out;subst YC;have apr:0≤(jw:Int):=zD;have aps:jw<(mD.length:Int):=zD;obtain⟨aAG,aAH,adw⟩:=Kd.dQ (yJ kL.out).2.2 jw apr aps;cases aAH;replace apr:=eq_true apr;replace aps:=eq_true aps;have p10:0≤(jw:Int):=zD;have q10:(jw:Int)<((mD.length:Int):Int):=zD;obtain⟨aiL,alA,afi,avN,aAI,aIj,avO⟩:=GV kL.out (by omega);(first|cases afi|(injection afi with ea_ en_ ec_;(first|subst ea_|(injection ea_ with ea_;subst ea_));subst ec_;clear en_));have aAJ:=am avN;have aIk:=am avO;clear avN aAI avO;have avP:=am (show (P0_ aiL∨w.heap.size≤aiL) from (JP kL.out));(first|simp only[add_plain]at adw|skip);obtain⟨avQ,avR⟩:=yE kL.out (jw:Int) p10 q10;replace p10:=eq_true p10;replace q10:=eq_true q10;obtain⟨aAK,aAL⟩:=yE kL.out (jw:Int) (zD) (zD);have apt:=Gx kL.out (jw:Int) (by have h1_:=of_eq_true p10;have h2_:=of_eq_true q10;omega) (iV (rd mD jw) afn lu))|((with_reducible refine af (f:=215) rfl ?_);refine Be (some 35) rfl rfl #[.int .u64 (rd mD jw),.int .u64 afn,.int .u64 lu] _ rfl (by (try simp only[List.map_toArray,List.map_cons,List.map_nil]);rfl) (fun w_=>dP (rd mD jw) afn lu (by first|decide|(with_reducible assumption)|exact zD) w_) ?_)|((with_reducible refine fV (t:=25) (p:=38) rfl ?_);refine ed (t:=25) (p:=38) (v:=?avS) (w1:=(wr.setCell ⟨aiL,pre.length+(jw:Int).toNat,none⟩ (.int .u64 (iV (rd mD jw) afn lu)))) ?hg ?ho ?hn ?hr ?_;(case ho=>rfl);(case hg=>rfl);(case hn=>rfl);(case hr=>first|(go_simp;done)|(go_simp;rfl));intro w13 hw;have hg:wr.grownBy w13 (some aiL):=(by rw[hw];exact apt.2);have hp_:Wd pre post 25 w13 w0.heap.size (fun k_=>(P0_ k_∨w.heap.size≤k_)) (.slice (some ⟨aiL,pre.length,none⟩) mD.length YB) avL:=(by rw[hw,apl.out];exact apt.1);clear apt;replace HB:=am ((by rw[hw];exact bQ (HB.out) aAJ.out:Below w0.heap.size w0 w13));replace HK:=am (Kept.y8 (S:=(fun k_=>P0_ k_)) hg (by repeat (first|(with_reducible first|exact HK.out|apply Kept.alloc|apply Kept.drewN|apply Kept.drew)|exact HK.out)) (fun k_ e_=>(by injection e_ with e_;rw[← e_];exact JP kL.out)));replace kL:=am (hp_);clear hg hw hp_)|((with_reducible refine af (f:=215) rfl ?_);refine Be (some 51) rfl rfl #[.int .u64 (rd mD (l1.length:Int)),.int .u64 lC,.int .u64 lu] _ rfl (by (try simp only[List.map_toArray,List.map_cons,List.map_nil]);rfl) (fun w_=>dP (rd mD (l1.length:Int)) lC lu (by first|decide|(with_reducible assumption)|exact zD) w_) ?_)|((with_reducible refine fV (t:=25) (p:=54) rfl ?_);refine ed (t:=25) (p:=54) (v:=?ahv) (w1:=(wr.setCell ⟨LX,pre.length+((l1.length:Int):Int).toNat,none⟩ (.int .u64 (iV (rd mD (l1.length:Int)) lC lu)))) ?hg ?ho ?hn ?hr ?_;(case ho=>rfl);(case hg=>rfl);(case hn=>rfl);(case hr=>first|(go_simp;done)|(go_simp;rfl));intro w20 hw;have hg:wr.grownBy w20 (some LX):=(by rw[hw];exact acZ.2);have hp_:Wd pre post 25 w20 w0.heap.size (fun k_=>(P0_ k_∨w.heap.size≤k_)) (.slice (some ⟨LX,pre.length,none⟩) mD.length rZ) aAF:=(by rw[hw,apn.out];exact acZ.1);clear acZ;replace HB:=am ((by rw[hw];exact bQ (HB.out) anA.out:Below w0.heap.size w0 w20));replace HK:=am (Kept.y8 (S:=(fun k_=>P0_ k_)) hg (by repeat (first|(with_reducible first|exact HK.out|apply Kept.alloc|apply Kept.drewN|apply Kept.drew)|exact HK.out)) (fun k_ e_=>(by injection e_ with e_;rw[← e_];exact JP kL.out)));replace kL:=am (hp_);clear hg hw hp_)))
 ·go_roundg k1
  case measure=>have:=HK1.out;omega
  case rel=>exact⟨(avL),(jY (rd mD jw) afn lu),(MF),(wrap64 (jw+1)),z1,z1,z1,H,(zH HK1),⟨by (with_reducible repeat (first|apply uN|apply uI|apply xU));exact kL.out⟩,⟨by repeat (first|(with_reducible first|exact HK.out|apply Kept.alloc|apply Kept.drewN|apply Kept.drew)|exact HK.out)⟩,⟨zB HB⟩⟩
 go_ret
 exact⟨z2,by (with_reducible repeat (first|apply uN|apply uI|apply xU));exact kL.out,zB HB,by repeat (first|(with_reducible first|exact HK.out|apply Kept.alloc|apply Kept.drewN|apply Kept.drew)|exact HK.out)⟩
def kX.l0:Nat→List Int→List Int→Int→List Int→Int→Int→Option (Bool × List Int)
  | 0,_,_,_,_,_,_=>none
  | k+1,x0,x1,x5,x8,x9,x10=>if x10<x9 then (if 0≤x10 then (if x10<(x8.length:Int) then (if x10<(x0.length:Int) then (if x5≤1 then (kX.l0 k (x0.set (x10:Int).toNat (fK (rd x0 x10) (rd x8 x10) x5)) x1 (iD (rd x0 x10) (rd x8 x10) x5) x8 x9 (wrap64 (x10+1))) else (none)) else (none)) else (none)) else (none)) else (if 0≤(x1.length:Int) then (if (x1.length:Int)<(x0.length:Int) then (if x5≤1 then (some (decide ((iD (rd x0 (x1.length:Int)) 0 x5) > 0),(x0.set ((x1.length:Int):Int).toNat (fK (rd x0 (x1.length:Int)) 0 x5)))) else (none)) else (none)) else (none))
def kX.f (k:Nat)(l0:List Int)(l1:List Int):Option (Bool × List Int):=kX.l0 k l0 l1 0 l1 (l1.length:Int) 0
theorem kX.calls (k:Nat)(P0_:Nat→Prop)(lw:Value)(l0:List Int)(pre post:List Int)(A1:Option Addr)(c1:Nat)(l1:List Int)(r1:Bool)(r2:List Int)(w0 w:World)(hB:Below w0.heap.size w0 w)(ho0:Wd pre post 25 w w0.heap.size P0_ lw l0)(hr1:∀ W_,Kept w W_ (fun k_=>P0_ k_)→Kd.C (Kd.int .u64) W_ A1 l1.length l1)(hc1:l1.length≤c1)(h:kX.f k l0 l1=some (r1,r2)) :
    Calls Tryz.prog 194 #[lw,.slice A1 l1.length c1] w fun e w'=>e=.returned (.bool r1)∧Wd pre post 25 w' w0.heap.size (fun k_=>(P0_ k_∨w.heap.size≤k_)) lw r2∧Below w0.heap.size w0 w'∧Kept w w' (fun k_=>P0_ k_):=by
 have HO0:=am (show Wd pre post 25 w w0.heap.size (fun k_=>(P0_ k_∨w.heap.size≤k_)) lw l0 from TM ho0 (fun k_ hk=>(.inl hk)));have HR1:=am hr1;have HC1:=am hc1;clear hr1 hc1;have HK:=am (Kept.refl w (fun k_=>P0_ k_));have HW0:=am hB.size;have HB:=am hB;clear hB;have H:=am h;unfold kX.f at H;clear h
 go_enter Tryz.func194,Tryz.ntmps194
 go_wp2
 go_loopg [5,10] k (fun kq v5 v10 w' => ∃ (mD:List Int) (ig:Int) (kw:Int),v5=.int .u64 ig∧v10=.int .i64 kw∧ae (kX.l0 kq mD l1 ig l1 (l1.length:Int) kw=some (r1,r2))∧ae (kq≤k)∧ae (Wd pre post 25 w' w0.heap.size (fun k_=>(P0_ k_∨w.heap.size≤k_)) lw mD)∧ae (Kept w w' (fun k_=>P0_ k_))∧ae (Below w0.heap.size w0 w'))
 case atStart=>exact⟨(l0),(0),(0),z1,z1,H,zL,⟨by (with_reducible repeat (first|apply uN|apply uI|apply xU));exact HO0.out⟩,⟨by repeat (first|(with_reducible first|exact HK.out|apply Kept.alloc|apply Kept.drewN|apply Kept.drew)|exact HK.out)⟩,⟨zB HB⟩⟩
 clear H;obtain⟨mD,ig,kw,rfl,rfl,H,HK1,kL,HK,HB⟩:=hrel;obtain _|k1:=gk
 ·exact zz H rfl
 simp only[kX.l0]at H;replace H:=zsd H;rcases H with⟨pI,H⟩|⟨pI,H⟩;replace H:=zid H;obtain⟨jP,H⟩:=H;replace H:=zid H;obtain⟨qg,H⟩:=H;replace H:=zid H;obtain⟨qm,H⟩:=H;replace H:=zit H;obtain⟨wz,Bi,H⟩:=H;generalize aiM:(mD.set (kw:Int).toNat (fK (rd mD kw) (rd l1 kw) ig):List Int)=avT at H;have apu:=zY aiM;clear aiM;obtain⟨aIl,aIm,aAM,rfl,apv⟩:=zA (Kd.dQ (Kd.FX HR1.out HK.out) kw);obtain⟨Ao9,co9,eo9⟩:=yK kL.out;subst eo9;obtain⟨aIn,aIo,aAN,rfl,adx⟩:=zA (Kd.dQ (yJ kL.out).2.2 kw);have p8:0≤(kw:Int):=zD;have q8:(kw:Int)<((mD.length:Int):Int):=zD;obtain⟨go8,co8,eo8,gb8,gl8,cl8,HG8⟩:=GV kL.out (by omega)
 (first|cases eo8|(injection eo8 with ea_ en_ ec_;(first|subst ea_|(injection ea_ with ea_;subst ea_));subst ec_;clear en_))
 have GB8:=am gb8;have GG8:=am HG8;clear gb8 gl8 HG8;have aAO:=am (show (P0_ go8∨w.heap.size≤go8) from (JP kL.out))
 (first|simp only[add_plain]at adx|skip)
 obtain⟨aAP,aAQ⟩:=yE kL.out (kw:Int) p8 q8;replace p8:=eq_true p8;replace q8:=eq_true q8;have apw:=Gx kL.out (kw:Int) (by have h1_:=of_eq_true p8;have h2_:=of_eq_true q8;omega) (fK (rd mD kw) (rd l1 kw) ig);rotate_left;replace H:=zi H;obtain⟨c12,H⟩:=H;have qO:decide (0≤(l1.length:Int))=true:=decide_eq_true c12;have xY:decide (0≤l1.length)=true:=decide_eq_true (by omega);clear c12;replace H:=zi H;obtain⟨c13,H⟩:=H;have qo:decide ((l1.length:Int)<(mD.length:Int))=true:=decide_eq_true c13;have Ib:decide (l1.length<mD.length)=true:=decide_eq_true (Int.ofNat_lt.mp c13);clear c13;replace H:=zit H;obtain⟨ww,LM,H⟩:=H;generalize aiN:(mD.set ((l1.length:Int):Int).toNat (fK (rd mD (l1.length:Int)) 0 ig):List Int)=aAR at H;have apx:=zY aiN;clear aiN;obtain⟨rfl,rfl⟩:=zJ2 H;obtain⟨IP,BX,UF⟩:=yK kL.out;subst UF;have apy:0≤((l1.length:Int):Int):=zD;have apz:(l1.length:Int)<(mD.length:Int):=zD;obtain⟨aAS,aAT,U7⟩:=Kd.dQ (yJ kL.out).2.2 (l1.length:Int) apy apz
 cases aAT
 (try simp only[Go.IntWalk.toNatUp]at U7)
 replace apy:=eq_true apy;replace apz:=eq_true apz;have p15:0≤((l1.length:Int):Int):=zD;have q15:((l1.length:Int):Int)<((mD.length:Int):Int):=zD;obtain⟨aiO,aiP,alG,avU,aAU,aIp,avV⟩:=GV kL.out (by omega)
 (first|cases alG|(injection alG with ea_ en_ ec_;(first|subst ea_|(injection ea_ with ea_;subst ea_));subst ec_;clear en_))
 have aAV:=am avU;have aIq:=am avV;clear avU aAU avV;have avW:=am (show (P0_ aiO∨w.heap.size≤aiO) from (JP kL.out))
 (first|simp only[add_plain]at U7|skip)
 obtain⟨aiQ,aiR⟩:=yE kL.out ((l1.length:Int):Int) p15 q15
 (try simp only[Go.IntWalk.toNatUp]at aiQ aiR)
 replace p15:=eq_true p15;replace q15:=eq_true q15;have apA:=Gx kL.out ((l1.length:Int):Int) (by have h1_:=of_eq_true p15;have h2_:=of_eq_true q15;omega) (fK (rd mD (l1.length:Int)) 0 ig);rotate_left
 all_goals (go_wp2_with (first|((with_reducible refine af (f:=191) rfl ?_);refine Be (some 24) rfl rfl #[.int .u64 (rd mD kw),.int .u64 (rd l1 kw),.int .u64 ig] _ rfl (by (try simp only[List.map_toArray,List.map_cons,List.map_nil]);rfl) (fun w_=>dG (rd mD kw) (rd l1 kw) ig (by first|decide|(with_reducible assumption)|exact zD) w_) ?_)|((with_reducible refine fV (t:=25) (p:=27) rfl ?_);refine ed (t:=25) (p:=27) (v:=?avX) (w1:=(wr.setCell ⟨go8,pre.length+(kw:Int).toNat,none⟩ (.int .u64 (fK (rd mD kw) (rd l1 kw) ig)))) ?hg ?ho ?hn ?hr ?_;(case ho=>rfl);(case hg=>rfl);(case hn=>rfl);(case hr=>first|(go_simp;done)|(go_simp;rfl));intro w11 hw;have hg:wr.grownBy w11 (some go8):=(by rw[hw];exact apw.2);have hp_:Wd pre post 25 w11 w0.heap.size (fun k_=>(P0_ k_∨w.heap.size≤k_)) (.slice (some ⟨go8,pre.length,none⟩) mD.length co9) avT:=(by rw[hw,apu.out];exact apw.1);clear apw;replace HB:=am ((by rw[hw];exact bQ (HB.out) GB8.out:Below w0.heap.size w0 w11));replace HK:=am (Kept.y8 (S:=(fun k_=>P0_ k_)) hg (by repeat (first|(with_reducible first|exact HK.out|apply Kept.alloc|apply Kept.drewN|apply Kept.drew)|exact HK.out)) (fun k_ e_=>(by injection e_ with e_;rw[← e_];exact JP kL.out)));replace kL:=am (hp_);clear hg hw hp_)|((with_reducible refine af (f:=191) rfl ?_);refine Be (some 39) rfl rfl #[.int .u64 (rd mD (l1.length:Int)),.int .u64 0,.int .u64 ig] _ rfl (by (try simp only[List.map_toArray,List.map_cons,List.map_nil]);rfl) (fun w_=>dG (rd mD (l1.length:Int)) 0 ig (by first|decide|(with_reducible assumption)|exact zD) w_) ?_)|((with_reducible refine fV (t:=25) (p:=42) rfl ?_);refine ed (t:=25) (p:=42) (v:=?avY) (w1:=(wr.setCell ⟨aiO,pre.length+((l1.length:Int):Int).toNat,none⟩ (.int .u64 (fK (rd mD (l1.length:Int)) 0 ig)))) ?hg ?ho ?hn ?hr ?_;(case ho=>rfl);(case hg=>rfl);(case hn=>rfl);(case hr=>first|(go_simp;done)|(go_simp;rfl));intro w18 hw;have hg:wr.grownBy w18 (some aiO):=(by rw[hw];exact apA.2);have hp_:Wd pre post 25 w18 w0.heap.size (fun k_=>(P0_ k_∨w.heap.size≤k_)) (.slice (some ⟨aiO,pre.length,none⟩) mD.length BX) aAR:=(by rw[hw,apx.out];exact apA.1);clear apA;replace HB:=am ((by rw[hw];exact bQ (HB.out) aAV.out:Below w0.heap.size w0 w18));replace HK:=am (Kept.y8 (S:=(fun k_=>P0_ k_)) hg (by repeat (first|(with_reducible first|exact HK.out|apply Kept.alloc|apply Kept.drewN|apply Kept.drew)|exact HK.out)) (fun k_ e_=>(by injection e_ with e_;rw[← e_];exact JP kL.out)));replace kL:=am (hp_);clear hg hw hp_)))
 ·go_roundg k1
  case measure=>have:=HK1.out;omega
  case rel=>exact⟨(avT),(iD (rd mD kw) (rd l1 kw) ig),(wrap64 (kw+1)),z1,z1,H,(zH HK1),⟨by (with_reducible repeat (first|apply uN|apply uI|apply xU));exact kL.out⟩,⟨by repeat (first|(with_reducible first|exact HK.out|apply Kept.alloc|apply Kept.drewN|apply Kept.drew)|exact HK.out)⟩,⟨zB HB⟩⟩
 go_ret
 exact⟨z2,by (with_reducible repeat (first|apply uN|apply uI|apply xU));exact kL.out,zB HB,by repeat (first|(with_reducible first|exact HK.out|apply Kept.alloc|apply Kept.drewN|apply Kept.drew)|exact HK.out)⟩
end Go.Proofs.Yy.PTx
end
section
namespace Go.Proofs.Yy.PTx
open Go.RowKit Go.Proofs.Yw.PrintWords Go.Proofs.Yw.PrintLast Go.Proofs.Yw.PrintMore Go.Proofs.Yy.M
theorem Jr (X:List Int){lo hi:Int}(h0:0≤lo)(h1:lo<hi)(h2:hi≤(X.length:Int)):X.take lo.toNat++(X.take hi.toNat).drop lo.toNat++X.drop hi.toNat=X:=by
 have e:(X.take hi.toNat).take lo.toNat=X.take lo.toNat:=by rw[List.take_take,Nat.min_eq_left (by omega)]
 rw[← e,List.take_append_drop,List.take_append_drop]
theorem PK (X:List Int){lo hi:Int}(h0:0≤lo)(h1:lo<hi)(h2:hi≤(X.length:Int)):((X.take hi.toNat).drop lo.toNat).length=hi.toNat-lo.toNat:=by
 rw[List.length_drop,List.length_take];omega
def qH.f (k:Nat)(l0:List Int)(a1 a2:Int)(l3:List Int)(a4:Int):Option (Bool × List Int) :=
 if 0≤a1∧a1<a2∧a2≤(l0.length:Int) then (kY.f k ((l0.take a2.toNat).drop a1.toNat) l3 a4).bind fun b=>some (b.1,l0.take a1.toNat++b.2++l0.drop a2.toNat) else none
def rO.f (k:Nat)(l0:List Int)(a1 a2:Int)(l3:List Int):Option (Bool × List Int) :=
 if 0≤a1∧a1<a2∧a2≤(l0.length:Int) then (kX.f k ((l0.take a2.toNat).drop a1.toNat) l3).bind fun b=>some (b.1,l0.take a1.toNat++b.2++l0.drop a2.toNat) else none
theorem IY {w:World}{base:Nat}{ok:Nat→Prop}{u:Value}{X:List Int}{lo hi:Int}(h0:0≤lo)(h1:lo<hi)(h2:hi≤(X.length:Int))(h:Kd.R (Kd.int .u64) 25 w base ok u X) :
  ∃ c,agx u lo hi=.slice (some ⟨(match u with | .slice (some ⟨g,_,_⟩) _ _=>g|_=>0),lo.toNat,none⟩) (hi.toNat-lo.toNat) c∧Wd (X.take lo.toNat) (X.drop hi.toNat) 25 w base ok (agx u lo hi) ((X.take hi.toNat).drop lo.toNat) ∧
   ∀ (w':World) (ok':Nat→Prop) (r:List Int),Wd (X.take lo.toNat) (X.drop hi.toNat) 25 w' base ok' (agx u lo hi) r→Kd.R (Kd.int .u64) 25 w' base ok' u (X.take lo.toNat++r++X.drop hi.toNat):=by
 obtain⟨g,cap,rfl,hb,hl,hcells⟩:=Kd.oH h (by omega);obtain⟨_,hle,_⟩:=Kd.aA h;have hs:=Jr X h0 h1 h2;have hn:=PK X h0 h1 h2
 have hp:(X.take lo.toNat).length=lo.toNat:=by rw[List.length_take];omega
 have hcap:lo.toNat+(cap-lo.toNat)=cap:=by omega
 refine⟨cap-lo.toNat,rfl,?_,fun w' ok' r hr=>?_⟩
 ·have h':Kd.R (Kd.int .u64) 25 w base ok (.slice (some ⟨g,0,none⟩) (X.take lo.toNat++(X.take hi.toNat).drop lo.toNat++X.drop hi.toNat).length ((X.take lo.toNat).length+(cap-lo.toNat))) (X.take lo.toNat++(X.take hi.toNat).drop lo.toNat++X.drop hi.toNat):=by
   rw[hs,hp,hcap];exact h
  have:=amq h' (by omega);rw[hp,hn]at this;exact this
 ·obtain⟨A,c2,e2⟩:=yK hr
  have hlen:r.length=hi.toNat-lo.toNat:=by
   have e3:Value.slice (some ⟨g,lo.toNat,none⟩) (hi.toNat-lo.toNat) (cap-lo.toNat)=.slice A r.length c2:=e2
   injection e3 with _ e4 _
   exact e4.symm
  have hb2:=acF (show Wd (X.take lo.toNat) (X.drop hi.toNat) 25 w' base ok' (.slice (some ⟨g,lo.toNat,none⟩) (hi.toNat-lo.toNat) (cap-lo.toNat)) r from hr)
  have hX:(X.take lo.toNat++r++X.drop hi.toNat).length=X.length:=by
   rw[List.length_append,List.length_append,List.length_take,List.length_drop,hlen];omega
  rw[hX,hp,hcap]at hb2;exact hb2
theorem qH.calls (k:Nat)(P0_:Nat→Prop)(lw:Value)(l0:List Int)(a1 a2:Int)(A3:Option Addr)(c3:Nat)(l3:List Int)(a4:Int)(r1:Bool)(r2:List Int)(w0 w:World)(hB:Below w0.heap.size w0 w)(ho0:Kd.R (Kd.int .u64) 25 w w0.heap.size P0_ lw l0)(hr3:∀ W_,Kept w W_ (fun k_=>P0_ k_)→Kd.C (Kd.int .u64) W_ A3 l3.length l3)(hc3:l3.length≤c3)(h:qH.f k l0 a1 a2 l3 a4=some (r1,r2)){uw:Value}(hw:uw=agx lw a1 a2:=by with_unfolding_all rfl) :
  Calls Tryz.prog 193 #[uw,.slice A3 l3.length c3,.int .u64 a4] w fun e w'=>e=.returned (.bool r1)∧Kd.R (Kd.int .u64) 25 w' w0.heap.size (fun k_=>(P0_ k_∨w.heap.size≤k_)) lw r2∧Below w0.heap.size w0 w'∧Kept w w' (fun k_=>P0_ k_):=by
 subst hw;unfold qH.f at h
 by_cases hg:0≤a1∧a1<a2∧a2≤(l0.length:Int)
 case neg=>rw[if_neg hg]at h;exact absurd h (by simp)
 rw[if_pos hg]at h;obtain⟨⟨b1,b2⟩,hb,h⟩:=Option.bind_eq_some_iff.mp h;simp only[Option.some.injEq,Prod.mk.injEq]at h;obtain⟨rfl,rfl⟩:=h;obtain⟨c,_,hW,hback⟩:=IY hg.1 hg.2.1 hg.2.2 ho0;refine (kY.calls k P0_ _ _ _ _ A3 c3 l3 a4 b1 b2 w0 w hB hW hr3 hc3 hb).mono ?_;rintro e w' ⟨he,h1,h2,h3⟩;exact⟨he,hback w' _ b2 h1,h2,h3⟩
theorem rO.calls (k:Nat)(P0_:Nat→Prop)(lw:Value)(l0:List Int)(a1 a2:Int)(A3:Option Addr)(c3:Nat)(l3:List Int)(r1:Bool)(r2:List Int)(w0 w:World)(hB:Below w0.heap.size w0 w)(ho0:Kd.R (Kd.int .u64) 25 w w0.heap.size P0_ lw l0)(hr3:∀ W_,Kept w W_ (fun k_=>P0_ k_)→Kd.C (Kd.int .u64) W_ A3 l3.length l3)(hc3:l3.length≤c3)(h:rO.f k l0 a1 a2 l3=some (r1,r2)){uw:Value}(hw:uw=agx lw a1 a2:=by with_unfolding_all rfl) :
  Calls Tryz.prog 194 #[uw,.slice A3 l3.length c3] w fun e w'=>e=.returned (.bool r1)∧Kd.R (Kd.int .u64) 25 w' w0.heap.size (fun k_=>(P0_ k_∨w.heap.size≤k_)) lw r2∧Below w0.heap.size w0 w'∧Kept w w' (fun k_=>P0_ k_):=by
 subst hw;unfold rO.f at h
 by_cases hg:0≤a1∧a1<a2∧a2≤(l0.length:Int)
 case neg=>rw[if_neg hg]at h;exact absurd h (by simp)
 rw[if_pos hg]at h;obtain⟨⟨b1,b2⟩,hb,h⟩:=Option.bind_eq_some_iff.mp h;simp only[Option.some.injEq,Prod.mk.injEq]at h;obtain⟨rfl,rfl⟩:=h;obtain⟨c,_,hW,hback⟩:=IY hg.1 hg.2.1 hg.2.2 ho0;refine (kX.calls k P0_ _ _ _ _ A3 c3 l3 b1 b2 w0 w hB hW hr3 hc3 hb).mono ?_;rintro e w' ⟨he,h1,h2,h3⟩;exact⟨he,hback w' _ b2 h1,h2,h3⟩
end Go.Proofs.Yy.PTx
end
section
namespace Go.Proofs.Yy.PTx
open Go.RowKit Go.Proofs.Yw.PrintWords Go.Proofs.Yw.PrintLast Go.Proofs.Yw.PrintMore Go.Proofs.Yy.M Go.Proofs.Yy.NM
attribute [local irreducible] fK iD iV jY val
theorem w64 {x:Int}(h0 : -9223372036854775808≤x)(h1:x≤9223372036854775807):wrap64 x=x:=by unfold wrap64;omega
theorem tV {x:Int}(h0:0≤x)(h1:x≤18446744073709551615):IntKind.u64.wrap x=x:=IntWalk.u64_in x ⟨h0,h1⟩
theorem eP (l:List Int)(n:Nat):rd l (n:Int)=l.getD n 0:=by simp[rd]
theorem jm:0<B:=by have:=B1;omega
theorem aaL {l:List Int}(h:Dig B l)(hL:l.length≤1099511627776):∀ n:Nat,n≤l.length→Ev (fun k=>bG.l0 k l (n:Int)) (enc B (val B (l.take n))):=by
 intro n
 induction n with
 | zero =>
  intro _;refine Ev.step (f:=fun _=>some []) (fun k=>?_) (by rw[List.take_zero,mX,eQ];exact Ev.now _);simp only[bG.l0];rw[if_neg (by omega),if_pos (by omega),if_pos (by omega)];simp
 | succ n ih =>
  intro hn
  have hw:ae (wrap64 (((n+1:Nat):Int)-1)=(n:Int)):=⟨by rw[w64 (by omega) (by omega)];omega⟩
  have hd:=h.take (n+1)
  have ht:l.take (n+1)=l.take n ++ [l.getD n 0]:=by
   rw[List.take_succ_eq_append_getElem (by omega),List.getD_eq_getElem?_getD,List.getElem?_eq_getElem (by omega)];rfl
  rw[ht]at hd;have he:=Hg B1 hd;rw[← ht]at he
  by_cases h0:l.getD n 0=0
  ·rw[if_pos h0]at he
   rw[he];refine Ev.step (f:=fun k=>bG.l0 k l (n:Int)) (fun k=>?_) (ih (by omega));simp only[bG.l0];rw[hw.out,if_pos (by omega),if_pos (by omega),if_pos (by omega),eP,if_pos h0]
  ·rw[if_neg h0]at he
   rw[he];refine Ev.step (f:=fun _=>some (l.take (n+1))) (fun k=>?_) (Ev.now _);simp only[bG.l0];rw[hw.out,if_pos (by omega),if_pos (by omega),if_pos (by omega),eP,if_neg h0,if_pos (by omega),if_pos (by omega)]
   rfl
theorem nV {l:List Int}(h:Dig B l)(hL:l.length≤1099511627776):Ev (fun k=>bG.f k l) (enc B (val B l)):=by
 have:=aaL h hL l.length (Nat.le_refl _);rw[List.take_length]at this;exact this
theorem um {x y c:Int}(hx:0≤x∧x<B)(hy:0≤y∧y<B)(hc:0≤c)(hc1:c≤1):fK x y c+B*iD x y c=x+y+c∧(0≤fK x y c∧fK x y c<B)∧0≤iD x y c∧iD x y c≤1:=by
 unfold fK iD;rw[ug]at *
 omega
theorem aaQ {a b:List Int}(ha:Dig B a)(hb:Dig B b)(hab:b.length≤a.length)(hL:a.length≤1099511627775):∀ (d i:Nat) (x:List Int) (c:Int),i+d=a.length→x.length=a.length+1→0≤c→c≤1→Dig B x →
  val B (x.take i)+pw B i*c=val B (a.take i)+val B (b.take i)→Ev (fun k=>gz.l0 k a b x c a (a.length:Int) (i:Int)) (enc B (val B a+val B b)):=by
 intro d
 induction d with
 | zero =>
  intro i x c hi hx h0 h1 hd hv;have hs:=X9 x a.length c hx;have hds:Dig B (x.set a.length c):=hd.set h0 (by rw[ug];omega)
  have hval:val B (x.set a.length c)=val B a+val B b:=by
   rw[hs,mO,List.length_take,Nat.min_eq_left (by omega)]
   have:i=a.length:=by omega
   subst this;rw[List.take_length,List.take_of_length_le hab]at hv;simp only[val,Int.mul_zero,Int.add_zero];exact hv
  refine Ev.step (f:=fun k=>(bG.f k (x.set a.length c)).bind fun t=>some t) (fun k=>?_) (Ev.bind (by rw[← hval];exact nV hds (by simp;omega)) (Ev.now _));simp only[gz.l0];rw[if_neg (by omega),if_pos (by omega),if_pos (by omega)]
  rfl
 | succ d ih =>
  intro i x c hi hx h0 h1 hd hv
  have hw:ae (wrap64 ((i:Int)+1)=((i+1:Nat):Int)):=⟨by rw[w64 (by omega) (by omega)];omega⟩
  have hq:i<x.length:=by omega
  have hq2:i+1+d=a.length:=by omega
  obtain⟨hs,hlo,hh0,hh1⟩:=um (ha.get jm i) (hb.get jm i) h0 h1
  have key:Ev (fun k=>gz.l0 k a b (x.set i (fK (a.getD i 0) (b.getD i 0) c)) (iD (a.getD i 0) (b.getD i 0) c) a (a.length:Int) ((i+1:Nat):Int)) (enc B (val B a+val B b)):=by
   refine ih (i+1) _ _ hq2 (by simpa using hx) hh0 hh1 (hd.set hlo.1 hlo.2) ?_;rw[qZ B x i _ hq,eF B a,eF B b,eU];exact Xb hs hv
  by_cases hlt:i<b.length
  ·refine Ev.step (f:=fun k=>gz.l0 k a b (x.set i (fK (a.getD i 0) (b.getD i 0) c)) (iD (a.getD i 0) (b.getD i 0) c) a (a.length:Int) ((i+1:Nat):Int)) (fun k=>?_) key
   simp only[gz.l0];rw[hw.out,if_pos (by omega),if_pos (by omega),if_pos (by omega),if_pos (by omega),if_pos h1,if_pos (by omega),eP,eP]
   rfl
  ·have hb0:b.getD i 0=0:=by rw[List.getD_eq_getElem?_getD,List.getElem?_eq_none (by omega)];rfl
   rw[hb0]at key;refine Ev.step (f:=fun k=>gz.l0 k a b (x.set i (fK (a.getD i 0) 0 c)) (iD (a.getD i 0) 0 c) a (a.length:Int) ((i+1:Nat):Int)) (fun k=>?_) key;simp only[gz.l0];rw[hw.out,if_pos (by omega),if_pos (by omega),if_pos (by omega),if_neg (by omega),if_pos h1,if_pos (by omega),eP]
   rfl
theorem Q7 {a b:List Int}(ha:Dig B a)(hb:Dig B b)(hab:b.length≤a.length)(hL:a.length≤1099511627775):Ev (fun k=>gz.j0 k a b) (enc B (val B a+val B b)):=by
 have hw:ae (wrap64 ((a.length:Int)+1)=((a.length+1:Nat):Int)):=⟨by rw[w64 (by omega) (by omega)];omega⟩
 refine Ev.step (f:=fun k=>gz.l0 k a b (List.replicate (a.length+1) 0) 0 a (a.length:Int) ((0:Nat):Int)) (fun k=>?_)
  (aaQ ha hb hab hL a.length 0 _ 0 (by omega) (by simp) (by omega) (by omega) (Dig.zeros jm _) (by simp[val,iU]))
 simp only[gz.j0];rw[hw.out,if_pos (by omega),Int.toNat_natCast,if_pos (by omega)]
 rfl
theorem abx {a b:List Int}(ha:Dig B a)(hb:Dig B b)(hL:a.length≤1099511627775)(hM:b.length≤1099511627775):Ev (fun k=>gz.f k a b) (enc B (val B a+val B b)):=by
 by_cases h:a.length<b.length
 ·refine Ev.congr (f:=fun k=>gz.j0 k b a) (fun k=>?_) (by rw[Int.add_comm];exact Q7 hb ha (by omega) hM)
  unfold gz.f;rw[if_pos (by omega)]
 ·refine Ev.congr (f:=fun k=>gz.j0 k a b) (fun k=>?_) (Q7 ha hb (by omega) hL)
  unfold gz.f;rw[if_neg (by omega)]
end Go.Proofs.Yy.PTx
end
