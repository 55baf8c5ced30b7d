/- Part 19. -/
import Derived.Test.YtpfnkbnepcchgaaGreatDoorKTPM
import Derived.Test.YtpfnkbnepcchgaaGreatDoorKTPR
set_option linter.unusedSimpArgs false
set_option linter.unusedVariables false
section
set_option maxHeartbeats 8000000
set_option maxRecDepth 100000
namespace Go.Proofs.Yy.PTx
open Go.RowKit Go.Proofs.Yy.Z Go.Proofs.Yw.PrintWords Go.Proofs.Yw.PrintLast Go.Proofs.Yw.PrintMore
open Go.Proofs.Yy.M
attribute [local go_sem] dG dP kR kT kW kS
attribute [local go_sem] gI gG iP iR fF fG gW gV
mutual
def az.j0:Nat→List Int→Bool→Int→Int→Bool→Int→Int→Int→Bool→Option (Int × Bool × Int × Int × Int × Bool)
  | 0,_,_,_,_,_,_,_,_,_=>none
  | k+1,x1,x3,x9,Eo,Ep,Es,MX,MZ,Na=>if x9 > 128 then ((aU.f k x1 (wrap64 (x9-128))).bind fun aeA=>(if x3=true then (az.j1 k x1 x9 Eo Ep Es MX MZ true) else (az.j1 k x1 x9 Eo Ep Es MX MZ aeA))) else ((bC.f k x1).bind fun Y9=>((aQ.f k x1 64).bind fun afv=>((bC.f k afv).bind fun asU=>(some (Eo,Ep,Es,asU,Y9,Na)))))
def az.j1:Nat→List Int→Int→Int→Bool→Int→Int→Int→Bool→Option (Int × Bool × Int × Int × Int × Bool)
  | 0,_,_,_,_,_,_,_,_=>none
  | k+1,x1,x9,Eo,Ep,Es,MX,MZ,Na=>(aQ.f k x1 (wrap64 (x9-128))).bind fun Qp=>((bC.f k Qp).bind fun V7=>((aQ.f k Qp 64).bind fun aeB=>((bC.f k aeB).bind fun akm=>(some (Eo,Ep,Es,akm,V7,Na)))))
end
def az.f (k:Nat)(a0:Bool)(l1:List Int)(a2:Int)(a3:Bool):Option (Int × Bool × Int × Int × Int × Bool):=(bn.f k l1).bind fun Nb=>(if Nb=0 then (some (0,false,0,0,0,false)) else ((jk.f (wrap64 ((wrap64 (a2+Nb))-1))).bind fun IV=>(if Nb<128 then ((gQ.f k l1 (wrap64 (128-Nb))).bind fun asV=>(az.j0 k asV a3 Nb 1 a0 IV 0 0 a3)) else (az.j0 k l1 a3 Nb 1 a0 IV 0 0 a3))))
theorem az.calls (k:Nat)(a0:Bool)(P1_:Nat→Prop)(lw:Value)(l1:List Int)(a2:Int)(a3:Bool)(r1:Int)(r2:Bool)(r3:Int)(r4:Int)(r5:Int)(r6:Bool)(w0 w:World)(hB:Below w0.heap.size w0 w)(ho1:Kd.R (Kd.int .i64) 3 w w0.heap.size P1_ lw l1)(h:az.f k a0 l1 a2 a3=some (r1,r2,r3,r4,r5,r6)) :
    Calls Tryz.prog 100 #[.bool a0,lw,.int .i64 a2,.bool a3] w fun e w'=>e=.returned (.agg #[.int .i64 r1,.bool r2,.int .i64 r3,.int .u64 r4,.int .u64 r5,.bool r6])∧Below w0.heap.size w0 w'∧Kept w w' (fun k_=>P1_ k_):=by
 have Vb:=Tryz.underlying81;have HO1:=am (show Kd.R (Kd.int .i64) 3 w w0.heap.size (fun k_=>(P1_ k_∨w.heap.size≤k_)) lw l1 from Kd.dw ho1 (fun k_ hk=>(.inl hk)));have HK:=am (Kept.refl w (fun k_=>P1_ k_));have HW0:=am hB.size;have HB:=am hB;clear hB;have H:=am h;unfold az.f at H;clear h;replace H:=zo H;obtain⟨Nb,A5,H⟩:=H;replace H:=zsk H;rcases H with⟨qm,zg,H⟩|⟨qm,zg,c6,H⟩
 ·obtain⟨rfl,rfl,rfl,rfl,rfl,rfl⟩:=zJ6 H
  go_enter Tryz.func100,Tryz.ntmps100
  go_wp2_with (first|((with_reducible refine aI (N:=8) rfl ?_);refine zx 8 81 #[.int .i64 0,.bool false,.int .i64 0,.int .u64 0,.int .u64 0,.bool false] ?_;intro wM hg w7 hbox hb;replace HO1:=zRb HO1 hb;have kJ:=am (hbox);have qQ:=am ((by rw[hg];exact (by first|exact HK.out.1|exact (show Kept w _ (fun k_=>P1_ k_) from by repeat (first|(with_reducible first|exact HK.out|apply Kept.alloc|apply Kept.drewN|apply Kept.drew)|exact HK.out)).1):w.heap.size≤wM));replace HK:=am (Kept.below (S:=(fun k_=>P1_ k_)) (by repeat (first|(with_reducible first|exact HK.out|apply Kept.alloc|apply Kept.drewN|apply Kept.drew)|exact HK.out)) hb);have asW:=am ((by rw[hg];exact (zS HB):w0.heap.size≤wM));replace HB:=zBs HB hb;clear hb hbox hg;obtain⟨Ao8,co8,eo8⟩:=Kd.dZ HO1.out;subst eo8)|((with_reducible refine af (f:=101) rfl ?_);refine zc (some 13) Tryz.func101 #[.slice Ao8 l1.length co8] (bn.calls _ _ _ _ _ _ (zC ((Kd.aA HO1.out).2.2)) ((Kd.aA HO1.out).2.1) A5.out) ?_;rintro e w' ⟨rfl,⟨nd,rfl⟩⟩;refine⟨_,rfl,?_⟩;(try (rw[fZ w7];generalize hq_:World.drewN w7 _=w7;have n0_:ae (Kd.R (Kd.int .i64) 3 w7 w0.heap.size (fun k_=>(P1_ k_∨w.heap.size≤k_)) (.slice Ao8 l1.length co8) l1):=⟨by rw[← hq_];exact (zR HO1)⟩;have n1_:ae (w7.heap[wM]? = some (.cells #[.int .i64 0,.bool false,.int .i64 0,.int .u64 0,.int .u64 0,.bool false] 81 (0,0))):=⟨by rw[← hq_];exact (zK kJ)⟩;have n2_:ae (Kept w w7 (fun k_=>P1_ k_)):=⟨by rw[← hq_];exact (by repeat (first|(with_reducible first|exact HK.out|apply Kept.alloc|apply Kept.drewN|apply Kept.drew|refine Kept.setCell ?_ (.inr qQ.out) _)|exact HK.out))⟩;have n3_:ae (Below w0.heap.size w0 w7):=⟨by rw[← hq_];exact (zB HB)⟩;clear HO1 kJ HK HB hq_;have HO1:=n0_;have kJ:=n1_;have HK:=n2_;have HB:=n3_;clear n0_ n1_ n2_ n3_));obtain⟨_,_,_,_,_,_,_,_,_,_,_,_⟩:=zf6 kJ))
  refine bodyPost_ret (results_cell_row rfl _ _ wM 81 #[.int .i64 0,.bool false,.int .i64 0,.int .u64 0,.int .u64 0,.bool false] (0,0) _ rfl (zKp kJ) Tryz.underlying81 rfl (by kernel_rfl)) rfl ?_;exact⟨z2,zB HB,by repeat (first|(with_reducible first|exact HK.out|apply Kept.alloc|apply Kept.drewN|apply Kept.drew|refine Kept.setCell ?_ (.inr qQ.out) _)|exact HK.out)⟩
 replace H:=zo H;obtain⟨IV,A10,H⟩:=H
 go_enter Tryz.func100,Tryz.ntmps100
 go_upto_if 26 with (first|((with_reducible refine aI (N:=8) rfl ?_);refine zx 8 81 #[.int .i64 0,.bool false,.int .i64 0,.int .u64 0,.int .u64 0,.bool false] ?_;intro wM hg w12 hbox hb;have n0_:=zRb HO1 hb;have n1_:=am (Kept.below (S:=(fun k_=>P1_ k_)) (by repeat (first|(with_reducible first|exact HK.out|apply Kept.alloc|apply Kept.drewN|apply Kept.drew)|exact HK.out)) hb);have n2_:=zBs HB hb;have n3_:=am (hbox);have n4_:=am ((by rw[hg];exact (by first|exact HK.out.1|exact (show Kept w _ (fun k_=>P1_ k_) from by repeat (first|(with_reducible first|exact HK.out|apply Kept.alloc|apply Kept.drewN|apply Kept.drew)|exact HK.out)).1):w.heap.size≤wM));have n5_:=am ((by rw[hg];exact (zS HB):w0.heap.size≤wM));clear HO1;clear HK;clear HB;have HO1:=n0_;have HK:=n1_;have HB:=n2_;have kJ:=n3_;have qQ:=n4_;have asW:=n5_;clear n0_ n1_ n2_ n3_ n4_ n5_;clear hb hbox hg;obtain⟨afs,ad7,aqR⟩:=Kd.dZ HO1.out;subst aqR)|((with_reducible refine af (f:=101) rfl ?_);refine jS (some 13) rfl rfl Tryz.func101 (by kernel_rfl) rfl #[.slice afs l1.length ad7] rfl (by (try simp only[List.map_toArray,List.map_cons,List.map_nil]);first|done|rfl|(simp only[List.length_drop,List.length_take];rfl)) ?_;(with_reducible refine (bn.calls k _ _ l1 Nb _ ?fE ?kN A5.out).mono ?_);(case fE=>repeat (first|exact (Kd.aA HO1.out).2.2|(with_reducible refine Kd.lm ?_ _)|(with_reducible refine Kd.lg ?_ _)|(with_reducible refine Kd.nZ ?_)));(case kN=>exact (Kd.aA HO1.out).2.1);rintro e w' ⟨rfl,⟨nd,rfl⟩⟩;refine⟨_,rfl,?_⟩;(try (rw[fZ w12];generalize hq_:World.drewN w12 _=w12;have n0_:ae (Kd.R (Kd.int .i64) 3 w12 w0.heap.size (fun k_=>(P1_ k_∨w.heap.size≤k_)) (.slice afs l1.length ad7) l1):=⟨by rw[← hq_];exact (zR HO1)⟩;have n1_:ae (w12.heap[wM]? = some (.cells #[.int .i64 0,.bool false,.int .i64 0,.int .u64 0,.int .u64 0,.bool false] 81 (0,0))):=⟨by rw[← hq_];exact (zK kJ)⟩;have n2_:ae (Kept w w12 (fun k_=>P1_ k_)):=⟨by rw[← hq_];exact (by repeat (first|(with_reducible first|exact HK.out|apply Kept.alloc|apply Kept.drewN|apply Kept.drew|refine Kept.setCell ?_ (.inr qQ.out) _)|exact HK.out))⟩;have n3_:ae (Below w0.heap.size w0 w12):=⟨by rw[← hq_];exact (zB HB)⟩;clear HO1 kJ HK HB hq_;have HO1:=n0_;have kJ:=n1_;have HK:=n2_;have HB:=n3_;clear n0_ n1_ n2_ n3_)))|((with_reducible refine af (f:=161) rfl ?_);refine jS (some 22) rfl rfl Tryz.func161 (by kernel_rfl) rfl #[.int .i64 (wrap64 ((wrap64 (a2+Nb))-1))] rfl (by (try simp only[List.map_toArray,List.map_cons,List.map_nil]);first|done|rfl|(simp only[List.length_drop,List.length_take];rfl)) ?_;(with_reducible refine (jk.calls (wrap64 ((wrap64 (a2+Nb))-1)) IV _ A10.out).mono ?_);rintro e w' ⟨rfl,⟨nd,rfl⟩⟩;refine⟨_,rfl,?_⟩;(try (rw[fZ w12];generalize hq_:World.drewN w12 _=w12;have n0_:ae (Kd.R (Kd.int .i64) 3 w12 w0.heap.size (fun k_=>(P1_ k_∨w.heap.size≤k_)) (.slice afs l1.length ad7) l1):=⟨by rw[← hq_];exact (zR HO1)⟩;have n1_:ae (w12.heap[wM]? = some (.cells #[.int .i64 0,.bool false,.int .i64 0,.int .u64 0,.int .u64 0,.bool false] 81 (0,0))):=⟨by rw[← hq_];exact (zK kJ)⟩;have n2_:ae (Kept w w12 (fun k_=>P1_ k_)):=⟨by rw[← hq_];exact (by repeat (first|(with_reducible first|exact HK.out|apply Kept.alloc|apply Kept.drewN|apply Kept.drew|refine Kept.setCell ?_ (.inr qQ.out) _)|exact HK.out))⟩;have n3_:ae (Below w0.heap.size w0 w12):=⟨by rw[← hq_];exact (zB HB)⟩;clear HO1 kJ HK HB hq_;have HO1:=n0_;have kJ:=n1_;have HK:=n2_;have HB:=n3_;clear n0_ n1_ n2_ n3_)))|((with_reducible refine aI (N:=10) rfl ?_);refine zx 10 81 #[.int .i64 0,.bool false,.int .i64 0,.int .u64 0,.int .u64 0,.bool false] ?_;intro lD hg w14 hbox hb;have n0_:=zRb HO1 hb;have n1_:=zKb kJ hb;have n2_:=am (Kept.below (S:=(fun k_=>P1_ k_)) (by repeat (first|(with_reducible first|exact HK.out|apply Kept.alloc|apply Kept.drewN|apply Kept.drew|refine Kept.setCell ?_ (.inr qQ.out) _)|exact HK.out)) hb);have n3_:=zBs HB hb;have n4_:=am (hbox);have n5_:=am ((by rw[hg];exact (by first|exact HK.out.1|exact (show Kept w _ (fun k_=>P1_ k_) from by repeat (first|(with_reducible first|exact HK.out|apply Kept.alloc|apply Kept.drewN|apply Kept.drew|refine Kept.setCell ?_ (.inr qQ.out) _)|exact HK.out)).1):w.heap.size≤lD));have n6_:=am ((by rw[hg];exact (zS HB):w0.heap.size≤lD));have n7_:=zNl hg kJ;have n8_:=zNg hg kJ;clear HO1;clear kJ;clear HK;clear HB;have HO1:=n0_;have kJ:=n1_;have HK:=n2_;have HB:=n3_;have kK:=n4_;have vG:=n5_;have aE9:=n6_;have wO:=n7_;have wP:=n8_;clear n0_ n1_ n2_ n3_ n4_ n5_ n6_ n7_ n8_;clear hb hbox hg;have aFa:=wP.out;have aFb:=wO.out;obtain⟨_,_,_,_,_,_,_,_,_,_,_,_⟩:=zf6 kK))
 (try simp only[Act.put,List.setIfInBounds_toArray,List.set_cons_zero,List.set_cons_succ])
 go_cut [1] (fun v1 wc => ∃ (kq:Nat) (rC:List Int),ae (az.j0 kq rC a3 Nb 1 a0 IV 0 0 a3=some (r1,r2,r3,r4,r5,r6))∧ae (kq≤k)∧ae (Kd.R (Kd.int .i64) 3 wc w0.heap.size (fun k_=>(P1_ k_∨w.heap.size≤k_)) v1 rC)∧ae (wc.heap[wM]? = some (.cells #[.int .i64 0,.bool false,.int .i64 0,.int .u64 0,.int .u64 0,.bool false] 81 (0,0)))∧ae (wc.heap[lD]? = some (.cells #[.int .i64 1,.bool a0,.int .i64 IV,.int .u64 0,.int .u64 0,.bool a3] 81 (0,0)))∧ae (Kept w wc (fun k_=>P1_ k_))∧ae (Below w0.heap.size w0 wc))
 case first =>
  replace H:=zsd H;rcases H with⟨wE,H⟩|⟨wE,H⟩
  (first|rw[wE]|(simp only[cu,fQ];rw[wE])|rw[LK]|skip)
  replace H:=zo H;obtain⟨asV,A18,H⟩:=H;rotate_left
  (first|rw[wE]|(simp only[cu,fQ];rw[wE])|rw[LK]|skip)
  rotate_left
  all_goals (go_wp2_with (first|((with_reducible refine af (f:=90) rfl ?_);refine zc (some 30) Tryz.func90 #[.slice afs l1.length ad7,.int .i64 (wrap64 (128-Nb))] (gQ.calls _ _ _ _ _ _ _ ?fE ((Kd.aA HO1.out).2.1) A18.out) ?_;(case fE=>refine (Kd.aA (e:=3) (base:=w0.heap.size) (ok:=fun k_=>(P1_ k_∨w.heap.size≤k_)) (n:=l1.length) (c:=ad7) ?_).2.2;exact (by (with_reducible repeat (first|apply Kd.dh|apply Kd.df|apply Kd.dJ));exact (Kd.dw (Kd.mZ (p:=⟨lD,5,none⟩) (Kd.mZ (p:=⟨lD,4,none⟩) (Kd.mZ (p:=⟨lD,3,none⟩) (Kd.mZ (p:=⟨lD,2,none⟩) (Kd.mZ (p:=⟨lD,1,none⟩) (Kd.mZ (p:=⟨lD,0,none⟩) (Kd.pq HO1.out kK.out (by decide)) (fun _ hk=>hk.2) (.int .i64 1)) (fun _ hk=>hk.2) (.bool a0)) (fun _ hk=>hk.2) (.int .i64 IV)) (fun _ hk=>hk.2) (.int .u64 0)) (fun _ hk=>hk.2) (.int .u64 0)) (fun _ hk=>hk.2) (.bool a3)) (fun _ h_=>h_.1))));rintro e w19 ⟨aK1,rfl,ho0,hb⟩;refine⟨_,rfl,?_⟩;have asX:=am (Kd.eu (Kd.jd (Kd.oI (M:=fun k_=>(P1_ k_∨w.heap.size≤k_)) ho0 (show Kept w _ (fun k_=>P1_ k_) from by repeat (first|(with_reducible first|exact HK.out|apply Kept.alloc|apply Kept.drewN|apply Kept.drew|refine Kept.setCell ?_ (.inr qQ.out) _|refine Kept.setCell ?_ (.inr vG.out) _)|exact HK.out)).1 (fun k_ h_ => .inr h_)) (Kd.ql (by (with_reducible repeat (first|apply Kd.dh|apply Kd.df|apply Kd.dJ));exact (Kd.dw (Kd.mZ (p:=⟨lD,5,none⟩) (Kd.mZ (p:=⟨lD,4,none⟩) (Kd.mZ (p:=⟨lD,3,none⟩) (Kd.mZ (p:=⟨lD,2,none⟩) (Kd.mZ (p:=⟨lD,1,none⟩) (Kd.mZ (p:=⟨lD,0,none⟩) (Kd.pq HO1.out kK.out (by decide)) (fun _ hk=>hk.2) (.int .i64 1)) (fun _ hk=>hk.2) (.bool a0)) (fun _ hk=>hk.2) (.int .i64 IV)) (fun _ hk=>hk.2) (.int .u64 0)) (fun _ hk=>hk.2) (.int .u64 0)) (fun _ hk=>hk.2) (.bool a3)) (fun _ h_=>h_.1))))) (zS HB));replace HO1:=am (Kd.gp (by (with_reducible repeat (first|apply Kd.dh|apply Kd.df|apply Kd.dJ));exact (Kd.dw (Kd.mZ (p:=⟨lD,5,none⟩) (Kd.mZ (p:=⟨lD,4,none⟩) (Kd.mZ (p:=⟨lD,3,none⟩) (Kd.mZ (p:=⟨lD,2,none⟩) (Kd.mZ (p:=⟨lD,1,none⟩) (Kd.mZ (p:=⟨lD,0,none⟩) (Kd.pq HO1.out kK.out (by decide)) (fun _ hk=>hk.2) (.int .i64 1)) (fun _ hk=>hk.2) (.bool a0)) (fun _ hk=>hk.2) (.int .i64 IV)) (fun _ hk=>hk.2) (.int .u64 0)) (fun _ hk=>hk.2) (.int .u64 0)) (fun _ hk=>hk.2) (.bool a3)) (fun _ h_=>h_.1))) (Kd.gm ho0) hb);replace kJ:=zKb kJ hb;replace kK:=am (dW (zKp kK) hb);replace HK:=am (Kept.below (S:=(fun k_=>P1_ k_)) (by repeat (first|(with_reducible first|exact HK.out|apply Kept.alloc|apply Kept.drewN|apply Kept.drew|refine Kept.setCell ?_ (.inr qQ.out) _|refine Kept.setCell ?_ (.inr vG.out) _)|exact HK.out)) hb);replace HB:=zBs HB hb;clear hb ho0)))
  ·go_meet
   case rel=>exact⟨_,(asV),H,⟨z5⟩,⟨by (with_reducible repeat (first|apply Kd.dh|apply Kd.df|apply Kd.dJ));exact Kd.dw asX.out (fun _ hk=>hk.1.1)⟩,⟨zK kJ⟩,⟨zK kK⟩,⟨by repeat (first|(with_reducible first|exact HK.out|apply Kept.alloc|apply Kept.drewN|apply Kept.drew|refine Kept.setCell ?_ (.inr qQ.out) _|refine Kept.setCell ?_ (.inr vG.out) _)|exact HK.out)⟩,⟨zB HB⟩⟩
  go_meet
  case rel=>exact⟨_,(l1),H,⟨z5⟩,⟨by (with_reducible repeat (first|apply Kd.dh|apply Kd.df|apply Kd.dJ));exact Kd.dw (Kd.mZ (p:=⟨lD,5,none⟩) (Kd.mZ (p:=⟨lD,4,none⟩) (Kd.mZ (p:=⟨lD,3,none⟩) (Kd.mZ (p:=⟨lD,2,none⟩) (Kd.mZ (p:=⟨lD,1,none⟩) (Kd.mZ (p:=⟨lD,0,none⟩) (Kd.pq HO1.out kK.out (by decide)) (fun _ hk=>hk.2) (.int .i64 1)) (fun _ hk=>hk.2) (.bool a0)) (fun _ hk=>hk.2) (.int .i64 IV)) (fun _ hk=>hk.2) (.int .u64 0)) (fun _ hk=>hk.2) (.int .u64 0)) (fun _ hk=>hk.2) (.bool a3)) (fun _ hk=>hk.1)⟩,⟨zK kJ⟩,⟨zKp kK⟩,⟨by repeat (first|(with_reducible first|exact HK.out|apply Kept.alloc|apply Kept.drewN|apply Kept.drew|refine Kept.setCell ?_ (.inr qQ.out) _|refine Kept.setCell ?_ (.inr vG.out) _)|exact HK.out)⟩,⟨zB HB⟩⟩
 case rest =>
  obtain⟨kq,rC,H,axH,pJ,kJ,kK,HK,HB⟩:=hcut;obtain _|aFc:=kq
  ·exact zz H rfl
  simp only[az.j0]at H;replace H:=AV H;rcases H with⟨Un,H⟩|⟨Un,H⟩
  ·replace H:=zo H
   obtain⟨aeA,A21,H⟩:=H;obtain⟨DD,yf,UG⟩:=Kd.dZ pJ.out;subst UG
   go_upto_region 9 with (first|((with_reducible refine af (f:=108) rfl ?_);refine zc (some 36) Tryz.func108 #[.slice DD rC.length yf,.int .i64 (wrap64 (Nb-128))] (aU.calls _ _ _ _ _ _ _ (zC ((Kd.aA pJ.out).2.2)) ((Kd.aA pJ.out).2.1) A21.out) ?_;rintro e w' ⟨rfl,⟨nd,rfl⟩⟩;refine⟨_,rfl,?_⟩))
   (try simp only[Act.put,List.setIfInBounds_toArray,List.set_cons_zero,List.set_cons_succ])
   go_cut [] (fun wc => ∃ (kq:Nat) (rM:Bool),ae (az.j1 kq rC Nb 1 a0 IV 0 0 rM=some (r1,r2,r3,r4,r5,r6))∧ae (kq≤aFc)∧ae (Kd.R (Kd.int .i64) 3 wc w0.heap.size (fun k_=>(P1_ k_∨w.heap.size≤k_)) (.slice DD rC.length yf) rC)∧ae (wc.heap[wM]? = some (.cells #[.int .i64 0,.bool false,.int .i64 0,.int .u64 0,.int .u64 0,.bool false] 81 (0,0)))∧ae (wc.heap[lD]? = some (.cells #[.int .i64 1,.bool a0,.int .i64 IV,.int .u64 0,.int .u64 0,.bool rM] 81 (0,0)))∧ae (Kept w wc (fun k_=>P1_ k_))∧ae (Below w0.heap.size w0 wc))
   case first =>
    cases a3
    replace H:=zb0 H;have aFd:=wP.out;have aFe:=wO.out;obtain⟨_,_,_,_,_,_,_,_,_,_,_,_⟩:=zf6 kK;rotate_left;replace H:=zb1 H;have aFf:=wP.out;have aFg:=wO.out;obtain⟨_,_,_,_,_,_,_,_,_,_,_,_⟩:=zf6 kK;rotate_left
    all_goals (go_wp2)
    ·go_meet
     case rel=>exact⟨_,(aeA),H,⟨by have:=axH.out;first|omega|exact Nat.le_refl _⟩,⟨by (with_reducible repeat (first|apply Kd.dh|apply Kd.df|apply Kd.dJ));exact Kd.dw (Kd.mZ (p:=⟨lD,5,none⟩) (Kd.pq pJ.out kK.out (by decide)) (fun _ hk=>hk.2) (.bool aeA)) (fun _ hk=>hk.1)⟩,⟨zK kJ⟩,⟨zKp kK⟩,⟨by repeat (first|(with_reducible first|exact HK.out|apply Kept.alloc|apply Kept.drewN|apply Kept.drew|refine Kept.setCell ?_ (.inr qQ.out) _|refine Kept.setCell ?_ (.inr vG.out) _)|exact HK.out)⟩,⟨zB HB⟩⟩
    go_meet
    case rel=>exact⟨_,(true),H,⟨by have:=axH.out;first|omega|exact Nat.le_refl _⟩,⟨by (with_reducible repeat (first|apply Kd.dh|apply Kd.df|apply Kd.dJ));exact Kd.dw (Kd.mZ (p:=⟨lD,5,none⟩) (Kd.pq pJ.out kK.out (by decide)) (fun _ hk=>hk.2) (.bool true)) (fun _ hk=>hk.1)⟩,⟨zK kJ⟩,⟨zKp kK⟩,⟨by repeat (first|(with_reducible first|exact HK.out|apply Kept.alloc|apply Kept.drewN|apply Kept.drew|refine Kept.setCell ?_ (.inr qQ.out) _|refine Kept.setCell ?_ (.inr vG.out) _)|exact HK.out)⟩,⟨zB HB⟩⟩
   case rest =>
    obtain⟨kq,rM,H,aK2,pJ,kJ,kK,HK,HB⟩:=hcut;obtain _|aK3:=kq
    ·exact zz H rfl
    simp only[az.j1]at H;replace H:=zo H;obtain⟨Qp,A29,H⟩:=H;replace H:=zo H;obtain⟨V7,A30,H⟩:=H;replace H:=zo H;obtain⟨aeB,A31,H⟩:=H;replace H:=zo H;obtain⟨akm,A32,H⟩:=H;obtain⟨rfl,rfl,rfl,rfl,rfl,rfl⟩:=zJ6 H
    go_wp2_with (first|((with_reducible refine af (f:=109) rfl ?_);refine zc (some 45) Tryz.func109 #[.slice DD rC.length yf,.int .i64 (wrap64 (Nb-128))] (aQ.calls _ _ _ _ _ _ _ (zC ((Kd.aA pJ.out).2.2)) ((Kd.aA pJ.out).2.1) A29.out) ?_;rintro e w33 ⟨aK4,rfl,ho0,hb⟩;refine⟨_,rfl,?_⟩;have zQ:=am (Kd.eu (Kd.jd (Kd.oI (M:=fun k_=>(P1_ k_∨w.heap.size≤k_)) ho0 (by first|exact HK.out.1|exact (show Kept w _ (fun k_=>P1_ k_) from by repeat (first|(with_reducible first|exact HK.out|apply Kept.alloc|apply Kept.drewN|apply Kept.drew|refine Kept.setCell ?_ (.inr qQ.out) _|refine Kept.setCell ?_ (.inr vG.out) _)|exact HK.out)).1) (fun k_ h_ => .inr h_)) (Kd.ql (zR pJ))) (zS HB));replace pJ:=am (Kd.gp (zR pJ) (Kd.gm ho0) hb);replace kJ:=zKb kJ hb;replace kK:=zKb kK hb;replace HK:=am (Kept.below (S:=(fun k_=>P1_ k_)) (by repeat (first|(with_reducible first|exact HK.out|apply Kept.alloc|apply Kept.drewN|apply Kept.drew|refine Kept.setCell ?_ (.inr qQ.out) _|refine Kept.setCell ?_ (.inr vG.out) _)|exact HK.out)) hb);replace HB:=zBs HB hb;clear hb ho0;obtain⟨WN,Qd,WL⟩:=Kd.dZ zQ.out;subst WL)|((with_reducible refine af (f:=162) rfl ?_);refine zc (some 47) Tryz.func162 #[.slice WN Qp.length Qd] (bC.calls _ _ _ _ _ _ (zC ((Kd.aA zQ.out).2.2)) ((Kd.aA zQ.out).2.1) A30.out) ?_;rintro e w' ⟨rfl,⟨nd,rfl⟩⟩;refine⟨_,rfl,?_⟩;(try (rw[fZ w33];generalize hq_:World.drewN w33 _=w33;have n0_:ae (Kd.R (Kd.int .i64) 3 w33 w0.heap.size (fun k_=>(P1_ k_∨w.heap.size≤k_)∧some k_≠(.slice DD rC.length yf:Value).ownBlock) (.slice WN Qp.length Qd) Qp):=⟨by rw[← hq_];exact (by (with_reducible repeat (first|apply Kd.dh|apply Kd.df|apply Kd.dJ));exact Kd.dw zQ.out (fun _ hk=>⟨hk.1.1,hk.2⟩))⟩;have n1_:ae (Kd.R (Kd.int .i64) 3 w33 w0.heap.size (fun k_=>(P1_ k_∨w.heap.size≤k_)∧some k_≠(.slice WN Qp.length Qd:Value).ownBlock) (.slice DD rC.length yf) rC):=⟨by rw[← hq_];exact (zR pJ)⟩;have n2_:ae (w33.heap[wM]? = some (.cells #[.int .i64 0,.bool false,.int .i64 0,.int .u64 0,.int .u64 0,.bool false] 81 (0,0))):=⟨by rw[← hq_];exact (zK kJ)⟩;have n3_:ae (w33.heap[lD]? = some (.cells #[.int .i64 1,.bool a0,.int .i64 IV,.int .u64 0,.int .u64 0,.bool rM] 81 (0,0))):=⟨by rw[← hq_];exact (zK kK)⟩;have n4_:ae (Kept w w33 (fun k_=>P1_ k_)):=⟨by rw[← hq_];exact (by repeat (first|(with_reducible first|exact HK.out|apply Kept.alloc|apply Kept.drewN|apply Kept.drew|refine Kept.setCell ?_ (.inr qQ.out) _|refine Kept.setCell ?_ (.inr vG.out) _)|exact HK.out))⟩;have n5_:ae (Below w0.heap.size w0 w33):=⟨by rw[← hq_];exact (zB HB)⟩;clear zQ pJ kJ kK HK HB hq_;have zQ:=n0_;have pJ:=n1_;have kJ:=n2_;have kK:=n3_;have HK:=n4_;have HB:=n5_;clear n0_ n1_ n2_ n3_ n4_ n5_));have aFh:=wP.out;have aFi:=wO.out;obtain⟨_,_,_,_,_,_,_,_,_,_,_,_⟩:=zf6 kK)|((with_reducible refine af (f:=109) rfl ?_);refine zc (some 50) Tryz.func109 #[.slice WN Qp.length Qd,.int .i64 64] (aQ.calls _ _ _ _ _ _ _ ?fE ((Kd.aA zQ.out).2.1) A31.out) ?_;(case fE=>refine (Kd.aA (e:=3) (base:=w0.heap.size) (ok:=fun k_=>((P1_ k_∨w.heap.size≤k_)∧some k_≠(.slice DD rC.length yf:Value).ownBlock)) (n:=Qp.length) (c:=Qd) ?_).2.2;exact (by (with_reducible repeat (first|apply Kd.dh|apply Kd.df|apply Kd.dJ));exact (Kd.dw (Kd.mZ (p:=⟨lD,4,none⟩) (Kd.pq zQ.out kK.out (by decide)) (fun _ hk=>hk.2) (.int .u64 V7)) (fun _ h_=>h_.1))));rintro e w37 ⟨aK5,rfl,ho0,hb⟩;refine⟨_,rfl,?_⟩;have Qq:=am (Kd.eu (Kd.jd (Kd.jd (Kd.oI (M:=fun k_=>(P1_ k_∨w.heap.size≤k_)) ho0 (show Kept w _ (fun k_=>P1_ k_) from by repeat (first|(with_reducible first|exact HK.out|apply Kept.alloc|apply Kept.drewN|apply Kept.drew|refine Kept.setCell ?_ (.inr qQ.out) _|refine Kept.setCell ?_ (.inr vG.out) _)|exact HK.out)).1 (fun k_ h_ => .inr h_)) (Kd.ql (by (with_reducible repeat (first|apply Kd.dh|apply Kd.df|apply Kd.dJ));exact (Kd.dw (Kd.mZ (p:=⟨lD,4,none⟩) (Kd.pq pJ.out kK.out (by decide)) (fun _ hk=>hk.2) (.int .u64 V7)) (fun _ h_=>h_.1))))) (Kd.ql (by (with_reducible repeat (first|apply Kd.dh|apply Kd.df|apply Kd.dJ));exact (Kd.dw (Kd.mZ (p:=⟨lD,4,none⟩) (Kd.pq zQ.out kK.out (by decide)) (fun _ hk=>hk.2) (.int .u64 V7)) (fun _ h_=>h_.1))))) (zS HB));replace pJ:=am (Kd.gp (by (with_reducible repeat (first|apply Kd.dh|apply Kd.df|apply Kd.dJ));exact (Kd.dw (Kd.mZ (p:=⟨lD,4,none⟩) (Kd.pq pJ.out kK.out (by decide)) (fun _ hk=>hk.2) (.int .u64 V7)) (fun _ h_=>h_.1))) (Kd.gm ho0) hb);replace zQ:=am (Kd.gp (by (with_reducible repeat (first|apply Kd.dh|apply Kd.df|apply Kd.dJ));exact (Kd.dw (Kd.mZ (p:=⟨lD,4,none⟩) (Kd.pq zQ.out kK.out (by decide)) (fun _ hk=>hk.2) (.int .u64 V7)) (fun _ h_=>h_.1))) (Kd.gm ho0) hb);replace kJ:=zKb kJ hb;replace kK:=am (dW (zKp kK) hb);replace HK:=am (Kept.below (S:=(fun k_=>P1_ k_)) (by repeat (first|(with_reducible first|exact HK.out|apply Kept.alloc|apply Kept.drewN|apply Kept.drew|refine Kept.setCell ?_ (.inr qQ.out) _|refine Kept.setCell ?_ (.inr vG.out) _)|exact HK.out)) hb);replace HB:=zBs HB hb;clear hb ho0;obtain⟨alR,alS,aFj⟩:=Kd.dZ Qq.out;subst aFj)|((with_reducible refine af (f:=162) rfl ?_);refine zc (some 51) Tryz.func162 #[.slice alR aeB.length alS] (bC.calls _ _ _ _ _ _ (zC ((Kd.aA Qq.out).2.2)) ((Kd.aA Qq.out).2.1) A32.out) ?_;rintro e w' ⟨rfl,⟨nd,rfl⟩⟩;refine⟨_,rfl,?_⟩;(try (rw[fZ w37];generalize hq_:World.drewN w37 _=w37;have n0_:ae (Kd.R (Kd.int .i64) 3 w37 w0.heap.size (fun k_=>(P1_ k_∨w.heap.size≤k_)∧some k_≠(.slice alR aeB.length alS:Value).ownBlock∧some k_≠(.slice DD rC.length yf:Value).ownBlock) (.slice WN Qp.length Qd) Qp):=⟨by rw[← hq_];exact (by (with_reducible repeat (first|apply Kd.dh|apply Kd.df|apply Kd.dJ));exact Kd.dw zQ.out (fun _ hk=>⟨hk.1.1.1,⟨hk.2,hk.1.2⟩⟩))⟩;have n1_:ae (Kd.R (Kd.int .i64) 3 w37 w0.heap.size (fun k_=>(P1_ k_∨w.heap.size≤k_)∧some k_≠(.slice WN Qp.length Qd:Value).ownBlock∧some k_≠(.slice DD rC.length yf:Value).ownBlock) (.slice alR aeB.length alS) aeB):=⟨by rw[← hq_];exact (by (with_reducible repeat (first|apply Kd.dh|apply Kd.df|apply Kd.dJ));exact Kd.dw Qq.out (fun _ hk=>⟨hk.1.1.1,⟨hk.2,hk.1.2⟩⟩))⟩;have n2_:ae (Kd.R (Kd.int .i64) 3 w37 w0.heap.size (fun k_=>(P1_ k_∨w.heap.size≤k_)∧some k_≠(.slice WN Qp.length Qd:Value).ownBlock∧some k_≠(.slice alR aeB.length alS:Value).ownBlock) (.slice DD rC.length yf) rC):=⟨by rw[← hq_];exact (by (with_reducible repeat (first|apply Kd.dh|apply Kd.df|apply Kd.dJ));exact Kd.dw pJ.out (fun _ hk=>⟨hk.1.1,⟨hk.1.2,hk.2⟩⟩))⟩;have n3_:ae (w37.heap[wM]? = some (.cells #[.int .i64 0,.bool false,.int .i64 0,.int .u64 0,.int .u64 0,.bool false] 81 (0,0))):=⟨by rw[← hq_];exact (zK kJ)⟩;have n4_:ae (w37.heap[lD]? = some (.cells #[.int .i64 1,.bool a0,.int .i64 IV,.int .u64 0,.int .u64 V7,.bool rM] 81 (0,0))):=⟨by rw[← hq_];exact (zK kK)⟩;have n5_:ae (Kept w w37 (fun k_=>P1_ k_)):=⟨by rw[← hq_];exact (by repeat (first|(with_reducible first|exact HK.out|apply Kept.alloc|apply Kept.drewN|apply Kept.drew|refine Kept.setCell ?_ (.inr qQ.out) _|refine Kept.setCell ?_ (.inr vG.out) _)|exact HK.out))⟩;have n6_:ae (Below w0.heap.size w0 w37):=⟨by rw[← hq_];exact (zB HB)⟩;clear zQ Qq pJ kJ kK HK HB hq_;have zQ:=n0_;have Qq:=n1_;have pJ:=n2_;have kJ:=n3_;have kK:=n4_;have HK:=n5_;have HB:=n6_;clear n0_ n1_ n2_ n3_ n4_ n5_ n6_));obtain⟨_,_,_,_,_,_,_,_,_,_,_,_⟩:=zf6 kK;obtain⟨_,_,_,_,_,_,_,_,_,_,_,_⟩:=zf6 kJ))
    refine bodyPost_ret (results_cell_row rfl _ _ wM 81 #[.int .i64 1,.bool a0,.int .i64 IV,.int .u64 akm,.int .u64 V7,.bool rM] (0,0) _ rfl (zKp kJ) Tryz.underlying81 rfl (by kernel_rfl)) rfl ?_;exact⟨z2,zB HB,by repeat (first|(with_reducible first|exact HK.out|apply Kept.alloc|apply Kept.drewN|apply Kept.drew|refine Kept.setCell ?_ (.inr qQ.out) _|refine Kept.setCell ?_ (.inr vG.out) _)|exact HK.out)⟩
  replace H:=zo H;obtain⟨Y9,A41,H⟩:=H;replace H:=zo H;obtain⟨afv,A42,H⟩:=H;replace H:=zo H;obtain⟨asU,A43,H⟩:=H;obtain⟨rfl,rfl,rfl,rfl,rfl,rfl⟩:=zJ6 H;obtain⟨akn,adZ,alI⟩:=Kd.dZ pJ.out;subst alI
  go_wp2_with (first|((with_reducible refine af (f:=162) rfl ?_);refine zc (some 47) Tryz.func162 #[.slice akn rC.length adZ] (bC.calls _ _ _ _ _ _ (zC ((Kd.aA pJ.out).2.2)) ((Kd.aA pJ.out).2.1) A41.out) ?_;rintro e w' ⟨rfl,⟨nd,rfl⟩⟩;refine⟨_,rfl,?_⟩;(try (rw[fZ wc];generalize hq_:World.drewN wc _=wc;have n0_:ae (Kd.R (Kd.int .i64) 3 wc w0.heap.size (fun k_=>(P1_ k_∨w.heap.size≤k_)) (.slice akn rC.length adZ) rC):=⟨by rw[← hq_];exact (zR pJ)⟩;have n1_:ae (wc.heap[wM]? = some (.cells #[.int .i64 0,.bool false,.int .i64 0,.int .u64 0,.int .u64 0,.bool false] 81 (0,0))):=⟨by rw[← hq_];exact (zK kJ)⟩;have n2_:ae (wc.heap[lD]? = some (.cells #[.int .i64 1,.bool a0,.int .i64 IV,.int .u64 0,.int .u64 0,.bool a3] 81 (0,0))):=⟨by rw[← hq_];exact (zK kK)⟩;have n3_:ae (Kept w wc (fun k_=>P1_ k_)):=⟨by rw[← hq_];exact (by repeat (first|(with_reducible first|exact HK.out|apply Kept.alloc|apply Kept.drewN|apply Kept.drew|refine Kept.setCell ?_ (.inr qQ.out) _|refine Kept.setCell ?_ (.inr vG.out) _)|exact HK.out))⟩;have n4_:ae (Below w0.heap.size w0 wc):=⟨by rw[← hq_];exact (zB HB)⟩;clear pJ kJ kK HK HB hq_;have pJ:=n0_;have kJ:=n1_;have kK:=n2_;have HK:=n3_;have HB:=n4_;clear n0_ n1_ n2_ n3_ n4_));have aFk:=wP.out;have aFl:=wO.out;obtain⟨_,_,_,_,_,_,_,_,_,_,_,_⟩:=zf6 kK)|((with_reducible refine af (f:=109) rfl ?_);refine zc (some 50) Tryz.func109 #[.slice akn rC.length adZ,.int .i64 64] (aQ.calls _ _ _ _ _ _ _ ?fE ((Kd.aA pJ.out).2.1) A42.out) ?_;(case fE=>refine (Kd.aA (e:=3) (base:=w0.heap.size) (ok:=fun k_=>(P1_ k_∨w.heap.size≤k_)) (n:=rC.length) (c:=adZ) ?_).2.2;exact (by (with_reducible repeat (first|apply Kd.dh|apply Kd.df|apply Kd.dJ));exact (Kd.dw (Kd.mZ (p:=⟨lD,4,none⟩) (Kd.pq pJ.out kK.out (by decide)) (fun _ hk=>hk.2) (.int .u64 Y9)) (fun _ h_=>h_.1))));rintro e w47 ⟨aK6,rfl,ho0,hb⟩;refine⟨_,rfl,?_⟩;have Qr:=am (Kd.eu (Kd.jd (Kd.oI (M:=fun k_=>(P1_ k_∨w.heap.size≤k_)) ho0 (show Kept w _ (fun k_=>P1_ k_) from by repeat (first|(with_reducible first|exact HK.out|apply Kept.alloc|apply Kept.drewN|apply Kept.drew|refine Kept.setCell ?_ (.inr qQ.out) _|refine Kept.setCell ?_ (.inr vG.out) _)|exact HK.out)).1 (fun k_ h_ => .inr h_)) (Kd.ql (by (with_reducible repeat (first|apply Kd.dh|apply Kd.df|apply Kd.dJ));exact (Kd.dw (Kd.mZ (p:=⟨lD,4,none⟩) (Kd.pq pJ.out kK.out (by decide)) (fun _ hk=>hk.2) (.int .u64 Y9)) (fun _ h_=>h_.1))))) (zS HB));replace pJ:=am (Kd.gp (by (with_reducible repeat (first|apply Kd.dh|apply Kd.df|apply Kd.dJ));exact (Kd.dw (Kd.mZ (p:=⟨lD,4,none⟩) (Kd.pq pJ.out kK.out (by decide)) (fun _ hk=>hk.2) (.int .u64 Y9)) (fun _ h_=>h_.1))) (Kd.gm ho0) hb);replace kJ:=zKb kJ hb;replace kK:=am (dW (zKp kK) hb);replace HK:=am (Kept.below (S:=(fun k_=>P1_ k_)) (by repeat (first|(with_reducible first|exact HK.out|apply Kept.alloc|apply Kept.drewN|apply Kept.drew|refine Kept.setCell ?_ (.inr qQ.out) _|refine Kept.setCell ?_ (.inr vG.out) _)|exact HK.out)) hb);replace HB:=zBs HB hb;clear hb ho0;obtain⟨asY,asZ,aFm⟩:=Kd.dZ Qr.out;subst aFm)|((with_reducible refine af (f:=162) rfl ?_);refine zc (some 51) Tryz.func162 #[.slice asY afv.length asZ] (bC.calls _ _ _ _ _ _ (zC ((Kd.aA Qr.out).2.2)) ((Kd.aA Qr.out).2.1) A43.out) ?_;rintro e w' ⟨rfl,⟨nd,rfl⟩⟩;refine⟨_,rfl,?_⟩;(try (rw[fZ w47];generalize hq_:World.drewN w47 _=w47;have n0_:ae (Kd.R (Kd.int .i64) 3 w47 w0.heap.size (fun k_=>(P1_ k_∨w.heap.size≤k_)∧some k_≠(.slice akn rC.length adZ:Value).ownBlock) (.slice asY afv.length asZ) afv):=⟨by rw[← hq_];exact (by (with_reducible repeat (first|apply Kd.dh|apply Kd.df|apply Kd.dJ));exact Kd.dw Qr.out (fun _ hk=>⟨hk.1.1,hk.2⟩))⟩;have n1_:ae (Kd.R (Kd.int .i64) 3 w47 w0.heap.size (fun k_=>(P1_ k_∨w.heap.size≤k_)∧some k_≠(.slice asY afv.length asZ:Value).ownBlock) (.slice akn rC.length adZ) rC):=⟨by rw[← hq_];exact (zR pJ)⟩;have n2_:ae (w47.heap[wM]? = some (.cells #[.int .i64 0,.bool false,.int .i64 0,.int .u64 0,.int .u64 0,.bool false] 81 (0,0))):=⟨by rw[← hq_];exact (zK kJ)⟩;have n3_:ae (w47.heap[lD]? = some (.cells #[.int .i64 1,.bool a0,.int .i64 IV,.int .u64 0,.int .u64 Y9,.bool a3] 81 (0,0))):=⟨by rw[← hq_];exact (zK kK)⟩;have n4_:ae (Kept w w47 (fun k_=>P1_ k_)):=⟨by rw[← hq_];exact (by repeat (first|(with_reducible first|exact HK.out|apply Kept.alloc|apply Kept.drewN|apply Kept.drew|refine Kept.setCell ?_ (.inr qQ.out) _|refine Kept.setCell ?_ (.inr vG.out) _)|exact HK.out))⟩;have n5_:ae (Below w0.heap.size w0 w47):=⟨by rw[← hq_];exact (zB HB)⟩;clear Qr pJ kJ kK HK HB hq_;have Qr:=n0_;have pJ:=n1_;have kJ:=n2_;have kK:=n3_;have HK:=n4_;have HB:=n5_;clear n0_ n1_ n2_ n3_ n4_ n5_));obtain⟨_,_,_,_,_,_,_,_,_,_,_,_⟩:=zf6 kK;obtain⟨_,_,_,_,_,_,_,_,_,_,_,_⟩:=zf6 kJ))
  refine bodyPost_ret (results_cell_row rfl _ _ wM 81 #[.int .i64 1,.bool a0,.int .i64 IV,.int .u64 asU,.int .u64 Y9,.bool a3] (0,0) _ rfl (zKp kJ) Tryz.underlying81 rfl (by kernel_rfl)) rfl ?_;exact⟨z2,zB HB,by repeat (first|(with_reducible first|exact HK.out|apply Kept.alloc|apply Kept.drewN|apply Kept.drew|refine Kept.setCell ?_ (.inr qQ.out) _|refine Kept.setCell ?_ (.inr vG.out) _)|exact HK.out)⟩
def bZ.l0:Nat→List Int→List Int→Int→Option (Int)
  | 0,_,_,_=>none
  | k+1,x0,x1,x5=>if x5≥0 then (if 0≤x5 then (if x5<(x0.length:Int) then (if x5<(x1.length:Int) then (if (rd x0 x5)<(rd x1 x5) then (some (-1)) else (if (rd x0 x5) > (rd x1 x5) then (some 1) else (bZ.l0 k x0 x1 (wrap64 (x5-1))))) else (none)) else (none)) else (none)) else (some 0)
def bZ.f (k:Nat)(l0:List Int)(l1:List Int):Option (Int):=if (l0.length:Int)=(l1.length:Int) then (bZ.l0 k l0 l1 (wrap64 ((l0.length:Int)-1))) else (if (l0.length:Int)<(l1.length:Int) then (some (-1)) else (some 1))
theorem bZ.calls (k:Nat)(A0:Option Addr)(c0:Nat)(l0:List Int)(A1:Option Addr)(c1:Nat)(l1:List Int)(r:Int)(w:World)(hr0:Kd.C (Kd.int .i64) w A0 l0.length l0)(hc0:l0.length≤c0)(hr1:Kd.C (Kd.int .i64) w A1 l1.length l1)(hc1:l1.length≤c1)(h:bZ.f k l0 l1=some r) :
    Calls Tryz.prog 140 #[.slice A0 l0.length c0,.slice A1 l1.length c1] w fun e w'=>e=.returned (.int .i64 r)∧dR w w':=by
 have HR0:=am hr0;have HC0:=am hc0;clear hr0 hc0;have HR1:=am hr1;have HC1:=am hc1;clear hr1 hc1;have H:=am h;unfold bZ.f at H;clear h;replace H:=zs H;rcases H with⟨c3,H⟩|⟨c3,H⟩;have pI:((l0.length:Int) == (l1.length:Int))=true:=beq_iff_eq.mpr c3;have Kw:((l0.length:Int) != (l1.length:Int))=false:=bne_eq_false_iff_eq.mpr c3
 have an5:(l0.length == l1.length)=true:=by first|simpa using c3|(simp at c3 ⊢;omega)
 clear c3;rotate_left;have pI:((l0.length:Int) == (l1.length:Int))=false:=beq_eq_false_iff_ne.mpr c3;have Kw:((l0.length:Int) != (l1.length:Int))=true:=bne_iff_ne.mpr c3
 have an5:(l0.length == l1.length)=false:=by first|simpa using c3|(simp at c3 ⊢;omega)
 replace H:=zs H;rcases H with⟨c10,H⟩|⟨c10,H⟩;have mr:decide ((l0.length:Int)<(l1.length:Int))=true:=decide_eq_true c10;have sS:decide (l0.length<l1.length)=true:=decide_eq_true (Int.ofNat_lt.mp c10);clear c10;obtain rfl:=Option.some.inj H.out;rotate_left;have mr:decide ((l0.length:Int)<(l1.length:Int))=false:=decide_eq_false c10;have sS:decide (l0.length<l1.length)=false:=decide_eq_false (fun h=>c10 (Int.ofNat_lt.mpr h));clear c10;obtain rfl:=Option.some.inj H.out;rotate_left
 all_goals (go_enter Tryz.func140,Tryz.ntmps140;go_wp2;repeat (go_quiet (fail);try go_wp2))
 ·go_loopg [5] k (fun kq v5 w' => ∃ (ig:Int),v5=.int .i64 ig∧ae (bZ.l0 kq l0 l1 ig=some r)∧ae (kq≤k)∧dR w w')
  case atStart=>exact⟨(wrap64 ((l0.length:Int)-1)),z1,H,zL,z4⟩
  clear H;obtain⟨ig,rfl,H,HK1,⟨m1,rfl⟩⟩:=hrel;obtain _|k1:=gk
  ·exact zz H rfl
  simp only[bZ.l0]at H;replace H:=yH H;rcases H with⟨jP,H⟩|⟨jP,H⟩;replace H:=zid H;obtain⟨qg,H⟩:=H;replace H:=zid H;obtain⟨qm,H⟩:=H;replace H:=zid H;obtain⟨wz,H⟩:=H;replace H:=zsd H;rcases H with⟨sO,H⟩|⟨sO,H⟩;obtain rfl:=Option.some.inj H.out;obtain⟨axI,axJ,Za,rfl,V8⟩:=zA (Kd.dQ HR0.out ig);obtain⟨axK,axL,Zb,rfl,V9⟩:=zA (Kd.dQ HR1.out ig);rotate_left;replace H:=AV H;rcases H with⟨wu,H⟩|⟨wu,H⟩;obtain rfl:=Option.some.inj H.out;obtain⟨axI,axJ,Za,rfl,V8⟩:=zA (Kd.dQ HR0.out ig);obtain⟨axK,axL,Zb,rfl,V9⟩:=zA (Kd.dQ HR1.out ig);have aeC:0≤(ig:Int):=zD;have aeD:ig<(l0.length:Int):=zD;obtain⟨aeE,as1,aeF⟩:=Kd.dQ HR0.out ig aeC aeD
  obtain rfl:Za=aeE:=(by injection as1)
  replace aeC:=eq_true aeC;replace aeD:=eq_true aeD;have aeG:0≤(ig:Int):=zD;have aeH:ig<(l1.length:Int):=zD;obtain⟨aeI,as2,aeJ⟩:=Kd.dQ HR1.out ig aeG aeH
  obtain rfl:Zb=aeI:=(by injection as2)
  replace aeG:=eq_true aeG;replace aeH:=eq_true aeH;rotate_left;obtain⟨axI,axJ,Za,rfl,V8⟩:=zA (Kd.dQ HR0.out ig);obtain⟨axK,axL,Zb,rfl,V9⟩:=zA (Kd.dQ HR1.out ig);have aeC:0≤(ig:Int):=zD;have aeD:ig<(l0.length:Int):=zD;obtain⟨aeE,as1,aeF⟩:=Kd.dQ HR0.out ig aeC aeD
  obtain rfl:Za=aeE:=(by injection as1)
  replace aeC:=eq_true aeC;replace aeD:=eq_true aeD;have aeG:0≤(ig:Int):=zD;have aeH:ig<(l1.length:Int):=zD;obtain⟨aeI,as2,aeJ⟩:=Kd.dQ HR1.out ig aeG aeH
  obtain rfl:Zb=aeI:=(by injection as2)
  replace aeG:=eq_true aeG;replace aeH:=eq_true aeH;rotate_left;obtain rfl:=Option.some.inj H.out;rotate_left
  all_goals (go_wp2;repeat (go_quiet (fail);try go_wp2))
  ·go_ret
   exact⟨z1,z4⟩
  ·go_ret
   exact⟨z1,z4⟩
  ·go_roundg k1
   case measure=>have:=HK1.out;omega
   case rel=>exact⟨(wrap64 (ig-1)),z1,H,(zH HK1),z4⟩
  go_ret
  exact⟨z1,z4⟩
 ·go_ret
  exact⟨z1,z4⟩
 go_ret
 exact⟨z1,z4⟩
def di.l0:Nat→List Int→List Int→List Int→Int→Int→Option (List Int)
  | 0,_,_,_,_,_=>none
  | k+1,x0,x1,x5,x6,x7=>if x7<(x0.length:Int) then (if 0≤x7 then ((aZ.f x1 x7).bind fun EH=>(if (wrap64 ((wrap64 ((rd x0 x7)-EH))-x6))<0 then (if x5.length<17592186044416 then (di.l0 k x0 x1 (x5 ++ [wrap64 ((wrap64 ((wrap64 ((rd x0 x7)-EH))-x6))+16777216)]) 1 (wrap64 (x7+1))) else (none)) else (if x5.length<17592186044416 then (di.l0 k x0 x1 (x5 ++ [wrap64 ((wrap64 ((rd x0 x7)-EH))-x6)]) 0 (wrap64 (x7+1))) else (none)))) else (none)) else ((aW.f k x5).bind fun alT=>(some alT))
def di.f (k:Nat)(l0:List Int)(l1:List Int):Option (List Int):=di.l0 k l0 l1 ([]:List Int) 0 0
theorem di.calls (k:Nat)(A0:Option Addr)(c0:Nat)(l0:List Int)(A1:Option Addr)(c1:Nat)(l1:List Int)(r:List Int)(w:World)(hr0:Kd.C (Kd.int .i64) w A0 l0.length l0)(hc0:l0.length≤c0)(hr1:Kd.C (Kd.int .i64) w A1 l1.length l1)(hc1:l1.length≤c1)(h:di.f k l0 l1=some r) :
    Calls Tryz.prog 163 #[.slice A0 l0.length c0,.slice A1 l1.length c1] w fun e w' => ∃ v0_:Value,e=.returned (v0_)∧Kd.R (Kd.int .i64) 3 w' w.heap.size (fun _=>True) v0_ r∧Below w.heap.size w w':=by
 have HR0:=am hr0;have HC0:=am hc0;clear hr0 hc0;have HR1:=am hr1;have HC1:=am hc1;clear hr1 hc1;have HB:=am (Below.refl w.heap.size w);have H:=am h;unfold di.f at H;clear h
 go_enter Tryz.func163,Tryz.ntmps163
 go_wp2
 repeat (go_quiet (fail);try go_wp2)
 go_loopg [5,6,7] k (fun kq v5 v6 v7 w' => ∃ (ig:List Int) (jU:Int) (lu:Int),v6=.int .i64 jU∧v7=.int .i64 lu∧ae (di.l0 kq l0 l1 ig jU lu=some r)∧ae (kq≤k)∧ae (Kd.R (Kd.int .i64) 3 w' w.heap.size (fun _=>True) v5 ig)∧ae (Below w.heap.size w w'))
 case atStart=>exact⟨(([]:List Int)),(0),(0),z1,z1,H,zL,⟨zN⟩,⟨zB HB⟩⟩
 clear H;obtain⟨ig,jU,lu,rfl,rfl,H,HK1,fM,HB⟩:=hrel;obtain _|k1:=gk
 ·exact zz H rfl
 simp only[di.l0]at H;replace H:=zsd H;rcases H with⟨pI,H⟩|⟨pI,H⟩;replace H:=zid H;obtain⟨jP,H⟩:=H;replace H:=zo H;obtain⟨EH,A5,H⟩:=H;replace H:=zsd H;rcases H with⟨qm,H⟩|⟨qm,H⟩;replace H:=zil H;obtain⟨akg,H⟩:=H;generalize ako:(ig ++ [wrap64 ((wrap64 ((wrap64 ((rd l0 lu)-EH))-jU))+16777216)]:List Int)=aFn at H;have aeK:=zY ako;clear ako;have aeL:0≤(lu:Int):=zD;have aeM:lu<(l0.length:Int):=zD;obtain⟨as3,as4,yz⟩:=Kd.dQ HR0.out lu aeL aeM
 cases as4
 replace yz:=(HB.out.cell (World.block_lt_of_cell? w _ yz)).trans yz;replace aeL:=eq_true aeL;replace aeM:=eq_true aeM;rotate_left;replace H:=zil H;obtain⟨ac7,H⟩:=H;generalize akp:(ig ++ [wrap64 ((wrap64 ((rd l0 lu)-EH))-jU)]:List Int)=aFo at H;have aeN:=zY akp;clear akp;have aeL:0≤(lu:Int):=zD;have aeM:lu<(l0.length:Int):=zD;obtain⟨as3,as4,yz⟩:=Kd.dQ HR0.out lu aeL aeM
 cases as4
 replace yz:=(HB.out.cell (World.block_lt_of_cell? w _ yz)).trans yz;replace aeL:=eq_true aeL;replace aeM:=eq_true aeM;rotate_left;replace H:=zo H;obtain⟨alT,A11,H⟩:=H;obtain rfl:=Option.some.inj H.out;obtain⟨WJ,QH,WF⟩:=Kd.dZ fM.out;subst WF;rotate_left
 all_goals (go_wp2_with (first|(go_at_call 138;(with_reducible refine (aZ.calls _ _ _ _ _ _ ?fE ?kN A5.out).mono ?_);(case fE=>repeat (first|exact (Kd.jZ HR1.out HB.out)|(with_reducible refine Kd.lm ?_ _)|(with_reducible refine Kd.lg ?_ _)|(with_reducible refine Kd.nZ ?_)));(case kN=>exact HC1.out);rintro e w' ⟨rfl,⟨nd,rfl⟩⟩;(try first|exact⟨rfl,_,World.drewN_drewN _ _ _⟩|exact⟨rfl,_,Eq.trans (World.drewN_drewN _ _ _) (congrArg (World.drewN _) (Nat.add_assoc _ _ _))⟩))|((with_reducible refine eG (b := .append) (xs:=#[.tmp 29,.tmp 31]) rfl ?_);at_builtin;refine Kd.kU (Kd.int .i64) (w0:=w) w.heap.size rfl (.tmp 29) (.tmp 31) 70 3 (.int .i64 0) 8 rfl Tryz.underlying70 info3 rfl (by decide) (by omega) u5 ig (wrap64 ((wrap64 ((wrap64 ((rd l0 lu)-EH))-jU))+16777216)) [.int .i64 (wrap64 ((wrap64 ((wrap64 ((rd l0 lu)-EH))-jU))+16777216))] (fun _=>True) (fun _=>False) rfl rfl ?aP (fun _ hk=>hk.elim) ?aF ?aO ?aB ?aS ?aL ?_;(case aP=>exact rfl);(case aB=>exact (zB HB));(case aF=>exact (fun _ _=>trivial));(case aO=>exact (zR fM));(case aS=>exact (zS HB));(case aL=>have:=akg.out;omega);intro axM w8 ho hb hg hat;rw[← aeK.out]at ho;replace HB:=am (hb);have aeO:=am (ho);clear fM ho hb hg hat)|((with_reducible refine eG (b := .append) (xs:=#[.tmp 29,.tmp 31]) rfl ?_);at_builtin;refine Kd.kU (Kd.int .i64) (w0:=w) w.heap.size rfl (.tmp 29) (.tmp 31) 70 3 (.int .i64 0) 8 rfl Tryz.underlying70 info3 rfl (by decide) (by omega) u5 ig (wrap64 ((wrap64 ((rd l0 lu)-EH))-jU)) [.int .i64 (wrap64 ((wrap64 ((rd l0 lu)-EH))-jU))] (fun _=>True) (fun _=>False) rfl rfl ?aP (fun _ hk=>hk.elim) ?aF ?aO ?aB ?aS ?aL ?_;(case aP=>exact rfl);(case aB=>exact (zB HB));(case aF=>exact (fun _ _=>trivial));(case aO=>exact (zR fM));(case aS=>exact (zS HB));(case aL=>have:=ac7.out;omega);intro axN w10 ho hb hg hat;rw[← aeN.out]at ho;replace HB:=am (hb);have aeP:=am (ho);clear fM ho hb hg hat)|(go_at_call 141;(with_reducible refine (aW.calls _ (fun k_=>some k_=(.slice WJ ig.length QH:Value).ownBlock) (.slice WJ ig.length QH) _ _ w _ ?fE ?kN A11.out).mono ?_);(case fE=>repeat (first|(with_reducible first|exact HB.out|apply bD|apply aK|apply aX)|exact HB.out));(case kN=>exact Kd.jX rfl fM.out);rintro e w13 ⟨axO,rfl,ho0,hb,hkp⟩;have aeQ:=am (Kd.dw (ok':=fun k_=>True) ho0 (fun k_ hk_=>trivial));replace HB:=am (hb);clear fM hb hkp ho0)))
 ·repeat (go_quiet (first|(go_at_call 138;(with_reducible refine (aZ.calls _ _ l1 lu EH _ ?fE ?kN A5.out).mono ?_);(case fE=>repeat (first|exact (Kd.jZ HR1.out HB.out)|(with_reducible refine Kd.lm ?_ _)|(with_reducible refine Kd.lg ?_ _)|(with_reducible refine Kd.nZ ?_)));(case kN=>exact HC1.out);rintro e w' ⟨rfl,⟨nd,rfl⟩⟩;(try first|exact⟨rfl,_,World.drewN_drewN _ _ _⟩|exact⟨rfl,_,Eq.trans (World.drewN_drewN _ _ _) (congrArg (World.drewN _) (Nat.add_assoc _ _ _))⟩))|((with_reducible refine eG (b := .append) (xs:=#[.tmp 29,.tmp 31]) rfl ?_);at_builtin;refine Kd.kU (Kd.int .i64) (w0:=w) w.heap.size rfl (.tmp 29) (.tmp 31) 70 3 (.int .i64 0) 8 rfl Tryz.underlying70 info3 rfl (by decide) (by omega) u5 ig (wrap64 ((wrap64 ((wrap64 ((rd l0 lu)-EH))-jU))+16777216)) [.int .i64 (wrap64 ((wrap64 ((wrap64 ((rd l0 lu)-EH))-jU))+16777216))] (fun _=>True) (fun _=>False) rfl rfl ?aP (fun _ hk=>hk.elim) ?aF ?aO ?aB ?aS ?aL ?_;(case aP=>exact rfl);(case aB=>exact (zB HB));(case aF=>exact (fun _ _=>trivial));(case aO=>exact (zR fM));(case aS=>exact (zS HB));(case aL=>have:=akg.out;omega);intro axM w8 ho hb hg hat;rw[← aeK.out]at ho;have n0_:=am (hb);have n1_:=am (ho);clear HB;clear fM;have HB:=n0_;have aeO:=n1_;clear n0_ n1_;clear ho hb hg hat));try go_wp2_with (first|(go_at_call 138;(with_reducible refine (aZ.calls _ _ l1 lu EH _ ?fE ?kN A5.out).mono ?_);(case fE=>repeat (first|exact (Kd.jZ HR1.out HB.out)|(with_reducible refine Kd.lm ?_ _)|(with_reducible refine Kd.lg ?_ _)|(with_reducible refine Kd.nZ ?_)));(case kN=>exact HC1.out);rintro e w' ⟨rfl,⟨nd,rfl⟩⟩;(try first|exact⟨rfl,_,World.drewN_drewN _ _ _⟩|exact⟨rfl,_,Eq.trans (World.drewN_drewN _ _ _) (congrArg (World.drewN _) (Nat.add_assoc _ _ _))⟩))|((with_reducible refine eG (b := .append) (xs:=#[.tmp 29,.tmp 31]) rfl ?_);at_builtin;refine Kd.kU (Kd.int .i64) (w0:=w) w.heap.size rfl (.tmp 29) (.tmp 31) 70 3 (.int .i64 0) 8 rfl Tryz.underlying70 info3 rfl (by decide) (by omega) u5 ig (wrap64 ((wrap64 ((wrap64 ((rd l0 lu)-EH))-jU))+16777216)) [.int .i64 (wrap64 ((wrap64 ((wrap64 ((rd l0 lu)-EH))-jU))+16777216))] (fun _=>True) (fun _=>False) rfl rfl ?aP (fun _ hk=>hk.elim) ?aF ?aO ?aB ?aS ?aL ?_;(case aP=>exact rfl);(case aB=>exact (zB HB));(case aF=>exact (fun _ _=>trivial));(case aO=>exact (zR fM));(case aS=>exact (zS HB));(case aL=>have:=akg.out;omega);intro axM w8 ho hb hg hat;rw[← aeK.out]at ho;have n0_:=am (hb);have n1_:=am (ho);clear HB;clear fM;have HB:=n0_;have aeO:=n1_;clear n0_ n1_;clear ho hb hg hat)))
  go_roundg k1
  case measure=>have:=HK1.out;omega
  case rel=>exact⟨(aFn),(1),(wrap64 (lu+1)),z1,z1,H,(zH HK1),⟨zR aeO⟩,⟨zB HB⟩⟩
 ·repeat (go_quiet (first|(go_at_call 138;(with_reducible refine (aZ.calls _ _ l1 lu EH _ ?fE ?kN A5.out).mono ?_);(case fE=>repeat (first|exact (Kd.jZ HR1.out HB.out)|(with_reducible refine Kd.lm ?_ _)|(with_reducible refine Kd.lg ?_ _)|(with_reducible refine Kd.nZ ?_)));(case kN=>exact HC1.out);rintro e w' ⟨rfl,⟨nd,rfl⟩⟩;(try first|exact⟨rfl,_,World.drewN_drewN _ _ _⟩|exact⟨rfl,_,Eq.trans (World.drewN_drewN _ _ _) (congrArg (World.drewN _) (Nat.add_assoc _ _ _))⟩))|((with_reducible refine eG (b := .append) (xs:=#[.tmp 29,.tmp 31]) rfl ?_);at_builtin;refine Kd.kU (Kd.int .i64) (w0:=w) w.heap.size rfl (.tmp 29) (.tmp 31) 70 3 (.int .i64 0) 8 rfl Tryz.underlying70 info3 rfl (by decide) (by omega) u5 ig (wrap64 ((wrap64 ((rd l0 lu)-EH))-jU)) [.int .i64 (wrap64 ((wrap64 ((rd l0 lu)-EH))-jU))] (fun _=>True) (fun _=>False) rfl rfl ?aP (fun _ hk=>hk.elim) ?aF ?aO ?aB ?aS ?aL ?_;(case aP=>exact rfl);(case aB=>exact (zB HB));(case aF=>exact (fun _ _=>trivial));(case aO=>exact (zR fM));(case aS=>exact (zS HB));(case aL=>have:=ac7.out;omega);intro axN w10 ho hb hg hat;rw[← aeN.out]at ho;have n0_:=am (hb);have n1_:=am (ho);clear HB;clear fM;have HB:=n0_;have aeP:=n1_;clear n0_ n1_;clear ho hb hg hat));try go_wp2_with (first|(go_at_call 138;(with_reducible refine (aZ.calls _ _ l1 lu EH _ ?fE ?kN A5.out).mono ?_);(case fE=>repeat (first|exact (Kd.jZ HR1.out HB.out)|(with_reducible refine Kd.lm ?_ _)|(with_reducible refine Kd.lg ?_ _)|(with_reducible refine Kd.nZ ?_)));(case kN=>exact HC1.out);rintro e w' ⟨rfl,⟨nd,rfl⟩⟩;(try first|exact⟨rfl,_,World.drewN_drewN _ _ _⟩|exact⟨rfl,_,Eq.trans (World.drewN_drewN _ _ _) (congrArg (World.drewN _) (Nat.add_assoc _ _ _))⟩))|((with_reducible refine eG (b := .append) (xs:=#[.tmp 29,.tmp 31]) rfl ?_);at_builtin;refine Kd.kU (Kd.int .i64) (w0:=w) w.heap.size rfl (.tmp 29) (.tmp 31) 70 3 (.int .i64 0) 8 rfl Tryz.underlying70 info3 rfl (by decide) (by omega) u5 ig (wrap64 ((wrap64 ((rd l0 lu)-EH))-jU)) [.int .i64 (wrap64 ((wrap64 ((rd l0 lu)-EH))-jU))] (fun _=>True) (fun _=>False) rfl rfl ?aP (fun _ hk=>hk.elim) ?aF ?aO ?aB ?aS ?aL ?_;(case aP=>exact rfl);(case aB=>exact (zB HB));(case aF=>exact (fun _ _=>trivial));(case aO=>exact (zR fM));(case aS=>exact (zS HB));(case aL=>have:=ac7.out;omega);intro axN w10 ho hb hg hat;rw[← aeN.out]at ho;have n0_:=am (hb);have n1_:=am (ho);clear HB;clear fM;have HB:=n0_;have aeP:=n1_;clear n0_ n1_;clear ho hb hg hat)))
  go_roundg k1
  case measure=>have:=HK1.out;omega
  case rel=>exact⟨(aFo),(0),(wrap64 (lu+1)),z1,z1,H,(zH HK1),⟨zR aeP⟩,⟨zB HB⟩⟩
 repeat (go_quiet (first|(go_at_call 141;(with_reducible refine (aW.calls k1 (fun k_=>some k_=(.slice WJ ig.length QH:Value).ownBlock) (.slice WJ ig.length QH) ig alT w _ ?fE ?kN A11.out).mono ?_);(case fE=>repeat (first|(with_reducible first|exact HB.out|apply bD|apply aK|apply aX)|exact HB.out));(case kN=>exact Kd.jX rfl fM.out);rintro e w13 ⟨axO,rfl,ho0,hb,hkp⟩;have n0_:=am (Kd.dw (ok':=fun k_=>True) ho0 (fun k_ hk_=>trivial));have n1_:=am (hb);clear HB;clear fM;have aeQ:=n0_;have HB:=n1_;clear n0_ n1_;(try clear hb);(try clear hkp);(try clear ho0)));try go_wp2_with (first|(go_at_call 141;(with_reducible refine (aW.calls k1 (fun k_=>some k_=(.slice WJ ig.length QH:Value).ownBlock) (.slice WJ ig.length QH) ig alT w _ ?fE ?kN A11.out).mono ?_);(case fE=>repeat (first|(with_reducible first|exact HB.out|apply bD|apply aK|apply aX)|exact HB.out));(case kN=>exact Kd.jX rfl fM.out);rintro e w13 ⟨axO,rfl,ho0,hb,hkp⟩;have n0_:=am (Kd.dw (ok':=fun k_=>True) ho0 (fun k_ hk_=>trivial));have n1_:=am (hb);clear HB;clear fM;have aeQ:=n0_;have HB:=n1_;clear n0_ n1_;(try clear hb);(try clear hkp);(try clear ho0))))
 go_ret
 exact⟨_,z2,zR aeQ,zB HB⟩
end Go.Proofs.Yy.PTx
end
section
namespace Go.Proofs.Yy.PTx
open Go.RowKit Go.Proofs.Yw.PrintWords Go.Proofs.Yw.PrintLast Go.Proofs.Yw.PrintMore Go.Proofs.Yy.M Go.Proofs.Yy.NM
attribute [local irreducible] fK iD iV jY val
def Nu (A C:Int):Int:=if A<C then -1 else if A=C then 0 else 1
theorem qF {A C p:Int}(hp:0<p)(h:A / p<C / p):A<C:=by
 rcases Int.lt_or_le A C with h1|h1
 ·exact h1
 ·have:=Int.ediv_le_ediv hp h1
  omega
theorem yM {A b:Int}(hb:0<b)(i:Nat):A / pw b i=b*(A / pw b (i+1))+A / pw b i % b:=by
 rw[lh hb];exact (Int.mul_ediv_add_emod _ _).symm
theorem Hf {A C:Int}(h:A<C):Nu A C = -1:=by unfold Nu;rw[if_pos h]
theorem Hy {A C:Int}(h:C<A):Nu A C=1:=by unfold Nu;rw[if_neg (by omega),if_neg (by omega)]
theorem Uj (A:Int):Nu A A=0:=by unfold Nu;rw[if_neg (by omega),if_pos rfl]
theorem yT {A C b:Int}(hb:1<b)(hA:0≤A)(hC:0≤C)(h:(enc b A).length<(enc b C).length):A<C:=by
 have h1:=(qE hb hC (enc b A).length).1 h
 have h2:¬ 0<A / pw b (enc b A).length:=fun e=>by
  have:=(qE hb hA (enc b A).length).2 e
  omega
 exact qF (p:=pw b (enc b A).length) (jQ (by omega) (enc b A).length) (by omega)
theorem abW {A C:Int}(hA:0≤A)(hC:0≤C)(hl:(enc B A).length=(enc B C).length)(hL:(enc B A).length≤1099511627776):∀ i:Nat,i≤(enc B A).length→A / pw B i=C / pw B i →
  Ev (fun k=>mW.l0 k (enc B A) (enc B C) ((i:Int)-1)) (Nu A C):=by
 intro i
 induction i with
 | zero =>
  intro _ h;rw[fH,fH]at h;refine Ev.step (f:=fun _=>some 0) (fun k=>?_) (by rw[h,Uj];exact Ev.now _);simp only[mW.l0];rw[if_neg (by omega)]
 | succ i ih =>
  intro hi h
  have hw:ae (wrap64 ((i:Int)-1)=(i:Int)-1):=⟨w64 (by omega) (by omega)⟩
  have e:((i+1:Nat):Int)-1=(i:Int):=by omega
  have dA:=yM (A:=A) jm i;have dC:=yM (A:=C) jm i;rw[h]at dA
  by_cases h1:A / pw B i % B=C / pw B i % B
  ·refine Ev.step (f:=fun k=>mW.l0 k (enc B A) (enc B C) ((i:Int)-1)) (fun k=>?_) (ih (by omega) (by rw[dA,dC,h1]))
   simp only[mW.l0];rw[e,if_pos (by omega),if_pos (by omega),if_pos (by omega),if_pos (by omega),eP,eP,jA B1 hA,jA B1 hC,if_pos h1,hw.out]
  ·by_cases h2:A / pw B i % B<C / pw B i % B
   ·refine Ev.step (f:=fun _=>some (-1)) (fun k=>?_) (by rw[Hf (qF (jQ jm i) (by omega))];exact Ev.now _)
    simp only[mW.l0];rw[e,if_pos (by omega),if_pos (by omega),if_pos (by omega),if_pos (by omega),eP,eP,jA B1 hA,jA B1 hC,if_neg h1,if_pos h2]
   ·refine Ev.step (f:=fun _=>some 1) (fun k=>?_) (by rw[Hy (qF (jQ jm i) (by omega))];exact Ev.now _)
    simp only[mW.l0];rw[e,if_pos (by omega),if_pos (by omega),if_pos (by omega),if_pos (by omega),eP,eP,jA B1 hA,jA B1 hC,if_neg h1,if_neg h2]
theorem Ak {A b:Int}(hb:1<b)(hA:0≤A):A / pw b (enc b A).length=0:=by
 have h1:=qE hb hA (enc b A).length;have h2:=gY (b:=b) (by omega) hA (enc b A).length
 omega
theorem ab9 {a b:List Int}(ha:Dig B a)(hb:Dig B b)(hL:a.length≤1099511627776)(hM:b.length≤1099511627776):Ev (fun k=>mW.f k a b) (Nu (val B a) (val B b)):=by
 have hA:=fC jm ha;have hC:=fC jm hb;have la:=nI B1 ha;have lb:=nI B1 hb;refine Ev.congr (fun k=>rfl) (Ev.bind (nV ha hL) (Ev.bind (nV hb hM) ?_))
 by_cases h:(enc B (val B a)).length=(enc B (val B b)).length
 ·have:=abW hA hC h (by omega) (enc B (val B a)).length (Nat.le_refl _) (by rw[Ak B1 hA];rw[h,Ak B1 hC])
  refine Ev.congr (fun k=>?_) this;rw[if_pos (by omega),w64 (by omega) (by omega)]
 ·by_cases h2:(enc B (val B a)).length<(enc B (val B b)).length
  ·rw[Hf (yT B1 hA hC h2)]
   exact Ev.congr (f:=fun _=>some (-1)) (fun k=>by rw[if_neg (by omega),if_pos (by omega)]) (Ev.now _)
  ·rw[Hy (yT B1 hC hA (by omega))]
   exact Ev.congr (f:=fun _=>some 1) (fun k=>by rw[if_neg (by omega),if_neg (by omega)]) (Ev.now _)
theorem aci {A C:Int}(hA:0≤A)(hC:0≤C)(hl:(enc D A).length=(enc D C).length)(hL:(enc D A).length≤1099511627776):∀ i:Nat,i≤(enc D A).length→A / pw D i=C / pw D i →
  Ev (fun k=>bZ.l0 k (enc D A) (enc D C) ((i:Int)-1)) (Nu A C):=by
 intro i
 induction i with
 | zero =>
  intro _ h;rw[fH,fH]at h;refine Ev.step (f:=fun _=>some 0) (fun k=>?_) (by rw[h,Uj];exact Ev.now _);simp only[bZ.l0];rw[if_neg (by omega)]
 | succ i ih =>
  intro hi h
  have hw:ae (wrap64 ((i:Int)-1)=(i:Int)-1):=⟨w64 (by omega) (by omega)⟩
  have e:((i+1:Nat):Int)-1=(i:Int):=by omega
  have dA:=yM (A:=A) nS i;have dC:=yM (A:=C) nS i;rw[h]at dA
  by_cases h1:A / pw D i % D=C / pw D i % D
  ·refine Ev.step (f:=fun k=>bZ.l0 k (enc D A) (enc D C) ((i:Int)-1)) (fun k=>?_) (ih (by omega) (by rw[dA,dC,h1]))
   simp only[bZ.l0];rw[e,if_pos (by omega),if_pos (by omega),if_pos (by omega),if_pos (by omega),eP,eP,jA D1 hA,jA D1 hC,if_neg (by omega),if_neg (by omega),hw.out]
  ·by_cases h2:A / pw D i % D<C / pw D i % D
   ·refine Ev.step (f:=fun _=>some (-1)) (fun k=>?_) (by rw[Hf (qF (jQ nS i) (by omega))];exact Ev.now _)
    simp only[bZ.l0];rw[e,if_pos (by omega),if_pos (by omega),if_pos (by omega),if_pos (by omega),eP,eP,jA D1 hA,jA D1 hC,if_pos h2]
   ·refine Ev.step (f:=fun _=>some 1) (fun k=>?_) (by rw[Hy (qF (jQ nS i) (by omega))];exact Ev.now _)
    simp only[bZ.l0];rw[e,if_pos (by omega),if_pos (by omega),if_pos (by omega),if_pos (by omega),eP,eP,jA D1 hA,jA D1 hC,if_neg h2,if_pos (by omega)]
theorem aaG {A C:Int}(hA:0≤A)(hC:0≤C)(hL:(enc D A).length≤1099511627776):Ev (fun k=>bZ.f k (enc D A) (enc D C)) (Nu A C):=by
 by_cases h:(enc D A).length=(enc D C).length
 ·have:=aci hA hC h (by omega) (enc D A).length (Nat.le_refl _) (by rw[Ak D1 hA];rw[h,Ak D1 hC])
  refine Ev.congr (fun k=>?_) this;unfold bZ.f;rw[if_pos (by omega),w64 (by omega) (by omega)]
 ·by_cases h2:(enc D A).length<(enc D C).length
  ·rw[Hf (yT D1 hA hC h2)]
   exact Ev.congr (f:=fun _=>some (-1)) (fun k=>by unfold bZ.f;rw[if_neg (by omega),if_pos (by omega)]) (Ev.now _)
  ·rw[Hy (yT D1 hC hA (by omega))]
   exact Ev.congr (f:=fun _=>some 1) (fun k=>by unfold bZ.f;rw[if_neg (by omega),if_neg (by omega)]) (Ev.now _)
theorem FT {x y c:Int}(hx:0≤x∧x<B)(hy:0≤y∧y<B)(hc:0≤c)(hc1:c≤1):iV x y c-B*jY x y c=x-y-c∧(0≤iV x y c∧iV x y c<B)∧0≤jY x y c∧jY x y c≤1:=by
 unfold iV jY;rw[ug]at *
 split <;> omega
theorem Xd {p b lo hi ai bi c X A C:Int}(hs:lo-b*hi=ai-bi-c)(hv:X-p*c=A-C):X+p*lo-p*b*hi=(A+p*ai)-(C+p*bi):=by grind
theorem NU {A C:Int}:Nu A C<0 ↔ A<C:=by
 unfold Nu
 by_cases h:A<C
 ·rw[if_pos h];omega
 ·rw[if_neg h];split <;> omega
theorem abN {A C:Int}(hA:0≤A)(hC:0≤C)(hle:C≤A)(hL:(enc D A).length≤1099511627775):∀ (d i:Nat) (out:List Int) (c:Int),i+d=(enc D A).length→out.length=i→0≤c→c≤1→Dig D out →
  val D out-pw D i*c=val D ((enc D A).take i)-val D ((enc D C).take i)→Ev (fun k=>di.l0 k (enc D A) (enc D C) out c (i:Int)) (enc D (A-C)):=by
 intro d
 induction d with
 | zero =>
  intro i out c hi hx h0 h1 hd hv
  have hvb:C<pw D (enc D A).length:=by
   have:=kM nS (fO D1 A);rw[fB D1 hA]at this
   omega
  have hcl:=mf D1 hvb
  obtain rfl:i=(enc D A).length:=by omega
  rw[List.take_length,List.take_of_length_le hcl,fB D1 hA,fB D1 hC]at hv;have hlt:=kM nS hd;rw[hx]at hlt
  have hc:c=0:=by
   rcases (show c=0∨c=1 by omega) with h|h
   ·exact h
   ·rw[h,Int.mul_one]at hv;omega
  rw[hc,Int.mul_zero,Int.sub_zero]at hv;refine Ev.step (f:=fun k=>(aW.f k out).bind fun t=>some t) (fun k=>?_) (Ev.bind (by rw[← hv];exact Dj hd (by omega)) (Ev.now _));simp only[di.l0];rw[if_neg (by omega)]
 | succ d ih =>
  intro i out c hi hx h0 h1 hd hv
  have hw:ae (wrap64 ((i:Int)+1)=((i+1:Nat):Int)):=⟨by rw[w64 (by omega) (by omega)];omega⟩
  have hq2:i+1+d=(enc D A).length:=by omega
  have ga:=(fO D1 A).get nS i;have gc:=(fO D1 C).get nS i;have ga1:=ga.2;have gc1:=gc.2
  have step:∀ lo hi:Int,0≤lo→lo<D→0≤hi→hi≤1→lo-D*hi=(enc D A).getD i 0-(enc D C).getD i 0-c→Ev (fun k=>di.l0 k (enc D A) (enc D C) (out ++ [lo]) hi ((i+1:Nat):Int)) (enc D (A-C)):=fun lo hi l0 l1 h0 h1 hs=>by
   refine ih (i+1) (out ++ [lo]) hi hq2 (by simp[hx]) h0 h1 (hd.append (Dig.cons l0 l1 (Dig.nil D))) ?_;rw[mO,eF D (enc D A),eF D (enc D C),eU,hx];simp only[jh,mX,Int.mul_zero,Int.add_zero];exact Xd hs hv
  have hd1:ae (wrap64 (wrap64 ((enc D A).getD i 0-(enc D C).getD i 0)-c)=(enc D A).getD i 0-(enc D C).getD i 0-c):=⟨by
   rw[vY]at ga1 gc1;rw[vY]at *
   rw[w64 (x:=(enc 16777216 A).getD i 0-(enc 16777216 C).getD i 0) (by omega) (by omega),w64 (by omega) (by omega)]⟩
  by_cases hn:(enc D A).getD i 0-(enc D C).getD i 0-c<0
  ·have hd2:ae (wrap64 ((enc D A).getD i 0-(enc D C).getD i 0-c+16777216)=(enc D A).getD i 0-(enc D C).getD i 0-c+D):=⟨by
    rw[vY]at *
    rw[w64 (by omega) (by omega)]⟩
   refine Ev.step (f:=fun k=>di.l0 k (enc D A) (enc D C) (out ++ [(enc D A).getD i 0-(enc D C).getD i 0-c+D]) 1 ((i+1:Nat):Int)) (fun k=>?_) (step _ 1 (by omega) (by omega) (by omega) (by omega) (by omega));simp only[di.l0];rw[hw.out,if_pos (by omega),if_pos (by omega),qi,eP];simp only[Option.bind_some];rw[hd1.out,if_pos hn,hd2.out,if_pos (by omega)]
  ·refine Ev.step (f:=fun k=>di.l0 k (enc D A) (enc D C) (out ++ [(enc D A).getD i 0-(enc D C).getD i 0-c]) 0 ((i+1:Nat):Int)) (fun k=>?_) (step _ 0 (by omega) (by omega) (by omega) (by omega) (by omega))
   simp only[di.l0];rw[hw.out,if_pos (by omega),if_pos (by omega),qi,eP];simp only[Option.bind_some];rw[hd1.out,if_neg hn,if_pos (by omega)]
theorem abU {A C:Int}(hA:0≤A)(hC:0≤C)(hle:C≤A)(hL:(enc D A).length≤1099511627775):Ev (fun k=>di.f k (enc D A) (enc D C)) (enc D (A-C)) :=
 abN hA hC hle hL (enc D A).length 0 [] 0 (by omega) rfl (by omega) (by omega) (Dig.nil D) (by simp[mX,iU])
theorem yN (i:Nat):0<pw 10 i:=jQ (by decide) i
theorem Uh (i:Nat):pw 10 i<pw D (i+1):=by
 induction i with
 | zero=>rw[iU,eU,iU,Int.one_mul];exact D1
 | succ i ih =>
  rw[eU,eU D];have h1:=jQ nS (i+1);have h2:pw 10 i*10≤pw D (i+1)*10:=Int.mul_le_mul_of_nonneg_right (Int.le_of_lt ih) (by decide);have h3:pw D (i+1)*10<pw D (i+1)*D:=Int.mul_lt_mul_of_pos_left (by rw[vY];decide) h1
  omega
theorem Oi (i:Nat):pw 10 i<pw B (i+1):=by
 induction i with
 | zero=>rw[iU,eU,iU,Int.one_mul];exact B1
 | succ i ih =>
  rw[eU,eU B];have h1:=jQ jm (i+1);have h2:pw 10 i*10≤pw B (i+1)*10:=Int.mul_le_mul_of_nonneg_right (Int.le_of_lt ih) (by decide);have h3:pw B (i+1)*10<pw B (i+1)*B:=Int.mul_lt_mul_of_pos_left (by rw[ug];decide) h1
  omega
theorem Hu (b x:Int):val b [x]=x:=by rw[jh,mX];omega
theorem GK {b x:Int}(h0:0≤x)(h1:x<b):Dig b [x]:=Dig.cons h0 h1 (Dig.nil b)
theorem Uf:∀ (n i:Nat),n+i≤1099511627774→Ev (fun k=>iI.l1 k (n:Int) (enc B (pw 10 i))) (enc B (pw 10 (n+i)),none):=by
 intro n
 induction n with
 | zero =>
  intro i _;rw[Nat.zero_add];refine Ev.step (f:=fun _=>some (enc B (pw 10 i),none)) (fun k=>?_) (Ev.now _);simp only[iI.l1];rw[if_neg (by omega)]
 | succ n ih =>
  intro i h
  have hw:ae (wrap64 (((n+1:Nat):Int)-1)=(n:Int)):=⟨by rw[w64 (by omega) (by omega)];omega⟩
  have hl:=mf B1 (Oi i);have ht:=BM (fO B1 (pw 10 i)) (GK (b:=B) (x:=10) (by decide) (by rw[ug];decide)) (by simp;omega);rw[fB B1 (Int.le_of_lt (yN i)),Hu, ← eU]at ht;refine Ev.step (f:=fun k=>(dI.f k (enc B (pw 10 i)) [10]).bind fun t=>iI.l1 k (n:Int) t) (fun k=>?_) (Ev.bind ht (by rw[show n+1+i=n+(i+1) by omega];exact ih (i+1) (by omega)));simp only[iI.l1];rw[if_pos (by omega),hw.out]
theorem GL:pw 10 19=10000000000000000000:=by rw[ui];decide
theorem abT:∀ (m n i:Nat),n≤m→n+i≤1099511627774→Ev (fun k=>iI.l0 k (n:Int) (enc B (pw 10 i))) (enc B (pw 10 (n+i)),none):=by
 intro m
 induction m with
 | zero =>
  intro n i hm h;refine Ev.step (f:=fun k=>iI.l1 k (n:Int) (enc B (pw 10 i))) (fun k=>?_) (Uf n i h);simp only[iI.l0];rw[if_neg (by omega)]
 | succ m ih =>
  intro n i hm h
  by_cases h19:19≤n
  ·have hw:ae (wrap64 ((n:Int)-19)=((n-19:Nat):Int)):=⟨by rw[w64 (by omega) (by omega)];omega⟩
   have hl:=mf B1 (Oi i);have ht:=BM (fO B1 (pw 10 i)) (GK (b:=B) (x:=10000000000000000000) (by decide) (by rw[ug];decide)) (by simp;omega);rw[fB B1 (Int.le_of_lt (yN i)),Hu, ← GL, ← qG,GL]at ht;refine Ev.step (f:=fun k=>(dI.f k (enc B (pw 10 i)) [10000000000000000000]).bind fun t=>iI.l0 k ((n-19:Nat):Int) t) (fun k=>?_) (Ev.bind ht (by rw[show n+i=(n-19)+(i+19) by omega];exact ih (n-19) (i+19) (by omega) (by omega)));simp only[iI.l0];rw[if_pos (by omega),hw.out]
  ·refine Ev.step (f:=fun k=>iI.l1 k (n:Int) (enc B (pw 10 i))) (fun k=>?_) (Uf n i h)
   simp only[iI.l0];rw[if_neg (by omega)]
theorem TL (n:Nat)(h:n≤16384):Ev (fun k=>iI.f k (n:Int)) (enc B (pw 10 n),none):=by
 have:=abT n n 0 (Nat.le_refl _) (by omega);rw[iU,SY,Nat.add_zero]at this;refine Ev.congr (fun k=>?_) this;unfold iI.f;rw[if_neg (by omega),if_neg (by omega)]
theorem abu (n:Nat)(h:n≤1099511627774):∀ (d i:Nat),i+d=n→Ev (fun k=>dE.l0 k (n:Int) (enc D (pw 10 i)) (i:Int)) (enc D (pw 10 n)):=by
 intro d
 induction d with
 | zero =>
  intro i hi
  obtain rfl:i=n:=by omega
  refine Ev.step (f:=fun _=>some (enc D (pw 10 i))) (fun k=>?_) (Ev.now _);simp only[dE.l0];rw[if_neg (by omega)]
 | succ d ih =>
  intro i hi
  have hw:ae (wrap64 ((i:Int)+1)=((i+1:Nat):Int)):=⟨by rw[w64 (by omega) (by omega)];omega⟩
  refine Ev.step (f:=fun k=>(aJ.f k (enc D (pw 10 i)) 10).bind fun t=>dE.l0 k (n:Int) t ((i+1:Nat):Int)) (fun k=>?_)
   (Ev.bind (vX (Int.le_of_lt (yN i)) (by decide) (by rw[vY];decide) (m:=i+2) (by rw[← eU];exact Uh (i+1)) (by omega)) (by rw[← eU];exact ih (i+1) (by omega)))
  simp only[dE.l0];rw[if_pos (by omega),hw.out]
theorem Xz:enc D 1=[1]:=by rw[oD D1 (by decide),Int.emod_eq_of_lt (by decide) D1,Int.ediv_eq_zero_of_lt (by decide) D1,eQ]
theorem Tv (n:Nat)(h:n≤1099511627774):Ev (fun k=>dE.f k (n:Int)) (enc D (pw 10 n)):=by
 have:=abu n h n 0 (by omega);rw[iU,Xz]at this;exact this
theorem ZB {v:Int}(h0:0≤v)(h1:v<B):Ev (fun k=>uk.f k v) (enc B v):=by
 have:=nV (GK h0 h1) (by simp);rw[Hu]at this;exact Ev.congr (fun k=>rfl) (Ev.bind this (Ev.now _))
def bl (A:Int):Nat:=(enc 2 A).length
theorem aaV:(1:Int)<2:=by decide
theorem xR:bl 0=0:=by unfold bl;rw[eQ];rfl
theorem abh {A:Int}(hA:0≤A)(i:Nat):i<bl A ↔ 0<A / pw 2 i:=qE aaV hA i
theorem CW {A:Int}(h:0<A):bl A=bl (A / 2)+1:=by unfold bl;rw[oD aaV h];rfl
theorem NR {A:Int}(hA:0≤A)(m:Nat)(h:0<A / pw 2 m):bl A=m+bl (A / pw 2 m):=by
 have h1:=BQ aaV hA m;have h2:=(abh hA m).2 h;unfold bl at *;rw[← h1,List.length_drop]
 omega
theorem Py {A:Int}{m:Nat}(h:A<pw 2 m):bl A≤m:=mf aaV h
theorem Xu:∀ (m:Nat) (v:Int) (n:Int),0≤v→bl v≤m→v≤9223372036854775807→0≤n→n+m≤1099511627776000→Ev (fun k=>bn.l0 k n v) (n+bl v):=by
 intro m
 induction m with
 | zero =>
  intro v n h0 h1 h2 h3 h4
  have:v=0:=by
   rcases Int.lt_or_le 0 v with h|h
   ·have:=CW h;omega
   ·omega
  subst this;refine Ev.step (f:=fun _=>some n) (fun k=>?_) (by rw[xR];exact (Int.add_zero n).symm ▸ Ev.now _);simp only[bn.l0];rw[if_neg (by omega)]
 | succ m ih =>
  intro v n h0 h1 h2 h3 h4
  by_cases h:0<v
  ·have hb:=CW h
   have key:=ih (v / 2) (n+1) (by omega) (by omega) (by omega) (by omega) (by omega);refine Ev.step (f:=fun k=>bn.l0 k (n+1) (v / 2)) (fun k=>?_) (by rw[hb,show n+((bl (v / 2)+1:Nat):Int)=n+1+(bl (v / 2):Int) by omega];exact key);simp only[bn.l0];rw[if_pos (by omega),w64 (x:=n+1) (by omega) (by omega),Int.tdiv_eq_ediv_of_nonneg h0,w64 (by omega) (by omega)]
  ·obtain rfl:v=0:=by omega
   refine Ev.step (f:=fun _=>some n) (fun k=>?_) (by rw[xR];exact (Int.add_zero n).symm ▸ Ev.now _);simp only[bn.l0];rw[if_neg (by omega)]
theorem yR {A b:Int}(hb:1<b)(hA:0<A):∃ n,(enc b A).length=n+1∧(enc b A).getD n 0=A / pw b n∧0<A / pw b n∧A / pw b n<b:=by
 have h0:=(qE hb (Int.le_of_lt hA) 0).2 (by rw[fH];exact hA)
 obtain⟨n,hn⟩:∃ n,(enc b A).length=n+1:=⟨(enc b A).length-1,by omega⟩
 have h1:=(qE hb (Int.le_of_lt hA) n).1 (by omega)
 have h2:A / pw b n<b:=by
  have h3:=kM (by omega) (fO hb A);rw[fB hb (Int.le_of_lt hA),hn,eU,Int.mul_comm]at h3;exact Int.ediv_lt_of_lt_mul (jQ (by omega) n) h3
 exact⟨n,hn,by rw[jA hb (Int.le_of_lt hA),Int.emod_eq_of_lt (by omega) h2],h1,h2⟩
theorem GG {A:Int}(hA:0≤A)(hL:(enc D A).length≤1099511627776):Ev (fun k=>bn.f k (enc D A)) ((bl A:Nat):Int):=by
 by_cases h:0<A
 ·obtain⟨n,hn,hg,h1,h2⟩:=yR D1 h
  have hw:ae (wrap64 (((enc D A).length:Int)-1)=(n:Int)):=⟨by rw[w64 (by omega) (by omega)];omega⟩
  have e:(bl A:Int)=((24*n:Nat):Int)+(bl (A / pw D n):Int):=by
   have:=NR hA (24*n) (by rw[← pwD];exact h1);rw[← pwD]at this
   omega
  have hbl:bl (A / pw D n)≤24:=Py (by rw[Jz];exact h2);refine Ev.congr (f:=fun k=>bn.l0 k ((24*n:Nat):Int) (A / pw D n)) (fun k=>?_) (by rw[e];exact Xu 24 _ _ (Int.le_of_lt h1) hbl (by rw[vY]at h2 ⊢;omega) (by omega) (by omega));unfold bn.f;rw[if_neg (by omega),hw.out,if_pos (by omega),if_pos (by omega),eP,hg,w64 (by omega) (by omega)]
  rfl
 ·obtain rfl:A=0:=by omega
  refine Ev.congr (f:=fun _=>some 0) (fun k=>?_) (by rw[xR];exact Ev.now _);rw[eQ];unfold bn.f;rw[if_pos (by simp)]
def blN:Nat→Nat→Nat
 | 0,_=>0
 | k+1,v=>if v=0 then 0 else blN k (v / 2)+1
def len8:ByteArray:=⟨#[0,1,2,2,3,3,3,3,4,4,4,4,4,4,4,4,5,5,5,5,5,5,5,5,5,5,5,5,5,5,5,5,6,6,6,6,6,6,6,6,6,6,6,6,6,6,6,6,6,6,6,6,6,6,6,6,6,6,6,6,6,6,6,6,7,7,7,7,7,7,7,7,7,7,7,7,7,7,7,7,7,7,7,7,7,7,7,7,7,7,7,7,7,7,7,7,7,7,7,7,7,7,7,7,7,7,7,7,7,7,7,7,7,7,7,7,7,7,7,7,7,7,7,7,7,7,7,7,8,8,8,8,8,8,8,8,8,8,8,8,8,8,8,8,8,8,8,8,8,8,8,8,8,8,8,8,8,8,8,8,8,8,8,8,8,8,8,8,8,8,8,8,8,8,8,8,8,8,8,8,8,8,8,8,8,8,8,8,8,8,8,8,8,8,8,8,8,8,8,8,8,8,8,8,8,8,8,8,8,8,8,8,8,8,8,8,8,8,8,8,8,8,8,8,8,8,8,8,8,8,8,8,8,8,8,8,8,8,8,8,8,8,8,8,8,8,8,8,8,8,8,8,8,8,8,8]⟩
attribute [local irreducible] len8
theorem JJ:∀ (k x:Nat),k≤64→x<2 ^ k→Lib.bitLen x=bl (x:Int)
 | 0,x,_,h=>by
  have:x=0:=by rw[Nat.pow_zero]at h;omega
  subst this;show Lib.bitLen 0=bl 0;rw[xR];rfl
 | k+1,x,hk,h=>by
  by_cases h0:x=0
  ·subst h0
   show Lib.bitLen 0=bl 0;rw[xR];rfl
  ·have h64:x<2 ^ 64:=Nat.lt_of_lt_of_le h (Nat.pow_le_pow_right (by omega) hk)
   rw[Lib.bitLen_half x h0 h64,CW (by omega),JJ k (x / 2) (by omega) (by rw[Nat.pow_succ]at h;omega),Nat.add_comm]
   congr 1
theorem NG {x:Int}(h0:0≤x)(h1:x<B):Ev (fun k=>bits_Len64.f k x) (bl x:Int):=by
 rw[ug]at h1;refine⟨0,fun k _=>?_⟩;unfold bits_Len64.f;rw[if_pos (by omega)];obtain⟨v,rfl⟩:=Int.eq_ofNat_of_zero_le h0;rw[Int.toNat_natCast,JJ 64 v (Nat.le_refl _) (by omega)]
theorem Gw {a:List Int}(ha:Dig B a)(hL:a.length≤1099511627776):Ev (fun k=>oZ.f k a) ((bl (val B a):Nat):Int):=by
 have hA:=fC jm ha;have la:=nI B1 ha;refine Ev.congr (fun k=>rfl) (Ev.bind (nV ha hL) ?_)
 by_cases h:0<val B a
 ·obtain⟨n,hn,hg,h1,h2⟩:=yR B1 h
  have hw:ae (wrap64 (((enc B (val B a)).length:Int)-1)=(n:Int)):=⟨by rw[w64 (by omega) (by omega)];omega⟩
  have e:(bl (val B a):Int)=((64*n:Nat):Int)+(bl (val B a / pw B n):Int):=by
   have:=NR hA (64*n) (by rw[← pwB];exact h1);rw[← pwB]at this
   omega
  have hbl:bl (val B a / pw B n)≤64:=Py (by rw[CP];exact h2);refine Ev.congr (f:=fun k=>(bits_Len64.f k (val B a / pw B n)).bind fun t=>some (wrap64 (wrap64 (64*(n:Int))+t))) (fun k=>?_) (Ev.bind (NG (Int.le_of_lt h1) h2) ?_)
  ·rw[if_neg (by omega),hw.out,if_pos (by omega),if_pos (by omega),eP,hg]
  ·rw[w64 (x:=64*(n:Int)) (by omega) (by omega),w64 (by omega) (by omega),e,show ((64*n:Nat):Int)=64*(n:Int) by omega]
   exact Ev.now _
 ·have h0:val B a=0:=by omega
  refine Ev.congr (f:=fun _=>some 0) (fun k=>?_) (by rw[h0,xR];exact Ev.now _);rw[h0,eQ,if_pos (by simp)]
end Go.Proofs.Yy.PTx
end
