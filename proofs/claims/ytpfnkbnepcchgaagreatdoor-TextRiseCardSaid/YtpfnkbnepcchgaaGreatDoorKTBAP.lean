/- Part 16 of what the proof needs. -/
import Derived.Test.YtpfnkbnepcchgaaGreatDoorKTBAK
import Derived.Test.YtpfnkbnepcchgaaGreatDoorKTBAO
set_option linter.unusedSimpArgs false
set_option linter.unusedVariables false
section
set_option maxHeartbeats 8000000
set_option maxRecDepth 100000
namespace Go.Proofs.Yy.PTx
open Go.RowKit Go.Proofs.Yy.Z Go.Proofs.Yw.PrintWords Go.Proofs.Yw.PrintLast Go.Proofs.Yw.PrintMore
open Go.Proofs.Yy.M
attribute [local go_sem] runx_add64 runx_sub64 eql_cc eql_nc neq_cc neq_nc
attribute [local go_sem] max2_int min2_int max_two min_two max_three min_three max_four min_four
def nat_fused.f (a0:Int) (a1:Int) (a2:Int) (a3:Int):Option (Int × Int):=(bits_Mul64.f a0 a1).bind fun bt197=>(some (add64Lo (add64Lo bt197.2 a2 0) a3 0,IntKind.u64.wrap ((IntKind.u64.wrap (bt197.1+(add64Hi bt197.2 a2 0)))+(add64Hi (add64Lo bt197.2 a2 0) a3 0))))
theorem nat_fused.calls (a0:Int) (a1:Int) (a2:Int) (a3:Int) (r1:Int) (r2:Int) (w:World) (h:nat_fused.f a0 a1 a2 a3=some (r1,r2)) :
    Calls Tryz.prog 166 #[.int .u64 a0, .int .u64 a1, .int .u64 a2, .int .u64 a3] w fun e w'=>e = .returned (.tuple #[.int .u64 r1, .int .u64 r2])∧Drawn0 w w':=by
 have H:=am h
 unfold nat_fused.f at H
 clear h
 replace H:=zo H
 obtain ⟨⟨t197,t198⟩,A5,H⟩:=H
 try dsimp only at H
 obtain ⟨rfl,rfl⟩:=zJ2 H
 go_enter Tryz.func166,Tryz.ntmps166
 go_wp2_with (first|((with_reducible refine gate_callee (f:=178) rfl ?_);refine zc (some 14) Tryz.func178 _ (bits_Mul64.calls _ _ _ _ _ A5.out) ?_;rintro e w' ⟨rfl,⟨nd,rfl⟩⟩;refine ⟨_,rfl,?_⟩)|((with_reducible refine gate_callee (f:=191) rfl ?_);refine goesX_ (some 20) rfl rfl #[.int .u64 t198, .int .u64 a2, .int .u64 0] _ rfl (by (try simp only [List.map_toArray,List.map_cons,List.map_nil]);rfl) (fun w_=>runx_add64 t198 a2 0 (by first|decide|(with_reducible assumption)|exact zD) w_) ?_)|((with_reducible refine gate_callee (f:=191) rfl ?_);refine goesX_ (some 29) rfl rfl #[.int .u64 (add64Lo t198 a2 0), .int .u64 a3, .int .u64 0] _ rfl (by (try simp only [List.map_toArray,List.map_cons,List.map_nil]);rfl) (fun w_=>runx_add64 (add64Lo t198 a2 0) a3 0 (by first|decide|(with_reducible assumption)|exact zD) w_) ?_))
 go_ret2
 exact ⟨z1,z4⟩
mutual
def nat_times.l0:Nat→List Int→List Int→List Int→Int→Int→Option (List Int)
  | 0,_,_,_,_,_=>none
  | k+1,x1,x5,x17,x18,x19=>if x19<x18 then (if 0≤x19 then (if x19<(x17.length:Int) then (nat_times.l1 k x1 x5 x19 (rd x17 x19) 0 x17 x18 x19 x1 (x1.length:Int) 0) else (none)) else (none)) else ((nat_trim.f k x5).bind fun t202=>(some t202))
def nat_times.l1:Nat→List Int→List Int→Int→Int→Int→List Int→Int→Int→List Int→Int→Int→Option (List Int)
  | 0,_,_,_,_,_,_,_,_,_,_,_=>none
  | k+1,x1,x5,x6,x7,x8,x17,x18,x19,x24,x25,x26=>if x26<x25 then (if 0≤x26 then (if x26<(x24.length:Int) then (if 0≤(wrap64 (x6+x26)) then (if (wrap64 (x6+x26))<(x5.length:Int) then ((nat_fused.f x7 (rd x24 x26) (rd x5 (wrap64 (x6+x26))) x8).bind fun bt208=>(nat_times.l1 k x1 (x5.set ((wrap64 (x6+x26)):Int).toNat bt208.1) x6 x7 bt208.2 x17 x18 x19 x24 x25 (wrap64 (x26+1)))) else (none)) else (none)) else (none)) else (none)) else (if 0≤(wrap64 (x6+(x1.length:Int))) then (if (wrap64 (x6+(x1.length:Int)))<(x5.length:Int) then (nat_times.l0 k x1 (x5.set ((wrap64 (x6+(x1.length:Int))):Int).toNat x8) x17 x18 (wrap64 (x19+1))) else (none)) else (none))
end
def nat_times.f (k:Nat) (l0:List Int) (l1:List Int):Option (List Int):=if 0≤(wrap64 ((l0.length:Int)+(l1.length:Int))) then (if (wrap64 ((l0.length:Int)+(l1.length:Int)):Int).toNat≤35184372088832 then (nat_times.l0 k l1 (List.replicate (wrap64 ((l0.length:Int)+(l1.length:Int)):Int).toNat 0) l0 (l0.length:Int) 0) else (none)) else (none)
theorem nat_times.mono_l:∀ k,(∀ y0 y1 y2 y3 y4,LeO (nat_times.l0 k y0 y1 y2 y3 y4) (nat_times.l0 (k+1) y0 y1 y2 y3 y4))∧(∀ y0 y1 y2 y3 y4 y5 y6 y7 y8 y9 y10,LeO (nat_times.l1 k y0 y1 y2 y3 y4 y5 y6 y7 y8 y9 y10) (nat_times.l1 (k+1) y0 y1 y2 y3 y4 y5 y6 y7 y8 y9 y10))
  | 0=>⟨fun _ _ _ _ _ r h=>by simp [nat_times.l0] at h,fun _ _ _ _ _ _ _ _ _ _ _ r h=>by simp [nat_times.l1] at h⟩
  | k+1=>by
    obtain ⟨ih0,ih1⟩:=nat_times.mono_l k
    refine ⟨?_,?_⟩
    · intro y0 y1 y2 y3 y4
      unfold nat_times.l0
      repeat' (with_reducible first|exact ih0 _ _ _ _ _|exact ih1 _ _ _ _ _ _ _ _ _ _ _|exact nat_trim.mono _ _|exact zm|exact zv|refine zI ?_ ?_|refine zO ?_ fun _=>?_)
    · intro y0 y1 y2 y3 y4 y5 y6 y7 y8 y9 y10
      unfold nat_times.l1
      repeat' (with_reducible first|exact ih0 _ _ _ _ _|exact ih1 _ _ _ _ _ _ _ _ _ _ _|exact nat_trim.mono _ _|exact zm|exact zv|refine zI ?_ ?_|refine zO ?_ fun _=>?_)
theorem nat_times.mono:∀ a0 a1 k,LeO (nat_times.f k a0 a1) (nat_times.f (k+1) a0 a1):=by
  intro a0 a1 k
  obtain ⟨ih0,ih1⟩:=nat_times.mono_l k
  unfold nat_times.f
  repeat' (with_reducible first|exact ih0 _ _ _ _ _|exact ih1 _ _ _ _ _ _ _ _ _ _ _|exact nat_trim.mono _ _|exact zm|exact zv|refine zI ?_ ?_|refine zO ?_ fun _=>?_)
theorem nat_times.calls (k:Nat) (A0:Option Addr) (c0:Nat) (l0:List Int) (A1:Option Addr) (c1:Nat) (l1:List Int) (r:List Int) (w:World) (hr0:Kd.C (Kd.int .u64) w A0 l0.length l0) (hc0:l0.length≤c0) (hr1:Kd.C (Kd.int .u64) w A1 l1.length l1) (hc1:l1.length≤c1) (h:nat_times.f k l0 l1=some r) :
    Calls Tryz.prog 107 #[.slice A0 l0.length c0, .slice A1 l1.length c1] w fun e w' => ∃ v0_:Value,e = .returned (v0_)∧Kd.V (Kd.int .u64) 25 w' w.heap.size (fun k_=>(w.heap.size≤k_)) v0_ r∧Below w.heap.size w w':=by
 have HR0:=am hr0
 have HC0:=am hc0
 clear hr0 hc0
 have HR1:=am hr1
 have HC1:=am hc1
 clear hr1 hc1
 have HB:=am (Below.refl w.heap.size w)
 have H:=am h
 unfold nat_times.f at H
 clear h
 generalize hji3:(wrap64 ((l0.length:Int)+(l1.length:Int)):Int)=ji3 at H
 have hji3w:(IntKind.i64.wrap ((l0.length:Int)+(l1.length:Int)))=ji3:=(i64_w _).trans hji3
 replace H:=zit H
 obtain ⟨c4b0,c4b1,H⟩:=H
 replace H:=zit H
 obtain ⟨c5b0,c5b1,H⟩:=H
 generalize hy199:(List.replicate (ji3:Int).toNat 0:List Int)=y199 at H
 have Ny199:=zY hy199
 clear hy199
 go_enter Tryz.func107,Tryz.ntmps107
 go_wp2_with (first|((with_reducible refine gate_dst (N:=16) rfl ?_);refine Kd.R_make (Kd.int .u64) _ 25 rfl (N:=16) rfl 88 _ _ rfl ji3 (by first|rfl|(simp only [List.length_drop,List.length_take];rfl)) (by first|rfl|(simp only [List.length_drop,List.length_take];rfl)) Tryz.underlying88 (.int .u64 0) 8 info25 rfl (by decide) (by omega) 0 (ok:=fun _=>True) (okp:=fun _=>True) rfl (fun _ hk=>hk) trivial (zD) (Nat.le_trans (Nat.mul_le_mul_right _ (zD:ji3.toNat≤35184372088832)) (by omega)) (Below.refl _ _) (Nat.le_refl _) ?_;intro v200 w6 ho7 hb hg_ hnew_;clear hg_ hnew_;(first|rw [← Ny199.out] at ho7|(simp only [Int.reduceToNat] at ho7;rw [← Ny199.out] at ho7));have HO201:=am (Kd.R_lower (Kd.R_newM (M:=fun k_=>(w.heap.size≤k_)) ho7 (zS HB) (fun k_ h_=>h_)) (zS HB));replace HB:=zBs HB hb;clear hb ho7))
 go_loopg [19] k (fun kq v19 w' => ∃ (x5_1:List Int) (x19_1:Int),v19 = .int .i64 x19_1∧Aside0 (nat_times.l0 kq l1 x5_1 l0 (l0.length:Int) x19_1=some r)∧Aside0 (kq≤k)∧Aside0 (Kd.R (Kd.int .u64) 25 w' w.heap.size (fun k_=>(w.heap.size≤k_)) v200 x5_1)∧Aside0 (Below w.heap.size w w'))
 case atStart=>exact ⟨(y199),(0),z1,H,zL,⟨by (with_reducible repeat (first|apply Kd.R_alloc|apply Kd.R_drewN|apply Kd.R_drew));exact Kd.R_mono HO201.out (fun _ hk=>hk.1)⟩,⟨zB HB⟩⟩
 clear H
 obtain ⟨x5_1,x19_1,rfl,H,HK1,HO_5,HB⟩:=hrel
 obtain _|k1:=gk
 ·exact zz H rfl
 simp only [nat_times.l0] at H
 replace H:=zsd H
 rcases H with ⟨c8b0,H⟩|⟨c8b0,H⟩
 replace H:=zid H
 obtain ⟨c9b0,H⟩:=H
 replace H:=zid H
 obtain ⟨c10b0,H⟩:=H
 have p205:0≤(x19_1:Int):=zD
 have q205:x19_1<(l0.length:Int):=zD
 obtain ⟨ad205,e205,hx205_0⟩:=Kd.at_int HR0.out x19_1 p205 q205
 cases e205
 replace hx205_0:=(HB.out.cell (World.block_lt_of_cell? w _ hx205_0)).trans hx205_0
 replace p205:=eq_true p205
 replace q205:=eq_true q205
 rotate_left
 replace H:=zo H
 obtain ⟨t202,A28,H⟩:=H
 obtain rfl:=Option.some.inj H.out
 obtain ⟨Ao29,co29,eo29⟩:=Kd.R_slice HO_5.out
 subst eo29
 rotate_left
 all_goals (go_wp2_with (first|((with_reducible refine gate_callee (f:=103) rfl ?_);refine zc (some 59) Tryz.func103 #[.slice Ao29 x5_1.length co29] (nat_trim.calls _ (fun k_=>some k_=(.slice Ao29 x5_1.length co29:Value).ownBlock) _ _ _ _ _ (Kd.R_V (Kd.R_tight rfl (HO_5.out))) A28.out) ?_;rintro e w30 ⟨v203,rfl,ho0,hb⟩;refine ⟨_,rfl,?_⟩;have HO204:=am (Kd.V_lower (Kd.V_mono (ok':=fun k_=>(w.heap.size≤k_)) ho0 (fun k_ hk_=>Or.elim hk_ (fun hs_=>((HO_5.out).1 k_ hs_.symm)) (fun hn_=>(Nat.le_trans (zS HB) hn_)))) (zS HB));replace HO_5:=zRb HO_5 hb;replace HB:=zBs HB hb;clear hb ho0)))
 ·go_loopg [8,26] k1 (fun kq v8 v26 w' => ∃ (x5_2:List Int) (x8_2:Int) (x26_2:Int),v8 = .int .u64 x8_2∧v26 = .int .i64 x26_2∧Aside0 (nat_times.l1 kq l1 x5_2 x19_1 (rd l0 x19_1) x8_2 l0 (l0.length:Int) x19_1 l1 (l1.length:Int) x26_2=some r)∧Aside0 (kq≤k1)∧Aside0 (Kd.R (Kd.int .u64) 25 w' w.heap.size (fun k_=>(w.heap.size≤k_)) v200 x5_2)∧Aside0 (Below w.heap.size w w'))
  case atStart=>exact ⟨(x5_1),(0),(0),z1,z1,H,zL,⟨zR HO_5⟩,⟨zB HB⟩⟩
  clear H
  try clear hx2
  try clear hx205_0
  obtain ⟨x5_2,x8_2,x26_2,rfl,rfl,H,HK2,HO_5,HB⟩:=hrel
  obtain _|k2:=gk
  ·exact zz H rfl
  simp only [nat_times.l1] at H
  replace H:=zsd H
  rcases H with ⟨c11b0,H⟩|⟨c11b0,H⟩
  replace H:=zid H
  obtain ⟨c12b0,H⟩:=H
  replace H:=zid H
  obtain ⟨c13b0,H⟩:=H
  generalize hji14:(wrap64 (x19_1+x26_2):Int)=ji14 at H
  have hji14w:(IntKind.i64.wrap (x19_1+x26_2))=ji14:=(i64_w _).trans hji14
  replace H:=zid H
  obtain ⟨c15b0,H⟩:=H
  replace H:=zid H
  obtain ⟨c16b0,H⟩:=H
  replace H:=zo H
  obtain ⟨⟨t208,t209⟩,A17,H⟩:=H
  try dsimp only at H
  generalize hy210:(x5_2.set ((ji14):Int).toNat t208:List Int)=y210 at H
  have Ny210:=zY hy210
  clear hy210
  have p206:0≤(x26_2:Int):=zD
  have q206:x26_2<(l1.length:Int):=zD
  obtain ⟨ad206,e206,hx206_0⟩:=Kd.at_int HR1.out x26_2 p206 q206
  cases e206
  replace hx206_0:=(HB.out.cell (World.block_lt_of_cell? w _ hx206_0)).trans hx206_0
  replace p206:=eq_true p206
  replace q206:=eq_true q206
  obtain ⟨Ao19,co19,eo19⟩:=Kd.R_slice HO_5.out
  subst eo19
  obtain ⟨p207,q207,ad207,rfl,hx207_0⟩:=zA (Kd.at_int (Kd.R_reads' HO_5.out).2.2 (ji14))
  rotate_left
  generalize hji22:(wrap64 (x19_1+(l1.length:Int)):Int)=ji22 at H
  have hji22w:(IntKind.i64.wrap (x19_1+(l1.length:Int)))=ji22:=(i64_w _).trans hji22
  replace H:=zid H
  obtain ⟨c23b0,H⟩:=H
  replace H:=zid H
  obtain ⟨c24b0,H⟩:=H
  generalize hy211:(x5_2.set ((ji22):Int).toNat x8_2:List Int)=y211 at H
  have Ny211:=zY hy211
  clear hy211
  have p25:0≤((ji22):Int):=zD
  have q25:((ji22):Int)<((x5_2.length:Int):Int):=zD
  obtain ⟨go25,co25,eo25,gb25,gl25,cl25,HG25⟩:=Kd.R_form HO_5.out (by omega)
  (first|cases eo25|(injection eo25 with ea_ en_ ec_;(first|subst ea_|(injection ea_ with ea_;subst ea_));subst ec_;clear en_))
  have GB25:=am gb25
  have GG25:=am HG25
  clear gb25 gl25 HG25
  obtain ⟨hx25_0,hf25_0⟩:=Kd.R_celln 0 HO_5.out ((ji22):Int) p25 q25
  replace p25:=eq_true p25
  replace q25:=eq_true q25
  have HP26:=Kd.R_putg HO_5.out ((ji22):Int) x8_2
  rotate_left
  all_goals (go_wp2_with (first|((with_reducible refine gate_callee (f:=166) rfl ?_);refine goesL_ (some 45) rfl rfl Tryz.func166 (by kernel_rfl) rfl #[.int .u64 (rd l0 x19_1), .int .u64 (rd l1 x26_2), .int .u64 (rd x5_2 (ji14)), .int .u64 x8_2] rfl (by (try simp only [List.map_toArray,List.map_cons,List.map_nil]);first|done|(simp only [hji14];rfl)|rfl|(simp only [List.length_drop,List.length_take];rfl)) ?_;(with_reducible refine (nat_fused.calls _ _ _ _ _ _ _ A17.out).mono ?_);rintro e w' ⟨rfl,⟨nd,rfl⟩⟩;refine ⟨_,rfl,?_⟩;(try (rw [drewN_self wr];generalize hq_:World.drewN wr _=wr;have n0_:Aside0 (Kd.R (Kd.int .u64) 25 wr w.heap.size (fun k_=>(w.heap.size≤k_)) (.slice (some ad207) x5_2.length co19) x5_2):=⟨by rw [← hq_];exact (zR HO_5)⟩;have n1_:Aside0 (Below w.heap.size w wr):=⟨by rw [← hq_];exact (zB HB)⟩;clear HO_5 HB hq_;have HO_5:=n0_;have HB:=n1_;clear n0_ n1_));have p18:0≤((ji14):Int):=zD;have q18:((ji14):Int)<((x5_2.length:Int):Int):=zD;obtain ⟨go18,co18,eo18,gb18,gl18,cl18,HG18⟩:=Kd.R_form HO_5.out (by omega);(first|cases eo18|(injection eo18 with ea_ en_ ec_;(first|subst ea_|(injection ea_ with ea_;subst ea_));subst ec_;clear en_));have GB18:=am gb18;have GG18:=am HG18;clear gb18 gl18 HG18;(first|simp only [add_plain] at hx207_0|skip);obtain ⟨hx18_0,hf18_0⟩:=Kd.R_celln 0 HO_5.out ((ji14):Int) p18 q18;replace p18:=eq_true p18;replace q18:=eq_true q18;obtain ⟨hy20_,hz20_⟩:=Kd.R_celln 0 HO_5.out ((ji14):Int) (zD) (zD);have HP20:=Kd.R_putg HO_5.out ((ji14):Int) t208)|((with_reducible refine gate_store (t:=25) (p:=48) rfl ?_);refine store_event (t:=25) (p:=48) (v:=?vo_w21) (w1:=(wr.setCell ⟨go18,((ji14):Int).toNat,none⟩ (.int .u64 t208))) ?hg ?ho ?hn ?hr ?_;(case ho=>rfl);(case hg=>rfl);(case hn=>rfl);(case hr=>first|(go_simp;done)|(go_simp;rfl));intro w21 hw;have hg:wr.grownBy w21 (some go18):=(by rw [hw];exact HP20.2);have hp_:Kd.R (Kd.int .u64) 25 w21 w.heap.size (fun k_=>(w.heap.size≤k_)) (.slice (some ⟨go18,0,none⟩) x5_2.length co19) y210:=(by rw [hw,Ny210.out];exact HP20.1);clear HP20;replace HO_5:=am (hp_);replace HB:=am ((by rw [hw];exact below_set (HB.out) GB18.out:Below w.heap.size w w21));clear hg hw hp_)|((with_reducible refine gate_store (t:=25) (p:=56) rfl ?_);refine store_event (t:=25) (p:=56) (v:=?vo_w27) (w1:=(wr.setCell ⟨go25,((ji22):Int).toNat,none⟩ (.int .u64 x8_2))) ?hg ?ho ?hn ?hr ?_;(case ho=>rfl);(case hg=>rfl);(case hn=>rfl);(case hr=>first|(go_simp;done)|(go_simp;rfl));intro w27 hw;have hg:wr.grownBy w27 (some go25):=(by rw [hw];exact HP26.2);have hp_:Kd.R (Kd.int .u64) 25 w27 w.heap.size (fun k_=>(w.heap.size≤k_)) (.slice (some ⟨go25,0,none⟩) x5_2.length co25) y211:=(by rw [hw,Ny211.out];exact HP26.1);clear HP26;replace HO_5:=am (hp_);replace HB:=am ((by rw [hw];exact below_set (HB.out) GB25.out:Below w.heap.size w w27));clear hg hw hp_)))
  ·go_roundg k2
   case measure=>have:=HK1.out;have:=HK2.out;omega
   case rel=>exact ⟨(y210),(t209),(wrap64 (x26_2+1)),z1,z1,H,⟨by have:=HK1.out;have:=HK2.out;omega⟩,⟨zR HO_5⟩,⟨zB HB⟩⟩
  go_roundg k2
  case measure=>have:=HK1.out;have:=HK2.out;omega
  case rel=>exact ⟨(y211),(wrap64 (x19_1+1)),z1,H,⟨by have:=HK1.out;have:=HK2.out;omega⟩,⟨zR HO_5⟩,⟨zB HB⟩⟩
 go_ret
 exact ⟨_,by first|exact z3|(simp only [← hji3];exact z3)|exact z2,zV HO204,zB HB⟩
mutual
def nat_Ten.l0:Nat→Int→List Int→Option (List Int × Option Int)
  | 0,_,_=>none
  | k+1,x0,x4=>if x0 ≥ 19 then ((nat_times.f k x4 (([10000000000000000000]:List Int))).bind fun t218=>(nat_Ten.l0 k (wrap64 (x0 - 19)) t218)) else (nat_Ten.l1 k x0 x4)
def nat_Ten.l1:Nat→Int→List Int→Option (List Int × Option Int)
  | 0,_,_=>none
  | k+1,x0,x4=>if x0 > 0 then ((nat_times.f k x4 (([10]:List Int))).bind fun t224=>(nat_Ten.l1 k (wrap64 (x0 - 1)) t224)) else (some (x4,none))
end
def nat_Ten.f (k:Nat) (a0:Int):Option (List Int × Option Int):=if a0<0 then (some (([]:List Int),some 1)) else (if a0 > 16384 then (some (([]:List Int),some 3)) else (nat_Ten.l0 k a0 (([1]:List Int))))
theorem nat_Ten.mono_l:∀ k,(∀ y0 y1,LeO (nat_Ten.l0 k y0 y1) (nat_Ten.l0 (k+1) y0 y1))∧(∀ y0 y1,LeO (nat_Ten.l1 k y0 y1) (nat_Ten.l1 (k+1) y0 y1))
  | 0=>⟨fun _ _ r h=>by simp [nat_Ten.l0] at h,fun _ _ r h=>by simp [nat_Ten.l1] at h⟩
  | k+1=>by
    obtain ⟨ih0,ih1⟩:=nat_Ten.mono_l k
    refine ⟨?_,?_⟩
    · intro y0 y1
      unfold nat_Ten.l0
      repeat' (with_reducible first|exact ih0 _ _|exact ih1 _ _|exact nat_times.mono _ _ _|exact zm|exact zv|refine zI ?_ ?_|refine zO ?_ fun _=>?_)
    · intro y0 y1
      unfold nat_Ten.l1
      repeat' (with_reducible first|exact ih0 _ _|exact ih1 _ _|exact nat_times.mono _ _ _|exact zm|exact zv|refine zI ?_ ?_|refine zO ?_ fun _=>?_)
theorem nat_Ten.mono:∀ a0 k,LeO (nat_Ten.f k a0) (nat_Ten.f (k+1) a0):=by
  intro a0 k
  obtain ⟨ih0,ih1⟩:=nat_Ten.mono_l k
  unfold nat_Ten.f
  repeat' (with_reducible first|exact ih0 _ _|exact ih1 _ _|exact nat_times.mono _ _ _|exact zm|exact zv|refine zI ?_ ?_|refine zO ?_ fun _=>?_)
theorem nat_Ten.calls (k:Nat) (a0:Int) (r1:List Int) (r2:Option Int) (w:World) (h:nat_Ten.f k a0=some (r1,r2)) :
    Calls Tryz.prog 51 #[.int .i64 a0] w fun e w' => ∃ v0_:Value,e = .returned (.tuple #[v0_,errW r2])∧Kd.V (Kd.int .u64) 25 w' w.heap.size (fun k_=>(w.heap.size≤k_)) v0_ r1∧Below w.heap.size w w':=by
 have hu27:=Tryz.underlying27
 have hu64:=Tryz.underlying64
 have HB:=am (Below.refl w.heap.size w)
 have H:=am h
 unfold nat_Ten.f at H
 clear h
 replace H:=zsd H
 rcases H with ⟨c2b0,H⟩|⟨c2b0,H⟩
 obtain ⟨rfl,rfl⟩:=zJ2 H
 rotate_left
 replace H:=zsdg H
 rcases H with ⟨c3b0,H⟩|⟨c3b0,H⟩
 obtain ⟨rfl,rfl⟩:=zJ2 H
 rotate_left
 generalize hy212:(([1]:List Int):List Int)=y212 at H
 have Ny212:=zY hy212
 clear hy212
 rotate_left
 all_goals (go_enter Tryz.func51,Tryz.ntmps51;go_wp2_with (first|((with_reducible refine gate_dst (N:=11) rfl ?_);refine Kd.R_lit (Kd.int .u64) _ 25 ?hg (N:=11) ?hd (xs:=([1]:List Int)) (inner := [.int .u64 1]) (ok:=fun _=>True) (okp:=fun _=>True) ?hr ?hp (fun _ hk=>hk) trivial (Below.refl _ _) (Nat.le_refl _) (by simp) ?_;(case hd=>rfl);(case hg=>rfl);(case hr=>first|(go_simp;done)|(go_simp;rfl));(case hp=>exact (Reps.one (show Kd.M (Kd.int .u64) _ _ _ 1 [.int .u64 1] from rfl) (Reps.none _ _)));intro v213 w4 ho5 hb hg_ hnew_;clear hg_ hnew_;(first|rw [← Ny212.out] at ho5|(simp only [Int.reduceToNat] at ho5;rw [← Ny212.out] at ho5));have HO214:=am (Kd.R_lower (Kd.R_newM (M:=fun k_=>(w.heap.size≤k_)) ho5 (zS HB) (fun k_ h_=>h_)) (zS HB));replace HB:=zBs HB hb;clear hb ho5)))
 rotate_left
 rotate_left
 ·go_loopg [0,4] k (fun kq v0 v4 w' => ∃ (x0_1:Int) (x4_1:List Int),v0 = .int .i64 x0_1∧Aside0 (nat_Ten.l0 kq x0_1 x4_1=some (r1,r2))∧Aside0 (kq≤k)∧Aside0 (Kd.V (Kd.int .u64) 25 w' w.heap.size (fun k_=>(w.heap.size≤k_)) v4 x4_1)∧Aside0 (Below w.heap.size w w'))
  case atStart=>exact ⟨(a0),(y212),z1,H,zL,⟨Kd.R_V (by (with_reducible repeat (first|apply Kd.R_alloc|apply Kd.R_drewN|apply Kd.R_drew));exact Kd.R_mono HO214.out (fun _ hk=>hk.1))⟩,⟨zB HB⟩⟩
  clear H
  obtain ⟨x0_1,x4_1,rfl,H,HK1,HO_4,HB⟩:=hrel
  obtain _|k1:=gk
  ·exact zz H rfl
  simp only [nat_Ten.l0] at H
  replace H:=zsde H
  rcases H with ⟨c6b0,H⟩|⟨c6b0,H⟩
  generalize hy215:(([10000000000000000000]:List Int):List Int)=y215 at H
  have Ny215:=zY hy215
  clear hy215
  replace H:=zo H
  obtain ⟨t218,A7,H⟩:=H
  rotate_left
  rotate_left
  all_goals (go_wp2_with (first|((with_reducible refine gate_dst (N:=17) rfl ?_);refine Kd.R_lit (Kd.int .u64) _ 25 ?hg (N:=17) ?hd (xs:=([10000000000000000000]:List Int)) (inner := [.int .u64 10000000000000000000]) (ok:=fun _=>True) (okp:=fun _=>True) ?hr ?hp (fun _ hk=>hk) trivial (Below.refl _ _) (Nat.le_refl _) (by simp) ?_;(case hd=>rfl);(case hg=>rfl);(case hr=>first|(go_simp;done)|(go_simp;rfl));(case hp=>exact (Reps.one (show Kd.M (Kd.int .u64) _ _ _ 10000000000000000000 [.int .u64 10000000000000000000] from rfl) (Reps.none _ _)));intro v216 w8 ho9 hb hg_ hnew_;clear hg_ hnew_;(first|rw [← Ny215.out] at ho9|(simp only [Int.reduceToNat] at ho9;rw [← Ny215.out] at ho9));replace HO_4:=am (Kd.V_elder' (zV HO_4) (Kd.R_base ho9) hb);have HO217:=am (Kd.R_lower (Kd.R_newM (M:=fun k_=>(w.heap.size≤k_)) ho9 (zS HB) (fun k_ h_=>h_)) (zS HB));replace HB:=zBs HB hb;clear hb ho9;obtain ⟨Ao10,co10,eo10⟩:=Kd.V_slice HO_4.out;subst eo10;obtain ⟨Ao11,co11,eo11⟩:=Kd.R_slice HO217.out;subst eo11)|((with_reducible refine gate_callee (f:=107) rfl ?_);refine zc (some 18) Tryz.func107 #[.slice Ao10 x4_1.length co10, .slice Ao11 y215.length co11] (nat_times.calls _ _ _ _ _ _ _ _ _ (zC ((Kd.V_reads' HO_4.out).2.2)) ((Kd.V_reads' HO_4.out).2.1) (zC ((Kd.R_reads' HO217.out).2.2)) ((Kd.R_reads' HO217.out).2.1) A7.out) ?_;rintro e w12 ⟨v219,rfl,ho0,hb⟩;refine ⟨_,rfl,?_⟩;replace HO_4:=zVb HO_4 hb;have HO220:=am (Kd.V_lower (Kd.V_mono (ok':=fun k_=>(w.heap.size≤k_)∧some k_≠(.slice Ao11 y215.length co11:Value).ownBlock) ho0 (fun k_ hk_=>⟨(Nat.le_trans (zS HB) hk_),(Kd.fresh' (Kd.R_lt (zR HO217)) k_ hk_)⟩)) (zS HB));replace HO217:=zRb HO217 hb;replace HB:=zBs HB hb;clear hb ho0)))
  ·go_roundg k1
   case measure=>have:=HK1.out;omega
   case rel=>exact ⟨(wrap64 (x0_1 - 19)),(t218),z1,H,(zH HK1),⟨by (with_reducible repeat (first|apply Kd.V_alloc|apply Kd.V_drewN|apply Kd.V_drew));exact Kd.V_mono HO220.out (fun _ hk=>hk.1)⟩,⟨zB HB⟩⟩
  go_loopg [0,4] k1 (fun kq v0 v4 w' => ∃ (x0_2:Int) (x4_2:List Int),v0 = .int .i64 x0_2∧Aside0 (nat_Ten.l1 kq x0_2 x4_2=some (r1,r2))∧Aside0 (kq≤k1)∧Aside0 (Kd.V (Kd.int .u64) 25 w' w.heap.size (fun k_=>(w.heap.size≤k_)) v4 x4_2)∧Aside0 (Below w.heap.size w w'))
  case atStart=>exact ⟨(x0_1),(x4_1),z1,H,zL,⟨zV HO_4⟩,⟨zB HB⟩⟩
  clear H
  obtain ⟨x0_2,x4_2,rfl,H,HK2,HO_4,HB⟩:=hrel
  obtain _|k2:=gk
  ·exact zz H rfl
  simp only [nat_Ten.l1] at H
  replace H:=zsdg H
  rcases H with ⟨c13b0,H⟩|⟨c13b0,H⟩
  generalize hy221:(([10]:List Int):List Int)=y221 at H
  have Ny221:=zY hy221
  clear hy221
  replace H:=zo H
  obtain ⟨t224,A14,H⟩:=H
  rotate_left
  obtain ⟨rfl,rfl⟩:=zJ2 H
  rotate_left
  all_goals (go_wp2_with (first|((with_reducible refine gate_dst (N:=24) rfl ?_);refine Kd.R_lit (Kd.int .u64) _ 25 ?hg (N:=24) ?hd (xs:=([10]:List Int)) (inner := [.int .u64 10]) (ok:=fun _=>True) (okp:=fun _=>True) ?hr ?hp (fun _ hk=>hk) trivial (Below.refl _ _) (Nat.le_refl _) (by simp) ?_;(case hd=>rfl);(case hg=>rfl);(case hr=>first|(go_simp;done)|(go_simp;rfl));(case hp=>exact (Reps.one (show Kd.M (Kd.int .u64) _ _ _ 10 [.int .u64 10] from rfl) (Reps.none _ _)));intro v222 w15 ho16 hb hg_ hnew_;clear hg_ hnew_;(first|rw [← Ny221.out] at ho16|(simp only [Int.reduceToNat] at ho16;rw [← Ny221.out] at ho16));replace HO_4:=am (Kd.V_elder' (zV HO_4) (Kd.R_base ho16) hb);have HO223:=am (Kd.R_lower (Kd.R_newM (M:=fun k_=>(w.heap.size≤k_)) ho16 (zS HB) (fun k_ h_=>h_)) (zS HB));replace HB:=zBs HB hb;clear hb ho16;obtain ⟨Ao17,co17,eo17⟩:=Kd.V_slice HO_4.out;subst eo17;obtain ⟨Ao18,co18,eo18⟩:=Kd.R_slice HO223.out;subst eo18)|((with_reducible refine gate_callee (f:=107) rfl ?_);refine zc (some 25) Tryz.func107 #[.slice Ao17 x4_2.length co17, .slice Ao18 y221.length co18] (nat_times.calls _ _ _ _ _ _ _ _ _ (zC ((Kd.V_reads' HO_4.out).2.2)) ((Kd.V_reads' HO_4.out).2.1) (zC ((Kd.R_reads' HO223.out).2.2)) ((Kd.R_reads' HO223.out).2.1) A14.out) ?_;rintro e w19 ⟨v225,rfl,ho0,hb⟩;refine ⟨_,rfl,?_⟩;replace HO_4:=zVb HO_4 hb;have HO226:=am (Kd.V_lower (Kd.V_mono (ok':=fun k_=>(w.heap.size≤k_)∧some k_≠(.slice Ao18 y221.length co18:Value).ownBlock) ho0 (fun k_ hk_=>⟨(Nat.le_trans (zS HB) hk_),(Kd.fresh' (Kd.R_lt (zR HO223)) k_ hk_)⟩)) (zS HB));replace HO223:=zRb HO223 hb;replace HB:=zBs HB hb;clear hb ho0)))
  ·go_roundg k2
   case measure=>have:=HK1.out;have:=HK2.out;omega
   case rel=>exact ⟨(wrap64 (x0_2 - 1)),(t224),z1,H,⟨by have:=HK1.out;have:=HK2.out;omega⟩,⟨by (with_reducible repeat (first|apply Kd.V_alloc|apply Kd.V_drewN|apply Kd.V_drew));exact Kd.V_mono HO226.out (fun _ hk=>hk.1)⟩,⟨zB HB⟩⟩
  go_ret2
  exact ⟨_,z2,zV HO_4,zB HB⟩
 all_goals
  go_ret2
  exact ⟨_,z2,Kd.V_nil _ _ _ _ _,zB HB⟩
mutual
def nat_Shr.l0:Nat→Int→List Int→Bool→List Int→Int→Int→Option (List Int × Bool × Option Int)
  | 0,_,_,_,_,_,_=>none
  | k+1,x1,x7,x8,x43,x44,x45=>if x45<x44 then (if 0≤x45 then (if x45<(x43.length:Int) then (if x8=true then (nat_Shr.l0 k x1 x7 true x43 x44 (wrap64 (x45+1))) else (nat_Shr.l0 k x1 x7 ((rd x43 x45) != 0) x43 x44 (wrap64 (x45+1)))) else (none)) else (none)) else (nat_Shr.l1 k x1 x7 x8 (x7.length:Int) 0)
def nat_Shr.l1:Nat→Int→List Int→Bool→Int→Int→Option (List Int × Bool × Option Int)
  | 0,_,_,_,_,_=>none
  | k+1,x1,x7,x8,x56,x57=>if x57<x56 then (if 0≤x57 then (if x57<(x7.length:Int) then (if 0≤(Int.tmod x1 64) then ((some (x7.set (x57:Int).toNat (shr .u64 (rd x7 x57) (Int.tmod x1 64)):List Int)).bind fun y246=>(if (wrap64 (x57+1))<(x7.length:Int) then (if 0≤(wrap64 (x57+1)) then (if 0≤(wrap64 (63 - (Int.tmod x1 64))) then (nat_Shr.l1 k x1 (y246.set (x57:Int).toNat (Go.bits .or .u64 (rd y246 x57) (shl .u64 (IntKind.u64.wrap ((rd y246 (wrap64 (x57+1))) * 2)) (wrap64 (63 - (Int.tmod x1 64)))))) x8 x56 (wrap64 (x57+1))) else (none)) else (none)) else (nat_Shr.l1 k x1 y246 x8 x56 (wrap64 (x57+1))))) else (none)) else (none)) else (none)) else ((nat_trim.f k x7).bind fun t250=>(some (t250,x8,none)))
end
def nat_Shr.f (k:Nat) (l0:List Int) (a1:Int):Option (List Int × Bool × Option Int):=if a1<0 then (some (([]:List Int),false,some 1)) else ((nat_trim.f k l0).bind fun t227=>(if (wrap64 (Int.tdiv a1 64)) ≥ (t227.length:Int) then (some (([]:List Int),decide ((t227.length:Int) > 0),none)) else (if 0≤(wrap64 (Int.tdiv a1 64)) then (if (wrap64 (Int.tdiv a1 64))≤(t227.length:Int) then ((some (t227.drop ((wrap64 (Int.tdiv a1 64)):Int).toNat:List Int)).bind fun y230=>(if ([]:List Int).length+y230.length<17592186044416 then ((some (([]:List Int) ++ y230:List Int)).bind fun y235=>(if 0<(y235.length:Int) then (if 0≤(wrap64 (63 - (Int.tmod a1 64))) then ((some (t227.take ((wrap64 (Int.tdiv a1 64)):Int).toNat:List Int)).bind fun y239=>(nat_Shr.l0 k a1 y235 ((shl .u64 (IntKind.u64.wrap ((rd y235 0) * 2)) (wrap64 (63 - (Int.tmod a1 64)))) != 0) y239 (y239.length:Int) 0)) else (none)) else (none))) else (none))) else (none)) else (none))))
theorem nat_Shr.mono_l:∀ k,(∀ y0 y1 y2 y3 y4 y5,LeO (nat_Shr.l0 k y0 y1 y2 y3 y4 y5) (nat_Shr.l0 (k+1) y0 y1 y2 y3 y4 y5))∧(∀ y0 y1 y2 y3 y4,LeO (nat_Shr.l1 k y0 y1 y2 y3 y4) (nat_Shr.l1 (k+1) y0 y1 y2 y3 y4))
  | 0=>⟨fun _ _ _ _ _ _ r h=>by simp [nat_Shr.l0] at h,fun _ _ _ _ _ r h=>by simp [nat_Shr.l1] at h⟩
  | k+1=>by
    obtain ⟨ih0,ih1⟩:=nat_Shr.mono_l k
    refine ⟨?_,?_⟩
    · intro y0 y1 y2 y3 y4 y5
      unfold nat_Shr.l0
      repeat' (with_reducible first|exact ih0 _ _ _ _ _ _|exact ih1 _ _ _ _ _|exact nat_trim.mono _ _|exact zm|exact zv|refine zI ?_ ?_|refine zO ?_ fun _=>?_)
    · intro y0 y1 y2 y3 y4
      unfold nat_Shr.l1
      repeat' (with_reducible first|exact ih0 _ _ _ _ _ _|exact ih1 _ _ _ _ _|exact nat_trim.mono _ _|exact zm|exact zv|refine zI ?_ ?_|refine zO ?_ fun _=>?_)
theorem nat_Shr.mono:∀ a0 a1 k,LeO (nat_Shr.f k a0 a1) (nat_Shr.f (k+1) a0 a1):=by
  intro a0 a1 k
  obtain ⟨ih0,ih1⟩:=nat_Shr.mono_l k
  unfold nat_Shr.f
  repeat' (with_reducible first|exact ih0 _ _ _ _ _ _|exact ih1 _ _ _ _ _|exact nat_trim.mono _ _|exact zm|exact zv|refine zI ?_ ?_|refine zO ?_ fun _=>?_)
def nat_Shr.T18:Bool × List (List Nat × List Nat):=(true, [([], []),([], []),([0,1], [0,1]),([2], [2]),([], []),([], []),([5], [5]),([4,6], [4,6]),([7], [7]),([8], [8]),([], []),([10], [10]),([11], [11]),([9,12], [9,12]),([3,13], [3,13]),([0,1,0,1,2,3,4,5,6,7,8,9,10,11,12,13,14], [0,1]),([15,14,0,1,2,3,4,5,6,7,8,9,10,11,12,13,14], [14,15])])
def nat_Shr.B18:List Nat := [0,0,3,7,0,0,32,112,240,496,0,1024,3072,8176,16383,32767,65535]
theorem nat_Shr.tab18:rtab .any (opsOf Tryz.f52 18)=nat_Shr.T18:=by kernel_rfl
theorem nat_Shr.bits18:waitsOk nat_Shr.T18.2 nat_Shr.B18=true:=by kernel_rfl
theorem nat_Shr.calls (k:Nat) (P0_:Nat→Prop) (A0:Option Addr) (c0:Nat) (l0:List Int) (a1:Int) (r1:List Int) (r2:Bool) (r3:Option Int) (w:World) (hs0:Kd.V (Kd.int .u64) 25 w w.heap.size (fun k_=>P0_ k_) (.slice A0 l0.length c0) l0) (h:nat_Shr.f k l0 a1=some (r1,r2,r3)) :
    Calls Tryz.prog 52 #[.slice A0 l0.length c0, .int .i64 a1] w fun e w' => ∃ v0_:Value,e = .returned (.tuple #[v0_, .bool r2,errW r3])∧Kd.V (Kd.int .u64) 25 w' w.heap.size (fun k_=>(P0_ k_∨w.heap.size≤k_)) v0_ r1∧Below w.heap.size w w':=by
 have hu27:=Tryz.underlying27
 have hu64:=Tryz.underlying64
 have HO0:=am (show Kd.V (Kd.int .u64) 25 w w.heap.size (fun k_=>(P0_ k_∨w.heap.size≤k_)) (.slice A0 l0.length c0) l0 from Kd.V_mono hs0 (fun k_ hk => .inl hk))
 have HB:=am (Below.refl w.heap.size w)
 have H:=am h
 unfold nat_Shr.f at H
 clear h
 replace H:=zsd H
 rcases H with ⟨c3b0,H⟩|⟨c3b0,H⟩
 obtain ⟨rfl,rfl,rfl⟩:=zJ3 H
 rotate_left
 replace H:=zo H
 obtain ⟨t227,A4,H⟩:=H
 replace H:=zsde H
 rcases H with ⟨c5b0,H⟩|⟨c5b0,H⟩
 obtain ⟨rfl,rfl,rfl⟩:=zJ3 H
 rotate_left
 generalize hji8:(wrap64 (Int.tdiv a1 64):Int)=ji8 at H
 (try rw [hji8] at c5b0)
 (try rw [hji8] at A4)
 have hji8w:(IntKind.i64.wrap (Int.tdiv a1 64))=ji8:=(i64_w _).trans hji8
 replace H:=zit H
 obtain ⟨c9b0,c9b1,H⟩:=H
 replace H:=zit H
 obtain ⟨c10b0,c10b1,H⟩:=H
 obtain ⟨y230,Ny230,H⟩:=zw H
 replace H:=zil H
 obtain ⟨LMc11,H⟩:=H
 obtain ⟨y235,Ny235,H⟩:=zw H
 replace H:=zi H
 obtain ⟨c12,H⟩:=H
 have c12b0:decide (0<(y235.length:Int))=true:=decide_eq_true c12
 have c12b1:decide (0<y235.length)=true:=decide_eq_true (by omega)
 clear c12
 generalize hji13:(wrap64 (63 - (Int.tmod a1 64)):Int)=ji13 at H
 (try rw [hji13] at A4)
 have hji13w:(IntKind.i64.wrap (63 - (Int.tmod a1 64)))=ji13:=(i64_w _).trans hji13
 replace H:=zit H
 obtain ⟨c14b0,c14b1,H⟩:=H
 generalize hji15:(shl .u64 (IntKind.u64.wrap ((rd y235 0) * 2)) (ji13):Int)=ji15 at H
 (try rw [hji15] at A4)
 have hji15_:(IntKind.u64.wrap ((IntKind.u64.wrap ((rd y235 0) * 2)) * 2 ^ min (ji13).toNat 64))=ji15:=hji15
 have hji15z:(ji13)≤64→(IntKind.u64.wrap ((IntKind.u64.wrap ((rd y235 0) * 2)) * 2 ^ (ji13).toNat))=ji15:=shl_small hji15
 have c16b0:=eq_true (zD:0≤(ji8))
 have c17b0:=eq_true (zD:(ji8)≤(t227.length:Int))
 obtain ⟨y239,Ny239,H⟩:=zw H
 rotate_left
 all_goals (go_enter Tryz.func52,Tryz.ntmps52;go_wp2_with (first|((with_reducible refine gate_callee (f:=103) rfl ?_);refine zc (some 17) Tryz.func103 #[.slice A0 l0.length c0] (nat_trim.calls _ (fun k_=>(P0_ k_∨w.heap.size≤k_)) _ _ _ _ _ HO0.out A4.out) ?_;rintro e w18 ⟨v228,rfl,ho0,hb⟩;refine ⟨_,rfl,?_⟩;replace HO0:=zVb HO0 hb;have HO229:=am (Kd.V_lower (Kd.V_mono (ok':=fun k_=>(P0_ k_∨w.heap.size≤k_)) ho0 (fun k_ hk_=>Or.elim hk_ (fun hs_=>hs_) (fun hn_=>(.inr (Nat.le_trans (zS HB) hn_))))) (zS HB));replace HB:=zBs HB hb;clear hb ho0;obtain ⟨Ao19,co19,eo19⟩:=Kd.V_slice HO229.out;subst eo19;have q20:((ji8):Int)≤((t227.length:Int):Int):=zD;obtain ⟨i020,hi020,_,hsz20,_⟩:=info_parts info25;have hroom20:t227.length≤co19:=(Kd.V_reads' HO229.out).2.1;have hC20:Kd.F (Kd.int .u64) _ _ Ao19 t227.length t227:=(Kd.V_at (base:=w.heap.size) HO229.out).2.2;have q020:(0:Int)≤((ji8):Int):=zD;have hcut20:=cut_from (P:=Tryz.prog) 88 25 .i64 Tryz.underlying88 hi020 1 hsz20 Ao19 t227.length co19 (ji8) q020 q20;have hr20:=Kd.F_cut (m:=((ji8):Int).toNat) (c:=co19) hC20 (by omega) hroom20;obtain ⟨A20,hA20⟩:∃ A1,A1=(if co19=((ji8):Int).toNat then Ao19 else (Ao19:Option Addr).map (·.add (((ji8):Int).toNat * 1))):=⟨_,rfl⟩;obtain ⟨c20,hc20⟩:∃ c1,c1=co19 - ((ji8):Int).toNat:=⟨_,rfl⟩;have hy20:y230.length=t227.length - ((ji8):Int).toNat:=(by rw [Ny230.out,List.length_drop] <;> omega);rw [show (t227).drop ((ji8):Int).toNat=y230 from Ny230.out.symm] at hr20;replace hr20:Kd.F (Kd.int .u64) _ _ A20 y230.length y230:=(by rw [hA20];exact hr20);rw [← hy20, ← hA20, ← hc20] at hcut20;have HO234:=am (show Kd.V (Kd.int .u64) 25 _ w.heap.size _ (.slice A20 y230.length c20) y230 from Kd.V_mk (by rw [hy20,hc20];exact Nat.sub_le_sub_right hroom20 _) hr20);have HC234:=am (show y230.length≤c20 from by rw [hy20,hc20];exact Nat.sub_le_sub_right hroom20 _);clear hr20 hC20 hroom20 hi020 hsz20 hc20;have KY20:=am hy20;have KA20:=am hA20;clear hy20 hA20;replace q20:=eq_true q20)|((with_reducible refine gate_builtin (b := .append) (xs:=#[.const (.slice none 0 0), .tmp 29]) rfl ?_);at_builtin;refine Kd.R_append_rows (Kd.int .u64) (w0:=w) w.heap.size rfl (.const (.slice none 0 0)) (.tmp 29) 88 25 (.int .u64 0) 8 rfl Tryz.underlying88 info25 rfl (by decide) (by omega) (.slice none 0 0) ([]:List Int) y230 _ _ _ (fun k_=>(w.heap.size≤k_)) (fun _=>False) rfl rfl ?aO ?aR (fun _ _ h=>h) (fun _ h=>h.elim) ?aF ?aB ?aS ?aL ?_;(case aR=>repeat (first|exact (Kd.V_reads' HO234.out).2.2|(with_reducible refine Kd.C_alloc ?_ _)|(with_reducible refine Kd.C_drewN ?_ _)|(with_reducible refine Kd.C_drew ?_)));(case aB=>exact (zB HB));(case aF=>exact (fun k_ hk=>(Nat.le_trans (zS HB) hk)));(case aO=>exact ((Kd.R_nil _ _ _ _ (fun k_=>(w.heap.size≤k_)))));(case aS=>exact (zS HB));(case aL=>have:=LMc11.out;omega);intro v236 w21 ho hb hg hat;rw [← Ny235.out] at ho;replace HO0:=am (Kd.V_afterv (Kd.V_apart_nil (zV HO0)) hg hat);replace HO229:=am (Kd.V_afterv (Kd.V_apart_nil (zV HO229)) hg hat);replace HO234:=am (Kd.V_afterv (Kd.V_apart_nil (zV HO234)) hg hat);replace HB:=am (hb);have HO237:=am (ho);clear ho hb hg hat;obtain ⟨Ao22,co22,eo22⟩:=Kd.R_slice HO237.out;subst eo22;have p238:0≤(0:Int):=(by omega);have q238:0<(y235.length:Int):=zD;obtain ⟨ad238,e238,hx238_0⟩:=Kd.at_int (Kd.R_reads' HO237.out).2.2 0 p238 q238;cases e238;have qi238:(0<y235.length)=True:=eq_true (by omega);(try rw [show ((0:Int)).toNat=0 from rfl] at hx238_0);(try rw [Addr.add_zero'] at hx238_0);replace p238:=eq_true p238;replace q238:=eq_true q238;have q23:((ji8):Int)≤((t227.length:Int):Int):=zD;obtain ⟨i023,hi023,_,hsz23,_⟩:=info_parts info25;have hroom23:t227.length≤co19:=(Kd.V_reads' HO229.out).2.1;have hC23:Kd.F (Kd.int .u64) _ _ Ao19 t227.length t227:=(Kd.V_at (base:=w.heap.size) HO229.out).2.2;have hcut23:=cut_to (P:=Tryz.prog) 88 25 .i64 Tryz.underlying88 hi023 Ao19 t227.length co19 (ji8) (zD) q23 hroom23;have hr23:=Kd.F_take (m:=((ji8):Int).toNat) hC23 (by omega);have hy23:y239.length=((ji8):Int).toNat:=(by rw [Ny239.out,List.length_take];omega);rw [← Ny239.out] at hr23;rw [← hy23] at hcut23;have HO243:=am (show Kd.V (Kd.int .u64) 25 _ w.heap.size _ (.slice Ao19 y239.length co19) y239 from Kd.V_mk (by omega) hr23);have HC243:=am (show y239.length≤co19 from by omega);clear hr23 hC23 hroom23 hi023 hsz23;have KY23:=am hy23;clear hy23;replace q23:=eq_true q23)|((with_reducible refine gate_callee (f:=103) rfl ?_);refine zc (some 17) Tryz.func103 #[.slice A0 l0.length c0] (nat_trim.calls _ (fun k_=>(P0_ k_∨w.heap.size≤k_)) _ _ _ _ _ HO0.out A4.out) ?_;rintro e w6 ⟨v228,rfl,ho0,hb⟩;refine ⟨_,rfl,?_⟩;replace HO0:=zVb HO0 hb;have HO229:=am (Kd.V_lower (Kd.V_mono (ok':=fun k_=>(P0_ k_∨w.heap.size≤k_)) ho0 (fun k_ hk_=>Or.elim hk_ (fun hs_=>hs_) (fun hn_=>(.inr (Nat.le_trans (zS HB) hn_))))) (zS HB));replace HB:=zBs HB hb;clear hb ho0;obtain ⟨Ao7,co7,eo7⟩:=Kd.V_slice HO229.out;subst eo7)))
 rotate_left
 rotate_left
 ·go_loopg [8,45] k (fun kq v8 v45 w' => ∃ (x8_1:Bool) (x45_1:Int),v8 = .bool x8_1∧v45 = .int .i64 x45_1∧Aside0 (nat_Shr.l0 kq a1 y235 x8_1 y239 (y239.length:Int) x45_1=some (r1,r2,r3))∧Aside0 (kq≤k)∧Aside0 (Kd.R (Kd.int .u64) 25 w' w.heap.size (fun k_=>(w.heap.size≤k_)) (.slice (some ad238) y235.length co22) y235)∧Aside0 (Kd.V (Kd.int .u64) 25 w' w.heap.size (fun k_=>(P0_ k_∨w.heap.size≤k_)∧some k_≠((.slice (some ad238) y235.length co22):Value).ownBlock) (.slice Ao19 y239.length co19) y239)∧Aside0 (Below w.heap.size w w'))
  case atStart=>exact ⟨(((ji15) != 0)),(0),(by first|rfl|(simp;done)|(simp only [← hji15] <;> (first|rfl|simp))|(simp [*];done)),z1,H,zL,⟨zR HO237⟩,⟨zV HO243⟩,⟨zB HB⟩⟩
  clear H
  try clear hx2
  try clear qi2
  try clear hx23
  try clear qi23
  try clear hx238_0
  obtain ⟨x8_1,x45_1,rfl,rfl,H,HK1,HO_7,HO_43,HB⟩:=hrel
  obtain _|k1:=gk
  ·exact zz H rfl
  simp only [nat_Shr.l0] at H
  replace H:=zsd H
  rcases H with ⟨c24b0,H⟩|⟨c24b0,H⟩
  replace H:=zid H
  obtain ⟨c25b0,H⟩:=H
  replace H:=zid H
  obtain ⟨c26b0,H⟩:=H
  cases x8_1
  replace H:=zb0 H
  obtain ⟨p244,q244,ad244,rfl,hx244_0⟩:=zA (Kd.at_int (Kd.V_reads' HO_43.out).2.2 x45_1)
  rotate_left
  replace H:=zb1 H
  obtain ⟨p244,q244,ad244,rfl,hx244_0⟩:=zA (Kd.at_int (Kd.V_reads' HO_43.out).2.2 x45_1)
  rotate_left
  rotate_left
  all_goals (go_wp2)
  ·go_roundg k1
   case measure=>have:=HK1.out;omega
   case rel=>exact ⟨(((rd y239 x45_1) != 0)),(wrap64 (x45_1+1)),z1,z1,H,(zH HK1),⟨zR HO_7⟩,⟨zV HO_43⟩,⟨zB HB⟩⟩
  ·go_roundg k1
   case measure=>have:=HK1.out;omega
   case rel=>exact ⟨(true),(wrap64 (x45_1+1)),z1,z1,H,(zH HK1),⟨zR HO_7⟩,⟨zV HO_43⟩,⟨zB HB⟩⟩
  go_loopg [57] k1 (fun kq v57 w' => ∃ (x7_2:List Int) (x57_2:Int),v57 = .int .i64 x57_2∧Aside0 (nat_Shr.l1 kq a1 x7_2 x8_1 (y235.length:Int) x57_2=some (r1,r2,r3))∧Aside0 (kq≤k1)∧Aside0 (Kd.R (Kd.int .u64) 25 w' w.heap.size (fun k_=>(w.heap.size≤k_)) (.slice (some ad238) y235.length co22) x7_2)∧Aside0 (Below w.heap.size w w'))
  case atStart=>exact ⟨(y235),(0),z1,H,zL,⟨zR HO_7⟩,⟨zB HB⟩⟩
  clear H
  try clear hx2
  try clear qi2
  try clear hx23
  try clear qi23
  try clear hx24
  try clear hx238_0
  try clear hx244_0
  obtain ⟨x7_2,x57_2,rfl,H,HK2,HO_7,HB⟩:=hrel
  have hl7_2:=(Kd.R_reads' HO_7.out).1
  rw [hl7_2] at HO_7
  (try simp only [hl7_2])
  obtain _|k2:=gk
  ·exact zz H rfl
  simp only [nat_Shr.l1] at H
  replace H:=zs H
  rcases H with ⟨c28,H⟩|⟨c28,H⟩
  have c28b0:decide (x57_2<(y235.length:Int))=true:=decide_eq_true c28
  (try simp only [hl7_2] at c28b0)
  clear c28
  replace H:=zid H
  obtain ⟨c29b0,H⟩:=H
  replace H:=zi H
  obtain ⟨c30,H⟩:=H
  have c30b0:decide (x57_2<(x7_2.length:Int))=true:=decide_eq_true c30
  (try simp only [hl7_2] at c30b0)
  clear c30
  generalize hji31:(Int.tmod a1 64:Int)=ji31 at H
  replace H:=zit H
  obtain ⟨c32b0,c32b1,H⟩:=H
  generalize hji33:(shr .u64 (rd x7_2 x57_2) (ji31):Int)=ji33 at H
  have hji33_:((rd x7_2 x57_2) / 2 ^ min (ji31).toNat 64)=ji33:=hji33
  have hji33z:(ji31)≤64→((rd x7_2 x57_2) / 2 ^ (ji31).toNat)=ji33:=shr_small hji33
  obtain ⟨y246,Ny246,H⟩:=zw H
  replace H:=zs H
  rcases H with ⟨c35,H⟩|⟨c35,H⟩
  ·have c35b0:decide ((wrap64 (x57_2+1))<(x7_2.length:Int))=true:=decide_eq_true c35
   (try simp only [hl7_2] at c35b0)
   clear c35
   generalize hji36:(wrap64 (x57_2+1):Int)=ji36 at H
   (try rw [hji36] at c35b0)
   have hji36w:(IntKind.i64.wrap (x57_2+1))=ji36:=(i64_w _).trans hji36
   replace H:=zid H
   obtain ⟨c37b0,H⟩:=H
   generalize hji38:(wrap64 (63 - (ji31)):Int)=ji38 at H
   have hji38w:(IntKind.i64.wrap (63 - (ji31)))=ji38:=(i64_w _).trans hji38
   replace H:=zit H
   obtain ⟨c39b0,c39b1,H⟩:=H
   generalize hji40:(shl .u64 (IntKind.u64.wrap ((rd y246 (ji36)) * 2)) (ji38):Int)=ji40 at H
   have hji40_:(IntKind.u64.wrap ((IntKind.u64.wrap ((rd y246 (ji36)) * 2)) * 2 ^ min (ji38).toNat 64))=ji40:=hji40
   have hji40z:(ji38)≤64→(IntKind.u64.wrap ((IntKind.u64.wrap ((rd y246 (ji36)) * 2)) * 2 ^ (ji38).toNat))=ji40:=shl_small hji40
   generalize hy249:(y246.set (x57_2:Int).toNat (Go.bits .or .u64 (rd y246 x57_2) (ji40)):List Int)=y249 at H
   have Ny249:=zY hy249
   clear hy249
   have p245:0≤(x57_2:Int):=zD
   have q245:x57_2<(x7_2.length:Int):=zD
   obtain ⟨ad245,e245,hx245_0⟩:=Kd.at_int (Kd.R_reads' HO_7.out).2.2 x57_2 p245 q245
   obtain rfl:ad238=ad245:=(by injection e245)
   replace p245:=eq_true p245
   replace q245:=eq_true q245
   have p34:0≤(x57_2:Int):=zD
   have q34:(x57_2:Int)<((x7_2.length:Int):Int):=zD
   obtain ⟨go34,co34,eo34,gb34,gl34,cl34,HG34⟩:=Kd.R_form HO_7.out (by omega)
   (first|cases eo34|(injection eo34 with ea_ en_ ec_;(first|subst ea_|(injection ea_ with ea_;subst ea_));subst ec_;clear en_))
   have GB34:=am gb34
   have GG34:=am HG34
   clear gb34 gl34 HG34
   (first|simp only [add_plain] at hx238_0|skip)
   (first|simp only [add_plain] at hx245_0|skip)
   obtain ⟨hx34_0,hf34_0⟩:=Kd.R_celln 0 HO_7.out (x57_2:Int) p34 q34
   replace p34:=eq_true p34
   replace q34:=eq_true q34
   have HP42:=Kd.R_putg HO_7.out (x57_2:Int) ji33
   try go_wp2_with (first|((with_reducible refine gate_store (t:=25) (p:=68) rfl ?_);refine store_event (t:=25) (p:=68) (v:=?vo_w43) (w1:=(wr.setCell ⟨go34,(x57_2:Int).toNat,none⟩ (.int .u64 ji33))) ?hg ?ho ?hn ?hr ?_;(case ho=>rfl);(case hg=>rfl);(case hn=>rfl);(case hr=>first|(go_simp;done)|(go_simp;rfl));intro w43 hw;have hg:wr.grownBy w43 (some go34):=(by rw [hw];exact HP42.2);have hp_:Kd.R (Kd.int .u64) 25 w43 w.heap.size (fun k_=>(w.heap.size≤k_)) (.slice (some ⟨go34,0,none⟩) x7_2.length co22) y246:=(by rw [hw,Ny246.out];exact HP42.1);clear HP42;replace HO_7:=am (hp_);replace HB:=am ((by rw [hw];exact below_set (HB.out) GB34.out:Below w.heap.size w w43));clear hg hw hp_))
   replace HO_7:=am (Kd.R_drew HO_7.out)
   replace HB:=am (below_drew1 HB.out)
   have p247:0≤(x57_2:Int):=zD
   have q247:x57_2<(y246.length:Int):=(by have h_:(x57_2:Int)<((x7_2.length:Int):Int):=zD;first|(have e_:=(Kd.R_reads' HO_7.out).1;omega)|simpa only [Ny246.out,List.length_set] using h_)
   have ql247:((x57_2:Int)<((x7_2.length:Int):Int))=True:=eq_true (zD)
   obtain ⟨ad247,e247,hx247_0⟩:=Kd.at_int (Kd.R_reads' HO_7.out).2.2 x57_2 p247 q247
   obtain rfl:(⟨go34,0,none⟩:Addr)=ad247:=(by injection e247)
   (first|simp only [add_plain] at hx247_0|simp only [add_at] at hx247_0|simp only [Addr.add,Nat.zero_add] at hx247_0|skip)
   replace p247:=eq_true p247
   replace q247:=eq_true q247
   have p248:0≤((ji36):Int):=zD
   have q248:(ji36)<(y246.length:Int):=(by have h_:((ji36):Int)<((x7_2.length:Int):Int):=zD;first|(have e_:=(Kd.R_reads' HO_7.out).1;omega)|simpa only [Ny246.out,List.length_set] using h_)
   have ql248:(((ji36):Int)<((x7_2.length:Int):Int))=True:=eq_true (zD)
   obtain ⟨ad248,e248,hx248_0⟩:=Kd.at_int (Kd.R_reads' HO_7.out).2.2 (ji36) p248 q248
   obtain rfl:(⟨go34,0,none⟩:Addr)=ad248:=(by injection e248)
   (first|simp only [add_plain] at hx248_0|simp only [add_at] at hx248_0|simp only [Addr.add,Nat.zero_add] at hx248_0|skip)
   replace p248:=eq_true p248
   replace q248:=eq_true q248
   have p41:0≤(x57_2:Int):=zD
   have q41:(x57_2:Int)<((x7_2.length:Int):Int):=zD
   obtain ⟨hx41_0,hf41_0⟩:=Kd.R_celln 0 HO_7.out (x57_2:Int) p41 q41
   replace p41:=eq_true p41
   replace q41:=eq_true q41
   have HP45:=Kd.R_putn HO_7.out (x57_2:Int) (Go.bits .or .u64 (rd y246 x57_2) (ji40))
   rw [← Ny249.out] at HP45
   have HQ45:=am HP45
   clear HP45
   refine start_ (n:=17) (S:=fun w'=>w'.cell? ⟨go34,(x57_2).toNat,none⟩=some (.int .u64 (rd y246 x57_2))∧w'.cell? ⟨go34,((ji36)).toNat,none⟩=some (.int .u64 (rd y246 (ji36)))) (ds := [16]) (Array.replicate 17 false) (by kernel_rfl) rfl rfl ⟨hx247_0,hx248_0⟩ (fun hHeld=>?_);refine with_tabW nat_Shr.tab18 nat_Shr.bits18 (fun HT_ HW_=>?_)
   generalize w43.drew=w44 at HO_7 HB HQ45 hf41_0 hx247_0 hx248_0 hx41_0 hHeld ⊢
   refine zp HT_ 0 (some 74) ?_
   refine zp HT_ 1 (some 75) ?_
   refine zp HT_ 2 (some 76) ?_
   refine zp HT_ 4 (some 78) ?_
   refine zp HT_ 5 (some 79) ?_
   refine zp HT_ 6 (some 80) ?_
   refine zp HT_ 7 (some 81) ?_
   refine zp HT_ 10 (some 84) ?_
   refine zp HT_ 11 (some 85) ?_
   refine zp HT_ 12 (some 86) ?_
   refine zt HT_ HW_ 3 (some 77) hHeld ?_
   refine zt HT_ HW_ 8 (some 82) hHeld ?_
   refine zp HT_ 9 (some 83) ?_
   refine zp HT_ 13 (some 87) ?_
   refine zp HT_ 14 (some 88) ?_
   refine zp HT_ 15 (some 89) ?_
   refine last_ (i:=16) (N:=none) #[true,true,true,true,true,true,true,true,true,true,true,true,true,true,true,true,true] rfl rfl (one_of HT_.out (by kernel_rfl)) (by decide) (fun K hK=>?_)
   refine skip_ (w1:=?_) (by rfl) rfl ?_ ?_
   rotate_left
   ·go_simp
    rfl
   refine hK.out _ _ ?_
   clear hK K
   refine done_ (done_of HT_.out (by kernel_rfl)) ?_
   try go_wp2
   (try simp only [← hl7_2])
   (try simp only [← hji31])
   go_roundg k2
   case measure=>have:=HK1.out;have:=HK2.out;omega
   case rel=>exact ⟨(y249),(ji36),(by first|rfl|(simp;done)|(simp only [← hji36] <;> (first|rfl|simp))|(simp [*];done)),H,⟨by have:=HK1.out;have:=HK2.out;omega⟩,⟨by (try simp only [hl7_2]);(with_reducible repeat (first|apply Kd.R_alloc|apply Kd.R_drewN|apply Kd.R_drew));exact HQ45.out⟩,⟨zB HB⟩⟩
  have c35b0:decide ((wrap64 (x57_2+1))<(x7_2.length:Int))=false:=decide_eq_false c35
  (try simp only [hl7_2] at c35b0)
  clear c35
  have p245:0≤(x57_2:Int):=zD
  have q245:x57_2<(x7_2.length:Int):=zD
  obtain ⟨ad245,e245,hx245_0⟩:=Kd.at_int (Kd.R_reads' HO_7.out).2.2 x57_2 p245 q245
  obtain rfl:ad238=ad245:=(by injection e245)
  replace p245:=eq_true p245
  replace q245:=eq_true q245
  have p34:0≤(x57_2:Int):=zD
  have q34:(x57_2:Int)<((x7_2.length:Int):Int):=zD
  obtain ⟨go34,co34,eo34,gb34,gl34,cl34,HG34⟩:=Kd.R_form HO_7.out (by omega)
  (first|cases eo34|(injection eo34 with ea_ en_ ec_;(first|subst ea_|(injection ea_ with ea_;subst ea_));subst ec_;clear en_))
  have GB34:=am gb34
  have GG34:=am HG34
  clear gb34 gl34 HG34
  (first|simp only [add_plain] at hx245_0|skip)
  obtain ⟨hx34_0,hf34_0⟩:=Kd.R_celln 0 HO_7.out (x57_2:Int) p34 q34
  replace p34:=eq_true p34
  replace q34:=eq_true q34
  have HP46:=Kd.R_putg HO_7.out (x57_2:Int) ji33
  rotate_left
  have c28b0:decide (x57_2<(y235.length:Int))=false:=decide_eq_false c28
  (try simp only [hl7_2] at c28b0)
  clear c28
  replace H:=zo H
  obtain ⟨t250,A48,H⟩:=H
  obtain ⟨rfl,rfl,rfl⟩:=zJ3 H
  rotate_left
  all_goals (go_wp2_with (first|((with_reducible refine gate_store (t:=25) (p:=68) rfl ?_);refine store_event (t:=25) (p:=68) (v:=?vo_w47) (w1:=(wr.setCell ⟨go34,(x57_2:Int).toNat,none⟩ (.int .u64 ji33))) ?hg ?ho ?hn ?hr ?_;(case ho=>rfl);(case hg=>rfl);(case hn=>rfl);(case hr=>first|(go_simp;done)|(go_simp;rfl));intro w47 hw;have hg:wr.grownBy w47 (some go34):=(by rw [hw];exact HP46.2);have hp_:Kd.R (Kd.int .u64) 25 w47 w.heap.size (fun k_=>(w.heap.size≤k_)) (.slice (some ⟨go34,0,none⟩) x7_2.length co22) y246:=(by rw [hw,Ny246.out];exact HP46.1);clear HP46;replace HO_7:=am (hp_);replace HB:=am ((by rw [hw];exact below_set (HB.out) GB34.out:Below w.heap.size w w47));clear hg hw hp_)|((with_reducible refine gate_callee (f:=103) rfl ?_);refine zc (some 92) Tryz.func103 #[.slice (some ad238) x7_2.length co22] (nat_trim.calls _ (fun k_=>some k_=(.slice (some ad238) x7_2.length co22:Value).ownBlock) _ _ _ _ _ (Kd.R_V (Kd.R_tight rfl (HO_7.out))) A48.out) ?_;rintro e w49 ⟨v251,rfl,ho0,hb⟩;refine ⟨_,rfl,?_⟩;have HO252:=am (Kd.V_lower (Kd.V_mono (ok':=fun k_=>(P0_ k_∨w.heap.size≤k_)) ho0 (fun k_ hk_=>Or.elim hk_ (fun hs_=>(.inr (((HO_7.out).1 k_ hs_.symm)))) (fun hn_=>(.inr (Nat.le_trans (zS HB) hn_))))) (zS HB));replace HO_7:=zRb HO_7 hb;replace HB:=zBs HB hb;clear hb ho0)))
  ·(try simp only [← hl7_2])
   (try simp only [← hji31])
   go_roundg k2
   case measure=>have:=HK1.out;have:=HK2.out;omega
   case rel=>exact ⟨(y246),(wrap64 (x57_2+1)),z1,H,⟨by have:=HK1.out;have:=HK2.out;omega⟩,⟨by (try simp only [hl7_2]);(with_reducible repeat (first|apply Kd.R_alloc|apply Kd.R_drewN|apply Kd.R_drew));exact HO_7.out⟩,⟨zB HB⟩⟩
  go_ret3
  exact ⟨_,by first|exact z3|(simp only [← hji8, ← hji13, ← hji15];exact z3)|exact z2,zV HO252,zB HB⟩
 all_goals
  go_ret3
  exact ⟨_,z2,Kd.V_nil _ _ _ _ _,zB HB⟩
def nat_Mul.l0:Nat→List Int→List (List Int)→Int→Int→Option (List Int)
  | 0,_,_,_,_=>none
  | k+1,x3,x7,x8,x9=>if x9<x8 then (if 0≤x9 then (if x9<(x7.length:Int) then ((nat_trim.f k (rd_L1 x7 x9)).bind fun t257=>((nat_times.f k x3 t257).bind fun t260=>(nat_Mul.l0 k t260 x7 x8 (wrap64 (x9+1))))) else (none)) else (none)) else (some x3)
def nat_Mul.f (k:Nat) (l0:List (List Int)):Option (List Int):=nat_Mul.l0 k (([1]:List Int)) l0 (l0.length:Int) 0
theorem nat_Mul.mono_l:∀ k,(∀ y0 y1 y2 y3,LeO (nat_Mul.l0 k y0 y1 y2 y3) (nat_Mul.l0 (k+1) y0 y1 y2 y3))
  | 0=>fun _ _ _ _ r h=>by simp [nat_Mul.l0] at h
  | k+1=>by
    have ih0:=nat_Mul.mono_l k
    · intro y0 y1 y2 y3
      unfold nat_Mul.l0
      repeat' (with_reducible first|exact ih0 _ _ _ _|exact nat_times.mono _ _ _|exact nat_trim.mono _ _|exact zm|exact zv|refine zI ?_ ?_|refine zO ?_ fun _=>?_)
theorem nat_Mul.mono:∀ a0 k,LeO (nat_Mul.f k a0) (nat_Mul.f (k+1) a0):=by
  intro a0 k
  have ih0:=nat_Mul.mono_l k
  unfold nat_Mul.f
  repeat' (with_reducible first|exact ih0 _ _ _ _|exact nat_times.mono _ _ _|exact nat_trim.mono _ _|exact zm|exact zv|refine zI ?_ ?_|refine zO ?_ fun _=>?_)
theorem nat_Mul.calls (k:Nat) (P0_:Nat→Prop) (A0:Option Addr) (c0:Nat) (l0:List (List Int)) (r:List Int) (w:World) (hs0:Kd.V (Kd.slice 25 (Kd.int .u64)) 88 w w.heap.size (fun k_=>P0_ k_) (.slice A0 l0.length c0) l0) (h:nat_Mul.f k l0=some r) :
    Calls Tryz.prog 53 #[.slice A0 l0.length c0] w fun e w' => ∃ v0_:Value,e = .returned (v0_)∧Kd.V (Kd.int .u64) 25 w' w.heap.size (fun k_=>(P0_ k_∨w.heap.size≤k_)) v0_ r∧Below w.heap.size w w':=by
 have HO0:=am (show Kd.V (Kd.slice 25 (Kd.int .u64)) 88 w w.heap.size (fun k_=>(P0_ k_∨w.heap.size≤k_)) (.slice A0 l0.length c0) l0 from Kd.V_mono hs0 (fun k_ hk => .inl hk))
 have HB:=am (Below.refl w.heap.size w)
 have H:=am h
 unfold nat_Mul.f at H
 clear h
 generalize hy253:(([1]:List Int):List Int)=y253 at H
 have Ny253:=zY hy253
 clear hy253
 go_enter Tryz.func53,Tryz.ntmps53
 go_wp2_with (first|((with_reducible refine gate_dst (N:=6) rfl ?_);refine Kd.R_lit (Kd.int .u64) _ 25 ?hg (N:=6) ?hd (xs:=([1]:List Int)) (inner := [.int .u64 1]) (ok:=fun _=>True) (okp:=fun _=>True) ?hr ?hp (fun _ hk=>hk) trivial (Below.refl _ _) (Nat.le_refl _) (by simp) ?_;(case hd=>rfl);(case hg=>rfl);(case hr=>first|(go_simp;done)|(go_simp;rfl));(case hp=>exact (Reps.one (show Kd.M (Kd.int .u64) _ _ _ 1 [.int .u64 1] from rfl) (Reps.none _ _)));intro v254 w2 ho3 hb hg_ hnew_;clear hg_ hnew_;(first|rw [← Ny253.out] at ho3|(simp only [Int.reduceToNat] at ho3;rw [← Ny253.out] at ho3));replace HO0:=am (Kd.V_elder' (zV HO0) (Kd.R_base ho3) hb);have HO255:=am (Kd.R_lower (Kd.R_newM (M:=fun k_=>(w.heap.size≤k_)) ho3 (zS HB) (fun k_ h_=>h_)) (zS HB));replace HB:=zBs HB hb;clear hb ho3))
 go_loopg [3,9] k (fun kq v3 v9 w' => ∃ (x3_1:List Int) (x9_1:Int),v9 = .int .i64 x9_1∧Aside0 (nat_Mul.l0 kq x3_1 l0 (l0.length:Int) x9_1=some r)∧Aside0 (kq≤k)∧Aside0 (Kd.V (Kd.int .u64) 25 w' w.heap.size (fun k_=>(P0_ k_∨w.heap.size≤k_)) v3 x3_1)∧Aside0 (Kd.V (Kd.slice 25 (Kd.int .u64)) 88 w' w.heap.size (fun k_=>(P0_ k_∨w.heap.size≤k_)) (.slice A0 l0.length c0) l0)∧Aside0 (Below w.heap.size w w'))
 case atStart=>exact ⟨(y253),(0),z1,H,zL,⟨Kd.V_mono (Kd.R_V (zR HO255)) (fun k_ hk=>by exact (.inr (hk.1)))⟩,⟨by (with_reducible repeat (first|apply Kd.V_alloc|apply Kd.V_drewN|apply Kd.V_drew));exact Kd.V_mono HO0.out (fun _ hk=>hk.1)⟩,⟨zB HB⟩⟩
 clear H
 obtain ⟨x3_1,x9_1,rfl,H,HK1,HO_3,HO_7,HB⟩:=hrel
 obtain _|k1:=gk
 ·exact zz H rfl
 simp only [nat_Mul.l0] at H
 replace H:=zsd H
 rcases H with ⟨c4b0,H⟩|⟨c4b0,H⟩
 replace H:=zid H
 obtain ⟨c5b0,H⟩:=H
 replace H:=zid H
 obtain ⟨c6b0,H⟩:=H
 replace H:=zo H
 obtain ⟨t257,A7,H⟩:=H
 replace H:=zo H
 obtain ⟨t260,A8,H⟩:=H
 have p256:0≤(x9_1:Int):=zD
 have q256:x9_1<(l0.length:Int):=zD
 obtain ⟨ad256,A256_0,c256_0,e256,hx256_0,hl256_0,hi256_0⟩:=at_L1 (Kd.V_reads' HO_7.out).2.2 x9_1 p256 q256
 cases e256
 obtain ⟨ce256,hce256,hMe256,hcc256⟩:=Kd.V_get HO_7.out [] x9_1 p256 (by first|exact q256|exact zD|(have e_:=(Kd.V_reads' HO_7.out).1;omega))
 obtain ⟨ua256_0,uc256_0,rfl,ul256_0,ge256_0⟩:=Kd.FK_slice_open hMe256
 have hv256_0:=hcc256 0 _ rfl
 rw [Nat.add_zero,show ((Kd.slice 25 (Kd.int .u64))).sz=1 from rfl,Nat.mul_one] at hv256_0
 replace hv256_0:=Option.some.inj (hv256_0.symm.trans hx256_0)
 injection hv256_0 with hva_ hvn_ hvc_
 rw [hva_] at ge256_0
 rw [hvc_] at ul256_0
 have HL256_0:=am (show Kd.V (Kd.int .u64) 25 _ w.heap.size _ _ (rd_L1 l0 x9_1) from Kd.V_mk ul256_0 ge256_0)
 clear hva_ hvn_ hvc_ ge256_0 ul256_0
 clear hcc256 hce256
 have HR256_0:=am hi256_0
 have HC256_0:=am hl256_0
 clear hi256_0 hl256_0
 replace p256:=eq_true p256
 replace q256:=eq_true q256
 rotate_left
 obtain rfl:=Option.some.inj H.out
 rotate_left
 all_goals (go_wp2_with (first|((with_reducible refine gate_callee (f:=103) rfl ?_);refine zc (some 15) Tryz.func103 #[.slice A256_0 (rd_L1 l0 x9_1).length c256_0] (nat_trim.calls _ (fun k_=>(P0_ k_∨w.heap.size≤k_)) _ _ _ _ _ HL256_0.out A7.out) ?_;rintro e w9 ⟨v258,rfl,ho0,hb⟩;refine ⟨_,rfl,?_⟩;replace HO_3:=zVb HO_3 hb;replace HO_7:=zVb HO_7 hb;replace HL256_0:=zVb HL256_0 hb;have HO259:=am (Kd.V_lower (Kd.V_mono (ok':=fun k_=>(P0_ k_∨w.heap.size≤k_)) ho0 (fun k_ hk_=>Or.elim hk_ (fun hs_=>hs_) (fun hn_=>(.inr (Nat.le_trans (zS HB) hn_))))) (zS HB));replace HR256_0:=am (Kd.C_below (zC HR256_0.out) hb);replace HB:=zBs HB hb;clear hb ho0;obtain ⟨Ao10,co10,eo10⟩:=Kd.V_slice HO_3.out;subst eo10;obtain ⟨Ao11,co11,eo11⟩:=Kd.V_slice HO259.out;subst eo11)|((with_reducible refine gate_callee (f:=107) rfl ?_);refine zc (some 16) Tryz.func107 #[.slice Ao10 x3_1.length co10, .slice Ao11 t257.length co11] (nat_times.calls _ _ _ _ _ _ _ _ _ (zC ((Kd.V_reads' HO_3.out).2.2)) ((Kd.V_reads' HO_3.out).2.1) (zC ((Kd.V_reads' HO259.out).2.2)) ((Kd.V_reads' HO259.out).2.1) A8.out) ?_;rintro e w12 ⟨v261,rfl,ho0,hb⟩;refine ⟨_,rfl,?_⟩;replace HO_3:=zVb HO_3 hb;replace HO_7:=zVb HO_7 hb;replace HL256_0:=zVb HL256_0 hb;replace HO259:=zVb HO259 hb;have HO262:=am (Kd.V_lower (Kd.V_mono (ok':=fun k_=>(P0_ k_∨w.heap.size≤k_)) ho0 (fun k_ hk_=>(.inr (Nat.le_trans (zS HB) hk_)))) (zS HB));replace HR256_0:=am (Kd.C_below (zC HR256_0.out) hb);replace HB:=zBs HB hb;clear hb ho0)))
 ·go_roundg k1
  case measure=>have:=HK1.out;omega
  case rel=>exact ⟨(t260),(wrap64 (x9_1+1)),z1,H,(zH HK1),⟨zV HO262⟩,⟨zV HO_7⟩,⟨zB HB⟩⟩
 go_ret
 exact ⟨_,z2,zV HO_3,zB HB⟩
end Go.Proofs.Yy.PTx
end
