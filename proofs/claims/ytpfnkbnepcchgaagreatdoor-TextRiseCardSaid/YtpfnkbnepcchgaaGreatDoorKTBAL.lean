/- Part 12 of what the proof needs. -/
import Derived.Test.YtpfnkbnepcchgaaGreatDoorKTBAK
set_option linter.unusedSimpArgs false
set_option linter.unusedVariables false
section
set_option maxHeartbeats 8000000
set_option maxRecDepth 100000
namespace Go.Proofs.Yy.PTx
open Go.RowKit Go.Proofs.Yy.Z Go.Proofs.Yw.PrintWords Go.Proofs.Yw.PrintLast Go.Proofs.Yw.PrintMore
open Go.Proofs.Yy.M
attribute [local go_sem] runx_add64 runx_sub64 eql_cc eql_nc neq_cc neq_nc
attribute [local go_sem] max2_int min2_int max_two min_two max_three min_three max_four min_four
def nat_lifted.l0:Nat→Int→List Int→List Int→Int→Int→Option (List Int)
  | 0,_,_,_,_,_=>none
  | k+1,x1,x5,x12,x13,x14=>if x14<x13 then (if 0≤x14 then (if x14<(x12.length:Int) then (if x14<(x5.length:Int) then (if 0≤x1 then ((some (x5.set (x14:Int).toNat (Go.bits .or .u64 (rd x5 x14) (shl .u64 (rd x12 x14) x1)):List Int)).bind fun y165=>(if x1 > 0 then (if 0≤(wrap64 (64 - x1)) then (if 0≤(wrap64 (x14+1)) then (if (wrap64 (x14+1))<(x5.length:Int) then (nat_lifted.l0 k x1 (y165.set ((wrap64 (x14+1)):Int).toNat (shr .u64 (rd x12 x14) (wrap64 (64 - x1)))) x12 x13 (wrap64 (x14+1))) else (none)) else (none)) else (none)) else (nat_lifted.l0 k x1 y165 x12 x13 (wrap64 (x14+1))))) else (none)) else (none)) else (none)) else (none)) else (some x5)
def nat_lifted.f (k:Nat) (l0:List Int) (a1:Int):Option (List Int):=if 0≤(wrap64 ((l0.length:Int)+1)) then (if (wrap64 ((l0.length:Int)+1):Int).toNat≤35184372088832 then (nat_lifted.l0 k a1 (List.replicate (wrap64 ((l0.length:Int)+1):Int).toNat 0) l0 (l0.length:Int) 0) else (none)) else (none)
theorem nat_lifted.mono_l:∀ k,(∀ y0 y1 y2 y3 y4,LeO (nat_lifted.l0 k y0 y1 y2 y3 y4) (nat_lifted.l0 (k+1) y0 y1 y2 y3 y4))
  | 0=>fun _ _ _ _ _ r h=>by simp [nat_lifted.l0] at h
  | k+1=>by
    have ih0:=nat_lifted.mono_l k
    · intro y0 y1 y2 y3 y4
      unfold nat_lifted.l0
      repeat' (with_reducible first|exact ih0 _ _ _ _ _|exact zm|exact zv|refine zI ?_ ?_|refine zO ?_ fun _=>?_)
theorem nat_lifted.mono:∀ a0 a1 k,LeO (nat_lifted.f k a0 a1) (nat_lifted.f (k+1) a0 a1):=by
  intro a0 a1 k
  have ih0:=nat_lifted.mono_l k
  unfold nat_lifted.f
  repeat' (with_reducible first|exact ih0 _ _ _ _ _|exact zm|exact zv|refine zI ?_ ?_|refine zO ?_ fun _=>?_)
def nat_lifted.T5:Bool × List (List Nat × List Nat):=(true, [([], []),([], []),([0,1], [0,1]),([2], [2]),([], []),([], []),([4,5], [4,5]),([3,6], [3,6]),([0,1,0,1,2,3,4,5,6,7], [0,1]),([8,7,0,1,2,3,4,5,6,7], [7,8])])
def nat_lifted.B5:List Nat := [0,0,3,7,0,0,48,127,255,511]
theorem nat_lifted.tab5:rtab .any (opsOf Tryz.f104 5)=nat_lifted.T5:=by kernel_rfl
theorem nat_lifted.bits5:waitsOk nat_lifted.T5.2 nat_lifted.B5=true:=by kernel_rfl
theorem nat_lifted.calls (k:Nat) (A0:Option Addr) (c0:Nat) (l0:List Int) (a1:Int) (r:List Int) (w:World) (hr0:Kd.C (Kd.int .u64) w A0 l0.length l0) (hc0:l0.length≤c0) (h:nat_lifted.f k l0 a1=some r) :
    Calls Tryz.prog 104 #[.slice A0 l0.length c0, .int .i64 a1] w fun e w' => ∃ v0_:Value,e = .returned (v0_)∧Kd.R (Kd.int .u64) 25 w' w.heap.size (fun _=>True) v0_ r∧Below w.heap.size w w':=by
 have HR0:=am hr0
 have HC0:=am hc0
 clear hr0 hc0
 have HB:=am (Below.refl w.heap.size w)
 have H:=am h
 unfold nat_lifted.f at H
 clear h
 generalize hji3:(wrap64 ((l0.length:Int)+1):Int)=ji3 at H
 have hji3w:(IntKind.i64.wrap ((l0.length:Int)+1))=ji3:=(i64_w _).trans hji3
 replace H:=zit H
 obtain ⟨c4b0,c4b1,H⟩:=H
 replace H:=zit H
 obtain ⟨c5b0,c5b1,H⟩:=H
 generalize hy160:(List.replicate (ji3:Int).toNat 0:List Int)=y160 at H
 have Ny160:=zY hy160
 clear hy160
 go_enter Tryz.func104,Tryz.ntmps104
 go_wp2_with (first|((with_reducible refine gate_dst (N:=11) rfl ?_);refine Kd.R_make (Kd.int .u64) _ 25 rfl (N:=11) rfl 88 _ _ rfl ji3 (by first|rfl|(simp only [List.length_drop,List.length_take];rfl)) (by first|rfl|(simp only [List.length_drop,List.length_take];rfl)) Tryz.underlying88 (.int .u64 0) 8 info25 rfl (by decide) (by omega) 0 (ok:=fun _=>True) (okp:=fun _=>True) rfl (fun _ hk=>hk) trivial (zD) (Nat.le_trans (Nat.mul_le_mul_right _ (zD:ji3.toNat≤35184372088832)) (by omega)) (Below.refl _ _) (Nat.le_refl _) ?_;intro v161 w6 ho7 hb hg_ hnew_;clear hg_ hnew_;(first|rw [← Ny160.out] at ho7|(simp only [Int.reduceToNat] at ho7;rw [← Ny160.out] at ho7));have HO162:=am (Kd.R_lower ho7 (zS HB));replace HB:=zBs HB hb;clear hb ho7))
 go_loopg [14] k (fun kq v14 w' => ∃ (x5_1:List Int) (x14_1:Int),v14 = .int .i64 x14_1∧Aside0 (nat_lifted.l0 kq a1 x5_1 l0 (l0.length:Int) x14_1=some r)∧Aside0 (kq≤k)∧Aside0 (Kd.R (Kd.int .u64) 25 w' w.heap.size (fun _=>True) v161 x5_1)∧Aside0 (Below w.heap.size w w'))
 case atStart=>exact ⟨(y160),(0),z1,H,zL,⟨zR HO162⟩,⟨zB HB⟩⟩
 clear H
 obtain ⟨x5_1,x14_1,rfl,H,HK1,HO_5,HB⟩:=hrel
 obtain _|k1:=gk
 ·exact zz H rfl
 simp only [nat_lifted.l0] at H
 replace H:=zsd H
 rcases H with ⟨c8b0,H⟩|⟨c8b0,H⟩
 replace H:=zid H
 obtain ⟨c9b0,H⟩:=H
 replace H:=zid H
 obtain ⟨c10b0,H⟩:=H
 replace H:=zid H
 obtain ⟨c11b0,H⟩:=H
 replace H:=zit H
 obtain ⟨c12b0,c12b1,H⟩:=H
 generalize hji13:(shl .u64 (rd l0 x14_1) a1:Int)=ji13 at H
 have hji13_:(IntKind.u64.wrap ((rd l0 x14_1) * 2 ^ min a1.toNat 64))=ji13:=hji13
 have hji13z:a1≤64→(IntKind.u64.wrap ((rd l0 x14_1) * 2 ^ a1.toNat))=ji13:=shl_small hji13
 obtain ⟨y165,Ny165,H⟩:=zw H
 replace H:=zsdg H
 rcases H with ⟨c15b0,H⟩|⟨c15b0,H⟩
 generalize hji16:(wrap64 (64 - a1):Int)=ji16 at H
 have hji16w:(IntKind.i64.wrap (64 - a1))=ji16:=(i64_w _).trans hji16
 replace H:=zit H
 obtain ⟨c17b0,c17b1,H⟩:=H
 generalize hji18:(shr .u64 (rd l0 x14_1) (ji16):Int)=ji18 at H
 have hji18_:((rd l0 x14_1) / 2 ^ min (ji16).toNat 64)=ji18:=hji18
 have hji18z:(ji16)≤64→((rd l0 x14_1) / 2 ^ (ji16).toNat)=ji18:=shr_small hji18
 generalize hji19:(wrap64 (x14_1+1):Int)=ji19 at H
 have hji19w:(IntKind.i64.wrap (x14_1+1))=ji19:=(i64_w _).trans hji19
 replace H:=zid H
 obtain ⟨c20b0,H⟩:=H
 replace H:=zid H
 obtain ⟨c21b0,H⟩:=H
 generalize hy166:(y165.set ((ji19):Int).toNat (ji18):List Int)=y166 at H
 have Ny166:=zY hy166
 clear hy166
 have p163:0≤(x14_1:Int):=zD
 have q163:x14_1<(l0.length:Int):=zD
 obtain ⟨ad163,e163,hx163_0⟩:=Kd.at_int HR0.out x14_1 p163 q163
 cases e163
 replace hx163_0:=(HB.out.cell (World.block_lt_of_cell? w _ hx163_0)).trans hx163_0
 replace p163:=eq_true p163
 replace q163:=eq_true q163
 rotate_left
 have p163:0≤(x14_1:Int):=zD
 have q163:x14_1<(l0.length:Int):=zD
 obtain ⟨ad163,e163,hx163_0⟩:=Kd.at_int HR0.out x14_1 p163 q163
 cases e163
 replace hx163_0:=(HB.out.cell (World.block_lt_of_cell? w _ hx163_0)).trans hx163_0
 replace p163:=eq_true p163
 replace q163:=eq_true q163
 rotate_left
 ·obtain rfl:=Option.some.inj H.out
  go_wp2
  go_ret
  exact ⟨_,by first|exact z3|(simp only [← hji3];exact z3)|exact z2,zR HO_5,zB HB⟩
 all_goals (try go_wp2)
 all_goals
  replace HO_5:=am (Kd.R_drew HO_5.out)
  replace HB:=am (below_drew1 HB.out)
  obtain ⟨Ao24,co24,eo24⟩:=Kd.R_slice HO_5.out
  (first|subst eo24|(injection eo24 with f1_ f2_ f3_;have f4_:=f1_.symm;have f5_:=f3_.symm;clear f1_ f2_ f3_;subst f4_;subst f5_))
  obtain ⟨p164,q164,ad164,rfl,hx164_0⟩:=zA (Kd.at_int (Kd.R_reads' HO_5.out).2.2 x14_1)
  have p14:0≤(x14_1:Int):=zD
  have q14:(x14_1:Int)<((x5_1.length:Int):Int):=zD
  obtain ⟨go14,co14,eo14,gb14,gl14,cl14,HG14⟩:=Kd.R_form HO_5.out (by omega)
  (first|cases eo14|(injection eo14 with ea_ en_ ec_;(first|subst ea_|(injection ea_ with ea_;subst ea_));subst ec_;clear en_))
  have GB14:=am gb14
  have GG14:=am HG14
  clear gb14 gl14 HG14
  (first|simp only [add_plain] at hx164_0|skip)
  obtain ⟨hx14_0,hf14_0⟩:=Kd.R_celln 0 HO_5.out (x14_1:Int) p14 q14
  replace p14:=eq_true p14
  replace q14:=eq_true q14
  have HP25:=Kd.R_putn HO_5.out (x14_1:Int) (Go.bits .or .u64 (rd x5_1 x14_1) (ji13))
  rw [← Ny165.out] at HP25
  have HQ25:=am HP25
  clear HP25
  refine start_ (n:=10) (S:=fun w'=>w'.cell? ⟨go14,(x14_1).toNat,none⟩=some (.int .u64 (rd x5_1 x14_1))) (ds := [9]) (Array.replicate 10 false) (by kernel_rfl) rfl rfl (hx164_0) (fun hHeld=>?_);refine with_tabW nat_lifted.tab5 nat_lifted.bits5 (fun HT_ HW_=>?_)
 ·generalize wr.drew=w23 at HO_5 HB GG14 HQ25 hf14_0 hx14_0 hx164_0 hHeld ⊢
  refine zp HT_ 0 (some 19) ?_
  refine zp HT_ 1 (some 20) ?_
  refine zp HT_ 2 (some 21) ?_
  refine zp HT_ 4 (some 23) ?_
  refine zp HT_ 5 (some 24) ?_
  refine zp HT_ 6 (some 25) ?_
  refine zt HT_ HW_ 3 (some 22) hHeld ?_
  refine zp HT_ 7 (some 26) ?_
  refine zp HT_ 8 (some 27) ?_
  refine last_ (i:=9) (N:=none) #[true,true,true,true,true,true,true,true,true,true] rfl rfl (one_of HT_.out (by kernel_rfl)) (by decide) (fun K hK=>?_)
  refine skip_ (w1:=?_) (by rfl) rfl ?_ ?_
  rotate_left
  ·go_simp
   rfl
  refine hK.out _ _ ?_
  clear hK K
  refine done_ (done_of HT_.out (by kernel_rfl)) ?_
  have n0_:Aside0 (Kd.R (Kd.int .u64) 25 (w23.setCell ⟨go14,(x14_1:Int).toNat,none⟩ (.int .u64 (Go.bits .or .u64 (rd x5_1 x14_1) (ji13)))) w.heap.size (fun _=>True) (.slice (some ⟨go14,0,none⟩) x5_1.length co24) y165):=⟨zR HQ25⟩
  have n1_:Aside0 (Below w.heap.size w (w23.setCell ⟨go14,(x14_1:Int).toNat,none⟩ (.int .u64 (Go.bits .or .u64 (rd x5_1 x14_1) (ji13))))):=⟨zB HB⟩
  (try clear HO_5)
  (try clear HB)
  generalize (w23.setCell ⟨go14,(x14_1:Int).toNat,none⟩ (.int .u64 (Go.bits .or .u64 (rd x5_1 x14_1) (ji13))))=w26 at n0_ n1_ ⊢
  have HO_5:=n0_
  have HB:=n1_
  clear n0_ n1_
  have p22:0≤((ji19):Int):=zD
  have q22:((ji19):Int)<((x5_1.length:Int):Int):=zD
  obtain ⟨hx22_0,hf22_0⟩:=Kd.R_celln 0 HO_5.out ((ji19):Int) p22 q22
  replace p22:=eq_true p22
  replace q22:=eq_true q22
  obtain ⟨hy27_,hz27_⟩:=Kd.R_celln 0 HO_5.out ((ji19):Int) (zD) (zD)
  have HP27:=Kd.R_putg HO_5.out ((ji19):Int) ji18
  try go_wp2_with (first|((with_reducible refine gate_store (t:=25) (p:=37) rfl ?_);refine store_event (t:=25) (p:=37) (v:=?vo_w28) (w1:=(w26.setCell ⟨go14,((ji19):Int).toNat,none⟩ (.int .u64 ji18))) ?hg ?ho ?hn ?hr ?_;(case ho=>rfl);(case hg=>rfl);(case hn=>rfl);(case hr=>first|(go_simp;done)|(go_simp;rfl));intro w28 hw;have hg:w26.grownBy w28 (some go14):=(by rw [hw];exact HP27.2);have hp_:Kd.R (Kd.int .u64) 25 w28 w.heap.size (fun _=>True) (.slice (some ⟨go14,0,none⟩) x5_1.length co24) y166:=(by rw [hw,Ny166.out];exact HP27.1);clear HP27;replace HO_5:=am (hp_);replace HB:=am ((by rw [hw];exact below_set (HB.out) GB14.out:Below w.heap.size w w28));clear hg hw hp_))
  go_roundg k1
  case measure=>have:=HK1.out;omega
  case rel=>exact ⟨(y166),(ji19),(by first|rfl|(simp;done)|(simp only [← hji19] <;> (first|rfl|simp))|(simp [*];done)),H,(zH HK1),⟨zR HO_5⟩,⟨zB HB⟩⟩
 generalize wr.drew=w29 at HO_5 HB GG14 HQ25 hf14_0 hx14_0 hx164_0 hHeld ⊢
 refine zp HT_ 0 (some 19) ?_
 refine zp HT_ 1 (some 20) ?_
 refine zp HT_ 2 (some 21) ?_
 refine zp HT_ 4 (some 23) ?_
 refine zp HT_ 5 (some 24) ?_
 refine zp HT_ 6 (some 25) ?_
 refine zt HT_ HW_ 3 (some 22) hHeld ?_
 refine zp HT_ 7 (some 26) ?_
 refine zp HT_ 8 (some 27) ?_
 refine last_ (i:=9) (N:=none) #[true,true,true,true,true,true,true,true,true,true] rfl rfl (one_of HT_.out (by kernel_rfl)) (by decide) (fun K hK=>?_)
 refine skip_ (w1:=?_) (by rfl) rfl ?_ ?_
 rotate_left
 ·go_simp
  rfl
 refine hK.out _ _ ?_
 clear hK K
 refine done_ (done_of HT_.out (by kernel_rfl)) ?_
 try go_wp2
 go_roundg k1
 case measure=>have:=HK1.out;omega
 case rel=>exact ⟨(y165),(wrap64 (x14_1+1)),z1,H,(zH HK1),⟨zR HQ25⟩,⟨zB HB⟩⟩
def nat_Shl.f (k:Nat) (l0:List Int) (a1:Int):Option (List Int × Option Int):=if a1<0 then (some (([]:List Int),some 1)) else (if a1 > 65536 then (some (([]:List Int),some 3)) else ((nat_trim.f k l0).bind fun t167=>(if (t167.length:Int)=0 then (some (([]:List Int),none)) else (if 0≤(wrap64 (Int.tdiv a1 64)) then (if (wrap64 (Int.tdiv a1 64):Int).toNat≤35184372088832 then ((some (List.replicate (wrap64 (Int.tdiv a1 64):Int).toNat 0:List Int)).bind fun y170=>((nat_lifted.f k t167 (Int.tmod a1 64)).bind fun t173=>(if y170.length+t173.length<17592186044416 then ((nat_trim.f k (y170 ++ t173)).bind fun t179=>(some (t179,none))) else (none)))) else (none)) else (none)))))
theorem nat_Shl.mono:∀ a0 a1 k,LeO (nat_Shl.f k a0 a1) (nat_Shl.f (k+1) a0 a1):=by
  intro a0 a1 k
  unfold nat_Shl.f
  repeat' (with_reducible first|exact nat_lifted.mono _ _ _|exact nat_trim.mono _ _|exact zm|exact zv|refine zI ?_ ?_|refine zO ?_ fun _=>?_)
def nat_Shl.T8:Bool × List (List Nat × List Nat):=(true, [([], []),([0], [0]),([1,1], [1]),([], []),([], []),([4], [4]),([3,5], [3,5]),([2,6,6], [2,6]),([7,7], [7]),([8,8,0,1,2,3,4,5,6,7,8], [8]),([9,0,1,2,3,4,5,6,7,8,9], [])])
def nat_Shl.B8:List Nat := [0,1,3,0,0,16,56,127,255,511,1023]
theorem nat_Shl.tab8:rtab .any (opsOf Tryz.f49 8)=nat_Shl.T8:=by kernel_rfl
theorem nat_Shl.bits8:waitsOk nat_Shl.T8.2 nat_Shl.B8=true:=by kernel_rfl
theorem nat_Shl.calls (k:Nat) (P0_:Nat→Prop) (A0:Option Addr) (c0:Nat) (l0:List Int) (a1:Int) (r1:List Int) (r2:Option Int) (w:World) (hs0:Kd.V (Kd.int .u64) 25 w w.heap.size (fun k_=>P0_ k_) (.slice A0 l0.length c0) l0) (h:nat_Shl.f k l0 a1=some (r1,r2)) :
    Calls Tryz.prog 49 #[.slice A0 l0.length c0, .int .i64 a1] w fun e w' => ∃ v0_:Value,e = .returned (.tuple #[v0_,errW r2])∧Kd.V (Kd.int .u64) 25 w' w.heap.size (fun k_=>(P0_ k_∨w.heap.size≤k_)) v0_ r1∧Below w.heap.size w w':=by
 have hu27:=Tryz.underlying27
 have hu64:=Tryz.underlying64
 have HO0:=am (show Kd.V (Kd.int .u64) 25 w w.heap.size (fun k_=>(P0_ k_∨w.heap.size≤k_)) (.slice A0 l0.length c0) l0 from Kd.V_mono hs0 (fun k_ hk => .inl hk))
 have HB:=am (Below.refl w.heap.size w)
 have H:=am h
 unfold nat_Shl.f at H
 clear h
 replace H:=zsd H
 rcases H with ⟨c3b0,H⟩|⟨c3b0,H⟩
 obtain ⟨rfl,rfl⟩:=zJ2 H
 rotate_left
 replace H:=zsdg H
 rcases H with ⟨c4b0,H⟩|⟨c4b0,H⟩
 obtain ⟨rfl,rfl⟩:=zJ2 H
 rotate_left
 replace H:=zo H
 obtain ⟨t167,A5,H⟩:=H
 replace H:=zsk H
 rcases H with ⟨c6b0,c6b1,H⟩|⟨c6b0,c6b1,c6,H⟩
 obtain ⟨rfl,rfl⟩:=zJ2 H
 rotate_left
 ·have c6b2:¬ (t167 = []):=fun h_=>c6 (by rw [h_];rfl)
  generalize hji9:(wrap64 (Int.tdiv a1 64):Int)=ji9 at H
  (try rw [hji9] at A5)
  have hji9w:(IntKind.i64.wrap (Int.tdiv a1 64))=ji9:=(i64_w _).trans hji9
  replace H:=zit H
  obtain ⟨c10b0,c10b1,H⟩:=H
  replace H:=zit H
  obtain ⟨c11b0,c11b1,H⟩:=H
  obtain ⟨y170,Ny170,H⟩:=zw H
  replace H:=zo H
  obtain ⟨t173,A12,H⟩:=H
  replace H:=zil H
  obtain ⟨LMc13,H⟩:=H
  generalize hy176:(y170 ++ t173:List Int)=y176 at H
  have Ny176:=zY hy176
  clear hy176
  replace H:=zo H
  obtain ⟨t179,A14,H⟩:=H
  obtain ⟨rfl,rfl⟩:=zJ2 H
  go_enter Tryz.func49,Tryz.ntmps49
  try go_wp2_with (first|((with_reducible refine gate_callee (f:=103) rfl ?_);refine zc (some 13) Tryz.func103 #[.slice A0 l0.length c0] (nat_trim.calls _ (fun k_=>(P0_ k_∨w.heap.size≤k_)) _ _ _ _ _ HO0.out A5.out) ?_;rintro e w15 ⟨v168,rfl,ho0,hb⟩;refine ⟨_,rfl,?_⟩;replace HO0:=zVb HO0 hb;have HO169:=am (Kd.V_lower (Kd.V_mono (ok':=fun k_=>(P0_ k_∨w.heap.size≤k_)) ho0 (fun k_ hk_=>Or.elim hk_ (fun hs_=>hs_) (fun hn_=>(.inr (Nat.le_trans (zS HB) hn_))))) (zS HB));replace HB:=zBs HB hb;clear hb ho0;obtain ⟨Ao16,co16,eo16⟩:=Kd.V_slice HO169.out;subst eo16))
  replace HO0:=am (Kd.V_drew HO0.out)
  replace HO169:=am (Kd.V_drew HO169.out)
  replace HB:=am (below_drew1 HB.out)
  refine start_ (n:=11) (S:=fun w'=>True) (ds := []) (Array.replicate 11 false) (by kernel_rfl) rfl rfl trivial (fun hHeld=>?_);refine with_tabW nat_Shl.tab8 nat_Shl.bits8 (fun HT_ HW_=>?_)
  generalize w15.drew=w17 at HO0 HO169 HB hHeld ⊢
  refine zp HT_ 0 (some 17) ?_
  refine zp HT_ 1 (some 18) ?_
  refine zp HT_ 3 (some 20) ?_
  refine zp HT_ 4 (some 21) ?_
  refine zp HT_ 5 (some 22) ?_
  refine join_ (σ:=Value × Value) 4 #[true,true,true,true,true,true,true,false,false,false,false] (fun s_ => [(19,s_.1),(23,s_.2)]) (fun s_ w'=>(Kd.V (Kd.int .u64) 25 w' w.heap.size (fun k_=>(P0_ k_∨w.heap.size≤k_)∧some k_≠(s_.1:Value).ownBlock∧some k_≠(s_.2:Value).ownBlock) (.slice A0 l0.length c0) l0)∧(Kd.V (Kd.int .u64) 25 w' w.heap.size (fun k_=>(P0_ k_∨w.heap.size≤k_)∧some k_≠(s_.1:Value).ownBlock∧some k_≠(s_.2:Value).ownBlock) (.slice Ao16 t167.length co16) t167)∧(Kd.R (Kd.int .u64) 25 w' w.heap.size (fun k_=>(w.heap.size≤k_)∧some k_≠(s_.2:Value).ownBlock) s_.1 y170)∧(Kd.R (Kd.int .u64) 25 w' w.heap.size (fun k_=>(w.heap.size≤k_)∧some k_≠(s_.1:Value).ownBlock) s_.2 t173)∧(Below w.heap.size w w')) ?_ ?_
  rotate_left
  ·intro hCont
   refine two_ (i:=2) (j:=6) (Ni:=some 19) (Nj:=some 23) #[true,true,true,true,true,true,false,false,false,false,false] #[true,true,false,true,true,true,true,false,false,false,false] rfl rfl rfl rfl (two_of HT_.out (by kernel_rfl)) (by decide) (by decide) (fun K hK=>?_) (fun K hK=>?_)
   ·skip
    refine Kd.R_make_step (Kd.int .u64) _ 25 (by rfl) (N:=19) rfl 88 _ _ rfl ji9 (by first|rfl|(simp only [List.length_drop,List.length_take];rfl)) (by first|rfl|(simp only [List.length_drop,List.length_take];rfl)) Tryz.underlying88 (.int .u64 0) 8 info25 rfl (by decide) (by omega) 0 (ok:=fun _=>True) (okp:=fun _=>True) rfl (fun _ hk=>hk) trivial (zD) (Nat.le_trans (Nat.mul_le_mul_right _ (zD:ji9.toNat≤35184372088832)) (by omega)) (Below.refl _ _) (Nat.le_refl _) ?_
    intro v171 w18 ho19 hb hg_ hnew_
    clear hg_ hnew_
    (first|rw [← Ny170.out] at ho19|(simp only [Int.reduceToNat] at ho19;rw [← Ny170.out] at ho19))
    replace HO0:=am (Kd.V_elder' (zV HO0) (Kd.R_base ho19) hb)
    replace HO169:=am (Kd.V_elder' (zV HO169) (Kd.R_base ho19) hb)
    have HO172:=am (Kd.R_lower (Kd.R_newM (M:=fun k_=>(w.heap.size≤k_)) ho19 (zS HB) (fun k_ h_=>h_)) (zS HB))
    replace HB:=zBs HB hb
    clear hb ho19
    refine hK.out _ _ trivial (fun hHeld=>?_)
    clear hK K
    refine norm_ (a':=?_) ?_ ?_
    rotate_left
    ·show Act.put _ (some 19) _=_
     simp only [Act.put,List.setIfInBounds_toArray,List.set_cons_zero,List.set_cons_succ,i64_w,i32_w]
     rfl
    refine zu HT_ 6 (some 23) (fun K hK=>?_)
    refine goes_ Tryz.func104 (by kernel_rfl) rfl #[.slice Ao16 t167.length co16, .int .i64 (Int.tmod a1 64)] (by rfl) rfl rfl (by (try simp only [List.map_toArray,List.map_cons,List.map_nil]);first|done|rfl|(simp only [List.length_drop,List.length_take];rfl)) ?_
    with_reducible refine (nat_lifted.calls k _ _ t167 (Int.tmod a1 64) t173 _ ?side1 ?side2 A12.out).mono ?_
    (case side1=>repeat (first|exact (Kd.V_reads' HO169.out).2.2|(with_reducible refine Kd.C_alloc ?_ _)|(with_reducible refine Kd.C_drewN ?_ _)|(with_reducible refine Kd.C_drew ?_)))
    (case side2=>exact (Kd.V_reads' HO169.out).2.1)
    rintro e w20 ⟨v174,rfl,ho0,hb⟩
    refine ⟨_,rfl,?_⟩
    replace HO0:=am (Kd.V_elder' (zV HO0) (Kd.R_base ho0) hb)
    replace HO169:=am (Kd.V_elder' (zV HO169) (Kd.R_base ho0) hb)
    have HO175:=am (Kd.R_lower (Kd.R_new' (Kd.R_newM (M:=fun k_=>(w.heap.size≤k_)) ho0 (zS HB) (fun k_ h_=>h_)) (Kd.R_lt (zR HO172))) (zS HB))
    replace HO172:=am (Kd.R_elder' (zR HO172) (Kd.R_base ho0) hb)
    replace HB:=zBs HB hb
    (try clear hb)
    (try clear hb2)
    (try clear hk)
    (try clear hi)
    (try clear ho0)
    refine hK.out _ _ trivial (fun hHeld=>?_)
    clear hK K
    refine norm_ (a':=?_) ?_ ?_
    rotate_left
    ·show Act.put _ (some 23) _=_
     simp only [Act.put,List.setIfInBounds_toArray,List.set_cons_zero,List.set_cons_succ,i64_w,i32_w]
     rfl
    exact norm_ (by simp only [putAll,Act.put,List.setIfInBounds_toArray,List.set_cons_zero,List.set_cons_succ]) (hCont (v171,v174) _ ⟨(by (with_reducible repeat (first|apply Kd.V_alloc|apply Kd.V_drewN|apply Kd.V_drew));exact Kd.V_mono HO0.out (fun _ hk=>⟨hk.1.1,⟨hk.1.2,hk.2⟩⟩)),(by (with_reducible repeat (first|apply Kd.V_alloc|apply Kd.V_drewN|apply Kd.V_drew));exact Kd.V_mono HO169.out (fun _ hk=>⟨hk.1.1,⟨hk.1.2,hk.2⟩⟩)),(by (with_reducible repeat (first|apply Kd.R_alloc|apply Kd.R_drewN|apply Kd.R_drew));exact Kd.R_mono HO172.out (fun _ hk=>⟨hk.1.1,hk.2⟩)),(by (with_reducible repeat (first|apply Kd.R_alloc|apply Kd.R_drewN|apply Kd.R_drew));exact Kd.R_mono HO175.out (fun _ hk=>⟨hk.1.1,hk.2⟩)),(zB HB)⟩)
   skip
   refine goes_ Tryz.func104 (by kernel_rfl) rfl #[.slice Ao16 t167.length co16, .int .i64 (Int.tmod a1 64)] (by rfl) rfl rfl (by (try simp only [List.map_toArray,List.map_cons,List.map_nil]);first|done|rfl|(simp only [List.length_drop,List.length_take];rfl)) ?_
   with_reducible refine (nat_lifted.calls k _ _ t167 (Int.tmod a1 64) t173 _ ?side1 ?side2 A12.out).mono ?_
   (case side1=>repeat (first|exact (Kd.V_reads' HO169.out).2.2|(with_reducible refine Kd.C_alloc ?_ _)|(with_reducible refine Kd.C_drewN ?_ _)|(with_reducible refine Kd.C_drew ?_)))
   (case side2=>exact (Kd.V_reads' HO169.out).2.1)
   rintro e w18 ⟨v174,rfl,ho0,hb⟩
   refine ⟨_,rfl,?_⟩
   replace HO0:=am (Kd.V_elder' (zV HO0) (Kd.R_base ho0) hb)
   replace HO169:=am (Kd.V_elder' (zV HO169) (Kd.R_base ho0) hb)
   have HO175:=am (Kd.R_lower (Kd.R_newM (M:=fun k_=>(w.heap.size≤k_)) ho0 (zS HB) (fun k_ h_=>h_)) (zS HB))
   replace HB:=zBs HB hb
   (try clear hb)
   (try clear hb2)
   (try clear hk)
   (try clear hi)
   (try clear ho0)
   refine hK.out _ _ trivial (fun hHeld=>?_)
   clear hK K
   refine norm_ (a':=?_) ?_ ?_
   rotate_left
   ·show Act.put _ (some 23) _=_
    simp only [Act.put,List.setIfInBounds_toArray,List.set_cons_zero,List.set_cons_succ,i64_w,i32_w]
    rfl
   refine zu HT_ 2 (some 19) (fun K hK=>?_)
   refine Kd.R_make_step (Kd.int .u64) _ 25 (by rfl) (N:=19) rfl 88 _ _ rfl ji9 (by first|rfl|(simp only [List.length_drop,List.length_take];rfl)) (by first|rfl|(simp only [List.length_drop,List.length_take];rfl)) Tryz.underlying88 (.int .u64 0) 8 info25 rfl (by decide) (by omega) 0 (ok:=fun _=>True) (okp:=fun _=>True) rfl (fun _ hk=>hk) trivial (zD) (Nat.le_trans (Nat.mul_le_mul_right _ (zD:ji9.toNat≤35184372088832)) (by omega)) (Below.refl _ _) (Nat.le_refl _) ?_
   intro v171 w19 ho20 hb hg_ hnew_
   clear hg_ hnew_
   (first|rw [← Ny170.out] at ho20|(simp only [Int.reduceToNat] at ho20;rw [← Ny170.out] at ho20))
   replace HO0:=am (Kd.V_elder' (zV HO0) (Kd.R_base ho20) hb)
   replace HO169:=am (Kd.V_elder' (zV HO169) (Kd.R_base ho20) hb)
   have HO172:=am (Kd.R_lower (Kd.R_new' (Kd.R_newM (M:=fun k_=>(w.heap.size≤k_)) ho20 (zS HB) (fun k_ h_=>h_)) (Kd.R_lt (zR HO175))) (zS HB))
   replace HO175:=am (Kd.R_elder' (zR HO175) (Kd.R_base ho20) hb)
   replace HB:=zBs HB hb
   clear hb ho20
   refine hK.out _ _ trivial (fun hHeld=>?_)
   clear hK K
   refine norm_ (a':=?_) ?_ ?_
   rotate_left
   ·show Act.put _ (some 19) _=_
    simp only [Act.put,List.setIfInBounds_toArray,List.set_cons_zero,List.set_cons_succ,i64_w,i32_w]
    rfl
   exact norm_ (by simp only [putAll,Act.put,List.setIfInBounds_toArray,List.set_cons_zero,List.set_cons_succ]) (hCont (v171,v174) _ ⟨(by (with_reducible repeat (first|apply Kd.V_alloc|apply Kd.V_drewN|apply Kd.V_drew));exact Kd.V_mono HO0.out (fun _ hk=>⟨hk.1.1,⟨hk.2,hk.1.2⟩⟩)),(by (with_reducible repeat (first|apply Kd.V_alloc|apply Kd.V_drewN|apply Kd.V_drew));exact Kd.V_mono HO169.out (fun _ hk=>⟨hk.1.1,⟨hk.2,hk.1.2⟩⟩)),(by (with_reducible repeat (first|apply Kd.R_alloc|apply Kd.R_drewN|apply Kd.R_drew));exact Kd.R_mono HO172.out (fun _ hk=>⟨hk.1.1,hk.2⟩)),(by (with_reducible repeat (first|apply Kd.R_alloc|apply Kd.R_drewN|apply Kd.R_drew));exact Kd.R_mono HO175.out (fun _ hk=>⟨hk.1.1,hk.2⟩)),(zB HB)⟩)
  rintro ⟨v171,v174⟩ w21 ⟨h0_,h1_,h2_,h3_,h4_⟩
  have n0_:Aside0 (Kd.V (Kd.int .u64) 25 w21 w.heap.size (fun k_=>(P0_ k_∨w.heap.size≤k_)∧some k_≠(v171:Value).ownBlock∧some k_≠(v174:Value).ownBlock) (.slice A0 l0.length c0) l0):=⟨h0_⟩
  have n1_:Aside0 (Kd.V (Kd.int .u64) 25 w21 w.heap.size (fun k_=>(P0_ k_∨w.heap.size≤k_)∧some k_≠(v171:Value).ownBlock∧some k_≠(v174:Value).ownBlock) (.slice Ao16 t167.length co16) t167):=⟨h1_⟩
  have n2_:Aside0 (Kd.R (Kd.int .u64) 25 w21 w.heap.size (fun k_=>(w.heap.size≤k_)∧some k_≠(v174:Value).ownBlock) v171 y170):=⟨h2_⟩
  have n3_:Aside0 (Kd.R (Kd.int .u64) 25 w21 w.heap.size (fun k_=>(w.heap.size≤k_)∧some k_≠(v171:Value).ownBlock) v174 t173):=⟨h3_⟩
  have n4_:Aside0 (Below w.heap.size w w21):=⟨h4_⟩
  clear HO0
  clear HO169
  clear HB
  clear h0_ h1_ h2_ h3_ h4_
  have HO0:=n0_
  have HO169:=n1_
  have HO172:=n2_
  have HO175:=n3_
  have HB:=n4_
  clear n0_ n1_ n2_ n3_ n4_
  have hHeld:=trivial
  obtain ⟨Ao23,co23,eo23⟩:=Kd.R_slice HO175.out
  (first|subst eo23|(injection eo23 with f1_ f2_ f3_;have f4_:=f1_.symm;have f5_:=f3_.symm;clear f1_ f2_ f3_;subst f4_;subst f5_))
  refine norm_ (a':=?_) ?_ ?_
  rotate_left
  ·simp only [putAll,Act.put,List.setIfInBounds_toArray,List.set_cons_zero,List.set_cons_succ]
   rfl
  refine zu HT_ 7 (some 24) (fun K hK=>?_)
  refine Kd.R_append_rows_step (Kd.int .u64) (w0:=w) w.heap.size (by rfl) (.tmp 19) (.tmp 23) 88 25 (.int .u64 0) 8 rfl Tryz.underlying88 info25 rfl (by decide) (by omega) v171 y170 t173 _ _ _ (fun k_=>(w.heap.size≤k_)∧some k_≠(.slice Ao23 t173.length co23:Value).ownBlock) (fun _=>False) rfl rfl ?aO ?aR (fun _ _ h=>h) (fun _ h=>h.elim) ?aF ?aB ?aS ?aL ?_
  (case aR=>repeat (first|exact (Kd.R_reads' HO175.out).2.2|(with_reducible refine Kd.C_alloc ?_ _)|(with_reducible refine Kd.C_drewN ?_ _)|(with_reducible refine Kd.C_drew ?_)))
  (case aB=>exact (zB HB))
  (case aF=>exact (fun k_ hk=>⟨(Nat.le_trans (zS HB) hk),Kd.fresh' (Kd.R_lt (zR HO175)) k_ hk⟩))
  (case aO=>exact (zR HO172))
  (case aS=>exact (zS HB))
  (case aL=>have:=LMc13.out;omega)
  intro v177 w22 ho hb hg hat
  rw [← Ny176.out] at ho
  replace HO0:=am (Kd.V_afterv (ok:=(fun k_=>(P0_ k_∨w.heap.size≤k_)∧some k_≠(.slice Ao23 t173.length co23:Value).ownBlock)) (by (with_reducible repeat (first|apply Kd.V_alloc|apply Kd.V_drewN|apply Kd.V_drew));exact Kd.V_mono HO0.out (fun _ hk=>⟨⟨hk.1,hk.2.2⟩,hk.2.1⟩)) hg hat)
  replace HO169:=am (Kd.V_afterv (ok:=(fun k_=>(P0_ k_∨w.heap.size≤k_)∧some k_≠(.slice Ao23 t173.length co23:Value).ownBlock)) (by (with_reducible repeat (first|apply Kd.V_alloc|apply Kd.V_drewN|apply Kd.V_drew));exact Kd.V_mono HO169.out (fun _ hk=>⟨⟨hk.1,hk.2.2⟩,hk.2.1⟩)) hg hat)
  replace HO175:=am (Kd.R_after (ok:=(fun k_=>(w.heap.size≤k_))) (zR HO175) hg hat)
  replace HB:=am (hb)
  have HO178:=am (ho)
  clear HO172 ho hb hg hat
  obtain ⟨Ao24,co24,eo24⟩:=Kd.R_slice HO178.out
  (first|subst eo24|(injection eo24 with f1_ f2_ f3_;have f4_:=f1_.symm;have f5_:=f3_.symm;clear f1_ f2_ f3_;subst f4_;subst f5_))
  refine hK.out _ _ trivial (fun hHeld=>?_)
  clear hK K
  refine norm_ (a':=?_) ?_ ?_
  rotate_left
  ·show Act.put _ (some 24) _=_
   simp only [Act.put,List.setIfInBounds_toArray,List.set_cons_zero,List.set_cons_succ,i64_w,i32_w]
   rfl
  refine zu HT_ 8 (some 25) (fun K hK=>?_)
  refine goes_ Tryz.func103 (by kernel_rfl) rfl #[.slice Ao24 y176.length co24] (by rfl) rfl rfl (by (try simp only [List.map_toArray,List.map_cons,List.map_nil]);first|done|rfl|(simp only [List.length_drop,List.length_take];rfl)) ?_
  with_reducible refine (nat_trim.calls k (fun k_=>some k_=(.slice Ao24 y176.length co24:Value).ownBlock) _ _ y176 t179 _ ?side1 A14.out).mono ?_
  (case side1=>exact Kd.R_V (Kd.R_tight rfl (HO178.out)))
  rintro e w25 ⟨v180,rfl,ho0,hb⟩
  refine ⟨_,rfl,?_⟩
  replace HO0:=zVb HO0 hb
  replace HO169:=zVb HO169 hb
  have HO181:=am (Kd.V_lower (Kd.V_mono (ok':=fun k_=>(P0_ k_∨w.heap.size≤k_)∧some k_≠(.slice Ao23 t173.length co23:Value).ownBlock) ho0 (fun k_ hk_=>⟨Or.elim hk_ (fun hs_=>(.inr (((HO178.out).1 k_ hs_.symm).1))) (fun hn_=>(.inr (Nat.le_trans (zS HB) hn_))),Or.elim hk_ (fun hs_=>((HO178.out).1 k_ hs_.symm).2) (fun hn_=>(Kd.fresh' (Kd.R_lt (zR HO175)) k_ hn_))⟩)) (zS HB))
  replace HO175:=zRb HO175 hb
  replace HO178:=zRb HO178 hb
  replace HB:=zBs HB hb
  (try clear hb)
  (try clear hb2)
  (try clear hk)
  (try clear hi)
  (try clear ho0)
  refine hK.out _ _ trivial (fun hHeld=>?_)
  clear hK K
  refine norm_ (a':=?_) ?_ ?_
  rotate_left
  ·show Act.put _ (some 25) _=_
   simp only [Act.put,List.setIfInBounds_toArray,List.set_cons_zero,List.set_cons_succ,i64_w,i32_w]
   rfl
  refine zp HT_ 9 (some 4) ?_
  refine zp HT_ 10 (some 5) ?_
  refine done_ (done_of HT_.out (by kernel_rfl)) ?_
  try go_wp2
  go_ret2
  exact ⟨_,by first|exact z3|(simp only [← hji9];exact z3)|exact z2,by (with_reducible repeat (first|apply Kd.V_alloc|apply Kd.V_drewN|apply Kd.V_drew));exact Kd.V_mono HO181.out (fun _ hk=>hk.1),zB HB⟩
 all_goals (go_enter Tryz.func49,Tryz.ntmps49;go_wp2_with (first|((with_reducible refine gate_callee (f:=103) rfl ?_);refine zc (some 13) Tryz.func103 #[.slice A0 l0.length c0] (nat_trim.calls _ (fun k_=>(P0_ k_∨w.heap.size≤k_)) _ _ _ _ _ HO0.out A5.out) ?_;rintro e w7 ⟨v168,rfl,ho0,hb⟩;refine ⟨_,rfl,?_⟩;replace HO0:=zVb HO0 hb;have HO169:=am (Kd.V_lower (Kd.V_mono (ok':=fun k_=>(P0_ k_∨w.heap.size≤k_)) ho0 (fun k_ hk_=>Or.elim hk_ (fun hs_=>hs_) (fun hn_=>(.inr (Nat.le_trans (zS HB) hn_))))) (zS HB));replace HB:=zBs HB hb;clear hb ho0;obtain ⟨Ao8,co8,eo8⟩:=Kd.V_slice HO169.out;subst eo8)))
 all_goals
  go_ret2
  exact ⟨_,z2,Kd.V_nil _ _ _ _ _,zB HB⟩
end Go.Proofs.Yy.PTx
end
section
set_option maxHeartbeats 8000000
set_option maxRecDepth 100000
namespace Go.Proofs.Yy.PTx
open Go.RowKit Go.Proofs.Yy.Z Go.Proofs.Yw.PrintWords Go.Proofs.Yw.PrintLast Go.Proofs.Yw.PrintMore Go.Proofs.Yy.M
attribute [local go_sem] max2_int min2_int max_two min_two max_three min_three max_four min_four
theorem infoStr:(Tryz.prog.info? 9).map (fun i=>(i.zero,i.size,i.bytes))=some (some (.string ⟨#[]⟩),1,16):=by kernel_rfl
def catL (ps:List ByteArray):List UInt8:=(ps.reverse.map (fun p=>p.data.toList)).flatten
def catB (ps:List ByteArray):ByteArray:=⟨(catL ps).toArray⟩
theorem catL_nil:catL [] = []:=rfl
theorem catL_cons (p:ByteArray) (ps:List ByteArray):catL (p :: ps)=catL ps ++ p.data.toList:=by
 unfold catL
 rw [List.reverse_cons,List.map_append,List.flatten_append]
 simp
theorem catL_drop_le (ps:List ByteArray) (n:Nat):(catL (ps.drop n)).length≤(catL ps).length:=by
 induction n generalizing ps with
 | zero=>simp
 | succ n ih =>
  cases ps with
  | nil=>simp
  | cons p r =>
   rw [List.drop_succ_cons,catL_cons,List.length_append]
   have:=ih r
   omega
theorem builder_write (B b:Nat) (l:List UInt8) (s:ByteArray) (w:World) (h:Lib.IsBuilderF 111 5 B b (Lib.byteCells l) w) (hlen:l.length+s.size≤140737488355328) (hBw:B≤w.heap.size) :
  Calls Tryz.prog 68 #[.pointer (some ⟨b,0,none⟩), .string s] w fun e w'=>e = .returned (.tuple #[.int .i64 s.size, .nilIface])∧Lib.IsBuilderF 111 5 B b (Lib.byteCells (l ++ s.data.toList)) w'∧Below B w w':=by
 refine (Any.Builder_WriteString_f { Tryz.lays105 with } Tryz.Builder_Extra_105 B b (Lib.byteCells l) s w h (by rw [show (Lib.byteCells l).length=l.length from List.length_map ..];exact hlen) hBw).mono ?_
 rintro e w' ⟨he,h1,h2⟩
 refine ⟨he, .inr ?_,h2⟩
 have e2:Lib.byteCells (l ++ s.data.toList)=Lib.byteCells l ++ Lib.strCells s:=by simp [Lib.byteCells,Lib.strCells]
 rw [e2]
 exact h1
theorem builder_new (w:World):Lib.IsBuilderF 111 5 w.heap.size w.heap.size (Lib.byteCells []) (w.alloc (.cells #[.pointer none, .slice none 0 0] 111)):=by
 rcases Lib.fresh_isBuilder 111 5 w with h|h
 ·exact .inl (Lib.BuilderAtF.of h)
 ·exact .inr (Lib.BuilderAtF.of h)
theorem fmt_size {a b:Int} {r:ByteArray} (h:strconv_FormatUint.f a b=some r):r.size≤20:=by
 unfold strconv_FormatUint.f at h
 by_cases hg:0≤a∧a<18446744073709551616∧b=10
 case neg=>rw [if_neg hg] at h;exact absurd h (by simp)
 rw [if_pos hg] at h
 obtain rfl:=Option.some.inj h
 show (Lib.decDigits a.toNat).toArray.size≤20
 rw [List.size_toArray,Lib.decDigits_length]
 by_cases h1:1≤a.toNat
 ·have:=Lib.numDigits_eq a.toNat h1 (by omega)
  split at this <;> omega
 ·rw [show a.toNat=0 by omega]
  unfold Lib.nDigits
  decide
theorem fmt_wrap {a b:Int} {r:ByteArray} (h:strconv_FormatUint.f a b=some r):wrap64 (19 - (r.size:Int))=19 - (r.size:Int):=by
 have:=fmt_size h
 unfold wrap64
 omega
theorem text_short {w:World} {A:Option Addr} {xs:List ByteArray} (h:Kd.C Kd.string w A xs.length xs):xs.length≤9223372036854775807:=Kd.C_max h
theorem text_all (xs:List ByteArray):catL (xs.drop ((xs.length:Int) - 1+1).toNat) = []:=by
 rw [show ((xs.length:Int) - 1+1).toNat=xs.length by omega,List.drop_length];rfl
theorem text_next {xs:List ByteArray} {v:Int} (hl:(catL xs).length≤140737488355328) (h0:0≤v) (h1:v<(xs.length:Int)) :
  (catL (xs.drop (v+1).toNat)).length+(rdOf ByteArray.empty xs v).size≤140737488355328∧catL (xs.drop (v - 1+1).toNat)=catL (xs.drop (v+1).toNat) ++ (rdOf ByteArray.empty xs v).data.toList:=by
 have e1:(v - 1+1).toNat=v.toNat:=by omega
 have e2:(v+1).toNat=v.toNat+1:=by omega
 have hlt:v.toNat<xs.length:=by omega
 have e3:rdOf ByteArray.empty xs v=xs[v.toNat]:=by unfold rdOf;rw [List.getD_eq_getElem?_getD,List.getElem?_eq_getElem hlt];rfl
 have e4:catL (xs.drop v.toNat)=catL (xs.drop (v.toNat+1)) ++ xs[v.toNat].data.toList:=by rw [List.drop_eq_getElem_cons hlt,catL_cons]
 rw [e1,e2,e3]
 refine ⟨?_,e4⟩
 have h5:=catL_drop_le xs v.toNat
 rw [e4,List.length_append] at h5
 have h6:xs[v.toNat].data.toList.length=xs[v.toNat].size:=Array.length_toList
 omega
def nat_Text.l0:Nat→List Int→List ByteArray→Option (ByteArray)
 | 0,_,_=>none
 | k+1,x0,x3=>if (x0.length:Int) > 0 then ((nat_short.f k x0 10000000000000000000).bind fun bt219=>((strconv_FormatUint.f bt219.2 10).bind fun t223=>(if (bt219.1.length:Int) > 0 then ((strings_Repeat.f (⟨#[48]⟩:ByteArray) (wrap64 (19 - (t223.size:Int)))).bind fun t224=>(if t224.size+t223.size≤9223372036854775807 then (if x3.length<8796093022208 then (nat_Text.l0 k bt219.1 (x3 ++ [t224 ++ t223])) else (none)) else (none))) else (if x3.length<8796093022208 then (nat_Text.l0 k bt219.1 (x3 ++ [t223])) else (none))))) else (if (x3.length:Int)=0 then (some (⟨#[48]⟩:ByteArray)) else (if (catL x3).length≤140737488355328 then (some (catB x3)) else none))
def nat_Text.f (k:Nat) (l0:List Int):Option (ByteArray):=(nat_trim.f k l0).bind fun t216=>(nat_Text.l0 k t216 ([]:List ByteArray))
theorem nat_Text.mono_l:∀ k,(∀ y0 y1,LeO (nat_Text.l0 k y0 y1) (nat_Text.l0 (k+1) y0 y1))
 | 0=>fun _ _ r h=>by simp [nat_Text.l0] at h
 | k+1=>by
  have ih0:=nat_Text.mono_l k
  ·intro y0 y1
   unfold nat_Text.l0
   repeat' (with_reducible first|exact ih0 _ _|exact nat_short.mono _ _ _|exact nat_trim.mono _ _|exact zm|exact zv|refine zI ?_ ?_|refine zO ?_ fun _=>?_)
theorem nat_Text.mono:∀ a0 k,LeO (nat_Text.f k a0) (nat_Text.f (k+1) a0):=by
 intro a0 k
 have ih0:=nat_Text.mono_l k
 unfold nat_Text.f
 repeat' (with_reducible first|exact ih0 _ _|exact nat_short.mono _ _ _|exact nat_trim.mono _ _|exact zm|exact zv|refine zI ?_ ?_|refine zO ?_ fun _=>?_)
theorem nat_Text.calls (k:Nat) (A0:Option Addr) (c0:Nat) (l0:List Int) (r:ByteArray) (w:World) (hr0:Kd.C (Kd.int .u64) w A0 l0.length l0) (hc0:l0.length≤c0) (h:nat_Text.f k l0=some r) (htab:Fx.Laid w:=by exact Fx.Laid.below HTAB.out (zB HB)) :
  Calls Tryz.prog 50 #[.slice A0 l0.length c0] w fun e w'=>e = .returned (.string r)∧Below w.heap.size w w':=by
 have HTAB:=am htab
 clear htab
 have HR0:=am hr0
 have HC0:=am hc0
 clear hr0 hc0
 have HB:=am (Below.refl w.heap.size w)
 have H:((nat_trim.f k l0).bind fun t216=>(nat_Text.l0 k t216 ([]:List ByteArray)))=some r:=h
 clear h
 replace H:=Option.bind_eq_some_iff.mp H
 obtain ⟨t216,A20,H⟩:=H
 replace H:(nat_Text.l0 k t216 ([]:List ByteArray))=some r:=H
 have A2:=am A20
 clear A20
 have H':=am H
 clear H
 go_enter Tryz.func50,Tryz.ntmps50
 go_wp2_with (first|((with_reducible refine gate_callee (f:=103) rfl ?_);refine goesL_ (some 9) rfl rfl Tryz.func103 (by kernel_rfl) rfl #[.slice A0 l0.length c0] rfl (by (try simp only [List.map_toArray,List.map_cons,List.map_nil]);first|done|rfl|(simp only [fmt_wrap A6.out];done)|(simp only [fmt_wrap A6.out];rfl)|(simp only [List.length_drop,List.length_take];rfl)) ?_;(with_reducible refine (nat_trim.calls _ (fun k_=>k_<w.heap.size) _ _ _ _ _ ?side1 A2.out).mono ?_);(case side1=>exact Kd.V_mk HC0.out (Kd.F_below (Kd.C_F (Kd.heap_int .u64) HR0.out) (zB HB)));rintro e w3 ⟨v217,rfl,ho0,hb⟩;refine ⟨_,rfl,?_⟩;have HO218:=am (Kd.V_lower (Kd.V_mono (ok':=fun k_=>True) ho0 (fun k_ hk_=>trivial)) (zS HB));replace HB:=zBs HB hb;clear hb ho0))
 go_loopg [0,3] k (fun kq v0 v3 w' => ∃ (x0_1:List Int) (x3_1:List ByteArray),Aside0 (nat_Text.l0 kq x0_1 x3_1=some r)∧Aside0 (kq≤k)∧Aside0 (Kd.V (Kd.int .u64) 25 w' w.heap.size (fun k_=>some k_≠(v3:Value).ownBlock) v0 x0_1)∧Aside0 (Kd.R Kd.string 9 w' w.heap.size (fun _=>True) v3 x3_1)∧Aside0 (Below w.heap.size w w'))
 case atStart=>exact ⟨(t216),(([]:List ByteArray)),H',zL,⟨by (with_reducible repeat (first|apply Kd.V_alloc|apply Kd.V_drewN|apply Kd.V_drew));exact Kd.V_mono HO218.out (fun _ hk=>(by simp [Value.ownBlock]))⟩,⟨zN⟩,⟨zB HB⟩⟩
 case round =>
  clear H'
  obtain ⟨x0_1,x3_1,HA,HK1,HO_0,HO_3,HB⟩:=hrel
  cases gk with
  | zero=>exact absurd HA.out (by simp [nat_Text.l0])
  | succ k1 =>
   have H:=HA.out
   clear HA
   simp only [nat_Text.l0] at H
   by_cases c4:(x0_1.length:Int) > 0
   ·rw [if_pos c4] at H
    have c4b0:decide (0<(x0_1.length:Int))=true:=decide_eq_true c4
    have c4b1:decide (0<x0_1.length)=true:=decide_eq_true (by omega)
    clear c4
    replace H:=Option.bind_eq_some_iff.mp H
    obtain ⟨⟨t219,t222⟩,A50,H⟩:=H
    replace H:((strconv_FormatUint.f t222 10).bind fun t223=>(if (t219.length:Int) > 0 then ((strings_Repeat.f (⟨#[48]⟩:ByteArray) (wrap64 (19 - (t223.size:Int)))).bind fun t224=>(if t224.size+t223.size≤9223372036854775807 then (if x3_1.length<8796093022208 then (nat_Text.l0 k1 t219 (x3_1 ++ [t224 ++ t223])) else (none)) else (none))) else (if x3_1.length<8796093022208 then (nat_Text.l0 k1 t219 (x3_1 ++ [t223])) else (none))))=some r:=H
    have A5:=am A50
    clear A50
    replace H:=Option.bind_eq_some_iff.mp H
    obtain ⟨t223,A60,H⟩:=H
    replace H:(if (t219.length:Int) > 0 then ((strings_Repeat.f (⟨#[48]⟩:ByteArray) (wrap64 (19 - (t223.size:Int)))).bind fun t224=>(if t224.size+t223.size≤9223372036854775807 then (if x3_1.length<8796093022208 then (nat_Text.l0 k1 t219 (x3_1 ++ [t224 ++ t223])) else (none)) else (none))) else (if x3_1.length<8796093022208 then (nat_Text.l0 k1 t219 (x3_1 ++ [t223])) else (none)))=some r:=H
    have A6:=am A60
    clear A60
    by_cases c7:(t219.length:Int) > 0
    ·rw [if_pos c7] at H
     have c7b0:decide (0<(t219.length:Int))=true:=decide_eq_true c7
     have c7b1:decide (0<t219.length)=true:=decide_eq_true (by omega)
     clear c7
     replace H:=Option.bind_eq_some_iff.mp H
     obtain ⟨t224,A80,H⟩:=H
     replace H:(if t224.size+t223.size≤9223372036854775807 then (if x3_1.length<8796093022208 then (nat_Text.l0 k1 t219 (x3_1 ++ [t224 ++ t223])) else (none)) else (none))=some r:=H
     have A8:=am A80
     clear A80
     by_cases c9:t224.size+t223.size≤9223372036854775807
     ·rw [if_pos c9] at H
      have c9b0:=eq_true c9
      have c9b1:decide (t224.size+t223.size≤9223372036854775807)=true:=decide_eq_true c9
      try have c9b2:(9223372036854775807<t224.size+t223.size)=False:=eq_false (Nat.not_lt.2 c9)
      by_cases c10:x3_1.length<8796093022208
      ·rw [if_pos c10] at H
       have LMc10:=am c10
       clear c10
       obtain ⟨y225,hy225⟩:∃ y_:List ByteArray,y_=(x3_1 ++ [t224 ++ t223]):=⟨_,rfl⟩
       replace H:(nat_Text.l0 k1 t219 y225)=some r:=by first|(rw [hy225];with_reducible exact H)|(have H2_:=(Option.bind_some _ _).symm.trans H;rw [hy225];with_reducible exact H2_)|(have H2_:=(Option.bind_some _ _).symm.trans H;with_reducible exact H2_)|with_reducible exact H|(rw [hy225];exact H)|exact H
       have Ny225:=am hy225
       clear hy225
       have H':=am H
       clear H
       obtain ⟨Ao11,co11,eo11⟩:=Kd.V_slice HO_0.out
       subst eo11
       go_wp2_with (first|((with_reducible refine gate_callee (f:=105) rfl ?_);refine goesL_ (some 15) rfl rfl Tryz.func105 (by kernel_rfl) rfl #[.slice Ao11 x0_1.length co11, .int .u64 10000000000000000000] rfl (by (try simp only [List.map_toArray,List.map_cons,List.map_nil]);first|done|rfl|(simp only [fmt_wrap A6.out];done)|(simp only [fmt_wrap A6.out];rfl)|(simp only [List.length_drop,List.length_take];rfl)) ?_;(with_reducible refine (nat_short.calls _ _ _ _ _ _ _ _ ?side1 ?side2 A5.out).mono ?_);(case side1=>repeat (first|exact (Kd.V_reads' HO_0.out).2.2|(with_reducible refine Kd.C_alloc ?_ _)|(with_reducible refine Kd.C_drewN ?_ _)|(with_reducible refine Kd.C_drew ?_)));(case side2=>exact (Kd.V_reads' HO_0.out).2.1);rintro e w12 ⟨v220,rfl,ho0,hb⟩;refine ⟨_,rfl,?_⟩;replace HO_0:=zVb HO_0 hb;have HO221:=am (Kd.V_lower (Kd.V_mono (ok':=fun k_=>some k_≠(u3:Value).ownBlock) ho0 (fun k_ hk_=>(Kd.fresh' (Kd.R_lt (zR HO_3)) k_ hk_))) (zS HB));replace HO_3:=zRb HO_3 hb;replace HB:=zBs HB hb;clear hb ho0)|((with_reducible refine gate_callee (f:=106) rfl ?_);refine goesL_ (some 19) rfl rfl Tryz.func106 (by kernel_rfl) rfl #[.int .u64 t222, .int .i64 10] rfl (by (try simp only [List.map_toArray,List.map_cons,List.map_nil]);first|done|rfl|(simp only [fmt_wrap A6.out];done)|(simp only [fmt_wrap A6.out];rfl)|(simp only [List.length_drop,List.length_take];rfl)) ?_;(with_reducible refine (strconv_FormatUint.calls _ _ _ _ A6.out).mono ?_);rintro e w13 ⟨rfl,hb⟩;refine ⟨_,rfl,?_⟩;replace HO_0:=zVb HO_0 hb;replace HO_3:=zRb HO_3 hb;replace HO221:=zVb HO221 hb;replace HB:=zBs HB hb;clear hb;obtain ⟨Ao14,co14,eo14⟩:=Kd.V_slice HO221.out;subst eo14)|((with_reducible refine gate_callee (f:=69) rfl ?_);refine goesL_ (some 26) rfl rfl Tryz.func69 (by kernel_rfl) rfl #[.string (⟨#[48]⟩:ByteArray), .int .i64 (wrap64 (19 - (t223.size:Int)))] rfl (by (try simp only [List.map_toArray,List.map_cons,List.map_nil]);first|done|rfl|(simp only [fmt_wrap A6.out];done)|(simp only [fmt_wrap A6.out];rfl)|(simp only [List.length_drop,List.length_take];rfl)) ?_;(with_reducible refine (strings_Repeat.calls _ _ _ _ A8.out).mono ?_);rintro e w15 ⟨rfl,hb⟩;refine ⟨_,rfl,?_⟩;replace HO_0:=zVb HO_0 hb;replace HO_3:=zRb HO_3 hb;replace HO221:=zVb HO221 hb;replace HB:=zBs HB hb;clear hb)|((with_reducible refine gate_builtin (b := .append) (xs:=#[.tmp 29, .tmp 31]) rfl ?_);at_builtin;refine Kd.R_append Kd.string (w0:=w) w.heap.size rfl (.tmp 29) (.tmp 31) 160 9 (.string ⟨#[]⟩) 16 rfl Tryz.underlying160 infoStr rfl (by decide) (by omega) u3 x3_1 (t224 ++ t223) [.string (t224 ++ t223)] (fun _=>True) (fun _=>False) rfl rfl ?aP (fun _ hk=>hk.elim) ?aF ?aO ?aB ?aS ?aL ?_;(case aP=>exact rfl);(case aB=>exact (zB HB));(case aF=>exact (fun _ _=>trivial));(case aO=>exact (zR HO_3));(case aS=>exact (zS HB));(case aL=>have:=LMc10.out;omega);intro v226 w16 ho hb hg hat;rw [← Ny225.out] at ho;replace HO_0:=am (Kd.V_afterv (ok:=(fun _=>True)) (by (with_reducible repeat (first|apply Kd.V_alloc|apply Kd.V_drewN|apply Kd.V_drew));exact Kd.V_mono HO_0.out (fun _ hk=>⟨trivial,hk⟩)) hg hat);replace HO221:=am (Kd.V_afterv (ok:=(fun _=>True)) (by (with_reducible repeat (first|apply Kd.V_alloc|apply Kd.V_drewN|apply Kd.V_drew));exact Kd.V_mono HO221.out (fun _ hk=>⟨trivial,hk⟩)) hg hat);replace HB:=am (hb);have HO227:=am (ho);clear HO_3 ho hb hg hat))
       go_roundg k1
       case measure=>have:=HK1.out;omega
       case rel=>exact ⟨(t219),(y225),H',(zH HK1),⟨by (with_reducible repeat (first|apply Kd.V_alloc|apply Kd.V_drewN|apply Kd.V_drew));exact Kd.V_mono HO221.out (fun _ hk=>hk.2)⟩,⟨zR HO227⟩,⟨zB HB⟩⟩
      ·rw [if_neg c10] at H
       exact absurd H (by simp)
     ·rw [if_neg c9] at H
      exact absurd H (by simp)
    ·rw [if_neg c7] at H
     have c7b0:decide (0<(t219.length:Int))=false:=decide_eq_false c7
     have c7b1:decide (0<t219.length)=false:=decide_eq_false (by omega)
     clear c7
     by_cases c17:x3_1.length<8796093022208
     ·rw [if_pos c17] at H
      have LMc17:=am c17
      clear c17
      obtain ⟨y228,hy228⟩:∃ y_:List ByteArray,y_=(x3_1 ++ [t223]):=⟨_,rfl⟩
      replace H:(nat_Text.l0 k1 t219 y228)=some r:=by first|(rw [hy228];with_reducible exact H)|(have H2_:=(Option.bind_some _ _).symm.trans H;rw [hy228];with_reducible exact H2_)|(have H2_:=(Option.bind_some _ _).symm.trans H;with_reducible exact H2_)|with_reducible exact H|(rw [hy228];exact H)|exact H
      have Ny228:=am hy228
      clear hy228
      have H':=am H
      clear H
      obtain ⟨Ao18,co18,eo18⟩:=Kd.V_slice HO_0.out
      subst eo18
      go_wp2_with (first|((with_reducible refine gate_callee (f:=105) rfl ?_);refine goesL_ (some 15) rfl rfl Tryz.func105 (by kernel_rfl) rfl #[.slice Ao18 x0_1.length co18, .int .u64 10000000000000000000] rfl (by (try simp only [List.map_toArray,List.map_cons,List.map_nil]);first|done|rfl|(simp only [fmt_wrap A6.out];done)|(simp only [fmt_wrap A6.out];rfl)|(simp only [List.length_drop,List.length_take];rfl)) ?_;(with_reducible refine (nat_short.calls _ _ _ _ _ _ _ _ ?side1 ?side2 A5.out).mono ?_);(case side1=>repeat (first|exact (Kd.V_reads' HO_0.out).2.2|(with_reducible refine Kd.C_alloc ?_ _)|(with_reducible refine Kd.C_drewN ?_ _)|(with_reducible refine Kd.C_drew ?_)));(case side2=>exact (Kd.V_reads' HO_0.out).2.1);rintro e w19 ⟨v220,rfl,ho0,hb⟩;refine ⟨_,rfl,?_⟩;replace HO_0:=zVb HO_0 hb;have HO221:=am (Kd.V_lower (Kd.V_mono (ok':=fun k_=>some k_≠(u3:Value).ownBlock) ho0 (fun k_ hk_=>(Kd.fresh' (Kd.R_lt (zR HO_3)) k_ hk_))) (zS HB));replace HO_3:=zRb HO_3 hb;replace HB:=zBs HB hb;clear hb ho0)|((with_reducible refine gate_callee (f:=106) rfl ?_);refine goesL_ (some 19) rfl rfl Tryz.func106 (by kernel_rfl) rfl #[.int .u64 t222, .int .i64 10] rfl (by (try simp only [List.map_toArray,List.map_cons,List.map_nil]);first|done|rfl|(simp only [fmt_wrap A6.out];done)|(simp only [fmt_wrap A6.out];rfl)|(simp only [List.length_drop,List.length_take];rfl)) ?_;(with_reducible refine (strconv_FormatUint.calls _ _ _ _ A6.out).mono ?_);rintro e w20 ⟨rfl,hb⟩;refine ⟨_,rfl,?_⟩;replace HO_0:=zVb HO_0 hb;replace HO_3:=zRb HO_3 hb;replace HO221:=zVb HO221 hb;replace HB:=zBs HB hb;clear hb;obtain ⟨Ao21,co21,eo21⟩:=Kd.V_slice HO221.out;subst eo21)|((with_reducible refine gate_builtin (b := .append) (xs:=#[.tmp 29, .tmp 31]) rfl ?_);at_builtin;refine Kd.R_append Kd.string (w0:=w) w.heap.size rfl (.tmp 29) (.tmp 31) 160 9 (.string ⟨#[]⟩) 16 rfl Tryz.underlying160 infoStr rfl (by decide) (by omega) u3 x3_1 t223 [.string t223] (fun _=>True) (fun _=>False) rfl rfl ?aP (fun _ hk=>hk.elim) ?aF ?aO ?aB ?aS ?aL ?_;(case aP=>exact rfl);(case aB=>exact (zB HB));(case aF=>exact (fun _ _=>trivial));(case aO=>exact (zR HO_3));(case aS=>exact (zS HB));(case aL=>have:=LMc17.out;omega);intro v229 w22 ho hb hg hat;rw [← Ny228.out] at ho;replace HO_0:=am (Kd.V_afterv (ok:=(fun _=>True)) (by (with_reducible repeat (first|apply Kd.V_alloc|apply Kd.V_drewN|apply Kd.V_drew));exact Kd.V_mono HO_0.out (fun _ hk=>⟨trivial,hk⟩)) hg hat);replace HO221:=am (Kd.V_afterv (ok:=(fun _=>True)) (by (with_reducible repeat (first|apply Kd.V_alloc|apply Kd.V_drewN|apply Kd.V_drew));exact Kd.V_mono HO221.out (fun _ hk=>⟨trivial,hk⟩)) hg hat);replace HB:=am (hb);have HO230:=am (ho);clear HO_3 ho hb hg hat))
      go_roundg k1
      case measure=>have:=HK1.out;omega
      case rel=>exact ⟨(t219),(y228),H',(zH HK1),⟨by (with_reducible repeat (first|apply Kd.V_alloc|apply Kd.V_drewN|apply Kd.V_drew));exact Kd.V_mono HO221.out (fun _ hk=>hk.2)⟩,⟨zR HO230⟩,⟨zB HB⟩⟩
     ·rw [if_neg c17] at H
      exact absurd H (by simp)
   ·rw [if_neg c4] at H
    have c4b0:decide (0<(x0_1.length:Int))=false:=decide_eq_false c4
    have c4b1:decide (0<x0_1.length)=false:=decide_eq_false (by omega)
    clear c4
    by_cases c23:(x3_1.length:Int)=0
    ·rw [if_pos c23] at H
     have c23b0:((x3_1.length:Int) == 0)=true:=beq_iff_eq.mpr c23
     have c23b1:((x3_1.length:Int) != 0)=false:=bne_eq_false_iff_eq.mpr c23
     clear c23
     obtain rfl:=Option.some.inj H
     obtain ⟨Ao24,co24,eo24⟩:=Kd.V_slice HO_0.out
     subst eo24
     obtain ⟨Ao25,co25,eo25⟩:=Kd.R_slice HO_3.out
     subst eo25
     go_wp2
     go_ret
     exact ⟨z2,zB HB⟩
    ·rw [if_neg c23] at H
     have c23b0:((x3_1.length:Int) == 0)=false:=beq_eq_false_iff_ne.mpr c23
     have c23b1:((x3_1.length:Int) != 0)=true:=bne_iff_ne.mpr c23
     have c23b2:¬ (x3_1 = []):=fun h_=>c23 (by rw [h_];rfl)
     by_cases c24:(catL x3_1).length≤140737488355328
     case neg=>rw [if_neg c24] at H;exact absurd H (by simp)
     rw [if_pos c24] at H
     obtain rfl:=Option.some.inj H
     obtain ⟨Ao26,co26,eo26⟩:=Kd.V_slice HO_0.out
     subst eo26
     obtain ⟨Ao27,co27,eo27⟩:=Kd.R_slice HO_3.out
     subst eo27
     obtain ⟨W0,rfl⟩:∃ W0,W0=wr:=⟨_,rfl⟩
     have HPC:=am (Kd.R_reads' HO_3.out).2.2
     have hpos:1≤x3_1.length:=by omega
     have hmax:x3_1.length≤9223372036854775807:=text_short HPC.out
     have HCL:=am c24
     have HNE:=am c23b2
     have HBN:=am (builder_new W0)
     have HBW:=am (Below.alloc (Below.refl W0.heap.size W0) (Nat.le_refl _) (.cells #[.pointer none, .slice none 0 0] 111))
     clear c24 H c23 c23b2
     go_wp2
     go_loopw [7] (fun i w' => ∃ (v:Int), -1≤v∧v<(x3_1.length:Int)∧i = .int .i64 v∧Aside0 (Lib.IsBuilderF 111 5 W0.heap.size W0.heap.size (Lib.byteCells (catL (x3_1.drop (v+1).toNat))) w')∧Aside0 (Below W0.heap.size W0 w')) (fun i _=>(intOf i+1).toNat)
     case atStart=>exact ⟨(x3_1.length:Int) - 1,by omega,by omega,(by first|rfl|(rw [text_wrap hpos hmax])),⟨by rw [text_all];exact HBN.out⟩,⟨HBW.out⟩⟩
     case round =>
      obtain ⟨v,hv0,hv1,rfl,HBJ,HWJ⟩:=hrel
      clear HBN HBW
      by_cases h0:0≤v
      ·have hd:decide (0≤v)=true:=decide_eq_true h0
       have hp:=eq_true h0
       have hq:=eq_true hv1
       obtain ⟨ad,e,hx⟩:=Kd.at_string (Kd.C_below HPC.out HWJ.out) v h0 hv1
       cases e
       have HS:=am (text_next HCL.out h0 hv1)
       have HSZ:=am HWJ.out.size
       go_wp2_with (go_at_call 68;refine (builder_write W0.heap.size W0.heap.size (catL (x3_1.drop (v+1).toNat)) _ _ HBJ.out HS.out.1 HSZ.out).mono ?_;rintro e w1 ⟨rfl,h1,h2⟩)
       go_roundw
       case rel=>exact ⟨v - 1,by omega,by omega,(by first|rfl|(rw [text_wrap1 h0 hv1 hmax])),⟨by rw [HS.out.2];exact h1⟩,⟨HWJ.out.trans h2⟩⟩
       case measure=>simp [intOf];omega
      ·have hd:decide (0≤v)=false:=decide_eq_false h0
       have hz:v+1=0:=by omega
       have HZ:=am hz
       have HSZ:=am HWJ.out.size
       clear hz
       go_wp2_with (go_at_call 71;refine (Tryz.Builder_String_any_f W0.heap.size W0.heap.size (catL (x3_1.drop (v+1).toNat)) _ HBJ.out HSZ.out).mono ?_;rintro e w1 ⟨rfl,h1,h2⟩)
       go_ret
       exact ⟨by rw [HZ.out];rfl,below_step HB.out (HWJ.out.trans h2)⟩
end Go.Proofs.Yy.PTx
end
