/- Part 18 of what the proof needs. -/
import Derived.Test.YtpfnkbnepcchgaaGreatDoorKTBAP
set_option linter.unusedSimpArgs false
set_option linter.unusedVariables false
section
set_option maxHeartbeats 8000000
set_option maxRecDepth 100000
namespace Go.Proofs.Yy.PTx
open Go.RowKit Go.Proofs.Yy.Z Go.Proofs.Yw.PrintWords Go.Proofs.Yw.PrintLast Go.Proofs.Yw.PrintMore
open Go.Proofs.Yy.M
attribute [local go_sem] runx_add64 runx_sub64 eql_cc eql_nc neq_cc neq_nc
attribute [local go_sem] max2_int min2_int max_two min_two max_three min_three max_four min_four
mutual
def nat_Read.j0:Nat→ByteArray→Int→Option (List Int × Option Int)
  | 0,_,_=>none
  | k+1,x0,x4=>if x4 ≥ 0 then (none) else (nat_Read.l0 k x0 ([]:List Int))
def nat_Read.l0:Nat→ByteArray→List Int→Option (List Int × Option Int)
  | 0,_,_=>none
  | k+1,x0,x5=>if (x0.size:Int) > 0 then (if 0≤(mn (x0.size:Int) 19) then (if (mn (x0.size:Int) 19)≤(x0.size:Int) then ((strconv_ParseUint_149.f (x0.extract 0 ((mn (x0.size:Int) 19):Int).toNat) 10 64).bind fun bt346=>(if bt346.2.isNone=true then (nat_Read.l1 k x0 x5 (mn (x0.size:Int) 19) bt346.1 1 (mn (x0.size:Int) 19) 0) else (some (([]:List Int),some 7)))) else (none)) else (none)) else (some (x5,none))
def nat_Read.l1:Nat→ByteArray→List Int→Int→Int→Int→Int→Int→Option (List Int × Option Int)
  | 0,_,_,_,_,_,_,_=>none
  | k+1,x0,x5,x6,x7,x9,x41,x42=>if x42<x41 then (nat_Read.l1 k x0 x5 x6 x7 (IntKind.u64.wrap (x9 * 10)) x41 (wrap64 (x42+1))) else ((nat_times.f k x5 (([x9]:List Int))).bind fun t352=>((nat_Of.f k x7).bind fun t355=>((nat_plus.f k t352 t355).bind fun t358=>(if 0≤x6 then (if x6≤(x0.size:Int) then (nat_Read.l0 k (x0.extract (x6:Int).toNat x0.size) t358) else (none)) else (none)))))
end
def nat_Read.f (k:Nat) (a0:ByteArray):Option (List Int × Option Int):=if (a0.size:Int) > 4096 then (some (([]:List Int),some 13)) else ((strings_IndexFunc.f a0).bind fun t345=>(if a0.toList=([]:List UInt8) then (nat_Read.j0 k a0 0) else (nat_Read.j0 k a0 t345)))
theorem nat_Read.mono_l:∀ k,(∀ y0 y1,LeO (nat_Read.j0 k y0 y1) (nat_Read.j0 (k+1) y0 y1))∧(∀ y0 y1,LeO (nat_Read.l0 k y0 y1) (nat_Read.l0 (k+1) y0 y1))∧(∀ y0 y1 y2 y3 y4 y5 y6,LeO (nat_Read.l1 k y0 y1 y2 y3 y4 y5 y6) (nat_Read.l1 (k+1) y0 y1 y2 y3 y4 y5 y6))
  | 0=>⟨fun _ _ r h=>by simp [nat_Read.j0] at h,fun _ _ r h=>by simp [nat_Read.l0] at h,fun _ _ _ _ _ _ _ r h=>by simp [nat_Read.l1] at h⟩
  | k+1=>by
    obtain ⟨ih0,ih1,ih2⟩:=nat_Read.mono_l k
    refine ⟨?_,?_,?_⟩
    · intro y0 y1
      unfold nat_Read.j0
      repeat' (with_reducible first|exact ih0 _ _|exact ih1 _ _|exact ih2 _ _ _ _ _ _ _|exact nat_Of.mono _ _|exact nat_plus.mono _ _ _|exact nat_times.mono _ _ _|exact zm|exact zv|refine zI ?_ ?_|refine zO ?_ fun _=>?_)
    · intro y0 y1
      unfold nat_Read.l0
      repeat' (with_reducible first|exact ih0 _ _|exact ih1 _ _|exact ih2 _ _ _ _ _ _ _|exact nat_Of.mono _ _|exact nat_plus.mono _ _ _|exact nat_times.mono _ _ _|exact zm|exact zv|refine zI ?_ ?_|refine zO ?_ fun _=>?_)
    · intro y0 y1 y2 y3 y4 y5 y6
      unfold nat_Read.l1
      repeat' (with_reducible first|exact ih0 _ _|exact ih1 _ _|exact ih2 _ _ _ _ _ _ _|exact nat_Of.mono _ _|exact nat_plus.mono _ _ _|exact nat_times.mono _ _ _|exact zm|exact zv|refine zI ?_ ?_|refine zO ?_ fun _=>?_)
theorem nat_Read.mono:∀ a0 k,LeO (nat_Read.f k a0) (nat_Read.f (k+1) a0):=by
  intro a0 k
  obtain ⟨ih0,ih1,ih2⟩:=nat_Read.mono_l k
  unfold nat_Read.f
  repeat' (with_reducible first|exact ih0 _ _|exact ih1 _ _|exact ih2 _ _ _ _ _ _ _|exact nat_Of.mono _ _|exact nat_plus.mono _ _ _|exact nat_times.mono _ _ _|exact zm|exact zv|refine zI ?_ ?_|refine zO ?_ fun _=>?_)
theorem nat_Read.calls (k:Nat) (a0:ByteArray) (r1:List Int) (r2:Option Int) (w:World) (h:nat_Read.f k a0=some (r1,r2)) :
    Calls Tryz.prog 94 #[.string a0] w fun e w' => ∃ v0_:Value,e = .returned (.tuple #[v0_,errW r2])∧Kd.V (Kd.int .u64) 25 w' w.heap.size (fun k_=>(w.heap.size≤k_)) v0_ r1∧Below w.heap.size w w':=by
 have hu27:=Tryz.underlying27
 have hu64:=Tryz.underlying64
 have HB:=am (Below.refl w.heap.size w)
 have H:=am h
 unfold nat_Read.f at H
 clear h
 replace H:=zs H
 rcases H with ⟨c2,H⟩|⟨c2,H⟩
 ·have c2b0:decide (4096<(a0.size:Int))=true:=decide_eq_true c2
  have c2b1:decide (4096<a0.size)=true:=decide_eq_true (by omega)
  clear c2
  obtain ⟨rfl,rfl⟩:=zJ2 H
  go_enter Tryz.func94,Tryz.ntmps94
  go_wp2
  go_ret2
  exact ⟨_,z2,Kd.V_nil _ _ _ _ _,zB HB⟩
 have c2b0:decide (4096<(a0.size:Int))=false:=decide_eq_false c2
 have c2b1:decide (4096<a0.size)=false:=decide_eq_false (by omega)
 clear c2
 replace H:=zo H
 obtain ⟨t345,A3,H⟩:=H
 go_enter Tryz.func94,Tryz.ntmps94
 go_upto_if 17 with (first|((with_reducible refine gate_callee (f:=147) rfl ?_);refine goesL_ (some 15) rfl rfl Tryz.func147 (by kernel_rfl) rfl #[.string a0, .func (.func 148) #[] #[]] rfl (by (try simp only [List.map_toArray,List.map_cons,List.map_nil]);first|done|rfl|(simp only [List.length_drop,List.length_take];rfl)) ?_;(with_reducible refine (strings_IndexFunc.calls a0 t345 _ A3.out).mono ?_);rintro e w5 ⟨rfl,hb⟩;refine ⟨_,rfl,?_⟩;have n0_:=zBs HB hb;clear HB;have HB:=n0_;clear n0_;(try clear hb);(try clear hb2);(try clear hk);(try clear hi)))
 (try simp only [Act.put,List.setIfInBounds_toArray,List.set_cons_zero,List.set_cons_succ])
 go_cut [4] (fun v4 wc => ∃ (kq:Nat) (x4_3:Int),v4 = .int .i64 x4_3∧Aside0 (nat_Read.j0 kq a0 x4_3=some (r1,r2))∧Aside0 (kq≤k)∧Aside0 (Below w.heap.size w wc))
 case first =>
  replace H:=zsk H
  rcases H with ⟨c6b0,c6b1,H⟩|⟨c6b0,c6b1,c6,H⟩
  (first|rw [c6b0]|(simp only [i64_w,i32_w];rw [c6b0])|rw [c6b1]|rw [List.isEmpty_iff.mpr (beq_iff_eq.mp c6b0)]|rw [List.isEmpty_eq_false_iff.mpr (beq_eq_false_iff_ne.mp c6b0)]|skip)
  rotate_left
  (first|rw [c6b0]|(simp only [i64_w,i32_w];rw [c6b0])|rw [c6b1]|rw [List.isEmpty_iff.mpr (beq_iff_eq.mp c6b0)]|rw [List.isEmpty_eq_false_iff.mpr (beq_eq_false_iff_ne.mp c6b0)]|skip)
  rotate_left
  all_goals (go_wp2)
  ·go_meet
   case rel=>exact ⟨_,(0),z1,H,⟨z5⟩,⟨zB HB⟩⟩
  go_meet
  case rel=>exact ⟨_,(t345),z1,H,⟨z5⟩,⟨zB HB⟩⟩
 case rest =>
  obtain ⟨kq,x4_3,rfl,H,HJ3,HB⟩:=hcut
  obtain _|kj3:=kq
  ·exact zz H rfl
  simp only [nat_Read.j0] at H
  replace H:=zjde H
  obtain ⟨c7b0,H⟩:=H
  go_wp2
  go_loopg [0,5] kj3 (fun kq v0 v5 w' => ∃ (x0_2:ByteArray) (x5_2:List Int),v0 = .string x0_2∧Aside0 (nat_Read.l0 kq x0_2 x5_2=some (r1,r2))∧Aside0 (kq≤kj3)∧Aside0 (Kd.V (Kd.int .u64) 25 w' w.heap.size (fun k_=>(w.heap.size≤k_)) v5 x5_2)∧Aside0 (Below w.heap.size w w'))
  case atStart=>exact ⟨(a0),(([]:List Int)),z1,H,zL,⟨Kd.V_nil _ _ _ _ _⟩,⟨zB HB⟩⟩
  clear H
  obtain ⟨x0_2,x5_2,rfl,H,HK2,HO_5,HB⟩:=hrel
  obtain _|k2:=gk
  ·exact zz H rfl
  simp only [nat_Read.l0] at H
  replace H:=zs H
  rcases H with ⟨c8,H⟩|⟨c8,H⟩
  have c8b0:decide (0<(x0_2.size:Int))=true:=decide_eq_true c8
  have c8b1:decide (0<x0_2.size)=true:=decide_eq_true (by omega)
  clear c8
  generalize hji9:(mn (x0_2.size:Int) 19:Int)=ji9 at H
  have hji9_:(if 19<(x0_2.size:Int) then 19 else (x0_2.size:Int))=ji9:=hji9
  replace H:=zit H
  obtain ⟨c10b0,c10b1,H⟩:=H
  replace H:=zit H
  obtain ⟨c11b0,c11b1,H⟩:=H
  replace H:=zo H
  obtain ⟨⟨t346,t347⟩,A12,H⟩:=H
  try dsimp only at H
  rcases t347 with _|q348
  replace H:=zb1 H
  try simp only [errW_none,errW_some]
  rotate_left
  replace H:=zb0 H
  try simp only [Option.getD_some] at H
  try simp only [errW_none,errW_some]
  obtain ⟨rfl,rfl⟩:=zJ2 H
  rotate_left
  have c8b0:decide (0<(x0_2.size:Int))=false:=decide_eq_false c8
  have c8b1:decide (0<x0_2.size)=false:=decide_eq_false (by omega)
  clear c8
  obtain ⟨rfl,rfl⟩:=zJ2 H
  rotate_left
  all_goals (go_wp2_with (first|((with_reducible refine gate_callee (f:=149) rfl ?_);refine goesL_ (some 35) rfl rfl Tryz.func149 (by kernel_rfl) rfl #[.string (x0_2.extract 0 ((ji9):Int).toNat), .int .i64 10, .int .i64 64] rfl (by (try simp only [List.map_toArray,List.map_cons,List.map_nil]);first|done|(simp only [hji9];rfl)|rfl|(simp only [List.length_drop,List.length_take];rfl)) ?_;(with_reducible refine (strconv_ParseUint_149.calls _ _ _ _ _ _ A12.out).mono ?_);rintro e w13 ⟨rfl,hb⟩;refine ⟨_,rfl,?_⟩;replace HO_5:=zVb HO_5 hb;replace HB:=zBs HB hb;clear hb;(try simp only [errW_none,errW_some]))))
  ·go_loopg [9,42] k2 (fun kq v9 v42 w' => ∃ (x9_3:Int) (x42_3:Int),v9 = .int .u64 x9_3∧v42 = .int .i64 x42_3∧Aside0 (nat_Read.l1 kq x0_2 x5_2 ji9 t346 x9_3 ji9 x42_3=some (r1,r2))∧Aside0 (kq≤k2)∧Aside0 (Kd.V (Kd.int .u64) 25 w' w.heap.size (fun k_=>(w.heap.size≤k_)) u5 x5_2)∧Aside0 (Below w.heap.size w w'))
   case atStart=>exact ⟨(1),(0),z1,z1,H,zL,⟨zV HO_5⟩,⟨zB HB⟩⟩
   clear H
   obtain ⟨x9_3,x42_3,rfl,rfl,H,HK3,HO_5,HB⟩:=hrel
   obtain _|k3:=gk
   ·exact zz H rfl
   simp only [nat_Read.l1] at H
   replace H:=zsd H
   rcases H with ⟨c14b0,H⟩|⟨c14b0,H⟩
   rotate_left
   generalize hy349:(([x9_3]:List Int):List Int)=y349 at H
   have Ny349:=zY hy349
   clear hy349
   replace H:=zo H
   obtain ⟨t352,A15,H⟩:=H
   replace H:=zo H
   obtain ⟨t355,A16,H⟩:=H
   replace H:=zo H
   obtain ⟨t358,A17,H⟩:=H
   replace H:=zit H
   obtain ⟨c18b0,c18b1,H⟩:=H
   replace H:=zit H
   obtain ⟨c19b0,c19b1,H⟩:=H
   rotate_left
   all_goals (go_wp2_with (first|((with_reducible refine gate_dst (N:=49) rfl ?_);refine Kd.R_lit (Kd.int .u64) _ 25 ?hg (N:=49) ?hd (xs:=([x9_3]:List Int)) (inner := [.int .u64 x9_3]) (ok:=fun _=>True) (okp:=fun _=>True) ?hr ?hp (fun _ hk=>hk) trivial (Below.refl _ _) (Nat.le_refl _) (by simp) ?_;(case hd=>rfl);(case hg=>rfl);(case hr=>first|(go_simp;done)|(go_simp;rfl));(case hp=>exact (Reps.one (show Kd.M (Kd.int .u64) _ _ _ x9_3 [.int .u64 x9_3] from rfl) (Reps.none _ _)));intro v350 w20 ho21 hb hg_ hnew_;clear hg_ hnew_;(first|rw [← Ny349.out] at ho21|(simp only [Int.reduceToNat] at ho21;rw [← Ny349.out] at ho21));replace HO_5:=am (Kd.V_elder' (zV HO_5) (Kd.R_base ho21) hb);have HO351:=am (Kd.R_lower (Kd.R_newM (M:=fun k_=>(w.heap.size≤k_)) ho21 (zS HB) (fun k_ h_=>h_)) (zS HB));replace HB:=zBs HB hb;clear hb ho21;obtain ⟨Ao22,co22,eo22⟩:=Kd.V_slice HO_5.out;subst eo22;obtain ⟨Ao23,co23,eo23⟩:=Kd.R_slice HO351.out;subst eo23)|((with_reducible refine gate_callee (f:=107) rfl ?_);refine zc (some 50) Tryz.func107 #[.slice Ao22 x5_2.length co22, .slice Ao23 y349.length co23] (nat_times.calls _ _ _ _ _ _ _ _ _ (zC ((Kd.V_reads' HO_5.out).2.2)) ((Kd.V_reads' HO_5.out).2.1) (zC ((Kd.R_reads' HO351.out).2.2)) ((Kd.R_reads' HO351.out).2.1) A15.out) ?_;rintro e w24 ⟨v353,rfl,ho0,hb⟩;refine ⟨_,rfl,?_⟩;replace HO_5:=zVb HO_5 hb;have HO354:=am (Kd.V_lower (Kd.V_mono (ok':=fun k_=>(w.heap.size≤k_)∧some k_≠(.slice Ao23 y349.length co23:Value).ownBlock) ho0 (fun k_ hk_=>⟨(Nat.le_trans (zS HB) hk_),(Kd.fresh' (Kd.R_lt (zR HO351)) k_ hk_)⟩)) (zS HB));replace HO351:=zRb HO351 hb;replace HB:=zBs HB hb;clear hb ho0)|((with_reducible refine gate_callee (f:=48) rfl ?_);refine zc (some 52) Tryz.func48 _ (nat_Of.calls _ _ _ _ A16.out) ?_;rintro e w25 ⟨v356,rfl,ho0,hb⟩;refine ⟨_,rfl,?_⟩;replace HO_5:=zVb HO_5 hb;replace HO354:=zVb HO354 hb;have HO357:=am (Kd.V_lower (Kd.V_mono (ok':=fun k_=>(w.heap.size≤k_)∧some k_≠(.slice Ao23 y349.length co23:Value).ownBlock) ho0 (fun k_ hk_=>⟨(Nat.le_trans (zS HB) hk_),(Kd.fresh' (Kd.R_lt (zR HO351)) k_ hk_)⟩)) (zS HB));replace HO351:=zRb HO351 hb;replace HB:=zBs HB hb;clear hb ho0;obtain ⟨Ao26,co26,eo26⟩:=Kd.V_slice HO354.out;subst eo26;obtain ⟨Ao27,co27,eo27⟩:=Kd.V_slice HO357.out;subst eo27)|((with_reducible refine gate_callee (f:=150) rfl ?_);refine zc (some 53) Tryz.func150 #[.slice Ao26 t352.length co26, .slice Ao27 t355.length co27] (nat_plus.calls _ (fun k_=>((w.heap.size≤k_)∧some k_≠(.slice Ao23 y349.length co23:Value).ownBlock)) _ _ _ (fun k_=>((w.heap.size≤k_)∧some k_≠(.slice Ao23 y349.length co23:Value).ownBlock)) _ _ _ _ _ HO354.out HO357.out A17.out) ?_;rintro e w28 ⟨v359,rfl,ho0,hb⟩;refine ⟨_,rfl,?_⟩;replace HO_5:=zVb HO_5 hb;replace HO354:=zVb HO354 hb;replace HO357:=zVb HO357 hb;have HO360:=am (Kd.V_lower (Kd.V_mono (ok':=fun k_=>(w.heap.size≤k_)∧some k_≠(.slice Ao23 y349.length co23:Value).ownBlock) ho0 (fun k_ hk_=>⟨Or.elim hk_ (fun hs_=>Or.elim hs_ (fun hs_=>hs_.1) (fun hs_=>hs_.1)) (fun hn_=>(Nat.le_trans (zS HB) hn_)),Or.elim hk_ (fun hs_=>Or.elim hs_ (fun hs_=>hs_.2) (fun hs_=>hs_.2)) (fun hn_=>(Kd.fresh' (Kd.R_lt (zR HO351)) k_ hn_))⟩)) (zS HB));replace HO351:=zRb HO351 hb;replace HB:=zBs HB hb;clear hb ho0)))
   ·go_roundg k3
    case measure=>have:=HJ3.out;have:=HK2.out;have:=HK3.out;omega
    case rel=>exact ⟨(IntKind.u64.wrap (x9_3 * 10)),(wrap64 (x42_3+1)),z1,z1,H,⟨by have:=HJ3.out;have:=HK2.out;have:=HK3.out;omega⟩,⟨zV HO_5⟩,⟨zB HB⟩⟩
   go_roundg k3
   case measure=>have:=HJ3.out;have:=HK2.out;have:=HK3.out;omega
   case rel=>exact ⟨(x0_2.extract (ji9:Int).toNat x0_2.size),(t358),(by first|rfl|(simp;done)|(simp only [← hji9] <;> (first|rfl|simp))|(simp [*];done)),H,⟨by have:=HJ3.out;have:=HK2.out;have:=HK3.out;omega⟩,⟨by (with_reducible repeat (first|apply Kd.V_alloc|apply Kd.V_drewN|apply Kd.V_drew));exact Kd.V_mono HO360.out (fun _ hk=>hk.1)⟩,⟨zB HB⟩⟩
  ·go_ret2
   exact ⟨_,by first|exact z3|(simp only [← hji9];exact z3)|exact z2,Kd.V_nil _ _ _ _ _,zB HB⟩
  go_ret2
  exact ⟨_,z2,zV HO_5,zB HB⟩
def nat_Bits.f (k:Nat) (l0:List Int):Option (Int):=(nat_trim.f k l0).bind fun t361=>(if (t361.length:Int)=0 then (some 0) else (if 0≤(wrap64 ((t361.length:Int) - 1)) then (if (wrap64 ((t361.length:Int) - 1))<(t361.length:Int) then ((bits_Len64.f k (rd t361 (wrap64 ((t361.length:Int) - 1)))).bind fun t365=>(some (wrap64 ((wrap64 (64 * (wrap64 ((t361.length:Int) - 1))))+t365)))) else (none)) else (none)))
theorem nat_Bits.mono:∀ a0 k,LeO (nat_Bits.f k a0) (nat_Bits.f (k+1) a0):=by
  intro a0 k
  unfold nat_Bits.f
  repeat' (with_reducible first|exact bits_Len64.mono _ _|exact nat_trim.mono _ _|exact zm|exact zv|refine zI ?_ ?_|refine zO ?_ fun _=>?_)
theorem nat_Bits.calls (k:Nat) (A0:Option Addr) (c0:Nat) (l0:List Int) (r:Int) (w:World) (hr0:Kd.C (Kd.int .u64) w A0 l0.length l0) (hc0:l0.length≤c0) (h:nat_Bits.f k l0=some r) :
    Calls Tryz.prog 96 #[.slice A0 l0.length c0] w fun e w'=>e = .returned (.int .i64 r)∧Below w.heap.size w w':=by
 have HR0:=am hr0
 have HC0:=am hc0
 clear hr0 hc0
 have HB:=am (Below.refl w.heap.size w)
 have H:=am h
 unfold nat_Bits.f at H
 clear h
 replace H:=zo H
 obtain ⟨t361,A2,H⟩:=H
 replace H:=zsk H
 rcases H with ⟨c3b0,c3b1,H⟩|⟨c3b0,c3b1,c3,H⟩
 obtain rfl:=Option.some.inj H.out
 rotate_left
 have c3b2:¬ (t361 = []):=fun h_=>c3 (by rw [h_];rfl)
 generalize hji6:(wrap64 ((t361.length:Int) - 1):Int)=ji6 at H
 (try rw [hji6] at A2)
 have hji6w:(IntKind.i64.wrap ((t361.length:Int) - 1))=ji6:=(i64_w _).trans hji6
 replace H:=zid H
 obtain ⟨c7b0,H⟩:=H
 replace H:=zid H
 obtain ⟨c8b0,H⟩:=H
 replace H:=zo H
 obtain ⟨t365,A9,H⟩:=H
 obtain rfl:=Option.some.inj H.out
 rotate_left
 all_goals (go_enter Tryz.func96,Tryz.ntmps96;go_wp2_with (first|((with_reducible refine gate_callee (f:=103) rfl ?_);refine zc (some 4) Tryz.func103 #[.slice A0 l0.length c0] (nat_trim.calls _ (fun k_=>k_<w.heap.size) _ _ _ _ _ (Kd.V_mk HC0.out (Kd.F_below (Kd.C_F (Kd.heap_int .u64) HR0.out) (zB HB))) A2.out) ?_;rintro e w10 ⟨v362,rfl,ho0,hb⟩;refine ⟨_,rfl,?_⟩;have HO363:=am (Kd.V_lower (Kd.V_mono (ok':=fun k_=>True) ho0 (fun k_ hk_=>trivial)) (zS HB));replace HB:=zBs HB hb;clear hb ho0;obtain ⟨Ao11,co11,eo11⟩:=Kd.V_slice HO363.out;subst eo11;have p364:0≤((ji6):Int):=zD;have q364:(ji6)<(t361.length:Int):=zD;obtain ⟨ad364,e364,hx364_0⟩:=Kd.at_int (Kd.V_reads' HO363.out).2.2 (ji6) p364 q364;cases e364;replace p364:=eq_true p364;replace q364:=eq_true q364)|((with_reducible refine gate_callee (f:=152) rfl ?_);refine goesL_ (some 18) rfl rfl Tryz.func152 (by kernel_rfl) rfl #[.int .u64 (rd t361 (ji6))] rfl (by (try simp only [List.map_toArray,List.map_cons,List.map_nil]);first|done|(simp only [hji6];rfl)|rfl|(simp only [List.length_drop,List.length_take];rfl)) ?_;(with_reducible refine (bits_Len64.calls _ _ _ _ A9.out).mono ?_);rintro e w' ⟨rfl,⟨nd,rfl⟩⟩;refine ⟨_,rfl,?_⟩)|((with_reducible refine gate_callee (f:=103) rfl ?_);refine zc (some 4) Tryz.func103 #[.slice A0 l0.length c0] (nat_trim.calls _ (fun k_=>k_<w.heap.size) _ _ _ _ _ (Kd.V_mk HC0.out (Kd.F_below (Kd.C_F (Kd.heap_int .u64) HR0.out) (zB HB))) A2.out) ?_;rintro e w4 ⟨v362,rfl,ho0,hb⟩;refine ⟨_,rfl,?_⟩;have HO363:=am (Kd.V_lower (Kd.V_mono (ok':=fun k_=>True) ho0 (fun k_ hk_=>trivial)) (zS HB));replace HB:=zBs HB hb;clear hb ho0;obtain ⟨Ao5,co5,eo5⟩:=Kd.V_slice HO363.out;subst eo5)))
 ·go_ret
  exact ⟨z2,zB HB⟩
 go_ret
 exact ⟨by first|exact z3|(simp only [← hji6];exact z3)|exact z2,zB HB⟩
def nat_Top.j0:Nat→List Int→Int→Bool→Option (Int × Int × Bool × Option Int)
  | 0,_,_,_=>none
  | k+1,x0,x1,x17=>if x17=true then (some (0,0,false,some 1)) else ((nat_Bits.f k x0).bind fun t366=>((nat_Shr.f k x0 (mx 0 (wrap64 (t366 - x1)))).bind fun bt367=>(if bt367.2.2.isNone=true then (if (bt367.1.length:Int)=0 then (some (0,0,false,none)) else (if 0<(bt367.1.length:Int) then (some (rd bt367.1 0,mx 0 (wrap64 (t366 - x1)),bt367.2.1,none)) else (none))) else (some (0,0,false,some (bt367.2.2.getD 0))))))
def nat_Top.f (k:Nat) (l0:List Int) (a1:Int):Option (Int × Int × Bool × Option Int):=if a1<1 then (nat_Top.j0 k l0 a1 true) else (nat_Top.j0 k l0 a1 (decide (a1 > 64)))
theorem nat_Top.mono_l:∀ k,(∀ y0 y1 y2,LeO (nat_Top.j0 k y0 y1 y2) (nat_Top.j0 (k+1) y0 y1 y2))
  | 0=>fun _ _ _ r h=>by simp [nat_Top.j0] at h
  | k+1=>by
    have ih0:=nat_Top.mono_l k
    · intro y0 y1 y2
      unfold nat_Top.j0
      repeat' (with_reducible first|exact ih0 _ _ _|exact nat_Bits.mono _ _|exact nat_Shr.mono _ _ _|exact zm|exact zv|refine zI ?_ ?_|refine zO ?_ fun _=>?_)
theorem nat_Top.mono:∀ a0 a1 k,LeO (nat_Top.f k a0 a1) (nat_Top.f (k+1) a0 a1):=by
  intro a0 a1 k
  have ih0:=nat_Top.mono_l k
  unfold nat_Top.f
  repeat' (with_reducible first|exact ih0 _ _ _|exact nat_Bits.mono _ _|exact nat_Shr.mono _ _ _|exact zm|exact zv|refine zI ?_ ?_|refine zO ?_ fun _=>?_)
theorem nat_Top.calls (k:Nat) (A0:Option Addr) (c0:Nat) (l0:List Int) (a1:Int) (r1:Int) (r2:Int) (r3:Bool) (r4:Option Int) (w:World) (hr0:Kd.C (Kd.int .u64) w A0 l0.length l0) (hc0:l0.length≤c0) (h:nat_Top.f k l0 a1=some (r1,r2,r3,r4)) :
    Calls Tryz.prog 151 #[.slice A0 l0.length c0, .int .i64 a1] w fun e w'=>e = .returned (.tuple #[.int .u64 r1, .int .i64 r2, .bool r3,errW r4])∧Below w.heap.size w w':=by
 have hu27:=Tryz.underlying27
 have hu64:=Tryz.underlying64
 have HR0:=am hr0
 have HC0:=am hc0
 clear hr0 hc0
 have HB:=am (Below.refl w.heap.size w)
 have H:=am h
 unfold nat_Top.f at H
 clear h
 go_enter Tryz.func151,Tryz.ntmps151
 go_upto_region 1 with (fail)
 go_cut [17] (fun v17 wc => ∃ (kq:Nat) (x17_2:Bool),v17 = .bool x17_2∧Aside0 (nat_Top.j0 kq l0 a1 x17_2=some (r1,r2,r3,r4))∧Aside0 (kq≤k)∧Aside0 (Below w.heap.size w wc))
 case first =>
  replace H:=zsd H
  rcases H with ⟨c4b0,H⟩|⟨c4b0,H⟩
  (first|rw [c4b0]|(simp only [i64_w,i32_w];rw [c4b0])|rw [c4b1]|skip)
  rotate_left
  (first|rw [c4b0]|(simp only [i64_w,i32_w];rw [c4b0])|rw [c4b1]|skip)
  rotate_left
  all_goals (go_wp2)
  ·go_meet
   case rel=>exact ⟨_,(true),z1,H,⟨z5⟩,⟨zB HB⟩⟩
  go_meet
  case rel=>exact ⟨_,(decide (a1 > 64)),z1,H,⟨z5⟩,⟨zB HB⟩⟩
 case rest =>
  obtain ⟨kq,x17_2,rfl,H,HJ2,HB⟩:=hcut
  obtain _|kj2:=kq
  ·exact zz H rfl
  simp only [nat_Top.j0] at H
  cases x17_2
  replace H:=zb0 H
  replace H:=zo H
  obtain ⟨t366,A6,H⟩:=H
  generalize hji7:(mx 0 (wrap64 (t366 - a1)):Int)=ji7 at H
  (try rw [hji7] at A6)
  have hji7_:(if 0<(wrap64 (t366 - a1)) then (wrap64 (t366 - a1)) else 0)=ji7:=hji7
  replace H:=zo H
  obtain ⟨⟨t367,t370,t371⟩,A8,H⟩:=H
  try dsimp only at H
  rcases t371 with _|q372
  replace H:=zb1 H
  try simp only [errW_none,errW_some]
  replace H:=zsk H
  rcases H with ⟨c9b0,c9b1,H⟩|⟨c9b0,c9b1,c9,H⟩
  obtain ⟨rfl,rfl,rfl,rfl⟩:=zJ4 H
  rotate_left
  have c9b2:¬ (t367 = []):=fun h_=>c9 (by rw [h_];rfl)
  replace H:=zi H
  obtain ⟨c13,H⟩:=H
  have c13b0:decide (0<(t367.length:Int))=true:=decide_eq_true c13
  have c13b1:decide (0<t367.length)=true:=decide_eq_true (by omega)
  clear c13
  obtain ⟨rfl,rfl,rfl,rfl⟩:=zJ4 H
  rotate_left
  replace H:=zb0 H
  try simp only [Option.getD_some] at H
  try simp only [errW_none,errW_some]
  obtain ⟨rfl,rfl,rfl,rfl⟩:=zJ4 H
  rotate_left
  replace H:=zb1 H
  obtain ⟨rfl,rfl,rfl,rfl⟩:=zJ4 H
  rotate_left
  all_goals (go_wp2_with (first|((with_reducible refine gate_callee (f:=96) rfl ?_);refine zc (some 20) Tryz.func96 #[.slice A0 l0.length c0] (nat_Bits.calls _ _ _ _ _ _ (zC (Kd.C_below HR0.out HB.out)) HC0.out A6.out) ?_;rintro e w10 ⟨rfl,hb⟩;refine ⟨_,rfl,?_⟩;replace HB:=zBs HB hb;clear hb)|((with_reducible refine gate_callee (f:=52) rfl ?_);refine goesL_ (some 27) rfl rfl Tryz.func52 (by kernel_rfl) rfl #[.slice A0 l0.length c0, .int .i64 ji7] rfl (by (try simp only [List.map_toArray,List.map_cons,List.map_nil]);first|done|(simp only [hji7];rfl)|rfl|(simp only [List.length_drop,List.length_take];rfl)) ?_;(with_reducible refine (nat_Shr.calls _ (fun k_=>k_<w.heap.size) _ _ _ _ _ _ _ _ ?side1 A8.out).mono ?_);(case side1=>exact Kd.V_mk HC0.out (Kd.F_below (Kd.C_F (Kd.heap_int .u64) HR0.out) (zB HB)));rintro e w11 ⟨v368,rfl,ho0,hb⟩;refine ⟨_,rfl,?_⟩;have HO369:=am (Kd.V_lower (Kd.V_mono (ok':=fun k_=>True) ho0 (fun k_ hk_=>trivial)) (zS HB));replace HB:=zBs HB hb;clear hb ho0;(try simp only [errW_none,errW_some]);obtain ⟨Ao16,co16,eo16⟩:=Kd.V_slice HO369.out;subst eo16;have p373:0≤(0:Int):=(by omega);have q373:0<(t367.length:Int):=zD;obtain ⟨ad373,e373,hx373_0⟩:=Kd.at_int (Kd.V_reads' HO369.out).2.2 0 p373 q373;cases e373;have qi373:(0<t367.length)=True:=eq_true (by omega);(try rw [show ((0:Int)).toNat=0 from rfl] at hx373_0);(try rw [Addr.add_zero'] at hx373_0);replace p373:=eq_true p373;replace q373:=eq_true q373)|((with_reducible refine gate_callee (f:=52) rfl ?_);refine goesL_ (some 27) rfl rfl Tryz.func52 (by kernel_rfl) rfl #[.slice A0 l0.length c0, .int .i64 ji7] rfl (by (try simp only [List.map_toArray,List.map_cons,List.map_nil]);first|done|(simp only [hji7];rfl)|rfl|(simp only [List.length_drop,List.length_take];rfl)) ?_;(with_reducible refine (nat_Shr.calls _ (fun k_=>k_<w.heap.size) _ _ _ _ _ _ _ _ ?side1 A8.out).mono ?_);(case side1=>exact Kd.V_mk HC0.out (Kd.F_below (Kd.C_F (Kd.heap_int .u64) HR0.out) (zB HB)));rintro e w11 ⟨v368,rfl,ho0,hb⟩;refine ⟨_,rfl,?_⟩;have HO369:=am (Kd.V_lower (Kd.V_mono (ok':=fun k_=>True) ho0 (fun k_ hk_=>trivial)) (zS HB));replace HB:=zBs HB hb;clear hb ho0;(try simp only [errW_none,errW_some]);obtain ⟨Ao12,co12,eo12⟩:=Kd.V_slice HO369.out;subst eo12)))
  all_goals (refine bodyPost_ret (results_list (rs := [.tmp 4, .tmp 5, .tmp 6, .tmp 7]) rfl (by simp) (.tmp (.tmp (.tmp (.tmp .nil))))) rfl ?_)
  rotate_left
  rotate_left
  rotate_left
  ·exact ⟨z2,zB HB⟩
  all_goals (exact ⟨by first|exact z3|(simp only [← hji7];exact z3)|exact z2,zB HB⟩)
def text_upper.f (k:Nat) (a0:Bool) (l1:List Int) (a2:Int) (a3:Bool):Option (Int × Bool × Int × Int × Int × Bool × Option Int):=(nat_Top.f k l1 64).bind fun bt375=>(if bt375.2.2.2.isNone=true then (if bt375.2.2.1=true then ((round_Make.f k a0 bt375.1 0 (wrap64 ((wrap64 (a2+bt375.2.1)) - 64)) true).bind fun bt380=>(some (bt380.1,bt380.2.1,bt380.2.2.1,bt380.2.2.2.1,bt380.2.2.2.2.1,bt380.2.2.2.2.2.1,bt380.2.2.2.2.2.2))) else ((round_Make.f k a0 bt375.1 0 (wrap64 ((wrap64 (a2+bt375.2.1)) - 64)) a3).bind fun bt387=>(some (bt387.1,bt387.2.1,bt387.2.2.1,bt387.2.2.2.1,bt387.2.2.2.2.1,bt387.2.2.2.2.2.1,bt387.2.2.2.2.2.2)))) else (some (0,false,0,0,0,false,some (bt375.2.2.2.getD 0))))
theorem text_upper.mono:∀ a0 a1 a2 a3 k,LeO (text_upper.f k a0 a1 a2 a3) (text_upper.f (k+1) a0 a1 a2 a3):=by
  intro a0 a1 a2 a3 k
  unfold text_upper.f
  repeat' (with_reducible first|exact nat_Top.mono _ _ _|exact round_Make.mono _ _ _ _ _ _|exact zm|exact zv|refine zI ?_ ?_|refine zO ?_ fun _=>?_)
theorem text_upper.calls (k:Nat) (a0:Bool) (A1:Option Addr) (c1:Nat) (l1:List Int) (a2:Int) (a3:Bool) (r1:Int) (r2:Bool) (r3:Int) (r4:Int) (r5:Int) (r6:Bool) (r7:Option Int) (w:World) (hr1:Kd.C (Kd.int .u64) w A1 l1.length l1) (hc1:l1.length≤c1) (h:text_upper.f k a0 l1 a2 a3=some (r1,r2,r3,r4,r5,r6,r7)) :
    Calls Tryz.prog 95 #[.bool a0, .slice A1 l1.length c1, .int .i64 a2, .bool a3] w fun e w'=>e = .returned (.tuple #[.agg #[.int .i64 r1, .bool r2, .int .i64 r3, .int .u64 r4, .int .u64 r5, .bool r6],errW r7])∧Below w.heap.size w w':=by
 have hu81:=Tryz.underlying81
 have hu27:=Tryz.underlying27
 have hu64:=Tryz.underlying64
 have HR1:=am hr1
 have HC1:=am hc1
 clear hr1 hc1
 have HB:=am (Below.refl w.heap.size w)
 have H:=am h
 unfold text_upper.f at H
 clear h
 replace H:=zo H
 obtain ⟨⟨t375,t376,t377,t378⟩,A5,H⟩:=H
 try dsimp only at H
 rcases t378 with _|q379
 replace H:=zb1 H
 try simp only [errW_none,errW_some]
 cases t377
 replace H:=zb0 H
 replace H:=zo H
 obtain ⟨⟨t387,t388,t389,t390,t391,t392,t393⟩,A12,H⟩:=H
 try dsimp only at H
 obtain ⟨rfl,rfl,rfl,rfl,rfl,rfl,rfl⟩:=zJ7 H
 rotate_left
 replace H:=zb1 H
 replace H:=zo H
 obtain ⟨⟨t380,t381,t382,t383,t384,t385,t386⟩,A7,H⟩:=H
 try dsimp only at H
 obtain ⟨rfl,rfl,rfl,rfl,rfl,rfl,rfl⟩:=zJ7 H
 rotate_left
 replace H:=zb0 H
 try simp only [Option.getD_some] at H
 try simp only [errW_none,errW_some]
 obtain ⟨rfl,rfl,rfl,rfl,rfl,rfl,rfl⟩:=zJ7 H
 rotate_left
 all_goals (go_enter Tryz.func95,Tryz.ntmps95;go_wp2_with (first|((with_reducible refine gate_dst (N:=8) rfl ?_);refine zx 8 81 #[.int .i64 0, .bool false, .int .i64 0, .int .u64 0, .int .u64 0, .bool false] ?_;intro gb374 hg w13 hbox hb;have BK374:=am (hbox);have GW374:=zG hg HB;have GE374:=zG hg HB;replace HB:=zBs HB hb;clear hb hbox hg)|((with_reducible refine gate_callee (f:=151) rfl ?_);refine zc (some 16) Tryz.func151 #[.slice A1 l1.length c1, .int .i64 64] (nat_Top.calls _ _ _ _ _ _ _ _ _ _ (zC (Kd.C_below HR1.out HB.out)) HC1.out A5.out) ?_;rintro e w14 ⟨rfl,hb⟩;refine ⟨_,rfl,?_⟩;replace BK374:=zKb BK374 hb;replace HB:=zBs HB hb;clear hb;(try simp only [errW_none,errW_some]);obtain ⟨_,_,_,_,_,_,_,_,_,_,_,_⟩:=zf6 BK374)|((with_reducible refine gate_callee (f:=93) rfl ?_);refine zc (some 35) Tryz.func93 _ (round_Make.calls _ _ _ _ _ _ _ _ _ _ _ _ _ _ A12.out) ?_;rintro e w15 ⟨rfl,hb⟩;refine ⟨_,rfl,?_⟩;replace BK374:=zKb BK374 hb;replace HB:=zBs HB hb;clear hb;(try simp only [errW_none,errW_some]);obtain ⟨_,_,_,_,_,_,_,_,_,_,_,_⟩:=zf6 BK374)|((with_reducible refine gate_callee (f:=93) rfl ?_);refine zc (some 35) Tryz.func93 _ (round_Make.calls _ _ _ _ _ _ _ _ _ _ _ _ _ _ A7.out) ?_;rintro e w10 ⟨rfl,hb⟩;refine ⟨_,rfl,?_⟩;replace BK374:=zKb BK374 hb;replace HB:=zBs HB hb;clear hb;(try simp only [errW_none,errW_some]);obtain ⟨_,_,_,_,_,_,_,_,_,_,_,_⟩:=zf6 BK374)))
 ·refine bodyPost_ret (results_ct rfl _ _ gb374 81 #[.int .i64 t387, .bool t388, .int .i64 t389, .int .u64 t390, .int .u64 t391, .bool t392] (0,0) _ rfl (zKp BK374) Tryz.underlying81 rfl (by kernel_rfl)) rfl ?_
  exact ⟨z2,zB HB⟩
 ·refine bodyPost_ret (results_ct rfl _ _ gb374 81 #[.int .i64 t380, .bool t381, .int .i64 t382, .int .u64 t383, .int .u64 t384, .bool t385] (0,0) _ rfl (zKp BK374) Tryz.underlying81 rfl (by kernel_rfl)) rfl ?_
  exact ⟨z2,zB HB⟩
 refine bodyPost_ret (results_ct rfl _ _ gb374 81 #[.int .i64 0, .bool false, .int .i64 0, .int .u64 0, .int .u64 0, .bool false] (0,0) _ rfl (zKp BK374) Tryz.underlying81 rfl (by kernel_rfl)) rfl ?_
 exact ⟨z2,zB HB⟩
def nat_Cmp.l0:Nat→List Int→List Int→Int→Option (Int)
  | 0,_,_,_=>none
  | k+1,x0,x1,x5=>if x5 ≥ 0 then (if 0≤x5 then (if x5<(x0.length:Int) then (if x5<(x1.length:Int) then (if (rd x0 x5)=(rd x1 x5) then (nat_Cmp.l0 k x0 x1 (wrap64 (x5 - 1))) else (if (rd x0 x5)<(rd x1 x5) then (some (-1)) else (some 1))) else (none)) else (none)) else (none)) else (some 0)
def nat_Cmp.f (k:Nat) (l0:List Int) (l1:List Int):Option (Int):=(nat_trim.f k l0).bind fun t394=>((nat_trim.f k l1).bind fun t397=>(if (t394.length:Int)=(t397.length:Int) then (nat_Cmp.l0 k t394 t397 (wrap64 ((t394.length:Int) - 1))) else (if (t394.length:Int)<(t397.length:Int) then (some (-1)) else (some 1))))
theorem nat_Cmp.mono_l:∀ k,(∀ y0 y1 y2,LeO (nat_Cmp.l0 k y0 y1 y2) (nat_Cmp.l0 (k+1) y0 y1 y2))
  | 0=>fun _ _ _ r h=>by simp [nat_Cmp.l0] at h
  | k+1=>by
    have ih0:=nat_Cmp.mono_l k
    · intro y0 y1 y2
      unfold nat_Cmp.l0
      repeat' (with_reducible first|exact ih0 _ _ _|exact nat_trim.mono _ _|exact zm|exact zv|refine zI ?_ ?_|refine zO ?_ fun _=>?_)
theorem nat_Cmp.mono:∀ a0 a1 k,LeO (nat_Cmp.f k a0 a1) (nat_Cmp.f (k+1) a0 a1):=by
  intro a0 a1 k
  have ih0:=nat_Cmp.mono_l k
  unfold nat_Cmp.f
  repeat' (with_reducible first|exact ih0 _ _ _|exact nat_trim.mono _ _|exact zm|exact zv|refine zI ?_ ?_|refine zO ?_ fun _=>?_)
theorem nat_Cmp.calls (k:Nat) (A0:Option Addr) (c0:Nat) (l0:List Int) (A1:Option Addr) (c1:Nat) (l1:List Int) (r:Int) (w:World) (hr0:Kd.C (Kd.int .u64) w A0 l0.length l0) (hc0:l0.length≤c0) (hr1:Kd.C (Kd.int .u64) w A1 l1.length l1) (hc1:l1.length≤c1) (h:nat_Cmp.f k l0 l1=some r) :
    Calls Tryz.prog 153 #[.slice A0 l0.length c0, .slice A1 l1.length c1] w fun e w'=>e = .returned (.int .i64 r)∧Below w.heap.size w w':=by
 have HR0:=am hr0
 have HC0:=am hc0
 clear hr0 hc0
 have HR1:=am hr1
 have HC1:=am hc1
 clear hr1 hc1
 have HB:=am (Below.refl w.heap.size w)
 have H:=am h
 unfold nat_Cmp.f at H
 clear h
 replace H:=zo H
 obtain ⟨t394,A3,H⟩:=H
 replace H:=zo H
 obtain ⟨t397,A4,H⟩:=H
 replace H:=zs H
 rcases H with ⟨c5,H⟩|⟨c5,H⟩
 have c5b0:((t394.length:Int) == (t397.length:Int))=true:=beq_iff_eq.mpr c5
 have c5b1:((t394.length:Int) != (t397.length:Int))=false:=bne_eq_false_iff_eq.mpr c5
 have c5b2:(t394.length == t397.length)=true:=by first|simpa using c5|(simp at c5 ⊢;omega)
 clear c5
 rotate_left
 have c5b0:((t394.length:Int) == (t397.length:Int))=false:=beq_eq_false_iff_ne.mpr c5
 have c5b1:((t394.length:Int) != (t397.length:Int))=true:=bne_iff_ne.mpr c5
 have c5b2:(t394.length == t397.length)=false:=by first|simpa using c5|(simp at c5 ⊢;omega)
 replace H:=zs H
 rcases H with ⟨c16,H⟩|⟨c16,H⟩
 have c16b0:decide ((t394.length:Int)<(t397.length:Int))=true:=decide_eq_true c16
 have c16b1:decide (t394.length<t397.length)=true:=decide_eq_true (Int.ofNat_lt.mp c16)
 clear c16
 obtain rfl:=Option.some.inj H.out
 rotate_left
 have c16b0:decide ((t394.length:Int)<(t397.length:Int))=false:=decide_eq_false c16
 have c16b1:decide (t394.length<t397.length)=false:=decide_eq_false (fun h=>c16 (Int.ofNat_lt.mpr h))
 clear c16
 obtain rfl:=Option.some.inj H.out
 rotate_left
 all_goals (go_enter Tryz.func153,Tryz.ntmps153;go_wp2_with (first|(go_at_call 103;(with_reducible refine (nat_trim.calls _ (fun k_=>k_<w.heap.size) _ _ _ _ _ ?side1 A3.out).mono ?_);(case side1=>exact Kd.V_mk HC0.out (Kd.F_below (Kd.C_F (Kd.heap_int .u64) HR0.out) (zB HB)));rintro e w6 ⟨v395,rfl,ho0,hb⟩;have HO396:=am (Kd.V_lower (Kd.V_mono (ok':=fun k_=>True) ho0 (fun k_ hk_=>trivial)) (zS HB));replace HB:=zBs HB hb;clear hb ho0)|(go_at_call 103;(with_reducible refine (nat_trim.calls _ (fun k_=>k_<w.heap.size) _ _ _ _ _ ?side1 A4.out).mono ?_);(case side1=>exact Kd.V_mk HC1.out (Kd.F_below (Kd.C_F (Kd.heap_int .u64) HR1.out) (zB HB)));rintro e w7 ⟨v398,rfl,ho0,hb⟩;replace HO396:=zVb HO396 hb;have HO399:=am (Kd.V_lower (Kd.V_mono (ok':=fun k_=>True) ho0 (fun k_ hk_=>trivial)) (zS HB));replace HB:=zBs HB hb;clear hb ho0;obtain ⟨Ao8,co8,eo8⟩:=Kd.V_slice HO396.out;subst eo8;obtain ⟨Ao9,co9,eo9⟩:=Kd.V_slice HO399.out;subst eo9)))
 all_goals (repeat (go_quiet (first|(go_at_call 103;(with_reducible refine (nat_trim.calls k (fun k_=>k_<w.heap.size) _ _ l0 t394 _ ?side1 A3.out).mono ?_);(case side1=>exact Kd.V_mk HC0.out (Kd.F_below (Kd.C_F (Kd.heap_int .u64) HR0.out) (zB HB)));rintro e w6 ⟨v395,rfl,ho0,hb⟩;have n0_:=am (Kd.V_lower (Kd.V_mono (ok':=fun k_=>True) ho0 (fun k_ hk_=>trivial)) (zS HB));have n1_:=zBs HB hb;clear HB;have HO396:=n0_;have HB:=n1_;clear n0_ n1_;(try clear hb);(try clear hb2);(try clear hk);(try clear hi);(try clear ho0))|(go_at_call 103;(with_reducible refine (nat_trim.calls k (fun k_=>k_<w.heap.size) _ _ l1 t397 _ ?side1 A4.out).mono ?_);(case side1=>exact Kd.V_mk HC1.out (Kd.F_below (Kd.C_F (Kd.heap_int .u64) HR1.out) (zB HB)));rintro e w7 ⟨v398,rfl,ho0,hb⟩;have n0_:=zVb HO396 hb;have n1_:=am (Kd.V_lower (Kd.V_mono (ok':=fun k_=>True) ho0 (fun k_ hk_=>trivial)) (zS HB));have n2_:=zBs HB hb;clear HO396;clear HB;have HO396:=n0_;have HO399:=n1_;have HB:=n2_;clear n0_ n1_ n2_;(try clear hb);(try clear hb2);(try clear hk);(try clear hi);(try clear ho0);obtain ⟨Ao8,co8,eo8⟩:=Kd.V_slice HO396.out;subst eo8;obtain ⟨Ao9,co9,eo9⟩:=Kd.V_slice HO399.out;subst eo9));try go_wp2_with (first|(go_at_call 103;(with_reducible refine (nat_trim.calls k (fun k_=>k_<w.heap.size) _ _ l0 t394 _ ?side1 A3.out).mono ?_);(case side1=>exact Kd.V_mk HC0.out (Kd.F_below (Kd.C_F (Kd.heap_int .u64) HR0.out) (zB HB)));rintro e w6 ⟨v395,rfl,ho0,hb⟩;have n0_:=am (Kd.V_lower (Kd.V_mono (ok':=fun k_=>True) ho0 (fun k_ hk_=>trivial)) (zS HB));have n1_:=zBs HB hb;clear HB;have HO396:=n0_;have HB:=n1_;clear n0_ n1_;(try clear hb);(try clear hb2);(try clear hk);(try clear hi);(try clear ho0))|(go_at_call 103;(with_reducible refine (nat_trim.calls k (fun k_=>k_<w.heap.size) _ _ l1 t397 _ ?side1 A4.out).mono ?_);(case side1=>exact Kd.V_mk HC1.out (Kd.F_below (Kd.C_F (Kd.heap_int .u64) HR1.out) (zB HB)));rintro e w7 ⟨v398,rfl,ho0,hb⟩;have n0_:=zVb HO396 hb;have n1_:=am (Kd.V_lower (Kd.V_mono (ok':=fun k_=>True) ho0 (fun k_ hk_=>trivial)) (zS HB));have n2_:=zBs HB hb;clear HO396;clear HB;have HO396:=n0_;have HO399:=n1_;have HB:=n2_;clear n0_ n1_ n2_;(try clear hb);(try clear hb2);(try clear hk);(try clear hi);(try clear ho0);obtain ⟨Ao8,co8,eo8⟩:=Kd.V_slice HO396.out;subst eo8;obtain ⟨Ao9,co9,eo9⟩:=Kd.V_slice HO399.out;subst eo9))))
 ·go_loopg [5] k (fun kq v5 w' => ∃ (x5_1:Int),v5 = .int .i64 x5_1∧Aside0 (nat_Cmp.l0 kq t394 t397 x5_1=some r)∧Aside0 (kq≤k)∧Aside0 (Kd.V (Kd.int .u64) 25 w' w.heap.size (fun _=>True) (.slice Ao8 t394.length co8) t394)∧Aside0 (Kd.V (Kd.int .u64) 25 w' w.heap.size (fun _=>True) (.slice Ao9 t397.length co9) t397)∧Aside0 (Below w.heap.size w w'))
  case atStart=>exact ⟨(wrap64 ((t394.length:Int) - 1)),z1,H,zL,⟨zV HO396⟩,⟨zV HO399⟩,⟨zB HB⟩⟩
  clear H
  obtain ⟨x5_1,rfl,H,HK1,HO_0,HO_1,HB⟩:=hrel
  obtain _|k1:=gk
  ·exact zz H rfl
  simp only [nat_Cmp.l0] at H
  replace H:=zsde H
  rcases H with ⟨c10b0,H⟩|⟨c10b0,H⟩
  replace H:=zid H
  obtain ⟨c11b0,H⟩:=H
  replace H:=zid H
  obtain ⟨c12b0,H⟩:=H
  replace H:=zid H
  obtain ⟨c13b0,H⟩:=H
  replace H:=zsk H
  rcases H with ⟨c14b0,c14b1,H⟩|⟨c14b0,c14b1,c14,H⟩
  obtain ⟨p400,q400,ad400,rfl,hx400_0⟩:=zA (Kd.at_int (Kd.V_reads' HO_0.out).2.2 x5_1)
  obtain ⟨p401,q401,ad401,rfl,hx401_0⟩:=zA (Kd.at_int (Kd.V_reads' HO_1.out).2.2 x5_1)
  rotate_left
  replace H:=zsd H
  rcases H with ⟨c15b0,H⟩|⟨c15b0,H⟩
  obtain rfl:=Option.some.inj H.out
  obtain ⟨p400,q400,ad400,rfl,hx400_0⟩:=zA (Kd.at_int (Kd.V_reads' HO_0.out).2.2 x5_1)
  obtain ⟨p401,q401,ad401,rfl,hx401_0⟩:=zA (Kd.at_int (Kd.V_reads' HO_1.out).2.2 x5_1)
  have p402:0≤(x5_1:Int):=zD
  have q402:x5_1<(t394.length:Int):=zD
  obtain ⟨ad402,e402,hx402_0⟩:=Kd.at_int (Kd.V_reads' HO_0.out).2.2 x5_1 p402 q402
  obtain rfl:ad400=ad402:=(by injection e402)
  replace p402:=eq_true p402
  replace q402:=eq_true q402
  have p403:0≤(x5_1:Int):=zD
  have q403:x5_1<(t397.length:Int):=zD
  obtain ⟨ad403,e403,hx403_0⟩:=Kd.at_int (Kd.V_reads' HO_1.out).2.2 x5_1 p403 q403
  obtain rfl:ad401=ad403:=(by injection e403)
  replace p403:=eq_true p403
  replace q403:=eq_true q403
  rotate_left
  obtain rfl:=Option.some.inj H.out
  obtain ⟨p400,q400,ad400,rfl,hx400_0⟩:=zA (Kd.at_int (Kd.V_reads' HO_0.out).2.2 x5_1)
  obtain ⟨p401,q401,ad401,rfl,hx401_0⟩:=zA (Kd.at_int (Kd.V_reads' HO_1.out).2.2 x5_1)
  have p402:0≤(x5_1:Int):=zD
  have q402:x5_1<(t394.length:Int):=zD
  obtain ⟨ad402,e402,hx402_0⟩:=Kd.at_int (Kd.V_reads' HO_0.out).2.2 x5_1 p402 q402
  obtain rfl:ad400=ad402:=(by injection e402)
  replace p402:=eq_true p402
  replace q402:=eq_true q402
  have p403:0≤(x5_1:Int):=zD
  have q403:x5_1<(t397.length:Int):=zD
  obtain ⟨ad403,e403,hx403_0⟩:=Kd.at_int (Kd.V_reads' HO_1.out).2.2 x5_1 p403 q403
  obtain rfl:ad401=ad403:=(by injection e403)
  replace p403:=eq_true p403
  replace q403:=eq_true q403
  rotate_left
  obtain rfl:=Option.some.inj H.out
  rotate_left
  all_goals (go_wp2;repeat (go_quiet (fail);try go_wp2))
  ·go_roundg k1
   case measure=>have:=HK1.out;omega
   case rel=>exact ⟨(wrap64 (x5_1 - 1)),z1,H,(zH HK1),⟨zV HO_0⟩,⟨zV HO_1⟩,⟨zB HB⟩⟩
  ·go_ret
   exact ⟨z2,zB HB⟩
  ·go_ret
   exact ⟨z2,zB HB⟩
  go_ret
  exact ⟨z2,zB HB⟩
 ·go_ret
  exact ⟨z2,zB HB⟩
 go_ret
 exact ⟨z2,zB HB⟩
mutual
def nat_estimate.l0:Nat→Int→Int→Int→Int→Int→Option (Int)
  | 0,_,_,_,_,_=>none
  | k+1,x2,x3,x4,x11,x12=>(bits_Mul64.f x11 x4).bind fun bt406=>(if bt406.1<x12 then (nat_estimate.j1 k x2 x3 x4 x11 x12 true) else (if bt406.1=x12 then (nat_estimate.j1 k x2 x3 x4 x11 x12 (decide (bt406.2≤x2))) else (nat_estimate.j1 k x2 x3 x4 x11 x12 false)))
def nat_estimate.j1:Nat→Int→Int→Int→Int→Int→Bool→Option (Int)
  | 0,_,_,_,_,_,_=>none
  | k+1,x2,x3,x4,x11,x12,x43=>if x43=true then (some x11) else (if (IntKind.u64.wrap (x12+x3))<x3 then (some (IntKind.u64.wrap (x11 - 1))) else (nat_estimate.l0 k x2 x3 x4 (IntKind.u64.wrap (x11 - 1)) (IntKind.u64.wrap (x12+x3))))
end
def nat_estimate.f (k:Nat) (a0:Int) (a1:Int) (a2:Int) (a3:Int) (a4:Int):Option (Int):=if a0 ≥ a3 then (some 18446744073709551615) else ((bits_Div64.f k a0 a1 a3).bind fun bt404=>(nat_estimate.l0 k a2 a3 a4 bt404.1 bt404.2))
theorem nat_estimate.mono_l:∀ k,(∀ y0 y1 y2 y3 y4,LeO (nat_estimate.l0 k y0 y1 y2 y3 y4) (nat_estimate.l0 (k+1) y0 y1 y2 y3 y4))∧(∀ y0 y1 y2 y3 y4 y5,LeO (nat_estimate.j1 k y0 y1 y2 y3 y4 y5) (nat_estimate.j1 (k+1) y0 y1 y2 y3 y4 y5))
  | 0=>⟨fun _ _ _ _ _ r h=>by simp [nat_estimate.l0] at h,fun _ _ _ _ _ _ r h=>by simp [nat_estimate.j1] at h⟩
  | k+1=>by
    obtain ⟨ih0,ih1⟩:=nat_estimate.mono_l k
    refine ⟨?_,?_⟩
    · intro y0 y1 y2 y3 y4
      unfold nat_estimate.l0
      repeat' (with_reducible first|exact ih0 _ _ _ _ _|exact ih1 _ _ _ _ _ _|exact bits_Div64.mono _ _ _ _|exact zm|exact zv|refine zI ?_ ?_|refine zO ?_ fun _=>?_)
    · intro y0 y1 y2 y3 y4 y5
      unfold nat_estimate.j1
      repeat' (with_reducible first|exact ih0 _ _ _ _ _|exact ih1 _ _ _ _ _ _|exact bits_Div64.mono _ _ _ _|exact zm|exact zv|refine zI ?_ ?_|refine zO ?_ fun _=>?_)
theorem nat_estimate.mono:∀ a0 a1 a2 a3 a4 k,LeO (nat_estimate.f k a0 a1 a2 a3 a4) (nat_estimate.f (k+1) a0 a1 a2 a3 a4):=by
  intro a0 a1 a2 a3 a4 k
  obtain ⟨ih0,ih1⟩:=nat_estimate.mono_l k
  unfold nat_estimate.f
  repeat' (with_reducible first|exact ih0 _ _ _ _ _|exact ih1 _ _ _ _ _ _|exact bits_Div64.mono _ _ _ _|exact zm|exact zv|refine zI ?_ ?_|refine zO ?_ fun _=>?_)
theorem nat_estimate.calls (k:Nat) (a0:Int) (a1:Int) (a2:Int) (a3:Int) (a4:Int) (r:Int) (w:World) (h:nat_estimate.f k a0 a1 a2 a3 a4=some r) :
    Calls Tryz.prog 192 #[.int .u64 a0, .int .u64 a1, .int .u64 a2, .int .u64 a3, .int .u64 a4] w fun e w'=>e = .returned (.int .u64 r)∧Drawn0 w w':=by
 have H:=am h
 unfold nat_estimate.f at H
 clear h
 replace H:=zsde H
 rcases H with ⟨c6b0,H⟩|⟨c6b0,H⟩
 obtain rfl:=Option.some.inj H.out
 rotate_left
 replace H:=zo H
 obtain ⟨⟨t404,t405⟩,A7,H⟩:=H
 try dsimp only at H
 rotate_left
 all_goals (go_enter Tryz.func192,Tryz.ntmps192;go_wp2_with (first|((with_reducible refine gate_callee (f:=164) rfl ?_);refine zc (some 22) Tryz.func164 _ (bits_Div64.calls _ _ _ _ _ _ _ A7.out) ?_;rintro e w' ⟨rfl,⟨nd,rfl⟩⟩;refine ⟨_,rfl,?_⟩)))
 ·go_ret
  exact ⟨z1,z4⟩
 go_loopg [11,12] k (fun kq v11 v12 w' => ∃ (x11_1:Int) (x12_1:Int),v11 = .int .u64 x11_1∧v12 = .int .u64 x12_1∧Aside0 (nat_estimate.l0 kq a2 a3 a4 x11_1 x12_1=some r)∧Aside0 (kq≤k)∧Drawn0 w w')
 case atStart=>exact ⟨(t404),(t405),z1,z1,H,zL,z4⟩
 clear H
 obtain ⟨x11_1,x12_1,rfl,rfl,H,HK1,⟨m1,rfl⟩⟩:=hrel
 obtain _|k1:=gk
 ·exact zz H rfl
 simp only [nat_estimate.l0] at H
 replace H:=zo H
 obtain ⟨⟨t406,t407⟩,A8,H⟩:=H
 try dsimp only at H
 go_upto_region 5 with (first|((with_reducible refine gate_callee (f:=178) rfl ?_);refine zc (some 28) Tryz.func178 _ (bits_Mul64.calls _ _ _ _ _ A8.out) ?_;rintro e w' ⟨rfl,⟨nd,rfl⟩⟩;refine ⟨_,rfl,?_⟩))
 (try simp only [Act.put,List.setIfInBounds_toArray,List.set_cons_zero,List.set_cons_succ])
 go_cut [43] (fun v43 wc => ∃ (kq:Nat) (x43_8:Bool),v43 = .bool x43_8∧Aside0 (nat_estimate.j1 kq a2 a3 a4 x11_1 x12_1 x43_8=some r)∧Aside0 (kq≤k1)∧Drawn0 w wc)
 case first =>
  replace H:=zsd H
  rcases H with ⟨c10b0,H⟩|⟨c10b0,H⟩
  (first|rw [c10b0]|(simp only [i64_w,i32_w];rw [c10b0])|rw [c10b1]|skip)
  rotate_left
  (first|rw [c10b0]|(simp only [i64_w,i32_w];rw [c10b0])|rw [c10b1]|skip)
  replace H:=zsk H
  rcases H with ⟨c11b0,c11b1,H⟩|⟨c11b0,c11b1,c11,H⟩
  rotate_left
  rotate_left
  all_goals (go_wp2)
  ·go_meet
   case rel=>exact ⟨_,(true),z1,H,⟨by have:=HK1.out;first|omega|exact Nat.le_refl _⟩,z4⟩
  ·go_meet
   case rel=>exact ⟨_,(decide (t407≤a2)),z1,H,⟨by have:=HK1.out;first|omega|exact Nat.le_refl _⟩,z4⟩
  go_meet
  case rel=>exact ⟨_,(false),z1,H,⟨by have:=HK1.out;first|omega|exact Nat.le_refl _⟩,z4⟩
 case rest =>
  obtain ⟨kq,x43_8,rfl,H,HJ8,⟨mc8,rfl⟩⟩:=hcut
  obtain _|kj8:=kq
  ·exact zz H rfl
  simp only [nat_estimate.j1] at H
  cases x43_8
  replace H:=zb0 H
  replace H:=zsd H
  rcases H with ⟨c13b0,H⟩|⟨c13b0,H⟩
  obtain rfl:=Option.some.inj H.out
  rotate_left
  rotate_left
  replace H:=zb1 H
  obtain rfl:=Option.some.inj H.out
  rotate_left
  all_goals (go_wp2)
  ·go_ret
   exact ⟨z1,z4⟩
  ·go_roundg kj8
   case measure=>have:=HK1.out;have:=HJ8.out;omega
   case rel=>exact ⟨(IntKind.u64.wrap (x11_1 - 1)),(IntKind.u64.wrap (x12_1+a3)),z1,z1,H,⟨by have:=HK1.out;have:=HJ8.out;omega⟩,z4⟩
  go_ret
  exact ⟨z1,z4⟩
end Go.Proofs.Yy.PTx
end
