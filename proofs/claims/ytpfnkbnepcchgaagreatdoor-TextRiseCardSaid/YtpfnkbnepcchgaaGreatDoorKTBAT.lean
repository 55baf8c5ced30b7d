/- Part 20 of what the proof needs. -/
import Derived.Test.YtpfnkbnepcchgaaGreatDoorKTBAL
import Derived.Test.YtpfnkbnepcchgaaGreatDoorKTBAR
import Derived.Test.YtpfnkbnepcchgaaGreatDoorKTBAS
set_option linter.unusedSimpArgs false
set_option linter.unusedVariables false
section
set_option maxHeartbeats 8000000
set_option maxRecDepth 100000
namespace Go.Proofs.Yy.PTx
open Go.RowKit Go.Proofs.Yy.Z Go.Proofs.Yw.PrintWords Go.Proofs.Yw.PrintLast Go.Proofs.Yw.PrintMore
open Go.Proofs.Yy.M
attribute [local go_sem] runx_add64 runx_sub64 eql_cc eql_nc neq_cc neq_nc
attribute [local go_sem] max2_int min2_int max_two min_two max_three min_three max_four min_four
mutual
def nat_long.l0:Nat→Int→Int→List Int→List Int→List Int→Int→Option (List Int × List Int)
  | 0,_,_,_,_,_,_=>none
  | k+1,x6,x7,x8,x9,x10,x11=>if x11 ≥ 0 then (if 0≤(wrap64 (x11+x7)) then (if (wrap64 (x11+x7))<(x9.length:Int) then (if 0≤(wrap64 ((wrap64 (x11+x7)) - 1)) then (if (wrap64 ((wrap64 (x11+x7)) - 1))<(x9.length:Int) then (if 0≤(wrap64 ((wrap64 (x11+x7)) - 2)) then (if (wrap64 ((wrap64 (x11+x7)) - 2))<(x9.length:Int) then (if 0≤(wrap64 (x7 - 1)) then (if (wrap64 (x7 - 1))<(x8.length:Int) then (if 0≤(wrap64 (x7 - 2)) then (if (wrap64 (x7 - 2))<(x8.length:Int) then ((nat_estimate.f k (rd x9 (wrap64 (x11+x7))) (rd x9 (wrap64 ((wrap64 (x11+x7)) - 1))) (rd x9 (wrap64 ((wrap64 (x11+x7)) - 2))) (rd x8 (wrap64 (x7 - 1))) (rd x8 (wrap64 (x7 - 2)))).bind fun t429=>(if 0≤x11 then (if x11<(wrap64 ((wrap64 (x11+x7))+1)) then (if (wrap64 ((wrap64 (x11+x7))+1))≤(x9.length:Int) then ((nat_lessW.f k x9 x11 (wrap64 ((wrap64 (x11+x7))+1)) x8 t429).bind fun bt432=>(nat_long.l1 k x6 x7 x8 bt432.2 x10 x11 t429 bt432.1)) else (none)) else (none)) else (none))) else (none)) else (none)) else (none)) else (none)) else (none)) else (none)) else (none)) else (none)) else (none)) else (none)) else (nat_long.l2 k x6 x7 x9 x10 x7 0)
def nat_long.l1:Nat→Int→Int→List Int→List Int→List Int→Int→Int→Bool→Option (List Int × List Int)
  | 0,_,_,_,_,_,_,_,_=>none
  | k+1,x6,x7,x8,x9,x10,x11,x12,x13=>if x13=true then (if 0≤x11 then (if x11<(wrap64 ((wrap64 (x11+x7))+1)) then (if (wrap64 ((wrap64 (x11+x7))+1))≤(x9.length:Int) then ((nat_backW.f k x9 x11 (wrap64 ((wrap64 (x11+x7))+1)) x8).bind fun bt436=>(nat_long.l1 k x6 x7 x8 bt436.2 x10 x11 (IntKind.u64.wrap (x12 - 1)) (!bt436.1))) else (none)) else (none)) else (none)) else (if 0≤x11 then (if x11<(x10.length:Int) then (nat_long.l0 k x6 x7 x8 x9 (x10.set (x11:Int).toNat x12) (wrap64 (x11 - 1))) else (none)) else (none))
def nat_long.l2:Nat→Int→Int→List Int→List Int→Int→Int→Option (List Int × List Int)
  | 0,_,_,_,_,_,_=>none
  | k+1,x6,x7,x9,x10,x102,x103=>if x103<x102 then (if 0≤x103 then (if x103<(x9.length:Int) then (if 0≤x6 then ((some (x9.set (x103:Int).toNat (shr .u64 (rd x9 x103) x6):List Int)).bind fun y440=>(if x6 > 0 then (if (wrap64 (x103+1))<x7 then (if 0≤(wrap64 (x103+1)) then (if (wrap64 (x103+1))<(x9.length:Int) then (if 0≤(wrap64 (64 - x6)) then (nat_long.l2 k x6 x7 (y440.set (x103:Int).toNat (Go.bits .or .u64 (rd y440 x103) (shl .u64 (rd y440 (wrap64 (x103+1))) (wrap64 (64 - x6))))) x10 x102 (wrap64 (x103+1))) else (none)) else (none)) else (none)) else (nat_long.l2 k x6 x7 y440 x10 x102 (wrap64 (x103+1)))) else (nat_long.l2 k x6 x7 y440 x10 x102 (wrap64 (x103+1))))) else (none)) else (none)) else (none)) else ((nat_trim.f k x10).bind fun t444=>(if 0≤x7 then (if x7≤(x9.length:Int) then ((nat_trim.f k (x9.take (x7:Int).toNat)).bind fun t452=>(some (t444,t452))) else (none)) else (none)))
end
def nat_long.f (k:Nat) (l0:List Int) (l1:List Int):Option (List Int × List Int):=if 0≤(wrap64 ((l1.length:Int) - 1)) then (if (wrap64 ((l1.length:Int) - 1))<(l1.length:Int) then ((bits_LeadingZeros64.f k (rd l1 (wrap64 ((l1.length:Int) - 1)))).bind fun t409=>((nat_lifted.f k l1 t409).bind fun t410=>(if 0≤(l1.length:Int) then (if (l1.length:Int)≤(t410.length:Int) then ((nat_lifted.f k l0 t409).bind fun t418=>(if 0≤(wrap64 ((t418.length:Int) - (l1.length:Int))) then (if (wrap64 ((t418.length:Int) - (l1.length:Int)):Int).toNat≤35184372088832 then ((some (List.replicate (wrap64 ((t418.length:Int) - (l1.length:Int)):Int).toNat 0:List Int)).bind fun y421=>(nat_long.l0 k t409 (l1.length:Int) (t410.take ((l1.length:Int):Int).toNat) t418 y421 (wrap64 ((y421.length:Int) - 1)))) else (none)) else (none))) else (none)) else (none)))) else (none)) else (none)
theorem nat_long.mono_l:∀ k,(∀ y0 y1 y2 y3 y4 y5,LeO (nat_long.l0 k y0 y1 y2 y3 y4 y5) (nat_long.l0 (k+1) y0 y1 y2 y3 y4 y5))∧(∀ y0 y1 y2 y3 y4 y5 y6 y7,LeO (nat_long.l1 k y0 y1 y2 y3 y4 y5 y6 y7) (nat_long.l1 (k+1) y0 y1 y2 y3 y4 y5 y6 y7))∧(∀ y0 y1 y2 y3 y4 y5,LeO (nat_long.l2 k y0 y1 y2 y3 y4 y5) (nat_long.l2 (k+1) y0 y1 y2 y3 y4 y5))
  | 0=>⟨fun _ _ _ _ _ _ r h=>by simp [nat_long.l0] at h,fun _ _ _ _ _ _ _ _ r h=>by simp [nat_long.l1] at h,fun _ _ _ _ _ _ r h=>by simp [nat_long.l2] at h⟩
  | k+1=>by
    obtain ⟨ih0,ih1,ih2⟩:=nat_long.mono_l k
    refine ⟨?_,?_,?_⟩
    · intro y0 y1 y2 y3 y4 y5
      unfold nat_long.l0
      repeat' (with_reducible first|exact ih0 _ _ _ _ _ _|exact ih1 _ _ _ _ _ _ _ _|exact ih2 _ _ _ _ _ _|exact bits_LeadingZeros64.mono _ _|exact nat_backW.mono _ _ _ _ _|exact nat_estimate.mono _ _ _ _ _ _|exact nat_lessW.mono _ _ _ _ _ _|exact nat_lifted.mono _ _ _|exact nat_trim.mono _ _|exact zm|exact zv|refine zI ?_ ?_|refine zO ?_ fun _=>?_)
    · intro y0 y1 y2 y3 y4 y5 y6 y7
      unfold nat_long.l1
      repeat' (with_reducible first|exact ih0 _ _ _ _ _ _|exact ih1 _ _ _ _ _ _ _ _|exact ih2 _ _ _ _ _ _|exact bits_LeadingZeros64.mono _ _|exact nat_backW.mono _ _ _ _ _|exact nat_estimate.mono _ _ _ _ _ _|exact nat_lessW.mono _ _ _ _ _ _|exact nat_lifted.mono _ _ _|exact nat_trim.mono _ _|exact zm|exact zv|refine zI ?_ ?_|refine zO ?_ fun _=>?_)
    · intro y0 y1 y2 y3 y4 y5
      unfold nat_long.l2
      repeat' (with_reducible first|exact ih0 _ _ _ _ _ _|exact ih1 _ _ _ _ _ _ _ _|exact ih2 _ _ _ _ _ _|exact bits_LeadingZeros64.mono _ _|exact nat_backW.mono _ _ _ _ _|exact nat_estimate.mono _ _ _ _ _ _|exact nat_lessW.mono _ _ _ _ _ _|exact nat_lifted.mono _ _ _|exact nat_trim.mono _ _|exact zm|exact zv|refine zI ?_ ?_|refine zO ?_ fun _=>?_)
theorem nat_long.mono:∀ a0 a1 k,LeO (nat_long.f k a0 a1) (nat_long.f (k+1) a0 a1):=by
  intro a0 a1 k
  obtain ⟨ih0,ih1,ih2⟩:=nat_long.mono_l k
  unfold nat_long.f
  repeat' (with_reducible first|exact ih0 _ _ _ _ _ _|exact ih1 _ _ _ _ _ _ _ _|exact ih2 _ _ _ _ _ _|exact bits_LeadingZeros64.mono _ _|exact nat_backW.mono _ _ _ _ _|exact nat_estimate.mono _ _ _ _ _ _|exact nat_lessW.mono _ _ _ _ _ _|exact nat_lifted.mono _ _ _|exact nat_trim.mono _ _|exact zm|exact zv|refine zI ?_ ?_|refine zO ?_ fun _=>?_)
def nat_long.T9:Bool × List (List Nat × List Nat):=(true, [([], []),([], []),([], []),([1,2], [1,2]),([0,3], [0,3]),([4], [4]),([], []),([], []),([], []),([7,8], [7,8]),([9], [9]),([6,10], [6,10]),([11], [11]),([], []),([], []),([], []),([14,15], [14,15]),([16], [16]),([13,17], [13,17]),([18], [18]),([], []),([], []),([21], [21]),([20,22], [20,22]),([23], [23]),([], []),([], []),([26], [26]),([25,27], [25,27]),([28], [28]),([5,12,19,24,29], [5,12,19,24,29]),([30,30,0,1,2,3,4,5,6,7,8,9,10,11,12,13,14,15,16,17,18,19,20,21,22,23,24,25,26,27,28,29,30], [30])])
def nat_long.B9:List Nat := [0,0,0,6,15,31,0,0,0,384,896,1984,4032,0,0,0,49152,114688,253952,516096,0,0,2097152,7340032,15728640,0,0,67108864,234881024,503316480,1073741823,2147483647]
theorem nat_long.tab9:rtab .any (opsOf Tryz.f154 9)=nat_long.T9:=by kernel_rfl
theorem nat_long.bits9:waitsOk nat_long.T9.2 nat_long.B9=true:=by kernel_rfl
def nat_long.T20:Bool × List (List Nat × List Nat):=(true, [([], []),([], []),([0,1], [0,1]),([2], [2]),([], []),([], []),([5], [5]),([4,6], [4,6]),([7], [7]),([], []),([9], [9]),([8,10], [8,10]),([3,11], [3,11]),([0,1,0,1,2,3,4,5,6,7,8,9,10,11,12], [0,1]),([13,12,0,1,2,3,4,5,6,7,8,9,10,11,12], [12,13])])
def nat_long.B20:List Nat := [0,0,3,7,0,0,32,112,240,0,512,2032,4095,8191,16383]
theorem nat_long.tab20:rtab .any (opsOf Tryz.f154 20)=nat_long.T20:=by kernel_rfl
theorem nat_long.bits20:waitsOk nat_long.T20.2 nat_long.B20=true:=by kernel_rfl
def nat_long.T22:Bool × List (List Nat × List Nat):=(true, [([], []),([0], [0]),([], []),([], []),([], []),([2,3,4], [2,3,4]),([5,1], [5]),([1,6,0,1], [1]),([6,7,0,1,2,3,4,5,6,7], [6])])
def nat_long.B22:List Nat := [0,1,0,0,0,28,63,127,255]
theorem nat_long.tab22:rtab .any (opsOf Tryz.f154 22)=nat_long.T22:=by kernel_rfl
theorem nat_long.bits22:waitsOk nat_long.T22.2 nat_long.B22=true:=by kernel_rfl
theorem nat_long.calls (k:Nat) (A0:Option Addr) (c0:Nat) (l0:List Int) (A1:Option Addr) (c1:Nat) (l1:List Int) (r1:List Int) (r2:List Int) (w:World) (hr0:Kd.C (Kd.int .u64) w A0 l0.length l0) (hc0:l0.length≤c0) (hr1:Kd.C (Kd.int .u64) w A1 l1.length l1) (hc1:l1.length≤c1) (h:nat_long.f k l0 l1=some (r1,r2)) :
    Calls Tryz.prog 154 #[.slice A0 l0.length c0, .slice A1 l1.length c1] w fun e w' => ∃ v0_ v1_:Value,e = .returned (.tuple #[v0_,v1_])∧Kd.V (Kd.int .u64) 25 w' w.heap.size (fun k_=>(w.heap.size≤k_)) v0_ r1∧Kd.V (Kd.int .u64) 25 w' w.heap.size (fun k_=>(w.heap.size≤k_)) v1_ r2∧Below w.heap.size w w':=by
 have HR0:=am hr0
 have HC0:=am hc0
 clear hr0 hc0
 have HR1:=am hr1
 have HC1:=am hc1
 clear hr1 hc1
 have HB:=am (Below.refl w.heap.size w)
 have H:=am h
 unfold nat_long.f at H
 clear h
 generalize hji3:(wrap64 ((l1.length:Int) - 1):Int)=ji3 at H
 have hji3w:(IntKind.i64.wrap ((l1.length:Int) - 1))=ji3:=(i64_w _).trans hji3
 replace H:=zid H
 obtain ⟨c4b0,H⟩:=H
 replace H:=zid H
 obtain ⟨c5b0,H⟩:=H
 replace H:=zo H
 obtain ⟨t409,A6,H⟩:=H
 replace H:=zo H
 obtain ⟨t410,A7,H⟩:=H
 replace H:=zit H
 obtain ⟨c8b0,c8b1,H⟩:=H
 replace H:=zit H
 obtain ⟨c9b0,c9b1,H⟩:=H
 generalize hy413:(t410.take ((l1.length:Int):Int).toNat:List Int)=y413 at H
 have Ny413:=zY hy413
 clear hy413
 replace H:=zo H
 obtain ⟨t418,A10,H⟩:=H
 generalize hji11:(wrap64 ((t418.length:Int) - (l1.length:Int)):Int)=ji11 at H
 (try rw [hji11] at A6)
 (try rw [hji11] at A7)
 (try rw [hji11] at A10)
 have hji11w:(IntKind.i64.wrap ((t418.length:Int) - (l1.length:Int)))=ji11:=(i64_w _).trans hji11
 replace H:=zit H
 obtain ⟨c12b0,c12b1,H⟩:=H
 replace H:=zit H
 obtain ⟨c13b0,c13b1,H⟩:=H
 obtain ⟨y421,Ny421,H⟩:=zw H
 obtain ⟨p408,q408,ad408,rfl,hx408_0⟩:=zA (Kd.at_int HR1.out (ji3))
 go_enter Tryz.func154,Tryz.ntmps154
 go_wp2_with (first|((with_reducible refine gate_callee (f:=184) rfl ?_);refine goesL_ (some 21) rfl rfl Tryz.func184 (by kernel_rfl) rfl #[.int .u64 (rd l1 (ji3))] rfl (by (try simp only [List.map_toArray,List.map_cons,List.map_nil]);first|done|(simp only [hji3];rfl)|rfl|(simp only [List.length_drop,List.length_take];rfl)) ?_;(with_reducible refine (bits_LeadingZeros64.calls _ _ _ _ A6.out).mono ?_);rintro e w' ⟨rfl,⟨nd,rfl⟩⟩;refine ⟨_,rfl,?_⟩)|((with_reducible refine gate_callee (f:=104) rfl ?_);refine zc (some 26) Tryz.func104 #[.slice (some ad408) l1.length c1, .int .i64 t409] (nat_lifted.calls _ _ _ _ _ _ _ (zC HR1.out) HC1.out A7.out) ?_;rintro e w14 ⟨v411,rfl,ho0,hb⟩;refine ⟨_,rfl,?_⟩;have HO412:=am (Kd.R_lower (Kd.R_newM (M:=fun k_=>(w.heap.size≤k_)) ho0 (zS HB) (fun k_ h_=>h_)) (zS HB));replace HB:=zBs HB hb;clear hb ho0;obtain ⟨Ao16,co16,eo16⟩:=Kd.R_slice HO412.out;subst eo16;have q15:((l1.length:Int):Int)≤((t410.length:Int):Int):=zD;obtain ⟨i015,hi015,_,hsz15,_⟩:=info_parts info25;have hroom15:t410.length≤co16:=(Kd.R_reads' HO412.out).2.1;have hC15:Kd.F (Kd.int .u64) _ _ Ao16 t410.length t410:=(Kd.V_at (base:=w.heap.size) (Kd.R_V HO412.out)).2.2;have hcut15:=cut_to (P:=Tryz.prog) 88 25 .i64 Tryz.underlying88 hi015 Ao16 t410.length co16 (l1.length:Int) (zD) q15 hroom15;have hr15:=Kd.F_take (m:=((l1.length:Int):Int).toNat) hC15 (by omega);have hy15:y413.length=((l1.length:Int):Int).toNat:=(by rw [Ny413.out,List.length_take];omega);rw [← Ny413.out] at hr15;rw [← hy15] at hcut15;have HO417:=am (show Kd.V (Kd.int .u64) 25 _ w.heap.size _ (.slice Ao16 y413.length co16) y413 from Kd.V_mk (by omega) hr15);have HC417:=am (show y413.length≤co16 from by omega);clear hr15 hC15 hroom15 hi015 hsz15;have KY15:=am hy15;clear hy15;replace q15:=eq_true q15)|((with_reducible refine gate_callee (f:=104) rfl ?_);refine zc (some 31) Tryz.func104 #[.slice A0 l0.length c0, .int .i64 t409] (nat_lifted.calls _ _ _ _ _ _ _ (zC (Kd.C_below HR0.out HB.out)) HC0.out A10.out) ?_;rintro e w17 ⟨v419,rfl,ho0,hb⟩;refine ⟨_,rfl,?_⟩;replace HO417:=am (Kd.V_elder' (zV HO417) (Kd.R_base ho0) hb);have HO420:=am (Kd.R_lower (Kd.R_new' (Kd.R_newM (M:=fun k_=>(w.heap.size≤k_)) ho0 (zS HB) (fun k_ h_=>h_)) (Kd.R_lt (zR HO412))) (zS HB));replace HO412:=am (Kd.R_elder' (zR HO412) (Kd.R_base ho0) hb);replace HB:=zBs HB hb;clear hb ho0;obtain ⟨Ao18,co18,eo18⟩:=Kd.R_slice HO420.out;subst eo18)|((with_reducible refine gate_dst (N:=36) rfl ?_);refine Kd.R_make (Kd.int .u64) _ 25 rfl (N:=36) rfl 88 _ _ rfl ji11 (by first|rfl|(simp only [List.length_drop,List.length_take];rfl)) (by first|rfl|(simp only [List.length_drop,List.length_take];rfl)) Tryz.underlying88 (.int .u64 0) 8 info25 rfl (by decide) (by omega) 0 (ok:=fun _=>True) (okp:=fun _=>True) rfl (fun _ hk=>hk) trivial (zD) (Nat.le_trans (Nat.mul_le_mul_right _ (zD:ji11.toNat≤35184372088832)) (by omega)) (Below.refl _ _) (Nat.le_refl _) ?_;intro v422 w19 ho20 hb hg_ hnew_;clear hg_ hnew_;(first|rw [← Ny421.out] at ho20|(simp only [Int.reduceToNat] at ho20;rw [← Ny421.out] at ho20));replace HO417:=am (Kd.V_elder' (zV HO417) (Kd.R_base ho20) hb);have HO423:=am (Kd.R_lower (Kd.R_new' (Kd.R_new' (Kd.R_newM (M:=fun k_=>(w.heap.size≤k_)) ho20 (zS HB) (fun k_ h_=>h_)) (Kd.R_lt (zR HO412))) (Kd.R_lt (zR HO420))) (zS HB));replace HO412:=am (Kd.R_elder' (zR HO412) (Kd.R_base ho20) hb);replace HO420:=am (Kd.R_elder' (zR HO420) (Kd.R_base ho20) hb);replace HB:=zBs HB hb;clear hb ho20;obtain ⟨Ao21,co21,eo21⟩:=Kd.R_slice HO423.out;subst eo21))
 go_loopg [11] k (fun kq v11 w' => ∃ (x8_1:List Int) (x9_1:List Int) (x10_1:List Int) (x11_1:Int),v11 = .int .i64 x11_1∧Aside0 (nat_long.l0 kq t409 (l1.length:Int) x8_1 x9_1 x10_1 x11_1=some (r1,r2))∧Aside0 (kq≤k)∧Aside0 (Kd.V (Kd.int .u64) 25 w' w.heap.size (fun k_=>(w.heap.size≤k_)∧some k_≠((.slice Ao18 t418.length co18):Value).ownBlock∧some k_≠((.slice Ao21 y421.length co21):Value).ownBlock) (.slice Ao16 y413.length co16) x8_1)∧Aside0 (Kd.R (Kd.int .u64) 25 w' w.heap.size (fun k_=>(w.heap.size≤k_)∧some k_≠((.slice Ao21 y421.length co21):Value).ownBlock) (.slice Ao18 t418.length co18) x9_1)∧Aside0 (Kd.R (Kd.int .u64) 25 w' w.heap.size (fun k_=>(w.heap.size≤k_)∧some k_≠((.slice Ao18 t418.length co18):Value).ownBlock) (.slice Ao21 y421.length co21) x10_1)∧Aside0 (Below w.heap.size w w'))
 case atStart=>exact ⟨(y413),(t418),(y421),(wrap64 ((y421.length:Int) - 1)),z1,H,zL,⟨by (with_reducible repeat (first|apply Kd.V_alloc|apply Kd.V_drewN|apply Kd.V_drew));exact Kd.V_mono HO417.out (fun _ hk=>⟨hk.1.1.1,⟨hk.1.2,hk.2⟩⟩)⟩,⟨by (with_reducible repeat (first|apply Kd.R_alloc|apply Kd.R_drewN|apply Kd.R_drew));exact Kd.R_mono HO420.out (fun _ hk=>⟨hk.1.1.1,hk.2⟩)⟩,⟨by (with_reducible repeat (first|apply Kd.R_alloc|apply Kd.R_drewN|apply Kd.R_drew));exact Kd.R_mono HO423.out (fun _ hk=>⟨hk.1.1.1,hk.2⟩)⟩,⟨zB HB⟩⟩
 clear H
 try clear hx4
 try clear hx408_0
 obtain ⟨x8_1,x9_1,x10_1,x11_1,rfl,H,HK1,HO_8,HO_9,HO_10,HB⟩:=hrel
 have hl8_1:=(Kd.V_reads' HO_8.out).1
 rw [hl8_1] at HO_8
 (try simp only [hl8_1])
 (try simp only [hl8_1] at HO_9)
 (try simp only [hl8_1] at HO_10)
 have hl9_1:=(Kd.R_reads' HO_9.out).1
 rw [hl9_1] at HO_9
 (try simp only [hl9_1])
 (try simp only [hl9_1] at HO_8)
 (try simp only [hl9_1] at HO_10)
 have hl10_1:=(Kd.R_reads' HO_10.out).1
 rw [hl10_1] at HO_10
 (try simp only [hl10_1])
 (try simp only [hl10_1] at HO_8)
 (try simp only [hl10_1] at HO_9)
 obtain _|k1:=gk
 ·exact zz H rfl
 simp only [nat_long.l0] at H
 replace H:=zsde H
 rcases H with ⟨c22b0,H⟩|⟨c22b0,H⟩
 ·generalize hji23:(wrap64 (x11_1+(l1.length:Int)):Int)=ji23 at H
  have hji23w:(IntKind.i64.wrap (x11_1+(l1.length:Int)))=ji23:=(i64_w _).trans hji23
  replace H:=zid H
  obtain ⟨c24b0,H⟩:=H
  replace H:=zi H
  obtain ⟨c25,H⟩:=H
  have c25b0:decide ((ji23)<(x9_1.length:Int))=true:=decide_eq_true c25
  (try simp only [hl8_1] at c25b0)
  (try simp only [hl9_1] at c25b0)
  (try simp only [hl10_1] at c25b0)
  clear c25
  generalize hji26:(wrap64 ((ji23) - 1):Int)=ji26 at H
  have hji26w:(IntKind.i64.wrap ((ji23) - 1))=ji26:=(i64_w _).trans hji26
  replace H:=zid H
  obtain ⟨c27b0,H⟩:=H
  replace H:=zi H
  obtain ⟨c28,H⟩:=H
  have c28b0:decide ((ji26)<(x9_1.length:Int))=true:=decide_eq_true c28
  (try simp only [hl8_1] at c28b0)
  (try simp only [hl9_1] at c28b0)
  (try simp only [hl10_1] at c28b0)
  clear c28
  generalize hji29:(wrap64 ((ji23) - 2):Int)=ji29 at H
  have hji29w:(IntKind.i64.wrap ((ji23) - 2))=ji29:=(i64_w _).trans hji29
  replace H:=zid H
  obtain ⟨c30b0,H⟩:=H
  replace H:=zi H
  obtain ⟨c31,H⟩:=H
  have c31b0:decide ((ji29)<(x9_1.length:Int))=true:=decide_eq_true c31
  (try simp only [hl8_1] at c31b0)
  (try simp only [hl9_1] at c31b0)
  (try simp only [hl10_1] at c31b0)
  clear c31
  generalize hji32:(wrap64 ((l1.length:Int) - 1):Int)=ji32 at H
  have hji32w:(IntKind.i64.wrap ((l1.length:Int) - 1))=ji32:=(i64_w _).trans hji32
  (try clear hji3)
  (try clear hji3w)
  replace H:=zid H
  obtain ⟨c33b0,H⟩:=H
  replace H:=zi H
  obtain ⟨c34,H⟩:=H
  have c34b0:decide ((ji32)<(x8_1.length:Int))=true:=decide_eq_true c34
  (try simp only [hl8_1] at c34b0)
  (try simp only [hl9_1] at c34b0)
  (try simp only [hl10_1] at c34b0)
  clear c34
  generalize hji35:(wrap64 ((l1.length:Int) - 2):Int)=ji35 at H
  have hji35w:(IntKind.i64.wrap ((l1.length:Int) - 2))=ji35:=(i64_w _).trans hji35
  replace H:=zid H
  obtain ⟨c36b0,H⟩:=H
  replace H:=zi H
  obtain ⟨c37,H⟩:=H
  have c37b0:decide ((ji35)<(x8_1.length:Int))=true:=decide_eq_true c37
  (try simp only [hl8_1] at c37b0)
  (try simp only [hl9_1] at c37b0)
  (try simp only [hl10_1] at c37b0)
  clear c37
  replace H:=zo H
  obtain ⟨t429,A38,H⟩:=H
  replace H:=zit H
  obtain ⟨c39b0,c39b1,H⟩:=H
  replace H:=zit H
  obtain ⟨c40b0,c40b1,H⟩:=H
  replace H:=zit H
  obtain ⟨c41b0,c41b1,H⟩:=H
  replace H:=zo H
  obtain ⟨⟨t432,t433⟩,A42,H⟩:=H
  try dsimp only at H
  try go_wp2
  replace HO_8:=am (Kd.V_drew HO_8.out)
  replace HO_9:=am (Kd.R_drew HO_9.out)
  replace HO_10:=am (Kd.R_drew HO_10.out)
  replace HB:=am (below_drew1 HB.out)
  obtain ⟨p424,q424,ad424,rfl,hx424_0⟩:=zA (Kd.at_int (Kd.R_reads' HO_9.out).2.2 (ji23))
  have p425:0≤((ji26):Int):=zD
  have q425:(ji26)<(x9_1.length:Int):=zD
  obtain ⟨ad425,e425,hx425_0⟩:=Kd.at_int (Kd.R_reads' HO_9.out).2.2 (ji26) p425 q425
  obtain rfl:ad424=ad425:=(by injection e425)
  replace p425:=eq_true p425
  replace q425:=eq_true q425
  have p426:0≤((ji29):Int):=zD
  have q426:(ji29)<(x9_1.length:Int):=zD
  obtain ⟨ad426,e426,hx426_0⟩:=Kd.at_int (Kd.R_reads' HO_9.out).2.2 (ji29) p426 q426
  obtain rfl:ad424=ad426:=(by injection e426)
  replace p426:=eq_true p426
  replace q426:=eq_true q426
  obtain ⟨p427,q427,ad427,rfl,hx427_0⟩:=zA (Kd.at_int (Kd.V_reads' HO_8.out).2.2 (ji32))
  have p428:0≤((ji35):Int):=zD
  have q428:(ji35)<(x8_1.length:Int):=zD
  obtain ⟨ad428,e428,hx428_0⟩:=Kd.at_int (Kd.V_reads' HO_8.out).2.2 (ji35) p428 q428
  obtain rfl:ad427=ad428:=(by injection e428)
  replace p428:=eq_true p428
  replace q428:=eq_true q428
  refine start_ (n:=32) (S:=fun w'=>w'.cell? (ad424.add ((ji23)).toNat)=some (.int .u64 (rd x9_1 (ji23)))∧w'.cell? (ad424.add ((ji26)).toNat)=some (.int .u64 (rd x9_1 (ji26)))∧w'.cell? (ad424.add ((ji29)).toNat)=some (.int .u64 (rd x9_1 (ji29)))∧w'.cell? (ad427.add ((ji32)).toNat)=some (.int .u64 (rd x8_1 (ji32)))∧w'.cell? (ad427.add ((ji35)).toNat)=some (.int .u64 (rd x8_1 (ji35)))) (ds := []) (Array.replicate 32 false) (by kernel_rfl) rfl rfl ⟨hx424_0,hx425_0,hx426_0,hx427_0,hx428_0⟩ (fun hHeld=>?_);refine with_tabW nat_long.tab9 nat_long.bits9 (fun HT_ HW_=>?_)
  generalize wr.drew=w43 at HO_8 HO_9 HO_10 HB hx424_0 hx425_0 hx426_0 hx427_0 hx428_0 hHeld ⊢
  refine zp HT_ 0 (some 44) ?_
  refine zp HT_ 1 (some 45) ?_
  refine zp HT_ 2 (some 46) ?_
  refine zp HT_ 3 (some 47) ?_
  refine zp HT_ 4 (some 48) ?_
  refine zp HT_ 6 (some 50) ?_
  refine zp HT_ 7 (some 51) ?_
  refine zp HT_ 8 (some 52) ?_
  refine zp HT_ 9 (some 53) ?_
  refine zp HT_ 10 (some 54) ?_
  refine zp HT_ 11 (some 55) ?_
  refine zp HT_ 13 (some 57) ?_
  refine zp HT_ 14 (some 58) ?_
  refine zp HT_ 15 (some 59) ?_
  refine zp HT_ 16 (some 60) ?_
  refine zp HT_ 17 (some 61) ?_
  refine zp HT_ 18 (some 62) ?_
  refine zp HT_ 20 (some 64) ?_
  refine zp HT_ 21 (some 65) ?_
  refine zp HT_ 22 (some 66) ?_
  refine zp HT_ 23 (some 67) ?_
  refine zp HT_ 25 (some 69) ?_
  refine zp HT_ 26 (some 70) ?_
  refine zp HT_ 27 (some 71) ?_
  refine zp HT_ 28 (some 72) ?_
  refine zt HT_ HW_ 5 (some 49) hHeld ?_
  refine zt HT_ HW_ 12 (some 56) hHeld ?_
  refine zt HT_ HW_ 19 (some 63) hHeld ?_
  refine zt HT_ HW_ 24 (some 68) hHeld ?_
  refine zt HT_ HW_ 29 (some 73) hHeld ?_
  refine zu HT_ 30 (some 74) (fun K hK=>?_)
  refine goes_ Tryz.func192 (by kernel_rfl) rfl #[.int .u64 (rd x9_1 (ji23)), .int .u64 (rd x9_1 (ji26)), .int .u64 (rd x9_1 (ji29)), .int .u64 (rd x8_1 (ji32)), .int .u64 (rd x8_1 (ji35))] (by rfl) rfl rfl (by (try simp only [List.map_toArray,List.map_cons,List.map_nil]);first|done|(simp only [hji23,hji26,hji29,hji32,hji35];rfl)|rfl|(simp only [List.length_drop,List.length_take];rfl)) ?_
  with_reducible refine (nat_estimate.calls k1 (rd x9_1 (ji23)) (rd x9_1 (ji26)) (rd x9_1 (ji29)) (rd x8_1 (ji32)) (rd x8_1 (ji35)) t429 _ A38.out).mono ?_
  rintro e w' ⟨rfl,⟨nd,rfl⟩⟩
  refine ⟨_,rfl,?_⟩
  refine hK.out _ _ ⟨hHeld.1,hHeld.2.1,hHeld.2.2.1,hHeld.2.2.2.1,hHeld.2.2.2.2⟩ (fun hHeld=>?_)
  clear hK K
  refine norm_ (a':=?_) ?_ ?_
  rotate_left
  ·show Act.put _ (some 74) _=_
   simp only [Act.put,List.setIfInBounds_toArray,List.set_cons_zero,List.set_cons_succ,i64_w,i32_w]
   rfl
  refine zp HT_ 31 (some 12) ?_
  refine done_ (done_of HT_.out (by kernel_rfl)) ?_
  (try (rw [drewN_self w43];generalize hq_:World.drewN w43 _=w43;have n0_:Aside0 (Kd.R (Kd.int .u64) 25 w43 w.heap.size (fun k_=>(w.heap.size≤k_)∧some k_≠(.slice (some ad424) x9_1.length co18:Value).ownBlock) (.slice Ao21 x10_1.length co21) x10_1):=⟨by rw [← hq_];exact (zR HO_10)⟩;have n1_:Aside0 (Kd.V (Kd.int .u64) 25 w43 w.heap.size (fun k_=>(w.heap.size≤k_)∧some k_≠(.slice Ao21 x10_1.length co21:Value).ownBlock∧some k_≠(.slice (some ad424) x9_1.length co18:Value).ownBlock) (.slice (some ad427) x8_1.length co16) x8_1):=⟨by rw [← hq_];exact (by (with_reducible repeat (first|apply Kd.V_alloc|apply Kd.V_drewN|apply Kd.V_drew));exact Kd.V_mono HO_8.out (fun _ hk=>⟨hk.1,⟨hk.2.2,hk.2.1⟩⟩))⟩;have n2_:Aside0 (Kd.R (Kd.int .u64) 25 w43 w.heap.size (fun k_=>(w.heap.size≤k_)∧some k_≠(.slice Ao21 x10_1.length co21:Value).ownBlock) (.slice (some ad424) x9_1.length co18) x9_1):=⟨by rw [← hq_];exact (zR HO_9)⟩;have n3_:Aside0 (Below w.heap.size w w43):=⟨by rw [← hq_];exact (zB HB)⟩;clear HO_10 HO_8 HO_9 HB hq_;have HO_10:=n0_;have HO_8:=n1_;have HO_9:=n2_;have HB:=n3_;clear n0_ n1_ n2_ n3_))
  have q044:(0:Int)≤(x11_1:Int):=zD
  have ql44:(x11_1:Int)<((wrap64 ((ji23)+1)):Int):=zD
  have q44:((wrap64 ((ji23)+1)):Int)≤((x9_1.length:Int):Int):=zD
  obtain ⟨go44,co44,eo44,gb44,gl44,cl44,HG44⟩:=Kd.R_form HO_9.out (by omega)
  (first|cases eo44|(injection eo44 with ea_ en_ ec_;(first|subst ea_|(injection ea_ with ea_;subst ea_));subst ec_;clear en_))
  have GB44:=am gb44
  have GG44:=am HG44
  clear gb44 gl44 HG44
  (first|simp only [add_plain] at hx424_0|skip)
  (first|simp only [add_plain] at hx425_0|skip)
  (first|simp only [add_plain] at hx426_0|skip)
  obtain ⟨i044,hi044,_,hsz44,_⟩:=info_parts info25
  have hroom44:=(Kd.R_reads' HO_9.out).2.1
  have hlx44:=(Kd.R_reads' HO_9.out).1
  have hcut44:=cut_win (P:=Tryz.prog) 88 25 .i64 .i64 Tryz.underlying88 hi044 hsz44 go44 x9_1.length co18 x11_1 (wrap64 ((ji23)+1)) q044 ql44 (by omega) hroom44
  clear hi044 hsz44 hroom44 hlx44
  replace q044:=eq_true q044
  replace ql44:=eq_true ql44
  replace q44:=eq_true q44
  try go_wp2_with (first|((with_reducible refine gate_callee (f:=193) rfl ?_);refine goesL_ (some 84) rfl rfl Tryz.func193 (by kernel_rfl) rfl #[.slice (some ⟨go44,(x11_1:Int).toNat,none⟩) (((wrap64 ((ji23)+1)):Int).toNat - (x11_1:Int).toNat) (co18 - (x11_1:Int).toNat), .slice (some ad427) x8_1.length co16, .int .u64 t429] rfl (by (try simp only [List.map_toArray,List.map_cons,List.map_nil]);first|done|(simp only [hji23];rfl)|rfl|(simp only [List.length_drop,List.length_take];rfl)) ?_;(with_reducible refine (nat_lessW.calls _ (fun k_=>some k_=(.slice (some ⟨go44,0,none⟩) x9_1.length co18:Value).ownBlock) (.slice (some ⟨go44,0,none⟩) x9_1.length co18) _ _ _ _ _ _ _ _ _ w _ ?side1 ?side2 ?side3 ?side4 A42.out).mono ?_);(case side1=>repeat (first|(with_reducible first|exact HB.out|apply below_alloc|apply pw_below_drewN|apply below_drew1)|exact HB.out));(case side2=>exact Kd.R_tight rfl HO_9.out);(case side3=>exact Kd.C_kept_ownV (HO_8.out) (fun k_ hk_ hs_=>(hk_.2.2) hs_));(case side4=>exact (Kd.V_reads' HO_8.out).2.1);rintro e w45 ⟨rfl,hy0,hb,hkp⟩;refine ⟨_,rfl,?_⟩;replace HO_8:=am (Kd.V_mono (ok':=fun k_=>(w.heap.size≤k_)∧some k_≠(.slice (some ⟨go44,0,none⟩) x9_1.length co18:Value).ownBlock∧some k_≠(.slice Ao21 x10_1.length co21:Value).ownBlock) (Kd.V_keptB (HO_8.out) hkp (fun k_ hk_ hs_=>(hk_.2.2) hs_)) (fun k_ hk_=>⟨hk_.1.1,hk_.1.2.2,hk_.1.2.1⟩));replace HO_9:=am (Kd.R_reok rfl hy0 (fun k_ e_=>HO_9.out.1 k_ e_));replace HO_10:=am (Kd.R_mono (ok':=fun k_=>(w.heap.size≤k_)∧some k_≠(.slice (some ⟨go44,0,none⟩) x9_1.length co18:Value).ownBlock) (Kd.R_keptB (HO_10.out) hkp (fun k_ hk_ hs_=>(hk_.2) hs_)) (fun k_ hk_=>⟨hk_.1.1,hk_.1.2⟩));replace HB:=am (hb);clear hb hkp hy0))
  go_loopg [12,13] k1 (fun kq v12 v13 w' => ∃ (x8_2:List Int) (x9_2:List Int) (x10_2:List Int) (x12_2:Int) (x13_2:Bool),v12 = .int .u64 x12_2∧v13 = .bool x13_2∧Aside0 (nat_long.l1 kq t409 (l1.length:Int) x8_2 x9_2 x10_2 x11_1 x12_2 x13_2=some (r1,r2))∧Aside0 (kq≤k1)∧Aside0 (Kd.V (Kd.int .u64) 25 w' w.heap.size (fun k_=>(w.heap.size≤k_)∧some k_≠((.slice (some ⟨go44,0,none⟩) x9_1.length co18):Value).ownBlock∧some k_≠((.slice Ao21 x10_1.length co21):Value).ownBlock) (.slice (some ad427) x8_1.length co16) x8_2)∧Aside0 (Kd.R (Kd.int .u64) 25 w' w.heap.size (fun k_=>(w.heap.size≤k_)∧some k_≠((.slice Ao21 x10_1.length co21):Value).ownBlock) (.slice (some ⟨go44,0,none⟩) x9_1.length co18) x9_2)∧Aside0 (Kd.R (Kd.int .u64) 25 w' w.heap.size (fun k_=>(w.heap.size≤k_)∧some k_≠((.slice (some ⟨go44,0,none⟩) x9_1.length co18):Value).ownBlock) (.slice Ao21 x10_1.length co21) x10_2)∧Aside0 (Below w.heap.size w w'))
  case atStart=>exact ⟨(x8_1),(t433),(x10_1),(t429),(t432),z1,z1,H,zL,⟨by (try simp only [hl8_1]);(try simp only [hl9_1]);(try simp only [hl10_1]);(with_reducible repeat (first|apply Kd.V_alloc|apply Kd.V_drewN|apply Kd.V_drew));exact HO_8.out⟩,⟨by (try simp only [hl8_1]);(try simp only [hl9_1]);(try simp only [hl10_1]);(with_reducible repeat (first|apply Kd.R_alloc|apply Kd.R_drewN|apply Kd.R_drew));exact HO_9.out⟩,⟨by (try simp only [hl8_1]);(try simp only [hl9_1]);(try simp only [hl10_1]);(with_reducible repeat (first|apply Kd.R_alloc|apply Kd.R_drewN|apply Kd.R_drew));exact HO_10.out⟩,⟨zB HB⟩⟩
  clear H
  try clear hx4
  try clear hx40
  try clear hx42
  try clear hx408_0
  try clear hx424_0
  try clear hx425_0
  try clear hx426_0
  try clear hx427_0
  try clear hx428_0
  obtain ⟨x8_2,x9_2,x10_2,x12_2,x13_2,rfl,rfl,H,HK2,HO_8,HO_9,HO_10,HB⟩:=hrel
  have hl8_2:=(Kd.V_reads' HO_8.out).1
  rw [hl8_2] at HO_8
  (try simp only [hl8_2])
  (try simp only [hl8_2] at HO_9)
  (try simp only [hl8_2] at HO_10)
  have hl9_2:=(Kd.R_reads' HO_9.out).1
  rw [hl9_2] at HO_9
  (try simp only [hl9_2])
  (try simp only [hl9_2] at HO_8)
  (try simp only [hl9_2] at HO_10)
  have hl10_2:=(Kd.R_reads' HO_10.out).1
  rw [hl10_2] at HO_10
  (try simp only [hl10_2])
  (try simp only [hl10_2] at HO_8)
  (try simp only [hl10_2] at HO_9)
  obtain _|k2:=gk
  ·exact zz H rfl
  simp only [nat_long.l1] at H
  cases x13_2
  replace H:=zb0 H
  replace H:=zid H
  obtain ⟨c53b0,H⟩:=H
  replace H:=zi H
  obtain ⟨c54,H⟩:=H
  have c54b0:decide (x11_1<(x10_2.length:Int))=true:=decide_eq_true c54
  (try simp only [hl8_1] at c54b0)
  (try simp only [hl9_1] at c54b0)
  (try simp only [hl10_1] at c54b0)
  (try simp only [hl8_2] at c54b0)
  (try simp only [hl9_2] at c54b0)
  (try simp only [hl10_2] at c54b0)
  clear c54
  generalize hy438:(x10_2.set (x11_1:Int).toNat x12_2:List Int)=y438 at H
  have Ny438:=zY hy438
  clear hy438
  have p55:0≤(x11_1:Int):=zD
  have q55:(x11_1:Int)<((x10_2.length:Int):Int):=zD
  obtain ⟨go55,co55,eo55,gb55,gl55,cl55,HG55⟩:=Kd.R_form HO_10.out (by omega)
  (first|cases eo55|(injection eo55 with ea_ en_ ec_;(first|subst ea_|(injection ea_ with ea_;subst ea_));subst ec_;clear en_))
  have GB55:=am gb55
  have GG55:=am HG55
  clear gb55 gl55 HG55
  obtain ⟨hx55_0,hf55_0⟩:=Kd.R_celln 0 HO_10.out (x11_1:Int) p55 q55
  replace p55:=eq_true p55
  replace q55:=eq_true q55
  have HP56:=Kd.R_putg HO_10.out (x11_1:Int) x12_2
  rotate_left
  replace H:=zb1 H
  replace H:=zit H
  obtain ⟨c47b0,c47b1,H⟩:=H
  replace H:=zit H
  obtain ⟨c48b0,c48b1,H⟩:=H
  replace H:=zit H
  obtain ⟨c49b0,c49b1,H⟩:=H
  replace H:=zo H
  obtain ⟨⟨t436,t437⟩,A50,H⟩:=H
  try dsimp only at H
  have q051:(0:Int)≤(x11_1:Int):=zD
  have ql51:(x11_1:Int)<((wrap64 ((wrap64 (x11_1+(l1.length:Int)))+1)):Int):=zD
  have q51:((wrap64 ((wrap64 (x11_1+(l1.length:Int)))+1)):Int)≤((x9_2.length:Int):Int):=zD
  obtain ⟨i051,hi051,_,hsz51,_⟩:=info_parts info25
  have hroom51:=(Kd.R_reads' HO_9.out).2.1
  have hlx51:=(Kd.R_reads' HO_9.out).1
  have hcut51:=cut_win (P:=Tryz.prog) 88 25 .i64 .i64 Tryz.underlying88 hi051 hsz51 go44 x9_2.length co18 x11_1 (wrap64 ((wrap64 (x11_1+(l1.length:Int)))+1)) q051 ql51 (by omega) hroom51
  clear hi051 hsz51 hroom51 hlx51
  (try simp only [hji23] at hcut51)
  replace q051:=eq_true q051
  replace ql51:=eq_true ql51
  replace q51:=eq_true q51
  rotate_left
  all_goals (go_wp2_with (first|((with_reducible refine gate_store (t:=25) (p:=101) rfl ?_);refine store_event (t:=25) (p:=101) (v:=?vo_w57) (w1:=(wr.setCell ⟨go55,(x11_1:Int).toNat,none⟩ (.int .u64 x12_2))) ?hg ?ho ?hn ?hr ?_;(case ho=>rfl);(case hg=>rfl);(case hn=>rfl);(case hr=>first|(go_simp;done)|(go_simp;rfl));intro w57 hw;have hg:wr.grownBy w57 (some go55):=(by rw [hw];exact HP56.2);have hp_:Kd.R (Kd.int .u64) 25 w57 w.heap.size (fun k_=>(w.heap.size≤k_)∧some k_≠(.slice (some ⟨go44,0,none⟩) x9_2.length co18:Value).ownBlock) (.slice (some ⟨go55,0,none⟩) x10_2.length co21) y438:=(by rw [hw,Ny438.out];exact HP56.1);clear HP56;replace HO_8:=am (Kd.V_afterv (v:=(.slice (some ⟨go55,0,none⟩) x10_2.length co21)) (v1:=(.slice (some ⟨go55,0,none⟩) x10_2.length co21)) (ok:=(fun k_=>(w.heap.size≤k_)∧some k_≠(.slice (some ⟨go44,0,none⟩) x9_2.length co18:Value).ownBlock)) (by (with_reducible repeat (first|apply Kd.V_alloc|apply Kd.V_drewN|apply Kd.V_drew));exact Kd.V_mono HO_8.out (fun _ hk=>⟨⟨hk.1,hk.2.1⟩,hk.2.2⟩)) hg (.inl rfl));replace HO_9:=am (Kd.R_after (v:=(.slice (some ⟨go55,0,none⟩) x10_2.length co21)) (v1:=(.slice (some ⟨go55,0,none⟩) x10_2.length co21)) (ok:=(fun k_=>(w.heap.size≤k_))) (zR HO_9) hg (.inl rfl));replace HO_10:=am (hp_);replace HB:=am ((by rw [hw];exact below_set (HB.out) GB55.out:Below w.heap.size w w57));clear hg hw hp_)|((with_reducible refine gate_callee (f:=194) rfl ?_);refine goesL_ (some 96) rfl rfl Tryz.func194 (by kernel_rfl) rfl #[.slice (some ⟨go44,(x11_1:Int).toNat,none⟩) (((wrap64 ((wrap64 (x11_1+(l1.length:Int)))+1)):Int).toNat - (x11_1:Int).toNat) (co18 - (x11_1:Int).toNat), .slice (some ad427) x8_2.length co16] rfl (by (try simp only [List.map_toArray,List.map_cons,List.map_nil]);first|done|(simp only [hji23];rfl)|rfl|(simp only [List.length_drop,List.length_take];rfl)) ?_;(with_reducible refine (nat_backW.calls _ (fun k_=>some k_=(.slice (some ⟨go44,0,none⟩) x9_2.length co18:Value).ownBlock) (.slice (some ⟨go44,0,none⟩) x9_2.length co18) _ _ _ _ _ _ _ _ w _ ?side1 ?side2 ?side3 ?side4 A50.out).mono ?_);(case side1=>repeat (first|(with_reducible first|exact HB.out|apply below_alloc|apply pw_below_drewN|apply below_drew1)|exact HB.out));(case side2=>exact Kd.R_tight rfl HO_9.out);(case side3=>exact Kd.C_kept_ownV (HO_8.out) (fun k_ hk_ hs_=>(hk_.2.1) hs_));(case side4=>exact (Kd.V_reads' HO_8.out).2.1);rintro e w52 ⟨rfl,hy0,hb,hkp⟩;refine ⟨_,rfl,?_⟩;replace HO_8:=am (Kd.V_mono (ok':=fun k_=>(w.heap.size≤k_)∧some k_≠(.slice (some ⟨go44,0,none⟩) x9_2.length co18:Value).ownBlock∧some k_≠(.slice Ao21 x10_2.length co21:Value).ownBlock) (Kd.V_keptB (HO_8.out) hkp (fun k_ hk_ hs_=>(hk_.2.1) hs_)) (fun k_ hk_=>⟨hk_.1.1,hk_.1.2.1,hk_.1.2.2⟩));replace HO_9:=am (Kd.R_reok rfl hy0 (fun k_ e_=>HO_9.out.1 k_ e_));replace HO_10:=am (Kd.R_mono (ok':=fun k_=>(w.heap.size≤k_)∧some k_≠(.slice (some ⟨go44,0,none⟩) x9_2.length co18:Value).ownBlock) (Kd.R_keptB (HO_10.out) hkp (fun k_ hk_ hs_=>(hk_.2) hs_)) (fun k_ hk_=>⟨hk_.1.1,hk_.1.2⟩));replace HB:=am (hb);clear hb hkp hy0)))
  ·(try simp only [← hl8_1, ← hl9_1, ← hl10_1, ← hl8_2, ← hl9_2, ← hl10_2])
   go_roundg k2
   case measure=>have:=HK1.out;have:=HK2.out;omega
   case rel=>exact ⟨(x8_2),(x9_2),(y438),(wrap64 (x11_1 - 1)),z1,H,⟨by have:=HK1.out;have:=HK2.out;omega⟩,⟨by (try simp only [hl8_1]);(try simp only [hl9_1]);(try simp only [hl10_1]);(try simp only [hl8_2]);(try simp only [hl9_2]);(try simp only [hl10_2]);(with_reducible repeat (first|apply Kd.V_alloc|apply Kd.V_drewN|apply Kd.V_drew));exact Kd.V_mono HO_8.out (fun _ hk=>⟨hk.1.1,⟨hk.1.2,hk.2⟩⟩)⟩,⟨by (try simp only [hl8_1]);(try simp only [hl9_1]);(try simp only [hl10_1]);(try simp only [hl8_2]);(try simp only [hl9_2]);(try simp only [hl10_2]);(with_reducible repeat (first|apply Kd.R_alloc|apply Kd.R_drewN|apply Kd.R_drew));exact HO_9.out⟩,⟨by (try simp only [hl8_1]);(try simp only [hl9_1]);(try simp only [hl10_1]);(try simp only [hl8_2]);(try simp only [hl9_2]);(try simp only [hl10_2]);(with_reducible repeat (first|apply Kd.R_alloc|apply Kd.R_drewN|apply Kd.R_drew));exact HO_10.out⟩,⟨zB HB⟩⟩
  (try simp only [← hl8_2, ← hl9_2, ← hl10_2])
  go_roundg k2
  case measure=>have:=HK1.out;have:=HK2.out;omega
  case rel=>exact ⟨(x8_2),(t437),(x10_2),(IntKind.u64.wrap (x12_2 - 1)),(!t436),z1,z1,H,⟨by have:=HK1.out;have:=HK2.out;omega⟩,⟨by (try simp only [hl8_1]);(try simp only [hl9_1]);(try simp only [hl10_1]);(try simp only [hl8_2]);(try simp only [hl9_2]);(try simp only [hl10_2]);(with_reducible repeat (first|apply Kd.V_alloc|apply Kd.V_drewN|apply Kd.V_drew));exact HO_8.out⟩,⟨by (try simp only [hl8_1]);(try simp only [hl9_1]);(try simp only [hl10_1]);(try simp only [hl8_2]);(try simp only [hl9_2]);(try simp only [hl10_2]);(with_reducible repeat (first|apply Kd.R_alloc|apply Kd.R_drewN|apply Kd.R_drew));exact HO_9.out⟩,⟨by (try simp only [hl8_1]);(try simp only [hl9_1]);(try simp only [hl10_1]);(try simp only [hl8_2]);(try simp only [hl9_2]);(try simp only [hl10_2]);(with_reducible repeat (first|apply Kd.R_alloc|apply Kd.R_drewN|apply Kd.R_drew));exact HO_10.out⟩,⟨zB HB⟩⟩
 go_wp2
 go_loopg [103] k1 (fun kq v103 w' => ∃ (x9_2:List Int) (x103_2:Int),v103 = .int .i64 x103_2∧Aside0 (nat_long.l2 kq t409 (l1.length:Int) x9_2 x10_1 (l1.length:Int) x103_2=some (r1,r2))∧Aside0 (kq≤k1)∧Aside0 (Kd.R (Kd.int .u64) 25 w' w.heap.size (fun k_=>(w.heap.size≤k_)∧some k_≠((.slice Ao21 x10_1.length co21):Value).ownBlock) (.slice Ao18 x9_1.length co18) x9_2)∧Aside0 (Kd.R (Kd.int .u64) 25 w' w.heap.size (fun k_=>(w.heap.size≤k_)∧some k_≠((.slice Ao18 x9_1.length co18):Value).ownBlock) (.slice Ao21 x10_1.length co21) x10_1)∧Aside0 (Below w.heap.size w w'))
 case atStart=>exact ⟨(x9_1),(0),z1,H,zL,⟨by (try simp only [hl8_1]);(try simp only [hl9_1]);(try simp only [hl10_1]);(with_reducible repeat (first|apply Kd.R_alloc|apply Kd.R_drewN|apply Kd.R_drew));exact HO_9.out⟩,⟨by (try simp only [hl8_1]);(try simp only [hl9_1]);(try simp only [hl10_1]);(with_reducible repeat (first|apply Kd.R_alloc|apply Kd.R_drewN|apply Kd.R_drew));exact HO_10.out⟩,⟨zB HB⟩⟩
 clear H
 try clear hx4
 try clear hx5
 try clear hf5
 try clear hx40
 try clear hx42
 try clear hx55
 try clear hf55
 try clear hx408_0
 try clear hx424_0
 try clear hx425_0
 try clear hx426_0
 try clear hx427_0
 try clear hx428_0
 try clear hx55_0
 obtain ⟨x9_2,x103_2,rfl,H,HK2,HO_9,HO_10,HB⟩:=hrel
 have hl9_2:=(Kd.R_reads' HO_9.out).1
 rw [hl9_2] at HO_9
 (try simp only [hl9_2])
 (try simp only [hl9_2] at HO_10)
 obtain _|k2:=gk
 ·exact zz H rfl
 simp only [nat_long.l2] at H
 replace H:=zs H
 rcases H with ⟨c58,H⟩|⟨c58,H⟩
 have c58b0:decide (x103_2<(l1.length:Int))=true:=decide_eq_true c58
 (try simp only [hl8_1] at c58b0)
 (try simp only [hl9_1] at c58b0)
 (try simp only [hl10_1] at c58b0)
 (try simp only [hl9_2] at c58b0)
 clear c58
 replace H:=zid H
 obtain ⟨c59b0,H⟩:=H
 replace H:=zi H
 obtain ⟨c60,H⟩:=H
 have c60b0:decide (x103_2<(x9_2.length:Int))=true:=decide_eq_true c60
 (try simp only [hl8_1] at c60b0)
 (try simp only [hl9_1] at c60b0)
 (try simp only [hl10_1] at c60b0)
 (try simp only [hl9_2] at c60b0)
 clear c60
 replace H:=zit H
 obtain ⟨c61b0,c61b1,H⟩:=H
 generalize hji62:(shr .u64 (rd x9_2 x103_2) t409:Int)=ji62 at H
 have hji62_:((rd x9_2 x103_2) / 2 ^ min t409.toNat 64)=ji62:=hji62
 have hji62z:t409≤64→((rd x9_2 x103_2) / 2 ^ t409.toNat)=ji62:=shr_small hji62
 obtain ⟨y440,Ny440,H⟩:=zw H
 replace H:=zsdg H
 rcases H with ⟨c64b0,H⟩|⟨c64b0,H⟩
 replace H:=zs H
 rcases H with ⟨c65,H⟩|⟨c65,H⟩
 have c65b0:decide ((wrap64 (x103_2+1))<(l1.length:Int))=true:=decide_eq_true c65
 (try simp only [hl8_1] at c65b0)
 (try simp only [hl9_1] at c65b0)
 (try simp only [hl10_1] at c65b0)
 (try simp only [hl9_2] at c65b0)
 clear c65
 generalize hji66:(wrap64 (x103_2+1):Int)=ji66 at H
 (try rw [hji66] at c65b0)
 have hji66w:(IntKind.i64.wrap (x103_2+1))=ji66:=(i64_w _).trans hji66
 replace H:=zid H
 obtain ⟨c67b0,H⟩:=H
 replace H:=zi H
 obtain ⟨c68,H⟩:=H
 have c68b0:decide ((ji66)<(x9_2.length:Int))=true:=decide_eq_true c68
 (try simp only [hl8_1] at c68b0)
 (try simp only [hl9_1] at c68b0)
 (try simp only [hl10_1] at c68b0)
 (try simp only [hl9_2] at c68b0)
 clear c68
 generalize hji69:(wrap64 (64 - t409):Int)=ji69 at H
 have hji69w:(IntKind.i64.wrap (64 - t409))=ji69:=(i64_w _).trans hji69
 replace H:=zit H
 obtain ⟨c70b0,c70b1,H⟩:=H
 generalize hji71:(shl .u64 (rd y440 (ji66)) (ji69):Int)=ji71 at H
 have hji71_:(IntKind.u64.wrap ((rd y440 (ji66)) * 2 ^ min (ji69).toNat 64))=ji71:=hji71
 have hji71z:(ji69)≤64→(IntKind.u64.wrap ((rd y440 (ji66)) * 2 ^ (ji69).toNat))=ji71:=shl_small hji71
 generalize hy443:(y440.set (x103_2:Int).toNat (Go.bits .or .u64 (rd y440 x103_2) (ji71)):List Int)=y443 at H
 have Ny443:=zY hy443
 clear hy443
 obtain ⟨p439,q439,ad439,rfl,hx439_0⟩:=zA (Kd.at_int (Kd.R_reads' HO_9.out).2.2 x103_2)
 have p63:0≤(x103_2:Int):=zD
 have q63:(x103_2:Int)<((x9_2.length:Int):Int):=zD
 obtain ⟨go63,co63,eo63,gb63,gl63,cl63,HG63⟩:=Kd.R_form HO_9.out (by omega)
 (first|cases eo63|(injection eo63 with ea_ en_ ec_;(first|subst ea_|(injection ea_ with ea_;subst ea_));subst ec_;clear en_))
 have GB63:=am gb63
 have GG63:=am HG63
 clear gb63 gl63 HG63
 (first|simp only [add_plain] at hx439_0|skip)
 obtain ⟨hx63_0,hf63_0⟩:=Kd.R_celln 0 HO_9.out (x103_2:Int) p63 q63
 replace p63:=eq_true p63
 replace q63:=eq_true q63
 have HP73:=Kd.R_putg HO_9.out (x103_2:Int) ji62
 rotate_left
 ·have c65b0:decide ((wrap64 (x103_2+1))<(l1.length:Int))=false:=decide_eq_false c65
  (try simp only [hl8_1] at c65b0)
  (try simp only [hl9_1] at c65b0)
  (try simp only [hl10_1] at c65b0)
  (try simp only [hl9_2] at c65b0)
  clear c65
  obtain ⟨p439,q439,ad439,rfl,hx439_0⟩:=zA (Kd.at_int (Kd.R_reads' HO_9.out).2.2 x103_2)
  have p63:0≤(x103_2:Int):=zD
  have q63:(x103_2:Int)<((x9_2.length:Int):Int):=zD
  obtain ⟨go63,co63,eo63,gb63,gl63,cl63,HG63⟩:=Kd.R_form HO_9.out (by omega)
  (first|cases eo63|(injection eo63 with ea_ en_ ec_;(first|subst ea_|(injection ea_ with ea_;subst ea_));subst ec_;clear en_))
  have GB63:=am gb63
  have GG63:=am HG63
  clear gb63 gl63 HG63
  (first|simp only [add_plain] at hx439_0|skip)
  obtain ⟨hx63_0,hf63_0⟩:=Kd.R_celln 0 HO_9.out (x103_2:Int) p63 q63
  replace p63:=eq_true p63
  replace q63:=eq_true q63
  have HP77:=Kd.R_putg HO_9.out (x103_2:Int) ji62
  go_wp2_with (first|((with_reducible refine gate_store (t:=25) (p:=112) rfl ?_);refine store_event (t:=25) (p:=112) (v:=?vo_w78) (w1:=(wr.setCell ⟨go63,(x103_2:Int).toNat,none⟩ (.int .u64 ji62))) ?hg ?ho ?hn ?hr ?_;(case ho=>rfl);(case hg=>rfl);(case hn=>rfl);(case hr=>first|(go_simp;done)|(go_simp;rfl));intro w78 hw;have hg:wr.grownBy w78 (some go63):=(by rw [hw];exact HP77.2);have hp_:Kd.R (Kd.int .u64) 25 w78 w.heap.size (fun k_=>(w.heap.size≤k_)∧some k_≠(.slice Ao21 x10_1.length co21:Value).ownBlock) (.slice (some ⟨go63,0,none⟩) x9_2.length co18) y440:=(by rw [hw,Ny440.out];exact HP77.1);clear HP77;replace HO_9:=am (hp_);replace HO_10:=am (Kd.R_after (v:=(.slice (some ⟨go63,0,none⟩) x9_2.length co18)) (v1:=(.slice (some ⟨go63,0,none⟩) x9_2.length co18)) (ok:=(fun k_=>(w.heap.size≤k_))) (zR HO_10) hg (.inl rfl));replace HB:=am ((by rw [hw];exact below_set (HB.out) GB63.out:Below w.heap.size w w78));clear hg hw hp_))
  (try simp only [← hl9_2])
  go_roundg k2
  case measure=>have:=HK1.out;have:=HK2.out;omega
  case rel=>exact ⟨(y440),(wrap64 (x103_2+1)),z1,H,⟨by have:=HK1.out;have:=HK2.out;omega⟩,⟨by (try simp only [hl8_1]);(try simp only [hl9_1]);(try simp only [hl10_1]);(try simp only [hl9_2]);(with_reducible repeat (first|apply Kd.R_alloc|apply Kd.R_drewN|apply Kd.R_drew));exact HO_9.out⟩,⟨by (try simp only [hl8_1]);(try simp only [hl9_1]);(try simp only [hl10_1]);(try simp only [hl9_2]);(with_reducible repeat (first|apply Kd.R_alloc|apply Kd.R_drewN|apply Kd.R_drew));exact HO_10.out⟩,⟨zB HB⟩⟩
 ·obtain ⟨p439,q439,ad439,rfl,hx439_0⟩:=zA (Kd.at_int (Kd.R_reads' HO_9.out).2.2 x103_2)
  have p63:0≤(x103_2:Int):=zD
  have q63:(x103_2:Int)<((x9_2.length:Int):Int):=zD
  obtain ⟨go63,co63,eo63,gb63,gl63,cl63,HG63⟩:=Kd.R_form HO_9.out (by omega)
  (first|cases eo63|(injection eo63 with ea_ en_ ec_;(first|subst ea_|(injection ea_ with ea_;subst ea_));subst ec_;clear en_))
  have GB63:=am gb63
  have GG63:=am HG63
  clear gb63 gl63 HG63
  (first|simp only [add_plain] at hx439_0|skip)
  obtain ⟨hx63_0,hf63_0⟩:=Kd.R_celln 0 HO_9.out (x103_2:Int) p63 q63
  replace p63:=eq_true p63
  replace q63:=eq_true q63
  have HP79:=Kd.R_putg HO_9.out (x103_2:Int) ji62
  go_wp2_with (first|((with_reducible refine gate_store (t:=25) (p:=112) rfl ?_);refine store_event (t:=25) (p:=112) (v:=?vo_w80) (w1:=(wr.setCell ⟨go63,(x103_2:Int).toNat,none⟩ (.int .u64 ji62))) ?hg ?ho ?hn ?hr ?_;(case ho=>rfl);(case hg=>rfl);(case hn=>rfl);(case hr=>first|(go_simp;done)|(go_simp;rfl));intro w80 hw;have hg:wr.grownBy w80 (some go63):=(by rw [hw];exact HP79.2);have hp_:Kd.R (Kd.int .u64) 25 w80 w.heap.size (fun k_=>(w.heap.size≤k_)∧some k_≠(.slice Ao21 x10_1.length co21:Value).ownBlock) (.slice (some ⟨go63,0,none⟩) x9_2.length co18) y440:=(by rw [hw,Ny440.out];exact HP79.1);clear HP79;replace HO_9:=am (hp_);replace HO_10:=am (Kd.R_after (v:=(.slice (some ⟨go63,0,none⟩) x9_2.length co18)) (v1:=(.slice (some ⟨go63,0,none⟩) x9_2.length co18)) (ok:=(fun k_=>(w.heap.size≤k_))) (zR HO_10) hg (.inl rfl));replace HB:=am ((by rw [hw];exact below_set (HB.out) GB63.out:Below w.heap.size w w80));clear hg hw hp_))
  (try simp only [← hl9_2])
  go_roundg k2
  case measure=>have:=HK1.out;have:=HK2.out;omega
  case rel=>exact ⟨(y440),(wrap64 (x103_2+1)),z1,H,⟨by have:=HK1.out;have:=HK2.out;omega⟩,⟨by (try simp only [hl8_1]);(try simp only [hl9_1]);(try simp only [hl10_1]);(try simp only [hl9_2]);(with_reducible repeat (first|apply Kd.R_alloc|apply Kd.R_drewN|apply Kd.R_drew));exact HO_9.out⟩,⟨by (try simp only [hl8_1]);(try simp only [hl9_1]);(try simp only [hl10_1]);(try simp only [hl9_2]);(with_reducible repeat (first|apply Kd.R_alloc|apply Kd.R_drewN|apply Kd.R_drew));exact HO_10.out⟩,⟨zB HB⟩⟩
 have c58b0:decide (x103_2<(l1.length:Int))=false:=decide_eq_false c58
 (try simp only [hl8_1] at c58b0)
 (try simp only [hl9_1] at c58b0)
 (try simp only [hl10_1] at c58b0)
 (try simp only [hl9_2] at c58b0)
 clear c58
 replace H:=zo H
 obtain ⟨t444,A81,H⟩:=H
 replace H:=zit H
 obtain ⟨c82b0,c82b1,H⟩:=H
 replace H:=zit H
 obtain ⟨c83b0,c83b1,H⟩:=H
 generalize hy447:(x9_2.take ((l1.length:Int):Int).toNat:List Int)=y447 at H
 have Ny447:=zY hy447
 clear hy447
 replace H:=zo H
 obtain ⟨t452,A84,H⟩:=H
 obtain ⟨rfl,rfl⟩:=zJ2 H
 rotate_left
 all_goals (try go_wp2_with (first|((with_reducible refine gate_store (t:=25) (p:=112) rfl ?_);refine store_event (t:=25) (p:=112) (v:=?vo_w74) (w1:=(wr.setCell ⟨go63,(x103_2:Int).toNat,none⟩ (.int .u64 ji62))) ?hg ?ho ?hn ?hr ?_;(case ho=>rfl);(case hg=>rfl);(case hn=>rfl);(case hr=>first|(go_simp;done)|(go_simp;rfl));intro w74 hw;have hg:wr.grownBy w74 (some go63):=(by rw [hw];exact HP73.2);have hp_:Kd.R (Kd.int .u64) 25 w74 w.heap.size (fun k_=>(w.heap.size≤k_)∧some k_≠(.slice Ao21 x10_1.length co21:Value).ownBlock) (.slice (some ⟨go63,0,none⟩) x9_2.length co18) y440:=(by rw [hw,Ny440.out];exact HP73.1);clear HP73;replace HO_9:=am (hp_);replace HO_10:=am (Kd.R_after (v:=(.slice (some ⟨go63,0,none⟩) x9_2.length co18)) (v1:=(.slice (some ⟨go63,0,none⟩) x9_2.length co18)) (ok:=(fun k_=>(w.heap.size≤k_))) (zR HO_10) hg (.inl rfl));replace HB:=am ((by rw [hw];exact below_set (HB.out) GB63.out:Below w.heap.size w w74));clear hg hw hp_)))
 all_goals
  replace HO_9:=am (Kd.R_drew HO_9.out)
  replace HO_10:=am (Kd.R_drew HO_10.out)
  replace HB:=am (below_drew1 HB.out)
 ·have p441:0≤(x103_2:Int):=zD
  have q441:x103_2<(y440.length:Int):=(by have h_:(x103_2:Int)<((x9_2.length:Int):Int):=zD;first|(have e_:=(Kd.R_reads' HO_9.out).1;omega)|simpa only [Ny440.out,List.length_set] using h_)
  have ql441:((x103_2:Int)<((x9_2.length:Int):Int))=True:=eq_true (zD)
  obtain ⟨ad441,e441,hx441_0⟩:=Kd.at_int (Kd.R_reads' HO_9.out).2.2 x103_2 p441 q441
  obtain rfl:(⟨go63,0,none⟩:Addr)=ad441:=(by injection e441)
  (first|simp only [add_plain] at hx441_0|simp only [add_at] at hx441_0|simp only [Addr.add,Nat.zero_add] at hx441_0|skip)
  replace p441:=eq_true p441
  replace q441:=eq_true q441
  have p442:0≤((ji66):Int):=zD
  have q442:(ji66)<(y440.length:Int):=(by have h_:((ji66):Int)<((x9_2.length:Int):Int):=zD;first|(have e_:=(Kd.R_reads' HO_9.out).1;omega)|simpa only [Ny440.out,List.length_set] using h_)
  have ql442:(((ji66):Int)<((x9_2.length:Int):Int))=True:=eq_true (zD)
  obtain ⟨ad442,e442,hx442_0⟩:=Kd.at_int (Kd.R_reads' HO_9.out).2.2 (ji66) p442 q442
  obtain rfl:(⟨go63,0,none⟩:Addr)=ad442:=(by injection e442)
  (first|simp only [add_plain] at hx442_0|simp only [add_at] at hx442_0|simp only [Addr.add,Nat.zero_add] at hx442_0|skip)
  replace p442:=eq_true p442
  replace q442:=eq_true q442
  have p72:0≤(x103_2:Int):=zD
  have q72:(x103_2:Int)<((x9_2.length:Int):Int):=zD
  obtain ⟨hx72_0,hf72_0⟩:=Kd.R_celln 0 HO_9.out (x103_2:Int) p72 q72
  replace p72:=eq_true p72
  replace q72:=eq_true q72
  have HP76:=Kd.R_putn HO_9.out (x103_2:Int) (Go.bits .or .u64 (rd y440 x103_2) (ji71))
  rw [← Ny443.out] at HP76
  have HQ76:=am HP76
  clear HP76
  refine start_ (n:=15) (S:=fun w'=>w'.cell? ⟨go63,(x103_2).toNat,none⟩=some (.int .u64 (rd y440 x103_2))∧w'.cell? ⟨go63,((ji66)).toNat,none⟩=some (.int .u64 (rd y440 (ji66)))) (ds := [14]) (Array.replicate 15 false) (by kernel_rfl) rfl rfl ⟨hx441_0,hx442_0⟩ (fun hHeld=>?_);refine with_tabW nat_long.tab20 nat_long.bits20 (fun HT_ HW_=>?_)
  generalize w74.drew=w75 at HO_9 HO_10 HB HQ76 hf72_0 hx441_0 hx442_0 hx72_0 hHeld ⊢
  refine zp HT_ 0 (some 121) ?_
  refine zp HT_ 1 (some 122) ?_
  refine zp HT_ 2 (some 123) ?_
  refine zp HT_ 4 (some 125) ?_
  refine zp HT_ 5 (some 126) ?_
  refine zp HT_ 6 (some 127) ?_
  refine zp HT_ 7 (some 128) ?_
  refine zp HT_ 9 (some 130) ?_
  refine zp HT_ 10 (some 131) ?_
  refine zt HT_ HW_ 3 (some 124) hHeld ?_
  refine zt HT_ HW_ 8 (some 129) hHeld ?_
  refine zp HT_ 11 (some 132) ?_
  refine zp HT_ 12 (some 133) ?_
  refine zp HT_ 13 (some 134) ?_
  refine last_ (i:=14) (N:=none) #[true,true,true,true,true,true,true,true,true,true,true,true,true,true,true] rfl rfl (one_of HT_.out (by kernel_rfl)) (by decide) (fun K hK=>?_)
  refine skip_ (w1:=?_) (by rfl) rfl ?_ ?_
  rotate_left
  ·go_simp
   rfl
  refine hK.out _ _ ?_
  clear hK K
  refine done_ (done_of HT_.out (by kernel_rfl)) ?_
  try go_wp2
  (try simp only [← hl9_2])
  go_roundg k2
  case measure=>have:=HK1.out;have:=HK2.out;omega
  case rel=>exact ⟨(y443),(ji66),(by first|rfl|(simp;done)|(simp only [← hji66] <;> (first|rfl|simp))|(simp [*];done)),H,⟨by have:=HK1.out;have:=HK2.out;omega⟩,⟨by (try simp only [hl8_1]);(try simp only [hl9_1]);(try simp only [hl10_1]);(try simp only [hl9_2]);(with_reducible repeat (first|apply Kd.R_alloc|apply Kd.R_drewN|apply Kd.R_drew));exact HQ76.out⟩,⟨by (try simp only [hl8_1]);(try simp only [hl9_1]);(try simp only [hl10_1]);(try simp only [hl9_2]);(with_reducible repeat (first|apply Kd.R_alloc|apply Kd.R_drewN|apply Kd.R_drew));exact Kd.R_mono (Kd.R_far (p:=⟨go63,(x103_2:Int).toNat,none⟩) (Kd.R_mono HO_10.out (fun k_ hk=>(⟨hk,fun e_=>hk.2 (by rw [e_];rfl)⟩:_∧k_≠go63))) (fun _ hk=>hk.2) (.int .u64 (Go.bits .or .u64 (rd y440 x103_2) (ji71)))) (fun _ hk=>⟨hk.1.1,hk.1.2⟩)⟩,⟨zB HB⟩⟩
 have q86:((l1.length:Int):Int)≤((x9_2.length:Int):Int):=zD
 obtain ⟨i086,hi086,_,hsz86,_⟩:=info_parts info25
 have hroom86:x9_2.length≤co18:=(Kd.R_reads' HO_9.out).2.1
 have hC86:Kd.F (Kd.int .u64) _ _ Ao18 x9_2.length x9_2:=(Kd.V_at (base:=w.heap.size) (Kd.R_V HO_9.out)).2.2
 have hcut86:=cut_cap (P:=Tryz.prog) 88 25 .i64 .i64 Tryz.underlying88 hi086 Ao18 x9_2.length co18 (l1.length:Int) (zD) q86 hroom86
 have hr86:=Kd.F_take (m:=((l1.length:Int):Int).toNat) hC86 (by omega)
 have hy86:y447.length=((l1.length:Int):Int).toNat:=(by rw [Ny447.out,List.length_take];omega)
 rw [← Ny447.out] at hr86
 rw [← hy86] at hcut86
 have HO451:=am (show Kd.V (Kd.int .u64) 25 _ w.heap.size _ (.slice Ao18 y447.length y447.length) y447 from Kd.V_mk (Nat.le_refl _) hr86)
 have HC451:=am (Nat.le_refl y447.length)
 clear hr86 hC86 hroom86 hi086 hsz86
 have KY86:=am hy86
 clear hy86
 replace q86:=eq_true q86
 refine start_ (n:=9) (S:=fun w'=>True) (ds := []) (Array.replicate 9 false) (by kernel_rfl) rfl rfl trivial (fun hHeld=>?_);refine with_tabW nat_long.tab22 nat_long.bits22 (fun HT_ HW_=>?_)
 generalize wr.drew=w85 at HO_9 HO_10 HB HO451 hHeld ⊢
 refine zp HT_ 0 (some 136) ?_
 refine zp HT_ 2 (some 138) ?_
 refine zp HT_ 3 (some 139) ?_
 refine zp HT_ 4 (some 140) ?_
 refine zp HT_ 5 (some 141) ?_
 refine zu HT_ 1 (some 137) (fun K hK=>?_)
 refine goes_ Tryz.func103 (by kernel_rfl) rfl #[.slice Ao21 x10_1.length co21] (by rfl) rfl rfl (by (try simp only [List.map_toArray,List.map_cons,List.map_nil]);first|done|rfl|(simp only [List.length_drop,List.length_take];rfl)) ?_
 with_reducible refine (nat_trim.calls k2 (fun k_=>some k_=(.slice Ao21 x10_1.length co21:Value).ownBlock) _ _ x10_1 t444 _ ?side1 A81.out).mono ?_
 (case side1=>exact Kd.R_V (Kd.R_tight rfl (HO_10.out)))
 rintro e w87 ⟨v445,rfl,ho0,hb⟩
 refine ⟨_,rfl,?_⟩
 replace HO451:=zVb HO451 hb
 have HO446:=am (Kd.V_lower (Kd.V_mono (ok':=fun k_=>(w.heap.size≤k_)∧some k_≠(.slice Ao18 x9_2.length co18:Value).ownBlock) ho0 (fun k_ hk_=>⟨Or.elim hk_ (fun hs_=>((HO_10.out).1 k_ hs_.symm).1) (fun hn_=>(Nat.le_trans (zS HB) hn_)),Or.elim hk_ (fun hs_=>((HO_10.out).1 k_ hs_.symm).2) (fun hn_=>(Kd.fresh' (Kd.R_lt (zR HO_9)) k_ hn_))⟩)) (zS HB))
 replace HO_9:=zRb HO_9 hb
 replace HO_10:=zRb HO_10 hb
 replace HB:=zBs HB hb
 (try clear hb)
 (try clear hb2)
 (try clear hk)
 (try clear hi)
 (try clear ho0)
 refine hK.out _ _ trivial (fun hHeld=>?_)
 clear hK K
 refine norm_ (a':=?_) ?_ ?_
 rotate_left
 ·show Act.put _ (some 137) _=_
  simp only [Act.put,List.setIfInBounds_toArray,List.set_cons_zero,List.set_cons_succ,i64_w,i32_w]
  rfl
 refine zu HT_ 6 (some 142) (fun K hK=>?_)
 refine goes_ Tryz.func103 (by kernel_rfl) rfl #[.slice Ao18 y447.length y447.length] (by rfl) rfl rfl (by (try simp only [List.map_toArray,List.map_cons,List.map_nil]);first|done|rfl|(simp only [List.length_drop,List.length_take];rfl)) ?_
 with_reducible refine (nat_trim.calls k2 (fun k_=>((w.heap.size≤k_)∧some k_≠(.slice Ao21 x10_1.length co21:Value).ownBlock)) _ _ y447 t452 _ ?side1 A84.out).mono ?_
 (case side1=>exact HO451.out)
 rintro e w88 ⟨v453,rfl,ho0,hb⟩
 refine ⟨_,rfl,?_⟩
 replace HO_9:=zRb HO_9 hb
 replace HO451:=zVb HO451 hb
 replace HO446:=zVb HO446 hb
 have HO454:=am (Kd.V_lower (Kd.V_mono (ok':=fun k_=>(w.heap.size≤k_)∧some k_≠(.slice Ao21 x10_1.length co21:Value).ownBlock) ho0 (fun k_ hk_=>⟨Or.elim hk_ (fun hs_=>hs_.1) (fun hn_=>(Nat.le_trans (zS HB) hn_)),Or.elim hk_ (fun hs_=>hs_.2) (fun hn_=>(Kd.fresh' (Kd.R_lt (zR HO_10)) k_ hn_))⟩)) (zS HB))
 replace HO_10:=zRb HO_10 hb
 replace HB:=zBs HB hb
 (try clear hb)
 (try clear hb2)
 (try clear hk)
 (try clear hi)
 (try clear ho0)
 refine hK.out _ _ trivial (fun hHeld=>?_)
 clear hK K
 refine norm_ (a':=?_) ?_ ?_
 rotate_left
 ·show Act.put _ (some 142) _=_
  simp only [Act.put,List.setIfInBounds_toArray,List.set_cons_zero,List.set_cons_succ,i64_w,i32_w]
  rfl
 refine zp HT_ 7 (some 4) ?_
 refine zp HT_ 8 (some 5) ?_
 refine done_ (done_of HT_.out (by kernel_rfl)) ?_
 try go_wp2
 go_ret2
 exact ⟨_,_,by first|exact z3|(simp only [← hji3, ← hji11];exact z3)|exact z2,by (with_reducible repeat (first|apply Kd.V_alloc|apply Kd.V_drewN|apply Kd.V_drew));exact Kd.V_mono HO446.out (fun _ hk=>hk.1),by (with_reducible repeat (first|apply Kd.V_alloc|apply Kd.V_drewN|apply Kd.V_drew));exact Kd.V_mono HO454.out (fun _ hk=>hk.1),zB HB⟩
end Go.Proofs.Yy.PTx
end
