/- Part 21 of what the proof needs. -/
import Derived.Test.YtpfnkbnepcchgaaGreatDoorKTBAT
set_option linter.unusedSimpArgs false
set_option linter.unusedVariables false
section
set_option maxHeartbeats 8000000
set_option maxRecDepth 100000
namespace Go.Proofs.Yy.PTx
open Go.RowKit Go.Proofs.Yy.Z Go.Proofs.Yw.PrintWords Go.Proofs.Yw.PrintLast Go.Proofs.Yw.PrintMore
open Go.Proofs.Yy.M
attribute [local go_sem] runx_add64 runx_sub64 eql_cc eql_nc neq_cc neq_nc
attribute [local go_sem] max2_int min2_int max_two min_two max_three min_three max_four min_four
def nat_Div.f (k:Nat) (l0:List Int) (l1:List Int):Option (List Int × List Int × Option Int):=(nat_trim.f k l0).bind fun t455=>((nat_trim.f k l1).bind fun t458=>(if (t458.length:Int)=0 then (some (([]:List Int),([]:List Int),some 4)) else (if (t458.length:Int)=1 then (if 0<(t458.length:Int) then ((nat_short.f k t455 (rd t458 0)).bind fun bt462=>((nat_Of.f k bt462.2).bind fun t466=>(some (bt462.1,t466,none)))) else (none)) else ((nat_Cmp.f k t455 t458).bind fun t469=>(if t469<0 then (if ([]:List Int).length+t455.length<17592186044416 then (some (([]:List Int),(([]:List Int) ++ t455),none)) else (none)) else ((nat_long.f k t455 t458).bind fun bt473=>(some (bt473.1,bt473.2,none))))))))
theorem nat_Div.mono:∀ a0 a1 k,LeO (nat_Div.f k a0 a1) (nat_Div.f (k+1) a0 a1):=by
  intro a0 a1 k
  unfold nat_Div.f
  repeat' (with_reducible first|exact nat_Cmp.mono _ _ _|exact nat_Of.mono _ _|exact nat_long.mono _ _ _|exact nat_short.mono _ _ _|exact nat_trim.mono _ _|exact zm|exact zv|refine zI ?_ ?_|refine zO ?_ fun _=>?_)
theorem nat_Div.calls (k:Nat) (P0_:Nat→Prop) (A0:Option Addr) (c0:Nat) (l0:List Int) (P1_:Nat→Prop) (A1:Option Addr) (c1:Nat) (l1:List Int) (r1:List Int) (r2:List Int) (r3:Option Int) (w:World) (hs0:Kd.V (Kd.int .u64) 25 w w.heap.size (fun k_=>P0_ k_) (.slice A0 l0.length c0) l0) (hs1:Kd.V (Kd.int .u64) 25 w w.heap.size (fun k_=>P1_ k_) (.slice A1 l1.length c1) l1) (h:nat_Div.f k l0 l1=some (r1,r2,r3)) :
    Calls Tryz.prog 97 #[.slice A0 l0.length c0, .slice A1 l1.length c1] w fun e w' => ∃ v0_ v1_:Value,e = .returned (.tuple #[v0_,v1_,errW r3])∧Kd.V (Kd.int .u64) 25 w' w.heap.size (fun k_=>((P0_ k_∨P1_ k_)∨w.heap.size≤k_)) v0_ r1∧Kd.V (Kd.int .u64) 25 w' w.heap.size (fun k_=>((P0_ k_∨P1_ k_)∨w.heap.size≤k_)) v1_ r2∧Below w.heap.size w w':=by
 have hu27:=Tryz.underlying27
 have hu64:=Tryz.underlying64
 have HO0:=am (show Kd.V (Kd.int .u64) 25 w w.heap.size (fun k_=>((P0_ k_∨P1_ k_)∨w.heap.size≤k_)) (.slice A0 l0.length c0) l0 from Kd.V_mono hs0 (fun k_ hk => .inl (.inl hk)))
 have HO1:=am (show Kd.V (Kd.int .u64) 25 w w.heap.size (fun k_=>((P0_ k_∨P1_ k_)∨w.heap.size≤k_)) (.slice A1 l1.length c1) l1 from Kd.V_mono hs1 (fun k_ hk => .inl (.inr hk)))
 have HB:=am (Below.refl w.heap.size w)
 have H:=am h
 unfold nat_Div.f at H
 clear h
 replace H:=zo H
 obtain ⟨t455,A3,H⟩:=H
 replace H:=zo H
 obtain ⟨t458,A4,H⟩:=H
 replace H:=zsk H
 rcases H with ⟨c5b0,c5b1,H⟩|⟨c5b0,c5b1,c5,H⟩
 obtain ⟨rfl,rfl,rfl⟩:=zJ3 H
 rotate_left
 have c5b2:¬ (t458 = []):=fun h_=>c5 (by rw [h_];rfl)
 replace H:=zsk H
 rcases H with ⟨c9b0,c9b1,H⟩|⟨c9b0,c9b1,c9,H⟩
 replace H:=zi H
 obtain ⟨c10,H⟩:=H
 have c10b0:decide (0<(t458.length:Int))=true:=decide_eq_true c10
 have c10b1:decide (0<t458.length)=true:=decide_eq_true (by omega)
 clear c10
 replace H:=zo H
 obtain ⟨⟨t462,t465⟩,A11,H⟩:=H
 try dsimp only at H
 replace H:=zo H
 obtain ⟨t466,A12,H⟩:=H
 obtain ⟨rfl,rfl,rfl⟩:=zJ3 H
 rotate_left
 replace H:=zo H
 obtain ⟨t469,A19,H⟩:=H
 replace H:=zsd H
 rcases H with ⟨c20b0,H⟩|⟨c20b0,H⟩
 replace H:=zil H
 obtain ⟨LMc21,H⟩:=H
 generalize hy470:(([]:List Int) ++ t455:List Int)=y470 at H
 have Ny470:=zY hy470
 clear hy470
 obtain ⟨rfl,rfl,rfl⟩:=zJ3 H
 rotate_left
 replace H:=zo H
 obtain ⟨⟨t473,t476⟩,A28,H⟩:=H
 try dsimp only at H
 obtain ⟨rfl,rfl,rfl⟩:=zJ3 H
 rotate_left
 all_goals (go_enter Tryz.func97,Tryz.ntmps97;go_wp2_with (first|((with_reducible refine gate_callee (f:=103) rfl ?_);refine zc (some 12) Tryz.func103 #[.slice A0 l0.length c0] (nat_trim.calls _ (fun k_=>((P0_ k_∨P1_ k_)∨w.heap.size≤k_)) _ _ _ _ _ HO0.out A3.out) ?_;rintro e w13 ⟨v456,rfl,ho0,hb⟩;refine ⟨_,rfl,?_⟩;replace HO0:=zVb HO0 hb;replace HO1:=zVb HO1 hb;have HO457:=am (Kd.V_lower (Kd.V_mono (ok':=fun k_=>((P0_ k_∨P1_ k_)∨w.heap.size≤k_)) ho0 (fun k_ hk_=>Or.elim hk_ (fun hs_=>hs_) (fun hn_=>(.inr (Nat.le_trans (zS HB) hn_))))) (zS HB));replace HB:=zBs HB hb;clear hb ho0)|((with_reducible refine gate_callee (f:=103) rfl ?_);refine zc (some 14) Tryz.func103 #[.slice A1 l1.length c1] (nat_trim.calls _ (fun k_=>((P0_ k_∨P1_ k_)∨w.heap.size≤k_)) _ _ _ _ _ HO1.out A4.out) ?_;rintro e w14 ⟨v459,rfl,ho0,hb⟩;refine ⟨_,rfl,?_⟩;replace HO0:=zVb HO0 hb;replace HO1:=zVb HO1 hb;replace HO457:=zVb HO457 hb;have HO460:=am (Kd.V_lower (Kd.V_mono (ok':=fun k_=>((P0_ k_∨P1_ k_)∨w.heap.size≤k_)) ho0 (fun k_ hk_=>Or.elim hk_ (fun hs_=>hs_) (fun hn_=>(.inr (Nat.le_trans (zS HB) hn_))))) (zS HB));replace HB:=zBs HB hb;clear hb ho0;obtain ⟨Ao15,co15,eo15⟩:=Kd.V_slice HO460.out;subst eo15;have p461:0≤(0:Int):=(by omega);have q461:0<(t458.length:Int):=zD;obtain ⟨ad461,e461,hx461_0⟩:=Kd.at_int (Kd.V_reads' HO460.out).2.2 0 p461 q461;cases e461;have qi461:(0<t458.length)=True:=eq_true (by omega);(try rw [show ((0:Int)).toNat=0 from rfl] at hx461_0);(try rw [Addr.add_zero'] at hx461_0);replace p461:=eq_true p461;replace q461:=eq_true q461;obtain ⟨Ao16,co16,eo16⟩:=Kd.V_slice HO457.out;subst eo16)|((with_reducible refine gate_callee (f:=105) rfl ?_);refine zc (some 29) Tryz.func105 #[.slice Ao16 t455.length co16, .int .u64 (rd t458 0)] (nat_short.calls _ _ _ _ _ _ _ _ (zC ((Kd.V_reads' HO457.out).2.2)) ((Kd.V_reads' HO457.out).2.1) A11.out) ?_;rintro e w17 ⟨v463,rfl,ho0,hb⟩;refine ⟨_,rfl,?_⟩;replace HO0:=zVb HO0 hb;replace HO1:=zVb HO1 hb;replace HO457:=zVb HO457 hb;replace HO460:=zVb HO460 hb;have HO464:=am (Kd.V_lower (Kd.V_mono (ok':=fun k_=>((P0_ k_∨P1_ k_)∨w.heap.size≤k_)) ho0 (fun k_ hk_=>(.inr (Nat.le_trans (zS HB) hk_)))) (zS HB));replace HB:=zBs HB hb;clear hb ho0)|((with_reducible refine gate_callee (f:=48) rfl ?_);refine zc (some 34) Tryz.func48 _ (nat_Of.calls _ _ _ _ A12.out) ?_;rintro e w18 ⟨v467,rfl,ho0,hb⟩;refine ⟨_,rfl,?_⟩;replace HO0:=zVb HO0 hb;replace HO1:=zVb HO1 hb;replace HO457:=zVb HO457 hb;replace HO460:=zVb HO460 hb;replace HO464:=zVb HO464 hb;have HO468:=am (Kd.V_lower (Kd.V_mono (ok':=fun k_=>((P0_ k_∨P1_ k_)∨w.heap.size≤k_)) ho0 (fun k_ hk_=>(.inr (Nat.le_trans (zS HB) hk_)))) (zS HB));replace HB:=zBs HB hb;clear hb ho0)|((with_reducible refine gate_callee (f:=103) rfl ?_);refine zc (some 14) Tryz.func103 #[.slice A1 l1.length c1] (nat_trim.calls _ (fun k_=>((P0_ k_∨P1_ k_)∨w.heap.size≤k_)) _ _ _ _ _ HO1.out A4.out) ?_;rintro e w23 ⟨v459,rfl,ho0,hb⟩;refine ⟨_,rfl,?_⟩;replace HO0:=zVb HO0 hb;replace HO1:=zVb HO1 hb;replace HO457:=zVb HO457 hb;have HO460:=am (Kd.V_lower (Kd.V_mono (ok':=fun k_=>((P0_ k_∨P1_ k_)∨w.heap.size≤k_)) ho0 (fun k_ hk_=>Or.elim hk_ (fun hs_=>hs_) (fun hn_=>(.inr (Nat.le_trans (zS HB) hn_))))) (zS HB));replace HB:=zBs HB hb;clear hb ho0;obtain ⟨Ao24,co24,eo24⟩:=Kd.V_slice HO460.out;subst eo24;obtain ⟨Ao25,co25,eo25⟩:=Kd.V_slice HO457.out;subst eo25)|((with_reducible refine gate_callee (f:=153) rfl ?_);refine zc (some 38) Tryz.func153 #[.slice Ao25 t455.length co25, .slice Ao24 t458.length co24] (nat_Cmp.calls _ _ _ _ _ _ _ _ _ (zC ((Kd.V_reads' HO457.out).2.2)) ((Kd.V_reads' HO457.out).2.1) (zC ((Kd.V_reads' HO460.out).2.2)) ((Kd.V_reads' HO460.out).2.1) A19.out) ?_;rintro e w26 ⟨rfl,hb⟩;refine ⟨_,rfl,?_⟩;replace HO0:=zVb HO0 hb;replace HO1:=zVb HO1 hb;replace HO457:=zVb HO457 hb;replace HO460:=zVb HO460 hb;replace HB:=zBs HB hb;clear hb)|((with_reducible refine gate_builtin (b := .append) (xs:=#[.const (.slice none 0 0), .tmp 40]) rfl ?_);at_builtin;refine Kd.R_append_rows (Kd.int .u64) (w0:=w) w.heap.size rfl (.const (.slice none 0 0)) (.tmp 40) 88 25 (.int .u64 0) 8 rfl Tryz.underlying88 info25 rfl (by decide) (by omega) (.slice none 0 0) ([]:List Int) t455 _ _ _ (fun k_=>(w.heap.size≤k_)) (fun _=>False) rfl rfl ?aO ?aR (fun _ _ h=>h) (fun _ h=>h.elim) ?aF ?aB ?aS ?aL ?_;(case aR=>repeat (first|exact (Kd.V_reads' HO457.out).2.2|(with_reducible refine Kd.C_alloc ?_ _)|(with_reducible refine Kd.C_drewN ?_ _)|(with_reducible refine Kd.C_drew ?_)));(case aB=>exact (zB HB));(case aF=>exact (fun k_ hk=>(Nat.le_trans (zS HB) hk)));(case aO=>exact ((Kd.R_nil _ _ _ _ (fun k_=>(w.heap.size≤k_)))));(case aS=>exact (zS HB));(case aL=>have:=LMc21.out;omega);intro v471 w27 ho hb hg hat;rw [← Ny470.out] at ho;replace HO0:=am (Kd.V_afterv (Kd.V_apart_nil (zV HO0)) hg hat);replace HO1:=am (Kd.V_afterv (Kd.V_apart_nil (zV HO1)) hg hat);replace HO457:=am (Kd.V_afterv (Kd.V_apart_nil (zV HO457)) hg hat);replace HO460:=am (Kd.V_afterv (Kd.V_apart_nil (zV HO460)) hg hat);replace HB:=am (hb);have HO472:=am (ho);clear ho hb hg hat)|((with_reducible refine gate_callee (f:=154) rfl ?_);refine zc (some 45) Tryz.func154 #[.slice Ao25 t455.length co25, .slice Ao24 t458.length co24] (nat_long.calls _ _ _ _ _ _ _ _ _ _ (zC ((Kd.V_reads' HO457.out).2.2)) ((Kd.V_reads' HO457.out).2.1) (zC ((Kd.V_reads' HO460.out).2.2)) ((Kd.V_reads' HO460.out).2.1) A28.out) ?_;rintro e w34 ⟨v474,v477,rfl,ho0,ho1,hb⟩;refine ⟨_,rfl,?_⟩;replace HO0:=zVb HO0 hb;replace HO1:=zVb HO1 hb;replace HO457:=zVb HO457 hb;replace HO460:=zVb HO460 hb;have HO475:=am (Kd.V_lower (Kd.V_mono (ok':=fun k_=>((P0_ k_∨P1_ k_)∨w.heap.size≤k_)) ho0 (fun k_ hk_=>(.inr (Nat.le_trans (zS HB) hk_)))) (zS HB));have HO478:=am (Kd.V_lower (Kd.V_mono (ok':=fun k_=>((P0_ k_∨P1_ k_)∨w.heap.size≤k_)) ho1 (fun k_ hk_=>(.inr (Nat.le_trans (zS HB) hk_)))) (zS HB));replace HB:=zBs HB hb;clear hb ho0 ho1)))
 ·go_ret3
  exact ⟨_,_,z2,Kd.V_nil _ _ _ _ _,Kd.V_nil _ _ _ _ _,zB HB⟩
 ·go_ret3
  exact ⟨_,_,z2,zV HO464,zV HO468,zB HB⟩
 ·go_ret3
  exact ⟨_,_,z2,Kd.V_nil _ _ _ _ _,Kd.V_mono (Kd.R_V (zR HO472)) (fun k_ hk=>by first|exact ⟨(.inr (hk.1)),hk.2⟩|exact (.inr (hk))),zB HB⟩
 go_ret3
 exact ⟨_,_,z2,zV HO475,zV HO478,zB HB⟩
def text_exact.f (k:Nat) (a0_0:Bool) (a0_1:Bool) (a0_2:ByteArray) (a0_3:Int):Option (Int × Bool × Int × Int × Int × Bool × Option Int):=if (wrap64 ((a0_2.size:Int)+a0_3)) > 100 then ((round_Make.f k a0_1 0 1 1000 false).bind fun bt481=>(some (bt481.1,bt481.2.1,bt481.2.2.1,bt481.2.2.2.1,bt481.2.2.2.2.1,bt481.2.2.2.2.2.1,bt481.2.2.2.2.2.2))) else (if (wrap64 ((a0_2.size:Int)+a0_3))<(-100) then ((round_Make.f k a0_1 0 1 (-1000) false).bind fun bt488=>(some (bt488.1,bt488.2.1,bt488.2.2.1,bt488.2.2.2.1,bt488.2.2.2.2.1,bt488.2.2.2.2.2.1,bt488.2.2.2.2.2.2))) else ((nat_Read.f k a0_2).bind fun bt495=>(if bt495.2.isNone=true then ((nat_Ten.f k (mx a0_3 (wrap64 (-a0_3)))).bind fun bt500=>(if bt500.2.isNone=true then (if a0_3 ≥ 0 then ((nat_Mul.f k (([bt495.1,bt500.1]:List (List Int)))).bind fun t508=>((text_upper.f k a0_1 t508 0 false).bind fun bt511=>(some (bt511.1,bt511.2.1,bt511.2.2.1,bt511.2.2.2.1,bt511.2.2.2.2.1,bt511.2.2.2.2.2.1,bt511.2.2.2.2.2.2)))) else ((nat_Bits.f k bt500.1).bind fun t518=>((nat_Bits.f k bt495.1).bind fun t519=>((nat_Shl.f k bt495.1 (mx 0 (wrap64 ((wrap64 (t518 - t519))+66)))).bind fun bt520=>(if bt520.2.isNone=true then ((nat_Div.f k bt520.1 bt500.1).bind fun bt525=>(if bt525.2.2.isNone=true then ((text_upper.f k a0_1 bt525.1 (wrap64 (-(mx 0 (wrap64 ((wrap64 (t518 - t519))+66))))) (decide ((bt525.2.1.length:Int) > 0))).bind fun bt533=>(some (bt533.1,bt533.2.1,bt533.2.2.1,bt533.2.2.2.1,bt533.2.2.2.2.1,bt533.2.2.2.2.2.1,bt533.2.2.2.2.2.2))) else (some (0,false,0,0,0,false,some (bt525.2.2.getD 0))))) else (some (0,false,0,0,0,false,some (bt520.2.getD 0)))))))) else (some (0,false,0,0,0,false,some (bt500.2.getD 0))))) else (some (0,false,0,0,0,false,some (bt495.2.getD 0))))))
theorem text_exact.mono:∀ a0 a1 a2 a3 k,LeO (text_exact.f k a0 a1 a2 a3) (text_exact.f (k+1) a0 a1 a2 a3):=by
  intro a0 a1 a2 a3 k
  unfold text_exact.f
  repeat' (with_reducible first|exact nat_Bits.mono _ _|exact nat_Div.mono _ _ _|exact nat_Mul.mono _ _|exact nat_Read.mono _ _|exact nat_Shl.mono _ _ _|exact nat_Ten.mono _ _|exact round_Make.mono _ _ _ _ _ _|exact text_upper.mono _ _ _ _ _|exact zm|exact zv|refine zI ?_ ?_|refine zO ?_ fun _=>?_)
def text_exact.T13:Bool × List (List Nat × List Nat):=(true, [([], []),([0], [0]),([], []),([], []),([2,3], [2,3]),([4], [4]),([1,5,5], [1,5]),([6], [6]),([6], [6]),([7,6,0,1,2,3,4,5,6,7,8], [7]),([8,9,0,1,2,3,4,5,6,7,8,9], [8])])
def text_exact.B13:List Nat := [0,1,0,0,12,28,63,127,127,511,1023]
theorem text_exact.tab13:rtab .any (opsOf Tryz.f43 13)=text_exact.T13:=by kernel_rfl
theorem text_exact.bits13:waitsOk text_exact.T13.2 text_exact.B13=true:=by kernel_rfl
theorem text_exact.calls (k:Nat) (a0_0:Bool) (a0_1:Bool) (a0_2:ByteArray) (a0_3:Int) (r1:Int) (r2:Bool) (r3:Int) (r4:Int) (r5:Int) (r6:Bool) (r7:Option Int) (w:World) (h:text_exact.f k a0_0 a0_1 a0_2 a0_3=some (r1,r2,r3,r4,r5,r6,r7)) :
    Calls Tryz.prog 43 #[.agg #[.bool a0_0, .bool a0_1, .string a0_2, .int .i64 a0_3]] w fun e w'=>e = .returned (.tuple #[.agg #[.int .i64 r1, .bool r2, .int .i64 r3, .int .u64 r4, .int .u64 r5, .bool r6],errW r7])∧Below w.heap.size w w':=by
 have hu23:=Tryz.underlying23
 have hu81:=Tryz.underlying81
 have hu27:=Tryz.underlying27
 have hu64:=Tryz.underlying64
 have HB:=am (Below.refl w.heap.size w)
 have H:=am h
 unfold text_exact.f at H
 clear h
 replace H:=zsdg H
 rcases H with ⟨c2b0,H⟩|⟨c2b0,H⟩
 replace H:=zo H
 obtain ⟨⟨t481,t482,t483,t484,t485,t486,t487⟩,A3,H⟩:=H
 try dsimp only at H
 obtain ⟨rfl,rfl,rfl,rfl,rfl,rfl,rfl⟩:=zJ7 H
 rotate_left
 replace H:=zsd H
 rcases H with ⟨c10b0,H⟩|⟨c10b0,H⟩
 replace H:=zo H
 obtain ⟨⟨t488,t489,t490,t491,t492,t493,t494⟩,A11,H⟩:=H
 try dsimp only at H
 obtain ⟨rfl,rfl,rfl,rfl,rfl,rfl,rfl⟩:=zJ7 H
 rotate_left
 replace H:=zo H
 obtain ⟨⟨t495,t498⟩,A18,H⟩:=H
 try dsimp only at H
 rcases t498 with _|q499
 replace H:=zb1 H
 try simp only [errW_none,errW_some]
 generalize hji19:(mx a0_3 (wrap64 (-a0_3)):Int)=ji19 at H
 (try rw [hji19] at A18)
 have hji19_:(if a0_3<(wrap64 (-a0_3)) then (wrap64 (-a0_3)) else a0_3)=ji19:=hji19
 replace H:=zo H
 obtain ⟨⟨t500,t503⟩,A20,H⟩:=H
 try dsimp only at H
 rcases t503 with _|q504
 replace H:=zb1 H
 try simp only [errW_none,errW_some]
 replace H:=zsde H
 rcases H with ⟨c21b0,H⟩|⟨c21b0,H⟩
 ·generalize hy505:(([t495,t500]:List (List Int)):List (List Int))=y505 at H
  have Ny505:=zY hy505
  clear hy505
  replace H:=zo H
  obtain ⟨t508,A22,H⟩:=H
  replace H:=zo H
  obtain ⟨⟨t511,t512,t513,t514,t515,t516,t517⟩,A23,H⟩:=H
  try dsimp only at H
  obtain ⟨rfl,rfl,rfl,rfl,rfl,rfl,rfl⟩:=zJ7 H
  go_enter Tryz.func43,Tryz.ntmps43
  try go_wp2_with (first|((with_reducible refine gate_dst (N:=1) rfl ?_);refine zx 1 23 #[.bool a0_0, .bool a0_1, .string a0_2, .int .i64 a0_3] ?_;intro gb479 hg w24 hbox hb;have BK479:=am (hbox);have GW479:=zG hg HB;have GE479:=zG hg HB;replace HB:=zBs HB hb;clear hb hbox hg)|((with_reducible refine gate_dst (N:=2) rfl ?_);refine zx 2 81 #[.int .i64 0, .bool false, .int .i64 0, .int .u64 0, .int .u64 0, .bool false] ?_;intro gb480 hg w25 hbox hb;have BK480:=am (hbox);have GW480:=zG hg HB;have GE480:=zG hg HB;replace HB:=zBs HB hb;have NB479_480:=zNl hg BK479;have NB480_479:=zNg hg BK479;replace BK479:=zKb BK479 hb;clear hb hbox hg;have hnb26:=NB479_480.out;have hnc26:=NB480_479.out;obtain ⟨_,_,_,_,_,_,_,_⟩:=zf4 BK479)|((with_reducible refine gate_callee (f:=94) rfl ?_);refine zc (some 36) Tryz.func94 _ (nat_Read.calls _ _ _ _ _ A18.out) ?_;rintro e w28 ⟨v496,rfl,ho0,hb⟩;refine ⟨_,rfl,?_⟩;have HO497:=am (Kd.V_lower (Kd.V_mono (ok':=fun k_=>k_≠gb479∧k_≠gb480) ho0 (fun k_ hk_=>⟨(Kd.freshB (g:=gb479) (o := .cells #[.bool a0_0, .bool a0_1, .string a0_2, .int .i64 a0_3] 23 (0,0)) (zK BK479) k_ hk_),(Kd.freshB (g:=gb480) (o := .cells #[.int .i64 0, .bool false, .int .i64 0, .int .u64 0, .int .u64 0, .bool false] 81 (0,0)) (zK BK480) k_ hk_)⟩)) (zS HB));replace BK479:=zKb BK479 hb;replace BK480:=zKb BK480 hb;replace HB:=zBs HB hb;clear hb ho0;(try simp only [errW_none,errW_some]);obtain ⟨_,_,_,_,_,_,_,_⟩:=zf4 BK479)|((with_reducible refine gate_callee (f:=51) rfl ?_);refine goesL_ (some 50) rfl rfl Tryz.func51 (by kernel_rfl) rfl #[.int .i64 ji19] rfl (by (try simp only [List.map_toArray,List.map_cons,List.map_nil]);first|done|(simp only [hji19];rfl)|rfl|(simp only [List.length_drop,List.length_take];rfl)) ?_;(with_reducible refine (nat_Ten.calls _ _ _ _ _ A20.out).mono ?_);rintro e w30 ⟨v501,rfl,ho0,hb⟩;refine ⟨_,rfl,?_⟩;replace HO497:=zVb HO497 hb;have HO502:=am (Kd.V_lower (Kd.V_mono (ok':=fun k_=>k_≠gb479∧k_≠gb480) ho0 (fun k_ hk_=>⟨(Kd.freshB (g:=gb479) (o := .cells #[.bool a0_0, .bool a0_1, .string a0_2, .int .i64 a0_3] 23 (0,0)) (zK BK479) k_ hk_),(Kd.freshB (g:=gb480) (o := .cells #[.int .i64 0, .bool false, .int .i64 0, .int .u64 0, .int .u64 0, .bool false] 81 (0,0)) (zK BK480) k_ hk_)⟩)) (zS HB));replace BK479:=zKb BK479 hb;replace BK480:=zKb BK480 hb;replace HB:=zBs HB hb;clear hb ho0;(try simp only [errW_none,errW_some]);obtain ⟨_,_,_,_,_,_,_,_⟩:=zf4 BK479))
  replace HO497:=am (Kd.V_drew HO497.out)
  replace HO502:=am (Kd.V_drew HO502.out)
  replace BK479:=am (blk_drew BK479.out)
  replace BK480:=am (blk_drew BK480.out)
  replace HB:=am (below_drew1 HB.out)
  obtain ⟨Ao33,co33,eo33⟩:=Kd.V_slice HO497.out
  (first|subst eo33|(injection eo33 with f1_ f2_ f3_;have f4_:=f1_.symm;have f5_:=f3_.symm;clear f1_ f2_ f3_;subst f4_;subst f5_))
  obtain ⟨Ao34,co34,eo34⟩:=Kd.V_slice HO502.out
  (first|subst eo34|(injection eo34 with f1_ f2_ f3_;have f4_:=f1_.symm;have f5_:=f3_.symm;clear f1_ f2_ f3_;subst f4_;subst f5_))
  refine start_ (n:=11) (S:=fun w'=>w'.cell? ⟨gb479,0,none⟩=some (.bool a0_0)∧w'.cell? ⟨gb479,1,none⟩=some (.bool a0_1)∧w'.cell? ⟨gb479,2,none⟩=some (.string a0_2)∧w'.cell? ⟨gb479,3,none⟩=some (.int .i64 a0_3)) (ds := []) (Array.replicate 11 false) (by kernel_rfl) rfl rfl ⟨(blk_cell BK479.out 0).trans rfl,(blk_cell BK479.out 1).trans rfl,(blk_cell BK479.out 2).trans rfl,(blk_cell BK479.out 3).trans rfl⟩ (fun hHeld=>?_);refine with_tabW text_exact.tab13 text_exact.bits13 (fun HT_ HW_=>?_)
  generalize w30.drew=w32 at HO497 HO502 BK479 BK480 HB hHeld ⊢
  refine zp HT_ 0 (some 60) ?_
  refine zp HT_ 2 (some 62) ?_
  refine zp HT_ 3 (some 63) ?_
  refine zt HT_ HW_ 1 (some 61) hHeld ?_
  refine zu HT_ 4 (some 64) (fun K hK=>?_)
  refine Kd.N_lit_step (Kd.slice 25 (Kd.int .u64)) _ 88 ?hg (N':=64) ?hd (xs:=([t495,t500]:List (List Int))) (inner := [.slice Ao33 t495.length co33, .slice Ao34 t500.length co34]) (ok:=(fun k_=>k_≠gb479∧k_≠gb480)) (okp:=(fun k_=>k_≠gb479∧k_≠gb480)) ?hr ?hp (fun _ hk=>hk) ((show ∀ k_,w32.heap.size≤k_→(fun k_=>k_≠gb479∧k_≠gb480) k_ from fun k_ hk=>⟨Kd.freshB (g:=gb479) (o := .cells #[.bool a0_0, .bool a0_1, .string a0_2, .int .i64 a0_3] 23 (0,0)) (zK BK479) k_ hk,Kd.freshB (g:=gb480) (o := .cells #[.int .i64 0, .bool false, .int .i64 0, .int .u64 0, .int .u64 0, .bool false] 81 (0,0)) (zK BK480) k_ hk⟩) _ (Nat.le_refl _)) (Below.refl _ _) (Nat.le_refl _) (by simp) ?_;(case hd=>rfl);(case hg=>rfl);(case hr=>first|(go_simp;done)|(go_simp;rfl));(case hp=>exact (Reps.one (show Kd.FK (Kd.slice 25 (Kd.int .u64)) _ _ t495 [.slice Ao33 t495.length co33] from (Kd.FK_slice_mk (Kd.V_reads' (Kd.V_mono (ok':=(fun k_=>k_≠gb479∧k_≠gb480)) (HO497.out) (fun k_ hk=>⟨hk.1,hk.2⟩))).2.1 (Kd.V_F (Kd.V_mono (ok':=(fun k_=>k_≠gb479∧k_≠gb480)) (HO497.out) (fun k_ hk=>⟨hk.1,hk.2⟩))))) (Reps.one (show Kd.FK (Kd.slice 25 (Kd.int .u64)) _ _ t500 [.slice Ao34 t500.length co34] from (Kd.FK_slice_mk (Kd.V_reads' (Kd.V_mono (ok':=(fun k_=>k_≠gb479∧k_≠gb480)) (HO502.out) (fun k_ hk=>⟨hk.1,hk.2⟩))).2.1 (Kd.V_F (Kd.V_mono (ok':=(fun k_=>k_≠gb479∧k_≠gb480)) (HO502.out) (fun k_ hk=>⟨hk.1,hk.2⟩))))) (Reps.none _ _))))
  intro v506 w35 ho36 hb hg_ hnew_
  clear hg_ hnew_
  (first|rw [← Ny505.out] at ho36|(simp only [Int.reduceToNat] at ho36;rw [← Ny505.out] at ho36))
  replace HO497:=am (Kd.V_elder' (zV HO497) (Kd.N_base ho36) hb)
  replace HO502:=am (Kd.V_elder' (zV HO502) (Kd.N_base ho36) hb)
  have HO507:=am (Kd.N_lower ho36 (zS HB))
  replace BK479:=zKb BK479 hb
  replace BK480:=zKb BK480 hb
  replace HB:=zBs HB hb
  clear hb ho36
  obtain ⟨Ao37,co37,eo37⟩:=Kd.N_slice HO507.out
  (first|subst eo37|(injection eo37 with f1_ f2_ f3_;have f4_:=f1_.symm;have f5_:=f3_.symm;clear f1_ f2_ f3_;subst f4_;subst f5_))
  refine hK.out _ _ ⟨(blk_cell BK479.out 0).trans rfl,(blk_cell BK479.out 1).trans rfl,(blk_cell BK479.out 2).trans rfl,(blk_cell BK479.out 3).trans rfl⟩ (fun hHeld=>?_)
  clear hK K
  refine norm_ (a':=?_) ?_ ?_
  rotate_left
  ·show Act.put _ (some 64) _=_
   simp only [Act.put,List.setIfInBounds_toArray,List.set_cons_zero,List.set_cons_succ,i64_w,i32_w]
   rfl
  refine zu HT_ 5 (some 65) (fun K hK=>?_)
  refine goes_ Tryz.func53 (by kernel_rfl) rfl #[.slice Ao37 y505.length co37] (by rfl) rfl rfl (by (try simp only [List.map_toArray,List.map_cons,List.map_nil]);first|done|rfl|(simp only [List.length_drop,List.length_take];rfl)) ?_
  with_reducible refine (nat_Mul.calls k (fun k_=>(k_≠gb479∧k_≠gb480)) _ _ y505 t508 _ ?side1 A22.out).mono ?_
  (case side1=>exact Kd.N_V (HO507.out))
  rintro e w38 ⟨v509,rfl,ho0,hb⟩
  refine ⟨_,rfl,?_⟩
  replace HO497:=zVb HO497 hb
  replace HO502:=zVb HO502 hb
  replace HO507:=am (Kd.N_below (by (with_reducible repeat (first|apply Kd.N_alloc|apply Kd.N_drewN|apply Kd.N_drew));exact HO507.out) hb)
  have HO510:=am (Kd.V_lower (Kd.V_mono (ok':=fun k_=>k_≠gb479∧k_≠gb480) ho0 (fun k_ hk_=>⟨Or.elim hk_ (fun hs_=>hs_.1) (fun hn_=>(Kd.freshB (g:=gb479) (o := .cells #[.bool a0_0, .bool a0_1, .string a0_2, .int .i64 a0_3] 23 (0,0)) (zK BK479) k_ hn_)),Or.elim hk_ (fun hs_=>hs_.2) (fun hn_=>(Kd.freshB (g:=gb480) (o := .cells #[.int .i64 0, .bool false, .int .i64 0, .int .u64 0, .int .u64 0, .bool false] 81 (0,0)) (zK BK480) k_ hn_))⟩)) (zS HB))
  replace BK479:=zKb BK479 hb
  replace BK480:=zKb BK480 hb
  replace HB:=zBs HB hb
  (try clear hb)
  (try clear hb2)
  (try clear hk)
  (try clear hi)
  (try clear ho0)
  obtain ⟨Ao39,co39,eo39⟩:=Kd.V_slice HO510.out
  (first|subst eo39|(injection eo39 with f1_ f2_ f3_;have f4_:=f1_.symm;have f5_:=f3_.symm;clear f1_ f2_ f3_;subst f4_;subst f5_))
  refine hK.out _ _ ⟨(blk_cell BK479.out 0).trans rfl,(blk_cell BK479.out 1).trans rfl,(blk_cell BK479.out 2).trans rfl,(blk_cell BK479.out 3).trans rfl⟩ (fun hHeld=>?_)
  clear hK K
  refine norm_ (a':=?_) ?_ ?_
  rotate_left
  ·show Act.put _ (some 65) _=_
   simp only [Act.put,List.setIfInBounds_toArray,List.set_cons_zero,List.set_cons_succ,i64_w,i32_w]
   rfl
  refine zu HT_ 6 (some 66) (fun K hK=>?_)
  refine goes_ Tryz.func95 (by kernel_rfl) rfl #[.bool a0_1, .slice Ao39 t508.length co39, .int .i64 0, .bool false] (by rfl) rfl rfl (by (try simp only [List.map_toArray,List.map_cons,List.map_nil]);first|done|rfl|(simp only [List.length_drop,List.length_take];rfl)) ?_
  with_reducible refine (text_upper.calls k a0_1 _ _ t508 0 false t511 t512 t513 t514 t515 t516 t517 _ ?side1 ?side2 A23.out).mono ?_
  (case side1=>repeat (first|exact (Kd.V_reads' HO510.out).2.2|(with_reducible refine Kd.C_alloc ?_ _)|(with_reducible refine Kd.C_drewN ?_ _)|(with_reducible refine Kd.C_drew ?_)))
  (case side2=>exact (Kd.V_reads' HO510.out).2.1)
  rintro e w40 ⟨rfl,hb⟩
  refine ⟨_,rfl,?_⟩
  replace HO497:=zVb HO497 hb
  replace HO502:=zVb HO502 hb
  replace HO507:=am (Kd.N_below (by (with_reducible repeat (first|apply Kd.N_alloc|apply Kd.N_drewN|apply Kd.N_drew));exact HO507.out) hb)
  replace HO510:=zVb HO510 hb
  replace BK479:=zKb BK479 hb
  replace BK480:=zKb BK480 hb
  replace HB:=zBs HB hb
  (try clear hb)
  (try clear hb2)
  (try clear hk)
  (try clear hi)
  (try simp only [errW_none,errW_some])
  refine hK.out _ _ ⟨(blk_cell BK479.out 0).trans rfl,(blk_cell BK479.out 1).trans rfl,(blk_cell BK479.out 2).trans rfl,(blk_cell BK479.out 3).trans rfl⟩ (fun hHeld=>?_)
  clear hK K
  refine norm_ (a':=?_) ?_ ?_
  rotate_left
  ·show Act.put _ (some 66) _=_
   simp only [Act.put,List.setIfInBounds_toArray,List.set_cons_zero,List.set_cons_succ,i64_w,i32_w]
   rfl
  refine zp HT_ 7 (some 67) ?_
  refine zp HT_ 8 (some 68) ?_
  refine zu HT_ 9 none (fun K hK=>?_)
  have hs41:=zl BK480 0
  have hfs41:=blk_frozen BK480.out 0
  have hns41_0:=NB479_480.out
  have hms41_0:=NB480_479.out
  have hs42:=zl BK480 1
  have hfs42:=blk_frozen BK480.out 1
  have hns42_0:=NB479_480.out
  have hms42_0:=NB480_479.out
  have hs43:=zl BK480 2
  have hfs43:=blk_frozen BK480.out 2
  have hns43_0:=NB479_480.out
  have hms43_0:=NB480_479.out
  have hs44:=zl BK480 3
  have hfs44:=blk_frozen BK480.out 3
  have hns44_0:=NB479_480.out
  have hms44_0:=NB480_479.out
  have hs45:=zl BK480 4
  have hfs45:=blk_frozen BK480.out 4
  have hns45_0:=NB479_480.out
  have hms45_0:=NB480_479.out
  have hs46:=zl BK480 5
  have hfs46:=blk_frozen BK480.out 5
  have hns46_0:=NB479_480.out
  have hms46_0:=NB480_479.out
  refine skip_ (w1:=?_) (by rfl) rfl ?_ ?_
  rotate_left
  ·go_simp
   rfl
  refine hK.out _ _ ⟨(zh hHeld),(zh hHeld),(zh hHeld),(zh hHeld)⟩ (fun hHeld=>?_)
  clear hK K
  refine zp HT_ 10 (some 3) ?_
  refine done_ (done_of HT_.out (by kernel_rfl)) ?_
  try go_wp2
  refine bodyPost_ret (results_ct rfl _ _ gb480 81 #[.int .i64 t511, .bool t512, .int .i64 t513, .int .u64 t514, .int .u64 t515, .bool t516] (0,0) _ rfl (zKp BK480) Tryz.underlying81 rfl (by kernel_rfl)) rfl ?_
  exact ⟨by first|exact z3|(simp only [← hji19];exact z3)|exact z2,zB HB⟩
 replace H:=zo H
 obtain ⟨t518,A47,H⟩:=H
 replace H:=zo H
 obtain ⟨t519,A48,H⟩:=H
 generalize hji49:(mx 0 (wrap64 ((wrap64 (t518 - t519))+66)):Int)=ji49 at H
 (try rw [hji49] at A18)
 (try rw [hji49] at A20)
 (try rw [hji49] at A47)
 (try rw [hji49] at A48)
 have hji49_:(if 0<(wrap64 ((wrap64 (t518 - t519))+66)) then (wrap64 ((wrap64 (t518 - t519))+66)) else 0)=ji49:=hji49
 replace H:=zo H
 obtain ⟨⟨t520,t523⟩,A50,H⟩:=H
 try dsimp only at H
 rcases t523 with _|q524
 replace H:=zb1 H
 try simp only [errW_none,errW_some]
 replace H:=zo H
 obtain ⟨⟨t525,t528,t531⟩,A51,H⟩:=H
 (try rw [show decide ((t528.length:Int) > 0)=decide (0<t528.length) from decide_eq_decide.2 (by omega)] at A51)
 try dsimp only at H
 rcases t531 with _|q532
 replace H:=zb1 H
 try simp only [errW_none,errW_some]
 replace H:=zo H
 obtain ⟨⟨t533,t534,t535,t536,t537,t538,t539⟩,A52,H⟩:=H
 (try rw [show decide ((t528.length:Int) > 0)=decide (0<t528.length) from decide_eq_decide.2 (by omega)] at A52)
 try dsimp only at H
 obtain ⟨rfl,rfl,rfl,rfl,rfl,rfl,rfl⟩:=zJ7 H
 rotate_left
 replace H:=zb0 H
 try simp only [Option.getD_some] at H
 try simp only [errW_none,errW_some]
 obtain ⟨rfl,rfl,rfl,rfl,rfl,rfl,rfl⟩:=zJ7 H
 rotate_left
 replace H:=zb0 H
 try simp only [Option.getD_some] at H
 try simp only [errW_none,errW_some]
 obtain ⟨rfl,rfl,rfl,rfl,rfl,rfl,rfl⟩:=zJ7 H
 rotate_left
 replace H:=zb0 H
 try simp only [Option.getD_some] at H
 try simp only [errW_none,errW_some]
 obtain ⟨rfl,rfl,rfl,rfl,rfl,rfl,rfl⟩:=zJ7 H
 rotate_left
 replace H:=zb0 H
 try simp only [Option.getD_some] at H
 try simp only [errW_none,errW_some]
 obtain ⟨rfl,rfl,rfl,rfl,rfl,rfl,rfl⟩:=zJ7 H
 rotate_left
 all_goals (go_enter Tryz.func43,Tryz.ntmps43;go_wp2_with (first|((with_reducible refine gate_dst (N:=1) rfl ?_);refine zx 1 23 #[.bool a0_0, .bool a0_1, .string a0_2, .int .i64 a0_3] ?_;intro gb479 hg w53 hbox hb;have BK479:=am (hbox);have GW479:=zG hg HB;have GE479:=zG hg HB;replace HB:=zBs HB hb;clear hb hbox hg)|((with_reducible refine gate_dst (N:=2) rfl ?_);refine zx 2 81 #[.int .i64 0, .bool false, .int .i64 0, .int .u64 0, .int .u64 0, .bool false] ?_;intro gb480 hg w54 hbox hb;have BK480:=am (hbox);have GW480:=zG hg HB;have GE480:=zG hg HB;replace HB:=zBs HB hb;have NB479_480:=zNl hg BK479;have NB480_479:=zNg hg BK479;replace BK479:=zKb BK479 hb;clear hb hbox hg;have hnb55:=NB479_480.out;have hnc55:=NB480_479.out;obtain ⟨_,_,_,_,_,_,_,_⟩:=zf4 BK479)|((with_reducible refine gate_callee (f:=94) rfl ?_);refine zc (some 36) Tryz.func94 _ (nat_Read.calls _ _ _ _ _ A18.out) ?_;rintro e w57 ⟨v496,rfl,ho0,hb⟩;refine ⟨_,rfl,?_⟩;have HO497:=am (Kd.V_lower (Kd.V_mono (ok':=fun k_=>k_≠gb479∧k_≠gb480) ho0 (fun k_ hk_=>⟨(Kd.freshB (g:=gb479) (o := .cells #[.bool a0_0, .bool a0_1, .string a0_2, .int .i64 a0_3] 23 (0,0)) (zK BK479) k_ hk_),(Kd.freshB (g:=gb480) (o := .cells #[.int .i64 0, .bool false, .int .i64 0, .int .u64 0, .int .u64 0, .bool false] 81 (0,0)) (zK BK480) k_ hk_)⟩)) (zS HB));replace BK479:=zKb BK479 hb;replace BK480:=zKb BK480 hb;replace HB:=zBs HB hb;clear hb ho0;(try simp only [errW_none,errW_some]);obtain ⟨_,_,_,_,_,_,_,_⟩:=zf4 BK479;obtain ⟨_,_,_,_,_,_,_,_,_,_,_,_⟩:=zf6 BK480)|((with_reducible refine gate_callee (f:=51) rfl ?_);refine goesL_ (some 50) rfl rfl Tryz.func51 (by kernel_rfl) rfl #[.int .i64 ji19] rfl (by (try simp only [List.map_toArray,List.map_cons,List.map_nil]);first|done|(simp only [hji19];rfl)|rfl|(simp only [List.length_drop,List.length_take];rfl)) ?_;(with_reducible refine (nat_Ten.calls _ _ _ _ _ A20.out).mono ?_);rintro e w59 ⟨v501,rfl,ho0,hb⟩;refine ⟨_,rfl,?_⟩;replace HO497:=zVb HO497 hb;have HO502:=am (Kd.V_lower (Kd.V_mono (ok':=fun k_=>k_≠gb479∧k_≠gb480) ho0 (fun k_ hk_=>⟨(Kd.freshB (g:=gb479) (o := .cells #[.bool a0_0, .bool a0_1, .string a0_2, .int .i64 a0_3] 23 (0,0)) (zK BK479) k_ hk_),(Kd.freshB (g:=gb480) (o := .cells #[.int .i64 0, .bool false, .int .i64 0, .int .u64 0, .int .u64 0, .bool false] 81 (0,0)) (zK BK480) k_ hk_)⟩)) (zS HB));replace BK479:=zKb BK479 hb;replace BK480:=zKb BK480 hb;replace HB:=zBs HB hb;clear hb ho0;(try simp only [errW_none,errW_some]);obtain ⟨_,_,_,_,_,_,_,_⟩:=zf4 BK479;obtain ⟨Ao61,co61,eo61⟩:=Kd.V_slice HO502.out;subst eo61;obtain ⟨_,_,_,_,_,_,_,_,_,_,_,_⟩:=zf6 BK480)|((with_reducible refine gate_callee (f:=96) rfl ?_);refine zc (some 70) Tryz.func96 #[.slice Ao61 t500.length co61] (nat_Bits.calls _ _ _ _ _ _ (zC ((Kd.V_reads' HO502.out).2.2)) ((Kd.V_reads' HO502.out).2.1) A47.out) ?_;rintro e w62 ⟨rfl,hb⟩;refine ⟨_,rfl,?_⟩;replace HO497:=zVb HO497 hb;replace HO502:=zVb HO502 hb;replace BK479:=zKb BK479 hb;replace BK480:=zKb BK480 hb;replace HB:=zBs HB hb;clear hb;obtain ⟨Ao63,co63,eo63⟩:=Kd.V_slice HO497.out;subst eo63)|((with_reducible refine gate_callee (f:=96) rfl ?_);refine zc (some 72) Tryz.func96 #[.slice Ao63 t495.length co63] (nat_Bits.calls _ _ _ _ _ _ (zC ((Kd.V_reads' HO497.out).2.2)) ((Kd.V_reads' HO497.out).2.1) A48.out) ?_;rintro e w64 ⟨rfl,hb⟩;refine ⟨_,rfl,?_⟩;replace HO497:=zVb HO497 hb;replace HO502:=zVb HO502 hb;replace BK479:=zKb BK479 hb;replace BK480:=zKb BK480 hb;replace HB:=zBs HB hb;clear hb)|((with_reducible refine gate_callee (f:=49) rfl ?_);refine goesL_ (some 79) rfl rfl Tryz.func49 (by kernel_rfl) rfl #[.slice Ao63 t495.length co63, .int .i64 ji49] rfl (by (try simp only [List.map_toArray,List.map_cons,List.map_nil]);first|done|(simp only [hji49];rfl)|rfl|(simp only [List.length_drop,List.length_take];rfl)) ?_;(with_reducible refine (nat_Shl.calls _ (fun k_=>(k_≠gb479∧k_≠gb480)) _ _ _ _ _ _ _ ?side1 A50.out).mono ?_);(case side1=>exact HO497.out);rintro e w65 ⟨v521,rfl,ho0,hb⟩;refine ⟨_,rfl,?_⟩;replace HO497:=zVb HO497 hb;replace HO502:=zVb HO502 hb;have HO522:=am (Kd.V_lower (Kd.V_mono (ok':=fun k_=>k_≠gb479∧k_≠gb480) ho0 (fun k_ hk_=>⟨Or.elim hk_ (fun hs_=>hs_.1) (fun hn_=>(Kd.freshB (g:=gb479) (o := .cells #[.bool a0_0, .bool a0_1, .string a0_2, .int .i64 a0_3] 23 (0,0)) (zK BK479) k_ hn_)),Or.elim hk_ (fun hs_=>hs_.2) (fun hn_=>(Kd.freshB (g:=gb480) (o := .cells #[.int .i64 0, .bool false, .int .i64 0, .int .u64 0, .int .u64 0, .bool false] 81 (0,0)) (zK BK480) k_ hn_))⟩)) (zS HB));replace BK479:=zKb BK479 hb;replace BK480:=zKb BK480 hb;replace HB:=zBs HB hb;clear hb ho0;(try simp only [errW_none,errW_some]);obtain ⟨Ao66,co66,eo66⟩:=Kd.V_slice HO522.out;subst eo66;obtain ⟨_,_,_,_,_,_,_,_,_,_,_,_⟩:=zf6 BK480)|((with_reducible refine gate_callee (f:=97) rfl ?_);refine zc (some 89) Tryz.func97 #[.slice Ao66 t520.length co66, .slice Ao61 t500.length co61] (nat_Div.calls _ (fun k_=>(k_≠gb479∧k_≠gb480)) _ _ _ (fun k_=>(k_≠gb479∧k_≠gb480)) _ _ _ _ _ _ _ HO522.out HO502.out A51.out) ?_;rintro e w67 ⟨v526,v529,rfl,ho0,ho1,hb⟩;refine ⟨_,rfl,?_⟩;replace HO497:=zVb HO497 hb;replace HO502:=zVb HO502 hb;replace HO522:=zVb HO522 hb;have HO527:=am (Kd.V_lower (Kd.V_mono (ok':=fun k_=>k_≠gb479∧k_≠gb480) ho0 (fun k_ hk_=>⟨Or.elim hk_ (fun hs_=>Or.elim hs_ (fun hs_=>hs_.1) (fun hs_=>hs_.1)) (fun hn_=>(Kd.freshB (g:=gb479) (o := .cells #[.bool a0_0, .bool a0_1, .string a0_2, .int .i64 a0_3] 23 (0,0)) (zK BK479) k_ hn_)),Or.elim hk_ (fun hs_=>Or.elim hs_ (fun hs_=>hs_.2) (fun hs_=>hs_.2)) (fun hn_=>(Kd.freshB (g:=gb480) (o := .cells #[.int .i64 0, .bool false, .int .i64 0, .int .u64 0, .int .u64 0, .bool false] 81 (0,0)) (zK BK480) k_ hn_))⟩)) (zS HB));have HO530:=am (Kd.V_lower (Kd.V_mono (ok':=fun k_=>k_≠gb479∧k_≠gb480) ho1 (fun k_ hk_=>⟨Or.elim hk_ (fun hs_=>Or.elim hs_ (fun hs_=>hs_.1) (fun hs_=>hs_.1)) (fun hn_=>(Kd.freshB (g:=gb479) (o := .cells #[.bool a0_0, .bool a0_1, .string a0_2, .int .i64 a0_3] 23 (0,0)) (zK BK479) k_ hn_)),Or.elim hk_ (fun hs_=>Or.elim hs_ (fun hs_=>hs_.2) (fun hs_=>hs_.2)) (fun hn_=>(Kd.freshB (g:=gb480) (o := .cells #[.int .i64 0, .bool false, .int .i64 0, .int .u64 0, .int .u64 0, .bool false] 81 (0,0)) (zK BK480) k_ hn_))⟩)) (zS HB));replace BK479:=zKb BK479 hb;replace BK480:=zKb BK480 hb;replace HB:=zBs HB hb;clear hb ho0 ho1;(try simp only [errW_none,errW_some]);obtain ⟨_,_,_,_,_,_,_,_⟩:=zf4 BK479;obtain ⟨Ao69,co69,eo69⟩:=Kd.V_slice HO530.out;subst eo69;obtain ⟨Ao70,co70,eo70⟩:=Kd.V_slice HO527.out;subst eo70;obtain ⟨_,_,_,_,_,_,_,_,_,_,_,_⟩:=zf6 BK480)|((with_reducible refine gate_callee (f:=95) rfl ?_);refine goesL_ (some 105) rfl rfl Tryz.func95 (by kernel_rfl) rfl #[.bool a0_1, .slice Ao70 t525.length co70, .int .i64 (wrap64 (-(ji49))), .bool (decide (0<t528.length))] rfl (by (try simp only [List.map_toArray,List.map_cons,List.map_nil]);first|done|(simp only [hji49];rfl)|rfl|(simp only [List.length_drop,List.length_take];rfl)) ?_;(with_reducible refine (text_upper.calls _ _ _ _ _ _ _ _ _ _ _ _ _ _ _ ?side1 ?side2 A52.out).mono ?_);(case side1=>repeat (first|exact (Kd.V_reads' HO527.out).2.2|(with_reducible refine Kd.C_alloc ?_ _)|(with_reducible refine Kd.C_drewN ?_ _)|(with_reducible refine Kd.C_drew ?_)));(case side2=>exact (Kd.V_reads' HO527.out).2.1);rintro e w71 ⟨rfl,hb⟩;refine ⟨_,rfl,?_⟩;replace HO497:=zVb HO497 hb;replace HO502:=zVb HO502 hb;replace HO522:=zVb HO522 hb;replace HO527:=zVb HO527 hb;replace HO530:=zVb HO530 hb;replace BK479:=zKb BK479 hb;replace BK480:=zKb BK480 hb;replace HB:=zBs HB hb;clear hb;(try simp only [errW_none,errW_some]);obtain ⟨_,_,_,_,_,_,_,_,_,_,_,_⟩:=zf6 BK480)|((with_reducible refine gate_callee (f:=93) rfl ?_);refine zc (some 22) Tryz.func93 _ (round_Make.calls _ _ _ _ _ _ _ _ _ _ _ _ _ _ A3.out) ?_;rintro e w8 ⟨rfl,hb⟩;refine ⟨_,rfl,?_⟩;replace BK479:=zKb BK479 hb;replace BK480:=zKb BK480 hb;replace HB:=zBs HB hb;clear hb;(try simp only [errW_none,errW_some]);obtain ⟨_,_,_,_,_,_,_,_,_,_,_,_⟩:=zf6 BK480)|((with_reducible refine gate_callee (f:=93) rfl ?_);refine zc (some 30) Tryz.func93 _ (round_Make.calls _ _ _ _ _ _ _ _ _ _ _ _ _ _ A11.out) ?_;rintro e w16 ⟨rfl,hb⟩;refine ⟨_,rfl,?_⟩;replace BK479:=zKb BK479 hb;replace BK480:=zKb BK480 hb;replace HB:=zBs HB hb;clear hb;(try simp only [errW_none,errW_some]);obtain ⟨_,_,_,_,_,_,_,_,_,_,_,_⟩:=zf6 BK480)))
 ·refine bodyPost_ret (results_ct rfl _ _ gb480 81 #[.int .i64 t481, .bool t482, .int .i64 t483, .int .u64 t484, .int .u64 t485, .bool t486] (0,0) _ rfl (zKp BK480) Tryz.underlying81 rfl (by kernel_rfl)) rfl ?_
  exact ⟨z2,zB HB⟩
 ·refine bodyPost_ret (results_ct rfl _ _ gb480 81 #[.int .i64 t488, .bool t489, .int .i64 t490, .int .u64 t491, .int .u64 t492, .bool t493] (0,0) _ rfl (zKp BK480) Tryz.underlying81 rfl (by kernel_rfl)) rfl ?_
  exact ⟨z2,zB HB⟩
 ·refine bodyPost_ret (results_ct rfl _ _ gb480 81 #[.int .i64 t533, .bool t534, .int .i64 t535, .int .u64 t536, .int .u64 t537, .bool t538] (0,0) _ rfl (zKp BK480) Tryz.underlying81 rfl (by kernel_rfl)) rfl ?_
  exact ⟨by first|exact z3|(simp only [← hji19, ← hji49];exact z3)|exact z2,zB HB⟩
 rotate_left
 rotate_left
 rotate_left
 rotate_left
 all_goals (refine bodyPost_ret (results_ct rfl _ _ gb480 81 #[.int .i64 0, .bool false, .int .i64 0, .int .u64 0, .int .u64 0, .bool false] (0,0) _ rfl (zKp BK480) Tryz.underlying81 rfl (by kernel_rfl)) rfl ?_)
 rotate_left
 rotate_left
 ·exact ⟨by first|exact z3|(simp only [← hji19];exact z3)|exact z2,zB HB⟩
 ·exact ⟨z2,zB HB⟩
 all_goals (exact ⟨by first|exact z3|(simp only [← hji19, ← hji49];exact z3)|exact z2,zB HB⟩)
def shape_Of.f (a0:Int):Option (Int × Int × Int × Int × Int × Option Int):=(shape_is.f a0).bind fun t541=>(if t541=true then (if 0≤(wrap64 (a0 - 1)) then (some (a0,IntKind.u64.wrap ((shl .u64 1 (wrap64 (a0 - 1))) - 1),1,shl .u64 1 (wrap64 (a0 - 1)),wrap64 ((wrap64 (4 * a0)) - 8),none)) else (none)) else (some (0,0,0,0,0,some 2)))
theorem shape_Of.calls (a0:Int) (r1:Int) (r2:Int) (r3:Int) (r4:Int) (r5:Int) (r6:Option Int) (w:World) (h:shape_Of.f a0=some (r1,r2,r3,r4,r5,r6)) :
    Calls Tryz.prog 155 #[.int .i64 a0] w fun e w'=>e = .returned (.tuple #[.agg #[.int .i64 r1, .int .u64 r2, .int .u64 r3, .int .u64 r4, .int .i64 r5],errW r6])∧Below w.heap.size w w':=by
 have hu223:=Tryz.underlying223
 have hu27:=Tryz.underlying27
 have hu64:=Tryz.underlying64
 have HB:=am (Below.refl w.heap.size w)
 have H:=am h
 unfold shape_Of.f at H
 clear h
 replace H:=zo H
 obtain ⟨t541,A2,H⟩:=H
 cases t541
 replace H:=zb0 H
 obtain ⟨rfl,rfl,rfl,rfl,rfl,rfl⟩:=zJ6 H
 rotate_left
 replace H:=zb1 H
 generalize hji4:(wrap64 (a0 - 1):Int)=ji4 at H
 (try rw [hji4] at A2)
 have hji4w:(IntKind.i64.wrap (a0 - 1))=ji4:=(i64_w _).trans hji4
 replace H:=zit H
 obtain ⟨c5b0,c5b1,H⟩:=H
 generalize hji6:(shl .u64 1 (ji4):Int)=ji6 at H
 (try rw [hji6] at A2)
 have hji6_:(IntKind.u64.wrap (1 * 2 ^ min (ji4).toNat 64))=ji6:=hji6
 have hji6z:(ji4)≤64→(IntKind.u64.wrap (1 * 2 ^ (ji4).toNat))=ji6:=shl_small hji6
 have hji6u:(IntKind.u64.wrap (2 ^ min (ji4).toNat 64))=ji6:=by have h_:=hji6_;rw [Int.one_mul] at h_;exact h_
 have hji6v:(ji4)≤64→(IntKind.u64.wrap (2 ^ (ji4).toNat))=ji6:=fun hle_=>by have h_:=hji6z hle_;rw [Int.one_mul] at h_;exact h_
 obtain ⟨rfl,rfl,rfl,rfl,rfl,rfl⟩:=zJ6 H
 rotate_left
 all_goals (go_enter Tryz.func155,Tryz.ntmps155;go_wp2_with (first|((with_reducible refine gate_dst (N:=2) rfl ?_);refine zx 2 223 #[.int .i64 0, .int .u64 0, .int .u64 0, .int .u64 0, .int .i64 0] ?_;intro gb540 hg w9 hbox hb;have BK540:=am (hbox);have GW540:=zG hg HB;have GE540:=zG hg HB;replace HB:=zBs HB hb;clear hb hbox hg)|((with_reducible refine gate_callee (f:=126) rfl ?_);refine zc (some 6) Tryz.func126 _ (shape_is.calls _ _ _ A2.out) ?_;rintro e w' ⟨rfl,⟨nd,rfl⟩⟩;refine ⟨_,rfl,?_⟩;(try (rw [drewN_self w9];generalize hq_:World.drewN w9 _=w9;have n0_:Aside0 (w9.heap[gb540]? = some (.cells #[.int .i64 0, .int .u64 0, .int .u64 0, .int .u64 0, .int .i64 0] 223 (0,0))):=⟨by rw [← hq_];exact (zK BK540)⟩;have n1_:Aside0 (Below w.heap.size w w9):=⟨by rw [← hq_];exact (zB HB)⟩;clear BK540 HB hq_;have BK540:=n0_;have HB:=n1_;clear n0_ n1_));obtain ⟨_,_,_,_,_,_,_,_,_,_⟩:=zf5 BK540)))
 ·refine bodyPost_ret (results_ct rfl _ _ gb540 223 #[.int .i64 0, .int .u64 0, .int .u64 0, .int .u64 0, .int .i64 0] (0,0) _ rfl (zKp BK540) Tryz.underlying223 rfl (by kernel_rfl)) rfl ?_
  exact ⟨z2,zB HB⟩
 refine bodyPost_ret (results_ct rfl _ _ gb540 223 #[.int .i64 a0, .int .u64 (IntKind.u64.wrap ((ji6) - 1)), .int .u64 1, .int .u64 ji6, .int .i64 (wrap64 ((wrap64 (4 * a0)) - 8))] (0,0) _ rfl (zKp BK540) Tryz.underlying223 rfl (by kernel_rfl)) rfl ?_
 exact ⟨by first|exact z3|(simp only [← hji4, ← hji6];exact z3)|exact z2,zB HB⟩
end Go.Proofs.Yy.PTx
end
