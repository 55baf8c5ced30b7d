/- Part 19 of what the proof needs. -/
import Derived.Test.YtpfnkbnepcchgaaGreatDoorKTBAP
set_option linter.unusedSimpArgs false
set_option linter.unusedVariables false
section
set_option maxHeartbeats 8000000
set_option maxRecDepth 100000
namespace Go.Proofs.Yy.PTx
open Go.RowKit Go.Proofs.Yy.Z Go.Proofs.Yw.PrintWords Go.Proofs.Yw.PrintLast Go.Proofs.Yw.PrintMore
open Go.Proofs.Yy.M
attribute [local go_sem] runx_add64 runx_sub64 eql_cc eql_nc neq_cc neq_nc
attribute [local go_sem] max2_int min2_int max_two min_two max_three min_three max_four min_four
open Go.Proofs.Yy.M
def nat_less.l0:Nat→List Int→List Int→Int→Int→Int→List Int→Int→Int→Option (Bool × List Int)
  | 0,_,_,_,_,_,_,_,_=>none
  | k+1,x0,x1,x2,x7,x8,x12,x13,x14=>if x14<x13 then (if 0≤x14 then (if x14<(x12.length:Int) then ((nat_fused.f (rd x12 x14) x2 x8 0).bind fun bt360=>(if x14<(x0.length:Int) then (if x7≤1 then (nat_less.l0 k (x0.set (x14:Int).toNat (sub64Lo (rd x0 x14) bt360.1 x7)) x1 x2 (sub64Hi (rd x0 x14) bt360.1 x7) bt360.2 x12 x13 (wrap64 (x14+1))) else (none)) else (none))) else (none)) else (none)) else (if 0≤(x1.length:Int) then (if (x1.length:Int)<(x0.length:Int) then (if x7≤1 then (some (decide ((sub64Hi (rd x0 (x1.length:Int)) x8 x7) > 0),(x0.set ((x1.length:Int):Int).toNat (sub64Lo (rd x0 (x1.length:Int)) x8 x7)))) else (none)) else (none)) else (none))
def nat_less.f (k:Nat) (l0:List Int) (l1:List Int) (a2:Int):Option (Bool × List Int):=nat_less.l0 k l0 l1 a2 0 0 l1 (l1.length:Int) 0
theorem nat_less.mono_l:∀ k,(∀ y0 y1 y2 y3 y4 y5 y6 y7,LeO (nat_less.l0 k y0 y1 y2 y3 y4 y5 y6 y7) (nat_less.l0 (k+1) y0 y1 y2 y3 y4 y5 y6 y7))
  | 0=>fun _ _ _ _ _ _ _ _ r h=>by simp [nat_less.l0] at h
  | k+1=>by
    have ih0:=nat_less.mono_l k
    · intro y0 y1 y2 y3 y4 y5 y6 y7
      unfold nat_less.l0
      repeat' (with_reducible first|exact ih0 _ _ _ _ _ _ _ _|exact zm|exact zv|refine zI ?_ ?_|refine zO ?_ fun _=>?_)
theorem nat_less.mono:∀ a0 a1 a2 k,LeO (nat_less.f k a0 a1 a2) (nat_less.f (k+1) a0 a1 a2):=by
  intro a0 a1 a2 k
  have ih0:=nat_less.mono_l k
  unfold nat_less.f
  repeat' (with_reducible first|exact ih0 _ _ _ _ _ _ _ _|exact zm|exact zv|refine zI ?_ ?_|refine zO ?_ fun _=>?_)
theorem nat_less.calls (k:Nat) (P0_:Nat→Prop) (u9000_:Value) (l0:List Int) (pre post:List Int) (A1:Option Addr) (c1:Nat) (l1:List Int) (a2:Int) (r1:Bool) (r2:List Int) (w0 w:World) (hB:Below w0.heap.size w0 w) (ho0:Wd pre post 25 w w0.heap.size P0_ u9000_ l0) (hr1:∀ W_,Kept w W_ (fun k_=>P0_ k_)→Kd.C (Kd.int .u64) W_ A1 l1.length l1) (hc1:l1.length≤c1) (h:nat_less.f k l0 l1 a2=some (r1,r2)) :
    Calls Tryz.prog 193 #[u9000_, .slice A1 l1.length c1, .int .u64 a2] w fun e w'=>e = .returned (.bool r1)∧Wd pre post 25 w' w0.heap.size (fun k_=>(P0_ k_∨w.heap.size≤k_)) u9000_ r2∧Below w0.heap.size w0 w'∧Kept w w' (fun k_=>P0_ k_):=by
 have HO0:=am (show Wd pre post 25 w w0.heap.size (fun k_=>(P0_ k_∨w.heap.size≤k_)) u9000_ l0 from Wd_mono ho0 (fun k_ hk=>(.inl hk)))
 have HR1:=am hr1
 have HC1:=am hc1
 clear hr1 hc1
 have HK:=am (Kept.refl w (fun k_=>P0_ k_))
 have HW0:=am hB.size
 have HB:=am hB
 clear hB
 have H:=am h
 unfold nat_less.f at H
 clear h
 go_enter Tryz.func193,Tryz.ntmps193
 go_wp2
 go_loopg [7,8,14] k (fun kq v7 v8 v14 w' => ∃ (x0_1:List Int) (x7_1:Int) (x8_1:Int) (x14_1:Int),v7 = .int .u64 x7_1∧v8 = .int .u64 x8_1∧v14 = .int .i64 x14_1∧Aside0 (nat_less.l0 kq x0_1 l1 a2 x7_1 x8_1 l1 (l1.length:Int) x14_1=some (r1,r2))∧Aside0 (kq≤k)∧Aside0 (Wd pre post 25 w' w0.heap.size (fun k_=>(P0_ k_∨w.heap.size≤k_)) u9000_ x0_1)∧Aside0 (Kept w w' (fun k_=>P0_ k_))∧Aside0 (Below w0.heap.size w0 w'))
 case atStart=>exact ⟨(l0),(0),(0),(0),z1,z1,z1,H,zL,⟨by (with_reducible repeat (first|apply Wd_alloc|apply Wd_drewN|apply Wd_drew));exact HO0.out⟩,⟨by repeat (first|(with_reducible first|exact HK.out|apply Kept.alloc|apply Kept.drewN|apply Kept.drew)|exact HK.out)⟩,⟨zB HB⟩⟩
 clear H
 obtain ⟨x0_1,x7_1,x8_1,x14_1,rfl,rfl,rfl,H,HK1,HO_0,HK,HB⟩:=hrel
 obtain _|k1:=gk
 ·exact zz H rfl
 simp only [nat_less.l0] at H
 replace H:=zsd H
 rcases H with ⟨c4b0,H⟩|⟨c4b0,H⟩
 replace H:=zid H
 obtain ⟨c5b0,H⟩:=H
 replace H:=zid H
 obtain ⟨c6b0,H⟩:=H
 replace H:=zo H
 obtain ⟨⟨t360,t361⟩,A7,H⟩:=H
 try dsimp only at H
 replace H:=zid H
 obtain ⟨c8b0,H⟩:=H
 replace H:=zit H
 obtain ⟨c9b0,c9b1,H⟩:=H
 generalize hy363:(x0_1.set (x14_1:Int).toNat (sub64Lo (rd x0_1 x14_1) t360 x7_1):List Int)=y363 at H
 have Ny363:=zY hy363
 clear hy363
 obtain ⟨p359,q359,ad359,rfl,hx359_0⟩:=zA (Kd.at_int (Kd.C_kept_now HR1.out HK.out) x14_1)
 rotate_left
 replace H:=zi H
 obtain ⟨c14,H⟩:=H
 have c14b0:decide (0≤(l1.length:Int))=true:=decide_eq_true c14
 have c14b1:decide (0≤l1.length)=true:=decide_eq_true (by omega)
 clear c14
 replace H:=zi H
 obtain ⟨c15,H⟩:=H
 have c15b0:decide ((l1.length:Int)<(x0_1.length:Int))=true:=decide_eq_true c15
 have c15b1:decide (l1.length<x0_1.length)=true:=decide_eq_true (Int.ofNat_lt.mp c15)
 clear c15
 replace H:=zit H
 obtain ⟨c16b0,c16b1,H⟩:=H
 generalize hy365:(x0_1.set ((l1.length:Int):Int).toNat (sub64Lo (rd x0_1 (l1.length:Int)) x8_1 x7_1):List Int)=y365 at H
 have Ny365:=zY hy365
 clear hy365
 obtain ⟨rfl,rfl⟩:=zJ2 H
 obtain ⟨Ao18,co18,eo18⟩:=Wd_slice HO_0.out
 subst eo18
 have p364:0≤((l1.length:Int):Int):=zD
 have q364:(l1.length:Int)<(x0_1.length:Int):=zD
 obtain ⟨ad364,e364,hx364_0⟩:=Kd.at_int (Wd_reads' HO_0.out).2.2 (l1.length:Int) p364 q364
 cases e364
 (try simp only [Go.IntWalk.toNatUp] at hx364_0)
 replace p364:=eq_true p364
 replace q364:=eq_true q364
 have p17:0≤((l1.length:Int):Int):=zD
 have q17:((l1.length:Int):Int)<((x0_1.length:Int):Int):=zD
 obtain ⟨go17,co17,eo17,gb17,gl17,cl17,HG17⟩:=Wd_form HO_0.out (by omega)
 (first|cases eo17|(injection eo17 with ea_ en_ ec_;(first|subst ea_|(injection ea_ with ea_;subst ea_));subst ec_;clear en_))
 have GB17:=am gb17
 have GG17:=am HG17
 clear gb17 gl17 HG17
 have HMgo17:=am (show (P0_ go17∨w.heap.size≤go17) from (Wd_ok HO_0.out))
 (first|simp only [add_plain] at hx364_0|skip)
 obtain ⟨hx17_0,hf17_0⟩:=Wd_celln HO_0.out ((l1.length:Int):Int) p17 q17
 (try simp only [Go.IntWalk.toNatUp] at hx17_0 hf17_0)
 replace p17:=eq_true p17
 replace q17:=eq_true q17
 have HP19:=Wd_putg HO_0.out ((l1.length:Int):Int) (by have h1_:=of_eq_true p17;have h2_:=of_eq_true q17;omega) (sub64Lo (rd x0_1 (l1.length:Int)) x8_1 x7_1)
 rotate_left
 all_goals (go_wp2_with (first|((with_reducible refine gate_callee (f:=166) rfl ?_);refine zc (some 23) Tryz.func166 _ (nat_fused.calls _ _ _ _ _ _ _ A7.out) ?_;rintro e w' ⟨rfl,⟨nd,rfl⟩⟩;refine ⟨_,rfl,?_⟩;(try (rw [drewN_self wr];generalize hq_:World.drewN wr _=wr;have n0_:Aside0 (Wd pre post 25 wr w0.heap.size (fun k_=>(P0_ k_∨w.heap.size≤k_)) u9000_ x0_1):=⟨by rw [← hq_];exact (by (with_reducible repeat (first|apply Wd_alloc|apply Wd_drewN|apply Wd_drew));exact HO_0.out)⟩;have n1_:Aside0 (Kept w wr (fun k_=>P0_ k_)):=⟨by rw [← hq_];exact (by repeat (first|(with_reducible first|exact HK.out|apply Kept.alloc|apply Kept.drewN|apply Kept.drew)|exact HK.out))⟩;have n2_:Aside0 (Below w0.heap.size w0 wr):=⟨by rw [← hq_];exact (zB HB)⟩;clear HO_0 HK HB hq_;have HO_0:=n0_;have HK:=n1_;have HB:=n2_;clear n0_ n1_ n2_));obtain ⟨Ao11,co11,eo11⟩:=Wd_slice HO_0.out;subst eo11;have p362:0≤(x14_1:Int):=zD;have q362:x14_1<(x0_1.length:Int):=zD;obtain ⟨ad362,e362,hx362_0⟩:=Kd.at_int (Wd_reads' HO_0.out).2.2 x14_1 p362 q362;cases e362;replace p362:=eq_true p362;replace q362:=eq_true q362;have p10:0≤(x14_1:Int):=zD;have q10:(x14_1:Int)<((x0_1.length:Int):Int):=zD;obtain ⟨go10,co10,eo10,gb10,gl10,cl10,HG10⟩:=Wd_form HO_0.out (by omega);(first|cases eo10|(injection eo10 with ea_ en_ ec_;(first|subst ea_|(injection ea_ with ea_;subst ea_));subst ec_;clear en_));have GB10:=am gb10;have GG10:=am HG10;clear gb10 gl10 HG10;have HMgo10:=am (show (P0_ go10∨w.heap.size≤go10) from (Wd_ok HO_0.out));(first|simp only [add_plain] at hx362_0|skip);obtain ⟨hx10_0,hf10_0⟩:=Wd_celln HO_0.out (x14_1:Int) p10 q10;replace p10:=eq_true p10;replace q10:=eq_true q10;obtain ⟨hy12_,hz12_⟩:=Wd_celln HO_0.out (x14_1:Int) (zD) (zD);have HP12:=Wd_putg HO_0.out (x14_1:Int) (by have h1_:=of_eq_true p10;have h2_:=of_eq_true q10;omega) (sub64Lo (rd x0_1 x14_1) t360 x7_1))|((with_reducible refine gate_callee (f:=215) rfl ?_);refine goesX_ (some 35) rfl rfl #[.int .u64 (rd x0_1 x14_1), .int .u64 t360, .int .u64 x7_1] _ rfl (by (try simp only [List.map_toArray,List.map_cons,List.map_nil]);rfl) (fun w_=>runx_sub64 (rd x0_1 x14_1) t360 x7_1 (by first|decide|(with_reducible assumption)|exact zD) w_) ?_)|((with_reducible refine gate_store (t:=25) (p:=38) rfl ?_);refine store_event (t:=25) (p:=38) (v:=?vo_w13) (w1:=(wr.setCell ⟨go10,pre.length+(x14_1:Int).toNat,none⟩ (.int .u64 (sub64Lo (rd x0_1 x14_1) t360 x7_1)))) ?hg ?ho ?hn ?hr ?_;(case ho=>rfl);(case hg=>rfl);(case hn=>rfl);(case hr=>first|(go_simp;done)|(go_simp;rfl));intro w13 hw;have hg:wr.grownBy w13 (some go10):=(by rw [hw];exact HP12.2);have hp_:Wd pre post 25 w13 w0.heap.size (fun k_=>(P0_ k_∨w.heap.size≤k_)) (.slice (some ⟨go10,pre.length,none⟩) x0_1.length co11) y363:=(by rw [hw,Ny363.out];exact HP12.1);clear HP12;replace HB:=am ((by rw [hw];exact below_set (HB.out) GB10.out:Below w0.heap.size w0 w13));replace HK:=am (Kept.of_grown (S:=(fun k_=>P0_ k_)) hg (by repeat (first|(with_reducible first|exact HK.out|apply Kept.alloc|apply Kept.drewN|apply Kept.drew)|exact HK.out)) (fun k_ e_=>(by injection e_ with e_;rw [← e_];exact Wd_ok HO_0.out)));replace HO_0:=am (hp_);clear hg hw hp_)|((with_reducible refine gate_callee (f:=215) rfl ?_);refine goesX_ (some 51) rfl rfl #[.int .u64 (rd x0_1 (l1.length:Int)), .int .u64 x8_1, .int .u64 x7_1] _ rfl (by (try simp only [List.map_toArray,List.map_cons,List.map_nil]);rfl) (fun w_=>runx_sub64 (rd x0_1 (l1.length:Int)) x8_1 x7_1 (by first|decide|(with_reducible assumption)|exact zD) w_) ?_)|((with_reducible refine gate_store (t:=25) (p:=54) rfl ?_);refine store_event (t:=25) (p:=54) (v:=?vo_w20) (w1:=(wr.setCell ⟨go17,pre.length+((l1.length:Int):Int).toNat,none⟩ (.int .u64 (sub64Lo (rd x0_1 (l1.length:Int)) x8_1 x7_1)))) ?hg ?ho ?hn ?hr ?_;(case ho=>rfl);(case hg=>rfl);(case hn=>rfl);(case hr=>first|(go_simp;done)|(go_simp;rfl));intro w20 hw;have hg:wr.grownBy w20 (some go17):=(by rw [hw];exact HP19.2);have hp_:Wd pre post 25 w20 w0.heap.size (fun k_=>(P0_ k_∨w.heap.size≤k_)) (.slice (some ⟨go17,pre.length,none⟩) x0_1.length co18) y365:=(by rw [hw,Ny365.out];exact HP19.1);clear HP19;replace HB:=am ((by rw [hw];exact below_set (HB.out) GB17.out:Below w0.heap.size w0 w20));replace HK:=am (Kept.of_grown (S:=(fun k_=>P0_ k_)) hg (by repeat (first|(with_reducible first|exact HK.out|apply Kept.alloc|apply Kept.drewN|apply Kept.drew)|exact HK.out)) (fun k_ e_=>(by injection e_ with e_;rw [← e_];exact Wd_ok HO_0.out)));replace HO_0:=am (hp_);clear hg hw hp_)))
 ·go_roundg k1
  case measure=>have:=HK1.out;omega
  case rel=>exact ⟨(y363),(sub64Hi (rd x0_1 x14_1) t360 x7_1),(t361),(wrap64 (x14_1+1)),z1,z1,z1,H,(zH HK1),⟨by (with_reducible repeat (first|apply Wd_alloc|apply Wd_drewN|apply Wd_drew));exact HO_0.out⟩,⟨by repeat (first|(with_reducible first|exact HK.out|apply Kept.alloc|apply Kept.drewN|apply Kept.drew)|exact HK.out)⟩,⟨zB HB⟩⟩
 go_ret
 exact ⟨z2,by (with_reducible repeat (first|apply Wd_alloc|apply Wd_drewN|apply Wd_drew));exact HO_0.out,zB HB,by repeat (first|(with_reducible first|exact HK.out|apply Kept.alloc|apply Kept.drewN|apply Kept.drew)|exact HK.out)⟩
def nat_back.l0:Nat→List Int→List Int→Int→List Int→Int→Int→Option (Bool × List Int)
  | 0,_,_,_,_,_,_=>none
  | k+1,x0,x1,x5,x8,x9,x10=>if x10<x9 then (if 0≤x10 then (if x10<(x8.length:Int) then (if x10<(x0.length:Int) then (if x5≤1 then (nat_back.l0 k (x0.set (x10:Int).toNat (add64Lo (rd x0 x10) (rd x8 x10) x5)) x1 (add64Hi (rd x0 x10) (rd x8 x10) x5) x8 x9 (wrap64 (x10+1))) else (none)) else (none)) else (none)) else (none)) else (if 0≤(x1.length:Int) then (if (x1.length:Int)<(x0.length:Int) then (if x5≤1 then (some (decide ((add64Hi (rd x0 (x1.length:Int)) 0 x5) > 0),(x0.set ((x1.length:Int):Int).toNat (add64Lo (rd x0 (x1.length:Int)) 0 x5)))) else (none)) else (none)) else (none))
def nat_back.f (k:Nat) (l0:List Int) (l1:List Int):Option (Bool × List Int):=nat_back.l0 k l0 l1 0 l1 (l1.length:Int) 0
theorem nat_back.mono_l:∀ k,(∀ y0 y1 y2 y3 y4 y5,LeO (nat_back.l0 k y0 y1 y2 y3 y4 y5) (nat_back.l0 (k+1) y0 y1 y2 y3 y4 y5))
  | 0=>fun _ _ _ _ _ _ r h=>by simp [nat_back.l0] at h
  | k+1=>by
    have ih0:=nat_back.mono_l k
    · intro y0 y1 y2 y3 y4 y5
      unfold nat_back.l0
      repeat' (with_reducible first|exact ih0 _ _ _ _ _ _|exact zm|exact zv|refine zI ?_ ?_|refine zO ?_ fun _=>?_)
theorem nat_back.mono:∀ a0 a1 k,LeO (nat_back.f k a0 a1) (nat_back.f (k+1) a0 a1):=by
  intro a0 a1 k
  have ih0:=nat_back.mono_l k
  unfold nat_back.f
  repeat' (with_reducible first|exact ih0 _ _ _ _ _ _|exact zm|exact zv|refine zI ?_ ?_|refine zO ?_ fun _=>?_)
theorem nat_back.calls (k:Nat) (P0_:Nat→Prop) (u9000_:Value) (l0:List Int) (pre post:List Int) (A1:Option Addr) (c1:Nat) (l1:List Int) (r1:Bool) (r2:List Int) (w0 w:World) (hB:Below w0.heap.size w0 w) (ho0:Wd pre post 25 w w0.heap.size P0_ u9000_ l0) (hr1:∀ W_,Kept w W_ (fun k_=>P0_ k_)→Kd.C (Kd.int .u64) W_ A1 l1.length l1) (hc1:l1.length≤c1) (h:nat_back.f k l0 l1=some (r1,r2)) :
    Calls Tryz.prog 194 #[u9000_, .slice A1 l1.length c1] w fun e w'=>e = .returned (.bool r1)∧Wd pre post 25 w' w0.heap.size (fun k_=>(P0_ k_∨w.heap.size≤k_)) u9000_ r2∧Below w0.heap.size w0 w'∧Kept w w' (fun k_=>P0_ k_):=by
 have HO0:=am (show Wd pre post 25 w w0.heap.size (fun k_=>(P0_ k_∨w.heap.size≤k_)) u9000_ l0 from Wd_mono ho0 (fun k_ hk=>(.inl hk)))
 have HR1:=am hr1
 have HC1:=am hc1
 clear hr1 hc1
 have HK:=am (Kept.refl w (fun k_=>P0_ k_))
 have HW0:=am hB.size
 have HB:=am hB
 clear hB
 have H:=am h
 unfold nat_back.f at H
 clear h
 go_enter Tryz.func194,Tryz.ntmps194
 go_wp2
 go_loopg [5,10] k (fun kq v5 v10 w' => ∃ (x0_1:List Int) (x5_1:Int) (x10_1:Int),v5 = .int .u64 x5_1∧v10 = .int .i64 x10_1∧Aside0 (nat_back.l0 kq x0_1 l1 x5_1 l1 (l1.length:Int) x10_1=some (r1,r2))∧Aside0 (kq≤k)∧Aside0 (Wd pre post 25 w' w0.heap.size (fun k_=>(P0_ k_∨w.heap.size≤k_)) u9000_ x0_1)∧Aside0 (Kept w w' (fun k_=>P0_ k_))∧Aside0 (Below w0.heap.size w0 w'))
 case atStart=>exact ⟨(l0),(0),(0),z1,z1,H,zL,⟨by (with_reducible repeat (first|apply Wd_alloc|apply Wd_drewN|apply Wd_drew));exact HO0.out⟩,⟨by repeat (first|(with_reducible first|exact HK.out|apply Kept.alloc|apply Kept.drewN|apply Kept.drew)|exact HK.out)⟩,⟨zB HB⟩⟩
 clear H
 obtain ⟨x0_1,x5_1,x10_1,rfl,rfl,H,HK1,HO_0,HK,HB⟩:=hrel
 obtain _|k1:=gk
 ·exact zz H rfl
 simp only [nat_back.l0] at H
 replace H:=zsd H
 rcases H with ⟨c3b0,H⟩|⟨c3b0,H⟩
 replace H:=zid H
 obtain ⟨c4b0,H⟩:=H
 replace H:=zid H
 obtain ⟨c5b0,H⟩:=H
 replace H:=zid H
 obtain ⟨c6b0,H⟩:=H
 replace H:=zit H
 obtain ⟨c7b0,c7b1,H⟩:=H
 generalize hy368:(x0_1.set (x10_1:Int).toNat (add64Lo (rd x0_1 x10_1) (rd l1 x10_1) x5_1):List Int)=y368 at H
 have Ny368:=zY hy368
 clear hy368
 obtain ⟨p366,q366,ad366,rfl,hx366_0⟩:=zA (Kd.at_int (Kd.C_kept_now HR1.out HK.out) x10_1)
 obtain ⟨Ao9,co9,eo9⟩:=Wd_slice HO_0.out
 subst eo9
 obtain ⟨p367,q367,ad367,rfl,hx367_0⟩:=zA (Kd.at_int (Wd_reads' HO_0.out).2.2 x10_1)
 have p8:0≤(x10_1:Int):=zD
 have q8:(x10_1:Int)<((x0_1.length:Int):Int):=zD
 obtain ⟨go8,co8,eo8,gb8,gl8,cl8,HG8⟩:=Wd_form HO_0.out (by omega)
 (first|cases eo8|(injection eo8 with ea_ en_ ec_;(first|subst ea_|(injection ea_ with ea_;subst ea_));subst ec_;clear en_))
 have GB8:=am gb8
 have GG8:=am HG8
 clear gb8 gl8 HG8
 have HMgo8:=am (show (P0_ go8∨w.heap.size≤go8) from (Wd_ok HO_0.out))
 (first|simp only [add_plain] at hx367_0|skip)
 obtain ⟨hx8_0,hf8_0⟩:=Wd_celln HO_0.out (x10_1:Int) p8 q8
 replace p8:=eq_true p8
 replace q8:=eq_true q8
 have HP10:=Wd_putg HO_0.out (x10_1:Int) (by have h1_:=of_eq_true p8;have h2_:=of_eq_true q8;omega) (add64Lo (rd x0_1 x10_1) (rd l1 x10_1) x5_1)
 rotate_left
 replace H:=zi H
 obtain ⟨c12,H⟩:=H
 have c12b0:decide (0≤(l1.length:Int))=true:=decide_eq_true c12
 have c12b1:decide (0≤l1.length)=true:=decide_eq_true (by omega)
 clear c12
 replace H:=zi H
 obtain ⟨c13,H⟩:=H
 have c13b0:decide ((l1.length:Int)<(x0_1.length:Int))=true:=decide_eq_true c13
 have c13b1:decide (l1.length<x0_1.length)=true:=decide_eq_true (Int.ofNat_lt.mp c13)
 clear c13
 replace H:=zit H
 obtain ⟨c14b0,c14b1,H⟩:=H
 generalize hy370:(x0_1.set ((l1.length:Int):Int).toNat (add64Lo (rd x0_1 (l1.length:Int)) 0 x5_1):List Int)=y370 at H
 have Ny370:=zY hy370
 clear hy370
 obtain ⟨rfl,rfl⟩:=zJ2 H
 obtain ⟨Ao16,co16,eo16⟩:=Wd_slice HO_0.out
 subst eo16
 have p369:0≤((l1.length:Int):Int):=zD
 have q369:(l1.length:Int)<(x0_1.length:Int):=zD
 obtain ⟨ad369,e369,hx369_0⟩:=Kd.at_int (Wd_reads' HO_0.out).2.2 (l1.length:Int) p369 q369
 cases e369
 (try simp only [Go.IntWalk.toNatUp] at hx369_0)
 replace p369:=eq_true p369
 replace q369:=eq_true q369
 have p15:0≤((l1.length:Int):Int):=zD
 have q15:((l1.length:Int):Int)<((x0_1.length:Int):Int):=zD
 obtain ⟨go15,co15,eo15,gb15,gl15,cl15,HG15⟩:=Wd_form HO_0.out (by omega)
 (first|cases eo15|(injection eo15 with ea_ en_ ec_;(first|subst ea_|(injection ea_ with ea_;subst ea_));subst ec_;clear en_))
 have GB15:=am gb15
 have GG15:=am HG15
 clear gb15 gl15 HG15
 have HMgo15:=am (show (P0_ go15∨w.heap.size≤go15) from (Wd_ok HO_0.out))
 (first|simp only [add_plain] at hx369_0|skip)
 obtain ⟨hx15_0,hf15_0⟩:=Wd_celln HO_0.out ((l1.length:Int):Int) p15 q15
 (try simp only [Go.IntWalk.toNatUp] at hx15_0 hf15_0)
 replace p15:=eq_true p15
 replace q15:=eq_true q15
 have HP17:=Wd_putg HO_0.out ((l1.length:Int):Int) (by have h1_:=of_eq_true p15;have h2_:=of_eq_true q15;omega) (add64Lo (rd x0_1 (l1.length:Int)) 0 x5_1)
 rotate_left
 all_goals (go_wp2_with (first|((with_reducible refine gate_callee (f:=191) rfl ?_);refine goesX_ (some 24) rfl rfl #[.int .u64 (rd x0_1 x10_1), .int .u64 (rd l1 x10_1), .int .u64 x5_1] _ rfl (by (try simp only [List.map_toArray,List.map_cons,List.map_nil]);rfl) (fun w_=>runx_add64 (rd x0_1 x10_1) (rd l1 x10_1) x5_1 (by first|decide|(with_reducible assumption)|exact zD) w_) ?_)|((with_reducible refine gate_store (t:=25) (p:=27) rfl ?_);refine store_event (t:=25) (p:=27) (v:=?vo_w11) (w1:=(wr.setCell ⟨go8,pre.length+(x10_1:Int).toNat,none⟩ (.int .u64 (add64Lo (rd x0_1 x10_1) (rd l1 x10_1) x5_1)))) ?hg ?ho ?hn ?hr ?_;(case ho=>rfl);(case hg=>rfl);(case hn=>rfl);(case hr=>first|(go_simp;done)|(go_simp;rfl));intro w11 hw;have hg:wr.grownBy w11 (some go8):=(by rw [hw];exact HP10.2);have hp_:Wd pre post 25 w11 w0.heap.size (fun k_=>(P0_ k_∨w.heap.size≤k_)) (.slice (some ⟨go8,pre.length,none⟩) x0_1.length co9) y368:=(by rw [hw,Ny368.out];exact HP10.1);clear HP10;replace HB:=am ((by rw [hw];exact below_set (HB.out) GB8.out:Below w0.heap.size w0 w11));replace HK:=am (Kept.of_grown (S:=(fun k_=>P0_ k_)) hg (by repeat (first|(with_reducible first|exact HK.out|apply Kept.alloc|apply Kept.drewN|apply Kept.drew)|exact HK.out)) (fun k_ e_=>(by injection e_ with e_;rw [← e_];exact Wd_ok HO_0.out)));replace HO_0:=am (hp_);clear hg hw hp_)|((with_reducible refine gate_callee (f:=191) rfl ?_);refine goesX_ (some 39) rfl rfl #[.int .u64 (rd x0_1 (l1.length:Int)), .int .u64 0, .int .u64 x5_1] _ rfl (by (try simp only [List.map_toArray,List.map_cons,List.map_nil]);rfl) (fun w_=>runx_add64 (rd x0_1 (l1.length:Int)) 0 x5_1 (by first|decide|(with_reducible assumption)|exact zD) w_) ?_)|((with_reducible refine gate_store (t:=25) (p:=42) rfl ?_);refine store_event (t:=25) (p:=42) (v:=?vo_w18) (w1:=(wr.setCell ⟨go15,pre.length+((l1.length:Int):Int).toNat,none⟩ (.int .u64 (add64Lo (rd x0_1 (l1.length:Int)) 0 x5_1)))) ?hg ?ho ?hn ?hr ?_;(case ho=>rfl);(case hg=>rfl);(case hn=>rfl);(case hr=>first|(go_simp;done)|(go_simp;rfl));intro w18 hw;have hg:wr.grownBy w18 (some go15):=(by rw [hw];exact HP17.2);have hp_:Wd pre post 25 w18 w0.heap.size (fun k_=>(P0_ k_∨w.heap.size≤k_)) (.slice (some ⟨go15,pre.length,none⟩) x0_1.length co16) y370:=(by rw [hw,Ny370.out];exact HP17.1);clear HP17;replace HB:=am ((by rw [hw];exact below_set (HB.out) GB15.out:Below w0.heap.size w0 w18));replace HK:=am (Kept.of_grown (S:=(fun k_=>P0_ k_)) hg (by repeat (first|(with_reducible first|exact HK.out|apply Kept.alloc|apply Kept.drewN|apply Kept.drew)|exact HK.out)) (fun k_ e_=>(by injection e_ with e_;rw [← e_];exact Wd_ok HO_0.out)));replace HO_0:=am (hp_);clear hg hw hp_)))
 ·go_roundg k1
  case measure=>have:=HK1.out;omega
  case rel=>exact ⟨(y368),(add64Hi (rd x0_1 x10_1) (rd l1 x10_1) x5_1),(wrap64 (x10_1+1)),z1,z1,H,(zH HK1),⟨by (with_reducible repeat (first|apply Wd_alloc|apply Wd_drewN|apply Wd_drew));exact HO_0.out⟩,⟨by repeat (first|(with_reducible first|exact HK.out|apply Kept.alloc|apply Kept.drewN|apply Kept.drew)|exact HK.out)⟩,⟨zB HB⟩⟩
 go_ret
 exact ⟨z2,by (with_reducible repeat (first|apply Wd_alloc|apply Wd_drewN|apply Wd_drew));exact HO_0.out,zB HB,by repeat (first|(with_reducible first|exact HK.out|apply Kept.alloc|apply Kept.drewN|apply Kept.drew)|exact HK.out)⟩
end Go.Proofs.Yy.PTx
end
section
namespace Go.Proofs.Yy.PTx
open Go.RowKit Go.Proofs.Yw.PrintWords Go.Proofs.Yw.PrintLast Go.Proofs.Yw.PrintMore Go.Proofs.Yy.M
theorem window_split (X:List Int) {lo hi:Int} (h0:0≤lo) (h1:lo<hi) (h2:hi≤(X.length:Int)):X.take lo.toNat ++ (X.take hi.toNat).drop lo.toNat ++ X.drop hi.toNat=X:=by
 have e:(X.take hi.toNat).take lo.toNat=X.take lo.toNat:=by rw [List.take_take,Nat.min_eq_left (by omega)]
 rw [← e,List.take_append_drop,List.take_append_drop]
theorem window_len (X:List Int) {lo hi:Int} (h0:0≤lo) (h1:lo<hi) (h2:hi≤(X.length:Int)):((X.take hi.toNat).drop lo.toNat).length=hi.toNat - lo.toNat:=by
 rw [List.length_drop,List.length_take];omega
def nat_lessW.f (k:Nat) (l0:List Int) (a1 a2:Int) (l3:List Int) (a4:Int):Option (Bool × List Int) :=
 if 0≤a1∧a1<a2∧a2≤(l0.length:Int) then (nat_less.f k ((l0.take a2.toNat).drop a1.toNat) l3 a4).bind fun b=>some (b.1,l0.take a1.toNat ++ b.2 ++ l0.drop a2.toNat) else none
theorem nat_lessW.mono:∀ a0 a1 a2 a3 a4 k,LeO (nat_lessW.f k a0 a1 a2 a3 a4) (nat_lessW.f (k+1) a0 a1 a2 a3 a4):=by
 intro a0 a1 a2 a3 a4 k
 unfold nat_lessW.f
 exact LeO.ite (LeO.bind (nat_less.mono _ _ _ _) (fun _=>LeO.refl _)) (LeO.refl _)
def nat_backW.f (k:Nat) (l0:List Int) (a1 a2:Int) (l3:List Int):Option (Bool × List Int) :=
 if 0≤a1∧a1<a2∧a2≤(l0.length:Int) then (nat_back.f k ((l0.take a2.toNat).drop a1.toNat) l3).bind fun b=>some (b.1,l0.take a1.toNat ++ b.2 ++ l0.drop a2.toNat) else none
theorem nat_backW.mono:∀ a0 a1 a2 a3 k,LeO (nat_backW.f k a0 a1 a2 a3) (nat_backW.f (k+1) a0 a1 a2 a3):=by
 intro a0 a1 a2 a3 k
 unfold nat_backW.f
 exact LeO.ite (LeO.bind (nat_back.mono _ _ _) (fun _=>LeO.refl _)) (LeO.refl _)
theorem window_of {w:World} {base:Nat} {ok:Nat→Prop} {u:Value} {X:List Int} {lo hi:Int} (h0:0≤lo) (h1:lo<hi) (h2:hi≤(X.length:Int)) (h:Kd.R (Kd.int .u64) 25 w base ok u X) :
  ∃ c,winV u lo hi = .slice (some ⟨(match u with | .slice (some ⟨g,_,_⟩) _ _=>g|_=>0),lo.toNat,none⟩) (hi.toNat - lo.toNat) c∧Wd (X.take lo.toNat) (X.drop hi.toNat) 25 w base ok (winV u lo hi) ((X.take hi.toNat).drop lo.toNat) ∧
   ∀ (w':World) (ok':Nat→Prop) (r:List Int),Wd (X.take lo.toNat) (X.drop hi.toNat) 25 w' base ok' (winV u lo hi) r→Kd.R (Kd.int .u64) 25 w' base ok' u (X.take lo.toNat ++ r ++ X.drop hi.toNat):=by
 obtain ⟨g,cap,rfl,hb,hl,hcells⟩:=Kd.R_form h (by omega)
 obtain ⟨_,hle,_⟩:=Kd.R_reads' h
 have hs:=window_split X h0 h1 h2
 have hn:=window_len X h0 h1 h2
 have hp:(X.take lo.toNat).length=lo.toNat:=by rw [List.length_take];omega
 have hcap:lo.toNat+(cap - lo.toNat)=cap:=by omega
 refine ⟨cap - lo.toNat,rfl,?_,fun w' ok' r hr=>?_⟩
 ·have h':Kd.R (Kd.int .u64) 25 w base ok (.slice (some ⟨g,0,none⟩) (X.take lo.toNat ++ (X.take hi.toNat).drop lo.toNat ++ X.drop hi.toNat).length ((X.take lo.toNat).length+(cap - lo.toNat))) (X.take lo.toNat ++ (X.take hi.toNat).drop lo.toNat ++ X.drop hi.toNat):=by
   rw [hs,hp,hcap];exact h
  have:=Wd_of h' (by omega)
  rw [hp,hn] at this
  exact this
 ·obtain ⟨A,c2,e2⟩:=Wd_slice hr
  have hlen:r.length=hi.toNat - lo.toNat:=by
   have e3:Value.slice (some ⟨g,lo.toNat,none⟩) (hi.toNat - lo.toNat) (cap - lo.toNat) = .slice A r.length c2:=e2
   injection e3 with _ e4 _
   exact e4.symm
  have hb2:=Wd_back (show Wd (X.take lo.toNat) (X.drop hi.toNat) 25 w' base ok' (.slice (some ⟨g,lo.toNat,none⟩) (hi.toNat - lo.toNat) (cap - lo.toNat)) r from hr)
  have hX:(X.take lo.toNat ++ r ++ X.drop hi.toNat).length=X.length:=by
   rw [List.length_append,List.length_append,List.length_take,List.length_drop,hlen];omega
  rw [hX,hp,hcap] at hb2
  exact hb2
theorem nat_lessW.calls (k:Nat) (P0_:Nat→Prop) (u9000_:Value) (l0:List Int) (a1 a2:Int) (A3:Option Addr) (c3:Nat) (l3:List Int) (a4:Int) (r1:Bool) (r2:List Int) (w0 w:World) (hB:Below w0.heap.size w0 w) (ho0:Kd.R (Kd.int .u64) 25 w w0.heap.size P0_ u9000_ l0) (hr3:∀ W_,Kept w W_ (fun k_=>P0_ k_)→Kd.C (Kd.int .u64) W_ A3 l3.length l3) (hc3:l3.length≤c3) (h:nat_lessW.f k l0 a1 a2 l3 a4=some (r1,r2)) {uw:Value} (hw:uw=winV u9000_ a1 a2:=by with_unfolding_all rfl) :
  Calls Tryz.prog 193 #[uw, .slice A3 l3.length c3, .int .u64 a4] w fun e w'=>e = .returned (.bool r1)∧Kd.R (Kd.int .u64) 25 w' w0.heap.size (fun k_=>(P0_ k_∨w.heap.size≤k_)) u9000_ r2∧Below w0.heap.size w0 w'∧Kept w w' (fun k_=>P0_ k_):=by
 subst hw
 unfold nat_lessW.f at h
 by_cases hg:0≤a1∧a1<a2∧a2≤(l0.length:Int)
 case neg=>rw [if_neg hg] at h;exact absurd h (by simp)
 rw [if_pos hg] at h
 obtain ⟨⟨b1,b2⟩,hb,h⟩:=Option.bind_eq_some_iff.mp h
 simp only [Option.some.injEq,Prod.mk.injEq] at h
 obtain ⟨rfl,rfl⟩:=h
 obtain ⟨c,_,hW,hback⟩:=window_of hg.1 hg.2.1 hg.2.2 ho0
 refine (nat_less.calls k P0_ _ _ _ _ A3 c3 l3 a4 b1 b2 w0 w hB hW hr3 hc3 hb).mono ?_
 rintro e w' ⟨he,h1,h2,h3⟩
 exact ⟨he,hback w' _ b2 h1,h2,h3⟩
theorem nat_backW.calls (k:Nat) (P0_:Nat→Prop) (u9000_:Value) (l0:List Int) (a1 a2:Int) (A3:Option Addr) (c3:Nat) (l3:List Int) (r1:Bool) (r2:List Int) (w0 w:World) (hB:Below w0.heap.size w0 w) (ho0:Kd.R (Kd.int .u64) 25 w w0.heap.size P0_ u9000_ l0) (hr3:∀ W_,Kept w W_ (fun k_=>P0_ k_)→Kd.C (Kd.int .u64) W_ A3 l3.length l3) (hc3:l3.length≤c3) (h:nat_backW.f k l0 a1 a2 l3=some (r1,r2)) {uw:Value} (hw:uw=winV u9000_ a1 a2:=by with_unfolding_all rfl) :
  Calls Tryz.prog 194 #[uw, .slice A3 l3.length c3] w fun e w'=>e = .returned (.bool r1)∧Kd.R (Kd.int .u64) 25 w' w0.heap.size (fun k_=>(P0_ k_∨w.heap.size≤k_)) u9000_ r2∧Below w0.heap.size w0 w'∧Kept w w' (fun k_=>P0_ k_):=by
 subst hw
 unfold nat_backW.f at h
 by_cases hg:0≤a1∧a1<a2∧a2≤(l0.length:Int)
 case neg=>rw [if_neg hg] at h;exact absurd h (by simp)
 rw [if_pos hg] at h
 obtain ⟨⟨b1,b2⟩,hb,h⟩:=Option.bind_eq_some_iff.mp h
 simp only [Option.some.injEq,Prod.mk.injEq] at h
 obtain ⟨rfl,rfl⟩:=h
 obtain ⟨c,_,hW,hback⟩:=window_of hg.1 hg.2.1 hg.2.2 ho0
 refine (nat_back.calls k P0_ _ _ _ _ A3 c3 l3 b1 b2 w0 w hB hW hr3 hc3 hb).mono ?_
 rintro e w' ⟨he,h1,h2,h3⟩
 exact ⟨he,hback w' _ b2 h1,h2,h3⟩
end Go.Proofs.Yy.PTx
end
