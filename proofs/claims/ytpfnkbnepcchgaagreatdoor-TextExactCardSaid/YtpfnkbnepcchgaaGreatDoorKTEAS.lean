/- Part 19 of what the proof needs. -/
import Derived.Test.YtpfnkbnepcchgaaGreatDoorKTEAP
set_option linter.unusedSimpArgs false
set_option linter.unusedVariables false
section
set_option maxHeartbeats 8000000
set_option maxRecDepth 100000
namespace Go.Proofs.Yy.PTx
open Go.RowKit Go.Proofs.Yy.Z Go.Proofs.Yw.PrintWords Go.Proofs.Yw.PrintLast Go.Proofs.Yw.PrintMore
open Go.Proofs.Yy.M
attribute [local go_sem] dw dQ lD lF lC lG
attribute [local go_sem] gy gz ja jc fC fD gQ gK
open Go.Proofs.Yy.M
def pX.l0:Nat→List Int→List Int→Int→Int→Int→List Int→Int→Int→Option (Bool × List Int)
  | 0,_,_,_,_,_,_,_,_=>none
  | k+1,x0,x1,x2,x7,x8,x12,x13,x14=>if x14<x13 then (if 0≤x14 then (if x14<(x12.length:Int) then ((oH.f (rd x12 x14) x2 x8 0).bind fun adh=>(if x14<(x0.length:Int) then (if x7≤1 then (pX.l0 k (x0.set (x14:Int).toNat (lI (rd x0 x14) adh.1 x7)) x1 x2 (oL (rd x0 x14) adh.1 x7) adh.2 x12 x13 (wrap64 (x14+1))) else (none)) else (none))) else (none)) else (none)) else (if 0≤(x1.length:Int) then (if (x1.length:Int)<(x0.length:Int) then (if x7≤1 then (some (decide ((oL (rd x0 (x1.length:Int)) x8 x7) > 0),(x0.set ((x1.length:Int):Int).toNat (lI (rd x0 (x1.length:Int)) x8 x7)))) else (none)) else (none)) else (none))
def pX.f (k:Nat) (l0:List Int) (l1:List Int) (a2:Int):Option (Bool × List Int):=pX.l0 k l0 l1 a2 0 0 l1 (l1.length:Int) 0
theorem pX.calls (k:Nat) (P0_:Nat→Prop) (l7:Value) (l0:List Int) (pre post:List Int) (A1:Option Addr) (c1:Nat) (l1:List Int) (a2:Int) (r1:Bool) (r2:List Int) (w0 w:World) (hB:Below w0.heap.size w0 w) (ho0:Wd pre post 25 w w0.heap.size P0_ l7 l0) (hr1:∀ W_,Kept w W_ (fun k_=>P0_ k_)→Kd.C (Kd.int .u64) W_ A1 l1.length l1) (hc1:l1.length≤c1) (h:pX.f k l0 l1 a2=some (r1,r2)) :
    Calls Tryz.prog 193 #[l7, .slice A1 l1.length c1, .int .u64 a2] w fun e w'=>e = .returned (.bool r1)∧Wd pre post 25 w' w0.heap.size (fun k_=>(P0_ k_∨w.heap.size≤k_)) l7 r2∧Below w0.heap.size w0 w'∧Kept w w' (fun k_=>P0_ k_):=by
 have HO0:=am (show Wd pre post 25 w w0.heap.size (fun k_=>(P0_ k_∨w.heap.size≤k_)) l7 l0 from Ri ho0 (fun k_ hk=>(.inl hk)))
 have HR1:=am hr1
 have HC1:=am hc1
 clear hr1 hc1
 have HK:=am (Kept.refl w (fun k_=>P0_ k_))
 have HW0:=am hB.size
 have HB:=am hB
 clear hB
 have H:=am h
 unfold pX.f at H
 clear h
 go_enter Tryz.func193,Tryz.ntmps193
 go_wp2
 go_loopg [7,8,14] k (fun kq v7 v8 v14 w' => ∃ (kW:List Int) (kR:Int) (kS:Int) (jk:Int),v7 = .int .u64 kR∧v8 = .int .u64 kS∧v14 = .int .i64 jk∧ae (pX.l0 kq kW l1 a2 kR kS l1 (l1.length:Int) jk=some (r1,r2))∧ae (kq≤k)∧ae (Wd pre post 25 w' w0.heap.size (fun k_=>(P0_ k_∨w.heap.size≤k_)) l7 kW)∧ae (Kept w w' (fun k_=>P0_ k_))∧ae (Below w0.heap.size w0 w'))
 case atStart=>exact ⟨(l0),(0),(0),(0),z1,z1,z1,H,zL,⟨by (with_reducible repeat (first|apply uj|apply uk|apply xk));exact HO0.out⟩,⟨by repeat (first|(with_reducible first|exact HK.out|apply Kept.alloc|apply Kept.drewN|apply Kept.drew)|exact HK.out)⟩,⟨zB HB⟩⟩
 clear H
 obtain ⟨kW,kR,kS,jk,rfl,rfl,rfl,H,HK1,iU,HK,HB⟩:=hrel
 obtain _|k1:=gk
 ·exact zz H rfl
 simp only [pX.l0] at H
 replace H:=zsd H
 rcases H with ⟨kM,H⟩|⟨kM,H⟩
 replace H:=zid H
 obtain ⟨rG,H⟩:=H
 replace H:=zid H
 obtain ⟨rF,H⟩:=H
 replace H:=zo H
 obtain ⟨⟨aei,MF⟩,A7,H⟩:=H
 try dsimp only at H
 replace H:=zid H
 obtain ⟨uD,H⟩:=H
 replace H:=zit H
 obtain ⟨yI,Ed,H⟩:=H
 generalize aia:(kW.set (jk:Int).toNat (lI (rd kW jk) aei kR):List Int)=auU at H
 have ap5:=zY aia
 clear aia
 obtain ⟨aHv,aHw,aAR,rfl,ap6⟩:=zA (Kd.dH (Kd.Fq HR1.out HK.out) jk)
 rotate_left
 replace H:=zi H
 obtain ⟨c14,H⟩:=H
 have uH:decide (0≤(l1.length:Int))=true:=decide_eq_true c14
 have G5:decide (0≤l1.length)=true:=decide_eq_true (by omega)
 clear c14
 replace H:=zi H
 obtain ⟨c15,H⟩:=H
 have Bf:decide ((l1.length:Int)<(kW.length:Int))=true:=decide_eq_true c15
 have Qm:decide (l1.length<kW.length)=true:=decide_eq_true (Int.ofNat_lt.mp c15)
 clear c15
 replace H:=zit H
 obtain ⟨Dj,Qn,H⟩:=H
 generalize aib:(kW.set ((l1.length:Int):Int).toNat (lI (rd kW (l1.length:Int)) kS kR):List Int)=aAS at H
 have ap7:=zY aib
 clear aib
 obtain ⟨rfl,rfl⟩:=zJ2 H
 obtain ⟨JF,qY,LV⟩:=yD iU.out
 subst LV
 have ac4:0≤((l1.length:Int):Int):=zD
 have ac5:(l1.length:Int)<(kW.length:Int):=zD
 obtain ⟨apZ,ap0,MG⟩:=Kd.dH (yh iU.out).2.2 (l1.length:Int) ac4 ac5
 cases ap0
 (try simp only [Go.IntWalk.toNatUp] at MG)
 replace ac4:=eq_true ac4
 replace ac5:=eq_true ac5
 have p17:0≤((l1.length:Int):Int):=zD
 have q17:((l1.length:Int):Int)<((kW.length:Int):Int):=zD
 obtain ⟨L9,WW,acE,ahd,aof,ay5,ahe⟩:=Gj iU.out (by omega)
 (first|cases acE|(injection acE with ea_ en_ ec_;(first|subst ea_|(injection ea_ with ea_;subst ea_));subst ec_;clear en_))
 have aog:=am ahd
 have ay6:=am ahe
 clear ahd aof ahe
 have auV:=am (show (P0_ L9∨w.heap.size≤L9) from (Jh iU.out))
 (first|simp only [add_plain] at MG|skip)
 obtain ⟨ZT,ZU⟩:=yC iU.out ((l1.length:Int):Int) p17 q17
 (try simp only [Go.IntWalk.toNatUp] at ZT ZU)
 replace p17:=eq_true p17
 replace q17:=eq_true q17
 have acF:=Gs iU.out ((l1.length:Int):Int) (by have h1_:=of_eq_true p17;have h2_:=of_eq_true q17;omega) (lI (rd kW (l1.length:Int)) kS kR)
 rotate_left
 all_goals (go_wp2_with (first|((with_reducible refine af (f:=166) rfl ?_);refine zc (some 23) Tryz.func166 _ (oH.calls _ _ _ _ _ _ _ A7.out) ?_;rintro e w' ⟨rfl,⟨nd,rfl⟩⟩;refine ⟨_,rfl,?_⟩;(try (rw [iT wr];generalize hq_:World.drewN wr _=wr;have n0_:ae (Wd pre post 25 wr w0.heap.size (fun k_=>(P0_ k_∨w.heap.size≤k_)) l7 kW):=⟨by rw [← hq_];exact (by (with_reducible repeat (first|apply uj|apply uk|apply xk));exact iU.out)⟩;have n1_:ae (Kept w wr (fun k_=>P0_ k_)):=⟨by rw [← hq_];exact (by repeat (first|(with_reducible first|exact HK.out|apply Kept.alloc|apply Kept.drewN|apply Kept.drew)|exact HK.out))⟩;have n2_:ae (Below w0.heap.size w0 wr):=⟨by rw [← hq_];exact (zB HB)⟩;clear iU HK HB hq_;have iU:=n0_;have HK:=n1_;have HB:=n2_;clear n0_ n1_ n2_));obtain ⟨ZZ,YR,YS⟩:=yD iU.out;subst YS;have ap8:0≤(jk:Int):=zD;have ap9:jk<(kW.length:Int):=zD;obtain ⟨aAT,aAU,adi⟩:=Kd.dH (yh iU.out).2.2 jk ap8 ap9;cases aAU;replace ap8:=eq_true ap8;replace ap9:=eq_true ap9;have p10:0≤(jk:Int):=zD;have q10:(jk:Int)<((kW.length:Int):Int):=zD;obtain ⟨aic,ahy,Z4,auW,aAV,aHx,auX⟩:=Gj iU.out (by omega);(first|cases Z4|(injection Z4 with ea_ en_ ec_;(first|subst ea_|(injection ea_ with ea_;subst ea_));subst ec_;clear en_));have aAW:=am auW;have aHy:=am auX;clear auW aAV auX;have auY:=am (show (P0_ aic∨w.heap.size≤aic) from (Jh iU.out));(first|simp only [add_plain] at adi|skip);obtain ⟨auZ,au0⟩:=yC iU.out (jk:Int) p10 q10;replace p10:=eq_true p10;replace q10:=eq_true q10;obtain ⟨aAX,aAY⟩:=yC iU.out (jk:Int) (zD) (zD);have aqa:=Gs iU.out (jk:Int) (by have h1_:=of_eq_true p10;have h2_:=of_eq_true q10;omega) (lI (rd kW jk) aei kR))|((with_reducible refine af (f:=215) rfl ?_);refine AA (some 35) rfl rfl #[.int .u64 (rd kW jk), .int .u64 aei, .int .u64 kR] _ rfl (by (try simp only [List.map_toArray,List.map_cons,List.map_nil]);rfl) (fun w_=>dQ (rd kW jk) aei kR (by first|decide|(with_reducible assumption)|exact zD) w_) ?_)|((with_reducible refine eQ (t:=25) (p:=38) rfl ?_);refine dU (t:=25) (p:=38) (v:=?au1) (w1:=(wr.setCell ⟨aic,pre.length+(jk:Int).toNat,none⟩ (.int .u64 (lI (rd kW jk) aei kR)))) ?hg ?ho ?hn ?hr ?_;(case ho=>rfl);(case hg=>rfl);(case hn=>rfl);(case hr=>first|(go_simp;done)|(go_simp;rfl));intro w13 hw;have hg:wr.grownBy w13 (some aic):=(by rw [hw];exact aqa.2);have hp_:Wd pre post 25 w13 w0.heap.size (fun k_=>(P0_ k_∨w.heap.size≤k_)) (.slice (some ⟨aic,pre.length,none⟩) kW.length YR) auU:=(by rw [hw,ap5.out];exact aqa.1);clear aqa;replace HB:=am ((by rw [hw];exact bu (HB.out) aAW.out:Below w0.heap.size w0 w13));replace HK:=am (Kept.yf (S:=(fun k_=>P0_ k_)) hg (by repeat (first|(with_reducible first|exact HK.out|apply Kept.alloc|apply Kept.drewN|apply Kept.drew)|exact HK.out)) (fun k_ e_=>(by injection e_ with e_;rw [← e_];exact Jh iU.out)));replace iU:=am (hp_);clear hg hw hp_)|((with_reducible refine af (f:=215) rfl ?_);refine AA (some 51) rfl rfl #[.int .u64 (rd kW (l1.length:Int)), .int .u64 kS, .int .u64 kR] _ rfl (by (try simp only [List.map_toArray,List.map_cons,List.map_nil]);rfl) (fun w_=>dQ (rd kW (l1.length:Int)) kS kR (by first|decide|(with_reducible assumption)|exact zD) w_) ?_)|((with_reducible refine eQ (t:=25) (p:=54) rfl ?_);refine dU (t:=25) (p:=54) (v:=?ahj) (w1:=(wr.setCell ⟨L9,pre.length+((l1.length:Int):Int).toNat,none⟩ (.int .u64 (lI (rd kW (l1.length:Int)) kS kR)))) ?hg ?ho ?hn ?hr ?_;(case ho=>rfl);(case hg=>rfl);(case hn=>rfl);(case hr=>first|(go_simp;done)|(go_simp;rfl));intro w20 hw;have hg:wr.grownBy w20 (some L9):=(by rw [hw];exact acF.2);have hp_:Wd pre post 25 w20 w0.heap.size (fun k_=>(P0_ k_∨w.heap.size≤k_)) (.slice (some ⟨L9,pre.length,none⟩) kW.length qY) aAS:=(by rw [hw,ap7.out];exact acF.1);clear acF;replace HB:=am ((by rw [hw];exact bu (HB.out) aog.out:Below w0.heap.size w0 w20));replace HK:=am (Kept.yf (S:=(fun k_=>P0_ k_)) hg (by repeat (first|(with_reducible first|exact HK.out|apply Kept.alloc|apply Kept.drewN|apply Kept.drew)|exact HK.out)) (fun k_ e_=>(by injection e_ with e_;rw [← e_];exact Jh iU.out)));replace iU:=am (hp_);clear hg hw hp_)))
 ·go_roundg k1
  case measure=>have:=HK1.out;omega
  case rel=>exact ⟨(auU),(oL (rd kW jk) aei kR),(MF),(wrap64 (jk+1)),z1,z1,z1,H,(zH HK1),⟨by (with_reducible repeat (first|apply uj|apply uk|apply xk));exact iU.out⟩,⟨by repeat (first|(with_reducible first|exact HK.out|apply Kept.alloc|apply Kept.drewN|apply Kept.drew)|exact HK.out)⟩,⟨zB HB⟩⟩
 go_ret
 exact ⟨z2,by (with_reducible repeat (first|apply uj|apply uk|apply xk));exact iU.out,zB HB,by repeat (first|(with_reducible first|exact HK.out|apply Kept.alloc|apply Kept.drewN|apply Kept.drew)|exact HK.out)⟩
def pY.l0:Nat→List Int→List Int→Int→List Int→Int→Int→Option (Bool × List Int)
  | 0,_,_,_,_,_,_=>none
  | k+1,x0,x1,x5,x8,x9,x10=>if x10<x9 then (if 0≤x10 then (if x10<(x8.length:Int) then (if x10<(x0.length:Int) then (if x5≤1 then (pY.l0 k (x0.set (x10:Int).toNat (gp (rd x0 x10) (rd x8 x10) x5)) x1 (jK (rd x0 x10) (rd x8 x10) x5) x8 x9 (wrap64 (x10+1))) else (none)) else (none)) else (none)) else (none)) else (if 0≤(x1.length:Int) then (if (x1.length:Int)<(x0.length:Int) then (if x5≤1 then (some (decide ((jK (rd x0 (x1.length:Int)) 0 x5) > 0),(x0.set ((x1.length:Int):Int).toNat (gp (rd x0 (x1.length:Int)) 0 x5)))) else (none)) else (none)) else (none))
def pY.f (k:Nat) (l0:List Int) (l1:List Int):Option (Bool × List Int):=pY.l0 k l0 l1 0 l1 (l1.length:Int) 0
theorem pY.calls (k:Nat) (P0_:Nat→Prop) (l7:Value) (l0:List Int) (pre post:List Int) (A1:Option Addr) (c1:Nat) (l1:List Int) (r1:Bool) (r2:List Int) (w0 w:World) (hB:Below w0.heap.size w0 w) (ho0:Wd pre post 25 w w0.heap.size P0_ l7 l0) (hr1:∀ W_,Kept w W_ (fun k_=>P0_ k_)→Kd.C (Kd.int .u64) W_ A1 l1.length l1) (hc1:l1.length≤c1) (h:pY.f k l0 l1=some (r1,r2)) :
    Calls Tryz.prog 194 #[l7, .slice A1 l1.length c1] w fun e w'=>e = .returned (.bool r1)∧Wd pre post 25 w' w0.heap.size (fun k_=>(P0_ k_∨w.heap.size≤k_)) l7 r2∧Below w0.heap.size w0 w'∧Kept w w' (fun k_=>P0_ k_):=by
 have HO0:=am (show Wd pre post 25 w w0.heap.size (fun k_=>(P0_ k_∨w.heap.size≤k_)) l7 l0 from Ri ho0 (fun k_ hk=>(.inl hk)))
 have HR1:=am hr1
 have HC1:=am hc1
 clear hr1 hc1
 have HK:=am (Kept.refl w (fun k_=>P0_ k_))
 have HW0:=am hB.size
 have HB:=am hB
 clear hB
 have H:=am h
 unfold pY.f at H
 clear h
 go_enter Tryz.func194,Tryz.ntmps194
 go_wp2
 go_loopg [5,10] k (fun kq v5 v10 w' => ∃ (kW:List Int) (ig:Int) (jL:Int),v5 = .int .u64 ig∧v10 = .int .i64 jL∧ae (pY.l0 kq kW l1 ig l1 (l1.length:Int) jL=some (r1,r2))∧ae (kq≤k)∧ae (Wd pre post 25 w' w0.heap.size (fun k_=>(P0_ k_∨w.heap.size≤k_)) l7 kW)∧ae (Kept w w' (fun k_=>P0_ k_))∧ae (Below w0.heap.size w0 w'))
 case atStart=>exact ⟨(l0),(0),(0),z1,z1,H,zL,⟨by (with_reducible repeat (first|apply uj|apply uk|apply xk));exact HO0.out⟩,⟨by repeat (first|(with_reducible first|exact HK.out|apply Kept.alloc|apply Kept.drewN|apply Kept.drew)|exact HK.out)⟩,⟨zB HB⟩⟩
 clear H
 obtain ⟨kW,ig,jL,rfl,rfl,H,HK1,iU,HK,HB⟩:=hrel
 obtain _|k1:=gk
 ·exact zz H rfl
 simp only [pY.l0] at H
 replace H:=zsd H
 rcases H with ⟨pg,H⟩|⟨pg,H⟩
 replace H:=zid H
 obtain ⟨kM,H⟩:=H
 replace H:=zid H
 obtain ⟨rG,H⟩:=H
 replace H:=zid H
 obtain ⟨rF,H⟩:=H
 replace H:=zit H
 obtain ⟨wQ,Bh,H⟩:=H
 generalize aid:(kW.set (jL:Int).toNat (gp (rd kW jL) (rd l1 jL) ig):List Int)=au2 at H
 have aqb:=zY aid
 clear aid
 obtain ⟨aHz,aHA,aAZ,rfl,aqc⟩:=zA (Kd.dH (Kd.Fq HR1.out HK.out) jL)
 obtain ⟨Ao9,co9,eo9⟩:=yD iU.out
 subst eo9
 obtain ⟨aHB,aHC,aA0,rfl,adk⟩:=zA (Kd.dH (yh iU.out).2.2 jL)
 have p8:0≤(jL:Int):=zD
 have q8:(jL:Int)<((kW.length:Int):Int):=zD
 obtain ⟨go8,co8,eo8,gb8,gl8,cl8,HG8⟩:=Gj iU.out (by omega)
 (first|cases eo8|(injection eo8 with ea_ en_ ec_;(first|subst ea_|(injection ea_ with ea_;subst ea_));subst ec_;clear en_))
 have GB8:=am gb8
 have GG8:=am HG8
 clear gb8 gl8 HG8
 have aA1:=am (show (P0_ go8∨w.heap.size≤go8) from (Jh iU.out))
 (first|simp only [add_plain] at adk|skip)
 obtain ⟨aA2,aA3⟩:=yC iU.out (jL:Int) p8 q8
 replace p8:=eq_true p8
 replace q8:=eq_true q8
 have aqd:=Gs iU.out (jL:Int) (by have h1_:=of_eq_true p8;have h2_:=of_eq_true q8;omega) (gp (rd kW jL) (rd l1 jL) ig)
 rotate_left
 replace H:=zi H
 obtain ⟨c12,H⟩:=H
 have nO:decide (0≤(l1.length:Int))=true:=decide_eq_true c12
 have rH:decide (0≤l1.length)=true:=decide_eq_true (by omega)
 clear c12
 replace H:=zi H
 obtain ⟨c13,H⟩:=H
 have qJ:decide ((l1.length:Int)<(kW.length:Int))=true:=decide_eq_true c13
 have Jw:decide (l1.length<kW.length)=true:=decide_eq_true (Int.ofNat_lt.mp c13)
 clear c13
 replace H:=zit H
 obtain ⟨uH,G5,H⟩:=H
 generalize aie:(kW.set ((l1.length:Int):Int).toNat (gp (rd kW (l1.length:Int)) 0 ig):List Int)=aA4 at H
 have aqe:=zY aie
 clear aie
 obtain ⟨rfl,rfl⟩:=zJ2 H
 obtain ⟨Ez,Ad,LW⟩:=yD iU.out
 subst LW
 have aqf:0≤((l1.length:Int):Int):=zD
 have aqg:(l1.length:Int)<(kW.length:Int):=zD
 obtain ⟨aA5,aA6,VJ⟩:=Kd.dH (yh iU.out).2.2 (l1.length:Int) aqf aqg
 cases aA6
 (try simp only [Go.IntWalk.toNatUp] at VJ)
 replace aqf:=eq_true aqf
 replace aqg:=eq_true aqg
 have p15:0≤((l1.length:Int):Int):=zD
 have q15:((l1.length:Int):Int)<((kW.length:Int):Int):=zD
 obtain ⟨aif,ad1,ad2,au3,aA7,aHD,au4⟩:=Gj iU.out (by omega)
 (first|cases ad2|(injection ad2 with ea_ en_ ec_;(first|subst ea_|(injection ea_ with ea_;subst ea_));subst ec_;clear en_))
 have aA8:=am au3
 have aHE:=am au4
 clear au3 aA7 au4
 have au5:=am (show (P0_ aif∨w.heap.size≤aif) from (Jh iU.out))
 (first|simp only [add_plain] at VJ|skip)
 obtain ⟨aig,aih⟩:=yC iU.out ((l1.length:Int):Int) p15 q15
 (try simp only [Go.IntWalk.toNatUp] at aig aih)
 replace p15:=eq_true p15
 replace q15:=eq_true q15
 have aqh:=Gs iU.out ((l1.length:Int):Int) (by have h1_:=of_eq_true p15;have h2_:=of_eq_true q15;omega) (gp (rd kW (l1.length:Int)) 0 ig)
 rotate_left
 all_goals (go_wp2_with (first|((with_reducible refine af (f:=191) rfl ?_);refine AA (some 24) rfl rfl #[.int .u64 (rd kW jL), .int .u64 (rd l1 jL), .int .u64 ig] _ rfl (by (try simp only [List.map_toArray,List.map_cons,List.map_nil]);rfl) (fun w_=>dw (rd kW jL) (rd l1 jL) ig (by first|decide|(with_reducible assumption)|exact zD) w_) ?_)|((with_reducible refine eQ (t:=25) (p:=27) rfl ?_);refine dU (t:=25) (p:=27) (v:=?au6) (w1:=(wr.setCell ⟨go8,pre.length+(jL:Int).toNat,none⟩ (.int .u64 (gp (rd kW jL) (rd l1 jL) ig)))) ?hg ?ho ?hn ?hr ?_;(case ho=>rfl);(case hg=>rfl);(case hn=>rfl);(case hr=>first|(go_simp;done)|(go_simp;rfl));intro w11 hw;have hg:wr.grownBy w11 (some go8):=(by rw [hw];exact aqd.2);have hp_:Wd pre post 25 w11 w0.heap.size (fun k_=>(P0_ k_∨w.heap.size≤k_)) (.slice (some ⟨go8,pre.length,none⟩) kW.length co9) au2:=(by rw [hw,aqb.out];exact aqd.1);clear aqd;replace HB:=am ((by rw [hw];exact bu (HB.out) GB8.out:Below w0.heap.size w0 w11));replace HK:=am (Kept.yf (S:=(fun k_=>P0_ k_)) hg (by repeat (first|(with_reducible first|exact HK.out|apply Kept.alloc|apply Kept.drewN|apply Kept.drew)|exact HK.out)) (fun k_ e_=>(by injection e_ with e_;rw [← e_];exact Jh iU.out)));replace iU:=am (hp_);clear hg hw hp_)|((with_reducible refine af (f:=191) rfl ?_);refine AA (some 39) rfl rfl #[.int .u64 (rd kW (l1.length:Int)), .int .u64 0, .int .u64 ig] _ rfl (by (try simp only [List.map_toArray,List.map_cons,List.map_nil]);rfl) (fun w_=>dw (rd kW (l1.length:Int)) 0 ig (by first|decide|(with_reducible assumption)|exact zD) w_) ?_)|((with_reducible refine eQ (t:=25) (p:=42) rfl ?_);refine dU (t:=25) (p:=42) (v:=?au7) (w1:=(wr.setCell ⟨aif,pre.length+((l1.length:Int):Int).toNat,none⟩ (.int .u64 (gp (rd kW (l1.length:Int)) 0 ig)))) ?hg ?ho ?hn ?hr ?_;(case ho=>rfl);(case hg=>rfl);(case hn=>rfl);(case hr=>first|(go_simp;done)|(go_simp;rfl));intro w18 hw;have hg:wr.grownBy w18 (some aif):=(by rw [hw];exact aqh.2);have hp_:Wd pre post 25 w18 w0.heap.size (fun k_=>(P0_ k_∨w.heap.size≤k_)) (.slice (some ⟨aif,pre.length,none⟩) kW.length Ad) aA4:=(by rw [hw,aqe.out];exact aqh.1);clear aqh;replace HB:=am ((by rw [hw];exact bu (HB.out) aA8.out:Below w0.heap.size w0 w18));replace HK:=am (Kept.yf (S:=(fun k_=>P0_ k_)) hg (by repeat (first|(with_reducible first|exact HK.out|apply Kept.alloc|apply Kept.drewN|apply Kept.drew)|exact HK.out)) (fun k_ e_=>(by injection e_ with e_;rw [← e_];exact Jh iU.out)));replace iU:=am (hp_);clear hg hw hp_)))
 ·go_roundg k1
  case measure=>have:=HK1.out;omega
  case rel=>exact ⟨(au2),(jK (rd kW jL) (rd l1 jL) ig),(wrap64 (jL+1)),z1,z1,H,(zH HK1),⟨by (with_reducible repeat (first|apply uj|apply uk|apply xk));exact iU.out⟩,⟨by repeat (first|(with_reducible first|exact HK.out|apply Kept.alloc|apply Kept.drewN|apply Kept.drew)|exact HK.out)⟩,⟨zB HB⟩⟩
 go_ret
 exact ⟨z2,by (with_reducible repeat (first|apply uj|apply uk|apply xk));exact iU.out,zB HB,by repeat (first|(with_reducible first|exact HK.out|apply Kept.alloc|apply Kept.drewN|apply Kept.drew)|exact HK.out)⟩
end Go.Proofs.Yy.PTx
end
section
namespace Go.Proofs.Yy.PTx
open Go.RowKit Go.Proofs.Yw.PrintWords Go.Proofs.Yw.PrintLast Go.Proofs.Yw.PrintMore Go.Proofs.Yy.M
theorem Iz (X:List Int) {lo hi:Int} (h0:0≤lo) (h1:lo<hi) (h2:hi≤(X.length:Int)):X.take lo.toNat ++ (X.take hi.toNat).drop lo.toNat ++ X.drop hi.toNat=X:=by
 have e:(X.take hi.toNat).take lo.toNat=X.take lo.toNat:=by rw [List.take_take,Nat.min_eq_left (by omega)]
 rw [← e,List.take_append_drop,List.take_append_drop]
theorem PT (X:List Int) {lo hi:Int} (h0:0≤lo) (h1:lo<hi) (h2:hi≤(X.length:Int)):((X.take hi.toNat).drop lo.toNat).length=hi.toNat - lo.toNat:=by
 rw [List.length_drop,List.length_take];omega
def vT.f (k:Nat) (l0:List Int) (a1 a2:Int) (l3:List Int) (a4:Int):Option (Bool × List Int) :=
 if 0≤a1∧a1<a2∧a2≤(l0.length:Int) then (pX.f k ((l0.take a2.toNat).drop a1.toNat) l3 a4).bind fun b=>some (b.1,l0.take a1.toNat ++ b.2 ++ l0.drop a2.toNat) else none
def vN.f (k:Nat) (l0:List Int) (a1 a2:Int) (l3:List Int):Option (Bool × List Int) :=
 if 0≤a1∧a1<a2∧a2≤(l0.length:Int) then (pY.f k ((l0.take a2.toNat).drop a1.toNat) l3).bind fun b=>some (b.1,l0.take a1.toNat ++ b.2 ++ l0.drop a2.toNat) else none
theorem IZ {w:World} {base:Nat} {ok:Nat→Prop} {u:Value} {X:List Int} {lo hi:Int} (h0:0≤lo) (h1:lo<hi) (h2:hi≤(X.length:Int)) (h:Kd.R (Kd.int .u64) 25 w base ok u X) :
  ∃ c,aeA u lo hi = .slice (some ⟨(match u with | .slice (some ⟨g,_,_⟩) _ _=>g|_=>0),lo.toNat,none⟩) (hi.toNat - lo.toNat) c∧Wd (X.take lo.toNat) (X.drop hi.toNat) 25 w base ok (aeA u lo hi) ((X.take hi.toNat).drop lo.toNat) ∧
   ∀ (w':World) (ok':Nat→Prop) (r:List Int),Wd (X.take lo.toNat) (X.drop hi.toNat) 25 w' base ok' (aeA u lo hi) r→Kd.R (Kd.int .u64) 25 w' base ok' u (X.take lo.toNat ++ r ++ X.drop hi.toNat):=by
 obtain ⟨g,cap,rfl,hb,hl,hcells⟩:=Kd.oD h (by omega)
 obtain ⟨_,hle,_⟩:=Kd.aW h
 have hs:=Iz X h0 h1 h2
 have hn:=PT X h0 h1 h2
 have hp:(X.take lo.toNat).length=lo.toNat:=by rw [List.length_take];omega
 have hcap:lo.toNat+(cap - lo.toNat)=cap:=by omega
 refine ⟨cap - lo.toNat,rfl,?_,fun w' ok' r hr=>?_⟩
 ·have h':Kd.R (Kd.int .u64) 25 w base ok (.slice (some ⟨g,0,none⟩) (X.take lo.toNat ++ (X.take hi.toNat).drop lo.toNat ++ X.drop hi.toNat).length ((X.take lo.toNat).length+(cap - lo.toNat))) (X.take lo.toNat ++ (X.take hi.toNat).drop lo.toNat ++ X.drop hi.toNat):=by
   rw [hs,hp,hcap];exact h
  have:=akV h' (by omega)
  rw [hp,hn] at this
  exact this
 ·obtain ⟨A,c2,e2⟩:=yD hr
  have hlen:r.length=hi.toNat - lo.toNat:=by
   have e3:Value.slice (some ⟨g,lo.toNat,none⟩) (hi.toNat - lo.toNat) (cap - lo.toNat) = .slice A r.length c2:=e2
   injection e3 with _ e4 _
   exact e4.symm
  have hb2:=abh (show Wd (X.take lo.toNat) (X.drop hi.toNat) 25 w' base ok' (.slice (some ⟨g,lo.toNat,none⟩) (hi.toNat - lo.toNat) (cap - lo.toNat)) r from hr)
  have hX:(X.take lo.toNat ++ r ++ X.drop hi.toNat).length=X.length:=by
   rw [List.length_append,List.length_append,List.length_take,List.length_drop,hlen];omega
  rw [hX,hp,hcap] at hb2
  exact hb2
theorem vT.calls (k:Nat) (P0_:Nat→Prop) (l7:Value) (l0:List Int) (a1 a2:Int) (A3:Option Addr) (c3:Nat) (l3:List Int) (a4:Int) (r1:Bool) (r2:List Int) (w0 w:World) (hB:Below w0.heap.size w0 w) (ho0:Kd.R (Kd.int .u64) 25 w w0.heap.size P0_ l7 l0) (hr3:∀ W_,Kept w W_ (fun k_=>P0_ k_)→Kd.C (Kd.int .u64) W_ A3 l3.length l3) (hc3:l3.length≤c3) (h:vT.f k l0 a1 a2 l3 a4=some (r1,r2)) {uw:Value} (hw:uw=aeA l7 a1 a2:=by with_unfolding_all rfl) :
  Calls Tryz.prog 193 #[uw, .slice A3 l3.length c3, .int .u64 a4] w fun e w'=>e = .returned (.bool r1)∧Kd.R (Kd.int .u64) 25 w' w0.heap.size (fun k_=>(P0_ k_∨w.heap.size≤k_)) l7 r2∧Below w0.heap.size w0 w'∧Kept w w' (fun k_=>P0_ k_):=by
 subst hw
 unfold vT.f at h
 by_cases hg:0≤a1∧a1<a2∧a2≤(l0.length:Int)
 case neg=>rw [if_neg hg] at h;exact absurd h (by simp)
 rw [if_pos hg] at h
 obtain ⟨⟨b1,b2⟩,hb,h⟩:=Option.bind_eq_some_iff.mp h
 simp only [Option.some.injEq,Prod.mk.injEq] at h
 obtain ⟨rfl,rfl⟩:=h
 obtain ⟨c,_,hW,hback⟩:=IZ hg.1 hg.2.1 hg.2.2 ho0
 refine (pX.calls k P0_ _ _ _ _ A3 c3 l3 a4 b1 b2 w0 w hB hW hr3 hc3 hb).mono ?_
 rintro e w' ⟨he,h1,h2,h3⟩
 exact ⟨he,hback w' _ b2 h1,h2,h3⟩
theorem vN.calls (k:Nat) (P0_:Nat→Prop) (l7:Value) (l0:List Int) (a1 a2:Int) (A3:Option Addr) (c3:Nat) (l3:List Int) (r1:Bool) (r2:List Int) (w0 w:World) (hB:Below w0.heap.size w0 w) (ho0:Kd.R (Kd.int .u64) 25 w w0.heap.size P0_ l7 l0) (hr3:∀ W_,Kept w W_ (fun k_=>P0_ k_)→Kd.C (Kd.int .u64) W_ A3 l3.length l3) (hc3:l3.length≤c3) (h:vN.f k l0 a1 a2 l3=some (r1,r2)) {uw:Value} (hw:uw=aeA l7 a1 a2:=by with_unfolding_all rfl) :
  Calls Tryz.prog 194 #[uw, .slice A3 l3.length c3] w fun e w'=>e = .returned (.bool r1)∧Kd.R (Kd.int .u64) 25 w' w0.heap.size (fun k_=>(P0_ k_∨w.heap.size≤k_)) l7 r2∧Below w0.heap.size w0 w'∧Kept w w' (fun k_=>P0_ k_):=by
 subst hw
 unfold vN.f at h
 by_cases hg:0≤a1∧a1<a2∧a2≤(l0.length:Int)
 case neg=>rw [if_neg hg] at h;exact absurd h (by simp)
 rw [if_pos hg] at h
 obtain ⟨⟨b1,b2⟩,hb,h⟩:=Option.bind_eq_some_iff.mp h
 simp only [Option.some.injEq,Prod.mk.injEq] at h
 obtain ⟨rfl,rfl⟩:=h
 obtain ⟨c,_,hW,hback⟩:=IZ hg.1 hg.2.1 hg.2.2 ho0
 refine (pY.calls k P0_ _ _ _ _ A3 c3 l3 b1 b2 w0 w hB hW hr3 hc3 hb).mono ?_
 rintro e w' ⟨he,h1,h2,h3⟩
 exact ⟨he,hback w' _ b2 h1,h2,h3⟩
end Go.Proofs.Yy.PTx
end
