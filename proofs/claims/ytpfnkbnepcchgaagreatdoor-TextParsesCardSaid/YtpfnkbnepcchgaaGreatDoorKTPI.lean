/- Part 9. -/
import Derived.Lib.Strings
import Derived.StillTailTactics
import Derived.Deep.RegionWith
import Derived.Test.YtpfnkbnepcchgaaGreatDoorKTPH
set_option linter.unusedSimpArgs false
set_option linter.unusedVariables false
section
set_option maxHeartbeats 8000000
set_option maxRecDepth 100000
namespace Go.Proofs.Yy.PTx
open Go.RowKit Go.Proofs.Yy.Z Go.Proofs.Yw.PrintWords Go.Proofs.Yw.PrintLast Go.Proofs.Yw.PrintMore
open Go.Proofs.Yy.M
attribute [local go_sem] dG dP kR kT kW kS
attribute [local go_sem] gI gG iP iR fF fG gW gV
def dH.l0:Nat→Int→List Int→List Int→Int→Int→Option (List Int)
  | 0,_,_,_,_,_=>none
  | k+1,x1,x5,x12,x13,x14=>if x14<x13 then (if 0≤x14 then (if x14<(x12.length:Int) then (if x14<(x5.length:Int) then (if 0≤x1 then ((some (x5.set (x14:Int).toNat (Go.bits .or .u64 (rd x5 x14) (shl .u64 (rd x12 x14) x1)):List Int)).bind fun afc=>(if x1 > 0 then (if 0≤(wrap64 (64-x1)) then (if 0≤(wrap64 (x14+1)) then (if (wrap64 (x14+1))<(x5.length:Int) then (dH.l0 k x1 (afc.set ((wrap64 (x14+1)):Int).toNat (shr .u64 (rd x12 x14) (wrap64 (64-x1)))) x12 x13 (wrap64 (x14+1))) else (none)) else (none)) else (none)) else (dH.l0 k x1 afc x12 x13 (wrap64 (x14+1))))) else (none)) else (none)) else (none)) else (none)) else (some x5)
def dH.f (k:Nat)(l0:List Int)(a1:Int):Option (List Int):=if 0≤(wrap64 ((l0.length:Int)+1)) then (if (wrap64 ((l0.length:Int)+1):Int).toNat≤35184372088832 then (dH.l0 k a1 (List.replicate (wrap64 ((l0.length:Int)+1):Int).toNat 0) l0 (l0.length:Int) 0) else (none)) else (none)
def dH.T5:Bool × List (List Nat × List Nat):=(true,[([],[]),([],[]),([0,1],[0,1]),([2],[2]),([],[]),([],[]),([4,5],[4,5]),([3,6],[3,6]),([0,1,0,1,2,3,4,5,6,7],[0,1]),([8,7,0,1,2,3,4,5,6,7],[7,8])])
def dH.B5:List Nat := [0,0,3,7,0,0,48,127,255,511]
theorem dH.agp:rG .any (opsOf Tryz.f104 5)=dH.T5:=by kernel_rfl
theorem dH.Rz:jb dH.T5.2 dH.B5=true:=by kernel_rfl
theorem dH.calls (k:Nat)(A0:Option Addr)(c0:Nat)(l0:List Int)(a1:Int)(r:List Int)(w:World)(hr0:Kd.C (Kd.int .u64) w A0 l0.length l0)(hc0:l0.length≤c0)(h:dH.f k l0 a1=some r) :
    Calls Tryz.prog 104 #[.slice A0 l0.length c0,.int .i64 a1] w fun e w' => ∃ v0_:Value,e=.returned (v0_)∧Kd.R (Kd.int .u64) 25 w' w.heap.size (fun _=>True) v0_ r∧Below w.heap.size w w':=by
 have HR0:=am hr0;have HC0:=am hc0;clear hr0 hc0;have HB:=am (Below.refl w.heap.size w);have H:=am h;unfold dH.f at H;clear h;generalize ED:(wrap64 ((l0.length:Int)+1):Int)=ji3 at H;have UA:(IntKind.i64.wrap ((l0.length:Int)+1))=ji3:=(cu _).trans ED;replace H:=zit H;obtain⟨jP,sQ,H⟩:=H;replace H:=zit H;obtain⟨qg,xy,H⟩:=H;generalize hy160:(List.replicate (ji3:Int).toNat 0:List Int)=y160 at H;have ahc:=zY hy160;clear hy160
 go_enter Tryz.func104,Tryz.ntmps104
 go_wp2_with (first|((with_reducible refine aI (N:=11) rfl ?_);refine Kd.vH (Kd.int .u64) _ 25 rfl (N:=11) rfl 88 _ _ rfl ji3 (by first|rfl|(simp only[List.length_drop,List.length_take];rfl)) (by first|rfl|(simp only[List.length_drop,List.length_take];rfl)) Tryz.underlying88 (.int .u64 0) 8 info25 rfl (by decide) (by omega) 0 (ok:=fun _=>True) (okp:=fun _=>True) rfl (fun _ hk=>hk) trivial (zD) (Nat.le_trans (Nat.mul_le_mul_right _ (zD:ji3.toNat≤35184372088832)) (by omega)) (Below.refl _ _) (Nat.le_refl _) ?_;intro ay6 w6 ho7 hb hg_ ku;clear hg_ ku;(first|rw[← ahc.out]at ho7|(simp only[Int.reduceToNat]at ho7;rw[← ahc.out]at ho7));have am9:=am (Kd.eu ho7 (zS HB));replace HB:=zBs HB hb;clear hb ho7))
 go_loopg [14] k (fun kq v14 w' => ∃ (ig:List Int) (jw:Int),v14=.int .i64 jw∧ae (dH.l0 kq a1 ig l0 (l0.length:Int) jw=some r)∧ae (kq≤k)∧ae (Kd.R (Kd.int .u64) 25 w' w.heap.size (fun _=>True) ay6 ig)∧ae (Below w.heap.size w w'))
 case atStart=>exact⟨(y160),(0),z1,H,zL,⟨zR am9⟩,⟨zB HB⟩⟩
 clear H;obtain⟨ig,jw,rfl,H,HK1,fM,HB⟩:=hrel;obtain _|k1:=gk
 ·exact zz H rfl
 simp only[dH.l0]at H;replace H:=zsd H;rcases H with⟨sO,H⟩|⟨sO,H⟩;replace H:=zid H;obtain⟨wu,H⟩:=H;replace H:=zid H;obtain⟨mr,H⟩:=H;replace H:=zid H;obtain⟨qK,H⟩:=H;replace H:=zit H;obtain⟨qO,xY,H⟩:=H;generalize qN:(shl .u64 (rd l0 jw) a1:Int)=qL at H;have Uz:(IntKind.u64.wrap ((rd l0 jw)*2 ^ min a1.toNat 64))=qL:=qN;have Z8:a1≤64→(IntKind.u64.wrap ((rd l0 jw)*2 ^ a1.toNat))=qL:=iW qN;obtain⟨afc,ana,H⟩:=zw H;replace H:=AV H;rcases H with⟨uS,H⟩|⟨uS,H⟩;generalize JV:(wrap64 (64-a1):Int)=LJ at H;have ahd:(IntKind.i64.wrap (64-a1))=LJ:=(cu _).trans JV;replace H:=zit H;obtain⟨wE,LK,H⟩:=H;generalize uz:(shr .u64 (rd l0 jw) (LJ):Int)=EC at H;have OB:((rd l0 jw) / 2 ^ min (LJ).toNat 64)=EC:=uz;have Z9:(LJ)≤64→((rd l0 jw) / 2 ^ (LJ).toNat)=EC:=kE uz;generalize zf:(wrap64 (jw+1):Int)=Kv at H;have agN:(IntKind.i64.wrap (jw+1))=Kv:=(cu _).trans zf;replace H:=zid H;obtain⟨Un,H⟩:=H;replace H:=zid H;obtain⟨Am,H⟩:=H;generalize ahe:(afc.set ((Kv):Int).toNat (EC):List Int)=auv at H;have anb:=zY ahe;clear ahe;have acP:0≤(jw:Int):=zD;have acQ:jw<(l0.length:Int):=zD;obtain⟨anc,ane,xZ⟩:=Kd.dQ HR0.out jw acP acQ
 cases ane
 replace xZ:=(HB.out.cell (World.block_lt_of_cell? w _ xZ)).trans xZ;replace acP:=eq_true acP;replace acQ:=eq_true acQ;rotate_left;have acP:0≤(jw:Int):=zD;have acQ:jw<(l0.length:Int):=zD;obtain⟨anc,ane,xZ⟩:=Kd.dQ HR0.out jw acP acQ
 cases ane
 replace xZ:=(HB.out.cell (World.block_lt_of_cell? w _ xZ)).trans xZ;replace acP:=eq_true acP;replace acQ:=eq_true acQ;rotate_left
 ·obtain rfl:=Option.some.inj H.out
  go_wp2
  go_ret
  exact⟨_,by first|exact z3|(simp only[← ED];exact z3)|exact z2,zR fM,zB HB⟩
 all_goals (try go_wp2)
 all_goals
  replace fM:=am (Kd.dJ fM.out);replace HB:=am (aX HB.out);obtain⟨WC,QG,UD⟩:=Kd.dZ fM.out
  (first|subst UD|(injection UD with f1_ f2_ f3_;have f4_:=f1_.symm;have f5_:=f3_.symm;clear f1_ f2_ f3_;subst f4_;subst f5_))
  obtain⟨aHb,aHc,ay7,rfl,H5⟩:=zA (Kd.dQ (Kd.aA fM.out).2.2 jw);have p14:0≤(jw:Int):=zD;have q14:(jw:Int)<((ig.length:Int):Int):=zD;obtain⟨aab,auw,ali,aux,ay8,aHd,auy⟩:=Kd.oH fM.out (by omega)
  (first|cases ali|(injection ali with ea_ en_ ec_;(first|subst ea_|(injection ea_ with ea_;subst ea_));subst ec_;clear en_))
  have ay9:=am aux;have auz:=am auy;clear aux ay8 auy
  (first|simp only[add_plain]at H5|skip)
  obtain⟨aac,aad⟩:=Kd.iQ 0 fM.out (jw:Int) p14 q14;replace p14:=eq_true p14;replace q14:=eq_true q14;have acR:=Kd.N7 fM.out (jw:Int) (Go.bits .or .u64 (rd ig jw) (qL));rw[← ana.out]at acR;have alj:=am acR;clear acR;refine lQ (n:=10) (S:=fun w'=>w'.cell? ⟨aab,(jw).toNat,none⟩=some (.int .u64 (rd ig jw))) (ds := [9]) (Array.replicate 10 false) (by kernel_rfl) rfl rfl (H5) (fun hHeld=>?_);refine gU dH.agp dH.Rz (fun HT_ HW_=>?_)
 ·generalize wr.drew=w23 at fM HB auz alj aad aac H5 hHeld ⊢
  refine zp HT_ 0 (some 19) ?_;refine zp HT_ 1 (some 20) ?_;refine zp HT_ 2 (some 21) ?_;refine zp HT_ 4 (some 23) ?_;refine zp HT_ 5 (some 24) ?_;refine zp HT_ 6 (some 25) ?_;refine zt HT_ HW_ 3 (some 22) hHeld ?_;refine zp HT_ 7 (some 26) ?_;refine zp HT_ 8 (some 27) ?_;refine LC (i:=9) (N:=none) #[true,true,true,true,true,true,true,true,true,true] rfl rfl (AP HT_.out (by kernel_rfl)) (by decide) (fun K hK=>?_);refine vW (w1:=?_) (by rfl) rfl ?_ ?_;rotate_left
  ·go_simp
   rfl
  refine hK.out _ _ ?_;clear hK K;refine oU (iZ HT_.out (by kernel_rfl)) ?_
  have n0_:ae (Kd.R (Kd.int .u64) 25 (w23.setCell ⟨aab,(jw:Int).toNat,none⟩ (.int .u64 (Go.bits .or .u64 (rd ig jw) (qL)))) w.heap.size (fun _=>True) (.slice (some ⟨aab,0,none⟩) ig.length QG) afc):=⟨zR alj⟩
  have n1_:ae (Below w.heap.size w (w23.setCell ⟨aab,(jw:Int).toNat,none⟩ (.int .u64 (Go.bits .or .u64 (rd ig jw) (qL))))):=⟨zB HB⟩
  (try clear fM)
  (try clear HB)
  generalize (w23.setCell ⟨aab,(jw:Int).toNat,none⟩ (.int .u64 (Go.bits .or .u64 (rd ig jw) (qL))))=w26 at n0_ n1_ ⊢;have fM:=n0_;have HB:=n1_;clear n0_ n1_;have p22:0≤((Kv):Int):=zD;have q22:((Kv):Int)<((ig.length:Int):Int):=zD;obtain⟨auA,auB⟩:=Kd.iQ 0 fM.out ((Kv):Int) p22 q22;replace p22:=eq_true p22;replace q22:=eq_true q22;obtain⟨aza,azb⟩:=Kd.iQ 0 fM.out ((Kv):Int) (zD) (zD);have Ky:=Kd.mM fM.out ((Kv):Int) EC
  try go_wp2_with (first|((with_reducible refine fV (t:=25) (p:=37) rfl ?_);refine ed (t:=25) (p:=37) (v:=?UE) (w1:=(w26.setCell ⟨aab,((Kv):Int).toNat,none⟩ (.int .u64 EC))) ?hg ?ho ?hn ?hr ?_;(case ho=>rfl);(case hg=>rfl);(case hn=>rfl);(case hr=>first|(go_simp;done)|(go_simp;rfl));intro w28 hw;have hg:w26.grownBy w28 (some aab):=(by rw[hw];exact Ky.2);have hp_:Kd.R (Kd.int .u64) 25 w28 w.heap.size (fun _=>True) (.slice (some ⟨aab,0,none⟩) ig.length QG) auv:=(by rw[hw,anb.out];exact Ky.1);clear Ky;replace fM:=am (hp_);replace HB:=am ((by rw[hw];exact bQ (HB.out) ay9.out:Below w.heap.size w w28));clear hg hw hp_))
  go_roundg k1
  case measure=>have:=HK1.out;omega
  case rel=>exact⟨(auv),(Kv),(by first|rfl|(simp;done)|(simp only[← zf] <;> (first|rfl|simp))|(simp[*];done)),H,(zH HK1),⟨zR fM⟩,⟨zB HB⟩⟩
 generalize wr.drew=w29 at fM HB auz alj aad aac H5 hHeld ⊢;refine zp HT_ 0 (some 19) ?_;refine zp HT_ 1 (some 20) ?_;refine zp HT_ 2 (some 21) ?_;refine zp HT_ 4 (some 23) ?_;refine zp HT_ 5 (some 24) ?_;refine zp HT_ 6 (some 25) ?_;refine zt HT_ HW_ 3 (some 22) hHeld ?_;refine zp HT_ 7 (some 26) ?_;refine zp HT_ 8 (some 27) ?_;refine LC (i:=9) (N:=none) #[true,true,true,true,true,true,true,true,true,true] rfl rfl (AP HT_.out (by kernel_rfl)) (by decide) (fun K hK=>?_);refine vW (w1:=?_) (by rfl) rfl ?_ ?_;rotate_left
 ·go_simp
  rfl
 refine hK.out _ _ ?_;clear hK K;refine oU (iZ HT_.out (by kernel_rfl)) ?_
 try go_wp2
 go_roundg k1
 case measure=>have:=HK1.out;omega
 case rel=>exact⟨(afc),(wrap64 (jw+1)),z1,H,(zH HK1),⟨zR alj⟩,⟨zB HB⟩⟩
def lY.f (k:Nat)(l0:List Int)(a1:Int):Option (List Int × Option Int):=if a1<0 then (none) else (if a1 > 65536 then (none) else ((bG.f k l0).bind fun t167=>(if (t167.length:Int)=0 then (some (([]:List Int),none)) else (if 0≤(wrap64 (Int.tdiv a1 64)) then (if (wrap64 (Int.tdiv a1 64):Int).toNat≤35184372088832 then ((some (List.replicate (wrap64 (Int.tdiv a1 64):Int).toNat 0:List Int)).bind fun acS=>((dH.f k t167 (Int.tmod a1 64)).bind fun t173=>(if acS.length+t173.length<17592186044416 then ((bG.f k (acS++t173)).bind fun anf=>(some (anf,none))) else (none)))) else (none)) else (none)))))
def lY.T8:Bool × List (List Nat × List Nat):=(true,[([],[]),([0],[0]),([1,1],[1]),([],[]),([],[]),([4],[4]),([3,5],[3,5]),([2,6,6],[2,6]),([7,7],[7]),([8,8,0,1,2,3,4,5,6,7,8],[8]),([9,0,1,2,3,4,5,6,7,8,9],[])])
def lY.B8:List Nat := [0,1,3,0,0,16,56,127,255,511,1023]
theorem lY.ayC:rG .any (opsOf Tryz.f49 8)=lY.T8:=by kernel_rfl
theorem lY.aml:jb lY.T8.2 lY.B8=true:=by kernel_rfl
theorem lY.calls (k:Nat)(P0_:Nat→Prop)(A0:Option Addr)(c0:Nat)(l0:List Int)(a1:Int)(r1:List Int)(r2:Option Int)(w:World)(hs0:Kd.V (Kd.int .u64) 25 w w.heap.size (fun k_=>P0_ k_) (.slice A0 l0.length c0) l0)(h:lY.f k l0 a1=some (r1,r2)) :
    Calls Tryz.prog 49 #[.slice A0 l0.length c0,.int .i64 a1] w fun e w' => ∃ v0_:Value,e=.returned (.tuple #[v0_,rF r2])∧Kd.V (Kd.int .u64) 25 w' w.heap.size (fun k_=>(P0_ k_∨w.heap.size≤k_)) v0_ r1∧Below w.heap.size w w':=by
 have yB:=Tryz.underlying27;have hu64:=Tryz.underlying64;have HO0:=am (show Kd.V (Kd.int .u64) 25 w w.heap.size (fun k_=>(P0_ k_∨w.heap.size≤k_)) (.slice A0 l0.length c0) l0 from Kd.cO hs0 (fun k_ hk => .inl hk));have HB:=am (Below.refl w.heap.size w);have H:=am h;unfold lY.f at H;clear h;replace H:=zjd H;obtain⟨pI,H⟩:=H;replace H:=auj H;obtain⟨jP,H⟩:=H;replace H:=zo H;obtain⟨t167,A5,H⟩:=H;replace H:=zsk H;rcases H with⟨qm,zg,H⟩|⟨qm,zg,c6,H⟩
 ·obtain⟨rfl,rfl⟩:=zJ2 H
  go_enter Tryz.func49,Tryz.ntmps49
  go_wp2_with (first|((with_reducible refine af (f:=103) rfl ?_);refine zc (some 13) Tryz.func103 #[.slice A0 l0.length c0] (bG.calls _ (fun k_=>(P0_ k_∨w.heap.size≤k_)) _ _ _ _ _ HO0.out A5.out) ?_;rintro e w7 ⟨v168,rfl,ho0,hb⟩;refine⟨_,rfl,?_⟩;replace HO0:=zVb HO0 hb;have qM:=am (Kd.dV (Kd.cO (ok':=fun k_=>(P0_ k_∨w.heap.size≤k_)) ho0 (fun k_ hk_=>Or.elim hk_ (fun hs_=>hs_) (fun hn_=>(.inr (Nat.le_trans (zS HB) hn_))))) (zS HB));replace HB:=zBs HB hb;clear hb ho0;obtain⟨Ao8,co8,eo8⟩:=Kd.fJ qM.out;subst eo8))
  go_ret2
  exact⟨_,z2,Kd.JB _ _ _ _ _,zB HB⟩
 have aHe:¬ (t167=[]):=fun h_=>c6 (by rw[h_];rfl);generalize Uu:(wrap64 (Int.tdiv a1 64):Int)=ji9 at H
 (try rw[Uu]at A5)
 have azc:(IntKind.i64.wrap (Int.tdiv a1 64))=ji9:=(cu _).trans Uu;replace H:=zit H;obtain⟨mr,sS,H⟩:=H;replace H:=zit H;obtain⟨qK,zk,H⟩:=H;obtain⟨acS,Yt,H⟩:=zw H;replace H:=zo H;obtain⟨t173,A12,H⟩:=H;replace H:=zil H;obtain⟨ang,H⟩:=H;generalize ahf:(acS++t173:List Int)=anh at H;have ani:=zY ahf;clear ahf;replace H:=zo H;obtain⟨anf,A14,H⟩:=H;obtain⟨rfl,rfl⟩:=zJ2 H
 go_enter Tryz.func49,Tryz.ntmps49
 try go_wp2_with (first|((with_reducible refine af (f:=103) rfl ?_);refine zc (some 13) Tryz.func103 #[.slice A0 l0.length c0] (bG.calls _ (fun k_=>(P0_ k_∨w.heap.size≤k_)) _ _ _ _ _ HO0.out A5.out) ?_;rintro e w15 ⟨v168,rfl,ho0,hb⟩;refine⟨_,rfl,?_⟩;replace HO0:=zVb HO0 hb;have qM:=am (Kd.dV (Kd.cO (ok':=fun k_=>(P0_ k_∨w.heap.size≤k_)) ho0 (fun k_ hk_=>Or.elim hk_ (fun hs_=>hs_) (fun hn_=>(.inr (Nat.le_trans (zS HB) hn_))))) (zS HB));replace HB:=zBs HB hb;clear hb ho0;obtain⟨IP,BX,UF⟩:=Kd.fJ qM.out;subst UF))
 replace HO0:=am (Kd.jq HO0.out);replace qM:=am (Kd.jq qM.out);replace HB:=am (aX HB.out);refine lQ (n:=11) (S:=fun w'=>True) (ds := []) (Array.replicate 11 false) (by kernel_rfl) rfl rfl trivial (fun hHeld=>?_);refine gU lY.ayC lY.aml (fun HT_ HW_=>?_);generalize w15.drew=w17 at HO0 qM HB hHeld ⊢;refine zp HT_ 0 (some 17) ?_;refine zp HT_ 1 (some 18) ?_;refine zp HT_ 3 (some 20) ?_;refine zp HT_ 4 (some 21) ?_;refine zp HT_ 5 (some 22) ?_;refine afE (σ:=Value × Value) 4 #[true,true,true,true,true,true,true,false,false,false,false] (fun s_ => [(19,s_.1),(23,s_.2)]) (fun s_ w'=>(Kd.V (Kd.int .u64) 25 w' w.heap.size (fun k_=>(P0_ k_∨w.heap.size≤k_)∧some k_≠(s_.1:Value).ownBlock∧some k_≠(s_.2:Value).ownBlock) (.slice A0 l0.length c0) l0)∧(Kd.V (Kd.int .u64) 25 w' w.heap.size (fun k_=>(P0_ k_∨w.heap.size≤k_)∧some k_≠(s_.1:Value).ownBlock∧some k_≠(s_.2:Value).ownBlock) (.slice IP t167.length BX) t167)∧(Kd.R (Kd.int .u64) 25 w' w.heap.size (fun k_=>(w.heap.size≤k_)∧some k_≠(s_.2:Value).ownBlock) s_.1 acS)∧(Kd.R (Kd.int .u64) 25 w' w.heap.size (fun k_=>(w.heap.size≤k_)∧some k_≠(s_.1:Value).ownBlock) s_.2 t173)∧(Below w.heap.size w w')) ?_ ?_;rotate_left
 ·intro hCont
  refine aul (i:=2) (j:=6) (Ni:=some 19) (Nj:=some 23) #[true,true,true,true,true,true,false,false,false,false,false] #[true,true,false,true,true,true,true,false,false,false,false] rfl rfl rfl rfl (ZC HT_.out (by kernel_rfl)) (by decide) (by decide) (fun K hK=>?_) (fun K hK=>?_)
  ·skip
   refine Kd.Cc (Kd.int .u64) _ 25 (by rfl) (N:=19) rfl 88 _ _ rfl ji9 (by first|rfl|(simp only[List.length_drop,List.length_take];rfl)) (by first|rfl|(simp only[List.length_drop,List.length_take];rfl)) Tryz.underlying88 (.int .u64 0) 8 info25 rfl (by decide) (by omega) 0 (ok:=fun _=>True) (okp:=fun _=>True) rfl (fun _ hk=>hk) trivial (zD) (Nat.le_trans (Nat.mul_le_mul_right _ (zD:ji9.toNat≤35184372088832)) (by omega)) (Below.refl _ _) (Nat.le_refl _) ?_;intro v171 w18 acT hb hg_ ku;clear hg_ ku
   (first|rw[← Yt.out]at acT|(simp only[Int.reduceToNat]at acT;rw[← Yt.out]at acT))
   replace HO0:=am (Kd.jG (zV HO0) (Kd.gm acT) hb);replace qM:=am (Kd.jG (zV qM) (Kd.gm acT) hb);have H6:=am (Kd.eu (Kd.oI (M:=fun k_=>(w.heap.size≤k_)) acT (zS HB) (fun k_ h_=>h_)) (zS HB));replace HB:=zBs HB hb;clear hb acT;refine hK.out _ _ trivial (fun hHeld=>?_);clear hK K;refine lI (a':=?_) ?_ ?_;rotate_left
   ·show Act.put _ (some 19) _=_
    simp only[Act.put,List.setIfInBounds_toArray,List.set_cons_zero,List.set_cons_succ,cu,fQ]
    rfl
   refine zu HT_ 6 (some 23) (fun K hK=>?_);refine o5 Tryz.func104 (by kernel_rfl) rfl #[.slice IP t167.length BX,.int .i64 (Int.tmod a1 64)] (by rfl) rfl rfl (by (try simp only[List.map_toArray,List.map_cons,List.map_nil]);first|done|rfl|(simp only[List.length_drop,List.length_take];rfl)) ?_
   with_reducible refine (dH.calls k _ _ t167 (Int.tmod a1 64) t173 _ ?fE ?kN A12.out).mono ?_
   (case fE=>repeat (first|exact (Kd.bf qM.out).2.2|(with_reducible refine Kd.lm ?_ _)|(with_reducible refine Kd.lg ?_ _)|(with_reducible refine Kd.nZ ?_)))
   (case kN=>exact (Kd.bf qM.out).2.1)
   rintro e w20 ⟨aae,rfl,ho0,hb⟩;refine⟨_,rfl,?_⟩;replace HO0:=am (Kd.jG (zV HO0) (Kd.gm ho0) hb);replace qM:=am (Kd.jG (zV qM) (Kd.gm ho0) hb);have yc:=am (Kd.eu (Kd.jd (Kd.oI (M:=fun k_=>(w.heap.size≤k_)) ho0 (zS HB) (fun k_ h_=>h_)) (Kd.ql (zR H6))) (zS HB));replace H6:=am (Kd.gp (zR H6) (Kd.gm ho0) hb);replace HB:=zBs HB hb
   (try clear hb)
   (try clear hb2)
   (try clear hk)
   (try clear hi)
   (try clear ho0)
   refine hK.out _ _ trivial (fun hHeld=>?_);clear hK K;refine lI (a':=?_) ?_ ?_;rotate_left
   ·show Act.put _ (some 23) _=_
    simp only[Act.put,List.setIfInBounds_toArray,List.set_cons_zero,List.set_cons_succ,cu,fQ]
    rfl
   exact lI (by simp only[yI,Act.put,List.setIfInBounds_toArray,List.set_cons_zero,List.set_cons_succ]) (hCont (v171,aae) _ ⟨(by (with_reducible repeat (first|apply Kd.jJ|apply Kd.jK|apply Kd.jq));exact Kd.cO HO0.out (fun _ hk=>⟨hk.1.1,⟨hk.1.2,hk.2⟩⟩)),(by (with_reducible repeat (first|apply Kd.jJ|apply Kd.jK|apply Kd.jq));exact Kd.cO qM.out (fun _ hk=>⟨hk.1.1,⟨hk.1.2,hk.2⟩⟩)),(by (with_reducible repeat (first|apply Kd.dh|apply Kd.df|apply Kd.dJ));exact Kd.dw H6.out (fun _ hk=>⟨hk.1.1,hk.2⟩)),(by (with_reducible repeat (first|apply Kd.dh|apply Kd.df|apply Kd.dJ));exact Kd.dw yc.out (fun _ hk=>⟨hk.1.1,hk.2⟩)),(zB HB)⟩)
  skip
  refine o5 Tryz.func104 (by kernel_rfl) rfl #[.slice IP t167.length BX,.int .i64 (Int.tmod a1 64)] (by rfl) rfl rfl (by (try simp only[List.map_toArray,List.map_cons,List.map_nil]);first|done|rfl|(simp only[List.length_drop,List.length_take];rfl)) ?_
  with_reducible refine (dH.calls k _ _ t167 (Int.tmod a1 64) t173 _ ?fE ?kN A12.out).mono ?_
  (case fE=>repeat (first|exact (Kd.bf qM.out).2.2|(with_reducible refine Kd.lm ?_ _)|(with_reducible refine Kd.lg ?_ _)|(with_reducible refine Kd.nZ ?_)))
  (case kN=>exact (Kd.bf qM.out).2.1)
  rintro e w18 ⟨aae,rfl,ho0,hb⟩;refine⟨_,rfl,?_⟩;replace HO0:=am (Kd.jG (zV HO0) (Kd.gm ho0) hb);replace qM:=am (Kd.jG (zV qM) (Kd.gm ho0) hb);have yc:=am (Kd.eu (Kd.oI (M:=fun k_=>(w.heap.size≤k_)) ho0 (zS HB) (fun k_ h_=>h_)) (zS HB));replace HB:=zBs HB hb
  (try clear hb)
  (try clear hb2)
  (try clear hk)
  (try clear hi)
  (try clear ho0)
  refine hK.out _ _ trivial (fun hHeld=>?_);clear hK K;refine lI (a':=?_) ?_ ?_;rotate_left
  ·show Act.put _ (some 23) _=_
   simp only[Act.put,List.setIfInBounds_toArray,List.set_cons_zero,List.set_cons_succ,cu,fQ]
   rfl
  refine zu HT_ 2 (some 19) (fun K hK=>?_);refine Kd.Cc (Kd.int .u64) _ 25 (by rfl) (N:=19) rfl 88 _ _ rfl ji9 (by first|rfl|(simp only[List.length_drop,List.length_take];rfl)) (by first|rfl|(simp only[List.length_drop,List.length_take];rfl)) Tryz.underlying88 (.int .u64 0) 8 info25 rfl (by decide) (by omega) 0 (ok:=fun _=>True) (okp:=fun _=>True) rfl (fun _ hk=>hk) trivial (zD) (Nat.le_trans (Nat.mul_le_mul_right _ (zD:ji9.toNat≤35184372088832)) (by omega)) (Below.refl _ _) (Nat.le_refl _) ?_;intro v171 w19 JW hb hg_ ku;clear hg_ ku
  (first|rw[← Yt.out]at JW|(simp only[Int.reduceToNat]at JW;rw[← Yt.out]at JW))
  replace HO0:=am (Kd.jG (zV HO0) (Kd.gm JW) hb);replace qM:=am (Kd.jG (zV qM) (Kd.gm JW) hb);have H6:=am (Kd.eu (Kd.jd (Kd.oI (M:=fun k_=>(w.heap.size≤k_)) JW (zS HB) (fun k_ h_=>h_)) (Kd.ql (zR yc))) (zS HB));replace yc:=am (Kd.gp (zR yc) (Kd.gm JW) hb);replace HB:=zBs HB hb;clear hb JW;refine hK.out _ _ trivial (fun hHeld=>?_);clear hK K;refine lI (a':=?_) ?_ ?_;rotate_left
  ·show Act.put _ (some 19) _=_
   simp only[Act.put,List.setIfInBounds_toArray,List.set_cons_zero,List.set_cons_succ,cu,fQ]
   rfl
  exact lI (by simp only[yI,Act.put,List.setIfInBounds_toArray,List.set_cons_zero,List.set_cons_succ]) (hCont (v171,aae) _ ⟨(by (with_reducible repeat (first|apply Kd.jJ|apply Kd.jK|apply Kd.jq));exact Kd.cO HO0.out (fun _ hk=>⟨hk.1.1,⟨hk.2,hk.1.2⟩⟩)),(by (with_reducible repeat (first|apply Kd.jJ|apply Kd.jK|apply Kd.jq));exact Kd.cO qM.out (fun _ hk=>⟨hk.1.1,⟨hk.2,hk.1.2⟩⟩)),(by (with_reducible repeat (first|apply Kd.dh|apply Kd.df|apply Kd.dJ));exact Kd.dw H6.out (fun _ hk=>⟨hk.1.1,hk.2⟩)),(by (with_reducible repeat (first|apply Kd.dh|apply Kd.df|apply Kd.dJ));exact Kd.dw yc.out (fun _ hk=>⟨hk.1.1,hk.2⟩)),(zB HB)⟩)
 rintro⟨v171,aae⟩ w21 ⟨h0_,h1_,h2_,h3_,h4_⟩
 have n0_:ae (Kd.V (Kd.int .u64) 25 w21 w.heap.size (fun k_=>(P0_ k_∨w.heap.size≤k_)∧some k_≠(v171:Value).ownBlock∧some k_≠(aae:Value).ownBlock) (.slice A0 l0.length c0) l0):=⟨h0_⟩
 have n1_:ae (Kd.V (Kd.int .u64) 25 w21 w.heap.size (fun k_=>(P0_ k_∨w.heap.size≤k_)∧some k_≠(v171:Value).ownBlock∧some k_≠(aae:Value).ownBlock) (.slice IP t167.length BX) t167):=⟨h1_⟩
 have n2_:ae (Kd.R (Kd.int .u64) 25 w21 w.heap.size (fun k_=>(w.heap.size≤k_)∧some k_≠(aae:Value).ownBlock) v171 acS):=⟨h2_⟩
 have n3_:ae (Kd.R (Kd.int .u64) 25 w21 w.heap.size (fun k_=>(w.heap.size≤k_)∧some k_≠(v171:Value).ownBlock) aae t173):=⟨h3_⟩
 have n4_:ae (Below w.heap.size w w21):=⟨h4_⟩
 clear HO0;clear qM;clear HB;clear h0_ h1_ h2_ h3_ h4_;have HO0:=n0_;have qM:=n1_;have H6:=n2_;have yc:=n3_;have HB:=n4_;clear n0_ n1_ n2_ n3_ n4_;have hHeld:=trivial;obtain⟨DD,yf,UG⟩:=Kd.dZ yc.out
 (first|subst UG|(injection UG with f1_ f2_ f3_;have f4_:=f1_.symm;have f5_:=f3_.symm;clear f1_ f2_ f3_;subst f4_;subst f5_))
 refine lI (a':=?_) ?_ ?_;rotate_left
 ·simp only[yI,Act.put,List.setIfInBounds_toArray,List.set_cons_zero,List.set_cons_succ]
  rfl
 refine zu HT_ 7 (some 24) (fun K hK=>?_);refine Kd.yP (Kd.int .u64) (w0:=w) w.heap.size (by rfl) (.tmp 19) (.tmp 23) 88 25 (.int .u64 0) 8 rfl Tryz.underlying88 info25 rfl (by decide) (by omega) v171 acS t173 _ _ _ (fun k_=>(w.heap.size≤k_)∧some k_≠(.slice DD t173.length yf:Value).ownBlock) (fun _=>False) rfl rfl ?aO ?aR (fun _ _ h=>h) (fun _ h=>h.elim) ?aF ?aB ?aS ?aL ?_
 (case aR=>repeat (first|exact (Kd.aA yc.out).2.2|(with_reducible refine Kd.lm ?_ _)|(with_reducible refine Kd.lg ?_ _)|(with_reducible refine Kd.nZ ?_)))
 (case aB=>exact (zB HB))
 (case aF=>exact (fun k_ hk=>⟨(Nat.le_trans (zS HB) hk),Kd.fresh' (Kd.ql (zR yc)) k_ hk⟩))
 (case aO=>exact (zR H6))
 (case aS=>exact (zS HB))
 (case aL=>have:=ang.out;omega)
 intro aHf w22 ho hb hg hat;rw[← ani.out]at ho;replace HO0:=am (Kd.jr (ok:=(fun k_=>(P0_ k_∨w.heap.size≤k_)∧some k_≠(.slice DD t173.length yf:Value).ownBlock)) (by (with_reducible repeat (first|apply Kd.jJ|apply Kd.jK|apply Kd.jq));exact Kd.cO HO0.out (fun _ hk=>⟨⟨hk.1,hk.2.2⟩,hk.2.1⟩)) hg hat);replace qM:=am (Kd.jr (ok:=(fun k_=>(P0_ k_∨w.heap.size≤k_)∧some k_≠(.slice DD t173.length yf:Value).ownBlock)) (by (with_reducible repeat (first|apply Kd.jJ|apply Kd.jK|apply Kd.jq));exact Kd.cO qM.out (fun _ hk=>⟨⟨hk.1,hk.2.2⟩,hk.2.1⟩)) hg hat);replace yc:=am (Kd.uG (ok:=(fun k_=>(w.heap.size≤k_))) (zR yc) hg hat);replace HB:=am (hb);have PX:=am (ho);clear H6 ho hb hg hat;obtain⟨WC,QG,UD⟩:=Kd.dZ PX.out
 (first|subst UD|(injection UD with f1_ f2_ f3_;have f4_:=f1_.symm;have f5_:=f3_.symm;clear f1_ f2_ f3_;subst f4_;subst f5_))
 refine hK.out _ _ trivial (fun hHeld=>?_);clear hK K;refine lI (a':=?_) ?_ ?_;rotate_left
 ·show Act.put _ (some 24) _=_
  simp only[Act.put,List.setIfInBounds_toArray,List.set_cons_zero,List.set_cons_succ,cu,fQ]
  rfl
 refine zu HT_ 8 (some 25) (fun K hK=>?_);refine o5 Tryz.func103 (by kernel_rfl) rfl #[.slice WC anh.length QG] (by rfl) rfl rfl (by (try simp only[List.map_toArray,List.map_cons,List.map_nil]);first|done|rfl|(simp only[List.length_drop,List.length_take];rfl)) ?_
 with_reducible refine (bG.calls k (fun k_=>some k_=(.slice WC anh.length QG:Value).ownBlock) _ _ anh anf _ ?fE A14.out).mono ?_
 (case fE=>exact Kd.R_V (Kd.jX rfl (PX.out)))
 rintro e w25 ⟨aHg,rfl,ho0,hb⟩;refine⟨_,rfl,?_⟩;replace HO0:=zVb HO0 hb;replace qM:=zVb qM hb;have anj:=am (Kd.dV (Kd.cO (ok':=fun k_=>(P0_ k_∨w.heap.size≤k_)∧some k_≠(.slice DD t173.length yf:Value).ownBlock) ho0 (fun k_ hk_=>⟨Or.elim hk_ (fun hs_=>(.inr (((PX.out).1 k_ hs_.symm).1))) (fun hn_=>(.inr (Nat.le_trans (zS HB) hn_))),Or.elim hk_ (fun hs_=>((PX.out).1 k_ hs_.symm).2) (fun hn_=>(Kd.fresh' (Kd.ql (zR yc)) k_ hn_))⟩)) (zS HB));replace yc:=zRb yc hb;replace PX:=zRb PX hb;replace HB:=zBs HB hb
 (try clear hb)
 (try clear hb2)
 (try clear hk)
 (try clear hi)
 (try clear ho0)
 refine hK.out _ _ trivial (fun hHeld=>?_);clear hK K;refine lI (a':=?_) ?_ ?_;rotate_left
 ·show Act.put _ (some 25) _=_
  simp only[Act.put,List.setIfInBounds_toArray,List.set_cons_zero,List.set_cons_succ,cu,fQ]
  rfl
 refine zp HT_ 9 (some 4) ?_;refine zp HT_ 10 (some 5) ?_;refine oU (iZ HT_.out (by kernel_rfl)) ?_
 try go_wp2
 go_ret2
 exact⟨_,by first|exact z3|(simp only[← Uu];exact z3)|exact z2,by (with_reducible repeat (first|apply Kd.jJ|apply Kd.jK|apply Kd.jq));exact Kd.cO anj.out (fun _ hk=>hk.1),zB HB⟩
def bits_Mul64.f (a0:Int)(a1:Int):Option (Int × Int):=some (IntKind.u64.wrap ((IntKind.u64.wrap ((IntKind.u64.wrap ((a0 / 4294967296)*(a1 / 4294967296)))+((IntKind.u64.wrap ((IntKind.u64.wrap ((a0 / 4294967296)*(Go.bits .and .u64 a1 4294967295)))+((IntKind.u64.wrap ((Go.bits .and .u64 a0 4294967295)*(Go.bits .and .u64 a1 4294967295))) / 4294967296))) / 4294967296)))+((IntKind.u64.wrap ((Go.bits .and .u64 (IntKind.u64.wrap ((IntKind.u64.wrap ((a0 / 4294967296)*(Go.bits .and .u64 a1 4294967295)))+((IntKind.u64.wrap ((Go.bits .and .u64 a0 4294967295)*(Go.bits .and .u64 a1 4294967295))) / 4294967296))) 4294967295)+(IntKind.u64.wrap ((Go.bits .and .u64 a0 4294967295)*(a1 / 4294967296))))) / 4294967296)),IntKind.u64.wrap (a0*a1))
theorem bits_Mul64.calls (a0:Int)(a1:Int)(r1:Int)(r2:Int)(w:World)(h:bits_Mul64.f a0 a1=some (r1,r2)) :
    Calls Tryz.prog 178 #[.int .u64 a0,.int .u64 a1] w fun e w'=>e=.returned (.tuple #[.int .u64 r1,.int .u64 r2])∧dR w w':=by
 have H:=am h;unfold bits_Mul64.f at H;clear h;obtain⟨rfl,rfl⟩:=zJ2 H
 go_enter Tryz.func178,Tryz.ntmps178
 go_wp2
 go_ret2
 exact⟨z1,z4⟩
mutual
def aN.j2:Nat→Int→Int→Int→Int→Int→Int→Int→Int→Option (Int × Int)
  | 0,_,_,_,_,_,_,_,_=>none
  | k+1,x2,x8,x9,x10,x11,x13,x14,x15=>if x9=0 then (none) else (aN.l1 k x2 x8 x9 x10 x14 x15 (IntKind.u64.wrap ((IntKind.u64.wrap ((IntKind.u64.wrap ((IntKind.u64.wrap (x11*4294967296))+x13))-(IntKind.u64.wrap (x15*x2))))-(IntKind.u64.wrap ((IntKind.u64.wrap (Int.tdiv (IntKind.u64.wrap ((IntKind.u64.wrap ((IntKind.u64.wrap (x11*4294967296))+x13))-(IntKind.u64.wrap (x15*x2)))) x9))*x9)))) (IntKind.u64.wrap ((IntKind.u64.wrap ((IntKind.u64.wrap (x11*4294967296))+x13))-(IntKind.u64.wrap (x15*x2)))) (IntKind.u64.wrap (Int.tdiv (IntKind.u64.wrap ((IntKind.u64.wrap ((IntKind.u64.wrap (x11*4294967296))+x13))-(IntKind.u64.wrap (x15*x2)))) x9)))
def aN.l1:Nat→Int→Int→Int→Int→Int→Int→Int→Int→Int→Option (Int × Int)
  | 0,_,_,_,_,_,_,_,_,_=>none
  | k+1,x2,x8,x9,x10,x14,x15,x16,x17,x18=>if x18≥4294967296 then (aN.j4 k x2 x8 x9 x10 x14 x15 x16 x17 x18 true) else (aN.j4 k x2 x8 x9 x10 x14 x15 x16 x17 x18 (decide ((IntKind.u64.wrap (x18*x10)) > (IntKind.u64.wrap ((IntKind.u64.wrap (4294967296*x16))+x14)))))
def aN.j4:Nat→Int→Int→Int→Int→Int→Int→Int→Int→Int→Bool→Option (Int × Int)
  | 0,_,_,_,_,_,_,_,_,_,_=>none
  | k+1,x2,x8,x9,x10,x14,x15,x16,x17,x18,x113=>if x113=true then (if (IntKind.u64.wrap (x16+x9))≥4294967296 then (if 0≤x8 then (some (IntKind.u64.wrap ((IntKind.u64.wrap (x15*4294967296))+(IntKind.u64.wrap (x18-1))),shr .u64 (IntKind.u64.wrap ((IntKind.u64.wrap ((IntKind.u64.wrap (x17*4294967296))+x14))-(IntKind.u64.wrap ((IntKind.u64.wrap (x18-1))*x2)))) x8)) else (none)) else (aN.l1 k x2 x8 x9 x10 x14 x15 (IntKind.u64.wrap (x16+x9)) x17 (IntKind.u64.wrap (x18-1)))) else (if 0≤x8 then (some (IntKind.u64.wrap ((IntKind.u64.wrap (x15*4294967296))+x18),shr .u64 (IntKind.u64.wrap ((IntKind.u64.wrap ((IntKind.u64.wrap (x17*4294967296))+x14))-(IntKind.u64.wrap (x18*x2)))) x8)) else (none))
def aN.l0:Nat→Int→Int→Int→Int→Int→Int→Int→Int→Int→Option (Int × Int)
  | 0,_,_,_,_,_,_,_,_,_=>none
  | k+1,x2,x8,x9,x10,x11,x13,x14,x15,x16=>if x15≥4294967296 then (aN.j1 k x2 x8 x9 x10 x11 x13 x14 x15 x16 true) else (aN.j1 k x2 x8 x9 x10 x11 x13 x14 x15 x16 (decide ((IntKind.u64.wrap (x15*x10)) > (IntKind.u64.wrap ((IntKind.u64.wrap (4294967296*x16))+x13)))))
def aN.j1:Nat→Int→Int→Int→Int→Int→Int→Int→Int→Int→Bool→Option (Int × Int)
  | 0,_,_,_,_,_,_,_,_,_,_=>none
  | k+1,x2,x8,x9,x10,x11,x13,x14,x15,x16,x78=>if x78=true then (if (IntKind.u64.wrap (x16+x9))≥4294967296 then (aN.j2 k x2 x8 x9 x10 x11 x13 x14 (IntKind.u64.wrap (x15-1))) else (aN.l0 k x2 x8 x9 x10 x11 x13 x14 (IntKind.u64.wrap (x15-1)) (IntKind.u64.wrap (x16+x9)))) else (aN.j2 k x2 x8 x9 x10 x11 x13 x14 x15)
end
def aN.f (k:Nat)(a0:Int)(a1:Int)(a2:Int):Option (Int × Int):=if a2=0 then (none) else (if a2≤a0 then (none) else (if a0=0 then (some (IntKind.u64.wrap (Int.tdiv a1 a2),Int.tmod a1 a2)) else ((bits_LeadingZeros64.f k a2).bind fun BZ=>(if 0≤(IntKind.u64.wrap (BZ)) then (if 0≤(IntKind.u64.wrap (64-(IntKind.u64.wrap (BZ)))) then (if ((shl .u64 a2 (IntKind.u64.wrap (BZ))) / 4294967296)=0 then (none) else (aN.l0 k (shl .u64 a2 (IntKind.u64.wrap (BZ))) (IntKind.u64.wrap (BZ)) ((shl .u64 a2 (IntKind.u64.wrap (BZ))) / 4294967296) (Go.bits .and .u64 (shl .u64 a2 (IntKind.u64.wrap (BZ))) 4294967295) (Go.bits .or .u64 (shl .u64 a0 (IntKind.u64.wrap (BZ))) (shr .u64 a1 (IntKind.u64.wrap (64-(IntKind.u64.wrap (BZ)))))) ((shl .u64 a1 (IntKind.u64.wrap (BZ))) / 4294967296) (Go.bits .and .u64 (shl .u64 a1 (IntKind.u64.wrap (BZ))) 4294967295) (IntKind.u64.wrap (Int.tdiv (Go.bits .or .u64 (shl .u64 a0 (IntKind.u64.wrap (BZ))) (shr .u64 a1 (IntKind.u64.wrap (64-(IntKind.u64.wrap (BZ)))))) ((shl .u64 a2 (IntKind.u64.wrap (BZ))) / 4294967296))) (IntKind.u64.wrap ((Go.bits .or .u64 (shl .u64 a0 (IntKind.u64.wrap (BZ))) (shr .u64 a1 (IntKind.u64.wrap (64-(IntKind.u64.wrap (BZ))))))-(IntKind.u64.wrap ((IntKind.u64.wrap (Int.tdiv (Go.bits .or .u64 (shl .u64 a0 (IntKind.u64.wrap (BZ))) (shr .u64 a1 (IntKind.u64.wrap (64-(IntKind.u64.wrap (BZ)))))) ((shl .u64 a2 (IntKind.u64.wrap (BZ))) / 4294967296)))*((shl .u64 a2 (IntKind.u64.wrap (BZ))) / 4294967296))))))) else (none)) else (none)))))
theorem aN.calls (k:Nat)(a0:Int)(a1:Int)(a2:Int)(r1:Int)(r2:Int)(w:World)(h:aN.f k a0 a1 a2=some (r1,r2)) :
    Calls Tryz.prog 164 #[.int .u64 a0,.int .u64 a1,.int .u64 a2] w fun e w'=>e=.returned (.tuple #[.int .u64 r1,.int .u64 r2])∧dR w w':=by
 have H:=am h;unfold aN.f at H;clear h;replace H:=zjk H;obtain⟨jP,sQ,c4,H⟩:=H;replace H:=zjd H;obtain⟨qg,H⟩:=H;replace H:=zsk H;rcases H with⟨qm,zg,H⟩|⟨qm,zg,c6,H⟩
 ·obtain⟨rfl,rfl⟩:=zJ2 H
  go_enter Tryz.func164,Tryz.ntmps164
  go_wp2
  repeat (go_quiet (fail);try go_wp2)
  go_ret2
  exact⟨z1,z4⟩
 replace H:=zo H;obtain⟨BZ,A7,H⟩:=H;generalize uh:(IntKind.u64.wrap (BZ):Int)=ji8 at H
 (try rw[uh]at A7)
 replace H:=zit H;obtain⟨wu,Ez,H⟩:=H;generalize Aq:(shl .u64 a2 (ji8):Int)=tu at H
 (try rw[Aq]at A7)
 have auC:(IntKind.u64.wrap (a2*2 ^ min (ji8).toNat 64))=tu:=Aq;have auD:(ji8)≤64→(IntKind.u64.wrap (a2*2 ^ (ji8).toNat))=tu:=iW Aq;have qK:=eq_true (zD:0≤(ji8));generalize H7:(shl .u64 a0 (ji8):Int)=H8 at H
 (try rw[H7]at A7)
 have auE:(IntKind.u64.wrap (a0*2 ^ min (ji8).toNat 64))=H8:=H7;have auF:(ji8)≤64→(IntKind.u64.wrap (a0*2 ^ (ji8).toNat))=H8:=iW H7;generalize qN:(IntKind.u64.wrap (64-(ji8)):Int)=qL at H
 (try rw[qN]at A7)
 replace H:=zit H;obtain⟨ww,LM,H⟩:=H;generalize uT:(shr .u64 a1 (qL):Int)=Ar at H
 (try rw[uT]at A7)
 have aaf:(a1 / 2 ^ min (qL).toNat 64)=Ar:=uT;have aag:(qL)≤64→(a1 / 2 ^ (qL).toNat)=Ar:=kE uT;have H9:=eq_true (zD:0≤(ji8));generalize Au:(shl .u64 a1 (ji8):Int)=xm at H
 (try rw[Au]at A7)
 have ahg:(IntKind.u64.wrap (a1*2 ^ min (ji8).toNat 64))=xm:=Au;have auG:(ji8)≤64→(IntKind.u64.wrap (a1*2 ^ (ji8).toNat))=xm:=iW Au;replace H:=zjk H;obtain⟨PY,acU,c18,H⟩:=H
 go_enter Tryz.func164,Tryz.ntmps164
 go_upto_block 0 with (first|(go_at_call 184;(with_reducible refine (bits_LeadingZeros64.calls _ _ _ _ A7.out).mono ?_);rintro e w' ⟨rfl,⟨nd,rfl⟩⟩;(try first|exact⟨rfl,_,World.drewN_drewN _ _ _⟩|exact⟨rfl,_,Eq.trans (World.drewN_drewN _ _ _) (congrArg (World.drewN _) (Nat.add_assoc _ _ _))⟩)))
 repeat (go_quiet (first|(go_at_call 184;(with_reducible refine (bits_LeadingZeros64.calls k a2 BZ _ A7.out).mono ?_);rintro e w' ⟨rfl,⟨nd,rfl⟩⟩;(try first|exact⟨rfl,_,World.drewN_drewN _ _ _⟩|exact⟨rfl,_,Eq.trans (World.drewN_drewN _ _ _) (congrArg (World.drewN _) (Nat.add_assoc _ _ _))⟩)));go_upto_block 0 with (first|(go_at_call 184;(with_reducible refine (bits_LeadingZeros64.calls k a2 BZ _ A7.out).mono ?_);rintro e w' ⟨rfl,⟨nd,rfl⟩⟩;(try first|exact⟨rfl,_,World.drewN_drewN _ _ _⟩|exact⟨rfl,_,Eq.trans (World.drewN_drewN _ _ _) (congrArg (World.drewN _) (Nat.add_assoc _ _ _))⟩))))
 (try simp only[Act.put,List.setIfInBounds_toArray,List.set_cons_zero,List.set_cons_succ])
 go_cut [15] (fun v15 wc => ∃ (kq:Nat) (qV:Int),v15=.int .u64 qV∧ae (aN.j2 kq tu ji8 ((tu) / 4294967296) (Go.bits .and .u64 (tu) 4294967295) (Go.bits .or .u64 (H8) (Ar)) ((xm) / 4294967296) (Go.bits .and .u64 (xm) 4294967295) qV=some (r1,r2))∧ae (kq≤k)∧dR w wc)
 case first =>
  go_wp2
  repeat (go_quiet (fail);try go_wp2)
  go_loopg [15,16] k (fun kq v15 v16 w' => ∃ (JX:Int) (PZ:Int),v15=.int .u64 JX∧v16=.int .u64 PZ∧ae (aN.l0 kq tu ji8 ((tu) / 4294967296) (Go.bits .and .u64 (tu) 4294967295) (Go.bits .or .u64 (H8) (Ar)) ((xm) / 4294967296) (Go.bits .and .u64 (xm) 4294967295) JX PZ=some (r1,r2))∧ae (kq≤k)∧dR w w')
  case atStart=>exact⟨(IntKind.u64.wrap (Int.tdiv (Go.bits .or .u64 (H8) (Ar)) ((tu) / 4294967296))),(IntKind.u64.wrap ((Go.bits .or .u64 (H8) (Ar))-(IntKind.u64.wrap ((IntKind.u64.wrap (Int.tdiv (Go.bits .or .u64 (H8) (Ar)) ((tu) / 4294967296)))*((tu) / 4294967296))))),(by first|rfl|(simp;done)|(simp only[← Aq, ← H7, ← uT] <;> (first|rfl|simp))|(simp[*];done)),(by first|rfl|(simp;done)|(simp only[← Aq, ← H7, ← uT] <;> (first|rfl|simp))|(simp[*];done)),H,zL,z4⟩
  clear H;obtain⟨JX,PZ,rfl,rfl,H,HK1,⟨m1,rfl⟩⟩:=hrel;obtain _|k1:=gk
  ·exact zz H rfl
  simp only[aN.l0]at H
  go_upto_region 17 with (fail)
  repeat (go_quiet (fail);go_upto_region 17 with (fail))
  go_cut [78] (fun v78 wc => ∃ (kq:Nat) (OC:Bool),v78=.bool OC∧ae (aN.j1 kq tu ji8 ((tu) / 4294967296) (Go.bits .and .u64 (tu) 4294967295) (Go.bits .or .u64 (H8) (Ar)) ((xm) / 4294967296) (Go.bits .and .u64 (xm) 4294967295) JX PZ OC=some (r1,r2))∧ae (kq≤k1)∧dR w wc)
  case first =>
   replace H:=yH H;rcases H with⟨Am,H⟩|⟨Am,H⟩
   (first|rw[Am]|(simp only[cu,fQ];rw[Am])|rw[Ym]|skip)
   rotate_left
   (first|rw[Am]|(simp only[cu,fQ];rw[Am])|rw[Ym]|skip)
   rotate_left
   all_goals (go_wp2;repeat (go_quiet (fail);try go_wp2))
   ·go_meet
    case rel=>exact⟨_,(true),z1,H,⟨by have:=HK1.out;first|omega|exact Nat.le_refl _⟩,z4⟩
   go_meet
   case rel=>exact⟨_,(decide ((IntKind.u64.wrap (JX*(Go.bits .and .u64 (tu) 4294967295))) > (IntKind.u64.wrap ((IntKind.u64.wrap (4294967296*PZ))+((xm) / 4294967296))))),(by first|rfl|(simp;done)|(simp only[← Aq, ← Au] <;> (first|rfl|simp))|(simp[*];done)),H,⟨by have:=HK1.out;first|omega|exact Nat.le_refl _⟩,z4⟩
  case rest =>
   obtain⟨kq,OC,rfl,H,alk,⟨aHh,rfl⟩⟩:=hcut;obtain _|azd:=kq
   ·exact zz H rfl
   simp only[aN.j1]at H
   cases OC
   replace H:=zb0 H;rotate_left;replace H:=zb1 H;replace H:=yH H;rcases H with⟨LP,H⟩|⟨LP,H⟩;rotate_left;rotate_left
   all_goals (go_wp2;repeat (go_quiet (fail);try go_wp2))
   ·go_meet
    case rel=>exact⟨_,(JX),z1,H,⟨by have:=HK1.out;have:=alk.out;first|omega|exact Nat.le_refl _⟩,z4⟩
   ·go_meet
    case rel=>exact⟨_,(IntKind.u64.wrap (JX-1)),z1,H,⟨by have:=HK1.out;have:=alk.out;first|omega|exact Nat.le_refl _⟩,z4⟩
   go_roundg azd
   case measure=>have:=HK1.out;have:=alk.out;omega
   case rel=>exact⟨(IntKind.u64.wrap (JX-1)),(IntKind.u64.wrap (PZ+((tu) / 4294967296))),z1,(by first|rfl|(simp;done)|(simp only[← Aq] <;> (first|rfl|simp))|(simp[*];done)),H,⟨by have:=HK1.out;have:=alk.out;omega⟩,z4⟩
 case rest =>
  obtain⟨kq,qV,rfl,H,alm,⟨aHi,rfl⟩⟩:=hcut;obtain _|auH:=kq
  ·exact zz H rfl
  simp only[aN.j2]at H;replace H:=zjk H;obtain⟨LQ,aze,c24,H⟩:=H
  go_wp2
  repeat (go_quiet (fail);try go_wp2)
  go_loopg [16,18] auH (fun kq v16 v18 w' => ∃ (DF:Int) (Bz:Int),v16=.int .u64 DF∧v18=.int .u64 Bz∧ae (aN.l1 kq tu ji8 ((tu) / 4294967296) (Go.bits .and .u64 (tu) 4294967295) (Go.bits .and .u64 (xm) 4294967295) qV DF (IntKind.u64.wrap ((IntKind.u64.wrap ((IntKind.u64.wrap ((Go.bits .or .u64 (H8) (Ar))*4294967296))+((xm) / 4294967296)))-(IntKind.u64.wrap (qV*tu)))) Bz=some (r1,r2))∧ae (kq≤auH)∧dR w w')
  case atStart=>exact⟨(IntKind.u64.wrap ((IntKind.u64.wrap ((IntKind.u64.wrap ((IntKind.u64.wrap ((Go.bits .or .u64 (H8) (Ar))*4294967296))+((xm) / 4294967296)))-(IntKind.u64.wrap (qV*tu))))-(IntKind.u64.wrap ((IntKind.u64.wrap (Int.tdiv (IntKind.u64.wrap ((IntKind.u64.wrap ((IntKind.u64.wrap ((Go.bits .or .u64 (H8) (Ar))*4294967296))+((xm) / 4294967296)))-(IntKind.u64.wrap (qV*tu)))) ((tu) / 4294967296)))*((tu) / 4294967296))))),(IntKind.u64.wrap (Int.tdiv (IntKind.u64.wrap ((IntKind.u64.wrap ((IntKind.u64.wrap ((Go.bits .or .u64 (H8) (Ar))*4294967296))+((xm) / 4294967296)))-(IntKind.u64.wrap (qV*tu)))) ((tu) / 4294967296))),(by first|rfl|(simp;done)|(simp only[← Aq, ← H7, ← uT, ← Au] <;> (first|rfl|simp))|(simp[*];done)),(by first|rfl|(simp;done)|(simp only[← Aq, ← H7, ← uT, ← Au] <;> (first|rfl|simp))|(simp[*];done)),H,zL,z4⟩
  clear H;obtain⟨DF,Bz,rfl,rfl,H,HK2,⟨m2,rfl⟩⟩:=hrel;obtain _|k2:=gk
  ·exact zz H rfl
  simp only[aN.l1]at H
  go_upto_region 24 with (fail)
  repeat (go_quiet (fail);go_upto_region 24 with (fail))
  go_cut [113] (fun azf wc => ∃ (kq:Nat) (Ia:Bool),azf=.bool Ia∧ae (aN.j4 kq tu ji8 ((tu) / 4294967296) (Go.bits .and .u64 (tu) 4294967295) (Go.bits .and .u64 (xm) 4294967295) qV DF (IntKind.u64.wrap ((IntKind.u64.wrap ((IntKind.u64.wrap ((Go.bits .or .u64 (H8) (Ar))*4294967296))+((xm) / 4294967296)))-(IntKind.u64.wrap (qV*tu)))) Bz Ia=some (r1,r2))∧ae (kq≤k2)∧dR w wc)
  case first =>
   replace H:=yH H;rcases H with⟨P5,H⟩|⟨P5,H⟩
   (first|rw[P5]|(simp only[cu,fQ];rw[P5])|rw[ank]|skip)
   rotate_left
   (first|rw[P5]|(simp only[cu,fQ];rw[P5])|rw[ank]|skip)
   rotate_left
   all_goals (go_wp2;repeat (go_quiet (fail);try go_wp2))
   ·go_meet
    case rel=>exact⟨_,(true),z1,H,⟨by have:=alm.out;have:=HK2.out;first|omega|exact Nat.le_refl _⟩,z4⟩
   go_meet
   case rel=>exact⟨_,(decide ((IntKind.u64.wrap (Bz*(Go.bits .and .u64 (tu) 4294967295))) > (IntKind.u64.wrap ((IntKind.u64.wrap (4294967296*DF))+(Go.bits .and .u64 (xm) 4294967295))))),(by first|rfl|(simp;done)|(simp only[← Aq, ← Au] <;> (first|rfl|simp))|(simp[*];done)),H,⟨by have:=alm.out;have:=HK2.out;first|omega|exact Nat.le_refl _⟩,z4⟩
  case rest =>
   obtain⟨kq,Ia,rfl,H,auI,⟨aHj,rfl⟩⟩:=hcut;obtain _|azg:=kq
   ·exact zz H rfl
   simp only[aN.j4]at H
   cases Ia
   replace H:=zb0 H;replace H:=zit H;obtain⟨LU,acV,H⟩:=H;generalize P6:(shr .u64 (IntKind.u64.wrap ((IntKind.u64.wrap ((IntKind.u64.wrap ((IntKind.u64.wrap ((IntKind.u64.wrap ((IntKind.u64.wrap ((Go.bits .or .u64 (H8) (Ar))*4294967296))+((xm) / 4294967296)))-(IntKind.u64.wrap (qV*tu))))*4294967296))+(Go.bits .and .u64 (xm) 4294967295)))-(IntKind.u64.wrap (Bz*tu)))) ji8:Int)=WE at H;have auJ:((IntKind.u64.wrap ((IntKind.u64.wrap ((IntKind.u64.wrap ((IntKind.u64.wrap ((IntKind.u64.wrap ((IntKind.u64.wrap ((Go.bits .or .u64 (H8) (Ar))*4294967296))+((xm) / 4294967296)))-(IntKind.u64.wrap (qV*tu))))*4294967296))+(Go.bits .and .u64 (xm) 4294967295)))-(IntKind.u64.wrap (Bz*tu)))) / 2 ^ min ji8.toNat 64)=WE:=P6;have auK:ji8≤64→((IntKind.u64.wrap ((IntKind.u64.wrap ((IntKind.u64.wrap ((IntKind.u64.wrap ((IntKind.u64.wrap ((IntKind.u64.wrap ((Go.bits .or .u64 (H8) (Ar))*4294967296))+((xm) / 4294967296)))-(IntKind.u64.wrap (qV*tu))))*4294967296))+(Go.bits .and .u64 (xm) 4294967295)))-(IntKind.u64.wrap (Bz*tu)))) / 2 ^ ji8.toNat)=WE:=kE P6;obtain⟨rfl,rfl⟩:=zJ2 H;rotate_left;replace H:=zb1 H;replace H:=yH H;rcases H with⟨zq,H⟩|⟨zq,H⟩;replace H:=zit H;obtain⟨EU,ahh,H⟩:=H;generalize acW:(shr .u64 (IntKind.u64.wrap ((IntKind.u64.wrap ((IntKind.u64.wrap ((IntKind.u64.wrap ((IntKind.u64.wrap ((IntKind.u64.wrap ((Go.bits .or .u64 (H8) (Ar))*4294967296))+((xm) / 4294967296)))-(IntKind.u64.wrap (qV*tu))))*4294967296))+(Go.bits .and .u64 (xm) 4294967295)))-(IntKind.u64.wrap ((IntKind.u64.wrap (Bz-1))*tu)))) ji8:Int)=auL at H;have auM:((IntKind.u64.wrap ((IntKind.u64.wrap ((IntKind.u64.wrap ((IntKind.u64.wrap ((IntKind.u64.wrap ((IntKind.u64.wrap ((Go.bits .or .u64 (H8) (Ar))*4294967296))+((xm) / 4294967296)))-(IntKind.u64.wrap (qV*tu))))*4294967296))+(Go.bits .and .u64 (xm) 4294967295)))-(IntKind.u64.wrap ((IntKind.u64.wrap (Bz-1))*tu)))) / 2 ^ min ji8.toNat 64)=auL:=acW;have auN:ji8≤64→((IntKind.u64.wrap ((IntKind.u64.wrap ((IntKind.u64.wrap ((IntKind.u64.wrap ((IntKind.u64.wrap ((IntKind.u64.wrap ((Go.bits .or .u64 (H8) (Ar))*4294967296))+((xm) / 4294967296)))-(IntKind.u64.wrap (qV*tu))))*4294967296))+(Go.bits .and .u64 (xm) 4294967295)))-(IntKind.u64.wrap ((IntKind.u64.wrap (Bz-1))*tu)))) / 2 ^ ji8.toNat)=auL:=kE acW;obtain⟨rfl,rfl⟩:=zJ2 H;rotate_left;rotate_left
   all_goals (go_wp2;repeat (go_quiet (fail);try go_wp2))
   ·go_ret2
    exact⟨by first|rfl|(simp;done)|(simp only[← uh, ← Aq, ← H7, ← qN, ← uT, ← Au, ← P6] <;> (first|rfl|simp))|(simp[*];done),z4⟩
   ·go_ret2
    exact⟨by first|rfl|(simp;done)|(simp only[← uh, ← Aq, ← H7, ← qN, ← uT, ← Au, ← acW] <;> (first|rfl|simp))|(simp[*];done),z4⟩
   go_roundg azg
   case measure=>have:=alm.out;have:=HK2.out;have:=auI.out;omega
   case rel=>exact⟨(IntKind.u64.wrap (DF+((tu) / 4294967296))),(IntKind.u64.wrap (Bz-1)),(by first|rfl|(simp;done)|(simp only[← Aq] <;> (first|rfl|simp))|(simp[*];done)),z1,H,⟨by have:=alm.out;have:=HK2.out;have:=auI.out;omega⟩,z4⟩
def iY.l0:Nat→List Int→Int→List Int→Int→Int→Option (List Int × Int)
  | 0,_,_,_,_,_=>none
  | k+1,x0,x1,x6,x7,x8=>if x8≥0 then (if 0≤x8 then (if x8<(x0.length:Int) then ((aN.f k x7 (rd x0 x8) x1).bind fun ahi=>(if x8<(x6.length:Int) then (iY.l0 k x0 x1 (x6.set (x8:Int).toNat ahi.1) ahi.2 (wrap64 (x8-1))) else (none))) else (none)) else (none)) else ((bG.f k x6).bind fun t193=>(some (t193,x7)))
def iY.f (k:Nat)(l0:List Int)(a1:Int):Option (List Int × Int):=if 0≤(l0.length:Int) then (if ((l0.length:Int):Int).toNat≤35184372088832 then (iY.l0 k l0 a1 (List.replicate ((l0.length:Int):Int).toNat 0) 0 (wrap64 ((l0.length:Int)-1))) else (none)) else (none)
theorem iY.calls (k:Nat)(A0:Option Addr)(c0:Nat)(l0:List Int)(a1:Int)(r1:List Int)(r2:Int)(w:World)(hr0:Kd.C (Kd.int .u64) w A0 l0.length l0)(hc0:l0.length≤c0)(h:iY.f k l0 a1=some (r1,r2)) :
    Calls Tryz.prog 105 #[.slice A0 l0.length c0,.int .u64 a1] w fun e w' => ∃ v0_:Value,e=.returned (.tuple #[v0_,.int .u64 r2])∧Kd.V (Kd.int .u64) 25 w' w.heap.size (fun k_=>(w.heap.size≤k_)) v0_ r1∧Below w.heap.size w w':=by
 have HR0:=am hr0;have HC0:=am hc0;clear hr0 hc0;have HB:=am (Below.refl w.heap.size w);have H:=am h;unfold iY.f at H;clear h;replace H:=zit H;obtain⟨pI,Kw,H⟩:=H;replace H:=zit H;obtain⟨jP,sQ,H⟩:=H;generalize ahj:(List.replicate ((l0.length:Int):Int).toNat 0:List Int)=azh at H;have ahk:=zY ahj;clear ahj
 go_enter Tryz.func105,Tryz.ntmps105
 go_wp2_with (first|((with_reducible refine aI (N:=11) rfl ?_);refine Kd.vH (Kd.int .u64) _ 25 rfl (N:=11) rfl 88 _ _ rfl (l0.length:Int) (by first|rfl|(simp only[List.length_drop,List.length_take];rfl)) (by first|rfl|(simp only[List.length_drop,List.length_take];rfl)) Tryz.underlying88 (.int .u64 0) 8 info25 rfl (by decide) (by omega) 0 (ok:=fun _=>True) (okp:=fun _=>True) rfl (fun _ hk=>hk) trivial (zD) (Nat.le_trans (Nat.mul_le_mul_right _ (zD:(l0.length:Int).toNat≤35184372088832)) (by omega)) (Below.refl _ _) (Nat.le_refl _) ?_;intro auO w5 ho6 hb hg_ ku;clear hg_ ku;(first|rw[← ahk.out]at ho6|(simp only[Int.reduceToNat]at ho6;rw[← ahk.out]at ho6));have anl:=am (Kd.eu (Kd.oI (M:=fun k_=>(w.heap.size≤k_)) ho6 (zS HB) (fun k_ h_=>h_)) (zS HB));replace HB:=zBs HB hb;clear hb ho6))
 go_loopg [7,8] k (fun kq v7 v8 w' => ∃ (jU:List Int) (lu:Int) (lC:Int),v7=.int .u64 lu∧v8=.int .i64 lC∧ae (iY.l0 kq l0 a1 jU lu lC=some (r1,r2))∧ae (kq≤k)∧ae (Kd.R (Kd.int .u64) 25 w' w.heap.size (fun k_=>(w.heap.size≤k_)) auO jU)∧ae (Below w.heap.size w w'))
 case atStart=>exact⟨(azh),(0),(wrap64 ((l0.length:Int)-1)),z1,z1,H,zL,⟨by (with_reducible repeat (first|apply Kd.dh|apply Kd.df|apply Kd.dJ));exact Kd.dw anl.out (fun _ hk=>hk.1)⟩,⟨zB HB⟩⟩
 clear H;obtain⟨jU,lu,lC,rfl,rfl,H,HK1,oO,HB⟩:=hrel;obtain _|k1:=gk
 ·exact zz H rfl
 simp only[iY.l0]at H;replace H:=yH H;rcases H with⟨wz,H⟩|⟨wz,H⟩;replace H:=zid H;obtain⟨sO,H⟩:=H;replace H:=zid H;obtain⟨wu,H⟩:=H;replace H:=zo H;obtain⟨⟨anm,azi⟩,A10,H⟩:=H
 try dsimp only at H
 replace H:=zid H;obtain⟨qK,H⟩:=H;generalize ahl:(jU.set (lC:Int).toNat anm:List Int)=auP at H;have ann:=zY ahl;clear ahl;have ano:0≤(lC:Int):=zD;have anp:lC<(l0.length:Int):=zD;obtain⟨azj,e189,LV⟩:=Kd.dQ HR0.out lC ano anp
 cases e189
 replace LV:=(HB.out.cell (World.block_lt_of_cell? w _ LV)).trans LV;replace ano:=eq_true ano;replace anp:=eq_true anp;rotate_left;replace H:=zo H;obtain⟨t193,A15,H⟩:=H;obtain⟨rfl,rfl⟩:=zJ2 H;obtain⟨IP,BX,UF⟩:=Kd.dZ oO.out;subst UF;rotate_left
 all_goals (go_wp2_with (first|((with_reducible refine af (f:=164) rfl ?_);refine zc (some 28) Tryz.func164 _ (aN.calls _ _ _ _ _ _ _ A10.out) ?_;rintro e w' ⟨rfl,⟨nd,rfl⟩⟩;refine⟨_,rfl,?_⟩;(try (rw[fZ wr];generalize hq_:World.drewN wr _=wr;have n0_:ae (Kd.R (Kd.int .u64) 25 wr w.heap.size (fun k_=>(w.heap.size≤k_)) auO jU):=⟨by rw[← hq_];exact (zR oO)⟩;have n1_:ae (Below w.heap.size w wr):=⟨by rw[← hq_];exact (zB HB)⟩;clear oO HB hq_;have oO:=n0_;have HB:=n1_;clear n0_ n1_));have p12:0≤(lC:Int):=zD;have q12:(lC:Int)<((jU.length:Int):Int):=zD;obtain⟨anq,QH,WF,auQ,azk,aHk,auR⟩:=Kd.oH oO.out (by omega);(first|cases WF|(injection WF with ea_ en_ ec_;(first|subst ea_|(injection ea_ with ea_;subst ea_));subst ec_;clear en_));have azl:=am auQ;have aHl:=am auR;clear auQ azk auR;obtain⟨auS,auT⟩:=Kd.iQ 0 oO.out (lC:Int) p12 q12;replace p12:=eq_true p12;replace q12:=eq_true q12;obtain⟨azm,azn⟩:=Kd.iQ 0 oO.out (lC:Int) (zD) (zD);have anr:=Kd.mM oO.out (lC:Int) anm)|((with_reducible refine fV (t:=25) (p:=31) rfl ?_);refine ed (t:=25) (p:=31) (v:=?auU) (w1:=(wr.setCell ⟨anq,(lC:Int).toNat,none⟩ (.int .u64 anm))) ?hg ?ho ?hn ?hr ?_;(case ho=>rfl);(case hg=>rfl);(case hn=>rfl);(case hr=>first|(go_simp;done)|(go_simp;rfl));intro w14 hw;have hg:wr.grownBy w14 (some anq):=(by rw[hw];exact anr.2);have hp_:Kd.R (Kd.int .u64) 25 w14 w.heap.size (fun k_=>(w.heap.size≤k_)) (.slice (some ⟨anq,0,none⟩) jU.length QH) auP:=(by rw[hw,ann.out];exact anr.1);clear anr;replace oO:=am (hp_);replace HB:=am ((by rw[hw];exact bQ (HB.out) azl.out:Below w.heap.size w w14));clear hg hw hp_)|((with_reducible refine af (f:=103) rfl ?_);refine zc (some 33) Tryz.func103 #[.slice IP jU.length BX] (bG.calls _ (fun k_=>some k_=(.slice IP jU.length BX:Value).ownBlock) _ _ _ _ _ (Kd.R_V (Kd.jX rfl (oO.out))) A15.out) ?_;rintro e w17 ⟨v194,rfl,ho0,hb⟩;refine⟨_,rfl,?_⟩;have ant:=am (Kd.dV (Kd.cO (ok':=fun k_=>(w.heap.size≤k_)) ho0 (fun k_ hk_=>Or.elim hk_ (fun hs_=>((oO.out).1 k_ hs_.symm)) (fun hn_=>(Nat.le_trans (zS HB) hn_)))) (zS HB));replace oO:=zRb oO hb;replace HB:=zBs HB hb;clear hb ho0)))
 ·go_roundg k1
  case measure=>have:=HK1.out;omega
  case rel=>exact⟨(auP),(azi),(wrap64 (lC-1)),z1,z1,H,(zH HK1),⟨zR oO⟩,⟨zB HB⟩⟩
 go_ret2
 exact⟨_,z2,zV ant,zB HB⟩
end Go.Proofs.Yy.PTx
end
section
namespace Go.Proofs.Yy.PTx
open Go.RowKit Go.Proofs.Yw.PrintWords Go.Proofs.Yw.PrintLast Go.Proofs.Yw.PrintMore Go.Proofs.Yy.SC
def mkB (l:List UInt8):ByteArray:=⟨l.toArray⟩
theorem bH (l:List UInt8):(mkB l).size=l.length:=List.size_toArray ..
theorem yZ (l:List UInt8):(mkB l).data.toList=l:=rfl
theorem qj (l:List UInt8):(mkB l).toList=l:=by rw[Lib.toList_data];rfl
theorem He (s:ByteArray):mkB s.data.toList=s:=rfl
theorem rH (a b:List UInt8):mkB a++mkB b=mkB (a++b):=by
 apply ByteArray.ext
 rw[ByteArray.data_append];simp[mkB]
theorem KQ (l:List UInt8)(a b:Nat)(hb:b≤l.length):(mkB l).extract a b=mkB ((l.take b).drop a):=by
 apply ByteArray.ext
 rw[ByteArray.data_extract];simp only[mkB];rw[List.extract_toArray]
 congr 1
 rw[List.extract_eq_drop_take',List.drop_take] <;> rfl
theorem BR (l:List UInt8)(n:Nat)(h:n≤l.length):(mkB l).extract 0 n=mkB (l.take n):=by rw[KQ l 0 n h,List.drop_zero]
theorem BP (l:List UInt8)(n:Nat):(mkB l).extract n (mkB l).size=mkB (l.drop n):=by rw[bH,KQ l n l.length (Nat.le_refl _),List.take_length]
theorem Bv {l:List UInt8}{i:Nat}(h:i<l.length):bt (mkB l) (i:Int)=((l[i]'h).toNat:Int):=by
 unfold bt;rw[Int.toNat_natCast,dif_pos (by rw[bH];exact h)]
 rfl
theorem Nr (c:UInt8)(l:List UInt8):bt (mkB (c::l)) 0=(c.toNat:Int):=by
 have:=Bv (l:=c::l) (i:=0) (by simp)
 simpa using this
def KN (d:D):Bool × Bool × ByteArray × Int:=(d.nar,d.neg,mkB d.ds,d.e)
theorem ja {n:Int}(h1 : -9223372036854775808≤n)(h2:n≤9223372036854775807):wrap64 n=n:=by unfold wrap64;omega
theorem AU (d:D)(hl:d.ds.length≤9223372036854775807)(h1 : -1000000≤d.e)(h2:d.e≤1000000):iL.f d.nar d.neg (mkB d.ds) d.e=some (KN (nrm d)):=by
 obtain⟨nar,neg,ds,e⟩:=d;simp only at hl h1 h2;unfold iL.f nrm KN
 cases nar with
 | true=>rfl
 | false =>
  simp only[Bool.false_eq_true,if_false];have hs:jM.f (mkB ds) (⟨#[48]⟩:ByteArray)=some (mkB (lz ds)):=rfl;rw[hs];simp only[Option.bind_some];have hll:=abV ds
  by_cases h0:lz ds=[]
  ·rw[if_pos (by rw[qj];exact h0),if_pos h0]
   rfl
  ·rw[if_neg (by rw[qj];exact h0),if_neg h0]
   have hr:jo.f (mkB (lz ds)) (⟨#[48]⟩:ByteArray)=some (mkB (rz (lz ds))):=by
    unfold jo.f;rw[if_pos ⟨rfl,by rw[bH];omega⟩]
    rfl
   rw[hr];simp only[Option.bind_some,bH];have hrl:=XX (lz ds);have hm:nM=1000000:=rfl
   have e1:mn (wrap64 (((lz ds).length:Int)-((rz (lz ds)).length:Int))) (wrap64 (1000000-e))=((min (tz (lz ds)) (nM-e).toNat:Nat):Int):=by
    rw[ja (by omega) (by omega),ja (by omega) (by omega)];unfold mn tz
    split <;> omega
   rw[e1]
   have hk:min (tz (lz ds)) (nM-e).toNat≤(lz ds).length:=by unfold tz;omega
   have hk2:min (tz (lz ds)) (nM-e).toNat≤(nM-e).toNat:=Nat.min_le_right _ _;generalize min (tz (lz ds)) (nM-e).toNat=k at *;rw[ja (n:=((lz ds).length:Int)-(k:Int)) (by omega) (by omega),if_pos (by omega),if_pos (by omega),ja (n:=e+(k:Int)) (by omega) (by omega)]
   have e2:(((lz ds).length:Int)-(k:Int)).toNat=(lz ds).length-k:=by omega
   rw[e2,BR _ _ (by omega)]
theorem agt (c:UInt8):qI.contains c=dg c:=by
 have h:∀ n:Fin 256,qI.contains (UInt8.ofNat n.val)=dg (UInt8.ofNat n.val):=by decide +kernel
 have:=h ⟨c.toNat,c.toNat_lt⟩
 simpa using this
theorem Q5 {p:UInt8→Bool}{l:List UInt8}:l.dropWhile p=[] ↔ ∀ x ∈ l,p x=true:=by
 induction l with
 | nil=>simp
 | cons c l ih =>
  rw[List.dropWhile_cons]
  by_cases hc:p c=true
  ·rw[if_pos hc,ih];simp[hc]
  ·rw[if_neg hc];simp[hc]
theorem Ry (l:List UInt8):(Lib.trimS l qI=[]) ↔ l.all dg=true:=by
 have hf:(fun c=>qI.contains c)=dg:=funext agt;unfold Lib.trimS Lib.trimLeftS Lib.trimRightS;rw[hf]
 constructor
 ·intro h
  have h1:∀ x ∈ (l.reverse.dropWhile dg).reverse,dg x=true:=by
   intro x hx;have:=Q5.1 h x hx;exact this
  by_cases hr:l.reverse.dropWhile dg=[]
  ·have:=Q5.1 hr
   exact List.all_eq_true.2 fun x hx=>this x (List.mem_reverse.2 hx)
  ·exfalso
   have h2:=List.head_dropWhile_not dg hr;have h3:=h1 _ (List.mem_reverse.2 (List.head_mem hr));rw[h2]at h3
   cases h3
 ·intro h
  have h2:l.reverse.dropWhile dg=[]:=Q5.2 fun x hx=>List.all_eq_true.1 h x (List.mem_reverse.1 hx);rw[h2];rfl
theorem EO (d:D):oC.f d.nar d.neg (mkB d.ds) d.e=some (formed d):=by
 obtain⟨nar,neg,ds,e⟩:=d;unfold oC.f formed
 cases nar with
 | true =>
  simp only[if_true,qj,Bool.true_and];rw[show (ds == ([]:List UInt8))=ds.isEmpty by cases ds <;> rfl]
  rfl
 | false =>
  simp only[Bool.false_eq_true,if_false,qj,bH]
  by_cases h0:ds=[]
  ·rw[if_pos h0];subst h0;rfl
  ·rw[if_neg h0]
   have hm:nM=1000000:=rfl;have e0:ds.isEmpty=false:=List.isEmpty_eq_false_iff.2 h0
   by_cases h1:(ds.length:Int) > 4096
   ·rw[if_pos h1,decide_eq_false (by omega:¬ ds.length≤4096),Bool.false_and,Bool.and_false]
   ·rw[if_neg h1,decide_eq_true (by omega:ds.length≤4096),e0]
    by_cases h2:e < -1000000
    ·rw[if_pos h2,decide_eq_false (by omega:¬ -nM≤e)];simp
    ·rw[if_neg h2,decide_eq_true (by omega : -nM≤e)]
     by_cases h3:e > 1000000
     ·rw[if_pos h3,decide_eq_false (by omega:¬ e≤nM)];simp
     ·rw[if_neg h3,decide_eq_true (by omega:e≤nM)]
      have ht:mY.f (mkB ds) (⟨#[48,49,50,51,52,53,54,55,56,57]⟩:ByteArray)=some (mkB (Lib.trimS ds qI)):=by
       unfold mY.f;rw[if_pos ⟨rfl,by rw[bH];omega⟩]
       rfl
      rw[ht];simp only[Option.bind_some,qj]
      congr 1
      rw[Bool.eq_iff_iff];simp only[Bool.not_false,Bool.true_and,Bool.and_true,beq_iff_eq];exact Ry ds
theorem qX {d:D}(h:formed d=true):d.ds.length≤4096 ∧ -1000000≤d.e∧d.e≤1000000:=by
 obtain⟨nar,neg,ds,e⟩:=d;unfold formed at h
 cases nar with
 | true =>
  simp only[if_true,Bool.and_eq_true,decide_eq_true_iff,List.isEmpty_iff]at h;obtain⟨_,h1,h2⟩:=h;subst h1 h2;exact⟨Nat.zero_le _,by show (-1000000:Int)≤0;decide,by show (0:Int)≤1000000;decide⟩
 | false =>
  simp only[Bool.false_eq_true,if_false,Bool.and_eq_true,decide_eq_true_iff]at h;obtain⟨_,h1,_,h2,h3⟩:=h;exact⟨h1,h2,h3⟩
theorem Bg (d:D):lJ.f d.nar d.neg (mkB d.ds) d.e=some (if formed d=true then ((nrm d).nar,(nrm d).neg,mkB (nrm d).ds,(nrm d).e,none) else (false,false,mkB [],0,some 23)):=by
 unfold lJ.f;rw[EO];simp only[Option.bind_some]
 by_cases h:formed d=true
 ·obtain⟨h1,h2,h3⟩:=qX h
  rw[if_pos h,if_pos h,AU d (by omega) h2 h3]
  rfl
 ·rw[if_neg h,if_neg h];rfl
def WA (g:Nat)(d:D)(w:World):Prop:=w.heap[g]? = some (.cells #[.bool d.nar,.bool d.neg,.string (mkB d.ds),.int .i64 d.e] 23 (0,0))
theorem uu {g:Nat}{d:D}{w:World}(h:WA g d w):w.cell? ⟨g,0,none⟩=some (.bool d.nar)∧w.cell? ⟨g,1,none⟩=some (.bool d.neg)∧w.cell? ⟨g,2,none⟩=some (.string (mkB d.ds))∧w.cell? ⟨g,3,none⟩=some (.int .i64 d.e) ∧
  w.frozen? ⟨g,0,none⟩=false∧w.frozen? ⟨g,1,none⟩=false∧w.frozen? ⟨g,2,none⟩=false∧w.frozen? ⟨g,3,none⟩=false∧g<w.heap.size:=by
 unfold WA at h;exact⟨(ag h 0).trans rfl,(ag h 1).trans rfl,(ag h 2).trans rfl,(ag h 3).trans rfl,aj h 0,aj h 1,aj h 2,aj h 3,(Array.getElem?_eq_some_iff.1 h).1⟩
theorem Ah {g B:Nat}{d:D}{w w':World}(h:WA g d w)(hb:Below B w w')(hg:g<B):WA g d w':=by
 unfold WA at *;rw[hb.block g hg];exact h
structure TS (w0:World) (g B:Nat) (d:D) (l:List UInt8) (w:World):Prop where
 bld:Bd.IsB B B l w
 var:WA g d w
 lt:g<B
 base:w0.heap.size≤g
 low:Below w0.heap.size w0 w
 sz:B≤w.heap.size
 laid:Fx.Laid w
theorem TS.other {w0:World}{g B:Nat}{d:D}{l:List UInt8}{w w':World}(h:TS w0 g B d l w)(hb:Below w.heap.size w w'):TS w0 g B d l w' :=
 ⟨h.bld.below hb,Ah h.var hb (by have:=h.lt;have:=h.sz;omega),h.lt,h.base,h.low.trans (hb.mono (by have:=h.lt;have:=h.sz;have:=h.base;omega)),Nat.le_trans h.sz hb.size,h.laid.below hb⟩
theorem tsH {w0:World}{g B:Nat}{d:D}{l:List UInt8}{w W:World}(h:ae (TS w0 g B d l w))(k:TS w0 g B d l w→TS w0 g B d l W:=by first|exact (fun h_=>h_)|exact (fun h_=>h_.drew)|exact (fun h_=>h_.drewN _)):TS w0 g B d l W:=k h.out
theorem Xl {w0:World}{g B:Nat}{d:D}{l:List UInt8}{w:World}(h:TS w0 g B d l w)(hl0:Fx.Laid w0)(s:ByteArray)(hlen:l.length+s.size≤140737488355328) :
  Calls Tryz.prog 68 #[.pointer (some ⟨B,0,none⟩),.string s] w fun e w'=>e=.returned (.tuple #[.int .i64 s.size,.nilIface])∧TS w0 g B d (l++s.data.toList) w':=by
 refine (Bd.write B B l s w h.bld hlen h.sz).mono ?_;rintro e w' ⟨he,h1,h2⟩;have hlow:=h.low.trans (h2.mono (by have:=h.lt;have:=h.base;omega));exact⟨he,h1,Ah h.var h2 h.lt,h.lt,h.base,hlow,Nat.le_trans h.sz h2.size,hl0.below hlow⟩
theorem SX {w0:World}{g B:Nat}{d:D}{l:List UInt8}{w:World}(h:TS w0 g B d l w) :
  Calls Tryz.prog 71 #[.pointer (some ⟨B,0,none⟩)] w fun e w'=>e=.returned (.string (mkB l))∧Below w0.heap.size w0 w':=by
 refine (Tryz.Builder_String_any_f B B l w h.bld h.sz).mono ?_;rintro e w' ⟨he,_,h2⟩;exact⟨he,h.low.trans (h2.mono (by have:=h.lt;have:=h.base;omega))⟩
theorem Tn (n:Nat):Lib.repeatL [48] n=List.replicate n 48:=by
 induction n with
 | zero=>rfl
 | succ n ih=>rw[Lib.repeatL,ih,List.replicate_succ];rfl
theorem RP {w0:World}{g B:Nat}{d:D}{l:List UInt8}{w:World}(h:TS w0 g B d l w)(n:Int)(h0:0≤n)(h1:n≤1000) :
  Calls Tryz.prog 69 #[.string (⟨#[48]⟩:ByteArray),.int .i64 n] w fun e w'=>e=.returned (.string (mkB (List.replicate n.toNat 48)))∧TS w0 g B d l w':=by
 obtain⟨k,rfl⟩:=Int.eq_ofNat_of_zero_le h0;refine (Tryz.strings_Repeat ⟨#[48]⟩ k w (by omega) (by have e:(⟨#[48]⟩:ByteArray).size=1:=rfl;rw[e];omega)).mono ?_;rintro e w' ⟨he,hb⟩;refine⟨?_,h.other hb⟩;rw[he];show Ending.returned (.string ⟨(Lib.repeatL [48] k).toArray⟩)=_;rw[Tn]
 rfl
theorem aa7 {w0:World}{g B:Nat}{d:D}{l:List UInt8}{w:World}(h:TS w0 g B d l w)(n:Int)(h0 : -9223372036854775808≤n)(h1:n≤9223372036854775807) :
  Calls Tryz.prog 70 #[.int .i64 n] w fun e w'=>e=.returned (.string (mkB (Lib.itoa n)))∧TS w0 g B d l w':=by
 refine (mV.calls n (mkB (Lib.itoa n)) w (by unfold mV.f;rw[if_pos ⟨h0,h1⟩];rfl) h.laid).mono ?_;rintro e w' ⟨he,hb⟩;exact⟨he,h.other hb⟩
theorem TR (d:D)(h:formed d=true)(w:World) :
  Calls Tryz.prog 26 #[.agg #[.bool d.nar,.bool d.neg,.string (mkB d.ds),.int .i64 d.e]] w fun e w'=>e=.returned (.tuple #[.agg #[.bool (nrm d).nar,.bool (nrm d).neg,.string (mkB (nrm d).ds),.int .i64 (nrm d).e],.nilIface])∧Below w.heap.size w w':=by
 have hN:=Bg d;rw[if_pos h]at hN;exact lJ.calls _ _ _ _ _ _ _ _ _ _ hN
def chain (w:World)(g:Nat)(d:D):World:=(((w.setCell ⟨g,0,none⟩ (.bool d.nar)).setCell ⟨g,1,none⟩ (.bool d.neg)).setCell ⟨g,2,none⟩ (.string (mkB d.ds))).setCell ⟨g,3,none⟩ (.int .i64 d.e)
theorem TP {w:World}{g:Nat}{d0:D}(h:WA g d0 w)(d:D):WA g d (chain w g d) :=
 vN (vN (vN (vN h 0 (.bool d.nar) rfl) 1 (.bool d.neg) rfl) 2 (.string (mkB d.ds)) rfl) 3 (.int .i64 d.e) rfl
theorem Ae (w:World)(g:Nat)(d:D):(chain w g d).heap.size=w.heap.size:=by unfold chain;simp
theorem Si {w0 w:World}{g:Nat}(d:D)(h:Below w0.heap.size w0 w)(hg:w0.heap.size≤g):Below w0.heap.size w0 (chain w g d) :=
 (((h.setCell (p:=⟨g,0,none⟩) hg _).setCell (p:=⟨g,1,none⟩) hg _).setCell (p:=⟨g,2,none⟩) hg _).setCell (p:=⟨g,3,none⟩) hg _
theorem XY {w0 w1:World}{d0:D}(N:D)(h:WA w0.heap.size d0 w1)(hb:Below w0.heap.size w0 w1)(hl:Fx.Laid w0) :
  TS w0 w0.heap.size w1.heap.size N [] ((chain w1 w0.heap.size N).alloc (.cells #[.pointer none,.slice none 0 0] 111)):=by
 have hlt:w0.heap.size<w1.heap.size:=(Array.getElem?_eq_some_iff.1 h).1;have hm:=Bd.made (chain w1 w0.heap.size N);rw[Ae]at hm;have hlow:=(Si N hb (Nat.le_refl _)).alloc (by rw[Ae];omega) (.cells #[.pointer none,.slice none 0 0] 111);refine⟨hm,?_,hlt,Nat.le_refl _,hlow,?_,hl.below hlow⟩
 ·exact kG (TP h N) _
 ·have:w1.heap.size≤(chain w1 w0.heap.size N).heap.size:=by rw[Ae];exact Nat.le_refl _
  simp only[World.size_alloc];omega
def ZU (N:D)(w:World)(e:Ending)(w':World):Prop:=e=.returned (.tuple #[.string (mkB (Pn N)),.nilIface])∧Below w.heap.size w w'
theorem X8 (s:ByteArray):s.data.toList.length=s.size:=Array.length_toList
theorem aaK (n:Nat)(c:UInt8):(mkB (List.replicate n c)).size=n:=by rw[bH,List.length_replicate]
theorem Ru (n:Int):(mkB (Lib.itoa n)).size=(Lib.itoa n).length:=bH _
theorem afY (u:Nat):Lib.nDigits u≤u+1:=by
 induction u using Nat.strongRecOn with
 | ind u ih =>
  rw[Lib.nDigits]
  by_cases h:u<10
  ·rw[dif_pos h];omega
  ·rw[dif_neg h]
   have:=ih (u / 10) (by omega)
   omega
theorem O5 (n:Int)(h:n.natAbs≤10000000):(Lib.itoa n).length≤140000000000:=by
 unfold Lib.itoa
 split
 ·have:=afY n.natAbs
  rw[List.length_cons,Lib.decDigits_length];omega
 ·have:=afY n.toNat
  rw[Lib.decDigits_length];omega
theorem Zy (s:ByteArray)(a b:Nat):(s.extract a b).size≤s.size:=by rw[ByteArray.size_extract];omega
end Go.Proofs.Yy.PTx
end
