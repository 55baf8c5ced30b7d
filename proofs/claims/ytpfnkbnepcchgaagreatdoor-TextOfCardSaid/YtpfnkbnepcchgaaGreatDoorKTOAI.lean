/- Part 9. -/
import Derived.Laws.Bits64
import Derived.Laws.Bits64b
import Derived.Test.YtpfnkbnepcchgaaGreatDoorKTOAH
set_option linter.unusedSimpArgs false
set_option linter.unusedVariables false
section
set_option maxHeartbeats 8000000
set_option maxRecDepth 100000
namespace Go.Proofs.Yy.PTx
open Go.RowKit Go.Proofs.Yy.Z Go.Proofs.Yw.PrintWords Go.Proofs.Yw.PrintLast Go.Proofs.Yw.PrintMore
open Go.Proofs.Yy.M
attribute [local go_sem] dP eU lV lX lW lU
attribute [local go_sem] iq ik jE jD gu gq iE iD
attribute [local go_sem high] agB
def fB.j0:Nat→Int→Bool→Int→Bool→Int→Int→Int→Bool→Option (Bool)
  | 0,_,_,_,_,_,_,_,_=>none
  | k+1,x4,x5,amN,acU,L8,Vd,acV,acW=>if x5=true then (some (!acU && (L8 == 0 && (Vd == 0 && (acV == 0 && (!acW)))))) else (if x4=1 then (if (Vd / 9223372036854775808)=1 then ((mg.f L8).bind fun amO=>(some (L8 == amO))) else (some false)) else (some false))
def fB.f (k:Nat)(fM:Int)(fF:Bool)(iQ:Int)(jd:Int)(Ky:Int)(Kz:Bool):Option (Bool):=if fM=0 then (fB.j0 k fM (fM == 0) fM fF iQ jd Ky Kz) else (fB.j0 k fM (fM == 2) fM fF iQ jd Ky Kz)
def fB.T6:Bool × List (List Nat × List Nat):=(true,[([],[]),([0],[0]),([1],[1]),([2],[2]),([3],[3]),([4],[4]),([5,4],[4,5]),([4],[4]),([7,4],[4,7]),([8,4,4],[4,8]),([6,9,4],[4,6,9]),([4,10],[4,10]),([11,9,0,1,2,3,4,5,6,7,8,9,10,11],[11])])
def fB.B6:List Nat := [0,1,3,7,15,31,63,31,159,415,1023,2047,4095]
theorem fB.tab6:rX .any (opsOf Tryz.f156 6)=fB.T6:=by kernel_rfl
theorem fB.abJ:jf fB.T6.2 fB.B6=true:=by kernel_rfl
theorem fB.calls (k:Nat)(fM:Int)(fF:Bool)(iQ:Int)(jd:Int)(Ky:Int)(Kz:Bool)(r:Bool)(w:World)(h:fB.f k fM fF iQ jd Ky Kz=some r) :
    Calls Tryz.prog 156 #[.agg #[.int .i64 fM,.bool fF,.int .i64 iQ,.int .u64 jd,.int .u64 Ky,.bool Kz]] w fun e w'=>e=.returned (.bool r)∧Below w.heap.size w w':=by
 have Vb:=Tryz.underlying81;have HB:=am (Below.refl w.heap.size w);have H:=am h;unfold fB.f at H;clear h
 go_enter Tryz.func156,Tryz.ntmps156
 go_upto_if 5 with (first|((with_reducible refine aA (N:=1) rfl ?_);refine zx 1 81 #[.int .i64 fM,.bool fF,.int .i64 iQ,.int .u64 jd,.int .u64 Ky,.bool Kz] ?_;intro L9 hg w3 hbox hb;have n0_:=zBs HB hb;have n1_:=am (hbox);have n2_:=zG hg HB;have n3_:=zG hg HB;clear HB;have HB:=n0_;have su:=n1_;have ayR:=n2_;have ayS:=n3_;clear n0_ n1_ n2_ n3_;clear hb hbox hg;obtain⟨_,_,_,_,_,_,_,_,_,_,_,_⟩:=zf6 su))
 (try simp only[Act.put,List.setIfInBounds_toArray,List.set_cons_zero,List.set_cons_succ])
 go_cut [5] (fun v5 wc => ∃ (kq:Nat) (gV:Bool),v5=.bool gV∧ae (fB.j0 kq fM gV fM fF iQ jd Ky Kz=some r)∧ae (kq≤k)∧ae (wc.heap[L9]? = some (.cells #[.int .i64 fM,.bool fF,.int .i64 iQ,.int .u64 jd,.int .u64 Ky,.bool Kz] 81 (0,0)))∧ae (Below w.heap.size w wc))
 case first =>
  replace H:=zsk H;rcases H with⟨qN,xC,H⟩|⟨qN,xC,c5,H⟩
  (first|rw[qN]|(simp only[bW,fV];rw[qN])|rw[xC]|skip)
  rotate_left
  (first|rw[qN]|(simp only[bW,fV];rw[qN])|rw[xC]|skip)
  rotate_left
  all_goals (go_wp2)
  ·go_meet
   case rel=>exact⟨_,((fM == 0)),z1,H,⟨z5⟩,⟨zK su⟩,⟨zB HB⟩⟩
  go_meet
  case rel=>exact⟨_,((fM == 2)),z1,H,⟨z5⟩,⟨zK su⟩,⟨zB HB⟩⟩
 case rest =>
  obtain⟨kq,gV,rfl,H,HJ1,su,HB⟩:=hcut;obtain _|kj1:=kq
  ·exact zz H rfl
  simp only[fB.j0]at H
  cases gV
  replace H:=zb0 H;replace H:=zsk H;rcases H with⟨uz,Ey,H⟩|⟨uz,Ey,c8,H⟩;replace H:=zsk H;rcases H with⟨vF,BD,H⟩|⟨vF,BD,c9,H⟩;replace H:=zo H;obtain⟨amO,A10,H⟩:=H;obtain rfl:=Option.some.inj H.out;rotate_left;obtain rfl:=Option.some.inj H.out;rotate_left
  ·obtain rfl:=Option.some.inj H.out
   go_wp2
   go_ret
   exact⟨z2,zB HB⟩
  ·replace H:=zb1 H
   obtain rfl:=Option.some.inj H.out;obtain⟨_,_,_,_,_,_,_,_,_,_,_,_⟩:=zf6 su
   go_wp2
   go_ret
   exact⟨z2,zB HB⟩
  all_goals (try go_wp2)
  all_goals
   replace su:=am (dY su.out);replace HB:=am (aW HB.out);refine mM (n:=13) (S:=fun w'=>w'.cell? ⟨L9,0,none⟩=some (.int .i64 fM)∧w'.cell? ⟨L9,1,none⟩=some (.bool fF)∧w'.cell? ⟨L9,2,none⟩=some (.int .i64 iQ)∧w'.cell? ⟨L9,3,none⟩=some (.int .u64 jd)∧w'.cell? ⟨L9,4,none⟩=some (.int .u64 Ky)∧w'.cell? ⟨L9,5,none⟩=some (.bool Kz)) (ds := []) (Array.replicate 13 false) (by kernel_rfl) rfl rfl ⟨(ag su.out 0).trans rfl,(ag su.out 1).trans rfl,(ag su.out 2).trans rfl,(ag su.out 3).trans rfl,(ag su.out 4).trans rfl,(ag su.out 5).trans rfl⟩ (fun hHeld=>?_);refine gQ fB.tab6 fB.abJ (fun HT_ HW_=>?_)
  ·generalize wc.drew=w11 at su HB hHeld ⊢
   refine zp HT_ 0 (some 15) ?_;refine zt HT_ HW_ 1 (some 16) hHeld ?_;refine zp HT_ 2 (some 17) ?_;refine zp HT_ 3 (some 18) ?_;refine zp HT_ 4 (some 19) ?_;refine zp HT_ 5 (some 20) ?_;refine zp HT_ 7 (some 22) ?_;refine zt HT_ HW_ 6 (some 21) hHeld ?_;refine zt HT_ HW_ 8 (some 23) hHeld ?_;refine zu HT_ 9 (some 24) (fun K hK=>?_);refine oV Tryz.func146 (by kernel_rfl) rfl #[.int .i64 iQ] (by rfl) rfl rfl (by (try simp only[List.map_toArray,List.map_cons,List.map_nil]);first|done|rfl|(simp only[List.length_drop,List.length_take];rfl)) ?_
   with_reducible refine (mg.calls iQ amO _ A10.out).mono ?_
   rintro e w12 ⟨rfl,hb⟩;refine⟨_,rfl,?_⟩;replace su:=zKb su hb;replace HB:=zBs HB hb
   (try clear hb)
   (try clear hb2)
   (try clear hk)
   (try clear hi)
   refine hK.out _ _ ⟨(ag su.out 0).trans rfl,(ag su.out 1).trans rfl,(ag su.out 2).trans rfl,(ag su.out 3).trans rfl,(ag su.out 4).trans rfl,(ag su.out 5).trans rfl⟩ (fun hHeld=>?_);clear hK K;refine mD (a':=?_) ?_ ?_;rotate_left
   ·show Act.put _ (some 24) _=_
    simp only[Act.put,List.setIfInBounds_toArray,List.set_cons_zero,List.set_cons_succ,bW,fV]
    rfl
   refine zp HT_ 10 (some 25) ?_;refine zp HT_ 11 (some 26) ?_;refine zp HT_ 12 (some 2) ?_;refine oG (iJ HT_.out (by kernel_rfl)) ?_
   try go_wp2
   go_ret
   exact⟨z2,zB HB⟩
  generalize wc.drew=w13 at su HB hHeld ⊢;refine zp HT_ 0 (some 15) ?_;refine zt HT_ HW_ 1 (some 16) hHeld ?_;refine zp HT_ 2 (some 17) ?_;refine zp HT_ 3 (some 18) ?_;refine zp HT_ 4 (some 19) ?_;refine LP (i:=5) (N:=some 20) (v:=undef) (a':=?_) #[true,true,true,true,true,true,false,false,false,false,false,false,false] rfl rfl (Dh HT_.out (by kernel_rfl)) (fun _ _ _ h=>h) (Or.inr ⟨by rfl,rfl⟩) ?_ ?_;rotate_left
  ·simp only[Act.put,List.setIfInBounds_toArray,List.set_cons_zero,List.set_cons_succ,bW,fV]
   rfl
  refine LP (i:=6) (N:=some 21) (v:=undef) (a':=?_) #[true,true,true,true,true,true,true,false,false,false,false,false,false] rfl rfl (Dh HT_.out (by kernel_rfl)) (fun _ _ _ h=>h) (Or.inr ⟨by rfl,rfl⟩) ?_ ?_;rotate_left
  ·simp only[Act.put,List.setIfInBounds_toArray,List.set_cons_zero,List.set_cons_succ,bW,fV]
   rfl
  refine LP (i:=7) (N:=some 22) (v:=undef) (a':=?_) #[true,true,true,true,true,true,true,true,false,false,false,false,false] rfl rfl (Dh HT_.out (by kernel_rfl)) (fun _ _ _ h=>h) (Or.inr ⟨by rfl,rfl⟩) ?_ ?_;rotate_left
  ·simp only[Act.put,List.setIfInBounds_toArray,List.set_cons_zero,List.set_cons_succ,bW,fV]
   rfl
  refine LP (i:=8) (N:=some 23) (v:=undef) (a':=?_) #[true,true,true,true,true,true,true,true,true,false,false,false,false] rfl rfl (Dh HT_.out (by kernel_rfl)) (fun _ _ _ h=>h) (Or.inr ⟨by rfl,rfl⟩) ?_ ?_;rotate_left
  ·simp only[Act.put,List.setIfInBounds_toArray,List.set_cons_zero,List.set_cons_succ,bW,fV]
   rfl
  refine LP (i:=9) (N:=some 24) (v:=undef) (a':=?_) #[true,true,true,true,true,true,true,true,true,true,false,false,false] rfl rfl (Dh HT_.out (by kernel_rfl)) (fun _ _ _ h=>h) (Or.inr ⟨by rfl,rfl⟩) ?_ ?_;rotate_left
  ·simp only[Act.put,List.setIfInBounds_toArray,List.set_cons_zero,List.set_cons_succ,bW,fV]
   rfl
  refine LP (i:=10) (N:=some 25) (v:=undef) (a':=?_) #[true,true,true,true,true,true,true,true,true,true,true,false,false] rfl rfl (Dh HT_.out (by kernel_rfl)) (fun _ _ _ h=>h) (Or.inr ⟨by rfl,rfl⟩) ?_ ?_;rotate_left
  ·simp only[Act.put,List.setIfInBounds_toArray,List.set_cons_zero,List.set_cons_succ,bW,fV]
   rfl
  refine zp HT_ 11 (some 26) ?_;refine zp HT_ 12 (some 2) ?_;refine oG (iJ HT_.out (by kernel_rfl)) ?_
  try go_wp2
  go_ret
  exact⟨z2,zB HB⟩
def jA.f (k:Nat)(fM:Int)(fF:Int)(a1:Int):Option (Int × Int × Bool × Option Int):=if a1<0 then (some (0,0,false,some 1)) else ((jG.f fM fF (mn a1 128)).bind fun agV=>((oD.f k fM fF).bind fun amP=>(some (agV.1,agV.2,decide (amP > (wrap64 (128-(mn a1 128)))),none))))
def jA.T4:Bool × List (List Nat × List Nat):=(true,[([],[]),([],[]),([0,1],[0,1]),([],[]),([3,2],[3]),([],[]),([5],[5]),([4,6],[4,6]),([2,4,0,1,2],[2]),([7,8,0,1,2,3,4,5,6,7,8],[7]),([9,0,1,2,3,4,5,6,7,8,9],[])])
def jA.B4:List Nat := [0,0,3,0,15,0,32,127,31,511,1023]
theorem jA.ayi:rX .any (opsOf Tryz.f157 4)=jA.T4:=by kernel_rfl
theorem jA.alL:jf jA.T4.2 jA.B4=true:=by kernel_rfl
theorem jA.calls (k:Nat)(fM:Int)(fF:Int)(a1:Int)(r1:Int)(r2:Int)(r3:Bool)(r4:Option Int)(w:World)(h:jA.f k fM fF a1=some (r1,r2,r3,r4)) :
    Calls Tryz.prog 157 #[.agg #[.int .u64 fM,.int .u64 fF],.int .i64 a1] w fun e w'=>e=.returned (.tuple #[.agg #[.int .u64 r1,.int .u64 r2],.bool r3,qL r4])∧Below w.heap.size w w':=by
 have JV:=Tryz.underlying211;have zq:=Tryz.underlying27;have hu64:=Tryz.underlying64;have HB:=am (Below.refl w.heap.size w);have H:=am h;unfold jA.f at H;clear h;replace H:=zsd H;rcases H with⟨pK,H⟩|⟨pK,H⟩
 ·obtain⟨rfl,rfl,rfl,rfl⟩:=zJ4 H
  go_enter Tryz.func157,Tryz.ntmps157
  go_wp2_with (first|((with_reducible refine aA (N:=2) rfl ?_);refine zx 2 211 #[.int .u64 fM,.int .u64 fF] ?_;intro acX hg w4 hbox hb;have sS:=am (hbox);have amQ:=zG hg HB;have amR:=zG hg HB;replace HB:=zBs HB hb;clear hb hbox hg)|((with_reducible refine aA (N:=4) rfl ?_);refine zx 4 211 #[.int .u64 0,.int .u64 0] ?_;intro acY hg w5 hbox hb;have yg:=am (hbox);have amS:=zG hg HB;have amT:=zG hg HB;replace HB:=zBs HB hb;have zy:=zNl hg sS;have zF:=zNg hg sS;replace sS:=zKb sS hb;clear hb hbox hg;have ayT:=zF.out;have ayU:=zy.out;obtain⟨_,_,_,_⟩:=zf2 yg))
  refine bodyPost_ret (uP rfl _ _ acY 211 #[.int .u64 0,.int .u64 0] (0,0) _ rfl (zKp yg) Tryz.underlying211 rfl (by kernel_rfl)) rfl ?_;exact⟨z2,zB HB⟩
 generalize ui:(mn a1 128:Int)=ji8 at H;have Qv:(if 128<a1 then 128 else a1)=ji8:=ui;replace H:=zo H;obtain⟨⟨auj,auk⟩,A9,H⟩:=H
 try dsimp only at H
 replace H:=zo H;obtain⟨amP,A10,H⟩:=H;obtain⟨rfl,rfl,rfl,rfl⟩:=zJ4 H
 go_enter Tryz.func157,Tryz.ntmps157
 try go_wp2_with (first|((with_reducible refine aA (N:=2) rfl ?_);refine zx 2 211 #[.int .u64 fM,.int .u64 fF] ?_;intro acX hg w11 hbox hb;have sS:=am (hbox);have amQ:=zG hg HB;have amR:=zG hg HB;replace HB:=zBs HB hb;clear hb hbox hg)|((with_reducible refine aA (N:=4) rfl ?_);refine zx 4 211 #[.int .u64 0,.int .u64 0] ?_;intro acY hg w12 hbox hb;have yg:=am (hbox);have amS:=zG hg HB;have amT:=zG hg HB;replace HB:=zBs HB hb;have zy:=zNl hg sS;have zF:=zNg hg sS;replace sS:=zKb sS hb;clear hb hbox hg))
 replace sS:=am (dY sS.out);replace yg:=am (dY yg.out);replace HB:=am (aW HB.out);refine mM (n:=11) (S:=fun w'=>w'.cell? ⟨acX,0,none⟩=some (.int .u64 fM)∧w'.cell? ⟨acX,1,none⟩=some (.int .u64 fF)) (ds := []) (Array.replicate 11 false) (by kernel_rfl) rfl rfl ⟨(ag sS.out 0).trans rfl,(ag sS.out 1).trans rfl⟩ (fun hHeld=>?_);refine gQ jA.ayi jA.alL (fun HT_ HW_=>?_);generalize w12.drew=w13 at sS yg HB hHeld ⊢;refine zp HT_ 1 (some 14) ?_;refine zp HT_ 5 (some 18) ?_;refine zp HT_ 6 (some 19) ?_;refine zt HT_ HW_ 0 (some 13) hHeld ?_;refine zt HT_ HW_ 3 (some 16) hHeld ?_;refine zu HT_ 2 (some 15) (fun K hK=>?_);refine oV Tryz.func187 (by kernel_rfl) rfl #[.agg #[.int .u64 fM,.int .u64 fF],.int .i64 ji8] (by rfl) rfl rfl (by (try simp only[List.map_toArray,List.map_cons,List.map_nil]);first|done|(simp only[ui];rfl)|rfl|(simp only[List.length_drop,List.length_take];rfl)) ?_
 with_reducible refine (jG.calls fM fF ji8 auj auk _ A9.out).mono ?_
 rintro e w14 ⟨rfl,hb⟩;refine⟨_,rfl,?_⟩;replace sS:=zKb sS hb;replace yg:=zKb yg hb;replace HB:=zBs HB hb
 (try clear hb)
 (try clear hb2)
 (try clear hk)
 (try clear hi)
 refine hK.out _ _ ⟨(ag sS.out 0).trans rfl,(ag sS.out 1).trans rfl⟩ (fun hHeld=>?_);clear hK K;refine mD (a':=?_) ?_ ?_;rotate_left
 ·show Act.put _ (some 15) _=_
  simp only[Act.put,List.setIfInBounds_toArray,List.set_cons_zero,List.set_cons_succ,bW,fV]
  rfl
 refine zu HT_ 4 (some 17) (fun K hK=>?_);refine oV Tryz.func186 (by kernel_rfl) rfl #[.agg #[.int .u64 fM,.int .u64 fF]] (by rfl) rfl rfl (by (try simp only[List.map_toArray,List.map_cons,List.map_nil]);first|done|rfl|(simp only[List.length_drop,List.length_take];rfl)) ?_
 with_reducible refine (oD.calls k fM fF amP _ A10.out).mono ?_
 rintro e w15 ⟨rfl,hb⟩;refine⟨_,rfl,?_⟩;replace sS:=zKb sS hb;replace yg:=zKb yg hb;replace HB:=zBs HB hb
 (try clear hb)
 (try clear hb2)
 (try clear hk)
 (try clear hi)
 refine hK.out _ _ ⟨(ag sS.out 0).trans rfl,(ag sS.out 1).trans rfl⟩ (fun hHeld=>?_);clear hK K;refine mD (a':=?_) ?_ ?_;rotate_left
 ·show Act.put _ (some 17) _=_
  simp only[Act.put,List.setIfInBounds_toArray,List.set_cons_zero,List.set_cons_succ,bW,fV]
  rfl
 refine zp HT_ 7 (some 20) ?_;refine zu HT_ 8 none (fun K hK=>?_);have ayV:=zl yg 0;have amU:=ak yg.out 0;have amV:=zy.out;have amW:=zF.out;have ayW:=zl yg 1;have amX:=ak yg.out 1;have amY:=zy.out;have amZ:=zF.out;refine xy (w1:=?_) (by rfl) rfl ?_ ?_;rotate_left
 ·go_simp
  rfl
 refine hK.out _ _ ⟨(zh hHeld),(zh hHeld)⟩ (fun hHeld=>?_);clear hK K;refine zp HT_ 9 (some 5) ?_;refine zp HT_ 10 (some 6) ?_;refine oG (iJ HT_.out (by kernel_rfl)) ?_
 try go_wp2
 refine bodyPost_ret (uP rfl _ _ acY 211 #[.int .u64 auj,.int .u64 auk] (0,0) _ rfl (zKp yg) Tryz.underlying211 rfl (by kernel_rfl)) rfl ?_;exact⟨by first|exact z3|(simp only[← ui];exact z3)|exact z2,zB HB⟩
def lI.f (fM:Int)(fF:Int)(a1:Int):Option (Int × Int):=if a1≥64 then (if 0≤(wrap64 (a1-64)) then (some (0,shr .u64 fM (wrap64 (a1-64)))) else (none)) else (if 0≤a1 then (if 0≤(wrap64 (64-a1)) then (some (shr .u64 fM a1,Go.bits .or .u64 (shr .u64 fF a1) (shl .u64 fM (wrap64 (64-a1))))) else (none)) else (none))
def lI.T3:Bool × List (List Nat × List Nat):=(true,[([],[]),([0],[0]),([],[]),([1,2],[1,2]),([],[]),([4],[4]),([],[]),([5,6],[5,6]),([],[]),([8],[8]),([],[]),([10],[10]),([9,11],[9,11]),([7,12],[7,12]),([3,13],[3,13]),([14,0,1,2,3,4,5,6,7,8,9,10,11,12,13,14],[14])])
def lI.B3:List Nat := [0,1,0,7,0,16,0,112,0,256,0,1024,3840,8176,16383,32767]
theorem lI.alJ:rX .any (opsOf Tryz.f216 3)=lI.T3:=by kernel_rfl
theorem lI.abL:jf lI.T3.2 lI.B3=true:=by kernel_rfl
theorem lI.calls (fM:Int)(fF:Int)(a1:Int)(r1:Int)(r2:Int)(w:World)(h:lI.f fM fF a1=some (r1,r2)) :
    Calls Tryz.prog 216 #[.agg #[.int .u64 fM,.int .u64 fF],.int .i64 a1] w fun e w'=>e=.returned (.agg #[.int .u64 r1,.int .u64 r2])∧Below w.heap.size w w':=by
 have JV:=Tryz.underlying211;have HB:=am (Below.refl w.heap.size w);have H:=am h;unfold lI.f at H;clear h;replace H:=yD H;rcases H with⟨pK,H⟩|⟨pK,H⟩
 ·generalize BX:(wrap64 (a1-64):Int)=ji4 at H
  have U4:(IntKind.i64.wrap (a1-64))=ji4:=(bW _).trans BX;replace H:=zit H;obtain⟨qN,xC,H⟩:=H;generalize uS:(shr .u64 fM (ji4):Int)=ji6 at H;have acO:(fM / 2 ^ min (ji4).toNat 64)=ji6:=uS;have acP:(ji4)≤64→(fM / 2 ^ (ji4).toNat)=ji6:=kH uS;obtain⟨rfl,rfl⟩:=zJ2 H
  go_enter Tryz.func216,Tryz.ntmps216
  go_wp2_with (first|((with_reducible refine aA (N:=2) rfl ?_);refine zx 2 211 #[.int .u64 fM,.int .u64 fF] ?_;intro acZ hg w7 hbox hb;have yh:=am (hbox);have am0:=zG hg HB;have am1:=zG hg HB;replace HB:=zBs HB hb;clear hb hbox hg)|((with_reducible refine aA (N:=4) rfl ?_);refine zx 4 211 #[.int .u64 0,.int .u64 0] ?_;intro ac0 hg w8 hbox hb;have DD:=am (hbox);have am2:=zG hg HB;have am3:=zG hg HB;replace HB:=zBs HB hb;have zI:=zNl hg yh;have zJ:=zNg hg yh;replace yh:=zKb yh hb;clear hb hbox hg;have ayu:=zI.out;have ayv:=zJ.out;obtain⟨_,_,_,_⟩:=zf2 yh;obtain⟨_,_,_,_⟩:=zf2 DD))
  refine bodyPost_ret (results_cell_row rfl _ _ ac0 211 #[.int .u64 0,.int .u64 ji6] (0,0) _ rfl (zKp DD) Tryz.underlying211 rfl (by kernel_rfl)) rfl ?_;exact⟨by first|exact z3|(simp only[← BX, ← uS];exact z3)|exact z2,zB HB⟩
 replace H:=zit H;obtain⟨pM,uQ,H⟩:=H;generalize qO:(shr .u64 fM a1:Int)=qI at H;have U5:(fM / 2 ^ min a1.toNat 64)=qI:=qO;have aal:a1≤64→(fM / 2 ^ a1.toNat)=qI:=kH qO;have wG:=eq_true (zD:0≤a1);generalize uU:(shr .u64 fF a1:Int)=Ap at H;have aan:(fF / 2 ^ min a1.toNat 64)=Ap:=uU;have aao:a1≤64→(fF / 2 ^ a1.toNat)=Ap:=kH uU;generalize JW:(wrap64 (64-a1):Int)=L6 at H;have agW:(IntKind.i64.wrap (64-a1))=L6:=(bW _).trans JW;replace H:=zit H;obtain⟨wF,Mc,H⟩:=H;generalize uT:(shl .u64 fM (L6):Int)=Dz at H;have OH:(IntKind.u64.wrap (fM*2 ^ min (L6).toNat 64))=Dz:=uT;have aam:(L6)≤64→(IntKind.u64.wrap (fM*2 ^ (L6).toNat))=Dz:=iY uT;obtain⟨rfl,rfl⟩:=zJ2 H
 go_enter Tryz.func216,Tryz.ntmps216
 try go_wp2_with (first|((with_reducible refine aA (N:=2) rfl ?_);refine zx 2 211 #[.int .u64 fM,.int .u64 fF] ?_;intro acZ hg w19 hbox hb;have yh:=am (hbox);have am0:=zG hg HB;have am1:=zG hg HB;replace HB:=zBs HB hb;clear hb hbox hg)|((with_reducible refine aA (N:=4) rfl ?_);refine zx 4 211 #[.int .u64 0,.int .u64 0] ?_;intro ac0 hg w20 hbox hb;have DD:=am (hbox);have am2:=zG hg HB;have am3:=zG hg HB;replace HB:=zBs HB hb;have zI:=zNl hg yh;have zJ:=zNg hg yh;replace yh:=zKb yh hb;clear hb hbox hg))
 replace yh:=am (dY yh.out);replace DD:=am (dY DD.out);replace HB:=am (aW HB.out);refine mM (n:=16) (S:=fun w'=>w'.cell? ⟨acZ,0,none⟩=some (.int .u64 fM)∧w'.cell? ⟨acZ,1,none⟩=some (.int .u64 fF)) (ds := []) (Array.replicate 16 false) (by kernel_rfl) rfl rfl ⟨(ag yh.out 0).trans rfl,(ag yh.out 1).trans rfl⟩ (fun hHeld=>?_);refine gQ lI.alJ lI.abL (fun HT_ HW_=>?_);generalize w20.drew=w21 at yh DD HB hHeld ⊢;refine zp HT_ 0 (some 13) ?_;refine zp HT_ 2 (some 15) ?_;refine zp HT_ 4 (some 17) ?_;refine zp HT_ 6 (some 19) ?_;refine zp HT_ 8 (some 21) ?_;refine zp HT_ 10 (some 23) ?_;refine zp HT_ 11 (some 24) ?_;refine zt HT_ HW_ 1 (some 14) hHeld ?_;refine zp HT_ 3 (some 16) ?_;refine zt HT_ HW_ 5 (some 18) hHeld ?_;refine zp HT_ 7 (some 20) ?_;refine zt HT_ HW_ 9 (some 22) hHeld ?_;refine zp HT_ 12 (some 25) ?_;refine zp HT_ 13 (some 26) ?_;refine zp HT_ 14 (some 27) ?_;refine zu HT_ 15 none (fun K hK=>?_);have ayw:=zl DD 0;have amx:=ak DD.out 0;have acS:=zI.out;have acT:=zJ.out;have auf:=zl DD 1;have agM:=ak DD.out 1;have U7:=zI.out;have U8:=zJ.out;refine xy (w1:=?_) (by rfl) rfl ?_ ?_;rotate_left
 ·go_simp
  rfl
 refine hK.out _ _ ⟨(zh hHeld),(zh hHeld)⟩ (fun hHeld=>?_);clear hK K;refine oG (iJ HT_.out (by kernel_rfl)) ?_
 try go_wp2
 refine bodyPost_ret (results_cell_row rfl _ _ ac0 211 #[.int .u64 qI,.int .u64 (Go.bits .or .u64 (Ap) (Dz))] (0,0) _ rfl (zKp DD) Tryz.underlying211 rfl (by kernel_rfl)) rfl ?_;exact⟨by first|exact z3|(simp only[← qO, ← uU, ← JW, ← uT];exact z3)|exact z2,zB HB⟩
end Go.Proofs.Yy.PTx
end
section
set_option maxHeartbeats 8000000
set_option maxRecDepth 100000
namespace Go.Proofs.Yy.PTx
open Go.RowKit Go.Proofs.Yy.Z Go.Proofs.Yw.PrintWords Go.Proofs.Yw.PrintLast Go.Proofs.Yw.PrintMore
open Go.Proofs.Yy.M
attribute [local go_sem] dP eU lV lX lW lU
attribute [local go_sem] iq ik jE jD gu gq iE iD
attribute [local go_sem high] ZM
def lJ.f (fM:Int)(fF:Int)(a1:Int):Option (Int × Int × Bool × Option Int):=if a1<0 then (some (0,0,false,some 1)) else ((lI.f fM fF (mn a1 128)).bind fun YN=>((jG.f YN.1 YN.2 (mn a1 128)).bind fun agX=>(some (YN.1,YN.2,(!(agX.1 == fM) || (!(agX.2 == fF))),none))))
def lJ.T5:Bool × List (List Nat × List Nat):=(true,[([],[]),([],[]),([],[]),([1,2],[1,2]),([],[]),([3,4],[3,4]),([0,3,0],[0]),([5,6,0,1,2,3,4,5,6],[5]),([7,0,1,2,3,4,5,6,7],[])])
def lJ.B5:List Nat := [0,0,0,6,0,30,15,127,255]
theorem lJ.afx:rX .any (opsOf Tryz.f195 5)=lJ.T5:=by kernel_rfl
theorem lJ.SH:jf lJ.T5.2 lJ.B5=true:=by kernel_rfl
theorem lJ.calls (fM:Int)(fF:Int)(a1:Int)(r1:Int)(r2:Int)(r3:Bool)(r4:Option Int)(w:World)(h:lJ.f fM fF a1=some (r1,r2,r3,r4)) :
    Calls Tryz.prog 195 #[.agg #[.int .u64 fM,.int .u64 fF],.int .i64 a1] w fun e w'=>e=.returned (.tuple #[.agg #[.int .u64 r1,.int .u64 r2],.bool r3,qL r4])∧Below w.heap.size w w':=by
 have JV:=Tryz.underlying211;have zq:=Tryz.underlying27;have hu64:=Tryz.underlying64;have HB:=am (Below.refl w.heap.size w);have H:=am h;unfold lJ.f at H;clear h;replace H:=zsd H;rcases H with⟨pK,H⟩|⟨pK,H⟩
 ·obtain⟨rfl,rfl,rfl,rfl⟩:=zJ4 H
  go_enter Tryz.func195,Tryz.ntmps195
  go_wp2_with (first|((with_reducible refine aA (N:=2) rfl ?_);refine zx 2 211 #[.int .u64 fM,.int .u64 fF] ?_;intro YO hg w4 hbox hb;have qc:=am (hbox);have am4:=zG hg HB;have am5:=zG hg HB;replace HB:=zBs HB hb;clear hb hbox hg)|((with_reducible refine aA (N:=4) rfl ?_);refine zx 4 211 #[.int .u64 0,.int .u64 0] ?_;intro YP hg w5 hbox hb;have sU:=am (hbox);have am6:=zG hg HB;have am7:=zG hg HB;replace HB:=zBs HB hb;have wH:=zNl hg qc;have wI:=zNg hg qc;replace qc:=zKb qc hb;clear hb hbox hg;have ayT:=wI.out;have ayU:=wH.out;obtain⟨_,_,_,_⟩:=zf2 sU))
  refine bodyPost_ret (uP rfl _ _ YP 211 #[.int .u64 0,.int .u64 0] (0,0) _ rfl (zKp sU) Tryz.underlying211 rfl (by kernel_rfl)) rfl ?_;exact⟨z2,zB HB⟩
 generalize ui:(mn a1 128:Int)=ji8 at H;have Qv:(if 128<a1 then 128 else a1)=ji8:=ui;replace H:=zo H;obtain⟨⟨Xi,Xj⟩,A9,H⟩:=H
 try dsimp only at H
 replace H:=zo H;obtain⟨⟨ayX,ayY⟩,A10,H⟩:=H
 try dsimp only at H
 obtain⟨rfl,rfl,rfl,rfl⟩:=zJ4 H
 go_enter Tryz.func195,Tryz.ntmps195
 try go_wp2_with (first|((with_reducible refine aA (N:=2) rfl ?_);refine zx 2 211 #[.int .u64 fM,.int .u64 fF] ?_;intro YO hg w11 hbox hb;have qc:=am (hbox);have am4:=zG hg HB;have am5:=zG hg HB;replace HB:=zBs HB hb;clear hb hbox hg)|((with_reducible refine aA (N:=4) rfl ?_);refine zx 4 211 #[.int .u64 0,.int .u64 0] ?_;intro YP hg w12 hbox hb;have sU:=am (hbox);have am6:=zG hg HB;have am7:=zG hg HB;replace HB:=zBs HB hb;have wH:=zNl hg qc;have wI:=zNg hg qc;replace qc:=zKb qc hb;clear hb hbox hg;have am8:=wH.out;have am9:=wI.out;obtain⟨_,_,_,_⟩:=zf2 qc)|((with_reducible refine af (f:=216) rfl ?_);refine jS (some 16) rfl rfl Tryz.func216 (by kernel_rfl) rfl #[.agg #[.int .u64 fM,.int .u64 fF],.int .i64 ji8] rfl (by (try simp only[List.map_toArray,List.map_cons,List.map_nil]);first|done|(simp only[ui];rfl)|rfl|(simp only[List.length_drop,List.length_take];rfl)) ?_;(with_reducible refine (lI.calls _ _ _ _ _ _ A9.out).mono ?_);rintro e w15 ⟨rfl,hb⟩;refine⟨_,rfl,?_⟩;replace qc:=zKb qc hb;replace sU:=zKb sU hb;replace HB:=zBs HB hb;clear hb)|((with_reducible refine aA (N:=7) rfl ?_);refine zx 7 211 #[.int .u64 0,.int .u64 0] ?_;intro Aq hg w16 hbox hb;have Ar:=am (hbox);have ayZ:=zG hg HB;have ay0:=zG hg HB;replace HB:=zBs HB hb;have Ve:=zNl hg qc;have Vf:=zNg hg qc;replace qc:=zKb qc hb;have DF:=zNl hg sU;have DI:=zNg hg sU;replace sU:=zKb sU hb;clear hb hbox hg;have ana:=Vf.out;have anb:=Ve.out;have anc:=DI.out;have ane:=DF.out;obtain⟨_,_,_,_⟩:=zf2 Ar))
 have n0_:ae (((w16.setCell ⟨Aq,0,none⟩ (.int .u64 Xi)).setCell ⟨Aq,1,none⟩ (.int .u64 Xj)).heap[YO]? = some (.cells #[.int .u64 fM,.int .u64 fF] 211 (0,0))):=⟨zK qc⟩
 have n1_:ae (((w16.setCell ⟨Aq,0,none⟩ (.int .u64 Xi)).setCell ⟨Aq,1,none⟩ (.int .u64 Xj)).heap[YP]? = some (.cells #[.int .u64 0,.int .u64 0] 211 (0,0))):=⟨zK sU⟩
 have n2_:ae (((w16.setCell ⟨Aq,0,none⟩ (.int .u64 Xi)).setCell ⟨Aq,1,none⟩ (.int .u64 Xj)).heap[Aq]? = some (.cells #[.int .u64 Xi,.int .u64 Xj] 211 (0,0))):=⟨zKp Ar⟩
 have n3_:ae (Below w.heap.size w ((w16.setCell ⟨Aq,0,none⟩ (.int .u64 Xi)).setCell ⟨Aq,1,none⟩ (.int .u64 Xj))):=⟨zB HB⟩
 (try clear qc)
 (try clear sU)
 (try clear Ar)
 (try clear HB)
 generalize ((w16.setCell ⟨Aq,0,none⟩ (.int .u64 Xi)).setCell ⟨Aq,1,none⟩ (.int .u64 Xj))=w20 at n0_ n1_ n2_ n3_ ⊢;have qc:=n0_;have sU:=n1_;have Ar:=n2_;have HB:=n3_;clear n0_ n1_ n2_ n3_;replace qc:=am (dY qc.out);replace sU:=am (dY sU.out);replace Ar:=am (dY Ar.out);replace HB:=am (aW HB.out);refine mM (n:=9) (S:=fun w'=>w'.cell? ⟨Aq,0,none⟩=some (.int .u64 Xi)∧w'.cell? ⟨Aq,1,none⟩=some (.int .u64 Xj)∧w'.cell? ⟨YO,0,none⟩=some (.int .u64 fM)∧w'.cell? ⟨YO,1,none⟩=some (.int .u64 fF)) (ds := []) (Array.replicate 9 false) (by kernel_rfl) rfl rfl ⟨(ag Ar.out 0).trans rfl,(ag Ar.out 1).trans rfl,(ag qc.out 0).trans rfl,(ag qc.out 1).trans rfl⟩ (fun hHeld=>?_);refine gQ lJ.afx lJ.SH (fun HT_ HW_=>?_);generalize w20.drew=w21 at qc sU Ar HB hHeld ⊢;refine zp HT_ 2 (some 19) ?_;refine zt HT_ HW_ 0 (some 17) hHeld ?_;refine zt HT_ HW_ 1 (some 18) hHeld ?_;refine zt HT_ HW_ 4 (some 21) hHeld ?_;refine zu HT_ 3 (some 20) (fun K hK=>?_);refine oV Tryz.func187 (by kernel_rfl) rfl #[.agg #[.int .u64 Xi,.int .u64 Xj],.int .i64 ji8] (by rfl) rfl rfl (by (try simp only[List.map_toArray,List.map_cons,List.map_nil]);first|done|(simp only[ui];rfl)|rfl|(simp only[List.length_drop,List.length_take];rfl)) ?_
 with_reducible refine (jG.calls Xi Xj ji8 ayX ayY _ A10.out).mono ?_
 rintro e w22 ⟨rfl,hb⟩;refine⟨_,rfl,?_⟩;replace qc:=zKb qc hb;replace sU:=zKb sU hb;replace Ar:=zKb Ar hb;replace HB:=zBs HB hb
 (try clear hb)
 (try clear hb2)
 (try clear hk)
 (try clear hi)
 refine hK.out _ _ ⟨(ag Ar.out 0).trans rfl,(ag Ar.out 1).trans rfl,(ag qc.out 0).trans rfl,(ag qc.out 1).trans rfl⟩ (fun hHeld=>?_);clear hK K;refine mD (a':=?_) ?_ ?_;rotate_left
 ·show Act.put _ (some 20) _=_
  simp only[Act.put,List.setIfInBounds_toArray,List.set_cons_zero,List.set_cons_succ,bW,fV]
  rfl
 refine zp HT_ 5 (some 22) ?_;refine zu HT_ 6 none (fun K hK=>?_);have auf:=zl sU 0;have agM:=ak sU.out 0;have U7:=wH.out;have anf:=DI.out;have U8:=wI.out;have ang:=DF.out;have aGK:=zl sU 1;have ay1:=ak sU.out 1;have anh:=wH.out;have ani:=DI.out;have anj:=wI.out;have ank:=DF.out;refine xy (w1:=?_) (by rfl) rfl ?_ ?_;rotate_left
 ·go_simp
  rfl
 refine hK.out _ _ ⟨(zh hHeld),(zh hHeld),(zh hHeld),(zh hHeld)⟩ (fun hHeld=>?_);clear hK K;refine zp HT_ 7 (some 5) ?_;refine zp HT_ 8 (some 6) ?_;refine oG (iJ HT_.out (by kernel_rfl)) ?_
 try go_wp2
 refine bodyPost_ret (uP rfl _ _ YP 211 #[.int .u64 Xi,.int .u64 Xj] (0,0) _ rfl (zKp sU) Tryz.underlying211 rfl (by kernel_rfl)) rfl ?_;exact⟨by first|exact z3|(simp only[← ui];exact z3)|exact z2,zB HB⟩
def cu.f (fM:Int)(fF:Int)(a1:Int)(a2:Int)(a3:Bool):Option (Int × Int × Bool):=(lJ.f fM fF a2).bind fun Vg=>(if 0≤(wrap64 (64-a2)) then (if a3=true then (some (Go.bits .or .u64 Vg.1 (shl .u64 a1 (wrap64 (64-a2))),Vg.2.1,true)) else (some (Go.bits .or .u64 Vg.1 (shl .u64 a1 (wrap64 (64-a2))),Vg.2.1,Vg.2.2.1))) else (none))
def cu.T2:Bool × List (List Nat × List Nat):=(true,[([],[]),([0],[0]),([],[]),([],[]),([3],[3]),([2,4],[2,4]),([1,5],[1,5]),([0,1,2,3,4,5,6],[]),([7,6,0,1,2,3,4,5,6],[6,7])])
def cu.B2:List Nat := [0,1,0,0,8,28,63,127,255]
theorem cu.at6:rX .any (opsOf Tryz.f158 2)=cu.T2:=by kernel_rfl
theorem cu.agu:jf cu.T2.2 cu.B2=true:=by kernel_rfl
theorem cu.calls (fM:Int)(fF:Int)(a1:Int)(a2:Int)(a3:Bool)(r1:Int)(r2:Int)(r3:Bool)(w:World)(h:cu.f fM fF a1 a2 a3=some (r1,r2,r3)) :
    Calls Tryz.prog 158 #[.agg #[.int .u64 fM,.int .u64 fF],.int .u64 a1,.int .i64 a2,.bool a3] w fun e w'=>e=.returned (.tuple #[.agg #[.int .u64 r1,.int .u64 r2],.bool r3])∧Below w.heap.size w w':=by
 have JV:=Tryz.underlying211;have HB:=am (Below.refl w.heap.size w);have H:=am h;unfold cu.f at H;clear h;replace H:=zo H;obtain⟨⟨Vh,Vj,aGL,aGM⟩,A5,H⟩:=H
 try dsimp only at H
 generalize uS:(wrap64 (64-a2):Int)=ji6 at H
 (try rw[uS]at A5)
 have Vk:(IntKind.i64.wrap (64-a2))=ji6:=(bW _).trans uS;replace H:=zit H;obtain⟨yE,DJ,H⟩:=H;generalize ui:(shl .u64 a1 (ji6):Int)=ji8 at H
 (try rw[ui]at A5)
 have Qv:(IntKind.u64.wrap (a1*2 ^ min (ji6).toNat 64))=ji8:=ui;have YQ:(ji6)≤64→(IntKind.u64.wrap (a1*2 ^ (ji6).toNat))=ji8:=iY ui
 cases a3
 replace H:=zb0 H;obtain⟨rfl,rfl,rfl⟩:=zJ3 H;rotate_left;replace H:=zb1 H;obtain⟨rfl,rfl,rfl⟩:=zJ3 H;rotate_left
 all_goals (go_enter Tryz.func158,Tryz.ntmps158;try go_wp2_with (first|((with_reducible refine aA (N:=4) rfl ?_);refine zx 4 211 #[.int .u64 fM,.int .u64 fF] ?_;intro anl hg w24 hbox hb;have tY:=am (hbox);have ay2:=zG hg HB;have ay3:=zG hg HB;replace HB:=zBs HB hb;clear hb hbox hg)|((with_reducible refine aA (N:=8) rfl ?_);refine zx 8 211 #[.int .u64 0,.int .u64 0] ?_;intro ac1 hg w25 hbox hb;have uA:=am (hbox);have ay4:=zG hg HB;have ay5:=zG hg HB;replace HB:=zBs HB hb;have Vl:=zNl hg tY;have Vm:=zNg hg tY;replace tY:=zKb tY hb;clear hb hbox hg;have anm:=Vl.out;have ann:=Vm.out;obtain⟨_,_,_,_⟩:=zf2 tY)|((with_reducible refine af (f:=195) rfl ?_);refine zc (some 16) Tryz.func195 _ (lJ.calls _ _ _ _ _ _ _ _ A5.out) ?_;rintro e w28 ⟨rfl,hb⟩;refine⟨_,rfl,?_⟩;replace tY:=zKb tY hb;replace uA:=zKb uA hb;replace HB:=zBs HB hb;clear hb;(try simp only[aj,ah]))|((with_reducible refine aA (N:=10) rfl ?_);refine zx 10 211 #[.int .u64 0,.int .u64 0] ?_;intro wJ hg w29 hbox hb;have tZ:=am (hbox);have ay6:=zG hg HB;have ay7:=zG hg HB;replace HB:=zBs HB hb;have DK:=zNl hg tY;have DL:=zNg hg tY;replace tY:=zKb tY hb;have DN:=zNl hg uA;have DR:=zNg hg uA;replace uA:=zKb uA hb;clear hb hbox hg;have ano:=DL.out;have anp:=DK.out;have anq:=DR.out;have anr:=DN.out;obtain⟨_,_,_,_⟩:=zf2 tZ)))
 all_goals
  have n0_:ae (((w29.setCell ⟨wJ,0,none⟩ (.int .u64 Vh)).setCell ⟨wJ,1,none⟩ (.int .u64 Vj)).heap[anl]? = some (.cells #[.int .u64 fM,.int .u64 fF] 211 (0,0))):=⟨zK tY⟩
  have n1_:ae (((w29.setCell ⟨wJ,0,none⟩ (.int .u64 Vh)).setCell ⟨wJ,1,none⟩ (.int .u64 Vj)).heap[ac1]? = some (.cells #[.int .u64 0,.int .u64 0] 211 (0,0))):=⟨zK uA⟩
  have n2_:ae (((w29.setCell ⟨wJ,0,none⟩ (.int .u64 Vh)).setCell ⟨wJ,1,none⟩ (.int .u64 Vj)).heap[wJ]? = some (.cells #[.int .u64 Vh,.int .u64 Vj] 211 (0,0))):=⟨zKp tZ⟩
  have n3_:ae (Below w.heap.size w ((w29.setCell ⟨wJ,0,none⟩ (.int .u64 Vh)).setCell ⟨wJ,1,none⟩ (.int .u64 Vj))):=⟨zB HB⟩
  (try clear tY)
  (try clear uA)
  (try clear tZ)
  (try clear HB)
 ·generalize ((w29.setCell ⟨wJ,0,none⟩ (.int .u64 Vh)).setCell ⟨wJ,1,none⟩ (.int .u64 Vj))=w33 at n0_ n1_ n2_ n3_ ⊢
  have tY:=n0_;have uA:=n1_;have tZ:=n2_;have HB:=n3_;clear n0_ n1_ n2_ n3_;replace tY:=am (dY tY.out);replace uA:=am (dY uA.out);replace tZ:=am (dY tZ.out);replace HB:=am (aW HB.out);refine mM (n:=9) (S:=fun w'=>w'.cell? ⟨wJ,0,none⟩=some (.int .u64 Vh)∧w'.cell? ⟨wJ,1,none⟩=some (.int .u64 Vj)) (ds := [8]) (Array.replicate 9 false) (by kernel_rfl) rfl rfl ⟨(ag tZ.out 0).trans rfl,(ag tZ.out 1).trans rfl⟩ (fun hHeld=>?_);refine gQ cu.at6 cu.agu (fun HT_ HW_=>?_);generalize w33.drew=w34 at tY uA tZ HB hHeld ⊢;refine zp HT_ 0 (some 20) ?_;refine zp HT_ 2 (some 22) ?_;refine zp HT_ 3 (some 23) ?_;refine zp HT_ 4 (some 24) ?_;refine zp HT_ 5 (some 25) ?_;refine zt HT_ HW_ 1 (some 21) hHeld ?_;refine zp HT_ 6 (some 26) ?_;refine zp HT_ 7 (some 27) ?_;refine Lh (i:=8) (N:=none) #[true,true,true,true,true,true,true,true,true] rfl rfl (AO HT_.out (by kernel_rfl)) (by decide) (fun K hK=>?_);have aGN:=zl tZ 0;have ay8:=ak tZ.out 0;have ant:=DK.out;have anu:=DN.out;have anv:=DL.out;have anw:=DR.out;refine xy (w1:=?_) (by rfl) rfl ?_ ?_;rotate_left
  ·go_simp
   rfl
  refine hK.out _ _ ?_;clear hK K;refine oG (iJ HT_.out (by kernel_rfl)) ?_;obtain⟨_,_,_,_⟩:=zf2 tZ;obtain⟨_,_,_,_⟩:=zf2 uA
  try go_wp2
  refine bodyPost_ret (dh rfl _ _ ac1 211 #[.int .u64 (Go.bits .or .u64 Vh (ji8)),.int .u64 Vj] (0,0) _ rfl (zKp uA) Tryz.underlying211 rfl (by kernel_rfl)) rfl ?_;exact⟨by first|exact z3|(simp only[← uS, ← ui];exact z3)|exact z2,zB HB⟩
 generalize ((w29.setCell ⟨wJ,0,none⟩ (.int .u64 Vh)).setCell ⟨wJ,1,none⟩ (.int .u64 Vj))=w19 at n0_ n1_ n2_ n3_ ⊢;have tY:=n0_;have uA:=n1_;have tZ:=n2_;have HB:=n3_;clear n0_ n1_ n2_ n3_;replace tY:=am (dY tY.out);replace uA:=am (dY uA.out);replace tZ:=am (dY tZ.out);replace HB:=am (aW HB.out);refine mM (n:=9) (S:=fun w'=>w'.cell? ⟨wJ,0,none⟩=some (.int .u64 Vh)∧w'.cell? ⟨wJ,1,none⟩=some (.int .u64 Vj)) (ds := [8]) (Array.replicate 9 false) (by kernel_rfl) rfl rfl ⟨(ag tZ.out 0).trans rfl,(ag tZ.out 1).trans rfl⟩ (fun hHeld=>?_);refine gQ cu.at6 cu.agu (fun HT_ HW_=>?_);generalize w19.drew=w20 at tY uA tZ HB hHeld ⊢;refine zp HT_ 0 (some 20) ?_;refine zp HT_ 2 (some 22) ?_;refine zp HT_ 3 (some 23) ?_;refine zp HT_ 4 (some 24) ?_;refine zp HT_ 5 (some 25) ?_;refine zt HT_ HW_ 1 (some 21) hHeld ?_;refine zp HT_ 6 (some 26) ?_;refine zp HT_ 7 (some 27) ?_;refine Lh (i:=8) (N:=none) #[true,true,true,true,true,true,true,true,true] rfl rfl (AO HT_.out (by kernel_rfl)) (by decide) (fun K hK=>?_);have aGO:=zl tZ 0;have ay9:=ak tZ.out 0;have anx:=DK.out;have anz:=DN.out;have anA:=DL.out;have anB:=DR.out;refine xy (w1:=?_) (by rfl) rfl ?_ ?_;rotate_left
 ·go_simp
  rfl
 refine hK.out _ _ ?_;clear hK K;refine oG (iJ HT_.out (by kernel_rfl)) ?_;obtain⟨_,_,_,_⟩:=zf2 tZ;obtain⟨_,_,_,_⟩:=zf2 uA
 try go_wp2
 refine bodyPost_ret (dh rfl _ _ ac1 211 #[.int .u64 (Go.bits .or .u64 Vh (ji8)),.int .u64 Vj] (0,0) _ rfl (zKp uA) Tryz.underlying211 rfl (by kernel_rfl)) rfl ?_;exact⟨by first|exact z3|(simp only[← uS, ← ui];exact z3)|exact z2,zB HB⟩
def gy.j0:Nat→Int→Bool→Int→Bool→Option (Int)
  | 0,_,_,_,_=>none
  | k+1,x0,x1,x5,x6=>if x6=true then (some 3) else (if x0=x5 then (some 2) else (if x0 > 0 then (some 1) else (if x1=true then (some 1) else (some 0))))
def gy.f (k:Nat)(a0:Int)(a1:Bool):Option (Int):=if a0 > 9223372036854775808 then (gy.j0 k a0 a1 9223372036854775808 (decide (a0 > 9223372036854775808))) else (if a0=9223372036854775808 then (gy.j0 k a0 a1 9223372036854775808 a1) else (gy.j0 k a0 a1 9223372036854775808 false))
theorem gy.calls (k:Nat)(a0:Int)(a1:Bool)(r:Int)(w:World)(h:gy.f k a0 a1=some r) :
    Calls Tryz.prog 159 #[.int .u64 a0,.bool a1] w fun e w'=>e=.returned (.int .i64 r)∧dX w w':=by
 have H:=am h;unfold gy.f at H;clear h
 go_enter Tryz.func159,Tryz.ntmps159
 go_upto_if 6 with (fail)
 go_cut [6] (fun v6 wc => ∃ (kq:Nat) (qW:Bool),v6=.bool qW∧ae (gy.j0 kq a0 a1 9223372036854775808 qW=some r)∧ae (kq≤k)∧dX w wc)
 case first =>
  replace H:=AV H;rcases H with⟨jV,H⟩|⟨jV,H⟩
  (first|rw[jV]|(simp only[bW,fV];rw[jV])|rw[rZ]|skip)
  rotate_left
  (first|rw[jV]|(simp only[bW,fV];rw[jV])|rw[rZ]|skip)
  replace H:=zsk H;rcases H with⟨qN,xC,H⟩|⟨qN,xC,c5,H⟩;rotate_left;rotate_left
  all_goals (go_wp2)
  ·go_meet
   case rel=>exact⟨_,(decide (a0 > 9223372036854775808)),z1,H,⟨z5⟩,z4⟩
  ·go_meet
   case rel=>exact⟨_,(a1),z1,H,⟨z5⟩,z4⟩
  go_meet
  case rel=>exact⟨_,(false),z1,H,⟨z5⟩,z4⟩
 case rest =>
  obtain⟨kq,qW,rfl,H,HJ2,⟨mc2,rfl⟩⟩:=hcut;obtain _|kj2:=kq
  ·exact zz H rfl
  simp only[gy.j0]at H
  cases qW
  replace H:=zb0 H;replace H:=zsk H;rcases H with⟨yE,DJ,H⟩|⟨yE,DJ,c7,H⟩;obtain rfl:=Option.some.inj H.out;rotate_left;replace H:=AV H;rcases H with⟨uz,H⟩|⟨uz,H⟩;obtain rfl:=Option.some.inj H.out;rotate_left
  cases a1
  replace H:=zb0 H;obtain rfl:=Option.some.inj H.out;rotate_left;replace H:=zb1 H;obtain rfl:=Option.some.inj H.out;rotate_left;replace H:=zb1 H;obtain rfl:=Option.some.inj H.out;rotate_left
  all_goals (go_wp2)
  ·go_ret
   exact⟨z1,z4⟩
  ·go_ret
   exact⟨z1,z4⟩
  ·go_ret
   exact⟨z1,z4⟩
  ·go_ret
   exact⟨z1,z4⟩
  go_ret
  exact⟨z1,z4⟩
end Go.Proofs.Yy.PTx
end
section
set_option maxHeartbeats 8000000
set_option maxRecDepth 100000
namespace Go.Proofs.Yy.PTx
open Go.RowKit Go.Proofs.Yy.Z Go.Proofs.Yw.PrintWords Go.Proofs.Yw.PrintLast Go.Proofs.Yw.PrintMore
open Go.Proofs.Yy.M
attribute [local go_sem] dP eU lV lX lW lU
attribute [local go_sem] iq ik jE jD gu gq iE iD
def iM.f (fM:Bool)(fF:Bool)(iQ:ByteArray)(jd:Int):Option (Bool × Bool × ByteArray × Int):=if fM=true then (some (fM,fF,iQ,jd)) else ((jK.f iQ (⟨#[48]⟩:ByteArray)).bind fun Bi=>(if Bi.toList=([]:List UInt8) then (some (false,false,(⟨#[48]⟩:ByteArray),0)) else ((jv.f Bi (⟨#[48]⟩:ByteArray)).bind fun YR=>(if 0≤(wrap64 ((Bi.size:Int)-(mn (wrap64 ((Bi.size:Int)-(YR.size:Int))) (wrap64 (1000000-jd))))) then (if (wrap64 ((Bi.size:Int)-(mn (wrap64 ((Bi.size:Int)-(YR.size:Int))) (wrap64 (1000000-jd)))))≤(Bi.size:Int) then (some (fM,fF,Bi.extract 0 ((wrap64 ((Bi.size:Int)-(mn (wrap64 ((Bi.size:Int)-(YR.size:Int))) (wrap64 (1000000-jd))))):Int).toNat,wrap64 (jd+(mn (wrap64 ((Bi.size:Int)-(YR.size:Int))) (wrap64 (1000000-jd)))))) else (none)) else (none)))))
def iM.T6:Bool × List (List Nat × List Nat):=(true,[([],[]),([0],[0]),([1],[1]),([],[]),([3],[3]),([4],[4]),([5],[5]),([2,6],[2,6]),([7,5,0,1,2,3,4,5,6,7],[7])])
def iM.B6:List Nat := [0,1,3,0,8,24,56,127,255]
theorem iM.tab6:rX .any (opsOf Tryz.f64 6)=iM.T6:=by kernel_rfl
theorem iM.abJ:jf iM.T6.2 iM.B6=true:=by kernel_rfl
theorem iM.calls (fM:Bool)(fF:Bool)(iQ:ByteArray)(jd:Int)(r1:Bool)(r2:Bool)(r3:ByteArray)(r4:Int)(w:World)(h:iM.f fM fF iQ jd=some (r1,r2,r3,r4)) :
    Calls Tryz.prog 64 #[.agg #[.bool fM,.bool fF,.string iQ,.int .i64 jd]] w fun e w'=>e=.returned (.agg #[.bool r1,.bool r2,.string r3,.int .i64 r4])∧Below w.heap.size w w':=by
 have Rf:=Tryz.underlying23;have HB:=am (Below.refl w.heap.size w);have H:=am h;unfold iM.f at H;clear h
 cases fM
 replace H:=zb0 H;replace H:=zo H;obtain⟨Bi,A8,H⟩:=H;replace H:=zsk H;rcases H with⟨vF,BD,H⟩|⟨vF,BD,c9,H⟩;obtain⟨rfl,rfl,rfl,rfl⟩:=zJ4 H;rotate_left
 ·replace H:=zo H
  obtain⟨YR,A17,H⟩:=H;generalize uT:(mn (wrap64 ((Bi.size:Int)-(YR.size:Int))) (wrap64 (1000000-jd)):Int)=Dz at H
  (try rw[uT]at A8)
  (try rw[uT]at A17)
  have OH:(if (wrap64 (1000000-jd))<(wrap64 ((Bi.size:Int)-(YR.size:Int))) then (wrap64 (1000000-jd)) else (wrap64 ((Bi.size:Int)-(YR.size:Int))))=Dz:=uT;generalize tX:(wrap64 ((Bi.size:Int)-(Dz)):Int)=Gg at H
  (try rw[tX]at A8)
  (try rw[tX]at A17)
  have agY:(IntKind.i64.wrap ((Bi.size:Int)-(Dz)))=Gg:=(bW _).trans tX;replace H:=zit H;obtain⟨Qw,anC,H⟩:=H;replace H:=zit H;obtain⟨BF,ac2,H⟩:=H;obtain⟨rfl,rfl,rfl,rfl⟩:=zJ4 H
  go_enter Tryz.func64,Tryz.ntmps64
  try go_wp2_with (first|((with_reducible refine aA (N:=1) rfl ?_);refine zx 1 23 #[.bool false,.bool fF,.string iQ,.int .i64 jd] ?_;intro DT hg w22 hbox hb;have nH:=am (hbox);have agZ:=zG hg HB;have ag0:=zG hg HB;replace HB:=zBs HB hb;clear hb hbox hg)|((with_reducible refine aA (N:=2) rfl ?_);refine zx 2 23 #[.bool false,.bool false,.string (⟨#[]⟩:ByteArray),.int .i64 0] ?_;intro Vo hg w23 hbox hb;have uV:=am (hbox);have anD:=zG hg HB;have anE:=zG hg HB;replace HB:=zBs HB hb;have DU:=zNl hg nH;have DV:=zNg hg nH;replace nH:=zKb nH hb;clear hb hbox hg;have ag1:=DU.out;have ag2:=DV.out;obtain⟨_,_,_,_,_,_,_,_⟩:=zf4 nH)|((with_reducible refine af (f:=118) rfl ?_);refine zc (some 9) Tryz.func118 _ (jK.calls _ _ _ _ A8.out) ?_;rintro e w26 ⟨rfl,hb⟩;refine⟨_,rfl,?_⟩;replace nH:=zKb nH hb;replace uV:=zKb uV hb;replace HB:=zBs HB hb;clear hb;obtain⟨_,_,_,_,_,_,_,_⟩:=zf4 nH))
  have n0_:ae ((w26.setCell ⟨DT,2,none⟩ (.string Bi)).heap[DT]? = some (.cells #[.bool false,.bool fF,.string Bi,.int .i64 jd] 23 (0,0))):=⟨zKp nH⟩
  have n1_:ae ((w26.setCell ⟨DT,2,none⟩ (.string Bi)).heap[Vo]? = some (.cells #[.bool false,.bool false,.string (⟨#[]⟩:ByteArray),.int .i64 0] 23 (0,0))):=⟨zK uV⟩
  have n2_:ae (Below w.heap.size w (w26.setCell ⟨DT,2,none⟩ (.string Bi))):=⟨zB HB⟩
  (try clear nH)
  (try clear uV)
  (try clear HB)
  generalize (w26.setCell ⟨DT,2,none⟩ (.string Bi))=w28 at n0_ n1_ n2_ ⊢;have nH:=n0_;have uV:=n1_;have HB:=n2_;clear n0_ n1_ n2_;replace nH:=am (dY nH.out);replace uV:=am (dY uV.out);replace HB:=am (aW HB.out);refine mM (n:=9) (S:=fun w'=>w'.cell? ⟨DT,0,none⟩=some (.bool false)∧w'.cell? ⟨DT,1,none⟩=some (.bool fF)∧w'.cell? ⟨DT,2,none⟩=some (.string Bi)∧w'.cell? ⟨DT,3,none⟩=some (.int .i64 jd)) (ds := []) (Array.replicate 9 false) (by kernel_rfl) rfl rfl ⟨(ag nH.out 0).trans rfl,(ag nH.out 1).trans rfl,(ag nH.out 2).trans rfl,(ag nH.out 3).trans rfl⟩ (fun hHeld=>?_);refine gQ iM.tab6 iM.abJ (fun HT_ HW_=>?_);generalize w28.drew=w29 at nH uV HB hHeld ⊢;refine zp HT_ 0 (some 15) ?_;refine zp HT_ 3 (some 18) ?_;refine zt HT_ HW_ 1 (some 16) hHeld ?_;refine zp HT_ 2 (some 17) ?_;refine zt HT_ HW_ 4 (some 19) hHeld ?_;refine zu HT_ 5 (some 20) (fun K hK=>?_);refine oV Tryz.func119 (by kernel_rfl) rfl #[.string Bi,.string (⟨#[48]⟩:ByteArray)] (by rfl) rfl rfl (by (try simp only[List.map_toArray,List.map_cons,List.map_nil]);first|done|rfl|(simp only[List.length_drop,List.length_take];rfl)) ?_
  with_reducible refine (jv.calls Bi (⟨#[48]⟩:ByteArray) YR _ A17.out).mono ?_
  rintro e w30 ⟨rfl,hb⟩;refine⟨_,rfl,?_⟩;replace nH:=zKb nH hb;replace uV:=zKb uV hb;replace HB:=zBs HB hb
  (try clear hb)
  (try clear hb2)
  (try clear hk)
  (try clear hi)
  refine hK.out _ _ ⟨(ag nH.out 0).trans rfl,(ag nH.out 1).trans rfl,(ag nH.out 2).trans rfl,(ag nH.out 3).trans rfl⟩ (fun hHeld=>?_);clear hK K;refine mD (a':=?_) ?_ ?_;rotate_left
  ·show Act.put _ (some 20) _=_
   simp only[Act.put,List.setIfInBounds_toArray,List.set_cons_zero,List.set_cons_succ,bW,fV]
   rfl
  refine zp HT_ 6 (some 21) ?_;refine zp HT_ 7 (some 22) ?_;refine zp HT_ 8 (some 3) ?_;refine oG (iJ HT_.out (by kernel_rfl)) ?_;obtain⟨_,_,_,_,_,_,_,_⟩:=zf4 nH;obtain⟨_,_,_,_,_,_,_,_⟩:=zf4 uV
  try go_wp2
  refine bodyPost_ret (results_cell_row rfl _ _ Vo 23 #[.bool false,.bool fF,.string (Bi.extract 0 ((Gg):Int).toNat),.int .i64 (wrap64 (jd+(Dz)))] (0,0) _ rfl (zKp uV) Tryz.underlying23 rfl (by kernel_rfl)) rfl ?_;exact⟨by first|exact z3|(simp only[← uT, ← tX];exact z3)|exact z2,zB HB⟩
 replace H:=zb1 H;obtain⟨rfl,rfl,rfl,rfl⟩:=zJ4 H;rotate_left
 all_goals (go_enter Tryz.func64,Tryz.ntmps64;go_wp2_with (first|((with_reducible refine aA (N:=1) rfl ?_);refine zx 1 23 #[.bool false,.bool fF,.string iQ,.int .i64 jd] ?_;intro DT hg w10 hbox hb;have nH:=am (hbox);have agZ:=zG hg HB;have ag0:=zG hg HB;replace HB:=zBs HB hb;clear hb hbox hg)|((with_reducible refine aA (N:=2) rfl ?_);refine zx 2 23 #[.bool false,.bool false,.string (⟨#[]⟩:ByteArray),.int .i64 0] ?_;intro Vo hg w11 hbox hb;have uV:=am (hbox);have anD:=zG hg HB;have anE:=zG hg HB;replace HB:=zBs HB hb;have DU:=zNl hg nH;have DV:=zNg hg nH;replace nH:=zKb nH hb;clear hb hbox hg;have agP:=DU.out;have agQ:=DV.out;obtain⟨_,_,_,_,_,_,_,_⟩:=zf4 nH;obtain⟨_,_,_,_,_,_,_,_⟩:=zf4 uV)|((with_reducible refine af (f:=118) rfl ?_);refine zc (some 9) Tryz.func118 _ (jK.calls _ _ _ _ A8.out) ?_;rintro e w14 ⟨rfl,hb⟩;refine⟨_,rfl,?_⟩;replace nH:=zKb nH hb;replace uV:=zKb uV hb;replace HB:=zBs HB hb;clear hb;obtain⟨_,_,_,_,_,_,_,_⟩:=zf4 nH;obtain⟨_,_,_,_,_,_,_,_⟩:=zf4 uV)|((with_reducible refine aA (N:=1) rfl ?_);refine zx 1 23 #[.bool true,.bool fF,.string iQ,.int .i64 jd] ?_;intro DT hg w3 hbox hb;have nH:=am (hbox);have agZ:=zG hg HB;have ag0:=zG hg HB;replace HB:=zBs HB hb;clear hb hbox hg)))
 ·refine bodyPost_ret (results_cell_row rfl _ _ Vo 23 #[.bool false,.bool false,.string (⟨#[48]⟩:ByteArray),.int .i64 0] (0,0) _ rfl (zKp uV) Tryz.underlying23 rfl (by kernel_rfl)) rfl ?_
  exact⟨z2,zB HB⟩
 refine bodyPost_ret (results_cell_row rfl _ _ Vo 23 #[.bool true,.bool fF,.string iQ,.int .i64 jd] (0,0) _ rfl (zKp uV) Tryz.underlying23 rfl (by kernel_rfl)) rfl ?_;exact⟨z2,zB HB⟩
end Go.Proofs.Yy.PTx
end
section
set_option maxHeartbeats 8000000
set_option maxRecDepth 100000
namespace Go.Proofs.Yy.PTx
open Go.RowKit Go.Proofs.Yy.Z Go.Proofs.Yw.PrintWords Go.Proofs.Yw.PrintLast Go.Proofs.Yw.PrintMore
open Go.Proofs.Yy.M
attribute [local go_sem] dP eU lV lX lW lU
attribute [local go_sem] iq ik jE jD gu gq iE iD
attribute [local go_sem high] al3
def oH.f (fM:Bool)(fF:Bool)(iQ:ByteArray)(jd:Int):Option (Bool):=if fM=true then (some (fM && (!fF && (iQ.toList == ([]:List UInt8) && (jd == 0))))) else (if iQ.toList=([]:List UInt8) then (some false) else (if (iQ.size:Int) > 4096 then (some false) else (if jd<(-1000000) then (some false) else (if jd > 1000000 then (some false) else ((mY.f iQ (⟨#[48,49,50,51,52,53,54,55,56,57]⟩:ByteArray)).bind fun aul=>(some (aul.toList == ([]:List UInt8))))))))
theorem oH.calls (fM:Bool)(fF:Bool)(iQ:ByteArray)(jd:Int)(r:Bool)(w:World)(h:oH.f fM fF iQ jd=some r) :
    Calls Tryz.prog 65 #[.agg #[.bool fM,.bool fF,.string iQ,.int .i64 jd]] w fun e w'=>e=.returned (.bool r)∧Below w.heap.size w w':=by
 have Rf:=Tryz.underlying23;have HB:=am (Below.refl w.heap.size w);have H:=am h;unfold oH.f at H;clear h
 cases fM
 replace H:=zb0 H;replace H:=zsk H;rcases H with⟨qN,xC,H⟩|⟨qN,xC,c5,H⟩;obtain rfl:=Option.some.inj H.out;rotate_left;replace H:=zs H;rcases H with⟨c8,H⟩|⟨c8,H⟩;have uz:decide (4096<(iQ.size:Int))=true:=decide_eq_true c8;have Ey:decide (4096<iQ.size)=true:=decide_eq_true (by omega);clear c8;obtain rfl:=Option.some.inj H.out;rotate_left;have uz:decide (4096<(iQ.size:Int))=false:=decide_eq_false c8;have Ey:decide (4096<iQ.size)=false:=decide_eq_false (by omega);clear c8;replace H:=zsd H;rcases H with⟨qJ,H⟩|⟨qJ,H⟩;obtain rfl:=Option.some.inj H.out;rotate_left;replace H:=AV H;rcases H with⟨wG,H⟩|⟨wG,H⟩;obtain rfl:=Option.some.inj H.out;rotate_left;replace H:=zo H;obtain⟨aul,A17,H⟩:=H;obtain rfl:=Option.some.inj H.out;rotate_left;replace H:=zb1 H;obtain rfl:=Option.some.inj H.out;rotate_left
 all_goals (go_enter Tryz.func65,Tryz.ntmps65;go_wp2_with (first|((with_reducible refine aA (N:=1) rfl ?_);(try (refine nS (by rfl) ?_;dsimp only));refine zx 1 23 #[.bool false,.bool fF,.string iQ,.int .i64 jd] ?_;intro anF hg w18 hbox hb;have Vp:=am (hbox);have anG:=zG hg HB;have anH:=zG hg HB;replace HB:=zBs HB hb;clear hb hbox hg;obtain⟨_,_,_,_,_,_,_,_⟩:=zf4 Vp)|((with_reducible refine af (f:=120) rfl ?_);refine zc (some 29) Tryz.func120 _ (mY.calls _ _ _ _ A17.out) ?_;rintro e w20 ⟨rfl,hb⟩;refine⟨_,rfl,?_⟩;replace Vp:=zKb Vp hb;replace HB:=zBs HB hb;clear hb)|((with_reducible refine aA (N:=1) rfl ?_);(try (refine nS (by rfl) ?_;dsimp only));refine zx 1 23 #[.bool true,.bool fF,.string iQ,.int .i64 jd] ?_;intro anF hg w3 hbox hb;have Vp:=am (hbox);have anG:=zG hg HB;have anH:=zG hg HB;replace HB:=zBs HB hb;clear hb hbox hg;obtain⟨_,_,_,_,_,_,_,_⟩:=zf4 Vp)))
 ·go_ret
  exact⟨z2,zB HB⟩
 ·go_ret
  exact⟨z2,zB HB⟩
 ·go_ret
  exact⟨z2,zB HB⟩
 ·go_ret
  exact⟨z2,zB HB⟩
 ·go_ret
  exact⟨z2,zB HB⟩
 go_ret
 exact⟨z2,zB HB⟩
def lh.f (fM:Bool)(fF:Bool)(iQ:ByteArray)(jd:Int):Option (Bool × Bool × ByteArray × Int × Option Int):=(oH.f fM fF iQ jd).bind fun t109=>(if t109=true then ((iM.f fM fF iQ jd).bind fun YS=>(some (YS.1,YS.2.1,YS.2.2.1,YS.2.2.2,none))) else (some (false,false,(⟨#[]⟩:ByteArray),0,some 23)))
theorem lh.calls (fM:Bool)(fF:Bool)(iQ:ByteArray)(jd:Int)(r1:Bool)(r2:Bool)(r3:ByteArray)(r4:Int)(r5:Option Int)(w:World)(h:lh.f fM fF iQ jd=some (r1,r2,r3,r4,r5)) :
    Calls Tryz.prog 26 #[.agg #[.bool fM,.bool fF,.string iQ,.int .i64 jd]] w fun e w'=>e=.returned (.tuple #[.agg #[.bool r1,.bool r2,.string r3,.int .i64 r4],qL r5])∧Below w.heap.size w w':=by
 have Rf:=Tryz.underlying23;have zq:=Tryz.underlying27;have hu64:=Tryz.underlying64;have HB:=am (Below.refl w.heap.size w);have H:=am h;unfold lh.f at H;clear h;replace H:=zo H;obtain⟨t109,A2,H⟩:=H
 cases t109
 replace H:=zb0 H;obtain⟨rfl,rfl,rfl,rfl,rfl⟩:=zJ5 H;rotate_left;replace H:=zb1 H;replace H:=zo H;obtain⟨⟨aza,azb,azc,azd⟩,A4,H⟩:=H
 try dsimp only at H
 obtain⟨rfl,rfl,rfl,rfl,rfl⟩:=zJ5 H;rotate_left
 all_goals (go_enter Tryz.func26,Tryz.ntmps26;go_wp2_with (first|((with_reducible refine aA (N:=1) rfl ?_);refine zx 1 23 #[.bool fM,.bool fF,.string iQ,.int .i64 jd] ?_;intro aze hg w5 hbox hb;have ET:=am (hbox);have azf:=zG hg HB;have azg:=zG hg HB;replace HB:=zBs HB hb;clear hb hbox hg)|((with_reducible refine aA (N:=2) rfl ?_);refine zx 2 23 #[.bool false,.bool false,.string (⟨#[]⟩:ByteArray),.int .i64 0] ?_;intro ag3 hg w6 hbox hb;have JY:=am (hbox);have azh:=zG hg HB;have azi:=zG hg HB;replace HB:=zBs HB hb;have Vq:=zNl hg ET;have Vr:=zNg hg ET;replace ET:=zKb ET hb;clear hb hbox hg;have aGP:=Vq.out;have aGQ:=Vr.out;obtain⟨_,_,_,_,_,_,_,_⟩:=zf4 ET)|((with_reducible refine af (f:=65) rfl ?_);refine zc (some 5) Tryz.func65 _ (oH.calls _ _ _ _ _ _ A2.out) ?_;rintro e w9 ⟨rfl,hb⟩;refine⟨_,rfl,?_⟩;replace ET:=zKb ET hb;replace JY:=zKb JY hb;replace HB:=zBs HB hb;clear hb;obtain⟨_,_,_,_,_,_,_,_⟩:=zf4 ET;obtain⟨_,_,_,_,_,_,_,_⟩:=zf4 JY)|((with_reducible refine af (f:=64) rfl ?_);refine zc (some 10) Tryz.func64 _ (iM.calls _ _ _ _ _ _ _ _ _ A4.out) ?_;rintro e w11 ⟨rfl,hb⟩;refine⟨_,rfl,?_⟩;replace ET:=zKb ET hb;replace JY:=zKb JY hb;replace HB:=zBs HB hb;clear hb;obtain⟨_,_,_,_,_,_,_,_⟩:=zf4 JY)))
 ·refine bodyPost_ret (dh rfl _ _ ag3 23 #[.bool false,.bool false,.string (⟨#[]⟩:ByteArray),.int .i64 0] (0,0) _ rfl (zKp JY) Tryz.underlying23 rfl (by kernel_rfl)) rfl ?_
  exact⟨z2,zB HB⟩
 refine bodyPost_ret (dh rfl _ _ ag3 23 #[.bool aza,.bool azb,.string azc,.int .i64 azd] (0,0) _ rfl (zKp JY) Tryz.underlying23 rfl (by kernel_rfl)) rfl ?_;exact⟨z2,zB HB⟩
def oz.f (a0:Int):Option (Bool):=if a0=8 then (some true) else (if a0=16 then (some true) else (if a0=32 then (some true) else (if a0=64 then (some true) else (some false))))
theorem oz.calls (a0:Int)(r:Bool)(w:World)(h:oz.f a0=some r) :
    Calls Tryz.prog 126 #[.int .i64 a0] w fun e w'=>e=.returned (.bool r)∧dX w w':=by
 have H:=am h;unfold oz.f at H;clear h;replace H:=zsk H;rcases H with⟨sQ,JU,H⟩|⟨sQ,JU,c2,H⟩;obtain rfl:=Option.some.inj H.out;rotate_left;replace H:=zsk H;rcases H with⟨pK,Kv,H⟩|⟨pK,Kv,c3,H⟩;obtain rfl:=Option.some.inj H.out;rotate_left;replace H:=zsk H;rcases H with⟨jV,rZ,H⟩|⟨jV,rZ,c4,H⟩;obtain rfl:=Option.some.inj H.out;rotate_left;replace H:=zsk H;rcases H with⟨qN,xC,H⟩|⟨qN,xC,c5,H⟩;obtain rfl:=Option.some.inj H.out;rotate_left;obtain rfl:=Option.some.inj H.out;rotate_left
 all_goals (go_enter Tryz.func126,Tryz.ntmps126;go_wp2)
 ·go_ret
  exact⟨z1,z4⟩
 ·go_ret
  exact⟨z1,z4⟩
 ·go_ret
  exact⟨z1,z4⟩
 ·go_ret
  exact⟨z1,z4⟩
 go_ret
 exact⟨z1,z4⟩
def o7.f (a0:Int):Option (Int):=if a0=64 then (some 18446744073709551615) else (if 0≤a0 then (some (IntKind.u64.wrap ((shl .u64 1 a0)-1))) else (none))
theorem o7.calls (a0:Int)(r:Int)(w:World)(h:o7.f a0=some r) :
    Calls Tryz.prog 181 #[.int .i64 a0] w fun e w'=>e=.returned (.int .u64 r)∧dX w w':=by
 have H:=am h;unfold o7.f at H;clear h;replace H:=zsk H;rcases H with⟨sQ,JU,H⟩|⟨sQ,JU,c2,H⟩;obtain rfl:=Option.some.inj H.out;rotate_left;replace H:=zit H;obtain⟨pK,Kv,H⟩:=H;generalize BX:(shl .u64 1 a0:Int)=ji4 at H;have anI:(IntKind.u64.wrap (1*2 ^ min a0.toNat 64))=ji4:=BX;have anJ:a0≤64→(IntKind.u64.wrap (1*2 ^ a0.toNat))=ji4:=iY BX
 have azj:(IntKind.u64.wrap (2 ^ min a0.toNat 64))=ji4:=by have h_:=anI;rw[Int.one_mul]at h_;exact h_
 have azk:a0≤64→(IntKind.u64.wrap (2 ^ a0.toNat))=ji4:=fun ac3=>by have h_:=anJ ac3;rw[Int.one_mul]at h_;exact h_
 obtain rfl:=Option.some.inj H.out;rotate_left
 all_goals (go_enter Tryz.func181,Tryz.ntmps181;go_wp2)
 ·go_ret
  exact⟨z1,z4⟩
 go_ret
 exact⟨by first|rfl|(simp;done)|(simp only[← BX] <;> (first|rfl|simp))|(simp[*];done),z4⟩
def um.f (a0:Int):Option (Int × Option Int):=if a0<0 then (some (0,some 1)) else (if a0 > 64 then (some (0,some 1)) else ((o7.f a0).bind fun aum=>(some (aum,none))))
theorem um.calls (a0:Int)(r1:Int)(r2:Option Int)(w:World)(h:um.f a0=some (r1,r2)) :
    Calls Tryz.prog 128 #[.int .i64 a0] w fun e w'=>e=.returned (.tuple #[.int .u64 r1,qL r2])∧dX w w':=by
 have zq:=Tryz.underlying27;have hu64:=Tryz.underlying64;have H:=am h;unfold um.f at H;clear h;replace H:=zsd H;rcases H with⟨sQ,H⟩|⟨sQ,H⟩;obtain⟨rfl,rfl⟩:=zJ2 H;rotate_left;replace H:=AV H;rcases H with⟨pK,H⟩|⟨pK,H⟩;obtain⟨rfl,rfl⟩:=zJ2 H;rotate_left;replace H:=zo H;obtain⟨aum,A4,H⟩:=H;obtain⟨rfl,rfl⟩:=zJ2 H;rotate_left
 all_goals (go_enter Tryz.func128,Tryz.ntmps128;go_wp2_with (first|((with_reducible refine af (f:=181) rfl ?_);refine zc (some 12) Tryz.func181 _ (o7.calls _ _ _ A4.out) ?_;rintro e w' ⟨rfl,⟨nd,rfl⟩⟩;refine⟨_,rfl,?_⟩)))
 ·go_ret2
  exact⟨z1,z4⟩
 ·go_ret2
  exact⟨z1,z4⟩
 go_ret2
 exact⟨z1,z4⟩
def fE.f (a0:Int)(a1:Int):Option (Int × Option Int):=(oz.f a0).bind fun anK=>(if anK=true then ((um.f a0).bind fun ag4=>(some (Go.bits .and .u64 a1 ag4.1,ag4.2))) else (some (0,some 2)))
theorem fE.calls (a0:Int)(a1:Int)(r1:Int)(r2:Option Int)(w:World)(h:fE.f a0 a1=some (r1,r2)) :
    Calls Tryz.prog 76 #[.int .i64 a0,.int .u64 a1] w fun e w'=>e=.returned (.tuple #[.int .u64 r1,qL r2])∧dX w w':=by
 have zq:=Tryz.underlying27;have hu64:=Tryz.underlying64;have H:=am h;unfold fE.f at H;clear h;replace H:=zo H;obtain⟨anK,A3,H⟩:=H
 cases anK
 replace H:=zb0 H;obtain⟨rfl,rfl⟩:=zJ2 H;rotate_left;replace H:=zb1 H;replace H:=zo H;obtain⟨⟨t116,t117⟩,A5,H⟩:=H
 try dsimp only at H
 obtain⟨rfl,rfl⟩:=zJ2 H;rotate_left
 all_goals (go_enter Tryz.func76,Tryz.ntmps76;go_wp2_with (first|((with_reducible refine af (f:=126) rfl ?_);refine zc (some 9) Tryz.func126 _ (oz.calls _ _ _ A3.out) ?_;rintro e w' ⟨rfl,⟨nd,rfl⟩⟩;refine⟨_,rfl,?_⟩)|((with_reducible refine af (f:=128) rfl ?_);refine zc (some 14) Tryz.func128 _ (um.calls _ _ _ _ A5.out) ?_;rintro e w' ⟨rfl,⟨nd,rfl⟩⟩;refine⟨_,rfl,?_⟩;(try simp only[aj,ah]))))
 ·go_ret2
  exact⟨z1,z4⟩
 go_ret2
 exact⟨z1,z4⟩
def kY.f (a0:Int)(a1:Int):Option (Int × Option Int):=(fE.f a0 a1).bind fun YT=>(if YT.2.isNone=true then (if YT.1=0 then (some (0,none)) else (if 0≤(wrap64 (a0-1)) then (if YT.1=(shl .u64 1 (wrap64 (a0-1))) then (some (2,none)) else (some (1,none))) else (none))) else (some (0,some (YT.2.getD 0))))
theorem kY.calls (a0:Int)(a1:Int)(r1:Int)(r2:Option Int)(w:World)(h:kY.f a0 a1=some (r1,r2)) :
    Calls Tryz.prog 91 #[.int .i64 a0,.int .u64 a1] w fun e w'=>e=.returned (.tuple #[.int .i64 r1,qL r2])∧dX w w':=by
 have zq:=Tryz.underlying27;have hu64:=Tryz.underlying64;have H:=am h;unfold kY.f at H;clear h;replace H:=zo H;obtain⟨⟨aGR,t119⟩,A3,H⟩:=H
 try dsimp only at H
 rcases t119 with _|aGS;replace H:=zb1 H
 try simp only[aj,ah]
 replace H:=zsk H;rcases H with⟨jV,rZ,H⟩|⟨jV,rZ,c4,H⟩;obtain⟨rfl,rfl⟩:=zJ2 H;rotate_left;generalize Qx:(wrap64 (a0-1):Int)=ji5 at H
 (try rw[Qx]at A3)
 have ag5:(IntKind.i64.wrap (a0-1))=ji5:=(bW _).trans Qx;replace H:=zit H;obtain⟨qV,BB,H⟩:=H;generalize Gh:(shl .u64 1 (ji5):Int)=ji7 at H
 (try rw[Gh]at A3)
 have YU:(IntKind.u64.wrap (1*2 ^ min (ji5).toNat 64))=ji7:=Gh;have ac4:(ji5)≤64→(IntKind.u64.wrap (1*2 ^ (ji5).toNat))=ji7:=iY Gh
 have azl:(IntKind.u64.wrap (2 ^ min (ji5).toNat 64))=ji7:=by have h_:=YU;rw[Int.one_mul]at h_;exact h_
 have azm:(ji5)≤64→(IntKind.u64.wrap (2 ^ (ji5).toNat))=ji7:=fun ac3=>by have h_:=ac4 ac3;rw[Int.one_mul]at h_;exact h_
 replace H:=zsk H;rcases H with⟨uz,Ey,H⟩|⟨uz,Ey,c8,H⟩;obtain⟨rfl,rfl⟩:=zJ2 H;rotate_left;obtain⟨rfl,rfl⟩:=zJ2 H;rotate_left;replace H:=zb0 H
 try simp only[Option.getD_some]at H
 try simp only[aj,ah]
 obtain⟨rfl,rfl⟩:=zJ2 H;rotate_left
 all_goals (go_enter Tryz.func91,Tryz.ntmps91;go_wp2_with (first|((with_reducible refine af (f:=76) rfl ?_);refine zc (some 10) Tryz.func76 _ (fE.calls _ _ _ _ _ A3.out) ?_;rintro e w' ⟨rfl,⟨nd,rfl⟩⟩;refine⟨_,rfl,?_⟩;(try simp only[aj,ah]))))
 ·go_ret2
  exact⟨z1,z4⟩
 ·go_ret2
  exact⟨by first|rfl|(simp;done)|(simp only[← Qx, ← Gh] <;> (first|rfl|simp))|(simp[*];done),z4⟩
 ·go_ret2
  exact⟨by first|rfl|(simp;done)|(simp only[← Qx, ← Gh] <;> (first|rfl|simp))|(simp[*];done),z4⟩
 go_ret2
 exact⟨z1,z4⟩
def rO.f (a0:Int)(a1:Int):Option (Int × Option Int):=if a1<1 then (some (0,some 1)) else (if a1 > 64 then (some (0,some 1)) else (if 0≤(wrap64 (64-a1)) then (some (shr .i64 (wrap64 (shl .u64 a0 (wrap64 (64-a1)))) (wrap64 (64-a1)),none)) else (none)))
theorem rO.calls (a0:Int)(a1:Int)(r1:Int)(r2:Option Int)(w:World)(h:rO.f a0 a1=some (r1,r2)) :
    Calls Tryz.prog 127 #[.int .u64 a0,.int .i64 a1] w fun e w'=>e=.returned (.tuple #[.int .i64 r1,qL r2])∧dX w w':=by
 have zq:=Tryz.underlying27;have hu64:=Tryz.underlying64;have H:=am h;unfold rO.f at H;clear h;replace H:=zsd H;rcases H with⟨pK,H⟩|⟨pK,H⟩;obtain⟨rfl,rfl⟩:=zJ2 H;rotate_left;replace H:=AV H;rcases H with⟨jV,H⟩|⟨jV,H⟩;obtain⟨rfl,rfl⟩:=zJ2 H;rotate_left;generalize Qx:(wrap64 (64-a1):Int)=ji5 at H;have ag5:(IntKind.i64.wrap (64-a1))=ji5:=(bW _).trans Qx;replace H:=zit H;obtain⟨qV,BB,H⟩:=H;generalize Gh:(shl .u64 a0 (ji5):Int)=ji7 at H;have YU:(IntKind.u64.wrap (a0*2 ^ min (ji5).toNat 64))=ji7:=Gh;have ac4:(ji5)≤64→(IntKind.u64.wrap (a0*2 ^ (ji5).toNat))=ji7:=iY Gh;have uz:=eq_true (zD:0≤(ji5));generalize Rh:(shr .i64 (wrap64 (ji7)) (ji5):Int)=ji9 at H;have anL:((wrap64 (ji7)) / 2 ^ min (ji5).toNat 64)=ji9:=Rh;have azn:(ji5)≤64→((wrap64 (ji7)) / 2 ^ (ji5).toNat)=ji9:=kH Rh;obtain⟨rfl,rfl⟩:=zJ2 H;rotate_left
 all_goals (go_enter Tryz.func127,Tryz.ntmps127;go_wp2)
 ·go_ret2
  exact⟨z1,z4⟩
 ·go_ret2
  exact⟨z1,z4⟩
 go_ret2
 exact⟨by first|rfl|(simp;done)|(simp only[← Qx, ← Gh, ← Rh] <;> (first|rfl|simp))|(simp[*];done),z4⟩
def rG.f (a0:Int)(a1:Int):Option (Int × Option Int):=(oz.f a0).bind fun anM=>(if anM=true then ((rO.f a1 a0).bind fun ag6=>(some (ag6.1,ag6.2))) else (some (0,some 2)))
theorem rG.calls (a0:Int)(a1:Int)(r1:Int)(r2:Option Int)(w:World)(h:rG.f a0 a1=some (r1,r2)) :
    Calls Tryz.prog 75 #[.int .i64 a0,.int .u64 a1] w fun e w'=>e=.returned (.tuple #[.int .i64 r1,qL r2])∧dX w w':=by
 have zq:=Tryz.underlying27;have hu64:=Tryz.underlying64;have H:=am h;unfold rG.f at H;clear h;replace H:=zo H;obtain⟨anM,A3,H⟩:=H
 cases anM
 replace H:=zb0 H;obtain⟨rfl,rfl⟩:=zJ2 H;rotate_left;replace H:=zb1 H;replace H:=zo H;obtain⟨⟨aGT,aGU⟩,A5,H⟩:=H
 try dsimp only at H
 obtain⟨rfl,rfl⟩:=zJ2 H;rotate_left
 all_goals (go_enter Tryz.func75,Tryz.ntmps75;go_wp2_with (first|((with_reducible refine af (f:=126) rfl ?_);refine zc (some 7) Tryz.func126 _ (oz.calls _ _ _ A3.out) ?_;rintro e w' ⟨rfl,⟨nd,rfl⟩⟩;refine⟨_,rfl,?_⟩)|((with_reducible refine af (f:=127) rfl ?_);refine zc (some 12) Tryz.func127 _ (rO.calls _ _ _ _ _ A5.out) ?_;rintro e w' ⟨rfl,⟨nd,rfl⟩⟩;refine⟨_,rfl,?_⟩;(try simp only[aj,ah]))))
 ·go_ret2
  exact⟨z1,z4⟩
 go_ret2
 exact⟨z1,z4⟩
end Go.Proofs.Yy.PTx
end
section
namespace Go.Proofs.Yy.PTx
open Go.RowKit Go.Proofs.Yw.PrintWords Go.Proofs.Yw.PrintLast Go.Proofs.Yw.PrintMore Go.Proofs.Yy.M Go.Proofs.Yy.TA
theorem qm {x:Int}(h0 : -9223372036854775808≤x)(h1:x≤9223372036854775807):wrap64 x=x:=by unfold wrap64;omega
theorem p64:(2:Nat) ^ 64=18446744073709551616:=rfl
theorem alY:(2:Nat) ^ 128=2 ^ 64*2 ^ 64:=rfl
theorem xM (x k:Nat):shl .u64 (x:Int) (k:Int)=((x*2 ^ k % 2 ^ 64:Nat):Int):=by
 unfold shl;rw[IntKind.wrap_u64,Int.toNat_natCast]
 by_cases h:k≤64
 ·rw[show min k IntKind.u64.bits=k from Nat.min_eq_left h,p64,Int.natCast_emod,Int.natCast_mul,Int.natCast_pow];rfl
 ·rw[show min k IntKind.u64.bits=64 from Nat.min_eq_right (by show 64≤k;omega)]
  have e1:x*2 ^ k % 2 ^ 64=0:=by
   rw[show k=(k-64)+64 by omega,Nat.pow_add, ← Nat.mul_assoc,Nat.mul_mod_left]
  rw[e1]
  have:(x:Int)*2 ^ 64 % 18446744073709551616=0:=by omega
  rw[this];rfl
theorem Aj (x k:Nat)(h:x<2 ^ 64):shr .u64 (x:Int) (k:Int)=((x / 2 ^ k:Nat):Int):=by
 unfold shr;rw[Int.toNat_natCast]
 by_cases h1:k≤64
 ·rw[show min k IntKind.u64.bits=k from Nat.min_eq_left h1,Int.natCast_ediv,Int.natCast_pow];rfl
 ·rw[show min k IntKind.u64.bits=64 from Nat.min_eq_right (by show 64≤k;omega)]
  have e1:x / 2 ^ k=0:=Nat.div_eq_of_lt (Nat.lt_of_lt_of_le h (Nat.pow_le_pow_right (by omega) (by omega)));rw[e1];rw[p64]at h
  omega
theorem agw (a b k:Nat)(hb:b<2 ^ k)(h:a*2 ^ k+b<2 ^ 64):Go.bits .or .u64 ((a*2 ^ k:Nat):Int) (b:Int)=((a*2 ^ k+b:Nat):Int):=by
 rw[p64]at h;rw[bits_or_u64_nat _ _ (by omega) (by omega)]
 congr 1
 rw[Nat.mul_comm a,Nat.two_pow_add_eq_or_of_lt hb]
theorem UI (a b k:Nat)(hb:b<2 ^ k)(h:a*2 ^ k+b<2 ^ 64):Go.bits .or .u64 (b:Int) ((a*2 ^ k:Nat):Int)=((a*2 ^ k+b:Nat):Int):=by
 rw[p64]at h;rw[bits_or_u64_nat _ _ (by omega) (by omega),Nat.or_comm]
 congr 1
 rw[Nat.mul_comm a,Nat.two_pow_add_eq_or_of_lt hb]
theorem RN (p n:Nat)(hp:p<2 ^ 64)(hn:n≤64):Go.bits .and .u64 (p:Int) ((2 ^ n-1:Nat):Int)=((p % 2 ^ n:Nat):Int):=by
 have h1:2 ^ n≤2 ^ 64:=Nat.pow_le_pow_right (by omega) hn;have h0:=Nat.two_pow_pos n;rw[p64]at h1 hp;rw[bits_and_u64_nat _ _ (by omega) (by omega),Nat.and_two_pow_sub_one_eq_mod]
def hiI (V:Nat):Int:=((V / 2 ^ 64:Nat):Int)
def loI (V:Nat):Int:=((V % 2 ^ 64:Nat):Int)
theorem Gt {V:Nat}(h:V<2 ^ 128):V / 2 ^ 64<2 ^ 64∧V % 2 ^ 64<2 ^ 64:=⟨by rw[Nat.div_lt_iff_lt_mul (Nat.two_pow_pos _), ← alY];exact h,Nat.mod_lt _ (Nat.two_pow_pos _)⟩
theorem qY (V k:Nat)(hV:V<2 ^ 128)(hk:k≤128):jG.f (hiI V) (loI V) (k:Int)=some (hiI (V*2 ^ k % 2 ^ 128),loI (V*2 ^ k % 2 ^ 128)):=by
 have hd:=Nat.div_add_mod V (2 ^ 64)
 obtain⟨h,hh⟩:∃ h,V / 2 ^ 64=h:=⟨_,rfl⟩
 obtain⟨l,hl⟩:∃ l,V % 2 ^ 64=l:=⟨_,rfl⟩
 have hb:=Gt hV;rw[hh,hl]at hb hd;obtain⟨hb1,hb2⟩:=hb
 have e1:V*2 ^ k % 2 ^ 128 % 2 ^ 64=l*2 ^ k % 2 ^ 64:=by
  rw[alY,Nat.mod_mul_right_mod, ← hd,Nat.add_mul,Nat.mul_assoc,Nat.mul_add_mod]
 have e2:V*2 ^ k % 2 ^ 128 / 2 ^ 64=(h*2 ^ k+l*2 ^ k / 2 ^ 64) % 2 ^ 64:=by
  rw[alY,Nat.mod_mul_right_div_self, ← hd,Nat.add_mul,Nat.mul_assoc,Nat.mul_add_div (Nat.two_pow_pos _)]
 unfold jG.f hiI loI;rw[hh,hl,e1,e2]
 by_cases hc:64≤k
 ·rw[if_pos (by omega),qm (by omega) (by omega),if_pos (by omega),show ((k:Int)-64)=((k-64:Nat):Int) by omega,xM]
  have a1:l*2 ^ k=l*2 ^ (k-64)*2 ^ 64:=by rw[Nat.mul_assoc, ← Nat.pow_add];congr 2;omega
  have a2:h*2 ^ k=h*2 ^ (k-64)*2 ^ 64:=by rw[Nat.mul_assoc, ← Nat.pow_add];congr 2;omega
  rw[a1,a2,Nat.mul_mod_left,Nat.mul_div_cancel _ (Nat.two_pow_pos _),Nat.mul_comm (h*2 ^ (k-64)),Nat.mul_add_mod]
  rfl
 ·rw[if_neg (by omega),if_pos (by omega),qm (by omega) (by omega),if_pos (by omega),show (64-(k:Int))=((64-k:Nat):Int) by omega,xM,xM,Aj _ _ hb2]
  have a1:l*2 ^ k / 2 ^ 64=l / 2 ^ (64-k):=by
   rw[show (2:Nat) ^ 64=2 ^ (64-k)*2 ^ k by rw[← Nat.pow_add];congr 1;omega,Nat.mul_div_mul_right _ _ (Nat.two_pow_pos _)]
  have a2:h*2 ^ k % 2 ^ 64=h % 2 ^ (64-k)*2 ^ k:=by
   rw[show (2:Nat) ^ 64=2 ^ (64-k)*2 ^ k by rw[← Nat.pow_add];congr 1;omega,Nat.mul_mod_mul_right]
  have a3:l / 2 ^ (64-k)<2 ^ k:=by
   rw[Nat.div_lt_iff_lt_mul (Nat.two_pow_pos _), ← Nat.pow_add,show k+(64-k)=64 by omega];exact hb2
  have a4:h % 2 ^ (64-k)*2 ^ k+l / 2 ^ (64-k)<2 ^ 64:=by
   have:h % 2 ^ (64-k)<2 ^ (64-k):=Nat.mod_lt _ (Nat.two_pow_pos _);have h3:(h % 2 ^ (64-k)+1)*2 ^ k≤2 ^ (64-k)*2 ^ k:=Nat.mul_le_mul_right _ this;rw[← Nat.pow_add,show 64-k+k=64 by omega,Nat.add_mul]at h3
   omega
  rw[a1,a2,agw _ _ _ a3 a4]
  have a5:(h*2 ^ k+l / 2 ^ (64-k)) % 2 ^ 64=h % 2 ^ (64-k)*2 ^ k+l / 2 ^ (64-k):=by
   rw[Nat.add_mod,a2,Nat.mod_eq_of_lt (a:=l / 2 ^ (64-k)) (by omega),Nat.mod_eq_of_lt a4]
  rw[a5]
theorem Gz (V k:Nat)(hV:V<2 ^ 128)(hk:k≤128):lI.f (hiI V) (loI V) (k:Int)=some (hiI (V / 2 ^ k),loI (V / 2 ^ k)):=by
 have hd:=Nat.div_add_mod V (2 ^ 64)
 obtain⟨h,hh⟩:∃ h,V / 2 ^ 64=h:=⟨_,rfl⟩
 obtain⟨l,hl⟩:∃ l,V % 2 ^ 64=l:=⟨_,rfl⟩
 have hb:=Gt hV
 have e0:V / 2 ^ k / 2 ^ 64=h / 2 ^ k:=by rw[← hh,Nat.div_div_eq_div_mul,Nat.mul_comm, ← Nat.div_div_eq_div_mul]
 rw[hh,hl]at hb hd;obtain⟨hb1,hb2⟩:=hb;unfold lI.f hiI loI;rw[hh,hl,e0]
 by_cases hc:64≤k
 ·rw[if_pos (by omega),qm (by omega) (by omega),if_pos (by omega),show ((k:Int)-64)=((k-64:Nat):Int) by omega,Aj _ _ hb1]
  have a1:V / 2 ^ k=h / 2 ^ (k-64):=by rw[← hh,Nat.div_div_eq_div_mul, ← Nat.pow_add];congr 2;omega
  have a2:h / 2 ^ k=0:=Nat.div_eq_of_lt (Nat.lt_of_lt_of_le hb1 (Nat.pow_le_pow_right (by omega) hc));have a3:h / 2 ^ (k-64)<2 ^ 64:=Nat.lt_of_le_of_lt (Nat.div_le_self _ _) hb1;rw[a1,a2,Nat.mod_eq_of_lt a3];rfl
 ·rw[if_neg (by omega),if_pos (by omega),qm (by omega) (by omega),if_pos (by omega),show (64-(k:Int))=((64-k:Nat):Int) by omega,Aj _ _ hb1,Aj _ _ hb2,xM]
  have a2:h*2 ^ (64-k) % 2 ^ 64=h % 2 ^ k*2 ^ (64-k):=by
   rw[show (2:Nat) ^ 64=2 ^ k*2 ^ (64-k) by rw[← Nat.pow_add];congr 1;omega,Nat.mul_mod_mul_right]
  have a3:l / 2 ^ k<2 ^ (64-k):=by
   rw[Nat.div_lt_iff_lt_mul (Nat.two_pow_pos _), ← Nat.pow_add,show 64-k+k=64 by omega];exact hb2
  have a4:h % 2 ^ k*2 ^ (64-k)+l / 2 ^ k<2 ^ 64:=by
   have:h % 2 ^ k<2 ^ k:=Nat.mod_lt _ (Nat.two_pow_pos _);have h3:(h % 2 ^ k+1)*2 ^ (64-k)≤2 ^ k*2 ^ (64-k):=Nat.mul_le_mul_right _ this;rw[← Nat.pow_add,show k+(64-k)=64 by omega,Nat.add_mul]at h3
   omega
  have a5:V / 2 ^ k % 2 ^ 64=h % 2 ^ k*2 ^ (64-k)+l / 2 ^ k:=by
   have b1:V / 2 ^ k=h*2 ^ (64-k)+l / 2 ^ k:=by
    rw[← hd,show (2:Nat) ^ 64=2 ^ k*2 ^ (64-k) by rw[← Nat.pow_add];congr 1;omega,Nat.mul_assoc,Nat.mul_add_div (Nat.two_pow_pos _),Nat.mul_comm h]
   rw[b1,Nat.add_mod,a2,Nat.mod_eq_of_lt (a:=l / 2 ^ k) (by omega),Nat.mod_eq_of_lt a4]
  rw[a2,UI _ _ _ a3 a4,a5]
theorem Si {V W:Nat}:(hiI V=hiI W∧loI V=loI W) ↔ V=W:=by
 constructor
 ·rintro⟨h1,h2⟩
  unfold hiI at h1;unfold loI at h2;have a:=Nat.div_add_mod V (2 ^ 64);have b:=Nat.div_add_mod W (2 ^ 64);rw[← a, ← b,Int.ofNat.inj h1,Int.ofNat.inj h2]
 ·rintro rfl;exact⟨rfl,rfl⟩
theorem He (V k:Nat)(hV:V<2 ^ 128)(hk:k≤128):lJ.f (hiI V) (loI V) (k:Int)=some (hiI (V / 2 ^ k),loI (V / 2 ^ k),decide (V % 2 ^ k≠0),none):=by
 have hq:V / 2 ^ k<2 ^ 128:=Nat.lt_of_le_of_lt (Nat.div_le_self _ _) hV
 have hm:mn (k:Int) 128=(k:Int):=by unfold mn;rw[if_neg (by omega)]
 have e:V / 2 ^ k*2 ^ k % 2 ^ 128=V / 2 ^ k*2 ^ k:=Nat.mod_eq_of_lt (Nat.lt_of_le_of_lt (Nat.div_mul_le_self _ _) hV);unfold lJ.f;rw[if_neg (by omega),hm,Gz V k hV hk];simp only[Option.bind_some];rw[qY _ _ hq hk,e];simp only[Option.bind_some];have d:=Nat.div_add_mod V (2 ^ k)
 have hne:(V / 2 ^ k*2 ^ k=V) ↔ V % 2 ^ k=0:=by rw[Nat.mul_comm];omega
 have h2:(!(hiI (V / 2 ^ k*2 ^ k) == hiI V) || !(loI (V / 2 ^ k*2 ^ k) == loI V))=decide (V % 2 ^ k≠0):=by
  rw[← Bool.not_and];have:=Si (V:=V / 2 ^ k*2 ^ k) (W:=V);rw[hne]at this
  by_cases hz:V % 2 ^ k=0
  ·rw[hz]at this ⊢
   obtain⟨a,b⟩:=this.2 rfl;rw[a,b];simp
  ·rw[Bool.eq_iff_iff]
   simp only[Bool.not_eq_true',Bool.and_eq_false_iff,beq_eq_false_iff_ne,decide_eq_true_eq]
   constructor
   ·intro _;exact hz
   ·intro _
    by_cases a:hiI (V / 2 ^ k*2 ^ k)=hiI V
    ·right;intro b;exact hz (this.1 ⟨a,b⟩)
    ·left;exact a
 rw[h2]
theorem ul (W b m:Nat)(c:Bool)(hW:W<2 ^ 128)(hb:b<2 ^ m)(hm:1≤m)(hm2:m≤64) :
  cu.f (hiI W) (loI W) (b:Int) (m:Int) c=some (hiI (W / 2 ^ m+b*2 ^ (128-m)),loI (W / 2 ^ m+b*2 ^ (128-m)),c || decide (W % 2 ^ m≠0)):=by
 have hq:W / 2 ^ m<2 ^ (128-m):=by
  rw[Nat.div_lt_iff_lt_mul (Nat.two_pow_pos _), ← Nat.pow_add,show 128-m+m=128 by omega];exact hW
 have e1:b*2 ^ (128-m)=b*2 ^ (64-m)*2 ^ 64:=by rw[Nat.mul_assoc, ← Nat.pow_add];congr 2;omega
 have e2:(W / 2 ^ m+b*2 ^ (128-m)) % 2 ^ 64=W / 2 ^ m % 2 ^ 64:=by rw[e1,Nat.add_mul_mod_self_right]
 have e3:(W / 2 ^ m+b*2 ^ (128-m)) / 2 ^ 64=b*2 ^ (64-m)+W / 2 ^ m / 2 ^ 64:=by rw[e1,Nat.add_mul_div_right _ _ (Nat.two_pow_pos _),Nat.add_comm]
 have a3:W / 2 ^ m / 2 ^ 64<2 ^ (64-m):=by
  rw[Nat.div_lt_iff_lt_mul (Nat.two_pow_pos _), ← Nat.pow_add,show 64-m+64=128-m by omega];exact hq
 have a4:b*2 ^ (64-m)+W / 2 ^ m / 2 ^ 64<2 ^ 64:=by
  have h3:(b+1)*2 ^ (64-m)≤2 ^ m*2 ^ (64-m):=Nat.mul_le_mul_right _ hb;rw[← Nat.pow_add,show m+(64-m)=64 by omega,Nat.add_mul]at h3
  omega
 have e4:b*2 ^ (64-m) % 2 ^ 64=b*2 ^ (64-m):=Nat.mod_eq_of_lt (Nat.lt_of_le_of_lt (Nat.le_add_right _ _) a4);unfold cu.f;rw[He W m hW (by omega)];simp only[Option.bind_some];rw[qm (by omega) (by omega),if_pos (by omega),show (64-(m:Int))=((64-m:Nat):Int) by omega,xM,e4]
 have e5:Go.bits .or .u64 (hiI (W / 2 ^ m)) ((b*2 ^ (64-m):Nat):Int)=hiI (W / 2 ^ m+b*2 ^ (128-m)):=by
  unfold hiI;rw[UI _ _ _ a3 a4,e3]
 have e6:loI (W / 2 ^ m)=loI (W / 2 ^ m+b*2 ^ (128-m)):=by unfold loI;rw[e2]
 rw[e5,e6]
 cases c <;> simp
end Go.Proofs.Yy.PTx
end
