/- Part 18. -/
import Derived.Test.YtpfnkbnepcchgaaGreatDoorKTPQ
set_option linter.unusedSimpArgs false
set_option linter.unusedVariables false
section
namespace Go.Proofs.Yy.PTx
open Go.RowKit Go.Proofs.Yw.PrintWords Go.Proofs.Yw.PrintLast Go.Proofs.Yw.PrintMore Go.Proofs.Yy.M Go.Proofs.Yy.TA
theorem Ob {x b:Nat}(hb:b≤64)(h1:x<2 ^ b)(h2:b≠0→2 ^ (b-1)≤x):Ev (fun k=>bits_Len64.f k (x:Int)) (b:Int):=by
 have hx:x<2 ^ 64:=Nat.lt_of_lt_of_le h1 (Nat.pow_le_pow_right (by omega) hb);rw[p64]at hx;refine⟨0,fun k _=>?_⟩;unfold bits_Len64.f;rw[if_pos (by omega)];simp only[Int.toNat_natCast];rw[bitLen_eq hb h1 h2]
theorem afX {V b:Nat}(hb1:1≤b)(hb:b≤128)(h1:V<2 ^ b)(h2:2 ^ (b-1)≤V):Ev (fun k=>oh.f k (hiI V) (loI V)) (b:Int):=by
 by_cases hc:64<b
 ·have e1:2 ^ b=2 ^ (b-64)*2 ^ 64:=by rw[← Nat.pow_add];congr 1;omega
  have e2:2 ^ (b-1)=2 ^ (b-64-1)*2 ^ 64:=by rw[← Nat.pow_add];congr 1;omega
  have q1:V / 2 ^ 64<2 ^ (b-64):=by rw[Nat.div_lt_iff_lt_mul (two_pos _), ← e1];exact h1
  have q2:2 ^ (b-64-1)≤V / 2 ^ 64:=by rw[Nat.le_div_iff_mul_le (two_pos _), ← e2];exact h2
  have q3:=two_pos (b-64-1);unfold oh.f hiI
  have hp:((V / 2 ^ 64:Nat):Int) > 0:=by omega
  simp only[if_pos hp];refine Ev.bind (Ob (by omega) q1 (fun _=>q2)) ?_;rw[qh (by omega) (by omega),show (64:Int)+((b-64:Nat):Int)=b by omega];exact Ev.now _
 ·have hV:V<2 ^ 64:=Nat.lt_of_lt_of_le h1 (Nat.pow_le_pow_right (by omega) (by omega))
  unfold oh.f hiI loI;rw[Nat.div_eq_of_lt hV,Nat.mod_eq_of_lt hV];simp only[show ¬ (((0:Nat):Int) > 0) by decide,if_false];refine Ev.bind (Ob (by omega) h1 (fun _=>h2)) (Ev.now _)
theorem Oq {V:Nat}(h:V≠0):(hiI V == 0 && (loI V == 0))=false:=by
 unfold hiI loI;rw[Bool.and_eq_false_iff,beq_eq_false_iff_ne,beq_eq_false_iff_ne]
 omega
theorem abH {V b:Nat}(hb1:1≤b)(hb:b≤128)(h1:V<2 ^ b)(h2:2 ^ (b-1)≤V):Ev (fun k=>oQ.f k (hiI V) (loI V)) (hiI (V*2 ^ (128-b)),loI (V*2 ^ (128-b)),((128-b:Nat):Int)):=by
 have h0:V≠0:=by have:=two_pos (b-1);omega
 have hV:V<2 ^ 128:=Nat.lt_of_lt_of_le h1 (Nat.pow_le_pow_right (by omega) hb)
 have hm:V*2 ^ (128-b)<2 ^ 128:=by
  have e:(2:Nat) ^ 128=2 ^ b*2 ^ (128-b):=by rw[← Nat.pow_add];congr 1;omega
  rw[e];exact Nat.mul_lt_mul_of_pos_right h1 (two_pos _)
 unfold oQ.f;simp only[Oq h0,Bool.false_eq_true,if_false];refine Ev.bind (afX hb1 hb h1 h2) ?_;rw[qh (by omega) (by omega),show (128:Int)-(b:Int)=((128-b:Nat):Int) by omega,rf V (128-b) hV (by omega),Nat.mod_eq_of_lt hm];exact Ev.now _
theorem Rn {V b:Nat}(hb1:1≤b)(hb:b≤128)(h1:V<2 ^ b)(h2:2 ^ (b-1)≤V)(neg c:Bool)(hc:c=true→b=128){x:Int}(hx1 : -1000000≤x)(hx2:x≤1000000) :
  Ev (fun k=>dM.f k neg (hiI V) (loI V) x c) (1,neg,x+b-1,hiI (V*2 ^ (128-b)),loI (V*2 ^ (128-b)),c,none):=by
 have hj:Ev (fun k=>dM.j0 k neg (hiI V) (loI V) x c false) (1,neg,x+b-1,hiI (V*2 ^ (128-b)),loI (V*2 ^ (128-b)),c,none):=by
  have hbb:V*2 ^ (128-b)≠0:=by
   have a1:=two_pos (b-1);have a2:=two_pos (128-b);exact Nat.mul_ne_zero (by omega) (by omega)
  refine Ev.step (f:=fun k=>(oQ.f k (hiI V) (loI V)).bind fun DW=>(if (DW.1 == 0 && (DW.2.1 == 0))=true then (some (0,false,0,0,0,false,none)) else ((lW.f (wrap64 ((wrap64 ((mx (-4398046511104) (mn x 4398046511104))+127))-DW.2.2))).bind fun afo=>(some (1,neg,afo,DW.1,DW.2.1,c,none))))) (fun k=>?_) ?_
  ·simp only[dM.j0,Bool.false_eq_true,if_false]
  ·refine Ev.bind (abH hb1 hb h1 h2) ?_
   simp only[Oq hbb,Bool.false_eq_true,if_false]
   have e1:mx (-4398046511104) (mn x 4398046511104)=x:=by unfold mx mn;split <;> split <;> omega
   rw[e1,qh (x:=x+127) (by omega) (by omega),qh (by omega) (by omega),Ja (by omega) (by omega)];simp only[Option.bind_some];rw[show x+127-((128-b:Nat):Int)=x+b-1 by omega];exact Ev.now _
 unfold dM.f
 cases c with
 | false=>simpa using hj
 | true =>
  have hbb:=hc rfl;subst hbb
  have hh:((hiI V / 9223372036854775808) == 0)=false:=by
   rw[beq_eq_false_iff_ne];unfold hiI
   have e:(2:Nat) ^ (128-1)=9223372036854775808*2 ^ 64:=by decide
   rw[e]at h2;have:9223372036854775808≤V / 2 ^ 64:=(Nat.le_div_iff_mul_le (two_pos _)).2 h2
   omega
  simp only[hh,if_true];exact hj
end Go.Proofs.Yy.PTx
end
section
set_option maxHeartbeats 8000000
set_option maxRecDepth 100000
namespace Go.Proofs.Yy.PTx
open Go.RowKit Go.Proofs.Yy.Z Go.Proofs.Yw.PrintWords Go.Proofs.Yw.PrintLast Go.Proofs.Yw.PrintMore
open Go.Proofs.Yy.M
attribute [local go_sem] dG dP kR kT kW kS
attribute [local go_sem] gI gG iP iR fF fG gW gV
attribute [local go_sem high] agm
def aY.l0:Nat→Int→List Int→Int→Option (ByteArray)
  | 0,_,_,_=>none
  | k+1,x0,x5,x6=>if x6≥0 then (if 0≤x6 then (if x5.length<140737488355328 then (aY.l0 k x0 (x5 ++ [(48+(Int.tmod (shr .u64 x0 x6) 2)) % 256]) (wrap64 (x6-1))) else (none)) else (none)) else (some (strOfNums x5))
def aY.f (k:Nat)(a0:Int)(a1:Int):Option (ByteArray):=aY.l0 k a0 ([]:List Int) (wrap64 (a1-1))
theorem aY.calls (k:Nat)(a0:Int)(a1:Int)(r:ByteArray)(w:World)(h:aY.f k a0 a1=some r) :
    Calls Tryz.prog 88 #[.int .u64 a0,.int .i64 a1] w fun e w'=>e=.returned (.string r)∧Below w.heap.size w w':=by
 have HB:=am (Below.refl w.heap.size w);have H:=am h;unfold aY.f at H;clear h
 go_enter Tryz.func88,Tryz.ntmps88
 go_wp2
 go_loopg [5,6] k (fun kq v5 v6 w' => ∃ (ig:List Int) (jU:Int),v6=.int .i64 jU∧ae (aY.l0 kq a0 ig jU=some r)∧ae (kq≤k)∧ae (Kd.R (Kd.int .u8) 5 w' w.heap.size (fun _=>True) v5 ig)∧ae (Below w.heap.size w w'))
 case atStart=>exact⟨(([]:List Int)),(wrap64 (a1-1)),z1,H,zL,⟨zN⟩,⟨zB HB⟩⟩
 clear H;obtain⟨ig,jU,rfl,H,HK1,fM,HB⟩:=hrel;obtain _|k1:=gk
 ·exact zz H rfl
 simp only[aY.l0]at H;replace H:=yH H;rcases H with⟨pI,H⟩|⟨pI,H⟩;replace H:=zit H;obtain⟨jP,sQ,H⟩:=H;generalize PT:(shr .u64 a0 jU:Int)=ji5 at H;have aEN:(a0 / 2 ^ min jU.toNat 64)=ji5:=PT;have aEO:jU≤64→(a0 / 2 ^ jU.toNat)=ji5:=kE PT;replace H:=zil H;obtain⟨anH,H⟩:=H;generalize ake:(ig ++ [(48+(Int.tmod (ji5) 2)) % 256]:List Int)=aEP at H;have asj:=zY ake;clear ake;rotate_left;obtain rfl:=Option.some.inj H.out;have aKF:=wU (P:=Tryz.prog) Tryz.underlying104 Tryz.underlying5 Tryz.underlying9 (Kd.wR fM.out);rotate_left
 all_goals (go_wp2_with (first|((with_reducible refine eG (b := .append) (xs:=#[.tmp 13,.tmp 20]) rfl ?_);at_builtin;refine Kd.kU (Kd.int .u8) (w0:=w) w.heap.size rfl (.tmp 13) (.tmp 20) 104 5 (.int .u8 0) 1 rfl Tryz.underlying104 info5 rfl (by decide) (by omega) u5 ig ((48+(Int.tmod (ji5) 2)) % 256) [.int .u8 ((48+(Int.tmod (ji5) 2)) % 256)] (fun _=>True) (fun _=>False) rfl rfl ?aP (fun _ hk=>hk.elim) ?aF ?aO ?aB ?aS ?aL ?_;(case aP=>exact rfl);(case aB=>exact (zB HB));(case aF=>exact (fun _ _=>trivial));(case aO=>exact (zR fM));(case aS=>exact (zS HB));(case aL=>have:=anH.out;omega);intro aKG w7 ho hb hg hat;rw[← asj.out]at ho;replace HB:=am (hb);have asl:=am (ho);clear fM ho hb hg hat)))
 ·go_roundg k1
  case measure=>have:=HK1.out;omega
  case rel=>exact⟨(aEP),(wrap64 (jU-1)),z1,H,(zH HK1),⟨zR asl⟩,⟨zB HB⟩⟩
 go_ret
 exact⟨z2,zB HB⟩
def bu.l0:Nat→ByteArray→Int→Int→Option (Int)
  | 0,_,_,_=>none
  | k+1,x0,x3,x4=>if x4<(x0.size:Int) then (if 0≤x4 then (bu.l0 k x0 (IntKind.u64.wrap ((IntKind.u64.wrap (2*x3))+(((bt x0 x4)-48) % 256))) (wrap64 (x4+1))) else (none)) else (some x3)
def bu.f (k:Nat)(a0:ByteArray):Option (Int):=bu.l0 k a0 0 0
theorem bu.calls (k:Nat)(a0:ByteArray)(r:Int)(w:World)(h:bu.f k a0=some r) :
    Calls Tryz.prog 89 #[.string a0] w fun e w'=>e=.returned (.int .u64 r)∧dR w w':=by
 have H:=am h;unfold bu.f at H;clear h
 go_enter Tryz.func89,Tryz.ntmps89
 go_wp2
 go_loopg [3,4] k (fun kq v3 v4 w' => ∃ (iH:Int) (nO:Int),v3=.int .u64 iH∧v4=.int .i64 nO∧ae (bu.l0 kq a0 iH nO=some r)∧ae (kq≤k)∧dR w w')
 case atStart=>exact⟨(0),(0),z1,z1,H,zL,z4⟩
 clear H;obtain⟨iH,nO,rfl,rfl,H,HK1,⟨m1,rfl⟩⟩:=hrel;obtain _|k1:=gk
 ·exact zz H rfl
 simp only[bu.l0]at H;replace H:=zsd H;rcases H with⟨ry,H⟩|⟨ry,H⟩;replace H:=zid H;obtain⟨pI,H⟩:=H;have p4:0≤(nO:Int):=zD;have q4:nO<(a0.size:Int):=zD;have hx4:=mi a0 nO;replace p4:=eq_true p4;replace q4:=eq_true q4;rotate_left;obtain rfl:=Option.some.inj H.out;rotate_left
 all_goals (go_wp2)
 ·go_roundg k1
  case measure=>have:=HK1.out;omega
  case rel=>exact⟨(IntKind.u64.wrap ((IntKind.u64.wrap (2*iH))+(((bt a0 nO)-48) % 256))),(wrap64 (nO+1)),z1,z1,H,(zH HK1),z4⟩
 go_ret
 exact⟨z1,z4⟩
def iE.f (gy:Int)(fU:Bool)(jC:Int)(jB:Int)(KA:Int)(KC:Bool):Option (Bool):=if gy=0 then (some (!fU && (jC == 0 && (jB == 0 && (KA == 0 && (!KC)))))) else (if gy=2 then (some (!fU && (jC == 0 && (jB == 0 && (KA == 0 && (!KC)))))) else (if gy=1 then (if jB≥9223372036854775808 then (if jC≥(-1099511627776) then (some (decide (jC≤1099511627776))) else (some false)) else (some false)) else (some false)))
theorem iE.calls (gy:Int)(fU:Bool)(jC:Int)(jB:Int)(KA:Int)(KC:Bool)(r:Bool)(w:World)(h:iE.f gy fU jC jB KA KC=some r) :
    Calls Tryz.prog 217 #[.agg #[.int .i64 gy,.bool fU,.int .i64 jC,.int .u64 jB,.int .u64 KA,.bool KC]] w fun e w'=>e=.returned (.bool r)∧Below w.heap.size w w':=by
 have Vb:=Tryz.underlying81;have HB:=am (Below.refl w.heap.size w);have H:=am h;unfold iE.f at H;clear h;replace H:=zsk H;rcases H with⟨ry,IM,H⟩|⟨ry,IM,c2,H⟩;obtain rfl:=Option.some.inj H.out;rotate_left;replace H:=zsk H;rcases H with⟨qg,xy,H⟩|⟨qg,xy,c5,H⟩;obtain rfl:=Option.some.inj H.out;rotate_left;replace H:=zsk H;rcases H with⟨sO,Ap,H⟩|⟨sO,Ap,c8,H⟩;replace H:=yH H;rcases H with⟨wu,H⟩|⟨wu,H⟩;replace H:=yH H;rcases H with⟨mr,H⟩|⟨mr,H⟩;obtain rfl:=Option.some.inj H.out;rotate_left;obtain rfl:=Option.some.inj H.out;rotate_left;obtain rfl:=Option.some.inj H.out;rotate_left;obtain rfl:=Option.some.inj H.out;rotate_left
 all_goals (go_enter Tryz.func217,Tryz.ntmps217;go_wp2_with (first|((with_reducible refine aI (N:=1) rfl ?_);refine zx 1 81 #[.int .i64 gy,.bool fU,.int .i64 jC,.int .u64 jB,.int .u64 KA,.bool KC] ?_;intro aEQ hg w3 hbox hb;have asn:=am (hbox);have aER:=zG hg HB;have aES:=zG hg HB;replace HB:=zBs HB hb;clear hb hbox hg;obtain⟨_,_,_,_,_,_,_,_,_,_,_,_⟩:=zf6 asn)))
 ·go_ret
  exact⟨z2,zB HB⟩
 ·go_ret
  exact⟨z2,zB HB⟩
 ·go_ret
  exact⟨z2,zB HB⟩
 ·go_ret
  exact⟨z2,zB HB⟩
 ·go_ret
  exact⟨z2,zB HB⟩
 go_ret
 exact⟨z2,zB HB⟩
def bU.l0:Nat→ByteArray→Int→Option (Bool)
  | 0,_,_=>none
  | k+1,x0,x3=>if x3<(x0.size:Int) then (if 0≤x3 then (if (bt x0 x3)=49 then (some true) else (bU.l0 k x0 (wrap64 (x3+1)))) else (none)) else (some false)
def bU.f (k:Nat)(a0:ByteArray):Option (Bool):=bU.l0 k a0 0
theorem bU.calls (k:Nat)(a0:ByteArray)(r:Bool)(w:World)(h:bU.f k a0=some r) :
    Calls Tryz.prog 218 #[.string a0] w fun e w'=>e=.returned (.bool r)∧dR w w':=by
 have H:=am h;unfold bU.f at H;clear h
 go_enter Tryz.func218,Tryz.ntmps218
 go_wp2
 go_loopg [3] k (fun kq v3 w' => ∃ (iH:Int),v3=.int .i64 iH∧ae (bU.l0 kq a0 iH=some r)∧ae (kq≤k)∧dR w w')
 case atStart=>exact⟨(0),z1,H,zL,z4⟩
 clear H;obtain⟨iH,rfl,H,HK1,⟨m1,rfl⟩⟩:=hrel;obtain _|k1:=gk
 ·exact zz H rfl
 simp only[bU.l0]at H;replace H:=zsd H;rcases H with⟨ry,H⟩|⟨ry,H⟩;replace H:=zid H;obtain⟨pI,H⟩:=H;replace H:=zsk H;rcases H with⟨qg,xy,H⟩|⟨qg,xy,c5,H⟩;obtain rfl:=Option.some.inj H.out;have p4:0≤(iH:Int):=zD;have q4:iH<(a0.size:Int):=zD;have hx4:=mi a0 iH;replace p4:=eq_true p4;replace q4:=eq_true q4;rotate_left;have p4:0≤(iH:Int):=zD;have q4:iH<(a0.size:Int):=zD;have hx4:=mi a0 iH;replace p4:=eq_true p4;replace q4:=eq_true q4;rotate_left;obtain rfl:=Option.some.inj H.out;rotate_left
 all_goals (go_wp2)
 ·go_ret
  exact⟨z1,z4⟩
 ·go_roundg k1
  case measure=>have:=HK1.out;omega
  case rel=>exact⟨(wrap64 (iH+1)),z1,H,(zH HK1),z4⟩
 go_ret
 exact⟨z1,z4⟩
def iJ.f (a0:Int):Option (Int):=if (wrap64 (4*(wrap64 (Int.tdiv a0 4)))) > a0 then (some (wrap64 ((wrap64 (Int.tdiv a0 4))-1))) else (some (wrap64 (Int.tdiv a0 4)))
theorem iJ.calls (a0:Int)(r:Int)(w:World)(h:iJ.f a0=some r) :
    Calls Tryz.prog 230 #[.int .i64 a0] w fun e w'=>e=.returned (.int .i64 r)∧dR w w':=by
 have H:=am h;unfold iJ.f at H;clear h;replace H:=AV H;rcases H with⟨ry,H⟩|⟨ry,H⟩;obtain rfl:=Option.some.inj H.out;rotate_left;obtain rfl:=Option.some.inj H.out;rotate_left
 all_goals (go_enter Tryz.func230,Tryz.ntmps230;go_wp2)
 ·go_ret
  exact⟨z1,z4⟩
 go_ret
 exact⟨z1,z4⟩
mutual
def aG.l0:Nat→Int→Int→List Int→Int→Option (ByteArray)
  | 0,_,_,_,_=>none
  | k+1,x0,x3,x4,x5=>if x5≤x3 then (if x4.length<140737488355328 then (aG.l0 k x0 x3 (x4 ++ [49]) (wrap64 (x5+1))) else (none)) else (aG.l1 k x0 x3 x4 0)
def aG.l1:Nat→Int→Int→List Int→Int→Option (ByteArray)
  | 0,_,_,_,_=>none
  | k+1,x0,x3,x4,x6=>if x6 > x3 then (if x4.length<140737488355328 then (aG.l1 k x0 x3 (x4 ++ [48]) (wrap64 (x6-1))) else (none)) else (if x3≥0 then (if x4.length<140737488355328 then ((some (x4 ++ [48]:List Int)).bind fun aev=>((aY.f k (IntKind.u64.wrap (wrap64 (x0-(wrap64 (4*x3))))) 2).bind fun aau=>(if (strOfNums aev).size+aau.size≤9223372036854775807 then (some ((strOfNums aev)++aau)) else (none)))) else (none)) else (if x4.length<140737488355328 then ((some (x4 ++ [49]:List Int)).bind fun aew=>((aY.f k (IntKind.u64.wrap (wrap64 (x0-(wrap64 (4*x3))))) 2).bind fun Qo=>(if (strOfNums aew).size+Qo.size≤9223372036854775807 then (some ((strOfNums aew)++Qo)) else (none)))) else (none)))
end
def aG.f (k:Nat)(a0:Int):Option (ByteArray):=(iJ.f a0).bind fun aav=>(aG.l0 k a0 aav ([]:List Int) 0)
def aG.T14:Bool × List (List Nat × List Nat):=(true,[([],[]),([0],[0]),([],[]),([],[]),([3],[3]),([2,4],[2,4]),([5],[5]),([6],[6]),([1,7],[1,7]),([8,7,0,1,2,3,4,5,6,7,8],[8])])
def aG.B14:List Nat := [0,1,0,0,8,28,60,124,255,511]
theorem aG.abn:rG .any (opsOf Tryz.f219 14)=aG.T14:=by kernel_rfl
theorem aG.RZ:jb aG.T14.2 aG.B14=true:=by kernel_rfl
theorem aG.calls (k:Nat)(a0:Int)(r:ByteArray)(w:World)(h:aG.f k a0=some r) :
    Calls Tryz.prog 219 #[.int .i64 a0] w fun e w'=>e=.returned (.string r)∧Below w.heap.size w w':=by
 have HB:=am (Below.refl w.heap.size w);have H:=am h;unfold aG.f at H;clear h;replace H:=zo H;obtain⟨aav,A2,H⟩:=H
 go_enter Tryz.func219,Tryz.ntmps219
 go_wp2_with (first|((with_reducible refine af (f:=230) rfl ?_);refine zc (some 8) Tryz.func230 _ (iJ.calls _ _ _ A2.out) ?_;rintro e w' ⟨rfl,⟨nd,rfl⟩⟩;refine⟨_,rfl,?_⟩))
 go_loopg [4,5] k (fun kq v4 v5 w' => ∃ (nO:List Int) (ig:Int),v5=.int .i64 ig∧ae (aG.l0 kq a0 aav nO ig=some r)∧ae (kq≤k)∧ae (Kd.R (Kd.int .u8) 5 w' w.heap.size (fun _=>True) v4 nO)∧ae (Below w.heap.size w w'))
 case atStart=>exact⟨(([]:List Int)),(0),z1,H,zL,⟨zN⟩,⟨zB HB⟩⟩
 clear H;obtain⟨nO,ig,rfl,H,HK1,zW,HB⟩:=hrel;obtain _|k1:=gk
 ·exact zz H rfl
 simp only[aG.l0]at H;replace H:=zsd H;rcases H with⟨pI,H⟩|⟨pI,H⟩;replace H:=zil H;obtain⟨aET,H⟩:=H;generalize akf:(nO ++ [49]:List Int)=aEU at H;have aso:=zY akf;clear akf;rotate_left;rotate_left
 all_goals (go_wp2_with (first|((with_reducible refine eG (b := .append) (xs:=#[.tmp 14,.tmp 15]) rfl ?_);at_builtin;refine Kd.kU (Kd.int .u8) (w0:=w) w.heap.size rfl (.tmp 14) (.tmp 15) 104 5 (.int .u8 0) 1 rfl Tryz.underlying104 info5 rfl (by decide) (by omega) u4 nO 49 [.int .u8 49] (fun _=>True) (fun _=>False) rfl rfl ?aP (fun _ hk=>hk.elim) ?aF ?aO ?aB ?aS ?aL ?_;(case aP=>exact rfl);(case aB=>exact (zB HB));(case aF=>exact (fun _ _=>trivial));(case aO=>exact (zR zW));(case aS=>exact (zS HB));(case aL=>have:=aET.out;omega);intro aKH w5 ho hb hg hat;rw[← aso.out]at ho;replace HB:=am (hb);have asq:=am (ho);clear zW ho hb hg hat)))
 ·go_roundg k1
  case measure=>have:=HK1.out;omega
  case rel=>exact⟨(aEU),(wrap64 (ig+1)),z1,H,(zH HK1),⟨zR asq⟩,⟨zB HB⟩⟩
 go_loopg [4,6] k1 (fun kq v4 v6 w' => ∃ (QK:List Int) (qW:Int),v6=.int .i64 qW∧ae (aG.l1 kq a0 aav QK qW=some r)∧ae (kq≤k1)∧ae (Kd.R (Kd.int .u8) 5 w' w.heap.size (fun _=>True) v4 QK)∧ae (Below w.heap.size w w'))
 case atStart=>exact⟨(nO),(0),z1,H,zL,⟨zR zW⟩,⟨zB HB⟩⟩
 clear H;obtain⟨QK,qW,rfl,H,HK2,zW,HB⟩:=hrel;obtain _|k2:=gk
 ·exact zz H rfl
 simp only[aG.l1]at H;replace H:=AV H;rcases H with⟨qm,H⟩|⟨qm,H⟩
 ·replace H:=zil H
  obtain⟨akg,H⟩:=H;generalize akh:(QK ++ [48]:List Int)=aEV at H;have asr:=zY akh;clear akh
  go_wp2_with (first|((with_reducible refine eG (b := .append) (xs:=#[.tmp 22,.tmp 23]) rfl ?_);at_builtin;refine Kd.kU (Kd.int .u8) (w0:=w) w.heap.size rfl (.tmp 22) (.tmp 23) 104 5 (.int .u8 0) 1 rfl Tryz.underlying104 info5 rfl (by decide) (by omega) u4 QK 48 [.int .u8 48] (fun _=>True) (fun _=>False) rfl rfl ?aP (fun _ hk=>hk.elim) ?aF ?aO ?aB ?aS ?aL ?_;(case aP=>exact rfl);(case aB=>exact (zB HB));(case aF=>exact (fun _ _=>trivial));(case aO=>exact (zR zW));(case aS=>exact (zS HB));(case aL=>have:=akg.out;omega);intro aKI w8 ho hb hg hat;rw[← asr.out]at ho;replace HB:=am (hb);have ass:=am (ho);clear zW ho hb hg hat))
  go_roundg k2
  case measure=>have:=HK1.out;have:=HK2.out;omega
  case rel=>exact⟨(aEV),(wrap64 (qW-1)),z1,H,⟨by have:=HK1.out;have:=HK2.out;omega⟩,⟨zR ass⟩,⟨zB HB⟩⟩
 replace H:=yH H;rcases H with⟨wu,H⟩|⟨wu,H⟩;replace H:=zil H;obtain⟨UJ,H⟩:=H;obtain⟨aev,ast,H⟩:=zw H;replace H:=zo H;obtain⟨aau,A11,H⟩:=H;replace H:=zi H;obtain⟨c12,H⟩:=H;have qO:=eq_true c12;have xY:decide ((strOfNums aev).size+aau.size≤9223372036854775807)=true:=decide_eq_true c12
 try have aEW:(9223372036854775807<(strOfNums aev).size+aau.size)=False:=eq_false (Nat.not_lt.2 c12)
 try have aKJ:(9223372036854775807<(strOfNums aev).size+aau.size)=False:=eq_false (by have h_:=c12;have l1_:(⟨#[46]⟩:ByteArray).size=1:=rfl;have l2_:(⟨#[48,46]⟩:ByteArray).size=2:=rfl;have l3_:(⟨#[101]⟩:ByteArray).size=1:=rfl;(try simp only[ByteArray.size_append,ByteArray.size_extract]at h_);omega)
 try have aKK:(9223372036854775807<(strOfNums aev).size+aau.size)=False:=eq_false (by have h_:=c12;have l1_:(⟨#[46]⟩:ByteArray).size=1:=rfl;have l2_:(⟨#[48,46]⟩:ByteArray).size=2:=rfl;have l3_:(⟨#[101]⟩:ByteArray).size=1:=rfl;(try simp only[ByteArray.size_append,ByteArray.size_extract]at h_);omega)
 obtain rfl:=Option.some.inj H.out;rotate_left;replace H:=zil H;obtain⟨ad6,H⟩:=H;obtain⟨aew,asu,H⟩:=zw H;replace H:=zo H;obtain⟨Qo,A19,H⟩:=H;replace H:=zi H;obtain⟨c20,H⟩:=H;have Un:=eq_true c20;have agO:decide ((strOfNums aew).size+Qo.size≤9223372036854775807)=true:=decide_eq_true c20
 try have aEX:(9223372036854775807<(strOfNums aew).size+Qo.size)=False:=eq_false (Nat.not_lt.2 c20)
 try have aKL:(9223372036854775807<(strOfNums aew).size+Qo.size)=False:=eq_false (by have h_:=c20;have l1_:(⟨#[46]⟩:ByteArray).size=1:=rfl;have l2_:(⟨#[48,46]⟩:ByteArray).size=2:=rfl;have l3_:(⟨#[101]⟩:ByteArray).size=1:=rfl;(try simp only[ByteArray.size_append,ByteArray.size_extract]at h_);omega)
 try have aKM:(9223372036854775807<(strOfNums aew).size+Qo.size)=False:=eq_false (by have h_:=c20;have l1_:(⟨#[46]⟩:ByteArray).size=1:=rfl;have l2_:(⟨#[48,46]⟩:ByteArray).size=2:=rfl;have l3_:(⟨#[101]⟩:ByteArray).size=1:=rfl;(try simp only[ByteArray.size_append,ByteArray.size_extract]at h_);omega)
 obtain rfl:=Option.some.inj H.out;rotate_left
 all_goals (try go_wp2_with (first|((with_reducible refine eG (b := .append) (xs:=#[.tmp 27,.tmp 28]) rfl ?_);at_builtin;refine Kd.kU (Kd.int .u8) (w0:=w) w.heap.size rfl (.tmp 27) (.tmp 28) 104 5 (.int .u8 0) 1 rfl Tryz.underlying104 info5 rfl (by decide) (by omega) u4 QK 48 [.int .u8 48] (fun _=>True) (fun _=>False) rfl rfl ?aP (fun _ hk=>hk.elim) ?aF ?aO ?aB ?aS ?aL ?_;(case aP=>exact rfl);(case aB=>exact (zB HB));(case aF=>exact (fun _ _=>trivial));(case aO=>exact (zR zW));(case aS=>exact (zS HB));(case aL=>have:=UJ.out;omega);intro aKN w13 ho hb hg hat;rw[← ast.out]at ho;replace HB:=am (hb);have BH:=am (ho);clear zW ho hb hg hat)|((with_reducible refine eG (b := .append) (xs:=#[.tmp 30,.tmp 31]) rfl ?_);at_builtin;refine Kd.kU (Kd.int .u8) (w0:=w) w.heap.size rfl (.tmp 30) (.tmp 31) 104 5 (.int .u8 0) 1 rfl Tryz.underlying104 info5 rfl (by decide) (by omega) u4 QK 49 [.int .u8 49] (fun _=>True) (fun _=>False) rfl rfl ?aP (fun _ hk=>hk.elim) ?aF ?aO ?aB ?aS ?aL ?_;(case aP=>exact rfl);(case aB=>exact (zB HB));(case aF=>exact (fun _ _=>trivial));(case aO=>exact (zR zW));(case aS=>exact (zS HB));(case aL=>have:=ad6.out;omega);intro aKO w21 ho hb hg hat;rw[← asu.out]at ho;replace HB:=am (hb);have BH:=am (ho);clear zW ho hb hg hat)))
 all_goals
  replace BH:=am (Kd.dJ BH.out);replace HB:=am (aX HB.out);have asv:=wU (P:=Tryz.prog) Tryz.underlying104 Tryz.underlying5 Tryz.underlying9 (Kd.wR BH.out);refine lQ (n:=10) (S:=fun w'=>(convert 104 9 _).run Tryz.prog w'=.ok (.string _) w') (ds := []) (Array.replicate 10 false) (by kernel_rfl) rfl rfl asv (fun hHeld=>?_);refine gU aG.abn aG.RZ (fun HT_ HW_=>?_)
 ·generalize w13.drew=w14 at BH HB hHeld ⊢
  refine zp HT_ 0 (some 33) ?_;refine zt HT_ HW_ 1 (some 34) hHeld ?_;refine zp HT_ 2 (some 35) ?_;refine zp HT_ 3 (some 36) ?_;refine zp HT_ 4 (some 37) ?_;refine zp HT_ 5 (some 38) ?_;refine zp HT_ 6 (some 39) ?_;refine zu HT_ 7 (some 40) (fun K hK=>?_);refine o5 Tryz.func88 (by kernel_rfl) rfl #[.int .u64 (IntKind.u64.wrap (wrap64 (a0-(wrap64 (4*aav))))),.int .i64 2] (by rfl) rfl rfl (by (try simp only[List.map_toArray,List.map_cons,List.map_nil]);first|done|rfl|(simp only[List.length_drop,List.length_take];rfl)) ?_
  with_reducible refine (aY.calls k2 (IntKind.u64.wrap (wrap64 (a0-(wrap64 (4*aav))))) 2 aau _ A11.out).mono ?_
  rintro e w16 ⟨rfl,hb⟩;refine⟨_,rfl,?_⟩;replace BH:=zRb BH hb;replace HB:=zBs HB hb
  (try clear hb)
  (try clear hb2)
  (try clear hk)
  (try clear hi)
  refine hK.out _ _ (wU (P:=Tryz.prog) Tryz.underlying104 Tryz.underlying5 Tryz.underlying9 (Kd.wR BH.out)) (fun hHeld=>?_);clear hK K;refine lI (a':=?_) ?_ ?_;rotate_left
  ·show Act.put _ (some 40) _=_
   simp only[Act.put,List.setIfInBounds_toArray,List.set_cons_zero,List.set_cons_succ,cu,fQ]
   rfl
  refine zp HT_ 8 (some 41) ?_;refine zp HT_ 9 (some 2) ?_;refine oU (iZ HT_.out (by kernel_rfl)) ?_
  try go_wp2
  go_ret
  exact⟨z2,zB HB⟩
 generalize w21.drew=w22 at BH HB hHeld ⊢;refine zp HT_ 0 (some 33) ?_;refine zt HT_ HW_ 1 (some 34) hHeld ?_;refine zp HT_ 2 (some 35) ?_;refine zp HT_ 3 (some 36) ?_;refine zp HT_ 4 (some 37) ?_;refine zp HT_ 5 (some 38) ?_;refine zp HT_ 6 (some 39) ?_;refine zu HT_ 7 (some 40) (fun K hK=>?_);refine o5 Tryz.func88 (by kernel_rfl) rfl #[.int .u64 (IntKind.u64.wrap (wrap64 (a0-(wrap64 (4*aav))))),.int .i64 2] (by rfl) rfl rfl (by (try simp only[List.map_toArray,List.map_cons,List.map_nil]);first|done|rfl|(simp only[List.length_drop,List.length_take];rfl)) ?_
 with_reducible refine (aY.calls k2 (IntKind.u64.wrap (wrap64 (a0-(wrap64 (4*aav))))) 2 Qo _ A19.out).mono ?_
 rintro e w24 ⟨rfl,hb⟩;refine⟨_,rfl,?_⟩;replace BH:=zRb BH hb;replace HB:=zBs HB hb
 (try clear hb)
 (try clear hb2)
 (try clear hk)
 (try clear hi)
 refine hK.out _ _ (wU (P:=Tryz.prog) Tryz.underlying104 Tryz.underlying5 Tryz.underlying9 (Kd.wR BH.out)) (fun hHeld=>?_);clear hK K;refine lI (a':=?_) ?_ ?_;rotate_left
 ·show Act.put _ (some 40) _=_
  simp only[Act.put,List.setIfInBounds_toArray,List.set_cons_zero,List.set_cons_succ,cu,fQ]
  rfl
 refine zp HT_ 8 (some 41) ?_;refine zp HT_ 9 (some 2) ?_;refine oU (iZ HT_.out (by kernel_rfl)) ?_
 try go_wp2
 go_ret
 exact⟨z2,zB HB⟩
end Go.Proofs.Yy.PTx
end
section
set_option maxHeartbeats 8000000
set_option maxRecDepth 100000
namespace Go.Proofs.Yy.PTx
open Go.RowKit Go.Proofs.Yy.Z Go.Proofs.Yw.PrintWords Go.Proofs.Yw.PrintLast Go.Proofs.Yw.PrintMore
open Go.Proofs.Yy.M
attribute [local go_sem] dG dP kR kT kW kS
attribute [local go_sem] gI gG iP iR fF fG gW gV
mutual
def bg.j0:Nat→ByteArray→Bool→Option (Int)
  | 0,_,_=>none
  | k+1,x0,x1=>if 1≤(x0.size:Int) then ((bU.f k (x0.extract 1 x0.size)).bind fun aaw=>(if 0<(x0.size:Int) then (if (bt x0 0)=49 then (if aaw=true then (bg.j1 k x0 x1 aaw true) else (bg.j1 k x0 x1 aaw x1)) else (bg.j1 k x0 x1 aaw false)) else (none))) else (none)
def bg.j1:Nat→ByteArray→Bool→Bool→Bool→Option (Int)
  | 0,_,_,_,_=>none
  | k+1,x0,x1,x5,x11=>if x11=true then (some 3) else (if 0<(x0.size:Int) then (if (bt x0 0)=49 then (some 2) else (if x5=true then (some 1) else (if x1=true then (some 1) else (some 0)))) else (none))
end
def bg.f (k:Nat)(a0:ByteArray)(a1:Bool):Option (Int):=if a0.toList=([]:List UInt8) then (bg.j0 k (⟨#[48]⟩:ByteArray) a1) else (bg.j0 k a0 a1)
theorem bg.calls (k:Nat)(a0:ByteArray)(a1:Bool)(r:Int)(w:World)(h:bg.f k a0 a1=some r) :
    Calls Tryz.prog 220 #[.string a0,.bool a1] w fun e w'=>e=.returned (.int .i64 r)∧dR w w':=by
 have H:=am h;unfold bg.f at H;clear h
 go_enter Tryz.func220,Tryz.ntmps220
 go_upto_if 7 with (fail)
 go_cut [0] (fun v0 wc => ∃ (kq:Nat) (ji:ByteArray),v0=.string ji∧ae (bg.j0 kq ji a1=some r)∧ae (kq≤k)∧dR w wc)
 case first =>
  replace H:=zsk H;rcases H with⟨jP,sQ,H⟩|⟨jP,sQ,c4,H⟩
  (first|rw[jP]|(simp only[cu,fQ];rw[jP])|rw[sQ]|rw[List.isEmpty_iff.mpr (beq_iff_eq.mp jP)]|rw[List.isEmpty_eq_false_iff.mpr (beq_eq_false_iff_ne.mp jP)]|skip)
  rotate_left
  (first|rw[jP]|(simp only[cu,fQ];rw[jP])|rw[sQ]|rw[List.isEmpty_iff.mpr (beq_iff_eq.mp jP)]|rw[List.isEmpty_eq_false_iff.mpr (beq_eq_false_iff_ne.mp jP)]|skip)
  rotate_left
  all_goals (go_wp2)
  ·go_meet
   case rel=>exact⟨_,((⟨#[48]⟩:ByteArray)),z1,H,⟨z5⟩,z4⟩
  go_meet
  case rel=>exact⟨_,(a0),z1,H,⟨z5⟩,z4⟩
 case rest =>
  obtain⟨kq,ji,rfl,H,HJ2,⟨mc2,rfl⟩⟩:=hcut;obtain _|kj2:=kq
  ·exact zz H rfl
  simp only[bg.j0]at H;replace H:=zit H;obtain⟨qg,xy,H⟩:=H;replace H:=zo H;obtain⟨aaw,A6,H⟩:=H
  go_upto_region 4 with (first|((with_reducible refine af (f:=218) rfl ?_);refine zc (some 10) Tryz.func218 _ (bU.calls _ _ _ _ A6.out) ?_;rintro e w' ⟨rfl,⟨nd,rfl⟩⟩;refine⟨_,rfl,?_⟩))
  (try simp only[Act.put,List.setIfInBounds_toArray,List.set_cons_zero,List.set_cons_succ])
  go_cut [11] (fun v11 wc => ∃ (kq:Nat) (Y7:Bool),v11=.bool Y7∧ae (bg.j1 kq ji a1 aaw Y7=some r)∧ae (kq≤kj2)∧dR w wc)
  case first =>
   replace H:=zi H;obtain⟨c8,H⟩:=H;have sO:decide (0<(ji.size:Int))=true:=decide_eq_true c8;have Ap:decide (0<ji.size)=true:=decide_eq_true (by omega);clear c8
   (first|rw[sO]|(simp only[cu,fQ];rw[sO])|rw[Ap]|skip)
   replace H:=zsk H;rcases H with⟨mr,sS,H⟩|⟨mr,sS,c10,H⟩
   cases aaw
   replace H:=zb0 H
   have p9:0≤(0:Int):=(by omega)
   have q9:0<ji.size:=(by have:(0:Int)<(ji.size:Int):=zD;omega)
   have hx9:∀ h:0<ji.size,((ji[0]'h).toNat:Int)=bt ji 0:=mi ji 0;clear p9;have qi9:(0<(ji.size:Int))=True:=eq_true (zD);replace q9:=eq_true q9;rotate_left;replace H:=zb1 H
   have p9:0≤(0:Int):=(by omega)
   have q9:0<ji.size:=(by have:(0:Int)<(ji.size:Int):=zD;omega)
   have hx9:∀ h:0<ji.size,((ji[0]'h).toNat:Int)=bt ji 0:=mi ji 0;clear p9;have qi9:(0<(ji.size:Int))=True:=eq_true (zD);replace q9:=eq_true q9;rotate_left
   have p9:0≤(0:Int):=(by omega)
   have q9:0<ji.size:=(by have:(0:Int)<(ji.size:Int):=zD;omega)
   have hx9:∀ h:0<ji.size,((ji[0]'h).toNat:Int)=bt ji 0:=mi ji 0;clear p9;have qi9:(0<(ji.size:Int))=True:=eq_true (zD);replace q9:=eq_true q9;rotate_left
   all_goals (go_wp2)
   ·go_meet
    case rel=>exact⟨_,(a1),z1,H,⟨by have:=HJ2.out;first|omega|exact Nat.le_refl _⟩,z4⟩
   ·go_meet
    case rel=>exact⟨_,(true),z1,H,⟨by have:=HJ2.out;first|omega|exact Nat.le_refl _⟩,z4⟩
   go_meet
   case rel=>exact⟨_,(false),z1,H,⟨by have:=HJ2.out;first|omega|exact Nat.le_refl _⟩,z4⟩
  case rest =>
   try clear hx9
   try clear qi9
   obtain⟨kq,Y7,rfl,H,HJ6,⟨mc6,rfl⟩⟩:=hcut;obtain _|kj6:=kq
   ·exact zz H rfl
   simp only[bg.j1]at H
   cases Y7
   replace H:=zb0 H;replace H:=zi H;obtain⟨c13,H⟩:=H;have qo:decide (0<(ji.size:Int))=true:=decide_eq_true c13;have Ib:decide (0<ji.size)=true:=decide_eq_true (by omega);clear c13;replace H:=zsk H;rcases H with⟨uS,DI,H⟩|⟨uS,DI,c15,H⟩;obtain rfl:=Option.some.inj H.out
   have p14:0≤(0:Int):=(by omega)
   have q14:0<ji.size:=(by have:(0:Int)<(ji.size:Int):=zD;omega)
   have asw:∀ h:0<ji.size,((ji[0]'h).toNat:Int)=bt ji 0:=mi ji 0;clear p14;have asx:(0<(ji.size:Int))=True:=eq_true (zD);replace q14:=eq_true q14;rotate_left
   cases aaw
   replace H:=zb0 H
   cases a1
   replace H:=zb0 H;obtain rfl:=Option.some.inj H.out
   have p14:0≤(0:Int):=(by omega)
   have q14:0<ji.size:=(by have:(0:Int)<(ji.size:Int):=zD;omega)
   have asw:∀ h:0<ji.size,((ji[0]'h).toNat:Int)=bt ji 0:=mi ji 0;clear p14;have asx:(0<(ji.size:Int))=True:=eq_true (zD);replace q14:=eq_true q14;rotate_left;replace H:=zb1 H;obtain rfl:=Option.some.inj H.out
   have p14:0≤(0:Int):=(by omega)
   have q14:0<ji.size:=(by have:(0:Int)<(ji.size:Int):=zD;omega)
   have asw:∀ h:0<ji.size,((ji[0]'h).toNat:Int)=bt ji 0:=mi ji 0;clear p14;have asx:(0<(ji.size:Int))=True:=eq_true (zD);replace q14:=eq_true q14;rotate_left;replace H:=zb1 H;obtain rfl:=Option.some.inj H.out
   have p14:0≤(0:Int):=(by omega)
   have q14:0<ji.size:=(by have:(0:Int)<(ji.size:Int):=zD;omega)
   have asw:∀ h:0<ji.size,((ji[0]'h).toNat:Int)=bt ji 0:=mi ji 0;clear p14;have asx:(0<(ji.size:Int))=True:=eq_true (zD);replace q14:=eq_true q14;rotate_left;replace H:=zb1 H;obtain rfl:=Option.some.inj H.out;rotate_left
   all_goals (go_wp2)
   ·go_ret
    exact⟨z1,z4⟩
   ·go_ret
    exact⟨z1,z4⟩
   ·go_ret
    exact⟨z1,z4⟩
   ·go_ret
    exact⟨z1,z4⟩
   go_ret
   exact⟨z1,z4⟩
mutual
def ay.j0:Nat→Int→ByteArray→Bool→Int→Bool→Int→Int→Int→Bool→Option (Int × Int × Int)
  | 0,_,_,_,_,_,_,_,_,_=>none
  | k+1,x0,x10,x11,Iz,IA,wL,IB,IC,En=>if wL≥(wrap64 ((wrap64 (4*x0))-8)) then ((bK.f k (wrap64 (x0-1))).bind fun aax=>(some (IntKind.u64.wrap (aax-1),0,0))) else (if wL<(wrap64 (-(wrap64 ((wrap64 (4*x0))-8)))) then (ay.j1 k x0 x10 true Iz IA wL IB IC En) else (if wL=(wrap64 (-(wrap64 ((wrap64 (4*x0))-8)))) then (ay.j1 k x0 x10 x11 Iz IA wL IB IC En) else (ay.j1 k x0 x10 false Iz IA wL IB IC En)))
def ay.j1:Nat→Int→ByteArray→Bool→Int→Bool→Int→Int→Int→Bool→Option (Int × Int × Int)
  | 0,_,_,_,_,_,_,_,_,_=>none
  | k+1,x0,x10,x73,Iz,IA,wL,IB,IC,En=>if x73=true then (some (1,0,0)) else ((aG.f k wL).bind fun Gm=>(if Gm.size+x10.size≤9223372036854775807 then (if 0≤(wrap64 (x0-1)) then (if (wrap64 (x0-1))≤((Gm++x10).size:Int) then ((bu.f k ((Gm++x10).extract 0 ((wrap64 (x0-1)):Int).toNat)).bind fun aki=>((bg.f k ((Gm++x10).extract ((wrap64 (x0-1)):Int).toNat (Gm++x10).size) En).bind fun asy=>(some (aki,asy,0)))) else (none)) else (none)) else (none)))
end
def ay.f (k:Nat)(a0:Int)(mG:Int)(lU:Bool)(lX:Int)(l9:Int)(oP:Int)(oK:Bool):Option (Int × Int × Int):=(gu.f a0).bind fun asz=>((iE.f mG lU lX l9 oP oK).bind fun asA=>(if asz=true then (if asA=true then (if mG=1 then ((aY.f k l9 64).bind fun sV=>(if 1≤(sV.size:Int) then ((aY.f k oP 64).bind fun BI=>(if (sV.extract 1 sV.size).size+BI.size≤9223372036854775807 then (if oK=true then (ay.j0 k a0 ((sV.extract 1 sV.size)++BI) false mG lU lX l9 oP oK) else ((bU.f k ((sV.extract 1 sV.size)++BI)).bind fun akj=>(ay.j0 k a0 ((sV.extract 1 sV.size)++BI) (!akj) mG lU lX l9 oP oK))) else (none))) else (none))) else (if mG=2 then ((bK.f k (wrap64 (a0-1))).bind fun axy=>(some (axy,0,0))) else (some (0,0,0)))) else (some (0,0,1))) else (some (0,0,2))))
def ay.T12:Bool × List (List Nat × List Nat):=(true,[([],[]),([0],[0]),([1],[1]),([2],[2]),([],[]),([4],[4]),([5,2],[5]),([3,6],[3,6]),([7,6,0,1,2,3,4,5,6,7],[7])])
def ay.B12:List Nat := [0,1,3,7,0,16,55,127,255]
theorem ay.ama:rG .any (opsOf Tryz.f196 12)=ay.T12:=by kernel_rfl
theorem ay.agd:jb ay.T12.2 ay.B12=true:=by kernel_rfl
def ay.T20:Bool × List (List Nat × List Nat):=(true,[([],[]),([],[]),([1],[1]),([0,2],[0,2]),([3],[3]),([],[]),([],[]),([6],[6]),([5,7],[5,7]),([],[]),([9],[9]),([8,10,4],[8,10]),([4,11,0,1,2,3,4],[4]),([11,12,0,1,2,3,4,5,6,7,8,9,10,11,12],[11]),([13,0,1,2,3,4,5,6,7,8,9,10,11,12,13],[])])
def ay.B20:List Nat := [0,0,2,7,15,0,0,64,224,0,512,2047,4095,8191,16383]
theorem ay.abg:rG .any (opsOf Tryz.f196 20)=ay.T20:=by kernel_rfl
theorem ay.RN:jb ay.T20.2 ay.B20=true:=by kernel_rfl
theorem ay.calls (k:Nat)(a0:Int)(mG:Int)(lU:Bool)(lX:Int)(l9:Int)(oP:Int)(oK:Bool)(r1:Int)(r2:Int)(r3:Int)(w:World)(h:ay.f k a0 mG lU lX l9 oP oK=some (r1,r2,r3)) :
    Calls Tryz.prog 196 #[.int .i64 a0,.agg #[.int .i64 mG,.bool lU,.int .i64 lX,.int .u64 l9,.int .u64 oP,.bool oK]] w fun e w'=>e=.returned (.tuple #[.int .u64 r1,.int .i64 r2,.int .i64 r3])∧Below w.heap.size w w':=by
 have Vb:=Tryz.underlying81;have HB:=am (Below.refl w.heap.size w);have H:=am h;unfold ay.f at H;clear h;replace H:=zo H;obtain⟨asz,A3,H⟩:=H;replace H:=zo H;obtain⟨asA,A4,H⟩:=H
 cases asz
 replace H:=zb0 H;obtain⟨rfl,rfl,rfl⟩:=zJ3 H;rotate_left;replace H:=zb1 H
 cases asA
 replace H:=zb0 H;obtain⟨rfl,rfl,rfl⟩:=zJ3 H;rotate_left;replace H:=zb1 H;replace H:=zsk H;rcases H with⟨wz,Bi,H⟩|⟨wz,Bi,c7,H⟩
 ·replace H:=zo H
  obtain⟨sV,A8,H⟩:=H;replace H:=zit H;obtain⟨wu,Ez,H⟩:=H;replace H:=zo H;obtain⟨BI,A10,H⟩:=H;replace H:=zi H;obtain⟨c11,H⟩:=H;have qK:=eq_true c11;have zk:decide ((sV.extract 1 sV.size).size+BI.size≤9223372036854775807)=true:=decide_eq_true c11
  try have ai3:(9223372036854775807<(sV.extract 1 sV.size).size+BI.size)=False:=eq_false (Nat.not_lt.2 c11)
  try have aKP:(9223372036854775807<(sV.size-1)+BI.size)=False:=eq_false (by have h_:=c11;have l1_:(⟨#[46]⟩:ByteArray).size=1:=rfl;have l2_:(⟨#[48,46]⟩:ByteArray).size=2:=rfl;have l3_:(⟨#[101]⟩:ByteArray).size=1:=rfl;(try simp only[ByteArray.size_append,ByteArray.size_extract]at h_);omega)
  try have aKQ:(9223372036854775807<(sV.size-1)+BI.size)=False:=eq_false (by have h_:=c11;have l1_:(⟨#[46]⟩:ByteArray).size=1:=rfl;have l2_:(⟨#[48,46]⟩:ByteArray).size=2:=rfl;have l3_:(⟨#[101]⟩:ByteArray).size=1:=rfl;(try simp only[ByteArray.size_append,ByteArray.size_extract]at h_);omega)
  go_enter Tryz.func196,Tryz.ntmps196
  try go_wp2_with (first|((with_reducible refine aI (N:=3) rfl ?_);refine zx 3 81 #[.int .i64 mG,.bool lU,.int .i64 lX,.int .u64 l9,.int .u64 oP,.bool oK] ?_;intro yx hg w13 hbox hb;have iw:=am (hbox);have asB:=zG hg HB;have asC:=zG hg HB;replace HB:=zBs HB hb;clear hb hbox hg)|((with_reducible refine af (f:=36) rfl ?_);refine zc (some 15) Tryz.func36 _ (gu.calls _ _ _ A3.out) ?_;rintro e w' ⟨rfl,⟨nd,rfl⟩⟩;refine⟨_,rfl,?_⟩;obtain⟨_,_,_,_,_,_,_,_,_,_,_,_⟩:=zf6 iw)|((with_reducible refine af (f:=217) rfl ?_);refine zc (some 17) Tryz.func217 _ (iE.calls _ _ _ _ _ _ _ _ A4.out) ?_;rintro e w15 ⟨rfl,hb⟩;refine⟨_,rfl,?_⟩;replace iw:=zKb iw hb;replace HB:=zBs HB hb;clear hb;obtain⟨_,_,_,_,_,_,_,_,_,_,_,_⟩:=zf6 iw))
  replace iw:=am (dX iw.out);replace HB:=am (aX HB.out);refine lQ (n:=9) (S:=fun w'=>w'.cell? ⟨yx,0,none⟩=some (.int .i64 mG)∧w'.cell? ⟨yx,1,none⟩=some (.bool lU)∧w'.cell? ⟨yx,2,none⟩=some (.int .i64 lX)∧w'.cell? ⟨yx,3,none⟩=some (.int .u64 l9)∧w'.cell? ⟨yx,4,none⟩=some (.int .u64 oP)∧w'.cell? ⟨yx,5,none⟩=some (.bool oK)) (ds := []) (Array.replicate 9 false) (by kernel_rfl) rfl rfl ⟨(ag iw.out 0).trans rfl,(ag iw.out 1).trans rfl,(ag iw.out 2).trans rfl,(ag iw.out 3).trans rfl,(ag iw.out 4).trans rfl,(ag iw.out 5).trans rfl⟩ (fun hHeld=>?_);refine gU ay.ama ay.agd (fun HT_ HW_=>?_);generalize w15.drew=w17 at iw HB hHeld ⊢;refine zp HT_ 0 (some 32) ?_;refine zp HT_ 4 (some 36) ?_;refine zt HT_ HW_ 1 (some 33) hHeld ?_;refine zt HT_ HW_ 5 (some 37) hHeld ?_;refine zu HT_ 2 (some 34) (fun K hK=>?_);refine o5 Tryz.func88 (by kernel_rfl) rfl #[.int .u64 l9,.int .i64 64] (by rfl) rfl rfl (by (try simp only[List.map_toArray,List.map_cons,List.map_nil]);first|done|rfl|(simp only[List.length_drop,List.length_take];rfl)) ?_
  with_reducible refine (aY.calls k l9 64 sV _ A8.out).mono ?_
  rintro e w18 ⟨rfl,hb⟩;refine⟨_,rfl,?_⟩;replace iw:=zKb iw hb;replace HB:=zBs HB hb
  (try clear hb)
  (try clear hb2)
  (try clear hk)
  (try clear hi)
  refine hK.out _ _ ⟨(ag iw.out 0).trans rfl,(ag iw.out 1).trans rfl,(ag iw.out 2).trans rfl,(ag iw.out 3).trans rfl,(ag iw.out 4).trans rfl,(ag iw.out 5).trans rfl⟩ (fun hHeld=>?_);clear hK K;refine lI (a':=?_) ?_ ?_;rotate_left
  ·show Act.put _ (some 34) _=_
   simp only[Act.put,List.setIfInBounds_toArray,List.set_cons_zero,List.set_cons_succ,cu,fQ]
   rfl
  refine zp HT_ 3 (some 35) ?_;refine zu HT_ 6 (some 38) (fun K hK=>?_);refine o5 Tryz.func88 (by kernel_rfl) rfl #[.int .u64 oP,.int .i64 64] (by rfl) rfl rfl (by (try simp only[List.map_toArray,List.map_cons,List.map_nil]);first|done|rfl|(simp only[List.length_drop,List.length_take];rfl)) ?_
  with_reducible refine (aY.calls k oP 64 BI _ A10.out).mono ?_
  rintro e w19 ⟨rfl,hb⟩;refine⟨_,rfl,?_⟩;replace iw:=zKb iw hb;replace HB:=zBs HB hb
  (try clear hb)
  (try clear hb2)
  (try clear hk)
  (try clear hi)
  refine hK.out _ _ ⟨(ag iw.out 0).trans rfl,(ag iw.out 1).trans rfl,(ag iw.out 2).trans rfl,(ag iw.out 3).trans rfl,(ag iw.out 4).trans rfl,(ag iw.out 5).trans rfl⟩ (fun hHeld=>?_);clear hK K;refine lI (a':=?_) ?_ ?_;rotate_left
  ·show Act.put _ (some 38) _=_
   simp only[Act.put,List.setIfInBounds_toArray,List.set_cons_zero,List.set_cons_succ,cu,fQ]
   rfl
  refine zp HT_ 7 (some 39) ?_;refine zp HT_ 8 (some 10) ?_;refine oU (iZ HT_.out (by kernel_rfl)) ?_
  go_upto_region 13 with (fail)
  go_cut [11] (fun v11 wc => ∃ (kq:Nat) (OL:Bool),v11=.bool OL∧ae (ay.j0 kq a0 ((sV.extract 1 sV.size)++BI) OL mG lU lX l9 oP oK=some (r1,r2,r3))∧ae (kq≤k)∧ae (wc.heap[yx]? = some (.cells #[.int .i64 mG,.bool lU,.int .i64 lX,.int .u64 l9,.int .u64 oP,.bool oK] 81 (0,0)))∧ae (Below w.heap.size w wc))
  case first =>
   cases oK
   replace H:=zb0 H;replace H:=zo H;obtain⟨akj,A22,H⟩:=H;obtain⟨_,_,_,_,_,_,_,_,_,_,_,_⟩:=zf6 iw;rotate_left;replace H:=zb1 H;obtain⟨_,_,_,_,_,_,_,_,_,_,_,_⟩:=zf6 iw;rotate_left
   all_goals (go_wp2_with (first|(go_at_call 218;(with_reducible refine (bU.calls _ ((sV.extract 1 sV.size)++BI) _ _ A22.out).mono ?_);rintro e w' ⟨rfl,⟨nd,rfl⟩⟩)))
   ·go_meet
    case rel=>exact⟨_,(!akj),z1,H,⟨z5⟩,⟨zK iw⟩,⟨zB HB⟩⟩
   go_meet
   case rel=>exact⟨_,(false),z1,H,⟨z5⟩,⟨zK iw⟩,⟨zB HB⟩⟩
  case rest =>
   obtain⟨kq,OL,rfl,H,asD,iw,HB⟩:=hcut;obtain _|aEY:=kq
   ·exact zz H rfl
   simp only[ay.j0]at H;replace H:=yH H;rcases H with⟨LQ,H⟩|⟨LQ,H⟩
   ·replace H:=zo H
    obtain⟨aax,A25,H⟩:=H;obtain⟨rfl,rfl,rfl⟩:=zJ3 H;obtain⟨_,_,_,_,_,_,_,_,_,_,_,_⟩:=zf6 iw
    go_wp2_with (first|((with_reducible refine af (f:=27) rfl ?_);refine zc (some 57) Tryz.func27 _ (bK.calls _ _ _ _ A25.out) ?_;rintro e w' ⟨rfl,⟨nd,rfl⟩⟩;refine⟨_,rfl,?_⟩))
    go_ret3
    exact⟨z2,zB HB⟩
   obtain⟨_,_,_,_,_,_,_,_,_,_,_,_⟩:=zf6 iw
   go_upto_region 17 with (fail)
   go_cut [73] (fun v73 wc => ∃ (kq:Nat) (OM:Bool),v73=.bool OM∧ae (ay.j1 kq a0 ((sV.extract 1 sV.size)++BI) OM mG lU lX l9 oP oK=some (r1,r2,r3))∧ae (kq≤aEY)∧ae (wc.heap[yx]? = some (.cells #[.int .i64 mG,.bool lU,.int .i64 lX,.int .u64 l9,.int .u64 oP,.bool oK] 81 (0,0)))∧ae (Below w.heap.size w wc))
   case first =>
    replace H:=zsd H;rcases H with⟨EU,H⟩|⟨EU,H⟩
    (first|rw[EU]|(simp only[cu,fQ];rw[EU])|rw[ahh]|skip)
    obtain⟨_,_,_,_,_,_,_,_,_,_,_,_⟩:=zf6 iw;rotate_left
    (first|rw[EU]|(simp only[cu,fQ];rw[EU])|rw[ahh]|skip)
    replace H:=zsk H;rcases H with⟨LU,acV,H⟩|⟨LU,acV,c31,H⟩;obtain⟨_,_,_,_,_,_,_,_,_,_,_,_⟩:=zf6 iw;rotate_left;obtain⟨_,_,_,_,_,_,_,_,_,_,_,_⟩:=zf6 iw;rotate_left
    all_goals (go_wp2)
    ·go_meet
     case rel=>exact⟨_,(true),z1,H,⟨by have:=asD.out;first|omega|exact Nat.le_refl _⟩,⟨zK iw⟩,⟨zB HB⟩⟩
    ·go_meet
     case rel=>exact⟨_,(OL),z1,H,⟨by have:=asD.out;first|omega|exact Nat.le_refl _⟩,⟨zK iw⟩,⟨zB HB⟩⟩
    go_meet
    case rel=>exact⟨_,(false),z1,H,⟨by have:=asD.out;first|omega|exact Nat.le_refl _⟩,⟨zK iw⟩,⟨zB HB⟩⟩
   case rest =>
    obtain⟨kq,OM,rfl,H,aKR,iw,HB⟩:=hcut;obtain _|axz:=kq
    ·exact zz H rfl
    simp only[ay.j1]at H
    cases OM
    ·replace H:=zb0 H
     replace H:=zo H;obtain⟨Gm,A35,H⟩:=H;replace H:=zi H;obtain⟨c36,H⟩:=H;have UX:=eq_true c36;have ajY:decide (Gm.size+((sV.extract 1 sV.size)++BI).size≤9223372036854775807)=true:=decide_eq_true c36
     try have aEZ:(9223372036854775807<Gm.size+((sV.extract 1 sV.size)++BI).size)=False:=eq_false (Nat.not_lt.2 c36)
     try have aKS:(9223372036854775807<Gm.size+(sV.size-1)+BI.size)=False:=eq_false (by have h_:=c36;have l1_:(⟨#[46]⟩:ByteArray).size=1:=rfl;have l2_:(⟨#[48,46]⟩:ByteArray).size=2:=rfl;have l3_:(⟨#[101]⟩:ByteArray).size=1:=rfl;(try simp only[ByteArray.size_append,ByteArray.size_extract]at h_);omega)
     try have aKT:(9223372036854775807<Gm.size+(sV.size-1)+BI.size)=False:=eq_false (by have h_:=c36;have l1_:(⟨#[46]⟩:ByteArray).size=1:=rfl;have l2_:(⟨#[48,46]⟩:ByteArray).size=2:=rfl;have l3_:(⟨#[101]⟩:ByteArray).size=1:=rfl;(try simp only[ByteArray.size_append,ByteArray.size_extract]at h_);omega)
     generalize V4:(wrap64 (a0-1):Int)=aay at H
     (try rw[V4]at A35)
     have axA:(IntKind.i64.wrap (a0-1))=aay:=(cu _).trans V4;replace H:=zit H;obtain⟨aon,aoo,H⟩:=H;replace H:=zit H;obtain⟨ait,aiu,H⟩:=H;replace H:=zo H;obtain⟨aki,A40,H⟩:=H;have adY:=eq_true (zD:0≤(aay));have asE:=eq_true (zD:(aay)≤((Gm++((sV.extract 1 sV.size)++BI)).size:Int))
     try (have V5:aay≤((Gm++((sV.extract 1 sV.size)++BI)).size:Int):=of_eq_true asE;simp only[ByteArray.size_append,ByteArray.size_extract,Nat.min_self,Int.natCast_add]at V5;replace V5:=eq_true V5)
     replace H:=zo H;obtain⟨asy,A43,H⟩:=H;obtain⟨rfl,rfl,rfl⟩:=zJ3 H;obtain⟨_,_,_,_,_,_,_,_,_,_,_,_⟩:=zf6 iw
     try go_wp2_with (first|((with_reducible refine af (f:=219) rfl ?_);refine zc (some 76) Tryz.func219 _ (aG.calls _ _ _ _ A35.out) ?_;rintro e w45 ⟨rfl,hb⟩;refine⟨_,rfl,?_⟩;replace iw:=zKb iw hb;replace HB:=zBs HB hb;clear hb))
     replace iw:=am (dX iw.out);replace HB:=am (aX HB.out);refine lQ (n:=15) (S:=fun w'=>w'.cell? ⟨yx,0,none⟩=some (.int .i64 mG)∧w'.cell? ⟨yx,1,none⟩=some (.bool lU)∧w'.cell? ⟨yx,2,none⟩=some (.int .i64 lX)∧w'.cell? ⟨yx,3,none⟩=some (.int .u64 l9)∧w'.cell? ⟨yx,4,none⟩=some (.int .u64 oP)∧w'.cell? ⟨yx,5,none⟩=some (.bool oK)) (ds := []) (Array.replicate 15 false) (by kernel_rfl) rfl rfl ⟨(ag iw.out 0).trans rfl,(ag iw.out 1).trans rfl,(ag iw.out 2).trans rfl,(ag iw.out 3).trans rfl,(ag iw.out 4).trans rfl,(ag iw.out 5).trans rfl⟩ (fun hHeld=>?_);refine gU ay.abg ay.RN (fun HT_ HW_=>?_);generalize w45.drew=w46 at iw HB hHeld ⊢;refine zp HT_ 0 (some 79) ?_;refine zp HT_ 1 (some 80) ?_;refine zp HT_ 2 (some 81) ?_;refine zp HT_ 3 (some 82) ?_;refine zp HT_ 5 (some 84) ?_;refine zp HT_ 6 (some 85) ?_;refine zp HT_ 7 (some 86) ?_;refine zp HT_ 8 (some 87) ?_;refine zp HT_ 9 (some 88) ?_;refine zt HT_ HW_ 10 (some 89) hHeld ?_;refine zu HT_ 4 (some 83) (fun K hK=>?_);refine o5 Tryz.func89 (by kernel_rfl) rfl #[.string ((Gm++((sV.extract 1 sV.size)++BI)).extract 0 ((aay):Int).toNat)] (by rfl) rfl rfl (by (try simp only[List.map_toArray,List.map_cons,List.map_nil]);first|done|(simp only[ByteArray.size_append,ByteArray.size_extract,Nat.min_self];rfl)|(simp only[V4];rfl)|rfl|(simp only[List.length_drop,List.length_take];rfl)) ?_
     with_reducible refine (bu.calls axz ((Gm++((sV.extract 1 sV.size)++BI)).extract 0 ((aay):Int).toNat) aki _ A40.out).mono ?_
     rintro e w' ⟨rfl,⟨nd,rfl⟩⟩;refine⟨_,rfl,?_⟩;refine hK.out _ _ ⟨(ag iw.out 0).trans rfl,(ag iw.out 1).trans rfl,(ag iw.out 2).trans rfl,(ag iw.out 3).trans rfl,(ag iw.out 4).trans rfl,(ag iw.out 5).trans rfl⟩ (fun hHeld=>?_);clear hK K;refine lI (a':=?_) ?_ ?_;rotate_left
     ·show Act.put _ (some 83) _=_
      simp only[Act.put,List.setIfInBounds_toArray,List.set_cons_zero,List.set_cons_succ,cu,fQ]
      rfl
     refine zu HT_ 11 (some 90) (fun K hK=>?_);refine o5 Tryz.func220 (by kernel_rfl) rfl #[.string ((Gm++((sV.extract 1 sV.size)++BI)).extract ((aay):Int).toNat (Gm++((sV.extract 1 sV.size)++BI)).size),.bool oK] (by rfl) rfl rfl (by (try simp only[List.map_toArray,List.map_cons,List.map_nil]);first|done|(simp only[ByteArray.size_append,ByteArray.size_extract,Nat.min_self];rfl)|(simp only[V4];rfl)|rfl|(simp only[List.length_drop,List.length_take];rfl)) ?_
     with_reducible refine (bg.calls axz ((Gm++((sV.extract 1 sV.size)++BI)).extract ((aay):Int).toNat (Gm++((sV.extract 1 sV.size)++BI)).size) oK asy _ A43.out).mono ?_
     rintro e w' ⟨rfl,⟨nd,rfl⟩⟩;refine⟨_,rfl,?_⟩;refine hK.out _ _ ⟨(ag iw.out 0).trans rfl,(ag iw.out 1).trans rfl,(ag iw.out 2).trans rfl,(ag iw.out 3).trans rfl,(ag iw.out 4).trans rfl,(ag iw.out 5).trans rfl⟩ (fun hHeld=>?_);clear hK K;refine lI (a':=?_) ?_ ?_;rotate_left
     ·show Act.put _ (some 90) _=_
      simp only[Act.put,List.setIfInBounds_toArray,List.set_cons_zero,List.set_cons_succ,cu,fQ]
      rfl
     refine zp HT_ 12 (some 4) ?_;refine zp HT_ 13 (some 5) ?_;refine zp HT_ 14 (some 6) ?_;refine oU (iZ HT_.out (by kernel_rfl)) ?_
     try go_wp2
     go_ret3
     exact⟨by first|exact z3|(simp only[← V4];exact z3)|exact z2,zB HB⟩
    replace H:=zb1 H;obtain⟨rfl,rfl,rfl⟩:=zJ3 H
    go_wp2
    go_ret3
    exact⟨z2,zB HB⟩
 replace H:=zsk H;rcases H with⟨ajq,ajr,H⟩|⟨ajq,ajr,c47,H⟩;replace H:=zo H;obtain⟨axy,A48,H⟩:=H;obtain⟨rfl,rfl,rfl⟩:=zJ3 H;rotate_left;obtain⟨rfl,rfl,rfl⟩:=zJ3 H;rotate_left
 all_goals (go_enter Tryz.func196,Tryz.ntmps196;go_wp2_with (first|((with_reducible refine aI (N:=3) rfl ?_);refine zx 3 81 #[.int .i64 mG,.bool lU,.int .i64 lX,.int .u64 l9,.int .u64 oP,.bool oK] ?_;intro yx hg w49 hbox hb;have iw:=am (hbox);have asB:=zG hg HB;have asC:=zG hg HB;replace HB:=zBs HB hb;clear hb hbox hg)|((with_reducible refine af (f:=36) rfl ?_);refine zc (some 15) Tryz.func36 _ (gu.calls _ _ _ A3.out) ?_;rintro e w' ⟨rfl,⟨nd,rfl⟩⟩;refine⟨_,rfl,?_⟩;obtain⟨_,_,_,_,_,_,_,_,_,_,_,_⟩:=zf6 iw)|((with_reducible refine af (f:=217) rfl ?_);refine zc (some 17) Tryz.func217 _ (iE.calls _ _ _ _ _ _ _ _ A4.out) ?_;rintro e w51 ⟨rfl,hb⟩;refine⟨_,rfl,?_⟩;replace iw:=zKb iw hb;replace HB:=zBs HB hb;clear hb;obtain⟨_,_,_,_,_,_,_,_,_,_,_,_⟩:=zf6 iw)|((with_reducible refine af (f:=27) rfl ?_);refine zc (some 30) Tryz.func27 _ (bK.calls _ _ _ _ A48.out) ?_;rintro e w' ⟨rfl,⟨nd,rfl⟩⟩;refine⟨_,rfl,?_⟩)))
 ·go_ret3
  exact⟨z2,zB HB⟩
 ·go_ret3
  exact⟨z2,zB HB⟩
 ·go_ret3
  exact⟨z2,zB HB⟩
 go_ret3
 exact⟨z2,zB HB⟩
def kD.f (k:Nat)(a0:Int)(a1:Int):Option (Int × Int):=(gu.f a0).bind fun akk=>(if akk=true then ((aY.f k a1 a0).bind fun alP=>((bu.f k alP).bind fun axB=>(some (axB,0)))) else (some (0,2)))
theorem kD.calls (k:Nat)(a0:Int)(a1:Int)(r1:Int)(r2:Int)(w:World)(h:kD.f k a0 a1=some (r1,r2)) :
    Calls Tryz.prog 59 #[.int .i64 a0,.int .u64 a1] w fun e w'=>e=.returned (.tuple #[.int .u64 r1,.int .i64 r2])∧Below w.heap.size w w':=by
 have HB:=am (Below.refl w.heap.size w);have H:=am h;unfold kD.f at H;clear h;replace H:=zo H;obtain⟨akk,A3,H⟩:=H
 cases akk
 replace H:=zb0 H;obtain⟨rfl,rfl⟩:=zJ2 H;rotate_left;replace H:=zb1 H;replace H:=zo H;obtain⟨alP,A5,H⟩:=H;replace H:=zo H;obtain⟨axB,A6,H⟩:=H;obtain⟨rfl,rfl⟩:=zJ2 H;rotate_left
 all_goals (go_enter Tryz.func59,Tryz.ntmps59;go_wp2_with (first|((with_reducible refine af (f:=36) rfl ?_);refine zc (some 8) Tryz.func36 _ (gu.calls _ _ _ A3.out) ?_;rintro e w' ⟨rfl,⟨nd,rfl⟩⟩;refine⟨_,rfl,?_⟩)|((with_reducible refine af (f:=88) rfl ?_);refine zc (some 13) Tryz.func88 _ (aY.calls _ _ _ _ _ A5.out) ?_;rintro e w7 ⟨rfl,hb⟩;refine⟨_,rfl,?_⟩;replace HB:=zBs HB hb;clear hb)|((with_reducible refine af (f:=89) rfl ?_);refine zc (some 14) Tryz.func89 _ (bu.calls _ _ _ _ A6.out) ?_;rintro e w' ⟨rfl,⟨nd,rfl⟩⟩;refine⟨_,rfl,?_⟩)))
 ·go_ret2
  exact⟨z2,zB HB⟩
 go_ret2
 exact⟨z2,zB HB⟩
def iO.f (k:Nat)(a0:Int)(a1:Int):Option (Int):=(kD.f k a0 a1).bind fun asF=>(some asF.1)
theorem iO.calls (k:Nat)(a0:Int)(a1:Int)(r:Int)(w:World)(h:iO.f k a0 a1=some r) :
    Calls Tryz.prog 23 #[.int .i64 a0,.int .u64 a1] w fun e w'=>e=.returned (.int .u64 r)∧Below w.heap.size w w':=by
 have HB:=am (Below.refl w.heap.size w);have H:=am h;unfold iO.f at H;clear h;replace H:=zo H;obtain⟨⟨aKU,axC⟩,A3,H⟩:=H
 try dsimp only at H
 obtain rfl:=Option.some.inj H.out
 go_enter Tryz.func23,Tryz.ntmps23
 go_wp2_with (first|((with_reducible refine af (f:=59) rfl ?_);refine zc (some 10) Tryz.func59 _ (kD.calls _ _ _ _ _ _ A3.out) ?_;rintro e w4 ⟨rfl,hb⟩;refine⟨_,rfl,?_⟩;replace HB:=zBs HB hb;clear hb))
 go_ret
 exact⟨z2,zB HB⟩
def gK.f (k:Nat)(a0:Int)(a1:Int):Option (Int):=(iO.f k a0 (IntKind.u64.wrap (-a1))).bind fun axD=>(some axD)
theorem gK.calls (k:Nat)(a0:Int)(a1:Int)(r:Int)(w:World)(h:gK.f k a0 a1=some r) :
    Calls Tryz.prog 197 #[.int .i64 a0,.int .u64 a1] w fun e w'=>e=.returned (.int .u64 r)∧Below w.heap.size w w':=by
 have HB:=am (Below.refl w.heap.size w);have H:=am h;unfold gK.f at H;clear h;replace H:=zo H;obtain⟨axD,A3,H⟩:=H;obtain rfl:=Option.some.inj H.out
 go_enter Tryz.func197,Tryz.ntmps197
 go_wp2_with (first|((with_reducible refine af (f:=23) rfl ?_);refine zc (some 8) Tryz.func23 _ (iO.calls _ _ _ _ _ A3.out) ?_;rintro e w4 ⟨rfl,hb⟩;refine⟨_,rfl,?_⟩;replace HB:=zBs HB hb;clear hb))
 go_ret
 exact⟨z2,zB HB⟩
def bT.j0:Nat→Int→Int→Bool→Int→Bool→Int→Int→Int→Bool→Option (Int × Int)
  | 0,_,_,_,_,_,_,_,_,_=>none
  | k+1,x0,x6,x29,asG,V6,asH,asI,asJ,asK=>if x29=true then (if V6=true then ((gK.f k x0 (IntKind.u64.wrap (x6+1))).bind fun alQ=>(some (alQ,0))) else (some (IntKind.u64.wrap (x6+1),0))) else (if V6=true then ((gK.f k x0 x6).bind fun axE=>(some (axE,0))) else (some (x6,0)))
def bT.f (k:Nat)(a0:Int)(mG:Int)(lU:Bool)(lX:Int)(l9:Int)(oP:Int)(oK:Bool):Option (Int × Int):=(ay.f k a0 mG lU lX l9 oP oK).bind fun Kt=>(if Kt.2.2=0 then (if Kt.2.1=3 then (bT.j0 k a0 Kt.1 true mG lU lX l9 oP oK) else (if Kt.2.1=2 then (bT.j0 k a0 Kt.1 ((Int.tmod Kt.1 2) == 1) mG lU lX l9 oP oK) else (bT.j0 k a0 Kt.1 false mG lU lX l9 oP oK))) else (some (0,Kt.2.2)))
theorem bT.calls (k:Nat)(a0:Int)(mG:Int)(lU:Bool)(lX:Int)(l9:Int)(oP:Int)(oK:Bool)(r1:Int)(r2:Int)(w:World)(h:bT.f k a0 mG lU lX l9 oP oK=some (r1,r2)) :
    Calls Tryz.prog 160 #[.int .i64 a0,.agg #[.int .i64 mG,.bool lU,.int .i64 lX,.int .u64 l9,.int .u64 oP,.bool oK]] w fun e w'=>e=.returned (.tuple #[.int .u64 r1,.int .i64 r2])∧Below w.heap.size w w':=by
 have Vb:=Tryz.underlying81;have HB:=am (Below.refl w.heap.size w);have H:=am h;unfold bT.f at H;clear h;replace H:=zo H;obtain⟨⟨axF,aKV,axG⟩,A3,H⟩:=H
 try dsimp only at H
 replace H:=zsk H;rcases H with⟨jP,sQ,H⟩|⟨jP,sQ,c4,H⟩
 ·go_enter Tryz.func160,Tryz.ntmps160
  go_upto_region 4 with (first|((with_reducible refine aI (N:=3) rfl ?_);refine zx 3 81 #[.int .i64 mG,.bool lU,.int .i64 lX,.int .u64 l9,.int .u64 oP,.bool oK] ?_;intro akl hg w6 hbox hb;have uZ:=am (hbox);have asL:=zG hg HB;have asM:=zG hg HB;replace HB:=zBs HB hb;clear hb hbox hg;obtain⟨_,_,_,_,_,_,_,_,_,_,_,_⟩:=zf6 uZ)|((with_reducible refine af (f:=196) rfl ?_);refine zc (some 12) Tryz.func196 _ (ay.calls _ _ _ _ _ _ _ _ _ _ _ _ A3.out) ?_;rintro e w8 ⟨rfl,hb⟩;refine⟨_,rfl,?_⟩;replace uZ:=zKb uZ hb;replace HB:=zBs HB hb;clear hb))
  (try simp only[Act.put,List.setIfInBounds_toArray,List.set_cons_zero,List.set_cons_succ])
  go_cut [29] (fun v29 wc => ∃ (kq:Nat) (Y8:Bool),v29=.bool Y8∧ae (bT.j0 kq a0 axF Y8 mG lU lX l9 oP oK=some (r1,r2))∧ae (kq≤k)∧ae (wc.heap[akl]? = some (.cells #[.int .i64 mG,.bool lU,.int .i64 lX,.int .u64 l9,.int .u64 oP,.bool oK] 81 (0,0)))∧ae (Below w.heap.size w wc))
  case first =>
   replace H:=zsk H;rcases H with⟨wu,Ez,H⟩|⟨wu,Ez,c9,H⟩
   (first|rw[wu]|(simp only[cu,fQ];rw[wu])|rw[Ez]|skip)
   rotate_left
   (first|rw[wu]|(simp only[cu,fQ];rw[wu])|rw[Ez]|skip)
   replace H:=zsk H;rcases H with⟨mr,sS,H⟩|⟨mr,sS,c10,H⟩;rotate_left;rotate_left
   all_goals (go_wp2)
   ·go_meet
    case rel=>exact⟨_,(true),z1,H,⟨z5⟩,⟨zK uZ⟩,⟨zB HB⟩⟩
   ·go_meet
    case rel=>exact⟨_,(((Int.tmod axF 2) == 1)),z1,H,⟨z5⟩,⟨zK uZ⟩,⟨zB HB⟩⟩
   go_meet
   case rel=>exact⟨_,(false),z1,H,⟨z5⟩,⟨zK uZ⟩,⟨zB HB⟩⟩
  case rest =>
   obtain⟨kq,Y8,rfl,H,HJ4,uZ,HB⟩:=hcut;obtain _|kj4:=kq
   ·exact zz H rfl
   simp only[bT.j0]at H
   cases Y8
   replace H:=zb0 H
   cases lU
   replace H:=zb0 H;obtain⟨rfl,rfl⟩:=zJ2 H;obtain⟨_,_,_,_,_,_,_,_,_,_,_,_⟩:=zf6 uZ;rotate_left;replace H:=zb1 H;replace H:=zo H;obtain⟨axE,A18,H⟩:=H;obtain⟨rfl,rfl⟩:=zJ2 H;obtain⟨_,_,_,_,_,_,_,_,_,_,_,_⟩:=zf6 uZ;rotate_left;replace H:=zb1 H
   cases lU
   replace H:=zb0 H;obtain⟨rfl,rfl⟩:=zJ2 H;obtain⟨_,_,_,_,_,_,_,_,_,_,_,_⟩:=zf6 uZ;rotate_left;replace H:=zb1 H;replace H:=zo H;obtain⟨alQ,A13,H⟩:=H;obtain⟨rfl,rfl⟩:=zJ2 H;obtain⟨_,_,_,_,_,_,_,_,_,_,_,_⟩:=zf6 uZ;rotate_left
   all_goals (go_wp2_with (first|((with_reducible refine af (f:=197) rfl ?_);refine zc (some 36) Tryz.func197 _ (gK.calls _ _ _ _ _ A18.out) ?_;rintro e w20 ⟨rfl,hb⟩;refine⟨_,rfl,?_⟩;replace uZ:=zKb uZ hb;replace HB:=zBs HB hb;clear hb)|((with_reducible refine af (f:=197) rfl ?_);refine zc (some 36) Tryz.func197 _ (gK.calls _ _ _ _ _ A13.out) ?_;rintro e w15 ⟨rfl,hb⟩;refine⟨_,rfl,?_⟩;replace uZ:=zKb uZ hb;replace HB:=zBs HB hb;clear hb)))
   ·go_ret2
    exact⟨z2,zB HB⟩
   ·go_ret2
    exact⟨z2,zB HB⟩
   ·go_ret2
    exact⟨z2,zB HB⟩
   go_ret2
   exact⟨z2,zB HB⟩
 obtain⟨rfl,rfl⟩:=zJ2 H
 go_enter Tryz.func160,Tryz.ntmps160
 go_wp2_with (first|((with_reducible refine aI (N:=3) rfl ?_);refine zx 3 81 #[.int .i64 mG,.bool lU,.int .i64 lX,.int .u64 l9,.int .u64 oP,.bool oK] ?_;intro akl hg w22 hbox hb;have uZ:=am (hbox);have asL:=zG hg HB;have asM:=zG hg HB;replace HB:=zBs HB hb;clear hb hbox hg;obtain⟨_,_,_,_,_,_,_,_,_,_,_,_⟩:=zf6 uZ)|((with_reducible refine af (f:=196) rfl ?_);refine zc (some 12) Tryz.func196 _ (ay.calls _ _ _ _ _ _ _ _ _ _ _ _ A3.out) ?_;rintro e w24 ⟨rfl,hb⟩;refine⟨_,rfl,?_⟩;replace uZ:=zKb uZ hb;replace HB:=zBs HB hb;clear hb))
 go_ret2
 exact⟨z2,zB HB⟩
def dm.f (k:Nat)(a0:Int)(mG:Int)(lU:Bool)(lX:Int)(l9:Int)(oP:Int)(oK:Bool):Option (Int):=(bT.f k a0 mG lU lX l9 oP oK).bind fun asN=>(some asN.1)
theorem dm.calls (k:Nat)(a0:Int)(mG:Int)(lU:Bool)(lX:Int)(l9:Int)(oP:Int)(oK:Bool)(r:Int)(w:World)(h:dm.f k a0 mG lU lX l9 oP oK=some r) :
    Calls Tryz.prog 99 #[.int .i64 a0,.agg #[.int .i64 mG,.bool lU,.int .i64 lX,.int .u64 l9,.int .u64 oP,.bool oK]] w fun e w'=>e=.returned (.int .u64 r)∧Below w.heap.size w w':=by
 have Vb:=Tryz.underlying81;have HB:=am (Below.refl w.heap.size w);have H:=am h;unfold dm.f at H;clear h;replace H:=zo H;obtain⟨⟨aKW,aKX⟩,A3,H⟩:=H
 try dsimp only at H
 obtain rfl:=Option.some.inj H.out
 go_enter Tryz.func99,Tryz.ntmps99
 go_wp2_with (first|((with_reducible refine aI (N:=3) rfl ?_);refine zx 3 81 #[.int .i64 mG,.bool lU,.int .i64 lX,.int .u64 l9,.int .u64 oP,.bool oK] ?_;intro aE0 hg w4 hbox hb;have aex:=am (hbox);have aE1:=zG hg HB;have aE2:=zG hg HB;replace HB:=zBs HB hb;clear hb hbox hg;obtain⟨_,_,_,_,_,_,_,_,_,_,_,_⟩:=zf6 aex)|((with_reducible refine af (f:=160) rfl ?_);refine zc (some 10) Tryz.func160 _ (bT.calls _ _ _ _ _ _ _ _ _ _ _ A3.out) ?_;rintro e w6 ⟨rfl,hb⟩;refine⟨_,rfl,?_⟩;replace aex:=zKb aex hb;replace HB:=zBs HB hb;clear hb))
 go_ret
 exact⟨z2,zB HB⟩
def bn.l0:Nat→Int→Int→Option (Int)
  | 0,_,_=>none
  | k+1,x3,x4=>if x4 > 0 then (bn.l0 k (wrap64 (x3+1)) (wrap64 (Int.tdiv x4 2))) else (some x3)
def bn.f (k:Nat)(l0:List Int):Option (Int):=if (l0.length:Int)=0 then (some 0) else (if 0≤(wrap64 ((l0.length:Int)-1)) then (if (wrap64 ((l0.length:Int)-1))<(l0.length:Int) then (bn.l0 k (wrap64 (24*(wrap64 ((l0.length:Int)-1)))) (rd l0 (wrap64 ((l0.length:Int)-1)))) else (none)) else (none))
theorem bn.calls (k:Nat)(A0:Option Addr)(c0:Nat)(l0:List Int)(r:Int)(w:World)(hr0:Kd.C (Kd.int .i64) w A0 l0.length l0)(hc0:l0.length≤c0)(h:bn.f k l0=some r) :
    Calls Tryz.prog 101 #[.slice A0 l0.length c0] w fun e w'=>e=.returned (.int .i64 r)∧dR w w':=by
 have HR0:=am hr0;have HC0:=am hc0;clear hr0 hc0;have H:=am h;unfold bn.f at H;clear h;replace H:=zsk H;rcases H with⟨ry,IM,H⟩|⟨ry,IM,c2,H⟩;obtain rfl:=Option.some.inj H.out;rotate_left;have av9:¬ (l0=[]):=fun h_=>c2 (by rw[h_];rfl);generalize ED:(wrap64 ((l0.length:Int)-1):Int)=ji3 at H;have UA:(IntKind.i64.wrap ((l0.length:Int)-1))=ji3:=(cu _).trans ED;replace H:=zid H;obtain⟨jP,H⟩:=H;replace H:=zid H;obtain⟨qg,H⟩:=H;obtain⟨aKY,aKZ,aE3,rfl,aey⟩:=zA (Kd.dQ HR0.out (ji3));rotate_left
 all_goals (go_enter Tryz.func101,Tryz.ntmps101;go_wp2)
 ·go_ret
  exact⟨z1,z4⟩
 go_loopg [3,4] k (fun kq v3 v4 w' => ∃ (iH:Int) (nO:Int),v3=.int .i64 iH∧v4=.int .i64 nO∧ae (bn.l0 kq iH nO=some r)∧ae (kq≤k)∧dR w w')
 case atStart=>exact⟨(wrap64 (24*(ji3))),(rd l0 (ji3)),(by first|rfl|(simp;done)|(simp only[← ED] <;> (first|rfl|simp))|(simp[*];done)),(by first|rfl|(simp;done)|(simp only[← ED] <;> (first|rfl|simp))|(simp[*];done)),H,zL,z4⟩
 clear H
 try clear aey
 obtain⟨iH,nO,rfl,rfl,H,HK1,⟨m1,rfl⟩⟩:=hrel;obtain _|k1:=gk
 ·exact zz H rfl
 simp only[bn.l0]at H;replace H:=AV H;rcases H with⟨qm,H⟩|⟨qm,H⟩;rotate_left;obtain rfl:=Option.some.inj H.out;rotate_left
 all_goals (go_wp2)
 ·go_roundg k1
  case measure=>have:=HK1.out;omega
  case rel=>exact⟨(wrap64 (iH+1)),(wrap64 (Int.tdiv nO 2)),z1,z1,H,(zH HK1),z4⟩
 go_ret
 exact⟨by first|rfl|(simp;done)|(simp only[← ED] <;> (first|rfl|simp))|(simp[*];done),z4⟩
mutual
def aU.l0:Nat→List Int→Int→Int→Option (Bool)
  | 0,_,_,_=>none
  | k+1,x0,x1,x5=>if x5<(x0.length:Int) then (aU.j1 k x0 x1 x5 (decide ((wrap64 (24*x5))<x1))) else (aU.j1 k x0 x1 x5 false)
def aU.j1:Nat→List Int→Int→Int→Bool→Option (Bool)
  | 0,_,_,_,_=>none
  | k+1,x0,x1,x5,x16=>if x16=true then (if (wrap64 (x1-(wrap64 (24*x5))))<24 then ((bP.f k (wrap64 (x1-(wrap64 (24*x5))))).bind fun asO=>(if 0≤x5 then (if x5<(x0.length:Int) then (if asO=0 then (none) else (if (Int.tmod (rd x0 x5) asO)=0 then (aU.l0 k x0 x1 (wrap64 (x5+1))) else (some true))) else (none)) else (none))) else (if 0≤x5 then (if x5<(x0.length:Int) then (if (Int.tmod (rd x0 x5) 16777216)=0 then (aU.l0 k x0 x1 (wrap64 (x5+1))) else (some true)) else (none)) else (none))) else (some false)
end
def aU.f (k:Nat)(l0:List Int)(a1:Int):Option (Bool):=aU.l0 k l0 a1 0
theorem aU.calls (k:Nat)(A0:Option Addr)(c0:Nat)(l0:List Int)(a1:Int)(r:Bool)(w:World)(hr0:Kd.C (Kd.int .i64) w A0 l0.length l0)(hc0:l0.length≤c0)(h:aU.f k l0 a1=some r) :
    Calls Tryz.prog 108 #[.slice A0 l0.length c0,.int .i64 a1] w fun e w'=>e=.returned (.bool r)∧dR w w':=by
 have HR0:=am hr0;have HC0:=am hc0;clear hr0 hc0;have H:=am h;unfold aU.f at H;clear h
 go_enter Tryz.func108,Tryz.ntmps108
 go_wp2
 go_loopg [5] k (fun kq v5 w' => ∃ (ig:Int),v5=.int .i64 ig∧ae (aU.l0 kq l0 a1 ig=some r)∧ae (kq≤k)∧dR w w')
 case atStart=>exact⟨(0),z1,H,zL,z4⟩
 clear H;obtain⟨ig,rfl,H,HK1,⟨m1,rfl⟩⟩:=hrel;obtain _|k1:=gk
 ·exact zz H rfl
 simp only[aU.l0]at H
 go_upto_region 2 with (fail)
 go_cut [16] (fun v16 wc => ∃ (kq:Nat) (DF:Bool),v16=.bool DF∧ae (aU.j1 kq l0 a1 ig DF=some r)∧ae (kq≤k1)∧dR w wc)
 case first =>
  replace H:=zsd H;rcases H with⟨jP,H⟩|⟨jP,H⟩
  (first|rw[jP]|(simp only[cu,fQ];rw[jP])|rw[sQ]|skip)
  rotate_left
  (first|rw[jP]|(simp only[cu,fQ];rw[jP])|rw[sQ]|skip)
  rotate_left
  all_goals (go_wp2)
  ·go_meet
   case rel=>exact⟨_,(decide ((wrap64 (24*ig))<a1)),z1,H,⟨by have:=HK1.out;first|omega|exact Nat.le_refl _⟩,z4⟩
  go_meet
  case rel=>exact⟨_,(false),z1,H,⟨by have:=HK1.out;first|omega|exact Nat.le_refl _⟩,z4⟩
 case rest =>
  obtain⟨kq,DF,rfl,H,HJ2,⟨mc2,rfl⟩⟩:=hcut;obtain _|kj2:=kq
  ·exact zz H rfl
  simp only[aU.j1]at H
  cases DF
  replace H:=zb0 H;obtain rfl:=Option.some.inj H.out;rotate_left;replace H:=zb1 H;replace H:=zsd H;rcases H with⟨qm,H⟩|⟨qm,H⟩;replace H:=zo H;obtain⟨asO,A7,H⟩:=H;replace H:=zid H;obtain⟨sO,H⟩:=H;replace H:=zid H;obtain⟨wu,H⟩:=H;replace H:=zjk H;obtain⟨mr,sS,c10,H⟩:=H;replace H:=zsk H;rcases H with⟨qK,zk,H⟩|⟨qK,zk,c11,H⟩;rotate_left;obtain rfl:=Option.some.inj H.out;rotate_left;replace H:=zid H;obtain⟨qO,H⟩:=H;replace H:=zid H;obtain⟨qo,H⟩:=H;replace H:=zsk H;rcases H with⟨ww,LM,H⟩|⟨ww,LM,c14,H⟩;obtain⟨aE4,aE5,asP,rfl,aez⟩:=zA (Kd.dQ HR0.out ig);rotate_left;obtain rfl:=Option.some.inj H.out;obtain⟨aE4,aE5,asP,rfl,aez⟩:=zA (Kd.dQ HR0.out ig);rotate_left
  all_goals (go_wp2_with (first|((with_reducible refine af (f:=142) rfl ?_);refine zc (some 28) Tryz.func142 _ (bP.calls _ _ _ _ A7.out) ?_;rintro e w' ⟨rfl,⟨nd,rfl⟩⟩;refine⟨_,rfl,?_⟩;have asQ:0≤(ig:Int):=zD;have asR:ig<(l0.length:Int):=zD;obtain⟨aE6,aE7,asT⟩:=Kd.dQ HR0.out ig asQ asR;cases aE7;replace asQ:=eq_true asQ;replace asR:=eq_true asR)))
  ·go_ret
   exact⟨z1,z4⟩
  ·go_roundg kj2
   case measure=>have:=HK1.out;have:=HJ2.out;omega
   case rel=>exact⟨(wrap64 (ig+1)),z1,H,⟨by have:=HK1.out;have:=HJ2.out;omega⟩,z4⟩
  ·go_ret
   exact⟨z1,z4⟩
  ·go_roundg kj2
   case measure=>have:=HK1.out;have:=HJ2.out;omega
   case rel=>exact⟨(wrap64 (ig+1)),z1,H,⟨by have:=HK1.out;have:=HJ2.out;omega⟩,z4⟩
  go_ret
  exact⟨z1,z4⟩
end Go.Proofs.Yy.PTx
end
