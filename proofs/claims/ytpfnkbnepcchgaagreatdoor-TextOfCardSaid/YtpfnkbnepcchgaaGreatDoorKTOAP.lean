/- Part 16. -/
import Derived.Test.YtpfnkbnepcchgaaGreatDoorKTOAO
set_option linter.unusedSimpArgs false
set_option linter.unusedVariables false
section
set_option maxHeartbeats 8000000
set_option maxRecDepth 100000
namespace Go.Proofs.Yy.PTx
open Go.RowKit Go.Proofs.Yy.Z Go.Proofs.Yw.PrintWords Go.Proofs.Yw.PrintLast Go.Proofs.Yw.PrintMore
open Go.Proofs.Yy.M
attribute [local go_sem] dP eU lV lX lW lU
attribute [local go_sem] iq ik jE jD gu gq iE iD
mutual
def bz.l0:Nat→Int→Int→List Int→List Int→List Int→Int→Option (List Int × List Int)
  | 0,_,_,_,_,_,_=>none
  | k+1,x6,x7,x8,x9,x10,x11=>if x11≥0 then (if 0≤(wrap64 (x11+x7)) then (if (wrap64 (x11+x7))<(x9.length:Int) then (if 0≤(wrap64 ((wrap64 (x11+x7))-1)) then (if (wrap64 ((wrap64 (x11+x7))-1))<(x9.length:Int) then (if 0≤(wrap64 ((wrap64 (x11+x7))-2)) then (if (wrap64 ((wrap64 (x11+x7))-2))<(x9.length:Int) then (if 0≤(wrap64 (x7-1)) then (if (wrap64 (x7-1))<(x8.length:Int) then (if 0≤(wrap64 (x7-2)) then (if (wrap64 (x7-2))<(x8.length:Int) then ((bK.f k (rd x9 (wrap64 (x11+x7))) (rd x9 (wrap64 ((wrap64 (x11+x7))-1))) (rd x9 (wrap64 ((wrap64 (x11+x7))-2))) (rd x8 (wrap64 (x7-1))) (rd x8 (wrap64 (x7-2)))).bind fun afm=>(if 0≤x11 then (if x11<(wrap64 ((wrap64 (x11+x7))+1)) then (if (wrap64 ((wrap64 (x11+x7))+1))≤(x9.length:Int) then ((qE.f k x9 x11 (wrap64 ((wrap64 (x11+x7))+1)) x8 afm).bind fun aiI=>(bz.l1 k x6 x7 x8 aiI.2 x10 x11 afm aiI.1)) else (none)) else (none)) else (none))) else (none)) else (none)) else (none)) else (none)) else (none)) else (none)) else (none)) else (none)) else (none)) else (none)) else (bz.l2 k x6 x7 x9 x10 x7 0)
def bz.l1:Nat→Int→Int→List Int→List Int→List Int→Int→Int→Bool→Option (List Int × List Int)
  | 0,_,_,_,_,_,_,_,_=>none
  | k+1,x6,x7,x8,x9,x10,x11,x12,x13=>if x13=true then (if 0≤x11 then (if x11<(wrap64 ((wrap64 (x11+x7))+1)) then (if (wrap64 ((wrap64 (x11+x7))+1))≤(x9.length:Int) then ((rV.f k x9 x11 (wrap64 ((wrap64 (x11+x7))+1)) x8).bind fun aiJ=>(bz.l1 k x6 x7 x8 aiJ.2 x10 x11 (IntKind.u64.wrap (x12-1)) (!aiJ.1))) else (none)) else (none)) else (none)) else (if 0≤x11 then (if x11<(x10.length:Int) then (bz.l0 k x6 x7 x8 x9 (x10.set (x11:Int).toNat x12) (wrap64 (x11-1))) else (none)) else (none))
def bz.l2:Nat→Int→Int→List Int→List Int→Int→Int→Option (List Int × List Int)
  | 0,_,_,_,_,_,_=>none
  | k+1,x6,x7,x9,x10,x102,x103=>if x103<x102 then (if 0≤x103 then (if x103<(x9.length:Int) then (if 0≤x6 then ((some (x9.set (x103:Int).toNat (shr .u64 (rd x9 x103) x6):List Int)).bind fun ED=>(if x6 > 0 then (if (wrap64 (x103+1))<x7 then (if 0≤(wrap64 (x103+1)) then (if (wrap64 (x103+1))<(x9.length:Int) then (if 0≤(wrap64 (64-x6)) then (bz.l2 k x6 x7 (ED.set (x103:Int).toNat (Go.bits .or .u64 (rd ED x103) (shl .u64 (rd ED (wrap64 (x103+1))) (wrap64 (64-x6))))) x10 x102 (wrap64 (x103+1))) else (none)) else (none)) else (none)) else (bz.l2 k x6 x7 ED x10 x102 (wrap64 (x103+1)))) else (bz.l2 k x6 x7 ED x10 x102 (wrap64 (x103+1))))) else (none)) else (none)) else (none)) else ((bH.f k x10).bind fun aqs=>(if 0≤x7 then (if x7≤(x9.length:Int) then ((bH.f k (x9.take (x7:Int).toNat)).bind fun aqt=>(some (aqs,aqt))) else (none)) else (none)))
end
def bz.f (k:Nat)(l0:List Int)(l1:List Int):Option (List Int × List Int):=if 0≤(wrap64 ((l1.length:Int)-1)) then (if (wrap64 ((l1.length:Int)-1))<(l1.length:Int) then ((bits_LeadingZeros64.f k (rd l1 (wrap64 ((l1.length:Int)-1)))).bind fun MV=>((dH.f k l1 MV).bind fun Zj=>(if 0≤(l1.length:Int) then (if (l1.length:Int)≤(Zj.length:Int) then ((dH.f k l0 MV).bind fun VV=>(if 0≤(wrap64 ((VV.length:Int)-(l1.length:Int))) then (if (wrap64 ((VV.length:Int)-(l1.length:Int)):Int).toNat≤35184372088832 then ((some (List.replicate (wrap64 ((VV.length:Int)-(l1.length:Int)):Int).toNat 0:List Int)).bind fun aay=>(bz.l0 k MV (l1.length:Int) (Zj.take ((l1.length:Int):Int).toNat) VV aay (wrap64 ((aay.length:Int)-1)))) else (none)) else (none))) else (none)) else (none)))) else (none)) else (none)
def bz.T9:Bool × List (List Nat × List Nat):=(true,[([],[]),([],[]),([],[]),([1,2],[1,2]),([0,3],[0,3]),([4],[4]),([],[]),([],[]),([],[]),([7,8],[7,8]),([9],[9]),([6,10],[6,10]),([11],[11]),([],[]),([],[]),([],[]),([14,15],[14,15]),([16],[16]),([13,17],[13,17]),([18],[18]),([],[]),([],[]),([21],[21]),([20,22],[20,22]),([23],[23]),([],[]),([],[]),([26],[26]),([25,27],[25,27]),([28],[28]),([5,12,19,24,29],[5,12,19,24,29]),([30,30,0,1,2,3,4,5,6,7,8,9,10,11,12,13,14,15,16,17,18,19,20,21,22,23,24,25,26,27,28,29,30],[30])])
def bz.B9:List Nat := [0,0,0,6,15,31,0,0,0,384,896,1984,4032,0,0,0,49152,114688,253952,516096,0,0,2097152,7340032,15728640,0,0,67108864,234881024,503316480,1073741823,2147483647]
theorem bz.agr:rX .any (opsOf Tryz.f154 9)=bz.T9:=by kernel_rfl
theorem bz.TV:jf bz.T9.2 bz.B9=true:=by kernel_rfl
def bz.T20:Bool × List (List Nat × List Nat):=(true,[([],[]),([],[]),([0,1],[0,1]),([2],[2]),([],[]),([],[]),([5],[5]),([4,6],[4,6]),([7],[7]),([],[]),([9],[9]),([8,10],[8,10]),([3,11],[3,11]),([0,1,0,1,2,3,4,5,6,7,8,9,10,11,12],[0,1]),([13,12,0,1,2,3,4,5,6,7,8,9,10,11,12],[12,13])])
def bz.B20:List Nat := [0,0,3,7,0,0,32,112,240,0,512,2032,4095,8191,16383]
theorem bz.abu:rX .any (opsOf Tryz.f154 20)=bz.T20:=by kernel_rfl
theorem bz.RQ:jf bz.T20.2 bz.B20=true:=by kernel_rfl
def bz.T22:Bool × List (List Nat × List Nat):=(true,[([],[]),([0],[0]),([],[]),([],[]),([],[]),([2,3,4],[2,3,4]),([5,1],[5]),([1,6,0,1],[1]),([6,7,0,1,2,3,4,5,6,7],[6])])
def bz.B22:List Nat := [0,1,0,0,0,28,63,127,255]
theorem bz.al9:rX .any (opsOf Tryz.f154 22)=bz.T22:=by kernel_rfl
theorem bz.af1:jf bz.T22.2 bz.B22=true:=by kernel_rfl
theorem bz.calls (k:Nat)(A0:Option Addr)(c0:Nat)(l0:List Int)(A1:Option Addr)(c1:Nat)(l1:List Int)(r1:List Int)(r2:List Int)(w:World)(hr0:Kd.C (Kd.int .u64) w A0 l0.length l0)(hc0:l0.length≤c0)(hr1:Kd.C (Kd.int .u64) w A1 l1.length l1)(hc1:l1.length≤c1)(h:bz.f k l0 l1=some (r1,r2)) :
    Calls Tryz.prog 154 #[.slice A0 l0.length c0,.slice A1 l1.length c1] w fun e w' => ∃ v0_ v1_:Value,e=.returned (.tuple #[v0_,v1_])∧Kd.V (Kd.int .u64) 25 w' w.heap.size (fun k_=>(w.heap.size≤k_)) v0_ r1∧Kd.V (Kd.int .u64) 25 w' w.heap.size (fun k_=>(w.heap.size≤k_)) v1_ r2∧Below w.heap.size w w':=by
 have HR0:=am hr0;have HC0:=am hc0;clear hr0 hc0;have HR1:=am hr1;have HC1:=am hc1;clear hr1 hc1;have HB:=am (Below.refl w.heap.size w);have H:=am h;unfold bz.f at H;clear h;generalize Ew:(wrap64 ((l1.length:Int)-1):Int)=ji3 at H;have Vs:(IntKind.i64.wrap ((l1.length:Int)-1))=ji3:=(bW _).trans Ew;replace H:=zid H;obtain⟨jV,H⟩:=H;replace H:=zid H;obtain⟨qN,H⟩:=H;replace H:=zo H;obtain⟨MV,A6,H⟩:=H;replace H:=zo H;obtain⟨Zj,A7,H⟩:=H;replace H:=zit H;obtain⟨uz,Ey,H⟩:=H;replace H:=zit H;obtain⟨vF,BD,H⟩:=H;generalize aiK:(Zj.take ((l1.length:Int):Int).toNat:List Int)=afn at H;have aiL:=zY aiK;clear aiK;replace H:=zo H;obtain⟨VV,A10,H⟩:=H;generalize HY:(wrap64 ((VV.length:Int)-(l1.length:Int)):Int)=ag9 at H
 (try rw[HY]at A6)
 (try rw[HY]at A7)
 (try rw[HY]at A10)
 have awl:(IntKind.i64.wrap ((VV.length:Int)-(l1.length:Int)))=ag9:=(bW _).trans HY;replace H:=zit H;obtain⟨pM,uQ,H⟩:=H;replace H:=zit H;obtain⟨sD,Ip,H⟩:=H;obtain⟨aay,aiM,H⟩:=zw H;obtain⟨aIo,aIp,aqu,rfl,MW⟩:=zA (Kd.dQ HR1.out (ji3))
 go_enter Tryz.func154,Tryz.ntmps154
 go_wp2_with (first|((with_reducible refine af (f:=184) rfl ?_);refine jS (some 21) rfl rfl Tryz.func184 (by kernel_rfl) rfl #[.int .u64 (rd l1 (ji3))] rfl (by (try simp only[List.map_toArray,List.map_cons,List.map_nil]);first|done|(simp only[Ew];rfl)|rfl|(simp only[List.length_drop,List.length_take];rfl)) ?_;(with_reducible refine (bits_LeadingZeros64.calls _ _ _ _ A6.out).mono ?_);rintro e w' ⟨rfl,⟨nd,rfl⟩⟩;refine⟨_,rfl,?_⟩)|((with_reducible refine af (f:=104) rfl ?_);refine zc (some 26) Tryz.func104 #[.slice (some aqu) l1.length c1,.int .i64 MV] (dH.calls _ _ _ _ _ _ _ (zC HR1.out) HC1.out A7.out) ?_;rintro e w14 ⟨aIq,rfl,ho0,hb⟩;refine⟨_,rfl,?_⟩;have Iq:=am (Kd.dZ (Kd.oQ (M:=fun k_=>(w.heap.size≤k_)) ho0 (zS HB) (fun k_ h_=>h_)) (zS HB));replace HB:=zBs HB hb;clear hb ho0;obtain⟨Gi,Bj,QF⟩:=Kd.dU Iq.out;subst QF;have q15:((l1.length:Int):Int)≤((Zj.length:Int):Int):=zD;obtain⟨aIr,aiN,_,aqv,_⟩:=info_parts info25;have VW:Zj.length≤Bj:=(Kd.az Iq.out).2.1;have awm:Kd.F (Kd.int .u64) _ _ Gi Zj.length Zj:=(Kd.Xh (base:=w.heap.size) (Kd.R_V Iq.out)).2.2;have aiO:=Oz (P:=Tryz.prog) 88 25 .i64 Tryz.underlying88 aiN Gi Zj.length Bj (l1.length:Int) (zD) q15 VW;have aqw:=Kd.JF (m:=((l1.length:Int):Int).toNat) awm (by omega);have aqx:afn.length=((l1.length:Int):Int).toNat:=(by rw[aiL.out,List.length_take];omega);rw[← aiL.out]at aqw;rw[← aqx]at aiO;have VX:=am (show Kd.V (Kd.int .u64) 25 _ w.heap.size _ (.slice Gi afn.length Bj) afn from Kd.IQ (by omega) aqw);have aBR:=am (show afn.length≤Bj from by omega);clear aqw awm VW aiN aqv;have aIs:=am aqx;clear aqx;replace q15:=eq_true q15)|((with_reducible refine af (f:=104) rfl ?_);refine zc (some 31) Tryz.func104 #[.slice A0 l0.length c0,.int .i64 MV] (dH.calls _ _ _ _ _ _ _ (zC (Kd.ku HR0.out HB.out)) HC0.out A10.out) ?_;rintro e w17 ⟨aIt,rfl,ho0,hb⟩;refine⟨_,rfl,?_⟩;replace VX:=am (Kd.jl (zV VX) (Kd.fP ho0) hb);have VY:=am (Kd.dZ (Kd.jc (Kd.oQ (M:=fun k_=>(w.heap.size≤k_)) ho0 (zS HB) (fun k_ h_=>h_)) (Kd.qg (zR Iq))) (zS HB));replace Iq:=am (Kd.fQ (zR Iq) (Kd.fP ho0) hb);replace HB:=zBs HB hb;clear hb ho0;obtain⟨J4,sF,MC⟩:=Kd.dU VY.out;subst MC)|((with_reducible refine aA (N:=36) rfl ?_);refine Kd.wE (Kd.int .u64) _ 25 rfl (N:=36) rfl 88 _ _ rfl ag9 (by first|rfl|(simp only[List.length_drop,List.length_take];rfl)) (by first|rfl|(simp only[List.length_drop,List.length_take];rfl)) Tryz.underlying88 (.int .u64 0) 8 info25 rfl (by decide) (by omega) 0 (ok:=fun _=>True) (okp:=fun _=>True) rfl (fun _ hk=>hk) trivial (zD) (Nat.le_trans (Nat.mul_le_mul_right _ (zD:ag9.toNat≤35184372088832)) (by omega)) (Below.refl _ _) (Nat.le_refl _) ?_;intro aIu w19 J5 hb hg_ jO;clear hg_ jO;(first|rw[← aiM.out]at J5|(simp only[Int.reduceToNat]at J5;rw[← aiM.out]at J5));replace VX:=am (Kd.jl (zV VX) (Kd.fP J5) hb);have aiP:=am (Kd.dZ (Kd.jc (Kd.jc (Kd.oQ (M:=fun k_=>(w.heap.size≤k_)) J5 (zS HB) (fun k_ h_=>h_)) (Kd.qg (zR Iq))) (Kd.qg (zR VY))) (zS HB));replace Iq:=am (Kd.fQ (zR Iq) (Kd.fP J5) hb);replace VY:=am (Kd.fQ (zR VY) (Kd.fP J5) hb);replace HB:=zBs HB hb;clear hb J5;obtain⟨EX,Bo,aoH⟩:=Kd.dU aiP.out;subst aoH))
 go_loopg [11] k (fun kq v11 w' => ∃ (lF:List Int) (tH:List Int) (kz:List Int) (mQ:Int),v11=.int .i64 mQ∧ae (bz.l0 kq MV (l1.length:Int) lF tH kz mQ=some (r1,r2))∧ae (kq≤k)∧ae (Kd.V (Kd.int .u64) 25 w' w.heap.size (fun k_=>(w.heap.size≤k_)∧some k_≠((.slice J4 VV.length sF):Value).ownBlock∧some k_≠((.slice EX aay.length Bo):Value).ownBlock) (.slice Gi afn.length Bj) lF)∧ae (Kd.R (Kd.int .u64) 25 w' w.heap.size (fun k_=>(w.heap.size≤k_)∧some k_≠((.slice EX aay.length Bo):Value).ownBlock) (.slice J4 VV.length sF) tH)∧ae (Kd.R (Kd.int .u64) 25 w' w.heap.size (fun k_=>(w.heap.size≤k_)∧some k_≠((.slice J4 VV.length sF):Value).ownBlock) (.slice EX aay.length Bo) kz)∧ae (Below w.heap.size w w'))
 case atStart=>exact⟨(afn),(VV),(aay),(wrap64 ((aay.length:Int)-1)),z1,H,zL,⟨by (with_reducible repeat (first|apply Kd.je|apply Kd.jh|apply Kd.jb));exact Kd.bG VX.out (fun _ hk=>⟨hk.1.1.1,⟨hk.1.2,hk.2⟩⟩)⟩,⟨by (with_reducible repeat (first|apply Kd.cO|apply Kd.bZ|apply Kd.dK));exact Kd.dm VY.out (fun _ hk=>⟨hk.1.1.1,hk.2⟩)⟩,⟨by (with_reducible repeat (first|apply Kd.cO|apply Kd.bZ|apply Kd.dK));exact Kd.dm aiP.out (fun _ hk=>⟨hk.1.1.1,hk.2⟩)⟩,⟨zB HB⟩⟩
 clear H
 try clear hx4
 try clear MW
 obtain⟨lF,tH,kz,mQ,rfl,H,HK1,yF,mV,jX,HB⟩:=hrel;have nT:=(Kd.aX yF.out).1;rw[nT]at yF
 (try simp only[nT])
 (try simp only[nT]at mV)
 (try simp only[nT]at jX)
 have nU:=(Kd.az mV.out).1;rw[nU]at mV
 (try simp only[nU])
 (try simp only[nU]at yF)
 (try simp only[nU]at jX)
 have jJ:=(Kd.az jX.out).1;rw[jJ]at jX
 (try simp only[jJ])
 (try simp only[jJ]at yF)
 (try simp only[jJ]at mV)
 obtain _|k1:=gk
 ·exact zz H rfl
 simp only[bz.l0]at H;replace H:=yD H;rcases H with⟨YY,H⟩|⟨YY,H⟩
 ·generalize MX:(wrap64 (mQ+(l1.length:Int)):Int)=yz at H
  have aiQ:(IntKind.i64.wrap (mQ+(l1.length:Int)))=yz:=(bW _).trans MX;replace H:=zid H;obtain⟨Me,H⟩:=H;replace H:=zi H;obtain⟨c25,H⟩:=H;have VH:decide ((yz)<(tH.length:Int))=true:=decide_eq_true c25
  (try simp only[nT]at VH)
  (try simp only[nU]at VH)
  (try simp only[jJ]at VH)
  clear c25;generalize aiR:(wrap64 ((yz)-1):Int)=Zk at H;have awn:(IntKind.i64.wrap ((yz)-1))=Zk:=(bW _).trans aiR;replace H:=zid H;obtain⟨Y0,H⟩:=H;replace H:=zi H;obtain⟨c28,H⟩:=H;have zQ:decide ((Zk)<(tH.length:Int))=true:=decide_eq_true c28
  (try simp only[nT]at zQ)
  (try simp only[nU]at zQ)
  (try simp only[jJ]at zQ)
  clear c28;generalize aiS:(wrap64 ((yz)-2):Int)=Zl at H;have awo:(IntKind.i64.wrap ((yz)-2))=Zl:=(bW _).trans aiS;replace H:=zid H;obtain⟨ah5,H⟩:=H;replace H:=zi H;obtain⟨c31,H⟩:=H;have QD:decide ((Zl)<(tH.length:Int))=true:=decide_eq_true c31
  (try simp only[nT]at QD)
  (try simp only[nU]at QD)
  (try simp only[jJ]at QD)
  clear c31;generalize QE:(wrap64 ((l1.length:Int)-1):Int)=Xk at H;have awp:(IntKind.i64.wrap ((l1.length:Int)-1))=Xk:=(bW _).trans QE
  (try clear Ew)
  (try clear Vs)
  replace H:=zid H;obtain⟨aqy,H⟩:=H;replace H:=zi H;obtain⟨c34,H⟩:=H;have adV:decide ((Xk)<(lF.length:Int))=true:=decide_eq_true c34
  (try simp only[nT]at adV)
  (try simp only[nU]at adV)
  (try simp only[jJ]at adV)
  clear c34;generalize aiT:(wrap64 ((l1.length:Int)-2):Int)=Zm at H;have awq:(IntKind.i64.wrap ((l1.length:Int)-2))=Zm:=(bW _).trans aiT;replace H:=zid H;obtain⟨VZ,H⟩:=H;replace H:=zi H;obtain⟨c37,H⟩:=H;have MJ:decide ((Zm)<(lF.length:Int))=true:=decide_eq_true c37
  (try simp only[nT]at MJ)
  (try simp only[nU]at MJ)
  (try simp only[jJ]at MJ)
  clear c37;replace H:=zo H;obtain⟨afm,A38,H⟩:=H;replace H:=zit H;obtain⟨ah8,ah9,H⟩:=H;replace H:=zit H;obtain⟨aiU,aBS,H⟩:=H;replace H:=zit H;obtain⟨aqz,aBT,H⟩:=H;replace H:=zo H;obtain⟨⟨aBU,aBV⟩,A42,H⟩:=H
  try dsimp only at H
  try go_wp2
  replace yF:=am (Kd.jb yF.out);replace mV:=am (Kd.dK mV.out);replace jX:=am (Kd.dK jX.out);replace HB:=am (aW HB.out);obtain⟨aIv,aIw,J8,rfl,Ec⟩:=zA (Kd.dQ (Kd.az mV.out).2.2 (yz));have aqA:0≤((Zk):Int):=zD;have aqB:(Zk)<(tH.length:Int):=zD;obtain⟨aqC,aBW,Ed⟩:=Kd.dQ (Kd.az mV.out).2.2 (Zk) aqA aqB
  obtain rfl:J8=aqC:=(by injection aBW)
  replace aqA:=eq_true aqA;replace aqB:=eq_true aqB;have aqD:0≤((Zl):Int):=zD;have aqE:(Zl)<(tH.length:Int):=zD;obtain⟨aqF,aBX,Ee⟩:=Kd.dQ (Kd.az mV.out).2.2 (Zl) aqD aqE
  obtain rfl:J8=aqF:=(by injection aBX)
  replace aqD:=eq_true aqD;replace aqE:=eq_true aqE;obtain⟨aIx,aIy,MZ,rfl,Ir⟩:=zA (Kd.dQ (Kd.aX yF.out).2.2 (Xk));have aqG:0≤((Zm):Int):=zD;have aqH:(Zm)<(lF.length:Int):=zD;obtain⟨aqI,aBY,Iu⟩:=Kd.dQ (Kd.aX yF.out).2.2 (Zm) aqG aqH
  obtain rfl:MZ=aqI:=(by injection aBY)
  replace aqG:=eq_true aqG;replace aqH:=eq_true aqH;refine mM (n:=32) (S:=fun w'=>w'.cell? (J8.add ((yz)).toNat)=some (.int .u64 (rd tH (yz)))∧w'.cell? (J8.add ((Zk)).toNat)=some (.int .u64 (rd tH (Zk)))∧w'.cell? (J8.add ((Zl)).toNat)=some (.int .u64 (rd tH (Zl)))∧w'.cell? (MZ.add ((Xk)).toNat)=some (.int .u64 (rd lF (Xk)))∧w'.cell? (MZ.add ((Zm)).toNat)=some (.int .u64 (rd lF (Zm)))) (ds := []) (Array.replicate 32 false) (by kernel_rfl) rfl rfl ⟨Ec,Ed,Ee,Ir,Iu⟩ (fun hHeld=>?_);refine gQ bz.agr bz.TV (fun HT_ HW_=>?_);generalize wr.drew=w43 at yF mV jX HB Ec Ed Ee Ir Iu hHeld ⊢;refine zp HT_ 0 (some 44) ?_;refine zp HT_ 1 (some 45) ?_;refine zp HT_ 2 (some 46) ?_;refine zp HT_ 3 (some 47) ?_;refine zp HT_ 4 (some 48) ?_;refine zp HT_ 6 (some 50) ?_;refine zp HT_ 7 (some 51) ?_;refine zp HT_ 8 (some 52) ?_;refine zp HT_ 9 (some 53) ?_;refine zp HT_ 10 (some 54) ?_;refine zp HT_ 11 (some 55) ?_;refine zp HT_ 13 (some 57) ?_;refine zp HT_ 14 (some 58) ?_;refine zp HT_ 15 (some 59) ?_;refine zp HT_ 16 (some 60) ?_;refine zp HT_ 17 (some 61) ?_;refine zp HT_ 18 (some 62) ?_;refine zp HT_ 20 (some 64) ?_;refine zp HT_ 21 (some 65) ?_;refine zp HT_ 22 (some 66) ?_;refine zp HT_ 23 (some 67) ?_;refine zp HT_ 25 (some 69) ?_;refine zp HT_ 26 (some 70) ?_;refine zp HT_ 27 (some 71) ?_;refine zp HT_ 28 (some 72) ?_;refine zt HT_ HW_ 5 (some 49) hHeld ?_;refine zt HT_ HW_ 12 (some 56) hHeld ?_;refine zt HT_ HW_ 19 (some 63) hHeld ?_;refine zt HT_ HW_ 24 (some 68) hHeld ?_;refine zt HT_ HW_ 29 (some 73) hHeld ?_;refine zu HT_ 30 (some 74) (fun K hK=>?_);refine oV Tryz.func192 (by kernel_rfl) rfl #[.int .u64 (rd tH (yz)),.int .u64 (rd tH (Zk)),.int .u64 (rd tH (Zl)),.int .u64 (rd lF (Xk)),.int .u64 (rd lF (Zm))] (by rfl) rfl rfl (by (try simp only[List.map_toArray,List.map_cons,List.map_nil]);first|done|(simp only[MX,aiR,aiS,QE,aiT];rfl)|rfl|(simp only[List.length_drop,List.length_take];rfl)) ?_
  with_reducible refine (bK.calls k1 (rd tH (yz)) (rd tH (Zk)) (rd tH (Zl)) (rd lF (Xk)) (rd lF (Zm)) afm _ A38.out).mono ?_
  rintro e w' ⟨rfl,⟨nd,rfl⟩⟩;refine⟨_,rfl,?_⟩;refine hK.out _ _ ⟨hHeld.1,hHeld.2.1,hHeld.2.2.1,hHeld.2.2.2.1,hHeld.2.2.2.2⟩ (fun hHeld=>?_);clear hK K;refine mD (a':=?_) ?_ ?_;rotate_left
  ·show Act.put _ (some 74) _=_
   simp only[Act.put,List.setIfInBounds_toArray,List.set_cons_zero,List.set_cons_succ,bW,fV]
   rfl
  refine zp HT_ 31 (some 12) ?_;refine oG (iJ HT_.out (by kernel_rfl)) ?_
  (try (rw[gI w43];generalize hq_:World.drewN w43 _=w43;have n0_:ae (Kd.R (Kd.int .u64) 25 w43 w.heap.size (fun k_=>(w.heap.size≤k_)∧some k_≠(.slice (some J8) tH.length sF:Value).ownBlock) (.slice EX kz.length Bo) kz):=⟨by rw[← hq_];exact (zR jX)⟩;have n1_:ae (Kd.V (Kd.int .u64) 25 w43 w.heap.size (fun k_=>(w.heap.size≤k_)∧some k_≠(.slice EX kz.length Bo:Value).ownBlock∧some k_≠(.slice (some J8) tH.length sF:Value).ownBlock) (.slice (some MZ) lF.length Bj) lF):=⟨by rw[← hq_];exact (by (with_reducible repeat (first|apply Kd.je|apply Kd.jh|apply Kd.jb));exact Kd.bG yF.out (fun _ hk=>⟨hk.1,⟨hk.2.2,hk.2.1⟩⟩))⟩;have n2_:ae (Kd.R (Kd.int .u64) 25 w43 w.heap.size (fun k_=>(w.heap.size≤k_)∧some k_≠(.slice EX kz.length Bo:Value).ownBlock) (.slice (some J8) tH.length sF) tH):=⟨by rw[← hq_];exact (zR mV)⟩;have n3_:ae (Below w.heap.size w w43):=⟨by rw[← hq_];exact (zB HB)⟩;clear jX yF mV HB hq_;have jX:=n0_;have yF:=n1_;have mV:=n2_;have HB:=n3_;clear n0_ n1_ n2_ n3_))
  have aqJ:(0:Int)≤(mQ:Int):=zD;have aqK:(mQ:Int)<((wrap64 ((yz)+1)):Int):=zD;have q44:((wrap64 ((yz)+1)):Int)≤((tH.length:Int):Int):=zD;obtain⟨J9,adW,alf,awr,aBZ,aIz,aws⟩:=Kd.oP mV.out (by omega)
  (first|cases alf|(injection alf with ea_ en_ ec_;(first|subst ea_|(injection ea_ with ea_;subst ea_));subst ec_;clear en_))
  have aIA:=am awr;have aIB:=am aws;clear awr aBZ aws
  (first|simp only[add_plain]at Ec|skip)
  (first|simp only[add_plain]at Ed|skip)
  (first|simp only[add_plain]at Ee|skip)
  obtain⟨aIC,aiV,_,aiW,_⟩:=info_parts info25;have V3:=(Kd.az mV.out).2.1;have aqL:=(Kd.az mV.out).1;have awt:=UB (P:=Tryz.prog) 88 25 .i64 .i64 Tryz.underlying88 aiV aiW J9 tH.length sF mQ (wrap64 ((yz)+1)) aqJ aqK (by omega) V3;clear aiV aiW V3 aqL;replace aqJ:=eq_true aqJ;replace aqK:=eq_true aqK;replace q44:=eq_true q44
  try go_wp2_with (first|((with_reducible refine af (f:=193) rfl ?_);refine jS (some 84) rfl rfl Tryz.func193 (by kernel_rfl) rfl #[.slice (some ⟨J9,(mQ:Int).toNat,none⟩) (((wrap64 ((yz)+1)):Int).toNat-(mQ:Int).toNat) (sF-(mQ:Int).toNat),.slice (some MZ) lF.length Bj,.int .u64 afm] rfl (by (try simp only[List.map_toArray,List.map_cons,List.map_nil]);first|done|(simp only[MX];rfl)|rfl|(simp only[List.length_drop,List.length_take];rfl)) ?_;(with_reducible refine (qE.calls _ (fun k_=>some k_=(.slice (some ⟨J9,0,none⟩) tH.length sF:Value).ownBlock) (.slice (some ⟨J9,0,none⟩) tH.length sF) _ _ _ _ _ _ _ _ _ w _ ?eu ?kw ?adX ?adY A42.out).mono ?_);(case eu=>repeat (first|(with_reducible first|exact HB.out|apply bn|apply aJ|apply aW)|exact HB.out));(case kw=>exact Kd.jZ rfl mV.out);(case adX=>exact Kd.Dn (yF.out) (fun k_ hk_ hs_=>(hk_.2.2) hs_));(case adY=>exact (Kd.aX yF.out).2.1);rintro e w45 ⟨rfl,hy0,hb,hkp⟩;refine⟨_,rfl,?_⟩;replace yF:=am (Kd.bG (ok':=fun k_=>(w.heap.size≤k_)∧some k_≠(.slice (some ⟨J9,0,none⟩) tH.length sF:Value).ownBlock∧some k_≠(.slice EX kz.length Bo:Value).ownBlock) (Kd.Uc (yF.out) hkp (fun k_ hk_ hs_=>(hk_.2.2) hs_)) (fun k_ hk_=>⟨hk_.1.1,hk_.1.2.2,hk_.1.2.1⟩));replace mV:=am (Kd.Z7 rfl hy0 (fun k_ e_=>mV.out.1 k_ e_));replace jX:=am (Kd.dm (ok':=fun k_=>(w.heap.size≤k_)∧some k_≠(.slice (some ⟨J9,0,none⟩) tH.length sF:Value).ownBlock) (Kd.rY (jX.out) hkp (fun k_ hk_ hs_=>(hk_.2) hs_)) (fun k_ hk_=>⟨hk_.1.1,hk_.1.2⟩));replace HB:=am (hb);clear hb hkp hy0))
  go_loopg [12,13] k1 (fun kq v12 v13 w' => ∃ (OO:List Int) (sV:List Int) (qP:List Int) (wM:Int) (Hz:Bool),v12=.int .u64 wM∧v13=.bool Hz∧ae (bz.l1 kq MV (l1.length:Int) OO sV qP mQ wM Hz=some (r1,r2))∧ae (kq≤k1)∧ae (Kd.V (Kd.int .u64) 25 w' w.heap.size (fun k_=>(w.heap.size≤k_)∧some k_≠((.slice (some ⟨J9,0,none⟩) tH.length sF):Value).ownBlock∧some k_≠((.slice EX kz.length Bo):Value).ownBlock) (.slice (some MZ) lF.length Bj) OO)∧ae (Kd.R (Kd.int .u64) 25 w' w.heap.size (fun k_=>(w.heap.size≤k_)∧some k_≠((.slice EX kz.length Bo):Value).ownBlock) (.slice (some ⟨J9,0,none⟩) tH.length sF) sV)∧ae (Kd.R (Kd.int .u64) 25 w' w.heap.size (fun k_=>(w.heap.size≤k_)∧some k_≠((.slice (some ⟨J9,0,none⟩) tH.length sF):Value).ownBlock) (.slice EX kz.length Bo) qP)∧ae (Below w.heap.size w w'))
  case atStart=>exact⟨(lF),(aBV),(kz),(afm),(aBU),z1,z1,H,zL,⟨by (try simp only[nT]);(try simp only[nU]);(try simp only[jJ]);(with_reducible repeat (first|apply Kd.je|apply Kd.jh|apply Kd.jb));exact yF.out⟩,⟨by (try simp only[nT]);(try simp only[nU]);(try simp only[jJ]);(with_reducible repeat (first|apply Kd.cO|apply Kd.bZ|apply Kd.dK));exact mV.out⟩,⟨by (try simp only[nT]);(try simp only[nU]);(try simp only[jJ]);(with_reducible repeat (first|apply Kd.cO|apply Kd.bZ|apply Kd.dK));exact jX.out⟩,⟨zB HB⟩⟩
  clear H
  try clear hx4
  try clear aB0
  try clear aB1
  try clear MW
  try clear Ec
  try clear Ed
  try clear Ee
  try clear Ir
  try clear Iu
  obtain⟨OO,sV,qP,wM,Hz,rfl,rfl,H,HK2,yF,mV,jX,HB⟩:=hrel;have Az:=(Kd.aX yF.out).1;rw[Az]at yF
  (try simp only[Az])
  (try simp only[Az]at mV)
  (try simp only[Az]at jX)
  have ou:=(Kd.az mV.out).1;rw[ou]at mV
  (try simp only[ou])
  (try simp only[ou]at yF)
  (try simp only[ou]at jX)
  have uC:=(Kd.az jX.out).1;rw[uC]at jX
  (try simp only[uC])
  (try simp only[uC]at yF)
  (try simp only[uC]at mV)
  obtain _|k2:=gk
  ·exact zz H rfl
  simp only[bz.l1]at H
  cases Hz
  replace H:=zb0 H;replace H:=zid H;obtain⟨aB2,H⟩:=H;replace H:=zi H;obtain⟨c54,H⟩:=H;have QO:decide (mQ<(qP.length:Int))=true:=decide_eq_true c54
  (try simp only[nT]at QO)
  (try simp only[nU]at QO)
  (try simp only[jJ]at QO)
  (try simp only[Az]at QO)
  (try simp only[ou]at QO)
  (try simp only[uC]at QO)
  clear c54;generalize aiX:(qP.set (mQ:Int).toNat wM:List Int)=awu at H;have aqM:=zY aiX;clear aiX;have p55:0≤(mQ:Int):=zD;have q55:(mQ:Int)<((qP.length:Int):Int):=zD;obtain⟨adZ,aID,awv,aww,aB3,aIE,awx⟩:=Kd.oP jX.out (by omega)
  (first|cases awv|(injection awv with ea_ en_ ec_;(first|subst ea_|(injection ea_ with ea_;subst ea_));subst ec_;clear en_))
  have aB4:=am aww;have aIF:=am awx;clear aww aB3 awx;obtain⟨aiY,awy⟩:=Kd.iR 0 jX.out (mQ:Int) p55 q55;replace p55:=eq_true p55;replace q55:=eq_true q55;have aqN:=Kd.mX jX.out (mQ:Int) wM;rotate_left;replace H:=zb1 H;replace H:=zit H;obtain⟨aiZ,ai0,H⟩:=H;replace H:=zit H;obtain⟨aB5,aB6,H⟩:=H;replace H:=zit H;obtain⟨aB7,aB8,H⟩:=H;replace H:=zo H;obtain⟨⟨aB9,aCa⟩,A50,H⟩:=H
  try dsimp only at H
  have aqO:(0:Int)≤(mQ:Int):=zD;have aqP:(mQ:Int)<((wrap64 ((wrap64 (mQ+(l1.length:Int)))+1)):Int):=zD;have q51:((wrap64 ((wrap64 (mQ+(l1.length:Int)))+1)):Int)≤((sV.length:Int):Int):=zD;obtain⟨aIG,ai1,_,ai2,_⟩:=info_parts info25;have V4:=(Kd.az mV.out).2.1;have aqQ:=(Kd.az mV.out).1;have ai3:=UB (P:=Tryz.prog) 88 25 .i64 .i64 Tryz.underlying88 ai1 ai2 J9 sV.length sF mQ (wrap64 ((wrap64 (mQ+(l1.length:Int)))+1)) aqO aqP (by omega) V4;clear ai1 ai2 V4 aqQ
  (try simp only[MX]at ai3)
  replace aqO:=eq_true aqO;replace aqP:=eq_true aqP;replace q51:=eq_true q51;rotate_left
  all_goals (go_wp2_with (first|((with_reducible refine fO (t:=25) (p:=101) rfl ?_);refine ed (t:=25) (p:=101) (v:=?awz) (w1:=(wr.setCell ⟨adZ,(mQ:Int).toNat,none⟩ (.int .u64 wM))) ?hg ?ho ?hn ?hr ?_;(case ho=>rfl);(case hg=>rfl);(case hn=>rfl);(case hr=>first|(go_simp;done)|(go_simp;rfl));intro w57 hw;have hg:wr.grownBy w57 (some adZ):=(by rw[hw];exact aqN.2);have hp_:Kd.R (Kd.int .u64) 25 w57 w.heap.size (fun k_=>(w.heap.size≤k_)∧some k_≠(.slice (some ⟨J9,0,none⟩) sV.length sF:Value).ownBlock) (.slice (some ⟨adZ,0,none⟩) qP.length Bo) awu:=(by rw[hw,aqM.out];exact aqN.1);clear aqN;replace yF:=am (Kd.iZ (v:=(.slice (some ⟨adZ,0,none⟩) qP.length Bo)) (v1:=(.slice (some ⟨adZ,0,none⟩) qP.length Bo)) (ok:=(fun k_=>(w.heap.size≤k_)∧some k_≠(.slice (some ⟨J9,0,none⟩) sV.length sF:Value).ownBlock)) (by (with_reducible repeat (first|apply Kd.je|apply Kd.jh|apply Kd.jb));exact Kd.bG yF.out (fun _ hk=>⟨⟨hk.1,hk.2.1⟩,hk.2.2⟩)) hg (.inl rfl));replace mV:=am (Kd.uI (v:=(.slice (some ⟨adZ,0,none⟩) qP.length Bo)) (v1:=(.slice (some ⟨adZ,0,none⟩) qP.length Bo)) (ok:=(fun k_=>(w.heap.size≤k_))) (zR mV) hg (.inl rfl));replace jX:=am (hp_);replace HB:=am ((by rw[hw];exact bF (HB.out) aB4.out:Below w.heap.size w w57));clear hg hw hp_)|((with_reducible refine af (f:=194) rfl ?_);refine jS (some 96) rfl rfl Tryz.func194 (by kernel_rfl) rfl #[.slice (some ⟨J9,(mQ:Int).toNat,none⟩) (((wrap64 ((wrap64 (mQ+(l1.length:Int)))+1)):Int).toNat-(mQ:Int).toNat) (sF-(mQ:Int).toNat),.slice (some MZ) OO.length Bj] rfl (by (try simp only[List.map_toArray,List.map_cons,List.map_nil]);first|done|(simp only[MX];rfl)|rfl|(simp only[List.length_drop,List.length_take];rfl)) ?_;(with_reducible refine (rV.calls _ (fun k_=>some k_=(.slice (some ⟨J9,0,none⟩) sV.length sF:Value).ownBlock) (.slice (some ⟨J9,0,none⟩) sV.length sF) _ _ _ _ _ _ _ _ w _ ?eu ?kw ?adX ?adY A50.out).mono ?_);(case eu=>repeat (first|(with_reducible first|exact HB.out|apply bn|apply aJ|apply aW)|exact HB.out));(case kw=>exact Kd.jZ rfl mV.out);(case adX=>exact Kd.Dn (yF.out) (fun k_ hk_ hs_=>(hk_.2.1) hs_));(case adY=>exact (Kd.aX yF.out).2.1);rintro e w52 ⟨rfl,hy0,hb,hkp⟩;refine⟨_,rfl,?_⟩;replace yF:=am (Kd.bG (ok':=fun k_=>(w.heap.size≤k_)∧some k_≠(.slice (some ⟨J9,0,none⟩) sV.length sF:Value).ownBlock∧some k_≠(.slice EX qP.length Bo:Value).ownBlock) (Kd.Uc (yF.out) hkp (fun k_ hk_ hs_=>(hk_.2.1) hs_)) (fun k_ hk_=>⟨hk_.1.1,hk_.1.2.1,hk_.1.2.2⟩));replace mV:=am (Kd.Z7 rfl hy0 (fun k_ e_=>mV.out.1 k_ e_));replace jX:=am (Kd.dm (ok':=fun k_=>(w.heap.size≤k_)∧some k_≠(.slice (some ⟨J9,0,none⟩) sV.length sF:Value).ownBlock) (Kd.rY (jX.out) hkp (fun k_ hk_ hs_=>(hk_.2) hs_)) (fun k_ hk_=>⟨hk_.1.1,hk_.1.2⟩));replace HB:=am (hb);clear hb hkp hy0)))
  ·(try simp only[← nT, ← nU, ← jJ, ← Az, ← ou, ← uC])
   go_roundg k2
   case measure=>have:=HK1.out;have:=HK2.out;omega
   case rel=>exact⟨(OO),(sV),(awu),(wrap64 (mQ-1)),z1,H,⟨by have:=HK1.out;have:=HK2.out;omega⟩,⟨by (try simp only[nT]);(try simp only[nU]);(try simp only[jJ]);(try simp only[Az]);(try simp only[ou]);(try simp only[uC]);(with_reducible repeat (first|apply Kd.je|apply Kd.jh|apply Kd.jb));exact Kd.bG yF.out (fun _ hk=>⟨hk.1.1,⟨hk.1.2,hk.2⟩⟩)⟩,⟨by (try simp only[nT]);(try simp only[nU]);(try simp only[jJ]);(try simp only[Az]);(try simp only[ou]);(try simp only[uC]);(with_reducible repeat (first|apply Kd.cO|apply Kd.bZ|apply Kd.dK));exact mV.out⟩,⟨by (try simp only[nT]);(try simp only[nU]);(try simp only[jJ]);(try simp only[Az]);(try simp only[ou]);(try simp only[uC]);(with_reducible repeat (first|apply Kd.cO|apply Kd.bZ|apply Kd.dK));exact jX.out⟩,⟨zB HB⟩⟩
  (try simp only[← Az, ← ou, ← uC])
  go_roundg k2
  case measure=>have:=HK1.out;have:=HK2.out;omega
  case rel=>exact⟨(OO),(aCa),(qP),(IntKind.u64.wrap (wM-1)),(!aB9),z1,z1,H,⟨by have:=HK1.out;have:=HK2.out;omega⟩,⟨by (try simp only[nT]);(try simp only[nU]);(try simp only[jJ]);(try simp only[Az]);(try simp only[ou]);(try simp only[uC]);(with_reducible repeat (first|apply Kd.je|apply Kd.jh|apply Kd.jb));exact yF.out⟩,⟨by (try simp only[nT]);(try simp only[nU]);(try simp only[jJ]);(try simp only[Az]);(try simp only[ou]);(try simp only[uC]);(with_reducible repeat (first|apply Kd.cO|apply Kd.bZ|apply Kd.dK));exact mV.out⟩,⟨by (try simp only[nT]);(try simp only[nU]);(try simp only[jJ]);(try simp only[Az]);(try simp only[ou]);(try simp only[uC]);(with_reducible repeat (first|apply Kd.cO|apply Kd.bZ|apply Kd.dK));exact jX.out⟩,⟨zB HB⟩⟩
 go_wp2
 go_loopg [103] k1 (fun kq aCb w' => ∃ (sV:List Int) (gU:Int),aCb=.int .i64 gU∧ae (bz.l2 kq MV (l1.length:Int) sV kz (l1.length:Int) gU=some (r1,r2))∧ae (kq≤k1)∧ae (Kd.R (Kd.int .u64) 25 w' w.heap.size (fun k_=>(w.heap.size≤k_)∧some k_≠((.slice EX kz.length Bo):Value).ownBlock) (.slice J4 tH.length sF) sV)∧ae (Kd.R (Kd.int .u64) 25 w' w.heap.size (fun k_=>(w.heap.size≤k_)∧some k_≠((.slice J4 tH.length sF):Value).ownBlock) (.slice EX kz.length Bo) kz)∧ae (Below w.heap.size w w'))
 case atStart=>exact⟨(tH),(0),z1,H,zL,⟨by (try simp only[nT]);(try simp only[nU]);(try simp only[jJ]);(with_reducible repeat (first|apply Kd.cO|apply Kd.bZ|apply Kd.dK));exact mV.out⟩,⟨by (try simp only[nT]);(try simp only[nU]);(try simp only[jJ]);(with_reducible repeat (first|apply Kd.cO|apply Kd.bZ|apply Kd.dK));exact jX.out⟩,⟨zB HB⟩⟩
 clear H
 try clear hx4
 try clear hx5
 try clear hf5
 try clear aB0
 try clear aB1
 try clear aIH
 try clear aII
 try clear MW
 try clear Ec
 try clear Ed
 try clear Ee
 try clear Ir
 try clear Iu
 try clear aiY
 obtain⟨sV,gU,rfl,H,HK2,mV,jX,HB⟩:=hrel;have ou:=(Kd.az mV.out).1;rw[ou]at mV
 (try simp only[ou])
 (try simp only[ou]at jX)
 obtain _|k2:=gk
 ·exact zz H rfl
 simp only[bz.l2]at H;replace H:=zs H;rcases H with⟨c58,H⟩|⟨c58,H⟩;have Iw:decide (gU<(l1.length:Int))=true:=decide_eq_true c58
 (try simp only[nT]at Iw)
 (try simp only[nU]at Iw)
 (try simp only[jJ]at Iw)
 (try simp only[ou]at Iw)
 clear c58;replace H:=zid H;obtain⟨aCc,H⟩:=H;replace H:=zi H;obtain⟨c60,H⟩:=H;have Zn:decide (gU<(sV.length:Int))=true:=decide_eq_true c60
 (try simp only[nT]at Zn)
 (try simp only[nU]at Zn)
 (try simp only[jJ]at Zn)
 (try simp only[ou]at Zn)
 clear c60;replace H:=zit H;obtain⟨aCd,aCe,H⟩:=H;generalize ai4:(shr .u64 (rd sV gU) MV:Int)=aaz at H;have awC:((rd sV gU) / 2 ^ min MV.toNat 64)=aaz:=ai4;have awD:MV≤64→((rd sV gU) / 2 ^ MV.toNat)=aaz:=kH ai4;obtain⟨ED,V5,H⟩:=zw H;replace H:=AV H;rcases H with⟨aqR,H⟩|⟨aqR,H⟩;replace H:=zs H;rcases H with⟨c65,H⟩|⟨c65,H⟩;have E5:decide ((wrap64 (gU+1))<(l1.length:Int))=true:=decide_eq_true c65
 (try simp only[nT]at E5)
 (try simp only[nU]at E5)
 (try simp only[jJ]at E5)
 (try simp only[ou]at E5)
 clear c65;generalize ad1:(wrap64 (gU+1):Int)=QP at H
 (try rw[ad1]at E5)
 have awE:(IntKind.i64.wrap (gU+1))=QP:=(bW _).trans ad1;replace H:=zid H;obtain⟨aCf,H⟩:=H;replace H:=zi H;obtain⟨c68,H⟩:=H;have Zo:decide ((QP)<(sV.length:Int))=true:=decide_eq_true c68
 (try simp only[nT]at Zo)
 (try simp only[nU]at Zo)
 (try simp only[jJ]at Zo)
 (try simp only[ou]at Zo)
 clear c68;generalize aqS:(wrap64 (64-MV):Int)=ai5 at H;have awF:(IntKind.i64.wrap (64-MV))=ai5:=(bW _).trans aqS;replace H:=zit H;obtain⟨aCg,aCh,H⟩:=H;generalize ai6:(shl .u64 (rd ED (QP)) (ai5):Int)=ai7 at H;have awG:(IntKind.u64.wrap ((rd ED (QP))*2 ^ min (ai5).toNat 64))=ai7:=ai6;have awH:(ai5)≤64→(IntKind.u64.wrap ((rd ED (QP))*2 ^ (ai5).toNat))=ai7:=iY ai6;generalize ai8:(ED.set (gU:Int).toNat (Go.bits .or .u64 (rd ED gU) (ai7)):List Int)=aCi at H;have aqT:=zY ai8;clear ai8;obtain⟨awI,awJ,ai9,rfl,Ef⟩:=zA (Kd.dQ (Kd.az mV.out).2.2 gU);have p63:0≤(gU:Int):=zD;have q63:(gU:Int)<((sV.length:Int):Int):=zD;obtain⟨Eg,aja,Xn,aaA,ajb,awK,aaB⟩:=Kd.oP mV.out (by omega)
 (first|cases Xn|(injection Xn with ea_ en_ ec_;(first|subst ea_|(injection ea_ with ea_;subst ea_));subst ec_;clear en_))
 have ajc:=am aaA;have awL:=am aaB;clear aaA ajb aaB
 (first|simp only[add_plain]at Ef|skip)
 obtain⟨aaC,aaD⟩:=Kd.iR 0 mV.out (gU:Int) p63 q63;replace p63:=eq_true p63;replace q63:=eq_true q63;have aqU:=Kd.mX mV.out (gU:Int) aaz;rotate_left
 ·have E5:decide ((wrap64 (gU+1))<(l1.length:Int))=false:=decide_eq_false c65
  (try simp only[nT]at E5)
  (try simp only[nU]at E5)
  (try simp only[jJ]at E5)
  (try simp only[ou]at E5)
  clear c65;obtain⟨awI,awJ,ai9,rfl,Ef⟩:=zA (Kd.dQ (Kd.az mV.out).2.2 gU);have p63:0≤(gU:Int):=zD;have q63:(gU:Int)<((sV.length:Int):Int):=zD;obtain⟨Eg,aja,Xn,aaA,ajb,awK,aaB⟩:=Kd.oP mV.out (by omega)
  (first|cases Xn|(injection Xn with ea_ en_ ec_;(first|subst ea_|(injection ea_ with ea_;subst ea_));subst ec_;clear en_))
  have ajc:=am aaA;have awL:=am aaB;clear aaA ajb aaB
  (first|simp only[add_plain]at Ef|skip)
  obtain⟨aaC,aaD⟩:=Kd.iR 0 mV.out (gU:Int) p63 q63;replace p63:=eq_true p63;replace q63:=eq_true q63;have aqV:=Kd.mX mV.out (gU:Int) aaz
  go_wp2_with (first|((with_reducible refine fO (t:=25) (p:=112) rfl ?_);refine ed (t:=25) (p:=112) (v:=?awM) (w1:=(wr.setCell ⟨Eg,(gU:Int).toNat,none⟩ (.int .u64 aaz))) ?hg ?ho ?hn ?hr ?_;(case ho=>rfl);(case hg=>rfl);(case hn=>rfl);(case hr=>first|(go_simp;done)|(go_simp;rfl));intro w78 hw;have hg:wr.grownBy w78 (some Eg):=(by rw[hw];exact aqV.2);have hp_:Kd.R (Kd.int .u64) 25 w78 w.heap.size (fun k_=>(w.heap.size≤k_)∧some k_≠(.slice EX kz.length Bo:Value).ownBlock) (.slice (some ⟨Eg,0,none⟩) sV.length sF) ED:=(by rw[hw,V5.out];exact aqV.1);clear aqV;replace mV:=am (hp_);replace jX:=am (Kd.uI (v:=(.slice (some ⟨Eg,0,none⟩) sV.length sF)) (v1:=(.slice (some ⟨Eg,0,none⟩) sV.length sF)) (ok:=(fun k_=>(w.heap.size≤k_))) (zR jX) hg (.inl rfl));replace HB:=am ((by rw[hw];exact bF (HB.out) ajc.out:Below w.heap.size w w78));clear hg hw hp_))
  (try simp only[← ou])
  go_roundg k2
  case measure=>have:=HK1.out;have:=HK2.out;omega
  case rel=>exact⟨(ED),(wrap64 (gU+1)),z1,H,⟨by have:=HK1.out;have:=HK2.out;omega⟩,⟨by (try simp only[nT]);(try simp only[nU]);(try simp only[jJ]);(try simp only[ou]);(with_reducible repeat (first|apply Kd.cO|apply Kd.bZ|apply Kd.dK));exact mV.out⟩,⟨by (try simp only[nT]);(try simp only[nU]);(try simp only[jJ]);(try simp only[ou]);(with_reducible repeat (first|apply Kd.cO|apply Kd.bZ|apply Kd.dK));exact jX.out⟩,⟨zB HB⟩⟩
 ·obtain⟨awI,awJ,ai9,rfl,Ef⟩:=zA (Kd.dQ (Kd.az mV.out).2.2 gU)
  have p63:0≤(gU:Int):=zD;have q63:(gU:Int)<((sV.length:Int):Int):=zD;obtain⟨Eg,aja,Xn,aaA,ajb,awK,aaB⟩:=Kd.oP mV.out (by omega)
  (first|cases Xn|(injection Xn with ea_ en_ ec_;(first|subst ea_|(injection ea_ with ea_;subst ea_));subst ec_;clear en_))
  have ajc:=am aaA;have awL:=am aaB;clear aaA ajb aaB
  (first|simp only[add_plain]at Ef|skip)
  obtain⟨aaC,aaD⟩:=Kd.iR 0 mV.out (gU:Int) p63 q63;replace p63:=eq_true p63;replace q63:=eq_true q63;have aqW:=Kd.mX mV.out (gU:Int) aaz
  go_wp2_with (first|((with_reducible refine fO (t:=25) (p:=112) rfl ?_);refine ed (t:=25) (p:=112) (v:=?awN) (w1:=(wr.setCell ⟨Eg,(gU:Int).toNat,none⟩ (.int .u64 aaz))) ?hg ?ho ?hn ?hr ?_;(case ho=>rfl);(case hg=>rfl);(case hn=>rfl);(case hr=>first|(go_simp;done)|(go_simp;rfl));intro w80 hw;have hg:wr.grownBy w80 (some Eg):=(by rw[hw];exact aqW.2);have hp_:Kd.R (Kd.int .u64) 25 w80 w.heap.size (fun k_=>(w.heap.size≤k_)∧some k_≠(.slice EX kz.length Bo:Value).ownBlock) (.slice (some ⟨Eg,0,none⟩) sV.length sF) ED:=(by rw[hw,V5.out];exact aqW.1);clear aqW;replace mV:=am (hp_);replace jX:=am (Kd.uI (v:=(.slice (some ⟨Eg,0,none⟩) sV.length sF)) (v1:=(.slice (some ⟨Eg,0,none⟩) sV.length sF)) (ok:=(fun k_=>(w.heap.size≤k_))) (zR jX) hg (.inl rfl));replace HB:=am ((by rw[hw];exact bF (HB.out) ajc.out:Below w.heap.size w w80));clear hg hw hp_))
  (try simp only[← ou])
  go_roundg k2
  case measure=>have:=HK1.out;have:=HK2.out;omega
  case rel=>exact⟨(ED),(wrap64 (gU+1)),z1,H,⟨by have:=HK1.out;have:=HK2.out;omega⟩,⟨by (try simp only[nT]);(try simp only[nU]);(try simp only[jJ]);(try simp only[ou]);(with_reducible repeat (first|apply Kd.cO|apply Kd.bZ|apply Kd.dK));exact mV.out⟩,⟨by (try simp only[nT]);(try simp only[nU]);(try simp only[jJ]);(try simp only[ou]);(with_reducible repeat (first|apply Kd.cO|apply Kd.bZ|apply Kd.dK));exact jX.out⟩,⟨zB HB⟩⟩
 have Iw:decide (gU<(l1.length:Int))=false:=decide_eq_false c58
 (try simp only[nT]at Iw)
 (try simp only[nU]at Iw)
 (try simp only[jJ]at Iw)
 (try simp only[ou]at Iw)
 clear c58;replace H:=zo H;obtain⟨aqs,A81,H⟩:=H;replace H:=zit H;obtain⟨aCj,aCk,H⟩:=H;replace H:=zit H;obtain⟨aCl,aCm,H⟩:=H;generalize ajd:(sV.take ((l1.length:Int):Int).toNat:List Int)=aaE at H;have aje:=zY ajd;clear ajd;replace H:=zo H;obtain⟨aqt,A84,H⟩:=H;obtain⟨rfl,rfl⟩:=zJ2 H;rotate_left
 all_goals (try go_wp2_with (first|((with_reducible refine fO (t:=25) (p:=112) rfl ?_);refine ed (t:=25) (p:=112) (v:=?awO) (w1:=(wr.setCell ⟨Eg,(gU:Int).toNat,none⟩ (.int .u64 aaz))) ?hg ?ho ?hn ?hr ?_;(case ho=>rfl);(case hg=>rfl);(case hn=>rfl);(case hr=>first|(go_simp;done)|(go_simp;rfl));intro w74 hw;have hg:wr.grownBy w74 (some Eg):=(by rw[hw];exact aqU.2);have hp_:Kd.R (Kd.int .u64) 25 w74 w.heap.size (fun k_=>(w.heap.size≤k_)∧some k_≠(.slice EX kz.length Bo:Value).ownBlock) (.slice (some ⟨Eg,0,none⟩) sV.length sF) ED:=(by rw[hw,V5.out];exact aqU.1);clear aqU;replace mV:=am (hp_);replace jX:=am (Kd.uI (v:=(.slice (some ⟨Eg,0,none⟩) sV.length sF)) (v1:=(.slice (some ⟨Eg,0,none⟩) sV.length sF)) (ok:=(fun k_=>(w.heap.size≤k_))) (zR jX) hg (.inl rfl));replace HB:=am ((by rw[hw];exact bF (HB.out) ajc.out:Below w.heap.size w w74));clear hg hw hp_)))
 all_goals
  replace mV:=am (Kd.dK mV.out);replace jX:=am (Kd.dK jX.out);replace HB:=am (aW HB.out)
 ·have aqX:0≤(gU:Int):=zD
  have aqY:gU<(ED.length:Int):=(by have h_:(gU:Int)<((sV.length:Int):Int):=zD;first|(have e_:=(Kd.az mV.out).1;omega)|simpa only [V5.out,List.length_set] using h_)
  have aCn:((gU:Int)<((sV.length:Int):Int))=True:=eq_true (zD);obtain⟨aqZ,aCo,Eh⟩:=Kd.dQ (Kd.az mV.out).2.2 gU aqX aqY
  obtain rfl:(⟨Eg,0,none⟩:Addr)=aqZ:=(by injection aCo)
  (first|simp only[add_plain]at Eh|simp only[Oe]at Eh|simp only[Addr.add,Nat.zero_add]at Eh|skip)
  replace aqX:=eq_true aqX;replace aqY:=eq_true aqY;have aq0:0≤((QP):Int):=zD
  have aq1:(QP)<(ED.length:Int):=(by have h_:((QP):Int)<((sV.length:Int):Int):=zD;first|(have e_:=(Kd.az mV.out).1;omega)|simpa only [V5.out,List.length_set] using h_)
  have aCp:(((QP):Int)<((sV.length:Int):Int))=True:=eq_true (zD);obtain⟨aq2,aCq,Ei⟩:=Kd.dQ (Kd.az mV.out).2.2 (QP) aq0 aq1
  obtain rfl:(⟨Eg,0,none⟩:Addr)=aq2:=(by injection aCq)
  (first|simp only[add_plain]at Ei|simp only[Oe]at Ei|simp only[Addr.add,Nat.zero_add]at Ei|skip)
  replace aq0:=eq_true aq0;replace aq1:=eq_true aq1;have p72:0≤(gU:Int):=zD;have q72:(gU:Int)<((sV.length:Int):Int):=zD;obtain⟨ajf,ajg⟩:=Kd.iR 0 mV.out (gU:Int) p72 q72;replace p72:=eq_true p72;replace q72:=eq_true q72;have aq3:=Kd.NT mV.out (gU:Int) (Go.bits .or .u64 (rd ED gU) (ai7));rw[← aqT.out]at aq3;have awP:=am aq3;clear aq3;refine mM (n:=15) (S:=fun w'=>w'.cell? ⟨Eg,(gU).toNat,none⟩=some (.int .u64 (rd ED gU))∧w'.cell? ⟨Eg,((QP)).toNat,none⟩=some (.int .u64 (rd ED (QP)))) (ds := [14]) (Array.replicate 15 false) (by kernel_rfl) rfl rfl ⟨Eh,Ei⟩ (fun hHeld=>?_);refine gQ bz.abu bz.RQ (fun HT_ HW_=>?_);generalize w74.drew=w75 at mV jX HB awP ajg Eh Ei ajf hHeld ⊢;refine zp HT_ 0 (some 121) ?_;refine zp HT_ 1 (some 122) ?_;refine zp HT_ 2 (some 123) ?_;refine zp HT_ 4 (some 125) ?_;refine zp HT_ 5 (some 126) ?_;refine zp HT_ 6 (some 127) ?_;refine zp HT_ 7 (some 128) ?_;refine zp HT_ 9 (some 130) ?_;refine zp HT_ 10 (some 131) ?_;refine zt HT_ HW_ 3 (some 124) hHeld ?_;refine zt HT_ HW_ 8 (some 129) hHeld ?_;refine zp HT_ 11 (some 132) ?_;refine zp HT_ 12 (some 133) ?_;refine zp HT_ 13 (some 134) ?_;refine Lh (i:=14) (N:=none) #[true,true,true,true,true,true,true,true,true,true,true,true,true,true,true] rfl rfl (AO HT_.out (by kernel_rfl)) (by decide) (fun K hK=>?_);refine xy (w1:=?_) (by rfl) rfl ?_ ?_;rotate_left
  ·go_simp
   rfl
  refine hK.out _ _ ?_;clear hK K;refine oG (iJ HT_.out (by kernel_rfl)) ?_
  try go_wp2
  (try simp only[← ou])
  go_roundg k2
  case measure=>have:=HK1.out;have:=HK2.out;omega
  case rel=>exact⟨(aCi),(QP),(by first|rfl|(simp;done)|(simp only[← ad1] <;> (first|rfl|simp))|(simp[*];done)),H,⟨by have:=HK1.out;have:=HK2.out;omega⟩,⟨by (try simp only[nT]);(try simp only[nU]);(try simp only[jJ]);(try simp only[ou]);(with_reducible repeat (first|apply Kd.cO|apply Kd.bZ|apply Kd.dK));exact awP.out⟩,⟨by (try simp only[nT]);(try simp only[nU]);(try simp only[jJ]);(try simp only[ou]);(with_reducible repeat (first|apply Kd.cO|apply Kd.bZ|apply Kd.dK));exact Kd.dm (Kd.mW (p:=⟨Eg,(gU:Int).toNat,none⟩) (Kd.dm jX.out (fun k_ hk=>(⟨hk,fun e_=>hk.2 (by rw[e_];rfl)⟩:_∧k_≠Eg))) (fun _ hk=>hk.2) (.int .u64 (Go.bits .or .u64 (rd ED gU) (ai7)))) (fun _ hk=>⟨hk.1.1,hk.1.2⟩)⟩,⟨zB HB⟩⟩
 have q86:((l1.length:Int):Int)≤((sV.length:Int):Int):=zD;obtain⟨aIJ,ajh,_,aq4,_⟩:=info_parts info25;have V6:sV.length≤sF:=(Kd.az mV.out).2.1;have awQ:Kd.F (Kd.int .u64) _ _ J4 sV.length sV:=(Kd.Xh (base:=w.heap.size) (Kd.R_V mV.out)).2.2;have aji:=Lc (P:=Tryz.prog) 88 25 .i64 .i64 Tryz.underlying88 ajh J4 sV.length sF (l1.length:Int) (zD) q86 V6;have aq5:=Kd.JF (m:=((l1.length:Int):Int).toNat) awQ (by omega)
 have aq6:aaE.length=((l1.length:Int):Int).toNat:=(by rw[aje.out,List.length_take];omega)
 rw[← aje.out]at aq5;rw[← aq6]at aji;have QQ:=am (show Kd.V (Kd.int .u64) 25 _ w.heap.size _ (.slice J4 aaE.length aaE.length) aaE from Kd.IQ (Nat.le_refl _) aq5);have aCr:=am (Nat.le_refl aaE.length);clear aq5 awQ V6 ajh aq4;have aIK:=am aq6;clear aq6;replace q86:=eq_true q86;refine mM (n:=9) (S:=fun w'=>True) (ds := []) (Array.replicate 9 false) (by kernel_rfl) rfl rfl trivial (fun hHeld=>?_);refine gQ bz.al9 bz.af1 (fun HT_ HW_=>?_);generalize wr.drew=w85 at mV jX HB QQ hHeld ⊢;refine zp HT_ 0 (some 136) ?_;refine zp HT_ 2 (some 138) ?_;refine zp HT_ 3 (some 139) ?_;refine zp HT_ 4 (some 140) ?_;refine zp HT_ 5 (some 141) ?_;refine zu HT_ 1 (some 137) (fun K hK=>?_);refine oV Tryz.func103 (by kernel_rfl) rfl #[.slice EX kz.length Bo] (by rfl) rfl rfl (by (try simp only[List.map_toArray,List.map_cons,List.map_nil]);first|done|rfl|(simp only[List.length_drop,List.length_take];rfl)) ?_
 with_reducible refine (bH.calls k2 (fun k_=>some k_=(.slice EX kz.length Bo:Value).ownBlock) _ _ kz aqs _ ?eu A81.out).mono ?_
 (case eu=>exact Kd.R_V (Kd.jZ rfl (jX.out)))
 rintro e w87 ⟨aIL,rfl,ho0,hb⟩;refine⟨_,rfl,?_⟩;replace QQ:=zVb QQ hb;have ad2:=am (Kd.dG (Kd.bG (ok':=fun k_=>(w.heap.size≤k_)∧some k_≠(.slice J4 sV.length sF:Value).ownBlock) ho0 (fun k_ hk_=>⟨Or.elim hk_ (fun hs_=>((jX.out).1 k_ hs_.symm).1) (fun hn_=>(Nat.le_trans (zS HB) hn_)),Or.elim hk_ (fun hs_=>((jX.out).1 k_ hs_.symm).2) (fun hn_=>(Kd.fresh' (Kd.qg (zR mV)) k_ hn_))⟩)) (zS HB));replace mV:=zRb mV hb;replace jX:=zRb jX hb;replace HB:=zBs HB hb
 (try clear hb)
 (try clear hb2)
 (try clear hk)
 (try clear hi)
 (try clear ho0)
 refine hK.out _ _ trivial (fun hHeld=>?_);clear hK K;refine mD (a':=?_) ?_ ?_;rotate_left
 ·show Act.put _ (some 137) _=_
  simp only[Act.put,List.setIfInBounds_toArray,List.set_cons_zero,List.set_cons_succ,bW,fV]
  rfl
 refine zu HT_ 6 (some 142) (fun K hK=>?_);refine oV Tryz.func103 (by kernel_rfl) rfl #[.slice J4 aaE.length aaE.length] (by rfl) rfl rfl (by (try simp only[List.map_toArray,List.map_cons,List.map_nil]);first|done|rfl|(simp only[List.length_drop,List.length_take];rfl)) ?_
 with_reducible refine (bH.calls k2 (fun k_=>((w.heap.size≤k_)∧some k_≠(.slice EX kz.length Bo:Value).ownBlock)) _ _ aaE aqt _ ?eu A84.out).mono ?_
 (case eu=>exact QQ.out)
 rintro e w88 ⟨aIM,rfl,ho0,hb⟩;refine⟨_,rfl,?_⟩;replace mV:=zRb mV hb;replace QQ:=zVb QQ hb;replace ad2:=zVb ad2 hb;have aq7:=am (Kd.dG (Kd.bG (ok':=fun k_=>(w.heap.size≤k_)∧some k_≠(.slice EX kz.length Bo:Value).ownBlock) ho0 (fun k_ hk_=>⟨Or.elim hk_ (fun hs_=>hs_.1) (fun hn_=>(Nat.le_trans (zS HB) hn_)),Or.elim hk_ (fun hs_=>hs_.2) (fun hn_=>(Kd.fresh' (Kd.qg (zR jX)) k_ hn_))⟩)) (zS HB));replace jX:=zRb jX hb;replace HB:=zBs HB hb
 (try clear hb)
 (try clear hb2)
 (try clear hk)
 (try clear hi)
 (try clear ho0)
 refine hK.out _ _ trivial (fun hHeld=>?_);clear hK K;refine mD (a':=?_) ?_ ?_;rotate_left
 ·show Act.put _ (some 142) _=_
  simp only[Act.put,List.setIfInBounds_toArray,List.set_cons_zero,List.set_cons_succ,bW,fV]
  rfl
 refine zp HT_ 7 (some 4) ?_;refine zp HT_ 8 (some 5) ?_;refine oG (iJ HT_.out (by kernel_rfl)) ?_
 try go_wp2
 go_ret2
 exact⟨_,_,by first|exact z3|(simp only[← Ew, ← HY];exact z3)|exact z2,by (with_reducible repeat (first|apply Kd.je|apply Kd.jh|apply Kd.jb));exact Kd.bG ad2.out (fun _ hk=>hk.1),by (with_reducible repeat (first|apply Kd.je|apply Kd.jh|apply Kd.jb));exact Kd.bG aq7.out (fun _ hk=>hk.1),zB HB⟩
end Go.Proofs.Yy.PTx
end
