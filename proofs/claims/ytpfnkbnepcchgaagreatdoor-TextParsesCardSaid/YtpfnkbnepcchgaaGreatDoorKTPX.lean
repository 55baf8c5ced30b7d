/- Part 24. -/
import Derived.WalkMore
import Derived.Test.YtpfnkbnepcchgaaGreatDoorKTPW
set_option linter.unusedSimpArgs false
set_option linter.unusedVariables false
section
set_option maxHeartbeats 8000000
set_option maxRecDepth 100000
namespace Go.Proofs.Yy.PTx
open Go.RowKit Go.Proofs.Yy.Z Go.Proofs.Yw.PrintWords Go.Proofs.Yw.PrintLast Go.Proofs.Yw.PrintMore Go.Proofs.Yy.M
attribute [local go_sem] gI gG iP iR fF fG gW gV
theorem aaE:(Tryz.prog.info? 9).map (fun i=>(i.zero,i.size,i.bytes))=some (some (.string ⟨#[]⟩),1,16):=by kernel_rfl
def IK (ps:List ByteArray):List UInt8:=(ps.reverse.map (fun p=>p.data.toList)).flatten
def ayy (ps:List ByteArray):ByteArray:=⟨(IK ps).toArray⟩
theorem JM (p:ByteArray)(ps:List ByteArray):IK (p::ps)=IK ps++p.data.toList:=by
 unfold IK;rw[List.reverse_cons,List.map_append,List.flatten_append];simp
theorem Jt (ps:List ByteArray)(n:Nat):(IK (ps.drop n)).length≤(IK ps).length:=by
 induction n generalizing ps with
 | zero=>simp
 | succ n ih =>
  cases ps with
  | nil=>simp
  | cons p r =>
   rw[List.drop_succ_cons,JM,List.length_append];have:=ih r
   omega
theorem Gv (B b:Nat)(l:List UInt8)(s:ByteArray)(w:World)(h:Lib.IsBuilderF 111 5 B b (Lib.byteCells l) w)(hlen:l.length+s.size≤140737488355328)(hBw:B≤w.heap.size) :
  Calls Tryz.prog 68 #[.pointer (some ⟨b,0,none⟩),.string s] w fun e w'=>e=.returned (.tuple #[.int .i64 s.size,.nilIface])∧Lib.IsBuilderF 111 5 B b (Lib.byteCells (l++s.data.toList)) w'∧Below B w w':=by
 refine (Any.Builder_WriteString_f { Tryz.lays105 with } Tryz.Builder_Extra_105 B b (Lib.byteCells l) s w h (by rw[show (Lib.byteCells l).length=l.length from List.length_map ..];exact hlen) hBw).mono ?_;rintro e w' ⟨he,h1,h2⟩;refine⟨he,.inr ?_,h2⟩
 have e2:Lib.byteCells (l++s.data.toList)=Lib.byteCells l++Lib.strCells s:=by simp[Lib.byteCells,Lib.strCells]
 rw[e2];exact h1
theorem KY (w:World):Lib.IsBuilderF 111 5 w.heap.size w.heap.size (Lib.byteCells []) (w.alloc (.cells #[.pointer none,.slice none 0 0] 111)):=by
 rcases Lib.fresh_isBuilder 111 5 w with h|h
 ·exact .inl (Lib.BuilderAtF.of h)
 ·exact .inr (Lib.BuilderAtF.of h)
theorem OZ {w:World}{A:Option Addr}{xs:List ByteArray}(h:Kd.C Kd.string w A xs.length xs):xs.length≤9223372036854775807:=Kd.al6 h
theorem Xk (xs:List ByteArray):IK (xs.drop ((xs.length:Int)-1+1).toNat)=[]:=by
 rw[show ((xs.length:Int)-1+1).toNat=xs.length by omega,List.drop_length];rfl
theorem Rj {xs:List ByteArray}{v:Int}(hl:(IK xs).length≤140737488355328)(h0:0≤v)(h1:v<(xs.length:Int)) :
  (IK (xs.drop (v+1).toNat)).length+(XM ByteArray.empty xs v).size≤140737488355328∧IK (xs.drop (v-1+1).toNat)=IK (xs.drop (v+1).toNat)++(XM ByteArray.empty xs v).data.toList:=by
 have e1:(v-1+1).toNat=v.toNat:=by omega
 have e2:(v+1).toNat=v.toNat+1:=by omega
 have hlt:v.toNat<xs.length:=by omega
 have e3:XM ByteArray.empty xs v=xs[v.toNat]:=by unfold XM;rw[List.getD_eq_getElem?_getD,List.getElem?_eq_getElem hlt];rfl
 have e4:IK (xs.drop v.toNat)=IK (xs.drop (v.toNat+1))++xs[v.toNat].data.toList:=by rw[List.drop_eq_getElem_cons hlt,JM]
 rw[e1,e2,e3];refine⟨?_,e4⟩;have h5:=Jt xs v.toNat;rw[e4,List.length_append]at h5;have h6:xs[v.toNat].data.toList.length=xs[v.toNat].size:=Array.length_toList
 omega
def kV.l0:Nat→List Int→List ByteArray→Option (ByteArray)
 | 0,_,_=>none
 | k+1,x0,x3=>if (x0.length:Int) > 0 then ((iY.f k x0 10000000000000000000).bind fun ae4=>((jE.f ae4.2 10).bind fun aaB=>(if (ae4.1.length:Int) > 0 then none else (if x3.length<8796093022208 then (kV.l0 k ae4.1 (x3 ++ [aaB])) else (none))))) else (if (x3.length:Int)=0 then none else (if (IK x3).length≤140737488355328 then (some (ayy x3)) else none))
def kV.f (k:Nat)(l0:List Int):Option (ByteArray):=(bG.f k l0).bind fun afB=>(kV.l0 k afB ([]:List ByteArray))
theorem kV.calls (k:Nat)(A0:Option Addr)(c0:Nat)(l0:List Int)(r:ByteArray)(w:World)(hr0:Kd.C (Kd.int .u64) w A0 l0.length l0)(hc0:l0.length≤c0)(h:kV.f k l0=some r)(htab:Fx.Laid w:=by exact Fx.Laid.below HTAB.out (zB HB)) :
  Calls Tryz.prog 50 #[.slice A0 l0.length c0] w fun e w'=>e=.returned (.string r)∧Below w.heap.size w w':=by
 have HTAB:=am htab;clear htab;have HR0:=am hr0;have HC0:=am hc0;clear hr0 hc0;have HB:=am (Below.refl w.heap.size w);have H:((bG.f k l0).bind fun afB=>(kV.l0 k afB ([]:List ByteArray)))=some r:=h;clear h;replace H:=Option.bind_eq_some_iff.mp H;obtain⟨afB,A20,H⟩:=H;replace H:(kV.l0 k afB ([]:List ByteArray))=some r:=H;have A2:=am A20;clear A20;have H':=am H;clear H
 go_enter Tryz.func50,Tryz.ntmps50
 go_wp2_with (first|((with_reducible refine af (f:=103) rfl ?_);refine zc (some 9) Tryz.func103 #[.slice A0 l0.length c0] (bG.calls _ (fun k_=>k_<w.heap.size) _ _ _ _ _ (Kd.IL HC0.out (Kd.ou (Kd.C_F (Kd.pg .u64) HR0.out) (zB HB))) A2.out) ?_;rintro e w3 ⟨aL1,rfl,ho0,hb⟩;refine⟨_,rfl,?_⟩;have atV:=am (Kd.dV (Kd.cO (ok':=fun k_=>True) ho0 (fun k_ hk_=>trivial)) (zS HB));replace HB:=zBs HB hb;clear hb ho0))
 go_loopg [0,3] k (fun kq v0 v3 w' => ∃ (mD:List Int) (iH:List ByteArray),ae (kV.l0 kq mD iH=some r)∧ae (kq≤k)∧ae (Kd.V (Kd.int .u64) 25 w' w.heap.size (fun k_=>some k_≠(v3:Value).ownBlock) v0 mD)∧ae (Kd.R Kd.string 9 w' w.heap.size (fun _=>True) v3 iH)∧ae (Below w.heap.size w w'))
 case atStart=>exact⟨(afB),(([]:List ByteArray)),H',zL,⟨by (with_reducible repeat (first|apply Kd.jJ|apply Kd.jK|apply Kd.jq));exact Kd.cO atV.out (fun _ hk=>(by simp[Value.ownBlock]))⟩,⟨zN⟩,⟨zB HB⟩⟩
 case round =>
  clear H';obtain⟨mD,iH,HA,HK1,kL,tC,HB⟩:=hrel
  cases gk with
  | zero=>exact absurd HA.out (by simp[kV.l0])
  | succ k1 =>
   have H:=HA.out;clear HA;simp only[kV.l0]at H
   by_cases c4:(mD.length:Int) > 0
   ·rw[if_pos c4]at H
    have jP:decide (0<(mD.length:Int))=true:=decide_eq_true c4;have sQ:decide (0<mD.length)=true:=decide_eq_true (by omega);clear c4;replace H:=Option.bind_eq_some_iff.mp H;obtain⟨⟨Zl,t222⟩,A50,H⟩:=H;replace H:((jE.f t222 10).bind fun aaB=>(if (Zl.length:Int) > 0 then none else (if iH.length<8796093022208 then (kV.l0 k1 Zl (iH ++ [aaB])) else (none))))=some r:=H;have A5:=am A50;clear A50;replace H:=Option.bind_eq_some_iff.mp H;obtain⟨aaB,A60,H⟩:=H;replace H:(if (Zl.length:Int) > 0 then none else (if iH.length<8796093022208 then (kV.l0 k1 Zl (iH ++ [aaB])) else (none)))=some r:=H;have A6:=am A60;clear A60
    by_cases c7:(Zl.length:Int) > 0
    ·rw[if_pos c7]at H
     exact absurd H (by simp)
    ·rw[if_neg c7]at H
     have wz:decide (0<(Zl.length:Int))=false:=decide_eq_false c7;have Bi:decide (0<Zl.length)=false:=decide_eq_false (by omega);clear c7
     by_cases c17:iH.length<8796093022208
     ·rw[if_pos c17]at H
      have atW:=am c17;clear c17
      obtain⟨ayd,Wp⟩:∃ y_:List ByteArray,y_=(iH ++ [aaB]):=⟨_,rfl⟩
      replace H:(kV.l0 k1 Zl ayd)=some r:=by first|(rw[Wp];with_reducible exact H)|(have H2_:=(Option.bind_some _ _).symm.trans H;rw[Wp];with_reducible exact H2_)|(have H2_:=(Option.bind_some _ _).symm.trans H;with_reducible exact H2_)|with_reducible exact H|(rw[Wp];exact H)|exact H
      have atX:=am Wp;clear Wp;have H':=am H;clear H;obtain⟨JY,rZ,LW⟩:=Kd.fJ kL.out;subst LW
      go_wp2_with (first|((with_reducible refine af (f:=105) rfl ?_);refine zc (some 15) Tryz.func105 #[.slice JY mD.length rZ,.int .u64 10000000000000000000] (iY.calls _ _ _ _ _ _ _ _ (zC ((Kd.bf kL.out).2.2)) ((Kd.bf kL.out).2.1) A5.out) ?_;rintro e w19 ⟨aL2,rfl,ho0,hb⟩;refine⟨_,rfl,?_⟩;replace kL:=zVb kL hb;have QB:=am (Kd.dV (Kd.cO (ok':=fun k_=>some k_≠(u3:Value).ownBlock) ho0 (fun k_ hk_=>(Kd.fresh' (Kd.ql (zR tC)) k_ hk_))) (zS HB));replace tC:=zRb tC hb;replace HB:=zBs HB hb;clear hb ho0)|((with_reducible refine af (f:=106) rfl ?_);refine zc (some 19) Tryz.func106 _ (jE.calls _ _ _ _ A6.out) ?_;rintro e w20 ⟨rfl,hb⟩;refine⟨_,rfl,?_⟩;replace kL:=zVb kL hb;replace tC:=zRb tC hb;replace QB:=zVb QB hb;replace HB:=zBs HB hb;clear hb;obtain⟨Cb,zJ,ajf⟩:=Kd.fJ QB.out;subst ajf)|((with_reducible refine eG (b := .append) (xs:=#[.tmp 29,.tmp 31]) rfl ?_);at_builtin;refine Kd.kU Kd.string (w0:=w) w.heap.size rfl (.tmp 29) (.tmp 31) 160 9 (.string ⟨#[]⟩) 16 rfl Tryz.underlying160 aaE rfl (by decide) (by omega) u3 iH aaB [.string aaB] (fun _=>True) (fun _=>False) rfl rfl ?aP (fun _ hk=>hk.elim) ?aF ?aO ?aB ?aS ?aL ?_;(case aP=>exact rfl);(case aB=>exact (zB HB));(case aF=>exact (fun _ _=>trivial));(case aO=>exact (zR tC));(case aS=>exact (zS HB));(case aL=>have:=atW.out;omega);intro v229 w22 ho hb hg hat;rw[← atX.out]at ho;replace kL:=am (Kd.jr (ok:=(fun _=>True)) (by (with_reducible repeat (first|apply Kd.jJ|apply Kd.jK|apply Kd.jq));exact Kd.cO kL.out (fun _ hk=>⟨trivial,hk⟩)) hg hat);replace QB:=am (Kd.jr (ok:=(fun _=>True)) (by (with_reducible repeat (first|apply Kd.jJ|apply Kd.jK|apply Kd.jq));exact Kd.cO QB.out (fun _ hk=>⟨trivial,hk⟩)) hg hat);replace HB:=am (hb);have atY:=am (ho);clear tC ho hb hg hat))
      go_roundg k1
      case measure=>have:=HK1.out;omega
      case rel=>exact⟨(Zl),(ayd),H',(zH HK1),⟨by (with_reducible repeat (first|apply Kd.jJ|apply Kd.jK|apply Kd.jq));exact Kd.cO QB.out (fun _ hk=>hk.2)⟩,⟨zR atY⟩,⟨zB HB⟩⟩
     ·rw[if_neg c17]at H
      exact absurd H (by simp)
   ·rw[if_neg c4]at H
    have jP:decide (0<(mD.length:Int))=false:=decide_eq_false c4;have sQ:decide (0<mD.length)=false:=decide_eq_false (by omega);clear c4
    by_cases c23:(iH.length:Int)=0
    ·rw[if_pos c23]at H
     exact absurd H (by simp)
    ·rw[if_neg c23]at H
     have LP:((iH.length:Int) == 0)=false:=beq_eq_false_iff_ne.mpr c23;have ahT:((iH.length:Int) != 0)=true:=bne_iff_ne.mpr c23;have akV:¬ (iH=[]):=fun h_=>c23 (by rw[h_];rfl)
     by_cases c24:(IK iH).length≤140737488355328
     case neg=>rw[if_neg c24]at H;exact absurd H (by simp)
     rw[if_pos c24]at H;obtain rfl:=Option.some.inj H;obtain⟨avt,afe,aff⟩:=Kd.fJ kL.out;subst aff;obtain⟨avu,avv,aoO⟩:=Kd.dZ tC.out;subst aoO
     obtain⟨W0,rfl⟩:∃ W0,W0=wr:=⟨_,rfl⟩
     have HPC:=am (Kd.aA tC.out).2.2
     have hpos:1≤iH.length:=by omega
     have hmax:iH.length≤9223372036854775807:=OZ HPC.out;have HCL:=am c24;have HNE:=am akV;have HBN:=am (KY W0);have HBW:=am (Below.alloc (Below.refl W0.heap.size W0) (Nat.le_refl _) (.cells #[.pointer none,.slice none 0 0] 111));clear c24 H c23 akV
     go_wp2
     go_loopw [7] (fun i w' => ∃ (v:Int), -1≤v∧v<(iH.length:Int)∧i=.int .i64 v∧ae (Lib.IsBuilderF 111 5 W0.heap.size W0.heap.size (Lib.byteCells (IK (iH.drop (v+1).toNat))) w')∧ae (Below W0.heap.size W0 w')) (fun i _=>(intOf i+1).toNat)
     case atStart=>exact⟨(iH.length:Int)-1,by omega,by omega,(by first|rfl|(rw[text_wrap hpos hmax])),⟨by rw[Xk];exact HBN.out⟩,⟨HBW.out⟩⟩
     case round =>
      obtain⟨v,hv0,hv1,rfl,HBJ,HWJ⟩:=hrel;clear HBN HBW
      by_cases h0:0≤v
      ·have hd:decide (0≤v)=true:=decide_eq_true h0
       have hp:=eq_true h0;have hq:=eq_true hv1;obtain⟨ad,e,hx⟩:=Kd.Su (Kd.jZ HPC.out HWJ.out) v h0 hv1
       cases e
       have HS:=am (Rj HCL.out h0 hv1);have HSZ:=am HWJ.out.size
       go_wp2_with (go_at_call 68;refine (Gv W0.heap.size W0.heap.size (IK (iH.drop (v+1).toNat)) _ _ HBJ.out HS.out.1 HSZ.out).mono ?_;rintro e w1 ⟨rfl,h1,h2⟩)
       go_roundw
       case rel=>exact⟨v-1,by omega,by omega,(by first|rfl|(rw[afC h0 hv1 hmax])),⟨by rw[HS.out.2];exact h1⟩,⟨HWJ.out.trans h2⟩⟩
       case measure=>simp[intOf];omega
      ·have hd:decide (0≤v)=false:=decide_eq_false h0
       have hz:v+1=0:=by omega
       have HZ:=am hz;have HSZ:=am HWJ.out.size;clear hz
       go_wp2_with (go_at_call 71;refine (Tryz.Builder_String_any_f W0.heap.size W0.heap.size (IK (iH.drop (v+1).toNat)) _ HBJ.out HSZ.out).mono ?_;rintro e w1 ⟨rfl,h1,h2⟩)
       go_ret
       exact⟨by rw[HZ.out];rfl,oJ HB.out (HWJ.out.trans h2)⟩
end Go.Proofs.Yy.PTx
end
section
set_option maxHeartbeats 8000000
set_option maxRecDepth 100000
namespace Go.Proofs.Yy.PTx
open Go.RowKit Go.Proofs.Yy.Z Go.Proofs.Yw.PrintWords Go.Proofs.Yw.PrintLast Go.Proofs.Yw.PrintMore
open Go.Proofs.Yy.M
attribute [local go_sem] dG dP kR kT kW kS
attribute [local go_sem] gI gG iP iR fF fG gW gV
def bI.f (k:Nat)(a0:Int)(a1:Int):Option (Bool × Bool × ByteArray × Int × Option Int):=(dS.f k a0 a1).bind fun BJ=>(if BJ.2.2.2.2.isNone=true then (if BJ.1=2 then (none) else (if BJ.1=0 then (none) else ((bits_TrailingZeros64.f BJ.2.2.2.1).bind fun KE=>(if 0≤KE then ((uk.f k (shr .u64 BJ.2.2.2.1 KE)).bind fun Wq=>(if (wrap64 ((wrap64 (BJ.2.2.1-63))+KE))≥0 then ((lY.f k Wq (wrap64 ((wrap64 (BJ.2.2.1-63))+KE))).bind fun akW=>(if akW.2.isNone=true then ((kV.f k akW.1).bind fun akX=>((lJ.f false BJ.2.1 akX 0).bind fun Ws=>(some (Ws.1,Ws.2.1,Ws.2.2.1,Ws.2.2.2.1,Ws.2.2.2.2)))) else (none))) else ((iI.f k (wrap64 (-(wrap64 ((wrap64 (BJ.2.2.1-63))+KE))))).bind fun akY=>(if akY.2.isNone=true then ((l7.f k (([Wq,akY.1]:List (List Int)))).bind fun atZ=>((eX.f k atZ (wrap64 (-(wrap64 ((wrap64 (BJ.2.2.1-63))+KE))))).bind fun akZ=>(if akZ.2.2.isNone=true then ((kV.f k akZ.1).bind fun ak0=>((lJ.f false BJ.2.1 ak0 (wrap64 ((wrap64 (BJ.2.2.1-63))+KE))).bind fun Wu=>(some (Wu.1,Wu.2.1,Wu.2.2.1,Wu.2.2.2.1,Wu.2.2.2.2)))) else (none)))) else (none))))) else (none))))) else (none))
def bI.T9:Bool × List (List Nat × List Nat):=(true,[([],[]),([0],[0]),([],[]),([1,2],[1,2]),([3],[3]),([],[]),([5],[5]),([6],[6]),([],[]),([7,8],[7,8]),([4,4,0,1,2,3,4],[4]),([9,10,0,1,2,3,4,5,6,7,8,9,10],[9])])
def bI.B9:List Nat := [0,1,0,7,15,0,32,96,0,480,31,2047]
theorem bI.agM:rG .any (opsOf Tryz.f16 9)=bI.T9:=by kernel_rfl
theorem bI.Rt:jb bI.T9.2 bI.B9=true:=by kernel_rfl
def bI.T14:Bool × List (List Nat × List Nat):=(true,[([],[]),([0],[0]),([],[]),([2],[2]),([1,3],[1,3]),([4,3],[4]),([5],[5]),([5],[5]),([6,5,0,1,2,3,4,5,6,7],[6]),([7,8,0,1,2,3,4,5,6,7,8],[7])])
def bI.B14:List Nat := [0,1,0,4,15,31,63,63,255,511]
theorem bI.abn:rG .any (opsOf Tryz.f16 14)=bI.T14:=by kernel_rfl
theorem bI.RZ:jb bI.T14.2 bI.B14=true:=by kernel_rfl
def bI.T21:Bool × List (List Nat × List Nat):=(true,[([],[]),([0],[0]),([],[]),([2],[2]),([],[]),([1,3,4],[1,3,4]),([5,3],[5]),([6],[6]),([6],[6]),([7,6,0,1,2,3,4,5,6,7,8],[7]),([8,9,0,1,2,3,4,5,6,7,8,9],[8])])
def bI.B21:List Nat := [0,1,0,4,0,31,63,127,127,511,1023]
theorem bI.amw:rG .any (opsOf Tryz.f16 21)=bI.T21:=by kernel_rfl
theorem bI.afL:jb bI.T21.2 bI.B21=true:=by kernel_rfl
theorem bI.calls (k:Nat)(a0:Int)(a1:Int)(r1:Bool)(r2:Bool)(r3:ByteArray)(r4:Int)(r5:Option Int)(w:World)(h:bI.f k a0 a1=some (r1,r2,r3,r4,r5))(htab:Fx.Laid w:=by exact Fx.Laid.below HTAB.out (by repeat (first|(with_reducible first|exact HB.out|apply bD|apply aK|apply aX|refine bQ ?_ (ae.out (by assumption)))|exact HB.out))) :
    Calls Tryz.prog 16 #[.int .i64 a0,.int .u64 a1] w fun e w'=>e=.returned (.tuple #[.agg #[.bool r1,.bool r2,.string r3,.int .i64 r4],rF r5])∧Below w.heap.size w w':=by
 have HTAB:=am htab;clear htab;have PS:=Tryz.underlying23;have alh:=Tryz.underlying77;have yB:=Tryz.underlying27;have hu64:=Tryz.underlying64;have HB:=am (Below.refl w.heap.size w);have H:=am h;unfold bI.f at H;clear h;replace H:=zo H;obtain⟨⟨WS,OO,OQ,QC,aL3⟩,A3,H⟩:=H
 try dsimp only at H
 replace H:=zIn H;obtain⟨rfl,H⟩:=H
 try simp only[au,ax]
 replace H:=zjk H;obtain⟨jP,sQ,c4,H⟩:=H;replace H:=zjk H;obtain⟨qg,xy,c5,H⟩:=H;replace H:=zo H;obtain⟨KE,A6,H⟩:=H;replace H:=zit H;obtain⟨wz,Bi,H⟩:=H;generalize uh:(shr .u64 QC KE:Int)=ji8 at H
 (try rw[uh]at A3)
 (try rw[uh]at A6)
 have Ux:(QC / 2 ^ min KE.toNat 64)=ji8:=uh;have Uy:KE≤64→(QC / 2 ^ KE.toNat)=ji8:=kE uh;replace H:=zo H;obtain⟨Wq,A9,H⟩:=H;replace H:=yH H;rcases H with⟨mr,H⟩|⟨mr,H⟩;replace H:=zo H;obtain⟨⟨aye,aL4⟩,A11,H⟩:=H
 try dsimp only at H
 replace H:=zIn H;obtain⟨rfl,H⟩:=H
 try simp only[au,ax]
 replace H:=zo H;obtain⟨akX,A12,H⟩:=H;replace H:=zo H;obtain⟨⟨ayf,ayg,ayh,ayi,aGk⟩,A13,H⟩:=H
 try dsimp only at H
 obtain⟨rfl,rfl,rfl,rfl,rfl⟩:=zJ5 H;rotate_left;replace H:=zo H;obtain⟨⟨ak1,aL5⟩,A32,H⟩:=H
 try dsimp only at H
 replace H:=zIn H;obtain⟨rfl,H⟩:=H
 try simp only[au,ax]
 generalize ak2:(([Wq,ak1]:List (List Int)):List (List Int))=aGl at H;have ak3:=zY ak2;clear ak2;replace H:=zo H;obtain⟨atZ,A33,H⟩:=H;replace H:=zo H;obtain⟨⟨ayj,aL6,aL7⟩,A34,H⟩:=H
 try dsimp only at H
 replace H:=zIn H;obtain⟨rfl,H⟩:=H
 try simp only[au,ax]
 replace H:=zo H;obtain⟨ak0,A35,H⟩:=H;replace H:=zo H;obtain⟨⟨ayk,ayl,aym,ayn,aGm⟩,A36,H⟩:=H
 try dsimp only at H
 obtain⟨rfl,rfl,rfl,rfl,rfl⟩:=zJ5 H;rotate_left
 all_goals (go_enter Tryz.func16,Tryz.ntmps16;try go_wp2_with (first|((with_reducible refine aI (N:=4) rfl ?_);refine zx 4 23 #[.bool false,.bool false,.string (⟨#[]⟩:ByteArray),.int .i64 0] ?_;intro qR hg w14 hbox hb;have iG:=am (hbox);have aGn:=zG hg HB;have aGo:=zG hg HB;replace HB:=zBs HB hb;clear hb hbox hg)|((with_reducible refine af (f:=42) rfl ?_);refine zc (some 15) Tryz.func42 _ (dS.calls _ _ _ _ _ _ _ _ _ A3.out) ?_;rintro e w15 ⟨rfl,hb⟩;refine⟨_,rfl,?_⟩;replace iG:=zKb iG hb;replace HB:=zBs HB hb;clear hb;(try simp only[au,ax]))|((with_reducible refine aI (N:=6) rfl ?_);refine zx 6 77 #[.int .i64 0,.bool false,.int .i64 0,.int .u64 0] ?_;intro nD hg w16 hbox hb;have gJ:=am (hbox);have aGp:=zG hg HB;have aGq:=zG hg HB;replace HB:=zBs HB hb;have pY:=zNl hg iG;have qc:=zNg hg iG;replace iG:=zKb iG hb;clear hb hbox hg;have aok:=qc.out;have aol:=pY.out;obtain⟨_,_,_,_,_,_,_,_⟩:=zf4 gJ)|((with_reducible refine af (f:=47) rfl ?_);refine zc (some 35) Tryz.func47 _ (bits_TrailingZeros64.calls _ _ _ A6.out) ?_;rintro e w19 ⟨rfl,hb⟩;refine⟨_,rfl,?_⟩;replace iG:=zKb iG hb;replace gJ:=am (dW (zKp gJ) hb);replace HB:=zBs HB hb;clear hb)))
 all_goals
  replace iG:=am (dX iG.out);replace gJ:=am (dX gJ.out);replace HB:=am (aX HB.out);refine lQ (n:=12) (S:=fun w'=>w'.cell? ⟨nD,0,none⟩=some (.int .i64 WS)∧w'.cell? ⟨nD,1,none⟩=some (.bool OO)∧w'.cell? ⟨nD,2,none⟩=some (.int .i64 OQ)∧w'.cell? ⟨nD,3,none⟩=some (.int .u64 QC)) (ds := []) (Array.replicate 12 false) (by kernel_rfl) rfl rfl ⟨(ag gJ.out 0).trans rfl,(ag gJ.out 1).trans rfl,(ag gJ.out 2).trans rfl,(ag gJ.out 3).trans rfl⟩ (fun hHeld=>?_);refine gU bI.agM bI.Rt (fun HT_ HW_=>?_)
 ·generalize w19.drew=w20 at iG gJ HB hHeld ⊢
  refine zp HT_ 0 (some 36) ?_;refine zp HT_ 2 (some 38) ?_;refine zp HT_ 5 (some 41) ?_;refine zp HT_ 8 (some 44) ?_;refine zt HT_ HW_ 1 (some 37) hHeld ?_;refine zp HT_ 3 (some 39) ?_;refine zt HT_ HW_ 6 (some 42) hHeld ?_;refine zp HT_ 7 (some 43) ?_;refine zp HT_ 9 (some 45) ?_;refine zu HT_ 4 (some 40) (fun K hK=>?_);refine o5 Tryz.func48 (by kernel_rfl) rfl #[.int .u64 ji8] (by rfl) rfl rfl (by (try simp only[List.map_toArray,List.map_cons,List.map_nil]);first|done|(simp only[uh];rfl)|rfl|(simp only[List.length_drop,List.length_take];rfl)) ?_
  with_reducible refine (uk.calls k ji8 Wq _ A9.out).mono ?_
  rintro e w21 ⟨aGr,rfl,ho0,hb⟩;refine⟨_,rfl,?_⟩;have oM:=am (Kd.dV (Kd.cO (ok':=fun k_=>k_≠qR∧k_≠nD) ho0 (fun k_ hk_=>⟨(Kd.kz (g:=qR) (o := .cells #[.bool false,.bool false,.string (⟨#[]⟩:ByteArray),.int .i64 0] 23 (0,0)) (zK iG) k_ hk_),(Kd.kz (g:=nD) (o := .cells #[.int .i64 WS,.bool OO,.int .i64 OQ,.int .u64 QC] 77 (0,0)) (zK gJ) k_ hk_)⟩)) (zS HB));replace iG:=zKb iG hb;replace gJ:=zKb gJ hb;replace HB:=zBs HB hb
  (try clear hb)
  (try clear hb2)
  (try clear hk)
  (try clear hi)
  (try clear ho0)
  refine hK.out _ _ ⟨(ag gJ.out 0).trans rfl,(ag gJ.out 1).trans rfl,(ag gJ.out 2).trans rfl,(ag gJ.out 3).trans rfl⟩ (fun hHeld=>?_);clear hK K;refine lI (a':=?_) ?_ ?_;rotate_left
  ·show Act.put _ (some 40) _=_
   simp only[Act.put,List.setIfInBounds_toArray,List.set_cons_zero,List.set_cons_succ,cu,fQ]
   rfl
  refine zp HT_ 10 (some 9) ?_;refine zp HT_ 11 (some 10) ?_;refine oU (iZ HT_.out (by kernel_rfl)) ?_;obtain⟨UZ,IR,YJ⟩:=Kd.fJ oM.out;subst YJ
  try go_wp2_with (first|((with_reducible refine af (f:=49) rfl ?_);refine zc (some 51) Tryz.func49 #[.slice UZ Wq.length IR,.int .i64 (wrap64 ((wrap64 (OQ-63))+KE))] (lY.calls _ (fun k_=>(k_≠qR∧k_≠nD)) _ _ _ _ _ _ _ oM.out A11.out) ?_;rintro e w23 ⟨aL8,rfl,ho0,hb⟩;refine⟨_,rfl,?_⟩;replace oM:=zVb oM hb;have Fb:=am (Kd.dV (Kd.cO (ok':=fun k_=>k_≠qR∧k_≠nD) ho0 (fun k_ hk_=>⟨Or.elim hk_ (fun hs_=>hs_.1) (fun hn_=>(Kd.kz (g:=qR) (o := .cells #[.bool false,.bool false,.string (⟨#[]⟩:ByteArray),.int .i64 0] 23 (0,0)) (zK iG) k_ hn_)),Or.elim hk_ (fun hs_=>hs_.2) (fun hn_=>(Kd.kz (g:=nD) (o := .cells #[.int .i64 WS,.bool OO,.int .i64 OQ,.int .u64 QC] 77 (0,0)) (zK gJ) k_ hn_))⟩)) (zS HB));replace iG:=zKb iG hb;replace gJ:=zKb gJ hb;replace HB:=zBs HB hb;clear hb ho0;(try simp only[au,ax])))
  replace oM:=am (Kd.jq oM.out);replace Fb:=am (Kd.jq Fb.out);replace iG:=am (dX iG.out);replace gJ:=am (dX gJ.out);replace HB:=am (aX HB.out);obtain⟨aGs,aoC,ah4⟩:=Kd.fJ Fb.out
  (first|subst ah4|(injection ah4 with f1_ f2_ f3_;have f4_:=f1_.symm;have f5_:=f3_.symm;clear f1_ f2_ f3_;subst f4_;subst f5_))
  refine lQ (n:=10) (S:=fun w'=>w'.cell? ⟨nD,0,none⟩=some (.int .i64 WS)∧w'.cell? ⟨nD,1,none⟩=some (.bool OO)∧w'.cell? ⟨nD,2,none⟩=some (.int .i64 OQ)∧w'.cell? ⟨nD,3,none⟩=some (.int .u64 QC)) (ds := []) (Array.replicate 10 false) (by kernel_rfl) rfl rfl ⟨(ag gJ.out 0).trans rfl,(ag gJ.out 1).trans rfl,(ag gJ.out 2).trans rfl,(ag gJ.out 3).trans rfl⟩ (fun hHeld=>?_);refine gU bI.abn bI.RZ (fun HT_ HW_=>?_);generalize w23.drew=w24 at oM Fb iG gJ HB hHeld ⊢;refine zp HT_ 0 (some 58) ?_;refine zp HT_ 2 (some 60) ?_;refine zt HT_ HW_ 1 (some 59) hHeld ?_;refine zu HT_ 3 (some 61) (fun K hK=>?_);refine o5 Tryz.func50 (by kernel_rfl) rfl #[.slice aGs aye.length aoC] (by rfl) rfl rfl (by (try simp only[List.map_toArray,List.map_cons,List.map_nil]);first|done|rfl|(simp only[List.length_drop,List.length_take];rfl)) ?_
  with_reducible refine (kV.calls k _ _ aye akX _ ?fE ?kN A12.out).mono ?_
  (case fE=>repeat (first|exact (Kd.bf Fb.out).2.2|(with_reducible refine Kd.lm ?_ _)|(with_reducible refine Kd.lg ?_ _)|(with_reducible refine Kd.nZ ?_)))
  (case kN=>exact (Kd.bf Fb.out).2.1)
  rintro e w26 ⟨rfl,hb⟩;refine⟨_,rfl,?_⟩;replace oM:=zVb oM hb;replace Fb:=zVb Fb hb;replace iG:=zKb iG hb;replace gJ:=zKb gJ hb;replace HB:=zBs HB hb
  (try clear hb)
  (try clear hb2)
  (try clear hk)
  (try clear hi)
  refine hK.out _ _ ⟨(ag gJ.out 0).trans rfl,(ag gJ.out 1).trans rfl,(ag gJ.out 2).trans rfl,(ag gJ.out 3).trans rfl⟩ (fun hHeld=>?_);clear hK K;refine lI (a':=?_) ?_ ?_;rotate_left
  ·show Act.put _ (some 61) _=_
   simp only[Act.put,List.setIfInBounds_toArray,List.set_cons_zero,List.set_cons_succ,cu,fQ]
   rfl
  refine zp HT_ 4 (some 62) ?_;refine zu HT_ 5 (some 63) (fun K hK=>?_);refine o5 Tryz.func26 (by kernel_rfl) rfl #[.agg #[.bool false,.bool OO,.string akX,.int .i64 0]] (by rfl) rfl rfl (by (try simp only[List.map_toArray,List.map_cons,List.map_nil]);first|done|rfl|(simp only[List.length_drop,List.length_take];rfl)) ?_
  with_reducible refine (lJ.calls false OO akX 0 ayf ayg ayh ayi aGk _ A13.out).mono ?_
  rintro e w27 ⟨rfl,hb⟩;refine⟨_,rfl,?_⟩;replace oM:=zVb oM hb;replace Fb:=zVb Fb hb;replace iG:=zKb iG hb;replace gJ:=zKb gJ hb;replace HB:=zBs HB hb
  (try clear hb)
  (try clear hb2)
  (try clear hk)
  (try clear hi)
  (try simp only[au,ax])
  refine hK.out _ _ ⟨(ag gJ.out 0).trans rfl,(ag gJ.out 1).trans rfl,(ag gJ.out 2).trans rfl,(ag gJ.out 3).trans rfl⟩ (fun hHeld=>?_);clear hK K;refine lI (a':=?_) ?_ ?_;rotate_left
  ·show Act.put _ (some 63) _=_
   simp only[Act.put,List.setIfInBounds_toArray,List.set_cons_zero,List.set_cons_succ,cu,fQ]
   rfl
  refine zp HT_ 6 (some 64) ?_;refine zp HT_ 7 (some 65) ?_;refine zu HT_ 8 none (fun K hK=>?_);have aBm:=zl iG 0;have apX:=aj iG.out 0;have adG:=qc.out;have adH:=pY.out;have aBn:=zl iG 1;have apY:=aj iG.out 1;have adI:=qc.out;have adJ:=pY.out;have aBo:=zl iG 2;have apZ:=aj iG.out 2;have adK:=qc.out;have adL:=pY.out;have aBp:=zl iG 3;have ap0:=aj iG.out 3;have adM:=qc.out;have adN:=pY.out;refine vW (w1:=?_) (by rfl) rfl ?_ ?_;rotate_left
  ·go_simp
   rfl
  refine hK.out _ _ ⟨(zh hHeld),(zh hHeld),(zh hHeld),(zh hHeld)⟩ (fun hHeld=>?_);clear hK K;refine zp HT_ 9 (some 5) ?_;refine oU (iZ HT_.out (by kernel_rfl)) ?_
  try go_wp2
  refine bodyPost_ret (dY rfl _ _ qR 23 #[.bool ayf,.bool ayg,.string ayh,.int .i64 ayi] (0,0) _ rfl (zKp iG) Tryz.underlying23 rfl (by kernel_rfl)) rfl ?_;exact⟨by first|exact z3|(simp only[← uh];exact z3)|exact z2,zB HB⟩
 generalize w19.drew=w43 at iG gJ HB hHeld ⊢;refine zp HT_ 0 (some 36) ?_;refine zp HT_ 2 (some 38) ?_;refine zp HT_ 5 (some 41) ?_;refine zp HT_ 8 (some 44) ?_;refine zt HT_ HW_ 1 (some 37) hHeld ?_;refine zp HT_ 3 (some 39) ?_;refine zt HT_ HW_ 6 (some 42) hHeld ?_;refine zp HT_ 7 (some 43) ?_;refine zp HT_ 9 (some 45) ?_;refine zu HT_ 4 (some 40) (fun K hK=>?_);refine o5 Tryz.func48 (by kernel_rfl) rfl #[.int .u64 ji8] (by rfl) rfl rfl (by (try simp only[List.map_toArray,List.map_cons,List.map_nil]);first|done|(simp only[uh];rfl)|rfl|(simp only[List.length_drop,List.length_take];rfl)) ?_
 with_reducible refine (uk.calls k ji8 Wq _ A9.out).mono ?_
 rintro e w44 ⟨aGr,rfl,ho0,hb⟩;refine⟨_,rfl,?_⟩;have oM:=am (Kd.dV (Kd.cO (ok':=fun k_=>k_≠qR∧k_≠nD) ho0 (fun k_ hk_=>⟨(Kd.kz (g:=qR) (o := .cells #[.bool false,.bool false,.string (⟨#[]⟩:ByteArray),.int .i64 0] 23 (0,0)) (zK iG) k_ hk_),(Kd.kz (g:=nD) (o := .cells #[.int .i64 WS,.bool OO,.int .i64 OQ,.int .u64 QC] 77 (0,0)) (zK gJ) k_ hk_)⟩)) (zS HB));replace iG:=zKb iG hb;replace gJ:=zKb gJ hb;replace HB:=zBs HB hb
 (try clear hb)
 (try clear hb2)
 (try clear hk)
 (try clear hi)
 (try clear ho0)
 refine hK.out _ _ ⟨(ag gJ.out 0).trans rfl,(ag gJ.out 1).trans rfl,(ag gJ.out 2).trans rfl,(ag gJ.out 3).trans rfl⟩ (fun hHeld=>?_);clear hK K;refine lI (a':=?_) ?_ ?_;rotate_left
 ·show Act.put _ (some 40) _=_
  simp only[Act.put,List.setIfInBounds_toArray,List.set_cons_zero,List.set_cons_succ,cu,fQ]
  rfl
 refine zp HT_ 10 (some 9) ?_;refine zp HT_ 11 (some 10) ?_;refine oU (iZ HT_.out (by kernel_rfl)) ?_
 try go_wp2_with (first|((with_reducible refine af (f:=51) rfl ?_);refine zc (some 69) Tryz.func51 _ (iI.calls _ _ _ _ _ A32.out) ?_;rintro e w45 ⟨aL9,rfl,ho0,hb⟩;refine⟨_,rfl,?_⟩;replace oM:=zVb oM hb;have xB:=am (Kd.dV (Kd.cO (ok':=fun k_=>k_≠qR∧k_≠nD) ho0 (fun k_ hk_=>⟨(Kd.kz (g:=qR) (o := .cells #[.bool false,.bool false,.string (⟨#[]⟩:ByteArray),.int .i64 0] 23 (0,0)) (zK iG) k_ hk_),(Kd.kz (g:=nD) (o := .cells #[.int .i64 WS,.bool OO,.int .i64 OQ,.int .u64 QC] 77 (0,0)) (zK gJ) k_ hk_)⟩)) (zS HB));replace iG:=zKb iG hb;replace gJ:=zKb gJ hb;replace HB:=zBs HB hb;clear hb ho0;(try simp only[au,ax]);obtain⟨ayo,ayp,aGt⟩:=Kd.fJ oM.out;subst aGt;obtain⟨ayq,ayr,aGu⟩:=Kd.fJ xB.out;subst aGu)|((with_reducible refine aI (N:=79) rfl ?_);refine Kd.amD (Kd.slice 25 (Kd.int .u64)) _ 88 ?hg (N':=79) ?hd (xs:=([Wq,ak1]:List (List Int))) (inner := [.slice ayo Wq.length ayp,.slice ayq ak1.length ayr]) (ok:=(fun k_=>k_≠qR∧k_≠nD)) (okp:=(fun k_=>k_≠qR∧k_≠nD)) ?hr ?hp (fun _ hk=>hk) ((show ∀ k_,w45.heap.size≤k_→(fun k_=>k_≠qR∧k_≠nD) k_ from fun k_ hk=>⟨Kd.kz (g:=qR) (o := .cells #[.bool false,.bool false,.string (⟨#[]⟩:ByteArray),.int .i64 0] 23 (0,0)) (zK iG) k_ hk,Kd.kz (g:=nD) (o := .cells #[.int .i64 WS,.bool OO,.int .i64 OQ,.int .u64 QC] 77 (0,0)) (zK gJ) k_ hk⟩) _ (Nat.le_refl _)) (Below.refl _ _) (Nat.le_refl _) (by simp) ?_;(case hd=>rfl);(case hg=>rfl);(case hr=>first|(go_simp;done)|(go_simp;rfl));(case hp=>exact (jW.one (show Kd.FK (Kd.slice 25 (Kd.int .u64)) _ _ Wq [.slice ayo Wq.length ayp] from (Kd.uC (Kd.bf (Kd.cO (ok':=(fun k_=>k_≠qR∧k_≠nD)) (oM.out) (fun k_ hk=>⟨hk.1,hk.2⟩))).2.1 (Kd.V_F (Kd.cO (ok':=(fun k_=>k_≠qR∧k_≠nD)) (oM.out) (fun k_ hk=>⟨hk.1,hk.2⟩))))) (jW.one (show Kd.FK (Kd.slice 25 (Kd.int .u64)) _ _ ak1 [.slice ayq ak1.length ayr] from (Kd.uC (Kd.bf (Kd.cO (ok':=(fun k_=>k_≠qR∧k_≠nD)) (xB.out) (fun k_ hk=>⟨hk.1,hk.2⟩))).2.1 (Kd.V_F (Kd.cO (ok':=(fun k_=>k_≠qR∧k_≠nD)) (xB.out) (fun k_ hk=>⟨hk.1,hk.2⟩))))) (jW.none _ _))));intro aMa w48 ae5 hb hg_ ku;clear hg_ ku;(first|rw[← ak3.out]at ae5|(simp only[Int.reduceToNat]at ae5;rw[← ak3.out]at ae5));replace oM:=am (Kd.jG (zV oM) (Kd.Oh ae5) hb);replace xB:=am (Kd.jG (zV xB) (Kd.Oh ae5) hb);have AL:=am (Kd.Tq ae5 (zS HB));replace iG:=zKb iG hb;replace gJ:=zKb gJ hb;replace HB:=zBs HB hb;clear hb ae5;obtain⟨aGv,aGw,aGx⟩:=Kd.Lu AL.out;subst aGx)|((with_reducible refine af (f:=53) rfl ?_);refine zc (some 80) Tryz.func53 #[.slice aGv aGl.length aGw] (l7.calls _ (fun k_=>(k_≠qR∧k_≠nD)) _ _ _ _ _ (Kd.N_V (AL.out)) A33.out) ?_;rintro e w51 ⟨aMb,rfl,ho0,hb⟩;refine⟨_,rfl,?_⟩;replace oM:=zVb oM hb;replace xB:=zVb xB hb;replace AL:=am (Kd.uM (by (with_reducible repeat (first|apply Kd.Aj|apply Kd.Aa|apply Kd.CJ));exact AL.out) hb);have Ey:=am (Kd.dV (Kd.cO (ok':=fun k_=>k_≠qR∧k_≠nD) ho0 (fun k_ hk_=>⟨Or.elim hk_ (fun hs_=>hs_.1) (fun hn_=>(Kd.kz (g:=qR) (o := .cells #[.bool false,.bool false,.string (⟨#[]⟩:ByteArray),.int .i64 0] 23 (0,0)) (zK iG) k_ hn_)),Or.elim hk_ (fun hs_=>hs_.2) (fun hn_=>(Kd.kz (g:=nD) (o := .cells #[.int .i64 WS,.bool OO,.int .i64 OQ,.int .u64 QC] 77 (0,0)) (zK gJ) k_ hn_))⟩)) (zS HB));replace iG:=zKb iG hb;replace gJ:=zKb gJ hb;replace HB:=zBs HB hb;clear hb ho0;obtain⟨alY,alZ,atB⟩:=Kd.fJ Ey.out;subst atB)|((with_reducible refine af (f:=52) rfl ?_);refine zc (some 83) Tryz.func52 #[.slice alY atZ.length alZ,.int .i64 (wrap64 (-(wrap64 ((wrap64 (OQ-63))+KE))))] (eX.calls _ (fun k_=>(k_≠qR∧k_≠nD)) _ _ _ _ _ _ _ _ Ey.out A34.out) ?_;rintro e w53 ⟨aMc,rfl,ho0,hb⟩;refine⟨_,rfl,?_⟩;replace oM:=zVb oM hb;replace xB:=zVb xB hb;replace AL:=am (Kd.uM (by (with_reducible repeat (first|apply Kd.Aj|apply Kd.Aa|apply Kd.CJ));exact AL.out) hb);replace Ey:=zVb Ey hb;have Fe:=am (Kd.dV (Kd.cO (ok':=fun k_=>k_≠qR∧k_≠nD) ho0 (fun k_ hk_=>⟨Or.elim hk_ (fun hs_=>hs_.1) (fun hn_=>(Kd.kz (g:=qR) (o := .cells #[.bool false,.bool false,.string (⟨#[]⟩:ByteArray),.int .i64 0] 23 (0,0)) (zK iG) k_ hn_)),Or.elim hk_ (fun hs_=>hs_.2) (fun hn_=>(Kd.kz (g:=nD) (o := .cells #[.int .i64 WS,.bool OO,.int .i64 OQ,.int .u64 QC] 77 (0,0)) (zK gJ) k_ hn_))⟩)) (zS HB));replace iG:=zKb iG hb;replace gJ:=zKb gJ hb;replace HB:=zBs HB hb;clear hb ho0;(try simp only[au,ax])))
 replace oM:=am (Kd.jq oM.out);replace xB:=am (Kd.jq xB.out);replace AL:=am (Kd.CJ AL.out);replace Ey:=am (Kd.jq Ey.out);replace Fe:=am (Kd.jq Fe.out);replace iG:=am (dX iG.out);replace gJ:=am (dX gJ.out);replace HB:=am (aX HB.out);obtain⟨aGy,awv,ajo⟩:=Kd.fJ Fe.out
 (first|subst ajo|(injection ajo with f1_ f2_ f3_;have f4_:=f1_.symm;have f5_:=f3_.symm;clear f1_ f2_ f3_;subst f4_;subst f5_))
 refine lQ (n:=11) (S:=fun w'=>w'.cell? ⟨nD,0,none⟩=some (.int .i64 WS)∧w'.cell? ⟨nD,1,none⟩=some (.bool OO)∧w'.cell? ⟨nD,2,none⟩=some (.int .i64 OQ)∧w'.cell? ⟨nD,3,none⟩=some (.int .u64 QC)) (ds := []) (Array.replicate 11 false) (by kernel_rfl) rfl rfl ⟨(ag gJ.out 0).trans rfl,(ag gJ.out 1).trans rfl,(ag gJ.out 2).trans rfl,(ag gJ.out 3).trans rfl⟩ (fun hHeld=>?_);refine gU bI.amw bI.afL (fun HT_ HW_=>?_);generalize w53.drew=w54 at oM xB AL Ey Fe iG gJ HB hHeld ⊢;refine zp HT_ 0 (some 91) ?_;refine zp HT_ 2 (some 93) ?_;refine zp HT_ 4 (some 95) ?_;refine zt HT_ HW_ 1 (some 92) hHeld ?_;refine zu HT_ 3 (some 94) (fun K hK=>?_);refine o5 Tryz.func50 (by kernel_rfl) rfl #[.slice aGy ayj.length awv] (by rfl) rfl rfl (by (try simp only[List.map_toArray,List.map_cons,List.map_nil]);first|done|rfl|(simp only[List.length_drop,List.length_take];rfl)) ?_
 with_reducible refine (kV.calls k _ _ ayj ak0 _ ?fE ?kN A35.out).mono ?_
 (case fE=>repeat (first|exact (Kd.bf Fe.out).2.2|(with_reducible refine Kd.lm ?_ _)|(with_reducible refine Kd.lg ?_ _)|(with_reducible refine Kd.nZ ?_)))
 (case kN=>exact (Kd.bf Fe.out).2.1)
 rintro e w56 ⟨rfl,hb⟩;refine⟨_,rfl,?_⟩;replace oM:=zVb oM hb;replace xB:=zVb xB hb;replace AL:=am (Kd.uM (by (with_reducible repeat (first|apply Kd.Aj|apply Kd.Aa|apply Kd.CJ));exact AL.out) hb);replace Ey:=zVb Ey hb;replace Fe:=zVb Fe hb;replace iG:=zKb iG hb;replace gJ:=zKb gJ hb;replace HB:=zBs HB hb
 (try clear hb)
 (try clear hb2)
 (try clear hk)
 (try clear hi)
 refine hK.out _ _ ⟨(ag gJ.out 0).trans rfl,(ag gJ.out 1).trans rfl,(ag gJ.out 2).trans rfl,(ag gJ.out 3).trans rfl⟩ (fun hHeld=>?_);clear hK K;refine lI (a':=?_) ?_ ?_;rotate_left
 ·show Act.put _ (some 94) _=_
  simp only[Act.put,List.setIfInBounds_toArray,List.set_cons_zero,List.set_cons_succ,cu,fQ]
  rfl
 refine zp HT_ 5 (some 96) ?_;refine zu HT_ 6 (some 97) (fun K hK=>?_);refine o5 Tryz.func26 (by kernel_rfl) rfl #[.agg #[.bool false,.bool OO,.string ak0,.int .i64 (wrap64 ((wrap64 (OQ-63))+KE))]] (by rfl) rfl rfl (by (try simp only[List.map_toArray,List.map_cons,List.map_nil]);first|done|rfl|(simp only[List.length_drop,List.length_take];rfl)) ?_
 with_reducible refine (lJ.calls false OO ak0 (wrap64 ((wrap64 (OQ-63))+KE)) ayk ayl aym ayn aGm _ A36.out).mono ?_
 rintro e w57 ⟨rfl,hb⟩;refine⟨_,rfl,?_⟩;replace oM:=zVb oM hb;replace xB:=zVb xB hb;replace AL:=am (Kd.uM (by (with_reducible repeat (first|apply Kd.Aj|apply Kd.Aa|apply Kd.CJ));exact AL.out) hb);replace Ey:=zVb Ey hb;replace Fe:=zVb Fe hb;replace iG:=zKb iG hb;replace gJ:=zKb gJ hb;replace HB:=zBs HB hb
 (try clear hb)
 (try clear hb2)
 (try clear hk)
 (try clear hi)
 (try simp only[au,ax])
 refine hK.out _ _ ⟨(ag gJ.out 0).trans rfl,(ag gJ.out 1).trans rfl,(ag gJ.out 2).trans rfl,(ag gJ.out 3).trans rfl⟩ (fun hHeld=>?_);clear hK K;refine lI (a':=?_) ?_ ?_;rotate_left
 ·show Act.put _ (some 97) _=_
  simp only[Act.put,List.setIfInBounds_toArray,List.set_cons_zero,List.set_cons_succ,cu,fQ]
  rfl
 refine zp HT_ 7 (some 98) ?_;refine zp HT_ 8 (some 99) ?_;refine zu HT_ 9 none (fun K hK=>?_);have aMd:=zl iG 0;have aGz:=aj iG.out 0;have at1:=qc.out;have at6:=pY.out;have aMe:=zl iG 1;have aGA:=aj iG.out 1;have at7:=qc.out;have aua:=pY.out;have aMf:=zl iG 2;have aGB:=aj iG.out 2;have aub:=qc.out;have auc:=pY.out;have aF6:=zl iG 3;have atK:=aj iG.out 3;have aud:=qc.out;have aue:=pY.out;refine vW (w1:=?_) (by rfl) rfl ?_ ?_;rotate_left
 ·go_simp
  rfl
 refine hK.out _ _ ⟨(zh hHeld),(zh hHeld),(zh hHeld),(zh hHeld)⟩ (fun hHeld=>?_);clear hK K;refine zp HT_ 10 (some 5) ?_;refine oU (iZ HT_.out (by kernel_rfl)) ?_
 try go_wp2
 refine bodyPost_ret (dY rfl _ _ qR 23 #[.bool ayk,.bool ayl,.string aym,.int .i64 ayn] (0,0) _ rfl (zKp iG) Tryz.underlying23 rfl (by kernel_rfl)) rfl ?_;exact⟨by first|exact z3|(simp only[← uh];exact z3)|exact z2,zB HB⟩
end Go.Proofs.Yy.PTx
end
section
set_option maxHeartbeats 16000000
set_option maxRecDepth 200000
namespace Go.Proofs.Yy.PTx
open Go.RowKit Go.Proofs.Yw.PrintWords Go.Proofs.Yw.PrintLast Go.Proofs.Yw.PrintMore Go.Proofs.Yy.SC
theorem XL (d N:D)(w:World)(hl0:Fx.Laid w)(h0:∀ W,Calls Tryz.prog 26 #[.agg #[.bool d.nar,.bool d.neg,.string (mkB d.ds),.int .i64 d.e]] W fun e w'=>e=.returned (.tuple #[.agg #[.bool N.nar,.bool N.neg,.string (mkB N.ds),.int .i64 N.e],.nilIface])∧Below W.heap.size W w')
  (hn:N.nar=false) (hneg:N.neg=false) (hl1:N.ds.length≤4096) (he1 : -1000000≤N.e) (he2:N.e≤1000000) (a:Int) (ha:a=(N.ds.length:Int)+N.e) (hc:(0≤N.e∧a≤21)∨(N.e<0∧a < -5∧1<N.ds.length)) :
  Calls Tryz.prog 30 #[.agg #[.bool d.nar,.bool d.neg,.string (mkB d.ds),.int .i64 d.e]] w fun e w'=>ZU N w e w':=by
 have HD:=am (show WA w.heap.size d (w.alloc (.cells #[.bool d.nar,.bool d.neg,.string (mkB d.ds),.int .i64 d.e] 23)) from heap_alloc_new w _);have hsz:=bH N.ds
 have haw:wrap64 (((mkB N.ds).size:Int)+N.e)=a:=by rw[hsz, ← ha];exact ja (by omega) (by omega)
 have aMg:IntKind.i64.wrap (((mkB N.ds).size:Int)+N.e)=a:=(cu _).trans haw;have HL0:=am hl0;have HLN:=am hl1;have HSZ:=am hsz;have HN:=am hn;have HNEG:=am hneg;rcases hc with⟨h1,h2⟩|⟨h1,h2,h9⟩;have q1:decide (0≤N.e)=true:=decide_eq_true h1;have q2:decide (a≤21)=true:=decide_eq_true h2
 have HX0:ae (0≤N.e):=⟨h1⟩
 have HX1:ae (N.e≤1000):=⟨by omega⟩
 have HX:ae (N.e.toNat≤1000):=⟨by omega⟩
 have HTK:=HX;have HDR:=HX;have HXS:=HX;have HYS:=HX
 have HTX:ae (Pn N=(N.ds++List.replicate N.e.toNat 48)):=⟨by
  unfold Pn;rw[if_neg (by rw[hn];decide),hneg];simp only[← ha,Bool.false_eq_true,if_false]
  rw[if_pos ⟨h1,h2⟩];rfl⟩
 rotate_left;have q1:decide (0≤N.e)=false:=decide_eq_false (by omega);have q3:decide (1≤a)=false:=decide_eq_false (by omega);have q4:decide (-5≤a)=false:=decide_eq_false (by omega);have q8:decide ((1:Int)<((mkB N.ds).size:Int))=true:=decide_eq_true (by rw[hsz];omega);have q9:decide (1<(mkB N.ds).size)=true:=decide_eq_true (by rw[hsz];omega);have hw1:wrap64 (a-1)=a-1:=ja (by omega) (by omega);have hw2:IntKind.i64.wrap (a-1)=a-1:=(cu _).trans hw1
 have HX0:ae (-9223372036854775808≤a-1):=⟨by omega⟩
 have HX1:ae (a-1≤9223372036854775807):=⟨by omega⟩
 have HX:ae ((Lib.itoa (a-1)).length≤140000000000):=⟨O5 _ (by omega)⟩
 have p2:=eq_true (show (1:Int)≤((mkB N.ds).size:Int) by rw[hsz];omega);have p3:=eq_true (show (1:Nat)≤(mkB N.ds).size by rw[hsz];omega)
 have HTK:ae ((mkB N.ds).extract 0 1=mkB (N.ds.take 1)):=⟨BR _ _ (by omega)⟩
 have HDR:ae ((mkB N.ds).extract 1 (mkB N.ds).size=mkB (N.ds.drop 1)):=⟨BP _ _⟩
 obtain⟨X,hX⟩:∃ X,(mkB N.ds).extract 0 1=X:=⟨_,rfl⟩
 obtain⟨Y,hY⟩:∃ Y,(mkB N.ds).extract 1 (mkB N.ds).size=Y:=⟨_,rfl⟩
 have HXS:ae (X.size≤(mkB N.ds).size):=⟨by rw[← hX];exact Zy _ _ _⟩
 have HYS:ae (Y.size≤(mkB N.ds).size):=⟨by rw[← hY];exact Zy _ _ _⟩
 rw[hX]at HTK;rw[hY]at HDR;have y1:(9223372036854775807<1+Y.size)=False:=eq_false (by have hq:=HLN.out;have hq2:=HSZ.out;have hq3:=HXS.out;have hq4:=HYS.out;have hq7:=HX.out;have hq8:(⟨#[46]⟩:ByteArray).size=1:=rfl;have hq9:(⟨#[48,46]⟩:ByteArray).size=2:=rfl;have hq0:(⟨#[101]⟩:ByteArray).size=1:=rfl;omega);have y2:(9223372036854775807<1+(mkB (Lib.itoa (a-1))).size)=False:=eq_false (by have hq:=HLN.out;have hq2:=HSZ.out;have hq3:=HXS.out;have hq4:=HYS.out;have hq7:=HX.out;have hq8:(⟨#[46]⟩:ByteArray).size=1:=rfl;have hq9:(⟨#[48,46]⟩:ByteArray).size=2:=rfl;have hq0:(⟨#[101]⟩:ByteArray).size=1:=rfl;rw[Ru];omega)
 have HTX:ae (Pn N=(N.ds.take 1++([46]++N.ds.drop 1) ++ [101]++Lib.itoa (a-1))):=⟨by
  unfold Pn;rw[if_neg (by rw[hn];decide),hneg];simp only[← ha,Bool.false_eq_true,if_false]
  rw[if_neg (by omega),if_neg (by omega),if_neg (by omega),if_pos h9];rfl⟩
 rotate_left
 all_goals
  rw[hn,hneg]at h0;clear hn hneg hl1 he1 he2 ha hsz hl0
  go_enter Tryz.func30,Tryz.ntmps30
  go_upto_region 9 with (go_at_call 26;refine (h0 _).mono ?_;rintro e w1 ⟨rfl,hb⟩;have hv1:=Ah HD.out hb (by simp);obtain⟨c0,c1,c2,c3,f0,f1,f2,f3,hlt⟩:=uu hv1;have ht0:=XY N hv1 (((Below.refl _ w).alloc (Nat.le_refl _) _).trans (hb.mono (by simp))) HL0.out;unfold chain at ht0;rw[HN.out,HNEG.out]at ht0;have HT:=am ht0;obtain⟨k0,k1,k2,k3,g0,g1,g2,g3,hlt2⟩:=uu HT.out.var;rw[HN.out]at k0;rw[HNEG.out]at k1;clear hb hv1 ht0)
  try (obtain⟨W,hW⟩:∃ W,W=((((w1.setCell ⟨w.heap.size,0,none⟩ (.bool false)).setCell ⟨w.heap.size,1,none⟩ (.bool false)).setCell ⟨w.heap.size,2,none⟩ (.string (mkB N.ds))).setCell ⟨w.heap.size,3,none⟩ (.int .i64 N.e)).alloc (.cells #[.pointer none,.slice none 0 0] 111):=⟨_,rfl⟩;rw[← hW]at HT k0 k1 k2 k3 g0 g1 g2 g3 hlt2 ⊢;clear hW)
  clear c0 c1 c2 c3 f0 f1 f2 f3
  go_wp2_with (first|(go_at_call 68;refine (Xl (tsH HT) HL0.out _ (by have hq:=HLN.out;have hq2:=HSZ.out;have hq3:=HXS.out;have hq4:=HYS.out;have hq7:=HX.out;have hq8:(⟨#[46]⟩:ByteArray).size=1:=rfl;have hq9:(⟨#[48,46]⟩:ByteArray).size=2:=rfl;have hq0:(⟨#[101]⟩:ByteArray).size=1:=rfl;simp only[List.length_append,List.length_nil,List.length_cons,ByteArray.size_append,X8,aaK,Ru];omega)).mono ?_;rintro e w3 ⟨rfl,ht⟩;have HT:=am ht;obtain⟨k0,k1,k2,k3,g0,g1,g2,g3,hlt2⟩:=uu HT.out.var;clear ht)|(go_at_call 69;refine (RP (tsH HT) _ HX0.out HX1.out).mono ?_;rintro e w4 ⟨rfl,ht⟩;have HT:=am ht;obtain⟨k0,k1,k2,k3,g0,g1,g2,g3,hlt2⟩:=uu HT.out.var;clear ht)|(go_at_call 70;refine (aa7 (tsH HT) _ HX0.out HX1.out).mono ?_;rintro e w4 ⟨rfl,ht⟩;have HT:=am ht;obtain⟨k0,k1,k2,k3,g0,g1,g2,g3,hlt2⟩:=uu HT.out.var;clear ht)|(go_at_call 71;refine (SX (tsH HT)).mono ?_;rintro e w5 ⟨rfl,hb5⟩;have HB5:=am hb5;clear hb5))
  go_ret2
  unfold ZU;rw[HTX.out];refine⟨?_,HB5.out⟩;refine congrArg (fun x=>Ending.returned (.tuple #[.string x,.nilIface])) ?_;have e46:(⟨#[46]⟩:ByteArray)=mkB [46]:=rfl;have aGC:(⟨#[101]⟩:ByteArray)=mkB [101]:=rfl;simp only[HTK.out,HDR.out,e46,aGC,rH,yZ,List.nil_append,List.append_assoc,List.cons_append,List.append_nil]
def qC.f (gy fU:Bool)(jC:ByteArray)(jB:Int):Option (ByteArray × Option Int) :=
 let N:=nrm ⟨gy,fU,jC.data.toList,jB⟩
 if formed ⟨gy,fU,jC.data.toList,jB⟩=true∧N.nar=false∧N.neg=false∧((0≤N.e∧(N.ds.length:Int)+N.e≤21)∨(N.e<0∧(N.ds.length:Int)+N.e < -5∧1<N.ds.length)) then some (mkB (Pn N),none) else none
theorem qC.calls (gy:Bool)(fU:Bool)(jC:ByteArray)(jB:Int)(r1:ByteArray)(r2:Option Int)(w:World)(h:qC.f gy fU jC jB=some (r1,r2))(htab:Fx.Laid w:=by exact Fx.Laid.below HTAB.out (by repeat (first|(with_reducible first|exact HB.out|apply bD|apply aK|apply aX|refine bQ ?_ (ae.out (by assumption)))|exact HB.out))) :
  Calls Tryz.prog 30 #[.agg #[.bool gy,.bool fU,.string jC,.int .i64 jB]] w fun e w'=>e=.returned (.tuple #[.string r1,rF r2])∧Below w.heap.size w w':=by
 unfold qC.f at h;simp only at h
 split at h
 case isFalse=>cases h
 rename_i hc
 obtain⟨hf,hn,hneg,hw⟩:=hc;simp only[Option.some.injEq,Prod.mk.injEq]at h;obtain⟨rfl,rfl⟩:=h;obtain⟨hl1,he1,he2⟩:=qX (tN (BK hf));exact XL ⟨gy,fU,jC.data.toList,jB⟩ _ w htab (TR _ hf) hn hneg hl1 he1 he2 _ rfl hw
end Go.Proofs.Yy.PTx
end
section
set_option maxHeartbeats 8000000
set_option maxRecDepth 100000
namespace Go.Proofs.Yy.PTx
open Go.RowKit Go.Proofs.Yy.Z Go.Proofs.Yw.PrintWords Go.Proofs.Yw.PrintLast Go.Proofs.Yw.PrintMore
open Go.Proofs.Yy.M
attribute [local go_sem] dG dP kR kT kW kS
attribute [local go_sem] gI gG iP iR fF fG gW gV
def uq.f (k:Nat)(a0:Int)(a1:Int):Option (ByteArray × Option Int):=(bI.f k a0 a1).bind fun Wv=>(if Wv.2.2.2.2.isNone=true then ((qC.f Wv.1 Wv.2.1 Wv.2.2.1 Wv.2.2.2.1).bind fun ak4=>(some (ak4.1,ak4.2))) else (none))
theorem uq.calls (k:Nat)(a0:Int)(a1:Int)(r1:ByteArray)(r2:Option Int)(w:World)(h:uq.f k a0 a1=some (r1,r2))(htab:Fx.Laid w:=by exact Fx.Laid.below HTAB.out (by repeat (first|(with_reducible first|exact HB.out|apply bD|apply aK|apply aX|refine bQ ?_ (ae.out (by assumption)))|exact HB.out))) :
    Calls Tryz.prog 17 #[.int .i64 a0,.int .u64 a1] w fun e w'=>e=.returned (.tuple #[.string r1,rF r2])∧Below w.heap.size w w':=by
 have HTAB:=am htab;clear htab;have PS:=Tryz.underlying23;have yB:=Tryz.underlying27;have hu64:=Tryz.underlying64;have HB:=am (Below.refl w.heap.size w);have H:=am h;unfold uq.f at H;clear h;replace H:=zo H;obtain⟨⟨aMh,aMi,aMj,aMk,aMl⟩,A3,H⟩:=H
 try dsimp only at H
 replace H:=zIn H;obtain⟨rfl,H⟩:=H
 try simp only[au,ax]
 replace H:=zo H;obtain⟨⟨aMm,aMn⟩,A4,H⟩:=H
 try dsimp only at H
 obtain⟨rfl,rfl⟩:=zJ2 H
 go_enter Tryz.func17,Tryz.ntmps17
 go_wp2_with (first|((with_reducible refine af (f:=16) rfl ?_);refine zc (some 11) Tryz.func16 _ (bI.calls _ _ _ _ _ _ _ _ _ A3.out) ?_;rintro e w5 ⟨rfl,hb⟩;refine⟨_,rfl,?_⟩;replace HB:=zBs HB hb;clear hb;(try simp only[au,ax]))|((with_reducible refine aI (N:=6) rfl ?_);refine zx 6 23 #[.bool false,.bool false,.string (⟨#[]⟩:ByteArray),.int .i64 0] ?_;intro aGD hg w6 hbox hb;have ae6:=am (hbox);have aGE:=zG hg HB;have aGF:=zG hg HB;replace HB:=zBs HB hb;clear hb hbox hg;obtain⟨_,_,_,_,_,_,_,_⟩:=zf4 ae6)|((with_reducible refine af (f:=30) rfl ?_);refine zc (some 18) Tryz.func30 _ (qC.calls _ _ _ _ _ _ _ A4.out) ?_;rintro e w8 ⟨rfl,hb⟩;refine⟨_,rfl,?_⟩;replace ae6:=am (dW (zKp ae6) hb);replace HB:=zBs HB hb;clear hb;(try simp only[au,ax])))
 go_ret2
 exact⟨z2,zB HB⟩
end Go.Proofs.Yy.PTx
end
section
namespace Go.Proofs.Yy.PTx
open Go.RowKit Go.Proofs.Yw.PrintWords Go.Proofs.Yw.PrintLast Go.Proofs.Yw.PrintMore
def ut.f (k:Nat)(a0 a1:Int):Option (ByteArray × Option Int) :=
 (bI.f k a0 a1).bind fun v =>
 (rD.f v.1 v.2.1 (v.2.2.1.extract 0 1) (wrap64 (wrap64 (v.2.2.2.1+v.2.2.1.size)-(1:Nat)))).bind fun h =>
 (o9.f k a0 v.1 v.2.1 (v.2.2.1.extract 0 1) (wrap64 (wrap64 (v.2.2.2.1+v.2.2.1.size)-(1:Nat)))).bind fun a =>
 (o9.f k a0 h.1 h.2.1 h.2.2.1 h.2.2.2).bind fun b =>
 if v.2.2.2.2=none∧8≤a0∧a0≤64∧v.1=false∧(v.2.2.1.toList == [48])=false∧1<v.2.2.1.size∧a=(shr .u64 (shl .u64 a1 (64-a0)) (64-a0),none)∧b=(shr .u64 (shl .u64 a1 (64-a0)) (64-a0),none)∧decide ((⟨#[53]⟩:ByteArray).data.toList<(v.2.2.1.extract 1 v.2.2.1.size).data.toList)=true
 then qC.f h.1 h.2.1 h.2.2.1 h.2.2.2 else none
theorem AZ:∀ (x y:List UInt8),Op.bytesLess x y=decide (x<y)
 | [],[]=>by simp[Op.bytesLess]
 | _::_,[]=>by simp[Op.bytesLess]
 | [],_::_=>by simp[Op.bytesLess]
 | a::x,b::y=>by
  rw[Op.bytesLess,AZ x y];simp only[List.cons_lt_cons_iff]
  by_cases h1:a<b <;> by_cases h2:a=b <;> by_cases h3:x<y <;> simp[h1,h2,h3]
theorem aa5 (P:Program)(t:TypeId)(x y:ByteArray)(W:World):(binOp .gtr t (.string x) (.string y)).run P W=.ok (.bool (decide (y.data.toList<x.data.toList))) W:=by
 have h:(binOp .gtr t (.string x) (.string y)).run P W=.ok (.bool (!(Op.bytesLess x.toList y.toList || x.toList == y.toList))) W:=rfl;rw[h,AZ,Lib.toList_data,Lib.toList_data]
 congr 2
 by_cases h1:x.data.toList<y.data.toList
 ·have h2:¬ y.data.toList<x.data.toList:=List.lt_asymm h1
  simp[h1,h2]
 ·by_cases h3:x.data.toList=y.data.toList
  ·have h2:¬ y.data.toList<x.data.toList:=by rw[h3];exact List.lt_irrefl _
   simp[h2,h3]
  ·have h2:y.data.toList<x.data.toList:=by
    rcases List.le_iff_lt_or_eq.1 (show y.data.toList≤x.data.toList from h1) with h|h
    ·exact h
    ·exact absurd h.symm h3
   simp[h1,h2];exact fun e=>h3 (by rw[e])
set_option maxHeartbeats 4000000 in
set_option maxRecDepth 100000 in
theorem Ld (k:Nat)(n p:Int)(b0 b1:Bool)(l:ByteArray)(e own:Int)(h0 h1:Bool)(hl':ByteArray)(he:Int)(r1:ByteArray)(r2:Option Int)(w:World)(htab:Fx.Laid w)
  (hd:bI.f k n p=some (b0,b1,l,e,none)) (h8:8≤n) (h64:n≤64) (hb0:b0=false) (hl:(l.toList == [48])=false) (hown:own=shr .u64 (shl .u64 p (64-n)) (64-n))
  (j:Nat) (hj1:j=1) (hj:j<l.size) (q1_:rD.f b0 b1 (l.extract 0 j) (wrap64 (wrap64 (e+l.size)-j))=some (h0,h1,hl',he)) (q2_:o9.f k n b0 b1 (l.extract 0 j) (wrap64 (wrap64 (e+l.size)-j))=some (own,none)) (q3_:o9.f k n h0 h1 hl' he=some (own,none))
  (hhalf:decide ((⟨#[53]⟩:ByteArray).data.toList<(l.extract j l.size).data.toList)=true) (ht:qC.f h0 h1 hl' he=some (r1,r2)) :
  Calls Tryz.prog 20 #[.int .i64 n,.int .u64 p] w fun e' w'=>e'=.returned (.tuple #[.string r1,rF r2])∧Below w.heap.size w w':=by
 subst hb0;have hkD:∀ W:World,Fx.Laid W→Calls Tryz.prog 16 #[.int .i64 n,.int .u64 p] W fun e' w'=>e'=.returned (.tuple #[.agg #[.bool false,.bool b1,.string l,.int .i64 e],.nilIface])∧Below W.heap.size W w':=fun W hW=>bI.calls k n p _ _ _ _ _ W hd hW;have hkT:∀ W:World,Fx.Laid W→Calls Tryz.prog 30 #[.agg #[.bool h0,.bool h1,.string hl',.int .i64 he]] W fun e' w'=>e'=.returned (.tuple #[.string r1,rF r2])∧Below W.heap.size W w':=fun W hW=>qC.calls _ _ _ _ _ _ W ht hW;have HD:=Lib.hid hkD;have HT:=Lib.hid hkT;have HOWN:=Lib.hid hown;have HTAB:=Lib.hid htab;clear hkD hkT hd ht hown htab;generalize rF r2=v2 at HT ⊢
 have ho:IntKind.u64.wrap (p*2 ^ (64-n).toNat) / 2 ^ (64-n).toNat=own:=by
  have hm:min (64-n).toNat IntKind.u64.bits=(64-n).toNat:=by show min (64-n).toNat 64=_;omega
  rw[HOWN.out];unfold shr shl;rw[hm]
 go_enter Tryz.func20,Tryz.ntmps20
 go_wp2
 go_step3
 go_wp2_with (go_at_call 16;(with_reducible refine (HD.out _ HTAB.out).mono ?_);rintro e1 w1 ⟨rfl,hw1⟩)
 go_step3
 go_wp2
 go_loopw [10] (fun i w'=>i=.int .i64 j∧ae (w'.heap[w1.heap.size]? = some (.cells #[.bool false,.bool b1,.string l,.int .i64 e] 23 (0,0)))∧ae (w'.heap[w1.heap.size+1]? = some (.cells #[.bool false,.bool b1,.string l,.int .i64 e] 23 (0,0)))∧ae (Below w.heap.size w w')) (fun i _=>l.size-(intOf i).toNat)
 case atStart=>exact⟨by rw[hj1];rfl,⟨kG (uJ _ _) _⟩,⟨wZ (by simp)⟩,⟨bD (bD hw1 _) _⟩⟩
 case round =>
  obtain⟨rfl,K1,K2,HB⟩:=hrel;have q0:∀ i,wr.cell? ⟨w1.heap.size,i,none⟩=(_:Array Value)[i]?:=ag K1.out;have f0:∀ i,wr.frozen? ⟨w1.heap.size,i,none⟩=false:=aj K1.out;have q1:∀ i,wr.cell? ⟨w1.heap.size+1,i,none⟩=(_:Array Value)[i]?:=ag K2.out;have f1:∀ i,wr.frozen? ⟨w1.heap.size+1,i,none⟩=false:=aj K2.out
  have hsz:j≤1048576:=by omega
  replace hj1:1≤j:=by omega
  obtain⟨E,hE⟩:∃ E,wrap64 (wrap64 (e+l.size)-j)=E:=⟨_,rfl⟩
  rw[hE]at q1_ q2_
  have hEw:IntKind.i64.wrap (IntKind.i64.wrap (e+l.size)-j)=E:=by rw[cu,cu];exact hE
  obtain⟨lo,hlo⟩:∃ x,l.extract 0 j=x:=⟨_,rfl⟩
  obtain⟨re,hre⟩:∃ x,l.extract j l.size=x:=⟨_,rfl⟩
  rw[hlo]at q1_ q2_;rw[hre]at hhalf;have HA:Hid (∀ W:World,Calls Tryz.prog 56 #[.agg #[.bool false,.bool b1,.string lo,.int .i64 E]] W fun e' w'=>e'=.returned (.agg #[.bool h0,.bool h1,.string hl',.int .i64 he])∧Below W.heap.size W w'):=Lib.hid fun W=>rD.calls _ _ _ _ _ _ _ _ W q1_;have HO:Hid (∀ W:World,Calls Tryz.prog 13 #[.int .i64 n,.agg #[.bool false,.bool b1,.string lo,.int .i64 E]] W fun e' w'=>e'=.returned (.tuple #[.int .u64 own,.nilIface])∧Below W.heap.size W w'):=Lib.hid fun W=>o9.calls k _ _ _ _ _ _ _ W q2_;have HP:Hid (∀ W:World,Calls Tryz.prog 13 #[.int .i64 n,.agg #[.bool h0,.bool h1,.string hl',.int .i64 he]] W fun e' w'=>e'=.returned (.tuple #[.int .u64 own,.nilIface])∧Below W.heap.size W w'):=Lib.hid fun W=>o9.calls k _ _ _ _ _ _ _ W q3_;have HE:=Lib.hid hE;clear q1_ q2_ q3_ hE;have hjl:((j:Int)<(l.size:Int))=True:=eq_true (by omega)
  have hGs:w1.heap.size+2≤wr.heap.size:=by
   have h:=AO K2.out
   omega
  obtain⟨G,hG⟩:∃ G,wr.heap.size=G:=⟨_,rfl⟩
  have HGs:=Lib.hid (show w1.heap.size+2≤G by omega);have HGb:=Lib.hid (show w.heap.size≤G by have h:=wY HB.out;omega);have HG:=Lib.hid hG;clear hGs
  go_upto_region 11 with (fail)
  go_cut [11] (fun v11 wc=>v11=.pointer (some ⟨G,0,none⟩)∧ae (wc.heap[w1.heap.size]? = (some (.cells #[.bool false,.bool b1,.string l,.int .i64 e] 23 (0,0))))∧ae (wc.heap[w1.heap.size+1]? = (some (.cells #[.bool false,.bool b1,.string l,.int .i64 e] 23 (0,0))))∧ae (wc.heap[G]? = (some (.cells #[.bool false,.bool b1,.string l,.int .i64 e] 23 (0,0))))∧ae (Below w.heap.size w wc))
  case first =>
   go_wp2
   go_meet
   case rel=>exact⟨rfl,⟨kG K1.out _⟩,⟨kG K2.out _⟩,⟨wZ HG.out⟩,⟨bD HB.out _⟩⟩
  case rest =>
  clear q0 f0 q1 f1 K1 K2 HB hG HG;obtain⟨rfl,K1,K2,K3,HB⟩:=hcut
  rename_i wc
  have q1:∀ i,wc.cell? ⟨w1.heap.size,i,none⟩=(_:Array Value)[i]?:=ag K1.out;have f1:∀ i,wc.frozen? ⟨w1.heap.size,i,none⟩=false:=aj K1.out;have q2:∀ i,wc.cell? ⟨w1.heap.size+1,i,none⟩=(_:Array Value)[i]?:=ag K2.out;have f2:∀ i,wc.frozen? ⟨w1.heap.size+1,i,none⟩=false:=aj K2.out;have q3:∀ i,wc.cell? ⟨G,i,none⟩=(_:Array Value)[i]?:=ag K3.out;have f3:∀ i,wc.frozen? ⟨G,i,none⟩=false:=aj K3.out
  have hn1:w1.heap.size≠G:=by have:=HGs.out;omega
  have hn2:G≠w1.heap.size:=by omega
  go_upto_region 12 with (fail)
  go_cut [] (fun wc=>ae (wc.heap[w1.heap.size]? = (some (.cells #[.bool false,.bool b1,.string l,.int .i64 e] 23 (0,0))))∧ae (wc.heap[w1.heap.size+1]? = (some (.cells #[.bool false,.bool b1,.string l,.int .i64 e] 23 (0,0))))∧ae (wc.heap[G]? = (some (.cells #[.bool false,.bool b1,.string lo,.int .i64 E] 23 (0,0))))∧ae (Below w.heap.size w wc))
  case first =>
   go_region
   go_wp2
   go_meet
   case rel =>
    have hB:w1.heap.size+1≠G:=by have:=HGs.out;omega
    simp only[HE.out];exact⟨⟨dX (jy (jy K1.out hn1 _) hn1 _)⟩,⟨dX (jy (jy K2.out hB _) hB _)⟩,⟨(by apply dX;apply Eq.trans;(repeat (first|(with_reducible exact K3.out)|(with_reducible apply rY)));rfl)⟩,⟨aX (bQ (bQ HB.out HGb.out) HGb.out)⟩⟩
  case rest =>
  clear q1 f1 q2 f2 q3 f3 K1 K2 K3 HB hn1 hn2;obtain⟨K1,K2,K3,HB⟩:=hcut
  rename_i wc
  have q1:∀ i,wc.cell? ⟨w1.heap.size,i,none⟩=(_:Array Value)[i]?:=ag K1.out;have f1:∀ i,wc.frozen? ⟨w1.heap.size,i,none⟩=false:=aj K1.out;have q2:∀ i,wc.cell? ⟨w1.heap.size+1,i,none⟩=(_:Array Value)[i]?:=ag K2.out;have f2:∀ i,wc.frozen? ⟨w1.heap.size+1,i,none⟩=false:=aj K2.out;have q3:∀ i,wc.cell? ⟨G,i,none⟩=(_:Array Value)[i]?:=ag K3.out;have f3:∀ i,wc.frozen? ⟨G,i,none⟩=false:=aj K3.out
  go_upto_region 13 with (fail)
  go_cut [12] (fun v12 wc => ∃ H_:Nat,v12=.pointer (some ⟨H_,0,none⟩)∧ae (wc.heap[w1.heap.size]? = (some (.cells #[.bool false,.bool b1,.string l,.int .i64 e] 23 (0,0))))∧ae (wc.heap[w1.heap.size+1]? = (some (.cells #[.bool false,.bool b1,.string l,.int .i64 e] 23 (0,0))))∧ae (wc.heap[G]? = (some (.cells #[.bool false,.bool b1,.string lo,.int .i64 E] 23 (0,0))))∧ae (wc.heap[H_]? = (some (.cells #[.bool h0,.bool h1,.string hl',.int .i64 he] 23 (0,0))))∧ae (Below w.heap.size w wc))
  case first =>
   go_wp2_with (go_at_call 56;(with_reducible refine (HA.out _).mono ?_);rintro e3 w3 ⟨rfl,hb3⟩;have k1:=dW K1.out hb3;have k2:=dW K2.out hb3;have k3:=dW K3.out hb3;have hb:=oJ HB.out hb3;clear q1 f1 q2 f2 q3 f3 K1 K2 K3 HB hb3;have K1:=am k1;have K2:=am k2;have K3:=am k3;have HB:=am hb;clear k1 k2 k3 hb;have q1:∀ i,w3.cell? ⟨w1.heap.size,i,none⟩=(_:Array Value)[i]?:=ag K1.out;have f1:∀ i,w3.frozen? ⟨w1.heap.size,i,none⟩=false:=aj K1.out;have q2:∀ i,w3.cell? ⟨w1.heap.size+1,i,none⟩=(_:Array Value)[i]?:=ag K2.out;have f2:∀ i,w3.frozen? ⟨w1.heap.size+1,i,none⟩=false:=aj K2.out;have q3:∀ i,w3.cell? ⟨G,i,none⟩=(_:Array Value)[i]?:=ag K3.out;have f3:∀ i,w3.frozen? ⟨G,i,none⟩=false:=aj K3.out)
   go_meet
   case rel=>exact⟨_,rfl,⟨kG K1.out _⟩,⟨kG K2.out _⟩,⟨kG K3.out _⟩,⟨uJ _ _⟩,⟨bD HB.out _⟩⟩
  case rest =>
  clear q1 f1 q2 f2 q3 f3 K1 K2 K3 HB;obtain⟨H_,rfl,K1,K2,K3,K4,HB⟩:=hcut
  rename_i wc
  have q1:∀ i,wc.cell? ⟨w1.heap.size,i,none⟩=(_:Array Value)[i]?:=ag K1.out;have f1:∀ i,wc.frozen? ⟨w1.heap.size,i,none⟩=false:=aj K1.out;have q2:∀ i,wc.cell? ⟨w1.heap.size+1,i,none⟩=(_:Array Value)[i]?:=ag K2.out;have f2:∀ i,wc.frozen? ⟨w1.heap.size+1,i,none⟩=false:=aj K2.out;have q3:∀ i,wc.cell? ⟨G,i,none⟩=(_:Array Value)[i]?:=ag K3.out;have f3:∀ i,wc.frozen? ⟨G,i,none⟩=false:=aj K3.out;have q4:∀ i,wc.cell? ⟨H_,i,none⟩=(_:Array Value)[i]?:=ag K4.out;have f4:∀ i,wc.frozen? ⟨H_,i,none⟩=false:=aj K4.out
  have hgt:∀ W:World,(binOp .gtr 9 (.string re) (.string ⟨#[53]⟩)).run Tryz.prog W=.ok (.bool true) W:=fun W=>by rw[aa5,hhalf]
  clear hhalf;have HBb:=Lib.hid (show w.heap.size≤w1.heap.size+1 by have h:=wY hw1;omega)
  go_upto_region 21 with (first|(go_at_call 13;(with_reducible refine (HO.out _).mono ?_);rintro e4 w4 ⟨rfl,hb4⟩;have k1:=dW K1.out hb4;have k2:=dW K2.out hb4;have k3:=dW K3.out hb4;have k4:=dW K4.out hb4;have hb:=oJ HB.out hb4;clear q1 f1 q2 f2 q3 f3 q4 f4 K1 K2 K3 K4 HB hb4;have K1:=am k1;have K2:=am k2;have K3:=am k3;have K4:=am k4;have HB:=am hb;clear k1 k2 k3 k4 hb;have q1:∀ i,w4.cell? ⟨w1.heap.size,i,none⟩=(_:Array Value)[i]?:=ag K1.out;have f1:∀ i,w4.frozen? ⟨w1.heap.size,i,none⟩=false:=aj K1.out;have q2:∀ i,w4.cell? ⟨w1.heap.size+1,i,none⟩=(_:Array Value)[i]?:=ag K2.out;have f2:∀ i,w4.frozen? ⟨w1.heap.size+1,i,none⟩=false:=aj K2.out;have q3:∀ i,w4.cell? ⟨G,i,none⟩=(_:Array Value)[i]?:=ag K3.out;have f3:∀ i,w4.frozen? ⟨G,i,none⟩=false:=aj K3.out;have q4:∀ i,w4.cell? ⟨H_,i,none⟩=(_:Array Value)[i]?:=ag K4.out;have f4:∀ i,w4.frozen? ⟨H_,i,none⟩=false:=aj K4.out)|(go_at_call 13;(with_reducible refine (HP.out _).mono ?_);rintro e5 w5 ⟨rfl,hb5⟩;have k1:=dW K1.out hb5;have k2:=dW K2.out hb5;have k3:=dW K3.out hb5;have k4:=dW K4.out hb5;have hb:=oJ HB.out hb5;clear q1 f1 q2 f2 q3 f3 q4 f4 K1 K2 K3 K4 HB hb5;have K1:=am k1;have K2:=am k2;have K3:=am k3;have K4:=am k4;have HB:=am hb;clear k1 k2 k3 k4 hb;have q1:∀ i,w5.cell? ⟨w1.heap.size,i,none⟩=(_:Array Value)[i]?:=ag K1.out;have f1:∀ i,w5.frozen? ⟨w1.heap.size,i,none⟩=false:=aj K1.out;have q2:∀ i,w5.cell? ⟨w1.heap.size+1,i,none⟩=(_:Array Value)[i]?:=ag K2.out;have f2:∀ i,w5.frozen? ⟨w1.heap.size+1,i,none⟩=false:=aj K2.out;have q3:∀ i,w5.cell? ⟨G,i,none⟩=(_:Array Value)[i]?:=ag K3.out;have f3:∀ i,w5.frozen? ⟨G,i,none⟩=false:=aj K3.out;have q4:∀ i,w5.cell? ⟨H_,i,none⟩=(_:Array Value)[i]?:=ag K4.out;have f4:∀ i,w5.frozen? ⟨H_,i,none⟩=false:=aj K4.out))
  go_wp2_with (go_at_call 30;(with_reducible refine (HT.out _ (HTAB.out.below (by repeat (first|(with_reducible exact HB.out)|(with_reducible refine bQ ?_ HBb.out))))).mono ?_);rintro e7 w7 ⟨rfl,hb7⟩;have hb:=am (oJ (by repeat (first|(with_reducible exact HB.out)|(with_reducible refine bQ ?_ HBb.out))) hb7);clear hb7)
  rw[Exit.noGoto_ret]
  go_ret2
  exact⟨rfl,hb.out⟩
theorem ut.calls (k:Nat)(a0 a1:Int)(r1:ByteArray)(r2:Option Int)(w:World)(h:ut.f k a0 a1=some (r1,r2))(htab:Fx.Laid w:=by exact Fx.Laid.below HTAB.out (by repeat (first|(with_reducible first|exact HB.out|apply bD|apply aK|apply aX|refine bQ ?_ (ae.out (by assumption)))|exact HB.out))) :
  Calls Tryz.prog 20 #[.int .i64 a0,.int .u64 a1] w fun e w'=>e=.returned (.tuple #[.string r1,rF r2])∧Below w.heap.size w w':=by
 unfold ut.f at h;obtain⟨⟨b0,b1,l,e,c⟩,hd,h⟩:=Option.bind_eq_some_iff.mp h;obtain⟨⟨h0,h1,hl,he⟩,q1,h⟩:=Option.bind_eq_some_iff.mp h;obtain⟨a,q2,h⟩:=Option.bind_eq_some_iff.mp h;obtain⟨b,q3,h⟩:=Option.bind_eq_some_iff.mp h
 have key:∀ {P:Prop} [Decidable P] {x:Option (ByteArray × Option Int)} {s:ByteArray × Option Int},(if P then x else none)=some s→P∧x=some s:=fun {P} _ {x s} h=>by
  by_cases c:P
  ·rw[if_pos c]at h;exact⟨c,h⟩
  ·rw[if_neg c]at h;cases h
 obtain⟨⟨hc,h8,h64,hb0,h48,hs,rfl,rfl,hh⟩,ht⟩:=key h
 cases (show c=none from hc)
 exact Ld k a0 a1 b0 b1 l e _ h0 h1 hl he r1 r2 w htab hd h8 h64 hb0 h48 rfl 1 rfl hs q1 q2 q3 hh ht
end Go.Proofs.Yy.PTx
end
section
set_option maxHeartbeats 8000000
set_option maxRecDepth 100000
namespace Go.Proofs.Yy.PTx
open Go.RowKit Go.Proofs.Yy.Z Go.Proofs.Yw.PrintWords Go.Proofs.Yw.PrintLast Go.Proofs.Yw.PrintMore
open Go.Proofs.Yy.M
attribute [local go_sem] dG dP kR kT kW kS
attribute [local go_sem] gI gG iP iR fF fG gW gV
def dK.f (k:Nat)  : Option (Bool):=(jl.f k 8 (⟨#[49,56,46,48,48,48,48,48,48,48,48,48,48,48,48,48,48,48,49]⟩:ByteArray)).bind fun ak5=>((jl.f k 8 (⟨#[49,56]⟩:ByteArray)).bind fun ak6=>((uq.f k 8 1).bind fun ak7=>((ut.f k 8 127).bind fun ak8=>(if ak5.1=97 then (if ak5.2.isNone=true then (if ak6.1=96 then (if ak6.2.isNone=true then (if ak7.1.toList=([53,46,57,54,48,52,54,52,52,55,55,53,51,57,48,54,50,53,101,45,56]:List UInt8) then (if ak7.2.isNone=true then (if ak8.1.toList=([50,48,48,48,48,48,48,48]:List UInt8) then (if ak8.2.isNone=true then (some true) else (some false)) else (some false)) else (some false)) else (some false)) else (some false)) else (some false)) else (some false)) else (some false)))))
theorem dK.few:∀ k<40,dK.f k≠some false:=by decide +kernel
theorem dK.at_ (k:Nat):dK.f (k+40)=some true:=by kernel_rfl
theorem dK.calls (k:Nat)  (r:Bool)(w:World)(h:dK.f k  = some r)(htab:Fx.Laid w:=by exact Fx.Laid.below HTAB.out (by repeat (first|(with_reducible first|exact HB.out|apply bD|apply aK|apply aX|refine bQ ?_ (ae.out (by assumption)))|exact HB.out))) :
    Calls Tryz.prog 12 #[] w fun e w'=>e=.returned (.bool r)∧Below w.heap.size w w':=by
 have HTAB:=am htab;clear htab
 have HRT:ae (r=true):=⟨eq_true_of_ne_false fun e_=>by
  subst e_
  by_cases hk_:k<40
  exact dK.few k hk_ h
  obtain⟨m_,rfl⟩:∃ m_,k=m_+40:=⟨k-40,by omega⟩
  exact absurd (h.symm.trans (dK.at_ m_)) (by decide)⟩
 have yB:=Tryz.underlying27;have hu64:=Tryz.underlying64;have HB:=am (Below.refl w.heap.size w);have H:=am h;unfold dK.f at H;clear h;replace H:=zo H;obtain⟨⟨aMo,aGG⟩,A1,H⟩:=H
 try dsimp only at H
 replace H:=zo H;obtain⟨⟨aMp,aGH⟩,A2,H⟩:=H
 try dsimp only at H
 replace H:=zo H;obtain⟨⟨aMq,aGI⟩,A3,H⟩:=H
 try dsimp only at H
 replace H:=zo H;obtain⟨⟨aMr,aGJ⟩,A4,H⟩:=H
 try dsimp only at H
 replace H:=zsk H;rcases H with⟨qg,xy,H⟩|⟨qg,xy,c5,H⟩
 ·rcases aGG with _|aMs
  ·replace H:=zb1 H
   try simp only[au,ax]
   replace H:=zsk H;rcases H with⟨qm,zg,H⟩|⟨qm,zg,c6,H⟩
   ·rcases aGH with _|aMt
    ·replace H:=zb1 H
     try simp only[au,ax]
     replace H:=zsk H;rcases H with⟨wz,Bi,H⟩|⟨wz,Bi,c7,H⟩
     ·rcases aGI with _|aMu
      ·replace H:=zb1 H
       try simp only[au,ax]
       replace H:=zsk H;rcases H with⟨sO,Ap,H⟩|⟨sO,Ap,c8,H⟩
       ·rcases aGJ with _|aMv
        ·replace H:=zb1 H
         try simp only[au,ax]
         clear HRT;obtain rfl:=Option.some.inj H.out
         go_enter Tryz.func12,Tryz.ntmps12
         go_wp2_with (first|((with_reducible refine af (f:=24) rfl ?_);refine zc (some 10) Tryz.func24 _ (jl.calls _ _ _ _ _ _ A1.out) ?_;rintro e w9 ⟨rfl,hb⟩;refine⟨_,rfl,?_⟩;replace HB:=zBs HB hb;clear hb;(try simp only[au,ax]))|((with_reducible refine af (f:=24) rfl ?_);refine zc (some 14) Tryz.func24 _ (jl.calls _ _ _ _ _ _ A2.out) ?_;rintro e w10 ⟨rfl,hb⟩;refine⟨_,rfl,?_⟩;replace HB:=zBs HB hb;clear hb;(try simp only[au,ax]))|((with_reducible refine af (f:=17) rfl ?_);refine zc (some 18) Tryz.func17 _ (uq.calls _ _ _ _ _ _ A3.out) ?_;rintro e w11 ⟨rfl,hb⟩;refine⟨_,rfl,?_⟩;replace HB:=zBs HB hb;clear hb;(try simp only[au,ax]))|((with_reducible refine af (f:=20) rfl ?_);refine zc (some 22) Tryz.func20 _ (ut.calls _ _ _ _ _ _ A4.out) ?_;rintro e w12 ⟨rfl,hb⟩;refine⟨_,rfl,?_⟩;replace HB:=zBs HB hb;clear hb;(try simp only[au,ax])))
         go_ret
         exact⟨z2,zB HB⟩
        replace H:=zb0 H
        try simp only[Option.getD_some]at H
        try simp only[au,ax]
        exact absurd (Option.some.inj H.out) (by rw[HRT.out];decide)
       exact absurd (Option.some.inj H.out) (by rw[HRT.out];decide)
      replace H:=zb0 H
      try simp only[Option.getD_some]at H
      try simp only[au,ax]
      exact absurd (Option.some.inj H.out) (by rw[HRT.out];decide)
     exact absurd (Option.some.inj H.out) (by rw[HRT.out];decide)
    replace H:=zb0 H
    try simp only[Option.getD_some]at H
    try simp only[au,ax]
    exact absurd (Option.some.inj H.out) (by rw[HRT.out];decide)
   exact absurd (Option.some.inj H.out) (by rw[HRT.out];decide)
  replace H:=zb0 H
  try simp only[Option.getD_some]at H
  try simp only[au,ax]
  exact absurd (Option.some.inj H.out) (by rw[HRT.out];decide)
 exact absurd (Option.some.inj H.out) (by rw[HRT.out];decide)
end Go.Proofs.Yy.PTx
end
