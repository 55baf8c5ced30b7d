/- Part 18. -/
import Derived.WalkMore
import Derived.Test.YtpfnkbnepcchgaaGreatDoorKTOAQ
set_option linter.unusedSimpArgs false
set_option linter.unusedVariables false
section
set_option maxHeartbeats 8000000
set_option maxRecDepth 100000
namespace Go.Proofs.Yy.PTx
open Go.RowKit Go.Proofs.Yy.Z Go.Proofs.Yw.PrintWords Go.Proofs.Yw.PrintLast Go.Proofs.Yw.PrintMore
open Go.Proofs.Yy.M
attribute [local go_sem] dP eU lV lX lW lU
attribute [local go_sem] iq ik jE jD gu gq iE iD
def qj.f (k:Nat)(a0:Int)(a1:ByteArray):Option (Int × Option Int):=(dI.f k a0 0).bind fun ajL=>(if ajL.2.2.2.2.isNone=true then ((vO.f a1).bind fun QV=>(if QV.2.2.2.2.isNone=true then ((ng.f k a0 QV.1 QV.2.1 QV.2.2.1 QV.2.2.2.1).bind fun ajM=>(some (ajM.1,ajM.2))) else (some (0,some (QV.2.2.2.2.getD 0))))) else (some (0,some (ajL.2.2.2.2.getD 0))))
theorem qj.calls (k:Nat)(a0:Int)(a1:ByteArray)(r1:Int)(r2:Option Int)(w:World)(h:qj.f k a0 a1=some (r1,r2)) :
    Calls Tryz.prog 24 #[.int .i64 a0,.string a1] w fun e w'=>e=.returned (.tuple #[.int .u64 r1,qL r2])∧Below w.heap.size w w':=by
 have anO:=Tryz.underlying77;have Rf:=Tryz.underlying23;have zq:=Tryz.underlying27;have hu64:=Tryz.underlying64;have HB:=am (Below.refl w.heap.size w);have H:=am h;unfold qj.f at H;clear h;replace H:=zo H;obtain⟨⟨aJZ,aJ0,aJ1,aJ2,aEr⟩,A3,H⟩:=H
 try dsimp only at H
 rcases aEr with _|aJ3;replace H:=zb1 H
 try simp only[aj,ah]
 replace H:=zo H;obtain⟨⟨aJ4,aJ5,aJ6,aJ7,aEs⟩,A4,H⟩:=H
 try dsimp only at H
 rcases aEs with _|aJ8;replace H:=zb1 H
 try simp only[aj,ah]
 replace H:=zo H;obtain⟨⟨aJ9,aKa⟩,A5,H⟩:=H
 try dsimp only at H
 obtain⟨rfl,rfl⟩:=zJ2 H;rotate_left;replace H:=zb0 H
 try simp only[Option.getD_some]at H
 try simp only[aj,ah]
 obtain⟨rfl,rfl⟩:=zJ2 H;rotate_left;replace H:=zb0 H
 try simp only[Option.getD_some]at H
 try simp only[aj,ah]
 obtain⟨rfl,rfl⟩:=zJ2 H;rotate_left
 all_goals (go_enter Tryz.func24,Tryz.ntmps24;go_wp2_with (first|((with_reducible refine af (f:=42) rfl ?_);refine zc (some 12) Tryz.func42 _ (dI.calls _ _ _ _ _ _ _ _ _ A3.out) ?_;rintro e w6 ⟨rfl,hb⟩;refine⟨_,rfl,?_⟩;replace HB:=zBs HB hb;clear hb;(try simp only[aj,ah]))|((with_reducible refine aA (N:=6) rfl ?_);refine zx 6 77 #[.int .i64 0,.bool false,.int .i64 0,.int .u64 0] ?_;intro aEt hg w7 hbox hb;have IB:=am (hbox);have aEu:=zG hg HB;have aEv:=zG hg HB;replace HB:=zBs HB hb;clear hb hbox hg;obtain⟨_,_,_,_,_,_,_,_⟩:=zf4 IB)|((with_reducible refine af (f:=25) rfl ?_);refine zc (some 20) Tryz.func25 _ (vO.calls _ _ _ _ _ _ _ A4.out) ?_;rintro e w9 ⟨rfl,hb⟩;refine⟨_,rfl,?_⟩;replace IB:=am (eG (zKp IB) hb);replace HB:=zBs HB hb;clear hb;(try simp only[aj,ah]))|((with_reducible refine aA (N:=8) rfl ?_);refine zx 8 23 #[.bool false,.bool false,.string (⟨#[]⟩:ByteArray),.int .i64 0] ?_;intro aEw hg w10 hbox hb;have ael:=am (hbox);have aEx:=zG hg HB;have aEy:=zG hg HB;replace HB:=zBs HB hb;have WI:=zNl hg IB;have WJ:=zNg hg IB;replace IB:=zKb IB hb;clear hb hbox hg;have arR:=WJ.out;have arS:=WI.out;obtain⟨_,_,_,_,_,_,_,_⟩:=zf4 ael)|((with_reducible refine af (f:=13) rfl ?_);refine zc (some 28) Tryz.func13 _ (ng.calls _ _ _ _ _ _ _ _ _ A5.out) ?_;rintro e w13 ⟨rfl,hb⟩;refine⟨_,rfl,?_⟩;replace IB:=zKb IB hb;replace ael:=am (eG (zKp ael) hb);replace HB:=zBs HB hb;clear hb;(try simp only[aj,ah]))))
 ·go_ret2
  exact⟨z2,zB HB⟩
 ·go_ret2
  exact⟨z2,zB HB⟩
 go_ret2
 exact⟨z2,zB HB⟩
end Go.Proofs.Yy.PTx
end
section
namespace Go.Proofs.Yy.PTx
open Go.RowKit Go.Proofs.Yw.PrintWords Go.Proofs.Yw.PrintLast Go.Proofs.Yw.PrintMore
def qG (k:Nat)(n:Int)(b0 b1:Bool)(l:ByteArray)(e own:Int):Nat→Nat→Option (Bool × Bool × ByteArray × Int)
 | 0,_=>some (b0,b1,l,e)
 | m+1,j =>
  (oU.f b0 b1 (l.extract 0 j) (wrap64 (wrap64 (e+l.size)-j))).bind fun h =>
  (ng.f k n b0 b1 (l.extract 0 j) (wrap64 (wrap64 (e+l.size)-j))).bind fun a =>
  (ng.f k n h.1 h.2.1 h.2.2.1 h.2.2.2).bind fun b =>
  if a.2=none∧b.2=none then
   if a.1=own∧(b.1≠own∨(l.extract j l.size).data.toList ≤ [53]) then some (b0,b1,l.extract 0 j,wrap64 (wrap64 (e+l.size)-j))
   else if b.1=own then some h else qG k n b0 b1 l e own m (j+1)
  else none
def ut.f (k:Nat)(a0 a1:Int):Option (ByteArray × Option Int) :=
 (bD.f k a0 a1).bind fun v=>if v.2.2.2.2=none∧8≤a0∧a0≤64 then
  if v.1=true∨v.2.2.1.toList=[48] then nD.f v.1 v.2.1 v.2.2.1 v.2.2.2.1
  else (qG k a0 v.1 v.2.1 v.2.2.1 v.2.2.2.1 (shr .u64 (shl .u64 a1 (64-a0)) (64-a0)) (v.2.2.1.size-1) 1).bind fun b=>nD.f b.1 b.2.1 b.2.2.1 b.2.2.2
 else if v.2.2.2.2=none then none else some (⟨#[]⟩,some (v.2.2.2.2.getD 0))
theorem Be:∀ (x y:List UInt8),Op.bytesLess x y=decide (x<y)
 | [],[]=>by simp[Op.bytesLess]
 | _::_,[]=>by simp[Op.bytesLess]
 | [],_::_=>by simp[Op.bytesLess]
 | a::x,b::y=>by
  rw[Op.bytesLess,Be x y];simp only[List.cons_lt_cons_iff]
  by_cases h1:a<b <;> by_cases h2:a=b <;> by_cases h3:x<y <;> simp[h1,h2,h3]
theorem aba (P:Program)(t:TypeId)(x y:ByteArray)(W:World):(binOp .gtr t (.string x) (.string y)).run P W=.ok (.bool (decide (y.data.toList<x.data.toList))) W:=by
 have h:(binOp .gtr t (.string x) (.string y)).run P W=.ok (.bool (!(Op.bytesLess x.toList y.toList || x.toList == y.toList))) W:=rfl;rw[h,Be,Lib.toList_data,Lib.toList_data]
 congr 2
 by_cases h1:x.data.toList<y.data.toList
 ·have h2:¬ y.data.toList<x.data.toList:=List.lt_asymm h1
  simp[h1,h2]
 ·by_cases h3:x.data.toList=y.data.toList
  ·have h2:¬ y.data.toList<x.data.toList:=by rw[h3];exact List.lt_irrefl _
   simp[h2,h3]
  ·have h2:y.data.toList<x.data.toList:=by
    rcases List.le_iff_lt_or_eq.1 (show y.data.toList≤x.data.toList from h1) with h|h
    ·exact h
    ·exact absurd h.symm h3
   simp[h1,h2];exact fun e=>h3 (by rw[e])
theorem KW {k:Nat}{n:Int}{b0 b1:Bool}{l:ByteArray}{e own:Int}{m j:Nat}{r:Bool × Bool × ByteArray × Int}(hm:m=(m-1)+1)(h:qG k n b0 b1 l e own m j=some r) :
  ∃ h0 h1 hl he a b,oU.f b0 b1 (l.extract 0 j) (wrap64 (wrap64 (e+l.size)-j))=some (h0,h1,hl,he)∧ng.f k n b0 b1 (l.extract 0 j) (wrap64 (wrap64 (e+l.size)-j))=some (a,none)∧ng.f k n h0 h1 hl he=some (b,none) ∧
   (if a=own∧(b≠own∨(l.extract j l.size).data.toList ≤ [53]) then some (b0,b1,l.extract 0 j,wrap64 (wrap64 (e+l.size)-j)) else if b=own then some (h0,h1,hl,he) else qG k n b0 b1 l e own (m-1) (j+1))=some r:=by
 rw[hm,qG]at h;obtain⟨⟨h0,h1,hl,he⟩,q1,h⟩:=Option.bind_eq_some_iff.mp h;obtain⟨⟨a,a2⟩,q2,h⟩:=Option.bind_eq_some_iff.mp h;obtain⟨⟨b,b2⟩,q3,h⟩:=Option.bind_eq_some_iff.mp h
 by_cases hc:a2=none∧b2=none
 case neg=>rw[if_neg hc]at h;exact absurd h (by simp)
 rw[if_pos hc]at h;obtain⟨rfl,rfl⟩:=hc;exact⟨h0,h1,hl,he,a,b,q1,q2,q3,h⟩
theorem IX {a0 a1:Bool}{l:ByteArray}{e:Int}{r:Bool × Bool × ByteArray × Int}(h:oU.f a0 a1 l e=some r):l.size≤1048576:=by
 unfold oU.f at h
 by_cases hc:l.data.toList≠[]∧l.size≤1048576
 ·exact hc.2
 ·rw[if_neg hc]at h;exact absurd h (by simp)
set_option maxHeartbeats 4000000 in
set_option maxRecDepth 100000 in
theorem LG (k:Nat)(n p:Int)(b0 b1:Bool)(l:ByteArray)(e own:Int)(c0 c1:Bool)(cl:ByteArray)(ce:Int)(r1:ByteArray)(r2:Option Int)(w:World)(htab:Fx.Laid w)
  (hd:bD.f k n p=some (b0,b1,l,e,none)) (h8:8≤n) (h64:n≤64) (hb0:b0=false) (hl:(l.toList == [48])=false) (hown:own=shr .u64 (shl .u64 p (64-n)) (64-n))
  (hgo:qG k n b0 b1 l e own (l.size-1) 1=some (c0,c1,cl,ce)) (ht:nD.f c0 c1 cl ce=some (r1,r2)) :
  Calls Tryz.prog 20 #[.int .i64 n,.int .u64 p] w fun e' w'=>e'=.returned (.tuple #[.string r1,qL r2])∧Below w.heap.size w w':=by
 subst hb0;have hkD:∀ W:World,Fx.Laid W→Calls Tryz.prog 16 #[.int .i64 n,.int .u64 p] W fun e' w'=>e'=.returned (.tuple #[.agg #[.bool false,.bool b1,.string l,.int .i64 e],.nilIface])∧Below W.heap.size W w':=fun W hW=>bD.calls k n p _ _ _ _ _ W hd hW;have hkT:∀ W:World,Fx.Laid W→Calls Tryz.prog 30 #[.agg #[.bool c0,.bool c1,.string cl,.int .i64 ce]] W fun e' w'=>e'=.returned (.tuple #[.string r1,qL r2])∧Below W.heap.size W w':=fun W hW=>nD.calls _ _ _ _ _ _ W ht hW;have HD:=Lib.hid hkD;have HT:=Lib.hid hkT;have HGO:=Lib.hid hgo;have HOWN:=Lib.hid hown;have HTAB:=Lib.hid htab;clear hkD hkT hgo hd ht hown htab;generalize qL r2=v2 at HT ⊢
 have ho:IntKind.u64.wrap (p*2 ^ (64-n).toNat) / 2 ^ (64-n).toNat=own:=by
  have hm:min (64-n).toNat IntKind.u64.bits=(64-n).toNat:=by show min (64-n).toNat 64=_;omega
  rw[HOWN.out];unfold shr shl;rw[hm]
 go_enter Tryz.func20,Tryz.ntmps20
 go_wp2
 go_step3
 go_wp2_with (go_at_call 16;(with_reducible refine (HD.out _ HTAB.out).mono ?_);rintro e1 w1 ⟨rfl,hw1⟩)
 go_step3
 go_wp2
 go_loopw [10] (fun i w' => ∃ j:Nat,i=.int .i64 j∧1≤j∧ae (qG k n false b1 l e own (l.size-j) j=some (c0,c1,cl,ce))∧ae (w'.heap[w1.heap.size]? = some (.cells #[.bool false,.bool b1,.string l,.int .i64 e] 23 (0,0)))∧ae (w'.heap[w1.heap.size+1]? = some (.cells #[.bool false,.bool b1,.string l,.int .i64 e] 23 (0,0)))∧ae (Below w.heap.size w w')) (fun i _=>l.size-(intOf i).toNat)
 case atStart=>exact⟨1,rfl,Nat.le_refl _,⟨HGO.out⟩,⟨kL (vS _ _) _⟩,⟨wY (by simp)⟩,⟨bn (bn hw1 _) _⟩⟩
 case round =>
  obtain⟨j,rfl,hj1,HG,K1,K2,HB⟩:=hrel;have q0:∀ i,wr.cell? ⟨w1.heap.size,i,none⟩=(_:Array Value)[i]?:=ag K1.out;have f0:∀ i,wr.frozen? ⟨w1.heap.size,i,none⟩=false:=ak K1.out;have q1:∀ i,wr.cell? ⟨w1.heap.size+1,i,none⟩=(_:Array Value)[i]?:=ag K2.out;have f1:∀ i,wr.frozen? ⟨w1.heap.size+1,i,none⟩=false:=ak K2.out
  by_cases hj:j<l.size
  case neg =>
   have hjn:((j:Int)<(l.size:Int))=False:=eq_false (by omega)
   have hz:l.size-j=0:=by omega
   have hq:=HG.out;rw[hz,qG]at hq;simp only[Option.some.injEq,Prod.mk.injEq]at hq;obtain⟨rfl,rfl,rfl,rfl⟩:=hq;clear hz
   go_wp2_with (go_at_call 30;(with_reducible refine (HT.out _ (HTAB.out.below HB.out)).mono ?_);rintro e2 w2 ⟨rfl,hb2⟩;have hb:=am (kE HB.out hb2);clear hb2)
   rw[Exit.noGoto_ret]
   go_ret2
   exact⟨rfl,hb.out⟩
  obtain⟨h0,h1,hl',he,a,b,q1_,q2_,q3_,hif⟩:=KW (by omega) HG.out
  have hsz:j≤1048576:=by
   have h:=IX q1_;rw[ByteArray.size_extract]at h
   omega
  obtain⟨E,hE⟩:∃ E,wrap64 (wrap64 (e+l.size)-j)=E:=⟨_,rfl⟩
  rw[hE]at q1_ q2_ hif
  have hEw:IntKind.i64.wrap (IntKind.i64.wrap (e+l.size)-j)=E:=by rw[bW,bW];exact hE
  obtain⟨lo,hlo⟩:∃ x,l.extract 0 j=x:=⟨_,rfl⟩
  obtain⟨re,hre⟩:∃ x,l.extract j l.size=x:=⟨_,rfl⟩
  rw[hlo]at q1_ q2_ hif;rw[hre]at hif;have HIF:=Lib.hid hif;have HA:Hid (∀ W:World,Calls Tryz.prog 56 #[.agg #[.bool false,.bool b1,.string lo,.int .i64 E]] W fun e' w'=>e'=.returned (.agg #[.bool h0,.bool h1,.string hl',.int .i64 he])∧Below W.heap.size W w'):=Lib.hid fun W=>oU.calls _ _ _ _ _ _ _ _ W q1_;have HO:Hid (∀ W:World,Calls Tryz.prog 13 #[.int .i64 n,.agg #[.bool false,.bool b1,.string lo,.int .i64 E]] W fun e' w'=>e'=.returned (.tuple #[.int .u64 a,.nilIface])∧Below W.heap.size W w'):=Lib.hid fun W=>ng.calls k _ _ _ _ _ _ _ W q2_;have HP:Hid (∀ W:World,Calls Tryz.prog 13 #[.int .i64 n,.agg #[.bool h0,.bool h1,.string hl',.int .i64 he]] W fun e' w'=>e'=.returned (.tuple #[.int .u64 b,.nilIface])∧Below W.heap.size W w'):=Lib.hid fun W=>ng.calls k _ _ _ _ _ _ _ W q3_;have HE:=Lib.hid hE;clear q1_ q2_ q3_ hif hE HG;have hjl:((j:Int)<(l.size:Int))=True:=eq_true (by omega)
  have hGs:w1.heap.size+2≤wr.heap.size:=by
   have h:=Bf K2.out
   omega
  obtain⟨G,hG⟩:∃ G,wr.heap.size=G:=⟨_,rfl⟩
  have HGs:=Lib.hid (show w1.heap.size+2≤G by omega);have HGb:=Lib.hid (show w.heap.size≤G by have h:=xq HB.out;omega);have HG:=Lib.hid hG;clear hGs
  go_upto_region 11 with (fail)
  go_cut [11] (fun v11 wc=>v11=.pointer (some ⟨G,0,none⟩)∧ae (wc.heap[w1.heap.size]? = (some (.cells #[.bool false,.bool b1,.string l,.int .i64 e] 23 (0,0))))∧ae (wc.heap[w1.heap.size+1]? = (some (.cells #[.bool false,.bool b1,.string l,.int .i64 e] 23 (0,0))))∧ae (wc.heap[G]? = (some (.cells #[.bool false,.bool b1,.string l,.int .i64 e] 23 (0,0))))∧ae (Below w.heap.size w wc))
  case first =>
   go_wp2
   go_meet
   case rel=>exact⟨rfl,⟨kL K1.out _⟩,⟨kL K2.out _⟩,⟨wY HG.out⟩,⟨bn HB.out _⟩⟩
  case rest =>
  clear q0 f0 q1 f1 K1 K2 HB hG HG;obtain⟨rfl,K1,K2,K3,HB⟩:=hcut
  rename_i wc
  have q1:∀ i,wc.cell? ⟨w1.heap.size,i,none⟩=(_:Array Value)[i]?:=ag K1.out;have f1:∀ i,wc.frozen? ⟨w1.heap.size,i,none⟩=false:=ak K1.out;have q2:∀ i,wc.cell? ⟨w1.heap.size+1,i,none⟩=(_:Array Value)[i]?:=ag K2.out;have f2:∀ i,wc.frozen? ⟨w1.heap.size+1,i,none⟩=false:=ak K2.out;have q3:∀ i,wc.cell? ⟨G,i,none⟩=(_:Array Value)[i]?:=ag K3.out;have f3:∀ i,wc.frozen? ⟨G,i,none⟩=false:=ak K3.out
  have hn1:w1.heap.size≠G:=by have:=HGs.out;omega
  have hn2:G≠w1.heap.size:=by omega
  go_upto_region 12 with (fail)
  go_cut [] (fun wc=>ae (wc.heap[w1.heap.size]? = (some (.cells #[.bool false,.bool b1,.string l,.int .i64 e] 23 (0,0))))∧ae (wc.heap[w1.heap.size+1]? = (some (.cells #[.bool false,.bool b1,.string l,.int .i64 e] 23 (0,0))))∧ae (wc.heap[G]? = (some (.cells #[.bool false,.bool b1,.string lo,.int .i64 E] 23 (0,0))))∧ae (Below w.heap.size w wc))
  case first =>
   go_region
   go_wp2
   go_meet
   case rel =>
    have hB:w1.heap.size+1≠G:=by have:=HGs.out;omega
    simp only[HE.out];exact⟨⟨dY (jg (jg K1.out hn1 _) hn1 _)⟩,⟨dY (jg (jg K2.out hB _) hB _)⟩,⟨(by apply dY;apply Eq.trans;(repeat (first|(with_reducible exact K3.out)|(with_reducible apply qM)));rfl)⟩,⟨aW (bF (bF HB.out HGb.out) HGb.out)⟩⟩
  case rest =>
  clear q1 f1 q2 f2 q3 f3 K1 K2 K3 HB hn1 hn2;obtain⟨K1,K2,K3,HB⟩:=hcut
  rename_i wc
  have q1:∀ i,wc.cell? ⟨w1.heap.size,i,none⟩=(_:Array Value)[i]?:=ag K1.out;have f1:∀ i,wc.frozen? ⟨w1.heap.size,i,none⟩=false:=ak K1.out;have q2:∀ i,wc.cell? ⟨w1.heap.size+1,i,none⟩=(_:Array Value)[i]?:=ag K2.out;have f2:∀ i,wc.frozen? ⟨w1.heap.size+1,i,none⟩=false:=ak K2.out;have q3:∀ i,wc.cell? ⟨G,i,none⟩=(_:Array Value)[i]?:=ag K3.out;have f3:∀ i,wc.frozen? ⟨G,i,none⟩=false:=ak K3.out
  go_upto_region 13 with (fail)
  go_cut [12] (fun v12 wc => ∃ H_:Nat,v12=.pointer (some ⟨H_,0,none⟩)∧ae (wc.heap[w1.heap.size]? = (some (.cells #[.bool false,.bool b1,.string l,.int .i64 e] 23 (0,0))))∧ae (wc.heap[w1.heap.size+1]? = (some (.cells #[.bool false,.bool b1,.string l,.int .i64 e] 23 (0,0))))∧ae (wc.heap[G]? = (some (.cells #[.bool false,.bool b1,.string lo,.int .i64 E] 23 (0,0))))∧ae (wc.heap[H_]? = (some (.cells #[.bool h0,.bool h1,.string hl',.int .i64 he] 23 (0,0))))∧ae (Below w.heap.size w wc))
  case first =>
   go_wp2_with (go_at_call 56;(with_reducible refine (HA.out _).mono ?_);rintro e3 w3 ⟨rfl,hb3⟩;have k1:=eG K1.out hb3;have k2:=eG K2.out hb3;have k3:=eG K3.out hb3;have hb:=kE HB.out hb3;clear q1 f1 q2 f2 q3 f3 K1 K2 K3 HB hb3;have K1:=am k1;have K2:=am k2;have K3:=am k3;have HB:=am hb;clear k1 k2 k3 hb;have q1:∀ i,w3.cell? ⟨w1.heap.size,i,none⟩=(_:Array Value)[i]?:=ag K1.out;have f1:∀ i,w3.frozen? ⟨w1.heap.size,i,none⟩=false:=ak K1.out;have q2:∀ i,w3.cell? ⟨w1.heap.size+1,i,none⟩=(_:Array Value)[i]?:=ag K2.out;have f2:∀ i,w3.frozen? ⟨w1.heap.size+1,i,none⟩=false:=ak K2.out;have q3:∀ i,w3.cell? ⟨G,i,none⟩=(_:Array Value)[i]?:=ag K3.out;have f3:∀ i,w3.frozen? ⟨G,i,none⟩=false:=ak K3.out)
   go_meet
   case rel=>exact⟨_,rfl,⟨kL K1.out _⟩,⟨kL K2.out _⟩,⟨kL K3.out _⟩,⟨vS _ _⟩,⟨bn HB.out _⟩⟩
  case rest =>
  clear q1 f1 q2 f2 q3 f3 K1 K2 K3 HB;obtain⟨H_,rfl,K1,K2,K3,K4,HB⟩:=hcut
  rename_i wc
  have q1:∀ i,wc.cell? ⟨w1.heap.size,i,none⟩=(_:Array Value)[i]?:=ag K1.out;have f1:∀ i,wc.frozen? ⟨w1.heap.size,i,none⟩=false:=ak K1.out;have q2:∀ i,wc.cell? ⟨w1.heap.size+1,i,none⟩=(_:Array Value)[i]?:=ag K2.out;have f2:∀ i,wc.frozen? ⟨w1.heap.size+1,i,none⟩=false:=ak K2.out;have q3:∀ i,wc.cell? ⟨G,i,none⟩=(_:Array Value)[i]?:=ag K3.out;have f3:∀ i,wc.frozen? ⟨G,i,none⟩=false:=ak K3.out;have q4:∀ i,wc.cell? ⟨H_,i,none⟩=(_:Array Value)[i]?:=ag K4.out;have f4:∀ i,wc.frozen? ⟨H_,i,none⟩=false:=ak K4.out
  obtain⟨half,hhalf⟩:∃ x:Bool,decide ((⟨#[53]⟩:ByteArray).data.toList<re.data.toList)=x:=⟨_,rfl⟩
  have hgt:∀ W:World,(binOp .gtr 9 (.string re) (.string ⟨#[53]⟩)).run Tryz.prog W=.ok (.bool half) W:=fun W=>by rw[aba,hhalf]
  have HH:=Lib.hid hhalf;clear hhalf;have HBb:=Lib.hid (show w.heap.size≤w1.heap.size+1 by have h:=xq hw1;omega)
  go_upto_region 21 with (first|(go_at_call 13;(with_reducible refine (HO.out _).mono ?_);rintro e4 w4 ⟨rfl,hb4⟩;have k1:=eG K1.out hb4;have k2:=eG K2.out hb4;have k3:=eG K3.out hb4;have k4:=eG K4.out hb4;have hb:=kE HB.out hb4;clear q1 f1 q2 f2 q3 f3 q4 f4 K1 K2 K3 K4 HB hb4;have K1:=am k1;have K2:=am k2;have K3:=am k3;have K4:=am k4;have HB:=am hb;clear k1 k2 k3 k4 hb;have q1:∀ i,w4.cell? ⟨w1.heap.size,i,none⟩=(_:Array Value)[i]?:=ag K1.out;have f1:∀ i,w4.frozen? ⟨w1.heap.size,i,none⟩=false:=ak K1.out;have q2:∀ i,w4.cell? ⟨w1.heap.size+1,i,none⟩=(_:Array Value)[i]?:=ag K2.out;have f2:∀ i,w4.frozen? ⟨w1.heap.size+1,i,none⟩=false:=ak K2.out;have q3:∀ i,w4.cell? ⟨G,i,none⟩=(_:Array Value)[i]?:=ag K3.out;have f3:∀ i,w4.frozen? ⟨G,i,none⟩=false:=ak K3.out;have q4:∀ i,w4.cell? ⟨H_,i,none⟩=(_:Array Value)[i]?:=ag K4.out;have f4:∀ i,w4.frozen? ⟨H_,i,none⟩=false:=ak K4.out)|(go_at_call 13;(with_reducible refine (HP.out _).mono ?_);rintro e5 w5 ⟨rfl,hb5⟩;have k1:=eG K1.out hb5;have k2:=eG K2.out hb5;have k3:=eG K3.out hb5;have k4:=eG K4.out hb5;have hb:=kE HB.out hb5;clear q1 f1 q2 f2 q3 f3 q4 f4 K1 K2 K3 K4 HB hb5;have K1:=am k1;have K2:=am k2;have K3:=am k3;have K4:=am k4;have HB:=am hb;clear k1 k2 k3 k4 hb;have q1:∀ i,w5.cell? ⟨w1.heap.size,i,none⟩=(_:Array Value)[i]?:=ag K1.out;have f1:∀ i,w5.frozen? ⟨w1.heap.size,i,none⟩=false:=ak K1.out;have q2:∀ i,w5.cell? ⟨w1.heap.size+1,i,none⟩=(_:Array Value)[i]?:=ag K2.out;have f2:∀ i,w5.frozen? ⟨w1.heap.size+1,i,none⟩=false:=ak K2.out;have q3:∀ i,w5.cell? ⟨G,i,none⟩=(_:Array Value)[i]?:=ag K3.out;have f3:∀ i,w5.frozen? ⟨G,i,none⟩=false:=ak K3.out;have q4:∀ i,w5.cell? ⟨H_,i,none⟩=(_:Array Value)[i]?:=ag K4.out;have f4:∀ i,w5.frozen? ⟨H_,i,none⟩=false:=ak K4.out))
  by_cases ha:a=own
  ·subst ha
   by_cases hbo:b=a
   ·subst hbo
    cases half
    ·have hq:=HIF.out
     rw[if_pos ⟨rfl,Or.inr (by have:=of_decide_eq_false HH.out;exact this)⟩]at hq;simp only[Option.some.injEq,Prod.mk.injEq]at hq;obtain⟨rfl,rfl,rfl,rfl⟩:=hq;clear HIF
     go_wp2_with (go_at_call 30;(with_reducible refine (HT.out _ (HTAB.out.below (by repeat (first|(with_reducible exact HB.out)|(with_reducible refine bF ?_ HBb.out))))).mono ?_);rintro e7 w7 ⟨rfl,hb7⟩;have hb:=am (kE (by repeat (first|(with_reducible exact HB.out)|(with_reducible refine bF ?_ HBb.out))) hb7);clear hb7)
     rw[Exit.noGoto_ret]
     go_ret2
     exact⟨rfl,hb.out⟩
    ·have hq:=HIF.out
     rw[if_neg (fun h=>h.2.elim (fun h=>h rfl) (fun h=>absurd (of_decide_eq_true HH.out) (by exact h)))]at hq;rw[if_pos rfl]at hq;simp only[Option.some.injEq,Prod.mk.injEq]at hq;obtain⟨rfl,rfl,rfl,rfl⟩:=hq;clear HIF
     go_wp2_with (go_at_call 30;(with_reducible refine (HT.out _ (HTAB.out.below (by repeat (first|(with_reducible exact HB.out)|(with_reducible refine bF ?_ HBb.out))))).mono ?_);rintro e7 w7 ⟨rfl,hb7⟩;have hb:=am (kE (by repeat (first|(with_reducible exact HB.out)|(with_reducible refine bF ?_ HBb.out))) hb7);clear hb7)
     rw[Exit.noGoto_ret]
     go_ret2
     exact⟨rfl,hb.out⟩
   ·have hb1:(b=a)=False:=eq_false hbo
    have hb2:(b == a)=false:=beq_eq_false_iff_ne.2 hbo;have hq:=HIF.out;rw[if_pos ⟨rfl,Or.inl hbo⟩]at hq;simp only[Option.some.injEq,Prod.mk.injEq]at hq;obtain⟨rfl,rfl,rfl,rfl⟩:=hq;clear HIF
    go_wp2_with (go_at_call 30;(with_reducible refine (HT.out _ (HTAB.out.below (by repeat (first|(with_reducible exact HB.out)|(with_reducible refine bF ?_ HBb.out))))).mono ?_);rintro e7 w7 ⟨rfl,hb7⟩;have hb:=am (kE (by repeat (first|(with_reducible exact HB.out)|(with_reducible refine bF ?_ HBb.out))) hb7);clear hb7)
    rw[Exit.noGoto_ret]
    go_ret2
    exact⟨rfl,hb.out⟩
  ·have ha1:(a=own)=False:=eq_false ha
   have ha2:(a == own)=false:=beq_eq_false_iff_ne.2 ha
   by_cases hbo:b=own
   ·subst hbo
    have hq:=HIF.out;rw[if_neg (fun h=>ha h.1)]at hq;rw[if_pos rfl]at hq;simp only[Option.some.injEq,Prod.mk.injEq]at hq;obtain⟨rfl,rfl,rfl,rfl⟩:=hq;clear HIF
    go_wp2_with (go_at_call 30;(with_reducible refine (HT.out _ (HTAB.out.below (by repeat (first|(with_reducible exact HB.out)|(with_reducible refine bF ?_ HBb.out))))).mono ?_);rintro e7 w7 ⟨rfl,hb7⟩;have hb:=am (kE (by repeat (first|(with_reducible exact HB.out)|(with_reducible refine bF ?_ HBb.out))) hb7);clear hb7)
    rw[Exit.noGoto_ret]
    go_ret2
    exact⟨rfl,hb.out⟩
   ·have hb1:(b=own)=False:=eq_false hbo
    have hb2:(b == own)=false:=beq_eq_false_iff_ne.2 hbo;have hq:=HIF.out;rw[if_neg (fun h=>ha h.1)]at hq;rw[if_neg hbo]at hq;have HQ:=Lib.hid hq;clear hq HIF
    go_wp2
    go_roundw
    case rel =>
     exact⟨j+1,by simp,by omega,⟨by have h:=HQ.out;rwa [show l.size-j-1=l.size-(j+1) by omega]at h⟩,K1,K2,HB⟩
    case measure=>simp[intOf];omega
set_option maxHeartbeats 4000000 in
set_option maxRecDepth 100000 in
theorem Je (k:Nat)(n p:Int)(b0 b1:Bool)(l:ByteArray)(e:Int)(r1:ByteArray)(r2:Option Int)(w:World)(htab:Fx.Laid w)
  (hd:bD.f k n p=some (b0,b1,l,e,none)) (hb0:b0=true∨l.toList=[48]) (ht:nD.f b0 b1 l e=some (r1,r2)) :
  Calls Tryz.prog 20 #[.int .i64 n,.int .u64 p] w fun e' w'=>e'=.returned (.tuple #[.string r1,qL r2])∧Below w.heap.size w w':=by
 have hkD:∀ W:World,Fx.Laid W→Calls Tryz.prog 16 #[.int .i64 n,.int .u64 p] W fun e' w'=>e'=.returned (.tuple #[.agg #[.bool b0,.bool b1,.string l,.int .i64 e],.nilIface])∧Below W.heap.size W w':=fun W hW=>bD.calls k n p _ _ _ _ _ W hd hW;have hkT:∀ W:World,Fx.Laid W→Calls Tryz.prog 30 #[.agg #[.bool b0,.bool b1,.string l,.int .i64 e]] W fun e' w'=>e'=.returned (.tuple #[.string r1,qL r2])∧Below W.heap.size W w':=fun W hW=>nD.calls _ _ _ _ _ _ W ht hW;have HD:=Lib.hid hkD;have HT:=Lib.hid hkT;have HTAB:=Lib.hid htab;clear hkD hkT hd ht htab;generalize qL r2=v2 at HT ⊢
 have go:∀ c:Bool,(b0=true∨(b0=false∧(l.toList == [48])=c∧c=true))→Calls Tryz.prog 20 #[.int .i64 n,.int .u64 p] w fun e' w'=>e'=.returned (.tuple #[.string r1,v2])∧Below w.heap.size w w':=by
  intro c hc;clear hb0;rcases hc with rfl|⟨rfl,hl,rfl⟩
  all_goals
   go_enter Tryz.func20,Tryz.ntmps20
   go_wp2
   go_step3
   go_wp2_with (first|(go_at_call 16;(with_reducible refine (HD.out _ HTAB.out).mono ?_);rintro e1 w1 ⟨rfl,hw1⟩;have HW1:=am hw1;clear hw1)|(go_at_call 30;(with_reducible refine (HT.out _ (HTAB.out.below (bn HW1.out _))).mono ?_);rintro e2 w2 ⟨rfl,hb2⟩;have hb:=am (kE (bn HW1.out _) hb2);clear hb2))
   rw[Exit.noGoto_ret]
   go_ret2
   exact⟨rfl,hb.out⟩
 refine go true ?_
 cases b0 with
 | true=>exact Or.inl rfl
 | false=>exact Or.inr ⟨rfl,by rcases hb0 with h|h;exact absurd h (by simp);rw[h];rfl,rfl⟩
set_option maxHeartbeats 4000000 in
set_option maxRecDepth 100000 in
theorem Jq (k:Nat)(n p:Int)(b0 b1:Bool)(l:ByteArray)(e c:Int)(w:World)(htab:Fx.Laid w)
  (hd:bD.f k n p=some (b0,b1,l,e,some c)) :
  Calls Tryz.prog 20 #[.int .i64 n,.int .u64 p] w fun e' w'=>e'=.returned (.tuple #[.string ⟨#[]⟩,qL (some c)])∧Below w.heap.size w w':=by
 have hkD:∀ W:World,Fx.Laid W→Calls Tryz.prog 16 #[.int .i64 n,.int .u64 p] W fun e' w'=>e'=.returned (.tuple #[.agg #[.bool b0,.bool b1,.string l,.int .i64 e],qL (some c)])∧Below W.heap.size W w':=fun W hW=>bD.calls k n p _ _ _ _ _ W hd hW;simp only[ah]at hkD ⊢;have HD:=Lib.hid hkD;have HTAB:=Lib.hid htab;clear hkD hd htab
 go_enter Tryz.func20,Tryz.ntmps20
 go_wp2
 go_step3
 go_wp2_with (go_at_call 16;(with_reducible refine (HD.out _ HTAB.out).mono ?_);rintro e1 w1 ⟨rfl,hw1⟩;have HW1:=am hw1;clear hw1)
 rw[Exit.noGoto_ret]
 go_ret2
 exact⟨rfl,bn HW1.out _⟩
theorem ut.calls (k:Nat)(a0 a1:Int)(r1:ByteArray)(r2:Option Int)(w:World)(h:ut.f k a0 a1=some (r1,r2))(htab:Fx.Laid w:=by exact Fx.Laid.below HTAB.out (by repeat (first|(with_reducible first|exact HB.out|apply bn|apply aJ|apply aW|refine bF ?_ (ae.out (by assumption)))|exact HB.out))) :
  Calls Tryz.prog 20 #[.int .i64 a0,.int .u64 a1] w fun e w'=>e=.returned (.tuple #[.string r1,qL r2])∧Below w.heap.size w w':=by
 unfold ut.f at h;obtain⟨⟨b0,b1,l,e,c⟩,hd,h⟩:=Option.bind_eq_some_iff.mp h
 by_cases hc:c=none∧8≤a0∧a0≤64
 case neg =>
  rw[if_neg hc]at h
  cases c with
  | none=>rw[if_pos rfl]at h;exact absurd h (by simp)
  | some c =>
   rw[if_neg (by simp)]at h;simp only[Option.some.injEq,Prod.mk.injEq,Option.getD_some]at h;obtain⟨rfl,rfl⟩:=h;exact Jq k a0 a1 b0 b1 l e c w htab hd
 rw[if_pos hc]at h;obtain⟨rfl,h8,h64⟩:=hc
 by_cases hz:b0=true∨l.toList=[48]
 ·rw[if_pos hz]at h
  exact Je k a0 a1 b0 b1 l e r1 r2 w htab hd hz h
 rw[if_neg hz]at h;obtain⟨⟨c0,c1,cl,ce⟩,hgo,h⟩:=Option.bind_eq_some_iff.mp h;exact LG k a0 a1 b0 b1 l e _ c0 c1 cl ce r1 r2 w htab hd h8 h64 (by cases b0 with|true=>exact absurd (Or.inl rfl) hz|false=>rfl) (beq_eq_false_iff_ne.2 fun q=>hz (Or.inr q)) rfl hgo h
end Go.Proofs.Yy.PTx
end
section
namespace Go.Proofs.Yy.PTx
open Go.RowKit Go.Proofs.Yw.PrintWords Go.Proofs.Yw.PrintLast Go.Proofs.Yw.PrintMore Go.Proofs.Yy.M Go.Proofs.Yy.TA
theorem Ji (x:Nat)(c:Bool):Ev (fun k=>gy.f k (x:Int) c) ((lft x (2 ^ 63) c:Nat):Int):=by
 have e:(9223372036854775808:Int)=((2 ^ 63:Nat):Int):=rfl;refine Ev.step (f:=fun k=>(some ((lft x (2 ^ 63) c:Nat):Int))) (fun k=>?_) (Ev.now _);unfold gy.f lft;rw[e]
 by_cases h1:2 ^ 63<x
 ·rw[if_pos (by omega),if_pos h1,decide_eq_true (by omega)];rfl
 ·rw[if_neg (by omega),if_neg h1]
  by_cases h2:x=2 ^ 63
  ·rw[if_pos (by omega),if_pos h2]
   cases c
   ·simp only[gy.j0]
    rw[if_neg (by simp),if_pos (by omega)];rfl
   ·simp only[gy.j0];rfl
  ·rw[if_neg (by omega),if_neg h2]
   simp only[gy.j0];rw[if_neg (by simp),if_neg (by omega)]
   by_cases h3:0<x
   ·rw[if_pos (by omega),if_pos (.inl h3)];rfl
   ·rw[if_neg (by omega)]
    cases c
    ·rw[if_neg (by simp),if_neg (by simp;omega)];rfl
    ·rw[if_pos rfl,if_pos (.inr rfl)];rfl
theorem aab (V k:Nat)(hV:V<2 ^ 128)(hk:k≤128):∃ b,Ev (fun n=>jA.f n (hiI V) (loI V) (k:Int)) (hiI (V*2 ^ k % 2 ^ 128),loI (V*2 ^ k % 2 ^ 128),b,none):=by
 have hm:mn (k:Int) 128=(k:Int):=by unfold mn;rw[if_neg (by omega)]
 obtain⟨h1,h2⟩:=Gt hV;rw[p64]at h1 h2
 by_cases hz:V / 2 ^ 64 > 0
 ·refine⟨decide (wrap64 (64+(Lib.bitLen (V / 2 ^ 64):Int)) > wrap64 (128-(k:Int))),0,fun n _=>?_⟩
  unfold jA.f oD.f bits_Len64.f hiI loI;rw[if_neg (by omega),hm];rw[show (some (_:Int × Int × Bool × Option Int))=_ from rfl];have:=qY V k hV hk;unfold hiI loI at this;rw[this];simp only[Option.bind_some];rw[if_pos (by omega),if_pos (by omega)];simp only[Option.bind_some,Int.toNat_natCast]
 ·refine⟨decide ((Lib.bitLen (V % 2 ^ 64):Int) > wrap64 (128-(k:Int))),0,fun n _=>?_⟩
  unfold jA.f oD.f bits_Len64.f hiI loI;rw[if_neg (by omega),hm];have:=qY V k hV hk;unfold hiI loI at this;rw[this];simp only[Option.bind_some];rw[if_neg (by omega),if_pos (by omega)];simp only[Option.bind_some,Int.toNat_natCast]
theorem acn (n W:Nat)(c:Bool)(hn:1≤n)(hn2:n≤64)(hW:W<2 ^ 128):Ev (fun k=>bI.j3 k (n:Int) c (hiI W) (loI W)) (((W / 2 ^ (129-n):Nat):Int),((lft (W % 2 ^ (129-n)) (2 ^ (128-n)) c:Nat):Int),none):=by
 obtain⟨b,hb⟩:=aab W (n-1) hW (by omega);have hl:=agC (W:=W) (c:=c) hn hn2
 have e1:W*2 ^ (n-1) % 2 ^ 128=W % 2 ^ (129-n)*2 ^ (n-1):=by
  rw[show (2:Nat) ^ 128=2 ^ (129-n)*2 ^ (n-1) by rw[← Nat.pow_add];congr 1;omega,Nat.mul_mod_mul_right]
 rw[e1]at hb
 have e2:shr .u64 (hiI W) ((65-n:Nat):Int)=((W / 2 ^ (129-n):Nat):Int):=by
  unfold hiI;rw[Aj _ _ (Gt hW).1,Nat.div_div_eq_div_mul, ← Nat.pow_add];congr 3;omega
 obtain⟨Y,hY⟩:∃ Y,W % 2 ^ (129-n)*2 ^ (n-1)=Y:=⟨_,rfl⟩
 rw[hY]at hb hl;refine Ev.step (f:=fun k=>(jA.f k (hiI W) (loI W) ((n-1:Nat):Int)).bind fun bt=>(if bt.2.1=0 then ((gy.f k bt.1 c).bind fun t=>(some (shr .u64 (hiI W) ((65-n:Nat):Int),t,(none:Option Int)))) else ((gy.f k bt.1 true).bind fun t=>(some (shr .u64 (hiI W) ((65-n:Nat):Int),t,none))))) (fun k=>?_) (Ev.bind hb ?_)
 ·simp only[bI.j3]
  rw[qm (by omega) (by omega),if_pos (by omega),qm (by omega) (by omega),show (65-(n:Int))=((65-n:Nat):Int) by omega,show ((n:Int)-1)=((n-1:Nat):Int) by omega]
 ·rw[← hl]
  by_cases hz:Y % 2 ^ 64=0
  ·refine Ev.congr (f:=fun k=>(gy.f k (hiI Y) c).bind fun t=>(some (shr .u64 (hiI W) ((65-n:Nat):Int),t,(none:Option Int)))) (fun k=>if_pos (by unfold loI;rw[hz];rfl)) ?_
   refine Ev.bind (Ji (Y / 2 ^ 64) c) ?_;rw[e2,hz]
   have:(c || decide (0≠0))=c:=by simp
   rw[this];exact Ev.now _
  ·refine Ev.congr (f:=fun k=>(gy.f k (hiI Y) true).bind fun t=>(some (shr .u64 (hiI W) ((65-n:Nat):Int),t,(none:Option Int)))) (fun k=>if_neg (fun h=>hz (Int.natCast_eq_zero.1 h))) ?_
   refine Ev.bind (Ji (Y / 2 ^ 64) true) ?_;rw[e2]
   have:(c || decide (Y % 2 ^ 64≠0))=true:=by simp[hz]
   rw[this];exact Ev.now _
theorem Ox {W X L:Nat}{c c0:Bool}(h:Rel W c X L c0)(hX:X<2 ^ L):W<2 ^ 128:=by
 obtain⟨z,h1,h2,_⟩:=h;have:2 ^ 128*X<2 ^ 128*2 ^ L:=Nat.mul_lt_mul_of_pos_left hX (Nat.two_pow_pos _);exact Nat.lt_of_mul_lt_mul_right (a:=2 ^ L) (by omega)
theorem Jp {b X L m:Nat}(hb:b<2 ^ m)(hX:X<2 ^ L):b*2 ^ L+X<2 ^ (L+m):=by
 have h:(b+1)*2 ^ L≤2 ^ m*2 ^ L:=Nat.mul_le_mul_right _ hb;rw[Nat.pow_add,Nat.mul_comm (2 ^ L)];rw[Nat.add_mul]at h
 omega
theorem Yr (n m:Nat)(R:Int × Int × Option Int)(c0:Bool)(hm:m≤9223372036854775806):∀ (d i W:Nat) (c:Bool) (X L:Nat),i+d=m→Rel W c X L c0→X<2 ^ L →
  (∀ W' c',Rel W' c' ((2 ^ d-1)*2 ^ L+X) (L+d) c0→Ev (fun k=>bI.j3 k (n:Int) c' (hiI W') (loI W')) R) →
  Ev (fun k=>bI.l0 k (n:Int) c (m:Int) (i:Int) (hiI W) (loI W)) R:=by
 intro d
 induction d with
 | zero =>
  intro i W c X L hi hR hX next;have h:=next W c (by rw[Nat.pow_zero,Nat.sub_self,Nat.zero_mul,Nat.zero_add,Nat.add_zero];exact hR);exact Ev.step (f:=fun k=>bI.j3 k (n:Int) c (hiI W) (loI W)) (fun k=>by simp only[bI.l0];rw[if_neg (by omega)]) h
 | succ d ih =>
  intro i W c X L hi hR hX next;have hu:=ul W 1 1 c (Ox hR hX) (by omega) (by omega) (by omega);have h2:=Rel.under hR 1 1 (by omega);have hX2:=Jp (b:=1) (m:=1) (by omega) hX;refine Ev.step (f:=fun k=>bI.l0 k (n:Int) (c || decide (W % 2 ^ 1≠0)) (m:Int) ((i+1:Nat):Int) (hiI (W / 2 ^ 1+1*2 ^ (128-1))) (loI (W / 2 ^ 1+1*2 ^ (128-1)))) (fun k=>?_) (ih (i+1) _ _ _ _ (by omega) h2 hX2 ?_)
  ·simp only[bI.l0]
   rw[if_pos (by omega)];have hu':cu.f (hiI W) (loI W) 1 1 c=_:=hu;rw[hu'];simp only[Option.bind_some];rw[qm (by omega) (by omega)];rfl
  ·intro W' c' h
   refine next W' c' ?_
   have e1:(2 ^ d-1)*2 ^ (L+1)+(1*2 ^ L+X)=(2 ^ (d+1)-1)*2 ^ L+X:=by
    have hp:=Nat.two_pow_pos d;rw[Nat.pow_succ 2 L,Nat.mul_comm (2 ^ L) 2, ← Nat.mul_assoc, ← Nat.add_assoc, ← Nat.add_mul,Nat.pow_succ 2 d]
    congr 2;omega
   rw[e1,show L+1+d=L+(d+1) by omega]at h;exact h
theorem Ll (n m:Nat)(R:Int × Int × Option Int)(c0:Bool)(hm:m≤9223372036854775806):∀ (d i W:Nat) (c:Bool) (X L:Nat),i+d=m→Rel W c X L c0→X<2 ^ L →
  (∀ W' c',Rel W' c' X (L+d) c0→Ev (fun k=>bI.j3 k (n:Int) c' (hiI W') (loI W')) R) →
  Ev (fun k=>bI.l1 k (n:Int) c (m:Int) (i:Int) (hiI W) (loI W)) R:=by
 intro d
 induction d with
 | zero =>
  intro i W c X L hi hR hX next;have h:=next W c (by rw[Nat.add_zero];exact hR);exact Ev.step (f:=fun k=>bI.j3 k (n:Int) c (hiI W) (loI W)) (fun k=>by simp only[bI.l1];rw[if_neg (by omega)]) h
 | succ d ih =>
  intro i W c X L hi hR hX next;have hu:=ul W 0 1 c (Ox hR hX) (by omega) (by omega) (by omega);have h2:=Rel.under hR 0 1 (by omega);have hX2:=Jp (b:=0) (m:=1) (by omega) hX;simp only[Nat.zero_mul,Nat.zero_add,Nat.add_zero]at h2 hX2 hu;refine Ev.step (f:=fun k=>bI.l1 k (n:Int) (c || decide (W % 2 ^ 1≠0)) (m:Int) ((i+1:Nat):Int) (hiI (W / 2 ^ 1)) (loI (W / 2 ^ 1))) (fun k=>?_) (ih (i+1) _ _ _ _ (by omega) h2 hX2 ?_)
  ·simp only[bI.l1]
   rw[if_pos (by omega)];have hu':cu.f (hiI W) (loI W) 0 1 c=_:=hu;rw[hu'];simp only[Option.bind_some];rw[qm (by omega) (by omega)];rfl
  ·intro W' c' h
   rw[show L+1+d=L+(d+1) by omega]at h;exact next W' c' h
theorem XF {p:Prop}[Decidable p]{α:Type}{a b c d:α}(h1:a=c)(h2:b=d):(if p then a else b)=if p then c else d:=by rw[h1,h2]
def Wd (n:Nat):Prop:=n=8∨n=16∨n=32∨n=64
theorem Wd.bounds {n:Nat}(h:Wd n):8≤n∧n≤64:=by rcases h with rfl|rfl|rfl|rfl <;> omega
theorem XA (n:Int):Go.bits .and .i64 n 3=n % 4:=by
 have h3:(BitVec.ofInt 64 3).toNat=2 ^ 2-1:=by decide
 have key:(BitVec.ofInt 64 n &&& BitVec.ofInt 64 3).toNat=(n % ((2 ^ 64:Nat):Int)).toNat % 2 ^ 2:=by
  rw[BitVec.toNat_and,BitVec.toNat_ofInt,h3,Nat.and_two_pow_sub_one_eq_mod]
 show IntKind.i64.wrap ((BitVec.ofInt 64 n &&& BitVec.ofInt 64 3).toNat:Nat)=n % 4;rw[key,IntKind.wrap_i64]
 omega
theorem abw {n:Nat}(h:Wd n):xn.f (n:Int)=some ((n:Int),((2 ^ (n-1)-1:Nat):Int),1,((2 ^ (n-1):Nat):Int),top n,none):=by
 rcases h with rfl|rfl|rfl|rfl <;> decide +kernel
theorem Gu {n:Nat}(h:Wd n):oz.f (n:Int)=some true:=by
 rcases h with rfl|rfl|rfl|rfl <;> decide
theorem CW {n:Nat}(h:Wd n)(p:Nat)(hp:p<2 ^ 64):fE.f (n:Int) (p:Int)=some (((p % 2 ^ n:Nat):Int),none):=by
 obtain⟨h8,h64⟩:=h.bounds
 have hm:um.f (n:Int)=some (((2 ^ n-1:Nat):Int),none):=by rcases h with rfl|rfl|rfl|rfl <;> decide +kernel
 unfold fE.f;rw[Gu h];simp only[Option.bind_some,if_true];rw[hm];simp only[Option.bind_some];rw[RN _ _ hp h64]
theorem Jo {s:Int}(h1 : -1099511627776≤s)(h2:s≤1099511627776):mg.f s=some s:=by
 unfold mg.f mx mn
 congr 1
 split <;> split <;> omega
theorem Ph {s hi lo:Int}{neg rest:Bool}(h1 : -1099511627776≤s)(h2:s≤1099511627776)(hh:9223372036854775808≤hi)(hh2:hi<18446744073709551616):Ev (fun k=>fB.f k 1 neg s hi lo rest) true:=by
 refine Ev.step (f:=fun k=>some true) (fun k=>?_) (Ev.now _);unfold fB.f;rw[if_neg (by decide)];simp only[fB.j0];rw[if_neg (by decide),if_pos True.intro,if_pos (by omega),Jo h1 h2];simp
theorem afz {n:Nat}(hn:8≤n)(hn2:n≤64)(kind:Int)(neg:Bool){s:Int}(hs1 : -1000000≤s)(hs2:s≤1000000){T:Nat}(hT1:2 ^ 127≤T)(hT2:T<2 ^ 128)(rest:Bool) :
  Ev (fun k=>bI.j0 k (n:Int) kind neg s (hiI T) (loI T) rest) ((BP n s 127 T:Int),(JA n s 127 T rest:Int),none):=by
 obtain⟨b,hb⟩:=aab T 1 hT2 (by omega)
 have e1:T*2 ^ 1 % 2 ^ 128=2*(T-2 ^ 127):=by omega
 rw[e1]at hb
 obtain⟨f,hf⟩:∃ f,T-2 ^ 127=f:=⟨_,rfl⟩
 have hf2:f<2 ^ 127:=by omega
 rw[hf]at hb
 obtain⟨e,he⟩:∃ e:Nat,s % 4=e:=⟨(s % 4).toNat,by omega⟩
 have he4:e<2 ^ 2:=by omega
 have r0:Rel (2*f) rest f 127 rest:=Rel.start rest;have r1:=r0.under e 2 (by omega);have x1:=Jp (b:=e) (m:=2) he4 hf2;have u1:=ul (2*f) e 2 rest (by omega) he4 (by omega) (by omega)
 obtain⟨W1,hW1⟩:∃ W,2*f / 2 ^ 2+e*2 ^ (128-2)=W:=⟨_,rfl⟩
 obtain⟨c1,hc1⟩:∃ c,(rest || decide (2*f % 2 ^ 2≠0))=c:=⟨_,rfl⟩
 rw[hW1,hc1]at r1 u1
 have hband:IntKind.u64.wrap (Go.bits .and .i64 s 3)=(e:Int):=by rw[XA,he,IntKind.wrap_u64];omega
 have hL:hL s=Tj s+2:=rfl
 -- the end: the cut of the whole string
 have fin:∀ (X L:Nat),X=zX s 127 T→L=TA.hL s+127→∀ W' c',Rel W' c' X L rest→X<2 ^ L→Ev (fun k=>bI.j3 k (n:Int) c' (hiI W') (loI W')) ((BP n s 127 T:Int),(JA n s 127 T rest:Int),none):=by
  intro X L hX hLL W' c' hR hXl;have h:=UZ s;obtain⟨a1,a2⟩:=hR.cut (n:=n) (by omega) (by omega) (by omega);have h3:=acn n W' c' (by omega) hn2 (Ox hR hXl);rw[a1,a2,hX,hLL]at h3;exact h3
 have hxl:zX s 127 T<2 ^ (TA.hL s+127):=by
  unfold zX;rw[hf];have:=Xx s;have h3:(hV s+1)*2 ^ 127≤2 ^ TA.hL s*2 ^ 127:=Nat.mul_le_mul_right _ this;rw[Nat.pow_add];rw[Nat.add_mul,Nat.one_mul]at h3;exact Nat.lt_of_lt_of_le (Nat.add_lt_add_left hf2 _) h3
 refine Ev.step (f:=fun k=>(jA.f k (hiI T) (loI T) ((1:Nat):Int)).bind fun bt=>((cu.f bt.1 bt.2.1 (e:Int) 2 rest).bind fun bt2=>(if (s / 4)≥0 then ((cu.f bt2.1 bt2.2.1 0 1 bt2.2.2).bind fun bt3=>(bI.l0 k (n:Int) bt3.2.2 (wrap64 ((s / 4)+1)) 0 bt3.1 bt3.2.1)) else ((cu.f bt2.1 bt2.2.1 1 1 bt2.2.2).bind fun bt3=>(bI.l1 k (n:Int) bt3.2.2 (wrap64 (-(s / 4))) 0 bt3.1 bt3.2.1))))) (fun k=>by simp only[bI.j0];rw[hband];rfl) (Ev.bind hb ?_);have u1':cu.f (hiI (2*f)) (loI (2*f)) (e:Int) 2 rest=some (hiI W1,loI W1,c1):=u1;simp only[u1',Option.bind_some];have axw:=Ox r1 x1
 by_cases hk:0≤s / 4
 ·obtain⟨k4,hk4⟩:∃ k4:Nat,s / 4=k4:=⟨(s / 4).toNat,by omega⟩
  have r2:=r1.under 0 1 (by omega);have x2:=Jp (b:=0) (m:=1) (by omega) x1;have u2:=ul W1 0 1 c1 axw (by omega) (by omega) (by omega);simp only[Nat.zero_mul,Nat.zero_add,Nat.add_zero]at r2 x2 u2;have u2':cu.f (hiI W1) (loI W1) 0 1 c1=_:=u2;simp only[if_pos hk,u2',Option.bind_some];rw[hk4,qm (by omega) (by omega),show (k4:Int)+1=((k4+1:Nat):Int) by omega]
  have hXe:(2 ^ (k4+1)-1)*2 ^ (127+2+1)+(e*2 ^ 127+f)=zX s 127 T:=by
   unfold zX hV aac;rw[hf,if_pos hk,hk4,he,Int.toNat_natCast,Int.toNat_natCast,show k4+2=(k4+1)+1 by omega,Nat.pow_succ 2 (k4+1)];have:=Nat.two_pow_pos (k4+1)
   omega
  have hLe:127+2+1+(k4+1)=TA.hL s+127:=by unfold TA.hL Tj;rw[if_pos hk,hk4,Int.toNat_natCast];omega
  refine Yr n (k4+1) _ rest (by omega) (k4+1) 0 _ _ _ _ (by omega) r2 x2 (fun W' c' h=>?_);rw[hXe,hLe]at h;exact fin _ _ rfl rfl W' c' h hxl
 ·obtain⟨k4,hk4⟩:∃ k4:Nat, -(s / 4)=k4:=⟨(-(s / 4)).toNat,by omega⟩
  have r2:=r1.under 1 1 (by omega);have x2:=Jp (b:=1) (m:=1) (by omega) x1;have u2:=ul W1 1 1 c1 axw (by omega) (by omega) (by omega);have u2':cu.f (hiI W1) (loI W1) 1 1 c1=_:=u2;simp only[if_neg (show ¬ (s / 4≥0) from hk),u2',Option.bind_some];rw[hk4,qm (by omega) (by omega)]
  have hXe:1*2 ^ (127+2)+(e*2 ^ 127+f)=zX s 127 T:=by
   unfold zX hV aac;rw[hf,if_neg hk,he,Int.toNat_natCast]
   omega
  have hLe:127+2+1+k4=TA.hL s+127:=by unfold TA.hL Tj;rw[if_neg hk,hk4,Int.toNat_natCast];omega
  refine Ll n k4 _ rest (by omega) k4 0 _ _ _ _ (by omega) r2 x2 (fun W' c' h=>?_);rw[hXe,hLe]at h;exact fin _ _ rfl rfl W' c' h hxl
def Ov (n:Nat)(s:Int)(T:Nat)(c:Bool):Nat:=if top n≤s then 2 ^ (n-1)-1 else if s < -top n then 1 else rnd (BP n s 127 T) (JA n s 127 T c)
def pF (n:Nat)(s:Int)(T:Nat)(c:Bool):Nat × Nat:=if top n≤s then (2 ^ (n-1)-1,0) else if s < -top n∨(s = -top n∧T=2 ^ 127∧c=false) then (1,0) else (BP n s 127 T,JA n s 127 T c)
theorem aby {n:Nat}(hn:8≤n)(hn2:n≤64):BP n (-top n) 127 (2 ^ 127)=1∧JA n (-top n) 127 (2 ^ 127) false=0:=by
 have h1 : -top n / 4 = -((n:Int)-2):=by unfold top;omega
 have h2 : -top n % 4=0:=by unfold top;omega
 have hv:hV (-top n)=4:=by
  unfold hV aac;rw[h1,h2,if_neg (by omega)];rfl
 have hl:TA.hL (-top n)=n+1:=by
  unfold TA.hL Tj;rw[h1,if_neg (by omega)];omega
 have hx:zX (-top n) 127 (2 ^ 127)=2 ^ 129:=by unfold zX;rw[hv,Nat.sub_self]
 have hc:xH n (-top n) 127=129:=by unfold xH;rw[hl];omega
 unfold BP JA;rw[hx,hc];exact⟨Nat.div_self (Nat.two_pow_pos _),by rw[Nat.mod_self];rfl⟩
theorem JH {n:Nat}(hn:8≤n)(hn2:n≤64)(s:Int)(T:Nat)(c:Bool):rnd (pF n s T c).1 (pF n s T c).2=Ov n s T c:=by
 unfold pF Ov
 by_cases h1:top n≤s
 ·rw[if_pos h1,if_pos h1];rfl
 ·rw[if_neg h1,if_neg h1]
  by_cases h2:s < -top n
  ·rw[if_pos (.inl h2),if_pos h2];rfl
  ·rw[if_neg h2]
   by_cases h3:s = -top n∧T=2 ^ 127∧c=false
   ·rw[if_pos (.inr h3)]
    obtain⟨a,b,d⟩:=h3;obtain⟨k1,k2⟩:=aby hn hn2;rw[a,b,d,k1,k2]
   ·rw[if_neg (fun a=>a.elim h2 h3)]
theorem aak {T:Nat}(h:2 ^ 127≤T)(h2:T<2 ^ 128):9223372036854775808≤hiI T∧hiI T<18446744073709551616:=by unfold hiI;omega
theorem agl {n:Nat}(hw:Wd n)(neg:Bool){s:Int}(hs1 : -1000000≤s)(hs2:s≤1000000){T:Nat}(hT1:2 ^ 127≤T)(hT2:T<2 ^ 128)(rest:Bool) :
  Ev (fun k=>bI.f k (n:Int) 1 neg s (hiI T) (loI T) rest) (((pF n s T rest).1:Int),((pF n s T rest).2:Int),none):=by
 obtain⟨h8,h64⟩:=hw.bounds;obtain⟨g1,g2⟩:=aak hT1 hT2;have ht:top n=4*(n:Int)-8:=rfl;have hj:=afz h8 h64 1 neg hs1 hs2 hT1 hT2 rest;refine Ev.congr (f:=fun k=>(fB.f k 1 neg s (hiI T) (loI T) rest).bind fun t=>(if t=true then (if top n≤s then some (((2 ^ (n-1)-1:Nat):Int),(0:Int),(none:Option Int)) else if s < -top n∨(s = -top n∧T=2 ^ 127∧rest=false) then some (1,0,none) else bI.j0 k (n:Int) 1 neg s (hiI T) (loI T) rest) else some (0,0,some 1))) (fun k=>?_) (Ev.bind (Ph (by omega) (by omega) g1 g2) ?_)
 ·unfold bI.f
  rw[abw hw];simp only[Option.bind_some,Option.isNone_none,if_true]
  congr 1
  funext t
  refine XF ?_ rfl;rw[if_neg (by decide),if_neg (by decide),qm (by omega) (by omega)];refine XF rfl ?_
  by_cases c1:s < -top n
  ·rw[if_pos c1,if_pos (.inl c1)]
  ·rw[if_neg c1]
   by_cases c2:s = -top n
   ·rw[if_pos c2]
    by_cases c3:T=2 ^ 127
    ·rw[if_pos (by rw[c3];rfl),if_pos (by rw[c3];rfl)]
     cases rest
     ·rw[if_neg (by decide),if_pos (.inr ⟨c2,c3,rfl⟩)]
     ·rw[if_pos rfl,if_neg (by simp[c1])]
    ·rw[if_neg (show ¬ (s < -top n∨(s = -top n∧T=2 ^ 127∧rest=false)) by simp[c1,c3])]
     by_cases c4:hiI T=9223372036854775808
     ·rw[if_pos c4,if_neg]
      intro c5
      apply c3
      unfold hiI at c4;unfold loI at c5
      omega
     ·rw[if_neg c4]
   ·rw[if_neg c2,if_neg (by simp[c1,c2])]
 ·unfold pF
  by_cases c0:top n≤s
  ·simp only[if_pos c0,if_true];exact Ev.now _
  ·by_cases c1:s < -top n∨(s = -top n∧T=2 ^ 127∧rest=false)
   ·simp only[if_neg c0,if_pos c1,if_true];exact Ev.now _
   ·simp only[if_neg c0,if_neg c1,if_true];exact hj
theorem NG {p:Nat}(h:p<2 ^ 64):IntKind.u64.wrap (-(p:Int))=(((2 ^ 64-p) % 2 ^ 64:Nat):Int):=by rw[IntKind.wrap_u64];omega
theorem Sv {n p:Nat}(hn:n≤64)(hp:p≤2 ^ n):(2 ^ 64-p) % 2 ^ 64 % 2 ^ n=(2 ^ n-p) % 2 ^ n:=by
 have e:(2:Nat) ^ 64=2 ^ n*2 ^ (64-n):=by rw[← Nat.pow_add];congr 1;omega
 have h1:1≤2 ^ (64-n):=Nat.two_pow_pos _
 obtain⟨q,hq⟩:∃ q,2 ^ (64-n)=q+1:=⟨2 ^ (64-n)-1,by omega⟩
 rw[Nat.mod_mod_of_dvd _ ⟨2 ^ (64-n),e⟩,e,hq,Nat.mul_add,Nat.mul_one,Nat.add_sub_assoc hp,Nat.mul_add_mod]
theorem N7 {n:Nat}(h:Wd n)(p:Nat)(hp:p≤2 ^ (n-1)):fE.f (n:Int) (IntKind.u64.wrap (-(p:Int)))=some (((sgn n true p:Nat):Int),none):=by
 obtain⟨h8,h64⟩:=h.bounds;have h1:2 ^ (n-1)≤2 ^ 63:=Nat.pow_le_pow_right (by omega) (by omega);have h2:2 ^ (n-1)≤2 ^ n:=Nat.pow_le_pow_right (by omega) (by omega);rw[NG (by omega),CW h _ (Nat.mod_lt _ (Nat.two_pow_pos _)),Sv h64 (by omega)]
 rfl
theorem Oo {n:Nat}(h:Wd n)(p:Nat)(hp:p≤2 ^ (n-1)):fE.f (n:Int) (p:Int)=some (((sgn n false p:Nat):Int),none):=by
 obtain⟨h8,h64⟩:=h.bounds;have h1:2 ^ (n-1)≤2 ^ 63:=Nat.pow_le_pow_right (by omega) (by omega);rw[CW h _ (by omega)]
 rfl
theorem u64_and1 {p:Nat}(hp:p<2 ^ 64):Go.bits .and .u64 (p:Int) 1=((p % 2:Nat):Int):=RN p 1 hp (by omega)
theorem XJ {n:Nat}(hw:Wd n)(neg:Bool)(kind s hi lo:Int)(rest:Bool){P Q:Nat}(hP:P<2 ^ (n-1))(hQ:Q≤3)(h:Ev (fun k=>bI.f k (n:Int) kind neg s hi lo rest) ((P:Int),(Q:Int),none)) :
  Ev (fun k=>kP.f k (n:Int) kind neg s hi lo rest) (((sgn n neg (rnd P Q):Nat):Int),none):=by
 obtain⟨h8,h64⟩:=hw.bounds;have h1:2 ^ (n-1)≤2 ^ 63:=Nat.pow_le_pow_right (by omega) (by omega)
 have e1:IntKind.u64.wrap ((P:Int)+1)=((P+1:Nat):Int):=by rw[IntKind.wrap_u64];omega
 have f1:=Oo hw P (by omega);have f2:=Oo hw (P+1) (by omega);have f3:=N7 hw P (by omega);have f4:=N7 hw (P+1) (by omega);have ha:=u64_and1 (p:=P) (by omega);refine Ev.congr (f:=fun k=>(bI.f k (n:Int) kind neg s hi lo rest).bind fun bt=>(if bt=((P:Int),(Q:Int),none) then some (((sgn n neg (rnd P Q):Nat):Int),(none:Option Int)) else kP.f k (n:Int) kind neg s hi lo rest)) (fun k=>?_) (Ev.bind h (by simp only[if_true];exact Ev.now _))
 cases hc:bI.f k (n:Int) kind neg s hi lo rest with
 | none=>unfold kP.f;rw[hc];rfl
 | some bt =>
  simp only[Option.bind_some]
  by_cases hb:bt=((P:Int),(Q:Int),none)
  ·rw[if_pos hb]
   unfold kP.f;rw[hc,hb];simp only[Option.bind_some,Option.isNone_none,if_true];rw[e1,ha,f1,f2,f3,f4];unfold rnd
   have hq:Q=0∨Q=1∨Q=2∨Q=3:=by omega
   rcases Nat.mod_two_eq_zero_or_one P with hp|hp <;> rcases hq with rfl|rfl|rfl|rfl <;> cases neg <;> simp[hp]
  ·rw[if_neg hb]
theorem af8 (r h:Nat)(c:Bool):lft r h c≤3:=by unfold lft;split <;> (try split) <;> (try split) <;> omega
theorem abN {n:Nat}(hn:1≤n)(s:Int){F T:Nat}(hT:T<2 ^ (F+1))(hL:n-1≤TA.hL s+F):BP n s F T<2 ^ (n-1):=by
 have h:=Xx s;have h3:(hV s+1)*2 ^ F≤2 ^ TA.hL s*2 ^ F:=Nat.mul_le_mul_right _ h;rw[Nat.add_mul,Nat.one_mul]at h3;unfold BP;rw[Nat.div_lt_iff_lt_mul (Nat.two_pow_pos _), ← Nat.pow_add,show n-1+xH n s F=TA.hL s+F by unfold xH;omega,Nat.pow_add];refine Nat.lt_of_lt_of_le (Nat.add_lt_add_left ?_ _) h3;rw[Nat.pow_succ]at hT
 omega
theorem Yc {n:Nat}(hw:Wd n)(neg:Bool){s:Int}(hs1 : -1000000≤s)(hs2:s≤1000000){T:Nat}(hT1:2 ^ 127≤T)(hT2:T<2 ^ 128)(rest:Bool) :
  Ev (fun k=>kP.f k (n:Int) 1 neg s (hiI T) (loI T) rest) (((sgn n neg (Ov n s T rest):Nat):Int),none):=by
 obtain⟨h8,h64⟩:=hw.bounds;have h1:2 ^ 7≤2 ^ (n-1):=Nat.pow_le_pow_right (by omega) (by omega)
 have hp:(pF n s T rest).1<2 ^ (n-1)∧(pF n s T rest).2≤3:=by
  have hn1:1≤n:=by omega
  have hk:n-1≤TA.hL s+127:=by omega
  have hT3:T<2 ^ (127+1):=hT2;have h4:=abN hn1 s hT3 hk
  have h5:JA n s 127 T rest≤3:=by unfold JA;exact af8 _ _ _
  have h0:pF n s T rest=(2 ^ (n-1)-1,0)∨pF n s T rest=(1,0)∨pF n s T rest=(BP n s 127 T,JA n s 127 T rest):=by
   unfold pF
   by_cases a:top n≤s
   ·rw[if_pos a];exact .inl rfl
   ·rw[if_neg a]
    by_cases b:s < -top n∨(s = -top n∧T=2 ^ 127∧rest=false)
    ·rw[if_pos b];exact .inr (.inl rfl)
    ·rw[if_neg b];exact .inr (.inr rfl)
  generalize BP n s 127 T=P at h4 h0;generalize JA n s 127 T rest=Q at h5 h0;clear hT1 hT2 hT3
  have hz:∀ z:Nat × Nat,z=(2 ^ (n-1)-1,0)∨z=(1,0)∨z=(P,Q)→z.1<2 ^ (n-1)∧z.2≤3:=by
   rintro z (rfl|rfl|rfl)
   ·exact⟨Nat.sub_lt (Nat.two_pow_pos _) (by decide),Nat.zero_le _⟩
   ·exact⟨Nat.lt_of_lt_of_le (by decide) h1,Nat.zero_le _⟩
   ·exact⟨h4,h5⟩
  exact hz _ h0
 have h:=XJ hw neg 1 s (hiI T) (loI T) rest hp.1 hp.2 (agl hw neg hs1 hs2 hT1 hT2 rest)
 rwa [JH h8 h64]at h
theorem Ot {n:Nat}(hn:8≤n)(hn2:n≤64){N C:Nat}{s:Int}{T:Nat}{c:Bool}(hT:2 ^ 127≤T)(h:Rep N C s (T / 2 ^ 64) (c || decide (T % 2 ^ 64≠0))):Ov n s T c=pos n s N C:=by
 have hl:=UZ s;unfold Ov pos;refine XF rfl (XF rfl ?_);have e1:=PY n s 63 64 T hT (by omega);have e2:=PR n s 63 64 T c hT (by omega);rw[show 63+64=127 from rfl]at e1 e2;rw[e1,e2];exact h.sig hn2
theorem bitLen_spec (b:Nat):∀ x:Nat,x<2 ^ b→b≤64→x<2 ^ Lib.bitLen x∧(x≠0→1≤Lib.bitLen x∧2 ^ (Lib.bitLen x-1)≤x):=by
 induction b with
 | zero =>
  intro x hx _
  have:x=0:=by simpa using hx
  subst this;exact⟨by decide,fun h=>absurd rfl h⟩
 | succ b ih =>
  intro x hx hb
  by_cases h0:x=0
  ·subst h0;exact⟨by decide,fun h=>absurd rfl h⟩
  ·have h64:x<2 ^ 64:=Nat.lt_of_lt_of_le hx (Nat.pow_le_pow_right (by omega) hb)
   have e:=Lib.bitLen_half x h0 h64
   have hh:x / 2<2 ^ b:=by rw[Nat.pow_succ]at hx;omega
   obtain⟨a1,a2⟩:=ih (x / 2) hh (by omega);rw[e,Nat.add_comm 1,Nat.pow_succ];refine⟨by omega,fun _=>⟨by omega,?_⟩⟩;rw[Nat.add_sub_cancel]
   by_cases h1:x / 2=0
   ·rw[h1];show 2 ^ 0≤x;omega
   ·obtain⟨a3,a4⟩:=a2 h1
    obtain⟨c,hc⟩:∃ c,Lib.bitLen (x / 2)=c+1:=⟨Lib.bitLen (x / 2)-1,by omega⟩
    rw[hc,Nat.add_sub_cancel]at a4;rw[hc,Nat.pow_succ];omega
theorem bitLen_eq {x b:Nat}(hb:b≤64)(h1:x<2 ^ b)(h2:b≠0→2 ^ (b-1)≤x):Lib.bitLen x=b:=by
 obtain⟨a1,a2⟩:=bitLen_spec b x h1 hb
 by_cases h0:b=0
 ·subst h0
  have:x=0:=by simpa using h1
  subst this;rfl
 ·have h3:=h2 h0
  have hx:x≠0:=by have:=Nat.two_pow_pos (b-1);omega
  obtain⟨a3,a4⟩:=a2 hx
  apply Nat.le_antisymm
  ·apply Nat.le_of_not_lt;intro h
   have:2 ^ b≤2 ^ (Lib.bitLen x-1):=Nat.pow_le_pow_right (by omega) (by omega)
   omega
  ·apply Nat.le_of_not_lt;intro h
   have:2 ^ Lib.bitLen x≤2 ^ (b-1):=Nat.pow_le_pow_right (by omega) (by omega)
   omega
theorem SN {n:Nat}(h:Wd n)(p:Nat)(hp:p<2 ^ 64):kY.f (n:Int) (p:Int)=some (if p % 2 ^ n=0 then 0 else if p % 2 ^ n=2 ^ (n-1) then 2 else 1,none):=by
 obtain⟨h8,h64⟩:=h.bounds;have hm:2 ^ (n-1)<2 ^ 64:=Nat.pow_lt_pow_right (by omega) (by omega);unfold kY.f;rw[CW h p hp];simp only[Option.bind_some,Option.isNone_none,if_true]
 by_cases h0:p % 2 ^ n=0
 ·rw[if_pos (by rw[h0];rfl),if_pos h0]
 ·rw[if_neg (fun e=>h0 (Int.natCast_eq_zero.1 e)),if_neg h0,qm (by omega) (by omega),if_pos (by omega),show ((n:Int)-1)=((n-1:Nat):Int) by omega]
  have e1:shl .u64 1 ((n-1:Nat):Int)=((2 ^ (n-1):Nat):Int):=by
   have:=xM 1 (n-1);rw[Nat.one_mul,Nat.mod_eq_of_lt hm]at this;exact this
  rw[e1]
  by_cases h1:p % 2 ^ n=2 ^ (n-1)
  ·rw[if_pos (by rw[h1]),if_pos h1]
  ·rw[if_neg (fun e=>h1 (Int.natCast_inj.1 e)),if_neg h1]
theorem NC {x b:Nat}(hb:b≤64)(h1:x<2 ^ b)(h2:b≠0→2 ^ (b-1)≤x):Ev (fun k=>bits_Len64.f k (x:Int)) (b:Int):=by
 have hx:x<2 ^ 64:=Nat.lt_of_lt_of_le h1 (Nat.pow_le_pow_right (by omega) hb);rw[p64]at hx;refine⟨0,fun k _=>?_⟩;unfold bits_Len64.f;rw[if_pos (by omega)];simp only[Int.toNat_natCast];rw[bitLen_eq hb h1 h2]
theorem afS {V b:Nat}(hb1:1≤b)(hb:b≤128)(h1:V<2 ^ b)(h2:2 ^ (b-1)≤V):Ev (fun k=>oD.f k (hiI V) (loI V)) (b:Int):=by
 by_cases hc:64<b
 ·have e1:2 ^ b=2 ^ (b-64)*2 ^ 64:=by rw[← Nat.pow_add];congr 1;omega
  have e2:2 ^ (b-1)=2 ^ (b-64-1)*2 ^ 64:=by rw[← Nat.pow_add];congr 1;omega
  have q1:V / 2 ^ 64<2 ^ (b-64):=by rw[Nat.div_lt_iff_lt_mul (two_pos _), ← e1];exact h1
  have q2:2 ^ (b-64-1)≤V / 2 ^ 64:=by rw[Nat.le_div_iff_mul_le (two_pos _), ← e2];exact h2
  have q3:=two_pos (b-64-1);unfold oD.f hiI
  have hp:((V / 2 ^ 64:Nat):Int) > 0:=by omega
  simp only[if_pos hp];refine Ev.bind (NC (by omega) q1 (fun _=>q2)) ?_;rw[qm (by omega) (by omega),show (64:Int)+((b-64:Nat):Int)=b by omega];exact Ev.now _
 ·have hV:V<2 ^ 64:=Nat.lt_of_lt_of_le h1 (Nat.pow_le_pow_right (by omega) (by omega))
  unfold oD.f hiI loI;rw[Nat.div_eq_of_lt hV,Nat.mod_eq_of_lt hV];simp only[show ¬ (((0:Nat):Int) > 0) by decide,if_false];refine Ev.bind (NC (by omega) h1 (fun _=>h2)) (Ev.now _)
theorem NU {V:Nat}(h:V≠0):(hiI V == 0 && (loI V == 0))=false:=by
 unfold hiI loI;rw[Bool.and_eq_false_iff,beq_eq_false_iff_ne,beq_eq_false_iff_ne]
 omega
theorem acj {V b:Nat}(hb1:1≤b)(hb:b≤128)(h1:V<2 ^ b)(h2:2 ^ (b-1)≤V):Ev (fun k=>pq.f k (hiI V) (loI V)) (hiI (V*2 ^ (128-b)),loI (V*2 ^ (128-b)),((128-b:Nat):Int)):=by
 have h0:V≠0:=by have:=two_pos (b-1);omega
 have hV:V<2 ^ 128:=Nat.lt_of_lt_of_le h1 (Nat.pow_le_pow_right (by omega) hb)
 have hm:V*2 ^ (128-b)<2 ^ 128:=by
  have e:(2:Nat) ^ 128=2 ^ b*2 ^ (128-b):=by rw[← Nat.pow_add];congr 1;omega
  rw[e];exact Nat.mul_lt_mul_of_pos_right h1 (two_pos _)
 unfold pq.f;simp only[NU h0,Bool.false_eq_true,if_false];refine Ev.bind (afS hb1 hb h1 h2) ?_;rw[qm (by omega) (by omega),show (128:Int)-(b:Int)=((128-b:Nat):Int) by omega,qY V (128-b) hV (by omega),Nat.mod_eq_of_lt hm];exact Ev.now _
theorem Uk {V b:Nat}(hb1:1≤b)(hb:b≤128)(h1:V<2 ^ b)(h2:2 ^ (b-1)≤V)(neg c:Bool)(hc:c=true→b=128){x:Int}(hx1 : -1000000≤x)(hx2:x≤1000000) :
  Ev (fun k=>dL.f k neg (hiI V) (loI V) x c) (1,neg,x+b-1,hiI (V*2 ^ (128-b)),loI (V*2 ^ (128-b)),c,none):=by
 have hj:Ev (fun k=>dL.j0 k neg (hiI V) (loI V) x c false) (1,neg,x+b-1,hiI (V*2 ^ (128-b)),loI (V*2 ^ (128-b)),c,none):=by
  have hbb:V*2 ^ (128-b)≠0:=by
   have a1:=two_pos (b-1);have a2:=two_pos (128-b);exact Nat.mul_ne_zero (by omega) (by omega)
  refine Ev.step (f:=fun k=>(pq.f k (hiI V) (loI V)).bind fun DC=>(if (DC.1 == 0 && (DC.2.1 == 0))=true then (some (0,false,0,0,0,false,none)) else ((mg.f (wrap64 ((wrap64 ((mx (-4398046511104) (mn x 4398046511104))+127))-DC.2.2))).bind fun aeY=>(some (1,neg,aeY,DC.1,DC.2.1,c,none))))) (fun k=>?_) ?_
  ·simp only[dL.j0,Bool.false_eq_true,if_false]
  ·refine Ev.bind (acj hb1 hb h1 h2) ?_
   simp only[NU hbb,Bool.false_eq_true,if_false]
   have e1:mx (-4398046511104) (mn x 4398046511104)=x:=by unfold mx mn;split <;> split <;> omega
   rw[e1,qm (x:=x+127) (by omega) (by omega),qm (by omega) (by omega),Jo (by omega) (by omega)];simp only[Option.bind_some];rw[show x+127-((128-b:Nat):Int)=x+b-1 by omega];exact Ev.now _
 unfold dL.f
 cases c with
 | false=>simpa using hj
 | true =>
  have hbb:=hc rfl;subst hbb
  have hh:((hiI V / 9223372036854775808) == 0)=false:=by
   rw[beq_eq_false_iff_ne];unfold hiI
   have e:(2:Nat) ^ (128-1)=9223372036854775808*2 ^ 64:=by decide
   rw[e]at h2;have:9223372036854775808≤V / 2 ^ 64:=(Nat.le_div_iff_mul_le (two_pos _)).2 h2
   omega
  simp only[hh,if_true];exact hj
end Go.Proofs.Yy.PTx
end
section
namespace Go.Proofs.Yy.PTx
open Go.RowKit Go.Proofs.Yw.PrintWords Go.Proofs.Yw.PrintLast Go.Proofs.Yw.PrintMore Go.Proofs.Yy.M Go.Proofs.Yy.NM
attribute [local irreducible] fK iG ji kQ val
theorem w64 {x:Int}(h0 : -9223372036854775808≤x)(h1:x≤9223372036854775807):wrap64 x=x:=by unfold wrap64;omega
theorem tJ {x:Int}(h0:0≤x)(h1:x≤18446744073709551615):IntKind.u64.wrap x=x:=IntWalk.u64_in x ⟨h0,h1⟩
theorem eF (l:List Int)(n:Nat):rd l (n:Int)=l.getD n 0:=by simp[rd]
theorem jw:0<B:=by have:=B1;omega
theorem abY {l:List Int}(h:Dig B l)(hL:l.length≤1099511627776):∀ n:Nat,n≤l.length→Ev (fun k=>bH.l0 k l (n:Int)) (enc B (val B (l.take n))):=by
 intro n
 induction n with
 | zero =>
  intro _;refine Ev.step (f:=fun _=>some []) (fun k=>?_) (by rw[List.take_zero,nG,eX];exact Ev.now _);simp only[bH.l0];rw[if_neg (by omega),if_pos (by omega),if_pos (by omega)];simp
 | succ n ih =>
  intro hn
  have hw:ae (wrap64 (((n+1:Nat):Int)-1)=(n:Int)):=⟨by rw[w64 (by omega) (by omega)];omega⟩
  have hd:=h.take (n+1)
  have ht:l.take (n+1)=l.take n ++ [l.getD n 0]:=by
   rw[List.take_succ_eq_append_getElem (by omega),List.getD_eq_getElem?_getD,List.getElem?_eq_getElem (by omega)];rfl
  rw[ht]at hd;have he:=Hu B1 hd;rw[← ht]at he
  by_cases h0:l.getD n 0=0
  ·rw[if_pos h0]at he
   rw[he];refine Ev.step (f:=fun k=>bH.l0 k l (n:Int)) (fun k=>?_) (ih (by omega));simp only[bH.l0];rw[hw.out,if_pos (by omega),if_pos (by omega),if_pos (by omega),eF,if_pos h0]
  ·rw[if_neg h0]at he
   rw[he];refine Ev.step (f:=fun _=>some (l.take (n+1))) (fun k=>?_) (Ev.now _);simp only[bH.l0];rw[hw.out,if_pos (by omega),if_pos (by omega),if_pos (by omega),eF,if_neg h0,if_pos (by omega),if_pos (by omega)]
   rfl
theorem og {l:List Int}(h:Dig B l)(hL:l.length≤1099511627776):Ev (fun k=>bH.f k l) (enc B (val B l)):=by
 have:=abY h hL l.length (Nat.le_refl _);rw[List.take_length]at this;exact this
theorem uj {x y c:Int}(hx:0≤x∧x<B)(hy:0≤y∧y<B)(hc:0≤c)(hc1:c≤1):fK x y c+B*iG x y c=x+y+c∧(0≤fK x y c∧fK x y c<B)∧0≤iG x y c∧iG x y c≤1:=by
 unfold fK iG;rw[uh]at *
 omega
theorem abe {a b:List Int}(ha:Dig B a)(hb:Dig B b)(hab:b.length≤a.length)(hL:a.length≤1099511627775):∀ (d i:Nat) (x:List Int) (c:Int),i+d=a.length→x.length=a.length+1→0≤c→c≤1→Dig B x →
  val B (x.take i)+pw B i*c=val B (a.take i)+val B (b.take i)→Ev (fun k=>gp.l0 k a b x c a (a.length:Int) (i:Int)) (enc B (val B a+val B b)):=by
 intro d
 induction d with
 | zero =>
  intro i x c hi hx h0 h1 hd hv;have hs:=Xu x a.length c hx;have hds:Dig B (x.set a.length c):=hd.set h0 (by rw[uh];omega)
  have hval:val B (x.set a.length c)=val B a+val B b:=by
   rw[hs,nC,List.length_take,Nat.min_eq_left (by omega)]
   have:i=a.length:=by omega
   subst this;rw[List.take_length,List.take_of_length_le hab]at hv;simp only[val,Int.mul_zero,Int.add_zero];exact hv
  refine Ev.step (f:=fun k=>(bH.f k (x.set a.length c)).bind fun t=>some t) (fun k=>?_) (Ev.bind (by rw[← hval];exact og hds (by simp;omega)) (Ev.now _));simp only[gp.l0];rw[if_neg (by omega),if_pos (by omega),if_pos (by omega)]
  rfl
 | succ d ih =>
  intro i x c hi hx h0 h1 hd hv
  have hw:ae (wrap64 ((i:Int)+1)=((i+1:Nat):Int)):=⟨by rw[w64 (by omega) (by omega)];omega⟩
  have hq:i<x.length:=by omega
  have hq2:i+1+d=a.length:=by omega
  obtain⟨hs,hlo,hh0,hh1⟩:=uj (ha.get jw i) (hb.get jw i) h0 h1
  have key:Ev (fun k=>gp.l0 k a b (x.set i (fK (a.getD i 0) (b.getD i 0) c)) (iG (a.getD i 0) (b.getD i 0) c) a (a.length:Int) ((i+1:Nat):Int)) (enc B (val B a+val B b)):=by
   refine ih (i+1) _ _ hq2 (by simpa using hx) hh0 hh1 (hd.set hlo.1 hlo.2) ?_;rw[rq B x i _ hq,eP B a,eP B b,fA];exact X9 hs hv
  by_cases hlt:i<b.length
  ·refine Ev.step (f:=fun k=>gp.l0 k a b (x.set i (fK (a.getD i 0) (b.getD i 0) c)) (iG (a.getD i 0) (b.getD i 0) c) a (a.length:Int) ((i+1:Nat):Int)) (fun k=>?_) key
   simp only[gp.l0];rw[hw.out,if_pos (by omega),if_pos (by omega),if_pos (by omega),if_pos (by omega),if_pos h1,if_pos (by omega),eF,eF]
   rfl
  ·have hb0:b.getD i 0=0:=by rw[List.getD_eq_getElem?_getD,List.getElem?_eq_none (by omega)];rfl
   rw[hb0]at key;refine Ev.step (f:=fun k=>gp.l0 k a b (x.set i (fK (a.getD i 0) 0 c)) (iG (a.getD i 0) 0 c) a (a.length:Int) ((i+1:Nat):Int)) (fun k=>?_) key;simp only[gp.l0];rw[hw.out,if_pos (by omega),if_pos (by omega),if_pos (by omega),if_neg (by omega),if_pos h1,if_pos (by omega),eF]
   rfl
theorem U2 {a b:List Int}(ha:Dig B a)(hb:Dig B b)(hab:b.length≤a.length)(hL:a.length≤1099511627775):Ev (fun k=>gp.j0 k a b) (enc B (val B a+val B b)):=by
 have hw:ae (wrap64 ((a.length:Int)+1)=((a.length+1:Nat):Int)):=⟨by rw[w64 (by omega) (by omega)];omega⟩
 refine Ev.step (f:=fun k=>gp.l0 k a b (List.replicate (a.length+1) 0) 0 a (a.length:Int) ((0:Nat):Int)) (fun k=>?_)
  (abe ha hb hab hL a.length 0 _ 0 (by omega) (by simp) (by omega) (by omega) (Dig.zeros jw _) (by simp[val,iW]))
 simp only[gp.j0];rw[hw.out,if_pos (by omega),Int.toNat_natCast,if_pos (by omega)]
 rfl
theorem aaU {a b:List Int}(ha:Dig B a)(hb:Dig B b)(hL:a.length≤1099511627775)(hM:b.length≤1099511627775):Ev (fun k=>gp.f k a b) (enc B (val B a+val B b)):=by
 by_cases h:a.length<b.length
 ·refine Ev.congr (f:=fun k=>gp.j0 k b a) (fun k=>?_) (by rw[Int.add_comm];exact U2 hb ha (by omega) hM)
  unfold gp.f;rw[if_pos (by omega)]
 ·refine Ev.congr (f:=fun k=>gp.j0 k a b) (fun k=>?_) (U2 ha hb (by omega) hL)
  unfold gp.f;rw[if_neg (by omega)]
end Go.Proofs.Yy.PTx
end
