/- Part 23 of what the proof needs. -/
import Derived.WalkMore
import Derived.Test.YtpfnkbnepcchgaaGreatDoorKTEAQ
import Derived.Test.YtpfnkbnepcchgaaGreatDoorKTEAV
set_option linter.unusedSimpArgs false
set_option linter.unusedVariables false
section
namespace Go.Proofs.Yy.PTx
open Go.RowKit Go.Proofs.Yw.PrintWords Go.Proofs.Yw.PrintLast Go.Proofs.Yw.PrintMore
def qi (k:Nat) (n:Int) (b0 b1:Bool) (l:ByteArray) (e own:Int):Nat→Nat→Option (Bool × Bool × ByteArray × Int)
 | 0,_=>some (b0,b1,l,e)
 | m+1,j =>
  (oz.f b0 b1 (l.extract 0 j) (wrap64 (wrap64 (e+l.size) - j))).bind fun h =>
  (qU.f k n b0 b1 (l.extract 0 j) (wrap64 (wrap64 (e+l.size) - j))).bind fun a =>
  (qU.f k n h.1 h.2.1 h.2.2.1 h.2.2.2).bind fun b =>
  if a.2=none∧b.2=none then
   if a.1=own∧(b.1≠own∨(l.extract j l.size).data.toList ≤ [53]) then some (b0,b1,l.extract 0 j,wrap64 (wrap64 (e+l.size) - j))
   else if b.1=own then some h else qi k n b0 b1 l e own m (j+1)
  else none
def tu.f (k:Nat) (a0 a1:Int):Option (ByteArray × Option Int) :=
 (aN.f k a0 a1).bind fun v=>if v.2.2.2.2=none∧8≤a0∧a0≤64 then
  if v.1=true∨v.2.2.1.toList = [48] then lN.f v.1 v.2.1 v.2.2.1 v.2.2.2.1
  else (qi k a0 v.1 v.2.1 v.2.2.1 v.2.2.2.1 (shr .u64 (shl .u64 a1 (64 - a0)) (64 - a0)) (v.2.2.1.size - 1) 1).bind fun b=>lN.f b.1 b.2.1 b.2.2.1 b.2.2.2
 else if v.2.2.2.2=none then none else some (⟨#[]⟩,some (v.2.2.2.2.getD 0))
theorem AC:∀ (x y:List UInt8),Op.bytesLess x y=decide (x<y)
 | [], []=>by simp [Op.bytesLess]
 | _ :: _, []=>by simp [Op.bytesLess]
 | [],_ :: _=>by simp [Op.bytesLess]
 | a :: x,b :: y=>by
  rw [Op.bytesLess,AC x y]
  simp only [List.cons_lt_cons_iff]
  by_cases h1:a<b <;> by_cases h2:a=b <;> by_cases h3:x<y <;> simp [h1,h2,h3]
theorem aaX (P:Program) (t:TypeId) (x y:ByteArray) (W:World):(binOp .gtr t (.string x) (.string y)).run P W = .ok (.bool (decide (y.data.toList<x.data.toList))) W:=by
 have h:(binOp .gtr t (.string x) (.string y)).run P W = .ok (.bool (!(Op.bytesLess x.toList y.toList || x.toList == y.toList))) W:=rfl
 rw [h,AC,Lib.toList_data,Lib.toList_data]
 congr 2
 by_cases h1:x.data.toList<y.data.toList
 ·have h2:¬ y.data.toList<x.data.toList:=List.lt_asymm h1
  simp [h1,h2]
 ·by_cases h3:x.data.toList=y.data.toList
  ·have h2:¬ y.data.toList<x.data.toList:=by rw [h3];exact List.lt_irrefl _
   simp [h2,h3]
  ·have h2:y.data.toList<x.data.toList:=by
    rcases List.le_iff_lt_or_eq.1 (show y.data.toList≤x.data.toList from h1) with h|h
    ·exact h
    ·exact absurd h.symm h3
   simp [h1,h2]
   exact fun e=>h3 (by rw [e])
theorem Ky {k:Nat} {n:Int} {b0 b1:Bool} {l:ByteArray} {e own:Int} {m j:Nat} {r:Bool × Bool × ByteArray × Int} (hm:m=(m - 1)+1) (h:qi k n b0 b1 l e own m j=some r) :
  ∃ h0 h1 hl he a b,oz.f b0 b1 (l.extract 0 j) (wrap64 (wrap64 (e+l.size) - j))=some (h0,h1,hl,he)∧qU.f k n b0 b1 (l.extract 0 j) (wrap64 (wrap64 (e+l.size) - j))=some (a,none)∧qU.f k n h0 h1 hl he=some (b,none) ∧
   (if a=own∧(b≠own∨(l.extract j l.size).data.toList ≤ [53]) then some (b0,b1,l.extract 0 j,wrap64 (wrap64 (e+l.size) - j)) else if b=own then some (h0,h1,hl,he) else qi k n b0 b1 l e own (m - 1) (j+1))=some r:=by
 rw [hm,qi] at h
 obtain ⟨⟨h0,h1,hl,he⟩,q1,h⟩:=Option.bind_eq_some_iff.mp h
 obtain ⟨⟨a,a2⟩,q2,h⟩:=Option.bind_eq_some_iff.mp h
 obtain ⟨⟨b,b2⟩,q3,h⟩:=Option.bind_eq_some_iff.mp h
 by_cases hc:a2=none∧b2=none
 case neg=>rw [if_neg hc] at h;exact absurd h (by simp)
 rw [if_pos hc] at h
 obtain ⟨rfl,rfl⟩:=hc
 exact ⟨h0,h1,hl,he,a,b,q1,q2,q3,h⟩
theorem Ir {a0 a1:Bool} {l:ByteArray} {e:Int} {r:Bool × Bool × ByteArray × Int} (h:oz.f a0 a1 l e=some r):l.size≤1048576:=by
 unfold oz.f at h
 by_cases hc:l.data.toList ≠ []∧l.size≤1048576
 ·exact hc.2
 ·rw [if_neg hc] at h;exact absurd h (by simp)
set_option maxHeartbeats 4000000 in
set_option maxRecDepth 100000 in
theorem KN (k:Nat) (n p:Int) (b0 b1:Bool) (l:ByteArray) (e own:Int) (c0 c1:Bool) (cl:ByteArray) (ce:Int) (r1:ByteArray) (r2:Option Int) (w:World) (htab:Fx.Laid w)
  (hd:aN.f k n p=some (b0,b1,l,e,none)) (h8:8≤n) (h64:n≤64) (hb0:b0=false) (hl:(l.toList == [48])=false) (hown:own=shr .u64 (shl .u64 p (64 - n)) (64 - n))
  (hgo:qi k n b0 b1 l e own (l.size - 1) 1=some (c0,c1,cl,ce)) (ht:lN.f c0 c1 cl ce=some (r1,r2)) :
  Calls Tryz.prog 20 #[.int .i64 n, .int .u64 p] w fun e' w'=>e' = .returned (.tuple #[.string r1,qm r2])∧Below w.heap.size w w':=by
 subst hb0
 have hkD:∀ W:World,Fx.Laid W→Calls Tryz.prog 16 #[.int .i64 n, .int .u64 p] W fun e' w'=>e' = .returned (.tuple #[.agg #[.bool false, .bool b1, .string l, .int .i64 e], .nilIface])∧Below W.heap.size W w':=fun W hW=>aN.calls k n p _ _ _ _ _ W hd hW
 have hkT:∀ W:World,Fx.Laid W→Calls Tryz.prog 30 #[.agg #[.bool c0, .bool c1, .string cl, .int .i64 ce]] W fun e' w'=>e' = .returned (.tuple #[.string r1,qm r2])∧Below W.heap.size W w':=fun W hW=>lN.calls _ _ _ _ _ _ W ht hW
 have HD:=Lib.hid hkD
 have HT:=Lib.hid hkT
 have HGO:=Lib.hid hgo
 have HOWN:=Lib.hid hown
 have HTAB:=Lib.hid htab
 clear hkD hkT hgo hd ht hown htab
 generalize qm r2=v2 at HT ⊢
 have ho:IntKind.u64.wrap (p * 2 ^ (64 - n).toNat) / 2 ^ (64 - n).toNat=own:=by
  have hm:min (64 - n).toNat IntKind.u64.bits=(64 - n).toNat:=by show min (64 - n).toNat 64=_;omega
  rw [HOWN.out]
  unfold shr shl
  rw [hm]
 go_enter Tryz.func20,Tryz.ntmps20
 go_wp2
 go_step3
 go_wp2_with (go_at_call 16;(with_reducible refine (HD.out _ HTAB.out).mono ?_);rintro e1 w1 ⟨rfl,hw1⟩)
 go_step3
 go_wp2
 go_loopw [10] (fun i w' => ∃ j:Nat,i = .int .i64 j∧1≤j∧ae (qi k n false b1 l e own (l.size - j) j=some (c0,c1,cl,ce))∧ae (w'.heap[w1.heap.size]? = some (.cells #[.bool false, .bool b1, .string l, .int .i64 e] 23 (0,0)))∧ae (w'.heap[w1.heap.size+1]? = some (.cells #[.bool false, .bool b1, .string l, .int .i64 e] 23 (0,0)))∧ae (Below w.heap.size w w')) (fun i _=>l.size - (intOf i).toNat)
 case atStart=>exact ⟨1,rfl,Nat.le_refl _,⟨HGO.out⟩,⟨jR (sJ _ _) _⟩,⟨wH (by simp)⟩,⟨bz (bz hw1 _) _⟩⟩
 case round =>
  obtain ⟨j,rfl,hj1,HG,K1,K2,HB⟩:=hrel
  have q0:∀ i,wr.cell? ⟨w1.heap.size,i,none⟩=(_:Array Value)[i]?:=ag K1.out
  have f0:∀ i,wr.frozen? ⟨w1.heap.size,i,none⟩=false:=au K1.out
  have q1:∀ i,wr.cell? ⟨w1.heap.size+1,i,none⟩=(_:Array Value)[i]?:=ag K2.out
  have f1:∀ i,wr.frozen? ⟨w1.heap.size+1,i,none⟩=false:=au K2.out
  by_cases hj:j<l.size
  case neg =>
   have hjn:((j:Int)<(l.size:Int))=False:=eq_false (by omega)
   have hz:l.size - j=0:=by omega
   have hq:=HG.out
   rw [hz,qi] at hq
   simp only [Option.some.injEq,Prod.mk.injEq] at hq
   obtain ⟨rfl,rfl,rfl,rfl⟩:=hq
   clear hz
   go_wp2_with (go_at_call 30;(with_reducible refine (HT.out _ (HTAB.out.below HB.out)).mono ?_);rintro e2 w2 ⟨rfl,hb2⟩;have hb:=am (gq HB.out hb2);clear hb2)
   rw [Exit.noGoto_ret]
   go_ret2
   exact ⟨rfl,hb.out⟩
  obtain ⟨h0,h1,hl',he,a,b,q1_,q2_,q3_,hif⟩:=Ky (by omega) HG.out
  have hsz:j≤1048576:=by
   have h:=Ir q1_
   rw [ByteArray.size_extract] at h
   omega
  obtain ⟨E,hE⟩:∃ E,wrap64 (wrap64 (e+l.size) - j)=E:=⟨_,rfl⟩
  rw [hE] at q1_ q2_ hif
  have hEw:IntKind.i64.wrap (IntKind.i64.wrap (e+l.size) - j)=E:=by rw [bI,bI];exact hE
  obtain ⟨lo,hlo⟩:∃ x,l.extract 0 j=x:=⟨_,rfl⟩
  obtain ⟨re,hre⟩:∃ x,l.extract j l.size=x:=⟨_,rfl⟩
  rw [hlo] at q1_ q2_ hif
  rw [hre] at hif
  have HIF:=Lib.hid hif
  have HA:Hid (∀ W:World,Calls Tryz.prog 56 #[.agg #[.bool false, .bool b1, .string lo, .int .i64 E]] W fun e' w'=>e' = .returned (.agg #[.bool h0, .bool h1, .string hl', .int .i64 he])∧Below W.heap.size W w'):=Lib.hid fun W=>oz.calls _ _ _ _ _ _ _ _ W q1_
  have HO:Hid (∀ W:World,Calls Tryz.prog 13 #[.int .i64 n, .agg #[.bool false, .bool b1, .string lo, .int .i64 E]] W fun e' w'=>e' = .returned (.tuple #[.int .u64 a, .nilIface])∧Below W.heap.size W w'):=Lib.hid fun W=>qU.calls k _ _ _ _ _ _ _ W q2_
  have HP:Hid (∀ W:World,Calls Tryz.prog 13 #[.int .i64 n, .agg #[.bool h0, .bool h1, .string hl', .int .i64 he]] W fun e' w'=>e' = .returned (.tuple #[.int .u64 b, .nilIface])∧Below W.heap.size W w'):=Lib.hid fun W=>qU.calls k _ _ _ _ _ _ _ W q3_
  have HE:=Lib.hid hE
  clear q1_ q2_ q3_ hif hE HG
  have hjl:((j:Int)<(l.size:Int))=True:=eq_true (by omega)
  have hGs:w1.heap.size+2≤wr.heap.size:=by
   have h:=uO K2.out
   omega
  obtain ⟨G,hG⟩:∃ G,wr.heap.size=G:=⟨_,rfl⟩
  have HGs:=Lib.hid (show w1.heap.size+2≤G by omega)
  have HGb:=Lib.hid (show w.heap.size≤G by have h:=pM HB.out;omega)
  have HG:=Lib.hid hG
  clear hGs
  go_upto_region 11 with (fail)
  go_cut [11] (fun v11 wc=>v11 = .pointer (some ⟨G,0,none⟩)∧ae (wc.heap[w1.heap.size]? = (some (.cells #[.bool false, .bool b1, .string l, .int .i64 e] 23 (0,0))))∧ae (wc.heap[w1.heap.size+1]? = (some (.cells #[.bool false, .bool b1, .string l, .int .i64 e] 23 (0,0))))∧ae (wc.heap[G]? = (some (.cells #[.bool false, .bool b1, .string l, .int .i64 e] 23 (0,0))))∧ae (Below w.heap.size w wc))
  case first =>
   go_wp2
   go_meet
   case rel=>exact ⟨rfl,⟨jR K1.out _⟩,⟨jR K2.out _⟩,⟨wH HG.out⟩,⟨bz HB.out _⟩⟩
  case rest =>
  clear q0 f0 q1 f1 K1 K2 HB hG HG
  obtain ⟨rfl,K1,K2,K3,HB⟩:=hcut
  rename_i wc
  have q1:∀ i,wc.cell? ⟨w1.heap.size,i,none⟩=(_:Array Value)[i]?:=ag K1.out
  have f1:∀ i,wc.frozen? ⟨w1.heap.size,i,none⟩=false:=au K1.out
  have q2:∀ i,wc.cell? ⟨w1.heap.size+1,i,none⟩=(_:Array Value)[i]?:=ag K2.out
  have f2:∀ i,wc.frozen? ⟨w1.heap.size+1,i,none⟩=false:=au K2.out
  have q3:∀ i,wc.cell? ⟨G,i,none⟩=(_:Array Value)[i]?:=ag K3.out
  have f3:∀ i,wc.frozen? ⟨G,i,none⟩=false:=au K3.out
  have hn1:w1.heap.size≠G:=by have:=HGs.out;omega
  have hn2:G≠w1.heap.size:=by omega
  go_upto_region 12 with (fail)
  go_cut [] (fun wc=>ae (wc.heap[w1.heap.size]? = (some (.cells #[.bool false, .bool b1, .string l, .int .i64 e] 23 (0,0))))∧ae (wc.heap[w1.heap.size+1]? = (some (.cells #[.bool false, .bool b1, .string l, .int .i64 e] 23 (0,0))))∧ae (wc.heap[G]? = (some (.cells #[.bool false, .bool b1, .string lo, .int .i64 E] 23 (0,0))))∧ae (Below w.heap.size w wc))
  case first =>
   go_region
   go_wp2
   go_meet
   case rel =>
    have hB:w1.heap.size+1≠G:=by have:=HGs.out;omega
    simp only [HE.out]
    exact ⟨⟨dS (gG (gG K1.out hn1 _) hn1 _)⟩,⟨dS (gG (gG K2.out hB _) hB _)⟩,⟨(by apply dS;apply Eq.trans;(repeat (first|(with_reducible exact K3.out)|(with_reducible apply lK)));rfl)⟩,⟨aZ (bu (bu HB.out HGb.out) HGb.out)⟩⟩
  case rest =>
  clear q1 f1 q2 f2 q3 f3 K1 K2 K3 HB hn1 hn2
  obtain ⟨K1,K2,K3,HB⟩:=hcut
  rename_i wc
  have q1:∀ i,wc.cell? ⟨w1.heap.size,i,none⟩=(_:Array Value)[i]?:=ag K1.out
  have f1:∀ i,wc.frozen? ⟨w1.heap.size,i,none⟩=false:=au K1.out
  have q2:∀ i,wc.cell? ⟨w1.heap.size+1,i,none⟩=(_:Array Value)[i]?:=ag K2.out
  have f2:∀ i,wc.frozen? ⟨w1.heap.size+1,i,none⟩=false:=au K2.out
  have q3:∀ i,wc.cell? ⟨G,i,none⟩=(_:Array Value)[i]?:=ag K3.out
  have f3:∀ i,wc.frozen? ⟨G,i,none⟩=false:=au K3.out
  go_upto_region 13 with (fail)
  go_cut [12] (fun v12 wc => ∃ H_:Nat,v12 = .pointer (some ⟨H_,0,none⟩)∧ae (wc.heap[w1.heap.size]? = (some (.cells #[.bool false, .bool b1, .string l, .int .i64 e] 23 (0,0))))∧ae (wc.heap[w1.heap.size+1]? = (some (.cells #[.bool false, .bool b1, .string l, .int .i64 e] 23 (0,0))))∧ae (wc.heap[G]? = (some (.cells #[.bool false, .bool b1, .string lo, .int .i64 E] 23 (0,0))))∧ae (wc.heap[H_]? = (some (.cells #[.bool h0, .bool h1, .string hl', .int .i64 he] 23 (0,0))))∧ae (Below w.heap.size w wc))
  case first =>
   go_wp2_with (go_at_call 56;(with_reducible refine (HA.out _).mono ?_);rintro e3 w3 ⟨rfl,hb3⟩;have k1:=bU K1.out hb3;have k2:=bU K2.out hb3;have k3:=bU K3.out hb3;have hb:=gq HB.out hb3;clear q1 f1 q2 f2 q3 f3 K1 K2 K3 HB hb3;have K1:=am k1;have K2:=am k2;have K3:=am k3;have HB:=am hb;clear k1 k2 k3 hb;have q1:∀ i,w3.cell? ⟨w1.heap.size,i,none⟩=(_:Array Value)[i]?:=ag K1.out;have f1:∀ i,w3.frozen? ⟨w1.heap.size,i,none⟩=false:=au K1.out;have q2:∀ i,w3.cell? ⟨w1.heap.size+1,i,none⟩=(_:Array Value)[i]?:=ag K2.out;have f2:∀ i,w3.frozen? ⟨w1.heap.size+1,i,none⟩=false:=au K2.out;have q3:∀ i,w3.cell? ⟨G,i,none⟩=(_:Array Value)[i]?:=ag K3.out;have f3:∀ i,w3.frozen? ⟨G,i,none⟩=false:=au K3.out)
   go_meet
   case rel=>exact ⟨_,rfl,⟨jR K1.out _⟩,⟨jR K2.out _⟩,⟨jR K3.out _⟩,⟨sJ _ _⟩,⟨bz HB.out _⟩⟩
  case rest =>
  clear q1 f1 q2 f2 q3 f3 K1 K2 K3 HB
  obtain ⟨H_,rfl,K1,K2,K3,K4,HB⟩:=hcut
  rename_i wc
  have q1:∀ i,wc.cell? ⟨w1.heap.size,i,none⟩=(_:Array Value)[i]?:=ag K1.out
  have f1:∀ i,wc.frozen? ⟨w1.heap.size,i,none⟩=false:=au K1.out
  have q2:∀ i,wc.cell? ⟨w1.heap.size+1,i,none⟩=(_:Array Value)[i]?:=ag K2.out
  have f2:∀ i,wc.frozen? ⟨w1.heap.size+1,i,none⟩=false:=au K2.out
  have q3:∀ i,wc.cell? ⟨G,i,none⟩=(_:Array Value)[i]?:=ag K3.out
  have f3:∀ i,wc.frozen? ⟨G,i,none⟩=false:=au K3.out
  have q4:∀ i,wc.cell? ⟨H_,i,none⟩=(_:Array Value)[i]?:=ag K4.out
  have f4:∀ i,wc.frozen? ⟨H_,i,none⟩=false:=au K4.out
  obtain ⟨half,hhalf⟩:∃ x:Bool,decide ((⟨#[53]⟩:ByteArray).data.toList<re.data.toList)=x:=⟨_,rfl⟩
  have hgt:∀ W:World,(binOp .gtr 9 (.string re) (.string ⟨#[53]⟩)).run Tryz.prog W = .ok (.bool half) W:=fun W=>by rw [aaX,hhalf]
  have HH:=Lib.hid hhalf
  clear hhalf
  have HBb:=Lib.hid (show w.heap.size≤w1.heap.size+1 by have h:=pM hw1;omega)
  go_upto_region 21 with (first|(go_at_call 13;(with_reducible refine (HO.out _).mono ?_);rintro e4 w4 ⟨rfl,hb4⟩;have k1:=bU K1.out hb4;have k2:=bU K2.out hb4;have k3:=bU K3.out hb4;have k4:=bU K4.out hb4;have hb:=gq HB.out hb4;clear q1 f1 q2 f2 q3 f3 q4 f4 K1 K2 K3 K4 HB hb4;have K1:=am k1;have K2:=am k2;have K3:=am k3;have K4:=am k4;have HB:=am hb;clear k1 k2 k3 k4 hb;have q1:∀ i,w4.cell? ⟨w1.heap.size,i,none⟩=(_:Array Value)[i]?:=ag K1.out;have f1:∀ i,w4.frozen? ⟨w1.heap.size,i,none⟩=false:=au K1.out;have q2:∀ i,w4.cell? ⟨w1.heap.size+1,i,none⟩=(_:Array Value)[i]?:=ag K2.out;have f2:∀ i,w4.frozen? ⟨w1.heap.size+1,i,none⟩=false:=au K2.out;have q3:∀ i,w4.cell? ⟨G,i,none⟩=(_:Array Value)[i]?:=ag K3.out;have f3:∀ i,w4.frozen? ⟨G,i,none⟩=false:=au K3.out;have q4:∀ i,w4.cell? ⟨H_,i,none⟩=(_:Array Value)[i]?:=ag K4.out;have f4:∀ i,w4.frozen? ⟨H_,i,none⟩=false:=au K4.out)|(go_at_call 13;(with_reducible refine (HP.out _).mono ?_);rintro e5 w5 ⟨rfl,hb5⟩;have k1:=bU K1.out hb5;have k2:=bU K2.out hb5;have k3:=bU K3.out hb5;have k4:=bU K4.out hb5;have hb:=gq HB.out hb5;clear q1 f1 q2 f2 q3 f3 q4 f4 K1 K2 K3 K4 HB hb5;have K1:=am k1;have K2:=am k2;have K3:=am k3;have K4:=am k4;have HB:=am hb;clear k1 k2 k3 k4 hb;have q1:∀ i,w5.cell? ⟨w1.heap.size,i,none⟩=(_:Array Value)[i]?:=ag K1.out;have f1:∀ i,w5.frozen? ⟨w1.heap.size,i,none⟩=false:=au K1.out;have q2:∀ i,w5.cell? ⟨w1.heap.size+1,i,none⟩=(_:Array Value)[i]?:=ag K2.out;have f2:∀ i,w5.frozen? ⟨w1.heap.size+1,i,none⟩=false:=au K2.out;have q3:∀ i,w5.cell? ⟨G,i,none⟩=(_:Array Value)[i]?:=ag K3.out;have f3:∀ i,w5.frozen? ⟨G,i,none⟩=false:=au K3.out;have q4:∀ i,w5.cell? ⟨H_,i,none⟩=(_:Array Value)[i]?:=ag K4.out;have f4:∀ i,w5.frozen? ⟨H_,i,none⟩=false:=au K4.out))
  by_cases ha:a=own
  ·subst ha
   by_cases hbo:b=a
   ·subst hbo
    cases half
    ·have hq:=HIF.out
     rw [if_pos ⟨rfl,Or.inr (by have:=of_decide_eq_false HH.out;exact this)⟩] at hq
     simp only [Option.some.injEq,Prod.mk.injEq] at hq
     obtain ⟨rfl,rfl,rfl,rfl⟩:=hq
     clear HIF
     go_wp2_with (go_at_call 30;(with_reducible refine (HT.out _ (HTAB.out.below (by repeat (first|(with_reducible exact HB.out)|(with_reducible refine bu ?_ HBb.out))))).mono ?_);rintro e7 w7 ⟨rfl,hb7⟩;have hb:=am (gq (by repeat (first|(with_reducible exact HB.out)|(with_reducible refine bu ?_ HBb.out))) hb7);clear hb7)
     rw [Exit.noGoto_ret]
     go_ret2
     exact ⟨rfl,hb.out⟩
    ·have hq:=HIF.out
     rw [if_neg (fun h=>h.2.elim (fun h=>h rfl) (fun h=>absurd (of_decide_eq_true HH.out) (by exact h)))] at hq
     rw [if_pos rfl] at hq
     simp only [Option.some.injEq,Prod.mk.injEq] at hq
     obtain ⟨rfl,rfl,rfl,rfl⟩:=hq
     clear HIF
     go_wp2_with (go_at_call 30;(with_reducible refine (HT.out _ (HTAB.out.below (by repeat (first|(with_reducible exact HB.out)|(with_reducible refine bu ?_ HBb.out))))).mono ?_);rintro e7 w7 ⟨rfl,hb7⟩;have hb:=am (gq (by repeat (first|(with_reducible exact HB.out)|(with_reducible refine bu ?_ HBb.out))) hb7);clear hb7)
     rw [Exit.noGoto_ret]
     go_ret2
     exact ⟨rfl,hb.out⟩
   ·have hb1:(b=a)=False:=eq_false hbo
    have hb2:(b == a)=false:=beq_eq_false_iff_ne.2 hbo
    have hq:=HIF.out
    rw [if_pos ⟨rfl,Or.inl hbo⟩] at hq
    simp only [Option.some.injEq,Prod.mk.injEq] at hq
    obtain ⟨rfl,rfl,rfl,rfl⟩:=hq
    clear HIF
    go_wp2_with (go_at_call 30;(with_reducible refine (HT.out _ (HTAB.out.below (by repeat (first|(with_reducible exact HB.out)|(with_reducible refine bu ?_ HBb.out))))).mono ?_);rintro e7 w7 ⟨rfl,hb7⟩;have hb:=am (gq (by repeat (first|(with_reducible exact HB.out)|(with_reducible refine bu ?_ HBb.out))) hb7);clear hb7)
    rw [Exit.noGoto_ret]
    go_ret2
    exact ⟨rfl,hb.out⟩
  ·have ha1:(a=own)=False:=eq_false ha
   have ha2:(a == own)=false:=beq_eq_false_iff_ne.2 ha
   by_cases hbo:b=own
   ·subst hbo
    have hq:=HIF.out
    rw [if_neg (fun h=>ha h.1)] at hq
    rw [if_pos rfl] at hq
    simp only [Option.some.injEq,Prod.mk.injEq] at hq
    obtain ⟨rfl,rfl,rfl,rfl⟩:=hq
    clear HIF
    go_wp2_with (go_at_call 30;(with_reducible refine (HT.out _ (HTAB.out.below (by repeat (first|(with_reducible exact HB.out)|(with_reducible refine bu ?_ HBb.out))))).mono ?_);rintro e7 w7 ⟨rfl,hb7⟩;have hb:=am (gq (by repeat (first|(with_reducible exact HB.out)|(with_reducible refine bu ?_ HBb.out))) hb7);clear hb7)
    rw [Exit.noGoto_ret]
    go_ret2
    exact ⟨rfl,hb.out⟩
   ·have hb1:(b=own)=False:=eq_false hbo
    have hb2:(b == own)=false:=beq_eq_false_iff_ne.2 hbo
    have hq:=HIF.out
    rw [if_neg (fun h=>ha h.1)] at hq
    rw [if_neg hbo] at hq
    have HQ:=Lib.hid hq
    clear hq HIF
    go_wp2
    go_roundw
    case rel =>
     exact ⟨j+1,by simp,by omega,⟨by have h:=HQ.out;rwa [show l.size - j - 1=l.size - (j+1) by omega] at h⟩,K1,K2,HB⟩
    case measure=>simp [intOf];omega
set_option maxHeartbeats 4000000 in
set_option maxRecDepth 100000 in
theorem I5 (k:Nat) (n p:Int) (b0 b1:Bool) (l:ByteArray) (e:Int) (r1:ByteArray) (r2:Option Int) (w:World) (htab:Fx.Laid w)
  (hd:aN.f k n p=some (b0,b1,l,e,none)) (hb0:b0=true∨l.toList = [48]) (ht:lN.f b0 b1 l e=some (r1,r2)) :
  Calls Tryz.prog 20 #[.int .i64 n, .int .u64 p] w fun e' w'=>e' = .returned (.tuple #[.string r1,qm r2])∧Below w.heap.size w w':=by
 have hkD:∀ W:World,Fx.Laid W→Calls Tryz.prog 16 #[.int .i64 n, .int .u64 p] W fun e' w'=>e' = .returned (.tuple #[.agg #[.bool b0, .bool b1, .string l, .int .i64 e], .nilIface])∧Below W.heap.size W w':=fun W hW=>aN.calls k n p _ _ _ _ _ W hd hW
 have hkT:∀ W:World,Fx.Laid W→Calls Tryz.prog 30 #[.agg #[.bool b0, .bool b1, .string l, .int .i64 e]] W fun e' w'=>e' = .returned (.tuple #[.string r1,qm r2])∧Below W.heap.size W w':=fun W hW=>lN.calls _ _ _ _ _ _ W ht hW
 have HD:=Lib.hid hkD
 have HT:=Lib.hid hkT
 have HTAB:=Lib.hid htab
 clear hkD hkT hd ht htab
 generalize qm r2=v2 at HT ⊢
 have go:∀ c:Bool,(b0=true∨(b0=false∧(l.toList == [48])=c∧c=true))→Calls Tryz.prog 20 #[.int .i64 n, .int .u64 p] w fun e' w'=>e' = .returned (.tuple #[.string r1,v2])∧Below w.heap.size w w':=by
  intro c hc
  clear hb0
  rcases hc with rfl|⟨rfl,hl,rfl⟩
  all_goals
   go_enter Tryz.func20,Tryz.ntmps20
   go_wp2
   go_step3
   go_wp2_with (first|(go_at_call 16;(with_reducible refine (HD.out _ HTAB.out).mono ?_);rintro e1 w1 ⟨rfl,hw1⟩;have HW1:=am hw1;clear hw1)|(go_at_call 30;(with_reducible refine (HT.out _ (HTAB.out.below (bz HW1.out _))).mono ?_);rintro e2 w2 ⟨rfl,hb2⟩;have hb:=am (gq (bz HW1.out _) hb2);clear hb2))
   rw [Exit.noGoto_ret]
   go_ret2
   exact ⟨rfl,hb.out⟩
 refine go true ?_
 cases b0 with
 | true=>exact Or.inl rfl
 | false=>exact Or.inr ⟨rfl,by rcases hb0 with h|h;exact absurd h (by simp);rw [h];rfl,rfl⟩
set_option maxHeartbeats 4000000 in
set_option maxRecDepth 100000 in
theorem Jp (k:Nat) (n p:Int) (b0 b1:Bool) (l:ByteArray) (e c:Int) (w:World) (htab:Fx.Laid w)
  (hd:aN.f k n p=some (b0,b1,l,e,some c)) :
  Calls Tryz.prog 20 #[.int .i64 n, .int .u64 p] w fun e' w'=>e' = .returned (.tuple #[.string ⟨#[]⟩,qm (some c)])∧Below w.heap.size w w':=by
 have hkD:∀ W:World,Fx.Laid W→Calls Tryz.prog 16 #[.int .i64 n, .int .u64 p] W fun e' w'=>e' = .returned (.tuple #[.agg #[.bool b0, .bool b1, .string l, .int .i64 e],qm (some c)])∧Below W.heap.size W w':=fun W hW=>aN.calls k n p _ _ _ _ _ W hd hW
 simp only [aj] at hkD ⊢
 have HD:=Lib.hid hkD
 have HTAB:=Lib.hid htab
 clear hkD hd htab
 go_enter Tryz.func20,Tryz.ntmps20
 go_wp2
 go_step3
 go_wp2_with (go_at_call 16;(with_reducible refine (HD.out _ HTAB.out).mono ?_);rintro e1 w1 ⟨rfl,hw1⟩;have HW1:=am hw1;clear hw1)
 rw [Exit.noGoto_ret]
 go_ret2
 exact ⟨rfl,bz HW1.out _⟩
theorem tu.calls (k:Nat) (a0 a1:Int) (r1:ByteArray) (r2:Option Int) (w:World) (h:tu.f k a0 a1=some (r1,r2)) (htab:Fx.Laid w:=by exact Fx.Laid.below HTAB.out (by repeat (first|(with_reducible first|exact HB.out|apply bz|apply aI|apply aZ|refine bu ?_ (ae.out (by assumption)))|exact HB.out))) :
  Calls Tryz.prog 20 #[.int .i64 a0, .int .u64 a1] w fun e w'=>e = .returned (.tuple #[.string r1,qm r2])∧Below w.heap.size w w':=by
 unfold tu.f at h
 obtain ⟨⟨b0,b1,l,e,c⟩,hd,h⟩:=Option.bind_eq_some_iff.mp h
 by_cases hc:c=none∧8≤a0∧a0≤64
 case neg =>
  rw [if_neg hc] at h
  cases c with
  | none=>rw [if_pos rfl] at h;exact absurd h (by simp)
  | some c =>
   rw [if_neg (by simp)] at h
   simp only [Option.some.injEq,Prod.mk.injEq,Option.getD_some] at h
   obtain ⟨rfl,rfl⟩:=h
   exact Jp k a0 a1 b0 b1 l e c w htab hd
 rw [if_pos hc] at h
 obtain ⟨rfl,h8,h64⟩:=hc
 by_cases hz:b0=true∨l.toList = [48]
 ·rw [if_pos hz] at h
  exact I5 k a0 a1 b0 b1 l e r1 r2 w htab hd hz h
 rw [if_neg hz] at h
 obtain ⟨⟨c0,c1,cl,ce⟩,hgo,h⟩:=Option.bind_eq_some_iff.mp h
 exact KN k a0 a1 b0 b1 l e _ c0 c1 cl ce r1 r2 w htab hd h8 h64 (by cases b0 with|true=>exact absurd (Or.inl rfl) hz|false=>rfl) (beq_eq_false_iff_ne.2 fun q=>hz (Or.inr q)) rfl hgo h
end Go.Proofs.Yy.PTx
end
section
namespace Go.Proofs.Yy.PTx
open Go.RowKit Go.Proofs.Yw.PrintWords Go.Proofs.Yw.PrintLast Go.Proofs.Yw.PrintMore Go.Proofs.Yy.M Go.Proofs.Yy.TA
def Wd (n:Nat):Prop:=n=8∨n=16∨n=32∨n=64
theorem Wd.bounds {n:Nat} (h:Wd n):8≤n∧n≤64:=by rcases h with rfl|rfl|rfl|rfl <;> omega
theorem yB {n:Nat} (h:Wd n):nR.f (n:Int)=some true:=by
 rcases h with rfl|rfl|rfl|rfl <;> decide
theorem Td {n:Nat} (h:Wd n) (p:Nat) (hp:p<2 ^ 64):eX.f (n:Int) (p:Int)=some (((p % 2 ^ n:Nat):Int),none):=by
 obtain ⟨h8,h64⟩:=h.bounds
 have hm:sW.f (n:Int)=some (((2 ^ n - 1:Nat):Int),none):=by rcases h with rfl|rfl|rfl|rfl <;> decide +kernel
 unfold eX.f
 rw [yB h]
 simp only [Option.bind_some,if_true]
 rw [hm]
 simp only [Option.bind_some]
 rw [Un _ _ hp h64]
theorem Om {p:Nat} (h:p<2 ^ 64):IntKind.u64.wrap (-(p:Int))=(((2 ^ 64 - p) % 2 ^ 64:Nat):Int):=by rw [IntKind.wrap_u64];omega
theorem bitLen_spec (b:Nat):∀ x:Nat,x<2 ^ b→b≤64→x<2 ^ Lib.bitLen x∧(x≠0→1≤Lib.bitLen x∧2 ^ (Lib.bitLen x - 1)≤x):=by
 induction b with
 | zero =>
  intro x hx _
  have:x=0:=by simpa using hx
  subst this
  exact ⟨by decide,fun h=>absurd rfl h⟩
 | succ b ih =>
  intro x hx hb
  by_cases h0:x=0
  ·subst h0;exact ⟨by decide,fun h=>absurd rfl h⟩
  ·have h64:x<2 ^ 64:=Nat.lt_of_lt_of_le hx (Nat.pow_le_pow_right (by omega) hb)
   have e:=Lib.bitLen_half x h0 h64
   have hh:x / 2<2 ^ b:=by rw [Nat.pow_succ] at hx;omega
   obtain ⟨a1,a2⟩:=ih (x / 2) hh (by omega)
   rw [e,Nat.add_comm 1,Nat.pow_succ]
   refine ⟨by omega,fun _=>⟨by omega,?_⟩⟩
   rw [Nat.add_sub_cancel]
   by_cases h1:x / 2=0
   ·rw [h1];show 2 ^ 0≤x;omega
   ·obtain ⟨a3,a4⟩:=a2 h1
    obtain ⟨c,hc⟩:∃ c,Lib.bitLen (x / 2)=c+1:=⟨Lib.bitLen (x / 2) - 1,by omega⟩
    rw [hc,Nat.add_sub_cancel] at a4
    rw [hc,Nat.pow_succ];omega
theorem bitLen_eq {x b:Nat} (hb:b≤64) (h1:x<2 ^ b) (h2:b≠0→2 ^ (b - 1)≤x):Lib.bitLen x=b:=by
 obtain ⟨a1,a2⟩:=bitLen_spec b x h1 hb
 by_cases h0:b=0
 ·subst h0
  have:x=0:=by simpa using h1
  subst this;rfl
 ·have h3:=h2 h0
  have hx:x≠0:=by have:=Nat.two_pow_pos (b - 1);omega
  obtain ⟨a3,a4⟩:=a2 hx
  apply Nat.le_antisymm
  ·apply Nat.le_of_not_lt;intro h
   have:2 ^ b≤2 ^ (Lib.bitLen x - 1):=Nat.pow_le_pow_right (by omega) (by omega)
   omega
  ·apply Nat.le_of_not_lt;intro h
   have:2 ^ Lib.bitLen x≤2 ^ (b - 1):=Nat.pow_le_pow_right (by omega) (by omega)
   omega
theorem aes {x b:Nat} (hb:b≤64) (h1:x<2 ^ b) (h2:b≠0→2 ^ (b - 1)≤x):Ev (fun k=>bits_LeadingZeros64.f k (x:Int)) ((64 - b:Nat):Int):=by
 have hx:x<2 ^ 64:=Nat.lt_of_lt_of_le h1 (Nat.pow_le_pow_right (by omega) hb)
 rw [p64] at hx
 refine ⟨0,fun k _=>?_⟩
 unfold bits_LeadingZeros64.f bits_Len64.f
 rw [if_pos (by omega)]
 simp only [Option.bind_some,Int.toNat_natCast]
 rw [bitLen_eq hb h1 h2,y8 (by omega) (by omega)]
 congr 1;omega
theorem abu (x:Nat) (h:x<2 ^ 64):Go.bits .xor .u64 18446744073709551615 (x:Int)=((2 ^ 64 - 1 - x:Nat):Int):=by
 rw [p64] at h
 have e:=bits_xor_u64_nat 18446744073709551615 x (by omega) h
 have e2:((18446744073709551615:Nat):Int)=18446744073709551615:=rfl
 rw [e2] at e
 rw [e]
 congr 1
 have h3:=BitVec.toNat_not (x:=BitVec.ofNat 64 x)
 have h4:(BitVec.allOnes 64 ^^^ BitVec.ofNat 64 x) = ~~~(BitVec.ofNat 64 x):=by rw [BitVec.xor_comm,BitVec.xor_allOnes]
 have h5:(BitVec.allOnes 64 ^^^ BitVec.ofNat 64 x).toNat=18446744073709551615 ^^^ x:=by
  rw [BitVec.toNat_xor,BitVec.toNat_ofNat,Nat.mod_eq_of_lt (by rw [p64];exact h)];rfl
 rw [← h5,h4,h3,BitVec.toNat_ofNat,Nat.mod_eq_of_lt (by rw [p64];exact h)]
theorem CB {n p m:Nat} (hn:8≤n) (hn2:n≤64) (hp:p<2 ^ 64) (hm:m=p % 2 ^ (n - 1)) (h0:m≠0) (h1:m<2 ^ (n - 2)) :
  ∃ r,1≤r∧r+2≤n∧m / 2 ^ (n - 2 - r)=1∧Ev (fun k=>jo.f k (p:Int) ((n:Int) - 1)) (false,(r:Int),none):=by
 obtain ⟨a1,a2⟩:=bitLen_spec (n - 2) m h1 (by omega)
 obtain ⟨a3,a4⟩:=a2 h0
 obtain ⟨b,hb⟩:∃ b,Lib.bitLen m=b:=⟨_,rfl⟩
 rw [hb] at a1 a3 a4
 have hbn:b≤n - 2:=by
  apply Nat.le_of_not_lt;intro h
  have:2 ^ (n - 2)≤2 ^ (b - 1):=Nat.pow_le_pow_right (by omega) (by omega)
  omega
 have ex:p * 2 ^ (65 - n) % 2 ^ 64=m * 2 ^ (65 - n):=by
  rw [hm,show (2:Nat) ^ 64=2 ^ (n - 1) * 2 ^ (65 - n) by rw [← Nat.pow_add];congr 1;omega,Nat.mul_mod_mul_right]
 have hx1:m * 2 ^ (65 - n)<2 ^ (b+(65 - n)):=by rw [Nat.pow_add];exact Nat.mul_lt_mul_of_pos_right a1 (Nat.two_pow_pos _)
 have hx2:2 ^ (b+(65 - n) - 1)≤m * 2 ^ (65 - n):=by
  rw [show b+(65 - n) - 1=(b - 1)+(65 - n) by omega,Nat.pow_add];exact Nat.mul_le_mul_right _ a4
 have hx3:m * 2 ^ (65 - n)<2 ^ 63:=Nat.lt_of_lt_of_le hx1 (Nat.pow_le_pow_right (by omega) (by omega))
 refine ⟨n - 1 - b,by omega,by omega,?_,?_⟩
 ·rw [show n - 2 - (n - 1 - b)=b - 1 by omega]
  apply Nat.le_antisymm
  ·apply Nat.le_of_lt_succ
   rw [Nat.div_lt_iff_lt_mul (Nat.two_pow_pos _)]
   obtain ⟨c,rfl⟩:∃ c,b=c+1:=⟨b - 1,by omega⟩
   rw [Nat.pow_succ] at a1
   show m<2 * 2 ^ (c+1 - 1);rw [Nat.add_sub_cancel];omega
  ·rw [Nat.le_div_iff_mul_le (Nat.two_pow_pos _),Nat.one_mul];exact a4
 ·have hlz:=aes (x:=m * 2 ^ (65 - n)) (b:=b+(65 - n)) (by omega) hx1 (fun _=>hx2)
  refine Ev.step (f:=fun k=>(bits_LeadingZeros64.f k ((m * 2 ^ (65 - n):Nat):Int)).bind fun t=>some (false,mn t ((n:Int) - 1),(none:Option Int))) (fun k=>?_) (Ev.bind hlz ?_)
  ·unfold jo.f
   rw [if_neg (by omega),decide_eq_false (by omega)]
   simp only [jo.j0]
   rw [if_neg (by decide),y8 (by omega) (by omega),if_pos (by omega),show (64 - ((n:Int) - 1))=((65 - n:Nat):Int) by omega,Aa,ex]
   have h9:((m * 2 ^ (65 - n):Nat):Int) / 9223372036854775808=0:=by
    generalize m * 2 ^ (65 - n)=y at hx3
    omega
   rw [h9,if_neg (by decide)]
   rfl
  ·have:mn ((64 - (b+(65 - n)):Nat):Int) ((n:Int) - 1)=((n - 1 - b:Nat):Int):=by unfold mn;rw [if_neg (by omega)];omega
   rw [this];exact Ev.now _
theorem NW {n p m:Nat} (hn:8≤n) (hn2:n≤64) (hp:p<2 ^ 64) (hm:m=p % 2 ^ (n - 1)) (h1:2 ^ (n - 2)≤m) :
  ∃ r,1≤r∧r+1≤n∧(r+1=n→m=2 ^ (n - 1) - 1)∧(r+2≤n→m / 2 ^ (n - 2 - r)=2 ^ (r+1) - 2)∧Ev (fun k=>jo.f k (p:Int) ((n:Int) - 1)) (true,(r:Int),none):=by
 have hml:m<2 ^ (n - 1):=by rw [hm];exact Nat.mod_lt _ (Nat.two_pow_pos _)
 have hpw:2 ^ (n - 1)=2 * 2 ^ (n - 2):=by rw [show n - 1=(n - 2)+1 by omega,Nat.pow_succ];omega
 obtain ⟨q,hq⟩:∃ q,2 ^ (n - 1) - 1 - m=q:=⟨_,rfl⟩
 have hq1:q<2 ^ (n - 2):=by omega
 obtain ⟨a1,a2⟩:=bitLen_spec (n - 2) q hq1 (by omega)
 obtain ⟨b,hb⟩:∃ b,Lib.bitLen q=b:=⟨_,rfl⟩
 rw [hb] at a1 a2
 have hbn:b≤n - 2:=by
  by_cases h:q=0
  ·subst h;rw [← hb];show 0≤n - 2;omega
  ·obtain ⟨a3,a4⟩:=a2 h
   apply Nat.le_of_not_lt;intro h
   have:2 ^ (n - 2)≤2 ^ (b - 1):=Nat.pow_le_pow_right (by omega) (by omega)
   omega
 have ex:p * 2 ^ (65 - n) % 2 ^ 64=m * 2 ^ (65 - n):=by
  rw [hm,show (2:Nat) ^ 64=2 ^ (n - 1) * 2 ^ (65 - n) by rw [← Nat.pow_add];congr 1;omega,Nat.mul_mod_mul_right]
 obtain ⟨K,hK⟩:∃ K,2 ^ (65 - n)=K:=⟨_,rfl⟩
 have hK0:0<K:=by rw [← hK];exact Nat.two_pow_pos _
 have h64:2 ^ (n - 1) * K=2 ^ 64:=by rw [← hK, ← Nat.pow_add];congr 1;omega
 have hmK:m * K<2 ^ 64:=by rw [← h64];exact Nat.mul_lt_mul_of_pos_right hml hK0
 have aDC:2 ^ 63≤m * K:=by
  have:=Nat.mul_le_mul_right K h1
  rw [← hK, ← Nat.pow_add,show n - 2+(65 - n)=63 by omega] at this
  rw [← hK];exact this
 have hz:2 ^ 64 - 1 - m * K=q * K+(K - 1):=by
  have e:(q+(m+1)) * K=2 ^ 64:=by rw [← h64, ← hq];congr 1;omega
  rw [Nat.add_mul,Nat.add_mul,Nat.one_mul] at e
  omega
 have hzz:Ev (fun k=>bits_LeadingZeros64.f k ((2 ^ 64 - 1 - m * K:Nat):Int)) ((64 - (b+(65 - n)):Nat):Int):=by
  refine aes (by omega) ?_ ?_
  ·rw [hz,Nat.pow_add,hK]
   have h:(q+1) * K≤2 ^ b * K:=Nat.mul_le_mul_right _ a1
   rw [Nat.add_mul,Nat.one_mul] at h
   omega
  ·intro _
   rw [hz]
   by_cases h:q=0
   ·have hb0:b=0:=by rw [← hb,h];rfl
    subst hb0
    rw [h,Nat.zero_mul,Nat.zero_add,Nat.zero_add]
    obtain ⟨c,hc⟩:∃ c,65 - n=c+1:=⟨64 - n,by omega⟩
    rw [hc,Nat.add_sub_cancel]
    have:K=2 * 2 ^ c:=by rw [← hK,hc,Nat.pow_succ];omega
    have:=Nat.two_pow_pos c
    omega
   ·obtain ⟨a3,a4⟩:=a2 h
    rw [show b+(65 - n) - 1=(b - 1)+(65 - n) by omega,Nat.pow_add,hK]
    exact Nat.le_trans (Nat.mul_le_mul_right _ a4) (Nat.le_add_right _ _)
 refine ⟨n - 1 - b,by omega,by omega,?_,?_,?_⟩
 ·intro h
  have hb0:b=0:=by omega
  by_cases h:q=0
  ·omega
  ·obtain ⟨a3,a4⟩:=a2 h;omega
 ·intro h
  have hq0:q≠0:=by
   intro hq0
   have:b=0:=by rw [← hb,hq0];rfl
   omega
  obtain ⟨a3,a4⟩:=a2 hq0
  rw [show n - 2 - (n - 1 - b)=b - 1 by omega]
  obtain ⟨c,rfl⟩:∃ c,b=c+1:=⟨b - 1,by omega⟩
  rw [Nat.add_sub_cancel] at a4 ⊢
  obtain ⟨J,hJ⟩:∃ J,2 ^ c=J:=⟨_,rfl⟩
  have hJ0:0<J:=by rw [← hJ];exact Nat.two_pow_pos _
  rw [Nat.pow_succ,hJ] at a1
  rw [hJ] at a4 ⊢
  have e1:2 ^ (n - 1)=2 ^ (n - 1 - (c+1)+1) * J:=by rw [← hJ, ← Nat.pow_add];congr 1;omega
  obtain ⟨G,hG⟩:∃ G,2 ^ (n - 1 - (c+1)+1)=G:=⟨_,rfl⟩
  have hG2:2≤G:=by
   rw [← hG]
   have:2 ^ 1≤2 ^ (n - 1 - (c+1)+1):=Nat.pow_le_pow_right (by omega) (by omega)
   simpa using this
  rw [hG] at e1 ⊢
  obtain ⟨g,rfl⟩:∃ g,G=g+2:=⟨G - 2,by omega⟩
  rw [Nat.add_mul] at e1
  have e2:m=J * g+(m - J * g):=by rw [Nat.mul_comm];omega
  rw [e2,Nat.mul_add_div hJ0,Nat.div_eq_of_lt (by rw [Nat.mul_comm];omega)]
  omega
 ·refine Ev.step (f:=fun k=>(bits_LeadingZeros64.f k ((2 ^ 64 - 1 - m * K:Nat):Int)).bind fun t=>some (true,mn t ((n:Int) - 1),(none:Option Int))) (fun k=>?_) (Ev.bind hzz ?_)
  ·unfold jo.f
   rw [if_neg (by omega),decide_eq_false (by omega)]
   simp only [jo.j0]
   rw [if_neg (by decide),y8 (by omega) (by omega),if_pos (by omega),show (64 - ((n:Int) - 1))=((65 - n:Nat):Int) by omega,Aa,ex,hK,abu _ hmK]
   have h9:((m * K:Nat):Int) / 9223372036854775808=1:=by
    generalize m * K=y at hmK aDC
    omega
   rw [h9,if_pos rfl]
   rfl
  ·have:mn ((64 - (b+(65 - n)):Nat):Int) ((n:Int) - 1)=((n - 1 - b:Nat):Int):=by unfold mn;rw [if_neg (by omega)];omega
   rw [this];exact Ev.now _
theorem BO {n:Nat} (h:Wd n) (p:Nat) (hp:p<2 ^ 64):jP.f (n:Int) (p:Int)=some (if p % 2 ^ n=0 then 0 else if p % 2 ^ n=2 ^ (n - 1) then 2 else 1,none):=by
 obtain ⟨h8,h64⟩:=h.bounds
 have hm:2 ^ (n - 1)<2 ^ 64:=Nat.pow_lt_pow_right (by omega) (by omega)
 unfold jP.f
 rw [Td h p hp]
 simp only [Option.bind_some,Option.isNone_none,if_true]
 by_cases h0:p % 2 ^ n=0
 ·rw [if_pos (by rw [h0];rfl),if_pos h0]
 ·rw [if_neg (fun e=>h0 (Int.natCast_eq_zero.1 e)),if_neg h0,y8 (by omega) (by omega),if_pos (by omega),show ((n:Int) - 1)=((n - 1:Nat):Int) by omega]
  have e1:shl .u64 1 ((n - 1:Nat):Int)=((2 ^ (n - 1):Nat):Int):=by
   have:=Aa 1 (n - 1)
   rw [Nat.one_mul,Nat.mod_eq_of_lt hm] at this
   exact this
  rw [e1]
  by_cases h1:p % 2 ^ n=2 ^ (n - 1)
  ·rw [if_pos (by rw [h1]),if_pos h1]
  ·rw [if_neg (fun e=>h1 (Int.natCast_inj.1 e)),if_neg h1]
theorem TE {n:Nat} (h:Wd n) (p:Nat) (hp:p<2 ^ 64):∃ c co,ou.f (n:Int) (p:Int)=some (c,co)∧(c<0 ↔ 2 ^ (n - 1)≤p % 2 ^ n):=by
 obtain ⟨h8,h64⟩:=h.bounds
 have e1:p * 2 ^ (64 - n) % 2 ^ 64=p % 2 ^ n * 2 ^ (64 - n):=by
  rw [show (2:Nat) ^ 64=2 ^ n * 2 ^ (64 - n) by rw [← Nat.pow_add];congr 1;omega,Nat.mul_mod_mul_right]
 have e2:2 ^ (n - 1) * 2 ^ (64 - n)=2 ^ 63:=by rw [← Nat.pow_add];congr 1;omega
 have hlt:p % 2 ^ n * 2 ^ (64 - n)<2 ^ 64:=by rw [← e1];exact Nat.mod_lt _ (Nat.two_pow_pos _)
 obtain ⟨K,hK⟩:∃ K,2 ^ (64 - n)=K:=⟨_,rfl⟩
 have hK0:0<K:=by rw [← hK];exact Nat.two_pow_pos _
 rw [hK] at e1 e2 hlt
 have hiff:2 ^ 63≤p % 2 ^ n * K ↔ 2 ^ (n - 1)≤p % 2 ^ n:=by
  rw [← e2];exact Nat.mul_le_mul_right_iff hK0
 refine ⟨shr .i64 (wrap64 ((p % 2 ^ n * K:Nat):Int)) ((64 - n:Nat):Int),none,?_,?_⟩
 ·unfold ou.f
  rw [yB h]
  simp only [Option.bind_some,if_true]
  unfold pF.f
  rw [if_neg (by omega),if_neg (by omega),y8 (by omega) (by omega),if_pos (by omega),show (64 - (n:Int))=((64 - n:Nat):Int) by omega,Aa,hK,e1]
  rfl
 ·unfold shr
  rw [Int.toNat_natCast,show min (64 - n) IntKind.i64.bits=64 - n from Nat.min_eq_left (by show 64 - n≤64;omega)]
  have hP:(0:Int)<2 ^ (64 - n):=Int.pow_pos (by omega)
  rw [Int.ediv_lt_iff_lt_mul hP,Int.zero_mul, ← hiff]
  generalize p % 2 ^ n * K=y at hlt
  unfold wrap64
  omega
theorem E8 (q at_ len:Nat) (hq:q<2 ^ 64) (h:at_+len≤64):kD.f (q:Int) (at_:Int) (len:Int)=some (((q / 2 ^ at_ % 2 ^ len:Nat):Int),none):=by
 have hf:lh.f (at_:Int) (len:Int)=some true:=by
  unfold lh.f
  rw [if_pos (by omega),if_pos (by omega),if_pos (by omega),y8 (by omega) (by omega),decide_eq_true (by omega)]
 have ho:mi.f (len:Int)=some ((2 ^ len - 1:Nat):Int):=by
  unfold mi.f
  by_cases h64:len=64
  ·subst h64;rw [if_pos (show ((64:Nat):Int)=64 from rfl)];rfl
  ·rw [if_neg (by omega),if_pos (by omega)]
   have h1:=Aa 1 len
   have hm:2 ^ len<2 ^ 64:=Nat.pow_lt_pow_right (by omega) (by omega)
   rw [Nat.one_mul,Nat.mod_eq_of_lt hm] at h1
   rw [show shl .u64 1 (len:Int)=((2 ^ len:Nat):Int) from h1,IntKind.wrap_u64]
   have:=Nat.two_pow_pos len
   rw [p64] at hm
   congr 1;omega
 unfold kD.f
 rw [hf]
 simp only [Option.bind_some,if_true]
 rw [if_pos (by omega),ho]
 simp only [Option.bind_some]
 rw [Lr _ _ hq,Un _ _ (Nat.lt_of_le_of_lt (Nat.div_le_self _ _) hq) (by omega)]
def WP (n p:Nat):Nat:=if 2 ^ (n - 1)≤p % 2 ^ n then (2 ^ 64 - p) % 2 ^ 64 else p
theorem Gh {n p:Nat} (hn:8≤n) (hn2:n≤64) (hp:p<2 ^ 64) (h1:p % 2 ^ n≠2 ^ (n - 1)):WP n p % 2 ^ (n - 1)=(if 2 ^ (n - 1)≤p % 2 ^ n then 2 ^ n - p % 2 ^ n else p % 2 ^ n)∧WP n p<2 ^ 64:=by
 have hpw:2 ^ n=2 * 2 ^ (n - 1):=by rw [show n=(n - 1)+1 by omega,Nat.pow_succ];simp;omega
 have hlt:p % 2 ^ n<2 ^ n:=Nat.mod_lt _ (Nat.two_pow_pos _)
 have hd:(2:Nat) ^ (n - 1) ∣ 2 ^ n:=⟨2,by rw [hpw];omega⟩
 unfold WP
 by_cases h:2 ^ (n - 1)≤p % 2 ^ n
 ·rw [if_pos h,if_pos h]
  refine ⟨?_,Nat.mod_lt _ (Nat.two_pow_pos _)⟩
  have e:(2:Nat) ^ 64=2 ^ n * 2 ^ (64 - n):=by rw [← Nat.pow_add];congr 1;omega
  have e2:(2 ^ 64 - p) % 2 ^ 64 % 2 ^ n=(2 ^ n - p % 2 ^ n) % 2 ^ n:=by
   rw [Nat.mod_mod_of_dvd _ ⟨2 ^ (64 - n),e⟩]
   have hd2:=Nat.div_add_mod p (2 ^ n)
   have hq:p / 2 ^ n<2 ^ (64 - n):=by rw [Nat.div_lt_iff_lt_mul (Nat.two_pow_pos _),Nat.mul_comm, ← e];exact hp
   have e3:2 ^ 64 - p=2 ^ n * (2 ^ (64 - n) - 1 - p / 2 ^ n)+(2 ^ n - p % 2 ^ n):=by
    obtain ⟨u,hu⟩:∃ u,2 ^ (64 - n)=p / 2 ^ n+1+u:=⟨2 ^ (64 - n) - 1 - p / 2 ^ n,by omega⟩
    have e4:2 ^ 64=2 ^ n * (p / 2 ^ n)+2 ^ n+2 ^ n * u:=by rw [e,hu,Nat.mul_add,Nat.mul_add,Nat.mul_one]
    rw [show 2 ^ (64 - n) - 1 - p / 2 ^ n=u by omega]
    omega
   rw [e3,Nat.mul_add_mod]
  rw [← Nat.mod_mod_of_dvd _ hd,e2,Nat.mod_mod_of_dvd _ hd]
  exact Nat.mod_eq_of_lt (by omega)
 ·rw [if_neg h,if_neg h]
  refine ⟨?_,hp⟩
  rw [← Nat.mod_mod_of_dvd _ hd]
  exact Nat.mod_eq_of_lt (by omega)
theorem Ku {n:Nat} (hw:Wd n) (p:Nat) (hp:p<2 ^ 64) (h0:p % 2 ^ n≠0) (h1:p % 2 ^ n≠2 ^ (n - 1)) :
  ∃ s M,xY n (if 2 ^ (n - 1)≤p % 2 ^ n then 2 ^ n - p % 2 ^ n else p % 2 ^ n) s M∧Ev (fun k=>bM.f k (n:Int) (p:Int)) (1,decide (2 ^ (n - 1)≤p % 2 ^ n),s,(M:Int),none):=by
 obtain ⟨h8,h64⟩:=hw.bounds
 obtain ⟨hm,hq⟩:=Gh h8 h64 hp h1
 have hpw:2 ^ n=2 * 2 ^ (n - 1):=by rw [show n=(n - 1)+1 by omega,Nat.pow_succ];simp;omega
 have hlt:p % 2 ^ n<2 ^ n:=Nat.mod_lt _ (Nat.two_pow_pos _)
 obtain ⟨m,hmm⟩:∃ m,(if 2 ^ (n - 1)≤p % 2 ^ n then 2 ^ n - p % 2 ^ n else p % 2 ^ n)=m:=⟨_,rfl⟩
 rw [hmm] at hm ⊢
 have hm0:m≠0:=by rw [← hmm];split <;> omega
 have hm1:m<2 ^ (n - 1):=by rw [← hm];exact Nat.mod_lt _ (Nat.two_pow_pos _)
 obtain ⟨c,co,hrank,hsign⟩:=TE hw p hp
 have hneg:decide (c<0)=decide (2 ^ (n - 1)≤p % 2 ^ n):=decide_eq_decide.2 hsign
 have hQ:(if c<0 then IntKind.u64.wrap (-(p:Int)) else (p:Int))=(WP n p:Int):=by
  unfold WP
  by_cases h:c<0
  ·rw [if_pos h,if_pos (hsign.1 h),Om hp]
  ·rw [if_neg h,if_neg (fun k=>h (hsign.2 k))]
 have hkind:jP.f (n:Int) (p:Int)=some (1,none):=by rw [BO hw p hp,if_neg h0,if_neg h1]
 obtain ⟨Q,hQe⟩:∃ Q,WP n p=Q:=⟨_,rfl⟩
 rw [hQe] at hm hq hQ
 -- the run, and what the parts make
 have key:∀ (ones:Bool) (r:Nat),1≤r→r+1≤n→Ev (fun k=>jo.f k (Q:Int) ((n:Int) - 1)) (ones,(r:Int),none) →
   ∀ (L eb:Nat),L=n - 2 - r→eb=min L 2→Ev (fun k=>bM.f k (n:Int) (p:Int)) (1,decide (2 ^ (n - 1)≤p % 2 ^ n),4 * (if ones=true then (r:Int) - 1 else -(r:Int))+((m / 2 ^ (L - eb) % 2 ^ eb * 2 ^ (2 - eb):Nat):Int),((2 ^ 63+m % 2 ^ (L - eb) * 2 ^ (63 - (L - eb)):Nat):Int),none):=by
  intro ones r hr1 hr2 hrun L eb hL heb
  have hfb:L - eb+eb≤n - 1:=by omega
  have e1:Q / 2 ^ (L - eb) % 2 ^ eb=m / 2 ^ (L - eb) % 2 ^ eb:=by
   rw [← hm]
   rw [← Nat.mod_mul_right_div_self Q (2 ^ (L - eb)) (2 ^ eb), ← Nat.mod_mul_right_div_self (Q % 2 ^ (n - 1)) (2 ^ (L - eb)) (2 ^ eb), ← Nat.pow_add,Nat.mod_mod_of_dvd _ (Nat.pow_dvd_pow 2 hfb)]
  have e2:Q % 2 ^ (L - eb)=m % 2 ^ (L - eb):=by
   rw [← hm,Nat.mod_mod_of_dvd _ (Nat.pow_dvd_pow 2 (by omega))]
  have f1:=E8 Q (L - eb) eb hq (by omega)
  have f2:=E8 Q 0 (L - eb) hq (by omega)
  rw [e1] at f1
  rw [Nat.pow_zero,Nat.div_one,e2] at f2
  have hE:m / 2 ^ (L - eb) % 2 ^ eb * 2 ^ (2 - eb)<4:=by
   have h1:=Nat.mod_lt (m / 2 ^ (L - eb)) (Nat.two_pow_pos eb)
   have h2:m / 2 ^ (L - eb) % 2 ^ eb * 2 ^ (2 - eb)<2 ^ eb * 2 ^ (2 - eb):=Nat.mul_lt_mul_of_pos_right h1 (Nat.two_pow_pos _)
   rwa [← Nat.pow_add,show eb+(2 - eb)=2 by omega] at h2
  have hE2:m / 2 ^ (L - eb) % 2 ^ eb<4:=Nat.lt_of_le_of_lt (Nat.le_mul_of_pos_right _ (Nat.two_pow_pos _)) hE
  obtain ⟨E,hEe⟩:∃ E,m / 2 ^ (L - eb) % 2 ^ eb=E:=⟨_,rfl⟩
  obtain ⟨G,hG⟩:∃ G,m % 2 ^ (L - eb)=G:=⟨_,rfl⟩
  rw [hEe] at f1 hE hE2 ⊢
  rw [hG] at f2 ⊢
  have hG2:G<2 ^ (L - eb):=by rw [← hG];exact Nat.mod_lt _ (Nat.two_pow_pos _)
  have hG3:G * 2 ^ (63 - (L - eb))<2 ^ 63:=by
   have:=Nat.mul_lt_mul_of_pos_right (k:=2 ^ (63 - (L - eb))) hG2 (Nat.two_pow_pos _)
   rwa [← Nat.pow_add,show L - eb+(63 - (L - eb))=63 by omega] at this
  have hl:wL (n:Int) (r:Int)=(L:Int):=by unfold wL;omega
  have hb:Gg (L:Int)=(eb:Int):=by unfold Gg;omega
  refine Ev.congr (f:=fun k=>(jo.f k (Q:Int) ((n:Int) - 1)).bind fun u=>if u=(ones,(r:Int),none) then some (1,decide (2 ^ (n - 1)≤p % 2 ^ n),4 * (if ones=true then (r:Int) - 1 else -(r:Int))+((E * 2 ^ (2 - eb):Nat):Int),((2 ^ 63+G * 2 ^ (63 - (L - eb)):Nat):Int),(none:Option Int)) else bM.f k (n:Int) (p:Int)) (fun k=>?_) (Ev.bind hrun (by simp only [if_true];exact Ev.now _))
  cases hr:jo.f k (Q:Int) ((n:Int) - 1) with
  | none =>
   unfold bM.f nZ.f
   rw [hkind]
   simp only [Option.bind_some,Option.isNone_none,if_true]
   rw [if_pos (by simp;omega),hrank]
   simp only [Option.bind_some]
   rw [hQ,hr];rfl
  | some u =>
   simp only [Option.bind_some]
   by_cases hu:u=(ones,(r:Int),none)
   ·rw [if_pos hu]
    unfold bM.f nZ.f
    rw [hkind]
    simp only [Option.bind_some,Option.isNone_none,if_true]
    rw [if_pos (by simp;omega),hrank]
    simp only [Option.bind_some]
    rw [hQ,hr,hu]
    simp only [Option.bind_some]
    rw [if_pos ⟨by omega,by omega⟩,hl,hb]
    unfold zZ
    rw [show ((L:Int) - (eb:Int))=((L - eb:Nat):Int) by omega,f1]
    simp only [Option.bind_some]
    have f2':kD.f (Q:Int) 0 ((L - eb:Nat):Int)=_:=f2
    rw [f2']
    simp only [Option.bind_some]
    rw [if_pos ⟨by omega,by omega⟩]
    simp only [Option.bind_some]
    rw [y8 (x:=63 - ((L - eb:Nat):Int)) (by omega) (by omega),if_pos (by omega),show (63 - ((L - eb:Nat):Int))=((63 - (L - eb):Nat):Int) by omega,Aa,Nat.mod_eq_of_lt (by omega)]
    have o1:=aeY 1 (G * 2 ^ (63 - (L - eb))) 63 hG3 (by omega)
    rw [Nat.one_mul] at o1
    have o2:Go.bits .or .u64 9223372036854775808 ((G * 2 ^ (63 - (L - eb)):Nat):Int)=_:=o1
    have e9:((2 - (eb:Int)).toNat)=2 - eb:=by omega
    have e10:((E:Int) * 2 ^ (2 - eb))=((E * 2 ^ (2 - eb):Nat):Int):=by rw [Int.natCast_mul,Int.natCast_pow];rfl
    rw [o2,hneg,e9,e10]
    generalize E * 2 ^ (2 - eb)=EE at hE
    cases ones
    ·simp only [Bool.false_eq_true,if_false]
     rw [y8 (x:=4 * -(r:Int)) (by omega) (by omega),y8 (by omega) (by omega)]
    ·simp only [if_true]
     rw [y8 (x:=4 * ((r:Int) - 1)) (by omega) (by omega),y8 (by omega) (by omega)]
   ·rw [if_neg hu]
 by_cases hlow:m<2 ^ (n - 2)
 ·obtain ⟨r,r1,r2,r3,r4⟩:=CB h8 h64 hq hm.symm hm0 hlow
  have k:=key false r r1 (by omega) r4 (n - 2 - r) (min (n - 2 - r) 2) rfl rfl
  exact ⟨_,_,uu (n:=n) (p:=m) (r:=r) (ones:=false) (by omega) h64 r1 r2 r3 rfl rfl,k⟩
 ·obtain ⟨r,r1,r2,r3,r4,r5⟩:=NW h8 h64 hq hm.symm (by omega)
  have k:=key true r r1 r2 r5 (n - 2 - r) (min (n - 2 - r) 2) rfl rfl
  by_cases hr:r+1=n
  ·have hmo:=r3 hr
   have e0:n - 2 - r=0:=by omega
   rw [e0] at k
   have k2:Ev (fun k=>bM.f k (n:Int) (p:Int)) (1,decide (2 ^ (n - 1)≤p % 2 ^ n),top n,((2 ^ 63:Nat):Int),none):=by
    have e1:(4 * (if true=true then (r:Int) - 1 else -(r:Int))+((m / 2 ^ (0 - min 0 2) % 2 ^ (min 0 2) * 2 ^ (2 - min 0 2):Nat):Int))=top n:=by
     have:m / 2 ^ (0 - min 0 2) % 2 ^ (min 0 2)=0:=by rw [show min 0 2=0 from rfl,Nat.pow_zero (2)];exact Nat.mod_one _
     rw [this,Nat.zero_mul,if_pos rfl]
     unfold top;omega
    have e2:2 ^ 63+m % 2 ^ (0 - min 0 2) * 2 ^ (63 - (0 - min 0 2))=2 ^ 63:=by
     have:m % 2 ^ (0 - min 0 2)=0:=by rw [show 0 - min 0 2=0 from rfl,Nat.pow_zero];exact Nat.mod_one _
     rw [this,Nat.zero_mul,Nat.add_zero]
    rw [e1,e2] at k
    exact k
   rw [hmo]
   exact ⟨_,_,Fb (by omega),k2⟩
  ·exact ⟨_,_,uu (n:=n) (p:=m) (r:=r) (ones:=true) (by omega) h64 r1 (by omega) (by rw [if_pos rfl];exact r4 (by omega)) rfl rfl,k⟩
end Go.Proofs.Yy.PTx
end
section
namespace Go.Proofs.Yy.PTx
open Go.RowKit Go.Proofs.Yw.PrintWords Go.Proofs.Yw.PrintLast Go.Proofs.Yw.PrintMore Go.Proofs.Yy.M Go.Proofs.Yy.NM
attribute [local irreducible] gp jK lI oL val
theorem w64 {x:Int} (h0 : -9223372036854775808≤x) (h1:x≤9223372036854775807):wrap64 x=x:=by unfold wrap64;omega
theorem ut {x:Int} (h0:0≤x) (h1:x≤18446744073709551615):IntKind.u64.wrap x=x:=IntWalk.u64_in x ⟨h0,h1⟩
theorem jg (l:List Int) (n:Nat):rd l (n:Int)=l.getD n 0:=by simp [rd]
theorem vV:0<B:=by have:=B1;omega
theorem aaI {l:List Int} (h:Dig B l) (hL:l.length≤1099511627776):∀ n:Nat,n≤l.length→Ev (fun k=>bG.l0 k l (n:Int)) (enc B (val B (l.take n))):=by
 intro n
 induction n with
 | zero =>
  intro _
  refine Ev.step (f:=fun _=>some []) (fun k=>?_) (by rw [List.take_zero,pR,eu];exact Ev.now _)
  simp only [bG.l0]
  rw [if_neg (by omega),if_pos (by omega),if_pos (by omega)]
  simp
 | succ n ih =>
  intro hn
  have hw:ae (wrap64 (((n+1:Nat):Int) - 1)=(n:Int)):=⟨by rw [w64 (by omega) (by omega)];omega⟩
  have hd:=h.take (n+1)
  have ht:l.take (n+1)=l.take n ++ [l.getD n 0]:=by
   rw [List.take_succ_eq_append_getElem (by omega),List.getD_eq_getElem?_getD,List.getElem?_eq_getElem (by omega)];rfl
  rw [ht] at hd
  have he:=F6 B1 hd
  rw [← ht] at he
  by_cases h0:l.getD n 0=0
  ·rw [if_pos h0] at he
   rw [he]
   refine Ev.step (f:=fun k=>bG.l0 k l (n:Int)) (fun k=>?_) (ih (by omega))
   simp only [bG.l0]
   rw [hw.out,if_pos (by omega),if_pos (by omega),if_pos (by omega),jg,if_pos h0]
  ·rw [if_neg h0] at he
   rw [he]
   refine Ev.step (f:=fun _=>some (l.take (n+1))) (fun k=>?_) (Ev.now _)
   simp only [bG.l0]
   rw [hw.out,if_pos (by omega),if_pos (by omega),if_pos (by omega),jg,if_neg h0,if_pos (by omega),if_pos (by omega)]
   rfl
theorem ul {l:List Int} (h:Dig B l) (hL:l.length≤1099511627776):Ev (fun k=>bG.f k l) (enc B (val B l)):=by
 have:=aaI h hL l.length (Nat.le_refl _)
 rw [List.take_length] at this
 exact this
theorem Fg {x y c:Int} (hx:0≤x∧x<B) (hy:0≤y∧y<B) (hc:0≤c) (hc1:c≤1):gp x y c+B * jK x y c=x+y+c∧(0≤gp x y c∧gp x y c<B)∧0≤jK x y c∧jK x y c≤1:=by
 unfold gp jK
 rw [y9] at *
 omega
end Go.Proofs.Yy.PTx
end
