/- Part 23 of what the proof needs. -/
import Derived.WalkMore
import Derived.Test.YtpfnkbnepcchgaaGreatDoorKTBAQ
import Derived.Test.YtpfnkbnepcchgaaGreatDoorKTBAV
set_option linter.unusedSimpArgs false
set_option linter.unusedVariables false
section
namespace Go.Proofs.Yy.PTx
open Go.RowKit Go.Proofs.Yw.PrintWords Go.Proofs.Yw.PrintLast Go.Proofs.Yw.PrintMore
def tshort_go (k:Nat) (n:Int) (b0 b1:Bool) (l:ByteArray) (e own:Int):Nat→Nat→Option (Bool × Bool × ByteArray × Int)
 | 0,_=>some (b0,b1,l,e)
 | m+1,j =>
  (text_above.f b0 b1 (l.extract 0 j) (wrap64 (wrap64 (e+l.size) - j))).bind fun h =>
  (text_Of.f k n b0 b1 (l.extract 0 j) (wrap64 (wrap64 (e+l.size) - j))).bind fun a =>
  (text_Of.f k n h.1 h.2.1 h.2.2.1 h.2.2.2).bind fun b =>
  if a.2=none∧b.2=none then
   if a.1=own∧(b.1≠own∨(l.extract j l.size).data.toList ≤ [53]) then some (b0,b1,l.extract 0 j,wrap64 (wrap64 (e+l.size) - j))
   else if b.1=own then some h else tshort_go k n b0 b1 l e own m (j+1)
  else none
def text_Short.f (k:Nat) (a0 a1:Int):Option (ByteArray × Option Int) :=
 (text_Decimal.f k a0 a1).bind fun v=>if v.2.2.2.2=none∧8≤a0∧a0≤64 then
  if v.1=true∨v.2.2.1.toList = [48] then scan_Text.f v.1 v.2.1 v.2.2.1 v.2.2.2.1
  else (tshort_go k a0 v.1 v.2.1 v.2.2.1 v.2.2.2.1 (shr .u64 (shl .u64 a1 (64 - a0)) (64 - a0)) (v.2.2.1.size - 1) 1).bind fun b=>scan_Text.f b.1 b.2.1 b.2.2.1 b.2.2.2
 else if v.2.2.2.2=none then none else some (⟨#[]⟩,some (v.2.2.2.2.getD 0))
theorem bytesLess_lt:∀ (x y:List UInt8),Op.bytesLess x y=decide (x<y)
 | [], []=>by simp [Op.bytesLess]
 | _ :: _, []=>by simp [Op.bytesLess]
 | [],_ :: _=>by simp [Op.bytesLess]
 | a :: x,b :: y=>by
  rw [Op.bytesLess,bytesLess_lt x y]
  simp only [List.cons_lt_cons_iff]
  by_cases h1:a<b <;> by_cases h2:a=b <;> by_cases h3:x<y <;> simp [h1,h2,h3]
theorem gtr_str (P:Program) (t:TypeId) (x y:ByteArray) (W:World):(binOp .gtr t (.string x) (.string y)).run P W = .ok (.bool (decide (y.data.toList<x.data.toList))) W:=by
 have h:(binOp .gtr t (.string x) (.string y)).run P W = .ok (.bool (!(Op.bytesLess x.toList y.toList || x.toList == y.toList))) W:=rfl
 rw [h,bytesLess_lt,Lib.toList_data,Lib.toList_data]
 congr 2
 by_cases h1:x.data.toList<y.data.toList
 ·have h2:¬ y.data.toList<x.data.toList:=List.lt_asymm h1
  simp [h1,h2]
 ·by_cases h3:x.data.toList=y.data.toList
  ·have h2:¬ y.data.toList<x.data.toList:=by rw [h3];exact List.lt_irrefl _
   simp [h2,h3]
  ·have h2:y.data.toList<x.data.toList:=by
    rcases List.le_iff_lt_or_eq.1 (show y.data.toList≤x.data.toList from h1) with h|h
    ·exact h
    ·exact absurd h.symm h3
   simp [h1,h2]
   exact fun e=>h3 (by rw [e])
theorem tshort_step {k:Nat} {n:Int} {b0 b1:Bool} {l:ByteArray} {e own:Int} {m j:Nat} {r:Bool × Bool × ByteArray × Int} (hm:m=(m - 1)+1) (h:tshort_go k n b0 b1 l e own m j=some r) :
  ∃ h0 h1 hl he a b,text_above.f b0 b1 (l.extract 0 j) (wrap64 (wrap64 (e+l.size) - j))=some (h0,h1,hl,he)∧text_Of.f k n b0 b1 (l.extract 0 j) (wrap64 (wrap64 (e+l.size) - j))=some (a,none)∧text_Of.f k n h0 h1 hl he=some (b,none) ∧
   (if a=own∧(b≠own∨(l.extract j l.size).data.toList ≤ [53]) then some (b0,b1,l.extract 0 j,wrap64 (wrap64 (e+l.size) - j)) else if b=own then some (h0,h1,hl,he) else tshort_go k n b0 b1 l e own (m - 1) (j+1))=some r:=by
 rw [hm,tshort_go] at h
 obtain ⟨⟨h0,h1,hl,he⟩,q1,h⟩:=Option.bind_eq_some_iff.mp h
 obtain ⟨⟨a,a2⟩,q2,h⟩:=Option.bind_eq_some_iff.mp h
 obtain ⟨⟨b,b2⟩,q3,h⟩:=Option.bind_eq_some_iff.mp h
 by_cases hc:a2=none∧b2=none
 case neg=>rw [if_neg hc] at h;exact absurd h (by simp)
 rw [if_pos hc] at h
 obtain ⟨rfl,rfl⟩:=hc
 exact ⟨h0,h1,hl,he,a,b,q1,q2,q3,h⟩
theorem tshort_above {a0 a1:Bool} {l:ByteArray} {e:Int} {r:Bool × Bool × ByteArray × Int} (h:text_above.f a0 a1 l e=some r):l.size≤1048576:=by
 unfold text_above.f at h
 by_cases hc:l.data.toList ≠ []∧l.size≤1048576
 ·exact hc.2
 ·rw [if_neg hc] at h;exact absurd h (by simp)
set_option maxHeartbeats 4000000 in
set_option maxRecDepth 100000 in
theorem tshort_walk (k:Nat) (n p:Int) (b0 b1:Bool) (l:ByteArray) (e own:Int) (c0 c1:Bool) (cl:ByteArray) (ce:Int) (r1:ByteArray) (r2:Option Int) (w:World) (htab:Fx.Laid w)
  (hd:text_Decimal.f k n p=some (b0,b1,l,e,none)) (h8:8≤n) (h64:n≤64) (hb0:b0=false) (hl:(l.toList == [48])=false) (hown:own=shr .u64 (shl .u64 p (64 - n)) (64 - n))
  (hgo:tshort_go k n b0 b1 l e own (l.size - 1) 1=some (c0,c1,cl,ce)) (ht:scan_Text.f c0 c1 cl ce=some (r1,r2)) :
  Calls Tryz.prog 20 #[.int .i64 n, .int .u64 p] w fun e' w'=>e' = .returned (.tuple #[.string r1,errW r2])∧Below w.heap.size w w':=by
 subst hb0
 have hkD:∀ W:World,Fx.Laid W→Calls Tryz.prog 16 #[.int .i64 n, .int .u64 p] W fun e' w'=>e' = .returned (.tuple #[.agg #[.bool false, .bool b1, .string l, .int .i64 e], .nilIface])∧Below W.heap.size W w':=fun W hW=>text_Decimal.calls k n p _ _ _ _ _ W hd hW
 have hkT:∀ W:World,Fx.Laid W→Calls Tryz.prog 30 #[.agg #[.bool c0, .bool c1, .string cl, .int .i64 ce]] W fun e' w'=>e' = .returned (.tuple #[.string r1,errW r2])∧Below W.heap.size W w':=fun W hW=>scan_Text.calls _ _ _ _ _ _ W ht hW
 have HD:=Lib.hid hkD
 have HT:=Lib.hid hkT
 have HGO:=Lib.hid hgo
 have HOWN:=Lib.hid hown
 have HTAB:=Lib.hid htab
 clear hkD hkT hgo hd ht hown htab
 generalize errW r2=v2 at HT ⊢
 have ho:IntKind.u64.wrap (p * 2 ^ (64 - n).toNat) / 2 ^ (64 - n).toNat=own:=by
  have hm:min (64 - n).toNat IntKind.u64.bits=(64 - n).toNat:=by show min (64 - n).toNat 64=_;omega
  rw [HOWN.out]
  unfold shr shl
  rw [hm]
 go_enter Tryz.func20,Tryz.ntmps20
 go_wp2
 go_step3
 go_wp2_with (go_at_call 16;(with_reducible refine (HD.out _ HTAB.out).mono ?_);rintro e1 w1 ⟨rfl,hw1⟩)
 go_step3
 go_wp2
 go_loopw [10] (fun i w' => ∃ j:Nat,i = .int .i64 j∧1≤j∧Aside0 (tshort_go k n false b1 l e own (l.size - j) j=some (c0,c1,cl,ce))∧Aside0 (w'.heap[w1.heap.size]? = some (.cells #[.bool false, .bool b1, .string l, .int .i64 e] 23 (0,0)))∧Aside0 (w'.heap[w1.heap.size+1]? = some (.cells #[.bool false, .bool b1, .string l, .int .i64 e] 23 (0,0)))∧Aside0 (Below w.heap.size w w')) (fun i _=>l.size - (intOf i).toNat)
 case atStart=>exact ⟨1,rfl,Nat.le_refl _,⟨HGO.out⟩,⟨blk_alloc (blk_new _ _) _⟩,⟨blk_new' (by simp)⟩,⟨below_alloc (below_alloc hw1 _) _⟩⟩
 case round =>
  obtain ⟨j,rfl,hj1,HG,K1,K2,HB⟩:=hrel
  have q0:∀ i,wr.cell? ⟨w1.heap.size,i,none⟩=(_:Array Value)[i]?:=blk_cell K1.out
  have f0:∀ i,wr.frozen? ⟨w1.heap.size,i,none⟩=false:=blk_frozen K1.out
  have q1:∀ i,wr.cell? ⟨w1.heap.size+1,i,none⟩=(_:Array Value)[i]?:=blk_cell K2.out
  have f1:∀ i,wr.frozen? ⟨w1.heap.size+1,i,none⟩=false:=blk_frozen K2.out
  by_cases hj:j<l.size
  case neg =>
   have hjn:((j:Int)<(l.size:Int))=False:=eq_false (by omega)
   have hz:l.size - j=0:=by omega
   have hq:=HG.out
   rw [hz,tshort_go] at hq
   simp only [Option.some.injEq,Prod.mk.injEq] at hq
   obtain ⟨rfl,rfl,rfl,rfl⟩:=hq
   clear hz
   go_wp2_with (go_at_call 30;(with_reducible refine (HT.out _ (HTAB.out.below HB.out)).mono ?_);rintro e2 w2 ⟨rfl,hb2⟩;have hb:=am (below_step HB.out hb2);clear hb2)
   rw [Exit.noGoto_ret]
   go_ret2
   exact ⟨rfl,hb.out⟩
  obtain ⟨h0,h1,hl',he,a,b,q1_,q2_,q3_,hif⟩:=tshort_step (by omega) HG.out
  have hsz:j≤1048576:=by
   have h:=tshort_above q1_
   rw [ByteArray.size_extract] at h
   omega
  obtain ⟨E,hE⟩:∃ E,wrap64 (wrap64 (e+l.size) - j)=E:=⟨_,rfl⟩
  rw [hE] at q1_ q2_ hif
  have hEw:IntKind.i64.wrap (IntKind.i64.wrap (e+l.size) - j)=E:=by rw [i64_w,i64_w];exact hE
  obtain ⟨lo,hlo⟩:∃ x,l.extract 0 j=x:=⟨_,rfl⟩
  obtain ⟨re,hre⟩:∃ x,l.extract j l.size=x:=⟨_,rfl⟩
  rw [hlo] at q1_ q2_ hif
  rw [hre] at hif
  have HIF:=Lib.hid hif
  have HA:Hid (∀ W:World,Calls Tryz.prog 56 #[.agg #[.bool false, .bool b1, .string lo, .int .i64 E]] W fun e' w'=>e' = .returned (.agg #[.bool h0, .bool h1, .string hl', .int .i64 he])∧Below W.heap.size W w'):=Lib.hid fun W=>text_above.calls _ _ _ _ _ _ _ _ W q1_
  have HO:Hid (∀ W:World,Calls Tryz.prog 13 #[.int .i64 n, .agg #[.bool false, .bool b1, .string lo, .int .i64 E]] W fun e' w'=>e' = .returned (.tuple #[.int .u64 a, .nilIface])∧Below W.heap.size W w'):=Lib.hid fun W=>text_Of.calls k _ _ _ _ _ _ _ W q2_
  have HP:Hid (∀ W:World,Calls Tryz.prog 13 #[.int .i64 n, .agg #[.bool h0, .bool h1, .string hl', .int .i64 he]] W fun e' w'=>e' = .returned (.tuple #[.int .u64 b, .nilIface])∧Below W.heap.size W w'):=Lib.hid fun W=>text_Of.calls k _ _ _ _ _ _ _ W q3_
  have HE:=Lib.hid hE
  clear q1_ q2_ q3_ hif hE HG
  have hjl:((j:Int)<(l.size:Int))=True:=eq_true (by omega)
  have hGs:w1.heap.size+2≤wr.heap.size:=by
   have h:=blk_lt K2.out
   omega
  obtain ⟨G,hG⟩:∃ G,wr.heap.size=G:=⟨_,rfl⟩
  have HGs:=Lib.hid (show w1.heap.size+2≤G by omega)
  have HGb:=Lib.hid (show w.heap.size≤G by have h:=below_size HB.out;omega)
  have HG:=Lib.hid hG
  clear hGs
  go_upto_region 11 with (fail)
  go_cut [11] (fun v11 wc=>v11 = .pointer (some ⟨G,0,none⟩)∧Aside0 (wc.heap[w1.heap.size]? = (some (.cells #[.bool false, .bool b1, .string l, .int .i64 e] 23 (0,0))))∧Aside0 (wc.heap[w1.heap.size+1]? = (some (.cells #[.bool false, .bool b1, .string l, .int .i64 e] 23 (0,0))))∧Aside0 (wc.heap[G]? = (some (.cells #[.bool false, .bool b1, .string l, .int .i64 e] 23 (0,0))))∧Aside0 (Below w.heap.size w wc))
  case first =>
   go_wp2
   go_meet
   case rel=>exact ⟨rfl,⟨blk_alloc K1.out _⟩,⟨blk_alloc K2.out _⟩,⟨blk_new' HG.out⟩,⟨below_alloc HB.out _⟩⟩
  case rest =>
  clear q0 f0 q1 f1 K1 K2 HB hG HG
  obtain ⟨rfl,K1,K2,K3,HB⟩:=hcut
  rename_i wc
  have q1:∀ i,wc.cell? ⟨w1.heap.size,i,none⟩=(_:Array Value)[i]?:=blk_cell K1.out
  have f1:∀ i,wc.frozen? ⟨w1.heap.size,i,none⟩=false:=blk_frozen K1.out
  have q2:∀ i,wc.cell? ⟨w1.heap.size+1,i,none⟩=(_:Array Value)[i]?:=blk_cell K2.out
  have f2:∀ i,wc.frozen? ⟨w1.heap.size+1,i,none⟩=false:=blk_frozen K2.out
  have q3:∀ i,wc.cell? ⟨G,i,none⟩=(_:Array Value)[i]?:=blk_cell K3.out
  have f3:∀ i,wc.frozen? ⟨G,i,none⟩=false:=blk_frozen K3.out
  have hn1:w1.heap.size≠G:=by have:=HGs.out;omega
  have hn2:G≠w1.heap.size:=by omega
  go_upto_region 12 with (fail)
  go_cut [] (fun wc=>Aside0 (wc.heap[w1.heap.size]? = (some (.cells #[.bool false, .bool b1, .string l, .int .i64 e] 23 (0,0))))∧Aside0 (wc.heap[w1.heap.size+1]? = (some (.cells #[.bool false, .bool b1, .string l, .int .i64 e] 23 (0,0))))∧Aside0 (wc.heap[G]? = (some (.cells #[.bool false, .bool b1, .string lo, .int .i64 E] 23 (0,0))))∧Aside0 (Below w.heap.size w wc))
  case first =>
   go_region
   go_wp2
   go_meet
   case rel =>
    have hB:w1.heap.size+1≠G:=by have:=HGs.out;omega
    simp only [HE.out]
    exact ⟨⟨blk_drew (blk_far (blk_far K1.out hn1 _) hn1 _)⟩,⟨blk_drew (blk_far (blk_far K2.out hB _) hB _)⟩,⟨(by apply blk_drew;apply Eq.trans;(repeat (first|(with_reducible exact K3.out)|(with_reducible apply blk_set)));rfl)⟩,⟨below_drew1 (below_set (below_set HB.out HGb.out) HGb.out)⟩⟩
  case rest =>
  clear q1 f1 q2 f2 q3 f3 K1 K2 K3 HB hn1 hn2
  obtain ⟨K1,K2,K3,HB⟩:=hcut
  rename_i wc
  have q1:∀ i,wc.cell? ⟨w1.heap.size,i,none⟩=(_:Array Value)[i]?:=blk_cell K1.out
  have f1:∀ i,wc.frozen? ⟨w1.heap.size,i,none⟩=false:=blk_frozen K1.out
  have q2:∀ i,wc.cell? ⟨w1.heap.size+1,i,none⟩=(_:Array Value)[i]?:=blk_cell K2.out
  have f2:∀ i,wc.frozen? ⟨w1.heap.size+1,i,none⟩=false:=blk_frozen K2.out
  have q3:∀ i,wc.cell? ⟨G,i,none⟩=(_:Array Value)[i]?:=blk_cell K3.out
  have f3:∀ i,wc.frozen? ⟨G,i,none⟩=false:=blk_frozen K3.out
  go_upto_region 13 with (fail)
  go_cut [12] (fun v12 wc => ∃ H_:Nat,v12 = .pointer (some ⟨H_,0,none⟩)∧Aside0 (wc.heap[w1.heap.size]? = (some (.cells #[.bool false, .bool b1, .string l, .int .i64 e] 23 (0,0))))∧Aside0 (wc.heap[w1.heap.size+1]? = (some (.cells #[.bool false, .bool b1, .string l, .int .i64 e] 23 (0,0))))∧Aside0 (wc.heap[G]? = (some (.cells #[.bool false, .bool b1, .string lo, .int .i64 E] 23 (0,0))))∧Aside0 (wc.heap[H_]? = (some (.cells #[.bool h0, .bool h1, .string hl', .int .i64 he] 23 (0,0))))∧Aside0 (Below w.heap.size w wc))
  case first =>
   go_wp2_with (go_at_call 56;(with_reducible refine (HA.out _).mono ?_);rintro e3 w3 ⟨rfl,hb3⟩;have k1:=blk_below K1.out hb3;have k2:=blk_below K2.out hb3;have k3:=blk_below K3.out hb3;have hb:=below_step HB.out hb3;clear q1 f1 q2 f2 q3 f3 K1 K2 K3 HB hb3;have K1:=am k1;have K2:=am k2;have K3:=am k3;have HB:=am hb;clear k1 k2 k3 hb;have q1:∀ i,w3.cell? ⟨w1.heap.size,i,none⟩=(_:Array Value)[i]?:=blk_cell K1.out;have f1:∀ i,w3.frozen? ⟨w1.heap.size,i,none⟩=false:=blk_frozen K1.out;have q2:∀ i,w3.cell? ⟨w1.heap.size+1,i,none⟩=(_:Array Value)[i]?:=blk_cell K2.out;have f2:∀ i,w3.frozen? ⟨w1.heap.size+1,i,none⟩=false:=blk_frozen K2.out;have q3:∀ i,w3.cell? ⟨G,i,none⟩=(_:Array Value)[i]?:=blk_cell K3.out;have f3:∀ i,w3.frozen? ⟨G,i,none⟩=false:=blk_frozen K3.out)
   go_meet
   case rel=>exact ⟨_,rfl,⟨blk_alloc K1.out _⟩,⟨blk_alloc K2.out _⟩,⟨blk_alloc K3.out _⟩,⟨blk_new _ _⟩,⟨below_alloc HB.out _⟩⟩
  case rest =>
  clear q1 f1 q2 f2 q3 f3 K1 K2 K3 HB
  obtain ⟨H_,rfl,K1,K2,K3,K4,HB⟩:=hcut
  rename_i wc
  have q1:∀ i,wc.cell? ⟨w1.heap.size,i,none⟩=(_:Array Value)[i]?:=blk_cell K1.out
  have f1:∀ i,wc.frozen? ⟨w1.heap.size,i,none⟩=false:=blk_frozen K1.out
  have q2:∀ i,wc.cell? ⟨w1.heap.size+1,i,none⟩=(_:Array Value)[i]?:=blk_cell K2.out
  have f2:∀ i,wc.frozen? ⟨w1.heap.size+1,i,none⟩=false:=blk_frozen K2.out
  have q3:∀ i,wc.cell? ⟨G,i,none⟩=(_:Array Value)[i]?:=blk_cell K3.out
  have f3:∀ i,wc.frozen? ⟨G,i,none⟩=false:=blk_frozen K3.out
  have q4:∀ i,wc.cell? ⟨H_,i,none⟩=(_:Array Value)[i]?:=blk_cell K4.out
  have f4:∀ i,wc.frozen? ⟨H_,i,none⟩=false:=blk_frozen K4.out
  obtain ⟨half,hhalf⟩:∃ x:Bool,decide ((⟨#[53]⟩:ByteArray).data.toList<re.data.toList)=x:=⟨_,rfl⟩
  have hgt:∀ W:World,(binOp .gtr 9 (.string re) (.string ⟨#[53]⟩)).run Tryz.prog W = .ok (.bool half) W:=fun W=>by rw [gtr_str,hhalf]
  have HH:=Lib.hid hhalf
  clear hhalf
  have HBb:=Lib.hid (show w.heap.size≤w1.heap.size+1 by have h:=below_size hw1;omega)
  go_upto_region 21 with (first|(go_at_call 13;(with_reducible refine (HO.out _).mono ?_);rintro e4 w4 ⟨rfl,hb4⟩;have k1:=blk_below K1.out hb4;have k2:=blk_below K2.out hb4;have k3:=blk_below K3.out hb4;have k4:=blk_below K4.out hb4;have hb:=below_step HB.out hb4;clear q1 f1 q2 f2 q3 f3 q4 f4 K1 K2 K3 K4 HB hb4;have K1:=am k1;have K2:=am k2;have K3:=am k3;have K4:=am k4;have HB:=am hb;clear k1 k2 k3 k4 hb;have q1:∀ i,w4.cell? ⟨w1.heap.size,i,none⟩=(_:Array Value)[i]?:=blk_cell K1.out;have f1:∀ i,w4.frozen? ⟨w1.heap.size,i,none⟩=false:=blk_frozen K1.out;have q2:∀ i,w4.cell? ⟨w1.heap.size+1,i,none⟩=(_:Array Value)[i]?:=blk_cell K2.out;have f2:∀ i,w4.frozen? ⟨w1.heap.size+1,i,none⟩=false:=blk_frozen K2.out;have q3:∀ i,w4.cell? ⟨G,i,none⟩=(_:Array Value)[i]?:=blk_cell K3.out;have f3:∀ i,w4.frozen? ⟨G,i,none⟩=false:=blk_frozen K3.out;have q4:∀ i,w4.cell? ⟨H_,i,none⟩=(_:Array Value)[i]?:=blk_cell K4.out;have f4:∀ i,w4.frozen? ⟨H_,i,none⟩=false:=blk_frozen K4.out)|(go_at_call 13;(with_reducible refine (HP.out _).mono ?_);rintro e5 w5 ⟨rfl,hb5⟩;have k1:=blk_below K1.out hb5;have k2:=blk_below K2.out hb5;have k3:=blk_below K3.out hb5;have k4:=blk_below K4.out hb5;have hb:=below_step HB.out hb5;clear q1 f1 q2 f2 q3 f3 q4 f4 K1 K2 K3 K4 HB hb5;have K1:=am k1;have K2:=am k2;have K3:=am k3;have K4:=am k4;have HB:=am hb;clear k1 k2 k3 k4 hb;have q1:∀ i,w5.cell? ⟨w1.heap.size,i,none⟩=(_:Array Value)[i]?:=blk_cell K1.out;have f1:∀ i,w5.frozen? ⟨w1.heap.size,i,none⟩=false:=blk_frozen K1.out;have q2:∀ i,w5.cell? ⟨w1.heap.size+1,i,none⟩=(_:Array Value)[i]?:=blk_cell K2.out;have f2:∀ i,w5.frozen? ⟨w1.heap.size+1,i,none⟩=false:=blk_frozen K2.out;have q3:∀ i,w5.cell? ⟨G,i,none⟩=(_:Array Value)[i]?:=blk_cell K3.out;have f3:∀ i,w5.frozen? ⟨G,i,none⟩=false:=blk_frozen K3.out;have q4:∀ i,w5.cell? ⟨H_,i,none⟩=(_:Array Value)[i]?:=blk_cell K4.out;have f4:∀ i,w5.frozen? ⟨H_,i,none⟩=false:=blk_frozen K4.out))
  by_cases ha:a=own
  ·subst ha
   by_cases hbo:b=a
   ·subst hbo
    cases half
    ·have hq:=HIF.out
     rw [if_pos ⟨rfl,Or.inr (by have:=of_decide_eq_false HH.out;exact this)⟩] at hq
     simp only [Option.some.injEq,Prod.mk.injEq] at hq
     obtain ⟨rfl,rfl,rfl,rfl⟩:=hq
     clear HIF
     go_wp2_with (go_at_call 30;(with_reducible refine (HT.out _ (HTAB.out.below (by repeat (first|(with_reducible exact HB.out)|(with_reducible refine below_set ?_ HBb.out))))).mono ?_);rintro e7 w7 ⟨rfl,hb7⟩;have hb:=am (below_step (by repeat (first|(with_reducible exact HB.out)|(with_reducible refine below_set ?_ HBb.out))) hb7);clear hb7)
     rw [Exit.noGoto_ret]
     go_ret2
     exact ⟨rfl,hb.out⟩
    ·have hq:=HIF.out
     rw [if_neg (fun h=>h.2.elim (fun h=>h rfl) (fun h=>absurd (of_decide_eq_true HH.out) (by exact h)))] at hq
     rw [if_pos rfl] at hq
     simp only [Option.some.injEq,Prod.mk.injEq] at hq
     obtain ⟨rfl,rfl,rfl,rfl⟩:=hq
     clear HIF
     go_wp2_with (go_at_call 30;(with_reducible refine (HT.out _ (HTAB.out.below (by repeat (first|(with_reducible exact HB.out)|(with_reducible refine below_set ?_ HBb.out))))).mono ?_);rintro e7 w7 ⟨rfl,hb7⟩;have hb:=am (below_step (by repeat (first|(with_reducible exact HB.out)|(with_reducible refine below_set ?_ HBb.out))) hb7);clear hb7)
     rw [Exit.noGoto_ret]
     go_ret2
     exact ⟨rfl,hb.out⟩
   ·have hb1:(b=a)=False:=eq_false hbo
    have hb2:(b == a)=false:=beq_eq_false_iff_ne.2 hbo
    have hq:=HIF.out
    rw [if_pos ⟨rfl,Or.inl hbo⟩] at hq
    simp only [Option.some.injEq,Prod.mk.injEq] at hq
    obtain ⟨rfl,rfl,rfl,rfl⟩:=hq
    clear HIF
    go_wp2_with (go_at_call 30;(with_reducible refine (HT.out _ (HTAB.out.below (by repeat (first|(with_reducible exact HB.out)|(with_reducible refine below_set ?_ HBb.out))))).mono ?_);rintro e7 w7 ⟨rfl,hb7⟩;have hb:=am (below_step (by repeat (first|(with_reducible exact HB.out)|(with_reducible refine below_set ?_ HBb.out))) hb7);clear hb7)
    rw [Exit.noGoto_ret]
    go_ret2
    exact ⟨rfl,hb.out⟩
  ·have ha1:(a=own)=False:=eq_false ha
   have ha2:(a == own)=false:=beq_eq_false_iff_ne.2 ha
   by_cases hbo:b=own
   ·subst hbo
    have hq:=HIF.out
    rw [if_neg (fun h=>ha h.1)] at hq
    rw [if_pos rfl] at hq
    simp only [Option.some.injEq,Prod.mk.injEq] at hq
    obtain ⟨rfl,rfl,rfl,rfl⟩:=hq
    clear HIF
    go_wp2_with (go_at_call 30;(with_reducible refine (HT.out _ (HTAB.out.below (by repeat (first|(with_reducible exact HB.out)|(with_reducible refine below_set ?_ HBb.out))))).mono ?_);rintro e7 w7 ⟨rfl,hb7⟩;have hb:=am (below_step (by repeat (first|(with_reducible exact HB.out)|(with_reducible refine below_set ?_ HBb.out))) hb7);clear hb7)
    rw [Exit.noGoto_ret]
    go_ret2
    exact ⟨rfl,hb.out⟩
   ·have hb1:(b=own)=False:=eq_false hbo
    have hb2:(b == own)=false:=beq_eq_false_iff_ne.2 hbo
    have hq:=HIF.out
    rw [if_neg (fun h=>ha h.1)] at hq
    rw [if_neg hbo] at hq
    have HQ:=Lib.hid hq
    clear hq HIF
    go_wp2
    go_roundw
    case rel =>
     exact ⟨j+1,by simp,by omega,⟨by have h:=HQ.out;rwa [show l.size - j - 1=l.size - (j+1) by omega] at h⟩,K1,K2,HB⟩
    case measure=>simp [intOf];omega
set_option maxHeartbeats 4000000 in
set_option maxRecDepth 100000 in
theorem tshort_plain (k:Nat) (n p:Int) (b0 b1:Bool) (l:ByteArray) (e:Int) (r1:ByteArray) (r2:Option Int) (w:World) (htab:Fx.Laid w)
  (hd:text_Decimal.f k n p=some (b0,b1,l,e,none)) (hb0:b0=true∨l.toList = [48]) (ht:scan_Text.f b0 b1 l e=some (r1,r2)) :
  Calls Tryz.prog 20 #[.int .i64 n, .int .u64 p] w fun e' w'=>e' = .returned (.tuple #[.string r1,errW r2])∧Below w.heap.size w w':=by
 have hkD:∀ W:World,Fx.Laid W→Calls Tryz.prog 16 #[.int .i64 n, .int .u64 p] W fun e' w'=>e' = .returned (.tuple #[.agg #[.bool b0, .bool b1, .string l, .int .i64 e], .nilIface])∧Below W.heap.size W w':=fun W hW=>text_Decimal.calls k n p _ _ _ _ _ W hd hW
 have hkT:∀ W:World,Fx.Laid W→Calls Tryz.prog 30 #[.agg #[.bool b0, .bool b1, .string l, .int .i64 e]] W fun e' w'=>e' = .returned (.tuple #[.string r1,errW r2])∧Below W.heap.size W w':=fun W hW=>scan_Text.calls _ _ _ _ _ _ W ht hW
 have HD:=Lib.hid hkD
 have HT:=Lib.hid hkT
 have HTAB:=Lib.hid htab
 clear hkD hkT hd ht htab
 generalize errW r2=v2 at HT ⊢
 have go:∀ c:Bool,(b0=true∨(b0=false∧(l.toList == [48])=c∧c=true))→Calls Tryz.prog 20 #[.int .i64 n, .int .u64 p] w fun e' w'=>e' = .returned (.tuple #[.string r1,v2])∧Below w.heap.size w w':=by
  intro c hc
  clear hb0
  rcases hc with rfl|⟨rfl,hl,rfl⟩
  all_goals
   go_enter Tryz.func20,Tryz.ntmps20
   go_wp2
   go_step3
   go_wp2_with (first|(go_at_call 16;(with_reducible refine (HD.out _ HTAB.out).mono ?_);rintro e1 w1 ⟨rfl,hw1⟩;have HW1:=am hw1;clear hw1)|(go_at_call 30;(with_reducible refine (HT.out _ (HTAB.out.below (below_alloc HW1.out _))).mono ?_);rintro e2 w2 ⟨rfl,hb2⟩;have hb:=am (below_step (below_alloc HW1.out _) hb2);clear hb2))
   rw [Exit.noGoto_ret]
   go_ret2
   exact ⟨rfl,hb.out⟩
 refine go true ?_
 cases b0 with
 | true=>exact Or.inl rfl
 | false=>exact Or.inr ⟨rfl,by rcases hb0 with h|h;exact absurd h (by simp);rw [h];rfl,rfl⟩
set_option maxHeartbeats 4000000 in
set_option maxRecDepth 100000 in
theorem tshort_fault (k:Nat) (n p:Int) (b0 b1:Bool) (l:ByteArray) (e c:Int) (w:World) (htab:Fx.Laid w)
  (hd:text_Decimal.f k n p=some (b0,b1,l,e,some c)) :
  Calls Tryz.prog 20 #[.int .i64 n, .int .u64 p] w fun e' w'=>e' = .returned (.tuple #[.string ⟨#[]⟩,errW (some c)])∧Below w.heap.size w w':=by
 have hkD:∀ W:World,Fx.Laid W→Calls Tryz.prog 16 #[.int .i64 n, .int .u64 p] W fun e' w'=>e' = .returned (.tuple #[.agg #[.bool b0, .bool b1, .string l, .int .i64 e],errW (some c)])∧Below W.heap.size W w':=fun W hW=>text_Decimal.calls k n p _ _ _ _ _ W hd hW
 simp only [errW_some] at hkD ⊢
 have HD:=Lib.hid hkD
 have HTAB:=Lib.hid htab
 clear hkD hd htab
 go_enter Tryz.func20,Tryz.ntmps20
 go_wp2
 go_step3
 go_wp2_with (go_at_call 16;(with_reducible refine (HD.out _ HTAB.out).mono ?_);rintro e1 w1 ⟨rfl,hw1⟩;have HW1:=am hw1;clear hw1)
 rw [Exit.noGoto_ret]
 go_ret2
 exact ⟨rfl,below_alloc HW1.out _⟩
theorem tshort_go_mono (k:Nat) (n:Int) (b0 b1:Bool) (l:ByteArray) (e own:Int):∀ m j,LeO (tshort_go k n b0 b1 l e own m j) (tshort_go (k+1) n b0 b1 l e own m j)
 | 0,_=>LeO.refl _
 | m+1,j=>by
  unfold tshort_go
  refine LeO.bind (LeO.refl _) (fun h=>?_)
  refine LeO.bind (text_Of.mono _ _ _ _ _ _) (fun a=>?_)
  refine LeO.bind (text_Of.mono _ _ _ _ _ _) (fun b=>?_)
  refine LeO.ite ?_ (LeO.refl _)
  refine LeO.ite (LeO.refl _) ?_
  exact LeO.ite (LeO.refl _) (tshort_go_mono k n b0 b1 l e own m (j+1))
theorem text_Short.mono:∀ a0 a1 k,LeO (text_Short.f k a0 a1) (text_Short.f (k+1) a0 a1):=by
 intro a0 a1 k
 unfold text_Short.f
 refine LeO.bind (text_Decimal.mono _ _ _) (fun v=>?_)
 refine LeO.ite ?_ (LeO.refl _)
 refine LeO.ite (LeO.refl _) ?_
 exact LeO.bind (tshort_go_mono _ _ _ _ _ _ _ _ _) (fun b=>LeO.refl _)
theorem text_Short.calls (k:Nat) (a0 a1:Int) (r1:ByteArray) (r2:Option Int) (w:World) (h:text_Short.f k a0 a1=some (r1,r2)) (htab:Fx.Laid w:=by exact Fx.Laid.below HTAB.out (by repeat (first|(with_reducible first|exact HB.out|apply below_alloc|apply pw_below_drewN|apply below_drew1|refine below_set ?_ (Aside0.out (by assumption)))|exact HB.out))) :
  Calls Tryz.prog 20 #[.int .i64 a0, .int .u64 a1] w fun e w'=>e = .returned (.tuple #[.string r1,errW r2])∧Below w.heap.size w w':=by
 unfold text_Short.f at h
 obtain ⟨⟨b0,b1,l,e,c⟩,hd,h⟩:=Option.bind_eq_some_iff.mp h
 by_cases hc:c=none∧8≤a0∧a0≤64
 case neg =>
  rw [if_neg hc] at h
  cases c with
  | none=>rw [if_pos rfl] at h;exact absurd h (by simp)
  | some c =>
   rw [if_neg (by simp)] at h
   simp only [Option.some.injEq,Prod.mk.injEq,Option.getD_some] at h
   obtain ⟨rfl,rfl⟩:=h
   exact tshort_fault k a0 a1 b0 b1 l e c w htab hd
 rw [if_pos hc] at h
 obtain ⟨rfl,h8,h64⟩:=hc
 by_cases hz:b0=true∨l.toList = [48]
 ·rw [if_pos hz] at h
  exact tshort_plain k a0 a1 b0 b1 l e r1 r2 w htab hd hz h
 rw [if_neg hz] at h
 obtain ⟨⟨c0,c1,cl,ce⟩,hgo,h⟩:=Option.bind_eq_some_iff.mp h
 exact tshort_walk k a0 a1 b0 b1 l e _ c0 c1 cl ce r1 r2 w htab hd h8 h64 (by cases b0 with|true=>exact absurd (Or.inl rfl) hz|false=>rfl) (beq_eq_false_iff_ne.2 fun q=>hz (Or.inr q)) rfl hgo h
end Go.Proofs.Yy.PTx
end
section
namespace Go.Proofs.Yy.PTx
open Go.RowKit Go.Proofs.Yw.PrintWords Go.Proofs.Yw.PrintLast Go.Proofs.Yw.PrintMore Go.Proofs.Yy.M Go.Proofs.Yy.TA
theorem left_spec (x:Nat) (c:Bool):Ev (fun k=>round_left.f k (x:Int) c) ((lft x (2 ^ 63) c:Nat):Int):=by
 have e:(9223372036854775808:Int)=((2 ^ 63:Nat):Int):=rfl
 refine Ev.step (f:=fun k=>(some ((lft x (2 ^ 63) c:Nat):Int))) (fun k=>?_) (Ev.now _)
 unfold round_left.f lft
 rw [e]
 by_cases h1:2 ^ 63<x
 ·rw [if_pos (by omega),if_pos h1,decide_eq_true (by omega)];rfl
 ·rw [if_neg (by omega),if_neg h1]
  by_cases h2:x=2 ^ 63
  ·rw [if_pos (by omega),if_pos h2]
   cases c
   ·simp only [round_left.j0]
    rw [if_neg (by simp),if_pos (by omega)];rfl
   ·simp only [round_left.j0];rfl
  ·rw [if_neg (by omega),if_neg h2]
   simp only [round_left.j0]
   rw [if_neg (by simp),if_neg (by omega)]
   by_cases h3:0<x
   ·rw [if_pos (by omega),if_pos (.inl h3)];rfl
   ·rw [if_neg (by omega)]
    cases c
    ·rw [if_neg (by simp),if_neg (by simp;omega)];rfl
    ·rw [if_pos rfl,if_pos (.inr rfl)];rfl
theorem Shl_ev (V k:Nat) (hV:V<2 ^ 128) (hk:k≤128):∃ b,Ev (fun n=>twin_Shl.f n (hiI V) (loI V) (k:Int)) (hiI (V * 2 ^ k % 2 ^ 128),loI (V * 2 ^ k % 2 ^ 128),b,none):=by
 have hm:mn (k:Int) 128=(k:Int):=by unfold mn;rw [if_neg (by omega)]
 obtain ⟨h1,h2⟩:=half_lt hV
 rw [p64] at h1 h2
 by_cases hz:V / 2 ^ 64 > 0
 ·refine ⟨decide (wrap64 (64+(Lib.bitLen (V / 2 ^ 64):Int)) > wrap64 (128 - (k:Int))),0,fun n _=>?_⟩
  unfold twin_Shl.f twin_Len.f bits_Len64.f hiI loI
  rw [if_neg (by omega),hm]
  rw [show (some (_:Int × Int × Bool × Option Int))=_ from rfl]
  have:=twin_shl_spec V k hV hk
  unfold hiI loI at this
  rw [this]
  simp only [Option.bind_some]
  rw [if_pos (by omega),if_pos (by omega)]
  simp only [Option.bind_some,Int.toNat_natCast]
 ·refine ⟨decide ((Lib.bitLen (V % 2 ^ 64):Int) > wrap64 (128 - (k:Int))),0,fun n _=>?_⟩
  unfold twin_Shl.f twin_Len.f bits_Len64.f hiI loI
  rw [if_neg (by omega),hm]
  have:=twin_shl_spec V k hV hk
  unfold hiI loI at this
  rw [this]
  simp only [Option.bind_some]
  rw [if_neg (by omega),if_pos (by omega)]
  simp only [Option.bind_some,Int.toNat_natCast]
theorem cut_end (n W:Nat) (c:Bool) (hn:1≤n) (hn2:n≤64) (hW:W<2 ^ 128):Ev (fun k=>round_Cut.j3 k (n:Int) c (hiI W) (loI W)) (((W / 2 ^ (129 - n):Nat):Int),((lft (W % 2 ^ (129 - n)) (2 ^ (128 - n)) c:Nat):Int),none):=by
 obtain ⟨b,hb⟩:=Shl_ev W (n - 1) hW (by omega)
 have hl:=lft_hi (W:=W) (c:=c) hn hn2
 have e1:W * 2 ^ (n - 1) % 2 ^ 128=W % 2 ^ (129 - n) * 2 ^ (n - 1):=by
  rw [show (2:Nat) ^ 128=2 ^ (129 - n) * 2 ^ (n - 1) by rw [← Nat.pow_add];congr 1;omega,Nat.mul_mod_mul_right]
 rw [e1] at hb
 have e2:shr .u64 (hiI W) ((65 - n:Nat):Int)=((W / 2 ^ (129 - n):Nat):Int):=by
  unfold hiI
  rw [shr_nat _ _ (half_lt hW).1,Nat.div_div_eq_div_mul, ← Nat.pow_add];congr 3;omega
 obtain ⟨Y,hY⟩:∃ Y,W % 2 ^ (129 - n) * 2 ^ (n - 1)=Y:=⟨_,rfl⟩
 rw [hY] at hb hl
 refine Ev.step (f:=fun k=>(twin_Shl.f k (hiI W) (loI W) ((n - 1:Nat):Int)).bind fun bt=>(if bt.2.1=0 then ((round_left.f k bt.1 c).bind fun t=>(some (shr .u64 (hiI W) ((65 - n:Nat):Int),t,(none:Option Int)))) else ((round_left.f k bt.1 true).bind fun t=>(some (shr .u64 (hiI W) ((65 - n:Nat):Int),t,none))))) (fun k=>?_) (Ev.bind hb ?_)
 ·simp only [round_Cut.j3]
  rw [tw64 (by omega) (by omega),if_pos (by omega),tw64 (by omega) (by omega),show (65 - (n:Int))=((65 - n:Nat):Int) by omega,show ((n:Int) - 1)=((n - 1:Nat):Int) by omega]
 ·rw [← hl]
  by_cases hz:Y % 2 ^ 64=0
  ·refine Ev.congr (f:=fun k=>(round_left.f k (hiI Y) c).bind fun t=>(some (shr .u64 (hiI W) ((65 - n:Nat):Int),t,(none:Option Int)))) (fun k=>if_pos (by unfold loI;rw [hz];rfl)) ?_
   refine Ev.bind (left_spec (Y / 2 ^ 64) c) ?_
   rw [e2,hz]
   have:(c || decide (0≠0))=c:=by simp
   rw [this];exact Ev.now _
  ·refine Ev.congr (f:=fun k=>(round_left.f k (hiI Y) true).bind fun t=>(some (shr .u64 (hiI W) ((65 - n:Nat):Int),t,(none:Option Int)))) (fun k=>if_neg (fun h=>hz (Int.natCast_eq_zero.1 h))) ?_
   refine Ev.bind (left_spec (Y / 2 ^ 64) true) ?_
   rw [e2]
   have:(c || decide (Y % 2 ^ 64≠0))=true:=by simp [hz]
   rw [this];exact Ev.now _
theorem rel_lt {W X L:Nat} {c c0:Bool} (h:Rel W c X L c0) (hX:X<2 ^ L):W<2 ^ 128:=by
 obtain ⟨z,h1,h2,_⟩:=h
 have:2 ^ 128 * X<2 ^ 128 * 2 ^ L:=Nat.mul_lt_mul_of_pos_left hX (Nat.two_pow_pos _)
 exact Nat.lt_of_mul_lt_mul_right (a:=2 ^ L) (by omega)
theorem top_lt {b X L m:Nat} (hb:b<2 ^ m) (hX:X<2 ^ L):b * 2 ^ L+X<2 ^ (L+m):=by
 have h:(b+1) * 2 ^ L≤2 ^ m * 2 ^ L:=Nat.mul_le_mul_right _ hb
 rw [Nat.pow_add,Nat.mul_comm (2 ^ L)]
 rw [Nat.add_mul] at h
 omega
theorem cut_ones (n m:Nat) (R:Int × Int × Option Int) (c0:Bool) (hm:m≤9223372036854775806):∀ (d i W:Nat) (c:Bool) (X L:Nat),i+d=m→Rel W c X L c0→X<2 ^ L →
  (∀ W' c',Rel W' c' ((2 ^ d - 1) * 2 ^ L+X) (L+d) c0→Ev (fun k=>round_Cut.j3 k (n:Int) c' (hiI W') (loI W')) R) →
  Ev (fun k=>round_Cut.l0 k (n:Int) c (m:Int) (i:Int) (hiI W) (loI W)) R:=by
 intro d
 induction d with
 | zero =>
  intro i W c X L hi hR hX next
  have h:=next W c (by rw [Nat.pow_zero,Nat.sub_self,Nat.zero_mul,Nat.zero_add,Nat.add_zero];exact hR)
  exact Ev.step (f:=fun k=>round_Cut.j3 k (n:Int) c (hiI W) (loI W)) (fun k=>by simp only [round_Cut.l0];rw [if_neg (by omega)]) h
 | succ d ih =>
  intro i W c X L hi hR hX next
  have hu:=under_spec W 1 1 c (rel_lt hR hX) (by omega) (by omega) (by omega)
  have h2:=Rel.under hR 1 1 (by omega)
  have hX2:=top_lt (b:=1) (m:=1) (by omega) hX
  refine Ev.step (f:=fun k=>round_Cut.l0 k (n:Int) (c || decide (W % 2 ^ 1≠0)) (m:Int) ((i+1:Nat):Int) (hiI (W / 2 ^ 1+1 * 2 ^ (128 - 1))) (loI (W / 2 ^ 1+1 * 2 ^ (128 - 1)))) (fun k=>?_) (ih (i+1) _ _ _ _ (by omega) h2 hX2 ?_)
  ·simp only [round_Cut.l0]
   rw [if_pos (by omega)]
   have hu':round_under.f (hiI W) (loI W) 1 1 c=_:=hu
   rw [hu']
   simp only [Option.bind_some]
   rw [tw64 (by omega) (by omega)];rfl
  ·intro W' c' h
   refine next W' c' ?_
   have e1:(2 ^ d - 1) * 2 ^ (L+1)+(1 * 2 ^ L+X)=(2 ^ (d+1) - 1) * 2 ^ L+X:=by
    have hp:=Nat.two_pow_pos d
    rw [Nat.pow_succ 2 L,Nat.mul_comm (2 ^ L) 2, ← Nat.mul_assoc, ← Nat.add_assoc, ← Nat.add_mul,Nat.pow_succ 2 d]
    congr 2;omega
   rw [e1,show L+1+d=L+(d+1) by omega] at h
   exact h
theorem cut_noughts (n m:Nat) (R:Int × Int × Option Int) (c0:Bool) (hm:m≤9223372036854775806):∀ (d i W:Nat) (c:Bool) (X L:Nat),i+d=m→Rel W c X L c0→X<2 ^ L →
  (∀ W' c',Rel W' c' X (L+d) c0→Ev (fun k=>round_Cut.j3 k (n:Int) c' (hiI W') (loI W')) R) →
  Ev (fun k=>round_Cut.l1 k (n:Int) c (m:Int) (i:Int) (hiI W) (loI W)) R:=by
 intro d
 induction d with
 | zero =>
  intro i W c X L hi hR hX next
  have h:=next W c (by rw [Nat.add_zero];exact hR)
  exact Ev.step (f:=fun k=>round_Cut.j3 k (n:Int) c (hiI W) (loI W)) (fun k=>by simp only [round_Cut.l1];rw [if_neg (by omega)]) h
 | succ d ih =>
  intro i W c X L hi hR hX next
  have hu:=under_spec W 0 1 c (rel_lt hR hX) (by omega) (by omega) (by omega)
  have h2:=Rel.under hR 0 1 (by omega)
  have hX2:=top_lt (b:=0) (m:=1) (by omega) hX
  simp only [Nat.zero_mul,Nat.zero_add,Nat.add_zero] at h2 hX2 hu
  refine Ev.step (f:=fun k=>round_Cut.l1 k (n:Int) (c || decide (W % 2 ^ 1≠0)) (m:Int) ((i+1:Nat):Int) (hiI (W / 2 ^ 1)) (loI (W / 2 ^ 1))) (fun k=>?_) (ih (i+1) _ _ _ _ (by omega) h2 hX2 ?_)
  ·simp only [round_Cut.l1]
   rw [if_pos (by omega)]
   have hu':round_under.f (hiI W) (loI W) 0 1 c=_:=hu
   rw [hu']
   simp only [Option.bind_some]
   rw [tw64 (by omega) (by omega)];rfl
  ·intro W' c' h
   rw [show L+1+d=L+(d+1) by omega] at h
   exact next W' c' h
theorem ite_c {p:Prop} [Decidable p] {α:Type} {a b c d:α} (h1:a=c) (h2:b=d):(if p then a else b)=if p then c else d:=by rw [h1,h2]
def Wd (n:Nat):Prop:=n=8∨n=16∨n=32∨n=64
theorem Wd.bounds {n:Nat} (h:Wd n):8≤n∧n≤64:=by rcases h with rfl|rfl|rfl|rfl <;> omega
theorem i64_and3 (n:Int):Go.bits .and .i64 n 3=n % 4:=by
 have h3:(BitVec.ofInt 64 3).toNat=2 ^ 2 - 1:=by decide
 have key:(BitVec.ofInt 64 n &&& BitVec.ofInt 64 3).toNat=(n % ((2 ^ 64:Nat):Int)).toNat % 2 ^ 2:=by
  rw [BitVec.toNat_and,BitVec.toNat_ofInt,h3,Nat.and_two_pow_sub_one_eq_mod]
 show IntKind.i64.wrap ((BitVec.ofInt 64 n &&& BitVec.ofInt 64 3).toNat:Nat)=n % 4
 rw [key,IntKind.wrap_i64]
 omega
theorem Of_spec {n:Nat} (h:Wd n):shape_Of.f (n:Int)=some ((n:Int),((2 ^ (n - 1) - 1:Nat):Int),1,((2 ^ (n - 1):Nat):Int),top n,none):=by
 rcases h with rfl|rfl|rfl|rfl <;> decide +kernel
theorem shape_is_spec {n:Nat} (h:Wd n):shape_is.f (n:Int)=some true:=by
 rcases h with rfl|rfl|rfl|rfl <;> decide
theorem Fold_spec {n:Nat} (h:Wd n) (p:Nat) (hp:p<2 ^ 64):shape_Fold.f (n:Int) (p:Int)=some (((p % 2 ^ n:Nat):Int),none):=by
 obtain ⟨h8,h64⟩:=h.bounds
 have hm:lead_Mask.f (n:Int)=some (((2 ^ n - 1:Nat):Int),none):=by rcases h with rfl|rfl|rfl|rfl <;> decide +kernel
 unfold shape_Fold.f
 rw [shape_is_spec h]
 simp only [Option.bind_some,if_true]
 rw [hm]
 simp only [Option.bind_some]
 rw [and_nat _ _ hp h64]
theorem held_spec {s:Int} (h1 : -1099511627776≤s) (h2:s≤1099511627776):round_held.f s=some s:=by
 unfold round_held.f mx mn
 congr 1
 split <;> split <;> omega
theorem sound_spec {s hi lo:Int} {neg rest:Bool} (h1 : -1099511627776≤s) (h2:s≤1099511627776) (hh:9223372036854775808≤hi) (hh2:hi<18446744073709551616):Ev (fun k=>round_sound.f k 1 neg s hi lo rest) true:=by
 refine Ev.step (f:=fun k=>some true) (fun k=>?_) (Ev.now _)
 unfold round_sound.f
 rw [if_neg (by decide)]
 simp only [round_sound.j0]
 rw [if_neg (by decide),if_pos True.intro,if_pos (by omega),held_spec h1 h2]
 simp
theorem cut_j0 {n:Nat} (hn:8≤n) (hn2:n≤64) (kind:Int) (neg:Bool) {s:Int} (hs1 : -1000000≤s) (hs2:s≤1000000) {T:Nat} (hT1:2 ^ 127≤T) (hT2:T<2 ^ 128) (rest:Bool) :
  Ev (fun k=>round_Cut.j0 k (n:Int) kind neg s (hiI T) (loI T) rest) ((cutP n s 127 T:Int),(cutQ n s 127 T rest:Int),none):=by
 obtain ⟨b,hb⟩:=Shl_ev T 1 hT2 (by omega)
 have e1:T * 2 ^ 1 % 2 ^ 128=2 * (T - 2 ^ 127):=by omega
 rw [e1] at hb
 obtain ⟨f,hf⟩:∃ f,T - 2 ^ 127=f:=⟨_,rfl⟩
 have hf2:f<2 ^ 127:=by omega
 rw [hf] at hb
 obtain ⟨e,he⟩:∃ e:Nat,s % 4=e:=⟨(s % 4).toNat,by omega⟩
 have he4:e<2 ^ 2:=by omega
 have r0:Rel (2 * f) rest f 127 rest:=Rel.start rest
 have r1:=r0.under e 2 (by omega)
 have x1:=top_lt (b:=e) (m:=2) he4 hf2
 have u1:=under_spec (2 * f) e 2 rest (by omega) he4 (by omega) (by omega)
 obtain ⟨W1,hW1⟩:∃ W,2 * f / 2 ^ 2+e * 2 ^ (128 - 2)=W:=⟨_,rfl⟩
 obtain ⟨c1,hc1⟩:∃ c,(rest || decide (2 * f % 2 ^ 2≠0))=c:=⟨_,rfl⟩
 rw [hW1,hc1] at r1 u1
 have hband:IntKind.u64.wrap (Go.bits .and .i64 s 3)=(e:Int):=by rw [i64_and3,he,IntKind.wrap_u64];omega
 have hL:hL s=regL s+2:=rfl
 -- the end: the cut of the whole string
 have fin:∀ (X L:Nat),X=cutX s 127 T→L=TA.hL s+127 → ∀ W' c',Rel W' c' X L rest→X<2 ^ L→Ev (fun k=>round_Cut.j3 k (n:Int) c' (hiI W') (loI W')) ((cutP n s 127 T:Int),(cutQ n s 127 T rest:Int),none):=by
  intro X L hX hLL W' c' hR hXl
  have h:=hL_ge s
  obtain ⟨a1,a2⟩:=hR.cut (n:=n) (by omega) (by omega) (by omega)
  have h3:=cut_end n W' c' (by omega) hn2 (rel_lt hR hXl)
  rw [a1,a2,hX,hLL] at h3
  exact h3
 have hxl:cutX s 127 T<2 ^ (TA.hL s+127):=by
  unfold cutX
  rw [hf]
  have:=hV_lt s
  have h3:(hV s+1) * 2 ^ 127≤2 ^ TA.hL s * 2 ^ 127:=Nat.mul_le_mul_right _ this
  rw [Nat.pow_add]
  rw [Nat.add_mul,Nat.one_mul] at h3
  exact Nat.lt_of_lt_of_le (Nat.add_lt_add_left hf2 _) h3
 refine Ev.step (f:=fun k=>(twin_Shl.f k (hiI T) (loI T) ((1:Nat):Int)).bind fun bt=>((round_under.f bt.1 bt.2.1 (e:Int) 2 rest).bind fun bt2=>(if (s / 4) ≥ 0 then ((round_under.f bt2.1 bt2.2.1 0 1 bt2.2.2).bind fun bt3=>(round_Cut.l0 k (n:Int) bt3.2.2 (wrap64 ((s / 4)+1)) 0 bt3.1 bt3.2.1)) else ((round_under.f bt2.1 bt2.2.1 1 1 bt2.2.2).bind fun bt3=>(round_Cut.l1 k (n:Int) bt3.2.2 (wrap64 (-(s / 4))) 0 bt3.1 bt3.2.1))))) (fun k=>by simp only [round_Cut.j0];rw [hband];rfl) (Ev.bind hb ?_)
 have u1':round_under.f (hiI (2 * f)) (loI (2 * f)) (e:Int) 2 rest=some (hiI W1,loI W1,c1):=u1
 simp only [u1',Option.bind_some]
 have hW1l:=rel_lt r1 x1
 by_cases hk:0≤s / 4
 ·obtain ⟨k4,hk4⟩:∃ k4:Nat,s / 4=k4:=⟨(s / 4).toNat,by omega⟩
  have r2:=r1.under 0 1 (by omega)
  have x2:=top_lt (b:=0) (m:=1) (by omega) x1
  have u2:=under_spec W1 0 1 c1 hW1l (by omega) (by omega) (by omega)
  simp only [Nat.zero_mul,Nat.zero_add,Nat.add_zero] at r2 x2 u2
  have u2':round_under.f (hiI W1) (loI W1) 0 1 c1=_:=u2
  simp only [if_pos hk,u2',Option.bind_some]
  rw [hk4,tw64 (by omega) (by omega),show (k4:Int)+1=((k4+1:Nat):Int) by omega]
  have hXe:(2 ^ (k4+1) - 1) * 2 ^ (127+2+1)+(e * 2 ^ 127+f)=cutX s 127 T:=by
   unfold cutX hV regV
   rw [hf,if_pos hk,hk4,he,Int.toNat_natCast,Int.toNat_natCast,show k4+2=(k4+1)+1 by omega,Nat.pow_succ 2 (k4+1)]
   have:=Nat.two_pow_pos (k4+1)
   omega
  have hLe:127+2+1+(k4+1)=TA.hL s+127:=by unfold TA.hL regL;rw [if_pos hk,hk4,Int.toNat_natCast];omega
  refine cut_ones n (k4+1) _ rest (by omega) (k4+1) 0 _ _ _ _ (by omega) r2 x2 (fun W' c' h=>?_)
  rw [hXe,hLe] at h
  exact fin _ _ rfl rfl W' c' h hxl
 ·obtain ⟨k4,hk4⟩:∃ k4:Nat, -(s / 4)=k4:=⟨(-(s / 4)).toNat,by omega⟩
  have r2:=r1.under 1 1 (by omega)
  have x2:=top_lt (b:=1) (m:=1) (by omega) x1
  have u2:=under_spec W1 1 1 c1 hW1l (by omega) (by omega) (by omega)
  have u2':round_under.f (hiI W1) (loI W1) 1 1 c1=_:=u2
  simp only [if_neg (show ¬ (s / 4 ≥ 0) from hk),u2',Option.bind_some]
  rw [hk4,tw64 (by omega) (by omega)]
  have hXe:1 * 2 ^ (127+2)+(e * 2 ^ 127+f)=cutX s 127 T:=by
   unfold cutX hV regV
   rw [hf,if_neg hk,he,Int.toNat_natCast]
   omega
  have hLe:127+2+1+k4=TA.hL s+127:=by unfold TA.hL regL;rw [if_neg hk,hk4,Int.toNat_natCast];omega
  refine cut_noughts n k4 _ rest (by omega) k4 0 _ _ _ _ (by omega) r2 x2 (fun W' c' h=>?_)
  rw [hXe,hLe] at h
  exact fin _ _ rfl rfl W' c' h hxl
def posC (n:Nat) (s:Int) (T:Nat) (c:Bool):Nat:=if top n≤s then 2 ^ (n - 1) - 1 else if s < -top n then 1 else rnd (cutP n s 127 T) (cutQ n s 127 T c)
def posPQ (n:Nat) (s:Int) (T:Nat) (c:Bool):Nat × Nat:=if top n≤s then (2 ^ (n - 1) - 1,0) else if s < -top n∨(s = -top n∧T=2 ^ 127∧c=false) then (1,0) else (cutP n s 127 T,cutQ n s 127 T c)
theorem low_cut {n:Nat} (hn:8≤n) (hn2:n≤64):cutP n (-top n) 127 (2 ^ 127)=1∧cutQ n (-top n) 127 (2 ^ 127) false=0:=by
 have h1 : -top n / 4 = -((n:Int) - 2):=by unfold top;omega
 have h2 : -top n % 4=0:=by unfold top;omega
 have hv:hV (-top n)=4:=by
  unfold hV regV;rw [h1,h2,if_neg (by omega)];rfl
 have hl:TA.hL (-top n)=n+1:=by
  unfold TA.hL regL;rw [h1,if_neg (by omega)];omega
 have hx:cutX (-top n) 127 (2 ^ 127)=2 ^ 129:=by unfold cutX;rw [hv,Nat.sub_self]
 have hc:cutL n (-top n) 127=129:=by unfold cutL;rw [hl];omega
 unfold cutP cutQ
 rw [hx,hc]
 exact ⟨Nat.div_self (Nat.two_pow_pos _),by rw [Nat.mod_self];rfl⟩
theorem posPQ_rnd {n:Nat} (hn:8≤n) (hn2:n≤64) (s:Int) (T:Nat) (c:Bool):rnd (posPQ n s T c).1 (posPQ n s T c).2=posC n s T c:=by
 unfold posPQ posC
 by_cases h1:top n≤s
 ·rw [if_pos h1,if_pos h1];rfl
 ·rw [if_neg h1,if_neg h1]
  by_cases h2:s < -top n
  ·rw [if_pos (.inl h2),if_pos h2];rfl
  ·rw [if_neg h2]
   by_cases h3:s = -top n∧T=2 ^ 127∧c=false
   ·rw [if_pos (.inr h3)]
    obtain ⟨a,b,d⟩:=h3
    obtain ⟨k1,k2⟩:=low_cut hn hn2
    rw [a,b,d,k1,k2]
   ·rw [if_neg (fun a=>a.elim h2 h3)]
theorem hiI_ge {T:Nat} (h:2 ^ 127≤T) (h2:T<2 ^ 128):9223372036854775808≤hiI T∧hiI T<18446744073709551616:=by unfold hiI;omega
theorem Cut_ev {n:Nat} (hw:Wd n) (neg:Bool) {s:Int} (hs1 : -1000000≤s) (hs2:s≤1000000) {T:Nat} (hT1:2 ^ 127≤T) (hT2:T<2 ^ 128) (rest:Bool) :
  Ev (fun k=>round_Cut.f k (n:Int) 1 neg s (hiI T) (loI T) rest) (((posPQ n s T rest).1:Int),((posPQ n s T rest).2:Int),none):=by
 obtain ⟨h8,h64⟩:=hw.bounds
 obtain ⟨g1,g2⟩:=hiI_ge hT1 hT2
 have ht:top n=4 * (n:Int) - 8:=rfl
 have hj:=cut_j0 h8 h64 1 neg hs1 hs2 hT1 hT2 rest
 refine Ev.congr (f:=fun k=>(round_sound.f k 1 neg s (hiI T) (loI T) rest).bind fun t=>(if t=true then (if top n≤s then some (((2 ^ (n - 1) - 1:Nat):Int),(0:Int),(none:Option Int)) else if s < -top n∨(s = -top n∧T=2 ^ 127∧rest=false) then some (1,0,none) else round_Cut.j0 k (n:Int) 1 neg s (hiI T) (loI T) rest) else some (0,0,some 1))) (fun k=>?_) (Ev.bind (sound_spec (by omega) (by omega) g1 g2) ?_)
 ·unfold round_Cut.f
  rw [Of_spec hw]
  simp only [Option.bind_some,Option.isNone_none,if_true]
  congr 1
  funext t
  refine ite_c ?_ rfl
  rw [if_neg (by decide),if_neg (by decide),tw64 (by omega) (by omega)]
  refine ite_c rfl ?_
  by_cases c1:s < -top n
  ·rw [if_pos c1,if_pos (.inl c1)]
  ·rw [if_neg c1]
   by_cases c2:s = -top n
   ·rw [if_pos c2]
    by_cases c3:T=2 ^ 127
    ·rw [if_pos (by rw [c3];rfl),if_pos (by rw [c3];rfl)]
     cases rest
     ·rw [if_neg (by decide),if_pos (.inr ⟨c2,c3,rfl⟩)]
     ·rw [if_pos rfl,if_neg (by simp [c1])]
    ·rw [if_neg (show ¬ (s < -top n∨(s = -top n∧T=2 ^ 127∧rest=false)) by simp [c1,c3])]
     by_cases c4:hiI T=9223372036854775808
     ·rw [if_pos c4,if_neg]
      intro c5
      apply c3
      unfold hiI at c4
      unfold loI at c5
      omega
     ·rw [if_neg c4]
   ·rw [if_neg c2,if_neg (by simp [c1,c2])]
 ·unfold posPQ
  by_cases c0:top n≤s
  ·simp only [if_pos c0,if_true];exact Ev.now _
  ·by_cases c1:s < -top n∨(s = -top n∧T=2 ^ 127∧rest=false)
   ·simp only [if_neg c0,if_pos c1,if_true];exact Ev.now _
   ·simp only [if_neg c0,if_neg c1,if_true];exact hj
theorem wrap_neg {p:Nat} (h:p<2 ^ 64):IntKind.u64.wrap (-(p:Int))=(((2 ^ 64 - p) % 2 ^ 64:Nat):Int):=by rw [IntKind.wrap_u64];omega
theorem neg_mod {n p:Nat} (hn:n≤64) (hp:p≤2 ^ n):(2 ^ 64 - p) % 2 ^ 64 % 2 ^ n=(2 ^ n - p) % 2 ^ n:=by
 have e:(2:Nat) ^ 64=2 ^ n * 2 ^ (64 - n):=by rw [← Nat.pow_add];congr 1;omega
 have h1:1≤2 ^ (64 - n):=Nat.two_pow_pos _
 obtain ⟨q,hq⟩:∃ q,2 ^ (64 - n)=q+1:=⟨2 ^ (64 - n) - 1,by omega⟩
 rw [Nat.mod_mod_of_dvd _ ⟨2 ^ (64 - n),e⟩,e,hq,Nat.mul_add,Nat.mul_one,Nat.add_sub_assoc hp,Nat.mul_add_mod]
theorem Fold_neg {n:Nat} (h:Wd n) (p:Nat) (hp:p≤2 ^ (n - 1)):shape_Fold.f (n:Int) (IntKind.u64.wrap (-(p:Int)))=some (((sgn n true p:Nat):Int),none):=by
 obtain ⟨h8,h64⟩:=h.bounds
 have h1:2 ^ (n - 1)≤2 ^ 63:=Nat.pow_le_pow_right (by omega) (by omega)
 have h2:2 ^ (n - 1)≤2 ^ n:=Nat.pow_le_pow_right (by omega) (by omega)
 rw [wrap_neg (by omega),Fold_spec h _ (Nat.mod_lt _ (Nat.two_pow_pos _)),neg_mod h64 (by omega)]
 rfl
theorem Fold_pos {n:Nat} (h:Wd n) (p:Nat) (hp:p≤2 ^ (n - 1)):shape_Fold.f (n:Int) (p:Int)=some (((sgn n false p:Nat):Int),none):=by
 obtain ⟨h8,h64⟩:=h.bounds
 have h1:2 ^ (n - 1)≤2 ^ 63:=Nat.pow_le_pow_right (by omega) (by omega)
 rw [Fold_spec h _ (by omega)]
 rfl
theorem u64_and1 {p:Nat} (hp:p<2 ^ 64):Go.bits .and .u64 (p:Int) 1=((p % 2:Nat):Int):=and_nat p 1 hp (by omega)
theorem Round_of {n:Nat} (hw:Wd n) (neg:Bool) (kind s hi lo:Int) (rest:Bool) {P Q:Nat} (hP:P<2 ^ (n - 1)) (hQ:Q≤3) (h:Ev (fun k=>round_Cut.f k (n:Int) kind neg s hi lo rest) ((P:Int),(Q:Int),none)) :
  Ev (fun k=>round_Round.f k (n:Int) kind neg s hi lo rest) (((sgn n neg (rnd P Q):Nat):Int),none):=by
 obtain ⟨h8,h64⟩:=hw.bounds
 have h1:2 ^ (n - 1)≤2 ^ 63:=Nat.pow_le_pow_right (by omega) (by omega)
 have e1:IntKind.u64.wrap ((P:Int)+1)=((P+1:Nat):Int):=by rw [IntKind.wrap_u64];omega
 have f1:=Fold_pos hw P (by omega)
 have f2:=Fold_pos hw (P+1) (by omega)
 have f3:=Fold_neg hw P (by omega)
 have f4:=Fold_neg hw (P+1) (by omega)
 have ha:=u64_and1 (p:=P) (by omega)
 refine Ev.congr (f:=fun k=>(round_Cut.f k (n:Int) kind neg s hi lo rest).bind fun bt=>(if bt=((P:Int),(Q:Int),none) then some (((sgn n neg (rnd P Q):Nat):Int),(none:Option Int)) else round_Round.f k (n:Int) kind neg s hi lo rest)) (fun k=>?_) (Ev.bind h (by simp only [if_true];exact Ev.now _))
 cases hc:round_Cut.f k (n:Int) kind neg s hi lo rest with
 | none=>unfold round_Round.f;rw [hc];rfl
 | some bt =>
  simp only [Option.bind_some]
  by_cases hb:bt=((P:Int),(Q:Int),none)
  ·rw [if_pos hb]
   unfold round_Round.f
   rw [hc,hb]
   simp only [Option.bind_some,Option.isNone_none,if_true]
   rw [e1,ha,f1,f2,f3,f4]
   unfold rnd
   have hq:Q=0∨Q=1∨Q=2∨Q=3:=by omega
   rcases Nat.mod_two_eq_zero_or_one P with hp|hp <;> rcases hq with rfl|rfl|rfl|rfl <;> cases neg <;> simp [hp]
  ·rw [if_neg hb]
theorem lft_le (r h:Nat) (c:Bool):lft r h c≤3:=by unfold lft;split <;> (try split) <;> (try split) <;> omega
theorem cutP_lt {n:Nat} (hn:1≤n) (s:Int) {F T:Nat} (hT:T<2 ^ (F+1)) (hL:n - 1≤TA.hL s+F):cutP n s F T<2 ^ (n - 1):=by
 have h:=hV_lt s
 have h3:(hV s+1) * 2 ^ F≤2 ^ TA.hL s * 2 ^ F:=Nat.mul_le_mul_right _ h
 rw [Nat.add_mul,Nat.one_mul] at h3
 unfold cutP
 rw [Nat.div_lt_iff_lt_mul (Nat.two_pow_pos _), ← Nat.pow_add,show n - 1+cutL n s F=TA.hL s+F by unfold cutL;omega,Nat.pow_add]
 refine Nat.lt_of_lt_of_le (Nat.add_lt_add_left ?_ _) h3
 rw [Nat.pow_succ] at hT
 omega
theorem Round_ev {n:Nat} (hw:Wd n) (neg:Bool) {s:Int} (hs1 : -1000000≤s) (hs2:s≤1000000) {T:Nat} (hT1:2 ^ 127≤T) (hT2:T<2 ^ 128) (rest:Bool) :
  Ev (fun k=>round_Round.f k (n:Int) 1 neg s (hiI T) (loI T) rest) (((sgn n neg (posC n s T rest):Nat):Int),none):=by
 obtain ⟨h8,h64⟩:=hw.bounds
 have h1:2 ^ 7≤2 ^ (n - 1):=Nat.pow_le_pow_right (by omega) (by omega)
 have hp:(posPQ n s T rest).1<2 ^ (n - 1)∧(posPQ n s T rest).2≤3:=by
  have hn1:1≤n:=by omega
  have hk:n - 1≤TA.hL s+127:=by omega
  have hT3:T<2 ^ (127+1):=hT2
  have h4:=cutP_lt hn1 s hT3 hk
  have h5:cutQ n s 127 T rest≤3:=by unfold cutQ;exact lft_le _ _ _
  have h0:posPQ n s T rest=(2 ^ (n - 1) - 1,0)∨posPQ n s T rest=(1,0)∨posPQ n s T rest=(cutP n s 127 T,cutQ n s 127 T rest):=by
   unfold posPQ
   by_cases a:top n≤s
   ·rw [if_pos a];exact .inl rfl
   ·rw [if_neg a]
    by_cases b:s < -top n∨(s = -top n∧T=2 ^ 127∧rest=false)
    ·rw [if_pos b];exact .inr (.inl rfl)
    ·rw [if_neg b];exact .inr (.inr rfl)
  generalize cutP n s 127 T=P at h4 h0
  generalize cutQ n s 127 T rest=Q at h5 h0
  clear hT1 hT2 hT3
  have hz:∀ z:Nat × Nat,z=(2 ^ (n - 1) - 1,0)∨z=(1,0)∨z=(P,Q)→z.1<2 ^ (n - 1)∧z.2≤3:=by
   rintro z (rfl|rfl|rfl)
   ·exact ⟨Nat.sub_lt (Nat.two_pow_pos _) (by decide),Nat.zero_le _⟩
   ·exact ⟨Nat.lt_of_lt_of_le (by decide) h1,Nat.zero_le _⟩
   ·exact ⟨h4,h5⟩
  exact hz _ h0
 have h:=Round_of hw neg 1 s (hiI T) (loI T) rest hp.1 hp.2 (Cut_ev hw neg hs1 hs2 hT1 hT2 rest)
 rwa [posPQ_rnd h8 h64] at h
theorem posC_pos {n:Nat} (hn:8≤n) (hn2:n≤64) {N C:Nat} {s:Int} {T:Nat} {c:Bool} (hT:2 ^ 127≤T) (h:Rep N C s (T / 2 ^ 64) (c || decide (T % 2 ^ 64≠0))):posC n s T c=pos n s N C:=by
 have hl:=hL_ge s
 unfold posC pos
 refine ite_c rfl (ite_c rfl ?_)
 have e1:=cutP_short n s 63 64 T hT (by omega)
 have e2:=cutQ_short n s 63 64 T c hT (by omega)
 rw [show 63+64=127 from rfl] at e1 e2
 rw [e1,e2]
 exact h.sig hn2
end Go.Proofs.Yy.PTx
end
