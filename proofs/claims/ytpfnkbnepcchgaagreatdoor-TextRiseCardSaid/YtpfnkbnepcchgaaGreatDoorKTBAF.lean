/- Part 6 of what the proof needs. -/
import Derived.Laws.Externs
import Derived.Lib.Walk
import Derived.Lib.ItoaMem
import Derived.Lib.AppendIntMem
import Derived.Laws.StructEq
import Derived.Test.YtpfnkbnepcchgaaGreatDoorKTBAE
set_option linter.unusedSimpArgs false
set_option linter.unusedVariables false
section
namespace Go.Proofs.Yy.TA
theorem scaled (N C u b F:Nat) (hb:1≤b) (hC:0<C) :
  up ((b:Int) - 1 - u) N * 2 ^ F / dn ((b:Int) - 1 - u) C=N * 2 ^ u * 2 ^ F / (C * 2 ^ (b - 1)) ∧
  decide (up ((b:Int) - 1 - u) N * 2 ^ F % dn ((b:Int) - 1 - u) C≠0)=decide (N * 2 ^ u * 2 ^ F % (C * 2 ^ (b - 1))≠0):=by
 obtain ⟨x,hx1,hx2⟩:∃ x,up ((b:Int) - 1 - u) N * 2 ^ F * 2 ^ x=N * 2 ^ u * 2 ^ F∧dn ((b:Int) - 1 - u) C * 2 ^ x=C * 2 ^ (b - 1):=by
  by_cases h:0≤(b:Int) - 1 - u
  ·refine ⟨u,?_,?_⟩
   ·unfold up;rw [show (-((b:Int) - 1 - u)).toNat=0 by omega,Nat.pow_zero,Nat.mul_one];ac_rfl
   ·unfold dn;rw [Nat.mul_assoc, ← Nat.pow_add,show ((b:Int) - 1 - u).toNat+u=b - 1 by omega]
  ·refine ⟨b - 1,?_,?_⟩
   ·unfold up;rw [Nat.mul_right_comm,Nat.mul_assoc N, ← Nat.pow_add,show (-((b:Int) - 1 - u)).toNat+(b - 1)=u by omega]
   ·unfold dn;rw [show ((b:Int) - 1 - u).toNat=0 by omega,Nat.pow_zero,Nat.mul_one]
 rw [← hx1, ← hx2,Nat.mul_div_mul_right _ _ (two_pos x),Nat.mul_mod_mul_right]
 refine ⟨rfl,decide_eq_decide.2 ?_⟩
 have:=two_pos x
 rw [Ne,Ne,Nat.mul_eq_zero];omega
theorem fracQ {N C u q r b F:Nat} (hC:0<C) (hq:N * 2 ^ u=C * q+r) (hr:r<C) (hF:F+1≤b) :
  up ((b:Int) - 1 - u) N * 2 ^ F / dn ((b:Int) - 1 - u) C=q / 2 ^ (b - 1 - F) ∧
  decide (up ((b:Int) - 1 - u) N * 2 ^ F % dn ((b:Int) - 1 - u) C≠0)=(decide (q % 2 ^ (b - 1 - F)≠0) || decide (r≠0)):=by
 obtain ⟨e1,e2⟩:=scaled N C u b F (by omega) hC
 rw [e1,e2,hq]
 have e3:C * 2 ^ (b - 1)=C * 2 ^ (b - 1 - F) * 2 ^ F:=by rw [Nat.mul_assoc, ← Nat.pow_add];congr 2;omega
 rw [e3,Nat.mul_div_mul_right _ _ (two_pos F),Nat.mul_mod_mul_right, ← Nat.div_div_eq_div_mul,Nat.mul_add_div hC,Nat.div_eq_of_lt hr,Nat.add_zero]
 refine ⟨rfl,?_⟩
 rw [Nat.mod_mul,Nat.mul_add_mod,Nat.mod_eq_of_lt hr,Nat.mul_add_div hC,Nat.div_eq_of_lt hr,Nat.add_zero, ← Bool.decide_or]
 refine decide_eq_decide.2 ?_
 have:=two_pos F
 rw [Ne,Nat.mul_eq_zero,Nat.add_eq_zero_iff,Nat.mul_eq_zero];omega
theorem fracE {N C u q b F:Nat} (hC:0<C) (hq:N * 2 ^ u=C * q) (hb:1≤b) (hF:b≤F+1) :
  up ((b:Int) - 1 - u) N * 2 ^ F / dn ((b:Int) - 1 - u) C=q * 2 ^ (F+1 - b) ∧
  decide (up ((b:Int) - 1 - u) N * 2 ^ F % dn ((b:Int) - 1 - u) C≠0)=false:=by
 obtain ⟨e1,e2⟩:=scaled N C u b F hb hC
 have e3:C * q * 2 ^ F=C * 2 ^ (b - 1) * (q * 2 ^ (F+1 - b)):=by
  rw [show C * 2 ^ (b - 1) * (q * 2 ^ (F+1 - b))=C * q * (2 ^ (b - 1) * 2 ^ (F+1 - b)) by ac_rfl, ← Nat.pow_add];congr 2;omega
 rw [e1,e2,hq,e3,Nat.mul_div_cancel_left _ (Nat.mul_pos hC (two_pos _)),Nat.mul_mod_right]
 exact ⟨rfl,by simp⟩
theorem ScQ {N C u q r b:Nat} (hC:0<C) (hq:N * 2 ^ u=C * q+r) (hr:r<C) (h1:2 ^ (b - 1)≤q) (h2:q<2 ^ b) (hb:1≤b):Sc N C ((b:Int) - 1 - u):=by
 rw [Sc_iff u (by omega),show ((b:Int) - 1 - u+u).toNat=b - 1 by omega,hq]
 have a1:=Nat.mul_le_mul_left C h1
 have a2:C * (q+1)≤C * 2 ^ b:=Nat.mul_le_mul_left C h2
 obtain ⟨m,rfl⟩:∃ m,b=m+1:=⟨b - 1,by omega⟩
 rw [Nat.pow_succ, ← Nat.mul_assoc,Nat.mul_add] at a2
 rw [Nat.add_sub_cancel] at a1 ⊢
 omega
theorem Rep.ofQ {N C u q r b:Nat} (hC:0<C) (hq:N * 2 ^ u=C * q+r) (hr:r<C) (h1:2 ^ (b - 1)≤q) (h2:q<2 ^ b) (hb:64≤b) :
  Rep N C ((b:Int) - 1 - u) (q / 2 ^ (b - 64)) (decide (q % 2 ^ (b - 64)≠0) || decide (r≠0)):=by
 obtain ⟨e1,e2⟩:=fracQ (F:=63) hC hq hr (by omega)
 rw [show b - 1 - 63=b - 64 by omega] at e1 e2
 exact ⟨ScQ hC hq hr h1 h2 (by omega),e1.symm,e2.symm⟩
theorem Rep.ofE {N C u q b:Nat} (hC:0<C) (hq:N * 2 ^ u=C * q) (h1:2 ^ (b - 1)≤q) (h2:q<2 ^ b) (hb:1≤b) (hb2:b≤64) :
  Rep N C ((b:Int) - 1 - u) (q * 2 ^ (64 - b)) false:=by
 obtain ⟨e1,e2⟩:=fracE (F:=63) hC hq hb (by omega)
 exact ⟨ScQ (r:=0) hC (by rw [hq,Nat.add_zero]) hC h1 h2 hb,e1.symm,e2.symm⟩
theorem means_of {n p:Nat} {s:Int} {reg r eb fb ehi frac:Nat} (hreg:regV s=reg) (hr:regL s=r+1) (hn:n - 1=r+1+eb+fb) (hp:p=reg * 2 ^ (eb+fb)+ehi * 2 ^ fb+frac)
  (hf:frac<2 ^ fb) (heb:eb≤2) (h2:eb<2→fb=0) (he:(s % 4).toNat=ehi * 2 ^ (2 - eb)) (hfb:fb≤63) (hlow : -top n≤s) (hhigh:s≤top n) :
  Means n p s (2 ^ 63+frac * 2 ^ (63 - fb)):=by
 have h1:frac * 2 ^ (63 - fb)<2 ^ 63:=by
  have:frac * 2 ^ (63 - fb)<2 ^ fb * 2 ^ (63 - fb):=Nat.mul_lt_mul_of_pos_right hf (two_pos _)
  rwa [← Nat.pow_add,show fb+(63 - fb)=63 by omega] at this
 refine ⟨Nat.le_add_right _ _,?_,hlow,hhigh,?_⟩
 ·rw [Nat.pow_succ 2 63,Nat.mul_two];exact Nat.add_lt_add_left h1 _
 ·unfold hV hL
  rw [hreg,hr,he,hn,hp,Nat.add_sub_cancel_left,Nat.add_mul,Nat.add_mul,Nat.add_mul,Nat.add_mul,Nat.add_mul,Nat.add_mul,Nat.add_mul]
  have e1:reg * 4 * 2 ^ 63 * 2 ^ (r+1+eb+fb)=reg * 2 ^ (eb+fb) * 2 ^ 63 * 2 ^ (r+1+2):=by
   rw [Nat.mul_assoc reg,Nat.mul_assoc reg,Nat.mul_assoc reg,Nat.mul_assoc reg,show (4:Nat)=2 ^ 2 from rfl, ← Nat.pow_add, ← Nat.pow_add, ← Nat.pow_add, ← Nat.pow_add]
   congr 2;omega
  have e2:ehi * 2 ^ (2 - eb) * 2 ^ 63 * 2 ^ (r+1+eb+fb)=ehi * 2 ^ fb * 2 ^ 63 * 2 ^ (r+1+2):=by
   rw [Nat.mul_assoc ehi,Nat.mul_assoc ehi,Nat.mul_assoc ehi,Nat.mul_assoc ehi, ← Nat.pow_add, ← Nat.pow_add, ← Nat.pow_add, ← Nat.pow_add]
   congr 2;omega
  have e3:frac * 2 ^ (63 - fb) * 2 ^ (r+1+eb+fb)=frac * 2 ^ 63 * 2 ^ (r+1+2):=by
   by_cases h:eb=2
   ·rw [Nat.mul_assoc frac,Nat.mul_assoc frac, ← Nat.pow_add, ← Nat.pow_add]
    congr 2;omega
   ·have:fb=0:=h2 (by omega)
    subst this
    have:frac=0:=by simpa using hf
    simp only [this,Nat.zero_mul]
  rw [e1,e2,e3]
theorem means_most {n:Nat} (hn:2≤n):Means n (2 ^ (n - 1) - 1) (top n) (2 ^ 63):=by
 refine ⟨Nat.le_refl _,by rw [Nat.pow_succ 2 63,Nat.mul_two];exact Nat.lt_add_of_pos_right (two_pos _),by unfold top;omega,Int.le_refl _,?_⟩
 rw [Nat.sub_self,Nat.add_zero,Nat.mul_right_comm,top_hV hn];ac_rfl
theorem reg_ones {s:Int} {r:Nat} (h1:1≤r) (h:s / 4=(r:Int) - 1):regV s=2 ^ (r+1) - 2∧regL s=r+1:=by
 unfold regV regL
 rw [h,if_pos (by omega),if_pos (by omega),show ((r:Int) - 1).toNat+2=r+1 by omega]
 exact ⟨rfl,rfl⟩
theorem reg_noughts {s:Int} {r:Nat} (h1:1≤r) (h:s / 4 = -(r:Int)):regV s=1∧regL s=r+1:=by
 unfold regV regL
 rw [h,if_neg (by omega),if_neg (by omega),show (-(-(r:Int))).toNat+1=r+1 by omega]
 exact ⟨rfl,rfl⟩
theorem means_parts {n p r:Nat} {ones:Bool} (hn:3≤n) (hn64:n≤64) (hr1:1≤r) (hr2:r+2≤n)
  (hp:p / 2 ^ (n - 2 - r)=if ones=true then 2 ^ (r+1) - 2 else 1) {eb fb:Nat} (heb:eb=min (n - 2 - r) 2) (hfb:fb=n - 2 - r - eb) :
  Means n p (4 * (if ones=true then (r:Int) - 1 else -(r:Int))+((p / 2 ^ fb % 2 ^ eb * 2 ^ (2 - eb):Nat):Int)) (2 ^ 63+p % 2 ^ fb * 2 ^ (63 - fb)):=by
 have hE:p / 2 ^ fb % 2 ^ eb * 2 ^ (2 - eb)<4:=by
  have h1:=Nat.mod_lt (p / 2 ^ fb) (two_pos eb)
  have h2:p / 2 ^ fb % 2 ^ eb * 2 ^ (2 - eb)<2 ^ eb * 2 ^ (2 - eb):=Nat.mul_lt_mul_of_pos_right h1 (two_pos _)
  rwa [← Nat.pow_add,show eb+(2 - eb)=2 by omega] at h2
 obtain ⟨E,hEe⟩:∃ E,p / 2 ^ fb % 2 ^ eb * 2 ^ (2 - eb)=E:=⟨_,rfl⟩
 have hdiv:(4 * (if ones=true then (r:Int) - 1 else -(r:Int))+(E:Int)) / 4=if ones=true then (r:Int) - 1 else -(r:Int):=by omega
 have hmod:((4 * (if ones=true then (r:Int) - 1 else -(r:Int))+(E:Int)) % 4).toNat=E:=by omega
 have hsplit:p=p / 2 ^ (n - 2 - r) * 2 ^ (eb+fb)+p / 2 ^ fb % 2 ^ eb * 2 ^ fb+p % 2 ^ fb:=by
  have e:n - 2 - r=fb+eb:=by omega
  have d1:=Nat.div_add_mod p (2 ^ fb)
  have d2:=Nat.div_add_mod (p / 2 ^ fb) (2 ^ eb)
  rw [e,Nat.add_comm eb fb,Nat.pow_add, ← Nat.div_div_eq_div_mul]
  have e2:p / 2 ^ fb / 2 ^ eb * (2 ^ fb * 2 ^ eb)+p / 2 ^ fb % 2 ^ eb * 2 ^ fb=p / 2 ^ fb * 2 ^ fb:=by
   rw [Nat.mul_comm (2 ^ fb), ← Nat.mul_assoc, ← Nat.add_mul,Nat.mul_comm _ (2 ^ eb),d2]
  rw [e2,Nat.mul_comm];exact d1.symm
 rw [hEe]
 have ht:top n=4 * (n:Int) - 8:=rfl
 cases ones with
 | true =>
  simp only [if_true] at hp hdiv hmod ⊢
  obtain ⟨v,l⟩:=reg_ones hr1 hdiv
  rw [hp] at hsplit
  exact means_of v l (by omega) hsplit (Nat.mod_lt _ (two_pos _)) (by omega) (by omega) (by rw [hmod,hEe]) (by omega) (by rw [ht];omega) (by rw [ht];omega)
 | false =>
  simp only [Bool.false_eq_true,if_false] at hp hdiv hmod ⊢
  obtain ⟨v,l⟩:=reg_noughts hr1 hdiv
  rw [hp] at hsplit
  exact means_of v l (by omega) hsplit (Nat.mod_lt _ (two_pos _)) (by omega) (by omega) (by rw [hmod,hEe]) (by omega) (by rw [ht];omega) (by rw [ht];omega)
end Go.Proofs.Yy.TA
end
section
namespace Go.Proofs.Yy.Bd
open Go.Shelf Go.RowKit
structure Kept (p:Prop):Prop where
 out:p
abbrev IsB (B b:Nat) (l:List UInt8) (w:World):Prop:=Lib.IsBuilderF 111 5 B b (Lib.byteCells l) w
theorem byteCells_len (l:List UInt8):(Lib.byteCells l).length=l.length:=List.length_map ..
theorem write (B b:Nat) (l:List UInt8) (s:ByteArray) (w:World) (h:IsB B b l w) (hlen:l.length+s.size≤140737488355328) (hBw:B≤w.heap.size) :
  Calls Tryz.prog 68 #[.pointer (some ⟨b,0,none⟩), .string s] w fun e w'=>e = .returned (.tuple #[.int .i64 s.size, .nilIface])∧IsB B b (l ++ s.data.toList) w'∧Below B w w':=by
 refine (Any.Builder_WriteString_f { Tryz.lays105 with } Tryz.Builder_Extra_105 B b (Lib.byteCells l) s w h (by rw [byteCells_len];exact hlen) hBw).mono ?_
 rintro e w' ⟨he,h1,h2⟩
 refine ⟨he, .inr ?_,h2⟩
 have e2:Lib.byteCells (l ++ s.data.toList)=Lib.byteCells l ++ Lib.strCells s:=by simp [Lib.byteCells,Lib.strCells]
 rw [e2]
 exact h1
theorem made (w:World):IsB w.heap.size w.heap.size [] (w.alloc (.cells #[.pointer none, .slice none 0 0] 111)):=by
 rcases Lib.fresh_isBuilder 111 5 w with h|h
 ·exact .inl (Lib.BuilderAtF.of h)
 ·exact .inr (Lib.BuilderAtF.of h)
theorem at_below {B b:Nat} {p:Value} {bs:List Value} {w w':World} (h:Lib.BuilderAtF 111 5 B b p bs w) (hb:Below w.heap.size w w'):Lib.BuilderAtF 111 5 B b p bs w':=by
 obtain ⟨hB,v,hbk,hown,hne⟩:=h
 have hlt:b<w.heap.size:=(Array.getElem?_eq_some_iff.1 hbk).1
 refine ⟨hB,v,by rw [hb.block b hlt];exact hbk,?_,hne⟩
 obtain ⟨h1,h2⟩:=hown
 refine ⟨h1,?_⟩
 rcases h2 with h2|⟨g,cap,cur,fz,hv,hBg,hg,r⟩
 ·exact .inl h2
 ·exact .inr ⟨g,cap,cur,fz,hv,hBg,by rw [hb.block g (Array.getElem?_eq_some_iff.1 hg).1];exact hg,r⟩
theorem IsB.below {B b:Nat} {l:List UInt8} {w w':World} (h:IsB B b l w) (hb:Below w.heap.size w w'):IsB B b l w':=by
 rcases h with h|h
 ·exact .inl (at_below h hb)
 ·exact .inr (at_below h hb)
theorem copyCheck (B b:Nat) (bs:List Value) (w:World) (h:Lib.IsBuilderF 111 5 B b bs w) :
  Calls Tryz.prog 121 #[.pointer (some ⟨b,0,none⟩)] w fun e w'=>e = .returned (.tuple #[])∧(Lib.BuilderAtF 111 5 B b (.pointer (some ⟨b,0,none⟩)) bs w'∧Below B w w') :=
 Any.Builder_copyCheck_f { Tryz.lays105 with } Tryz.Builder_Extra_105.toX72 B b bs w h
set_option maxHeartbeats 2000000 in
set_option maxRecDepth 100000 in
theorem writeByte (B b:Nat) (l:List UInt8) (c:UInt8) (w:World) (h:IsB B b l w) (hlen:l.length+1≤140737488355328) (hBw:B≤w.heap.size) :
  Calls Tryz.prog 67 #[.pointer (some ⟨b,0,none⟩), .int .u8 (c.toNat:Int)] w fun e w'=>e = .returned .nilIface∧IsB B b (l ++ [c]) w'∧Below B w w':=by
 have hinfo:(Tryz.prog.info? 5).map (fun i=>(i.zero,i.size,i.bytes))=some (some (.int .u8 0),1,1):=by kernel_rfl
 obtain ⟨i0,hi,he⟩:=Option.map_eq_some_iff.1 hinfo
 simp only [Prod.mk.injEq] at he
 obtain ⟨hz0,hz1,hz2⟩:=he
 go_enter Tryz.func67,Tryz.ntmps67
 go_wp2_with (go_at_call 121;refine (copyCheck B b (Lib.byteCells l) _ h).mono ?_)
 rintro e w1 ⟨rfl,h1,hb1⟩
 obtain ⟨hB,v,hbk,hown,hne⟩:=h1
 have c0:w1.cell? ⟨b,0,none⟩=some (.pointer (some ⟨b,0,none⟩)):=by rw [Lib.cell_of_heap hbk];rfl
 have c1:w1.cell? ⟨b,1,none⟩=some v:=by rw [Lib.cell_of_heap hbk];rfl
 go_wp2_with (at_builtin;refine wpList_append_ownF _ rfl _ _ 104 rfl B 5 i0 (.int .u8 0) 1 1 Tryz.underlying104 hi hz0 hz1 hz2 rfl (by decide) _ _ _ rfl (hown.alloc _) ⟨w1.heap.size,0,none⟩ 1 1 [.int .u8 (c.toNat:Int)] rfl rfl ?c1 ?c2 ?c3 ?c4 ?c5 ?_)
 case c1 =>
  intro j u hj
  match j,hj with
  | 0,hj=>simp at hj;subst hj;simp [Addr.add]
 case c2=>intro u hu;simp at hu;subst hu;rfl
 case c3=>rw [byteCells_len];unfold maxLen;omega
 case c4=>rw [byteCells_len];omega
 case c5=>have:=hb1.size;simp;omega
 intro v' w2 hown' hgrow _
 have hlt:b<w1.heap.size:=(Array.getElem?_eq_some_iff.1 hbk).1
 have hb2:w2.heap[b]? = some (.cells #[.pointer (some ⟨b,0,none⟩),v] 111 (0,0)):=by
  rw [hgrow.block b (by simp;omega) (fun e=>hne e.symm),Lib.alloc_old w1 _ b hlt]
  exact hbk
 have d0:w2.cell? ⟨b,0,none⟩=some (.pointer (some ⟨b,0,none⟩)):=by rw [Lib.cell_of_heap hb2];rfl
 have d1:w2.cell? ⟨b,1,none⟩=some v:=by rw [Lib.cell_of_heap hb2];rfl
 have f1:w2.frozen? ⟨b,1,none⟩=false:=Lib.frozen_of_heap hb2 1
 obtain ⟨g,cap,rfl⟩:∃ g cap,v' = .slice (some ⟨g,0,none⟩) ((Lib.byteCells l).length+1) cap:=by
  rcases hown'.2 with ⟨_,h0⟩|⟨g,cap,cur,fz,hv,_⟩
  ·omega
  ·exact ⟨g,cap,hv⟩
 have hput:=Lib.BuilderAtF.put (T:=111) (e:=5) hB hb2 (bs':=Lib.byteCells l ++ [.int .u8 (c.toNat:Int)]) (by simpa using hown') (by decide)
 have hbel:=((hb1.alloc (by have:=hb1.size;omega) (.cells #[.int .u8 (c.toNat:Int)] 5)).grown hgrow (by have:=hb1.size;simp;omega) (fun k hk=>(hown.lt k hk).1)).setCell (p:=⟨b,1,none⟩) hB (.slice (some ⟨g,0,none⟩) ((Lib.byteCells l).length+1) cap)
 have KP:=Kept.mk hput
 have KB:=Kept.mk hbel
 clear hput hbel hown' hgrow
 go_wp2
 go_ret
 refine ⟨rfl, .inr ?_,KB.out⟩
 have e2:Lib.byteCells (l ++ [c])=Lib.byteCells l ++ [.int .u8 (c.toNat:Int)]:=by simp [Lib.byteCells]
 rw [e2]
 exact KP.out
end Go.Proofs.Yy.Bd
end
section
namespace Go.Proofs.Yy.M
theorem cut_cap {P:Program} (t e:TypeId) (kh km:IntKind) {i:TypeInfo} (ht:P.underlying t=some (.slice e)) (hi:P.info? e=some i) (A:Option Addr) (n c:Nat) (j:Int) (h0:0≤j) (hm:j≤n) (hc:n≤c) :
  ∀ W:World,(Instr.slice t (.slice A n c) none (some (.int kh j)) (some (.int km j))).run P W = .ok (.slice A j.toNat j.toNat) W:=by
 intro W
 have hel:P.elem t=e:=by simp [Program.elem,ht]
 have hu:P.underlying t=some (.slice (P.elem t)):=by rw [hel];exact ht
 have ha:(A.map fun x=>x.add 0)=A:=by cases A <;> simp [Addr.add]
 rw [run_slice_hm W t A n c hu kh km j j h0 (Int.le_refl _) (by omega),hel]
 simp [sizeOf,typeInfo,hi,sliced,Result.andThen,ha]
theorem goesX_ {P:Program} {ops:Array Oper} {Q:Exit→Act→World→Prop} {rest:List Oper} {oi:Oper} {a:Act} {w:World} (N:Option Tmp) (hd:oi.dst=N) (hg:oi.guard=none) {f:FuncId} {xs:Array Operand} {ts:Array TypeId} (args:Array Value) (v:Value)
  (hop:oi.op = .call { callee := .value (.func f),args:=xs,argTypes:=ts }) (hargs:xs.map a.eval=args) (hrun:∀ w:World,(callFunc f args).run P w = .ok (.value v) w)
  (h:wpList P ops Q rest (a.put N v) w):wpList P ops Q (oi :: rest) a w:=by
 refine wpList_plain hg fun K hK=>?_
 have hr:(execOp a.eval oi).run P w = .ok (.value v) w:=by
  unfold execOp
  simp [hop,resolve,Deferred.ofValue,invoke,Act.eval,hargs,hrun]
 unfold Oper.wp
 rw [hr,Oper.upon_value]
 subst hd
 exact hK _ _ h
def add64Lo (x y c:Int):Int:=(((x.toNat+y.toNat+c.toNat) % 18446744073709551616:Nat):Int)
def add64Hi (x y c:Int):Int:=(((x.toNat+y.toNat+c.toNat) / 18446744073709551616:Nat):Int)
def sub64Lo (x y b:Int):Int:=(((x.toNat+18446744073709551616 - y.toNat - b.toNat) % 18446744073709551616:Nat):Int)
def sub64Hi (x y b:Int):Int:=((if x.toNat<y.toNat+b.toNat then 1 else 0:Nat):Int)
def sub64EntryM:Array Value→Sem Value:=fun args=>do
 let (x, y, b) ← Extern.MathBitsCarry.three "Sub64" args
 pure (Extern.MathBitsCarry.pair ((x+Extern.MathBitsCarry.m64 - y - b) % Extern.MathBitsCarry.m64) (if x<y+b then 1 else 0))
theorem runx_add64 (x y c:Int) (hc:c≤1) (w:World) :
  (callFunc 191 #[.int .u64 x, .int .u64 y, .int .u64 c]).run Tryz.prog w = .ok (.value (.tuple #[.int .u64 (add64Lo x y c), .int .u64 (add64Hi x y c)])) w:=by
 rw [run_callFunc_extern Tryz.func191 (by kernel_rfl) (by kernel_rfl) (by kernel_rfl) (e:=add64Entry) (by kernel_rfl)]
 have key:(add64Entry #[.int .u64 x, .int .u64 y, .int .u64 c]).run Tryz.prog w = .ok (.tuple #[.int .u64 (add64Lo x y c), .int .u64 (add64Hi x y c)]) w:=by
  cases c with
  | ofNat k =>
   have:k=0∨k=1:=by have:(k:Int)≤1:=hc;omega
   rcases this with rfl|rfl <;> rfl
  | negSucc k=>rfl
 rw [key]
 rfl
theorem runx_sub64 (x y b:Int) (hb:b≤1) (w:World) :
  (callFunc 215 #[.int .u64 x, .int .u64 y, .int .u64 b]).run Tryz.prog w = .ok (.value (.tuple #[.int .u64 (sub64Lo x y b), .int .u64 (sub64Hi x y b)])) w:=by
 rw [run_callFunc_extern Tryz.func215 (by kernel_rfl) (by kernel_rfl) (by kernel_rfl) (e:=sub64EntryM) (by kernel_rfl)]
 have key:(sub64EntryM #[.int .u64 x, .int .u64 y, .int .u64 b]).run Tryz.prog w = .ok (.tuple #[.int .u64 (sub64Lo x y b), .int .u64 (sub64Hi x y b)]) w:=by
  cases b with
  | ofNat k =>
   have:k=0∨k=1:=by have:(k:Int)≤1:=hb;omega
   rcases this with rfl|rfl <;> rfl
  | negSucc k=>rfl
 rw [key]
 rfl
theorem errT:Tryz.prog.underlying 27=some (.interface (Tryz.prog.methodsAt 27)):=by kernel_rfl
theorem codeT:Tryz.prog.underlying 64=some (.int .i64):=by kernel_rfl
theorem codeC:(Tryz.prog.info? 64).map (·.comparable)=some true:=by kernel_rfl
theorem equalIn_cc (d:Nat) (a b:Int) (w:World):(Op.equalIn (d+2) 27 (.iface 64 (.int .i64 a)) (.iface 64 (.int .i64 b))).run Tryz.prog w = .ok (a == b) w:=by
 obtain ⟨i,hinfo,hcomp⟩:=Option.map_eq_some_iff.1 codeC
 simp [Op.equalIn,run_underlying errT,run_underlying codeT,typeInfo,hinfo,hcomp]
theorem equalIn_nc (d:Nat) (b:Int) (w:World):(Op.equalIn (d+1) 27 .nilIface (.iface 64 (.int .i64 b))).run Tryz.prog w = .ok false w:=by
 simp [Op.equalIn,run_underlying errT]
theorem eql_cc (a b:Int) (w:World):(binOp .eql 27 (.iface 64 (.int .i64 a)) (.iface 64 (.int .i64 b))).run Tryz.prog w = .ok (.bool (a == b)) w:=by
 simp only [binOp]
 simp [Op.equal,Op.maxDepth,equalIn_cc 9998 a b w]
theorem neq_cc (a b:Int) (w:World):(binOp .neq 27 (.iface 64 (.int .i64 a)) (.iface 64 (.int .i64 b))).run Tryz.prog w = .ok (.bool (a != b)) w:=by
 simp only [binOp]
 simp [Op.equal,Op.maxDepth,equalIn_cc 9998 a b w,bne]
theorem eql_nc (b:Int) (w:World):(binOp .eql 27 .nilIface (.iface 64 (.int .i64 b))).run Tryz.prog w = .ok (.bool false) w:=by
 simp only [binOp]
 simp [Op.equal,Op.maxDepth,equalIn_nc 9999 b w]
theorem neq_nc (b:Int) (w:World):(binOp .neq 27 .nilIface (.iface 64 (.int .i64 b))).run Tryz.prog w = .ok (.bool true) w:=by
 simp only [binOp]
 simp [Op.equal,Op.maxDepth,equalIn_nc 9999 b w]
end Go.Proofs.Yy.M
end
section
namespace Go.Proofs.Yw.PrintWords
theorem Reps.one {α:Type} {R:α→List Value→Prop} {ps:List α} {cs:List Value} {p:α} {v:Value} (hp:R p [v]) (h:Reps R 1 ps cs):Reps R 1 (p :: ps) (v :: cs):=by
 refine ⟨by simp [h.1],fun j q hq=>?_⟩
 cases j with
 | zero =>
  simp only [List.getElem?_cons_zero,Option.some.injEq] at hq
  subst hq
  simpa using hp
 | succ j =>
  simp only [List.getElem?_cons_succ] at hq
  have h1:=h.2 j q hq
  simpa [Nat.mul_one] using h1
theorem Reps.front {α:Type} {R:α→List Value→Prop} {size:Nat} {ps:List α} {cs c all:List Value} {p:α} (hp:R p c) (hc:c.length=size) (h:Reps R size ps cs) (ha:c ++ cs=all):Reps R size (p :: ps) all:=by
 subst ha
 refine ⟨by rw [List.length_append,hc,h.1,List.length_cons,Nat.succ_mul,Nat.add_comm],fun j q hq=>?_⟩
 cases j with
 | zero =>
  simp only [List.getElem?_cons_zero,Option.some.injEq] at hq
  subst hq
  rw [Nat.zero_mul,List.drop_zero,List.take_append_of_le_length (by omega),List.take_of_length_le (by omega)]
  exact hp
 | succ j =>
  simp only [List.getElem?_cons_succ] at hq
  have h1:=h.2 j q hq
  rw [Nat.succ_mul,List.drop_append,List.drop_of_length_le (by rw [hc];exact Nat.le_add_left _ _),List.nil_append,hc,Nat.add_sub_cancel]
  exact h1
theorem Reps.c2 {α:Type} {R:α→List Value→Prop} {ps:List α} {cs:List Value} {p:α} {va vb:Value} (hp:R p [va,vb]) (h:Reps R 2 ps cs):Reps R 2 (p :: ps) (va :: vb :: cs):=Reps.front hp rfl h rfl
theorem Reps.c3 {α:Type} {R:α→List Value→Prop} {ps:List α} {cs:List Value} {p:α} {va vb vc:Value} (hp:R p [va,vb,vc]) (h:Reps R 3 ps cs):Reps R 3 (p :: ps) (va :: vb :: vc :: cs):=Reps.front hp rfl h rfl
theorem Reps.c4 {α:Type} {R:α→List Value→Prop} {ps:List α} {cs:List Value} {p:α} {va vb vc vd:Value} (hp:R p [va,vb,vc,vd]) (h:Reps R 4 ps cs):Reps R 4 (p :: ps) (va :: vb :: vc :: vd :: cs):=Reps.front hp rfl h rfl
theorem Reps.c5 {α:Type} {R:α→List Value→Prop} {ps:List α} {cs:List Value} {p:α} {va vb vc vd ve:Value} (hp:R p [va,vb,vc,vd,ve]) (h:Reps R 5 ps cs):Reps R 5 (p :: ps) (va :: vb :: vc :: vd :: ve :: cs):=Reps.front hp rfl h rfl
theorem Reps.c6 {α:Type} {R:α→List Value→Prop} {ps:List α} {cs:List Value} {p:α} {va vb vc vd ve vf:Value} (hp:R p [va,vb,vc,vd,ve,vf]) (h:Reps R 6 ps cs):Reps R 6 (p :: ps) (va :: vb :: vc :: vd :: ve :: vf :: cs):=Reps.front hp rfl h rfl
theorem Reps.c7 {α:Type} {R:α→List Value→Prop} {ps:List α} {cs:List Value} {p:α} {va vb vc vd ve vf vg:Value} (hp:R p [va,vb,vc,vd,ve,vf,vg]) (h:Reps R 7 ps cs):Reps R 7 (p :: ps) (va :: vb :: vc :: vd :: ve :: vf :: vg :: cs):=Reps.front hp rfl h rfl
theorem Reps.c8 {α:Type} {R:α→List Value→Prop} {ps:List α} {cs:List Value} {p:α} {va vb vc vd ve vf vg vh:Value} (hp:R p [va,vb,vc,vd,ve,vf,vg,vh]) (h:Reps R 8 ps cs):Reps R 8 (p :: ps) (va :: vb :: vc :: vd :: ve :: vf :: vg :: vh :: cs):=Reps.front hp rfl h rfl
theorem Reps.c9 {α:Type} {R:α→List Value→Prop} {ps:List α} {cs:List Value} {p:α} {va vb vc vd ve vf vg vh vi:Value} (hp:R p [va,vb,vc,vd,ve,vf,vg,vh,vi]) (h:Reps R 9 ps cs):Reps R 9 (p :: ps) (va :: vb :: vc :: vd :: ve :: vf :: vg :: vh :: vi :: cs):=Reps.front hp rfl h rfl
theorem Reps.c10 {α:Type} {R:α→List Value→Prop} {ps:List α} {cs:List Value} {p:α} {va vb vc vd ve vf vg vh vi vj:Value} (hp:R p [va,vb,vc,vd,ve,vf,vg,vh,vi,vj]) (h:Reps R 10 ps cs):Reps R 10 (p :: ps) (va :: vb :: vc :: vd :: ve :: vf :: vg :: vh :: vi :: vj :: cs):=Reps.front hp rfl h rfl
end Go.Proofs.Yw.PrintWords
end
section
namespace Go.Proofs.Yy.Fmt
open Go.Shelf Go.RowKit Go.Sort Go.Lib
def Tab10 (w : World) : Prop := Lib.TabIs Tryz.prog w "internal/strconv.uint64pow10" .u64 Lib.pow10Tab
theorem below_grow (w:World) (k:Nat) (os:Array Obj):Below w.heap.size w (grow (w.drewN k) os) :=
 ⟨rfl,rfl,rfl,by show w.heap.size≤(w.heap ++ os).size;simp,fun i hi=>by show (w.heap ++ os)[i]? = _;rw [Array.getElem?_append_left hi]⟩
set_option maxHeartbeats 3200000 in
set_option maxRecDepth 100000 in
theorem inner_FormatUint (u:Nat) (hu64:u<18446744073709551616) (w:World) (htab:Tab10 w) :
  Calls Tryz.prog 165 #[.int .u64 u, .int .i64 10] w fun e w'=>e = .returned (.string ⟨(Lib.decDigits u).toArray⟩) ∧ ∃ k os,w'=grow (w.drewN k) os:=by
 by_cases hs:u<100
 ·go_enter Tryz.func165,Tryz.ntmps165
  go_wp2_with (go_at_call 198;refine (Tryz.internal_strconv_small u hs _).mono ?_;rintro e w' ⟨rfl,rfl⟩)
  go_ret
  exact ⟨rfl,0,#[],by simp [World.drewN_zero]⟩
 ·have hu1:1≤u:=by omega
  have hnd20:Lib.nDigits u≤20:=by have:=Lib.numDigits_eq u hu1 hu64;split at this <;> omega
  have hb3:Lib.nDigits u≤24:=by omega
  have hal:Tryz.prog.arrayLen 268=24:=by kernel_rfl
  have hsl1:∀ W,(Instr.sliceAt 268 (.pointer (some ⟨w.heap.size,0,none⟩)) none (some (.int .i64 (Lib.nDigits u:Int))) none).run Tryz.prog W = .ok (.slice (some ⟨w.heap.size,0,none⟩) (Lib.nDigits u) 24) W:=fun W=>by
   rw [run_sliceAt_array_h W 268 ⟨w.heap.size,0,none⟩ (by simp [Program.arrayLen,Program.elem,Tryz.underlying268]) .i64 (Lib.nDigits u:Int) (by omega) (by rw [hal];omega)]
   go_simp
  have hH0:=Lib.holds_zero0 w 268 (Lib.nDigits u) (by omega)
  have hfmt:=Tryz.internal_strconv_formatBase10 w.heap.size 0 24 u (Array.replicate (Lib.nDigits u) 0) (w.alloc (.cells Lib.zeros24 268)) hH0 (by rw [Array.size_replicate];exact Lib.lt_pow_nDigits u) hu64 (by rw [Array.size_replicate];omega)
  rw [Array.size_replicate] at hfmt
  have HH0:=Lib.hid hH0
  clear hH0 hal
  have HT:=Lib.hid htab
  clear htab
  go_enter Tryz.func165,Tryz.ntmps165
  go_wp2_with (first
   | (go_at_call 199;refine (Tryz.internal_strconv_numDigits u hu1 hu64 _ (Lib.tabIs_alloc HT.out _)).mono ?_;rintro e w' ⟨rfl,rfl⟩))
  go_at_call 200
  refine hfmt.mono ?_
  rintro e w' ⟨rfl,k,v',dk,rfl,hF⟩
  have hcv:(convert 104 9 (.slice (some ⟨w.heap.size,0,none⟩) (Lib.nDigits u) 24)).run Tryz.prog ((putRow (fun (b:UInt8)=>Value.int .u8 (b.toNat:Int)) (w.alloc (.cells Lib.zeros24 268)) w.heap.size 0 dk).drewN k) = .ok (.string ⟨(Lib.decDigits u).toArray⟩) ((putRow (fun (b:UInt8)=>Value.int .u8 (b.toNat:Int)) (w.alloc (.cells Lib.zeros24 268)) w.heap.size 0 dk).drewN k):=by
   have h:=run_convert_bytes_back (P:=Tryz.prog) ((putRow (fun (b:UInt8)=>Value.int .u8 (b.toNat:Int)) (w.alloc (.cells Lib.zeros24 268)) w.heap.size 0 dk).drewN k) 104 9 5 ⟨w.heap.size,0,none⟩ 24 (Lib.decDigits u) Tryz.underlying104 Tryz.underlying5 Tryz.underlying9 (fun j hj=>by
    rw [Lib.row_is_numeral hF j hj,Lib.add_plain,World.cell?_drewN]
    exact cell?_putRow (fun (b:UInt8)=>Value.int .u8 (b.toNat:Int)) _ w.heap.size 0 _ dk HH0.out (by rw [hF.size,Array.size_replicate]) j (by rw [hF.size];rw [Lib.decDigits_length] at hj;exact hj))
   rw [Lib.decDigits_length] at h
   exact h
  go_wp2
  go_ret
  obtain ⟨os',_,e⟩:=putRow_grow_new (fun (b:UInt8)=>Value.int .u8 (b.toNat:Int)) w #[(.cells Lib.zeros24 268)] w.heap.size 0 dk (Nat.le_refl _)
  refine ⟨rfl,k,os',?_⟩
  rw [alloc_eq_grow,e]
  rfl
end Go.Proofs.Yy.Fmt
end
section
namespace Go.Proofs.Yy.TA
open Go.Proofs.Yy.SC (D)
def scl (N C:Nat):Int:=if C≤N then ((N / C).log2:Int) else -((((C - 1) / N).log2:Int)+1)
theorem scl_sc {N C:Nat} (hN:0<N) (hC:0<C):Sc N C (scl N C):=by
 unfold scl
 by_cases h:C≤N
 ·rw [if_pos h]
  have h1:N / C≠0:=by have:=Nat.div_pos h hC;omega
  have a:=Nat.log2_self_le h1
  have b:=Nat.lt_log2_self (n:=N / C)
  obtain ⟨j,hj⟩:∃ j,(N / C).log2=j:=⟨_,rfl⟩
  rw [hj] at a b ⊢
  unfold Sc up dn
  rw [show (-(j:Int)).toNat=0 by omega,Int.toNat_natCast,Nat.pow_zero,Nat.mul_one]
  constructor
  ·rw [Nat.mul_comm];exact Nat.le_trans (Nat.mul_le_mul_right C a) (Nat.div_mul_le_self _ _)
  ·have h2:N<C * (N / C+1):=by have:=Nat.div_add_mod N C;have:=Nat.mod_lt N hC;rw [Nat.mul_add];omega
   have h3:C * (N / C+1)≤C * 2 ^ (j+1):=Nat.mul_le_mul_left _ b
   rw [Nat.pow_succ, ← Nat.mul_assoc] at h3
   omega
 ·rw [if_neg h]
  have h1:(C - 1) / N≠0:=by have:=Nat.div_pos (a:=C - 1) (b:=N) (by omega) hN;omega
  have a:=Nat.log2_self_le h1
  have b:=Nat.lt_log2_self (n:=(C - 1) / N)
  obtain ⟨j,hj⟩:∃ j,((C - 1) / N).log2=j:=⟨_,rfl⟩
  rw [hj] at a b ⊢
  unfold Sc up dn
  rw [show (-(-((j:Int)+1))).toNat=j+1 by omega,show (-((j:Int)+1)).toNat=0 by omega,Nat.pow_zero,Nat.mul_one]
  have d:=Nat.div_add_mod (C - 1) N
  have m:=Nat.mod_lt (C - 1) hN
  constructor
  ·have h3:N * ((C - 1) / N+1)≤N * 2 ^ (j+1):=Nat.mul_le_mul_left _ b
   rw [Nat.mul_add] at h3
   omega
  ·have h3:N * 2 ^ j≤N * ((C - 1) / N):=Nat.mul_le_mul_left _ a
   rw [Nat.pow_succ, ← Nat.mul_assoc]
   omega
theorem scl_eq {N C:Nat} {s:Int} (h:Sc N C s):scl N C=s:=Sc_same (scl_sc (Sc_pos h).2 (Sc_pos h).1) h
def numL (l:List UInt8):Nat:=l.foldl (fun a c=>a * 10+(c.toNat - 48)) 0
def numD (d:D):Nat:=numL d.ds * 10 ^ d.e.toNat
def denD (d:D):Nat:=10 ^ (-d.e).toNat
def posD (n:Nat) (d:D):Nat:=pos n (scl (numD d) (denD d)) (numD d) (denD d)
def sgn (n:Nat) (neg:Bool) (p:Nat):Nat:=if neg=true then (2 ^ n - p) % 2 ^ n else p % 2 ^ n
def ofD (n:Nat) (d:D):Nat:=if (SC.nrm d).nar=true then 2 ^ (n - 1) else if (SC.nrm d).ds = [48] then 0 else sgn n (SC.nrm d).neg (posD n (SC.nrm d))
theorem denD_pos (d:D):0<denD d:=Nat.pow_pos (by omega)
theorem pos_rep {n:Nat} {N C:Nat} {s:Int} {hi:Nat} {st:Bool} (h:Rep N C s hi st):pos n (scl N C) N C=pos n s N C:=by rw [scl_eq h.sc]
theorem top_le {n:Nat} (hn:n≤64):top n≤248:=by unfold top;omega
theorem pos_high {n N C:Nat} (hn:n≤64) (hC:0<C) (h:2 ^ 248 * C≤N):pos n (scl N C) N C=2 ^ (n - 1) - 1:=by
 have hN:0<N:=Nat.lt_of_lt_of_le (Nat.mul_pos (two_pos _) hC) h
 have hs:Sc (2 ^ 248) 1 248:=by unfold Sc up dn;decide +kernel
 have hle:=Sc_le hs (scl_sc hN hC) (by rw [Nat.mul_one];exact h)
 have:=top_le hn
 unfold pos
 rw [if_pos (by omega)]
theorem pos_low {n N C:Nat} (hn1:2≤n) (hn:n≤64) (hN:0<N) (h:N * 2 ^ 249≤C):pos n (scl N C) N C=1:=by
 have hC:0<C:=Nat.lt_of_lt_of_le (Nat.mul_pos hN (two_pos _)) h
 have hs:Sc 1 (2 ^ 249) (-249):=by unfold Sc up dn;decide +kernel
 have hle:=Sc_le (scl_sc hN hC) hs (by rw [Nat.one_mul];exact h)
 have:=top_le hn
 have h8:0≤top n:=by unfold top;omega
 unfold pos
 rw [if_neg (by omega),if_pos (by omega)]
end Go.Proofs.Yy.TA
end
section
namespace Go.Proofs.Yw.PrintWords
open Go.RowKit
namespace Kd
def tag {α:Type} (f:Nat→Nat) (d:Kd α):Kd (α × Nat) where
 sz:=d.sz
 E:=d.E
 K:=fun w x cs=>d.K w x.1 cs
 M:=fun w base ok x cs=>d.M w base (fun k=>ok k∧f k=x.2) x.1 cs
 K_len:=fun h=>d.K_len h
 K_one:=fun h=>d.K_one h
 K_below:=fun hb h=>d.K_below hb h
 K_of_M:=fun h=>d.K_of_M h
 M_mono:=fun hok h=>d.M_mono (fun k hk=>⟨hok k hk.1,hk.2⟩) h
 M_bound:=fun h=>d.M_mono (fun _ hk=>⟨⟨hk.1.1,hk.2⟩,hk.1.2⟩) (d.M_bound h)
 M_move:=fun hm h=>d.M_move (fun k hk=>hm k hk.1) h
 M_lower:=fun hb h=>d.M_lower hb h
def raw (sz:Nat):Kd (List Value) where
 sz:=sz
 E := []
 K:=fun _ x cs=>cs=x∧cs.length=sz ∧ ∀ u ∈ cs,u.oneCell'=true
 M:=fun _ _ _ x cs=>cs=x∧cs.length=sz ∧ ∀ u ∈ cs,u.oneCell'=true
 K_len:=fun h=>h.2.1
 K_one:=fun h=>h.2.2
 K_below:=fun _ h=>h
 K_of_M:=fun h=>h
 M_mono:=fun _ h=>h
 M_bound:=fun h=>h
 M_move:=fun _ h=>h
 M_lower:=fun _ h=>h
def S {α:Type} (d:Kd α) (e:Nat) (w:World) (base:Nat) (ok:Nat→Prop) (v:Value) (xs:List α):Prop := ∃ f,(tag f d).R e w base ok v xs.zipIdx
section
variable {α β:Type} {d:Kd α} {d':Kd β} {e e':Nat} {w w1 W:World} {base b:Nat} {ok ok' okv oku:Nat→Prop} {u v:Value} {xs:List α} {ys:List β}
theorem R_tight (hE:d.E = []) (h:d.R e w base ok v xs):d.R e w base (fun k=>some k=v.ownBlock) v xs:=by
 obtain ⟨h0,inner,ho,hr⟩:=h
 refine ⟨fun k hk=>hk.symm,inner,ho,hr.imp_ (fun p c hp=>d.M_mono (fun k hk=>?_) (d.M_bound hp))⟩
 obtain ⟨_,_,_,q,hq,_⟩:=hk
 rw [hE] at hq
 cases hq
end
def gap {α:Type} (f:Nat→Nat) (d:Kd α) (i:Nat) (c:List Value):Kd (α × Nat) where
 sz:=d.sz
 E:=d.E
 K:=fun w x cs=>(x.2=i→cs=c∧cs.length=d.sz ∧ ∀ u ∈ cs,u.oneCell'=true)∧(x.2≠i→d.K w x.1 cs)
 M:=fun w base ok x cs=>(x.2=i→cs=c∧cs.length=d.sz ∧ ∀ u ∈ cs,u.oneCell'=true)∧(x.2≠i→d.M w base (fun k=>ok k∧f k=x.2) x.1 cs)
 K_len:=fun {w x cs} h=>by
  by_cases hx:x.2=i
  ·exact (h.1 hx).2.1
  ·exact d.K_len (h.2 hx)
 K_one:=fun {w x cs} h=>by
  by_cases hx:x.2=i
  ·exact (h.1 hx).2.2
  ·exact d.K_one (h.2 hx)
 K_below:=fun hb h=>⟨h.1,fun hx=>d.K_below hb (h.2 hx)⟩
 K_of_M:=fun h=>⟨h.1,fun hx=>d.K_of_M (h.2 hx)⟩
 M_mono:=fun hok h=>⟨h.1,fun hx=>d.M_mono (fun k hk=>⟨hok k hk.1,hk.2⟩) (h.2 hx)⟩
 M_bound:=fun h=>⟨h.1,fun hx=>d.M_mono (fun _ hk=>⟨⟨hk.1.1,hk.2⟩,hk.1.2⟩) (d.M_bound (h.2 hx))⟩
 M_move:=fun hm h=>⟨h.1,fun hx=>d.M_move (fun k hk=>hm k hk.1) (h.2 hx)⟩
 M_lower:=fun hb h=>⟨h.1,fun hx=>d.M_lower hb (h.2 hx)⟩
def H {α:Type} (d:Kd α) (e:Nat) (w:World) (base:Nat) (ok:Nat→Prop) (v:Value) (xs:List α) (i:Int) (oki:Nat→Prop) (c:List Value):Prop :=
 (∀ k,oki k→ok k) ∧ ∃ f,(gap f d i.toNat c).R e w base (fun k=>ok k ∧ ¬ oki k) v xs.zipIdx
end Kd
end Go.Proofs.Yw.PrintWords
end
section
namespace Go.Proofs.Yw.PrintWords
open Go.RowKit
section
variable {P:Program} {d:Nat} {xs ys:Array Value} {f:Field} {fs:List Field} {a b:Value} {r s:Bool} {w:World}
theorem eqf_last (hn : (f.name == "_") = false) (ha : (part f.type xs f.offset).run P w = .ok a w) (hb : (part f.type ys f.offset).run P w = .ok b w) (he : (Op.equalIn d f.type a b).run P w = .ok r w) : (Op.eqFields d xs ys [f]).run P w = .ok r w := by
 have hn' : f.name ≠ "_" := by simpa using hn
 simp only [Op.eqFields,if_pos hn',Sem.run_bind,ha,hb,he,Result.andThen_ok]
 cases r <;> simp
theorem eqf_cons (hn : (f.name == "_") = false) (ha : (part f.type xs f.offset).run P w = .ok a w) (hb : (part f.type ys f.offset).run P w = .ok b w) (he : (Op.equalIn d f.type a b).run P w = .ok r w) (hr : (Op.eqFields d xs ys fs).run P w = .ok s w) : (Op.eqFields d xs ys (f :: fs)).run P w = .ok (r && s) w := by
 have hn' : f.name ≠ "_" := by simpa using hn
 rw [Op.eqFields]
 simp only [if_pos hn',Sem.run_bind,ha,hb,he,Result.andThen_ok]
 cases r
 ·simp
 ·simpa using hr
theorem eqA_of {t:TypeId} {fs:Array Field} (hu:P.underlying t=some (.struct fs)) (hp:P.stoodInHeld t=false) (h:(Op.eqFields d xs ys fs.toList).run P w = .ok r w):(Op.equalIn (d+1) t (.agg xs) (.agg ys)).run P w = .ok r w:=by
 have hf:P.fieldsOf t=fs:=by simp [Program.fieldsOf,hu]
 rw [run_equalIn_struct (P:=P) w d t xs ys (by rw [hf];exact hu) hp,hf]
 exact h
end
section
variable {P:Program} {ops:Array Oper} {rest:List Oper} {o:Oper} {a:Act} {Q:Exit→Act→World→Prop} {W:World}
theorem gate_guard (hw:Region.wanted o (yielded ops a.tmps)=true) (h:wpList P ops Q ({ o with guard:=none } :: rest) a W):wpList P ops Q (o :: rest) a W:=by
 have h1:Region.wanted { o with guard:=none } (yielded ops a.tmps)=true:=rfl
 unfold wpList at h ⊢
 rw [if_pos h1] at h
 rw [if_pos hw]
 exact h
end
end Go.Proofs.Yw.PrintWords
end
section
namespace Go.Proofs.Yw.PrintWords
open Go.RowKit
namespace Kd
structure Heap {α:Type} (d:Kd α):Prop where
 K:∀ {w w1:World} {x:α} {cs:List Value},(∀ k,k<w.heap.size→w1.heap[k]? = w.heap[k]?)→d.K w x cs→d.K w1 x cs
theorem cell_heap {w w1:World} (hb:∀ k,k<w.heap.size→w1.heap[k]? = w.heap[k]?) {a:Addr} {v:Value} (h:w.cell? a=some v):w1.cell? a=some v:=by
 have:=hb a.block (World.block_lt_of_cell? w a h)
 simpa [World.cell?, this] using h
theorem Heap.C {α:Type} {d:Kd α} (hd:Heap d) {w w1:World} {A:Option Addr} {n:Nat} {xs:List α} (hb:∀ k,k<w.heap.size→w1.heap[k]? = w.heap[k]?) (h:d.C w A n xs):d.C w1 A n xs :=
 ⟨h.1,h.2.1,fun hn=>by
  obtain ⟨ad,e,hc⟩:=h.2.2 hn
  refine ⟨ad,e,fun j p hj=>?_⟩
  obtain ⟨c,hs,hr,hcell⟩:=hc j p hj
  exact ⟨c,hs,hd.K hb hr,fun i u hu=>cell_heap hb (hcell i u hu)⟩⟩
theorem heap_int (k:IntKind):Heap (Kd.int k):=⟨fun _ h=>h⟩
end Kd
end Go.Proofs.Yw.PrintWords
end
section
namespace Go.Proofs.Yw.PrintWords
open Go.RowKit
def Kept (w W:World) (S:Nat→Prop):Prop:=w.heap.size≤W.heap.size ∧ ∀ i,i<w.heap.size → ¬ S i→W.heap[i]? = w.heap[i]?
section
variable {w W W2:World} {S S2 S':Nat→Prop}
theorem Kept.refl (w:World) (S:Nat→Prop):Kept w w S:=⟨Nat.le_refl _,fun _ _ _=>rfl⟩
theorem Kept.of_below (h:Below w.heap.size w W) (S:Nat→Prop):Kept w W S:=⟨h.size,fun i hi _=>h.block i hi⟩
theorem Kept.mono (h:Kept w W S) (hs:∀ k,S k→S' k):Kept w W S':=⟨h.1,fun i hi hn=>h.2 i hi (fun hk=>hn (hs i hk))⟩
theorem Kept.then_ (h:Kept w W S) (k:Kept W W2 S2) (hs:∀ k,S2 k→S k∨w.heap.size≤k):Kept w W2 S :=
 ⟨Nat.le_trans h.1 k.1,fun i hi hn=>(k.2 i (Nat.lt_of_lt_of_le hi h.1) (fun h2=>(hs i h2).elim hn (fun h3=>by omega))).trans (h.2 i hi hn)⟩
theorem Kept.of_grown {row:Option Nat} (hg:W.grownBy W2 row) (h:Kept w W S) (hr:∀ k,row=some k→S k∨w.heap.size≤k):Kept w W2 S :=
 h.then_ (S2:=fun k=>row=some k) ⟨hg.size,fun i hi hn=>hg.block i hi (fun he=>hn he.symm)⟩ hr
theorem Kept.below (h:Kept w W S) (hb:Below W.heap.size W W2):Kept w W2 S:=h.then_ (Kept.of_below hb (fun _=>False)) (fun _ hk=>hk.elim)
theorem Kept.alloc (h:Kept w W S) (o:Obj):Kept w (W.alloc o) S:=h.below (below_alloc (Below.refl _ _) o)
theorem Kept.drew (h:Kept w W S):Kept w W.drew S:=h
theorem Kept.drewN (h:Kept w W S) (m:Nat):Kept w (W.drewN m) S:=h
theorem Kept.setCell (h:Kept w W S) {p:Addr} (hp:S p.block∨w.heap.size≤p.block) (u:Value):Kept w (W.setCell p u) S :=
 h.then_ (S2:=fun k=>k=p.block) ⟨by simp [World.setCell],fun i _ hn=>Below.heap_setCell W p u i hn⟩ (fun k hk=>by rw [hk];exact hp)
end
namespace Kd
section
variable {α:Type} {d:Kd α} {e base n c:Nat} {ok oki S S2:Nat→Prop} {w w0 W W1 W2:World} {v:Value} {A:Option Addr} {xs:List α} {i:Int} {cs:List Value}
theorem R_kept (h:d.R e W base ok v xs) (hk:Kept W W2 S) (hne:∀ k,ok k → ¬ S k):d.R e W2 base ok v xs:=R_step h (fun k ho hlt=>hk.2 k hlt (hne k ho))
theorem C_kept_now (h:∀ W',Kept w W' S→d.C W' A n xs) (hk:Kept w W S):d.C W A n xs:=h W hk
end
end Kd
def Foot (P:World→Prop) (W:World) (ok:Nat→Prop):Prop := ∀ W':World,(∀ k,ok k→k<W.heap.size→W'.heap[k]? = W.heap[k]?)→P W'
theorem heap_lt {W W1:World} {k:Nat} (h:W1.heap[k]? = W.heap[k]?) (hlt:k<W.heap.size):k<W1.heap.size:=by
 rw [Array.getElem?_eq_getElem hlt] at h
 exact (Array.getElem?_eq_some_iff.1 h).1
namespace Foot
variable {P Q:World→Prop} {W W1:World} {ok ok':Nat→Prop}
theorem now (h:Foot P W ok):P W:=h W (fun _ _ _=>rfl)
theorem mono (h:Foot P W ok) (hok:∀ k,ok k→ok' k):Foot P W ok':=fun W' hW=>h W' (fun k hk hlt=>hW k (hok k hk) hlt)
theorem bound (h:Foot P W ok):Foot P W (fun k=>ok k∧k<W.heap.size):=fun W' hW=>h W' (fun k hk hlt=>hW k ⟨hk,hlt⟩ hlt)
theorem step (h:Foot P W ok) (hm:∀ k,ok k→k<W.heap.size→W1.heap[k]? = W.heap[k]?):Foot P W1 ok:=fun W' hW=>h W' (fun k hk hlt=>(hW k hk (heap_lt (hm k hk hlt) hlt)).trans (hm k hk hlt))
theorem imp (h:Foot P W ok) (hi:∀ W',P W'→Q W'):Foot Q W ok:=fun W' hW=>hi W' (h W' hW)
theorem old (h:Foot P W ok) (hb:Below W.heap.size W W1):Foot P W1 (fun k=>ok k∧k<W.heap.size):=(h.bound).step (fun k _ hlt=>hb.block k hlt)
end Foot
namespace Kd
def F {α:Type} (d:Kd α) (W:World) (ok:Nat→Prop) (A:Option Addr) (n:Nat) (xs:List α):Prop:=Foot (fun W=>d.C W A n xs) W ok
def FK {α:Type} (d:Kd α) (W:World) (ok:Nat→Prop) (x:α) (c:List Value):Prop:=Foot (fun W=>d.K W x c) W ok
section
variable {α β:Type} {d:Kd α} {e base n n' cc g N:Nat} {ok ok' okp S:Nat→Prop} {w w0 w1 W W1:World} {A A':Option Addr} {u v v1:Value} {xs:List α} {xs':List β} {d':Kd β} {x:α} {c:List Value}
theorem F_now (h:F d W ok A n xs):d.C W A n xs:=Foot.now h
theorem F_mono (h:F d W ok A n xs) (hok:∀ k,ok k→ok' k):F d W ok' A n xs:=Foot.mono h hok
theorem F_bound (h:F d W ok A n xs):F d W (fun k=>ok k∧k<W.heap.size) A n xs:=Foot.bound h
theorem F_step (h:F d W ok A n xs) (hm:∀ k,ok k→k<W.heap.size→W1.heap[k]? = W.heap[k]?):F d W1 ok A n xs:=Foot.step h hm
theorem F_imp (h:F d W ok A n xs) (hi:∀ W',d.C W' A n xs→d'.C W' A' n' xs'):F d' W ok A' n' xs':=Foot.imp h hi
theorem F_below (h:F d W ok A n xs) (hb:Below W.heap.size W W1):F d W1 ok A n xs:=F_step h (fun k _ hlt=>hb.block k hlt)
theorem F_alloc (h:F d W ok A n xs) (o:Obj):F d (W.alloc o) ok A n xs:=F_below h (below_alloc (Below.refl _ _) o)
theorem F_drew (h:F d W ok A n xs):F d W.drew ok A n xs:=F_below h (below_drew (Below.refl _ _))
theorem F_drewN (h:F d W ok A n xs) (m:Nat):F d (W.drewN m) ok A n xs:=F_below h (pw_below_drewN (Below.refl _ _) m)
theorem F_kept (h:F d W ok A n xs) (hk:Kept W W1 S) (hok:∀ k,ok k → ¬ S k):F d W1 ok A n xs:=F_step h (fun k ho hlt=>hk.2 k hlt (hok k ho))
theorem F_nil (d:Kd α) (W:World) (ok:Nat→Prop):F d W ok none ([]:List α).length []:=fun W' _=>C_nil d W'
theorem F_elder' (h:F d W ok A n xs) (hbase:∀ k,v.ownBlock=some k→W.heap.size≤k) (hb:Below W.heap.size W W1):F d W1 (fun k=>ok k∧some k≠v.ownBlock) A n xs :=
 F_mono (Foot.old h hb) (fun k hk=>⟨hk.1,fun he=>by have:=hbase k he.symm;have:=hk.2;omega⟩)
theorem F_after (h:F d W (fun k=>ok k∧some k≠v.ownBlock) A n xs) (hg:W.grownBy W1 v.ownBlock) (hat:v1.ownBlock=v.ownBlock ∨ ∃ b,v1.ownBlock=some b∧W.heap.size≤b):F d W1 (fun k=>ok k∧some k≠v1.ownBlock) A n xs:=by
 refine F_mono (Foot.step (F_bound h) (fun k hk hlt=>hg.block k hlt hk.1.2)) (fun k hk=>⟨hk.1.1,?_⟩)
 rcases hat with hat|⟨b,hb,hle⟩
 ·rw [hat];exact hk.1.2
 ·rw [hb]
  intro he
  injection he with he
  have:=hk.2
  omega
theorem F_apart_nil (h:F d W ok A n xs):F d W (fun k=>ok k∧some k≠(Value.slice none 0 0).ownBlock) A n xs:=F_mono h (fun k hk=>⟨hk,by simp [Value.ownBlock]⟩)
theorem C_F (hd:Heap d) (h:d.C w A n xs):F d w (fun k=>k<w.heap.size) A n xs:=fun _ hW=>hd.C (fun k hlt=>hW k hlt hlt) h
theorem R_F (h:d.R e W base ok (.slice A n cc) xs):F d W ok A n xs:=fun W' hW=>by
 have h2:=R_reads' (R_step h hW)
 rw [h2.1]
 exact h2.2.2
theorem FK_now (h:FK d W ok x c):d.K W x c:=Foot.now h
theorem FK_mono (h:FK d W ok x c) (hok:∀ k,ok k→ok' k):FK d W ok' x c:=Foot.mono h hok
theorem FK_bound (h:FK d W ok x c):FK d W (fun k=>ok k∧k<W.heap.size) x c:=Foot.bound h
theorem FK_step (h:FK d W ok x c) (hm:∀ k,ok k→k<W.heap.size→W1.heap[k]? = W.heap[k]?):FK d W1 ok x c:=Foot.step h hm
theorem emptied (W:World) (g:Nat):∃ W':World,(∀ k,k≠g→W'.heap[k]? = W.heap[k]?) ∧ ∀ a:Addr,a.block=g→W'.cell? a=none:=by
 refine ⟨{ W with heap:=W.heap.setIfInBounds g (.cells #[] 0) },fun k hk=>by simp [Ne.symm hk],fun a ha=>?_⟩
 subst ha
 by_cases hlt:a.block<W.heap.size
 ·simp [World.cell?, hlt]
 ·simp [World.cell?, hlt]
end
end Kd
end Go.Proofs.Yw.PrintWords
end
section
namespace Go.Proofs.Yw.PrintWords
open Go.RowKit
namespace Kd
def chunks (sz:Nat) (n:Nat) (inner:List Value):List (List Value):=(List.range n).map fun j=>(inner.drop (j * sz)).take sz
theorem chunks_length (sz n:Nat) (inner:List Value):(chunks sz n inner).length=n:=by simp [chunks]
theorem chunks_at {sz n:Nat} {inner:List Value} {j:Nat} (hj:j<n):(chunks sz n inner)[j]? = some ((inner.drop (j * sz)).take sz):=by simp [chunks,hj]
theorem chunks_get {sz n:Nat} {inner:List Value} {j:Nat} {c:List Value} (h:(chunks sz n inner)[j]? = some c):c=(inner.drop (j * sz)).take sz:=by
 have hj:j<n:=by have:=(List.getElem?_eq_some_iff.1 h).1;rwa [chunks_length] at this
 rw [chunks_at hj] at h
 injection h with h
 exact h.symm
theorem reps_raw {α:Type} {Rr:α→List Value→Prop} {sz:Nat} {xs:List α} {inner:List Value} (h:Reps Rr sz xs inner) (hR:∀ x c,Rr x c→c.length=sz ∧ ∀ u ∈ c,u.oneCell'=true):Reps (fun x cs=>cs=x∧cs.length=sz ∧ ∀ u ∈ cs,u.oneCell'=true) sz (chunks sz xs.length inner) inner:=by
 refine ⟨by rw [chunks_length];exact h.1,fun j p hj=>?_⟩
 have hjl:j<xs.length:=by have:=(List.getElem?_eq_some_iff.1 hj).1;rwa [chunks_length] at this
 have hp:=chunks_get hj
 exact ⟨hp.symm,hR _ _ (h.2 j _ (List.getElem?_eq_getElem hjl))⟩
section
variable {α:Type} {d:Kd α} {e base n cc g:Nat} {ok ok' okp S:Nat→Prop} {w w1 W W1:World} {A:Option Addr} {u v v1:Value} {xs:List α} {x:α} {c:List Value}
theorem F_get (h:F d W ok A n xs) (z:α) (i:Int) (h0:0≤i) (h1:i<n) :
  ∃ ad c,A=some ad∧c.length=d.sz∧FK d W ok (xs.getD i.toNat z) c∧(∀ j u,c[j]? = some u→W.cell? (ad.add (i.toNat * d.sz+j))=some u)∧(0<d.sz→ok ad.block):=by
 obtain ⟨ad,c,rfl,hcl,hK,hcc⟩:=C_get (F_now h) z i h0 h1
 have hin:0<d.sz→ok ad.block:=by
  intro hs
  by_cases hk:ok ad.block
  ·exact hk
  ·obtain ⟨W',h2,h3⟩:=emptied W ad.block
   obtain ⟨ad',c',he,hcl',_,hcc'⟩:=C_get (h W' (fun k hk' _=>h2 k (fun e=>hk (e ▸ hk')))) z i h0 h1
   injection he with he
   subst he
   have h4:=hcc' 0 _ (List.getElem?_eq_getElem (by omega))
   rw [h3 _ (add_block _ _)] at h4
   cases h4
 refine ⟨ad,c,rfl,hcl,fun W' hW=>?_,hcc,hin⟩
 obtain ⟨ad',c',he,hcl',hK',hcc'⟩:=C_get (h W' hW) z i h0 h1
 injection he with he
 subst he
 have hc:c=c':=by
  apply List.ext_getElem?
  intro j
  by_cases hj:j<d.sz
  ·have hb:W'.heap[ad.block]? = W.heap[ad.block]?:=by
    have h5:=hcc j _ (List.getElem?_eq_getElem (by omega))
    have h6:=World.block_lt_of_cell? W _ h5
    rw [add_block] at h6
    exact hW _ (hin (by omega)) h6
   have h5:=hcc j _ (List.getElem?_eq_getElem (by omega))
   have h6:=hcc' j _ (List.getElem?_eq_getElem (by omega))
   have h7:W'.cell? (ad.add (i.toNat * d.sz+j))=W.cell? (ad.add (i.toNat * d.sz+j)):=by simp [World.cell?, add_block,hb]
   rw [h7,h5] at h6
   rw [List.getElem?_eq_getElem (by omega),List.getElem?_eq_getElem (by omega)]
   exact h6
  ·rw [List.getElem?_eq_none (by omega),List.getElem?_eq_none (by omega)]
 rw [hc]
 exact hK'
def N {α:Type} (d:Kd α) (e:Nat) (w:World) (base:Nat) (ok:Nat→Prop) (v:Value) (xs:List α):Prop :=
 (∀ k,v.ownBlock=some k→ok k) ∧ ∃ rows:List (List Value),rows.length=xs.length∧(raw d.sz).R e w base (fun k=>some k=v.ownBlock) v rows ∧ ∀ (j:Nat) (x:α) (c:List Value),xs[j]? = some x→rows[j]? = some c→FK d w (fun k=>ok k∧some k≠v.ownBlock) x c
theorem raw_tight {sz:Nat} {rows:List (List Value)} (h:(raw sz).R e w base ok v rows):(raw sz).R e w base (fun k=>some k=v.ownBlock) v rows:=R_tight rfl h
theorem N_base (h:N d e w base ok v xs):∀ k,v.ownBlock=some k→base≤k:=by
 obtain ⟨_,rows,_,hR,_⟩:=h
 exact R_base hR
theorem N_lower {base':Nat} (h:N d e w base ok v xs) (hb:base'≤base):N d e w base' ok v xs:=by
 obtain ⟨h0,rows,hl,hR,hf⟩:=h
 exact ⟨h0,rows,hl,R_lower hR hb,hf⟩
theorem N_step (h:N d e w base ok v xs) (hm:∀ k,ok k→k<w.heap.size→w1.heap[k]? = w.heap[k]?):N d e w1 base ok v xs:=by
 obtain ⟨h0,rows,hl,hR,hf⟩:=h
 exact ⟨h0,rows,hl,R_step hR (fun k hk hlt=>hm k (h0 k hk.symm) hlt),fun j x c hx hc=>FK_step (hf j x c hx hc) (fun k hk hlt=>hm k hk.1 hlt)⟩
theorem N_below (h:N d e w base ok v xs) (hb:Below w.heap.size w w1):N d e w1 base ok v xs:=N_step h (fun k _ hk=>hb.block k hk)
theorem N_alloc (h:N d e w base ok v xs) (o:Obj):N d e (w.alloc o) base ok v xs:=N_below h (below_alloc (Below.refl _ _) o)
theorem N_drew (h:N d e w base ok v xs):N d e w.drew base ok v xs:=N_below h (below_drew (Below.refl _ _))
theorem N_drewN (h:N d e w base ok v xs) (m:Nat):N d e (w.drewN m) base ok v xs:=N_below h (pw_below_drewN (Below.refl _ _) m)
theorem N_slice (h:N d e w base ok v xs):∃ A c,v = .slice A xs.length c:=by
 obtain ⟨_,rows,hl,hR,_⟩:=h
 obtain ⟨A,c,he⟩:=R_slice hR
 exact ⟨A,c,by rw [he,hl]⟩
theorem N_reads' {n c:Nat} (h:N d e w base ok (.slice A n c) xs):n=xs.length∧n≤c∧d.C w A xs.length xs:=by
 obtain ⟨_,rows,hl,hR,hf⟩:=h
 obtain ⟨hn,hc,hC⟩:=R_reads' hR
 refine ⟨by omega,hc,?_⟩
 rw [hl] at hC
 refine ⟨rfl,hC.2.1,fun hp=>?_⟩
 obtain ⟨ad,he,hcell⟩:=hC.2.2 hp
 refine ⟨ad,he,fun j p hj=>?_⟩
 have hjl:j<rows.length:=by have:=(List.getElem?_eq_some_iff.1 hj).1;omega
 obtain ⟨c',hcl,hK,hcc⟩:=hcell j _ (List.getElem?_eq_getElem hjl)
 have hk:=FK_now (hf j p _ hj (List.getElem?_eq_getElem hjl))
 refine ⟨c',hcl,?_,hcc⟩
 rw [show c'=rows[j] from hK.1]
 exact hk
theorem N_F {n:Nat} (h:N d e w base ok (.slice A n cc) xs):F d w ok A n xs:=fun W' hW=>by
 have h2:=N_reads' (N_step h hW)
 rw [h2.1]
 exact h2.2.2
end
end Kd
end Go.Proofs.Yw.PrintWords
end
section
namespace Go.Proofs.Yw.PrintWords
open Go.RowKit
namespace Kd
section
variable {α:Type} {d:Kd α} {e base n cap g:Nat} {ok ok' okp:Nat→Prop} {w w1 W:World} {v v1:Value} {xs ys:List α}
theorem N_made {rows:List (List Value)} (hR:(raw d.sz).R e w1 base (fun k=>k=W.heap.size) v1 rows) (hg:W.grownBy w1 none) (hat:∃ b,v1.ownBlock=some b∧W.heap.size≤b) (hl:rows.length=xs.length) (hf:∀ (j:Nat) (x:α) (c:List Value),xs[j]? = some x→rows[j]? = some c→FK d W okp x c)
  (hok:∀ k,okp k→ok k) (hfresh:ok W.heap.size):N d e w1 base ok v1 xs:=by
 obtain ⟨b,hb,hle⟩:=hat
 refine ⟨fun k hk=>by rw [hR.1 k hk];exact hfresh,rows,hl,raw_tight hR,fun j x c hx hc=>?_⟩
 refine FK_mono (FK_step (FK_bound (hf j x c hx hc)) (fun k hk hlt=>hg.block k hlt (by simp))) (fun k hk=>⟨hok k hk.1,fun he=>?_⟩)
 rw [hb] at he
 injection he with he
 have:=hk.2
 omega
end
section
variable {P:Program} {ops:Array Oper} {rest:List Oper} {o:Oper} {a:Act} {Q:Exit→Act→World→Prop} {Kc:Act→World→Prop} {α:Type}
theorem N_lit (d:Kd α) {w0 W:World} (base e:Nat) (hgd:o.guard=none) {N':Tmp} (_hd:o.dst=some N') {xs:List α} {inner:List Value} {ok okp:Nat→Prop}
  (hrun:(execOp a.eval o).run P W = .ok (.value (.slice (some ⟨W.heap.size,0,none⟩) xs.length xs.length)) (W.alloc (.cells inner.toArray e)))
  (hrep:Reps (FK d W okp) d.sz xs inner) (hok:∀ k,okp k→ok k) (hfresh:ok W.heap.size) (HB:Below base w0 W) (hbase:base≤W.heap.size) (hm:xs.length≤9223372036854775807)
  (h:∀ v1 w1,N d e w1 base ok v1 xs→Below base w0 w1→W.grownBy w1 none→(∃ b,v1.ownBlock=some b∧W.heap.size≤b)→wpList P ops Q rest (a.put o.dst v1) w1) :
  wpList P ops Q (o :: rest) a W:=by
 refine R_lit (raw d.sz) base e hgd _hd (xs:=chunks d.sz xs.length inner) (inner:=inner) (ok:=fun k=>k=W.heap.size) (okp:=fun _=>False) (by rw [chunks_length];exact hrun) (reps_raw hrep (fun y c hk=>⟨d.K_len (FK_now hk),d.K_one (FK_now hk)⟩)) (fun _ hk=>hk.elim) rfl HB hbase (by rw [chunks_length];exact hm) ?_
 intro v1 w1 hr hb hg hat
 exact h v1 w1 (N_made hr hg hat (chunks_length _ _ _) (fun j y c hy hc=>by rw [chunks_get hc];exact hrep.2 j y hy) hok hfresh) hb hg hat
theorem N_lit_step (d:Kd α) {w0 W:World} (base e:Nat) (hw:Region.wanted o (yielded ops a.tmps)=true) {N':Tmp} (_hd:o.dst=some N') {xs:List α} {inner:List Value} {ok okp:Nat→Prop}
  (hrun:(execOp a.eval o).run P W = .ok (.value (.slice (some ⟨W.heap.size,0,none⟩) xs.length xs.length)) (W.alloc (.cells inner.toArray e)))
  (hrep:Reps (FK d W okp) d.sz xs inner) (hok:∀ k,okp k→ok k) (hfresh:ok W.heap.size) (HB:Below base w0 W) (hbase:base≤W.heap.size) (hm:xs.length≤9223372036854775807)
  (h:∀ v1 w1,N d e w1 base ok v1 xs→Below base w0 w1→W.grownBy w1 none→(∃ b,v1.ownBlock=some b∧W.heap.size≤b)→Kc (a.put o.dst v1) w1) :
  if Region.wanted o (yielded ops a.tmps)=true then Oper.wp P o a W Kc Q else Kc (a.put o.dst undef) W:=by
 refine R_lit_step (raw d.sz) base e hw _hd (xs:=chunks d.sz xs.length inner) (inner:=inner) (ok:=fun k=>k=W.heap.size) (okp:=fun _=>False) (by rw [chunks_length];exact hrun) (reps_raw hrep (fun y c hk=>⟨d.K_len (FK_now hk),d.K_one (FK_now hk)⟩)) (fun _ hk=>hk.elim) rfl HB hbase (by rw [chunks_length];exact hm) ?_
 intro v1 w1 hr hb hg hat
 exact h v1 w1 (N_made hr hg hat (chunks_length _ _ _) (fun j y c hy hc=>by rw [chunks_get hc];exact hrep.2 j y hy) hok hfresh) hb hg hat
end
end Kd
end Go.Proofs.Yw.PrintWords
end
