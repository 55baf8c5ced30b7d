/- Part 7 of what the proof needs. -/
import Derived.Lib.TrailingZeros
import Derived.LaidEql
import Derived.Stop.Asserts
import Derived.Lib.LaidTab
import Derived.Lib.AtoiErrMem
import Derived.Shelf.Strings.SlTrimAscii
import Derived.Test.YtpfnkbnepcchgaaGreatDoorKTEAF
set_option linter.unusedSimpArgs false
set_option linter.unusedVariables false
section
namespace Go.Proofs.Yy.Z
open Go.RowKit Go.Proofs.Yw.PrintWords Go.Proofs.Yw.PrintLast Go.Proofs.Yw.PrintMore
theorem zf2 {w:World} {g:Nat} {t:TypeId} {a0 a1:Value} (h:ae (w.heap[g]? = some (.cells #[a0,a1] t (0,0)))):w.cell? ⟨g,0,none⟩=some a0∧w.cell? ⟨g,1,none⟩=some a1∧w.frozen? ⟨g,0,none⟩=false∧w.frozen? ⟨g,1,none⟩=false:=⟨(ag h.out 0).trans rfl,(ag h.out 1).trans rfl,au h.out 0,au h.out 1⟩
theorem zf4 {w:World} {g:Nat} {t:TypeId} {a0 a1 a2 a3:Value} (h:ae (w.heap[g]? = some (.cells #[a0,a1,a2,a3] t (0,0)))):w.cell? ⟨g,0,none⟩=some a0∧w.cell? ⟨g,1,none⟩=some a1∧w.cell? ⟨g,2,none⟩=some a2∧w.cell? ⟨g,3,none⟩=some a3∧w.frozen? ⟨g,0,none⟩=false∧w.frozen? ⟨g,1,none⟩=false∧w.frozen? ⟨g,2,none⟩=false∧w.frozen? ⟨g,3,none⟩=false:=⟨(ag h.out 0).trans rfl,(ag h.out 1).trans rfl,(ag h.out 2).trans rfl,(ag h.out 3).trans rfl,au h.out 0,au h.out 1,au h.out 2,au h.out 3⟩
theorem zf5 {w:World} {g:Nat} {t:TypeId} {a0 a1 a2 a3 a4:Value} (h:ae (w.heap[g]? = some (.cells #[a0,a1,a2,a3,a4] t (0,0)))):w.cell? ⟨g,0,none⟩=some a0∧w.cell? ⟨g,1,none⟩=some a1∧w.cell? ⟨g,2,none⟩=some a2∧w.cell? ⟨g,3,none⟩=some a3∧w.cell? ⟨g,4,none⟩=some a4∧w.frozen? ⟨g,0,none⟩=false∧w.frozen? ⟨g,1,none⟩=false∧w.frozen? ⟨g,2,none⟩=false∧w.frozen? ⟨g,3,none⟩=false∧w.frozen? ⟨g,4,none⟩=false:=⟨(ag h.out 0).trans rfl,(ag h.out 1).trans rfl,(ag h.out 2).trans rfl,(ag h.out 3).trans rfl,(ag h.out 4).trans rfl,au h.out 0,au h.out 1,au h.out 2,au h.out 3,au h.out 4⟩
theorem zf6 {w:World} {g:Nat} {t:TypeId} {a0 a1 a2 a3 a4 a5:Value} (h:ae (w.heap[g]? = some (.cells #[a0,a1,a2,a3,a4,a5] t (0,0)))):w.cell? ⟨g,0,none⟩=some a0∧w.cell? ⟨g,1,none⟩=some a1∧w.cell? ⟨g,2,none⟩=some a2∧w.cell? ⟨g,3,none⟩=some a3∧w.cell? ⟨g,4,none⟩=some a4∧w.cell? ⟨g,5,none⟩=some a5∧w.frozen? ⟨g,0,none⟩=false∧w.frozen? ⟨g,1,none⟩=false∧w.frozen? ⟨g,2,none⟩=false∧w.frozen? ⟨g,3,none⟩=false∧w.frozen? ⟨g,4,none⟩=false∧w.frozen? ⟨g,5,none⟩=false:=⟨(ag h.out 0).trans rfl,(ag h.out 1).trans rfl,(ag h.out 2).trans rfl,(ag h.out 3).trans rfl,(ag h.out 4).trans rfl,(ag h.out 5).trans rfl,au h.out 0,au h.out 1,au h.out 2,au h.out 3,au h.out 4,au h.out 5⟩
theorem zf8 {w:World} {g:Nat} {t:TypeId} {a0 a1 a2 a3 a4 a5 a6 a7:Value} (h:ae (w.heap[g]? = some (.cells #[a0,a1,a2,a3,a4,a5,a6,a7] t (0,0)))):w.cell? ⟨g,0,none⟩=some a0∧w.cell? ⟨g,1,none⟩=some a1∧w.cell? ⟨g,2,none⟩=some a2∧w.cell? ⟨g,3,none⟩=some a3∧w.cell? ⟨g,4,none⟩=some a4∧w.cell? ⟨g,5,none⟩=some a5∧w.cell? ⟨g,6,none⟩=some a6∧w.cell? ⟨g,7,none⟩=some a7∧w.frozen? ⟨g,0,none⟩=false∧w.frozen? ⟨g,1,none⟩=false∧w.frozen? ⟨g,2,none⟩=false∧w.frozen? ⟨g,3,none⟩=false∧w.frozen? ⟨g,4,none⟩=false∧w.frozen? ⟨g,5,none⟩=false∧w.frozen? ⟨g,6,none⟩=false∧w.frozen? ⟨g,7,none⟩=false:=⟨(ag h.out 0).trans rfl,(ag h.out 1).trans rfl,(ag h.out 2).trans rfl,(ag h.out 3).trans rfl,(ag h.out 4).trans rfl,(ag h.out 5).trans rfl,(ag h.out 6).trans rfl,(ag h.out 7).trans rfl,au h.out 0,au h.out 1,au h.out 2,au h.out 3,au h.out 4,au h.out 5,au h.out 6,au h.out 7⟩
theorem zx {P:Program} {ops:Array Oper} {rest:List Oper} {o:Oper} {a:Act} {Q:Exit→Act→World→Prop} {W:World} (N:Tmp) (t:TypeId) (cs:Array Value)
  (h:∀ g,g=W.heap.size → ∀ w1,w1.heap[g]? = some (.cells cs t (0,0))→Below W.heap.size W w1→wpList P ops Q rest (a.put o.dst (.pointer (some ⟨g,0,none⟩))) w1)
  (hgd:o.guard=none:=by exact rfl) (hd:o.dst=some N:=by exact rfl) (hrun:(execOp a.eval o).run P W = .ok (.value (.pointer (some ⟨W.heap.size,0,none⟩))) (W.alloc (.cells cs t (0,0))):=by first|(go_simp;done)|(go_simp;rfl)):wpList P ops Q (o :: rest) a W :=
 Tc hgd hd hrun h
theorem zJ2 {α0 α1:Type} {a0 b0:α0} {a1 b1:α1} (h:ae (some (a0,a1)=some (b0,b1))):a0=b0∧a1=b1:=by simpa only [Option.some.injEq,Prod.mk.injEq] using h.out
theorem zJ3 {α0 α1 α2:Type} {a0 b0:α0} {a1 b1:α1} {a2 b2:α2} (h:ae (some (a0,a1,a2)=some (b0,b1,b2))):a0=b0∧a1=b1∧a2=b2:=by simpa only [Option.some.injEq,Prod.mk.injEq] using h.out
theorem zJ4 {α0 α1 α2 α3:Type} {a0 b0:α0} {a1 b1:α1} {a2 b2:α2} {a3 b3:α3} (h:ae (some (a0,a1,a2,a3)=some (b0,b1,b2,b3))):a0=b0∧a1=b1∧a2=b2∧a3=b3:=by simpa only [Option.some.injEq,Prod.mk.injEq] using h.out
theorem zJ5 {α0 α1 α2 α3 α4:Type} {a0 b0:α0} {a1 b1:α1} {a2 b2:α2} {a3 b3:α3} {a4 b4:α4} (h:ae (some (a0,a1,a2,a3,a4)=some (b0,b1,b2,b3,b4))):a0=b0∧a1=b1∧a2=b2∧a3=b3∧a4=b4:=by simpa only [Option.some.injEq,Prod.mk.injEq] using h.out
theorem zJ6 {α0 α1 α2 α3 α4 α5:Type} {a0 b0:α0} {a1 b1:α1} {a2 b2:α2} {a3 b3:α3} {a4 b4:α4} {a5 b5:α5} (h:ae (some (a0,a1,a2,a3,a4,a5)=some (b0,b1,b2,b3,b4,b5))):a0=b0∧a1=b1∧a2=b2∧a3=b3∧a4=b4∧a5=b5:=by simpa only [Option.some.injEq,Prod.mk.injEq] using h.out
theorem zJ7 {α0 α1 α2 α3 α4 α5 α6:Type} {a0 b0:α0} {a1 b1:α1} {a2 b2:α2} {a3 b3:α3} {a4 b4:α4} {a5 b5:α5} {a6 b6:α6} (h:ae (some (a0,a1,a2,a3,a4,a5,a6)=some (b0,b1,b2,b3,b4,b5,b6))):a0=b0∧a1=b1∧a2=b2∧a3=b3∧a4=b4∧a5=b5∧a6=b6:=by simpa only [Option.some.injEq,Prod.mk.injEq] using h.out
theorem zh {p q:Prop} (h:q) (k:q→p:=by (intro h_;repeat (first|(with_reducible first|exact h_|exact h_.1|exact h_.2.1|exact h_.2.2.1|exact h_.2.2.2.1|exact h_.2.2.2.2.1|exact h_.2.2.2.2.2.1|exact h_.2.2.2.2.2.2.1|exact h_.2.2.2.2.2.2.2.1|exact h_.2|exact h_.2.2|exact h_.2.2.2|exact h_.2.2.2.2|exact h_.2.2.2.2.2|exact h_.2.2.2.2.2.2|exact h_.2.2.2.2.2.2.2|exact h_.2.2.2.2.2.2.2.2)|(with_reducible refine (cell_far ?hne _).trans ?_;case hne=>exact ae.out (by assumption))))):p:=k h
section
variable {P:Program} {ops:Array Oper} {Q:Exit→Act→World→Prop} {md:Region.Mode} {S:World→Prop} {ds:List Nat}
theorem zu {T:Bool × List (List Nat × List Nat)} (hT:ae (rW md ops=T)) (i:Nat) (N:Option Tmp) {oi:Oper} {fuel:Nat} {l:Array Bool} {a:Act} {w:World}
  (h:∀ K:Act→World→Prop,Shut (∀ a' w',S w'→(S w'→bT P md ops Q S ds fuel (l.setIfInBounds i true) a' w')→K a' w')→if Region.wanted oi (yielded ops a.tmps)=true then Oper.wp P oi a w K Q else K (a.put N undef) w)
  (hi:ops[i]? = some oi:=by exact rfl) (hN:oi.dst=N:=by exact rfl) (hc:(Cm T.2 l.toList == [i] && l.toList.set i true == (l.setIfInBounds i true).toList)=true:=by kernel_rfl) (hd:i ∉ ds:=by decide):bT P md ops Q S ds (fuel+1) l a w :=
 adQ (l.setIfInBounds i true) hi hN (Aq hT.out hc) hd h
end
end Go.Proofs.Yy.Z
end
section
namespace Go.Proofs.Yy.M
open Go.RowKit Go.Proofs.Yw.PrintWords Go.Proofs.Yw.PrintLast Go.Proofs.Yw.PrintMore
section
variable {pre post:List Int} {e:Nat} {w w1:World} {base:Nat} {ok ok':Nat→Prop} {v:Value} {xs:List Int}
def Wd (pre post:List Int) (e:Nat) (w:World) (base:Nat) (ok:Nat→Prop) (v:Value) (xs:List Int):Prop :=
 ∃ g c,v = .slice (some ⟨g,pre.length,none⟩) xs.length c∧xs.length≤c∧0<xs.length∧Kd.R (Kd.int .u64) e w base ok (.slice (some ⟨g,0,none⟩) (pre ++ xs ++ post).length (pre.length+c)) (pre ++ xs ++ post)
theorem Ri (h:Wd pre post e w base ok v xs) (hok:∀ k,ok k→ok' k):Wd pre post e w base ok' v xs:=by
 obtain ⟨g,c,hv,hc,hp,hr⟩:=h
 exact ⟨g,c,hv,hc,hp,Kd.dL hr hok⟩
theorem uj (h:Wd pre post e w base ok v xs) (o:Obj):Wd pre post e (w.alloc o) base ok v xs:=by
 obtain ⟨g,c,hv,hc,hp,hr⟩:=h
 exact ⟨g,c,hv,hc,hp,Kd.dE hr o⟩
theorem xk (h:Wd pre post e w base ok v xs):Wd pre post e w.drew base ok v xs:=by
 obtain ⟨g,c,hv,hc,hp,hr⟩:=h
 exact ⟨g,c,hv,hc,hp,Kd.dY hr⟩
theorem uk (h:Wd pre post e w base ok v xs) (m:Nat):Wd pre post e (w.drewN m) base ok v xs:=by
 obtain ⟨g,c,hv,hc,hp,hr⟩:=h
 exact ⟨g,c,hv,hc,hp,Kd.dn hr m⟩
theorem yD (h:Wd pre post e w base ok v xs):∃ A c,v = .slice A xs.length c:=by
 obtain ⟨g,c,hv,hc,hp,hr⟩:=h
 exact ⟨_,c,hv⟩
theorem yh {A:Option Addr} {n c:Nat} (h:Wd pre post e w base ok (.slice A n c) xs):n=xs.length∧n≤c∧Kd.C (Kd.int .u64) w A xs.length xs:=by
 obtain ⟨g,c',hv,hc,hp,hr⟩:=h
 injection hv with h1 h2 h3
 subst h1 h2 h3
 refine ⟨rfl,hc,?_⟩
 obtain ⟨_,hle,hC⟩:=Kd.aW hr
 have h1:=Kd.Sm (c:=pre.length+c) hC (m:=pre.length) (by simp) hle
 rw [if_neg (by omega)] at h1
 have hd:(pre ++ xs ++ post).drop pre.length=xs ++ post:=by rw [List.append_assoc,List.drop_left]
 rw [hd] at h1
 have h2:=Kd.Zo (m:=xs.length) h1 (by simp)
 rw [List.take_left] at h2
 have ha:(Option.map (fun x=>x.add (pre.length * (Kd.int IntKind.u64).sz)) (some (⟨g,0,none⟩:Addr)))=some (⟨g,pre.length,none⟩:Addr):=by
  have hs:(Kd.int IntKind.u64).sz=1:=rfl
  rw [hs]
  simp [Addr.add]
  intro h
  rw [h]
  rfl
 rw [ha] at h2
 exact h2
theorem Gj (h:Wd pre post e w base ok v xs) (hp:0<xs.length):∃ g cap,v = .slice (some ⟨g,pre.length,none⟩) xs.length cap∧base≤g∧g<w.heap.size ∧ ∃ cells,w.heap[g]? = some (.cells cells e (0,0)):=by
 obtain ⟨g,c,hv,hc,hp,hr⟩:=h
 obtain ⟨g',c',e',hb,hl,hcells⟩:=Kd.oD hr (by simp;omega)
 injection e' with e1 e2 e3
 injection e1 with e1
 injection e1 with e1
 subst e1
 exact ⟨g,c,hv,hb,hl,hcells⟩
theorem Jh {g o n c:Nat} (h:Wd pre post e w base ok (.slice (some ⟨g,o,none⟩) n c) xs):ok g:=by
 obtain ⟨g',c',hv,hc,hp,hr⟩:=h
 injection hv with e1 e2 e3
 injection e1 with e1
 injection e1 with e1 e2
 subst e1
 exact hr.1 g rfl
theorem Uf (i:Int) (h0:0≤i) (hi:i<(xs.length:Int)):rd (pre ++ xs ++ post) ((pre.length:Int)+i)=rd xs i:=by
 have e1:((pre.length:Int)+i).toNat=pre.length+i.toNat:=by omega
 unfold rd
 rw [e1,List.append_assoc]
 simp only [List.getD_eq_getElem?_getD]
 rw [List.getElem?_append_right (by omega),List.getElem?_append_left (by omega),Nat.add_sub_cancel_left]
theorem yC {g o n c:Nat} (h:Wd pre post e w base ok (.slice (some ⟨g,o,none⟩) n c) xs) (i:Int) (h0:0≤i) (hi:i<(n:Int)):w.cell? ⟨g,pre.length+i.toNat,none⟩=some (.int .u64 (rd xs i))∧w.frozen? ⟨g,pre.length+i.toNat,none⟩=false:=by
 obtain ⟨g',c',hv,hc,hp,hr⟩:=h
 injection hv with e1 e2 e3
 injection e1 with e1
 injection e1 with e1 e4
 subst e1 e2 e3 e4
 obtain ⟨a,b⟩:=Kd.iI 0 hr ((pre.length:Int)+i) (by omega) (by simp;omega)
 have e5:((pre.length:Int)+i).toNat=pre.length+i.toNat:=by omega
 rw [e5] at a b
 refine ⟨a.trans ?_,b⟩
 exact congrArg (fun z=>some (Value.int IntKind.u64 z)) (Uf i h0 hi)
theorem OV (i:Nat) (hi:i<xs.length) (x:Int):(pre ++ xs ++ post).set (pre.length+i) x=pre ++ xs.set i x ++ post:=by
 rw [List.append_assoc,List.set_append_right _ _ (by omega),Nat.add_sub_cancel_left,List.set_append_left _ _ hi, ← List.append_assoc]
theorem Gs {g o n c:Nat} (h:Wd pre post e w base ok (.slice (some ⟨g,o,none⟩) n c) xs) (i:Int) (hi:i.toNat<xs.length) (x:Int) :
  Wd pre post e (w.setCell ⟨g,pre.length+i.toNat,none⟩ (.int .u64 x)) base ok (.slice (some ⟨g,o,none⟩) n c) (xs.set i.toNat x)∧w.grownBy (w.setCell ⟨g,pre.length+i.toNat,none⟩ (.int .u64 x)) (some g):=by
 obtain ⟨g',c',hv,hc,hp,hr⟩:=h
 injection hv with e1 e2 e3
 injection e1 with e1
 injection e1 with e1 e4
 subst e1 e2 e3 e4
 obtain ⟨a,b⟩:=Kd.mD hr ((pre.length+i.toNat:Nat):Int) x
 rw [Int.toNat_natCast] at a b
 rw [OV _ hi] at a
 refine ⟨⟨g,c,by rw [List.length_set],by rw [List.length_set];exact hc,by rw [List.length_set];exact hp,?_⟩,b⟩
 have e6:(pre ++ xs ++ post).length=(pre ++ xs.set i.toNat x ++ post).length:=by simp
 rw [← e6]
 exact a
theorem akV {g c:Nat} (h:Kd.R (Kd.int .u64) e w base ok (.slice (some ⟨g,0,none⟩) (pre ++ xs ++ post).length (pre.length+c)) (pre ++ xs ++ post)) (hp:0<xs.length):Wd pre post e w base ok (.slice (some ⟨g,pre.length,none⟩) xs.length c) xs:=by
 obtain ⟨_,hle,_⟩:=Kd.aW h
 simp at hle
 exact ⟨g,c,rfl,by omega,hp,h⟩
theorem abh {g o n c:Nat} (h:Wd pre post e w base ok (.slice (some ⟨g,o,none⟩) n c) xs):Kd.R (Kd.int .u64) e w base ok (.slice (some ⟨g,0,none⟩) (pre ++ xs ++ post).length (pre.length+c)) (pre ++ xs ++ post):=by
 obtain ⟨g',c',hv,hc,hp,hr⟩:=h
 injection hv with e1 e2 e3
 injection e1 with e1
 injection e1 with e1 e4
 subst e1 e2 e3 e4
 exact hr
end
def aeA (u:Value) (lo hi:Int):Value:=match u with
 | .slice (some ⟨g,_,_⟩) _ c => .slice (some ⟨g,lo.toNat,none⟩) (hi.toNat - lo.toNat) (c - lo.toNat)
 | v=>v
theorem Rx {P:Program} (t e:TypeId) (kl kh:IntKind) {i:TypeInfo} (ht:P.underlying t=some (.slice e)) (hi:P.info? e=some i) (hsz:i.size=1) (g n c:Nat) (lo hi':Int) (h0:0≤lo) (h1:lo<hi') (h2:hi'≤n) (hc:n≤c) :
  ∀ W:World,(Instr.slice t (.slice (some ⟨g,0,none⟩) n c) (some (.int kl lo)) (some (.int kh hi')) none).run P W = .ok (.slice (some ⟨g,lo.toNat,none⟩) (hi'.toNat - lo.toNat) (c - lo.toNat)) W:=by
 intro W
 rw [aby t e kl kh ht hi 1 hsz (some ⟨g,0,none⟩) n c lo hi' h0 (by omega) h2 hc W]
 have hne:c≠lo.toNat:=by omega
 have ha:(⟨g,0,none⟩:Addr).add (lo.toNat * 1)=⟨g,lo.toNat,none⟩:=by
  by_cases h:lo.toNat=0
  ·rw [h];rfl
  ·simp [Addr.add]
   omega
 rw [Nat.mul_one] at ha
 simp [hne,ha]
end Go.Proofs.Yy.M
end
section
namespace Go.Proofs.Yy.Fx
open Go.Shelf Go.RowKit Go.Sort Go.Lib
def Tab (w : World) : Prop := Lib.TabIs Tryz.prog w "internal/strconv.uint64pow10" .u64 Lib.pow10Tab
def Xn:List Int:=Lib.deBruijn64tab.map fun n:Nat=>(n:Int)
def Tz (w : World) : Prop := Lib.TabIs Tryz.prog w "math/bits.deBruijn64tab" .u8 Xn
def Laid (w:World):Prop:=Tab w∧Tz w
theorem Laid.below {w w':World} (h:Laid w) (hb:Below w.heap.size w w'):Laid w':=⟨Lib.tabBelow_of_tabIs h.1 w' hb,Lib.tabBelow_of_tabIs h.2 w' hb⟩
theorem below_grow (w:World) (k:Nat) (os:Array Obj):Below w.heap.size w (grow (w.drewN k) os) :=
 ⟨rfl,rfl,rfl,by show w.heap.size≤(w.heap ++ os).size;simp,fun i hi=>by show (w.heap ++ os)[i]? = _;rw [Array.getElem?_append_left hi]⟩
end Go.Proofs.Yy.Fx
end
section
namespace Go.Proofs.Yy.Fa
open Go.RowKit Go.Extern.Stop Go.Stop Go.Extern
theorem akH:∃ ms,Tryz.prog.underlying 27=some (.interface ms):=⟨_,Tryz.underlying27⟩
theorem afg:Tryz.prog.underlying 64=some (.int .i64):=by kernel_rfl
theorem ae4:(Tryz.prog.info? 64).map (·.comparable)=some true:=by kernel_rfl
def Gl (w:World) (g:Nat) (line at' code:Int):Prop:=w.heap[g]? = some (.cells #[.int .i64 line, .int .i64 at', .iface 64 (.int .i64 code)] 126 (0,0))
end Go.Proofs.Yy.Fa
end
section
namespace Go.Proofs.Yy.SC
theorem oI:∀ (n u:Nat),u<10 ^ (n+1)→(Lib.decDigits u).length≤n+1
 | 0,u,h=>by rw [Lib.decDigits,dif_pos (by simpa using h)];simp
 | n+1,u,h=>by
  by_cases h1:u<10
  ·rw [Lib.decDigits,dif_pos h1];simp
  ·rw [Lib.decDigits,dif_neg h1]
   have:=oI n (u / 10) (by rw [Nat.div_lt_iff_lt_mul (by omega)];rw [Nat.pow_succ] at h;exact h)
   simp only [List.length_append,List.length_cons,List.length_nil]
   omega
end Go.Proofs.Yy.SC
end
section
namespace Go.Proofs.Yw.PrintWords
open Go.RowKit
section
variable {w w' u:World} {m B g:Nat} {o:Obj} {row:Option Nat} {S:Nat→Prop} {a:Addr} {v:Value}
theorem wG (hq:w.drewN m=w') (h:Below B u w):Below B u w':=by subst hq;exact aI h m
end
namespace Kd
section
variable {α:Type} {d:Kd α} {e base n m:Nat} {ok:Nat→Prop} {w w':World} {v:Value} {A:Option Addr} {xs:List α}
theorem adS (hq:w.drewN m=w') (h:d.R e w base ok v xs):d.R e w' base ok v xs:=by subst hq;exact dn h m
end
end Kd
end Go.Proofs.Yw.PrintWords
end
section
set_option maxHeartbeats 8000000
set_option maxRecDepth 100000
namespace Go.Proofs.Yy.PTx
open Go.RowKit Go.Proofs.Yy.Z Go.Proofs.Yw.PrintWords Go.Proofs.Yw.PrintLast Go.Proofs.Yw.PrintMore
open Go.Proofs.Yy.M
attribute [local go_sem] dw dQ lD lF lC lG
attribute [local go_sem] gy gz ja jc fC fD gQ gK
def qm:Option Int→Value
 | none => .nilIface
 | some c => .iface 64 (.int .i64 c)
theorem ak:qm none = .nilIface:=rfl
theorem aj (c:Int):qm (some c) = .iface 64 (.int .i64 c):=rfl
theorem info3:(Tryz.prog.info? 3).map (fun i=>(i.zero,i.size,i.bytes))=some (some (.int .i64 0),1,8):=by kernel_rfl
theorem info5:(Tryz.prog.info? 5).map (fun i=>(i.zero,i.size,i.bytes))=some (some (.int .u8 0),1,1):=by kernel_rfl
theorem info25:(Tryz.prog.info? 25).map (fun i=>(i.zero,i.size,i.bytes))=some (some (.int .u64 0),1,8):=by kernel_rfl
def Gm (xs:List (List Int)) (i:Int):(List Int):=xs.getD i.toNat ([]:List Int)
theorem ak3 {w:World} {A:Option Addr} {n:Nat} {xs:List (List Int)} (h:Kd.C (Kd.slice 25 (Kd.int .u64)) w A n xs) (i:Int) (h0:0≤i) (h1:i<n):∃ ad A0 c0,A=some ad∧w.cell? (ad.add i.toNat)=some (.slice A0 (Gm xs i).length c0)∧(Gm xs i).length≤c0∧(Kd.int .u64).C w A0 (Gm xs i).length (Gm xs i):=by
 obtain ⟨ad,c,e,_,hK,hc0⟩:=Kd.X6 h ([]:List Int) i h0 h1
 have hc:∀ j u,c[j]? = some u→w.cell? (ad.add (i.toNat * 1+j))=some u:=hc0
 obtain ⟨A0,c0,rfl,l0,g0⟩:=hK
 exact ⟨ad,A0,c0,e,by have hq:=hc 0 _ rfl;rwa [Nat.mul_one,Nat.add_zero] at hq,l0,g0⟩
theorem aeT (d:Nat) (w:World) (x0 y0:Bool) (x1 y1:Bool) (x2 y2:ByteArray) (x3 y3:Int) :
  (Op.equalIn (d+2) 23 (.agg #[.bool x0, .bool x1, .string x2, .int .i64 x3]) (.agg #[.bool y0, .bool y1, .string y2, .int .i64 y3])).run Tryz.prog w = .ok (x0 == y0 && (x1 == y1 && (x2.toList == y2.toList && (x3 == y3)))) w:=by
 refine RI Tryz.underlying23 (by kernel_rfl) ?_
 refine qE (by rfl) (by go_simp;rfl) (by go_simp;rfl) (by go_simp) ?_
 refine qE (by rfl) (by go_simp;rfl) (by go_simp;rfl) (by go_simp) ?_
 refine qE (by rfl) (by go_simp;rfl) (by go_simp;rfl) (by go_simp) ?_
 exact Gn (by rfl) (by go_simp;rfl) (by go_simp;rfl) (by go_simp)
theorem afk (d:Nat) (w:World) (x0 y0:Int) (x1 y1:Bool) (x2 y2:Int) (x3 y3:Int) (x4 y4:Int) (x5 y5:Bool) :
  (Op.equalIn (d+2) 81 (.agg #[.int .i64 x0, .bool x1, .int .i64 x2, .int .u64 x3, .int .u64 x4, .bool x5]) (.agg #[.int .i64 y0, .bool y1, .int .i64 y2, .int .u64 y3, .int .u64 y4, .bool y5])).run Tryz.prog w = .ok (x0 == y0 && (x1 == y1 && (x2 == y2 && (x3 == y3 && (x4 == y4 && (x5 == y5)))))) w:=by
 refine RI Tryz.underlying81 (by kernel_rfl) ?_
 refine qE (by rfl) (by go_simp;rfl) (by go_simp;rfl) (by go_simp) ?_
 refine qE (by rfl) (by go_simp;rfl) (by go_simp;rfl) (by go_simp) ?_
 refine qE (by rfl) (by go_simp;rfl) (by go_simp;rfl) (by go_simp) ?_
 refine qE (by rfl) (by go_simp;rfl) (by go_simp;rfl) (by go_simp) ?_
 refine qE (by rfl) (by go_simp;rfl) (by go_simp;rfl) (by go_simp) ?_
 exact Gn (by rfl) (by go_simp;rfl) (by go_simp;rfl) (by go_simp)
def cO.l0:Nat→ByteArray→Int→Option (Int)
  | 0,_,_=>none
  | k+1,x0,x1=>if x1<(x0.size:Int) then (if 0≤x1 then (if (bt x0 x1) ≥ 48 then (if (bt x0 x1)≤57 then (cO.l0 k x0 (wrap64 (x1+1))) else (some x1)) else (some x1)) else (none)) else (some x1)
def cO.f (k:Nat) (a0:ByteArray) (a1:Int):Option (Int):=cO.l0 k a0 a1
theorem cO.calls (k:Nat) (a0:ByteArray) (a1:Int) (r:Int) (w:World) (h:cO.f k a0 a1=some r) :
    Calls Tryz.prog 66 #[.string a0, .int .i64 a1] w fun e w'=>e = .returned (.int .i64 r)∧dX w w':=by
 have H:=am h
 unfold cO.f at H
 clear h
 go_enter Tryz.func66,Tryz.ntmps66
 go_wp2
 go_loopg [1] k (fun kq v1 w' => ∃ (GU:Int),v1 = .int .i64 GU∧ae (cO.l0 kq a0 GU=some r)∧ae (kq≤k)∧dX w w')
 case atStart=>exact ⟨(a1),z1,H,zL,z4⟩
 clear H
 obtain ⟨GU,rfl,H,HK1,⟨m1,rfl⟩⟩:=hrel
 obtain _|k1:=gk
 ·exact zz H rfl
 simp only [cO.l0] at H
 replace H:=zsd H
 rcases H with ⟨pg,H⟩|⟨pg,H⟩
 replace H:=zid H
 obtain ⟨kM,H⟩:=H
 replace H:=zf H
 rcases H with ⟨rF,H⟩|⟨rF,H⟩
 replace H:=zsd H
 rcases H with ⟨uD,H⟩|⟨uD,H⟩
 have p5:0≤(GU:Int):=zD
 have q5:GU<(a0.size:Int):=zD
 have hx5:=uC a0 GU
 replace p5:=eq_true p5
 replace q5:=eq_true q5
 have p7:0≤(GU:Int):=zD
 have q7:GU<(a0.size:Int):=zD
 have hx7:=uC a0 GU
 replace p7:=eq_true p7
 replace q7:=eq_true q7
 rotate_left
 obtain rfl:=Option.some.inj H.out
 have p5:0≤(GU:Int):=zD
 have q5:GU<(a0.size:Int):=zD
 have hx5:=uC a0 GU
 replace p5:=eq_true p5
 replace q5:=eq_true q5
 have p7:0≤(GU:Int):=zD
 have q7:GU<(a0.size:Int):=zD
 have hx7:=uC a0 GU
 replace p7:=eq_true p7
 replace q7:=eq_true q7
 rotate_left
 obtain rfl:=Option.some.inj H.out
 have p5:0≤(GU:Int):=zD
 have q5:GU<(a0.size:Int):=zD
 have hx5:=uC a0 GU
 replace p5:=eq_true p5
 replace q5:=eq_true q5
 rotate_left
 obtain rfl:=Option.some.inj H.out
 rotate_left
 all_goals (go_wp2)
 ·go_roundg k1
  case measure=>have:=HK1.out;omega
  case rel=>exact ⟨(wrap64 (GU+1)),z1,H,(zH HK1),z4⟩
 ·go_ret
  exact ⟨z1,z4⟩
 ·go_ret
  exact ⟨z1,z4⟩
 go_ret
 exact ⟨z1,z4⟩
def bW.f (k:Nat) (dW:Bool) (dK:Bool) (gI:ByteArray) (gW:Int):Option (Bool):=if dW=true then (if dK=true then (some false) else (if gI.toList=([]:List UInt8) then (some (gW == 0)) else (some false))) else ((cO.f k gI 0).bind fun asr=>(if gI.toList=([]:List UInt8) then (some false) else (if (gI.size:Int)≤4096 then (if asr=(gI.size:Int) then (if gW ≥ (-1000000) then (some (decide (gW≤1000000))) else (some false)) else (some false)) else (some false))))
theorem bW.calls (k:Nat) (dW:Bool) (dK:Bool) (gI:ByteArray) (gW:Int) (r:Bool) (w:World) (h:bW.f k dW dK gI gW=some r) :
    Calls Tryz.prog 28 #[.agg #[.bool dW, .bool dK, .string gI, .int .i64 gW]] w fun e w'=>e = .returned (.bool r)∧Below w.heap.size w w':=by
 have Ql:=Tryz.underlying23
 have HB:=am (Below.refl w.heap.size w)
 have H:=am h
 unfold bW.f at H
 clear h
 cases dW
 replace H:=zb0 H
 replace H:=zo H
 obtain ⟨asr,A11,H⟩:=H
 replace H:=zsk H
 rcases H with ⟨nO,rH,H⟩|⟨nO,rH,c12,H⟩
 obtain rfl:=Option.some.inj H.out
 rotate_left
 replace H:=zs H
 rcases H with ⟨c15,H⟩|⟨c15,H⟩
 have Bf:decide ((gI.size:Int)≤4096)=true:=decide_eq_true c15
 have Qm:decide (gI.size≤4096)=true:=decide_eq_true (by omega)
 clear c15
 replace H:=zsk H
 rcases H with ⟨Dj,Qn,H⟩|⟨Dj,Qn,c16,H⟩
 replace H:=zf H
 rcases H with ⟨Dk,H⟩|⟨Dk,H⟩
 obtain rfl:=Option.some.inj H.out
 rotate_left
 obtain rfl:=Option.some.inj H.out
 rotate_left
 obtain rfl:=Option.some.inj H.out
 rotate_left
 have Bf:decide ((gI.size:Int)≤4096)=false:=decide_eq_false c15
 have Qm:decide (gI.size≤4096)=false:=decide_eq_false (by omega)
 clear c15
 obtain rfl:=Option.some.inj H.out
 rotate_left
 replace H:=zb1 H
 cases dK
 replace H:=zb0 H
 replace H:=zsk H
 rcases H with ⟨rF,Bg,H⟩|⟨rF,Bg,c6,H⟩
 obtain rfl:=Option.some.inj H.out
 rotate_left
 obtain rfl:=Option.some.inj H.out
 rotate_left
 replace H:=zb1 H
 obtain rfl:=Option.some.inj H.out
 rotate_left
 all_goals (go_enter Tryz.func28,Tryz.ntmps28;go_wp2_with (first|((with_reducible refine ay (N:=1) rfl ?_);(try (refine kY (by rfl) ?_;dsimp only));refine zx 1 23 #[.bool false, .bool dK, .string gI, .int .i64 gW] ?_;intro aft hg w13 hbox hb;have UE:=am (hbox);have afu:=zG hg HB;have afv:=zG hg HB;replace HB:=zBs HB hb;clear hb hbox hg;obtain ⟨_,_,_,_,_,_,_,_⟩:=zf4 UE)|((with_reducible refine af (f:=66) rfl ?_);refine zc (some 21) Tryz.func66 _ (cO.calls _ _ _ _ _ A11.out) ?_;rintro e w' ⟨rfl,⟨nd,rfl⟩⟩;refine ⟨_,rfl,?_⟩)|((with_reducible refine ay (N:=1) rfl ?_);(try (refine kY (by rfl) ?_;dsimp only));refine zx 1 23 #[.bool true, .bool false, .string gI, .int .i64 gW] ?_;intro aft hg w7 hbox hb;have UE:=am (hbox);have afu:=zG hg HB;have afv:=zG hg HB;replace HB:=zBs HB hb;clear hb hbox hg;obtain ⟨_,_,_,_,_,_,_,_⟩:=zf4 UE)|((with_reducible refine ay (N:=1) rfl ?_);(try (refine kY (by rfl) ?_;dsimp only));refine zx 1 23 #[.bool true, .bool true, .string gI, .int .i64 gW] ?_;intro aft hg w4 hbox hb;have UE:=am (hbox);have afu:=zG hg HB;have afv:=zG hg HB;replace HB:=zBs HB hb;clear hb hbox hg;obtain ⟨_,_,_,_,_,_,_,_⟩:=zf4 UE)))
 ·go_ret
  exact ⟨z2,zB HB⟩
 ·go_ret
  exact ⟨z2,zB HB⟩
 ·go_ret
  exact ⟨z2,zB HB⟩
 ·go_ret
  exact ⟨z2,zB HB⟩
 ·go_ret
  exact ⟨z2,zB HB⟩
 ·go_ret
  exact ⟨z2,zB HB⟩
 ·go_ret
  exact ⟨z2,zB HB⟩
 go_ret
 exact ⟨z2,zB HB⟩
def fK.f (a0:Int):Option (Bool):=if a0=8 then (some true) else (if a0=16 then (some true) else (if a0=32 then (some true) else (some (a0 == 64))))
theorem fK.calls (a0:Int) (r:Bool) (w:World) (h:fK.f a0=some r) :
    Calls Tryz.prog 36 #[.int .i64 a0] w fun e w'=>e = .returned (.bool r)∧dX w w':=by
 have H:=am h
 unfold fK.f at H
 clear h
 replace H:=zsk H
 rcases H with ⟨uU,LJ,H⟩|⟨uU,LJ,c2,H⟩
 obtain rfl:=Option.some.inj H.out
 rotate_left
 replace H:=zsk H
 rcases H with ⟨pg,Jv,H⟩|⟨pg,Jv,c3,H⟩
 obtain rfl:=Option.some.inj H.out
 rotate_left
 replace H:=zsk H
 rcases H with ⟨kM,rY,H⟩|⟨kM,rY,c4,H⟩
 obtain rfl:=Option.some.inj H.out
 rotate_left
 obtain rfl:=Option.some.inj H.out
 rotate_left
 all_goals (go_enter Tryz.func36,Tryz.ntmps36;go_wp2)
 ·go_ret
  exact ⟨z1,z4⟩
 ·go_ret
  exact ⟨z1,z4⟩
 ·go_ret
  exact ⟨z1,z4⟩
 go_ret
 exact ⟨z1,z4⟩
def di.l0:Nat→Int→Int→Int→Option (Int)
  | 0,_,_,_=>none
  | k+1,x0,x3,x4=>if x4<x0 then (di.l0 k x0 (IntKind.u64.wrap (2 * x3)) (wrap64 (x4+1))) else (some x3)
def di.f (k:Nat) (a0:Int):Option (Int):=di.l0 k a0 1 0
theorem di.calls (k:Nat) (a0:Int) (r:Int) (w:World) (h:di.f k a0=some r) :
    Calls Tryz.prog 27 #[.int .i64 a0] w fun e w'=>e = .returned (.int .u64 r)∧dX w w':=by
 have H:=am h
 unfold di.f at H
 clear h
 go_enter Tryz.func27,Tryz.ntmps27
 go_wp2
 go_loopg [3,4] k (fun kq v3 v4 w' => ∃ (gY:Int) (wP:Int),v3 = .int .u64 gY∧v4 = .int .i64 wP∧ae (di.l0 kq a0 gY wP=some r)∧ae (kq≤k)∧dX w w')
 case atStart=>exact ⟨(1),(0),z1,z1,H,zL,z4⟩
 clear H
 obtain ⟨gY,wP,rfl,rfl,H,HK1,⟨m1,rfl⟩⟩:=hrel
 obtain _|k1:=gk
 ·exact zz H rfl
 simp only [di.l0] at H
 replace H:=zsd H
 rcases H with ⟨uU,H⟩|⟨uU,H⟩
 rotate_left
 obtain rfl:=Option.some.inj H.out
 rotate_left
 all_goals (go_wp2)
 ·go_roundg k1
  case measure=>have:=HK1.out;omega
  case rel=>exact ⟨(IntKind.u64.wrap (2 * gY)),(wrap64 (wP+1)),z1,z1,H,(zH HK1),z4⟩
 go_ret
 exact ⟨z1,z4⟩
def bK.f (l0:List Int) (a1:Int):Option (Int):=if a1<(l0.length:Int) then (if 0≤a1 then (some (rd l0 a1)) else (none)) else (some 0)
theorem bK.calls (A0:Option Addr) (c0:Nat) (l0:List Int) (a1:Int) (r:Int) (w:World) (hr0:Kd.C (Kd.int .i64) w A0 l0.length l0) (hc0:l0.length≤c0) (h:bK.f l0 a1=some r) :
    Calls Tryz.prog 138 #[.slice A0 l0.length c0, .int .i64 a1] w fun e w'=>e = .returned (.int .i64 r)∧dX w w':=by
 have HR0:=am hr0
 have HC0:=am hc0
 clear hr0 hc0
 have H:=am h
 unfold bK.f at H
 clear h
 replace H:=zsd H
 rcases H with ⟨pg,H⟩|⟨pg,H⟩
 replace H:=zid H
 obtain ⟨kM,H⟩:=H
 obtain rfl:=Option.some.inj H.out
 obtain ⟨aFr,aFs,awU,rfl,ak5⟩:=zA (Kd.dH HR0.out a1)
 rotate_left
 obtain rfl:=Option.some.inj H.out
 rotate_left
 all_goals (go_enter Tryz.func138,Tryz.ntmps138;go_wp2)
 ·go_ret
  exact ⟨z1,z4⟩
 go_ret
 exact ⟨z1,z4⟩
def bg.l0:Nat→List Int→Int→List Int→Int→Int→Option (List Int)
  | 0,_,_,_,_,_=>none
  | k+1,x0,x1,x5,x6,x7=>if x7<(x0.length:Int) then (if x1 > 0 then ((bK.f x0 x7).bind fun abG=>(if x5.length<17592186044416 then (bg.l0 k x0 x1 (x5 ++ [Int.tmod (wrap64 ((wrap64 (abG * x1))+x6)) 16777216]) (wrap64 (Int.tdiv (wrap64 ((wrap64 (abG * x1))+x6)) 16777216)) (wrap64 (x7+1))) else (none))) else (if x6 > 0 then ((bK.f x0 x7).bind fun abH=>(if x5.length<17592186044416 then (bg.l0 k x0 x1 (x5 ++ [Int.tmod (wrap64 ((wrap64 (abH * x1))+x6)) 16777216]) (wrap64 (Int.tdiv (wrap64 ((wrap64 (abH * x1))+x6)) 16777216)) (wrap64 (x7+1))) else (none))) else (some x5))) else (if x6 > 0 then ((bK.f x0 x7).bind fun abI=>(if x5.length<17592186044416 then (bg.l0 k x0 x1 (x5 ++ [Int.tmod (wrap64 ((wrap64 (abI * x1))+x6)) 16777216]) (wrap64 (Int.tdiv (wrap64 ((wrap64 (abI * x1))+x6)) 16777216)) (wrap64 (x7+1))) else (none))) else (some x5))
def bg.f (k:Nat) (l0:List Int) (a1:Int):Option (List Int):=bg.l0 k l0 a1 ([]:List Int) 0 0
theorem bg.calls (k:Nat) (A0:Option Addr) (c0:Nat) (l0:List Int) (a1:Int) (r:List Int) (w:World) (hr0:Kd.C (Kd.int .i64) w A0 l0.length l0) (hc0:l0.length≤c0) (h:bg.f k l0 a1=some r) :
    Calls Tryz.prog 82 #[.slice A0 l0.length c0, .int .i64 a1] w fun e w' => ∃ v0_:Value,e = .returned (v0_)∧Kd.R (Kd.int .i64) 3 w' w.heap.size (fun _=>True) v0_ r∧Below w.heap.size w w':=by
 have HR0:=am hr0
 have HC0:=am hc0
 clear hr0 hc0
 have HB:=am (Below.refl w.heap.size w)
 have H:=am h
 unfold bg.f at H
 clear h
 go_enter Tryz.func82,Tryz.ntmps82
 go_wp2
 go_loopg [5,6,7] k (fun kq v5 v6 v7 w' => ∃ (ig:List Int) (lX:Int) (kR:Int),v6 = .int .i64 lX∧v7 = .int .i64 kR∧ae (bg.l0 kq l0 a1 ig lX kR=some r)∧ae (kq≤k)∧ae (Kd.R (Kd.int .i64) 3 w' w.heap.size (fun _=>True) v5 ig)∧ae (Below w.heap.size w w'))
 case atStart=>exact ⟨(([]:List Int)),(0),(0),z1,z1,H,zL,⟨zN⟩,⟨zB HB⟩⟩
 clear H
 obtain ⟨ig,lX,kR,rfl,rfl,H,HK1,fA,HB⟩:=hrel
 obtain _|k1:=gk
 ·exact zz H rfl
 simp only [bg.l0] at H
 replace H:=zsd H
 rcases H with ⟨pg,H⟩|⟨pg,H⟩
 replace H:=Em H
 rcases H with ⟨kM,H⟩|⟨kM,H⟩
 replace H:=zo H
 obtain ⟨abG,A5,H⟩:=H
 replace H:=zil H
 obtain ⟨ak6,H⟩:=H
 generalize afw:(ig ++ [Int.tmod (wrap64 ((wrap64 (abG * a1))+lX)) 16777216]:List Int)=awV at H
 have ak7:=zY afw
 clear afw
 rotate_left
 replace H:=Em H
 rcases H with ⟨uD,H⟩|⟨uD,H⟩
 replace H:=zo H
 obtain ⟨abH,A9,H⟩:=H
 replace H:=zil H
 obtain ⟨UF,H⟩:=H
 generalize afx:(ig ++ [Int.tmod (wrap64 ((wrap64 (abH * a1))+lX)) 16777216]:List Int)=awW at H
 have ak8:=zY afx
 clear afx
 rotate_left
 obtain rfl:=Option.some.inj H.out
 rotate_left
 replace H:=Em H
 rcases H with ⟨nO,H⟩|⟨nO,H⟩
 replace H:=zo H
 obtain ⟨abI,A13,H⟩:=H
 replace H:=zil H
 obtain ⟨ak9,H⟩:=H
 generalize afy:(ig ++ [Int.tmod (wrap64 ((wrap64 (abI * a1))+lX)) 16777216]:List Int)=awX at H
 have ala:=zY afy
 clear afy
 rotate_left
 obtain rfl:=Option.some.inj H.out
 rotate_left
 all_goals (go_wp2_with (first|((with_reducible refine af (f:=138) rfl ?_);refine zc (some 25) Tryz.func138 #[.slice A0 l0.length c0, .int .i64 kR] (bK.calls _ _ _ _ _ _ (zC (Kd.kw HR0.out HB.out)) HC0.out A5.out) ?_;rintro e w' ⟨rfl,⟨nd,rfl⟩⟩;refine ⟨_,rfl,?_⟩)|((with_reducible refine fG (b := .append) (xs:=#[.tmp 30, .tmp 33]) rfl ?_);at_builtin;refine Kd.mX (Kd.int .i64) (w0:=w) w.heap.size rfl (.tmp 30) (.tmp 33) 70 3 (.int .i64 0) 8 rfl Tryz.underlying70 info3 rfl (by decide) (by omega) u5 ig (Int.tmod (wrap64 ((wrap64 (abG * a1))+lX)) 16777216) [.int .i64 (Int.tmod (wrap64 ((wrap64 (abG * a1))+lX)) 16777216)] (fun _=>True) (fun _=>False) rfl rfl ?aP (fun _ hk=>hk.elim) ?aF ?aO ?aB ?aS ?aL ?_;(case aP=>exact rfl);(case aB=>exact (zB HB));(case aF=>exact (fun _ _=>trivial));(case aO=>exact (zR fA));(case aS=>exact (zS HB));(case aL=>have:=ak6.out;omega);intro aFt w7 ho hb hg hat;rw [← ak7.out] at ho;replace HB:=am (hb);have alb:=am (ho);clear fA ho hb hg hat)|((with_reducible refine af (f:=138) rfl ?_);refine zc (some 25) Tryz.func138 #[.slice A0 l0.length c0, .int .i64 kR] (bK.calls _ _ _ _ _ _ (zC (Kd.kw HR0.out HB.out)) HC0.out A9.out) ?_;rintro e w' ⟨rfl,⟨nd,rfl⟩⟩;refine ⟨_,rfl,?_⟩)|((with_reducible refine fG (b := .append) (xs:=#[.tmp 30, .tmp 33]) rfl ?_);at_builtin;refine Kd.mX (Kd.int .i64) (w0:=w) w.heap.size rfl (.tmp 30) (.tmp 33) 70 3 (.int .i64 0) 8 rfl Tryz.underlying70 info3 rfl (by decide) (by omega) u5 ig (Int.tmod (wrap64 ((wrap64 (abH * a1))+lX)) 16777216) [.int .i64 (Int.tmod (wrap64 ((wrap64 (abH * a1))+lX)) 16777216)] (fun _=>True) (fun _=>False) rfl rfl ?aP (fun _ hk=>hk.elim) ?aF ?aO ?aB ?aS ?aL ?_;(case aP=>exact rfl);(case aB=>exact (zB HB));(case aF=>exact (fun _ _=>trivial));(case aO=>exact (zR fA));(case aS=>exact (zS HB));(case aL=>have:=UF.out;omega);intro aFu w11 ho hb hg hat;rw [← ak8.out] at ho;replace HB:=am (hb);have alc:=am (ho);clear fA ho hb hg hat)|((with_reducible refine af (f:=138) rfl ?_);refine zc (some 25) Tryz.func138 #[.slice A0 l0.length c0, .int .i64 kR] (bK.calls _ _ _ _ _ _ (zC (Kd.kw HR0.out HB.out)) HC0.out A13.out) ?_;rintro e w' ⟨rfl,⟨nd,rfl⟩⟩;refine ⟨_,rfl,?_⟩)|((with_reducible refine fG (b := .append) (xs:=#[.tmp 30, .tmp 33]) rfl ?_);at_builtin;refine Kd.mX (Kd.int .i64) (w0:=w) w.heap.size rfl (.tmp 30) (.tmp 33) 70 3 (.int .i64 0) 8 rfl Tryz.underlying70 info3 rfl (by decide) (by omega) u5 ig (Int.tmod (wrap64 ((wrap64 (abI * a1))+lX)) 16777216) [.int .i64 (Int.tmod (wrap64 ((wrap64 (abI * a1))+lX)) 16777216)] (fun _=>True) (fun _=>False) rfl rfl ?aP (fun _ hk=>hk.elim) ?aF ?aO ?aB ?aS ?aL ?_;(case aP=>exact rfl);(case aB=>exact (zB HB));(case aF=>exact (fun _ _=>trivial));(case aO=>exact (zR fA));(case aS=>exact (zS HB));(case aL=>have:=ak9.out;omega);intro aFv w15 ho hb hg hat;rw [← ala.out] at ho;replace HB:=am (hb);have ald:=am (ho);clear fA ho hb hg hat)))
 ·go_roundg k1
  case measure=>have:=HK1.out;omega
  case rel=>exact ⟨(awV),(wrap64 (Int.tdiv (wrap64 ((wrap64 (abG * a1))+lX)) 16777216)),(wrap64 (kR+1)),z1,z1,H,(zH HK1),⟨zR alb⟩,⟨zB HB⟩⟩
 ·go_roundg k1
  case measure=>have:=HK1.out;omega
  case rel=>exact ⟨(awW),(wrap64 (Int.tdiv (wrap64 ((wrap64 (abH * a1))+lX)) 16777216)),(wrap64 (kR+1)),z1,z1,H,(zH HK1),⟨zR alc⟩,⟨zB HB⟩⟩
 ·go_ret
  exact ⟨_,z2,zR fA,zB HB⟩
 ·go_roundg k1
  case measure=>have:=HK1.out;omega
  case rel=>exact ⟨(awX),(wrap64 (Int.tdiv (wrap64 ((wrap64 (abI * a1))+lX)) 16777216)),(wrap64 (kR+1)),z1,z1,H,(zH HK1),⟨zR ald⟩,⟨zB HB⟩⟩
 go_ret
 exact ⟨_,z2,zR fA,zB HB⟩
def dP.l0:Nat→Int→List Int→Option (List Int)
  | 0,_,_=>none
  | k+1,x0,x3=>if x0 > 0 then (if x3.length<17592186044416 then (dP.l0 k (IntKind.u64.wrap (Int.tdiv x0 16777216)) (x3 ++ [wrap64 (Int.tmod x0 16777216)])) else (none)) else (some x3)
def dP.f (k:Nat) (a0:Int):Option (List Int):=dP.l0 k a0 ([]:List Int)
theorem dP.calls (k:Nat) (a0:Int) (r:List Int) (w:World) (h:dP.f k a0=some r) :
    Calls Tryz.prog 84 #[.int .u64 a0] w fun e w' => ∃ v0_:Value,e = .returned (v0_)∧Kd.R (Kd.int .i64) 3 w' w.heap.size (fun _=>True) v0_ r∧Below w.heap.size w w':=by
 have HB:=am (Below.refl w.heap.size w)
 have H:=am h
 unfold dP.f at H
 clear h
 go_enter Tryz.func84,Tryz.ntmps84
 go_wp2
 go_loopg [0,3] k (fun kq v0 v3 w' => ∃ (kW:Int) (gY:List Int),v0 = .int .u64 kW∧ae (dP.l0 kq kW gY=some r)∧ae (kq≤k)∧ae (Kd.R (Kd.int .i64) 3 w' w.heap.size (fun _=>True) v3 gY)∧ae (Below w.heap.size w w'))
 case atStart=>exact ⟨(a0),(([]:List Int)),z1,H,zL,⟨zN⟩,⟨zB HB⟩⟩
 clear H
 obtain ⟨kW,gY,rfl,H,HK1,sK,HB⟩:=hrel
 obtain _|k1:=gk
 ·exact zz H rfl
 simp only [dP.l0] at H
 replace H:=Em H
 rcases H with ⟨uU,H⟩|⟨uU,H⟩
 replace H:=zil H
 obtain ⟨awY,H⟩:=H
 generalize afz:(gY ++ [wrap64 (Int.tmod kW 16777216)]:List Int)=awZ at H
 have ale:=zY afz
 clear afz
 rotate_left
 obtain rfl:=Option.some.inj H.out
 rotate_left
 all_goals (go_wp2_with (first|((with_reducible refine fG (b := .append) (xs:=#[.tmp 6, .tmp 10]) rfl ?_);at_builtin;refine Kd.mX (Kd.int .i64) (w0:=w) w.heap.size rfl (.tmp 6) (.tmp 10) 70 3 (.int .i64 0) 8 rfl Tryz.underlying70 info3 rfl (by decide) (by omega) u3 gY (wrap64 (Int.tmod kW 16777216)) [.int .i64 (wrap64 (Int.tmod kW 16777216))] (fun _=>True) (fun _=>False) rfl rfl ?aP (fun _ hk=>hk.elim) ?aF ?aO ?aB ?aS ?aL ?_;(case aP=>exact rfl);(case aB=>exact (zB HB));(case aF=>exact (fun _ _=>trivial));(case aO=>exact (zR sK));(case aS=>exact (zS HB));(case aL=>have:=awY.out;omega);intro aFw w4 ho hb hg hat;rw [← ale.out] at ho;replace HB:=am (hb);have alf:=am (ho);clear sK ho hb hg hat)))
 ·go_roundg k1
  case measure=>have:=HK1.out;omega
  case rel=>exact ⟨(IntKind.u64.wrap (Int.tdiv kW 16777216)),(awZ),z1,H,(zH HK1),⟨zR alf⟩,⟨zB HB⟩⟩
 go_ret
 exact ⟨_,z2,zR sK,zB HB⟩
theorem Zy (d:Nat) (w:World) (x0 y0:Int) (x1 y1:Int) :
  (Op.equalIn (d+2) 211 (.agg #[.int .u64 x0, .int .u64 x1]) (.agg #[.int .u64 y0, .int .u64 y1])).run Tryz.prog w = .ok (x0 == y0 && (x1 == y1)) w:=by
 refine RI Tryz.underlying211 (by kernel_rfl) ?_
 refine qE (by rfl) (by go_simp;rfl) (by go_simp;rfl) (by go_simp) ?_
 exact Gn (by rfl) (by go_simp;rfl) (by go_simp;rfl) (by go_simp)
end Go.Proofs.Yy.PTx
end
section
namespace Go.Proofs.Yy.PTx
open Go.RowKit Go.Proofs.Yw.PrintWords Go.Proofs.Yw.PrintLast Go.Proofs.Yw.PrintMore Go.Shelf Go.Sort Go.Lib
def aso (u:Int):ByteArray:=⟨(Lib.decDigits u.toNat).toArray⟩
def dF.f (a0 a1:Int):Option ByteArray:=if 0≤a0∧a0<18446744073709551616∧a1=10 then some (aso a0) else none
set_option maxHeartbeats 400000 in
theorem dF.calls (a0 a1:Int) (r:ByteArray) (w:World) (h:dF.f a0 a1=some r) (htab:Fx.Laid w:=by exact Fx.Laid.below HTAB.out (by repeat (first|(with_reducible first|exact HB.out|apply bz|apply aI|apply aZ)|exact HB.out))) :
  Calls Tryz.prog 106 #[.int .u64 a0, .int .i64 a1] w fun e w'=>e = .returned (.string r)∧Below w.heap.size w w':=by
 unfold dF.f at h
 by_cases hg:0≤a0∧a0<18446744073709551616∧a1=10
 case neg=>rw [if_neg hg] at h;exact absurd h (by simp)
 rw [if_pos hg] at h
 obtain rfl:=Option.some.inj h
 obtain ⟨h0,h1,rfl⟩:=hg
 obtain ⟨u,rfl⟩:=Int.eq_ofNat_of_zero_le h0
 have hu:u<18446744073709551616:=by omega
 have HU:=Lib.hid hu
 have HT:=Lib.hid htab
 clear h h0 h1 hu htab
 go_enter Tryz.func106,Tryz.ntmps106
 go_wp2_with (go_at_call 165;refine (Fmt.Bc u HU.out _ HT.out.1).mono ?_;rintro e w' ⟨rfl,k,os,rfl⟩)
 go_ret
 exact ⟨rfl,Fmt.below_grow _ _ _⟩
def strings_Repeat.f (s:ByteArray) (c:Int):Option ByteArray:=if 0≤c∧c≤9223372036854775807∧s.size * c.toNat≤140737488355328 then some ⟨(Lib.repeatL s.data.toList c.toNat).toArray⟩ else none
theorem strings_Repeat.calls (a0:ByteArray) (a1:Int) (r:ByteArray) (w:World) (h:strings_Repeat.f a0 a1=some r) :
  Calls Tryz.prog 69 #[.string a0, .int .i64 a1] w fun e w'=>e = .returned (.string r)∧Below w.heap.size w w':=by
 unfold strings_Repeat.f at h
 by_cases hg:0≤a1∧a1≤9223372036854775807∧a0.size * a1.toNat≤140737488355328
 case neg=>rw [if_neg hg] at h;exact absurd h (by simp)
 rw [if_pos hg] at h
 obtain rfl:=Option.some.inj h
 obtain ⟨h0,h1,h2⟩:=hg
 obtain ⟨c,rfl⟩:=Int.eq_ofNat_of_zero_le h0
 rw [Int.toNat_natCast] at *
 exact Tryz.strings_Repeat a0 c w (by omega) h2
def uf (x:Nat):Bool:=decide (x<48) || decide (57<x)
theorem TL (W:World) (x:Nat):Calls Tryz.prog 148 #[.int .i32 (x:Int)] W fun e w'=>e = .returned (.bool (uf x)) ∧ ∃ q,w'=W.drewN q:=by
 by_cases h1:x<48
 ·have hb:decide ((x:Int)<48)=true:=decide_eq_true (by omega)
  have hn:uf x=true:=by simp [uf,h1]
  have HN:=am hn
  clear hn
  go_enter Tryz.func148,Tryz.ntmps148
  go_wp2
  go_ret
  exact ⟨by rw [HN.out];rfl,0,(World.drewN_zero _).symm⟩
 ·have hb:decide ((x:Int)<48)=false:=decide_eq_false (by omega)
  by_cases h2:57<x
  ·have hb2:decide ((57:Int)<(x:Int))=true:=decide_eq_true (by omega)
   have hn:uf x=true:=by simp [uf,h2]
   have HN:=am hn
   clear hn
   go_enter Tryz.func148,Tryz.ntmps148
   go_wp2
   go_ret
   exact ⟨by rw [HN.out];rfl,0,(World.drewN_zero _).symm⟩
  ·have hb2:decide ((57:Int)<(x:Int))=false:=decide_eq_false (by omega)
   have hn:uf x=false:=by simp [uf,h1,h2]
   have HN:=am hn
   clear hn
   go_enter Tryz.func148,Tryz.ntmps148
   go_wp2
   go_ret
   exact ⟨by rw [HN.out];rfl,0,(World.drewN_zero _).symm⟩
theorem LC (args:Array Value) (w:World):(callFunc 148 args).run Tryz.prog w = .ok (.enter 148 args) w:=enters_of Tryz.func148 (by kernel_rfl) rfl args w
def strings_IndexFunc.f (s:ByteArray):Option Int:=some (Lib.idxFunc uf true s)
theorem strings_IndexFunc.calls (a0:ByteArray) (r:Int) (w:World) (h:strings_IndexFunc.f a0=some r) :
  Calls Tryz.prog 147 #[.string a0, .func (.func 148) #[] #[]] w fun e w'=>e = .returned (.int .i64 r)∧Below w.heap.size w w':=by
 unfold strings_IndexFunc.f at h
 obtain rfl:=Option.some.inj h
 exact Tryz.strings_IndexFunc 148 #[] LC uf a0 w (fun W x hb=>TL W x)
def jl.f (s:ByteArray) (base bits:Int):Option (Int × Option Int):=if base=10∧bits=64∧s.size≤9223372036854775806 then (match Lib.parseUintB 64 s.data.toList with | .ok u=>some ((u:Int),none)|_=>none) else none
theorem jl.calls (a0:ByteArray) (a1 a2:Int) (r1:Int) (r2:Option Int) (w:World) (h:jl.f a0 a1 a2=some (r1,r2)) :
  Calls Tryz.prog 149 #[.string a0, .int .i64 a1, .int .i64 a2] w fun e w'=>e = .returned (.tuple #[.int .u64 r1,qm r2])∧Below w.heap.size w w':=by
 unfold jl.f at h
 by_cases hg:a1=10∧a2=64∧a0.size≤9223372036854775806
 case neg=>rw [if_neg hg] at h;exact absurd h (by simp)
 rw [if_pos hg] at h
 obtain ⟨rfl,rfl,hs⟩:=hg
 obtain ⟨u,hp⟩:∃ u,Lib.parseUintB 64 a0.data.toList = .ok u:=by
  cases hp:Lib.parseUintB 64 a0.data.toList <;> rw [hp] at h <;> first|exact ⟨_,rfl⟩|cases h
 rw [hp] at h
 obtain ⟨rfl,rfl⟩:=Prod.mk.inj (Option.some.inj h)
 refine (Tryz.strconv_ParseUint_10_at64_ok a0 hs u hp w).mono ?_
 rintro e w' ⟨he,hw⟩
 refine ⟨he,?_⟩
 rcases hw with rfl|rfl
 ·exact Below.refl _ _
 ·exact Lib.bytesWorld_below _ _ _
end Go.Proofs.Yy.PTx
end
section
namespace Go.Proofs.Yy.PTx
open Go.RowKit Go.Proofs.Yw.PrintWords Go.Proofs.Yw.PrintLast Go.Proofs.Yw.PrintMore Go.Shelf Go.Lib
def dM.f (n:Int):Option ByteArray:=if -9223372036854775808≤n∧n≤9223372036854775807 then some ⟨(Lib.itoa n).toArray⟩ else none
theorem dM.calls (a0:Int) (r:ByteArray) (w:World) (h:dM.f a0=some r) (htab:Fx.Laid w:=by exact Fx.Laid.below HTAB.out (by repeat (first|(with_reducible first|exact HB.out|apply bz|apply aI|apply aZ|refine bu ?_ (ae.out (by assumption)))|exact HB.out))) :
  Calls Tryz.prog 70 #[.int .i64 a0] w fun e w'=>e = .returned (.string r)∧Below w.heap.size w w':=by
 unfold dM.f at h
 by_cases hc : -9223372036854775808≤a0∧a0≤9223372036854775807
 case neg=>rw [if_neg hc] at h;exact absurd h (by simp)
 rw [if_pos hc] at h
 obtain rfl:=Option.some.inj h
 refine (Tryz.strconv_Itoa a0 hc.1 hc.2 w htab.1).mono ?_
 rintro e w' ⟨he,k,os,rfl⟩
 exact ⟨he,Fx.below_grow _ _ _⟩
def bits_Len64.f (k:Nat) (x:Int):Option Int:=if 0≤x∧x≤18446744073709551615 then some (Lib.bitLen x.toNat:Int) else none
theorem bits_Len64.calls (k:Nat) (a0:Int) (r:Int) (w:World) (h:bits_Len64.f k a0=some r) :
  Calls Tryz.prog 152 #[.int .u64 a0] w fun e w'=>e = .returned (.int .i64 r)∧dX w w':=by
 unfold bits_Len64.f at h
 by_cases hg:0≤a0∧a0≤18446744073709551615
 case neg=>rw [if_neg hg] at h;exact absurd h (by simp)
 rw [if_pos hg] at h
 obtain rfl:=Option.some.inj h
 exact (Tryz.bits_Len64 a0 w hg.1 hg.2).mono fun _ _ ⟨he,hw⟩=>⟨he,by rw [hw];exact dX.refl _⟩
def jC.f (s c:ByteArray):Option ByteArray:=if c.data.toList = [48] then some ⟨(Lib.trimLeftB s.data.toList 48).toArray⟩ else none
theorem bytes_eq {c:ByteArray} {l:List UInt8} (h:c.data.toList=l):c=⟨l.toArray⟩:=by
 cases c with
 | mk d=>cases d with
  | mk q=>simp only at h;rw [h]
theorem jC.calls (a0 a1 r:ByteArray) (w:World) (h:jC.f a0 a1=some r) :
  Calls Tryz.prog 118 #[.string a0, .string a1] w fun e w'=>e = .returned (.string r)∧Below w.heap.size w w':=by
 unfold jC.f at h
 by_cases hc:a1.data.toList = [48]
 case neg=>rw [if_neg hc] at h;exact absurd h (by simp)
 rw [if_pos hc] at h
 obtain rfl:=Option.some.inj h
 rw [bytes_eq hc]
 refine (Tryz.strings_TrimLeft_one a0 48 (by decide) w).mono ?_
 rintro e w' ⟨he,rfl⟩
 exact ⟨he,Below.refl _ _⟩
def iZ.f (s c:ByteArray):Option ByteArray:=if c.data.toList = [48]∧s.size≤9223372036854775807 then some ⟨(Lib.trimRightB s.data.toList 48).toArray⟩ else none
theorem iZ.calls (a0 a1 r:ByteArray) (w:World) (h:iZ.f a0 a1=some r) :
  Calls Tryz.prog 119 #[.string a0, .string a1] w fun e w'=>e = .returned (.string r)∧Below w.heap.size w w':=by
 unfold iZ.f at h
 by_cases hc:a1.data.toList = [48]∧a0.size≤9223372036854775807
 case neg=>rw [if_neg hc] at h;exact absurd h (by simp)
 rw [if_pos hc] at h
 obtain rfl:=Option.some.inj h
 rw [bytes_eq hc.1]
 refine (Tryz.strings_TrimRight_one a0 48 (by decide) w hc.2).mono ?_
 rintro e w' ⟨he,rfl⟩
 exact ⟨he,Below.refl _ _⟩
def qh:List UInt8 := [48,49,50,51,52,53,54,55,56,57]
def mr.f (s c:ByteArray):Option ByteArray:=if c.data.toList=qh∧s.size≤9223372036854775807 then some ⟨(Lib.trimS s.data.toList qh).toArray⟩ else none
theorem mr.calls (a0 a1 r:ByteArray) (w:World) (h:mr.f a0 a1=some r) :
  Calls Tryz.prog 120 #[.string a0, .string a1] w fun e w'=>e = .returned (.string r)∧Below w.heap.size w w':=by
 unfold mr.f at h
 by_cases hc:a1.data.toList=qh∧a0.size≤9223372036854775807
 case neg=>rw [if_neg hc] at h;exact absurd h (by simp)
 rw [if_pos hc] at h
 obtain rfl:=Option.some.inj h
 rw [← hc.1]
 have hz:a1.size=10:=by
  rw [bytes_eq hc.1];rfl
 exact Any.strings_Trim_laid Tryz.lays160 (by kernel_rfl) a0 a1 w hc.2 (by omega) (by rw [hc.1];exact ascii_of_all (by decide))
end Go.Proofs.Yy.PTx
end
