/- Part 5. -/
import Derived.Test.YtpfnkbnepcchgaaGreatDoorProg
import Derived.WalkKit
import Derived.RowKit
import Derived.RowKitTokens
import Derived.Below
import Derived.OneCell
import Derived.Laws.AppendOwn
import Derived.OwnWalk
import Derived.Tactics
import Derived.Test.YtpfnkbnepcchgaaGreatDoorKTPD
set_option linter.unusedSimpArgs false
set_option linter.unusedVariables false
section
namespace Go.Proofs.Yy.SR
open Go.RowKit Go.Proofs.Yy.SC
structure Kept (p:Prop):Prop where
 out:p
set_option maxHeartbeats 4000000
set_option maxRecDepth 100000
theorem bnf (x y:Int)(h:x≠y:=by omega):(x == y)=false:=by simpa using h
theorem dnf (x y:Int)(h:x≠y:=by omega):decide (x=y)=false:=decide_eq_false h
def xH (l:List UInt8):List Value:=l.map fun c => .int .u8 (c.toNat:Int)
theorem C9 (l:List UInt8)(c:UInt8):xH (l ++ [c])=xH l ++ [.int .u8 (c.toNat:Int)]:=by simp[xH]
def Held (B b:Nat)(st:Int)(neg:Bool)(v:Value)(ds:List UInt8)(beh:Int)(eneg:Bool)(exp:Int)(w:World):Prop :=
 B≤b∧w.heap[b]? = some (.cells #[.int .i64 st,.bool neg,v,.int .i64 beh,.bool eneg,.int .i64 exp] 106 (0,0))∧w.ownsRow B 5 1 v ds.length (xH ds)
def At (B b:Nat)(r:R)(w:World):Prop := ∃ v,Held B b (r.st:Int) r.neg v r.ds (r.beh:Int) r.eneg (r.exp:Int) w
theorem tq {w:World}{b:Nat}{x0 x1 x2 x3 x4 x5:Value}{t:TypeId}(h:w.heap[b]? = some (.cells #[x0,x1,x2,x3,x4,x5] t (0,0))) :
  w.cell? ⟨b,0,none⟩=some x0∧w.cell? ⟨b,1,none⟩=some x1∧w.cell? ⟨b,2,none⟩=some x2∧w.cell? ⟨b,3,none⟩=some x3∧w.cell? ⟨b,4,none⟩=some x4∧w.cell? ⟨b,5,none⟩=some x5 ∧
  w.frozen? ⟨b,0,none⟩=false∧w.frozen? ⟨b,1,none⟩=false∧w.frozen? ⟨b,2,none⟩=false∧w.frozen? ⟨b,3,none⟩=false∧w.frozen? ⟨b,4,none⟩=false∧w.frozen? ⟨b,5,none⟩=false∧b<w.heap.size:=by
 refine⟨by simp[World.cell?, h],by simp[World.cell?, h],by simp[World.cell?, h],by simp[World.cell?, h],by simp[World.cell?, h],by simp[World.cell?, h],by simp[World.frozen?, h],by simp[World.frozen?, h],by simp[World.frozen?, h],by simp[World.frozen?, h],by simp[World.frozen?, h],by simp[World.frozen?, h],(Array.getElem?_eq_some_iff.1 h).1⟩
theorem own_ne {w:World}{B b:Nat}{v:Value}{n:Nat}{xs:List Value}{cs:Array Value}(h:w.ownsRow B 5 1 v n xs)(hb:w.heap[b]? = some (.cells cs 106 (0,0))):v.ownBlock≠some b:=by
 rcases h.2 with⟨rfl,_⟩|⟨g,cap,cur,rfl,_,hg,_⟩
 ·simp[Value.ownBlock]
 ·simp only[Value.ownBlock,ne_eq,Option.some.injEq]
  rintro rfl;rw[hb]at hg;simp at hg
theorem Jo:∃ i0,Tryz.prog.info? 5=some i0∧i0.zero=some (.int .u8 0)∧i0.size=1∧i0.bytes=1:=by
 have h:(Tryz.prog.info? 5).map (fun i=>(i.zero,i.size,i.bytes))=some (some (.int .u8 0),1,1):=by kernel_rfl
 obtain⟨i,hi,he⟩:=Option.map_eq_some_iff.1 h;simp only[Prod.mk.injEq]at he;exact⟨i,hi,he.1,he.2.1,he.2.2⟩
section
variable {B b:Nat} {st:Int} {neg:Bool} {v:Value} {ds:List UInt8} {beh:Int} {eneg:Bool} {exp:Int} {w:World}
theorem Held.vI (h:Held B b st neg v ds beh eneg exp w)(x:Int):Held B b x neg v ds beh eneg exp (w.setCell ⟨b,0,none⟩ (.int .i64 x)) :=
 ⟨h.1,heap_setCell_same w b 0 _ _ _ h.2.1,ownsRow_setCell_other h.2.2 (own_ne h.2.2 h.2.1) _⟩
theorem Held.Rh (h:Held B b st neg v ds beh eneg exp w)(x:Bool):Held B b st x v ds beh eneg exp (w.setCell ⟨b,1,none⟩ (.bool x)) :=
 ⟨h.1,heap_setCell_same w b 1 _ _ _ h.2.1,ownsRow_setCell_other h.2.2 (own_ne h.2.2 h.2.1) _⟩
theorem Held.aa9 (h:Held B b st neg v ds beh eneg exp w)(x:Int):Held B b st neg v ds x eneg exp (w.setCell ⟨b,3,none⟩ (.int .i64 x)) :=
 ⟨h.1,heap_setCell_same w b 3 _ _ _ h.2.1,ownsRow_setCell_other h.2.2 (own_ne h.2.2 h.2.1) _⟩
theorem Held.NI (h:Held B b st neg v ds beh eneg exp w)(x:Bool):Held B b st neg v ds beh x exp (w.setCell ⟨b,4,none⟩ (.bool x)) :=
 ⟨h.1,heap_setCell_same w b 4 _ _ _ h.2.1,ownsRow_setCell_other h.2.2 (own_ne h.2.2 h.2.1) _⟩
theorem Held.Lh (h:Held B b st neg v ds beh eneg exp w)(x:Int):Held B b st neg v ds beh eneg x (w.setCell ⟨b,5,none⟩ (.int .i64 x)) :=
 ⟨h.1,heap_setCell_same w b 5 _ _ _ h.2.1,ownsRow_setCell_other h.2.2 (own_ne h.2.2 h.2.1) _⟩
theorem Held.grown {w2:World}{v':Value}{ds':List UInt8}{o:Obj}(h:Held B b st neg v ds beh eneg exp w)(hg:(w.alloc o).grownBy w2 v.ownBlock)(ho:w2.ownsRow B 5 1 v' ds'.length (xH ds')) :
  w2.heap[b]? = some (.cells #[.int .i64 st,.bool neg,v,.int .i64 beh,.bool eneg,.int .i64 exp] 106 (0,0))∧Held B b st neg v' ds' beh eneg exp (w2.setCell ⟨b,2,none⟩ v'):=by
 have hlt:=(Array.getElem?_eq_some_iff.1 h.2.1).1
 have hb2:w2.heap[b]? = some (.cells #[.int .i64 st,.bool neg,v,.int .i64 beh,.bool eneg,.int .i64 exp] 106 (0,0)):=by
  rw[hg.block b (by simp;omega) (fun e=>own_ne h.2.2 h.2.1 e.symm),heap_alloc_old w _ hlt];exact h.2.1
 exact⟨hb2,h.1,heap_setCell_same w2 b 2 _ _ _ hb2,ownsRow_setCell_other ho (own_ne ho hb2) _⟩
theorem Held.grown_below {w0 w2:World}{o:Obj}(h:Held B b st neg v ds beh eneg exp w)(hw:Below B w0 w)(hB:B≤w0.heap.size)(hg:(w.alloc o).grownBy w2 v.ownBlock):Below B w0 w2 :=
 (hw.alloc (by have:=hw.size;omega) o).grown hg (by have:=hw.size;simp;omega) (fun k hk=>(h.2.2.lt k hk).1)
end
theorem afG (B b:Nat)(neg:Bool)(v:Value)(ds:List UInt8)(st beh exp:Int)(eneg:Bool)(w:World)(h:Held B b st neg v ds beh eneg exp w)(x:Int)(hx:x=69∨x=101) :
  Calls Tryz.prog 117 #[.pointer (some ⟨b,0,none⟩),.int .u8 x] w fun e w'=>e=.returned (.bool true)∧Held B b 6 neg v ds beh eneg exp w'∧Below B w w':=by
 have h0:=Kept.mk h;obtain⟨c0,c1,c2,c3,c4,c5,f0,f1,f2,f3,f4,f5,hlt⟩:=tq h.2.1;clear h;rcases hx with rfl|rfl
 all_goals
  go_enter Tryz.func117,Tryz.ntmps117
  go_wp2
  go_ret
  exact⟨rfl,h0.out.vI 6,(Below.refl B w).setCell h0.out.1 _⟩
theorem SH (p:Value)(x:Int)(hx:x≠101∧x≠69)(w:World) :
  Calls Tryz.prog 117 #[p,.int .u8 x] w fun e w'=>e=.returned (.bool false)∧w'=w:=by
 have n101:(x == 101)=false:=by simp only[beq_eq_false_iff_ne,ne_eq];exact hx.1
 have aGV:decide (x=101)=false:=decide_eq_false hx.1
 have n69:(x == 69)=false:=by simp only[beq_eq_false_iff_ne,ne_eq];exact hx.2
 have m69:decide (x=69)=false:=decide_eq_false hx.2;have aGW:(x != 101)=true:=bne_iff_ne.mpr hx.1;have p69:(x != 69)=true:=bne_iff_ne.mpr hx.2;clear hx
 go_enter Tryz.func117,Tryz.ntmps117
 go_wp2
 go_ret
 exact⟨rfl,rfl⟩
theorem nms (x:Int)(a:x≠43:=by omega)(b:x≠45:=by omega)(c:x≠46:=by omega)(d:x≠69:=by omega)(e:x≠101:=by omega):(x == 43)=false∧decide (x=43)=false∧(x == 45)=false∧decide (x=45)=false∧(x == 46)=false∧decide (x=46)=false∧(x == 69)=false∧decide (x=69)=false∧(x == 101)=false∧decide (x=101)=false :=
 ⟨bnf x 43,dnf x 43,bnf x 45,dnf x 45,bnf x 46,dnf x 46,bnf x 69,dnf x 69,bnf x 101,dnf x 101⟩
theorem opn {B b:Nat}{r:R}{w:World}(h:At B b r w){n:Nat}(hs:r.st=n):∃ v,Kept (Held B b (n:Int) r.neg v r.ds (r.beh:Int) r.eneg (r.exp:Int) w) ∧
  w.cell? ⟨b,0,none⟩=some (.int .i64 (n:Int))∧w.cell? ⟨b,1,none⟩=some (.bool r.neg)∧w.cell? ⟨b,2,none⟩=some v∧w.cell? ⟨b,3,none⟩=some (.int .i64 (r.beh:Int))∧w.cell? ⟨b,4,none⟩=some (.bool r.eneg)∧w.cell? ⟨b,5,none⟩=some (.int .i64 (r.exp:Int)) ∧
  w.frozen? ⟨b,0,none⟩=false∧w.frozen? ⟨b,1,none⟩=false∧w.frozen? ⟨b,2,none⟩=false∧w.frozen? ⟨b,3,none⟩=false∧w.frozen? ⟨b,4,none⟩=false∧w.frozen? ⟨b,5,none⟩=false∧b<w.heap.size:=by
 obtain⟨v,h⟩:=h;rw[hs]at h;exact⟨v,⟨h⟩,tq h.2.1⟩
def NoT (B b:Nat)(x:Int)(w:World):Prop:=Calls Tryz.prog 62 #[.pointer (some ⟨b,0,none⟩),.int .u8 x] w fun e w'=>e=.returned (.bool false)∧Below B w w'
def TkT (B b:Nat)(x:Int)(r':R)(w:World):Prop:=Calls Tryz.prog 62 #[.pointer (some ⟨b,0,none⟩),.int .u8 x] w fun e w'=>e=.returned (.bool true)∧At B b r' w'∧Below B w w'
theorem OU (B b:Nat)(r:R)(w:World)(h:At B b r w)(hs:r.st=0)(x:Int)(n:Bool)(hx:(n=false∧x=43)∨(n=true∧x=45)):TkT B b x { r with neg:=n,st:=2 } w:=by
 unfold TkT;obtain⟨v,h0,_,_,_,_,_,_,_,_,_,_,_,_,hlt⟩:=opn h hs;clear h;rcases hx with⟨rfl,rfl⟩|⟨rfl,rfl⟩
 all_goals
  go_enter Tryz.func62,Tryz.ntmps62
  go_wp2
  go_ret
  exact⟨rfl,⟨_,by first|exact (h0.out.Rh _).vI 2|exact (h0.out.vI 2).Rh _⟩,((Below.refl B w).setCell h0.out.1 _).setCell h0.out.1 _⟩
theorem PE (B b:Nat)(r:R)(w:World)(h:At B b r w)(hs:r.st=6)(x:Int)(n:Bool)(hx:(n=false∧x=43)∨(n=true∧x=45)):TkT B b x { r with eneg:=n,st:=7 } w:=by
 unfold TkT;obtain⟨v,h0,_,_,_,_,_,_,_,_,_,_,_,_,hlt⟩:=opn h hs;clear h;rcases hx with⟨rfl,rfl⟩|⟨rfl,rfl⟩
 all_goals
  go_enter Tryz.func62,Tryz.ntmps62
  go_wp2
  go_ret
  exact⟨rfl,⟨_,by first|exact (h0.out.NI _).vI 7|exact (h0.out.vI 7).NI _⟩,((Below.refl B w).setCell h0.out.1 _).setCell h0.out.1 _⟩
theorem XH (B b:Nat)(r:R)(w:World)(h:At B b r w)(hs:r.st=3):TkT B b 46 { r with st:=4 } w:=by
 unfold TkT;obtain⟨v,h0,_,_,_,_,_,_,_,_,_,_,_,_,hlt⟩:=opn h hs;clear h
 go_enter Tryz.func62,Tryz.ntmps62
 go_wp2
 go_ret
 exact⟨rfl,⟨_,h0.out.vI 4⟩,(Below.refl B w).setCell h0.out.1 _⟩
theorem af9 (B b:Nat)(r:R)(w:World)(h:At B b r w)(hs:r.st=3∨r.st=5)(x:Int)(hx:x=69∨x=101):TkT B b x { r with st:=6 } w:=by
 unfold TkT;rcases hs with hs|hs
 all_goals
  obtain⟨v,h0,_,_,_,_,_,_,_,_,_,_,_,_,hlt⟩:=opn h hs;have hE:=afG B b _ _ _ _ _ _ _ w h0.out x hx;clear h;rcases hx with rfl|rfl
  all_goals
   go_enter Tryz.func62,Tryz.ntmps62
   go_wp2_with (go_at_call 117;refine hE.mono ?_;rintro e w1 ⟨rfl,h1,hb1⟩;have K1:=Kept.mk h1;have KB:=Kept.mk hb1;clear h1 hb1)
   go_ret
   exact⟨rfl,⟨_,K1.out⟩,KB.out⟩
theorem RG (B b:Nat)(r:R)(x:Int)(hx:(x<48∧x≠43∧x≠45∧x≠46)∨(57<x∧x≠69∧x≠101))(w:World)(h:At B b r w)(hs:r.st=0∨r.st=2∨r.st=3∨r.st=4∨r.st=5∨r.st=6∨r.st=7∨r.st=8):NoT B b x w:=by
 unfold NoT;have hE:∀ w1,_:=fun w1=>SH (.pointer (some ⟨b,0,none⟩)) x (by omega) w1;obtain⟨_,_,_,_,_,_,_,_,_,_⟩:=nms x;rcases hx with hx|hx;have d1:decide (48≤x)=false:=decide_eq_false (by omega);rotate_left;have d1:decide (48≤x)=true:=decide_eq_true (by omega);have d2:decide (x≤57)=false:=decide_eq_false (by omega);rotate_left
 all_goals
  clear hx;rcases hs with hs|hs|hs|hs|hs|hs|hs|hs
  all_goals
   obtain⟨v,h0,_,_,_,_,_,_,_,_,_,_,_,_,hlt⟩:=opn h hs;clear h
   go_enter Tryz.func62,Tryz.ntmps62
   go_wp2_with (go_at_call 117;refine (hE _).mono ?_;rintro e w1 ⟨rfl,rfl⟩)
   go_ret
   exact⟨rfl,Below.refl B _⟩
def noL:List (Nat × Int) := [(0,46),(0,69),(0,101),(2,43),(2,45),(2,46),(2,69),(2,101),(4,43),(4,45),(4,46),(4,69),(4,101),(7,43),(7,45),(7,46),(7,69),(7,101),(8,43),(8,45),(8,46),(8,69),(8,101),(3,43),(3,45),(5,43),(5,45),(5,46),(6,46),(6,69),(6,101)]
theorem acC (B b:Nat)(r:R)(x:Int)(hx:(r.st,x) ∈ noL)(w:World)(h:At B b r w):NoT B b x w:=by
 unfold NoT;have hE:∀ w1,(x≠101∧x≠69)→_:=fun w1 hx=>SH (.pointer (some ⟨b,0,none⟩)) x hx w1;simp only[noL,List.mem_cons,Prod.mk.injEq,List.not_mem_nil,or_false]at hx;rcases hx with⟨hs,rfl⟩|⟨hs,rfl⟩|⟨hs,rfl⟩|⟨hs,rfl⟩|⟨hs,rfl⟩|⟨hs,rfl⟩|⟨hs,rfl⟩|⟨hs,rfl⟩|⟨hs,rfl⟩|⟨hs,rfl⟩|⟨hs,rfl⟩|⟨hs,rfl⟩|⟨hs,rfl⟩|⟨hs,rfl⟩|⟨hs,rfl⟩|⟨hs,rfl⟩|⟨hs,rfl⟩|⟨hs,rfl⟩|⟨hs,rfl⟩|⟨hs,rfl⟩|⟨hs,rfl⟩|⟨hs,rfl⟩|⟨hs,rfl⟩|⟨hs,rfl⟩|⟨hs,rfl⟩|⟨hs,rfl⟩|⟨hs,rfl⟩|⟨hs,rfl⟩|⟨hs,rfl⟩|⟨hs,rfl⟩|⟨hs,rfl⟩
 all_goals
  obtain⟨v,h0,_,_,_,_,_,_,_,_,_,_,_,_,hlt⟩:=opn h hs;clear h
  go_enter Tryz.func62,Tryz.ntmps62
  go_wp2_with (go_at_call 117;refine (hE _ (by decide)).mono ?_;rintro e w1 ⟨rfl,rfl⟩)
  go_ret
  exact⟨rfl,Below.refl B _⟩
theorem aaO (B b:Nat)(r:R)(c:UInt8)(x:Int)(hc:(c.toNat:Int)=x)(hx:48≤x∧x≤57)(w:World)(h:At B b r w)(hs:r.st=0∨r.st=2∨r.st=3)(hBw:B≤w.heap.size)(hlen:r.ds.length<1000000):TkT B b x { r with st:=3,ds:=r.ds ++ [c] } w:=by
 unfold TkT;rcases hs with hs|hs|hs
 all_goals (obtain⟨v,h⟩:=h;rw[hs]at h)
 have hK:=Kept.mk (h.vI 3);have HB:=Kept.mk ((Below.refl B w).setCell (p:=⟨b,0,none⟩) h.1 (.int .i64 3));rotate_left;have hK:=Kept.mk (h.vI 3);have HB:=Kept.mk ((Below.refl B w).setCell (p:=⟨b,0,none⟩) h.1 (.int .i64 3));rotate_left;have hK:=Kept.mk h;have HB:=Kept.mk (Below.refl B w);rotate_left
 all_goals
  obtain⟨c0,c1,c2,c3,c4,c5,f0,f1,f2,f3,f4,f5,hlt⟩:=tq h.2.1;obtain⟨i0,hi,hz0,hz1,hz2⟩:=Jo;have d1:decide (48≤x)=true:=decide_eq_true hx.1;have d2:decide (x≤57)=true:=decide_eq_true hx.2;have n43:=bnf x 43;have m43:=dnf x 43;have n45:=bnf x 45;have m45:=dnf x 45;have n46:=bnf x 46;have m46:=dnf x 46;have hBb:=h.1;clear h hx
  go_enter Tryz.func62,Tryz.ntmps62
  go_wp2_with (at_builtin;refine wpList_append_own _ rfl _ _ 104 rfl B 5 i0 (.int .u8 0) 1 1 Tryz.underlying104 hi hz0 hz1 hz2 rfl (by decide) _ _ _ rfl (hK.out.2.2.alloc _) ⟨_,0,none⟩ 1 1 [.int .u8 x] rfl rfl ?c1 ?c2 ?c3 ?c4 ?c5 ?_)
  case c1 =>
   intro j u hj
   match j,hj with
   | 0,hj=>simp at hj;subst hj;(simp[Addr.add];try (rw[World.cell?_alloc_at _ _ _ _ (by simp)];rfl))
  case c2=>intro u hu;simp at hu;subst hu;rfl
  case c3=>unfold maxLen;omega
  case c4=>omega
  case c5=>simp;omega
  intro v' w2 hown' hgrow _
  obtain⟨g,cap,rfl⟩:∃ g cap,v'=.slice (some ⟨g,0,none⟩) (r.ds.length+1) cap:=by
   rcases hown'.2 with⟨_,h0⟩|⟨g,cap,cur,hv,_⟩
   ·omega
   ·exact⟨g,cap,hv⟩
  have hown2:w2.ownsRow B 5 1 (.slice (some ⟨g,0,none⟩) (r.ds.length+1) cap) (r.ds ++ [c]).length (xH (r.ds ++ [c])):=by rw[C9,hc,List.length_append];exact hown'
  obtain⟨hb2,hput⟩:=hK.out.grown hgrow hown2;have hbel:=hK.out.grown_below HB.out hBw hgrow;obtain⟨e0,e1,e2,e3,e4,e5,g0,g1,g2,g3,g4,g5,hlt2⟩:=tq hb2;have KP:=Kept.mk hput;have KB:=Kept.mk hbel;clear hown' hgrow hown2 hput hbel
  go_wp2
  go_ret
  exact⟨rfl,⟨_,KP.out⟩,KB.out.setCell (p:=⟨b,2,none⟩) hBb _⟩
theorem aaX (B b:Nat)(r:R)(c:UInt8)(x:Int)(hc:(c.toNat:Int)=x)(hx:48≤x∧x≤57)(w:World)(h:At B b r w)(hs:r.st=4∨r.st=5)(hBw:B≤w.heap.size)(hlen:r.ds.length<1000000)(hbeh:r.beh<1000000):TkT B b x { r with st:=5,ds:=r.ds ++ [c],beh:=r.beh+1 } w:=by
 unfold TkT;rcases hs with hs|hs
 all_goals
  obtain⟨v,h⟩:=h;rw[hs]at h;obtain⟨c0,c1,c2,c3,c4,c5,f0,f1,f2,f3,f4,f5,hlt⟩:=tq h.2.1;obtain⟨i0,hi,hz0,hz1,hz2⟩:=Jo;have d1:decide (48≤x)=true:=decide_eq_true hx.1;have d2:decide (x≤57)=true:=decide_eq_true hx.2;have n43:=bnf x 43;have m43:=dnf x 43;have n45:=bnf x 45;have m45:=dnf x 45;have n46:=bnf x 46;have m46:=dnf x 46;have hK:=Kept.mk (h.vI 5);have HB:=Kept.mk ((Below.refl B w).setCell (p:=⟨b,0,none⟩) h.1 (.int .i64 5));have hBb:=h.1;clear h hx
  go_enter Tryz.func62,Tryz.ntmps62
  go_wp2_with (at_builtin;refine wpList_append_own _ rfl _ _ 104 rfl B 5 i0 (.int .u8 0) 1 1 Tryz.underlying104 hi hz0 hz1 hz2 rfl (by decide) _ _ _ rfl (hK.out.2.2.alloc _) ⟨_,0,none⟩ 1 1 [.int .u8 x] rfl rfl ?c1 ?c2 ?c3 ?c4 ?c5 ?_)
  case c1 =>
   intro j u hj
   match j,hj with
   | 0,hj=>simp at hj;subst hj;(simp[Addr.add];try (rw[World.cell?_alloc_at _ _ _ _ (by simp)];rfl))
  case c2=>intro u hu;simp at hu;subst hu;rfl
  case c3=>unfold maxLen;omega
  case c4=>omega
  case c5=>simp;omega
  intro v' w2 hown' hgrow _
  obtain⟨g,cap,rfl⟩:∃ g cap,v'=.slice (some ⟨g,0,none⟩) (r.ds.length+1) cap:=by
   rcases hown'.2 with⟨_,h0⟩|⟨g,cap,cur,hv,_⟩
   ·omega
   ·exact⟨g,cap,hv⟩
  have hown2:w2.ownsRow B 5 1 (.slice (some ⟨g,0,none⟩) (r.ds.length+1) cap) (r.ds ++ [c]).length (xH (r.ds ++ [c])):=by rw[C9,hc,List.length_append];exact hown'
  obtain⟨hb2,hput⟩:=hK.out.grown hgrow hown2;have hbel:=hK.out.grown_below HB.out hBw hgrow;obtain⟨e0,e1,e2,e3,e4,e5,g0,g1,g2,g3,g4,g5,hlt2⟩:=tq hb2;have KP:=Kept.mk hput;have KB:=Kept.mk hbel;clear hown' hgrow hown2 hput hbel
  go_wp2
  go_ret
  exact⟨rfl,⟨_,KP.out.aa9 _⟩,(KB.out.setCell (p:=⟨b,2,none⟩) hBb _).setCell (p:=⟨b,3,none⟩) hBb _⟩
theorem aa3 (B b:Nat)(r:R)(c:UInt8)(x:Int)(hc:(c.toNat:Int)=x)(hx:48≤x∧x≤57)(w:World)(h:At B b r w)(hs:r.st=6∨r.st=7∨r.st=8)(hexp:r.exp≤far):TkT B b x { r with st:=8,exp:=ex r.exp c } w:=by
 unfold TkT;rcases hs with hs|hs|hs
 all_goals
  obtain⟨v,h0,_,_,_,_,_,_,_,_,_,_,_,_,hlt⟩:=opn h hs;clear h;have d1:decide (48≤x)=true:=decide_eq_true hx.1;have d2:decide (x≤57)=true:=decide_eq_true hx.2;have n43:=bnf x 43;have m43:=dnf x 43;have n45:=bnf x 45;have m45:=dnf x 45;have n46:=bnf x 46;have m46:=dnf x 46;have HX:=Kept.mk hx;have HE:=Kept.mk hexp;clear hx hexp
  go_enter Tryz.func62,Tryz.ntmps62
  go_wp2
  all_goals go_ret
  ·have hz:((ex r.exp c:Nat):Int)=100000000:=by
    have h1:=HX.out;have h2:=HE.out;clear HX HE h0;unfold ex;unfold far at *;unfold wrap64 at *
    omega
   refine⟨rfl,⟨v,?_⟩,((Below.refl B w).setCell h0.out.1 _).setCell h0.out.1 _⟩;show Held B b _ _ _ _ _ _ ((ex r.exp c:Nat):Int) _;rw[hz];exact (h0.out.vI 8).Lh _
  ·have hz:((ex r.exp c:Nat):Int)=wrap64 (wrap64 (10*(r.exp:Int))+(x-48) % 256):=by
    have h1:=HX.out;have h2:=HE.out;clear HX HE h0;unfold ex;unfold far at *;unfold wrap64 at *
    omega
   refine⟨rfl,⟨v,?_⟩,((Below.refl B w).setCell h0.out.1 _).setCell h0.out.1 _⟩;show Held B b _ _ _ _ _ _ ((ex r.exp c:Nat):Int) _;rw[hz];exact (h0.out.vI 8).Lh _
end Go.Proofs.Yy.SR
end
