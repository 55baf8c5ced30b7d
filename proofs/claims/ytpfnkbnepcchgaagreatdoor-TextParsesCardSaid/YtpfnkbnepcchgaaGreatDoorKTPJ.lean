/- Part 10. -/
import Derived.Laws.Bits64b
import Derived.Test.YtpfnkbnepcchgaaGreatDoorKTPI
set_option linter.unusedSimpArgs false
set_option linter.unusedVariables false
section
namespace Go.Proofs.Yy.PTx
open Go.RowKit Go.Proofs.Yw.PrintWords Go.Proofs.Yw.PrintLast Go.Proofs.Yw.PrintMore Go.Proofs.Yy.SC Go.Proofs.Yy.SR
theorem kH (a:Int)(w:World):Calls Tryz.prog 61 #[.int .i64 a] w fun e w' => ∃ gf,e=.returned (.iface 122 (.pointer (some ⟨gf,0,none⟩)))∧w.heap.size≤gf∧Fa.lM w' gf 0 a 14∧Below w.heap.size w w':=by
  go_enter Tryz.func61,Tryz.ntmps61
  go_wp2
  go_ret
  exact⟨_,rfl,Nat.le_refl _,heap_alloc_new w _,(Below.refl _ w).alloc (Nat.le_refl _) _⟩
theorem xP (B b k:Nat)(r:R)(w:World)(h:At B b r w)(hi:Inv k r):Calls Tryz.prog 63 #[.pointer (some ⟨b,0,none⟩)] w fun e w'=>e=.returned (.bool (whole r))∧w'=w:=by
  obtain⟨v,h⟩:=h;obtain⟨c0,c1,c2,c3,c4,c5,f0,f1,f2,f3,f4,f5,hlt⟩:=tq h.2.1;unfold whole
  rcases ab4 hi.st with hs|hs|hs|hs|hs|hs|hs|hs <;> rw[hs]at c0 ⊢ <;> (
    go_enter Tryz.func63,Tryz.ntmps63
    go_wp2
    go_ret
    exact⟨rfl,rfl⟩)
abbrev qU:Array Value:=#[.bool false,.bool false,.string (⟨#[]⟩:ByteArray),.int .i64 0]
def I5 (p:Nat)(w:World)(e:Ending)(w':World):Prop := ∃ g,e=.returned (.tuple #[.agg qU,.iface 122 (.pointer (some ⟨g,0,none⟩))])∧w.heap.size≤g∧Fa.lM w' g 0 (p:Int) 14∧Below w.heap.size w w'
def Jm (g:Nat)(w:World):Prop:=w.heap[g]? = some (.cells qU 23 (0,0))
def afQ (w:World)(g:Nat)(v0 v1 v2 v3:Value):World:=(((w.setCell ⟨g,0,none⟩ v0).setCell ⟨g,1,none⟩ v1).setCell ⟨g,2,none⟩ v2).setCell ⟨g,3,none⟩ v3
theorem wo {w:World}{g:Nat}(h:Jm g w)(v0 v1 v2 v3:Value):(afQ w g v0 v1 v2 v3).heap[g]? = some (.cells #[v0,v1,v2,v3] 23 (0,0)) :=
  vN (vN (vN (vN h 0 v0 rfl) 1 v1 rfl) 2 v2 rfl) 3 v3 rfl
theorem PH {w:World}{g k:Nat}(h:k≠g)(v0 v1 v2 v3:Value):(afQ w g v0 v1 v2 v3).heap[k]? = w.heap[k]?:=by
  unfold afQ;rw[heap_setCell_other _ _ _ _ h,heap_setCell_other _ _ _ _ h,heap_setCell_other _ _ _ _ h,heap_setCell_other _ _ _ _ h]
theorem wX {B:Nat}{w0 w:World}{g:Nat}(h:Below B w0 w)(hg:B≤g)(v0 v1 v2 v3:Value):Below B w0 (afQ w g v0 v1 v2 v3) :=
  (((h.setCell (p:=⟨g,0,none⟩) hg v0).setCell (p:=⟨g,1,none⟩) hg v1).setCell (p:=⟨g,2,none⟩) hg v2).setCell (p:=⟨g,3,none⟩) hg v3
theorem jF {w:World}{g:Nat}(h:Jm g w):w.cell? ⟨g,0,none⟩=some (.bool false)∧w.cell? ⟨g,1,none⟩=some (.bool false)∧w.cell? ⟨g,2,none⟩=some (.string (⟨#[]⟩:ByteArray))∧w.cell? ⟨g,3,none⟩=some (.int .i64 0) ∧
    w.frozen? ⟨g,0,none⟩=false∧w.frozen? ⟨g,1,none⟩=false∧w.frozen? ⟨g,2,none⟩=false∧w.frozen? ⟨g,3,none⟩=false:=by
  unfold Jm at h;exact⟨(ag h 0).trans rfl,(ag h 1).trans rfl,(ag h 2).trans rfl,(ag h 3).trans rfl,aj h 0,aj h 1,aj h 2,aj h 3⟩
theorem Ox (w:World):Jm w.heap.size (w.alloc (.cells qU 23)):=heap_alloc_new w _
theorem gX {g:Nat}{w w':World}(h:Jm g w)(hb:Below w.heap.size w w'):Jm g w':=by
  unfold Jm at *;rw[hb.block g (Array.getElem?_eq_some_iff.1 h).1];exact h
theorem vP {w0 w1 w2:World}{p gf:Nat}(h0:Below w0.heap.size w0 w1)(hr:Jm w0.heap.size w1)(hg:w1.heap.size≤gf)(hF:Fa.lM w2 gf 0 (p:Int) 14)(hb:Below w1.heap.size w1 w2) :
    I5 p w0 (.returned (.tuple #[.agg qU,.iface 122 (.pointer (some ⟨gf,0,none⟩))])) (afQ w2 w0.heap.size (.bool false) (.bool false) (.string (⟨#[]⟩:ByteArray)) (.int .i64 0)):=by
  have hlt:w0.heap.size<w1.heap.size:=(Array.getElem?_eq_some_iff.1 hr).1;refine⟨gf,rfl,by omega,?_,wX (h0.trans (hb.mono (by omega))) (Nat.le_refl _) _ _ _ _⟩;unfold Fa.lM at *;rw[PH (by omega)];exact hF
set_option maxHeartbeats 1000000 in
theorem TG (s:ByteArray)(w:World)(h:4096<s.size):Calls Tryz.prog 25 #[.string s] w fun e w'=>e=.returned (.tuple #[.agg qU,.iface 64 (.int .i64 13)])∧Below w.heap.size w w':=by
  have hb1:decide (4096<(s.size:Int))=true:=decide_eq_true (by omega);have hb2:decide (4096<s.size)=true:=decide_eq_true h;clear h
  go_enter Tryz.func25,Tryz.ntmps25
  go_wp2
  refine bodyPost_ret (dY rfl _ _ w.heap.size 23 qU (0,0) _ rfl (heap_alloc_new w _) Tryz.underlying23 rfl (by kernel_rfl)) rfl ?_;exact⟨rfl,(Below.refl _ w).alloc (Nat.le_refl _) _⟩
theorem ams {s:ByteArray}(hn:hd (· == 110) s.data.toList=true):bt s 0=110∧Lib.hasPrefix s.data.toList [110]=true:=by
  cases hl:s.data.toList with
  | nil=>rw[hl]at hn;cases hn
  | cons c l =>
    rw[hl]at hn
    have hc:c=110:=by simpa [hd] using hn
    subst hc;have h:=Nr 110 l;rw[← hl,He]at h;exact⟨by simpa using h,rfl⟩
theorem kC (s:ByteArray)(b:Bool)(h:Lib.hasPrefix s.data.toList [110]=b)(w:World) :
    Calls Tryz.prog 60 #[.string s,.string ((⟨#[110,97,114]⟩:ByteArray).extract 0 1)] w fun e w'=>e=.returned (.bool b)∧w'=w:=by
  subst h;exact Tryz.strings_HasPrefix s ⟨#[110]⟩ w
abbrev vz:ByteArray:=⟨#[110,97,114]⟩
theorem xh (l:List UInt8)(i:Nat)(x:UInt8):hd (· == x) (l.drop i)=true ↔ i<l.length∧bt (mkB l) (i:Int)=(x.toNat:Int):=by
  by_cases h:i<l.length
  · rw[Bv h,List.drop_eq_getElem_cons h]
    simp only[hd,beq_iff_eq,h,true_and]
    constructor
    · rintro rfl;rfl
    · intro h2
      exact UInt8.toNat_inj.1 (by omega)
  · rw[List.drop_eq_nil_iff.2 (by omega)]
    simp[hd,h]
theorem Dt (l:List UInt8):(∀ v:Nat,v<wordAt l→v<l.length∧bt (mkB l) (v:Int)=bt vz (v:Int))∧(wordAt l<3→wordAt l<l.length→bt (mkB l) (wordAt l:Int)≠bt vz (wordAt l:Int)):=by
  have z0:bt vz ((0:Nat):Int)=110:=by decide
  have z1:bt vz ((1:Nat):Int)=97:=by decide
  have z2:bt vz ((2:Nat):Int)=114:=by decide
  have h0:=xh l 0 110;have h1:=xh l 1 97;have h2:=xh l 2 114;rw[List.drop_zero]at h0;have t0:((110:UInt8).toNat:Int)=110:=rfl;have t1:((97:UInt8).toNat:Int)=97:=rfl;have t2:((114:UInt8).toNat:Int)=114:=rfl;rw[t0, ← z0]at h0;rw[t1, ← z1]at h1;rw[t2, ← z2]at h2;unfold wordAt
  by_cases c0:hd (· == 110) l=true
  · rw[if_pos c0]
    obtain⟨a0,b0⟩:=h0.1 c0
    by_cases c1:hd (· == 97) (l.drop 1)=true
    · rw[if_pos c1]
      obtain⟨a1,b1⟩:=h1.1 c1
      by_cases c2:hd (· == 114) (l.drop 2)=true
      · rw[if_pos c2]
        obtain⟨a2,b2⟩:=h2.1 c2;refine⟨fun v hv=>?_,fun h=>absurd h (by decide)⟩
        have:v=0∨v=1∨v=2:=by omega
        rcases this with rfl|rfl|rfl
        · exact⟨a0,b0⟩
        · exact⟨a1,b1⟩
        · exact⟨a2,b2⟩
      · rw[if_neg c2]
        refine⟨fun v hv=>?_,fun _ hl hb=>c2 (h2.2 ⟨hl,hb⟩)⟩
        have:v=0∨v=1:=by omega
        rcases this with rfl|rfl
        · exact⟨a0,b0⟩
        · exact⟨a1,b1⟩
    · rw[if_neg c1]
      refine⟨fun v hv=>?_,fun _ hl hb=>c1 (h1.2 ⟨hl,hb⟩)⟩
      obtain rfl:v=0:=by omega
      exact⟨a0,b0⟩
  · rw[if_neg c0]
    exact⟨fun v hv=>absurd hv (Nat.not_lt_zero v),fun _ hl hb=>c0 (h0.2 ⟨hl,hb⟩)⟩
def FI (l:List UInt8)(w:World)(e:Ending)(w':World):Prop :=
  if wordAt l<3∨3<l.length then I5 (wordAt l) w e w' else e=.returned (.tuple #[.agg #[.bool true,.bool false,.string (⟨#[]⟩:ByteArray),.int .i64 0],.nilIface])∧Below w.heap.size w w'
set_option maxHeartbeats 4000000 in
theorem Ul (s:ByteArray)(w:World)(h:s.size≤4096)(hn:hd (· == 110) s.data.toList=true) :
    Calls Tryz.prog 25 #[.string s] w fun e w'=>FI s.data.toList w e w':=by
  have hb1:decide (4096<(s.size:Int))=false:=decide_eq_false (by omega);have hb2:decide (4096<s.size)=false:=decide_eq_false (by omega);obtain⟨b0,hp⟩:=ams hn;obtain⟨sp1,sp2⟩:=Dt s.data.toList;obtain⟨le1,le2⟩:=JR s.data.toList;have hlen:s.data.toList.length=s.size:=Array.length_toList;rw[hlen]at le2;have HP:=am hp;have HR0:=am (Ox w);have S1:=am sp1;have S2:=am sp2;clear hp hn b0 sp1 sp2
  go_enter Tryz.func25,Tryz.ntmps25
  go_wp2_with (first|(go_at_call 60;refine (kC s _ HP.out _).mono ?_;rintro e w1 ⟨rfl,rfl⟩)|(go_at_call 61;refine (kH _ _).mono ?_;rintro e w2 ⟨gf,rfl,hgf,hFf,hbf⟩;obtain⟨k0,k1,k2,k3,k4,k5,k6,k7⟩:=jF (gX (by exact HR.out) hbf);have HF1:=am hgf;have HF2:=am hFf;have HF3:=am hbf;clear hgf hFf hbf))
  go_loopw [16] (fun i w' => ∃ v:Int,0≤v∧v≤(wordAt s.data.toList:Int)∧i=.int .i64 v∧ae (Jm w.heap.size w')∧ae (Below w.heap.size w w')) (fun i _=>(4-intOf i).toNat)
  case atStart=>exact⟨0,by omega,by omega,rfl,HR0,⟨(Below.refl _ w).alloc (Nat.le_refl _) _⟩⟩
  case round =>
    obtain⟨v,hv0,hv1,rfl,HR,HBJ⟩:=hrel;clear HR0
    by_cases h3:v<3
    · have d3:decide (v<3)=true:=decide_eq_true h3
      by_cases hs:v=(s.size:Int)
      · have q1:(v == (s.size:Int))=true:=beq_iff_eq.mpr hs
        have q2:decide (v<(s.size:Int))=false:=decide_eq_false (by omega)
        have HV:ae (v=(wordAt s.data.toList:Int)):=⟨by omega⟩
        have HW:ae (wordAt s.data.toList<3):=⟨by omega⟩
        clear hs
        go_wp2_with (first|(go_at_call 60;refine (kC s _ HP.out _).mono ?_;rintro e w1 ⟨rfl,rfl⟩)|(go_at_call 61;refine (kH _ _).mono ?_;rintro e w2 ⟨gf,rfl,hgf,hFf,hbf⟩;obtain⟨k0,k1,k2,k3,k4,k5,k6,k7⟩:=jF (gX (by exact HR.out) hbf);have HF1:=am hgf;have HF2:=am hFf;have HF3:=am hbf;clear hgf hFf hbf))
        repeat (go_quiet (fail);try go_wp2_with (first|(go_at_call 60;refine (kC s _ HP.out _).mono ?_;rintro e w1 ⟨rfl,rfl⟩)|(go_at_call 61;refine (kH _ _).mono ?_;rintro e w2 ⟨gf,rfl,hgf,hFf,hbf⟩;obtain⟨k0,k1,k2,k3,k4,k5,k6,k7⟩:=jF (gX (by exact HR.out) hbf);have HF1:=am hgf;have HF2:=am hFf;have HF3:=am hbf;clear hgf hFf hbf)))
        refine bodyPost_ret (dY rfl _ _ w.heap.size 23 qU (0,0) _ rfl (wo (gX (by exact HR.out) HF3.out) (.bool false) (.bool false) (.string (⟨#[]⟩:ByteArray)) (.int .i64 0)) Tryz.underlying23 rfl (by kernel_rfl)) rfl ?_;unfold FI;rw[if_pos (.inl HW.out)];refine vP (p:=wordAt s.data.toList) (by first|exact HBJ.out|exact aK HBJ.out _) (by exact HR.out) HF1.out ?_ HF3.out;rw[← HV.out];exact HF2.out
      · have hlt:v<(s.size:Int):=by omega
        have q1:(v == (s.size:Int))=false:=beq_eq_false_iff_ne.mpr hs;have p6:=eq_true hv0;have q6:=eq_true hlt;have q6b:decide (v<(s.size:Int))=true:=decide_eq_true hlt;have hx6:=mi s v;have q7:=eq_true h3;have hx7:=mi vz v
        by_cases hm:bt s v=bt vz v
        · have hm1:(bt s v == bt vz v)=true:=beq_iff_eq.mpr hm
          have hm2:(bt s v != bt vz v)=false:=bne_eq_false_iff_eq.mpr hm
          have HV:ae (v<(wordAt s.data.toList:Int)):=⟨by
            by_cases h':v<(wordAt s.data.toList:Int)
            · exact h'
            · exfalso
              have e1:v=(wordAt s.data.toList:Int):=by omega
              refine S2.out (by omega) (by rw[hlen];omega) ?_
              rw[He, ← e1];exact hm⟩
          clear hs hm hlt
          go_wp2_with (first|(go_at_call 60;refine (kC s _ HP.out _).mono ?_;rintro e w1 ⟨rfl,rfl⟩)|(go_at_call 61;refine (kH _ _).mono ?_;rintro e w2 ⟨gf,rfl,hgf,hFf,hbf⟩;obtain⟨k0,k1,k2,k3,k4,k5,k6,k7⟩:=jF (gX (by exact HR.out) hbf);have HF1:=am hgf;have HF2:=am hFf;have HF3:=am hbf;clear hgf hFf hbf))
          repeat (go_quiet (fail);try go_wp2_with (first|(go_at_call 60;refine (kC s _ HP.out _).mono ?_;rintro e w1 ⟨rfl,rfl⟩)|(go_at_call 61;refine (kH _ _).mono ?_;rintro e w2 ⟨gf,rfl,hgf,hFf,hbf⟩;obtain⟨k0,k1,k2,k3,k4,k5,k6,k7⟩:=jF (gX (by exact HR.out) hbf);have HF1:=am hgf;have HF2:=am hFf;have HF3:=am hbf;clear hgf hFf hbf)))
          go_roundw
          case rel=>exact⟨v+1,by omega,by have:=HV.out;omega,by first|rfl|rw[ja (by omega) (by omega)],⟨by exact HR.out⟩,⟨by first|exact HBJ.out|exact aK HBJ.out _⟩⟩
          case measure=>simp only[intOf];omega
        · have hm1:(bt s v == bt vz v)=false:=beq_eq_false_iff_ne.mpr hm
          have hm2:(bt s v != bt vz v)=true:=bne_iff_ne.mpr hm
          have HV:ae (v=(wordAt s.data.toList:Int)):=⟨by
            by_cases h':v<(wordAt s.data.toList:Int)
            · exfalso
              obtain⟨n,rfl⟩:=Int.eq_ofNat_of_zero_le hv0;exact hm (S1.out n (by omega)).2
            · omega⟩
          have HW:ae (wordAt s.data.toList<3):=⟨by have:=HV.out;omega⟩
          clear hs hm hlt
          go_wp2_with (first|(go_at_call 60;refine (kC s _ HP.out _).mono ?_;rintro e w1 ⟨rfl,rfl⟩)|(go_at_call 61;refine (kH _ _).mono ?_;rintro e w2 ⟨gf,rfl,hgf,hFf,hbf⟩;obtain⟨k0,k1,k2,k3,k4,k5,k6,k7⟩:=jF (gX (by exact HR.out) hbf);have HF1:=am hgf;have HF2:=am hFf;have HF3:=am hbf;clear hgf hFf hbf))
          repeat (go_quiet (fail);try go_wp2_with (first|(go_at_call 60;refine (kC s _ HP.out _).mono ?_;rintro e w1 ⟨rfl,rfl⟩)|(go_at_call 61;refine (kH _ _).mono ?_;rintro e w2 ⟨gf,rfl,hgf,hFf,hbf⟩;obtain⟨k0,k1,k2,k3,k4,k5,k6,k7⟩:=jF (gX (by exact HR.out) hbf);have HF1:=am hgf;have HF2:=am hFf;have HF3:=am hbf;clear hgf hFf hbf)))
          refine bodyPost_ret (dY rfl _ _ w.heap.size 23 qU (0,0) _ rfl (wo (gX (by exact HR.out) HF3.out) (.bool false) (.bool false) (.string (⟨#[]⟩:ByteArray)) (.int .i64 0)) Tryz.underlying23 rfl (by kernel_rfl)) rfl ?_;unfold FI;rw[if_pos (.inl HW.out)];refine vP (p:=wordAt s.data.toList) (by first|exact HBJ.out|exact aK HBJ.out _) (by exact HR.out) HF1.out ?_ HF3.out;rw[← HV.out];exact HF2.out
    · have d3:decide (v<3)=false:=decide_eq_false h3
      have HW:ae (wordAt s.data.toList=3):=⟨by omega⟩
      have HL:=am hlen
      by_cases hl:3<s.size
      · have r1:decide ((3:Int)<(s.size:Int))=true:=decide_eq_true (by omega)
        have r2:decide (3<s.size)=true:=decide_eq_true hl;have HL3:=am hl;clear hl
        go_wp2_with (first|(go_at_call 60;refine (kC s _ HP.out _).mono ?_;rintro e w1 ⟨rfl,rfl⟩)|(go_at_call 61;refine (kH _ _).mono ?_;rintro e w2 ⟨gf,rfl,hgf,hFf,hbf⟩;obtain⟨k0,k1,k2,k3,k4,k5,k6,k7⟩:=jF (gX (by exact HR.out) hbf);have HF1:=am hgf;have HF2:=am hFf;have HF3:=am hbf;clear hgf hFf hbf))
        refine bodyPost_ret (dY rfl _ _ w.heap.size 23 qU (0,0) _ rfl (wo (gX (by exact HR.out) HF3.out) (.bool false) (.bool false) (.string (⟨#[]⟩:ByteArray)) (.int .i64 0)) Tryz.underlying23 rfl (by kernel_rfl)) rfl ?_;unfold FI;rw[if_pos (.inr (by rw[HL.out];exact HL3.out))];refine vP (p:=wordAt s.data.toList) (by first|exact HBJ.out|exact aK HBJ.out _) (by exact HR.out) HF1.out ?_ HF3.out;rw[HW.out];exact HF2.out
      · have r1:decide ((3:Int)<(s.size:Int))=false:=decide_eq_false (by omega)
        have r2:decide (3<s.size)=false:=decide_eq_false hl;have HL3:=am hl;obtain⟨k0,k1,k2,k3,k4,k5,k6,k7⟩:=jF HR.out;clear hl
        go_wp2_with (first|(go_at_call 60;refine (kC s _ HP.out _).mono ?_;rintro e w1 ⟨rfl,rfl⟩)|(go_at_call 61;refine (kH _ _).mono ?_;rintro e w2 ⟨gf,rfl,hgf,hFf,hbf⟩;obtain⟨k0,k1,k2,k3,k4,k5,k6,k7⟩:=jF (gX (by exact HR.out) hbf);have HF1:=am hgf;have HF2:=am hFf;have HF3:=am hbf;clear hgf hFf hbf))
        refine bodyPost_ret (dY rfl _ _ w.heap.size 23 #[.bool true,.bool false,.string (⟨#[]⟩:ByteArray),.int .i64 0] (0,0) _ rfl (wo HR.out (.bool true) (.bool false) (.string (⟨#[]⟩:ByteArray)) (.int .i64 0)) Tryz.underlying23 rfl (by kernel_rfl)) rfl ?_;unfold FI
        rw [if_neg (by rw [HL.out, HW.out]; intro h'; rcases h' with h' | h'; · omega
                       · exact HL3.out h')]
        exact⟨rfl,wX HBJ.out (Nat.le_refl _) _ _ _ _⟩
theorem W9 (l:List UInt8):strOfNums (l.map fun c=>(c.toNat:Int))=mkB l:=by
 unfold strOfNums mkB;rw[List.map_map]
 congr 2
 conv=>rhs;rw[← List.map_id l]
 refine List.map_congr_left fun c _=>?_;simp
theorem Nl {B:Nat}{v:Value}{ds:List UInt8}{W:World}(h:W.ownsRow B 5 1 v ds.length (xH ds))(h0:ds≠[]) :
  (∃ gr cap,v=.slice (some ⟨gr,0,none⟩) ds.length cap)∧(convert 104 9 v).run Tryz.prog W=.ok (.string (mkB ds)) W:=by
 have hp:=List.length_pos_iff.2 h0;rcases h.2 with⟨_,hz⟩|⟨g,cap,cur,rfl,hB,hg,hn,hc,hs,ht⟩
 ·omega
 ·refine⟨⟨g,cap,rfl⟩,?_⟩
  rw[← W9];refine run_convert_bytes_arg W 104 5 Tryz.underlying104 Tryz.underlying5 g 0 ds.length cap _ (by simp) (fun i hi=>?_) 9 Tryz.underlying9
  have e:cur.toList[i]? = some (.int .u8 ((ds[i]'hi).toNat:Int)):=by
   have:(cur.toList.take (ds.length*1))[i]? = (xH ds)[i]?:=by rw[ht]
   rw[List.getElem?_take_of_lt (by omega)]at this;rw[this];simp[xH,hi]
  rw[Nat.zero_add];simp[World.cell?, hg];simp at e;rw[e];simp[hi]
theorem ab1 {s:ByteArray}{v:Int}(h0:0≤v)(h1:v<(s.size:Int)):∃ h:v.toNat<s.data.toList.length,bt s v=((s.data.toList[v.toNat]'h).toNat:Int):=by
 have hl:s.data.toList.length=s.size:=Array.length_toList
 have h:v.toNat<s.data.toList.length:=by omega
 refine⟨h,?_⟩;have:=Bv h;rw[He,Int.toNat_of_nonneg h0]at this;exact this
theorem TQ {g B:Nat}{w w':World}(h:Jm g w)(hb:Below B w w')(hg:g<B):Jm g w':=by
 unfold Jm at *;rw[hb.block g hg];exact h
theorem acv {B b:Nat}{r:R}{w:World}(h:At B b r w):b<w.heap.size:=by
 obtain⟨v,h⟩:=h;exact (Array.getElem?_eq_some_iff.1 h.2.1).1
theorem PM {B b k:Nat}{r:R}{c:UInt8}{x:Int}{w:World}(hx:x=(c.toNat:Int))(h:At B b r w)(hi:Inv k r)(ht:tk r c=none) :
  Calls Tryz.prog 62 #[.pointer (some ⟨b,0,none⟩),.int .u8 x] w fun e w'=>e=.returned (.bool false)∧Below B w w':=by
 subst hx;exact Ui B b k r c w h hi ht
theorem Ph {B b k:Nat}{r r':R}{c:UInt8}{x:Int}{w:World}(hx:x=(c.toNat:Int))(h:At B b r w)(hi:Inv k r)(hk:k<1000000)(hB:B≤w.heap.size)(ht:tk r c=some r') :
  Calls Tryz.prog 62 #[.pointer (some ⟨b,0,none⟩),.int .u8 x] w fun e w'=>e=.returned (.bool true)∧At B b r' w'∧Below B w w':=by
 subst hx;exact Tc B b k r r' c w h hi hk hB ht
theorem QR {g b:Nat}{st:Int}{neg:Bool}{v:Value}{ds:List UInt8}{beh:Int}{eneg:Bool}{exp:Int}{w0 W:World}(h:Held b b st neg v ds beh eneg exp W)(hR:Jm g W)(hB:Below g w0 W)(hg:g<b)(x:Value) :
  Jm g (W.setCell ⟨b,5,none⟩ x)∧Below g w0 (W.setCell ⟨b,5,none⟩ x):=by
 refine⟨?_,hB.setCell (p:=⟨b,5,none⟩) (Nat.le_of_lt hg) x⟩;unfold Jm at *;rw[heap_setCell_other W ⟨b,5,none⟩ g x (Nat.ne_of_lt hg)];exact hR
def alc (r:R):Int:=(if r.eneg=true then -(r.exp:Int) else (r.exp:Int))-(r.beh:Int)
theorem NV (y:Int):max (-1000000) (min 1000000 y)=held y:=by
 unfold held nM;split <;> (try split) <;> omega
def wV (l:List UInt8)(w:World)(e:Ending)(w':World):Prop :=
 match scan l with
 | .inl p=>I5 p w e w'
 | .inr r=>e=.returned (.tuple #[.agg #[.bool (nrm (toD r)).nar,.bool (nrm (toD r)).neg,.string (mkB (nrm (toD r)).ds),.int .i64 (nrm (toD r)).e],.nilIface])∧Below w.heap.size w w'
set_option maxHeartbeats 1600000 in
set_option maxRecDepth 100000 in
theorem scan_num (s:ByteArray)(w:World)(h:s.size≤4096)(hn:Lib.hasPrefix s.data.toList [110]=false) :
  Calls Tryz.prog 25 #[.string s] w fun e w'=>wV s.data.toList w e w':=by
 have hb1:decide (4096<(s.size:Int))=false:=decide_eq_false (by omega);have hb2:decide (4096<s.size)=false:=decide_eq_false (by omega);have hlen:s.data.toList.length=s.size:=Array.length_toList;have HL:=am hlen;have HP:=am hn;have HS:=am h;clear hn h hlen
 have HA0:ae (At (w.heap.size+1) (w.heap.size+1) r0 ((w.alloc (.cells qU 23)).alloc (.cells #[.int .i64 0,.bool false,.slice none 0 0,.int .i64 0,.bool false,.int .i64 0] 106))):=⟨⟨.slice none 0 0,Nat.le_refl _,by
  have h2:=heap_alloc_new (w.alloc (.cells qU 23)) (.cells #[.int .i64 0,.bool false,.slice none 0 0,.int .i64 0,.bool false,.int .i64 0] 106)
  have e:(w.alloc (.cells qU 23)).heap.size=w.heap.size+1:=by simp
  rw[e]at h2
  exact h2,World.ownsRow_nil _ _ _ _⟩⟩
 have HR0:ae (Jm w.heap.size ((w.alloc (.cells qU 23)).alloc (.cells #[.int .i64 0,.bool false,.slice none 0 0,.int .i64 0,.bool false,.int .i64 0] 106))):=⟨gX (Ox w) ((Below.refl _ _).alloc (Nat.le_refl _) _)⟩
 go_enter Tryz.func25,Tryz.ntmps25
 go_wp2_with (go_at_call 60;refine (kC s _ HP.out _).mono ?_;rintro e w1 ⟨rfl,rfl⟩)
 go_loopw [43] (fun i w' => ∃ (v:Int) (r:R),0≤v∧v≤(s.size:Int)∧i=.int .i64 v∧ae (run r0 0 s.data.toList=run r v.toNat (s.data.toList.drop v.toNat))∧ae (Inv v.toNat r)∧ae (At (w.heap.size+1) (w.heap.size+1) r w')∧ae (Jm w.heap.size w')∧ae (Below w.heap.size w w')) (fun i _=>(4100-intOf i).toNat)
 case atStart =>
  exact⟨0,r0,by omega,by omega,rfl,⟨by simp⟩,⟨inv0⟩,HA0,HR0,⟨((Below.refl _ w).alloc (Nat.le_refl _) _).alloc (by simp) _⟩⟩
 case round =>
  obtain⟨v,r,hv0,hv1,rfl,HRUN,HI,HAT,HR,HBJ⟩:=hrel;clear HR0 HA0;have HB:=am (acv HAT.out)
  by_cases hlt:v<(s.size:Int)
  ·have d1:decide (v<(s.size:Int))=true:=decide_eq_true hlt
   have p6:=eq_true hv0;have q6:=eq_true hlt;have hx6:=mi s v;obtain⟨hi,hbt⟩:=ab1 hv0 hlt;have hdrop:=List.drop_eq_getElem_cons hi
   obtain⟨c,hc⟩:∃ c,c=s.data.toList[v.toNat]'hi:=⟨_,rfl⟩
   rw[← hc]at hbt hdrop;have HD:=am hdrop;have HBT:=am hbt;have HS2:=am hlt;clear hlt hbt hdrop hc
   cases ht:tk r c with
   | none =>
    have HT:=am ht;have HV:=am hv0;clear ht hv0 hv1
    go_wp2_with (first|(go_at_call 62;refine (PM HBT.out HAT.out HI.out HT.out).mono ?_;rintro e w1 ⟨rfl,hb⟩;have HR1:=am (TQ HR.out hb (Nat.lt_succ_self _));have HB1:=am (HBJ.out.trans (hb.mono (Nat.le_succ _)));clear hb)|(go_at_call 61;refine (kH _ _).mono ?_;rintro e w2 ⟨gf,rfl,hgf,hFf,hbf⟩;obtain⟨k0,k1,k2,k3,k4,k5,k6,k7⟩:=jF (gX (by exact HR1.out) hbf);have HF1:=am hgf;have HF2:=am hFf;have HF3:=am hbf;clear hgf hFf hbf))
    refine bodyPost_ret (dY rfl _ _ w.heap.size 23 qU (0,0) _ rfl (wo (gX (by exact HR1.out) HF3.out) (.bool false) (.bool false) (.string (⟨#[]⟩:ByteArray)) (.int .i64 0)) Tryz.underlying23 rfl (by kernel_rfl)) rfl ?_
    have hscan:scan s.data.toList=.inl v.toNat:=by
     unfold scan;rw[HRUN.out,HD.out,run,HT.out]
    unfold wV;rw[hscan];refine vP HB1.out HR1.out HF1.out ?_ HF3.out;rw[Int.toNat_of_nonneg HV.out];exact HF2.out
   | some r' =>
    have HT:=am ht;clear ht
    go_wp2_with (go_at_call 62;refine (Ph HBT.out HAT.out HI.out (by have:=HS.out;have:=HS2.out;omega) (Nat.le_of_lt HB.out) HT.out).mono ?_;rintro e w1 ⟨rfl,ha,hb⟩;have HA1:=am ha;have HR1:=am (TQ HR.out hb (Nat.lt_succ_self _));have HB1:=am (HBJ.out.trans (hb.mono (Nat.le_succ _)));clear ha hb)
    go_roundw
    case rel =>
     have e1:(v+1).toNat=v.toNat+1:=by omega
     refine⟨v+1,r',by omega,by have:=HS2.out;omega,by first|rfl|rw[ja (by omega) (by have:=HS.out;omega)],⟨?_⟩,⟨?_⟩,HA1,HR1,HB1⟩
     ·rw[HRUN.out,HD.out,run,HT.out,e1]
     ·rw[e1];exact HI.out.tk HT.out
    case measure=>have hq:=HS.out;have e9:=ja (n:=v+1) (by omega) (by omega);simp only[intOf];first|(rw[e9];omega)|omega
  ·have d1:decide (v<(s.size:Int))=false:=decide_eq_false hlt
   have HE:ae (run r0 0 s.data.toList=.inr r):=⟨by
    rw[HRUN.out,List.drop_eq_nil_iff.2 (by rw[HL.out];omega)];rfl⟩
   have HZ:ae (v.toNat=s.size):=⟨by omega⟩
   clear hlt hv0 hv1
   cases hw:whole r with
   | false =>
    have HW:=am hw;clear hw;have HR1:=HR
    go_wp2_with (first|(go_at_call 63;refine (xP _ _ _ r _ HAT.out HI.out).mono ?_;rw[HW.out];rintro e w1 ⟨rfl,rfl⟩)|(go_at_call 61;refine (kH _ _).mono ?_;rintro e w2 ⟨gf,rfl,hgf,hFf,hbf⟩;obtain⟨k0,k1,k2,k3,k4,k5,k6,k7⟩:=jF (gX (by exact HR1.out) hbf);have HF1:=am hgf;have HF2:=am hFf;have HF3:=am hbf;clear hgf hFf hbf))
    refine bodyPost_ret (dY rfl _ _ w.heap.size 23 qU (0,0) _ rfl (wo (gX (by exact HR1.out) HF3.out) (.bool false) (.bool false) (.string (⟨#[]⟩:ByteArray)) (.int .i64 0)) Tryz.underlying23 rfl (by kernel_rfl)) rfl ?_
    have hscan:scan s.data.toList=.inl s.size:=by
     unfold scan;rw[HE.out];simp only[HW.out,Bool.false_eq_true,if_false,HL.out]
    unfold wV;rw[hscan];exact vP HBJ.out HR1.out HF1.out HF2.out HF3.out
   | true =>
    have HW:=am hw;clear hw
    have hscan:scan s.data.toList=.inr r:=by
     unfold scan;rw[HE.out];simp only[HW.out,if_true]
    have HSC:=am hscan;have hfm:=Dc hscan (by rw[HL.out];exact HS.out)
    have hds:r.ds≠[]:=by
     have:=hfm;unfold formed toD at this;simp only[Bool.false_eq_true,if_false,Bool.and_eq_true,Bool.not_eq_true',List.isEmpty_eq_false_iff]at this;exact this.1
    have hbd:=qX hfm;have hexp:=HI.out.exp
    have hbeh:r.beh≤4096:=by
     have h1:=HI.out.beh;have h2:=HI.out.len;have h3:=HS.out;have h4:=HZ.out
     omega
    have htr:=AU (toD r) (by omega) hbd.2.1 hbd.2.2;obtain⟨va,hHeld⟩:=HAT.out;obtain⟨⟨gr,cap,rfl⟩,hcv⟩:=Nl hHeld.2.2 hds;obtain⟨c0,c1,c2,c3,c4,c5,f0,f1,f2,f3,f4,f5,hblt⟩:=tq hHeld.2.1;have HHELD:=am hHeld;clear hscan hfm hbd hHeld
    by_cases hE:r.eneg=true
    ·rw[hE]at c4
     have hneg:wrap64 (-(r.exp:Int)) = -(r.exp:Int):=ja (by unfold far at hexp;omega) (by unfold far at hexp;omega);have hnegw:IntKind.i64.wrap (-(r.exp:Int)) = -(r.exp:Int):=(cu _).trans hneg;have hcv2:=(Nl (HHELD.out.Lh (-(r.exp:Int))).2.2 hds).2;obtain⟨qr1,qb1⟩:=QR HHELD.out HR.out HBJ.out (Nat.lt_succ_self _) (.int .i64 (-(r.exp:Int)));have HR1:=am qr1;have HB1:=am qb1;clear qr1 qb1
     have hyy:alc r = -(r.exp:Int)-(r.beh:Int):=by unfold alc;rw[hE];rfl
     obtain⟨y,hy⟩:∃ y:Int,y = -(r.exp:Int)-(r.beh:Int):=⟨_,rfl⟩
     have hsub:wrap64 (-(r.exp:Int)-(r.beh:Int))=y:=by rw[hy];exact ja (by unfold far at hexp;omega) (by unfold far at hexp;omega)
     have hsubw:IntKind.i64.wrap (-(r.exp:Int)-(r.beh:Int))=y:=(cu _).trans hsub;have hz:max (-1000000) (min 1000000 y)=held y:=NV y
     have HTR:ae (iL.f false r.neg (mkB r.ds) (max (-1000000) (min 1000000 y))=some ((nrm (toD r)).nar,(nrm (toD r)).neg,mkB (nrm (toD r)).ds,(nrm (toD r)).e)):=⟨by
      have h1:(toD r).e=max (-1000000) (min 1000000 y):=by rw[hz,hy, ← hyy];rfl
      rw[← h1];exact htr⟩
     clear htr hy hyy hz hds hexp hbeh
     go_wp2_with (first|(go_at_call 63;refine (xP _ _ _ r _ HAT.out HI.out).mono ?_;rw[HW.out];rintro e w1 ⟨rfl,rfl⟩)|(go_at_call 64;refine (iL.calls _ _ _ _ _ _ _ _ _ HTR.out).mono ?_;rintro e w3 ⟨rfl,hb3⟩;obtain⟨k0,k1,k2,k3,k4,k5,k6,k7⟩:=jF (gX (by exact HR1.out) hb3);have HF3:=am hb3;clear hb3))
     refine bodyPost_ret (dY rfl _ _ w.heap.size 23 #[.bool (nrm (toD r)).nar,.bool (nrm (toD r)).neg,.string (mkB (nrm (toD r)).ds),.int .i64 (nrm (toD r)).e] (0,0) _ rfl (wo (gX (by exact HR1.out) HF3.out) _ _ _ _) Tryz.underlying23 rfl (by kernel_rfl)) rfl ?_;unfold wV;rw[HSC.out];exact⟨rfl,wX (HB1.out.trans (HF3.out.mono (by have:=HB1.out.size;exact this))) (Nat.le_refl _) _ _ _ _⟩
    ·replace hE:=Bool.eq_false_iff.2 hE
     rw[hE]at c4;have HR1:=HR;have HB1:=HBJ
     have hyy:alc r=(r.exp:Int)-(r.beh:Int):=by unfold alc;rw[hE];rfl
     obtain⟨y,hy⟩:∃ y:Int,y=(r.exp:Int)-(r.beh:Int):=⟨_,rfl⟩
     have hsub:wrap64 ((r.exp:Int)-(r.beh:Int))=y:=by rw[hy];exact ja (by unfold far at hexp;omega) (by unfold far at hexp;omega)
     have hsubw:IntKind.i64.wrap ((r.exp:Int)-(r.beh:Int))=y:=(cu _).trans hsub;have hz:max (-1000000) (min 1000000 y)=held y:=NV y
     have HTR:ae (iL.f false r.neg (mkB r.ds) (max (-1000000) (min 1000000 y))=some ((nrm (toD r)).nar,(nrm (toD r)).neg,mkB (nrm (toD r)).ds,(nrm (toD r)).e)):=⟨by
      have h1:(toD r).e=max (-1000000) (min 1000000 y):=by rw[hz,hy, ← hyy];rfl
      rw[← h1];exact htr⟩
     clear htr hy hyy hz hds hexp hbeh
     go_wp2_with (first|(go_at_call 63;refine (xP _ _ _ r _ HAT.out HI.out).mono ?_;rw[HW.out];rintro e w1 ⟨rfl,rfl⟩)|(go_at_call 64;refine (iL.calls _ _ _ _ _ _ _ _ _ HTR.out).mono ?_;rintro e w3 ⟨rfl,hb3⟩;obtain⟨k0,k1,k2,k3,k4,k5,k6,k7⟩:=jF (gX (by exact HR1.out) hb3);have HF3:=am hb3;clear hb3))
     refine bodyPost_ret (dY rfl _ _ w.heap.size 23 #[.bool (nrm (toD r)).nar,.bool (nrm (toD r)).neg,.string (mkB (nrm (toD r)).ds),.int .i64 (nrm (toD r)).e] (0,0) _ rfl (wo (gX (by exact HR1.out) HF3.out) _ _ _ _) Tryz.underlying23 rfl (by kernel_rfl)) rfl ?_;unfold wV;rw[HSC.out];exact⟨rfl,wX (HB1.out.trans (HF3.out.mono (by have:=HB1.out.size;exact this))) (Nat.le_refl _) _ _ _ _⟩
def rU.f (s:ByteArray):Option (Bool × Bool × ByteArray × Int × Option Int) :=
 match vw s.data.toList with
 | .long=>some (false,false,(⟨#[]⟩:ByteArray),0,some 13)
 | .bad _=>none
 | .ok d=>some (d.nar,d.neg,mkB d.ds,d.e,none)
theorem Js {l:List UInt8}(h:¬ hd (· == 110) l=true):Lib.hasPrefix l [110]=false:=by
 cases l with
 | nil=>rfl
 | cons c l =>
  have hc:¬ c=110:=by simpa [hd] using h
  unfold Lib.hasPrefix;rw[Bool.eq_false_iff];intro h2;have:=List.isPrefixOf_iff_prefix.1 h2;obtain⟨t,ht⟩:=this;simp at ht;exact hc ht.1.symm
def Ag (l:List UInt8)(w:World)(e:Ending)(w':World):Prop :=
 match vw l with
 | .long=>e=.returned (.tuple #[.agg qU,.iface 64 (.int .i64 13)])∧Below w.heap.size w w'
 | .bad p=>I5 p w e w'
 | .ok d=>e=.returned (.tuple #[.agg #[.bool d.nar,.bool d.neg,.string (mkB d.ds),.int .i64 d.e],.nilIface])∧Below w.heap.size w w'
theorem Om (s:ByteArray)(w:World):Calls Tryz.prog 25 #[.string s] w fun e w'=>Ag s.data.toList w e w':=by
 have hl:s.data.toList.length=s.size:=Array.length_toList
 by_cases h4:4096<s.size
 ·refine (TG s w h4).mono ?_
  intro e w' h;unfold Ag vw;rw[if_pos (by omega)];exact h
 ·by_cases hn:hd (· == 110) s.data.toList=true
  ·refine (Ul s w (by omega) hn).mono ?_
   intro e w' h;unfold Ag vw;unfold FI at h;rw[if_neg (by omega),if_pos hn]
   by_cases hw:wordAt s.data.toList<3∨3<s.data.toList.length
   ·rw[if_pos hw]at h ⊢;exact h
   ·rw[if_neg hw]at h ⊢;exact h
  ·refine (scan_num s w (by omega) (Js hn)).mono ?_
   intro e w' h;unfold Ag vw;unfold wV at h;rw[if_neg (by omega),if_neg hn]
   cases hs:scan s.data.toList with
   | inl p=>rw[hs]at h;exact h
   | inr r=>rw[hs]at h;exact h
theorem rU.calls (a0:ByteArray)(r1:Bool)(r2:Bool)(r3:ByteArray)(r4:Int)(r5:Option Int)(w:World)(h:rU.f a0=some (r1,r2,r3,r4,r5)) :
  Calls Tryz.prog 25 #[.string a0] w fun e w'=>e=.returned (.tuple #[.agg #[.bool r1,.bool r2,.string r3,.int .i64 r4],rF r5])∧Below w.heap.size w w':=by
 refine (Om a0 w).mono ?_;intro e w' hs;unfold Ag at hs;unfold rU.f at h
 cases hc:vw a0.data.toList with
 | long =>
  rw[hc]at h hs;simp only[Option.some.injEq,Prod.mk.injEq]at h;obtain⟨rfl,rfl,rfl,rfl,rfl⟩:=h;exact hs
 | bad p=>rw[hc]at h;simp at h
 | ok d =>
  rw[hc]at h hs;simp only[Option.some.injEq,Prod.mk.injEq]at h;obtain⟨rfl,rfl,rfl,rfl,rfl⟩:=h;exact hs
theorem scan_bad (a0:ByteArray)(p:Nat)(w:World)(h:vw a0.data.toList=.bad p):Calls Tryz.prog 25 #[.string a0] w fun e w'=>I5 p w e w':=by
 refine (Om a0 w).mono ?_;intro e w' hs;unfold Ag at hs;rw[h]at hs;exact hs
end Go.Proofs.Yy.PTx
end
section
namespace Go.Proofs.Yy.PTx
open Go.RowKit Go.Proofs.Yw.PrintWords Go.Proofs.Yw.PrintLast Go.Proofs.Yw.PrintMore Go.Shelf Go.Lib
def bits_TrailingZeros64.f (x:Int):Option Int:=if 0≤x∧x<18446744073709551616 then some ((Lib.ctz 64 x.toNat:Nat):Int) else none
set_option maxHeartbeats 1000000 in
theorem tz64_core (x k idx:Nat)(w:World)(hx0:((x:Int) == 0)=false)
  (key:IntKind.u64.wrap (Go.bits BinOp.and IntKind.u64 (x:Int) (IntKind.u64.wrap (-(x:Int)))*285870213051353865) / 288230376151711744=(idx:Int))
  (hi:idx<64) (hk:k<64) (hcell:w.cell? ⟨0,idx,none⟩=some (.int .u8 k)) :
  Calls Tryz.prog 47 #[.int .u64 x] w fun e w'=>e=.returned (.int .i64 k)∧w'=w:=by
 go_enter Tryz.func47,Tryz.ntmps47
 go_wp2_with (simp only[key])
 go_ret
 exact⟨rfl,rfl⟩
theorem tz64_zero (w:World):Calls Tryz.prog 47 #[.int .u64 0] w fun e w'=>e=.returned (.int .i64 64)∧w'=w:=by
 go_enter Tryz.func47,Tryz.ntmps47
 go_wp2
 go_ret
 exact⟨rfl,rfl⟩
theorem tz64_key (x a:Nat)(hx:x<18446744073709551616)(hx0:x≠0)(hlow:x &&& (18446744073709551616-x)=a) :
  IntKind.u64.wrap (Go.bits BinOp.and IntKind.u64 (x:Int) (IntKind.u64.wrap (-(x:Int)))*285870213051353865) / 288230376151711744=((a*285870213051353865 % 18446744073709551616 / 288230376151711744:Nat):Int):=by
 have e1:IntKind.u64.wrap (-(x:Int))=((18446744073709551616-x:Nat):Int):=by rw[IntKind.wrap_u64];omega
 rw[e1,bits_and_u64_nat x _ hx (by omega),hlow,IntKind.wrap_u64]
 omega
theorem amm {w:World}(h:Fx.Tz w)(j:Nat)(hj:j<64):w.cell? ⟨0,j,none⟩=some (.int .u8 (Lib.deBruijn64tab.getD j 0)):=by
 have hl:Fx.Xn.length=64:=by decide
 have h2:=Lib.TabIs.cell h (g:=0) (by kernel_rfl) j (by rw[hl];exact hj);rw[h2]
 congr 2
 have e:Lib.deBruijn64tab.length=64:=by decide
 unfold Fx.Xn;rw[List.getD_eq_getElem?_getD,List.getD_eq_getElem?_getD,List.getElem?_map,List.getElem?_eq_getElem (by rw[e];exact hj)]
 rfl
theorem bits_TrailingZeros64.calls (a0:Int)(r:Int)(w:World)(h:bits_TrailingZeros64.f a0=some r)(htab:Fx.Laid w:=by exact Fx.Laid.below HTAB.out (by repeat (first|(with_reducible first|exact HB.out|apply bD|apply aK|apply aX|refine bQ ?_ (ae.out (by assumption)))|exact HB.out))) :
  Calls Tryz.prog 47 #[.int .u64 a0] w fun e w'=>e=.returned (.int .i64 r)∧Below w.heap.size w w':=by
 unfold bits_TrailingZeros64.f at h
 by_cases hg:0≤a0∧a0<18446744073709551616
 case neg=>rw[if_neg hg]at h;exact absurd h (by simp)
 rw[if_pos hg]at h;obtain rfl:=Option.some.inj h;obtain⟨x,rfl⟩:=Int.eq_ofNat_of_zero_le hg.1
 have hx:x<18446744073709551616:=by omega
 rw[Int.toNat_natCast]
 by_cases hx0:x=0
 ·subst hx0
  exact (tz64_zero w).mono fun _ _ ⟨he,hw⟩=>⟨he,by rw[hw];exact Below.refl _ _⟩
 ·obtain⟨hlow,hk⟩:=Lib.lowest_bit 64 x hx0 hx
  obtain⟨hi,ht⟩:=Lib.deBruijn64_at _ hk;have hcell:=amm htab.2 _ hi;rw[ht]at hcell
  exact (tz64_core x _ _ w (by simp;omega) (tz64_key x _ hx hx0 hlow) hi hk hcell).mono fun _ _ ⟨he,hw⟩=>⟨he,by rw[hw];exact Below.refl _ _⟩
end Go.Proofs.Yy.PTx
end
section
set_option maxHeartbeats 8000000
set_option maxRecDepth 100000
namespace Go.Proofs.Yy.PTx
open Go.RowKit Go.Proofs.Yy.Z Go.Proofs.Yw.PrintWords Go.Proofs.Yw.PrintLast Go.Proofs.Yw.PrintMore
open Go.Proofs.Yy.M
attribute [local go_sem] dG dP kR kT kW kS
attribute [local go_sem] gI gG iP iR fF fG gW gV
mutual
def gz.j0:Nat→List Int→List Int→Option (List Int)
  | 0,_,_=>none
  | k+1,x0,x1=>if 0≤(wrap64 ((x0.length:Int)+1)) then (if (wrap64 ((x0.length:Int)+1):Int).toNat≤35184372088832 then (gz.l0 k x0 x1 (List.replicate (wrap64 ((x0.length:Int)+1):Int).toNat 0) 0 x0 (x0.length:Int) 0) else (none)) else (none)
def gz.l0:Nat→List Int→List Int→List Int→Int→List Int→Int→Int→Option (List Int)
  | 0,_,_,_,_,_,_,_=>none
  | k+1,x0,x1,x5,x6,x21,x22,x23=>if x23<x22 then (if 0≤x23 then (if x23<(x21.length:Int) then (if x23<(x1.length:Int) then (if x6≤1 then (if x23<(x5.length:Int) then (gz.l0 k x0 x1 (x5.set (x23:Int).toNat (fK (rd x21 x23) (rd x1 x23) x6)) (iD (rd x21 x23) (rd x1 x23) x6) x21 x22 (wrap64 (x23+1))) else (none)) else (none)) else (if x6≤1 then (if x23<(x5.length:Int) then (gz.l0 k x0 x1 (x5.set (x23:Int).toNat (fK (rd x21 x23) 0 x6)) (iD (rd x21 x23) 0 x6) x21 x22 (wrap64 (x23+1))) else (none)) else (none))) else (none)) else (none)) else (if 0≤(x0.length:Int) then (if (x0.length:Int)<(x5.length:Int) then ((bG.f k (x5.set ((x0.length:Int):Int).toNat x6)).bind fun auV=>(some auV)) else (none)) else (none))
end
def gz.f (k:Nat)(l0:List Int)(l1:List Int):Option (List Int):=if (l0.length:Int)<(l1.length:Int) then (gz.j0 k l1 l0) else (gz.j0 k l0 l1)
theorem gz.calls (k:Nat)(P0_:Nat→Prop)(A0:Option Addr)(c0:Nat)(l0:List Int)(P1_:Nat→Prop)(A1:Option Addr)(c1:Nat)(l1:List Int)(r:List Int)(w:World)(hs0:Kd.V (Kd.int .u64) 25 w w.heap.size (fun k_=>P0_ k_) (.slice A0 l0.length c0) l0)(hs1:Kd.V (Kd.int .u64) 25 w w.heap.size (fun k_=>P1_ k_) (.slice A1 l1.length c1) l1)(h:gz.f k l0 l1=some r) :
    Calls Tryz.prog 150 #[.slice A0 l0.length c0,.slice A1 l1.length c1] w fun e w' => ∃ v0_:Value,e=.returned (v0_)∧Kd.V (Kd.int .u64) 25 w' w.heap.size (fun k_=>((P0_ k_∨P1_ k_)∨w.heap.size≤k_)) v0_ r∧Below w.heap.size w w':=by
 have HO0:=am (show Kd.V (Kd.int .u64) 25 w w.heap.size (fun k_=>((P0_ k_∨P1_ k_)∨w.heap.size≤k_)) (.slice A0 l0.length c0) l0 from Kd.cO hs0 (fun k_ hk => .inl (.inl hk)));have HO1:=am (show Kd.V (Kd.int .u64) 25 w w.heap.size (fun k_=>((P0_ k_∨P1_ k_)∨w.heap.size≤k_)) (.slice A1 l1.length c1) l1 from Kd.cO hs1 (fun k_ hk => .inl (.inr hk)));have HB:=am (Below.refl w.heap.size w);have H:=am h;unfold gz.f at H;clear h
 go_enter Tryz.func150,Tryz.ntmps150
 go_upto_if 14 with (fail)
 go_cut [0,1] (fun v0 v1 wc => ∃ (kq:Nat) (ji:List Int) (UH:List Int),ae (gz.j0 kq ji UH=some r)∧ae (kq≤k)∧ae (Kd.V (Kd.int .u64) 25 wc w.heap.size (fun k_=>((P0_ k_∨P1_ k_)∨w.heap.size≤k_)) v0 ji)∧ae (Kd.V (Kd.int .u64) 25 wc w.heap.size (fun k_=>((P0_ k_∨P1_ k_)∨w.heap.size≤k_)) v1 UH)∧ae (Below w.heap.size w wc))
 case first =>
  replace H:=zs H;rcases H with⟨c4,H⟩|⟨c4,H⟩;have jP:decide ((l0.length:Int)<(l1.length:Int))=true:=decide_eq_true c4;have sQ:decide (l0.length<l1.length)=true:=decide_eq_true (Int.ofNat_lt.mp c4);clear c4
  (first|rw[jP]|(simp only[cu,fQ];rw[jP])|rw[sQ]|skip)
  rotate_left;have jP:decide ((l0.length:Int)<(l1.length:Int))=false:=decide_eq_false c4;have sQ:decide (l0.length<l1.length)=false:=decide_eq_false (fun h=>c4 (Int.ofNat_lt.mpr h));clear c4
  (first|rw[jP]|(simp only[cu,fQ];rw[jP])|rw[sQ]|skip)
  rotate_left
  all_goals (go_wp2)
  ·go_meet
   case rel=>exact⟨_,(l1),(l0),H,⟨z5⟩,⟨zV HO1⟩,⟨zV HO0⟩,⟨zB HB⟩⟩
  go_meet
  case rel=>exact⟨_,(l0),(l1),H,⟨z5⟩,⟨zV HO0⟩,⟨zV HO1⟩,⟨zB HB⟩⟩
 case rest =>
  obtain⟨kq,ji,UH,H,HJ2,kL,pJ,HB⟩:=hcut;obtain _|kj2:=kq
  ·exact zz H rfl
  simp only[gz.j0]at H;generalize PT:(wrap64 ((ji.length:Int)+1):Int)=ji5 at H;have agX:(IntKind.i64.wrap ((ji.length:Int)+1))=ji5:=(cu _).trans PT;replace H:=zit H;obtain⟨qm,zg,H⟩:=H;replace H:=zit H;obtain⟨wz,Bi,H⟩:=H;generalize ahm:(List.replicate (ji5:Int).toNat 0:List Int)=azo at H;have ahn:=zY ahm;clear ahm;obtain⟨Ao8,co8,eo8⟩:=Kd.fJ kL.out;subst eo8
  go_wp2_with (first|((with_reducible refine aI (N:=20) rfl ?_);refine Kd.vH (Kd.int .u64) _ 25 rfl (N:=20) rfl 88 _ _ rfl ji5 (by first|rfl|(simp only[List.length_drop,List.length_take];rfl)) (by first|rfl|(simp only[List.length_drop,List.length_take];rfl)) Tryz.underlying88 (.int .u64 0) 8 info25 rfl (by decide) (by omega) 0 (ok:=fun _=>True) (okp:=fun _=>True) rfl (fun _ hk=>hk) trivial (zD) (Nat.le_trans (Nat.mul_le_mul_right _ (zD:ji5.toNat≤35184372088832)) (by omega)) (Below.refl _ _) (Nat.le_refl _) ?_;intro aln w9 BA hb hg_ ku;clear hg_ ku;(first|rw[← ahn.out]at BA|(simp only[Int.reduceToNat]at BA;rw[← ahn.out]at BA));replace kL:=am (Kd.jG (zV kL) (Kd.gm BA) hb);replace pJ:=am (Kd.jG (zV pJ) (Kd.gm BA) hb);have anu:=am (Kd.eu (Kd.oI (M:=fun k_=>(w.heap.size≤k_)) BA (zS HB) (fun k_ h_=>h_)) (zS HB));replace HB:=zBs HB hb;clear hb BA))
  go_loopg [6,23] kj2 (fun kq v6 v23 w' => ∃ (nT:List Int) (qW:Int) (lS:Int),v6=.int .u64 qW∧v23=.int .i64 lS∧ae (gz.l0 kq ji UH nT qW ji (ji.length:Int) lS=some r)∧ae (kq≤kj2)∧ae (Kd.V (Kd.int .u64) 25 w' w.heap.size (fun k_=>((P0_ k_∨P1_ k_)∨w.heap.size≤k_)∧some k_≠(aln:Value).ownBlock) (.slice Ao8 ji.length co8) ji)∧ae (Kd.V (Kd.int .u64) 25 w' w.heap.size (fun k_=>((P0_ k_∨P1_ k_)∨w.heap.size≤k_)∧some k_≠(aln:Value).ownBlock) u1 UH)∧ae (Kd.R (Kd.int .u64) 25 w' w.heap.size (fun k_=>(w.heap.size≤k_)) aln nT)∧ae (Kd.V (Kd.int .u64) 25 w' w.heap.size (fun k_=>((P0_ k_∨P1_ k_)∨w.heap.size≤k_)∧some k_≠(aln:Value).ownBlock) (.slice Ao8 ji.length co8) ji)∧ae (Below w.heap.size w w'))
  case atStart=>exact⟨(azo),(0),(0),z1,z1,H,zL,⟨zV kL⟩,⟨zV pJ⟩,⟨by (with_reducible repeat (first|apply Kd.dh|apply Kd.df|apply Kd.dJ));exact Kd.dw anu.out (fun _ hk=>hk.1)⟩,⟨zV kL⟩,⟨zB HB⟩⟩
  clear H;obtain⟨nT,qW,lS,rfl,rfl,H,HK2,kL,pJ,fM,BB,HB⟩:=hrel;obtain _|k2:=gk
  ·exact zz H rfl
  simp only[gz.l0]at H;replace H:=zsd H;rcases H with⟨qK,H⟩|⟨qK,H⟩;replace H:=zid H;obtain⟨qO,H⟩:=H;replace H:=zid H;obtain⟨qo,H⟩:=H;replace H:=zsd H;rcases H with⟨ww,H⟩|⟨ww,H⟩;replace H:=zit H;obtain⟨uS,DI,H⟩:=H;replace H:=zid H;obtain⟨H9,H⟩:=H;generalize aho:(nT.set (lS:Int).toNat (fK (rd ji lS) (rd UH lS) qW):List Int)=auW at H;have anv:=zY aho;clear aho;obtain⟨azp,azq,anw,rfl,acX⟩:=zA (Kd.dQ (Kd.bf BB.out).2.2 lS);obtain⟨JY,rZ,LW⟩:=Kd.fJ pJ.out;subst LW;obtain⟨aHm,aHn,azr,rfl,anx⟩:=zA (Kd.dQ (Kd.bf pJ.out).2.2 lS);have p17:0≤(lS:Int):=zD;have q17:(lS:Int)<((nT.length:Int):Int):=zD;obtain⟨LX,WG,acY,ahp,anz,azs,ahq⟩:=Kd.oH fM.out (by omega)
  (first|cases acY|(injection acY with ea_ en_ ec_;(first|subst ea_|(injection ea_ with ea_;subst ea_));subst ec_;clear en_))
  have anA:=am ahp;have azt:=am ahq;clear ahp anz ahq;obtain⟨aah,aai⟩:=Kd.iQ 0 fM.out (lS:Int) p17 q17;replace p17:=eq_true p17;replace q17:=eq_true q17;have acZ:=Kd.mM fM.out (lS:Int) (fK (rd ji lS) (rd UH lS) qW);rotate_left;replace H:=zit H;obtain⟨Am,Ym,H⟩:=H;replace H:=zid H;obtain⟨ac0,H⟩:=H;generalize ahr:(nT.set (lS:Int).toNat (fK (rd ji lS) 0 qW):List Int)=auX at H;have anB:=zY ahr;clear ahr;obtain⟨azp,azq,anw,rfl,acX⟩:=zA (Kd.dQ (Kd.bf BB.out).2.2 lS);obtain⟨WC,QG,UD⟩:=Kd.fJ pJ.out;subst UD;have p23:0≤(lS:Int):=zD;have q23:(lS:Int)<((nT.length:Int):Int):=zD;obtain⟨Yu,yf,UG,auY,azu,aHo,auZ⟩:=Kd.oH fM.out (by omega)
  (first|cases UG|(injection UG with ea_ en_ ec_;(first|subst ea_|(injection ea_ with ea_;subst ea_));subst ec_;clear en_))
  have azv:=am auY;have aHp:=am auZ;clear auY azu auZ;obtain⟨au0,au1⟩:=Kd.iQ 0 fM.out (lS:Int) p23 q23;replace p23:=eq_true p23;replace q23:=eq_true q23;have acR:=Kd.mM fM.out (lS:Int) (fK (rd ji lS) 0 qW);rotate_left;replace H:=zi H;obtain⟨c27,H⟩:=H;have DJ:decide (0≤(ji.length:Int))=true:=decide_eq_true c27;have P7:decide (0≤ji.length)=true:=decide_eq_true (by omega);clear c27;replace H:=zi H;obtain⟨c28,H⟩:=H;have zq:decide ((ji.length:Int)<(nT.length:Int))=true:=decide_eq_true c28;have ac1:decide (ji.length<nT.length)=true:=decide_eq_true (Int.ofNat_lt.mp c28);clear c28;generalize ahs:(nT.set ((ji.length:Int):Int).toNat qW:List Int)=alo at H;have anC:=zY ahs;clear ahs;replace H:=zo H;obtain⟨auV,A30,H⟩:=H;obtain rfl:=Option.some.inj H.out;have p29:0≤((ji.length:Int):Int):=zD;have q29:((ji.length:Int):Int)<((nT.length:Int):Int):=zD;obtain⟨UI,QI,alp,au2,azw,aHq,au3⟩:=Kd.oH fM.out (by omega)
  (first|cases alp|(injection alp with ea_ en_ ec_;(first|subst ea_|(injection ea_ with ea_;subst ea_));subst ec_;clear en_))
  have azx:=am au2;have aHr:=am au3;clear au2 azw au3;obtain⟨aht,ahu⟩:=Kd.iQ 0 fM.out ((ji.length:Int):Int) p29 q29
  (try simp only[Go.IntWalk.toNatUp]at aht ahu)
  replace p29:=eq_true p29;replace q29:=eq_true q29;have anD:=Kd.mM fM.out ((ji.length:Int):Int) qW;rotate_left
  all_goals (go_wp2_with (first|((with_reducible refine af (f:=191) rfl ?_);refine Be (some 42) rfl rfl #[.int .u64 (rd ji lS),.int .u64 (rd UH lS),.int .u64 qW] _ rfl (by (try simp only[List.map_toArray,List.map_cons,List.map_nil]);rfl) (fun w_=>dG (rd ji lS) (rd UH lS) qW (by first|decide|(with_reducible assumption)|exact zD) w_) ?_)|((with_reducible refine fV (t:=25) (p:=45) rfl ?_);refine ed (t:=25) (p:=45) (v:=?ahv) (w1:=(wr.setCell ⟨LX,(lS:Int).toNat,none⟩ (.int .u64 (fK (rd ji lS) (rd UH lS) qW)))) ?hg ?ho ?hn ?hr ?_;(case ho=>rfl);(case hg=>rfl);(case hn=>rfl);(case hr=>first|(go_simp;done)|(go_simp;rfl));intro w20 hw;have hg:wr.grownBy w20 (some LX):=(by rw[hw];exact acZ.2);have hp_:Kd.R (Kd.int .u64) 25 w20 w.heap.size (fun k_=>(w.heap.size≤k_)) (.slice (some ⟨LX,0,none⟩) nT.length WG) auW:=(by rw[hw,anv.out];exact acZ.1);clear acZ;replace kL:=am (Kd.jr (v:=(.slice (some ⟨LX,0,none⟩) nT.length WG)) (v1:=(.slice (some ⟨LX,0,none⟩) nT.length WG)) (ok:=(fun k_=>((P0_ k_∨P1_ k_)∨w.heap.size≤k_))) (zV kL) hg (.inl rfl));replace pJ:=am (Kd.jr (v:=(.slice (some ⟨LX,0,none⟩) nT.length WG)) (v1:=(.slice (some ⟨LX,0,none⟩) nT.length WG)) (ok:=(fun k_=>((P0_ k_∨P1_ k_)∨w.heap.size≤k_))) (zV pJ) hg (.inl rfl));replace fM:=am (hp_);replace BB:=am (Kd.jr (v:=(.slice (some ⟨LX,0,none⟩) nT.length WG)) (v1:=(.slice (some ⟨LX,0,none⟩) nT.length WG)) (ok:=(fun k_=>((P0_ k_∨P1_ k_)∨w.heap.size≤k_))) (zV BB) hg (.inl rfl));replace HB:=am ((by rw[hw];exact bQ (HB.out) anA.out:Below w.heap.size w w20));clear hg hw hp_)|((with_reducible refine af (f:=191) rfl ?_);refine Be (some 42) rfl rfl #[.int .u64 (rd ji lS),.int .u64 0,.int .u64 qW] _ rfl (by (try simp only[List.map_toArray,List.map_cons,List.map_nil]);rfl) (fun w_=>dG (rd ji lS) 0 qW (by first|decide|(with_reducible assumption)|exact zD) w_) ?_)|((with_reducible refine fV (t:=25) (p:=45) rfl ?_);refine ed (t:=25) (p:=45) (v:=?au4) (w1:=(wr.setCell ⟨Yu,(lS:Int).toNat,none⟩ (.int .u64 (fK (rd ji lS) 0 qW)))) ?hg ?ho ?hn ?hr ?_;(case ho=>rfl);(case hg=>rfl);(case hn=>rfl);(case hr=>first|(go_simp;done)|(go_simp;rfl));intro w26 hw;have hg:wr.grownBy w26 (some Yu):=(by rw[hw];exact acR.2);have hp_:Kd.R (Kd.int .u64) 25 w26 w.heap.size (fun k_=>(w.heap.size≤k_)) (.slice (some ⟨Yu,0,none⟩) nT.length yf) auX:=(by rw[hw,anB.out];exact acR.1);clear acR;replace kL:=am (Kd.jr (v:=(.slice (some ⟨Yu,0,none⟩) nT.length yf)) (v1:=(.slice (some ⟨Yu,0,none⟩) nT.length yf)) (ok:=(fun k_=>((P0_ k_∨P1_ k_)∨w.heap.size≤k_))) (zV kL) hg (.inl rfl));replace pJ:=am (Kd.jr (v:=(.slice (some ⟨Yu,0,none⟩) nT.length yf)) (v1:=(.slice (some ⟨Yu,0,none⟩) nT.length yf)) (ok:=(fun k_=>((P0_ k_∨P1_ k_)∨w.heap.size≤k_))) (zV pJ) hg (.inl rfl));replace fM:=am (hp_);replace BB:=am (Kd.jr (v:=(.slice (some ⟨Yu,0,none⟩) nT.length yf)) (v1:=(.slice (some ⟨Yu,0,none⟩) nT.length yf)) (ok:=(fun k_=>((P0_ k_∨P1_ k_)∨w.heap.size≤k_))) (zV BB) hg (.inl rfl));replace HB:=am ((by rw[hw];exact bQ (HB.out) azv.out:Below w.heap.size w w26));clear hg hw hp_)|((with_reducible refine fV (t:=25) (p:=51) rfl ?_);refine ed (t:=25) (p:=51) (v:=?au5) (w1:=(wr.setCell ⟨UI,((ji.length:Int):Int).toNat,none⟩ (.int .u64 qW))) ?hg ?ho ?hn ?hr ?_;(case ho=>rfl);(case hg=>rfl);(case hn=>rfl);(case hr=>first|(go_simp;done)|(go_simp;rfl));intro w32 hw;have hg:wr.grownBy w32 (some UI):=(by rw[hw];exact anD.2);have hp_:Kd.R (Kd.int .u64) 25 w32 w.heap.size (fun k_=>(w.heap.size≤k_)) (.slice (some ⟨UI,0,none⟩) nT.length QI) alo:=(by rw[hw,anC.out];exact anD.1);clear anD;replace kL:=am (Kd.jr (v:=(.slice (some ⟨UI,0,none⟩) nT.length QI)) (v1:=(.slice (some ⟨UI,0,none⟩) nT.length QI)) (ok:=(fun k_=>((P0_ k_∨P1_ k_)∨w.heap.size≤k_))) (zV kL) hg (.inl rfl));replace pJ:=am (Kd.jr (v:=(.slice (some ⟨UI,0,none⟩) nT.length QI)) (v1:=(.slice (some ⟨UI,0,none⟩) nT.length QI)) (ok:=(fun k_=>((P0_ k_∨P1_ k_)∨w.heap.size≤k_))) (zV pJ) hg (.inl rfl));replace fM:=am (hp_);replace BB:=am (Kd.jr (v:=(.slice (some ⟨UI,0,none⟩) nT.length QI)) (v1:=(.slice (some ⟨UI,0,none⟩) nT.length QI)) (ok:=(fun k_=>((P0_ k_∨P1_ k_)∨w.heap.size≤k_))) (zV BB) hg (.inl rfl));replace HB:=am ((by rw[hw];exact bQ (HB.out) azx.out:Below w.heap.size w w32));clear hg hw hp_)|((with_reducible refine af (f:=103) rfl ?_);refine jS (some 53) rfl rfl Tryz.func103 (by kernel_rfl) rfl #[.slice (some ⟨UI,0,none⟩) alo.length QI] rfl (by (try simp only[List.map_toArray,List.map_cons,List.map_nil]);first|done|(rw[show alo.length=nT.length from (Kd.aA fM.out).1.symm] <;> rfl)|rfl|(simp only[List.length_drop,List.length_take];rfl)) ?_;(with_reducible refine (bG.calls _ (fun k_=>some k_=(.slice (some ⟨UI,0,none⟩) nT.length QI:Value).ownBlock) _ _ _ _ _ ?fE A30.out).mono ?_);(case fE=>rw[show alo.length=nT.length from (Kd.aA fM.out).1.symm];exact Kd.R_V (Kd.jX rfl (fM.out)));rintro e w33 ⟨aHs,rfl,ho0,hb⟩;refine⟨_,rfl,?_⟩;replace kL:=zVb kL hb;replace pJ:=zVb pJ hb;replace BB:=zVb BB hb;have anE:=am (Kd.dV (Kd.cO (ok':=fun k_=>((P0_ k_∨P1_ k_)∨w.heap.size≤k_)) ho0 (fun k_ hk_=>Or.elim hk_ (fun hs_=>(.inr (((fM.out).1 k_ hs_.symm)))) (fun hn_=>(.inr (Nat.le_trans (zS HB) hn_))))) (zS HB));replace fM:=zRb fM hb;replace HB:=zBs HB hb;clear hb ho0)))
  ·go_roundg k2
   case measure=>have:=HJ2.out;have:=HK2.out;omega
   case rel=>exact⟨(auW),(iD (rd ji lS) (rd UH lS) qW),(wrap64 (lS+1)),z1,z1,H,⟨by have:=HJ2.out;have:=HK2.out;omega⟩,⟨zV kL⟩,⟨zV pJ⟩,⟨zR fM⟩,⟨zV BB⟩,⟨zB HB⟩⟩
  ·go_roundg k2
   case measure=>have:=HJ2.out;have:=HK2.out;omega
   case rel=>exact⟨(auX),(iD (rd ji lS) 0 qW),(wrap64 (lS+1)),z1,z1,H,⟨by have:=HJ2.out;have:=HK2.out;omega⟩,⟨zV kL⟩,⟨zV pJ⟩,⟨zR fM⟩,⟨zV BB⟩,⟨zB HB⟩⟩
  go_ret
  exact⟨_,by first|exact z3|(simp only[← PT];exact z3)|exact z2,zV anE,zB HB⟩
def jR.f (a0:Option Int):Option (Int):=if a0.isNone=true then (some (-1)) else (if (a0.getD 0)=13 then (some 13) else (if (a0.getD 0)=14 then (some 14) else (if (a0.getD 0)=15 then (some 15) else (if (a0.getD 0)=16 then (some 16) else (if (a0.getD 0)=17 then (some 17) else (if (a0.getD 0)=18 then (some 18) else (if (a0.getD 0)=19 then (some 19) else (if (a0.getD 0)=20 then (some 20) else (if (a0.getD 0)=21 then (some 21) else (if (a0.getD 0)=22 then (some 22) else (if (a0.getD 0)=23 then (some 23) else (if (a0.getD 0)=24 then (some 24) else (some (-1))))))))))))))
theorem jR.calls (a0:Option Int)(r:Int)(w:World)(h:jR.f a0=some r) :
    Calls Tryz.prog 46 #[rF a0] w fun e w'=>e=.returned (.int .i64 r)∧dR w w':=by
 have yB:=Tryz.underlying27;have hu64:=Tryz.underlying64;have H:=am h;unfold jR.f at H;clear h;rcases a0 with _|aHt;replace H:=zb1 H;simp only[au,ax];obtain rfl:=Option.some.inj H.out;rotate_left;replace H:=zb0 H
 try simp only[Option.getD_some]at H
 simp only[au,ax];replace H:=zsk H;rcases H with⟨ry,IM,H⟩|⟨ry,IM,c2,H⟩;obtain rfl:=Option.some.inj H.out;rotate_left;replace H:=zsk H;rcases H with⟨pI,Kw,H⟩|⟨pI,Kw,c3,H⟩;obtain rfl:=Option.some.inj H.out;rotate_left;replace H:=zsk H;rcases H with⟨jP,sQ,H⟩|⟨jP,sQ,c4,H⟩;obtain rfl:=Option.some.inj H.out;rotate_left;replace H:=zsk H;rcases H with⟨qg,xy,H⟩|⟨qg,xy,c5,H⟩;obtain rfl:=Option.some.inj H.out;rotate_left;replace H:=zsk H;rcases H with⟨qm,zg,H⟩|⟨qm,zg,c6,H⟩;obtain rfl:=Option.some.inj H.out;rotate_left;replace H:=zsk H;rcases H with⟨wz,Bi,H⟩|⟨wz,Bi,c7,H⟩;obtain rfl:=Option.some.inj H.out;rotate_left;replace H:=zsk H;rcases H with⟨sO,Ap,H⟩|⟨sO,Ap,c8,H⟩;obtain rfl:=Option.some.inj H.out;rotate_left;replace H:=zsk H;rcases H with⟨wu,Ez,H⟩|⟨wu,Ez,c9,H⟩;obtain rfl:=Option.some.inj H.out;rotate_left;replace H:=zsk H;rcases H with⟨mr,sS,H⟩|⟨mr,sS,c10,H⟩;obtain rfl:=Option.some.inj H.out;rotate_left;replace H:=zsk H;rcases H with⟨qK,zk,H⟩|⟨qK,zk,c11,H⟩;obtain rfl:=Option.some.inj H.out;rotate_left;replace H:=zsk H;rcases H with⟨qO,xY,H⟩|⟨qO,xY,c12,H⟩;obtain rfl:=Option.some.inj H.out;rotate_left;replace H:=zsk H;rcases H with⟨qo,Ib,H⟩|⟨qo,Ib,c13,H⟩;obtain rfl:=Option.some.inj H.out;rotate_left;obtain rfl:=Option.some.inj H.out;rotate_left
 all_goals (go_enter Tryz.func46,Tryz.ntmps46;go_wp2)
 ·go_ret
  exact⟨z1,z4⟩
 ·go_ret
  exact⟨z1,z4⟩
 ·go_ret
  exact⟨z1,z4⟩
 ·go_ret
  exact⟨z1,z4⟩
 ·go_ret
  exact⟨z1,z4⟩
 ·go_ret
  exact⟨z1,z4⟩
 ·go_ret
  exact⟨z1,z4⟩
 ·go_ret
  exact⟨z1,z4⟩
 ·go_ret
  exact⟨z1,z4⟩
 ·go_ret
  exact⟨z1,z4⟩
 ·go_ret
  exact⟨z1,z4⟩
 ·go_ret
  exact⟨z1,z4⟩
 ·go_ret
  exact⟨z1,z4⟩
 go_ret
 exact⟨z1,z4⟩
def iM.f (a0:Option Int):Option (Int):=if a0.isNone=true then (some 0) else (if (a0.getD 0)=1 then (some 1) else (if (a0.getD 0)=2 then (some 2) else (if (a0.getD 0)=3 then (some 3) else (if (a0.getD 0)=4 then (some 4) else (if (a0.getD 0)=5 then (some 5) else (if (a0.getD 0)=6 then (some 6) else (if (a0.getD 0)=7 then (some 7) else (if (a0.getD 0)=8 then (some 8) else (if (a0.getD 0)=9 then (some 9) else (if (a0.getD 0)=10 then (some 10) else (if (a0.getD 0)=11 then (some 11) else (if (a0.getD 0)=12 then (some 12) else ((jR.f (some (a0.getD 0))).bind fun anF=>(some anF))))))))))))))
theorem iM.calls (a0:Option Int)(r:Int)(w:World)(h:iM.f a0=some r) :
    Calls Tryz.prog 15 #[rF a0] w fun e w'=>e=.returned (.int .i64 r)∧dR w w':=by
 have yB:=Tryz.underlying27;have hu64:=Tryz.underlying64;have H:=am h;unfold iM.f at H;clear h;rcases a0 with _|azy;replace H:=zb1 H;simp only[au,ax];obtain rfl:=Option.some.inj H.out;rotate_left;replace H:=zb0 H
 try simp only[Option.getD_some]at H
 simp only[au,ax];replace H:=zsk H;rcases H with⟨ry,IM,H⟩|⟨ry,IM,c2,H⟩;obtain rfl:=Option.some.inj H.out;rotate_left;replace H:=zsk H;rcases H with⟨pI,Kw,H⟩|⟨pI,Kw,c3,H⟩;obtain rfl:=Option.some.inj H.out;rotate_left;replace H:=zsk H;rcases H with⟨jP,sQ,H⟩|⟨jP,sQ,c4,H⟩;obtain rfl:=Option.some.inj H.out;rotate_left;replace H:=zsk H;rcases H with⟨qg,xy,H⟩|⟨qg,xy,c5,H⟩;obtain rfl:=Option.some.inj H.out;rotate_left;replace H:=zsk H;rcases H with⟨qm,zg,H⟩|⟨qm,zg,c6,H⟩;obtain rfl:=Option.some.inj H.out;rotate_left;replace H:=zsk H;rcases H with⟨wz,Bi,H⟩|⟨wz,Bi,c7,H⟩;obtain rfl:=Option.some.inj H.out;rotate_left;replace H:=zsk H;rcases H with⟨sO,Ap,H⟩|⟨sO,Ap,c8,H⟩;obtain rfl:=Option.some.inj H.out;rotate_left;replace H:=zsk H;rcases H with⟨wu,Ez,H⟩|⟨wu,Ez,c9,H⟩;obtain rfl:=Option.some.inj H.out;rotate_left;replace H:=zsk H;rcases H with⟨mr,sS,H⟩|⟨mr,sS,c10,H⟩;obtain rfl:=Option.some.inj H.out;rotate_left;replace H:=zsk H;rcases H with⟨qK,zk,H⟩|⟨qK,zk,c11,H⟩;obtain rfl:=Option.some.inj H.out;rotate_left;replace H:=zsk H;rcases H with⟨qO,xY,H⟩|⟨qO,xY,c12,H⟩;obtain rfl:=Option.some.inj H.out;rotate_left;replace H:=zsk H;rcases H with⟨qo,Ib,H⟩|⟨qo,Ib,c13,H⟩;obtain rfl:=Option.some.inj H.out;rotate_left;replace H:=zo H;obtain⟨anF,A14,H⟩:=H;obtain rfl:=Option.some.inj H.out;have au6:=fun W=>jR.calls (some azy) anF W A14.out
 try simp only[au,ax]at au6
 rotate_left
 all_goals (go_enter Tryz.func15,Tryz.ntmps15;go_wp2_with (first|(go_at_call 46;(with_reducible refine (au6 _).mono ?_);rintro e w' ⟨rfl,⟨nd,rfl⟩⟩)))
 ·go_ret
  exact⟨z1,z4⟩
 ·go_ret
  exact⟨z1,z4⟩
 ·go_ret
  exact⟨z1,z4⟩
 ·go_ret
  exact⟨z1,z4⟩
 ·go_ret
  exact⟨z1,z4⟩
 ·go_ret
  exact⟨z1,z4⟩
 ·go_ret
  exact⟨z1,z4⟩
 ·go_ret
  exact⟨z1,z4⟩
 ·go_ret
  exact⟨z1,z4⟩
 ·go_ret
  exact⟨z1,z4⟩
 ·go_ret
  exact⟨z1,z4⟩
 ·go_ret
  exact⟨z1,z4⟩
 ·go_ret
  exact⟨z1,z4⟩
 go_ret
 exact⟨z1,z4⟩
def gu.f (a0:Int):Option (Bool):=if a0=8 then (some true) else (if a0=16 then (some true) else (if a0=32 then (some true) else (some (a0 == 64))))
theorem gu.calls (a0:Int)(r:Bool)(w:World)(h:gu.f a0=some r) :
    Calls Tryz.prog 36 #[.int .i64 a0] w fun e w'=>e=.returned (.bool r)∧dR w w':=by
 have H:=am h;unfold gu.f at H;clear h;replace H:=zsk H;rcases H with⟨ry,IM,H⟩|⟨ry,IM,c2,H⟩;obtain rfl:=Option.some.inj H.out;rotate_left;replace H:=zsk H;rcases H with⟨pI,Kw,H⟩|⟨pI,Kw,c3,H⟩;obtain rfl:=Option.some.inj H.out;rotate_left;replace H:=zsk H;rcases H with⟨jP,sQ,H⟩|⟨jP,sQ,c4,H⟩;obtain rfl:=Option.some.inj H.out;rotate_left;obtain rfl:=Option.some.inj H.out;rotate_left
 all_goals (go_enter Tryz.func36,Tryz.ntmps36;go_wp2)
 ·go_ret
  exact⟨z1,z4⟩
 ·go_ret
  exact⟨z1,z4⟩
 ·go_ret
  exact⟨z1,z4⟩
 go_ret
 exact⟨z1,z4⟩
def bK.l0:Nat→Int→Int→Int→Option (Int)
  | 0,_,_,_=>none
  | k+1,x0,x3,x4=>if x4<x0 then (bK.l0 k x0 (IntKind.u64.wrap (2*x3)) (wrap64 (x4+1))) else (some x3)
def bK.f (k:Nat)(a0:Int):Option (Int):=bK.l0 k a0 1 0
theorem bK.calls (k:Nat)(a0:Int)(r:Int)(w:World)(h:bK.f k a0=some r) :
    Calls Tryz.prog 27 #[.int .i64 a0] w fun e w'=>e=.returned (.int .u64 r)∧dR w w':=by
 have H:=am h;unfold bK.f at H;clear h
 go_enter Tryz.func27,Tryz.ntmps27
 go_wp2
 go_loopg [3,4] k (fun kq v3 v4 w' => ∃ (iH:Int) (nO:Int),v3=.int .u64 iH∧v4=.int .i64 nO∧ae (bK.l0 kq a0 iH nO=some r)∧ae (kq≤k)∧dR w w')
 case atStart=>exact⟨(1),(0),z1,z1,H,zL,z4⟩
 clear H;obtain⟨iH,nO,rfl,rfl,H,HK1,⟨m1,rfl⟩⟩:=hrel;obtain _|k1:=gk
 ·exact zz H rfl
 simp only[bK.l0]at H;replace H:=zsd H;rcases H with⟨ry,H⟩|⟨ry,H⟩;rotate_left;obtain rfl:=Option.some.inj H.out;rotate_left
 all_goals (go_wp2)
 ·go_roundg k1
  case measure=>have:=HK1.out;omega
  case rel=>exact⟨(IntKind.u64.wrap (2*iH)),(wrap64 (nO+1)),z1,z1,H,(zH HK1),z4⟩
 go_ret
 exact⟨z1,z4⟩
def aZ.f (l0:List Int)(a1:Int):Option (Int):=if a1<(l0.length:Int) then (if 0≤a1 then (some (rd l0 a1)) else (none)) else (some 0)
theorem aZ.calls (A0:Option Addr)(c0:Nat)(l0:List Int)(a1:Int)(r:Int)(w:World)(hr0:Kd.C (Kd.int .i64) w A0 l0.length l0)(hc0:l0.length≤c0)(h:aZ.f l0 a1=some r) :
    Calls Tryz.prog 138 #[.slice A0 l0.length c0,.int .i64 a1] w fun e w'=>e=.returned (.int .i64 r)∧dR w w':=by
 have HR0:=am hr0;have HC0:=am hc0;clear hr0 hc0;have H:=am h;unfold aZ.f at H;clear h;replace H:=zsd H;rcases H with⟨pI,H⟩|⟨pI,H⟩;replace H:=zid H;obtain⟨jP,H⟩:=H;obtain rfl:=Option.some.inj H.out;obtain⟨aHu,aHv,azz,rfl,anG⟩:=zA (Kd.dQ HR0.out a1);rotate_left;obtain rfl:=Option.some.inj H.out;rotate_left
 all_goals (go_enter Tryz.func138,Tryz.ntmps138;go_wp2)
 ·go_ret
  exact⟨z1,z4⟩
 go_ret
 exact⟨z1,z4⟩
def aJ.l0:Nat→List Int→Int→List Int→Int→Int→Option (List Int)
  | 0,_,_,_,_,_=>none
  | k+1,x0,x1,x5,x6,x7=>if x7<(x0.length:Int) then (if x1 > 0 then ((aZ.f x0 x7).bind fun ac2=>(if x5.length<17592186044416 then (aJ.l0 k x0 x1 (x5 ++ [Int.tmod (wrap64 ((wrap64 (ac2*x1))+x6)) 16777216]) (wrap64 (Int.tdiv (wrap64 ((wrap64 (ac2*x1))+x6)) 16777216)) (wrap64 (x7+1))) else (none))) else (if x6 > 0 then ((aZ.f x0 x7).bind fun ac3=>(if x5.length<17592186044416 then (aJ.l0 k x0 x1 (x5 ++ [Int.tmod (wrap64 ((wrap64 (ac3*x1))+x6)) 16777216]) (wrap64 (Int.tdiv (wrap64 ((wrap64 (ac3*x1))+x6)) 16777216)) (wrap64 (x7+1))) else (none))) else (some x5))) else (if x6 > 0 then ((aZ.f x0 x7).bind fun ac4=>(if x5.length<17592186044416 then (aJ.l0 k x0 x1 (x5 ++ [Int.tmod (wrap64 ((wrap64 (ac4*x1))+x6)) 16777216]) (wrap64 (Int.tdiv (wrap64 ((wrap64 (ac4*x1))+x6)) 16777216)) (wrap64 (x7+1))) else (none))) else (some x5))
def aJ.f (k:Nat)(l0:List Int)(a1:Int):Option (List Int):=aJ.l0 k l0 a1 ([]:List Int) 0 0
theorem aJ.calls (k:Nat)(A0:Option Addr)(c0:Nat)(l0:List Int)(a1:Int)(r:List Int)(w:World)(hr0:Kd.C (Kd.int .i64) w A0 l0.length l0)(hc0:l0.length≤c0)(h:aJ.f k l0 a1=some r) :
    Calls Tryz.prog 82 #[.slice A0 l0.length c0,.int .i64 a1] w fun e w' => ∃ v0_:Value,e=.returned (v0_)∧Kd.R (Kd.int .i64) 3 w' w.heap.size (fun _=>True) v0_ r∧Below w.heap.size w w':=by
 have HR0:=am hr0;have HC0:=am hc0;clear hr0 hc0;have HB:=am (Below.refl w.heap.size w);have H:=am h;unfold aJ.f at H;clear h
 go_enter Tryz.func82,Tryz.ntmps82
 go_wp2
 go_loopg [5,6,7] k (fun kq v5 v6 v7 w' => ∃ (ig:List Int) (jU:Int) (lu:Int),v6=.int .i64 jU∧v7=.int .i64 lu∧ae (aJ.l0 kq l0 a1 ig jU lu=some r)∧ae (kq≤k)∧ae (Kd.R (Kd.int .i64) 3 w' w.heap.size (fun _=>True) v5 ig)∧ae (Below w.heap.size w w'))
 case atStart=>exact⟨(([]:List Int)),(0),(0),z1,z1,H,zL,⟨zN⟩,⟨zB HB⟩⟩
 clear H;obtain⟨ig,jU,lu,rfl,rfl,H,HK1,fM,HB⟩:=hrel;obtain _|k1:=gk
 ·exact zz H rfl
 simp only[aJ.l0]at H;replace H:=zsd H;rcases H with⟨pI,H⟩|⟨pI,H⟩;replace H:=AV H;rcases H with⟨jP,H⟩|⟨jP,H⟩;replace H:=zo H;obtain⟨ac2,A5,H⟩:=H;replace H:=zil H;obtain⟨anH,H⟩:=H;generalize ahw:(ig ++ [Int.tmod (wrap64 ((wrap64 (ac2*a1))+jU)) 16777216]:List Int)=azA at H;have anI:=zY ahw;clear ahw;rotate_left;replace H:=AV H;rcases H with⟨sO,H⟩|⟨sO,H⟩;replace H:=zo H;obtain⟨ac3,A9,H⟩:=H;replace H:=zil H;obtain⟨UJ,H⟩:=H;generalize ahx:(ig ++ [Int.tmod (wrap64 ((wrap64 (ac3*a1))+jU)) 16777216]:List Int)=azB at H;have anJ:=zY ahx;clear ahx;rotate_left;obtain rfl:=Option.some.inj H.out;rotate_left;replace H:=AV H;rcases H with⟨qO,H⟩|⟨qO,H⟩;replace H:=zo H;obtain⟨ac4,A13,H⟩:=H;replace H:=zil H;obtain⟨anK,H⟩:=H;generalize ahy:(ig ++ [Int.tmod (wrap64 ((wrap64 (ac4*a1))+jU)) 16777216]:List Int)=azC at H;have anL:=zY ahy;clear ahy;rotate_left;obtain rfl:=Option.some.inj H.out;rotate_left
 all_goals (go_wp2_with (first|((with_reducible refine af (f:=138) rfl ?_);refine zc (some 25) Tryz.func138 #[.slice A0 l0.length c0,.int .i64 lu] (aZ.calls _ _ _ _ _ _ (zC (Kd.jZ HR0.out HB.out)) HC0.out A5.out) ?_;rintro e w' ⟨rfl,⟨nd,rfl⟩⟩;refine⟨_,rfl,?_⟩)|((with_reducible refine eG (b := .append) (xs:=#[.tmp 30,.tmp 33]) rfl ?_);at_builtin;refine Kd.kU (Kd.int .i64) (w0:=w) w.heap.size rfl (.tmp 30) (.tmp 33) 70 3 (.int .i64 0) 8 rfl Tryz.underlying70 info3 rfl (by decide) (by omega) u5 ig (Int.tmod (wrap64 ((wrap64 (ac2*a1))+jU)) 16777216) [.int .i64 (Int.tmod (wrap64 ((wrap64 (ac2*a1))+jU)) 16777216)] (fun _=>True) (fun _=>False) rfl rfl ?aP (fun _ hk=>hk.elim) ?aF ?aO ?aB ?aS ?aL ?_;(case aP=>exact rfl);(case aB=>exact (zB HB));(case aF=>exact (fun _ _=>trivial));(case aO=>exact (zR fM));(case aS=>exact (zS HB));(case aL=>have:=anH.out;omega);intro aHw w7 ho hb hg hat;rw[← anI.out]at ho;replace HB:=am (hb);have anM:=am (ho);clear fM ho hb hg hat)|((with_reducible refine af (f:=138) rfl ?_);refine zc (some 25) Tryz.func138 #[.slice A0 l0.length c0,.int .i64 lu] (aZ.calls _ _ _ _ _ _ (zC (Kd.jZ HR0.out HB.out)) HC0.out A9.out) ?_;rintro e w' ⟨rfl,⟨nd,rfl⟩⟩;refine⟨_,rfl,?_⟩)|((with_reducible refine eG (b := .append) (xs:=#[.tmp 30,.tmp 33]) rfl ?_);at_builtin;refine Kd.kU (Kd.int .i64) (w0:=w) w.heap.size rfl (.tmp 30) (.tmp 33) 70 3 (.int .i64 0) 8 rfl Tryz.underlying70 info3 rfl (by decide) (by omega) u5 ig (Int.tmod (wrap64 ((wrap64 (ac3*a1))+jU)) 16777216) [.int .i64 (Int.tmod (wrap64 ((wrap64 (ac3*a1))+jU)) 16777216)] (fun _=>True) (fun _=>False) rfl rfl ?aP (fun _ hk=>hk.elim) ?aF ?aO ?aB ?aS ?aL ?_;(case aP=>exact rfl);(case aB=>exact (zB HB));(case aF=>exact (fun _ _=>trivial));(case aO=>exact (zR fM));(case aS=>exact (zS HB));(case aL=>have:=UJ.out;omega);intro aHx w11 ho hb hg hat;rw[← anJ.out]at ho;replace HB:=am (hb);have anN:=am (ho);clear fM ho hb hg hat)|((with_reducible refine af (f:=138) rfl ?_);refine zc (some 25) Tryz.func138 #[.slice A0 l0.length c0,.int .i64 lu] (aZ.calls _ _ _ _ _ _ (zC (Kd.jZ HR0.out HB.out)) HC0.out A13.out) ?_;rintro e w' ⟨rfl,⟨nd,rfl⟩⟩;refine⟨_,rfl,?_⟩)|((with_reducible refine eG (b := .append) (xs:=#[.tmp 30,.tmp 33]) rfl ?_);at_builtin;refine Kd.kU (Kd.int .i64) (w0:=w) w.heap.size rfl (.tmp 30) (.tmp 33) 70 3 (.int .i64 0) 8 rfl Tryz.underlying70 info3 rfl (by decide) (by omega) u5 ig (Int.tmod (wrap64 ((wrap64 (ac4*a1))+jU)) 16777216) [.int .i64 (Int.tmod (wrap64 ((wrap64 (ac4*a1))+jU)) 16777216)] (fun _=>True) (fun _=>False) rfl rfl ?aP (fun _ hk=>hk.elim) ?aF ?aO ?aB ?aS ?aL ?_;(case aP=>exact rfl);(case aB=>exact (zB HB));(case aF=>exact (fun _ _=>trivial));(case aO=>exact (zR fM));(case aS=>exact (zS HB));(case aL=>have:=anK.out;omega);intro aHy w15 ho hb hg hat;rw[← anL.out]at ho;replace HB:=am (hb);have anO:=am (ho);clear fM ho hb hg hat)))
 ·go_roundg k1
  case measure=>have:=HK1.out;omega
  case rel=>exact⟨(azA),(wrap64 (Int.tdiv (wrap64 ((wrap64 (ac2*a1))+jU)) 16777216)),(wrap64 (lu+1)),z1,z1,H,(zH HK1),⟨zR anM⟩,⟨zB HB⟩⟩
 ·go_roundg k1
  case measure=>have:=HK1.out;omega
  case rel=>exact⟨(azB),(wrap64 (Int.tdiv (wrap64 ((wrap64 (ac3*a1))+jU)) 16777216)),(wrap64 (lu+1)),z1,z1,H,(zH HK1),⟨zR anN⟩,⟨zB HB⟩⟩
 ·go_ret
  exact⟨_,z2,zR fM,zB HB⟩
 ·go_roundg k1
  case measure=>have:=HK1.out;omega
  case rel=>exact⟨(azC),(wrap64 (Int.tdiv (wrap64 ((wrap64 (ac4*a1))+jU)) 16777216)),(wrap64 (lu+1)),z1,z1,H,(zH HK1),⟨zR anO⟩,⟨zB HB⟩⟩
 go_ret
 exact⟨_,z2,zR fM,zB HB⟩
mutual
def aV.l0:Nat→List Int→List Int→List Int→Int→Int→Option (List Int)
  | 0,_,_,_,_,_=>none
  | k+1,x0,x1,x5,x6,x7=>if x7<(x0.length:Int) then (aV.j1 k x0 x1 x5 x6 x7 true) else (if x7<(x1.length:Int) then (aV.j1 k x0 x1 x5 x6 x7 true) else (aV.j1 k x0 x1 x5 x6 x7 (decide (x6 > 0))))
def aV.j1:Nat→List Int→List Int→List Int→Int→Int→Bool→Option (List Int)
  | 0,_,_,_,_,_,_=>none
  | k+1,x0,x1,x5,x6,x7,x22=>if x22=true then ((aZ.f x0 x7).bind fun ac5=>((aZ.f x1 x7).bind fun ac6=>(if x5.length<17592186044416 then (aV.l0 k x0 x1 (x5 ++ [Int.tmod (wrap64 ((wrap64 (ac5+ac6))+x6)) 16777216]) (wrap64 (Int.tdiv (wrap64 ((wrap64 (ac5+ac6))+x6)) 16777216)) (wrap64 (x7+1))) else (none)))) else (some x5)
end
def aV.f (k:Nat)(l0:List Int)(l1:List Int):Option (List Int):=aV.l0 k l0 l1 ([]:List Int) 0 0
theorem aV.calls (k:Nat)(A0:Option Addr)(c0:Nat)(l0:List Int)(A1:Option Addr)(c1:Nat)(l1:List Int)(r:List Int)(w:World)(hr0:Kd.C (Kd.int .i64) w A0 l0.length l0)(hc0:l0.length≤c0)(hr1:Kd.C (Kd.int .i64) w A1 l1.length l1)(hc1:l1.length≤c1)(h:aV.f k l0 l1=some r) :
    Calls Tryz.prog 83 #[.slice A0 l0.length c0,.slice A1 l1.length c1] w fun e w' => ∃ v0_:Value,e=.returned (v0_)∧Kd.R (Kd.int .i64) 3 w' w.heap.size (fun _=>True) v0_ r∧Below w.heap.size w w':=by
 have HR0:=am hr0;have HC0:=am hc0;clear hr0 hc0;have HR1:=am hr1;have HC1:=am hc1;clear hr1 hc1;have HB:=am (Below.refl w.heap.size w);have H:=am h;unfold aV.f at H;clear h
 go_enter Tryz.func83,Tryz.ntmps83
 go_wp2
 go_loopg [5,6,7] k (fun kq v5 v6 v7 w' => ∃ (ig:List Int) (jU:Int) (lu:Int),v6=.int .i64 jU∧v7=.int .i64 lu∧ae (aV.l0 kq l0 l1 ig jU lu=some r)∧ae (kq≤k)∧ae (Kd.R (Kd.int .i64) 3 w' w.heap.size (fun _=>True) v5 ig)∧ae (Below w.heap.size w w'))
 case atStart=>exact⟨(([]:List Int)),(0),(0),z1,z1,H,zL,⟨zN⟩,⟨zB HB⟩⟩
 clear H;obtain⟨ig,jU,lu,rfl,rfl,H,HK1,fM,HB⟩:=hrel;obtain _|k1:=gk
 ·exact zz H rfl
 simp only[aV.l0]at H
 go_upto_region 4 with (fail)
 go_cut [22] (fun v22 wc => ∃ (kq:Nat) (Yv:Bool),v22=.bool Yv∧ae (aV.j1 kq l0 l1 ig jU lu Yv=some r)∧ae (kq≤k1)∧ae (Kd.R (Kd.int .i64) 3 wc w.heap.size (fun _=>True) u5 ig)∧ae (Below w.heap.size w wc))
 case first =>
  replace H:=zsd H;rcases H with⟨jP,H⟩|⟨jP,H⟩
  (first|rw[jP]|(simp only[cu,fQ];rw[jP])|rw[sQ]|skip)
  rotate_left
  (first|rw[jP]|(simp only[cu,fQ];rw[jP])|rw[sQ]|skip)
  replace H:=zsd H;rcases H with⟨qg,H⟩|⟨qg,H⟩;rotate_left;rotate_left
  all_goals (go_wp2)
  ·go_meet
   case rel=>exact⟨_,(true),z1,H,⟨by have:=HK1.out;first|omega|exact Nat.le_refl _⟩,⟨zR fM⟩,⟨zB HB⟩⟩
  ·go_meet
   case rel=>exact⟨_,(true),z1,H,⟨by have:=HK1.out;first|omega|exact Nat.le_refl _⟩,⟨zR fM⟩,⟨zB HB⟩⟩
  go_meet
  case rel=>exact⟨_,(decide (jU > 0)),z1,H,⟨by have:=HK1.out;first|omega|exact Nat.le_refl _⟩,⟨zR fM⟩,⟨zB HB⟩⟩
 case rest =>
  obtain⟨kq,Yv,rfl,H,HJ2,fM,HB⟩:=hcut;obtain _|kj2:=kq
  ·exact zz H rfl
  simp only[aV.j1]at H
  cases Yv
  replace H:=zb0 H;obtain rfl:=Option.some.inj H.out;rotate_left;replace H:=zb1 H;replace H:=zo H;obtain⟨ac5,A7,H⟩:=H;replace H:=zo H;obtain⟨ac6,A8,H⟩:=H;replace H:=zil H;obtain⟨ac7,H⟩:=H;generalize ahz:(ig ++ [Int.tmod (wrap64 ((wrap64 (ac5+ac6))+jU)) 16777216]:List Int)=azD at H;have anP:=zY ahz;clear ahz;rotate_left
  all_goals (go_wp2_with (first|((with_reducible refine af (f:=138) rfl ?_);refine zc (some 27) Tryz.func138 #[.slice A0 l0.length c0,.int .i64 lu] (aZ.calls _ _ _ _ _ _ (zC (Kd.jZ HR0.out HB.out)) HC0.out A7.out) ?_;rintro e w' ⟨rfl,⟨nd,rfl⟩⟩;refine⟨_,rfl,?_⟩)|((with_reducible refine af (f:=138) rfl ?_);refine zc (some 30) Tryz.func138 #[.slice A1 l1.length c1,.int .i64 lu] (aZ.calls _ _ _ _ _ _ (zC (Kd.jZ HR1.out (zB HB))) HC1.out A8.out) ?_;rintro e w' ⟨rfl,⟨nd,rfl⟩⟩;refine⟨_,rfl,?_⟩)|((with_reducible refine eG (b := .append) (xs:=#[.tmp 34,.tmp 37]) rfl ?_);(try (refine nJ (by rfl) ?_;dsimp only));at_builtin;refine Kd.kU (Kd.int .i64) (w0:=w) w.heap.size rfl (.tmp 34) (.tmp 37) 70 3 (.int .i64 0) 8 rfl Tryz.underlying70 info3 rfl (by decide) (by omega) u5 ig (Int.tmod (wrap64 ((wrap64 (ac5+ac6))+jU)) 16777216) [.int .i64 (Int.tmod (wrap64 ((wrap64 (ac5+ac6))+jU)) 16777216)] (fun _=>True) (fun _=>False) rfl rfl ?aP (fun _ hk=>hk.elim) ?aF ?aO ?aB ?aS ?aL ?_;(case aP=>exact rfl);(case aB=>exact (zB HB));(case aF=>exact (fun _ _=>trivial));(case aO=>exact (zR fM));(case aS=>exact (zS HB));(case aL=>have:=ac7.out;omega);intro aHz w10 ho hb hg hat;rw[← anP.out]at ho;replace HB:=am (hb);have anQ:=am (ho);clear fM ho hb hg hat)))
  ·go_ret
   exact⟨_,z2,zR fM,zB HB⟩
  go_roundg kj2
  case measure=>have:=HK1.out;have:=HJ2.out;omega
  case rel=>exact⟨(azD),(wrap64 (Int.tdiv (wrap64 ((wrap64 (ac5+ac6))+jU)) 16777216)),(wrap64 (lu+1)),z1,z1,H,⟨by have:=HK1.out;have:=HJ2.out;omega⟩,⟨zR anQ⟩,⟨zB HB⟩⟩
end Go.Proofs.Yy.PTx
end
