/- Part 15 of what the proof needs. -/
import Derived.Test.YtpfnkbnepcchgaaGreatDoorKTEAN
set_option linter.unusedSimpArgs false
set_option linter.unusedVariables false
section
namespace Go.Proofs.Yy.PTx
open Go.RowKit Go.Proofs.Yw.PrintWords Go.Proofs.Yw.PrintLast Go.Proofs.Yw.PrintMore Go.Proofs.Yy.SC Go.Proofs.Yy.SR
theorem jS (a:Int) (w:World):Calls Tryz.prog 61 #[.int .i64 a] w fun e w' => ∃ gf,e = .returned (.iface 122 (.pointer (some ⟨gf,0,none⟩)))∧w.heap.size≤gf∧Fa.Gl w' gf 0 a 14∧Below w.heap.size w w':=by
  go_enter Tryz.func61,Tryz.ntmps61
  go_wp2
  go_ret
  exact ⟨_,rfl,Nat.le_refl _,heap_alloc_new w _,(Below.refl _ w).alloc (Nat.le_refl _) _⟩
theorem xm (B b k:Nat) (r:R) (w:World) (h:At B b r w) (hi:Inv k r):Calls Tryz.prog 63 #[.pointer (some ⟨b,0,none⟩)] w fun e w'=>e = .returned (.bool (whole r))∧w'=w:=by
  obtain ⟨v,h⟩:=h
  obtain ⟨c0,c1,c2,c3,c4,c5,f0,f1,f2,f3,f4,f5,hlt⟩:=lJ h.2.1
  unfold whole
  rcases abm hi.st with hs|hs|hs|hs|hs|hs|hs|hs <;> rw [hs] at c0 ⊢ <;> (
    go_enter Tryz.func63,Tryz.ntmps63
    go_wp2
    go_ret
    exact ⟨rfl,rfl⟩)
abbrev qA:Array Value:=#[.bool false, .bool false, .string (⟨#[]⟩:ByteArray), .int .i64 0]
def NL (p:Nat) (w:World) (e:Ending) (w':World):Prop := ∃ g,e = .returned (.tuple #[.agg qA, .iface 122 (.pointer (some ⟨g,0,none⟩))])∧w.heap.size≤g∧Fa.Gl w' g 0 (p:Int) 14∧Below w.heap.size w w'
def IU (g:Nat) (w:World):Prop:=w.heap[g]? = some (.cells qA 23 (0,0))
def ae3 (w:World) (g:Nat) (v0 v1 v2 v3:Value):World:=(((w.setCell ⟨g,0,none⟩ v0).setCell ⟨g,1,none⟩ v1).setCell ⟨g,2,none⟩ v2).setCell ⟨g,3,none⟩ v3
theorem vJ {w:World} {g:Nat} (h:IU g w) (v0 v1 v2 v3:Value):(ae3 w g v0 v1 v2 v3).heap[g]? = some (.cells #[v0,v1,v2,v3] 23 (0,0)) :=
  vM (vM (vM (vM h 0 v0 rfl) 1 v1 rfl) 2 v2 rfl) 3 v3 rfl
theorem O3 {w:World} {g k:Nat} (h:k≠g) (v0 v1 v2 v3:Value):(ae3 w g v0 v1 v2 v3).heap[k]? = w.heap[k]?:=by
  unfold ae3
  rw [heap_setCell_other _ _ _ _ h,heap_setCell_other _ _ _ _ h,heap_setCell_other _ _ _ _ h,heap_setCell_other _ _ _ _ h]
theorem wM {B:Nat} {w0 w:World} {g:Nat} (h:Below B w0 w) (hg:B≤g) (v0 v1 v2 v3:Value):Below B w0 (ae3 w g v0 v1 v2 v3) :=
  (((h.setCell (p:=⟨g,0,none⟩) hg v0).setCell (p:=⟨g,1,none⟩) hg v1).setCell (p:=⟨g,2,none⟩) hg v2).setCell (p:=⟨g,3,none⟩) hg v3
theorem jq {w:World} {g:Nat} (h:IU g w):w.cell? ⟨g,0,none⟩=some (.bool false)∧w.cell? ⟨g,1,none⟩=some (.bool false)∧w.cell? ⟨g,2,none⟩=some (.string (⟨#[]⟩:ByteArray))∧w.cell? ⟨g,3,none⟩=some (.int .i64 0) ∧
    w.frozen? ⟨g,0,none⟩=false∧w.frozen? ⟨g,1,none⟩=false∧w.frozen? ⟨g,2,none⟩=false∧w.frozen? ⟨g,3,none⟩=false:=by
  unfold IU at h
  exact ⟨(ag h 0).trans rfl,(ag h 1).trans rfl,(ag h 2).trans rfl,(ag h 3).trans rfl,au h 0,au h 1,au h 2,au h 3⟩
theorem Ob (w:World):IU w.heap.size (w.alloc (.cells qA 23)):=heap_alloc_new w _
theorem fP {g:Nat} {w w':World} (h:IU g w) (hb:Below w.heap.size w w'):IU g w':=by
  unfold IU at *
  rw [hb.block g (Array.getElem?_eq_some_iff.1 h).1];exact h
theorem vW {w0 w1 w2:World} {p gf:Nat} (h0:Below w0.heap.size w0 w1) (hr:IU w0.heap.size w1) (hg:w1.heap.size≤gf) (hF:Fa.Gl w2 gf 0 (p:Int) 14) (hb:Below w1.heap.size w1 w2) :
    NL p w0 (.returned (.tuple #[.agg qA, .iface 122 (.pointer (some ⟨gf,0,none⟩))])) (ae3 w2 w0.heap.size (.bool false) (.bool false) (.string (⟨#[]⟩:ByteArray)) (.int .i64 0)):=by
  have hlt:w0.heap.size<w1.heap.size:=(Array.getElem?_eq_some_iff.1 hr).1
  refine ⟨gf,rfl,by omega,?_,wM (h0.trans (hb.mono (by omega))) (Nat.le_refl _) _ _ _ _⟩
  unfold Fa.Gl at *
  rw [O3 (by omega)]
  exact hF
set_option maxHeartbeats 1000000 in
theorem TU (s:ByteArray) (w:World) (h:4096<s.size):Calls Tryz.prog 25 #[.string s] w fun e w'=>e = .returned (.tuple #[.agg qA, .iface 64 (.int .i64 13)])∧Below w.heap.size w w':=by
  have hb1:decide (4096<(s.size:Int))=true:=decide_eq_true (by omega)
  have hb2:decide (4096<s.size)=true:=decide_eq_true h
  clear h
  go_enter Tryz.func25,Tryz.ntmps25
  go_wp2
  refine bodyPost_ret (bJ rfl _ _ w.heap.size 23 qA (0,0) _ rfl (heap_alloc_new w _) Tryz.underlying23 rfl (by kernel_rfl)) rfl ?_
  exact ⟨rfl,(Below.refl _ w).alloc (Nat.le_refl _) _⟩
theorem akz {s:ByteArray} (hn:hd (· == 110) s.data.toList=true):bt s 0=110∧Lib.hasPrefix s.data.toList [110]=true:=by
  cases hl:s.data.toList with
  | nil=>rw [hl] at hn;cases hn
  | cons c l =>
    rw [hl] at hn
    have hc:c=110:=by simpa [hd] using hn
    subst hc
    have h:=Uo 110 l
    rw [← hl,Gu] at h
    exact ⟨by simpa using h,rfl⟩
theorem jO (s:ByteArray) (b:Bool) (h:Lib.hasPrefix s.data.toList [110]=b) (w:World) :
    Calls Tryz.prog 60 #[.string s, .string ((⟨#[110,97,114]⟩:ByteArray).extract 0 1)] w fun e w'=>e = .returned (.bool b)∧w'=w:=by
  subst h
  exact Tryz.strings_HasPrefix s ⟨#[110]⟩ w
abbrev Ci:ByteArray:=⟨#[110,97,114]⟩
theorem zU (l:List UInt8) (i:Nat) (x:UInt8):hd (· == x) (l.drop i)=true ↔ i<l.length∧bt (mkB l) (i:Int)=(x.toNat:Int):=by
  by_cases h:i<l.length
  · rw [Cf h,List.drop_eq_getElem_cons h]
    simp only [hd,beq_iff_eq,h,true_and]
    constructor
    · rintro rfl;rfl
    · intro h2
      exact UInt8.toNat_inj.1 (by omega)
  · rw [List.drop_eq_nil_iff.2 (by omega)]
    simp [hd,h]
theorem La (l:List UInt8):(∀ v:Nat,v<wordAt l→v<l.length∧bt (mkB l) (v:Int)=bt Ci (v:Int))∧(wordAt l<3→wordAt l<l.length→bt (mkB l) (wordAt l:Int)≠bt Ci (wordAt l:Int)):=by
  have z0:bt Ci ((0:Nat):Int)=110:=by decide
  have z1:bt Ci ((1:Nat):Int)=97:=by decide
  have z2:bt Ci ((2:Nat):Int)=114:=by decide
  have h0:=zU l 0 110
  have h1:=zU l 1 97
  have h2:=zU l 2 114
  rw [List.drop_zero] at h0
  have t0:((110:UInt8).toNat:Int)=110:=rfl
  have t1:((97:UInt8).toNat:Int)=97:=rfl
  have t2:((114:UInt8).toNat:Int)=114:=rfl
  rw [t0, ← z0] at h0
  rw [t1, ← z1] at h1
  rw [t2, ← z2] at h2
  unfold wordAt
  by_cases c0:hd (· == 110) l=true
  · rw [if_pos c0]
    obtain ⟨a0,b0⟩:=h0.1 c0
    by_cases c1:hd (· == 97) (l.drop 1)=true
    · rw [if_pos c1]
      obtain ⟨a1,b1⟩:=h1.1 c1
      by_cases c2:hd (· == 114) (l.drop 2)=true
      · rw [if_pos c2]
        obtain ⟨a2,b2⟩:=h2.1 c2
        refine ⟨fun v hv=>?_,fun h=>absurd h (by decide)⟩
        have:v=0∨v=1∨v=2:=by omega
        rcases this with rfl|rfl|rfl
        · exact ⟨a0,b0⟩
        · exact ⟨a1,b1⟩
        · exact ⟨a2,b2⟩
      · rw [if_neg c2]
        refine ⟨fun v hv=>?_,fun _ hl hb=>c2 (h2.2 ⟨hl,hb⟩)⟩
        have:v=0∨v=1:=by omega
        rcases this with rfl|rfl
        · exact ⟨a0,b0⟩
        · exact ⟨a1,b1⟩
    · rw [if_neg c1]
      refine ⟨fun v hv=>?_,fun _ hl hb=>c1 (h1.2 ⟨hl,hb⟩)⟩
      obtain rfl:v=0:=by omega
      exact ⟨a0,b0⟩
  · rw [if_neg c0]
    exact ⟨fun v hv=>absurd hv (Nat.not_lt_zero v),fun _ hl hb=>c0 (h0.2 ⟨hl,hb⟩)⟩
def EX (l:List UInt8) (w:World) (e:Ending) (w':World):Prop :=
  if wordAt l<3∨3<l.length then NL (wordAt l) w e w' else e = .returned (.tuple #[.agg #[.bool true, .bool false, .string (⟨#[]⟩:ByteArray), .int .i64 0], .nilIface])∧Below w.heap.size w w'
set_option maxHeartbeats 4000000 in
theorem Tv (s:ByteArray) (w:World) (h:s.size≤4096) (hn:hd (· == 110) s.data.toList=true) :
    Calls Tryz.prog 25 #[.string s] w fun e w'=>EX s.data.toList w e w':=by
  have hb1:decide (4096<(s.size:Int))=false:=decide_eq_false (by omega)
  have hb2:decide (4096<s.size)=false:=decide_eq_false (by omega)
  obtain ⟨b0,hp⟩:=akz hn
  obtain ⟨sp1,sp2⟩:=La s.data.toList
  obtain ⟨le1,le2⟩:=SX s.data.toList
  have hlen:s.data.toList.length=s.size:=Array.length_toList
  rw [hlen] at le2
  have HP:=am hp
  have HR0:=am (Ob w)
  have S1:=am sp1
  have S2:=am sp2
  clear hp hn b0 sp1 sp2
  go_enter Tryz.func25,Tryz.ntmps25
  go_wp2_with (first|(go_at_call 60;refine (jO s _ HP.out _).mono ?_;rintro e w1 ⟨rfl,rfl⟩)|(go_at_call 61;refine (jS _ _).mono ?_;rintro e w2 ⟨gf,rfl,hgf,hFf,hbf⟩;obtain ⟨k0,k1,k2,k3,k4,k5,k6,k7⟩:=jq (fP (by exact HR.out) hbf);have HF1:=am hgf;have HF2:=am hFf;have HF3:=am hbf;clear hgf hFf hbf))
  go_loopw [16] (fun i w' => ∃ v:Int,0≤v∧v≤(wordAt s.data.toList:Int)∧i = .int .i64 v∧ae (IU w.heap.size w')∧ae (Below w.heap.size w w')) (fun i _=>(4 - intOf i).toNat)
  case atStart=>exact ⟨0,by omega,by omega,rfl,HR0,⟨(Below.refl _ w).alloc (Nat.le_refl _) _⟩⟩
  case round =>
    obtain ⟨v,hv0,hv1,rfl,HR,HBJ⟩:=hrel
    clear HR0
    by_cases h3:v<3
    · have d3:decide (v<3)=true:=decide_eq_true h3
      by_cases hs:v=(s.size:Int)
      · have q1:(v == (s.size:Int))=true:=beq_iff_eq.mpr hs
        have q2:decide (v<(s.size:Int))=false:=decide_eq_false (by omega)
        have HV:ae (v=(wordAt s.data.toList:Int)):=⟨by omega⟩
        have HW:ae (wordAt s.data.toList<3):=⟨by omega⟩
        clear hs
        go_wp2_with (first|(go_at_call 60;refine (jO s _ HP.out _).mono ?_;rintro e w1 ⟨rfl,rfl⟩)|(go_at_call 61;refine (jS _ _).mono ?_;rintro e w2 ⟨gf,rfl,hgf,hFf,hbf⟩;obtain ⟨k0,k1,k2,k3,k4,k5,k6,k7⟩:=jq (fP (by exact HR.out) hbf);have HF1:=am hgf;have HF2:=am hFf;have HF3:=am hbf;clear hgf hFf hbf))
        repeat (go_quiet (fail);try go_wp2_with (first|(go_at_call 60;refine (jO s _ HP.out _).mono ?_;rintro e w1 ⟨rfl,rfl⟩)|(go_at_call 61;refine (jS _ _).mono ?_;rintro e w2 ⟨gf,rfl,hgf,hFf,hbf⟩;obtain ⟨k0,k1,k2,k3,k4,k5,k6,k7⟩:=jq (fP (by exact HR.out) hbf);have HF1:=am hgf;have HF2:=am hFf;have HF3:=am hbf;clear hgf hFf hbf)))
        refine bodyPost_ret (bJ rfl _ _ w.heap.size 23 qA (0,0) _ rfl (vJ (fP (by exact HR.out) HF3.out) (.bool false) (.bool false) (.string (⟨#[]⟩:ByteArray)) (.int .i64 0)) Tryz.underlying23 rfl (by kernel_rfl)) rfl ?_
        unfold EX
        rw [if_pos (.inl HW.out)]
        refine vW (p:=wordAt s.data.toList) (by first|exact HBJ.out|exact aI HBJ.out _) (by exact HR.out) HF1.out ?_ HF3.out
        rw [← HV.out];exact HF2.out
      · have hlt:v<(s.size:Int):=by omega
        have q1:(v == (s.size:Int))=false:=beq_eq_false_iff_ne.mpr hs
        have p6:=eq_true hv0
        have q6:=eq_true hlt
        have q6b:decide (v<(s.size:Int))=true:=decide_eq_true hlt
        have hx6:=uC s v
        have q7:=eq_true h3
        have hx7:=uC Ci v
        by_cases hm:bt s v=bt Ci v
        · have hm1:(bt s v == bt Ci v)=true:=beq_iff_eq.mpr hm
          have hm2:(bt s v != bt Ci v)=false:=bne_eq_false_iff_eq.mpr hm
          have HV:ae (v<(wordAt s.data.toList:Int)):=⟨by
            by_cases h':v<(wordAt s.data.toList:Int)
            · exact h'
            · exfalso
              have e1:v=(wordAt s.data.toList:Int):=by omega
              refine S2.out (by omega) (by rw [hlen];omega) ?_
              rw [Gu, ← e1];exact hm⟩
          clear hs hm hlt
          go_wp2_with (first|(go_at_call 60;refine (jO s _ HP.out _).mono ?_;rintro e w1 ⟨rfl,rfl⟩)|(go_at_call 61;refine (jS _ _).mono ?_;rintro e w2 ⟨gf,rfl,hgf,hFf,hbf⟩;obtain ⟨k0,k1,k2,k3,k4,k5,k6,k7⟩:=jq (fP (by exact HR.out) hbf);have HF1:=am hgf;have HF2:=am hFf;have HF3:=am hbf;clear hgf hFf hbf))
          repeat (go_quiet (fail);try go_wp2_with (first|(go_at_call 60;refine (jO s _ HP.out _).mono ?_;rintro e w1 ⟨rfl,rfl⟩)|(go_at_call 61;refine (jS _ _).mono ?_;rintro e w2 ⟨gf,rfl,hgf,hFf,hbf⟩;obtain ⟨k0,k1,k2,k3,k4,k5,k6,k7⟩:=jq (fP (by exact HR.out) hbf);have HF1:=am hgf;have HF2:=am hFf;have HF3:=am hbf;clear hgf hFf hbf)))
          go_roundw
          case rel=>exact ⟨v+1,by omega,by have:=HV.out;omega,by first|rfl|rw [jb (by omega) (by omega)],⟨by exact HR.out⟩,⟨by first|exact HBJ.out|exact aI HBJ.out _⟩⟩
          case measure=>simp only [intOf];omega
        · have hm1:(bt s v == bt Ci v)=false:=beq_eq_false_iff_ne.mpr hm
          have hm2:(bt s v != bt Ci v)=true:=bne_iff_ne.mpr hm
          have HV:ae (v=(wordAt s.data.toList:Int)):=⟨by
            by_cases h':v<(wordAt s.data.toList:Int)
            · exfalso
              obtain ⟨n,rfl⟩:=Int.eq_ofNat_of_zero_le hv0
              exact hm (S1.out n (by omega)).2
            · omega⟩
          have HW:ae (wordAt s.data.toList<3):=⟨by have:=HV.out;omega⟩
          clear hs hm hlt
          go_wp2_with (first|(go_at_call 60;refine (jO s _ HP.out _).mono ?_;rintro e w1 ⟨rfl,rfl⟩)|(go_at_call 61;refine (jS _ _).mono ?_;rintro e w2 ⟨gf,rfl,hgf,hFf,hbf⟩;obtain ⟨k0,k1,k2,k3,k4,k5,k6,k7⟩:=jq (fP (by exact HR.out) hbf);have HF1:=am hgf;have HF2:=am hFf;have HF3:=am hbf;clear hgf hFf hbf))
          repeat (go_quiet (fail);try go_wp2_with (first|(go_at_call 60;refine (jO s _ HP.out _).mono ?_;rintro e w1 ⟨rfl,rfl⟩)|(go_at_call 61;refine (jS _ _).mono ?_;rintro e w2 ⟨gf,rfl,hgf,hFf,hbf⟩;obtain ⟨k0,k1,k2,k3,k4,k5,k6,k7⟩:=jq (fP (by exact HR.out) hbf);have HF1:=am hgf;have HF2:=am hFf;have HF3:=am hbf;clear hgf hFf hbf)))
          refine bodyPost_ret (bJ rfl _ _ w.heap.size 23 qA (0,0) _ rfl (vJ (fP (by exact HR.out) HF3.out) (.bool false) (.bool false) (.string (⟨#[]⟩:ByteArray)) (.int .i64 0)) Tryz.underlying23 rfl (by kernel_rfl)) rfl ?_
          unfold EX
          rw [if_pos (.inl HW.out)]
          refine vW (p:=wordAt s.data.toList) (by first|exact HBJ.out|exact aI HBJ.out _) (by exact HR.out) HF1.out ?_ HF3.out
          rw [← HV.out];exact HF2.out
    · have d3:decide (v<3)=false:=decide_eq_false h3
      have HW:ae (wordAt s.data.toList=3):=⟨by omega⟩
      have HL:=am hlen
      by_cases hl:3<s.size
      · have r1:decide ((3:Int)<(s.size:Int))=true:=decide_eq_true (by omega)
        have r2:decide (3<s.size)=true:=decide_eq_true hl
        have HL3:=am hl
        clear hl
        go_wp2_with (first|(go_at_call 60;refine (jO s _ HP.out _).mono ?_;rintro e w1 ⟨rfl,rfl⟩)|(go_at_call 61;refine (jS _ _).mono ?_;rintro e w2 ⟨gf,rfl,hgf,hFf,hbf⟩;obtain ⟨k0,k1,k2,k3,k4,k5,k6,k7⟩:=jq (fP (by exact HR.out) hbf);have HF1:=am hgf;have HF2:=am hFf;have HF3:=am hbf;clear hgf hFf hbf))
        refine bodyPost_ret (bJ rfl _ _ w.heap.size 23 qA (0,0) _ rfl (vJ (fP (by exact HR.out) HF3.out) (.bool false) (.bool false) (.string (⟨#[]⟩:ByteArray)) (.int .i64 0)) Tryz.underlying23 rfl (by kernel_rfl)) rfl ?_
        unfold EX
        rw [if_pos (.inr (by rw [HL.out];exact HL3.out))]
        refine vW (p:=wordAt s.data.toList) (by first|exact HBJ.out|exact aI HBJ.out _) (by exact HR.out) HF1.out ?_ HF3.out
        rw [HW.out];exact HF2.out
      · have r1:decide ((3:Int)<(s.size:Int))=false:=decide_eq_false (by omega)
        have r2:decide (3<s.size)=false:=decide_eq_false hl
        have HL3:=am hl
        obtain ⟨k0,k1,k2,k3,k4,k5,k6,k7⟩:=jq HR.out
        clear hl
        go_wp2_with (first|(go_at_call 60;refine (jO s _ HP.out _).mono ?_;rintro e w1 ⟨rfl,rfl⟩)|(go_at_call 61;refine (jS _ _).mono ?_;rintro e w2 ⟨gf,rfl,hgf,hFf,hbf⟩;obtain ⟨k0,k1,k2,k3,k4,k5,k6,k7⟩:=jq (fP (by exact HR.out) hbf);have HF1:=am hgf;have HF2:=am hFf;have HF3:=am hbf;clear hgf hFf hbf))
        refine bodyPost_ret (bJ rfl _ _ w.heap.size 23 #[.bool true, .bool false, .string (⟨#[]⟩:ByteArray), .int .i64 0] (0,0) _ rfl (vJ HR.out (.bool true) (.bool false) (.string (⟨#[]⟩:ByteArray)) (.int .i64 0)) Tryz.underlying23 rfl (by kernel_rfl)) rfl ?_
        unfold EX
        rw [if_neg (by rw [HL.out, HW.out]; intro h'; rcases h' with h' | h'; · omega
                       · exact HL3.out h')]
        exact ⟨rfl,wM HBJ.out (Nat.le_refl _) _ _ _ _⟩
theorem XC (l:List UInt8):strOfNums (l.map fun c=>(c.toNat:Int))=mkB l:=by
 unfold strOfNums mkB
 rw [List.map_map]
 congr 2
 conv=>rhs;rw [← List.map_id l]
 refine List.map_congr_left fun c _=>?_
 simp
theorem NT {B:Nat} {v:Value} {ds:List UInt8} {W:World} (h:W.ownsRow B 5 1 v ds.length (tH ds)) (h0:ds ≠ []) :
  (∃ gr cap,v = .slice (some ⟨gr,0,none⟩) ds.length cap)∧(convert 104 9 v).run Tryz.prog W = .ok (.string (mkB ds)) W:=by
 have hp:=List.length_pos_iff.2 h0
 rcases h.2 with ⟨_,hz⟩|⟨g,cap,cur,rfl,hB,hg,hn,hc,hs,ht⟩
 ·omega
 ·refine ⟨⟨g,cap,rfl⟩,?_⟩
  rw [← XC]
  refine run_convert_bytes_arg W 104 5 Tryz.underlying104 Tryz.underlying5 g 0 ds.length cap _ (by simp) (fun i hi=>?_) 9 Tryz.underlying9
  have e:cur.toList[i]? = some (.int .u8 ((ds[i]'hi).toNat:Int)):=by
   have:(cur.toList.take (ds.length * 1))[i]? = (tH ds)[i]?:=by rw [ht]
   rw [List.getElem?_take_of_lt (by omega)] at this
   rw [this]
   simp [tH,hi]
  rw [Nat.zero_add]
  simp [World.cell?, hg]
  simp at e
  rw [e]
  simp [hi]
theorem aaJ {s:ByteArray} {v:Int} (h0:0≤v) (h1:v<(s.size:Int)):∃ h:v.toNat<s.data.toList.length,bt s v=((s.data.toList[v.toNat]'h).toNat:Int):=by
 have hl:s.data.toList.length=s.size:=Array.length_toList
 have h:v.toNat<s.data.toList.length:=by omega
 refine ⟨h,?_⟩
 have:=Cf h
 rw [Gu,Int.toNat_of_nonneg h0] at this
 exact this
theorem RZ {g B:Nat} {w w':World} (h:IU g w) (hb:Below B w w') (hg:g<B):IU g w':=by
 unfold IU at *
 rw [hb.block g hg];exact h
theorem aaW {B b:Nat} {r:R} {w:World} (h:At B b r w):b<w.heap.size:=by
 obtain ⟨v,h⟩:=h
 exact (Array.getElem?_eq_some_iff.1 h.2.1).1
theorem Ph {B b k:Nat} {r:R} {c:UInt8} {x:Int} {w:World} (hx:x=(c.toNat:Int)) (h:At B b r w) (hi:Inv k r) (ht:tk r c=none) :
  Calls Tryz.prog 62 #[.pointer (some ⟨b,0,none⟩), .int .u8 x] w fun e w'=>e = .returned (.bool false)∧Below B w w':=by
 subst hx;exact Tn B b k r c w h hi ht
theorem O7 {B b k:Nat} {r r':R} {c:UInt8} {x:Int} {w:World} (hx:x=(c.toNat:Int)) (h:At B b r w) (hi:Inv k r) (hk:k<1000000) (hB:B≤w.heap.size) (ht:tk r c=some r') :
  Calls Tryz.prog 62 #[.pointer (some ⟨b,0,none⟩), .int .u8 x] w fun e w'=>e = .returned (.bool true)∧At B b r' w'∧Below B w w':=by
 subst hx;exact SL B b k r r' c w h hi hk hB ht
theorem TR {g b:Nat} {st:Int} {neg:Bool} {v:Value} {ds:List UInt8} {beh:Int} {eneg:Bool} {exp:Int} {w0 W:World} (h:Held b b st neg v ds beh eneg exp W) (hR:IU g W) (hB:Below g w0 W) (hg:g<b) (x:Value) :
  IU g (W.setCell ⟨b,5,none⟩ x)∧Below g w0 (W.setCell ⟨b,5,none⟩ x):=by
 refine ⟨?_,hB.setCell (p:=⟨b,5,none⟩) (Nat.le_of_lt hg) x⟩
 unfold IU at *
 rw [heap_setCell_other W ⟨b,5,none⟩ g x (Nat.ne_of_lt hg)]
 exact hR
def ajM (r:R):Int:=(if r.eneg=true then -(r.exp:Int) else (r.exp:Int)) - (r.beh:Int)
theorem NP (y:Int):max (-1000000) (min 1000000 y)=held y:=by
 unfold held kQ;split <;> (try split) <;> omega
def wF (l:List UInt8) (w:World) (e:Ending) (w':World):Prop :=
 match scan l with
 | .inl p=>NL p w e w'
 | .inr r=>e = .returned (.tuple #[.agg #[.bool (nrm (toD r)).nar, .bool (nrm (toD r)).neg, .string (mkB (nrm (toD r)).ds), .int .i64 (nrm (toD r)).e], .nilIface])∧Below w.heap.size w w'
set_option maxHeartbeats 1600000 in
set_option maxRecDepth 100000 in
theorem scan_num (s:ByteArray) (w:World) (h:s.size≤4096) (hn:Lib.hasPrefix s.data.toList [110]=false) :
  Calls Tryz.prog 25 #[.string s] w fun e w'=>wF s.data.toList w e w':=by
 have hb1:decide (4096<(s.size:Int))=false:=decide_eq_false (by omega)
 have hb2:decide (4096<s.size)=false:=decide_eq_false (by omega)
 have hlen:s.data.toList.length=s.size:=Array.length_toList
 have HL:=am hlen
 have HP:=am hn
 have HS:=am h
 clear hn h hlen
 have HA0:ae (At (w.heap.size+1) (w.heap.size+1) r0 ((w.alloc (.cells qA 23)).alloc (.cells #[.int .i64 0, .bool false, .slice none 0 0, .int .i64 0, .bool false, .int .i64 0] 106))):=⟨⟨.slice none 0 0,Nat.le_refl _,by
  have h2:=heap_alloc_new (w.alloc (.cells qA 23)) (.cells #[.int .i64 0, .bool false, .slice none 0 0, .int .i64 0, .bool false, .int .i64 0] 106)
  have e:(w.alloc (.cells qA 23)).heap.size=w.heap.size+1:=by simp
  rw [e] at h2
  exact h2,World.ownsRow_nil _ _ _ _⟩⟩
 have HR0:ae (IU w.heap.size ((w.alloc (.cells qA 23)).alloc (.cells #[.int .i64 0, .bool false, .slice none 0 0, .int .i64 0, .bool false, .int .i64 0] 106))):=⟨fP (Ob w) ((Below.refl _ _).alloc (Nat.le_refl _) _)⟩
 go_enter Tryz.func25,Tryz.ntmps25
 go_wp2_with (go_at_call 60;refine (jO s _ HP.out _).mono ?_;rintro e w1 ⟨rfl,rfl⟩)
 go_loopw [43] (fun i w' => ∃ (v:Int) (r:R),0≤v∧v≤(s.size:Int)∧i = .int .i64 v∧ae (run r0 0 s.data.toList=run r v.toNat (s.data.toList.drop v.toNat))∧ae (Inv v.toNat r)∧ae (At (w.heap.size+1) (w.heap.size+1) r w')∧ae (IU w.heap.size w')∧ae (Below w.heap.size w w')) (fun i _=>(4100 - intOf i).toNat)
 case atStart =>
  exact ⟨0,r0,by omega,by omega,rfl,⟨by simp⟩,⟨inv0⟩,HA0,HR0,⟨((Below.refl _ w).alloc (Nat.le_refl _) _).alloc (by simp) _⟩⟩
 case round =>
  obtain ⟨v,r,hv0,hv1,rfl,HRUN,HI,HAT,HR,HBJ⟩:=hrel
  clear HR0 HA0
  have HB:=am (aaW HAT.out)
  by_cases hlt:v<(s.size:Int)
  ·have d1:decide (v<(s.size:Int))=true:=decide_eq_true hlt
   have p6:=eq_true hv0
   have q6:=eq_true hlt
   have hx6:=uC s v
   obtain ⟨hi,hbt⟩:=aaJ hv0 hlt
   have hdrop:=List.drop_eq_getElem_cons hi
   obtain ⟨c,hc⟩:∃ c,c=s.data.toList[v.toNat]'hi:=⟨_,rfl⟩
   rw [← hc] at hbt hdrop
   have HD:=am hdrop
   have HBT:=am hbt
   have HS2:=am hlt
   clear hlt hbt hdrop hc
   cases ht:tk r c with
   | none =>
    have HT:=am ht
    have HV:=am hv0
    clear ht hv0 hv1
    go_wp2_with (first|(go_at_call 62;refine (Ph HBT.out HAT.out HI.out HT.out).mono ?_;rintro e w1 ⟨rfl,hb⟩;have HR1:=am (RZ HR.out hb (Nat.lt_succ_self _));have HB1:=am (HBJ.out.trans (hb.mono (Nat.le_succ _)));clear hb)|(go_at_call 61;refine (jS _ _).mono ?_;rintro e w2 ⟨gf,rfl,hgf,hFf,hbf⟩;obtain ⟨k0,k1,k2,k3,k4,k5,k6,k7⟩:=jq (fP (by exact HR1.out) hbf);have HF1:=am hgf;have HF2:=am hFf;have HF3:=am hbf;clear hgf hFf hbf))
    refine bodyPost_ret (bJ rfl _ _ w.heap.size 23 qA (0,0) _ rfl (vJ (fP (by exact HR1.out) HF3.out) (.bool false) (.bool false) (.string (⟨#[]⟩:ByteArray)) (.int .i64 0)) Tryz.underlying23 rfl (by kernel_rfl)) rfl ?_
    have hscan:scan s.data.toList = .inl v.toNat:=by
     unfold scan
     rw [HRUN.out,HD.out,run,HT.out]
    unfold wF
    rw [hscan]
    refine vW HB1.out HR1.out HF1.out ?_ HF3.out
    rw [Int.toNat_of_nonneg HV.out]
    exact HF2.out
   | some r' =>
    have HT:=am ht
    clear ht
    go_wp2_with (go_at_call 62;refine (O7 HBT.out HAT.out HI.out (by have:=HS.out;have:=HS2.out;omega) (Nat.le_of_lt HB.out) HT.out).mono ?_;rintro e w1 ⟨rfl,ha,hb⟩;have HA1:=am ha;have HR1:=am (RZ HR.out hb (Nat.lt_succ_self _));have HB1:=am (HBJ.out.trans (hb.mono (Nat.le_succ _)));clear ha hb)
    go_roundw
    case rel =>
     have e1:(v+1).toNat=v.toNat+1:=by omega
     refine ⟨v+1,r',by omega,by have:=HS2.out;omega,by first|rfl|rw [jb (by omega) (by have:=HS.out;omega)],⟨?_⟩,⟨?_⟩,HA1,HR1,HB1⟩
     ·rw [HRUN.out,HD.out,run,HT.out,e1]
     ·rw [e1];exact HI.out.tk HT.out
    case measure=>have hq:=HS.out;have e9:=jb (n:=v+1) (by omega) (by omega);simp only [intOf];first|(rw [e9];omega)|omega
  ·have d1:decide (v<(s.size:Int))=false:=decide_eq_false hlt
   have HE:ae (run r0 0 s.data.toList = .inr r):=⟨by
    rw [HRUN.out,List.drop_eq_nil_iff.2 (by rw [HL.out];omega)];rfl⟩
   have HZ:ae (v.toNat=s.size):=⟨by omega⟩
   clear hlt hv0 hv1
   cases hw:whole r with
   | false =>
    have HW:=am hw
    clear hw
    have HR1:=HR
    go_wp2_with (first|(go_at_call 63;refine (xm _ _ _ r _ HAT.out HI.out).mono ?_;rw [HW.out];rintro e w1 ⟨rfl,rfl⟩)|(go_at_call 61;refine (jS _ _).mono ?_;rintro e w2 ⟨gf,rfl,hgf,hFf,hbf⟩;obtain ⟨k0,k1,k2,k3,k4,k5,k6,k7⟩:=jq (fP (by exact HR1.out) hbf);have HF1:=am hgf;have HF2:=am hFf;have HF3:=am hbf;clear hgf hFf hbf))
    refine bodyPost_ret (bJ rfl _ _ w.heap.size 23 qA (0,0) _ rfl (vJ (fP (by exact HR1.out) HF3.out) (.bool false) (.bool false) (.string (⟨#[]⟩:ByteArray)) (.int .i64 0)) Tryz.underlying23 rfl (by kernel_rfl)) rfl ?_
    have hscan:scan s.data.toList = .inl s.size:=by
     unfold scan
     rw [HE.out]
     simp only [HW.out,Bool.false_eq_true,if_false,HL.out]
    unfold wF
    rw [hscan]
    exact vW HBJ.out HR1.out HF1.out HF2.out HF3.out
   | true =>
    have HW:=am hw
    clear hw
    have hscan:scan s.data.toList = .inr r:=by
     unfold scan
     rw [HE.out]
     simp only [HW.out,if_true]
    have HSC:=am hscan
    have hfm:=KU hscan (by rw [HL.out];exact HS.out)
    have hds:r.ds ≠ []:=by
     have:=hfm
     unfold formed toD at this
     simp only [Bool.false_eq_true,if_false,Bool.and_eq_true,Bool.not_eq_true',List.isEmpty_eq_false_iff] at this
     exact this.1
    have hbd:=oO hfm
    have hexp:=HI.out.exp
    have hbeh:r.beh≤4096:=by
     have h1:=HI.out.beh
     have h2:=HI.out.len
     have h3:=HS.out
     have h4:=HZ.out
     omega
    have htr:=Aw (toD r) (by omega) hbd.2.1 hbd.2.2
    obtain ⟨va,hHeld⟩:=HAT.out
    obtain ⟨⟨gr,cap,rfl⟩,hcv⟩:=NT hHeld.2.2 hds
    obtain ⟨c0,c1,c2,c3,c4,c5,f0,f1,f2,f3,f4,f5,hblt⟩:=lJ hHeld.2.1
    have HHELD:=am hHeld
    clear hscan hfm hbd hHeld
    by_cases hE:r.eneg=true
    ·rw [hE] at c4
     have hneg:wrap64 (-(r.exp:Int)) = -(r.exp:Int):=jb (by unfold far at hexp;omega) (by unfold far at hexp;omega)
     have hnegw:IntKind.i64.wrap (-(r.exp:Int)) = -(r.exp:Int):=(bI _).trans hneg
     have hcv2:=(NT (HHELD.out.xn (-(r.exp:Int))).2.2 hds).2
     obtain ⟨qr1,qb1⟩:=TR HHELD.out HR.out HBJ.out (Nat.lt_succ_self _) (.int .i64 (-(r.exp:Int)))
     have HR1:=am qr1
     have HB1:=am qb1
     clear qr1 qb1
     have hyy:ajM r = -(r.exp:Int) - (r.beh:Int):=by unfold ajM;rw [hE];rfl
     obtain ⟨y,hy⟩:∃ y:Int,y = -(r.exp:Int) - (r.beh:Int):=⟨_,rfl⟩
     have hsub:wrap64 (-(r.exp:Int) - (r.beh:Int))=y:=by rw [hy];exact jb (by unfold far at hexp;omega) (by unfold far at hexp;omega)
     have hsubw:IntKind.i64.wrap (-(r.exp:Int) - (r.beh:Int))=y:=(bI _).trans hsub
     have hz:max (-1000000) (min 1000000 y)=held y:=NP y
     have HTR:ae (iH.f false r.neg (mkB r.ds) (max (-1000000) (min 1000000 y))=some ((nrm (toD r)).nar,(nrm (toD r)).neg,mkB (nrm (toD r)).ds,(nrm (toD r)).e)):=⟨by
      have h1:(toD r).e=max (-1000000) (min 1000000 y):=by rw [hz,hy, ← hyy];rfl
      rw [← h1];exact htr⟩
     clear htr hy hyy hz hds hexp hbeh
     go_wp2_with (first|(go_at_call 63;refine (xm _ _ _ r _ HAT.out HI.out).mono ?_;rw [HW.out];rintro e w1 ⟨rfl,rfl⟩)|(go_at_call 64;refine (iH.calls _ _ _ _ _ _ _ _ _ HTR.out).mono ?_;rintro e w3 ⟨rfl,hb3⟩;obtain ⟨k0,k1,k2,k3,k4,k5,k6,k7⟩:=jq (fP (by exact HR1.out) hb3);have HF3:=am hb3;clear hb3))
     refine bodyPost_ret (bJ rfl _ _ w.heap.size 23 #[.bool (nrm (toD r)).nar, .bool (nrm (toD r)).neg, .string (mkB (nrm (toD r)).ds), .int .i64 (nrm (toD r)).e] (0,0) _ rfl (vJ (fP (by exact HR1.out) HF3.out) _ _ _ _) Tryz.underlying23 rfl (by kernel_rfl)) rfl ?_
     unfold wF
     rw [HSC.out]
     exact ⟨rfl,wM (HB1.out.trans (HF3.out.mono (by have:=HB1.out.size;exact this))) (Nat.le_refl _) _ _ _ _⟩
    ·replace hE:=Bool.eq_false_iff.2 hE
     rw [hE] at c4
     have HR1:=HR
     have HB1:=HBJ
     have hyy:ajM r=(r.exp:Int) - (r.beh:Int):=by unfold ajM;rw [hE];rfl
     obtain ⟨y,hy⟩:∃ y:Int,y=(r.exp:Int) - (r.beh:Int):=⟨_,rfl⟩
     have hsub:wrap64 ((r.exp:Int) - (r.beh:Int))=y:=by rw [hy];exact jb (by unfold far at hexp;omega) (by unfold far at hexp;omega)
     have hsubw:IntKind.i64.wrap ((r.exp:Int) - (r.beh:Int))=y:=(bI _).trans hsub
     have hz:max (-1000000) (min 1000000 y)=held y:=NP y
     have HTR:ae (iH.f false r.neg (mkB r.ds) (max (-1000000) (min 1000000 y))=some ((nrm (toD r)).nar,(nrm (toD r)).neg,mkB (nrm (toD r)).ds,(nrm (toD r)).e)):=⟨by
      have h1:(toD r).e=max (-1000000) (min 1000000 y):=by rw [hz,hy, ← hyy];rfl
      rw [← h1];exact htr⟩
     clear htr hy hyy hz hds hexp hbeh
     go_wp2_with (first|(go_at_call 63;refine (xm _ _ _ r _ HAT.out HI.out).mono ?_;rw [HW.out];rintro e w1 ⟨rfl,rfl⟩)|(go_at_call 64;refine (iH.calls _ _ _ _ _ _ _ _ _ HTR.out).mono ?_;rintro e w3 ⟨rfl,hb3⟩;obtain ⟨k0,k1,k2,k3,k4,k5,k6,k7⟩:=jq (fP (by exact HR1.out) hb3);have HF3:=am hb3;clear hb3))
     refine bodyPost_ret (bJ rfl _ _ w.heap.size 23 #[.bool (nrm (toD r)).nar, .bool (nrm (toD r)).neg, .string (mkB (nrm (toD r)).ds), .int .i64 (nrm (toD r)).e] (0,0) _ rfl (vJ (fP (by exact HR1.out) HF3.out) _ _ _ _) Tryz.underlying23 rfl (by kernel_rfl)) rfl ?_
     unfold wF
     rw [HSC.out]
     exact ⟨rfl,wM (HB1.out.trans (HF3.out.mono (by have:=HB1.out.size;exact this))) (Nat.le_refl _) _ _ _ _⟩
def vU.f (s:ByteArray):Option (Bool × Bool × ByteArray × Int × Option Int) :=
 match Qc s.data.toList with
 | .long=>some (false,false,(⟨#[]⟩:ByteArray),0,some 13)
 | .bad _=>none
 | .ok d=>some (d.nar,d.neg,mkB d.ds,d.e,none)
theorem Jc {l:List UInt8} (h:¬ hd (· == 110) l=true):Lib.hasPrefix l [110]=false:=by
 cases l with
 | nil=>rfl
 | cons c l =>
  have hc:¬ c=110:=by simpa [hd] using h
  unfold Lib.hasPrefix
  rw [Bool.eq_false_iff]
  intro h2
  have:=List.isPrefixOf_iff_prefix.1 h2
  obtain ⟨t,ht⟩:=this
  simp at ht
  exact hc ht.1.symm
def CZ (l:List UInt8) (w:World) (e:Ending) (w':World):Prop :=
 match Qc l with
 | .long=>e = .returned (.tuple #[.agg qA, .iface 64 (.int .i64 13)])∧Below w.heap.size w w'
 | .bad p=>NL p w e w'
 | .ok d=>e = .returned (.tuple #[.agg #[.bool d.nar, .bool d.neg, .string (mkB d.ds), .int .i64 d.e], .nilIface])∧Below w.heap.size w w'
theorem XB (s:ByteArray) (w:World):Calls Tryz.prog 25 #[.string s] w fun e w'=>CZ s.data.toList w e w':=by
 have hl:s.data.toList.length=s.size:=Array.length_toList
 by_cases h4:4096<s.size
 ·refine (TU s w h4).mono ?_
  intro e w' h
  unfold CZ Qc
  rw [if_pos (by omega)]
  exact h
 ·by_cases hn:hd (· == 110) s.data.toList=true
  ·refine (Tv s w (by omega) hn).mono ?_
   intro e w' h
   unfold CZ Qc
   unfold EX at h
   rw [if_neg (by omega),if_pos hn]
   by_cases hw:wordAt s.data.toList<3∨3<s.data.toList.length
   ·rw [if_pos hw] at h ⊢;exact h
   ·rw [if_neg hw] at h ⊢;exact h
  ·refine (scan_num s w (by omega) (Jc hn)).mono ?_
   intro e w' h
   unfold CZ Qc
   unfold wF at h
   rw [if_neg (by omega),if_neg hn]
   cases hs:scan s.data.toList with
   | inl p=>rw [hs] at h;exact h
   | inr r=>rw [hs] at h;exact h
theorem vU.calls (a0:ByteArray) (r1:Bool) (r2:Bool) (r3:ByteArray) (r4:Int) (r5:Option Int) (w:World) (h:vU.f a0=some (r1,r2,r3,r4,r5)) :
  Calls Tryz.prog 25 #[.string a0] w fun e w'=>e = .returned (.tuple #[.agg #[.bool r1, .bool r2, .string r3, .int .i64 r4],qm r5])∧Below w.heap.size w w':=by
 refine (XB a0 w).mono ?_
 intro e w' hs
 unfold CZ at hs
 unfold vU.f at h
 cases hc:Qc a0.data.toList with
 | long =>
  rw [hc] at h hs
  simp only [Option.some.injEq,Prod.mk.injEq] at h
  obtain ⟨rfl,rfl,rfl,rfl,rfl⟩:=h
  exact hs
 | bad p=>rw [hc] at h;simp at h
 | ok d =>
  rw [hc] at h hs
  simp only [Option.some.injEq,Prod.mk.injEq] at h
  obtain ⟨rfl,rfl,rfl,rfl,rfl⟩:=h
  exact hs
end Go.Proofs.Yy.PTx
end
section
namespace Go.Proofs.Yy.PTx
open Go.RowKit Go.Proofs.Yw.PrintWords Go.Proofs.Yw.PrintLast Go.Proofs.Yw.PrintMore Go.Proofs.Yy.SC
theorem Uc (d:D) (w:World) (hl0:Fx.Laid w) (h:formed d=true) :
  Calls Tryz.prog 30 #[.agg #[.bool d.nar, .bool d.neg, .string (mkB d.ds), .int .i64 d.e]] w fun e w'=>uP (nrm d) w e w':=by
 have hNm:=GN h
 obtain ⟨hl1,he1,he2⟩:(nrm d).ds.length≤4096 ∧ -1000000≤(nrm d).e∧(nrm d).e≤1000000:=oO (sG hNm)
 have h0:=Io d h
 by_cases hnar:(nrm d).nar=true
 ·exact Yb d w h hnar
 ·have hn:(nrm d).nar=false:=Bool.eq_false_iff.2 hnar
  have hne:0<(nrm d).ds.length:=by
   rcases hNm with h1|⟨_,_,h1,_⟩
   ·rw [h1] at hnar;exact absurd rfl hnar
   ·exact List.length_pos_iff.2 h1
  obtain ⟨a,ha⟩:∃ a:Int,a=((nrm d).ds.length:Int)+(nrm d).e:=⟨_,rfl⟩
  by_cases hneg:(nrm d).neg=true
  ·by_cases c1:0≤(nrm d).e
   ·by_cases c2:a≤21
    ·exact Ou d (nrm d) w hl0 h0 hn hl1 he1 he2 a ha c1 c2
    ·by_cases c9:1<(nrm d).ds.length
     ·exact qN d (nrm d) w hl0 h0 hn hl1 he1 he2 a ha (.inl ⟨c1,by omega⟩) c9
     ·exact qM d (nrm d) w hl0 h0 hn hl1 he1 he2 a ha (.inl ⟨c1,by omega⟩) (by omega)
   ·by_cases c2:1≤a
    ·by_cases c3:a≤21
     ·exact Oc d (nrm d) w hl0 h0 hn hl1 he1 he2 a ha (by omega) c2 c3
     ·by_cases c9:1<(nrm d).ds.length
      ·exact qN d (nrm d) w hl0 h0 hn hl1 he1 he2 a ha (.inr (.inl ⟨by omega,by omega⟩)) c9
      ·exact qM d (nrm d) w hl0 h0 hn hl1 he1 he2 a ha (.inr (.inl ⟨by omega,by omega⟩)) (by omega)
    ·by_cases c3 : -5≤a
     ·exact FC d (nrm d) w hl0 h0 hn hl1 he1 he2 a ha (by omega) c3 (by omega)
     ·by_cases c9:1<(nrm d).ds.length
      ·exact qN d (nrm d) w hl0 h0 hn hl1 he1 he2 a ha (.inr (.inr ⟨by omega,by omega⟩)) c9
      ·exact qM d (nrm d) w hl0 h0 hn hl1 he1 he2 a ha (.inr (.inr ⟨by omega,by omega⟩)) (by omega)
  ·replace hneg:(nrm d).neg=false:=Bool.eq_false_iff.2 hneg
   by_cases c1:0≤(nrm d).e
   ·by_cases c2:a≤21
    ·exact Ou d (nrm d) w hl0 h0 hn hl1 he1 he2 a ha c1 c2
    ·by_cases c9:1<(nrm d).ds.length
     ·exact qN d (nrm d) w hl0 h0 hn hl1 he1 he2 a ha (.inl ⟨c1,by omega⟩) c9
     ·exact qM d (nrm d) w hl0 h0 hn hl1 he1 he2 a ha (.inl ⟨c1,by omega⟩) (by omega)
   ·by_cases c2:1≤a
    ·by_cases c3:a≤21
     ·exact Oc d (nrm d) w hl0 h0 hn hl1 he1 he2 a ha (by omega) c2 c3
     ·by_cases c9:1<(nrm d).ds.length
      ·exact qN d (nrm d) w hl0 h0 hn hl1 he1 he2 a ha (.inr (.inl ⟨by omega,by omega⟩)) c9
      ·exact qM d (nrm d) w hl0 h0 hn hl1 he1 he2 a ha (.inr (.inl ⟨by omega,by omega⟩)) (by omega)
    ·by_cases c3 : -5≤a
     ·exact FC d (nrm d) w hl0 h0 hn hl1 he1 he2 a ha (by omega) c3 (by omega)
     ·by_cases c9:1<(nrm d).ds.length
      ·exact qN d (nrm d) w hl0 h0 hn hl1 he1 he2 a ha (.inr (.inr ⟨by omega,by omega⟩)) c9
      ·exact qM d (nrm d) w hl0 h0 hn hl1 he1 he2 a ha (.inr (.inr ⟨by omega,by omega⟩)) (by omega)
def lN.f (dW dK:Bool) (gI:ByteArray) (gW:Int):Option (ByteArray × Option Int) :=
 if formed ⟨dW,dK,gI.data.toList,gW⟩=true then some (mkB (qp (nrm ⟨dW,dK,gI.data.toList,gW⟩)),none) else some ((⟨#[]⟩:ByteArray),some 23)
theorem lN.calls (dW:Bool) (dK:Bool) (gI:ByteArray) (gW:Int) (r1:ByteArray) (r2:Option Int) (w:World) (h:lN.f dW dK gI gW=some (r1,r2)) (htab:Fx.Laid w:=by exact Fx.Laid.below HTAB.out (by repeat (first|(with_reducible first|exact HB.out|apply bz|apply aI|apply aZ|refine bu ?_ (ae.out (by assumption)))|exact HB.out))) :
  Calls Tryz.prog 30 #[.agg #[.bool dW, .bool dK, .string gI, .int .i64 gW]] w fun e w'=>e = .returned (.tuple #[.string r1,qm r2])∧Below w.heap.size w w':=by
 unfold lN.f at h
 by_cases hf:formed ⟨dW,dK,gI.data.toList,gW⟩=true
 ·rw [if_pos hf] at h
  simp only [Option.some.injEq,Prod.mk.injEq] at h
  obtain ⟨rfl,rfl⟩:=h
  exact Uc ⟨dW,dK,gI.data.toList,gW⟩ w htab hf
 ·rw [if_neg hf] at h
  simp only [Option.some.injEq,Prod.mk.injEq] at h
  obtain ⟨rfl,rfl⟩:=h
  exact Sz ⟨dW,dK,gI.data.toList,gW⟩ w (Bool.eq_false_iff.2 hf)
end Go.Proofs.Yy.PTx
end
section
namespace Go.Proofs.Yy.PTx
open Go.RowKit Go.Proofs.Yw.PrintWords Go.Proofs.Yw.PrintLast Go.Proofs.Yw.PrintMore Go.Shelf Go.Lib
def bits_TrailingZeros64.f (x:Int):Option Int:=if 0≤x∧x<18446744073709551616 then some ((Lib.ctz 64 x.toNat:Nat):Int) else none
set_option maxHeartbeats 1000000 in
theorem tz64_core (x k idx:Nat) (w:World) (hx0:((x:Int) == 0)=false)
  (key:IntKind.u64.wrap (Go.bits BinOp.and IntKind.u64 (x:Int) (IntKind.u64.wrap (-(x:Int))) * 285870213051353865) / 288230376151711744=(idx:Int))
  (hi:idx<64) (hk:k<64) (hcell:w.cell? ⟨0,idx,none⟩=some (.int .u8 k)) :
  Calls Tryz.prog 47 #[.int .u64 x] w fun e w'=>e = .returned (.int .i64 k)∧w'=w:=by
 go_enter Tryz.func47,Tryz.ntmps47
 go_wp2_with (simp only [key])
 go_ret
 exact ⟨rfl,rfl⟩
theorem tz64_zero (w:World):Calls Tryz.prog 47 #[.int .u64 0] w fun e w'=>e = .returned (.int .i64 64)∧w'=w:=by
 go_enter Tryz.func47,Tryz.ntmps47
 go_wp2
 go_ret
 exact ⟨rfl,rfl⟩
theorem tz64_key (x a:Nat) (hx:x<18446744073709551616) (hx0:x≠0) (hlow:x &&& (18446744073709551616 - x)=a) :
  IntKind.u64.wrap (Go.bits BinOp.and IntKind.u64 (x:Int) (IntKind.u64.wrap (-(x:Int))) * 285870213051353865) / 288230376151711744=((a * 285870213051353865 % 18446744073709551616 / 288230376151711744:Nat):Int):=by
 have e1:IntKind.u64.wrap (-(x:Int))=((18446744073709551616 - x:Nat):Int):=by rw [IntKind.wrap_u64];omega
 rw [e1,bits_and_u64_nat x _ hx (by omega),hlow,IntKind.wrap_u64]
 omega
theorem akJ {w:World} (h:Fx.Tz w) (j:Nat) (hj:j<64):w.cell? ⟨0,j,none⟩=some (.int .u8 (Lib.deBruijn64tab.getD j 0)):=by
 have hl:Fx.Xn.length=64:=by decide
 have h2:=Lib.TabIs.cell h (g:=0) (by kernel_rfl) j (by rw [hl];exact hj)
 rw [h2]
 congr 2
 have e:Lib.deBruijn64tab.length=64:=by decide
 unfold Fx.Xn
 rw [List.getD_eq_getElem?_getD,List.getD_eq_getElem?_getD,List.getElem?_map,List.getElem?_eq_getElem (by rw [e];exact hj)]
 rfl
theorem bits_TrailingZeros64.calls (a0:Int) (r:Int) (w:World) (h:bits_TrailingZeros64.f a0=some r) (htab:Fx.Laid w:=by exact Fx.Laid.below HTAB.out (by repeat (first|(with_reducible first|exact HB.out|apply bz|apply aI|apply aZ|refine bu ?_ (ae.out (by assumption)))|exact HB.out))) :
  Calls Tryz.prog 47 #[.int .u64 a0] w fun e w'=>e = .returned (.int .i64 r)∧Below w.heap.size w w':=by
 unfold bits_TrailingZeros64.f at h
 by_cases hg:0≤a0∧a0<18446744073709551616
 case neg=>rw [if_neg hg] at h;exact absurd h (by simp)
 rw [if_pos hg] at h
 obtain rfl:=Option.some.inj h
 obtain ⟨x,rfl⟩:=Int.eq_ofNat_of_zero_le hg.1
 have hx:x<18446744073709551616:=by omega
 rw [Int.toNat_natCast]
 by_cases hx0:x=0
 ·subst hx0
  exact (tz64_zero w).mono fun _ _ ⟨he,hw⟩=>⟨he,by rw [hw];exact Below.refl _ _⟩
 ·obtain ⟨hlow,hk⟩:=Lib.lowest_bit 64 x hx0 hx
  obtain ⟨hi,ht⟩:=Lib.deBruijn64_at _ hk
  have hcell:=akJ htab.2 _ hi
  rw [ht] at hcell
  exact (tz64_core x _ _ w (by simp;omega) (tz64_key x _ hx hx0 hlow) hi hk hcell).mono fun _ _ ⟨he,hw⟩=>⟨he,by rw [hw];exact Below.refl _ _⟩
end Go.Proofs.Yy.PTx
end
