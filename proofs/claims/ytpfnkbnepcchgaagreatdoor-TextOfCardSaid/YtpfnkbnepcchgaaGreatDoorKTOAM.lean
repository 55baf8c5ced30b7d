/- Part 13. -/
import Derived.Test.YtpfnkbnepcchgaaGreatDoorKTOAL
set_option linter.unusedSimpArgs false
set_option linter.unusedVariables false
section
namespace Go.Proofs.Yy.PTx
open Go.RowKit Go.Proofs.Yw.PrintWords Go.Proofs.Yw.PrintLast Go.Proofs.Yw.PrintMore Go.Proofs.Yy.SC Go.Proofs.Yy.SR
theorem Yp (l:List UInt8):strOfNums (l.map fun c=>(c.toNat:Int))=mkB l:=by
 unfold strOfNums mkB;rw[List.map_map]
 congr 2
 conv=>rhs;rw[← List.map_id l]
 refine List.map_congr_left fun c _=>?_;simp
theorem OB {B:Nat}{v:Value}{ds:List UInt8}{W:World}(h:W.ownsRow B 5 1 v ds.length (uy ds))(h0:ds≠[]) :
  (∃ gr cap,v=.slice (some ⟨gr,0,none⟩) ds.length cap)∧(convert 104 9 v).run Tryz.prog W=.ok (.string (mkB ds)) W:=by
 have hp:=List.length_pos_iff.2 h0;rcases h.2 with⟨_,hz⟩|⟨g,cap,cur,rfl,hB,hg,hn,hc,hs,ht⟩
 ·omega
 ·refine⟨⟨g,cap,rfl⟩,?_⟩
  rw[← Yp];refine run_convert_bytes_arg W 104 5 Tryz.underlying104 Tryz.underlying5 g 0 ds.length cap _ (by simp) (fun i hi=>?_) 9 Tryz.underlying9
  have e:cur.toList[i]? = some (.int .u8 ((ds[i]'hi).toNat:Int)):=by
   have:(cur.toList.take (ds.length*1))[i]? = (uy ds)[i]?:=by rw[ht]
   rw[List.getElem?_take_of_lt (by omega)]at this;rw[this];simp[uy,hi]
  rw[Nat.zero_add];simp[World.cell?, hg];simp at e;rw[e];simp[hi]
theorem aa9 {s:ByteArray}{v:Int}(h0:0≤v)(h1:v<(s.size:Int)):∃ h:v.toNat<s.data.toList.length,bt s v=((s.data.toList[v.toNat]'h).toNat:Int):=by
 have hl:s.data.toList.length=s.size:=Array.length_toList
 have h:v.toNat<s.data.toList.length:=by omega
 refine⟨h,?_⟩;have:=EG h;rw[Gq,Int.toNat_of_nonneg h0]at this;exact this
theorem Ti {g B:Nat}{w w':World}(h:JE g w)(hb:Below B w w')(hg:g<B):JE g w':=by
 unfold JE at *;rw[hb.block g hg];exact h
theorem aaS {B b:Nat}{r:R}{w:World}(h:At B b r w):b<w.heap.size:=by
 obtain⟨v,h⟩:=h;exact (Array.getElem?_eq_some_iff.1 h.2.1).1
theorem P5 {B b k:Nat}{r:R}{c:UInt8}{x:Int}{w:World}(hx:x=(c.toNat:Int))(h:At B b r w)(hi:Inv k r)(ht:tk r c=none) :
  Calls Tryz.prog 62 #[.pointer (some ⟨b,0,none⟩),.int .u8 x] w fun e w'=>e=.returned (.bool false)∧Below B w w':=by
 subst hx;exact TC B b k r c w h hi ht
theorem O8 {B b k:Nat}{r r':R}{c:UInt8}{x:Int}{w:World}(hx:x=(c.toNat:Int))(h:At B b r w)(hi:Inv k r)(hk:k<1000000)(hB:B≤w.heap.size)(ht:tk r c=some r') :
  Calls Tryz.prog 62 #[.pointer (some ⟨b,0,none⟩),.int .u8 x] w fun e w'=>e=.returned (.bool true)∧At B b r' w'∧Below B w w':=by
 subst hx;exact UA B b k r r' c w h hi hk hB ht
theorem SQ {g b:Nat}{st:Int}{neg:Bool}{v:Value}{ds:List UInt8}{beh:Int}{eneg:Bool}{exp:Int}{w0 W:World}(h:Held b b st neg v ds beh eneg exp W)(hR:JE g W)(hB:Below g w0 W)(hg:g<b)(x:Value) :
  JE g (W.setCell ⟨b,5,none⟩ x)∧Below g w0 (W.setCell ⟨b,5,none⟩ x):=by
 refine⟨?_,hB.setCell (p:=⟨b,5,none⟩) (Nat.le_of_lt hg) x⟩;unfold JE at *;rw[heap_setCell_other W ⟨b,5,none⟩ g x (Nat.ne_of_lt hg)];exact hR
def akS (r:R):Int:=(if r.eneg=true then -(r.exp:Int) else (r.exp:Int))-(r.beh:Int)
theorem NF (y:Int):max (-1000000) (min 1000000 y)=held y:=by
 unfold held mP;split <;> (try split) <;> omega
def xm (l:List UInt8)(w:World)(e:Ending)(w':World):Prop :=
 match scan l with
 | .inl p=>Oi p w e w'
 | .inr r=>e=.returned (.tuple #[.agg #[.bool (nrm (toD r)).nar,.bool (nrm (toD r)).neg,.string (mkB (nrm (toD r)).ds),.int .i64 (nrm (toD r)).e],.nilIface])∧Below w.heap.size w w'
set_option maxHeartbeats 1600000 in
set_option maxRecDepth 100000 in
theorem scan_num (s:ByteArray)(w:World)(h:s.size≤4096)(hn:Lib.hasPrefix s.data.toList [110]=false) :
  Calls Tryz.prog 25 #[.string s] w fun e w'=>xm s.data.toList w e w':=by
 have hb1:decide (4096<(s.size:Int))=false:=decide_eq_false (by omega);have hb2:decide (4096<s.size)=false:=decide_eq_false (by omega);have hlen:s.data.toList.length=s.size:=Array.length_toList;have HL:=am hlen;have HP:=am hn;have HS:=am h;clear hn h hlen
 have HA0:ae (At (w.heap.size+1) (w.heap.size+1) r0 ((w.alloc (.cells qR 23)).alloc (.cells #[.int .i64 0,.bool false,.slice none 0 0,.int .i64 0,.bool false,.int .i64 0] 106))):=⟨⟨.slice none 0 0,Nat.le_refl _,by
  have h2:=heap_alloc_new (w.alloc (.cells qR 23)) (.cells #[.int .i64 0,.bool false,.slice none 0 0,.int .i64 0,.bool false,.int .i64 0] 106)
  have e:(w.alloc (.cells qR 23)).heap.size=w.heap.size+1:=by simp
  rw[e]at h2
  exact h2,World.ownsRow_nil _ _ _ _⟩⟩
 have HR0:ae (JE w.heap.size ((w.alloc (.cells qR 23)).alloc (.cells #[.int .i64 0,.bool false,.slice none 0 0,.int .i64 0,.bool false,.int .i64 0] 106))):=⟨gG (NE w) ((Below.refl _ _).alloc (Nat.le_refl _) _)⟩
 go_enter Tryz.func25,Tryz.ntmps25
 go_wp2_with (go_at_call 60;refine (kC s _ HP.out _).mono ?_;rintro e w1 ⟨rfl,rfl⟩)
 go_loopw [43] (fun i w' => ∃ (v:Int) (r:R),0≤v∧v≤(s.size:Int)∧i=.int .i64 v∧ae (run r0 0 s.data.toList=run r v.toNat (s.data.toList.drop v.toNat))∧ae (Inv v.toNat r)∧ae (At (w.heap.size+1) (w.heap.size+1) r w')∧ae (JE w.heap.size w')∧ae (Below w.heap.size w w')) (fun i _=>(4100-intOf i).toNat)
 case atStart =>
  exact⟨0,r0,by omega,by omega,rfl,⟨by simp⟩,⟨inv0⟩,HA0,HR0,⟨((Below.refl _ w).alloc (Nat.le_refl _) _).alloc (by simp) _⟩⟩
 case round =>
  obtain⟨v,r,hv0,hv1,rfl,HRUN,HI,HAT,HR,HBJ⟩:=hrel;clear HR0 HA0;have HB:=am (aaS HAT.out)
  by_cases hlt:v<(s.size:Int)
  ·have d1:decide (v<(s.size:Int))=true:=decide_eq_true hlt
   have p6:=eq_true hv0;have q6:=eq_true hlt;have hx6:=ru s v;obtain⟨hi,hbt⟩:=aa9 hv0 hlt;have hdrop:=List.drop_eq_getElem_cons hi
   obtain⟨c,hc⟩:∃ c,c=s.data.toList[v.toNat]'hi:=⟨_,rfl⟩
   rw[← hc]at hbt hdrop;have HD:=am hdrop;have HBT:=am hbt;have HS2:=am hlt;clear hlt hbt hdrop hc
   cases ht:tk r c with
   | none =>
    have HT:=am ht;have HV:=am hv0;clear ht hv0 hv1
    go_wp2_with (first|(go_at_call 62;refine (P5 HBT.out HAT.out HI.out HT.out).mono ?_;rintro e w1 ⟨rfl,hb⟩;have HR1:=am (Ti HR.out hb (Nat.lt_succ_self _));have HB1:=am (HBJ.out.trans (hb.mono (Nat.le_succ _)));clear hb)|(go_at_call 61;refine (kK _ _).mono ?_;rintro e w2 ⟨gf,rfl,hgf,hFf,hbf⟩;obtain⟨k0,k1,k2,k3,k4,k5,k6,k7⟩:=jH (gG (by exact HR1.out) hbf);have HF1:=am hgf;have HF2:=am hFf;have HF3:=am hbf;clear hgf hFf hbf))
    refine bodyPost_ret (dh rfl _ _ w.heap.size 23 qR (0,0) _ rfl (wu (gG (by exact HR1.out) HF3.out) (.bool false) (.bool false) (.string (⟨#[]⟩:ByteArray)) (.int .i64 0)) Tryz.underlying23 rfl (by kernel_rfl)) rfl ?_
    have hscan:scan s.data.toList=.inl v.toNat:=by
     unfold scan;rw[HRUN.out,HD.out,run,HT.out]
    unfold xm;rw[hscan];refine wB HB1.out HR1.out HF1.out ?_ HF3.out;rw[Int.toNat_of_nonneg HV.out];exact HF2.out
   | some r' =>
    have HT:=am ht;clear ht
    go_wp2_with (go_at_call 62;refine (O8 HBT.out HAT.out HI.out (by have:=HS.out;have:=HS2.out;omega) (Nat.le_of_lt HB.out) HT.out).mono ?_;rintro e w1 ⟨rfl,ha,hb⟩;have HA1:=am ha;have HR1:=am (Ti HR.out hb (Nat.lt_succ_self _));have HB1:=am (HBJ.out.trans (hb.mono (Nat.le_succ _)));clear ha hb)
    go_roundw
    case rel =>
     have e1:(v+1).toNat=v.toNat+1:=by omega
     refine⟨v+1,r',by omega,by have:=HS2.out;omega,by first|rfl|rw[kN (by omega) (by have:=HS.out;omega)],⟨?_⟩,⟨?_⟩,HA1,HR1,HB1⟩
     ·rw[HRUN.out,HD.out,run,HT.out,e1]
     ·rw[e1];exact HI.out.tk HT.out
    case measure=>have hq:=HS.out;have e9:=kN (n:=v+1) (by omega) (by omega);simp only[intOf];first|(rw[e9];omega)|omega
  ·have d1:decide (v<(s.size:Int))=false:=decide_eq_false hlt
   have HE:ae (run r0 0 s.data.toList=.inr r):=⟨by
    rw[HRUN.out,List.drop_eq_nil_iff.2 (by rw[HL.out];omega)];rfl⟩
   have HZ:ae (v.toNat=s.size):=⟨by omega⟩
   clear hlt hv0 hv1
   cases hw:whole r with
   | false =>
    have HW:=am hw;clear hw;have HR1:=HR
    go_wp2_with (first|(go_at_call 63;refine (xQ _ _ _ r _ HAT.out HI.out).mono ?_;rw[HW.out];rintro e w1 ⟨rfl,rfl⟩)|(go_at_call 61;refine (kK _ _).mono ?_;rintro e w2 ⟨gf,rfl,hgf,hFf,hbf⟩;obtain⟨k0,k1,k2,k3,k4,k5,k6,k7⟩:=jH (gG (by exact HR1.out) hbf);have HF1:=am hgf;have HF2:=am hFf;have HF3:=am hbf;clear hgf hFf hbf))
    refine bodyPost_ret (dh rfl _ _ w.heap.size 23 qR (0,0) _ rfl (wu (gG (by exact HR1.out) HF3.out) (.bool false) (.bool false) (.string (⟨#[]⟩:ByteArray)) (.int .i64 0)) Tryz.underlying23 rfl (by kernel_rfl)) rfl ?_
    have hscan:scan s.data.toList=.inl s.size:=by
     unfold scan;rw[HE.out];simp only[HW.out,Bool.false_eq_true,if_false,HL.out]
    unfold xm;rw[hscan];exact wB HBJ.out HR1.out HF1.out HF2.out HF3.out
   | true =>
    have HW:=am hw;clear hw
    have hscan:scan s.data.toList=.inr r:=by
     unfold scan;rw[HE.out];simp only[HW.out,if_true]
    have HSC:=am hscan;have hfm:=LX hscan (by rw[HL.out];exact HS.out)
    have hds:r.ds≠[]:=by
     have:=hfm;unfold formed toD at this;simp only[Bool.false_eq_true,if_false,Bool.and_eq_true,Bool.not_eq_true',List.isEmpty_eq_false_iff]at this;exact this.1
    have hbd:=qZ hfm;have hexp:=HI.out.exp
    have hbeh:r.beh≤4096:=by
     have h1:=HI.out.beh;have h2:=HI.out.len;have h3:=HS.out;have h4:=HZ.out
     omega
    have htr:=Bc (toD r) (by omega) hbd.2.1 hbd.2.2;obtain⟨va,hHeld⟩:=HAT.out;obtain⟨⟨gr,cap,rfl⟩,hcv⟩:=OB hHeld.2.2 hds;obtain⟨c0,c1,c2,c3,c4,c5,f0,f1,f2,f3,f4,f5,hblt⟩:=lN hHeld.2.1;have HHELD:=am hHeld;clear hscan hfm hbd hHeld
    by_cases hE:r.eneg=true
    ·rw[hE]at c4
     have hneg:wrap64 (-(r.exp:Int)) = -(r.exp:Int):=kN (by unfold far at hexp;omega) (by unfold far at hexp;omega);have hnegw:IntKind.i64.wrap (-(r.exp:Int)) = -(r.exp:Int):=(bW _).trans hneg;have hcv2:=(OB (HHELD.out.xK (-(r.exp:Int))).2.2 hds).2;obtain⟨qr1,qb1⟩:=SQ HHELD.out HR.out HBJ.out (Nat.lt_succ_self _) (.int .i64 (-(r.exp:Int)));have HR1:=am qr1;have HB1:=am qb1;clear qr1 qb1
     have hyy:akS r = -(r.exp:Int)-(r.beh:Int):=by unfold akS;rw[hE];rfl
     obtain⟨y,hy⟩:∃ y:Int,y = -(r.exp:Int)-(r.beh:Int):=⟨_,rfl⟩
     have hsub:wrap64 (-(r.exp:Int)-(r.beh:Int))=y:=by rw[hy];exact kN (by unfold far at hexp;omega) (by unfold far at hexp;omega)
     have hsubw:IntKind.i64.wrap (-(r.exp:Int)-(r.beh:Int))=y:=(bW _).trans hsub;have hz:max (-1000000) (min 1000000 y)=held y:=NF y
     have HTR:ae (iM.f false r.neg (mkB r.ds) (max (-1000000) (min 1000000 y))=some ((nrm (toD r)).nar,(nrm (toD r)).neg,mkB (nrm (toD r)).ds,(nrm (toD r)).e)):=⟨by
      have h1:(toD r).e=max (-1000000) (min 1000000 y):=by rw[hz,hy, ← hyy];rfl
      rw[← h1];exact htr⟩
     clear htr hy hyy hz hds hexp hbeh
     go_wp2_with (first|(go_at_call 63;refine (xQ _ _ _ r _ HAT.out HI.out).mono ?_;rw[HW.out];rintro e w1 ⟨rfl,rfl⟩)|(go_at_call 64;refine (iM.calls _ _ _ _ _ _ _ _ _ HTR.out).mono ?_;rintro e w3 ⟨rfl,hb3⟩;obtain⟨k0,k1,k2,k3,k4,k5,k6,k7⟩:=jH (gG (by exact HR1.out) hb3);have HF3:=am hb3;clear hb3))
     refine bodyPost_ret (dh rfl _ _ w.heap.size 23 #[.bool (nrm (toD r)).nar,.bool (nrm (toD r)).neg,.string (mkB (nrm (toD r)).ds),.int .i64 (nrm (toD r)).e] (0,0) _ rfl (wu (gG (by exact HR1.out) HF3.out) _ _ _ _) Tryz.underlying23 rfl (by kernel_rfl)) rfl ?_;unfold xm;rw[HSC.out];exact⟨rfl,xe (HB1.out.trans (HF3.out.mono (by have:=HB1.out.size;exact this))) (Nat.le_refl _) _ _ _ _⟩
    ·replace hE:=Bool.eq_false_iff.2 hE
     rw[hE]at c4;have HR1:=HR;have HB1:=HBJ
     have hyy:akS r=(r.exp:Int)-(r.beh:Int):=by unfold akS;rw[hE];rfl
     obtain⟨y,hy⟩:∃ y:Int,y=(r.exp:Int)-(r.beh:Int):=⟨_,rfl⟩
     have hsub:wrap64 ((r.exp:Int)-(r.beh:Int))=y:=by rw[hy];exact kN (by unfold far at hexp;omega) (by unfold far at hexp;omega)
     have hsubw:IntKind.i64.wrap ((r.exp:Int)-(r.beh:Int))=y:=(bW _).trans hsub;have hz:max (-1000000) (min 1000000 y)=held y:=NF y
     have HTR:ae (iM.f false r.neg (mkB r.ds) (max (-1000000) (min 1000000 y))=some ((nrm (toD r)).nar,(nrm (toD r)).neg,mkB (nrm (toD r)).ds,(nrm (toD r)).e)):=⟨by
      have h1:(toD r).e=max (-1000000) (min 1000000 y):=by rw[hz,hy, ← hyy];rfl
      rw[← h1];exact htr⟩
     clear htr hy hyy hz hds hexp hbeh
     go_wp2_with (first|(go_at_call 63;refine (xQ _ _ _ r _ HAT.out HI.out).mono ?_;rw[HW.out];rintro e w1 ⟨rfl,rfl⟩)|(go_at_call 64;refine (iM.calls _ _ _ _ _ _ _ _ _ HTR.out).mono ?_;rintro e w3 ⟨rfl,hb3⟩;obtain⟨k0,k1,k2,k3,k4,k5,k6,k7⟩:=jH (gG (by exact HR1.out) hb3);have HF3:=am hb3;clear hb3))
     refine bodyPost_ret (dh rfl _ _ w.heap.size 23 #[.bool (nrm (toD r)).nar,.bool (nrm (toD r)).neg,.string (mkB (nrm (toD r)).ds),.int .i64 (nrm (toD r)).e] (0,0) _ rfl (wu (gG (by exact HR1.out) HF3.out) _ _ _ _) Tryz.underlying23 rfl (by kernel_rfl)) rfl ?_;unfold xm;rw[HSC.out];exact⟨rfl,xe (HB1.out.trans (HF3.out.mono (by have:=HB1.out.size;exact this))) (Nat.le_refl _) _ _ _ _⟩
def vO.f (s:ByteArray):Option (Bool × Bool × ByteArray × Int × Option Int) :=
 match PO s.data.toList with
 | .long=>some (false,false,(⟨#[]⟩:ByteArray),0,some 13)
 | .bad _=>none
 | .ok d=>some (d.nar,d.neg,mkB d.ds,d.e,none)
theorem Ju {l:List UInt8}(h:¬ hd (· == 110) l=true):Lib.hasPrefix l [110]=false:=by
 cases l with
 | nil=>rfl
 | cons c l =>
  have hc:¬ c=110:=by simpa [hd] using h
  unfold Lib.hasPrefix;rw[Bool.eq_false_iff];intro h2;have:=List.isPrefixOf_iff_prefix.1 h2;obtain⟨t,ht⟩:=this;simp at ht;exact hc ht.1.symm
def Ce (l:List UInt8)(w:World)(e:Ending)(w':World):Prop :=
 match PO l with
 | .long=>e=.returned (.tuple #[.agg qR,.iface 64 (.int .i64 13)])∧Below w.heap.size w w'
 | .bad p=>Oi p w e w'
 | .ok d=>e=.returned (.tuple #[.agg #[.bool d.nar,.bool d.neg,.string (mkB d.ds),.int .i64 d.e],.nilIface])∧Below w.heap.size w w'
theorem Yq (s:ByteArray)(w:World):Calls Tryz.prog 25 #[.string s] w fun e w'=>Ce s.data.toList w e w':=by
 have hl:s.data.toList.length=s.size:=Array.length_toList
 by_cases h4:4096<s.size
 ·refine (UC s w h4).mono ?_
  intro e w' h;unfold Ce PO;rw[if_pos (by omega)];exact h
 ·by_cases hn:hd (· == 110) s.data.toList=true
  ·refine (TY s w (by omega) hn).mono ?_
   intro e w' h;unfold Ce PO;unfold FZ at h;rw[if_neg (by omega),if_pos hn]
   by_cases hw:wordAt s.data.toList<3∨3<s.data.toList.length
   ·rw[if_pos hw]at h ⊢;exact h
   ·rw[if_neg hw]at h ⊢;exact h
  ·refine (scan_num s w (by omega) (Ju hn)).mono ?_
   intro e w' h;unfold Ce PO;unfold xm at h;rw[if_neg (by omega),if_neg hn]
   cases hs:scan s.data.toList with
   | inl p=>rw[hs]at h;exact h
   | inr r=>rw[hs]at h;exact h
theorem vO.calls (a0:ByteArray)(r1:Bool)(r2:Bool)(r3:ByteArray)(r4:Int)(r5:Option Int)(w:World)(h:vO.f a0=some (r1,r2,r3,r4,r5)) :
  Calls Tryz.prog 25 #[.string a0] w fun e w'=>e=.returned (.tuple #[.agg #[.bool r1,.bool r2,.string r3,.int .i64 r4],qL r5])∧Below w.heap.size w w':=by
 refine (Yq a0 w).mono ?_;intro e w' hs;unfold Ce at hs;unfold vO.f at h
 cases hc:PO a0.data.toList with
 | long =>
  rw[hc]at h hs;simp only[Option.some.injEq,Prod.mk.injEq]at h;obtain⟨rfl,rfl,rfl,rfl,rfl⟩:=h;exact hs
 | bad p=>rw[hc]at h;simp at h
 | ok d =>
  rw[hc]at h hs;simp only[Option.some.injEq,Prod.mk.injEq]at h;obtain⟨rfl,rfl,rfl,rfl,rfl⟩:=h;exact hs
end Go.Proofs.Yy.PTx
end
section
namespace Go.Proofs.Yy.PTx
open Go.RowKit Go.Proofs.Yw.PrintWords Go.Proofs.Yw.PrintLast Go.Proofs.Yw.PrintMore Go.Proofs.Yy.SC
theorem Us (d:D)(w:World)(hl0:Fx.Laid w)(h:formed d=true) :
  Calls Tryz.prog 30 #[.agg #[.bool d.nar,.bool d.neg,.string (mkB d.ds),.int .i64 d.e]] w fun e w'=>vC (nrm d) w e w':=by
 have hNm:=GU h;obtain⟨hl1,he1,he2⟩:(nrm d).ds.length≤4096 ∧ -1000000≤(nrm d).e∧(nrm d).e≤1000000:=qZ (EI hNm);have h0:=Jy d h
 by_cases hnar:(nrm d).nar=true
 ·exact XP d w h hnar
 ·have hn:(nrm d).nar=false:=Bool.eq_false_iff.2 hnar
  have hne:0<(nrm d).ds.length:=by
   rcases hNm with h1|⟨_,_,h1,_⟩
   ·rw[h1]at hnar;exact absurd rfl hnar
   ·exact List.length_pos_iff.2 h1
  obtain⟨a,ha⟩:∃ a:Int,a=((nrm d).ds.length:Int)+(nrm d).e:=⟨_,rfl⟩
  by_cases hneg:(nrm d).neg=true
  ·by_cases c1:0≤(nrm d).e
   ·by_cases c2:a≤21
    ·exact Oh d (nrm d) w hl0 h0 hn hl1 he1 he2 a ha c1 c2
    ·by_cases c9:1<(nrm d).ds.length
     ·exact rF d (nrm d) w hl0 h0 hn hl1 he1 he2 a ha (.inl ⟨c1,by omega⟩) c9
     ·exact rE d (nrm d) w hl0 h0 hn hl1 he1 he2 a ha (.inl ⟨c1,by omega⟩) (by omega)
   ·by_cases c2:1≤a
    ·by_cases c3:a≤21
     ·exact NL d (nrm d) w hl0 h0 hn hl1 he1 he2 a ha (by omega) c2 c3
     ·by_cases c9:1<(nrm d).ds.length
      ·exact rF d (nrm d) w hl0 h0 hn hl1 he1 he2 a ha (.inr (.inl ⟨by omega,by omega⟩)) c9
      ·exact rE d (nrm d) w hl0 h0 hn hl1 he1 he2 a ha (.inr (.inl ⟨by omega,by omega⟩)) (by omega)
    ·by_cases c3 : -5≤a
     ·exact Fj d (nrm d) w hl0 h0 hn hl1 he1 he2 a ha (by omega) c3 (by omega)
     ·by_cases c9:1<(nrm d).ds.length
      ·exact rF d (nrm d) w hl0 h0 hn hl1 he1 he2 a ha (.inr (.inr ⟨by omega,by omega⟩)) c9
      ·exact rE d (nrm d) w hl0 h0 hn hl1 he1 he2 a ha (.inr (.inr ⟨by omega,by omega⟩)) (by omega)
  ·replace hneg:(nrm d).neg=false:=Bool.eq_false_iff.2 hneg
   by_cases c1:0≤(nrm d).e
   ·by_cases c2:a≤21
    ·exact Oh d (nrm d) w hl0 h0 hn hl1 he1 he2 a ha c1 c2
    ·by_cases c9:1<(nrm d).ds.length
     ·exact rF d (nrm d) w hl0 h0 hn hl1 he1 he2 a ha (.inl ⟨c1,by omega⟩) c9
     ·exact rE d (nrm d) w hl0 h0 hn hl1 he1 he2 a ha (.inl ⟨c1,by omega⟩) (by omega)
   ·by_cases c2:1≤a
    ·by_cases c3:a≤21
     ·exact NL d (nrm d) w hl0 h0 hn hl1 he1 he2 a ha (by omega) c2 c3
     ·by_cases c9:1<(nrm d).ds.length
      ·exact rF d (nrm d) w hl0 h0 hn hl1 he1 he2 a ha (.inr (.inl ⟨by omega,by omega⟩)) c9
      ·exact rE d (nrm d) w hl0 h0 hn hl1 he1 he2 a ha (.inr (.inl ⟨by omega,by omega⟩)) (by omega)
    ·by_cases c3 : -5≤a
     ·exact Fj d (nrm d) w hl0 h0 hn hl1 he1 he2 a ha (by omega) c3 (by omega)
     ·by_cases c9:1<(nrm d).ds.length
      ·exact rF d (nrm d) w hl0 h0 hn hl1 he1 he2 a ha (.inr (.inr ⟨by omega,by omega⟩)) c9
      ·exact rE d (nrm d) w hl0 h0 hn hl1 he1 he2 a ha (.inr (.inr ⟨by omega,by omega⟩)) (by omega)
def nD.f (fM fF:Bool)(iQ:ByteArray)(jd:Int):Option (ByteArray × Option Int) :=
 if formed ⟨fM,fF,iQ.data.toList,jd⟩=true then some (mkB (Ac (nrm ⟨fM,fF,iQ.data.toList,jd⟩)),none) else some ((⟨#[]⟩:ByteArray),some 23)
theorem nD.calls (fM:Bool)(fF:Bool)(iQ:ByteArray)(jd:Int)(r1:ByteArray)(r2:Option Int)(w:World)(h:nD.f fM fF iQ jd=some (r1,r2))(htab:Fx.Laid w:=by exact Fx.Laid.below HTAB.out (by repeat (first|(with_reducible first|exact HB.out|apply bn|apply aJ|apply aW|refine bF ?_ (ae.out (by assumption)))|exact HB.out))) :
  Calls Tryz.prog 30 #[.agg #[.bool fM,.bool fF,.string iQ,.int .i64 jd]] w fun e w'=>e=.returned (.tuple #[.string r1,qL r2])∧Below w.heap.size w w':=by
 unfold nD.f at h
 by_cases hf:formed ⟨fM,fF,iQ.data.toList,jd⟩=true
 ·rw[if_pos hf]at h
  simp only[Option.some.injEq,Prod.mk.injEq]at h;obtain⟨rfl,rfl⟩:=h;exact Us ⟨fM,fF,iQ.data.toList,jd⟩ w htab hf
 ·rw[if_neg hf]at h
  simp only[Option.some.injEq,Prod.mk.injEq]at h;obtain⟨rfl,rfl⟩:=h;exact Ue ⟨fM,fF,iQ.data.toList,jd⟩ w (Bool.eq_false_iff.2 hf)
end Go.Proofs.Yy.PTx
end
section
namespace Go.Proofs.Yy.PTx
open Go.RowKit Go.Proofs.Yw.PrintWords Go.Proofs.Yw.PrintLast Go.Proofs.Yw.PrintMore Go.Shelf Go.Lib
def bits_TrailingZeros64.f (x:Int):Option Int:=if 0≤x∧x<18446744073709551616 then some ((Lib.ctz 64 x.toNat:Nat):Int) else none
set_option maxHeartbeats 1000000 in
theorem tz64_core (x k idx:Nat)(w:World)(hx0:((x:Int) == 0)=false)
  (key:IntKind.u64.wrap (Go.bits BinOp.and IntKind.u64 (x:Int) (IntKind.u64.wrap (-(x:Int)))*285870213051353865) / 288230376151711744=(idx:Int))
  (hi:idx<64) (hk:k<64) (hcell:w.cell? ⟨0,idx,none⟩=some (.int .u8 k)) :
  Calls Tryz.prog 47 #[.int .u64 x] w fun e w'=>e=.returned (.int .i64 k)∧w'=w:=by
 go_enter Tryz.func47,Tryz.ntmps47
 go_wp2_with (simp only[key])
 go_ret
 exact⟨rfl,rfl⟩
theorem tz64_zero (w:World):Calls Tryz.prog 47 #[.int .u64 0] w fun e w'=>e=.returned (.int .i64 64)∧w'=w:=by
 go_enter Tryz.func47,Tryz.ntmps47
 go_wp2
 go_ret
 exact⟨rfl,rfl⟩
theorem tz64_key (x a:Nat)(hx:x<18446744073709551616)(hx0:x≠0)(hlow:x &&& (18446744073709551616-x)=a) :
  IntKind.u64.wrap (Go.bits BinOp.and IntKind.u64 (x:Int) (IntKind.u64.wrap (-(x:Int)))*285870213051353865) / 288230376151711744=((a*285870213051353865 % 18446744073709551616 / 288230376151711744:Nat):Int):=by
 have e1:IntKind.u64.wrap (-(x:Int))=((18446744073709551616-x:Nat):Int):=by rw[IntKind.wrap_u64];omega
 rw[e1,bits_and_u64_nat x _ hx (by omega),hlow,IntKind.wrap_u64]
 omega
theorem alQ {w:World}(h:Fx.Tz w)(j:Nat)(hj:j<64):w.cell? ⟨0,j,none⟩=some (.int .u8 (Lib.deBruijn64tab.getD j 0)):=by
 have hl:Fx.Yv.length=64:=by decide
 have h2:=Lib.TabIs.cell h (g:=0) (by kernel_rfl) j (by rw[hl];exact hj);rw[h2]
 congr 2
 have e:Lib.deBruijn64tab.length=64:=by decide
 unfold Fx.Yv;rw[List.getD_eq_getElem?_getD,List.getD_eq_getElem?_getD,List.getElem?_map,List.getElem?_eq_getElem (by rw[e];exact hj)]
 rfl
theorem bits_TrailingZeros64.calls (a0:Int)(r:Int)(w:World)(h:bits_TrailingZeros64.f a0=some r)(htab:Fx.Laid w:=by exact Fx.Laid.below HTAB.out (by repeat (first|(with_reducible first|exact HB.out|apply bn|apply aJ|apply aW|refine bF ?_ (ae.out (by assumption)))|exact HB.out))) :
  Calls Tryz.prog 47 #[.int .u64 a0] w fun e w'=>e=.returned (.int .i64 r)∧Below w.heap.size w w':=by
 unfold bits_TrailingZeros64.f at h
 by_cases hg:0≤a0∧a0<18446744073709551616
 case neg=>rw[if_neg hg]at h;exact absurd h (by simp)
 rw[if_pos hg]at h;obtain rfl:=Option.some.inj h;obtain⟨x,rfl⟩:=Int.eq_ofNat_of_zero_le hg.1
 have hx:x<18446744073709551616:=by omega
 rw[Int.toNat_natCast]
 by_cases hx0:x=0
 ·subst hx0
  exact (tz64_zero w).mono fun _ _ ⟨he,hw⟩=>⟨he,by rw[hw];exact Below.refl _ _⟩
 ·obtain⟨hlow,hk⟩:=Lib.lowest_bit 64 x hx0 hx
  obtain⟨hi,ht⟩:=Lib.deBruijn64_at _ hk;have hcell:=alQ htab.2 _ hi;rw[ht]at hcell
  exact (tz64_core x _ _ w (by simp;omega) (tz64_key x _ hx hx0 hlow) hi hk hcell).mono fun _ _ ⟨he,hw⟩=>⟨he,by rw[hw];exact Below.refl _ _⟩
end Go.Proofs.Yy.PTx
end
section
set_option maxHeartbeats 8000000
set_option maxRecDepth 100000
namespace Go.Proofs.Yy.PTx
open Go.RowKit Go.Proofs.Yy.Z Go.Proofs.Yw.PrintWords Go.Proofs.Yw.PrintLast Go.Proofs.Yw.PrintMore
open Go.Proofs.Yy.M
attribute [local go_sem] dP eU lV lX lW lU
attribute [local go_sem] iq ik jE jD gu gq iE iD
def pI.f (a0:Int)(a1:Int)(a2:Int)(a3:Int):Option (Int × Int):=(bits_Mul64.f a0 a1).bind fun Y4=>(some (fK (fK Y4.2 a2 0) a3 0,IntKind.u64.wrap ((IntKind.u64.wrap (Y4.1+(iG Y4.2 a2 0)))+(iG (fK Y4.2 a2 0) a3 0))))
theorem pI.calls (a0:Int)(a1:Int)(a2:Int)(a3:Int)(r1:Int)(r2:Int)(w:World)(h:pI.f a0 a1 a2 a3=some (r1,r2)) :
    Calls Tryz.prog 166 #[.int .u64 a0,.int .u64 a1,.int .u64 a2,.int .u64 a3] w fun e w'=>e=.returned (.tuple #[.int .u64 r1,.int .u64 r2])∧dX w w':=by
 have H:=am h;unfold pI.f at H;clear h;replace H:=zo H;obtain⟨⟨aHl,t198⟩,A5,H⟩:=H
 try dsimp only at H
 obtain⟨rfl,rfl⟩:=zJ2 H
 go_enter Tryz.func166,Tryz.ntmps166
 go_wp2_with (first|((with_reducible refine af (f:=178) rfl ?_);refine zc (some 14) Tryz.func178 _ (bits_Mul64.calls _ _ _ _ _ A5.out) ?_;rintro e w' ⟨rfl,⟨nd,rfl⟩⟩;refine⟨_,rfl,?_⟩)|((with_reducible refine af (f:=191) rfl ?_);refine Ba (some 20) rfl rfl #[.int .u64 t198,.int .u64 a2,.int .u64 0] _ rfl (by (try simp only[List.map_toArray,List.map_cons,List.map_nil]);rfl) (fun w_=>dP t198 a2 0 (by first|decide|(with_reducible assumption)|exact zD) w_) ?_)|((with_reducible refine af (f:=191) rfl ?_);refine Ba (some 29) rfl rfl #[.int .u64 (fK t198 a2 0),.int .u64 a3,.int .u64 0] _ rfl (by (try simp only[List.map_toArray,List.map_cons,List.map_nil]);rfl) (fun w_=>dP (fK t198 a2 0) a3 0 (by first|decide|(with_reducible assumption)|exact zD) w_) ?_))
 go_ret2
 exact⟨z1,z4⟩
mutual
def dJ.l0:Nat→List Int→List Int→List Int→Int→Int→Option (List Int)
  | 0,_,_,_,_,_=>none
  | k+1,x1,x5,x17,x18,x19=>if x19<x18 then (if 0≤x19 then (if x19<(x17.length:Int) then (dJ.l1 k x1 x5 x19 (rd x17 x19) 0 x17 x18 x19 x1 (x1.length:Int) 0) else (none)) else (none)) else ((bH.f k x5).bind fun au8=>(some au8))
def dJ.l1:Nat→List Int→List Int→Int→Int→Int→List Int→Int→Int→List Int→Int→Int→Option (List Int)
  | 0,_,_,_,_,_,_,_,_,_,_,_=>none
  | k+1,x1,x5,x6,x7,x8,x17,x18,x19,x24,x25,x26=>if x26<x25 then (if 0≤x26 then (if x26<(x24.length:Int) then (if 0≤(wrap64 (x6+x26)) then (if (wrap64 (x6+x26))<(x5.length:Int) then ((pI.f x7 (rd x24 x26) (rd x5 (wrap64 (x6+x26))) x8).bind fun ahF=>(dJ.l1 k x1 (x5.set ((wrap64 (x6+x26)):Int).toNat ahF.1) x6 x7 ahF.2 x17 x18 x19 x24 x25 (wrap64 (x26+1)))) else (none)) else (none)) else (none)) else (none)) else (if 0≤(wrap64 (x6+(x1.length:Int))) then (if (wrap64 (x6+(x1.length:Int)))<(x5.length:Int) then (dJ.l0 k x1 (x5.set ((wrap64 (x6+(x1.length:Int))):Int).toNat x8) x17 x18 (wrap64 (x19+1))) else (none)) else (none))
end
def dJ.f (k:Nat)(l0:List Int)(l1:List Int):Option (List Int):=if 0≤(wrap64 ((l0.length:Int)+(l1.length:Int))) then (if (wrap64 ((l0.length:Int)+(l1.length:Int)):Int).toNat≤35184372088832 then (dJ.l0 k l1 (List.replicate (wrap64 ((l0.length:Int)+(l1.length:Int)):Int).toNat 0) l0 (l0.length:Int) 0) else (none)) else (none)
theorem dJ.calls (k:Nat)(A0:Option Addr)(c0:Nat)(l0:List Int)(A1:Option Addr)(c1:Nat)(l1:List Int)(r:List Int)(w:World)(hr0:Kd.C (Kd.int .u64) w A0 l0.length l0)(hc0:l0.length≤c0)(hr1:Kd.C (Kd.int .u64) w A1 l1.length l1)(hc1:l1.length≤c1)(h:dJ.f k l0 l1=some r) :
    Calls Tryz.prog 107 #[.slice A0 l0.length c0,.slice A1 l1.length c1] w fun e w' => ∃ v0_:Value,e=.returned (v0_)∧Kd.V (Kd.int .u64) 25 w' w.heap.size (fun k_=>(w.heap.size≤k_)) v0_ r∧Below w.heap.size w w':=by
 have HR0:=am hr0;have HC0:=am hc0;clear hr0 hc0;have HR1:=am hr1;have HC1:=am hc1;clear hr1 hc1;have HB:=am (Below.refl w.heap.size w);have H:=am h;unfold dJ.f at H;clear h;generalize Ew:(wrap64 ((l0.length:Int)+(l1.length:Int)):Int)=ji3 at H;have Vs:(IntKind.i64.wrap ((l0.length:Int)+(l1.length:Int)))=ji3:=(bW _).trans Ew;replace H:=zit H;obtain⟨jV,rZ,H⟩:=H;replace H:=zit H;obtain⟨qN,xC,H⟩:=H;generalize ahG:(List.replicate (ji3:Int).toNat 0:List Int)=az2 at H;have ahH:=zY ahG;clear ahG
 go_enter Tryz.func107,Tryz.ntmps107
 go_wp2_with (first|((with_reducible refine aA (N:=16) rfl ?_);refine Kd.wE (Kd.int .u64) _ 25 rfl (N:=16) rfl 88 _ _ rfl ji3 (by first|rfl|(simp only[List.length_drop,List.length_take];rfl)) (by first|rfl|(simp only[List.length_drop,List.length_take];rfl)) Tryz.underlying88 (.int .u64 0) 8 info25 rfl (by decide) (by omega) 0 (ok:=fun _=>True) (okp:=fun _=>True) rfl (fun _ hk=>hk) trivial (zD) (Nat.le_trans (Nat.mul_le_mul_right _ (zD:ji3.toNat≤35184372088832)) (by omega)) (Below.refl _ _) (Nat.le_refl _) ?_;intro au9 w6 ho7 hb hg_ jO;clear hg_ jO;(first|rw[← ahH.out]at ho7|(simp only[Int.reduceToNat]at ho7;rw[← ahH.out]at ho7));have aoL:=am (Kd.dZ (Kd.oQ (M:=fun k_=>(w.heap.size≤k_)) ho7 (zS HB) (fun k_ h_=>h_)) (zS HB));replace HB:=zBs HB hb;clear hb ho7))
 go_loopg [19] k (fun kq v19 w' => ∃ (gV:List Int) (yx:Int),v19=.int .i64 yx∧ae (dJ.l0 kq l1 gV l0 (l0.length:Int) yx=some r)∧ae (kq≤k)∧ae (Kd.R (Kd.int .u64) 25 w' w.heap.size (fun k_=>(w.heap.size≤k_)) au9 gV)∧ae (Below w.heap.size w w'))
 case atStart=>exact⟨(az2),(0),z1,H,zL,⟨by (with_reducible repeat (first|apply Kd.cO|apply Kd.bZ|apply Kd.dK));exact Kd.dm aoL.out (fun _ hk=>hk.1)⟩,⟨zB HB⟩⟩
 clear H;obtain⟨gV,yx,rfl,H,HK1,fH,HB⟩:=hrel;obtain _|k1:=gk
 ·exact zz H rfl
 simp only[dJ.l0]at H;replace H:=zsd H;rcases H with⟨uz,H⟩|⟨uz,H⟩;replace H:=zid H;obtain⟨vF,H⟩:=H;replace H:=zid H;obtain⟨oL,H⟩:=H;have aoM:0≤(yx:Int):=zD;have aoN:yx<(l0.length:Int):=zD;obtain⟨az3,az4,Ic⟩:=Kd.dQ HR0.out yx aoM aoN
 cases az4
 replace Ic:=(HB.out.cell (World.block_lt_of_cell? w _ Ic)).trans Ic;replace aoM:=eq_true aoM;replace aoN:=eq_true aoN;rotate_left;replace H:=zo H;obtain⟨au8,A28,H⟩:=H;obtain rfl:=Option.some.inj H.out;obtain⟨ava,Ri,ak0⟩:=Kd.dU fH.out;subst ak0;rotate_left
 all_goals (go_wp2_with (first|((with_reducible refine af (f:=103) rfl ?_);refine zc (some 59) Tryz.func103 #[.slice ava gV.length Ri] (bH.calls _ (fun k_=>some k_=(.slice ava gV.length Ri:Value).ownBlock) _ _ _ _ _ (Kd.R_V (Kd.jZ rfl (fH.out))) A28.out) ?_;rintro e w30 ⟨v203,rfl,ho0,hb⟩;refine⟨_,rfl,?_⟩;have aoO:=am (Kd.dG (Kd.bG (ok':=fun k_=>(w.heap.size≤k_)) ho0 (fun k_ hk_=>Or.elim hk_ (fun hs_=>((fH.out).1 k_ hs_.symm)) (fun hn_=>(Nat.le_trans (zS HB) hn_)))) (zS HB));replace fH:=zRb fH hb;replace HB:=zBs HB hb;clear hb ho0)))
 ·go_loopg [8,26] k1 (fun kq v8 v26 w' => ∃ (nY:List Int) (OO:Int) (EY:Int),v8=.int .u64 OO∧v26=.int .i64 EY∧ae (dJ.l1 kq l1 nY yx (rd l0 yx) OO l0 (l0.length:Int) yx l1 (l1.length:Int) EY=some r)∧ae (kq≤k1)∧ae (Kd.R (Kd.int .u64) 25 w' w.heap.size (fun k_=>(w.heap.size≤k_)) au9 nY)∧ae (Below w.heap.size w w'))
  case atStart=>exact⟨(gV),(0),(0),z1,z1,H,zL,⟨zR fH⟩,⟨zB HB⟩⟩
  clear H
  try clear hx2
  try clear Ic
  obtain⟨nY,OO,EY,rfl,rfl,H,HK2,fH,HB⟩:=hrel;obtain _|k2:=gk
  ·exact zz H rfl
  simp only[dJ.l1]at H;replace H:=zsd H;rcases H with⟨qJ,H⟩|⟨qJ,H⟩;replace H:=zid H;obtain⟨pM,H⟩:=H;replace H:=zid H;obtain⟨sD,H⟩:=H;generalize U6:(wrap64 (yx+EY):Int)=Kw at H;have agL:(IntKind.i64.wrap (yx+EY))=Kw:=(bW _).trans U6;replace H:=zid H;obtain⟨xZ,H⟩:=H;replace H:=zid H;obtain⟨Dx,H⟩:=H;replace H:=zo H;obtain⟨⟨t208,az5⟩,A17,H⟩:=H
  try dsimp only at H
  generalize ahI:(nY.set ((Kw):Int).toNat t208:List Int)=avb at H;have aoP:=zY ahI;clear ahI;have aoQ:0≤(EY:Int):=zD;have aoR:EY<(l1.length:Int):=zD;obtain⟨az6,e206,MH⟩:=Kd.dQ HR1.out EY aoQ aoR
  cases e206
  replace MH:=(HB.out.cell (World.block_lt_of_cell? w _ MH)).trans MH;replace aoQ:=eq_true aoQ;replace aoR:=eq_true aoR;obtain⟨Y5,OQ,ae9⟩:=Kd.dU fH.out;subst ae9;obtain⟨aHm,aHn,aoS,rfl,adl⟩:=zA (Kd.dQ (Kd.az fH.out).2.2 (Kw));rotate_left;generalize aoT:(wrap64 (yx+(l1.length:Int)):Int)=adm at H;have avc:(IntKind.i64.wrap (yx+(l1.length:Int)))=adm:=(bW _).trans aoT;replace H:=zid H;obtain⟨J3,H⟩:=H;replace H:=zid H;obtain⟨Me,H⟩:=H;generalize ahJ:(nY.set ((adm):Int).toNat OO:List Int)=avd at H;have aoU:=zY ahJ;clear ahJ;have p25:0≤((adm):Int):=zD;have q25:((adm):Int)<((nY.length:Int):Int):=zD;obtain⟨aoV,ahD,ae5,ave,az7,aHo,avf⟩:=Kd.oP fH.out (by omega)
  (first|cases ae5|(injection ae5 with ea_ en_ ec_;(first|subst ea_|(injection ea_ with ea_;subst ea_));subst ec_;clear en_))
  have az8:=am ave;have aHp:=am avf;clear ave az7 avf;obtain⟨avg,avh⟩:=Kd.iR 0 fH.out ((adm):Int) p25 q25;replace p25:=eq_true p25;replace q25:=eq_true q25;have aoW:=Kd.mX fH.out ((adm):Int) OO;rotate_left
  all_goals (go_wp2_with (first|((with_reducible refine af (f:=166) rfl ?_);refine jS (some 45) rfl rfl Tryz.func166 (by kernel_rfl) rfl #[.int .u64 (rd l0 yx),.int .u64 (rd l1 EY),.int .u64 (rd nY (Kw)),.int .u64 OO] rfl (by (try simp only[List.map_toArray,List.map_cons,List.map_nil]);first|done|(simp only[U6];rfl)|rfl|(simp only[List.length_drop,List.length_take];rfl)) ?_;(with_reducible refine (pI.calls _ _ _ _ _ _ _ A17.out).mono ?_);rintro e w' ⟨rfl,⟨nd,rfl⟩⟩;refine⟨_,rfl,?_⟩;(try (rw[gI wr];generalize hq_:World.drewN wr _=wr;have n0_:ae (Kd.R (Kd.int .u64) 25 wr w.heap.size (fun k_=>(w.heap.size≤k_)) (.slice (some aoS) nY.length OQ) nY):=⟨by rw[← hq_];exact (zR fH)⟩;have n1_:ae (Below w.heap.size w wr):=⟨by rw[← hq_];exact (zB HB)⟩;clear fH HB hq_;have fH:=n0_;have HB:=n1_;clear n0_ n1_));have p18:0≤((Kw):Int):=zD;have q18:((Kw):Int)<((nY.length:Int):Int):=zD;obtain⟨ak3,sF,MC,ahK,aoX,az9,ahL⟩:=Kd.oP fH.out (by omega);(first|cases MC|(injection MC with ea_ en_ ec_;(first|subst ea_|(injection ea_ with ea_;subst ea_));subst ec_;clear en_));have avi:=am ahK;have aAa:=am ahL;clear ahK aoX ahL;(first|simp only[add_plain]at adl|skip);obtain⟨ahM,ahN⟩:=Kd.iR 0 fH.out ((Kw):Int) p18 q18;replace p18:=eq_true p18;replace q18:=eq_true q18;obtain⟨aAb,aAc⟩:=Kd.iR 0 fH.out ((Kw):Int) (zD) (zD);have adn:=Kd.mX fH.out ((Kw):Int) t208)|((with_reducible refine fO (t:=25) (p:=48) rfl ?_);refine ed (t:=25) (p:=48) (v:=?avj) (w1:=(wr.setCell ⟨ak3,((Kw):Int).toNat,none⟩ (.int .u64 t208))) ?hg ?ho ?hn ?hr ?_;(case ho=>rfl);(case hg=>rfl);(case hn=>rfl);(case hr=>first|(go_simp;done)|(go_simp;rfl));intro w21 hw;have hg:wr.grownBy w21 (some ak3):=(by rw[hw];exact adn.2);have hp_:Kd.R (Kd.int .u64) 25 w21 w.heap.size (fun k_=>(w.heap.size≤k_)) (.slice (some ⟨ak3,0,none⟩) nY.length OQ) avb:=(by rw[hw,aoP.out];exact adn.1);clear adn;replace fH:=am (hp_);replace HB:=am ((by rw[hw];exact bF (HB.out) avi.out:Below w.heap.size w w21));clear hg hw hp_)|((with_reducible refine fO (t:=25) (p:=56) rfl ?_);refine ed (t:=25) (p:=56) (v:=?avk) (w1:=(wr.setCell ⟨aoV,((adm):Int).toNat,none⟩ (.int .u64 OO))) ?hg ?ho ?hn ?hr ?_;(case ho=>rfl);(case hg=>rfl);(case hn=>rfl);(case hr=>first|(go_simp;done)|(go_simp;rfl));intro w27 hw;have hg:wr.grownBy w27 (some aoV):=(by rw[hw];exact aoW.2);have hp_:Kd.R (Kd.int .u64) 25 w27 w.heap.size (fun k_=>(w.heap.size≤k_)) (.slice (some ⟨aoV,0,none⟩) nY.length ahD) avd:=(by rw[hw,aoU.out];exact aoW.1);clear aoW;replace fH:=am (hp_);replace HB:=am ((by rw[hw];exact bF (HB.out) az8.out:Below w.heap.size w w27));clear hg hw hp_)))
  ·go_roundg k2
   case measure=>have:=HK1.out;have:=HK2.out;omega
   case rel=>exact⟨(avb),(az5),(wrap64 (EY+1)),z1,z1,H,⟨by have:=HK1.out;have:=HK2.out;omega⟩,⟨zR fH⟩,⟨zB HB⟩⟩
  go_roundg k2
  case measure=>have:=HK1.out;have:=HK2.out;omega
  case rel=>exact⟨(avd),(wrap64 (yx+1)),z1,H,⟨by have:=HK1.out;have:=HK2.out;omega⟩,⟨zR fH⟩,⟨zB HB⟩⟩
 go_ret
 exact⟨_,by first|exact z3|(simp only[← Ew];exact z3)|exact z2,zV aoO,zB HB⟩
mutual
def iw.l0:Nat→Int→List Int→Option (List Int × Option Int)
  | 0,_,_=>none
  | k+1,x0,x4=>if x0≥19 then ((dJ.f k x4 (([10000000000000000000]:List Int))).bind fun t218=>(iw.l0 k (wrap64 (x0-19)) t218)) else (iw.l1 k x0 x4)
def iw.l1:Nat→Int→List Int→Option (List Int × Option Int)
  | 0,_,_=>none
  | k+1,x0,x4=>if x0 > 0 then ((dJ.f k x4 (([10]:List Int))).bind fun EW=>(iw.l1 k (wrap64 (x0-1)) EW)) else (some (x4,none))
end
def iw.f (k:Nat)(a0:Int):Option (List Int × Option Int):=if a0<0 then (some (([]:List Int),some 1)) else (if a0 > 16384 then (some (([]:List Int),some 3)) else (iw.l0 k a0 (([1]:List Int))))
theorem iw.calls (k:Nat)(a0:Int)(r1:List Int)(r2:Option Int)(w:World)(h:iw.f k a0=some (r1,r2)) :
    Calls Tryz.prog 51 #[.int .i64 a0] w fun e w' => ∃ v0_:Value,e=.returned (.tuple #[v0_,qL r2])∧Kd.V (Kd.int .u64) 25 w' w.heap.size (fun k_=>(w.heap.size≤k_)) v0_ r1∧Below w.heap.size w w':=by
 have zq:=Tryz.underlying27;have hu64:=Tryz.underlying64;have HB:=am (Below.refl w.heap.size w);have H:=am h;unfold iw.f at H;clear h;replace H:=zsd H;rcases H with⟨sQ,H⟩|⟨sQ,H⟩;obtain⟨rfl,rfl⟩:=zJ2 H;rotate_left;replace H:=AV H;rcases H with⟨pK,H⟩|⟨pK,H⟩;obtain⟨rfl,rfl⟩:=zJ2 H;rotate_left;generalize ahO:(([1]:List Int):List Int)=aAd at H;have ahP:=zY ahO;clear ahO;rotate_left
 all_goals (go_enter Tryz.func51,Tryz.ntmps51;go_wp2_with (first|((with_reducible refine aA (N:=11) rfl ?_);refine Kd.Bq (Kd.int .u64) _ 25 ?hg (N:=11) ?hd (xs:=([1]:List Int)) (inner := [.int .u64 1]) (ok:=fun _=>True) (okp:=fun _=>True) ?hr ?hp (fun _ hk=>hk) trivial (Below.refl _ _) (Nat.le_refl _) (by simp) ?_;(case hd=>rfl);(case hg=>rfl);(case hr=>first|(go_simp;done)|(go_simp;rfl));(case hp=>exact (jM.one (show Kd.M (Kd.int .u64) _ _ _ 1 [.int .u64 1] from rfl) (jM.none _ _)));intro aHq w4 ho5 hb hg_ jO;clear hg_ jO;(first|rw[← ahP.out]at ho5|(simp only[Int.reduceToNat]at ho5;rw[← ahP.out]at ho5));have aoY:=am (Kd.dZ (Kd.oQ (M:=fun k_=>(w.heap.size≤k_)) ho5 (zS HB) (fun k_ h_=>h_)) (zS HB));replace HB:=zBs HB hb;clear hb ho5)))
 rotate_left;rotate_left
 ·go_loopg [0,4] k (fun kq v0 v4 w' => ∃ (mO:Int) (qh:List Int),v0=.int .i64 mO∧ae (iw.l0 kq mO qh=some (r1,r2))∧ae (kq≤k)∧ae (Kd.V (Kd.int .u64) 25 w' w.heap.size (fun k_=>(w.heap.size≤k_)) v4 qh)∧ae (Below w.heap.size w w'))
  case atStart=>exact⟨(a0),(aAd),z1,H,zL,⟨Kd.R_V (by (with_reducible repeat (first|apply Kd.cO|apply Kd.bZ|apply Kd.dK));exact Kd.dm aoY.out (fun _ hk=>hk.1))⟩,⟨zB HB⟩⟩
  clear H;obtain⟨mO,qh,rfl,H,HK1,zZ,HB⟩:=hrel;obtain _|k1:=gk
  ·exact zz H rfl
  simp only[iw.l0]at H;replace H:=yD H;rcases H with⟨qV,H⟩|⟨qV,H⟩;generalize ahQ:(([10000000000000000000]:List Int):List Int)=avl at H;have ahR:=zY ahQ;clear ahQ;replace H:=zo H;obtain⟨t218,A7,H⟩:=H;rotate_left;rotate_left
  all_goals (go_wp2_with (first|((with_reducible refine aA (N:=17) rfl ?_);refine Kd.Bq (Kd.int .u64) _ 25 ?hg (N:=17) ?hd (xs:=([10000000000000000000]:List Int)) (inner := [.int .u64 10000000000000000000]) (ok:=fun _=>True) (okp:=fun _=>True) ?hr ?hp (fun _ hk=>hk) trivial (Below.refl _ _) (Nat.le_refl _) (by simp) ?_;(case hd=>rfl);(case hg=>rfl);(case hr=>first|(go_simp;done)|(go_simp;rfl));(case hp=>exact (jM.one (show Kd.M (Kd.int .u64) _ _ _ 10000000000000000000 [.int .u64 10000000000000000000] from rfl) (jM.none _ _)));intro aHr w8 ho9 hb hg_ jO;clear hg_ jO;(first|rw[← ahR.out]at ho9|(simp only[Int.reduceToNat]at ho9;rw[← ahR.out]at ho9));replace zZ:=am (Kd.jl (zV zZ) (Kd.fP ho9) hb);have QH:=am (Kd.dZ (Kd.oQ (M:=fun k_=>(w.heap.size≤k_)) ho9 (zS HB) (fun k_ h_=>h_)) (zS HB));replace HB:=zBs HB hb;clear hb ho9;obtain⟨aoZ,ak4,afa⟩:=Kd.dS zZ.out;subst afa;obtain⟨Xm,VC,VD⟩:=Kd.dU QH.out;subst VD)|((with_reducible refine af (f:=107) rfl ?_);refine zc (some 18) Tryz.func107 #[.slice aoZ qh.length ak4,.slice Xm avl.length VC] (dJ.calls _ _ _ _ _ _ _ _ _ (zC ((Kd.aX zZ.out).2.2)) ((Kd.aX zZ.out).2.1) (zC ((Kd.az QH.out).2.2)) ((Kd.az QH.out).2.1) A7.out) ?_;rintro e w12 ⟨aHs,rfl,ho0,hb⟩;refine⟨_,rfl,?_⟩;replace zZ:=zVb zZ hb;have ao0:=am (Kd.dG (Kd.bG (ok':=fun k_=>(w.heap.size≤k_)∧some k_≠(.slice Xm avl.length VC:Value).ownBlock) ho0 (fun k_ hk_=>⟨(Nat.le_trans (zS HB) hk_),(Kd.fresh' (Kd.qg (zR QH)) k_ hk_)⟩)) (zS HB));replace QH:=zRb QH hb;replace HB:=zBs HB hb;clear hb ho0)))
  ·go_roundg k1
   case measure=>have:=HK1.out;omega
   case rel=>exact⟨(wrap64 (mO-19)),(t218),z1,H,(zH HK1),⟨by (with_reducible repeat (first|apply Kd.je|apply Kd.jh|apply Kd.jb));exact Kd.bG ao0.out (fun _ hk=>hk.1)⟩,⟨zB HB⟩⟩
  go_loopg [0,4] k1 (fun kq v0 v4 w' => ∃ (jq:Int) (Rj:List Int),v0=.int .i64 jq∧ae (iw.l1 kq jq Rj=some (r1,r2))∧ae (kq≤k1)∧ae (Kd.V (Kd.int .u64) 25 w' w.heap.size (fun k_=>(w.heap.size≤k_)) v4 Rj)∧ae (Below w.heap.size w w'))
  case atStart=>exact⟨(mO),(qh),z1,H,zL,⟨zV zZ⟩,⟨zB HB⟩⟩
  clear H;obtain⟨jq,Rj,rfl,H,HK2,zZ,HB⟩:=hrel;obtain _|k2:=gk
  ·exact zz H rfl
  simp only[iw.l1]at H;replace H:=AV H;rcases H with⟨sD,H⟩|⟨sD,H⟩;generalize ahS:(([10]:List Int):List Int)=avm at H;have ahT:=zY ahS;clear ahS;replace H:=zo H;obtain⟨EW,A14,H⟩:=H;rotate_left;obtain⟨rfl,rfl⟩:=zJ2 H;rotate_left
  all_goals (go_wp2_with (first|((with_reducible refine aA (N:=24) rfl ?_);refine Kd.Bq (Kd.int .u64) _ 25 ?hg (N:=24) ?hd (xs:=([10]:List Int)) (inner := [.int .u64 10]) (ok:=fun _=>True) (okp:=fun _=>True) ?hr ?hp (fun _ hk=>hk) trivial (Below.refl _ _) (Nat.le_refl _) (by simp) ?_;(case hd=>rfl);(case hg=>rfl);(case hr=>first|(go_simp;done)|(go_simp;rfl));(case hp=>exact (jM.one (show Kd.M (Kd.int .u64) _ _ _ 10 [.int .u64 10] from rfl) (jM.none _ _)));intro v222 w15 afb hb hg_ jO;clear hg_ jO;(first|rw[← ahT.out]at afb|(simp only[Int.reduceToNat]at afb;rw[← ahT.out]at afb));replace zZ:=am (Kd.jl (zV zZ) (Kd.fP afb) hb);have QI:=am (Kd.dZ (Kd.oQ (M:=fun k_=>(w.heap.size≤k_)) afb (zS HB) (fun k_ h_=>h_)) (zS HB));replace HB:=zBs HB hb;clear hb afb;obtain⟨aAe,Xl,ada⟩:=Kd.dS zZ.out;subst ada;obtain⟨J4,sF,MC⟩:=Kd.dU QI.out;subst MC)|((with_reducible refine af (f:=107) rfl ?_);refine zc (some 25) Tryz.func107 #[.slice aAe Rj.length Xl,.slice J4 avm.length sF] (dJ.calls _ _ _ _ _ _ _ _ _ (zC ((Kd.aX zZ.out).2.2)) ((Kd.aX zZ.out).2.1) (zC ((Kd.az QI.out).2.2)) ((Kd.az QI.out).2.1) A14.out) ?_;rintro e w19 ⟨aHt,rfl,ho0,hb⟩;refine⟨_,rfl,?_⟩;replace zZ:=zVb zZ hb;have ao1:=am (Kd.dG (Kd.bG (ok':=fun k_=>(w.heap.size≤k_)∧some k_≠(.slice J4 avm.length sF:Value).ownBlock) ho0 (fun k_ hk_=>⟨(Nat.le_trans (zS HB) hk_),(Kd.fresh' (Kd.qg (zR QI)) k_ hk_)⟩)) (zS HB));replace QI:=zRb QI hb;replace HB:=zBs HB hb;clear hb ho0)))
  ·go_roundg k2
   case measure=>have:=HK1.out;have:=HK2.out;omega
   case rel=>exact⟨(wrap64 (jq-1)),(EW),z1,H,⟨by have:=HK1.out;have:=HK2.out;omega⟩,⟨by (with_reducible repeat (first|apply Kd.je|apply Kd.jh|apply Kd.jb));exact Kd.bG ao1.out (fun _ hk=>hk.1)⟩,⟨zB HB⟩⟩
  go_ret2
  exact⟨_,z2,zV zZ,zB HB⟩
 all_goals
  go_ret2
  exact⟨_,z2,Kd.Ah _ _ _ _ _,zB HB⟩
mutual
def eQ.l0:Nat→Int→List Int→Bool→List Int→Int→Int→Option (List Int × Bool × Option Int)
  | 0,_,_,_,_,_,_=>none
  | k+1,x1,x7,x8,x43,x44,x45=>if x45<x44 then (if 0≤x45 then (if x45<(x43.length:Int) then (if x8=true then (eQ.l0 k x1 x7 true x43 x44 (wrap64 (x45+1))) else (eQ.l0 k x1 x7 ((rd x43 x45) != 0) x43 x44 (wrap64 (x45+1)))) else (none)) else (none)) else (eQ.l1 k x1 x7 x8 (x7.length:Int) 0)
def eQ.l1:Nat→Int→List Int→Bool→Int→Int→Option (List Int × Bool × Option Int)
  | 0,_,_,_,_,_=>none
  | k+1,x1,x7,x8,x56,x57=>if x57<x56 then (if 0≤x57 then (if x57<(x7.length:Int) then (if 0≤(Int.tmod x1 64) then ((some (x7.set (x57:Int).toNat (shr .u64 (rd x7 x57) (Int.tmod x1 64)):List Int)).bind fun IR=>(if (wrap64 (x57+1))<(x7.length:Int) then (if 0≤(wrap64 (x57+1)) then (if 0≤(wrap64 (63-(Int.tmod x1 64))) then (eQ.l1 k x1 (IR.set (x57:Int).toNat (Go.bits .or .u64 (rd IR x57) (shl .u64 (IntKind.u64.wrap ((rd IR (wrap64 (x57+1)))*2)) (wrap64 (63-(Int.tmod x1 64)))))) x8 x56 (wrap64 (x57+1))) else (none)) else (none)) else (eQ.l1 k x1 IR x8 x56 (wrap64 (x57+1))))) else (none)) else (none)) else (none)) else ((bH.f k x7).bind fun avn=>(some (avn,x8,none)))
end
def eQ.f (k:Nat)(l0:List Int)(a1:Int):Option (List Int × Bool × Option Int):=if a1<0 then (some (([]:List Int),false,some 1)) else ((bH.f k l0).bind fun t227=>(if (wrap64 (Int.tdiv a1 64))≥(t227.length:Int) then (some (([]:List Int),decide ((t227.length:Int) > 0),none)) else (if 0≤(wrap64 (Int.tdiv a1 64)) then (if (wrap64 (Int.tdiv a1 64))≤(t227.length:Int) then ((some (t227.drop ((wrap64 (Int.tdiv a1 64)):Int).toNat:List Int)).bind fun VF=>(if ([]:List Int).length+VF.length<17592186044416 then ((some (([]:List Int)++VF:List Int)).bind fun Gj=>(if 0<(Gj.length:Int) then (if 0≤(wrap64 (63-(Int.tmod a1 64))) then ((some (t227.take ((wrap64 (Int.tdiv a1 64)):Int).toNat:List Int)).bind fun Rk=>(eQ.l0 k a1 Gj ((shl .u64 (IntKind.u64.wrap ((rd Gj 0)*2)) (wrap64 (63-(Int.tmod a1 64)))) != 0) Rk (Rk.length:Int) 0)) else (none)) else (none))) else (none))) else (none)) else (none))))
def eQ.T18:Bool × List (List Nat × List Nat):=(true,[([],[]),([],[]),([0,1],[0,1]),([2],[2]),([],[]),([],[]),([5],[5]),([4,6],[4,6]),([7],[7]),([8],[8]),([],[]),([10],[10]),([11],[11]),([9,12],[9,12]),([3,13],[3,13]),([0,1,0,1,2,3,4,5,6,7,8,9,10,11,12,13,14],[0,1]),([15,14,0,1,2,3,4,5,6,7,8,9,10,11,12,13,14],[14,15])])
def eQ.B18:List Nat := [0,0,3,7,0,0,32,112,240,496,0,1024,3072,8176,16383,32767,65535]
theorem eQ.ama:rX .any (opsOf Tryz.f52 18)=eQ.T18:=by kernel_rfl
theorem eQ.afU:jf eQ.T18.2 eQ.B18=true:=by kernel_rfl
theorem eQ.calls (k:Nat)(P0_:Nat→Prop)(A0:Option Addr)(c0:Nat)(l0:List Int)(a1:Int)(r1:List Int)(r2:Bool)(r3:Option Int)(w:World)(hs0:Kd.V (Kd.int .u64) 25 w w.heap.size (fun k_=>P0_ k_) (.slice A0 l0.length c0) l0)(h:eQ.f k l0 a1=some (r1,r2,r3)) :
    Calls Tryz.prog 52 #[.slice A0 l0.length c0,.int .i64 a1] w fun e w' => ∃ v0_:Value,e=.returned (.tuple #[v0_,.bool r2,qL r3])∧Kd.V (Kd.int .u64) 25 w' w.heap.size (fun k_=>(P0_ k_∨w.heap.size≤k_)) v0_ r1∧Below w.heap.size w w':=by
 have zq:=Tryz.underlying27;have hu64:=Tryz.underlying64;have HO0:=am (show Kd.V (Kd.int .u64) 25 w w.heap.size (fun k_=>(P0_ k_∨w.heap.size≤k_)) (.slice A0 l0.length c0) l0 from Kd.bG hs0 (fun k_ hk => .inl hk));have HB:=am (Below.refl w.heap.size w);have H:=am h;unfold eQ.f at H;clear h;replace H:=zsd H;rcases H with⟨pK,H⟩|⟨pK,H⟩;obtain⟨rfl,rfl,rfl⟩:=zJ3 H;rotate_left;replace H:=zo H;obtain⟨t227,A4,H⟩:=H;replace H:=yD H;rcases H with⟨qN,H⟩|⟨qN,H⟩;obtain⟨rfl,rfl,rfl⟩:=zJ3 H;rotate_left;generalize ui:(wrap64 (Int.tdiv a1 64):Int)=ji8 at H
 (try rw[ui]at qN)
 (try rw[ui]at A4)
 have aAf:(IntKind.i64.wrap (Int.tdiv a1 64))=ji8:=(bW _).trans ui;replace H:=zit H;obtain⟨vF,BD,H⟩:=H;replace H:=zit H;obtain⟨oL,uX,H⟩:=H;obtain⟨VF,ahU,H⟩:=zw H;replace H:=zil H;obtain⟨ao2,H⟩:=H;obtain⟨Gj,ao3,H⟩:=zw H;replace H:=zi H;obtain⟨c12,H⟩:=H;have pM:decide (0<(Gj.length:Int))=true:=decide_eq_true c12;have uQ:decide (0<Gj.length)=true:=decide_eq_true (by omega);clear c12;generalize qO:(wrap64 (63-(Int.tmod a1 64)):Int)=qI at H
 (try rw[qO]at A4)
 have ahV:(IntKind.i64.wrap (63-(Int.tmod a1 64)))=qI:=(bW _).trans qO;replace H:=zit H;obtain⟨wG,Md,H⟩:=H;generalize uU:(shl .u64 (IntKind.u64.wrap ((rd Gj 0)*2)) (qI):Int)=Ap at H
 (try rw[uU]at A4)
 have aan:(IntKind.u64.wrap ((IntKind.u64.wrap ((rd Gj 0)*2))*2 ^ min (qI).toNat 64))=Ap:=uU;have aao:(qI)≤64→(IntKind.u64.wrap ((IntKind.u64.wrap ((rd Gj 0)*2))*2 ^ (qI).toNat))=Ap:=iY uU;have Dx:=eq_true (zD:0≤(ji8));have wF:=eq_true (zD:(ji8)≤(t227.length:Int));obtain⟨Rk,ahW,H⟩:=zw H;rotate_left
 all_goals (go_enter Tryz.func52,Tryz.ntmps52;go_wp2_with (first|((with_reducible refine af (f:=103) rfl ?_);refine zc (some 17) Tryz.func103 #[.slice A0 l0.length c0] (bH.calls _ (fun k_=>(P0_ k_∨w.heap.size≤k_)) _ _ _ _ _ HO0.out A4.out) ?_;rintro e w18 ⟨v228,rfl,ho0,hb⟩;refine⟨_,rfl,?_⟩;replace HO0:=zVb HO0 hb;have Ie:=am (Kd.dG (Kd.bG (ok':=fun k_=>(P0_ k_∨w.heap.size≤k_)) ho0 (fun k_ hk_=>Or.elim hk_ (fun hs_=>hs_) (fun hn_=>(.inr (Nat.le_trans (zS HB) hn_))))) (zS HB));replace HB:=zBs HB hb;clear hb ho0;obtain⟨Y5,OQ,ae9⟩:=Kd.dS Ie.out;subst ae9;have q20:((ji8):Int)≤((t227.length:Int):Int):=zD;obtain⟨aHu,ahX,_,ahY,_⟩:=info_parts info25;have Ig:t227.length≤OQ:=(Kd.aX Ie.out).2.1;have avo:Kd.F (Kd.int .u64) _ _ Y5 t227.length t227:=(Kd.Xh (base:=w.heap.size) Ie.out).2.2;have aAg:(0:Int)≤((ji8):Int):=zD;have ahZ:=Nz (P:=Tryz.prog) 88 25 .i64 Tryz.underlying88 ahX 1 ahY Y5 t227.length OQ (ji8) aAg q20;have ah0:=Kd.al8 (m:=((ji8):Int).toNat) (c:=OQ) avo (by omega) Ig;obtain⟨A20,hA20⟩:∃ A1,A1=(if OQ=((ji8):Int).toNat then Y5 else (Y5:Option Addr).map (·.add (((ji8):Int).toNat*1))):=⟨_,rfl⟩;obtain⟨c20,ak5⟩:∃ c1,c1=OQ-((ji8):Int).toNat:=⟨_,rfl⟩;have ah1:VF.length=t227.length-((ji8):Int).toNat:=(by rw[ahU.out,List.length_drop] <;> omega);rw[show (t227).drop ((ji8):Int).toNat=VF from ahU.out.symm]at ah0;replace ah0:Kd.F (Kd.int .u64) _ _ A20 VF.length VF:=(by rw[hA20];exact ah0);rw[← ah1, ← hA20, ← ak5]at ahZ;have ado:=am (show Kd.V (Kd.int .u64) 25 _ w.heap.size _ (.slice A20 VF.length c20) VF from Kd.IQ (by rw[ah1,ak5];exact Nat.sub_le_sub_right Ig _) ah0);have aAh:=am (show VF.length≤c20 from by rw[ah1,ak5];exact Nat.sub_le_sub_right Ig _);clear ah0 avo Ig ahX ahY ak5;have aHv:=am ah1;have aHw:=am hA20;clear ah1 hA20;replace q20:=eq_true q20)|((with_reducible refine dW (b := .append) (xs:=#[.const (.slice none 0 0),.tmp 29]) rfl ?_);at_builtin;refine Kd.rC (Kd.int .u64) (w0:=w) w.heap.size rfl (.const (.slice none 0 0)) (.tmp 29) 88 25 (.int .u64 0) 8 rfl Tryz.underlying88 info25 rfl (by decide) (by omega) (.slice none 0 0) ([]:List Int) VF _ _ _ (fun k_=>(w.heap.size≤k_)) (fun _=>False) rfl rfl ?aO ?aR (fun _ _ h=>h) (fun _ h=>h.elim) ?aF ?aB ?aS ?aL ?_;(case aR=>repeat (first|exact (Kd.aX ado.out).2.2|(with_reducible refine Kd.kJ ?_ _)|(with_reducible refine Kd.kM ?_ _)|(with_reducible refine Kd.ny ?_)));(case aB=>exact (zB HB));(case aF=>exact (fun k_ hk=>(Nat.le_trans (zS HB) hk)));(case aO=>exact ((Kd.G8 _ _ _ _ (fun k_=>(w.heap.size≤k_)))));(case aS=>exact (zS HB));(case aL=>have:=ao2.out;omega);intro v236 w21 ho hb hg hat;rw[← ao3.out]at ho;replace HO0:=am (Kd.iZ (Kd.oJ (zV HO0)) hg hat);replace Ie:=am (Kd.iZ (Kd.oJ (zV Ie)) hg hat);replace ado:=am (Kd.iZ (Kd.oJ (zV ado)) hg hat);replace HB:=am (hb);have adp:=am (ho);clear ho hb hg hat;obtain⟨afc,QJ,ah2⟩:=Kd.dU adp.out;subst ah2;have ao4:0≤(0:Int):=(by omega);have ao5:0<(Gj.length:Int):=zD;obtain⟨MI,e238,DY⟩:=Kd.dQ (Kd.az adp.out).2.2 0 ao4 ao5;cases e238;have aAi:(0<Gj.length)=True:=eq_true (by omega);(try rw[show ((0:Int)).toNat=0 from rfl]at DY);(try rw[Addr.add_zero']at DY);replace ao4:=eq_true ao4;replace ao5:=eq_true ao5;have q23:((ji8):Int)≤((t227.length:Int):Int):=zD;obtain⟨aHx,ah3,_,ao6,_⟩:=info_parts info25;have VG:t227.length≤OQ:=(Kd.aX Ie.out).2.1;have avp:Kd.F (Kd.int .u64) _ _ Y5 t227.length t227:=(Kd.Xh (base:=w.heap.size) Ie.out).2.2;have ah4:=Oz (P:=Tryz.prog) 88 25 .i64 Tryz.underlying88 ah3 Y5 t227.length OQ (ji8) (zD) q23 VG;have ao7:=Kd.JF (m:=((ji8):Int).toNat) avp (by omega);have ao8:Rk.length=((ji8):Int).toNat:=(by rw[ahW.out,List.length_take];omega);rw[← ahW.out]at ao7;rw[← ao8]at ah4;have ao9:=am (show Kd.V (Kd.int .u64) 25 _ w.heap.size _ (.slice Y5 Rk.length OQ) Rk from Kd.IQ (by omega) ao7);have aAj:=am (show Rk.length≤OQ from by omega);clear ao7 avp VG ah3 ao6;have aHy:=am ao8;clear ao8;replace q23:=eq_true q23)|((with_reducible refine af (f:=103) rfl ?_);refine zc (some 17) Tryz.func103 #[.slice A0 l0.length c0] (bH.calls _ (fun k_=>(P0_ k_∨w.heap.size≤k_)) _ _ _ _ _ HO0.out A4.out) ?_;rintro e w6 ⟨v228,rfl,ho0,hb⟩;refine⟨_,rfl,?_⟩;replace HO0:=zVb HO0 hb;have Ie:=am (Kd.dG (Kd.bG (ok':=fun k_=>(P0_ k_∨w.heap.size≤k_)) ho0 (fun k_ hk_=>Or.elim hk_ (fun hs_=>hs_) (fun hn_=>(.inr (Nat.le_trans (zS HB) hn_))))) (zS HB));replace HB:=zBs HB hb;clear hb ho0;obtain⟨Ao7,co7,eo7⟩:=Kd.dS Ie.out;subst eo7)))
 rotate_left;rotate_left
 ·go_loopg [8,45] k (fun kq v8 v45 w' => ∃ (lF:Bool) (J6:Int),v8=.bool lF∧v45=.int .i64 J6∧ae (eQ.l0 kq a1 Gj lF Rk (Rk.length:Int) J6=some (r1,r2,r3))∧ae (kq≤k)∧ae (Kd.R (Kd.int .u64) 25 w' w.heap.size (fun k_=>(w.heap.size≤k_)) (.slice (some MI) Gj.length QJ) Gj)∧ae (Kd.V (Kd.int .u64) 25 w' w.heap.size (fun k_=>(P0_ k_∨w.heap.size≤k_)∧some k_≠((.slice (some MI) Gj.length QJ):Value).ownBlock) (.slice Y5 Rk.length OQ) Rk)∧ae (Below w.heap.size w w'))
  case atStart=>exact⟨(((Ap) != 0)),(0),(by first|rfl|(simp;done)|(simp only[← uU] <;> (first|rfl|simp))|(simp[*];done)),z1,H,zL,⟨zR adp⟩,⟨zV ao9⟩,⟨zB HB⟩⟩
  clear H
  try clear hx2
  try clear qi2
  try clear aAk
  try clear aAl
  try clear DY
  obtain⟨lF,J6,rfl,rfl,H,HK1,jI,Y6,HB⟩:=hrel;obtain _|k1:=gk
  ·exact zz H rfl
  simp only[eQ.l0]at H;replace H:=zsd H;rcases H with⟨Me,H⟩|⟨Me,H⟩;replace H:=zid H;obtain⟨VH,H⟩:=H;replace H:=zid H;obtain⟨QC,H⟩:=H
  cases lF
  replace H:=zb0 H;obtain⟨aAm,aAn,apa,rfl,VI⟩:=zA (Kd.dQ (Kd.aX Y6.out).2.2 J6);rotate_left;replace H:=zb1 H;obtain⟨aAm,aAn,apa,rfl,VI⟩:=zA (Kd.dQ (Kd.aX Y6.out).2.2 J6);rotate_left;rotate_left
  all_goals (go_wp2)
  ·go_roundg k1
   case measure=>have:=HK1.out;omega
   case rel=>exact⟨(((rd Rk J6) != 0)),(wrap64 (J6+1)),z1,z1,H,(zH HK1),⟨zR jI⟩,⟨zV Y6⟩,⟨zB HB⟩⟩
  ·go_roundg k1
   case measure=>have:=HK1.out;omega
   case rel=>exact⟨(true),(wrap64 (J6+1)),z1,z1,H,(zH HK1),⟨zR jI⟩,⟨zV Y6⟩,⟨zB HB⟩⟩
  go_loopg [57] k1 (fun kq v57 w' => ∃ (Ez:List Int) (lm:Int),v57=.int .i64 lm∧ae (eQ.l1 kq a1 Ez lF (Gj.length:Int) lm=some (r1,r2,r3))∧ae (kq≤k1)∧ae (Kd.R (Kd.int .u64) 25 w' w.heap.size (fun k_=>(w.heap.size≤k_)) (.slice (some MI) Gj.length QJ) Ez)∧ae (Below w.heap.size w w'))
  case atStart=>exact⟨(Gj),(0),z1,H,zL,⟨zR jI⟩,⟨zB HB⟩⟩
  clear H
  try clear hx2
  try clear qi2
  try clear aAk
  try clear aAl
  try clear hx24
  try clear DY
  try clear VI
  obtain⟨Ez,lm,rfl,H,HK2,jI,HB⟩:=hrel;have DZ:=(Kd.az jI.out).1;rw[DZ]at jI
  (try simp only[DZ])
  obtain _|k2:=gk
  ·exact zz H rfl
  simp only[eQ.l1]at H;replace H:=zs H;rcases H with⟨c28,H⟩|⟨c28,H⟩;have zQ:decide (lm<(Gj.length:Int))=true:=decide_eq_true c28
  (try simp only[DZ]at zQ)
  clear c28;replace H:=zid H;obtain⟨EU,H⟩:=H;replace H:=zi H;obtain⟨c30,H⟩:=H;have ah5:decide (lm<(Ez.length:Int))=true:=decide_eq_true c30
  (try simp only[DZ]at ah5)
  clear c30;generalize VJ:(Int.tmod a1 64:Int)=Ih at H;replace H:=zit H;obtain⟨apb,aAo,H⟩:=H;generalize ah6:(shr .u64 (rd Ez lm) (Ih):Int)=afd at H;have avq:((rd Ez lm) / 2 ^ min (Ih).toNat 64)=afd:=ah6;have avr:(Ih)≤64→((rd Ez lm) / 2 ^ (Ih).toNat)=afd:=kH ah6;obtain⟨IR,Y7,H⟩:=zw H;replace H:=zs H;rcases H with⟨c35,H⟩|⟨c35,H⟩
  ·have J7:decide ((wrap64 (lm+1))<(Ez.length:Int))=true:=decide_eq_true c35
   (try simp only[DZ]at J7)
   clear c35;generalize adq:(wrap64 (lm+1):Int)=Rl at H
   (try rw[adq]at J7)
   have avs:(IntKind.i64.wrap (lm+1))=Rl:=(bW _).trans adq;replace H:=zid H;obtain⟨MJ,H⟩:=H;generalize apc:(wrap64 (63-(Ih)):Int)=ah7 at H;have avt:(IntKind.i64.wrap (63-(Ih)))=ah7:=(bW _).trans apc;replace H:=zit H;obtain⟨ah8,ah9,H⟩:=H;generalize aia:(shl .u64 (IntKind.u64.wrap ((rd IR (Rl))*2)) (ah7):Int)=ak6 at H;have avu:(IntKind.u64.wrap ((IntKind.u64.wrap ((rd IR (Rl))*2))*2 ^ min (ah7).toNat 64))=ak6:=aia;have avv:(ah7)≤64→(IntKind.u64.wrap ((IntKind.u64.wrap ((rd IR (Rl))*2))*2 ^ (ah7).toNat))=ak6:=iY aia;generalize aib:(IR.set (lm:Int).toNat (Go.bits .or .u64 (rd IR lm) (ak6)):List Int)=aAp at H;have apd:=zY aib;clear aib;have adr:0≤(lm:Int):=zD;have ads:lm<(Ez.length:Int):=zD;obtain⟨adt,e245,MK⟩:=Kd.dQ (Kd.az jI.out).2.2 lm adr ads
   obtain rfl:MI=adt:=(by injection e245)
   replace adr:=eq_true adr;replace ads:=eq_true ads;have p34:0≤(lm:Int):=zD;have q34:(lm:Int)<((Ez.length:Int):Int):=zD;obtain⟨VK,ML,Rn,aic,ape,aAq,aid⟩:=Kd.oP jI.out (by omega)
   (first|cases Rn|(injection Rn with ea_ en_ ec_;(first|subst ea_|(injection ea_ with ea_;subst ea_));subst ec_;clear en_))
   have apf:=am aic;have aAr:=am aid;clear aic ape aid
   (first|simp only[add_plain]at DY|skip)
   (first|simp only[add_plain]at MK|skip)
   obtain⟨aie,aif⟩:=Kd.iR 0 jI.out (lm:Int) p34 q34;replace p34:=eq_true p34;replace q34:=eq_true q34;have apg:=Kd.mX jI.out (lm:Int) afd
   try go_wp2_with (first|((with_reducible refine fO (t:=25) (p:=68) rfl ?_);refine ed (t:=25) (p:=68) (v:=?avw) (w1:=(wr.setCell ⟨VK,(lm:Int).toNat,none⟩ (.int .u64 afd))) ?hg ?ho ?hn ?hr ?_;(case ho=>rfl);(case hg=>rfl);(case hn=>rfl);(case hr=>first|(go_simp;done)|(go_simp;rfl));intro w43 hw;have hg:wr.grownBy w43 (some VK):=(by rw[hw];exact apg.2);have hp_:Kd.R (Kd.int .u64) 25 w43 w.heap.size (fun k_=>(w.heap.size≤k_)) (.slice (some ⟨VK,0,none⟩) Ez.length QJ) IR:=(by rw[hw,Y7.out];exact apg.1);clear apg;replace jI:=am (hp_);replace HB:=am ((by rw[hw];exact bF (HB.out) apf.out:Below w.heap.size w w43));clear hg hw hp_))
   replace jI:=am (Kd.dK jI.out);replace HB:=am (aW HB.out);have aph:0≤(lm:Int):=zD
   have api:lm<(IR.length:Int):=(by have h_:(lm:Int)<((Ez.length:Int):Int):=zD;first|(have e_:=(Kd.az jI.out).1;omega)|simpa only [Y7.out,List.length_set] using h_)
   have aAs:((lm:Int)<((Ez.length:Int):Int))=True:=eq_true (zD);obtain⟨apj,e247,D5⟩:=Kd.dQ (Kd.az jI.out).2.2 lm aph api
   obtain rfl:(⟨VK,0,none⟩:Addr)=apj:=(by injection e247)
   (first|simp only[add_plain]at D5|simp only[Oe]at D5|simp only[Addr.add,Nat.zero_add]at D5|skip)
   replace aph:=eq_true aph;replace api:=eq_true api;have apk:0≤((Rl):Int):=zD
   have apl:(Rl)<(IR.length:Int):=(by have h_:((Rl):Int)<((Ez.length:Int):Int):=zD;first|(have e_:=(Kd.az jI.out).1;omega)|simpa only [Y7.out,List.length_set] using h_)
   have aAt:(((Rl):Int)<((Ez.length:Int):Int))=True:=eq_true (zD);obtain⟨apm,e248,D6⟩:=Kd.dQ (Kd.az jI.out).2.2 (Rl) apk apl
   obtain rfl:(⟨VK,0,none⟩:Addr)=apm:=(by injection e248)
   (first|simp only[add_plain]at D6|simp only[Oe]at D6|simp only[Addr.add,Nat.zero_add]at D6|skip)
   replace apk:=eq_true apk;replace apl:=eq_true apl;have p41:0≤(lm:Int):=zD;have q41:(lm:Int)<((Ez.length:Int):Int):=zD;obtain⟨aig,aih⟩:=Kd.iR 0 jI.out (lm:Int) p41 q41;replace p41:=eq_true p41;replace q41:=eq_true q41;have apn:=Kd.NT jI.out (lm:Int) (Go.bits .or .u64 (rd IR lm) (ak6));rw[← apd.out]at apn;have avx:=am apn;clear apn;refine mM (n:=17) (S:=fun w'=>w'.cell? ⟨VK,(lm).toNat,none⟩=some (.int .u64 (rd IR lm))∧w'.cell? ⟨VK,((Rl)).toNat,none⟩=some (.int .u64 (rd IR (Rl)))) (ds := [16]) (Array.replicate 17 false) (by kernel_rfl) rfl rfl ⟨D5,D6⟩ (fun hHeld=>?_);refine gQ eQ.ama eQ.afU (fun HT_ HW_=>?_);generalize w43.drew=w44 at jI HB avx aih D5 D6 aig hHeld ⊢;refine zp HT_ 0 (some 74) ?_;refine zp HT_ 1 (some 75) ?_;refine zp HT_ 2 (some 76) ?_;refine zp HT_ 4 (some 78) ?_;refine zp HT_ 5 (some 79) ?_;refine zp HT_ 6 (some 80) ?_;refine zp HT_ 7 (some 81) ?_;refine zp HT_ 10 (some 84) ?_;refine zp HT_ 11 (some 85) ?_;refine zp HT_ 12 (some 86) ?_;refine zt HT_ HW_ 3 (some 77) hHeld ?_;refine zt HT_ HW_ 8 (some 82) hHeld ?_;refine zp HT_ 9 (some 83) ?_;refine zp HT_ 13 (some 87) ?_;refine zp HT_ 14 (some 88) ?_;refine zp HT_ 15 (some 89) ?_;refine Lh (i:=16) (N:=none) #[true,true,true,true,true,true,true,true,true,true,true,true,true,true,true,true,true] rfl rfl (AO HT_.out (by kernel_rfl)) (by decide) (fun K hK=>?_);refine xy (w1:=?_) (by rfl) rfl ?_ ?_;rotate_left
   ·go_simp
    rfl
   refine hK.out _ _ ?_;clear hK K;refine oG (iJ HT_.out (by kernel_rfl)) ?_
   try go_wp2
   (try simp only[← DZ])
   (try simp only[← VJ])
   go_roundg k2
   case measure=>have:=HK1.out;have:=HK2.out;omega
   case rel=>exact⟨(aAp),(Rl),(by first|rfl|(simp;done)|(simp only[← adq] <;> (first|rfl|simp))|(simp[*];done)),H,⟨by have:=HK1.out;have:=HK2.out;omega⟩,⟨by (try simp only[DZ]);(with_reducible repeat (first|apply Kd.cO|apply Kd.bZ|apply Kd.dK));exact avx.out⟩,⟨zB HB⟩⟩
  have J7:decide ((wrap64 (lm+1))<(Ez.length:Int))=false:=decide_eq_false c35
  (try simp only[DZ]at J7)
  clear c35;have adr:0≤(lm:Int):=zD;have ads:lm<(Ez.length:Int):=zD;obtain⟨adt,e245,MK⟩:=Kd.dQ (Kd.az jI.out).2.2 lm adr ads
  obtain rfl:MI=adt:=(by injection e245)
  replace adr:=eq_true adr;replace ads:=eq_true ads;have p34:0≤(lm:Int):=zD;have q34:(lm:Int)<((Ez.length:Int):Int):=zD;obtain⟨VK,ML,Rn,aic,ape,aAq,aid⟩:=Kd.oP jI.out (by omega)
  (first|cases Rn|(injection Rn with ea_ en_ ec_;(first|subst ea_|(injection ea_ with ea_;subst ea_));subst ec_;clear en_))
  have apf:=am aic;have aAr:=am aid;clear aic ape aid
  (first|simp only[add_plain]at MK|skip)
  obtain⟨aie,aif⟩:=Kd.iR 0 jI.out (lm:Int) p34 q34;replace p34:=eq_true p34;replace q34:=eq_true q34;have apo:=Kd.mX jI.out (lm:Int) afd;rotate_left;have zQ:decide (lm<(Gj.length:Int))=false:=decide_eq_false c28
  (try simp only[DZ]at zQ)
  clear c28;replace H:=zo H;obtain⟨avn,A48,H⟩:=H;obtain⟨rfl,rfl,rfl⟩:=zJ3 H;rotate_left
  all_goals (go_wp2_with (first|((with_reducible refine fO (t:=25) (p:=68) rfl ?_);refine ed (t:=25) (p:=68) (v:=?avy) (w1:=(wr.setCell ⟨VK,(lm:Int).toNat,none⟩ (.int .u64 afd))) ?hg ?ho ?hn ?hr ?_;(case ho=>rfl);(case hg=>rfl);(case hn=>rfl);(case hr=>first|(go_simp;done)|(go_simp;rfl));intro w47 hw;have hg:wr.grownBy w47 (some VK):=(by rw[hw];exact apo.2);have hp_:Kd.R (Kd.int .u64) 25 w47 w.heap.size (fun k_=>(w.heap.size≤k_)) (.slice (some ⟨VK,0,none⟩) Ez.length QJ) IR:=(by rw[hw,Y7.out];exact apo.1);clear apo;replace jI:=am (hp_);replace HB:=am ((by rw[hw];exact bF (HB.out) apf.out:Below w.heap.size w w47));clear hg hw hp_)|((with_reducible refine af (f:=103) rfl ?_);refine zc (some 92) Tryz.func103 #[.slice (some MI) Ez.length QJ] (bH.calls _ (fun k_=>some k_=(.slice (some MI) Ez.length QJ:Value).ownBlock) _ _ _ _ _ (Kd.R_V (Kd.jZ rfl (jI.out))) A48.out) ?_;rintro e w49 ⟨aHz,rfl,ho0,hb⟩;refine⟨_,rfl,?_⟩;have apq:=am (Kd.dG (Kd.bG (ok':=fun k_=>(P0_ k_∨w.heap.size≤k_)) ho0 (fun k_ hk_=>Or.elim hk_ (fun hs_=>(.inr (((jI.out).1 k_ hs_.symm)))) (fun hn_=>(.inr (Nat.le_trans (zS HB) hn_))))) (zS HB));replace jI:=zRb jI hb;replace HB:=zBs HB hb;clear hb ho0)))
  ·(try simp only[← DZ])
   (try simp only[← VJ])
   go_roundg k2
   case measure=>have:=HK1.out;have:=HK2.out;omega
   case rel=>exact⟨(IR),(wrap64 (lm+1)),z1,H,⟨by have:=HK1.out;have:=HK2.out;omega⟩,⟨by (try simp only[DZ]);(with_reducible repeat (first|apply Kd.cO|apply Kd.bZ|apply Kd.dK));exact jI.out⟩,⟨zB HB⟩⟩
  go_ret3
  exact⟨_,by first|exact z3|(simp only[← ui, ← qO, ← uU];exact z3)|exact z2,zV apq,zB HB⟩
 all_goals
  go_ret3
  exact⟨_,z2,Kd.Ah _ _ _ _ _,zB HB⟩
def lM.l0:Nat→List Int→List (List Int)→Int→Int→Option (List Int)
  | 0,_,_,_,_=>none
  | k+1,x3,x7,x8,x9=>if x9<x8 then (if 0≤x9 then (if x9<(x7.length:Int) then ((bH.f k (GZ x7 x9)).bind fun apr=>((dJ.f k x3 apr).bind fun aps=>(lM.l0 k aps x7 x8 (wrap64 (x9+1))))) else (none)) else (none)) else (some x3)
def lM.f (k:Nat)(l0:List (List Int)):Option (List Int):=lM.l0 k (([1]:List Int)) l0 (l0.length:Int) 0
theorem lM.calls (k:Nat)(P0_:Nat→Prop)(A0:Option Addr)(c0:Nat)(l0:List (List Int))(r:List Int)(w:World)(hs0:Kd.V (Kd.slice 25 (Kd.int .u64)) 88 w w.heap.size (fun k_=>P0_ k_) (.slice A0 l0.length c0) l0)(h:lM.f k l0=some r) :
    Calls Tryz.prog 53 #[.slice A0 l0.length c0] w fun e w' => ∃ v0_:Value,e=.returned (v0_)∧Kd.V (Kd.int .u64) 25 w' w.heap.size (fun k_=>(P0_ k_∨w.heap.size≤k_)) v0_ r∧Below w.heap.size w w':=by
 have HO0:=am (show Kd.V (Kd.slice 25 (Kd.int .u64)) 88 w w.heap.size (fun k_=>(P0_ k_∨w.heap.size≤k_)) (.slice A0 l0.length c0) l0 from Kd.bG hs0 (fun k_ hk => .inl hk));have HB:=am (Below.refl w.heap.size w);have H:=am h;unfold lM.f at H;clear h;generalize aii:(([1]:List Int):List Int)=aAu at H;have aij:=zY aii;clear aii
 go_enter Tryz.func53,Tryz.ntmps53
 go_wp2_with (first|((with_reducible refine aA (N:=6) rfl ?_);refine Kd.Bq (Kd.int .u64) _ 25 ?hg (N:=6) ?hd (xs:=([1]:List Int)) (inner := [.int .u64 1]) (ok:=fun _=>True) (okp:=fun _=>True) ?hr ?hp (fun _ hk=>hk) trivial (Below.refl _ _) (Nat.le_refl _) (by simp) ?_;(case hd=>rfl);(case hg=>rfl);(case hr=>first|(go_simp;done)|(go_simp;rfl));(case hp=>exact (jM.one (show Kd.M (Kd.int .u64) _ _ _ 1 [.int .u64 1] from rfl) (jM.none _ _)));intro aHA w2 ho3 hb hg_ jO;clear hg_ jO;(first|rw[← aij.out]at ho3|(simp only[Int.reduceToNat]at ho3;rw[← aij.out]at ho3));replace HO0:=am (Kd.jl (zV HO0) (Kd.fP ho3) hb);have apt:=am (Kd.dZ (Kd.oQ (M:=fun k_=>(w.heap.size≤k_)) ho3 (zS HB) (fun k_ h_=>h_)) (zS HB));replace HB:=zBs HB hb;clear hb ho3))
 go_loopg [3,9] k (fun kq v3 v9 w' => ∃ (iy:List Int) (tH:Int),v9=.int .i64 tH∧ae (lM.l0 kq iy l0 (l0.length:Int) tH=some r)∧ae (kq≤k)∧ae (Kd.V (Kd.int .u64) 25 w' w.heap.size (fun k_=>(P0_ k_∨w.heap.size≤k_)) v3 iy)∧ae (Kd.V (Kd.slice 25 (Kd.int .u64)) 88 w' w.heap.size (fun k_=>(P0_ k_∨w.heap.size≤k_)) (.slice A0 l0.length c0) l0)∧ae (Below w.heap.size w w'))
 case atStart=>exact⟨(aAu),(0),z1,H,zL,⟨Kd.bG (Kd.R_V (zR apt)) (fun k_ hk=>by exact (.inr (hk.1)))⟩,⟨by (with_reducible repeat (first|apply Kd.je|apply Kd.jh|apply Kd.jb));exact Kd.bG HO0.out (fun _ hk=>hk.1)⟩,⟨zB HB⟩⟩
 clear H;obtain⟨iy,tH,rfl,H,HK1,qx,jI,HB⟩:=hrel;obtain _|k1:=gk
 ·exact zz H rfl
 simp only[lM.l0]at H;replace H:=zsd H;rcases H with⟨jV,H⟩|⟨jV,H⟩;replace H:=zid H;obtain⟨qN,H⟩:=H;replace H:=zid H;obtain⟨qV,H⟩:=H;replace H:=zo H;obtain⟨apr,A7,H⟩:=H;replace H:=zo H;obtain⟨aps,A8,H⟩:=H;have ak7:0≤(tH:Int):=zD;have ak8:tH<(l0.length:Int):=zD;obtain⟨aAv,aik,ail,aAw,adu,VL,VM⟩:=alO (Kd.aX jI.out).2.2 tH ak7 ak8
 cases aAw
 obtain⟨aAx,aim,ain,aax⟩:=Kd.amb jI.out [] tH ak7 (by first|exact ak8|exact zD|(have e_:=(Kd.aX jI.out).1;omega));obtain⟨apu,apv,rfl,MM,MN⟩:=Kd.Hq ain;have Ii:=aax 0 _ rfl;rw[Nat.add_zero,show ((Kd.slice 25 (Kd.int .u64))).sz=1 from rfl,Nat.mul_one]at Ii;replace Ii:=Option.some.inj (Ii.symm.trans adu)
 injection Ii with avz aAy avA
 rw[avz]at MN;rw[avA]at MM;have D7:=am (show Kd.V (Kd.int .u64) 25 _ w.heap.size _ _ (GZ l0 tH) from Kd.IQ MM MN);clear avz aAy avA MN MM;clear aax aim;have Ij:=am VM;have apw:=am VL;clear VM VL;replace ak7:=eq_true ak7;replace ak8:=eq_true ak8;rotate_left;obtain rfl:=Option.some.inj H.out;rotate_left
 all_goals (go_wp2_with (first|((with_reducible refine af (f:=103) rfl ?_);refine zc (some 15) Tryz.func103 #[.slice aik (GZ l0 tH).length ail] (bH.calls _ (fun k_=>(P0_ k_∨w.heap.size≤k_)) _ _ _ _ _ D7.out A7.out) ?_;rintro e w9 ⟨aHB,rfl,ho0,hb⟩;refine⟨_,rfl,?_⟩;replace qx:=zVb qx hb;replace jI:=zVb jI hb;replace D7:=zVb D7 hb;have VN:=am (Kd.dG (Kd.bG (ok':=fun k_=>(P0_ k_∨w.heap.size≤k_)) ho0 (fun k_ hk_=>Or.elim hk_ (fun hs_=>hs_) (fun hn_=>(.inr (Nat.le_trans (zS HB) hn_))))) (zS HB));replace Ij:=am (Kd.ku (zC Ij.out) hb);replace HB:=zBs HB hb;clear hb ho0;obtain⟨aoZ,ak4,afa⟩:=Kd.dS qx.out;subst afa;obtain⟨Xm,VC,VD⟩:=Kd.dS VN.out;subst VD)|((with_reducible refine af (f:=107) rfl ?_);refine zc (some 16) Tryz.func107 #[.slice aoZ iy.length ak4,.slice Xm apr.length VC] (dJ.calls _ _ _ _ _ _ _ _ _ (zC ((Kd.aX qx.out).2.2)) ((Kd.aX qx.out).2.1) (zC ((Kd.aX VN.out).2.2)) ((Kd.aX VN.out).2.1) A8.out) ?_;rintro e w12 ⟨aHC,rfl,ho0,hb⟩;refine⟨_,rfl,?_⟩;replace qx:=zVb qx hb;replace jI:=zVb jI hb;replace D7:=zVb D7 hb;replace VN:=zVb VN hb;have apx:=am (Kd.dG (Kd.bG (ok':=fun k_=>(P0_ k_∨w.heap.size≤k_)) ho0 (fun k_ hk_=>(.inr (Nat.le_trans (zS HB) hk_)))) (zS HB));replace Ij:=am (Kd.ku (zC Ij.out) hb);replace HB:=zBs HB hb;clear hb ho0)))
 ·go_roundg k1
  case measure=>have:=HK1.out;omega
  case rel=>exact⟨(aps),(wrap64 (tH+1)),z1,H,(zH HK1),⟨zV apx⟩,⟨zV jI⟩,⟨zB HB⟩⟩
 go_ret
 exact⟨_,z2,zV qx,zB HB⟩
end Go.Proofs.Yy.PTx
end
