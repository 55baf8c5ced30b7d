/- Part 14 of what the proof needs. -/
import Derived.Test.YtpfnkbnepcchgaaGreatDoorKTEAM
set_option linter.unusedSimpArgs false
set_option linter.unusedVariables false
section
set_option maxHeartbeats 16000000
set_option maxRecDepth 200000
namespace Go.Proofs.Yy.PTx
open Go.RowKit Go.Proofs.Yw.PrintWords Go.Proofs.Yw.PrintLast Go.Proofs.Yw.PrintMore Go.Proofs.Yy.SC
theorem Ou (d N:D) (w:World) (hl0:Fx.Laid w) (h0:∀ W,Calls Tryz.prog 26 #[.agg #[.bool d.nar, .bool d.neg, .string (mkB d.ds), .int .i64 d.e]] W fun e w'=>e = .returned (.tuple #[.agg #[.bool N.nar, .bool N.neg, .string (mkB N.ds), .int .i64 N.e], .nilIface])∧Below W.heap.size W w')
    (hn:N.nar=false) (hl1:N.ds.length≤4096) (he1 : -1000000≤N.e) (he2:N.e≤1000000) (a:Int) (ha:a=(N.ds.length:Int)+N.e) (h1:0≤N.e) (h2:a≤21) :
    Calls Tryz.prog 30 #[.agg #[.bool d.nar, .bool d.neg, .string (mkB d.ds), .int .i64 d.e]] w fun e w'=>uP N w e w':=by
  rcases Bool.eq_false_or_eq_true N.neg with hneg|hneg
  all_goals
   have hD:JZ w.heap.size d (w.alloc (.cells #[.bool d.nar, .bool d.neg, .string (mkB d.ds), .int .i64 d.e] 23)):=heap_alloc_new w _
   have HD:=am hD
   have hsz:=aY N.ds
   have haw:wrap64 (((mkB N.ds).size:Int)+N.e)=a:=by rw [hsz, ← ha];exact jb (by omega) (by omega)
   have aj6:IntKind.i64.wrap (((mkB N.ds).size:Int)+N.e)=a:=(bI _).trans haw
   have HL0:=am hl0
   have HLN:=am hl1
   have HSZ:=am hsz
   have HN:=am hn
   have HNEG:=am hneg
   have q1:decide (0≤N.e)=true:=decide_eq_true h1
   have q2:decide (a≤21)=true:=decide_eq_true h2
   have HX0:ae (0≤N.e):=⟨h1⟩
   have HX1:ae (N.e≤1000):=⟨by omega⟩
   have HX:ae (N.e.toNat≤1000):=⟨by omega⟩
   have HTK:=HX
   have HDR:=HX
   have HXS:=HX
   have HYS:=HX
   obtain ⟨sg,hsg⟩:∃ sg:List UInt8,(if N.neg=true then [45] else [])=sg:=⟨_,rfl⟩
   have HTX:ae (qp N=sg ++ (N.ds ++ List.replicate N.e.toNat 48)):=⟨by
     unfold qp
     rw [if_neg (by rw [hn];decide),hsg]
     simp only [← ha,Bool.false_eq_true,if_false,if_true]
     rw [if_pos ⟨h1,h2⟩]⟩
   rw [hneg] at hsg
   simp only [Bool.false_eq_true,if_false,if_true] at hsg
   subst hsg
   rw [hn,hneg] at h0
   clear hD hn hneg hl1 he1 he2 ha hsz hl0
   go_enter Tryz.func30,Tryz.ntmps30
   go_upto_region 9 with (first|(go_at_call 26;refine (h0 _).mono ?_;rintro e w1 ⟨rfl,hb⟩;have hv1:=iq HD.out hb (by simp);obtain ⟨c0,c1,c2,c3,f0,f1,f2,f3,hlt⟩:=aC hv1;have ht0:=mW N hv1 (((Below.refl _ w).alloc (Nat.le_refl _) _).trans (hb.mono (by simp))) HL0.out;unfold chain at ht0;rw [HN.out,HNEG.out] at ht0;have HT:=am ht0;obtain ⟨k0,k1,k2,k3,g0,g1,g2,g3,hlt2⟩:=aC HT.out.var;rw [HN.out] at k0;rw [HNEG.out] at k1;clear hb hv1 ht0)|(go_at_call 67;refine (pz (tsH HT) HL0.out 45 _ rfl (by simp)).mono ?_;rintro e w2 ⟨rfl,ht⟩;have HT:=am ht;obtain ⟨k0,k1,k2,k3,g0,g1,g2,g3,hlt2⟩:=aC HT.out.var;clear ht)|(go_at_call 68;refine (mQ (tsH HT) HL0.out _ (by have hq:=HLN.out;have hq2:=HSZ.out;have hq3:=HXS.out;have hq4:=HYS.out;have hq7:=HX.out;have hq8:(⟨#[46]⟩:ByteArray).size=1:=rfl;have hq9:(⟨#[48,46]⟩:ByteArray).size=2:=rfl;have hq0:(⟨#[101]⟩:ByteArray).size=1:=rfl;simp only [List.length_append,List.length_nil,List.length_cons,ByteArray.size_append,mP,og,nV];omega)).mono ?_;rintro e w3 ⟨rfl,ht⟩;have HT:=am ht;obtain ⟨k0,k1,k2,k3,g0,g1,g2,g3,hlt2⟩:=aC HT.out.var;clear ht)|(go_at_call 69;refine (kZ (tsH HT) _ HX0.out HX1.out).mono ?_;rintro e w4 ⟨rfl,ht⟩;have HT:=am ht;obtain ⟨k0,k1,k2,k3,g0,g1,g2,g3,hlt2⟩:=aC HT.out.var;clear ht)|(go_at_call 70;refine (pI (tsH HT) _ HX0.out HX1.out).mono ?_;rintro e w4 ⟨rfl,ht⟩;have HT:=am ht;obtain ⟨k0,k1,k2,k3,g0,g1,g2,g3,hlt2⟩:=aC HT.out.var;clear ht)|(go_at_call 71;refine (kX (tsH HT)).mono ?_;rintro e w5 ⟨rfl,hb5⟩;have HB5:=am hb5;clear hb5))
   try (obtain ⟨W,hW⟩:∃ W,W=((((w1.setCell ⟨w.heap.size,0,none⟩ (.bool false)).setCell ⟨w.heap.size,1,none⟩ (.bool false)).setCell ⟨w.heap.size,2,none⟩ (.string (mkB N.ds))).setCell ⟨w.heap.size,3,none⟩ (.int .i64 N.e)).alloc (.cells #[.pointer none, .slice none 0 0] 111):=⟨_,rfl⟩;rw [← hW] at HT k0 k1 k2 k3 g0 g1 g2 g3 hlt2 ⊢;clear hW)
   clear c0 c1 c2 c3 f0 f1 f2 f3
   go_wp2_with (first|(go_at_call 26;refine (h0 _).mono ?_;rintro e w1 ⟨rfl,hb⟩;have hv1:=iq HD.out hb (by simp);obtain ⟨c0,c1,c2,c3,f0,f1,f2,f3,hlt⟩:=aC hv1;have ht0:=mW N hv1 (((Below.refl _ w).alloc (Nat.le_refl _) _).trans (hb.mono (by simp))) HL0.out;unfold chain at ht0;rw [HN.out,HNEG.out] at ht0;have HT:=am ht0;obtain ⟨k0,k1,k2,k3,g0,g1,g2,g3,hlt2⟩:=aC HT.out.var;rw [HN.out] at k0;rw [HNEG.out] at k1;clear hb hv1 ht0)|(go_at_call 67;refine (pz (tsH HT) HL0.out 45 _ rfl (by simp)).mono ?_;rintro e w2 ⟨rfl,ht⟩;have HT:=am ht;obtain ⟨k0,k1,k2,k3,g0,g1,g2,g3,hlt2⟩:=aC HT.out.var;clear ht)|(go_at_call 68;refine (mQ (tsH HT) HL0.out _ (by have hq:=HLN.out;have hq2:=HSZ.out;have hq3:=HXS.out;have hq4:=HYS.out;have hq7:=HX.out;have hq8:(⟨#[46]⟩:ByteArray).size=1:=rfl;have hq9:(⟨#[48,46]⟩:ByteArray).size=2:=rfl;have hq0:(⟨#[101]⟩:ByteArray).size=1:=rfl;simp only [List.length_append,List.length_nil,List.length_cons,ByteArray.size_append,mP,og,nV];omega)).mono ?_;rintro e w3 ⟨rfl,ht⟩;have HT:=am ht;obtain ⟨k0,k1,k2,k3,g0,g1,g2,g3,hlt2⟩:=aC HT.out.var;clear ht)|(go_at_call 69;refine (kZ (tsH HT) _ HX0.out HX1.out).mono ?_;rintro e w4 ⟨rfl,ht⟩;have HT:=am ht;obtain ⟨k0,k1,k2,k3,g0,g1,g2,g3,hlt2⟩:=aC HT.out.var;clear ht)|(go_at_call 70;refine (pI (tsH HT) _ HX0.out HX1.out).mono ?_;rintro e w4 ⟨rfl,ht⟩;have HT:=am ht;obtain ⟨k0,k1,k2,k3,g0,g1,g2,g3,hlt2⟩:=aC HT.out.var;clear ht)|(go_at_call 71;refine (kX (tsH HT)).mono ?_;rintro e w5 ⟨rfl,hb5⟩;have HB5:=am hb5;clear hb5))
   all_goals go_ret2
   all_goals
     unfold uP
     rw [HTX.out]
     refine ⟨?_,HB5.out⟩
     refine congrArg (fun x=>Ending.returned (.tuple #[.string x, .nilIface])) ?_
     have e46:(⟨#[46]⟩:ByteArray)=mkB [46]:=rfl
     have SK:(⟨#[101]⟩:ByteArray)=mkB [101]:=rfl
     have zI:(⟨#[48,46]⟩:ByteArray)=mkB [48,46]:=rfl
     simp only [HTK.out,HDR.out,e46,SK,zI,fO,qF,List.nil_append,List.append_assoc,List.cons_append,List.append_nil]
theorem Oc (d N:D) (w:World) (hl0:Fx.Laid w) (h0:∀ W,Calls Tryz.prog 26 #[.agg #[.bool d.nar, .bool d.neg, .string (mkB d.ds), .int .i64 d.e]] W fun e w'=>e = .returned (.tuple #[.agg #[.bool N.nar, .bool N.neg, .string (mkB N.ds), .int .i64 N.e], .nilIface])∧Below W.heap.size W w')
    (hn:N.nar=false) (hl1:N.ds.length≤4096) (he1 : -1000000≤N.e) (he2:N.e≤1000000) (a:Int) (ha:a=(N.ds.length:Int)+N.e) (h1:N.e<0) (h2:1≤a) (h3:a≤21) :
    Calls Tryz.prog 30 #[.agg #[.bool d.nar, .bool d.neg, .string (mkB d.ds), .int .i64 d.e]] w fun e w'=>uP N w e w':=by
  rcases Bool.eq_false_or_eq_true N.neg with hneg|hneg
  all_goals
   have hD:JZ w.heap.size d (w.alloc (.cells #[.bool d.nar, .bool d.neg, .string (mkB d.ds), .int .i64 d.e] 23)):=heap_alloc_new w _
   have HD:=am hD
   have hsz:=aY N.ds
   have haw:wrap64 (((mkB N.ds).size:Int)+N.e)=a:=by rw [hsz, ← ha];exact jb (by omega) (by omega)
   have aj6:IntKind.i64.wrap (((mkB N.ds).size:Int)+N.e)=a:=(bI _).trans haw
   have HL0:=am hl0
   have HLN:=am hl1
   have HSZ:=am hsz
   have HN:=am hn
   have HNEG:=am hneg
   have q1:decide (0≤N.e)=false:=decide_eq_false (by omega)
   have q2:decide (1≤a)=true:=decide_eq_true h2
   have q3:decide (a≤21)=true:=decide_eq_true h3
   have p1:=eq_true (show (0:Int)≤a by omega)
   have p2:=eq_true (show a≤((mkB N.ds).size:Int) by rw [hsz];omega)
   have HX:ae (0≤(1:Nat)):=⟨by omega⟩
   have HX0:=HX
   have HX1:=HX
   have HTK:ae ((mkB N.ds).extract 0 a.toNat=mkB (N.ds.take a.toNat)):=⟨qH _ _ (by omega)⟩
   have HDR:ae ((mkB N.ds).extract a.toNat (mkB N.ds).size=mkB (N.ds.drop a.toNat)):=⟨qC _ _⟩
   obtain ⟨X,hX⟩:∃ X,(mkB N.ds).extract 0 a.toNat=X:=⟨_,rfl⟩
   obtain ⟨Y,hY⟩:∃ Y,(mkB N.ds).extract a.toNat (mkB N.ds).size=Y:=⟨_,rfl⟩
   have HXS:ae (X.size≤(mkB N.ds).size):=⟨by rw [← hX];exact ET _ _ _⟩
   have HYS:ae (Y.size≤(mkB N.ds).size):=⟨by rw [← hY];exact ET _ _ _⟩
   rw [hX] at HTK
   rw [hY] at HDR
   have y1:(9223372036854775807<X.size+1)=False:=eq_false (by have hq:=HLN.out;have hq2:=HSZ.out;have hq3:=HXS.out;have hq4:=HYS.out;have hq7:=HX.out;have hq8:(⟨#[46]⟩:ByteArray).size=1:=rfl;have hq9:(⟨#[48,46]⟩:ByteArray).size=2:=rfl;have hq0:(⟨#[101]⟩:ByteArray).size=1:=rfl;omega)
   have y2:(9223372036854775807<X.size+1+Y.size)=False:=eq_false (by have hq:=HLN.out;have hq2:=HSZ.out;have hq3:=HXS.out;have hq4:=HYS.out;have hq7:=HX.out;have hq8:(⟨#[46]⟩:ByteArray).size=1:=rfl;have hq9:(⟨#[48,46]⟩:ByteArray).size=2:=rfl;have hq0:(⟨#[101]⟩:ByteArray).size=1:=rfl;omega)
   obtain ⟨sg,hsg⟩:∃ sg:List UInt8,(if N.neg=true then [45] else [])=sg:=⟨_,rfl⟩
   have HTX:ae (qp N=sg ++ (N.ds.take a.toNat ++ [46] ++ N.ds.drop a.toNat)):=⟨by
     unfold qp
     rw [if_neg (by rw [hn];decide),hsg]
     simp only [← ha,Bool.false_eq_true,if_false,if_true]
     rw [if_neg (by omega),if_pos ⟨h2,h3⟩]⟩
   rw [hneg] at hsg
   simp only [Bool.false_eq_true,if_false,if_true] at hsg
   subst hsg
   rw [hn,hneg] at h0
   clear hD hn hneg hl1 he1 he2 ha hsz hl0
   go_enter Tryz.func30,Tryz.ntmps30
   go_upto_region 9 with (first|(go_at_call 26;refine (h0 _).mono ?_;rintro e w1 ⟨rfl,hb⟩;have hv1:=iq HD.out hb (by simp);obtain ⟨c0,c1,c2,c3,f0,f1,f2,f3,hlt⟩:=aC hv1;have ht0:=mW N hv1 (((Below.refl _ w).alloc (Nat.le_refl _) _).trans (hb.mono (by simp))) HL0.out;unfold chain at ht0;rw [HN.out,HNEG.out] at ht0;have HT:=am ht0;obtain ⟨k0,k1,k2,k3,g0,g1,g2,g3,hlt2⟩:=aC HT.out.var;rw [HN.out] at k0;rw [HNEG.out] at k1;clear hb hv1 ht0)|(go_at_call 67;refine (pz (tsH HT) HL0.out 45 _ rfl (by simp)).mono ?_;rintro e w2 ⟨rfl,ht⟩;have HT:=am ht;obtain ⟨k0,k1,k2,k3,g0,g1,g2,g3,hlt2⟩:=aC HT.out.var;clear ht)|(go_at_call 68;refine (mQ (tsH HT) HL0.out _ (by have hq:=HLN.out;have hq2:=HSZ.out;have hq3:=HXS.out;have hq4:=HYS.out;have hq7:=HX.out;have hq8:(⟨#[46]⟩:ByteArray).size=1:=rfl;have hq9:(⟨#[48,46]⟩:ByteArray).size=2:=rfl;have hq0:(⟨#[101]⟩:ByteArray).size=1:=rfl;simp only [List.length_append,List.length_nil,List.length_cons,ByteArray.size_append,mP,og,nV];omega)).mono ?_;rintro e w3 ⟨rfl,ht⟩;have HT:=am ht;obtain ⟨k0,k1,k2,k3,g0,g1,g2,g3,hlt2⟩:=aC HT.out.var;clear ht)|(go_at_call 69;refine (kZ (tsH HT) _ HX0.out HX1.out).mono ?_;rintro e w4 ⟨rfl,ht⟩;have HT:=am ht;obtain ⟨k0,k1,k2,k3,g0,g1,g2,g3,hlt2⟩:=aC HT.out.var;clear ht)|(go_at_call 70;refine (pI (tsH HT) _ HX0.out HX1.out).mono ?_;rintro e w4 ⟨rfl,ht⟩;have HT:=am ht;obtain ⟨k0,k1,k2,k3,g0,g1,g2,g3,hlt2⟩:=aC HT.out.var;clear ht)|(go_at_call 71;refine (kX (tsH HT)).mono ?_;rintro e w5 ⟨rfl,hb5⟩;have HB5:=am hb5;clear hb5))
   try (obtain ⟨W,hW⟩:∃ W,W=((((w1.setCell ⟨w.heap.size,0,none⟩ (.bool false)).setCell ⟨w.heap.size,1,none⟩ (.bool false)).setCell ⟨w.heap.size,2,none⟩ (.string (mkB N.ds))).setCell ⟨w.heap.size,3,none⟩ (.int .i64 N.e)).alloc (.cells #[.pointer none, .slice none 0 0] 111):=⟨_,rfl⟩;rw [← hW] at HT k0 k1 k2 k3 g0 g1 g2 g3 hlt2 ⊢;clear hW)
   clear c0 c1 c2 c3 f0 f1 f2 f3
   go_wp2_with (first|(go_at_call 26;refine (h0 _).mono ?_;rintro e w1 ⟨rfl,hb⟩;have hv1:=iq HD.out hb (by simp);obtain ⟨c0,c1,c2,c3,f0,f1,f2,f3,hlt⟩:=aC hv1;have ht0:=mW N hv1 (((Below.refl _ w).alloc (Nat.le_refl _) _).trans (hb.mono (by simp))) HL0.out;unfold chain at ht0;rw [HN.out,HNEG.out] at ht0;have HT:=am ht0;obtain ⟨k0,k1,k2,k3,g0,g1,g2,g3,hlt2⟩:=aC HT.out.var;rw [HN.out] at k0;rw [HNEG.out] at k1;clear hb hv1 ht0)|(go_at_call 67;refine (pz (tsH HT) HL0.out 45 _ rfl (by simp)).mono ?_;rintro e w2 ⟨rfl,ht⟩;have HT:=am ht;obtain ⟨k0,k1,k2,k3,g0,g1,g2,g3,hlt2⟩:=aC HT.out.var;clear ht)|(go_at_call 68;refine (mQ (tsH HT) HL0.out _ (by have hq:=HLN.out;have hq2:=HSZ.out;have hq3:=HXS.out;have hq4:=HYS.out;have hq7:=HX.out;have hq8:(⟨#[46]⟩:ByteArray).size=1:=rfl;have hq9:(⟨#[48,46]⟩:ByteArray).size=2:=rfl;have hq0:(⟨#[101]⟩:ByteArray).size=1:=rfl;simp only [List.length_append,List.length_nil,List.length_cons,ByteArray.size_append,mP,og,nV];omega)).mono ?_;rintro e w3 ⟨rfl,ht⟩;have HT:=am ht;obtain ⟨k0,k1,k2,k3,g0,g1,g2,g3,hlt2⟩:=aC HT.out.var;clear ht)|(go_at_call 69;refine (kZ (tsH HT) _ HX0.out HX1.out).mono ?_;rintro e w4 ⟨rfl,ht⟩;have HT:=am ht;obtain ⟨k0,k1,k2,k3,g0,g1,g2,g3,hlt2⟩:=aC HT.out.var;clear ht)|(go_at_call 70;refine (pI (tsH HT) _ HX0.out HX1.out).mono ?_;rintro e w4 ⟨rfl,ht⟩;have HT:=am ht;obtain ⟨k0,k1,k2,k3,g0,g1,g2,g3,hlt2⟩:=aC HT.out.var;clear ht)|(go_at_call 71;refine (kX (tsH HT)).mono ?_;rintro e w5 ⟨rfl,hb5⟩;have HB5:=am hb5;clear hb5))
   go_still_tail 10,(by kernel_rfl)
   go_wp2_with (first|(go_at_call 26;refine (h0 _).mono ?_;rintro e w1 ⟨rfl,hb⟩;have hv1:=iq HD.out hb (by simp);obtain ⟨c0,c1,c2,c3,f0,f1,f2,f3,hlt⟩:=aC hv1;have ht0:=mW N hv1 (((Below.refl _ w).alloc (Nat.le_refl _) _).trans (hb.mono (by simp))) HL0.out;unfold chain at ht0;rw [HN.out,HNEG.out] at ht0;have HT:=am ht0;obtain ⟨k0,k1,k2,k3,g0,g1,g2,g3,hlt2⟩:=aC HT.out.var;rw [HN.out] at k0;rw [HNEG.out] at k1;clear hb hv1 ht0)|(go_at_call 67;refine (pz (tsH HT) HL0.out 45 _ rfl (by simp)).mono ?_;rintro e w2 ⟨rfl,ht⟩;have HT:=am ht;obtain ⟨k0,k1,k2,k3,g0,g1,g2,g3,hlt2⟩:=aC HT.out.var;clear ht)|(go_at_call 68;refine (mQ (tsH HT) HL0.out _ (by have hq:=HLN.out;have hq2:=HSZ.out;have hq3:=HXS.out;have hq4:=HYS.out;have hq7:=HX.out;have hq8:(⟨#[46]⟩:ByteArray).size=1:=rfl;have hq9:(⟨#[48,46]⟩:ByteArray).size=2:=rfl;have hq0:(⟨#[101]⟩:ByteArray).size=1:=rfl;simp only [List.length_append,List.length_nil,List.length_cons,ByteArray.size_append,mP,og,nV];omega)).mono ?_;rintro e w3 ⟨rfl,ht⟩;have HT:=am ht;obtain ⟨k0,k1,k2,k3,g0,g1,g2,g3,hlt2⟩:=aC HT.out.var;clear ht)|(go_at_call 69;refine (kZ (tsH HT) _ HX0.out HX1.out).mono ?_;rintro e w4 ⟨rfl,ht⟩;have HT:=am ht;obtain ⟨k0,k1,k2,k3,g0,g1,g2,g3,hlt2⟩:=aC HT.out.var;clear ht)|(go_at_call 70;refine (pI (tsH HT) _ HX0.out HX1.out).mono ?_;rintro e w4 ⟨rfl,ht⟩;have HT:=am ht;obtain ⟨k0,k1,k2,k3,g0,g1,g2,g3,hlt2⟩:=aC HT.out.var;clear ht)|(go_at_call 71;refine (kX (tsH HT)).mono ?_;rintro e w5 ⟨rfl,hb5⟩;have HB5:=am hb5;clear hb5))
   all_goals go_ret2
   all_goals
     unfold uP
     rw [HTX.out]
     refine ⟨?_,HB5.out⟩
     refine congrArg (fun x=>Ending.returned (.tuple #[.string x, .nilIface])) ?_
     have e46:(⟨#[46]⟩:ByteArray)=mkB [46]:=rfl
     have SK:(⟨#[101]⟩:ByteArray)=mkB [101]:=rfl
     have zI:(⟨#[48,46]⟩:ByteArray)=mkB [48,46]:=rfl
     simp only [HTK.out,HDR.out,e46,SK,zI,fO,qF,List.nil_append,List.append_assoc,List.cons_append,List.append_nil]
theorem FC (d N:D) (w:World) (hl0:Fx.Laid w) (h0:∀ W,Calls Tryz.prog 26 #[.agg #[.bool d.nar, .bool d.neg, .string (mkB d.ds), .int .i64 d.e]] W fun e w'=>e = .returned (.tuple #[.agg #[.bool N.nar, .bool N.neg, .string (mkB N.ds), .int .i64 N.e], .nilIface])∧Below W.heap.size W w')
    (hn:N.nar=false) (hl1:N.ds.length≤4096) (he1 : -1000000≤N.e) (he2:N.e≤1000000) (a:Int) (ha:a=(N.ds.length:Int)+N.e) (h1:N.e<0) (h2 : -5≤a) (h3:a≤0) :
    Calls Tryz.prog 30 #[.agg #[.bool d.nar, .bool d.neg, .string (mkB d.ds), .int .i64 d.e]] w fun e w'=>uP N w e w':=by
  rcases Bool.eq_false_or_eq_true N.neg with hneg|hneg
  all_goals
   have hD:JZ w.heap.size d (w.alloc (.cells #[.bool d.nar, .bool d.neg, .string (mkB d.ds), .int .i64 d.e] 23)):=heap_alloc_new w _
   have HD:=am hD
   have hsz:=aY N.ds
   have haw:wrap64 (((mkB N.ds).size:Int)+N.e)=a:=by rw [hsz, ← ha];exact jb (by omega) (by omega)
   have aj6:IntKind.i64.wrap (((mkB N.ds).size:Int)+N.e)=a:=(bI _).trans haw
   have HL0:=am hl0
   have HLN:=am hl1
   have HSZ:=am hsz
   have HN:=am hn
   have HNEG:=am hneg
   have q1:decide (0≤N.e)=false:=decide_eq_false (by omega)
   have q2:decide (1≤a)=false:=decide_eq_false (by omega)
   have q3:decide (-5≤a)=true:=decide_eq_true h2
   have q4:decide (a≤0)=true:=decide_eq_true h3
   have hw1:wrap64 (-a) = -a:=jb (by omega) (by omega)
   have hw2:IntKind.i64.wrap (-a) = -a:=(bI _).trans hw1
   have HX0:ae (0 ≤ -a):=⟨by omega⟩
   have HX1:ae (-a≤1000):=⟨by omega⟩
   have HX:ae ((-a).toNat≤1000):=⟨by omega⟩
   have HTK:=HX
   have HDR:=HX
   have HXS:=HX
   have HYS:=HX
   have y1:(9223372036854775807<2+(mkB (List.replicate (-a).toNat 48)).size)=False:=eq_false (by have hq:=HLN.out;have hq2:=HSZ.out;have hq3:=HXS.out;have hq4:=HYS.out;have hq7:=HX.out;have hq8:(⟨#[46]⟩:ByteArray).size=1:=rfl;have hq9:(⟨#[48,46]⟩:ByteArray).size=2:=rfl;have hq0:(⟨#[101]⟩:ByteArray).size=1:=rfl;rw [og];omega)
   have y2:(9223372036854775807<2+(mkB (List.replicate (-a).toNat 48)).size+(mkB N.ds).size)=False:=eq_false (by have hq:=HLN.out;have hq2:=HSZ.out;have hq3:=HXS.out;have hq4:=HYS.out;have hq7:=HX.out;have hq8:(⟨#[46]⟩:ByteArray).size=1:=rfl;have hq9:(⟨#[48,46]⟩:ByteArray).size=2:=rfl;have hq0:(⟨#[101]⟩:ByteArray).size=1:=rfl;rw [og];omega)
   obtain ⟨sg,hsg⟩:∃ sg:List UInt8,(if N.neg=true then [45] else [])=sg:=⟨_,rfl⟩
   have HTX:ae (qp N=sg ++ ([48,46] ++ List.replicate (-a).toNat 48 ++ N.ds)):=⟨by
     unfold qp
     rw [if_neg (by rw [hn];decide),hsg]
     simp only [← ha,Bool.false_eq_true,if_false,if_true]
     rw [if_neg (by omega),if_neg (by omega),if_pos ⟨h2,h3⟩]⟩
   rw [hneg] at hsg
   simp only [Bool.false_eq_true,if_false,if_true] at hsg
   subst hsg
   rw [hn,hneg] at h0
   clear hD hn hneg hl1 he1 he2 ha hsz hl0
   go_enter Tryz.func30,Tryz.ntmps30
   go_upto_region 9 with (first|(go_at_call 26;refine (h0 _).mono ?_;rintro e w1 ⟨rfl,hb⟩;have hv1:=iq HD.out hb (by simp);obtain ⟨c0,c1,c2,c3,f0,f1,f2,f3,hlt⟩:=aC hv1;have ht0:=mW N hv1 (((Below.refl _ w).alloc (Nat.le_refl _) _).trans (hb.mono (by simp))) HL0.out;unfold chain at ht0;rw [HN.out,HNEG.out] at ht0;have HT:=am ht0;obtain ⟨k0,k1,k2,k3,g0,g1,g2,g3,hlt2⟩:=aC HT.out.var;rw [HN.out] at k0;rw [HNEG.out] at k1;clear hb hv1 ht0)|(go_at_call 67;refine (pz (tsH HT) HL0.out 45 _ rfl (by simp)).mono ?_;rintro e w2 ⟨rfl,ht⟩;have HT:=am ht;obtain ⟨k0,k1,k2,k3,g0,g1,g2,g3,hlt2⟩:=aC HT.out.var;clear ht)|(go_at_call 68;refine (mQ (tsH HT) HL0.out _ (by have hq:=HLN.out;have hq2:=HSZ.out;have hq3:=HXS.out;have hq4:=HYS.out;have hq7:=HX.out;have hq8:(⟨#[46]⟩:ByteArray).size=1:=rfl;have hq9:(⟨#[48,46]⟩:ByteArray).size=2:=rfl;have hq0:(⟨#[101]⟩:ByteArray).size=1:=rfl;simp only [List.length_append,List.length_nil,List.length_cons,ByteArray.size_append,mP,og,nV];omega)).mono ?_;rintro e w3 ⟨rfl,ht⟩;have HT:=am ht;obtain ⟨k0,k1,k2,k3,g0,g1,g2,g3,hlt2⟩:=aC HT.out.var;clear ht)|(go_at_call 69;refine (kZ (tsH HT) _ HX0.out HX1.out).mono ?_;rintro e w4 ⟨rfl,ht⟩;have HT:=am ht;obtain ⟨k0,k1,k2,k3,g0,g1,g2,g3,hlt2⟩:=aC HT.out.var;clear ht)|(go_at_call 70;refine (pI (tsH HT) _ HX0.out HX1.out).mono ?_;rintro e w4 ⟨rfl,ht⟩;have HT:=am ht;obtain ⟨k0,k1,k2,k3,g0,g1,g2,g3,hlt2⟩:=aC HT.out.var;clear ht)|(go_at_call 71;refine (kX (tsH HT)).mono ?_;rintro e w5 ⟨rfl,hb5⟩;have HB5:=am hb5;clear hb5))
   try (obtain ⟨W,hW⟩:∃ W,W=((((w1.setCell ⟨w.heap.size,0,none⟩ (.bool false)).setCell ⟨w.heap.size,1,none⟩ (.bool false)).setCell ⟨w.heap.size,2,none⟩ (.string (mkB N.ds))).setCell ⟨w.heap.size,3,none⟩ (.int .i64 N.e)).alloc (.cells #[.pointer none, .slice none 0 0] 111):=⟨_,rfl⟩;rw [← hW] at HT k0 k1 k2 k3 g0 g1 g2 g3 hlt2 ⊢;clear hW)
   clear c0 c1 c2 c3 f0 f1 f2 f3
   go_wp2_with (first|(go_at_call 26;refine (h0 _).mono ?_;rintro e w1 ⟨rfl,hb⟩;have hv1:=iq HD.out hb (by simp);obtain ⟨c0,c1,c2,c3,f0,f1,f2,f3,hlt⟩:=aC hv1;have ht0:=mW N hv1 (((Below.refl _ w).alloc (Nat.le_refl _) _).trans (hb.mono (by simp))) HL0.out;unfold chain at ht0;rw [HN.out,HNEG.out] at ht0;have HT:=am ht0;obtain ⟨k0,k1,k2,k3,g0,g1,g2,g3,hlt2⟩:=aC HT.out.var;rw [HN.out] at k0;rw [HNEG.out] at k1;clear hb hv1 ht0)|(go_at_call 67;refine (pz (tsH HT) HL0.out 45 _ rfl (by simp)).mono ?_;rintro e w2 ⟨rfl,ht⟩;have HT:=am ht;obtain ⟨k0,k1,k2,k3,g0,g1,g2,g3,hlt2⟩:=aC HT.out.var;clear ht)|(go_at_call 68;refine (mQ (tsH HT) HL0.out _ (by have hq:=HLN.out;have hq2:=HSZ.out;have hq3:=HXS.out;have hq4:=HYS.out;have hq7:=HX.out;have hq8:(⟨#[46]⟩:ByteArray).size=1:=rfl;have hq9:(⟨#[48,46]⟩:ByteArray).size=2:=rfl;have hq0:(⟨#[101]⟩:ByteArray).size=1:=rfl;simp only [List.length_append,List.length_nil,List.length_cons,ByteArray.size_append,mP,og,nV];omega)).mono ?_;rintro e w3 ⟨rfl,ht⟩;have HT:=am ht;obtain ⟨k0,k1,k2,k3,g0,g1,g2,g3,hlt2⟩:=aC HT.out.var;clear ht)|(go_at_call 69;refine (kZ (tsH HT) _ HX0.out HX1.out).mono ?_;rintro e w4 ⟨rfl,ht⟩;have HT:=am ht;obtain ⟨k0,k1,k2,k3,g0,g1,g2,g3,hlt2⟩:=aC HT.out.var;clear ht)|(go_at_call 70;refine (pI (tsH HT) _ HX0.out HX1.out).mono ?_;rintro e w4 ⟨rfl,ht⟩;have HT:=am ht;obtain ⟨k0,k1,k2,k3,g0,g1,g2,g3,hlt2⟩:=aC HT.out.var;clear ht)|(go_at_call 71;refine (kX (tsH HT)).mono ?_;rintro e w5 ⟨rfl,hb5⟩;have HB5:=am hb5;clear hb5))
   go_region_with (first|(go_at_call 26;refine (h0 _).mono ?_;rintro e w1 ⟨rfl,hb⟩;have hv1:=iq HD.out hb (by simp);obtain ⟨c0,c1,c2,c3,f0,f1,f2,f3,hlt⟩:=aC hv1;have ht0:=mW N hv1 (((Below.refl _ w).alloc (Nat.le_refl _) _).trans (hb.mono (by simp))) HL0.out;unfold chain at ht0;rw [HN.out,HNEG.out] at ht0;have HT:=am ht0;obtain ⟨k0,k1,k2,k3,g0,g1,g2,g3,hlt2⟩:=aC HT.out.var;rw [HN.out] at k0;rw [HNEG.out] at k1;clear hb hv1 ht0)|(go_at_call 67;refine (pz (tsH HT) HL0.out 45 _ rfl (by simp)).mono ?_;rintro e w2 ⟨rfl,ht⟩;have HT:=am ht;obtain ⟨k0,k1,k2,k3,g0,g1,g2,g3,hlt2⟩:=aC HT.out.var;clear ht)|(go_at_call 68;refine (mQ (tsH HT) HL0.out _ (by have hq:=HLN.out;have hq2:=HSZ.out;have hq3:=HXS.out;have hq4:=HYS.out;have hq7:=HX.out;have hq8:(⟨#[46]⟩:ByteArray).size=1:=rfl;have hq9:(⟨#[48,46]⟩:ByteArray).size=2:=rfl;have hq0:(⟨#[101]⟩:ByteArray).size=1:=rfl;simp only [List.length_append,List.length_nil,List.length_cons,ByteArray.size_append,mP,og,nV];omega)).mono ?_;rintro e w3 ⟨rfl,ht⟩;have HT:=am ht;obtain ⟨k0,k1,k2,k3,g0,g1,g2,g3,hlt2⟩:=aC HT.out.var;clear ht)|(go_at_call 69;refine (kZ (tsH HT) _ HX0.out HX1.out).mono ?_;rintro e w4 ⟨rfl,ht⟩;have HT:=am ht;obtain ⟨k0,k1,k2,k3,g0,g1,g2,g3,hlt2⟩:=aC HT.out.var;clear ht)|(go_at_call 70;refine (pI (tsH HT) _ HX0.out HX1.out).mono ?_;rintro e w4 ⟨rfl,ht⟩;have HT:=am ht;obtain ⟨k0,k1,k2,k3,g0,g1,g2,g3,hlt2⟩:=aC HT.out.var;clear ht)|(go_at_call 71;refine (kX (tsH HT)).mono ?_;rintro e w5 ⟨rfl,hb5⟩;have HB5:=am hb5;clear hb5))
   all_goals (go_wp2_with (first|(go_at_call 26;refine (h0 _).mono ?_;rintro e w1 ⟨rfl,hb⟩;have hv1:=iq HD.out hb (by simp);obtain ⟨c0,c1,c2,c3,f0,f1,f2,f3,hlt⟩:=aC hv1;have ht0:=mW N hv1 (((Below.refl _ w).alloc (Nat.le_refl _) _).trans (hb.mono (by simp))) HL0.out;unfold chain at ht0;rw [HN.out,HNEG.out] at ht0;have HT:=am ht0;obtain ⟨k0,k1,k2,k3,g0,g1,g2,g3,hlt2⟩:=aC HT.out.var;rw [HN.out] at k0;rw [HNEG.out] at k1;clear hb hv1 ht0)|(go_at_call 67;refine (pz (tsH HT) HL0.out 45 _ rfl (by simp)).mono ?_;rintro e w2 ⟨rfl,ht⟩;have HT:=am ht;obtain ⟨k0,k1,k2,k3,g0,g1,g2,g3,hlt2⟩:=aC HT.out.var;clear ht)|(go_at_call 68;refine (mQ (tsH HT) HL0.out _ (by have hq:=HLN.out;have hq2:=HSZ.out;have hq3:=HXS.out;have hq4:=HYS.out;have hq7:=HX.out;have hq8:(⟨#[46]⟩:ByteArray).size=1:=rfl;have hq9:(⟨#[48,46]⟩:ByteArray).size=2:=rfl;have hq0:(⟨#[101]⟩:ByteArray).size=1:=rfl;simp only [List.length_append,List.length_nil,List.length_cons,ByteArray.size_append,mP,og,nV];omega)).mono ?_;rintro e w3 ⟨rfl,ht⟩;have HT:=am ht;obtain ⟨k0,k1,k2,k3,g0,g1,g2,g3,hlt2⟩:=aC HT.out.var;clear ht)|(go_at_call 69;refine (kZ (tsH HT) _ HX0.out HX1.out).mono ?_;rintro e w4 ⟨rfl,ht⟩;have HT:=am ht;obtain ⟨k0,k1,k2,k3,g0,g1,g2,g3,hlt2⟩:=aC HT.out.var;clear ht)|(go_at_call 70;refine (pI (tsH HT) _ HX0.out HX1.out).mono ?_;rintro e w4 ⟨rfl,ht⟩;have HT:=am ht;obtain ⟨k0,k1,k2,k3,g0,g1,g2,g3,hlt2⟩:=aC HT.out.var;clear ht)|(go_at_call 71;refine (kX (tsH HT)).mono ?_;rintro e w5 ⟨rfl,hb5⟩;have HB5:=am hb5;clear hb5)))
   all_goals go_ret2
   all_goals
     unfold uP
     rw [HTX.out]
     refine ⟨?_,HB5.out⟩
     refine congrArg (fun x=>Ending.returned (.tuple #[.string x, .nilIface])) ?_
     have e46:(⟨#[46]⟩:ByteArray)=mkB [46]:=rfl
     have SK:(⟨#[101]⟩:ByteArray)=mkB [101]:=rfl
     have zI:(⟨#[48,46]⟩:ByteArray)=mkB [48,46]:=rfl
     simp only [HTK.out,HDR.out,e46,SK,zI,fO,qF,List.nil_append,List.append_assoc,List.cons_append,List.append_nil]
theorem qN (d N:D) (w:World) (hl0:Fx.Laid w) (h0:∀ W,Calls Tryz.prog 26 #[.agg #[.bool d.nar, .bool d.neg, .string (mkB d.ds), .int .i64 d.e]] W fun e w'=>e = .returned (.tuple #[.agg #[.bool N.nar, .bool N.neg, .string (mkB N.ds), .int .i64 N.e], .nilIface])∧Below W.heap.size W w')
    (hn:N.nar=false) (hl1:N.ds.length≤4096) (he1 : -1000000≤N.e) (he2:N.e≤1000000) (a:Int) (ha:a=(N.ds.length:Int)+N.e) (hc:(0≤N.e∧21<a)∨(N.e<0∧21<a)∨(N.e<0∧a < -5)) (h9:1<N.ds.length) :
    Calls Tryz.prog 30 #[.agg #[.bool d.nar, .bool d.neg, .string (mkB d.ds), .int .i64 d.e]] w fun e w'=>uP N w e w':=by
  rcases Bool.eq_false_or_eq_true N.neg with hneg|hneg
  all_goals
   have hD:JZ w.heap.size d (w.alloc (.cells #[.bool d.nar, .bool d.neg, .string (mkB d.ds), .int .i64 d.e] 23)):=heap_alloc_new w _
   have HD:=am hD
   have hsz:=aY N.ds
   have haw:wrap64 (((mkB N.ds).size:Int)+N.e)=a:=by rw [hsz, ← ha];exact jb (by omega) (by omega)
   have aj6:IntKind.i64.wrap (((mkB N.ds).size:Int)+N.e)=a:=(bI _).trans haw
   have HL0:=am hl0
   have HLN:=am hl1
   have HSZ:=am hsz
   have HN:=am hn
   have HNEG:=am hneg
   rcases hc with ⟨h1,h2⟩|⟨h1,h2⟩|⟨h1,h2⟩
   have q1:decide (0≤N.e)=true:=decide_eq_true h1
   have q2:decide (a≤21)=false:=decide_eq_false (by omega)
   have q3:decide (1≤a)=true:=decide_eq_true (by omega)
   have q4:decide (-5≤a)=true:=decide_eq_true (by omega)
   have q5:decide (a≤0)=false:=decide_eq_false (by omega)
   rotate_left
   have q1:decide (0≤N.e)=false:=decide_eq_false (by omega)
   have q2:decide (a≤21)=false:=decide_eq_false (by omega)
   have q3:decide (1≤a)=true:=decide_eq_true (by omega)
   have q4:decide (-5≤a)=true:=decide_eq_true (by omega)
   have q5:decide (a≤0)=false:=decide_eq_false (by omega)
   rotate_left
   have q1:decide (0≤N.e)=false:=decide_eq_false (by omega)
   have q3:decide (1≤a)=false:=decide_eq_false (by omega)
   have q4:decide (-5≤a)=false:=decide_eq_false (by omega)
   rotate_left
   all_goals
    have q8:decide ((1:Int)<((mkB N.ds).size:Int))=true:=decide_eq_true (by rw [hsz];omega)
    have q9:decide (1<(mkB N.ds).size)=true:=decide_eq_true (by rw [hsz];omega)
    have hw1:wrap64 (a - 1)=a - 1:=jb (by omega) (by omega)
    have hw2:IntKind.i64.wrap (a - 1)=a - 1:=(bI _).trans hw1
    have HX0:ae (-9223372036854775808≤a - 1):=⟨by omega⟩
    have HX1:ae (a - 1≤9223372036854775807):=⟨by omega⟩
    have HX:ae ((Lib.itoa (a - 1)).length≤140000000000):=⟨zW _ (by omega)⟩
    have p2:=eq_true (show (1:Int)≤((mkB N.ds).size:Int) by rw [hsz];omega)
    have p3:=eq_true (show (1:Nat)≤(mkB N.ds).size by rw [hsz];omega)
    have HTK:ae ((mkB N.ds).extract 0 1=mkB (N.ds.take 1)):=⟨qH _ _ (by omega)⟩
    have HDR:ae ((mkB N.ds).extract 1 (mkB N.ds).size=mkB (N.ds.drop 1)):=⟨qC _ _⟩
    obtain ⟨X,hX⟩:∃ X,(mkB N.ds).extract 0 1=X:=⟨_,rfl⟩
    obtain ⟨Y,hY⟩:∃ Y,(mkB N.ds).extract 1 (mkB N.ds).size=Y:=⟨_,rfl⟩
    have HXS:ae (X.size≤(mkB N.ds).size):=⟨by rw [← hX];exact ET _ _ _⟩
    have HYS:ae (Y.size≤(mkB N.ds).size):=⟨by rw [← hY];exact ET _ _ _⟩
    rw [hX] at HTK
    rw [hY] at HDR
    have y1:(9223372036854775807<1+Y.size)=False:=eq_false (by have hq:=HLN.out;have hq2:=HSZ.out;have hq3:=HXS.out;have hq4:=HYS.out;have hq7:=HX.out;have hq8:(⟨#[46]⟩:ByteArray).size=1:=rfl;have hq9:(⟨#[48,46]⟩:ByteArray).size=2:=rfl;have hq0:(⟨#[101]⟩:ByteArray).size=1:=rfl;omega)
    have y2:(9223372036854775807<1+(mkB (Lib.itoa (a - 1))).size)=False:=eq_false (by have hq:=HLN.out;have hq2:=HSZ.out;have hq3:=HXS.out;have hq4:=HYS.out;have hq7:=HX.out;have hq8:(⟨#[46]⟩:ByteArray).size=1:=rfl;have hq9:(⟨#[48,46]⟩:ByteArray).size=2:=rfl;have hq0:(⟨#[101]⟩:ByteArray).size=1:=rfl;rw [nV];omega)
    obtain ⟨sg,hsg⟩:∃ sg:List UInt8,(if N.neg=true then [45] else [])=sg:=⟨_,rfl⟩
    have HTX:ae (qp N=sg ++ (N.ds.take 1 ++ ([46] ++ N.ds.drop 1) ++ [101] ++ Lib.itoa (a - 1))):=⟨by
      unfold qp
      rw [if_neg (by rw [hn];decide),hsg]
      simp only [← ha,Bool.false_eq_true,if_false,if_true]
      rw [if_neg (by omega),if_neg (by omega),if_neg (by omega),if_pos h9]⟩
    rw [hneg] at hsg
    simp only [Bool.false_eq_true,if_false,if_true] at hsg
    subst hsg
    rw [hn,hneg] at h0
    clear hD hn hneg hl1 he1 he2 ha hsz hl0
    go_enter Tryz.func30,Tryz.ntmps30
    go_upto_region 9 with (first|(go_at_call 26;refine (h0 _).mono ?_;rintro e w1 ⟨rfl,hb⟩;have hv1:=iq HD.out hb (by simp);obtain ⟨c0,c1,c2,c3,f0,f1,f2,f3,hlt⟩:=aC hv1;have ht0:=mW N hv1 (((Below.refl _ w).alloc (Nat.le_refl _) _).trans (hb.mono (by simp))) HL0.out;unfold chain at ht0;rw [HN.out,HNEG.out] at ht0;have HT:=am ht0;obtain ⟨k0,k1,k2,k3,g0,g1,g2,g3,hlt2⟩:=aC HT.out.var;rw [HN.out] at k0;rw [HNEG.out] at k1;clear hb hv1 ht0)|(go_at_call 67;refine (pz (tsH HT) HL0.out 45 _ rfl (by simp)).mono ?_;rintro e w2 ⟨rfl,ht⟩;have HT:=am ht;obtain ⟨k0,k1,k2,k3,g0,g1,g2,g3,hlt2⟩:=aC HT.out.var;clear ht)|(go_at_call 68;refine (mQ (tsH HT) HL0.out _ (by have hq:=HLN.out;have hq2:=HSZ.out;have hq3:=HXS.out;have hq4:=HYS.out;have hq7:=HX.out;have hq8:(⟨#[46]⟩:ByteArray).size=1:=rfl;have hq9:(⟨#[48,46]⟩:ByteArray).size=2:=rfl;have hq0:(⟨#[101]⟩:ByteArray).size=1:=rfl;simp only [List.length_append,List.length_nil,List.length_cons,ByteArray.size_append,mP,og,nV];omega)).mono ?_;rintro e w3 ⟨rfl,ht⟩;have HT:=am ht;obtain ⟨k0,k1,k2,k3,g0,g1,g2,g3,hlt2⟩:=aC HT.out.var;clear ht)|(go_at_call 69;refine (kZ (tsH HT) _ HX0.out HX1.out).mono ?_;rintro e w4 ⟨rfl,ht⟩;have HT:=am ht;obtain ⟨k0,k1,k2,k3,g0,g1,g2,g3,hlt2⟩:=aC HT.out.var;clear ht)|(go_at_call 70;refine (pI (tsH HT) _ HX0.out HX1.out).mono ?_;rintro e w4 ⟨rfl,ht⟩;have HT:=am ht;obtain ⟨k0,k1,k2,k3,g0,g1,g2,g3,hlt2⟩:=aC HT.out.var;clear ht)|(go_at_call 71;refine (kX (tsH HT)).mono ?_;rintro e w5 ⟨rfl,hb5⟩;have HB5:=am hb5;clear hb5))
    try (obtain ⟨W,hW⟩:∃ W,W=((((w1.setCell ⟨w.heap.size,0,none⟩ (.bool false)).setCell ⟨w.heap.size,1,none⟩ (.bool false)).setCell ⟨w.heap.size,2,none⟩ (.string (mkB N.ds))).setCell ⟨w.heap.size,3,none⟩ (.int .i64 N.e)).alloc (.cells #[.pointer none, .slice none 0 0] 111):=⟨_,rfl⟩;rw [← hW] at HT k0 k1 k2 k3 g0 g1 g2 g3 hlt2 ⊢;clear hW)
    clear c0 c1 c2 c3 f0 f1 f2 f3
    go_wp2_with (first|(go_at_call 26;refine (h0 _).mono ?_;rintro e w1 ⟨rfl,hb⟩;have hv1:=iq HD.out hb (by simp);obtain ⟨c0,c1,c2,c3,f0,f1,f2,f3,hlt⟩:=aC hv1;have ht0:=mW N hv1 (((Below.refl _ w).alloc (Nat.le_refl _) _).trans (hb.mono (by simp))) HL0.out;unfold chain at ht0;rw [HN.out,HNEG.out] at ht0;have HT:=am ht0;obtain ⟨k0,k1,k2,k3,g0,g1,g2,g3,hlt2⟩:=aC HT.out.var;rw [HN.out] at k0;rw [HNEG.out] at k1;clear hb hv1 ht0)|(go_at_call 67;refine (pz (tsH HT) HL0.out 45 _ rfl (by simp)).mono ?_;rintro e w2 ⟨rfl,ht⟩;have HT:=am ht;obtain ⟨k0,k1,k2,k3,g0,g1,g2,g3,hlt2⟩:=aC HT.out.var;clear ht)|(go_at_call 68;refine (mQ (tsH HT) HL0.out _ (by have hq:=HLN.out;have hq2:=HSZ.out;have hq3:=HXS.out;have hq4:=HYS.out;have hq7:=HX.out;have hq8:(⟨#[46]⟩:ByteArray).size=1:=rfl;have hq9:(⟨#[48,46]⟩:ByteArray).size=2:=rfl;have hq0:(⟨#[101]⟩:ByteArray).size=1:=rfl;simp only [List.length_append,List.length_nil,List.length_cons,ByteArray.size_append,mP,og,nV];omega)).mono ?_;rintro e w3 ⟨rfl,ht⟩;have HT:=am ht;obtain ⟨k0,k1,k2,k3,g0,g1,g2,g3,hlt2⟩:=aC HT.out.var;clear ht)|(go_at_call 69;refine (kZ (tsH HT) _ HX0.out HX1.out).mono ?_;rintro e w4 ⟨rfl,ht⟩;have HT:=am ht;obtain ⟨k0,k1,k2,k3,g0,g1,g2,g3,hlt2⟩:=aC HT.out.var;clear ht)|(go_at_call 70;refine (pI (tsH HT) _ HX0.out HX1.out).mono ?_;rintro e w4 ⟨rfl,ht⟩;have HT:=am ht;obtain ⟨k0,k1,k2,k3,g0,g1,g2,g3,hlt2⟩:=aC HT.out.var;clear ht)|(go_at_call 71;refine (kX (tsH HT)).mono ?_;rintro e w5 ⟨rfl,hb5⟩;have HB5:=am hb5;clear hb5))
    all_goals go_ret2
    all_goals
      unfold uP
      rw [HTX.out]
      refine ⟨?_,HB5.out⟩
      refine congrArg (fun x=>Ending.returned (.tuple #[.string x, .nilIface])) ?_
      have e46:(⟨#[46]⟩:ByteArray)=mkB [46]:=rfl
      have SK:(⟨#[101]⟩:ByteArray)=mkB [101]:=rfl
      have zI:(⟨#[48,46]⟩:ByteArray)=mkB [48,46]:=rfl
      simp only [HTK.out,HDR.out,e46,SK,zI,fO,qF,List.nil_append,List.append_assoc,List.cons_append,List.append_nil]
theorem qM (d N:D) (w:World) (hl0:Fx.Laid w) (h0:∀ W,Calls Tryz.prog 26 #[.agg #[.bool d.nar, .bool d.neg, .string (mkB d.ds), .int .i64 d.e]] W fun e w'=>e = .returned (.tuple #[.agg #[.bool N.nar, .bool N.neg, .string (mkB N.ds), .int .i64 N.e], .nilIface])∧Below W.heap.size W w')
    (hn:N.nar=false) (hl1:N.ds.length≤4096) (he1 : -1000000≤N.e) (he2:N.e≤1000000) (a:Int) (ha:a=(N.ds.length:Int)+N.e) (hc:(0≤N.e∧21<a)∨(N.e<0∧21<a)∨(N.e<0∧a < -5)) (h9:N.ds.length=1) :
    Calls Tryz.prog 30 #[.agg #[.bool d.nar, .bool d.neg, .string (mkB d.ds), .int .i64 d.e]] w fun e w'=>uP N w e w':=by
  rcases Bool.eq_false_or_eq_true N.neg with hneg|hneg
  all_goals
   have hD:JZ w.heap.size d (w.alloc (.cells #[.bool d.nar, .bool d.neg, .string (mkB d.ds), .int .i64 d.e] 23)):=heap_alloc_new w _
   have HD:=am hD
   have hsz:=aY N.ds
   have haw:wrap64 (((mkB N.ds).size:Int)+N.e)=a:=by rw [hsz, ← ha];exact jb (by omega) (by omega)
   have aj6:IntKind.i64.wrap (((mkB N.ds).size:Int)+N.e)=a:=(bI _).trans haw
   have HL0:=am hl0
   have HLN:=am hl1
   have HSZ:=am hsz
   have HN:=am hn
   have HNEG:=am hneg
   rcases hc with ⟨h1,h2⟩|⟨h1,h2⟩|⟨h1,h2⟩
   have q1:decide (0≤N.e)=true:=decide_eq_true h1
   have q2:decide (a≤21)=false:=decide_eq_false (by omega)
   have q3:decide (1≤a)=true:=decide_eq_true (by omega)
   have q4:decide (-5≤a)=true:=decide_eq_true (by omega)
   have q5:decide (a≤0)=false:=decide_eq_false (by omega)
   rotate_left
   have q1:decide (0≤N.e)=false:=decide_eq_false (by omega)
   have q2:decide (a≤21)=false:=decide_eq_false (by omega)
   have q3:decide (1≤a)=true:=decide_eq_true (by omega)
   have q4:decide (-5≤a)=true:=decide_eq_true (by omega)
   have q5:decide (a≤0)=false:=decide_eq_false (by omega)
   rotate_left
   have q1:decide (0≤N.e)=false:=decide_eq_false (by omega)
   have q3:decide (1≤a)=false:=decide_eq_false (by omega)
   have q4:decide (-5≤a)=false:=decide_eq_false (by omega)
   rotate_left
   all_goals
    have q8:decide ((1:Int)<((mkB N.ds).size:Int))=false:=decide_eq_false (by rw [hsz];omega)
    have q9:decide (1<(mkB N.ds).size)=false:=decide_eq_false (by rw [hsz];omega)
    have hw1:wrap64 (a - 1)=a - 1:=jb (by omega) (by omega)
    have hw2:IntKind.i64.wrap (a - 1)=a - 1:=(bI _).trans hw1
    have HX0:ae (-9223372036854775808≤a - 1):=⟨by omega⟩
    have HX1:ae (a - 1≤9223372036854775807):=⟨by omega⟩
    have HX:ae ((Lib.itoa (a - 1)).length≤140000000000):=⟨zW _ (by omega)⟩
    have p2:=eq_true (show (1:Int)≤((mkB N.ds).size:Int) by rw [hsz];omega)
    have p3:=eq_true (show (1:Nat)≤(mkB N.ds).size by rw [hsz];omega)
    have HTK:ae ((mkB N.ds).extract 0 1=mkB (N.ds.take 1)):=⟨qH _ _ (by omega)⟩
    have HDR:ae ((mkB N.ds).extract 1 (mkB N.ds).size=mkB (N.ds.drop 1)):=⟨qC _ _⟩
    obtain ⟨X,hX⟩:∃ X,(mkB N.ds).extract 0 1=X:=⟨_,rfl⟩
    obtain ⟨Y,hY⟩:∃ Y,(mkB N.ds).extract 1 (mkB N.ds).size=Y:=⟨_,rfl⟩
    have HXS:ae (X.size≤(mkB N.ds).size):=⟨by rw [← hX];exact ET _ _ _⟩
    have HYS:ae (Y.size≤(mkB N.ds).size):=⟨by rw [← hY];exact ET _ _ _⟩
    rw [hX] at HTK
    rw [hY] at HDR
    have y2:(9223372036854775807<1+(mkB (Lib.itoa (a - 1))).size)=False:=eq_false (by have hq:=HLN.out;have hq2:=HSZ.out;have hq3:=HXS.out;have hq4:=HYS.out;have hq7:=HX.out;have hq8:(⟨#[46]⟩:ByteArray).size=1:=rfl;have hq9:(⟨#[48,46]⟩:ByteArray).size=2:=rfl;have hq0:(⟨#[101]⟩:ByteArray).size=1:=rfl;rw [nV];omega)
    obtain ⟨sg,hsg⟩:∃ sg:List UInt8,(if N.neg=true then [45] else [])=sg:=⟨_,rfl⟩
    have HTX:ae (qp N=sg ++ (N.ds.take 1 ++ [] ++ [101] ++ Lib.itoa (a - 1))):=⟨by
      unfold qp
      rw [if_neg (by rw [hn];decide),hsg]
      simp only [← ha,Bool.false_eq_true,if_false,if_true]
      rw [if_neg (by omega),if_neg (by omega),if_neg (by omega),if_neg (by omega)]⟩
    rw [hneg] at hsg
    simp only [Bool.false_eq_true,if_false,if_true] at hsg
    subst hsg
    rw [hn,hneg] at h0
    clear hD hn hneg hl1 he1 he2 ha hsz hl0
    go_enter Tryz.func30,Tryz.ntmps30
    go_upto_region 9 with (first|(go_at_call 26;refine (h0 _).mono ?_;rintro e w1 ⟨rfl,hb⟩;have hv1:=iq HD.out hb (by simp);obtain ⟨c0,c1,c2,c3,f0,f1,f2,f3,hlt⟩:=aC hv1;have ht0:=mW N hv1 (((Below.refl _ w).alloc (Nat.le_refl _) _).trans (hb.mono (by simp))) HL0.out;unfold chain at ht0;rw [HN.out,HNEG.out] at ht0;have HT:=am ht0;obtain ⟨k0,k1,k2,k3,g0,g1,g2,g3,hlt2⟩:=aC HT.out.var;rw [HN.out] at k0;rw [HNEG.out] at k1;clear hb hv1 ht0)|(go_at_call 67;refine (pz (tsH HT) HL0.out 45 _ rfl (by simp)).mono ?_;rintro e w2 ⟨rfl,ht⟩;have HT:=am ht;obtain ⟨k0,k1,k2,k3,g0,g1,g2,g3,hlt2⟩:=aC HT.out.var;clear ht)|(go_at_call 68;refine (mQ (tsH HT) HL0.out _ (by have hq:=HLN.out;have hq2:=HSZ.out;have hq3:=HXS.out;have hq4:=HYS.out;have hq7:=HX.out;have hq8:(⟨#[46]⟩:ByteArray).size=1:=rfl;have hq9:(⟨#[48,46]⟩:ByteArray).size=2:=rfl;have hq0:(⟨#[101]⟩:ByteArray).size=1:=rfl;simp only [List.length_append,List.length_nil,List.length_cons,ByteArray.size_append,mP,og,nV];omega)).mono ?_;rintro e w3 ⟨rfl,ht⟩;have HT:=am ht;obtain ⟨k0,k1,k2,k3,g0,g1,g2,g3,hlt2⟩:=aC HT.out.var;clear ht)|(go_at_call 69;refine (kZ (tsH HT) _ HX0.out HX1.out).mono ?_;rintro e w4 ⟨rfl,ht⟩;have HT:=am ht;obtain ⟨k0,k1,k2,k3,g0,g1,g2,g3,hlt2⟩:=aC HT.out.var;clear ht)|(go_at_call 70;refine (pI (tsH HT) _ HX0.out HX1.out).mono ?_;rintro e w4 ⟨rfl,ht⟩;have HT:=am ht;obtain ⟨k0,k1,k2,k3,g0,g1,g2,g3,hlt2⟩:=aC HT.out.var;clear ht)|(go_at_call 71;refine (kX (tsH HT)).mono ?_;rintro e w5 ⟨rfl,hb5⟩;have HB5:=am hb5;clear hb5))
    try (obtain ⟨W,hW⟩:∃ W,W=((((w1.setCell ⟨w.heap.size,0,none⟩ (.bool false)).setCell ⟨w.heap.size,1,none⟩ (.bool false)).setCell ⟨w.heap.size,2,none⟩ (.string (mkB N.ds))).setCell ⟨w.heap.size,3,none⟩ (.int .i64 N.e)).alloc (.cells #[.pointer none, .slice none 0 0] 111):=⟨_,rfl⟩;rw [← hW] at HT k0 k1 k2 k3 g0 g1 g2 g3 hlt2 ⊢;clear hW)
    clear c0 c1 c2 c3 f0 f1 f2 f3
    go_wp2_with (first|(go_at_call 26;refine (h0 _).mono ?_;rintro e w1 ⟨rfl,hb⟩;have hv1:=iq HD.out hb (by simp);obtain ⟨c0,c1,c2,c3,f0,f1,f2,f3,hlt⟩:=aC hv1;have ht0:=mW N hv1 (((Below.refl _ w).alloc (Nat.le_refl _) _).trans (hb.mono (by simp))) HL0.out;unfold chain at ht0;rw [HN.out,HNEG.out] at ht0;have HT:=am ht0;obtain ⟨k0,k1,k2,k3,g0,g1,g2,g3,hlt2⟩:=aC HT.out.var;rw [HN.out] at k0;rw [HNEG.out] at k1;clear hb hv1 ht0)|(go_at_call 67;refine (pz (tsH HT) HL0.out 45 _ rfl (by simp)).mono ?_;rintro e w2 ⟨rfl,ht⟩;have HT:=am ht;obtain ⟨k0,k1,k2,k3,g0,g1,g2,g3,hlt2⟩:=aC HT.out.var;clear ht)|(go_at_call 68;refine (mQ (tsH HT) HL0.out _ (by have hq:=HLN.out;have hq2:=HSZ.out;have hq3:=HXS.out;have hq4:=HYS.out;have hq7:=HX.out;have hq8:(⟨#[46]⟩:ByteArray).size=1:=rfl;have hq9:(⟨#[48,46]⟩:ByteArray).size=2:=rfl;have hq0:(⟨#[101]⟩:ByteArray).size=1:=rfl;simp only [List.length_append,List.length_nil,List.length_cons,ByteArray.size_append,mP,og,nV];omega)).mono ?_;rintro e w3 ⟨rfl,ht⟩;have HT:=am ht;obtain ⟨k0,k1,k2,k3,g0,g1,g2,g3,hlt2⟩:=aC HT.out.var;clear ht)|(go_at_call 69;refine (kZ (tsH HT) _ HX0.out HX1.out).mono ?_;rintro e w4 ⟨rfl,ht⟩;have HT:=am ht;obtain ⟨k0,k1,k2,k3,g0,g1,g2,g3,hlt2⟩:=aC HT.out.var;clear ht)|(go_at_call 70;refine (pI (tsH HT) _ HX0.out HX1.out).mono ?_;rintro e w4 ⟨rfl,ht⟩;have HT:=am ht;obtain ⟨k0,k1,k2,k3,g0,g1,g2,g3,hlt2⟩:=aC HT.out.var;clear ht)|(go_at_call 71;refine (kX (tsH HT)).mono ?_;rintro e w5 ⟨rfl,hb5⟩;have HB5:=am hb5;clear hb5))
    all_goals go_ret2
    all_goals
      unfold uP
      rw [HTX.out]
      refine ⟨?_,HB5.out⟩
      refine congrArg (fun x=>Ending.returned (.tuple #[.string x, .nilIface])) ?_
      have e46:(⟨#[46]⟩:ByteArray)=mkB [46]:=rfl
      have SK:(⟨#[101]⟩:ByteArray)=mkB [101]:=rfl
      have zI:(⟨#[48,46]⟩:ByteArray)=mkB [48,46]:=rfl
      simp only [HTK.out,HDR.out,e46,SK,zI,fO,qF,List.nil_append,List.append_assoc,List.cons_append,List.append_nil]
end Go.Proofs.Yy.PTx
end
