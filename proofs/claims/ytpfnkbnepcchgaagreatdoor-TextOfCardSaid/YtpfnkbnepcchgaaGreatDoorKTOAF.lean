/- Part 6. -/
import Derived.Laws.Externs
import Derived.Lib.Walk
import Derived.Lib.ItoaMem
import Derived.Lib.AppendIntMem
import Derived.Laws.StructEq
import Derived.Test.YtpfnkbnepcchgaaGreatDoorKTOAA
import Derived.Test.YtpfnkbnepcchgaaGreatDoorKTOAB
import Derived.Test.YtpfnkbnepcchgaaGreatDoorKTOAC
import Derived.Test.YtpfnkbnepcchgaaGreatDoorKTOAE
set_option linter.unusedSimpArgs false
set_option linter.unusedVariables false
section
namespace Go.Proofs.Yy.SR
open Go.RowKit Go.Proofs.Yy.SC
theorem eqc {c:UInt8}{n:Nat}(hn:n<256)(h:(c.toNat:Int)=(n:Int)):c=UInt8.ofNat n:=by
 apply UInt8.toNat_inj.1
 have e:(UInt8.ofNat n).toNat=n:=by simp;omega
 rw[e];omega
theorem cls (c:UInt8):c=43∨c=45∨c=46∨c=69∨c=101∨(48≤(c.toNat:Int)∧(c.toNat:Int)≤57) ∨
  ((c.toNat:Int)<48∧(c.toNat:Int)≠43∧(c.toNat:Int)≠45∧(c.toNat:Int)≠46)∨(57<(c.toNat:Int)∧(c.toNat:Int)≠69∧(c.toNat:Int)≠101):=by
 by_cases h1:(c.toNat:Int)=43
 ·exact .inl (eqc (n:=43) (by decide) h1)
 by_cases h2:(c.toNat:Int)=45
 ·exact .inr (.inl (eqc (n:=45) (by decide) h2))
 by_cases h3:(c.toNat:Int)=46
 ·exact .inr (.inr (.inl (eqc (n:=46) (by decide) h3)))
 by_cases h4:(c.toNat:Int)=69
 ·exact .inr (.inr (.inr (.inl (eqc (n:=69) (by decide) h4))))
 by_cases h5:(c.toNat:Int)=101
 ·exact .inr (.inr (.inr (.inr (.inl (eqc (n:=101) (by decide) h5)))))
 refine .inr (.inr (.inr (.inr (.inr ?_))))
 omega
theorem xA {c:UInt8}(h:48≤(c.toNat:Int)∧(c.toNat:Int)≤57):dg c=true:=by
 unfold dg;simp only[Bool.and_eq_true,decide_eq_true_iff];omega
theorem Bh {c:UInt8}(h:(c.toNat:Int)<48∧(c.toNat:Int)≠43∧(c.toNat:Int)≠45∧(c.toNat:Int)≠46):dg c=false∧sg c=false∧eb c=false∧(c == 46)=false:=by
 refine⟨?_,?_,?_,?_⟩
 ·unfold dg;simp only[Bool.and_eq_false_iff,decide_eq_false_iff_not];omega
 ·unfold sg;simp only[Bool.or_eq_false_iff,beq_eq_false_iff_ne,ne_eq];constructor <;> (rintro rfl;simp at h)
 ·unfold eb;simp only[Bool.or_eq_false_iff,beq_eq_false_iff_ne,ne_eq];constructor <;> (rintro rfl;simp at h)
 ·simp only[beq_eq_false_iff_ne,ne_eq];rintro rfl;simp at h
theorem wo {c:UInt8}(h:57<(c.toNat:Int)∧(c.toNat:Int)≠69∧(c.toNat:Int)≠101):dg c=false∧sg c=false∧eb c=false∧(c == 46)=false:=by
 refine⟨?_,?_,?_,?_⟩
 ·unfold dg;simp only[Bool.and_eq_false_iff,decide_eq_false_iff_not];omega
 ·unfold sg;simp only[Bool.or_eq_false_iff,beq_eq_false_iff_ne,ne_eq];constructor <;> (rintro rfl;simp at h)
 ·unfold eb;simp only[Bool.or_eq_false_iff,beq_eq_false_iff_ne,ne_eq];constructor <;> (rintro rfl;simp at h)
 ·simp only[beq_eq_false_iff_ne,ne_eq];rintro rfl;simp at h
theorem acb {r:R}(h:afI r=true):r.st=0∨r.st=2∨r.st=3∨r.st=4∨r.st=5∨r.st=6∨r.st=7∨r.st=8:=by
 unfold afI at h;simp only[Bool.or_eq_true,beq_iff_eq]at h
 omega
theorem TC (B b k:Nat)(r:R)(c:UInt8)(w:World)(h:At B b r w)(hi:Inv k r)(ht:tk r c=none) :
  Calls Tryz.prog 62 #[.pointer (some ⟨b,0,none⟩),.int .u8 (c.toNat:Int)] w fun e w'=>e=.returned (.bool false)∧Below B w w':=by
 rcases acb hi.st with hs|hs|hs|hs|hs|hs|hs|hs
 ·rcases cls c with rfl|rfl|rfl|rfl|rfl|hc|hc|hc
  ·exfalso;unfold tk at ht;rw[hs]at ht;simp[sg,eb,dg]at ht
  ·exfalso;unfold tk at ht;rw[hs]at ht;simp[sg,eb,dg]at ht
  ·exact P7 B b r w h hs
  ·exact Pg B b r w h hs
  ·exact KJ B b r w h hs
  ·exfalso;have hd:=xA hc;obtain⟨a1,a2,a3⟩:=jT hd;unfold tk at ht;rw[hs]at ht;simp[hd,a1,a2,a3]at ht
  ·exact UM B b r _ hc w h hs
  ·exact OY B b r _ hc w h hs
 ·rcases cls c with rfl|rfl|rfl|rfl|rfl|hc|hc|hc
  ·exact Qm B b r w h hs
  ·exact PL B b r w h hs
  ·exact PS B b r w h hs
  ·exact O6 B b r w h hs
  ·exact LU B b r w h hs
  ·exfalso;have hd:=xA hc;obtain⟨a1,a2,a3⟩:=jT hd;unfold tk at ht;rw[hs]at ht;simp[hd,a1,a2,a3]at ht
  ·exact Tv B b r _ hc w h hs
  ·exact Qe B b r _ hc w h hs
 ·rcases cls c with rfl|rfl|rfl|rfl|rfl|hc|hc|hc
  ·exact Qo B b r w h hs
  ·exact Qh B b r w h hs
  ·exfalso;unfold tk at ht;rw[hs]at ht;simp[sg,eb,dg]at ht
  ·exfalso;unfold tk at ht;rw[hs]at ht;simp[sg,eb,dg]at ht
  ·exfalso;unfold tk at ht;rw[hs]at ht;simp[sg,eb,dg]at ht
  ·exfalso;have hd:=xA hc;obtain⟨a1,a2,a3⟩:=jT hd;unfold tk at ht;rw[hs]at ht;simp[hd,a1,a2,a3]at ht
  ·exact Tc B b r _ hc w h hs
  ·exact Pj B b r _ hc w h hs
 ·rcases cls c with rfl|rfl|rfl|rfl|rfl|hc|hc|hc
  ·exact PV B b r w h hs
  ·exact Pz B b r w h hs
  ·exact Qa B b r w h hs
  ·exact P8 B b r w h hs
  ·exact LC B b r w h hs
  ·exfalso;have hd:=xA hc;obtain⟨a1,a2,a3⟩:=jT hd;unfold tk at ht;rw[hs]at ht;simp[hd,a1,a2,a3]at ht
  ·exact SG B b r _ hc w h hs
  ·exact OX B b r _ hc w h hs
 ·rcases cls c with rfl|rfl|rfl|rfl|rfl|hc|hc|hc
  ·exact Py B b r w h hs
  ·exact O7 B b r w h hs
  ·exact PT B b r w h hs
  ·exfalso;unfold tk at ht;rw[hs]at ht;simp[sg,eb,dg]at ht
  ·exfalso;unfold tk at ht;rw[hs]at ht;simp[sg,eb,dg]at ht
  ·exfalso;have hd:=xA hc;obtain⟨a1,a2,a3⟩:=jT hd;unfold tk at ht;rw[hs]at ht;simp[hd,a1,a2,a3]at ht
  ·exact UV B b r _ hc w h hs
  ·exact Qd B b r _ hc w h hs
 ·rcases cls c with rfl|rfl|rfl|rfl|rfl|hc|hc|hc
  ·exfalso;unfold tk at ht;rw[hs]at ht;simp[sg,eb,dg]at ht
  ·exfalso;unfold tk at ht;rw[hs]at ht;simp[sg,eb,dg]at ht
  ·exact Qr B b r w h hs
  ·exact PN B b r w h hs
  ·exact KH B b r w h hs
  ·exfalso;have hd:=xA hc;obtain⟨a1,a2,a3⟩:=jT hd;unfold tk at ht;rw[hs]at ht;simp[hd,a1,a2,a3]at ht
  ·exact Tf B b r _ hc w h hs
  ·exact P6 B b r _ hc w h hs
 ·rcases cls c with rfl|rfl|rfl|rfl|rfl|hc|hc|hc
  ·exact Po B b r w h hs
  ·exact O4 B b r w h hs
  ·exact Ql B b r w h hs
  ·exact PH B b r w h hs
  ·exact KQ B b r w h hs
  ·exfalso;have hd:=xA hc;obtain⟨a1,a2,a3⟩:=jT hd;unfold tk at ht;rw[hs]at ht;simp[hd,a1,a2,a3]at ht
  ·exact Ub B b r _ hc w h hs
  ·exact PE B b r _ hc w h hs
 ·rcases cls c with rfl|rfl|rfl|rfl|rfl|hc|hc|hc
  ·exact PP B b r w h hs
  ·exact Pn B b r w h hs
  ·exact O3 B b r w h hs
  ·exact Qj B b r w h hs
  ·exact KT B b r w h hs
  ·exfalso;have hd:=xA hc;obtain⟨a1,a2,a3⟩:=jT hd;unfold tk at ht;rw[hs]at ht;simp[hd,a1,a2,a3]at ht
  ·exact Ua B b r _ hc w h hs
  ·exact Qc B b r _ hc w h hs
theorem UA (B b k:Nat)(r r':R)(c:UInt8)(w:World)(h:At B b r w)(hi:Inv k r)(hk:k<1000000)(hBw:B≤w.heap.size)(ht:tk r c=some r') :
  Calls Tryz.prog 62 #[.pointer (some ⟨b,0,none⟩),.int .u8 (c.toNat:Int)] w fun e w'=>e=.returned (.bool true)∧At B b r' w'∧Below B w w':=by
 have hlen:r.ds.length<1000000:=by have:=hi.len;omega
 have hbeh:r.beh<1000000:=by have:=hi.beh;omega
 rcases acb hi.st with hs|hs|hs|hs|hs|hs|hs|hs
 ·rcases cls c with rfl|rfl|rfl|rfl|rfl|hc|hc|hc
  ·unfold tk at ht;rw[hs]at ht;simp[sg,eb,dg]at ht;subst ht;exact Ya B b r w h hs
  ·unfold tk at ht;rw[hs]at ht;simp[sg,eb,dg]at ht;subst ht;exact Yx B b r w h hs
  ·exfalso;unfold tk at ht;rw[hs]at ht;simp[sg,eb,dg]at ht
  ·exfalso;unfold tk at ht;rw[hs]at ht;simp[sg,eb,dg]at ht
  ·exfalso;unfold tk at ht;rw[hs]at ht;simp[sg,eb,dg]at ht
  ·have hd:=xA hc;obtain⟨a1,a2,a3⟩:=jT hd;unfold tk at ht;rw[hs]at ht;simp only[hd,a1,a2,a3,if_true,Bool.false_eq_true,if_false,Option.some.injEq]at ht;subst ht;exact LQ B b r c _ rfl hc w h hs hBw hlen hbeh
  ·exfalso;obtain⟨a0,a1,a2,a3⟩:=Bh hc;unfold tk at ht;rw[hs]at ht;simp[a0,a1,a2,a3]at ht
  ·exfalso;obtain⟨a0,a1,a2,a3⟩:=wo hc;unfold tk at ht;rw[hs]at ht;simp[a0,a1,a2,a3]at ht
 ·rcases cls c with rfl|rfl|rfl|rfl|rfl|hc|hc|hc
  ·exfalso;unfold tk at ht;rw[hs]at ht;simp[sg,eb,dg]at ht
  ·exfalso;unfold tk at ht;rw[hs]at ht;simp[sg,eb,dg]at ht
  ·exfalso;unfold tk at ht;rw[hs]at ht;simp[sg,eb,dg]at ht
  ·exfalso;unfold tk at ht;rw[hs]at ht;simp[sg,eb,dg]at ht
  ·exfalso;unfold tk at ht;rw[hs]at ht;simp[sg,eb,dg]at ht
  ·have hd:=xA hc;obtain⟨a1,a2,a3⟩:=jT hd;unfold tk at ht;rw[hs]at ht;simp only[hd,a1,a2,a3,if_true,Bool.false_eq_true,if_false,Option.some.injEq]at ht;subst ht;exact LH B b r c _ rfl hc w h hs hBw hlen hbeh
  ·exfalso;obtain⟨a0,a1,a2,a3⟩:=Bh hc;unfold tk at ht;rw[hs]at ht;simp[a0,a1,a2,a3]at ht
  ·exfalso;obtain⟨a0,a1,a2,a3⟩:=wo hc;unfold tk at ht;rw[hs]at ht;simp[a0,a1,a2,a3]at ht
 ·rcases cls c with rfl|rfl|rfl|rfl|rfl|hc|hc|hc
  ·exfalso;unfold tk at ht;rw[hs]at ht;simp[sg,eb,dg]at ht
  ·exfalso;unfold tk at ht;rw[hs]at ht;simp[sg,eb,dg]at ht
  ·unfold tk at ht;rw[hs]at ht;simp[sg,eb,dg]at ht;subst ht;exact Yb B b r w h hs
  ·unfold tk at ht;rw[hs]at ht;simp[sg,eb,dg]at ht;subst ht;exact XB B b r w h hs
  ·unfold tk at ht;rw[hs]at ht;simp[sg,eb,dg]at ht;subst ht;exact TL B b r w h hs
  ·have hd:=xA hc;obtain⟨a1,a2,a3⟩:=jT hd;unfold tk at ht;rw[hs]at ht;simp only[hd,a1,a2,a3,if_true,Bool.false_eq_true,if_false,Option.some.injEq]at ht;subst ht;have q:=LM B b r c _ rfl hc w h hs hBw hlen hbeh;rw[hs]at q;exact q
  ·exfalso;obtain⟨a0,a1,a2,a3⟩:=Bh hc;unfold tk at ht;rw[hs]at ht;simp[a0,a1,a2,a3]at ht
  ·exfalso;obtain⟨a0,a1,a2,a3⟩:=wo hc;unfold tk at ht;rw[hs]at ht;simp[a0,a1,a2,a3]at ht
 ·rcases cls c with rfl|rfl|rfl|rfl|rfl|hc|hc|hc
  ·exfalso;unfold tk at ht;rw[hs]at ht;simp[sg,eb,dg]at ht
  ·exfalso;unfold tk at ht;rw[hs]at ht;simp[sg,eb,dg]at ht
  ·exfalso;unfold tk at ht;rw[hs]at ht;simp[sg,eb,dg]at ht
  ·exfalso;unfold tk at ht;rw[hs]at ht;simp[sg,eb,dg]at ht
  ·exfalso;unfold tk at ht;rw[hs]at ht;simp[sg,eb,dg]at ht
  ·have hd:=xA hc;obtain⟨a1,a2,a3⟩:=jT hd;unfold tk at ht;rw[hs]at ht;simp only[hd,a1,a2,a3,if_true,Bool.false_eq_true,if_false,Option.some.injEq]at ht;subst ht;exact KX B b r c _ rfl hc w h hs hBw hlen hbeh
  ·exfalso;obtain⟨a0,a1,a2,a3⟩:=Bh hc;unfold tk at ht;rw[hs]at ht;simp[a0,a1,a2,a3]at ht
  ·exfalso;obtain⟨a0,a1,a2,a3⟩:=wo hc;unfold tk at ht;rw[hs]at ht;simp[a0,a1,a2,a3]at ht
 ·rcases cls c with rfl|rfl|rfl|rfl|rfl|hc|hc|hc
  ·exfalso;unfold tk at ht;rw[hs]at ht;simp[sg,eb,dg]at ht
  ·exfalso;unfold tk at ht;rw[hs]at ht;simp[sg,eb,dg]at ht
  ·exfalso;unfold tk at ht;rw[hs]at ht;simp[sg,eb,dg]at ht
  ·unfold tk at ht;rw[hs]at ht;simp[sg,eb,dg]at ht;subst ht;exact YG B b r w h hs
  ·unfold tk at ht;rw[hs]at ht;simp[sg,eb,dg]at ht;subst ht;exact Tn B b r w h hs
  ·have hd:=xA hc;obtain⟨a1,a2,a3⟩:=jT hd;unfold tk at ht;rw[hs]at ht;simp only[hd,a1,a2,a3,if_true,Bool.false_eq_true,if_false,Option.some.injEq]at ht;subst ht;exact Lu B b r c _ rfl hc w h hs hBw hlen hbeh
  ·exfalso;obtain⟨a0,a1,a2,a3⟩:=Bh hc;unfold tk at ht;rw[hs]at ht;simp[a0,a1,a2,a3]at ht
  ·exfalso;obtain⟨a0,a1,a2,a3⟩:=wo hc;unfold tk at ht;rw[hs]at ht;simp[a0,a1,a2,a3]at ht
 ·rcases cls c with rfl|rfl|rfl|rfl|rfl|hc|hc|hc
  ·unfold tk at ht;rw[hs]at ht;simp[sg,eb,dg]at ht;subst ht;exact X3 B b r w h hs
  ·unfold tk at ht;rw[hs]at ht;simp[sg,eb,dg]at ht;subst ht;exact Xr B b r w h hs
  ·exfalso;unfold tk at ht;rw[hs]at ht;simp[sg,eb,dg]at ht
  ·exfalso;unfold tk at ht;rw[hs]at ht;simp[sg,eb,dg]at ht
  ·exfalso;unfold tk at ht;rw[hs]at ht;simp[sg,eb,dg]at ht
  ·have hd:=xA hc;obtain⟨a1,a2,a3⟩:=jT hd;unfold tk at ht;rw[hs]at ht;simp only[hd,a1,a2,a3,if_true,Bool.false_eq_true,if_false,Option.some.injEq]at ht;subst ht;exact KU B b r c _ rfl hc w h hs hi.exp
  ·exfalso;obtain⟨a0,a1,a2,a3⟩:=Bh hc;unfold tk at ht;rw[hs]at ht;simp[a0,a1,a2,a3]at ht
  ·exfalso;obtain⟨a0,a1,a2,a3⟩:=wo hc;unfold tk at ht;rw[hs]at ht;simp[a0,a1,a2,a3]at ht
 ·rcases cls c with rfl|rfl|rfl|rfl|rfl|hc|hc|hc
  ·exfalso;unfold tk at ht;rw[hs]at ht;simp[sg,eb,dg]at ht
  ·exfalso;unfold tk at ht;rw[hs]at ht;simp[sg,eb,dg]at ht
  ·exfalso;unfold tk at ht;rw[hs]at ht;simp[sg,eb,dg]at ht
  ·exfalso;unfold tk at ht;rw[hs]at ht;simp[sg,eb,dg]at ht
  ·exfalso;unfold tk at ht;rw[hs]at ht;simp[sg,eb,dg]at ht
  ·have hd:=xA hc;obtain⟨a1,a2,a3⟩:=jT hd;unfold tk at ht;rw[hs]at ht;simp only[hd,a1,a2,a3,if_true,Bool.false_eq_true,if_false,Option.some.injEq]at ht;subst ht;exact KF B b r c _ rfl hc w h hs hi.exp
  ·exfalso;obtain⟨a0,a1,a2,a3⟩:=Bh hc;unfold tk at ht;rw[hs]at ht;simp[a0,a1,a2,a3]at ht
  ·exfalso;obtain⟨a0,a1,a2,a3⟩:=wo hc;unfold tk at ht;rw[hs]at ht;simp[a0,a1,a2,a3]at ht
 ·rcases cls c with rfl|rfl|rfl|rfl|rfl|hc|hc|hc
  ·exfalso;unfold tk at ht;rw[hs]at ht;simp[sg,eb,dg]at ht
  ·exfalso;unfold tk at ht;rw[hs]at ht;simp[sg,eb,dg]at ht
  ·exfalso;unfold tk at ht;rw[hs]at ht;simp[sg,eb,dg]at ht
  ·exfalso;unfold tk at ht;rw[hs]at ht;simp[sg,eb,dg]at ht
  ·exfalso;unfold tk at ht;rw[hs]at ht;simp[sg,eb,dg]at ht
  ·have hd:=xA hc;obtain⟨a1,a2,a3⟩:=jT hd;unfold tk at ht;rw[hs]at ht;simp only[hd,a1,a2,a3,if_true,Bool.false_eq_true,if_false,Option.some.injEq]at ht;subst ht;exact LV B b r c _ rfl hc w h hs hi.exp
  ·exfalso;obtain⟨a0,a1,a2,a3⟩:=Bh hc;unfold tk at ht;rw[hs]at ht;simp[a0,a1,a2,a3]at ht
  ·exfalso;obtain⟨a0,a1,a2,a3⟩:=wo hc;unfold tk at ht;rw[hs]at ht;simp[a0,a1,a2,a3]at ht
end Go.Proofs.Yy.SR
end
section
namespace Go.Proofs.Yw.PrintLast
open Go.Proofs.Yw.PrintWords (ae)
def Ai (md:Region.Mode)(o:Oper):List Nat:=(o.after.toList.filter (fun e=>Region.binds md e)).map (fun e=>e.on)
def KN (md:Region.Mode)(ops:Array Oper)(i:Nat)(oi:Oper):List Nat:=(List.range ops.size).filter fun j => !(j == i) && match ops[j]? with
 | some oj => !(oj.after.any (fun e=>Region.binds md e && e.on == i) || oi.apart ops oj)
 | none=>false
def rX (md:Region.Mode)(ops:Array Oper):Bool × List (List Nat × List Nat):=(Region.noSelect ops,(List.range ops.size).map fun i=>match ops[i]? with
 | some o=>(Ai md o,KN md ops i o)
 | none=>([],[]))
def vM (T:List (List Nat × List Nat))(l:List Bool)(i:Nat):Bool := !l.getD i true && match T[i]? with
 | some r=>r.1.all (fun j=>l.getD j false)
 | none=>false
def Cf (T:List (List Nat × List Nat))(l:List Bool):List Nat:=(List.range T.length).filter (vM T l)
def SK (T:List (List Nat × List Nat))(l:List Bool)(i:Nat):Bool:=match T[i]? with
 | some r=>r.2.all (fun j=>l.getD j true)
 | none=>false
def GR (T:List (List Nat × List Nat))(l:List Bool):Bool:=(List.range T.length).all fun j => !l.getD j false || match T[j]? with
 | some r=>r.1.all (fun k=>l.getD k false)
 | none=>true
def Ff (T:List (List Nat × List Nat))(i:Nat):Nat→Nat→Bool
 | 0,_=>false
 | fuel+1,d=>match T[d]? with
  | some r=>r.1.any fun j=>j == i || Ff T i fuel j
  | none=>false
def lastT (T:List (List Nat × List Nat))(l:List Bool)(ds:List Nat)(i:Nat):Bool:=ds.all fun d=>l.getD d true || Ff T i T.length d
section
variable {md:Region.Mode} {ops:Array Oper} {T:Bool × List (List Nat × List Nat)} {l l' li lj lk:Array Bool} {ds:List Nat} {i j k:Nat}
theorem gd (l:Array Bool)(j:Nat)(b:Bool):l.getD j b=l.toList.getD j b:=by simp[Array.getD_eq_getD_getElem?, List.getD_eq_getElem?_getD]
theorem Jg (o:Oper)(p:Nat→Bool):o.after.all (fun e => !Region.binds md e || p e.on)=(Ai md o).all p:=by
 unfold Ai;rw[← Array.all_toList]
 induction o.after.toList with
 | nil=>rfl
 | cons e r ih =>
  rw[List.all_cons,ih,List.filter_cons]
  cases h:Region.binds md e <;> simp
theorem UJ (o:Oper)(p:Nat→Bool):o.after.any (fun e=>Region.binds md e && p e.on)=(Ai md o).any p:=by
 unfold Ai;rw[← Array.any_toList]
 induction o.after.toList with
 | nil=>rfl
 | cons e r ih =>
  rw[List.any_cons,ih,List.filter_cons]
  cases h:Region.binds md e <;> simp
theorem uF:(rX md ops).2.length=ops.size:=by simp[rX]
theorem y8 {o:Oper}(h:ops[i]? = some o):(rX md ops).2[i]? = some (Ai md o,KN md ops i o):=by
 have hi:=(Array.getElem?_eq_some_iff.1 h).1;unfold rX;rw[List.getElem?_map,List.getElem?_range hi,Option.map_some,h]
theorem yP (h:ops[i]? = none):(rX md ops).2[i]? = none:=by
 have hi:ops.size≤i:=Array.getElem?_eq_none_iff.1 h;exact List.getElem?_eq_none (by rw[uF];exact hi)
theorem O9:vM (rX md ops).2 l.toList i=(!l.getD i true && ((ops[i]?).map (·.after.all fun e => !Region.binds md e || l.getD e.on false)).getD false):=by
 unfold vM;rw[gd]
 cases h:ops[i]? with
 | none=>rw[yP h];rfl
 | some o =>
  rw[y8 h];simp only[Option.map_some,Option.getD_some];rw[← Jg];simp only[gd]
theorem ready_eq:Region.ready md ops l=Cf (rX md ops).2 l.toList:=by
 unfold Region.ready Cf;rw[uF];refine List.filter_congr (fun i _=>?_);rw[O9]
theorem free_eq:Region.free md ops l i=SK (rX md ops).2 l.toList i:=by
 unfold Region.free SK
 cases h:ops[i]? with
 | none=>rw[yP h]
 | some oi =>
  rw[y8 h];simp only[KN];rw[List.all_filter]
  congr 1
  funext j
  rw[gd]
  cases hj:ops[j]? with
  | none=>cases (j == i) <;> cases (l.toList.getD j true) <;> simp
  | some oj =>
   cases (j == i) <;> cases (l.toList.getD j true) <;> cases (oj.after.any (fun e=>Region.binds md e && e.on == i) || oi.apart ops oj) <;> simp_all
theorem TT:Region.Dt md ops l=GR (rX md ops).2 l.toList:=by
 unfold Region.Dt GR;rw[uF]
 congr 1
 funext j
 rw[gd]
 cases h:ops[j]? with
 | none=>rw[yP h]
 | some o =>
  rw[y8 h];simp only;rw[← Jg];simp only[gd]
theorem reach_eq:∀ (fuel d:Nat),Region.vz md ops i fuel d=Ff (rX md ops).2 i fuel d
 | 0,_=>rfl
 | fuel+1,d=>by
  unfold Region.vz Ff
  cases h:ops[d]? with
  | none=>rw[yP h]
  | some o =>
   rw[y8 h];simp only;rw[← UJ]
   congr 1
   funext e
   rw[reach_eq fuel]
theorem ab1:Region.lastB md ops l ds i=lastT (rX md ops).2 l.toList ds i:=by
 unfold Region.lastB lastT;rw[uF]
 congr 1
 funext d
 rw[gd,reach_eq]
theorem Dc (h:vM T.2 l.toList i=true)(hT:rX md ops=T):(Region.ready md ops l).contains i=true:=by
 subst hT;rw[ready_eq];unfold Cf;rw[List.contains_iff_mem,List.mem_filter,List.mem_range];refine⟨?_,h⟩;unfold vM at h;rw[Bool.and_eq_true]at h
 cases hq:(rX md ops).2[i]? with
 | none=>rw[hq]at h;simp at h
 | some r=>exact (List.getElem?_eq_some_iff.1 hq).1
theorem JJ (h:(l.toList.set i true == l'.toList)=true):(l.setIfInBounds i true == l')=true:=by
 rw[beq_iff_eq]at h ⊢
 apply Array.ext'
 rw[Array.toList_setIfInBounds];exact h
def alM (T:Bool × List (List Nat × List Nat))(l l':List Bool)(i:Nat):Bool:=T.1 && SK T.2 l i && vM T.2 l i && (l.set i true == l')
theorem Dh (hT:rX md ops=T)(h:alM T l.toList l'.toList i=true):akR md ops l l' i=true:=by
 simp only[alM,Bool.and_eq_true]at h;obtain⟨⟨⟨h1,h2⟩,h3⟩,h4⟩:=h;have h5:=Dc h3 hT;have h6:=JJ h4;subst hT;simp only[akR,Bool.and_eq_true];exact⟨⟨⟨h1,by rw[free_eq];exact h2⟩,h5⟩,h6⟩
def aa2 (T:Bool × List (List Nat × List Nat))(ds:List Nat)(l l':List Bool)(i:Nat):Bool:=T.1 && SK T.2 l i && vM T.2 l i && GR T.2 l && lastT T.2 l ds i && (l.set i true == l')
theorem acv (hT:rX md ops=T)(h:aa2 T ds l.toList l'.toList i=true):takeB md ops ds l l' i=true:=by
 simp only[aa2,Bool.and_eq_true]at h;obtain⟨⟨⟨⟨⟨h1,h2⟩,h3⟩,h4⟩,h5⟩,h6⟩:=h;have h7:=Dc h3 hT;have h8:=JJ h6;subst hT;simp only[takeB,Bool.and_eq_true];exact⟨⟨⟨⟨⟨h1,by rw[free_eq];exact h2⟩,h7⟩,by rw[TT];exact h4⟩,by rw[ab1];exact h5⟩,h8⟩
theorem AO (hT:rX md ops=T)(h:(Cf T.2 l.toList == [i] && l.toList.set i true == l'.toList)=true):FO md ops l l' i=true:=by
 simp only[Bool.and_eq_true]at h;obtain⟨h1,h2⟩:=h;subst hT;simp only[FO,Bool.and_eq_true];exact⟨by rw[ready_eq];exact h1,JJ h2⟩
theorem afJ (hT:rX md ops=T)(h:(Cf T.2 l.toList == [i,j] && l.toList.set i true == li.toList && l.toList.set j true == lj.toList)=true):(Region.ready md ops l == [i,j] && l.setIfInBounds i true == li && l.setIfInBounds j true == lj)=true:=by
 simp only[Bool.and_eq_true]at h ⊢;obtain⟨⟨h1,h2⟩,h3⟩:=h;subst hT;exact⟨⟨by rw[ready_eq];exact h1,JJ h2⟩,JJ h3⟩
theorem iJ (hT:rX md ops=T)(h:(Cf T.2 l.toList == [])=true):(Region.ready md ops l == [])=true:=by
 subst hT;rw[ready_eq];exact h
def upM (B:List Nat)(d:Nat):List Nat→Nat
 | []=>0
 | n::r=>(2 ^ n ||| (if n<d then B.getD n 0 else 0)) ||| upM B d r
def jf (T:List (List Nat × List Nat))(B:List Nat):Bool:=(List.range T.length).all fun d=>match T[d]? with
 | some r=>(B.getD d 0 ||| upM B d r.1) == upM B d r.1
 | none=>false
theorem TF {B:List Nat}{d i:Nat}:∀ {ns:List Nat},(upM B d ns).testBit i=true→∃ n ∈ ns,n=i∨(n<d∧(B.getD n 0).testBit i=true)
 | [],h=>by simp[upM]at h
 | n::r,h=>by
  unfold upM at h;rw[Nat.testBit_or,Nat.testBit_or,Bool.or_eq_true,Bool.or_eq_true]at h;rcases h with (h|h)|h
  ·rw[Nat.testBit_two_pow]at h
   exact⟨n,List.mem_cons_self,.inl (by simpa using h)⟩
  ·by_cases hn:n<d
   ·rw[if_pos hn]at h
    exact⟨n,List.mem_cons_self,.inr ⟨hn,h⟩⟩
   ·rw[if_neg hn]at h
    simp at h
  ·obtain⟨m,hm,h2⟩:=TF h
   exact⟨m,List.mem_cons_of_mem _ hm,h2⟩
theorem Jw {T:List (List Nat × List Nat)}{B:List Nat}(hB:jf T B=true):∀ (fuel d:Nat),d<fuel→d<T.length→(B.getD d 0).testBit i=true→Ff T i fuel d=true
 | 0,d,h,_,_=>by omega
 | fuel+1,d,h,hd,hb=>by
  have h1:=List.all_eq_true.1 hB d (List.mem_range.2 hd)
  cases hr:T[d]? with
  | none=>rw[hr]at h1;simp at h1
  | some r =>
   rw[hr]at h1;simp only[beq_iff_eq]at h1
   have h2:(upM B d r.1).testBit i=true:=by rw[← h1,Nat.testBit_or,hb,Bool.true_or]
   obtain⟨n,hn,h3⟩:=TF h2;unfold Ff;rw[hr];simp only;rw[List.any_eq_true];refine⟨n,hn,?_⟩;rcases h3 with rfl|⟨h4,h5⟩
   ·simp
   ·rw[Jw hB fuel n (by omega) (by omega) h5,Bool.or_true]
def afw (T:List (List Nat × List Nat))(B:List Nat)(l:List Bool)(ds:List Nat)(i:Nat):Bool:=ds.all fun d=>l.getD d true || (decide (d<T.length) && (B.getD d 0).testBit i)
def abn (T:Bool × List (List Nat × List Nat))(B:List Nat)(ds:List Nat)(l l':List Bool)(i:Nat):Bool:=T.1 && SK T.2 l i && vM T.2 l i && GR T.2 l && afw T.2 B l ds i && (l.set i true == l')
theorem YE {B:List Nat}(hT:rX md ops=T)(hB:jf T.2 B=true)(h:abn T B ds l.toList l'.toList i=true):takeB md ops ds l l' i=true:=by
 refine acv hT ?_;simp only[abn,aa2,Bool.and_eq_true]at h ⊢;obtain⟨⟨⟨⟨⟨h1,h2⟩,h3⟩,h4⟩,h5⟩,h6⟩:=h;refine⟨⟨⟨⟨⟨h1,h2⟩,h3⟩,h4⟩,?_⟩,h6⟩;unfold afw at h5;unfold lastT;rw[List.all_eq_true]at h5 ⊢;intro d hd;have h7:=h5 d hd;rw[Bool.or_eq_true,Bool.and_eq_true,decide_eq_true_eq]at h7;rcases h7 with h7|⟨h8,h9⟩
 ·rw[h7,Bool.true_or]
 ·rw[Jw hB _ d h8 h8 h9,Bool.or_true]
theorem gQ {P:Program}{Q:Exit→Act→World→Prop}{S:World→Prop}{n:Nat}{a:Act}{w:World}{B:List Nat}(hT:rX md ops=T)(hB:jf T.2 B=true)(h:ae (rX md ops=T)→ae (jf T.2 B=true)→dw P md ops Q S ds n l a w):dw P md ops Q S ds n l a w:=h ⟨hT⟩ ⟨hB⟩
end
def EK:Code→Nat→Option (Array Oper)
 | .region id ops _,k=>if id == k then some ops else none
 | .seq a b,k=>match EK a k with
  | some o=>some o
  | none=>EK b k
 | .cond _ a b,k=>match EK a k with
  | some o=>some o
  | none=>EK b k
 | .block _ c,k=>EK c k
 | .loop c,k=>EK c k
 | .scope c,k=>EK c k
 | .rangeFunc _ _ a b,k=>match EK a k with
  | some o=>some o
  | none=>EK b k
 | _,_=>none
def opsOf (f:Func)(k:Nat):Array Oper:=((f.body.bind fun c=>EK c k)).getD #[]
end Go.Proofs.Yw.PrintLast
end
section
namespace Go.Proofs.Yy.TA
def EO (v:Nat):UInt8:=UInt8.ofNat (48+v % 2)
def bs:Nat→Nat→List UInt8
 | 0,_ => []
 | w+1,v=>bs w (v / 2) ++ [EO v]
theorem two_pos (k:Nat):0<2 ^ k:=Nat.two_pow_pos k
theorem bs_len (w:Nat):∀ v:Nat,(bs w v).length=w:=by
 induction w with
 | zero=>intro v;rfl
 | succ w ih=>intro v;rw[bs,List.length_append,ih];rfl
theorem aaP (w:Nat):∀ v k:Nat,k≤w→(bs w v).take k=bs k (v / 2 ^ (w-k)):=by
 induction w with
 | zero => intro v k h; obtain rfl : k = 0 := by omega
           simp[bs]
 | succ w ih =>
  intro v k h
  by_cases hk:k=w+1
  ·subst hk
   rw[List.take_of_length_le (by rw[bs_len];omega),Nat.sub_self,Nat.pow_zero,Nat.div_one]
  ·rw[bs,List.take_append_of_le_length (by rw[bs_len];omega),ih _ _ (by omega),Nat.div_div_eq_div_mul,show w+1-k=(w-k)+1 by omega,Nat.pow_succ,Nat.mul_comm]
theorem abz (w:Nat):∀ v k:Nat,k≤w→(bs w v).drop k=bs (w-k) v:=by
 induction w with
 | zero => intro v k h; obtain rfl : k = 0 := by omega
           simp[bs]
 | succ w ih =>
  intro v k h
  by_cases hk:k=w+1
  ·subst hk
   rw[List.drop_of_length_le (by rw[bs_len];omega),Nat.sub_self];rfl
  ·rw[bs,List.drop_append_of_le_length (by rw[bs_len];omega),ih _ _ (by omega),show w+1-k=(w-k)+1 by omega];rfl
theorem aa8 (v m:Nat)(h:0<m):EO (v % 2 ^ m)=EO v:=by
 obtain⟨m,rfl⟩:∃ j,m=j+1:=⟨m-1,by omega⟩
 unfold EO;rw[Nat.pow_succ,Nat.mul_comm,Nat.mod_mul_right_mod]
theorem Hf (v m:Nat):v % 2 ^ (m+1) / 2=v / 2 % 2 ^ m:=by
 rw[Nat.pow_succ,Nat.mul_comm,Nat.mod_mul_right_div_self]
theorem yI (a x:Nat)(b:Nat):∀ y:Nat,bs a x++bs b y=bs (a+b) (x*2 ^ b+y % 2 ^ b):=by
 induction b with
 | zero=>intro y;rw[Nat.pow_zero,Nat.mul_one,Nat.mod_one];simp[bs]
 | succ b ih =>
  intro y
  have h1:(x*2 ^ (b+1)+y % 2 ^ (b+1)) / 2=x*2 ^ b+y / 2 % 2 ^ b:=by
   rw[← Hf,Nat.pow_succ, ← Nat.mul_assoc];omega
  have h2:EO (x*2 ^ (b+1)+y % 2 ^ (b+1))=EO y:=by
   rw[← aa8 y (b+1) (by omega)];unfold EO;rw[Nat.pow_succ, ← Nat.mul_assoc];congr 2;omega
  rw[bs, ← List.append_assoc,ih, ← Nat.add_assoc,bs,h1,h2]
theorem acs (w:Nat):List.replicate w (48:UInt8)=bs w 0:=by
 induction w with
 | zero=>rfl
 | succ w ih=>rw[List.replicate_succ',ih];rfl
theorem ab2 (w:Nat):List.replicate w (49:UInt8)=bs w (2 ^ w-1):=by
 induction w with
 | zero=>rfl
 | succ w ih =>
  have hp:=two_pos w;rw[List.replicate_succ',ih,bs,show (2 ^ (w+1)-1) / 2=2 ^ w-1 by rw[Nat.pow_succ];omega]
  congr 2
  unfold EO;rw[show (2 ^ (w+1)-1) % 2=1 by rw[Nat.pow_succ];omega];rfl
def num (l:List UInt8):Nat:=l.foldl (fun x c=>2*x+(c.toNat-48)) 0
theorem CJ (v:Nat):(EO v).toNat=48+v % 2:=by
 unfold EO;rw[UInt8.toNat_ofNat'];omega
theorem Ho (l:List UInt8)(c:UInt8):num (l ++ [c])=2*num l+(c.toNat-48):=by unfold num;rw[List.foldl_append];rfl
theorem ZW (w:Nat):∀ v:Nat,num (bs w v)=v % 2 ^ w:=by
 induction w with
 | zero=>intro v;rw[Nat.pow_zero,Nat.mod_one];rfl
 | succ w ih =>
  intro v;rw[bs,Ho,ih,CJ, ← Hf]
  have h1:v % 2 ^ (w+1) % 2=v % 2:=by rw[Nat.pow_succ,Nat.mul_comm,Nat.mod_mul_right_mod]
  omega
theorem ZZ (w:Nat):∀ v:Nat,(bs w v).contains 49=decide (v % 2 ^ w≠0):=by
 induction w with
 | zero=>intro v;rw[Nat.pow_zero,Nat.mod_one];rfl
 | succ w ih =>
  intro v
  have h1:v % 2 ^ (w+1) % 2=v % 2:=by rw[Nat.pow_succ,Nat.mul_comm,Nat.mod_mul_right_mod]
  have h2:=Hf v w
  have h3:(49 == EO v)=decide (v % 2=1):=by
   unfold EO
   rcases Nat.mod_two_eq_zero_or_one v with h|h <;> rw[h] <;> rfl
  rw[bs,List.contains_append];rw[show [EO v].contains 49=(49 == EO v) by simp only[List.contains_cons,List.contains_nil,Bool.or_false],ih,h3, ← Bool.decide_or];exact decide_eq_decide.2 (by omega)
def Tj (s:Int):Nat:=if 0≤s / 4 then (s / 4).toNat+2 else (-(s / 4)).toNat+1
def aac (s:Int):Nat:=if 0≤s / 4 then 2 ^ ((s / 4).toNat+2)-2 else 1
def hL (s:Int):Nat:=Tj s+2
def hV (s:Int):Nat:=aac s*4+(s % 4).toNat
theorem UZ (s:Int):4≤hL s:=by unfold hL Tj;split <;> omega
theorem acl (s:Int):aac s<2 ^ Tj s:=by
 unfold aac Tj
 split
 ·have:=two_pos ((s / 4).toNat+2);omega
 ·rename_i h
  obtain⟨m,hm⟩:∃ m,(-(s / 4)).toNat+1=m+1:=⟨_,rfl⟩
  rw[hm,Nat.pow_succ];have:=two_pos m;omega
theorem Xx (s:Int):hV s<2 ^ hL s:=by
 have h:=acl s;unfold hV hL;rw[Nat.pow_add];omega
def zX (s:Int)(F T:Nat):Nat:=hV s*2 ^ F+(T-2 ^ F)
def lft (r h:Nat)(c:Bool):Nat:=if h<r then 3 else if r=h then (if c=true then 3 else 2) else if 0<r∨c=true then 1 else 0
def xH (n:Nat)(s:Int)(F:Nat):Nat:=hL s+F-(n-1)
def BP (n:Nat)(s:Int)(F T:Nat):Nat:=zX s F T / 2 ^ xH n s F
def JA (n:Nat)(s:Int)(F T:Nat)(c:Bool):Nat:=lft (zX s F T % 2 ^ xH n s F) (2 ^ (xH n s F-1)) c
theorem FP (s:Int)(F j T:Nat)(h:2 ^ (F+j)≤T):zX s (F+j) T=zX s F (T / 2 ^ j)*2 ^ j+T % 2 ^ j:=by
 have hp:=two_pos j
 have h1:2 ^ F≤T / 2 ^ j:=by rw[Nat.le_div_iff_mul_le hp, ← Nat.pow_add];exact h
 have h2:=Nat.div_add_mod T (2 ^ j)
 have h3:(T / 2 ^ j-2 ^ F)*2 ^ j=T / 2 ^ j*2 ^ j-2 ^ (F+j):=by rw[Nat.sub_mul,Nat.pow_add]
 have h4:2 ^ (F+j)≤T / 2 ^ j*2 ^ j:=by rw[Nat.pow_add];exact Nat.mul_le_mul_right _ h1
 unfold zX;rw[Nat.add_mul,Nat.mul_assoc, ← Nat.pow_add,h3,Nat.mul_comm (2 ^ j)]at *
 omega
theorem yG (r g h j:Nat)(c:Bool)(hh:0<h)(hg:g<2 ^ j):lft (r*2 ^ j+g) (h*2 ^ j) c=lft r h (c || decide (g≠0)):=by
 have hp:=two_pos j;unfold lft
 by_cases h1:h<r
 ·rw[if_pos h1,if_pos]
  have:(h+1)*2 ^ j≤r*2 ^ j:=Nat.mul_le_mul_right _ h1;rw[Nat.add_mul]at this;omega
 ·by_cases h2:r=h
  ·subst h2
   by_cases h3:g=0
   ·subst h3;simp
   ·rw[if_pos (by omega),if_neg h1,if_pos rfl,if_pos (by simp[h3])]
  ·have:(r+1)*2 ^ j≤h*2 ^ j:=Nat.mul_le_mul_right _ (by omega)
   rw[Nat.add_mul]at this;rw[if_neg (by omega),if_neg (by omega),if_neg h1,if_neg h2]
   have h4:(0<r*2 ^ j+g∨c=true) ↔ (0<r∨(c || decide (g≠0))=true):=by
    have h5:0<r*2 ^ j ↔ 0<r:=Nat.mul_pos_iff_of_pos_right hp
    have h6:((c || decide (g≠0))=true) ↔ (c=true∨g≠0):=by simp
    rw[h6, ← h5]
    constructor
    ·rintro (h|h)
     ·by_cases h7:g=0
      ·exact .inl (by omega)
      ·exact .inr (.inr h7)
     ·exact .inr (.inl h)
    ·rintro (h|h|h)
     ·exact .inl (by omega)
     ·exact .inr h
     ·exact .inl (by omega)
   by_cases h5:0<r*2 ^ j+g∨c=true
   ·rw[if_pos h5,if_pos (h4.1 h5)]
   ·rw[if_neg h5,if_neg (fun h=>h5 (h4.2 h))]
theorem FV (n:Nat)(s:Int)(F j:Nat)(h:n-1≤hL s+F):xH n s (F+j)=xH n s F+j:=by unfold xH;omega
theorem PY (n:Nat)(s:Int)(F j T:Nat)(h:2 ^ (F+j)≤T)(hn:n-1≤hL s+F):BP n s (F+j) T=BP n s F (T / 2 ^ j):=by
 unfold BP;rw[FV n s F j hn,FP s F j T h,Nat.pow_add,Nat.mul_comm (2 ^ xH n s F), ← Nat.div_div_eq_div_mul,Nat.mul_comm _ (2 ^ j),Nat.mul_add_div (two_pos j),Nat.div_eq_of_lt (Nat.mod_lt _ (two_pos j)),Nat.add_zero]
theorem PR (n:Nat)(s:Int)(F j T:Nat)(c:Bool)(h:2 ^ (F+j)≤T)(hn:n-1<hL s+F):JA n s (F+j) T c=JA n s F (T / 2 ^ j) (c || decide (T % 2 ^ j≠0)):=by
 have hL1:1≤xH n s F:=by unfold xH;omega
 have hlt:=Nat.mod_lt T (two_pos j);unfold JA;rw[FV n s F j (by omega),FP s F j T h, ← yG _ _ _ _ _ (two_pos _) hlt]
 congr 1
 ·rw[Nat.pow_add,Nat.mul_comm (2 ^ xH n s F),Nat.mod_mul,Nat.mul_comm _ (2 ^ j),Nat.mul_add_mod,Nat.mod_mod,Nat.mul_add_div (two_pos j),Nat.div_eq_of_lt hlt,Nat.add_zero,Nat.mul_comm];omega
 ·rw[← Nat.pow_add];congr 1;omega
def Rel (W:Nat)(c:Bool)(X L:Nat)(c0:Bool):Prop := ∃ z,2 ^ 128*X=W*2 ^ L+z∧z<2 ^ L∧c=(c0 || decide (z≠0))
theorem Rel.start {f:Nat}(c:Bool):Rel (2*f) c f 127 c:=⟨0,by omega,two_pos _,by simp⟩
theorem Rel.under {W X L:Nat}{c c0:Bool}(h:Rel W c X L c0)(b m:Nat)(hm:m≤128):Rel (W / 2 ^ m+b*2 ^ (128-m)) (c || decide (W % 2 ^ m≠0)) (b*2 ^ L+X) (L+m) c0:=by
 obtain⟨z,h1,h2,h3⟩:=h;have e1:=Nat.div_add_mod W (2 ^ m)
 have e2:2 ^ (128-m)*2 ^ (L+m)=2 ^ 128*2 ^ L:=by rw[← Nat.pow_add, ← Nat.pow_add];congr 1;omega
 have e3:=Nat.mod_lt W (two_pos m);have e4:(W % 2 ^ m+1)*2 ^ L≤2 ^ m*2 ^ L:=Nat.mul_le_mul_right _ e3;refine⟨W % 2 ^ m*2 ^ L+z,?_,?_,?_⟩
 ·rw[Nat.mul_add,h1,Nat.add_mul,Nat.mul_assoc b,e2]
  have:W / 2 ^ m*2 ^ (L+m)+W % 2 ^ m*2 ^ L=W*2 ^ L:=by
   rw[Nat.pow_add,Nat.mul_comm (2 ^ L), ← Nat.mul_assoc, ← Nat.add_mul,Nat.mul_comm (W / 2 ^ m),e1]
  rw[Nat.mul_left_comm (2 ^ 128)];omega
 ·rw[Nat.pow_add,Nat.mul_comm (2 ^ L)];rw[Nat.add_mul]at e4;omega
 ·rw[h3,Bool.or_assoc, ← Bool.decide_or]
  congr 1
  refine decide_eq_decide.2 ?_
  have:W % 2 ^ m*2 ^ L=0 ↔ W % 2 ^ m=0:=by
   rw[Nat.mul_eq_zero];have:=two_pos L;omega
  omega
theorem JR (r h j:Nat)(c:Bool)(hh:0<h):lft (r*2 ^ j) (h*2 ^ j) c=lft r h c:=by
 have:=yG r 0 h j c hh (two_pos j)
 simpa using this
theorem Rel.cut {W X L n:Nat}{c c0:Bool}(h:Rel W c X L c0)(hn:1≤n)(hn2:n≤128)(hL:n≤L) :
  W / 2 ^ (129-n)=X / 2 ^ (L-(n-1))∧lft (W % 2 ^ (129-n)) (2 ^ (128-n)) c=lft (X % 2 ^ (L-(n-1))) (2 ^ (L-(n-1)-1)) c0:=by
 obtain⟨z,h1,h2,h3⟩:=h
 have e0:2 ^ 128*2 ^ (L-(n-1))=2 ^ L*2 ^ (129-n):=by rw[← Nat.pow_add, ← Nat.pow_add];congr 1;omega
 have e1:X / 2 ^ (L-(n-1))=(W*2 ^ L+z) / (2 ^ L*2 ^ (129-n)):=by rw[← e0, ← h1,Nat.mul_div_mul_left _ _ (two_pos 128)]
 have e2:2 ^ 128*(X % 2 ^ (L-(n-1)))=(W*2 ^ L+z) % (2 ^ L*2 ^ (129-n)):=by rw[← e0, ← h1,Nat.mul_mod_mul_left]
 rw[Nat.mul_comm W]at e1 e2;rw[← Nat.div_div_eq_div_mul,Nat.mul_add_div (two_pos L),Nat.div_eq_of_lt h2,Nat.add_zero]at e1;rw[Nat.mod_mul,Nat.mul_add_mod,Nat.mod_eq_of_lt h2,Nat.mul_add_div (two_pos L),Nat.div_eq_of_lt h2,Nat.add_zero]at e2;refine⟨e1.symm,?_⟩;rw[h3, ← JR (X % _) _ 128 c0 (two_pos _), ← yG _ z _ L _ (two_pos _) h2]
 congr 1
 ·rw[Nat.mul_comm (X % _),e2,Nat.mul_comm (2 ^ L)];omega
 ·rw[← Nat.pow_add, ← Nat.pow_add];congr 1;omega
theorem agC {W n:Nat}{c:Bool}(hn:1≤n)(hn2:n≤64):lft (W % 2 ^ (129-n)*2 ^ (n-1) / 2 ^ 64) (2 ^ 63) (c || decide (W % 2 ^ (129-n)*2 ^ (n-1) % 2 ^ 64≠0))=lft (W % 2 ^ (129-n)) (2 ^ (128-n)) c:=by
 rw[← yG _ _ _ 64 c (two_pos _) (Nat.mod_lt _ (two_pos 64)), ← JR (W % 2 ^ (129-n)) _ (n-1) c (two_pos _)]
 congr 1
 ·exact Nat.div_add_mod' _ _
 ·rw[← Nat.pow_add, ← Nat.pow_add];congr 1;omega
def rne (A C:Nat):Nat:=if C<2*(A % C)∨(2*(A % C)=C∧A / C % 2=1) then A / C+1 else A / C
theorem JQ (A C:Nat){m:Nat}(hm:0<m):rne (A*m) (C*m)=rne A C:=by
 unfold rne;rw[Nat.mul_mod_mul_right,Nat.mul_div_mul_right _ _ hm]
 have h1:C*m<2*(A % C*m) ↔ C<2*(A % C):=by rw[← Nat.mul_assoc];exact Nat.mul_lt_mul_right hm
 have h2:2*(A % C*m)=C*m ↔ 2*(A % C)=C:=by rw[← Nat.mul_assoc];exact Nat.mul_left_inj (by omega)
 by_cases h:C<2*(A % C)∨(2*(A % C)=C∧A / C % 2=1)
 ·rw[if_pos h,if_pos];rw[h1,h2];exact h
 ·rw[if_neg h,if_neg];rw[h1,h2];exact h
def rnd (p l:Nat):Nat:=if l=3∨(l=2∧p % 2=1) then p+1 else p
theorem abd {n F N C:Nat}(s:Int)(hC:0<C)(h1:C≤N)(hn:n-1<hL s+F) :
  rnd (BP n s F (N*2 ^ F / C)) (JA n s F (N*2 ^ F / C) (decide (N*2 ^ F % C≠0)))=rne ((hV s*C+(N-C))*2 ^ (n-1)) (C*2 ^ hL s):=by
 obtain⟨H,hH⟩:∃ H,2 ^ (xH n s F-1)=H:=⟨_,rfl⟩
 have hH0:0<H:=by rw[← hH];exact two_pos _
 have hK:2 ^ xH n s F=2*H:=by
  rw[← hH,Nat.mul_comm, ← Nat.pow_succ];congr 1;unfold xH;omega
 have hpow:2 ^ hL s*2 ^ F=2 ^ xH n s F*2 ^ (n-1):=by rw[← Nat.pow_add, ← Nat.pow_add];congr 1;unfold xH;omega
 obtain⟨T,hT⟩:∃ T,N*2 ^ F / C=T:=⟨_,rfl⟩
 obtain⟨z,hz⟩:∃ z,N*2 ^ F % C=z:=⟨_,rfl⟩
 have hzC:z<C:=by rw[← hz];exact Nat.mod_lt _ hC
 have hd:C*T+z=N*2 ^ F:=by rw[← hT, ← hz];exact Nat.div_add_mod _ _
 have hT1:2 ^ F≤T:=by rw[← hT,Nat.le_div_iff_mul_le hC,Nat.mul_comm];exact Nat.mul_le_mul_right _ h1
 obtain⟨X,hX⟩:∃ X,zX s F T=X:=⟨_,rfl⟩
 have hXd:(hV s*C+(N-C))*2 ^ F=C*X+z:=by
  rw[← hX];unfold zX;rw[Nat.add_mul,Nat.sub_mul, ← hd,Nat.mul_add,Nat.mul_sub,Nat.mul_comm (hV s) C,Nat.mul_assoc];have:=Nat.mul_le_mul_left C hT1
  omega
 have e1:rne ((hV s*C+(N-C))*2 ^ (n-1)) (C*2 ^ hL s)=rne (C*X+z) (C*(2*H)):=by
  rw[← JQ _ _ (two_pos F),Nat.mul_right_comm,hXd,Nat.mul_assoc C,hpow,hK, ← Nat.mul_assoc C,JQ _ _ (two_pos _)]
 have e2:(C*X+z) / (C*(2*H))=X / (2*H):=by rw[← Nat.div_div_eq_div_mul,Nat.mul_add_div hC,Nat.div_eq_of_lt hzC,Nat.add_zero]
 have e3:(C*X+z) % (C*(2*H))=C*(X % (2*H))+z:=by
  rw[Nat.mod_mul,Nat.mul_add_mod,Nat.mod_eq_of_lt hzC,Nat.mul_add_div hC,Nat.div_eq_of_lt hzC,Nat.add_zero,Nat.add_comm]
 rw[hT,hz,e1];unfold BP JA rnd rne lft;rw[hX,hH,hK,e2,e3]
 obtain⟨r,hr⟩:∃ r,X % (2*H)=r:=⟨_,rfl⟩
 rw[hr]
 have c1:C*(2*H)<2*(C*r+z) ↔ (H<r∨(r=H∧z≠0)):=by
  rw[show C*(2*H)=2*(C*H) by rw[Nat.mul_left_comm]]
  constructor
  ·intro h
   by_cases a:H<r
   ·exact .inl a
   ·by_cases b:r=H
    ·subst b;exact .inr ⟨rfl,by omega⟩
    ·exfalso
     have:C*(r+1)≤C*H:=Nat.mul_le_mul_left _ (by omega);rw[Nat.mul_add]at this;omega
  ·rintro (h|⟨h,hz⟩)
   ·have:C*(H+1)≤C*r:=Nat.mul_le_mul_left _ h
    rw[Nat.mul_add]at this;omega
   ·subst h;omega
 have c2:2*(C*r+z)=C*(2*H) ↔ (r=H∧z=0):=by
  rw[show C*(2*H)=2*(C*H) by rw[Nat.mul_left_comm]]
  constructor
  ·intro h
   by_cases a:H<r
   ·have:C*(H+1)≤C*r:=Nat.mul_le_mul_left _ a
    rw[Nat.mul_add]at this;omega
   ·by_cases b:r=H
    ·subst b;exact⟨rfl,by omega⟩
    ·exfalso
     have:C*(r+1)≤C*H:=Nat.mul_le_mul_left _ (by omega);rw[Nat.mul_add]at this;omega
  ·rintro⟨h,hz⟩;subst h;omega
 simp only[c1,c2]
 by_cases a:H<r
 ·simp[a]
 ·by_cases b:r=H
  ·subst b
   by_cases c:z=0
   ·simp[c]
   ·simp[c]
  ·simp only[a,b,if_false,false_and,or_self]
   split <;> simp
def up (s:Int)(N:Nat):Nat:=N*2 ^ (-s).toNat
def dn (s:Int)(C:Nat):Nat:=C*2 ^ s.toNat
def Sc (N C:Nat)(s:Int):Prop:=dn s C≤up s N∧up s N<2*dn s C
def top (n:Nat):Int:=4*(n:Int)-8
def sig (n:Nat)(s:Int)(N C:Nat):Nat:=rne ((hV s*dn s C+(up s N-dn s C))*2 ^ (n-1)) (dn s C*2 ^ hL s)
def pos (n:Nat)(s:Int)(N C:Nat):Nat:=if top n≤s then 2 ^ (n-1)-1 else if s < -top n then 1 else sig n s N C
theorem ZJ {s:Int}{C:Nat}(h:0<C):0<dn s C:=Nat.mul_pos h (two_pos _)
theorem UR {N C:Nat}{s:Int}(K:Nat)(h : -s≤K):Sc N C s ↔ C*2 ^ (s+K).toNat≤N*2 ^ K∧N*2 ^ K<2*(C*2 ^ (s+K).toNat):=by
 unfold Sc up dn
 by_cases h0:0≤s
 ·have e1:(-s).toNat=0:=by omega
  have e2:(s+K).toNat=s.toNat+K:=by omega
  have hp:=two_pos K;rw[e1,e2,Nat.pow_zero,Nat.mul_one,Nat.pow_add, ← Nat.mul_assoc C, ← Nat.mul_assoc 2 (C*2 ^ s.toNat)];rw[Nat.mul_le_mul_right_iff hp,Nat.mul_lt_mul_right hp]
 ·have e1:s.toNat=0:=by omega
  have e2:K=(-s).toNat+(s+K).toNat:=by omega
  have hp:=two_pos (s+K).toNat;rw[e1,Nat.pow_zero,Nat.mul_one]
  conv=>rhs;rw[show N*2 ^ K=N*2 ^ (-s).toNat*2 ^ (s+K).toNat by rw[Nat.mul_assoc, ← Nat.pow_add, ← e2]]
  rw[← Nat.mul_assoc 2,Nat.mul_le_mul_right_iff hp,Nat.mul_lt_mul_right hp]
theorem Fe {N C:Nat}{s:Int}(h:Sc N C s):0<C∧0<N:=by
 obtain⟨h1,h2⟩:=h
 have a:0<dn s C:=by omega
 have b:0<up s N:=by omega
 exact⟨Nat.pos_of_mul_pos_right a,Nat.pos_of_mul_pos_right b⟩
theorem XU {N C s N' C' s'}(h:Sc N C s)(h':Sc N' C' s')(hle:N*C'≤N' * C):s≤s':=by
 obtain⟨hC,hN⟩:=Fe h;obtain⟨hC',hN'⟩:=Fe h'
 apply Int.not_lt.1
 intro hlt
 obtain⟨K,hK⟩:∃ K:Nat, -s'≤K:=⟨(-s').toNat,by omega⟩
 obtain⟨a1,a2⟩:=(UR K (by omega)).1 h;obtain⟨b1,b2⟩:=(UR K hK).1 h'
 obtain⟨d,hd⟩:∃ d:Nat,(s+K).toNat=(s'+K).toNat+1+d:=⟨(s-s' - 1).toNat,by omega⟩
 obtain⟨P,hP⟩:∃ P,2 ^ (s'+K).toNat=P:=⟨_,rfl⟩
 rw[hP]at b1 b2;rw[hd,Nat.pow_add,Nat.pow_succ,hP]at a1;have c1:C*(P*2)≤N*2 ^ K:=Nat.le_trans (by rw[← Nat.mul_assoc C (P*2)];exact Nat.le_mul_of_pos_right _ (two_pos d)) a1;have c2:C*(P*2)*C'≤N*2 ^ K*C':=Nat.mul_le_mul_right _ c1;have c3:N' * 2 ^ K*C<2*(C' * P)*C:=Nat.mul_lt_mul_of_pos_right b2 hC;have c4:N*C' * 2 ^ K≤N' * C*2 ^ K:=Nat.mul_le_mul_right _ hle
 have e1:C*(P*2)*C'=2*(C' * P)*C:=by ac_rfl
 have e2:N*2 ^ K*C'=N*C' * 2 ^ K:=Nat.mul_right_comm _ _ _;have e3:N' * 2 ^ K*C=N' * C*2 ^ K:=Nat.mul_right_comm _ _ _
 omega
theorem acF {N C s s'}(h:Sc N C s)(h':Sc N C s'):s=s':=by
 have:=XU h h' (Nat.le_refl _);have:=XU h' h (Nat.le_refl _)
 omega
structure Rep (N C:Nat) (s:Int) (hi:Nat) (st:Bool):Prop where
 sc:Sc N C s
 eq:hi=up s N*2 ^ 63 / dn s C
 st:st=decide (up s N*2 ^ 63 % dn s C≠0)
theorem Rep.sig {N C s hi st}(h:Rep N C s hi st){n:Nat}(hn:n≤64):rnd (BP n s 63 hi) (JA n s 63 hi st)=sig n s N C:=by
 have hL4:=UZ s;rw[h.eq,h.st];exact abd s (ZJ (Fe h.sc).1) h.sc.1 (by omega)
theorem UO (K A c:Nat)(hK:0<K)(hc:0<c):A*K / c / K=A / c∧decide (A % c≠0)=(decide (A*K % c≠0) || decide (A*K / c % K≠0)):=by
 have hr:=Nat.mod_lt A hc;have hd:=Nat.div_add_mod A c
 obtain⟨q,hq⟩:∃ q,A / c=q:=⟨_,rfl⟩
 obtain⟨r,hr'⟩:∃ r,A % c=r:=⟨_,rfl⟩
 rw[hq,hr']at hd;rw[hr']at hr
 have e1:A*K=c*(q*K)+r*K:=by rw[← hd,Nat.add_mul,Nat.mul_assoc]
 have e2:A*K / c=K*q+r*K / c:=by rw[e1,Nat.mul_add_div hc,Nat.mul_comm q]
 have e3:A*K % c=r*K % c:=by rw[e1,Nat.mul_add_mod]
 have e4:r*K / c<K:=by rw[Nat.div_lt_iff_lt_mul hc,Nat.mul_comm];exact Nat.mul_lt_mul_of_pos_left hr hK
 have d2:=Nat.div_add_mod (r*K) c;rw[e2,e3,hq,hr']
 obtain⟨y,hy⟩:∃ y,r*K / c=y:=⟨_,rfl⟩
 obtain⟨z,hz⟩:∃ z,r*K % c=z:=⟨_,rfl⟩
 rw[hy]at e4 d2 ⊢;rw[hz]at d2 ⊢;rw[Nat.mul_add_div hK,Nat.div_eq_of_lt e4,Nat.add_zero,Nat.mul_add_mod,Nat.mod_eq_of_lt e4, ← Bool.decide_or];refine⟨rfl,decide_eq_decide.2 ?_⟩
 constructor
 ·intro h
  by_cases hz0:z=0
  ·right;intro hy0;subst hy0;subst hz0
   rw[Nat.mul_zero,Nat.add_zero]at d2;rcases Nat.mul_eq_zero.1 d2.symm with a|a
   ·exact h a
   ·omega
  ·left;exact hz0
 ·intro h hr0
  subst hr0;rw[Nat.zero_mul,Nat.zero_div]at hy;rw[Nat.zero_mul,Nat.zero_mod]at hz
  omega
theorem Rep.agz {N C:Nat}{s:Int}{T:Nat}{c:Bool}(h:Sc N C s)(hT:T=up s N*2 ^ 127 / dn s C)(hc:c=decide (up s N*2 ^ 127 % dn s C≠0)):Rep N C s (T / 2 ^ 64) (c || decide (T % 2 ^ 64≠0)):=by
 have hd:=ZJ (s:=s) (Fe h).1
 have e:up s N*2 ^ 127=up s N*2 ^ 63*2 ^ 64:=by rw[Nat.mul_assoc, ← Nat.pow_add]
 obtain⟨h1,h2⟩:=UO (2 ^ 64) (up s N*2 ^ 63) (dn s C) (two_pos _) hd;exact⟨h,by rw[hT,e];exact h1,by rw[hc,hT,e];exact h2.symm⟩
theorem scaled (N C u b F:Nat)(hb:1≤b)(hC:0<C) :
  up ((b:Int)-1-u) N*2 ^ F / dn ((b:Int)-1-u) C=N*2 ^ u*2 ^ F / (C*2 ^ (b-1)) ∧
  decide (up ((b:Int)-1-u) N*2 ^ F % dn ((b:Int)-1-u) C≠0)=decide (N*2 ^ u*2 ^ F % (C*2 ^ (b-1))≠0):=by
 obtain⟨x,hx1,hx2⟩:∃ x,up ((b:Int)-1-u) N*2 ^ F*2 ^ x=N*2 ^ u*2 ^ F∧dn ((b:Int)-1-u) C*2 ^ x=C*2 ^ (b-1):=by
  by_cases h:0≤(b:Int)-1-u
  ·refine⟨u,?_,?_⟩
   ·unfold up;rw[show (-((b:Int)-1-u)).toNat=0 by omega,Nat.pow_zero,Nat.mul_one];ac_rfl
   ·unfold dn;rw[Nat.mul_assoc, ← Nat.pow_add,show ((b:Int)-1-u).toNat+u=b-1 by omega]
  ·refine⟨b-1,?_,?_⟩
   ·unfold up;rw[Nat.mul_right_comm,Nat.mul_assoc N, ← Nat.pow_add,show (-((b:Int)-1-u)).toNat+(b-1)=u by omega]
   ·unfold dn;rw[show ((b:Int)-1-u).toNat=0 by omega,Nat.pow_zero,Nat.mul_one]
 rw[← hx1, ← hx2,Nat.mul_div_mul_right _ _ (two_pos x),Nat.mul_mod_mul_right];refine⟨rfl,decide_eq_decide.2 ?_⟩;have:=two_pos x;rw[Ne,Ne,Nat.mul_eq_zero];omega
theorem afZ {N C u q r b F:Nat}(hC:0<C)(hq:N*2 ^ u=C*q+r)(hr:r<C)(hF:F+1≤b) :
  up ((b:Int)-1-u) N*2 ^ F / dn ((b:Int)-1-u) C=q / 2 ^ (b-1-F) ∧
  decide (up ((b:Int)-1-u) N*2 ^ F % dn ((b:Int)-1-u) C≠0)=(decide (q % 2 ^ (b-1-F)≠0) || decide (r≠0)):=by
 obtain⟨e1,e2⟩:=scaled N C u b F (by omega) hC;rw[e1,e2,hq]
 have e3:C*2 ^ (b-1)=C*2 ^ (b-1-F)*2 ^ F:=by rw[Nat.mul_assoc, ← Nat.pow_add];congr 2;omega
 rw[e3,Nat.mul_div_mul_right _ _ (two_pos F),Nat.mul_mod_mul_right, ← Nat.div_div_eq_div_mul,Nat.mul_add_div hC,Nat.div_eq_of_lt hr,Nat.add_zero];refine⟨rfl,?_⟩;rw[Nat.mod_mul,Nat.mul_add_mod,Nat.mod_eq_of_lt hr,Nat.mul_add_div hC,Nat.div_eq_of_lt hr,Nat.add_zero, ← Bool.decide_or];refine decide_eq_decide.2 ?_;have:=two_pos F;rw[Ne,Nat.mul_eq_zero,Nat.add_eq_zero_iff,Nat.mul_eq_zero];omega
theorem agd {N C u q b F:Nat}(hC:0<C)(hq:N*2 ^ u=C*q)(hb:1≤b)(hF:b≤F+1) :
  up ((b:Int)-1-u) N*2 ^ F / dn ((b:Int)-1-u) C=q*2 ^ (F+1-b) ∧
  decide (up ((b:Int)-1-u) N*2 ^ F % dn ((b:Int)-1-u) C≠0)=false:=by
 obtain⟨e1,e2⟩:=scaled N C u b F hb hC
 have e3:C*q*2 ^ F=C*2 ^ (b-1)*(q*2 ^ (F+1-b)):=by
  rw[show C*2 ^ (b-1)*(q*2 ^ (F+1-b))=C*q*(2 ^ (b-1)*2 ^ (F+1-b)) by ac_rfl, ← Nat.pow_add];congr 2;omega
 rw[e1,e2,hq,e3,Nat.mul_div_cancel_left _ (Nat.mul_pos hC (two_pos _)),Nat.mul_mod_right];exact⟨rfl,by simp⟩
theorem ScQ {N C u q r b:Nat}(hC:0<C)(hq:N*2 ^ u=C*q+r)(hr:r<C)(h1:2 ^ (b-1)≤q)(h2:q<2 ^ b)(hb:1≤b):Sc N C ((b:Int)-1-u):=by
 rw[UR u (by omega),show ((b:Int)-1-u+u).toNat=b-1 by omega,hq];have a1:=Nat.mul_le_mul_left C h1;have a2:C*(q+1)≤C*2 ^ b:=Nat.mul_le_mul_left C h2
 obtain⟨m,rfl⟩:∃ m,b=m+1:=⟨b-1,by omega⟩
 rw[Nat.pow_succ, ← Nat.mul_assoc,Nat.mul_add]at a2;rw[Nat.add_sub_cancel]at a1 ⊢
 omega
theorem Rep.ofQ {N C u q r b:Nat}(hC:0<C)(hq:N*2 ^ u=C*q+r)(hr:r<C)(h1:2 ^ (b-1)≤q)(h2:q<2 ^ b)(hb:64≤b) :
  Rep N C ((b:Int)-1-u) (q / 2 ^ (b-64)) (decide (q % 2 ^ (b-64)≠0) || decide (r≠0)):=by
 obtain⟨e1,e2⟩:=afZ (F:=63) hC hq hr (by omega);rw[show b-1-63=b-64 by omega]at e1 e2;exact⟨ScQ hC hq hr h1 h2 (by omega),e1.symm,e2.symm⟩
theorem Rep.ofE {N C u q b:Nat}(hC:0<C)(hq:N*2 ^ u=C*q)(h1:2 ^ (b-1)≤q)(h2:q<2 ^ b)(hb:1≤b)(hb2:b≤64) :
  Rep N C ((b:Int)-1-u) (q*2 ^ (64-b)) false:=by
 obtain⟨e1,e2⟩:=agd (F:=63) hC hq hb (by omega);exact⟨ScQ (r:=0) hC (by rw[hq,Nat.add_zero]) hC h1 h2 hb,e1.symm,e2.symm⟩
theorem Rep.agb {N C u q r b:Nat}(hC:0<C)(hq:N*2 ^ u=C*q+r)(hr:r<C)(h1:2 ^ (b-1)≤q)(h2:q<2 ^ b)(hb:128≤b) :
  Rep N C ((b:Int)-1-u) (q / 2 ^ (b-128) / 2 ^ 64) ((decide (q % 2 ^ (b-128)≠0) || decide (r≠0)) || decide (q / 2 ^ (b-128) % 2 ^ 64≠0)):=by
 obtain⟨e1,e2⟩:=afZ (F:=127) hC hq hr (by omega);rw[show b-1-127=b-128 by omega]at e1 e2;exact Rep.agz (ScQ hC hq hr h1 h2 (by omega)) e1.symm e2.symm
theorem Rep.afP {N C u q b:Nat}(hC:0<C)(hq:N*2 ^ u=C*q)(h1:2 ^ (b-1)≤q)(h2:q<2 ^ b)(hb:1≤b)(hb2:b≤128) :
  Rep N C ((b:Int)-1-u) (q*2 ^ (128-b) / 2 ^ 64) (decide (q*2 ^ (128-b) % 2 ^ 64≠0)):=by
 obtain⟨e1,e2⟩:=agd (F:=127) hC hq hb (by omega);have:=Rep.agz (c:=false) (ScQ (r:=0) hC (by rw[hq,Nat.add_zero]) hC h1 h2 hb) e1.symm e2.symm
 rwa [Bool.false_or]at this
end Go.Proofs.Yy.TA
end
section
namespace Go.Proofs.Yy.Bd
open Go.Shelf Go.RowKit
structure Kept (p:Prop):Prop where
 out:p
abbrev IsB (B b:Nat) (l:List UInt8) (w:World):Prop:=Lib.IsBuilderF 111 5 B b (Lib.byteCells l) w
theorem uN (l:List UInt8):(Lib.byteCells l).length=l.length:=List.length_map ..
theorem write (B b:Nat)(l:List UInt8)(s:ByteArray)(w:World)(h:IsB B b l w)(hlen:l.length+s.size≤140737488355328)(hBw:B≤w.heap.size) :
  Calls Tryz.prog 68 #[.pointer (some ⟨b,0,none⟩),.string s] w fun e w'=>e=.returned (.tuple #[.int .i64 s.size,.nilIface])∧IsB B b (l++s.data.toList) w'∧Below B w w':=by
 refine (Any.Builder_WriteString_f { Tryz.lays105 with } Tryz.Builder_Extra_105 B b (Lib.byteCells l) s w h (by rw[uN];exact hlen) hBw).mono ?_;rintro e w' ⟨he,h1,h2⟩;refine⟨he,.inr ?_,h2⟩
 have e2:Lib.byteCells (l++s.data.toList)=Lib.byteCells l++Lib.strCells s:=by simp[Lib.byteCells,Lib.strCells]
 rw[e2];exact h1
theorem made (w:World):IsB w.heap.size w.heap.size [] (w.alloc (.cells #[.pointer none,.slice none 0 0] 111)):=by
 rcases Lib.fresh_isBuilder 111 5 w with h|h
 ·exact .inl (Lib.BuilderAtF.of h)
 ·exact .inr (Lib.BuilderAtF.of h)
theorem NZ {B b:Nat}{p:Value}{bs:List Value}{w w':World}(h:Lib.BuilderAtF 111 5 B b p bs w)(hb:Below w.heap.size w w'):Lib.BuilderAtF 111 5 B b p bs w':=by
 obtain⟨hB,v,hbk,hown,hne⟩:=h;have hlt:b<w.heap.size:=(Array.getElem?_eq_some_iff.1 hbk).1;refine⟨hB,v,by rw[hb.block b hlt];exact hbk,?_,hne⟩;obtain⟨h1,h2⟩:=hown;refine⟨h1,?_⟩;rcases h2 with h2|⟨g,cap,cur,fz,hv,hBg,hg,r⟩
 ·exact .inl h2
 ·exact .inr ⟨g,cap,cur,fz,hv,hBg,by rw[hb.block g (Array.getElem?_eq_some_iff.1 hg).1];exact hg,r⟩
theorem IsB.below {B b:Nat}{l:List UInt8}{w w':World}(h:IsB B b l w)(hb:Below w.heap.size w w'):IsB B b l w':=by
 rcases h with h|h
 ·exact .inl (NZ h hb)
 ·exact .inr (NZ h hb)
theorem copyCheck (B b:Nat)(bs:List Value)(w:World)(h:Lib.IsBuilderF 111 5 B b bs w) :
  Calls Tryz.prog 121 #[.pointer (some ⟨b,0,none⟩)] w fun e w'=>e=.returned (.tuple #[])∧(Lib.BuilderAtF 111 5 B b (.pointer (some ⟨b,0,none⟩)) bs w'∧Below B w w') :=
 Any.Builder_copyCheck_f { Tryz.lays105 with } Tryz.Builder_Extra_105.toX72 B b bs w h
set_option maxHeartbeats 2000000 in
set_option maxRecDepth 100000 in
theorem writeByte (B b:Nat)(l:List UInt8)(c:UInt8)(w:World)(h:IsB B b l w)(hlen:l.length+1≤140737488355328)(hBw:B≤w.heap.size) :
  Calls Tryz.prog 67 #[.pointer (some ⟨b,0,none⟩),.int .u8 (c.toNat:Int)] w fun e w'=>e=.returned .nilIface∧IsB B b (l ++ [c]) w'∧Below B w w':=by
 have hinfo:(Tryz.prog.info? 5).map (fun i=>(i.zero,i.size,i.bytes))=some (some (.int .u8 0),1,1):=by kernel_rfl
 obtain⟨i0,hi,he⟩:=Option.map_eq_some_iff.1 hinfo;simp only[Prod.mk.injEq]at he;obtain⟨hz0,hz1,hz2⟩:=he
 go_enter Tryz.func67,Tryz.ntmps67
 go_wp2_with (go_at_call 121;refine (copyCheck B b (Lib.byteCells l) _ h).mono ?_)
 rintro e w1 ⟨rfl,h1,hb1⟩;obtain⟨hB,v,hbk,hown,hne⟩:=h1
 have c0:w1.cell? ⟨b,0,none⟩=some (.pointer (some ⟨b,0,none⟩)):=by rw[Lib.cell_of_heap hbk];rfl
 have c1:w1.cell? ⟨b,1,none⟩=some v:=by rw[Lib.cell_of_heap hbk];rfl
 go_wp2_with (at_builtin;refine wpList_append_ownF _ rfl _ _ 104 rfl B 5 i0 (.int .u8 0) 1 1 Tryz.underlying104 hi hz0 hz1 hz2 rfl (by decide) _ _ _ rfl (hown.alloc _) ⟨w1.heap.size,0,none⟩ 1 1 [.int .u8 (c.toNat:Int)] rfl rfl ?c1 ?c2 ?c3 ?c4 ?c5 ?_)
 case c1 =>
  intro j u hj
  match j,hj with
  | 0,hj=>simp at hj;subst hj;simp[Addr.add]
 case c2=>intro u hu;simp at hu;subst hu;rfl
 case c3=>rw[uN];unfold maxLen;omega
 case c4=>rw[uN];omega
 case c5=>have:=hb1.size;simp;omega
 intro v' w2 hown' hgrow _;have hlt:b<w1.heap.size:=(Array.getElem?_eq_some_iff.1 hbk).1
 have hb2:w2.heap[b]? = some (.cells #[.pointer (some ⟨b,0,none⟩),v] 111 (0,0)):=by
  rw[hgrow.block b (by simp;omega) (fun e=>hne e.symm),Lib.alloc_old w1 _ b hlt];exact hbk
 have d0:w2.cell? ⟨b,0,none⟩=some (.pointer (some ⟨b,0,none⟩)):=by rw[Lib.cell_of_heap hb2];rfl
 have d1:w2.cell? ⟨b,1,none⟩=some v:=by rw[Lib.cell_of_heap hb2];rfl
 have f1:w2.frozen? ⟨b,1,none⟩=false:=Lib.frozen_of_heap hb2 1
 obtain⟨g,cap,rfl⟩:∃ g cap,v'=.slice (some ⟨g,0,none⟩) ((Lib.byteCells l).length+1) cap:=by
  rcases hown'.2 with⟨_,h0⟩|⟨g,cap,cur,fz,hv,_⟩
  ·omega
  ·exact⟨g,cap,hv⟩
 have hput:=Lib.BuilderAtF.put (T:=111) (e:=5) hB hb2 (bs':=Lib.byteCells l ++ [.int .u8 (c.toNat:Int)]) (by simpa using hown') (by decide);have hbel:=((hb1.alloc (by have:=hb1.size;omega) (.cells #[.int .u8 (c.toNat:Int)] 5)).grown hgrow (by have:=hb1.size;simp;omega) (fun k hk=>(hown.lt k hk).1)).setCell (p:=⟨b,1,none⟩) hB (.slice (some ⟨g,0,none⟩) ((Lib.byteCells l).length+1) cap);have KP:=Kept.mk hput;have KB:=Kept.mk hbel;clear hput hbel hown' hgrow
 go_wp2
 go_ret
 refine⟨rfl,.inr ?_,KB.out⟩
 have e2:Lib.byteCells (l ++ [c])=Lib.byteCells l ++ [.int .u8 (c.toNat:Int)]:=by simp[Lib.byteCells]
 rw[e2];exact KP.out
end Go.Proofs.Yy.Bd
end
section
namespace Go.Proofs.Yy.M
theorem Lc {P:Program}(t e:TypeId)(kh km:IntKind){i:TypeInfo}(ht:P.underlying t=some (.slice e))(hi:P.info? e=some i)(A:Option Addr)(n c:Nat)(j:Int)(h0:0≤j)(hm:j≤n)(hc:n≤c) :
  ∀ W:World,(Instr.slice t (.slice A n c) none (some (.int kh j)) (some (.int km j))).run P W=.ok (.slice A j.toNat j.toNat) W:=by
 intro W
 have hel:P.elem t=e:=by simp[Program.elem,ht]
 have hu:P.underlying t=some (.slice (P.elem t)):=by rw[hel];exact ht
 have ha:(A.map fun x=>x.add 0)=A:=by cases A <;> simp[Addr.add]
 rw[run_slice_hm W t A n c hu kh km j j h0 (Int.le_refl _) (by omega),hel];simp[sizeOf,typeInfo,hi,sliced,Result.andThen,ha]
theorem Ba {P:Program}{ops:Array Oper}{Q:Exit→Act→World→Prop}{rest:List Oper}{oi:Oper}{a:Act}{w:World}(N:Option Tmp)(hd:oi.dst=N)(hg:oi.guard=none){f:FuncId}{xs:Array Operand}{ts:Array TypeId}(args:Array Value)(v:Value)
  (hop:oi.op=.call { callee := .value (.func f),args:=xs,argTypes:=ts }) (hargs:xs.map a.eval=args) (hrun:∀ w:World,(callFunc f args).run P w=.ok (.value v) w)
  (h:wpList P ops Q rest (a.put N v) w):wpList P ops Q (oi::rest) a w:=by
 refine wpList_plain hg fun K hK=>?_
 have hr:(execOp a.eval oi).run P w=.ok (.value v) w:=by
  unfold execOp;simp[hop,resolve,Deferred.ofValue,invoke,Act.eval,hargs,hrun]
 unfold Oper.wp;rw[hr,Oper.upon_value];subst hd;exact hK _ _ h
def fK (x y c:Int):Int:=(((x.toNat+y.toNat+c.toNat) % 18446744073709551616:Nat):Int)
def iG (x y c:Int):Int:=(((x.toNat+y.toNat+c.toNat) / 18446744073709551616:Nat):Int)
def ji (x y b:Int):Int:=(((x.toNat+18446744073709551616-y.toNat-b.toNat) % 18446744073709551616:Nat):Int)
def kQ (x y b:Int):Int:=((if x.toNat<y.toNat+b.toNat then 1 else 0:Nat):Int)
def Cc:Array Value→Sem Value:=fun args=>do
 let (x, y, b) ← Extern.MathBitsCarry.three "Sub64" args
 pure (Extern.MathBitsCarry.pair ((x+Extern.MathBitsCarry.m64-y-b) % Extern.MathBitsCarry.m64) (if x<y+b then 1 else 0))
theorem dP (x y c:Int)(hc:c≤1)(w:World) :
  (callFunc 191 #[.int .u64 x,.int .u64 y,.int .u64 c]).run Tryz.prog w=.ok (.value (.tuple #[.int .u64 (fK x y c),.int .u64 (iG x y c)])) w:=by
 rw[run_callFunc_extern Tryz.func191 (by kernel_rfl) (by kernel_rfl) (by kernel_rfl) (e:=add64Entry) (by kernel_rfl)]
 have key:(add64Entry #[.int .u64 x,.int .u64 y,.int .u64 c]).run Tryz.prog w=.ok (.tuple #[.int .u64 (fK x y c),.int .u64 (iG x y c)]) w:=by
  cases c with
  | ofNat k =>
   have:k=0∨k=1:=by have:(k:Int)≤1:=hc;omega
   rcases this with rfl|rfl <;> rfl
  | negSucc k=>rfl
 rw[key]
 rfl
theorem eU (x y b:Int)(hb:b≤1)(w:World) :
  (callFunc 215 #[.int .u64 x,.int .u64 y,.int .u64 b]).run Tryz.prog w=.ok (.value (.tuple #[.int .u64 (ji x y b),.int .u64 (kQ x y b)])) w:=by
 rw[run_callFunc_extern Tryz.func215 (by kernel_rfl) (by kernel_rfl) (by kernel_rfl) (e:=Cc) (by kernel_rfl)]
 have key:(Cc #[.int .u64 x,.int .u64 y,.int .u64 b]).run Tryz.prog w=.ok (.tuple #[.int .u64 (ji x y b),.int .u64 (kQ x y b)]) w:=by
  cases b with
  | ofNat k =>
   have:k=0∨k=1:=by have:(k:Int)≤1:=hb;omega
   rcases this with rfl|rfl <;> rfl
  | negSucc k=>rfl
 rw[key]
 rfl
theorem al7:Tryz.prog.underlying 27=some (.interface (Tryz.prog.methodsAt 27)):=by kernel_rfl
theorem agp:Tryz.prog.underlying 64=some (.int .i64):=by kernel_rfl
theorem agq:(Tryz.prog.info? 64).map (·.comparable)=some true:=by kernel_rfl
theorem FU (d:Nat)(a b:Int)(w:World):(Op.equalIn (d+2) 27 (.iface 64 (.int .i64 a)) (.iface 64 (.int .i64 b))).run Tryz.prog w=.ok (a == b) w:=by
 obtain⟨i,hinfo,hcomp⟩:=Option.map_eq_some_iff.1 agq;simp[Op.equalIn,run_underlying al7,run_underlying agp,typeInfo,hinfo,hcomp]
theorem F7 (d:Nat)(b:Int)(w:World):(Op.equalIn (d+1) 27 .nilIface (.iface 64 (.int .i64 b))).run Tryz.prog w=.ok false w:=by
 simp[Op.equalIn,run_underlying al7]
theorem lV (a b:Int)(w:World):(binOp .eql 27 (.iface 64 (.int .i64 a)) (.iface 64 (.int .i64 b))).run Tryz.prog w=.ok (.bool (a == b)) w:=by
 simp only[binOp];simp[Op.equal,Op.maxDepth,FU 9998 a b w]
theorem lW (a b:Int)(w:World):(binOp .neq 27 (.iface 64 (.int .i64 a)) (.iface 64 (.int .i64 b))).run Tryz.prog w=.ok (.bool (a != b)) w:=by
 simp only[binOp];simp[Op.equal,Op.maxDepth,FU 9998 a b w,bne]
theorem lX (b:Int)(w:World):(binOp .eql 27 .nilIface (.iface 64 (.int .i64 b))).run Tryz.prog w=.ok (.bool false) w:=by
 simp only[binOp];simp[Op.equal,Op.maxDepth,F7 9999 b w]
theorem lU (b:Int)(w:World):(binOp .neq 27 .nilIface (.iface 64 (.int .i64 b))).run Tryz.prog w=.ok (.bool true) w:=by
 simp only[binOp];simp[Op.equal,Op.maxDepth,F7 9999 b w]
end Go.Proofs.Yy.M
end
section
namespace Go.Proofs.Yw.PrintWords
theorem jM.one {α:Type}{R:α→List Value→Prop}{ps:List α}{cs:List Value}{p:α}{v:Value}(hp:R p [v])(h:jM R 1 ps cs):jM R 1 (p::ps) (v::cs):=by
 refine⟨by simp[h.1],fun j q hq=>?_⟩
 cases j with
 | zero =>
  simp only[List.getElem?_cons_zero,Option.some.injEq]at hq;subst hq
  simpa using hp
 | succ j =>
  simp only[List.getElem?_cons_succ]at hq;have h1:=h.2 j q hq
  simpa [Nat.mul_one] using h1
theorem jM.front {α:Type}{R:α→List Value→Prop}{size:Nat}{ps:List α}{cs c all:List Value}{p:α}(hp:R p c)(hc:c.length=size)(h:jM R size ps cs)(ha:c++cs=all):jM R size (p::ps) all:=by
 subst ha;refine⟨by rw[List.length_append,hc,h.1,List.length_cons,Nat.succ_mul,Nat.add_comm],fun j q hq=>?_⟩
 cases j with
 | zero =>
  simp only[List.getElem?_cons_zero,Option.some.injEq]at hq;subst hq;rw[Nat.zero_mul,List.drop_zero,List.take_append_of_le_length (by omega),List.take_of_length_le (by omega)];exact hp
 | succ j =>
  simp only[List.getElem?_cons_succ]at hq;have h1:=h.2 j q hq;rw[Nat.succ_mul,List.drop_append,List.drop_of_length_le (by rw[hc];exact Nat.le_add_left _ _),List.nil_append,hc,Nat.add_sub_cancel];exact h1
theorem jM.c2 {α:Type}{R:α→List Value→Prop}{ps:List α}{cs:List Value}{p:α}{va vb:Value}(hp:R p [va,vb])(h:jM R 2 ps cs):jM R 2 (p::ps) (va::vb::cs):=jM.front hp rfl h rfl
theorem jM.c3 {α:Type}{R:α→List Value→Prop}{ps:List α}{cs:List Value}{p:α}{va vb vc:Value}(hp:R p [va,vb,vc])(h:jM R 3 ps cs):jM R 3 (p::ps) (va::vb::vc::cs):=jM.front hp rfl h rfl
theorem jM.c4 {α:Type}{R:α→List Value→Prop}{ps:List α}{cs:List Value}{p:α}{va vb vc vd:Value}(hp:R p [va,vb,vc,vd])(h:jM R 4 ps cs):jM R 4 (p::ps) (va::vb::vc::vd::cs):=jM.front hp rfl h rfl
theorem jM.c5 {α:Type}{R:α→List Value→Prop}{ps:List α}{cs:List Value}{p:α}{va vb vc vd ve:Value}(hp:R p [va,vb,vc,vd,ve])(h:jM R 5 ps cs):jM R 5 (p::ps) (va::vb::vc::vd::ve::cs):=jM.front hp rfl h rfl
theorem jM.c6 {α:Type}{R:α→List Value→Prop}{ps:List α}{cs:List Value}{p:α}{va vb vc vd ve vf:Value}(hp:R p [va,vb,vc,vd,ve,vf])(h:jM R 6 ps cs):jM R 6 (p::ps) (va::vb::vc::vd::ve::vf::cs):=jM.front hp rfl h rfl
theorem jM.c7 {α:Type}{R:α→List Value→Prop}{ps:List α}{cs:List Value}{p:α}{va vb vc vd ve vf vg:Value}(hp:R p [va,vb,vc,vd,ve,vf,vg])(h:jM R 7 ps cs):jM R 7 (p::ps) (va::vb::vc::vd::ve::vf::vg::cs):=jM.front hp rfl h rfl
theorem jM.c8 {α:Type}{R:α→List Value→Prop}{ps:List α}{cs:List Value}{p:α}{va vb vc vd ve vf vg vh:Value}(hp:R p [va,vb,vc,vd,ve,vf,vg,vh])(h:jM R 8 ps cs):jM R 8 (p::ps) (va::vb::vc::vd::ve::vf::vg::vh::cs):=jM.front hp rfl h rfl
theorem jM.c9 {α:Type}{R:α→List Value→Prop}{ps:List α}{cs:List Value}{p:α}{va vb vc vd ve vf vg vh vi:Value}(hp:R p [va,vb,vc,vd,ve,vf,vg,vh,vi])(h:jM R 9 ps cs):jM R 9 (p::ps) (va::vb::vc::vd::ve::vf::vg::vh::vi::cs):=jM.front hp rfl h rfl
theorem jM.c10 {α:Type}{R:α→List Value→Prop}{ps:List α}{cs:List Value}{p:α}{va vb vc vd ve vf vg vh vi vj:Value}(hp:R p [va,vb,vc,vd,ve,vf,vg,vh,vi,vj])(h:jM R 10 ps cs):jM R 10 (p::ps) (va::vb::vc::vd::ve::vf::vg::vh::vi::vj::cs):=jM.front hp rfl h rfl
end Go.Proofs.Yw.PrintWords
end
section
namespace Go.Proofs.Yy.Fmt
open Go.Shelf Go.RowKit Go.Sort Go.Lib
def alN (w : World) : Prop := Lib.TabIs Tryz.prog w "internal/strconv.uint64pow10" .u64 Lib.pow10Tab
theorem below_grow (w:World)(k:Nat)(os:Array Obj):Below w.heap.size w (grow (w.drewN k) os) :=
 ⟨rfl,rfl,rfl,by show w.heap.size≤(w.heap++os).size;simp,fun i hi=>by show (w.heap++os)[i]? = _;rw[Array.getElem?_append_left hi]⟩
set_option maxHeartbeats 3200000 in
set_option maxRecDepth 100000 in
theorem BA (u:Nat)(hu64:u<18446744073709551616)(w:World)(htab:alN w) :
  Calls Tryz.prog 165 #[.int .u64 u,.int .i64 10] w fun e w'=>e=.returned (.string ⟨(Lib.decDigits u).toArray⟩)∧∃ k os,w'=grow (w.drewN k) os:=by
 by_cases hs:u<100
 ·go_enter Tryz.func165,Tryz.ntmps165
  go_wp2_with (go_at_call 198;refine (Tryz.internal_strconv_small u hs _).mono ?_;rintro e w' ⟨rfl,rfl⟩)
  go_ret
  exact⟨rfl,0,#[],by simp[World.drewN_zero]⟩
 ·have hu1:1≤u:=by omega
  have hnd20:Lib.nDigits u≤20:=by have:=Lib.numDigits_eq u hu1 hu64;split at this <;> omega
  have hb3:Lib.nDigits u≤24:=by omega
  have hal:Tryz.prog.arrayLen 268=24:=by kernel_rfl
  have hsl1:∀ W,(Instr.sliceAt 268 (.pointer (some ⟨w.heap.size,0,none⟩)) none (some (.int .i64 (Lib.nDigits u:Int))) none).run Tryz.prog W=.ok (.slice (some ⟨w.heap.size,0,none⟩) (Lib.nDigits u) 24) W:=fun W=>by
   rw[run_sliceAt_array_h W 268 ⟨w.heap.size,0,none⟩ (by simp[Program.arrayLen,Program.elem,Tryz.underlying268]) .i64 (Lib.nDigits u:Int) (by omega) (by rw[hal];omega)]
   go_simp
  have hH0:=Lib.holds_zero0 w 268 (Lib.nDigits u) (by omega);have hfmt:=Tryz.internal_strconv_formatBase10 w.heap.size 0 24 u (Array.replicate (Lib.nDigits u) 0) (w.alloc (.cells Lib.zeros24 268)) hH0 (by rw[Array.size_replicate];exact Lib.lt_pow_nDigits u) hu64 (by rw[Array.size_replicate];omega);rw[Array.size_replicate]at hfmt;have HH0:=Lib.hid hH0;clear hH0 hal;have HT:=Lib.hid htab;clear htab
  go_enter Tryz.func165,Tryz.ntmps165
  go_wp2_with (first
   | (go_at_call 199;refine (Tryz.internal_strconv_numDigits u hu1 hu64 _ (Lib.tabIs_alloc HT.out _)).mono ?_;rintro e w' ⟨rfl,rfl⟩))
  go_at_call 200
  refine hfmt.mono ?_;rintro e w' ⟨rfl,k,v',dk,rfl,hF⟩
  have hcv:(convert 104 9 (.slice (some ⟨w.heap.size,0,none⟩) (Lib.nDigits u) 24)).run Tryz.prog ((putRow (fun (b:UInt8)=>Value.int .u8 (b.toNat:Int)) (w.alloc (.cells Lib.zeros24 268)) w.heap.size 0 dk).drewN k)=.ok (.string ⟨(Lib.decDigits u).toArray⟩) ((putRow (fun (b:UInt8)=>Value.int .u8 (b.toNat:Int)) (w.alloc (.cells Lib.zeros24 268)) w.heap.size 0 dk).drewN k):=by
   have h:=run_convert_bytes_back (P:=Tryz.prog) ((putRow (fun (b:UInt8)=>Value.int .u8 (b.toNat:Int)) (w.alloc (.cells Lib.zeros24 268)) w.heap.size 0 dk).drewN k) 104 9 5 ⟨w.heap.size,0,none⟩ 24 (Lib.decDigits u) Tryz.underlying104 Tryz.underlying5 Tryz.underlying9 (fun j hj=>by
    rw[Lib.row_is_numeral hF j hj,Lib.add_plain,World.cell?_drewN]
    exact cell?_putRow (fun (b:UInt8)=>Value.int .u8 (b.toNat:Int)) _ w.heap.size 0 _ dk HH0.out (by rw[hF.size,Array.size_replicate]) j (by rw[hF.size];rw[Lib.decDigits_length]at hj;exact hj))
   rw[Lib.decDigits_length]at h;exact h
  go_wp2
  go_ret
  obtain⟨os',_,e⟩:=putRow_grow_new (fun (b:UInt8)=>Value.int .u8 (b.toNat:Int)) w #[(.cells Lib.zeros24 268)] w.heap.size 0 dk (Nat.le_refl _);refine⟨rfl,k,os',?_⟩;rw[alloc_eq_grow,e]
  rfl
end Go.Proofs.Yy.Fmt
end
section
namespace Go.Proofs.Yy.TA
open Go.Proofs.Yy.SC (D)
def scl (N C:Nat):Int:=if C≤N then ((N / C).log2:Int) else -((((C-1) / N).log2:Int)+1)
theorem Ud {N C:Nat}(hN:0<N)(hC:0<C):Sc N C (scl N C):=by
 unfold scl
 by_cases h:C≤N
 ·rw[if_pos h]
  have h1:N / C≠0:=by have:=Nat.div_pos h hC;omega
  have a:=Nat.log2_self_le h1;have b:=Nat.lt_log2_self (n:=N / C)
  obtain⟨j,hj⟩:∃ j,(N / C).log2=j:=⟨_,rfl⟩
  rw[hj]at a b ⊢;unfold Sc up dn;rw[show (-(j:Int)).toNat=0 by omega,Int.toNat_natCast,Nat.pow_zero,Nat.mul_one]
  constructor
  ·rw[Nat.mul_comm];exact Nat.le_trans (Nat.mul_le_mul_right C a) (Nat.div_mul_le_self _ _)
  ·have h2:N<C*(N / C+1):=by have:=Nat.div_add_mod N C;have:=Nat.mod_lt N hC;rw[Nat.mul_add];omega
   have h3:C*(N / C+1)≤C*2 ^ (j+1):=Nat.mul_le_mul_left _ b;rw[Nat.pow_succ, ← Nat.mul_assoc]at h3
   omega
 ·rw[if_neg h]
  have h1:(C-1) / N≠0:=by have:=Nat.div_pos (a:=C-1) (b:=N) (by omega) hN;omega
  have a:=Nat.log2_self_le h1;have b:=Nat.lt_log2_self (n:=(C-1) / N)
  obtain⟨j,hj⟩:∃ j,((C-1) / N).log2=j:=⟨_,rfl⟩
  rw[hj]at a b ⊢;unfold Sc up dn;rw[show (-(-((j:Int)+1))).toNat=j+1 by omega,show (-((j:Int)+1)).toNat=0 by omega,Nat.pow_zero,Nat.mul_one];have d:=Nat.div_add_mod (C-1) N;have m:=Nat.mod_lt (C-1) hN
  constructor
  ·have h3:N*((C-1) / N+1)≤N*2 ^ (j+1):=Nat.mul_le_mul_left _ b
   rw[Nat.mul_add]at h3
   omega
  ·have h3:N*2 ^ j≤N*((C-1) / N):=Nat.mul_le_mul_left _ a
   rw[Nat.pow_succ, ← Nat.mul_assoc]
   omega
theorem agh {N C:Nat}{s:Int}(h:Sc N C s):scl N C=s:=acF (Ud (Fe h).2 (Fe h).1) h
def xB (l:List UInt8):Nat:=l.foldl (fun a c=>a*10+(c.toNat-48)) 0
def Ak (d:D):Nat:=xB d.ds*10 ^ d.e.toNat
def Jj (d:D):Nat:=10 ^ (-d.e).toNat
def Q9 (n:Nat)(d:D):Nat:=pos n (scl (Ak d) (Jj d)) (Ak d) (Jj d)
def sgn (n:Nat)(neg:Bool)(p:Nat):Nat:=if neg=true then (2 ^ n-p) % 2 ^ n else p % 2 ^ n
def ofD (n:Nat)(d:D):Nat:=if (SC.nrm d).nar=true then 2 ^ (n-1) else if (SC.nrm d).ds=[48] then 0 else sgn n (SC.nrm d).neg (Q9 n (SC.nrm d))
theorem uJ (d:D):0<Jj d:=Nat.pow_pos (by omega)
theorem TI {n:Nat}{N C:Nat}{s:Int}{hi:Nat}{st:Bool}(h:Rep N C s hi st):pos n (scl N C) N C=pos n s N C:=by rw[agh h.sc]
theorem top_le {n:Nat}(hn:n≤64):top n≤248:=by unfold top;omega
theorem XV {n N C:Nat}(hn:n≤64)(hC:0<C)(h:2 ^ 248*C≤N):pos n (scl N C) N C=2 ^ (n-1)-1:=by
 have hN:0<N:=Nat.lt_of_lt_of_le (Nat.mul_pos (two_pos _) hC) h
 have hs:Sc (2 ^ 248) 1 248:=by unfold Sc up dn;decide +kernel
 have hle:=XU hs (Ud hN hC) (by rw[Nat.mul_one];exact h);have:=top_le hn;unfold pos;rw[if_pos (by omega)]
theorem aco {n N C:Nat}(hn1:2≤n)(hn:n≤64)(hN:0<N)(h:N*2 ^ 249≤C):pos n (scl N C) N C=1:=by
 have hC:0<C:=Nat.lt_of_lt_of_le (Nat.mul_pos hN (two_pos _)) h
 have hs:Sc 1 (2 ^ 249) (-249):=by unfold Sc up dn;decide +kernel
 have hle:=XU (Ud hN hC) hs (by rw[Nat.one_mul];exact h);have:=top_le hn
 have h8:0≤top n:=by unfold top;omega
 unfold pos;rw[if_neg (by omega),if_pos (by omega)]
end Go.Proofs.Yy.TA
end
section
namespace Go.Proofs.Yw.PrintWords
open Go.RowKit
namespace Kd
def tag {α:Type}(f:Nat→Nat)(d:Kd α):Kd (α × Nat) where
 sz:=d.sz
 E:=d.E
 K:=fun w x cs=>d.K w x.1 cs
 M:=fun w base ok x cs=>d.M w base (fun k=>ok k∧f k=x.2) x.1 cs
 K_len:=fun h=>d.K_len h
 K_one:=fun h=>d.K_one h
 K_below:=fun hb h=>d.K_below hb h
 K_of_M:=fun h=>d.K_of_M h
 M_mono:=fun hok h=>d.M_mono (fun k hk=>⟨hok k hk.1,hk.2⟩) h
 M_bound:=fun h=>d.M_mono (fun _ hk=>⟨⟨hk.1.1,hk.2⟩,hk.1.2⟩) (d.M_bound h)
 M_move:=fun hm h=>d.M_move (fun k hk=>hm k hk.1) h
 M_lower:=fun hb h=>d.M_lower hb h
def raw (sz:Nat):Kd (List Value) where
 sz:=sz
 E := []
 K:=fun _ x cs=>cs=x∧cs.length=sz∧∀ u ∈ cs,u.oneCell'=true
 M:=fun _ _ _ x cs=>cs=x∧cs.length=sz∧∀ u ∈ cs,u.oneCell'=true
 K_len:=fun h=>h.2.1
 K_one:=fun h=>h.2.2
 K_below:=fun _ h=>h
 K_of_M:=fun h=>h
 M_mono:=fun _ h=>h
 M_bound:=fun h=>h
 M_move:=fun _ h=>h
 M_lower:=fun _ h=>h
def S {α:Type}(d:Kd α)(e:Nat)(w:World)(base:Nat)(ok:Nat→Prop)(v:Value)(xs:List α):Prop := ∃ f,(tag f d).R e w base ok v xs.zipIdx
section
variable {α β:Type} {d:Kd α} {d':Kd β} {e e':Nat} {w w1 W:World} {base b:Nat} {ok ok' okv oku:Nat→Prop} {u v:Value} {xs:List α} {ys:List β}
theorem jZ (hE:d.E=[])(h:d.R e w base ok v xs):d.R e w base (fun k=>some k=v.ownBlock) v xs:=by
 obtain⟨h0,inner,ho,hr⟩:=h;refine⟨fun k hk=>hk.symm,inner,ho,hr.GK (fun p c hp=>d.M_mono (fun k hk=>?_) (d.M_bound hp))⟩;obtain⟨_,_,_,q,hq,_⟩:=hk;rw[hE]at hq
 cases hq
theorem YJ (d:Kd α)(e:Nat)(w:World)(base:Nat)(ok:Nat→Prop):S d e w base ok (.slice none 0 0) []:=⟨fun _=>0,G8 _ _ _ _ _⟩
end
def gap {α:Type}(f:Nat→Nat)(d:Kd α)(i:Nat)(c:List Value):Kd (α × Nat) where
 sz:=d.sz
 E:=d.E
 K:=fun w x cs=>(x.2=i→cs=c∧cs.length=d.sz∧∀ u ∈ cs,u.oneCell'=true)∧(x.2≠i→d.K w x.1 cs)
 M:=fun w base ok x cs=>(x.2=i→cs=c∧cs.length=d.sz∧∀ u ∈ cs,u.oneCell'=true)∧(x.2≠i→d.M w base (fun k=>ok k∧f k=x.2) x.1 cs)
 K_len:=fun {w x cs} h=>by
  by_cases hx:x.2=i
  ·exact (h.1 hx).2.1
  ·exact d.K_len (h.2 hx)
 K_one:=fun {w x cs} h=>by
  by_cases hx:x.2=i
  ·exact (h.1 hx).2.2
  ·exact d.K_one (h.2 hx)
 K_below:=fun hb h=>⟨h.1,fun hx=>d.K_below hb (h.2 hx)⟩
 K_of_M:=fun h=>⟨h.1,fun hx=>d.K_of_M (h.2 hx)⟩
 M_mono:=fun hok h=>⟨h.1,fun hx=>d.M_mono (fun k hk=>⟨hok k hk.1,hk.2⟩) (h.2 hx)⟩
 M_bound:=fun h=>⟨h.1,fun hx=>d.M_mono (fun _ hk=>⟨⟨hk.1.1,hk.2⟩,hk.1.2⟩) (d.M_bound (h.2 hx))⟩
 M_move:=fun hm h=>⟨h.1,fun hx=>d.M_move (fun k hk=>hm k hk.1) (h.2 hx)⟩
 M_lower:=fun hb h=>⟨h.1,fun hx=>d.M_lower hb (h.2 hx)⟩
def H {α:Type}(d:Kd α)(e:Nat)(w:World)(base:Nat)(ok:Nat→Prop)(v:Value)(xs:List α)(i:Int)(oki:Nat→Prop)(c:List Value):Prop :=
 (∀ k,oki k→ok k)∧∃ f,(gap f d i.toNat c).R e w base (fun k=>ok k∧¬ oki k) v xs.zipIdx
end Kd
end Go.Proofs.Yw.PrintWords
end
section
namespace Go.Proofs.Yw.PrintWords
open Go.RowKit
section
variable {P:Program} {d:Nat} {xs ys:Array Value} {f:Field} {fs:List Field} {a b:Value} {r s:Bool} {w:World}
theorem Gx (hn : (f.name == "_") = false) (ha : (part f.type xs f.offset).run P w = .ok a w) (hb : (part f.type ys f.offset).run P w = .ok b w) (he : (Op.equalIn d f.type a b).run P w = .ok r w) : (Op.eqFields d xs ys [f]).run P w = .ok r w := by
 have hn' : f.name ≠ "_" := by simpa using hn
 simp only[Op.eqFields,if_pos hn',Sem.run_bind,ha,hb,he,Result.andThen_ok]
 cases r <;> simp
theorem rf (hn : (f.name == "_") = false) (ha : (part f.type xs f.offset).run P w = .ok a w) (hb : (part f.type ys f.offset).run P w = .ok b w) (he : (Op.equalIn d f.type a b).run P w = .ok r w) (hr : (Op.eqFields d xs ys fs).run P w = .ok s w) : (Op.eqFields d xs ys (f :: fs)).run P w = .ok (r && s) w := by
 have hn' : f.name ≠ "_" := by simpa using hn
 rw[Op.eqFields];simp only[if_pos hn',Sem.run_bind,ha,hb,he,Result.andThen_ok]
 cases r
 ·simp
 ·simpa using hr
theorem SV {t:TypeId}{fs:Array Field}(hu:P.underlying t=some (.struct fs))(hp:P.stoodInHeld t=false)(h:(Op.eqFields d xs ys fs.toList).run P w=.ok r w):(Op.equalIn (d+1) t (.agg xs) (.agg ys)).run P w=.ok r w:=by
 have hf:P.fieldsOf t=fs:=by simp[Program.fieldsOf,hu]
 rw[run_equalIn_struct (P:=P) w d t xs ys (by rw[hf];exact hu) hp,hf];exact h
end
section
variable {P:Program} {ops:Array Oper} {rest:List Oper} {o:Oper} {a:Act} {Q:Exit→Act→World→Prop} {W:World}
theorem nS (hw:Region.wanted o (yielded ops a.tmps)=true)(h:wpList P ops Q ({ o with guard:=none } :: rest) a W):wpList P ops Q (o::rest) a W:=by
 have h1:Region.wanted { o with guard:=none } (yielded ops a.tmps)=true:=rfl;unfold wpList at h ⊢;rw[if_pos h1]at h;rw[if_pos hw];exact h
end
end Go.Proofs.Yw.PrintWords
end
