/- Part 5 of what the proof needs. -/
import Derived.Laws.Externs
import Derived.Test.YtpfnkbnepcchgaaGreatDoorKTEAA
import Derived.Test.YtpfnkbnepcchgaaGreatDoorKTEAB
import Derived.Test.YtpfnkbnepcchgaaGreatDoorKTEAD
set_option linter.unusedSimpArgs false
set_option linter.unusedVariables false
section
namespace Go.Proofs.Yy.SR
open Go.RowKit Go.Proofs.Yy.SC
theorem eqc {c:UInt8} {n:Nat} (hn:n<256) (h:(c.toNat:Int)=(n:Int)):c=UInt8.ofNat n:=by
 apply UInt8.toNat_inj.1
 have e:(UInt8.ofNat n).toNat=n:=by simp;omega
 rw [e];omega
theorem cls (c:UInt8):c=43∨c=45∨c=46∨c=69∨c=101∨(48≤(c.toNat:Int)∧(c.toNat:Int)≤57) ∨
  ((c.toNat:Int)<48∧(c.toNat:Int)≠43∧(c.toNat:Int)≠45∧(c.toNat:Int)≠46)∨(57<(c.toNat:Int)∧(c.toNat:Int)≠69∧(c.toNat:Int)≠101):=by
 by_cases h1:(c.toNat:Int)=43
 ·exact .inl (eqc (n:=43) (by decide) h1)
 by_cases h2:(c.toNat:Int)=45
 ·exact .inr (.inl (eqc (n:=45) (by decide) h2))
 by_cases h3:(c.toNat:Int)=46
 ·exact .inr (.inr (.inl (eqc (n:=46) (by decide) h3)))
 by_cases h4:(c.toNat:Int)=69
 ·exact .inr (.inr (.inr (.inl (eqc (n:=69) (by decide) h4))))
 by_cases h5:(c.toNat:Int)=101
 ·exact .inr (.inr (.inr (.inr (.inl (eqc (n:=101) (by decide) h5)))))
 refine .inr (.inr (.inr (.inr (.inr ?_))))
 omega
theorem wU {c:UInt8} (h:48≤(c.toNat:Int)∧(c.toNat:Int)≤57):dg c=true:=by
 unfold dg;simp only [Bool.and_eq_true,decide_eq_true_iff];omega
theorem AB {c:UInt8} (h:(c.toNat:Int)<48∧(c.toNat:Int)≠43∧(c.toNat:Int)≠45∧(c.toNat:Int)≠46):dg c=false∧sg c=false∧eb c=false∧(c == 46)=false:=by
 refine ⟨?_,?_,?_,?_⟩
 ·unfold dg;simp only [Bool.and_eq_false_iff,decide_eq_false_iff_not];omega
 ·unfold sg;simp only [Bool.or_eq_false_iff,beq_eq_false_iff_ne,ne_eq];constructor <;> (rintro rfl;simp at h)
 ·unfold eb;simp only [Bool.or_eq_false_iff,beq_eq_false_iff_ne,ne_eq];constructor <;> (rintro rfl;simp at h)
 ·simp only [beq_eq_false_iff_ne,ne_eq];rintro rfl;simp at h
theorem vk {c:UInt8} (h:57<(c.toNat:Int)∧(c.toNat:Int)≠69∧(c.toNat:Int)≠101):dg c=false∧sg c=false∧eb c=false∧(c == 46)=false:=by
 refine ⟨?_,?_,?_,?_⟩
 ·unfold dg;simp only [Bool.and_eq_false_iff,decide_eq_false_iff_not];omega
 ·unfold sg;simp only [Bool.or_eq_false_iff,beq_eq_false_iff_ne,ne_eq];constructor <;> (rintro rfl;simp at h)
 ·unfold eb;simp only [Bool.or_eq_false_iff,beq_eq_false_iff_ne,ne_eq];constructor <;> (rintro rfl;simp at h)
 ·simp only [beq_eq_false_iff_ne,ne_eq];rintro rfl;simp at h
theorem abm {r:R} (h:ae7 r=true):r.st=0∨r.st=2∨r.st=3∨r.st=4∨r.st=5∨r.st=6∨r.st=7∨r.st=8:=by
 unfold ae7 at h
 simp only [Bool.or_eq_true,beq_iff_eq] at h
 omega
theorem Tn (B b k:Nat) (r:R) (c:UInt8) (w:World) (h:At B b r w) (hi:Inv k r) (ht:tk r c=none) :
  Calls Tryz.prog 62 #[.pointer (some ⟨b,0,none⟩), .int .u8 (c.toNat:Int)] w fun e w'=>e = .returned (.bool false)∧Below B w w':=by
 rcases abm hi.st with hs|hs|hs|hs|hs|hs|hs|hs
 ·rcases cls c with rfl|rfl|rfl|rfl|rfl|hc|hc|hc
  ·exfalso;unfold tk at ht;rw [hs] at ht;simp [sg,eb,dg] at ht
  ·exfalso;unfold tk at ht;rw [hs] at ht;simp [sg,eb,dg] at ht
  ·exact OU B b r w h hs
  ·exact OX B b r w h hs
  ·exact Lt B b r w h hs
  ·exfalso;have hd:=wU hc;obtain ⟨a1,a2,a3⟩:=jF hd;unfold tk at ht;rw [hs] at ht;simp [hd,a1,a2,a3] at ht
  ·exact TD B b r _ hc w h hs
  ·exact Py B b r _ hc w h hs
 ·rcases cls c with rfl|rfl|rfl|rfl|rfl|hc|hc|hc
  ·exact PL B b r w h hs
  ·exact Qi B b r w h hs
  ·exact OY B b r w h hs
  ·exact PI B b r w h hs
  ·exact J6 B b r w h hs
  ·exfalso;have hd:=wU hc;obtain ⟨a1,a2,a3⟩:=jF hd;unfold tk at ht;rw [hs] at ht;simp [hd,a1,a2,a3] at ht
  ·exact SY B b r _ hc w h hs
  ·exact O8 B b r _ hc w h hs
 ·rcases cls c with rfl|rfl|rfl|rfl|rfl|hc|hc|hc
  ·exact P5 B b r w h hs
  ·exact Pn B b r w h hs
  ·exfalso;unfold tk at ht;rw [hs] at ht;simp [sg,eb,dg] at ht
  ·exfalso;unfold tk at ht;rw [hs] at ht;simp [sg,eb,dg] at ht
  ·exfalso;unfold tk at ht;rw [hs] at ht;simp [sg,eb,dg] at ht
  ·exfalso;have hd:=wU hc;obtain ⟨a1,a2,a3⟩:=jF hd;unfold tk at ht;rw [hs] at ht;simp [hd,a1,a2,a3] at ht
  ·exact SE B b r _ hc w h hs
  ·exact Qj B b r _ hc w h hs
 ·rcases cls c with rfl|rfl|rfl|rfl|rfl|hc|hc|hc
  ·exact PK B b r w h hs
  ·exact PG B b r w h hs
  ·exact Pi B b r w h hs
  ·exact PQ B b r w h hs
  ·exact Lj B b r w h hs
  ·exfalso;have hd:=wU hc;obtain ⟨a1,a2,a3⟩:=jF hd;unfold tk at ht;rw [hs] at ht;simp [hd,a1,a2,a3] at ht
  ·exact RV B b r _ hc w h hs
  ·exact PW B b r _ hc w h hs
 ·rcases cls c with rfl|rfl|rfl|rfl|rfl|hc|hc|hc
  ·exact O0 B b r w h hs
  ·exact P7 B b r w h hs
  ·exact OW B b r w h hs
  ·exfalso;unfold tk at ht;rw [hs] at ht;simp [sg,eb,dg] at ht
  ·exfalso;unfold tk at ht;rw [hs] at ht;simp [sg,eb,dg] at ht
  ·exfalso;have hd:=wU hc;obtain ⟨a1,a2,a3⟩:=jF hd;unfold tk at ht;rw [hs] at ht;simp [hd,a1,a2,a3] at ht
  ·exact Uw B b r _ hc w h hs
  ·exact PP B b r _ hc w h hs
 ·rcases cls c with rfl|rfl|rfl|rfl|rfl|hc|hc|hc
  ·exfalso;unfold tk at ht;rw [hs] at ht;simp [sg,eb,dg] at ht
  ·exfalso;unfold tk at ht;rw [hs] at ht;simp [sg,eb,dg] at ht
  ·exact PS B b r w h hs
  ·exact Qa B b r w h hs
  ·exact KH B b r w h hs
  ·exfalso;have hd:=wU hc;obtain ⟨a1,a2,a3⟩:=jF hd;unfold tk at ht;rw [hs] at ht;simp [hd,a1,a2,a3] at ht
  ·exact TN B b r _ hc w h hs
  ·exact Pg B b r _ hc w h hs
 ·rcases cls c with rfl|rfl|rfl|rfl|rfl|hc|hc|hc
  ·exact Qh B b r w h hs
  ·exact O5 B b r w h hs
  ·exact O1 B b r w h hs
  ·exact P6 B b r w h hs
  ·exact KO B b r w h hs
  ·exfalso;have hd:=wU hc;obtain ⟨a1,a2,a3⟩:=jF hd;unfold tk at ht;rw [hs] at ht;simp [hd,a1,a2,a3] at ht
  ·exact Ti B b r _ hc w h hs
  ·exact PH B b r _ hc w h hs
 ·rcases cls c with rfl|rfl|rfl|rfl|rfl|hc|hc|hc
  ·exact O9 B b r w h hs
  ·exact PM B b r w h hs
  ·exact Px B b r w h hs
  ·exact PY B b r w h hs
  ·exact KF B b r w h hs
  ·exfalso;have hd:=wU hc;obtain ⟨a1,a2,a3⟩:=jF hd;unfold tk at ht;rw [hs] at ht;simp [hd,a1,a2,a3] at ht
  ·exact Rz B b r _ hc w h hs
  ·exact Qk B b r _ hc w h hs
theorem SL (B b k:Nat) (r r':R) (c:UInt8) (w:World) (h:At B b r w) (hi:Inv k r) (hk:k<1000000) (hBw:B≤w.heap.size) (ht:tk r c=some r') :
  Calls Tryz.prog 62 #[.pointer (some ⟨b,0,none⟩), .int .u8 (c.toNat:Int)] w fun e w'=>e = .returned (.bool true)∧At B b r' w'∧Below B w w':=by
 have hlen:r.ds.length<1000000:=by have:=hi.len;omega
 have hbeh:r.beh<1000000:=by have:=hi.beh;omega
 rcases abm hi.st with hs|hs|hs|hs|hs|hs|hs|hs
 ·rcases cls c with rfl|rfl|rfl|rfl|rfl|hc|hc|hc
  ·unfold tk at ht;rw [hs] at ht;simp [sg,eb,dg] at ht;subst ht;exact Xt B b r w h hs
  ·unfold tk at ht;rw [hs] at ht;simp [sg,eb,dg] at ht;subst ht;exact Xl B b r w h hs
  ·exfalso;unfold tk at ht;rw [hs] at ht;simp [sg,eb,dg] at ht
  ·exfalso;unfold tk at ht;rw [hs] at ht;simp [sg,eb,dg] at ht
  ·exfalso;unfold tk at ht;rw [hs] at ht;simp [sg,eb,dg] at ht
  ·have hd:=wU hc;obtain ⟨a1,a2,a3⟩:=jF hd;unfold tk at ht;rw [hs] at ht;simp only [hd,a1,a2,a3,if_true,Bool.false_eq_true,if_false,Option.some.injEq] at ht;subst ht;exact Ls B b r c _ rfl hc w h hs hBw hlen hbeh
  ·exfalso;obtain ⟨a0,a1,a2,a3⟩:=AB hc;unfold tk at ht;rw [hs] at ht;simp [a0,a1,a2,a3] at ht
  ·exfalso;obtain ⟨a0,a1,a2,a3⟩:=vk hc;unfold tk at ht;rw [hs] at ht;simp [a0,a1,a2,a3] at ht
 ·rcases cls c with rfl|rfl|rfl|rfl|rfl|hc|hc|hc
  ·exfalso;unfold tk at ht;rw [hs] at ht;simp [sg,eb,dg] at ht
  ·exfalso;unfold tk at ht;rw [hs] at ht;simp [sg,eb,dg] at ht
  ·exfalso;unfold tk at ht;rw [hs] at ht;simp [sg,eb,dg] at ht
  ·exfalso;unfold tk at ht;rw [hs] at ht;simp [sg,eb,dg] at ht
  ·exfalso;unfold tk at ht;rw [hs] at ht;simp [sg,eb,dg] at ht
  ·have hd:=wU hc;obtain ⟨a1,a2,a3⟩:=jF hd;unfold tk at ht;rw [hs] at ht;simp only [hd,a1,a2,a3,if_true,Bool.false_eq_true,if_false,Option.some.injEq] at ht;subst ht;exact Kz B b r c _ rfl hc w h hs hBw hlen hbeh
  ·exfalso;obtain ⟨a0,a1,a2,a3⟩:=AB hc;unfold tk at ht;rw [hs] at ht;simp [a0,a1,a2,a3] at ht
  ·exfalso;obtain ⟨a0,a1,a2,a3⟩:=vk hc;unfold tk at ht;rw [hs] at ht;simp [a0,a1,a2,a3] at ht
 ·rcases cls c with rfl|rfl|rfl|rfl|rfl|hc|hc|hc
  ·exfalso;unfold tk at ht;rw [hs] at ht;simp [sg,eb,dg] at ht
  ·exfalso;unfold tk at ht;rw [hs] at ht;simp [sg,eb,dg] at ht
  ·unfold tk at ht;rw [hs] at ht;simp [sg,eb,dg] at ht;subst ht;exact XQ B b r w h hs
  ·unfold tk at ht;rw [hs] at ht;simp [sg,eb,dg] at ht;subst ht;exact Yd B b r w h hs
  ·unfold tk at ht;rw [hs] at ht;simp [sg,eb,dg] at ht;subst ht;exact Rk B b r w h hs
  ·have hd:=wU hc;obtain ⟨a1,a2,a3⟩:=jF hd;unfold tk at ht;rw [hs] at ht;simp only [hd,a1,a2,a3,if_true,Bool.false_eq_true,if_false,Option.some.injEq] at ht;subst ht;have q:=KY B b r c _ rfl hc w h hs hBw hlen hbeh;rw [hs] at q;exact q
  ·exfalso;obtain ⟨a0,a1,a2,a3⟩:=AB hc;unfold tk at ht;rw [hs] at ht;simp [a0,a1,a2,a3] at ht
  ·exfalso;obtain ⟨a0,a1,a2,a3⟩:=vk hc;unfold tk at ht;rw [hs] at ht;simp [a0,a1,a2,a3] at ht
 ·rcases cls c with rfl|rfl|rfl|rfl|rfl|hc|hc|hc
  ·exfalso;unfold tk at ht;rw [hs] at ht;simp [sg,eb,dg] at ht
  ·exfalso;unfold tk at ht;rw [hs] at ht;simp [sg,eb,dg] at ht
  ·exfalso;unfold tk at ht;rw [hs] at ht;simp [sg,eb,dg] at ht
  ·exfalso;unfold tk at ht;rw [hs] at ht;simp [sg,eb,dg] at ht
  ·exfalso;unfold tk at ht;rw [hs] at ht;simp [sg,eb,dg] at ht
  ·have hd:=wU hc;obtain ⟨a1,a2,a3⟩:=jF hd;unfold tk at ht;rw [hs] at ht;simp only [hd,a1,a2,a3,if_true,Bool.false_eq_true,if_false,Option.some.injEq] at ht;subst ht;exact Ld B b r c _ rfl hc w h hs hBw hlen hbeh
  ·exfalso;obtain ⟨a0,a1,a2,a3⟩:=AB hc;unfold tk at ht;rw [hs] at ht;simp [a0,a1,a2,a3] at ht
  ·exfalso;obtain ⟨a0,a1,a2,a3⟩:=vk hc;unfold tk at ht;rw [hs] at ht;simp [a0,a1,a2,a3] at ht
 ·rcases cls c with rfl|rfl|rfl|rfl|rfl|hc|hc|hc
  ·exfalso;unfold tk at ht;rw [hs] at ht;simp [sg,eb,dg] at ht
  ·exfalso;unfold tk at ht;rw [hs] at ht;simp [sg,eb,dg] at ht
  ·exfalso;unfold tk at ht;rw [hs] at ht;simp [sg,eb,dg] at ht
  ·unfold tk at ht;rw [hs] at ht;simp [sg,eb,dg] at ht;subst ht;exact Ya B b r w h hs
  ·unfold tk at ht;rw [hs] at ht;simp [sg,eb,dg] at ht;subst ht;exact S9 B b r w h hs
  ·have hd:=wU hc;obtain ⟨a1,a2,a3⟩:=jF hd;unfold tk at ht;rw [hs] at ht;simp only [hd,a1,a2,a3,if_true,Bool.false_eq_true,if_false,Option.some.injEq] at ht;subst ht;exact Kr B b r c _ rfl hc w h hs hBw hlen hbeh
  ·exfalso;obtain ⟨a0,a1,a2,a3⟩:=AB hc;unfold tk at ht;rw [hs] at ht;simp [a0,a1,a2,a3] at ht
  ·exfalso;obtain ⟨a0,a1,a2,a3⟩:=vk hc;unfold tk at ht;rw [hs] at ht;simp [a0,a1,a2,a3] at ht
 ·rcases cls c with rfl|rfl|rfl|rfl|rfl|hc|hc|hc
  ·unfold tk at ht;rw [hs] at ht;simp [sg,eb,dg] at ht;subst ht;exact XO B b r w h hs
  ·unfold tk at ht;rw [hs] at ht;simp [sg,eb,dg] at ht;subst ht;exact Xh B b r w h hs
  ·exfalso;unfold tk at ht;rw [hs] at ht;simp [sg,eb,dg] at ht
  ·exfalso;unfold tk at ht;rw [hs] at ht;simp [sg,eb,dg] at ht
  ·exfalso;unfold tk at ht;rw [hs] at ht;simp [sg,eb,dg] at ht
  ·have hd:=wU hc;obtain ⟨a1,a2,a3⟩:=jF hd;unfold tk at ht;rw [hs] at ht;simp only [hd,a1,a2,a3,if_true,Bool.false_eq_true,if_false,Option.some.injEq] at ht;subst ht;exact Kt B b r c _ rfl hc w h hs hi.exp
  ·exfalso;obtain ⟨a0,a1,a2,a3⟩:=AB hc;unfold tk at ht;rw [hs] at ht;simp [a0,a1,a2,a3] at ht
  ·exfalso;obtain ⟨a0,a1,a2,a3⟩:=vk hc;unfold tk at ht;rw [hs] at ht;simp [a0,a1,a2,a3] at ht
 ·rcases cls c with rfl|rfl|rfl|rfl|rfl|hc|hc|hc
  ·exfalso;unfold tk at ht;rw [hs] at ht;simp [sg,eb,dg] at ht
  ·exfalso;unfold tk at ht;rw [hs] at ht;simp [sg,eb,dg] at ht
  ·exfalso;unfold tk at ht;rw [hs] at ht;simp [sg,eb,dg] at ht
  ·exfalso;unfold tk at ht;rw [hs] at ht;simp [sg,eb,dg] at ht
  ·exfalso;unfold tk at ht;rw [hs] at ht;simp [sg,eb,dg] at ht
  ·have hd:=wU hc;obtain ⟨a1,a2,a3⟩:=jF hd;unfold tk at ht;rw [hs] at ht;simp only [hd,a1,a2,a3,if_true,Bool.false_eq_true,if_false,Option.some.injEq] at ht;subst ht;exact Le B b r c _ rfl hc w h hs hi.exp
  ·exfalso;obtain ⟨a0,a1,a2,a3⟩:=AB hc;unfold tk at ht;rw [hs] at ht;simp [a0,a1,a2,a3] at ht
  ·exfalso;obtain ⟨a0,a1,a2,a3⟩:=vk hc;unfold tk at ht;rw [hs] at ht;simp [a0,a1,a2,a3] at ht
 ·rcases cls c with rfl|rfl|rfl|rfl|rfl|hc|hc|hc
  ·exfalso;unfold tk at ht;rw [hs] at ht;simp [sg,eb,dg] at ht
  ·exfalso;unfold tk at ht;rw [hs] at ht;simp [sg,eb,dg] at ht
  ·exfalso;unfold tk at ht;rw [hs] at ht;simp [sg,eb,dg] at ht
  ·exfalso;unfold tk at ht;rw [hs] at ht;simp [sg,eb,dg] at ht
  ·exfalso;unfold tk at ht;rw [hs] at ht;simp [sg,eb,dg] at ht
  ·have hd:=wU hc;obtain ⟨a1,a2,a3⟩:=jF hd;unfold tk at ht;rw [hs] at ht;simp only [hd,a1,a2,a3,if_true,Bool.false_eq_true,if_false,Option.some.injEq] at ht;subst ht;exact Lh B b r c _ rfl hc w h hs hi.exp
  ·exfalso;obtain ⟨a0,a1,a2,a3⟩:=AB hc;unfold tk at ht;rw [hs] at ht;simp [a0,a1,a2,a3] at ht
  ·exfalso;obtain ⟨a0,a1,a2,a3⟩:=vk hc;unfold tk at ht;rw [hs] at ht;simp [a0,a1,a2,a3] at ht
end Go.Proofs.Yy.SR
end
section
namespace Go.Proofs.Yw.PrintLast
open Go.Proofs.Yw.PrintWords (ae)
def zJ (md:Region.Mode) (o:Oper):List Nat:=(o.after.toList.filter (fun e=>Region.binds md e)).map (fun e=>e.on)
def LG (md:Region.Mode) (ops:Array Oper) (i:Nat) (oi:Oper):List Nat:=(List.range ops.size).filter fun j => !(j == i) && match ops[j]? with
 | some oj => !(oj.after.any (fun e=>Region.binds md e && e.on == i) || oi.apart ops oj)
 | none=>false
def rW (md:Region.Mode) (ops:Array Oper):Bool × List (List Nat × List Nat):=(Region.noSelect ops,(List.range ops.size).map fun i=>match ops[i]? with
 | some o=>(zJ md o,LG md ops i o)
 | none=>([], []))
def vG (T:List (List Nat × List Nat)) (l:List Bool) (i:Nat):Bool := !l.getD i true && match T[i]? with
 | some r=>r.1.all (fun j=>l.getD j false)
 | none=>false
def Cm (T:List (List Nat × List Nat)) (l:List Bool):List Nat:=(List.range T.length).filter (vG T l)
def TK (T:List (List Nat × List Nat)) (l:List Bool) (i:Nat):Bool:=match T[i]? with
 | some r=>r.2.all (fun j=>l.getD j true)
 | none=>false
def FX (T:List (List Nat × List Nat)) (l:List Bool):Bool:=(List.range T.length).all fun j => !l.getD j false || match T[j]? with
 | some r=>r.1.all (fun k=>l.getD k false)
 | none=>true
def EO (T:List (List Nat × List Nat)) (i:Nat):Nat→Nat→Bool
 | 0,_=>false
 | fuel+1,d=>match T[d]? with
  | some r=>r.1.any fun j=>j == i || EO T i fuel j
  | none=>false
def lastT (T:List (List Nat × List Nat)) (l:List Bool) (ds:List Nat) (i:Nat):Bool:=ds.all fun d=>l.getD d true || EO T i T.length d
section
variable {md:Region.Mode} {ops:Array Oper} {T:Bool × List (List Nat × List Nat)} {l l' li lj lk:Array Bool} {ds:List Nat} {i j k:Nat}
theorem gd (l:Array Bool) (j:Nat) (b:Bool):l.getD j b=l.toList.getD j b:=by simp [Array.getD_eq_getD_getElem?, List.getD_eq_getElem?_getD]
theorem Jb (o:Oper) (p:Nat→Bool):o.after.all (fun e => !Region.binds md e || p e.on)=(zJ md o).all p:=by
 unfold zJ
 rw [← Array.all_toList]
 induction o.after.toList with
 | nil=>rfl
 | cons e r ih =>
  rw [List.all_cons,ih,List.filter_cons]
  cases h:Region.binds md e <;> simp
theorem TW (o:Oper) (p:Nat→Bool):o.after.any (fun e=>Region.binds md e && p e.on)=(zJ md o).any p:=by
 unfold zJ
 rw [← Array.any_toList]
 induction o.after.toList with
 | nil=>rfl
 | cons e r ih =>
  rw [List.any_cons,ih,List.filter_cons]
  cases h:Region.binds md e <;> simp
theorem ug:(rW md ops).2.length=ops.size:=by simp [rW]
theorem yz {o:Oper} (h:ops[i]? = some o):(rW md ops).2[i]? = some (zJ md o,LG md ops i o):=by
 have hi:=(Array.getElem?_eq_some_iff.1 h).1
 unfold rW
 rw [List.getElem?_map,List.getElem?_range hi,Option.map_some,h]
theorem yc (h:ops[i]? = none):(rW md ops).2[i]? = none:=by
 have hi:ops.size≤i:=Array.getElem?_eq_none_iff.1 h
 exact List.getElem?_eq_none (by rw [ug];exact hi)
theorem P9:vG (rW md ops).2 l.toList i=(!l.getD i true && ((ops[i]?).map (·.after.all fun e => !Region.binds md e || l.getD e.on false)).getD false):=by
 unfold vG
 rw [gd]
 cases h:ops[i]? with
 | none=>rw [yc h];rfl
 | some o =>
  rw [yz h]
  simp only [Option.map_some,Option.getD_some]
  rw [← Jb]
  simp only [gd]
theorem ready_eq:Region.ready md ops l=Cm (rW md ops).2 l.toList:=by
 unfold Region.ready Cm
 rw [ug]
 refine List.filter_congr (fun i _=>?_)
 rw [P9]
theorem free_eq:Region.free md ops l i=TK (rW md ops).2 l.toList i:=by
 unfold Region.free TK
 cases h:ops[i]? with
 | none=>rw [yc h]
 | some oi =>
  rw [yz h]
  simp only [LG]
  rw [List.all_filter]
  congr 1
  funext j
  rw [gd]
  cases hj:ops[j]? with
  | none=>cases (j == i) <;> cases (l.toList.getD j true) <;> simp
  | some oj =>
   cases (j == i) <;> cases (l.toList.getD j true) <;> cases (oj.after.any (fun e=>Region.binds md e && e.on == i) || oi.apart ops oj) <;> simp_all
theorem RG:Region.CW md ops l=FX (rW md ops).2 l.toList:=by
 unfold Region.CW FX
 rw [ug]
 congr 1
 funext j
 rw [gd]
 cases h:ops[j]? with
 | none=>rw [yc h]
 | some o =>
  rw [yz h]
  simp only
  rw [← Jb]
  simp only [gd]
theorem reach_eq:∀ (fuel d:Nat),Region.uQ md ops i fuel d=EO (rW md ops).2 i fuel d
 | 0,_=>rfl
 | fuel+1,d=>by
  unfold Region.uQ EO
  cases h:ops[d]? with
  | none=>rw [yc h]
  | some o =>
   rw [yz h]
   simp only
   rw [← TW]
   congr 1
   funext e
   rw [reach_eq fuel]
theorem aaB:Region.lastB md ops l ds i=lastT (rW md ops).2 l.toList ds i:=by
 unfold Region.lastB lastT
 rw [ug]
 congr 1
 funext d
 rw [gd,reach_eq]
theorem BZ (h:vG T.2 l.toList i=true) (hT:rW md ops=T):(Region.ready md ops l).contains i=true:=by
 subst hT
 rw [ready_eq]
 unfold Cm
 rw [List.contains_iff_mem,List.mem_filter,List.mem_range]
 refine ⟨?_,h⟩
 unfold vG at h
 rw [Bool.and_eq_true] at h
 cases hq:(rW md ops).2[i]? with
 | none=>rw [hq] at h;simp at h
 | some r=>exact (List.getElem?_eq_some_iff.1 hq).1
theorem Jk (h:(l.toList.set i true == l'.toList)=true):(l.setIfInBounds i true == l')=true:=by
 rw [beq_iff_eq] at h ⊢
 apply Array.ext'
 rw [Array.toList_setIfInBounds]
 exact h
def akT (T:Bool × List (List Nat × List Nat)) (l l':List Bool) (i:Nat):Bool:=T.1 && TK T.2 l i && vG T.2 l i && (l.set i true == l')
theorem CO (hT:rW md ops=T) (h:akT T l.toList l'.toList i=true):ajK md ops l l' i=true:=by
 simp only [akT,Bool.and_eq_true] at h
 obtain ⟨⟨⟨h1,h2⟩,h3⟩,h4⟩:=h
 have h5:=BZ h3 hT
 have h6:=Jk h4
 subst hT
 simp only [ajK,Bool.and_eq_true]
 exact ⟨⟨⟨h1,by rw [free_eq];exact h2⟩,h5⟩,h6⟩
def aa8 (T:Bool × List (List Nat × List Nat)) (ds:List Nat) (l l':List Bool) (i:Nat):Bool:=T.1 && TK T.2 l i && vG T.2 l i && FX T.2 l && lastT T.2 l ds i && (l.set i true == l')
theorem aaS (hT:rW md ops=T) (h:aa8 T ds l.toList l'.toList i=true):takeB md ops ds l l' i=true:=by
 simp only [aa8,Bool.and_eq_true] at h
 obtain ⟨⟨⟨⟨⟨h1,h2⟩,h3⟩,h4⟩,h5⟩,h6⟩:=h
 have h7:=BZ h3 hT
 have h8:=Jk h6
 subst hT
 simp only [takeB,Bool.and_eq_true]
 exact ⟨⟨⟨⟨⟨h1,by rw [free_eq];exact h2⟩,h7⟩,by rw [RG];exact h4⟩,by rw [aaB];exact h5⟩,h8⟩
theorem Aq (hT:rW md ops=T) (h:(Cm T.2 l.toList == [i] && l.toList.set i true == l'.toList)=true):FD md ops l l' i=true:=by
 simp only [Bool.and_eq_true] at h
 obtain ⟨h1,h2⟩:=h
 subst hT
 simp only [FD,Bool.and_eq_true]
 exact ⟨by rw [ready_eq];exact h1,Jk h2⟩
theorem afs (hT:rW md ops=T) (h:(Cm T.2 l.toList == [i,j] && l.toList.set i true == li.toList && l.toList.set j true == lj.toList)=true):(Region.ready md ops l == [i,j] && l.setIfInBounds i true == li && l.setIfInBounds j true == lj)=true:=by
 simp only [Bool.and_eq_true] at h ⊢
 obtain ⟨⟨h1,h2⟩,h3⟩:=h
 subst hT
 exact ⟨⟨by rw [ready_eq];exact h1,Jk h2⟩,Jk h3⟩
theorem jd (hT:rW md ops=T) (h:(Cm T.2 l.toList == [])=true):(Region.ready md ops l == [])=true:=by
 subst hT
 rw [ready_eq]
 exact h
def upM (B:List Nat) (d:Nat):List Nat→Nat
 | []=>0
 | n :: r=>(2 ^ n ||| (if n<d then B.getD n 0 else 0)) ||| upM B d r
def jB (T:List (List Nat × List Nat)) (B:List Nat):Bool:=(List.range T.length).all fun d=>match T[d]? with
 | some r=>(B.getD d 0 ||| upM B d r.1) == upM B d r.1
 | none=>false
theorem Us {B:List Nat} {d i:Nat}:∀ {ns:List Nat},(upM B d ns).testBit i=true → ∃ n ∈ ns,n=i∨(n<d∧(B.getD n 0).testBit i=true)
 | [],h=>by simp [upM] at h
 | n :: r,h=>by
  unfold upM at h
  rw [Nat.testBit_or,Nat.testBit_or,Bool.or_eq_true,Bool.or_eq_true] at h
  rcases h with (h|h)|h
  ·rw [Nat.testBit_two_pow] at h
   exact ⟨n,List.mem_cons_self, .inl (by simpa using h)⟩
  ·by_cases hn:n<d
   ·rw [if_pos hn] at h
    exact ⟨n,List.mem_cons_self, .inr ⟨hn,h⟩⟩
   ·rw [if_neg hn] at h
    simp at h
  ·obtain ⟨m,hm,h2⟩:=Us h
   exact ⟨m,List.mem_cons_of_mem _ hm,h2⟩
theorem Jj {T:List (List Nat × List Nat)} {B:List Nat} (hB:jB T B=true):∀ (fuel d:Nat),d<fuel→d<T.length→(B.getD d 0).testBit i=true→EO T i fuel d=true
 | 0,d,h,_,_=>by omega
 | fuel+1,d,h,hd,hb=>by
  have h1:=List.all_eq_true.1 hB d (List.mem_range.2 hd)
  cases hr:T[d]? with
  | none=>rw [hr] at h1;simp at h1
  | some r =>
   rw [hr] at h1
   simp only [beq_iff_eq] at h1
   have h2:(upM B d r.1).testBit i=true:=by rw [← h1,Nat.testBit_or,hb,Bool.true_or]
   obtain ⟨n,hn,h3⟩:=Us h2
   unfold EO
   rw [hr]
   simp only
   rw [List.any_eq_true]
   refine ⟨n,hn,?_⟩
   rcases h3 with rfl|⟨h4,h5⟩
   ·simp
   ·rw [Jj hB fuel n (by omega) (by omega) h5,Bool.or_true]
def aeI (T:List (List Nat × List Nat)) (B:List Nat) (l:List Bool) (ds:List Nat) (i:Nat):Bool:=ds.all fun d=>l.getD d true || (decide (d<T.length) && (B.getD d 0).testBit i)
def aar (T:Bool × List (List Nat × List Nat)) (B:List Nat) (ds:List Nat) (l l':List Bool) (i:Nat):Bool:=T.1 && TK T.2 l i && vG T.2 l i && FX T.2 l && aeI T.2 B l ds i && (l.set i true == l')
theorem Xu {B:List Nat} (hT:rW md ops=T) (hB:jB T.2 B=true) (h:aar T B ds l.toList l'.toList i=true):takeB md ops ds l l' i=true:=by
 refine aaS hT ?_
 simp only [aar,aa8,Bool.and_eq_true] at h ⊢
 obtain ⟨⟨⟨⟨⟨h1,h2⟩,h3⟩,h4⟩,h5⟩,h6⟩:=h
 refine ⟨⟨⟨⟨⟨h1,h2⟩,h3⟩,h4⟩,?_⟩,h6⟩
 unfold aeI at h5
 unfold lastT
 rw [List.all_eq_true] at h5 ⊢
 intro d hd
 have h7:=h5 d hd
 rw [Bool.or_eq_true,Bool.and_eq_true,decide_eq_true_eq] at h7
 rcases h7 with h7|⟨h8,h9⟩
 ·rw [h7,Bool.true_or]
 ·rw [Jj hB _ d h8 h8 h9,Bool.or_true]
theorem iw {P:Program} {Q:Exit→Act→World→Prop} {S:World→Prop} {n:Nat} {a:Act} {w:World} {B:List Nat} (hT:rW md ops=T) (hB:jB T.2 B=true) (h:ae (rW md ops=T)→ae (jB T.2 B=true)→bT P md ops Q S ds n l a w):bT P md ops Q S ds n l a w:=h ⟨hT⟩ ⟨hB⟩
end
def Ep:Code→Nat→Option (Array Oper)
 | .region id ops _,k=>if id == k then some ops else none
 | .seq a b,k=>match Ep a k with
  | some o=>some o
  | none=>Ep b k
 | .cond _ a b,k=>match Ep a k with
  | some o=>some o
  | none=>Ep b k
 | .block _ c,k=>Ep c k
 | .loop c,k=>Ep c k
 | .scope c,k=>Ep c k
 | .rangeFunc _ _ a b,k=>match Ep a k with
  | some o=>some o
  | none=>Ep b k
 | _,_=>none
def opsOf (f:Func) (k:Nat):Array Oper:=((f.body.bind fun c=>Ep c k)).getD #[]
end Go.Proofs.Yw.PrintLast
end
section
namespace Go.Proofs.Yy.TA
def IB (v:Nat):UInt8:=UInt8.ofNat (48+v % 2)
def bs:Nat→Nat→List UInt8
 | 0,_ => []
 | w+1,v=>bs w (v / 2) ++ [IB v]
theorem jy (k:Nat):0<2 ^ k:=Nat.two_pow_pos k
theorem bs_len (w:Nat):∀ v:Nat,(bs w v).length=w:=by
 induction w with
 | zero=>intro v;rfl
 | succ w ih=>intro v;rw [bs,List.length_append,ih];rfl
theorem Ko (w:Nat):∀ v k:Nat,k≤w→(bs w v).take k=bs k (v / 2 ^ (w - k)):=by
 induction w with
 | zero => intro v k h; obtain rfl : k = 0 := by omega
           simp [bs]
 | succ w ih =>
  intro v k h
  by_cases hk:k=w+1
  ·subst hk
   rw [List.take_of_length_le (by rw [bs_len];omega),Nat.sub_self,Nat.pow_zero,Nat.div_one]
  ·rw [bs,List.take_append_of_le_length (by rw [bs_len];omega),ih _ _ (by omega),Nat.div_div_eq_div_mul,show w+1 - k=(w - k)+1 by omega,Nat.pow_succ,Nat.mul_comm]
theorem TV (w:Nat):∀ v k:Nat,k≤w→(bs w v).drop k=bs (w - k) v:=by
 induction w with
 | zero => intro v k h; obtain rfl : k = 0 := by omega
           simp [bs]
 | succ w ih =>
  intro v k h
  by_cases hk:k=w+1
  ·subst hk
   rw [List.drop_of_length_le (by rw [bs_len];omega),Nat.sub_self];rfl
  ·rw [bs,List.drop_append_of_le_length (by rw [bs_len];omega),ih _ _ (by omega),show w+1 - k=(w - k)+1 by omega];rfl
theorem Ug (v m:Nat) (h:0<m):IB (v % 2 ^ m)=IB v:=by
 obtain ⟨m,rfl⟩:∃ j,m=j+1:=⟨m - 1,by omega⟩
 unfold IB
 rw [Nat.pow_succ,Nat.mul_comm,Nat.mod_mul_right_mod]
theorem FW (v m:Nat):v % 2 ^ (m+1) / 2=v / 2 % 2 ^ m:=by
 rw [Nat.pow_succ,Nat.mul_comm,Nat.mod_mul_right_div_self]
theorem ZI (w:Nat):∀ v m:Nat,w≤m→bs w (v % 2 ^ m)=bs w v:=by
 induction w with
 | zero=>intro v m h;rfl
 | succ w ih =>
  intro v m h
  obtain ⟨m,rfl⟩:∃ j,m=j+1:=⟨m - 1,by omega⟩
  rw [bs,bs,Ug _ _ (by omega),FW,ih _ _ (by omega)]
theorem yA (a x:Nat) (b:Nat):∀ y:Nat,bs a x ++ bs b y=bs (a+b) (x * 2 ^ b+y % 2 ^ b):=by
 induction b with
 | zero=>intro y;rw [Nat.pow_zero,Nat.mul_one,Nat.mod_one];simp [bs]
 | succ b ih =>
  intro y
  have h1:(x * 2 ^ (b+1)+y % 2 ^ (b+1)) / 2=x * 2 ^ b+y / 2 % 2 ^ b:=by
   rw [← FW,Nat.pow_succ, ← Nat.mul_assoc];omega
  have h2:IB (x * 2 ^ (b+1)+y % 2 ^ (b+1))=IB y:=by
   rw [← Ug y (b+1) (by omega)]
   unfold IB
   rw [Nat.pow_succ, ← Nat.mul_assoc];congr 2;omega
  rw [bs, ← List.append_assoc,ih, ← Nat.add_assoc,bs,h1,h2]
theorem Ru (w:Nat):List.replicate w (48:UInt8)=bs w 0:=by
 induction w with
 | zero=>rfl
 | succ w ih=>rw [List.replicate_succ',ih];rfl
theorem Uk (w:Nat):List.replicate w (49:UInt8)=bs w (2 ^ w - 1):=by
 induction w with
 | zero=>rfl
 | succ w ih =>
  have hp:=jy w
  rw [List.replicate_succ',ih,bs,show (2 ^ (w+1) - 1) / 2=2 ^ w - 1 by rw [Nat.pow_succ];omega]
  congr 2
  unfold IB
  rw [show (2 ^ (w+1) - 1) % 2=1 by rw [Nat.pow_succ];omega];rfl
def num (l:List UInt8):Nat:=l.foldl (fun x c=>2 * x+(c.toNat - 48)) 0
theorem Cj (v:Nat):(IB v).toNat=48+v % 2:=by
 unfold IB
 rw [UInt8.toNat_ofNat'];omega
theorem Gx (l:List UInt8) (c:UInt8):num (l ++ [c])=2 * num l+(c.toNat - 48):=by unfold num;rw [List.foldl_append];rfl
theorem Oh (w:Nat):∀ v:Nat,num (bs w v)=v % 2 ^ w:=by
 induction w with
 | zero=>intro v;rw [Nat.pow_zero,Nat.mod_one];rfl
 | succ w ih =>
  intro v
  rw [bs,Gx,ih,Cj, ← FW]
  have h1:v % 2 ^ (w+1) % 2=v % 2:=by rw [Nat.pow_succ,Nat.mul_comm,Nat.mod_mul_right_mod]
  omega
def XV (s:Int):Nat:=if 0≤s / 4 then (s / 4).toNat+2 else (-(s / 4)).toNat+1
def Xx (s:Int):Nat:=if 0≤s / 4 then 2 ^ ((s / 4).toNat+2) - 2 else 1
def hL (s:Int):Nat:=XV s+2
def hV (s:Int):Nat:=Xx s * 4+(s % 4).toNat
theorem IQ (s:Int):(hV s+1) * 2 ^ hL (s+1)=hV (s+1) * 2 ^ hL s:=by
 by_cases h3:s % 4=3
 ·have hk:(s+1) / 4=s / 4+1:=by omega
  have he:(s+1) % 4=0:=by omega
  unfold hV hL Xx XV
  rw [hk,he,h3]
  by_cases h0:0≤s / 4
  ·obtain ⟨m,hm⟩:∃ m:Nat,s / 4=m:=⟨(s / 4).toNat,by omega⟩
   rw [hm,if_pos (by omega),if_pos (by omega),if_pos (by omega),if_pos (by omega),show ((m:Int)+1).toNat=m+1 by omega,show (m:Int).toNat=m by omega]
   have:=jy m
   have e1:2 ^ (m+2)=4 * 2 ^ m:=by rw [Nat.pow_add];omega
   have e2:2 ^ (m+1+2)=8 * 2 ^ m:=by rw [Nat.pow_add,Nat.pow_add];omega
   have e3:2 ^ (m+1+2+2)=2 * 2 ^ (m+2+2):=by rw [show m+1+2+2=1+(m+2+2) by omega,Nat.pow_add 2 1 (m+2+2),Nat.pow_one]
   rw [e3, ← Nat.mul_assoc,e1,e2]
   congr 1
   have h3:((3:Int)).toNat=3:=rfl
   have h4:((0:Int)).toNat=0:=rfl
   rw [h3,h4];omega
  ·by_cases h1:s / 4 = -1
   ·rw [h1];decide
   ·obtain ⟨m,hm⟩:∃ m:Nat,s / 4 = -((m:Int)+2):=⟨(-(s / 4) - 2).toNat,by omega⟩
    rw [hm,if_neg (by omega),if_neg (by omega),if_neg (by omega),if_neg (by omega),show (-(-((m:Int)+2)+1)).toNat=m+1 by omega,show (-(-((m:Int)+2))).toNat=m+2 by omega]
    have h3:((3:Int)).toNat=3:=rfl
    have h4:((0:Int)).toNat=0:=rfl
    have e3:2 ^ (m+2+1+2)=2 * 2 ^ (m+1+1+2):=by rw [show m+2+1+2=1+(m+1+1+2) by omega,Nat.pow_add 2 1 (m+1+1+2),Nat.pow_one]
    rw [h3,h4,e3];omega
 ·have hk:(s+1) / 4=s / 4:=by omega
  have he:((s+1) % 4).toNat=(s % 4).toNat+1:=by omega
  unfold hV hL Xx XV
  rw [hk,he,Nat.add_assoc]
theorem KT (s:Int):∀ d:Nat,(hV s+1) * 2 ^ hL (s+1+d)≤hV (s+1+d) * 2 ^ hL s:=by
 intro d
 induction d with
 | zero=>rw [show s+1+((0:Nat):Int)=s+1 by omega];exact Nat.le_of_eq (IQ s)
 | succ d ih =>
  have h:=IQ (s+1+d)
  have e:s+1+((d+1:Nat):Int)=s+1+d+1:=by omega
  rw [e]
  have hp:=jy (hL (s+1+d))
  have h2:(hV s+1) * 2 ^ hL (s+1+d) * 2 ^ hL (s+1+d+1)≤hV (s+1+d) * 2 ^ hL s * 2 ^ hL (s+1+d+1):=Nat.mul_le_mul_right _ ih
  have h3:hV (s+1+d) * 2 ^ hL (s+1+d+1)≤hV (s+1+d+1) * 2 ^ hL (s+1+d):=by rw [← h];exact Nat.mul_le_mul_right _ (by omega)
  have h4:(hV s+1) * 2 ^ hL (s+1+d+1) * 2 ^ hL (s+1+d)≤hV (s+1+d+1) * 2 ^ hL s * 2 ^ hL (s+1+d):=by
   rw [Nat.mul_right_comm]
   refine Nat.le_trans h2 ?_
   rw [Nat.mul_right_comm,Nat.mul_right_comm (hV (s+1+d+1))]
   exact Nat.mul_le_mul_right _ h3
  exact Nat.le_of_mul_le_mul_right h4 hp
theorem RX {s t:Int} (h:s<t):(hV s+1) * 2 ^ hL t≤hV t * 2 ^ hL s:=by
 obtain ⟨d,hd⟩:∃ d:Nat,t=s+1+d:=⟨(t - s - 1).toNat,by omega⟩
 rw [hd];exact KT s d
def top (n:Nat):Int:=4 * (n:Int) - 8
theorem afl {n:Nat} (h:2≤n):hV (top n) * 2 ^ (n - 1)=(2 ^ (n - 1) - 1) * 2 ^ hL (top n):=by
 obtain ⟨m,rfl⟩:∃ m,n=m+2:=⟨n - 2,by omega⟩
 have h1:top (m+2) / 4=m:=by unfold top;omega
 have h2:top (m+2) % 4=0:=by unfold top;omega
 unfold hV hL Xx XV
 rw [h1,h2,if_pos (by omega),if_pos (by omega),show m+2 - 1=m+1 by omega,show (m:Int).toNat=m by omega]
 have:=jy m
 have e1:2 ^ (m+2)=4 * 2 ^ m:=by rw [Nat.pow_add];omega
 have e2:2 ^ (m+1)=2 * 2 ^ m:=by rw [Nat.pow_add];omega
 have e3:2 ^ (m+2+2)=8 * (2 * 2 ^ m):=by rw [Nat.pow_add,Nat.pow_add];omega
 rw [e1,e2,e3, ← Nat.mul_assoc (2 * 2 ^ m - 1) 8]
 congr 1
 have h4:((0:Int)).toNat=0:=rfl
 rw [h4];omega
structure xY (n p:Nat) (s:Int) (M:Nat):Prop where
 lo:2 ^ 63≤M
 hi:M<2 ^ 64
 low : -top n≤s
 high:s≤top n
 eq:(hV s * 2 ^ 63+(M - 2 ^ 63)) * 2 ^ (n - 1)=p * 2 ^ 63 * 2 ^ hL s
theorem xY.lt {n p s M p' s' M'} (h:xY n p s M) (h':xY n p' s' M') (hs:s<s'):p<p':=by
 have k:=RX hs
 have a1:hV s * 2 ^ 63+(M - 2 ^ 63)<(hV s+1) * 2 ^ 63:=by have:=h.hi;omega
 have a2:hV s' * 2 ^ 63≤hV s' * 2 ^ 63+(M' - 2 ^ 63):=Nat.le_add_right _ _
 have b1:=Nat.mul_lt_mul_of_pos_right (k:=2 ^ (n - 1) * 2 ^ hL s') a1 (Nat.mul_pos (jy _) (jy _))
 have b2:=Nat.mul_le_mul_right (2 ^ (n - 1) * 2 ^ hL s) a2
 rw [← Nat.mul_assoc,h.eq] at b1
 rw [← Nat.mul_assoc (_+_),h'.eq] at b2
 have k2:=Nat.mul_le_mul_right (2 ^ 63 * 2 ^ (n - 1)) k
 have e1:(hV s+1) * 2 ^ 63 * (2 ^ (n - 1) * 2 ^ hL s')=(hV s+1) * 2 ^ hL s' * (2 ^ 63 * 2 ^ (n - 1)):=by ac_rfl
 have e2:hV s' * 2 ^ 63 * (2 ^ (n - 1) * 2 ^ hL s)=hV s' * 2 ^ hL s * (2 ^ 63 * 2 ^ (n - 1)):=by ac_rfl
 have e3:p * 2 ^ 63 * 2 ^ hL s * 2 ^ hL s'=p * (2 ^ 63 * 2 ^ hL s * 2 ^ hL s'):=by ac_rfl
 have e4:p' * 2 ^ 63 * 2 ^ hL s' * 2 ^ hL s=p' * (2 ^ 63 * 2 ^ hL s * 2 ^ hL s'):=by ac_rfl
 rw [e3] at b1
 rw [e4] at b2
 rw [e1] at b1
 rw [e2] at b2
 exact Nat.lt_of_mul_lt_mul_right (a:=2 ^ 63 * 2 ^ hL s * 2 ^ hL s') (by omega)
theorem xY.same {n p s M s' M'} (h:xY n p s M) (h':xY n p s' M'):s=s'∧M=M':=by
 have hs:s=s':=by
  apply Int.le_antisymm
  ·apply Int.not_lt.1;intro hlt;exact Nat.lt_irrefl _ (h'.lt h hlt)
  ·apply Int.not_lt.1;intro hlt;exact Nat.lt_irrefl _ (h.lt h' hlt)
 subst hs
 have e:=h.eq.trans h'.eq.symm
 have e2:=Nat.eq_of_mul_eq_mul_right (jy (n - 1)) e
 have:=h.lo
 have:=h'.lo
 exact ⟨rfl,by omega⟩
theorem Ov {n p:Nat} {s:Int} {reg r eb fb ehi frac:Nat} (hreg:Xx s=reg) (hr:XV s=r+1) (hn:n - 1=r+1+eb+fb) (hp:p=reg * 2 ^ (eb+fb)+ehi * 2 ^ fb+frac)
  (hf:frac<2 ^ fb) (heb:eb≤2) (h2:eb<2→fb=0) (he:(s % 4).toNat=ehi * 2 ^ (2 - eb)) (hfb:fb≤63) (hlow : -top n≤s) (hhigh:s≤top n) :
  xY n p s (2 ^ 63+frac * 2 ^ (63 - fb)):=by
 have h1:frac * 2 ^ (63 - fb)<2 ^ 63:=by
  have:frac * 2 ^ (63 - fb)<2 ^ fb * 2 ^ (63 - fb):=Nat.mul_lt_mul_of_pos_right hf (jy _)
  rwa [← Nat.pow_add,show fb+(63 - fb)=63 by omega] at this
 refine ⟨Nat.le_add_right _ _,?_,hlow,hhigh,?_⟩
 ·rw [Nat.pow_succ 2 63,Nat.mul_two];exact Nat.add_lt_add_left h1 _
 ·unfold hV hL
  rw [hreg,hr,he,hn,hp,Nat.add_sub_cancel_left,Nat.add_mul,Nat.add_mul,Nat.add_mul,Nat.add_mul,Nat.add_mul,Nat.add_mul,Nat.add_mul]
  have e1:reg * 4 * 2 ^ 63 * 2 ^ (r+1+eb+fb)=reg * 2 ^ (eb+fb) * 2 ^ 63 * 2 ^ (r+1+2):=by
   rw [Nat.mul_assoc reg,Nat.mul_assoc reg,Nat.mul_assoc reg,Nat.mul_assoc reg,show (4:Nat)=2 ^ 2 from rfl, ← Nat.pow_add, ← Nat.pow_add, ← Nat.pow_add, ← Nat.pow_add]
   congr 2;omega
  have e2:ehi * 2 ^ (2 - eb) * 2 ^ 63 * 2 ^ (r+1+eb+fb)=ehi * 2 ^ fb * 2 ^ 63 * 2 ^ (r+1+2):=by
   rw [Nat.mul_assoc ehi,Nat.mul_assoc ehi,Nat.mul_assoc ehi,Nat.mul_assoc ehi, ← Nat.pow_add, ← Nat.pow_add, ← Nat.pow_add, ← Nat.pow_add]
   congr 2;omega
  have e3:frac * 2 ^ (63 - fb) * 2 ^ (r+1+eb+fb)=frac * 2 ^ 63 * 2 ^ (r+1+2):=by
   by_cases h:eb=2
   ·rw [Nat.mul_assoc frac,Nat.mul_assoc frac, ← Nat.pow_add, ← Nat.pow_add]
    congr 2;omega
   ·have:fb=0:=h2 (by omega)
    subst this
    have:frac=0:=by simpa using hf
    simp only [this,Nat.zero_mul]
  rw [e1,e2,e3]
theorem Fb {n:Nat} (hn:2≤n):xY n (2 ^ (n - 1) - 1) (top n) (2 ^ 63):=by
 refine ⟨Nat.le_refl _,by rw [Nat.pow_succ 2 63,Nat.mul_two];exact Nat.lt_add_of_pos_right (jy _),by unfold top;omega,Int.le_refl _,?_⟩
 rw [Nat.sub_self,Nat.add_zero,Nat.mul_right_comm,afl hn];ac_rfl
theorem Xf {s:Int} {r:Nat} (h1:1≤r) (h:s / 4=(r:Int) - 1):Xx s=2 ^ (r+1) - 2∧XV s=r+1:=by
 unfold Xx XV
 rw [h,if_pos (by omega),if_pos (by omega),show ((r:Int) - 1).toNat+2=r+1 by omega]
 exact ⟨rfl,rfl⟩
theorem KA {s:Int} {r:Nat} (h1:1≤r) (h:s / 4 = -(r:Int)):Xx s=1∧XV s=r+1:=by
 unfold Xx XV
 rw [h,if_neg (by omega),if_neg (by omega),show (-(-(r:Int))).toNat+1=r+1 by omega]
 exact ⟨rfl,rfl⟩
theorem uu {n p r:Nat} {ones:Bool} (hn:3≤n) (aFo:n≤64) (hr1:1≤r) (hr2:r+2≤n)
  (hp:p / 2 ^ (n - 2 - r)=if ones=true then 2 ^ (r+1) - 2 else 1) {eb fb:Nat} (heb:eb=min (n - 2 - r) 2) (hfb:fb=n - 2 - r - eb) :
  xY n p (4 * (if ones=true then (r:Int) - 1 else -(r:Int))+((p / 2 ^ fb % 2 ^ eb * 2 ^ (2 - eb):Nat):Int)) (2 ^ 63+p % 2 ^ fb * 2 ^ (63 - fb)):=by
 have hE:p / 2 ^ fb % 2 ^ eb * 2 ^ (2 - eb)<4:=by
  have h1:=Nat.mod_lt (p / 2 ^ fb) (jy eb)
  have h2:p / 2 ^ fb % 2 ^ eb * 2 ^ (2 - eb)<2 ^ eb * 2 ^ (2 - eb):=Nat.mul_lt_mul_of_pos_right h1 (jy _)
  rwa [← Nat.pow_add,show eb+(2 - eb)=2 by omega] at h2
 obtain ⟨E,hEe⟩:∃ E,p / 2 ^ fb % 2 ^ eb * 2 ^ (2 - eb)=E:=⟨_,rfl⟩
 have hdiv:(4 * (if ones=true then (r:Int) - 1 else -(r:Int))+(E:Int)) / 4=if ones=true then (r:Int) - 1 else -(r:Int):=by omega
 have hmod:((4 * (if ones=true then (r:Int) - 1 else -(r:Int))+(E:Int)) % 4).toNat=E:=by omega
 have hsplit:p=p / 2 ^ (n - 2 - r) * 2 ^ (eb+fb)+p / 2 ^ fb % 2 ^ eb * 2 ^ fb+p % 2 ^ fb:=by
  have e:n - 2 - r=fb+eb:=by omega
  have d1:=Nat.div_add_mod p (2 ^ fb)
  have d2:=Nat.div_add_mod (p / 2 ^ fb) (2 ^ eb)
  rw [e,Nat.add_comm eb fb,Nat.pow_add, ← Nat.div_div_eq_div_mul]
  have e2:p / 2 ^ fb / 2 ^ eb * (2 ^ fb * 2 ^ eb)+p / 2 ^ fb % 2 ^ eb * 2 ^ fb=p / 2 ^ fb * 2 ^ fb:=by
   rw [Nat.mul_comm (2 ^ fb), ← Nat.mul_assoc, ← Nat.add_mul,Nat.mul_comm _ (2 ^ eb),d2]
  rw [e2,Nat.mul_comm];exact d1.symm
 rw [hEe]
 have ht:top n=4 * (n:Int) - 8:=rfl
 cases ones with
 | true =>
  simp only [if_true] at hp hdiv hmod ⊢
  obtain ⟨v,l⟩:=Xf hr1 hdiv
  rw [hp] at hsplit
  exact Ov v l (by omega) hsplit (Nat.mod_lt _ (jy _)) (by omega) (by omega) (by rw [hmod,hEe]) (by omega) (by rw [ht];omega) (by rw [ht];omega)
 | false =>
  simp only [Bool.false_eq_true,if_false] at hp hdiv hmod ⊢
  obtain ⟨v,l⟩:=KA hr1 hdiv
  rw [hp] at hsplit
  exact Ov v l (by omega) hsplit (Nat.mod_lt _ (jy _)) (by omega) (by omega) (by rw [hmod,hEe]) (by omega) (by rw [ht];omega) (by rw [ht];omega)
end Go.Proofs.Yy.TA
end
section
namespace Go.Proofs.Yy.Bd
open Go.Shelf Go.RowKit
structure Kept (p:Prop):Prop where
 out:p
abbrev IsB (B b:Nat) (l:List UInt8) (w:World):Prop:=Lib.IsBuilderF 111 5 B b (Lib.byteCells l) w
theorem uq (l:List UInt8):(Lib.byteCells l).length=l.length:=List.length_map ..
theorem write (B b:Nat) (l:List UInt8) (s:ByteArray) (w:World) (h:IsB B b l w) (hlen:l.length+s.size≤140737488355328) (hBw:B≤w.heap.size) :
  Calls Tryz.prog 68 #[.pointer (some ⟨b,0,none⟩), .string s] w fun e w'=>e = .returned (.tuple #[.int .i64 s.size, .nilIface])∧IsB B b (l ++ s.data.toList) w'∧Below B w w':=by
 refine (Any.Builder_WriteString_f { Tryz.lays105 with } Tryz.Builder_Extra_105 B b (Lib.byteCells l) s w h (by rw [uq];exact hlen) hBw).mono ?_
 rintro e w' ⟨he,h1,h2⟩
 refine ⟨he, .inr ?_,h2⟩
 have e2:Lib.byteCells (l ++ s.data.toList)=Lib.byteCells l ++ Lib.strCells s:=by simp [Lib.byteCells,Lib.strCells]
 rw [e2]
 exact h1
theorem made (w:World):IsB w.heap.size w.heap.size [] (w.alloc (.cells #[.pointer none, .slice none 0 0] 111)):=by
 rcases Lib.fresh_isBuilder 111 5 w with h|h
 ·exact .inl (Lib.BuilderAtF.of h)
 ·exact .inr (Lib.BuilderAtF.of h)
theorem Oq {B b:Nat} {p:Value} {bs:List Value} {w w':World} (h:Lib.BuilderAtF 111 5 B b p bs w) (hb:Below w.heap.size w w'):Lib.BuilderAtF 111 5 B b p bs w':=by
 obtain ⟨hB,v,hbk,hown,hne⟩:=h
 have hlt:b<w.heap.size:=(Array.getElem?_eq_some_iff.1 hbk).1
 refine ⟨hB,v,by rw [hb.block b hlt];exact hbk,?_,hne⟩
 obtain ⟨h1,h2⟩:=hown
 refine ⟨h1,?_⟩
 rcases h2 with h2|⟨g,cap,cur,fz,hv,hBg,hg,r⟩
 ·exact .inl h2
 ·exact .inr ⟨g,cap,cur,fz,hv,hBg,by rw [hb.block g (Array.getElem?_eq_some_iff.1 hg).1];exact hg,r⟩
theorem IsB.below {B b:Nat} {l:List UInt8} {w w':World} (h:IsB B b l w) (hb:Below w.heap.size w w'):IsB B b l w':=by
 rcases h with h|h
 ·exact .inl (Oq h hb)
 ·exact .inr (Oq h hb)
theorem copyCheck (B b:Nat) (bs:List Value) (w:World) (h:Lib.IsBuilderF 111 5 B b bs w) :
  Calls Tryz.prog 121 #[.pointer (some ⟨b,0,none⟩)] w fun e w'=>e = .returned (.tuple #[])∧(Lib.BuilderAtF 111 5 B b (.pointer (some ⟨b,0,none⟩)) bs w'∧Below B w w') :=
 Any.Builder_copyCheck_f { Tryz.lays105 with } Tryz.Builder_Extra_105.toX72 B b bs w h
set_option maxHeartbeats 2000000 in
set_option maxRecDepth 100000 in
theorem writeByte (B b:Nat) (l:List UInt8) (c:UInt8) (w:World) (h:IsB B b l w) (hlen:l.length+1≤140737488355328) (hBw:B≤w.heap.size) :
  Calls Tryz.prog 67 #[.pointer (some ⟨b,0,none⟩), .int .u8 (c.toNat:Int)] w fun e w'=>e = .returned .nilIface∧IsB B b (l ++ [c]) w'∧Below B w w':=by
 have hinfo:(Tryz.prog.info? 5).map (fun i=>(i.zero,i.size,i.bytes))=some (some (.int .u8 0),1,1):=by kernel_rfl
 obtain ⟨i0,hi,he⟩:=Option.map_eq_some_iff.1 hinfo
 simp only [Prod.mk.injEq] at he
 obtain ⟨hz0,hz1,hz2⟩:=he
 go_enter Tryz.func67,Tryz.ntmps67
 go_wp2_with (go_at_call 121;refine (copyCheck B b (Lib.byteCells l) _ h).mono ?_)
 rintro e w1 ⟨rfl,h1,hb1⟩
 obtain ⟨hB,v,hbk,hown,hne⟩:=h1
 have c0:w1.cell? ⟨b,0,none⟩=some (.pointer (some ⟨b,0,none⟩)):=by rw [Lib.cell_of_heap hbk];rfl
 have c1:w1.cell? ⟨b,1,none⟩=some v:=by rw [Lib.cell_of_heap hbk];rfl
 go_wp2_with (at_builtin;refine wpList_append_ownF _ rfl _ _ 104 rfl B 5 i0 (.int .u8 0) 1 1 Tryz.underlying104 hi hz0 hz1 hz2 rfl (by decide) _ _ _ rfl (hown.alloc _) ⟨w1.heap.size,0,none⟩ 1 1 [.int .u8 (c.toNat:Int)] rfl rfl ?c1 ?c2 ?c3 ?c4 ?c5 ?_)
 case c1 =>
  intro j u hj
  match j,hj with
  | 0,hj=>simp at hj;subst hj;simp [Addr.add]
 case c2=>intro u hu;simp at hu;subst hu;rfl
 case c3=>rw [uq];unfold maxLen;omega
 case c4=>rw [uq];omega
 case c5=>have:=hb1.size;simp;omega
 intro v' w2 hown' hgrow _
 have hlt:b<w1.heap.size:=(Array.getElem?_eq_some_iff.1 hbk).1
 have hb2:w2.heap[b]? = some (.cells #[.pointer (some ⟨b,0,none⟩),v] 111 (0,0)):=by
  rw [hgrow.block b (by simp;omega) (fun e=>hne e.symm),Lib.alloc_old w1 _ b hlt]
  exact hbk
 have d0:w2.cell? ⟨b,0,none⟩=some (.pointer (some ⟨b,0,none⟩)):=by rw [Lib.cell_of_heap hb2];rfl
 have d1:w2.cell? ⟨b,1,none⟩=some v:=by rw [Lib.cell_of_heap hb2];rfl
 have f1:w2.frozen? ⟨b,1,none⟩=false:=Lib.frozen_of_heap hb2 1
 obtain ⟨g,cap,rfl⟩:∃ g cap,v' = .slice (some ⟨g,0,none⟩) ((Lib.byteCells l).length+1) cap:=by
  rcases hown'.2 with ⟨_,h0⟩|⟨g,cap,cur,fz,hv,_⟩
  ·omega
  ·exact ⟨g,cap,hv⟩
 have hput:=Lib.BuilderAtF.put (T:=111) (e:=5) hB hb2 (bs':=Lib.byteCells l ++ [.int .u8 (c.toNat:Int)]) (by simpa using hown') (by decide)
 have hbel:=((hb1.alloc (by have:=hb1.size;omega) (.cells #[.int .u8 (c.toNat:Int)] 5)).grown hgrow (by have:=hb1.size;simp;omega) (fun k hk=>(hown.lt k hk).1)).setCell (p:=⟨b,1,none⟩) hB (.slice (some ⟨g,0,none⟩) ((Lib.byteCells l).length+1) cap)
 have KP:=Kept.mk hput
 have KB:=Kept.mk hbel
 clear hput hbel hown' hgrow
 go_wp2
 go_ret
 refine ⟨rfl, .inr ?_,KB.out⟩
 have e2:Lib.byteCells (l ++ [c])=Lib.byteCells l ++ [.int .u8 (c.toNat:Int)]:=by simp [Lib.byteCells]
 rw [e2]
 exact KP.out
end Go.Proofs.Yy.Bd
end
section
namespace Go.Proofs.Yy.M
theorem J9 {P:Program} (t e:TypeId) (kh km:IntKind) {i:TypeInfo} (ht:P.underlying t=some (.slice e)) (hi:P.info? e=some i) (A:Option Addr) (n c:Nat) (j:Int) (h0:0≤j) (hm:j≤n) (hc:n≤c) :
  ∀ W:World,(Instr.slice t (.slice A n c) none (some (.int kh j)) (some (.int km j))).run P W = .ok (.slice A j.toNat j.toNat) W:=by
 intro W
 have hel:P.elem t=e:=by simp [Program.elem,ht]
 have hu:P.underlying t=some (.slice (P.elem t)):=by rw [hel];exact ht
 have ha:(A.map fun x=>x.add 0)=A:=by cases A <;> simp [Addr.add]
 rw [run_slice_hm W t A n c hu kh km j j h0 (Int.le_refl _) (by omega),hel]
 simp [sizeOf,typeInfo,hi,sliced,Result.andThen,ha]
theorem AA {P:Program} {ops:Array Oper} {Q:Exit→Act→World→Prop} {rest:List Oper} {oi:Oper} {a:Act} {w:World} (N:Option Tmp) (hd:oi.dst=N) (hg:oi.guard=none) {f:FuncId} {xs:Array Operand} {ts:Array TypeId} (args:Array Value) (v:Value)
  (hop:oi.op = .call { callee := .value (.func f),args:=xs,argTypes:=ts }) (hargs:xs.map a.eval=args) (hrun:∀ w:World,(callFunc f args).run P w = .ok (.value v) w)
  (h:wpList P ops Q rest (a.put N v) w):wpList P ops Q (oi :: rest) a w:=by
 refine wpList_plain hg fun K hK=>?_
 have hr:(execOp a.eval oi).run P w = .ok (.value v) w:=by
  unfold execOp
  simp [hop,resolve,Deferred.ofValue,invoke,Act.eval,hargs,hrun]
 unfold Oper.wp
 rw [hr,Oper.upon_value]
 subst hd
 exact hK _ _ h
def gp (x y c:Int):Int:=(((x.toNat+y.toNat+c.toNat) % 18446744073709551616:Nat):Int)
def jK (x y c:Int):Int:=(((x.toNat+y.toNat+c.toNat) / 18446744073709551616:Nat):Int)
def lI (x y b:Int):Int:=(((x.toNat+18446744073709551616 - y.toNat - b.toNat) % 18446744073709551616:Nat):Int)
def oL (x y b:Int):Int:=((if x.toNat<y.toNat+b.toNat then 1 else 0:Nat):Int)
def Cc:Array Value→Sem Value:=fun args=>do
 let (x, y, b) ← Extern.MathBitsCarry.three "Sub64" args
 pure (Extern.MathBitsCarry.pair ((x+Extern.MathBitsCarry.m64 - y - b) % Extern.MathBitsCarry.m64) (if x<y+b then 1 else 0))
theorem dw (x y c:Int) (hc:c≤1) (w:World) :
  (callFunc 191 #[.int .u64 x, .int .u64 y, .int .u64 c]).run Tryz.prog w = .ok (.value (.tuple #[.int .u64 (gp x y c), .int .u64 (jK x y c)])) w:=by
 rw [run_callFunc_extern Tryz.func191 (by kernel_rfl) (by kernel_rfl) (by kernel_rfl) (e:=add64Entry) (by kernel_rfl)]
 have key:(add64Entry #[.int .u64 x, .int .u64 y, .int .u64 c]).run Tryz.prog w = .ok (.tuple #[.int .u64 (gp x y c), .int .u64 (jK x y c)]) w:=by
  cases c with
  | ofNat k =>
   have:k=0∨k=1:=by have:(k:Int)≤1:=hc;omega
   rcases this with rfl|rfl <;> rfl
  | negSucc k=>rfl
 rw [key]
 rfl
theorem dQ (x y b:Int) (hb:b≤1) (w:World) :
  (callFunc 215 #[.int .u64 x, .int .u64 y, .int .u64 b]).run Tryz.prog w = .ok (.value (.tuple #[.int .u64 (lI x y b), .int .u64 (oL x y b)])) w:=by
 rw [run_callFunc_extern Tryz.func215 (by kernel_rfl) (by kernel_rfl) (by kernel_rfl) (e:=Cc) (by kernel_rfl)]
 have key:(Cc #[.int .u64 x, .int .u64 y, .int .u64 b]).run Tryz.prog w = .ok (.tuple #[.int .u64 (lI x y b), .int .u64 (oL x y b)]) w:=by
  cases b with
  | ofNat k =>
   have:k=0∨k=1:=by have:(k:Int)≤1:=hb;omega
   rcases this with rfl|rfl <;> rfl
  | negSucc k=>rfl
 rw [key]
 rfl
theorem akH:Tryz.prog.underlying 27=some (.interface (Tryz.prog.methodsAt 27)):=by kernel_rfl
theorem afg:Tryz.prog.underlying 64=some (.int .i64):=by kernel_rfl
theorem ae4:(Tryz.prog.info? 64).map (·.comparable)=some true:=by kernel_rfl
theorem Fp (d:Nat) (a b:Int) (w:World):(Op.equalIn (d+2) 27 (.iface 64 (.int .i64 a)) (.iface 64 (.int .i64 b))).run Tryz.prog w = .ok (a == b) w:=by
 obtain ⟨i,hinfo,hcomp⟩:=Option.map_eq_some_iff.1 ae4
 simp [Op.equalIn,run_underlying akH,run_underlying afg,typeInfo,hinfo,hcomp]
theorem Fe (d:Nat) (b:Int) (w:World):(Op.equalIn (d+1) 27 .nilIface (.iface 64 (.int .i64 b))).run Tryz.prog w = .ok false w:=by
 simp [Op.equalIn,run_underlying akH]
theorem lD (a b:Int) (w:World):(binOp .eql 27 (.iface 64 (.int .i64 a)) (.iface 64 (.int .i64 b))).run Tryz.prog w = .ok (.bool (a == b)) w:=by
 simp only [binOp]
 simp [Op.equal,Op.maxDepth,Fp 9998 a b w]
theorem lC (a b:Int) (w:World):(binOp .neq 27 (.iface 64 (.int .i64 a)) (.iface 64 (.int .i64 b))).run Tryz.prog w = .ok (.bool (a != b)) w:=by
 simp only [binOp]
 simp [Op.equal,Op.maxDepth,Fp 9998 a b w,bne]
theorem lF (b:Int) (w:World):(binOp .eql 27 .nilIface (.iface 64 (.int .i64 b))).run Tryz.prog w = .ok (.bool false) w:=by
 simp only [binOp]
 simp [Op.equal,Op.maxDepth,Fe 9999 b w]
theorem lG (b:Int) (w:World):(binOp .neq 27 .nilIface (.iface 64 (.int .i64 b))).run Tryz.prog w = .ok (.bool true) w:=by
 simp only [binOp]
 simp [Op.equal,Op.maxDepth,Fe 9999 b w]
end Go.Proofs.Yy.M
end
section
namespace Go.Proofs.Yw.PrintWords
theorem jm.one {α:Type} {R:α→List Value→Prop} {ps:List α} {cs:List Value} {p:α} {v:Value} (hp:R p [v]) (h:jm R 1 ps cs):jm R 1 (p :: ps) (v :: cs):=by
 refine ⟨by simp [h.1],fun j q hq=>?_⟩
 cases j with
 | zero =>
  simp only [List.getElem?_cons_zero,Option.some.injEq] at hq
  subst hq
  simpa using hp
 | succ j =>
  simp only [List.getElem?_cons_succ] at hq
  have h1:=h.2 j q hq
  simpa [Nat.mul_one] using h1
theorem jm.front {α:Type} {R:α→List Value→Prop} {size:Nat} {ps:List α} {cs c all:List Value} {p:α} (hp:R p c) (hc:c.length=size) (h:jm R size ps cs) (ha:c ++ cs=all):jm R size (p :: ps) all:=by
 subst ha
 refine ⟨by rw [List.length_append,hc,h.1,List.length_cons,Nat.succ_mul,Nat.add_comm],fun j q hq=>?_⟩
 cases j with
 | zero =>
  simp only [List.getElem?_cons_zero,Option.some.injEq] at hq
  subst hq
  rw [Nat.zero_mul,List.drop_zero,List.take_append_of_le_length (by omega),List.take_of_length_le (by omega)]
  exact hp
 | succ j =>
  simp only [List.getElem?_cons_succ] at hq
  have h1:=h.2 j q hq
  rw [Nat.succ_mul,List.drop_append,List.drop_of_length_le (by rw [hc];exact Nat.le_add_left _ _),List.nil_append,hc,Nat.add_sub_cancel]
  exact h1
theorem jm.c2 {α:Type} {R:α→List Value→Prop} {ps:List α} {cs:List Value} {p:α} {va vb:Value} (hp:R p [va,vb]) (h:jm R 2 ps cs):jm R 2 (p :: ps) (va :: vb :: cs):=jm.front hp rfl h rfl
theorem jm.c3 {α:Type} {R:α→List Value→Prop} {ps:List α} {cs:List Value} {p:α} {va vb vc:Value} (hp:R p [va,vb,vc]) (h:jm R 3 ps cs):jm R 3 (p :: ps) (va :: vb :: vc :: cs):=jm.front hp rfl h rfl
theorem jm.c4 {α:Type} {R:α→List Value→Prop} {ps:List α} {cs:List Value} {p:α} {va vb vc vd:Value} (hp:R p [va,vb,vc,vd]) (h:jm R 4 ps cs):jm R 4 (p :: ps) (va :: vb :: vc :: vd :: cs):=jm.front hp rfl h rfl
theorem jm.c5 {α:Type} {R:α→List Value→Prop} {ps:List α} {cs:List Value} {p:α} {va vb vc vd ve:Value} (hp:R p [va,vb,vc,vd,ve]) (h:jm R 5 ps cs):jm R 5 (p :: ps) (va :: vb :: vc :: vd :: ve :: cs):=jm.front hp rfl h rfl
theorem jm.c6 {α:Type} {R:α→List Value→Prop} {ps:List α} {cs:List Value} {p:α} {va vb vc vd ve vf:Value} (hp:R p [va,vb,vc,vd,ve,vf]) (h:jm R 6 ps cs):jm R 6 (p :: ps) (va :: vb :: vc :: vd :: ve :: vf :: cs):=jm.front hp rfl h rfl
theorem jm.c7 {α:Type} {R:α→List Value→Prop} {ps:List α} {cs:List Value} {p:α} {va vb vc vd ve vf vg:Value} (hp:R p [va,vb,vc,vd,ve,vf,vg]) (h:jm R 7 ps cs):jm R 7 (p :: ps) (va :: vb :: vc :: vd :: ve :: vf :: vg :: cs):=jm.front hp rfl h rfl
theorem jm.c8 {α:Type} {R:α→List Value→Prop} {ps:List α} {cs:List Value} {p:α} {va vb vc vd ve vf vg vh:Value} (hp:R p [va,vb,vc,vd,ve,vf,vg,vh]) (h:jm R 8 ps cs):jm R 8 (p :: ps) (va :: vb :: vc :: vd :: ve :: vf :: vg :: vh :: cs):=jm.front hp rfl h rfl
theorem jm.c9 {α:Type} {R:α→List Value→Prop} {ps:List α} {cs:List Value} {p:α} {va vb vc vd ve vf vg vh vi:Value} (hp:R p [va,vb,vc,vd,ve,vf,vg,vh,vi]) (h:jm R 9 ps cs):jm R 9 (p :: ps) (va :: vb :: vc :: vd :: ve :: vf :: vg :: vh :: vi :: cs):=jm.front hp rfl h rfl
theorem jm.c10 {α:Type} {R:α→List Value→Prop} {ps:List α} {cs:List Value} {p:α} {va vb vc vd ve vf vg vh vi vj:Value} (hp:R p [va,vb,vc,vd,ve,vf,vg,vh,vi,vj]) (h:jm R 10 ps cs):jm R 10 (p :: ps) (va :: vb :: vc :: vd :: ve :: vf :: vg :: vh :: vi :: vj :: cs):=jm.front hp rfl h rfl
end Go.Proofs.Yw.PrintWords
end
