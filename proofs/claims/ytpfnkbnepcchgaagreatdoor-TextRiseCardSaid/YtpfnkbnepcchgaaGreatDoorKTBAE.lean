/- Part 5 of what the proof needs. -/
import Derived.Test.YtpfnkbnepcchgaaGreatDoorKTBAA
import Derived.Test.YtpfnkbnepcchgaaGreatDoorKTBAB
import Derived.Test.YtpfnkbnepcchgaaGreatDoorKTBAD
set_option linter.unusedSimpArgs false
set_option linter.unusedVariables false
section
namespace Go.Proofs.Yy.SR
open Go.RowKit Go.Proofs.Yy.SC
theorem eqc {c:UInt8} {n:Nat} (hn:n<256) (h:(c.toNat:Int)=(n:Int)):c=UInt8.ofNat n:=by
 apply UInt8.toNat_inj.1
 have e:(UInt8.ofNat n).toNat=n:=by simp;omega
 rw [e];omega
theorem cls (c:UInt8):c=43∨c=45∨c=46∨c=69∨c=101∨(48≤(c.toNat:Int)∧(c.toNat:Int)≤57) ∨
  ((c.toNat:Int)<48∧(c.toNat:Int)≠43∧(c.toNat:Int)≠45∧(c.toNat:Int)≠46)∨(57<(c.toNat:Int)∧(c.toNat:Int)≠69∧(c.toNat:Int)≠101):=by
 by_cases h1:(c.toNat:Int)=43
 ·exact .inl (eqc (n:=43) (by decide) h1)
 by_cases h2:(c.toNat:Int)=45
 ·exact .inr (.inl (eqc (n:=45) (by decide) h2))
 by_cases h3:(c.toNat:Int)=46
 ·exact .inr (.inr (.inl (eqc (n:=46) (by decide) h3)))
 by_cases h4:(c.toNat:Int)=69
 ·exact .inr (.inr (.inr (.inl (eqc (n:=69) (by decide) h4))))
 by_cases h5:(c.toNat:Int)=101
 ·exact .inr (.inr (.inr (.inr (.inl (eqc (n:=101) (by decide) h5)))))
 refine .inr (.inr (.inr (.inr (.inr ?_))))
 omega
theorem dg_of {c:UInt8} (h:48≤(c.toNat:Int)∧(c.toNat:Int)≤57):dg c=true:=by
 unfold dg;simp only [Bool.and_eq_true,decide_eq_true_iff];omega
theorem dg_low {c:UInt8} (h:(c.toNat:Int)<48∧(c.toNat:Int)≠43∧(c.toNat:Int)≠45∧(c.toNat:Int)≠46):dg c=false∧sg c=false∧eb c=false∧(c == 46)=false:=by
 refine ⟨?_,?_,?_,?_⟩
 ·unfold dg;simp only [Bool.and_eq_false_iff,decide_eq_false_iff_not];omega
 ·unfold sg;simp only [Bool.or_eq_false_iff,beq_eq_false_iff_ne,ne_eq];constructor <;> (rintro rfl;simp at h)
 ·unfold eb;simp only [Bool.or_eq_false_iff,beq_eq_false_iff_ne,ne_eq];constructor <;> (rintro rfl;simp at h)
 ·simp only [beq_eq_false_iff_ne,ne_eq];rintro rfl;simp at h
theorem dg_high {c:UInt8} (h:57<(c.toNat:Int)∧(c.toNat:Int)≠69∧(c.toNat:Int)≠101):dg c=false∧sg c=false∧eb c=false∧(c == 46)=false:=by
 refine ⟨?_,?_,?_,?_⟩
 ·unfold dg;simp only [Bool.and_eq_false_iff,decide_eq_false_iff_not];omega
 ·unfold sg;simp only [Bool.or_eq_false_iff,beq_eq_false_iff_ne,ne_eq];constructor <;> (rintro rfl;simp at h)
 ·unfold eb;simp only [Bool.or_eq_false_iff,beq_eq_false_iff_ne,ne_eq];constructor <;> (rintro rfl;simp at h)
 ·simp only [beq_eq_false_iff_ne,ne_eq];rintro rfl;simp at h
theorem st_of {r:R} (h:okst r=true):r.st=0∨r.st=2∨r.st=3∨r.st=4∨r.st=5∨r.st=6∨r.st=7∨r.st=8:=by
 unfold okst at h
 simp only [Bool.or_eq_true,beq_iff_eq] at h
 omega
theorem take_none (B b k:Nat) (r:R) (c:UInt8) (w:World) (h:At B b r w) (hi:Inv k r) (ht:tk r c=none) :
  Calls Tryz.prog 62 #[.pointer (some ⟨b,0,none⟩), .int .u8 (c.toNat:Int)] w fun e w'=>e = .returned (.bool false)∧Below B w w':=by
 rcases st_of hi.st with hs|hs|hs|hs|hs|hs|hs|hs
 ·rcases cls c with rfl|rfl|rfl|rfl|rfl|hc|hc|hc
  ·exfalso;unfold tk at ht;rw [hs] at ht;simp [sg,eb,dg] at ht
  ·exfalso;unfold tk at ht;rw [hs] at ht;simp [sg,eb,dg] at ht
  ·exact take0_no46 B b r w h hs
  ·exact take0_no69 B b r w h hs
  ·exact take0_no101 B b r w h hs
  ·exfalso;have hd:=dg_of hc;obtain ⟨a1,a2,a3⟩:=dg_not_sg hd;unfold tk at ht;rw [hs] at ht;simp [hd,a1,a2,a3] at ht
  ·exact take0_low B b r _ hc w h hs
  ·exact take0_high B b r _ hc w h hs
 ·rcases cls c with rfl|rfl|rfl|rfl|rfl|hc|hc|hc
  ·exact take2_no43 B b r w h hs
  ·exact take2_no45 B b r w h hs
  ·exact take2_no46 B b r w h hs
  ·exact take2_no69 B b r w h hs
  ·exact take2_no101 B b r w h hs
  ·exfalso;have hd:=dg_of hc;obtain ⟨a1,a2,a3⟩:=dg_not_sg hd;unfold tk at ht;rw [hs] at ht;simp [hd,a1,a2,a3] at ht
  ·exact take2_low B b r _ hc w h hs
  ·exact take2_high B b r _ hc w h hs
 ·rcases cls c with rfl|rfl|rfl|rfl|rfl|hc|hc|hc
  ·exact take3_no43 B b r w h hs
  ·exact take3_no45 B b r w h hs
  ·exfalso;unfold tk at ht;rw [hs] at ht;simp [sg,eb,dg] at ht
  ·exfalso;unfold tk at ht;rw [hs] at ht;simp [sg,eb,dg] at ht
  ·exfalso;unfold tk at ht;rw [hs] at ht;simp [sg,eb,dg] at ht
  ·exfalso;have hd:=dg_of hc;obtain ⟨a1,a2,a3⟩:=dg_not_sg hd;unfold tk at ht;rw [hs] at ht;simp [hd,a1,a2,a3] at ht
  ·exact take3_low B b r _ hc w h hs
  ·exact take3_high B b r _ hc w h hs
 ·rcases cls c with rfl|rfl|rfl|rfl|rfl|hc|hc|hc
  ·exact take4_no43 B b r w h hs
  ·exact take4_no45 B b r w h hs
  ·exact take4_no46 B b r w h hs
  ·exact take4_no69 B b r w h hs
  ·exact take4_no101 B b r w h hs
  ·exfalso;have hd:=dg_of hc;obtain ⟨a1,a2,a3⟩:=dg_not_sg hd;unfold tk at ht;rw [hs] at ht;simp [hd,a1,a2,a3] at ht
  ·exact take4_low B b r _ hc w h hs
  ·exact take4_high B b r _ hc w h hs
 ·rcases cls c with rfl|rfl|rfl|rfl|rfl|hc|hc|hc
  ·exact take5_no43 B b r w h hs
  ·exact take5_no45 B b r w h hs
  ·exact take5_no46 B b r w h hs
  ·exfalso;unfold tk at ht;rw [hs] at ht;simp [sg,eb,dg] at ht
  ·exfalso;unfold tk at ht;rw [hs] at ht;simp [sg,eb,dg] at ht
  ·exfalso;have hd:=dg_of hc;obtain ⟨a1,a2,a3⟩:=dg_not_sg hd;unfold tk at ht;rw [hs] at ht;simp [hd,a1,a2,a3] at ht
  ·exact take5_low B b r _ hc w h hs
  ·exact take5_high B b r _ hc w h hs
 ·rcases cls c with rfl|rfl|rfl|rfl|rfl|hc|hc|hc
  ·exfalso;unfold tk at ht;rw [hs] at ht;simp [sg,eb,dg] at ht
  ·exfalso;unfold tk at ht;rw [hs] at ht;simp [sg,eb,dg] at ht
  ·exact take6_no46 B b r w h hs
  ·exact take6_no69 B b r w h hs
  ·exact take6_no101 B b r w h hs
  ·exfalso;have hd:=dg_of hc;obtain ⟨a1,a2,a3⟩:=dg_not_sg hd;unfold tk at ht;rw [hs] at ht;simp [hd,a1,a2,a3] at ht
  ·exact take6_low B b r _ hc w h hs
  ·exact take6_high B b r _ hc w h hs
 ·rcases cls c with rfl|rfl|rfl|rfl|rfl|hc|hc|hc
  ·exact take7_no43 B b r w h hs
  ·exact take7_no45 B b r w h hs
  ·exact take7_no46 B b r w h hs
  ·exact take7_no69 B b r w h hs
  ·exact take7_no101 B b r w h hs
  ·exfalso;have hd:=dg_of hc;obtain ⟨a1,a2,a3⟩:=dg_not_sg hd;unfold tk at ht;rw [hs] at ht;simp [hd,a1,a2,a3] at ht
  ·exact take7_low B b r _ hc w h hs
  ·exact take7_high B b r _ hc w h hs
 ·rcases cls c with rfl|rfl|rfl|rfl|rfl|hc|hc|hc
  ·exact take8_no43 B b r w h hs
  ·exact take8_no45 B b r w h hs
  ·exact take8_no46 B b r w h hs
  ·exact take8_no69 B b r w h hs
  ·exact take8_no101 B b r w h hs
  ·exfalso;have hd:=dg_of hc;obtain ⟨a1,a2,a3⟩:=dg_not_sg hd;unfold tk at ht;rw [hs] at ht;simp [hd,a1,a2,a3] at ht
  ·exact take8_low B b r _ hc w h hs
  ·exact take8_high B b r _ hc w h hs
theorem take_some (B b k:Nat) (r r':R) (c:UInt8) (w:World) (h:At B b r w) (hi:Inv k r) (hk:k<1000000) (hBw:B≤w.heap.size) (ht:tk r c=some r') :
  Calls Tryz.prog 62 #[.pointer (some ⟨b,0,none⟩), .int .u8 (c.toNat:Int)] w fun e w'=>e = .returned (.bool true)∧At B b r' w'∧Below B w w':=by
 have hlen:r.ds.length<1000000:=by have:=hi.len;omega
 have hbeh:r.beh<1000000:=by have:=hi.beh;omega
 rcases st_of hi.st with hs|hs|hs|hs|hs|hs|hs|hs
 ·rcases cls c with rfl|rfl|rfl|rfl|rfl|hc|hc|hc
  ·unfold tk at ht;rw [hs] at ht;simp [sg,eb,dg] at ht;subst ht;exact take0_43 B b r w h hs
  ·unfold tk at ht;rw [hs] at ht;simp [sg,eb,dg] at ht;subst ht;exact take0_45 B b r w h hs
  ·exfalso;unfold tk at ht;rw [hs] at ht;simp [sg,eb,dg] at ht
  ·exfalso;unfold tk at ht;rw [hs] at ht;simp [sg,eb,dg] at ht
  ·exfalso;unfold tk at ht;rw [hs] at ht;simp [sg,eb,dg] at ht
  ·have hd:=dg_of hc;obtain ⟨a1,a2,a3⟩:=dg_not_sg hd;unfold tk at ht;rw [hs] at ht;simp only [hd,a1,a2,a3,if_true,Bool.false_eq_true,if_false,Option.some.injEq] at ht;subst ht;exact take0_digit B b r c _ rfl hc w h hs hBw hlen hbeh
  ·exfalso;obtain ⟨a0,a1,a2,a3⟩:=dg_low hc;unfold tk at ht;rw [hs] at ht;simp [a0,a1,a2,a3] at ht
  ·exfalso;obtain ⟨a0,a1,a2,a3⟩:=dg_high hc;unfold tk at ht;rw [hs] at ht;simp [a0,a1,a2,a3] at ht
 ·rcases cls c with rfl|rfl|rfl|rfl|rfl|hc|hc|hc
  ·exfalso;unfold tk at ht;rw [hs] at ht;simp [sg,eb,dg] at ht
  ·exfalso;unfold tk at ht;rw [hs] at ht;simp [sg,eb,dg] at ht
  ·exfalso;unfold tk at ht;rw [hs] at ht;simp [sg,eb,dg] at ht
  ·exfalso;unfold tk at ht;rw [hs] at ht;simp [sg,eb,dg] at ht
  ·exfalso;unfold tk at ht;rw [hs] at ht;simp [sg,eb,dg] at ht
  ·have hd:=dg_of hc;obtain ⟨a1,a2,a3⟩:=dg_not_sg hd;unfold tk at ht;rw [hs] at ht;simp only [hd,a1,a2,a3,if_true,Bool.false_eq_true,if_false,Option.some.injEq] at ht;subst ht;exact take2_digit B b r c _ rfl hc w h hs hBw hlen hbeh
  ·exfalso;obtain ⟨a0,a1,a2,a3⟩:=dg_low hc;unfold tk at ht;rw [hs] at ht;simp [a0,a1,a2,a3] at ht
  ·exfalso;obtain ⟨a0,a1,a2,a3⟩:=dg_high hc;unfold tk at ht;rw [hs] at ht;simp [a0,a1,a2,a3] at ht
 ·rcases cls c with rfl|rfl|rfl|rfl|rfl|hc|hc|hc
  ·exfalso;unfold tk at ht;rw [hs] at ht;simp [sg,eb,dg] at ht
  ·exfalso;unfold tk at ht;rw [hs] at ht;simp [sg,eb,dg] at ht
  ·unfold tk at ht;rw [hs] at ht;simp [sg,eb,dg] at ht;subst ht;exact take3_46 B b r w h hs
  ·unfold tk at ht;rw [hs] at ht;simp [sg,eb,dg] at ht;subst ht;exact take3_69 B b r w h hs
  ·unfold tk at ht;rw [hs] at ht;simp [sg,eb,dg] at ht;subst ht;exact take3_101 B b r w h hs
  ·have hd:=dg_of hc;obtain ⟨a1,a2,a3⟩:=dg_not_sg hd;unfold tk at ht;rw [hs] at ht;simp only [hd,a1,a2,a3,if_true,Bool.false_eq_true,if_false,Option.some.injEq] at ht;subst ht;have q:=take3_digit B b r c _ rfl hc w h hs hBw hlen hbeh;rw [hs] at q;exact q
  ·exfalso;obtain ⟨a0,a1,a2,a3⟩:=dg_low hc;unfold tk at ht;rw [hs] at ht;simp [a0,a1,a2,a3] at ht
  ·exfalso;obtain ⟨a0,a1,a2,a3⟩:=dg_high hc;unfold tk at ht;rw [hs] at ht;simp [a0,a1,a2,a3] at ht
 ·rcases cls c with rfl|rfl|rfl|rfl|rfl|hc|hc|hc
  ·exfalso;unfold tk at ht;rw [hs] at ht;simp [sg,eb,dg] at ht
  ·exfalso;unfold tk at ht;rw [hs] at ht;simp [sg,eb,dg] at ht
  ·exfalso;unfold tk at ht;rw [hs] at ht;simp [sg,eb,dg] at ht
  ·exfalso;unfold tk at ht;rw [hs] at ht;simp [sg,eb,dg] at ht
  ·exfalso;unfold tk at ht;rw [hs] at ht;simp [sg,eb,dg] at ht
  ·have hd:=dg_of hc;obtain ⟨a1,a2,a3⟩:=dg_not_sg hd;unfold tk at ht;rw [hs] at ht;simp only [hd,a1,a2,a3,if_true,Bool.false_eq_true,if_false,Option.some.injEq] at ht;subst ht;exact take4_digit B b r c _ rfl hc w h hs hBw hlen hbeh
  ·exfalso;obtain ⟨a0,a1,a2,a3⟩:=dg_low hc;unfold tk at ht;rw [hs] at ht;simp [a0,a1,a2,a3] at ht
  ·exfalso;obtain ⟨a0,a1,a2,a3⟩:=dg_high hc;unfold tk at ht;rw [hs] at ht;simp [a0,a1,a2,a3] at ht
 ·rcases cls c with rfl|rfl|rfl|rfl|rfl|hc|hc|hc
  ·exfalso;unfold tk at ht;rw [hs] at ht;simp [sg,eb,dg] at ht
  ·exfalso;unfold tk at ht;rw [hs] at ht;simp [sg,eb,dg] at ht
  ·exfalso;unfold tk at ht;rw [hs] at ht;simp [sg,eb,dg] at ht
  ·unfold tk at ht;rw [hs] at ht;simp [sg,eb,dg] at ht;subst ht;exact take5_69 B b r w h hs
  ·unfold tk at ht;rw [hs] at ht;simp [sg,eb,dg] at ht;subst ht;exact take5_101 B b r w h hs
  ·have hd:=dg_of hc;obtain ⟨a1,a2,a3⟩:=dg_not_sg hd;unfold tk at ht;rw [hs] at ht;simp only [hd,a1,a2,a3,if_true,Bool.false_eq_true,if_false,Option.some.injEq] at ht;subst ht;exact take5_digit B b r c _ rfl hc w h hs hBw hlen hbeh
  ·exfalso;obtain ⟨a0,a1,a2,a3⟩:=dg_low hc;unfold tk at ht;rw [hs] at ht;simp [a0,a1,a2,a3] at ht
  ·exfalso;obtain ⟨a0,a1,a2,a3⟩:=dg_high hc;unfold tk at ht;rw [hs] at ht;simp [a0,a1,a2,a3] at ht
 ·rcases cls c with rfl|rfl|rfl|rfl|rfl|hc|hc|hc
  ·unfold tk at ht;rw [hs] at ht;simp [sg,eb,dg] at ht;subst ht;exact take6_43 B b r w h hs
  ·unfold tk at ht;rw [hs] at ht;simp [sg,eb,dg] at ht;subst ht;exact take6_45 B b r w h hs
  ·exfalso;unfold tk at ht;rw [hs] at ht;simp [sg,eb,dg] at ht
  ·exfalso;unfold tk at ht;rw [hs] at ht;simp [sg,eb,dg] at ht
  ·exfalso;unfold tk at ht;rw [hs] at ht;simp [sg,eb,dg] at ht
  ·have hd:=dg_of hc;obtain ⟨a1,a2,a3⟩:=dg_not_sg hd;unfold tk at ht;rw [hs] at ht;simp only [hd,a1,a2,a3,if_true,Bool.false_eq_true,if_false,Option.some.injEq] at ht;subst ht;exact take6_digit B b r c _ rfl hc w h hs hi.exp
  ·exfalso;obtain ⟨a0,a1,a2,a3⟩:=dg_low hc;unfold tk at ht;rw [hs] at ht;simp [a0,a1,a2,a3] at ht
  ·exfalso;obtain ⟨a0,a1,a2,a3⟩:=dg_high hc;unfold tk at ht;rw [hs] at ht;simp [a0,a1,a2,a3] at ht
 ·rcases cls c with rfl|rfl|rfl|rfl|rfl|hc|hc|hc
  ·exfalso;unfold tk at ht;rw [hs] at ht;simp [sg,eb,dg] at ht
  ·exfalso;unfold tk at ht;rw [hs] at ht;simp [sg,eb,dg] at ht
  ·exfalso;unfold tk at ht;rw [hs] at ht;simp [sg,eb,dg] at ht
  ·exfalso;unfold tk at ht;rw [hs] at ht;simp [sg,eb,dg] at ht
  ·exfalso;unfold tk at ht;rw [hs] at ht;simp [sg,eb,dg] at ht
  ·have hd:=dg_of hc;obtain ⟨a1,a2,a3⟩:=dg_not_sg hd;unfold tk at ht;rw [hs] at ht;simp only [hd,a1,a2,a3,if_true,Bool.false_eq_true,if_false,Option.some.injEq] at ht;subst ht;exact take7_digit B b r c _ rfl hc w h hs hi.exp
  ·exfalso;obtain ⟨a0,a1,a2,a3⟩:=dg_low hc;unfold tk at ht;rw [hs] at ht;simp [a0,a1,a2,a3] at ht
  ·exfalso;obtain ⟨a0,a1,a2,a3⟩:=dg_high hc;unfold tk at ht;rw [hs] at ht;simp [a0,a1,a2,a3] at ht
 ·rcases cls c with rfl|rfl|rfl|rfl|rfl|hc|hc|hc
  ·exfalso;unfold tk at ht;rw [hs] at ht;simp [sg,eb,dg] at ht
  ·exfalso;unfold tk at ht;rw [hs] at ht;simp [sg,eb,dg] at ht
  ·exfalso;unfold tk at ht;rw [hs] at ht;simp [sg,eb,dg] at ht
  ·exfalso;unfold tk at ht;rw [hs] at ht;simp [sg,eb,dg] at ht
  ·exfalso;unfold tk at ht;rw [hs] at ht;simp [sg,eb,dg] at ht
  ·have hd:=dg_of hc;obtain ⟨a1,a2,a3⟩:=dg_not_sg hd;unfold tk at ht;rw [hs] at ht;simp only [hd,a1,a2,a3,if_true,Bool.false_eq_true,if_false,Option.some.injEq] at ht;subst ht;exact take8_digit B b r c _ rfl hc w h hs hi.exp
  ·exfalso;obtain ⟨a0,a1,a2,a3⟩:=dg_low hc;unfold tk at ht;rw [hs] at ht;simp [a0,a1,a2,a3] at ht
  ·exfalso;obtain ⟨a0,a1,a2,a3⟩:=dg_high hc;unfold tk at ht;rw [hs] at ht;simp [a0,a1,a2,a3] at ht
end Go.Proofs.Yy.SR
end
section
namespace Go.Proofs.Yw.PrintLast
open Go.Proofs.Yw.PrintWords (Aside0)
def needsOf (md:Region.Mode) (o:Oper):List Nat:=(o.after.toList.filter (fun e=>Region.binds md e)).map (fun e=>e.on)
def clashOf (md:Region.Mode) (ops:Array Oper) (i:Nat) (oi:Oper):List Nat:=(List.range ops.size).filter fun j => !(j == i) && match ops[j]? with
 | some oj => !(oj.after.any (fun e=>Region.binds md e && e.on == i) || oi.apart ops oj)
 | none=>false
def rtab (md:Region.Mode) (ops:Array Oper):Bool × List (List Nat × List Nat):=(Region.noSelect ops,(List.range ops.size).map fun i=>match ops[i]? with
 | some o=>(needsOf md o,clashOf md ops i o)
 | none=>([], []))
def readyAt (T:List (List Nat × List Nat)) (l:List Bool) (i:Nat):Bool := !l.getD i true && match T[i]? with
 | some r=>r.1.all (fun j=>l.getD j false)
 | none=>false
def readyT (T:List (List Nat × List Nat)) (l:List Bool):List Nat:=(List.range T.length).filter (readyAt T l)
def freeT (T:List (List Nat × List Nat)) (l:List Bool) (i:Nat):Bool:=match T[i]? with
 | some r=>r.2.all (fun j=>l.getD j true)
 | none=>false
def closedT (T:List (List Nat × List Nat)) (l:List Bool):Bool:=(List.range T.length).all fun j => !l.getD j false || match T[j]? with
 | some r=>r.1.all (fun k=>l.getD k false)
 | none=>true
def reachT (T:List (List Nat × List Nat)) (i:Nat):Nat→Nat→Bool
 | 0,_=>false
 | fuel+1,d=>match T[d]? with
  | some r=>r.1.any fun j=>j == i || reachT T i fuel j
  | none=>false
def lastT (T:List (List Nat × List Nat)) (l:List Bool) (ds:List Nat) (i:Nat):Bool:=ds.all fun d=>l.getD d true || reachT T i T.length d
section
variable {md:Region.Mode} {ops:Array Oper} {T:Bool × List (List Nat × List Nat)} {l l' li lj lk:Array Bool} {ds:List Nat} {i j k:Nat}
theorem gd (l:Array Bool) (j:Nat) (b:Bool):l.getD j b=l.toList.getD j b:=by simp [Array.getD_eq_getD_getElem?, List.getD_eq_getElem?_getD]
theorem needs_all (o:Oper) (p:Nat→Bool):o.after.all (fun e => !Region.binds md e || p e.on)=(needsOf md o).all p:=by
 unfold needsOf
 rw [← Array.all_toList]
 induction o.after.toList with
 | nil=>rfl
 | cons e r ih =>
  rw [List.all_cons,ih,List.filter_cons]
  cases h:Region.binds md e <;> simp
theorem needs_any (o:Oper) (p:Nat→Bool):o.after.any (fun e=>Region.binds md e && p e.on)=(needsOf md o).any p:=by
 unfold needsOf
 rw [← Array.any_toList]
 induction o.after.toList with
 | nil=>rfl
 | cons e r ih =>
  rw [List.any_cons,ih,List.filter_cons]
  cases h:Region.binds md e <;> simp
theorem rtab_length:(rtab md ops).2.length=ops.size:=by simp [rtab]
theorem rtab_some {o:Oper} (h:ops[i]? = some o):(rtab md ops).2[i]? = some (needsOf md o,clashOf md ops i o):=by
 have hi:=(Array.getElem?_eq_some_iff.1 h).1
 unfold rtab
 rw [List.getElem?_map,List.getElem?_range hi,Option.map_some,h]
theorem rtab_none (h:ops[i]? = none):(rtab md ops).2[i]? = none:=by
 have hi:ops.size≤i:=Array.getElem?_eq_none_iff.1 h
 exact List.getElem?_eq_none (by rw [rtab_length];exact hi)
theorem readyAt_eq:readyAt (rtab md ops).2 l.toList i=(!l.getD i true && ((ops[i]?).map (·.after.all fun e => !Region.binds md e || l.getD e.on false)).getD false):=by
 unfold readyAt
 rw [gd]
 cases h:ops[i]? with
 | none=>rw [rtab_none h];rfl
 | some o =>
  rw [rtab_some h]
  simp only [Option.map_some,Option.getD_some]
  rw [← needs_all]
  simp only [gd]
theorem ready_eq:Region.ready md ops l=readyT (rtab md ops).2 l.toList:=by
 unfold Region.ready readyT
 rw [rtab_length]
 refine List.filter_congr (fun i _=>?_)
 rw [readyAt_eq]
theorem free_eq:Region.free md ops l i=freeT (rtab md ops).2 l.toList i:=by
 unfold Region.free freeT
 cases h:ops[i]? with
 | none=>rw [rtab_none h]
 | some oi =>
  rw [rtab_some h]
  simp only [clashOf]
  rw [List.all_filter]
  congr 1
  funext j
  rw [gd]
  cases hj:ops[j]? with
  | none=>cases (j == i) <;> cases (l.toList.getD j true) <;> simp
  | some oj =>
   cases (j == i) <;> cases (l.toList.getD j true) <;> cases (oj.after.any (fun e=>Region.binds md e && e.on == i) || oi.apart ops oj) <;> simp_all
theorem closed_eq:Region.closedB md ops l=closedT (rtab md ops).2 l.toList:=by
 unfold Region.closedB closedT
 rw [rtab_length]
 congr 1
 funext j
 rw [gd]
 cases h:ops[j]? with
 | none=>rw [rtab_none h]
 | some o =>
  rw [rtab_some h]
  simp only
  rw [← needs_all]
  simp only [gd]
theorem reach_eq:∀ (fuel d:Nat),Region.reachB md ops i fuel d=reachT (rtab md ops).2 i fuel d
 | 0,_=>rfl
 | fuel+1,d=>by
  unfold Region.reachB reachT
  cases h:ops[d]? with
  | none=>rw [rtab_none h]
  | some o =>
   rw [rtab_some h]
   simp only
   rw [← needs_any]
   congr 1
   funext e
   rw [reach_eq fuel]
theorem last_eq:Region.lastB md ops l ds i=lastT (rtab md ops).2 l.toList ds i:=by
 unfold Region.lastB lastT
 rw [rtab_length]
 congr 1
 funext d
 rw [gd,reach_eq]
theorem readyAt_mem (h:readyAt T.2 l.toList i=true) (hT:rtab md ops=T):(Region.ready md ops l).contains i=true:=by
 subst hT
 rw [ready_eq]
 unfold readyT
 rw [List.contains_iff_mem,List.mem_filter,List.mem_range]
 refine ⟨?_,h⟩
 unfold readyAt at h
 rw [Bool.and_eq_true] at h
 cases hq:(rtab md ops).2[i]? with
 | none=>rw [hq] at h;simp at h
 | some r=>exact (List.getElem?_eq_some_iff.1 hq).1
theorem set_of (h:(l.toList.set i true == l'.toList)=true):(l.setIfInBounds i true == l')=true:=by
 rw [beq_iff_eq] at h ⊢
 apply Array.ext'
 rw [Array.toList_setIfInBounds]
 exact h
def anyT (T:Bool × List (List Nat × List Nat)) (l l':List Bool) (i:Nat):Bool:=T.1 && freeT T.2 l i && readyAt T.2 l i && (l.set i true == l')
theorem any_of (hT:rtab md ops=T) (h:anyT T l.toList l'.toList i=true):anyB md ops l l' i=true:=by
 simp only [anyT,Bool.and_eq_true] at h
 obtain ⟨⟨⟨h1,h2⟩,h3⟩,h4⟩:=h
 have h5:=readyAt_mem h3 hT
 have h6:=set_of h4
 subst hT
 simp only [anyB,Bool.and_eq_true]
 exact ⟨⟨⟨h1,by rw [free_eq];exact h2⟩,h5⟩,h6⟩
def takeT (T:Bool × List (List Nat × List Nat)) (ds:List Nat) (l l':List Bool) (i:Nat):Bool:=T.1 && freeT T.2 l i && readyAt T.2 l i && closedT T.2 l && lastT T.2 l ds i && (l.set i true == l')
theorem take_of (hT:rtab md ops=T) (h:takeT T ds l.toList l'.toList i=true):takeB md ops ds l l' i=true:=by
 simp only [takeT,Bool.and_eq_true] at h
 obtain ⟨⟨⟨⟨⟨h1,h2⟩,h3⟩,h4⟩,h5⟩,h6⟩:=h
 have h7:=readyAt_mem h3 hT
 have h8:=set_of h6
 subst hT
 simp only [takeB,Bool.and_eq_true]
 exact ⟨⟨⟨⟨⟨h1,by rw [free_eq];exact h2⟩,h7⟩,by rw [closed_eq];exact h4⟩,by rw [last_eq];exact h5⟩,h8⟩
theorem one_of (hT:rtab md ops=T) (h:(readyT T.2 l.toList == [i] && l.toList.set i true == l'.toList)=true):readyB md ops l l' i=true:=by
 simp only [Bool.and_eq_true] at h
 obtain ⟨h1,h2⟩:=h
 subst hT
 simp only [readyB,Bool.and_eq_true]
 exact ⟨by rw [ready_eq];exact h1,set_of h2⟩
theorem two_of (hT:rtab md ops=T) (h:(readyT T.2 l.toList == [i,j] && l.toList.set i true == li.toList && l.toList.set j true == lj.toList)=true):(Region.ready md ops l == [i,j] && l.setIfInBounds i true == li && l.setIfInBounds j true == lj)=true:=by
 simp only [Bool.and_eq_true] at h ⊢
 obtain ⟨⟨h1,h2⟩,h3⟩:=h
 subst hT
 exact ⟨⟨by rw [ready_eq];exact h1,set_of h2⟩,set_of h3⟩
theorem done_of (hT:rtab md ops=T) (h:(readyT T.2 l.toList == [])=true):(Region.ready md ops l == [])=true:=by
 subst hT
 rw [ready_eq]
 exact h
def upM (B:List Nat) (d:Nat):List Nat→Nat
 | []=>0
 | n :: r=>(2 ^ n ||| (if n<d then B.getD n 0 else 0)) ||| upM B d r
def waitsOk (T:List (List Nat × List Nat)) (B:List Nat):Bool:=(List.range T.length).all fun d=>match T[d]? with
 | some r=>(B.getD d 0 ||| upM B d r.1) == upM B d r.1
 | none=>false
theorem upM_bit {B:List Nat} {d i:Nat}:∀ {ns:List Nat},(upM B d ns).testBit i=true → ∃ n ∈ ns,n=i∨(n<d∧(B.getD n 0).testBit i=true)
 | [],h=>by simp [upM] at h
 | n :: r,h=>by
  unfold upM at h
  rw [Nat.testBit_or,Nat.testBit_or,Bool.or_eq_true,Bool.or_eq_true] at h
  rcases h with (h|h)|h
  ·rw [Nat.testBit_two_pow] at h
   exact ⟨n,List.mem_cons_self, .inl (by simpa using h)⟩
  ·by_cases hn:n<d
   ·rw [if_pos hn] at h
    exact ⟨n,List.mem_cons_self, .inr ⟨hn,h⟩⟩
   ·rw [if_neg hn] at h
    simp at h
  ·obtain ⟨m,hm,h2⟩:=upM_bit h
   exact ⟨m,List.mem_cons_of_mem _ hm,h2⟩
theorem reach_bit {T:List (List Nat × List Nat)} {B:List Nat} (hB:waitsOk T B=true):∀ (fuel d:Nat),d<fuel→d<T.length→(B.getD d 0).testBit i=true→reachT T i fuel d=true
 | 0,d,h,_,_=>by omega
 | fuel+1,d,h,hd,hb=>by
  have h1:=List.all_eq_true.1 hB d (List.mem_range.2 hd)
  cases hr:T[d]? with
  | none=>rw [hr] at h1;simp at h1
  | some r =>
   rw [hr] at h1
   simp only [beq_iff_eq] at h1
   have h2:(upM B d r.1).testBit i=true:=by rw [← h1,Nat.testBit_or,hb,Bool.true_or]
   obtain ⟨n,hn,h3⟩:=upM_bit h2
   unfold reachT
   rw [hr]
   simp only
   rw [List.any_eq_true]
   refine ⟨n,hn,?_⟩
   rcases h3 with rfl|⟨h4,h5⟩
   ·simp
   ·rw [reach_bit hB fuel n (by omega) (by omega) h5,Bool.or_true]
def lastW (T:List (List Nat × List Nat)) (B:List Nat) (l:List Bool) (ds:List Nat) (i:Nat):Bool:=ds.all fun d=>l.getD d true || (decide (d<T.length) && (B.getD d 0).testBit i)
def takeW (T:Bool × List (List Nat × List Nat)) (B:List Nat) (ds:List Nat) (l l':List Bool) (i:Nat):Bool:=T.1 && freeT T.2 l i && readyAt T.2 l i && closedT T.2 l && lastW T.2 B l ds i && (l.set i true == l')
theorem take_ofW {B:List Nat} (hT:rtab md ops=T) (hB:waitsOk T.2 B=true) (h:takeW T B ds l.toList l'.toList i=true):takeB md ops ds l l' i=true:=by
 refine take_of hT ?_
 simp only [takeW,takeT,Bool.and_eq_true] at h ⊢
 obtain ⟨⟨⟨⟨⟨h1,h2⟩,h3⟩,h4⟩,h5⟩,h6⟩:=h
 refine ⟨⟨⟨⟨⟨h1,h2⟩,h3⟩,h4⟩,?_⟩,h6⟩
 unfold lastW at h5
 unfold lastT
 rw [List.all_eq_true] at h5 ⊢
 intro d hd
 have h7:=h5 d hd
 rw [Bool.or_eq_true,Bool.and_eq_true,decide_eq_true_eq] at h7
 rcases h7 with h7|⟨h8,h9⟩
 ·rw [h7,Bool.true_or]
 ·rw [reach_bit hB _ d h8 h8 h9,Bool.or_true]
theorem with_tabW {P:Program} {Q:Exit→Act→World→Prop} {S:World→Prop} {n:Nat} {a:Act} {w:World} {B:List Nat} (hT:rtab md ops=T) (hB:waitsOk T.2 B=true) (h:Aside0 (rtab md ops=T)→Aside0 (waitsOk T.2 B=true)→wpAnyLast P md ops Q S ds n l a w):wpAnyLast P md ops Q S ds n l a w:=h ⟨hT⟩ ⟨hB⟩
end
def opsIn:Code→Nat→Option (Array Oper)
 | .region id ops _,k=>if id == k then some ops else none
 | .seq a b,k=>match opsIn a k with
  | some o=>some o
  | none=>opsIn b k
 | .cond _ a b,k=>match opsIn a k with
  | some o=>some o
  | none=>opsIn b k
 | .block _ c,k=>opsIn c k
 | .loop c,k=>opsIn c k
 | .scope c,k=>opsIn c k
 | .rangeFunc _ _ a b,k=>match opsIn a k with
  | some o=>some o
  | none=>opsIn b k
 | _,_=>none
def opsOf (f:Func) (k:Nat):Array Oper:=((f.body.bind fun c=>opsIn c k)).getD #[]
end Go.Proofs.Yw.PrintLast
end
section
namespace Go.Proofs.Yy.TA
def bit1 (v:Nat):UInt8:=UInt8.ofNat (48+v % 2)
def bs:Nat→Nat→List UInt8
 | 0,_ => []
 | w+1,v=>bs w (v / 2) ++ [bit1 v]
theorem two_pos (k:Nat):0<2 ^ k:=Nat.two_pow_pos k
theorem bs_len (w:Nat):∀ v:Nat,(bs w v).length=w:=by
 induction w with
 | zero=>intro v;rfl
 | succ w ih=>intro v;rw [bs,List.length_append,ih];rfl
theorem bit_mod (v m:Nat) (h:0<m):bit1 (v % 2 ^ m)=bit1 v:=by
 obtain ⟨m,rfl⟩:∃ j,m=j+1:=⟨m - 1,by omega⟩
 unfold bit1
 rw [Nat.pow_succ,Nat.mul_comm,Nat.mod_mul_right_mod]
theorem half_mod (v m:Nat):v % 2 ^ (m+1) / 2=v / 2 % 2 ^ m:=by
 rw [Nat.pow_succ,Nat.mul_comm,Nat.mod_mul_right_div_self]
theorem bs_append (a x:Nat) (b:Nat):∀ y:Nat,bs a x ++ bs b y=bs (a+b) (x * 2 ^ b+y % 2 ^ b):=by
 induction b with
 | zero=>intro y;rw [Nat.pow_zero,Nat.mul_one,Nat.mod_one];simp [bs]
 | succ b ih =>
  intro y
  have h1:(x * 2 ^ (b+1)+y % 2 ^ (b+1)) / 2=x * 2 ^ b+y / 2 % 2 ^ b:=by
   rw [← half_mod,Nat.pow_succ, ← Nat.mul_assoc];omega
  have h2:bit1 (x * 2 ^ (b+1)+y % 2 ^ (b+1))=bit1 y:=by
   rw [← bit_mod y (b+1) (by omega)]
   unfold bit1
   rw [Nat.pow_succ, ← Nat.mul_assoc];congr 2;omega
  rw [bs, ← List.append_assoc,ih, ← Nat.add_assoc,bs,h1,h2]
def num (l:List UInt8):Nat:=l.foldl (fun x c=>2 * x+(c.toNat - 48)) 0
theorem bit_toNat (v:Nat):(bit1 v).toNat=48+v % 2:=by
 unfold bit1
 rw [UInt8.toNat_ofNat'];omega
theorem num_snoc (l:List UInt8) (c:UInt8):num (l ++ [c])=2 * num l+(c.toNat - 48):=by unfold num;rw [List.foldl_append];rfl
theorem num_bs (w:Nat):∀ v:Nat,num (bs w v)=v % 2 ^ w:=by
 induction w with
 | zero=>intro v;rw [Nat.pow_zero,Nat.mod_one];rfl
 | succ w ih =>
  intro v
  rw [bs,num_snoc,ih,bit_toNat, ← half_mod]
  have h1:v % 2 ^ (w+1) % 2=v % 2:=by rw [Nat.pow_succ,Nat.mul_comm,Nat.mod_mul_right_mod]
  omega
def regL (s:Int):Nat:=if 0≤s / 4 then (s / 4).toNat+2 else (-(s / 4)).toNat+1
def regV (s:Int):Nat:=if 0≤s / 4 then 2 ^ ((s / 4).toNat+2) - 2 else 1
def hL (s:Int):Nat:=regL s+2
def hV (s:Int):Nat:=regV s * 4+(s % 4).toNat
theorem hL_ge (s:Int):4≤hL s:=by unfold hL regL;split <;> omega
theorem regV_lt (s:Int):regV s<2 ^ regL s:=by
 unfold regV regL
 split
 ·have:=two_pos ((s / 4).toNat+2);omega
 ·rename_i h
  obtain ⟨m,hm⟩:∃ m,(-(s / 4)).toNat+1=m+1:=⟨_,rfl⟩
  rw [hm,Nat.pow_succ];have:=two_pos m;omega
theorem hV_lt (s:Int):hV s<2 ^ hL s:=by
 have h:=regV_lt s
 unfold hV hL
 rw [Nat.pow_add];omega
def cutX (s:Int) (F T:Nat):Nat:=hV s * 2 ^ F+(T - 2 ^ F)
def lft (r h:Nat) (c:Bool):Nat:=if h<r then 3 else if r=h then (if c=true then 3 else 2) else if 0<r∨c=true then 1 else 0
def cutL (n:Nat) (s:Int) (F:Nat):Nat:=hL s+F - (n - 1)
def cutP (n:Nat) (s:Int) (F T:Nat):Nat:=cutX s F T / 2 ^ cutL n s F
def cutQ (n:Nat) (s:Int) (F T:Nat) (c:Bool):Nat:=lft (cutX s F T % 2 ^ cutL n s F) (2 ^ (cutL n s F - 1)) c
theorem cutX_short (s:Int) (F j T:Nat) (h:2 ^ (F+j)≤T):cutX s (F+j) T=cutX s F (T / 2 ^ j) * 2 ^ j+T % 2 ^ j:=by
 have hp:=two_pos j
 have h1:2 ^ F≤T / 2 ^ j:=by rw [Nat.le_div_iff_mul_le hp, ← Nat.pow_add];exact h
 have h2:=Nat.div_add_mod T (2 ^ j)
 have h3:(T / 2 ^ j - 2 ^ F) * 2 ^ j=T / 2 ^ j * 2 ^ j - 2 ^ (F+j):=by rw [Nat.sub_mul,Nat.pow_add]
 have h4:2 ^ (F+j)≤T / 2 ^ j * 2 ^ j:=by rw [Nat.pow_add];exact Nat.mul_le_mul_right _ h1
 unfold cutX
 rw [Nat.add_mul,Nat.mul_assoc, ← Nat.pow_add,h3,Nat.mul_comm (2 ^ j)] at *
 omega
theorem lft_short (r g h j:Nat) (c:Bool) (hh:0<h) (hg:g<2 ^ j):lft (r * 2 ^ j+g) (h * 2 ^ j) c=lft r h (c || decide (g≠0)):=by
 have hp:=two_pos j
 unfold lft
 by_cases h1:h<r
 ·rw [if_pos h1,if_pos]
  have:(h+1) * 2 ^ j≤r * 2 ^ j:=Nat.mul_le_mul_right _ h1
  rw [Nat.add_mul] at this;omega
 ·by_cases h2:r=h
  ·subst h2
   by_cases h3:g=0
   ·subst h3;simp
   ·rw [if_pos (by omega),if_neg h1,if_pos rfl,if_pos (by simp [h3])]
  ·have:(r+1) * 2 ^ j≤h * 2 ^ j:=Nat.mul_le_mul_right _ (by omega)
   rw [Nat.add_mul] at this
   rw [if_neg (by omega),if_neg (by omega),if_neg h1,if_neg h2]
   have h4:(0<r * 2 ^ j+g∨c=true) ↔ (0<r∨(c || decide (g≠0))=true):=by
    have h5:0<r * 2 ^ j ↔ 0<r:=Nat.mul_pos_iff_of_pos_right hp
    have h6:((c || decide (g≠0))=true) ↔ (c=true∨g≠0):=by simp
    rw [h6, ← h5]
    constructor
    ·rintro (h|h)
     ·by_cases h7:g=0
      ·exact .inl (by omega)
      ·exact .inr (.inr h7)
     ·exact .inr (.inl h)
    ·rintro (h|h|h)
     ·exact .inl (by omega)
     ·exact .inr h
     ·exact .inl (by omega)
   by_cases h5:0<r * 2 ^ j+g∨c=true
   ·rw [if_pos h5,if_pos (h4.1 h5)]
   ·rw [if_neg h5,if_neg (fun h=>h5 (h4.2 h))]
theorem cutL_short (n:Nat) (s:Int) (F j:Nat) (h:n - 1≤hL s+F):cutL n s (F+j)=cutL n s F+j:=by unfold cutL;omega
theorem cutP_short (n:Nat) (s:Int) (F j T:Nat) (h:2 ^ (F+j)≤T) (hn:n - 1≤hL s+F):cutP n s (F+j) T=cutP n s F (T / 2 ^ j):=by
 unfold cutP
 rw [cutL_short n s F j hn,cutX_short s F j T h,Nat.pow_add,Nat.mul_comm (2 ^ cutL n s F), ← Nat.div_div_eq_div_mul,Nat.mul_comm _ (2 ^ j),Nat.mul_add_div (two_pos j),Nat.div_eq_of_lt (Nat.mod_lt _ (two_pos j)),Nat.add_zero]
theorem cutQ_short (n:Nat) (s:Int) (F j T:Nat) (c:Bool) (h:2 ^ (F+j)≤T) (hn:n - 1<hL s+F):cutQ n s (F+j) T c=cutQ n s F (T / 2 ^ j) (c || decide (T % 2 ^ j≠0)):=by
 have hL1:1≤cutL n s F:=by unfold cutL;omega
 have hlt:=Nat.mod_lt T (two_pos j)
 unfold cutQ
 rw [cutL_short n s F j (by omega),cutX_short s F j T h, ← lft_short _ _ _ _ _ (two_pos _) hlt]
 congr 1
 ·rw [Nat.pow_add,Nat.mul_comm (2 ^ cutL n s F),Nat.mod_mul,Nat.mul_comm _ (2 ^ j),Nat.mul_add_mod,Nat.mod_mod,Nat.mul_add_div (two_pos j),Nat.div_eq_of_lt hlt,Nat.add_zero,Nat.mul_comm];omega
 ·rw [← Nat.pow_add];congr 1;omega
def Rel (W:Nat) (c:Bool) (X L:Nat) (c0:Bool):Prop := ∃ z,2 ^ 128 * X=W * 2 ^ L+z∧z<2 ^ L∧c=(c0 || decide (z≠0))
theorem Rel.start {f:Nat} (c:Bool):Rel (2 * f) c f 127 c:=⟨0,by omega,two_pos _,by simp⟩
theorem Rel.under {W X L:Nat} {c c0:Bool} (h:Rel W c X L c0) (b m:Nat) (hm:m≤128):Rel (W / 2 ^ m+b * 2 ^ (128 - m)) (c || decide (W % 2 ^ m≠0)) (b * 2 ^ L+X) (L+m) c0:=by
 obtain ⟨z,h1,h2,h3⟩:=h
 have e1:=Nat.div_add_mod W (2 ^ m)
 have e2:2 ^ (128 - m) * 2 ^ (L+m)=2 ^ 128 * 2 ^ L:=by rw [← Nat.pow_add, ← Nat.pow_add];congr 1;omega
 have e3:=Nat.mod_lt W (two_pos m)
 have e4:(W % 2 ^ m+1) * 2 ^ L≤2 ^ m * 2 ^ L:=Nat.mul_le_mul_right _ e3
 refine ⟨W % 2 ^ m * 2 ^ L+z,?_,?_,?_⟩
 ·rw [Nat.mul_add,h1,Nat.add_mul,Nat.mul_assoc b,e2]
  have:W / 2 ^ m * 2 ^ (L+m)+W % 2 ^ m * 2 ^ L=W * 2 ^ L:=by
   rw [Nat.pow_add,Nat.mul_comm (2 ^ L), ← Nat.mul_assoc, ← Nat.add_mul,Nat.mul_comm (W / 2 ^ m),e1]
  rw [Nat.mul_left_comm (2 ^ 128)];omega
 ·rw [Nat.pow_add,Nat.mul_comm (2 ^ L)];rw [Nat.add_mul] at e4;omega
 ·rw [h3,Bool.or_assoc, ← Bool.decide_or]
  congr 1
  refine decide_eq_decide.2 ?_
  have:W % 2 ^ m * 2 ^ L=0 ↔ W % 2 ^ m=0:=by
   rw [Nat.mul_eq_zero];have:=two_pos L;omega
  omega
theorem lft_scale (r h j:Nat) (c:Bool) (hh:0<h):lft (r * 2 ^ j) (h * 2 ^ j) c=lft r h c:=by
 have:=lft_short r 0 h j c hh (two_pos j)
 simpa using this
theorem Rel.cut {W X L n:Nat} {c c0:Bool} (h:Rel W c X L c0) (hn:1≤n) (hn2:n≤128) (hL:n≤L) :
  W / 2 ^ (129 - n)=X / 2 ^ (L - (n - 1))∧lft (W % 2 ^ (129 - n)) (2 ^ (128 - n)) c=lft (X % 2 ^ (L - (n - 1))) (2 ^ (L - (n - 1) - 1)) c0:=by
 obtain ⟨z,h1,h2,h3⟩:=h
 have e0:2 ^ 128 * 2 ^ (L - (n - 1))=2 ^ L * 2 ^ (129 - n):=by rw [← Nat.pow_add, ← Nat.pow_add];congr 1;omega
 have e1:X / 2 ^ (L - (n - 1))=(W * 2 ^ L+z) / (2 ^ L * 2 ^ (129 - n)):=by rw [← e0, ← h1,Nat.mul_div_mul_left _ _ (two_pos 128)]
 have e2:2 ^ 128 * (X % 2 ^ (L - (n - 1)))=(W * 2 ^ L+z) % (2 ^ L * 2 ^ (129 - n)):=by rw [← e0, ← h1,Nat.mul_mod_mul_left]
 rw [Nat.mul_comm W] at e1 e2
 rw [← Nat.div_div_eq_div_mul,Nat.mul_add_div (two_pos L),Nat.div_eq_of_lt h2,Nat.add_zero] at e1
 rw [Nat.mod_mul,Nat.mul_add_mod,Nat.mod_eq_of_lt h2,Nat.mul_add_div (two_pos L),Nat.div_eq_of_lt h2,Nat.add_zero] at e2
 refine ⟨e1.symm,?_⟩
 rw [h3, ← lft_scale (X % _) _ 128 c0 (two_pos _), ← lft_short _ z _ L _ (two_pos _) h2]
 congr 1
 ·rw [Nat.mul_comm (X % _),e2,Nat.mul_comm (2 ^ L)];omega
 ·rw [← Nat.pow_add, ← Nat.pow_add];congr 1;omega
theorem lft_hi {W n:Nat} {c:Bool} (hn:1≤n) (hn2:n≤64):lft (W % 2 ^ (129 - n) * 2 ^ (n - 1) / 2 ^ 64) (2 ^ 63) (c || decide (W % 2 ^ (129 - n) * 2 ^ (n - 1) % 2 ^ 64≠0))=lft (W % 2 ^ (129 - n)) (2 ^ (128 - n)) c:=by
 rw [← lft_short _ _ _ 64 c (two_pos _) (Nat.mod_lt _ (two_pos 64)), ← lft_scale (W % 2 ^ (129 - n)) _ (n - 1) c (two_pos _)]
 congr 1
 ·exact Nat.div_add_mod' _ _
 ·rw [← Nat.pow_add, ← Nat.pow_add];congr 1;omega
def rne (A C:Nat):Nat:=if C<2 * (A % C)∨(2 * (A % C)=C∧A / C % 2=1) then A / C+1 else A / C
theorem rne_scale (A C:Nat) {m:Nat} (hm:0<m):rne (A * m) (C * m)=rne A C:=by
 unfold rne
 rw [Nat.mul_mod_mul_right,Nat.mul_div_mul_right _ _ hm]
 have h1:C * m<2 * (A % C * m) ↔ C<2 * (A % C):=by rw [← Nat.mul_assoc];exact Nat.mul_lt_mul_right hm
 have h2:2 * (A % C * m)=C * m ↔ 2 * (A % C)=C:=by rw [← Nat.mul_assoc];exact Nat.mul_left_inj (by omega)
 by_cases h:C<2 * (A % C)∨(2 * (A % C)=C∧A / C % 2=1)
 ·rw [if_pos h,if_pos];rw [h1,h2];exact h
 ·rw [if_neg h,if_neg];rw [h1,h2];exact h
theorem rne_le (A C:Nat):A / C≤rne A C∧rne A C≤A / C+1:=by unfold rne;split <;> omega
theorem rne_same {A A' C:Nat} (hC:0<C) (h:A≤A'):rne A C≤rne A' C:=by
 have hq:A / C≤A' / C:=Nat.div_le_div_right h
 by_cases e:A / C=A' / C
 ·have d1:=Nat.div_add_mod A C
  have d2:=Nat.div_add_mod A' C
  rw [e] at d1
  unfold rne
  rw [e]
  by_cases h1:C<2 * (A % C)∨(2 * (A % C)=C∧A' / C % 2=1)
  ·rw [if_pos h1,if_pos (by omega)];exact Nat.le_refl _
  ·rw [if_neg h1];split <;> omega
 ·have:=rne_le A C
  have:=rne_le A' C
  omega
theorem rne_mono {A C A' C':Nat} (hC:0<C) (hC':0<C') (h:A * C'≤A' * C):rne A C≤rne A' C':=by
 rw [← rne_scale A C hC', ← rne_scale A' C' hC,Nat.mul_comm C' C]
 exact rne_same (Nat.mul_pos hC hC') h
theorem rne_exact (p:Nat) {C:Nat} (hC:0<C):rne (p * C) C=p:=by
 unfold rne
 rw [Nat.mul_mod_left,Nat.mul_div_cancel _ hC,if_neg (by omega)]
theorem rne_eq {A C p:Nat} (hC:0<C) (h:A=p * C):rne A C=p:=by rw [h,rne_exact p hC]
def rnd (p l:Nat):Nat:=if l=3∨(l=2∧p % 2=1) then p+1 else p
theorem rnd_rne {n F N C:Nat} (s:Int) (hC:0<C) (h1:C≤N) (hn:n - 1<hL s+F) :
  rnd (cutP n s F (N * 2 ^ F / C)) (cutQ n s F (N * 2 ^ F / C) (decide (N * 2 ^ F % C≠0)))=rne ((hV s * C+(N - C)) * 2 ^ (n - 1)) (C * 2 ^ hL s):=by
 obtain ⟨H,hH⟩:∃ H,2 ^ (cutL n s F - 1)=H:=⟨_,rfl⟩
 have hH0:0<H:=by rw [← hH];exact two_pos _
 have hK:2 ^ cutL n s F=2 * H:=by
  rw [← hH,Nat.mul_comm, ← Nat.pow_succ];congr 1;unfold cutL;omega
 have hpow:2 ^ hL s * 2 ^ F=2 ^ cutL n s F * 2 ^ (n - 1):=by rw [← Nat.pow_add, ← Nat.pow_add];congr 1;unfold cutL;omega
 obtain ⟨T,hT⟩:∃ T,N * 2 ^ F / C=T:=⟨_,rfl⟩
 obtain ⟨z,hz⟩:∃ z,N * 2 ^ F % C=z:=⟨_,rfl⟩
 have hzC:z<C:=by rw [← hz];exact Nat.mod_lt _ hC
 have hd:C * T+z=N * 2 ^ F:=by rw [← hT, ← hz];exact Nat.div_add_mod _ _
 have hT1:2 ^ F≤T:=by rw [← hT,Nat.le_div_iff_mul_le hC,Nat.mul_comm];exact Nat.mul_le_mul_right _ h1
 obtain ⟨X,hX⟩:∃ X,cutX s F T=X:=⟨_,rfl⟩
 have hXd:(hV s * C+(N - C)) * 2 ^ F=C * X+z:=by
  rw [← hX];unfold cutX
  rw [Nat.add_mul,Nat.sub_mul, ← hd,Nat.mul_add,Nat.mul_sub,Nat.mul_comm (hV s) C,Nat.mul_assoc]
  have:=Nat.mul_le_mul_left C hT1
  omega
 have e1:rne ((hV s * C+(N - C)) * 2 ^ (n - 1)) (C * 2 ^ hL s)=rne (C * X+z) (C * (2 * H)):=by
  rw [← rne_scale _ _ (two_pos F),Nat.mul_right_comm,hXd,Nat.mul_assoc C,hpow,hK, ← Nat.mul_assoc C,rne_scale _ _ (two_pos _)]
 have e2:(C * X+z) / (C * (2 * H))=X / (2 * H):=by rw [← Nat.div_div_eq_div_mul,Nat.mul_add_div hC,Nat.div_eq_of_lt hzC,Nat.add_zero]
 have e3:(C * X+z) % (C * (2 * H))=C * (X % (2 * H))+z:=by
  rw [Nat.mod_mul,Nat.mul_add_mod,Nat.mod_eq_of_lt hzC,Nat.mul_add_div hC,Nat.div_eq_of_lt hzC,Nat.add_zero,Nat.add_comm]
 rw [hT,hz,e1]
 unfold cutP cutQ rnd rne lft
 rw [hX,hH,hK,e2,e3]
 obtain ⟨r,hr⟩:∃ r,X % (2 * H)=r:=⟨_,rfl⟩
 rw [hr]
 have c1:C * (2 * H)<2 * (C * r+z) ↔ (H<r∨(r=H∧z≠0)):=by
  rw [show C * (2 * H)=2 * (C * H) by rw [Nat.mul_left_comm]]
  constructor
  ·intro h
   by_cases a:H<r
   ·exact .inl a
   ·by_cases b:r=H
    ·subst b;exact .inr ⟨rfl,by omega⟩
    ·exfalso
     have:C * (r+1)≤C * H:=Nat.mul_le_mul_left _ (by omega)
     rw [Nat.mul_add] at this;omega
  ·rintro (h|⟨h,hz⟩)
   ·have:C * (H+1)≤C * r:=Nat.mul_le_mul_left _ h
    rw [Nat.mul_add] at this;omega
   ·subst h;omega
 have c2:2 * (C * r+z)=C * (2 * H) ↔ (r=H∧z=0):=by
  rw [show C * (2 * H)=2 * (C * H) by rw [Nat.mul_left_comm]]
  constructor
  ·intro h
   by_cases a:H<r
   ·have:C * (H+1)≤C * r:=Nat.mul_le_mul_left _ a
    rw [Nat.mul_add] at this;omega
   ·by_cases b:r=H
    ·subst b;exact ⟨rfl,by omega⟩
    ·exfalso
     have:C * (r+1)≤C * H:=Nat.mul_le_mul_left _ (by omega)
     rw [Nat.mul_add] at this;omega
  ·rintro ⟨h,hz⟩;subst h;omega
 simp only [c1,c2]
 by_cases a:H<r
 ·simp [a]
 ·by_cases b:r=H
  ·subst b
   by_cases c:z=0
   ·simp [c]
   ·simp [c]
  ·simp only [a,b,if_false,false_and,or_self]
   split <;> simp
theorem regime_up (s:Int):(hV s+1) * 2 ^ hL (s+1)=hV (s+1) * 2 ^ hL s:=by
 by_cases h3:s % 4=3
 ·have hk:(s+1) / 4=s / 4+1:=by omega
  have he:(s+1) % 4=0:=by omega
  unfold hV hL regV regL
  rw [hk,he,h3]
  by_cases h0:0≤s / 4
  ·obtain ⟨m,hm⟩:∃ m:Nat,s / 4=m:=⟨(s / 4).toNat,by omega⟩
   rw [hm,if_pos (by omega),if_pos (by omega),if_pos (by omega),if_pos (by omega),show ((m:Int)+1).toNat=m+1 by omega,show (m:Int).toNat=m by omega]
   have:=two_pos m
   have e1:2 ^ (m+2)=4 * 2 ^ m:=by rw [Nat.pow_add];omega
   have e2:2 ^ (m+1+2)=8 * 2 ^ m:=by rw [Nat.pow_add,Nat.pow_add];omega
   have e3:2 ^ (m+1+2+2)=2 * 2 ^ (m+2+2):=by rw [show m+1+2+2=1+(m+2+2) by omega,Nat.pow_add 2 1 (m+2+2),Nat.pow_one]
   rw [e3, ← Nat.mul_assoc,e1,e2]
   congr 1
   have h3:((3:Int)).toNat=3:=rfl
   have h4:((0:Int)).toNat=0:=rfl
   rw [h3,h4];omega
  ·by_cases h1:s / 4 = -1
   ·rw [h1];decide
   ·obtain ⟨m,hm⟩:∃ m:Nat,s / 4 = -((m:Int)+2):=⟨(-(s / 4) - 2).toNat,by omega⟩
    rw [hm,if_neg (by omega),if_neg (by omega),if_neg (by omega),if_neg (by omega),show (-(-((m:Int)+2)+1)).toNat=m+1 by omega,show (-(-((m:Int)+2))).toNat=m+2 by omega]
    have h3:((3:Int)).toNat=3:=rfl
    have h4:((0:Int)).toNat=0:=rfl
    have e3:2 ^ (m+2+1+2)=2 * 2 ^ (m+1+1+2):=by rw [show m+2+1+2=1+(m+1+1+2) by omega,Nat.pow_add 2 1 (m+1+1+2),Nat.pow_one]
    rw [h3,h4,e3];omega
 ·have hk:(s+1) / 4=s / 4:=by omega
  have he:((s+1) % 4).toNat=(s % 4).toNat+1:=by omega
  unfold hV hL regV regL
  rw [hk,he,Nat.add_assoc]
theorem regime_mono (s:Int):∀ d:Nat,(hV s+1) * 2 ^ hL (s+1+d)≤hV (s+1+d) * 2 ^ hL s:=by
 intro d
 induction d with
 | zero=>rw [show s+1+((0:Nat):Int)=s+1 by omega];exact Nat.le_of_eq (regime_up s)
 | succ d ih =>
  have h:=regime_up (s+1+d)
  have e:s+1+((d+1:Nat):Int)=s+1+d+1:=by omega
  rw [e]
  have hp:=two_pos (hL (s+1+d))
  have h2:(hV s+1) * 2 ^ hL (s+1+d) * 2 ^ hL (s+1+d+1)≤hV (s+1+d) * 2 ^ hL s * 2 ^ hL (s+1+d+1):=Nat.mul_le_mul_right _ ih
  have h3:hV (s+1+d) * 2 ^ hL (s+1+d+1)≤hV (s+1+d+1) * 2 ^ hL (s+1+d):=by rw [← h];exact Nat.mul_le_mul_right _ (by omega)
  have h4:(hV s+1) * 2 ^ hL (s+1+d+1) * 2 ^ hL (s+1+d)≤hV (s+1+d+1) * 2 ^ hL s * 2 ^ hL (s+1+d):=by
   rw [Nat.mul_right_comm]
   refine Nat.le_trans h2 ?_
   rw [Nat.mul_right_comm,Nat.mul_right_comm (hV (s+1+d+1))]
   exact Nat.mul_le_mul_right _ h3
  exact Nat.le_of_mul_le_mul_right h4 hp
theorem regime_lt {s t:Int} (h:s<t):(hV s+1) * 2 ^ hL t≤hV t * 2 ^ hL s:=by
 obtain ⟨d,hd⟩:∃ d:Nat,t=s+1+d:=⟨(t - s - 1).toNat,by omega⟩
 rw [hd];exact regime_mono s d
def up (s:Int) (N:Nat):Nat:=N * 2 ^ (-s).toNat
def dn (s:Int) (C:Nat):Nat:=C * 2 ^ s.toNat
def Sc (N C:Nat) (s:Int):Prop:=dn s C≤up s N∧up s N<2 * dn s C
def top (n:Nat):Int:=4 * (n:Int) - 8
def sig (n:Nat) (s:Int) (N C:Nat):Nat:=rne ((hV s * dn s C+(up s N - dn s C)) * 2 ^ (n - 1)) (dn s C * 2 ^ hL s)
def pos (n:Nat) (s:Int) (N C:Nat):Nat:=if top n≤s then 2 ^ (n - 1) - 1 else if s < -top n then 1 else sig n s N C
theorem dn_pos {s:Int} {C:Nat} (h:0<C):0<dn s C:=Nat.mul_pos h (two_pos _)
theorem Sc_iff {N C:Nat} {s:Int} (K:Nat) (h : -s≤K):Sc N C s ↔ C * 2 ^ (s+K).toNat≤N * 2 ^ K∧N * 2 ^ K<2 * (C * 2 ^ (s+K).toNat):=by
 unfold Sc up dn
 by_cases h0:0≤s
 ·have e1:(-s).toNat=0:=by omega
  have e2:(s+K).toNat=s.toNat+K:=by omega
  have hp:=two_pos K
  rw [e1,e2,Nat.pow_zero,Nat.mul_one,Nat.pow_add, ← Nat.mul_assoc C, ← Nat.mul_assoc 2 (C * 2 ^ s.toNat)]
  rw [Nat.mul_le_mul_right_iff hp,Nat.mul_lt_mul_right hp]
 ·have e1:s.toNat=0:=by omega
  have e2:K=(-s).toNat+(s+K).toNat:=by omega
  have hp:=two_pos (s+K).toNat
  rw [e1,Nat.pow_zero,Nat.mul_one]
  conv=>rhs;rw [show N * 2 ^ K=N * 2 ^ (-s).toNat * 2 ^ (s+K).toNat by rw [Nat.mul_assoc, ← Nat.pow_add, ← e2]]
  rw [← Nat.mul_assoc 2,Nat.mul_le_mul_right_iff hp,Nat.mul_lt_mul_right hp]
theorem Sc_pos {N C:Nat} {s:Int} (h:Sc N C s):0<C∧0<N:=by
 obtain ⟨h1,h2⟩:=h
 have a:0<dn s C:=by omega
 have b:0<up s N:=by omega
 exact ⟨Nat.pos_of_mul_pos_right a,Nat.pos_of_mul_pos_right b⟩
theorem Sc_le {N C s N' C' s'} (h:Sc N C s) (h':Sc N' C' s') (hle:N * C'≤N' * C):s≤s':=by
 obtain ⟨hC,hN⟩:=Sc_pos h
 obtain ⟨hC',hN'⟩:=Sc_pos h'
 apply Int.not_lt.1
 intro hlt
 obtain ⟨K,hK⟩:∃ K:Nat, -s'≤K:=⟨(-s').toNat,by omega⟩
 obtain ⟨a1,a2⟩:=(Sc_iff K (by omega)).1 h
 obtain ⟨b1,b2⟩:=(Sc_iff K hK).1 h'
 obtain ⟨d,hd⟩:∃ d:Nat,(s+K).toNat=(s'+K).toNat+1+d:=⟨(s - s' - 1).toNat,by omega⟩
 obtain ⟨P,hP⟩:∃ P,2 ^ (s'+K).toNat=P:=⟨_,rfl⟩
 rw [hP] at b1 b2
 rw [hd,Nat.pow_add,Nat.pow_succ,hP] at a1
 have c1:C * (P * 2)≤N * 2 ^ K:=Nat.le_trans (by rw [← Nat.mul_assoc C (P * 2)];exact Nat.le_mul_of_pos_right _ (two_pos d)) a1
 have c2:C * (P * 2) * C'≤N * 2 ^ K * C':=Nat.mul_le_mul_right _ c1
 have c3:N' * 2 ^ K * C<2 * (C' * P) * C:=Nat.mul_lt_mul_of_pos_right b2 hC
 have c4:N * C' * 2 ^ K≤N' * C * 2 ^ K:=Nat.mul_le_mul_right _ hle
 have e1:C * (P * 2) * C'=2 * (C' * P) * C:=by ac_rfl
 have e2:N * 2 ^ K * C'=N * C' * 2 ^ K:=Nat.mul_right_comm _ _ _
 have e3:N' * 2 ^ K * C=N' * C * 2 ^ K:=Nat.mul_right_comm _ _ _
 omega
theorem Sc_same {N C s s'} (h:Sc N C s) (h':Sc N C s'):s=s':=by
 have:=Sc_le h h' (Nat.le_refl _)
 have:=Sc_le h' h (Nat.le_refl _)
 omega
theorem sig_le_of {n:Nat} {s:Int} {N C:Nat} (h:Sc N C s) (q:Nat) (hq:(hV s+1) * 2 ^ (n - 1)≤q * 2 ^ hL s):sig n s N C≤q:=by
 have hd:=dn_pos (s:=s) (Sc_pos h).1
 unfold sig
 refine Nat.le_trans (rne_mono (A':=q) (C':=1) (Nat.mul_pos hd (two_pos _)) (by omega) ?_) (Nat.le_of_eq (by simpa using rne_exact q (C:=1) (by omega)))
 have h1:hV s * dn s C+(up s N - dn s C)≤(hV s+1) * dn s C:=by rw [Nat.add_mul];have:=h.2;have:=h.1;omega
 have h2:=Nat.mul_le_mul_right (2 ^ (n - 1)) h1
 have h3:=Nat.mul_le_mul_left (dn s C) hq
 have e1:(hV s+1) * dn s C * 2 ^ (n - 1)=dn s C * ((hV s+1) * 2 ^ (n - 1)):=by ac_rfl
 have e2:dn s C * (q * 2 ^ hL s)=q * (dn s C * 2 ^ hL s):=Nat.mul_left_comm _ _ _
 omega
theorem le_sig_of {n:Nat} {s:Int} {N C:Nat} (h:Sc N C s) (q:Nat) (hq:q * 2 ^ hL s≤hV s * 2 ^ (n - 1)):q≤sig n s N C:=by
 have hd:=dn_pos (s:=s) (Sc_pos h).1
 unfold sig
 refine Nat.le_trans (Nat.le_of_eq (by simpa using (rne_exact q (C:=1) (by omega)).symm)) (rne_mono (A:=q) (C:=1) (by omega) (Nat.mul_pos hd (two_pos _)) ?_)
 have h1:hV s * dn s C≤hV s * dn s C+(up s N - dn s C):=Nat.le_add_right _ _
 have h2:=Nat.mul_le_mul_right (2 ^ (n - 1)) h1
 have h3:=Nat.mul_le_mul_left (dn s C) hq
 have e1:hV s * dn s C * 2 ^ (n - 1)=dn s C * (hV s * 2 ^ (n - 1)):=by ac_rfl
 have e2:dn s C * (q * 2 ^ hL s)=q * (dn s C * 2 ^ hL s):=Nat.mul_left_comm _ _ _
 omega
theorem top_hV {n:Nat} (h:2≤n):hV (top n) * 2 ^ (n - 1)=(2 ^ (n - 1) - 1) * 2 ^ hL (top n):=by
 obtain ⟨m,rfl⟩:∃ m,n=m+2:=⟨n - 2,by omega⟩
 have h1:top (m+2) / 4=m:=by unfold top;omega
 have h2:top (m+2) % 4=0:=by unfold top;omega
 unfold hV hL regV regL
 rw [h1,h2,if_pos (by omega),if_pos (by omega),show m+2 - 1=m+1 by omega,show (m:Int).toNat=m by omega]
 have:=two_pos m
 have e1:2 ^ (m+2)=4 * 2 ^ m:=by rw [Nat.pow_add];omega
 have e2:2 ^ (m+1)=2 * 2 ^ m:=by rw [Nat.pow_add];omega
 have e3:2 ^ (m+2+2)=8 * (2 * 2 ^ m):=by rw [Nat.pow_add,Nat.pow_add];omega
 rw [e1,e2,e3, ← Nat.mul_assoc (2 * 2 ^ m - 1) 8]
 congr 1
 have h4:((0:Int)).toNat=0:=rfl
 rw [h4];omega
theorem low_hV {n:Nat} (h:3≤n):hV (-top n) * 2 ^ (n - 1)=2 ^ hL (-top n):=by
 obtain ⟨m,rfl⟩:∃ m,n=m+3:=⟨n - 3,by omega⟩
 have h1 : -top (m+3) / 4 = -((m:Int)+1):=by unfold top;omega
 have h2 : -top (m+3) % 4=0:=by unfold top;omega
 unfold hV hL regV regL
 rw [h1,h2,if_neg (by omega),if_neg (by omega),show m+3 - 1=m+2 by omega,show (-(-((m:Int)+1))).toNat=m+1 by omega]
 have h4:((0:Int)).toNat=0:=rfl
 rw [h4,show m+1+1+2=2+(m+2) by omega,Nat.pow_add 2 2 (m+2)]
theorem hV_mono {s t:Int} (h:s≤t):hV s * 2 ^ hL t≤hV t * 2 ^ hL s:=by
 by_cases e:s=t
 ·subst e;exact Nat.le_refl _
 ·have:=regime_lt (s:=s) (t:=t) (by omega)
  rw [Nat.add_mul] at this;omega
theorem sig_bounds {n:Nat} {s:Int} {N C:Nat} (hn:3≤n) (h:Sc N C s) (h1 : -top n≤s) (h2:s<top n):1≤sig n s N C∧sig n s N C≤2 ^ (n - 1) - 1:=by
 constructor
 ·refine le_sig_of h 1 ?_
  have a:=hV_mono h1
  have b:=low_hV hn
  rw [Nat.one_mul]
  have c:hV (-top n) * 2 ^ hL s * 2 ^ (n - 1)≤hV s * 2 ^ hL (-top n) * 2 ^ (n - 1):=Nat.mul_le_mul_right _ a
  rw [Nat.mul_right_comm,b,Nat.mul_right_comm (hV s),Nat.mul_comm] at c
  exact Nat.le_of_mul_le_mul_right c (two_pos _)
 ·refine sig_le_of h _ ?_
  have a:=regime_lt h2
  have b:=top_hV (n:=n) (by omega)
  have c:=Nat.mul_le_mul_right (2 ^ (n - 1)) a
  rw [Nat.mul_right_comm (hV (top n)),b,Nat.mul_right_comm,Nat.mul_right_comm (2 ^ (n - 1) - 1)] at c
  exact Nat.le_of_mul_le_mul_right c (two_pos _)
theorem up_dn_le {N C N' C':Nat} (s:Int) (h:N * C'≤N' * C):up s N * dn s C'≤up s N' * dn s C:=by
 unfold up dn
 have e:∀ a b x y:Nat,a * x * (b * y)=a * b * (x * y):=by intro a b x y;ac_rfl
 rw [e N C',e N' C]
 exact Nat.mul_le_mul_right _ h
theorem sig_mono {n:Nat} {s:Int} {N C N' C':Nat} (h:Sc N C s) (h':Sc N' C' s) (hle:N * C'≤N' * C):sig n s N C≤sig n s N' C':=by
 have hd:=dn_pos (s:=s) (Sc_pos h).1
 have hd':=dn_pos (s:=s) (Sc_pos h').1
 have hu:=up_dn_le s hle
 have b1:=h.1
 have b2:=h'.1
 unfold sig
 generalize dn s C=c at *
 generalize dn s C'=c' at *
 generalize up s N=u at *
 generalize up s N'=u' at *
 refine rne_mono (Nat.mul_pos hd (two_pos _)) (Nat.mul_pos hd' (two_pos _)) ?_
 have e:∀ a b x y:Nat,a * x * (b * y)=a * b * (x * y):=by intro a b x y;ac_rfl
 rw [e _ c',e _ c]
 refine Nat.mul_le_mul_right _ ?_
 rw [Nat.add_mul,Nat.add_mul,Nat.sub_mul,Nat.sub_mul,Nat.mul_right_comm,Nat.mul_comm c' c]
 have:=Nat.mul_le_mul_right c' b1
 have:=Nat.mul_le_mul_right c b2
 rw [Nat.mul_comm c' c] at this
 omega
theorem pos_mono {n:Nat} {s s':Int} {N C N' C':Nat} (hn:3≤n) (h:Sc N C s) (h':Sc N' C' s') (hle:N * C'≤N' * C):pos n s N C≤pos n s' N' C':=by
 have hs:=Sc_le h h' hle
 have hp:=two_pos (n - 1)
 have ht:0<2 ^ (n - 1) - 1:=by
  have:2 ^ 1≤2 ^ (n - 1):=Nat.pow_le_pow_right (by omega) (by omega)
  omega
 unfold pos
 by_cases a:top n≤s
 ·rw [if_pos a,if_pos (by omega)];exact Nat.le_refl _
 ·rw [if_neg a]
  by_cases b:s < -top n
  ·rw [if_pos b]
   split
   ·omega
   ·split
    ·exact Nat.le_refl _
    ·exact (sig_bounds hn h' (by omega) (by omega)).1
  ·rw [if_neg b]
   by_cases c:top n≤s'
   ·rw [if_pos c];exact (sig_bounds hn h (by omega) (by omega)).2
   ·rw [if_neg c,if_neg (by omega)]
    by_cases e:s=s'
    ·subst e;exact sig_mono h h' hle
    ·have hl:=regime_lt (s:=s) (t:=s') (by omega)
     have hd:=dn_pos (s:=s) (Sc_pos h).1
     have hd':=dn_pos (s:=s') (Sc_pos h').1
     unfold sig
     refine rne_mono (Nat.mul_pos hd (two_pos _)) (Nat.mul_pos hd' (two_pos _)) ?_
     have h1:hV s * dn s C+(up s N - dn s C)≤(hV s+1) * dn s C:=by rw [Nat.add_mul];have:=h.2;have:=h.1;omega
     have h2:hV s' * dn s' C'≤hV s' * dn s' C'+(up s' N' - dn s' C'):=Nat.le_add_right _ _
     have k1:=Nat.mul_le_mul_right (2 ^ (n - 1) * (dn s' C' * 2 ^ hL s')) h1
     have k2:=Nat.mul_le_mul_right (2 ^ (n - 1) * (dn s C * 2 ^ hL s)) h2
     have k3:=Nat.mul_le_mul_right (2 ^ (n - 1) * dn s C * dn s' C') hl
     rw [Nat.mul_assoc,Nat.mul_assoc _ (2 ^ (n - 1))]
     have e1:(hV s+1) * dn s C * (2 ^ (n - 1) * (dn s' C' * 2 ^ hL s'))=(hV s+1) * 2 ^ hL s' * (2 ^ (n - 1) * dn s C * dn s' C'):=by ac_rfl
     have e2:hV s' * dn s' C' * (2 ^ (n - 1) * (dn s C * 2 ^ hL s))=hV s' * 2 ^ hL s * (2 ^ (n - 1) * dn s C * dn s' C'):=by ac_rfl
     omega
theorem pos_bounds {n:Nat} {s:Int} {N C:Nat} (hn:3≤n) (h:Sc N C s):1≤pos n s N C∧pos n s N C≤2 ^ (n - 1) - 1:=by
 have:2 ^ 1≤2 ^ (n - 1):=Nat.pow_le_pow_right (by omega) (by omega)
 unfold pos
 split
 ·omega
 ·split
  ·omega
  ·exact sig_bounds hn h (by omega) (by omega)
structure Rep (N C:Nat) (s:Int) (hi:Nat) (st:Bool):Prop where
 sc:Sc N C s
 eq:hi=up s N * 2 ^ 63 / dn s C
 st:st=decide (up s N * 2 ^ 63 % dn s C≠0)
theorem Rep.sig {N C s hi st} (h:Rep N C s hi st) {n:Nat} (hn:n≤64):rnd (cutP n s 63 hi) (cutQ n s 63 hi st)=sig n s N C:=by
 have hL4:=hL_ge s
 rw [h.eq,h.st]
 exact rnd_rne s (dn_pos (Sc_pos h.sc).1) h.sc.1 (by omega)
structure Means (n p:Nat) (s:Int) (M:Nat):Prop where
 lo:2 ^ 63≤M
 hi:M<2 ^ 64
 low : -top n≤s
 high:s≤top n
 eq:(hV s * 2 ^ 63+(M - 2 ^ 63)) * 2 ^ (n - 1)=p * 2 ^ 63 * 2 ^ hL s
theorem Means.pos {n p s M N C} (hn:3≤n) (hp1:p≤2 ^ (n - 1) - 1) (h:Means n p s M) (hC:0<C) (he:up s N * 2 ^ 63=M * dn s C):Sc N C s∧pos n s N C=p:=by
 have hd:=dn_pos (s:=s) hC
 have hlo:=h.lo
 have hsc:Sc N C s:=by
  constructor
  ·refine Nat.le_of_mul_le_mul_right (c:=2 ^ 63) ?_ (two_pos _)
   rw [he,Nat.mul_comm];exact Nat.mul_le_mul_right _ hlo
  ·refine Nat.lt_of_mul_lt_mul_right (a:=2 ^ 63) ?_
   rw [he,Nat.mul_comm (2 * dn s C), ← Nat.mul_assoc, ← Nat.pow_succ];exact Nat.mul_lt_mul_of_pos_right h.hi hd
 refine ⟨hsc,?_⟩
 have hsig:sig n s N C=p:=by
  unfold sig
  refine rne_eq (Nat.mul_pos hd (two_pos _)) ?_
  refine Nat.eq_of_mul_eq_mul_right (two_pos 63) ?_
  have e1:(hV s * dn s C+(up s N - dn s C)) * 2 ^ (n - 1) * 2 ^ 63=dn s C * ((hV s * 2 ^ 63+(M - 2 ^ 63)) * 2 ^ (n - 1)):=by
   rw [Nat.mul_right_comm, ← Nat.mul_assoc (dn s C)]
   refine congrArg (· * 2 ^ (n - 1)) ?_
   rw [Nat.add_mul,Nat.sub_mul,he,Nat.mul_add,Nat.mul_sub,Nat.mul_comm M]
   ac_rfl
  rw [e1,h.eq];ac_rfl
 unfold TA.pos
 by_cases ht:top n≤s
 ·rw [if_pos ht]
  have hs:s=top n:=Int.le_antisymm h.high ht
  have e:=h.eq
  have tv:=top_hV (n:=n) (by omega)
  have hge:(2 ^ (n - 1) - 1) * (2 ^ 63 * 2 ^ hL s)≤p * (2 ^ 63 * 2 ^ hL s):=by
   rw [← Nat.mul_assoc p, ← e,Nat.add_mul,Nat.mul_right_comm,hs,tv]
   have:(2 ^ (n - 1) - 1) * 2 ^ hL (top n) * 2 ^ 63=(2 ^ (n - 1) - 1) * (2 ^ 63 * 2 ^ hL (top n)):=by ac_rfl
   omega
  have:=Nat.le_of_mul_le_mul_right hge (Nat.mul_pos (two_pos _) (two_pos _))
  omega
 ·rw [if_neg ht,if_neg (by have:=h.low;omega)];exact hsig
end Go.Proofs.Yy.TA
end
