/- Part 8 of what the proof needs. -/
import Derived.Lib.AtoiErrMem
import Derived.Shelf.Strings.SlTrimAscii
import Derived.Test.YtpfnkbnepcchgaaGreatDoorKTBAG
set_option linter.unusedSimpArgs false
set_option linter.unusedVariables false
section
namespace Go.Proofs.Yy.PTx
open Go.RowKit Go.Proofs.Yw.PrintWords Go.Proofs.Yw.PrintLast Go.Proofs.Yw.PrintMore Go.Shelf Go.Sort Go.Lib
def noDigit (x:Nat):Bool:=decide (x<48) || decide (57<x)
theorem read_test (W:World) (x:Nat):Calls Tryz.prog 148 #[.int .i32 (x:Int)] W fun e w'=>e = .returned (.bool (noDigit x)) ∧ ∃ q,w'=W.drewN q:=by
 by_cases h1:x<48
 ·have hb:decide ((x:Int)<48)=true:=decide_eq_true (by omega)
  have hn:noDigit x=true:=by simp [noDigit,h1]
  have HN:=am hn
  clear hn
  go_enter Tryz.func148,Tryz.ntmps148
  go_wp2
  go_ret
  exact ⟨by rw [HN.out];rfl,0,(World.drewN_zero _).symm⟩
 ·have hb:decide ((x:Int)<48)=false:=decide_eq_false (by omega)
  by_cases h2:57<x
  ·have hb2:decide ((57:Int)<(x:Int))=true:=decide_eq_true (by omega)
   have hn:noDigit x=true:=by simp [noDigit,h2]
   have HN:=am hn
   clear hn
   go_enter Tryz.func148,Tryz.ntmps148
   go_wp2
   go_ret
   exact ⟨by rw [HN.out];rfl,0,(World.drewN_zero _).symm⟩
  ·have hb2:decide ((57:Int)<(x:Int))=false:=decide_eq_false (by omega)
   have hn:noDigit x=false:=by simp [noDigit,h1,h2]
   have HN:=am hn
   clear hn
   go_enter Tryz.func148,Tryz.ntmps148
   go_wp2
   go_ret
   exact ⟨by rw [HN.out];rfl,0,(World.drewN_zero _).symm⟩
theorem read_enters (args:Array Value) (w:World):(callFunc 148 args).run Tryz.prog w = .ok (.enter 148 args) w:=enters_of Tryz.func148 (by kernel_rfl) rfl args w
def strings_IndexFunc.f (s:ByteArray):Option Int:=some (Lib.idxFunc noDigit true s)
theorem strings_IndexFunc.calls (a0:ByteArray) (r:Int) (w:World) (h:strings_IndexFunc.f a0=some r) :
  Calls Tryz.prog 147 #[.string a0, .func (.func 148) #[] #[]] w fun e w'=>e = .returned (.int .i64 r)∧Below w.heap.size w w':=by
 unfold strings_IndexFunc.f at h
 obtain rfl:=Option.some.inj h
 exact Tryz.strings_IndexFunc 148 #[] read_enters noDigit a0 w (fun W x hb=>read_test W x)
def strconv_ParseUint_149.f (s:ByteArray) (base bits:Int):Option (Int × Option Int):=if base=10∧bits=64∧s.size≤9223372036854775806 then (match Lib.parseUintB 64 s.data.toList with | .ok u=>some ((u:Int),none)|_=>none) else none
theorem strconv_ParseUint_149.calls (a0:ByteArray) (a1 a2:Int) (r1:Int) (r2:Option Int) (w:World) (h:strconv_ParseUint_149.f a0 a1 a2=some (r1,r2)) :
  Calls Tryz.prog 149 #[.string a0, .int .i64 a1, .int .i64 a2] w fun e w'=>e = .returned (.tuple #[.int .u64 r1,errW r2])∧Below w.heap.size w w':=by
 unfold strconv_ParseUint_149.f at h
 by_cases hg:a1=10∧a2=64∧a0.size≤9223372036854775806
 case neg=>rw [if_neg hg] at h;exact absurd h (by simp)
 rw [if_pos hg] at h
 obtain ⟨rfl,rfl,hs⟩:=hg
 obtain ⟨u,hp⟩:∃ u,Lib.parseUintB 64 a0.data.toList = .ok u:=by
  cases hp:Lib.parseUintB 64 a0.data.toList <;> rw [hp] at h <;> first|exact ⟨_,rfl⟩|cases h
 rw [hp] at h
 obtain ⟨rfl,rfl⟩:=Prod.mk.inj (Option.some.inj h)
 refine (Tryz.strconv_ParseUint_10_at64_ok a0 hs u hp w).mono ?_
 rintro e w' ⟨he,hw⟩
 refine ⟨he,?_⟩
 rcases hw with rfl|rfl
 ·exact Below.refl _ _
 ·exact Lib.bytesWorld_below _ _ _
end Go.Proofs.Yy.PTx
end
section
namespace Go.Proofs.Yy.PTx
open Go.RowKit Go.Proofs.Yw.PrintWords Go.Proofs.Yw.PrintLast Go.Proofs.Yw.PrintMore Go.Shelf Go.Lib
def strconv_Itoa_70.f (n:Int):Option ByteArray:=if -9223372036854775808≤n∧n≤9223372036854775807 then some ⟨(Lib.itoa n).toArray⟩ else none
theorem strconv_Itoa_70.calls (a0:Int) (r:ByteArray) (w:World) (h:strconv_Itoa_70.f a0=some r) (htab:Fx.Laid w:=by exact Fx.Laid.below HTAB.out (by repeat (first|(with_reducible first|exact HB.out|apply below_alloc|apply pw_below_drewN|apply below_drew1|refine below_set ?_ (Aside0.out (by assumption)))|exact HB.out))) :
  Calls Tryz.prog 70 #[.int .i64 a0] w fun e w'=>e = .returned (.string r)∧Below w.heap.size w w':=by
 unfold strconv_Itoa_70.f at h
 by_cases hc : -9223372036854775808≤a0∧a0≤9223372036854775807
 case neg=>rw [if_neg hc] at h;exact absurd h (by simp)
 rw [if_pos hc] at h
 obtain rfl:=Option.some.inj h
 refine (Tryz.strconv_Itoa a0 hc.1 hc.2 w htab.1).mono ?_
 rintro e w' ⟨he,k,os,rfl⟩
 exact ⟨he,Fx.below_grow _ _ _⟩
def bits_Len64.f (k:Nat) (x:Int):Option Int:=if 0≤x∧x≤18446744073709551615 then some (Lib.bitLen x.toNat:Int) else none
theorem bits_Len64.mono:∀ a0 k,LeO (bits_Len64.f k a0) (bits_Len64.f (k+1) a0):=fun _ _=>LeO.refl _
theorem bits_Len64.calls (k:Nat) (a0:Int) (r:Int) (w:World) (h:bits_Len64.f k a0=some r) :
  Calls Tryz.prog 152 #[.int .u64 a0] w fun e w'=>e = .returned (.int .i64 r)∧Drawn0 w w':=by
 unfold bits_Len64.f at h
 by_cases hg:0≤a0∧a0≤18446744073709551615
 case neg=>rw [if_neg hg] at h;exact absurd h (by simp)
 rw [if_pos hg] at h
 obtain rfl:=Option.some.inj h
 exact (Tryz.bits_Len64 a0 w hg.1 hg.2).mono fun _ _ ⟨he,hw⟩=>⟨he,by rw [hw];exact Drawn0.refl _⟩
def strings_TrimLeft.f (s c:ByteArray):Option ByteArray:=if c.data.toList = [48] then some ⟨(Lib.trimLeftB s.data.toList 48).toArray⟩ else none
theorem bytes_eq {c:ByteArray} {l:List UInt8} (h:c.data.toList=l):c=⟨l.toArray⟩:=by
 cases c with
 | mk d=>cases d with
  | mk q=>simp only at h;rw [h]
theorem strings_TrimLeft.calls (a0 a1 r:ByteArray) (w:World) (h:strings_TrimLeft.f a0 a1=some r) :
  Calls Tryz.prog 118 #[.string a0, .string a1] w fun e w'=>e = .returned (.string r)∧Below w.heap.size w w':=by
 unfold strings_TrimLeft.f at h
 by_cases hc:a1.data.toList = [48]
 case neg=>rw [if_neg hc] at h;exact absurd h (by simp)
 rw [if_pos hc] at h
 obtain rfl:=Option.some.inj h
 rw [bytes_eq hc]
 refine (Tryz.strings_TrimLeft_one a0 48 (by decide) w).mono ?_
 rintro e w' ⟨he,rfl⟩
 exact ⟨he,Below.refl _ _⟩
def strings_TrimRight.f (s c:ByteArray):Option ByteArray:=if c.data.toList = [48]∧s.size≤9223372036854775807 then some ⟨(Lib.trimRightB s.data.toList 48).toArray⟩ else none
theorem strings_TrimRight.calls (a0 a1 r:ByteArray) (w:World) (h:strings_TrimRight.f a0 a1=some r) :
  Calls Tryz.prog 119 #[.string a0, .string a1] w fun e w'=>e = .returned (.string r)∧Below w.heap.size w w':=by
 unfold strings_TrimRight.f at h
 by_cases hc:a1.data.toList = [48]∧a0.size≤9223372036854775807
 case neg=>rw [if_neg hc] at h;exact absurd h (by simp)
 rw [if_pos hc] at h
 obtain rfl:=Option.some.inj h
 rw [bytes_eq hc.1]
 refine (Tryz.strings_TrimRight_one a0 48 (by decide) w hc.2).mono ?_
 rintro e w' ⟨he,rfl⟩
 exact ⟨he,Below.refl _ _⟩
def tenDigits:List UInt8 := [48,49,50,51,52,53,54,55,56,57]
def strings_Trim.f (s c:ByteArray):Option ByteArray:=if c.data.toList=tenDigits∧s.size≤9223372036854775807 then some ⟨(Lib.trimS s.data.toList tenDigits).toArray⟩ else none
theorem strings_Trim.calls (a0 a1 r:ByteArray) (w:World) (h:strings_Trim.f a0 a1=some r) :
  Calls Tryz.prog 120 #[.string a0, .string a1] w fun e w'=>e = .returned (.string r)∧Below w.heap.size w w':=by
 unfold strings_Trim.f at h
 by_cases hc:a1.data.toList=tenDigits∧a0.size≤9223372036854775807
 case neg=>rw [if_neg hc] at h;exact absurd h (by simp)
 rw [if_pos hc] at h
 obtain rfl:=Option.some.inj h
 rw [← hc.1]
 have hz:a1.size=10:=by
  rw [bytes_eq hc.1];rfl
 exact Any.strings_Trim_laid Tryz.lays160 (by kernel_rfl) a0 a1 w hc.2 (by omega) (by rw [hc.1];exact ascii_of_all (by decide))
end Go.Proofs.Yy.PTx
end
section
set_option maxHeartbeats 8000000
set_option maxRecDepth 100000
namespace Go.Proofs.Yy.PTx
open Go.RowKit Go.Proofs.Yy.Z Go.Proofs.Yw.PrintWords Go.Proofs.Yw.PrintLast Go.Proofs.Yw.PrintMore
open Go.Proofs.Yy.M
attribute [local go_sem] runx_add64 runx_sub64 eql_cc eql_nc neq_cc neq_nc
attribute [local go_sem] max2_int min2_int max_two min_two max_three min_three max_four min_four
attribute [local go_sem high] eqA211
def twin_Len.f (k:Nat) (a0_0:Int) (a0_1:Int):Option (Int):=if a0_0 > 0 then ((bits_Len64.f k a0_0).bind fun t319=>(some (wrap64 (64+t319)))) else ((bits_Len64.f k a0_1).bind fun t320=>(some t320))
theorem twin_Len.mono:∀ a0 a1 k,LeO (twin_Len.f k a0 a1) (twin_Len.f (k+1) a0 a1):=by
  intro a0 a1 k
  unfold twin_Len.f
  repeat' (with_reducible first|exact bits_Len64.mono _ _|exact zm|exact zv|refine zI ?_ ?_|refine zO ?_ fun _=>?_)
theorem twin_Len.calls (k:Nat) (a0_0:Int) (a0_1:Int) (r:Int) (w:World) (h:twin_Len.f k a0_0 a0_1=some r) :
    Calls Tryz.prog 186 #[.agg #[.int .u64 a0_0, .int .u64 a0_1]] w fun e w'=>e = .returned (.int .i64 r)∧Below w.heap.size w w':=by
 have hu211:=Tryz.underlying211
 have HB:=am (Below.refl w.heap.size w)
 have H:=am h
 unfold twin_Len.f at H
 clear h
 replace H:=zsdg H
 rcases H with ⟨c2b0,H⟩|⟨c2b0,H⟩
 replace H:=zo H
 obtain ⟨t319,A3,H⟩:=H
 obtain rfl:=Option.some.inj H.out
 rotate_left
 replace H:=zo H
 obtain ⟨t320,A6,H⟩:=H
 obtain rfl:=Option.some.inj H.out
 rotate_left
 all_goals (go_enter Tryz.func186,Tryz.ntmps186;go_wp2_with (first|((with_reducible refine gate_dst (N:=1) rfl ?_);refine zx 1 211 #[.int .u64 a0_0, .int .u64 a0_1] ?_;intro gb318 hg w4 hbox hb;have BK318:=am (hbox);have GW318:=zG hg HB;have GE318:=zG hg HB;replace HB:=zBs HB hb;clear hb hbox hg;obtain ⟨_,_,_,_⟩:=zf2 BK318)|((with_reducible refine gate_callee (f:=152) rfl ?_);refine zc (some 8) Tryz.func152 _ (bits_Len64.calls _ _ _ _ A3.out) ?_;rintro e w' ⟨rfl,⟨nd,rfl⟩⟩;refine ⟨_,rfl,?_⟩)|((with_reducible refine gate_callee (f:=152) rfl ?_);refine zc (some 12) Tryz.func152 _ (bits_Len64.calls _ _ _ _ A6.out) ?_;rintro e w' ⟨rfl,⟨nd,rfl⟩⟩;refine ⟨_,rfl,?_⟩)))
 ·go_ret
  exact ⟨z2,zB HB⟩
 go_ret
 exact ⟨z2,zB HB⟩
def twin_shl.f (a0_0:Int) (a0_1:Int) (a1:Int):Option (Int × Int):=if a1 ≥ 64 then (if 0≤(wrap64 (a1 - 64)) then (some (shl .u64 a0_1 (wrap64 (a1 - 64)),0)) else (none)) else (if 0≤a1 then (if 0≤(wrap64 (64 - a1)) then (some (Go.bits .or .u64 (shl .u64 a0_0 a1) (shr .u64 a0_1 (wrap64 (64 - a1))),shl .u64 a0_1 a1)) else (none)) else (none))
def twin_shl.T3:Bool × List (List Nat × List Nat):=(true, [([], []),([0], [0]),([], []),([1,2], [1,2]),([], []),([4], [4]),([], []),([6], [6]),([5,7], [5,7]),([3,8], [3,8]),([], []),([10], [10]),([], []),([11,12], [11,12]),([9,13], [9,13]),([14,0,1,2,3,4,5,6,7,8,9,10,11,12,13,14], [14])])
def twin_shl.B3:List Nat := [0,1,0,7,0,16,0,64,240,511,0,1024,0,7168,16383,32767]
theorem twin_shl.tab3:rtab .any (opsOf Tryz.f187 3)=twin_shl.T3:=by kernel_rfl
theorem twin_shl.bits3:waitsOk twin_shl.T3.2 twin_shl.B3=true:=by kernel_rfl
theorem twin_shl.calls (a0_0:Int) (a0_1:Int) (a1:Int) (r1:Int) (r2:Int) (w:World) (h:twin_shl.f a0_0 a0_1 a1=some (r1,r2)) :
    Calls Tryz.prog 187 #[.agg #[.int .u64 a0_0, .int .u64 a0_1], .int .i64 a1] w fun e w'=>e = .returned (.agg #[.int .u64 r1, .int .u64 r2])∧Below w.heap.size w w':=by
 have hu211:=Tryz.underlying211
 have HB:=am (Below.refl w.heap.size w)
 have H:=am h
 unfold twin_shl.f at H
 clear h
 replace H:=zsde H
 rcases H with ⟨c3b0,H⟩|⟨c3b0,H⟩
 ·generalize hji4:(wrap64 (a1 - 64):Int)=ji4 at H
  have hji4w:(IntKind.i64.wrap (a1 - 64))=ji4:=(i64_w _).trans hji4
  replace H:=zit H
  obtain ⟨c5b0,c5b1,H⟩:=H
  generalize hji6:(shl .u64 a0_1 (ji4):Int)=ji6 at H
  have hji6_:(IntKind.u64.wrap (a0_1 * 2 ^ min (ji4).toNat 64))=ji6:=hji6
  have hji6z:(ji4)≤64→(IntKind.u64.wrap (a0_1 * 2 ^ (ji4).toNat))=ji6:=shl_small hji6
  obtain ⟨rfl,rfl⟩:=zJ2 H
  go_enter Tryz.func187,Tryz.ntmps187
  go_wp2_with (first|((with_reducible refine gate_dst (N:=2) rfl ?_);refine zx 2 211 #[.int .u64 a0_0, .int .u64 a0_1] ?_;intro gb321 hg w7 hbox hb;have BK321:=am (hbox);have GW321:=zG hg HB;have GE321:=zG hg HB;replace HB:=zBs HB hb;clear hb hbox hg)|((with_reducible refine gate_dst (N:=4) rfl ?_);refine zx 4 211 #[.int .u64 0, .int .u64 0] ?_;intro gb322 hg w8 hbox hb;have BK322:=am (hbox);have GW322:=zG hg HB;have GE322:=zG hg HB;replace HB:=zBs HB hb;have NB321_322:=zNl hg BK321;have NB322_321:=zNg hg BK321;replace BK321:=zKb BK321 hb;clear hb hbox hg;have hnb9:=NB321_322.out;have hnc9:=NB322_321.out;obtain ⟨_,_,_,_⟩:=zf2 BK321;obtain ⟨_,_,_,_⟩:=zf2 BK322))
  refine bodyPost_ret (results_cell_row rfl _ _ gb322 211 #[.int .u64 ji6, .int .u64 0] (0,0) _ rfl (zKp BK322) Tryz.underlying211 rfl (by kernel_rfl)) rfl ?_
  exact ⟨by first|exact z3|(simp only [← hji4, ← hji6];exact z3)|exact z2,zB HB⟩
 replace H:=zit H
 obtain ⟨c12b0,c12b1,H⟩:=H
 generalize hji13:(shl .u64 a0_0 a1:Int)=ji13 at H
 have hji13_:(IntKind.u64.wrap (a0_0 * 2 ^ min a1.toNat 64))=ji13:=hji13
 have hji13z:a1≤64→(IntKind.u64.wrap (a0_0 * 2 ^ a1.toNat))=ji13:=shl_small hji13
 generalize hji14:(wrap64 (64 - a1):Int)=ji14 at H
 have hji14w:(IntKind.i64.wrap (64 - a1))=ji14:=(i64_w _).trans hji14
 replace H:=zit H
 obtain ⟨c15b0,c15b1,H⟩:=H
 generalize hji16:(shr .u64 a0_1 (ji14):Int)=ji16 at H
 have hji16_:(a0_1 / 2 ^ min (ji14).toNat 64)=ji16:=hji16
 have hji16z:(ji14)≤64→(a0_1 / 2 ^ (ji14).toNat)=ji16:=shr_small hji16
 have c17b0:=eq_true (zD:0≤a1)
 generalize hji18:(shl .u64 a0_1 a1:Int)=ji18 at H
 have hji18_:(IntKind.u64.wrap (a0_1 * 2 ^ min a1.toNat 64))=ji18:=hji18
 have hji18z:a1≤64→(IntKind.u64.wrap (a0_1 * 2 ^ a1.toNat))=ji18:=shl_small hji18
 obtain ⟨rfl,rfl⟩:=zJ2 H
 go_enter Tryz.func187,Tryz.ntmps187
 try go_wp2_with (first|((with_reducible refine gate_dst (N:=2) rfl ?_);refine zx 2 211 #[.int .u64 a0_0, .int .u64 a0_1] ?_;intro gb321 hg w19 hbox hb;have BK321:=am (hbox);have GW321:=zG hg HB;have GE321:=zG hg HB;replace HB:=zBs HB hb;clear hb hbox hg)|((with_reducible refine gate_dst (N:=4) rfl ?_);refine zx 4 211 #[.int .u64 0, .int .u64 0] ?_;intro gb322 hg w20 hbox hb;have BK322:=am (hbox);have GW322:=zG hg HB;have GE322:=zG hg HB;replace HB:=zBs HB hb;have NB321_322:=zNl hg BK321;have NB322_321:=zNg hg BK321;replace BK321:=zKb BK321 hb;clear hb hbox hg))
 replace BK321:=am (blk_drew BK321.out)
 replace BK322:=am (blk_drew BK322.out)
 replace HB:=am (below_drew1 HB.out)
 refine start_ (n:=16) (S:=fun w'=>w'.cell? ⟨gb321,0,none⟩=some (.int .u64 a0_0)∧w'.cell? ⟨gb321,1,none⟩=some (.int .u64 a0_1)) (ds := []) (Array.replicate 16 false) (by kernel_rfl) rfl rfl ⟨(blk_cell BK321.out 0).trans rfl,(blk_cell BK321.out 1).trans rfl⟩ (fun hHeld=>?_);refine with_tabW twin_shl.tab3 twin_shl.bits3 (fun HT_ HW_=>?_)
 generalize w20.drew=w21 at BK321 BK322 HB hHeld ⊢
 refine zp HT_ 0 (some 13) ?_
 refine zp HT_ 2 (some 15) ?_
 refine zp HT_ 4 (some 17) ?_
 refine zp HT_ 6 (some 19) ?_
 refine zp HT_ 7 (some 20) ?_
 refine zp HT_ 10 (some 23) ?_
 refine zp HT_ 12 (some 25) ?_
 refine zt HT_ HW_ 1 (some 14) hHeld ?_
 refine zp HT_ 3 (some 16) ?_
 refine zt HT_ HW_ 5 (some 18) hHeld ?_
 refine zp HT_ 8 (some 21) ?_
 refine zp HT_ 9 (some 22) ?_
 refine zt HT_ HW_ 11 (some 24) hHeld ?_
 refine zp HT_ 13 (some 26) ?_
 refine zp HT_ 14 (some 27) ?_
 refine zu HT_ 15 none (fun K hK=>?_)
 have hs22:=zl BK322 0
 have hfs22:=blk_frozen BK322.out 0
 have hns22_0:=NB321_322.out
 have hms22_0:=NB322_321.out
 have hs23:=zl BK322 1
 have hfs23:=blk_frozen BK322.out 1
 have hns23_0:=NB321_322.out
 have hms23_0:=NB322_321.out
 refine skip_ (w1:=?_) (by rfl) rfl ?_ ?_
 rotate_left
 ·go_simp
  rfl
 refine hK.out _ _ ⟨(zh hHeld),(zh hHeld)⟩ (fun hHeld=>?_)
 clear hK K
 refine done_ (done_of HT_.out (by kernel_rfl)) ?_
 try go_wp2
 refine bodyPost_ret (results_cell_row rfl _ _ gb322 211 #[.int .u64 (Go.bits .or .u64 (ji13) (ji16)), .int .u64 ji18] (0,0) _ rfl (zKp BK322) Tryz.underlying211 rfl (by kernel_rfl)) rfl ?_
 exact ⟨by first|exact z3|(simp only [← hji13, ← hji14, ← hji16, ← hji18];exact z3)|exact z2,zB HB⟩
def twin_Norm.f (k:Nat) (a0_0:Int) (a0_1:Int):Option (Int × Int × Int):=if (a0_0 == 0 && (a0_1 == 0))=true then (some (a0_0,a0_1,0)) else ((twin_Len.f k a0_0 a0_1).bind fun t325=>((twin_shl.f a0_0 a0_1 (wrap64 (128 - t325))).bind fun bt326=>(some (bt326.1,bt326.2,wrap64 (128 - t325)))))
theorem twin_Norm.mono:∀ a0 a1 k,LeO (twin_Norm.f k a0 a1) (twin_Norm.f (k+1) a0 a1):=by
  intro a0 a1 k
  unfold twin_Norm.f
  repeat' (with_reducible first|exact twin_Len.mono _ _ _|exact zm|exact zv|refine zI ?_ ?_|refine zO ?_ fun _=>?_)
theorem twin_Norm.calls (k:Nat) (a0_0:Int) (a0_1:Int) (r1:Int) (r2:Int) (r3:Int) (w:World) (h:twin_Norm.f k a0_0 a0_1=some (r1,r2,r3)) :
    Calls Tryz.prog 145 #[.agg #[.int .u64 a0_0, .int .u64 a0_1]] w fun e w'=>e = .returned (.tuple #[.agg #[.int .u64 r1, .int .u64 r2], .int .i64 r3])∧Below w.heap.size w w':=by
 have hu211:=Tryz.underlying211
 have HB:=am (Below.refl w.heap.size w)
 have H:=am h
 unfold twin_Norm.f at H
 clear h
 replace H:=zs H
 rcases H with ⟨c2,H⟩|⟨c2,H⟩
 have c2b0:(a0_0 == 0 && (a0_1 == 0))=true:=c2
 (try (have c2b1:decide (a0_0=0 && (a0_1 == 0))=true:=by simpa using c2))
 (try (have c2b2:(a0_0 == 0 && (a0_1 == 0))=true:=by simpa using c2))
 clear c2
 obtain ⟨rfl,rfl,rfl⟩:=zJ3 H
 rotate_left
 have c2b0:(a0_0 == 0 && (a0_1 == 0))=false:=by simpa using c2
 (try (have c2b1:decide (a0_0=0 && (a0_1 == 0))=false:=by simpa using c2))
 (try (have c2b2:(a0_0 == 0 && (a0_1 == 0))=false:=by simpa using c2))
 (try (have c2b3:¬ (a0_0=0 && (a0_1 == 0)):=by simpa using c2))
 clear c2
 replace H:=zo H
 obtain ⟨t325,A8,H⟩:=H
 replace H:=zo H
 obtain ⟨⟨t326,t327⟩,A9,H⟩:=H
 try dsimp only at H
 obtain ⟨rfl,rfl,rfl⟩:=zJ3 H
 rotate_left
 all_goals (go_enter Tryz.func145,Tryz.ntmps145;go_wp2_with (first|((with_reducible refine gate_dst (N:=1) rfl ?_);refine zx 1 211 #[.int .u64 a0_0, .int .u64 a0_1] ?_;intro gb323 hg w10 hbox hb;have BK323:=am (hbox);have GW323:=zG hg HB;have GE323:=zG hg HB;replace HB:=zBs HB hb;clear hb hbox hg)|((with_reducible refine gate_dst (N:=2) rfl ?_);refine zx 2 211 #[.int .u64 0, .int .u64 0] ?_;intro gb324 hg w11 hbox hb;have BK324:=am (hbox);have GW324:=zG hg HB;have GE324:=zG hg HB;replace HB:=zBs HB hb;have NB323_324:=zNl hg BK323;have NB324_323:=zNg hg BK323;replace BK323:=zKb BK323 hb;clear hb hbox hg;have hnb12:=NB323_324.out;have hnc12:=NB324_323.out;obtain ⟨_,_,_,_⟩:=zf2 BK323;obtain ⟨_,_,_,_⟩:=zf2 BK324)|((with_reducible refine gate_callee (f:=186) rfl ?_);refine zc (some 10) Tryz.func186 _ (twin_Len.calls _ _ _ _ _ A8.out) ?_;rintro e w14 ⟨rfl,hb⟩;refine ⟨_,rfl,?_⟩;replace BK323:=zKb BK323 hb;replace BK324:=zKb BK324 hb;replace HB:=zBs HB hb;clear hb;obtain ⟨_,_,_,_⟩:=zf2 BK323)|((with_reducible refine gate_callee (f:=187) rfl ?_);refine zc (some 14) Tryz.func187 _ (twin_shl.calls _ _ _ _ _ _ A9.out) ?_;rintro e w16 ⟨rfl,hb⟩;refine ⟨_,rfl,?_⟩;replace BK323:=zKb BK323 hb;replace BK324:=zKb BK324 hb;replace HB:=zBs HB hb;clear hb;obtain ⟨_,_,_,_⟩:=zf2 BK324)))
 ·refine bodyPost_ret (results_ct rfl _ _ gb324 211 #[.int .u64 a0_0, .int .u64 a0_1] (0,0) _ rfl (zKp BK324) Tryz.underlying211 rfl (by kernel_rfl)) rfl ?_
  exact ⟨z2,zB HB⟩
 refine bodyPost_ret (results_ct rfl _ _ gb324 211 #[.int .u64 t326, .int .u64 t327] (0,0) _ rfl (zKp BK324) Tryz.underlying211 rfl (by kernel_rfl)) rfl ?_
 exact ⟨z2,zB HB⟩
def round_held.f (a0:Int):Option (Int):=some (mx (-1099511627776) (mn a0 1099511627776))
theorem round_held.calls (a0:Int) (r:Int) (w:World) (h:round_held.f a0=some r) :
    Calls Tryz.prog 146 #[.int .i64 a0] w fun e w'=>e = .returned (.int .i64 r)∧Below w.heap.size w w':=by
 have HB:=am (Below.refl w.heap.size w)
 have H:=am h
 unfold round_held.f at H
 clear h
 generalize hji2:(mn a0 1099511627776:Int)=ji2 at H
 have hji2_:(if 1099511627776<a0 then 1099511627776 else a0)=ji2:=hji2
 generalize hji3:(mx (-1099511627776) (ji2):Int)=ji3 at H
 have hji3_:(if (-1099511627776)<(ji2) then (ji2) else (-1099511627776))=ji3:=hji3
 obtain rfl:=Option.some.inj H.out
 go_enter Tryz.func146,Tryz.ntmps146
 go_wp2
 go_ret
 exact ⟨by first|exact z3|(simp only [← hji2, ← hji3];exact z3)|exact z2,zB HB⟩
def round_Make.j0:Nat→Bool→Int→Int→Int→Bool→Bool→Option (Int × Bool × Int × Int × Int × Bool × Option Int)
  | 0,_,_,_,_,_,_=>none
  | k+1,x0,x1,x2,x3,x4,x19=>if x19=true then (some (0,false,0,0,0,false,some 1)) else ((twin_Norm.f k x1 x2).bind fun bt329=>(if (bt329.1 == 0 && (bt329.2.1 == 0))=true then (some (0,false,0,0,0,false,none)) else ((round_held.f (wrap64 ((wrap64 ((mx (-4398046511104) (mn x3 4398046511104))+127)) - bt329.2.2))).bind fun t333=>(some (1,x0,t333,bt329.1,bt329.2.1,x4,none)))))
def round_Make.f (k:Nat) (a0:Bool) (a1:Int) (a2:Int) (a3:Int) (a4:Bool):Option (Int × Bool × Int × Int × Int × Bool × Option Int):=if a4=true then (round_Make.j0 k a0 a1 a2 a3 a4 ((a1 / 9223372036854775808) == 0)) else (round_Make.j0 k a0 a1 a2 a3 a4 false)
theorem round_Make.mono_l:∀ k,(∀ y0 y1 y2 y3 y4 y5,LeO (round_Make.j0 k y0 y1 y2 y3 y4 y5) (round_Make.j0 (k+1) y0 y1 y2 y3 y4 y5))
  | 0=>fun _ _ _ _ _ _ r h=>by simp [round_Make.j0] at h
  | k+1=>by
    have ih0:=round_Make.mono_l k
    · intro y0 y1 y2 y3 y4 y5
      unfold round_Make.j0
      repeat' (with_reducible first|exact ih0 _ _ _ _ _ _|exact twin_Norm.mono _ _ _|exact zm|exact zv|refine zI ?_ ?_|refine zO ?_ fun _=>?_)
theorem round_Make.mono:∀ a0 a1 a2 a3 a4 k,LeO (round_Make.f k a0 a1 a2 a3 a4) (round_Make.f (k+1) a0 a1 a2 a3 a4):=by
  intro a0 a1 a2 a3 a4 k
  have ih0:=round_Make.mono_l k
  unfold round_Make.f
  repeat' (with_reducible first|exact ih0 _ _ _ _ _ _|exact twin_Norm.mono _ _ _|exact zm|exact zv|refine zI ?_ ?_|refine zO ?_ fun _=>?_)
def round_Make.T7:Bool × List (List Nat × List Nat):=(true, [([], []),([], []),([1], [1]),([], []),([2,3], [2,3]),([4], [4]),([], []),([6], [6]),([], []),([8], [8]),([], []),([0,5,7,9,10], [0,5,7,9,10]),([11,5,0,1,2,3,4,5,6,7,8,9,10,11], [11]),([12,0,1,2,3,4,5,6,7,8,9,10,11,12], [])])
def round_Make.B7:List Nat := [0,0,2,0,14,30,0,64,0,256,0,2047,4095,8191]
theorem round_Make.tab7:rtab .any (opsOf Tryz.f93 7)=round_Make.T7:=by kernel_rfl
theorem round_Make.bits7:waitsOk round_Make.T7.2 round_Make.B7=true:=by kernel_rfl
theorem round_Make.calls (k:Nat) (a0:Bool) (a1:Int) (a2:Int) (a3:Int) (a4:Bool) (r1:Int) (r2:Bool) (r3:Int) (r4:Int) (r5:Int) (r6:Bool) (r7:Option Int) (w:World) (h:round_Make.f k a0 a1 a2 a3 a4=some (r1,r2,r3,r4,r5,r6,r7)) :
    Calls Tryz.prog 93 #[.bool a0, .int .u64 a1, .int .u64 a2, .int .i64 a3, .bool a4] w fun e w'=>e = .returned (.tuple #[.agg #[.int .i64 r1, .bool r2, .int .i64 r3, .int .u64 r4, .int .u64 r5, .bool r6],errW r7])∧Below w.heap.size w w':=by
 have hu81:=Tryz.underlying81
 have hu211:=Tryz.underlying211
 have hu27:=Tryz.underlying27
 have hu64:=Tryz.underlying64
 have HB:=am (Below.refl w.heap.size w)
 have H:=am h
 unfold round_Make.f at H
 clear h
 go_enter Tryz.func93,Tryz.ntmps93
 go_upto_region 1 with (first|((with_reducible refine gate_dst (N:=10) rfl ?_);refine zx 10 81 #[.int .i64 0, .bool false, .int .i64 0, .int .u64 0, .int .u64 0, .bool false] ?_;intro gb328 hg w7 hbox hb;have BK328:=am (hbox);have GW328:=zG hg HB;have GE328:=zG hg HB;replace HB:=zBs HB hb;clear hb hbox hg))
 (try simp only [Act.put,List.setIfInBounds_toArray,List.set_cons_zero,List.set_cons_succ])
 go_cut [19] (fun v19 wc => ∃ (kq:Nat) (x19_5:Bool),v19 = .bool x19_5∧Aside0 (round_Make.j0 kq a0 a1 a2 a3 a4 x19_5=some (r1,r2,r3,r4,r5,r6,r7))∧Aside0 (kq≤k)∧Aside0 (wc.heap[gb328]? = some (.cells #[.int .i64 0, .bool false, .int .i64 0, .int .u64 0, .int .u64 0, .bool false] 81 (0,0)))∧Aside0 (Below w.heap.size w wc))
 case first =>
  cases a4
  replace H:=zb0 H
  rotate_left
  replace H:=zb1 H
  rotate_left
  all_goals (go_wp2)
  ·go_meet
   case rel=>exact ⟨_,(false),z1,H,⟨z5⟩,⟨zK BK328⟩,⟨zB HB⟩⟩
  go_meet
  case rel=>exact ⟨_,(((a1 / 9223372036854775808) == 0)),z1,H,⟨z5⟩,⟨zK BK328⟩,⟨zB HB⟩⟩
 case rest =>
  obtain ⟨kq,x19_5,rfl,H,HJ5,BK328,HB⟩:=hcut
  obtain _|kj5:=kq
  ·exact zz H rfl
  simp only [round_Make.j0] at H
  cases x19_5
  replace H:=zb0 H
  replace H:=zo H
  obtain ⟨⟨t329,t330,t331⟩,A11,H⟩:=H
  try dsimp only at H
  replace H:=zs H
  rcases H with ⟨c12,H⟩|⟨c12,H⟩
  have c12b0:(t329 == 0 && (t330 == 0))=true:=c12
  (try (have c12b1:decide (t329=0 && (t330 == 0))=true:=by simpa using c12))
  (try (have c12b2:(t329 == 0 && (t330 == 0))=true:=by simpa using c12))
  clear c12
  obtain ⟨rfl,rfl,rfl,rfl,rfl,rfl,rfl⟩:=zJ7 H
  rotate_left
  ·have c12b0:(t329 == 0 && (t330 == 0))=false:=by simpa using c12
   (try (have c12b1:decide (t329=0 && (t330 == 0))=false:=by simpa using c12))
   (try (have c12b2:(t329 == 0 && (t330 == 0))=false:=by simpa using c12))
   (try (have c12b3:¬ (t329=0 && (t330 == 0)):=by simpa using c12))
   clear c12
   generalize hji18:(mn a3 4398046511104:Int)=ji18 at H
   (try rw [hji18] at A11)
   have hji18_:(if 4398046511104<a3 then 4398046511104 else a3)=ji18:=hji18
   generalize hji19:(mx (-4398046511104) (ji18):Int)=ji19 at H
   (try rw [hji19] at A11)
   have hji19_:(if (-4398046511104)<(ji18) then (ji18) else (-4398046511104))=ji19:=hji19
   replace H:=zo H
   obtain ⟨t333,A20,H⟩:=H
   obtain ⟨rfl,rfl,rfl,rfl,rfl,rfl,rfl⟩:=zJ7 H
   try go_wp2_with (first|((with_reducible refine gate_callee (f:=145) rfl ?_);refine zc (some 26) Tryz.func145 _ (twin_Norm.calls _ _ _ _ _ _ _ A11.out) ?_;rintro e w21 ⟨rfl,hb⟩;refine ⟨_,rfl,?_⟩;replace BK328:=zKb BK328 hb;replace HB:=zBs HB hb;clear hb)|((with_reducible refine gate_dst (N:=12) rfl ?_);refine zx 12 211 #[.int .u64 0, .int .u64 0] ?_;intro gb332 hg w22 hbox hb;have BK332:=am (hbox);have GW332:=zG hg HB;have GE332:=zG hg HB;replace HB:=zBs HB hb;have NB328_332:=zNl hg BK328;have NB332_328:=zNg hg BK328;replace BK328:=zKb BK328 hb;clear hb hbox hg;have hnb23:=NB332_328.out;have hnc23:=NB328_332.out;obtain ⟨_,_,_,_⟩:=zf2 BK332))
   have n0_:Aside0 (((w22.setCell ⟨gb332,0,none⟩ (.int .u64 t329)).setCell ⟨gb332,1,none⟩ (.int .u64 t330)).heap[gb328]? = some (.cells #[.int .i64 0, .bool false, .int .i64 0, .int .u64 0, .int .u64 0, .bool false] 81 (0,0))):=⟨zK BK328⟩
   have n1_:Aside0 (((w22.setCell ⟨gb332,0,none⟩ (.int .u64 t329)).setCell ⟨gb332,1,none⟩ (.int .u64 t330)).heap[gb332]? = some (.cells #[.int .u64 t329, .int .u64 t330] 211 (0,0))):=⟨zKp BK332⟩
   have n2_:Aside0 (Below w.heap.size w ((w22.setCell ⟨gb332,0,none⟩ (.int .u64 t329)).setCell ⟨gb332,1,none⟩ (.int .u64 t330))):=⟨zB HB⟩
   (try clear BK328)
   (try clear BK332)
   (try clear HB)
   generalize ((w22.setCell ⟨gb332,0,none⟩ (.int .u64 t329)).setCell ⟨gb332,1,none⟩ (.int .u64 t330))=w25 at n0_ n1_ n2_ ⊢
   have BK328:=n0_
   have BK332:=n1_
   have HB:=n2_
   clear n0_ n1_ n2_
   replace BK328:=am (blk_drew BK328.out)
   replace BK332:=am (blk_drew BK332.out)
   replace HB:=am (below_drew1 HB.out)
   refine start_ (n:=14) (S:=fun w'=>w'.cell? ⟨gb332,0,none⟩=some (.int .u64 t329)∧w'.cell? ⟨gb332,1,none⟩=some (.int .u64 t330)) (ds := []) (Array.replicate 14 false) (by kernel_rfl) rfl rfl ⟨(blk_cell BK332.out 0).trans rfl,(blk_cell BK332.out 1).trans rfl⟩ (fun hHeld=>?_);refine with_tabW round_Make.tab7 round_Make.bits7 (fun HT_ HW_=>?_)
   generalize w25.drew=w26 at BK328 BK332 HB hHeld ⊢
   refine zp HT_ 0 (some 36) ?_
   refine zp HT_ 1 (some 37) ?_
   refine zp HT_ 2 (some 38) ?_
   refine zp HT_ 3 (some 39) ?_
   refine zp HT_ 4 (some 40) ?_
   refine zp HT_ 6 (some 42) ?_
   refine zp HT_ 8 (some 44) ?_
   refine zp HT_ 10 (some 46) ?_
   refine zt HT_ HW_ 7 (some 43) hHeld ?_
   refine zt HT_ HW_ 9 (some 45) hHeld ?_
   refine zu HT_ 5 (some 41) (fun K hK=>?_)
   refine goes_ Tryz.func146 (by kernel_rfl) rfl #[.int .i64 (wrap64 ((wrap64 ((ji19)+127)) - t331))] (by rfl) rfl rfl (by (try simp only [List.map_toArray,List.map_cons,List.map_nil]);first|done|(simp only [hji19];rfl)|rfl|(simp only [List.length_drop,List.length_take];rfl)) ?_
   with_reducible refine (round_held.calls (wrap64 ((wrap64 ((ji19)+127)) - t331)) t333 _ A20.out).mono ?_
   rintro e w27 ⟨rfl,hb⟩
   refine ⟨_,rfl,?_⟩
   replace BK328:=zKb BK328 hb
   replace BK332:=zKb BK332 hb
   replace HB:=zBs HB hb
   (try clear hb)
   (try clear hb2)
   (try clear hk)
   (try clear hi)
   refine hK.out _ _ ⟨(blk_cell BK332.out 0).trans rfl,(blk_cell BK332.out 1).trans rfl⟩ (fun hHeld=>?_)
   clear hK K
   refine norm_ (a':=?_) ?_ ?_
   rotate_left
   ·show Act.put _ (some 41) _=_
    simp only [Act.put,List.setIfInBounds_toArray,List.set_cons_zero,List.set_cons_succ,i64_w,i32_w]
    rfl
   refine zp HT_ 11 (some 47) ?_
   refine zu HT_ 12 none (fun K hK=>?_)
   have hs28:=zl BK328 0
   have hfs28:=blk_frozen BK328.out 0
   have hns28_1:=NB332_328.out
   have hms28_1:=NB328_332.out
   have hs29:=zl BK328 1
   have hfs29:=blk_frozen BK328.out 1
   have hns29_1:=NB332_328.out
   have hms29_1:=NB328_332.out
   have hs30:=zl BK328 2
   have hfs30:=blk_frozen BK328.out 2
   have hns30_1:=NB332_328.out
   have hms30_1:=NB328_332.out
   have hs31:=zl BK328 3
   have hfs31:=blk_frozen BK328.out 3
   have hns31_1:=NB332_328.out
   have hms31_1:=NB328_332.out
   have hs32:=zl BK328 4
   have hfs32:=blk_frozen BK328.out 4
   have hns32_1:=NB332_328.out
   have hms32_1:=NB328_332.out
   have hs33:=zl BK328 5
   have hfs33:=blk_frozen BK328.out 5
   have hns33_1:=NB332_328.out
   have hms33_1:=NB328_332.out
   refine skip_ (w1:=?_) (by rfl) rfl ?_ ?_
   rotate_left
   ·go_simp
    rfl
   refine hK.out _ _ ⟨(zh hHeld),(zh hHeld)⟩ (fun hHeld=>?_)
   clear hK K
   refine zp HT_ 13 (some 11) ?_
   refine done_ (done_of HT_.out (by kernel_rfl)) ?_
   try go_wp2
   refine bodyPost_ret (results_ct rfl _ _ gb328 81 #[.int .i64 1, .bool a0, .int .i64 t333, .int .u64 t329, .int .u64 t330, .bool a4] (0,0) _ rfl (zKp BK328) Tryz.underlying81 rfl (by kernel_rfl)) rfl ?_
   exact ⟨by first|exact z3|(simp only [← hji18, ← hji19];exact z3)|exact z2,zB HB⟩
  replace H:=zb1 H
  obtain ⟨rfl,rfl,rfl,rfl,rfl,rfl,rfl⟩:=zJ7 H
  obtain ⟨_,_,_,_,_,_,_,_,_,_,_,_⟩:=zf6 BK328
  rotate_left
  all_goals (go_wp2_with (first|((with_reducible refine gate_callee (f:=145) rfl ?_);refine zc (some 26) Tryz.func145 _ (twin_Norm.calls _ _ _ _ _ _ _ A11.out) ?_;rintro e w13 ⟨rfl,hb⟩;refine ⟨_,rfl,?_⟩;replace BK328:=zKb BK328 hb;replace HB:=zBs HB hb;clear hb)|((with_reducible refine gate_dst (N:=12) rfl ?_);refine zx 12 211 #[.int .u64 0, .int .u64 0] ?_;intro gb332 hg w14 hbox hb;have BK332:=am (hbox);have GW332:=zG hg HB;have GE332:=zG hg HB;replace HB:=zBs HB hb;have NB328_332:=zNl hg BK328;have NB332_328:=zNg hg BK328;replace BK328:=zKb BK328 hb;clear hb hbox hg;have hnb15:=NB332_328.out;have hnc15:=NB328_332.out;obtain ⟨_,_,_,_⟩:=zf2 BK332;obtain ⟨_,_,_,_,_,_,_,_,_,_,_,_⟩:=zf6 BK328)))
  all_goals
   refine bodyPost_ret (results_ct rfl _ _ gb328 81 #[.int .i64 0, .bool false, .int .i64 0, .int .u64 0, .int .u64 0, .bool false] (0,0) _ rfl (zKp BK328) Tryz.underlying81 rfl (by kernel_rfl)) rfl ?_
   exact ⟨z2,zB HB⟩
end Go.Proofs.Yy.PTx
end
section
set_option maxHeartbeats 8000000
set_option maxRecDepth 100000
namespace Go.Proofs.Yy.PTx
open Go.RowKit Go.Proofs.Yy.Z Go.Proofs.Yw.PrintWords Go.Proofs.Yw.PrintLast Go.Proofs.Yw.PrintMore
open Go.Proofs.Yy.M
attribute [local go_sem] runx_add64 runx_sub64 eql_cc eql_nc neq_cc neq_nc
attribute [local go_sem] max2_int min2_int max_two min_two max_three min_three max_four min_four
attribute [local go_sem high] eqA81
def round_sound.j0:Nat→Int→Bool→Int→Bool→Int→Int→Int→Bool→Option (Bool)
  | 0,_,_,_,_,_,_,_,_=>none
  | k+1,x4,x5,x543000,x543001,x543002,x543003,x543004,x543005=>if x5=true then (some (!x543001 && (x543002 == 0 && (x543003 == 0 && (x543004 == 0 && (!x543005)))))) else (if x4=1 then (if (x543003 / 9223372036854775808)=1 then ((round_held.f x543002).bind fun t543=>(some (x543002 == t543))) else (some false)) else (some false))
def round_sound.f (k:Nat) (a0_0:Int) (a0_1:Bool) (a0_2:Int) (a0_3:Int) (a0_4:Int) (a0_5:Bool):Option (Bool):=if a0_0=0 then (round_sound.j0 k a0_0 (a0_0 == 0) a0_0 a0_1 a0_2 a0_3 a0_4 a0_5) else (round_sound.j0 k a0_0 (a0_0 == 2) a0_0 a0_1 a0_2 a0_3 a0_4 a0_5)
theorem round_sound.mono_l:∀ k,(∀ y0 y1 y2 y3 y4 y5 y6 y7,LeO (round_sound.j0 k y0 y1 y2 y3 y4 y5 y6 y7) (round_sound.j0 (k+1) y0 y1 y2 y3 y4 y5 y6 y7))
  | 0=>fun _ _ _ _ _ _ _ _ r h=>by simp [round_sound.j0] at h
  | k+1=>by
    have ih0:=round_sound.mono_l k
    · intro y0 y1 y2 y3 y4 y5 y6 y7
      unfold round_sound.j0
      repeat' (with_reducible first|exact ih0 _ _ _ _ _ _ _ _|exact zm|exact zv|refine zI ?_ ?_|refine zO ?_ fun _=>?_)
theorem round_sound.mono:∀ a0 a1 a2 a3 a4 a5 k,LeO (round_sound.f k a0 a1 a2 a3 a4 a5) (round_sound.f (k+1) a0 a1 a2 a3 a4 a5):=by
  intro a0 a1 a2 a3 a4 a5 k
  have ih0:=round_sound.mono_l k
  unfold round_sound.f
  repeat' (with_reducible first|exact ih0 _ _ _ _ _ _ _ _|exact zm|exact zv|refine zI ?_ ?_|refine zO ?_ fun _=>?_)
def round_sound.T6:Bool × List (List Nat × List Nat):=(true, [([], []),([0], [0]),([1], [1]),([2], [2]),([3], [3]),([4], [4]),([5,4], [4,5]),([4], [4]),([7,4], [4,7]),([8,4,4], [4,8]),([6,9,4], [4,6,9]),([4,10], [4,10]),([11,9,0,1,2,3,4,5,6,7,8,9,10,11], [11])])
def round_sound.B6:List Nat := [0,1,3,7,15,31,63,31,159,415,1023,2047,4095]
theorem round_sound.tab6:rtab .any (opsOf Tryz.f156 6)=round_sound.T6:=by kernel_rfl
theorem round_sound.bits6:waitsOk round_sound.T6.2 round_sound.B6=true:=by kernel_rfl
theorem round_sound.calls (k:Nat) (a0_0:Int) (a0_1:Bool) (a0_2:Int) (a0_3:Int) (a0_4:Int) (a0_5:Bool) (r:Bool) (w:World) (h:round_sound.f k a0_0 a0_1 a0_2 a0_3 a0_4 a0_5=some r) :
    Calls Tryz.prog 156 #[.agg #[.int .i64 a0_0, .bool a0_1, .int .i64 a0_2, .int .u64 a0_3, .int .u64 a0_4, .bool a0_5]] w fun e w'=>e = .returned (.bool r)∧Below w.heap.size w w':=by
 have hu81:=Tryz.underlying81
 have HB:=am (Below.refl w.heap.size w)
 have H:=am h
 unfold round_sound.f at H
 clear h
 go_enter Tryz.func156,Tryz.ntmps156
 go_upto_if 5 with (first|((with_reducible refine gate_dst (N:=1) rfl ?_);refine zx 1 81 #[.int .i64 a0_0, .bool a0_1, .int .i64 a0_2, .int .u64 a0_3, .int .u64 a0_4, .bool a0_5] ?_;intro gb542 hg w3 hbox hb;have n0_:=zBs HB hb;have n1_:=am (hbox);have n2_:=zG hg HB;have n3_:=zG hg HB;clear HB;have HB:=n0_;have BK542:=n1_;have GW542:=n2_;have GE542:=n3_;clear n0_ n1_ n2_ n3_;clear hb hbox hg;obtain ⟨_,_,_,_,_,_,_,_,_,_,_,_⟩:=zf6 BK542))
 (try simp only [Act.put,List.setIfInBounds_toArray,List.set_cons_zero,List.set_cons_succ])
 go_cut [5] (fun v5 wc => ∃ (kq:Nat) (x5_1:Bool),v5 = .bool x5_1∧Aside0 (round_sound.j0 kq a0_0 x5_1 a0_0 a0_1 a0_2 a0_3 a0_4 a0_5=some r)∧Aside0 (kq≤k)∧Aside0 (wc.heap[gb542]? = some (.cells #[.int .i64 a0_0, .bool a0_1, .int .i64 a0_2, .int .u64 a0_3, .int .u64 a0_4, .bool a0_5] 81 (0,0)))∧Aside0 (Below w.heap.size w wc))
 case first =>
  replace H:=zsk H
  rcases H with ⟨c5b0,c5b1,H⟩|⟨c5b0,c5b1,c5,H⟩
  (first|rw [c5b0]|(simp only [i64_w,i32_w];rw [c5b0])|rw [c5b1]|skip)
  rotate_left
  (first|rw [c5b0]|(simp only [i64_w,i32_w];rw [c5b0])|rw [c5b1]|skip)
  rotate_left
  all_goals (go_wp2)
  ·go_meet
   case rel=>exact ⟨_,((a0_0 == 0)),z1,H,⟨z5⟩,⟨zK BK542⟩,⟨zB HB⟩⟩
  go_meet
  case rel=>exact ⟨_,((a0_0 == 2)),z1,H,⟨z5⟩,⟨zK BK542⟩,⟨zB HB⟩⟩
 case rest =>
  obtain ⟨kq,x5_1,rfl,H,HJ1,BK542,HB⟩:=hcut
  obtain _|kj1:=kq
  ·exact zz H rfl
  simp only [round_sound.j0] at H
  cases x5_1
  replace H:=zb0 H
  replace H:=zsk H
  rcases H with ⟨c8b0,c8b1,H⟩|⟨c8b0,c8b1,c8,H⟩
  replace H:=zsk H
  rcases H with ⟨c9b0,c9b1,H⟩|⟨c9b0,c9b1,c9,H⟩
  replace H:=zo H
  obtain ⟨t543,A10,H⟩:=H
  obtain rfl:=Option.some.inj H.out
  rotate_left
  obtain rfl:=Option.some.inj H.out
  rotate_left
  ·obtain rfl:=Option.some.inj H.out
   go_wp2
   go_ret
   exact ⟨z2,zB HB⟩
  ·replace H:=zb1 H
   obtain rfl:=Option.some.inj H.out
   obtain ⟨_,_,_,_,_,_,_,_,_,_,_,_⟩:=zf6 BK542
   go_wp2
   go_ret
   exact ⟨z2,zB HB⟩
  all_goals (try go_wp2)
  all_goals
   replace BK542:=am (blk_drew BK542.out)
   replace HB:=am (below_drew1 HB.out)
   refine start_ (n:=13) (S:=fun w'=>w'.cell? ⟨gb542,0,none⟩=some (.int .i64 a0_0)∧w'.cell? ⟨gb542,1,none⟩=some (.bool a0_1)∧w'.cell? ⟨gb542,2,none⟩=some (.int .i64 a0_2)∧w'.cell? ⟨gb542,3,none⟩=some (.int .u64 a0_3)∧w'.cell? ⟨gb542,4,none⟩=some (.int .u64 a0_4)∧w'.cell? ⟨gb542,5,none⟩=some (.bool a0_5)) (ds := []) (Array.replicate 13 false) (by kernel_rfl) rfl rfl ⟨(blk_cell BK542.out 0).trans rfl,(blk_cell BK542.out 1).trans rfl,(blk_cell BK542.out 2).trans rfl,(blk_cell BK542.out 3).trans rfl,(blk_cell BK542.out 4).trans rfl,(blk_cell BK542.out 5).trans rfl⟩ (fun hHeld=>?_);refine with_tabW round_sound.tab6 round_sound.bits6 (fun HT_ HW_=>?_)
  ·generalize wc.drew=w11 at BK542 HB hHeld ⊢
   refine zp HT_ 0 (some 15) ?_
   refine zt HT_ HW_ 1 (some 16) hHeld ?_
   refine zp HT_ 2 (some 17) ?_
   refine zp HT_ 3 (some 18) ?_
   refine zp HT_ 4 (some 19) ?_
   refine zp HT_ 5 (some 20) ?_
   refine zp HT_ 7 (some 22) ?_
   refine zt HT_ HW_ 6 (some 21) hHeld ?_
   refine zt HT_ HW_ 8 (some 23) hHeld ?_
   refine zu HT_ 9 (some 24) (fun K hK=>?_)
   refine goes_ Tryz.func146 (by kernel_rfl) rfl #[.int .i64 a0_2] (by rfl) rfl rfl (by (try simp only [List.map_toArray,List.map_cons,List.map_nil]);first|done|rfl|(simp only [List.length_drop,List.length_take];rfl)) ?_
   with_reducible refine (round_held.calls a0_2 t543 _ A10.out).mono ?_
   rintro e w12 ⟨rfl,hb⟩
   refine ⟨_,rfl,?_⟩
   replace BK542:=zKb BK542 hb
   replace HB:=zBs HB hb
   (try clear hb)
   (try clear hb2)
   (try clear hk)
   (try clear hi)
   refine hK.out _ _ ⟨(blk_cell BK542.out 0).trans rfl,(blk_cell BK542.out 1).trans rfl,(blk_cell BK542.out 2).trans rfl,(blk_cell BK542.out 3).trans rfl,(blk_cell BK542.out 4).trans rfl,(blk_cell BK542.out 5).trans rfl⟩ (fun hHeld=>?_)
   clear hK K
   refine norm_ (a':=?_) ?_ ?_
   rotate_left
   ·show Act.put _ (some 24) _=_
    simp only [Act.put,List.setIfInBounds_toArray,List.set_cons_zero,List.set_cons_succ,i64_w,i32_w]
    rfl
   refine zp HT_ 10 (some 25) ?_
   refine zp HT_ 11 (some 26) ?_
   refine zp HT_ 12 (some 2) ?_
   refine done_ (done_of HT_.out (by kernel_rfl)) ?_
   try go_wp2
   go_ret
   exact ⟨z2,zB HB⟩
  generalize wc.drew=w13 at BK542 HB hHeld ⊢
  refine zp HT_ 0 (some 15) ?_
  refine zt HT_ HW_ 1 (some 16) hHeld ?_
  refine zp HT_ 2 (some 17) ?_
  refine zp HT_ 3 (some 18) ?_
  refine zp HT_ 4 (some 19) ?_
  refine pure_ (i:=5) (N:=some 20) (v:=undef) (a':=?_) #[true,true,true,true,true,true,false,false,false,false,false,false,false] rfl rfl (any_of HT_.out (by kernel_rfl)) (fun _ _ _ h=>h) (Or.inr ⟨by rfl,rfl⟩) ?_ ?_
  rotate_left
  ·simp only [Act.put,List.setIfInBounds_toArray,List.set_cons_zero,List.set_cons_succ,i64_w,i32_w]
   rfl
  refine pure_ (i:=6) (N:=some 21) (v:=undef) (a':=?_) #[true,true,true,true,true,true,true,false,false,false,false,false,false] rfl rfl (any_of HT_.out (by kernel_rfl)) (fun _ _ _ h=>h) (Or.inr ⟨by rfl,rfl⟩) ?_ ?_
  rotate_left
  ·simp only [Act.put,List.setIfInBounds_toArray,List.set_cons_zero,List.set_cons_succ,i64_w,i32_w]
   rfl
  refine pure_ (i:=7) (N:=some 22) (v:=undef) (a':=?_) #[true,true,true,true,true,true,true,true,false,false,false,false,false] rfl rfl (any_of HT_.out (by kernel_rfl)) (fun _ _ _ h=>h) (Or.inr ⟨by rfl,rfl⟩) ?_ ?_
  rotate_left
  ·simp only [Act.put,List.setIfInBounds_toArray,List.set_cons_zero,List.set_cons_succ,i64_w,i32_w]
   rfl
  refine pure_ (i:=8) (N:=some 23) (v:=undef) (a':=?_) #[true,true,true,true,true,true,true,true,true,false,false,false,false] rfl rfl (any_of HT_.out (by kernel_rfl)) (fun _ _ _ h=>h) (Or.inr ⟨by rfl,rfl⟩) ?_ ?_
  rotate_left
  ·simp only [Act.put,List.setIfInBounds_toArray,List.set_cons_zero,List.set_cons_succ,i64_w,i32_w]
   rfl
  refine pure_ (i:=9) (N:=some 24) (v:=undef) (a':=?_) #[true,true,true,true,true,true,true,true,true,true,false,false,false] rfl rfl (any_of HT_.out (by kernel_rfl)) (fun _ _ _ h=>h) (Or.inr ⟨by rfl,rfl⟩) ?_ ?_
  rotate_left
  ·simp only [Act.put,List.setIfInBounds_toArray,List.set_cons_zero,List.set_cons_succ,i64_w,i32_w]
   rfl
  refine pure_ (i:=10) (N:=some 25) (v:=undef) (a':=?_) #[true,true,true,true,true,true,true,true,true,true,true,false,false] rfl rfl (any_of HT_.out (by kernel_rfl)) (fun _ _ _ h=>h) (Or.inr ⟨by rfl,rfl⟩) ?_ ?_
  rotate_left
  ·simp only [Act.put,List.setIfInBounds_toArray,List.set_cons_zero,List.set_cons_succ,i64_w,i32_w]
   rfl
  refine zp HT_ 11 (some 26) ?_
  refine zp HT_ 12 (some 2) ?_
  refine done_ (done_of HT_.out (by kernel_rfl)) ?_
  try go_wp2
  go_ret
  exact ⟨z2,zB HB⟩
def twin_Shl.f (k:Nat) (a0_0:Int) (a0_1:Int) (a1:Int):Option (Int × Int × Bool × Option Int):=if a1<0 then (some (0,0,false,some 1)) else ((twin_shl.f a0_0 a0_1 (mn a1 128)).bind fun bt546=>((twin_Len.f k a0_0 a0_1).bind fun t548=>(some (bt546.1,bt546.2,decide (t548 > (wrap64 (128 - (mn a1 128)))),none))))
theorem twin_Shl.mono:∀ a0 a1 a2 k,LeO (twin_Shl.f k a0 a1 a2) (twin_Shl.f (k+1) a0 a1 a2):=by
  intro a0 a1 a2 k
  unfold twin_Shl.f
  repeat' (with_reducible first|exact twin_Len.mono _ _ _|exact zm|exact zv|refine zI ?_ ?_|refine zO ?_ fun _=>?_)
def twin_Shl.T4:Bool × List (List Nat × List Nat):=(true, [([], []),([], []),([0,1], [0,1]),([], []),([3,2], [3]),([], []),([5], [5]),([4,6], [4,6]),([2,4,0,1,2], [2]),([7,8,0,1,2,3,4,5,6,7,8], [7]),([9,0,1,2,3,4,5,6,7,8,9], [])])
def twin_Shl.B4:List Nat := [0,0,3,0,15,0,32,127,31,511,1023]
theorem twin_Shl.tab4:rtab .any (opsOf Tryz.f157 4)=twin_Shl.T4:=by kernel_rfl
theorem twin_Shl.bits4:waitsOk twin_Shl.T4.2 twin_Shl.B4=true:=by kernel_rfl
theorem twin_Shl.calls (k:Nat) (a0_0:Int) (a0_1:Int) (a1:Int) (r1:Int) (r2:Int) (r3:Bool) (r4:Option Int) (w:World) (h:twin_Shl.f k a0_0 a0_1 a1=some (r1,r2,r3,r4)) :
    Calls Tryz.prog 157 #[.agg #[.int .u64 a0_0, .int .u64 a0_1], .int .i64 a1] w fun e w'=>e = .returned (.tuple #[.agg #[.int .u64 r1, .int .u64 r2], .bool r3,errW r4])∧Below w.heap.size w w':=by
 have hu211:=Tryz.underlying211
 have hu27:=Tryz.underlying27
 have hu64:=Tryz.underlying64
 have HB:=am (Below.refl w.heap.size w)
 have H:=am h
 unfold twin_Shl.f at H
 clear h
 replace H:=zsd H
 rcases H with ⟨c3b0,H⟩|⟨c3b0,H⟩
 ·obtain ⟨rfl,rfl,rfl,rfl⟩:=zJ4 H
  go_enter Tryz.func157,Tryz.ntmps157
  go_wp2_with (first|((with_reducible refine gate_dst (N:=2) rfl ?_);refine zx 2 211 #[.int .u64 a0_0, .int .u64 a0_1] ?_;intro gb544 hg w4 hbox hb;have BK544:=am (hbox);have GW544:=zG hg HB;have GE544:=zG hg HB;replace HB:=zBs HB hb;clear hb hbox hg)|((with_reducible refine gate_dst (N:=4) rfl ?_);refine zx 4 211 #[.int .u64 0, .int .u64 0] ?_;intro gb545 hg w5 hbox hb;have BK545:=am (hbox);have GW545:=zG hg HB;have GE545:=zG hg HB;replace HB:=zBs HB hb;have NB544_545:=zNl hg BK544;have NB545_544:=zNg hg BK544;replace BK544:=zKb BK544 hb;clear hb hbox hg;have hnb6:=NB545_544.out;have hnc6:=NB544_545.out;obtain ⟨_,_,_,_⟩:=zf2 BK545))
  refine bodyPost_ret (results_ctt rfl _ _ gb545 211 #[.int .u64 0, .int .u64 0] (0,0) _ rfl (zKp BK545) Tryz.underlying211 rfl (by kernel_rfl)) rfl ?_
  exact ⟨z2,zB HB⟩
 generalize hji8:(mn a1 128:Int)=ji8 at H
 have hji8_:(if 128<a1 then 128 else a1)=ji8:=hji8
 replace H:=zo H
 obtain ⟨⟨t546,t547⟩,A9,H⟩:=H
 try dsimp only at H
 replace H:=zo H
 obtain ⟨t548,A10,H⟩:=H
 obtain ⟨rfl,rfl,rfl,rfl⟩:=zJ4 H
 go_enter Tryz.func157,Tryz.ntmps157
 try go_wp2_with (first|((with_reducible refine gate_dst (N:=2) rfl ?_);refine zx 2 211 #[.int .u64 a0_0, .int .u64 a0_1] ?_;intro gb544 hg w11 hbox hb;have BK544:=am (hbox);have GW544:=zG hg HB;have GE544:=zG hg HB;replace HB:=zBs HB hb;clear hb hbox hg)|((with_reducible refine gate_dst (N:=4) rfl ?_);refine zx 4 211 #[.int .u64 0, .int .u64 0] ?_;intro gb545 hg w12 hbox hb;have BK545:=am (hbox);have GW545:=zG hg HB;have GE545:=zG hg HB;replace HB:=zBs HB hb;have NB544_545:=zNl hg BK544;have NB545_544:=zNg hg BK544;replace BK544:=zKb BK544 hb;clear hb hbox hg))
 replace BK544:=am (blk_drew BK544.out)
 replace BK545:=am (blk_drew BK545.out)
 replace HB:=am (below_drew1 HB.out)
 refine start_ (n:=11) (S:=fun w'=>w'.cell? ⟨gb544,0,none⟩=some (.int .u64 a0_0)∧w'.cell? ⟨gb544,1,none⟩=some (.int .u64 a0_1)) (ds := []) (Array.replicate 11 false) (by kernel_rfl) rfl rfl ⟨(blk_cell BK544.out 0).trans rfl,(blk_cell BK544.out 1).trans rfl⟩ (fun hHeld=>?_);refine with_tabW twin_Shl.tab4 twin_Shl.bits4 (fun HT_ HW_=>?_)
 generalize w12.drew=w13 at BK544 BK545 HB hHeld ⊢
 refine zp HT_ 1 (some 14) ?_
 refine zp HT_ 5 (some 18) ?_
 refine zp HT_ 6 (some 19) ?_
 refine zt HT_ HW_ 0 (some 13) hHeld ?_
 refine zt HT_ HW_ 3 (some 16) hHeld ?_
 refine zu HT_ 2 (some 15) (fun K hK=>?_)
 refine goes_ Tryz.func187 (by kernel_rfl) rfl #[.agg #[.int .u64 a0_0, .int .u64 a0_1], .int .i64 ji8] (by rfl) rfl rfl (by (try simp only [List.map_toArray,List.map_cons,List.map_nil]);first|done|(simp only [hji8];rfl)|rfl|(simp only [List.length_drop,List.length_take];rfl)) ?_
 with_reducible refine (twin_shl.calls a0_0 a0_1 ji8 t546 t547 _ A9.out).mono ?_
 rintro e w14 ⟨rfl,hb⟩
 refine ⟨_,rfl,?_⟩
 replace BK544:=zKb BK544 hb
 replace BK545:=zKb BK545 hb
 replace HB:=zBs HB hb
 (try clear hb)
 (try clear hb2)
 (try clear hk)
 (try clear hi)
 refine hK.out _ _ ⟨(blk_cell BK544.out 0).trans rfl,(blk_cell BK544.out 1).trans rfl⟩ (fun hHeld=>?_)
 clear hK K
 refine norm_ (a':=?_) ?_ ?_
 rotate_left
 ·show Act.put _ (some 15) _=_
  simp only [Act.put,List.setIfInBounds_toArray,List.set_cons_zero,List.set_cons_succ,i64_w,i32_w]
  rfl
 refine zu HT_ 4 (some 17) (fun K hK=>?_)
 refine goes_ Tryz.func186 (by kernel_rfl) rfl #[.agg #[.int .u64 a0_0, .int .u64 a0_1]] (by rfl) rfl rfl (by (try simp only [List.map_toArray,List.map_cons,List.map_nil]);first|done|rfl|(simp only [List.length_drop,List.length_take];rfl)) ?_
 with_reducible refine (twin_Len.calls k a0_0 a0_1 t548 _ A10.out).mono ?_
 rintro e w15 ⟨rfl,hb⟩
 refine ⟨_,rfl,?_⟩
 replace BK544:=zKb BK544 hb
 replace BK545:=zKb BK545 hb
 replace HB:=zBs HB hb
 (try clear hb)
 (try clear hb2)
 (try clear hk)
 (try clear hi)
 refine hK.out _ _ ⟨(blk_cell BK544.out 0).trans rfl,(blk_cell BK544.out 1).trans rfl⟩ (fun hHeld=>?_)
 clear hK K
 refine norm_ (a':=?_) ?_ ?_
 rotate_left
 ·show Act.put _ (some 17) _=_
  simp only [Act.put,List.setIfInBounds_toArray,List.set_cons_zero,List.set_cons_succ,i64_w,i32_w]
  rfl
 refine zp HT_ 7 (some 20) ?_
 refine zu HT_ 8 none (fun K hK=>?_)
 have hs16:=zl BK545 0
 have hfs16:=blk_frozen BK545.out 0
 have hns16_0:=NB544_545.out
 have hms16_0:=NB545_544.out
 have hs17:=zl BK545 1
 have hfs17:=blk_frozen BK545.out 1
 have hns17_0:=NB544_545.out
 have hms17_0:=NB545_544.out
 refine skip_ (w1:=?_) (by rfl) rfl ?_ ?_
 rotate_left
 ·go_simp
  rfl
 refine hK.out _ _ ⟨(zh hHeld),(zh hHeld)⟩ (fun hHeld=>?_)
 clear hK K
 refine zp HT_ 9 (some 5) ?_
 refine zp HT_ 10 (some 6) ?_
 refine done_ (done_of HT_.out (by kernel_rfl)) ?_
 try go_wp2
 refine bodyPost_ret (results_ctt rfl _ _ gb545 211 #[.int .u64 t546, .int .u64 t547] (0,0) _ rfl (zKp BK545) Tryz.underlying211 rfl (by kernel_rfl)) rfl ?_
 exact ⟨by first|exact z3|(simp only [← hji8];exact z3)|exact z2,zB HB⟩
def twin_shr.f (a0_0:Int) (a0_1:Int) (a1:Int):Option (Int × Int):=if a1 ≥ 64 then (if 0≤(wrap64 (a1 - 64)) then (some (0,shr .u64 a0_0 (wrap64 (a1 - 64)))) else (none)) else (if 0≤a1 then (if 0≤(wrap64 (64 - a1)) then (some (shr .u64 a0_0 a1,Go.bits .or .u64 (shr .u64 a0_1 a1) (shl .u64 a0_0 (wrap64 (64 - a1))))) else (none)) else (none))
def twin_shr.T3:Bool × List (List Nat × List Nat):=(true, [([], []),([0], [0]),([], []),([1,2], [1,2]),([], []),([4], [4]),([], []),([5,6], [5,6]),([], []),([8], [8]),([], []),([10], [10]),([9,11], [9,11]),([7,12], [7,12]),([3,13], [3,13]),([14,0,1,2,3,4,5,6,7,8,9,10,11,12,13,14], [14])])
def twin_shr.B3:List Nat := [0,1,0,7,0,16,0,112,0,256,0,1024,3840,8176,16383,32767]
theorem twin_shr.tab3:rtab .any (opsOf Tryz.f216 3)=twin_shr.T3:=by kernel_rfl
theorem twin_shr.bits3:waitsOk twin_shr.T3.2 twin_shr.B3=true:=by kernel_rfl
theorem twin_shr.calls (a0_0:Int) (a0_1:Int) (a1:Int) (r1:Int) (r2:Int) (w:World) (h:twin_shr.f a0_0 a0_1 a1=some (r1,r2)) :
    Calls Tryz.prog 216 #[.agg #[.int .u64 a0_0, .int .u64 a0_1], .int .i64 a1] w fun e w'=>e = .returned (.agg #[.int .u64 r1, .int .u64 r2])∧Below w.heap.size w w':=by
 have hu211:=Tryz.underlying211
 have HB:=am (Below.refl w.heap.size w)
 have H:=am h
 unfold twin_shr.f at H
 clear h
 replace H:=zsde H
 rcases H with ⟨c3b0,H⟩|⟨c3b0,H⟩
 ·generalize hji4:(wrap64 (a1 - 64):Int)=ji4 at H
  have hji4w:(IntKind.i64.wrap (a1 - 64))=ji4:=(i64_w _).trans hji4
  replace H:=zit H
  obtain ⟨c5b0,c5b1,H⟩:=H
  generalize hji6:(shr .u64 a0_0 (ji4):Int)=ji6 at H
  have hji6_:(a0_0 / 2 ^ min (ji4).toNat 64)=ji6:=hji6
  have hji6z:(ji4)≤64→(a0_0 / 2 ^ (ji4).toNat)=ji6:=shr_small hji6
  obtain ⟨rfl,rfl⟩:=zJ2 H
  go_enter Tryz.func216,Tryz.ntmps216
  go_wp2_with (first|((with_reducible refine gate_dst (N:=2) rfl ?_);refine zx 2 211 #[.int .u64 a0_0, .int .u64 a0_1] ?_;intro gb549 hg w7 hbox hb;have BK549:=am (hbox);have GW549:=zG hg HB;have GE549:=zG hg HB;replace HB:=zBs HB hb;clear hb hbox hg)|((with_reducible refine gate_dst (N:=4) rfl ?_);refine zx 4 211 #[.int .u64 0, .int .u64 0] ?_;intro gb550 hg w8 hbox hb;have BK550:=am (hbox);have GW550:=zG hg HB;have GE550:=zG hg HB;replace HB:=zBs HB hb;have NB549_550:=zNl hg BK549;have NB550_549:=zNg hg BK549;replace BK549:=zKb BK549 hb;clear hb hbox hg;have hnb9:=NB549_550.out;have hnc9:=NB550_549.out;obtain ⟨_,_,_,_⟩:=zf2 BK549;obtain ⟨_,_,_,_⟩:=zf2 BK550))
  refine bodyPost_ret (results_cell_row rfl _ _ gb550 211 #[.int .u64 0, .int .u64 ji6] (0,0) _ rfl (zKp BK550) Tryz.underlying211 rfl (by kernel_rfl)) rfl ?_
  exact ⟨by first|exact z3|(simp only [← hji4, ← hji6];exact z3)|exact z2,zB HB⟩
 replace H:=zit H
 obtain ⟨c12b0,c12b1,H⟩:=H
 generalize hji13:(shr .u64 a0_0 a1:Int)=ji13 at H
 have hji13_:(a0_0 / 2 ^ min a1.toNat 64)=ji13:=hji13
 have hji13z:a1≤64→(a0_0 / 2 ^ a1.toNat)=ji13:=shr_small hji13
 have c14b0:=eq_true (zD:0≤a1)
 generalize hji15:(shr .u64 a0_1 a1:Int)=ji15 at H
 have hji15_:(a0_1 / 2 ^ min a1.toNat 64)=ji15:=hji15
 have hji15z:a1≤64→(a0_1 / 2 ^ a1.toNat)=ji15:=shr_small hji15
 generalize hji16:(wrap64 (64 - a1):Int)=ji16 at H
 have hji16w:(IntKind.i64.wrap (64 - a1))=ji16:=(i64_w _).trans hji16
 replace H:=zit H
 obtain ⟨c17b0,c17b1,H⟩:=H
 generalize hji18:(shl .u64 a0_0 (ji16):Int)=ji18 at H
 have hji18_:(IntKind.u64.wrap (a0_0 * 2 ^ min (ji16).toNat 64))=ji18:=hji18
 have hji18z:(ji16)≤64→(IntKind.u64.wrap (a0_0 * 2 ^ (ji16).toNat))=ji18:=shl_small hji18
 obtain ⟨rfl,rfl⟩:=zJ2 H
 go_enter Tryz.func216,Tryz.ntmps216
 try go_wp2_with (first|((with_reducible refine gate_dst (N:=2) rfl ?_);refine zx 2 211 #[.int .u64 a0_0, .int .u64 a0_1] ?_;intro gb549 hg w19 hbox hb;have BK549:=am (hbox);have GW549:=zG hg HB;have GE549:=zG hg HB;replace HB:=zBs HB hb;clear hb hbox hg)|((with_reducible refine gate_dst (N:=4) rfl ?_);refine zx 4 211 #[.int .u64 0, .int .u64 0] ?_;intro gb550 hg w20 hbox hb;have BK550:=am (hbox);have GW550:=zG hg HB;have GE550:=zG hg HB;replace HB:=zBs HB hb;have NB549_550:=zNl hg BK549;have NB550_549:=zNg hg BK549;replace BK549:=zKb BK549 hb;clear hb hbox hg))
 replace BK549:=am (blk_drew BK549.out)
 replace BK550:=am (blk_drew BK550.out)
 replace HB:=am (below_drew1 HB.out)
 refine start_ (n:=16) (S:=fun w'=>w'.cell? ⟨gb549,0,none⟩=some (.int .u64 a0_0)∧w'.cell? ⟨gb549,1,none⟩=some (.int .u64 a0_1)) (ds := []) (Array.replicate 16 false) (by kernel_rfl) rfl rfl ⟨(blk_cell BK549.out 0).trans rfl,(blk_cell BK549.out 1).trans rfl⟩ (fun hHeld=>?_);refine with_tabW twin_shr.tab3 twin_shr.bits3 (fun HT_ HW_=>?_)
 generalize w20.drew=w21 at BK549 BK550 HB hHeld ⊢
 refine zp HT_ 0 (some 13) ?_
 refine zp HT_ 2 (some 15) ?_
 refine zp HT_ 4 (some 17) ?_
 refine zp HT_ 6 (some 19) ?_
 refine zp HT_ 8 (some 21) ?_
 refine zp HT_ 10 (some 23) ?_
 refine zp HT_ 11 (some 24) ?_
 refine zt HT_ HW_ 1 (some 14) hHeld ?_
 refine zp HT_ 3 (some 16) ?_
 refine zt HT_ HW_ 5 (some 18) hHeld ?_
 refine zp HT_ 7 (some 20) ?_
 refine zt HT_ HW_ 9 (some 22) hHeld ?_
 refine zp HT_ 12 (some 25) ?_
 refine zp HT_ 13 (some 26) ?_
 refine zp HT_ 14 (some 27) ?_
 refine zu HT_ 15 none (fun K hK=>?_)
 have hs22:=zl BK550 0
 have hfs22:=blk_frozen BK550.out 0
 have hns22_0:=NB549_550.out
 have hms22_0:=NB550_549.out
 have hs23:=zl BK550 1
 have hfs23:=blk_frozen BK550.out 1
 have hns23_0:=NB549_550.out
 have hms23_0:=NB550_549.out
 refine skip_ (w1:=?_) (by rfl) rfl ?_ ?_
 rotate_left
 ·go_simp
  rfl
 refine hK.out _ _ ⟨(zh hHeld),(zh hHeld)⟩ (fun hHeld=>?_)
 clear hK K
 refine done_ (done_of HT_.out (by kernel_rfl)) ?_
 try go_wp2
 refine bodyPost_ret (results_cell_row rfl _ _ gb550 211 #[.int .u64 ji13, .int .u64 (Go.bits .or .u64 (ji15) (ji18))] (0,0) _ rfl (zKp BK550) Tryz.underlying211 rfl (by kernel_rfl)) rfl ?_
 exact ⟨by first|exact z3|(simp only [← hji13, ← hji15, ← hji16, ← hji18];exact z3)|exact z2,zB HB⟩
end Go.Proofs.Yy.PTx
end
