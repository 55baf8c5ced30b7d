/-
  DERIVED: THE SHELF's CONTRACTS AT THIS DUMP, IN PLAIN WORDS (tools/lay-plain.mjs out of 'YthgmkigfgcejgaaDoorShelfR.lean', which tools/lay-shelf.mjs wrote): THE SAME DECLARATIONS UNDER THE SAME NAMES: 'import', 'namespace', 'open', 'def', 'theorem' AND NOTHING ELSE: no command of the shelf's: FOR A HAND-IN. Each laying: the table of numbers ('.._ren') and one theorem, a field a fact of the dump's own or the kernel's comparison; each contract: ONE APPLICATION.
-/
import Derived.Ground.MpProg
import Derived.Shelf.Pu.ParseUintPublic10
import Derived.Ground.GgwProg
import Derived.Shelf.GgClosure.StringsIndexFuncTop
import Derived.Test.YthgmkigfgcejgaaDoorProg
namespace Go.Proofs
open Go.Shelf
def Tryd.laysPu14_ren : Go.Shelf.Ren := ⟨fun | 14 => 69 | 16 => 84 | 17 => 85 | 19 => 95 | 20 => 96 | 21 => 97 | 22 => 98 | 23 => 99 | 24 => 100 | 25 => 106 | 27 => 108 | 26 => 107 | 28 => 111 | 29 => 112 | 30 => 87 | 31 => 88 | 32 => 89 | 33 => 90 | 35 => 62 | 34 => 101 | 36 => 102 | 37 => 103 | 38 => 104 | 39 => 109 | 40 => 110 | n => n, fun | 9 => 9 | 3 => 3 | 22 => 42 | 24 => 33 | 25 => 105 | 4 => 4 | 34 => 129 | 5 => 5 | 36 => 95 | 37 => 86 | 0 => 0 | 39 => 132 | 21 => 21 | 44 => 142 | 47 => 113 | 50 => 147 | 48 => 145 | 2 => 2 | 52 => 120 | 55 => 122 | 59 => 136 | 60 => 124 | 20 => 20 | 61 => 137 | 65 => 148 | 66 => 149 | 67 => 91 | n => n, fun | 0 => 3 | 1 => 4 | 2 => 2 | 3 => 6 | 4 => 7 | n => n⟩
theorem Tryd.laysPu14 : Go.Proofs.LaysPu.n14 Tryd.prog Tryd.laysPu14_ren := {
  mixed := by kernel_rfl
  f14 := Tryd.func69.trans (congrArg some (by kernel_rfl))
  f16 := Tryd.func84.trans (congrArg some (by kernel_rfl))
  f17 := Tryd.func85.trans (congrArg some (by kernel_rfl))
  f19 := Tryd.func95.trans (congrArg some (by kernel_rfl))
  f20 := Tryd.func96.trans (congrArg some (by kernel_rfl))
  f21 := Tryd.func97.trans (congrArg some (by kernel_rfl))
  f22 := Tryd.func98.trans (congrArg some (by kernel_rfl))
  f23 := Tryd.func99.trans (congrArg some (by kernel_rfl))
  f24 := Tryd.func100.trans (congrArg some (by kernel_rfl))
  f25 := Tryd.func106.trans (congrArg some (by kernel_rfl))
  f26 := Tryd.func107.trans (congrArg some (by kernel_rfl))
  f27 := Tryd.func108.trans (congrArg some (by kernel_rfl))
  f28 := Tryd.func111.trans (congrArg some (by kernel_rfl))
  f29 := Tryd.func112.trans (congrArg some (by kernel_rfl))
  f30 := Tryd.func87.trans (congrArg some (by kernel_rfl))
  f31 := Tryd.func88.trans (congrArg some (by kernel_rfl))
  f32 := Tryd.func89.trans (congrArg some (by kernel_rfl))
  f33 := Tryd.func90.trans (congrArg some (by kernel_rfl))
  f34 := Tryd.func101.trans (congrArg some (by kernel_rfl))
  f35 := Tryd.func62.trans (congrArg some (by kernel_rfl))
  f36 := Tryd.func102.trans (congrArg some (by kernel_rfl))
  f37 := Tryd.func103.trans (congrArg some (by kernel_rfl))
  f38 := Tryd.func104.trans (congrArg some (by kernel_rfl))
  f39 := Tryd.func109.trans (congrArg some (by kernel_rfl))
  f40 := Tryd.func110.trans (congrArg some (by kernel_rfl))
  t0 := Tryd.underlying0
  a0 := Tryd.isAgg0
  z0 := Tryd.sizeOf0
  v0 := Tryd.zeroValue0
  i0 := by kernel_rfl
  t2 := Tryd.underlying2
  a2 := Tryd.isAgg2
  z2 := Tryd.sizeOf2
  v2 := Tryd.zeroValue2
  i2 := by kernel_rfl
  t3 := Tryd.underlying3
  a3 := Tryd.isAgg3
  z3 := Tryd.sizeOf3
  v3 := Tryd.zeroValue3
  i3 := by kernel_rfl
  t4 := Tryd.underlying4
  a4 := Tryd.isAgg4
  z4 := Tryd.sizeOf4
  v4 := Tryd.zeroValue4
  i4 := by kernel_rfl
  t5 := Tryd.underlying5
  a5 := Tryd.isAgg5
  z5 := Tryd.sizeOf5
  v5 := Tryd.zeroValue5
  i5 := by kernel_rfl
  t9 := Tryd.underlying9
  a9 := Tryd.isAgg9
  z9 := Tryd.sizeOf9
  v9 := Tryd.zeroValue9
  i9 := by kernel_rfl
  t20 := Tryd.underlying20
  a20 := Tryd.isAgg20
  z20 := Tryd.sizeOf20
  v20 := Tryd.zeroValue20
  i20 := by kernel_rfl
  t21 := Tryd.underlying21
  a21 := Tryd.isAgg21
  z21 := Tryd.sizeOf21
  v21 := Tryd.zeroValue21
  i21 := by kernel_rfl
  t22 := Tryd.underlying42
  a22 := Tryd.isAgg42
  z22 := Tryd.sizeOf42
  v22 := Tryd.zeroValue42
  i22 := by kernel_rfl
  t24 := Tryd.underlying33
  a24 := Tryd.isAgg33
  z24 := Tryd.sizeOf33
  v24 := Tryd.zeroValue33
  i24 := by kernel_rfl
  t25 := Tryd.underlying105
  a25 := Tryd.isAgg105
  z25 := Tryd.sizeOf105
  v25 := Tryd.zeroValue105
  i25 := by kernel_rfl
  t34 := Tryd.underlying129
  a34 := Tryd.isAgg129
  z34 := Tryd.sizeOf129
  v34 := Tryd.zeroValue129
  i34 := by kernel_rfl
  c34 := by kernel_rfl
  t36 := Tryd.underlying95
  a36 := Tryd.isAgg95
  z36 := Tryd.sizeOf95
  v36 := Tryd.zeroValue95
  i36 := by kernel_rfl
  t37 := Tryd.underlying86
  a37 := Tryd.isAgg86
  z37 := Tryd.sizeOf86
  v37 := Tryd.zeroValue86
  i37 := by kernel_rfl
  t39 := Tryd.underlying132
  a39 := Tryd.isAgg132
  z39 := Tryd.sizeOf132
  v39 := Tryd.zeroValue132
  i39 := by kernel_rfl
  t44 := Tryd.underlying142
  a44 := Tryd.isAgg142
  z44 := Tryd.sizeOf142
  v44 := Tryd.zeroValue142
  i44 := by kernel_rfl
  t47 := Tryd.underlying113
  a47 := Tryd.isAgg113
  z47 := Tryd.sizeOf113
  v47 := Tryd.zeroValue113
  i47 := by kernel_rfl
  t48 := Tryd.underlying145
  a48 := Tryd.isAgg145
  z48 := Tryd.sizeOf145
  v48 := Tryd.zeroValue145
  i48 := by kernel_rfl
  t50 := Tryd.underlying147
  a50 := Tryd.isAgg147
  z50 := Tryd.sizeOf147
  v50 := Tryd.zeroValue147
  i50 := by kernel_rfl
  t52 := Tryd.underlying120
  a52 := Tryd.isAgg120
  z52 := Tryd.sizeOf120
  v52 := Tryd.zeroValue120
  i52 := by kernel_rfl
  t55 := Tryd.underlying122
  a55 := Tryd.isAgg122
  z55 := Tryd.sizeOf122
  v55 := Tryd.zeroValue122
  i55 := by kernel_rfl
  t59 := Tryd.underlying136
  a59 := Tryd.isAgg136
  z59 := Tryd.sizeOf136
  v59 := Tryd.zeroValue136
  i59 := by kernel_rfl
  t60 := Tryd.underlying124
  a60 := Tryd.isAgg124
  z60 := Tryd.sizeOf124
  v60 := Tryd.zeroValue124
  i60 := by kernel_rfl
  t61 := Tryd.underlying137
  a61 := Tryd.isAgg137
  z61 := Tryd.sizeOf137
  t65 := Tryd.underlying148
  a65 := Tryd.isAgg148
  z65 := Tryd.sizeOf148
  v65 := Tryd.zeroValue148
  i65 := by kernel_rfl
  t66 := Tryd.underlying149
  a66 := Tryd.isAgg149
  z66 := Tryd.sizeOf149
  v66 := Tryd.zeroValue149
  i66 := by kernel_rfl
  t67 := Tryd.underlying91
  a67 := Tryd.isAgg91
  z67 := Tryd.sizeOf91
  v67 := Tryd.zeroValue91
  i67 := by kernel_rfl
  g0 := by kernel_rfl
  m0 := by kernel_rfl
  g1 := by kernel_rfl
  m1 := by kernel_rfl
  g2 := by kernel_rfl
  m2 := by kernel_rfl
  g3 := by kernel_rfl
  m3 := by kernel_rfl
  g4 := by kernel_rfl
  m4 := by kernel_rfl }
open Go.RowKit in
open Go.RowKit in
open Go.RowKit in
open Go.RowKit in
theorem Tryd.strconv_ParseUint_10_at64_ok (s : ByteArray) (hmax : s.size ≤ 9223372036854775806) (u : Nat) (h : Lib.parseUintB 64 s.data.toList = .ok u) (w : World) :
    Calls Tryd.prog 69 #[.string s, .int .i64 10, .int .i64 64] w fun e w' => e = .returned (.tuple #[.int .u64 u, .nilIface]) ∧ (w' = w ∨ w' = Lib.bytesWorld w 5 s) := Any.strconv_ParseUint_10_at64_ok Tryd.laysPu14 s hmax u h w
open Go.RowKit in
open Go.RowKit in
open Go.RowKit in
open Go.RowKit in
open Go.RowKit in
open Go.RowKit in
open Go.RowKit in
open Go.RowKit in
open Go.RowKit in
open Go.RowKit in
open Go.RowKit in
def Tryd.laysGw15_ren : Go.Shelf.Ren := ⟨fun | 15 => 67 | 20 => 83 | n => n, fun | 9 => 9 | 23 => 101 | 3 => 3 | 4 => 4 | 0 => 0 | 21 => 21 | n => n, fun | n => n⟩
theorem Tryd.laysGw15 : Go.Proofs.LaysGw.n15 Tryd.prog Tryd.laysGw15_ren := {
  mixed := by kernel_rfl
  f15 := Tryd.func67.trans (congrArg some (by kernel_rfl))
  f20 := Tryd.func83.trans (congrArg some (by kernel_rfl))
  t0 := Tryd.underlying0
  a0 := Tryd.isAgg0
  z0 := Tryd.sizeOf0
  v0 := Tryd.zeroValue0
  i0 := by kernel_rfl
  t3 := Tryd.underlying3
  a3 := Tryd.isAgg3
  z3 := Tryd.sizeOf3
  v3 := Tryd.zeroValue3
  i3 := by kernel_rfl
  t4 := Tryd.underlying4
  a4 := Tryd.isAgg4
  z4 := Tryd.sizeOf4
  v4 := Tryd.zeroValue4
  i4 := by kernel_rfl
  t9 := Tryd.underlying9
  a9 := Tryd.isAgg9
  z9 := Tryd.sizeOf9
  v9 := Tryd.zeroValue9
  i9 := by kernel_rfl
  t21 := Tryd.underlying21
  a21 := Tryd.isAgg21
  z21 := Tryd.sizeOf21
  v21 := Tryd.zeroValue21
  i21 := by kernel_rfl
  t23 := Tryd.underlying101
  a23 := Tryd.isAgg101
  z23 := Tryd.sizeOf101
  v23 := Tryd.zeroValue101
  i23 := by kernel_rfl }
open Go.RowKit Go.Lib in
theorem Tryd.strings_IndexFunc (g : Nat) (lb : Array Value) (eg : ∀ args w, (callFunc g args).run Tryd.prog w = .ok (.enter g args) w) (p : Nat → Bool) (s : ByteArray) (w : World) (hp : PredAt Tryd.prog g lb encR p w) :
    Calls Tryd.prog 67 #[.string s, .func (.func g) #[] lb] w fun e w' => e = .returned (.int .i64 (Lib.idxFunc p true s)) ∧ Below w.heap.size w w' := Any.strings_IndexFunc Tryd.laysGw15 g lb eg p s w hp
end Go.Proofs
