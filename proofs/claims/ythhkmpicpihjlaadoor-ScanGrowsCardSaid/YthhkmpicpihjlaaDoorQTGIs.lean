/- errors.As of one of api's codes; errors.Is of a fault and its own code; the number of a code: what they answer. -/
import Derived.Test.YthhkmpicpihjlaaDoorQTGAs
set_option linter.unusedVariables false
namespace Go.Proofs.YthhkmpicpihjlaaDoor.Fa
open Go.RowKit Go.Extern.Stop Go.Stop Go.Extern
theorem errT : ∃ ms, Tryd.prog.underlying 31 = some (.interface ms) := ⟨_, Tryd.underlying31⟩
theorem codeT : Tryd.prog.underlying 52 = some (.int .i64) := by kernel_rfl
theorem codeC : (Tryd.prog.info? 52).map (·.comparable) = some true := by kernel_rfl
theorem equalInCC (d : Nat) (a b : Int) (w : World) : (Op.equalIn (d + 2) 31 (.iface 52 (.int .i64 a)) (.iface 52 (.int .i64 b))).run Tryd.prog w = .ok (a == b) w := by
  obtain ⟨i, hinfo, hcomp⟩ := Option.map_eq_some_iff.1 codeC
  obtain ⟨ms, hE⟩ := errT
  simp [Op.equalIn, run_underlying hE, run_underlying codeT, typeInfo, hinfo, hcomp]
theorem eqlCC (a b : Int) (w : World) : (binOp .eql 31 (.iface 52 (.int .i64 a)) (.iface 52 (.int .i64 b))).run Tryd.prog w = .ok (.bool (a == b)) w := by
  simp only [binOp]
  simp [Op.equal, Op.maxDepth, equalInCC 9998 a b w]
theorem cTypeOf (v : Value) (w : World) : (ReflectliteType.typeOf #[.iface 52 v]).run Tryd.prog w = .ok (.iface 137 (.agg #[.pointer (some ⟨9, 52, none⟩)])) w := by kernel_rfl
def cmpE : Array Value → Sem Value := ReflectliteType.method fun t => do Rtype.noPackHeld "Comparable" t; pure (.bool (← typeInfo t).comparable)
theorem cComparable (w : World) : (cmpE #[.agg #[.pointer (some ⟨9, 52, none⟩)]]).run Tryd.prog w = .ok (.bool true) w := by kernel_rfl
theorem mComparable (v : Value) (w : World) : (Go.method 306 137 v "Comparable").run Tryd.prog w = .ok (145, v) w := by kernel_rfl
theorem mUnwrap (v : Value) (w : World) : (Go.method 306 89 v "Unwrap").run Tryd.prog w = .ok (139, v) w := by kernel_rfl
theorem noIsF (v : Value) (xT : TypeId) (w : World) : (Instr.typeAssert (.iface 89 v) xT 149 true).run Tryd.prog w = .ok (.tuple #[.nilIface, .bool false]) w := run_typeAssert_lacksB Tryd.underlying149 (by kernel_rfl) (by kernel_rfl) v xT w
theorem hasUnwrapF (v : Value) (xT : TypeId) (w : World) : (Instr.typeAssert (.iface 89 v) xT 144 true).run Tryd.prog w = .ok (.tuple #[.iface 89 v, .bool true]) w := run_typeAssert_hasB Tryd.underlying144 (by kernel_rfl) v xT w
theorem is_fault (g : Nat) (c : Int) (w : World) (h1 : w.cell? ⟨g, 0 + 2, none⟩ = some (.iface 52 (.int .i64 c))) :
    Calls Tryd.prog 53 #[.iface 89 (.pointer (some ⟨g, 0, none⟩)), .iface 52 (.int .i64 c)] w fun e w' => e = .returned (.bool true) ∧ w' = w := by
  have h8 := @run_callFunc_extern Tryd.prog 77 _ Extern.ReflectliteType.typeOf Tryd.func77 (by kernel_rfl) (by kernel_rfl) (by kernel_rfl) (by kernel_rfl)
  have h32 := @run_callFunc_extern Tryd.prog 145 _ cmpE Tryd.func145 (by kernel_rfl) (by kernel_rfl) (by kernel_rfl) (by kernel_rfl)
  have tT := cTypeOf
  have cT := cComparable
  have mR := mComparable
  have nW := noIsF
  have uW := hasUnwrapF
  have mU := mUnwrap
  have heq := eqlCC c c w
  have hty := run_eql_iface_types (P := Tryd.prog) 89 52 (.pointer (some ⟨g, 0, none⟩)) (.int .i64 c) Tryd.underlying31 (by decide) w
  go_enter Tryd.func53, Tryd.ntmps53
  go_wp2
  refine wp_loop_rounds 2 ?_
  rw [rounds_succ]
  go_wp2
  rw [rounds_succ]
  go_wp2
  go_ret
  exact ⟨rfl, rfl⟩
end Go.Proofs.YthhkmpicpihjlaaDoor.Fa
