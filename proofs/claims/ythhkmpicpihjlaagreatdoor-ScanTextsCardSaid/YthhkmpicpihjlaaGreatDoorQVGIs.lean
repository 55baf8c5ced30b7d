/- errors.As of one of api's codes; errors.Is of a fault and its own code; the number of a code: what they answer. -/
import Derived.Test.YthhkmpicpihjlaaGreatDoorQVGAs
set_option linter.unusedVariables false
namespace Go.Proofs.YthhkmpicpihjlaaGreatDoor.Fa
open Go.RowKit Go.Extern.Stop Go.Stop Go.Extern
theorem errT : ∃ ms, Tryz.prog.underlying 26 = some (.interface ms) := ⟨_, Tryz.underlying26⟩
theorem codeT : Tryz.prog.underlying 29 = some (.int .i64) := by kernel_rfl
theorem codeC : (Tryz.prog.info? 29).map (·.comparable) = some true := by kernel_rfl
theorem equalInCC (d : Nat) (a b : Int) (w : World) : (Op.equalIn (d + 2) 26 (.iface 29 (.int .i64 a)) (.iface 29 (.int .i64 b))).run Tryz.prog w = .ok (a == b) w := by
  obtain ⟨i, hinfo, hcomp⟩ := Option.map_eq_some_iff.1 codeC
  obtain ⟨ms, hE⟩ := errT
  simp [Op.equalIn, run_underlying hE, run_underlying codeT, typeInfo, hinfo, hcomp]
theorem eqlCC (a b : Int) (w : World) : (binOp .eql 26 (.iface 29 (.int .i64 a)) (.iface 29 (.int .i64 b))).run Tryz.prog w = .ok (.bool (a == b)) w := by
  simp only [binOp]
  simp [Op.equal, Op.maxDepth, equalInCC 9998 a b w]
theorem cTypeOf (v : Value) (w : World) : (ReflectliteType.typeOf #[.iface 29 v]).run Tryz.prog w = .ok (.iface 132 (.agg #[.pointer (some ⟨11, 29, none⟩)])) w := by kernel_rfl
def cmpE : Array Value → Sem Value := ReflectliteType.method fun t => do Rtype.noPackHeld "Comparable" t; pure (.bool (← typeInfo t).comparable)
theorem cComparable (w : World) : (cmpE #[.agg #[.pointer (some ⟨11, 29, none⟩)]]).run Tryz.prog w = .ok (.bool true) w := by kernel_rfl
theorem mComparable (v : Value) (w : World) : (Go.method 317 132 v "Comparable").run Tryz.prog w = .ok (165, v) w := by kernel_rfl
theorem mUnwrap (v : Value) (w : World) : (Go.method 317 54 v "Unwrap").run Tryz.prog w = .ok (155, v) w := by kernel_rfl
theorem noIsF (v : Value) (xT : TypeId) (w : World) : (Instr.typeAssert (.iface 54 v) xT 144 true).run Tryz.prog w = .ok (.tuple #[.nilIface, .bool false]) w := run_typeAssert_lacksB Tryz.underlying144 (by kernel_rfl) (by kernel_rfl) v xT w
theorem hasUnwrapF (v : Value) (xT : TypeId) (w : World) : (Instr.typeAssert (.iface 54 v) xT 139 true).run Tryz.prog w = .ok (.tuple #[.iface 54 v, .bool true]) w := run_typeAssert_hasB Tryz.underlying139 (by kernel_rfl) v xT w
theorem is_fault (g : Nat) (c : Int) (w : World) (h1 : w.cell? ⟨g, 0 + 2, none⟩ = some (.iface 29 (.int .i64 c))) :
    Calls Tryz.prog 29 #[.iface 54 (.pointer (some ⟨g, 0, none⟩)), .iface 29 (.int .i64 c)] w fun e w' => e = .returned (.bool true) ∧ w' = w := by
  have h8 := @run_callFunc_extern Tryz.prog 68 _ Extern.ReflectliteType.typeOf Tryz.func68 (by kernel_rfl) (by kernel_rfl) (by kernel_rfl) (by kernel_rfl)
  have h32 := @run_callFunc_extern Tryz.prog 165 _ cmpE Tryz.func165 (by kernel_rfl) (by kernel_rfl) (by kernel_rfl) (by kernel_rfl)
  have tT := cTypeOf
  have cT := cComparable
  have mR := mComparable
  have nW := noIsF
  have uW := hasUnwrapF
  have mU := mUnwrap
  have heq := eqlCC c c w
  have hty := run_eql_iface_types (P := Tryz.prog) 54 29 (.pointer (some ⟨g, 0, none⟩)) (.int .i64 c) Tryz.underlying26 (by decide) w
  go_enter Tryz.func29, Tryz.ntmps29
  go_wp2
  refine wp_loop_rounds 2 ?_
  rw [rounds_succ]
  go_wp2
  rw [rounds_succ]
  go_wp2
  go_ret
  exact ⟨rfl, rfl⟩
end Go.Proofs.YthhkmpicpihjlaaGreatDoor.Fa
