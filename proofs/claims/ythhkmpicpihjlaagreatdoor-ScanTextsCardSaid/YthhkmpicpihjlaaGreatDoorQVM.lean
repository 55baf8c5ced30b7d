/- Words of this session's own printer: a cut with its capacity; math/bits.Add64 and Sub64 as operations. -/
import Derived.Test.YthhkmpicpihjlaaGreatDoorProg
import Derived.Laws.Slices
import Derived.Laws.Externs
import Derived.KernelRfl
import Derived.Test.YthhkmpicpihjlaaGreatDoorQVWLast
namespace Go.Proofs.YthhkmpicpihjlaaGreatDoor.M
def add64Lo (x y c : Int) : Int := (((x.toNat + y.toNat + c.toNat) % 18446744073709551616 : Nat) : Int)
def add64Hi (x y c : Int) : Int := (((x.toNat + y.toNat + c.toNat) / 18446744073709551616 : Nat) : Int)
def sub64Lo (x y b : Int) : Int := (((x.toNat + 18446744073709551616 - y.toNat - b.toNat) % 18446744073709551616 : Nat) : Int)
def sub64Hi (x y b : Int) : Int := ((if x.toNat < y.toNat + b.toNat then 1 else 0 : Nat) : Int)
def sub64EntryM : Array Value → Sem Value := fun args => do
  let (x, y, b) ← Extern.MathBitsCarry.three "Sub64" args
  pure (Extern.MathBitsCarry.pair ((x + Extern.MathBitsCarry.m64 - y - b) % Extern.MathBitsCarry.m64) (if x < y + b then 1 else 0))
theorem runx_add64 (x y c : Int) (hc : c ≤ 1) (w : World) :
    (callFunc 62 #[.int .u64 x, .int .u64 y, .int .u64 c]).run Tryz.prog w = .ok (.value (.tuple #[.int .u64 (add64Lo x y c), .int .u64 (add64Hi x y c)])) w := by
  rw [run_callFunc_extern Tryz.func62 (by kernel_rfl) (by kernel_rfl) (by kernel_rfl) (e := add64Entry) (by kernel_rfl)]
  have key : (add64Entry #[.int .u64 x, .int .u64 y, .int .u64 c]).run Tryz.prog w = .ok (.tuple #[.int .u64 (add64Lo x y c), .int .u64 (add64Hi x y c)]) w := by
    cases c with
    | ofNat k =>
      have : k = 0 ∨ k = 1 := by have : (k : Int) ≤ 1 := hc; omega
      rcases this with rfl | rfl <;> rfl
    | negSucc k => rfl
  rw [key]
  rfl
theorem runx_sub64 (x y b : Int) (hb : b ≤ 1) (w : World) :
    (callFunc 56 #[.int .u64 x, .int .u64 y, .int .u64 b]).run Tryz.prog w = .ok (.value (.tuple #[.int .u64 (sub64Lo x y b), .int .u64 (sub64Hi x y b)])) w := by
  rw [run_callFunc_extern Tryz.func56 (by kernel_rfl) (by kernel_rfl) (by kernel_rfl) (e := sub64EntryM) (by kernel_rfl)]
  have key : (sub64EntryM #[.int .u64 x, .int .u64 y, .int .u64 b]).run Tryz.prog w = .ok (.tuple #[.int .u64 (sub64Lo x y b), .int .u64 (sub64Hi x y b)]) w := by
    cases b with
    | ofNat k =>
      have : k = 0 ∨ k = 1 := by have : (k : Int) ≤ 1 := hb; omega
      rcases this with rfl | rfl <;> rfl
    | negSucc k => rfl
  rw [key]
  rfl
theorem errT : Tryz.prog.underlying 26 = some (.interface (Tryz.prog.methodsAt 26)) := by kernel_rfl
theorem codeT : Tryz.prog.underlying 29 = some (.int .i64) := by kernel_rfl
theorem codeC : (Tryz.prog.info? 29).map (·.comparable) = some true := by kernel_rfl
theorem equalIn_cc (d : Nat) (a b : Int) (w : World) : (Op.equalIn (d + 2) 26 (.iface 29 (.int .i64 a)) (.iface 29 (.int .i64 b))).run Tryz.prog w = .ok (a == b) w := by
  obtain ⟨i, hinfo, hcomp⟩ := Option.map_eq_some_iff.1 codeC
  simp [Op.equalIn, run_underlying errT, run_underlying codeT, typeInfo, hinfo, hcomp]
theorem equalIn_nc (d : Nat) (b : Int) (w : World) : (Op.equalIn (d + 1) 26 .nilIface (.iface 29 (.int .i64 b))).run Tryz.prog w = .ok false w := by
  simp [Op.equalIn, run_underlying errT]
theorem eql_cc (a b : Int) (w : World) : (binOp .eql 26 (.iface 29 (.int .i64 a)) (.iface 29 (.int .i64 b))).run Tryz.prog w = .ok (.bool (a == b)) w := by
  simp only [binOp]
  simp [Op.equal, Op.maxDepth, equalIn_cc 9998 a b w]
theorem neq_cc (a b : Int) (w : World) : (binOp .neq 26 (.iface 29 (.int .i64 a)) (.iface 29 (.int .i64 b))).run Tryz.prog w = .ok (.bool (a != b)) w := by
  simp only [binOp]
  simp [Op.equal, Op.maxDepth, equalIn_cc 9998 a b w, bne]
theorem eql_nc (b : Int) (w : World) : (binOp .eql 26 .nilIface (.iface 29 (.int .i64 b))).run Tryz.prog w = .ok (.bool false) w := by
  simp only [binOp]
  simp [Op.equal, Op.maxDepth, equalIn_nc 9999 b w]
theorem neq_nc (b : Int) (w : World) : (binOp .neq 26 .nilIface (.iface 29 (.int .i64 b))).run Tryz.prog w = .ok (.bool true) w := by
  simp only [binOp]
  simp [Op.equal, Op.maxDepth, equalIn_nc 9999 b w]
end Go.Proofs.YthhkmpicpihjlaaGreatDoor.M
