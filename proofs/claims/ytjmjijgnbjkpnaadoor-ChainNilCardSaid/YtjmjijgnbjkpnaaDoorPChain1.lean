/-
  A part of the proof: PChain1.
-/
import Derived.Test.YtjmjijgnbjkpnaaDoorPVals
import Derived.Test.YtjmjijgnbjkpnaaDoorPLaw3
import Derived.Test.YtjmjijgnbjkpnaaDoorDChain1
set_option linter.all false
set_option autoImplicit true
/-
  chain: New and Height.
-/
set_option maxRecDepth 100000
set_option linter.unusedVariables false
set_option linter.unusedSimpArgs false
namespace Go.Fm
open Go Go.Proofs

theorem frz152 {b : Bool} : (cfg b).frz 152 = false := rfl
theorem chain_new (b : Bool) (a : Int) (p : Int) (h : ¬ p < 1) (h2 : ¬ p > 4294967296) : fnX (cfg b) An 56 [.c (.int .u8 a), .c (.int .u64 p)] [] =
    some (.tup [.ov 0 [] 0, .c (.int .i64 0)], [.var 152 (.agg [.c (.int .u8 a), .c (.int .u64 p), .c (.int .u64 0), .c (.int .u64 0), .ov 1 [] 0, .c .nilsl, .c .nilp]), .var 137 (.c (.agg [.int .i64 64, .int .u64 1, .nilsl]))]) := by
  rw [fnX_eq, p56_eq]
  have hN := new_fn b 64 (by decide) (by decide)
  have h2' : ¬ 4294967296 < p := h2
  simp [p56, h, h2', v28, keep28, hN, frz152, frz137]
end Go.Fm

