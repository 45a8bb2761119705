/-
  A part of the proof: PLa4.
-/
import Derived.Test.YtjmjijgnbjkpnaaDoorPRNode
import Derived.Test.YtjmjijgnbjkpnaaDoorPChain
set_option linter.all false
set_option autoImplicit true
/-
  Clash of two texts; law 4, ChainApart.
-/
set_option maxRecDepth 100000
set_option linter.unusedVariables false
set_option linter.unusedSimpArgs false
namespace Go.Fm
open Go Go.Proofs
section
variable {b lit : Bool} {x y : AV} {H : Heap}
theorem eqg4c : (cfg b).P.eqGuardType (cfg b).P.depth 4 = false := by kernel_rfl
theorem aeq4c : aeq (cfg b).P 12 4 x y = boolEq x y := aeq_bool (by kernel_rfl)
end
def two (x y : List UInt8) : CV := .sl 1 [.sl 1 (bytesAV x), .sl 1 (bytesAV y)]
/-! CF -/
/-! ### Eight bytes tell a number -/
end Go.Fm
/-
  Law 4, ChainApart, as a whole.
-/
set_option maxRecDepth 100000
set_option linter.unusedVariables false
set_option linter.unusedSimpArgs false
namespace Go.Fm
open Go Go.Proofs
/-! CF -/
end Go.Fm
