/-
  A part of the proof: PNu.
-/
import Derived.Test.YtjmjijgnbjkpnabDoorPSha
import Derived.Test.YtjmjijgnbjkpnabDoorDNum
set_option linter.all false
set_option autoImplicit true
/-
  keys.Num and ref01.Eight: a number's eight bytes.
-/
set_option maxRecDepth 100000
set_option linter.unusedVariables false
set_option linter.unusedSimpArgs false
namespace Go.Fm
open Go Go.Proofs
/-! ### Eight -/
end Go.Fm
/-
  chain.Vals: the sum of a word, a name and a height.
-/
set_option maxRecDepth 100000
set_option linter.unusedVariables false
set_option linter.unusedSimpArgs false
namespace Go.Fm
open Go Go.Proofs
end Go.Fm
