/-
  A part of the proof: PSta.
-/
import Derived.Test.YtjmjijgnbjkpnaaDoorPEq80
import Derived.Test.YtjmjijgnbjkpnaaDoorPEp
import Derived.Test.YtjmjijgnbjkpnaaDoorDMisc
set_option linter.all false
set_option autoImplicit true
/-
  Law 17, ChainStays.
-/
set_option maxRecDepth 100000
set_option linter.unusedVariables false
set_option linter.unusedSimpArgs false
namespace Go.Fm
open Go Go.Proofs
/-! CF -/
end Go.Fm
/-
  Law 17, ChainStays, as a whole.
-/
set_option maxRecDepth 100000
set_option linter.unusedVariables false
set_option linter.unusedSimpArgs false
namespace Go.Fm
open Go Go.Proofs
theorem v53 {b : Bool} {H : Heap} {vs : List AV} : callX (cfg b) An 53 vs H = cvw (fnX (cfg b) An 53) (handCs (cfg b) false H vs) := callX_v (prim_none (by decide))
theorem v54 {b : Bool} {H : Heap} {vs : List AV} : callX (cfg b) An 54 vs H = cvw (fnX (cfg b) An 54) (handCs (cfg b) false H vs) := callX_v (prim_none (by decide))
/-! CF -/
end Go.Fm
