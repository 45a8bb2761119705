/-
  A part of the proof: PLaw4b.
-/
import Derived.Test.YtjmjijgnbjkpnaaPLaw4
set_option linter.all false
set_option autoImplicit true
/-
  Law NodesOne: the walk (the plain seat).
-/
set_option autoImplicit false
set_option maxRecDepth 100000
set_option linter.unusedVariables false
set_option linter.unusedSimpArgs false
namespace Go.Fm
open Go Go.Proofs
/-- What the law does with one of its texts. -/
structure OneR (b : Bool) (o : Option (List UInt8)) (v : CV) (e : Int) : Prop where
  dec : ∀ H, callX (cfg b) An 10 [.c (pV o)] H = some (.tup [.c v, .c (.int .i64 e)], H)
  sz : v.size = 68
  ag : v.isAgg = true
  enc : e = 0 → ∃ w : Option (List UInt8), pB w = pB o ∧ ∀ H, callX (cfg b) An 7 [.c v] H = some (.tup [.c (pV w), .c (.int .i64 0)], H)
/-! CF -/
end Go.Fm
