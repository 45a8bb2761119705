/-
  A part of the proof: Glue3.
-/
import Derived.Test.YtjmjijgnbjkpnaaDoorGlue2
import Derived.Test.YtjmjijgnbjkpnaaDoorPLaw6b
set_option linter.all false
set_option autoImplicit true
/-
  Shapes of arguments: ways.
-/
set_option maxRecDepth 100000
set_option linter.unusedVariables false
set_option linter.unusedSimpArgs false
namespace Go.Fm
open Go Go.Proofs

theorem is_ways {v : CV} (h : Is (.sl 1 .bool) v) : ∃ o : Option (List Bool), v = waysC o := by
  cases h with
  | nilsl => exact ⟨none, rfl⟩
  | sl _ _ es hl h =>
    obtain ⟨bs, rfl⟩ := is_bools h
    exact ⟨some bs, rfl⟩
end Go.Fm

