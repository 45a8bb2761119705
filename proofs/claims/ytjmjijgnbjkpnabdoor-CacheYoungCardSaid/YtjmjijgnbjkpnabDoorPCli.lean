/-
  A part of the proof: PCli.
-/
import Derived.Test.YtjmjijgnbjkpnabDoorDAnn
set_option linter.all false
set_option autoImplicit true
/-
  Words more.
-/
set_option linter.unusedVariables false
set_option linter.unusedSimpArgs false
namespace Go.Fm
open Go Go.Proofs
theorem drawC_ns (H : Heap) (v : AV) (X : Heap) (h1 : v.all (fun i => decide (H.length ≤ i)) = true) (h2 : (X.all fun b => b.all fun i => decide (H.length ≤ i)) = true) :
    drawC H (some (v, deadL H ++ X)) = some ((v, (false, [], H.length, H.length + X.length)), H ++ X) := by
  have h : (deadL H ++ X).drop H.length = X := by rw [← deadL_len H, List.drop_left]
  simp only [drawC, h, List.length_append, deadL_len]
  simp [h1, h2]
attribute [simp] drawC_ns
end Go.Fm
