/-
  A part of the proof: PKaw.
-/
import Derived.Test.YtjmjijgnbjkpnaaPKvo
import Derived.Test.YtjmjijgnbjkpnaaDLaw13
set_option linter.all false
set_option autoImplicit true
/-
  Awake of the store's laws.
-/
set_option autoImplicit false
set_option maxRecDepth 100000
set_option linter.unusedVariables false
set_option linter.unusedSimpArgs false
namespace Go.Fm
open Go Go.Proofs
/-! CF -/
set_option maxHeartbeats 4000000 in
theorem awake16 (b : Bool) : fnX (cfg b) An 13 [] [] = some (.c (.bool true), []) := by
  rw [fnX_eq, p13_eq]
  have nw := kvnew_fn b
  have p1 := kvputP_nil b [98] [50] (by decide) (by decide) (by decide)
  have p2 := kvputP_ins b [([98], some [50])] (by decide) (by simp [Rise]) [97] [49] (by decide) (by decide) (by decide) (by decide)
  have ls := klist_fn b (putP [97] (some [49]) [([98], some [50])]) (by decide) (fun p hp => by
    have : p = ([97], some [49]) ∨ p = ([98], some [50]) := by simpa [putP, Op.bytesLess] using hp
    rcases this with rfl | rfl <;> exact ⟨by simp, by decide, by decide⟩) none
  have e1 : putP [97] (some [49]) [([98], some [50])] = [([97], some [49]), ([98], some [50])] := by decide
  have e2 : begP none [([97], some [49]), ([98], some [50])] = [([97], some [49]), ([98], some [50])] := by decide
  rw [e1] at p2 ls
  rw [e2] at ls
  simp only [kvE, kvEO, kvHO, kvDO, kvH, kvD, List.cons_append, List.nil_append, pV, pairsC, prC, pairC, List.map_cons, List.map_nil, bytesAV] at nw p1 p2 ls
  simp at nw p1 p2 ls
  have m1 : 1 ≤ maxLen := big_max (by decide)
  simp [p13, v14, nw, v17, p1, p2, v23, ls, frz82, m1, nthC_z, nthC_o, bytesC, BA_toList]
theorem awake16_call (b : Bool) (H : Heap) : callX (cfg b) An 13 [] H = some (.c (.bool true), H) := callX_pure (awake16 b) rfl rfl (prim_none (by decide)) H
end Go.Fm
