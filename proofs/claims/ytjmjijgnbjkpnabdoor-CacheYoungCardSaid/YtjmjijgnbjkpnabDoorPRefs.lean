/-
  A part of the proof: PRefs.
-/
import Derived.Test.YtjmjijgnbjkpnabDoorPTree
import Derived.Test.YtjmjijgnbjkpnabDoorPLawT1
set_option linter.all false
set_option autoImplicit true
/-
  Ways into a node of the document's.
-/
set_option maxRecDepth 100000
set_option linter.unusedVariables false
set_option linter.unusedSimpArgs false
namespace Go.Fm
open Go Go.Proofs
section
variable (t : Tn)
theorem q_k : getC t.api [0] = some (.sl 1 (bytesAV t.key)) := by simp [Tn.api]
theorem q_v : getC t.api [1] = some (pV t.val) := by simp [Tn.api]
theorem q_h : getC t.api [2] = some (.int .i64 (t.ht : Int)) := by simp [Tn.api]
theorem q_s : getC t.api [3] = some (.int .u64 (t.sz : Int)) := by simp [Tn.api]
theorem q_l : getC t.api [4] = some (.arr 32 .u8 (dI t.lh)) := by simp [Tn.api]
theorem q_r : getC t.api [5] = some (.arr 32 .u8 (dI t.rh)) := by simp [Tn.api]
theorem r_k : offC t.api [0] = some 0 := by simp [Tn.api]
theorem r_v : offC t.api [1] = some 1 := by simp [Tn.api]
theorem r_h : offC t.api [2] = some 2 := by simp [Tn.api]
theorem r_s : offC t.api [3] = some 3 := by simp [Tn.api]
theorem r_l : offC t.api [4] = some 4 := by simp [Tn.api]
theorem r_r : offC t.api [5] = some 36 := by simp [Tn.api]
end
attribute [simp] q_k q_v q_h q_s q_l q_r r_k r_v r_h r_s r_l r_r
end Go.Fm
/-
  The document's Find and SamePairs.
-/
set_option maxRecDepth 100000
set_option linter.unusedVariables false
set_option linter.unusedSimpArgs false
namespace Go.Fm
open Go Go.Proofs
/-! CF -/
section
variable (b : Bool) (cf : CallFn)
end
/-- The same, by what they read. -/
def Same : List Pr → List Pr → Prop
  | [], [] => True
  | p :: a, q :: c => p.1 = q.1 ∧ pB p.2 = pB q.2 ∧ Same a c
  | _, _ => False
theorem Same.refl : ∀ l : List Pr, Same l l
  | [] => trivial
  | p :: l => ⟨rfl, rfl, Same.refl l⟩
theorem Same.len : ∀ {a c : List Pr}, Same a c → a.length = c.length
  | [], [], _ => rfl
  | p :: a, q :: c, h => by simp [Same.len h.2.2]
  | [], _ :: _, h => by simp [Same] at h
  | _ :: _, [], h => by simp [Same] at h
section
variable (b : Bool) (cf : CallFn)
end
theorem Root_call (b : Bool) (t : Option Tn) (H : Heap) : callX (cfg b) An 17 [.c (tC t)] H = some (.c (.arr 32 .u8 (dI (Tn.hasho t))), H) := callX_pure (Root_fn b t) rfl rfl (prim_none (by decide)) H
end Go.Fm
