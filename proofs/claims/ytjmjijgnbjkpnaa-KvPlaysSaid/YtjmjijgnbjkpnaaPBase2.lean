/-
  A part of the proof: PBase2.
-/
import Derived.Test.YtjmjijgnbjkpnaaPRef1
import Derived.Test.YtjmjijgnbjkpnaaPIns
set_option linter.all false
set_option autoImplicit true
/-
  Words that know of no program, out of the texts of the other seat.
-/
set_option autoImplicit false
set_option maxRecDepth 100000
set_option linter.unusedVariables false
set_option linter.unusedSimpArgs false
namespace Go.Fm
open Go Go.Proofs
theorem prim103e {b : Bool} : (cfg b).prim 35 = some cloneP := rfl
/-- bytes.Clone -/
theorem clone_call (b : Bool) (v : Option (List UInt8)) (hv : (pB v).length ≤ 140737488355328) (H : Heap) : callX (cfg b) An 35 [.c (pV v)] H = some (.c (pV v), H) := by
  rw [callX_prim prim103e, handCs_cs _ _ _ _ rfl]
  cases v with
  | none => rfl
  | some bs =>
    simp only [pV, cloneP, elemsOf, if_true, bytesC_av]
    rw [if_pos (by simpa [pB] using hv)]
theorem clone_sl (b : Bool) (k : List UInt8) (hv : k.length ≤ 140737488355328) (H : Heap) : callX (cfg b) An 35 [.c (.sl 1 (bytesAV k))] H = some (.c (.sl 1 (bytesAV k)), H) := clone_call b (some k) hv H
theorem cmpZ_lt (x y : List UInt8) : decide (cmpZ x y < 0) = Op.bytesLess x y := by
  unfold cmpZ
  cases Op.bytesLess x y with
  | true => rfl
  | false => cases h : x == y <;> rfl
theorem bl_trans : ∀ {x y z : List UInt8}, Op.bytesLess x y = true → Op.bytesLess y z = true → Op.bytesLess x z = true
  | _, [], _, h, _ => by simp [Op.bytesLess] at h
  | _, _ :: _, [], _, h => by simp [Op.bytesLess] at h
  | [], _ :: _, _ :: _, _, _ => rfl
  | a :: x, b :: y, c :: z, h1, h2 => by
    simp only [Op.bytesLess, Bool.or_eq_true, Bool.and_eq_true, decide_eq_true_eq, beq_iff_eq] at h1 h2 ⊢
    rcases h1 with h1 | ⟨rfl, h1⟩
    · rcases h2 with h2 | ⟨rfl, h2⟩
      · exact .inl (UInt8.lt_trans h1 h2)
      · exact .inl h1
    · rcases h2 with h2 | ⟨rfl, h2⟩
      · exact .inl h2
      · exact .inr ⟨rfl, bl_trans h1 h2⟩
def Rise (l : List Pr) : Prop := l.Pairwise fun p q => Op.bytesLess p.1 q.1 = true
structure PrOk (p : Pr) : Prop where
  ne : p.1 ≠ []
  k : p.1.length ≤ 96
  v : (pB p.2).length ≤ 256
end Go.Fm
