/-
  A part of the proof: PLaw4.
-/
import Derived.Test.YtjmjijgnbjkpnaaPDec2
import Derived.Test.YtjmjijgnbjkpnaaDLaw
set_option linter.all false
set_option autoImplicit true
/-
  Law NodesOne: the walk (the plain seat).
-/
set_option autoImplicit false
set_option maxRecDepth 100000
set_option linter.unusedVariables false
set_option linter.unusedSimpArgs false
namespace Go.Fm
open Go Go.Proofs
theorem v7 {b : Bool} {H : Heap} {vs : List AV} : callX (cfg b) An 7 vs H = cvw (fnX (cfg b) An 7) (handCs (cfg b) false H vs) := callX_v (prim_none' (by decide))
def ndA : Nd := ⟨some [97], some [120], 0, 1, zeroL, zeroL⟩
theorem ndA_enc : ndA.enc = [1, 0, 1, 97, 2, 0, 1, 120] := by decide
/-! CF -/
theorem awake_fn (b : Bool) : fnX (cfg b) An 6 [] [] = some (.c (.bool true), []) := by
  rw [fnX_eq, p6_eq]
  have e := enc_good0 b ndA rfl rfl (by decide) (by decide) rfl rfl rfl rfl (by decide)
  rw [ndA_enc] at e
  have zz : dI zeroL = [0, 0, 0, 0, 0, 0, 0, 0, 0, 0, 0, 0, 0, 0, 0, 0, 0, 0, 0, 0, 0, 0, 0, 0, 0, 0, 0, 0, 0, 0, 0, 0] := by decide
  have p1 : pV (some [97]) = .sl 1 [.int .u8 97] := rfl
  have p2 : pV (some [120]) = .sl 1 [.int .u8 120] := rfl
  have b3 : bytesAV [1, 0, 1, 97, 2, 0, 1, 120] = [.int .u8 1, .int .u8 0, .int .u8 1, .int .u8 97, .int .u8 2, .int .u8 0, .int .u8 1, .int .u8 120] := rfl
  have b4 : bytesC [.int .u8 1, .int .u8 0, .int .u8 1, .int .u8 97, .int .u8 2, .int .u8 0, .int .u8 1, .int .u8 120] = some [1, 0, 1, 97, 2, 0, 1, 120] := rfl
  simp only [Nd.cv, ndA, zz, p1, p2, b3] at e
  simp [p6, v7, e, b4, frzA]
theorem awake_call (b : Bool) : ∀ H, callX (cfg b) An 6 [] H = some (.c (.bool true), H) := callX_pure (awake_fn b) rfl rfl (prim_none' (by decide))
end Go.Fm
