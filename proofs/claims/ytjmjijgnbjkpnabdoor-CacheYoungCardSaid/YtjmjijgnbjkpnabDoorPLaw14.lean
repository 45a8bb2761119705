/-
  A part of the proof: PLaw14.
-/
import Derived.Test.YtjmjijgnbjkpnabDoorPGrow
set_option linter.all false
set_option autoImplicit true
/-
  TreeNil: what the law's function gives.
-/
set_option maxRecDepth 100000
set_option linter.unusedVariables false
set_option linter.unusedSimpArgs false
namespace Go.Fm
open Go Go.Proofs
section
variable {b lit : Bool} {x y : AV} {H : Heap}
theorem eqg41 : (cfg b).P.eqGuardType (cfg b).P.depth 34 = false := by kernel_rfl
theorem aeq41 : aeq (cfg b).P 12 34 x y = arrEq 32 .u8 x y := aeq_arr (e := 5) (by kernel_rfl) (by kernel_rfl) (by kernel_rfl) (by kernel_rfl) (by decide)
theorem be34 (h : isIS x y = false) : mBin (cfg b) 34 lit .eql x y H = eqH H false (arrEq 32 .u8 x y) := by rw [mBin_eqg eqg41 h, aeq41]
theorem bne34 (h : isIS x y = false) : mBin (cfg b) 34 lit .neq x y H = eqH H true (arrEq 32 .u8 x y) := by rw [mBin_neg eqg41 h, aeq41]
end
/-! ### Awake -/
theorem new_call (b : Bool) (H : Heap) : callX (cfg b) An 11 [] H = some (.c (tC none), H) := callX_pure (new_tree b) rfl rfl (prim_none (by decide)) H
section
variable {b : Bool} {H : Heap} {vs : List AV}
end
def aw1 : Tn := .leaf [97] none
def aw2 : Tn := Tn.put [98] none aw1
end Go.Fm
