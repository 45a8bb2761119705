/-
  A part of the proof: PEpoch1.
-/
import Derived.Test.YtjmjijgnbjkpnabDoorPSha
import Derived.Test.YtjmjijgnbjkpnabDoorDEpoch
set_option linter.all false
set_option autoImplicit true
/-
  epoch: a log of empty trees.
-/
set_option maxRecDepth 100000
set_option linter.unusedVariables false
set_option linter.unusedSimpArgs false
namespace Go.Fm
open Go Go.Proofs
section
variable {b lit : Bool} {x y : AV} {H : Heap}
theorem eqg28 : (cfg b).P.eqGuardType (cfg b).P.depth 25 = false := by kernel_rfl
theorem aeq28 : aeq (cfg b).P 12 25 x y = ptrEq x y := aeq_ptr (e := 63) (by kernel_rfl)
theorem eqg138 : (cfg b).P.eqGuardType (cfg b).P.depth 61 = false := by kernel_rfl
theorem aeq138 : aeq (cfg b).P 12 61 x y = ptrEq x y := aeq_ptr (e := 87) (by kernel_rfl)
theorem be25 (h : isIS x y = false) : mBin (cfg b) 25 lit .eql x y H = eqH H false (ptrEq x y) := by rw [mBin_eqg eqg28 h, aeq28]
theorem be61 (h : isIS x y = false) : mBin (cfg b) 61 lit .eql x y H = eqH H false (ptrEq x y) := by rw [mBin_eqg eqg138 h, aeq138]
theorem frz63 : (cfg b).frz 63 = true := rfl
end
theorem empty_fn (b : Bool) : fnX (cfg b) An 29 [] [] = some (.c (.arr 32 .u8 (dI (shaW []))), []) := by
  rw [fnX_eq, p29_eq]
  have e := sum_fn b [none] (by simp) (by simp) (by simp [catP, pB])
  have e1 : catP [none] = [] := rfl
  have e2 : [none].map pV = [CV.nilsl] := rfl
  rw [e1, e2] at e
  have hc : ∀ H, callX (cfg b) An 20 [.c (.sl 1 [.nilsl])] H = _ := callX_pure e rfl rfl (prim_none (by decide))
  have hk : (cfg b).keepA 20 = false := rfl
  have hl : (dI (shaW [])).length = 32 := by simp [dI, shaW_len]
  generalize shaW [] = w at *
  simp [p29, callX_v (prim_none (b := b) (f := 20) (by decide)), hk, e, hl]
/-- What a tree is that nothing was put into. -/
def tE : CV := .ptr (.agg [.nilp]) [] 0
def rootE : CV := .arr 32 .u8 (dI (shaW []))
theorem root_fn (b : Bool) : fnX (cfg b) An 17 [.c tE] [] = some (.c rootE, []) := by
  rw [fnX_eq, p17_eq]
  have hc : ∀ H, callX (cfg b) An 29 [] H = _ := callX_pure (empty_fn b) rfl rfl (prim_none (by decide))
  have hl : (dI (shaW [])).length = 32 := by simp [dI, shaW_len]
  unfold rootE
  generalize shaW [] = w at *
  simp [p17, tE, hc, hl, be25, be61]
theorem new_tree (b : Bool) : fnX (cfg b) An 11 [] [] = some (.c tE, []) := by
  rw [fnX_eq, p11_eq]
  simp [p11, frz63, tE]
end Go.Fm
