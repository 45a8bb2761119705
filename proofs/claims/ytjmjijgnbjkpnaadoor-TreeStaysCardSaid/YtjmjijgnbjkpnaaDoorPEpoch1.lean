/-
  A part of the proof: PEpoch1.
-/
import Derived.Test.YtjmjijgnbjkpnaaDoorPSha
import Derived.Test.YtjmjijgnbjkpnaaDoorDEpoch
set_option linter.all false
set_option autoImplicit true
/-
  epoch: a log of empty trees.
-/
set_option maxRecDepth 100000
set_option linter.unusedVariables false
set_option linter.unusedSimpArgs false
namespace Go.Fm
open Go Go.Proofs
section
variable {b lit : Bool} {x y : AV} {H : Heap}
theorem eqg28 : (cfg b).P.eqGuardType (cfg b).P.depth 28 = false := by kernel_rfl
theorem aeq28 : aeq (cfg b).P 12 28 x y = ptrEq x y := aeq_ptr (e := 140) (by kernel_rfl)
theorem eqg138 : (cfg b).P.eqGuardType (cfg b).P.depth 138 = false := by kernel_rfl
theorem aeq138 : aeq (cfg b).P 12 138 x y = ptrEq x y := aeq_ptr (e := 145) (by kernel_rfl)
theorem be28 (h : isIS x y = false) : mBin (cfg b) 28 lit .eql x y H = eqH H false (ptrEq x y) := by rw [mBin_eqg eqg28 h, aeq28]
theorem be138 (h : isIS x y = false) : mBin (cfg b) 138 lit .eql x y H = eqH H false (ptrEq x y) := by rw [mBin_eqg eqg138 h, aeq138]
theorem frz140 : (cfg b).frz 140 = true := rfl
end
theorem empty_fn (b : Bool) : fnX (cfg b) An 62 [] [] = some (.c (.arr 32 .u8 (dI (shaW []))), []) := by
  rw [fnX_eq, p62_eq]
  have e := sum_fn b [none] (by simp) (by simp) (by simp [catP, pB])
  have e1 : catP [none] = [] := rfl
  have e2 : [none].map pV = [CV.nilsl] := rfl
  rw [e1, e2] at e
  have hc : ∀ H, callX (cfg b) An 88 [.c (.sl 1 [.nilsl])] H = _ := callX_pure e rfl rfl (prim_none (by decide))
  have hk : (cfg b).keepA 88 = false := rfl
  have hl : (dI (shaW [])).length = 32 := by simp [dI, shaW_len]
  generalize shaW [] = w at *
  simp [p62, callX_v (prim_none (b := b) (f := 88) (by decide)), hk, e, hl]
/-- What a tree is that nothing was put into. -/
def tE : CV := .ptr (.agg [.nilp]) [] 0
def rootE : CV := .arr 32 .u8 (dI (shaW []))
theorem root_fn (b : Bool) : fnX (cfg b) An 37 [.c tE] [] = some (.c rootE, []) := by
  rw [fnX_eq, p37_eq]
  have hc : ∀ H, callX (cfg b) An 62 [] H = _ := callX_pure (empty_fn b) rfl rfl (prim_none (by decide))
  have hl : (dI (shaW [])).length = 32 := by simp [dI, shaW_len]
  unfold rootE
  generalize shaW [] = w at *
  simp [p37, tE, hc, hl, be28, be138]
theorem new_tree (b : Bool) : fnX (cfg b) An 26 [] [] = some (.c tE, []) := by
  rw [fnX_eq, p26_eq]
  simp [p26, frz140, tE]
end Go.Fm
