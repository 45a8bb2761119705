/-
  A part of the proof: PEpoch2.
-/
import Derived.Test.YtjmjijgnbjkpnaaDoorPEpoch1
import Derived.Test.YtjmjijgnbjkpnaaDoorPGrow
import Derived.Test.YtjmjijgnbjkpnaaDoorDLaw3
set_option linter.all false
set_option autoImplicit true
/-
  epoch: what Awake looks at.
-/
set_option maxRecDepth 100000
set_option linter.unusedVariables false
set_option linter.unusedSimpArgs false
namespace Go.Fm
open Go Go.Proofs

theorem root_call (b : Bool) (H : Heap) : callX (cfg b) An 37 [.c tE] H = some (.c rootE, H) := callX_pure (root_fn b) rfl rfl (prim_none (by decide)) H
theorem rootE_size : rootE = .arr 32 .u8 (dI (shaW [])) := rfl
theorem dI_len (m : List UInt8) : (dI (shaW m)).length = 32 := by simp [dI, shaW_len]
theorem two_max : 2 ≤ maxLen := big_max (by decide)
section
variable {a0 a1 : CV} {l : List CV}
theorem nthC_n0 : nthC (a0 :: l) 0 = a0 := (rfl)
theorem nthC_n1 : nthC (a0 :: a1 :: l) 1 = a1 := (rfl)
end
theorem roots_two (b : Bool) (k f : Int) : fnX (cfg b) An 30 [.ov 0 [] 0] (logH k f [tE, tE]) = some (.c (.sl 32 [rootE, rootE]), logH k f [tE, tE]) := by
  rw [fnX_eq, p30_eq]
  have hr := root_call b
  have hl := dI_len []
  rw [rootE_size] at hr ⊢
  generalize dI (shaW []) = w at hr hl ⊢
  simp only [tE] at hr ⊢
  have a1 : iAdd .i64 0 1 = 1 := by decide
  have a2 : iAdd .i64 1 1 = 2 := by decide
  have e1 : loopX 2 (p30_l0 b (callX (cfg b) An) 2) [.c .nilsl, .os 1, .c (.int .i64 2), .c (.int .i64 0)] (logH k f [.ptr (.agg [.nilp]) [] 0, .ptr (.agg [.nilp]) [] 0]) = some (.exit 0 [.os 2], logH k f [.ptr (.agg [.nilp]) [] 0, .ptr (.agg [.nilp]) [] 0] ++ [.row 41 32 [.arr 32 .u8 w, .arr 32 .u8 w]]) := by
    rw [loopX_eq]
    simp [p30_l0, logH, hr, hl, a1, nthC_n0, one_max]
    rw [loopX_eq]
    simp [p30_l0, hr, hl, a2, nthC_n1, two_max]
    rw [loopX_eq]
    simp [p30_l0]
  simp only [logH] at e1
  have hk : (cfg b).keepR 30 = false := rfl
  simp [p30, be24, logH, e1, hk]
theorem at_one (b : Bool) (k : Int) (ts : List CV) : fnX (cfg b) An 27 [.ov 0 [] 0, .c (.int .u64 1)] (logH k 2 ts) = some (.tup [.c .nilp, .c (.int .i64 11)], logH k 2 ts) := by
  rw [fnX_eq, p27_eq]
  simp [p27, be24, logH, reachV_undef]
end Go.Fm

