/-
  A part of the proof: PVals.
-/
import Derived.Test.YtjmjijgnbjkpnaaDoorPNum
set_option linter.all false
set_option autoImplicit true
/-
  chain.Vals: the sum of a word, a name and a height.
-/
set_option maxRecDepth 100000
set_option linter.unusedVariables false
set_option linter.unusedSimpArgs false
namespace Go.Fm
open Go Go.Proofs

def valsB : List UInt8 := [118, 97, 108, 115]
theorem num_call (b : Bool) (z : Int) (H : Heap) : callX (cfg b) An 89 [.c (.int .u64 z)] H = some (.c (.sl 1 (bytesAV (lenBytes z))), H) := callX_pure (num_fn b z) rfl rfl (prim_none (by decide)) H
theorem vals_fn (b : Bool) (a : UInt8) (z : Int) : fnX (cfg b) An 33 [.c (.int .u8 (a.toNat : Int)), .c (.int .u64 z)] [] = some (.c (.arr 32 .u8 (dI (shaW (valsB ++ a :: lenBytes z)))), []) := by
  rw [fnX_eq, p33_eq]
  have e := sum_fn b [some valsB, some [a], some (lenBytes z)] (by simp) (by simp) (by simp [catP, pB, valsB, lenBytes])
  have e1 : catP [some valsB, some [a], some (lenBytes z)] = valsB ++ a :: lenBytes z := by simp [catP, pB]
  have e2 : [some valsB, some [a], some (lenBytes z)].map pV = [.sl 1 [.int .u8 118, .int .u8 97, .int .u8 108, .int .u8 115], .sl 1 [.int .u8 (a.toNat : Int)], .sl 1 (bytesAV (lenBytes z))] := rfl
  rw [e1, e2] at e
  have hk : (cfg b).keepA 88 = false := rfl
  have hl : (dI (shaW (valsB ++ a :: lenBytes z))).length = 32 := by simp [dI, shaW_len]
  generalize shaW (valsB ++ a :: lenBytes z) = w at *
  simp [p33, num_call, callX_v (prim_none (b := b) (f := 88) (by decide)), hk, e, hl]
end Go.Fm

