/-
  sha.Sum answers with a digest of the parts joined, part 1.
-/
import Derived.Test.YtjmjijgnbjkpnaaDoorDSha
set_option linter.all false
set_option autoImplicit true
/-
  sha: numbers of 32 bits; turning them.
-/
set_option maxRecDepth 100000
set_option linter.unusedVariables false
set_option linter.unusedSimpArgs false
namespace Go.Fm
open Go Go.Proofs

abbrev W32 := BitVec 32
def wI (w : W32) : Int := (w.toNat : Int)
def wC (w : W32) : CV := .int .u32 (wI w)

theorem wI_lt (w : W32) : 0 ≤ wI w ∧ wI w < 4294967296 := by unfold wI; have := w.isLt; omega
theorem ofInt_wI (w : W32) : BitVec.ofInt 32 (wI w) = w := by unfold wI; simp
theorem wrap_w (x : W32) : IntKind.u32.wrap (wI x) = wI x := by
  have := wI_lt x
  unfold IntKind.wrap
  simp [IntKind.bits, IntKind.signed]
  try omega
theorem wrap_nat (x : W32) : IntKind.u32.wrap (x.toNat : Int) = wI x := wrap_w x
theorem w_or (a b : W32) : iOr .u32 (wI a) (wI b) = wI (a ||| b) := by
  unfold iOr
  rw [show IntKind.u32.bits = 32 from rfl, ofInt_wI, ofInt_wI, wrap_nat]
theorem w_and (a b : W32) : iAnd .u32 (wI a) (wI b) = wI (a &&& b) := by
  unfold iAnd
  rw [show IntKind.u32.bits = 32 from rfl, ofInt_wI, ofInt_wI, wrap_nat]
theorem w_xor (a b : W32) : iXor .u32 (wI a) (wI b) = wI (a ^^^ b) := by
  unfold iXor
  rw [show IntKind.u32.bits = 32 from rfl, ofInt_wI, ofInt_wI, wrap_nat]
theorem w_add (a b : W32) : iAdd .u32 (wI a) (wI b) = wI (a + b) := by
  unfold iAdd IntKind.wrap wI
  simp [IntKind.bits, IntKind.signed, BitVec.toNat_add]
theorem w_shl (a : W32) (n : Nat) (h : n ≤ 32) : iShl .u32 (wI a) (n : Int) = wI (a <<< n) := by
  unfold iShl
  rw [show IntKind.u32.bits = 32 from rfl, Int.toNat_natCast, Nat.min_eq_left h]
  unfold IntKind.wrap wI
  simp [IntKind.bits, IntKind.signed, BitVec.toNat_shiftLeft, Nat.shiftLeft_eq]
theorem w_shr (a : W32) (n : Nat) (h : n ≤ 32) : iShr .u32 (wI a) (n : Int) = wI (a >>> n) := by
  unfold iShr
  rw [show IntKind.u32.bits = 32 from rfl, Int.toNat_natCast, Nat.min_eq_left h]
  unfold wI
  rw [BitVec.toNat_ushiftRight, Nat.shiftRight_eq_div_pow, Int.fdiv_eq_ediv_of_nonneg _ (by exact Int.pow_nonneg (by omega))]
  simp
theorem w_not (a : W32) : iNot .u32 (wI a) = wI (~~~ a) := by
  unfold iNot
  rw [show IntKind.u32.bits = 32 from rfl, ofInt_wI, show (BitVec.ofInt 32 (if IntKind.u32.signed then -1 else IntKind.u32.max)) = BitVec.allOnes 32 from by decide, BitVec.allOnes_xor, wrap_nat]
theorem w_shl24 (a : W32) : iShl .u32 (wI a) 24 = wI (a <<< 24) := w_shl a 24 (by decide)
theorem w_shl16 (a : W32) : iShl .u32 (wI a) 16 = wI (a <<< 16) := w_shl a 16 (by decide)
theorem w_shl8 (a : W32) : iShl .u32 (wI a) 8 = wI (a <<< 8) := w_shl a 8 (by decide)
theorem w_shr3 (a : W32) : iShr .u32 (wI a) 3 = wI (a >>> 3) := w_shr a 3 (by decide)
theorem w_shr10 (a : W32) : iShr .u32 (wI a) 10 = wI (a >>> 10) := w_shr a 10 (by decide)
end Go.Fm

