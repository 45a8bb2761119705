/-
  A part of the proof: PLaw4.
-/
import Derived.Test.YtjmjijgnbjkpnaaDoorPRNode
import Derived.Test.YtjmjijgnbjkpnaaDoorPChain3
set_option linter.all false
set_option autoImplicit true
/-
  Clash of two texts; law 4, ChainApart.
-/
set_option maxRecDepth 100000
set_option linter.unusedVariables false
set_option linter.unusedSimpArgs false
namespace Go.Fm
open Go Go.Proofs

section
variable {b lit : Bool} {x y : AV} {H : Heap}
theorem eqg4c : (cfg b).P.eqGuardType (cfg b).P.depth 4 = false := by kernel_rfl
theorem aeq4c : aeq (cfg b).P 12 4 x y = boolEq x y := aeq_bool (by kernel_rfl)
theorem be4c (h : isIS x y = false) : mBin (cfg b) 4 lit .eql x y H = eqH H false (boolEq x y) := by rw [mBin_eqg eqg4c h, aeq4c]
end
def two (x y : List UInt8) : CV := .sl 1 [.sl 1 (bytesAV x), .sl 1 (bytesAV y)]
/-! CF -/
set_option maxHeartbeats 8000000 in
theorem cl_sums (x y : List UInt8) (w v : List UInt8) (hw : (dI w).length = 32) (hv : (dI v).length = 32)
    (sx : ∀ H, callX (cfg true) An 90 [.c (.sl 1 (bytesAV x))] H = some (.c (.arr 32 .u8 (dI w)), H))
    (sy : ∀ H, callX (cfg true) An 90 [.c (.sl 1 (bytesAV y))] H = some (.c (.arr 32 .u8 (dI v)), H)) :
    loopX 0 (p34_l0 true (callX (cfg true) An) 0) [.c (two x y), .os 0, .c (.int .i64 0)] [.row 41 32 [.arr 32 .u8 (List.replicate 32 0), .arr 32 .u8 (List.replicate 32 0)]] =
      some (.exit 0 [.c (two x y), .os 0], [.row 41 32 [.arr 32 .u8 (dI w), .arr 32 .u8 (dI v)]]) := by
  have a1 : iAdd .i64 0 1 = 1 := by decide
  have a2 : iAdd .i64 1 1 = 2 := by decide
  have s1 : loopX 0 (p34_l0 true (callX (cfg true) An) 0) [.c (two x y), .os 0, .c (.int .i64 2)] [.row 41 32 [.arr 32 .u8 (dI w), .arr 32 .u8 (dI v)]] =
      some (.exit 0 [.c (two x y), .os 0], [.row 41 32 [.arr 32 .u8 (dI w), .arr 32 .u8 (dI v)]]) := by
    rw [loopX_eq]
    simp [p34_l0, two]
  have s2 : loopX 0 (p34_l0 true (callX (cfg true) An) 0) [.c (two x y), .os 0, .c (.int .i64 1)] [.row 41 32 [.arr 32 .u8 (dI w), .arr 32 .u8 (List.replicate 32 0)]] =
      some (.exit 0 [.c (two x y), .os 0], [.row 41 32 [.arr 32 .u8 (dI w), .arr 32 .u8 (dI v)]]) := by
    rw [loopX_eq]
    simp only [two] at s1 ⊢
    simp [p34_l0, sy, hw, hv, a2, nthC_n0, nthC_n1, s1]
  rw [loopX_eq]
  simp only [two, List.reduceReplicate] at s2 ⊢
  simp [p34_l0, sx, hw, hv, a1, nthC_n0, nthC_n1, s2]
def clR (w : List UInt8) : Heap := [.row 41 32 [.arr 32 .u8 (dI w), .arr 32 .u8 (dI w)]]
theorem cl_in0 (cf : CallFn) (x y w : List UInt8) : loopX 0 (p34_l4 true cf 0) [.c (two x y), .os 0, .c (.int .i64 0), .c (.int .i64 0)] (clR w) =
    some (.exit 4 [.c (two x y), .any, .os 0, .c (.int .i64 0)], clR w) := by
  rw [loopX_eq]
  simp only [clR]
  simp [p34_l4]
set_option maxHeartbeats 8000000 in
theorem cl_in1 (cf : CallFn) (x y w : List UInt8) (hw : (dI w).length = 32) (hne : x ≠ y) : loopX 0 (p34_l4 true cf 0) [.c (two x y), .os 0, .c (.int .i64 1), .c (.int .i64 0)] (clR w) =
    some (.ret [.c (two x y), .c (.bool true), .os 0, .c (.int .i64 1)], clR w) := by
  have hb : (y == x) = false := by simp only [beq_eq_false_iff_ne, ne_eq]; exact fun h => hne h.symm
  rw [loopX_eq]
  simp only [clR, two]
  simp [p34_l4, be41, hw, nthC_n0, nthC_n1, BA_toList, hb]
theorem cl_out1 (x y w : List UInt8) (hw : (dI w).length = 32) (hne : x ≠ y) : loopX 0 (p34_l2 true (callX (cfg true) An) 0) [.c (two x y), .os 0, .c (.int .i64 1)] (clR w) =
    some (.ret [.c (.bool true)], clR w) := by
  have e := cl_in1 (callX (cfg true) An) x y w hw hne
  rw [loopX_eq]
  simp only [clR, two] at e ⊢
  simp [p34_l2, e]
theorem cl_out0 (x y w : List UInt8) (hw : (dI w).length = 32) (hne : x ≠ y) : loopX 0 (p34_l2 true (callX (cfg true) An) 0) [.c (two x y), .os 0, .c (.int .i64 0)] (clR w) =
    some (.ret [.c (.bool true)], clR w) := by
  have e := cl_in0 (callX (cfg true) An) x y w
  have e1 := cl_out1 x y w hw hne
  have a1 : iAdd .i64 0 1 = 1 := by decide
  rw [loopX_eq]
  simp only [clR, two] at e e1 ⊢
  simp [p34_l2, e, a1, e1]
theorem clash_two (x y : List UInt8) (hx : x.length ≤ 1000000) (hy : y.length ≤ 1000000) (hs : shaW x = shaW y) (hne : x ≠ y) : fnX (cfg true) An 34 [.c (two x y)] [] = some (.c (.bool true), []) := by
  rw [fnX_eq, p34_eq]
  have sx := rsum_call (some x) (by simp only [pB]; omega)
  have sy := rsum_call (some y) (by simp only [pB]; omega)
  simp only [pB, pVs] at sx sy
  have l1 := len32 (shaW_len x)
  rw [← hs] at sy
  generalize shaW x = w at sx sy l1
  have e0 := cl_sums x y w w l1 l1 sx sy
  have e2 := cl_out0 x y w l1 hne
  simp only [two, clR, List.reduceReplicate] at e0 e2 ⊢
  have h2 : (2 : Int) ≤ (maxLen : Int) := by unfold maxLen; omega
  simp [p34, e0, e2, h2]
/-! ### Eight bytes tell a number -/
theorem byte_at (z : Int) (h0 : 0 ≤ z) (k : Nat) (hk : k ≤ 64) : ((byteOf (iShr .u64 z (k : Int))).toNat : Int) = (z / (2 ^ k : Nat)) % 256 := by
  rw [← wrap_byte]
  unfold iShr IntKind.wrap
  simp only [IntKind.bits, IntKind.signed, Int.toNat_natCast, Nat.min_eq_left hk]
  rw [Int.fdiv_eq_ediv_of_nonneg _ (by exact Int.pow_nonneg (by omega))]
  simp
theorem lenBytes_inj {n m : Int} (hn : 0 ≤ n) (hn2 : n < 18446744073709551616) (hm : 0 ≤ m) (hm2 : m < 18446744073709551616) (h : lenBytes n = lenBytes m) : n = m := by
  simp only [lenBytes, List.cons.injEq, and_true] at h
  obtain ⟨h7, h6, h5, h4, h3, h2, h1, h0⟩ := h
  have b : ∀ (k : Nat), k ≤ 64 → byteOf (iShr .u64 n (k : Int)) = byteOf (iShr .u64 m (k : Int)) → (n / (2 ^ k : Nat)) % 256 = (m / (2 ^ k : Nat)) % 256 := fun k hk e => by
    rw [← byte_at n hn k hk, ← byte_at m hm k hk, e]
  have c7 := b 56 (by decide) h7
  have c6 := b 48 (by decide) h6
  have c5 := b 40 (by decide) h5
  have c4 := b 32 (by decide) h4
  have c3 := b 24 (by decide) h3
  have c2 := b 16 (by decide) h2
  have c1 := b 8 (by decide) h1
  have c0 := b 0 (by decide) h0
  simp only [Nat.reducePow, Nat.pow_zero] at c7 c6 c5 c4 c3 c2 c1 c0
  omega
end Go.Fm

