/-
  sha.Sum answers with a digest of the parts joined, part 2.
-/
import Derived.Test.YtjmjijgnbjkpnaaDoorPSha1
set_option linter.all false
set_option autoImplicit true
/-
  sha: a block's words.
-/
set_option maxRecDepth 100000
set_option linter.unusedVariables false
set_option linter.unusedSimpArgs false
namespace Go.Fm
open Go Go.Proofs

def rotl (x : W32) (s : Nat) : W32 := x <<< s ||| x >>> (32 - s)

theorem prim_none {b : Bool} {f : FuncId} (h : f ≠ 101) : (cfg b).prim f = none := by simp [cfg, h]
theorem frz_f {b : Bool} {t : TypeId} (h : (t == 145 || t == 140 || t == 64) = false) : (cfg b).frz t = false := h
theorem frz_t {b : Bool} {t : TypeId} (h : (t == 145 || t == 140 || t == 64) = true) : (cfg b).frz t = true := h

theorem rot_fn (b : Bool) (x : W32) (k : Int) (s : Nat) (h1 : iAnd .u64 (IntKind.u64.wrap k) 31 = (s : Int)) (h2 : iSub .u64 32 (s : Int) = ((32 - s : Nat) : Int)) (hs : s ≤ 31) :
    fnX (cfg b) An 143 [.c (.int .u32 (wI x)), .c (.int .i64 k)] [] = some (.c (.int .u32 (wI (rotl x s))), []) := by
  rw [fnX_eq, p143_eq]
  have e1 := w_shl x s (by omega)
  have e2 := w_shr x (32 - s) (by omega)
  obtain ⟨m, hm⟩ : ∃ m, m = 32 - s := ⟨_, rfl⟩
  rw [← hm] at h2 e2
  have n1 : ¬ ((s : Int) < 0) := by omega
  have n2 : ¬ ((m : Int) < 0) := by omega
  unfold rotl
  rw [← hm]
  simp [p143, h1, h2, n1, n2, e1, e2, w_or]

theorem rot_call (b : Bool) (x : W32) (H : Heap) (k : Int) (s : Nat) (h1 : iAnd .u64 (IntKind.u64.wrap k) 31 = (s : Int)) (h2 : iSub .u64 32 (s : Int) = ((32 - s : Nat) : Int)) (hs : s ≤ 31) :
    callX (cfg b) An 143 [.c (.int .u32 (wI x)), .c (.int .i64 k)] H = some (.c (.int .u32 (wI (rotl x s))), H) :=
  callX_pure (rot_fn b x k s h1 h2 hs) rfl rfl (prim_none (by decide)) H

section
variable (b : Bool) (x : W32) (H : Heap)
theorem rot7 : callX (cfg b) An 143 [.c (.int .u32 (wI x)), .c (.int .i64 (-7))] H = some (.c (.int .u32 (wI (rotl x 25))), H) := rot_call b x H (-7) 25 (by decide) (by decide) (by decide)
theorem rot18 : callX (cfg b) An 143 [.c (.int .u32 (wI x)), .c (.int .i64 (-18))] H = some (.c (.int .u32 (wI (rotl x 14))), H) := rot_call b x H (-18) 14 (by decide) (by decide) (by decide)
theorem rot17 : callX (cfg b) An 143 [.c (.int .u32 (wI x)), .c (.int .i64 (-17))] H = some (.c (.int .u32 (wI (rotl x 15))), H) := rot_call b x H (-17) 15 (by decide) (by decide) (by decide)
theorem rot19 : callX (cfg b) An 143 [.c (.int .u32 (wI x)), .c (.int .i64 (-19))] H = some (.c (.int .u32 (wI (rotl x 13))), H) := rot_call b x H (-19) 13 (by decide) (by decide) (by decide)
theorem rot6 : callX (cfg b) An 143 [.c (.int .u32 (wI x)), .c (.int .i64 (-6))] H = some (.c (.int .u32 (wI (rotl x 26))), H) := rot_call b x H (-6) 26 (by decide) (by decide) (by decide)
theorem rot11 : callX (cfg b) An 143 [.c (.int .u32 (wI x)), .c (.int .i64 (-11))] H = some (.c (.int .u32 (wI (rotl x 21))), H) := rot_call b x H (-11) 21 (by decide) (by decide) (by decide)
theorem rot25 : callX (cfg b) An 143 [.c (.int .u32 (wI x)), .c (.int .i64 (-25))] H = some (.c (.int .u32 (wI (rotl x 7))), H) := rot_call b x H (-25) 7 (by decide) (by decide) (by decide)
theorem rot2 : callX (cfg b) An 143 [.c (.int .u32 (wI x)), .c (.int .i64 (-2))] H = some (.c (.int .u32 (wI (rotl x 30))), H) := rot_call b x H (-2) 30 (by decide) (by decide) (by decide)
theorem rot13 : callX (cfg b) An 143 [.c (.int .u32 (wI x)), .c (.int .i64 (-13))] H = some (.c (.int .u32 (wI (rotl x 19))), H) := rot_call b x H (-13) 19 (by decide) (by decide) (by decide)
theorem rot22 : callX (cfg b) An 143 [.c (.int .u32 (wI x)), .c (.int .i64 (-22))] H = some (.c (.int .u32 (wI (rotl x 10))), H) := rot_call b x H (-22) 10 (by decide) (by decide) (by decide)
end

/-! ### The first sixteen -/
def bW (x : UInt8) : W32 := BitVec.ofNat 32 x.toNat
theorem conv_b (x : UInt8) : IntKind.u32.wrap (x.toNat : Int) = wI (bW x) := by
  have := x.toNat_lt
  unfold bW wI IntKind.wrap
  simp [IntKind.bits, IntKind.signed]
  omega
def word4 (b0 b1 b2 b3 : UInt8) : W32 := bW b0 <<< 24 ||| bW b1 <<< 16 ||| bW b2 <<< 8 ||| bW b3
def wordAt (bs : List UInt8) (i : Nat) : W32 := word4 (nthB bs (4 * i)) (nthB bs (4 * i + 1)) (nthB bs (4 * i + 2)) (nthB bs (4 * i + 3))

theorem i64_small {z : Int} (h0 : 0 ≤ z) (h1 : z < 4611686018427387904) : IntKind.i64.wrap z = z := by
  unfold IntKind.wrap
  simp only [IntKind.bits, IntKind.signed]
  have : z % 2 ^ 64 = z := by omega
  simp [this]
  omega

set_option maxHeartbeats 4000000 in
theorem l0_step (b : Bool) (cf : CallFn) (hv : CV) (bs : List UInt8) (hb : 64 ≤ bs.length) (hm : bs.length ≤ maxLen) (ws : List W32) (hw : ws.length = 64) (i : Nat) (hi : i < 16) :
    p121_l0 b cf 1 [.ov 0 [] 0, .c (.sl 1 (bytesAV bs)), .ov 1 [] 0, .c (.int .i64 i)] [.var 193 (.c hv), .var 199 (.c (.arr 64 .u32 (ws.map wI)))] =
      some (.cont [.ov 0 [] 0, .c (.sl 1 (bytesAV bs)), .ov 1 [] 0, .c (.int .i64 ((i + 1 : Nat) : Int))], [.var 193 (.c hv), .var 199 (.c (.arr 64 .u32 ((ws.set i (wordAt bs i)).map wI)))]) := by
  have c0 : decide ((i : Int) < 16) = true := by simp; omega
  obtain ⟨j0, e0⟩ : ∃ j, j = 4 * i := ⟨_, rfl⟩
  obtain ⟨j1, e1⟩ : ∃ j, j = 4 * i + 1 := ⟨_, rfl⟩
  obtain ⟨j2, e2⟩ : ∃ j, j = 4 * i + 2 := ⟨_, rfl⟩
  obtain ⟨j3, e3⟩ : ∃ j, j = 4 * i + 3 := ⟨_, rfl⟩
  have a0 : iMul .i64 4 (i : Int) = (j0 : Int) := by first | (unfold iMul; rw [i64_small (by omega) (by omega)]; omega) | (unfold iAdd; rw [i64_small (by omega) (by omega)]; omega)
  have a1 : iAdd .i64 (j0 : Int) 1 = (j1 : Int) := by first | (unfold iMul; rw [i64_small (by omega) (by omega)]; omega) | (unfold iAdd; rw [i64_small (by omega) (by omega)]; omega)
  have a2 : iAdd .i64 (j0 : Int) 2 = (j2 : Int) := by first | (unfold iMul; rw [i64_small (by omega) (by omega)]; omega) | (unfold iAdd; rw [i64_small (by omega) (by omega)]; omega)
  have a3 : iAdd .i64 (j0 : Int) 3 = (j3 : Int) := by first | (unfold iMul; rw [i64_small (by omega) (by omega)]; omega) | (unfold iAdd; rw [i64_small (by omega) (by omega)]; omega)
  have a4 : iAdd .i64 (i : Int) 1 = ((i + 1 : Nat) : Int) := by first | (unfold iMul; rw [i64_small (by omega) (by omega)]; omega) | (unfold iAdd; rw [i64_small (by omega) (by omega)]; omega)
  have b0 : j0 < bs.length := by omega
  have b1 : j1 < bs.length := by omega
  have b2 : j2 < bs.length := by omega
  have b3 : j3 < bs.length := by omega
  have b4 : i < 64 := by omega
  have hlt : (i : Int) < 64 := by omega
  have hW : wordAt bs i = bW (nthB bs j0) <<< 24 ||| bW (nthB bs j1) <<< 16 ||| bW (nthB bs j2) <<< 8 ||| bW (nthB bs j3) := by
    subst e0 e1 e2 e3; rfl
  simp (maxSteps := 400000) [p121_l0, c0, a0, a1, a2, a3, a4, b0, b1, b2, b3, b4, hlt, hw, conv_b, w_shl24, w_shl16, w_shl8, w_or, hW]
end Go.Fm

