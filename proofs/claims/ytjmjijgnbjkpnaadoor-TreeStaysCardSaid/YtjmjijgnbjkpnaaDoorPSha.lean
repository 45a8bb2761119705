/-
  A part of the proof: PSha.
-/
import Derived.Test.YtjmjijgnbjkpnaaDoorDSha
set_option linter.all false
set_option autoImplicit true
/-
  sha: numbers of 32 bits; turning them.
-/
set_option maxRecDepth 100000
set_option linter.unusedVariables false
set_option linter.unusedSimpArgs false
namespace Go.Fm
open Go Go.Proofs
abbrev W32 := BitVec 32
def wI (w : W32) : Int := (w.toNat : Int)
theorem wI_lt (w : W32) : 0 ≤ wI w ∧ wI w < 4294967296 := by unfold wI; have := w.isLt; omega
theorem ofInt_wI (w : W32) : BitVec.ofInt 32 (wI w) = w := by unfold wI; simp
theorem wrap_w (x : W32) : IntKind.u32.wrap (wI x) = wI x := by
  have := wI_lt x
  unfold IntKind.wrap
  simp [IntKind.bits, IntKind.signed]
  try omega
theorem wrap_nat (x : W32) : IntKind.u32.wrap (x.toNat : Int) = wI x := wrap_w x
theorem w_or (a b : W32) : iOr .u32 (wI a) (wI b) = wI (a ||| b) := by
  unfold iOr
  rw [show IntKind.u32.bits = 32 from rfl, ofInt_wI, ofInt_wI, wrap_nat]
theorem w_and (a b : W32) : iAnd .u32 (wI a) (wI b) = wI (a &&& b) := by
  unfold iAnd
  rw [show IntKind.u32.bits = 32 from rfl, ofInt_wI, ofInt_wI, wrap_nat]
theorem w_xor (a b : W32) : iXor .u32 (wI a) (wI b) = wI (a ^^^ b) := by
  unfold iXor
  rw [show IntKind.u32.bits = 32 from rfl, ofInt_wI, ofInt_wI, wrap_nat]
theorem w_add (a b : W32) : iAdd .u32 (wI a) (wI b) = wI (a + b) := by
  unfold iAdd IntKind.wrap wI
  simp [IntKind.bits, IntKind.signed, BitVec.toNat_add]
theorem w_shl (a : W32) (n : Nat) (h : n ≤ 32) : iShl .u32 (wI a) (n : Int) = wI (a <<< n) := by
  unfold iShl
  rw [show IntKind.u32.bits = 32 from rfl, Int.toNat_natCast, Nat.min_eq_left h]
  unfold IntKind.wrap wI
  simp [IntKind.bits, IntKind.signed, BitVec.toNat_shiftLeft, Nat.shiftLeft_eq]
theorem w_shr (a : W32) (n : Nat) (h : n ≤ 32) : iShr .u32 (wI a) (n : Int) = wI (a >>> n) := by
  unfold iShr
  rw [show IntKind.u32.bits = 32 from rfl, Int.toNat_natCast, Nat.min_eq_left h]
  unfold wI
  rw [BitVec.toNat_ushiftRight, Nat.shiftRight_eq_div_pow, Int.fdiv_eq_ediv_of_nonneg _ (by exact Int.pow_nonneg (by omega))]
  simp
theorem w_not (a : W32) : iNot .u32 (wI a) = wI (~~~ a) := by
  unfold iNot
  rw [show IntKind.u32.bits = 32 from rfl, ofInt_wI, show (BitVec.ofInt 32 (if IntKind.u32.signed then -1 else IntKind.u32.max)) = BitVec.allOnes 32 from by decide, BitVec.allOnes_xor, wrap_nat]
theorem w_shl24 (a : W32) : iShl .u32 (wI a) 24 = wI (a <<< 24) := w_shl a 24 (by decide)
theorem w_shl16 (a : W32) : iShl .u32 (wI a) 16 = wI (a <<< 16) := w_shl a 16 (by decide)
theorem w_shl8 (a : W32) : iShl .u32 (wI a) 8 = wI (a <<< 8) := w_shl a 8 (by decide)
theorem w_shr3 (a : W32) : iShr .u32 (wI a) 3 = wI (a >>> 3) := w_shr a 3 (by decide)
theorem w_shr10 (a : W32) : iShr .u32 (wI a) 10 = wI (a >>> 10) := w_shr a 10 (by decide)
end Go.Fm
/-
  sha: a block's words.
-/
set_option maxRecDepth 100000
set_option linter.unusedVariables false
set_option linter.unusedSimpArgs false
namespace Go.Fm
open Go Go.Proofs
def rotl (x : W32) (s : Nat) : W32 := x <<< s ||| x >>> (32 - s)
theorem prim_none {b : Bool} {f : FuncId} (h : primSet f = false) : (cfg b).prim f = none := by
  simp only [primSet, Bool.or_eq_false_iff, beq_eq_false_iff_ne, ne_eq] at h
  simp [cfg, h]
theorem frz_f {b : Bool} {t : TypeId} (h : (t == 145 || t == 140 || t == 64) = false) : (cfg b).frz t = false := h
theorem rot_fn (b : Bool) (x : W32) (k : Int) (s : Nat) (h1 : iAnd .u64 (IntKind.u64.wrap k) 31 = (s : Int)) (h2 : iSub .u64 32 (s : Int) = ((32 - s : Nat) : Int)) (hs : s ≤ 31) :
    fnX (cfg b) An 143 [.c (.int .u32 (wI x)), .c (.int .i64 k)] [] = some (.c (.int .u32 (wI (rotl x s))), []) := by
  rw [fnX_eq, p143_eq]
  have e1 := w_shl x s (by omega)
  have e2 := w_shr x (32 - s) (by omega)
  obtain ⟨m, hm⟩ : ∃ m, m = 32 - s := ⟨_, rfl⟩
  rw [← hm] at h2 e2
  have n1 : ¬ ((s : Int) < 0) := by omega
  have n2 : ¬ ((m : Int) < 0) := by omega
  unfold rotl
  rw [← hm]
  simp [p143, h1, h2, n1, n2, e1, e2, w_or]
theorem rot_call (b : Bool) (x : W32) (H : Heap) (k : Int) (s : Nat) (h1 : iAnd .u64 (IntKind.u64.wrap k) 31 = (s : Int)) (h2 : iSub .u64 32 (s : Int) = ((32 - s : Nat) : Int)) (hs : s ≤ 31) :
    callX (cfg b) An 143 [.c (.int .u32 (wI x)), .c (.int .i64 k)] H = some (.c (.int .u32 (wI (rotl x s))), H) :=
  callX_pure (rot_fn b x k s h1 h2 hs) rfl rfl (prim_none (by decide)) H
section
variable (b : Bool) (x : W32) (H : Heap)
theorem rot7 : callX (cfg b) An 143 [.c (.int .u32 (wI x)), .c (.int .i64 (-7))] H = some (.c (.int .u32 (wI (rotl x 25))), H) := rot_call b x H (-7) 25 (by decide) (by decide) (by decide)
theorem rot18 : callX (cfg b) An 143 [.c (.int .u32 (wI x)), .c (.int .i64 (-18))] H = some (.c (.int .u32 (wI (rotl x 14))), H) := rot_call b x H (-18) 14 (by decide) (by decide) (by decide)
theorem rot17 : callX (cfg b) An 143 [.c (.int .u32 (wI x)), .c (.int .i64 (-17))] H = some (.c (.int .u32 (wI (rotl x 15))), H) := rot_call b x H (-17) 15 (by decide) (by decide) (by decide)
theorem rot19 : callX (cfg b) An 143 [.c (.int .u32 (wI x)), .c (.int .i64 (-19))] H = some (.c (.int .u32 (wI (rotl x 13))), H) := rot_call b x H (-19) 13 (by decide) (by decide) (by decide)
theorem rot6 : callX (cfg b) An 143 [.c (.int .u32 (wI x)), .c (.int .i64 (-6))] H = some (.c (.int .u32 (wI (rotl x 26))), H) := rot_call b x H (-6) 26 (by decide) (by decide) (by decide)
theorem rot11 : callX (cfg b) An 143 [.c (.int .u32 (wI x)), .c (.int .i64 (-11))] H = some (.c (.int .u32 (wI (rotl x 21))), H) := rot_call b x H (-11) 21 (by decide) (by decide) (by decide)
theorem rot25 : callX (cfg b) An 143 [.c (.int .u32 (wI x)), .c (.int .i64 (-25))] H = some (.c (.int .u32 (wI (rotl x 7))), H) := rot_call b x H (-25) 7 (by decide) (by decide) (by decide)
theorem rot2 : callX (cfg b) An 143 [.c (.int .u32 (wI x)), .c (.int .i64 (-2))] H = some (.c (.int .u32 (wI (rotl x 30))), H) := rot_call b x H (-2) 30 (by decide) (by decide) (by decide)
theorem rot13 : callX (cfg b) An 143 [.c (.int .u32 (wI x)), .c (.int .i64 (-13))] H = some (.c (.int .u32 (wI (rotl x 19))), H) := rot_call b x H (-13) 19 (by decide) (by decide) (by decide)
theorem rot22 : callX (cfg b) An 143 [.c (.int .u32 (wI x)), .c (.int .i64 (-22))] H = some (.c (.int .u32 (wI (rotl x 10))), H) := rot_call b x H (-22) 10 (by decide) (by decide) (by decide)
end
/-! ### The first sixteen -/
def bW (x : UInt8) : W32 := BitVec.ofNat 32 x.toNat
theorem conv_b (x : UInt8) : IntKind.u32.wrap (x.toNat : Int) = wI (bW x) := by
  have := x.toNat_lt
  unfold bW wI IntKind.wrap
  simp [IntKind.bits, IntKind.signed]
  omega
def word4 (b0 b1 b2 b3 : UInt8) : W32 := bW b0 <<< 24 ||| bW b1 <<< 16 ||| bW b2 <<< 8 ||| bW b3
def wordAt (bs : List UInt8) (i : Nat) : W32 := word4 (nthB bs (4 * i)) (nthB bs (4 * i + 1)) (nthB bs (4 * i + 2)) (nthB bs (4 * i + 3))
theorem i64_small {z : Int} (h0 : 0 ≤ z) (h1 : z < 4611686018427387904) : IntKind.i64.wrap z = z := by
  unfold IntKind.wrap
  simp only [IntKind.bits, IntKind.signed]
  have : z % 2 ^ 64 = z := by omega
  simp [this]
  omega
set_option maxHeartbeats 4000000 in
theorem l0_step (b : Bool) (cf : CallFn) (hv : CV) (bs : List UInt8) (hb : 64 ≤ bs.length) (hm : bs.length ≤ maxLen) (ws : List W32) (hw : ws.length = 64) (i : Nat) (hi : i < 16) :
    p121_l0 b cf 1 [.ov 0 [] 0, .c (.sl 1 (bytesAV bs)), .ov 1 [] 0, .c (.int .i64 i)] [.var 193 (.c hv), .var 199 (.c (.arr 64 .u32 (ws.map wI)))] =
      some (.cont [.ov 0 [] 0, .c (.sl 1 (bytesAV bs)), .ov 1 [] 0, .c (.int .i64 ((i + 1 : Nat) : Int))], [.var 193 (.c hv), .var 199 (.c (.arr 64 .u32 ((ws.set i (wordAt bs i)).map wI)))]) := by
  have c0 : decide ((i : Int) < 16) = true := by simp; omega
  obtain ⟨j0, e0⟩ : ∃ j, j = 4 * i := ⟨_, rfl⟩
  obtain ⟨j1, e1⟩ : ∃ j, j = 4 * i + 1 := ⟨_, rfl⟩
  obtain ⟨j2, e2⟩ : ∃ j, j = 4 * i + 2 := ⟨_, rfl⟩
  obtain ⟨j3, e3⟩ : ∃ j, j = 4 * i + 3 := ⟨_, rfl⟩
  have a0 : iMul .i64 4 (i : Int) = (j0 : Int) := by first | (unfold iMul; rw [i64_small (by omega) (by omega)]; omega) | (unfold iAdd; rw [i64_small (by omega) (by omega)]; omega)
  have a1 : iAdd .i64 (j0 : Int) 1 = (j1 : Int) := by first | (unfold iMul; rw [i64_small (by omega) (by omega)]; omega) | (unfold iAdd; rw [i64_small (by omega) (by omega)]; omega)
  have a2 : iAdd .i64 (j0 : Int) 2 = (j2 : Int) := by first | (unfold iMul; rw [i64_small (by omega) (by omega)]; omega) | (unfold iAdd; rw [i64_small (by omega) (by omega)]; omega)
  have a3 : iAdd .i64 (j0 : Int) 3 = (j3 : Int) := by first | (unfold iMul; rw [i64_small (by omega) (by omega)]; omega) | (unfold iAdd; rw [i64_small (by omega) (by omega)]; omega)
  have a4 : iAdd .i64 (i : Int) 1 = ((i + 1 : Nat) : Int) := by first | (unfold iMul; rw [i64_small (by omega) (by omega)]; omega) | (unfold iAdd; rw [i64_small (by omega) (by omega)]; omega)
  have b0 : j0 < bs.length := by omega
  have b1 : j1 < bs.length := by omega
  have b2 : j2 < bs.length := by omega
  have b3 : j3 < bs.length := by omega
  have b4 : i < 64 := by omega
  have hlt : (i : Int) < 64 := by omega
  have hW : wordAt bs i = bW (nthB bs j0) <<< 24 ||| bW (nthB bs j1) <<< 16 ||| bW (nthB bs j2) <<< 8 ||| bW (nthB bs j3) := by
    subst e0 e1 e2 e3; rfl
  simp (maxSteps := 400000) [p121_l0, c0, a0, a1, a2, a3, a4, b0, b1, b2, b3, b4, hlt, hw, conv_b, w_shl24, w_shl16, w_shl8, w_or, hW]
end Go.Fm
/-
  sha: one round of each other loop of the block.
-/
set_option maxRecDepth 100000
set_option linter.unusedVariables false
set_option linter.unusedSimpArgs false
namespace Go.Fm
open Go Go.Proofs
def nthW (ws : List W32) (i : Nat) : W32 := ws.getD i 0
def sigA (x : W32) : W32 := rotl x 25 ^^^ rotl x 14 ^^^ x >>> 3
def sigB (x : W32) : W32 := rotl x 15 ^^^ rotl x 13 ^^^ x >>> 10
def nextW (ws : List W32) (i : Nat) : W32 := nthW ws (i - 16) + sigA (nthW ws (i - 15)) + nthW ws (i - 7) + sigB (nthW ws (i - 2))
theorem nthI_w (ws : List W32) (i : Nat) : nthI (ws.map wI) i = wI (nthW ws i) := by
  unfold nthI nthW
  rw [List.getD_eq_getElem?_getD, List.getD_eq_getElem?_getD, List.getElem?_map]
  cases ws[i]? <;> rfl
theorem sub_nat (i k : Nat) (hk : k ≤ i) (hi : i < 1000000) : iSub .i64 (i : Int) (k : Int) = ((i - k : Nat) : Int) := by
  unfold iSub; rw [i64_small (by omega) (by omega)]; omega
theorem add1_nat (i : Nat) (hi : i < 1000000) : iAdd .i64 (i : Int) 1 = ((i + 1 : Nat) : Int) := by
  unfold iAdd; rw [i64_small (by omega) (by omega)]; omega
set_option maxHeartbeats 4000000 in
theorem l2_step (b : Bool) (hv : CV) (ws : List W32) (hw : ws.length = 64) (i : Nat) (hl : 16 ≤ i) (hi : i < 64) :
    p121_l2 b (callX (cfg b) An) 1 [.ov 0 [] 0, .ov 1 [] 0, .c (.int .i64 i)] [.var 193 (.c hv), .var 199 (.c (.arr 64 .u32 (ws.map wI)))] =
      some (.cont [.ov 0 [] 0, .ov 1 [] 0, .c (.int .i64 ((i + 1 : Nat) : Int))], [.var 193 (.c hv), .var 199 (.c (.arr 64 .u32 ((ws.set i (nextW ws i)).map wI)))]) := by
  have c0 : decide ((i : Int) < 64) = true := by simp; omega
  obtain ⟨j15, e15⟩ : ∃ j, j = i - 15 := ⟨_, rfl⟩
  obtain ⟨j2, e2⟩ : ∃ j, j = i - 2 := ⟨_, rfl⟩
  obtain ⟨j16, e16⟩ : ∃ j, j = i - 16 := ⟨_, rfl⟩
  obtain ⟨j7, e7⟩ : ∃ j, j = i - 7 := ⟨_, rfl⟩
  have a15 : iSub .i64 (i : Int) 15 = (j15 : Int) := e15 ▸ sub_nat i 15 (by omega) (by omega)
  have a2 : iSub .i64 (i : Int) 2 = (j2 : Int) := e2 ▸ sub_nat i 2 (by omega) (by omega)
  have a16 : iSub .i64 (i : Int) 16 = (j16 : Int) := e16 ▸ sub_nat i 16 (by omega) (by omega)
  have a7 : iSub .i64 (i : Int) 7 = (j7 : Int) := e7 ▸ sub_nat i 7 (by omega) (by omega)
  have a4 := add1_nat i (by omega)
  have b15 : j15 < 64 := by omega
  have b2 : j2 < 64 := by omega
  have b16 : j16 < 64 := by omega
  have b7 : j7 < 64 := by omega
  have d15 : (j15 : Int) < 64 := by omega
  have d2 : (j2 : Int) < 64 := by omega
  have d16 : (j16 : Int) < 64 := by omega
  have d7 : (j7 : Int) < 64 := by omega
  have di : (i : Int) < 64 := by omega
  have hW : nextW ws i = nthW ws j16 + sigA (nthW ws j15) + nthW ws j7 + sigB (nthW ws j2) := by
    subst e15 e2 e16 e7; rfl
  simp (maxSteps := 400000) [p121_l2, c0, a15, a2, a16, a7, a4, b15, b2, b16, b7, hi, hw, d15, d2, d16, d7, di, nthI_w, rot7, rot18, rot17, rot19, w_xor, w_add, w_shr3, w_shr10, hW, sigA, sigB]
structure St where
  (a b c d e f g h : W32)
def St.l (s : St) : List W32 := [s.a, s.b, s.c, s.d, s.e, s.f, s.g, s.h]
def St.v (s : St) : CV := .arr 8 .u32 [wI s.a, wI s.b, wI s.c, wI s.d, wI s.e, wI s.f, wI s.g, wI s.h]
def kW : List W32 := words.map (BitVec.ofInt 32)
theorem kW_words : kW.map wI = words := by decide
theorem nthI_k (i : Nat) : nthI words i = wI (nthW kW i) := by rw [← kW_words, nthI_w]
theorem words_len : words.length = 64 := by decide
def t1W (s : St) (k w : W32) : W32 := s.h + (rotl s.e 26 ^^^ rotl s.e 21 ^^^ rotl s.e 7) + ((s.e &&& s.f) ^^^ (~~~ s.e &&& s.g)) + k + w
def t2W (s : St) : W32 := (rotl s.a 30 ^^^ rotl s.a 19 ^^^ rotl s.a 10) + ((s.a &&& s.b) ^^^ (s.a &&& s.c) ^^^ (s.b &&& s.c))
def St.next (s : St) (k w : W32) : St := ⟨t1W s k w + t2W s, s.a, s.b, s.c, s.d + t1W s k w, s.e, s.f, s.g⟩
section
variable {a0 a1 a2 a3 a4 a5 a6 a7 : Int} {l : List Int}
theorem nthI_n0 : nthI (a0 :: l) 0 = a0 := (rfl)
theorem nthI_n1 : nthI (a0 :: a1 :: l) 1 = a1 := (rfl)
theorem nthI_n2 : nthI (a0 :: a1 :: a2 :: l) 2 = a2 := (rfl)
theorem nthI_n3 : nthI (a0 :: a1 :: a2 :: a3 :: l) 3 = a3 := (rfl)
theorem nthI_n4 : nthI (a0 :: a1 :: a2 :: a3 :: a4 :: l) 4 = a4 := (rfl)
theorem nthI_n5 : nthI (a0 :: a1 :: a2 :: a3 :: a4 :: a5 :: l) 5 = a5 := (rfl)
theorem nthI_n6 : nthI (a0 :: a1 :: a2 :: a3 :: a4 :: a5 :: a6 :: l) 6 = a6 := (rfl)
theorem nthI_n7 : nthI (a0 :: a1 :: a2 :: a3 :: a4 :: a5 :: a6 :: a7 :: l) 7 = a7 := (rfl)
end
set_option maxHeartbeats 8000000 in
theorem l4_step (b : Bool) (hv : CV) (ws : List W32) (hw : ws.length = 64) (s : St) (i : Nat) (hi : i < 64) :
    p121_l4 b (callX (cfg b) An) 1 [.ov 0 [] 0, .ov 1 [] 0, .ov 2 [] 0, .c (.arr 64 .u32 words), .c (.int .i64 i)] [.var 193 (.c hv), .var 199 (.c (.arr 64 .u32 (ws.map wI))), .var 193 (.c s.v)] =
      some (.cont [.ov 0 [] 0, .ov 1 [] 0, .ov 2 [] 0, .c (.arr 64 .u32 words), .c (.int .i64 ((i + 1 : Nat) : Int))], [.var 193 (.c hv), .var 199 (.c (.arr 64 .u32 (ws.map wI))), .var 193 (.c (s.next (nthW kW i) (nthW ws i)).v)]) := by
  have c0 : decide ((i : Int) < 64) = true := by simp; omega
  have a4 := add1_nat i (by omega)
  have di : (i : Int) < 64 := by omega
  obtain ⟨s1, s2, s3, s4, s5, s6, s7, s8⟩ := s
  obtain ⟨T1, hT1⟩ : ∃ T, T = t1W ⟨s1, s2, s3, s4, s5, s6, s7, s8⟩ (nthW kW i) (nthW ws i) := ⟨_, rfl⟩
  obtain ⟨T2, hT2⟩ : ∃ T, T = t2W ⟨s1, s2, s3, s4, s5, s6, s7, s8⟩ := ⟨_, rfl⟩
  rw [St.next, ← hT1, ← hT2]
  simp only [t1W] at hT1
  simp only [t2W] at hT2
  simp (maxSteps := 400000) [p121_l4, c0, a4, hi, di, hw, nthI_w, nthI_k, words_len, rot6, rot11, rot25, rot2, rot13, rot22, w_xor, w_and, w_not, w_add, St.v, nthI_n0, nthI_n1, nthI_n2, nthI_n3, nthI_n4, nthI_n5, nthI_n6, nthI_n7, ← hT1, ← hT2]
end Go.Fm
/-
  sha: the block as a whole.
-/
set_option maxRecDepth 100000
set_option linter.unusedVariables false
set_option linter.unusedSimpArgs false
namespace Go.Fm
open Go Go.Proofs
set_option maxHeartbeats 4000000 in
theorem l6_step (b : Bool) (cf : CallFn) (hs vs : List W32) (hw : hs.length = 8) (hv : vs.length = 8) (i : Nat) (hi : i < 8) :
    p121_l6 b cf 1 [.ov 0 [] 0, .ov 1 [] 0, .c (.int .i64 i)] [.var 193 (.c (.arr 8 .u32 (hs.map wI))), .var 193 (.c (.arr 8 .u32 (vs.map wI)))] =
      some (.cont [.ov 0 [] 0, .ov 1 [] 0, .c (.int .i64 ((i + 1 : Nat) : Int))], [.var 193 (.c (.arr 8 .u32 ((hs.set i (nthW hs i + nthW vs i)).map wI))), .var 193 (.c (.arr 8 .u32 (vs.map wI)))]) := by
  have c0 : decide ((i : Int) < 8) = true := by simp; omega
  have a4 := add1_nat i (by omega)
  have di : (i : Int) < 8 := by omega
  simp (maxSteps := 400000) [p121_l6, c0, a4, hi, di, hw, hv, nthI_w, w_add]
/-! ### Loops -/
theorem loopX_gc {k : Nat} {step : List AV → Heap → Option (LStep × Heap)} {s s1 : List AV} {H H1 : Heap} (h : gcL k s H = some (s1, H1)) (h1 : gcL k s1 H1 = some (s1, H1)) :
    loopX k step s H = loopX k step s1 H1 := by
  rw [loopX_eq, loopX_eq (s := s1), h, h1]
def l0W (bs : List UInt8) : Nat → Nat → List W32 → List W32
  | 0, _, ws => ws
  | n + 1, i, ws => l0W bs n (i + 1) (ws.set i (wordAt bs i))
theorem l0W_len (bs : List UInt8) : ∀ (n i : Nat) (ws : List W32), (l0W bs n i ws).length = ws.length
  | 0, _, _ => rfl
  | n + 1, i, ws => by rw [l0W, l0W_len]; simp
def l2W : Nat → Nat → List W32 → List W32
  | 0, _, ws => ws
  | n + 1, i, ws => l2W n (i + 1) (ws.set i (nextW ws i))
theorem l2W_len : ∀ (n i : Nat) (ws : List W32), (l2W n i ws).length = ws.length
  | 0, _, _ => rfl
  | n + 1, i, ws => by rw [l2W, l2W_len]; simp
def l4W (ws : List W32) : Nat → Nat → St → St
  | 0, _, s => s
  | n + 1, i, s => l4W ws n (i + 1) (s.next (nthW kW i) (nthW ws i))
def l6W (vs : List W32) : Nat → Nat → List W32 → List W32
  | 0, _, hs => hs
  | n + 1, i, hs => l6W vs n (i + 1) (hs.set i (nthW hs i + nthW vs i))
theorem l0_run (b : Bool) (cf : CallFn) (hv : CV) (bs : List UInt8) (hb : 64 ≤ bs.length) (hm : bs.length ≤ maxLen) : ∀ (n i : Nat) (ws : List W32), ws.length = 64 → i + n = 16 →
    loopX 1 (p121_l0 b cf 1) [.ov 0 [] 0, .c (.sl 1 (bytesAV bs)), .ov 1 [] 0, .c (.int .i64 i)] [.var 193 (.c hv), .var 199 (.c (.arr 64 .u32 (ws.map wI)))] =
      some (.exit 0 [.ov 0 [] 0, .ov 1 [] 0], [.var 193 (.c hv), .var 199 (.c (.arr 64 .u32 ((l0W bs n i ws).map wI)))])
  | 0, i, ws, hw, hi => by
    rw [loopX_eq]
    have c0 : decide ((i : Int) < 16) = false := by simp; omega
    simp [p121_l0, c0, l0W]
  | n + 1, i, ws, hw, hi => by
    rw [loopX_eq]
    have := l0_step b cf hv bs hb hm ws hw i (by omega)
    simp [this]
    have := l0_run b cf hv bs hb hm n (i + 1) (ws.set i (wordAt bs i)) (by simpa) (by omega)
    simp at this
    exact this
theorem l2_run (b : Bool) (hv : CV) : ∀ (n i : Nat) (ws : List W32), ws.length = 64 → 16 ≤ i → i + n = 64 →
    loopX 1 (p121_l2 b (callX (cfg b) An) 1) [.ov 0 [] 0, .ov 1 [] 0, .c (.int .i64 i)] [.var 193 (.c hv), .var 199 (.c (.arr 64 .u32 (ws.map wI)))] =
      some (.exit 2 [.ov 0 [] 0, .ov 1 [] 0], [.var 193 (.c hv), .var 199 (.c (.arr 64 .u32 ((l2W n i ws).map wI)))])
  | 0, i, ws, hw, hl, hi => by
    rw [loopX_eq]
    have c0 : decide ((i : Int) < 64) = false := by simp; omega
    simp [p121_l2, c0, l2W]
  | n + 1, i, ws, hw, hl, hi => by
    rw [loopX_eq]
    have := l2_step b hv ws hw i hl (by omega)
    simp [this]
    have := l2_run b hv n (i + 1) (ws.set i (nextW ws i)) (by simpa) (by omega) (by omega)
    simp at this
    exact this
theorem l4_run (b : Bool) (hv : CV) (ws : List W32) (hw : ws.length = 64) : ∀ (n i : Nat) (s : St), i + n = 64 →
    loopX 1 (p121_l4 b (callX (cfg b) An) 1) [.ov 0 [] 0, .ov 1 [] 0, .ov 2 [] 0, .c (.arr 64 .u32 words), .c (.int .i64 i)] [.var 193 (.c hv), .var 199 (.c (.arr 64 .u32 (ws.map wI))), .var 193 (.c s.v)] =
      some (.exit 4 [.ov 0 [] 0, .ov 2 [] 0], [.var 193 (.c hv), .var 199 (.c (.arr 64 .u32 (ws.map wI))), .var 193 (.c (l4W ws n i s).v)])
  | 0, i, s, hi => by
    rw [loopX_eq]
    have c0 : decide ((i : Int) < 64) = false := by simp; omega
    simp [p121_l4, c0, l4W]
  | n + 1, i, s, hi => by
    rw [loopX_eq]
    have := l4_step b hv ws hw s i (by omega)
    simp [this]
    have := l4_run b hv ws hw n (i + 1) (s.next (nthW kW i) (nthW ws i)) (by omega)
    simp at this
    exact this
theorem l6_run (b : Bool) (cf : CallFn) (vs : List W32) (hv : vs.length = 8) : ∀ (n i : Nat) (hs : List W32), hs.length = 8 → i + n = 8 →
    loopX 1 (p121_l6 b cf 1) [.ov 0 [] 0, .ov 1 [] 0, .c (.int .i64 i)] [.var 193 (.c (.arr 8 .u32 (hs.map wI))), .var 193 (.c (.arr 8 .u32 (vs.map wI)))] =
      some (.exit 6 [], [.var 193 (.c (.arr 8 .u32 ((l6W vs n i hs).map wI))), .var 193 (.c (.arr 8 .u32 (vs.map wI)))])
  | 0, i, hs, hw, hi => by
    rw [loopX_eq]
    have c0 : decide ((i : Int) < 8) = false := by simp; omega
    simp [p121_l6, c0, l6W]
  | n + 1, i, hs, hw, hi => by
    rw [loopX_eq]
    have := l6_step b cf hs vs hw hv i (by omega)
    simp [this]
    have := l6_run b cf vs hv n (i + 1) (hs.set i (nthW hs i + nthW vs i)) (by simpa) (by omega)
    simp at this
    exact this
def zeroW : List W32 := List.replicate 64 0
def schedW (bs : List UInt8) : List W32 := l2W 48 16 (l0W bs 16 0 zeroW)
theorem schedW_len (bs : List UInt8) : (schedW bs).length = 64 := by rw [schedW, l2W_len, l0W_len]; rfl
def St.plus (s v : St) : St := ⟨s.a + v.a, s.b + v.b, s.c + v.c, s.d + v.d, s.e + v.e, s.f + v.f, s.g + v.g, s.h + v.h⟩
theorem l6_plus (s v : St) : l6W v.l 8 0 s.l = (s.plus v).l := rfl
def blockW (bs : List UInt8) (s : St) : St := s.plus (l4W (schedW bs) 64 0 s)
theorem St.v_l (s : St) : s.v = .arr 8 .u32 (s.l.map wI) := rfl
set_option maxHeartbeats 4000000 in
theorem block_fn (b : Bool) (bs : List UInt8) (hb : 64 ≤ bs.length) (hm : bs.length ≤ maxLen) (s : St) :
    fnX (cfg b) An 121 [.ov 0 [] 0, .c (.sl 1 (bytesAV bs))] [.var 193 (.c s.v)] = some (.tup [], [.var 193 (.c (blockW bs s).v)]) := by
  rw [fnX_eq, p121_eq]
  have e0 := l0_run b (callX (cfg b) An) s.v bs hb hm 16 0 zeroW rfl rfl
  have e2 := l2_run b s.v 48 16 (l0W bs 16 0 zeroW) (by rw [l0W_len]; rfl) (by decide) rfl
  have e4 := l4_run b s.v (schedW bs) (schedW_len bs) 64 0 s rfl
  have e6 := l6_run b (callX (cfg b) An) (l4W (schedW bs) 64 0 s).l rfl 8 0 s.l rfl rfl
  rw [l6_plus] at e6
  have hz : (zeroW.map wI) = List.replicate 64 0 := by decide
  rw [hz] at e0
  rw [← schedW] at e2
  have n0 : ((0 : Nat) : Int) = 0 := rfl
  have n16 : ((16 : Nat) : Int) = 16 := rfl
  rw [n0] at e0 e4
  rw [n16] at e2
  rw [← loopX_gc (s := [.ov 0 [] 0, .ov 2 [] 0, .c (.int .i64 ((0 : Nat) : Int))]) (H := [.var 193 (.c s.v), .var 199 (.c (.arr 64 .u32 ((schedW bs).map wI))), .var 193 (.c (l4W (schedW bs) 64 0 s).v)]) (by simp [St.v_l]) (by simp)] at e6
  have hl : ∀ s : St, s.l.length = 8 := fun _ => rfl
  rw [n0] at e6
  simp only [St.v_l] at e0 e2 e4 e6 ⊢
  simp [-List.reduceReplicate, p121, e0, e2, e4, e6, hl, words_len, blockW, glR]
end Go.Fm
/-
  sha: Sum.
-/
set_option maxRecDepth 100000
set_option linter.unusedVariables false
set_option linter.unusedSimpArgs false
namespace Go.Fm
open Go Go.Proofs
def pV : Option (List UInt8) → CV
  | none => .nilsl
  | some bs => .sl 1 (bytesAV bs)
def pB : Option (List UInt8) → List UInt8
  | none => []
  | some bs => bs
def mA : Option (List UInt8) → AV
  | none => .c .nilsl
  | some _ => .os 1
def mH (A : AV) : Option (List UInt8) → Heap
  | none => [.var 41 A]
  | some m => [.var 41 A, .row 5 1 (bytesAV m)]
def big : Nat := 140737488355328
theorem big_max {n : Nat} (h : n ≤ 140737488355328) : n ≤ maxLen := by unfold maxLen; omega
theorem bytesAV_app (a b : List UInt8) : bytesAV a ++ bytesAV b = bytesAV (a ++ b) := by simp [bytesAV]
/-- The heap just after an append. -/
def mHx (A : AV) (q : List UInt8) : Option (List UInt8) → Heap
  | none => [.var 41 A, .row 5 1 (bytesAV q)]
  | some m => [.var 41 A, .dead, .row 5 1 (bytesAV (m ++ q))]
set_option maxHeartbeats 4000000 in
theorem s0_step (b : Bool) (cf : CallFn) (A : CV) (ps : List (Option (List UInt8))) (m p : Option (List UInt8)) (i : Nat) (hi : i < ps.length) (hs : ps.length ≤ 1000000000) (hp : ps.getD i none = p)
    (hm : (pB m).length + (pB p).length ≤ 140737488355328) :
    p88_l0 b cf 0 [.ov 0 [] 0, mA m, .c (.sl 1 (ps.map pV)), .c (.int .i64 (ps.length : Int)), .c (.int .i64 i)] (mH (.c A) m) =
      some (.cont [.ov 0 [] 0, .os (mH (.c A) m).length, .c (.sl 1 (ps.map pV)), .c (.int .i64 (ps.length : Int)), .c (.int .i64 ((i + 1 : Nat) : Int))], mHx (.c A) (pB p) m) := by
  have c0 : decide ((i : Int) < (ps.length : Int)) = true := by simp; omega
  have a4 : iAdd .i64 (i : Int) 1 = ((i + 1 : Nat) : Int) := by
    unfold iAdd; rw [i64_small (by omega) (by omega)]; omega
  have di : (i : Int) < (ps.length : Int) := by omega
  have hg : nthC (ps.map pV) i = pV p := hp ▸ nthC_map none hi
  have ho : bytesAV [] = [] := rfl
  cases p with
  | none =>
    have hg' : nthC (ps.map pV) i = .nilsl := hg
    cases m with
    | none => simp [p88_l0, mA, mH, mHx, c0, a4, di, hi, hg', pB, ho]
    | some m =>
      have hm' : m.length ≤ 140737488355328 := by simpa [pB] using hm
      have hx := big_max hm'
      simp [p88_l0, mA, mH, mHx, c0, a4, di, hi, hg', pB, hm', hx]
  | some bs =>
    have hg' : nthC (ps.map pV) i = .sl 1 (bytesAV bs) := hg
    cases m with
    | none =>
      have hm' : bs.length ≤ 140737488355328 := by simpa [pB] using hm
      have hx := big_max hm'
      simp [p88_l0, mA, mH, mHx, c0, a4, di, hi, hg', pB, hm', hx]
    | some m =>
      have hm' : m.length + bs.length ≤ 140737488355328 := by simpa [pB] using hm
      have hx := big_max hm'
      simp [p88_l0, mA, mH, mHx, c0, a4, di, hi, hg', pB, hm', hx, bytesAV_app]
/-- The parts in one. -/
def joinO : List (Option (List UInt8)) → Option (List UInt8) → Option (List UInt8)
  | [], m => m
  | p :: ps, m => joinO ps (some (pB m ++ pB p))
def catP : List (Option (List UInt8)) → List UInt8
  | [] => []
  | p :: ps => pB p ++ catP ps
theorem gc_m (A : CV) (q : List UInt8) (m : Option (List UInt8)) (vs : List AV) (hvs : AV.idss vs = []) (ho : ∀ r, AV.maps r vs = vs) :
    gcL 0 (.ov 0 [] 0 :: .os (mH (.c A) m).length :: vs) (mHx (.c A) q m) = some (.ov 0 [] 0 :: .os 1 :: vs, mH (.c A) (some (pB m ++ q))) := by
  cases m with
  | none => simp [mHx, mH, pB, hvs, ho]
  | some m => simp [mHx, mH, pB, hvs, ho]
theorem gc_m1 (A : CV) (m : List UInt8) (vs : List AV) (hvs : AV.idss vs = []) (ho : ∀ r, AV.maps r vs = vs) :
    gcL 0 (.ov 0 [] 0 :: .os 1 :: vs) (mH (.c A) (some m)) = some (.ov 0 [] 0 :: .os 1 :: vs, mH (.c A) (some m)) := by
  simp [mH, hvs, ho]
theorem s0_run (b : Bool) (cf : CallFn) (A : CV) (ps0 : List (Option (List UInt8))) (hs : ps0.length ≤ 1000000000) : ∀ (ps : List (Option (List UInt8))) (i : Nat) (m : Option (List UInt8)), ps0.drop i = ps → (pB m).length + (catP ps).length ≤ 140737488355328 →
    loopX 0 (p88_l0 b cf 0) [.ov 0 [] 0, mA m, .c (.sl 1 (ps0.map pV)), .c (.int .i64 (ps0.length : Int)), .c (.int .i64 i)] (mH (.c A) m) =
      some (.exit 0 [.ov 0 [] 0, mA (joinO ps m)], mH (.c A) (joinO ps m))
  | [], i, m, hd, hm => by
    rw [loopX_eq]
    have hl : ps0.length ≤ i := by simpa using hd
    have c0 : decide ((i : Int) < (ps0.length : Int)) = false := by simp; omega
    have n0 : ¬ i < ps0.length := by omega
    cases m <;> simp [p88_l0, n0, joinO, mA, mH]
  | p :: ps, i, m, hd, hm => by
    have hi : i < ps0.length := by
      apply Nat.lt_of_not_le; intro h; rw [List.drop_of_length_le h] at hd; cases hd
    have hp : ps0.getD i none = p := by
      have : (ps0.drop i)[0]? = some p := by rw [hd]; rfl
      rw [List.getElem?_drop] at this
      rw [List.getD_eq_getElem?_getD]; simp at this; simp [this]
    have hd' : ps0.drop (i + 1) = ps := by rw [← List.drop_drop, hd]; rfl
    have hm' : (pB m).length + (pB p).length + (catP ps).length ≤ 140737488355328 := by simpa [catP, Nat.add_assoc] using hm
    have st := s0_step b cf A ps0 m p i hi hs hp (by omega)
    rw [loopX_eq]
    have hg : gcL 0 [.ov 0 [] 0, mA m, .c (.sl 1 (ps0.map pV)), .c (.int .i64 (ps0.length : Int)), .c (.int .i64 i)] (mH (.c A) m) = some ([.ov 0 [] 0, mA m, .c (.sl 1 (ps0.map pV)), .c (.int .i64 (ps0.length : Int)), .c (.int .i64 i)], mH (.c A) m) := by
      cases m <;> simp [mA, mH]
    simp only [hg, st]
    rw [loopX_gc (gc_m A (pB p) m _ (by simp) (by simp)) (gc_m1 A _ _ (by simp) (by simp))]
    exact s0_run b cf A ps0 hs ps (i + 1) (some (pB m ++ pB p)) hd' (by simp [pB] at hm' ⊢; omega)
end Go.Fm
/-
  sha: Sum's other loops.
-/
set_option maxRecDepth 100000
set_option linter.unusedVariables false
set_option linter.unusedSimpArgs false
namespace Go.Fm
open Go Go.Proofs
def mHy (A : AV) (q m : List UInt8) : Heap := [.var 41 A, .dead, .row 5 1 (bytesAV q), .row 5 1 (bytesAV (m ++ q))]
theorem tmod_nat (n k : Nat) : ((n : Int)).tmod (k : Int) = ((n % k : Nat) : Int) := by
  rw [Int.tmod_eq_emod_of_nonneg (by omega)]; simp
set_option maxHeartbeats 4000000 in
theorem s2_step (b : Bool) (cf : CallFn) (A : CV) (z : Int) (m : List UInt8) (hm : m.length + 1 ≤ 140737488355328) (h : m.length % 64 ≠ 56) :
    p88_l2 b cf 0 [.ov 0 [] 0, .os 1, .c (.int .u64 z)] (mH (.c A) (some m)) =
      some (.cont [.ov 0 [] 0, .os 3, .c (.int .u64 z)], mHy (.c A) [0] m) := by
  obtain ⟨r, hr⟩ : ∃ r, r = m.length % 64 := ⟨_, rfl⟩
  have e1 : ((m.length : Int)).tmod 64 = (r : Int) := hr ▸ tmod_nat m.length 64
  have e2 : ((r : Int) != 56) = true := by simp; omega
  have hx := big_max hm
  have hb : bytesAV [0] = [.int .u8 0] := rfl
  have ha : bytesAV m ++ [.int .u8 0] = bytesAV (m ++ [0]) := by simp [bytesAV]
  simp [p88_l2, mH, mHy, e1, e2, hm, hx, hb, ha]
theorem s2_stop (b : Bool) (cf : CallFn) (A : CV) (z : Int) (m : List UInt8) (h : m.length % 64 = 56) :
    p88_l2 b cf 0 [.ov 0 [] 0, .os 1, .c (.int .u64 z)] (mH (.c A) (some m)) =
      some (.exit 2 [.ov 0 [] 0, .os 1, .c (.int .u64 z)], mH (.c A) (some m)) := by
  have e1 : ((m.length : Int)).tmod 64 = 56 := by rw [show (64 : Int) = ((64 : Nat) : Int) from rfl, tmod_nat, h]; rfl
  simp [p88_l2, mH, e1]
def byteOf (z : Int) : UInt8 := UInt8.ofNat ((IntKind.u8.wrap z).toNat)
theorem wrap_byte (z : Int) : IntKind.u8.wrap z = ((byteOf z).toNat : Int) := by
  unfold byteOf IntKind.wrap
  simp [IntKind.bits, IntKind.signed]
  omega
set_option maxHeartbeats 4000000 in
theorem s4_step (b : Bool) (cf : CallFn) (A : CV) (z : Int) (m : List UInt8) (hm : m.length + 1 ≤ 140737488355328) (k : Int) (h0 : 0 ≤ k) :
    p88_l4 b cf 0 [.ov 0 [] 0, .os 1, .c (.int .u64 z), .c (.int .i64 k)] (mH (.c A) (some m)) =
      some (.cont [.ov 0 [] 0, .os 3, .c (.int .u64 z), .c (.int .i64 (iSub .i64 k 8))], mHy (.c A) [byteOf (iShr .u64 z k)] m) := by
  have c0 : ¬ k < 0 := by omega
  have hx := big_max hm
  obtain ⟨x, hq⟩ : ∃ x, x = byteOf (iShr .u64 z k) := ⟨_, rfl⟩
  have hz := wrap_byte (iShr .u64 z k)
  rw [← hq] at hz ⊢
  have hb : bytesAV [x] = [.int .u8 (x.toNat : Int)] := rfl
  have ha : bytesAV m ++ [.int .u8 (x.toNat : Int)] = bytesAV (m ++ [x]) := by simp [bytesAV]
  simp [p88_l4, mH, mHy, c0, h0, hm, hx, hb, ha, hz]
theorem s4_stop (b : Bool) (cf : CallFn) (A : CV) (z : Int) (m : List UInt8) :
    p88_l4 b cf 0 [.ov 0 [] 0, .os 1, .c (.int .u64 z), .c (.int .i64 (-8))] (mH (.c A) (some m)) =
      some (.exit 4 [.ov 0 [] 0, .os 1], mH (.c A) (some m)) := by
  simp [p88_l4, mH]
theorem gc_y (A : CV) (q m : List UInt8) (vs : List AV) (hvs : AV.idss vs = []) (ho : ∀ r, AV.maps r vs = vs) :
    gcL 0 (.ov 0 [] 0 :: .os 3 :: vs) (mHy (.c A) q m) = some (.ov 0 [] 0 :: .os 1 :: vs, mH (.c A) (some (m ++ q))) := by
  simp [mHy, mH, hvs, ho]
theorem s2_run (b : Bool) (cf : CallFn) (A : CV) (z : Int) : ∀ (n : Nat) (m : List UInt8), n < 64 → (m.length + n) % 64 = 56 → m.length + n ≤ 140737488355328 →
    loopX 0 (p88_l2 b cf 0) [.ov 0 [] 0, .os 1, .c (.int .u64 z)] (mH (.c A) (some m)) =
      some (.exit 2 [.ov 0 [] 0, .os 1, .c (.int .u64 z)], mH (.c A) (some (m ++ List.replicate n 0)))
  | 0, m, hn, h, hm => by
    rw [loopX_eq, gc_m1 A m _ (by simp) (by simp)]
    simp only [s2_stop b cf A z m h]
    simp
  | n + 1, m, hn, h, hm => by
    rw [loopX_eq, gc_m1 A m _ (by simp) (by simp)]
    simp only [s2_step b cf A z m (by omega) (by omega)]
    rw [loopX_gc (gc_y A [0] m _ (by simp) (by simp)) (gc_m1 A _ _ (by simp) (by simp)), s2_run b cf A z n (m ++ [0]) (by omega) (by simp; omega) (by simp; omega)]
    simp [List.replicate_succ]
def lenBytes (z : Int) : List UInt8 := [byteOf (iShr .u64 z 56), byteOf (iShr .u64 z 48), byteOf (iShr .u64 z 40), byteOf (iShr .u64 z 32), byteOf (iShr .u64 z 24), byteOf (iShr .u64 z 16), byteOf (iShr .u64 z 8), byteOf (iShr .u64 z 0)]
theorem s4_one (b : Bool) (cf : CallFn) (A : CV) (z : Int) (m : List UInt8) (hm : m.length + 1 ≤ 140737488355328) (k j : Int) (h0 : 0 ≤ k) (hj : iSub .i64 k 8 = j) :
    loopX 0 (p88_l4 b cf 0) [.ov 0 [] 0, .os 1, .c (.int .u64 z), .c (.int .i64 k)] (mH (.c A) (some m)) =
      loopX 0 (p88_l4 b cf 0) [.ov 0 [] 0, .os 1, .c (.int .u64 z), .c (.int .i64 j)] (mH (.c A) (some (m ++ [byteOf (iShr .u64 z k)]))) := by
  rw [loopX_eq, gc_m1 A m _ (by simp) (by simp)]
  simp only [s4_step b cf A z m hm k h0, hj]
  rw [loopX_gc (gc_y A _ m _ (by simp) (by simp)) (gc_m1 A _ _ (by simp) (by simp))]
theorem s4_run (b : Bool) (cf : CallFn) (A : CV) (z : Int) (m : List UInt8) (hm : m.length + 8 ≤ 140737488355328) :
    loopX 0 (p88_l4 b cf 0) [.ov 0 [] 0, .os 1, .c (.int .u64 z), .c (.int .i64 56)] (mH (.c A) (some m)) =
      some (.exit 4 [.ov 0 [] 0, .os 1], mH (.c A) (some (m ++ lenBytes z))) := by
  rw [s4_one b cf A z m (by omega) 56 48 (by decide) (by decide), s4_one b cf A z _ (by simp; omega) 48 40 (by decide) (by decide),
    s4_one b cf A z _ (by simp; omega) 40 32 (by decide) (by decide), s4_one b cf A z _ (by simp; omega) 32 24 (by decide) (by decide),
    s4_one b cf A z _ (by simp; omega) 24 16 (by decide) (by decide), s4_one b cf A z _ (by simp; omega) 16 8 (by decide) (by decide),
    s4_one b cf A z _ (by simp; omega) 8 0 (by decide) (by decide), s4_one b cf A z _ (by simp; omega) 0 (-8) (by decide) (by decide),
    loopX_eq, gc_m1 A _ _ (by simp) (by simp)]
  simp only [s4_stop b cf A z]
  simp [lenBytes]
/-! ### The blocks -/
theorem mSliceSl_fos {lo : Option AV} {i sz u : Nat} {H : Heap} {es : List CV} (h : H[i]? = some (.frow u sz es)) : mSliceSl sz (.os i) lo none H = cutE sz es lo H (some es.length) := by
  have : mTail sz H (.os i) lo none = none := by unfold mTail; split <;> simp_all
  have e : natOf none es.length es.length = some es.length := rfl
  simp only [mSliceSl, this, toC, h, cutE, e]
  cases natOf lo 0 es.length with
  | none => rfl
  | some l => simp [cutE.cutE2]
def iterB (g : List UInt8 → St → St) : Nat → List UInt8 → St → St
  | 0, _, s => s
  | n + 1, m, s => iterB g n (m.drop 64) (g m s)
theorem iterB_0 (g : List UInt8 → St → St) (m : List UInt8) (s : St) : iterB g 0 m s = s := rfl
theorem iterB_s (g : List UInt8 → St → St) (n : Nat) (m : List UInt8) (s : St) : iterB g (n + 1) m s = iterB g n (m.drop 64) (g m s) := rfl
def blocksW (n : Nat) (m : List UInt8) (s : St) : St := iterB blockW n m s
theorem blocksW_0 (m : List UInt8) (s : St) : blocksW 0 m s = s := iterB_0 blockW m s
theorem blocksW_s (n : Nat) (m : List UInt8) (s : St) : blocksW (n + 1) m s = blocksW n (m.drop 64) (blockW m s) := iterB_s blockW n m s
theorem bytesAV_drop (m : List UInt8) (k : Nat) : (bytesAV m).drop k = bytesAV (m.drop k) := by simp [bytesAV]
set_option maxHeartbeats 4000000 in
theorem s6_first (b : Bool) (A : CV) (s : St) (m : List UInt8) (h : 64 ≤ m.length) (hm : m.length ≤ 140737488355328) :
    p88_l6 b (callX (cfg b) An) 0 [.ov 0 [] 0, .os 1, .ov 2 [] 0] [.var 41 (.c A), .row 5 1 (bytesAV m), .var 193 (.c s.v)] =
      some (.cont [.ov 0 [] 0, .c (.sl 1 (bytesAV (m.drop 64))), .ov 2 [] 0], [.var 41 (.c A), .frow 5 1 (bytesAV m), .var 193 (.c (blockW m s).v)]) := by
  have c0 : decide ((m.length : Int) > 0) = true := by simp; omega
  have c1 : 0 < m.length := by omega
  have hx := big_max hm
  have e := block_fn b m h hx s
  have hf : (cfg b).frz 193 = false := frz_f (by decide)
  have hk : (cfg b).keepA 121 = false := rfl
  have h64 : (64 : Int) ≤ (m.length : Int) := by omega
  have ht : (bytesAV (m.drop 64)).take (m.length - 64) = bytesAV (m.drop 64) := by rw [List.take_of_length_le]; simp [bytesAV]
  simp [p88_l6, c0, c1, callX_v (prim_none (b := b) (f := 121) (by decide)), hf, hk, e, fun V lo => mSliceSl_fos (lo := lo) (i := 1) (sz := 1) (H := [.var 41 (.c A), .frow 5 1 (bytesAV m), V]) rfl, h64, bytesAV_drop, ht]
end Go.Fm
/-
  sha: Sum.
-/
set_option maxRecDepth 100000
set_option linter.unusedVariables false
set_option linter.unusedSimpArgs false
namespace Go.Fm
open Go Go.Proofs
set_option maxHeartbeats 4000000 in
theorem s6_next (b : Bool) (A : CV) (s : St) (m : List UInt8) (h : 64 ≤ m.length) (hm : m.length ≤ 140737488355328) :
    p88_l6 b (callX (cfg b) An) 0 [.ov 0 [] 0, .c (.sl 1 (bytesAV m)), .ov 1 [] 0] [.var 41 (.c A), .var 193 (.c s.v)] =
      some (.cont [.ov 0 [] 0, .c (.sl 1 (bytesAV (m.drop 64))), .ov 1 [] 0], [.var 41 (.c A), .var 193 (.c (blockW m s).v)]) := by
  have c0 : decide ((m.length : Int) > 0) = true := by simp; omega
  have c1 : 0 < m.length := by omega
  have hx := big_max hm
  have e := block_fn b m h hx s
  have hf : (cfg b).frz 193 = false := frz_f (by decide)
  have hk : (cfg b).keepA 121 = false := rfl
  have h64 : (64 : Int) ≤ (m.length : Int) := by omega
  have ht : (bytesAV (m.drop 64)).take (m.length - 64) = bytesAV (m.drop 64) := by rw [List.take_of_length_le]; simp [bytesAV]
  simp [p88_l6, c0, c1, callX_v (prim_none (b := b) (f := 121) (by decide)), hf, hk, e, h64, bytesAV_drop, ht]
theorem s6_stop (b : Bool) (cf : CallFn) (A : CV) (s : St) :
    p88_l6 b cf 0 [.ov 0 [] 0, .c (.sl 1 (bytesAV [])), .ov 1 [] 0] [.var 41 (.c A), .var 193 (.c s.v)] =
      some (.exit 6 [.ov 0 [] 0, .ov 1 [] 0], [.var 41 (.c A), .var 193 (.c s.v)]) := by
  simp [p88_l6]
theorem s6_zero (b : Bool) (cf : CallFn) (A : CV) (s : St) :
    loopX 0 (p88_l6 b cf 0) [.ov 0 [] 0, .c (.sl 1 (bytesAV [])), .ov 1 [] 0] [.var 41 (.c A), .var 193 (.c s.v)] =
      some (.exit 6 [.ov 0 [] 0, .ov 1 [] 0], [.var 41 (.c A), .var 193 (.c s.v)]) := by
    have hg : gcL 0 [.ov 0 [] 0, .c (.sl 1 (bytesAV [])), .ov 1 [] 0] [.var 41 (.c A), .var 193 (.c s.v)] = some ([.ov 0 [] 0, .c (.sl 1 (bytesAV [])), .ov 1 [] 0], [.var 41 (.c A), .var 193 (.c s.v)]) := by simp
    rw [loopX_eq, hg]
    simp only [s6_stop]
theorem s6_one (b : Bool) (A : CV) (m : List UInt8) (s : St) (h : 64 ≤ m.length) (hm : m.length ≤ 140737488355328) :
    loopX 0 (p88_l6 b (callX (cfg b) An) 0) [.ov 0 [] 0, .c (.sl 1 (bytesAV m)), .ov 1 [] 0] [.var 41 (.c A), .var 193 (.c s.v)] =
      loopX 0 (p88_l6 b (callX (cfg b) An) 0) [.ov 0 [] 0, .c (.sl 1 (bytesAV (m.drop 64))), .ov 1 [] 0] [.var 41 (.c A), .var 193 (.c (blockW m s).v)] := by
    have hg : gcL 0 [.ov 0 [] 0, .c (.sl 1 (bytesAV m)), .ov 1 [] 0] [.var 41 (.c A), .var 193 (.c s.v)] = some ([.ov 0 [] 0, .c (.sl 1 (bytesAV m)), .ov 1 [] 0], [.var 41 (.c A), .var 193 (.c s.v)]) := by simp
    rw [loopX_eq, hg]
    simp only [s6_next b A s m h hm]
theorem s6_run (b : Bool) (A : CV) (n : Nat) : ∀ (m : List UInt8) (s : St), m.length = 64 * n → m.length ≤ 140737488355328 →
    loopX 0 (p88_l6 b (callX (cfg b) An) 0) [.ov 0 [] 0, .c (.sl 1 (bytesAV m)), .ov 1 [] 0] [.var 41 (.c A), .var 193 (.c s.v)] =
      some (.exit 6 [.ov 0 [] 0, .ov 1 [] 0], [.var 41 (.c A), .var 193 (.c (blocksW n m s).v)]) := by
  induction n with
  | zero =>
    intro m s hn hm
    have : m = [] := by cases m with
      | nil => rfl
      | cons a l => simp at hn
    rw [this]
    rw [s6_zero b _ A s, blocksW_0]
  | succ n ih =>
    intro m s hn hm
    have h1 : (m.drop 64).length = 64 * n := by rw [List.length_drop]; omega
    have h2 : (m.drop 64).length ≤ 140737488355328 := by rw [List.length_drop]; omega
    rw [s6_one b A m s (by omega) hm, ih (m.drop 64) (blockW m s) h1 h2, blocksW_s]
theorem s6_all (b : Bool) (A : CV) (n : Nat) (m : List UInt8) (s : St) (hn : m.length = 64 * (n + 1)) (hm : m.length ≤ 140737488355328) :
    loopX 0 (p88_l6 b (callX (cfg b) An) 0) [.ov 0 [] 0, .os 1, .ov 2 [] 0] [.var 41 (.c A), .row 5 1 (bytesAV m), .var 193 (.c s.v)] =
      some (.exit 6 [.ov 0 [] 0, .ov 1 [] 0], [.var 41 (.c A), .var 193 (.c (blocksW (n + 1) m s).v)]) := by
  have hg : gcL 0 [.ov 0 [] 0, .os 1, .ov 2 [] 0] [.var 41 (.c A), .row 5 1 (bytesAV m), .var 193 (.c s.v)] = some ([.ov 0 [] 0, .os 1, .ov 2 [] 0], [.var 41 (.c A), .row 5 1 (bytesAV m), .var 193 (.c s.v)]) := by simp
  rw [loopX_eq, hg]
  simp only [s6_first b A s m (by omega) hm]
  rw [loopX_gc (s1 := [.ov 0 [] 0, .c (.sl 1 (bytesAV (m.drop 64))), .ov 1 [] 0]) (H1 := [.var 41 (.c A), .var 193 (.c (blockW m s).v)]) (by simp) (by simp),
    s6_run b A n (m.drop 64) (blockW m s) (by rw [List.length_drop]; omega) (by rw [List.length_drop]; omega), blocksW_s]
/-! ### The digest -/
def dI (bs : List UInt8) : List Int := bs.map fun x => (x.toNat : Int)
def outB (s : St) (i : Nat) : UInt8 := byteOf (iShr .u32 (wI (nthW s.l (i / 4))) ((24 - 8 * (i % 4) : Nat) : Int))
def l8W (s : St) : Nat → Nat → List UInt8 → List UInt8
  | 0, _, ds => ds
  | n + 1, i, ds => l8W s n (i + 1) (ds.set i (outB s i))
theorem l8W_len (s : St) : ∀ (n i : Nat) (ds : List UInt8), (l8W s n i ds).length = ds.length
  | 0, _, _ => rfl
  | n + 1, i, ds => by rw [l8W, l8W_len]; simp
set_option maxHeartbeats 4000000 in
theorem s8_step (b : Bool) (cf : CallFn) (A : CV) (s : St) (ds : List UInt8) (hd : ds.length = 32) (i : Nat) (hi : i < 32) :
    p88_l8 b cf 0 [.ov 0 [] 0, .ov 1 [] 0, .ov 2 [] 0, .c (.int .i64 i)] [.var 41 (.c A), .var 193 (.c s.v), .var 41 (.c (.arr 32 .u8 (dI ds)))] =
      some (.cont [.ov 0 [] 0, .ov 1 [] 0, .ov 2 [] 0, .c (.int .i64 ((i + 1 : Nat) : Int))], [.var 41 (.c A), .var 193 (.c s.v), .var 41 (.c (.arr 32 .u8 (dI (ds.set i (outB s i)))))]) := by
  have di : (i : Int) < 32 := by omega
  have a4 := add1_nat i (by omega)
  obtain ⟨q, hq⟩ : ∃ q, q = i / 4 := ⟨_, rfl⟩
  obtain ⟨r, hr⟩ : ∃ r, r = i % 4 := ⟨_, rfl⟩
  obtain ⟨t, ht⟩ : ∃ t, t = 8 * r := ⟨_, rfl⟩
  obtain ⟨u, hu⟩ : ∃ u, u = 24 - 8 * r := ⟨_, rfl⟩
  have e1 : IntKind.i64.wrap ((i : Int).tdiv 4) = (q : Int) := by
    rw [Int.tdiv_eq_ediv_of_nonneg (by omega), i64_small (by omega) (by omega)]; omega
  have e1' : IntKind.i64.wrap ((i : Int) / 4) = (q : Int) := by
    rw [i64_small (by omega) (by omega)]; omega
  have e2 : ((i : Int)).tmod 4 = (r : Int) := hr ▸ tmod_nat i 4
  have e3 : iMul .i64 (r : Int) 8 = (t : Int) := by unfold iMul; rw [i64_small (by omega) (by omega)]; omega
  have e4 : iSub .i64 24 (t : Int) = (u : Int) := by unfold iSub; rw [i64_small (by omega) (by omega)]; omega
  have e5 : ¬ (u : Int) < 0 := by omega
  have e6 : (q : Int) < 8 := by omega
  have e7 : q < 8 := by omega
  have ho : outB s i = byteOf (iShr .u32 (wI (nthW s.l q)) (u : Int)) := by subst hq hr ht hu; rfl
  have hl : s.l.length = 8 := rfl
  have hb := wrap_byte (iShr .u32 (wI (nthW s.l q)) (u : Int))
  rw [← ho] at hb
  generalize outB s i = o at hb ⊢
  have hdl : (dI ds).length = 32 := by simp [dI, hd]
  have hset : (dI ds).set i (o.toNat : Int) = dI (ds.set i o) := by simp [dI]
  rw [St.v_l]
  simp [p88_l8, di, a4, hi, e1, e1', e2, e3, e4, e5, e6, e7, hl, nthI_w, hb, hdl, hset]
theorem s8_run (b : Bool) (cf : CallFn) (A : CV) (s : St) : ∀ (n i : Nat) (ds : List UInt8), ds.length = 32 → i + n = 32 →
    loopX 0 (p88_l8 b cf 0) [.ov 0 [] 0, .ov 1 [] 0, .ov 2 [] 0, .c (.int .i64 i)] [.var 41 (.c A), .var 193 (.c s.v), .var 41 (.c (.arr 32 .u8 (dI ds)))] =
      some (.exit 8 [.ov 0 [] 0, .ov 2 [] 0], [.var 41 (.c A), .var 193 (.c s.v), .var 41 (.c (.arr 32 .u8 (dI (l8W s n i ds))))])
  | 0, i, ds, hd, hi => by
    rw [loopX_eq]
    have c0 : ¬ (i : Int) < 32 := by omega
    simp [p88_l8, c0, l8W]
  | n + 1, i, ds, hd, hi => by
    rw [loopX_eq]
    have := s8_step b cf A s ds hd i (by omega)
    simp [this]
    have := s8_run b cf A s n (i + 1) (ds.set i (outB s i)) (by simpa) (by omega)
    simp at this
    exact this
end Go.Fm
/-
  sha: Sum as a whole.
-/
set_option maxRecDepth 100000
set_option linter.unusedVariables false
set_option linter.unusedSimpArgs false
namespace Go.Fm
open Go Go.Proofs
def ivW : St := ⟨1779033703, 3144134277, 1013904242, 2773480762, 1359893119, 2600822924, 528734635, 1541459225⟩
theorem ivW_v : ivW.v = .arr 8 .u32 [1779033703, 3144134277, 1013904242, 2773480762, 1359893119, 2600822924, 528734635, 1541459225] := rfl
def padN (l : Nat) : Nat := (119 - l % 64) % 64
def bitsZ (l : Nat) : Int := iMul .u64 (IntKind.u64.wrap (l : Int)) 8
def padded (m : List UInt8) : List UInt8 := m ++ [128] ++ List.replicate (padN m.length) 0 ++ lenBytes (bitsZ m.length)
theorem padded_len (m : List UInt8) : (padded m).length = m.length + 9 + padN m.length := by simp [padded, lenBytes]; omega
theorem padded_64 (m : List UInt8) : ∃ n, (padded m).length = 64 * (n + 1) := by
  rw [padded_len]; unfold padN
  refine ⟨(m.length + 9 + (119 - m.length % 64) % 64) / 64 - 1, ?_⟩
  omega
def zero32 : List UInt8 := List.replicate 32 0
def shaW (m : List UInt8) : List UInt8 := l8W (blocksW ((padded m).length / 64) (padded m) ivW) 32 0 zero32
theorem shaW_len (m : List UInt8) : (shaW m).length = 32 := by rw [shaW, l8W_len]; rfl
theorem joinO_some : ∀ (ps : List (Option (List UInt8))) (m : List UInt8), joinO ps (some m) = some (m ++ catP ps)
  | [], m => by simp [joinO, catP]
  | p :: ps, m => by rw [joinO, joinO_some]; simp [catP, pB]
theorem joinO_ne {ps : List (Option (List UInt8))} (h : ps ≠ []) : joinO ps none = some (catP ps) := by
  cases ps with
  | nil => exact absurd rfl h
  | cons p ps => rw [joinO, joinO_some]; simp [catP, pB]
set_option maxHeartbeats 4000000 in
theorem sum_fn (b : Bool) (ps : List (Option (List UInt8))) (hne : ps ≠ []) (hs : ps.length ≤ 1000000000) (hm : (catP ps).length ≤ 100000000000000) :
    fnX (cfg b) An 88 [.c (.sl 1 (ps.map pV))] [] = some (.c (.arr 32 .u8 (dI (shaW (catP ps)))), []) := by
  rw [fnX_eq, p88_eq]
  obtain ⟨A, hA⟩ : ∃ A, A = CV.arr 32 .u8 (List.replicate 32 0) := ⟨_, rfl⟩
  have e0 := s0_run b (callX (cfg b) An) A ps hs ps 0 none rfl (by simp [pB]; omega)
  rw [joinO_ne hne] at e0
  generalize catP ps = m at e0 hm ⊢
  obtain ⟨n, hn⟩ := padded_64 m
  have hpl := padded_len m
  have hp64 : padN m.length < 64 := by unfold padN; omega
  have hp56 : (m.length + 1 + padN m.length) % 64 = 56 := by unfold padN; omega
  have e2 := s2_run b (callX (cfg b) An) A (bitsZ m.length) (padN m.length) (m ++ [128]) hp64 (by simpa using hp56) (by simp; omega)
  have e4 := s4_run b (callX (cfg b) An) A (bitsZ m.length) (m ++ [128] ++ List.replicate (padN m.length) 0) (by simp; omega)
  rw [← padded] at e4
  have e6 := s6_all b A n (padded m) ivW hn (by omega)
  have hq : (padded m).length / 64 = n + 1 := by omega
  rw [← hq] at e6
  have e8 := s8_run b (callX (cfg b) An) A (blocksW ((padded m).length / 64) (padded m) ivW) 32 0 zero32 rfl rfl
  rw [← shaW] at e8
  have n0 : ((0 : Nat) : Int) = 0 := rfl
  have hz : dI zero32 = List.replicate 32 0 := by decide
  rw [n0] at e0 e8
  rw [hz] at e8
  have hb : IntKind.u64.wrap (m.length : Int) = (m.length : Int) := by
    unfold IntKind.wrap; simp [IntKind.bits, IntKind.signed]; omega
  have hb2 : iMul .u64 (m.length : Int) 8 = bitsZ m.length := by unfold bitsZ; rw [hb]
  have hx := big_max (n := m.length + 1) (by omega)
  have hx1 : m.length + 1 ≤ 140737488355328 := by omega
  have h128 : bytesAV m ++ [.int .u8 128] = bytesAV (m ++ [128]) := by simp [bytesAV]
  have hl : (dI (shaW m)).length = 32 := by simp [dI, shaW_len]
  generalize blocksW ((padded m).length / 64) (padded m) ivW = S at e6 e8
  generalize shaW m = out at e8 hl ⊢
  rw [← loopX_gc (s := [.ov 0 [] 0, .os 3, .c (.int .u64 (bitsZ m.length))]) (H := [.var 41 (.c A), .dead, .row 5 1 [.int .u8 128], .row 5 1 (bytesAV (m ++ [128]))]) (by simp [mH]) (by simp [mH])] at e2
  generalize m ++ [128] ++ List.replicate (padN m.length) 0 = m2 at e2 e4
  simp only [mA, mH, ivW_v] at e0 e2 e4 e6
  have hiv : ([1779033703, 3144134277, 1013904242, 2773480762, 1359893119, 2600822924, 528734635, 1541459225] : List Int) = ((((((((List.replicate 8 (0 : Int)).set 0 1779033703).set 1 3144134277).set 2 1013904242).set 3 2773480762).set 4 1359893119).set 5 2600822924).set 6 528734635).set 7 1541459225 := by decide
  rw [hiv] at e6
  subst hA
  simp [-List.reduceReplicate, p88, e0, e2, e4, e6, e8, hb, hb2, hx, hx1, h128, hl]
end Go.Fm
