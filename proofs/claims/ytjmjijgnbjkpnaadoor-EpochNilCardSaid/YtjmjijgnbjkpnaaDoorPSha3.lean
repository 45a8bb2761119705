/-
  sha.Sum answers with a digest of the parts joined, part 3.
-/
import Derived.Test.YtjmjijgnbjkpnaaDoorPSha2
set_option linter.all false
set_option autoImplicit true
/-
  sha: one round of each other loop of the block.
-/
set_option maxRecDepth 100000
set_option linter.unusedVariables false
set_option linter.unusedSimpArgs false
namespace Go.Fm
open Go Go.Proofs
def nthW (ws : List W32) (i : Nat) : W32 := ws.getD i 0
def sigA (x : W32) : W32 := rotl x 25 ^^^ rotl x 14 ^^^ x >>> 3
def sigB (x : W32) : W32 := rotl x 15 ^^^ rotl x 13 ^^^ x >>> 10
def nextW (ws : List W32) (i : Nat) : W32 := nthW ws (i - 16) + sigA (nthW ws (i - 15)) + nthW ws (i - 7) + sigB (nthW ws (i - 2))

theorem nthI_w (ws : List W32) (i : Nat) : nthI (ws.map wI) i = wI (nthW ws i) := by
  unfold nthI nthW
  rw [List.getD_eq_getElem?_getD, List.getD_eq_getElem?_getD, List.getElem?_map]
  cases ws[i]? <;> rfl
theorem sub_nat (i k : Nat) (hk : k ≤ i) (hi : i < 1000000) : iSub .i64 (i : Int) (k : Int) = ((i - k : Nat) : Int) := by
  unfold iSub; rw [i64_small (by omega) (by omega)]; omega
theorem add1_nat (i : Nat) (hi : i < 1000000) : iAdd .i64 (i : Int) 1 = ((i + 1 : Nat) : Int) := by
  unfold iAdd; rw [i64_small (by omega) (by omega)]; omega

set_option maxHeartbeats 4000000 in
theorem l2_step (b : Bool) (hv : CV) (ws : List W32) (hw : ws.length = 64) (i : Nat) (hl : 16 ≤ i) (hi : i < 64) :
    p121_l2 b (callX (cfg b) An) 1 [.ov 0 [] 0, .ov 1 [] 0, .c (.int .i64 i)] [.var 193 (.c hv), .var 199 (.c (.arr 64 .u32 (ws.map wI)))] =
      some (.cont [.ov 0 [] 0, .ov 1 [] 0, .c (.int .i64 ((i + 1 : Nat) : Int))], [.var 193 (.c hv), .var 199 (.c (.arr 64 .u32 ((ws.set i (nextW ws i)).map wI)))]) := by
  have c0 : decide ((i : Int) < 64) = true := by simp; omega
  obtain ⟨j15, e15⟩ : ∃ j, j = i - 15 := ⟨_, rfl⟩
  obtain ⟨j2, e2⟩ : ∃ j, j = i - 2 := ⟨_, rfl⟩
  obtain ⟨j16, e16⟩ : ∃ j, j = i - 16 := ⟨_, rfl⟩
  obtain ⟨j7, e7⟩ : ∃ j, j = i - 7 := ⟨_, rfl⟩
  have a15 : iSub .i64 (i : Int) 15 = (j15 : Int) := e15 ▸ sub_nat i 15 (by omega) (by omega)
  have a2 : iSub .i64 (i : Int) 2 = (j2 : Int) := e2 ▸ sub_nat i 2 (by omega) (by omega)
  have a16 : iSub .i64 (i : Int) 16 = (j16 : Int) := e16 ▸ sub_nat i 16 (by omega) (by omega)
  have a7 : iSub .i64 (i : Int) 7 = (j7 : Int) := e7 ▸ sub_nat i 7 (by omega) (by omega)
  have a4 := add1_nat i (by omega)
  have b15 : j15 < 64 := by omega
  have b2 : j2 < 64 := by omega
  have b16 : j16 < 64 := by omega
  have b7 : j7 < 64 := by omega
  have d15 : (j15 : Int) < 64 := by omega
  have d2 : (j2 : Int) < 64 := by omega
  have d16 : (j16 : Int) < 64 := by omega
  have d7 : (j7 : Int) < 64 := by omega
  have di : (i : Int) < 64 := by omega
  have hW : nextW ws i = nthW ws j16 + sigA (nthW ws j15) + nthW ws j7 + sigB (nthW ws j2) := by
    subst e15 e2 e16 e7; rfl
  simp (maxSteps := 400000) [p121_l2, c0, a15, a2, a16, a7, a4, b15, b2, b16, b7, hi, hw, d15, d2, d16, d7, di, nthI_w, rot7, rot18, rot17, rot19, w_xor, w_add, w_shr3, w_shr10, hW, sigA, sigB]

structure St where
  (a b c d e f g h : W32)
def St.l (s : St) : List W32 := [s.a, s.b, s.c, s.d, s.e, s.f, s.g, s.h]
def St.v (s : St) : CV := .arr 8 .u32 [wI s.a, wI s.b, wI s.c, wI s.d, wI s.e, wI s.f, wI s.g, wI s.h]
def kW : List W32 := words.map (BitVec.ofInt 32)
theorem kW_words : kW.map wI = words := by decide
theorem kW_len : kW.length = 64 := by decide
theorem nthI_k (i : Nat) : nthI words i = wI (nthW kW i) := by rw [← kW_words, nthI_w]
theorem words_len : words.length = 64 := by decide
def t1W (s : St) (k w : W32) : W32 := s.h + (rotl s.e 26 ^^^ rotl s.e 21 ^^^ rotl s.e 7) + ((s.e &&& s.f) ^^^ (~~~ s.e &&& s.g)) + k + w
def t2W (s : St) : W32 := (rotl s.a 30 ^^^ rotl s.a 19 ^^^ rotl s.a 10) + ((s.a &&& s.b) ^^^ (s.a &&& s.c) ^^^ (s.b &&& s.c))
def St.next (s : St) (k w : W32) : St := ⟨t1W s k w + t2W s, s.a, s.b, s.c, s.d + t1W s k w, s.e, s.f, s.g⟩

section
variable {a0 a1 a2 a3 a4 a5 a6 a7 : Int} {l : List Int}
theorem nthI_n0 : nthI (a0 :: l) 0 = a0 := (rfl)
theorem nthI_n1 : nthI (a0 :: a1 :: l) 1 = a1 := (rfl)
theorem nthI_n2 : nthI (a0 :: a1 :: a2 :: l) 2 = a2 := (rfl)
theorem nthI_n3 : nthI (a0 :: a1 :: a2 :: a3 :: l) 3 = a3 := (rfl)
theorem nthI_n4 : nthI (a0 :: a1 :: a2 :: a3 :: a4 :: l) 4 = a4 := (rfl)
theorem nthI_n5 : nthI (a0 :: a1 :: a2 :: a3 :: a4 :: a5 :: l) 5 = a5 := (rfl)
theorem nthI_n6 : nthI (a0 :: a1 :: a2 :: a3 :: a4 :: a5 :: a6 :: l) 6 = a6 := (rfl)
theorem nthI_n7 : nthI (a0 :: a1 :: a2 :: a3 :: a4 :: a5 :: a6 :: a7 :: l) 7 = a7 := (rfl)
end
set_option maxHeartbeats 8000000 in
theorem l4_step (b : Bool) (hv : CV) (ws : List W32) (hw : ws.length = 64) (s : St) (i : Nat) (hi : i < 64) :
    p121_l4 b (callX (cfg b) An) 1 [.ov 0 [] 0, .ov 1 [] 0, .ov 2 [] 0, .c (.arr 64 .u32 words), .c (.int .i64 i)] [.var 193 (.c hv), .var 199 (.c (.arr 64 .u32 (ws.map wI))), .var 193 (.c s.v)] =
      some (.cont [.ov 0 [] 0, .ov 1 [] 0, .ov 2 [] 0, .c (.arr 64 .u32 words), .c (.int .i64 ((i + 1 : Nat) : Int))], [.var 193 (.c hv), .var 199 (.c (.arr 64 .u32 (ws.map wI))), .var 193 (.c (s.next (nthW kW i) (nthW ws i)).v)]) := by
  have c0 : decide ((i : Int) < 64) = true := by simp; omega
  have a4 := add1_nat i (by omega)
  have di : (i : Int) < 64 := by omega
  obtain ⟨s1, s2, s3, s4, s5, s6, s7, s8⟩ := s
  obtain ⟨T1, hT1⟩ : ∃ T, T = t1W ⟨s1, s2, s3, s4, s5, s6, s7, s8⟩ (nthW kW i) (nthW ws i) := ⟨_, rfl⟩
  obtain ⟨T2, hT2⟩ : ∃ T, T = t2W ⟨s1, s2, s3, s4, s5, s6, s7, s8⟩ := ⟨_, rfl⟩
  rw [St.next, ← hT1, ← hT2]
  simp only [t1W] at hT1
  simp only [t2W] at hT2
  simp (maxSteps := 400000) [p121_l4, c0, a4, hi, di, hw, nthI_w, nthI_k, words_len, rot6, rot11, rot25, rot2, rot13, rot22, w_xor, w_and, w_not, w_add, St.v, nthI_n0, nthI_n1, nthI_n2, nthI_n3, nthI_n4, nthI_n5, nthI_n6, nthI_n7, ← hT1, ← hT2]
end Go.Fm

