/-
  A part of the proof: PRSum.
-/
import Derived.Test.YtjmjijgnbjkpnaaDoorPNu
set_option linter.all false
set_option autoImplicit true
/-
  ref01.Sum: turning, the words of a block.
-/
set_option maxRecDepth 100000
set_option linter.unusedVariables false
set_option linter.unusedSimpArgs false
namespace Go.Fm
open Go Go.Proofs
theorem turn_fn (b : Bool) (x : W32) (k : Nat) (h1 : 1 ≤ k) (hs : k ≤ 31) :
    fnX (cfg b) An 122 [.c (.int .u32 (wI x)), .c (.int .i64 (k : Int))] [] = some (.c (.int .u32 (wI (rotl x (32 - k)))), []) := by
  rw [fnX_eq, p122_eq]
  have e1 := w_shr x k (by omega)
  have e2 := w_shl x (32 - k) (by omega)
  have h2 : iSub .i64 32 (k : Int) = ((32 - k : Nat) : Int) := by
    unfold iSub; rw [i64_small (by omega) (by omega)]; omega
  have h3 : 32 - (32 - k) = k := by omega
  obtain ⟨m, hm⟩ : ∃ m, m = 32 - k := ⟨_, rfl⟩
  unfold rotl
  rw [h3]
  rw [← hm] at h2 e2 ⊢
  have n1 : ¬ ((k : Int) < 0) := by omega
  have n2 : ¬ ((m : Int) < 0) := by omega
  simp [p122, h1, h2, n1, n2, e1, e2, w_or, BitVec.or_comm]
theorem turn_call (b : Bool) (x : W32) (H : Heap) (k : Nat) (h1 : 1 ≤ k) (hs : k ≤ 31) :
    callX (cfg b) An 122 [.c (.int .u32 (wI x)), .c (.int .i64 (k : Int))] H = some (.c (.int .u32 (wI (rotl x (32 - k)))), H) :=
  callX_pure (turn_fn b x k h1 hs) rfl rfl (prim_none (by decide)) H
section
variable (b : Bool) (x : W32) (H : Heap)
theorem tn7 : callX (cfg b) An 122 [.c (.int .u32 (wI x)), .c (.int .i64 7)] H = some (.c (.int .u32 (wI (rotl x 25))), H) := turn_call b x H 7 (by decide) (by decide)
theorem tn18 : callX (cfg b) An 122 [.c (.int .u32 (wI x)), .c (.int .i64 18)] H = some (.c (.int .u32 (wI (rotl x 14))), H) := turn_call b x H 18 (by decide) (by decide)
theorem tn17 : callX (cfg b) An 122 [.c (.int .u32 (wI x)), .c (.int .i64 17)] H = some (.c (.int .u32 (wI (rotl x 15))), H) := turn_call b x H 17 (by decide) (by decide)
theorem tn19 : callX (cfg b) An 122 [.c (.int .u32 (wI x)), .c (.int .i64 19)] H = some (.c (.int .u32 (wI (rotl x 13))), H) := turn_call b x H 19 (by decide) (by decide)
theorem tn6 : callX (cfg b) An 122 [.c (.int .u32 (wI x)), .c (.int .i64 6)] H = some (.c (.int .u32 (wI (rotl x 26))), H) := turn_call b x H 6 (by decide) (by decide)
theorem tn11 : callX (cfg b) An 122 [.c (.int .u32 (wI x)), .c (.int .i64 11)] H = some (.c (.int .u32 (wI (rotl x 21))), H) := turn_call b x H 11 (by decide) (by decide)
theorem tn25 : callX (cfg b) An 122 [.c (.int .u32 (wI x)), .c (.int .i64 25)] H = some (.c (.int .u32 (wI (rotl x 7))), H) := turn_call b x H 25 (by decide) (by decide)
theorem tn2 : callX (cfg b) An 122 [.c (.int .u32 (wI x)), .c (.int .i64 2)] H = some (.c (.int .u32 (wI (rotl x 30))), H) := turn_call b x H 2 (by decide) (by decide)
theorem tn13 : callX (cfg b) An 122 [.c (.int .u32 (wI x)), .c (.int .i64 13)] H = some (.c (.int .u32 (wI (rotl x 19))), H) := turn_call b x H 13 (by decide) (by decide)
theorem tn22 : callX (cfg b) An 122 [.c (.int .u32 (wI x)), .c (.int .i64 22)] H = some (.c (.int .u32 (wI (rotl x 10))), H) := turn_call b x H 22 (by decide) (by decide)
end
theorem bW_hi (x : UInt8) (i : Nat) (h : 8 ≤ i) : (bW x).getLsbD i = false := by
  unfold bW
  rw [BitVec.getLsbD_ofNat]
  have : x.toNat.testBit i = false := Nat.testBit_lt_two_pow (Nat.lt_of_lt_of_le x.toNat_lt (Nat.pow_le_pow_right (by omega) h))
  simp [this]
theorem sh_hi (x : UInt8) (s i : Nat) (h : s + 8 ≤ i) : (bW x <<< s).getLsbD i = false := by
  rw [BitVec.getLsbD_shiftLeft, bW_hi x (i - s) (by omega)]; simp
theorem sh_lo (x : W32) (s i : Nat) (h : i < s) : (x <<< s).getLsbD i = false := by
  rw [BitVec.getLsbD_shiftLeft]; simp [h]
theorem and_zero {x y : W32} (s : Nat) (h : ∀ i, s ≤ i → x.getLsbD i = false) (h2 : ∀ i, i < s → y.getLsbD i = false) : y &&& x = 0#32 := by
  apply BitVec.eq_of_getLsbD_eq
  intro i hi
  rw [BitVec.getLsbD_and]
  by_cases c : i < s
  · simp [h2 i c]
  · simp [h i (by omega)]
theorem word4_add (b0 b1 b2 b3 : UInt8) : bW b0 <<< 24 + bW b1 <<< 16 + bW b2 <<< 8 + bW b3 = word4 b0 b1 b2 b3 := by
  unfold word4
  rw [BitVec.add_eq_or_of_and_eq_zero (bW b0 <<< 24) (bW b1 <<< 16) (and_zero 24 (fun i hi => sh_hi b1 16 i hi) (fun i hi => sh_lo _ 24 i hi))]
  rw [BitVec.add_eq_or_of_and_eq_zero _ (bW b2 <<< 8) (and_zero 16 (fun i hi => sh_hi b2 8 i hi) (fun i hi => by rw [BitVec.getLsbD_or, sh_lo _ 24 i (by omega), sh_lo _ 16 i (by omega)]; rfl))]
  rw [BitVec.add_eq_or_of_and_eq_zero _ (bW b3) (and_zero 8 (fun i hi => bW_hi b3 i hi) (fun i hi => by rw [BitVec.getLsbD_or, BitVec.getLsbD_or, sh_lo _ 24 i (by omega), sh_lo _ 16 i (by omega), sh_lo _ 8 i hi]; rfl))]
def wCs (ws : List W32) : List CV := ws.map wC
theorem wCs_len (ws : List W32) : (wCs ws).length = ws.length := by simp [wCs]
theorem nthC_w (ws : List W32) (i : Nat) (h : i < ws.length) : nthC (wCs ws) i = .int .u32 (wI (nthW ws i)) := by
  unfold wCs; rw [nthC_map 0 h]; rfl
theorem size_w (ws : List W32) (i : Nat) (h : i < ws.length) : (nthC (wCs ws) i).size = 1 := by rw [nthC_w ws i h]; rfl
theorem wCs_set (ws : List W32) (i : Nat) (x : W32) : (wCs ws).set i (.int .u32 (wI x)) = wCs (ws.set i x) := by simp [wCs, wC]
/-! CF -/
set_option maxHeartbeats 4000000 in
theorem r6_step (b : Bool) (cf : CallFn) (A : CV) (m : List UInt8) (hs ws : List W32) (hw : ws.length = 64) (hm : m.length ≤ 140737488355328) (at' i : Nat) (ha : at' + 64 ≤ m.length) (hi : i < 16) :
    p90_l6 b cf 0 [.ov 0 [] 0, .os 1, .os 2, .c (.int .i64 at'), .os 3, .c (.int .i64 i)] [.var 41 (.c A), .row 5 1 (bytesAV m), .row 192 1 (wCs hs), .row 192 1 (wCs ws)] =
      some (.cont [.ov 0 [] 0, .os 1, .os 2, .c (.int .i64 at'), .os 3, .c (.int .i64 ((i + 1 : Nat) : Int))], [.var 41 (.c A), .row 5 1 (bytesAV m), .row 192 1 (wCs hs), .row 192 1 (wCs (ws.set i (wordAt (m.drop at') i)))]) := by
  have c0 : decide ((i : Int) < 16) = true := by simp; omega
  obtain ⟨j, e⟩ : ∃ j, j = 4 * i := ⟨_, rfl⟩
  obtain ⟨j0, e0⟩ : ∃ j, j = at' + 4 * i := ⟨_, rfl⟩
  obtain ⟨j1, e1⟩ : ∃ j, j = at' + 4 * i + 1 := ⟨_, rfl⟩
  obtain ⟨j2, e2⟩ : ∃ j, j = at' + 4 * i + 2 := ⟨_, rfl⟩
  obtain ⟨j3, e3⟩ : ∃ j, j = at' + 4 * i + 3 := ⟨_, rfl⟩
  have a : iMul .i64 4 (i : Int) = (j : Int) := by unfold iMul; rw [i64_small (by omega) (by omega)]; omega
  have a0 : iAdd .i64 (at' : Int) (j : Int) = (j0 : Int) := by unfold iAdd; rw [i64_small (by omega) (by omega)]; omega
  have a1 : iAdd .i64 (j0 : Int) 1 = (j1 : Int) := by unfold iAdd; rw [i64_small (by omega) (by omega)]; omega
  have a2 : iAdd .i64 (j0 : Int) 2 = (j2 : Int) := by unfold iAdd; rw [i64_small (by omega) (by omega)]; omega
  have a3 : iAdd .i64 (j0 : Int) 3 = (j3 : Int) := by unfold iAdd; rw [i64_small (by omega) (by omega)]; omega
  have a4 := add1_nat i (by omega)
  have b0 : j0 < m.length := by omega
  have b1 : j1 < m.length := by omega
  have b2 : j2 < m.length := by omega
  have b3 : j3 < m.length := by omega
  have b4 : i < 64 := by omega
  have hlt : (i : Int) < 64 := by omega
  have hn : ∀ k, nthB (m.drop at') k = nthB m (at' + k) := fun k => by
    unfold nthB; rw [List.getD_eq_getElem?_getD, List.getD_eq_getElem?_getD, List.getElem?_drop]
  have hW : wordAt (m.drop at') i = bW (nthB m j0) <<< 24 + bW (nthB m j1) <<< 16 + bW (nthB m j2) <<< 8 + bW (nthB m j3) := by
    subst e0 e1 e2 e3; rw [word4_add]; unfold wordAt; rw [hn, hn, hn, hn]; rfl
  have hz := size_w ws i (by omega)
  simp (maxSteps := 400000) [p90_l6, hz, c0, a, a0, a1, a2, a3, a4, b0, b1, b2, b3, b4, hlt, hw, conv_b, w_shl24, w_shl16, w_shl8, w_add, hW, wCs_len, wCs_set]
end Go.Fm
/-
  ref01.Sum: the schedule, the rounds.
-/
set_option maxRecDepth 100000
set_option linter.unusedVariables false
set_option linter.unusedSimpArgs false
namespace Go.Fm
open Go Go.Proofs
/-! CF -/
set_option maxHeartbeats 4000000 in
theorem r8_step (A : CV) (M : List UInt8) (hs ws : List W32) (hw : ws.length = 64) (at' i : Nat) (hl : 16 ≤ i) (hi : i < 64) :
    p90_l8 true (callX (cfg true) An) 0 [.ov 0 [] 0, .os 1, .os 2, .c (.int .i64 at'), .os 3, .c (.int .i64 i)] [.var 41 (.c A), .row 5 1 (bytesAV M), .row 192 1 (wCs hs), .row 192 1 (wCs ws)] =
      some (.cont [.ov 0 [] 0, .os 1, .os 2, .c (.int .i64 at'), .os 3, .c (.int .i64 ((i + 1 : Nat) : Int))], [.var 41 (.c A), .row 5 1 (bytesAV M), .row 192 1 (wCs hs), .row 192 1 (wCs (ws.set i (nextW ws i)))]) := by
  have c0 : decide ((i : Int) < 64) = true := by simp; omega
  obtain ⟨j15, e15⟩ : ∃ j, j = i - 15 := ⟨_, rfl⟩
  obtain ⟨j2, e2⟩ : ∃ j, j = i - 2 := ⟨_, rfl⟩
  obtain ⟨j16, e16⟩ : ∃ j, j = i - 16 := ⟨_, rfl⟩
  obtain ⟨j7, e7⟩ : ∃ j, j = i - 7 := ⟨_, rfl⟩
  have a15 : iSub .i64 (i : Int) 15 = (j15 : Int) := e15 ▸ sub_nat i 15 (by omega) (by omega)
  have a2 : iSub .i64 (i : Int) 2 = (j2 : Int) := e2 ▸ sub_nat i 2 (by omega) (by omega)
  have a16 : iSub .i64 (i : Int) 16 = (j16 : Int) := e16 ▸ sub_nat i 16 (by omega) (by omega)
  have a7 : iSub .i64 (i : Int) 7 = (j7 : Int) := e7 ▸ sub_nat i 7 (by omega) (by omega)
  have a4 := add1_nat i (by omega)
  have b15 : j15 < 64 := by omega
  have b2 : j2 < 64 := by omega
  have b16 : j16 < 64 := by omega
  have b7 : j7 < 64 := by omega
  have d15 : (j15 : Int) < 64 := by omega
  have d2 : (j2 : Int) < 64 := by omega
  have d16 : (j16 : Int) < 64 := by omega
  have d7 : (j7 : Int) < 64 := by omega
  have di : (i : Int) < 64 := by omega
  have n15 := nthC_w ws j15 (by omega)
  have n2 := nthC_w ws j2 (by omega)
  have n16 := nthC_w ws j16 (by omega)
  have n7 := nthC_w ws j7 (by omega)
  have hz := size_w ws i (by omega)
  have hW : nextW ws i = nthW ws j16 + sigA (nthW ws j15) + nthW ws j7 + sigB (nthW ws j2) := by
    subst e15 e2 e16 e7; rfl
  simp (maxSteps := 400000) [p90_l8, c0, a15, a2, a16, a7, a4, b15, b2, b16, b7, hi, hw, d15, d2, d16, d7, di, n15, n2, n16, n7, hz, wCs_len, wCs_set, tn7, tn18, tn17, tn19, w_xor, w_add, w_shr3, w_shr10, hW, sigA, sigB]
end Go.Fm
/-
  ref01.Sum: a round.
-/
set_option maxRecDepth 100000
set_option linter.unusedVariables false
set_option linter.unusedSimpArgs false
namespace Go.Fm
open Go Go.Proofs
theorem ch_or (e f g : W32) : (e &&& f) ||| (~~~ e &&& g) = (e &&& f) ^^^ (~~~ e &&& g) := by
  apply BitVec.eq_of_getLsbD_eq
  intro i hi
  simp only [BitVec.getLsbD_or, BitVec.getLsbD_and, BitVec.getLsbD_xor, BitVec.getLsbD_not]
  cases e.getLsbD i <;> cases f.getLsbD i <;> cases g.getLsbD i <;> simp [hi]
theorem maj_or (a b c : W32) : (a &&& b) ||| (a &&& c) ||| (b &&& c) = (a &&& b) ^^^ (a &&& c) ^^^ (b &&& c) := by
  apply BitVec.eq_of_getLsbD_eq
  intro i hi
  simp only [BitVec.getLsbD_or, BitVec.getLsbD_and, BitVec.getLsbD_xor]
  cases a.getLsbD i <;> cases b.getLsbD i <;> cases c.getLsbD i <;> rfl
def St.s8 (s : St) : List AV := [.c (.int .u32 (wI s.a)), .c (.int .u32 (wI s.b)), .c (.int .u32 (wI s.c)), .c (.int .u32 (wI s.d)), .c (.int .u32 (wI s.e)), .c (.int .u32 (wI s.f)), .c (.int .u32 (wI s.g)), .c (.int .u32 (wI s.h))]
/-! CF -/
set_option maxHeartbeats 8000000 in
theorem r10_step (A : CV) (M : List UInt8) (hs ws : List W32) (hw : ws.length = 64) (at' i : Nat) (hi : i < 64) (s : St) :
    p90_l10 true (callX (cfg true) An) 0 ([.ov 0 [] 0, .os 1, .os 2, .c (.int .i64 at'), .os 3] ++ s.s8 ++ [.c (.int .i64 i)]) [.var 41 (.c A), .row 5 1 (bytesAV M), .row 192 1 (wCs hs), .row 192 1 (wCs ws)] =
      some (.cont ([.ov 0 [] 0, .os 1, .os 2, .c (.int .i64 at'), .os 3] ++ (s.next (nthW kW i) (nthW ws i)).s8 ++ [.c (.int .i64 ((i + 1 : Nat) : Int))]), [.var 41 (.c A), .row 5 1 (bytesAV M), .row 192 1 (wCs hs), .row 192 1 (wCs ws)]) := by
  have c0 : decide ((i : Int) < 64) = true := by simp; omega
  have a4 := add1_nat i (by omega)
  have di : (i : Int) < 64 := by omega
  have n1 := nthC_w ws i (by omega)
  obtain ⟨s1, s2, s3, s4, s5, s6, s7, s8⟩ := s
  obtain ⟨T1, hT1⟩ : ∃ T, T = t1W ⟨s1, s2, s3, s4, s5, s6, s7, s8⟩ (nthW kW i) (nthW ws i) := ⟨_, rfl⟩
  obtain ⟨T2, hT2⟩ : ∃ T, T = t2W ⟨s1, s2, s3, s4, s5, s6, s7, s8⟩ := ⟨_, rfl⟩
  rw [St.next, ← hT1, ← hT2]
  simp only [t1W] at hT1
  simp only [t2W] at hT2
  simp (maxSteps := 400000) [p90_l10, c0, a4, hi, di, hw, n1, nthI_k, words_len, wCs_len, tn6, tn11, tn25, tn2, tn13, tn22, w_xor, w_and, w_or, w_not, w_add, ch_or, maj_or, St.s8, glR, ← hT1, ← hT2]
end Go.Fm
/-
  ref01.Sum: adding, the output, the loops.
-/
set_option maxRecDepth 100000
set_option linter.unusedVariables false
set_option linter.unusedSimpArgs false
namespace Go.Fm
open Go Go.Proofs
/-! CF -/
set_option maxHeartbeats 4000000 in
theorem r12_step (cf : CallFn) (A : CV) (M : List UInt8) (hs vs : List W32) (hw : hs.length = 8) (hv : vs.length = 8) (at' i : Nat) (hi : i < 8) :
    p90_l12 true cf 0 [.ov 0 [] 0, .os 1, .os 2, .c (.int .i64 at'), .os 3, .c (.int .i64 i)] [.var 41 (.c A), .row 5 1 (bytesAV M), .row 192 1 (wCs hs), .row 192 1 (wCs vs)] =
      some (.cont [.ov 0 [] 0, .os 1, .os 2, .c (.int .i64 at'), .os 3, .c (.int .i64 ((i + 1 : Nat) : Int))], [.var 41 (.c A), .row 5 1 (bytesAV M), .row 192 1 (wCs (hs.set i (nthW hs i + nthW vs i))), .row 192 1 (wCs vs)]) := by
  have c0 : decide ((i : Int) < 8) = true := by simp; omega
  have a4 := add1_nat i (by omega)
  have di : (i : Int) < 8 := by omega
  have n1 := nthC_w hs i (by omega)
  have n2 := nthC_w vs i (by omega)
  have hz := size_w hs i (by omega)
  simp (maxSteps := 400000) [p90_l12, c0, a4, hi, di, hw, hv, n1, n2, w_add, wCs_len, wCs_set]
set_option maxHeartbeats 4000000 in
theorem r14_step (cf : CallFn) (A : CV) (s : St) (ds : List UInt8) (hd : ds.length = 32) (i : Nat) (hi : i < 32) :
    p90_l14 true cf 0 [.ov 0 [] 0, .os 1, .ov 2 [] 0, .c (.int .i64 i)] [.var 41 (.c A), .row 192 1 (wCs s.l), .var 41 (.c (.arr 32 .u8 (dI ds)))] =
      some (.cont [.ov 0 [] 0, .os 1, .ov 2 [] 0, .c (.int .i64 ((i + 1 : Nat) : Int))], [.var 41 (.c A), .row 192 1 (wCs s.l), .var 41 (.c (.arr 32 .u8 (dI (ds.set i (outB s i)))))]) := by
  have di : (i : Int) < 32 := by omega
  have a4 := add1_nat i (by omega)
  obtain ⟨q, hq⟩ : ∃ q, q = i / 4 := ⟨_, rfl⟩
  obtain ⟨r, hr⟩ : ∃ r, r = i % 4 := ⟨_, rfl⟩
  obtain ⟨t, ht⟩ : ∃ t, t = 8 * r := ⟨_, rfl⟩
  obtain ⟨u, hu⟩ : ∃ u, u = 24 - 8 * r := ⟨_, rfl⟩
  have e1 : IntKind.i64.wrap ((i : Int).tdiv 4) = (q : Int) := by
    rw [Int.tdiv_eq_ediv_of_nonneg (by omega), i64_small (by omega) (by omega)]; omega
  have e1' : IntKind.i64.wrap ((i : Int) / 4) = (q : Int) := by
    rw [i64_small (by omega) (by omega)]; omega
  have e2 : ((i : Int)).tmod 4 = (r : Int) := hr ▸ tmod_nat i 4
  have e3 : iMul .i64 8 (r : Int) = (t : Int) := by unfold iMul; rw [i64_small (by omega) (by omega)]; omega
  have e4 : iSub .i64 24 (t : Int) = (u : Int) := by unfold iSub; rw [i64_small (by omega) (by omega)]; omega
  have e5 : ¬ (u : Int) < 0 := by omega
  have e6 : (q : Int) < 8 := by omega
  have e7 : q < 8 := by omega
  have ho : outB s i = byteOf (iShr .u32 (wI (nthW s.l q)) (u : Int)) := by subst hq hr ht hu; rfl
  have hl : s.l.length = 8 := rfl
  have hb := wrap_byte (iShr .u32 (wI (nthW s.l q)) (u : Int))
  rw [← ho] at hb
  generalize outB s i = o at hb ⊢
  have hdl : (dI ds).length = 32 := by simp [dI, hd]
  have hset : (dI ds).set i (o.toNat : Int) = dI (ds.set i o) := by simp [dI]
  have n1 := nthC_w s.l q (by omega)
  simp [p90_l14, di, a4, hi, e1, e1', e2, e3, e4, e5, e6, e7, hl, n1, hb, hdl, hset, wCs_len]
theorem r14_run (cf : CallFn) (A : CV) (s : St) : ∀ (n i : Nat) (ds : List UInt8), ds.length = 32 → i + n = 32 →
    loopX 0 (p90_l14 true cf 0) [.ov 0 [] 0, .os 1, .ov 2 [] 0, .c (.int .i64 i)] [.var 41 (.c A), .row 192 1 (wCs s.l), .var 41 (.c (.arr 32 .u8 (dI ds)))] =
      some (.exit 14 [.ov 0 [] 0, .ov 2 [] 0], [.var 41 (.c A), .row 192 1 (wCs s.l), .var 41 (.c (.arr 32 .u8 (dI (l8W s n i ds))))])
  | 0, i, ds, hd, hi => by
    rw [loopX_eq]
    have c0 : ¬ (i : Int) < 32 := by omega
    simp [p90_l14, c0, l8W]
  | n + 1, i, ds, hd, hi => by
    rw [loopX_eq]
    have := r14_step cf A s ds hd i (by omega)
    simp [this]
    have := r14_run cf A s n (i + 1) (ds.set i (outB s i)) (by simpa) (by omega)
    simp at this
    exact this
theorem r12_run (cf : CallFn) (A : CV) (M : List UInt8) (vs : List W32) (hv : vs.length = 8) (at' : Nat) : ∀ (n i : Nat) (hs : List W32), hs.length = 8 → i + n = 8 →
    loopX 0 (p90_l12 true cf 0) [.ov 0 [] 0, .os 1, .os 2, .c (.int .i64 at'), .os 3, .c (.int .i64 i)] [.var 41 (.c A), .row 5 1 (bytesAV M), .row 192 1 (wCs hs), .row 192 1 (wCs vs)] =
      some (.exit 12 [.ov 0 [] 0, .os 1, .os 2, .c (.int .i64 at')], [.var 41 (.c A), .row 5 1 (bytesAV M), .row 192 1 (wCs (l6W vs n i hs)), .row 192 1 (wCs vs)])
  | 0, i, hs, hw, hi => by
    rw [loopX_eq]
    have c0 : decide ((i : Int) < 8) = false := by simp; omega
    simp [p90_l12, c0, l6W]
  | n + 1, i, hs, hw, hi => by
    rw [loopX_eq]
    have := r12_step cf A M hs vs hw hv at' i (by omega)
    simp [this]
    have := r12_run cf A M vs hv at' n (i + 1) (hs.set i (nthW hs i + nthW vs i)) (by simpa) (by omega)
    simp at this
    exact this
theorem r10_run (A : CV) (M : List UInt8) (hs ws : List W32) (hw : ws.length = 64) (at' : Nat) : ∀ (n i : Nat) (s : St), i + n = 64 →
    loopX 0 (p90_l10 true (callX (cfg true) An) 0) ([.ov 0 [] 0, .os 1, .os 2, .c (.int .i64 at'), .os 3] ++ s.s8 ++ [.c (.int .i64 i)]) [.var 41 (.c A), .row 5 1 (bytesAV M), .row 192 1 (wCs hs), .row 192 1 (wCs ws)] =
      some (.exit 10 ([.ov 0 [] 0, .os 1, .os 2, .c (.int .i64 at')] ++ (l4W ws n i s).s8), [.var 41 (.c A), .row 5 1 (bytesAV M), .row 192 1 (wCs hs), .row 192 1 (wCs ws)])
  | 0, i, s, hi => by
    rw [loopX_eq]
    have c0 : decide ((i : Int) < 64) = false := by simp; omega
    simp [p90_l10, c0, l4W, St.s8]
  | n + 1, i, s, hi => by
    rw [loopX_eq]
    have := r10_step A M hs ws hw at' i (by omega) s
    have hg : gcL 0 ([.ov 0 [] 0, .os 1, .os 2, .c (.int .i64 at'), .os 3] ++ s.s8 ++ [.c (.int .i64 i)]) [.var 41 (.c A), .row 5 1 (bytesAV M), .row 192 1 (wCs hs), .row 192 1 (wCs ws)] = some (([.ov 0 [] 0, .os 1, .os 2, .c (.int .i64 at'), .os 3] ++ s.s8 ++ [.c (.int .i64 i)]), [.var 41 (.c A), .row 5 1 (bytesAV M), .row 192 1 (wCs hs), .row 192 1 (wCs ws)]) := by simp [St.s8]
    simp only [hg, this]
    exact r10_run A M hs ws hw at' n (i + 1) (s.next (nthW kW i) (nthW ws i)) (by omega)
theorem r8_run (A : CV) (M : List UInt8) (hs : List W32) (at' : Nat) : ∀ (n i : Nat) (ws : List W32), ws.length = 64 → 16 ≤ i → i + n = 64 →
    loopX 0 (p90_l8 true (callX (cfg true) An) 0) [.ov 0 [] 0, .os 1, .os 2, .c (.int .i64 at'), .os 3, .c (.int .i64 i)] [.var 41 (.c A), .row 5 1 (bytesAV M), .row 192 1 (wCs hs), .row 192 1 (wCs ws)] =
      some (.exit 8 [.ov 0 [] 0, .os 1, .os 2, .c (.int .i64 at'), .os 3], [.var 41 (.c A), .row 5 1 (bytesAV M), .row 192 1 (wCs hs), .row 192 1 (wCs (l2W n i ws))])
  | 0, i, ws, hw, hl, hi => by
    rw [loopX_eq]
    have c0 : decide ((i : Int) < 64) = false := by simp; omega
    simp [p90_l8, c0, l2W]
  | n + 1, i, ws, hw, hl, hi => by
    rw [loopX_eq]
    have := r8_step A M hs ws hw at' i hl (by omega)
    simp [this]
    have := r8_run A M hs at' n (i + 1) (ws.set i (nextW ws i)) (by simpa) (by omega) (by omega)
    simp at this
    exact this
theorem r6_run (cf : CallFn) (A : CV) (m : List UInt8) (hm : m.length ≤ 140737488355328) (hs : List W32) (at' : Nat) (ha : at' + 64 ≤ m.length) : ∀ (n i : Nat) (ws : List W32), ws.length = 64 → i + n = 16 →
    loopX 0 (p90_l6 true cf 0) [.ov 0 [] 0, .os 1, .os 2, .c (.int .i64 at'), .os 3, .c (.int .i64 i)] [.var 41 (.c A), .row 5 1 (bytesAV m), .row 192 1 (wCs hs), .row 192 1 (wCs ws)] =
      some (.exit 6 [.ov 0 [] 0, .os 1, .os 2, .c (.int .i64 at'), .os 3], [.var 41 (.c A), .row 5 1 (bytesAV m), .row 192 1 (wCs hs), .row 192 1 (wCs (l0W (m.drop at') n i ws))])
  | 0, i, ws, hw, hi => by
    rw [loopX_eq]
    have c0 : decide ((i : Int) < 16) = false := by simp; omega
    simp [p90_l6, c0, l0W]
  | n + 1, i, ws, hw, hi => by
    rw [loopX_eq]
    have := r6_step true cf A m hs ws hw hm at' i ha (by omega)
    simp [this]
    have := r6_run cf A m hm hs at' ha n (i + 1) (ws.set i (wordAt (m.drop at') i)) (by simpa) (by omega)
    simp at this
    exact this
end Go.Fm
/-
  ref01.Sum: a block, the blocks.
-/
set_option maxRecDepth 100000
set_option linter.unusedVariables false
set_option linter.unusedSimpArgs false
namespace Go.Fm
open Go Go.Proofs
section
variable {a0 a1 a2 a3 a4 a5 a6 a7 : CV} {l : List CV}
theorem nthC_n0 : nthC (a0 :: l) 0 = a0 := (rfl)
theorem nthC_n1 : nthC (a0 :: a1 :: l) 1 = a1 := (rfl)
theorem nthC_n2 : nthC (a0 :: a1 :: a2 :: l) 2 = a2 := (rfl)
theorem nthC_n3 : nthC (a0 :: a1 :: a2 :: a3 :: l) 3 = a3 := (rfl)
theorem nthC_n4 : nthC (a0 :: a1 :: a2 :: a3 :: a4 :: l) 4 = a4 := (rfl)
theorem nthC_n5 : nthC (a0 :: a1 :: a2 :: a3 :: a4 :: a5 :: l) 5 = a5 := (rfl)
theorem nthC_n6 : nthC (a0 :: a1 :: a2 :: a3 :: a4 :: a5 :: a6 :: l) 6 = a6 := (rfl)
theorem nthC_n7 : nthC (a0 :: a1 :: a2 :: a3 :: a4 :: a5 :: a6 :: a7 :: l) 7 = a7 := (rfl)
end
theorem rep8 (z a b c d e f g h : CV) : ((((((((List.replicate 8 z).set 0 a).set 1 b).set 2 c).set 3 d).set 4 e).set 5 f).set 6 g).set 7 h = [a, b, c, d, e, f, g, h] := (rfl)
/-! CF -/
set_option maxHeartbeats 16000000 in
theorem r4_step (A : CV) (m : List UInt8) (hm : m.length ≤ 140737488355328) (s : St) (at' : Nat) (ha : at' + 64 ≤ m.length) :
    p90_l4 true (callX (cfg true) An) 0 [.ov 0 [] 0, .os 1, .os 2, .c (.int .i64 at')] [.var 41 (.c A), .row 5 1 (bytesAV m), .row 192 1 (wCs s.l)] =
      some (.cont [.ov 0 [] 0, .os 1, .os 2, .c (.int .i64 ((at' + 64 : Nat) : Int))], [.var 41 (.c A), .row 5 1 (bytesAV m), .row 192 1 (wCs (blockW (m.drop at') s).l), .row 192 1 (wCs (l4W (schedW (m.drop at')) 64 0 s).l)]) := by
  have c0 : decide ((at' : Int) < (m.length : Int)) = true := by simp; omega
  have c1 : at' < m.length := by omega
  have e6 := r6_run (callX (cfg true) An) A m hm s.l at' ha 16 0 zeroW rfl rfl
  have e8 := r8_run A m s.l at' 48 16 (l0W (m.drop at') 16 0 zeroW) (by rw [l0W_len]; rfl) (by decide) rfl
  rw [← schedW] at e8
  have e10 := r10_run A m s.l (schedW (m.drop at')) (schedW_len _) at' 64 0 s rfl
  have e12 := r12_run (callX (cfg true) An) A m (l4W (schedW (m.drop at')) 64 0 s).l rfl at' 8 0 s.l rfl rfl
  rw [l6_plus, ← blockW] at e12
  have hz : wCs zeroW = List.replicate 64 (.int .u32 0) := by unfold wCs zeroW; rw [List.map_replicate]; rfl
  rw [hz] at e6
  have n0 : ((0 : Nat) : Int) = 0 := rfl
  have n16 : ((16 : Nat) : Int) = 16 := rfl
  rw [n0] at e6 e10 e12
  rw [n16] at e8
  have a4 : iAdd .i64 (at' : Int) 64 = ((at' + 64 : Nat) : Int) := by
    unfold iAdd; rw [i64_small (by omega) (by omega)]; omega
  rw [← loopX_gc (s := [.ov 0 [] 0, .os 1, .os 2, .c (.int .i64 at'), .os 4, .c (.int .i64 0)]) (H := [.var 41 (.c A), .row 5 1 (bytesAV m), .row 192 1 (wCs s.l), .row 192 1 (wCs (schedW (m.drop at'))), .row 192 1 (wCs (l4W (schedW (m.drop at')) 64 0 s).l)]) (by simp) (by simp)] at e12
  generalize schedW (m.drop at') = S at *
  generalize blockW (m.drop at') s = B at *
  generalize l4W S 64 0 s = V at *
  have hs : ∀ s : St, wCs s.l = [.int .u32 (wI s.a), .int .u32 (wI s.b), .int .u32 (wI s.c), .int .u32 (wI s.d), .int .u32 (wI s.e), .int .u32 (wI s.f), .int .u32 (wI s.g), .int .u32 (wI s.h)] := fun _ => rfl
  simp only [St.s8, hs, List.cons_append, List.nil_append] at e6 e8 e10 e12 ⊢
  have hx : (64 : Int) ≤ (maxLen : Int) := by unfold maxLen; omega
  simp (maxSteps := 2000000) [-List.reduceReplicate, p90_l4, hx, rep8, nthC_n0, nthC_n1, nthC_n2, nthC_n3, nthC_n4, nthC_n5, nthC_n6, nthC_n7, c0, c1, a4, e6, e8, e10, e12]
end Go.Fm
/-
  ref01.Sum as a whole.
-/
set_option maxRecDepth 100000
set_option linter.unusedVariables false
set_option linter.unusedSimpArgs false
namespace Go.Fm
open Go Go.Proofs
theorem r4_run (A : CV) (m : List UInt8) (hm : m.length ≤ 140737488355328) : ∀ (n at' : Nat) (s : St), m.length = at' + 64 * n →
    loopX 0 (p90_l4 true (callX (cfg true) An) 0) [.ov 0 [] 0, .os 1, .os 2, .c (.int .i64 at')] [.var 41 (.c A), .row 5 1 (bytesAV m), .row 192 1 (wCs s.l)] =
      some (.exit 4 [.ov 0 [] 0, .os 2], [.var 41 (.c A), .row 5 1 (bytesAV m), .row 192 1 (wCs (blocksW n (m.drop at') s).l)])
  | 0, at', s, hl => by
    rw [loopX_eq, blocksW_0]
    have c0 : ¬ (at' : Int) < (m.length : Int) := by omega
    have c1 : ¬ at' < m.length := by omega
    simp [p90_l4, c0, c1]
  | n + 1, at', s, hl => by
    rw [loopX_eq, blocksW_s, List.drop_drop]
    have hg : gcL 0 [.ov 0 [] 0, .os 1, .os 2, .c (.int .i64 at')] [.var 41 (.c A), .row 5 1 (bytesAV m), .row 192 1 (wCs s.l)] = some ([.ov 0 [] 0, .os 1, .os 2, .c (.int .i64 at')], [.var 41 (.c A), .row 5 1 (bytesAV m), .row 192 1 (wCs s.l)]) := by simp
    simp only [hg, r4_step A m hm s at' (by omega)]
    rw [loopX_gc (s1 := [.ov 0 [] 0, .os 1, .os 2, .c (.int .i64 ((at' + 64 : Nat) : Int))]) (H1 := [.var 41 (.c A), .row 5 1 (bytesAV m), .row 192 1 (wCs (blockW (m.drop at') s).l)]) (by simp) (by simp)]
    exact r4_run A m hm n (at' + 64) _ (by omega)
set_option maxHeartbeats 4000000 in
theorem r0_step (cf : CallFn) (A T : CV) (m : List UInt8) (hm : m.length + 1 ≤ 140737488355328) (h : m.length % 64 ≠ 56) :
    p90_l0 true cf 0 [.c T, .ov 0 [] 0, .os 1] (mH (.c A) (some m)) =
      some (.cont [.c T, .ov 0 [] 0, .os 3], mHy (.c A) [0] m) := by
  obtain ⟨r, hr⟩ : ∃ r, r = m.length % 64 := ⟨_, rfl⟩
  have e1 : ((m.length : Int)).tmod 64 = (r : Int) := hr ▸ tmod_nat m.length 64
  have e2 : ((r : Int) != 56) = true := by simp; omega
  have hx := big_max hm
  have hb : bytesAV [0] = [.int .u8 0] := rfl
  have ha : bytesAV m ++ [.int .u8 0] = bytesAV (m ++ [0]) := by simp [bytesAV]
  simp [p90_l0, mH, mHy, e1, e2, hm, hx, hb, ha]
theorem r0_stop (cf : CallFn) (A T : CV) (m : List UInt8) (h : m.length % 64 = 56) :
    p90_l0 true cf 0 [.c T, .ov 0 [] 0, .os 1] (mH (.c A) (some m)) =
      some (.exit 0 [.c T, .ov 0 [] 0, .os 1], mH (.c A) (some m)) := by
  have e1 : ((m.length : Int)).tmod 64 = 56 := by rw [show (64 : Int) = ((64 : Nat) : Int) from rfl, tmod_nat, h]; rfl
  simp [p90_l0, mH, e1]
theorem gc_r0 (A T : CV) (q m : List UInt8) : gcL 0 [.c T, .ov 0 [] 0, .os 3] (mHy (.c A) q m) = some ([.c T, .ov 0 [] 0, .os 1], mH (.c A) (some (m ++ q))) := by
  simp [mHy, mH]
theorem gc_r1 (A T : CV) (m : List UInt8) : gcL 0 [.c T, .ov 0 [] 0, .os 1] (mH (.c A) (some m)) = some ([.c T, .ov 0 [] 0, .os 1], mH (.c A) (some m)) := by
  simp [mH]
theorem r0_run (cf : CallFn) (A T : CV) : ∀ (n : Nat) (m : List UInt8), n < 64 → (m.length + n) % 64 = 56 → m.length + n ≤ 140737488355328 →
    loopX 0 (p90_l0 true cf 0) [.c T, .ov 0 [] 0, .os 1] (mH (.c A) (some m)) =
      some (.exit 0 [.c T, .ov 0 [] 0, .os 1], mH (.c A) (some (m ++ List.replicate n 0)))
  | 0, m, hn, h, hm => by
    rw [loopX_eq, gc_r1]
    simp only [r0_stop cf A T m (by simpa using h), List.replicate_zero, List.append_nil]
  | n + 1, m, hn, h, hm => by
    rw [loopX_eq, gc_r1]
    simp only [r0_step cf A T m (by omega) (by omega)]
    rw [loopX_gc (gc_r0 A T [0] m) (gc_r1 A T _), r0_run cf A T n (m ++ [0]) (by omega) (by simp; omega) (by simp; omega)]
    simp [List.replicate_succ]
set_option maxHeartbeats 4000000 in
theorem r2_step (cf : CallFn) (A : CV) (z : Int) (m : List UInt8) (hm : m.length + 1 ≤ 140737488355328) (i k : Int) (h0 : i < 8) (h1 : iSub .i64 56 (iMul .i64 8 i) = k) (hk : 0 ≤ k) :
    p90_l2 true cf 0 [.ov 0 [] 0, .os 1, .c (.int .u64 z), .c (.int .i64 i)] (mH (.c A) (some m)) =
      some (.cont [.ov 0 [] 0, .os 3, .c (.int .u64 z), .c (.int .i64 (iAdd .i64 i 1))], mHy (.c A) [byteOf (iShr .u64 z k)] m) := by
  have c0 : ¬ k < 0 := by omega
  have hx := big_max hm
  obtain ⟨x, hq⟩ : ∃ x, x = byteOf (iShr .u64 z k) := ⟨_, rfl⟩
  have hz := wrap_byte (iShr .u64 z k)
  rw [← hq] at hz ⊢
  have hb : bytesAV [x] = [.int .u8 (x.toNat : Int)] := rfl
  have ha : bytesAV m ++ [.int .u8 (x.toNat : Int)] = bytesAV (m ++ [x]) := by simp [bytesAV]
  simp [p90_l2, mH, mHy, c0, h0, h1, hk, hm, hx, hb, ha, hz]
theorem r2_one (cf : CallFn) (A : CV) (z : Int) (m : List UInt8) (hm : m.length + 1 ≤ 140737488355328) (i k j : Int) (h0 : i < 8) (h1 : iSub .i64 56 (iMul .i64 8 i) = k) (hk : 0 ≤ k) (hj : iAdd .i64 i 1 = j) :
    loopX 0 (p90_l2 true cf 0) [.ov 0 [] 0, .os 1, .c (.int .u64 z), .c (.int .i64 i)] (mH (.c A) (some m)) =
      loopX 0 (p90_l2 true cf 0) [.ov 0 [] 0, .os 1, .c (.int .u64 z), .c (.int .i64 j)] (mH (.c A) (some (m ++ [byteOf (iShr .u64 z k)]))) := by
  rw [loopX_eq, gc_m1 A _ _ (by simp) (by simp)]
  simp only [r2_step cf A z m hm i k h0 h1 hk, hj]
  rw [loopX_gc (gc_y A _ m _ (by simp) (by simp)) (gc_m1 A _ _ (by simp) (by simp))]
theorem r2_stop (cf : CallFn) (A : CV) (z : Int) (m : List UInt8) :
    p90_l2 true cf 0 [.ov 0 [] 0, .os 1, .c (.int .u64 z), .c (.int .i64 8)] (mH (.c A) (some m)) =
      some (.exit 2 [.ov 0 [] 0, .os 1], mH (.c A) (some m)) := by
  simp [p90_l2, mH]
theorem r2_run (cf : CallFn) (A : CV) (z : Int) (m : List UInt8) (hm : m.length + 8 ≤ 140737488355328) :
    loopX 0 (p90_l2 true cf 0) [.ov 0 [] 0, .os 1, .c (.int .u64 z), .c (.int .i64 0)] (mH (.c A) (some m)) =
      some (.exit 2 [.ov 0 [] 0, .os 1], mH (.c A) (some (m ++ lenBytes z))) := by
  rw [r2_one cf A z m (by omega) 0 56 1 (by decide) (by decide) (by decide) (by decide), r2_one cf A z _ (by simp; omega) 1 48 2 (by decide) (by decide) (by decide) (by decide),
    r2_one cf A z _ (by simp; omega) 2 40 3 (by decide) (by decide) (by decide) (by decide), r2_one cf A z _ (by simp; omega) 3 32 4 (by decide) (by decide) (by decide) (by decide),
    r2_one cf A z _ (by simp; omega) 4 24 5 (by decide) (by decide) (by decide) (by decide), r2_one cf A z _ (by simp; omega) 5 16 6 (by decide) (by decide) (by decide) (by decide),
    r2_one cf A z _ (by simp; omega) 6 8 7 (by decide) (by decide) (by decide) (by decide), r2_one cf A z _ (by simp; omega) 7 0 8 (by decide) (by decide) (by decide) (by decide),
    loopX_eq, gc_m1 A _ _ (by simp) (by simp)]
  simp only [r2_stop cf A z]
  simp [lenBytes]
/-! CF -/
set_option maxHeartbeats 4000000 in
theorem rsum_fn (o : Option (List UInt8)) (hm : (pB o).length ≤ 100000000000000) :
    fnX (cfg true) An 90 [.c (pV o)] [] = some (.c (.arr 32 .u8 (dI (shaW (pB o)))), []) := by
  rw [fnX_eq, p90_eq]
  obtain ⟨A, hA⟩ : ∃ A, A = CV.arr 32 .u8 (List.replicate 32 0) := ⟨_, rfl⟩
  obtain ⟨m, hq⟩ : ∃ m, m = pB o := ⟨_, rfl⟩
  rw [← hq] at hm ⊢
  obtain ⟨n, hn⟩ := padded_64 m
  have hpl := padded_len m
  have hp64 : padN m.length < 64 := by unfold padN; omega
  have hp56 : (m.length + 1 + padN m.length) % 64 = 56 := by unfold padN; omega
  have e0 := r0_run (callX (cfg true) An) A (pV o) (padN m.length) (m ++ [128]) hp64 (by simpa using hp56) (by simp; omega)
  have e2 := r2_run (callX (cfg true) An) A (bitsZ m.length) (m ++ [128] ++ List.replicate (padN m.length) 0) (by simp; omega)
  rw [← padded] at e2
  have hdiv : (padded m).length / 64 = n + 1 := by omega
  have e4 := r4_run A (padded m) (by omega) ((padded m).length / 64) 0 ivW (by omega)
  rw [List.drop_zero] at e4
  have e14 := r14_run (callX (cfg true) An) A (blocksW ((padded m).length / 64) (padded m) ivW) 32 0 zero32 rfl rfl
  rw [← shaW] at e14
  have n0 : ((0 : Nat) : Int) = 0 := rfl
  have hz : dI zero32 = List.replicate 32 0 := by decide
  rw [n0] at e4 e14
  rw [hz] at e14
  have hb : IntKind.u64.wrap (m.length : Int) = (m.length : Int) := by
    unfold IntKind.wrap; simp [IntKind.bits, IntKind.signed]; omega
  have hb2 : iMul .u64 (m.length : Int) 8 = bitsZ m.length := by unfold bitsZ; rw [hb]
  have hx := big_max (n := m.length + 1) (by omega)
  have hx0 := big_max (n := m.length) (by omega)
  have hx1 : m.length + 1 ≤ 140737488355328 := by omega
  have hx2 : m.length ≤ 140737488355328 := by omega
  have h128 : bytesAV m ++ [.int .u8 128] = bytesAV (m ++ [128]) := by simp [bytesAV]
  have hl : (dI (shaW m)).length = 32 := by simp [dI, shaW_len]
  have hiv : wCs ivW.l = [.int .u32 1779033703, .int .u32 3144134277, .int .u32 1013904242, .int .u32 2773480762, .int .u32 1359893119, .int .u32 2600822924, .int .u32 528734635, .int .u32 1541459225] := rfl
  generalize blocksW ((padded m).length / 64) (padded m) ivW = S at e4 e14
  generalize shaW m = out at e14 hl ⊢
  generalize m ++ [128] ++ List.replicate (padN m.length) 0 = m2 at e0 e2
  generalize padded m = m3 at e2 e4
  rw [← loopX_gc (s := [.ov 0 [] 0, .os 2, .ov 3 [] 0, .c (.int .i64 0)]) (H := [.var 41 (.c A), .row 5 1 (bytesAV m3), .row 192 1 (wCs S.l), .var 41 (.c (.arr 32 .u8 (List.replicate 32 0)))]) (by simp) (by simp)] at e14
  simp only [mA, mH, hiv] at e0 e2 e4
  have nb : bytesAV [] = [] := rfl
  subst hA
  have hm1 := big_max (n := 1) (by omega)
  have h1 : bytesAV ([] ++ [128]) = [.int .u8 128] := rfl
  rw [← loopX_gc (s := [.c (pV o), .ov 0 [] 0, .os 4]) (H := [.var 41 (.c (.arr 32 .u8 (List.replicate 32 0))), .dead, .dead, .row 5 1 [.int .u8 128], .row 5 1 (bytesAV (m ++ [128]))]) (by simp [mH]) (by simp [mH])] at e0
  cases o with
  | none =>
    simp only [pB] at hq
    subst hq
    simp only [pV, h1] at e0 ⊢
    simp [-List.reduceReplicate, p90, e0, e2, e4, e14, hb, hb2, hx, hx1, hm1, hl, rep8] at *
  | some m' =>
    simp only [pB] at hq
    subst hq
    simp only [pV] at e0 ⊢
    simp [-List.reduceReplicate, p90, e0, e2, e4, e14, hb, hb2, hx, hx0, hx1, hx2, h128, hl, rep8]
end Go.Fm
