/-
  A part of the proof: PRfA.
-/
import Derived.Test.YtjmjijgnbjkpnaaPDec2
import Derived.Test.YtjmjijgnbjkpnaaDRef
set_option linter.all false
set_option autoImplicit true
/-
  ferrymanref01: Eight, Num, Put (the plain seat).
-/
set_option autoImplicit false
set_option maxRecDepth 100000
set_option linter.unusedVariables false
set_option linter.unusedSimpArgs false
namespace Go.Fm
open Go Go.Proofs
theorem gc_n (q r : List CV) (z k : Int) : gcL 0 [.c (.int .u64 z), .os 2, .c (.int .i64 k)] [.dead, .row 5 1 q, .row 5 1 r] = some ([.c (.int .u64 z), .os 0, .c (.int .i64 k)], [.row 5 1 r]) := by simp
theorem gc_n0 (r : List CV) (z k : Int) : gcL 0 [.c (.int .u64 z), .os 0, .c (.int .i64 k)] [.row 5 1 r] = some ([.c (.int .u64 z), .os 0, .c (.int .i64 k)], [.row 5 1 r]) := by simp
/-! ### Eight -/
set_option maxHeartbeats 4000000 in
theorem eight_step (b : Bool) (cf : CallFn) (z : Int) (m : List UInt8) (hm : m.length + 1 ≤ 1000) (i k : Int) (h0 : i < 8) (h1 : iSub .i64 56 (iMul .i64 8 i) = k) (hk : 0 ≤ k) :
    p40_l0 b cf 0 [.c (.int .u64 z), .os 0, .c (.int .i64 i)] [.row 5 1 (bytesAV m)] =
      some (.cont [.c (.int .u64 z), .os 2, .c (.int .i64 (iAdd .i64 i 1))], [.dead, .row 5 1 (bytesAV [byteOf (iShr .u64 z k)]), .row 5 1 (bytesAV (m ++ [byteOf (iShr .u64 z k)]))]) := by
  have c0 : ¬ k < 0 := by omega
  have hx := big_max (n := m.length + 1) (by omega)
  have hx1 : m.length + 1 ≤ 140737488355328 := by omega
  obtain ⟨x, hq⟩ : ∃ x, x = byteOf (iShr .u64 z k) := ⟨_, rfl⟩
  have hz := wrap_byte (iShr .u64 z k)
  rw [← hq] at hz ⊢
  have hb : bytesAV [x] = [.int .u8 (x.toNat : Int)] := rfl
  have ha : bytesAV m ++ [.int .u8 (x.toNat : Int)] = bytesAV (m ++ [x]) := by simp [bytesAV]
  simp [p40_l0, c0, h0, h1, hk, hx, hx1, hb, ha, hz]
theorem eight_one (b : Bool) (cf : CallFn) (z : Int) (m : List UInt8) (hm : m.length + 1 ≤ 1000) (i k j : Int) (h0 : i < 8) (h1 : iSub .i64 56 (iMul .i64 8 i) = k) (hk : 0 ≤ k) (hj : iAdd .i64 i 1 = j) :
    loopX 0 (p40_l0 b cf 0) [.c (.int .u64 z), .os 0, .c (.int .i64 i)] [.row 5 1 (bytesAV m)] =
      loopX 0 (p40_l0 b cf 0) [.c (.int .u64 z), .os 0, .c (.int .i64 j)] [.row 5 1 (bytesAV (m ++ [byteOf (iShr .u64 z k)]))] := by
  rw [loopX_eq, gc_n0]
  simp only [eight_step b cf z m hm i k h0 h1 hk, hj]
  rw [loopX_gc (gc_n _ _ _ _) (gc_n0 _ _ _)]
theorem eight_first (b : Bool) (cf : CallFn) (z : Int) :
    loopX 0 (p40_l0 b cf 0) [.c (.int .u64 z), .c .nilsl, .c (.int .i64 0)] [] =
      loopX 0 (p40_l0 b cf 0) [.c (.int .u64 z), .os 0, .c (.int .i64 1)] [.row 5 1 (bytesAV [byteOf (iShr .u64 z 56)])] := by
  rw [loopX_eq]
  have hx := big_max (n := 1) (by decide)
  have hz := wrap_byte (iShr .u64 z 56)
  have e : iAdd .i64 0 1 = 1 := by decide
  have e1 : iMul .i64 8 0 = 0 := by decide
  have e2 : iSub .i64 56 0 = 56 := by decide
  have hb : bytesAV [byteOf (iShr .u64 z 56)] = [.int .u8 ((byteOf (iShr .u64 z 56)).toNat : Int)] := rfl
  simp [p40_l0, hx, hz, e, e1, e2]
  rw [loopX_gc (s1 := [.c (.int .u64 z), .os 0, .c (.int .i64 1)]) (H1 := [.row 5 1 [.int .u8 ((byteOf (iShr .u64 z 56)).toNat : Int)]]) (by simp) (by simp), hb]
theorem eight_fn (b : Bool) (z : Int) : fnX (cfg b) An 40 [.c (.int .u64 z)] [] = some (.c (.sl 1 (bytesAV (lenBytes z))), []) := by
  rw [fnX_eq, p40_eq]
  have e : loopX 0 (p40_l0 b (callX (cfg b) An) 0) [.c (.int .u64 z), .c .nilsl, .c (.int .i64 0)] [] = some (.exit 0 [.os 0], [.row 5 1 (bytesAV (lenBytes z))]) := by
    rw [eight_first, eight_one b _ z _ (by simp) 1 48 2 (by decide) (by decide) (by decide) (by decide), eight_one b _ z _ (by simp) 2 40 3 (by decide) (by decide) (by decide) (by decide),
      eight_one b _ z _ (by simp) 3 32 4 (by decide) (by decide) (by decide) (by decide), eight_one b _ z _ (by simp) 4 24 5 (by decide) (by decide) (by decide) (by decide),
      eight_one b _ z _ (by simp) 5 16 6 (by decide) (by decide) (by decide) (by decide), eight_one b _ z _ (by simp) 6 8 7 (by decide) (by decide) (by decide) (by decide),
      eight_one b _ z _ (by simp) 7 0 8 (by decide) (by decide) (by decide) (by decide)]
    rw [loopX_eq, gc_n0]
    simp [p40_l0, lenBytes]
  have hk : (cfg b).keepR 40 = false := rfl
  simp [p40, e, hk]
theorem eight_call (b : Bool) (z : Int) (H : Heap) : callX (cfg b) An 40 [.c (.int .u64 z)] H = some (.c (.sl 1 (bytesAV (lenBytes z))), H) := callX_pure (eight_fn b z) rfl rfl (prim_none' (by decide)) H
theorem pVs (l : List UInt8) : pV (some l) = .sl 1 (bytesAV l) := rfl
def isZ (x : UInt8) : Bool := x == 0
def numR (z : Int) : List UInt8 := (lenBytes z).dropWhile isZ
theorem numG_dw (z : Int) : ∀ (n : Nat) (o : Option (List UInt8)), pB (numG z n o) = if 0 < (pB o).length then pB o ++ (List.range n).reverse.map (fun i => byteOf (iShr .u64 z ((8 * i : Nat) : Int))) else pB o ++ ((List.range n).reverse.map (fun i => byteOf (iShr .u64 z ((8 * i : Nat) : Int)))).dropWhile isZ
  | 0, o => by simp [numG]
  | n + 1, o => by
    rw [numG_s, numG_dw z n]
    have e : (List.range (n + 1)).reverse.map (fun i => byteOf (iShr .u64 z ((8 * i : Nat) : Int))) = byteOf (iShr .u64 z ((8 * n : Nat) : Int)) :: (List.range n).reverse.map (fun i => byteOf (iShr .u64 z ((8 * i : Nat) : Int))) := by
      rw [List.range_succ, List.reverse_append, List.map_append]; rfl
    rw [e]
    generalize byteOf (iShr .u64 z ((8 * n : Nat) : Int)) = x
    generalize (List.range n).reverse.map (fun i => byteOf (iShr .u64 z ((8 * i : Nat) : Int))) = l
    by_cases h0 : 0 < (pB o).length
    · have hc : x ≠ 0 ∨ 0 < (pB o).length := .inr h0
      rw [if_pos h0]
      simp only [if_pos hc]
      rw [if_pos (by simp [pB])]
      simp [pB]
    · have hn : pB o = [] := List.eq_nil_of_length_eq_zero (by omega)
      rw [if_neg h0, hn]
      by_cases hx : x = 0
      · have hc : ¬ (x ≠ 0 ∨ 0 < ([] : List UInt8).length) := by simp [hx]
        simp only [if_neg hc]
        rw [hn]
        simp [List.dropWhile_cons, isZ, hx]
      · have hc : x ≠ 0 ∨ 0 < ([] : List UInt8).length := .inl hx
        simp only [if_pos hc]
        simp [List.dropWhile_cons, isZ, hx, pB]
theorem numO_R (z : Int) : pB (numO z) = numR z := by
  unfold numO numR
  rw [numG_dw]
  rfl
theorem numR_len (z : Int) : (numR z).length ≤ 8 := by rw [← numO_R]; exact numO_len z
theorem rn_step (b : Bool) (cf : CallFn) : ∀ (l : List UInt8), l.length ≤ 8 → loopX 0 (p29_l0 b cf 0) [.c (.sl 1 (bytesAV l))] [] = some (.exit 0 [.c (.sl 1 (bytesAV (l.dropWhile isZ)))], [])
  | [], h => by
    rw [loopX_eq]
    have e : bytesAV [] = [] := rfl
    simp [p29_l0, e]
  | x :: l, h => by
    rw [loopX_eq]
    have e : bytesAV (x :: l) = .int .u8 (x.toNat : Int) :: bytesAV l := rfl
    have hp : (0 : Int) < (l.length : Int) + 1 := by omega
    have hp1 : (1 : Int) ≤ (l.length : Int) + 1 := by omega
    have n0 : nthC (CV.int .u8 (x.toNat : Int) :: bytesAV l) 0 = .int .u8 (x.toNat : Int) := rfl
    have tk : (bytesAV l).take l.length = bytesAV l := List.take_of_length_le (by simp [bytesAV])
    by_cases hx : x = 0
    · have ih := rn_step b cf l (by simp at h; omega)
      have hz : ((x.toNat : Int) == 0) = true := by rw [hx]; rfl
      have ed : (x :: l).dropWhile isZ = l.dropWhile isZ := by simp [isZ, hx]
      rw [ed, e]
      simp [p29_l0, hp, hp1, n0, hz, tk, ih]
    · have hz : ((x.toNat : Int) == 0) = false := by
        have : x.toNat ≠ 0 := fun h => hx (by rw [← UInt8.toNat_inj]; exact h)
        simp; omega
      have ed : (x :: l).dropWhile isZ = x :: l := by simp [isZ, hx]
      rw [ed, e]
      simp [p29_l0, hp, n0, hz]
theorem rnum_fn (b : Bool) (z : Int) : fnX (cfg b) An 29 [.c (.int .u64 z)] [] = some (.c (.sl 1 (bytesAV (numR z))), []) := by
  rw [fnX_eq, p29_eq]
  have e := rn_step b (callX (cfg b) An) (lenBytes z) (by simp [lenBytes])
  have ec := eight_call b z
  have hl : (lenBytes z).length = 8 := rfl
  rw [← numR] at e
  generalize numR z = N at *
  generalize lenBytes z = l at *
  simp [p29, ec, e]
theorem rnum_call (b : Bool) (z : Int) (H : Heap) : callX (cfg b) An 29 [.c (.int .u64 z)] H = some (.c (.sl 1 (bytesAV (numR z))), H) := callX_pure (rnum_fn b z) rfl rfl (prim_none' (by decide)) H
def rputO (o : Option (List UInt8)) (tag : UInt8) (v : List UInt8) : Option (List UInt8) := if v.length = 0 then o else some (tput o tag (some v))
theorem rputO_B (o : Option (List UInt8)) (tag : UInt8) (v : List UInt8) : pB (rputO o tag v) = tput o tag (some v) := by
  unfold rputO
  by_cases h : v.length = 0
  · rw [if_pos h]
    unfold tput
    rw [if_pos (by simpa [pB] using h)]
  · rw [if_neg h]; rfl
theorem tput_congr {o o' : Option (List UInt8)} {tag : UInt8} {v v' : Option (List UInt8)} (h : pB o = pB o') (hv : pB v = pB v') : tput o tag v = tput o' tag v' := by unfold tput; rw [h, hv]
theorem cf_PRf1_1fa39d4b : clashFree [0, 1, 0, 4, 15, 0, 63, 127, 255, 511] [(false, [], 2, 3), (false, [2], 3, 3), (false, [0], 3, 3), (true, [0], 3, 3), (true, [2], 3, 4), (false, [0], 4, 4), (false, [], 4, 4), (true, [3], 4, 5), (true, [4], 5, 5), (true, [1], 5, 5)] = false := by decide
attribute [simp] cf_PRf1_1fa39d4b
theorem cf_PRf1_bf324379 : clashFree [0, 1, 0, 4, 15, 0, 63, 127, 255, 511] [(false, [], 2, 3), (false, [2], 3, 3), (false, [0], 3, 3), (false, [0], 3, 3), (true, [2], 3, 4), (false, [0], 4, 4), (false, [], 4, 4), (true, [3], 4, 5), (true, [4], 5, 5), (true, [1], 5, 5)] = true := by decide
attribute [simp] cf_PRf1_bf324379
/-! CF -/
set_option maxHeartbeats 4000000 in
theorem r01put_fn (b : Bool) (o : Option (List UInt8)) (tag : UInt8) (v : List UInt8) (ho : (pB o).length ≤ 1000000) (hv : v.length ≤ 65535) :
    fnX (cfg b) An 28 [.c (pV o), .c (.int .u8 (tag.toNat : Int)), .c (.sl 1 (bytesAV v))] [] = some (.c (pV (rputO o tag v)), []) := by
  rw [fnX_eq, p28_eq]
  have m0 : (pB o).length ≤ maxLen := big_max (by omega)
  have m1 : (pB o).length ≤ 140737488355328 := by omega
  by_cases h0 : v.length = 0
  · have e : rputO o tag v = o := if_pos h0
    have l2 : ((v.length : Int) == 0) = true := by simp [h0]
    rw [e]
    simp [p28, l2, h0]
  · have e : rputO o tag v = some (pB o ++ [tag, byteOf (iShr .i64 (v.length : Int) 8), byteOf (v.length : Int)] ++ v) := by
      unfold rputO
      rw [if_neg h0]
      unfold tput
      rw [if_neg (by simpa [pB] using h0)]
      rfl
    have l2 : ((v.length : Int) == 0) = false := by simp only [beq_eq_false_iff_ne, ne_eq]; omega
    have hz1 := wrap_byte (iShr .i64 (v.length : Int) 8)
    have hz2 := wrap_byte (v.length : Int)
    have hs : iShr .i64 (v.length : Int) 8 = (v.length : Int) / 256 := by
      unfold iShr
      simp [IntKind.bits, Int.fdiv_eq_ediv_of_nonneg]
    rw [e, pVs]
    have hq1 : IntKind.i64.wrap ((v.length : Int) / 256) = (v.length : Int) / 256 := i64_small (by omega) (by omega)
    have hq2 : IntKind.u8.wrap ((v.length : Int).tmod 256) = IntKind.u8.wrap (v.length : Int) := by
      rw [Int.tmod_eq_emod_of_nonneg (by omega)]
      unfold IntKind.wrap
      simp [IntKind.bits, IntKind.signed]
    generalize hx8 : byteOf (iShr .i64 (v.length : Int) 8) = x at *
    generalize byteOf (v.length : Int) = y at *
    rw [hs] at hz1
    have m2 : (pB o).length + 3 ≤ maxLen := big_max (by omega)
    have m3 : (pB o).length + 3 ≤ 140737488355328 := by omega
    have m4 : (pB o).length + 3 + v.length ≤ maxLen := big_max (by omega)
    have m5 : (pB o).length + 3 + v.length ≤ 140737488355328 := by omega
    have m6 : 3 ≤ maxLen := big_max (by omega)
    have hb : bytesAV (pB o ++ [tag, x, y] ++ v) = bytesAV (pB o) ++ [.int .u8 (tag.toNat : Int), .int .u8 (x.toNat : Int), .int .u8 (y.toNat : Int)] ++ bytesAV v := by simp [bytesAV]
    rw [hb]
    simp [p28, elemsOf_pV, l2, h0, hq1, hq2, hz1, hz2, m0, m1, m2, m3, m4, m5, m6]
theorem r01put_call (b : Bool) (o : Option (List UInt8)) (tag : UInt8) (v : List UInt8) (ho : (pB o).length ≤ 1000000) (hv : v.length ≤ 65535) (H : Heap) :
    callX (cfg b) An 28 [.c (pV o), .c (.int .u8 (tag.toNat : Int)), .c (.sl 1 (bytesAV v))] H = some (.c (pV (rputO o tag v)), H) := callX_pure (r01put_fn b o tag v ho hv) rfl rfl (prim_none' (by decide)) H
end Go.Fm
