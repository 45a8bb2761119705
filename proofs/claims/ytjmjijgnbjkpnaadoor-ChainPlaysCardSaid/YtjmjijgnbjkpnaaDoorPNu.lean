/-
  A part of the proof: PNu.
-/
import Derived.Test.YtjmjijgnbjkpnaaDoorPSha
import Derived.Test.YtjmjijgnbjkpnaaDoorDMisb
set_option linter.all false
set_option autoImplicit true
/-
  keys.Num and ref01.Eight: a number's eight bytes.
-/
set_option maxRecDepth 100000
set_option linter.unusedVariables false
set_option linter.unusedSimpArgs false
namespace Go.Fm
open Go Go.Proofs
set_option maxHeartbeats 4000000 in
theorem num_step (b : Bool) (cf : CallFn) (z : Int) (m : List UInt8) (hm : m.length + 1 ≤ 1000) (k : Int) (h0 : 0 ≤ k) :
    p89_l0 b cf 0 [.c (.int .u64 z), .os 0, .c (.int .i64 k)] [.row 5 1 (bytesAV m)] =
      some (.cont [.c (.int .u64 z), .os 2, .c (.int .i64 (iSub .i64 k 8))], [.dead, .row 5 1 (bytesAV [byteOf (iShr .u64 z k)]), .row 5 1 (bytesAV (m ++ [byteOf (iShr .u64 z k)]))]) := by
  have c0 : ¬ k < 0 := by omega
  have hx := big_max (n := m.length + 1) (by omega)
  have hx1 : m.length + 1 ≤ 140737488355328 := by omega
  obtain ⟨x, hq⟩ : ∃ x, x = byteOf (iShr .u64 z k) := ⟨_, rfl⟩
  have hz := wrap_byte (iShr .u64 z k)
  rw [← hq] at hz ⊢
  have hb : bytesAV [x] = [.int .u8 (x.toNat : Int)] := rfl
  have ha : bytesAV m ++ [.int .u8 (x.toNat : Int)] = bytesAV (m ++ [x]) := by simp [bytesAV]
  simp [p89_l0, c0, h0, hx, hx1, hb, ha, hz]
theorem gc_n (q r : List CV) (z k : Int) : gcL 0 [.c (.int .u64 z), .os 2, .c (.int .i64 k)] [.dead, .row 5 1 q, .row 5 1 r] = some ([.c (.int .u64 z), .os 0, .c (.int .i64 k)], [.row 5 1 r]) := by simp
theorem gc_n0 (r : List CV) (z k : Int) : gcL 0 [.c (.int .u64 z), .os 0, .c (.int .i64 k)] [.row 5 1 r] = some ([.c (.int .u64 z), .os 0, .c (.int .i64 k)], [.row 5 1 r]) := by simp
theorem num_one (b : Bool) (cf : CallFn) (z : Int) (m : List UInt8) (hm : m.length + 1 ≤ 1000) (k j : Int) (h0 : 0 ≤ k) (hj : iSub .i64 k 8 = j) :
    loopX 0 (p89_l0 b cf 0) [.c (.int .u64 z), .os 0, .c (.int .i64 k)] [.row 5 1 (bytesAV m)] =
      loopX 0 (p89_l0 b cf 0) [.c (.int .u64 z), .os 0, .c (.int .i64 j)] [.row 5 1 (bytesAV (m ++ [byteOf (iShr .u64 z k)]))] := by
  rw [loopX_eq, gc_n0]
  simp only [num_step b cf z m hm k h0, hj]
  rw [loopX_gc (gc_n _ _ _ _) (gc_n0 _ _ _)]
theorem num_first (b : Bool) (cf : CallFn) (z : Int) :
    loopX 0 (p89_l0 b cf 0) [.c (.int .u64 z), .c .nilsl, .c (.int .i64 56)] [] =
      loopX 0 (p89_l0 b cf 0) [.c (.int .u64 z), .os 0, .c (.int .i64 48)] [.row 5 1 (bytesAV [byteOf (iShr .u64 z 56)])] := by
  rw [loopX_eq]
  have hx := big_max (n := 1) (by decide)
  have hz := wrap_byte (iShr .u64 z 56)
  have e : iSub .i64 56 8 = 48 := by decide
  have hb : bytesAV [byteOf (iShr .u64 z 56)] = [.int .u8 ((byteOf (iShr .u64 z 56)).toNat : Int)] := rfl
  simp [p89_l0, hx, hz, e]
  rw [loopX_gc (s1 := [.c (.int .u64 z), .os 0, .c (.int .i64 48)]) (H1 := [.row 5 1 [.int .u8 ((byteOf (iShr .u64 z 56)).toNat : Int)]]) (by simp) (by simp), hb]
theorem num_fn (b : Bool) (z : Int) : fnX (cfg b) An 89 [.c (.int .u64 z)] [] = some (.c (.sl 1 (bytesAV (lenBytes z))), []) := by
  rw [fnX_eq, p89_eq]
  have e : loopX 0 (p89_l0 b (callX (cfg b) An) 0) [.c (.int .u64 z), .c .nilsl, .c (.int .i64 56)] [] = some (.exit 0 [.os 0], [.row 5 1 (bytesAV (lenBytes z))]) := by
    rw [num_first, num_one b _ z _ (by simp) 48 40 (by decide) (by decide), num_one b _ z _ (by simp) 40 32 (by decide) (by decide), num_one b _ z _ (by simp) 32 24 (by decide) (by decide),
      num_one b _ z _ (by simp) 24 16 (by decide) (by decide), num_one b _ z _ (by simp) 16 8 (by decide) (by decide), num_one b _ z _ (by simp) 8 0 (by decide) (by decide), num_one b _ z _ (by simp) 0 (-8) (by decide) (by decide)]
    rw [loopX_eq, gc_n0]
    simp [p89_l0, lenBytes]
  have hk : (cfg b).keepR 89 = false := rfl
  simp [p89, e, hk]
/-! ### Eight -/
set_option maxHeartbeats 4000000 in
theorem eight_step (b : Bool) (cf : CallFn) (z : Int) (m : List UInt8) (hm : m.length + 1 ≤ 1000) (i k : Int) (h0 : i < 8) (h1 : iSub .i64 56 (iMul .i64 8 i) = k) (hk : 0 ≤ k) :
    p32_l0 b cf 0 [.c (.int .u64 z), .os 0, .c (.int .i64 i)] [.row 5 1 (bytesAV m)] =
      some (.cont [.c (.int .u64 z), .os 2, .c (.int .i64 (iAdd .i64 i 1))], [.dead, .row 5 1 (bytesAV [byteOf (iShr .u64 z k)]), .row 5 1 (bytesAV (m ++ [byteOf (iShr .u64 z k)]))]) := by
  have c0 : ¬ k < 0 := by omega
  have hx := big_max (n := m.length + 1) (by omega)
  have hx1 : m.length + 1 ≤ 140737488355328 := by omega
  obtain ⟨x, hq⟩ : ∃ x, x = byteOf (iShr .u64 z k) := ⟨_, rfl⟩
  have hz := wrap_byte (iShr .u64 z k)
  rw [← hq] at hz ⊢
  have hb : bytesAV [x] = [.int .u8 (x.toNat : Int)] := rfl
  have ha : bytesAV m ++ [.int .u8 (x.toNat : Int)] = bytesAV (m ++ [x]) := by simp [bytesAV]
  simp [p32_l0, c0, h0, h1, hk, hx, hx1, hb, ha, hz]
theorem eight_one (b : Bool) (cf : CallFn) (z : Int) (m : List UInt8) (hm : m.length + 1 ≤ 1000) (i k j : Int) (h0 : i < 8) (h1 : iSub .i64 56 (iMul .i64 8 i) = k) (hk : 0 ≤ k) (hj : iAdd .i64 i 1 = j) :
    loopX 0 (p32_l0 b cf 0) [.c (.int .u64 z), .os 0, .c (.int .i64 i)] [.row 5 1 (bytesAV m)] =
      loopX 0 (p32_l0 b cf 0) [.c (.int .u64 z), .os 0, .c (.int .i64 j)] [.row 5 1 (bytesAV (m ++ [byteOf (iShr .u64 z k)]))] := by
  rw [loopX_eq, gc_n0]
  simp only [eight_step b cf z m hm i k h0 h1 hk, hj]
  rw [loopX_gc (gc_n _ _ _ _) (gc_n0 _ _ _)]
theorem eight_first (b : Bool) (cf : CallFn) (z : Int) :
    loopX 0 (p32_l0 b cf 0) [.c (.int .u64 z), .c .nilsl, .c (.int .i64 0)] [] =
      loopX 0 (p32_l0 b cf 0) [.c (.int .u64 z), .os 0, .c (.int .i64 1)] [.row 5 1 (bytesAV [byteOf (iShr .u64 z 56)])] := by
  rw [loopX_eq]
  have hx := big_max (n := 1) (by decide)
  have hz := wrap_byte (iShr .u64 z 56)
  have e : iAdd .i64 0 1 = 1 := by decide
  have e1 : iMul .i64 8 0 = 0 := by decide
  have e2 : iSub .i64 56 0 = 56 := by decide
  have hb : bytesAV [byteOf (iShr .u64 z 56)] = [.int .u8 ((byteOf (iShr .u64 z 56)).toNat : Int)] := rfl
  simp [p32_l0, hx, hz, e, e1, e2]
  rw [loopX_gc (s1 := [.c (.int .u64 z), .os 0, .c (.int .i64 1)]) (H1 := [.row 5 1 [.int .u8 ((byteOf (iShr .u64 z 56)).toNat : Int)]]) (by simp) (by simp), hb]
theorem eight_fn (b : Bool) (z : Int) : fnX (cfg b) An 32 [.c (.int .u64 z)] [] = some (.c (.sl 1 (bytesAV (lenBytes z))), []) := by
  rw [fnX_eq, p32_eq]
  have e : loopX 0 (p32_l0 b (callX (cfg b) An) 0) [.c (.int .u64 z), .c .nilsl, .c (.int .i64 0)] [] = some (.exit 0 [.os 0], [.row 5 1 (bytesAV (lenBytes z))]) := by
    rw [eight_first, eight_one b _ z _ (by simp) 1 48 2 (by decide) (by decide) (by decide) (by decide), eight_one b _ z _ (by simp) 2 40 3 (by decide) (by decide) (by decide) (by decide),
      eight_one b _ z _ (by simp) 3 32 4 (by decide) (by decide) (by decide) (by decide), eight_one b _ z _ (by simp) 4 24 5 (by decide) (by decide) (by decide) (by decide),
      eight_one b _ z _ (by simp) 5 16 6 (by decide) (by decide) (by decide) (by decide), eight_one b _ z _ (by simp) 6 8 7 (by decide) (by decide) (by decide) (by decide),
      eight_one b _ z _ (by simp) 7 0 8 (by decide) (by decide) (by decide) (by decide)]
    rw [loopX_eq, gc_n0]
    simp [p32_l0, lenBytes]
  have hk : (cfg b).keepR 32 = false := rfl
  simp [p32, e, hk]
end Go.Fm
/-
  chain.Vals: the sum of a word, a name and a height.
-/
set_option maxRecDepth 100000
set_option linter.unusedVariables false
set_option linter.unusedSimpArgs false
namespace Go.Fm
open Go Go.Proofs
def valsB : List UInt8 := [118, 97, 108, 115]
theorem num_call (b : Bool) (z : Int) (H : Heap) : callX (cfg b) An 89 [.c (.int .u64 z)] H = some (.c (.sl 1 (bytesAV (lenBytes z))), H) := callX_pure (num_fn b z) rfl rfl (prim_none (by decide)) H
theorem vals_fn (b : Bool) (a : UInt8) (z : Int) : fnX (cfg b) An 33 [.c (.int .u8 (a.toNat : Int)), .c (.int .u64 z)] [] = some (.c (.arr 32 .u8 (dI (shaW (valsB ++ a :: lenBytes z)))), []) := by
  rw [fnX_eq, p33_eq]
  have e := sum_fn b [some valsB, some [a], some (lenBytes z)] (by simp) (by simp) (by simp [catP, pB, valsB, lenBytes])
  have e1 : catP [some valsB, some [a], some (lenBytes z)] = valsB ++ a :: lenBytes z := by simp [catP, pB]
  have e2 : [some valsB, some [a], some (lenBytes z)].map pV = [.sl 1 [.int .u8 118, .int .u8 97, .int .u8 108, .int .u8 115], .sl 1 [.int .u8 (a.toNat : Int)], .sl 1 (bytesAV (lenBytes z))] := rfl
  rw [e1, e2] at e
  have hk : (cfg b).keepA 88 = false := rfl
  have hl : (dI (shaW (valsB ++ a :: lenBytes z))).length = 32 := by simp [dI, shaW_len]
  generalize shaW (valsB ++ a :: lenBytes z) = w at *
  simp [p33, num_call, callX_v (prim_none (b := b) (f := 88) (by decide)), hk, e, hl]
end Go.Fm
