/-
  sha.Sum answers with a digest of the parts joined, part 6.
-/
import Derived.Test.YtjmjijgnbjkpnaaDoorPSha5
set_option linter.all false
set_option autoImplicit true
/-
  sha: Sum's other loops.
-/
set_option maxRecDepth 100000
set_option linter.unusedVariables false
set_option linter.unusedSimpArgs false
namespace Go.Fm
open Go Go.Proofs

def mHy (A : AV) (q m : List UInt8) : Heap := [.var 41 A, .dead, .row 5 1 (bytesAV q), .row 5 1 (bytesAV (m ++ q))]
theorem tmod_nat (n k : Nat) : ((n : Int)).tmod (k : Int) = ((n % k : Nat) : Int) := by
  rw [Int.tmod_eq_emod_of_nonneg (by omega)]; simp

set_option maxHeartbeats 4000000 in
theorem s2_step (b : Bool) (cf : CallFn) (A : CV) (z : Int) (m : List UInt8) (hm : m.length + 1 ≤ 140737488355328) (h : m.length % 64 ≠ 56) :
    p88_l2 b cf 0 [.ov 0 [] 0, .os 1, .c (.int .u64 z)] (mH (.c A) (some m)) =
      some (.cont [.ov 0 [] 0, .os 3, .c (.int .u64 z)], mHy (.c A) [0] m) := by
  obtain ⟨r, hr⟩ : ∃ r, r = m.length % 64 := ⟨_, rfl⟩
  have e1 : ((m.length : Int)).tmod 64 = (r : Int) := hr ▸ tmod_nat m.length 64
  have e2 : ((r : Int) != 56) = true := by simp; omega
  have hx := big_max hm
  have hb : bytesAV [0] = [.int .u8 0] := rfl
  have ha : bytesAV m ++ [.int .u8 0] = bytesAV (m ++ [0]) := by simp [bytesAV]
  simp [p88_l2, mH, mHy, e1, e2, hm, hx, hb, ha]
theorem s2_stop (b : Bool) (cf : CallFn) (A : CV) (z : Int) (m : List UInt8) (h : m.length % 64 = 56) :
    p88_l2 b cf 0 [.ov 0 [] 0, .os 1, .c (.int .u64 z)] (mH (.c A) (some m)) =
      some (.exit 2 [.ov 0 [] 0, .os 1, .c (.int .u64 z)], mH (.c A) (some m)) := by
  have e1 : ((m.length : Int)).tmod 64 = 56 := by rw [show (64 : Int) = ((64 : Nat) : Int) from rfl, tmod_nat, h]; rfl
  simp [p88_l2, mH, e1]

def byteOf (z : Int) : UInt8 := UInt8.ofNat ((IntKind.u8.wrap z).toNat)
theorem wrap_byte (z : Int) : IntKind.u8.wrap z = ((byteOf z).toNat : Int) := by
  unfold byteOf IntKind.wrap
  simp [IntKind.bits, IntKind.signed]
  omega

set_option maxHeartbeats 4000000 in
theorem s4_step (b : Bool) (cf : CallFn) (A : CV) (z : Int) (m : List UInt8) (hm : m.length + 1 ≤ 140737488355328) (k : Int) (h0 : 0 ≤ k) :
    p88_l4 b cf 0 [.ov 0 [] 0, .os 1, .c (.int .u64 z), .c (.int .i64 k)] (mH (.c A) (some m)) =
      some (.cont [.ov 0 [] 0, .os 3, .c (.int .u64 z), .c (.int .i64 (iSub .i64 k 8))], mHy (.c A) [byteOf (iShr .u64 z k)] m) := by
  have c0 : ¬ k < 0 := by omega
  have hx := big_max hm
  obtain ⟨x, hq⟩ : ∃ x, x = byteOf (iShr .u64 z k) := ⟨_, rfl⟩
  have hz := wrap_byte (iShr .u64 z k)
  rw [← hq] at hz ⊢
  have hb : bytesAV [x] = [.int .u8 (x.toNat : Int)] := rfl
  have ha : bytesAV m ++ [.int .u8 (x.toNat : Int)] = bytesAV (m ++ [x]) := by simp [bytesAV]
  simp [p88_l4, mH, mHy, c0, h0, hm, hx, hb, ha, hz]
theorem s4_stop (b : Bool) (cf : CallFn) (A : CV) (z : Int) (m : List UInt8) :
    p88_l4 b cf 0 [.ov 0 [] 0, .os 1, .c (.int .u64 z), .c (.int .i64 (-8))] (mH (.c A) (some m)) =
      some (.exit 4 [.ov 0 [] 0, .os 1], mH (.c A) (some m)) := by
  simp [p88_l4, mH]

theorem gc_y (A : CV) (q m : List UInt8) (vs : List AV) (hvs : AV.idss vs = []) (ho : ∀ r, AV.maps r vs = vs) :
    gcL 0 (.ov 0 [] 0 :: .os 3 :: vs) (mHy (.c A) q m) = some (.ov 0 [] 0 :: .os 1 :: vs, mH (.c A) (some (m ++ q))) := by
  simp [mHy, mH, hvs, ho]
theorem s2_run (b : Bool) (cf : CallFn) (A : CV) (z : Int) : ∀ (n : Nat) (m : List UInt8), n < 64 → (m.length + n) % 64 = 56 → m.length + n ≤ 140737488355328 →
    loopX 0 (p88_l2 b cf 0) [.ov 0 [] 0, .os 1, .c (.int .u64 z)] (mH (.c A) (some m)) =
      some (.exit 2 [.ov 0 [] 0, .os 1, .c (.int .u64 z)], mH (.c A) (some (m ++ List.replicate n 0)))
  | 0, m, hn, h, hm => by
    rw [loopX_eq, gc_m1 A m _ (by simp) (by simp)]
    simp only [s2_stop b cf A z m h]
    simp
  | n + 1, m, hn, h, hm => by
    rw [loopX_eq, gc_m1 A m _ (by simp) (by simp)]
    simp only [s2_step b cf A z m (by omega) (by omega)]
    rw [loopX_gc (gc_y A [0] m _ (by simp) (by simp)) (gc_m1 A _ _ (by simp) (by simp)), s2_run b cf A z n (m ++ [0]) (by omega) (by simp; omega) (by simp; omega)]
    simp [List.replicate_succ]
def lenBytes (z : Int) : List UInt8 := [byteOf (iShr .u64 z 56), byteOf (iShr .u64 z 48), byteOf (iShr .u64 z 40), byteOf (iShr .u64 z 32), byteOf (iShr .u64 z 24), byteOf (iShr .u64 z 16), byteOf (iShr .u64 z 8), byteOf (iShr .u64 z 0)]
theorem s4_one (b : Bool) (cf : CallFn) (A : CV) (z : Int) (m : List UInt8) (hm : m.length + 1 ≤ 140737488355328) (k j : Int) (h0 : 0 ≤ k) (hj : iSub .i64 k 8 = j) :
    loopX 0 (p88_l4 b cf 0) [.ov 0 [] 0, .os 1, .c (.int .u64 z), .c (.int .i64 k)] (mH (.c A) (some m)) =
      loopX 0 (p88_l4 b cf 0) [.ov 0 [] 0, .os 1, .c (.int .u64 z), .c (.int .i64 j)] (mH (.c A) (some (m ++ [byteOf (iShr .u64 z k)]))) := by
  rw [loopX_eq, gc_m1 A m _ (by simp) (by simp)]
  simp only [s4_step b cf A z m hm k h0, hj]
  rw [loopX_gc (gc_y A _ m _ (by simp) (by simp)) (gc_m1 A _ _ (by simp) (by simp))]
theorem s4_run (b : Bool) (cf : CallFn) (A : CV) (z : Int) (m : List UInt8) (hm : m.length + 8 ≤ 140737488355328) :
    loopX 0 (p88_l4 b cf 0) [.ov 0 [] 0, .os 1, .c (.int .u64 z), .c (.int .i64 56)] (mH (.c A) (some m)) =
      some (.exit 4 [.ov 0 [] 0, .os 1], mH (.c A) (some (m ++ lenBytes z))) := by
  rw [s4_one b cf A z m (by omega) 56 48 (by decide) (by decide), s4_one b cf A z _ (by simp; omega) 48 40 (by decide) (by decide),
    s4_one b cf A z _ (by simp; omega) 40 32 (by decide) (by decide), s4_one b cf A z _ (by simp; omega) 32 24 (by decide) (by decide),
    s4_one b cf A z _ (by simp; omega) 24 16 (by decide) (by decide), s4_one b cf A z _ (by simp; omega) 16 8 (by decide) (by decide),
    s4_one b cf A z _ (by simp; omega) 8 0 (by decide) (by decide), s4_one b cf A z _ (by simp; omega) 0 (-8) (by decide) (by decide),
    loopX_eq, gc_m1 A _ _ (by simp) (by simp)]
  simp only [s4_stop b cf A z]
  simp [lenBytes]

/-! ### The blocks -/
theorem mSliceSl_fos {lo : Option AV} {i sz u : Nat} {H : Heap} {es : List CV} (h : H[i]? = some (.frow u sz es)) : mSliceSl sz (.os i) lo none H = cutE sz es lo H (some es.length) := by
  have : mTail sz H (.os i) lo none = none := by unfold mTail; split <;> simp_all
  have e : natOf none es.length es.length = some es.length := rfl
  simp only [mSliceSl, this, toC, h, cutE, e]
  cases natOf lo 0 es.length with
  | none => rfl
  | some l => simp [cutE.cutE2]
def iterB (g : List UInt8 → St → St) : Nat → List UInt8 → St → St
  | 0, _, s => s
  | n + 1, m, s => iterB g n (m.drop 64) (g m s)
theorem iterB_0 (g : List UInt8 → St → St) (m : List UInt8) (s : St) : iterB g 0 m s = s := rfl
theorem iterB_s (g : List UInt8 → St → St) (n : Nat) (m : List UInt8) (s : St) : iterB g (n + 1) m s = iterB g n (m.drop 64) (g m s) := rfl
def blocksW (n : Nat) (m : List UInt8) (s : St) : St := iterB blockW n m s
theorem blocksW_0 (m : List UInt8) (s : St) : blocksW 0 m s = s := iterB_0 blockW m s
theorem blocksW_s (n : Nat) (m : List UInt8) (s : St) : blocksW (n + 1) m s = blocksW n (m.drop 64) (blockW m s) := iterB_s blockW n m s
theorem bytesAV_drop (m : List UInt8) (k : Nat) : (bytesAV m).drop k = bytesAV (m.drop k) := by simp [bytesAV]

set_option maxHeartbeats 4000000 in
theorem s6_first (b : Bool) (A : CV) (s : St) (m : List UInt8) (h : 64 ≤ m.length) (hm : m.length ≤ 140737488355328) :
    p88_l6 b (callX (cfg b) An) 0 [.ov 0 [] 0, .os 1, .ov 2 [] 0] [.var 41 (.c A), .row 5 1 (bytesAV m), .var 193 (.c s.v)] =
      some (.cont [.ov 0 [] 0, .c (.sl 1 (bytesAV (m.drop 64))), .ov 2 [] 0], [.var 41 (.c A), .frow 5 1 (bytesAV m), .var 193 (.c (blockW m s).v)]) := by
  have c0 : decide ((m.length : Int) > 0) = true := by simp; omega
  have c1 : 0 < m.length := by omega
  have hx := big_max hm
  have e := block_fn b m h hx s
  have hf : (cfg b).frz 193 = false := frz_f (by decide)
  have hk : (cfg b).keepA 121 = false := rfl
  have h64 : (64 : Int) ≤ (m.length : Int) := by omega
  have ht : (bytesAV (m.drop 64)).take (m.length - 64) = bytesAV (m.drop 64) := by rw [List.take_of_length_le]; simp [bytesAV]
  simp [p88_l6, c0, c1, callX_v (prim_none (b := b) (f := 121) (by decide)), hf, hk, e, fun V lo => mSliceSl_fos (lo := lo) (i := 1) (sz := 1) (H := [.var 41 (.c A), .frow 5 1 (bytesAV m), V]) rfl, h64, bytesAV_drop, ht]
end Go.Fm

