/-
  sha.Sum answers with a digest of the parts joined, part 7.
-/
import Derived.Test.YtjmjijgnbjkpnaaDoorPSha6
set_option linter.all false
set_option autoImplicit true
/-
  sha: Sum.
-/
set_option maxRecDepth 100000
set_option linter.unusedVariables false
set_option linter.unusedSimpArgs false
namespace Go.Fm
open Go Go.Proofs

set_option maxHeartbeats 4000000 in
theorem s6_next (b : Bool) (A : CV) (s : St) (m : List UInt8) (h : 64 ≤ m.length) (hm : m.length ≤ 140737488355328) :
    p88_l6 b (callX (cfg b) An) 0 [.ov 0 [] 0, .c (.sl 1 (bytesAV m)), .ov 1 [] 0] [.var 41 (.c A), .var 193 (.c s.v)] =
      some (.cont [.ov 0 [] 0, .c (.sl 1 (bytesAV (m.drop 64))), .ov 1 [] 0], [.var 41 (.c A), .var 193 (.c (blockW m s).v)]) := by
  have c0 : decide ((m.length : Int) > 0) = true := by simp; omega
  have c1 : 0 < m.length := by omega
  have hx := big_max hm
  have e := block_fn b m h hx s
  have hf : (cfg b).frz 193 = false := frz_f (by decide)
  have hk : (cfg b).keepA 121 = false := rfl
  have h64 : (64 : Int) ≤ (m.length : Int) := by omega
  have ht : (bytesAV (m.drop 64)).take (m.length - 64) = bytesAV (m.drop 64) := by rw [List.take_of_length_le]; simp [bytesAV]
  simp [p88_l6, c0, c1, callX_v (prim_none (b := b) (f := 121) (by decide)), hf, hk, e, h64, bytesAV_drop, ht]
theorem s6_stop (b : Bool) (cf : CallFn) (A : CV) (s : St) :
    p88_l6 b cf 0 [.ov 0 [] 0, .c (.sl 1 (bytesAV [])), .ov 1 [] 0] [.var 41 (.c A), .var 193 (.c s.v)] =
      some (.exit 6 [.ov 0 [] 0, .ov 1 [] 0], [.var 41 (.c A), .var 193 (.c s.v)]) := by
  simp [p88_l6]
theorem s6_zero (b : Bool) (cf : CallFn) (A : CV) (s : St) :
    loopX 0 (p88_l6 b cf 0) [.ov 0 [] 0, .c (.sl 1 (bytesAV [])), .ov 1 [] 0] [.var 41 (.c A), .var 193 (.c s.v)] =
      some (.exit 6 [.ov 0 [] 0, .ov 1 [] 0], [.var 41 (.c A), .var 193 (.c s.v)]) := by
    have hg : gcL 0 [.ov 0 [] 0, .c (.sl 1 (bytesAV [])), .ov 1 [] 0] [.var 41 (.c A), .var 193 (.c s.v)] = some ([.ov 0 [] 0, .c (.sl 1 (bytesAV [])), .ov 1 [] 0], [.var 41 (.c A), .var 193 (.c s.v)]) := by simp
    rw [loopX_eq, hg]
    simp only [s6_stop]
theorem s6_one (b : Bool) (A : CV) (m : List UInt8) (s : St) (h : 64 ≤ m.length) (hm : m.length ≤ 140737488355328) :
    loopX 0 (p88_l6 b (callX (cfg b) An) 0) [.ov 0 [] 0, .c (.sl 1 (bytesAV m)), .ov 1 [] 0] [.var 41 (.c A), .var 193 (.c s.v)] =
      loopX 0 (p88_l6 b (callX (cfg b) An) 0) [.ov 0 [] 0, .c (.sl 1 (bytesAV (m.drop 64))), .ov 1 [] 0] [.var 41 (.c A), .var 193 (.c (blockW m s).v)] := by
    have hg : gcL 0 [.ov 0 [] 0, .c (.sl 1 (bytesAV m)), .ov 1 [] 0] [.var 41 (.c A), .var 193 (.c s.v)] = some ([.ov 0 [] 0, .c (.sl 1 (bytesAV m)), .ov 1 [] 0], [.var 41 (.c A), .var 193 (.c s.v)]) := by simp
    rw [loopX_eq, hg]
    simp only [s6_next b A s m h hm]
theorem s6_run (b : Bool) (A : CV) (n : Nat) : ∀ (m : List UInt8) (s : St), m.length = 64 * n → m.length ≤ 140737488355328 →
    loopX 0 (p88_l6 b (callX (cfg b) An) 0) [.ov 0 [] 0, .c (.sl 1 (bytesAV m)), .ov 1 [] 0] [.var 41 (.c A), .var 193 (.c s.v)] =
      some (.exit 6 [.ov 0 [] 0, .ov 1 [] 0], [.var 41 (.c A), .var 193 (.c (blocksW n m s).v)]) := by
  induction n with
  | zero =>
    intro m s hn hm
    have : m = [] := by cases m with
      | nil => rfl
      | cons a l => simp at hn
    rw [this]
    rw [s6_zero b _ A s, blocksW_0]
  | succ n ih =>
    intro m s hn hm
    have h1 : (m.drop 64).length = 64 * n := by rw [List.length_drop]; omega
    have h2 : (m.drop 64).length ≤ 140737488355328 := by rw [List.length_drop]; omega
    rw [s6_one b A m s (by omega) hm, ih (m.drop 64) (blockW m s) h1 h2, blocksW_s]
theorem s6_all (b : Bool) (A : CV) (n : Nat) (m : List UInt8) (s : St) (hn : m.length = 64 * (n + 1)) (hm : m.length ≤ 140737488355328) :
    loopX 0 (p88_l6 b (callX (cfg b) An) 0) [.ov 0 [] 0, .os 1, .ov 2 [] 0] [.var 41 (.c A), .row 5 1 (bytesAV m), .var 193 (.c s.v)] =
      some (.exit 6 [.ov 0 [] 0, .ov 1 [] 0], [.var 41 (.c A), .var 193 (.c (blocksW (n + 1) m s).v)]) := by
  have hg : gcL 0 [.ov 0 [] 0, .os 1, .ov 2 [] 0] [.var 41 (.c A), .row 5 1 (bytesAV m), .var 193 (.c s.v)] = some ([.ov 0 [] 0, .os 1, .ov 2 [] 0], [.var 41 (.c A), .row 5 1 (bytesAV m), .var 193 (.c s.v)]) := by simp
  rw [loopX_eq, hg]
  simp only [s6_first b A s m (by omega) hm]
  rw [loopX_gc (s1 := [.ov 0 [] 0, .c (.sl 1 (bytesAV (m.drop 64))), .ov 1 [] 0]) (H1 := [.var 41 (.c A), .var 193 (.c (blockW m s).v)]) (by simp) (by simp),
    s6_run b A n (m.drop 64) (blockW m s) (by rw [List.length_drop]; omega) (by rw [List.length_drop]; omega), blocksW_s]

/-! ### The digest -/
def dI (bs : List UInt8) : List Int := bs.map fun x => (x.toNat : Int)
def outB (s : St) (i : Nat) : UInt8 := byteOf (iShr .u32 (wI (nthW s.l (i / 4))) ((24 - 8 * (i % 4) : Nat) : Int))
def l8W (s : St) : Nat → Nat → List UInt8 → List UInt8
  | 0, _, ds => ds
  | n + 1, i, ds => l8W s n (i + 1) (ds.set i (outB s i))
theorem l8W_len (s : St) : ∀ (n i : Nat) (ds : List UInt8), (l8W s n i ds).length = ds.length
  | 0, _, _ => rfl
  | n + 1, i, ds => by rw [l8W, l8W_len]; simp

set_option maxHeartbeats 4000000 in
theorem s8_step (b : Bool) (cf : CallFn) (A : CV) (s : St) (ds : List UInt8) (hd : ds.length = 32) (i : Nat) (hi : i < 32) :
    p88_l8 b cf 0 [.ov 0 [] 0, .ov 1 [] 0, .ov 2 [] 0, .c (.int .i64 i)] [.var 41 (.c A), .var 193 (.c s.v), .var 41 (.c (.arr 32 .u8 (dI ds)))] =
      some (.cont [.ov 0 [] 0, .ov 1 [] 0, .ov 2 [] 0, .c (.int .i64 ((i + 1 : Nat) : Int))], [.var 41 (.c A), .var 193 (.c s.v), .var 41 (.c (.arr 32 .u8 (dI (ds.set i (outB s i)))))]) := by
  have di : (i : Int) < 32 := by omega
  have a4 := add1_nat i (by omega)
  obtain ⟨q, hq⟩ : ∃ q, q = i / 4 := ⟨_, rfl⟩
  obtain ⟨r, hr⟩ : ∃ r, r = i % 4 := ⟨_, rfl⟩
  obtain ⟨t, ht⟩ : ∃ t, t = 8 * r := ⟨_, rfl⟩
  obtain ⟨u, hu⟩ : ∃ u, u = 24 - 8 * r := ⟨_, rfl⟩
  have e1 : IntKind.i64.wrap ((i : Int).tdiv 4) = (q : Int) := by
    rw [Int.tdiv_eq_ediv_of_nonneg (by omega), i64_small (by omega) (by omega)]; omega
  have e1' : IntKind.i64.wrap ((i : Int) / 4) = (q : Int) := by
    rw [i64_small (by omega) (by omega)]; omega
  have e2 : ((i : Int)).tmod 4 = (r : Int) := hr ▸ tmod_nat i 4
  have e3 : iMul .i64 (r : Int) 8 = (t : Int) := by unfold iMul; rw [i64_small (by omega) (by omega)]; omega
  have e4 : iSub .i64 24 (t : Int) = (u : Int) := by unfold iSub; rw [i64_small (by omega) (by omega)]; omega
  have e5 : ¬ (u : Int) < 0 := by omega
  have e6 : (q : Int) < 8 := by omega
  have e7 : q < 8 := by omega
  have ho : outB s i = byteOf (iShr .u32 (wI (nthW s.l q)) (u : Int)) := by subst hq hr ht hu; rfl
  have hl : s.l.length = 8 := rfl
  have hb := wrap_byte (iShr .u32 (wI (nthW s.l q)) (u : Int))
  rw [← ho] at hb
  generalize outB s i = o at hb ⊢
  have hdl : (dI ds).length = 32 := by simp [dI, hd]
  have hset : (dI ds).set i (o.toNat : Int) = dI (ds.set i o) := by simp [dI]
  rw [St.v_l]
  simp [p88_l8, di, a4, hi, e1, e1', e2, e3, e4, e5, e6, e7, hl, nthI_w, hb, hdl, hset]
theorem s8_run (b : Bool) (cf : CallFn) (A : CV) (s : St) : ∀ (n i : Nat) (ds : List UInt8), ds.length = 32 → i + n = 32 →
    loopX 0 (p88_l8 b cf 0) [.ov 0 [] 0, .ov 1 [] 0, .ov 2 [] 0, .c (.int .i64 i)] [.var 41 (.c A), .var 193 (.c s.v), .var 41 (.c (.arr 32 .u8 (dI ds)))] =
      some (.exit 8 [.ov 0 [] 0, .ov 2 [] 0], [.var 41 (.c A), .var 193 (.c s.v), .var 41 (.c (.arr 32 .u8 (dI (l8W s n i ds))))])
  | 0, i, ds, hd, hi => by
    rw [loopX_eq]
    have c0 : ¬ (i : Int) < 32 := by omega
    simp [p88_l8, c0, l8W]
  | n + 1, i, ds, hd, hi => by
    rw [loopX_eq]
    have := s8_step b cf A s ds hd i (by omega)
    simp [this]
    have := s8_run b cf A s n (i + 1) (ds.set i (outB s i)) (by simpa) (by omega)
    simp at this
    exact this
end Go.Fm

