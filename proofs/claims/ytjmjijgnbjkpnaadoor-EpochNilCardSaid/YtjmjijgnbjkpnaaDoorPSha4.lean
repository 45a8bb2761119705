/-
  sha.Sum answers with a digest of the parts joined, part 4.
-/
import Derived.Test.YtjmjijgnbjkpnaaDoorPSha3
set_option linter.all false
set_option autoImplicit true
/-
  sha: the block as a whole.
-/
set_option maxRecDepth 100000
set_option linter.unusedVariables false
set_option linter.unusedSimpArgs false
namespace Go.Fm
open Go Go.Proofs

set_option maxHeartbeats 4000000 in
theorem l6_step (b : Bool) (cf : CallFn) (hs vs : List W32) (hw : hs.length = 8) (hv : vs.length = 8) (i : Nat) (hi : i < 8) :
    p121_l6 b cf 1 [.ov 0 [] 0, .ov 1 [] 0, .c (.int .i64 i)] [.var 193 (.c (.arr 8 .u32 (hs.map wI))), .var 193 (.c (.arr 8 .u32 (vs.map wI)))] =
      some (.cont [.ov 0 [] 0, .ov 1 [] 0, .c (.int .i64 ((i + 1 : Nat) : Int))], [.var 193 (.c (.arr 8 .u32 ((hs.set i (nthW hs i + nthW vs i)).map wI))), .var 193 (.c (.arr 8 .u32 (vs.map wI)))]) := by
  have c0 : decide ((i : Int) < 8) = true := by simp; omega
  have a4 := add1_nat i (by omega)
  have di : (i : Int) < 8 := by omega
  simp (maxSteps := 400000) [p121_l6, c0, a4, hi, di, hw, hv, nthI_w, w_add]

/-! ### Loops -/
theorem loopX_gc {k : Nat} {step : List AV → Heap → Option (LStep × Heap)} {s s1 : List AV} {H H1 : Heap} (h : gcL k s H = some (s1, H1)) (h1 : gcL k s1 H1 = some (s1, H1)) :
    loopX k step s H = loopX k step s1 H1 := by
  rw [loopX_eq, loopX_eq (s := s1), h, h1]
def l0W (bs : List UInt8) : Nat → Nat → List W32 → List W32
  | 0, _, ws => ws
  | n + 1, i, ws => l0W bs n (i + 1) (ws.set i (wordAt bs i))
theorem l0W_len (bs : List UInt8) : ∀ (n i : Nat) (ws : List W32), (l0W bs n i ws).length = ws.length
  | 0, _, _ => rfl
  | n + 1, i, ws => by rw [l0W, l0W_len]; simp
def l2W : Nat → Nat → List W32 → List W32
  | 0, _, ws => ws
  | n + 1, i, ws => l2W n (i + 1) (ws.set i (nextW ws i))
theorem l2W_len : ∀ (n i : Nat) (ws : List W32), (l2W n i ws).length = ws.length
  | 0, _, _ => rfl
  | n + 1, i, ws => by rw [l2W, l2W_len]; simp
def l4W (ws : List W32) : Nat → Nat → St → St
  | 0, _, s => s
  | n + 1, i, s => l4W ws n (i + 1) (s.next (nthW kW i) (nthW ws i))
def l6W (vs : List W32) : Nat → Nat → List W32 → List W32
  | 0, _, hs => hs
  | n + 1, i, hs => l6W vs n (i + 1) (hs.set i (nthW hs i + nthW vs i))
theorem l6W_len (vs : List W32) : ∀ (n i : Nat) (hs : List W32), (l6W vs n i hs).length = hs.length
  | 0, _, _ => rfl
  | n + 1, i, hs => by rw [l6W, l6W_len]; simp

theorem l0_run (b : Bool) (cf : CallFn) (hv : CV) (bs : List UInt8) (hb : 64 ≤ bs.length) (hm : bs.length ≤ maxLen) : ∀ (n i : Nat) (ws : List W32), ws.length = 64 → i + n = 16 →
    loopX 1 (p121_l0 b cf 1) [.ov 0 [] 0, .c (.sl 1 (bytesAV bs)), .ov 1 [] 0, .c (.int .i64 i)] [.var 193 (.c hv), .var 199 (.c (.arr 64 .u32 (ws.map wI)))] =
      some (.exit 0 [.ov 0 [] 0, .ov 1 [] 0], [.var 193 (.c hv), .var 199 (.c (.arr 64 .u32 ((l0W bs n i ws).map wI)))])
  | 0, i, ws, hw, hi => by
    rw [loopX_eq]
    have c0 : decide ((i : Int) < 16) = false := by simp; omega
    simp [p121_l0, c0, l0W]
  | n + 1, i, ws, hw, hi => by
    rw [loopX_eq]
    have := l0_step b cf hv bs hb hm ws hw i (by omega)
    simp [this]
    have := l0_run b cf hv bs hb hm n (i + 1) (ws.set i (wordAt bs i)) (by simpa) (by omega)
    simp at this
    exact this

theorem l2_run (b : Bool) (hv : CV) : ∀ (n i : Nat) (ws : List W32), ws.length = 64 → 16 ≤ i → i + n = 64 →
    loopX 1 (p121_l2 b (callX (cfg b) An) 1) [.ov 0 [] 0, .ov 1 [] 0, .c (.int .i64 i)] [.var 193 (.c hv), .var 199 (.c (.arr 64 .u32 (ws.map wI)))] =
      some (.exit 2 [.ov 0 [] 0, .ov 1 [] 0], [.var 193 (.c hv), .var 199 (.c (.arr 64 .u32 ((l2W n i ws).map wI)))])
  | 0, i, ws, hw, hl, hi => by
    rw [loopX_eq]
    have c0 : decide ((i : Int) < 64) = false := by simp; omega
    simp [p121_l2, c0, l2W]
  | n + 1, i, ws, hw, hl, hi => by
    rw [loopX_eq]
    have := l2_step b hv ws hw i hl (by omega)
    simp [this]
    have := l2_run b hv n (i + 1) (ws.set i (nextW ws i)) (by simpa) (by omega) (by omega)
    simp at this
    exact this
theorem l4_run (b : Bool) (hv : CV) (ws : List W32) (hw : ws.length = 64) : ∀ (n i : Nat) (s : St), i + n = 64 →
    loopX 1 (p121_l4 b (callX (cfg b) An) 1) [.ov 0 [] 0, .ov 1 [] 0, .ov 2 [] 0, .c (.arr 64 .u32 words), .c (.int .i64 i)] [.var 193 (.c hv), .var 199 (.c (.arr 64 .u32 (ws.map wI))), .var 193 (.c s.v)] =
      some (.exit 4 [.ov 0 [] 0, .ov 2 [] 0], [.var 193 (.c hv), .var 199 (.c (.arr 64 .u32 (ws.map wI))), .var 193 (.c (l4W ws n i s).v)])
  | 0, i, s, hi => by
    rw [loopX_eq]
    have c0 : decide ((i : Int) < 64) = false := by simp; omega
    simp [p121_l4, c0, l4W]
  | n + 1, i, s, hi => by
    rw [loopX_eq]
    have := l4_step b hv ws hw s i (by omega)
    simp [this]
    have := l4_run b hv ws hw n (i + 1) (s.next (nthW kW i) (nthW ws i)) (by omega)
    simp at this
    exact this
theorem l6_run (b : Bool) (cf : CallFn) (vs : List W32) (hv : vs.length = 8) : ∀ (n i : Nat) (hs : List W32), hs.length = 8 → i + n = 8 →
    loopX 1 (p121_l6 b cf 1) [.ov 0 [] 0, .ov 1 [] 0, .c (.int .i64 i)] [.var 193 (.c (.arr 8 .u32 (hs.map wI))), .var 193 (.c (.arr 8 .u32 (vs.map wI)))] =
      some (.exit 6 [], [.var 193 (.c (.arr 8 .u32 ((l6W vs n i hs).map wI))), .var 193 (.c (.arr 8 .u32 (vs.map wI)))])
  | 0, i, hs, hw, hi => by
    rw [loopX_eq]
    have c0 : decide ((i : Int) < 8) = false := by simp; omega
    simp [p121_l6, c0, l6W]
  | n + 1, i, hs, hw, hi => by
    rw [loopX_eq]
    have := l6_step b cf hs vs hw hv i (by omega)
    simp [this]
    have := l6_run b cf vs hv n (i + 1) (hs.set i (nthW hs i + nthW vs i)) (by simpa) (by omega)
    simp at this
    exact this

def zeroW : List W32 := List.replicate 64 0
def schedW (bs : List UInt8) : List W32 := l2W 48 16 (l0W bs 16 0 zeroW)
theorem schedW_len (bs : List UInt8) : (schedW bs).length = 64 := by rw [schedW, l2W_len, l0W_len]; rfl
def St.plus (s v : St) : St := ⟨s.a + v.a, s.b + v.b, s.c + v.c, s.d + v.d, s.e + v.e, s.f + v.f, s.g + v.g, s.h + v.h⟩
theorem l6_plus (s v : St) : l6W v.l 8 0 s.l = (s.plus v).l := rfl
def blockW (bs : List UInt8) (s : St) : St := s.plus (l4W (schedW bs) 64 0 s)
theorem St.v_l (s : St) : s.v = .arr 8 .u32 (s.l.map wI) := rfl

set_option maxHeartbeats 4000000 in
theorem block_fn (b : Bool) (bs : List UInt8) (hb : 64 ≤ bs.length) (hm : bs.length ≤ maxLen) (s : St) :
    fnX (cfg b) An 121 [.ov 0 [] 0, .c (.sl 1 (bytesAV bs))] [.var 193 (.c s.v)] = some (.tup [], [.var 193 (.c (blockW bs s).v)]) := by
  rw [fnX_eq, p121_eq]
  have e0 := l0_run b (callX (cfg b) An) s.v bs hb hm 16 0 zeroW rfl rfl
  have e2 := l2_run b s.v 48 16 (l0W bs 16 0 zeroW) (by rw [l0W_len]; rfl) (by decide) rfl
  have e4 := l4_run b s.v (schedW bs) (schedW_len bs) 64 0 s rfl
  have e6 := l6_run b (callX (cfg b) An) (l4W (schedW bs) 64 0 s).l rfl 8 0 s.l rfl rfl
  rw [l6_plus] at e6
  have hz : (zeroW.map wI) = List.replicate 64 0 := by decide
  rw [hz] at e0
  rw [← schedW] at e2
  have n0 : ((0 : Nat) : Int) = 0 := rfl
  have n16 : ((16 : Nat) : Int) = 16 := rfl
  rw [n0] at e0 e4
  rw [n16] at e2
  rw [← loopX_gc (s := [.ov 0 [] 0, .ov 2 [] 0, .c (.int .i64 ((0 : Nat) : Int))]) (H := [.var 193 (.c s.v), .var 199 (.c (.arr 64 .u32 ((schedW bs).map wI))), .var 193 (.c (l4W (schedW bs) 64 0 s).v)]) (by simp [St.v_l]) (by simp)] at e6
  have hl : ∀ s : St, s.l.length = 8 := fun _ => rfl
  rw [n0] at e6
  simp only [St.v_l] at e0 e2 e4 e6 ⊢
  simp [-List.reduceReplicate, p121, e0, e2, e4, e6, hl, words_len, blockW, glR]
end Go.Fm

