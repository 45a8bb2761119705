/-
  A part of the proof: PEpoch3.
-/
import Derived.Test.YtjmjijgnbjkpnaaDoorPEpoch2
import Derived.Test.YtjmjijgnbjkpnaaDoorPRef1
set_option linter.all false
set_option autoImplicit true
/-
  epoch: Roots and At, at any log.
-/
set_option maxRecDepth 100000
set_option linter.unusedVariables false
set_option linter.unusedSimpArgs false
namespace Go.Fm
open Go Go.Proofs

/-! CF -/
def hashC (t : Option Tn) : CV := .arr 32 .u8 (dI (Tn.hasho t))
theorem hasho_len (t : Option Tn) : (Tn.hasho t).length = 32 := by cases t <;> simp [Tn.hasho, Tn.hash_len, shaW_len]
theorem csz_hashC (t : Option Tn) : CV.size (hashC t) = 32 := rfl
theorem cag_hashC (t : Option Tn) : CV.isAgg (hashC t) = true := rfl
theorem csz_tC (t : Option Tn) : CV.size (tC t) = 1 := rfl
theorem cag_tC (t : Option Tn) : CV.isAgg (tC t) = false := rfl
attribute [simp] csz_hashC cag_hashC csz_tC cag_tC
theorem Root_callC (b : Bool) (t : Option Tn) (H : Heap) : callX (cfg b) An 37 [.c (tC t)] H = some (.c (hashC t), H) := Root_call b t H
def rootsC (ts : List (Option Tn)) : CV := if ts = [] then .nilsl else .sl 32 (ts.map hashC)
def acR (k : Nat) : List (Option Tn) → AV
  | [] => .c .nilsl
  | _ => .os k
def acRH (H : Heap) : List (Option Tn) → Heap
  | [] => H
  | l => H ++ [.row 41 32 (l.map hashC)]
theorem nthC_tC (ts : List (Option Tn)) (i : Nat) (h : i < ts.length) : nthC (ts.map tC) i = tC (ts.getD i none) := nthC_map none h
theorem ro_step (b : Bool) (k f : Int) (ts pre rest : List (Option Tn)) (t : Option Tn) (h : ts = pre ++ t :: rest) (hm : ts.length ≤ 1000000) :
    loopX 2 (p30_l0 b (callX (cfg b) An) 2) [acR 2 pre, .os 1, .c (.int .i64 (ts.length : Int)), .c (.int .i64 (pre.length : Int))] (acRH (logH k f (ts.map tC)) pre) =
      loopX 2 (p30_l0 b (callX (cfg b) An) 2) [acR 2 (pre ++ [t]), .os 1, .c (.int .i64 (ts.length : Int)), .c (.int .i64 ((pre.length : Int) + 1))] (acRH (logH k f (ts.map tC)) (pre ++ [t])) := by
  have hl : pre.length < ts.length := by rw [h]; simp
  have hn := nthC_tC ts pre.length hl
  have hg : ts.getD pre.length none = t := by rw [h]; simp [List.getD_eq_getElem?_getD]
  rw [hg] at hn
  have ha := idx_add pre.length (by omega)
  have rc := Root_callC b t
  have h0 : (0 : Int) ≤ (pre.length : Int) := by omega
  have h1m : 1 ≤ maxLen := big_max (by decide)
  have hx := big_max (n := pre.length + 1) (by omega)
  have hx1 : (pre.length + 1) * 32 ≤ 140737488355328 := by omega
  cases pre with
  | nil =>
    simp only [List.length_nil, Int.natCast_zero, Int.ofNat_zero] at hl hn ha h0
    have hl0 : 0 < ts.length := hl
    rw [loopX_eq]
    simp [acR, acRH, logH, p30_l0, hl0, hn, ha, rc, h1m]
    rw [loopX_gc (s1 := [.os 2, .os 1, .c (.int .i64 (ts.length : Int)), .c (.int .i64 1)]) (H1 := [.var 137 (.agg [.c (.int .i64 k), .c (.int .u64 f), .os 1]), .row 28 1 (ts.map tC), .row 41 32 [hashC t]]) (by simp) (by simp)]
  | cons q pre =>
    obtain ⟨n, hn2⟩ : ∃ n, n = (q :: pre).length := ⟨_, rfl⟩
    have hn3 : pre.length + 1 = n := by rw [hn2]; rfl
    rw [← hn2] at hl hn ha h0 hx hx1 ⊢
    rw [loopX_eq]
    simp [acR, acRH, logH, p30_l0, hl, hn, h0, ha, rc, hx, hx1, hn3, h1m]
    rw [loopX_gc (s1 := [.os 2, .os 1, .c (.int .i64 (ts.length : Int)), .c (.int .i64 ((n : Int) + 1))]) (H1 := [.var 137 (.agg [.c (.int .i64 k), .c (.int .u64 f), .os 1]), .row 28 1 (ts.map tC), .row 41 32 (hashC q :: (pre.map hashC ++ [hashC t]))]) (by simp) (by simp)]
theorem ro_loop (b : Bool) (k f : Int) (ts : List (Option Tn)) (hm : ts.length ≤ 1000000) : ∀ (rest pre : List (Option Tn)), ts = pre ++ rest →
    loopX 2 (p30_l0 b (callX (cfg b) An) 2) [acR 2 pre, .os 1, .c (.int .i64 (ts.length : Int)), .c (.int .i64 (pre.length : Int))] (acRH (logH k f (ts.map tC)) pre) =
      some (.exit 0 [acR 2 ts], acRH (logH k f (ts.map tC)) ts)
  | [], pre, h => by
    rw [List.append_nil] at h
    rw [← h, loopX_eq]
    cases ts with
    | nil => simp [acR, acRH, logH, p30_l0]
    | cons q ts => simp [acR, acRH, logH, p30_l0]
  | t :: rest, pre, h => by
    rw [ro_step b k f ts pre rest t h hm]
    have ih := ro_loop b k f ts hm rest (pre ++ [t]) (by simp [h])
    have e2 : (((pre ++ [t]).length : Nat) : Int) = (pre.length : Int) + 1 := by simp
    rw [e2] at ih
    exact ih
theorem roots_fn (b : Bool) (k f : Int) (ts : List (Option Tn)) (hm : ts.length ≤ 1000000) : fnX (cfg b) An 30 [.ov 0 [] 0] (logH k f (ts.map tC)) = some (.c (rootsC ts), logH k f (ts.map tC)) := by
  rw [fnX_eq, p30_eq]
  have e := ro_loop b k f ts hm ts [] rfl
  simp only [acR, acRH, logH, List.length_nil, Int.natCast_zero, Int.ofNat_zero] at e
  have hk : (cfg b).keepR 30 = false := rfl
  have hll : (ts.map tC).length = ts.length := by simp
  cases ts with
  | nil =>
    simp only [acR, acRH, List.length_nil, List.map_nil, Int.natCast_zero, Int.ofNat_zero] at e
    simp [p30, be24, logH, e, hk, rootsC]
  | cons q ts =>
    simp only [acR, acRH, List.cons_append, List.nil_append] at e
    have hr : rootsC (q :: ts) = .sl 32 ((q :: ts).map hashC) := by simp [rootsC]
    rw [hr]
    obtain ⟨n, hn⟩ : ∃ n, n = (q :: ts).length := ⟨_, rfl⟩
    rw [← hn] at e hll
    generalize (q :: ts).map hashC = R at *
    generalize (q :: ts).map tC = T at *
    simp [p30, be24, logH, e, hk, hll]
theorem roots_new (b : Bool) (k f : Int) : fnX (cfg b) An 30 [.ov 0 [] 0] [.var 137 (.c (.agg [.int .i64 k, .int .u64 f, .nilsl]))] = some (.c .nilsl, [.var 137 (.c (.agg [.int .i64 k, .int .u64 f, .nilsl]))]) := by
  rw [fnX_eq, p30_eq]
  have e : loopX 1 (p30_l0 b (callX (cfg b) An) 1) [.c .nilsl, .c .nilsl, .c (.int .i64 0), .c (.int .i64 0)] [.var 137 (.c (.agg [.int .i64 k, .int .u64 f, .nilsl]))] = some (.exit 0 [.c .nilsl], [.var 137 (.c (.agg [.int .i64 k, .int .u64 f, .nilsl]))]) := by
    rw [loopX_eq]
    simp [p30_l0]
  simp [p30, be24, e]

/-! ### At -/
theorem subU (a c : Nat) (h : c ≤ a) (ha : a < 18446744073709551616) : iSub .u64 (a : Int) (c : Int) = ((a - c : Nat) : Int) := by
  unfold iSub
  rw [u64_small (by omega) (by omega)]
  omega
theorem at_in (b : Bool) (k : Int) (f n : Nat) (ts : List (Option Tn)) (hf : f ≤ n) (hn : n < 18446744073709551616) (hl : n - f < ts.length) (hm : ts.length ≤ 1000000) :
    fnX (cfg b) An 27 [.ov 0 [] 0, .c (.int .u64 (n : Int))] (logH k (f : Int) (ts.map tC)) = some (.tup [.c (tC (ts.getD (n - f) none)), .c (.int .i64 0)], logH k (f : Int) (ts.map tC)) := by
  rw [fnX_eq, p27_eq]
  have s1 := subU n f hf hn
  have h1 : ¬ n < f := by omega
  have h1I : ¬ (n : Int) < (f : Int) := by omega
  have w := u64_small (z := (ts.length : Int)) (by omega) (by omega)
  have h2 : ¬ (ts.length : Int) ≤ ((n - f : Nat) : Int) := by omega
  have hn := nthC_tC ts (n - f) hl
  have h3 : (0 : Int) ≤ ((n - f : Nat) : Int) := by omega
  have h4 : ((n - f : Nat) : Int) < (ts.length : Int) := by omega
  generalize n - f = m at *
  have h2' : ¬ ts.length ≤ m := by omega
  simp [p27, be24, logH, h1, h1I, s1, w, h2, h2', hn, hl]
theorem at_out (b : Bool) (k : Int) (f n : Nat) (ts : List (Option Tn)) (hn : n < 18446744073709551616) (hf : f ≤ 1000000) (hl : n < f ∨ ts.length ≤ n - f) (hm : ts.length ≤ 1000000) :
    fnX (cfg b) An 27 [.ov 0 [] 0, .c (.int .u64 (n : Int))] (logH k (f : Int) (ts.map tC)) = some (.tup [.c .nilp, .c (.int .i64 11)], logH k (f : Int) (ts.map tC)) := by
  rw [fnX_eq, p27_eq]
  have w := u64_small (z := (ts.length : Int)) (by omega) (by omega)
  by_cases h1 : n < f
  · have h1I : (n : Int) < (f : Int) := by omega
    simp [p27, be24, logH, h1, h1I, w]
  · have h1I : ¬ (n : Int) < (f : Int) := by omega
    have s1 := subU n f (by omega) hn
    have h2 : (ts.length : Int) ≤ ((n - f : Nat) : Int) := by omega
    have h2' : ts.length ≤ n - f := by omega
    generalize n - f = m at *
    simp [p27, be24, logH, h1, h1I, s1, w, h2, h2']
theorem at_new (b : Bool) (k : Int) (n : Nat) (hn : n < 18446744073709551616) :
    fnX (cfg b) An 27 [.ov 0 [] 0, .c (.int .u64 (n : Int))] [.var 137 (.c (.agg [.int .i64 k, .int .u64 1, .nilsl]))] = some (.tup [.c .nilp, .c (.int .i64 11)], [.var 137 (.c (.agg [.int .i64 k, .int .u64 1, .nilsl]))]) := by
  rw [fnX_eq, p27_eq]
  by_cases h1 : n < 1
  · have h1I : (n : Int) < 1 := by omega
    simp [p27, be24, h1I]
  · have h1I : ¬ (n : Int) < 1 := by omega
    have s1 := subU n 1 (by omega) hn
    rw [show ((1 : Nat) : Int) = 1 from rfl] at s1
    have w : IntKind.u64.wrap 0 = 0 := by decide
    have h2 : (0 : Int) ≤ ((n - 1 : Nat) : Int) := by omega
    generalize n - 1 = m at *
    simp [p27, be24, h1I, s1, w, h2]
end Go.Fm

