/-
  A part of the proof: PEp.
-/
import Derived.Test.YtjmjijgnbjkpnaaDoorPEpoch1
import Derived.Test.YtjmjijgnbjkpnaaDoorPGrow
import Derived.Test.YtjmjijgnbjkpnaaDoorDMisb
import Derived.Test.YtjmjijgnbjkpnaaDoorPRefs
set_option linter.all false
set_option autoImplicit true
/-
  epoch: what Awake looks at.
-/
set_option maxRecDepth 100000
set_option linter.unusedVariables false
set_option linter.unusedSimpArgs false
namespace Go.Fm
open Go Go.Proofs

theorem root_call (b : Bool) (H : Heap) : callX (cfg b) An 37 [.c tE] H = some (.c rootE, H) := callX_pure (root_fn b) rfl rfl (prim_none (by decide)) H
theorem rootE_size : rootE = .arr 32 .u8 (dI (shaW [])) := rfl
theorem dI_len (m : List UInt8) : (dI (shaW m)).length = 32 := by simp [dI, shaW_len]
theorem two_max : 2 ≤ maxLen := big_max (by decide)
section
variable {a0 a1 : CV} {l : List CV}
theorem nthC_n0 : nthC (a0 :: l) 0 = a0 := (rfl)
theorem nthC_n1 : nthC (a0 :: a1 :: l) 1 = a1 := (rfl)
end
theorem roots_two (b : Bool) (k f : Int) : fnX (cfg b) An 30 [.ov 0 [] 0] (logH k f [tE, tE]) = some (.c (.sl 32 [rootE, rootE]), logH k f [tE, tE]) := by
  rw [fnX_eq, p30_eq]
  have hr := root_call b
  have hl := dI_len []
  rw [rootE_size] at hr ⊢
  generalize dI (shaW []) = w at hr hl ⊢
  simp only [tE] at hr ⊢
  have a1 : iAdd .i64 0 1 = 1 := by decide
  have a2 : iAdd .i64 1 1 = 2 := by decide
  have e1 : loopX 2 (p30_l0 b (callX (cfg b) An) 2) [.c .nilsl, .os 1, .c (.int .i64 2), .c (.int .i64 0)] (logH k f [.ptr (.agg [.nilp]) [] 0, .ptr (.agg [.nilp]) [] 0]) = some (.exit 0 [.os 2], logH k f [.ptr (.agg [.nilp]) [] 0, .ptr (.agg [.nilp]) [] 0] ++ [.row 41 32 [.arr 32 .u8 w, .arr 32 .u8 w]]) := by
    rw [loopX_eq]
    simp [p30_l0, logH, hr, hl, a1, nthC_n0, one_max]
    rw [loopX_eq]
    simp [p30_l0, hr, hl, a2, nthC_n1, two_max]
    rw [loopX_eq]
    simp [p30_l0]
  simp only [logH] at e1
  have hk : (cfg b).keepR 30 = false := rfl
  simp [p30, be24, logH, e1, hk]
theorem at_one (b : Bool) (k : Int) (ts : List CV) : fnX (cfg b) An 27 [.ov 0 [] 0, .c (.int .u64 1)] (logH k 2 ts) = some (.tup [.c .nilp, .c (.int .i64 11)], logH k 2 ts) := by
  rw [fnX_eq, p27_eq]
  simp [p27, be24, logH, reachV_undef]
end Go.Fm

/-
  EpochNil: what the law's function gives.
-/
set_option maxRecDepth 100000
set_option linter.unusedVariables false
set_option linter.unusedSimpArgs false
namespace Go.Fm
open Go Go.Proofs

section
variable (b : Bool) (H : Heap)
theorem new_tree_call : callX (cfg b) An 26 [] H = some (.c tE, H) := callX_pure (new_tree b) rfl rfl (prim_none (by decide)) H
theorem commit_nil_call (x : CV) : callX (cfg b) An 25 [.c .nilp, .c x] H = some (.tup [.c (.int .u64 0), .c (.int .i64 1)], H) := callX_pure (commit_nil b x) rfl rfl (prim_none (by decide)) H
theorem at_nil_call (n : Int) : callX (cfg b) An 27 [.c .nilp, .c (.int .u64 n)] H = some (.tup [.c .nilp, .c (.int .i64 1)], H) := callX_pure (at_nil b n) rfl rfl (prim_none (by decide)) H
theorem last_nil_call : callX (cfg b) An 29 [.c .nilp] H = some (.c (.int .u64 0), H) := callX_pure (last_nil b) rfl rfl (prim_none (by decide)) H
theorem roots_nil_call : callX (cfg b) An 30 [.c .nilp] H = some (.c .nilsl, H) := callX_pure (roots_nil b) rfl rfl (prim_none (by decide)) H
theorem v28 {vs : List AV} : callX (cfg b) An 28 vs H = cvw (fnX (cfg b) An 28) (handCs (cfg b) ((cfg b).keepA 28) H vs) := callX_v (prim_none (by decide))
theorem v25 {a : AV} {i : Nat} {p : List Nat} {o : Nat} : callX (cfg b) An 25 [.ov i p o, a] H = cvw (fnX (cfg b) An 25) (handCs (cfg b) ((cfg b).keepA 25) H [.ov i p o, a]) := callX_v (prim_none (by decide))
theorem v27 {a : AV} {i : Nat} {p : List Nat} {o : Nat} : callX (cfg b) An 27 [.ov i p o, a] H = cvw (fnX (cfg b) An 27) (handCs (cfg b) ((cfg b).keepA 27) H [.ov i p o, a]) := callX_v (prim_none (by decide))
theorem v29 {i : Nat} {p : List Nat} {o : Nat} : callX (cfg b) An 29 [.ov i p o] H = cvw (fnX (cfg b) An 29) (handCs (cfg b) ((cfg b).keepA 29) H [.ov i p o]) := callX_v (prim_none (by decide))
theorem v30 {i : Nat} {p : List Nat} {o : Nat} : callX (cfg b) An 30 [.ov i p o] H = cvw (fnX (cfg b) An 30) (handCs (cfg b) ((cfg b).keepA 30) H [.ov i p o]) := callX_v (prim_none (by decide))
end
theorem last3 : lastZ 2 2 = 3 := by decide
theorem keep25 {b : Bool} : (cfg b).keepA 25 = false := rfl
theorem keep27 {b : Bool} : (cfg b).keepA 27 = false := rfl
theorem keep28 {b : Bool} : (cfg b).keepA 28 = false := rfl
theorem keep29 {b : Bool} : (cfg b).keepA 29 = false := rfl
theorem keep30 {b : Bool} : (cfg b).keepA 30 = false := rfl

theorem awake_fn (b : Bool) : fnX (cfg b) An 24 [] [] = some (.c (.bool true), []) := by
  rw [fnX_eq, p24_eq]
  have a1 : iAdd .i64 0 1 = 1 := by decide
  have a2 : iAdd .i64 1 1 = 2 := by decide
  have a3 : iAdd .i64 2 1 = 3 := by decide
  have a4 : iAdd .u64 1 1 = 2 := by decide
  have c1 := commit_first b 2 1 (.agg [.nilp]) [] 0 (by decide)
  have c2 := commit_more b 2 1 [tE] (.agg [.nilp]) [] 0 (by decide) (by decide)
  have c3 := commit_drop b 2 1 [tE, tE] (.agg [.nilp]) [] 0 (by decide) (by decide)
  have hA := at_one b 2 [tE, tE]
  have hR := roots_two b 2 2
  have hL := last_fn b 2 2 [tE, tE]
  have hN := new_fn b 2 (by decide) (by decide)
  have hT := new_tree_call b
  rw [a4] at c3
  simp only [logH, logD, List.cons_append, List.nil_append, List.drop_succ_cons, List.drop_zero, List.length_cons, List.length_nil, Nat.zero_add, Nat.reduceAdd, last3] at c1 c2 c3 hA hR hL
  have ht : CV.ptr (.agg [.nilp]) [] 0 = tE := rfl
  rw [ht] at c1 c2 c3
  have e1 : loopX 0 (p24_l0 b (callX (cfg b) An) 0) [.ov 0 [] 0, .c (.int .i64 0), .c (.int .i64 0)] [.var 137 (.c (.agg [.int .i64 2, .int .u64 1, .nilsl]))] = some (.exit 0 [.ov 0 [] 0, .c (.int .i64 0)], logH 2 2 [tE, tE]) := by
    rw [loopX_eq]
    simp [p24_l0, hT, v25, keep25, frz137, c1, a1, logH]
    rw [loopX_eq]
    simp [p24_l0, hT, v25, keep25, frz137, c2, a2, logH]
    rw [loopX_eq]
    simp [p24_l0, hT, v25, keep25, frz137, c3, a3, logH]
    rw [loopX_eq]
    simp [p24_l0, logH]
  simp only [logH] at e1
  simp [p24, v28, keep28, hN, e1, v27, keep27, hA, v29, keep29, hL, v30, keep30, hR, frz137]

theorem epochNil_fn (b : Bool) (n m : Int) (h0 : 0 ≤ m) : fnX (cfg b) An 3 [.c (.int .u64 n), .c (.int .u8 m)] [] = some (.c (.bool true), []) := by
  rw [fnX_eq, p3_eq]
  have hW : ∀ H, callX (cfg b) An 24 [] H = some (.c (.bool true), H) := callX_pure (awake_fn b) rfl rfl (prim_none (by decide))
  obtain ⟨k, hk⟩ : ∃ k : Int, k = iAdd .i64 1 (IntKind.i64.wrap (m.tmod 64)) := ⟨_, rfl⟩
  have hm : IntKind.i64.wrap (m.tmod 64) = m % 64 := by
    rw [Int.tmod_eq_emod_of_nonneg h0, i64_small (by omega) (by omega)]
  have hk1 : k = 1 + m % 64 := by
    rw [hk, hm]; unfold iAdd; rw [i64_small (by omega) (by omega)]
  have hN := new_fn b k (by omega) (by omega)
  have hC := commit_none b (.agg [.int .i64 k, .int .u64 1, .nilsl])
  have hL := last_new b k 1
  have l0 : lastZ 1 0 = 0 := by decide
  rw [l0] at hL
  simp [p3, hW, new_tree_call, commit_nil_call, at_nil_call, last_nil_call, roots_nil_call, ← hk, v28, keep28, hN, v25, keep25, hC, v29, keep29, hL, frz137, be28]
end Go.Fm

/-
  epoch: Roots and At, at any log.
-/
set_option maxRecDepth 100000
set_option linter.unusedVariables false
set_option linter.unusedSimpArgs false
namespace Go.Fm
open Go Go.Proofs

/-! CF -/
def hashC (t : Option Tn) : CV := .arr 32 .u8 (dI (Tn.hasho t))
theorem hasho_len (t : Option Tn) : (Tn.hasho t).length = 32 := by cases t <;> simp [Tn.hasho, Tn.hash_len, shaW_len]
theorem csz_hashC (t : Option Tn) : CV.size (hashC t) = 32 := rfl
theorem cag_hashC (t : Option Tn) : CV.isAgg (hashC t) = true := rfl
theorem csz_tC (t : Option Tn) : CV.size (tC t) = 1 := rfl
theorem cag_tC (t : Option Tn) : CV.isAgg (tC t) = false := rfl
attribute [simp] csz_hashC cag_hashC csz_tC cag_tC
theorem Root_callC (b : Bool) (t : Option Tn) (H : Heap) : callX (cfg b) An 37 [.c (tC t)] H = some (.c (hashC t), H) := Root_call b t H
def rootsC (ts : List (Option Tn)) : CV := if ts = [] then .nilsl else .sl 32 (ts.map hashC)
def acR (k : Nat) : List (Option Tn) → AV
  | [] => .c .nilsl
  | _ => .os k
def acRH (H : Heap) : List (Option Tn) → Heap
  | [] => H
  | l => H ++ [.row 41 32 (l.map hashC)]
theorem nthC_tC (ts : List (Option Tn)) (i : Nat) (h : i < ts.length) : nthC (ts.map tC) i = tC (ts.getD i none) := nthC_map none h
theorem ro_step (b : Bool) (k f : Int) (ts pre rest : List (Option Tn)) (t : Option Tn) (h : ts = pre ++ t :: rest) (hm : ts.length ≤ 1000000) :
    loopX 2 (p30_l0 b (callX (cfg b) An) 2) [acR 2 pre, .os 1, .c (.int .i64 (ts.length : Int)), .c (.int .i64 (pre.length : Int))] (acRH (logH k f (ts.map tC)) pre) =
      loopX 2 (p30_l0 b (callX (cfg b) An) 2) [acR 2 (pre ++ [t]), .os 1, .c (.int .i64 (ts.length : Int)), .c (.int .i64 ((pre.length : Int) + 1))] (acRH (logH k f (ts.map tC)) (pre ++ [t])) := by
  have hl : pre.length < ts.length := by rw [h]; simp
  have hn := nthC_tC ts pre.length hl
  have hg : ts.getD pre.length none = t := by rw [h]; simp [List.getD_eq_getElem?_getD]
  rw [hg] at hn
  have ha := idx_add pre.length (by omega)
  have rc := Root_callC b t
  have h0 : (0 : Int) ≤ (pre.length : Int) := by omega
  have h1m : 1 ≤ maxLen := big_max (by decide)
  have hx := big_max (n := pre.length + 1) (by omega)
  have hx1 : (pre.length + 1) * 32 ≤ 140737488355328 := by omega
  cases pre with
  | nil =>
    simp only [List.length_nil, Int.natCast_zero, Int.ofNat_zero] at hl hn ha h0
    have hl0 : 0 < ts.length := hl
    rw [loopX_eq]
    simp [acR, acRH, logH, p30_l0, hl0, hn, ha, rc, h1m]
    rw [loopX_gc (s1 := [.os 2, .os 1, .c (.int .i64 (ts.length : Int)), .c (.int .i64 1)]) (H1 := [.var 137 (.agg [.c (.int .i64 k), .c (.int .u64 f), .os 1]), .row 28 1 (ts.map tC), .row 41 32 [hashC t]]) (by simp) (by simp)]
  | cons q pre =>
    obtain ⟨n, hn2⟩ : ∃ n, n = (q :: pre).length := ⟨_, rfl⟩
    have hn3 : pre.length + 1 = n := by rw [hn2]; rfl
    rw [← hn2] at hl hn ha h0 hx hx1 ⊢
    rw [loopX_eq]
    simp [acR, acRH, logH, p30_l0, hl, hn, h0, ha, rc, hx, hx1, hn3, h1m]
    rw [loopX_gc (s1 := [.os 2, .os 1, .c (.int .i64 (ts.length : Int)), .c (.int .i64 ((n : Int) + 1))]) (H1 := [.var 137 (.agg [.c (.int .i64 k), .c (.int .u64 f), .os 1]), .row 28 1 (ts.map tC), .row 41 32 (hashC q :: (pre.map hashC ++ [hashC t]))]) (by simp) (by simp)]
theorem ro_loop (b : Bool) (k f : Int) (ts : List (Option Tn)) (hm : ts.length ≤ 1000000) : ∀ (rest pre : List (Option Tn)), ts = pre ++ rest →
    loopX 2 (p30_l0 b (callX (cfg b) An) 2) [acR 2 pre, .os 1, .c (.int .i64 (ts.length : Int)), .c (.int .i64 (pre.length : Int))] (acRH (logH k f (ts.map tC)) pre) =
      some (.exit 0 [acR 2 ts], acRH (logH k f (ts.map tC)) ts)
  | [], pre, h => by
    rw [List.append_nil] at h
    rw [← h, loopX_eq]
    cases ts with
    | nil => simp [acR, acRH, logH, p30_l0]
    | cons q ts => simp [acR, acRH, logH, p30_l0]
  | t :: rest, pre, h => by
    rw [ro_step b k f ts pre rest t h hm]
    have ih := ro_loop b k f ts hm rest (pre ++ [t]) (by simp [h])
    have e2 : (((pre ++ [t]).length : Nat) : Int) = (pre.length : Int) + 1 := by simp
    rw [e2] at ih
    exact ih
theorem roots_fn (b : Bool) (k f : Int) (ts : List (Option Tn)) (hm : ts.length ≤ 1000000) : fnX (cfg b) An 30 [.ov 0 [] 0] (logH k f (ts.map tC)) = some (.c (rootsC ts), logH k f (ts.map tC)) := by
  rw [fnX_eq, p30_eq]
  have e := ro_loop b k f ts hm ts [] rfl
  simp only [acR, acRH, logH, List.length_nil, Int.natCast_zero, Int.ofNat_zero] at e
  have hk : (cfg b).keepR 30 = false := rfl
  have hll : (ts.map tC).length = ts.length := by simp
  cases ts with
  | nil =>
    simp only [acR, acRH, List.length_nil, List.map_nil, Int.natCast_zero, Int.ofNat_zero] at e
    simp [p30, be24, logH, e, hk, rootsC]
  | cons q ts =>
    simp only [acR, acRH, List.cons_append, List.nil_append] at e
    have hr : rootsC (q :: ts) = .sl 32 ((q :: ts).map hashC) := by simp [rootsC]
    rw [hr]
    obtain ⟨n, hn⟩ : ∃ n, n = (q :: ts).length := ⟨_, rfl⟩
    rw [← hn] at e hll
    generalize (q :: ts).map hashC = R at *
    generalize (q :: ts).map tC = T at *
    simp [p30, be24, logH, e, hk, hll]
theorem roots_new (b : Bool) (k f : Int) : fnX (cfg b) An 30 [.ov 0 [] 0] [.var 137 (.c (.agg [.int .i64 k, .int .u64 f, .nilsl]))] = some (.c .nilsl, [.var 137 (.c (.agg [.int .i64 k, .int .u64 f, .nilsl]))]) := by
  rw [fnX_eq, p30_eq]
  have e : loopX 1 (p30_l0 b (callX (cfg b) An) 1) [.c .nilsl, .c .nilsl, .c (.int .i64 0), .c (.int .i64 0)] [.var 137 (.c (.agg [.int .i64 k, .int .u64 f, .nilsl]))] = some (.exit 0 [.c .nilsl], [.var 137 (.c (.agg [.int .i64 k, .int .u64 f, .nilsl]))]) := by
    rw [loopX_eq]
    simp [p30_l0]
  simp [p30, be24, e]

/-! ### At -/
theorem subU (a c : Nat) (h : c ≤ a) (ha : a < 18446744073709551616) : iSub .u64 (a : Int) (c : Int) = ((a - c : Nat) : Int) := by
  unfold iSub
  rw [u64_small (by omega) (by omega)]
  omega
theorem at_in (b : Bool) (k : Int) (f n : Nat) (ts : List (Option Tn)) (hf : f ≤ n) (hn : n < 18446744073709551616) (hl : n - f < ts.length) (hm : ts.length ≤ 1000000) :
    fnX (cfg b) An 27 [.ov 0 [] 0, .c (.int .u64 (n : Int))] (logH k (f : Int) (ts.map tC)) = some (.tup [.c (tC (ts.getD (n - f) none)), .c (.int .i64 0)], logH k (f : Int) (ts.map tC)) := by
  rw [fnX_eq, p27_eq]
  have s1 := subU n f hf hn
  have h1 : ¬ n < f := by omega
  have h1I : ¬ (n : Int) < (f : Int) := by omega
  have w := u64_small (z := (ts.length : Int)) (by omega) (by omega)
  have h2 : ¬ (ts.length : Int) ≤ ((n - f : Nat) : Int) := by omega
  have hn := nthC_tC ts (n - f) hl
  have h3 : (0 : Int) ≤ ((n - f : Nat) : Int) := by omega
  have h4 : ((n - f : Nat) : Int) < (ts.length : Int) := by omega
  generalize n - f = m at *
  have h2' : ¬ ts.length ≤ m := by omega
  simp [p27, be24, logH, h1, h1I, s1, w, h2, h2', hn, hl]
theorem at_out (b : Bool) (k : Int) (f n : Nat) (ts : List (Option Tn)) (hn : n < 18446744073709551616) (hf : f ≤ 1000000) (hl : n < f ∨ ts.length ≤ n - f) (hm : ts.length ≤ 1000000) :
    fnX (cfg b) An 27 [.ov 0 [] 0, .c (.int .u64 (n : Int))] (logH k (f : Int) (ts.map tC)) = some (.tup [.c .nilp, .c (.int .i64 11)], logH k (f : Int) (ts.map tC)) := by
  rw [fnX_eq, p27_eq]
  have w := u64_small (z := (ts.length : Int)) (by omega) (by omega)
  by_cases h1 : n < f
  · have h1I : (n : Int) < (f : Int) := by omega
    simp [p27, be24, logH, h1, h1I, w]
  · have h1I : ¬ (n : Int) < (f : Int) := by omega
    have s1 := subU n f (by omega) hn
    have h2 : (ts.length : Int) ≤ ((n - f : Nat) : Int) := by omega
    have h2' : ts.length ≤ n - f := by omega
    generalize n - f = m at *
    simp [p27, be24, logH, h1, h1I, s1, w, h2, h2']
theorem at_new (b : Bool) (k : Int) (n : Nat) (hn : n < 18446744073709551616) :
    fnX (cfg b) An 27 [.ov 0 [] 0, .c (.int .u64 (n : Int))] [.var 137 (.c (.agg [.int .i64 k, .int .u64 1, .nilsl]))] = some (.tup [.c .nilp, .c (.int .i64 11)], [.var 137 (.c (.agg [.int .i64 k, .int .u64 1, .nilsl]))]) := by
  rw [fnX_eq, p27_eq]
  by_cases h1 : n < 1
  · have h1I : (n : Int) < 1 := by omega
    simp [p27, be24, h1I]
  · have h1I : ¬ (n : Int) < 1 := by omega
    have s1 := subU n 1 (by omega) hn
    rw [show ((1 : Nat) : Int) = 1 from rfl] at s1
    have w : IntKind.u64.wrap 0 = 0 := by decide
    have h2 : (0 : Int) ≤ ((n - 1 : Nat) : Int) := by omega
    generalize n - 1 = m at *
    simp [p27, be24, h1I, s1, w, h2]
end Go.Fm

