/-
  A part of the proof: PEp.
-/
import Derived.Test.YtjmjijgnbjkpnaaDoorPEpoch1
import Derived.Test.YtjmjijgnbjkpnaaDoorPGrow
import Derived.Test.YtjmjijgnbjkpnaaDoorDMisb
import Derived.Test.YtjmjijgnbjkpnaaDoorPRefs
set_option linter.all false
set_option autoImplicit true
/-
  epoch: what Awake looks at.
-/
set_option maxRecDepth 100000
set_option linter.unusedVariables false
set_option linter.unusedSimpArgs false
namespace Go.Fm
open Go Go.Proofs
section
variable {a0 a1 : CV} {l : List CV}
theorem nthC_n0 : nthC (a0 :: l) 0 = a0 := (rfl)
theorem nthC_n1 : nthC (a0 :: a1 :: l) 1 = a1 := (rfl)
end
end Go.Fm
/-
  EpochNil: what the law's function gives.
-/
set_option maxRecDepth 100000
set_option linter.unusedVariables false
set_option linter.unusedSimpArgs false
namespace Go.Fm
open Go Go.Proofs
section
variable (b : Bool) (H : Heap)
theorem v28 {vs : List AV} : callX (cfg b) An 28 vs H = cvw (fnX (cfg b) An 28) (handCs (cfg b) ((cfg b).keepA 28) H vs) := callX_v (prim_none (by decide))
theorem v25 {a : AV} {i : Nat} {p : List Nat} {o : Nat} : callX (cfg b) An 25 [.ov i p o, a] H = cvw (fnX (cfg b) An 25) (handCs (cfg b) ((cfg b).keepA 25) H [.ov i p o, a]) := callX_v (prim_none (by decide))
theorem v27 {a : AV} {i : Nat} {p : List Nat} {o : Nat} : callX (cfg b) An 27 [.ov i p o, a] H = cvw (fnX (cfg b) An 27) (handCs (cfg b) ((cfg b).keepA 27) H [.ov i p o, a]) := callX_v (prim_none (by decide))
end
theorem keep25 {b : Bool} : (cfg b).keepA 25 = false := rfl
theorem keep27 {b : Bool} : (cfg b).keepA 27 = false := rfl
theorem keep28 {b : Bool} : (cfg b).keepA 28 = false := rfl
end Go.Fm
/-
  epoch: Roots and At, at any log.
-/
set_option maxRecDepth 100000
set_option linter.unusedVariables false
set_option linter.unusedSimpArgs false
namespace Go.Fm
open Go Go.Proofs
/-! CF -/
def hashC (t : Option Tn) : CV := .arr 32 .u8 (dI (Tn.hasho t))
theorem csz_hashC (t : Option Tn) : CV.size (hashC t) = 32 := rfl
theorem cag_hashC (t : Option Tn) : CV.isAgg (hashC t) = true := rfl
theorem csz_tC (t : Option Tn) : CV.size (tC t) = 1 := rfl
theorem cag_tC (t : Option Tn) : CV.isAgg (tC t) = false := rfl
attribute [simp] csz_hashC cag_hashC csz_tC cag_tC
theorem nthC_tC (ts : List (Option Tn)) (i : Nat) (h : i < ts.length) : nthC (ts.map tC) i = tC (ts.getD i none) := nthC_map none h
/-! ### At -/
theorem subU (a c : Nat) (h : c ≤ a) (ha : a < 18446744073709551616) : iSub .u64 (a : Int) (c : Int) = ((a - c : Nat) : Int) := by
  unfold iSub
  rw [u64_small (by omega) (by omega)]
  omega
theorem at_in (b : Bool) (k : Int) (f n : Nat) (ts : List (Option Tn)) (hf : f ≤ n) (hn : n < 18446744073709551616) (hl : n - f < ts.length) (hm : ts.length ≤ 1000000) :
    fnX (cfg b) An 27 [.ov 0 [] 0, .c (.int .u64 (n : Int))] (logH k (f : Int) (ts.map tC)) = some (.tup [.c (tC (ts.getD (n - f) none)), .c (.int .i64 0)], logH k (f : Int) (ts.map tC)) := by
  rw [fnX_eq, p27_eq]
  have s1 := subU n f hf hn
  have h1 : ¬ n < f := by omega
  have h1I : ¬ (n : Int) < (f : Int) := by omega
  have w := u64_small (z := (ts.length : Int)) (by omega) (by omega)
  have h2 : ¬ (ts.length : Int) ≤ ((n - f : Nat) : Int) := by omega
  have hn := nthC_tC ts (n - f) hl
  have h3 : (0 : Int) ≤ ((n - f : Nat) : Int) := by omega
  have h4 : ((n - f : Nat) : Int) < (ts.length : Int) := by omega
  generalize n - f = m at *
  have h2' : ¬ ts.length ≤ m := by omega
  simp [p27, be24, logH, h1, h1I, s1, w, h2, h2', hn, hl]
theorem at_out (b : Bool) (k : Int) (f n : Nat) (ts : List (Option Tn)) (hn : n < 18446744073709551616) (hf : f ≤ 1000000) (hl : n < f ∨ ts.length ≤ n - f) (hm : ts.length ≤ 1000000) :
    fnX (cfg b) An 27 [.ov 0 [] 0, .c (.int .u64 (n : Int))] (logH k (f : Int) (ts.map tC)) = some (.tup [.c .nilp, .c (.int .i64 11)], logH k (f : Int) (ts.map tC)) := by
  rw [fnX_eq, p27_eq]
  have w := u64_small (z := (ts.length : Int)) (by omega) (by omega)
  by_cases h1 : n < f
  · have h1I : (n : Int) < (f : Int) := by omega
    simp [p27, be24, logH, h1, h1I, w]
  · have h1I : ¬ (n : Int) < (f : Int) := by omega
    have s1 := subU n f (by omega) hn
    have h2 : (ts.length : Int) ≤ ((n - f : Nat) : Int) := by omega
    have h2' : ts.length ≤ n - f := by omega
    generalize n - f = m at *
    simp [p27, be24, logH, h1, h1I, s1, w, h2, h2']
theorem at_new (b : Bool) (k : Int) (n : Nat) (hn : n < 18446744073709551616) :
    fnX (cfg b) An 27 [.ov 0 [] 0, .c (.int .u64 (n : Int))] [.var 137 (.c (.agg [.int .i64 k, .int .u64 1, .nilsl]))] = some (.tup [.c .nilp, .c (.int .i64 11)], [.var 137 (.c (.agg [.int .i64 k, .int .u64 1, .nilsl]))]) := by
  rw [fnX_eq, p27_eq]
  by_cases h1 : n < 1
  · have h1I : (n : Int) < 1 := by omega
    simp [p27, be24, h1I]
  · have h1I : ¬ (n : Int) < 1 := by omega
    have s1 := subU n 1 (by omega) hn
    rw [show ((1 : Nat) : Int) = 1 from rfl] at s1
    have w : IntKind.u64.wrap 0 = 0 := by decide
    have h2 : (0 : Int) ≤ ((n - 1 : Nat) : Int) := by omega
    generalize n - 1 = m at *
    simp [p27, be24, h1I, s1, w, h2]
end Go.Fm
