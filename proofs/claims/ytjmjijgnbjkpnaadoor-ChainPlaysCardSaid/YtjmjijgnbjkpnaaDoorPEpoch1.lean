/-
  A part of the proof: PEpoch1.
-/
import Derived.Test.YtjmjijgnbjkpnaaDoorPSha
import Derived.Test.YtjmjijgnbjkpnaaDoorDEpoch
set_option linter.all false
set_option autoImplicit true
/-
  epoch: a log of empty trees.
-/
set_option maxRecDepth 100000
set_option linter.unusedVariables false
set_option linter.unusedSimpArgs false
namespace Go.Fm
open Go Go.Proofs
section
variable {b lit : Bool} {x y : AV} {H : Heap}
theorem eqg24 : (cfg b).P.eqGuardType (cfg b).P.depth 24 = false := by kernel_rfl
theorem aeq24 : aeq (cfg b).P 12 24 x y = ptrEq x y := aeq_ptr (e := 137) (by kernel_rfl)
theorem eqg28 : (cfg b).P.eqGuardType (cfg b).P.depth 28 = false := by kernel_rfl
theorem aeq28 : aeq (cfg b).P 12 28 x y = ptrEq x y := aeq_ptr (e := 140) (by kernel_rfl)
theorem eqg138 : (cfg b).P.eqGuardType (cfg b).P.depth 138 = false := by kernel_rfl
theorem aeq138 : aeq (cfg b).P 12 138 x y = ptrEq x y := aeq_ptr (e := 145) (by kernel_rfl)
theorem be24 (h : isIS x y = false) : mBin (cfg b) 24 lit .eql x y H = eqH H false (ptrEq x y) := by rw [mBin_eqg eqg24 h, aeq24]
theorem be28 (h : isIS x y = false) : mBin (cfg b) 28 lit .eql x y H = eqH H false (ptrEq x y) := by rw [mBin_eqg eqg28 h, aeq28]
theorem be138 (h : isIS x y = false) : mBin (cfg b) 138 lit .eql x y H = eqH H false (ptrEq x y) := by rw [mBin_eqg eqg138 h, aeq138]
theorem frz137 : (cfg b).frz 137 = false := rfl
theorem frz140 : (cfg b).frz 140 = true := rfl
end
theorem empty_fn (b : Bool) : fnX (cfg b) An 62 [] [] = some (.c (.arr 32 .u8 (dI (shaW []))), []) := by
  rw [fnX_eq, p62_eq]
  have e := sum_fn b [none] (by simp) (by simp) (by simp [catP, pB])
  have e1 : catP [none] = [] := rfl
  have e2 : [none].map pV = [CV.nilsl] := rfl
  rw [e1, e2] at e
  have hc : ∀ H, callX (cfg b) An 88 [.c (.sl 1 [.nilsl])] H = _ := callX_pure e rfl rfl (prim_none (by decide))
  have hk : (cfg b).keepA 88 = false := rfl
  have hl : (dI (shaW [])).length = 32 := by simp [dI, shaW_len]
  generalize shaW [] = w at *
  simp [p62, callX_v (prim_none (b := b) (f := 88) (by decide)), hk, e, hl]
/-- What a tree is that nothing was put into. -/
def tE : CV := .ptr (.agg [.nilp]) [] 0
def rootE : CV := .arr 32 .u8 (dI (shaW []))
theorem root_fn (b : Bool) : fnX (cfg b) An 37 [.c tE] [] = some (.c rootE, []) := by
  rw [fnX_eq, p37_eq]
  have hc : ∀ H, callX (cfg b) An 62 [] H = _ := callX_pure (empty_fn b) rfl rfl (prim_none (by decide))
  have hl : (dI (shaW [])).length = 32 := by simp [dI, shaW_len]
  unfold rootE
  generalize shaW [] = w at *
  simp [p37, tE, hc, hl, be28, be138]
theorem new_tree (b : Bool) : fnX (cfg b) An 26 [] [] = some (.c tE, []) := by
  rw [fnX_eq, p26_eq]
  simp [p26, frz140, tE]
theorem new_fn (b : Bool) (n : Int) (h : ¬ n < 1) (h2 : ¬ 64 < n) : fnX (cfg b) An 28 [.c (.int .i64 n)] [] = some (.tup [.ov 0 [] 0, .c (.int .i64 0)], [.var 137 (.c (.agg [.int .i64 n, .int .u64 1, .nilsl]))]) := by
  rw [fnX_eq, p28_eq]
  simp [p28, h, h2, frz137]
def lastZ (f : Int) (n : Nat) : Int := iSub .u64 (iAdd .u64 f (IntKind.u64.wrap (n : Int))) 1
def logH (k f : Int) (ts : List CV) : Heap := [.var 137 (.agg [.c (.int .i64 k), .c (.int .u64 f), .os 1]), .row 28 1 ts]
theorem last_fn (b : Bool) (k f : Int) (ts : List CV) : fnX (cfg b) An 29 [.ov 0 [] 0] (logH k f ts) = some (.c (.int .u64 (lastZ f ts.length)), logH k f ts) := by
  rw [fnX_eq, p29_eq]
  simp [p29, be24, lastZ, logH]
/-- The same, with the old row left dead in its place. -/
def logD (k f : Int) (ts : List CV) : Heap := [.var 137 (.agg [.c (.int .i64 k), .c (.int .u64 f), .os 2]), .dead, .row 28 1 ts]
theorem one_max : 1 ≤ maxLen := big_max (by decide)
/-- A commit to a log of nothing. -/
theorem commit_first (b : Bool) (k f : Int) (v : CV) (p : List Nat) (o : Nat) (hk : ¬ k < 1) :
    fnX (cfg b) An 25 [.ov 0 [] 0, .c (.ptr v p o)] [.var 137 (.c (.agg [.int .i64 k, .int .u64 f, .nilsl]))] = some (.tup [.c (.int .u64 (lastZ f 1)), .c (.int .i64 0)], logH k f [CV.ptr v p o]) := by
  rw [fnX_eq, p25_eq]
  have hl := last_fn b k f [CV.ptr v p o]
  have hkA : (cfg b).keepA 29 = false := rfl
  simp only [logH] at hl
  simp [p25, be24, be28, hk, callX_v (prim_none (b := b) (f := 29) (by decide)), hkA, frz137, one_max, hl, logH]
/-- A commit that lets nothing go. -/
theorem commit_more (b : Bool) (k f : Int) (ts : List CV) (v : CV) (p : List Nat) (o : Nat) (hk : ¬ ((ts.length + 1 : Nat) : Int) > k) (hm : ts.length < 10000000) :
    fnX (cfg b) An 25 [.ov 0 [] 0, .c (.ptr v p o)] (logH k f ts) = some (.tup [.c (.int .u64 (lastZ f (ts.length + 1))), .c (.int .i64 0)], logD k f (ts ++ [CV.ptr v p o])) := by
  rw [fnX_eq, p25_eq]
  have hl := last_fn b k f (ts ++ [CV.ptr v p o])
  have hkA : (cfg b).keepA 29 = false := rfl
  have h1 : ts.length + 1 ≤ maxLen := big_max (by omega)
  have h2 : (ts.length + 1) * 8 ≤ 140737488355328 := by omega
  simp only [logH, List.length_append, List.length_cons, List.length_nil, Nat.zero_add] at hl
  simp only [gt_iff_lt, Int.natCast_add, Int.cast_ofNat_Int] at hk
  simp [p25, be24, be28, hk, callX_v (prim_none (b := b) (f := 29) (by decide)), hkA, frz137, h1, h2, hl, logH, logD]
/-- A commit that lets the oldest one go. -/
theorem commit_drop (b : Bool) (k f : Int) (ts : List CV) (v : CV) (p : List Nat) (o : Nat) (hk : ((ts.length + 1 : Nat) : Int) > k) (hm : ts.length < 10000000) :
    fnX (cfg b) An 25 [.ov 0 [] 0, .c (.ptr v p o)] (logH k f ts) = some (.tup [.c (.int .u64 (lastZ (iAdd .u64 f 1) ts.length)), .c (.int .i64 0)], logD k (iAdd .u64 f 1) ((ts ++ [CV.ptr v p o]).drop 1)) := by
  rw [fnX_eq, p25_eq]
  have hl := last_fn b k (iAdd .u64 f 1) ((ts ++ [CV.ptr v p o]).drop 1)
  have hkA : (cfg b).keepA 29 = false := rfl
  have h1 : ts.length + 1 ≤ maxLen := big_max (by omega)
  have h2 : (ts.length + 1) * 8 ≤ 140737488355328 := by omega
  have h3 : ts.length ≤ maxLen := big_max (by omega)
  have h4 : ts.length * 8 ≤ 140737488355328 := by omega
  have h5 : (1 : Int) ≤ (ts.length : Int) + 1 := by omega
  have sl : ∀ V R R2, mSliceSl 1 (.os 3) (some (.c (.int .i64 1))) none [V, .dead, R, .row 28 1 (ts ++ [CV.ptr v p o]), R2] = _ := fun V R R2 => mSliceSl_tail (sz := 1) (H := [V, .dead, R, .row 28 1 (ts ++ [CV.ptr v p o]), R2]) (i := 3) (c := 1) (k := .i64) rfl (by decide) (by simp; omega)
  have hd : ((ts ++ [CV.ptr v p o]).drop 1).length = ts.length := by simp
  rw [hd] at hl
  generalize hD : (ts ++ [CV.ptr v p o]).drop 1 = D at hl hd
  simp only [logH] at hl
  simp only [gt_iff_lt, Int.natCast_add, Int.cast_ofNat_Int] at hk
  simp [p25, be24, be28, hk, callX_v (prim_none (b := b) (f := 29) (by decide)), hkA, frz137, h1, h2, h3, h4, h5, hl, logH, logD, hD, hd, sl]
end Go.Fm
