/-
  A part of the proof: PLaw3.
-/
import Derived.Test.YtjmjijgnbjkpnaaDoorPEpoch2
set_option linter.all false
set_option autoImplicit true
/-
  EpochNil: what the law's function gives.
-/
set_option maxRecDepth 100000
set_option linter.unusedVariables false
set_option linter.unusedSimpArgs false
namespace Go.Fm
open Go Go.Proofs

section
variable (b : Bool) (H : Heap)
theorem new_tree_call : callX (cfg b) An 26 [] H = some (.c tE, H) := callX_pure (new_tree b) rfl rfl (prim_none (by decide)) H
theorem commit_nil_call (x : CV) : callX (cfg b) An 25 [.c .nilp, .c x] H = some (.tup [.c (.int .u64 0), .c (.int .i64 1)], H) := callX_pure (commit_nil b x) rfl rfl (prim_none (by decide)) H
theorem at_nil_call (n : Int) : callX (cfg b) An 27 [.c .nilp, .c (.int .u64 n)] H = some (.tup [.c .nilp, .c (.int .i64 1)], H) := callX_pure (at_nil b n) rfl rfl (prim_none (by decide)) H
theorem last_nil_call : callX (cfg b) An 29 [.c .nilp] H = some (.c (.int .u64 0), H) := callX_pure (last_nil b) rfl rfl (prim_none (by decide)) H
theorem roots_nil_call : callX (cfg b) An 30 [.c .nilp] H = some (.c .nilsl, H) := callX_pure (roots_nil b) rfl rfl (prim_none (by decide)) H
theorem v28 {vs : List AV} : callX (cfg b) An 28 vs H = cvw (fnX (cfg b) An 28) (handCs (cfg b) ((cfg b).keepA 28) H vs) := callX_v (prim_none (by decide))
theorem v25 {a : AV} {i : Nat} {p : List Nat} {o : Nat} : callX (cfg b) An 25 [.ov i p o, a] H = cvw (fnX (cfg b) An 25) (handCs (cfg b) ((cfg b).keepA 25) H [.ov i p o, a]) := callX_v (prim_none (by decide))
theorem v27 {a : AV} {i : Nat} {p : List Nat} {o : Nat} : callX (cfg b) An 27 [.ov i p o, a] H = cvw (fnX (cfg b) An 27) (handCs (cfg b) ((cfg b).keepA 27) H [.ov i p o, a]) := callX_v (prim_none (by decide))
theorem v29 {i : Nat} {p : List Nat} {o : Nat} : callX (cfg b) An 29 [.ov i p o] H = cvw (fnX (cfg b) An 29) (handCs (cfg b) ((cfg b).keepA 29) H [.ov i p o]) := callX_v (prim_none (by decide))
theorem v30 {i : Nat} {p : List Nat} {o : Nat} : callX (cfg b) An 30 [.ov i p o] H = cvw (fnX (cfg b) An 30) (handCs (cfg b) ((cfg b).keepA 30) H [.ov i p o]) := callX_v (prim_none (by decide))
end
theorem last3 : lastZ 2 2 = 3 := by decide
theorem keep25 {b : Bool} : (cfg b).keepA 25 = false := rfl
theorem keep27 {b : Bool} : (cfg b).keepA 27 = false := rfl
theorem keep28 {b : Bool} : (cfg b).keepA 28 = false := rfl
theorem keep29 {b : Bool} : (cfg b).keepA 29 = false := rfl
theorem keep30 {b : Bool} : (cfg b).keepA 30 = false := rfl

theorem awake_fn (b : Bool) : fnX (cfg b) An 24 [] [] = some (.c (.bool true), []) := by
  rw [fnX_eq, p24_eq]
  have a1 : iAdd .i64 0 1 = 1 := by decide
  have a2 : iAdd .i64 1 1 = 2 := by decide
  have a3 : iAdd .i64 2 1 = 3 := by decide
  have a4 : iAdd .u64 1 1 = 2 := by decide
  have c1 := commit_first b 2 1 (.agg [.nilp]) [] 0 (by decide)
  have c2 := commit_more b 2 1 [tE] (.agg [.nilp]) [] 0 (by decide) (by decide)
  have c3 := commit_drop b 2 1 [tE, tE] (.agg [.nilp]) [] 0 (by decide) (by decide)
  have hA := at_one b 2 [tE, tE]
  have hR := roots_two b 2 2
  have hL := last_fn b 2 2 [tE, tE]
  have hN := new_fn b 2 (by decide) (by decide)
  have hT := new_tree_call b
  rw [a4] at c3
  simp only [logH, logD, List.cons_append, List.nil_append, List.drop_succ_cons, List.drop_zero, List.length_cons, List.length_nil, Nat.zero_add, Nat.reduceAdd, last3] at c1 c2 c3 hA hR hL
  have ht : CV.ptr (.agg [.nilp]) [] 0 = tE := rfl
  rw [ht] at c1 c2 c3
  have e1 : loopX 0 (p24_l0 b (callX (cfg b) An) 0) [.ov 0 [] 0, .c (.int .i64 0), .c (.int .i64 0)] [.var 137 (.c (.agg [.int .i64 2, .int .u64 1, .nilsl]))] = some (.exit 0 [.ov 0 [] 0, .c (.int .i64 0)], logH 2 2 [tE, tE]) := by
    rw [loopX_eq]
    simp [p24_l0, hT, v25, keep25, frz137, c1, a1, logH]
    rw [loopX_eq]
    simp [p24_l0, hT, v25, keep25, frz137, c2, a2, logH]
    rw [loopX_eq]
    simp [p24_l0, hT, v25, keep25, frz137, c3, a3, logH]
    rw [loopX_eq]
    simp [p24_l0, logH]
  simp only [logH] at e1
  simp [p24, v28, keep28, hN, e1, v27, keep27, hA, v29, keep29, hL, v30, keep30, hR, frz137]

theorem epochNil_fn (b : Bool) (n m : Int) (h0 : 0 ≤ m) : fnX (cfg b) An 3 [.c (.int .u64 n), .c (.int .u8 m)] [] = some (.c (.bool true), []) := by
  rw [fnX_eq, p3_eq]
  have hW : ∀ H, callX (cfg b) An 24 [] H = some (.c (.bool true), H) := callX_pure (awake_fn b) rfl rfl (prim_none (by decide))
  obtain ⟨k, hk⟩ : ∃ k : Int, k = iAdd .i64 1 (IntKind.i64.wrap (m.tmod 64)) := ⟨_, rfl⟩
  have hm : IntKind.i64.wrap (m.tmod 64) = m % 64 := by
    rw [Int.tmod_eq_emod_of_nonneg h0, i64_small (by omega) (by omega)]
  have hk1 : k = 1 + m % 64 := by
    rw [hk, hm]; unfold iAdd; rw [i64_small (by omega) (by omega)]
  have hN := new_fn b k (by omega) (by omega)
  have hC := commit_none b (.agg [.int .i64 k, .int .u64 1, .nilsl])
  have hL := last_new b k 1
  have l0 : lastZ 1 0 = 0 := by decide
  rw [l0] at hL
  simp [p3, hW, new_tree_call, commit_nil_call, at_nil_call, last_nil_call, roots_nil_call, ← hk, v28, keep28, hN, v25, keep25, hC, v29, keep29, hL, frz137, be28]
end Go.Fm

