/-
  A part of the proof: PLaw5c.
-/
import Derived.Test.YtjmjijgnbjkpnaaDoorPLaw5b
set_option linter.all false
set_option autoImplicit true
/-
  EpochPlays, third part.
-/
set_option maxRecDepth 100000
set_option linter.unusedVariables false
set_option linter.unusedSimpArgs false
namespace Go.Fm
open Go Go.Proofs

/-! CF -/
theorem subZ0 (a c : Nat) (ha : a < 2000000000000000000) (hc : c < 2000000000000000000) : iSub .i64 (a : Int) (c : Int) = (a : Int) - (c : Int) := by
  unfold iSub IntKind.wrap
  simp only [IntKind.bits, IntKind.signed]
  simp
  omega
theorem new_err (b : Bool) (n : Int) (h : n < 1 ∨ 64 < n) : fnX (cfg b) An 28 [.c (.int .i64 n)] [] = some (.tup [.c .nilp, .c (.int .i64 2)], []) := by
  rw [fnX_eq, p28_eq]
  by_cases h1 : n < 1
  · simp [p28, h1]
  · have h2 : 64 < n := by omega
    simp [p28, h1, h2]
theorem lenOf_roots (ts : List (Option Tn)) (H : Heap) : lenOf H (.c (rootsC ts)) = some ts.length := by
  unfold rootsC
  split
  · rename_i h; simp [h]
  · simp
theorem csz_roots (ts : List (Option Tn)) : CV.size (rootsC ts) = 1 := by unfold rootsC; split <;> rfl
theorem cag_roots (ts : List (Option Tn)) : CV.isAgg (rootsC ts) = false := by unfold rootsC; split <;> rfl
attribute [simp] lenOf_roots csz_roots cag_roots
theorem el_gc (b : Bool) (k : Nat) (us : List (Option Tn)) (i : Int) (v : CV) : loopX 0 (p5_l2 b (callX (cfg b) An) 0) (elS k us i) (epH k us ++ [.var 48 (.c v)]) = loopX 0 (p5_l2 b (callX (cfg b) An) 0) (elS k us i) (epH k us) := by
  cases us with
  | nil =>
    rw [loopX_gc (s1 := elS k [] i) (H1 := epH k [])]
    · simp [elS, epA, epH]
    · simp [elS, epA, epH]
  | cons q us =>
    generalize hA : (epT k (q :: us)).map tC = A
    generalize hF : epF k (q :: us) = F
    rw [loopX_gc (s1 := elS k (q :: us) i) (H1 := epH k (q :: us))]
    · simp [elS, epA, epH, hA, hF]
    · simp [elS, epA, epH, hA, hF]
set_option maxHeartbeats 8000000 in
theorem epochPlays_ok (b : Bool) (k : Nat) (hk : 1 ≤ k) (hk2 : k ≤ 64) (o : Option (List ActL)) : fnX (cfg b) An 5 [.c (.int .i64 (k : Int)), .c (actsC o)] [] = some (.c (.bool true), []) := by
  rw [fnX_eq, p5_eq]
  have c0 := awake06_call b
  have hk1 : ¬ (k : Int) < 1 := by omega
  have hk3 : ¬ (64 : Int) < (k : Int) := by omega
  have hk1n : ¬ k < 1 := by omega
  have hk0 : ¬ k = 0 := by omega
  have hN := new_fn b (k : Int) hk1 hk3
  have hn := new_call b
  obtain ⟨us, x, hx, hu, e⟩ := ep_loop b k hk hk2 o (actsL o) [] [] none rfl rfl (by simp [Tn.szo]) (by simp)
  have e2 := el_loop b k hk hk2 us (by omega) (us.length + 2) 0 (by omega)
  have e2x : ∀ v : CV, _ := fun v => (el_gc b k us ((0 : Nat) : Int) v).trans e2
  have hsub := subZ0 us.length k (by omega) (by omega)
  have hmx : (if (0 : Int) < (us.length : Int) - (k : Int) then (us.length : Int) - (k : Int) else 0) = ((us.length - k : Nat) : Int) := by split <;> omega
  have hmx2 : (if k < us.length then (us.length : Int) - (k : Int) else 0) = ((us.length - k : Nat) : Int) := by split <;> omega
  have hT := epT_len k us
  have hs2 := subI us.length (us.length - k) (by omega) (by omega)
  have hgl : us.length - (us.length - k) = (epT k us).length := by rw [hT]; omega
  rw [hgl] at hs2
  have ha2 : iAdd .i64 (us.length : Int) 2 = ((us.length + 2 : Nat) : Int) := by
    unfold iAdd
    rw [i64_small (by omega) (by omega)]
    omega
  have w := u64_small (z := (us.length : Int)) (by omega) (by omega)
  have hbig : ((18446744073709551615 : Nat) : Int) = 18446744073709551615 := rfl
  simp only [epS, epA, epH, if_true, List.length_nil, Int.natCast_zero, Int.ofNat_zero, elS] at e e2 e2x
  cases us with
  | nil =>
    have an := at_new b (k : Int) 18446744073709551615 (by decide)
    rw [hbig] at an
    have rn := roots_new b (k : Int) 1
    have ln := last_new b (k : Int) 1
    have l0 : lastZ 1 0 = 0 := by decide
    rw [l0] at ln
    have hz : epT k [] = [] := by simp [epT]
    have hsub0 : iSub .i64 0 (k : Int) = -(k : Int) := by
      have := hsub
      simpa using this
    have hmx0 : ¬ (0 : Int) < -(k : Int) := by omega
    have hmx1 : ¬ (k : Int) < 0 := by omega
    have ha0 : iAdd .i64 0 2 = 2 := by decide
    have hs0 : iSub .i64 0 0 = 0 := by decide
    have w0 : IntKind.u64.wrap 0 = 0 := by decide
    have hzl : ([] : List (Option Tn)).length - k = 0 := by simp
    have hroot0 : rootsC [] = .nilsl := rfl
    simp only [hz, hzl, List.length_nil, Nat.zero_add, Int.natCast_zero, Int.ofNat_zero, Int.cast_ofNat_Int, hroot0, if_true] at e e2 e2x
    have e2' : loopX 0 (p5_l2 b (callX (cfg b) An) 0) [.ov 0 [] 0, .c (.int .i64 0), .c .nilsl, .c (.int .i64 0), .c .nilsl, .c (.int .i64 2), .c (.int .i64 0)] [.var 137 (.c (.agg [.int .i64 (k : Int), .int .u64 1, .nilsl]))] = some (.exit 2 [.any, .ov 0 [] 0, .c (.int .i64 0), .c .nilsl], [.var 137 (.c (.agg [.int .i64 (k : Int), .int .u64 1, .nilsl]))]) := by simpa [hz, rootsC] using e2
    have e2x' : ∀ v : CV, loopX 0 (p5_l2 b (callX (cfg b) An) 0) [.ov 0 [] 0, .c (.int .i64 0), .c .nilsl, .c (.int .i64 0), .c .nilsl, .c (.int .i64 2), .c (.int .i64 0)] [.var 137 (.c (.agg [.int .i64 (k : Int), .int .u64 1, .nilsl])), .var 48 (.c v)] = some (.exit 2 [.any, .ov 0 [] 0, .c (.int .i64 0), .c .nilsl], [.var 137 (.c (.agg [.int .i64 (k : Int), .int .u64 1, .nilsl]))]) := fun v => by simpa [hz, rootsC] using e2x v
    rcases hx with rfl | ⟨v, rfl⟩
    · simp only [List.append_nil] at e
      simp [p5, c0, v28, keep28, hN, frz137, hk1, hk3, hk0, hn, e, hsub0, hmx0, hmx1, v30, keep30, rn, hs0, ha0, e2', v27, keep27, an, v29, keep29, ln, w0]
    · have e3 := e2x' v
      simp [p5, c0, v28, keep28, hN, frz137, hk1, hk3, hk0, hn, e, hsub0, hmx0, hmx1, v30, keep30, rn, hs0, ha0, e3, v27, keep27, an, v29, keep29, ln, w0]
  | cons q us =>
    have ao := at_out b (k : Int) (epF k (q :: us)) 18446744073709551615 (epT k (q :: us)) (by decide) (by unfold epF; omega) (by unfold epF; omega) (by omega)
    rw [hbig] at ao
    have ro := roots_fn b (k : Int) (epF k (q :: us) : Int) (epT k (q :: us)) (by omega)
    have lf := last_fn b (k : Int) (epF k (q :: us) : Int) ((epT k (q :: us)).map tC)
    rw [List.length_map, hT, lastZ_nat _ _ (by unfold epF; omega) (by unfold epF; omega), show epF k (q :: us) + min (q :: us).length k - 1 = (q :: us).length by unfold epF; omega] at lf
    have hne : (q :: us) ≠ [] := by simp
    have hll : ((q :: us).map hashC).length = (q :: us).length := by simp
    simp only [hne, if_false] at e e2 e2x
    generalize hA : (epT k (q :: us)).map tC = A at *
    generalize hF : epF k (q :: us) = F at *
    generalize hE : epT k (q :: us) = E at *
    generalize hZ : (q :: us).length - k = Z at *
    generalize hM : (q :: us).map hashC = M at *
    generalize hL : (q :: us).length = L at *
    generalize hL2 : ((L + 2 : Nat) : Int) = L2 at *
    simp only [logH] at ao ro lf
    rcases hx with rfl | ⟨v, rfl⟩
    · simp only [List.append_nil] at e
      simp [p5, c0, v28, keep28, hN, frz137, hk1, hk3, hk0, hn, e, hll, hsub, hmx, hmx2, v30, keep30, ro, hs2, ha2, e2, v27, keep27, ao, v29, keep29, lf, w]
    · have e3 := e2x v
      simp only [List.cons_append, List.nil_append] at e e3
      simp [p5, c0, v28, keep28, hN, frz137, hk1, hk3, hk0, hn, e, hll, hsub, hmx, hmx2, v30, keep30, ro, hs2, ha2, e3, v27, keep27, ao, v29, keep29, lf, w]
theorem epochPlays_fn (b : Bool) (n : Int) (o : Option (List ActL)) : fnX (cfg b) An 5 [.c (.int .i64 n), .c (actsC o)] [] = some (.c (.bool true), []) := by
  by_cases h : n < 1 ∨ 64 < n
  · rw [fnX_eq, p5_eq]
    have c0 := awake06_call b
    have hN := new_err b n h
    by_cases h1 : n < 1
    · simp [p5, c0, v28, keep28, hN, h1, be24]
    · have h2 : 64 < n := by omega
      simp [p5, c0, v28, keep28, hN, h1, h2, be24]
  · obtain ⟨k, rfl⟩ : ∃ k : Nat, n = (k : Int) := ⟨n.toNat, by omega⟩
    exact epochPlays_ok b k (by omega) (by omega) o
end Go.Fm

