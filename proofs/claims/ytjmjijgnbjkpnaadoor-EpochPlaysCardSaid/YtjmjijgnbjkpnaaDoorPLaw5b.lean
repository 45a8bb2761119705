/-
  A part of the proof: PLaw5b.
-/
import Derived.Test.YtjmjijgnbjkpnaaDoorPLaw5
set_option linter.all false
set_option autoImplicit true
/-
  EpochPlays, second part.
-/
set_option maxRecDepth 100000
set_option linter.unusedVariables false
set_option linter.unusedSimpArgs false
namespace Go.Fm
open Go Go.Proofs

/-! CF -/
theorem ep_end (b : Bool) (k : Nat) (us : List (Option Tn)) (t : Option Tn) (o : Option (List ActL)) :
    loopX 0 (p5_l0 b (callX (cfg b) An) 0) (epS k us t o ((actsL o).length : Int)) (epH k us) = some (.exit 0 [.c (.int .i64 (k : Int)), .any, .ov 0 [] 0, .c (.int .i64 0), epA us], epH k us) := by
  rw [loopX_eq]
  cases us with
  | nil => simp [epS, epH, epA, p5_l0]
  | cons q us =>
    generalize hA : (epT k (q :: us)).map tC = A
    generalize hF : epF k (q :: us) = F
    simp [epS, epH, epA, p5_l0, hA, hF]
theorem ep_break (b : Bool) (k : Nat) (us : List (Option Tn)) (t : Option Tn) (o : Option (List ActL)) (pre rest : List ActL) (a : ActL) (h : actsL o = pre ++ a :: rest) (hc : 80 < pre.length ∨ 90 < a.key.length) :
    loopX 0 (p5_l0 b (callX (cfg b) An) 0) (epS k us t o (pre.length : Int)) (epH k us) = some (.exit 0 [.c (.int .i64 (k : Int)), .any, .ov 0 [] 0, .c (.int .i64 0), epA us], epH k us ++ [.var 48 (.c a.cv)]) := by
  have hl : pre.length < (actsL o).length := by rw [h]; simp
  have hi := mIdxS_acts o pre.length hl
  have hg : (actsL o).getD pre.length default = a := by rw [h]; simp [List.getD_eq_getElem?_getD]
  rw [hg] at hi
  have kc := key_call b a
  generalize pre.length = n at *
  rw [loopX_eq]
  cases us with
  | nil =>
    by_cases h1 : 80 < n
    · have h1I : (80 : Int) < (n : Int) := by omega
      simp [epS, epH, epA, p5_l0, hl, hi, h1, h1I]
    · have h1I : ¬ (80 : Int) < (n : Int) := by omega
      have h2 : (90 : Int) < (a.key.length : Int) := by omega
      simp [epS, epH, epA, p5_l0, hl, hi, h1, h1I, kc, h2]
  | cons q us =>
    generalize hA : (epT k (q :: us)).map tC = A
    generalize hF : epF k (q :: us) = F
    by_cases h1 : 80 < n
    · have h1I : (80 : Int) < (n : Int) := by omega
      simp [epS, epH, epA, p5_l0, hl, hi, h1, h1I, hA, hF]
    · have h1I : ¬ (80 : Int) < (n : Int) := by omega
      have h2 : (90 : Int) < (a.key.length : Int) := by omega
      simp [epS, epH, epA, p5_l0, hl, hi, h1, h1I, kc, h2, hA, hF]
theorem ep_loop (b : Bool) (k : Nat) (hk : 1 ≤ k) (hk2 : k ≤ 64) (o : Option (List ActL)) : ∀ (rest pre : List ActL) (us : List (Option Tn)) (t : Option Tn), actsL o = pre ++ rest → us.length = pre.length → Tn.szo t ≤ pre.length → pre.length ≤ 81 →
    ∃ (us' : List (Option Tn)) (x : Heap), (x = [] ∨ ∃ v : CV, x = [.var 48 (.c v)]) ∧ us'.length ≤ 81 ∧
      loopX 0 (p5_l0 b (callX (cfg b) An) 0) (epS k us t o (pre.length : Int)) (epH k us) = some (.exit 0 [.c (.int .i64 (k : Int)), .any, .ov 0 [] 0, .c (.int .i64 0), epA us'], epH k us' ++ x)
  | [], pre, us, t, h, hu, ht, hp => by
    rw [List.append_nil] at h
    refine ⟨us, [], .inl rfl, by omega, ?_⟩
    rw [← h, ep_end, List.append_nil]
  | a :: rest, pre, us, t, h, hu, ht, hp => by
    by_cases hc : 80 < pre.length ∨ 90 < a.key.length
    · exact ⟨us, _, .inr ⟨a.cv, rfl⟩, by omega, ep_break b k us t o pre rest a h hc⟩
    · have hs := Tn.sz_put a.key (upto 50 a.val)
      have hz : Tn.szo (some (Tn.puto a.key (upto 50 a.val) t)) ≤ pre.length + 1 := by
        cases t with
        | none => simp [Tn.szo, Tn.puto, Tn.sz]
        | some t => have := hs t; simp only [Tn.szo, Tn.puto] at ht ⊢; omega
      have ih := ep_loop b k hk hk2 o rest (pre ++ [a]) (us ++ [some (Tn.puto a.key (upto 50 a.val) t)]) (some (Tn.puto a.key (upto 50 a.val) t)) (by simp [h]) (by simp [hu]) (by simpa using hz) (by simp; omega)
      have e2 : (((pre ++ [a]).length : Nat) : Int) = (pre.length : Int) + 1 := by simp
      rw [e2] at ih
      rw [ep_step b k hk hk2 o pre rest a h us hu t ht (by omega) (by omega)]
      exact ih

theorem epT_get (k : Nat) (us : List (Option Tn)) (i : Nat) : (epT k us).getD i none = us.getD (us.length - k + i) none := by
  unfold epT
  simp only [List.getD_eq_getElem?_getD, List.getElem?_drop]
/-! ### What is looked at -/
def elS (k : Nat) (us : List (Option Tn)) (i : Int) : List AV := [.ov 0 [] 0, .c (.int .i64 0), epA us, .c (.int .i64 ((us.length - k : Nat) : Int)), .c (rootsC (epT k us)), .c (.int .i64 ((us.length + 2 : Nat) : Int)), .c (.int .i64 i)]
theorem eqg4 {b : Bool} : (cfg b).P.eqGuardType (cfg b).P.depth 4 = false := by kernel_rfl
theorem aeq4 {b : Bool} {x y : AV} : aeq (cfg b).P 12 4 x y = boolEq x y := aeq_bool (by kernel_rfl)
theorem bne4 {b lit : Bool} {x y : AV} {H : Heap} (h : isIS x y = false) : mBin (cfg b) 4 lit .neq x y H = eqH H true (boolEq x y) := by rw [mBin_neg eqg4 h, aeq4]
theorem subI (a c : Nat) (h : c ≤ a) (ha : a < 4000000000000000000) : iSub .i64 (a : Int) (c : Int) = ((a - c : Nat) : Int) := by
  unfold iSub
  rw [i64_small (by omega) (by omega)]
  omega
set_option maxHeartbeats 8000000 in
theorem el_there (b : Bool) (k : Nat) (hk : 1 ≤ k) (hk2 : k ≤ 64) (us : List (Option Tn)) (hm : us.length ≤ 100) (n : Nat) (h1 : us.length - k < n) (h2 : n ≤ us.length) :
    loopX 0 (p5_l2 b (callX (cfg b) An) 0) (elS k us (n : Int)) (epH k us) = loopX 0 (p5_l2 b (callX (cfg b) An) 0) (elS k us ((n : Int) + 1)) (epH k us) := by
  cases us with
  | nil => simp at h2; omega
  | cons q us =>
    have hT := epT_len k (q :: us)
    have hlen : 0 < (q :: us).length := by simp
    have ain := at_in b (k : Int) (epF k (q :: us)) n (epT k (q :: us)) (by unfold epF; omega) (by omega) (by unfold epF; omega) (by omega)
    have hidx : (epT k (q :: us)).getD (n - epF k (q :: us)) none = (q :: us).getD (n - 1) none := by
      rw [epT_get, show (q :: us).length - k + (n - epF k (q :: us)) = n - 1 by unfold epF; omega]
    rw [hidx] at ain
    have hT0 : epT k (q :: us) ≠ [] := by intro h; rw [h] at hT; simp at hT; omega
    have hR : rootsC (epT k (q :: us)) = .sl 32 ((epT k (q :: us)).map hashC) := by simp [rootsC, hT0]
    have hgot : nthC ((epT k (q :: us)).map hashC) (n - 1 - ((q :: us).length - k)) = hashC ((q :: us).getD (n - 1) none) := by
      rw [nthC_map none (by omega), epT_get, show (q :: us).length - k + (n - 1 - ((q :: us).length - k)) = n - 1 by omega]
    have hroot : nthC ((q :: us).map hashC) (n - 1) = hashC ((q :: us).getD (n - 1) none) := nthC_map none (by omega)
    have rc := Root_callC b ((q :: us).getD (n - 1) none)
    have w := u64_small (z := (n : Int)) (by omega) (by omega)
    have s1 := subI n 1 (by omega) (by omega)
    rw [show ((1 : Nat) : Int) = 1 from rfl] at s1
    have s2 := subI (n - 1) ((q :: us).length - k) (by omega) (by omega)
    have ha := idx_add n (by omega)
    have c1 : n < (q :: us).length + 2 := by omega
    have c2 : n - 1 < (q :: us).length := by omega
    have c3 : n - 1 - ((q :: us).length - k) < ((epT k (q :: us)).map hashC).length := by rw [List.length_map]; omega
    have hll : ((q :: us).map hashC).length = (q :: us).length := by simp
    generalize (q :: us).getD (n - 1) none = u at *
    generalize hE : (epT k (q :: us)).map hashC = E at *
    generalize hA : (epT k (q :: us)).map tC = A at *
    generalize hF : epF k (q :: us) = F at *
    generalize hZ : (q :: us).length - k = Z at *
    generalize hQ : n - 1 - Z = Q at *
    generalize hW : n - 1 = W at *
    generalize hM : (q :: us).map hashC = M at *
    generalize hL : (q :: us).length = L at *
    have c1I : (n : Int) < ((L + 2 : Nat) : Int) := by omega
    generalize hL2 : ((L + 2 : Nat) : Int) = L2 at *
    simp only [logH] at ain
    rw [loopX_eq]
    simp [elS, epA, epH, hR, hA, hF, hZ, hM, hL, hL2, p5_l2, c1I, w, v27, keep27, frz137, ain, h1, hll, h2, bne4, rc, s1, s2, hroot, hgot, c2, c3, neHash, ha]
set_option maxHeartbeats 8000000 in
theorem el_out (b : Bool) (k : Nat) (hk : 1 ≤ k) (hk2 : k ≤ 64) (us : List (Option Tn)) (hm : us.length ≤ 100) (n : Nat) (h1 : n ≤ us.length - k ∨ us.length < n) (h2 : n < us.length + 2) :
    loopX 0 (p5_l2 b (callX (cfg b) An) 0) (elS k us (n : Int)) (epH k us) = loopX 0 (p5_l2 b (callX (cfg b) An) 0) (elS k us ((n : Int) + 1)) (epH k us) := by
  have w := u64_small (z := (n : Int)) (by omega) (by omega)
  have ha := idx_add n (by omega)
  cases us with
  | nil =>
    have an := at_new b (k : Int) n (by omega)
    have c1I : (n : Int) < 2 := by simp at h2; omega
    have hz : ([] : List (Option Tn)).length - k = 0 := by simp
    rw [loopX_eq]
    by_cases hn : n = 0
    · subst hn
      simp only [Int.natCast_zero, Int.ofNat_zero] at an w ha ⊢
      simp [elS, epA, epH, rootsC, epT, p5_l2, w, v27, keep27, frz137, an, bne4, bne28, ha]
    · have hpos : 0 < n := by omega
      have hposI : (0 : Int) < (n : Int) := by omega
      have hle : ¬ (n : Int) ≤ 0 := by omega
      simp [elS, epA, epH, rootsC, epT, p5_l2, c1I, w, v27, keep27, frz137, an, hposI, hpos, hle, hn, bne4, bne28, ha]
  | cons q us =>
    have hT := epT_len k (q :: us)
    have ao := at_out b (k : Int) (epF k (q :: us)) n (epT k (q :: us)) (by omega) (by unfold epF; omega) (by unfold epF; omega) (by omega)
    have hll : ((q :: us).map hashC).length = (q :: us).length := by simp
    generalize hE : (epT k (q :: us)).map hashC = E at *
    generalize hA : (epT k (q :: us)).map tC = A at *
    generalize hF : epF k (q :: us) = F at *
    generalize hRR : rootsC (epT k (q :: us)) = RR at *
    generalize hZ : (q :: us).length - k = Z at *
    generalize hM : (q :: us).map hashC = M at *
    generalize hL : (q :: us).length = L at *
    have c1I : (n : Int) < ((L + 2 : Nat) : Int) := by omega
    generalize hL2 : ((L + 2 : Nat) : Int) = L2 at *
    simp only [logH] at ao
    rw [loopX_eq]
    by_cases h3 : Z < n
    · have h4 : ¬ n ≤ L := by omega
      simp [elS, epA, epH, hRR, hA, hF, hZ, hM, hL, hL2, p5_l2, c1I, w, v27, keep27, frz137, ao, h3, hll, h4, bne4, bne28, ha]
    · simp [elS, epA, epH, hRR, hA, hF, hZ, hM, hL, hL2, p5_l2, c1I, w, v27, keep27, frz137, ao, h3, hll, bne4, bne28, ha]
theorem el_end (b : Bool) (k : Nat) (us : List (Option Tn)) :
    loopX 0 (p5_l2 b (callX (cfg b) An) 0) (elS k us ((us.length + 2 : Nat) : Int)) (epH k us) = some (.exit 2 [.any, .ov 0 [] 0, .c (.int .i64 0), epA us], epH k us) := by
  rw [loopX_eq]
  cases us with
  | nil => simp [elS, epA, epH, p5_l2]
  | cons q us =>
    generalize hA : (epT k (q :: us)).map tC = A at *
    generalize hF : epF k (q :: us) = F at *
    generalize hRR : rootsC (epT k (q :: us)) = RR at *
    generalize hZ : (q :: us).length - k = Z at *
    simp [elS, epA, epH, hRR, hA, hF, hZ, p5_l2]
theorem el_loop (b : Bool) (k : Nat) (hk : 1 ≤ k) (hk2 : k ≤ 64) (us : List (Option Tn)) (hm : us.length ≤ 100) : ∀ (m n : Nat), n + m = us.length + 2 →
    loopX 0 (p5_l2 b (callX (cfg b) An) 0) (elS k us (n : Int)) (epH k us) = some (.exit 2 [.any, .ov 0 [] 0, .c (.int .i64 0), epA us], epH k us)
  | 0, n, h => by
    have : n = us.length + 2 := by omega
    subst this
    exact el_end b k us
  | m + 1, n, h => by
    have ih := el_loop b k hk hk2 us hm m (n + 1) (by omega)
    have e2 : (((n + 1 : Nat)) : Int) = (n : Int) + 1 := by simp
    rw [e2] at ih
    rw [← ih]
    by_cases h1 : us.length - k < n ∧ n ≤ us.length
    · exact el_there b k hk hk2 us hm n h1.1 h1.2
    · exact el_out b k hk hk2 us hm n (by omega) (by omega)
end Go.Fm

