/-
  A part of the proof: PLaw5.
-/
import Derived.Test.YtjmjijgnbjkpnaaDoorPLaw8
import Derived.Test.YtjmjijgnbjkpnaaDoorDLaw5
set_option linter.all false
set_option autoImplicit true
/-
  EpochPlays: what the law's function gives.
-/
set_option maxRecDepth 100000
set_option linter.unusedVariables false
set_option linter.unusedSimpArgs false
namespace Go.Fm
open Go Go.Proofs

/-! CF -/
/-- What is kept of the trees. -/
def epT (k : Nat) (us : List (Option Tn)) : List (Option Tn) := us.drop (us.length - k)
def epF (k : Nat) (us : List (Option Tn)) : Nat := us.length - k + 1
theorem epT_len (k : Nat) (us : List (Option Tn)) : (epT k us).length = min us.length k := by simp [epT]; omega
theorem lastZ_nat (f n : Nat) (h1 : 1 ≤ f) (h : f + n < 4000000000000000000) : lastZ (f : Int) n = ((f + n - 1 : Nat) : Int) := by
  unfold lastZ
  rw [u64_small (by omega) (by omega), addU f n (by omega), show (1 : Int) = ((1 : Nat) : Int) from rfl, subU (f + n) 1 (by omega) (by omega)]
theorem commit_gen (b : Bool) (k : Nat) (hk : 1 ≤ k) (hk2 : k ≤ 1000) (us : List (Option Tn)) (hm : us.length ≤ 1000) (t : Option Tn) :
    fnX (cfg b) An 25 [.ov 0 [] 0, .c (tC t)] (logH (k : Int) (epF k us : Int) ((epT k us).map tC)) =
      some (.tup [.c (.int .u64 ((us.length + 1 : Nat) : Int)), .c (.int .i64 0)], logD (k : Int) (epF k (us ++ [t]) : Int) ((epT k (us ++ [t])).map tC)) := by
  have hl : ((epT k us).map tC).length = min us.length k := by rw [List.length_map, epT_len]
  by_cases h : us.length < k
  · have cm := commit_more b (k : Int) (epF k us : Int) ((epT k us).map tC) (.agg [Tn.pto t]) [] 0 (by rw [hl]; omega) (by rw [hl]; omega)
    have e : CV.ptr (.agg [Tn.pto t]) [] 0 = tC t := rfl
    rw [e, hl] at cm
    have hf : epF k us = 1 := by unfold epF; omega
    have hf2 : epF k (us ++ [t]) = 1 := by unfold epF; simp; omega
    have ht : epT k us = us := by unfold epT; rw [show us.length - k = 0 by omega]; rfl
    have ht2 : epT k (us ++ [t]) = us ++ [t] := by unfold epT; rw [show (us ++ [t]).length - k = 0 by simp; omega]; rfl
    have e1 : us.map tC ++ [tC t] = (us ++ [t]).map tC := by simp
    rw [hf, ht, e1] at cm
    rw [hf, ht, hf2, ht2, cm, lastZ_nat 1 _ (by omega) (by omega), show 1 + (min us.length k + 1) - 1 = us.length + 1 by omega]
  · have cm := commit_drop b (k : Int) (epF k us : Int) ((epT k us).map tC) (.agg [Tn.pto t]) [] 0 (by rw [hl]; omega) (by rw [hl]; omega)
    have e : CV.ptr (.agg [Tn.pto t]) [] 0 = tC t := rfl
    rw [e, hl] at cm
    have hf : iAdd .u64 (epF k us : Int) 1 = (epF k (us ++ [t]) : Int) := by
      rw [show (1 : Int) = ((1 : Nat) : Int) from rfl, addU _ 1 (by unfold epF; omega)]
      congr 1
      unfold epF
      simp; omega
    have ht2 : ((epT k us).map tC ++ [tC t]).drop 1 = (epT k (us ++ [t])).map tC := by
      have : (epT k us).map tC ++ [tC t] = (us.drop (us.length - k) ++ [t]).map tC := by simp [epT]
      rw [this, ← List.map_drop]
      congr 1
      unfold epT
      rw [show (us ++ [t]).length - k = (us.length - k) + 1 by simp; omega, ← List.drop_drop, List.drop_append_of_le_length (show us.length - k ≤ us.length by omega)]
    rw [hf, ht2] at cm
    rw [cm, lastZ_nat _ _ (by unfold epF; omega) (by unfold epF; simp only [List.length_append, List.length_singleton]; omega)]
    have : epF k (us ++ [t]) + min us.length k - 1 = us.length + 1 := by unfold epF; simp; omega
    rw [this]
theorem hlz1 (k : Nat) (hk : 1 ≤ k) (hk2 : k ≤ 64) (q : Option Tn) (us : List (Option Tn)) (u : Tn) (pn : Nat) (hu : (q :: us).length = pn) (hp : pn ≤ 80) : lastZ (epF k ((q :: us) ++ [some u]) : Int) ((epT k ((q :: us) ++ [some u])).map tC).length = (((q :: us).length + 1 : Nat) : Int) := by
  rw [List.length_map, epT_len]
  have e : ((q :: us) ++ [some u]).length = (q :: us).length + 1 := by simp
  rw [e, hu]
  have e2 : epF k ((q :: us) ++ [some u]) = pn + 1 - k + 1 := by unfold epF; rw [e, hu]
  rw [e2, lastZ_nat _ _ (by omega) (by omega)]
  have : pn + 1 - k + 1 + min (pn + 1) k - 1 = pn + 1 := by omega
  rw [this]
/-- The heap. -/
def epH (k : Nat) (us : List (Option Tn)) : Heap := if us = [] then [.var 137 (.c (.agg [.int .i64 (k : Int), .int .u64 1, .nilsl]))]
  else [.var 137 (.agg [.c (.int .i64 (k : Int)), .c (.int .u64 (epF k us : Int)), .os 2]), .row 41 32 (us.map hashC), .row 28 1 ((epT k us).map tC)]
def epA (us : List (Option Tn)) : AV := if us = [] then .c .nilsl else .os 1
def epS (k : Nat) (us : List (Option Tn)) (t : Option Tn) (o : Option (List ActL)) (i : Int) : List AV :=
  [.c (.int .i64 (k : Int)), .ov 0 [] 0, .c (.int .i64 0), .c (tC t), epA us, .c (actsC o), .c (.int .i64 ((actsL o).length : Int)), .c (.int .i64 i)]
set_option maxHeartbeats 8000000 in
theorem ep_step (b : Bool) (k : Nat) (hk : 1 ≤ k) (hk2 : k ≤ 64) (o : Option (List ActL)) (pre rest : List ActL) (a : ActL) (h : actsL o = pre ++ a :: rest) (us : List (Option Tn)) (hu : us.length = pre.length) (t : Option Tn) (ht : Tn.szo t ≤ pre.length)
    (h80 : ¬ 80 < pre.length) (h90 : ¬ 90 < a.key.length) :
    loopX 0 (p5_l0 b (callX (cfg b) An) 0) (epS k us t o (pre.length : Int)) (epH k us) =
      loopX 0 (p5_l0 b (callX (cfg b) An) 0) (epS k (us ++ [some (Tn.puto a.key (upto 50 a.val) t)]) (some (Tn.puto a.key (upto 50 a.val) t)) o ((pre.length : Int) + 1)) (epH k (us ++ [some (Tn.puto a.key (upto 50 a.val) t)])) := by
  have hl : pre.length < (actsL o).length := by rw [h]; simp
  have hi := mIdxS_acts o pre.length hl
  have hg : (actsL o).getD pre.length default = a := by rw [h]; simp [List.getD_eq_getElem?_getD]
  rw [hg] at hi
  have ha := idx_add pre.length (by omega)
  have h80I : ¬ (80 : Int) < (pre.length : Int) := by omega
  have h90I : ¬ (90 : Int) < (a.key.length : Int) := by omega
  have kc := key_call b a
  have sl := slice_upto 50 a.val
  obtain ⟨m, hm⟩ : ∃ m : Int, m = ((min 50 (pB a.val).length : Nat) : Int) := ⟨_, rfl⟩
  have mz : (if (50 : Int) < ((pB a.val).length : Int) then (50 : Int) else ((pB a.val).length : Int)) = m := by rw [hm]; split <;> omega
  rw [← hm] at sl
  have hv : (pB (upto 50 a.val)).length ≤ 50 := by rw [pB_upto, List.length_take]; omega
  have pc := Put_call b a.key (upto 50 a.val) a.key_ne (by omega) (by omega) t (by omega)
  have rc := Root_callC b (some (Tn.puto a.key (upto 50 a.val) t))
  have h1m : 1 ≤ maxLen := big_max (by decide)
  have hlast : ∀ (f : Int) (ts : List CV), fnX (cfg b) An 29 [.ov 0 [] 0] (logH (k : Int) f ts) = _ := fun f ts => last_fn b (k : Int) f ts
  generalize Tn.puto a.key (upto 50 a.val) t = u at *
  generalize pre.length = pn at *
  cases us with
  | nil =>
    have hp0 : pn = 0 := hu.symm
    subst hp0
    have cf := commit_first b (k : Int) 1 (.agg [Tn.pto (some u)]) [] 0 (by omega)
    have e : CV.ptr (.agg [Tn.pto (some u)]) [] 0 = tC (some u) := rfl
    have l1 : lastZ 1 1 = 1 := by decide
    rw [e, l1] at cf
    have lf := hlast 1 [tC (some u)]
    have hl1 : ([tC (some u)] : List CV).length = 1 := rfl
    rw [hl1, l1] at lf
    simp only [logH] at cf lf
    have w1 : IntKind.u64.wrap 1 = 1 := by decide
    simp only [Int.natCast_zero, Int.ofNat_zero] at hi ha h80I ⊢
    rw [loopX_eq]
    have e1 : ([] : List (Option Tn)) ++ [some u] = [some u] := rfl
    rw [e1]
    simp [epS, epA, epH, p5_l0, hl, hi, h90I, kc, mz, sl, pc, v25, keep25, frz137, cf, rc, h1m, v29, keep29, lf, w1, ha]
    rw [loopX_gc (s1 := epS k [some u] (some u) o 1) (H1 := epH k [some u])]
    · have hk0 : 1 - k = 0 := by omega
      simp [epS, epA, epH, epF, epT, hk0]
    · have hk0 : 1 - k = 0 := by omega
      simp [epS, epA, epH, epF, epT, hk0]
    · simp [epS, epA, epH]
  | cons q us =>
    have cg := commit_gen b k hk (by omega) (q :: us) (by rw [hu]; omega) (some u)
    have lf := hlast (epF k ((q :: us) ++ [some u]) : Int) ((epT k ((q :: us) ++ [some u])).map tC)
    have hlz := hlz1 k hk hk2 q us u pn hu (by omega)
    rw [hlz] at lf
    have e1 : (q :: us) ++ [some u] = q :: (us ++ [some u]) := rfl
    rw [e1] at cg lf ⊢
    have hN : pn = us.length + 1 := by rw [← hu]; rfl
    have hqu : (q :: us).length = pn := by rw [hN]; rfl
    rw [hqu] at cg lf
    have hx := big_max (n := pn + 1) (by omega)
    have hx1 : (pn + 1) * 32 ≤ 140737488355328 := by omega
    have w1 : IntKind.u64.wrap (((pn + 1 : Nat)) : Int) = ((pn + 1 : Nat) : Int) := u64_small (by omega) (by omega)
    have eN : (((pn + 1 : Nat)) : Int) = (pn : Int) + 1 := by simp
    rw [eN] at cg lf w1
    generalize hA : (epT k (q :: us)).map tC = A at *
    generalize hB : (epT k (q :: (us ++ [some u]))).map tC = B at *
    generalize hF : epF k (q :: us) = F at *
    generalize hG : epF k (q :: (us ++ [some u])) = G at *
    simp only [logH, logD] at cg lf
    rw [loopX_eq]
    simp [epS, epA, epH, hA, hB, hF, hG, p5_l0, hl, hi, h80, h80I, h90I, kc, mz, sl, pc, v25, keep25, frz137, cg, rc, h1m, hx, hx1, hN.symm, v29, keep29, lf, w1, ha]
    rw [loopX_gc (s1 := epS k (q :: (us ++ [some u])) (some u) o ((pn : Int) + 1)) (H1 := epH k (q :: (us ++ [some u])))]
    · simp [epS, epA, epH, hB, hG]
    · simp [epS, epA, epH, hB, hG]
    · simp [epS, epA, epH]
end Go.Fm

