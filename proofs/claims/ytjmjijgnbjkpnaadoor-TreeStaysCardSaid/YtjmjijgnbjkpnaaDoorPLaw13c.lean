/-
  A part of the proof: PLaw13c.
-/
import Derived.Test.YtjmjijgnbjkpnaaDoorPLaw13b
import Derived.Test.YtjmjijgnbjkpnaaDoorPLawT1
set_option linter.all false
set_option autoImplicit true
/-
  TreeStays: the law.
-/
set_option maxRecDepth 100000
set_option linter.unusedVariables false
set_option linter.unusedSimpArgs false
namespace Go.Fm
open Go Go.Proofs
/-! CF -/
theorem ts_end (b : Bool) (cf : CallFn) (T L U M : CV) (N I : Int) (R : CV) (h : ¬ I < N) :
    loopX 0 (p13_l0 b cf 0) (tsS T L U M N I) [.var 41 (.c R)] = some (.exit 0 [.any, .c T, .c L, .ov 0 [] 0], [.var 41 (.c R)]) := by
  rw [loopX_eq]
  simp [tsS, p13_l0, h]
theorem ts_break (b : Bool) (T L U : CV) (o : Option (List ActL)) (R : CV) (pre rest : List ActL) (a : ActL) (h : actsL o = pre ++ a :: rest) (hc : 30 < pre.length ∨ 90 < a.key.length) :
    loopX 0 (p13_l0 b (callX (cfg b) An) 0) (tsS T L U (actsC o) ((actsL o).length : Int) (pre.length : Int)) [.var 41 (.c R)] = some (.exit 0 [.any, .c T, .c L, .ov 0 [] 0], [.var 41 (.c R), .var 48 (.c a.cv)]) := by
  have hl : pre.length < (actsL o).length := by rw [h]; simp
  have hi := mIdxS_acts o pre.length hl
  have hg : (actsL o).getD pre.length default = a := by rw [h]; simp [List.getD_eq_getElem?_getD]
  rw [hg] at hi
  have kc := key_call b a
  generalize pre.length = n at *
  rw [loopX_eq]
  by_cases h1 : 30 < n
  · have h1I : (30 : Int) < (n : Int) := by omega
    simp [tsS, p13_l0, hl, hi, kc, h1, h1I]
  · have h2 : (90 : Int) < (a.key.length : Int) := by omega
    have h1I : ¬ (30 : Int) < (n : Int) := by omega
    simp [tsS, p13_l0, hl, hi, kc, h1, h1I, h2]
theorem ts_loop (b : Bool) (T L : CV) (o : Option (List ActL)) (R : CV) (hR : R.size = 32) : ∀ (rest pre : List ActL) (t : Option Tn), actsL o = pre ++ rest → Tn.szo t ≤ 100 + pre.length → (∀ u, t = some u → u.fit) → pre.length ≤ 31 →
    ∃ X : Heap, (X = [] ∨ ∃ x : CV, X = [.var 48 (.c x)]) ∧ loopX 0 (p13_l0 b (callX (cfg b) An) 0) (tsS T L (tC t) (actsC o) ((actsL o).length : Int) (pre.length : Int)) [.var 41 (.c R)] = some (.exit 0 [.any, .c T, .c L, .ov 0 [] 0], .var 41 (.c R) :: X)
  | [], pre, t, h, hs, hf, hn => by
    rw [List.append_nil] at h
    rw [h]
    exact ⟨[], .inl rfl, ts_end b _ T L _ _ _ _ R (by omega)⟩
  | a :: rest, pre, t, h, hs, hf, hn => by
    by_cases hc : 30 < pre.length ∨ 90 < a.key.length
    · exact ⟨_, .inr ⟨a.cv, rfl⟩, ts_break b T L _ o R pre rest a h hc⟩
    · have e2 : (((pre ++ [a]).length : Nat) : Int) = (pre.length : Int) + 1 := by simp
      have hv : (pB (upto 100 a.val)).length ≤ 100 := by rw [pB_upto, List.length_take]; omega
      by_cases hp : a.puts = true
      · rw [ts_put b T L o R hR pre rest a h t (by omega) hf hc hp]
        have ih := ts_loop b T L o R hR rest (pre ++ [a]) (some (Tn.puto a.key (some (pB (upto 100 a.val))) t)) (by simp [h]) (by
          cases t with
          | none => simp [Tn.puto, Tn.szo, Tn.sz]; omega
          | some t => have := Tn.sz_put a.key (some (pB (upto 100 a.val))) t; simp only [Tn.puto, Tn.szo, List.length_append, List.length_singleton] at this hs ⊢; omega) (fun u hu => by
          cases hu
          cases t with
          | none => exact ⟨by omega, by simp only [pB] at hv ⊢; omega⟩
          | some t => exact Tn.fit_put (by omega) (by simp only [pB] at hv ⊢; omega) t (hf t rfl)) (by simp; omega)
        rw [e2] at ih
        exact ih
      · rw [ts_cut b T L o R hR pre rest a h t (by omega) hf hc hp]
        have ih := ts_loop b T L o R hR rest (pre ++ [a]) (Tn.cuto a.key t).1 (by simp [h]) (by
          rw [List.length_append, List.length_singleton]
          cases t with
          | none => simp [Tn.cuto, Tn.szo]
          | some t =>
            cases hcu : (Tn.cuto a.key (some t)).1 with
            | none => simp [Tn.szo]
            | some v => have := Tn.sz_cut a.key t v hcu; simp only [Tn.szo] at hs ⊢; omega) (fun u hu => by
          cases t with
          | none => simp [Tn.cuto] at hu
          | some t => exact Tn.fit_cut a.key t u (hf t rfl) hu) (by simp; omega)
        rw [e2] at ih
        exact ih
set_option maxHeartbeats 4000000 in
theorem treeStays_fn (b : Bool) (o p : Option (List ActL)) : fnX (cfg b) An 13 [.c (actsC o), .c (actsC p)] [] = some (.c (.bool true), []) := by
  rw [fnX_eq, p13_eq]
  have aw := awake05_call b
  have gc := grow_call b 40 (by decide) o
  have hok := grown_ok 40 o
  have hlaw := grown_law 40 o
  have n40 : ((40 : Nat) : Int) = 40 := rfl
  rw [n40] at gc
  generalize grown 40 o = g at *
  obtain ⟨t, l⟩ := g
  have hlv := hlaw.leaves
  have hsz := hok.sz
  have hft := hok.fit
  simp only at hlv hsz hft gc
  have rc := Root_call b t
  have ac := All_call b t hft (by omega)
  have hll : l.length ≤ 1000000 := by have := hok.len; simp only at this; omega
  have sp := samePairs_call b l l hll (Same.refl l)
  rw [hlv] at ac
  have hw : (dI (Tn.hasho t)).length = 32 := by
    rw [len_dI]
    cases t with
    | none => exact shaW_len _
    | some u => exact u.hash_len
  obtain ⟨X, hX, e⟩ := ts_loop b (tC t) (pairsC l) p (.arr 32 .u8 (dI (Tn.hasho t))) (by simp [hw]) (actsL p) [] t rfl (by simp; omega) hft (by simp)
  simp only [List.length_nil, tsS] at e
  rw [show ((0 : Nat) : Int) = 0 from rfl] at e
  generalize Tn.hasho t = w at *
  generalize tC t = T at *
  generalize pairsC l = L at *
  rcases hX with rfl | ⟨x, rfl⟩
  · simp (maxSteps := 1000000) [p13, p13_d0, aw, gc, rc, ac, sp, e, hw, be41, arrEq_e]
  · simp (maxSteps := 1000000) [p13, p13_d0, aw, gc, rc, ac, sp, e, hw, be41, arrEq_e]
end Go.Fm
