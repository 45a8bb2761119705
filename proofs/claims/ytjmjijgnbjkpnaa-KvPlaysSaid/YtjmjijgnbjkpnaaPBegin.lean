/-
  A part of the proof: PBegin.
-/
import Derived.Test.YtjmjijgnbjkpnaaPGrow
import Derived.Test.YtjmjijgnbjkpnaaPKv4
set_option linter.all false
set_option autoImplicit true
/-
  Begin.
-/
set_option maxRecDepth 100000
set_option linter.unusedVariables false
set_option linter.unusedSimpArgs false
namespace Go.Fm
open Go Go.Proofs
/-! CF -/
section
variable (b : Bool) (cf : CallFn)
def bgS (l : List Pr) (q : Option (List UInt8)) (out : AV) (i : Int) : List AV := [.c (pairsC l), .c (pV q), out, .c (.int .i64 i)]
theorem bg_keep (l : List Pr) (q : Option (List UInt8)) (pre rest acc : List Pr) (p : Pr) (h : l = pre ++ p :: rest) (hm : l.length ≤ 1000000) (hac : acc.length ≤ pre.length) (hp : preB (pB q) p.1 = true) :
    loopX 0 (p24_l0 b cf 0) (bgS l q (acA acc) (pre.length : Int)) (acH 59 2 prC acc) = loopX 0 (p24_l0 b cf 0) (bgS l q (acA (acc ++ [p])) ((pre.length : Int) + 1)) (acH 59 2 prC (acc ++ [p])) := by
  have hl : pre.length < l.length := by subst h; simp
  have hi := mIdxS_pairsC l pre.length hl
  have hg : l.getD pre.length default = p := by rw [h]; exact getD_app pre rest p
  rw [hg] at hi
  have ha := idx_add pre.length (by omega)
  have hx := big_max (n := acc.length + 1) (by omega)
  have hx1 : (acc.length + 1) * 48 ≤ 140737488355328 := by omega
  have h1m : 1 ≤ maxLen := big_max (by decide)
  simp only [preB, Bool.and_eq_true, decide_eq_true_eq, beq_iff_eq] at hp
  obtain ⟨hp1, hp2⟩ := hp
  have hI : ((pB q).length : Int) ≤ (p.1.length : Int) := by omega
  have sl := fun H => slice_pV (pB q).length (some p.1) hp1 H
  have e1 : pV (some p.1) = .sl 1 (bytesAV p.1) := rfl
  have e2 : pV (upto (pB q).length (some p.1)) = .sl 1 (bytesAV (pB q)) := by rw [show upto (pB q).length (some p.1) = some (p.1.take (pB q).length) from rfl, hp2]; rfl
  rw [e1, e2] at sl
  have eq := fun H => elemsOf_pV H q
  have lq := fun H => lenOf_pV H q
  have hnb : ((pB q) == (pB q)) = true := by simp
  generalize pre.length = n at *
  cases acc with
  | nil =>
    rw [loopX_eq]
    have e1 := loopX_gc (k := 0) (step := p24_l0 b cf 0) (s := bgS l q (.os 1) ((n : Int) + 1)) (H := [.row 59 2 [prC p], .row 59 2 [prC p]]) (s1 := bgS l q (.os 0) ((n : Int) + 1)) (H1 := [.row 59 2 [prC p]]) (by simp [bgS]) (by simp [bgS])
    simp only [bgS] at e1
    simp [bgS, acA, acH, p24_l0, hl, hi, BA_toList, hnb, ha, hx, h1m, hI, sl, eq, lq, e1]
  | cons r acc =>
    rw [loopX_eq]
    have e1 := loopX_gc (k := 0) (step := p24_l0 b cf 0) (s := bgS l q (.os 2) ((n : Int) + 1)) (H := [.dead, .row 59 2 [prC p], .row 59 2 (prC r :: (acc.map prC ++ [prC p]))]) (s1 := bgS l q (.os 0) ((n : Int) + 1)) (H1 := [.row 59 2 (prC r :: (acc.map prC ++ [prC p]))]) (by simp [bgS]) (by simp [bgS])
    simp only [bgS] at e1
    obtain ⟨m, hm⟩ : ∃ m, m = (r :: acc).length := ⟨_, rfl⟩
    have hm2 : acc.length + 1 = m := by rw [hm]; rfl
    rw [← hm] at hx hx1
    simp [bgS, acA, acH, p24_l0, hl, hi, BA_toList, hnb, ha, hx, hx1, hm2, hI, sl, eq, lq, e1, h1m]
theorem bg_drop (l : List Pr) (q : Option (List UInt8)) (pre rest acc : List Pr) (p : Pr) (h : l = pre ++ p :: rest) (hm : l.length ≤ 1000000) (hp : preB (pB q) p.1 = false) :
    loopX 0 (p24_l0 b cf 0) (bgS l q (acA acc) (pre.length : Int)) (acH 59 2 prC acc) = loopX 0 (p24_l0 b cf 0) (bgS l q (acA acc) ((pre.length : Int) + 1)) (acH 59 2 prC acc) := by
  have hl : pre.length < l.length := by subst h; simp
  have hi := mIdxS_pairsC l pre.length hl
  have hg : l.getD pre.length default = p := by rw [h]; exact getD_app pre rest p
  rw [hg] at hi
  have ha := idx_add pre.length (by omega)
  have eq := fun H => elemsOf_pV H q
  have lq := fun H => lenOf_pV H q
  by_cases hp1 : (pB q).length ≤ p.1.length
  · have hI : ((pB q).length : Int) ≤ (p.1.length : Int) := by omega
    have sl := fun H => slice_pV (pB q).length (some p.1) hp1 H
    have e1 : pV (some p.1) = .sl 1 (bytesAV p.1) := rfl
    have e2 : pV (upto (pB q).length (some p.1)) = .sl 1 (bytesAV (p.1.take (pB q).length)) := rfl
    rw [e1, e2] at sl
    have hnb : (p.1.take (pB q).length == pB q) = false := by simpa [preB, hp1] using hp
    generalize p.1.take (pB q).length = w at *
    generalize pre.length = n at *
    rw [loopX_eq]
    cases acc with
    | nil => simp [bgS, acA, acH, p24_l0, hl, hi, BA_toList, hnb, ha, hI, sl, eq, lq]
    | cons r acc => simp [bgS, acA, acH, p24_l0, hl, hi, BA_toList, hnb, ha, hI, sl, eq, lq]
  · have hI : ¬ ((pB q).length : Int) ≤ (p.1.length : Int) := by omega
    generalize pre.length = n at *
    rw [loopX_eq]
    cases acc with
    | nil => simp [bgS, acA, acH, p24_l0, hl, hi, BA_toList, ha, hI, eq, lq]
    | cons r acc => simp [bgS, acA, acH, p24_l0, hl, hi, BA_toList, ha, hI, eq, lq]
theorem bg_loop (l : List Pr) (q : Option (List UInt8)) (hm : l.length ≤ 1000000) : ∀ (rest pre acc : List Pr), l = pre ++ rest → acc.length ≤ pre.length →
    loopX 0 (p24_l0 b cf 0) (bgS l q (acA acc) (pre.length : Int)) (acH 59 2 prC acc) = some (.exit 0 [acA (acc ++ begP q rest)], acH 59 2 prC (acc ++ begP q rest))
  | [], pre, acc, h, hac => by
    rw [List.append_nil] at h
    rw [h, loopX_eq]
    cases acc with
    | nil => simp [bgS, acA, acH, p24_l0, begP]
    | cons r acc => simp [bgS, acA, acH, p24_l0, begP]
  | p :: rest, pre, acc, h, hac => by
    have e : (((pre ++ [p]).length : Nat) : Int) = (pre.length : Int) + 1 := by simp
    by_cases hp : preB (pB q) p.1 = true
    · rw [bg_keep b cf l q pre rest acc p h hm hac hp, ← e, bg_loop l q hm rest (pre ++ [p]) (acc ++ [p]) (by simp [h]) (by simp; omega)]
      have : begP q (p :: rest) = p :: begP q rest := by simp [begP, hp]
      rw [this]
      simp
    · rw [bg_drop b cf l q pre rest acc p h hm (by simpa using hp), ← e, bg_loop l q hm rest (pre ++ [p]) acc (by simp [h]) (by simp; omega)]
      have : begP q (p :: rest) = begP q rest := by simp [begP, hp]
      rw [this]
end
theorem begin_fn (b : Bool) (l : List Pr) (q : Option (List UInt8)) (hm : l.length ≤ 1000000) : fnX (cfg b) An 24 [.c (pairsC l), .c (pV q)] [] = some (.c (pairsC (begP q l)), []) := by
  rw [fnX_eq, p24_eq]
  have e := bg_loop b (callX (cfg b) An) l q hm l [] [] rfl (Nat.le_refl _)
  simp only [List.nil_append, List.length_nil, Int.natCast_zero, Int.ofNat_zero, bgS, acA, acH] at e
  generalize begP q l = c at *
  cases c with
  | nil =>
    simp only [acA, acH] at e
    simp [p24, e, pairsC_nil, pairsC_cons]
  | cons r c =>
    simp only [acA, acH] at e
    simp [p24, e, pairsC_nil, pairsC_cons]
theorem begin_call (b : Bool) (l : List Pr) (q : Option (List UInt8)) (hm : l.length ≤ 1000000) (H : Heap) : callX (cfg b) An 24 [.c (pairsC l), .c (pV q)] H = some (.c (pairsC (begP q l)), H) := callX_pure (begin_fn b l q hm) rfl rfl (prim_none (by decide)) H
end Go.Fm
