/-
  A part of the proof: PRef1.
-/
import Derived.Test.YtjmjijgnbjkpnaaPBase
import Derived.Test.YtjmjijgnbjkpnaaPGrow
import Derived.Test.YtjmjijgnbjkpnaaDKv
import Derived.Test.YtjmjijgnbjkpnaaDRef
set_option linter.all false
set_option autoImplicit true
/-
  The document's Find and SamePairs.
-/
set_option autoImplicit false
set_option maxRecDepth 100000
set_option linter.unusedVariables false
set_option linter.unusedSimpArgs false
namespace Go.Fm
open Go Go.Proofs
/-! CF -/
/-- Where a key stands. -/
def findFrom (k : List UInt8) : List Pr → Nat → Option Nat
  | [], _ => none
  | p :: r, i => if p.1 = k then some i else findFrom k r (i + 1)
def findZ (k : List UInt8) (l : List Pr) : Int := match findFrom k l 0 with
  | some i => i
  | none => -1
theorem findFrom_none {k : List UInt8} : ∀ {l : List Pr} {i : Nat}, findFrom k l i = none ↔ ∀ p ∈ l, p.1 ≠ k
  | [], i => by simp [findFrom]
  | p :: r, i => by
    unfold findFrom
    by_cases h : p.1 = k
    · simp [h]
    · rw [if_neg h, findFrom_none]; simp [h]
section
variable (b : Bool) (cf : CallFn)
def fdS (l : List Pr) (k : Option (List UInt8)) (i : Int) : List AV := [.c (pairsC l), .c (pV k), .c (.int .i64 i)]
theorem fd_loop (l : List Pr) (k : Option (List UInt8)) (hm : l.length ≤ 1000000) : ∀ (rest pre : List Pr), l = pre ++ rest →
    loopX 0 (p19_l0 b cf 0) (fdS l k (pre.length : Int)) [] = match findFrom (pB k) rest pre.length with
      | some i => some (.ret [.c (.int .i64 (i : Int))], [])
      | none => some (.exit 0 [.any], [])
  | [], pre, h => by
    rw [List.append_nil] at h
    rw [h, loopX_eq]
    simp [fdS, p19_l0, findFrom]
  | p :: rest, pre, h => by
    have hl : pre.length < l.length := by subst h; simp
    have hi := mIdxS_pairsC l pre.length hl
    have hg : l.getD pre.length default = p := by rw [h]; exact getD_app pre rest p
    rw [hg] at hi
    have ha := idx_add pre.length (by omega)
    by_cases hp : p.1 = pB k
    · have hb : (p.1 == pB k) = true := by simpa using hp
      have e : findFrom (pB k) (p :: rest) pre.length = some pre.length := by simp [findFrom, hp]
      rw [e]
      generalize pre.length = n at *
      rw [loopX_eq]
      simp [fdS, p19_l0, hl, hi, BA_toList, hp]
    · have hb : (p.1 == pB k) = false := by simpa using hp
      have e : findFrom (pB k) (p :: rest) pre.length = findFrom (pB k) rest (pre ++ [p]).length := by simp [findFrom, hp]
      have e2 : (((pre ++ [p]).length : Nat) : Int) = (pre.length : Int) + 1 := by simp
      rw [e, ← fd_loop l k hm rest (pre ++ [p]) (by simp [h]), e2]
      generalize pre.length = n at *
      rw [loopX_eq]
      simp [fdS, p19_l0, hl, hi, BA_toList, hb, ha]
end
theorem find_fn (b : Bool) (l : List Pr) (k : Option (List UInt8)) (hm : l.length ≤ 1000000) : fnX (cfg b) An 19 [.c (pairsC l), .c (pV k)] [] = some (.c (.int .i64 (findZ (pB k) l)), []) := by
  rw [fnX_eq, p19_eq]
  have e := fd_loop b (callX (cfg b) An) l k hm l [] rfl
  simp only [fdS, List.length_nil, Int.natCast_zero, Int.ofNat_zero] at e
  unfold findZ
  cases hf : findFrom (pB k) l 0 with
  | none =>
    rw [hf] at e
    simp [p19, e]
  | some i =>
    rw [hf] at e
    simp [p19, e]
theorem find_call (b : Bool) (l : List Pr) (k : Option (List UInt8)) (hm : l.length ≤ 1000000) (H : Heap) : callX (cfg b) An 19 [.c (pairsC l), .c (pV k)] H = some (.c (.int .i64 (findZ (pB k) l)), H) := callX_pure (find_fn b l k hm) rfl rfl (prim_none (by decide)) H
/-- The same, by what they read. -/
def Same : List Pr → List Pr → Prop
  | [], [] => True
  | p :: a, q :: c => p.1 = q.1 ∧ pB p.2 = pB q.2 ∧ Same a c
  | _, _ => False
theorem Same.refl : ∀ l : List Pr, Same l l
  | [] => trivial
  | p :: l => ⟨rfl, rfl, Same.refl l⟩
theorem Same.len : ∀ {a c : List Pr}, Same a c → a.length = c.length
  | [], [], _ => rfl
  | p :: a, q :: c, h => by simp [Same.len h.2.2]
  | [], _ :: _, h => by simp [Same] at h
  | _ :: _, [], h => by simp [Same] at h
section
variable (b : Bool) (cf : CallFn)
def spS (l m : List Pr) (i : Int) : List AV := [.c (pairsC l), .c (pairsC m), .c (.int .i64 i)]
theorem sp_loop (l m : List Pr) (hm : l.length ≤ 1000000) : ∀ (rest rest2 pre pre2 : List Pr), l = pre ++ rest → m = pre2 ++ rest2 → pre.length = pre2.length → Same rest rest2 →
    loopX 0 (p22_l0 b cf 0) (spS l m (pre.length : Int)) [] = some (.exit 0 [.any], [])
  | [], _, pre, pre2, h, _, _, _ => by
    rw [List.append_nil] at h
    rw [h, loopX_eq]
    simp [spS, p22_l0]
  | p :: rest, [], _, _, _, _, _, hs => by simp [Same] at hs
  | p :: rest, q :: rest2, pre, pre2, h, h2, hl2, hs => by
    obtain ⟨s1, s2, s3⟩ := hs
    have hl : pre.length < l.length := by subst h; simp
    have hi := mIdxS_pairsC l pre.length hl
    have hg : l.getD pre.length default = p := by rw [h]; exact getD_app pre rest p
    rw [hg] at hi
    have hlm : pre.length < m.length := by subst h2; rw [hl2]; simp
    have hi2 := mIdxS_pairsC m pre.length hlm
    have hg2 : m.getD pre.length default = q := by rw [h2, hl2]; exact getD_app pre2 rest2 q
    rw [hg2] at hi2
    have ha := idx_add pre.length (by omega)
    have e2 : (((pre ++ [p]).length : Nat) : Int) = (pre.length : Int) + 1 := by simp
    rw [← sp_loop l m hm rest rest2 (pre ++ [p]) (pre2 ++ [q]) (by simp [h]) (by simp [h2]) (by simp [hl2]) s3, e2]
    generalize pre.length = n at *
    rw [loopX_eq]
    simp [spS, p22_l0, hl, hi, hi2, BA_toList, s1, s2, ha]
end
theorem samePairs_fn (b : Bool) (l m : List Pr) (hm : l.length ≤ 1000000) (h : Same l m) : fnX (cfg b) An 22 [.c (pairsC l), .c (pairsC m)] [] = some (.c (.bool true), []) := by
  rw [fnX_eq, p22_eq]
  have e := sp_loop b (callX (cfg b) An) l m hm l m [] [] rfl rfl rfl h
  simp only [spS, List.length_nil, Int.natCast_zero, Int.ofNat_zero] at e
  have hl := h.len
  simp [p22, hl, e]
theorem samePairs_call (b : Bool) (l m : List Pr) (hm : l.length ≤ 1000000) (h : Same l m) (H : Heap) : callX (cfg b) An 22 [.c (pairsC l), .c (pairsC m)] H = some (.c (.bool true), H) := callX_pure (samePairs_fn b l m hm h) rfl rfl (prim_none (by decide)) H
end Go.Fm
