/-
  A part of the proof: PRefs.
-/
import Derived.Test.YtjmjijgnbjkpnaaDoorPTree
import Derived.Test.YtjmjijgnbjkpnaaDoorPLawT1
set_option linter.all false
set_option autoImplicit true
/-
  Ways into a node of the document's.
-/
set_option maxRecDepth 100000
set_option linter.unusedVariables false
set_option linter.unusedSimpArgs false
namespace Go.Fm
open Go Go.Proofs
section
variable (t : Tn)
theorem q_k : getC t.api [0] = some (.sl 1 (bytesAV t.key)) := by simp [Tn.api]
theorem q_v : getC t.api [1] = some (pV t.val) := by simp [Tn.api]
theorem q_h : getC t.api [2] = some (.int .i64 (t.ht : Int)) := by simp [Tn.api]
theorem q_s : getC t.api [3] = some (.int .u64 (t.sz : Int)) := by simp [Tn.api]
theorem q_l : getC t.api [4] = some (.arr 32 .u8 (dI t.lh)) := by simp [Tn.api]
theorem q_r : getC t.api [5] = some (.arr 32 .u8 (dI t.rh)) := by simp [Tn.api]
theorem r_k : offC t.api [0] = some 0 := by simp [Tn.api]
theorem r_v : offC t.api [1] = some 1 := by simp [Tn.api]
theorem r_h : offC t.api [2] = some 2 := by simp [Tn.api]
theorem r_s : offC t.api [3] = some 3 := by simp [Tn.api]
theorem r_l : offC t.api [4] = some 4 := by simp [Tn.api]
theorem r_r : offC t.api [5] = some 36 := by simp [Tn.api]
end
attribute [simp] q_k q_v q_h q_s q_l q_r r_k r_v r_h r_s r_l r_r
end Go.Fm
/-
  The document's Find and SamePairs.
-/
set_option maxRecDepth 100000
set_option linter.unusedVariables false
set_option linter.unusedSimpArgs false
namespace Go.Fm
open Go Go.Proofs
/-! CF -/
section
variable (b : Bool) (cf : CallFn)
end
/-- The same, by what they read. -/
def Same : List Pr → List Pr → Prop
  | [], [] => True
  | p :: a, q :: c => p.1 = q.1 ∧ pB p.2 = pB q.2 ∧ Same a c
  | _, _ => False
theorem Same.refl : ∀ l : List Pr, Same l l
  | [] => trivial
  | p :: l => ⟨rfl, rfl, Same.refl l⟩
theorem Same.len : ∀ {a c : List Pr}, Same a c → a.length = c.length
  | [], [], _ => rfl
  | p :: a, q :: c, h => by simp [Same.len h.2.2]
  | [], _ :: _, h => by simp [Same] at h
  | _ :: _, [], h => by simp [Same] at h
section
variable (b : Bool) (cf : CallFn)
def spS (l m : List Pr) (i : Int) : List AV := [.c (pairsC l), .c (pairsC m), .c (.int .i64 i)]
theorem sp_loop (l m : List Pr) (hm : l.length ≤ 1000000) : ∀ (rest rest2 pre pre2 : List Pr), l = pre ++ rest → m = pre2 ++ rest2 → pre.length = pre2.length → Same rest rest2 →
    loopX 0 (p50_l0 b cf 0) (spS l m (pre.length : Int)) [] = some (.exit 0 [.any], [])
  | [], _, pre, pre2, h, _, _, _ => by
    rw [List.append_nil] at h
    rw [h, loopX_eq]
    simp [spS, p50_l0]
  | p :: rest, [], _, _, _, _, _, hs => by simp [Same] at hs
  | p :: rest, q :: rest2, pre, pre2, h, h2, hl2, hs => by
    obtain ⟨s1, s2, s3⟩ := hs
    have hl : pre.length < l.length := by subst h; simp
    have hi := mIdxS_pairsC l pre.length hl
    have hg : l.getD pre.length default = p := by rw [h]; exact getD_app pre rest p
    rw [hg] at hi
    have hlm : pre.length < m.length := by subst h2; rw [hl2]; simp
    have hi2 := mIdxS_pairsC m pre.length hlm
    have hg2 : m.getD pre.length default = q := by rw [h2, hl2]; exact getD_app pre2 rest2 q
    rw [hg2] at hi2
    have ha := idx_add pre.length (by omega)
    have e2 : (((pre ++ [p]).length : Nat) : Int) = (pre.length : Int) + 1 := by simp
    rw [← sp_loop l m hm rest rest2 (pre ++ [p]) (pre2 ++ [q]) (by simp [h]) (by simp [h2]) (by simp [hl2]) s3, e2]
    generalize pre.length = n at *
    rw [loopX_eq]
    simp [spS, p50_l0, hl, hi, hi2, BA_toList, s1, s2, ha]
end
theorem samePairs_fn (b : Bool) (l m : List Pr) (hm : l.length ≤ 1000000) (h : Same l m) : fnX (cfg b) An 50 [.c (pairsC l), .c (pairsC m)] [] = some (.c (.bool true), []) := by
  rw [fnX_eq, p50_eq]
  have e := sp_loop b (callX (cfg b) An) l m hm l m [] [] rfl rfl rfl h
  simp only [spS, List.length_nil, Int.natCast_zero, Int.ofNat_zero] at e
  have hl := h.len
  simp [p50, hl, e]
theorem samePairs_call (b : Bool) (l m : List Pr) (hm : l.length ≤ 1000000) (h : Same l m) (H : Heap) : callX (cfg b) An 50 [.c (pairsC l), .c (pairsC m)] H = some (.c (.bool true), H) := callX_pure (samePairs_fn b l m hm h) rfl rfl (prim_none (by decide)) H
theorem pairso_eq (t : Option Tn) : Tn.pairso t = pairsC (Tn.leaveso t) := by
  cases t with
  | none => rfl
  | some t => rw [Tn.pairso, Tn.leaveso, pairsC_ne t.leaves_ne]; rfl
theorem All_call (b : Bool) (t : Option Tn) (hf : ∀ u, t = some u → u.fit) (hs : Tn.szo t ≤ 1000000000) (H : Heap) : callX (cfg b) An 51 [.c (tC t)] H = some (.c (pairsC (Tn.leaveso t)), H) := by
  rw [← pairso_eq]; exact callX_pure (All_fn b t hf hs) rfl rfl (prim_none (by decide)) H
theorem Root_call (b : Bool) (t : Option Tn) (H : Heap) : callX (cfg b) An 37 [.c (tC t)] H = some (.c (.arr 32 .u8 (dI (Tn.hasho t))), H) := callX_pure (Root_fn b t) rfl rfl (prim_none (by decide)) H
end Go.Fm
