/-
  A part of the proof: PRNode7.
-/
import Derived.Test.YtjmjijgnbjkpnaaDoorPRNode
import Derived.Test.YtjmjijgnbjkpnaaDoorPLaw12a
import Derived.Test.YtjmjijgnbjkpnaaDoorPLaw14
set_option linter.all false
set_option autoImplicit true
/-
  ref05: All, SameNodes.
-/
set_option maxRecDepth 100000
set_option linter.unusedVariables false
set_option linter.unusedSimpArgs false
namespace Go.Fm
open Go Go.Proofs

theorem v67 {b : Bool} {H : Heap} {vs : List AV} : callX (cfg b) An 67 vs H = cvw (fnX (cfg b) An 67) (handCs (cfg b) true H vs) := callX_v (prim_none (by decide))
theorem keepR67 {b : Bool} : (cfg b).keepR 67 = true := rfl
theorem cf_PRNode7_5cffd489 : clashFree [0, 1, 3, 7, 0, 16, 48, 112, 0, 496, 1023, 2047] [(false, [], 2, 2), (false, [], 2, 2), (false, [], 2, 2), (false, [], 2, 2), (false, [], 2, 2), (false, [], 2, 2), (false, [], 2, 2), (false, [], 2, 2), (false, [1], 2, 2), (true, [1], 2, 3), (true, [2], 3, 4), (false, [3], 4, 4)] = true := by decide
attribute [simp] cf_PRNode7_5cffd489
theorem cf_PRNode7_00344350 : clashFree [0, 1, 3, 7, 0, 16, 48, 112, 0, 496, 1023, 2047] [(false, [], 3, 3), (false, [], 3, 3), (false, [], 3, 3), (false, [], 3, 3), (false, [], 3, 3), (false, [], 3, 3), (false, [], 3, 3), (false, [], 3, 3), (false, [2], 3, 3), (true, [2], 3, 4), (true, [3], 4, 5), (false, [4], 5, 5)] = true := by decide
attribute [simp] cf_PRNode7_00344350
/-! CF -/
set_option maxHeartbeats 8000000 in
theorem rall_fn : ∀ (t : Tn), t.fit → ∀ es : List CV, es.length + t.apis.length ≤ 100000000 →
    fnX (cfg true) An 67 [.c t.rpt, .c .nilsl] [] = some (.os 0, [.row 66 68 t.apis]) ∧
    fnX (cfg true) An 67 [.c t.rpt, .os 0] [.row 66 68 es] = some (.os 1, [.dead, .row 66 68 (es ++ t.apis)])
  | .leaf k v, hf, es, hs => by
    have cc := rapi_call (.leaf k v) hf
    have hp : (Tn.leaf k v).apis = [(Tn.leaf k v).api] := rfl
    have h1 : 1 ≤ maxLen := big_max (by decide)
    rw [hp, List.length_singleton] at hs
    have h2 : es.length + 1 ≤ maxLen := big_max (by omega)
    have h3 : (es.length + 1) * 128 ≤ 140737488355328 := by omega
    rw [hp]
    simp only [Tn.rpt] at cc ⊢
    constructor
    · rw [fnX_eq, p67_eq]
      simp [p67, be57, ht_leaf, cc, h1, keepR67]
    · rw [fnX_eq, p67_eq]
      simp [p67, be57, ht_leaf, cc, h1, h2, h3, keepR67]
  | .node l r, hf, es, hs => by
    have cc := rapi_call (.node l r) hf
    have hp : (Tn.node l r).apis = [(Tn.node l r).api] ++ l.apis ++ r.apis := by simp [Tn.apis, Tn.nodesL]
    rw [hp] at hs
    simp only [List.length_append, List.length_cons, List.length_nil] at hs
    have hl1 := (rall_fn l hf.1 [(Tn.node l r).api] (by simp only [List.length_cons, List.length_nil]; omega)).2
    have hr1 := (rall_fn r hf.2 ([(Tn.node l r).api] ++ l.apis) (by simp only [List.length_append, List.length_cons, List.length_nil]; omega)).2
    have hl2 := (rall_fn l hf.1 (es ++ [(Tn.node l r).api]) (by simp only [List.length_append, List.length_cons, List.length_nil]; omega)).2
    have hr2 := (rall_fn r hf.2 (es ++ [(Tn.node l r).api] ++ l.apis) (by simp only [List.length_append, List.length_cons, List.length_nil]; omega)).2
    have hlp := rlp_node l r
    have hrp := rrp_node l r
    have hne := ht_node_ne l r
    have hp3 : (Tn.node l r).ht ≠ 0 := by have := ht_node_posN l r; omega
    have h1 : 1 ≤ maxLen := big_max (by decide)
    have h2 : es.length + 1 ≤ maxLen := big_max (by omega)
    have h3 : (es.length + 1) * 128 ≤ 140737488355328 := by omega
    rw [hp]
    generalize l.apis = A at *
    generalize r.apis = B at *
    simp only [Tn.rpt] at hl1 hr1 hl2 hr2 hlp hrp cc ⊢
    simp only [List.cons_append, List.nil_append, List.append_assoc] at hl1 hr1 hl2 hr2
    constructor
    · rw [fnX_eq, p67_eq]
      simp [p67, be57, hne, hp3, hlp, hrp, cc, v67, hl1, hr1, h1, keepR67]
    · rw [fnX_eq, p67_eq]
      simp [p67, be57, hne, hp3, hlp, hrp, cc, v67, hl2, hr2, h1, h2, h3, keepR67]
theorem rall_nil (b : Bool) : fnX (cfg b) An 67 [.c .nilp, .c .nilsl] [] = some (.c .nilsl, []) := by
  rw [fnX_eq, p67_eq]
  simp [p67, be57]

/-! ### SameNodes -/
def nodesC (l : List Tn) : CV := if l = [] then .nilsl else .sl 68 (l.map Tn.api)
theorem nodesC_nil : nodesC [] = .nilsl := rfl
theorem nodesC_ne {l : List Tn} (h : l ≠ []) : nodesC l = .sl 68 (l.map Tn.api) := if_neg h
theorem csz_nodesC (l : List Tn) : CV.size (nodesC l) = 1 := by unfold nodesC; split <;> rfl
theorem cag_nodesC (l : List Tn) : CV.isAgg (nodesC l) = false := by unfold nodesC; split <;> rfl
theorem lenOf_nodesC (l : List Tn) (H : Heap) : lenOf H (.c (nodesC l)) = some l.length := by
  unfold nodesC; split
  · rename_i h; subst h; simp
  · simp
theorem mIdxS_nodesC (l : List Tn) (i : Nat) (h : i < l.length) (H : Heap) : mIdxS 68 (.c (nodesC l)) (.c (.int .i64 (i : Int))) H = some (.c (.ptr (l.getD i default).api [] 0), H) := by
  have hne : l ≠ [] := by intro e; rw [e] at h; simp at h
  rw [nodesC_ne hne, mIdxS_s, if_pos ⟨⟨by omega, by simp; omega⟩, rfl⟩, Int.toNat_natCast, nthC_map default h]
attribute [simp] csz_nodesC cag_nodesC lenOf_nodesC
def snS (l m : List Tn) (i : Int) : List AV := [.c (nodesC l), .c (nodesC m), .c (.int .i64 i)]
theorem norm_lh (t : Tn) : t.norm.lh = t.lh := by cases t <;> simp [Tn.norm, Tn.lh, Tn.norm_hash]
theorem norm_rh (t : Tn) : t.norm.rh = t.rh := by cases t <;> simp [Tn.norm, Tn.rh, Tn.norm_hash]
theorem norm_val (t : Tn) : pB t.val = pB t.norm.val := by cases t <;> rfl
theorem sameNorm (t : Tn) (H : Heap) : callX (cfg true) An 46 [.c t.api, .c t.norm.api] H = some (.c (.bool true), H) := by
  rw [api_nd t, api_nd t.norm, norm_lh, norm_rh, Tn.norm_ht, Tn.norm_sz, Tn.norm_key]
  exact sameNode_call true _ _ _ _ rfl (norm_val t) _ _ _ _ H
set_option maxHeartbeats 4000000 in
theorem sn_loop (l : List Tn) (hm : l.length ≤ 1000000) : ∀ (rest pre : List Tn), l = pre ++ rest →
    loopX 0 (p65_l0 true (callX (cfg true) An) 0) (snS l (l.map Tn.norm) (pre.length : Int)) [] = some (.exit 0 [.any], [])
  | [], pre, h => by
    rw [List.append_nil] at h
    rw [← h, loopX_eq]
    simp [snS, p65_l0]
  | t :: rest, pre, h => by
    have hl : pre.length < l.length := by rw [h]; simp
    have hi := mIdxS_nodesC l pre.length hl
    have hg : l.getD pre.length default = t := by rw [h]; simp [List.getD_eq_getElem?_getD]
    rw [hg] at hi
    have hi2 := mIdxS_nodesC (l.map Tn.norm) pre.length (by simpa using hl)
    have hg2 : (l.map Tn.norm).getD pre.length default = t.norm := by rw [h]; simp [List.getD_eq_getElem?_getD]
    rw [hg2] at hi2
    have ha := idx_add pre.length (by omega)
    have ih := sn_loop l hm rest (pre ++ [t]) (by simp [h])
    have e2 : (((pre ++ [t]).length : Nat) : Int) = (pre.length : Int) + 1 := by simp
    rw [e2] at ih
    have sc := sameNorm t
    generalize pre.length = n at *
    rw [loopX_eq]
    simp only [snS] at ih
    simp [snS, p65_l0, hl, hi, hi2, sc, ha, ih]
theorem sameNodes_fn (l : List Tn) (hm : l.length ≤ 1000000) : fnX (cfg true) An 65 [.c (nodesC l), .c (nodesC (l.map Tn.norm))] [] = some (.c (.bool true), []) := by
  rw [fnX_eq, p65_eq]
  have e := sn_loop l hm l [] rfl
  simp only [snS, List.length_nil, Int.natCast_zero, Int.ofNat_zero] at e
  simp [p65, e]
end Go.Fm

