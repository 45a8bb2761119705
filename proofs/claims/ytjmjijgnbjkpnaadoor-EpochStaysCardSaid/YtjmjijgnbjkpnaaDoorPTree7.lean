/-
  A part of the proof: PTree7.
-/
import Derived.Test.YtjmjijgnbjkpnaaDoorPTree6
set_option linter.all false
set_option autoImplicit true
/-
  tree: All, Nodes.
-/
set_option maxRecDepth 100000
set_option linter.unusedVariables false
set_option linter.unusedSimpArgs false
namespace Go.Fm
open Go Go.Proofs

def pairC (k : List UInt8) (v : Option (List UInt8)) : CV := .agg [.sl 1 (bytesAV k), pV v]
namespace Tn
/-- All leaves, from the left. -/
def leaves : Tn → List (List UInt8 × Option (List UInt8))
  | leaf k v => [(k, v)]
  | node l r => l.leaves ++ r.leaves
def pairs (t : Tn) : List CV := t.leaves.map fun p => pairC p.1 p.2
theorem leaves_sz (t : Tn) : t.leaves.length = t.sz := by
  induction t with
  | leaf k v => rfl
  | node l r ihl ihr => simp [leaves, sz, ihl, ihr]
theorem pairs_len (t : Tn) : t.pairs.length = t.sz := by simp [pairs, leaves_sz]
end Tn
theorem cf_PTree7_a735024b : clashFree [0, 1, 3, 7, 0, 16, 48, 112, 0, 496, 1023, 2047] [(false, [], 1, 1), (false, [], 1, 1), (false, [], 1, 1), (false, [], 1, 1), (false, [], 1, 1), (false, [], 1, 1), (false, [], 1, 1), (false, [], 1, 1), (false, [0], 1, 1), (true, [0], 1, 2), (true, [1], 2, 3), (false, [2], 3, 3)] = true := by decide
attribute [simp] cf_PTree7_a735024b
theorem cf_PTree7_9b1c674e : clashFree [0, 1, 3, 7, 0, 16, 48, 112, 0, 0, 512, 1536, 3584, 7680, 15872, 32512, 65520, 131071, 262143] [(false, [], 0, 0), (false, [], 0, 0), (false, [], 0, 0), (false, [], 0, 0), (false, [], 0, 0), (false, [], 0, 0), (false, [], 0, 0), (false, [], 0, 0), (false, [], 0, 0), (false, [], 0, 0), (false, [], 0, 0), (false, [], 0, 0), (false, [], 0, 0), (false, [], 0, 0), (false, [], 0, 1), (true, [0], 1, 2), (true, [1], 2, 2), (true, [1], 2, 2), (false, [1], 2, 2)] = true := by decide
attribute [simp] cf_PTree7_9b1c674e
theorem cf_PTree7_96598ddf : clashFree [0, 1, 3, 7, 0, 16, 48, 112, 0, 0, 512, 1536, 3584, 7680, 15872, 32512, 65520, 131071, 262143] [(false, [], 1, 1), (false, [], 1, 1), (false, [], 1, 1), (false, [], 1, 1), (false, [], 1, 1), (false, [], 1, 1), (false, [], 1, 1), (false, [], 1, 1), (false, [0], 1, 1), (false, [], 1, 1), (false, [], 1, 1), (false, [], 1, 1), (false, [], 1, 1), (false, [], 1, 1), (false, [], 1, 2), (true, [0, 1], 2, 3), (true, [2], 3, 3), (true, [2], 3, 3), (false, [2], 3, 3)] = true := by decide
attribute [simp] cf_PTree7_96598ddf
theorem cf_PTree7_975ff8a6 : clashFree [0, 1, 3, 7, 0, 16, 48, 112, 0, 0, 512, 1536, 3584, 7680, 15872, 32512, 65520, 131071, 262143] [(false, [], 0, 0), (false, [], 0, 0), (false, [], 0, 0), (false, [], 0, 0), (false, [], 0, 0), (false, [], 0, 0), (false, [], 0, 0), (false, [], 0, 0), (false, [], 0, 0), (false, [], 0, 0), (false, [], 0, 0), (false, [], 0, 0), (false, [], 0, 0), (false, [], 0, 0), (false, [], 0, 1), (true, [0], 1, 2), (true, [1], 2, 3), (true, [2], 3, 4), (false, [3], 4, 4)] = true := by decide
attribute [simp] cf_PTree7_975ff8a6
theorem cf_PTree7_86b4c1ec : clashFree [0, 1, 3, 7, 0, 16, 48, 112, 0, 0, 512, 1536, 3584, 7680, 15872, 32512, 65520, 131071, 262143] [(false, [], 1, 1), (false, [], 1, 1), (false, [], 1, 1), (false, [], 1, 1), (false, [], 1, 1), (false, [], 1, 1), (false, [], 1, 1), (false, [], 1, 1), (false, [0], 1, 1), (false, [], 1, 1), (false, [], 1, 1), (false, [], 1, 1), (false, [], 1, 1), (false, [], 1, 1), (false, [], 1, 2), (true, [0, 1], 2, 3), (true, [2], 3, 4), (true, [3], 4, 5), (false, [4], 5, 5)] = true := by decide
attribute [simp] cf_PTree7_86b4c1ec
/-! CF -/
theorem v97 {b : Bool} {H : Heap} {vs : List AV} : callX (cfg b) An 97 vs H = cvw (fnX (cfg b) An 97) (handCs (cfg b) true H vs) := callX_v (prim_none (by decide))
theorem keepR97 {b : Bool} : (cfg b).keepR 97 = true := rfl

set_option maxHeartbeats 8000000 in
theorem walk_fn (b : Bool) : ∀ (t : Tn), t.fit → ∀ es : List CV, es.length + t.sz ≤ 1000000000 →
    fnX (cfg b) An 97 [.c t.pt, .c .nilsl] [] = some (.os 0, [.row 97 2 t.pairs]) ∧
    fnX (cfg b) An 97 [.c t.pt, .os 0] [.row 97 2 es] = some (.os 1, [.dead, .row 97 2 (es ++ t.pairs)])
  | .leaf k v, hf, es, hs => by
    have c1 := clone_sl b k (by have := hf.1; omega)
    have c2 := clone_call b v (by have := hf.2; omega)
    have hp : (Tn.leaf k v).pairs = [pairC k v] := rfl
    have hv : (Tn.leaf k v).val = v := rfl
    have h1 : 1 ≤ maxLen := big_max (by decide)
    simp only [Tn.sz] at hs
    have h2 : es.length + 1 ≤ maxLen := big_max (by omega)
    have h3 : (es.length + 1) * 48 ≤ 140737488355328 := by omega
    rw [hp]
    constructor
    · rw [fnX_eq, p97_eq]
      simp [p97, Tn.pt, be138, ht_leaf, key_leaf, hv, c1, c2, pairC, h1, keepR97]
    · rw [fnX_eq, p97_eq]
      simp [p97, Tn.pt, be138, ht_leaf, key_leaf, hv, c1, c2, pairC, h1, h2, h3, keepR97]
  | .node l r, hf, es, hs => by
    simp only [Tn.sz] at hs
    have hl := walk_fn b l hf.1 es (by omega)
    have hr1 := (walk_fn b r hf.2 l.pairs (by rw [Tn.pairs_len]; omega)).2
    have hr2 := (walk_fn b r hf.2 (es ++ l.pairs) (by rw [List.length_append, Tn.pairs_len]; omega)).2
    have hne := ht_node_ne l r
    have hlp := lp_node l r
    have hrp := rp_node l r
    have hp : (Tn.node l r).pairs = l.pairs ++ r.pairs := by simp [Tn.pairs, Tn.leaves]
    rw [hp]
    simp only [Tn.pt] at hl hr1 hr2 hlp hrp ⊢
    constructor
    · rw [fnX_eq, p97_eq]
      simp [p97, be138, hne, hlp, hrp, v97, hl.1, hr1, keepR97]
    · rw [fnX_eq, p97_eq]
      simp [p97, be138, hne, hlp, hrp, v97, hl.2, hr2, keepR97]

def Tn.pairso : Option Tn → CV
  | none => .nilsl
  | some t => .sl 2 t.pairs
theorem All_fn (b : Bool) (t : Option Tn) (hf : ∀ u, t = some u → u.fit) (hs : Tn.szo t ≤ 1000000000) : fnX (cfg b) An 51 [.c (tC t)] [] = some (.c (Tn.pairso t), []) := by
  rw [fnX_eq, p51_eq]
  cases t with
  | none =>
    have h : fnX (cfg b) An 97 [.c .nilp, .c .nilsl] [] = some (.c .nilsl, []) := by
      rw [fnX_eq, p97_eq]
      simp [p97, be138]
    simp [p51, tC, Tn.pto, be28, v97, h, Tn.pairso]
  | some t =>
    have h := (walk_fn b t (hf t rfl) [] (by simpa [Tn.szo] using hs)).1
    simp only [Tn.pt] at h
    simp [p51, tC, Tn.pto, Tn.pt, be28, v97, h, Tn.pairso]

/-! ### Nodes -/
namespace Tn
def nodesL : Tn → List Tn
  | leaf k v => [leaf k v]
  | node l r => node l r :: (l.nodesL ++ r.nodesL)
def apis (t : Tn) : List CV := t.nodesL.map Tn.api
theorem nodesL_len (t : Tn) : t.nodesL.length + 1 = 2 * t.sz := by
  induction t with
  | leaf k v => rfl
  | node l r ihl ihr => simp [nodesL, sz]; omega
theorem apis_len (t : Tn) : t.apis.length ≤ 2 * t.sz := by have := t.nodesL_len; simp [apis]; omega
end Tn
theorem v105 {b : Bool} {H : Heap} {vs : List AV} : callX (cfg b) An 105 vs H = cvw (fnX (cfg b) An 105) (handCs (cfg b) true H vs) := callX_v (prim_none (by decide))
theorem keepR105 {b : Bool} : (cfg b).keepR 105 = true := rfl
theorem nodes_nil (b : Bool) (es : List CV) : fnX (cfg b) An 105 [.c .nilp, .os 0] [.row 66 68 es] = some (.os 0, [.row 66 68 es]) := by
  rw [fnX_eq, p105_eq]
  simp [p105, be138, keepR105]
set_option maxHeartbeats 8000000 in
theorem nodes_fn (b : Bool) : ∀ (t : Tn), t.fit → ∀ es : List CV, es.length + t.apis.length ≤ 100000000 →
    fnX (cfg b) An 105 [.c t.pt, .c .nilsl] [] = some (.os 0, [.row 66 68 t.apis]) ∧
    fnX (cfg b) An 105 [.c t.pt, .os 0] [.row 66 68 es] = some (.os 1, [.dead, .row 66 68 (es ++ t.apis)])
  | .leaf k v, hf, es, hs => by
    have cc := copied_call b (.leaf k v) hf
    have hp : (Tn.leaf k v).apis = [(Tn.leaf k v).api] := rfl
    have h1 : 1 ≤ maxLen := big_max (by decide)
    rw [hp, List.length_singleton] at hs
    have h2 : es.length + 1 ≤ maxLen := big_max (by omega)
    have h3 : (es.length + 1) * 128 ≤ 140737488355328 := by omega
    have n1 := nodes_nil b [(Tn.leaf k v).api]
    have n2 := nodes_nil b (es ++ [(Tn.leaf k v).api])
    rw [hp]
    constructor
    · rw [fnX_eq, p105_eq]
      simp [p105, Tn.pt, be138, lp_leaf, rp_leaf, cc, v105, n1, h1, keepR105]
    · rw [fnX_eq, p105_eq]
      simp [p105, Tn.pt, be138, lp_leaf, rp_leaf, cc, v105, n2, h1, h2, h3, keepR105]
  | .node l r, hf, es, hs => by
    have cc := copied_call b (.node l r) hf
    have hp : (Tn.node l r).apis = [(Tn.node l r).api] ++ l.apis ++ r.apis := by simp [Tn.apis, Tn.nodesL]
    rw [hp] at hs
    simp only [List.length_append, List.length_cons, List.length_nil] at hs
    have hl1 := (nodes_fn b l hf.1 [(Tn.node l r).api] (by simp only [List.length_cons, List.length_nil]; omega)).2
    have hr1 := (nodes_fn b r hf.2 ([(Tn.node l r).api] ++ l.apis) (by simp only [List.length_append, List.length_cons, List.length_nil]; omega)).2
    have hl2 := (nodes_fn b l hf.1 (es ++ [(Tn.node l r).api]) (by simp only [List.length_append, List.length_cons, List.length_nil]; omega)).2
    have hr2 := (nodes_fn b r hf.2 (es ++ [(Tn.node l r).api] ++ l.apis) (by simp only [List.length_append, List.length_cons, List.length_nil]; omega)).2
    have hlp := lp_node l r
    have hrp := rp_node l r
    have h1 : 1 ≤ maxLen := big_max (by decide)
    have h2 : es.length + 1 ≤ maxLen := big_max (by omega)
    have h3 : (es.length + 1) * 128 ≤ 140737488355328 := by omega
    rw [hp]
    generalize l.apis = A at *
    generalize r.apis = B at *
    simp only [Tn.pt] at hl1 hr1 hl2 hr2 hlp hrp ⊢
    simp only [List.cons_append, List.nil_append, List.append_assoc] at hl1 hr1 hl2 hr2
    constructor
    · rw [fnX_eq, p105_eq]
      simp [p105, be138, hlp, hrp, cc, v105, hl1, hr1, h1, keepR105]
    · rw [fnX_eq, p105_eq]
      simp [p105, be138, hlp, hrp, cc, v105, hl2, hr2, h1, h2, h3, keepR105]
def Tn.apiso : Option Tn → CV
  | none => .nilsl
  | some t => .sl 68 t.apis
theorem Nodes_fn (b : Bool) (t : Option Tn) (hf : ∀ u, t = some u → u.fit) (hs : Tn.szo t ≤ 10000000) : fnX (cfg b) An 66 [.c (tC t)] [] = some (.c (Tn.apiso t), []) := by
  rw [fnX_eq, p66_eq]
  cases t with
  | none =>
    have h : fnX (cfg b) An 105 [.c .nilp, .c .nilsl] [] = some (.c .nilsl, []) := by
      rw [fnX_eq, p105_eq]
      simp [p105, be138]
    simp [p66, tC, Tn.pto, be28, v105, h, Tn.apiso]
  | some t =>
    have h := (nodes_fn b t (hf t rfl) [] (by simp only [Tn.szo] at hs; have := t.apis_len; simp; omega)).1
    simp only [Tn.pt] at h
    simp [p66, tC, Tn.pto, Tn.pt, be28, v105, h, Tn.apiso]
end Go.Fm

