/-
  A part of the proof: PTree6.
-/
import Derived.Test.YtjmjijgnbjkpnaaDoorPTree5
set_option linter.all false
set_option autoImplicit true
/-
  tree: Get, Node, All, Nodes.
-/
set_option maxRecDepth 100000
set_option linter.unusedVariables false
set_option linter.unusedSimpArgs false
namespace Go.Fm
open Go Go.Proofs

namespace Tn
theorem fit_least : ∀ t : Tn, t.fit → t.least.length ≤ 1000000
  | leaf k v, h => h.1
  | node l r, h => fit_least l h.1
theorem fit_key (t : Tn) (h : t.fit) : t.key.length ≤ 1000000 := by
  cases t with
  | leaf k v => exact h.1
  | node l r => exact fit_least r h.2
theorem fit_val (t : Tn) (h : t.fit) : (pB t.val).length ≤ 1000000 := by
  cases t with
  | leaf k v => exact h.2
  | node l r => simp [val, pB]
/-- Where a way leads. -/
def go : List Bool → Tn → Option Tn
  | [], t => some t
  | _ :: _, leaf _ _ => none
  | w :: ws, node l r => go ws (if w = true then r else l)
/-- The leaf that a key's way comes to. -/
def goKey (key : List UInt8) : Tn → List UInt8 × Option (List UInt8)
  | leaf k v => (k, v)
  | node l r => if Op.bytesLess key r.least = true then goKey key l else goKey key r
theorem goKey_fit (key : List UInt8) : ∀ t : Tn, t.fit → (pB (goKey key t).2).length ≤ 1000000
  | leaf k v, h => h.2
  | node l r, h => by
    unfold goKey
    split
    · exact goKey_fit key l h.1
    · exact goKey_fit key r h.2
end Tn
theorem copied_call (b : Bool) (t : Tn) (h : t.fit) (H : Heap) : callX (cfg b) An 95 [.c t.api] H = some (.c t.api, H) := by
  refine callX_pure ?_ rfl rfl (prim_none (by decide)) H
  exact copied_fn b t.key t.val (t.fit_key h) (t.fit_val h) _ _ t.lh t.rh t.lh_len t.rh_len

theorem idx_add (i : Nat) (h : i < 4000000000000000000) : iAdd .i64 (i : Int) 1 = (i : Int) + 1 := by
  unfold iAdd
  rw [i64_small (by omega) (by omega)]

theorem node_loop (b : Bool) (cf : CallFn) (ways : List Bool) (hw : ways.length ≤ 1000000000) : ∀ (rest pre : List Bool) (t : Tn), ways = pre ++ rest →
    (∀ u, Tn.go rest t = some u → loopX 0 (p45_l0 b cf 0) [.ov 0 [] 0, .c t.pt, .c (.sl 1 (ways.map CV.bool)), .c (.int .i64 (ways.length : Int)), .c (.int .i64 (pre.length : Int))] [.var 66 (.c (.agg [.nilsl, .nilsl, .int .i64 0, .int .u64 0, .arr 32 .u8 (List.replicate 32 0), .arr 32 .u8 (List.replicate 32 0)]))] =
      some (.exit 0 [.ov 0 [] 0, .any, .c u.pt], [.var 66 (.c (.agg [.nilsl, .nilsl, .int .i64 0, .int .u64 0, .arr 32 .u8 (List.replicate 32 0), .arr 32 .u8 (List.replicate 32 0)]))])) ∧
    (Tn.go rest t = none → ∃ u : Tn, loopX 0 (p45_l0 b cf 0) [.ov 0 [] 0, .c t.pt, .c (.sl 1 (ways.map CV.bool)), .c (.int .i64 (ways.length : Int)), .c (.int .i64 (pre.length : Int))] [.var 66 (.c (.agg [.nilsl, .nilsl, .int .i64 0, .int .u64 0, .arr 32 .u8 (List.replicate 32 0), .arr 32 .u8 (List.replicate 32 0)]))] =
      some (.ret [.ov 0 [] 0, .c (.bool false), .c u.pt], [.var 66 (.c (.agg [.nilsl, .nilsl, .int .i64 0, .int .u64 0, .arr 32 .u8 (List.replicate 32 0), .arr 32 .u8 (List.replicate 32 0)]))]))
  | [], pre, t, h => by
    subst h
    refine ⟨fun u hu => ?_, fun h => by simp [Tn.go] at h⟩
    simp only [Tn.go, Option.some.injEq] at hu
    subst hu
    rw [loopX_eq]
    have h1 : ¬ (pre.length : Int) < ((pre ++ []).length : Int) := by simp
    simp [p45_l0]
  | w :: rest, pre, t, h => by
    have hlt : pre.length < ways.length := by subst h; simp
    have hltI : (pre.length : Int) < (ways.length : Int) := by omega
    have h0 : (0 : Int) ≤ (pre.length : Int) := by omega
    have hn : nthC (ways.map CV.bool) pre.length = .bool w := by
      rw [nthC_map false hlt]
      subst h
      simp [List.getD_eq_getElem?_getD]
    have hadd := idx_add pre.length (by omega)
    cases t with
    | leaf k v =>
      refine ⟨fun u hu => by simp [Tn.go] at hu, fun _ => ⟨.leaf k v, ?_⟩⟩
      rw [loopX_eq]
      simp [p45_l0, hlt, hltI, h0, hn, Tn.pt, ht_leaf]
    | node l r =>
      have ih := node_loop b cf ways hw rest (pre ++ [w]) (if w = true then r else l) (by simp [h])
      have hne := ht_node_ne l r
      have hlp := lp_node l r
      have hrp := rp_node l r
      have hl2 : ((pre ++ [w]).length : Int) = (pre.length : Int) + 1 := by simp
      rw [hl2] at ih
      have step : loopX 0 (p45_l0 b cf 0) [.ov 0 [] 0, .c (Tn.node l r).pt, .c (.sl 1 (ways.map CV.bool)), .c (.int .i64 (ways.length : Int)), .c (.int .i64 (pre.length : Int))] [.var 66 (.c (.agg [.nilsl, .nilsl, .int .i64 0, .int .u64 0, .arr 32 .u8 (List.replicate 32 0), .arr 32 .u8 (List.replicate 32 0)]))] =
          loopX 0 (p45_l0 b cf 0) [.ov 0 [] 0, .c (if w = true then r else l).pt, .c (.sl 1 (ways.map CV.bool)), .c (.int .i64 (ways.length : Int)), .c (.int .i64 ((pre.length : Int) + 1))] [.var 66 (.c (.agg [.nilsl, .nilsl, .int .i64 0, .int .u64 0, .arr 32 .u8 (List.replicate 32 0), .arr 32 .u8 (List.replicate 32 0)]))] := by
        rw [loopX_eq]
        simp only [Tn.pt] at hlp hrp ⊢
        cases w <;> simp [p45_l0, hlt, hltI, h0, hn, hne, hlp, hrp, hadd]
      rw [step]
      have hg : Tn.go (w :: rest) (.node l r) = Tn.go rest (if w = true then r else l) := rfl
      rw [hg]
      exact ih

def api0 : CV := .agg [.nilsl, .nilsl, .int .i64 0, .int .u64 0, .arr 32 .u8 (List.replicate 32 0), .arr 32 .u8 (List.replicate 32 0)]
/-- Where a way leads in a tree that may be empty. -/
def Tn.goo (ws : List Bool) : Option Tn → Option Tn
  | none => none
  | some t => t.go ws
theorem fit_go : ∀ (ws : List Bool) (t u : Tn), t.fit → Tn.go ws t = some u → u.fit
  | [], t, u, h, hu => by simp only [Tn.go, Option.some.injEq] at hu; subst hu; exact h
  | w :: ws, .leaf k v, u, h, hu => by simp [Tn.go] at hu
  | w :: ws, .node l r, u, h, hu => by
    simp only [Tn.go] at hu
    refine fit_go ws _ u ?_ hu
    cases w
    · exact h.1
    · exact h.2
theorem Node_none (b : Bool) (ws : List Bool) (hw : ws.length ≤ 1000000000) (t : Option Tn) (h : Tn.goo ws t = none) : fnX (cfg b) An 45 [.c (tC t), .c (.sl 1 (ws.map CV.bool))] [] = some (.tup [.c api0, .c (.bool false)], []) := by
  rw [fnX_eq, p45_eq]
  cases t with
  | none => simp [p45, tC, Tn.pto, be28, be138, api0]
  | some t =>
    obtain ⟨u, hu⟩ := (node_loop b (callX (cfg b) An) ws hw ws [] t rfl).2 h
    simp only [List.length_nil, Int.ofNat_zero, Int.natCast_zero, Tn.pt, List.reduceReplicate] at hu
    have n0 : ((0 : Nat) : Int) = 0 := rfl
    simp [p45, tC, Tn.pto, Tn.pt, be28, be138, hu, api0]
theorem Node_some (b : Bool) (ws : List Bool) (hw : ws.length ≤ 1000000000) (t u : Tn) (hf : t.fit) (h : Tn.go ws t = some u) : fnX (cfg b) An 45 [.c (tC (some t)), .c (.sl 1 (ws.map CV.bool))] [] = some (.tup [.c u.api, .c (.bool true)], []) := by
  rw [fnX_eq, p45_eq]
  have hu := (node_loop b (callX (cfg b) An) ws hw ws [] t rfl).1 u h
  have cc := copied_call b u (fit_go ws t u hf h)
  simp only [List.length_nil, Int.ofNat_zero, Int.natCast_zero, Tn.pt, List.reduceReplicate] at hu
  simp [p45, tC, Tn.pto, Tn.pt, be28, be138, hu, cc]
theorem Node_root0 (b : Bool) : fnX (cfg b) An 45 [.c (tC none), .c .nilsl] [] = some (.tup [.c api0, .c (.bool false)], []) := by
  rw [fnX_eq, p45_eq]
  simp [p45, tC, Tn.pto, be28, be138, api0]
theorem Node_nil (b : Bool) (v : CV) : fnX (cfg b) An 45 [.c .nilp, .c v] [] = some (.tup [.c api0, .c (.bool false)], []) := by
  rw [fnX_eq, p45_eq]
  simp [p45, be28, api0]
theorem Node_root (b : Bool) (t : Tn) (hf : t.fit) : fnX (cfg b) An 45 [.c (tC (some t)), .c .nilsl] [] = some (.tup [.c t.api, .c (.bool true)], []) := by
  rw [fnX_eq, p45_eq]
  have cc := copied_call b t hf
  have hu : loopX 0 (p45_l0 b (callX (cfg b) An) 0) [.ov 0 [] 0, .c (.ptr t.cv [] 0), .c .nilsl, .c (.int .i64 0), .c (.int .i64 0)] [.var 66 (.c api0)] = some (.exit 0 [.ov 0 [] 0, .any, .c t.pt], [.var 66 (.c api0)]) := by
    rw [loopX_eq]
    simp [p45_l0, Tn.pt]
  simp only [Tn.pt, api0, List.reduceReplicate] at hu
  simp [p45, tC, Tn.pto, Tn.pt, be28, be138, hu, cc]

/-! ### Get -/
theorem get_loop (b : Bool) (key : List UInt8) : ∀ t : Tn, loopX 0 (p63_l0 b (callX (cfg b) An) 0) [.c (.sl 1 (bytesAV key)), .c t.pt] [] = some (.exit 0 [.c (.sl 1 (bytesAV key)), .c (Tn.leaf (t.goKey key).1 (t.goKey key).2).pt], [])
  | .leaf k v => by
    rw [loopX_eq]
    simp [p63_l0, Tn.pt, ht_leaf, Tn.goKey]
  | .node l r => by
    have hl := get_loop b key l
    have hr := get_loop b key r
    have c1 := compare_call b key r.least
    have hlp := lp_node l r
    have hrp := rp_node l r
    have hp := ht_node_posN l r
    rw [loopX_eq]
    by_cases h1 : Op.bytesLess key r.least = true
    · have e : Tn.goKey key (.node l r) = Tn.goKey key l := by simp [Tn.goKey, h1]
      rw [e, ← hl]
      simp only [Tn.pt] at hlp hrp ⊢
      simp [p63_l0, c1, key_node, hp, hlp, hrp, cmpZ_lt, h1]
    · have h1' : Op.bytesLess key r.least = false := by simpa using h1
      have e : Tn.goKey key (.node l r) = Tn.goKey key r := by simp [Tn.goKey, h1']
      rw [e, ← hr]
      simp only [Tn.pt] at hlp hrp ⊢
      simp [p63_l0, c1, key_node, hp, hlp, hrp, cmpZ_lt, h1']
def Tn.get (key : List UInt8) : Option Tn → Option (Option (List UInt8))
  | none => none
  | some t => if (t.goKey key).1 = key then some (t.goKey key).2 else none
def getV : Option (Option (List UInt8)) → CV
  | none => .nilsl
  | some v => pV v
theorem Get_fn (b : Bool) (key : List UInt8) (t : Option Tn) (hf : ∀ u, t = some u → u.fit) : fnX (cfg b) An 63 [.c (tC t), .c (.sl 1 (bytesAV key))] [] = some (.tup [.c (getV (Tn.get key t)), .c (.bool (Tn.get key t).isSome)], []) := by
  rw [fnX_eq, p63_eq]
  cases t with
  | none => simp [p63, tC, Tn.pto, be28, be138, Tn.get, getV]
  | some t =>
    have hl := get_loop b key t
    have c1 := equal_call b (t.goKey key).1 key
    have c2 := clone_call b (t.goKey key).2 (by have := Tn.goKey_fit key t (hf t rfl); omega)
    have hv : (Tn.leaf (t.goKey key).1 (t.goKey key).2).val = (t.goKey key).2 := rfl
    by_cases h1 : (t.goKey key).1 = key
    · have h3 : ((t.goKey key).1 == key) = true := by simpa using h1
      have e : Tn.get key (some t) = some (t.goKey key).2 := by simp [Tn.get, h1]
      rw [e]
      simp only [Tn.pt] at hl
      simp [p63, tC, Tn.pto, Tn.pt, be28, be138, hl, c1, c2, key_leaf, hv, h3, getV]
    · have h3 : ((t.goKey key).1 == key) = false := by simpa using h1
      have e : Tn.get key (some t) = none := by simp [Tn.get, h1]
      rw [e]
      simp only [Tn.pt] at hl
      simp [p63, tC, Tn.pto, Tn.pt, be28, be138, hl, c1, c2, key_leaf, hv, h3, getV]
theorem Get_nil (b : Bool) (v : CV) : fnX (cfg b) An 63 [.c .nilp, .c v] [] = some (.tup [.c .nilsl, .c (.bool false)], []) := by
  rw [fnX_eq, p63_eq]
  simp [p63, be28]
theorem Put_nil (b : Bool) (v w : CV) : fnX (cfg b) An 36 [.c .nilp, .c v, .c w] [] = some (.tup [.c .nilp, .c (.int .i64 1)], []) := by
  rw [fnX_eq, p36_eq]
  simp [p36, be28]
theorem Cut_nil (b : Bool) (v : CV) : fnX (cfg b) An 61 [.c .nilp, .c v] [] = some (.tup [.c .nilp, .c (.bool false)], []) := by
  rw [fnX_eq, p61_eq]
  simp [p61, be28]
theorem All_nil (b : Bool) : fnX (cfg b) An 51 [.c .nilp] [] = some (.c .nilsl, []) := by
  rw [fnX_eq, p51_eq]
  simp [p51, be28]
theorem Nodes_nil (b : Bool) : fnX (cfg b) An 66 [.c .nilp] [] = some (.c .nilsl, []) := by
  rw [fnX_eq, p66_eq]
  simp [p66, be28]
end Go.Fm

