/-
  A part of the proof: PLaw9.
-/
import Derived.Test.YtjmjijgnbjkpnaaDoorPLaw14
import Derived.Test.YtjmjijgnbjkpnaaDoorPRef1
import Derived.Test.YtjmjijgnbjkpnaaDoorDLaw9
set_option linter.all false
set_option autoImplicit true
/-
  TreeBalance: what the law's function gives.
-/
set_option maxRecDepth 100000
set_option linter.unusedVariables false
set_option linter.unusedSimpArgs false
namespace Go.Fm
open Go Go.Proofs

/-! CF -/
def wayC (w : List Bool) : CV := if w = [] then .nilsl else .sl 1 (w.map CV.bool)
theorem csz_wayC (w : List Bool) : CV.size (wayC w) = 1 := by unfold wayC; split <;> rfl
theorem cag_wayC (w : List Bool) : CV.isAgg (wayC w) = false := by unfold wayC; split <;> rfl
theorem elems_wayC (w : List Bool) (H : Heap) : elemsOf H 1 (.c (wayC w)) = some (w.map CV.bool) := by
  unfold wayC
  split
  · rename_i h; simp [h]
  · simp
attribute [simp] csz_wayC cag_wayC elems_wayC
theorem nodeW_fn (b : Bool) (t u : Tn) (hf : t.fit) (w : List Bool) (hw : w.length ≤ 1000000000) (h : Tn.go w t = some u) : fnX (cfg b) An 45 [.c (tC (some t)), .c (wayC w)] [] = some (.tup [.c u.api, .c (.bool true)], []) := by
  unfold wayC
  split
  · rename_i h0
    subst h0
    simp only [Tn.go, Option.some.injEq] at h
    subst h
    exact Node_root b t hf
  · exact Node_some b w hw t u hf h
theorem go_snoc : ∀ (w : List Bool) (t l r : Tn) (d : Bool), Tn.go w t = some (.node l r) → Tn.go (w ++ [d]) t = some (if d = true then r else l)
  | [], t, l, r, d, h => by
    simp only [Tn.go, Option.some.injEq] at h
    subst h
    rfl
  | w :: ws, .leaf k v, l, r, d, h => by simp [Tn.go] at h
  | w :: ws, .node a c, l, r, d, h => by
    simp only [Tn.go, List.cons_append] at h ⊢
    exact go_snoc ws _ l r d h
theorem go_B : ∀ (w : List Bool) (t u : Tn), t.B → Tn.go w t = some u → u.B
  | [], t, u, h, hu => by simp only [Tn.go, Option.some.injEq] at hu; subst hu; exact h
  | w :: ws, .leaf k v, u, h, hu => by simp [Tn.go] at hu
  | w :: ws, .node l r, u, h, hu => by
    simp only [Tn.go] at hu
    refine go_B ws _ u ?_ hu
    cases w
    · exact h.1
    · exact h.2.1
theorem go_sz : ∀ (w : List Bool) (t u : Tn), Tn.go w t = some u → u.sz ≤ t.sz ∧ w.length ≤ t.ht
  | [], t, u, hu => by simp only [Tn.go, Option.some.injEq] at hu; subst hu; simp
  | w :: ws, .leaf k v, u, hu => by simp [Tn.go] at hu
  | w :: ws, .node l r, u, hu => by
    simp only [Tn.go] at hu
    have ih := go_sz ws _ u hu
    cases w
    · simp only [Bool.false_eq_true, if_false] at ih; simp only [Tn.sz, Tn.ht, List.length_cons]; omega
    · simp only [if_true] at ih; simp only [Tn.sz, Tn.ht, List.length_cons]; omega
/-- The state. -/
def tbS (t : Tn) (l : List Pr) (n : Int) : List AV := [.c (tC (some t)), .c (pairsC l), .os 0, .c (.int .i64 n)]
def tbH (ws : List (List Bool)) : Heap := [.row 53 1 (ws.map wayC)]
theorem v45e {b : Bool} {H : Heap} {v : CV} {a : AV} : callX (cfg b) An 45 [.c v, a] H = cvw (fnX (cfg b) An 45) (handCs (cfg b) false H [.c v, a]) := callX_v (prim_none (by decide))

set_option maxHeartbeats 4000000 in
theorem tb_leaf (b : Bool) (t : Tn) (hf : t.fit) (l : List Pr) (hl : l ≠ []) (w : List Bool) (ws : List (List Bool)) (hw : w.length ≤ 1000000000) (k : List UInt8) (v : Option (List UInt8)) (hgo : Tn.go w t = some (.leaf k v)) (n : Nat) (hn : n < 1000000) :
    loopX 0 (p9_l0 b (callX (cfg b) An) 0) (tbS t l (n : Int)) (tbH (w :: ws)) = loopX 0 (p9_l0 b (callX (cfg b) An) 0) (tbS t l ((n : Int) + 1)) (tbH ws) := by
  have hl0 : 0 < l.length := List.length_pos_iff.2 hl
  have hl0I : (0 : Int) < (l.length : Int) := by omega
  have nd := nodeW_fn b t (.leaf k v) hf w hw hgo
  have ha := idx_add n (by omega)
  have hq : getC (Tn.leaf k v).api [2] = some (.int .i64 0) := by rw [q_h]; rfl
  rw [loopX_eq]
  have tl := mSliceSl_tail (sz := 1) (u := 53) (es := wayC w :: ws.map wayC) (i := 0) (H := [.row 53 1 (wayC w :: ws.map wayC)]) (c := 1) (k := .i64) rfl (by decide) (by simp; omega)
  simp [tbS, tbH, p9_l0, hl0, hl0I, nthC, v45e, nd, hq, ha, tl]
  rw [loopX_gc (s1 := tbS t l ((n : Int) + 1)) (H1 := tbH ws)]
  · rfl
  · simp [tbS, tbH]
  · simp [tbS, tbH]

theorem subZ (a c : Nat) (ha : a < 2000000000000000000) (hc : c < 2000000000000000000) : iSub .i64 (a : Int) (c : Int) = (a : Int) - (c : Int) := by
  unfold iSub IntKind.wrap
  simp only [IntKind.bits, IntKind.signed]
  simp
  omega
set_option maxHeartbeats 16000000 in
theorem tb_node (b : Bool) (t : Tn) (hf : t.fit) (hB : t.B) (hsz : t.sz ≤ 1000000) (l : List Pr) (hl : l ≠ []) (w : List Bool) (ws : List (List Bool)) (hws : ws.length ≤ 1000000) (x y : Tn) (hgo : Tn.go w t = some (.node x y)) (n : Nat) (hn : n < 1000000) :
    loopX 0 (p9_l0 b (callX (cfg b) An) 0) (tbS t l (n : Int)) (tbH (w :: ws)) = loopX 0 (p9_l0 b (callX (cfg b) An) 0) (tbS t l (n : Int)) (tbH (ws ++ [w ++ [false], w ++ [true]])) := by
  have hl0 : 0 < l.length := List.length_pos_iff.2 hl
  have hl0I : (0 : Int) < (l.length : Int) := by omega
  obtain ⟨hsu, hwl⟩ := go_sz w t _ hgo
  have htl := t.ht_lt
  have nd := nodeW_fn b t (.node x y) hf w (by omega) hgo
  have hgx : Tn.go (w ++ [false]) t = some x := go_snoc w t x y false hgo
  have hgy : Tn.go (w ++ [true]) t = some y := go_snoc w t x y true hgo
  have ndx := Node_some b (w ++ [false]) (by simp; omega) t x hf hgx
  have ndy := Node_some b (w ++ [true]) (by simp; omega) t y hf hgy
  simp only [List.map_append, List.map_cons, List.map_nil] at ndx ndy
  have hfu := fit_go w t _ hf hgo
  have hbu := go_B w t _ hB hgo
  have hcx := hash_call b x hfu.1
  have hcy := hash_call b y hfu.2
  obtain ⟨hbx, hby, hd1, hd2⟩ := hbu
  simp only [Tn.sz] at hsu
  have hxl := x.ht_lt
  have hyl := y.ht_lt
  have hsub := subZ x.ht y.ht (by omega) (by omega)
  have hmx := maxZ x.ht y.ht
  have hadz := addZ (max x.ht y.ht) (by omega)
  have hadu := addU x.sz y.sz (by omega)
  have q2 : getC (Tn.node x y).api [2] = some (.int .i64 ((1 + max x.ht y.ht : Nat) : Int)) := by rw [q_h]; rfl
  have q3 : getC (Tn.node x y).api [3] = some (.int .u64 ((x.sz + y.sz : Nat) : Int)) := by rw [q_s]; rfl
  have q4 : getC (Tn.node x y).api [4] = some (.arr 32 .u8 (dI x.hash)) := by rw [q_l]; rfl
  have q5 : getC (Tn.node x y).api [5] = some (.arr 32 .u8 (dI y.hash)) := by rw [q_r]; rfl
  have hlx := len_dI x.hash
  rw [Tn.hash_len] at hlx
  have hly := len_dI y.hash
  rw [Tn.hash_len] at hly
  have tl := mSliceSl_tail (sz := 1) (u := 53) (es := wayC w :: ws.map wayC) (i := 0) (H := [.row 53 1 (wayC w :: ws.map wayC)]) (c := 1) (k := .i64) rfl (by decide) (by simp; omega)
  have hm0 := big_max (n := w.length) (by omega)
  have hm1 := big_max (n := w.length + 1) (by omega)
  have hm2 := big_max (n := ws.length + 2) (by omega)
  have hmk : (ws.length + 2) * 24 ≤ 140737488355328 := by omega
  have hwk : w.length + 1 ≤ 140737488355328 := by omega
  have hwk0 : w.length ≤ 140737488355328 := by omega
  have hlo : ¬ (x.ht : Int) - (y.ht : Int) < -1 := by omega
  have hhi : ¬ (1 : Int) < (x.ht : Int) - (y.ht : Int) := by omega
  have hne : (((1 + max x.ht y.ht : Nat) : Int) == 0) = false := by simp only [beq_eq_false_iff_ne, ne_eq]; omega
  have wa : ∀ d : Bool, wayC (w ++ [d]) = .sl 1 (w.map CV.bool ++ [.bool d]) := fun d => by simp [wayC]
  obtain ⟨hz, hhz⟩ : ∃ hz : Int, hz = ((1 + max x.ht y.ht : Nat) : Int) := ⟨_, rfl⟩
  obtain ⟨sz, hszz⟩ : ∃ sz : Int, sz = ((x.sz + y.sz : Nat) : Int) := ⟨_, rfl⟩
  obtain ⟨mz, hmz⟩ : ∃ mz : Int, mz = ((max x.ht y.ht : Nat) : Int) := ⟨_, rfl⟩
  rw [← hhz] at hadz q2 hne
  rw [← hszz] at hadu q3
  rw [← hmz] at hadz hmx
  rw [loopX_eq]
  simp (maxSteps := 1000000) [tbS, tbH, p9_l0, hl0, hl0I, nthC, v45e, nd, q2, q3, q4, q5, hne, tl, hm0, hm1, hm2, hmk, hwk, hwk0, ndx, ndy, hcx, hcy, hsub, hmx, hadz, hadu, hlo, hhi, hlx, hly, be41, bne41]
  rw [loopX_gc (s1 := tbS t l (n : Int)) (H1 := tbH (ws ++ [w ++ [false], w ++ [true]]))]
  · simp [tbS, tbH]
  · simp [tbS, tbH, wa]
  · simp [tbS, tbH]
end Go.Fm

