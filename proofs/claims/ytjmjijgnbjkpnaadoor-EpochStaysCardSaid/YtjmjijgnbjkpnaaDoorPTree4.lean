/-
  A part of the proof: PTree4.
-/
import Derived.Test.YtjmjijgnbjkpnaaDoorPTree3
set_option linter.all false
set_option autoImplicit true
/-
  tree: put and cut.
-/
set_option maxRecDepth 100000
set_option linter.unusedVariables false
set_option linter.unusedSimpArgs false
namespace Go.Fm
open Go Go.Proofs

namespace Tn
def put (key : List UInt8) (v : Option (List UInt8)) : Tn → Tn
  | leaf k w => if Op.bytesLess key k = true then .node (.leaf key v) (.leaf k w) else if key = k then .leaf key v else .node (.leaf k w) (.leaf key v)
  | node l r => if Op.bytesLess key r.least = true then bal (put key v l) r else bal l (put key v r)
def puto (key : List UInt8) (v : Option (List UInt8)) : Option Tn → Tn
  | none => .leaf key v
  | some t => put key v t
theorem fit_balL {l r : Tn} (hl : l.fit) (hr : r.fit) : (balL l r).fit := by
  unfold balL
  split
  · split <;> simp_all [fit]
  · simp_all [fit]
  · simp_all [fit]
theorem fit_balR {l r : Tn} (hl : l.fit) (hr : r.fit) : (balR l r).fit := by
  unfold balR
  split
  · split <;> simp_all [fit]
  · simp_all [fit]
  · simp_all [fit]
theorem fit_bal {l r : Tn} (hl : l.fit) (hr : r.fit) : (bal l r).fit := by
  unfold bal
  split
  · exact fit_balL hl hr
  · split
    · exact fit_balR hl hr
    · exact ⟨hl, hr⟩
theorem sz_put (key : List UInt8) (v : Option (List UInt8)) : ∀ t : Tn, (put key v t).sz ≤ t.sz + 1
  | leaf k w => by
    unfold put
    split
    · simp [sz]
    · split <;> simp [sz]
  | node l r => by
    have h1 := sz_put key v l
    have h2 := sz_put key v r
    unfold put
    split
    · rw [sz_bal]; simp only [sz]; omega
    · rw [sz_bal]; simp only [sz]; omega
theorem fit_put {key : List UInt8} {v : Option (List UInt8)} (hk : key.length ≤ 1000000) (hv : (pB v).length ≤ 1000000) : ∀ t : Tn, t.fit → (put key v t).fit
  | leaf k w, h => by
    unfold put
    split
    · exact ⟨⟨hk, hv⟩, h⟩
    · split
      · exact ⟨hk, hv⟩
      · exact ⟨h, hk, hv⟩
  | node l r, h => by
    unfold put
    split
    · exact fit_bal (fit_put hk hv l h.1) h.2
    · exact fit_bal h.1 (fit_put hk hv r h.2)
end Tn
theorem cmpZ_gt' (x y : List UInt8) : decide (0 < cmpZ x y) = (!Op.bytesLess x y && !(x == y)) := cmpZ_gt x y
theorem bal_call (b : Bool) (l r : Tn) (hs : l.sz + r.sz ≤ 1000000000000) (H : Heap) : callX (cfg b) An 124 [.c l.pt, .c r.pt] H = some (.c (Tn.bal l r).pt, H) := callX_pure (bal_fn b l r hs) rfl rfl (prim_none (by decide)) H
theorem key_leaf (k : List UInt8) (w : Option (List UInt8)) : (Tn.leaf k w).key = k := rfl
theorem key_node (l r : Tn) : (Tn.node l r).key = r.least := rfl
theorem ht_leaf (k : List UInt8) (w : Option (List UInt8)) : (Tn.leaf k w).ht = 0 := rfl
theorem lp_node (l r : Tn) : (Tn.node l r).lp = l.pt := rfl
theorem rp_node (l r : Tn) : (Tn.node l r).rp = r.pt := rfl
theorem lp_leaf (k : List UInt8) (w : Option (List UInt8)) : (Tn.leaf k w).lp = .nilp := rfl
theorem rp_leaf (k : List UInt8) (w : Option (List UInt8)) : (Tn.leaf k w).rp = .nilp := rfl
theorem ht_node_pos (l r : Tn) : (0 : Int) < ((Tn.node l r).ht : Int) := by simp [Tn.ht]; omega
theorem ht_node_posN (l r : Tn) : 0 < (Tn.node l r).ht := by simp only [Tn.ht]; omega
theorem lenOf_pV (H : Heap) (v : Option (List UInt8)) : lenOf H (.c (pV v)) = some (pB v).length := by cases v <;> simp [pV, pB]
attribute [simp] lenOf_pV
theorem ht_node_ne (l r : Tn) : ((((Tn.node l r).ht : Nat) : Int) == 0) = false := by
  have := ht_node_pos l r
  simp only [beq_eq_false_iff_ne, ne_eq]; omega

set_option maxHeartbeats 8000000 in
theorem put_fn (b : Bool) (key : List UInt8) (v : Option (List UInt8)) (hk : key.length ≤ 1000000) (hv : (pB v).length ≤ 1000000) : ∀ t : Tn, t.sz ≤ 100000000000 →
    fnX (cfg b) An 91 [.c t.pt, .c (.sl 1 (bytesAV key)), .c (pV v)] [] = some (.c (Tn.put key v t).pt, [])
  | .leaf k w, hs => by
    rw [fnX_eq, p91_eq]
    have c1 := compare_call b key k
    have lf := leaf_call b key v hk hv
    by_cases h1 : Op.bytesLess key k = true
    · have e : Tn.put key v (.leaf k w) = .node (.leaf key v) (.leaf k w) := by simp [Tn.put, h1]
      have i1 := inner_call b (.leaf key v) (.leaf k w) (by simp [Tn.sz])
      rw [e]
      simp only [Tn.pt] at lf i1 ⊢
      simp [p91, be138, c1, key_leaf, ht_leaf, cmpZ_lt, cmpZ_gt', h1, lf, i1]
    · have h1' : Op.bytesLess key k = false := by simpa using h1
      by_cases h2 : key = k
      · have e : Tn.put key v (.leaf k w) = .leaf key v := by simp [Tn.put, h1', h2, bytesLess_irr]
        rw [e]
        have h3 : (key == k) = true := by simpa using h2
        simp only [Tn.pt] at lf ⊢
        simp [p91, be138, c1, key_leaf, ht_leaf, cmpZ_lt, cmpZ_gt', h1', h3, lf]
      · have e : Tn.put key v (.leaf k w) = .node (.leaf k w) (.leaf key v) := by simp [Tn.put, h1', h2]
        have i1 := inner_call b (.leaf k w) (.leaf key v) (by simp [Tn.sz])
        rw [e]
        have h3 : (key == k) = false := by simpa using h2
        simp only [Tn.pt] at lf i1 ⊢
        simp [p91, be138, c1, key_leaf, ht_leaf, cmpZ_lt, cmpZ_gt', h1', h3, lf, i1]
  | .node l r, hs => by
    simp only [Tn.sz] at hs
    have ihl : ∀ H, callX (cfg b) An 91 [.c l.pt, .c (.sl 1 (bytesAV key)), .c (pV v)] H = some (.c (Tn.put key v l).pt, H) := callX_pure (put_fn b key v hk hv l (by omega)) rfl rfl (prim_none (by decide))
    have ihr : ∀ H, callX (cfg b) An 91 [.c r.pt, .c (.sl 1 (bytesAV key)), .c (pV v)] H = some (.c (Tn.put key v r).pt, H) := callX_pure (put_fn b key v hk hv r (by omega)) rfl rfl (prim_none (by decide))
    rw [fnX_eq, p91_eq]
    have c1 := compare_call b key r.least
    have hp := ht_node_posN l r
    have s1 := Tn.sz_put key v l
    have s2 := Tn.sz_put key v r
    by_cases h1 : Op.bytesLess key r.least = true
    · have e : Tn.put key v (.node l r) = .bal (Tn.put key v l) r := by simp [Tn.put, h1]
      have i1 := bal_call b (Tn.put key v l) r (by omega)
      rw [e]
      have hlp := lp_node l r
      have hrp := rp_node l r
      simp only [Tn.pt] at ihl i1 hlp hrp ⊢
      simp [p91, be138, c1, key_node, hp, hlp, hrp, cmpZ_lt, cmpZ_gt', h1, ihl, i1]
    · have h1' : Op.bytesLess key r.least = false := by simpa using h1
      have e : Tn.put key v (.node l r) = .bal l (Tn.put key v r) := by simp [Tn.put, h1']
      have i1 := bal_call b l (Tn.put key v r) (by omega)
      rw [e]
      have hlp := lp_node l r
      have hrp := rp_node l r
      simp only [Tn.pt] at ihr i1 hlp hrp ⊢
      simp [p91, be138, c1, key_node, hp, hlp, hrp, cmpZ_lt, cmpZ_gt', h1', ihr, i1]
theorem put_nil (b : Bool) (key : List UInt8) (v : Option (List UInt8)) (hk : key.length ≤ 1000000) (hv : (pB v).length ≤ 1000000) :
    fnX (cfg b) An 91 [.c .nilp, .c (.sl 1 (bytesAV key)), .c (pV v)] [] = some (.c (Tn.leaf key v).pt, []) := by
  rw [fnX_eq, p91_eq]
  have lf := leaf_call b key v hk hv
  simp only [Tn.pt] at lf ⊢
  simp [p91, be138, lf]
theorem put_call (b : Bool) (key : List UInt8) (v : Option (List UInt8)) (hk : key.length ≤ 1000000) (hv : (pB v).length ≤ 1000000) (t : Option Tn) (ht : ∀ u, t = some u → u.sz ≤ 100000000000) (H : Heap) :
    callX (cfg b) An 91 [.c (Tn.pto t), .c (.sl 1 (bytesAV key)), .c (pV v)] H = some (.c (Tn.puto key v t).pt, H) := by
  cases t with
  | none => exact callX_pure (put_nil b key v hk hv) rfl rfl (prim_none (by decide)) H
  | some u => exact callX_pure (put_fn b key v hk hv u (ht u rfl)) rfl rfl (prim_none (by decide)) H

/-! ### Trees -/
/-- A tree as the package hands it out. -/
def tC (t : Option Tn) : CV := .ptr (.agg [Tn.pto t]) [] 0
theorem csz_pto (t : Option Tn) : CV.size (Tn.pto t) = 1 := by cases t <;> rfl
theorem cag_pto (t : Option Tn) : CV.isAgg (Tn.pto t) = false := by cases t <;> rfl
attribute [simp] csz_pto cag_pto
theorem Put_fn (b : Bool) (key : List UInt8) (v : Option (List UInt8)) (h1 : key ≠ []) (h2 : key.length ≤ 96) (hv : (pB v).length ≤ 256) (t : Option Tn) (ht : ∀ u, t = some u → u.sz ≤ 100000000000) :
    fnX (cfg b) An 36 [.c (tC t), .c (.sl 1 (bytesAV key)), .c (pV v)] [] = some (.tup [.c (tC (some (Tn.puto key v t))), .c (.int .i64 0)], []) := by
  rw [fnX_eq, p36_eq]
  have pc := put_call b key v (by omega) (by omega) t ht
  have l1 : ((key.length : Int) == 0) = false := by
    have := List.length_pos_iff.2 h1
    simp only [beq_eq_false_iff_ne, ne_eq]; omega
  have l2 : ¬ (96 : Int) < (key.length : Int) := by omega
  have l3 : ¬ (256 : Int) < ((pB v).length : Int) := by omega
  simp only [tC]
  generalize Tn.puto key v t = u at *
  have hu : CV.size u.pt = 1 := rfl
  have hu2 : CV.isAgg u.pt = false := rfl
  have hp : Tn.pto (some u) = u.pt := rfl
  simp [p36, be28, pc, l1, l2, l3, frz140, hu, hu2, hp]
end Go.Fm

