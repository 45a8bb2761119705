/-
  A part of the proof: PTree5.
-/
import Derived.Test.YtjmjijgnbjkpnaaDoorPTree4
set_option linter.all false
set_option autoImplicit true
/-
  tree: cut, Get, Len, Node, copied, Root.
-/
set_option maxRecDepth 100000
set_option linter.unusedVariables false
set_option linter.unusedSimpArgs false
namespace Go.Fm
open Go Go.Proofs

theorem BA_toList (bs : List UInt8) : (⟨bs.toArray⟩ : ByteArray).toList = bs := by
  rw [ByteArray.toList_eq] 
theorem equal_fn (b : Bool) (x y : List UInt8) : fnX (cfg b) An 102 [.c (.sl 1 (bytesAV x)), .c (.sl 1 (bytesAV y))] [] = some (.c (.bool (x == y)), []) := by
  rw [fnX_eq, p102_eq]
  simp [p102, BA_toList]
theorem equal_call (b : Bool) (x y : List UInt8) (H : Heap) : callX (cfg b) An 102 [.c (.sl 1 (bytesAV x)), .c (.sl 1 (bytesAV y))] H = some (.c (.bool (x == y)), H) := callX_pure (equal_fn b x y) rfl rfl (prim_none (by decide)) H

namespace Tn
def cutR (n : Tn) (x : Option Tn × Bool) (other : Tn) (f : Tn → Tn) : Option Tn × Bool := match x with
  | (_, false) => (some n, false)
  | (none, true) => (some other, true)
  | (some l, true) => (some (f l), true)
def cut (key : List UInt8) : Tn → Option Tn × Bool
  | leaf k w => if k = key then (none, true) else (some (leaf k w), false)
  | node l r => if Op.bytesLess key r.least = true then cutR (.node l r) (cut key l) r (fun l' => bal l' r) else cutR (.node l r) (cut key r) l (fun r' => bal l r')
def cuto (key : List UInt8) : Option Tn → Option Tn × Bool
  | none => (none, false)
  | some t => cut key t
theorem sz_cut (key : List UInt8) : ∀ t u : Tn, (cut key t).1 = some u → u.sz ≤ t.sz
  | leaf k w, u, h => by
    unfold cut at h
    split at h
    · simp at h
    · simp only [Option.some.injEq] at h; subst h; exact Nat.le_refl _
  | node l r, u, h => by
    unfold cut at h
    split at h
    · have ih := sz_cut key l
      unfold cutR at h
      split at h
      · simp only [Option.some.injEq] at h; subst h; exact Nat.le_refl _
      · simp only [Option.some.injEq] at h; subst h; simp [sz]
      · rename_i l' hl
        simp only [Option.some.injEq] at h; subst h
        have := ih l' (by rw [hl])
        rw [sz_bal]; simp only [sz]; omega
    · have ih := sz_cut key r
      unfold cutR at h
      split at h
      · simp only [Option.some.injEq] at h; subst h; exact Nat.le_refl _
      · simp only [Option.some.injEq] at h; subst h; simp [sz]
      · rename_i l' hl
        simp only [Option.some.injEq] at h; subst h
        have := ih l' (by rw [hl])
        rw [sz_bal]; simp only [sz]; omega
theorem fit_cut (key : List UInt8) : ∀ t u : Tn, t.fit → (cut key t).1 = some u → u.fit
  | leaf k w, u, hf, h => by
    unfold cut at h
    split at h
    · simp at h
    · simp only [Option.some.injEq] at h; subst h; exact hf
  | node l r, u, hf, h => by
    unfold cut at h
    split at h
    · have ih := fit_cut key l
      unfold cutR at h
      split at h
      · simp only [Option.some.injEq] at h; subst h; exact hf
      · simp only [Option.some.injEq] at h; subst h; exact hf.2
      · rename_i l' hl
        simp only [Option.some.injEq] at h; subst h
        exact fit_bal (ih l' hf.1 (by rw [hl])) hf.2
    · have ih := fit_cut key r
      unfold cutR at h
      split at h
      · simp only [Option.some.injEq] at h; subst h; exact hf
      · simp only [Option.some.injEq] at h; subst h; exact hf.1
      · rename_i l' hl
        simp only [Option.some.injEq] at h; subst h
        exact fit_bal hf.1 (ih l' hf.2 (by rw [hl]))
end Tn
set_option maxHeartbeats 8000000 in
theorem cut_fn (b : Bool) (key : List UInt8) : ∀ t : Tn, t.sz ≤ 100000000000 →
    fnX (cfg b) An 100 [.c t.pt, .c (.sl 1 (bytesAV key))] [] = some (.tup [.c (Tn.pto (t.cut key).1), .c (.bool (t.cut key).2)], [])
  | .leaf k w, hs => by
    rw [fnX_eq, p100_eq]
    have c1 := equal_call b k key
    by_cases h1 : k = key
    · have e : (Tn.leaf k w).cut key = (none, true) := by simp [Tn.cut, h1]
      have h3 : (k == key) = true := by simpa using h1
      rw [e]
      simp only [Tn.pt, Tn.pto]
      simp [p100, be138, c1, key_leaf, ht_leaf, h3]
    · have e : (Tn.leaf k w).cut key = (some (.leaf k w), false) := by simp [Tn.cut, h1]
      have h3 : (k == key) = false := by simpa using h1
      rw [e]
      simp only [Tn.pt, Tn.pto]
      simp [p100, be138, c1, key_leaf, ht_leaf, h3]
  | .node l r, hs => by
    simp only [Tn.sz] at hs
    have ihl : ∀ H, callX (cfg b) An 100 [.c l.pt, .c (.sl 1 (bytesAV key))] H = some (.tup [.c (Tn.pto (l.cut key).1), .c (.bool (l.cut key).2)], H) := callX_pure (cut_fn b key l (by omega)) rfl rfl (prim_none (by decide))
    have ihr : ∀ H, callX (cfg b) An 100 [.c r.pt, .c (.sl 1 (bytesAV key))] H = some (.tup [.c (Tn.pto (r.cut key).1), .c (.bool (r.cut key).2)], H) := callX_pure (cut_fn b key r (by omega)) rfl rfl (prim_none (by decide))
    rw [fnX_eq, p100_eq]
    have c1 := compare_call b key r.least
    have hne := ht_node_ne l r
    have hlp := lp_node l r
    have hrp := rp_node l r
    have s1 := Tn.sz_cut key l
    have s2 := Tn.sz_cut key r
    by_cases h1 : Op.bytesLess key r.least = true
    · have e : Tn.cut key (.node l r) = Tn.cutR (.node l r) (l.cut key) r (fun l' => Tn.bal l' r) := by simp [Tn.cut, h1]
      rw [e]
      cases hc : l.cut key with
      | mk o w =>
        rw [hc] at ihl s1
        simp only at ihl s1
        cases w with
        | false =>
          simp only [Tn.cutR, Tn.pto]
          simp only [Tn.pt] at ihl hlp hrp ⊢
          simp [p100, be138, c1, key_node, hne, hlp, hrp, cmpZ_lt, h1, ihl]
        | true =>
          cases o with
          | none =>
            simp only [Tn.cutR, Tn.pto] at ihl ⊢
            simp only [Tn.pt] at ihl hlp hrp ⊢
            simp [p100, be138, c1, key_node, hne, hlp, hrp, cmpZ_lt, h1, ihl]
          | some l' =>
            have i1 := bal_call b l' r (by have := s1 l' rfl; omega)
            simp only [Tn.cutR, Tn.pto] at ihl ⊢
            simp only [Tn.pt] at ihl hlp hrp i1 ⊢
            simp [p100, be138, c1, key_node, hne, hlp, hrp, cmpZ_lt, h1, ihl, i1]
    · have h1' : Op.bytesLess key r.least = false := by simpa using h1
      have e : Tn.cut key (.node l r) = Tn.cutR (.node l r) (r.cut key) l (fun r' => Tn.bal l r') := by simp [Tn.cut, h1']
      rw [e]
      cases hc : r.cut key with
      | mk o w =>
        rw [hc] at ihr s2
        simp only at ihr s2
        cases w with
        | false =>
          simp only [Tn.cutR, Tn.pto]
          simp only [Tn.pt] at ihr hlp hrp ⊢
          simp [p100, be138, c1, key_node, hne, hlp, hrp, cmpZ_lt, h1', ihr]
        | true =>
          cases o with
          | none =>
            simp only [Tn.cutR, Tn.pto] at ihr ⊢
            simp only [Tn.pt] at ihr hlp hrp ⊢
            simp [p100, be138, c1, key_node, hne, hlp, hrp, cmpZ_lt, h1', ihr]
          | some r' =>
            have i1 := bal_call b l r' (by have := s2 r' rfl; omega)
            simp only [Tn.cutR, Tn.pto] at ihr ⊢
            simp only [Tn.pt] at ihr hlp hrp i1 ⊢
            simp [p100, be138, c1, key_node, hne, hlp, hrp, cmpZ_lt, h1', ihr, i1]
theorem cut_nil (b : Bool) (key : List UInt8) : fnX (cfg b) An 100 [.c .nilp, .c (.sl 1 (bytesAV key))] [] = some (.tup [.c .nilp, .c (.bool false)], []) := by
  rw [fnX_eq, p100_eq]
  simp [p100, be138]
theorem cut_call (b : Bool) (key : List UInt8) (t : Option Tn) (ht : ∀ u, t = some u → u.sz ≤ 100000000000) (H : Heap) :
    callX (cfg b) An 100 [.c (Tn.pto t), .c (.sl 1 (bytesAV key))] H = some (.tup [.c (Tn.pto (Tn.cuto key t).1), .c (.bool (Tn.cuto key t).2)], H) := by
  cases t with
  | none => exact callX_pure (cut_nil b key) rfl rfl (prim_none (by decide)) H
  | some u => exact callX_pure (cut_fn b key u (ht u rfl)) rfl rfl (prim_none (by decide)) H
theorem Cut_fn (b : Bool) (key : List UInt8) (t : Option Tn) (ht : ∀ u, t = some u → u.sz ≤ 100000000000) :
    fnX (cfg b) An 61 [.c (tC t), .c (.sl 1 (bytesAV key))] [] = some (.tup [.c (tC (Tn.cuto key t).1), .c (.bool (Tn.cuto key t).2)], []) := by
  rw [fnX_eq, p61_eq]
  have cc := cut_call b key t ht
  simp only [tC]
  generalize Tn.cuto key t = u at *
  obtain ⟨o, w⟩ := u
  simp only at cc ⊢
  simp [p61, be28, cc, frz140]

/-! ### Len, Root -/
def Tn.szo : Option Tn → Nat
  | none => 0
  | some t => t.sz
def Tn.hasho : Option Tn → List UInt8
  | none => shaW []
  | some t => t.hash
theorem Len_fn (b : Bool) (t : Option Tn) (ht : Tn.szo t ≤ 100000000000) : fnX (cfg b) An 47 [.c (tC t)] [] = some (.c (.int .i64 (Tn.szo t : Int)), []) := by
  rw [fnX_eq, p47_eq]
  cases t with
  | none => simp [p47, tC, Tn.pto, be28, be138, Tn.szo]
  | some u =>
    have hw : IntKind.i64.wrap (u.sz : Int) = (u.sz : Int) := i64_small (by omega) (by simp only [Tn.szo] at ht; omega)
    simp [p47, tC, Tn.pto, Tn.pt, be28, be138, Tn.szo, hw]
theorem Len_nil (b : Bool) : fnX (cfg b) An 47 [.c .nilp] [] = some (.c (.int .i64 0), []) := by
  rw [fnX_eq, p47_eq]
  simp [p47, be28]
theorem empty_call (b : Bool) (H : Heap) : callX (cfg b) An 62 [] H = some (.c (.arr 32 .u8 (dI (shaW []))), H) := callX_pure (empty_fn b) rfl rfl (prim_none (by decide)) H
theorem Root_fn (b : Bool) (t : Option Tn) : fnX (cfg b) An 37 [.c (tC t)] [] = some (.c (.arr 32 .u8 (dI (Tn.hasho t))), []) := by
  cases t with
  | none => exact root_fn b
  | some u =>
    rw [fnX_eq, p37_eq]
    have hl := len_dI u.hash
    rw [Tn.hash_len] at hl
    simp [p37, tC, Tn.pto, Tn.pt, be28, be138, Tn.hasho, hl]
theorem Root_nil (b : Bool) : fnX (cfg b) An 37 [.c .nilp] [] = some (.c (.arr 32 .u8 (dI (shaW []))), []) := by
  rw [fnX_eq, p37_eq]
  have he := empty_call b
  have hl : (dI (shaW [])).length = 32 := by simp [dI, shaW_len]
  generalize shaW [] = w at *
  simp [p37, be28, he, hl]

/-! ### copied -/
theorem copied_fn (b : Bool) (k : List UInt8) (v : Option (List UInt8)) (hk : k.length ≤ 1000000) (hv : (pB v).length ≤ 1000000) (h s : Int) (x y : List UInt8) (hx : x.length = 32) (hy : y.length = 32) :
    fnX (cfg b) An 95 [.c (.agg [.sl 1 (bytesAV k), pV v, .int .i64 h, .int .u64 s, .arr 32 .u8 (dI x), .arr 32 .u8 (dI y)])] [] = some (.c (.agg [.sl 1 (bytesAV k), pV v, .int .i64 h, .int .u64 s, .arr 32 .u8 (dI x), .arr 32 .u8 (dI y)]), []) := by
  rw [fnX_eq, p95_eq]
  have c1 := clone_sl b k (by omega)
  have c2 := clone_call b v (by omega)
  simp [p95, c1, c2]
end Go.Fm

