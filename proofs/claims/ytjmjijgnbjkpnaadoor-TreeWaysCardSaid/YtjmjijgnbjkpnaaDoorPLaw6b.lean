/-
  A part of the proof: PLaw6b.
-/
import Derived.Test.YtjmjijgnbjkpnaaDoorPLaw6
set_option linter.all false
set_option autoImplicit true
/-
  Law 6, TreeWays, as a whole.
-/
set_option maxRecDepth 100000
set_option linter.unusedVariables false
set_option linter.unusedSimpArgs false
namespace Go.Fm
open Go Go.Proofs

theorem rw_loop (b : Bool) (W T L : CV) (o : Option (List ActL)) : ∀ (rest pre : List ActL) (s : GS), actsL o = pre ++ rest → GOk s pre.length → GLaw s →
    ∃ x : Heap, (x = [] ∨ ∃ a : CV, x = [.var 48 (.c a)]) ∧ loopX 0 (p6_l0 b (callX (cfg b) An) 0) (rwS W T L s o (pre.length : Int)) [] = some (.exit 0 [.c W, .c T, .c L, .c (Tn.rpto (growS 60 rest pre.length s).1)], x)
  | [], pre, s, h, hs, hg => by
    rw [List.append_nil] at h
    refine ⟨[], .inl rfl, ?_⟩
    rw [← h]
    exact rw_end b _ W T L o s
  | a :: rest, pre, s, h, hs, hg => by
    by_cases hc : 60 ≤ pre.length ∨ 90 < a.key.length
    · refine ⟨_, .inr ⟨a.cv, rfl⟩, ?_⟩
      rw [rw_break b W T L o pre rest a h s hc]
      have : growS 60 (a :: rest) pre.length s = s := by simp [growS, hc]
      rw [this]
    · rw [rw_step b W T L o pre rest a h s hs hg hc]
      have e : growS 60 (a :: rest) pre.length s = growS 60 rest (pre.length + 1) (if a.puts = true then gput a.key (upto 100 a.val) s else gcut a.key s) := by simp only [growS]; rw [if_neg hc]
      rw [e]
      have hv : (pB (upto 100 a.val)).length ≤ 1000000 := by rw [pB_upto, List.length_take]; omega
      have ih := rw_loop b W T L o rest (pre ++ [a]) (if a.puts = true then gput a.key (upto 100 a.val) s else gcut a.key s) (by simp [h]) (by
        rw [List.length_append, List.length_singleton]
        split
        · exact hs.put (by omega) hv
        · exact hs.cut _) (by
        split
        · exact hg.put _ _
        · exact hg.cut _)
      have e2 : (((pre ++ [a]).length : Nat) : Int) = (pre.length : Int) + 1 := by simp
      rw [e2, List.length_append, List.length_singleton] at ih
      exact ih

/-- A way as the law has it. -/
def waysC : Option (List Bool) → CV
  | none => .nilsl
  | some l => .sl 1 (l.map CV.bool)
def waysL : Option (List Bool) → List Bool
  | none => []
  | some l => l
theorem csz_waysC (w : Option (List Bool)) : CV.size (waysC w) = 1 := by cases w <;> rfl
theorem cag_waysC (w : Option (List Bool)) : CV.isAgg (waysC w) = false := by cases w <;> rfl
theorem lenOf_waysC (w : Option (List Bool)) (H : Heap) : lenOf H (.c (waysC w)) = some (waysL w).length := by cases w <;> simp [waysC, waysL]
theorem mIdxS_waysC (w : Option (List Bool)) (i : Nat) (h : i < (waysL w).length) (H : Heap) : mIdxS 1 (.c (waysC w)) (.c (.int .i64 (i : Int))) H = some (.c (.ptr (.bool ((waysL w).getD i false)) [] 0), H) := by
  cases w with
  | none => simp [waysL] at h
  | some l =>
    simp only [waysC, waysL] at h ⊢
    rw [mIdxS_s, if_pos ⟨⟨by omega, by simp; omega⟩, rfl⟩, Int.toNat_natCast, nthC_map false h]
attribute [simp] csz_waysC cag_waysC lenOf_waysC
def wyS (T L : CV) (w : Option (List Bool)) (t : Option Tn) (i : Int) : List AV := [.c (waysC w), .c T, .c L, .c (Tn.rpto t), .c (waysC w), .c (.int .i64 ((waysL w).length : Int)), .c (.int .i64 i)]
/-! CF -/
theorem wy_loop (b : Bool) (cf : CallFn) (T L : CV) (w : Option (List Bool)) (hw : (waysL w).length ≤ 1000000) : ∀ (rest pre : List Bool) (t : Option Tn), waysL w = pre ++ rest →
    loopX 0 (p6_l2 b cf 0) (wyS T L w t (pre.length : Int)) [] = some (.exit 2 [.c (waysC w), .c T, .c L, .c (Tn.rpto (Tn.goo rest t))], [])
  | [], pre, t, h => by
    rw [List.append_nil] at h
    rw [← h, loopX_eq]
    have : Tn.goo [] t = t := by cases t <;> rfl
    rw [this]
    simp [wyS, p6_l2]
  | x :: rest, pre, t, h => by
    have hl : pre.length < (waysL w).length := by rw [h]; simp
    have hi := mIdxS_waysC w pre.length hl
    have hg : (waysL w).getD pre.length false = x := by rw [h]; simp [List.getD_eq_getElem?_getD]
    rw [hg] at hi
    have ha := idx_add pre.length (by omega)
    have ih := fun t => wy_loop b cf T L w hw rest (pre ++ [x]) t (by simp [h])
    have e2 : (((pre ++ [x]).length : Nat) : Int) = (pre.length : Int) + 1 := by simp
    rw [e2] at ih
    generalize pre.length = n at *
    rw [loopX_eq]
    cases t with
    | none =>
      have : Tn.goo (x :: rest) none = none := rfl
      rw [this]
      simp [wyS, p6_l2, hl, hi, Tn.rpto, be57]
    | some t =>
      cases t with
      | leaf k v =>
        have : Tn.goo (x :: rest) (some (.leaf k v)) = none := by simp [Tn.goo, Tn.go]
        rw [this]
        simp [wyS, p6_l2, hl, hi, Tn.rpto, Tn.rpt, be57, ht_leaf]
      | node l r =>
        have : Tn.goo (x :: rest) (some (.node l r)) = Tn.goo rest (some (if x = true then r else l)) := by simp [Tn.goo, Tn.go]
        rw [this]
        have hne := ht_node_ne l r
        have hp3 : (Tn.node l r).ht ≠ 0 := by have := ht_node_posN l r; omega
        have hlp := rlp_node l r
        have hrp := rrp_node l r
        have ihx := ih (some (if x = true then r else l))
        cases x with
        | true =>
          simp only [wyS, Tn.rpto, Tn.rpt, if_pos] at ihx hlp hrp
          simp [wyS, p6_l2, hl, hi, Tn.rpto, Tn.rpt, be57, hne, hp3, hlp, hrp, ha, ihx]
        | false =>
          simp only [wyS, Tn.rpto, Tn.rpt, Bool.false_eq_true, if_neg, not_false_eq_true] at ihx hlp hrp
          simp [wyS, p6_l2, hl, hi, Tn.rpto, Tn.rpt, be57, hne, hp3, hlp, hrp, ha, ihx]
theorem nodeWs_none (b : Bool) (w : Option (List Bool)) (hw : (waysL w).length ≤ 1000000) (t : Option Tn) (h : Tn.goo (waysL w) t = none) : fnX (cfg b) An 45 [.c (tC t), .c (waysC w)] [] = some (.tup [.c api0, .c (.bool false)], []) := by
  cases w with
  | none =>
    cases t with
    | none => exact Node_root0 b
    | some t => simp [Tn.goo, Tn.go, waysL] at h
  | some l => exact Node_none b l (by simp only [waysL] at hw; omega) t h
theorem nodeWs_some (b : Bool) (w : Option (List Bool)) (hw : (waysL w).length ≤ 1000000) (t u : Tn) (hf : t.fit) (h : Tn.go (waysL w) t = some u) : fnX (cfg b) An 45 [.c (tC (some t)), .c (waysC w)] [] = some (.tup [.c u.api, .c (.bool true)], []) := by
  cases w with
  | none =>
    simp only [waysL, Tn.go, Option.some.injEq] at h
    subst h
    exact Node_root b t hf
  | some l => exact Node_some b l (by simp only [waysL] at hw; omega) t u hf h
theorem rgrown_nil (b : Bool) : fnX (cfg b) An 40 [.c .nilsl] [] = some (.c .nilp, []) := by
  rw [fnX_eq, p40_eq]
  have : loopX 0 (p40_l0 b (callX (cfg b) An) 0) [.c .nilsl, .c .nilp, .c (.int .i64 0)] [] = some (.exit 0 [.c .nilp], []) := by
    rw [loopX_eq]
    simp [p40_l0]
  simp [p40, this]
set_option maxHeartbeats 4000000 in
theorem treeWays_fn (o : Option (List ActL)) (w : Option (List Bool)) : fnX (cfg true) An 6 [.c (actsC o), .c (waysC w)] [] = some (.c (.bool true), []) := by
  rw [fnX_eq, p6_eq]
  have c0 := awake05_call true
  by_cases hw : 100 < (waysL w).length
  · have hwI : (100 : Int) < ((waysL w).length : Int) := by omega
    simp [p6, c0, hw, hwI]
  have hwI : ¬ (100 : Int) < ((waysL w).length : Int) := by omega
  have gc := grow_call true 60 (by decide) o
  have hok := grown_ok 60 o
  have hlaw := grown_law 60 o
  have n60 : ((60 : Nat) : Int) = 60 := rfl
  rw [n60] at gc
  have g0 : ∀ H, callX (cfg true) An 40 [.c .nilsl] H = some (.c .nilp, H) := callX_pure (rgrown_nil true) rfl rfl (prim_none (by decide))
  obtain ⟨x, hx, e0⟩ := rw_loop true (waysC w) (tC (grown 60 o).1) (pairsC (grown 60 o).2) o (actsL o) [] (none, []) rfl ⟨by simp [Tn.szo], fun u hu => by simp at hu, by simp⟩ ⟨rfl, List.Pairwise.nil, fun u hu => by simp at hu⟩
  have eg : growS 60 (actsL o) ([] : List ActL).length (none, []) = grown 60 o := rfl
  rw [eg] at e0
  have e2 := wy_loop true (callX (cfg true) An) (tC (grown 60 o).1) (pairsC (grown 60 o).2) w (by omega) (waysL w) [] (grown 60 o).1 rfl
  have e2x : loopX 0 (p6_l2 true (callX (cfg true) An) 0) (wyS (tC (grown 60 o).1) (pairsC (grown 60 o).2) w (grown 60 o).1 (([] : List Bool).length : Int)) x = loopX 0 (p6_l2 true (callX (cfg true) An) 0) (wyS (tC (grown 60 o).1) (pairsC (grown 60 o).2) w (grown 60 o).1 (([] : List Bool).length : Int)) [] := by
    rcases hx with rfl | ⟨a, rfl⟩
    · rfl
    · exact loopX_gc (by simp [wyS]) (by simp [wyS])
  rw [← e2x] at e2
  clear e2x
  simp only [rwS, wyS, List.length_nil, Int.natCast_zero, Int.ofNat_zero, Tn.rpto] at e0 e2
  have hll : (grown 60 o).2.length = Tn.szo (grown 60 o).1 := by rw [← hlaw.leaves, leaveso_len]
  have lc := Len_call true (grown 60 o).1 (by have := hok.sz; omega)
  have hfit := hok.fit
  have nn := nodeWs_none true w (by omega) (grown 60 o).1
  have ns := nodeWs_some true w (by omega)
  generalize hG : grown 60 o = G at *
  obtain ⟨t, l⟩ := G
  simp only at *
  have sn := fun (u : Tn) (H : Heap) => sameNode_call true (some u.key) (some u.key) u.val u.val rfl rfl (u.ht : Int) (u.sz : Int) (dI u.lh) (dI u.rh) H
  have sn0 := fun (H : Heap) => sameNode_call true none none none none rfl rfl 0 0 (List.replicate 32 0) (List.replicate 32 0) H
  cases hgo : Tn.goo (waysL w) t with
  | none =>
    have nn1 : ∀ H, callX (cfg true) An 45 [.c (tC t), .c (waysC w)] H = _ := callX_pure (nn hgo) rfl rfl (prim_none (by decide))
    rw [hgo] at e2
    simp only [api0] at nn1
    simp only [ndC, pV, List.reduceReplicate] at sn0
    have hle : ((l.length : Int) == (Tn.szo t : Int)) = true := by simp [hll]
    simp only [Tn.rpto] at e2
    rcases hx with rfl | ⟨a, rfl⟩
    · simp [p6, c0, hw, hwI, gc, g0, e0, e2, nn1, sn0, lc, hll, be57]
    · simp [p6, c0, hw, hwI, gc, g0, e0, e2, nn1, sn0, lc, hll, be57]
  | some u =>
    cases t with
    | none => simp [Tn.goo] at hgo
    | some t =>
      simp only [Tn.goo] at hgo
      have ft := hfit t rfl
      have fu := fit_go (waysL w) t u ft hgo
      have nn1 : ∀ H, callX (cfg true) An 45 [.c (tC (some t)), .c (waysC w)] H = _ := callX_pure (ns t u ft hgo) rfl rfl (prim_none (by decide))
      have ra := rapi_call u fu
      have snu := sn u
      rw [← api_nd] at snu
      rw [show Tn.goo (waysL w) (some t) = some u from hgo] at e2
      simp only [Tn.rpto, Tn.rpt] at e0 e2 ra
      rcases hx with rfl | ⟨a, rfl⟩
      · simp [p6, c0, hw, hwI, gc, g0, e0, e2, nn1, snu, ra, be57]
      · simp [p6, c0, hw, hwI, gc, g0, e0, e2, nn1, snu, ra, be57]
end Go.Fm

