/-
  A part of the proof: PKt.
-/
import Derived.Test.YtjmjijgnbjkpnaaDoorPKv
import Derived.Test.YtjmjijgnbjkpnaaDoorDMisc2
import Derived.Test.YtjmjijgnbjkpnaaDoorPRNode
set_option linter.all false
set_option autoImplicit true
/-
  Law 19, KvTree.
-/
set_option maxRecDepth 100000
set_option linter.unusedVariables false
set_option linter.unusedSimpArgs false
namespace Go.Fm
open Go Go.Proofs

def ktS (l : List Pr) (o : Option (List ActL)) (i : Int) : List AV := [.ov 0 [] 0, .c (pairsC l), .c (actsC o), .c (.int .i64 ((actsL o).length : Int)), .c (.int .i64 i)]
set_option maxHeartbeats 4000000 in
theorem kt_step (b : Bool) (o : Option (List ActL)) (pre rest : List ActL) (a : ActL) (h : actsL o = pre ++ a :: rest) (s : Option (List Pr)) (hs : KvOk s pre.length) (hc : ¬ (60 < pre.length ∨ 90 < a.key.length)) :
    loopX 0 (p19_l0 b (callX (cfg b) An) 0) (ktS (kvL s) o (pre.length : Int)) (kvS s) = loopX 0 (p19_l0 b (callX (cfg b) An) 0) (ktS (putP a.key (upto 100 a.val) (kvL s)) o ((pre.length : Int) + 1)) (kvH (putP a.key (upto 100 a.val) (kvL s))) := by
  have hl : pre.length < (actsL o).length := by rw [h]; simp
  have hi := mIdxS_acts o pre.length hl
  have hg : (actsL o).getD pre.length default = a := by rw [h]; simp [List.getD_eq_getElem?_getD]
  rw [hg] at hi
  have ha := idx_add pre.length (by omega)
  have h1 : ¬ 60 < pre.length := by omega
  have h1I : ¬ (60 : Int) < (pre.length : Int) := by omega
  have h2 : ¬ 90 < a.key.length := by omega
  have h2I : ¬ (90 : Int) < (a.key.length : Int) := by omega
  have kc := key_call b a
  have sl := slice_upto 100 a.val
  have hv : (pB (upto 100 a.val)).length ≤ 100 := by rw [pB_upto, List.length_take]; omega
  have hlen := hs.len
  have hk0 : 0 < a.key.length := List.length_pos_iff.2 a.key_ne
  have pp := putPair_call b (kvL s) a.key (upto 100 a.val) (by omega)
  have pu := kvput_any b hs (by omega) (k := a.key) (v := upto 100 a.val) hk0 (by omega) (by omega)
  generalize pre.length = n at *
  obtain ⟨m, hm⟩ : ∃ m : Int, m = ((min 100 (pB a.val).length : Nat) : Int) := ⟨_, rfl⟩
  have mz' : (if (100 : Int) < ((pB a.val).length : Int) then (100 : Int) else ((pB a.val).length : Int)) = m := by rw [hm]; split <;> omega
  rw [← hm] at sl
  rw [loopX_eq]
  rcases pu with pu | ⟨l, rfl, pu⟩
  · cases s with
    | none =>
      simp only [kvS, kvE, kvH, kvL, ktS] at pu pp ⊢
      simp [p19_l0, hl, hi, kc, mz', sl, h1, h1I, h2I, pp, v76, pu, ha, frz177]
      exact loopX_gc (by simp) (by simp)
    | some l =>
      simp only [kvS, kvE, kvH, kvL, ktS] at pu pp ⊢
      simp [p19_l0, hl, hi, kc, mz', sl, h1, h1I, h2I, pp, v76, pu, ha, frz177]
      exact loopX_gc (by simp) (by simp)
  · simp only [kvS, kvE, kvH, kvD, kvL, ktS] at pu pp ⊢
    simp [p19_l0, hl, hi, kc, mz', sl, h1, h1I, h2I, pp, v76, pu, ha, frz177]
    exact loopX_gc (by simp) (by simp)
theorem kt_break (b : Bool) (o : Option (List ActL)) (pre rest : List ActL) (a : ActL) (h : actsL o = pre ++ a :: rest) (s : Option (List Pr)) (hc : 60 < pre.length ∨ 90 < a.key.length) :
    loopX 0 (p19_l0 b (callX (cfg b) An) 0) (ktS (kvL s) o (pre.length : Int)) (kvS s) = some (.exit 0 [.ov 0 [] 0, .c (pairsC (kvL s))], kvS s ++ [.var 48 (.c a.cv)]) := by
  have hl : pre.length < (actsL o).length := by rw [h]; simp
  have hi := mIdxS_acts o pre.length hl
  have hg : (actsL o).getD pre.length default = a := by rw [h]; simp [List.getD_eq_getElem?_getD]
  rw [hg] at hi
  have kc := key_call b a
  generalize pre.length = n at *
  rw [loopX_eq]
  by_cases h1 : 60 < n
  · have h1I : (60 : Int) < (n : Int) := by omega
    cases s with
    | none => simp [kvS, kvE, kvL, ktS, p19_l0, hl, hi, kc, h1, h1I]
    | some l => simp [kvS, kvH, kvL, ktS, p19_l0, hl, hi, kc, h1, h1I]
  · have h1I : ¬ (60 : Int) < (n : Int) := by omega
    have h2I : (90 : Int) < (a.key.length : Int) := by omega
    cases s with
    | none => simp [kvS, kvE, kvL, ktS, p19_l0, hl, hi, kc, h1, h1I, h2I]
    | some l => simp [kvS, kvH, kvL, ktS, p19_l0, hl, hi, kc, h1, h1I, h2I]
theorem kt_loop (b : Bool) (o : Option (List ActL)) : ∀ (rest pre : List ActL) (s : Option (List Pr)), actsL o = pre ++ rest → KvOk s pre.length → pre.length ≤ 61 →
    ∃ (s' : Option (List Pr)) (x : Heap), KvOk s' 61 ∧ (x = [] ∨ ∃ a : CV, x = [.var 48 (.c a)]) ∧ loopX 0 (p19_l0 b (callX (cfg b) An) 0) (ktS (kvL s) o (pre.length : Int)) (kvS s) = some (.exit 0 [.ov 0 [] 0, .c (pairsC (kvL s'))], kvS s' ++ x)
  | [], pre, s, h, hs, hp => by
    rw [List.append_nil] at h
    refine ⟨s, [], ⟨by have := hs.len; omega, hs.rise, hs.ok⟩, .inl rfl, ?_⟩
    rw [loopX_eq, ← h]
    cases s with
    | none => simp [kvS, kvE, kvL, ktS, p19_l0]
    | some l => simp [kvS, kvH, kvL, ktS, p19_l0]
  | a :: rest, pre, s, h, hs, hp => by
    by_cases hc : 60 < pre.length ∨ 90 < a.key.length
    · exact ⟨s, _, ⟨by have := hs.len; omega, hs.rise, hs.ok⟩, .inr ⟨a.cv, rfl⟩, kt_break b o pre rest a h s hc⟩
    · rw [kt_step b o pre rest a h s hs hc]
      have hv : (pB (upto 100 a.val)).length ≤ 100 := by rw [pB_upto, List.length_take]; omega
      have ih := kt_loop b o rest (pre ++ [a]) (some (putP a.key (upto 100 a.val) (kvL s))) (by simp [h]) (by
        rw [List.length_append, List.length_singleton]
        exact hs.put (List.length_pos_iff.2 a.key_ne) (by omega) (by omega)) (by simp; omega)
      have e2 : (((pre ++ [a]).length : Nat) : Int) = (pre.length : Int) + 1 := by simp
      rw [e2] at ih
      exact ih
end Go.Fm

/-
  Law 19, KvTree, as a whole.
-/
set_option maxRecDepth 100000
set_option linter.unusedVariables false
set_option linter.unusedSimpArgs false
namespace Go.Fm
open Go Go.Proofs

def gwR (l : List Pr) (t : Option Tn) (i : Int) : List AV := [.c (pairsC l), .c (Tn.rpto t), .c (.int .i64 i)]
/-! CF -/
set_option maxHeartbeats 4000000 in
theorem rgrow_loop (b : Bool) (l : List Pr) (hm : l.length ≤ 1000000) : ∀ (rest pre : List Pr) (t : Option Tn), l = pre ++ rest → Tn.szo t ≤ pre.length →
    loopX 0 (p40_l0 b (callX (cfg b) An) 0) (gwR l t (pre.length : Int)) [] = some (.exit 0 [.c (Tn.rpto (treeOf rest t))], [])
  | [], pre, t, h, hs => by
    rw [List.append_nil] at h
    rw [loopX_eq]
    have hl := fun H => lenOf_pairsC l H
    simp only [gwR, h] at hl ⊢
    simp [p40_l0, hl, treeOf]
  | p :: rest, pre, t, h, hs => by
    have hl : pre.length < l.length := by subst h; simp
    have hi := mIdxS_pairsC l pre.length hl
    have hg : l.getD pre.length default = p := by rw [h]; exact getD_app pre rest p
    rw [hg] at hi
    have hI : (pre.length : Int) < (l.length : Int) := by omega
    have ha := idx_add pre.length (by omega)
    have hL := fun H => lenOf_pairsC l H
    have pc := rput_call b p.1 p.2 t (fun u hu => by subst hu; simp only [Tn.szo] at hs; omega)
    have ih := rgrow_loop b l hm rest (pre ++ [p]) (some (Tn.puto p.1 p.2 t)) (by rw [h]; simp) (by have := szo_puto p.1 p.2 t; simp; omega)
    have e2 : (((pre ++ [p]).length : Nat) : Int) = (pre.length : Int) + 1 := by simp
    rw [e2] at ih
    have ht : treeOf (p :: rest) t = treeOf rest (some (Tn.puto p.1 p.2 t)) := rfl
    rw [ht, ← ih, loopX_eq]
    have hr : Tn.rpto (some (Tn.puto p.1 p.2 t)) = (Tn.puto p.1 p.2 t).rpt := rfl
    simp only [gwR, hr]
    generalize pre.length = n at *
    simp [p40_l0, hL, hl, hI, hi, ha, pc]
theorem rgrow_fn (b : Bool) (l : List Pr) (hm : l.length ≤ 1000000) : fnX (cfg b) An 40 [.c (pairsC l)] [] = some (.c (Tn.rpto (treeOf l none)), []) := by
  rw [fnX_eq, p40_eq]
  have lp := rgrow_loop b l hm l [] none rfl (by simp [Tn.szo])
  have z0 : ((([] : List Pr).length : Nat) : Int) = 0 := rfl
  have e0 : Tn.rpto none = .nilp := rfl
  rw [z0] at lp
  simp only [gwR, e0] at lp
  simp [p40, lp]
set_option maxHeartbeats 4000000 in
theorem kvTree_fn (o : Option (List ActL)) : fnX (cfg true) An 19 [.c (actsC o)] [] = some (.c (.bool true), []) := by
  rw [fnX_eq, p19_eq]
  obtain ⟨s, x, hs, hx, lp⟩ := kt_loop true o (actsL o) [] none rfl KvOk.none (by simp)
  have c0 := awake16_call true
  have nw := kvnew_fn true
  have hlen := hs.len
  have tr := ktree_any true hs (by decide)
  have hL := treeOf_leaves (kvL s) [] none (by simpa using hs.rise) rfl
  rw [List.nil_append] at hL
  have hf := treeOf_fit (kvL s) none hs.ok (fun u hu => by cases hu)
  have hsz := treeOf_szo (kvL s) none
  have hz0 : Tn.szo none = 0 := rfl
  rw [hz0, Nat.zero_add] at hsz
  have rc := Root_call true (treeOf (kvL s) none)
  have gc : ∀ H, callX (cfg true) An 40 [.c (pairsC (kvL s))] H = _ := callX_pure (rgrow_fn true (kvL s) (by omega)) rfl (by cases treeOf (kvL s) none <;> rfl) (prim_none (by decide))
  have sc := rsumn_call (treeOf (kvL s) none) hf
  have ac := All_call true (treeOf (kvL s) none) hf (by omega)
  rw [hL] at ac
  have sp := samePairs_call true (kvL s) (kvL s) (by omega) (Same.refl _)
  have hl : (dI (Tn.hasho (treeOf (kvL s) none))).length = 32 := by rw [len_dI]; cases treeOf (kvL s) none with
    | none => exact shaW_len _
    | some t => exact t.hash_len
  have z0 : ((([] : List ActL).length : Nat) : Int) = 0 := rfl
  rw [z0] at lp
  have hlo := fun H => lenOf_acts o H
  have e0 : pairsC (kvL none) = .nilsl := rfl
  simp only [ktS, e0, kvS] at lp
  generalize Tn.hasho (treeOf (kvL s) none) = R at *
  generalize treeOf (kvL s) none = t at *
  rcases hx with rfl | ⟨a, rfl⟩
  · cases s with
    | none =>
      simp only [kvE, kvL, kvS, pairsC] at *
      simp [p19, c0, v75, nw, hlo, lp, v79, tr, rc, gc, sc, ac, sp, be41, hl, frz177]
    | some l =>
      simp only [kvE, kvH, kvL, kvS] at *
      simp [p19, c0, v75, nw, hlo, lp, v79, tr, rc, gc, sc, ac, sp, be41, hl, frz177]
  · cases s with
    | none =>
      simp only [kvE, kvL, kvS, pairsC] at *
      simp [p19, c0, v75, nw, hlo, lp, v79, tr, rc, gc, sc, ac, sp, be41, hl, frz177]
    | some l =>
      simp only [kvE, kvH, kvL, kvS] at *
      simp [p19, c0, v75, nw, hlo, lp, v79, tr, rc, gc, sc, ac, sp, be41, hl, frz177]
end Go.Fm

