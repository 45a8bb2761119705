/-
  A part of the proof: PKp.
-/
import Derived.Test.YtjmjijgnbjkpnaaDoorPKv
import Derived.Test.YtjmjijgnbjkpnaaDoorDMisc2
set_option linter.all false
set_option autoImplicit true
/-
  Law 18, KvParts: the store of a tree's pairs.
-/
set_option maxRecDepth 100000
set_option linter.unusedVariables false
set_option linter.unusedSimpArgs false
namespace Go.Fm
open Go Go.Proofs

theorem growS_prok (most : Nat) : ∀ (l : List ActL) (i : Nat) (s : GS), (∀ p ∈ s.2, PrOk p) → ∀ p ∈ (growS most l i s).2, PrOk p
  | [], i, s, h => h
  | a :: r, i, s, h => by
    unfold growS
    split
    · exact h
    · rename_i hc
      have hk : 0 < a.key.length := List.length_pos_iff.2 a.key_ne
      have hv : (pB (upto 100 a.val)).length ≤ 100 := by rw [pB_upto, List.length_take]; omega
      refine growS_prok most r (i + 1) _ ?_
      split
      · intro p hp
        rcases putP_mem hp with rfl | hp
        · exact ⟨by intro e; simp only at e; rw [e] at hk; simp at hk, by simp only; omega, by simp only; omega⟩
        · exact h p hp
      · intro p hp
        exact h p (List.mem_filter.1 hp).1
theorem grown_prok (most : Nat) (o : Option (List ActL)) : ∀ p ∈ (grown most o).2, PrOk p := growS_prok most _ 0 _ (fun p hp => by simp at hp)
theorem grown_rise (most : Nat) (o : Option (List ActL)) : Rise (grown most o).2 := (grown_law most o).rise
theorem putP_last {l : List Pr} {p : Pr} (h : Rise (l ++ [p])) : putP p.1 p.2 l = l ++ [p] := by
  have hlt : ∀ q ∈ l, Op.bytesLess q.1 p.1 = true := fun q hq => (List.pairwise_append.1 h).2.2 q hq p (by simp)
  have h2 := putP_left (k := p.1) (v := p.2) [] l hlt
  rw [List.append_nil] at h2
  rw [h2]
  rfl
/-- The store that a list in its order makes. -/
def stOf : List Pr → Option (List Pr)
  | [] => none
  | l => some l
theorem kvL_stOf (l : List Pr) : kvL (stOf l) = l := by cases l <;> rfl
theorem kvOk_stOf {l : List Pr} {n : Nat} (hn : l.length ≤ n) (hr : Rise l) (ho : ∀ p ∈ l, PrOk p) : KvOk (stOf l) n := ⟨by rw [kvL_stOf]; exact hn, by rw [kvL_stOf]; exact hr, by rw [kvL_stOf]; exact ho⟩
theorem klist_any (b : Bool) {s : Option (List Pr)} {n : Nat} (h : KvOk s n) (hn : n ≤ 1000000) (q : Option (List UInt8)) : fnX (cfg b) An 77 [.ov 0 [] 0, .c (pV q)] (kvS s) = some (.c (pairsC (begP q (kvL s))), kvS s) := by
  have hl := h.len
  cases s with
  | none => exact klist_nil b q
  | some l => exact klist_fn b l (by simp only [kvL] at hl; omega) h.ok q
def kpS (a b : Option (List UInt8)) (l : List Pr) (i : Int) : List AV := [.c (pV a), .c (pV b), .ov 0 [] 0, .c (pairsC l), .c (pairsC l), .c (.int .i64 (l.length : Int)), .c (.int .i64 i)]
set_option maxHeartbeats 4000000 in
theorem kp_loop (bb : Bool) (a b : Option (List UInt8)) (l : List Pr) (hm : l.length ≤ 100000) (hr : Rise l) (ho : ∀ p ∈ l, PrOk p) : ∀ (rest pre : List Pr), l = pre ++ rest →
    loopX 0 (p18_l0 bb (callX (cfg bb) An) 0) (kpS a b l (pre.length : Int)) (kvS (stOf pre)) = some (.exit 0 [.c (pV a), .c (pV b), .ov 0 [] 0, .c (pairsC l)], kvS (stOf l))
  | [], pre, h => by
    rw [List.append_nil] at h
    rw [loopX_eq, ← h]
    cases l with
    | nil => simp [kvS, stOf, kvE, kpS, p18_l0]
    | cons q r => simp [kvS, stOf, kvH, kpS, p18_l0]
  | p :: rest, pre, h => by
    have hl : pre.length < l.length := by subst h; simp
    have hi := mIdxS_pairsC l pre.length hl
    have hg : l.getD pre.length default = p := by rw [h]; exact getD_app pre rest p
    rw [hg] at hi
    have hI : (pre.length : Int) < (l.length : Int) := by omega
    have ha := idx_add pre.length (by omega)
    have hp := ho p (by subst h; simp)
    have hrp : Rise (pre ++ [p]) := by
      rw [h] at hr
      have : pre ++ p :: rest = (pre ++ [p]) ++ rest := by simp
      rw [this] at hr
      exact (List.pairwise_append.1 hr).1
    have hpre : ∀ q ∈ pre, PrOk q := fun q hq => ho q (by subst h; simp [hq])
    have pu := kvput_any bb (kvOk_stOf (Nat.le_refl _) (List.pairwise_append.1 hrp).1 hpre) (by omega) (k := p.1) (v := p.2) (List.length_pos_iff.2 hp.ne) hp.k hp.v
    rw [kvL_stOf, putP_last hrp] at pu
    have ih := kp_loop bb a b l hm hr ho rest (pre ++ [p]) (by rw [h]; simp)
    have e2 : (((pre ++ [p]).length : Nat) : Int) = (pre.length : Int) + 1 := by simp
    have e3 : stOf (pre ++ [p]) = some (pre ++ [p]) := by cases pre <;> rfl
    rw [e2, e3] at ih
    have hpc : prC p = .agg [.sl 1 (bytesAV p.1), pV p.2] := rfl
    rw [hpc] at hi
    rw [← ih, loopX_eq]
    generalize hL : pre ++ [p] = L at *
    clear ih hL e3 hrp h hpre
    cases pre with
    | nil =>
      rcases pu with pu | ⟨_, h1, _⟩
      · simp only [kvS, stOf, kvE, kvH, kpS, List.length_nil, Int.natCast_zero, Int.ofNat_zero] at pu hi hl hI ha ⊢
        have hl0 : 0 < l.length := hl
        simp [p18_l0, hl0, hi, v76, pu, ha, csz_pV, cag_pV, frz177, frz97]
        exact loopX_gc (by simp) (by simp)
      · cases h1
    | cons q r =>
      generalize hn : (q :: r).length = n at *
      rcases pu with pu | ⟨_, _, pu⟩
      · simp only [kvS, stOf, kvH, kpS] at pu ⊢
        generalize (q :: r).map prC = M at *
        simp [p18_l0, hl, hI, hi, v76, pu, ha, csz_pV, cag_pV, frz177, frz97]
        exact loopX_gc (by simp) (by simp)
      · simp only [kvS, stOf, kvH, kvD, kpS] at pu ⊢
        generalize (q :: r).map prC = M at *
        simp [p18_l0, hl, hI, hi, v76, pu, ha, csz_pV, cag_pV, frz177, frz97]
        exact loopX_gc (by simp) (by simp)
end Go.Fm

