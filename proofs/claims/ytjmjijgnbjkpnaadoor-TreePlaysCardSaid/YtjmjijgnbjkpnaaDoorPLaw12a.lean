/-
  A part of the proof: PLaw12a.
-/
import Derived.Test.YtjmjijgnbjkpnaaDoorPLaw6
set_option linter.all false
set_option autoImplicit true
/-
  Trees whose values are never nil; what a key's way finds.
-/
set_option maxRecDepth 100000
set_option linter.unusedVariables false
set_option linter.unusedSimpArgs false
namespace Go.Fm
open Go Go.Proofs

namespace Tn
def norm : Tn → Tn
  | leaf k v => leaf k (some (pB v))
  | node l r => node l.norm r.norm
theorem norm_least : ∀ t : Tn, t.norm.least = t.least
  | leaf _ _ => rfl
  | node l r => norm_least l
theorem norm_key : ∀ t : Tn, t.norm.key = t.key
  | leaf _ _ => rfl
  | node l r => norm_least r
theorem norm_ht : ∀ t : Tn, t.norm.ht = t.ht
  | leaf _ _ => rfl
  | node l r => by simp only [norm, ht, norm_ht l, norm_ht r]
theorem norm_sz : ∀ t : Tn, t.norm.sz = t.sz
  | leaf _ _ => rfl
  | node l r => by simp only [norm, sz, norm_sz l, norm_sz r]
theorem norm_hash : ∀ t : Tn, t.norm.hash = t.hash
  | leaf _ _ => rfl
  | node l r => by simp only [norm, hash, norm_hash l, norm_hash r, norm_ht, norm_sz]
theorem norm_fit : ∀ t : Tn, t.fit → t.norm.fit
  | leaf _ _, h => h
  | node l r, h => ⟨norm_fit l h.1, norm_fit r h.2⟩
theorem norm_balL (l r : Tn) : (balL l r).norm = balL l.norm r.norm := by
  unfold balL
  cases l with
  | leaf k v => rfl
  | node ll lr => cases lr with
    | leaf k v => rfl
    | node lrl lrr =>
      simp only [norm]
      have e : (node lrl.norm lrr.norm).ht = (node lrl lrr).ht := norm_ht (node lrl lrr)
      rw [e, norm_ht]
      split <;> rfl
theorem norm_balR (l r : Tn) : (balR l r).norm = balR l.norm r.norm := by
  unfold balR
  cases r with
  | leaf k v => rfl
  | node rl rr => cases rl with
    | leaf k v => rfl
    | node rll rlr =>
      simp only [norm]
      have e : (node rll.norm rlr.norm).ht = (node rll rlr).ht := norm_ht (node rll rlr)
      rw [e, norm_ht]
      split <;> rfl
theorem norm_bal (l r : Tn) : (bal l r).norm = bal l.norm r.norm := by
  unfold bal
  rw [norm_ht, norm_ht]
  split
  · exact norm_balL l r
  · split
    · exact norm_balR l r
    · rfl
theorem norm_put (k : List UInt8) (v : Option (List UInt8)) : ∀ t : Tn, (put k v t).norm = put k (some (pB v)) t.norm
  | leaf k' w => by
    simp only [put, norm]
    split
    · rfl
    · split <;> rfl
  | node l r => by
    simp only [put, norm, norm_least]
    split
    · rw [norm_bal, norm_put k v l]
    · rw [norm_bal, norm_put k v r]
theorem norm_cut (k : List UInt8) : ∀ t : Tn, cut k t.norm = ((cut k t).1.map norm, (cut k t).2)
  | leaf k' w => by
    simp only [cut, norm]
    split <;> rfl
  | node l r => by
    simp only [cut, norm, norm_least]
    split
    · rw [norm_cut k l]
      obtain ⟨x, y⟩ := cut k l
      cases y <;> cases x <;> simp [cutR, norm, norm_bal]
    · rw [norm_cut k r]
      obtain ⟨x, y⟩ := cut k r
      cases y <;> cases x <;> simp [cutR, norm, norm_bal]
def nrm (p : Pr) : Pr := (p.1, some (pB p.2))
theorem norm_leaves : ∀ t : Tn, t.norm.leaves = t.leaves.map nrm
  | leaf _ _ => rfl
  | node l r => by simp only [norm, leaves, norm_leaves l, norm_leaves r, List.map_append]
theorem norm_puto (k : List UInt8) (v : Option (List UInt8)) (t : Option Tn) : (puto k v t).norm = puto k (some (pB v)) (t.map norm) := by
  cases t with
  | none => rfl
  | some t => exact norm_put k v t
theorem norm_hasho (t : Option Tn) : hasho (t.map norm) = hasho t := by
  cases t with
  | none => rfl
  | some t => exact norm_hash t
theorem norm_nodesL : ∀ t : Tn, t.norm.nodesL = t.nodesL.map norm
  | leaf _ _ => rfl
  | node l r => by simp only [norm, nodesL, norm_nodesL l, norm_nodesL r, List.map_append, List.map_cons]
end Tn
theorem same_nrm : ∀ l : List Pr, Same l (l.map Tn.nrm)
  | [] => trivial
  | p :: l => ⟨rfl, rfl, same_nrm l⟩
theorem rise_nrm {l : List Pr} (h : Rise l) : Rise (l.map Tn.nrm) := by
  unfold Rise
  rw [List.pairwise_map]
  exact h
theorem findFrom_nrm (k : List UInt8) : ∀ (l : List Pr) (i : Nat), findFrom k (l.map Tn.nrm) i = findFrom k l i
  | [], _ => rfl
  | p :: l, i => by
    simp only [List.map_cons, findFrom, findFrom_nrm k l]
    rfl
theorem findZ_nrm (k : List UInt8) (l : List Pr) : findZ k (l.map Tn.nrm) = findZ k l := by unfold findZ; rw [findFrom_nrm]
theorem findFrom_at {k : List UInt8} : ∀ {l : List Pr} {i j : Nat}, findFrom k l i = some j → i ≤ j ∧ j < i + l.length ∧ ∃ v, l[j - i]? = some (k, v)
  | [], i, j, h => by simp [findFrom] at h
  | p :: l, i, j, h => by
    unfold findFrom at h
    by_cases c : p.1 = k
    · rw [if_pos c] at h
      simp only [Option.some.injEq] at h
      subst h
      refine ⟨Nat.le_refl _, by simp, p.2, ?_⟩
      rw [← c]; simp
    · rw [if_neg c] at h
      obtain ⟨h1, h2, v, h3⟩ := findFrom_at h
      refine ⟨by omega, by simp only [List.length_cons]; omega, v, ?_⟩
      obtain ⟨m, hm⟩ : ∃ m, j - i = m + 1 := ⟨j - i - 1, by omega⟩
      rw [hm, List.getElem?_cons_succ, ← h3]
      congr 1
      omega
theorem goKey_mem (key : List UInt8) : ∀ t : Tn, t.goKey key ∈ t.leaves
  | .leaf k v => by simp [Tn.goKey, Tn.leaves]
  | .node l r => by
    unfold Tn.goKey
    simp only [Tn.leaves, List.mem_append]
    split
    · exact .inl (goKey_mem key l)
    · exact .inr (goKey_mem key r)
theorem goKey_of {key : List UInt8} {w : Option (List UInt8)} : ∀ {t : Tn}, Rise t.leaves → (key, w) ∈ t.leaves → t.goKey key = (key, w)
  | .leaf k v, _, h => by
    simp only [Tn.leaves, List.mem_singleton] at h
    simp only [Tn.goKey]; exact h.symm
  | .node l r, hr, h => by
    obtain ⟨r1, r2, r3, r4⟩ := Tn.rise_node hr
    simp only [Tn.leaves, List.mem_append] at h
    unfold Tn.goKey
    rcases h with h | h
    · rw [if_pos (r3 _ h)]
      exact goKey_of r1 h
    · have : ¬ Op.bytesLess key r.least = true := by
        intro hlt
        obtain ⟨v, q, hq⟩ := Tn.leaves_head r
        rw [hq] at h
        rcases List.mem_cons.1 h with h | h
        · have : key = r.least := by rw [Prod.mk.injEq] at h; exact h.1
          rw [this, bytesLess_irr] at hlt
          cases hlt
        · rw [hq] at r2
          have := (List.pairwise_cons.1 r2).1 _ h
          have := bl_asym this
          simp only at this
          rw [this] at hlt
          cases hlt
      rw [if_neg this]
      exact goKey_of r2 h
/-- What Get answers, by the pairs. -/
theorem get_find (key : List UInt8) (t : Option Tn) (h : Rise (Tn.leaveso t)) :
    (findZ key (Tn.leaveso t) = -1 ∧ Tn.get key t = none) ∨ ∃ (i : Nat) (v : Option (List UInt8)), i < (Tn.leaveso t).length ∧ findZ key (Tn.leaveso t) = (i : Int) ∧ (Tn.leaveso t)[i]? = some (key, v) ∧ Tn.get key t = some v := by
  unfold findZ
  cases hf : findFrom key (Tn.leaveso t) 0 with
  | none =>
    refine .inl ⟨rfl, ?_⟩
    cases t with
    | none => rfl
    | some t =>
      rw [findFrom_none] at hf
      have : ¬ (t.goKey key).1 = key := hf _ (goKey_mem key t)
      simp [Tn.get, this]
  | some i =>
    obtain ⟨_, h2, v, h3⟩ := findFrom_at hf
    rw [Nat.sub_zero] at h3
    refine .inr ⟨i, v, by simpa using h2, rfl, h3, ?_⟩
    cases t with
    | none => simp [Tn.leaveso] at h2
    | some t =>
      have hm : (key, v) ∈ t.leaves := List.mem_of_getElem? h3
      simp [Tn.get, goKey_of h hm]
end Go.Fm

