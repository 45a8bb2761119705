/-
  A part of the proof: PFew.
-/
import Derived.Test.YtjmjijgnbjkpnaaDoorPNod3
set_option linter.all false
set_option autoImplicit true
/-
  NodesFew, in plain words: how many nodes are new.
-/
set_option maxRecDepth 100000
set_option linter.unusedVariables false
set_option linter.unusedSimpArgs false
namespace Go.Fm
open Go Go.Proofs

namespace Tn
def cnt (f : Tn → Bool) (t : Tn) : Nat := t.nodesL.countP f
theorem cnt_node (f : Tn → Bool) (l r : Tn) : cnt f (node l r) = cnt f l + cnt f r + (if f (node l r) = true then 1 else 0) := by
  simp only [cnt, nodesL, List.countP_cons, List.countP_append]
theorem cnt_node_le (f : Tn → Bool) (l r : Tn) : cnt f (node l r) ≤ cnt f l + cnt f r + 1 := by
  rw [cnt_node]; split <;> omega
theorem cnt_node_ge (f : Tn → Bool) (l r : Tn) : cnt f l + cnt f r ≤ cnt f (node l r) := by
  rw [cnt_node]; split <;> omega
theorem cnt_leaf_le (f : Tn → Bool) (k : List UInt8) (v : Option (List UInt8)) : cnt f (leaf k v) ≤ 1 := by
  simp only [cnt, nodesL, List.countP_cons, List.countP_nil]
  split <;> omega
theorem cnt_balL (f : Tn → Bool) (l r : Tn) : cnt f (balL l r) ≤ cnt f l + cnt f r + 3 := by
  unfold balL
  split
  · rename_i ll lrl lrr
    have h1 := cnt_node_ge f ll (node lrl lrr)
    have h2 := cnt_node_ge f lrl lrr
    split
    · have a1 := cnt_node_le f (node ll lrl) (node lrr r)
      have a2 := cnt_node_le f ll lrl
      have a3 := cnt_node_le f lrr r
      omega
    · have a1 := cnt_node_le f ll (node (node lrl lrr) r)
      have a2 := cnt_node_le f (node lrl lrr) r
      omega
  · rename_i ll lr _
    have h1 := cnt_node_ge f ll lr
    have a1 := cnt_node_le f ll (node lr r)
    have a2 := cnt_node_le f lr r
    omega
  · rename_i k v
    have a1 := cnt_node_le f (leaf k v) r
    omega
theorem cnt_balR (f : Tn → Bool) (l r : Tn) : cnt f (balR l r) ≤ cnt f l + cnt f r + 3 := by
  unfold balR
  split
  · rename_i rll rlr rr
    have h1 := cnt_node_ge f (node rll rlr) rr
    have h2 := cnt_node_ge f rll rlr
    split
    · have a1 := cnt_node_le f (node l rll) (node rlr rr)
      have a2 := cnt_node_le f l rll
      have a3 := cnt_node_le f rlr rr
      omega
    · have a1 := cnt_node_le f (node l (node rll rlr)) rr
      have a2 := cnt_node_le f l (node rll rlr)
      omega
  · rename_i rl rr _
    have h1 := cnt_node_ge f rl rr
    have a1 := cnt_node_le f (node l rl) rr
    have a2 := cnt_node_le f l rl
    omega
  · rename_i k v
    have a1 := cnt_node_le f l (leaf k v)
    omega
theorem cnt_bal (f : Tn → Bool) (l r : Tn) : cnt f (bal l r) ≤ cnt f l + cnt f r + 3 := by
  unfold bal
  split
  · exact cnt_balL f l r
  · split
    · exact cnt_balR f l r
    · have := cnt_node_le f l r
      omega
theorem cnt_zero {f : Tn → Bool} {t : Tn} (h : ∀ n ∈ t.nodesL, f n = false) : cnt f t = 0 := by
  unfold cnt
  rw [List.countP_eq_zero]
  intro n hn
  simp [h n hn]
theorem cnt_put (f : Tn → Bool) (k : List UInt8) (v : Option (List UInt8)) : ∀ t : Tn, (∀ n ∈ t.nodesL, f n = false) → cnt f (put k v t) ≤ 3 * t.ht + 2
  | leaf k' w, h => by
    have h0 := cnt_zero h
    have hl := cnt_leaf_le f k v
    have h0' : cnt f (leaf k' w) = 0 := h0
    simp only [put]
    split
    · have := cnt_node_le f (leaf k v) (leaf k' w); omega
    · split
      · omega
      · have := cnt_node_le f (leaf k' w) (leaf k v); omega
  | node l r, h => by
    have hl : ∀ n ∈ l.nodesL, f n = false := fun n hn => h n (by simp [nodesL, hn])
    have hr : ∀ n ∈ r.nodesL, f n = false := fun n hn => h n (by simp [nodesL, hn])
    have h1 := cnt_zero hl
    have h2 := cnt_zero hr
    simp only [put, ht]
    split
    · have a1 := cnt_put f k v l hl
      have a2 := cnt_bal f (put k v l) r
      omega
    · have a1 := cnt_put f k v r hr
      have a2 := cnt_bal f l (put k v r)
      omega
end Tn
theorem lkM_app {h : List UInt8} {m n : Mp} (hm : (lkM h m).isSome = true) : (lkM h (m ++ n)).isSome = true := by
  induction m with
  | nil => simp [lkM] at hm
  | cons p r ih =>
    simp only [lkM, List.cons_append] at hm ⊢
    split
    · rfl
    · rename_i hne
      simp only [hne, if_false] at hm
      exact ih hm
theorem lkM_last (h e : List UInt8) : ∀ m : Mp, (lkM h (m ++ [(h, e)])).isSome = true
  | [] => by simp [lkM]
  | p :: r => by
    simp only [lkM, List.cons_append]
    split
    · rfl
    · exact lkM_last h e r
theorem sv1_keep {h : List UInt8} {m : Mp} (hm : (lkM h m).isSome = true) (n : Tn) : (lkM h (sv1 m n)).isSome = true := by
  unfold sv1
  split
  · exact hm
  · exact lkM_app hm
theorem sv1_has (m : Mp) (n : Tn) : (lkM n.hash (sv1 m n)).isSome = true := by
  unfold sv1
  split
  · assumption
  · exact lkM_last _ _ _
theorem saveM_keep {h : List UInt8} : ∀ (l : List Tn) (m : Mp), (lkM h m).isSome = true → (lkM h (saveM l m)).isSome = true
  | [], m, hm => hm
  | n :: l, m, hm => saveM_keep l (sv1 m n) (sv1_keep hm n)
theorem saveM_has : ∀ (l : List Tn) (m : Mp), ∀ n ∈ l, (lkM n.hash (saveM l m)).isSome = true
  | [], m, n, hn => by simp at hn
  | a :: l, m, n, hn => by
    rcases List.mem_cons.1 hn with rfl | hn
    · exact saveM_keep l _ (sv1_has m _)
    · exact saveM_has l (sv1 m a) n hn
theorem saveM_same : ∀ (l : List Tn) (m : Mp), (∀ n ∈ l, (lkM n.hash m).isSome = true) → saveM l m = m
  | [], m, _ => rfl
  | a :: l, m, h => by
    have : sv1 m a = m := by unfold sv1; rw [if_pos (h a (by simp))]
    show saveM l (sv1 m a) = m
    rw [this]
    exact saveM_same l m fun n hn => h n (by simp [hn])
theorem saveM_len : ∀ (l : List Tn) (m : Mp), m.length ≤ (saveM l m).length ∧ (saveM l m).length ≤ m.length + l.countP (fun n => !(lkM n.hash m).isSome)
  | [], m => ⟨Nat.le_refl _, by simp [saveM]⟩
  | a :: l, m => by
    obtain ⟨h1, h2⟩ := saveM_len l (sv1 m a)
    have hmono : l.countP (fun n => !(lkM n.hash (sv1 m a)).isSome) ≤ l.countP (fun n => !(lkM n.hash m).isSome) := by
      apply List.countP_mono_left
      intro n _ hn
      cases hc : (lkM n.hash m).isSome with
      | false => rfl
      | true => rw [sv1_keep hc a] at hn; cases hn
    have hs : saveM (a :: l) m = saveM l (sv1 m a) := rfl
    rw [hs, List.countP_cons]
    have hl : (sv1 m a).length = m.length + (if (!(lkM a.hash m).isSome) = true then 1 else 0) := by
      unfold sv1
      cases (lkM a.hash m).isSome <;> simp
    omega
theorem saveM_all (l : List Tn) : (saveM l []).length ≤ l.length := by
  have := (saveM_len l []).2
  have h2 := List.countP_le_length (p := fun n : Tn => !(lkM n.hash []).isSome) (l := l)
  simp only [List.length_nil, Nat.zero_add] at this
  omega
/-- A key more: how many nodes are new. -/
theorem few (k : List UInt8) (v : Option (List UInt8)) (t : Option Tn) (hB : ∀ u, t = some u → u.B) :
    (saveM (Tn.puto k v t).nodesL (saveM (Tn.nodesO t) [])).length ≤ (saveM (Tn.nodesO t) []).length + 3 * (Tn.puto k v t).ht + 3 := by
  have h := (saveM_len (Tn.puto k v t).nodesL (saveM (Tn.nodesO t) [])).2
  have hn := saveM_has (Tn.nodesO t) []
  generalize saveM (Tn.nodesO t) [] = m at *
  cases t with
  | none =>
    have := List.countP_le_length (p := fun n : Tn => !(lkM n.hash m).isSome) (l := (Tn.puto k v none).nodesL)
    have e : (Tn.puto k v none).nodesL.length = 1 := rfl
    omega
  | some t =>
    have c := Tn.cnt_put (fun n => !(lkM n.hash m).isSome) k v t (fun n hx => by simp [hn n hx])
    have hh := (Tn.B_put k v t (hB t rfl)).2.1
    simp only [Tn.puto] at h ⊢
    unfold Tn.cnt at c
    omega
end Go.Fm

