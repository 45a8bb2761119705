/-
  A part of the proof: PLawT1.
-/
import Derived.Test.YtjmjijgnbjkpnaaDoorPGrow
set_option linter.all false
set_option autoImplicit true
/-
  Trees, plainly: what their leaves are, that they rise, that they are balanced.
-/
set_option maxRecDepth 100000
set_option linter.unusedVariables false
set_option linter.unusedSimpArgs false
namespace Go.Fm
open Go Go.Proofs
/-! ### The order of bytes -/
theorem bl_trans : ∀ {x y z : List UInt8}, Op.bytesLess x y = true → Op.bytesLess y z = true → Op.bytesLess x z = true
  | _, [], _, h, _ => by simp [Op.bytesLess] at h
  | _, _ :: _, [], _, h => by simp [Op.bytesLess] at h
  | [], _ :: _, _ :: _, _, _ => rfl
  | a :: x, b :: y, c :: z, h1, h2 => by
    simp only [Op.bytesLess, Bool.or_eq_true, Bool.and_eq_true, decide_eq_true_eq, beq_iff_eq] at h1 h2 ⊢
    rcases h1 with h1 | ⟨rfl, h1⟩
    · rcases h2 with h2 | ⟨rfl, h2⟩
      · exact .inl (UInt8.lt_trans h1 h2)
      · exact .inl h1
    · rcases h2 with h2 | ⟨rfl, h2⟩
      · exact .inl h2
      · exact .inr ⟨rfl, bl_trans h1 h2⟩
theorem bl_tri : ∀ (x y : List UInt8), Op.bytesLess x y = false → Op.bytesLess y x = false → x = y
  | [], [], _, _ => rfl
  | [], _ :: _, h, _ => by simp [Op.bytesLess] at h
  | _ :: _, [], _, h => by simp [Op.bytesLess] at h
  | a :: x, b :: y, h1, h2 => by
    simp only [Op.bytesLess, Bool.or_eq_false_iff, Bool.and_eq_false_iff, decide_eq_false_iff_not, beq_eq_false_iff_ne, ne_eq] at h1 h2
    have hab : a = b := UInt8.le_antisymm (UInt8.not_lt.1 h2.1) (UInt8.not_lt.1 h1.1)
    subst hab
    simp only [not_true_eq_false, false_or] at h1 h2
    rw [bl_tri x y h1.2 h2.2]
theorem bl_asym {x y : List UInt8} (h : Op.bytesLess x y = true) : Op.bytesLess y x = false := by
  cases h2 : Op.bytesLess y x with
  | false => rfl
  | true => have := bl_trans h h2; rw [bytesLess_irr] at this; cases this
theorem bl_ne {x y : List UInt8} (h : Op.bytesLess x y = true) : x ≠ y := fun e => by subst e; rw [bytesLess_irr] at h; cases h
/-- x < y ≤ z. -/
theorem bl_lt_le {x y z : List UInt8} (h1 : Op.bytesLess x y = true) (h2 : Op.bytesLess z y = false) : Op.bytesLess x z = true := by
  cases h3 : Op.bytesLess y z with
  | true => exact bl_trans h1 h3
  | false => rw [← bl_tri y z h3 h2]; exact h1
/-! ### Rising pairs -/
def Rise (l : List Pr) : Prop := l.Pairwise fun p q => Op.bytesLess p.1 q.1 = true
theorem putP_left {k : List UInt8} {v : Option (List UInt8)} (R : List Pr) : ∀ L : List Pr, (∀ p ∈ L, Op.bytesLess p.1 k = true) → putP k v (L ++ R) = L ++ putP k v R
  | [], _ => rfl
  | p :: L, h => by
    have := putP_left (v := v) R L fun q hq => h q (by simp [hq])
    rw [List.cons_append, putP, if_pos (h p (by simp)), this]; rfl
theorem putP_right {k : List UInt8} {v : Option (List UInt8)} (q : Pr) (R : List Pr) (hq : Op.bytesLess k q.1 = true) : ∀ L : List Pr, putP k v (L ++ q :: R) = putP k v L ++ q :: R
  | [] => by
    have h1 := bl_asym hq
    have h2 : q.1 ≠ k := fun e => bl_ne hq e.symm
    simp [putP, h1, h2]
  | p :: L => by
    have := putP_right (v := v) q R hq L
    rw [List.cons_append, putP, putP]
    split
    · rw [this]; rfl
    · split <;> rfl
theorem putP_mem {k : List UInt8} {v : Option (List UInt8)} : ∀ {l : List Pr} {p : Pr}, p ∈ putP k v l → p = (k, v) ∨ p ∈ l
  | [], p, h => by simp only [putP, List.mem_singleton] at h; exact .inl h
  | q :: l, p, h => by
    unfold putP at h
    split at h
    · rcases List.mem_cons.1 h with rfl | h
      · exact .inr (by simp)
      · rcases putP_mem h with h | h
        · exact .inl h
        · exact .inr (by simp [h])
    · split at h
      · rcases List.mem_cons.1 h with h | h
        · exact .inl h
        · exact .inr (by simp [h])
      · rcases List.mem_cons.1 h with h | h
        · exact .inl h
        · exact .inr h
theorem Rise.put {k : List UInt8} {v : Option (List UInt8)} : ∀ {l : List Pr}, Rise l → Rise (putP k v l)
  | [], _ => by simp [putP, Rise]
  | p :: l, h => by
    unfold Rise at h ⊢
    rw [List.pairwise_cons] at h
    unfold putP
    by_cases h1 : Op.bytesLess p.1 k = true
    · rw [if_pos h1, List.pairwise_cons]
      refine ⟨fun q hq => ?_, Rise.put h.2⟩
      rcases putP_mem hq with rfl | hq
      · exact h1
      · exact h.1 q hq
    · rw [if_neg h1]
      by_cases h2 : p.1 = k
      · rw [if_pos h2, List.pairwise_cons]
        exact ⟨fun q hq => by rw [← h2]; exact h.1 q hq, h.2⟩
      · rw [if_neg h2, List.pairwise_cons]
        have h3 : Op.bytesLess k p.1 = true := by
          cases h4 : Op.bytesLess k p.1 with
          | true => rfl
          | false => exact absurd (bl_tri _ _ (by simpa using h1) h4) h2
        refine ⟨fun q hq => ?_, List.pairwise_cons.2 h⟩
        rcases List.mem_cons.1 hq with rfl | hq
        · exact h3
        · exact bl_trans h3 (h.1 q hq)
theorem Rise.cut {k : List UInt8} {l : List Pr} (h : Rise l) : Rise (cutP k l) := List.Pairwise.filter _ h
namespace Tn
theorem leaves_ne (t : Tn) : t.leaves ≠ [] := by
  have h1 := t.leaves_sz
  have h2 := t.sz_pos
  intro h
  rw [h] at h1
  simp at h1
  omega
theorem leaves_head : ∀ t : Tn, ∃ v r, t.leaves = (t.least, v) :: r
  | leaf k v => ⟨v, [], rfl⟩
  | node l r => by
    obtain ⟨v, rr, h⟩ := leaves_head l
    exact ⟨v, rr ++ r.leaves, by simp [leaves, least, h]⟩
theorem leaves_balL (l r : Tn) : (balL l r).leaves = l.leaves ++ r.leaves := by
  unfold balL
  split
  · split <;> simp [leaves]
  · simp [leaves]
  · simp [leaves]
theorem leaves_balR (l r : Tn) : (balR l r).leaves = l.leaves ++ r.leaves := by
  unfold balR
  split
  · split <;> simp [leaves]
  · simp [leaves]
  · simp [leaves]
theorem leaves_bal (l r : Tn) : (bal l r).leaves = l.leaves ++ r.leaves := by
  unfold bal
  split
  · exact leaves_balL l r
  · split
    · exact leaves_balR l r
    · rfl
/-- What rises beneath a node. -/
theorem rise_node {l r : Tn} (h : Rise (node l r).leaves) : Rise l.leaves ∧ Rise r.leaves ∧ (∀ p ∈ l.leaves, Op.bytesLess p.1 r.least = true) ∧ (∀ p ∈ l.leaves, ∀ q ∈ r.leaves, Op.bytesLess p.1 q.1 = true) := by
  unfold Rise at h
  simp only [leaves] at h
  rw [List.pairwise_append] at h
  obtain ⟨v, rr, e⟩ := leaves_head r
  exact ⟨h.1, h.2.1, fun p hp => h.2.2 p hp (r.least, v) (by rw [e]; simp), h.2.2⟩
theorem leaves_put (k : List UInt8) (v : Option (List UInt8)) : ∀ t : Tn, Rise t.leaves → (put k v t).leaves = putP k v t.leaves
  | leaf k' w, h => by
    unfold put
    by_cases h1 : Op.bytesLess k k' = true
    · have h2 := bl_asym h1
      have h3 : k' ≠ k := fun e => bl_ne h1 e.symm
      simp [h1, leaves, putP, h2, h3]
    · have h1' : Op.bytesLess k k' = false := by simpa using h1
      by_cases h2 : k = k'
      · subst h2
        simp [leaves, putP, bytesLess_irr]
      · have h3 : Op.bytesLess k' k = true := by
          cases h4 : Op.bytesLess k' k with
          | true => rfl
          | false => exact absurd (bl_tri _ _ h1' h4) h2
        simp [h1', h2, leaves, putP, h3]
  | node l r, h => by
    obtain ⟨hl, hr, hlr, _⟩ := rise_node h
    unfold put
    by_cases h1 : Op.bytesLess k r.least = true
    · rw [if_pos h1, leaves_bal, leaves_put k v l hl]
      obtain ⟨w, rr, e⟩ := leaves_head r
      simp only [leaves]
      rw [e, putP_right _ _ h1]
    · have h1' : Op.bytesLess k r.least = false := by simpa using h1
      rw [if_neg h1, leaves_bal, leaves_put k v r hr]
      simp only [leaves]
      rw [putP_left]
      exact fun p hp => bl_lt_le (hlr p hp) h1'
def leaveso : Option Tn → List Pr
  | none => []
  | some t => t.leaves
theorem cutP_of (k : List UInt8) (l : List Pr) (h : ∀ p ∈ l, p.1 ≠ k) : cutP k l = l := by
  unfold cutP
  rw [List.filter_eq_self]
  intro p hp
  simpa using h p hp
theorem leaves_cut (k : List UInt8) : ∀ t : Tn, Rise t.leaves → leaveso (cut k t).1 = cutP k t.leaves ∧ ((cut k t).2 = t.leaves.any fun p => p.1 == k)
  | leaf k' w, h => by
    unfold cut
    by_cases h1 : k' = k
    · simp [h1, leaveso, leaves, cutP]
    · simp [h1, leaveso, leaves, cutP]
  | node l r, h => by
    obtain ⟨hl, hr, hlr, _⟩ := rise_node h
    obtain ⟨w, rr, e⟩ := leaves_head r
    have hrr : ∀ q ∈ r.leaves, q.1 = r.least ∨ Op.bytesLess r.least q.1 = true := by
      intro q hq
      have hr' := hr
      unfold Rise at hr'
      rw [e] at hq hr'
      rw [List.pairwise_cons] at hr'
      rcases List.mem_cons.1 hq with rfl | hq
      · exact .inl rfl
      · exact .inr (hr'.1 q hq)
    unfold cut
    by_cases h1 : Op.bytesLess k r.least = true
    · rw [if_pos h1]
      have hR : ∀ q ∈ r.leaves, q.1 ≠ k := by
        intro q hq
        rcases hrr q hq with h2 | h2
        · rw [h2]; exact fun e => bl_ne h1 e.symm
        · exact fun e => bl_ne (bl_trans h1 h2) e.symm
      have hRc := cutP_of k r.leaves hR
      have hRa : (r.leaves.any fun p => p.1 == k) = false := by
        rw [List.any_eq_false]; intro p hp; simpa using hR p hp
      obtain ⟨i1, i2⟩ := leaves_cut k l hl
      have hall : cutP k (node l r).leaves = cutP k l.leaves ++ r.leaves := by
        simp only [leaves, cutP, List.filter_append]; rw [← cutP, ← cutP, hRc]
      have hany : ((node l r).leaves.any fun p => p.1 == k) = l.leaves.any fun p => p.1 == k := by
        simp only [leaves, List.any_append, hRa, Bool.or_false]
      rw [hall, hany, ← i2]
      cases hc : cut k l with
      | mk o w =>
        rw [hc] at i1 i2
        cases w with
        | false =>
          simp only [cutR]
          have : cutP k l.leaves = l.leaves := cutP_of k _ (by
            have h3 := i2.symm
            rw [List.any_eq_false] at h3
            intro p hp; simpa using h3 p hp)
          rw [this]
          exact ⟨rfl, trivial⟩
        | true =>
          cases o with
          | none =>
            simp only [leaveso] at i1
            simp only [cutR, leaveso, ← i1, List.nil_append]
            exact ⟨trivial, trivial⟩
          | some l' =>
            simp only [leaveso] at i1
            simp only [cutR, leaveso, leaves_bal, i1]
            exact ⟨trivial, trivial⟩
    · have h1' : Op.bytesLess k r.least = false := by simpa using h1
      rw [if_neg h1]
      have hL : ∀ q ∈ l.leaves, q.1 ≠ k := fun q hq => bl_ne (bl_lt_le (hlr q hq) h1')
      have hLc := cutP_of k l.leaves hL
      have hLa : (l.leaves.any fun p => p.1 == k) = false := by
        rw [List.any_eq_false]; intro p hp; simpa using hL p hp
      obtain ⟨i1, i2⟩ := leaves_cut k r hr
      have hall : cutP k (node l r).leaves = l.leaves ++ cutP k r.leaves := by
        simp only [leaves, cutP, List.filter_append]; rw [← cutP, ← cutP, hLc]
      have hany : ((node l r).leaves.any fun p => p.1 == k) = r.leaves.any fun p => p.1 == k := by
        simp only [leaves, List.any_append, hLa, Bool.false_or]
      rw [hall, hany, ← i2]
      cases hc : cut k r with
      | mk o w =>
        rw [hc] at i1 i2
        cases w with
        | false =>
          simp only [cutR]
          have : cutP k r.leaves = r.leaves := cutP_of k _ (by
            have h3 := i2.symm
            rw [List.any_eq_false] at h3
            intro p hp; simpa using h3 p hp)
          rw [this]
          exact ⟨rfl, trivial⟩
        | true =>
          cases o with
          | none =>
            simp only [leaveso] at i1
            simp only [cutR, leaveso, ← i1, List.append_nil]
            exact ⟨trivial, trivial⟩
          | some l' =>
            simp only [leaveso] at i1
            simp only [cutR, leaveso, leaves_bal, i1]
            exact ⟨trivial, trivial⟩
/-! ### Balance -/
def B : Tn → Prop
  | leaf _ _ => True
  | node l r => l.B ∧ r.B ∧ l.ht ≤ r.ht + 1 ∧ r.ht ≤ l.ht + 1
theorem B_bal {l r : Tn} (hl : l.B) (hr : r.B) (h1 : l.ht ≤ r.ht + 2) (h2 : r.ht ≤ l.ht + 2) : (bal l r).B ∧ max l.ht r.ht ≤ (bal l r).ht ∧ (bal l r).ht ≤ 1 + max l.ht r.ht ∧ (l.ht ≤ r.ht + 1 → r.ht ≤ l.ht + 1 → (bal l r).ht = 1 + max l.ht r.ht) := by
  unfold bal
  by_cases c1 : r.ht + 1 < l.ht
  · rw [if_pos c1]
    cases l with
    | leaf k v => simp [ht] at c1
    | node ll lr =>
      cases lr with
      | leaf k v =>
        simp only [B, ht] at hl c1 h1 h2 ⊢
        simp only [balL, B, ht]
        obtain ⟨q1, q2, q3, q4⟩ := hl
        refine ⟨⟨q1, ⟨trivial, hr, by omega, by omega⟩, by omega, by omega⟩, by omega, by omega, by omega⟩
      | node lrl lrr =>
        simp only [balL]
        by_cases c2 : ll.ht < (node lrl lrr).ht
        · rw [if_pos c2]
          simp only [B, ht] at hl c1 c2 h1 h2 ⊢
          obtain ⟨q1, ⟨q2, q3, q4, q5⟩, q6, q7⟩ := hl
          refine ⟨⟨⟨q1, q2, by omega, by omega⟩, ⟨q3, hr, by omega, by omega⟩, by omega, by omega⟩, by omega, by omega, by omega⟩
        · rw [if_neg c2]
          simp only [B, ht] at hl c1 c2 h1 h2 ⊢
          obtain ⟨q1, ⟨q2, q3, q4, q5⟩, q6, q7⟩ := hl
          refine ⟨⟨q1, ⟨⟨q2, q3, q4, q5⟩, hr, by omega, by omega⟩, by omega, by omega⟩, by omega, by omega, by omega⟩
  · rw [if_neg c1]
    by_cases c3 : l.ht + 1 < r.ht
    · rw [if_pos c3]
      cases r with
      | leaf k v => simp [ht] at c3
      | node rl rr =>
        cases rl with
        | leaf k v =>
          simp only [B, ht] at hr c1 c3 h1 h2 ⊢
          simp only [balR, B, ht]
          obtain ⟨q1, q2, q3, q4⟩ := hr
          refine ⟨⟨⟨hl, trivial, by omega, by omega⟩, q2, by omega, by omega⟩, by omega, by omega, by omega⟩
        | node rll rlr =>
          simp only [balR]
          by_cases c2 : rr.ht < (node rll rlr).ht
          · rw [if_pos c2]
            simp only [B, ht] at hr c1 c2 c3 h1 h2 ⊢
            obtain ⟨⟨q2, q3, q4, q5⟩, q1, q6, q7⟩ := hr
            refine ⟨⟨⟨hl, q2, by omega, by omega⟩, ⟨q3, q1, by omega, by omega⟩, by omega, by omega⟩, by omega, by omega, by omega⟩
          · rw [if_neg c2]
            simp only [B, ht] at hr c1 c2 c3 h1 h2 ⊢
            obtain ⟨⟨q2, q3, q4, q5⟩, q1, q6, q7⟩ := hr
            refine ⟨⟨⟨hl, ⟨q2, q3, q4, q5⟩, by omega, by omega⟩, q1, by omega, by omega⟩, by omega, by omega, by omega⟩
    · rw [if_neg c3]
      simp only [B, ht]
      exact ⟨⟨hl, hr, by omega, by omega⟩, by omega, Nat.le_refl _, fun _ _ => trivial⟩
theorem B_put (k : List UInt8) (v : Option (List UInt8)) : ∀ t : Tn, t.B → (put k v t).B ∧ t.ht ≤ (put k v t).ht ∧ (put k v t).ht ≤ t.ht + 1
  | leaf k' w, _ => by
    unfold put
    split
    · simp [B, ht]
    · split <;> simp [B, ht]
  | node l r, h => by
    obtain ⟨hl, hr, h1, h2⟩ := h
    unfold put
    split
    · obtain ⟨i1, i2, i3⟩ := B_put k v l hl
      obtain ⟨j1, j2, j3, j4⟩ := B_bal i1 hr (by omega) (by omega)
      refine ⟨j1, ?_, ?_⟩ <;> simp only [ht] <;> omega
    · obtain ⟨i1, i2, i3⟩ := B_put k v r hr
      obtain ⟨j1, j2, j3, j4⟩ := B_bal hl i1 (by omega) (by omega)
      refine ⟨j1, ?_, ?_⟩ <;> simp only [ht] <;> omega
theorem B_cut (k : List UInt8) : ∀ t : Tn, t.B → (∀ u, (cut k t).1 = some u → u.B ∧ u.ht ≤ t.ht ∧ t.ht ≤ u.ht + 1) ∧ ((cut k t).1 = none → t.ht = 0)
  | leaf k' w, _ => by
    unfold cut
    split
    · simp [ht]
    · simp [B, ht]
  | node l r, h => by
    obtain ⟨hl, hr, h1, h2⟩ := h
    have hself : ∀ u, some (node l r) = some u → u.B ∧ u.ht ≤ (node l r).ht ∧ (node l r).ht ≤ u.ht + 1 := fun u hu => by
      obtain rfl := Option.some.inj hu
      exact ⟨⟨hl, hr, h1, h2⟩, Nat.le_refl _, Nat.le_succ _⟩
    unfold cut
    split
    · obtain ⟨i1, i2⟩ := B_cut k l hl
      cases hc : cut k l with
      | mk o w =>
        rw [hc] at i1 i2
        cases w with
        | false => simp only [cutR]; exact ⟨hself, fun h => by simp at h⟩
        | true =>
          cases o with
          | none =>
            have := i2 rfl
            simp only [cutR]
            refine ⟨fun u hu => ?_, fun h => by simp at h⟩
            obtain rfl := Option.some.inj hu
            refine ⟨hr, ?_, ?_⟩ <;> simp only [ht] <;> omega
          | some l' =>
            obtain ⟨k1, k2, k3⟩ := i1 l' rfl
            obtain ⟨j1, j2, j3, j4⟩ := B_bal k1 hr (by omega) (by omega)
            simp only [cutR]
            refine ⟨fun u hu => ?_, fun h => by simp at h⟩
            obtain rfl := Option.some.inj hu
            refine ⟨j1, ?_, ?_⟩ <;> simp only [ht] <;> omega
    · obtain ⟨i1, i2⟩ := B_cut k r hr
      cases hc : cut k r with
      | mk o w =>
        rw [hc] at i1 i2
        cases w with
        | false => simp only [cutR]; exact ⟨hself, fun h => by simp at h⟩
        | true =>
          cases o with
          | none =>
            have := i2 rfl
            simp only [cutR]
            refine ⟨fun u hu => ?_, fun h => by simp at h⟩
            obtain rfl := Option.some.inj hu
            refine ⟨hl, ?_, ?_⟩ <;> simp only [ht] <;> omega
          | some r' =>
            obtain ⟨k1, k2, k3⟩ := i1 r' rfl
            obtain ⟨j1, j2, j3, j4⟩ := B_bal hl k1 (by omega) (by omega)
            simp only [cutR]
            refine ⟨fun u hu => ?_, fun h => by simp at h⟩
            obtain rfl := Option.some.inj hu
            refine ⟨j1, ?_, ?_⟩ <;> simp only [ht] <;> omega
/-! ### Height -/
def N : Nat → Nat
  | 0 => 1
  | 1 => 2
  | h + 2 => N (h + 1) + N h
end Tn
/-! ### What Grow gives -/
structure GLaw (s : GS) : Prop where
  leaves : Tn.leaveso s.1 = s.2
  rise : Rise s.2
  bal : ∀ u, s.1 = some u → u.B
theorem GLaw.put {s : GS} (h : GLaw s) (k : List UInt8) (v : Option (List UInt8)) : GLaw (gput k v s) := by
  obtain ⟨t, l⟩ := s
  obtain ⟨h1, h2, h3⟩ := h
  simp only at h1 h2 h3
  subst h1
  refine ⟨?_, h2.put, fun u hu => ?_⟩
  · cases t with
    | none => rfl
    | some t => exact Tn.leaves_put k v t h2
  · simp only [gput, Option.some.injEq] at hu
    subst hu
    cases t with
    | none => trivial
    | some t => exact (Tn.B_put k v t (h3 t rfl)).1
theorem GLaw.cut {s : GS} (h : GLaw s) (k : List UInt8) : GLaw (gcut k s) := by
  obtain ⟨t, l⟩ := s
  obtain ⟨h1, h2, h3⟩ := h
  simp only at h1 h2 h3
  subst h1
  refine ⟨?_, h2.cut, fun u hu => ?_⟩
  · cases t with
    | none => rfl
    | some t => exact (Tn.leaves_cut k t h2).1
  · cases t with
    | none => simp [gcut, Tn.cuto] at hu
    | some t => exact ((Tn.B_cut k t (h3 t rfl)).1 u hu).1
theorem growS_law (most : Nat) : ∀ (l : List ActL) (i : Nat) (s : GS), GLaw s → GLaw (growS most l i s)
  | [], i, s, h => h
  | a :: r, i, s, h => by
    unfold growS
    split
    · exact h
    · refine growS_law most r (i + 1) _ ?_
      split
      · exact h.put _ _
      · exact h.cut _
theorem grown_law (most : Nat) (o : Option (List ActL)) : GLaw (grown most o) := growS_law most _ 0 _ ⟨rfl, List.Pairwise.nil, fun u hu => by simp at hu⟩
end Go.Fm
