/-
  A part of the proof: Fm36.
-/
import Derived.Test.YtjmjijgnbjkpnaaFm35
set_option linter.all false
set_option autoImplicit true
/-
  Code, its rest handed on: what it says is so. (First part: slots, regions.)
-/
set_option linter.unusedSimpArgs false
set_option linter.unusedVariables false
namespace Go.Fm
open Go
/-! ### Slots -/
/-- Less is known. -/
def Le (e2 e : Env) : Prop := e2.length = e.length ∧ ∀ (s : Nat) (v : AV), e2[s]? = some v → v = .any ∨ e[s]? = some v
theorem RVs.le {g : Gh} {w : World} {S : Nat → Nat → Prop} {us : List Value} {e e2 : Env} (h : RVs g w S us e) (hl : Le e2 e) : RVs g w S us e2 := by
  refine RVs.of e2 us (by rw [h.length, hl.1]) fun s x hx => ?_
  have hlt : s < us.length := by
    have := (List.getElem?_eq_some_iff.1 hx).1
    rw [h.length]
    have h1 := hl.1
    omega
  rcases hl.2 s x hx with rfl | h1
  · exact ⟨us[s], List.getElem?_eq_getElem hlt, .any _⟩
  · obtain ⟨u, h2, h3⟩ := RVs.get h s x h1
    exact ⟨u, h2, h3⟩
theorem Le.set {e2 e : Env} (h : Le e2 e) {t : Nat} {v : AV} (hv : e[t]? = some v) : Le (e2.set t v) e := by
  refine ⟨by rw [List.length_set, h.1], fun s x hx => ?_⟩
  by_cases hs : t = s
  · subst hs
    have hlt : t < e2.length := by rw [h.1]; exact (List.getElem?_eq_some_iff.1 hv).1
    rw [List.getElem?_set_self hlt] at hx
    rw [← hx]
    exact .inr hv
  · rw [List.getElem?_set_ne hs] at hx
    exact h.2 s x hx
theorem setK_le {α : Type} {e : Env} : ∀ {ts : List Tmp} {vs : List AV} {b : Env} {k : Env → Option α} {r : α}, Le b e → projL ts e = some vs → setK ts vs b k = some r → ∃ e2, Le e2 e ∧ k e2 = some r
  | [], vs, b, k, r, hl, hp, h => by
    simp only [projL, Option.some.injEq] at hp
    subst hp
    exact ⟨b, hl, by simpa [setK, un0] using h⟩
  | t :: ts, vs, b, k, r, hl, hp, h => by
    simp only [projL] at hp
    split at hp
    · rename_i v hv
      split at hp
      · rename_i vs' hvs
        simp only [Option.some.injEq] at hp
        subst hp
        simp only [setK, un] at h
        exact setK_le (hl.set hv) hvs h
      · simp at hp
    · simp at hp
theorem clearL_le {e : Env} : ∀ (ds : List Tmp) (b : Env), b.length = e.length → (∀ (s : Nat) (v : AV), b[s]? = some v → v = .any ∨ e[s]? = some v ∨ s ∈ ds) → Le (clearL ds b) e
  | [], b, hl, h => ⟨hl, fun s v hv => by simpa using h s v hv⟩
  | t :: ts, b, hl, h => by
    simp only [clearL]
    refine clearL_le ts _ (by rw [List.length_set, hl]) fun s v hv => ?_
    by_cases hs : t = s
    · subst hs
      by_cases hlt : t < b.length
      · rw [List.getElem?_set_self hlt] at hv
        exact .inl (Option.some.inj hv).symm
      · rw [List.getElem?_eq_none (by simpa using hlt)] at hv
        cases hv
    · rw [List.getElem?_set_ne hs] at hv
      rcases h s v hv with h | h | h
      · exact .inl h
      · exact .inr (.inl h)
      · rcases List.mem_cons.1 h with h | h
        · exact absurd h.symm hs
        · exact .inr (.inr h)
/-- The values of slots. -/
def pick (a : Act) (ts : List Tmp) : List Value := ts.map fun t => a.tmps.getD t undef
theorem projL_RVs {g : Gh} {w : World} {S : Nat → Nat → Prop} {a : Act} {e : Env} (he : REnv g w S a e) : ∀ {ts : List Tmp} {vs : List AV}, projL ts e = some vs → RVs g w S (pick a ts) vs
  | [], vs, h => by
    simp only [projL, Option.some.injEq] at h
    subst h
    exact .nil
  | t :: ts, vs, h => by
    simp only [projL] at h
    split at h
    · rename_i v hv
      split at h
      · rename_i vs' hvs
        simp only [Option.some.injEq] at h
        subst h
        obtain ⟨u, h1, h2⟩ := RVs.get he t v hv
        have hu : a.tmps.getD t undef = u := by
          have : a.tmps[t]? = some u := by simpa using h1
          simp [Array.getD_eq_getD_getElem?, this]
        show RVs g w S (a.tmps.getD t undef :: pick a ts) _
        rw [hu]
        exact .cons _ _ _ _ h2 (projL_RVs he hvs)
      · simp at h
    · simp at h
theorem setK_RVs {α : Type} {g : Gh} {w : World} {S : Nat → Nat → Prop} {a : Act} : ∀ {ts : List Tmp} {vs : List AV} {b : Env} {k : Env → Option α} {r : α}, REnv g w S a b → RVs g w S (pick a ts) vs → setK ts vs b k = some r → ∃ e2, REnv g w S a e2 ∧ k e2 = some r
  | [], vs, b, k, r, hb, hv, h => by
    cases hv
    exact ⟨b, hb, by simpa [setK, un0] using h⟩
  | t :: ts, vs, b, k, r, hb, hv, h => by
    cases hv with
    | cons u us v vs hv hvs =>
      simp only [setK, un] at h
      refine setK_RVs ?_ hvs h
      have := RVs.set hb hv t
      have e : a.tmps.toList.set t (a.tmps.getD t undef) = a.tmps.toList := by
        refine List.ext_getElem? fun i => ?_
        by_cases hi : t = i
        · subst hi
          by_cases hlt : t < a.tmps.size
          · rw [List.getElem?_set_self (by simpa using hlt)]
            simp [hlt]
          · rw [List.getElem?_eq_none (by simpa using hlt), List.getElem?_eq_none (by simpa using hlt)]
        · rw [List.getElem?_set_ne hi]
      rw [e] at this
      exact this
/-- What setK does, whatever the values are of. -/
theorem setK_ex {α : Type} : ∀ {ts : List Tmp} {vs : List AV} {b : Env} {k : Env → Option α} {r : α}, setK ts vs b k = some r → ∃ e2, (∀ {β : Type} (k' : Env → Option β), setK ts vs b k' = k' e2) ∧ k e2 = some r ∧ e2.length = b.length
  | [], [], b, k, r, h => ⟨b, fun _ => rfl, h, rfl⟩
  | [], _ :: _, b, k, r, h => by simp [setK, un0] at h
  | t :: ts, [], b, k, r, h => by simp [setK, un] at h
  | t :: ts, v :: vs, b, k, r, h => by
    simp only [setK, un] at h
    obtain ⟨e2, h1, h2, h3⟩ := setK_ex h
    exact ⟨e2, fun k' => by simp only [setK, un]; exact h1 k', h2, by rw [h3, List.length_set]⟩
theorem anys {g : Gh} {w : World} {S : Nat → Nat → Prop} : ∀ (us : List Value), RVs g w S us (List.replicate us.length .any)
  | [] => .nil
  | u :: us => .cons _ _ _ _ (.any u) (anys us)
/-! ### Regions -/
section
variable {C : Cfg} {cf : CallFn} {α : Type}
theorem bindE_some {β γ : Type} {x : Option (β × Heap)} {k : β → Heap → Option γ} {r : γ} (h : bindE x k = some r) : ∃ v H, x = some (v, H) ∧ k v H = some r := by
  unfold bindE at h
  split at h
  · rename_i v H
    exact ⟨v, H, rfl, h⟩
  · simp at h
theorem opsK_ex {all : List Oper} : ∀ {l : List Oper} {e : Env} {H : Heap} {k : Env → Heap → Option α} {r : α}, opsK C cf all l e H k = some r → ∃ e' H', execOps C cf all l e H = some (e', H') ∧ k e' H' = some r ∧ e'.length = e.length
  | [], e, H, k, r, h => ⟨e, H, rfl, h, rfl⟩
  | o :: l, e, H, k, r, h => by
    simp only [opsK] at h
    obtain ⟨v, H1, h1, h2⟩ := bindE_some h
    rw [forceE_eq] at h2
    obtain ⟨e', H', h3, h4, h5⟩ := opsK_ex h2
    refine ⟨e', H', ?_, h4, by rw [h5, putE_len]⟩
    unfold stepW at h1
    simp only [execOps]
    split at h1
    · rename_i hw
      rw [hw]
      simp only [h1, h3]
    · rename_i hw
      simp only [Option.some.injEq, Prod.mk.injEq] at h1
      obtain ⟨rfl, rfl⟩ := h1
      rw [hw]
      exact h3
    · simp at h1
theorem reachOp_vals (e : Env) (H : Heap) (o : Oper) : reachOp e H o = (valsOf e o).flatMap (reachV 24 H) := by
  unfold reachOp valsOf
  induction o.op.operands.toList with
  | nil => rfl
  | cons x xs ih =>
    rw [List.flatMap_cons, ih]
    cases x with
    | tmp i => cases h : e[i]? <;> simp [h, List.filterMap_cons]
    | _ => simp [List.filterMap_cons]
theorem opBelow_vals (e : Env) (o : Oper) (n : Nat) : opBelow e o n = (valsOf e o).all fun v => v.all fun id => decide (id < n) := by
  unfold opBelow valsOf
  induction o.op.operands.toList with
  | nil => rfl
  | cons x xs ih =>
    rw [List.all_cons, ih]
    cases x with
    | tmp i => cases h : e[i]? <;> simp [h, List.filterMap_cons]
    | _ => simp [List.filterMap_cons]
theorem drawW_step {all : List Oper} {e : Env} {H H' : Heap} {o : Oper} {v : AV} {t : Trail} (h : drawW C cf all e H o = some ((v, t), H')) : drawStep C cf all e H o = some (putE e o.dst v, H', t) := by
  unfold drawW at h
  unfold drawStep
  split at h
  · rename_i hw
    rw [hw]
    split at h
    · rename_i x hx
      unfold drawM at h
      simp only [holdH_eq] at h
      split at h
      · rename_i v1 hv
        simp only [Option.some.injEq, Prod.mk.injEq] at h
        obtain ⟨⟨rfl, rfl⟩, rfl⟩ := h
        simp only [hx, hv]
      · simp at h
    · rename_i hx
      simp only [hx, reachOp_vals, opBelow_vals]
      unfold drawR at h
      simp only at h
      split at h
      · simp at h
      · rename_i v1 F' hst
        rw [hst]
        split at h
        · rename_i hc
          simp only [Option.some.injEq, Prod.mk.injEq] at h
          obtain ⟨⟨rfl, rfl⟩, rfl⟩ := h
          simp only []
          rw [if_pos hc]
        · simp at h
  · rename_i hw
    simp only [Option.some.injEq, Prod.mk.injEq] at h
    obtain ⟨⟨rfl, rfl⟩, rfl⟩ := h
    rw [hw]
  · simp at h
theorem dstsOf_mem {d : Tmp} (l : List Oper) {o : Oper} (h : o ∈ l) (hd : o.dst = some d) : d ∈ dstsOf l := by
  induction l with
  | nil => simp at h
  | cons o' l ih =>
    simp only [dstsOf]
    rcases List.mem_cons.1 h with rfl | h
    · rw [hd]; exact List.mem_cons_self ..
    · have := ih h
      split
      · exact List.mem_cons_of_mem _ this
      · exact this
theorem drawK_ex {all : List Oper} : ∀ {l : List Oper} {hist : List Trail} {e : Env} {H : Heap} {k : Env → Heap → List Trail → Option α} {r : α}, drawK C cf all l hist e H k = some r →
    ∃ e' H' hist', drawOps C cf all l hist e H = some (e', H', hist') ∧ k e' H' hist' = some r ∧ e'.length = e.length ∧ ∀ s, s ∉ dstsOf l → e'[s]? = e[s]?
  | [], hist, e, H, k, r, h => ⟨e, H, hist, rfl, h, rfl, fun _ _ => rfl⟩
  | o :: l, hist, e, H, k, r, h => by
    simp only [drawK] at h
    obtain ⟨⟨v, t⟩, H1, h1, h2⟩ := bindE_some h
    rw [forceE_eq] at h2
    obtain ⟨e', H', hist', h3, h4, h5, h6⟩ := drawK_ex h2
    refine ⟨e', H', hist', by simp only [drawOps, drawW_step h1]; exact h3, h4, by rw [h5, putE_len], fun s hs => ?_⟩
    have hs1 : s ∉ dstsOf l := fun hm => hs (by
      simp only [dstsOf]
      split
      · exact List.mem_cons_of_mem _ hm
      · exact hm)
    rw [h6 s hs1]
    refine putE_get ?_
    cases hd : o.dst with
    | none => rfl
    | some d =>
      have : d ≠ s := fun e => by subst e; exact hs (dstsOf_mem _ (List.mem_cons_self ..) hd)
      simpa using this
theorem drawPass_ex {outs : List Tmp} {ops : List Oper} {e : Env} {H H' : Heap} {vs : List AV} {hist : List Trail} (h : drawPass C cf outs ops e H = some ((vs, hist), H')) :
    ∃ e', drawOps C cf ops ops [] e H = some (e', H', hist) ∧ projL outs e' = some vs ∧ e'.length = e.length ∧ ∀ s, s ∉ dstsOf ops → e'[s]? = e[s]? := by
  unfold drawPass at h
  obtain ⟨e', H1, hist1, h1, h2, h3, h4⟩ := drawK_ex h
  split at h2
  · rename_i vs1 hp
    simp only [Option.some.injEq, Prod.mk.injEq] at h2
    obtain ⟨⟨rfl, rfl⟩, rfl⟩ := h2
    exact ⟨e', h1, hp, h3, h4⟩
  · simp at h2
theorem twice_ex {outs : List Tmp} {ops : Array Oper} {e : Env} {H H' : Heap} {vs : List AV} (h : twice (ancsFrom ops.toList []) (drawPass C cf outs ops.toList e) H = some (vs, H')) :
    ∃ e', execDraw C cf ops e H = some (e', H') ∧ projL outs e' = some vs ∧ e'.length = e.length ∧ ∀ s, s ∉ dstsOf ops.toList → e'[s]? = e[s]? := by
  unfold twice at h
  unfold execDraw
  split at h
  · simp at h
  · rename_i vs1 hist H1 hp
    obtain ⟨e1, h1, h2, h3, h4⟩ := drawPass_ex hp
    rw [h1]
    simp only []
    split at h
    · rename_i hc
      simp only [Option.some.injEq, Prod.mk.injEq] at h
      obtain ⟨rfl, rfl⟩ := h
      rw [if_pos hc]
      exact ⟨e1, rfl, h2, h3, h4⟩
    · rename_i hc
      rw [if_neg hc]
      split at h
      · simp at h
      · rename_i H0 hf
        rw [hf]
        simp only []
        split at h
        · simp at h
        · rename_i vs2 hist2 H2 hp2
          obtain ⟨e2, k1, k2, k3, k4⟩ := drawPass_ex hp2
          rw [k1]
          simp only []
          split at h
          · rename_i hc2
            simp only [Option.some.injEq, Prod.mk.injEq] at h
            obtain ⟨rfl, rfl⟩ := h
            rw [if_pos hc2]
            exact ⟨e2, rfl, k2, k3, k4⟩
          · simp at h
end
end Go.Fm
