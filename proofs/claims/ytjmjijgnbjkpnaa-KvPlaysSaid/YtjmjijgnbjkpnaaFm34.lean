/-
  A part of the proof: Fm34.
-/
import Derived.Test.YtjmjijgnbjkpnaaFm33
set_option linter.all false
set_option autoImplicit true
/-
  Out of a part of a heap: what has become of it is laid back.
-/
set_option linter.unusedSimpArgs false
set_option linter.unusedVariables false
namespace Go.Fm
open Go
/-- The name outside of what bears a number inside. -/
def outer (ids : List Nat) (n i : Nat) : Nat := if i < ids.length then ids.getD i 0 else n + (i - ids.length)
/-- The blocks of a part, laid back; what is new, behind. -/
def putBack (σ : Nat → Nat) : List Nat → Heap → Heap → Heap
  | id :: ids, b :: bs, H => putBack σ ids bs (H.set id (b.map σ))
  | _, bs, H => H ++ bs.map (Blk.map σ)
theorem putBack_length (σ : Nat → Nat) : ∀ (ids : List Nat) (bs H : Heap), ids.length ≤ bs.length → (putBack σ ids bs H).length = H.length + (bs.length - ids.length)
  | [], bs, H, h => by simp [putBack]
  | id :: ids, [], H, h => by simp at h
  | id :: ids, b :: bs, H, h => by
    simp only [putBack]
    rw [putBack_length σ ids bs _ (by simpa using h)]
    simp
theorem putBack_get (σ : Nat → Nat) : ∀ (ids : List Nat) (bs H : Heap), ids.length ≤ bs.length → ids.Nodup → (∀ id ∈ ids, id < H.length) → ∀ j,
    (putBack σ ids bs H)[j]? = if j ∈ ids then (bs[ids.idxOf j]?).map (Blk.map σ) else if j < H.length then H[j]? else (bs[j - H.length + ids.length]?).map (Blk.map σ)
  | [], bs, H, h, hn, hl, j => by
    simp only [putBack, List.not_mem_nil, if_false, List.length_nil, Nat.add_zero]
    by_cases hj : j < H.length
    · rw [List.getElem?_append_left hj, if_pos hj]
    · rw [List.getElem?_append_right (by omega), if_neg hj, List.getElem?_map]
  | id :: ids, [], H, h, hn, hl, j => by simp at h
  | id :: ids, b :: bs, H, h, hn, hl, j => by
    have hn' := List.nodup_cons.1 hn
    simp only [putBack]
    rw [putBack_get σ ids bs _ (by simpa using h) hn'.2 (fun i hi => by rw [List.length_set]; exact hl i (List.mem_cons_of_mem _ hi)) j]
    simp only [List.length_set, List.length_cons]
    by_cases hj : j ∈ ids
    · have hne : id ≠ j := fun e => hn'.1 (e ▸ hj)
      have e0 : (id :: ids).idxOf j = ids.idxOf j + 1 := by simp [List.idxOf_cons, hne, cond]; try (split <;> simp_all)
      rw [if_pos hj, if_pos (List.mem_cons_of_mem _ hj), e0]
      simp
    · rw [if_neg hj]
      by_cases he : j = id
      · subst he
        have := hl j (List.mem_cons_self ..)
        rw [if_pos (List.mem_cons_self ..), if_pos this]
        simp [this]
      · rw [if_neg (show ¬ j ∈ id :: ids by simp [he, hj]), List.getElem?_set_ne (fun e => he e.symm)]
        by_cases hlt : j < H.length
        · rw [if_pos hlt, if_pos hlt]
        · rw [if_neg hlt, if_neg hlt]
          have e : j - H.length + (ids.length + 1) = (j - H.length + ids.length) + 1 := by omega
          rw [e, List.getElem?_cons_succ]
/-- The number inside of what bears a name outside. -/
def inner (ids : List Nat) (n m id : Nat) : Option Nat :=
  if id ∈ ids then some (ids.idxOf id) else if n ≤ id ∧ id - n + ids.length < m then some (id - n + ids.length) else none
def Gh.back (g g3 : Gh) (ids : List Nat) (n : Nat) (F3 : Heap) : Gh where
  φ := fun id => match inner ids n F3.length id with
    | some i => g3.φ i
    | none => g.φ id
  β := fun id => match inner ids n F3.length id with
    | some i => g3.β i
    | none => g.β id
  κ := fun id => match inner ids n F3.length id with
    | some i => g3.κ i
    | none => g.κ id
  vt := fun id => match inner ids n F3.length id with
    | some i => g3.vt i
    | none => g.vt id
  G := fun id => match inner ids n F3.length id with
    | some i => (F3[i]?).map (Blk.map (outer ids n))
    | none => g.G id
section
variable {C : Cfg} {S0 : Nat → Nat → Prop} {g : Gh} {w : World} {H : Heap} {ids : List Nat} {k : Nat} {vs : List AV}
theorem inner_outer (hn : ids.Nodup) (hl : ∀ id ∈ ids, id < H.length) {m i : Nat} (hi : i < m) : inner ids H.length m (outer ids H.length i) = some i := by
  unfold inner outer
  by_cases h : i < ids.length
  · rw [if_pos h, List.getD_eq_getElem?_getD, List.getElem?_eq_getElem h]
    simp only [Option.getD_some]
    rw [if_pos (List.getElem_mem h), hn.idxOf_getElem i h]
  · rw [if_neg h]
    have hnot : H.length + (i - ids.length) ∉ ids := fun hm => by have := hl _ hm; omega
    rw [if_neg hnot, if_pos (by omega)]
    congr 1
    omega
theorem outer_inner (hn : ids.Nodup) {m id i : Nat} (hlen : ids.length ≤ m) (h : inner ids n m id = some i) : i < m ∧ id = outer ids n i := by
  unfold inner at h
  split at h
  · rename_i hm
    simp only [Option.some.injEq] at h
    subst h
    have hlt := List.idxOf_lt_length_iff.2 hm
    refine ⟨by omega, ?_⟩
    unfold outer
    rw [if_pos hlt, List.getD_eq_getElem?_getD, List.getElem?_eq_getElem hlt]
    simp
  · split at h
    · rename_i hm hc
      simp only [Option.some.injEq] at h
      subst h
      refine ⟨hc.2, ?_⟩
      unfold outer
      rw [if_neg (by omega)]
      omega
    · simp at h
theorem viewOut {F3 : Heap} {g3 : Gh} {w3 : World} (hO : Ok C S0 g w H) (hsel : Sel k vs H ids) (hO3 : Ok C (selS S0 g ids) g3 w3 F3) (hst : Step (g.sel ids H) w g3 w3) :
    Ok C S0 (g.back g3 ids H.length F3) w3 (putBack (outer ids H.length) ids F3 H) ∧ Step g w (g.back g3 ids H.length F3) w3 ∧
      ∀ u v, RV g3 w3 (g3.St (selS S0 g ids)) u v → RV (g.back g3 ids H.length F3) w3 ((g.back g3 ids H.length F3).St S0) u (v.map (outer ids H.length)) := by
  have hI := hO.inv
  have hR := hO.real
  have hG : ∀ id, g.G id = H[id]? := fun id => by rw [hO.heap]; rfl
  have hG3 : ∀ i, g3.G i = F3[i]? := fun i => by rw [hO3.heap]; rfl
  have hidl : ∀ id ∈ ids, id < H.length := fun id hid => by
    obtain ⟨b, h1, _⟩ := hsel.closed id hid
    exact (List.getElem?_eq_some_iff.1 h1).1
  have hle : ids.length ≤ F3.length := by
    rcases Nat.eq_zero_or_pos ids.length with h | h
    · omega
    · have hm : ids[ids.length - 1]'(by omega) ∈ ids := List.getElem_mem _
      obtain ⟨b, h1, h2⟩ := hsel.to (g := g) hm
      rw [hsel.nodup.idxOf_getElem] at h2
      obtain ⟨b', h3, _⟩ := hst.ids _ _ h2
      rw [hG3] at h3
      have := (List.getElem?_eq_some_iff.1 h3).1
      omega
  generalize hσ : outer ids H.length = σ at *
  have t1 : ∀ id i, inner ids H.length F3.length id = some i → i < F3.length ∧ id = σ i := fun id i h => by rw [← hσ]; exact outer_inner hsel.nodup hle h
  have t2 : ∀ i, i < F3.length → inner ids H.length F3.length (σ i) = some i := fun i h => by rw [← hσ]; exact inner_outer hsel.nodup hidl h
  have u1 : ∀ id, inner ids H.length F3.length id = none → id ∉ ids := fun id h hm => by simp [inner, hm] at h
  have gt : ∀ i, i < F3.length → (g.back g3 ids H.length F3).φ (σ i) = g3.φ i ∧ (g.back g3 ids H.length F3).β (σ i) = g3.β i ∧ (g.back g3 ids H.length F3).κ (σ i) = g3.κ i ∧ (g.back g3 ids H.length F3).vt (σ i) = g3.vt i ∧
      (g.back g3 ids H.length F3).G (σ i) = (g3.G i).map (Blk.map σ) := fun i h1 => by simp [Gh.back, t2 i h1, hG3, hσ]
  have gn : ∀ id, inner ids H.length F3.length id = none → (g.back g3 ids H.length F3).φ id = g.φ id ∧ (g.back g3 ids H.length F3).β id = g.β id ∧ (g.back g3 ids H.length F3).κ id = g.κ id ∧ (g.back g3 ids H.length F3).vt id = g.vt id ∧
      (g.back g3 ids H.length F3).G id = g.G id := fun id h => by simp [Gh.back, h]
  have hheap : (g.back g3 ids H.length F3).G = get (putBack σ ids F3 H) := by
    funext id
    show _ = (putBack σ ids F3 H)[id]?
    rw [putBack_get σ ids F3 H hle hsel.nodup hidl]
    cases h : inner ids H.length F3.length id with
    | some i =>
      obtain ⟨h1, h2⟩ := t1 id i h
      subst h2
      rw [(gt i h1).2.2.2.2, hG3]
      unfold inner at h
      split at h
      · rename_i hm
        simp only [Option.some.injEq] at h
        rw [if_pos hm, h]
      · split at h
        · rename_i hm hc
          simp only [Option.some.injEq] at h
          rw [if_neg hm, if_neg (by omega), h]
        · simp at h
    | none =>
      rw [(gn id h).2.2.2.2, hG]
      unfold inner at h
      split at h
      · simp at h
      · rename_i hm
        split at h
        · simp at h
        · rename_i hc
          rw [if_neg hm]
          by_cases hlt : id < H.length
          · rw [if_pos hlt]
          · rw [if_neg hlt, List.getElem?_eq_none (by omega), List.getElem?_eq_none (by omega)]
            rfl
  generalize hg4 : g.back g3 ids H.length F3 = g4 at *
  have lt3 : ∀ i, (g3.G i).isSome = true → i < F3.length := fun i h => by
    rw [hG3] at h
    obtain ⟨b, hb⟩ := Option.isSome_iff_exists.1 h
    exact (List.getElem?_eq_some_iff.1 hb).1
  have hst34 : ∀ b o, g3.St (selS S0 g ids) b o → g4.St S0 b o := by
    rintro b o ⟨⟨h0, h1⟩, h2⟩
    refine ⟨h0, fun id blk hG hok hvt => ?_⟩
    cases ht : inner ids H.length F3.length id with
    | some i =>
      obtain ⟨hi, rfl⟩ := t1 id i ht
      obtain ⟨e1, e2, e3, e4, e5⟩ := gt i hi
      rw [e5, Option.map_eq_some_iff] at hG
      obtain ⟨b', hb', rfl⟩ := hG
      rw [e1]
      exact h2 i b' hb' (by rw [← Blk.map_ok]; exact hok) (by rw [← e4]; exact hvt)
    | none =>
      obtain ⟨e1, e2, e3, e4, e5⟩ := gn id ht
      rw [e5] at hG
      rw [e1]
      exact h1 id blk hG hok (by rw [← e4]; exact hvt) (u1 id ht)
  have hstays : Stays w3 (g3.St (selS S0 g ids)) w3 (g4.St S0) := fun b o v hc hs => ⟨hc, hst34 b o hs, fun h => h, fun h q => hst34 b q (h q)⟩
  have hemb : EmbM g3 g4 σ (fun _ => true) := {
    some := fun i _ hs => by
      obtain ⟨e1, e2, e3, e4, e5⟩ := gt i (lt3 i hs)
      exact ⟨by rw [e5]; simpa using hs, e1⟩
    len := fun i m _ hs hm => by
      obtain ⟨e1, e2, e3, e4, e5⟩ := gt i (lt3 i hs)
      rw [e5] at hm
      refine ⟨?_, by simp only [Gh.rowVal, e1, e2, e3, e4]⟩
      cases hb : g3.G i with
      | none => rw [hb] at hm; simp at hm
      | some b => rw [hb] at hm; simpa [Blk.map_len] using hm
    sz := fun i m _ hs hm => by
      obtain ⟨e1, e2, e3, e4, e5⟩ := gt i (lt3 i hs)
      rw [e5] at hm
      refine ⟨?_, e2⟩
      cases hb : g3.G i with
      | none => rw [hb] at hm; simp at hm
      | some b => rw [hb] at hm; simpa [Blk.map_sz] using hm }
  have ball : ∀ b : Blk, b.all (fun _ => true) = true := fun b => by rw [Blk.all_ids]; simp
  have vall : ∀ v : AV, v.all (fun _ => true) = true := fun v => by rw [AV.all_ids]; simp
  -- what was left out lies as it lay
  have keepF : ∀ id b, inner ids H.length F3.length id = none → g.G id = some b → b.ok = false → g.vt id = false → w3.heap[g.φ id]? = w.heap[g.φ id]? ∧ g3.free (g.φ id) := fun id b ht hb hok hv => by
    refine hst.keep _ (hI.lt id b hb hv) fun j blk hj hoj hvj => ?_
    obtain ⟨jd, c0, j1, j2, j3, rfl, j5, rfl⟩ := hsel.at hj
    simp only [Gh.sel, j2] at hvj ⊢
    have hne : jd ≠ id := fun e => u1 id ht (e ▸ List.mem_of_getElem? j1)
    exact hI.inj jd c0 id b (by rw [hG]; exact j3) hb (by rw [← Blk.map_ok]; exact hoj) hok hvj hv hne
  have hfree34 : ∀ b, g.free b → g3.free b → g4.free b := fun b h1 h2 id blk hG hok hvt => by
    cases ht : inner ids H.length F3.length id with
    | some i =>
      obtain ⟨hi, rfl⟩ := t1 id i ht
      obtain ⟨e1, e2, e3, e4, e5⟩ := gt i hi
      rw [e5, Option.map_eq_some_iff] at hG
      obtain ⟨b', hb', rfl⟩ := hG
      rw [e1]
      exact h2 i b' hb' (by rw [← Blk.map_ok]; exact hok) (by rw [← e4]; exact hvt)
    | none =>
      obtain ⟨e1, e2, e3, e4, e5⟩ := gn id ht
      rw [e5] at hG
      rw [e1]
      exact h1 id blk hG hok (by rw [← e4]; exact hvt)
  have hstep : Step g w g4 w3 := {
    size := hst.size
    os := hst.os
    tape := hst.tape
    output := hst.output
    ids := fun id b hb => by
      cases ht : inner ids H.length F3.length id with
      | some i =>
        have hlt : id < H.length := by rw [hG] at hb; exact (List.getElem?_eq_some_iff.1 hb).1
        have hm : id ∈ ids := by
          unfold inner at ht
          split at ht
          · assumption
          · split at ht
            · omega
            · simp at ht
        have hi' : ids.idxOf id = i := by unfold inner at ht; rw [if_pos hm] at ht; exact Option.some.inj ht
        obtain ⟨hi, e0⟩ := t1 id i ht
        obtain ⟨e1, e2, e3, e4, e5⟩ := gt i hi
        rw [← e0] at e1 e2 e3 e4 e5
        obtain ⟨bb, k1, k2⟩ := hsel.to (g := g) hm
        have : bb = b := by rw [hG, k1] at hb; exact Option.some.inj hb
        subst this
        rw [hi'] at k2
        have hd : ids.getD i 0 = id := by rw [← hi']; exact hsel.mem hm
        obtain ⟨b', m1, m2, m3, m4, m5, m6, m7⟩ := hst.ids i _ k2
        refine ⟨b'.map σ, by rw [e5, m1]; rfl, by rw [e1, m2]; simp only [Gh.sel, hd], by rw [e2, m3]; simp only [Gh.sel, hd], by rw [e3, m4]; simp only [Gh.sel, hd], by rw [e4, m5]; simp only [Gh.sel, hd],
          fun n hn => by rw [Blk.map_len] at hn; have := m6 n hn; rwa [Blk.map_len] at this, fun n hn => by rw [Blk.map_sz] at hn; have := m7 n hn; rwa [Blk.map_sz] at this⟩
      | none =>
        obtain ⟨e1, e2, e3, e4, e5⟩ := gn id ht
        exact ⟨b, by rw [e5]; exact hb, e1, e2, e3, e4, fun _ h => h, fun _ h => h⟩
    keep := fun b hb hf => by
      obtain ⟨h1, h2⟩ := hst.keep b hb (sel_free hO.heap hsel hf)
      exact ⟨h1, hfree34 b hf h2⟩ }
  refine ⟨⟨⟨fun id b hb => ?_, fun id b hb hv => ?_, fun i bi j bj hi hj oi oj vi vj hij => ?_, fun b o hb => hI.fresh b o (Nat.le_trans hst.size hb), fun id b hb hok hv o => ?_⟩, fun id b hb hok hlen => ?_, hO3.gl.stays hstays, hheap⟩, hstep,
    fun u v hv => hv.embM hemb hstays (vall v)⟩
  · cases ht : inner ids H.length F3.length id with
    | some i =>
      obtain ⟨hi, rfl⟩ := t1 id i ht
      obtain ⟨e1, e2, e3, e4, e5⟩ := gt i hi
      rw [e5, Option.map_eq_some_iff] at hb
      obtain ⟨b', hb', rfl⟩ := hb
      exact RB.embM hemb hstays (fun _ => rfl) (ball b') e1 e2 e3 e4 (hO3.inv.blk i b' hb')
    | none =>
      obtain ⟨e1, e2, e3, e4, e5⟩ := gn id ht
      rw [e5] at hb
      exact (hI.blk id b hb).step hstep (hstep.stays S0) hb (fun hok hv => (keepF id b ht hb hok hv).1) (fun hok hl => hR id b hb hok hl)
  · cases ht : inner ids H.length F3.length id with
    | some i =>
      obtain ⟨hi, rfl⟩ := t1 id i ht
      obtain ⟨e1, e2, e3, e4, e5⟩ := gt i hi
      rw [e5, Option.map_eq_some_iff] at hb
      obtain ⟨b', hb', rfl⟩ := hb
      rw [e1]
      exact hO3.inv.lt i b' hb' (by rw [← e4]; exact hv)
    | none =>
      obtain ⟨e1, e2, e3, e4, e5⟩ := gn id ht
      rw [e5] at hb
      rw [e1]
      exact Nat.lt_of_lt_of_le (hI.lt id b hb (by rw [← e4]; exact hv)) hst.size
  · cases ti : inner ids H.length F3.length i with
    | some i' =>
      obtain ⟨hi', rfl⟩ := t1 i i' ti
      obtain ⟨e1, e2, e3, e4, e5⟩ := gt i' hi'
      rw [e5, Option.map_eq_some_iff] at hi
      obtain ⟨b1, hb1, rfl⟩ := hi
      rw [Blk.map_ok] at oi
      cases tj : inner ids H.length F3.length j with
      | some j' =>
        obtain ⟨hj', rfl⟩ := t1 j j' tj
        obtain ⟨d1, d2, d3, d4, d5⟩ := gt j' hj'
        rw [d5, Option.map_eq_some_iff] at hj
        obtain ⟨b2, hb2, rfl⟩ := hj
        rw [Blk.map_ok] at oj
        rw [e1, d1]
        exact hO3.inv.inj i' b1 j' b2 hb1 hb2 oi oj (by rw [← e4]; exact vi) (by rw [← d4]; exact vj) (fun e => hij (by rw [e]))
      | none =>
        obtain ⟨d1, d2, d3, d4, d5⟩ := gn j tj
        rw [d5] at hj
        rw [e1, d1]
        exact (keepF j bj tj hj oj (by rw [← d4]; exact vj)).2 i' b1 hb1 oi (by rw [← e4]; exact vi)
    | none =>
      obtain ⟨e1, e2, e3, e4, e5⟩ := gn i ti
      rw [e5] at hi
      cases tj : inner ids H.length F3.length j with
      | some j' =>
        obtain ⟨hj', rfl⟩ := t1 j j' tj
        obtain ⟨d1, d2, d3, d4, d5⟩ := gt j' hj'
        rw [d5, Option.map_eq_some_iff] at hj
        obtain ⟨b2, hb2, rfl⟩ := hj
        rw [Blk.map_ok] at oj
        rw [e1, d1]
        exact fun e => (keepF i bi ti hi oi (by rw [← e4]; exact vi)).2 j' b2 hb2 oj (by rw [← d4]; exact vj) e.symm
      | none =>
        obtain ⟨d1, d2, d3, d4, d5⟩ := gn j tj
        rw [d5] at hj
        rw [e1, d1]
        exact hI.inj i bi j bj hi hj oi oj (by rw [← e4]; exact vi) (by rw [← d4]; exact vj) hij
  · cases ht : inner ids H.length F3.length id with
    | some i =>
      obtain ⟨hi, rfl⟩ := t1 id i ht
      obtain ⟨e1, e2, e3, e4, e5⟩ := gt i hi
      rw [e5, Option.map_eq_some_iff] at hb
      obtain ⟨b', hb', rfl⟩ := hb
      rw [Blk.map_ok] at hok
      rw [e1]
      exact (hO3.inv.s0 i b' hb' hok (by rw [← e4]; exact hv) o).1
    | none =>
      obtain ⟨e1, e2, e3, e4, e5⟩ := gn id ht
      rw [e5] at hb
      rw [e1]
      exact hI.s0 id b hb hok (by rw [← e4]; exact hv) o
  · cases ht : inner ids H.length F3.length id with
    | some i =>
      obtain ⟨hi, rfl⟩ := t1 id i ht
      obtain ⟨e1, e2, e3, e4, e5⟩ := gt i hi
      rw [e5, Option.map_eq_some_iff] at hb
      obtain ⟨b', hb', rfl⟩ := hb
      rw [Blk.map_ok] at hok
      rw [Blk.map_len] at hlen
      rw [e4]
      exact hO3.real i b' hb' hok hlen
    | none =>
      obtain ⟨e1, e2, e3, e4, e5⟩ := gn id ht
      rw [e5] at hb
      rw [e4]
      exact hR id b hb hok hlen
end
end Go.Fm
