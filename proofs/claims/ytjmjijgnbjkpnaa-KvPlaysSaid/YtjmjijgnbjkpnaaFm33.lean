/-
  A part of the proof: Fm33.
-/
import Derived.Test.YtjmjijgnbjkpnaaFm32
set_option linter.all false
set_option autoImplicit true
/-
  What a list of values leads to; a heap of that alone.
-/
set_option linter.unusedSimpArgs false
set_option linter.unusedVariables false
namespace Go.Fm
open Go
mutual
/-- The numbers that a value names. -/
def AV.ids : AV → List Nat
  | .c _ => []
  | .ov id _ _ => [id]
  | .os id => [id]
  | .oe id _ _ _ => [id]
  | .mp id => [id]
  | .agg l => AV.idss l
  | .tup l => AV.idss l
  | .fn _ l => AV.idss l
  | .any => []
def AV.idss : List AV → List Nat
  | [] => []
  | v :: vs => v.ids ++ AV.idss vs
end
def Blk.ids : Blk → List Nat
  | .var _ v => v.ids
  | _ => []
mutual
theorem AV.all_ids (p : Nat → Bool) : ∀ a : AV, a.all p = true ↔ ∀ j ∈ a.ids, p j = true
  | .c _ => by simp [AV.all, AV.ids]
  | .ov .. => by simp [AV.all, AV.ids]
  | .os _ => by simp [AV.all, AV.ids]
  | .oe .. => by simp [AV.all, AV.ids]
  | .mp _ => by simp [AV.all, AV.ids]
  | .any => by simp [AV.all, AV.ids]
  | .agg l => by simp only [AV.all, AV.ids]; exact AV.alls_ids p l
  | .tup l => by simp only [AV.all, AV.ids]; exact AV.alls_ids p l
  | .fn _ l => by simp only [AV.all, AV.ids]; exact AV.alls_ids p l
theorem AV.alls_ids (p : Nat → Bool) : ∀ l : List AV, AV.alls p l = true ↔ ∀ j ∈ AV.idss l, p j = true
  | [] => by simp [AV.alls, AV.idss]
  | v :: vs => by
    simp only [AV.alls, AV.idss, Bool.and_eq_true, List.mem_append, AV.all_ids p v, AV.alls_ids p vs]
    constructor
    · rintro ⟨h1, h2⟩ j (hj | hj)
      · exact h1 j hj
      · exact h2 j hj
    · exact fun h => ⟨fun j hj => h j (.inl hj), fun j hj => h j (.inr hj)⟩
end
theorem Blk.all_ids (p : Nat → Bool) (b : Blk) : b.all p = true ↔ ∀ j ∈ b.ids, p j = true := by
  cases b <;> simp only [Blk.all, Blk.ids, AV.all_ids] <;> simp
/-- All that is come to, breadth first. -/
def grow (H : Heap) : Nat → List Nat → List Nat → Option (List Nat)
  | _, [], seen => some seen
  | 0, _ :: _, _ => none
  | n + 1, id :: todo, seen => if seen.contains id = true then grow H n todo seen
      else match H[id]? with
        | some b => grow H n (todo ++ b.ids) (seen ++ [id])
        | none => none
theorem grow_ok (H : Heap) : ∀ (n : Nat) (todo seen ids : List Nat), grow H n todo seen = some ids → seen.Nodup →
    (∀ id ∈ seen, ∃ b, H[id]? = some b ∧ ∀ j ∈ b.ids, j ∈ seen ∨ j ∈ todo) →
    ids.Nodup ∧ (∀ id ∈ ids, ∃ b, H[id]? = some b ∧ ∀ j ∈ b.ids, j ∈ ids) ∧ (∀ j ∈ todo, j ∈ ids) ∧ seen <+: ids
  | n, [], seen, ids, h, hn, hs => by
    unfold grow at h
    simp only [Option.some.injEq] at h
    subst h
    refine ⟨hn, fun id hid => ?_, by simp, List.prefix_refl _⟩
    obtain ⟨b, h1, h2⟩ := hs id hid
    exact ⟨b, h1, fun j hj => by simpa using h2 j hj⟩
  | 0, _ :: _, seen, ids, h, hn, hs => by simp [grow] at h
  | n + 1, id :: todo, seen, ids, h, hn, hs => by
    simp only [grow] at h
    split at h
    · rename_i hc
      have hmem : id ∈ seen := by simpa using hc
      obtain ⟨k1, k2, k3, k4⟩ := grow_ok H n todo seen ids h hn fun i hi => by
        obtain ⟨b, h1, h2⟩ := hs i hi
        refine ⟨b, h1, fun j hj => ?_⟩
        rcases h2 j hj with h | h
        · exact .inl h
        · rcases List.mem_cons.1 h with rfl | h
          · exact .inl hmem
          · exact .inr h
      refine ⟨k1, k2, fun j hj => ?_, k4⟩
      rcases List.mem_cons.1 hj with rfl | hj
      · exact k4.subset hmem
      · exact k3 j hj
    · rename_i hc
      have hmem : id ∉ seen := by simpa using hc
      split at h
      · rename_i b hb
        obtain ⟨k1, k2, k3, k4⟩ := grow_ok H n (todo ++ b.ids) (seen ++ [id]) ids h (by
            rw [List.nodup_append]
            exact ⟨hn, by simp, fun a ha c hc => by simp at hc; subst hc; exact fun e => hmem (e ▸ ha)⟩) fun i hi => by
          rcases List.mem_append.1 hi with hi | hi
          · obtain ⟨b', h1, h2⟩ := hs i hi
            refine ⟨b', h1, fun j hj => ?_⟩
            rcases h2 j hj with h | h
            · exact .inl (by simp [h])
            · rcases List.mem_cons.1 h with rfl | h
              · exact .inl (by simp)
              · exact .inr (by simp [h])
          · simp at hi
            subst hi
            exact ⟨b, hb, fun j hj => .inr (by simp [hj])⟩
        have hp : seen <+: ids := List.IsPrefix.trans (List.prefix_append _ _) k4
        refine ⟨k1, k2, fun j hj => ?_, hp⟩
        rcases List.mem_cons.1 hj with rfl | hj
        · exact k4.subset (by simp)
        · exact k3 j (by simp [hj])
      · simp at h
theorem grow_range (H : Heap) : ∀ (m k n : Nat) (rest ids : List Nat), grow H n ((List.range' k m) ++ rest) (List.range k) = some ids → List.range (k + m) <+: ids
  | 0, k, n, rest, ids, h => (grow_ok' h)
  | m + 1, k, n, rest, ids, h => by
    cases n with
    | zero => simp [grow, List.range'_succ] at h
    | succ n =>
      simp only [List.range'_succ, List.cons_append, grow] at h
      rw [if_neg (by simp)] at h
      split at h
      · rename_i b hb
        have e : List.range k ++ [k] = List.range (k + 1) := by rw [List.range_succ]
        rw [e, List.append_assoc] at h
        have := grow_range H m (k + 1) n _ ids h
        have e2 : k + (m + 1) = k + 1 + m := by omega
        rw [e2]
        exact this
      · simp at h
where
  grow_ok' : ∀ {n k : Nat} {rest ids : List Nat}, grow H n (List.range' k 0 ++ rest) (List.range k) = some ids → List.range (k + 0) <+: ids := by
    have key : ∀ (n : Nat) (todo seen ids : List Nat), grow H n todo seen = some ids → seen <+: ids := by
      intro n
      induction n with
      | zero =>
        intro todo seen ids h
        cases todo with
        | nil => simp only [grow, Option.some.injEq] at h; subst h; exact List.prefix_refl _
        | cons => simp [grow] at h
      | succ n ih =>
        intro todo seen ids h
        cases todo with
        | nil => simp only [grow, Option.some.injEq] at h; subst h; exact List.prefix_refl _
        | cons id todo =>
          simp only [grow] at h
          split at h
          · exact ih _ _ _ h
          · split at h
            · exact (List.prefix_append _ _).trans (ih _ _ _ h)
            · simp at h
    intro n k rest ids h
    exact key _ _ _ _ h
/-- The blocks that are to stay, first; then all that values lead to. -/
def gcIds (k : Nat) (vs : List AV) (H : Heap) : Option (List Nat) := grow H 4096 (List.range k ++ AV.idss vs) []
structure Sel (k : Nat) (vs : List AV) (H : Heap) (ids : List Nat) : Prop where
  nodup : ids.Nodup
  closed : ∀ id ∈ ids, ∃ b, H[id]? = some b ∧ b.all (fun j => decide (j ∈ ids)) = true
  roots : AV.alls (fun j => decide (j ∈ ids)) vs = true
  pre : ∀ i, i < k → ids[i]? = some i
theorem gcIds_ok {k : Nat} {vs : List AV} {H : Heap} {ids : List Nat} (h : gcIds k vs H = some ids) : Sel k vs H ids := by
  unfold gcIds at h
  obtain ⟨k1, k2, k3, k4⟩ := grow_ok H _ _ _ _ h (by simp) (by simp)
  refine ⟨k1, fun id hid => ?_, ?_, fun i hi => ?_⟩
  · obtain ⟨b, h1, h2⟩ := k2 id hid
    exact ⟨b, h1, by rw [Blk.all_ids]; exact fun j hj => by simpa using h2 j hj⟩
  · rw [AV.alls_ids]
    exact fun j hj => by simpa using k3 j (by simp [hj])
  · have := grow_range H k 0 4096 (AV.idss vs) ids (by simpa [List.range_eq_range'] using h)
    rw [Nat.zero_add] at this
    obtain ⟨t, ht⟩ := this
    rw [← ht, List.getElem?_append_left (by simpa using hi)]
    simp [hi]
/-- The heap of these blocks alone. -/
def selH (ids : List Nat) (H : Heap) : Heap := ids.map fun id => ((H[id]?).getD .dead).map fun j => ids.idxOf j
def Gh.sel (g : Gh) (ids : List Nat) (H : Heap) : Gh where
  φ := fun i => g.φ (ids.getD i 0)
  β := fun i => g.β (ids.getD i 0)
  κ := fun i => g.κ (ids.getD i 0)
  vt := fun i => g.vt (ids.getD i 0)
  G := get (selH ids H)
def selS (S0 : Nat → Nat → Prop) (g : Gh) (ids : List Nat) (b o : Nat) : Prop :=
  S0 b o ∧ ∀ id blk, g.G id = some blk → blk.ok = false → g.vt id = false → id ∉ ids → g.φ id ≠ b
section
variable {C : Cfg} {S0 : Nat → Nat → Prop} {g : Gh} {w : World} {H : Heap} {ids : List Nat} {k : Nat} {vs : List AV}
theorem Sel.at (h : Sel k vs H ids) {i : Nat} {b : Blk} (hb : (g.sel ids H).G i = some b) : ∃ id b0, ids[i]? = some id ∧ ids.getD i 0 = id ∧ H[id]? = some b0 ∧ b = b0.map (fun j => ids.idxOf j) ∧ b0.all (fun j => decide (j ∈ ids)) = true ∧ ids.idxOf id = i := by
  have hb' : (selH ids H)[i]? = some b := hb
  unfold selH at hb'
  rw [List.getElem?_map, Option.map_eq_some_iff] at hb'
  obtain ⟨id, h1, h2⟩ := hb'
  obtain ⟨b0, h3, h4⟩ := h.closed id (List.mem_of_getElem? h1)
  refine ⟨id, b0, h1, by simp [List.getD_eq_getElem?_getD, h1], h3, by rw [← h2, h3]; rfl, h4, ?_⟩
  obtain ⟨hlt, h1'⟩ := List.getElem?_eq_some_iff.1 h1
  rw [← h1']
  exact h.nodup.idxOf_getElem i hlt
theorem Sel.mem (h : Sel k vs H ids) {id : Nat} (hid : id ∈ ids) : ids.getD (ids.idxOf id) 0 = id := by
  have hlt := List.idxOf_lt_length_iff.2 hid
  rw [List.getD_eq_getElem?_getD, List.getElem?_eq_getElem hlt]
  simp
theorem Sel.to (h : Sel k vs H ids) {id : Nat} (hid : id ∈ ids) : ∃ b, H[id]? = some b ∧ (g.sel ids H).G (ids.idxOf id) = some (b.map fun j => ids.idxOf j) := by
  obtain ⟨b, h1, h2⟩ := h.closed id hid
  refine ⟨b, h1, ?_⟩
  have hlt := List.idxOf_lt_length_iff.2 hid
  show (selH ids H)[ids.idxOf id]? = _
  unfold selH
  rw [List.getElem?_map, List.getElem?_eq_getElem hlt]
  simp [h1]
theorem sel_emb (hG : g.G = get H) (h : Sel k vs H ids) : EmbM g (g.sel ids H) (fun j => ids.idxOf j) (fun j => decide (j ∈ ids)) where
  some := fun id hid _ => by
    have hid : id ∈ ids := by simpa using hid
    obtain ⟨b, h1, h2⟩ := h.to (g := g) hid
    exact ⟨by rw [h2]; rfl, by show g.φ (ids.getD (ids.idxOf id) 0) = _; rw [h.mem hid]⟩
  len := fun id m hid hs hm => by
    have hid : id ∈ ids := by simpa using hid
    obtain ⟨b, h1, h2⟩ := h.to (g := g) hid
    rw [h2] at hm
    refine ⟨by rw [hG]; simp only [get, h1]; simpa [Blk.map_len] using hm, ?_⟩
    simp only [Gh.rowVal, Gh.sel, h.mem hid]
  sz := fun id m hid hs hm => by
    have hid : id ∈ ids := by simpa using hid
    obtain ⟨b, h1, h2⟩ := h.to (g := g) hid
    rw [h2] at hm
    refine ⟨by rw [hG]; simp only [get, h1]; simpa [Blk.map_sz] using hm, ?_⟩
    simp only [Gh.sel, h.mem hid]
/-- To a heap of fewer blocks, under other names. -/
theorem sel_ok (hO : Ok C S0 g w H) (h : Sel k vs H ids) {S1 : Nat → Nat → Prop} (hS : ∀ b o, g.St S0 b o → (g.sel ids H).St S1 b o) (hf : ∀ b o, w.heap.size ≤ b → S1 b o)
    (hs : ∀ id b, g.G id = some b → b.ok = false → g.vt id = false → id ∈ ids → ∀ o, S1 (g.φ id) o) : Ok C S1 (g.sel ids H) w (selH ids H) := by
  have hG := hO.heap
  have hst : Stays w (g.St S0) w ((g.sel ids H).St S1) := fun b o v hc hs => ⟨hc, hS b o hs, fun h => h, fun h q => hS b q (h q)⟩
  have he := sel_emb hG h
  have gg : ∀ {id : Nat} {b : Blk}, H[id]? = some b → g.G id = some b := fun h => by rw [hG]; exact h
  refine ⟨⟨fun i b hb => ?_, fun i b hb hv => ?_, fun i bi j bj hi hj oi oj vi vj hij => ?_, hf, fun i b hb hok hv o => ?_⟩, fun i b hb hok hlen => ?_, hO.gl.stays hst, rfl⟩
  · obtain ⟨id, b0, h1, h2, h3, rfl, h5, rfl⟩ := h.at hb
    exact RB.embM he hst (fun _ => rfl) h5 (by simp only [Gh.sel, h2]) (by simp only [Gh.sel, h2]) (by simp only [Gh.sel, h2]) (by simp only [Gh.sel, h2]) (hO.inv.blk id b0 (gg h3))
  · obtain ⟨id, b0, h1, h2, h3, rfl, h5, rfl⟩ := h.at hb
    simp only [Gh.sel, h2] at hv ⊢
    exact hO.inv.lt id b0 (gg h3) hv
  · obtain ⟨id, b0, h1, h2, h3, rfl, h5, rfl⟩ := h.at hi
    obtain ⟨jd, c0, j1, j2, j3, rfl, j5, rfl⟩ := h.at hj
    simp only [Gh.sel, h2, j2] at vi vj ⊢
    exact hO.inv.inj id b0 jd c0 (gg h3) (gg j3) (by rw [← Blk.map_ok]; exact oi) (by rw [← Blk.map_ok]; exact oj) vi vj (fun e => hij (by rw [e]))
  · obtain ⟨id, b0, h1, h2, h3, rfl, h5, rfl⟩ := h.at hb
    simp only [Gh.sel, h2] at hv ⊢
    exact hs id b0 (gg h3) (by rw [← Blk.map_ok]; exact hok) hv (List.mem_of_getElem? h1) o
  · obtain ⟨id, b0, h1, h2, h3, rfl, h5, rfl⟩ := h.at hb
    simp only [Gh.sel, h2]
    exact hO.real id b0 (gg h3) (by rw [← Blk.map_ok]; exact hok) (by rw [← Blk.map_len _ (fun j => ids.idxOf j)]; exact hlen)
theorem sel_free (hG : g.G = get H) (h : Sel k vs H ids) {b : Nat} (hf : g.free b) : (g.sel ids H).free b := by
  intro i blk hb hok hv
  obtain ⟨id, b0, h1, h2, h3, rfl, h5, rfl⟩ := h.at hb
  simp only [Gh.sel, h2] at hv ⊢
  exact hf id b0 (by rw [hG]; exact h3) (by rw [← Blk.map_ok]; exact hok) hv
/-- From step to step: the first blocks keep their names. -/
structure StepP (k : Nat) (g : Gh) (w : World) (g' : Gh) (w' : World) : Prop where
  size : w.heap.size ≤ w'.heap.size
  os : w'.os = w.os
  tape : w'.tape = w.tape
  output : w'.output = w.output
  ids : ∀ id b, id < k → g.G id = some b → ∃ b', g'.G id = some b' ∧ g'.φ id = g.φ id ∧ g'.β id = g.β id ∧ g'.κ id = g.κ id ∧ g'.vt id = g.vt id ∧
    (∀ n, b'.len? = some n → b.len? = some n) ∧ (∀ n, b'.sz? = some n → b.sz? = some n)
  keep : ∀ b, b < w.heap.size → g.free b → w'.heap[b]? = w.heap[b]? ∧ g'.free b
theorem Step.toP {g' : Gh} {w' : World} (h : Step g w g' w') (k : Nat) : StepP k g w g' w' := ⟨h.size, h.os, h.tape, h.output, fun id b _ hb => h.ids id b hb, h.keep⟩
theorem StepP.refl (k : Nat) (g : Gh) (w : World) : StepP k g w g w := (Step.refl g w).toP k
theorem StepP.trans {g g' g'' : Gh} {w w' w'' : World} (h : StepP k g w g' w') (m : StepP k g' w' g'' w'') : StepP k g w g'' w'' where
  size := Nat.le_trans h.size m.size
  os := m.os.trans h.os
  tape := m.tape.trans h.tape
  output := m.output.trans h.output
  ids := fun id b hk hb => by
    obtain ⟨b', h1, h2, h3, h4, h5, h6, h7⟩ := h.ids id b hk hb
    obtain ⟨b'', k1, k2, k3, k4, k5, k6, k7⟩ := m.ids id b' hk h1
    exact ⟨b'', k1, k2.trans h2, k3.trans h3, k4.trans h4, k5.trans h5, fun n hn => h6 n (k6 n hn), fun n hn => h7 n (k7 n hn)⟩
  keep := fun b hb hf => by
    obtain ⟨h1, h2⟩ := h.keep b hb hf
    obtain ⟨k1, k2⟩ := m.keep b (Nat.lt_of_lt_of_le hb h.size) h2
    exact ⟨k1.trans h1, k2⟩
theorem StepP.stays {g g' : Gh} {w w' : World} (h : StepP k g w g' w') (S0 : Nat → Nat → Prop) : Stays w (g.St S0) w' (g'.St S0) := by
  intro b o v hc hs
  obtain ⟨h1, h2⟩ := h.keep b (lt_of_cell hc) hs.2
  refine ⟨?_, ⟨hs.1, h2⟩, fun h => ?_, fun h q => ⟨(h q).1, h2⟩⟩
  · rw [← hc]
    simp [World.cell?, h1]
  · rw [← h]
    simp [World.frozen?, h1]
theorem StepP.step {g' : Gh} {w' : World} (h : StepP k g w g' w') (hk : ∀ id b, g.G id = some b → id < k) : Step g w g' w' := ⟨h.size, h.os, h.tape, h.output, fun id b hb => h.ids id b (hk id b hb) hb, h.keep⟩
/-- What leads nowhere is left behind. -/
theorem gc_ok (hO : Ok C S0 g w H) {us : List Value} (hu : RVs g w (g.St S0) us vs) (h : Sel k vs H ids) :
    Ok C S0 (g.sel ids H) w (selH ids H) ∧ RVs (g.sel ids H) w ((g.sel ids H).St S0) us (AV.maps (fun j => ids.idxOf j) vs) ∧ StepP k g w (g.sel ids H) w := by
  have hS : ∀ b o, g.St S0 b o → (g.sel ids H).St S0 b o := fun b o hs => ⟨hs.1, sel_free hO.heap h hs.2⟩
  refine ⟨sel_ok hO h hS hO.inv.fresh (fun id b hb hok hv _ o => hO.inv.s0 id b hb hok hv o), hu.embM (sel_emb hO.heap h) (fun b o v hc hs => ⟨hc, hS b o hs, fun h => h, fun h q => hS b q (h q)⟩) h.roots, ?_⟩
  refine ⟨Nat.le_refl _, rfl, rfl, rfl, fun id b hk hb => ?_, fun b _ hf => ⟨rfl, sel_free hO.heap h hf⟩⟩
  have h1 := h.pre id hk
  have hid := List.mem_of_getElem? h1
  have hi : ids.idxOf id = id := by
    obtain ⟨hlt, h1'⟩ := List.getElem?_eq_some_iff.1 h1
    have := h.nodup.idxOf_getElem id hlt
    rw [h1'] at this
    exact this
  obtain ⟨b', h2, h3⟩ := h.to (g := g) hid
  rw [hi] at h3
  have : b' = b := by rw [hO.heap] at hb; simp only [get] at hb; rw [h2] at hb; exact Option.some.inj hb
  subst this
  have hd : ids.getD id 0 = id := by simp [List.getD_eq_getElem?_getD, h1]
  exact ⟨_, h3, by simp only [Gh.sel, hd], by simp only [Gh.sel, hd], by simp only [Gh.sel, hd], by simp only [Gh.sel, hd], fun n hn => by rwa [Blk.map_len] at hn, fun n hn => by rwa [Blk.map_sz] at hn⟩
/-- Into a part. -/
theorem viewIn (hO : Ok C S0 g w H) {us : List Value} (hu : RVs g w (g.St S0) us vs) (h : Sel k vs H ids) :
    Ok C (selS S0 g ids) (g.sel ids H) w (selH ids H) ∧ RVs (g.sel ids H) w ((g.sel ids H).St (selS S0 g ids)) us (AV.maps (fun j => ids.idxOf j) vs) := by
  have hS : ∀ b o, g.St S0 b o → (g.sel ids H).St (selS S0 g ids) b o := fun b o hs => ⟨⟨hs.1, fun id blk hG hok hv _ => hs.2 id blk hG hok hv⟩, sel_free hO.heap h hs.2⟩
  refine ⟨sel_ok hO h hS (fun b o hb => ⟨hO.inv.fresh b o hb, fun id blk hG hok hv _ e => ?_⟩) (fun id b hb hok hv hid o => ⟨hO.inv.s0 id b hb hok hv o, fun j blk hG hoj hvj hj e => ?_⟩),
    hu.embM (sel_emb hO.heap h) (fun b o v hc hs => ⟨hc, hS b o hs, fun h => h, fun h q => hS b q (h q)⟩) h.roots⟩
  · have := hO.inv.lt id blk hG hv
    omega
  · exact hO.inv.inj j blk id b hG hb hoj hok hvj hv (fun e => hj (e ▸ hid)) e
end
end Go.Fm
