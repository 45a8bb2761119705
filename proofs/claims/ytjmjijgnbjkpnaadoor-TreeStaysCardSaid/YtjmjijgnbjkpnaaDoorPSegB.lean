/-
  A part of the proof: PSegB.
-/
import Derived.Test.YtjmjijgnbjkpnaaDoorPSegA
import Derived.Test.YtjmjijgnbjkpnaaDoorPFr
set_option linter.all false
set_option autoImplicit true
/-
  What All and Nodes hand out, as it lies.
-/
set_option maxRecDepth 100000
set_option linter.unusedVariables false
set_option linter.unusedSimpArgs false
namespace Go.Fm
open Go Go.Proofs Go.RowKit
def Stays0 (w : World) (S : Nat → Nat → Prop) (w' : World) (S' : Nat → Nat → Prop) : Prop :=
  ∀ b o v, w.cell? ⟨b, o, none⟩ = some v → S b o → w'.cell? ⟨b, o, none⟩ = some v ∧ S' b o
theorem Here.stays0 {w w' : World} {S S' : Nat → Nat → Prop} {b o : Nat} {cs : List Value} (h : Here w S b o cs) (k : Stays0 w S w' S') : Here w' S' b o cs :=
  fun i v hv => let ⟨h1, h2⟩ := h i v hv; k _ _ _ h1 h2
mutual
theorem RC.stays0 {w w' : World} {S S' : Nat → Nat → Prop} (k : Stays0 w S w' S') {cs : List Value} {v : CV} (h : RC w S cs v) (hn : v.plain = true) : RC w' S' cs v := by
  cases h with
  | bool b => exact .bool b
  | int k n => exact .int k n
  | str s => exact .str s
  | nilp => exact .nilp
  | nilsl => exact .nilsl
  | nilmap => exact .nilmap
  | nilif => exact .nilif
  | nilfn => exact .nilfn
  | ptr b o off path root cs h hr => exact .ptr b o off path root cs (h.stays0 k) (RC.stays0 k hr (by simpa [CV.plain] using hn))
  | sl b o cap sz es cs h hr hc hm => exact .sl b o cap sz es cs (h.stays0 k) (RL.stays0 k hr (by simpa [CV.plain] using hn)) hc hm
  | sl0 sz a cap hm => exact .sl0 sz a cap hm
  | frs b o cap es cs h hr hc hm hu hs => simp [CV.plain] at hn
  | frs0 a cap hm => simp [CV.plain] at hn
  | agg cs fs h => exact .agg _ fs (RF.stays0 k h (by simpa [CV.plain] using hn))
  | arr n kk ns h => exact .arr n kk ns h
  | iface t v cv h hg => exact .iface t v cv (RC.stays0 k h (by simpa [CV.plain] using hn)) hg
  | fn f => exact .fn f
theorem RF.stays0 {w w' : World} {S S' : Nat → Nat → Prop} (k : Stays0 w S w' S') {cs : List Value} {v : List CV} (h : RF w S cs v) (hn : CV.plains v = true) : RF w' S' cs v := by
  cases h with
  | nil => exact .nil
  | cons c cs f fs h hs =>
    simp only [CV.plains, Bool.and_eq_true] at hn
    exact .cons c cs f fs (RC.stays0 k h hn.1) (RF.stays0 k hs hn.2)
theorem RL.stays0 {w w' : World} {S S' : Nat → Nat → Prop} (k : Stays0 w S w' S') {sz : Nat} {cs : List Value} {v : List CV} (h : RL w S sz cs v) (hn : CV.plains v = true) : RL w' S' sz cs v := by
  cases h with
  | nil => exact .nil _
  | cons _ c cs f fs hl h hs =>
    simp only [CV.plains, Bool.and_eq_true] at hn
    exact .cons _ c cs f fs hl (RC.stays0 k h hn.1) (RL.stays0 k hs hn.2)
end
/-- What is there, and what comes. -/
def S1 (w : World) (b o : Nat) : Prop := (w.cell? ⟨b, o, none⟩).isSome = true ∨ w.heap.size ≤ b
theorem S1_fresh {w : World} {b : Nat} (h : ∀ q, S1 w b q) : w.heap.size ≤ b := by
  have key : ∃ q, w.cell? ⟨b, q, none⟩ = none := by
    cases hb : w.heap[b]? with
    | none => exact ⟨0, by simp [World.cell?, hb]⟩
    | some o =>
      cases o with
      | cells c t fr => exact ⟨c.size, by simp [World.cell?, hb]⟩
      | _ => exact ⟨0, by simp [World.cell?, hb]⟩
  obtain ⟨q, hq⟩ := key
  rcases h q with h | h
  · rw [hq] at h; simp at h
  · exact h
theorem start_F (w : World) : Ok cfgF (S1 w) Gh.start w [] where
  inv := ⟨fun id b h => by simp [Gh.start, get] at h, fun id b h => by simp [Gh.start, get] at h, fun i bi j bj h => by simp [Gh.start, get] at h, fun _ _ h => .inr h, fun id b h => by simp [Gh.start, get] at h⟩
  real := fun id b h => by simp [Gh.start, get] at h
  gl := fun n v h => by simp [cfgF] at h
  heap := rfl
theorem not_frozenF {w : World} {b o : Nat} {cs : Array Value} {t : TypeId} (h : w.heap[b]? = some (.cells cs t (0, 0))) : w.frozen? ⟨b, o, none⟩ = false := by
  unfold World.frozen?
  rw [h]
  simp
theorem RC_ownsF {S0 : Nat → Nat → Prop} {C : Cfg} {g : Gh} {w w' : World} {H : Heap} (h : Ok C S0 g w H) {v : Value} {xs : List Int} (ho : w'.ownsRow w.heap.size 5 1 v xs.length (xs.map (Value.int .u8))) :
    RC w' (g.St S0) [v] (.frs (xs.map (CV.int .u8))) := by
  obtain ⟨_, ho⟩ := ho
  rcases ho with ⟨rfl, hn⟩ | ⟨b, cap, cur, rfl, hb, hh, hn, hc, hsz, htk⟩
  · obtain rfl : xs = [] := List.length_eq_zero_iff.1 hn
    exact .frs0 none 0 (by unfold maxLen; omega)
  · have hfree : g.free b := fun id blk hG hok hv he => by
      have := h.inv.lt id blk hG hv
      omega
    have := RC.frs (w := w') (S := g.St S0) b 0 cap (xs.map (CV.int .u8)) (xs.map (Value.int .u8)) (fun i v hv => ?_) (RL_mk xs) (by simpa using hn) hc (fun i hi => not_frozenF hh) (fun q => ⟨h.inv.fresh _ _ hb, hfree⟩)
    · simpa using this
    · refine ⟨?_, h.inv.fresh _ _ hb, hfree⟩
      rw [Nat.zero_add]
      unfold World.cell?
      rw [hh]
      simp only [Option.isSome_none, Bool.false_eq_true, if_false]
      rw [← htk, List.getElem?_take] at hv
      split at hv
      · simpa using hv
      · cases hv
theorem prim103F : PrimOk cfgF 103 cloneF where
  keeps := fun args H v H' h => by
    unfold cloneF at h
    split at h
    · simp only [Option.some.injEq, Prod.mk.injEq] at h
      rw [h.2]
      exact ⟨Nat.le_refl _, fun _ _ h _ => h⟩
    · split at h
      · split at h
        · simp only [Option.some.injEq, Prod.mk.injEq] at h
          rw [h.2]
          exact ⟨Nat.le_refl _, fun _ _ h _ => h⟩
        · cases h
      · cases h
    · cases h
  fn := fn103
  run := fun args H v H' h S0 g w us hO hu => by
    unfold cloneF at h
    split at h
    · simp only [Option.some.injEq, Prod.mk.injEq] at h
      obtain ⟨rfl, rfl⟩ := h
      cases hu with
      | cons u _ _ _ h1 hs =>
        cases hs
        obtain ⟨a, n, c, rfl, _, _, _, ha, ha', _⟩ := RC_ints (RV_c1 h1 rfl) (.inl ⟨rfl, rfl⟩)
        obtain rfl := ha' rfl
        refine Calls.mono (clone_nil n c w) fun e w' he => ?_
        obtain ⟨rfl, rfl⟩ := he
        exact ⟨_, g, rfl, hO, Step.refl _ _, .one _ _ (.c _ _ .nilsl) rfl⟩
    · rename_i es
      split at h
      · rename_i bs hbs
        split at h
        · rename_i hlen
          simp only [Option.some.injEq, Prod.mk.injEq] at h
          obtain ⟨rfl, rfl⟩ := h
          cases hu with
          | cons u _ _ _ h1 hs =>
            cases hs
            refine Calls.mono (clone_calls hO h1 (a := .c (.sl 1 es)) (by simp [elemsOf]) hbs hlen) fun e w' hc => ?_
            rcases hc with ⟨rfl, rfl, rfl⟩ | ⟨v, xs, rfl, rfl, h2, h3⟩
            · exact ⟨_, g, rfl, hO, Step.refl _ _, .one _ _ (.c _ _ (.frs0 none 0 (by unfold maxLen; omega))) rfl⟩
            · exact ⟨_, g, rfl, hO.below h3, Below.step h3, .one _ _ (.c _ _ (RC_ownsF hO h2)) rfl⟩
        · cases h
      · cases h
    · cases h
theorem primsF : ∀ f p, cfgF.prim f = some p → PrimOk cfgF f p := fun f p h => by
  simp only [cfgF] at h
  split at h
  · rename_i hf; subst hf; simp only [Option.some.injEq] at h; subst h; exact prim103F
  · cases h
theorem An0_pc : ∀ f id, (An0 f).pc id = none := by
  intro f id
  unfold An0
  split <;> rfl
/-- A row that a call hands out fresh. -/
theorem row_calls {C : Cfg} {S0 : Nat → Nat → Prop} {g : Gh} {w : World} {H : Heap} (hO : Ok C S0 g w H) {f : FuncId} {sz k : Nat} {vs : List AV} {us : List Value} (hok : okRow f sz k vs) (hu : RVs g w (g.St S0) us vs) :
    Calls Tryd.prog f us.toArray w fun e w' => ∃ a n c, e = .returned (.slice a n c) ∧ n ≤ maxLen ∧ Kept w w' ∧ (0 < n → ∃ hb ho ys, a = some ⟨hb, ho, none⟩ ∧ JInv w w' sz k hb ho n ys) := by
  obtain ⟨v, r, rfl, hag, hpl, hfn, hr⟩ := hok
  cases hu with
  | cons u _ _ _ h1 hs =>
    cases hs
    have hrc := RC.stays0 (w' := w) (S' := Gh.start.St (S1 w)) (fun b o x hc _ => ⟨hc, .inl (by rw [hc]; rfl), fun id blk h => by simp [Gh.start, get] at h⟩) (RV_c1 h1 hag) hpl
    have hus : RVs Gh.start w (Gh.start.St (S1 w)) [u] [.c v] := .cons _ _ _ _ (RV.ofC1 hrc hag) .nil
    refine Calls.mono ((runG_CfOk (callX_ok (An := An0) (C := cfgF) (by kernel_rfl) (piecesOk_none An0_pc) primsF) (by kernel_rfl) (piecesOk_none An0_pc)).run f [.c v] [] _ _ hfn (S1 w) Gh.start w [u] (start_F w) hus) fun e w' he => ?_
    obtain ⟨y, g', rfl, k1, k2, k3⟩ := he
    have hk : Kept w w' := ⟨k2.size, fun b hb => (k2.keep b hb (fun id blk hG => by simp [Gh.start, get] at hG)).1, k2.os, k2.tape, k2.output⟩
    rcases hr with rfl | ⟨es, rfl, hes⟩
    · obtain rfl := RV_nilsl k3
      exact ⟨none, 0, 0, rfl, by unfold maxLen; omega, hk, fun h => absurd h (by omega)⟩
    · have hc1 := k3.cv1 rfl
      generalize e1 : [y] = l at hc1
      cases hc1 with
      | sl0 _ a cap hm =>
        injection e1 with e1
        subst e1
        exact ⟨a, 0, cap, rfl, by unfold maxLen; omega, hk, fun h => absurd h (by omega)⟩
      | sl b o cap _ _ cs h3 h4 h5 h6 =>
        injection e1 with e1
        subst e1
        refine ⟨_, _, _, rfl, Nat.le_trans h5 h6, hk, fun hn => ?_⟩
        have hlen := h4.length
        have hones := h4.ones
        have hkey : ∀ i, i < es.length → ∃ y, w'.cell? ⟨b, o + (i * sz + k), none⟩ = some y ∧ JKey w.heap.size w' y := by
          intro i hi
          obtain ⟨pre, xs, post, rfl, q1, q2, q3, _⟩ := h4.split i es[i] (List.getElem?_eq_getElem hi)
          obtain ⟨f1, f2, x, f3, f4, f5⟩ := hes es[i] (List.getElem_mem hi)
          obtain ⟨zs, q5, q6⟩ := q3.get [k] x k f3 f4
          have hx1 : x.size = 1 := by rcases f5 with rfl | ⟨bs, rfl⟩ <;> rfl
          have hzl : zs.length = 1 := by rw [q5.length, hx1]
          obtain ⟨y, rfl⟩ := List.length_eq_one_iff.1 hzl
          have hy := q6 0 y rfl
          rw [Nat.add_zero] at hy
          have hkx : k < xs.length := (List.getElem?_eq_some_iff.1 hy).1
          have hcell : w'.cell? ⟨b, o + (i * sz + k), none⟩ = some y := (h3 (i * sz + k) y (by
            rw [List.append_assoc, List.getElem?_append_right (by omega), List.getElem?_append_left (by omega), ← hy]
            congr 1
            omega)).1
          refine ⟨y, hcell, ?_⟩
          generalize e2 : [y] = l2 at q5
          rcases f5 with rfl | ⟨bs, rfl⟩
          · cases q5
            injection e2 with e2
            subst e2
            exact ⟨none, 0, 0, rfl, by unfold maxLen; omega, fun j hj => absurd hj (by omega)⟩
          · generalize e3 : bytesAV bs = bb at q5
            cases q5 with
            | frs0 a cap' hm' =>
              injection e2 with e2
              subst e2
              exact ⟨a, 0, cap', rfl, by unfold maxLen; omega, fun j hj => absurd hj (by omega)⟩
            | frs b' o' cap' _ cs' r1 r2 r3 r4 r5 r6 =>
              injection e2 with e2
              subst e2
              subst e3
              refine ⟨_, _, _, rfl, Nat.le_trans r3 r4, fun j hj => ?_⟩
              have hcs : cs' = (bs.map fun c => (c.toNat : Int)).map (Value.int .u8) := RL_ints _ (by rw [List.map_map]; exact r2)
              have hj2 : j < bs.length := by simpa [bytesAV] using hj
              refine ⟨b', o', (bs[j].toNat : Int), rfl, S1_fresh fun q => (r6 q).1, (r1 j _ ?_).1, r5 j hj⟩
              rw [hcs]
              simp [hj2]
        refine ⟨b, o, (List.range es.length).map fun i => (w'.cell? ⟨b, o + (i * sz + k), none⟩).getD undef, rfl, hk, by simp, fun i hi q hq => ?_, fun i y hy => ?_⟩
        · have hq2 : i * sz + q < cs.length := by
            rw [hlen]
            calc i * sz + q < i * sz + sz := by omega
              _ = (i + 1) * sz := by rw [Nat.add_mul]; omega
              _ ≤ es.length * sz := Nat.mul_le_mul_right _ (by omega)
          exact ⟨cs[i * sz + q], (h3 (i * sz + q) _ (List.getElem?_eq_getElem hq2)).1, hones _ (List.getElem_mem hq2)⟩
        · have hi : i < es.length := by
            have := (List.getElem?_eq_some_iff.1 hy).1
            simpa using this
          obtain ⟨y', h7, h8⟩ := hkey i hi
          have : y = y' := by
            rw [List.getElem?_map, List.getElem?_range hi] at hy
            simp only [Option.map_some, Option.some.injEq] at hy
            rw [← hy, h7]
            rfl
          subst this
          exact ⟨h7, h8⟩
end Go.Fm
