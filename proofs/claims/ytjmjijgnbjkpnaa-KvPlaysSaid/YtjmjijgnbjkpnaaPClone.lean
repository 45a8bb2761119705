/-
  A part of the proof: PClone.
-/
import Derived.Test.YtjmjijgnbjkpnaaPPrim
import Derived.Deep.RegionWith
import Derived.Laws.AppendOwn
set_option linter.all false
set_option autoImplicit true
/-
  bytes.Clone, at the model.
-/
set_option maxRecDepth 100000
set_option linter.unusedVariables false
set_option linter.unusedSimpArgs false
namespace Go.Fm
open Go Go.Proofs Go.RowKit
theorem info5 : (Try.prog.info? 5).map (fun i => (i.zero, i.size, i.bytes)) = some (some (.int .u8 0), 1, 1) := by kernel_rfl
theorem und38 : Try.prog.underlying 22 = some (.slice 5) := by kernel_rfl
theorem clone_any (A : Addr) (n c : Nat) (bs : List Int) (w : World) (hn : bs.length = n) (hbytes : n ≤ 140737488355328) (hc : ∀ j, j < n → w.cell? (A.add j) = some (.int .u8 (bs.getD j 0))) :
    Calls Try.prog 35 #[.slice (some A) n c] w fun e w' => ∃ v, e = .returned v ∧ w'.ownsRow w.heap.size 5 1 v n (bs.map (Value.int .u8)) ∧ Below w.heap.size w w' ∧ v ≠ .slice none 0 0 := by
  obtain ⟨i0, hi, hz0, hz1, hz2⟩ := info_parts info5
  have hown0 : (w.alloc (.cells #[] 5)).ownsRow w.heap.size 5 1 (.slice (some ⟨w.heap.size, 0, none⟩) 0 0) 0 [] :=
    ⟨rfl, .inr ⟨w.heap.size, 0, #[], rfl, Nat.le_refl _, by show (w.heap.push _)[w.heap.size]? = _; simp, Nat.le_refl _, by unfold maxLen; omega, rfl, rfl⟩⟩
  have he : ∀ w : World, (binOp .eql 22 (.slice (some A) n c) (.slice none 0 0)).run Try.prog w = .ok (.bool false) w := fun _ => rfl
  have mixed := mixed
  go_enter Try.func35, Try.ntmps35
  go_wp2_with (first
    | (at_builtin; refine wpList_append_own _ rfl (.tmp 5) (.tmp 6) 22 rfl w.heap.size 5 i0 (.int .u8 0) 1 1 und38 hi hz0 hz1 hz2 rfl (by decide) _ _ _ rfl hown0 A n c (bs.map (Value.int .u8)) rfl (by simp [hn]) ?c1 (ints_oneCell .u8 bs) (by unfold maxLen; omega) (by omega) (by simp) ?_))
  case c1 =>
    intro j u hu
    have hj : j < n := by
      have := (List.getElem?_eq_some_iff.1 hu).1
      simpa [hn] using this
    have hb : (A.add j).block < w.heap.size := World.block_lt_of_cell? _ _ (hc j hj)
    rw [((Below.refl w.heap.size w).alloc (Nat.le_refl _) _).cell hb, hc j hj]
    have e : (bs.map (Value.int .u8))[j]? = some (.int .u8 (bs.getD j 0)) := by simp [List.getD, show j < bs.length by omega]
    rw [e] at hu
    exact hu
  intro v' w1 hown' hgrow hnil
  go_wp2
  go_ret
  exact ⟨_, rfl, by simpa using hown', ((Below.refl _ _).alloc (Nat.le_refl _) _).grown hgrow (by simp) (fun k hk => by simp [Value.ownBlock] at hk; omega), by simpa using hnil⟩
theorem clone_nil (n c : Nat) (w : World) : Calls Try.prog 35 #[.slice none n c] w fun e w' => e = .returned (.slice none 0 0) ∧ w' = w := by
  have he : ∀ w : World, (binOp .eql 22 (.slice none n c) (.slice none 0 0)).run Try.prog w = .ok (.bool true) w := fun _ => rfl
  have mixed := mixed
  go_enter Try.func35, Try.ntmps35
  go_wp2
  go_ret
  exact ⟨rfl, rfl⟩
end Go.Fm
namespace Go.Fm
open Go Go.Proofs Go.RowKit
theorem RL_mk {w : World} {S : Nat → Nat → Prop} : ∀ (xs : List Int), RL w S 1 (xs.map (Value.int .u8)) (xs.map (CV.int .u8))
  | [] => .nil _
  | x :: xs => .cons 1 [.int .u8 x] (xs.map (Value.int .u8)) _ _ rfl (.int _ _) (RL_mk xs)
theorem Below.step {g : Gh} {w w' : World} (h : Below w.heap.size w w') : Step g w g w' where
  size := h.size
  os := h.os
  tape := h.tape
  output := h.output
  ids := fun id b hb => ⟨b, hb, rfl, rfl, rfl, rfl, fun _ h => h, fun _ h => h⟩
  keep := fun b hb hf => ⟨h.block b hb, hf⟩
theorem Ok.below {C : Cfg} {S0 : Nat → Nat → Prop} {g : Gh} {w w' : World} {H : Heap} (h : Ok C S0 g w H) (hb : Below w.heap.size w w') : Ok C S0 g w' H where
  inv := h.inv.next h.real (Below.step hb) (fun id b hG => .inl ⟨hG, fun ho hv => hb.block _ (h.inv.lt id b hG hv)⟩) (fun id b hG hv => Nat.lt_of_lt_of_le (h.inv.lt id b hG hv) hb.size) h.inv.inj h.inv.s0
  real := h.real
  gl := h.gl.stays ((Below.step hb).stays S0)
  heap := h.heap
/-- A row that was made anew, read as a content. -/
theorem RC_owns {C : Cfg} {S0 : Nat → Nat → Prop} {g : Gh} {w w' : World} {H : Heap} (h : Ok C S0 g w H) {v : Value} {xs : List Int} (ho : w'.ownsRow w.heap.size 5 1 v xs.length (xs.map (Value.int .u8))) :
    RC w' (g.St S0) [v] (.sl 1 (xs.map (CV.int .u8))) := by
  obtain ⟨_, ho⟩ := ho
  rcases ho with ⟨rfl, hn⟩ | ⟨b, cap, cur, rfl, hb, hh, hn, hc, hsz, htk⟩
  · obtain rfl : xs = [] := List.length_eq_zero_iff.1 hn
    exact .sl0 1 none 0 (by unfold maxLen; omega)
  · have := RC.sl (w := w') (S := g.St S0) b 0 cap 1 (xs.map (CV.int .u8)) (xs.map (Value.int .u8)) (fun i v hv => ?_) (RL_mk xs) (by simpa using hn) hc
    · simpa using this
    · refine ⟨?_, h.inv.fresh _ _ hb, fun id blk hG hok hv he => ?_⟩
      · rw [Nat.zero_add]
        unfold World.cell?
        rw [hh]
        simp only [Option.isSome_none, Bool.false_eq_true, if_false]
        rw [← htk, List.getElem?_take] at hv
        split at hv
        · simpa using hv
        · cases hv
      · have := h.inv.lt id blk hG hv
        omega
theorem fn103 : ∃ fn c, Try.prog.funcs[35]? = some fn ∧ fn.body = some c ∧ (fn.name == "runtime.NumGoroutine") = false := ⟨Try.f35, _, Try.func35, rfl, by kernel_rfl⟩
/-- What bytes.Clone does with a row of bytes. -/
theorem clone_calls {C : Cfg} {S0 : Nat → Nat → Prop} {g : Gh} {w : World} {H : Heap} {a : AV} {u : Value} {es : List CV} {bs : List UInt8} (hO : Ok C S0 g w H) (hx : RV g w (g.St S0) u a) (he : elemsOf H 1 a = some es) (hbs : bytesC es = some bs) (hlen : es.length ≤ 140737488355328) :
    Calls Try.prog 35 #[u] w fun e w' => (e = .returned (.slice none 0 0) ∧ es = [] ∧ w' = w) ∨ ∃ (v : Value) (xs : List Int), e = .returned v ∧ es = xs.map (CV.int .u8) ∧ w'.ownsRow w.heap.size 5 1 v xs.length (xs.map (Value.int .u8)) ∧ Below w.heap.size w w' := by
  obtain ⟨A, c, cs, rfl, h1, h2, h3, _⟩ := elems_read hO hx he
  obtain ⟨xs, rfl, rfl⟩ := bytesC_ints hbs
  have hcs := RL_ints xs h1
  subst hcs
  cases A with
  | none =>
    have hn := h2 rfl
    refine Calls.mono (clone_nil _ c w) fun e w' he => ?_
    obtain ⟨rfl, rfl⟩ := he
    exact .inl ⟨rfl, hn, rfl⟩
  | some a =>
    rw [List.length_map] at hlen ⊢
    refine Calls.mono (clone_any a xs.length c xs w rfl hlen fun j hj => ?_) fun e w' he => ?_
    · have hne : xs ≠ [] := fun h => by rw [h] at hj; simp at hj
      obtain ⟨b, o, ha, hc⟩ := h3 (by simpa using hne)
      simp only [Option.some.injEq] at ha
      subst ha
      rw [addr_add, hc j (.int .u8 xs[j]) (by rw [List.getElem?_map, List.getElem?_eq_getElem hj]; rfl), List.getD_eq_getElem?_getD, List.getElem?_eq_getElem hj]
      rfl
    · obtain ⟨v, rfl, h2, h3, _⟩ := he
      exact .inr ⟨v, xs, rfl, rfl, h2, h3⟩
theorem prim103 (b : Bool) : PrimOk (cfg b) 35 cloneP where
  keeps := fun args H v H' h => by
    unfold cloneP at h
    split at h
    · simp only [Option.some.injEq, Prod.mk.injEq] at h
      rw [h.2]
      exact ⟨Nat.le_refl _, fun _ _ h _ => h⟩
    · split at h
      · split at h
        · split at h
          · simp only [Option.some.injEq, Prod.mk.injEq] at h
            rw [h.2]
            exact ⟨Nat.le_refl _, fun _ _ h _ => h⟩
          · cases h
        · cases h
      · cases h
    · cases h
  fn := fn103
  run := fun args H v H' h S0 g w us hO hu => by
    unfold cloneP at h
    split at h
    · simp only [Option.some.injEq, Prod.mk.injEq] at h
      obtain ⟨rfl, rfl⟩ := h
      cases hu with
      | cons u _ _ _ h1 hs =>
        cases hs
        obtain ⟨a, n, c, rfl, _, _, _, ha, ha', _⟩ := RC_ints (RV_c1 h1 rfl) (.inl ⟨rfl, rfl⟩)
        obtain rfl := ha' rfl
        refine Calls.mono (clone_nil n c w) fun e w' he => ?_
        obtain ⟨rfl, rfl⟩ := he
        exact ⟨_, g, rfl, hO, Step.refl _ _, .one _ _ (.c _ _ .nilsl) rfl⟩
    · split at h
      · rename_i es he
        split at h
        · rename_i bs hbs
          split at h
          · rename_i hlen
            simp only [Option.some.injEq, Prod.mk.injEq] at h
            obtain ⟨rfl, rfl⟩ := h
            cases hu with
            | cons u _ _ _ h1 hs =>
              cases hs
              refine Calls.mono (clone_calls hO h1 he hbs hlen) fun e w' hc => ?_
              rcases hc with ⟨rfl, rfl, rfl⟩ | ⟨v, xs, rfl, rfl, h2, h3⟩
              · exact ⟨_, g, rfl, hO, Step.refl _ _, .one _ _ (.c _ _ (.sl0 1 none 0 (by unfold maxLen; omega))) rfl⟩
              · exact ⟨_, g, rfl, hO.below h3, Below.step h3, .one _ _ (.c _ _ (RC_owns hO h2)) rfl⟩
          · cases h
        · cases h
      · cases h
    · cases h
end Go.Fm
