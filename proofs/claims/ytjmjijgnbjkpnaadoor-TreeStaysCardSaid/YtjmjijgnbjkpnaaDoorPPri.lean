/-
  A part of the proof: PPri.
-/
import Derived.Test.YtjmjijgnbjkpnaaDoorDAnn
import Derived.WalkKit
import Derived.ProofKit
import Derived.Lib.Bytealg
import Derived.Lib.Bytes
import Derived.Laws.Entries
import Derived.Laws.Externs
import Derived.Lib.Slices
import Derived.RowKit
import Derived.Deep.RegionWith
import Derived.Laws.AppendOwn
set_option linter.all false
set_option autoImplicit true
/-
  Two functions of the library that the interpreter does not walk: bytes.Compare, bytes.Clone.
-/
set_option maxRecDepth 100000
set_option linter.unusedVariables false
set_option linter.unusedSimpArgs false
namespace Go.Fm
open Go Go.Proofs Go.RowKit
theorem bytesC_ints : ∀ {es : List CV} {bs : List UInt8}, bytesC es = some bs → ∃ xs : List Int, es = xs.map (CV.int .u8) ∧ bs = Lib.bytesOf xs
  | [], bs, h => by simp only [bytesC, Option.some.injEq] at h; exact ⟨[], rfl, by rw [← h]; rfl⟩
  | .int .u8 n :: es, bs, h => by
    simp only [bytesC] at h
    split at h
    · rename_i bs' h'
      obtain ⟨xs, h1, h2⟩ := bytesC_ints h'
      simp only [Option.some.injEq] at h
      exact ⟨n :: xs, by rw [h1]; rfl, by rw [← h, h2]; rfl⟩
    · cases h
theorem RL_ints {w : World} {S : Nat → Nat → Prop} {sz : Nat} : ∀ (xs : List Int) {cs : List Value}, RL w S sz cs (xs.map (CV.int .u8)) → cs = xs.map (Value.int .u8)
  | [], cs, h => by cases h; rfl
  | x :: xs, cs, h => by
    cases h with
    | cons _ c cs _ _ hl h hs =>
      cases h
      rw [RL_ints xs hs]; rfl
/-- Bytes, where they lie. -/
theorem RC_ints {w : World} {S : Nat → Nat → Prop} {cv : CV} {xs : List Int} {u : Value} (h : RC w S [u] cv) (hb : cv = .nilsl ∧ xs = [] ∨ ∃ sz, cv = .sl sz (xs.map (CV.int .u8))) :
    ∃ a n c, u = .slice a n c ∧ n = xs.length ∧ c ≤ maxLen ∧ n ≤ c ∧ (a = none → xs = [] ∧ (cv = .nilsl → c = 0)) ∧ (cv = .nilsl → a = none) ∧ ∀ a', a = some a' → xs = [] ∨ (a'.spot = none ∧ ∀ j x, xs[j]? = some x → w.cell? (a'.add j) = some (.int .u8 x)) := by
  rcases hb with ⟨rfl, rfl⟩ | ⟨sz, rfl⟩
  · obtain rfl : u = .slice none 0 0 := by
      generalize hu : [u] = us at h
      cases h
      exact (List.cons.inj hu).1
    exact ⟨none, 0, 0, rfl, rfl, by unfold maxLen; omega, by omega, fun _ => ⟨rfl, fun _ => rfl⟩, fun _ => rfl, fun a' h => by simp at h⟩
  · generalize hes : xs.map (CV.int .u8) = es at h
    generalize hu : [u] = us at h
    cases h with
    | sl b o cap _ _ cs h hr hc hm =>
      obtain rfl := (List.cons.inj hu).1
      subst hes
      have hcs := RL_ints xs hr
      subst hcs
      refine ⟨some ⟨b, o, none⟩, _, cap, rfl, by simp, hm, hc, fun h => by simp at h, fun h => by simp at h, fun a' ha => .inr ?_⟩
      simp only [Option.some.injEq] at ha
      subst ha
      refine ⟨rfl, fun j x hj => ?_⟩
      have := (h j (.int .u8 x) (by rw [List.getElem?_map, hj]; rfl)).1
      rw [← this]
      unfold Addr.add
      split
      · rename_i h0; subst h0; rfl
      · rfl
    | sl0 _ a cap hm =>
      have : xs = [] := by simpa using hes
      subst this
      obtain rfl := (List.cons.inj hu).1
      refine ⟨a, 0, cap, rfl, rfl, hm, by omega, fun _ => ⟨rfl, fun h => by simp at h⟩, fun h => by simp at h, fun a' _ => .inl rfl⟩
theorem run_loadB {P : Program} (w : World) : ∀ (xs : List Int) (a : Addr) (acc : ByteArray), (∀ j x, xs[j]? = some x → w.cell? (a.add j) = some (.int .u8 x)) →
    (Extern.Bytes.loadBytes a xs.length acc).run P w = .ok ⟨acc.data ++ (Lib.bytesOf xs).toArray⟩ w
  | [], a, acc, _ => by simp [Extern.Bytes.loadBytes, Lib.bytesOf]
  | x :: l, a, acc, h => by
    have h0 : w.cell? a = some (.int .u8 x) := by
      have := h 0 x rfl
      simpa [Addr.add] using this
    have ih := run_loadB (P := P) w l (a.add 1) (acc.push x.toNat.toUInt8) (fun j y hy => by
      have := h (j + 1) y (by simpa using hy)
      have e : (a.add 1).add j = a.add (j + 1) := by
        unfold Addr.add
        by_cases hj : j = 0
        · subst hj; simp
        · simp [hj]; omega
      rw [e]; exact this)
    simp only [List.length_cons, Extern.Bytes.loadBytes, Sem.run_bind, run_load, h0, Result.andThen]
    rw [ih]
    congr 1
    apply ByteArray.ext
    simp [ByteArray.push, Lib.bytesOf]
theorem bytesLess_cmp : ∀ (x y : List UInt8), Lib.compareBytes x y = (if Op.bytesLess x y then -1 else if x == y then 0 else 1)
  | [], [] => by simp [Lib.compareBytes, Op.bytesLess]
  | [], b :: y => by simp [Lib.compareBytes, Op.bytesLess]
  | a :: x, [] => by simp [Lib.compareBytes, Op.bytesLess]
  | a :: x, b :: y => by
    rw [Lib.compareBytes, bytesLess_cmp x y]
    simp only [Op.bytesLess]
    by_cases h1 : a < b
    · simp [h1]
    · by_cases h2 : b < a
      · have hne : a ≠ b := fun h => by subst h; exact UInt8.lt_irrefl _ h2
        simp [h1, h2, hne]
      · have : a = b := UInt8.le_antisymm (UInt8.not_lt.1 h2) (UInt8.not_lt.1 h1)
        subst this
        simp [h1]
theorem fn101 : ∃ fn c, Tryd.prog.funcs[101]? = some fn ∧ fn.body = some c ∧ (fn.name == "runtime.NumGoroutine") = false := ⟨Tryd.f101, _, Tryd.func101, rfl, by kernel_rfl⟩
theorem mixed : Tryd.prog.follows .mixedOrders = true := by kernel_rfl
theorem compare_calls0 {w : World} {u v : Value} {z : Int} (hrun : (Extern.BytealgCompare.compare #[u, v]).run Tryd.prog w = .ok (.int .i64 z) w) :
    Calls Tryd.prog 101 #[u, v] w fun e w' => e = .returned (.int .i64 z) ∧ w' = w := by
  have mixed := mixed
  go_enter Tryd.func101, Tryd.ntmps101
  go_wp2
  rw [run_callFunc_extern Tryd.func128 (by kernel_rfl) (by kernel_rfl) (by kernel_rfl) (e := Extern.BytealgCompare.compare) (by kernel_rfl), hrun]
  simp only [Result.andThen]
  rw [Oper.upon_value]
  go_wp2
  go_ret
  exact ⟨rfl, rfl⟩
theorem RV_c1 {g : Gh} {w : World} {S : Nat → Nat → Prop} {u : Value} {cv : CV} (h : RV g w S u (.c cv)) (ha : cv.isAgg = false) : RC w S [u] cv := by
  cases h with
  | one _ _ h _ => cases h; assumption
  | agg cs _ h ha' => simp [AV.isAgg, ha] at ha'
theorem run_bytesOfE {P : Program} {C : Cfg} {S0 : Nat → Nat → Prop} {g : Gh} {w : World} {H : Heap} {x : AV} {u : Value} {bs : List UInt8} (hO : Ok C S0 g w H) (hx : RV g w (g.St S0) u x) (hb : bE H x = some bs) :
    (Extern.Bytes.bytesOf u).run P w = .ok ⟨bs.toArray⟩ w := by
  unfold bE at hb
  split at hb
  · rename_i es he
    obtain ⟨A, c, cs, rfl, h1, h2, h3, _⟩ := elems_read hO hx he
    obtain ⟨xs, rfl, rfl⟩ := bytesC_ints hb
    have hcs := RL_ints xs h1
    subst hcs
    cases A with
    | none =>
      have := h2 rfl
      obtain rfl : xs = [] := by simpa using this
      rfl
    | some a =>
      by_cases hx0 : xs = []
      · subst hx0; rfl
      · obtain ⟨b, o, ha, hc⟩ := h3 (by simpa using hx0)
        simp only [Option.some.injEq] at ha
        subst ha
        show (Extern.Bytes.loadBytes ⟨b, o, none⟩ (xs.map (CV.int .u8)).length .empty).run P w = _
        rw [List.length_map, run_loadB w xs ⟨b, o, none⟩ .empty (fun j x hj => by rw [addr_add]; exact hc j _ (by rw [List.getElem?_map, hj]; rfl))]
        congr 1
        apply ByteArray.ext
        simp
  · cases hb
theorem run_compareE {P : Program} {C : Cfg} {S0 : Nat → Nat → Prop} {g : Gh} {w : World} {H : Heap} {a c : AV} {x y : List UInt8} {u v : Value} (hO : Ok C S0 g w H) (h1 : RV g w (g.St S0) u a) (h2 : RV g w (g.St S0) v c) (hb1 : bE H a = some x) (hb2 : bE H c = some y) :
    (Extern.BytealgCompare.compare #[u, v]).run P w = .ok (.int .i64 (if Op.bytesLess x y then -1 else if x == y then 0 else 1)) w := by
  change Sem.run P (do pure (goInt (Extern.BytealgCompare.cmp (← Extern.Bytes.bytesOf u) (← Extern.Bytes.bytesOf v)))) w = _
  simp only [Sem.run_bind, run_bytesOfE hO h1 hb1, run_bytesOfE hO h2 hb2, Sem.run_pure, Result.andThen]
  rw [Lib.cmp_eq, bytesLess_cmp]
  rfl
theorem prim101 (b : Bool) : PrimOk (cfg b) 101 compareP where
  keeps := fun args H v H' h => by
    unfold compareP at h
    split at h
    · split at h
      · simp only [Option.some.injEq, Prod.mk.injEq] at h
        rw [h.2]
        exact ⟨Nat.le_refl _, fun _ _ h _ => h⟩
      · cases h
    · cases h
  fn := fn101
  run := fun args H v H' h S0 g w us hO hu => by
    unfold compareP at h
    split at h
    · split at h
      · rename_i x y hx hy
        simp only [Option.some.injEq, Prod.mk.injEq] at h
        obtain ⟨rfl, rfl⟩ := h
        cases hu with
        | cons u _ _ _ h1 hs =>
          cases hs with
          | cons v _ _ _ h2 hs =>
            cases hs
            refine Calls.mono (compare_calls0 (run_compareE hO h1 h2 hx hy)) fun e w' he => ?_
            obtain ⟨rfl, rfl⟩ := he
            exact ⟨_, g, rfl, hO, Step.refl _ _, .one _ _ (.c _ _ (.int _ _)) rfl⟩
      · cases h
    · cases h
end Go.Fm
/-
  bytes.Clone, at the model.
-/
set_option maxRecDepth 100000
set_option linter.unusedVariables false
set_option linter.unusedSimpArgs false
namespace Go.Fm
open Go Go.Proofs Go.RowKit
theorem info5 : (Tryd.prog.info? 5).map (fun i => (i.zero, i.size, i.bytes)) = some (some (.int .u8 0), 1, 1) := by kernel_rfl
theorem und38 : Tryd.prog.underlying 38 = some (.slice 5) := by kernel_rfl
theorem clone_any (A : Addr) (n c : Nat) (bs : List Int) (w : World) (hn : bs.length = n) (hbytes : n ≤ 140737488355328) (hc : ∀ j, j < n → w.cell? (A.add j) = some (.int .u8 (bs.getD j 0))) :
    Calls Tryd.prog 103 #[.slice (some A) n c] w fun e w' => ∃ v, e = .returned v ∧ w'.ownsRow w.heap.size 5 1 v n (bs.map (Value.int .u8)) ∧ Below w.heap.size w w' ∧ v ≠ .slice none 0 0 := by
  obtain ⟨i0, hi, hz0, hz1, hz2⟩ := info_parts info5
  have hown0 : (w.alloc (.cells #[] 5)).ownsRow w.heap.size 5 1 (.slice (some ⟨w.heap.size, 0, none⟩) 0 0) 0 [] :=
    ⟨rfl, .inr ⟨w.heap.size, 0, #[], rfl, Nat.le_refl _, by show (w.heap.push _)[w.heap.size]? = _; simp, Nat.le_refl _, by unfold maxLen; omega, rfl, rfl⟩⟩
  have he : ∀ w : World, (binOp .eql 38 (.slice (some A) n c) (.slice none 0 0)).run Tryd.prog w = .ok (.bool false) w := fun _ => rfl
  have mixed := mixed
  go_enter Tryd.func103, Tryd.ntmps103
  go_wp2_with (first
    | (at_builtin; refine wpList_append_own _ rfl (.tmp 5) (.tmp 6) 38 rfl w.heap.size 5 i0 (.int .u8 0) 1 1 und38 hi hz0 hz1 hz2 rfl (by decide) _ _ _ rfl hown0 A n c (bs.map (Value.int .u8)) rfl (by simp [hn]) ?c1 (ints_oneCell .u8 bs) (by unfold maxLen; omega) (by omega) (by simp) ?_))
  case c1 =>
    intro j u hu
    have hj : j < n := by
      have := (List.getElem?_eq_some_iff.1 hu).1
      simpa [hn] using this
    have hb : (A.add j).block < w.heap.size := World.block_lt_of_cell? _ _ (hc j hj)
    rw [((Below.refl w.heap.size w).alloc (Nat.le_refl _) _).cell hb, hc j hj]
    have e : (bs.map (Value.int .u8))[j]? = some (.int .u8 (bs.getD j 0)) := by simp [List.getD, show j < bs.length by omega]
    rw [e] at hu
    exact hu
  intro v' w1 hown' hgrow hnil
  go_wp2
  go_ret
  exact ⟨_, rfl, by simpa using hown', ((Below.refl _ _).alloc (Nat.le_refl _) _).grown hgrow (by simp) (fun k hk => by simp [Value.ownBlock] at hk; omega), by simpa using hnil⟩
theorem clone_nil (n c : Nat) (w : World) : Calls Tryd.prog 103 #[.slice none n c] w fun e w' => e = .returned (.slice none 0 0) ∧ w' = w := by
  have he : ∀ w : World, (binOp .eql 38 (.slice none n c) (.slice none 0 0)).run Tryd.prog w = .ok (.bool true) w := fun _ => rfl
  have mixed := mixed
  go_enter Tryd.func103, Tryd.ntmps103
  go_wp2
  go_ret
  exact ⟨rfl, rfl⟩
end Go.Fm
namespace Go.Fm
open Go Go.Proofs Go.RowKit
theorem RL_mk {w : World} {S : Nat → Nat → Prop} : ∀ (xs : List Int), RL w S 1 (xs.map (Value.int .u8)) (xs.map (CV.int .u8))
  | [] => .nil _
  | x :: xs => .cons 1 [.int .u8 x] (xs.map (Value.int .u8)) _ _ rfl (.int _ _) (RL_mk xs)
theorem Below.step {g : Gh} {w w' : World} (h : Below w.heap.size w w') : Step g w g w' where
  size := h.size
  os := h.os
  tape := h.tape
  output := h.output
  ids := fun id b hb => ⟨b, hb, rfl, rfl, rfl, rfl, fun _ h => h, fun _ h => h⟩
  keep := fun b hb hf => ⟨h.block b hb, hf⟩
theorem Ok.below {C : Cfg} {S0 : Nat → Nat → Prop} {g : Gh} {w w' : World} {H : Heap} (h : Ok C S0 g w H) (hb : Below w.heap.size w w') : Ok C S0 g w' H where
  inv := h.inv.next h.real (Below.step hb) (fun id b hG => .inl ⟨hG, fun ho hv => hb.block _ (h.inv.lt id b hG hv)⟩) (fun id b hG hv => Nat.lt_of_lt_of_le (h.inv.lt id b hG hv) hb.size) h.inv.inj h.inv.s0
  real := h.real
  gl := h.gl.stays ((Below.step hb).stays S0)
  heap := h.heap
/-- A row that was made anew, read as a content. -/
theorem RC_owns {C : Cfg} {S0 : Nat → Nat → Prop} {g : Gh} {w w' : World} {H : Heap} (h : Ok C S0 g w H) {v : Value} {xs : List Int} (ho : w'.ownsRow w.heap.size 5 1 v xs.length (xs.map (Value.int .u8))) :
    RC w' (g.St S0) [v] (.sl 1 (xs.map (CV.int .u8))) := by
  obtain ⟨_, ho⟩ := ho
  rcases ho with ⟨rfl, hn⟩ | ⟨b, cap, cur, rfl, hb, hh, hn, hc, hsz, htk⟩
  · obtain rfl : xs = [] := List.length_eq_zero_iff.1 hn
    exact .sl0 1 none 0 (by unfold maxLen; omega)
  · have := RC.sl (w := w') (S := g.St S0) b 0 cap 1 (xs.map (CV.int .u8)) (xs.map (Value.int .u8)) (fun i v hv => ?_) (RL_mk xs) (by simpa using hn) hc
    · simpa using this
    · refine ⟨?_, h.inv.fresh _ _ hb, fun id blk hG hok hv he => ?_⟩
      · rw [Nat.zero_add]
        unfold World.cell?
        rw [hh]
        simp only [Option.isSome_none, Bool.false_eq_true, if_false]
        rw [← htk, List.getElem?_take] at hv
        split at hv
        · simpa using hv
        · cases hv
      · have := h.inv.lt id blk hG hv
        omega
theorem fn103 : ∃ fn c, Tryd.prog.funcs[103]? = some fn ∧ fn.body = some c ∧ (fn.name == "runtime.NumGoroutine") = false := ⟨Tryd.f103, _, Tryd.func103, rfl, by kernel_rfl⟩
/-- What bytes.Clone does with a row of bytes. -/
theorem clone_calls {C : Cfg} {S0 : Nat → Nat → Prop} {g : Gh} {w : World} {H : Heap} {a : AV} {u : Value} {es : List CV} {bs : List UInt8} (hO : Ok C S0 g w H) (hx : RV g w (g.St S0) u a) (he : elemsOf H 1 a = some es) (hbs : bytesC es = some bs) (hlen : es.length ≤ 140737488355328) :
    Calls Tryd.prog 103 #[u] w fun e w' => (e = .returned (.slice none 0 0) ∧ es = [] ∧ w' = w) ∨ ∃ (v : Value) (xs : List Int), e = .returned v ∧ es = xs.map (CV.int .u8) ∧ w'.ownsRow w.heap.size 5 1 v xs.length (xs.map (Value.int .u8)) ∧ Below w.heap.size w w' := by
  obtain ⟨A, c, cs, rfl, h1, h2, h3, _⟩ := elems_read hO hx he
  obtain ⟨xs, rfl, rfl⟩ := bytesC_ints hbs
  have hcs := RL_ints xs h1
  subst hcs
  cases A with
  | none =>
    have hn := h2 rfl
    refine Calls.mono (clone_nil _ c w) fun e w' he => ?_
    obtain ⟨rfl, rfl⟩ := he
    exact .inl ⟨rfl, hn, rfl⟩
  | some a =>
    rw [List.length_map] at hlen ⊢
    refine Calls.mono (clone_any a xs.length c xs w rfl hlen fun j hj => ?_) fun e w' he => ?_
    · have hne : xs ≠ [] := fun h => by rw [h] at hj; simp at hj
      obtain ⟨b, o, ha, hc⟩ := h3 (by simpa using hne)
      simp only [Option.some.injEq] at ha
      subst ha
      rw [addr_add, hc j (.int .u8 xs[j]) (by rw [List.getElem?_map, List.getElem?_eq_getElem hj]; rfl), List.getD_eq_getElem?_getD, List.getElem?_eq_getElem hj]
      rfl
    · obtain ⟨v, rfl, h2, h3, _⟩ := he
      exact .inr ⟨v, xs, rfl, rfl, h2, h3⟩
theorem prim103 (b : Bool) : PrimOk (cfg b) 103 cloneP where
  keeps := fun args H v H' h => by
    unfold cloneP at h
    split at h
    · simp only [Option.some.injEq, Prod.mk.injEq] at h
      rw [h.2]
      exact ⟨Nat.le_refl _, fun _ _ h _ => h⟩
    · split at h
      · split at h
        · split at h
          · simp only [Option.some.injEq, Prod.mk.injEq] at h
            rw [h.2]
            exact ⟨Nat.le_refl _, fun _ _ h _ => h⟩
          · cases h
        · cases h
      · cases h
    · cases h
  fn := fn103
  run := fun args H v H' h S0 g w us hO hu => by
    unfold cloneP at h
    split at h
    · simp only [Option.some.injEq, Prod.mk.injEq] at h
      obtain ⟨rfl, rfl⟩ := h
      cases hu with
      | cons u _ _ _ h1 hs =>
        cases hs
        obtain ⟨a, n, c, rfl, _, _, _, ha, ha', _⟩ := RC_ints (RV_c1 h1 rfl) (.inl ⟨rfl, rfl⟩)
        obtain rfl := ha' rfl
        refine Calls.mono (clone_nil n c w) fun e w' he => ?_
        obtain ⟨rfl, rfl⟩ := he
        exact ⟨_, g, rfl, hO, Step.refl _ _, .one _ _ (.c _ _ .nilsl) rfl⟩
    · split at h
      · rename_i es he
        split at h
        · rename_i bs hbs
          split at h
          · rename_i hlen
            simp only [Option.some.injEq, Prod.mk.injEq] at h
            obtain ⟨rfl, rfl⟩ := h
            cases hu with
            | cons u _ _ _ h1 hs =>
              cases hs
              refine Calls.mono (clone_calls hO h1 he hbs hlen) fun e w' hc => ?_
              rcases hc with ⟨rfl, rfl, rfl⟩ | ⟨v, xs, rfl, rfl, h2, h3⟩
              · exact ⟨_, g, rfl, hO, Step.refl _ _, .one _ _ (.c _ _ (.sl0 1 none 0 (by unfold maxLen; omega))) rfl⟩
              · exact ⟨_, g, rfl, hO.below h3, Below.step h3, .one _ _ (.c _ _ (RC_owns hO h2)) rfl⟩
          · cases h
        · cases h
      · cases h
    · cases h
end Go.Fm
