/-
  A part of the proof: PPrim.
-/
import Derived.Test.YtjmjijgnbjkpnaaDAnn
import Derived.WalkKit
import Derived.ProofKit
import Derived.Lib.Bytealg
import Derived.Lib.Bytes
import Derived.Laws.Entries
import Derived.Laws.Externs
import Derived.Lib.Slices
import Derived.RowKit
set_option linter.all false
set_option autoImplicit true
/-
  Two functions of the library that the interpreter does not walk: bytes.Compare, bytes.Clone.
-/
set_option maxRecDepth 100000
set_option linter.unusedVariables false
set_option linter.unusedSimpArgs false
namespace Go.Fm
open Go Go.Proofs Go.RowKit
theorem bytesC_ints : ∀ {es : List CV} {bs : List UInt8}, bytesC es = some bs → ∃ xs : List Int, es = xs.map (CV.int .u8) ∧ bs = Lib.bytesOf xs
  | [], bs, h => by simp only [bytesC, Option.some.injEq] at h; exact ⟨[], rfl, by rw [← h]; rfl⟩
  | .int .u8 n :: es, bs, h => by
    simp only [bytesC] at h
    split at h
    · rename_i bs' h'
      obtain ⟨xs, h1, h2⟩ := bytesC_ints h'
      simp only [Option.some.injEq] at h
      exact ⟨n :: xs, by rw [h1]; rfl, by rw [← h, h2]; rfl⟩
    · cases h
theorem RL_ints {w : World} {S : Nat → Nat → Prop} {sz : Nat} : ∀ (xs : List Int) {cs : List Value}, RL w S sz cs (xs.map (CV.int .u8)) → cs = xs.map (Value.int .u8)
  | [], cs, h => by cases h; rfl
  | x :: xs, cs, h => by
    cases h with
    | cons _ c cs _ _ hl h hs =>
      cases h
      rw [RL_ints xs hs]; rfl
/-- Bytes, where they lie. -/
theorem RC_ints {w : World} {S : Nat → Nat → Prop} {cv : CV} {xs : List Int} {u : Value} (h : RC w S [u] cv) (hb : cv = .nilsl ∧ xs = [] ∨ ∃ sz, cv = .sl sz (xs.map (CV.int .u8))) :
    ∃ a n c, u = .slice a n c ∧ n = xs.length ∧ c ≤ maxLen ∧ n ≤ c ∧ (a = none → xs = [] ∧ (cv = .nilsl → c = 0)) ∧ (cv = .nilsl → a = none) ∧ ∀ a', a = some a' → xs = [] ∨ (a'.spot = none ∧ ∀ j x, xs[j]? = some x → w.cell? (a'.add j) = some (.int .u8 x)) := by
  rcases hb with ⟨rfl, rfl⟩ | ⟨sz, rfl⟩
  · obtain rfl : u = .slice none 0 0 := by
      generalize hu : [u] = us at h
      cases h
      exact (List.cons.inj hu).1
    exact ⟨none, 0, 0, rfl, rfl, by unfold maxLen; omega, by omega, fun _ => ⟨rfl, fun _ => rfl⟩, fun _ => rfl, fun a' h => by simp at h⟩
  · generalize hes : xs.map (CV.int .u8) = es at h
    generalize hu : [u] = us at h
    cases h with
    | sl b o cap _ _ cs h hr hc hm =>
      obtain rfl := (List.cons.inj hu).1
      subst hes
      have hcs := RL_ints xs hr
      subst hcs
      refine ⟨some ⟨b, o, none⟩, _, cap, rfl, by simp, hm, hc, fun h => by simp at h, fun h => by simp at h, fun a' ha => .inr ?_⟩
      simp only [Option.some.injEq] at ha
      subst ha
      refine ⟨rfl, fun j x hj => ?_⟩
      have := (h j (.int .u8 x) (by rw [List.getElem?_map, hj]; rfl)).1
      rw [← this]
      unfold Addr.add
      split
      · rename_i h0; subst h0; rfl
      · rfl
    | sl0 _ a cap hm =>
      have : xs = [] := by simpa using hes
      subst this
      obtain rfl := (List.cons.inj hu).1
      refine ⟨a, 0, cap, rfl, rfl, hm, by omega, fun _ => ⟨rfl, fun h => by simp at h⟩, fun h => by simp at h, fun a' _ => .inl rfl⟩
theorem run_loadB {P : Program} (w : World) : ∀ (xs : List Int) (a : Addr) (acc : ByteArray), (∀ j x, xs[j]? = some x → w.cell? (a.add j) = some (.int .u8 x)) →
    (Extern.Bytes.loadBytes a xs.length acc).run P w = .ok ⟨acc.data ++ (Lib.bytesOf xs).toArray⟩ w
  | [], a, acc, _ => by simp [Extern.Bytes.loadBytes, Lib.bytesOf]
  | x :: l, a, acc, h => by
    have h0 : w.cell? a = some (.int .u8 x) := by
      have := h 0 x rfl
      simpa [Addr.add] using this
    have ih := run_loadB (P := P) w l (a.add 1) (acc.push x.toNat.toUInt8) (fun j y hy => by
      have := h (j + 1) y (by simpa using hy)
      have e : (a.add 1).add j = a.add (j + 1) := by
        unfold Addr.add
        by_cases hj : j = 0
        · subst hj; simp
        · simp [hj]; omega
      rw [e]; exact this)
    simp only [List.length_cons, Extern.Bytes.loadBytes, Sem.run_bind, run_load, h0, Result.andThen]
    rw [ih]
    congr 1
    apply ByteArray.ext
    simp [ByteArray.push, Lib.bytesOf]
theorem bytesLess_cmp : ∀ (x y : List UInt8), Lib.compareBytes x y = (if Op.bytesLess x y then -1 else if x == y then 0 else 1)
  | [], [] => by simp [Lib.compareBytes, Op.bytesLess]
  | [], b :: y => by simp [Lib.compareBytes, Op.bytesLess]
  | a :: x, [] => by simp [Lib.compareBytes, Op.bytesLess]
  | a :: x, b :: y => by
    rw [Lib.compareBytes, bytesLess_cmp x y]
    simp only [Op.bytesLess]
    by_cases h1 : a < b
    · simp [h1]
    · by_cases h2 : b < a
      · have hne : a ≠ b := fun h => by subst h; exact UInt8.lt_irrefl _ h2
        simp [h1, h2, hne]
      · have : a = b := UInt8.le_antisymm (UInt8.not_lt.1 h2) (UInt8.not_lt.1 h1)
        subst this
        simp [h1]
theorem fn101 : ∃ fn c, Try.prog.funcs[45]? = some fn ∧ fn.body = some c ∧ (fn.name == "runtime.NumGoroutine") = false := ⟨Try.f45, _, Try.func45, rfl, by kernel_rfl⟩
theorem mixed : Try.prog.follows .mixedOrders = true := by kernel_rfl
theorem compare_calls0 {w : World} {u v : Value} {z : Int} (hrun : (Extern.BytealgCompare.compare #[u, v]).run Try.prog w = .ok (.int .i64 z) w) :
    Calls Try.prog 45 #[u, v] w fun e w' => e = .returned (.int .i64 z) ∧ w' = w := by
  have mixed := mixed
  go_enter Try.func45, Try.ntmps45
  go_wp2
  rw [run_callFunc_extern Try.func49 (by kernel_rfl) (by kernel_rfl) (by kernel_rfl) (e := Extern.BytealgCompare.compare) (by kernel_rfl), hrun]
  simp only [Result.andThen]
  rw [Oper.upon_value]
  go_wp2
  go_ret
  exact ⟨rfl, rfl⟩
theorem RV_c1 {g : Gh} {w : World} {S : Nat → Nat → Prop} {u : Value} {cv : CV} (h : RV g w S u (.c cv)) (ha : cv.isAgg = false) : RC w S [u] cv := by
  cases h with
  | one _ _ h _ => cases h; assumption
  | agg cs _ h ha' => simp [AV.isAgg, ha] at ha'
theorem run_bytesOfE {P : Program} {C : Cfg} {S0 : Nat → Nat → Prop} {g : Gh} {w : World} {H : Heap} {x : AV} {u : Value} {bs : List UInt8} (hO : Ok C S0 g w H) (hx : RV g w (g.St S0) u x) (hb : bE H x = some bs) :
    (Extern.Bytes.bytesOf u).run P w = .ok ⟨bs.toArray⟩ w := by
  unfold bE at hb
  split at hb
  · rename_i es he
    obtain ⟨A, c, cs, rfl, h1, h2, h3, _⟩ := elems_read hO hx he
    obtain ⟨xs, rfl, rfl⟩ := bytesC_ints hb
    have hcs := RL_ints xs h1
    subst hcs
    cases A with
    | none =>
      have := h2 rfl
      obtain rfl : xs = [] := by simpa using this
      rfl
    | some a =>
      by_cases hx0 : xs = []
      · subst hx0; rfl
      · obtain ⟨b, o, ha, hc⟩ := h3 (by simpa using hx0)
        simp only [Option.some.injEq] at ha
        subst ha
        show (Extern.Bytes.loadBytes ⟨b, o, none⟩ (xs.map (CV.int .u8)).length .empty).run P w = _
        rw [List.length_map, run_loadB w xs ⟨b, o, none⟩ .empty (fun j x hj => by rw [addr_add]; exact hc j _ (by rw [List.getElem?_map, hj]; rfl))]
        congr 1
        apply ByteArray.ext
        simp
  · cases hb
theorem run_compareE {P : Program} {C : Cfg} {S0 : Nat → Nat → Prop} {g : Gh} {w : World} {H : Heap} {a c : AV} {x y : List UInt8} {u v : Value} (hO : Ok C S0 g w H) (h1 : RV g w (g.St S0) u a) (h2 : RV g w (g.St S0) v c) (hb1 : bE H a = some x) (hb2 : bE H c = some y) :
    (Extern.BytealgCompare.compare #[u, v]).run P w = .ok (.int .i64 (if Op.bytesLess x y then -1 else if x == y then 0 else 1)) w := by
  change Sem.run P (do pure (goInt (Extern.BytealgCompare.cmp (← Extern.Bytes.bytesOf u) (← Extern.Bytes.bytesOf v)))) w = _
  simp only [Sem.run_bind, run_bytesOfE hO h1 hb1, run_bytesOfE hO h2 hb2, Sem.run_pure, Result.andThen]
  rw [Lib.cmp_eq, bytesLess_cmp]
  rfl
theorem prim101 (b : Bool) : PrimOk (cfg b) 45 compareP where
  keeps := fun args H v H' h => by
    unfold compareP at h
    split at h
    · split at h
      · simp only [Option.some.injEq, Prod.mk.injEq] at h
        rw [h.2]
        exact ⟨Nat.le_refl _, fun _ _ h _ => h⟩
      · cases h
    · cases h
  fn := fn101
  run := fun args H v H' h S0 g w us hO hu => by
    unfold compareP at h
    split at h
    · split at h
      · rename_i x y hx hy
        simp only [Option.some.injEq, Prod.mk.injEq] at h
        obtain ⟨rfl, rfl⟩ := h
        cases hu with
        | cons u _ _ _ h1 hs =>
          cases hs with
          | cons v _ _ _ h2 hs =>
            cases hs
            refine Calls.mono (compare_calls0 (run_compareE hO h1 h2 hx hy)) fun e w' he => ?_
            obtain ⟨rfl, rfl⟩ := he
            exact ⟨_, g, rfl, hO, Step.refl _ _, .one _ _ (.c _ _ (.int _ _)) rfl⟩
      · cases h
    · cases h
end Go.Fm
