/-
  A part of the proof: PRfD.
-/
import Derived.Test.YtjmjijgnbjkpnaaPRfC
set_option linter.all false
set_option autoImplicit true
/-
  ferrymanref01.Parse as a whole; ferrymanref05.Encode (the plain seat).
-/
set_option autoImplicit false
set_option maxRecDepth 100000
set_option linter.unusedVariables false
set_option linter.unusedSimpArgs false
namespace Go.Fm
open Go Go.Proofs
theorem lastT_app (pre : List It) (q : It) : lastT (pre ++ [q]) = (q.1.toNat : Int) := by simp [lastT]
theorem rpar_loop (b : Bool) : ∀ (n : Nat) (acc : List It) (l : List UInt8), l.length < n → l.length ≤ 9223372036854775807 → Few acc →
    ((parseF n acc l).2 = 0 ∧ loopX 0 (p32_l0 b (callX (cfg b) An) 0) [.c (.sl 1 (bytesAV l)), itA acc, .c (.int .i64 (lastT acc))] (itH acc) = some (.exit 0 [.any, .any, itA (parseF n acc l).1], itH (parseF n acc l).1)) ∨
    ((parseF n acc l).2 ≠ 0 ∧ (parseF n acc l).1 = [] ∧ ∃ acc', loopX 0 (p32_l0 b (callX (cfg b) An) 0) [.c (.sl 1 (bytesAV l)), itA acc, .c (.int .i64 (lastT acc))] (itH acc) = some (.ret [.c .nilsl, .c (.int .i64 (parseF n acc l).2), itA acc'], itH acc'))
  | 0, acc, l, h, _, _ => by omega
  | n + 1, acc, [], h, _, _ => by
    refine .inl ⟨rfl, ?_⟩
    have e : (parseF (n + 1) acc []).1 = acc := rfl
    rw [e, loopX_eq]
    have : bytesAV [] = [] := rfl
    rw [this]
    cases acc with
    | nil => simp [p32_l0, itA, itH]
    | cons a r => simp [p32_l0, itA, itH]
  | n + 1, acc, tag :: r, h, hL, hm => by
    simp only [List.length_cons] at h hL
    have st := rpar_step b acc tag r hL (by have := hm.len; omega)
    cases hp : pieceL r with
    | none =>
      have e : parseF (n + 1) acc (tag :: r) = ([], 4) := by simp only [parseF, hp]
      rw [e]
      simp only [hp] at st
      exact .inr ⟨by simp, rfl, acc, st⟩
    | some vr =>
      obtain ⟨v, rest⟩ := vr
      have hl := pieceL_len hp
      simp only [hp] at st
      by_cases hv : v = []
      · rw [if_pos hv] at st
        have e : parseF (n + 1) acc (tag :: r) = ([], 6) := by simp only [parseF, hp, hv, if_true]
        rw [e]
        exact .inr ⟨by simp, rfl, acc, st⟩
      · rw [if_neg hv] at st
        by_cases hb : lastBad acc tag = true
        · rw [if_pos hb] at st
          have e : parseF (n + 1) acc (tag :: r) = ([], 5) := by simp only [parseF, hp, if_neg hv, if_pos hb]
          rw [e]
          exact .inr ⟨by simp, rfl, acc, st⟩
        · rw [if_neg hb] at st
          have e : parseF (n + 1) acc (tag :: r) = parseF n (acc ++ [(tag, v)]) rest := by simp only [parseF, hp, if_neg hv, if_neg hb]
          rw [e]
          have ih := rpar_loop b n (acc ++ [(tag, v)]) rest (by omega) (by omega) (by
            intro q' hq'
            simp only [List.getLast?_append, List.getLast?_singleton, Option.some_or, Option.some.injEq] at hq'
            subst hq'
            rcases List.eq_nil_or_concat acc with rfl | ⟨pre, q, rfl⟩
            · simp
            · rw [List.concat_eq_append] at hb hm ⊢
              rw [lastBad_app] at hb
              have hfw := hm q (by simp)
              have hb' : ¬ tag.toNat ≤ q.1.toNat := by simpa using hb
              simp only [List.length_append, List.length_cons, List.length_nil] at hfw ⊢
              omega)
          rw [itA_app, itH_app, lastT_app] at ih
          rw [st]
          exact ih
theorem rparse_fn (b : Bool) (l : List UInt8) (hL : l.length ≤ 9223372036854775807) : fnX (cfg b) An 32 [.c (.sl 1 (bytesAV l))] [] = some (.tup [.c (itsC (parseL l).1), .c (.int .i64 (parseL l).2)], []) := by
  rw [fnX_eq, p32_eq]
  have e := rpar_loop b (l.length + 1) [] l (by omega) hL (by intro q hq; cases hq)
  have e1 : lastT [] = -1 := rfl
  rw [e1] at e
  simp only [itA, itH] at e
  rcases e with ⟨h1, e⟩ | ⟨h1, h2, acc, e⟩
  · unfold parseL
    rw [h1]
    cases hx : (parseF (l.length + 1) [] l).1 with
    | nil =>
      rw [hx] at e
      simp only [itA, itH] at e
      simp [p32, e, itsC]
    | cons p r =>
      rw [hx] at e
      simp only [itA, itH] at e
      simp [p32, e, itsC]
  · unfold parseL
    rw [h2]
    cases acc with
    | nil => simp only [itA, itH] at e; simp [p32, e, itsC]
    | cons p r => simp only [itA, itH] at e; simp [p32, e, itsC]
theorem rparse_nil (b : Bool) : fnX (cfg b) An 32 [.c .nilsl] [] = some (.tup [.c .nilsl, .c (.int .i64 0)], []) := by
  rw [fnX_eq, p32_eq]
  have e : loopX 0 (p32_l0 b (callX (cfg b) An) 0) [.c .nilsl, .c .nilsl, .c (.int .i64 (-1))] [] = some (.exit 0 [.any, .any, .c .nilsl], []) := by
    rw [loopX_eq]; simp [p32_l0]
  simp [p32, e]
theorem rparse_call (b : Bool) (o : Option (List UInt8)) (hL : (pB o).length ≤ 9223372036854775807) : ∀ H, callX (cfg b) An 32 [.c (pV o)] H = some (.tup [.c (itsC (parseL (pB o)).1), .c (.int .i64 (parseL (pB o)).2)], H) := by
  cases o with
  | none => exact callX_pure (rparse_nil b) rfl rfl (prim_none' (by decide))
  | some l =>
    refine callX_pure (rparse_fn b l hL) rfl ?_ (prim_none' (by decide))
    rfl
end Go.Fm
