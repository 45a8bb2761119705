/-
  A part of the proof: PDec2.
-/
import Derived.Test.YtjmjijgnbjkpnaaPDec
set_option linter.all false
set_option autoImplicit true
/-
  nodes.Decode of any bytes: what it answers (the plain seat).
-/
set_option autoImplicit false
set_option maxRecDepth 100000
set_option linter.unusedVariables false
set_option linter.unusedSimpArgs false
namespace Go.Fm
open Go Go.Proofs
def nd0 : Nd := ⟨none, none, 0, 1, zeroL, zeroL⟩
theorem enc_call (b : Bool) (n : Nd) (hl : n.l.length = 32) (hr : n.r.length = 32) : ∀ H, callX (cfg b) An 7 [.c n.cv] H = some (.tup [.c (pV n.encO), .c (.int .i64 n.encE)], H) := by
  refine callX_pure (enc_any b n hl hr) rfl ?_ (prim_none' (by decide))
  rfl
/-- What Decode answers: an error, or a node that Encode turns into these bytes. -/
inductive DecR (o : Option (List UInt8)) : CV → Int → Prop
  | bad (e : Int) (h : e ≠ 0) : DecR o apiZ e
  | ok (n : Nd) (hl : n.l.length = 32) (hr : n.r.length = 32) (he : n.encE = 0) (hb : pB n.encO = pB o) : DecR o n.cv 0
/-! CF -/
theorem Few.len {acc : List It} (h : Few acc) : acc.length ≤ 256 := by
  rcases List.eq_nil_or_concat acc with rfl | ⟨pre, q, rfl⟩
  · simp
  · rw [List.concat_eq_append] at h ⊢
    have := h q (by simp)
    have hq := q.1.toNat_lt
    omega
theorem parseF_ok : ∀ (n : Nat) (acc : List It) (l : List UInt8), (∀ p ∈ acc, 0 < p.2.length ∧ p.2.length ≤ 1000000) → Few acc →
    (∀ p ∈ (parseF n acc l).1, 0 < p.2.length ∧ p.2.length ≤ 1000000) ∧ (parseF n acc l).1.length ≤ 256
  | 0, acc, l, h, hf => ⟨h, hf.len⟩
  | n + 1, acc, [], h, hf => ⟨h, hf.len⟩
  | n + 1, acc, tag :: r, h, hf => by
    cases hp : pieceL r with
    | none =>
      have e : parseF (n + 1) acc (tag :: r) = ([], 4) := by simp only [parseF, hp]
      rw [e]; exact ⟨by simp, by simp⟩
    | some vr =>
      obtain ⟨v, rest⟩ := vr
      have hv6 := pieceL_v hp
      by_cases hv : v = []
      · subst hv
        have e : parseF (n + 1) acc (tag :: r) = ([], 6) := by simp only [parseF, hp, if_true]
        rw [e]; exact ⟨by simp, by simp⟩
      · have h0 : 0 < v.length := List.length_pos_iff.2 hv
        by_cases hb : lastBad acc tag = true
        · have e : parseF (n + 1) acc (tag :: r) = ([], 5) := by simp only [parseF, hp, if_neg hv, if_pos hb]
          rw [e]; exact ⟨by simp, by simp⟩
        · have e : parseF (n + 1) acc (tag :: r) = parseF n (acc ++ [(tag, v)]) rest := by simp only [parseF, hp, if_neg hv, if_neg hb]
          rw [e]
          refine parseF_ok n (acc ++ [(tag, v)]) rest ?_ ?_
          · intro p hp
            rcases List.mem_append.1 hp with hp | hp
            · exact h p hp
            · simp only [List.mem_singleton] at hp
              subst hp
              exact ⟨h0, by simp only; omega⟩
          · intro q' hq'
            simp only [List.getLast?_append, List.getLast?_singleton, Option.some_or, Option.some.injEq] at hq'
            subst hq'
            rcases List.eq_nil_or_concat acc with rfl | ⟨pre, q, rfl⟩
            · simp
            · rw [List.concat_eq_append] at hb hf ⊢
              rw [lastBad_app] at hb
              have hfw := hf q (by simp)
              have hb' : ¬ tag.toNat ≤ q.1.toNat := by simpa using hb
              simp only [List.length_append, List.length_cons, List.length_nil] at hfw ⊢
              omega
theorem dec_perr (b : Bool) (o : Option (List UInt8)) (I : CV) (e : Int) (he : e ≠ 0) (pc : ∀ H, callX (cfg b) An 30 [.c (pV o)] H = some (.tup [.c I, .c (.int .i64 e)], H)) :
    fnX (cfg b) An 10 [.c (pV o)] [] = some (.tup [.c apiZ, .c (.int .i64 e)], []) := by
  rw [fnX_eq, p10_eq]
  have he2 : (e != 0) = true := by simpa using he
  simp [p10, pc, he2, frzA, apiZ]
theorem dec_lerr (b : Bool) (o : Option (List UInt8)) (M : List CV) (e : Int) (n : Nd) (B : Heap) (hl : n.l.length = 32) (hr : n.r.length = 32)
    (pc : ∀ H, callX (cfg b) An 30 [.c (pV o)] H = some (.tup [.c (.sl 2 M), .c (.int .i64 0)], H))
    (lp : loopX 0 (p10_l0 b (callX (cfg b) An) 0) (dS o M 0) (dH nd0) = some (.ret [.c (pV o), .ov 0 [] 0, .c (.int .i64 e), .ov 1 [] 0], dH n ++ B)) :
    fnX (cfg b) An 10 [.c (pV o)] [] = some (.tup [.c apiZ, .c (.int .i64 e)], []) := by
  rw [fnX_eq, p10_eq]
  have zz : dI zeroL = [0, 0, 0, 0, 0, 0, 0, 0, 0, 0, 0, 0, 0, 0, 0, 0, 0, 0, 0, 0, 0, 0, 0, 0, 0, 0, 0, 0, 0, 0, 0, 0] := by decide
  have e1 : pV none = .nilsl := rfl
  have ll : (dI n.l).length = 32 := by rw [len_dI, hl]
  have lr : (dI n.r).length = 32 := by rw [len_dI, hr]
  simp only [dS, dH, nd0, Nd.cv, e1, zz, List.reduceReplicate] at lp
  simp (maxSteps := 1000000) [p10, pc, lp, ll, lr, frzA, apiZ]
end Go.Fm
