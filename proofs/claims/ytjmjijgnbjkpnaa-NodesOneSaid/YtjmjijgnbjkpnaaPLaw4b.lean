/-
  A part of the proof: PLaw4b.
-/
import Derived.Test.YtjmjijgnbjkpnaaPLaw4
set_option linter.all false
set_option autoImplicit true
/-
  Law NodesOne: the walk (the plain seat).
-/
set_option autoImplicit false
set_option maxRecDepth 100000
set_option linter.unusedVariables false
set_option linter.unusedSimpArgs false
namespace Go.Fm
open Go Go.Proofs
/-- What the law does with one of its texts. -/
structure OneR (b : Bool) (o : Option (List UInt8)) (v : CV) (e : Int) : Prop where
  dec : ∀ H, callX (cfg b) An 10 [.c (pV o)] H = some (.tup [.c v, .c (.int .i64 e)], H)
  sz : v.size = 68
  ag : v.isAgg = true
  enc : e = 0 → ∃ w : Option (List UInt8), pB w = pB o ∧ ∀ H, callX (cfg b) An 7 [.c v] H = some (.tup [.c (pV w), .c (.int .i64 0)], H)
theorem one_r (b : Bool) (o : Option (List UInt8)) : ∃ v e, OneR b o v e := by
  obtain ⟨v, e, h1, h2⟩ := dec_call b o
  refine ⟨v, e, ?_⟩
  cases h2 with
  | bad _ h => exact ⟨h1, rfl, rfl, fun h' => absurd h' h⟩
  | ok n hl hr he hb =>
    have ll : (dI n.l).length = 32 := by rw [len_dI, hl]
    have lr : (dI n.r).length = 32 := by rw [len_dI, hr]
    refine ⟨h1, by simp [Nd.cv], rfl, fun _ => ⟨n.encO, hb, ?_⟩⟩
    have := enc_call b n hl hr
    rw [he] at this
    exact this
/-! CF -/
set_option maxHeartbeats 8000000 in
theorem one_step (b : Bool) (o : Option (List UInt8)) (M : List CV) (i : Nat) (hi : i < M.length) (hm : M.length ≤ 1000) (v : CV) (e : Int) (h : OneR b o v e) (hn : nthC M i = pV o) (N : CV) :
    loopX 0 (p4_l0 b (callX (cfg b) An) 0) [.os 0, .c (.int .i64 (M.length : Int)), .c (.int .i64 (i : Int))] [.row 22 1 M] = loopX 0 (p4_l0 b (callX (cfg b) An) 0) [.os 0, .c (.int .i64 (M.length : Int)), .c (.int .i64 ((i : Int) + 1))] [.row 22 1 M] := by
  have hI : (i : Int) < (M.length : Int) := by omega
  have ha : iAdd .i64 (i : Int) 1 = (i : Int) + 1 := by unfold iAdd; rw [i64_small (by omega) (by omega)]
  obtain ⟨dc, sz, ag, en⟩ := h
  have kz := csz_pV o
  have kg := cag_pV o
  have eb := fun H => elemsOf_pV H o
  rw [loopX_eq]
  by_cases he : e = 0
  · subst he
    obtain ⟨w, hw, ec⟩ := en rfl
    have ea := fun H => elemsOf_pV H w
    simp (maxSteps := 1000000) [p4_l0, hi, hI, hn, ha, dc, sz, ag, ec, kz, kg, ea, eb, hw, frzA, BA_toList]
    exact loopX_gc (by simp) (by simp)
  · have heb : (e == 0) = false := by simpa using he
    simp (maxSteps := 1000000) [p4_l0, hi, hI, hn, ha, dc, sz, ag, kz, kg, heb, frzA]
    exact loopX_gc (by simp) (by simp)
theorem one_loop (b : Bool) (o1 o2 : Option (List UInt8)) : loopX 0 (p4_l0 b (callX (cfg b) An) 0) [.os 0, .c (.int .i64 2), .c (.int .i64 0)] [.row 22 1 [pV o1, pV o2]] = some (.exit 0 [.any], [.row 22 1 [pV o1, pV o2]]) := by
  obtain ⟨v1, e1, h1⟩ := one_r b o1
  obtain ⟨v2, e2, h2⟩ := one_r b o2
  have s1 := one_step b o1 [pV o1, pV o2] 0 (by simp) (by simp) v1 e1 h1 rfl .nilp
  have s2 := one_step b o2 [pV o1, pV o2] 1 (by simp) (by simp) v2 e2 h2 rfl .nilp
  have z : ((([pV o1, pV o2] : List CV).length : Nat) : Int) = 2 := rfl
  have z0 : ((0 : Nat) : Int) = 0 := rfl
  have z1 : ((1 : Nat) : Int) = 1 := rfl
  have z2 : (0 : Int) + 1 = 1 := by decide
  have z3 : (1 : Int) + 1 = 2 := by decide
  rw [z, z0, z2] at s1
  rw [z, z1, z3] at s2
  rw [s1, s2, loopX_eq]
  simp [p4_l0]
end Go.Fm
