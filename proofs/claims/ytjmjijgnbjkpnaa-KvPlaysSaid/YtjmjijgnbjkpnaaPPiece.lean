/-
  A part of the proof: PPiece.
-/
import Derived.Test.YtjmjijgnbjkpnaaPSeg32
import Derived.Test.YtjmjijgnbjkpnaaDLaw5
set_option linter.all false
set_option autoImplicit true
/-
  All pieces of the program are what is said of them.
-/
set_option maxRecDepth 100000
set_option linter.unusedVariables false
namespace Go.Fm
open Go Go.Proofs
theorem pieces5 : pieces (An 5) (bodyOf Try.f5) = [(pc5_32, seg5_32)] := by kernel_rfl
theorem pieces_ok (b : Bool) : PiecesOk (cfg b) An := by
  intro f fn code hf hb x hx
  by_cases h : f = 5
  · subst h
    have hfn : fn = Try.f5 := Option.some.inj (hf.symm.trans Try.func5)
    subst hfn
    have hc : code = bodyOf Try.f5 := by unfold bodyOf; rw [hb]; rfl
    rw [hc, pieces5] at hx
    simp only [List.mem_cons, List.not_mem_nil, or_false] at hx
    rcases hx with rfl
    exact piece5_32 b
  · have e : An f = An0 f := if_neg h
    rw [e, pieces_none (An0_pc f)] at hx
    simp at hx
end Go.Fm
