/-
  A part of the proof: PPiece.
-/
import Derived.Test.YtjmjijgnbjkpnaaDoorPSeg34
import Derived.Test.YtjmjijgnbjkpnaaDoorDLaw13
set_option linter.all false
set_option autoImplicit true
/-
  All pieces of the program are what is said of them.
-/
set_option maxRecDepth 100000
set_option linter.unusedVariables false
namespace Go.Fm
open Go Go.Proofs
theorem pieces13 : pieces (An 13) (bodyOf Tryd.f13) = [(pc13_25, seg13_25), (pc13_34, seg13_34)] := by kernel_rfl
theorem pieces_ok (b : Bool) : PiecesOk (cfg b) An := by
  intro f fn code hf hb x hx
  by_cases h : f = 13
  · subst h
    have hfn : fn = Tryd.f13 := Option.some.inj (hf.symm.trans Tryd.func13)
    subst hfn
    have hc : code = bodyOf Tryd.f13 := by unfold bodyOf; rw [hb]; rfl
    rw [hc, pieces13] at hx
    simp only [List.mem_cons, List.not_mem_nil, or_false] at hx
    rcases hx with rfl | rfl
    · exact piece13_25 b
    · exact piece13_34 b
  · have e : An f = An0 f := if_neg h
    rw [e, pieces_none (An0_pc f)] at hx
    simp at hx
end Go.Fm
