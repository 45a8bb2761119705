/-
  A part of the proof: DHead.
-/
import Derived.Test.YtjmjijgnbjkpnabDoorRows
import Derived.JoinedOf
import Derived.KernelRfl
import GoSem.ClaimWrapper
set_option linter.all false
set_option autoImplicit true
/-
  What the translation's head says of the program: closed facts.
-/
set_option maxRecDepth 100000
namespace Go.Fm
open Go Go.Proofs
/-- The head's signs. -/
def headSigns : List Char := [Char.ofNat 104, Char.ofNat 97, Char.ofNat 114, Char.ofNat 110, Char.ofNat 101, Char.ofNat 115, Char.ofNat 115, Char.ofNat 32, Char.ofNat 99, Char.ofNat 98, Char.ofNat 100, Char.ofNat 100, Char.ofNat 55, Char.ofNat 102, Char.ofNat 101, Char.ofNat 55, Char.ofNat 99, Char.ofNat 54, Char.ofNat 97, Char.ofNat 52, Char.ofNat 99, Char.ofNat 100, Char.ofNat 52, Char.ofNat 57, Char.ofNat 100, Char.ofNat 48, Char.ofNat 54, Char.ofNat 101, Char.ofNat 99, Char.ofNat 51, Char.ofNat 49, Char.ofNat 50, Char.ofNat 57, Char.ofNat 54, Char.ofNat 48, Char.ofNat 100, Char.ofNat 48, Char.ofNat 49, Char.ofNat 51, Char.ofNat 55, Char.ofNat 100, Char.ofNat 57, Char.ofNat 52, Char.ofNat 53, Char.ofNat 98, Char.ofNat 97, Char.ofNat 52, Char.ofNat 51, Char.ofNat 51, Char.ofNat 101, Char.ofNat 53, Char.ofNat 52, Char.ofNat 50, Char.ofNat 100, Char.ofNat 55, Char.ofNat 57, Char.ofNat 101, Char.ofNat 57, Char.ofNat 53, Char.ofNat 102, Char.ofNat 100, Char.ofNat 54, Char.ofNat 49, Char.ofNat 101, Char.ofNat 101, Char.ofNat 49, Char.ofNat 51, Char.ofNat 98, Char.ofNat 102, Char.ofNat 54, Char.ofNat 101, Char.ofNat 50, Char.ofNat 32, Char.ofNat 99, Char.ofNat 117, Char.ofNat 116, Char.ofNat 32, Char.ofNat 97, Char.ofNat 116, Char.ofNat 32, Char.ofNat 102, Char.ofNat 101, Char.ofNat 114, Char.ofNat 114, Char.ofNat 121, Char.ofNat 109, Char.ofNat 97, Char.ofNat 110, Char.ofNat 47, Char.ofNat 102, Char.ofNat 101, Char.ofNat 114, Char.ofNat 114, Char.ofNat 121, Char.ofNat 109, Char.ofNat 97, Char.ofNat 110, Char.ofNat 108, Char.ofNat 97, Char.ofNat 119, Char.ofNat 48, Char.ofNat 56, Char.ofNat 46, Char.ofNat 67, Char.ofNat 97, Char.ofNat 99, Char.ofNat 104, Char.ofNat 101, Char.ofNat 89, Char.ofNat 111, Char.ofNat 117, Char.ofNat 110, Char.ofNat 103]
theorem head_eq : Tryd.prog.initOrder = String.ofList headSigns := by kernel_rfl
theorem head_list : Tryd.prog.initOrder.toList = headSigns := by rw [head_eq]; exact String.toList_ofList
def headW (ns : List Nat) : List Char := ns.map Char.ofNat
def headWords : List (List Char) := [headW [104, 97, 114, 110, 101, 115, 115], headW [99, 98, 100, 100, 55, 102, 101, 55, 99, 54, 97, 52, 99, 100, 52, 57, 100, 48, 54, 101, 99, 51, 49, 50, 57, 54, 48, 100, 48, 49, 51, 55, 100, 57, 52, 53, 98, 97, 52, 51, 51, 101, 53, 52, 50, 100, 55, 57, 101, 57, 53, 102, 100, 54, 49, 101, 101, 49, 51, 98, 102, 54, 101, 50], headW [99, 117, 116], headW [97, 116], headW [102, 101, 114, 114, 121, 109, 97, 110, 47, 102, 101, 114, 114, 121, 109, 97, 110, 108, 97, 119, 48, 56, 46, 67, 97, 99, 104, 101, 89, 111, 117, 110, 103]]
theorem head_words : wordsSigns Tryd.prog.initOrder.toList = headWords := by rw [head_list]; kernel_rfl
theorem make_of {P : Program} (h : wordsSigns P.initOrder.toList = headWords) : P.make = some .cut := by
  unfold Program.make
  rw [h]
  kernel_rfl
theorem main_of {P : Program} (h : wordsSigns P.initOrder.toList = headWords) : P.mainIs = some (true, headW [99, 98, 100, 100, 55, 102, 101, 55, 99, 54, 97, 52, 99, 100, 52, 57, 100, 48, 54, 101, 99, 51, 49, 50, 57, 54, 48, 100, 48, 49, 51, 55, 100, 57, 52, 53, 98, 97, 52, 51, 51, 101, 53, 52, 50, 100, 55, 57, 101, 57, 53, 102, 100, 54, 49, 101, 101, 49, 51, 98, 102, 54, 101, 50]) := by
  unfold Program.mainIs
  rw [h]
  kernel_rfl
theorem lifts_of {P : Program} (h : wordsSigns P.initOrder.toList = headWords) : P.headLifts = [] := by
  unfold Program.headLifts
  rw [h]
  kernel_rfl
theorem final_of {P : Program} (h : wordsSigns P.initOrder.toList = headWords) : P.liftsFinal = false := by
  unfold Program.liftsFinal
  rw [h, lifts_of h]
  kernel_rfl
theorem may_of {P : Program} (h : wordsSigns P.initOrder.toList = headWords) (h2 : P.laysLater = false) (h3 : P.bearsReflect = false) (h4 : P.doorFits [] = true) : P.mayEnter = true := by
  unfold Program.mayEnter
  rw [h, h2, h3]
  generalize P.doorFits = D at h4
  exact Eq.trans (b := D []) (by kernel_rfl) h4
theorem head_make : Tryd.prog.make = some .cut := make_of head_words
theorem head_main : Tryd.prog.mainIs = some (true, headW [99, 98, 100, 100, 55, 102, 101, 55, 99, 54, 97, 52, 99, 100, 52, 57, 100, 48, 54, 101, 99, 51, 49, 50, 57, 54, 48, 100, 48, 49, 51, 55, 100, 57, 52, 53, 98, 97, 52, 51, 51, 101, 53, 52, 50, 100, 55, 57, 101, 57, 53, 102, 100, 54, 49, 101, 101, 49, 51, 98, 102, 54, 101, 50]) := main_of head_words
theorem head_final : Tryd.prog.liftsFinal = false := final_of head_words
theorem head_may : Tryd.prog.mayEnter = true := may_of head_words (by kernel_rfl) (by kernel_rfl) (by kernel_rfl)
end Go.Fm
