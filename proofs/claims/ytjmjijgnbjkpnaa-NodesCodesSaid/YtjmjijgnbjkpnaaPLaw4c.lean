/-
  A part of the proof: PLaw4c.
-/
import Derived.Test.YtjmjijgnbjkpnaaPLaw4b
set_option linter.all false
set_option autoImplicit true
/-
  Law NodesOne: the walk's end (the plain seat).
-/
set_option autoImplicit false
set_option maxRecDepth 100000
set_option linter.unusedVariables false
set_option linter.unusedSimpArgs false
namespace Go.Fm
open Go Go.Proofs
theorem prim9 {b : Bool} : (cfg b).prim 9 = some turnedP := rfl
theorem bytesX_av : ∀ l : List UInt8, bytesX (bytesAV l) = some l
  | [] => rfl
  | c :: l => by
    have e : bytesAV (c :: l) = .int .u8 (c.toNat : Int) :: bytesAV l := rfl
    have h1 : (c.toNat : Int).toNat = c.toNat := by omega
    have h2 : UInt8.ofNat c.toNat = c := by simp
    rw [e]
    simp only [bytesX, bytesX_av l, h1, h2, if_true]
theorem btx_pV (o : Option (List UInt8)) : btx (pV o) = some (pB o) := by
  cases o with
  | none => rfl
  | some l => exact bytesX_av l
theorem turned_call (b : Bool) (o : Option (List UInt8)) (A T : CV) (a : List Int) (t : List UInt8) (hA : its64 A = some a) (hT : btx T = some t) (hm : (pB o).length ≤ 1000000) (H : Heap) :
    callX (cfg b) An 9 [.c (pV o), .c A, .c T] H = some (.c (.sl 1 (bytesAV (turnF 4 (pB o) a t))), H) := by
  rw [callX_prim prim9, handCs_cs _ _ _ _ rfl]
  simp only [turnedP, btx_pV, hA, hT, if_pos hm]
  rfl
theorem encO_len (n : Nd) (hl : n.l.length = 32) (hr : n.r.length = 32) : (pB n.encO).length ≤ 1000000 := by
  classical
  unfold Nd.encO
  by_cases he : n.encE = 0
  · rw [if_pos he]
    unfold Nd.encE at he
    by_cases h1 : (pB n.k).length = 0 ∨ 96 < (pB n.k).length
    · rw [if_pos h1] at he; cases he
    · rw [if_neg h1] at he
      by_cases h2 : n.badB
      · rw [if_pos h2] at he; cases he
      · have hv : (pB n.v).length ≤ 256 := by
          unfold Nd.badB at h2
          omega
        have l1 := tput_len none 1 n.k
        have l2 := tput_len (some (tput none 1 n.k)) 2 n.v
        have l3 := tput_len (some (tput (some (tput none 1 n.k)) 2 n.v)) 3 (numO n.h)
        have l4 := tput_len (some (tput (some (tput (some (tput none 1 n.k)) 2 n.v)) 3 (numO n.h))) 4 (numO n.z)
        have l5 := tput_len (some (tput (some (tput (some (tput (some (tput none 1 n.k)) 2 n.v)) 3 (numO n.h))) 4 (numO n.z))) 5 (some n.l)
        have l6 := tput_len (some (tput (some (tput (some (tput (some (tput (some (tput none 1 n.k)) 2 n.v)) 3 (numO n.h))) 4 (numO n.z))) 5 (some n.l))) 6 (some n.r)
        have n3 := numO_len n.h
        have n4 := numO_len n.z
        simp only [pB_s, pB_n, List.length_nil] at l1 l2 l3 l4 l5 l6 ⊢
        unfold Nd.enc
        simp only
        split <;> omega
  · rw [if_neg he]; simp [pB_n]
/-! CF -/
end Go.Fm
