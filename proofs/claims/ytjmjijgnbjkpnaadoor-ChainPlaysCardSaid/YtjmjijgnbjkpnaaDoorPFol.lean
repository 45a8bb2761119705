/-
  A part of the proof: PFol.
-/
import Derived.Test.YtjmjijgnbjkpnaaDoorPCli
import Derived.Test.YtjmjijgnbjkpnaaDoorDMisc
import Derived.Test.YtjmjijgnbjkpnaaDoorPSta
set_option linter.all false
set_option autoImplicit true
/-
  Law 16, ChainFollows: a turn of the loop.
-/
set_option maxRecDepth 100000
set_option linter.unusedVariables false
set_option linter.unusedSimpArgs false
namespace Go.Fm
open Go Go.Proofs
theorem v55 {b : Bool} {H : Heap} {vs : List AV} : callX (cfg b) An 55 vs H = cvw (fnX (cfg b) An 55) (handCs (cfg b) false H vs) := callX_v (prim_none (by decide))
theorem v57 {b : Bool} {H : Heap} {vs : List AV} : callX (cfg b) An 57 vs H = cvw (fnX (cfg b) An 57) (handCs (cfg b) false H vs) := callX_v (prim_none (by decide))
theorem v58 {b : Bool} {H : Heap} {vs : List AV} : callX (cfg b) An 58 vs H = cvw (fnX (cfg b) An 58) (handCs (cfg b) false H vs) := callX_v (prim_none (by decide))
theorem v60 {b : Bool} {H : Heap} {vs : List AV} : callX (cfg b) An 60 vs H = cvw (fnX (cfg b) An 60) (handCs (cfg b) false H vs) := callX_v (prim_none (by decide))
theorem v73 {b : Bool} {H : Heap} {vs : List AV} : callX (cfg b) An 73 vs H = cvw (fnX (cfg b) An 73) (handCs (cfg b) false H vs) := callX_v (prim_none (by decide))
theorem cf_PLaw16_5fb4e8bd : clashFree [0, 1, 0, 0, 11, 31, 63, 127, 255, 511, 1023, 255, 2303, 8191, 16383] [(false, [], 11, 11), (true, [1, 5, 6, 8], 11, 11), (false, [2], 11, 11), (false, [], 11, 11), (true, [0, 3, 10, 9], 11, 11), (true, [6, 8], 11, 12), (false, [], 12, 12), (false, [], 12, 12), (false, [], 12, 12), (true, [1, 5, 6, 11], 12, 12), (true, [6, 11], 12, 12), (false, [2], 12, 12), (false, [2], 12, 12), (false, [], 12, 12), (false, [], 12, 12)] = true := by decide
attribute [simp] cf_PLaw16_5fb4e8bd
/-! CF -/
end Go.Fm
/-
  Law 16, ChainFollows: what stands at a turn's head.
-/
set_option maxRecDepth 100000
set_option linter.unusedVariables false
set_option linter.unusedSimpArgs false
namespace Go.Fm
open Go Go.Proofs
/-- What a client knows: states of heights no greater than this one, the last of it. -/
structure StI (a : UInt8) (k : Nat) (τ : Int) (L : List CV) : Prop where
  len : L.length ≤ 16
  last : ∃ l r s, L.length = l + 1 ∧ nthC L l = stC (k : Int) τ r (shaW (valsB ++ a :: lenBytes ((k + 1 : Nat) : Int))) s ∧ (dI s).length = 32 ∧ (dI r).length = 32
  all : ∀ i, i < L.length → ∃ h t r n s, nthC L i = stC h t r n s ∧ h ≤ (k : Int) ∧ (dI s).length = 32 ∧ (dI n).length = 32 ∧ (dI r).length = 32
theorem StI.no {a : UInt8} {k : Nat} {τ : Int} {L : List CV} (h : StI a k τ L) : NoHt L ((k + 1 : Nat) : Int) := fun i hi => by
  obtain ⟨x, t, r, n, s, e, h1, h2⟩ := h.all i hi
  exact ⟨x, t, r, n, s, e, by omega, h2⟩
end Go.Fm
