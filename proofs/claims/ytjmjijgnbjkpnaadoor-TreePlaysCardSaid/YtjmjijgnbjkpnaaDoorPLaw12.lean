/-
  A part of the proof: PLaw12.
-/
import Derived.Test.YtjmjijgnbjkpnaaDoorPRNode7
import Derived.Test.YtjmjijgnbjkpnaaDoorDLaw12
set_option linter.all false
set_option autoImplicit true
/-
  Law 12, TreePlays: what follows each call.
-/
set_option maxRecDepth 100000
set_option linter.unusedVariables false
set_option linter.unusedSimpArgs false
namespace Go.Fm
open Go Go.Proofs

section
variable {b lit : Bool} {x y : AV} {H : Heap}
theorem eqg4 : (cfg b).P.eqGuardType (cfg b).P.depth 4 = false := by kernel_rfl
theorem aeq4 : aeq (cfg b).P 12 4 x y = boolEq x y := aeq_bool (by kernel_rfl)
theorem be4 (h : isIS x y = false) : mBin (cfg b) 4 lit .eql x y H = eqH H false (boolEq x y) := by rw [mBin_eqg eqg4 h, aeq4]
theorem bne4 (h : isIS x y = false) : mBin (cfg b) 4 lit .neq x y H = eqH H true (boolEq x y) := by rw [mBin_neg eqg4 h, aeq4]
end
theorem v50 {b : Bool} {H : Heap} {vs : List AV} : callX (cfg b) An 50 vs H = cvw (fnX (cfg b) An 50) (handCs (cfg b) false H vs) := callX_v (prim_none (by decide))
def plS (t : Option Tn) (o : Option (List ActL)) (i : Int) : List AV := [.c (tC t), .c (Tn.rpto (t.map Tn.norm)), .c (actsC o), .c (.int .i64 ((actsL o).length : Int)), .c (.int .i64 i)]
def Away (s : List AV) (H : Heap) : Prop := ∀ P : List AV → Heap → Option (LStep × Heap), loopX 0 P s H = loopX 0 P s []
def plH (x : CV) (y z : List CV) (H : Heap) : Prop := H = [.var 48 (.c x)] ∨ H = [.var 48 (.c x), .frow 97 2 y] ∨ H = [.var 48 (.c x), .dead, .frow 5 1 z] ∨ H = [.var 48 (.c x), .frow 97 2 y, .dead, .frow 5 1 z]
/-! CF -/
set_option maxHeartbeats 16000000 in
theorem tail_none (key : List UInt8) (o : Option (List ActL)) (n : Nat) (hn : n < 4000000000) (x : CV) (y z : List CV) (H : Heap) (hH : plH x y z H) :
    ∃ Hx, p12_t true (callX (cfg true) An) 0 (.c (tC none)) (.c (Tn.rpto none)) (.c (.sl 1 (bytesAV key))) (.c (actsC o)) (.c (.int .i64 ((actsL o).length : Int))) (.c (.int .i64 (n : Int))) H =
      some (.cont (plS none o ((n : Int) + 1)), Hx) ∧ Away (plS none o ((n : Int) + 1)) Hx := by
  have lf := rleaves_nil true
  have gt : ∀ H, callX (cfg true) An 63 [.c (tC none), .c (.sl 1 (bytesAV key))] H = _ := callX_pure (Get_fn true key none (fun u h => by cases h)) rfl rfl (prim_none (by decide))
  have fc := find_call true [] (some key) (by simp)
  have ff : findZ key [] = -1 := rfl
  have lc := Len_call true none (by simp [Tn.szo])
  have ac := All_call true none (fun u h => by cases h) (by simp [Tn.szo])
  have sp := samePairs_call true [] [] (by simp) trivial
  have rc := Root_call true none
  have sn := rsumn_call none (fun u h => by cases h)
  have ha := idx_add n (by omega)
  have hg : Tn.get key none = none := rfl
  simp only [hg, getV, Tn.leaveso, pairsC_nil, pV, pB, ff, Tn.rpto, Option.isSome_none, Tn.szo, Int.natCast_zero, Int.ofNat_zero] at gt fc lc ac sp sn
  generalize Tn.hasho none = w at *
  rcases hH with rfl | rfl | rfl | rfl
  all_goals
    refine ⟨_, by simp (maxSteps := 3000000) [p12_t, p12_d, plS, Tn.rpto, v43, lf, gt, fc, lc, ac, sp, rc, sn, ha, bne41, bne4]; rfl, ?_⟩
    exact fun P => loopX_gc (by simp [plS]) (by simp [plS])
end Go.Fm

