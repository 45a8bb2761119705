/-
  A part of the proof: PNod2.
-/
import Derived.Test.YtjmjijgnbjkpnaaDoorPNod1
set_option linter.all false
set_option autoImplicit true
/-
  nodes.Base: New, Save, Len.
-/
set_option maxRecDepth 100000
set_option linter.unusedVariables false
set_option linter.unusedSimpArgs false
namespace Go.Fm
open Go Go.Proofs

theorem frz164 {b : Bool} : (cfg b).frz 164 = false := rfl
theorem eqg107 {b : Bool} : (cfg b).P.eqGuardType (cfg b).P.depth 107 = false := by kernel_rfl
theorem aeq107 {b : Bool} {x y : AV} : aeq (cfg b).P 12 107 x y = ptrEq x y := aeq_ptr (e := 164) (by kernel_rfl)
theorem be107 {b lit : Bool} {x y : AV} {H : Heap} (h : isIS x y = false) : mBin (cfg b) 107 lit .eql x y H = eqH H false (ptrEq x y) := by rw [mBin_eqg eqg107 h, aeq107]
abbrev Mp := List (List UInt8 × List UInt8)
def mC (m : Mp) : List (CV × CV) := m.map fun p => (.arr 32 .u8 (dI p.1), .sl 1 (bytesAV p.2))
def lkM (h : List UInt8) : Mp → Option (List UInt8)
  | [] => none
  | p :: r => if h = p.1 then some p.2 else lkM h r
theorem dI_inj' : ∀ {a c : List UInt8}, dI a = dI c → a = c
  | [], [], _ => rfl
  | [], _ :: _, h => by simp [dI] at h
  | _ :: _, [], h => by simp [dI] at h
  | x :: a, y :: c, h => by
    simp only [dI, List.map_cons, List.cons.injEq] at h
    have hx : x.toNat = y.toNat := by have := h.1; omega
    rw [UInt8.toNat_inj.1 hx, dI_inj' (a := a) (c := c) h.2]
theorem dI_inj {a c : List UInt8} : (dI a == dI c) = (a == c) := by
  by_cases h : a = c
  · subst h; simp
  · have : dI a ≠ dI c := fun e => h (dI_inj' e)
    rw [beq_eq_false_iff_ne.2 this, beq_eq_false_iff_ne.2 h]
theorem aeq41h {b : Bool} (h k : List UInt8) : aeq (cfg b).P 12 41 (.c (.arr 32 .u8 (dI h))) (.c (.arr 32 .u8 (dI k))) = some (h == k) := by
  rw [aeq41, arrEq_e, dI_inj]
theorem findE_m {b : Bool} (h : List UInt8) : ∀ m : Mp, findE (cfg b).P 41 (.arr 32 .u8 (dI h)) (mC m) = some ((lkM h m).map fun e => .sl 1 (bytesAV e))
  | [] => rfl
  | p :: r => by
    have ih := findE_m (b := b) h r
    simp only [mC, List.map_cons] at ih ⊢
    rw [findE, aeq41h]
    by_cases e : h = p.1
    · simp [lkM, e]
    · have : (h == p.1) = false := by simpa using e
      simp only [this, lkM, e, if_false]
      exact ih
theorem putM_m {b : Bool} (h e : List UInt8) : ∀ m : Mp, lkM h m = none → putM (cfg b).P 41 (.arr 32 .u8 (dI h)) (.sl 1 (bytesAV e)) (mC m) = some (mC (m ++ [(h, e)]))
  | [], _ => rfl
  | p :: r, hn => by
    have hne : ¬ h = p.1 := by intro e; simp [lkM, e] at hn
    have hn' : lkM h r = none := by simpa [lkM, hne] using hn
    have ih := putM_m (b := b) h e r hn'
    simp only [mC, List.map_cons, List.cons_append] at ih ⊢
    rw [putM, aeq41h]
    have : (h == p.1) = false := by simpa using hne
    simp only [this]
    rw [ih]
    rfl
theorem keyOk41 {b : Bool} (ns : List Int) : keyOk (cfg b).P 41 (.arr 32 .u8 ns) = true := by
  have h1 : (cfg b).P.underlying 41 = some (.array 32 5) := by kernel_rfl
  have h2 : (cfg b).P.underlying 5 = some (.int .u8) := by kernel_rfl
  have h3 : (cfg b).P.cellsOf 5 = 1 := by kernel_rfl
  have h4 : ((cfg b).P.info? 5).isSome = true := by kernel_rfl
  simp only [keyOk, h1, h2, h3, h4]
  rfl
def baH (m : Mp) : Heap := [.var 164 (.agg [.mp 1]), .mp (mC m)]
theorem bnew_fn (b : Bool) : fnX (cfg b) An 69 [] [] = some (.ov 0 [] 0, baH []) := by
  rw [fnX_eq, p69_eq]
  simp [p69, frz164, baH, mC]
theorem blen_fn (b : Bool) (m : Mp) : fnX (cfg b) An 71 [.ov 0 [] 0] (baH m) = some (.c (.int .i64 (m.length : Int)), baH m) := by
  rw [fnX_eq, p71_eq]
  have : (mC m).length = m.length := by simp [mC]
  simp only [baH]
  simp [p71, be107, this, frz164]
end Go.Fm

