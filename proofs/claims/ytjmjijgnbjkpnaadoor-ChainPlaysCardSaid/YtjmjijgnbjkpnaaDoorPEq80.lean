/-
  A part of the proof: PEq80.
-/
import Derived.Test.YtjmjijgnbjkpnaaDoorPChain
set_option linter.all false
set_option autoImplicit true
/-
  Headers alike.
-/
set_option maxRecDepth 100000
set_option linter.unusedVariables false
set_option linter.unusedSimpArgs false
namespace Go.Fm
open Go Go.Proofs
noncomputable def F80 : Array Field := match Tryd.prog.underlying 80 with
  | some (.struct f) => f
  | _ => #[]
noncomputable def g80 (i : Nat) : Field := F80.getD i default
theorem u80 {b : Bool} : (cfg b).P.underlying 80 = some (.struct F80) := by kernel_rfl
theorem F80l : F80.toList = [g80 0, g80 1, g80 2, g80 3, g80 4, g80 5] := by kernel_rfl
theorem st80 {b : Bool} : (cfg b).P.stoodInHeld 80 = false := by kernel_rfl
theorem nm80 : ((g80 0).name == "_") = false ∧ ((g80 1).name == "_") = false ∧ ((g80 2).name == "_") = false ∧ ((g80 3).name == "_") = false ∧ ((g80 4).name == "_") = false ∧ ((g80 5).name == "_") = false := by
  refine ⟨?_, ?_, ?_, ?_, ?_, ?_⟩ <;> kernel_rfl
theorem of80 : (g80 0).offset = 0 ∧ (g80 1).offset = 1 ∧ (g80 2).offset = 2 ∧ (g80 3).offset = 34 ∧ (g80 4).offset = 66 ∧ (g80 5).offset = 98 := by
  refine ⟨?_, ?_, ?_, ?_, ?_, ?_⟩ <;> kernel_rfl
theorem ty80 : (g80 0).type = 22 ∧ (g80 1).type = 22 ∧ (g80 2).type = 41 ∧ (g80 3).type = 41 ∧ (g80 4).type = 41 ∧ (g80 5).type = 41 := by
  refine ⟨?_, ?_, ?_, ?_, ?_, ?_⟩ <;> kernel_rfl
theorem ft22 {b : Bool} : fits (cfg b).P 22 1 false = true := by kernel_rfl
theorem ft41 {b : Bool} : fits (cfg b).P 41 32 true = true := by kernel_rfl
theorem co22 {b : Bool} : (cfg b).P.cellsOf 22 = 1 := by kernel_rfl
theorem co41 {b : Bool} : (cfg b).P.cellsOf 41 = 32 := by kernel_rfl
theorem aeq22 {b : Bool} (h : Int) : aeq (cfg b).P 11 22 (.c (.int .u64 h)) (.c (.int .u64 h)) = some true := by
  have hu : (cfg b).P.underlying 22 = some (.int .u64) := by kernel_rfl
  unfold aeq
  rw [hu]
  simp
theorem aeq41' {b : Bool} (r : List Int) : aeq (cfg b).P 11 41 (.c (.arr 32 .u8 r)) (.c (.arr 32 .u8 r)) = some true := by
  rw [aeq_arr (d := 10) (n := 32) (k := .u8) (e := 5) (by kernel_rfl) (by kernel_rfl) (by kernel_rfl) (by kernel_rfl) (by decide)]
  simp [arrEq]
theorem ff_cons {P : Program} {rec : TypeId → AV → AV → Option Bool} {o : Nat} {f : Field} {fs : List Field} {x : CV} {xs : List CV} (hn : (f.name == "_") = false) (ho : f.offset = o) (hf : fits P f.type x.size x.isAgg = true) (hr : rec f.type (.c x) (.c x) = some true) :
    aeqFields P rec o (f :: fs) (x :: xs) (x :: xs) = aeqFields P rec (o + P.cellsOf f.type) fs xs xs := by
  have hn' : f.name ≠ "_" := by simpa using hn
  simp [aeqFields, hn', ho, hf, hr]
theorem aeq80r {b : Bool} (h t : Int) (r v n s : List UInt8) : aeq (cfg b).P 12 80 (.c (hdC h t r v n s)) (.c (hdC h t r v n s)) = some true := by
  obtain ⟨n0, n1, n2, n3, n4, n5⟩ := nm80
  obtain ⟨o0, o1, o2, o3, o4, o5⟩ := of80
  obtain ⟨t0, t1, t2, t3, t4, t5⟩ := ty80
  unfold aeq hdC
  rw [u80]
  simp only [st80, Bool.false_eq_true, if_false, F80l]
  rw [ff_cons n0 o0 (by rw [t0]; exact ft22) (by rw [t0]; exact aeq22 h), t0, co22,
    ff_cons n1 o1 (by rw [t1]; exact ft22) (by rw [t1]; exact aeq22 t), t1, co22,
    ff_cons n2 o2 (by rw [t2]; exact ft41) (by rw [t2]; exact aeq41' _), t2, co41,
    ff_cons n3 o3 (by rw [t3]; exact ft41) (by rw [t3]; exact aeq41' _), t3, co41,
    ff_cons n4 o4 (by rw [t4]; exact ft41) (by rw [t4]; exact aeq41' _), t4, co41,
    ff_cons n5 o5 (by rw [t5]; exact ft41) (by rw [t5]; exact aeq41' _)]
  rfl
theorem eqg80 {b : Bool} : (cfg b).P.eqGuardType (cfg b).P.depth 80 = false := by kernel_rfl
end Go.Fm
