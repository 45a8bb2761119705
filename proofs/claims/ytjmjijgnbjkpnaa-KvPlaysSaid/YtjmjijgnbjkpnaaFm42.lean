/-
  A part of the proof: Fm42.
-/
import Derived.Test.YtjmjijgnbjkpnaaFm41
set_option linter.all false
set_option autoImplicit true
/-
  A call's equation, both ways; calls among contents.
-/
set_option linter.unusedSimpArgs false
set_option linter.unusedVariables false
namespace Go.Fm
open Go
section
variable {C : Cfg} {An : FuncId → Ann}
theorem callStep_mono {g g' : FuncId → List AV → Heap → Option (AV × Heap)} (h : ∀ f args H r, g f args H = some r → g' f args H = some r) {f : FuncId} {args : List AV} {H : Heap} {r : AV × Heap} (hr : callStep C g f args H = some r) : callStep C g' f args H = some r := by
  unfold callStep at hr ⊢
  split at hr
  · simp at hr
  · split at hr
    · exact hr
    · unfold viewC at hr ⊢
      split at hr
      · simp at hr
      · split at hr
        · simp at hr
        · rename_i ids hids _ v F hg
          rw [h _ _ _ _ hg]
          exact hr
theorem runG_mono {cf cf' : CallFn} (h : ∀ f args H r, cf f args H = some r → cf' f args H = some r) {f : FuncId} {args : List AV} {H : Heap} {r : AV × Heap} (hr : runG C cf An f args H = some r) : runG C cf' An f args H = some r := by
  obtain ⟨n, hn⟩ := runG_tends (An := An) (cs := fun _ => cf') (cf := cf) (fun f args H r hr => ⟨0, fun _ _ => h f args H r hr⟩) f args H r hr
  exact hn n (Nat.le_refl _)
theorem callG_mono : ∀ (n : Nat) (f : FuncId) (args : List AV) (H : Heap) (r : AV × Heap), callG C An n f args H = some r → callG C An (n + 1) f args H = some r
  | 0, f, args, H, r, h => by simp [callG] at h
  | n + 1, f, args, H, r, h => callStep_mono (fun f args H r hr => runG_mono (callG_mono n) hr) h
theorem callG_le {n : Nat} {f : FuncId} {args : List AV} {H : Heap} {r : AV × Heap} (h : callG C An n f args H = some r) : callX C An f args H = some r := by
  refine lim_eq.2 ⟨n, fun m hm => ?_⟩
  obtain ⟨j, rfl⟩ := Nat.exists_eq_add_of_le hm
  induction j with
  | zero => exact h
  | succ j ih => exact callG_mono _ _ _ _ _ (ih (by omega))
/-- A call's equation. -/
theorem callX_unfold (f : FuncId) (args : List AV) (H : Heap) : callX C An f args H = callStep C (fnX C An) f args H := by
  refine Option.ext fun r => ⟨fun h => ?_, fun h => callX_eq h⟩
  obtain ⟨n, hn⟩ := lim_eq.1 h
  have h1 := hn (n + 1) (by omega)
  exact callStep_mono (fun f args H r hr => runG_mono (fun f args H r hr => callG_le hr) hr) h1
theorem handCs_c (keep : Bool) (H : Heap) : ∀ (as : List AV), as.all AV.isC = true → handCs C keep H as = some (as, H)
  | [], _ => rfl
  | a :: as, h => by
    simp only [List.all_cons, Bool.and_eq_true] at h
    cases a with
    | c v => simp only [handCs, handC, handCs_c keep H as h.2]
    | _ => simp [AV.isC] at h
theorem idss_c : ∀ (as : List AV), as.all AV.isC = true → AV.idss as = []
  | [], _ => rfl
  | a :: as, h => by
    simp only [List.all_cons, Bool.and_eq_true] at h
    cases a with
    | c v => simp only [AV.idss, AV.ids, idss_c as h.2, List.append_nil]
    | _ => simp [AV.isC] at h
theorem maps_c (ρ : Nat → Nat) : ∀ (as : List AV), as.all AV.isC = true → AV.maps ρ as = as
  | [], _ => rfl
  | a :: as, h => by
    simp only [List.all_cons, Bool.and_eq_true] at h
    cases a with
    | c v => simp only [AV.maps, AV.map, maps_c ρ as h.2]
    | _ => simp [AV.isC] at h
theorem map_res (ρ : Nat → Nat) {v : AV} (h : resC v = true) : v.map ρ = v := by
  cases v with
  | c v => rfl
  | tup l => simp only [AV.map]; rw [maps_c ρ l (by simpa [resC] using h)]
  | _ => simp [resC] at h
/-- A call among contents. -/
theorem callX_pure {f : FuncId} {as : List AV} {v : AV} (h : fnX C An f as [] = some (v, [])) (ha : as.all AV.isC = true) (hv : resC v = true) (hp : C.prim f = none) (H : Heap) : callX C An f as H = some (v, H) := by
  rw [callX_unfold]
  unfold callStep
  rw [handCs_c _ _ _ ha, hp]
  simp only [viewC, gcIds, List.range_zero, List.nil_append, idss_c as ha, grow, maps_c _ as ha, selH, List.map_nil, h, map_res _ hv, putBack, List.append_nil]
/-- A call that is given what is owned. -/
theorem callX_view {f : FuncId} (hp : C.prim f = none) (args : List AV) (H : Heap) : callX C An f args H = (match handCs C (C.keepA f) H args with
    | none => none
    | some (as, H0) => viewC (fnX C An f) as H0) := by
  rw [callX_unfold]
  unfold callStep
  rw [hp]
  rfl
theorem callX_prim {f : FuncId} {p : List AV → Heap → Option (AV × Heap)} (hp : C.prim f = some p) (args : List AV) (H : Heap) : callX C An f args H = (match handCs C (C.keepA f) H args with
    | none => none
    | some (as, H0) => p as H0) := by
  rw [callX_unfold]
  unfold callStep
  rw [hp]
  rfl
theorem fnX_eq (f : FuncId) (args : List AV) (H : Heap) : fnX C An f args H = runG C (callX C An) An f args H := rfl
end
end Go.Fm
