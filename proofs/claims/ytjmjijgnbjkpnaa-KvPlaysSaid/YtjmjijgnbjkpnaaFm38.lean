/-
  A part of the proof: Fm38.
-/
import Derived.Test.YtjmjijgnbjkpnaaFm37
set_option linter.all false
set_option autoImplicit true
/-
  Calls: what is said of them is so.
-/
set_option linter.unusedSimpArgs false
set_option linter.unusedVariables false
namespace Go.Fm
open Go
/-- All pieces that are taken as a whole are what is said of them. -/
def PiecesOk (C : Cfg) (An : FuncId → Ann) : Prop := ∀ (f : FuncId) (fn : Func) (code : Code), C.P.funcs[f]? = some fn → fn.body = some code → ∀ x ∈ pieces (An f) code, PieceOk C x.1 x.2
theorem piecesOk_none {C : Cfg} {An : FuncId → Ann} (h : ∀ f id, (An f).pc id = none) : PiecesOk C An := fun f fn code _ _ x hx => by rw [pieces_none (h f)] at hx; simp at hx
section
variable {C : Cfg} {cf : CallFn} {An : FuncId → Ann}
theorem runG_fn {f : FuncId} {args : List AV} {H : Heap} {r : AV × Heap} (h : runG C cf An f args H = some r) : ∃ fn c, C.P.funcs[f]? = some fn ∧ fn.body = some c ∧ (fn.name == "runtime.NumGoroutine") = false := by
  unfold runG at h
  split at h
  · simp at h
  · rename_i fn hf
    split at h
    · simp at h
    · rename_i code hb
      split at h
      · rename_i hn; exact ⟨fn, code, hf, hb, hn.1⟩
      · simp at h
theorem endK_keeps {f : FuncId} {k : Nat} {rs : List ResultVar} {e : Env} {H H' : Heap} {v : AV} (h : endK C f k rs e H = some (v, H')) : KeepsP k H H' := by
  unfold endK at h
  split at h
  · simp at h
  · split at h
    · simp at h
    · rename_i hh
      split at h
      · rename_i hg
        simp only [Option.some.injEq, Prod.mk.injEq] at h
        obtain ⟨rfl, rfl⟩ := h
        exact ((handCs_keeps _ _ _ _ hh).toP k).trans (gcL_keeps hg)
      · simp at h
theorem runG_body (hcf : CfOk C cf) (hm : C.P.follows .mixedOrders = true) (hpc : PiecesOk C An) {f : FuncId} {args : List AV} {H H' : Heap} {v : AV} (h : runG C cf An f args H = some (v, H')) :
    ∃ fn code x e1 H1, C.P.funcs[f]? = some fn ∧ fn.body = some code ∧ (∀ id, x ≠ AExit.exit id) ∧ Sem' C H.length code (args ++ List.replicate (fn.ntmps - args.length) AV.undef) H x e1 H1 ∧ endK C f H.length fn.results.toList e1 H1 = some (v, H') := by
  unfold runG at h
  split at h
  · simp at h
  · rename_i fn hf
    split at h
    · simp at h
    · rename_i code hb
      split at h
      · rename_i hn
        rw [forceE_eq] at h
        obtain ⟨x, e1, H1, h1, h2⟩ := execK_ok hcf hm code (hpc f fn code hf hb) hn.2 _ _ _ _ _ _ _ _ h
        refine ⟨fn, code, x, e1, H1, hf, hb, fun id e => ?_, h1, ?_⟩
        · subst e; simp [contK] at h2
        · cases x with
          | normal => exact h2
          | exit id => simp [contK] at h2
          | ret => exact h2
      · simp at h
theorem runG_keeps (hcf : CfOk C cf) (hm : C.P.follows .mixedOrders = true) (hpc : PiecesOk C An) {f : FuncId} {args : List AV} {H H' : Heap} {v : AV} (h : runG C cf An f args H = some (v, H')) : Keeps H H' := by
  obtain ⟨fn, code, x, e1, H1, h1, h2, h3, h4, h5⟩ := runG_body hcf hm hpc h
  have := h4.keeps.trans (endK_keeps h5)
  exact ⟨this.1 (Nat.le_refl _), fun id b hb ho => this.2 id b (List.getElem?_eq_some_iff.1 hb).1 hb ho⟩
theorem runG_ok (hcf : CfOk C cf) (hm : C.P.follows .mixedOrders = true) (hpc : PiecesOk C An) {f : FuncId} {args : List AV} {H H' : Heap} {v : AV} (h : runG C cf An f args H = some (v, H')) {S0 : Nat → Nat → Prop} {g : Gh} {w : World} {us : List Value} (hO : Ok C S0 g w H) (hu : RVs g w (g.St S0) us args) :
    CallsV C S0 g w H' v f us.toArray := by
  obtain ⟨fn, code, x, e1, H1, hf, hb, hnx, hsem, hend⟩ := runG_body hcf hm hpc h
  unfold endK at hend
  split at hend
  · simp at hend
  rename_i vs hvs
  split at hend
  · simp at hend
  rename_i vs' H2 hh
  split at hend
  · rename_i v1 H3 hg
    simp only [Option.some.injEq, Prod.mk.injEq] at hend
    obtain ⟨rfl, rfl⟩ := hend
    have hlen := RVs.length hu
    have hrep : ∀ k, RVs g w (g.St S0) (List.replicate k undef) (List.replicate k AV.undef) := fun k => by
      induction k with
      | zero => exact .nil
      | succ k ih => exact .cons _ _ _ _ RV_undef ih
    refine calls_of_wp hf hb (hsem.run S0 g w _ _ hO ?_ fun a1 w1 g1 k1 k2 k3 k4 => ?_)
    · show RVs g w (g.St S0) (us.toArray ++ Array.replicate (fn.ntmps - us.toArray.size) undef).toList _
      simp only [Array.toList_append, Array.toList_replicate, List.size_toArray, hlen]
      exact hu.append (hrep _)
    · obtain ⟨ws, r1, r2⟩ := results_ok k1 k3 fn.results.toList vs hvs
      obtain ⟨g2, m1, m2, m3⟩ := handCs_ok vs ws H1 H2 vs' g1 w1 k1 r2 hh
      have hres : (results fn a1.tmps).run C.P w1 = .ok (if hs : ws.toArray.size = 1 then ws.toArray[0] else .tuple ws.toArray) w1 := by
        have hfun : (fun x : ResultVar => match x with | .tmp t => (Pure.pure (a1.tmps.getD t undef) : Sem Value) | .cell b t => do loadVar t (← asAddr (a1.tmps.getD b undef))) = resRun a1 := by
          funext x
          cases x <;> rfl
        have hmap : (fn.results.mapM (resRun a1)).run C.P w1 = .ok ws.toArray w1 := by
          rw [Array.mapM_eq_mapM_toList]
          simp [r1]
        show (do let vs ← fn.results.mapM (fun x : ResultVar => match x with | .tmp t => (Pure.pure (a1.tmps.getD t undef) : Sem Value) | .cell b t => do loadVar t (← asAddr (a1.tmps.getD b undef))); Pure.pure (if h : vs.size = 1 then vs[0] else .tuple vs) : Sem Value).run C.P w1 = _
        rw [hfun, Sem.run_bind, hmap]
        rfl
      obtain ⟨g3, q1, q2, q3⟩ := gcL_ok m1 (RVs.cons _ _ _ _ (tupOf_RV m3) .nil) hg
      have hv : RV g3 w1 (g3.St S0) (if hs : ws.toArray.size = 1 then ws.toArray[0] else .tuple ws.toArray) v1 := by
        cases q2 with
        | cons _ _ _ _ hv _ => exact hv
      have hst : Step g w g3 w1 := ((k2.trans (m2.toP _)).trans q3).step fun id b hb => by
        rw [hO.heap] at hb
        exact (List.getElem?_eq_some_iff.1 hb).1
      have hfin : a1.defers = [] ∧ ∃ v, (results fn a1.tmps).run C.P w1 = .ok v w1 ∧ ∃ u g', Ending.returned v = .returned u ∧ Ok C S0 g' w1 H3 ∧ Step g w g' w1 ∧ RV g' w1 (g'.St S0) u v1 :=
        ⟨k4, _, hres, _, g3, rfl, q1, hst, hv⟩
      cases x with
      | normal => exact hfin
      | exit id => exact (hnx id rfl).elim
      | ret => exact hfin
  · simp at hend
theorem runG_CfOk (hcf : CfOk C cf) (hm : C.P.follows .mixedOrders = true) (hpc : PiecesOk C An) : CfOk C (runG C cf An) :=
  ⟨fun f args H v H' h => runG_keeps hcf hm hpc h, fun f args H r h => runG_fn h, fun f args H v H' h S0 g w us hO hu => runG_ok hcf hm hpc h hO hu⟩
theorem viewC_keeps {G : List AV → Heap → Option (AV × Heap)} (hG : ∀ args H v H', G args H = some (v, H') → Keeps H H') {as : List AV} {H H' : Heap} {v : AV} (h : viewC G as H = some (v, H')) : Keeps H H' := by
  unfold viewC at h
  split at h
  · simp at h
  rename_i ids hids
  split at h
  · simp at h
  rename_i v1 F hg
  simp only [Option.some.injEq, Prod.mk.injEq] at h
  obtain ⟨rfl, rfl⟩ := h
  have hs := gcIds_ok hids
  have hk := hG _ _ _ _ hg
  have hle : ids.length ≤ F.length := by have := hk.1; unfold selH at this; rwa [List.length_map] at this
  have hidl : ∀ id ∈ ids, id < H.length := fun id hid => by
    obtain ⟨b, h1, _⟩ := hs.closed id hid
    exact (List.getElem?_eq_some_iff.1 h1).1
  refine ⟨by rw [putBack_length _ _ _ _ hle]; omega, fun id b hb ho => ?_⟩
  rw [putBack_get _ _ _ _ hle hs.nodup hidl]
  by_cases hm : id ∈ ids
  · rw [if_pos hm]
    have h1 : (selH ids H)[ids.idxOf id]? = some b := by
      unfold selH
      have hlt := List.idxOf_lt_length_iff.2 hm
      rw [List.getElem?_map, List.getElem?_eq_getElem hlt]
      simp [hb, Blk.map_of_ok b _ ho]
    rw [hk.2 _ _ h1 ho]
    simp [Blk.map_of_ok b _ ho]
  · rw [if_neg hm, if_pos (List.getElem?_eq_some_iff.1 hb).1]
    exact hb
theorem callStep_ok {G : FuncId → List AV → Heap → Option (AV × Heap)} (hG : CfOk C G) (hprim : ∀ f p, C.prim f = some p → PrimOk C f p) : CfOk C (callStep C G) := by
  refine ⟨fun f args H v H' h => ?_, fun f args H r h => ?_, fun f args H v H' h S0 g w us hO hu => ?_⟩
  · unfold callStep at h
    split at h
    · simp at h
    · rename_i as H0 hh
      refine (handCs_keeps _ _ _ _ hh).trans ?_
      split at h
      · rename_i p hp
        exact (hprim f p hp).keeps _ _ _ _ h
      · exact viewC_keeps (fun args H v H' => hG.keeps f args H v H') h
  · unfold callStep at h
    split at h
    · simp at h
    · rename_i as H0 hh
      split at h
      · rename_i p hp
        exact (hprim f p hp).fn
      · unfold viewC at h
        split at h
        · simp at h
        · split at h
          · simp at h
          · rename_i hg
            exact hG.fn f _ _ _ hg
  · unfold callStep at h
    split at h
    · simp at h
    · rename_i as H0 hh
      obtain ⟨g1, k1, k2, k3⟩ := handCs_ok args us H H0 as g w hO hu hh
      have back : ∀ {H'' : Heap} {r : AV}, CallsV C S0 g1 w H'' r f us.toArray → CallsV C S0 g w H'' r f us.toArray := fun hc => Calls.mono hc fun e w' he => by
        obtain ⟨u, g', rfl, m1, m2, m3⟩ := he
        exact ⟨u, g', rfl, m1, k2.trans m2, m3⟩
      split at h
      · rename_i p hp
        exact back ((hprim f p hp).run _ _ _ _ h S0 g1 w us k1 k3)
      · unfold viewC at h
        split at h
        · simp at h
        rename_i ids hids
        split at h
        · simp at h
        rename_i v1 F hg
        simp only [Option.some.injEq, Prod.mk.injEq] at h
        obtain ⟨rfl, rfl⟩ := h
        have hs := gcIds_ok hids
        obtain ⟨i1, i2⟩ := viewIn k1 k3 hs
        refine back (Calls.mono (hG.run f _ _ _ _ hg _ _ _ _ i1 i2) fun e w' he => ?_)
        obtain ⟨u, g3, rfl, m1, m2, m3⟩ := he
        obtain ⟨o1, o2, o3⟩ := viewOut k1 hs m1 m2
        exact ⟨u, _, rfl, o1, o2, o3 u _ m3⟩
theorem callG_ok (hm : C.P.follows .mixedOrders = true) (hpc : PiecesOk C An) (hprim : ∀ f p, C.prim f = some p → PrimOk C f p) : ∀ n, CfOk C (callG C An n)
  | 0 => ⟨fun f args H v H' h => by simp [callG] at h, fun f args H r h => by simp [callG] at h, fun f args H v H' h => by simp [callG] at h⟩
  | n + 1 => callStep_ok (runG_CfOk (callG_ok hm hpc hprim n) hm hpc) hprim
theorem callX_ok (hm : C.P.follows .mixedOrders = true) (hpc : PiecesOk C An) (hprim : ∀ f p, C.prim f = some p → PrimOk C f p) : CfOk C (callX C An) := by
  refine ⟨fun f args H v H' h => ?_, fun f args H r h => ?_, fun f args H v H' h => ?_⟩
  · obtain ⟨n, hn⟩ := lim_eq.1 h
    exact (callG_ok hm hpc hprim n).keeps _ _ _ _ _ (hn n (Nat.le_refl _))
  · obtain ⟨n, hn⟩ := lim_eq.1 h
    exact (callG_ok hm hpc hprim n).fn _ _ _ _ (hn n (Nat.le_refl _))
  · obtain ⟨n, hn⟩ := lim_eq.1 h
    exact (callG_ok hm hpc hprim n).run _ _ _ _ _ (hn n (Nat.le_refl _))
/-- What is said of a function that is called from nothing. -/
theorem calls_of_fnX (hm : C.P.follows .mixedOrders = true) (hpc : PiecesOk C An) (hprim : ∀ f p, C.prim f = some p → PrimOk C f p) {f : FuncId} {args : List AV} {v : AV} {H' : Heap} (h : fnX C An f args [] = some (v, H'))
    {w : World} {us : List Value} (hgl : ∀ n v, C.gl n = some v → ∃ cs, Here w All n 0 cs ∧ RC w All cs v) (hu : RVs Gh.start w (Gh.start.St All) us args) :
    Calls C.P f us.toArray w fun e w' => ∃ u g', e = .returned u ∧ Kept w w' ∧ RV g' w' (g'.St All) u v := by
  refine Calls.mono ((runG_CfOk (callX_ok hm hpc hprim) hm hpc).run f args [] v H' h All Gh.start w us (start_ok hgl) hu) fun e w' he => ?_
  obtain ⟨u, g', rfl, h1, h2, h3⟩ := he
  exact ⟨u, g', rfl, ⟨h2.size, fun b hb => (h2.keep b hb (fun id blk hG => by simp [Gh.start, get] at hG)).1, h2.os, h2.tape, h2.output⟩, h3⟩
theorem calls_trueX (hm : C.P.follows .mixedOrders = true) (hpc : PiecesOk C An) (hprim : ∀ f p, C.prim f = some p → PrimOk C f p) {f : FuncId} {args : List AV} {H' : Heap} (h : fnX C An f args [] = some (.c (.bool true), H'))
    {w : World} {us : List Value} (hgl : ∀ n v, C.gl n = some v → ∃ cs, Here w All n 0 cs ∧ RC w All cs v) (hu : RVs Gh.start w (Gh.start.St All) us args) :
    Calls C.P f us.toArray w fun e w' => e = .returned (.bool true) ∧ Kept w w' := by
  refine Calls.mono (calls_of_fnX hm hpc hprim h hgl hu) fun e w' he => ?_
  obtain ⟨u, g', rfl, h1, h2⟩ := he
  exact ⟨by rw [RV_bool h2], h1⟩
end
end Go.Fm
