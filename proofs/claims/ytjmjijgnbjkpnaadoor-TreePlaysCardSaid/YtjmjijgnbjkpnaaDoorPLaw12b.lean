/-
  A part of the proof: PLaw12b.
-/
import Derived.Test.YtjmjijgnbjkpnaaDoorPLaw12
set_option linter.all false
set_option autoImplicit true
/-
  Law 12, TreePlays: what follows a call, of a tree that is not empty.
-/
set_option maxRecDepth 100000
set_option linter.unusedVariables false
set_option linter.unusedSimpArgs false
namespace Go.Fm
open Go Go.Proofs

theorem pBs (l : List UInt8) : pB (some l) = l := rfl
/-! CF -/
set_option maxHeartbeats 32000000 in
theorem tail_some (key : List UInt8) (t : Tn) (hf : t.fit) (hr : Rise t.leaves) (hs : t.sz ≤ 10000) (o : Option (List ActL)) (n : Nat) (hn : n < 4000000000) (x : CV) (y z : List CV) (H : Heap) (hH : plH x y z H) :
    ∃ Hx, p12_t true (callX (cfg true) An) 0 (.c (tC (some t))) (.c t.norm.rpt) (.c (.sl 1 (bytesAV key))) (.c (actsC o)) (.c (.int .i64 ((actsL o).length : Int))) (.c (.int .i64 (n : Int))) H =
      some (.cont (plS (some t) o ((n : Int) + 1)), Hx) ∧ Away (plS (some t) o ((n : Int) + 1)) Hx := by
  have lf := (rleaves_fn true t.norm [] (by rw [Tn.norm_sz]; simp; omega)).1
  have gt : ∀ H, callX (cfg true) An 63 [.c (tC (some t)), .c (.sl 1 (bytesAV key))] H = _ := callX_pure (Get_fn true key (some t) (fun u h => by cases h; exact hf)) rfl rfl (prim_none (by decide))
  have hll : t.norm.leaves.length = t.sz := by rw [Tn.leaves_sz, Tn.norm_sz]
  have hpl : t.norm.pairs.length = t.sz := by rw [Tn.pairs_len, Tn.norm_sz]
  have fc := find_fn true t.norm.leaves (some key) (by omega)
  have hne := Tn.leaves_ne t.norm
  have hpc : pairsC t.norm.leaves = .sl 2 t.norm.pairs := by rw [pairsC_ne hne]; rfl
  have lc := Len_call true (some t) (by simp only [Tn.szo]; omega)
  have ac := All_call true (some t) (fun u h => by cases h; exact hf) (by simp only [Tn.szo]; omega)
  have sp := samePairs_fn true t.leaves t.norm.leaves (by rw [Tn.leaves_sz]; omega) (by rw [Tn.norm_leaves]; exact same_nrm _)
  have rc := Root_call true (some t)
  have sn := rsumn_call (some t.norm) (fun u h => by cases h; exact Tn.norm_fit t hf)
  have ha := idx_add n (by omega)
  have hh : Tn.hasho (some t.norm) = Tn.hasho (some t) := Tn.norm_hash t
  rw [hh] at sn
  rw [hpc] at fc sp
  rw [Tn.norm_leaves] at fc
  simp only [pV, pB, findZ_nrm] at fc
  have gf := get_find key (some t) hr
  have hrp : (Tn.norm t).rpt = .ptr t.norm.rcv [] 0 := rfl
  simp only [Tn.leaveso, Tn.rpto, Tn.szo, hrp] at gf lc ac sn lf ⊢
  rcases gf with ⟨g1, g2⟩ | ⟨i, v, g0, g1, g3, g2⟩
  · rw [g1] at fc
    rw [g2] at gt
    simp only [getV, Option.isSome_none] at gt
    generalize Tn.hasho (some t) = w at *
    rcases hH with rfl | rfl | rfl | rfl
    all_goals
      refine ⟨_, by simp (maxSteps := 3000000) [p12_t, p12_d, plS, Tn.rpto, Tn.rpt, v43, lf, v42, v50, gt, fc, lc, ac, sp, rc, sn, ha, bne41, bne4, hpl]; rfl, ?_⟩
      exact fun P => loopX_gc (by simp [plS]) (by simp [plS])
  · rw [g1] at fc
    rw [g2] at gt
    simp only [getV, Option.isSome_some] at gt
    have hil : i < t.norm.pairs.length := by rw [hpl, ← Tn.leaves_sz]; exact g0
    have hii : i < t.sz := by rw [← Tn.leaves_sz]; exact g0
    have hN : nthC t.norm.pairs i = pairC key (some (pB v)) := by
      unfold Tn.pairs
      rw [nthC_map (default : Pr) (by rw [hll]; exact hii), Tn.norm_leaves, List.getD_eq_getElem?_getD, List.getElem?_map, g3]
      rfl
    have hiI : ¬ (i : Int) < 0 := by omega
    generalize Tn.hasho (some t) = w at *
    rcases hH with rfl | rfl | rfl | rfl
    all_goals
      refine ⟨_, by simp (maxSteps := 3000000) [p12_t, p12_d, plS, Tn.rpto, Tn.rpt, v43, lf, v42, v50, gt, fc, lc, ac, sp, rc, sn, ha, bne41, bne4, hpl, hN, hii, pairC, BA_toList, pBs]; rfl, ?_⟩
      exact fun P => loopX_gc (by simp [plS]) (by simp [plS])
end Go.Fm

