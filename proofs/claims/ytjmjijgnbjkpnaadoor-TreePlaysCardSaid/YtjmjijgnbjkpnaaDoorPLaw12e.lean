/-
  A part of the proof: PLaw12e.
-/
import Derived.Test.YtjmjijgnbjkpnaaDoorPLaw12d
set_option linter.all false
set_option autoImplicit true
/-
  Law 12, TreePlays, as a whole.
-/
set_option maxRecDepth 100000
set_option linter.unusedVariables false
set_option linter.unusedSimpArgs false
namespace Go.Fm
open Go Go.Proofs

/-! CF -/
theorem rcut_norm (key : List UInt8) (t : Tn) (hs : t.sz ≤ 100000000000) (hc : (Tn.cut key t).2 = true) (H : Heap) :
    callX (cfg true) An 44 [.c t.norm.rpt, .c (.sl 1 (bytesAV key))] H = some (.c (Tn.rpto ((Tn.cut key t).1.map Tn.norm)), H) := by
  have h := rcut_call true key t.norm (by rw [Tn.norm_sz]; exact hs) (by rw [Tn.norm_cut]; exact hc) H
  rw [Tn.norm_cut] at h
  exact h
set_option maxHeartbeats 16000000 in
theorem pl_cut (o : Option (List ActL)) (pre rest : List ActL) (a : ActL) (h : actsL o = pre ++ a :: rest) (s : GS) (hs : GOk s pre.length) (hg' : GLaw s) (hc : ¬ brk a pre.length) (hp : a.puts = false) :
    loopX 0 (p12_l0 true (callX (cfg true) An) 0) (plS s.1 o (pre.length : Int)) [] = loopX 0 (p12_l0 true (callX (cfg true) An) 0) (plS (plG a s).1 o ((pre.length : Int) + 1)) [] := by
  have hl : pre.length < (actsL o).length := by rw [h]; simp
  have hi := mIdxS_acts o pre.length hl
  have hgd : (actsL o).getD pre.length default = a := by rw [h]; simp [List.getD_eq_getElem?_getD]
  rw [hgd] at hi
  unfold brk at hc
  have h1 : ¬ 60 < pre.length := fun e => hc (.inl e)
  have h1I : ¬ (60 : Int) < (pre.length : Int) := by omega
  have h2 : ¬ (1000 : Int) < iAdd .i64 ((pB a.raw).length : Int) ((pB a.val).length : Int) := fun e => hc (.inr e)
  have kc := key_call true a
  have hsz := hs.sz
  have hn : pre.length < 4000000000 := by omega
  have hp' : ¬ (a.kind.toNat : Int).tmod 6 < 4 := by simpa [ActL.puts] using hp
  have e : plG a s = gcut a.key s := by unfold plG; rw [hp]; simp
  rw [e]
  have hrise : Rise (Tn.leaveso s.1) := by rw [hg'.leaves]; exact hg'.rise
  have cc := Cut_call true a.key s.1 (by omega)
  have hs2 := hs.cut a.key
  have hg2 := hg'.cut a.key
  have hrise2 : Rise (Tn.leaveso (gcut a.key s).1) := by rw [hg2.leaves]; exact hg2.rise
  have ta := tail_any a.key (gcut a.key s).1 hs2.fit hrise2 (by have := hs2.sz; omega) o pre.length hn a.cv
  obtain ⟨t, l⟩ := s
  simp only [gcut] at *
  cases t with
  | none =>
    have lf0 := rleaves_nil true
    have fc0 := find_call true [] (some a.key) (by simp)
    have ff : findZ a.key [] = -1 := rfl
    obtain ⟨Hx, t1, t2⟩ := ta [] [] [.var 48 (.c a.cv)] (.inl rfl)
    have t3 := away_eq t2 (p12_l0 true (callX (cfg true) An) 0)
    simp only [Tn.cuto, Option.map_none, Tn.rpto, pairsC_nil, pV, pBs, ff, plS] at t1 t3 fc0 cc ⊢
    generalize pre.length = n at *
    rw [loopX_eq]
    simp [p12_l0, hl, hi, h1I, h2, kc, v43, lf0, fc0, hp', cc, t1, t3, be28, bne4, Tn.rpto, ptrEq_tC]
  | some t =>
    simp only [Tn.szo] at hsz
    have lf := (rleaves_fn true t.norm [] (by rw [Tn.norm_sz]; simp; omega)).1
    have fc := find_fn true t.norm.leaves (some a.key) (by rw [Tn.leaves_sz, Tn.norm_sz]; omega)
    have hti := there_iff (k := a.key) hrise
    have hpc : pairsC t.norm.leaves = .sl 2 t.norm.pairs := by rw [pairsC_ne (Tn.leaves_ne _)]; rfl
    obtain ⟨Hx, t1, t2⟩ := ta t.norm.pairs [] [.var 48 (.c a.cv), .frow 97 2 t.norm.pairs] (.inr (.inl rfl))
    have t3 := away_eq t2 (p12_l0 true (callX (cfg true) An) 0)
    rw [hpc, Tn.norm_leaves] at fc
    simp only [pV, pBs, findZ_nrm] at fc
    simp only [Tn.cuto, plS] at t1 t3 cc ⊢
    simp only [Tn.rpt] at lf
    cases hct : (Tn.cut a.key t).2 with
    | true =>
      rw [hct] at hti cc
      have rc := rcut_norm a.key t (by omega) hct
      have hz : 0 ≤ findZ a.key t.leaves := by simpa using hti
      generalize (Tn.cut a.key t).1 = T2 at *
      generalize Tn.rpto (T2.map Tn.norm) = N2 at *
      simp only [Option.map_some, Tn.rpto, Tn.rpt] at rc ⊢
      generalize findZ a.key t.leaves = q at *
      generalize pre.length = n at *
      rw [loopX_eq]
      simp [p12_l0, hl, hi, h1I, h2, kc, v43, lf, v42, fc, hp', cc, hz, rc, t1, t3, be28, bne4, ptrEq_tC]
    | false =>
      rw [hct] at hti cc
      have hz : ¬ 0 ≤ findZ a.key t.leaves := by simpa using hti
      rw [cut_false hct] at t1 t3 cc ⊢
      simp only [Option.map_some, Tn.rpto, Tn.rpt] at t1 t3 ⊢
      generalize findZ a.key t.leaves = q at *
      generalize pre.length = n at *
      rw [loopX_eq]
      simp [p12_l0, hl, hi, h1I, h2, kc, v43, lf, v42, fc, hp', cc, hz, t1, t3, be28, bne4, ptrEq_tC]
theorem GOk.mono {s : GS} {n m : Nat} (h : GOk s n) (hm : n ≤ m) : GOk s m := ⟨Nat.le_trans h.sz hm, h.fit, Nat.le_trans h.len hm⟩
theorem pl_loop (o : Option (List ActL)) : ∀ (rest pre : List ActL) (s : GS), actsL o = pre ++ rest → pre.length ≤ 61 → GOk s pre.length → GLaw s →
    ∃ (x : Heap) (s' : GS), (x = [] ∨ ∃ a : CV, x = [.var 48 (.c a)]) ∧ GOk s' 61 ∧ loopX 0 (p12_l0 true (callX (cfg true) An) 0) (plS s.1 o (pre.length : Int)) [] = some (.exit 0 [.any, .c (tC s'.1), .c (Tn.rpto (s'.1.map Tn.norm))], x)
  | [], pre, s, h, hlen, hs, hg => by
    rw [List.append_nil] at h
    refine ⟨[], s, .inl rfl, hs.mono (by omega), ?_⟩
    rw [← h]
    exact pl_end _ o s.1
  | a :: rest, pre, s, h, hlen, hs, hg => by
    by_cases hc : brk a pre.length
    · exact ⟨_, s, .inr ⟨a.cv, rfl⟩, hs.mono (by omega), pl_break _ o pre rest a h s.1 hc⟩
    · have st : loopX 0 (p12_l0 true (callX (cfg true) An) 0) (plS s.1 o (pre.length : Int)) [] = loopX 0 (p12_l0 true (callX (cfg true) An) 0) (plS (plG a s).1 o ((pre.length : Int) + 1)) [] := by
        cases hp : a.puts with
        | true => exact pl_put o pre rest a h s hs hg hc hp
        | false => exact pl_cut o pre rest a h s hs hg hc hp
      rw [st]
      have hn : ¬ 60 < pre.length := fun e => hc (.inl e)
      have hs' : GOk (plG a s) (pre.length + 1) := by
        unfold plG
        split
        · split
          · exact hs.mono (by omega)
          · exact hs.put (by omega) (by omega)
        · exact hs.cut _
      have hg'' : GLaw (plG a s) := by
        unfold plG
        split
        · split
          · exact hg
          · exact hg.put _ _
        · exact hg.cut _
      have ih := pl_loop o rest (pre ++ [a]) (plG a s) (by simp [h]) (by simp; omega) (by simpa using hs') hg''
      have e2 : (((pre ++ [a]).length : Nat) : Int) = (pre.length : Int) + 1 := by simp
      rw [e2] at ih
      exact ih
theorem Nodes_call (b : Bool) (t : Option Tn) (hf : ∀ u, t = some u → u.fit) (hs : Tn.szo t ≤ 10000000) (H : Heap) : callX (cfg b) An 66 [.c (tC t)] H = some (.c (Tn.apiso t), H) := callX_pure (Nodes_fn b t hf hs) rfl rfl (prim_none (by decide)) H
theorem v65 {b : Bool} {H : Heap} {vs : List AV} : callX (cfg b) An 65 vs H = cvw (fnX (cfg b) An 65) (handCs (cfg b) false H vs) := callX_v (prim_none (by decide))
theorem treePlays_fn (o : Option (List ActL)) : fnX (cfg true) An 12 [.c (actsC o)] [] = some (.c (.bool true), []) := by
  rw [fnX_eq, p12_eq]
  have c0 := awake05_call true
  have nc := new_call true
  obtain ⟨x, s, hx, hs, e⟩ := pl_loop o (actsL o) [] (none, []) rfl (by simp) ⟨by simp [Tn.szo], fun u hu => by simp at hu, by simp⟩ ⟨rfl, List.Pairwise.nil, fun u hu => by simp at hu⟩
  simp only [plS, Option.map_none, Tn.rpto, List.length_nil, Int.natCast_zero, Int.ofNat_zero] at e
  have nd := Nodes_call true s.1 hs.fit (by have := hs.sz; omega)
  obtain ⟨t, l⟩ := s
  have hsz := hs.sz
  have hfit := hs.fit
  simp only at e nd hsz hfit
  cases t with
  | none =>
    have ra := rall_nil true
    have sn := sameNodes_fn [] (by simp)
    have hn : nodesC ([].map Tn.norm) = .nilsl := rfl
    rw [hn, nodesC_nil] at sn
    simp only [Option.map_none, Tn.apiso] at e nd
    rcases hx with rfl | ⟨a, rfl⟩
    · simp [p12, c0, nc, e, nd, v67, ra, v65, sn]
    · simp [p12, c0, nc, e, nd, v67, ra, v65, sn]
  | some t =>
    simp only [Tn.szo] at hsz
    have ft := Tn.norm_fit t (hfit t rfl)
    have hal := t.norm.apis_len
    rw [Tn.norm_sz] at hal
    have ra := (rall_fn t.norm ft [] (by simp; omega)).1
    have hnl := t.nodesL_len
    have sn := sameNodes_fn t.nodesL (by omega)
    have hne : t.nodesL ≠ [] := by cases t <;> simp [Tn.nodesL]
    have hne2 : t.nodesL.map Tn.norm ≠ [] := by simpa using hne
    rw [nodesC_ne hne, nodesC_ne hne2] at sn
    have h1 : t.nodesL.map Tn.api = t.apis := rfl
    have h2 : (t.nodesL.map Tn.norm).map Tn.api = t.norm.apis := by rw [← Tn.norm_nodesL]; rfl
    rw [h1, h2] at sn
    simp only [Option.map_some, Tn.apiso, Tn.rpt] at e nd ra
    rcases hx with rfl | ⟨a, rfl⟩
    · simp [p12, c0, nc, e, nd, v67, ra, v65, sn]
    · simp [p12, c0, nc, e, nd, v67, ra, v65, sn]
end Go.Fm

