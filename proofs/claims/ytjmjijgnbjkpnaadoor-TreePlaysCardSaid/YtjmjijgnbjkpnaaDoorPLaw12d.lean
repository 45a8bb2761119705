/-
  A part of the proof: PLaw12d.
-/
import Derived.Test.YtjmjijgnbjkpnaaDoorPLaw12c
set_option linter.all false
set_option autoImplicit true
/-
  Law 12, TreePlays: the loop's step.
-/
set_option maxRecDepth 100000
set_option linter.unusedVariables false
set_option linter.unusedSimpArgs false
namespace Go.Fm
open Go Go.Proofs

/-- The first lines of the loop, at a tree. -/
structure PlAt (key : List UInt8) (t : Option Tn) : Prop where
  fit : ∀ u, t = some u → u.fit
  rise : Rise (Tn.leaveso t)
  sz : Tn.szo t ≤ 10000
theorem away_eq {s : List AV} {H : Heap} (h : Away s H) (P : List AV → Heap → Option (LStep × Heap)) : loopX 0 P s H = loopX 0 P s [] := h P
theorem ptrEq_tC (t : Option Tn) : ptrEq (.c (tC t)) (.c .nilp) = some false := rfl
/-! CF -/
set_option maxHeartbeats 16000000 in
theorem pl_put (o : Option (List ActL)) (pre rest : List ActL) (a : ActL) (h : actsL o = pre ++ a :: rest) (s : GS) (hs : GOk s pre.length) (hg' : GLaw s) (hc : ¬ brk a pre.length) (hp : a.puts = true) :
    loopX 0 (p12_l0 true (callX (cfg true) An) 0) (plS s.1 o (pre.length : Int)) [] = loopX 0 (p12_l0 true (callX (cfg true) An) 0) (plS (plG a s).1 o ((pre.length : Int) + 1)) [] := by
  have hl : pre.length < (actsL o).length := by rw [h]; simp
  have hi := mIdxS_acts o pre.length hl
  have hgd : (actsL o).getD pre.length default = a := by rw [h]; simp [List.getD_eq_getElem?_getD]
  rw [hgd] at hi
  unfold brk at hc
  have h1 : ¬ 60 < pre.length := fun e => hc (.inl e)
  have h1I : ¬ (60 : Int) < (pre.length : Int) := by omega
  have h2 : ¬ (1000 : Int) < iAdd .i64 ((pB a.raw).length : Int) ((pB a.val).length : Int) := fun e => hc (.inr e)
  have kc := key_call true a
  have hsz := hs.sz
  have hn : pre.length < 4000000000 := by omega
  have hp' : (a.kind.toNat : Int).tmod 6 < 4 := by simpa [ActL.puts] using hp
  have hpl : plG a s = if 96 < a.key.length ∨ 256 < (pB a.val).length then s else gput a.key a.val s := if_pos hp
  have hrise : Rise (Tn.leaveso s.1) := by rw [hg'.leaves]; exact hg'.rise
  have lf0 := rleaves_nil true
  -- the first finding
  have fc0 := find_call true [] (some a.key) (by simp)
  have fcs := fun (t : Tn) (e : s.1 = some t) => (rleaves_fn true t.norm [] (by rw [e] at hsz; simp only [Tn.szo] at hsz; rw [Tn.norm_sz]; simp; omega)).1
  have fcf := fun (t : Tn) (e : s.1 = some t) => find_fn true t.norm.leaves (some a.key) (by rw [e] at hsz; simp only [Tn.szo] at hsz; rw [Tn.leaves_sz, Tn.norm_sz]; omega)
  by_cases hk : 96 < a.key.length
  · have e : plG a s = s := by rw [hpl, if_pos (.inl hk)]
    rw [e]
    have pk := fun w hw => Put_key true a.key w hw hk s.1
    have pk1 : ∀ H, callX (cfg true) An 36 [.c (tC s.1), .c (.sl 1 (bytesAV a.key)), .c (pV a.val)] H = _ := callX_pure (pk (pV a.val) (csz_pV _)) rfl rfl (prim_none (by decide))
    have ta := tail_any a.key s.1 hs.fit hrise (by omega) o pre.length hn a.cv
    obtain ⟨t, l⟩ := s
    simp only at *
    cases t with
    | none =>
      obtain ⟨Hx, t1, t2⟩ := ta [] [] [.var 48 (.c a.cv)] (.inl rfl)
      have t3 := away_eq t2 (p12_l0 true (callX (cfg true) An) 0)
      simp only [Option.map_none, Tn.rpto, pairsC_nil, pV, plS] at t1 t3 fc0 ⊢
      generalize pre.length = n at *
      rw [loopX_eq]
      have hkI : (96 : Int) < (a.key.length : Int) := by omega
      simp [p12_l0, hl, hi, h1I, h2, kc, v43, lf0, fc0, hp', hk, hkI, pk1, t1, t3, be28, bne4, Tn.rpto]
    | some t =>
      have lf := fcs t rfl
      have fc := fcf t rfl
      have hpc : pairsC t.norm.leaves = .sl 2 t.norm.pairs := by rw [pairsC_ne (Tn.leaves_ne _)]; rfl
      obtain ⟨Hx, t1, t2⟩ := ta t.norm.pairs [] [.var 48 (.c a.cv), .frow 97 2 t.norm.pairs] (.inr (.inl rfl))
      have t3 := away_eq t2 (p12_l0 true (callX (cfg true) An) 0)
      rw [hpc] at fc
      simp only [Option.map_some, Tn.rpto, Tn.rpt, pV, pB, plS] at t1 t3 fc lf ⊢
      generalize findZ a.key t.norm.leaves = q at *
      generalize pre.length = n at *
      rw [loopX_eq]
      have hkI : (96 : Int) < (a.key.length : Int) := by omega
      simp [p12_l0, hl, hi, h1I, h2, kc, v43, lf, v42, fc, hp', hk, hkI, pk1, t1, t3, be28, bne4, Tn.rpto, Tn.rpt]
  have hkI : ¬ (96 : Int) < (a.key.length : Int) := by omega
  by_cases hv : 256 < (pB a.val).length
  · have e : plG a s = s := by rw [hpl, if_pos (.inr hv)]
    rw [e]
    have hvI : (256 : Int) < ((pB a.val).length : Int) := by omega
    have pk1 : ∀ H, callX (cfg true) An 36 [.c (tC s.1), .c (.sl 1 (bytesAV a.key)), .c (pV a.val)] H = _ := callX_pure (Put_val true a.key a.val a.key_ne (by omega) hv s.1) rfl rfl (prim_none (by decide))
    have ta := tail_any a.key s.1 hs.fit hrise (by omega) o pre.length hn a.cv
    obtain ⟨t, l⟩ := s
    simp only at *
    cases t with
    | none =>
      obtain ⟨Hx, t1, t2⟩ := ta [] [] [.var 48 (.c a.cv)] (.inl rfl)
      have t3 := away_eq t2 (p12_l0 true (callX (cfg true) An) 0)
      simp only [Option.map_none, Tn.rpto, pairsC_nil, pV, plS] at t1 t3 fc0 ⊢
      generalize pre.length = n at *
      rw [loopX_eq]
      simp [p12_l0, hl, hi, h1I, h2, kc, v43, lf0, fc0, hp', hk, hkI, hv, hvI, pk1, t1, t3, be28, bne4, Tn.rpto]
    | some t =>
      have lf := fcs t rfl
      have fc := fcf t rfl
      have hpc : pairsC t.norm.leaves = .sl 2 t.norm.pairs := by rw [pairsC_ne (Tn.leaves_ne _)]; rfl
      obtain ⟨Hx, t1, t2⟩ := ta t.norm.pairs [] [.var 48 (.c a.cv), .frow 97 2 t.norm.pairs] (.inr (.inl rfl))
      have t3 := away_eq t2 (p12_l0 true (callX (cfg true) An) 0)
      rw [hpc] at fc
      simp only [Option.map_some, Tn.rpto, Tn.rpt, pV, pB, plS] at t1 t3 fc lf ⊢
      generalize findZ a.key t.norm.leaves = q at *
      generalize pre.length = n at *
      rw [loopX_eq]
      simp [p12_l0, hl, hi, h1I, h2, kc, v43, lf, v42, fc, hp', hk, hkI, hv, hvI, pk1, t1, t3, be28, bne4, Tn.rpto, Tn.rpt]
  have e : plG a s = gput a.key a.val s := by rw [hpl, if_neg (by omega)]
  rw [e]
  have hvI : ¬ (256 : Int) < ((pB a.val).length : Int) := by omega
  have pk1 := Put_call true a.key a.val a.key_ne (by omega) (by omega) s.1 (by omega)
  have hs2 := hs.put (k := a.key) (v := a.val) (by omega) (by omega)
  have hg2 := hg'.put a.key a.val
  have hrise2 : Rise (Tn.leaveso (gput a.key a.val s).1) := by rw [hg2.leaves]; exact hg2.rise
  have ta := tail_any a.key (gput a.key a.val s).1 hs2.fit hrise2 (by have := hs2.sz; omega) o pre.length hn a.cv
  have rp := rput_norm a.key a.val s.1 (szo_le (by omega))
  have mx0 : (pB a.val).length ≤ maxLen := big_max (by omega)
  have mx1 : (pB a.val).length ≤ 140737488355328 := by omega
  obtain ⟨t, l⟩ := s
  simp only [gput] at *
  have hva : ∃ av, av = a.val := ⟨_, rfl⟩
  cases t with
  | none =>
    obtain ⟨Hx, t1, t2⟩ := ta [] (bytesAV (pB a.val)) [.var 48 (.c a.cv), .dead, .frow 5 1 (bytesAV (pB a.val))] (.inr (.inr (.inl rfl)))
    have t3 := away_eq t2 (p12_l0 true (callX (cfg true) An) 0)
    simp only [plS] at t1 t3 ⊢
    generalize (some (Tn.puto a.key a.val none)) = T2 at *
    generalize Tn.rpto (T2.map Tn.norm) = N2 at *
    simp only [Option.map_none, Tn.rpto, pairsC_nil, pV] at t1 fc0 rp
    generalize pre.length = n at *
    rw [loopX_eq]
    simp [p12_l0, hl, hi, h1I, h2, kc, v43, lf0, fc0, hp', hk, hkI, hv, hvI, pk1, v41, rp, t1, t3, be28, bne4, Tn.rpto, mx0, mx1, ptrEq_tC]
  | some t =>
    have lf := fcs t rfl
    have fc := fcf t rfl
    have hpc : pairsC t.norm.leaves = .sl 2 t.norm.pairs := by rw [pairsC_ne (Tn.leaves_ne _)]; rfl
    obtain ⟨Hx, t1, t2⟩ := ta t.norm.pairs (bytesAV (pB a.val)) [.var 48 (.c a.cv), .frow 97 2 t.norm.pairs, .dead, .frow 5 1 (bytesAV (pB a.val))] (.inr (.inr (.inr rfl)))
    have t3 := away_eq t2 (p12_l0 true (callX (cfg true) An) 0)
    simp only [plS] at t1 t3 ⊢
    generalize (some (Tn.puto a.key a.val (some t))) = T2 at *
    generalize Tn.rpto (T2.map Tn.norm) = N2 at *
    rw [hpc] at fc
    simp only [Option.map_some, Tn.rpto, Tn.rpt, pV, pBs] at t1 fc lf rp
    generalize findZ a.key t.norm.leaves = q at *
    generalize pre.length = n at *
    rw [loopX_eq]
    simp [p12_l0, hl, hi, h1I, h2, kc, v43, lf, v42, fc, hp', hk, hkI, hv, hvI, pk1, v41, rp, t1, t3, be28, bne4, Tn.rpto, Tn.rpt, mx0, mx1, ptrEq_tC]
end Go.Fm

