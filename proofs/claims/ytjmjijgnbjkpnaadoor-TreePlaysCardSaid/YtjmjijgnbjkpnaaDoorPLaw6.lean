/-
  A part of the proof: PLaw6.
-/
import Derived.Test.YtjmjijgnbjkpnaaDoorPRNode
import Derived.Test.YtjmjijgnbjkpnaaDoorPLaw14
import Derived.Test.YtjmjijgnbjkpnaaDoorPRef1
import Derived.Test.YtjmjijgnbjkpnaaDoorDLaw6
set_option linter.all false
set_option autoImplicit true
/-
  Law 6, TreeWays.
-/
set_option maxRecDepth 100000
set_option linter.unusedVariables false
set_option linter.unusedSimpArgs false
namespace Go.Fm
open Go Go.Proofs

theorem v42 {b : Bool} {H : Heap} {vs : List AV} : callX (cfg b) An 42 vs H = cvw (fnX (cfg b) An 42) (handCs (cfg b) false H vs) := callX_v (prim_none (by decide))
/-- What the document's loop carries. -/
def rwS (W T L : CV) (s : GS) (o : Option (List ActL)) (i : Int) : List AV := [.c W, .c T, .c L, .c (Tn.rpto s.1), .c (actsC o), .c (.int .i64 ((actsL o).length : Int)), .c (.int .i64 i)]
theorem there_iff {k : List UInt8} {t : Tn} (h : Rise t.leaves) : decide (0 ≤ findZ k t.leaves) = (Tn.cut k t).2 := by
  rw [(Tn.leaves_cut k t h).2]
  have := findZ_neg (k := k) (l := t.leaves)
  cases hc : t.leaves.any (fun p => p.1 == k) with
  | true =>
    rw [List.any_eq_true] at hc
    obtain ⟨p, hp, he⟩ := hc
    simp only [beq_iff_eq] at he
    have : ¬ findZ k t.leaves < 0 := fun hlt => (this.1 hlt) p hp he
    simp; omega
  | false =>
    rw [List.any_eq_false] at hc
    have : findZ k t.leaves < 0 := this.2 fun p hp he => hc p hp (by simpa using he)
    simp; omega
theorem cut_false {k : List UInt8} : ∀ {t : Tn}, (Tn.cut k t).2 = false → (Tn.cut k t).1 = some t
  | .leaf k' w, h => by
    unfold Tn.cut at h ⊢
    by_cases c : k' = k
    · rw [if_pos c] at h; simp at h
    · rw [if_neg c]
  | .node l r, h => by
    unfold Tn.cut at h ⊢
    by_cases c : Op.bytesLess k r.least = true
    · rw [if_pos c] at h ⊢
      revert h
      obtain ⟨x, y⟩ := Tn.cut k l
      cases y <;> cases x <;> simp [Tn.cutR]
    · rw [if_neg c] at h ⊢
      revert h
      obtain ⟨x, y⟩ := Tn.cut k r
      cases y <;> cases x <;> simp [Tn.cutR]
theorem cf_PLaw6_b899ef5b : clashFree [0, 1, 0, 7, 15, 31] [(false, [], 1, 1), (false, [], 1, 2), (false, [0], 2, 2), (false, [], 2, 2), (true, [1], 2, 2), (false, [], 2, 2)] = true := by decide
attribute [simp] cf_PLaw6_b899ef5b
/-! CF -/
theorem rw_end (b : Bool) (cf : CallFn) (W T L : CV) (o : Option (List ActL)) (s : GS) : loopX 0 (p6_l0 b cf 0) (rwS W T L s o ((actsL o).length : Int)) [] = some (.exit 0 [.c W, .c T, .c L, .c (Tn.rpto s.1)], []) := by
  rw [loopX_eq]
  simp [rwS, p6_l0]
theorem rw_break (b : Bool) (W T L : CV) (o : Option (List ActL)) (pre rest : List ActL) (a : ActL) (h : actsL o = pre ++ a :: rest) (s : GS)
    (hc : 60 ≤ pre.length ∨ 90 < a.key.length) :
    loopX 0 (p6_l0 b (callX (cfg b) An) 0) (rwS W T L s o (pre.length : Int)) [] = some (.exit 0 [.c W, .c T, .c L, .c (Tn.rpto s.1)], [.var 48 (.c a.cv)]) := by
  have hl : pre.length < (actsL o).length := by rw [h]; simp
  have hi := mIdxS_acts o pre.length hl
  have hg : (actsL o).getD pre.length default = a := by rw [h]; simp [List.getD_eq_getElem?_getD]
  rw [hg] at hi
  have kc := key_call b a
  generalize pre.length = n at *
  rw [loopX_eq]
  by_cases h1 : 60 ≤ n
  · have h1I : (60 : Int) ≤ (n : Int) := by omega
    simp [rwS, p6_l0, hl, hi, h1I]
  · have h1I : ¬ (60 : Int) ≤ (n : Int) := by omega
    have h2 : (90 : Int) < (a.key.length : Int) := by omega
    have h3 : 90 < a.key.length := by omega
    simp [rwS, p6_l0, hl, hi, kc, h1I, h2, h3]

set_option maxHeartbeats 4000000 in
theorem rw_step (b : Bool) (W T L : CV) (o : Option (List ActL)) (pre rest : List ActL) (a : ActL) (h : actsL o = pre ++ a :: rest) (s : GS) (hs : GOk s pre.length) (hg' : GLaw s)
    (hc : ¬ (60 ≤ pre.length ∨ 90 < a.key.length)) :
    loopX 0 (p6_l0 b (callX (cfg b) An) 0) (rwS W T L s o (pre.length : Int)) [] = loopX 0 (p6_l0 b (callX (cfg b) An) 0) (rwS W T L (if a.puts = true then gput a.key (upto 100 a.val) s else gcut a.key s) o ((pre.length : Int) + 1)) [] := by
  have hl : pre.length < (actsL o).length := by rw [h]; simp
  have hi := mIdxS_acts o pre.length hl
  have hg : (actsL o).getD pre.length default = a := by rw [h]; simp [List.getD_eq_getElem?_getD]
  rw [hg] at hi
  have ha := idx_add pre.length (by omega)
  have h1 : ¬ 60 ≤ pre.length := by omega
  have h2 : ¬ 90 < a.key.length := by omega
  have h1I : ¬ (60 : Int) ≤ (pre.length : Int) := by omega
  have h2I : ¬ (90 : Int) < (a.key.length : Int) := by omega
  have gc : ∀ (s' : GS) (i : Int) (x : CV), loopX 0 (p6_l0 b (callX (cfg b) An) 0) (rwS W T L s' o i) [.var 48 (.c x)] = loopX 0 (p6_l0 b (callX (cfg b) An) 0) (rwS W T L s' o i) [] := fun s' i x => loopX_gc (by simp [rwS]) (by simp [rwS])
  have gcc : ∀ (s' : GS) (i : Int) (x : CV) (y : List CV), loopX 0 (p6_l0 b (callX (cfg b) An) 0) (rwS W T L s' o i) [.var 48 (.c x), .frow 97 2 y] = loopX 0 (p6_l0 b (callX (cfg b) An) 0) (rwS W T L s' o i) [] := fun s' i x y => loopX_gc (by simp [rwS]) (by simp [rwS])
  have kc := key_call b a
  have sl := slice_upto 100 a.val
  have hsz := hs.sz
  have pc := rput_call b a.key (upto 100 a.val) s.1 (fun u hu => by rw [hu] at hsz; simp only [Tn.szo] at hsz; omega)
  generalize pre.length = n at *
  obtain ⟨m, hm⟩ : ∃ m : Int, m = ((min 100 (pB a.val).length : Nat) : Int) := ⟨_, rfl⟩
  have mz' : (if (100 : Int) < ((pB a.val).length : Int) then (100 : Int) else ((pB a.val).length : Int)) = m := by rw [hm]; split <;> omega
  rw [← hm] at sl
  by_cases hp : a.puts = true
  · have hp' : (a.kind.toNat : Int).tmod 6 < 4 := by simpa [ActL.puts] using hp
    rw [if_pos hp, loopX_eq]
    simp only [rwS] at gc
    have gc1 := gc (gput a.key (upto 100 a.val) s)
    have hr : Tn.rpto (some (Tn.puto a.key (upto 100 a.val) s.1)) = (Tn.puto a.key (upto 100 a.val) s.1).rpt := rfl
    simp only [gput, hr] at gc1
    simp [rwS, p6_l0, hl, hi, kc, mz', sl, h1I, h2, h2I, hp', pc, ha, gput, hr, gc1]
  · have hp' : ¬ (a.kind.toNat : Int).tmod 6 < 4 := by simpa [ActL.puts] using hp
    rw [if_neg hp, loopX_eq]
    simp only [rwS] at gc gcc
    obtain ⟨t, l⟩ := s
    have hrise := hg'.rise
    have hlv := hg'.leaves
    simp only at hrise hlv
    subst hlv
    cases t with
    | none =>
      have gc1 := gc (gcut a.key (none, Tn.leaveso none))
      have fc := find_fn b [] (some a.key) (by simp)
      have ff : findZ a.key [] = -1 := rfl
      simp only [gcut, Tn.cuto, Tn.leaveso, pairsC_nil, pV, pB, ff, Tn.rpto] at gc1 fc ⊢
      have lf := rleaves_nil b
      simp [rwS, p6_l0, hl, hi, kc, mz', sl, h1I, h2, h2I, hp', ha, v43, lf, v42, fc, gcut, Tn.cuto, Tn.rpto, gc1]
    | some t =>
      simp only [Tn.szo] at hsz
      have hti : t.leaves.length = t.sz := Tn.leaves_sz t
      have lf := (rleaves_fn b t [] (by simp; omega)).1
      have fc := find_fn b t.leaves (some a.key) (by omega)
      have hti2 := there_iff (k := a.key) hrise
      have hne := Tn.leaves_ne t
      have hpc : pairsC t.leaves = .sl 2 t.pairs := by rw [pairsC_ne hne]; rfl
      rw [hpc] at fc
      simp only [pV, pB] at fc
      have gc1 := gcc (gcut a.key (some t, Tn.leaveso (some t)))
      simp only [gcut, Tn.cuto, Tn.rpto, Tn.rpt] at gc1 lf
      cases hct : (Tn.cut a.key t).2 with
      | true =>
        rw [hct] at hti2
        have rc := rcut_call b a.key t (by omega) hct
        have hz : 0 ≤ findZ a.key t.leaves := by simpa using hti2
        simp only [Tn.rpt] at rc
        simp [rwS, p6_l0, hl, hi, kc, mz', sl, h1I, h2, h2I, hp', ha, v43, lf, v42, fc, hz, rc, gcut, Tn.cuto, Tn.rpto, Tn.rpt, gc1]
      | false =>
        rw [hct] at hti2
        have hz : ¬ 0 ≤ findZ a.key t.leaves := by simpa using hti2
        rw [cut_false hct] at gc1
        simp only [Tn.rpt] at gc1
        simp [rwS, p6_l0, hl, hi, kc, mz', sl, h1I, h2, h2I, hp', ha, v43, lf, v42, fc, hz, gcut, Tn.cuto, Tn.rpto, Tn.rpt, cut_false hct, gc1]
end Go.Fm

