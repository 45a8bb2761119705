/-
  A part of the proof: PKp.
-/
import Derived.Test.YtjmjijgnbjkpnaaDoorPKv
import Derived.Test.YtjmjijgnbjkpnaaDoorDMisc2
set_option linter.all false
set_option autoImplicit true
/-
  Law 18, KvParts: the store of a tree's pairs.
-/
set_option maxRecDepth 100000
set_option linter.unusedVariables false
set_option linter.unusedSimpArgs false
namespace Go.Fm
open Go Go.Proofs

theorem growS_prok (most : Nat) : ∀ (l : List ActL) (i : Nat) (s : GS), (∀ p ∈ s.2, PrOk p) → ∀ p ∈ (growS most l i s).2, PrOk p
  | [], i, s, h => h
  | a :: r, i, s, h => by
    unfold growS
    split
    · exact h
    · rename_i hc
      have hk : 0 < a.key.length := List.length_pos_iff.2 a.key_ne
      have hv : (pB (upto 100 a.val)).length ≤ 100 := by rw [pB_upto, List.length_take]; omega
      refine growS_prok most r (i + 1) _ ?_
      split
      · intro p hp
        rcases putP_mem hp with rfl | hp
        · exact ⟨by intro e; simp only at e; rw [e] at hk; simp at hk, by simp only; omega, by simp only; omega⟩
        · exact h p hp
      · intro p hp
        exact h p (List.mem_filter.1 hp).1
theorem grown_prok (most : Nat) (o : Option (List ActL)) : ∀ p ∈ (grown most o).2, PrOk p := growS_prok most _ 0 _ (fun p hp => by simp at hp)
theorem grown_rise (most : Nat) (o : Option (List ActL)) : Rise (grown most o).2 := (grown_law most o).rise
theorem putP_last {l : List Pr} {p : Pr} (h : Rise (l ++ [p])) : putP p.1 p.2 l = l ++ [p] := by
  have hlt : ∀ q ∈ l, Op.bytesLess q.1 p.1 = true := fun q hq => (List.pairwise_append.1 h).2.2 q hq p (by simp)
  have h2 := putP_left (k := p.1) (v := p.2) [] l hlt
  rw [List.append_nil] at h2
  rw [h2]
  rfl
/-- The store that a list in its order makes. -/
def stOf : List Pr → Option (List Pr)
  | [] => none
  | l => some l
theorem kvL_stOf (l : List Pr) : kvL (stOf l) = l := by cases l <;> rfl
theorem kvOk_stOf {l : List Pr} {n : Nat} (hn : l.length ≤ n) (hr : Rise l) (ho : ∀ p ∈ l, PrOk p) : KvOk (stOf l) n := ⟨by rw [kvL_stOf]; exact hn, by rw [kvL_stOf]; exact hr, by rw [kvL_stOf]; exact ho⟩
theorem klist_any (b : Bool) {s : Option (List Pr)} {n : Nat} (h : KvOk s n) (hn : n ≤ 1000000) (q : Option (List UInt8)) : fnX (cfg b) An 77 [.ov 0 [] 0, .c (pV q)] (kvS s) = some (.c (pairsC (begP q (kvL s))), kvS s) := by
  have hl := h.len
  cases s with
  | none => exact klist_nil b q
  | some l => exact klist_fn b l (by simp only [kvL] at hl; omega) h.ok q
def kpS (a b : Option (List UInt8)) (l : List Pr) (i : Int) : List AV := [.c (pV a), .c (pV b), .ov 0 [] 0, .c (pairsC l), .c (pairsC l), .c (.int .i64 (l.length : Int)), .c (.int .i64 i)]
set_option maxHeartbeats 4000000 in
theorem kp_loop (bb : Bool) (a b : Option (List UInt8)) (l : List Pr) (hm : l.length ≤ 100000) (hr : Rise l) (ho : ∀ p ∈ l, PrOk p) : ∀ (rest pre : List Pr), l = pre ++ rest →
    loopX 0 (p18_l0 bb (callX (cfg bb) An) 0) (kpS a b l (pre.length : Int)) (kvS (stOf pre)) = some (.exit 0 [.c (pV a), .c (pV b), .ov 0 [] 0, .c (pairsC l)], kvS (stOf l))
  | [], pre, h => by
    rw [List.append_nil] at h
    rw [loopX_eq, ← h]
    cases l with
    | nil => simp [kvS, stOf, kvE, kpS, p18_l0]
    | cons q r => simp [kvS, stOf, kvH, kpS, p18_l0]
  | p :: rest, pre, h => by
    have hl : pre.length < l.length := by subst h; simp
    have hi := mIdxS_pairsC l pre.length hl
    have hg : l.getD pre.length default = p := by rw [h]; exact getD_app pre rest p
    rw [hg] at hi
    have hI : (pre.length : Int) < (l.length : Int) := by omega
    have ha := idx_add pre.length (by omega)
    have hp := ho p (by subst h; simp)
    have hrp : Rise (pre ++ [p]) := by
      rw [h] at hr
      have : pre ++ p :: rest = (pre ++ [p]) ++ rest := by simp
      rw [this] at hr
      exact (List.pairwise_append.1 hr).1
    have hpre : ∀ q ∈ pre, PrOk q := fun q hq => ho q (by subst h; simp [hq])
    have pu := kvput_any bb (kvOk_stOf (Nat.le_refl _) (List.pairwise_append.1 hrp).1 hpre) (by omega) (k := p.1) (v := p.2) (List.length_pos_iff.2 hp.ne) hp.k hp.v
    rw [kvL_stOf, putP_last hrp] at pu
    have ih := kp_loop bb a b l hm hr ho rest (pre ++ [p]) (by rw [h]; simp)
    have e2 : (((pre ++ [p]).length : Nat) : Int) = (pre.length : Int) + 1 := by simp
    have e3 : stOf (pre ++ [p]) = some (pre ++ [p]) := by cases pre <;> rfl
    rw [e2, e3] at ih
    have hpc : prC p = .agg [.sl 1 (bytesAV p.1), pV p.2] := rfl
    rw [hpc] at hi
    rw [← ih, loopX_eq]
    generalize hL : pre ++ [p] = L at *
    clear ih hL e3 hrp h hpre
    cases pre with
    | nil =>
      rcases pu with pu | ⟨_, h1, _⟩
      · simp only [kvS, stOf, kvE, kvH, kpS, List.length_nil, Int.natCast_zero, Int.ofNat_zero] at pu hi hl hI ha ⊢
        have hl0 : 0 < l.length := hl
        simp [p18_l0, hl0, hi, v76, pu, ha, csz_pV, cag_pV, frz177, frz97]
        exact loopX_gc (by simp) (by simp)
      · cases h1
    | cons q r =>
      generalize hn : (q :: r).length = n at *
      rcases pu with pu | ⟨_, _, pu⟩
      · simp only [kvS, stOf, kvH, kpS] at pu ⊢
        generalize (q :: r).map prC = M at *
        simp [p18_l0, hl, hI, hi, v76, pu, ha, csz_pV, cag_pV, frz177, frz97]
        exact loopX_gc (by simp) (by simp)
      · simp only [kvS, stOf, kvH, kvD, kpS] at pu ⊢
        generalize (q :: r).map prC = M at *
        simp [p18_l0, hl, hI, hi, v76, pu, ha, csz_pV, cag_pV, frz177, frz97]
        exact loopX_gc (by simp) (by simp)
end Go.Fm

/-
  Law 18, KvParts, as a whole.
-/
set_option maxRecDepth 100000
set_option linter.unusedVariables false
set_option linter.unusedSimpArgs false
namespace Go.Fm
open Go Go.Proofs

theorem begP_mem {q : Option (List UInt8)} {l : List Pr} {p : Pr} (h : p ∈ begP q l) : p ∈ l ∧ (pB q).length ≤ p.1.length ∧ p.1.take (pB q).length = pB q := by
  obtain ⟨h1, h2⟩ := List.mem_filter.1 h
  unfold preB at h2
  simp only [Bool.and_eq_true, decide_eq_true_eq, beq_iff_eq] at h2
  exact ⟨h1, h2.1, h2.2⟩
theorem begP_none (l : List Pr) : begP none l = l := by
  unfold begP
  rw [List.filter_eq_self]
  intro p _
  simp [preB, pB]
theorem begP_le (q : Option (List UInt8)) (l : List Pr) : (begP q l).length ≤ l.length := List.length_filter_le _ _
theorem parts_apart {a b : Option (List UInt8)} {l : List Pr} (hl : (pB a).length = (pB b).length) (hne : pB a ≠ pB b) {p : Pr} (hp : p ∈ begP a l) : findZ p.1 (begP b l) < 0 := by
  rw [findZ_neg]
  intro q hq e
  obtain ⟨_, _, h2⟩ := begP_mem hp
  obtain ⟨_, _, h4⟩ := begP_mem hq
  apply hne
  rw [← h2, ← h4, e, hl]
def k2S (l x y : List Pr) (i : Int) : List AV := [.ov 0 [] 0, .c (pairsC l), .c (pairsC x), .c (pairsC y), .c (pairsC x), .c (.int .i64 (x.length : Int)), .c (.int .i64 i)]
theorem k2_loop (b : Bool) (s : Option (List Pr)) (l x y : List Pr) (hx : x.length ≤ 100000) (hy : y.length ≤ 100000) (hf : ∀ p ∈ x, findZ p.1 y < 0) : ∀ (rest pre : List Pr), x = pre ++ rest →
    loopX 0 (p18_l2 b (callX (cfg b) An) 0) (k2S l x y (pre.length : Int)) (kvS s) = some (.exit 2 [.any, .ov 0 [] 0, .c (pairsC l), .c (pairsC x)], kvS s)
  | [], pre, h => by
    rw [List.append_nil] at h
    rw [loopX_eq, ← h]
    cases s with
    | none => simp [kvS, kvE, k2S, p18_l2]
    | some r => simp [kvS, kvH, k2S, p18_l2]
  | p :: rest, pre, h => by
    have hl : pre.length < x.length := by subst h; simp
    have hi := mIdxS_pairsC x pre.length hl
    have hg : x.getD pre.length default = p := by rw [h]; exact getD_app pre rest p
    rw [hg] at hi
    have hI : (pre.length : Int) < (x.length : Int) := by omega
    have ha := idx_add pre.length (by omega)
    have hz := hf p (by subst h; simp)
    have hz' : ¬ (0 : Int) ≤ findZ p.1 y := by omega
    have fc := find_call b y (some p.1) (by omega)
    have e1 : pV (some p.1) = .sl 1 (bytesAV p.1) := rfl
    have e2 : pB (some p.1) = p.1 := rfl
    rw [e1, e2] at fc
    have ih := k2_loop b s l x y hx hy hf rest (pre ++ [p]) (by rw [h]; simp)
    have e3 : (((pre ++ [p]).length : Nat) : Int) = (pre.length : Int) + 1 := by simp
    rw [e3] at ih
    have hpc : prC p = .agg [.sl 1 (bytesAV p.1), pV p.2] := rfl
    rw [hpc] at hi
    rw [← ih, loopX_eq]
    clear ih h
    generalize pre.length = n at *
    cases s with
    | none =>
      simp only [kvS, kvE, k2S]
      simp [p18_l2, hl, hI, hi, fc, hz', ha, csz_pV, cag_pV, frz97]
      exact loopX_gc (by simp) (by simp)
    | some r =>
      simp only [kvS, kvH, k2S]
      simp [p18_l2, hl, hI, hi, fc, hz', ha, csz_pV, cag_pV, frz97]
      exact loopX_gc (by simp) (by simp)
/-! CF -/
set_option maxHeartbeats 32000000 in
theorem parts_core (bb : Bool) (s : Option (List Pr)) (o : Option (List ActL)) (T : CV) (a b : Option (List UInt8)) (n : Nat) (hn : ((min (pB b).length (pB a).length : Nat) : Int) = (n : Int)) (l x y : List Pr) (na nb : Option (List UInt8)) (hxl : x.length ≤ l.length)
    (gc : ∀ H, callX (cfg bb) An 39 [.c (actsC o), .c (.int .i64 50)] H = some (.tup [.c T, .c (pairsC l)], H))
    (lp : loopX 0 (p18_l0 bb (callX (cfg bb) An) 0) (kpS a b l 0) kvE = some (.exit 0 [.c (pV a), .c (pV b), .ov 0 [] 0, .c (pairsC l)], kvS s))
    (sa : ∀ H, mSliceSl 1 (.c (pV a)) none (some (.c (.int .i64 (n : Int)))) H = some (.c (pV na), H))
    (sb : ∀ H, mSliceSl 1 (.c (pV b)) none (some (.c (.int .i64 (n : Int)))) H = some (.c (pV nb), H))
    (lx : fnX (cfg bb) An 77 [.ov 0 [] 0, .c (pV na)] (kvS s) = some (.c (pairsC x), kvS s))
    (ly : fnX (cfg bb) An 77 [.ov 0 [] 0, .c (pV nb)] (kvS s) = some (.c (pairsC y), kvS s))
    (ln : fnX (cfg bb) An 77 [.ov 0 [] 0, .c .nilsl] (kvS s) = some (.c (pairsC l), kvS s))
    (l2 : pB na ≠ pB nb → loopX 0 (p18_l2 bb (callX (cfg bb) An) 0) (k2S l x y 0) (kvS s) = some (.exit 2 [.any, .ov 0 [] 0, .c (pairsC l), .c (pairsC x)], kvS s)) :
    fnX (cfg bb) An 18 [.c (actsC o), .c (pV a), .c (pV b)] [] = some (.c (.bool true), []) := by
  rw [fnX_eq, p18_eq]
  have c0 := awake16_call bb
  have nw := kvnew_fn bb
  have hL := fun H => lenOf_pairsC l H
  have hX := fun H => lenOf_pairsC x H
  have ha := fun H => lenOf_pV H a
  have hb := fun H => lenOf_pV H b
  have ea := fun H => elemsOf_pV H na
  have eb := fun H => elemsOf_pV H nb
  have hxI : (x.length : Int) ≤ (l.length : Int) := by omega
  have mz := minZ (pB b).length (pB a).length
  rw [hn] at mz
  by_cases hne : pB na = pB nb
  · cases s with
    | none =>
      simp only [kvS, kvE, kpS] at nw lp lx ly ln
      simp (maxSteps := 1000000) [p18, p18_d0, p18_d1, c0, v75, nw, gc, hL, hX, ha, hb, ea, eb, mz, lp, sa, sb, v77, lx, ly, ln, hne, hxl, hxI, BA_toList, frz177]
    | some r =>
      simp only [kvS, kvE, kvH, kpS] at nw lp lx ly ln
      simp (maxSteps := 1000000) [p18, p18_d0, p18_d1, c0, v75, nw, gc, hL, hX, ha, hb, ea, eb, mz, lp, sa, sb, v77, lx, ly, ln, hne, hxl, hxI, BA_toList, frz177]
  · have l2' := l2 hne
    have hb2 : (pB na == pB nb) = false := by simpa using hne
    cases s with
    | none =>
      simp only [kvS, kvE, kpS, k2S] at nw lp lx ly ln l2'
      simp (maxSteps := 1000000) [p18, p18_d0, p18_d1, c0, v75, nw, gc, hL, hX, ha, hb, ea, eb, mz, lp, sa, sb, v77, lx, ly, ln, hb2, l2', hxl, hxI, BA_toList, frz177]
    | some r =>
      simp only [kvS, kvE, kvH, kpS, k2S] at nw lp lx ly ln l2'
      simp (maxSteps := 1000000) [p18, p18_d0, p18_d1, c0, v75, nw, gc, hL, hX, ha, hb, ea, eb, mz, lp, sa, sb, v77, lx, ly, ln, hb2, l2', hxl, hxI, BA_toList, frz177]
theorem kvParts_fn (bb : Bool) (o : Option (List ActL)) (a b : Option (List UInt8)) : fnX (cfg bb) An 18 [.c (actsC o), .c (pV a), .c (pV b)] [] = some (.c (.bool true), []) := by
  have gk := grown_ok 50 o
  have hlen : (grown 50 o).2.length ≤ 50 := gk.len
  have hr := grown_rise 50 o
  have ho := grown_prok 50 o
  have gc := grow_call bb 50 (by decide) o
  have lp := kp_loop bb a b (grown 50 o).2 (by omega) hr ho (grown 50 o).2 [] rfl
  have hS := kvOk_stOf hlen hr ho
  have z0 : ((([] : List Pr).length : Nat) : Int) = 0 := rfl
  rw [z0] at lp
  obtain ⟨n, hn⟩ : ∃ n, n = min (pB b).length (pB a).length := ⟨_, rfl⟩
  have lx := klist_any bb hS (by decide) (upto n a)
  have ly := klist_any bb hS (by decide) (upto n b)
  have ln := klist_any bb hS (by decide) none
  rw [kvL_stOf] at lx ly ln
  rw [begP_none] at ln
  refine parts_core bb (stOf (grown 50 o).2) o (tC (grown 50 o).1) a b n (by rw [hn]) (grown 50 o).2 (begP (upto n a) (grown 50 o).2) (begP (upto n b) (grown 50 o).2) (upto n a) (upto n b) (begP_le _ _) gc lp
    (fun H => slice_pV n a (by omega) H) (fun H => slice_pV n b (by omega) H) lx ly ln (fun hne => ?_)
  have h1 := begP_le (upto n a) (grown 50 o).2
  have h2 := begP_le (upto n b) (grown 50 o).2
  have := k2_loop bb (stOf (grown 50 o).2) (grown 50 o).2 (begP (upto n a) (grown 50 o).2) (begP (upto n b) (grown 50 o).2) (by omega) (by omega) (fun p hp => parts_apart (by rw [pB_upto, pB_upto, List.length_take, List.length_take]; omega) hne hp) _ [] rfl
  rw [z0] at this
  exact this
end Go.Fm

