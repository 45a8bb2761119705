/-
  A part of the proof: PLaw11.
-/
import Derived.Test.YtjmjijgnbjkpnaaDoorPLaw14
import Derived.Test.YtjmjijgnbjkpnaaDoorPRef1
import Derived.Test.YtjmjijgnbjkpnaaDoorDLaw11
set_option linter.all false
set_option autoImplicit true
/-
  TreeCuts: what the law's function gives.
-/
set_option maxRecDepth 100000
set_option linter.unusedVariables false
set_option linter.unusedSimpArgs false
namespace Go.Fm
open Go Go.Proofs

/-! CF -/
theorem cut_put (k : List UInt8) (v : Option (List UInt8)) : ∀ l : List Pr, cutP k (putP k v l) = cutP k l
  | [] => by simp [putP, cutP]
  | p :: r => by
    have ih := cut_put k v r
    unfold putP
    by_cases h1 : Op.bytesLess p.1 k = true
    · have h2 : p.1 ≠ k := bl_ne h1
      rw [if_pos h1]
      unfold cutP at ih ⊢
      simp [h2, ih]
    · rw [if_neg h1]
      by_cases h2 : p.1 = k
      · simp [h2, cutP]
      · simp [h2, cutP]
theorem putP_new (k : List UInt8) (v : Option (List UInt8)) : ∀ l : List Pr, (∀ p ∈ l, p.1 ≠ k) → (putP k v l).length = l.length + 1 ∧ (putP k v l).any (fun p => p.1 == k) = true
  | [], _ => by simp [putP]
  | p :: r, h => by
    obtain ⟨i1, i2⟩ := putP_new k v r fun q hq => h q (by simp [hq])
    have h2 := h p (by simp)
    unfold putP
    split
    · simp [i1, i2]
    · simp [h2]
/-- Cut by cut. -/
def tcS (t : Option Tn) (l : List Pr) (i : Int) : List AV := [.c (tC t), .c (pairsC l), .c (pairsC l), .c (.int .i64 (l.length : Int)), .c (.int .i64 i)]
theorem gc97 (b : Bool) (cf : CallFn) (t : Option Tn) (l : List Pr) (i : Int) (x : CV) : loopX 0 (p11_l0 b cf 0) (tcS t l i) [.var 97 (.c x)] = loopX 0 (p11_l0 b cf 0) (tcS t l i) [] := loopX_gc (by simp [tcS]) (by simp [tcS])
theorem sub2 (a c d : Nat) (h : a < 4000000000000000000) (hc : c + d ≤ a) : iSub .i64 (iSub .i64 (a : Int) (d : Int)) (c : Int) = ((a - d - c : Nat) : Int) := by
  unfold iSub
  rw [i64_small (z := (a : Int) - d) (by omega) (by omega), i64_small (by omega) (by omega)]
  omega
theorem tc_loop (b : Bool) (l : List Pr) (hm : l.length ≤ 1000000) (hr : Rise l) : ∀ (rest pre : List Pr) (t : Option Tn), l = pre ++ rest → GLaw (t, rest) → (∀ u, t = some u → u.fit) →
    loopX 0 (p11_l0 b (callX (cfg b) An) 0) (tcS t l (pre.length : Int)) [] = some (.exit 0 [.any, .c (tC none)], [])
  | [], pre, t, h, hg, hf => by
    have ht : t = none := by
      cases t with
      | none => rfl
      | some t => exact absurd hg.leaves t.leaves_ne
    subst ht
    rw [List.append_nil] at h
    rw [h, loopX_eq]
    simp [tcS, p11_l0]
  | p :: rest, pre, t, h, hg, hf => by
    have hl : pre.length < l.length := by subst h; simp
    have hi := mIdxS_pairsC l pre.length hl
    have hgd : l.getD pre.length default = p := by rw [h]; exact getD_app pre rest p
    rw [hgd] at hi
    have ha := idx_add pre.length (by omega)
    have hlen : l.length = pre.length + (rest.length + 1) := by rw [h]; simp
    have hlv := hg.leaves
    have hris := hg.rise
    simp only at hlv hris
    have hsz : Tn.szo t = rest.length + 1 := by rw [← leaveso_len, hlv]; simp
    cases t with
    | none => simp [Tn.szo] at hsz
    | some t =>
      simp only [Tn.szo] at hsz
      obtain ⟨k1, k2⟩ := Tn.leaves_cut p.1 t (by rw [show t.leaves = p :: rest from hlv]; exact hris)
      have hgc := hg.cut p.1
      have hlv' : t.leaves = p :: rest := hlv
      have hne : ∀ q ∈ rest, q.1 ≠ p.1 := fun q hq => by
        have hris' := hris
        unfold Rise at hris'
        rw [List.pairwise_cons] at hris'
        exact (bl_ne (hris'.1 q hq)).symm
      have hcutr : cutP p.1 (p :: rest) = rest := by
        have := Tn.cutP_of p.1 rest hne
        unfold cutP at this ⊢
        simp [this]
      rw [hlv'] at k1 k2
      rw [hcutr] at k1
      have k2' : (t.cut p.1).2 = true := by rw [k2]; simp
      have cc := Cut_call b p.1 (some t) (by simp only [Tn.szo]; omega)
      have hco : Tn.cuto p.1 (some t) = t.cut p.1 := rfl
      rw [hco, k2'] at cc
      have hszc : Tn.szo (t.cut p.1).1 = rest.length := by rw [← leaveso_len, k1]
      have lc := Len_call b (t.cut p.1).1 (by omega)
      rw [hszc] at lc
      have hgc' : GLaw ((t.cut p.1).1, rest) := by
        have : gcut p.1 (some t, p :: rest) = ((t.cut p.1).1, rest) := by simp only [gcut, hcutr]; rfl
        rw [← this]; exact hgc
      have e2 : (((pre ++ [p]).length : Nat) : Int) = (pre.length : Int) + 1 := by simp
      have ih := tc_loop b l hm hr rest (pre ++ [p]) (t.cut p.1).1 (by simp [h]) hgc' (fun u hu => Tn.fit_cut p.1 t u (hf t rfl) hu)
      rw [e2] at ih
      rw [← ih]
      have sb : iSub .i64 (iSub .i64 (l.length : Int) 1) (pre.length : Int) = (rest.length : Int) := by
        have := sub2 l.length pre.length 1 (by omega) (by omega)
        rw [show ((1 : Nat) : Int) = 1 from rfl] at this
        rw [this]; congr 1; omega
      have gc := gc97 b (callX (cfg b) An) (t.cut p.1).1 l ((pre.length : Int) + 1)
      generalize pre.length = n at *
      generalize (t.cut p.1).1 = T at *
      simp only [tcS] at gc
      rw [loopX_eq]
      simp [tcS, p11_l0, hl, hi, cc, lc, sb, ha, gc]
set_option maxHeartbeats 4000000 in
theorem treeCuts_fn (b : Bool) (o : Option (List ActL)) (k : Option (List UInt8)) : fnX (cfg b) An 11 [.c (actsC o), .c (pV k)] [] = some (.c (.bool true), []) := by
  rw [fnX_eq, p11_eq]
  have c0 := awake05_call b
  have gc := grow_call b 60 (by decide) o
  have hok := grown_ok 60 o
  have hlaw := grown_law 60 o
  generalize grown 60 o = g at *
  obtain ⟨t, l⟩ := g
  have hlv := hlaw.leaves
  have hris := hlaw.rise
  have hsz := hok.sz
  have hft := hok.fit
  have hl60 := hok.len
  simp only at hlv hris hsz hft gc hl60
  have n60 : ((60 : Nat) : Int) = 60 := rfl
  rw [n60] at gc
  have e := tc_loop b l (by omega) hris l [] t rfl hlaw hft
  simp only [tcS, List.length_nil, Int.natCast_zero, Int.ofNat_zero] at e
  have rc := Root_call b none
  have ec := empty_call b
  have hdl : (dI (shaW [])).length = 32 := by simp [dI, shaW_len]
  have hho : Tn.hasho none = shaW [] := rfl
  rw [hho] at rc
  have hll : Tn.szo t = l.length := by rw [← leaveso_len, hlv]
  have fc := find_call b l k (by omega)
  by_cases h1 : 0 < (pB k).length
  · have h1I : (0 : Int) < ((pB k).length : Int) := by omega
    by_cases h2 : (pB k).length ≤ 96
    · have h2I : ((pB k).length : Int) ≤ 96 := by omega
      by_cases h3 : findZ (pB k) l < 0
      · have hnk := findZ_neg.1 h3
        have hkne : pB k ≠ [] := by intro h; rw [h] at h1; simp at h1
        have hpk := pV_pB h1
        have pc := Put_call b (pB k) none hkne h2 (by simp [pB]) t (by omega)
        rw [← hpk] at pc
        have hgp := hlaw.put (pB k) none
        obtain ⟨q1, q2⟩ := putP_new (pB k) none l hnk
        have hplv : Tn.leaveso (some (Tn.puto (pB k) none t)) = putP (pB k) none l := hgp.leaves
        have hpsz : Tn.szo (some (Tn.puto (pB k) none t)) = l.length + 1 := by rw [← leaveso_len, hplv, q1]
        have hpf : (Tn.puto (pB k) none t).fit := (hok.put (k := pB k) (v := none) (by omega) (by simp [pB])).fit _ rfl
        have cc := Cut_call b (pB k) (some (Tn.puto (pB k) none t)) (by rw [hpsz]; omega)
        rw [← hpk] at cc
        have lc := Len_call b (some (Tn.puto (pB k) none t)) (by rw [hpsz]; omega)
        rw [hpsz] at lc
        have hgc := hgp.cut (pB k)
        generalize Tn.puto (pB k) none t = u at *
        have hlu : u.leaves = putP (pB k) none l := hplv
        obtain ⟨k1, k2⟩ := Tn.leaves_cut (pB k) u (by rw [hlu]; exact hris.put)
        have hco : Tn.cuto (pB k) (some u) = u.cut (pB k) := rfl
        rw [hlu, cut_put, Tn.cutP_of _ _ hnk] at k1
        rw [hlu, q2] at k2
        rw [hco, k2] at cc
        have hcf : ∀ w, (u.cut (pB k)).1 = some w → w.fit := fun w hw => Tn.fit_cut _ u w hpf hw
        have ac := All_call b (u.cut (pB k)).1 hcf (by rw [← leaveso_len, k1]; omega)
        rw [k1] at ac
        have sp := samePairs_call b l l (by omega) (Same.refl l)
        have a1 := idx_add l.length (by omega)
        have e1 : (((l.length + 1 : Nat) : Int)) = (l.length : Int) + 1 := by simp
        rw [e1] at lc
        generalize (u.cut (pB k)).1 = w at *
        generalize shaW [] = sh at *
        have pcn : pV none = CV.nilsl := rfl
        rw [pcn] at pc
        simp [p11, c0, gc, h1, h1I, h2, h2I, fc, h3, pc, cc, ac, sp, lc, a1, e, rc, ec, be41, hdl]
      · generalize shaW [] = sh at *
        simp [p11, c0, gc, h1, h1I, h2, h2I, fc, h3, e, rc, ec, be41, hdl]
    · have h2I : ¬ ((pB k).length : Int) ≤ 96 := by omega
      generalize shaW [] = sh at *
      simp [p11, c0, gc, h1, h1I, h2, h2I, e, rc, ec, be41, hdl]
  · have h1I : ¬ (0 : Int) < ((pB k).length : Int) := by omega
    have h0 : pB k = [] := List.length_eq_zero_iff.1 (by omega)
    generalize shaW [] = sh at *
    simp [p11, c0, gc, h0, e, rc, ec, be41, hdl]
end Go.Fm

