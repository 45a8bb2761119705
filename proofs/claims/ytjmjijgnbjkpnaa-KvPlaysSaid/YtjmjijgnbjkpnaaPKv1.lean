/-
  A part of the proof: PKv1.
-/
import Derived.Test.YtjmjijgnbjkpnaaPRef1
import Derived.Test.YtjmjijgnbjkpnaaPBase2
import Derived.Test.YtjmjijgnbjkpnaaDKv
import Derived.Test.YtjmjijgnbjkpnaaDRef
set_option linter.all false
set_option autoImplicit true
/-
  kv: where a key stands.
-/
set_option autoImplicit false
set_option maxRecDepth 100000
set_option linter.unusedVariables false
set_option linter.unusedSimpArgs false
namespace Go.Fm
open Go Go.Proofs
theorem cmp_fn (b : Bool) (p : Pr) (k : List UInt8) : fnX (cfg b) An 44 [.c (prC p), .c (.sl 1 (bytesAV k))] [] = some (.c (.int .i64 (cmpZ p.1 k)), []) := by
  rw [fnX_eq, p44_eq]
  have cc := compare_call b p.1 k
  simp [p44, cc, gp_k, op_k, csz_prC, cag_prC]
theorem cmp_call (b : Bool) (p : Pr) (k : List UInt8) (H : Heap) : callX (cfg b) An 44 [.c (prC p), .c (.sl 1 (bytesAV k))] H = some (.c (.int .i64 (cmpZ p.1 k)), H) := callX_pure (cmp_fn b p k) rfl rfl (prim_none (by decide)) H
def posK (k : List UInt8) (l : List Pr) : Nat := (l.takeWhile (ltk k)).length
theorem posK_le (k : List UInt8) (l : List Pr) : posK k l ≤ l.length := (List.takeWhile_sublist _).length_le
theorem posK_at (k : List UInt8) : ∀ {l : List Pr}, Rise l → ∀ i, i < l.length → ltk k (l.getD i default) = decide (i < posK k l)
  | [], _, i, h => by simp at h
  | p :: l, hr, i, h => by
    have hr' : Rise l := (List.pairwise_cons.1 hr).2
    have hall := (List.pairwise_cons.1 hr).1
    unfold posK
    by_cases hp : ltk k p = true
    · rw [List.takeWhile_cons_of_pos hp]
      cases i with
      | zero => simp [hp]
      | succ i =>
        have := posK_at k hr' i (by simpa using h)
        simp only [List.getD_cons_succ, List.length_cons, this]
        unfold posK
        by_cases hi : i < (l.takeWhile (ltk k)).length
        · simp [hi]
        · simp [hi]
    · rw [List.takeWhile_cons_of_neg hp]
      have hp' : ltk k p = false := by simpa using hp
      cases i with
      | zero => simp [hp']
      | succ i =>
        have hi : i < l.length := by simpa using h
        have hm : l.getD i default ∈ l := by rw [List.getD_eq_getElem?_getD, List.getElem?_eq_getElem hi]; exact List.getElem_mem _
        simp only [List.getD_cons_succ, List.length_nil, Nat.not_lt_zero, decide_false]
        have h1 := hall _ hm
        unfold ltk at hp' ⊢
        cases hc : Op.bytesLess (l.getD i default).1 k with
        | false => rfl
        | true => rw [bl_trans h1 hc] at hp'; cases hp'
def seS (l : List Pr) (k : List UInt8) (i j : Int) : List AV := [.os 0, .c (.sl 1 (bytesAV k)), .c (.fn 44), .c (.int .i64 (l.length : Int)), .c (.int .i64 i), .c (.int .i64 j)]
def seH (l : List Pr) : Heap := [.row 59 2 (l.map prC)]
theorem mid_eq (n : Nat) (h : n < 4000000) : IntKind.i64.wrap (iShr .u64 (IntKind.u64.wrap (n : Int)) 1) = ((n / 2 : Nat) : Int) := by
  rw [u64_small (by omega) (by omega)]
  unfold iShr
  have e : (2 : Int) ^ (min (1 : Int).toNat IntKind.u64.bits) = 2 := by decide
  rw [e, Int.fdiv_eq_ediv_of_nonneg _ (by decide)]
  have : ((n : Int)) / 2 = ((n / 2 : Nat) : Int) := by omega
  rw [this]
  exact i64_small (by omega) (by omega)
theorem se_step (b : Bool) (l : List Pr) (k : List UInt8) (hm : l.length ≤ 1000000) (hr : Rise l) (i j : Nat) (hij : i < j) (hj : j ≤ l.length) :
    loopX 1 (p43_l0 b (callX (cfg b) An) 1) (seS l k i j) (seH l) =
      if (i + j) / 2 < posK k l then loopX 1 (p43_l0 b (callX (cfg b) An) 1) (seS l k (((i + j) / 2 + 1 : Nat) : Int) j) (seH l) else loopX 1 (p43_l0 b (callX (cfg b) An) 1) (seS l k i (((i + j) / 2 : Nat) : Int)) (seH l) := by
  obtain ⟨h, hh⟩ : ∃ h, h = (i + j) / 2 := ⟨_, rfl⟩
  have hlt : h < l.length := by omega
  obtain ⟨s, hs⟩ : ∃ s, s = i + j := ⟨_, rfl⟩
  have e1 : iAdd .i64 (i : Int) (j : Int) = (s : Int) := by unfold iAdd; rw [i64_small (by omega) (by omega)]; omega
  have e2 := mid_eq s (by omega)
  rw [hs, ← hh] at e2
  rw [← hs] at e2
  have e3 : iAdd .i64 (h : Int) 1 = ((h + 1 : Nat) : Int) := by unfold iAdd; rw [i64_small (by omega) (by omega)]; omega
  have hn : nthC (l.map prC) h = prC (l.getD h default) := nthC_map default hlt
  have hat := posK_at k hr h hlt
  have cc := cmp_call b (l.getD h default) k
  have hlt' := cmpZ_lt (l.getD h default).1 k
  have hijI : (i : Int) < (j : Int) := by omega
  have hhI : (h : Int) < (l.length : Int) := by omega
  unfold ltk at hat
  rw [hat] at hlt'
  rw [← hh, loopX_eq]
  generalize l.getD h default = q at *
  by_cases hp : h < posK k l
  · rw [if_pos hp]
    have hc : cmpZ q.1 k < 0 := by simpa [hp] using hlt'
    simp only [seS, seH]
    simp [p43_l0, hijI, e1, e2, e3, hlt, hhI, hn, csz_prC, cag_prC, cc, hc]
  · rw [if_neg hp]
    have hc : ¬ cmpZ q.1 k < 0 := by simpa [hp] using hlt'
    simp only [seS, seH]
    simp [p43_l0, hijI, e1, e2, e3, hlt, hhI, hn, csz_prC, cag_prC, cc, hc]
theorem se_loop (b : Bool) (l : List Pr) (k : List UInt8) (hm : l.length ≤ 1000000) (hr : Rise l) : ∀ (n i j : Nat), j - i ≤ n → i ≤ posK k l → posK k l ≤ j → j ≤ l.length →
    loopX 1 (p43_l0 b (callX (cfg b) An) 1) (seS l k i j) (seH l) = some (.exit 0 [.os 0, .c (.sl 1 (bytesAV k)), .c (.fn 44), .c (.int .i64 (l.length : Int)), .c (.int .i64 (posK k l : Int))], seH l)
  | n, i, j, hn, h1, h2, h3 => by
    by_cases hij : i < j
    · rw [se_step b l k hm hr i j hij h3]
      cases n with
      | zero => omega
      | succ n =>
        by_cases hp : (i + j) / 2 < posK k l
        · rw [if_pos hp]
          exact se_loop b l k hm hr n ((i + j) / 2 + 1) j (by omega) (by omega) h2 h3
        · rw [if_neg hp]
          exact se_loop b l k hm hr n i ((i + j) / 2) (by omega) h1 (by omega) (by omega)
    · have : i = posK k l := by omega
      have hj : j = posK k l := by omega
      subst this
      rw [hj]
      rw [loopX_eq]
      simp only [seS, seH]
      simp [p43_l0]
/-- Does a key stand where it would? -/
def isK (k : List UInt8) (l : List Pr) : Bool := decide (posK k l < l.length) && ((l.getD (posK k l) default).1 == k)
theorem cmpZ_eq (x y : List UInt8) : (cmpZ x y == 0) = (x == y) := by
  unfold cmpZ
  by_cases h1 : Op.bytesLess x y = true
  · have hne : x ≠ y := bl_ne h1
    simp [h1, hne]
  · by_cases h2 : x = y
    · subst h2; simp [h1]
    · simp [h1, h2]
theorem search_fn (b : Bool) (l : List Pr) (k : List UInt8) (hm : l.length ≤ 1000000) (hr : Rise l) :
    fnX (cfg b) An 43 [.os 0, .c (.sl 1 (bytesAV k)), .c (.fn 44)] (seH l) = some (.tup [.c (.int .i64 (posK k l : Int)), .c (.bool (isK k l))], seH l) := by
  rw [fnX_eq, p43_eq]
  have lp := se_loop b l k hm hr l.length 0 l.length (by omega) (by omega) (posK_le k l) (Nat.le_refl _)
  have z0 : ((0 : Nat) : Int) = 0 := rfl
  rw [z0] at lp
  have hcz := cmpZ_eq (l.getD (posK k l) default).1 k
  unfold isK
  by_cases h : posK k l < l.length
  · have hI : (posK k l : Int) < (l.length : Int) := by omega
    have hn : nthC (l.map prC) (posK k l) = prC (l.getD (posK k l) default) := nthC_map default h
    have cc := cmp_call b (l.getD (posK k l) default) k
    generalize l.getD (posK k l) default = q at *
    simp only [seS, seH] at lp ⊢
    simp [p43, lp, h, hI, hn, cc, csz_prC, cag_prC, hcz]
  · have hI : ¬ (posK k l : Int) < (l.length : Int) := by omega
    simp only [seS, seH] at lp ⊢
    simp [p43, lp, h, hI]
theorem search_nil (b : Bool) (k : List UInt8) : fnX (cfg b) An 43 [.c .nilsl, .c (.sl 1 (bytesAV k)), .c (.fn 44)] [] = some (.tup [.c (.int .i64 0), .c (.bool false)], []) := by
  rw [fnX_eq, p43_eq]
  have lp : loopX 0 (p43_l0 b (callX (cfg b) An) 0) [.c .nilsl, .c (.sl 1 (bytesAV k)), .c (.fn 44), .c (.int .i64 0), .c (.int .i64 0), .c (.int .i64 0)] [] = some (.exit 0 [.c .nilsl, .c (.sl 1 (bytesAV k)), .c (.fn 44), .c (.int .i64 0), .c (.int .i64 0)], []) := by
    rw [loopX_eq]
    simp [p43_l0]
  simp [p43, lp]
theorem v43 {b : Bool} {H : Heap} {vs : List AV} : callX (cfg b) An 43 vs H = cvw (fnX (cfg b) An 43) (handCs (cfg b) true H vs) := callX_v (prim_none (by decide))
theorem frz82 {b : Bool} : (cfg b).frz 82 = false := rfl
theorem frz59 {b : Bool} : (cfg b).frz 59 = false := rfl
/-- A store. -/
def kvE : Heap := [.var 82 (.c (.agg [.nilsl]))]
def kvH (l : List Pr) : Heap := [.var 82 (.agg [.os 1]), .row 59 2 (l.map prC)]
theorem kfind_fn (b : Bool) (l : List Pr) (k : List UInt8) (hm : l.length ≤ 1000000) (hr : Rise l) :
    fnX (cfg b) An 36 [.ov 0 [] 0, .c (.sl 1 (bytesAV k))] (kvH l) = some (.tup [.c (.int .i64 (posK k l : Int)), .c (.bool (isK k l))], kvH l) := by
  rw [fnX_eq, p36_eq]
  have se := search_fn b l k hm hr
  simp only [seH, kvH] at se ⊢
  simp [p36, v43, se, frz82]
theorem kfind_nil (b : Bool) (k : List UInt8) : fnX (cfg b) An 36 [.ov 0 [] 0, .c (.sl 1 (bytesAV k))] kvE = some (.tup [.c (.int .i64 0), .c (.bool false)], kvE) := by
  rw [fnX_eq, p36_eq]
  have se := search_nil b k
  simp only [kvE] at se ⊢
  simp [p36, v43, se, frz82]
end Go.Fm
