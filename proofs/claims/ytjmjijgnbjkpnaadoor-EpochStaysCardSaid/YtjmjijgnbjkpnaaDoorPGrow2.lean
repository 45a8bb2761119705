/-
  A part of the proof: PGrow2.
-/
import Derived.Test.YtjmjijgnbjkpnaaDoorPGrow1
set_option linter.all false
set_option autoImplicit true
/-
  PutPair.
-/
set_option maxRecDepth 100000
set_option linter.unusedVariables false
set_option linter.unusedSimpArgs false
namespace Go.Fm
open Go Go.Proofs

/-! CF -/
section
variable (b : Bool) (cf : CallFn)
/-- The state of the loop. -/
def ppS (l : List Pr) (k : List UInt8) (v : Option (List UInt8)) (out : AV) (i : Int) : List AV := [.c (pairsC l), .c (.sl 1 (bytesAV k)), .c (pV v), out, .c (.int .i64 i)]
theorem getD_app {α : Type} [Inhabited α] (pre rest : List α) (p : α) : (pre ++ p :: rest).getD pre.length default = p := by simp [List.getD_eq_getElem?_getD]
theorem pp_step (l : List Pr) (k : List UInt8) (v : Option (List UInt8)) (pre rest : List Pr) (p : Pr) (h : l = pre ++ p :: rest) (hm : l.length ≤ 1000000) (hlt : Op.bytesLess p.1 k = true) :
    loopX 0 (p78_l0 b cf 0) (ppS l k v (acA pre) (pre.length : Int)) (acH 97 2 prC pre) = loopX 0 (p78_l0 b cf 0) (ppS l k v (acA (pre ++ [p])) ((pre.length : Int) + 1)) (acH 97 2 prC (pre ++ [p])) := by
  have hl : pre.length < l.length := by subst h; simp
  have hi := mIdxS_pairsC l pre.length hl
  have hg : l.getD pre.length default = p := by rw [h]; exact getD_app pre rest p
  rw [hg] at hi
  have ha := idx_add pre.length (by omega)
  have hx := big_max (n := pre.length + 1) (by omega)
  have hx1 : (pre.length + 1) * 48 ≤ 140737488355328 := by omega
  cases pre with
  | nil =>
    simp only [List.length_nil, Int.natCast_zero, Int.ofNat_zero] at hl hi ha hx hx1
    rw [loopX_eq]
    have hl0 : 0 < l.length := hl
    have e1 := loopX_gc (k := 0) (step := p78_l0 b cf 0) (s := ppS l k v (.os 1) 1) (H := [.row 97 2 [prC p], .row 97 2 [prC p]]) (s1 := ppS l k v (.os 0) 1) (H1 := [.row 97 2 [prC p]]) (by simp [ppS]) (by simp [ppS])
    simp only [ppS] at e1
    simp [ppS, acA, acH, p78_l0, hl0, hi, BA_toList, hlt, ha, hx, e1]
  | cons q pre =>
    rw [loopX_eq]
    have e1 := loopX_gc (k := 0) (step := p78_l0 b cf 0) (s := ppS l k v (.os 2) (((q :: pre).length : Int) + 1)) (H := [.dead, .row 97 2 [prC p], .row 97 2 (prC q :: (pre.map prC ++ [prC p]))]) (s1 := ppS l k v (.os 0) (((q :: pre).length : Int) + 1)) (H1 := [.row 97 2 (prC q :: (pre.map prC ++ [prC p]))]) (by simp [ppS]) (by simp [ppS])
    simp only [ppS] at e1
    obtain ⟨n, hn⟩ : ∃ n, n = (q :: pre).length := ⟨_, rfl⟩
    have hn2 : pre.length + 1 = n := by rw [hn]; rfl
    rw [← hn] at hl hi ha hx hx1 e1 ⊢
    have h1m : 1 ≤ maxLen := big_max (by decide)
    simp [ppS, acA, acH, p78_l0, hl, hi, BA_toList, hlt, ha, hx, hx1, hn2, e1, h1m]

def ltk (k : List UInt8) (p : Pr) : Bool := Op.bytesLess p.1 k
theorem pp_exit (l : List Pr) (k : List UInt8) (v : Option (List UInt8)) (pre rest : List Pr) (h : l = pre ++ rest) (hlt : ∀ p r, rest = p :: r → Op.bytesLess p.1 k = false) :
    loopX 0 (p78_l0 b cf 0) (ppS l k v (acA pre) (pre.length : Int)) (acH 97 2 prC pre) = some (.exit 0 (ppS l k v (acA pre) (pre.length : Int)), acH 97 2 prC pre) := by
  cases rest with
  | nil =>
    rw [List.append_nil] at h
    rw [h, loopX_eq]
    cases pre with
    | nil => simp [ppS, acA, acH, p78_l0]
    | cons q pre => simp [ppS, acA, acH, p78_l0]
  | cons p rest =>
    have hf := hlt p rest rfl
    have hl : pre.length < l.length := by subst h; simp
    have hi := mIdxS_pairsC l pre.length hl
    have hg : l.getD pre.length default = p := by rw [h]; exact getD_app pre rest p
    rw [hg] at hi
    rw [loopX_eq]
    cases pre with
    | nil =>
      simp only [List.length_nil, Int.natCast_zero, Int.ofNat_zero] at hl hi
      simp [ppS, acA, acH, p78_l0, hl, hi, BA_toList, hf]
    | cons q pre =>
      obtain ⟨n, hn⟩ : ∃ n, n = (q :: pre).length := ⟨_, rfl⟩
      rw [← hn] at hl hi ⊢
      simp [ppS, acA, acH, p78_l0, hl, hi, BA_toList, hf]
theorem pp_loop (l : List Pr) (k : List UInt8) (v : Option (List UInt8)) (hm : l.length ≤ 1000000) : ∀ (rest pre : List Pr), l = pre ++ rest →
    loopX 0 (p78_l0 b cf 0) (ppS l k v (acA pre) (pre.length : Int)) (acH 97 2 prC pre) =
      some (.exit 0 (ppS l k v (acA (pre ++ rest.takeWhile (ltk k))) ((pre ++ rest.takeWhile (ltk k)).length : Int)), acH 97 2 prC (pre ++ rest.takeWhile (ltk k)))
  | [], pre, h => by
    rw [pp_exit b cf l k v pre [] h (fun p r e => by cases e)]
    simp
  | p :: rest, pre, h => by
    by_cases hp : Op.bytesLess p.1 k = true
    · rw [pp_step b cf l k v pre rest p h hm hp]
      have ih := pp_loop l k v hm rest (pre ++ [p]) (by simp [h])
      have e : (((pre ++ [p]).length : Nat) : Int) = (pre.length : Int) + 1 := by simp
      rw [e] at ih
      rw [ih]
      have e2 : List.takeWhile (ltk k) (p :: rest) = p :: rest.takeWhile (ltk k) := by simp [List.takeWhile, ltk, hp]
      rw [e2]
      simp
    · have hp' : Op.bytesLess p.1 k = false := by simpa using hp
      rw [pp_exit b cf l k v pre (p :: rest) h (fun q r e => by simp only [List.cons.injEq] at e; rw [← e.1]; exact hp')]
      have e2 : List.takeWhile (ltk k) (p :: rest) = [] := by simp [List.takeWhile, ltk, hp']
      rw [e2]
      simp
end
/-- Without the pair that is put. -/
def tailP (k : List UInt8) : List Pr → List Pr
  | [] => []
  | p :: r => if p.1 = k then r else p :: r
theorem putP_eq (k : List UInt8) (v : Option (List UInt8)) : ∀ l : List Pr, putP k v l = l.takeWhile (ltk k) ++ (k, v) :: tailP k (l.dropWhile (ltk k))
  | [] => rfl
  | p :: r => by
    unfold putP
    by_cases hp : Op.bytesLess p.1 k = true
    · have e1 : List.takeWhile (ltk k) (p :: r) = p :: r.takeWhile (ltk k) := by simp [List.takeWhile, ltk, hp]
      have e2 : List.dropWhile (ltk k) (p :: r) = r.dropWhile (ltk k) := by simp [List.dropWhile, ltk, hp]
      rw [if_pos hp, e1, e2, putP_eq k v r]; rfl
    · have hp' : Op.bytesLess p.1 k = false := by simpa using hp
      have e1 : List.takeWhile (ltk k) (p :: r) = [] := by simp [List.takeWhile, ltk, hp']
      have e2 : List.dropWhile (ltk k) (p :: r) = p :: r := by simp [List.dropWhile, ltk, hp']
      rw [if_neg hp, e1, e2]
      by_cases hk : p.1 = k <;> simp [tailP, hk]
def restC (l : List Pr) (i : Nat) : CV := if l = [] then .nilsl else .sl 2 ((l.drop i).map prC)
theorem slice_pairs (l : List Pr) (i : Nat) (h : i ≤ l.length) (H : Heap) : mSliceSl 2 (.c (pairsC l)) (some (.c (.int .i64 (i : Int)))) none H = some (.c (restC l i), H) := by
  unfold restC
  cases l with
  | nil =>
    simp only [List.length_nil, Nat.le_zero_eq] at h
    subst h
    simp [pairsC, mSliceSl_nil, natOf_s, natOf_none]
  | cons p r =>
    have e : pairsC (p :: r) = .sl 2 ((p :: r).map prC) := rfl
    rw [e, mSliceSl_sl]
    have h3 : (((p :: r).map prC).drop i).take (((p :: r).map prC).length - i) = ((p :: r).drop i).map prC := by
      rw [List.map_drop]; exact List.take_of_length_le (by simp)
    have h4 : (i : Int) ≤ (((p :: r).map prC).length : Int) := by simp at h ⊢; omega
    generalize (p :: r).map prC = M at *
    simp [natOf_s, natOf_none, cutE_s, cutE2_s, h4, h3]
theorem elems_slice (l : List Pr) (i : Nat) (H : Heap) : elemsOf H 2 (.c (restC l i)) = some ((l.drop i).map prC) := by
  unfold restC
  cases l with
  | nil => simp
  | cons p r => simp
set_option maxHeartbeats 4000000 in
theorem putPair_fn (b : Bool) (l : List Pr) (k : List UInt8) (v : Option (List UInt8)) (hm : l.length ≤ 1000000) :
    fnX (cfg b) An 78 [.c (pairsC l), .c (.sl 1 (bytesAV k)), .c (pV v)] [] = some (.c (pairsC (putP k v l)), []) := by
  rw [fnX_eq, p78_eq]
  have e := pp_loop b (callX (cfg b) An) l k v hm l [] rfl
  rw [List.nil_append] at e
  have hsplit : l = l.takeWhile (ltk k) ++ l.dropWhile (ltk k) := (List.takeWhile_append_dropWhile).symm
  have hdw : ∀ p r, l.dropWhile (ltk k) = p :: r → Op.bytesLess p.1 k = false := fun p r h => by
    have := List.head?_dropWhile_not (ltk k) l
    rw [h] at this
    simpa [ltk] using this
  rw [putP_eq]
  generalize l.takeWhile (ltk k) = T at *
  generalize l.dropWhile (ltk k) = D at *
  have hT : T.length ≤ l.length := by rw [hsplit]; simp
  have hlen : l.length = T.length + D.length := by rw [hsplit]; simp
  have hout : ∀ q : List Pr, pairsC (T ++ (k, v) :: q) = .sl 2 (T.map prC ++ pairC k v :: q.map prC) := fun q => by
    rw [pairsC_ne (by simp)]; simp [prC]
  rw [hout]
  have sl := slice_pairs l
  have es := elems_slice l
  have h1m : 1 ≤ maxLen := big_max (by decide)
  have hx := big_max (n := T.length + 1) (by omega)
  have hx1 : (T.length + 1) * 48 ≤ 140737488355328 := by omega
  cases D with
  | nil =>
    have hl2 : l.length = T.length := by simpa using hlen
    have s1 := sl T.length (by omega)
    have d1 : l.drop T.length = [] := List.drop_of_length_le (by omega)
    cases T with
    | nil =>
      simp only [List.length_nil, Int.natCast_zero, Int.ofNat_zero, ppS, acA, acH] at e hl2 s1 d1
      have es1 := es 0
      rw [d1] at es1
      simp [p78, e, tailP, hl2, s1, es1, h1m, pairC]
    | cons q T =>
      simp only [ppS, acA, acH, List.length_nil, Int.natCast_zero, Int.ofNat_zero] at e
      have es1 := es (q :: T).length
      rw [d1] at es1
      obtain ⟨n, hn⟩ : ∃ n, n = (q :: T).length := ⟨_, rfl⟩
      have hn2 : T.length + 1 = n := by rw [hn]; rfl
      have hx2 := big_max (n := T.length + 1 + 1) (by rw [hn2, hn]; exact Nat.le_trans (show (q :: T).length + 1 ≤ 1000001 by omega) (by decide))
      have hx3 : (T.length + 1 + 1) * 48 ≤ 140737488355328 := by rw [hn2, hn]; omega
      rw [← hn] at e hl2 s1 es1
      simp [p78, e, tailP, hl2, s1, es1, h1m, hx2, hx3, pairC]
  | cons p r =>
    have hp := hdw p r rfl
    have hl2 : T.length < l.length := by rw [hlen]; simp
    have hi := mIdxS_pairsC l T.length hl2
    have hg : l.getD T.length default = p := by rw [hsplit]; exact getD_app T r p
    rw [hg] at hi
    have ha := idx_add T.length (by omega)
    have d0 : l.drop T.length = p :: r := by rw [hsplit, List.drop_left]
    have d1 : l.drop (T.length + 1) = r := by rw [← List.drop_drop, d0]; rfl
    have hr : r.length + T.length + 1 = l.length := by rw [hlen]; simp; omega
    have hx4 := big_max (n := T.length + 1 + r.length) (by omega)
    have hx5 : (T.length + 1 + r.length) * 48 ≤ 140737488355328 := by omega
    have hx6 := big_max (n := T.length + 1 + (r.length + 1)) (by omega)
    have hx7 : (T.length + 1 + (r.length + 1)) * 48 ≤ 140737488355328 := by omega
    by_cases hk : p.1 = k
    · have hkb : (p.1 == k) = true := by simpa using hk
      have s1 := sl (T.length + 1) (by omega)
      have es1 := es (T.length + 1)
      rw [d1] at es1
      have et : tailP k (p :: r) = r := by simp [tailP, hk]
      rw [et]
      have e2 : ((T.length + 1 : Nat) : Int) = (T.length : Int) + 1 := by simp
      rw [e2] at s1
      cases T with
      | nil =>
        simp only [List.length_nil, Int.natCast_zero, Int.ofNat_zero, ppS, acA, acH, Nat.zero_add, Int.zero_add] at *
        simp [p78, e, hl2, hi, BA_toList, hk, ha, s1, es1, h1m, hx4, hx5, pairC]
      | cons q T =>
        simp only [ppS, acA, acH, List.length_nil, Int.natCast_zero, Int.ofNat_zero] at e
        obtain ⟨n, hn⟩ : ∃ n, n = (q :: T).length := ⟨_, rfl⟩
        have hn2 : T.length + 1 = n := by rw [hn]; rfl
        rw [← hn] at e hl2 hi ha s1 es1 hx hx1 hx4 hx5
        simp [p78, e, hl2, hi, BA_toList, hk, ha, s1, es1, h1m, hn2, hx, hx1, hx4, hx5, pairC]
    · have hkb : (p.1 == k) = false := by simpa using hk
      have s1 := sl T.length (by omega)
      have es1 := es T.length
      rw [d0] at es1
      have et : tailP k (p :: r) = p :: r := by simp [tailP, hk]
      rw [et]
      cases T with
      | nil =>
        simp only [List.length_nil, Int.natCast_zero, Int.ofNat_zero, ppS, acA, acH, Nat.zero_add, Int.zero_add] at *
        simp [p78, e, hl2, hi, BA_toList, hk, hkb, ha, s1, es1, h1m, hx6, hx7, pairC]
      | cons q T =>
        simp only [ppS, acA, acH, List.length_nil, Int.natCast_zero, Int.ofNat_zero] at e
        obtain ⟨n, hn⟩ : ∃ n, n = (q :: T).length := ⟨_, rfl⟩
        have hn2 : T.length + 1 = n := by rw [hn]; rfl
        rw [← hn] at e hl2 hi ha s1 es1 hx hx1 hx6 hx7
        simp [p78, e, hl2, hi, BA_toList, hk, hkb, ha, s1, es1, h1m, hn2, hx, hx1, hx6, hx7, pairC]
end Go.Fm

