/-
  A part of the proof: PGrow.
-/
import Derived.Test.YtjmjijgnbjkpnaaPBase
import Derived.Test.YtjmjijgnbjkpnaaDKv
import Derived.Test.YtjmjijgnbjkpnaaDRef
set_option linter.all false
set_option autoImplicit true
/-
  The laws' calls, and pairs: Act.Key, PutPair, CutPair.
-/
set_option autoImplicit false
set_option maxRecDepth 100000
set_option linter.unusedVariables false
set_option linter.unusedSimpArgs false
namespace Go.Fm
open Go Go.Proofs
theorem elemsOf_pV (H : Heap) (v : Option (List UInt8)) : elemsOf H 1 (.c (pV v)) = some (bytesAV (pB v)) := by cases v <;> simp [pV, pB, bytesAV]
attribute [simp] elemsOf_pV
theorem reachV_undef {d : Nat} {H : Heap} : reachV (d + 2) H AV.undef = [] := (rfl)
attribute [simp] reachV_undef
/-- A law's call. -/
structure ActL where
  kind : UInt8
  k : UInt8
  raw : Option (List UInt8)
  val : Option (List UInt8)
  deriving Inhabited
def ActL.cv (a : ActL) : CV := .agg [.int .u8 (a.kind.toNat : Int), .int .u8 (a.k.toNat : Int), pV a.raw, pV a.val]
def ActL.key (a : ActL) : List UInt8 := if 0 < (pB a.raw).length then pB a.raw else [107, byteOf (97 + (a.k.toNat : Int).tmod 26), byteOf (97 + IntKind.u8.wrap ((a.k.toNat : Int).tdiv 26))]
theorem ActL.key_ne (a : ActL) : a.key ≠ [] := by
  unfold ActL.key
  split
  · rename_i h; intro h2; rw [h2] at h; simp at h
  · simp
theorem iAdd_byte (x y : Int) : iAdd .u8 x y = ((byteOf (x + y)).toNat : Int) := by rw [← wrap_byte]; rfl
theorem pV_pB {v : Option (List UInt8)} (h : 0 < (pB v).length) : pV v = .sl 1 (bytesAV (pB v)) := by cases v <;> simp_all [pV, pB]
theorem key_fn (b : Bool) (a : ActL) : fnX (cfg b) An 15 [.c a.cv] [] = some (.c (.sl 1 (bytesAV a.key)), []) := by
  rw [fnX_eq, p15_eq]
  by_cases h : 0 < (pB a.raw).length
  · have e : a.key = pB a.raw := by simp [ActL.key, h]
    have e2 := pV_pB h
    rw [e, ← e2]
    simp [p15, ActL.cv, h]
  · have e : a.key = [107, byteOf (97 + (a.k.toNat : Int).tmod 26), byteOf (97 + IntKind.u8.wrap ((a.k.toNat : Int).tdiv 26))] := by simp only [ActL.key]; rw [if_neg h]
    rw [e]
    have e3 : bytesAV [107, byteOf (97 + (a.k.toNat : Int).tmod 26), byteOf (97 + IntKind.u8.wrap ((a.k.toNat : Int).tdiv 26))] = [.int .u8 107, .int .u8 ((byteOf (97 + (a.k.toNat : Int).tmod 26)).toNat : Int), .int .u8 ((byteOf (97 + IntKind.u8.wrap ((a.k.toNat : Int).tdiv 26))).toNat : Int)] := rfl
    rw [e3]
    simp [p15, ActL.cv, h, iAdd_byte]
theorem key_call (b : Bool) (a : ActL) (H : Heap) : callX (cfg b) An 15 [.c a.cv] H = some (.c (.sl 1 (bytesAV a.key)), H) := callX_pure (key_fn b a) rfl rfl (prim_none (by decide)) H
/-- Of a row of bytes the first ones. -/
def upto (n : Nat) (v : Option (List UInt8)) : Option (List UInt8) := v.map (List.take n)
theorem slice_pV (m : Nat) (v : Option (List UInt8)) (h : m ≤ (pB v).length) (H : Heap) : mSliceSl 1 (.c (pV v)) none (some (.c (.int .i64 (m : Int)))) H = some (.c (pV (upto m v)), H) := by
  cases v with
  | none =>
    simp only [pB, List.length_nil, Nat.le_zero_eq] at h
    subst h
    simp [upto, pV, mSliceSl_nil, natOf_s, natOf_none]
  | some bs =>
    simp only [pB] at h
    simp only [pV, upto, Option.map_some]
    rw [mSliceSl_sl]
    have : (bytesAV bs).take m = bytesAV (bs.take m) := by simp [bytesAV, List.map_take]
    simp [natOf_s, natOf_none, cutE_s, cutE2_s, h, this]
/-! ### Pairs -/
abbrev Pr := List UInt8 × Option (List UInt8)
def prC (p : Pr) : CV := pairC p.1 p.2
def pairsC : List Pr → CV
  | [] => .nilsl
  | l => .sl 2 (l.map prC)
theorem pairsC_ne {l : List Pr} (h : l ≠ []) : pairsC l = .sl 2 (l.map prC) := by cases l <;> simp_all [pairsC]
theorem csz_pairsC (l : List Pr) : CV.size (pairsC l) = 1 := by cases l <;> rfl
theorem cag_pairsC (l : List Pr) : CV.isAgg (pairsC l) = false := by cases l <;> rfl
theorem lenOf_pairsC (l : List Pr) (H : Heap) : lenOf H (.c (pairsC l)) = some l.length := by cases l <;> simp [pairsC]
theorem elemsOf_pairsC (l : List Pr) (H : Heap) : elemsOf H 2 (.c (pairsC l)) = some (l.map prC) := by cases l <;> simp [pairsC]
theorem mIdxS_pairsC (l : List Pr) (i : Nat) (h : i < l.length) (H : Heap) : mIdxS 2 (.c (pairsC l)) (.c (.int .i64 (i : Int))) H = some (.c (.ptr (prC (l.getD i default)) [] 0), H) := by
  have hne : l ≠ [] := by intro h2; rw [h2] at h; simp at h
  rw [pairsC_ne hne, mIdxS_s]
  rw [if_pos ⟨⟨by omega, by simp; omega⟩, rfl⟩]
  rw [Int.toNat_natCast, nthC_map default h]
attribute [simp] csz_pairsC cag_pairsC lenOf_pairsC elemsOf_pairsC
section
variable (p : Pr)
theorem gp_k : getC (prC p) [0] = some (.sl 1 (bytesAV p.1)) := by simp [prC, pairC]
theorem op_k : offC (prC p) [0] = some 0 := by simp [prC, pairC]
theorem gp_v : getC (prC p) [1] = some (pV p.2) := by simp [prC, pairC]
theorem op_v : offC (prC p) [1] = some 1 := by simp [prC, pairC]
theorem csz_prC : CV.size (prC p) = 2 := by simp [prC, pairC]
theorem cag_prC : CV.isAgg (prC p) = true := rfl
end
attribute [simp] gp_k op_k gp_v op_v csz_prC cag_prC
/-- An accumulator: nil, or a row of one's own. -/
def acA {α : Type} : List α → AV
  | [] => .c .nilsl
  | _ => .os 0
def acH {α : Type} (t : TypeId) (sz : Nat) (f : α → CV) : List α → Heap
  | [] => []
  | l => [.row t sz (l.map f)]
def putP (k : List UInt8) (v : Option (List UInt8)) : List Pr → List Pr
  | [] => [(k, v)]
  | p :: r => if Op.bytesLess p.1 k = true then p :: putP k v r else if p.1 = k then (k, v) :: r else (k, v) :: p :: r
def cutP (k : List UInt8) (l : List Pr) : List Pr := l.filter fun p => p.1 != k
end Go.Fm
/-
  PutPair.
-/
set_option autoImplicit false
set_option maxRecDepth 100000
set_option linter.unusedVariables false
set_option linter.unusedSimpArgs false
namespace Go.Fm
open Go Go.Proofs
/-! CF -/
section
variable (b : Bool) (cf : CallFn)
/-- The state of the loop. -/
def ppS (l : List Pr) (k : List UInt8) (v : Option (List UInt8)) (out : AV) (i : Int) : List AV := [.c (pairsC l), .c (.sl 1 (bytesAV k)), .c (pV v), out, .c (.int .i64 i)]
theorem getD_app {α : Type} [Inhabited α] (pre rest : List α) (p : α) : (pre ++ p :: rest).getD pre.length default = p := by simp [List.getD_eq_getElem?_getD]
theorem pp_step (l : List Pr) (k : List UInt8) (v : Option (List UInt8)) (pre rest : List Pr) (p : Pr) (h : l = pre ++ p :: rest) (hm : l.length ≤ 1000000) (hlt : Op.bytesLess p.1 k = true) :
    loopX 0 (p16_l0 b cf 0) (ppS l k v (acA pre) (pre.length : Int)) (acH 59 2 prC pre) = loopX 0 (p16_l0 b cf 0) (ppS l k v (acA (pre ++ [p])) ((pre.length : Int) + 1)) (acH 59 2 prC (pre ++ [p])) := by
  have hl : pre.length < l.length := by subst h; simp
  have hi := mIdxS_pairsC l pre.length hl
  have hg : l.getD pre.length default = p := by rw [h]; exact getD_app pre rest p
  rw [hg] at hi
  have ha := idx_add pre.length (by omega)
  have hx := big_max (n := pre.length + 1) (by omega)
  have hx1 : (pre.length + 1) * 48 ≤ 140737488355328 := by omega
  cases pre with
  | nil =>
    simp only [List.length_nil, Int.natCast_zero, Int.ofNat_zero] at hl hi ha hx hx1
    rw [loopX_eq]
    have hl0 : 0 < l.length := hl
    have e1 := loopX_gc (k := 0) (step := p16_l0 b cf 0) (s := ppS l k v (.os 1) 1) (H := [.row 59 2 [prC p], .row 59 2 [prC p]]) (s1 := ppS l k v (.os 0) 1) (H1 := [.row 59 2 [prC p]]) (by simp [ppS]) (by simp [ppS])
    simp only [ppS] at e1
    simp [ppS, acA, acH, p16_l0, hl0, hi, BA_toList, hlt, ha, hx, e1]
  | cons q pre =>
    rw [loopX_eq]
    have e1 := loopX_gc (k := 0) (step := p16_l0 b cf 0) (s := ppS l k v (.os 2) (((q :: pre).length : Int) + 1)) (H := [.dead, .row 59 2 [prC p], .row 59 2 (prC q :: (pre.map prC ++ [prC p]))]) (s1 := ppS l k v (.os 0) (((q :: pre).length : Int) + 1)) (H1 := [.row 59 2 (prC q :: (pre.map prC ++ [prC p]))]) (by simp [ppS]) (by simp [ppS])
    simp only [ppS] at e1
    obtain ⟨n, hn⟩ : ∃ n, n = (q :: pre).length := ⟨_, rfl⟩
    have hn2 : pre.length + 1 = n := by rw [hn]; rfl
    rw [← hn] at hl hi ha hx hx1 e1 ⊢
    have h1m : 1 ≤ maxLen := big_max (by decide)
    simp [ppS, acA, acH, p16_l0, hl, hi, BA_toList, hlt, ha, hx, hx1, hn2, e1, h1m]
def ltk (k : List UInt8) (p : Pr) : Bool := Op.bytesLess p.1 k
theorem pp_exit (l : List Pr) (k : List UInt8) (v : Option (List UInt8)) (pre rest : List Pr) (h : l = pre ++ rest) (hlt : ∀ p r, rest = p :: r → Op.bytesLess p.1 k = false) :
    loopX 0 (p16_l0 b cf 0) (ppS l k v (acA pre) (pre.length : Int)) (acH 59 2 prC pre) = some (.exit 0 (ppS l k v (acA pre) (pre.length : Int)), acH 59 2 prC pre) := by
  cases rest with
  | nil =>
    rw [List.append_nil] at h
    rw [h, loopX_eq]
    cases pre with
    | nil => simp [ppS, acA, acH, p16_l0]
    | cons q pre => simp [ppS, acA, acH, p16_l0]
  | cons p rest =>
    have hf := hlt p rest rfl
    have hl : pre.length < l.length := by subst h; simp
    have hi := mIdxS_pairsC l pre.length hl
    have hg : l.getD pre.length default = p := by rw [h]; exact getD_app pre rest p
    rw [hg] at hi
    rw [loopX_eq]
    cases pre with
    | nil =>
      simp only [List.length_nil, Int.natCast_zero, Int.ofNat_zero] at hl hi
      simp [ppS, acA, acH, p16_l0, hl, hi, BA_toList, hf]
    | cons q pre =>
      obtain ⟨n, hn⟩ : ∃ n, n = (q :: pre).length := ⟨_, rfl⟩
      rw [← hn] at hl hi ⊢
      simp [ppS, acA, acH, p16_l0, hl, hi, BA_toList, hf]
theorem pp_loop (l : List Pr) (k : List UInt8) (v : Option (List UInt8)) (hm : l.length ≤ 1000000) : ∀ (rest pre : List Pr), l = pre ++ rest →
    loopX 0 (p16_l0 b cf 0) (ppS l k v (acA pre) (pre.length : Int)) (acH 59 2 prC pre) =
      some (.exit 0 (ppS l k v (acA (pre ++ rest.takeWhile (ltk k))) ((pre ++ rest.takeWhile (ltk k)).length : Int)), acH 59 2 prC (pre ++ rest.takeWhile (ltk k)))
  | [], pre, h => by
    rw [pp_exit b cf l k v pre [] h (fun p r e => by cases e)]
    simp
  | p :: rest, pre, h => by
    by_cases hp : Op.bytesLess p.1 k = true
    · rw [pp_step b cf l k v pre rest p h hm hp]
      have ih := pp_loop l k v hm rest (pre ++ [p]) (by simp [h])
      have e : (((pre ++ [p]).length : Nat) : Int) = (pre.length : Int) + 1 := by simp
      rw [e] at ih
      rw [ih]
      have e2 : List.takeWhile (ltk k) (p :: rest) = p :: rest.takeWhile (ltk k) := by simp [List.takeWhile, ltk, hp]
      rw [e2]
      simp
    · have hp' : Op.bytesLess p.1 k = false := by simpa using hp
      rw [pp_exit b cf l k v pre (p :: rest) h (fun q r e => by simp only [List.cons.injEq] at e; rw [← e.1]; exact hp')]
      have e2 : List.takeWhile (ltk k) (p :: rest) = [] := by simp [List.takeWhile, ltk, hp']
      rw [e2]
      simp
end
/-- Without the pair that is put. -/
def tailP (k : List UInt8) : List Pr → List Pr
  | [] => []
  | p :: r => if p.1 = k then r else p :: r
theorem putP_eq (k : List UInt8) (v : Option (List UInt8)) : ∀ l : List Pr, putP k v l = l.takeWhile (ltk k) ++ (k, v) :: tailP k (l.dropWhile (ltk k))
  | [] => rfl
  | p :: r => by
    unfold putP
    by_cases hp : Op.bytesLess p.1 k = true
    · have e1 : List.takeWhile (ltk k) (p :: r) = p :: r.takeWhile (ltk k) := by simp [List.takeWhile, ltk, hp]
      have e2 : List.dropWhile (ltk k) (p :: r) = r.dropWhile (ltk k) := by simp [List.dropWhile, ltk, hp]
      rw [if_pos hp, e1, e2, putP_eq k v r]; rfl
    · have hp' : Op.bytesLess p.1 k = false := by simpa using hp
      have e1 : List.takeWhile (ltk k) (p :: r) = [] := by simp [List.takeWhile, ltk, hp']
      have e2 : List.dropWhile (ltk k) (p :: r) = p :: r := by simp [List.dropWhile, ltk, hp']
      rw [if_neg hp, e1, e2]
      by_cases hk : p.1 = k <;> simp [tailP, hk]
def restC (l : List Pr) (i : Nat) : CV := if l = [] then .nilsl else .sl 2 ((l.drop i).map prC)
theorem slice_pairs (l : List Pr) (i : Nat) (h : i ≤ l.length) (H : Heap) : mSliceSl 2 (.c (pairsC l)) (some (.c (.int .i64 (i : Int)))) none H = some (.c (restC l i), H) := by
  unfold restC
  cases l with
  | nil =>
    simp only [List.length_nil, Nat.le_zero_eq] at h
    subst h
    simp [pairsC, mSliceSl_nil, natOf_s, natOf_none]
  | cons p r =>
    have e : pairsC (p :: r) = .sl 2 ((p :: r).map prC) := rfl
    rw [e, mSliceSl_sl]
    have h3 : (((p :: r).map prC).drop i).take (((p :: r).map prC).length - i) = ((p :: r).drop i).map prC := by
      rw [List.map_drop]; exact List.take_of_length_le (by simp)
    have h4 : (i : Int) ≤ (((p :: r).map prC).length : Int) := by simp at h ⊢; omega
    generalize (p :: r).map prC = M at *
    simp [natOf_s, natOf_none, cutE_s, cutE2_s, h4, h3]
theorem elems_slice (l : List Pr) (i : Nat) (H : Heap) : elemsOf H 2 (.c (restC l i)) = some ((l.drop i).map prC) := by
  unfold restC
  cases l with
  | nil => simp
  | cons p r => simp
set_option maxHeartbeats 4000000 in
theorem putPair_fn (b : Bool) (l : List Pr) (k : List UInt8) (v : Option (List UInt8)) (hm : l.length ≤ 1000000) :
    fnX (cfg b) An 16 [.c (pairsC l), .c (.sl 1 (bytesAV k)), .c (pV v)] [] = some (.c (pairsC (putP k v l)), []) := by
  rw [fnX_eq, p16_eq]
  have e := pp_loop b (callX (cfg b) An) l k v hm l [] rfl
  rw [List.nil_append] at e
  have hsplit : l = l.takeWhile (ltk k) ++ l.dropWhile (ltk k) := (List.takeWhile_append_dropWhile).symm
  have hdw : ∀ p r, l.dropWhile (ltk k) = p :: r → Op.bytesLess p.1 k = false := fun p r h => by
    have := List.head?_dropWhile_not (ltk k) l
    rw [h] at this
    simpa [ltk] using this
  rw [putP_eq]
  generalize l.takeWhile (ltk k) = T at *
  generalize l.dropWhile (ltk k) = D at *
  have hT : T.length ≤ l.length := by rw [hsplit]; simp
  have hlen : l.length = T.length + D.length := by rw [hsplit]; simp
  have hout : ∀ q : List Pr, pairsC (T ++ (k, v) :: q) = .sl 2 (T.map prC ++ pairC k v :: q.map prC) := fun q => by
    rw [pairsC_ne (by simp)]; simp [prC]
  rw [hout]
  have sl := slice_pairs l
  have es := elems_slice l
  have h1m : 1 ≤ maxLen := big_max (by decide)
  have hx := big_max (n := T.length + 1) (by omega)
  have hx1 : (T.length + 1) * 48 ≤ 140737488355328 := by omega
  cases D with
  | nil =>
    have hl2 : l.length = T.length := by simpa using hlen
    have s1 := sl T.length (by omega)
    have d1 : l.drop T.length = [] := List.drop_of_length_le (by omega)
    cases T with
    | nil =>
      simp only [List.length_nil, Int.natCast_zero, Int.ofNat_zero, ppS, acA, acH] at e hl2 s1 d1
      have es1 := es 0
      rw [d1] at es1
      simp [p16, e, tailP, hl2, s1, es1, h1m, pairC]
    | cons q T =>
      simp only [ppS, acA, acH, List.length_nil, Int.natCast_zero, Int.ofNat_zero] at e
      have es1 := es (q :: T).length
      rw [d1] at es1
      obtain ⟨n, hn⟩ : ∃ n, n = (q :: T).length := ⟨_, rfl⟩
      have hn2 : T.length + 1 = n := by rw [hn]; rfl
      have hx2 := big_max (n := T.length + 1 + 1) (by rw [hn2, hn]; exact Nat.le_trans (show (q :: T).length + 1 ≤ 1000001 by omega) (by decide))
      have hx3 : (T.length + 1 + 1) * 48 ≤ 140737488355328 := by rw [hn2, hn]; omega
      rw [← hn] at e hl2 s1 es1
      simp [p16, e, tailP, hl2, s1, es1, h1m, hx2, hx3, pairC]
  | cons p r =>
    have hp := hdw p r rfl
    have hl2 : T.length < l.length := by rw [hlen]; simp
    have hi := mIdxS_pairsC l T.length hl2
    have hg : l.getD T.length default = p := by rw [hsplit]; exact getD_app T r p
    rw [hg] at hi
    have ha := idx_add T.length (by omega)
    have d0 : l.drop T.length = p :: r := by rw [hsplit, List.drop_left]
    have d1 : l.drop (T.length + 1) = r := by rw [← List.drop_drop, d0]; rfl
    have hr : r.length + T.length + 1 = l.length := by rw [hlen]; simp; omega
    have hx4 := big_max (n := T.length + 1 + r.length) (by omega)
    have hx5 : (T.length + 1 + r.length) * 48 ≤ 140737488355328 := by omega
    have hx6 := big_max (n := T.length + 1 + (r.length + 1)) (by omega)
    have hx7 : (T.length + 1 + (r.length + 1)) * 48 ≤ 140737488355328 := by omega
    by_cases hk : p.1 = k
    · have hkb : (p.1 == k) = true := by simpa using hk
      have s1 := sl (T.length + 1) (by omega)
      have es1 := es (T.length + 1)
      rw [d1] at es1
      have et : tailP k (p :: r) = r := by simp [tailP, hk]
      rw [et]
      have e2 : ((T.length + 1 : Nat) : Int) = (T.length : Int) + 1 := by simp
      rw [e2] at s1
      cases T with
      | nil =>
        simp only [List.length_nil, Int.natCast_zero, Int.ofNat_zero, ppS, acA, acH, Nat.zero_add, Int.zero_add] at *
        simp [p16, e, hl2, hi, BA_toList, hk, ha, s1, es1, h1m, hx4, hx5, pairC]
      | cons q T =>
        simp only [ppS, acA, acH, List.length_nil, Int.natCast_zero, Int.ofNat_zero] at e
        obtain ⟨n, hn⟩ : ∃ n, n = (q :: T).length := ⟨_, rfl⟩
        have hn2 : T.length + 1 = n := by rw [hn]; rfl
        rw [← hn] at e hl2 hi ha s1 es1 hx hx1 hx4 hx5
        simp [p16, e, hl2, hi, BA_toList, hk, ha, s1, es1, h1m, hn2, hx, hx1, hx4, hx5, pairC]
    · have hkb : (p.1 == k) = false := by simpa using hk
      have s1 := sl T.length (by omega)
      have es1 := es T.length
      rw [d0] at es1
      have et : tailP k (p :: r) = p :: r := by simp [tailP, hk]
      rw [et]
      cases T with
      | nil =>
        simp only [List.length_nil, Int.natCast_zero, Int.ofNat_zero, ppS, acA, acH, Nat.zero_add, Int.zero_add] at *
        simp [p16, e, hl2, hi, BA_toList, hk, hkb, ha, s1, es1, h1m, hx6, hx7, pairC]
      | cons q T =>
        simp only [ppS, acA, acH, List.length_nil, Int.natCast_zero, Int.ofNat_zero] at e
        obtain ⟨n, hn⟩ : ∃ n, n = (q :: T).length := ⟨_, rfl⟩
        have hn2 : T.length + 1 = n := by rw [hn]; rfl
        rw [← hn] at e hl2 hi ha s1 es1 hx hx1 hx6 hx7
        simp [p16, e, hl2, hi, BA_toList, hk, hkb, ha, s1, es1, h1m, hn2, hx, hx1, hx6, hx7, pairC]
end Go.Fm
/-
  CutPair; Grow.
-/
set_option maxRecDepth 100000
set_option linter.unusedVariables false
set_option linter.unusedSimpArgs false
namespace Go.Fm
open Go Go.Proofs
/-! CF -/
section
variable (b : Bool) (cf : CallFn)
def cpS (l : List Pr) (k : List UInt8) (out : AV) (i : Int) : List AV := [.c (pairsC l), .c (.sl 1 (bytesAV k)), out, .c (.int .i64 i)]
theorem cp_keep (l : List Pr) (k : List UInt8) (pre rest acc : List Pr) (p : Pr) (h : l = pre ++ p :: rest) (hm : l.length ≤ 1000000) (hac : acc.length ≤ pre.length) (hne : p.1 ≠ k) :
    loopX 0 (p20_l0 b cf 0) (cpS l k (acA acc) (pre.length : Int)) (acH 59 2 prC acc) = loopX 0 (p20_l0 b cf 0) (cpS l k (acA (acc ++ [p])) ((pre.length : Int) + 1)) (acH 59 2 prC (acc ++ [p])) := by
  have hl : pre.length < l.length := by subst h; simp
  have hi := mIdxS_pairsC l pre.length hl
  have hg : l.getD pre.length default = p := by rw [h]; exact getD_app pre rest p
  rw [hg] at hi
  have ha := idx_add pre.length (by omega)
  have hx := big_max (n := acc.length + 1) (by omega)
  have hx1 : (acc.length + 1) * 48 ≤ 140737488355328 := by omega
  have h1m : 1 ≤ maxLen := big_max (by decide)
  have hnb : (p.1 == k) = false := by simpa using hne
  generalize pre.length = n at *
  cases acc with
  | nil =>
    rw [loopX_eq]
    have e1 := loopX_gc (k := 0) (step := p20_l0 b cf 0) (s := cpS l k (.os 1) ((n : Int) + 1)) (H := [.row 59 2 [prC p], .row 59 2 [prC p]]) (s1 := cpS l k (.os 0) ((n : Int) + 1)) (H1 := [.row 59 2 [prC p]]) (by simp [cpS]) (by simp [cpS])
    simp only [cpS] at e1
    simp [cpS, acA, acH, p20_l0, hl, hi, BA_toList, hne, hnb, ha, hx, h1m, e1]
  | cons q acc =>
    rw [loopX_eq]
    have e1 := loopX_gc (k := 0) (step := p20_l0 b cf 0) (s := cpS l k (.os 2) ((n : Int) + 1)) (H := [.dead, .row 59 2 [prC p], .row 59 2 (prC q :: (acc.map prC ++ [prC p]))]) (s1 := cpS l k (.os 0) ((n : Int) + 1)) (H1 := [.row 59 2 (prC q :: (acc.map prC ++ [prC p]))]) (by simp [cpS]) (by simp [cpS])
    simp only [cpS] at e1
    obtain ⟨m, hm⟩ : ∃ m, m = (q :: acc).length := ⟨_, rfl⟩
    have hm2 : acc.length + 1 = m := by rw [hm]; rfl
    rw [← hm] at hx hx1
    simp [cpS, acA, acH, p20_l0, hl, hi, BA_toList, hne, hnb, ha, hx, hx1, hm2, e1, h1m]
theorem cp_drop (l : List Pr) (k : List UInt8) (pre rest acc : List Pr) (p : Pr) (h : l = pre ++ p :: rest) (hm : l.length ≤ 1000000) (hne : p.1 = k) :
    loopX 0 (p20_l0 b cf 0) (cpS l k (acA acc) (pre.length : Int)) (acH 59 2 prC acc) = loopX 0 (p20_l0 b cf 0) (cpS l k (acA acc) ((pre.length : Int) + 1)) (acH 59 2 prC acc) := by
  have hl : pre.length < l.length := by subst h; simp
  have hi := mIdxS_pairsC l pre.length hl
  have hg : l.getD pre.length default = p := by rw [h]; exact getD_app pre rest p
  rw [hg] at hi
  have ha := idx_add pre.length (by omega)
  have hnb : (p.1 == k) = true := by simpa using hne
  generalize pre.length = n at *
  rw [loopX_eq]
  cases acc with
  | nil => simp [cpS, acA, acH, p20_l0, hl, hi, BA_toList, hnb, ha]
  | cons q acc => simp [cpS, acA, acH, p20_l0, hl, hi, BA_toList, hnb, ha]
theorem cp_loop (l : List Pr) (k : List UInt8) (hm : l.length ≤ 1000000) : ∀ (rest pre acc : List Pr), l = pre ++ rest → acc.length ≤ pre.length →
    loopX 0 (p20_l0 b cf 0) (cpS l k (acA acc) (pre.length : Int)) (acH 59 2 prC acc) = some (.exit 0 [acA (acc ++ cutP k rest)], acH 59 2 prC (acc ++ cutP k rest))
  | [], pre, acc, h, hac => by
    rw [List.append_nil] at h
    rw [h, loopX_eq]
    cases acc with
    | nil => simp [cpS, acA, acH, p20_l0, cutP]
    | cons q acc => simp [cpS, acA, acH, p20_l0, cutP]
  | p :: rest, pre, acc, h, hac => by
    have e : (((pre ++ [p]).length : Nat) : Int) = (pre.length : Int) + 1 := by simp
    by_cases hp : p.1 = k
    · rw [cp_drop b cf l k pre rest acc p h hm hp, ← e, cp_loop l k hm rest (pre ++ [p]) acc (by simp [h]) (by simp; omega)]
      have : cutP k (p :: rest) = cutP k rest := by simp [cutP, hp]
      rw [this]
    · rw [cp_keep b cf l k pre rest acc p h hm hac hp, ← e, cp_loop l k hm rest (pre ++ [p]) (acc ++ [p]) (by simp [h]) (by simp; omega)]
      have : cutP k (p :: rest) = p :: cutP k rest := by simp [cutP, hp]
      rw [this]
      simp
end
theorem pairsC_nil : pairsC [] = .nilsl := rfl
theorem pairsC_cons (p : Pr) (l : List Pr) : pairsC (p :: l) = .sl 2 ((p :: l).map prC) := rfl
theorem cutPair_fn (b : Bool) (l : List Pr) (k : List UInt8) (hm : l.length ≤ 1000000) : fnX (cfg b) An 20 [.c (pairsC l), .c (.sl 1 (bytesAV k))] [] = some (.c (pairsC (cutP k l)), []) := by
  rw [fnX_eq, p20_eq]
  have e := cp_loop b (callX (cfg b) An) l k hm l [] [] rfl (Nat.le_refl _)
  simp only [List.nil_append, List.length_nil, Int.natCast_zero, Int.ofNat_zero, cpS, acA, acH] at e
  generalize cutP k l = c at *
  cases c with
  | nil =>
    simp only [acA, acH] at e
    simp [p20, e, pairsC_nil, pairsC_cons]
  | cons q c =>
    simp only [acA, acH] at e
    simp [p20, e, pairsC_nil, pairsC_cons]
theorem cutPair_call (b : Bool) (l : List Pr) (k : List UInt8) (hm : l.length ≤ 1000000) (H : Heap) : callX (cfg b) An 20 [.c (pairsC l), .c (.sl 1 (bytesAV k))] H = some (.c (pairsC (cutP k l)), H) := callX_pure (cutPair_fn b l k hm) rfl rfl (prim_none (by decide)) H
theorem putP_len (k : List UInt8) (v : Option (List UInt8)) : ∀ l : List Pr, (putP k v l).length ≤ l.length + 1
  | [] => by simp [putP]
  | p :: r => by
    have := putP_len k v r
    unfold putP
    split
    · simp; omega
    · split <;> simp
theorem cutP_len (k : List UInt8) (l : List Pr) : (cutP k l).length ≤ l.length := List.length_filter_le _ _
end Go.Fm
