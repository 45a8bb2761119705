/-
  A part of the proof: PKv4.
-/
import Derived.Test.YtjmjijgnbjkpnaaPBase2
import Derived.Test.YtjmjijgnbjkpnaaPKv2
import Derived.Test.YtjmjijgnbjkpnaaDKv
import Derived.Test.YtjmjijgnbjkpnaaDRef
set_option linter.all false
set_option autoImplicit true
/-
  kv.Store: List.
-/
set_option autoImplicit false
set_option maxRecDepth 100000
set_option linter.unusedVariables false
set_option linter.unusedSimpArgs false
namespace Go.Fm
open Go Go.Proofs
theorem equal_pV (b : Bool) (x : List UInt8) (y : Option (List UInt8)) : fnX (cfg b) An 48 [.c (.sl 1 (bytesAV x)), .c (pV y)] [] = some (.c (.bool (x == pB y)), []) := by
  rw [fnX_eq, p48_eq]
  have e := elemsOf_pV [] y
  simp [p48, BA_toList, e]
theorem equal_callV (b : Bool) (x : List UInt8) (y : Option (List UInt8)) (H : Heap) : callX (cfg b) An 48 [.c (.sl 1 (bytesAV x)), .c (pV y)] H = some (.c (.bool (x == pB y)), H) := callX_pure (equal_pV b x y) rfl rfl (prim_none (by decide)) H
/-- Does a key begin so? -/
def preB (q k : List UInt8) : Bool := decide (q.length ≤ k.length) && (k.take q.length == q)
theorem hasPre_fn (b : Bool) (k : List UInt8) (q : Option (List UInt8)) : fnX (cfg b) An 39 [.c (.sl 1 (bytesAV k)), .c (pV q)] [] = some (.c (.bool (preB (pB q) k)), []) := by
  rw [fnX_eq, p39_eq]
  have hl := fun H => lenOf_pV H q
  unfold preB
  by_cases h : (pB q).length ≤ k.length
  · have hI : ((pB q).length : Int) ≤ (k.length : Int) := by omega
    have sl := fun H => slice_pV (pB q).length (some k) h H
    have ec := equal_callV b (k.take (pB q).length) q
    have e1 : pV (some k) = .sl 1 (bytesAV k) := rfl
    have e2 : pV (upto (pB q).length (some k)) = .sl 1 (bytesAV (k.take (pB q).length)) := rfl
    rw [e1, e2] at sl
    simp [p39, hl, h, hI, sl, ec]
  · have hI : ¬ ((pB q).length : Int) ≤ (k.length : Int) := by omega
    simp [p39, hl, h, hI]
theorem hasPre_call (b : Bool) (k : List UInt8) (q : Option (List UInt8)) (H : Heap) : callX (cfg b) An 39 [.c (.sl 1 (bytesAV k)), .c (pV q)] H = some (.c (.bool (preB (pB q) k)), H) := callX_pure (hasPre_fn b k q) rfl rfl (prim_none (by decide)) H
def loA : List Pr → AV
  | [] => .c .nilsl
  | _ => .os 2
def loH (l acc : List Pr) : Heap := [.var 82 (.agg [.os 1]), .row 59 2 (l.map prC)] ++ acH 59 2 prC acc
def loS (l : List Pr) (q : Option (List UInt8)) (acc : List Pr) (i : Int) : List AV := [.c (pV q), loA acc, .os 1, .c (.int .i64 (l.length : Int)), .c (.int .i64 i)]
/-! CF -/
set_option maxHeartbeats 4000000 in
theorem lo_step (b : Bool) (l : List Pr) (hm : l.length ≤ 1000000) (hok : ∀ p ∈ l, PrOk p) (q : Option (List UInt8)) (p : Pr) (rest pre acc : List Pr) (h : l = pre ++ p :: rest) (ha : acc.length ≤ pre.length) :
    loopX 2 (p23_l0 b (callX (cfg b) An) 2) (loS l q acc (pre.length : Int)) (loH l acc) =
      loopX 2 (p23_l0 b (callX (cfg b) An) 2) (loS l q (if preB (pB q) p.1 = true then acc ++ [p] else acc) ((pre.length + 1 : Nat) : Int)) (loH l (if preB (pB q) p.1 = true then acc ++ [p] else acc)) := by
  have hl : pre.length < l.length := by subst h; simp
  have hpo := hok p (by subst h; simp)
  have hg : l.getD pre.length default = p := by rw [h]; exact getD_app pre rest p
  have hn : nthC (l.map prC) pre.length = prC p := by rw [nthC_map default hl, hg]
  have hI : (pre.length : Int) < (l.length : Int) := by omega
  have e1 : iAdd .i64 (pre.length : Int) 1 = ((pre.length + 1 : Nat) : Int) := by unfold iAdd; rw [i64_small (by omega) (by omega)]; omega
  have hp : prC p = .agg [.sl 1 (bytesAV p.1), pV p.2] := rfl
  have pc := hasPre_call b p.1 q
  have k1 := hpo.k
  have k2 := hpo.v
  have c1 := clone_sl b p.1 (by omega)
  have c2 := clone_call b p.2 (by omega)
  have m1 : 1 ≤ maxLen := big_max (by decide)
  rw [hp] at hn
  have hac : acc.length ≤ 1000000 := by omega
  clear ha h hg
  generalize pre.length = n at *
  rw [loopX_eq]
  cases hb : preB (pB q) p.1 with
  | false =>
    rw [hb] at pc
    simp only [Bool.false_eq_true, if_false]
    cases acc with
    | nil =>
      simp only [loS, loH, loA, acH, List.append_nil]
      simp [p23_l0, hl, hI, hn, e1, pc, csz_pV, cag_pV, frz59, frz82]
      exact loopX_gc (by simp) (by simp)
    | cons a acc =>
      simp only [loS, loH, loA, acH, List.append_nil, List.cons_append, List.nil_append]
      simp [p23_l0, hl, hI, hn, e1, pc, csz_pV, cag_pV, frz59, frz82]
      exact loopX_gc (by simp) (by simp)
  | true =>
    rw [hb] at pc
    simp only [if_true]
    cases acc with
    | nil =>
      simp only [loS, loH, loA, acH, List.append_nil, List.nil_append, List.map_cons, List.map_nil, hp]
      simp [p23_l0, p23_l0_d0, hl, hI, hn, e1, pc, c1, c2, m1, csz_pV, cag_pV, frz59, frz82]
      exact loopX_gc (by simp) (by simp)
    | cons a acc =>
      have m2 : acc.length + 1 + 1 ≤ maxLen := big_max (by simp at hac; omega)
      have m3 : (acc.length + 1 + 1) * 48 ≤ 140737488355328 := by simp at hac; omega
      simp only [loS, loH, loA, acH, List.append_nil, List.cons_append, List.nil_append, List.map_cons, List.map_append, List.map_nil, hp]
      simp [p23_l0, p23_l0_d0, hl, hI, hn, e1, pc, c1, c2, m1, m2, m3, csz_pV, cag_pV, frz59, frz82]
      exact loopX_gc (by simp) (by simp)
theorem lo_loop (b : Bool) (l : List Pr) (hm : l.length ≤ 1000000) (hok : ∀ p ∈ l, PrOk p) (q : Option (List UInt8)) : ∀ (rest pre acc : List Pr), l = pre ++ rest → acc.length ≤ pre.length →
    loopX 2 (p23_l0 b (callX (cfg b) An) 2) (loS l q acc (pre.length : Int)) (loH l acc) = some (.exit 0 [loA (acc ++ rest.filter fun p => preB (pB q) p.1)], loH l (acc ++ rest.filter fun p => preB (pB q) p.1))
  | [], pre, acc, h, ha => by
    rw [List.append_nil] at h
    subst h
    rw [loopX_eq]
    cases acc with
    | nil =>
      simp only [loS, loH, loA, acH, List.append_nil, List.filter_nil]
      simp [p23_l0]
    | cons a acc =>
      simp only [loS, loH, loA, acH, List.append_nil, List.filter_nil, List.cons_append, List.nil_append]
      simp [p23_l0]
  | p :: rest, pre, acc, h, ha => by
    rw [lo_step b l hm hok q p rest pre acc h ha]
    have hlen : ((pre.length + 1 : Nat) : Int) = ((pre ++ [p]).length : Int) := by simp
    rw [hlen]
    rw [lo_loop b l hm hok q rest (pre ++ [p]) _ (by rw [h]; simp) (by split <;> simp <;> omega)]
    by_cases hb : preB (pB q) p.1 = true
    · simp [hb]
    · simp [hb]
/-- The pairs that begin so. -/
def begP (q : Option (List UInt8)) (l : List Pr) : List Pr := l.filter fun p => preB (pB q) p.1
theorem klist_fn (b : Bool) (l : List Pr) (hm : l.length ≤ 1000000) (hok : ∀ p ∈ l, PrOk p) (q : Option (List UInt8)) : fnX (cfg b) An 23 [.ov 0 [] 0, .c (pV q)] (kvH l) = some (.c (pairsC (begP q l)), kvH l) := by
  rw [fnX_eq, p23_eq]
  have lp := lo_loop b l hm hok q l [] [] rfl (Nat.le_refl _)
  have z0 : ((([] : List Pr).length : Nat) : Int) = 0 := rfl
  rw [z0, List.nil_append] at lp
  have hb : (l.filter fun p => preB (pB q) p.1) = begP q l := rfl
  rw [hb] at lp
  cases hq : begP q l with
  | nil =>
    rw [hq] at lp
    simp only [loS, loH, loA, acH, kvH, List.append_nil, pairsC] at lp ⊢
    simp [p23, be45, lp, frz82]
  | cons a r =>
    rw [hq] at lp
    simp only [loS, loH, loA, acH, kvH, List.append_nil, List.cons_append, List.nil_append, pairsC] at lp ⊢
    simp [p23, be45, lp, frz82]
theorem klist_nil (b : Bool) (q : Option (List UInt8)) : fnX (cfg b) An 23 [.ov 0 [] 0, .c (pV q)] kvE = some (.c .nilsl, kvE) := by
  rw [fnX_eq, p23_eq]
  have lp : loopX 1 (p23_l0 b (callX (cfg b) An) 1) [.c (pV q), .c .nilsl, .c .nilsl, .c (.int .i64 0), .c (.int .i64 0)] kvE = some (.exit 0 [.c .nilsl], kvE) := by
    rw [loopX_eq]
    simp only [kvE]
    simp [p23_l0]
  simp only [kvE] at lp ⊢
  simp [p23, be45, lp, frz82]
theorem v14 {b : Bool} {H : Heap} {vs : List AV} : callX (cfg b) An 14 vs H = cvw (fnX (cfg b) An 14) (handCs (cfg b) false H vs) := callX_v (prim_none (by decide))
theorem v17 {b : Bool} {H : Heap} {vs : List AV} : callX (cfg b) An 17 vs H = cvw (fnX (cfg b) An 17) (handCs (cfg b) true H vs) := callX_v (prim_none (by decide))
theorem v23 {b : Bool} {H : Heap} {vs : List AV} : callX (cfg b) An 23 vs H = cvw (fnX (cfg b) An 23) (handCs (cfg b) false H vs) := callX_v (prim_none (by decide))
theorem v18 {b : Bool} {H : Heap} {vs : List AV} : callX (cfg b) An 18 vs H = cvw (fnX (cfg b) An 18) (handCs (cfg b) false H vs) := callX_v (prim_none (by decide))
theorem nthC_z {v : CV} {l : List CV} : nthC (v :: l) 0 = v := (rfl)
theorem nthC_o {v w : CV} {l : List CV} : nthC (v :: w :: l) 1 = w := (rfl)
end Go.Fm
