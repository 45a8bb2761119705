/-
  A part of the proof: PRfC.
-/
import Derived.Test.YtjmjijgnbjkpnaaPRfB
set_option linter.all false
set_option autoImplicit true
/-
  ferrymanref01: Value, Parse; ferrymanref05.sum (the plain seat).
-/
set_option autoImplicit false
set_option maxRecDepth 100000
set_option linter.unusedVariables false
set_option linter.unusedSimpArgs false
namespace Go.Fm
open Go Go.Proofs
/-! ### Value -/
def valR (acc : Int) (l : List UInt8) : Int := l.foldl (fun n c => iAdd .u64 (iMul .u64 n 256) (c.toNat : Int)) acc
theorem shl_add (n : Nat) (hn : n < 72057594037927936) (c : UInt8) : iOr .u64 (iShl .u64 (n : Int) 8) (c.toNat : Int) = ((n * 256 + c.toNat : Nat) : Int) ∧ iAdd .u64 (iMul .u64 (n : Int) 256) (c.toNat : Int) = ((n * 256 + c.toNat : Nat) : Int) := by
  have hc := c.toNat_lt
  have e8 : iShl .u64 (n : Int) 8 = ((n * 256 : Nat) : Int) := by
    unfold iShl
    have : min (8 : Int).toNat IntKind.u64.bits = 8 := rfl
    rw [this, u64_small (by omega) (by omega)]
    omega
  constructor
  · rw [e8]
    unfold iOr
    have hb : IntKind.u64.bits = 64 := rfl
    have e : ((BitVec.ofInt 64 ((n * 256 : Nat) : Int)) ||| (BitVec.ofInt 64 (c.toNat : Int))).toNat = n * 256 + c.toNat := by
      rw [BitVec.toNat_or, BitVec.ofInt_natCast, BitVec.ofInt_natCast, BitVec.toNat_ofNat, BitVec.toNat_ofNat, Nat.mod_eq_of_lt (by omega), Nat.mod_eq_of_lt (by omega)]
      have := Nat.two_pow_add_eq_or_of_lt (i := 8) (b := c.toNat) (by omega) n
      rw [← show 2 ^ 8 * n = n * 256 by omega, ← this]
    show IntKind.u64.wrap (((BitVec.ofInt 64 ((n * 256 : Nat) : Int)) ||| (BitVec.ofInt 64 (c.toNat : Int))).toNat : Int) = _
    rw [e]; exact u64_small (by omega) (by omega)
  · unfold iAdd iMul
    rw [u64_small (z := (n : Int) * 256) (by omega) (by omega), u64_small (by omega) (by omega)]
    omega
theorem val_eq : ∀ (l : List UInt8) (k n : Nat), k + l.length ≤ 8 → n < 256 ^ k → valR (n : Int) l = valF (n : Int) l ∧ (0 ≤ valF (n : Int) l)
  | [], k, n, hk, hn => ⟨rfl, by show (0 : Int) ≤ (n : Int); omega⟩
  | c :: l, k, n, hk, hn => by
    simp only [List.length_cons] at hk
    have hn7 : n < 72057594037927936 := by
      have h1 : (256 : Nat) ^ k ≤ 256 ^ 7 := Nat.pow_le_pow_right (by decide) (by omega)
      have h2 : (256 : Nat) ^ 7 = 72057594037927936 := by decide
      omega
    obtain ⟨h1, h2⟩ := shl_add n hn7 c
    have hc := c.toNat_lt
    have e1 : valR (n : Int) (c :: l) = valR (iAdd .u64 (iMul .u64 (n : Int) 256) (c.toNat : Int)) l := rfl
    have e2 : valF (n : Int) (c :: l) = valF (iOr .u64 (iShl .u64 (n : Int) 8) (c.toNat : Int)) l := rfl
    rw [e1, e2, h1, h2]
    exact val_eq l (k + 1) (n * 256 + c.toNat) (by omega) (by rw [Nat.pow_succ]; omega)
theorem rval_loop (b : Bool) (l : List UInt8) (hm : l.length ≤ 1000) : ∀ (rest pre : List UInt8) (acc : Int), l = pre ++ rest →
    loopX 0 (p33_l0 b (callX (cfg b) An) 0) [.c (.sl 1 (bytesAV l)), .c (.int .u64 acc), .c (.int .i64 (pre.length : Int))] [] = some (.exit 0 [.c (.int .u64 (valR acc rest))], [])
  | [], pre, acc, h => by
    rw [List.append_nil] at h
    rw [← h, loopX_eq]
    simp [p33_l0, valR]
  | x :: rest, pre, acc, h => by
    have hl : pre.length < l.length := by rw [h]; simp
    have hI : (pre.length : Int) < (l.length : Int) := by omega
    have ha : iAdd .i64 (pre.length : Int) 1 = (pre.length : Int) + 1 := by unfold iAdd; rw [i64_small (by omega) (by omega)]
    have hn : nthC (bytesAV l) pre.length = .int .u8 (x.toNat : Int) := by rw [h]; simp [nthC, bytesAV, List.getD_eq_getElem?_getD]
    have w : IntKind.u64.wrap (x.toNat : Int) = (x.toNat : Int) := u64_small (by omega) (by have := x.toNat_lt; omega)
    have ih := rval_loop b l hm rest (pre ++ [x]) (iAdd .u64 (iMul .u64 acc 256) (x.toNat : Int)) (by rw [h]; simp)
    have e : (((pre ++ [x]).length : Nat) : Int) = (pre.length : Int) + 1 := by simp
    rw [e] at ih
    have ev : valR acc (x :: rest) = valR (iAdd .u64 (iMul .u64 acc 256) (x.toNat : Int)) rest := rfl
    rw [ev, ← ih]
    conv => lhs; rw [loopX_eq]
    have hlen : (bytesAV l).length = l.length := by simp
    clear ih h
    generalize bytesAV l = B at *
    simp [p33_l0, hl, hI, hn, ha, w, hlen]
/-! CF -/
theorem rvalue_fn (b : Bool) (l : List UInt8) (h0 : 0 < l.length) (hm : l.length ≤ 1000000) : fnX (cfg b) An 33 [.c (.sl 1 (bytesAV l))] [] = some (.tup [.c (.int .u64 (valL l).1), .c (.bool (decide ((valL l).2 = 0)))], []) := by
  rw [fnX_eq, p33_eq]
  match l, h0, hm with
  | x :: r, h0, hm =>
    have hb : bytesAV (x :: r) = .int .u8 (x.toNat : Int) :: bytesAV r := rfl
    simp only [List.length_cons] at hm
    by_cases h8 : 8 < (x :: r).length
    · have e : valL (x :: r) = (0, 7) := by unfold valL; rw [if_pos (.inl h8)]
      simp only [List.length_cons] at h8
      have g1 : (8 : Int) < (r.length : Int) + 1 := by omega
      rw [e, hb]
      simp [p33, g1]
    · simp only [List.length_cons] at h8
      have g1 : ¬ (8 : Int) < (r.length : Int) + 1 := by omega
      have g2 : (0 : Int) < (r.length : Int) + 1 := by omega
      by_cases hx : x = 0
      · have e : valL (x :: r) = (0, 7) := by unfold valL; rw [if_pos (.inr (by rw [hx]; rfl))]
        have g3 : ((x.toNat : Int) == 0) = true := by rw [hx]; rfl
        rw [e, hb]
        simp [p33, g1, g2, g3, nthC0]
      · have e : valL (x :: r) = (valF 0 (x :: r), 0) := by
          unfold valL
          rw [if_neg]
          intro h
          rcases h with h | h
          · simp only [List.length_cons] at h; omega
          · simp at h; exact hx h
        have g3 : ((x.toNat : Int) == 0) = false := by
          have : x.toNat ≠ 0 := fun h => hx (by rw [← UInt8.toNat_inj]; exact h)
          simp; omega
        have lp := rval_loop b (x :: r) (by simp; omega) (x :: r) [] 0 rfl
        obtain ⟨ve, _⟩ := val_eq (x :: r) 0 0 (by simp; omega) (by decide)
        have z0 : ((0 : Nat) : Int) = 0 := rfl
        have z1 : ((([] : List UInt8).length : Nat) : Int) = 0 := rfl
        rw [z0] at ve
        rw [z1, hb, ve] at lp
        rw [e, hb]
        generalize valF 0 (x :: r) = V at *
        simp [p33, g1, g2, g3, nthC0, lp]
/-! ### sum -/
def sumH (l : List UInt8) (i : Nat) : Heap := [.var 25 (.c (.arr 32 .u8 (List.replicate 32 0))), .var 25 (.c (.arr 32 .u8 (dI (l.take i ++ List.replicate (32 - i) 0))))]
theorem sum_step (b : Bool) (l : List UInt8) (hl : l.length = 32) (i : Nat) (hi : i < 32) :
    loopX 0 (p34_l0 b (callX (cfg b) An) 0) [.c (.sl 1 (bytesAV l)), .ov 0 [] 0, .ov 1 [] 0, .c (.int .i64 (i : Int))] (sumH l i) = loopX 0 (p34_l0 b (callX (cfg b) An) 0) [.c (.sl 1 (bytesAV l)), .ov 0 [] 0, .ov 1 [] 0, .c (.int .i64 ((i + 1 : Nat) : Int))] (sumH l (i + 1)) := by
  have g1 : (i : Int) < 32 := by omega
  have g3 : iAdd .i64 (i : Int) 1 = ((i + 1 : Nat) : Int) := by unfold iAdd; rw [i64_small (by omega) (by omega)]; omega
  have hlen : (bytesAV l).length = 32 := by simp [bytesAV, hl]
  have hn := nthC_bytes (bs := l) (i := i) (by omega)
  have hA : (l.take i ++ List.replicate (32 - i) (0 : UInt8)).length = 32 := by simp; omega
  have hd : (dI (l.take i ++ List.replicate (32 - i) 0)).length = 32 := by rw [len_dI, hA]
  have hset : (dI (l.take i ++ List.replicate (32 - i) 0)).set i ((nthB l i).toNat : Int) = dI (l.take (i + 1) ++ List.replicate (32 - (i + 1)) 0) := by
    have e1 : dI (l.take i ++ List.replicate (32 - i) 0) = dI (l.take i) ++ dI (List.replicate (32 - i) 0) := by simp [dI]
    have e2 : List.replicate (32 - i) (0 : UInt8) = 0 :: List.replicate (32 - (i + 1)) 0 := by rw [← List.replicate_succ]; congr 1; omega
    have e3 : l.take (i + 1) = l.take i ++ [nthB l i] := by
      rw [List.take_add_one, List.getElem?_eq_getElem (by omega)]
      simp [nthB, List.getD_eq_getElem?_getD, List.getElem?_eq_getElem (show i < l.length by omega)]
    rw [e1, e2, e3]
    have hlt : (dI (l.take i)).length = i := by rw [len_dI]; simp; omega
    rw [List.set_append_right _ _ (by omega), hlt, Nat.sub_self]
    simp [dI]
  have h32 : i < 32 := hi
  rw [loopX_eq]
  simp only [sumH] at *
  generalize dI (l.take i ++ List.replicate (32 - i) 0) = D at *
  generalize dI (l.take (i + 1) ++ List.replicate (32 - (i + 1)) 0) = D2 at *
  generalize bytesAV l = B at *
  simp [p34_l0, g1, g3, hlen, hn, hd, hset, h32]
theorem sum_run (b : Bool) (l : List UInt8) (hl : l.length = 32) : ∀ (n i : Nat), i + n = 32 →
    loopX 0 (p34_l0 b (callX (cfg b) An) 0) [.c (.sl 1 (bytesAV l)), .ov 0 [] 0, .ov 1 [] 0, .c (.int .i64 (i : Int))] (sumH l i) = some (.exit 0 [.ov 0 [] 0, .ov 1 [] 0], sumH l 32)
  | 0, i, h => by
    obtain rfl : i = 32 := by omega
    rw [loopX_eq]
    simp only [sumH]
    generalize dI (l.take 32 ++ List.replicate (32 - 32) 0) = D
    simp [p34_l0]
  | n + 1, i, h => by
    rw [sum_step b l hl i (by omega)]
    exact sum_run b l hl n (i + 1) (by omega)
theorem rsum_ok (b : Bool) (l : List UInt8) (hl : l.length = 32) : fnX (cfg b) An 34 [.c (.sl 1 (bytesAV l))] [] = some (.tup [.c (.arr 32 .u8 (dI l)), .c (.bool true)], []) := by
  rw [fnX_eq, p34_eq]
  have e := sum_run b l hl 32 0 rfl
  have z0 : ((0 : Nat) : Int) = 0 := rfl
  have e0 : sumH l 0 = [.var 25 (.c (.arr 32 .u8 (List.replicate 32 0))), .var 25 (.c (.arr 32 .u8 (List.replicate 32 0)))] := rfl
  have e1 : sumH l 32 = [.var 25 (.c (.arr 32 .u8 (List.replicate 32 0))), .var 25 (.c (.arr 32 .u8 (dI l)))] := by
    unfold sumH
    rw [List.take_of_length_le (by omega)]
    simp
  rw [z0, e0, e1] at e
  have hlen : (bytesAV l).length = 32 := by simp [bytesAV, hl]
  have hd : (dI l).length = 32 := by rw [len_dI, hl]
  simp only [List.reduceReplicate] at e
  generalize bytesAV l = B at *
  simp [p34, hlen, hd, e]
theorem rsum_bad (b : Bool) (l : List UInt8) (hl : l.length ≠ 32) : fnX (cfg b) An 34 [.c (.sl 1 (bytesAV l))] [] = some (.tup [.c (.arr 32 .u8 (List.replicate 32 0)), .c (.bool false)], []) := by
  rw [fnX_eq, p34_eq]
  have hlen : ((bytesAV l).length : Int) ≠ 32 := by simp [bytesAV]; omega
  have h2 : (((bytesAV l).length : Int) != 32) = true := by simpa using hlen
  generalize bytesAV l = B at *
  simp [p34, h2]
/-! ### Parse -/
def lastT (acc : List It) : Int := match acc.getLast? with
  | none => -1
  | some q => (q.1.toNat : Int)
theorem lastT_bad (acc : List It) (tag : UInt8) : lastBad acc tag = decide ((tag.toNat : Int) ≤ lastT acc) := by
  unfold lastBad lastT
  cases acc.getLast? with
  | none => simp; omega
  | some q => simp
theorem rpiece_call (b : Bool) (l : List UInt8) (hL : l.length ≤ 9223372036854775807) : ∀ H, callX (cfg b) An 42 [.c (.sl 1 (bytesAV l))] H = some (rpieceV l, H) := by
  refine callX_pure (rpiece_fn b l hL) rfl ?_ (prim_none' (by decide))
  unfold rpieceV; split <;> rfl
/-! CF2 -/
set_option maxHeartbeats 8000000 in
theorem rpar_step (b : Bool) (acc : List It) (tag : UInt8) (r : List UInt8) (hL : r.length + 1 ≤ 9223372036854775807) (hf : acc.length ≤ 900000) :
    match pieceL r with
    | none => loopX 0 (p32_l0 b (callX (cfg b) An) 0) [.c (.sl 1 (bytesAV (tag :: r))), itA acc, .c (.int .i64 (lastT acc))] (itH acc) = parR acc 4
    | some (v, rest) => if v = [] then loopX 0 (p32_l0 b (callX (cfg b) An) 0) [.c (.sl 1 (bytesAV (tag :: r))), itA acc, .c (.int .i64 (lastT acc))] (itH acc) = parR acc 6
      else if lastBad acc tag = true then loopX 0 (p32_l0 b (callX (cfg b) An) 0) [.c (.sl 1 (bytesAV (tag :: r))), itA acc, .c (.int .i64 (lastT acc))] (itH acc) = parR acc 5
      else loopX 0 (p32_l0 b (callX (cfg b) An) 0) [.c (.sl 1 (bytesAV (tag :: r))), itA acc, .c (.int .i64 (lastT acc))] (itH acc) = loopX 0 (p32_l0 b (callX (cfg b) An) 0) [.c (.sl 1 (bytesAV rest)), .os 0, .c (.int .i64 (tag.toNat : Int))] [.row 72 2 ((acc ++ [(tag, v)]).map itC)] := by
  have pc := rpiece_call b r (by omega)
  have hb : bytesAV (tag :: r) = .int .u8 (tag.toNat : Int) :: bytesAV r := rfl
  have g1 : (0 : Int) < (r.length : Int) + 1 := by omega
  have g2 : (1 : Int) ≤ (r.length : Int) + 1 := by omega
  have g3 : 1 ≤ r.length + 1 := by omega
  have t1 : List.take r.length (bytesAV r) = bytesAV r := List.take_of_length_le (by simp)
  have ht := tag.toNat_lt
  have w0 : IntKind.i64.wrap (tag.toNat : Int) = (tag.toNat : Int) := i64_small (by omega) (by omega)
  have w1 : IntKind.u8.wrap (tag.toNat : Int) = (tag.toNat : Int) := by
    unfold IntKind.wrap
    simp [IntKind.bits, IntKind.signed]
    omega
  cases hp : pieceL r with
  | none =>
    have e : rpieceV r = .tup [.c .nilsl, .c .nilsl, .c (.bool false)] := by unfold rpieceV; rw [hp]
    rw [e] at pc
    simp only [hb]
    rw [loopX_eq]
    cases acc with
    | nil => simp (maxSteps := 1000000) [p32_l0, itA, itH, g1, g2, g3, t1, nthC0, w0, pc, parR]
    | cons a q => simp (maxSteps := 1000000) [p32_l0, itA, itH, g1, g2, g3, t1, nthC0, w0, pc, parR]
  | some vr =>
    obtain ⟨v, rest⟩ := vr
    have e : rpieceV r = .tup [.c (.sl 1 (bytesAV v)), .c (.sl 1 (bytesAV rest)), .c (.bool true)] := by unfold rpieceV; rw [hp]
    rw [e] at pc
    have hv6 := pieceL_v hp
    simp only [hb]
    by_cases hv : v = []
    · subst hv
      have e0 : bytesAV [] = [] := rfl
      rw [e0] at pc
      rw [if_pos rfl, loopX_eq]
      cases acc with
      | nil => simp (maxSteps := 1000000) [p32_l0, itA, itH, g1, g2, g3, t1, nthC0, w0, pc, parR]
      | cons a q => simp (maxSteps := 1000000) [p32_l0, itA, itH, g1, g2, g3, t1, nthC0, w0, pc, parR]
    · rw [if_neg hv]
      have h0 : 0 < v.length := List.length_pos_iff.2 hv
      have v0 : ¬ v.length = 0 := by omega
      have v4 : ((v.length : Int) == 0) = false := beq_eq_false_iff_ne.2 (by omega)
      have v5 : 1 ≤ maxLen := big_max (by decide)
      have lb := lastT_bad acc tag
      by_cases hbd : lastBad acc tag = true
      · rw [if_pos hbd]
        have h3 : (tag.toNat : Int) ≤ lastT acc := by rw [lb] at hbd; simpa using hbd
        rw [loopX_eq]
        generalize lastT acc = LT at *
        cases acc with
        | nil => simp (maxSteps := 1000000) [p32_l0, itA, itH, g1, g2, g3, t1, v0, v4, hv, nthC0, w0, h3, pc, parR]
        | cons a q => simp (maxSteps := 1000000) [p32_l0, itA, itH, g1, g2, g3, t1, v0, v4, hv, nthC0, w0, h3, pc, parR]
      · rw [if_neg hbd]
        have h3 : ¬ (tag.toNat : Int) ≤ lastT acc := by rw [lb] at hbd; simpa using hbd
        rw [loopX_eq]
        generalize lastT acc = LT at *
        cases acc with
        | nil =>
          simp (maxSteps := 1000000) [p32_l0, itA, itH, g1, g2, g3, t1, v0, v4, v5, hv, nthC0, w0, w1, h3, pc, itC]
          rw [loopX_gc (s1 := [.c (.sl 1 (bytesAV rest)), .os 0, .c (.int .i64 (tag.toNat : Int))]) (H1 := [.row 72 2 [.agg [.int .u8 (tag.toNat : Int), .sl 1 (bytesAV v)]]]) (by simp) (by simp)]
        | cons a q =>
          have m4 : q.length + 1 + 1 ≤ maxLen := big_max (by simp at hf; omega)
          have m5 : (q.length + 1 + 1) * 32 ≤ 140737488355328 := by simp at hf; omega
          simp (maxSteps := 1000000) [p32_l0, itA, itH, g1, g2, g3, t1, v0, v4, hv, nthC0, w0, w1, h3, m4, m5, pc, itC]
          rw [loopX_gc (s1 := [.c (.sl 1 (bytesAV rest)), .os 0, .c (.int .i64 (tag.toNat : Int))]) (H1 := [.row 72 2 (CV.agg [.int .u8 (a.1.toNat : Int), .sl 1 (bytesAV a.2)] :: (q.map itC ++ [.agg [.int .u8 (tag.toNat : Int), .sl 1 (bytesAV v)]]))]) (by simp) (by simp)]
end Go.Fm
