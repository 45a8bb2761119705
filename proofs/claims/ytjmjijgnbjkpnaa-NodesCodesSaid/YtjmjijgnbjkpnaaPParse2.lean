/-
  A part of the proof: PParse2.
-/
import Derived.Test.YtjmjijgnbjkpnaaPParse
set_option linter.all false
set_option autoImplicit true
/-
  tlv.Parse of any bytes (the plain seat).
-/
set_option autoImplicit false
set_option maxRecDepth 100000
set_option linter.unusedVariables false
set_option linter.unusedSimpArgs false
namespace Go.Fm
open Go Go.Proofs
abbrev It := UInt8 × List UInt8
def itC (p : It) : CV := .agg [.int .u8 (p.1.toNat : Int), .sl 1 (bytesAV p.2)]
def itsC : List It → CV
  | [] => .nilsl
  | l => .sl 2 (l.map itC)
def itA : List It → AV
  | [] => .c .nilsl
  | _ => .os 0
def itH : List It → Heap
  | [] => []
  | l => [.row 72 2 (l.map itC)]
def lastBad (acc : List It) (tag : UInt8) : Bool := match acc.getLast? with
  | none => false
  | some q => decide (tag.toNat ≤ q.1.toNat)
def parseF : Nat → List It → List UInt8 → List It × Int
  | 0, acc, _ => (acc, 0)
  | _ + 1, acc, [] => (acc, 0)
  | n + 1, acc, tag :: r => match pieceL r with
    | none => ([], 4)
    | some (v, rest) => if v = [] then ([], 6) else if lastBad acc tag = true then ([], 5) else parseF n (acc ++ [(tag, v)]) rest
def parR (acc : List It) (e : Int) : Option (LStep × Heap) := some (.ret [.c .nilsl, .c (.int .i64 e), itA acc], itH acc)
theorem piece_call (b : Bool) (l : List UInt8) : ∀ H, callX (cfg b) An 41 [.c (.sl 1 (bytesAV l))] H = some (pieceV l, H) := by
  refine callX_pure (piece_fn b l) rfl ?_ (prim_none' (by decide))
  unfold pieceV; split <;> rfl
theorem pieceL_len {l v r : List UInt8} (h : pieceL l = some (v, r)) : v.length + r.length + 2 = l.length := by
  match l, h with
  | a :: c :: q, h =>
    have e : pieceL (a :: c :: q) = if a.toNat * 256 + c.toNat ≤ q.length then some (q.take (a.toNat * 256 + c.toNat), q.drop (a.toNat * 256 + c.toNat)) else none := rfl
    rw [e] at h
    by_cases hc : a.toNat * 256 + c.toNat ≤ q.length
    · rw [if_pos hc] at h
      have h1 : q.take (a.toNat * 256 + c.toNat) = v := congrArg Prod.fst (Option.some.inj h)
      have h2 : q.drop (a.toNat * 256 + c.toNat) = r := congrArg Prod.snd (Option.some.inj h)
      rw [← h1, ← h2, List.length_take, List.length_drop, List.length_cons, List.length_cons]
      omega
    · rw [if_neg hc] at h; cases h
  | [], h => cases h
  | [a], h => cases h
theorem pieceL_v {l v r : List UInt8} (h : pieceL l = some (v, r)) : v.length ≤ 65535 := by
  match l, h with
  | a :: c :: q, h =>
    have e : pieceL (a :: c :: q) = if a.toNat * 256 + c.toNat ≤ q.length then some (q.take (a.toNat * 256 + c.toNat), q.drop (a.toNat * 256 + c.toNat)) else none := rfl
    rw [e] at h
    have ha := a.toNat_lt
    have hc2 := c.toNat_lt
    by_cases hc : a.toNat * 256 + c.toNat ≤ q.length
    · rw [if_pos hc] at h
      have h1 : q.take (a.toNat * 256 + c.toNat) = v := congrArg Prod.fst (Option.some.inj h)
      rw [← h1, List.length_take]
      omega
    · rw [if_neg hc] at h; cases h
  | [], h => cases h
  | [a], h => cases h
/-- Tags rise: so many fields at most. -/
def Few (acc : List It) : Prop := ∀ q, acc.getLast? = some q → acc.length ≤ q.1.toNat + 1
/-! CF -/
set_option maxHeartbeats 4000000 in
theorem par_bad (b : Bool) (acc : List It) (tag : UInt8) (r : List UInt8) (h : pieceL r = none) :
    loopX 0 (p30_l0 b (callX (cfg b) An) 0) [.c (.sl 1 (bytesAV (tag :: r))), itA acc] (itH acc) = parR acc 4 := by
  have pc := piece_call b r
  have e : pieceV r = .tup [.c .nilsl, .c .nilsl, .c (.int .i64 4)] := by unfold pieceV; rw [h]
  rw [e] at pc
  have hb : bytesAV (tag :: r) = .int .u8 (tag.toNat : Int) :: bytesAV r := rfl
  rw [hb]
  have g1 : (0 : Int) < (r.length : Int) + 1 := by omega
  have g2 : (1 : Int) ≤ (r.length : Int) + 1 := by omega
  have g3 : 1 ≤ r.length + 1 := by omega
  have t1 : List.take r.length (bytesAV r) = bytesAV r := List.take_of_length_le (by simp)
  rw [loopX_eq]
  unfold parR
  cases acc with
  | nil => simp (maxSteps := 1000000) [p30_l0, itA, itH, g1, g2, g3, t1, nthC0, pc]
  | cons a q => simp (maxSteps := 1000000) [p30_l0, itA, itH, g1, g2, g3, t1, nthC0, pc]
set_option maxHeartbeats 4000000 in
theorem par_empty (b : Bool) (acc : List It) (tag : UInt8) (r rest : List UInt8) (h : pieceL r = some ([], rest)) :
    loopX 0 (p30_l0 b (callX (cfg b) An) 0) [.c (.sl 1 (bytesAV (tag :: r))), itA acc] (itH acc) = parR acc 6 := by
  have pc := piece_call b r
  have e : pieceV r = .tup [.c (.sl 1 (bytesAV [])), .c (.sl 1 (bytesAV rest)), .c (.int .i64 0)] := by unfold pieceV; rw [h]
  have b0 : bytesAV [] = [] := rfl
  rw [e, b0] at pc
  have hb : bytesAV (tag :: r) = .int .u8 (tag.toNat : Int) :: bytesAV r := rfl
  rw [hb]
  have g1 : (0 : Int) < (r.length : Int) + 1 := by omega
  have g2 : (1 : Int) ≤ (r.length : Int) + 1 := by omega
  have g3 : 1 ≤ r.length + 1 := by omega
  have t1 : List.take r.length (bytesAV r) = bytesAV r := List.take_of_length_le (by simp)
  rw [loopX_eq]
  unfold parR
  cases acc with
  | nil => simp (maxSteps := 1000000) [p30_l0, itA, itH, g1, g2, g3, t1, nthC0, pc]
  | cons a q => simp (maxSteps := 1000000) [p30_l0, itA, itH, g1, g2, g3, t1, nthC0, pc]
theorem pc_ok {b : Bool} {r v rest : List UInt8} (h : pieceL r = some (v, rest)) : ∀ H, callX (cfg b) An 41 [.c (.sl 1 (bytesAV r))] H = some (.tup [.c (.sl 1 (bytesAV v)), .c (.sl 1 (bytesAV rest)), .c (.int .i64 0)], H) := by
  have pc := piece_call b r
  have e : pieceV r = .tup [.c (.sl 1 (bytesAV v)), .c (.sl 1 (bytesAV rest)), .c (.int .i64 0)] := by unfold pieceV; rw [h]
  rw [e] at pc
  exact pc
set_option maxHeartbeats 4000000 in
theorem par_0 (b : Bool) (tag : UInt8) (r v rest : List UInt8) (h : pieceL r = some (v, rest)) (h0 : 0 < v.length) :
    loopX 0 (p30_l0 b (callX (cfg b) An) 0) [.c (.sl 1 (bytesAV (tag :: r))), .c .nilsl] [] = loopX 0 (p30_l0 b (callX (cfg b) An) 0) [.c (.sl 1 (bytesAV rest)), .os 0] [.row 72 2 [itC (tag, v)]] := by
  have pc := pc_ok (b := b) h
  have hl := pieceL_len h
  have hv6 := pieceL_v h
  have hb : bytesAV (tag :: r) = .int .u8 (tag.toNat : Int) :: bytesAV r := rfl
  rw [hb]
  have g1 : (0 : Int) < (r.length : Int) + 1 := by omega
  have g2 : (1 : Int) ≤ (r.length : Int) + 1 := by omega
  have g3 : 1 ≤ r.length + 1 := by omega
  have t1 : List.take r.length (bytesAV r) = bytesAV r := List.take_of_length_le (by simp)
  have v0 : ¬ v.length = 0 := by omega
  have v4 : ((v.length : Int) == 0) = false := beq_eq_false_iff_ne.2 (by omega)
  have v5 : 1 ≤ maxLen := big_max (by decide)
  have v1 : ¬ v = [] := by intro e; subst e; simp at h0
  have v2 : v.length ≤ 140737488355328 := by omega
  have v3 : v.length ≤ maxLen := big_max (by omega)
  rw [loopX_eq]
  simp (maxSteps := 1000000) [p30_l0, g1, g2, g3, t1, v0, v1, v2, v3, v4, v5, nthC0, pc, itC]
  rw [loopX_gc (s1 := [.c (.sl 1 (bytesAV rest)), .os 0]) (H1 := [.row 72 2 [.agg [.int .u8 (tag.toNat : Int), .sl 1 (bytesAV v)]]]) (by simp) (by simp)]
set_option maxHeartbeats 4000000 in
theorem par_s (b : Bool) (M : List CV) (n : Nat) (hM : M.length = n + 1) (hn : n ≤ 900000) (last : It) (hla : nthC M n = itC last) (tag : UInt8) (r v rest : List UInt8) (h : pieceL r = some (v, rest)) (h0 : 0 < v.length) (hlt : last.1.toNat < tag.toNat) :
    loopX 0 (p30_l0 b (callX (cfg b) An) 0) [.c (.sl 1 (bytesAV (tag :: r))), .os 0] [.row 72 2 M] = loopX 0 (p30_l0 b (callX (cfg b) An) 0) [.c (.sl 1 (bytesAV rest)), .os 0] [.row 72 2 (M ++ [itC (tag, v)])] := by
  have pc := pc_ok (b := b) h
  have hl := pieceL_len h
  have hv6 := pieceL_v h
  obtain ⟨ltag, lv⟩ := last
  have hb : bytesAV (tag :: r) = .int .u8 (tag.toNat : Int) :: bytesAV r := rfl
  rw [hb]
  simp only at hlt
  have g1 : (0 : Int) < (r.length : Int) + 1 := by omega
  have g2 : (1 : Int) ≤ (r.length : Int) + 1 := by omega
  have g3 : 1 ≤ r.length + 1 := by omega
  have t1 : List.take r.length (bytesAV r) = bytesAV r := List.take_of_length_le (by simp)
  have v0 : ¬ v.length = 0 := by omega
  have v4 : ((v.length : Int) == 0) = false := beq_eq_false_iff_ne.2 (by omega)
  have v5 : 1 ≤ maxLen := big_max (by decide)
  have v1 : ¬ v = [] := by intro e; subst e; simp at h0
  have v2 : v.length ≤ 140737488355328 := by omega
  have v3 : v.length ≤ maxLen := big_max (by omega)
  have m1 : (0 : Int) < (n : Int) + 1 := by omega
  have m2 : iSub .i64 ((n : Int) + 1) 1 = (n : Int) := by unfold iSub; rw [i64_small (by omega) (by omega)]; omega
  have m3 : (n : Int) < (n : Int) + 1 := by omega
  have m4 : n + 1 + 1 ≤ maxLen := big_max (by omega)
  have m5 : (n + 1 + 1) * 32 ≤ 140737488355328 := by omega
  have m6 : ¬ (tag.toNat : Int) ≤ (ltag.toNat : Int) := by omega
  rw [loopX_eq]
  simp (maxSteps := 1000000) [p30_l0, hM, hla, m1, m2, m3, m4, m5, m6, g1, g2, g3, t1, v0, v1, v2, v3, v4, v5, nthC0, pc, itC]
  rw [loopX_gc (s1 := [.c (.sl 1 (bytesAV rest)), .os 0]) (H1 := [.row 72 2 (M ++ [.agg [.int .u8 (tag.toNat : Int), .sl 1 (bytesAV v)]])]) (by simp) (by simp)]
set_option maxHeartbeats 4000000 in
theorem par_o (b : Bool) (M : List CV) (n : Nat) (hM : M.length = n + 1) (hn : n ≤ 900000) (last : It) (hla : nthC M n = itC last) (tag : UInt8) (r v rest : List UInt8) (h : pieceL r = some (v, rest)) (h0 : 0 < v.length) (hlt : tag.toNat ≤ last.1.toNat) :
    loopX 0 (p30_l0 b (callX (cfg b) An) 0) [.c (.sl 1 (bytesAV (tag :: r))), .os 0] [.row 72 2 M] = some (.ret [.c .nilsl, .c (.int .i64 5), .os 0], [.row 72 2 M]) := by
  have pc := pc_ok (b := b) h
  have hl := pieceL_len h
  have hv6 := pieceL_v h
  obtain ⟨ltag, lv⟩ := last
  have hb : bytesAV (tag :: r) = .int .u8 (tag.toNat : Int) :: bytesAV r := rfl
  rw [hb]
  simp only at hlt
  have g1 : (0 : Int) < (r.length : Int) + 1 := by omega
  have g2 : (1 : Int) ≤ (r.length : Int) + 1 := by omega
  have g3 : 1 ≤ r.length + 1 := by omega
  have t1 : List.take r.length (bytesAV r) = bytesAV r := List.take_of_length_le (by simp)
  have v0 : ¬ v.length = 0 := by omega
  have v4 : ((v.length : Int) == 0) = false := beq_eq_false_iff_ne.2 (by omega)
  have v1 : ¬ v = [] := by intro e; subst e; simp at h0
  have m1 : (0 : Int) < (n : Int) + 1 := by omega
  have m2 : iSub .i64 ((n : Int) + 1) 1 = (n : Int) := by unfold iSub; rw [i64_small (by omega) (by omega)]; omega
  have m3 : (n : Int) < (n : Int) + 1 := by omega
  have m6 : (tag.toNat : Int) ≤ (ltag.toNat : Int) := by omega
  rw [loopX_eq]
  simp (maxSteps := 1000000) [p30_l0, hM, hla, m1, m2, m3, m6, g1, g2, g3, t1, v0, v1, v4, nthC0, pc, itC]
theorem itA_app (pre : List It) (q : It) : itA (pre ++ [q]) = .os 0 := by cases pre <;> rfl
theorem itH_app (pre : List It) (q : It) : itH (pre ++ [q]) = [.row 72 2 ((pre ++ [q]).map itC)] := by cases pre <;> rfl
theorem lastBad_app (pre : List It) (q : It) (tag : UInt8) : lastBad (pre ++ [q]) tag = decide (tag.toNat ≤ q.1.toNat) := by simp [lastBad]
theorem par_loop (b : Bool) : ∀ (n : Nat) (acc : List It) (l : List UInt8), l.length < n → Few acc →
    ((parseF n acc l).2 = 0 ∧ loopX 0 (p30_l0 b (callX (cfg b) An) 0) [.c (.sl 1 (bytesAV l)), itA acc] (itH acc) = some (.exit 0 [.any, .any, itA (parseF n acc l).1], itH (parseF n acc l).1)) ∨
    ((parseF n acc l).2 ≠ 0 ∧ (parseF n acc l).1 = [] ∧ ∃ acc', loopX 0 (p30_l0 b (callX (cfg b) An) 0) [.c (.sl 1 (bytesAV l)), itA acc] (itH acc) = some (.ret [.c .nilsl, .c (.int .i64 (parseF n acc l).2), itA acc'], itH acc'))
  | 0, acc, l, h, _ => by omega
  | n + 1, acc, [], h, _ => by
    refine .inl ⟨rfl, ?_⟩
    have e : (parseF (n + 1) acc []).1 = acc := rfl
    rw [e, loopX_eq]
    have : bytesAV [] = [] := rfl
    rw [this]
    cases acc with
    | nil => simp [p30_l0, itA, itH]
    | cons a r => simp [p30_l0, itA, itH]
  | n + 1, acc, tag :: r, h, hm => by
    simp only [List.length_cons] at h
    cases hp : pieceL r with
    | none =>
      have e : parseF (n + 1) acc (tag :: r) = ([], 4) := by simp only [parseF, hp]
      rw [e]
      exact .inr ⟨by simp, rfl, acc, par_bad b acc tag r hp⟩
    | some vr =>
      obtain ⟨v, rest⟩ := vr
      have hl := pieceL_len hp
      by_cases hv : v = []
      · subst hv
        have e : parseF (n + 1) acc (tag :: r) = ([], 6) := by simp only [parseF, hp, if_true]
        rw [e]
        exact .inr ⟨by simp, rfl, acc, par_empty b acc tag r rest hp⟩
      · have h0 : 0 < v.length := List.length_pos_iff.2 hv
        by_cases hb : lastBad acc tag = true
        · have e : parseF (n + 1) acc (tag :: r) = ([], 5) := by simp only [parseF, hp, if_neg hv, if_pos hb]
          rw [e]
          refine .inr ⟨by simp, rfl, acc, ?_⟩
          rcases List.eq_nil_or_concat acc with rfl | ⟨pre, q, rfl⟩
          · simp [lastBad] at hb
          · rw [List.concat_eq_append] at hb hm ⊢
            have hfw := hm q (by simp)
            have hq := q.1.toNat_lt
            rw [lastBad_app] at hb
            rw [itA_app, itH_app]
            exact par_o b _ pre.length (by simp) (by simp at hfw; omega) q (by simp [nthC, List.getD_eq_getElem?_getD]) tag r v rest hp h0 (of_decide_eq_true hb)
        · have e : parseF (n + 1) acc (tag :: r) = parseF n (acc ++ [(tag, v)]) rest := by simp only [parseF, hp, if_neg hv, if_neg hb]
          rw [e]
          have ih := par_loop b n (acc ++ [(tag, v)]) rest (by omega) (by
            intro q' hq'
            simp only [List.getLast?_append, List.getLast?_singleton, Option.some_or, Option.some.injEq] at hq'
            subst hq'
            rcases List.eq_nil_or_concat acc with rfl | ⟨pre, q, rfl⟩
            · simp
            · rw [List.concat_eq_append] at hb hm ⊢
              rw [lastBad_app] at hb
              have hfw := hm q (by simp)
              have hb' : ¬ tag.toNat ≤ q.1.toNat := by simpa using hb
              simp only [List.length_append, List.length_cons, List.length_nil] at hfw ⊢
              omega)
          rw [itA_app, itH_app] at ih
          have st : loopX 0 (p30_l0 b (callX (cfg b) An) 0) [.c (.sl 1 (bytesAV (tag :: r))), itA acc] (itH acc) = loopX 0 (p30_l0 b (callX (cfg b) An) 0) [.c (.sl 1 (bytesAV rest)), .os 0] [.row 72 2 ((acc ++ [(tag, v)]).map itC)] := by
            rcases List.eq_nil_or_concat acc with rfl | ⟨pre, q, rfl⟩
            · exact par_0 b tag r v rest hp h0
            · rw [List.concat_eq_append] at hb hm ⊢
              have hfw := hm q (by simp)
              have hq := q.1.toNat_lt
              rw [lastBad_app] at hb
              rw [itA_app, itH_app]
              have := par_s b ((pre ++ [q]).map itC) pre.length (by simp) (by simp at hfw; omega) q (by simp [nthC, List.getD_eq_getElem?_getD]) tag r v rest hp h0 (by simpa using hb)
              rw [this]
              simp
          rw [st]
          exact ih
/-- What Parse answers. -/
def parseL (l : List UInt8) : List It × Int := parseF (l.length + 1) [] l
theorem parse_fn (b : Bool) (l : List UInt8) : fnX (cfg b) An 30 [.c (.sl 1 (bytesAV l))] [] = some (.tup [.c (itsC (parseL l).1), .c (.int .i64 (parseL l).2)], []) := by
  rw [fnX_eq, p30_eq]
  have e := par_loop b (l.length + 1) [] l (by omega) (by intro q hq; cases hq)
  simp only [itA, itH] at e
  rcases e with ⟨h1, e⟩ | ⟨h1, h2, acc, e⟩
  · unfold parseL
    rw [h1]
    cases hx : (parseF (l.length + 1) [] l).1 with
    | nil =>
      rw [hx] at e
      simp only [itA, itH] at e
      simp [p30, e, itsC]
    | cons p r =>
      rw [hx] at e
      simp only [itA, itH] at e
      simp [p30, e, itsC]
  · unfold parseL
    rw [h2]
    cases acc with
    | nil => simp only [itA, itH] at e; simp [p30, e, itsC]
    | cons p r => simp only [itA, itH] at e; simp [p30, e, itsC]
theorem parse_nil (b : Bool) : fnX (cfg b) An 30 [.c .nilsl] [] = some (.tup [.c .nilsl, .c (.int .i64 0)], []) := by
  rw [fnX_eq, p30_eq]
  have e : loopX 0 (p30_l0 b (callX (cfg b) An) 0) [.c .nilsl, .c .nilsl] [] = some (.exit 0 [.any, .any, .c .nilsl], []) := by
    rw [loopX_eq]; simp [p30_l0]
  simp [p30, e]
theorem parse_call (b : Bool) (o : Option (List UInt8)) : ∀ H, callX (cfg b) An 30 [.c (pV o)] H = some (.tup [.c (itsC (parseL (pB o)).1), .c (.int .i64 (parseL (pB o)).2)], H) := by
  cases o with
  | none => exact callX_pure (parse_nil b) rfl rfl (prim_none' (by decide))
  | some l =>
    refine callX_pure (parse_fn b l) rfl ?_ (prim_none' (by decide))
    rfl
end Go.Fm
