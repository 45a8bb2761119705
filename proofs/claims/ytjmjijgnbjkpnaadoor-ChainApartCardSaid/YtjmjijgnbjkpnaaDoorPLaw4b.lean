/-
  A part of the proof: PLaw4b.
-/
import Derived.Test.YtjmjijgnbjkpnaaDoorPLaw4
set_option linter.all false
set_option autoImplicit true
/-
  Law 4, ChainApart, as a whole.
-/
set_option maxRecDepth 100000
set_option linter.unusedVariables false
set_option linter.unusedSimpArgs false
namespace Go.Fm
open Go Go.Proofs

def capT (a : UInt8) (n : Int) : List UInt8 := valsB ++ a :: lenBytes n
theorem capT_ne {a b : UInt8} {n m : Int} (hn : 0 ≤ n) (hn2 : n < 18446744073709551616) (hm : 0 ≤ m) (hm2 : m < 18446744073709551616) (h : capT a n = capT b m) : a = b ∧ n = m := by
  have h' := List.append_cancel_left h
  rw [List.cons.injEq] at h'
  exact ⟨h'.1, lenBytes_inj hn hn2 hm hm2 h'.2⟩
theorem v34 {b : Bool} {H : Heap} {vs : List AV} : callX (cfg b) An 34 vs H = cvw (fnX (cfg b) An 34) (handCs (cfg b) false H vs) := callX_v (prim_none (by decide))
/-! CF -/
set_option maxHeartbeats 16000000 in
theorem apart_core (a c : UInt8) (n m : Int) (X Y y z w v : List UInt8) (hy : y.length = 8) (hz : z.length = 8)
    (hX : bytesAV X = [.int .u8 118, .int .u8 97, .int .u8 108, .int .u8 115, .int .u8 (a.toNat : Int)] ++ bytesAV y)
    (hY : bytesAV Y = [.int .u8 118, .int .u8 97, .int .u8 108, .int .u8 115, .int .u8 (c.toNat : Int)] ++ bytesAV z)
    (en : ∀ H, callX (cfg true) An 32 [.c (.int .u64 n)] H = some (.c (.sl 1 (bytesAV y)), H))
    (em : ∀ H, callX (cfg true) An 32 [.c (.int .u64 m)] H = some (.c (.sl 1 (bytesAV z)), H))
    (vn : ∀ H, callX (cfg true) An 33 [.c (.int .u8 (a.toNat : Int)), .c (.int .u64 n)] H = some (.c (.arr 32 .u8 (dI w)), H))
    (vm : ∀ H, callX (cfg true) An 33 [.c (.int .u8 (c.toNat : Int)), .c (.int .u64 m)] H = some (.c (.arr 32 .u8 (dI v)), H))
    (cl : fnX (cfg true) An 34 [.c (two X Y)] [] = some (.c (.bool true), []) ∨ ((dI w == dI v) = ((a.toNat : Int) == (c.toNat : Int) && n == m))) :
    fnX (cfg true) An 4 [.c (.int .u8 (a.toNat : Int)), .c (.int .u8 (c.toNat : Int)), .c (.int .u64 n), .c (.int .u64 m)] [] = some (.c (.bool true), []) := by
  rw [fnX_eq, p4_eq]
  have c0 := awake18_call true
  have m1 : 4 ≤ maxLen := big_max (by decide)
  have m2 : 5 ≤ maxLen := big_max (by decide)
  have m3 : 13 ≤ maxLen := big_max (by decide)
  generalize hq : (dI w == dI v) = q at *
  generalize hp : ((a.toNat : Int) == (c.toNat : Int)) = p at *
  generalize hr : (n == m) = r at *
  by_cases h : q = (p && r)
  · cases p with
    | true => cases r with
      | true =>
        simp only [Bool.and_self] at h
        subst h
        simp [p4, c0, en, em, vn, vm, be41, be4c, hq, hp, hr, hy, hz, m1, m2, m3]
      | false =>
        simp only [Bool.and_false] at h
        subst h
        simp [p4, c0, en, em, vn, vm, be41, be4c, hq, hp, hr, hy, hz, m1, m2, m3]
    | false =>
      simp only [Bool.false_and] at h
      subst h
      simp [p4, c0, en, em, vn, vm, be41, be4c, hq, hp, hr, hy, hz, m1, m2, m3]
  · have cl' := cl.resolve_right h
    simp only [two, hX, hY, List.cons_append, List.nil_append] at cl'
    cases p with
    | true => cases r with
      | true =>
        have hq2 : q = false := by cases q <;> simp_all
        subst hq2
        simp [p4, c0, en, em, vn, vm, be41, be4c, hq, hp, hr, hy, hz, m1, m2, m3, v34, cl']
      | false =>
        have hq2 : q = true := by cases q <;> simp_all
        subst hq2
        simp [p4, c0, en, em, vn, vm, be41, be4c, hq, hp, hr, hy, hz, m1, m2, m3, v34, cl']
    | false =>
      have hq2 : q = true := by cases q <;> simp_all
      subst hq2
      simp [p4, c0, en, em, vn, vm, be41, be4c, hq, hp, hr, hy, hz, m1, m2, m3, v34, cl']
theorem u8_eq (a c : UInt8) : ((a.toNat : Int) == (c.toNat : Int)) = decide (a = c) := by
  by_cases h : a = c
  · subst h; simp
  · have : ¬ (a.toNat : Int) = (c.toNat : Int) := fun e => h (by rw [← UInt8.toNat_inj]; omega)
    simp [h, this]
theorem dI_beq (w v : List UInt8) : (dI w == dI v) = decide (w = v) := by
  by_cases h : w = v
  · subst h; simp
  · have : ¬ dI w = dI v := fun e => h (by
      clear h
      induction w generalizing v with
      | nil => cases v with
        | nil => rfl
        | cons b v => simp [dI] at e
      | cons a w ih => cases v with
        | nil => simp [dI] at e
        | cons b v =>
          simp only [dI, List.map_cons, List.cons.injEq] at e
          have e1 : a = b := by rw [← UInt8.toNat_inj]; omega
          rw [e1, ih v e.2])
    simp [h, this]
theorem chainApart_fn (a c : UInt8) (n m : Int) (hn : 0 ≤ n) (hn2 : n < 18446744073709551616) (hm : 0 ≤ m) (hm2 : m < 18446744073709551616) :
    fnX (cfg true) An 4 [.c (.int .u8 (a.toNat : Int)), .c (.int .u8 (c.toNat : Int)), .c (.int .u64 n), .c (.int .u64 m)] [] = some (.c (.bool true), []) := by
  have hlen : ∀ (a : UInt8) (z : Int), (capT a z).length ≤ 1000000 := fun a z => by simp [capT, valsB, lenBytes]
  refine apart_core a c n m (capT a n) (capT c m) (lenBytes n) (lenBytes m) (shaW (capT a n)) (shaW (capT c m)) rfl rfl (by simp [capT, valsB, bytesAV]) (by simp [capT, valsB, bytesAV])
    (eight_call true n) (eight_call true m) (vals_call true a n) (vals_call true c m) ?_
  rw [u8_eq, dI_beq]
  by_cases hT : capT a n = capT c m
  · obtain ⟨e1, e2⟩ := capT_ne hn hn2 hm hm2 hT
    right
    subst e1 e2
    simp
  · by_cases hs : shaW (capT a n) = shaW (capT c m)
    · exact .inl (clash_two _ _ (hlen a n) (hlen c m) hs hT)
    · right
      have : ¬ (a = c ∧ n = m) := fun h => hT (by rw [h.1, h.2])
      by_cases e1 : a = c
      · have e2 : ¬ n = m := fun h => this ⟨e1, h⟩
        have e3 : (n == m) = false := by simpa using e2
        rw [e3, decide_eq_false hs, Bool.and_false]
      · rw [decide_eq_false hs, decide_eq_false e1, Bool.false_and]
end Go.Fm

