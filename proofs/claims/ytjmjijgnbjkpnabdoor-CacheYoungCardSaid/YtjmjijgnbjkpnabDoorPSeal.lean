/-
  A part of the proof: PSeal.
-/
import Derived.Test.YtjmjijgnbjkpnabDoorPNu
import Derived.Test.YtjmjijgnbjkpnabDoorDNum
import Derived.Test.YtjmjijgnbjkpnabDoorDMisc
import Derived.Test.YtjmjijgnbjkpnabDoorPLaw14
set_option linter.all false
set_option autoImplicit true
/-
  tlv.Num, tlv.Put.
-/
set_option maxRecDepth 100000
set_option linter.unusedVariables false
set_option linter.unusedSimpArgs false
namespace Go.Fm
open Go Go.Proofs
/-- What Num has of a number, from a place on. -/
def numG (z : Int) : Nat → Option (List UInt8) → Option (List UInt8)
  | 0, o => o
  | n + 1, o => numG z n (if byteOf (iShr .u64 z ((8 * n : Nat) : Int)) ≠ 0 ∨ 0 < (pB o).length then some (pB o ++ [byteOf (iShr .u64 z ((8 * n : Nat) : Int))]) else o)
theorem numG_s (z : Int) (n : Nat) (o : Option (List UInt8)) : numG z (n + 1) o = numG z n (if byteOf (iShr .u64 z ((8 * n : Nat) : Int)) ≠ 0 ∨ 0 < (pB o).length then some (pB o ++ [byteOf (iShr .u64 z ((8 * n : Nat) : Int))]) else o) := rfl
theorem numG_len (z : Int) : ∀ (n : Nat) (o : Option (List UInt8)), (pB (numG z n o)).length ≤ (pB o).length + n
  | 0, o => Nat.le_refl _
  | n + 1, o => by
    unfold numG
    have := numG_len z n (if byteOf (iShr .u64 z ((8 * n : Nat) : Int)) ≠ 0 ∨ 0 < (pB o).length then some (pB o ++ [byteOf (iShr .u64 z ((8 * n : Nat) : Int))]) else o)
    revert this
    split
    · simp only [pB, List.length_append, List.length_singleton]; omega
    · omega
def nA : Option (List UInt8) → AV
  | none => .c .nilsl
  | some _ => .os 0
def nH : Option (List UInt8) → Heap
  | none => []
  | some m => [.row 5 1 (bytesAV m)]
/-! CF -/
set_option maxHeartbeats 4000000 in
theorem tnum_loop (b : Bool) (cf : CallFn) (z : Int) : ∀ (n : Nat) (o : Option (List UInt8)), n ≤ 8 → (pB o).length + n ≤ 1000 →
    loopX 0 (p48_l0 b cf 0) [.c (.int .u64 z), nA o, .c (.int .i64 ((n : Int) - 1))] (nH o) = some (.exit 0 [nA (numG z n o)], nH (numG z n o))
  | 0, o, hn, hm => by
    have e : ((0 : Nat) : Int) - 1 = -1 := by decide
    rw [e, loopX_eq]
    cases o <;> simp [p48_l0, nA, nH, numG]
  | n + 1, o, hn, hm => by
    have e : ((n + 1 : Nat) : Int) - 1 = (n : Int) := by omega
    rw [numG_s]
    obtain ⟨k, hk⟩ : ∃ k : Nat, k = 8 * n := ⟨_, rfl⟩
    rw [← hk]
    have e1 : iMul .i64 8 (n : Int) = (k : Int) := by unfold iMul; rw [i64_small (by omega) (by omega)]; omega
    have e2 : iSub .i64 (n : Int) 1 = (n : Int) - 1 := by
      unfold iSub
      rcases Nat.eq_zero_or_pos n with h | h
      · subst h; decide
      · rw [i64_small (by omega) (by omega)]
    have e3 : ¬ (k : Int) < 0 := by omega
    have hz := wrap_byte (iShr .u64 z (k : Int))
    have ih := fun o h => tnum_loop b cf z n o (by omega) h
    generalize byteOf (iShr .u64 z (k : Int)) = x at *
    rw [e]
    have hx := big_max (n := (pB o).length + 1) (by omega)
    have hx1 : (pB o).length + 1 ≤ 140737488355328 := by omega
    have h1 : 1 ≤ maxLen := big_max (by decide)
    have hb : bytesAV [x] = [.int .u8 (x.toNat : Int)] := rfl
    by_cases hc : x ≠ 0 ∨ 0 < (pB o).length
    · rw [if_pos hc, ← ih (some (pB o ++ [x])) (by show (pB o ++ [x]).length + n ≤ 1000; rw [List.length_append, List.length_singleton]; omega)]
      cases o with
      | none =>
        have hx0 : x ≠ 0 := by simpa [pB] using hc
        have hx2 : ((x.toNat : Int) != 0) = true := by
          have : x.toNat ≠ 0 := fun h => hx0 (by rw [← UInt8.toNat_inj]; exact h)
          simp; omega
        rw [loopX_eq]
        simp [p48_l0, nA, nH, pB, e1, e2, e3, hz, hx2, h1, hb]
        rw [loopX_gc (s1 := [.c (.int .u64 z), .os 0, .c (.int .i64 ((n : Int) - 1))]) (H1 := [.row 5 1 [.int .u8 (x.toNat : Int)]]) (by simp) (by simp)]
      | some m =>
        simp only [pB] at hx hx1 hc
        have ha : bytesAV m ++ [.int .u8 (x.toNat : Int)] = bytesAV (m ++ [x]) := by simp [bytesAV]
        by_cases hx0 : x = 0
        · have hm0 : 0 < m.length := by simpa [hx0] using hc
          have hx2 : ((x.toNat : Int) != 0) = false := by rw [hx0]; rfl
          have hmI : (0 : Int) < (m.length : Int) := by omega
          rw [loopX_eq]
          simp [p48_l0, nA, nH, pB, e1, e2, e3, hz, hx2, hm0, hmI, h1, hx, hx1, ha]
          rw [loopX_gc (s1 := [.c (.int .u64 z), .os 0, .c (.int .i64 ((n : Int) - 1))]) (H1 := [.row 5 1 (bytesAV (m ++ [x]))]) (by simp) (by simp)]
        · have hx2 : ((x.toNat : Int) != 0) = true := by
            have : x.toNat ≠ 0 := fun h => hx0 (by rw [← UInt8.toNat_inj]; exact h)
            simp; omega
          rw [loopX_eq]
          simp [p48_l0, nA, nH, pB, e1, e2, e3, hz, hx2, h1, hx, hx1, ha]
          rw [loopX_gc (s1 := [.c (.int .u64 z), .os 0, .c (.int .i64 ((n : Int) - 1))]) (H1 := [.row 5 1 (bytesAV (m ++ [x]))]) (by simp) (by simp)]
    · rw [if_neg hc, ← ih o (by omega)]
      have hx0 : x = 0 := by
        apply Decidable.byContradiction
        intro h; exact hc (.inl h)
      have hl0 : (pB o).length = 0 := by omega
      have hx2 : ((x.toNat : Int) != 0) = false := by rw [hx0]; rfl
      have hm0 : ¬ (0 : Int) < ((pB o).length : Int) := by omega
      have hm1 : ¬ 0 < (pB o).length := by omega
      rw [loopX_eq]
      cases o with
      | none => simp [p48_l0, nA, nH, pB, e1, e2, e3, hz, hx2]
      | some m =>
        simp only [pB] at hm0 hm1
        simp [p48_l0, nA, nH, pB, e1, e2, e3, hz, hx2, hm0, hm1]
/-- A number as few bytes. -/
def numO (z : Int) : Option (List UInt8) := numG z 8 none
theorem numO_len (z : Int) : (pB (numO z)).length ≤ 8 := by have := numG_len z 8 none; simp only [pB, List.length_nil] at this; unfold numO; simp only [pB]; omega
theorem tnum_fn (b : Bool) (z : Int) : fnX (cfg b) An 48 [.c (.int .u64 z)] [] = some (.c (pV (numO z)), []) := by
  rw [fnX_eq, p48_eq]
  have e := tnum_loop b (callX (cfg b) An) z 8 none (by decide) (by simp [pB])
  have n7 : ((8 : Nat) : Int) - 1 = 7 := by decide
  rw [n7] at e
  simp only [nA, nH] at e
  rw [← numO] at e
  cases h : numO z with
  | none =>
    rw [h] at e
    simp only [nA, nH] at e
    simp [p48, e, pV]
  | some m =>
    rw [h] at e
    simp only [nA, nH] at e
    simp [p48, e, pV]
/-- A field behind others. -/
def tput (o : Option (List UInt8)) (tag : UInt8) (v : Option (List UInt8)) : List UInt8 :=
  if (pB v).length = 0 then pB o else pB o ++ [tag, byteOf (iShr .i64 ((pB v).length : Int) 8), byteOf ((pB v).length : Int)] ++ pB v
theorem tput_len (o : Option (List UInt8)) (tag : UInt8) (v : Option (List UInt8)) : (tput o tag v).length ≤ (pB o).length + 3 + (pB v).length := by
  unfold tput
  split
  · omega
  · simp only [List.length_append, List.length_cons, List.length_nil]; omega
end Go.Fm
/-
  tlv.Put; a writer's fields.
-/
set_option maxRecDepth 100000
set_option linter.unusedVariables false
set_option linter.unusedSimpArgs false
namespace Go.Fm
open Go Go.Proofs
theorem pVs (l : List UInt8) : pV (some l) = .sl 1 (bytesAV l) := rfl
/-! CF -/
set_option maxHeartbeats 4000000 in
theorem tput_fn (b : Bool) (o : Option (List UInt8)) (tag : UInt8) (v : Option (List UInt8)) (ho : (pB o).length ≤ 1000000) (hv : (pB v).length ≤ 65535) :
    fnX (cfg b) An 47 [.c (pV o), .c (.int .u8 (tag.toNat : Int)), .c (pV v)] [] = some (.tup [.c (.sl 1 (bytesAV (tput o tag v))), .c (.int .i64 0)], []) := by
  rw [fnX_eq, p47_eq]
  have l1 : ¬ (65535 : Int) < ((pB v).length : Int) := by omega
  have m0 : (pB o).length ≤ maxLen := big_max (by omega)
  have m1 : (pB o).length ≤ 140737488355328 := by omega
  by_cases h0 : (pB v).length = 0
  · have e : tput o tag v = pB o := if_pos h0
    have l2 : (((pB v).length : Int) == 0) = true := by simp [h0]
    rw [e]
    simp [p47, elemsOf_pV, l1, l2, h0, m0, m1]
  · have e : tput o tag v = pB o ++ [tag, byteOf (iShr .i64 ((pB v).length : Int) 8), byteOf ((pB v).length : Int)] ++ pB v := if_neg h0
    have l2 : (((pB v).length : Int) == 0) = false := by simp only [beq_eq_false_iff_ne, ne_eq]; omega
    have hz1 := wrap_byte (iShr .i64 ((pB v).length : Int) 8)
    have hz2 := wrap_byte ((pB v).length : Int)
    rw [e]
    generalize byteOf (iShr .i64 ((pB v).length : Int) 8) = x at *
    generalize byteOf ((pB v).length : Int) = y at *
    have m2 : (pB o).length + 3 ≤ maxLen := big_max (by omega)
    have m3 : (pB o).length + 3 ≤ 140737488355328 := by omega
    have m4 : (pB o).length + 3 + (pB v).length ≤ maxLen := big_max (by omega)
    have m5 : (pB o).length + 3 + (pB v).length ≤ 140737488355328 := by omega
    have m6 : 3 ≤ maxLen := big_max (by omega)
    have hb : bytesAV (pB o ++ [tag, x, y] ++ pB v) = bytesAV (pB o) ++ [.int .u8 (tag.toNat : Int), .int .u8 (x.toNat : Int), .int .u8 (y.toNat : Int)] ++ bytesAV (pB v) := by simp [bytesAV]
    rw [hb]
    simp [p47, elemsOf_pV, l1, l2, h0, hz1, hz2, m0, m1, m2, m3, m4, m5, m6]
theorem tput_call (b : Bool) (o : Option (List UInt8)) (tag : UInt8) (v : Option (List UInt8)) (ho : (pB o).length ≤ 1000000) (hv : (pB v).length ≤ 65535) (H : Heap) :
    callX (cfg b) An 47 [.c (pV o), .c (.int .u8 (tag.toNat : Int)), .c (pV v)] H = some (.tup [.c (.sl 1 (bytesAV (tput o tag v))), .c (.int .i64 0)], H) := callX_pure (tput_fn b o tag v ho hv) rfl rfl (prim_none (by decide)) H
theorem tnum_call (b : Bool) (z : Int) (H : Heap) : callX (cfg b) An 48 [.c (.int .u64 z)] H = some (.c (pV (numO z)), H) := callX_pure (tnum_fn b z) rfl rfl (prim_none (by decide)) H
/-- A sum's field; none of noughts. -/
def hput (o : Option (List UInt8)) (tag : UInt8) (l : List UInt8) : Option (List UInt8) := if dI l = List.replicate 32 0 then o else some (tput o tag (some l))
/-! ### A header -/
structure HdrL where
  h : Int
  t : Int
  root : List UInt8
  vals : List UInt8
  next : List UInt8
  sl : List UInt8
structure HdrL.Ok (x : HdrL) : Prop where
  root : x.root.length = 32
  vals : x.vals.length = 32
  next : x.next.length = 32
  sl : x.sl.length = 32
def HdrL.cv (x : HdrL) : CV := .agg [.int .u64 x.h, .int .u64 x.t, .arr 32 .u8 (dI x.root), .arr 32 .u8 (dI x.vals), .arr 32 .u8 (dI x.next), .arr 32 .u8 (dI x.sl)]
def HdrL.b2 (x : HdrL) : Option (List UInt8) := some (tput (some (tput none 1 (numO x.h))) 2 (numO x.t))
def HdrL.b3 (x : HdrL) : Option (List UInt8) := hput x.b2 3 x.root
def HdrL.b4 (x : HdrL) : Option (List UInt8) := hput x.b3 4 x.vals
end Go.Fm
