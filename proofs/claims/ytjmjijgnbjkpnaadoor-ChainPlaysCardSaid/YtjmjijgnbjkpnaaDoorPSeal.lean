/-
  A part of the proof: PSeal.
-/
import Derived.Test.YtjmjijgnbjkpnaaDoorPNu
import Derived.Test.YtjmjijgnbjkpnaaDoorDMisc
import Derived.Test.YtjmjijgnbjkpnaaDoorPLaw14
set_option linter.all false
set_option autoImplicit true
/-
  tlv.Num, tlv.Put.
-/
set_option maxRecDepth 100000
set_option linter.unusedVariables false
set_option linter.unusedSimpArgs false
namespace Go.Fm
open Go Go.Proofs
/-- What Num has of a number, from a place on. -/
def numG (z : Int) : Nat → Option (List UInt8) → Option (List UInt8)
  | 0, o => o
  | n + 1, o => numG z n (if byteOf (iShr .u64 z ((8 * n : Nat) : Int)) ≠ 0 ∨ 0 < (pB o).length then some (pB o ++ [byteOf (iShr .u64 z ((8 * n : Nat) : Int))]) else o)
theorem numG_s (z : Int) (n : Nat) (o : Option (List UInt8)) : numG z (n + 1) o = numG z n (if byteOf (iShr .u64 z ((8 * n : Nat) : Int)) ≠ 0 ∨ 0 < (pB o).length then some (pB o ++ [byteOf (iShr .u64 z ((8 * n : Nat) : Int))]) else o) := rfl
theorem numG_len (z : Int) : ∀ (n : Nat) (o : Option (List UInt8)), (pB (numG z n o)).length ≤ (pB o).length + n
  | 0, o => Nat.le_refl _
  | n + 1, o => by
    unfold numG
    have := numG_len z n (if byteOf (iShr .u64 z ((8 * n : Nat) : Int)) ≠ 0 ∨ 0 < (pB o).length then some (pB o ++ [byteOf (iShr .u64 z ((8 * n : Nat) : Int))]) else o)
    revert this
    split
    · simp only [pB, List.length_append, List.length_singleton]; omega
    · omega
def nA : Option (List UInt8) → AV
  | none => .c .nilsl
  | some _ => .os 0
def nH : Option (List UInt8) → Heap
  | none => []
  | some m => [.row 5 1 (bytesAV m)]
/-! CF -/
set_option maxHeartbeats 4000000 in
theorem tnum_loop (b : Bool) (cf : CallFn) (z : Int) : ∀ (n : Nat) (o : Option (List UInt8)), n ≤ 8 → (pB o).length + n ≤ 1000 →
    loopX 0 (p131_l0 b cf 0) [.c (.int .u64 z), nA o, .c (.int .i64 ((n : Int) - 1))] (nH o) = some (.exit 0 [nA (numG z n o)], nH (numG z n o))
  | 0, o, hn, hm => by
    have e : ((0 : Nat) : Int) - 1 = -1 := by decide
    rw [e, loopX_eq]
    cases o <;> simp [p131_l0, nA, nH, numG]
  | n + 1, o, hn, hm => by
    have e : ((n + 1 : Nat) : Int) - 1 = (n : Int) := by omega
    rw [numG_s]
    obtain ⟨k, hk⟩ : ∃ k : Nat, k = 8 * n := ⟨_, rfl⟩
    rw [← hk]
    have e1 : iMul .i64 8 (n : Int) = (k : Int) := by unfold iMul; rw [i64_small (by omega) (by omega)]; omega
    have e2 : iSub .i64 (n : Int) 1 = (n : Int) - 1 := by
      unfold iSub
      rcases Nat.eq_zero_or_pos n with h | h
      · subst h; decide
      · rw [i64_small (by omega) (by omega)]
    have e3 : ¬ (k : Int) < 0 := by omega
    have hz := wrap_byte (iShr .u64 z (k : Int))
    have ih := fun o h => tnum_loop b cf z n o (by omega) h
    generalize byteOf (iShr .u64 z (k : Int)) = x at *
    rw [e]
    have hx := big_max (n := (pB o).length + 1) (by omega)
    have hx1 : (pB o).length + 1 ≤ 140737488355328 := by omega
    have h1 : 1 ≤ maxLen := big_max (by decide)
    have hb : bytesAV [x] = [.int .u8 (x.toNat : Int)] := rfl
    by_cases hc : x ≠ 0 ∨ 0 < (pB o).length
    · rw [if_pos hc, ← ih (some (pB o ++ [x])) (by show (pB o ++ [x]).length + n ≤ 1000; rw [List.length_append, List.length_singleton]; omega)]
      cases o with
      | none =>
        have hx0 : x ≠ 0 := by simpa [pB] using hc
        have hx2 : ((x.toNat : Int) != 0) = true := by
          have : x.toNat ≠ 0 := fun h => hx0 (by rw [← UInt8.toNat_inj]; exact h)
          simp; omega
        rw [loopX_eq]
        simp [p131_l0, nA, nH, pB, e1, e2, e3, hz, hx2, h1, hb]
        rw [loopX_gc (s1 := [.c (.int .u64 z), .os 0, .c (.int .i64 ((n : Int) - 1))]) (H1 := [.row 5 1 [.int .u8 (x.toNat : Int)]]) (by simp) (by simp)]
      | some m =>
        simp only [pB] at hx hx1 hc
        have ha : bytesAV m ++ [.int .u8 (x.toNat : Int)] = bytesAV (m ++ [x]) := by simp [bytesAV]
        by_cases hx0 : x = 0
        · have hm0 : 0 < m.length := by simpa [hx0] using hc
          have hx2 : ((x.toNat : Int) != 0) = false := by rw [hx0]; rfl
          have hmI : (0 : Int) < (m.length : Int) := by omega
          rw [loopX_eq]
          simp [p131_l0, nA, nH, pB, e1, e2, e3, hz, hx2, hm0, hmI, h1, hx, hx1, ha]
          rw [loopX_gc (s1 := [.c (.int .u64 z), .os 0, .c (.int .i64 ((n : Int) - 1))]) (H1 := [.row 5 1 (bytesAV (m ++ [x]))]) (by simp) (by simp)]
        · have hx2 : ((x.toNat : Int) != 0) = true := by
            have : x.toNat ≠ 0 := fun h => hx0 (by rw [← UInt8.toNat_inj]; exact h)
            simp; omega
          rw [loopX_eq]
          simp [p131_l0, nA, nH, pB, e1, e2, e3, hz, hx2, h1, hx, hx1, ha]
          rw [loopX_gc (s1 := [.c (.int .u64 z), .os 0, .c (.int .i64 ((n : Int) - 1))]) (H1 := [.row 5 1 (bytesAV (m ++ [x]))]) (by simp) (by simp)]
    · rw [if_neg hc, ← ih o (by omega)]
      have hx0 : x = 0 := by
        apply Decidable.byContradiction
        intro h; exact hc (.inl h)
      have hl0 : (pB o).length = 0 := by omega
      have hx2 : ((x.toNat : Int) != 0) = false := by rw [hx0]; rfl
      have hm0 : ¬ (0 : Int) < ((pB o).length : Int) := by omega
      have hm1 : ¬ 0 < (pB o).length := by omega
      rw [loopX_eq]
      cases o with
      | none => simp [p131_l0, nA, nH, pB, e1, e2, e3, hz, hx2]
      | some m =>
        simp only [pB] at hm0 hm1
        simp [p131_l0, nA, nH, pB, e1, e2, e3, hz, hx2, hm0, hm1]
/-- A number as few bytes. -/
def numO (z : Int) : Option (List UInt8) := numG z 8 none
theorem numO_len (z : Int) : (pB (numO z)).length ≤ 8 := by have := numG_len z 8 none; simp only [pB, List.length_nil] at this; unfold numO; simp only [pB]; omega
theorem tnum_fn (b : Bool) (z : Int) : fnX (cfg b) An 131 [.c (.int .u64 z)] [] = some (.c (pV (numO z)), []) := by
  rw [fnX_eq, p131_eq]
  have e := tnum_loop b (callX (cfg b) An) z 8 none (by decide) (by simp [pB])
  have n7 : ((8 : Nat) : Int) - 1 = 7 := by decide
  rw [n7] at e
  simp only [nA, nH] at e
  rw [← numO] at e
  cases h : numO z with
  | none =>
    rw [h] at e
    simp only [nA, nH] at e
    simp [p131, e, pV]
  | some m =>
    rw [h] at e
    simp only [nA, nH] at e
    simp [p131, e, pV]
/-- A field behind others. -/
def tput (o : Option (List UInt8)) (tag : UInt8) (v : Option (List UInt8)) : List UInt8 :=
  if (pB v).length = 0 then pB o else pB o ++ [tag, byteOf (iShr .i64 ((pB v).length : Int) 8), byteOf ((pB v).length : Int)] ++ pB v
theorem tput_len (o : Option (List UInt8)) (tag : UInt8) (v : Option (List UInt8)) : (tput o tag v).length ≤ (pB o).length + 3 + (pB v).length := by
  unfold tput
  split
  · omega
  · simp only [List.length_append, List.length_cons, List.length_nil]; omega
end Go.Fm
/-
  tlv.Put; a writer's fields.
-/
set_option maxRecDepth 100000
set_option linter.unusedVariables false
set_option linter.unusedSimpArgs false
namespace Go.Fm
open Go Go.Proofs
theorem pVs (l : List UInt8) : pV (some l) = .sl 1 (bytesAV l) := rfl
/-! CF -/
set_option maxHeartbeats 4000000 in
theorem tput_fn (b : Bool) (o : Option (List UInt8)) (tag : UInt8) (v : Option (List UInt8)) (ho : (pB o).length ≤ 1000000) (hv : (pB v).length ≤ 65535) :
    fnX (cfg b) An 130 [.c (pV o), .c (.int .u8 (tag.toNat : Int)), .c (pV v)] [] = some (.tup [.c (.sl 1 (bytesAV (tput o tag v))), .c (.int .i64 0)], []) := by
  rw [fnX_eq, p130_eq]
  have l1 : ¬ (65535 : Int) < ((pB v).length : Int) := by omega
  have m0 : (pB o).length ≤ maxLen := big_max (by omega)
  have m1 : (pB o).length ≤ 140737488355328 := by omega
  by_cases h0 : (pB v).length = 0
  · have e : tput o tag v = pB o := if_pos h0
    have l2 : (((pB v).length : Int) == 0) = true := by simp [h0]
    rw [e]
    simp [p130, elemsOf_pV, l1, l2, h0, m0, m1]
  · have e : tput o tag v = pB o ++ [tag, byteOf (iShr .i64 ((pB v).length : Int) 8), byteOf ((pB v).length : Int)] ++ pB v := if_neg h0
    have l2 : (((pB v).length : Int) == 0) = false := by simp only [beq_eq_false_iff_ne, ne_eq]; omega
    have hz1 := wrap_byte (iShr .i64 ((pB v).length : Int) 8)
    have hz2 := wrap_byte ((pB v).length : Int)
    rw [e]
    generalize byteOf (iShr .i64 ((pB v).length : Int) 8) = x at *
    generalize byteOf ((pB v).length : Int) = y at *
    have m2 : (pB o).length + 3 ≤ maxLen := big_max (by omega)
    have m3 : (pB o).length + 3 ≤ 140737488355328 := by omega
    have m4 : (pB o).length + 3 + (pB v).length ≤ maxLen := big_max (by omega)
    have m5 : (pB o).length + 3 + (pB v).length ≤ 140737488355328 := by omega
    have m6 : 3 ≤ maxLen := big_max (by omega)
    have hb : bytesAV (pB o ++ [tag, x, y] ++ pB v) = bytesAV (pB o) ++ [.int .u8 (tag.toNat : Int), .int .u8 (x.toNat : Int), .int .u8 (y.toNat : Int)] ++ bytesAV (pB v) := by simp [bytesAV]
    rw [hb]
    simp [p130, elemsOf_pV, l1, l2, h0, hz1, hz2, m0, m1, m2, m3, m4, m5, m6]
theorem tput_call (b : Bool) (o : Option (List UInt8)) (tag : UInt8) (v : Option (List UInt8)) (ho : (pB o).length ≤ 1000000) (hv : (pB v).length ≤ 65535) (H : Heap) :
    callX (cfg b) An 130 [.c (pV o), .c (.int .u8 (tag.toNat : Int)), .c (pV v)] H = some (.tup [.c (.sl 1 (bytesAV (tput o tag v))), .c (.int .i64 0)], H) := callX_pure (tput_fn b o tag v ho hv) rfl rfl (prim_none (by decide)) H
theorem tnum_call (b : Bool) (z : Int) (H : Heap) : callX (cfg b) An 131 [.c (.int .u64 z)] H = some (.c (pV (numO z)), H) := callX_pure (tnum_fn b z) rfl rfl (prim_none (by decide)) H
/-- A writer without a fault. -/
def wH (o : Option (List UInt8)) : Heap := [.var 220 (.c (.agg [pV o, .int .i64 0]))]
set_option maxHeartbeats 4000000 in
theorem wbytes_fn (b : Bool) (o : Option (List UInt8)) (tag : UInt8) (v : Option (List UInt8)) (ho : (pB o).length ≤ 1000000) (hv : (pB v).length ≤ 65535) :
    fnX (cfg b) An 148 [.ov 0 [] 0, .c (.int .u8 (tag.toNat : Int)), .c (pV v)] (wH o) = some (.tup [], wH (some (tput o tag v))) := by
  rw [fnX_eq, p148_eq]
  have tc := tput_call b o tag v ho hv
  simp [p148, wH, tc, pVs]
theorem v148 {b : Bool} {H : Heap} {vs : List AV} : callX (cfg b) An 148 vs H = cvw (fnX (cfg b) An 148) (handCs (cfg b) false H vs) := callX_v (prim_none (by decide))
theorem v145 {b : Bool} {H : Heap} {vs : List AV} : callX (cfg b) An 145 vs H = cvw (fnX (cfg b) An 145) (handCs (cfg b) false H vs) := callX_v (prim_none (by decide))
theorem v146 {b : Bool} {H : Heap} {vs : List AV} : callX (cfg b) An 146 vs H = cvw (fnX (cfg b) An 146) (handCs (cfg b) false H vs) := callX_v (prim_none (by decide))
theorem frz220 {b : Bool} : (cfg b).frz 220 = false := rfl
theorem wnum_fn (b : Bool) (o : Option (List UInt8)) (tag : UInt8) (z : Int) (ho : (pB o).length ≤ 1000000) :
    fnX (cfg b) An 145 [.ov 0 [] 0, .c (.int .u8 (tag.toNat : Int)), .c (.int .u64 z)] (wH o) = some (.tup [], wH (some (tput o tag (numO z)))) := by
  rw [fnX_eq, p145_eq]
  have tc := tnum_call b z
  have wb := wbytes_fn b o tag (numO z) ho (by have := numO_len z; omega)
  generalize tput o tag (numO z) = w at *
  simp only [wH] at wb ⊢
  simp [p145, tc, v148, wb, frz220]
/-- A sum's field; none of noughts. -/
def hput (o : Option (List UInt8)) (tag : UInt8) (l : List UInt8) : Option (List UInt8) := if dI l = List.replicate 32 0 then o else some (tput o tag (some l))
theorem hput_len (o : Option (List UInt8)) (tag : UInt8) (l : List UInt8) : (pB (hput o tag l)).length ≤ (pB o).length + 3 + l.length := by
  unfold hput
  split
  · omega
  · have := tput_len o tag (some l); simp only [pB] at this ⊢; omega
set_option maxHeartbeats 4000000 in
theorem whash_fn (b : Bool) (o : Option (List UInt8)) (tag : UInt8) (l : List UInt8) (hl : l.length = 32) (ho : (pB o).length ≤ 1000000) :
    fnX (cfg b) An 146 [.ov 0 [] 0, .c (.int .u8 (tag.toNat : Int)), .c (.arr 32 .u8 (dI l))] (wH o) = some (.tup [], wH (hput o tag l)) := by
  rw [fnX_eq, p146_eq]
  have hd : (dI l).length = 32 := by simp [dI, hl]
  have h32 : 32 ≤ maxLen := big_max (by decide)
  have ht := take_av l 32 hl
  unfold hput
  by_cases h0 : dI l = List.replicate 32 0
  · rw [if_pos h0]
    have hb : (dI l == List.replicate 32 0) = true := by simpa using h0
    simp only [List.reduceReplicate] at hb
    simp only [wH]
    simp [p146, bne41, hd, hb]
  · rw [if_neg h0]
    have hb : (dI l == List.replicate 32 0) = false := by simpa using h0
    simp only [List.reduceReplicate] at hb
    have wb := wbytes_fn b o tag (some l) ho (by simp [pB, hl])
    generalize tput o tag (some l) = w at *
    simp only [wH, pVs] at wb ⊢
    simp [p146, bne41, hd, hb, h32, dI_map, ht, v148, wb, frz220]
/-! ### A header -/
structure HdrL where
  h : Int
  t : Int
  root : List UInt8
  vals : List UInt8
  next : List UInt8
  sl : List UInt8
structure HdrL.Ok (x : HdrL) : Prop where
  root : x.root.length = 32
  vals : x.vals.length = 32
  next : x.next.length = 32
  sl : x.sl.length = 32
def HdrL.cv (x : HdrL) : CV := .agg [.int .u64 x.h, .int .u64 x.t, .arr 32 .u8 (dI x.root), .arr 32 .u8 (dI x.vals), .arr 32 .u8 (dI x.next), .arr 32 .u8 (dI x.sl)]
def HdrL.b2 (x : HdrL) : Option (List UInt8) := some (tput (some (tput none 1 (numO x.h))) 2 (numO x.t))
def HdrL.b3 (x : HdrL) : Option (List UInt8) := hput x.b2 3 x.root
def HdrL.b4 (x : HdrL) : Option (List UInt8) := hput x.b3 4 x.vals
def HdrL.b5 (x : HdrL) : Option (List UInt8) := hput x.b4 5 x.next
def HdrL.b6 (x : HdrL) : Option (List UInt8) := hput x.b5 6 x.sl
theorem HdrL.len1 (x : HdrL) : (pB (some (tput none 1 (numO x.h)))).length ≤ 11 := by
  have := tput_len none 1 (numO x.h); have := numO_len x.h; simp only [pB, List.length_nil] at *; omega
theorem HdrL.len2 (x : HdrL) : (pB x.b2).length ≤ 22 := by
  have := tput_len (some (tput none 1 (numO x.h))) 2 (numO x.t); have := numO_len x.t; have := x.len1; unfold HdrL.b2; simp only [pB] at *; omega
theorem HdrL.len3 (x : HdrL) (ok : x.Ok) : (pB x.b3).length ≤ 57 := by have := hput_len x.b2 3 x.root; have := x.len2; have := ok.root; unfold HdrL.b3; omega
theorem HdrL.len4 (x : HdrL) (ok : x.Ok) : (pB x.b4).length ≤ 92 := by have := hput_len x.b3 4 x.vals; have := x.len3 ok; have := ok.vals; unfold HdrL.b4; omega
theorem HdrL.len5 (x : HdrL) (ok : x.Ok) : (pB x.b5).length ≤ 127 := by have := hput_len x.b4 5 x.next; have := x.len4 ok; have := ok.next; unfold HdrL.b5; omega
theorem HdrL.len6 (x : HdrL) (ok : x.Ok) : (pB x.b6).length ≤ 162 := by have := hput_len x.b5 6 x.sl; have := x.len5 ok; have := ok.sl; unfold HdrL.b6; omega
set_option maxHeartbeats 8000000 in
theorem header_fn (b : Bool) (x : HdrL) (ok : x.Ok) : fnX (cfg b) An 127 [.c x.cv] [] = some (.c (pV x.b6), []) := by
  rw [fnX_eq, p127_eq]
  have w1 := wnum_fn b none 1 x.h (by simp [pB])
  have w2 := wnum_fn b (some (tput none 1 (numO x.h))) 2 x.t (by have := x.len1; omega)
  have w3 := whash_fn b x.b2 3 x.root ok.root (by have := x.len2; omega)
  have w4 := whash_fn b x.b3 4 x.vals ok.vals (by have := x.len3 ok; omega)
  have w5 := whash_fn b x.b4 5 x.next ok.next (by have := x.len4 ok; omega)
  have w6 := whash_fn b x.b5 6 x.sl ok.sl (by have := x.len5 ok; omega)
  rw [← HdrL.b2] at w2
  rw [← HdrL.b3] at w3
  rw [← HdrL.b4] at w4
  rw [← HdrL.b5] at w5
  rw [← HdrL.b6] at w6
  have h1 : (dI x.root).length = 32 := by simp [dI, ok.root]
  have h2 : (dI x.vals).length = 32 := by simp [dI, ok.vals]
  have h3 : (dI x.next).length = 32 := by simp [dI, ok.next]
  have h4 : (dI x.sl).length = 32 := by simp [dI, ok.sl]
  have t1 : ((1 : UInt8).toNat : Int) = 1 := rfl
  have t2 : ((2 : UInt8).toNat : Int) = 2 := rfl
  have t3 : ((3 : UInt8).toNat : Int) = 3 := rfl
  have t4 : ((4 : UInt8).toNat : Int) = 4 := rfl
  have t5 : ((5 : UInt8).toNat : Int) = 5 := rfl
  have t6 : ((6 : UInt8).toNat : Int) = 6 := rfl
  rw [t1] at w1
  rw [t2] at w2
  rw [t3] at w3
  rw [t4] at w4
  rw [t5] at w5
  rw [t6] at w6
  have pn : pV none = .nilsl := rfl
  generalize x.b6 = B6 at *
  generalize x.b5 = B5 at *
  generalize x.b4 = B4 at *
  generalize x.b3 = B3 at *
  generalize x.b2 = B2 at *
  generalize some (tput none 1 (numO x.h)) = B1 at *
  simp only [wH, pn] at w1 w2 w3 w4 w5 w6
  simp only [HdrL.cv]
  simp [p127, v145, v146, w1, w2, w3, w4, w5, w6, frz220, h1, h2, h3, h4]
end Go.Fm
/-
  parcel.Seal.
-/
set_option maxRecDepth 100000
set_option linter.unusedVariables false
set_option linter.unusedSimpArgs false
namespace Go.Fm
open Go Go.Proofs
def HdrL.bare (x : HdrL) : HdrL := { x with sl := zero32 }
def sealB : List UInt8 := [115, 101, 97, 108]
def HdrL.sealW (x : HdrL) : List UInt8 := shaW (sealB ++ x.vals ++ pB x.bare.b6)
theorem HdrL.sealW_len (x : HdrL) : x.sealW.length = 32 := shaW_len _
theorem cf_PSeal3_cfea1bea : clashFree [0, 1, 0, 4, 0, 16, 63, 127, 255] [(false, [], 2, 3), (false, [2], 3, 3), (false, [0], 3, 3), (true, [0], 3, 3), (false, [0], 3, 3), (false, [], 3, 3), (true, [2], 3, 4), (true, [3], 4, 4), (true, [1], 4, 4)] = false := by decide
attribute [simp] cf_PSeal3_cfea1bea
theorem cf_PSeal3_80ec0a69 : clashFree [0, 1, 0, 4, 0, 16, 63, 127, 255] [(false, [], 2, 3), (false, [2], 3, 3), (false, [0], 3, 3), (false, [0], 3, 3), (false, [0], 3, 3), (false, [], 3, 3), (true, [2], 3, 4), (true, [3], 4, 4), (true, [1], 4, 4)] = true := by decide
attribute [simp] cf_PSeal3_80ec0a69
/-! CF -/
set_option maxHeartbeats 8000000 in
theorem seal_fn (b : Bool) (x : HdrL) (ok : x.Ok) : fnX (cfg b) An 98 [.c x.cv] [] = some (.c (.arr 32 .u8 (dI x.sealW)), []) := by
  rw [fnX_eq, p98_eq]
  have hok : x.bare.Ok := ⟨ok.root, ok.vals, ok.next, rfl⟩
  have hh : ∀ H, callX (cfg b) An 127 [.c x.bare.cv] H = _ := callX_pure (header_fn b x.bare hok) rfl rfl (prim_none (by decide))
  have hl6 := x.bare.len6 hok
  have e := sum_fn b [some sealB, some x.vals, x.bare.b6] (by simp) (by simp) (by simp only [catP, pB, sealB, List.length_append, List.length_cons, List.length_nil] at *; have := ok.vals; omega)
  have e1 : catP [some sealB, some x.vals, x.bare.b6] = sealB ++ x.vals ++ pB x.bare.b6 := by simp [catP, pB]
  rw [e1, ← HdrL.sealW] at e
  have e2 : [some sealB, some x.vals, x.bare.b6].map pV = [.sl 1 [.int .u8 115, .int .u8 101, .int .u8 97, .int .u8 108], .sl 1 (bytesAV x.vals), pV x.bare.b6] := rfl
  rw [e2] at e
  have hz : dI zero32 = List.replicate 32 0 := by decide
  have hbc : x.bare.cv = .agg [.int .u64 x.h, .int .u64 x.t, .arr 32 .u8 (dI x.root), .arr 32 .u8 (dI x.vals), .arr 32 .u8 (dI x.next), .arr 32 .u8 (List.replicate 32 0)] := by rw [← hz]; rfl
  rw [hbc] at hh
  have h1 : (dI x.root).length = 32 := by simp [dI, ok.root]
  have h2 : (dI x.vals).length = 32 := by simp [dI, ok.vals]
  have h3 : (dI x.next).length = 32 := by simp [dI, ok.next]
  have h4 : (dI x.sl).length = 32 := by simp [dI, ok.sl]
  have h5 : (dI x.sealW).length = 32 := by simp [dI, x.sealW_len]
  have h32 : 32 ≤ maxLen := big_max (by decide)
  have ht := take_av x.vals 32 ok.vals
  generalize x.sealW = w at *
  generalize x.bare.b6 = B6 at *
  simp only [HdrL.cv]
  simp only [List.reduceReplicate] at hh
  simp [p98, hh, v88, e, h1, h2, h3, h4, h5, h32, dI_map, ht]
theorem seal_call (b : Bool) (x : HdrL) (ok : x.Ok) (H : Heap) : callX (cfg b) An 98 [.c x.cv] H = some (.c (.arr 32 .u8 (dI x.sealW)), H) := callX_pure (seal_fn b x ok) rfl rfl (prim_none (by decide)) H
end Go.Fm
