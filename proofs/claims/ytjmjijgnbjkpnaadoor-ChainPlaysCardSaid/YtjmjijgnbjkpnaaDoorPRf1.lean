/-
  A part of the proof: PRf1.
-/
import Derived.Test.YtjmjijgnbjkpnaaDoorPSeal
import Derived.Test.YtjmjijgnbjkpnaaDoorPRSum
import Derived.Test.YtjmjijgnbjkpnaaDoorPLa4
import Derived.Test.YtjmjijgnbjkpnaaDoorDMisc
set_option linter.all false
set_option autoImplicit true
/-
  ferrymanref01: Put, Num, hash, Header, Seal; a chain's validators' sum.
-/
set_option maxRecDepth 100000
set_option linter.unusedVariables false
set_option linter.unusedSimpArgs false
namespace Go.Fm
open Go Go.Proofs
def isZ (x : UInt8) : Bool := x == 0
def numR (z : Int) : List UInt8 := (lenBytes z).dropWhile isZ
theorem numG_dw (z : Int) : ∀ (n : Nat) (o : Option (List UInt8)), pB (numG z n o) = if 0 < (pB o).length then pB o ++ (List.range n).reverse.map (fun i => byteOf (iShr .u64 z ((8 * i : Nat) : Int))) else pB o ++ ((List.range n).reverse.map (fun i => byteOf (iShr .u64 z ((8 * i : Nat) : Int)))).dropWhile isZ
  | 0, o => by simp [numG]
  | n + 1, o => by
    rw [numG_s, numG_dw z n]
    have e : (List.range (n + 1)).reverse.map (fun i => byteOf (iShr .u64 z ((8 * i : Nat) : Int))) = byteOf (iShr .u64 z ((8 * n : Nat) : Int)) :: (List.range n).reverse.map (fun i => byteOf (iShr .u64 z ((8 * i : Nat) : Int))) := by
      rw [List.range_succ, List.reverse_append, List.map_append]; rfl
    rw [e]
    generalize byteOf (iShr .u64 z ((8 * n : Nat) : Int)) = x
    generalize (List.range n).reverse.map (fun i => byteOf (iShr .u64 z ((8 * i : Nat) : Int))) = l
    by_cases h0 : 0 < (pB o).length
    · have hc : x ≠ 0 ∨ 0 < (pB o).length := .inr h0
      rw [if_pos h0]
      simp only [if_pos hc]
      rw [if_pos (by simp [pB])]
      simp [pB]
    · have hn : pB o = [] := List.eq_nil_of_length_eq_zero (by omega)
      rw [if_neg h0, hn]
      by_cases hx : x = 0
      · have hc : ¬ (x ≠ 0 ∨ 0 < ([] : List UInt8).length) := by simp [hx]
        simp only [if_neg hc]
        rw [hn]
        simp [List.dropWhile_cons, isZ, hx]
      · have hc : x ≠ 0 ∨ 0 < ([] : List UInt8).length := .inl hx
        simp only [if_pos hc]
        simp [List.dropWhile_cons, isZ, hx, pB]
theorem numO_R (z : Int) : pB (numO z) = numR z := by
  unfold numO numR
  rw [numG_dw]
  rfl
theorem numR_len (z : Int) : (numR z).length ≤ 8 := by rw [← numO_R]; exact numO_len z
theorem rn_step (b : Bool) (cf : CallFn) : ∀ (l : List UInt8), l.length ≤ 8 → loopX 0 (p139_l0 b cf 0) [.c (.sl 1 (bytesAV l))] [] = some (.exit 0 [.c (.sl 1 (bytesAV (l.dropWhile isZ)))], [])
  | [], h => by
    rw [loopX_eq]
    have e : bytesAV [] = [] := rfl
    simp [p139_l0, e]
  | x :: l, h => by
    rw [loopX_eq]
    have e : bytesAV (x :: l) = .int .u8 (x.toNat : Int) :: bytesAV l := rfl
    have hp : (0 : Int) < (l.length : Int) + 1 := by omega
    have hp1 : (1 : Int) ≤ (l.length : Int) + 1 := by omega
    have n0 : nthC (CV.int .u8 (x.toNat : Int) :: bytesAV l) 0 = .int .u8 (x.toNat : Int) := rfl
    have tk : (bytesAV l).take l.length = bytesAV l := List.take_of_length_le (by simp [bytesAV])
    by_cases hx : x = 0
    · have ih := rn_step b cf l (by simp at h; omega)
      have hz : ((x.toNat : Int) == 0) = true := by rw [hx]; rfl
      have ed : (x :: l).dropWhile isZ = l.dropWhile isZ := by simp [isZ, hx]
      rw [ed, e]
      simp [p139_l0, hp, hp1, n0, hz, tk, ih]
    · have hz : ((x.toNat : Int) == 0) = false := by
        have : x.toNat ≠ 0 := fun h => hx (by rw [← UInt8.toNat_inj]; exact h)
        simp; omega
      have ed : (x :: l).dropWhile isZ = x :: l := by simp [isZ, hx]
      rw [ed, e]
      simp [p139_l0, hp, n0, hz]
theorem rnum_fn (b : Bool) (z : Int) : fnX (cfg b) An 139 [.c (.int .u64 z)] [] = some (.c (.sl 1 (bytesAV (numR z))), []) := by
  rw [fnX_eq, p139_eq]
  have e := rn_step b (callX (cfg b) An) (lenBytes z) (by simp [lenBytes])
  have ec := eight_call b z
  have hl : (lenBytes z).length = 8 := rfl
  rw [← numR] at e
  generalize numR z = N at *
  generalize lenBytes z = l at *
  simp [p139, ec, e]
theorem rnum_call (b : Bool) (z : Int) (H : Heap) : callX (cfg b) An 139 [.c (.int .u64 z)] H = some (.c (.sl 1 (bytesAV (numR z))), H) := callX_pure (rnum_fn b z) rfl rfl (prim_none (by decide)) H
def rputO (o : Option (List UInt8)) (tag : UInt8) (v : List UInt8) : Option (List UInt8) := if v.length = 0 then o else some (tput o tag (some v))
theorem rputO_B (o : Option (List UInt8)) (tag : UInt8) (v : List UInt8) : pB (rputO o tag v) = tput o tag (some v) := by
  unfold rputO
  by_cases h : v.length = 0
  · rw [if_pos h]
    unfold tput
    rw [if_pos (by simpa [pB] using h)]
  · rw [if_neg h]; rfl
theorem tput_congr {o o' : Option (List UInt8)} {tag : UInt8} {v v' : Option (List UInt8)} (h : pB o = pB o') (hv : pB v = pB v') : tput o tag v = tput o' tag v' := by unfold tput; rw [h, hv]
theorem cf_PRf1_1fa39d4b : clashFree [0, 1, 0, 4, 15, 0, 63, 127, 255, 511] [(false, [], 2, 3), (false, [2], 3, 3), (false, [0], 3, 3), (true, [0], 3, 3), (true, [2], 3, 4), (false, [0], 4, 4), (false, [], 4, 4), (true, [3], 4, 5), (true, [4], 5, 5), (true, [1], 5, 5)] = false := by decide
attribute [simp] cf_PRf1_1fa39d4b
theorem cf_PRf1_bf324379 : clashFree [0, 1, 0, 4, 15, 0, 63, 127, 255, 511] [(false, [], 2, 3), (false, [2], 3, 3), (false, [0], 3, 3), (false, [0], 3, 3), (true, [2], 3, 4), (false, [0], 4, 4), (false, [], 4, 4), (true, [3], 4, 5), (true, [4], 5, 5), (true, [1], 5, 5)] = true := by decide
attribute [simp] cf_PRf1_bf324379
/-! CF -/
set_option maxHeartbeats 4000000 in
theorem r01put_fn (b : Bool) (o : Option (List UInt8)) (tag : UInt8) (v : List UInt8) (ho : (pB o).length ≤ 1000000) (hv : v.length ≤ 65535) :
    fnX (cfg b) An 138 [.c (pV o), .c (.int .u8 (tag.toNat : Int)), .c (.sl 1 (bytesAV v))] [] = some (.c (pV (rputO o tag v)), []) := by
  rw [fnX_eq, p138_eq]
  have m0 : (pB o).length ≤ maxLen := big_max (by omega)
  have m1 : (pB o).length ≤ 140737488355328 := by omega
  by_cases h0 : v.length = 0
  · have e : rputO o tag v = o := if_pos h0
    have l2 : ((v.length : Int) == 0) = true := by simp [h0]
    rw [e]
    simp [p138, l2, h0]
  · have e : rputO o tag v = some (pB o ++ [tag, byteOf (iShr .i64 (v.length : Int) 8), byteOf (v.length : Int)] ++ v) := by
      unfold rputO
      rw [if_neg h0]
      unfold tput
      rw [if_neg (by simpa [pB] using h0)]
      rfl
    have l2 : ((v.length : Int) == 0) = false := by simp only [beq_eq_false_iff_ne, ne_eq]; omega
    have hz1 := wrap_byte (iShr .i64 (v.length : Int) 8)
    have hz2 := wrap_byte (v.length : Int)
    have hs : iShr .i64 (v.length : Int) 8 = (v.length : Int) / 256 := by
      unfold iShr
      simp [IntKind.bits, Int.fdiv_eq_ediv_of_nonneg]
    rw [e, pVs]
    have hq1 : IntKind.i64.wrap ((v.length : Int) / 256) = (v.length : Int) / 256 := i64_small (by omega) (by omega)
    have hq2 : IntKind.u8.wrap ((v.length : Int).tmod 256) = IntKind.u8.wrap (v.length : Int) := by
      rw [Int.tmod_eq_emod_of_nonneg (by omega)]
      unfold IntKind.wrap
      simp [IntKind.bits, IntKind.signed]
    generalize hx8 : byteOf (iShr .i64 (v.length : Int) 8) = x at *
    generalize byteOf (v.length : Int) = y at *
    rw [hs] at hz1
    have m2 : (pB o).length + 3 ≤ maxLen := big_max (by omega)
    have m3 : (pB o).length + 3 ≤ 140737488355328 := by omega
    have m4 : (pB o).length + 3 + v.length ≤ maxLen := big_max (by omega)
    have m5 : (pB o).length + 3 + v.length ≤ 140737488355328 := by omega
    have m6 : 3 ≤ maxLen := big_max (by omega)
    have hb : bytesAV (pB o ++ [tag, x, y] ++ v) = bytesAV (pB o) ++ [.int .u8 (tag.toNat : Int), .int .u8 (x.toNat : Int), .int .u8 (y.toNat : Int)] ++ bytesAV v := by simp [bytesAV]
    rw [hb]
    simp [p138, elemsOf_pV, l2, h0, hq1, hq2, hz1, hz2, m0, m1, m2, m3, m4, m5, m6]
theorem r01put_call (b : Bool) (o : Option (List UInt8)) (tag : UInt8) (v : List UInt8) (ho : (pB o).length ≤ 1000000) (hv : v.length ≤ 65535) (H : Heap) :
    callX (cfg b) An 138 [.c (pV o), .c (.int .u8 (tag.toNat : Int)), .c (.sl 1 (bytesAV v))] H = some (.c (pV (rputO o tag v)), H) := callX_pure (r01put_fn b o tag v ho hv) rfl rfl (prim_none (by decide)) H
def rhO (o : Option (List UInt8)) (tag : UInt8) (l : List UInt8) : Option (List UInt8) := if dI l = List.replicate 32 0 then o else rputO o tag l
theorem rhO_B {o o' : Option (List UInt8)} (tag : UInt8) (l : List UInt8) (h : pB o = pB o') : pB (rhO o tag l) = pB (hput o' tag l) := by
  unfold rhO hput
  split
  · exact h
  · rw [rputO_B]
    exact tput_congr h rfl
set_option maxHeartbeats 4000000 in
theorem r01hash_fn (b : Bool) (o : Option (List UInt8)) (tag : UInt8) (l : List UInt8) (hl : l.length = 32) (ho : (pB o).length ≤ 1000000) :
    fnX (cfg b) An 140 [.c (pV o), .c (.int .u8 (tag.toNat : Int)), .c (.arr 32 .u8 (dI l))] [] = some (.c (pV (rhO o tag l)), []) := by
  rw [fnX_eq, p140_eq]
  have hd : (dI l).length = 32 := by simp [dI, hl]
  have h32 : 32 ≤ maxLen := big_max (by decide)
  have ht := take_av l 32 hl
  have pc := r01put_call b o tag l ho (by omega)
  unfold rhO
  by_cases h0 : dI l = List.replicate 32 0
  · rw [if_pos h0]
    have hb : (dI l == List.replicate 32 0) = true := by simpa using h0
    simp only [List.reduceReplicate] at hb
    simp [p140, be41, hd, hb]
  · rw [if_neg h0]
    have hb : (dI l == List.replicate 32 0) = false := by simpa using h0
    simp only [List.reduceReplicate] at hb
    generalize rputO o tag l = w at *
    simp [p140, be41, hd, hb, h32, dI_map, ht, pc]
theorem r01hash_call (b : Bool) (o : Option (List UInt8)) (tag : UInt8) (l : List UInt8) (hl : l.length = 32) (ho : (pB o).length ≤ 1000000) (H : Heap) :
    callX (cfg b) An 140 [.c (pV o), .c (.int .u8 (tag.toNat : Int)), .c (.arr 32 .u8 (dI l))] H = some (.c (pV (rhO o tag l)), H) := callX_pure (r01hash_fn b o tag l hl ho) rfl rfl (prim_none (by decide)) H
def HdrL.r1 (x : HdrL) : Option (List UInt8) := rputO none 1 (numR x.h)
def HdrL.r2 (x : HdrL) : Option (List UInt8) := rputO x.r1 2 (numR x.t)
def HdrL.r3 (x : HdrL) : Option (List UInt8) := rhO x.r2 3 x.root
def HdrL.r4 (x : HdrL) : Option (List UInt8) := rhO x.r3 4 x.vals
def HdrL.r5 (x : HdrL) : Option (List UInt8) := rhO x.r4 5 x.next
def HdrL.r6 (x : HdrL) : Option (List UInt8) := rhO x.r5 6 x.sl
theorem HdrL.rB1 (x : HdrL) : pB x.r1 = pB (some (tput none 1 (numO x.h))) := by
  unfold HdrL.r1
  rw [rputO_B]
  exact tput_congr rfl (numO_R x.h).symm
theorem HdrL.rB2 (x : HdrL) : pB x.r2 = pB x.b2 := by
  unfold HdrL.r2 HdrL.b2
  rw [rputO_B]
  exact tput_congr x.rB1 (numO_R x.t).symm
theorem HdrL.rB3 (x : HdrL) : pB x.r3 = pB x.b3 := rhO_B 3 x.root x.rB2
theorem HdrL.rB4 (x : HdrL) : pB x.r4 = pB x.b4 := rhO_B 4 x.vals x.rB3
theorem HdrL.rB5 (x : HdrL) : pB x.r5 = pB x.b5 := rhO_B 5 x.next x.rB4
theorem HdrL.rB6 (x : HdrL) : pB x.r6 = pB x.b6 := rhO_B 6 x.sl x.rB5
set_option maxHeartbeats 8000000 in
theorem r01header_fn (b : Bool) (x : HdrL) (ok : x.Ok) : fnX (cfg b) An 116 [.c x.cv] [] = some (.c (pV x.r6), []) := by
  rw [fnX_eq, p116_eq]
  have w1 := r01put_call b none 1 (numR x.h) (by simp [pB]) (by have := numR_len x.h; omega)
  have w2 := r01put_call b x.r1 2 (numR x.t) (by rw [x.rB1]; have := x.len1; omega) (by have := numR_len x.t; omega)
  have w3 := r01hash_call b x.r2 3 x.root ok.root (by rw [x.rB2]; have := x.len2; omega)
  have w4 := r01hash_call b x.r3 4 x.vals ok.vals (by rw [x.rB3]; have := x.len3 ok; omega)
  have w5 := r01hash_call b x.r4 5 x.next ok.next (by rw [x.rB4]; have := x.len4 ok; omega)
  have w6 := r01hash_call b x.r5 6 x.sl ok.sl (by rw [x.rB5]; have := x.len5 ok; omega)
  rw [← HdrL.r1] at w1
  rw [← HdrL.r2] at w2
  rw [← HdrL.r3] at w3
  rw [← HdrL.r4] at w4
  rw [← HdrL.r5] at w5
  rw [← HdrL.r6] at w6
  have n1 := rnum_call b x.h
  have n2 := rnum_call b x.t
  have h1 : (dI x.root).length = 32 := by simp [dI, ok.root]
  have h2 : (dI x.vals).length = 32 := by simp [dI, ok.vals]
  have h3 : (dI x.next).length = 32 := by simp [dI, ok.next]
  have h4 : (dI x.sl).length = 32 := by simp [dI, ok.sl]
  have t1 : ((1 : UInt8).toNat : Int) = 1 := rfl
  have t2 : ((2 : UInt8).toNat : Int) = 2 := rfl
  have t3 : ((3 : UInt8).toNat : Int) = 3 := rfl
  have t4 : ((4 : UInt8).toNat : Int) = 4 := rfl
  have t5 : ((5 : UInt8).toNat : Int) = 5 := rfl
  have t6 : ((6 : UInt8).toNat : Int) = 6 := rfl
  rw [t1] at w1
  rw [t2] at w2
  rw [t3] at w3
  rw [t4] at w4
  rw [t5] at w5
  rw [t6] at w6
  have pn : pV none = .nilsl := rfl
  rw [pn] at w1
  generalize x.r6 = B6 at *
  generalize x.r5 = B5 at *
  generalize x.r4 = B4 at *
  generalize x.r3 = B3 at *
  generalize x.r2 = B2 at *
  generalize x.r1 = B1 at *
  generalize numR x.h = N1 at *
  generalize numR x.t = N2 at *
  simp only [HdrL.cv]
  simp [p116, p116_d0, p116_d1, n1, n2, w1, w2, w3, w4, w5, w6, h1, h2, h3, h4]
theorem v90r {b : Bool} {H : Heap} {vs : List AV} : callX (cfg b) An 90 vs H = cvw (fnX (cfg b) An 90) (handCs (cfg b) false H vs) := callX_v (prim_none (by decide))
set_option maxHeartbeats 8000000 in
theorem r01seal_fn (x : HdrL) (ok : x.Ok) : fnX (cfg true) An 83 [.c x.cv] [] = some (.c (.arr 32 .u8 (dI x.sealW)), []) := by
  rw [fnX_eq, p83_eq]
  have hok : x.bare.Ok := ⟨ok.root, ok.vals, ok.next, rfl⟩
  have hh : ∀ H, callX (cfg true) An 116 [.c x.bare.cv] H = _ := callX_pure (r01header_fn true x.bare hok) rfl rfl (prim_none (by decide))
  have hl6 : (pB x.bare.r6).length ≤ 162 := by rw [x.bare.rB6]; exact x.bare.len6 hok
  have e := rsum_fn (some (sealB ++ x.vals ++ pB x.bare.r6)) (by simp only [pB, sealB, List.length_append, List.length_cons, List.length_nil] at *; have := ok.vals; omega)
  have e1 : pB (some (sealB ++ x.vals ++ pB x.bare.r6)) = sealB ++ x.vals ++ pB x.bare.b6 := by rw [← x.bare.rB6]; rfl
  rw [e1, ← HdrL.sealW] at e
  have e2 : pV (some (sealB ++ x.vals ++ pB x.bare.r6)) = .sl 1 ([.int .u8 115, .int .u8 101, .int .u8 97, .int .u8 108] ++ bytesAV x.vals ++ bytesAV (pB x.bare.r6)) := by simp [pV, bytesAV, sealB]
  rw [e2] at e
  have hz : dI zero32 = List.replicate 32 0 := by decide
  have hbc : x.bare.cv = .agg [.int .u64 x.h, .int .u64 x.t, .arr 32 .u8 (dI x.root), .arr 32 .u8 (dI x.vals), .arr 32 .u8 (dI x.next), .arr 32 .u8 (List.replicate 32 0)] := by rw [← hz]; rfl
  rw [hbc] at hh
  have h1 : (dI x.root).length = 32 := by simp [dI, ok.root]
  have h2 : (dI x.vals).length = 32 := by simp [dI, ok.vals]
  have h3 : (dI x.next).length = 32 := by simp [dI, ok.next]
  have h4 : (dI x.sl).length = 32 := by simp [dI, ok.sl]
  have h5 : (dI x.sealW).length = 32 := by simp [dI, x.sealW_len]
  have h6 : x.vals.length = 32 := ok.vals
  have h32 : 32 ≤ maxLen := big_max (by decide)
  have m4 : 4 ≤ maxLen := big_max (by decide)
  have m36 : 36 ≤ maxLen := big_max (by decide)
  have ht := take_av x.vals 32 ok.vals
  generalize x.sealW = w at *
  generalize x.bare.r6 = B6 at *
  have m5 : (pB B6).length + 36 ≤ maxLen := big_max (by omega)
  have m6 : 36 + (pB B6).length ≤ maxLen := big_max (by omega)
  have m7 : 36 + (pB B6).length ≤ 140737488355328 := by omega
  have m8 : 4 + (32 + (pB B6).length) ≤ maxLen := big_max (by omega)
  simp only [HdrL.cv]
  simp only [List.reduceReplicate] at hh
  simp only [List.cons_append, List.nil_append, List.append_assoc] at e
  simp [p83, p83_d0, hh, v90r, e, elemsOf_pV, h1, h2, h3, h4, h5, h6, h32, m4, m36, m5, m6, m7, m8, dI_map, ht]
theorem r01seal_call (x : HdrL) (ok : x.Ok) (H : Heap) : callX (cfg true) An 83 [.c x.cv] H = some (.c (.arr 32 .u8 (dI x.sealW)), H) := callX_pure (r01seal_fn x ok) rfl rfl (prim_none (by decide)) H
theorem vals82_fn (a : UInt8) (z : Int) : fnX (cfg true) An 82 [.c (.int .u8 (a.toNat : Int)), .c (.int .u64 z)] [] = some (.c (.arr 32 .u8 (dI (shaW (valsB ++ a :: lenBytes z)))), []) := by
  rw [fnX_eq, p82_eq]
  have hl : (lenBytes z).length = 8 := rfl
  have ec := eight_call true z
  have e := rsum_fn (some (valsB ++ a :: lenBytes z)) (by simp [pB, valsB, hl])
  have e1 : pB (some (valsB ++ a :: lenBytes z)) = valsB ++ a :: lenBytes z := rfl
  rw [e1] at e
  have h5 : (dI (shaW (valsB ++ a :: lenBytes z))).length = 32 := len32 (shaW_len _)
  have e2 : pV (some (valsB ++ a :: lenBytes z)) = .sl 1 (.int .u8 118 :: .int .u8 97 :: .int .u8 108 :: .int .u8 115 :: .int .u8 (a.toNat : Int) :: bytesAV (lenBytes z)) := rfl
  rw [e2] at e
  have m1 : 4 + 1 ≤ maxLen := big_max (by decide)
  have m2 : 5 ≤ maxLen := big_max (by decide)
  have m3 : 13 ≤ maxLen := big_max (by decide)
  generalize shaW (valsB ++ a :: lenBytes z) = w at *
  generalize lenBytes z = l at *
  simp [p82, ec, v90r, e, hl, h5, m1, m2, m3]
theorem vals82_call (a : UInt8) (z : Int) (H : Heap) : callX (cfg true) An 82 [.c (.int .u8 (a.toNat : Int)), .c (.int .u64 z)] H = some (.c (.arr 32 .u8 (dI (shaW (valsB ++ a :: lenBytes z)))), H) := callX_pure (vals82_fn a z) rfl rfl (prim_none (by decide)) H
end Go.Fm
