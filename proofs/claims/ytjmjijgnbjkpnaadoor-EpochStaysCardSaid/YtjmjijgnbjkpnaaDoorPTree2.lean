/-
  A part of the proof: PTree2.
-/
import Derived.Test.YtjmjijgnbjkpnaaDoorPTree1
set_option linter.all false
set_option autoImplicit true
/-
  tree: leaves and inner nodes.
-/
set_option maxRecDepth 100000
set_option linter.unusedVariables false
set_option linter.unusedSimpArgs false
namespace Go.Fm
open Go Go.Proofs

theorem bytesC_av' (bs : List UInt8) : bytesC (bytesAV bs) = some bs := bytesC_av bs
theorem prim101e {b : Bool} : (cfg b).prim 101 = some compareP := rfl
theorem prim103e {b : Bool} : (cfg b).prim 103 = some cloneP := rfl
theorem handCs_cs (b keep : Bool) (H : Heap) (vs : List AV) (h : vs.all AV.isC = true) : handCs (cfg b) keep H vs = some (vs, H) := handCs_c _ _ _ h
/-- bytes.Clone -/
theorem clone_call (b : Bool) (v : Option (List UInt8)) (hv : (pB v).length ≤ 140737488355328) (H : Heap) : callX (cfg b) An 103 [.c (pV v)] H = some (.c (pV v), H) := by
  rw [callX_prim prim103e, handCs_cs _ _ _ _ rfl]
  cases v with
  | none => rfl
  | some bs =>
    simp only [pV, cloneP, bytesC_av]
    rw [if_pos (by simpa [pB] using hv)]
theorem clone_sl (b : Bool) (k : List UInt8) (hv : k.length ≤ 140737488355328) (H : Heap) : callX (cfg b) An 103 [.c (.sl 1 (bytesAV k))] H = some (.c (.sl 1 (bytesAV k)), H) := clone_call b (some k) hv H
def cmpZ (x y : List UInt8) : Int := if Op.bytesLess x y then -1 else if x == y then 0 else 1
theorem compare_call (b : Bool) (x y : List UInt8) (H : Heap) : callX (cfg b) An 101 [.c (.sl 1 (bytesAV x)), .c (.sl 1 (bytesAV y))] H = some (.c (.int .i64 (cmpZ x y)), H) := by
  rw [callX_prim prim101e, handCs_cs _ _ _ _ rfl]
  simp only [compareP, bts, bytesC_av]
  rfl
theorem cmpZ_lt (x y : List UInt8) : decide (cmpZ x y < 0) = Op.bytesLess x y := by
  unfold cmpZ
  cases Op.bytesLess x y with
  | true => rfl
  | false => cases h : x == y <;> rfl
theorem bytesLess_irr : ∀ (x : List UInt8), Op.bytesLess x x = false
  | [] => rfl
  | a :: x => by simp [Op.bytesLess, bytesLess_irr x]
theorem cmpZ_gt (x y : List UInt8) : decide (cmpZ x y > 0) = (!Op.bytesLess x y && !(x == y)) := by
  unfold cmpZ
  cases Op.bytesLess x y with
  | true => rfl
  | false => cases h : x == y <;> rfl

/-! ### size -/
theorem size_step (b : Bool) (cf : CallFn) (z : Int) (ds : List UInt8) (hl : ds.length = 8) (i k : Nat) (h0 : i < 8) (hk : iSub .i64 56 (iMul .i64 8 (i : Int)) = (k : Int)) (hj : iAdd .i64 (i : Int) 1 = ((i + 1 : Nat) : Int)) :
    loopX 0 (p96_l0 b cf 0) [.c (.int .u64 z), .ov 0 [] 0, .c (.int .i64 (i : Int))] [.var 202 (.c (.arr 8 .u8 (dI ds)))] =
      loopX 0 (p96_l0 b cf 0) [.c (.int .u64 z), .ov 0 [] 0, .c (.int .i64 ((i + 1 : Nat) : Int))] [.var 202 (.c (.arr 8 .u8 (dI (ds.set i (byteOf (iShr .u64 z k))))))] := by
  rw [loopX_eq]
  have hz := wrap_byte (iShr .u64 z k)
  have hd : (dI ds).length = 8 := by simp [dI, hl]
  have he : (dI ds).set i ((byteOf (iShr .u64 z k)).toNat : Int) = dI (ds.set i (byteOf (iShr .u64 z k))) := by simp [dI, List.map_set]
  have h1 : ((i : Nat) : Int) < 8 := by omega
  have h2 : (0 : Int) ≤ (i : Int) := by omega
  have h3 : ¬ ((k : Nat) : Int) < 0 := by omega
  simp only [Int.natCast_add, Int.cast_ofNat_Int] at hj
  simp [p96_l0, h0, h1, h2, h3, hk, hj, hz, hd, he]
theorem size_fn (b : Bool) (z : Int) : fnX (cfg b) An 96 [.c (.int .u64 z)] [] = some (.c (.sl 1 (bytesAV (lenBytes z))), []) := by
  rw [fnX_eq, p96_eq]
  have e : loopX 0 (p96_l0 b (callX (cfg b) An) 0) [.c (.int .u64 z), .ov 0 [] 0, .c (.int .i64 0)] [.var 202 (.c (.arr 8 .u8 (List.replicate 8 0)))] = some (.exit 0 [.ov 0 [] 0], [.var 202 (.c (.arr 8 .u8 (dI (lenBytes z))))]) := by
    have h0 : (List.replicate 8 (0 : Int)) = dI [0, 0, 0, 0, 0, 0, 0, 0] := by decide
    have n0 : (0 : Int) = ((0 : Nat) : Int) := rfl
    rw [h0]
    rw [n0]
    rw [size_step b _ z _ (by simp) 0 56 (by decide) (by decide) (by decide), size_step b _ z _ (by simp) 1 48 (by decide) (by decide) (by decide), size_step b _ z _ (by simp) 2 40 (by decide) (by decide) (by decide),
      size_step b _ z _ (by simp) 3 32 (by decide) (by decide) (by decide), size_step b _ z _ (by simp) 4 24 (by decide) (by decide) (by decide), size_step b _ z _ (by simp) 5 16 (by decide) (by decide) (by decide),
      size_step b _ z _ (by simp) 6 8 (by decide) (by decide) (by decide), size_step b _ z _ (by simp) 7 0 (by decide) (by decide) (by decide)]
    rw [loopX_eq]
    simp [p96_l0, lenBytes]
  have hd : (dI (lenBytes z)).length = 8 := by simp [dI, lenBytes]
  have hm : (dI (lenBytes z)).map (CV.int .u8) = bytesAV (lenBytes z) := by simp [dI, bytesAV]
  have h8 : 8 ≤ maxLen := big_max (by decide)
  have ht : (bytesAV (lenBytes z)).take 8 = bytesAV (lenBytes z) := List.take_of_length_le (by simp [lenBytes])
  simp only [List.reduceReplicate] at e
  simp [p96, e, hd, hm, h8, ht]

/-! ### Hash -/
theorem sum_call (b : Bool) (ps : List (Option (List UInt8))) (hne : ps ≠ []) (hs : ps.length ≤ 1000000000) (hm : (catP ps).length ≤ 100000000000000) (H : Heap) :
    callX (cfg b) An 88 [.c (.sl 1 (ps.map pV))] H = some (.c (.arr 32 .u8 (dI (shaW (catP ps)))), H) := callX_pure (sum_fn b ps hne hs hm) rfl rfl (prim_none (by decide)) H
theorem size_call (b : Bool) (z : Int) (H : Heap) : callX (cfg b) An 96 [.c (.int .u64 z)] H = some (.c (.sl 1 (bytesAV (lenBytes z))), H) := callX_pure (size_fn b z) rfl rfl (prim_none (by decide)) H
theorem v88 {b : Bool} {H : Heap} {vs : List AV} : callX (cfg b) An 88 vs H = cvw (fnX (cfg b) An 88) (handCs (cfg b) false H vs) := callX_v (prim_none (by decide))

theorem api_leaf (k : List UInt8) (v : Option (List UInt8)) : (Tn.leaf k v).api = .agg [.sl 1 (bytesAV k), pV v, .int .i64 0, .int .u64 1, .arr 32 .u8 (dI zero32), .arr 32 .u8 (dI zero32)] := rfl
theorem api_node (l r : Tn) : (Tn.node l r).api = .agg [.sl 1 (bytesAV r.least), .nilsl, .int .i64 ((1 + max l.ht r.ht : Nat) : Int), .int .u64 ((l.sz + r.sz : Nat) : Int), .arr 32 .u8 (dI l.hash), .arr 32 .u8 (dI r.hash)] := rfl
theorem dI_map (l : List UInt8) : (dI l).map (CV.int .u8) = bytesAV l := by simp [dI, bytesAV]
theorem take_av (l : List UInt8) (n : Nat) (h : l.length = n) : (bytesAV l).take n = bytesAV l := List.take_of_length_le (by simp [h])

set_option maxHeartbeats 4000000 in
theorem hash_leaf (b : Bool) (k : List UInt8) (v : Option (List UInt8)) (hk : k.length ≤ 1000000) (hv : (pB v).length ≤ 1000000) : fnX (cfg b) An 49 [.c (Tn.leaf k v).api] [] = some (.c (.arr 32 .u8 (dI (Tn.leaf k v).hash)), []) := by
  rw [fnX_eq, p49_eq, api_leaf]
  have e1 := sum_fn b [v] (by simp) (by simp) (by simp [catP]; omega)
  have c1 : catP [v] = pB v := by simp [catP]
  rw [c1] at e1
  obtain ⟨w, hw⟩ : ∃ w, w = shaW (pB v) := ⟨_, rfl⟩
  have hwl : w.length = 32 := by rw [hw, shaW_len]
  have e2 := sum_fn b [some [0, byteOf (k.length : Int)], some k, some w] (by simp) (by simp) (by simp [catP, pB]; omega)
  have c2 : catP [some [0, byteOf (k.length : Int)], some k, some w] = [0, byteOf (k.length : Int)] ++ k ++ w := by simp [catP, pB]
  rw [c2] at e2
  have hh : (Tn.leaf k v).hash = shaW ([0, byteOf (k.length : Int)] ++ k ++ w) := by rw [hw]; rfl
  have hl : (dI (shaW ([0, byteOf (k.length : Int)] ++ k ++ w))).length = 32 := by simp [dI, shaW_len]
  rw [hh]
  rw [← hw] at e1
  generalize shaW ([0, byteOf (k.length : Int)] ++ k ++ w) = x at *
  have hb := wrap_byte (k.length : Int)
  generalize byteOf (k.length : Int) = z at *
  have hdw : (dI w).length = 32 := by simp [dI, hwl]
  have h32 : 32 ≤ maxLen := big_max (by decide)
  have ht := take_av w 32 hwl
  have e1' : fnX (cfg b) An 88 [.c (.sl 1 [pV v])] [] = some (.c (.arr 32 .u8 (dI w)), []) := e1
  have e2' : fnX (cfg b) An 88 [.c (.sl 1 [.sl 1 [.int .u8 0, .int .u8 (z.toNat : Int)], .sl 1 (bytesAV k), .sl 1 (bytesAV w)])] [] = some (.c (.arr 32 .u8 (dI x)), []) := e2
  have hka : (cfg b).keepA 88 = false := rfl
  have hcf : clashFree [0, 1, 3, 7, 15, 0, 32, 0, 255, 511, 1023] [(false, [0], 4, 4), (false, [0], 4, 4), (false, [], 4, 4), (false, [], 4, 4), (false, [], 4, 5), (false, [0], 5, 5), (false, [0], 5, 5), (true, [3], 5, 5), (true, [4], 5, 6), (true, [5], 6, 6), (true, [1], 6, 6)] = true := by decide
  simp [p49, v88, hka, hcf, e1', e2', hl, hdw, h32, dI_map, ht, hb]

set_option maxHeartbeats 4000000 in
theorem hash_node (b : Bool) (l r : Tn) : fnX (cfg b) An 49 [.c (Tn.node l r).api] [] = some (.c (.arr 32 .u8 (dI (Tn.node l r).hash)), []) := by
  rw [fnX_eq, p49_eq, api_node]
  obtain ⟨h, hh⟩ : ∃ h : Nat, h = 1 + max l.ht r.ht := ⟨_, rfl⟩
  obtain ⟨s, hs⟩ : ∃ s : Nat, s = l.sz + r.sz := ⟨_, rfl⟩
  have hx : (Tn.node l r).hash = shaW ([1, byteOf (h : Int)] ++ lenBytes (s : Int) ++ l.hash ++ r.hash) := by rw [hh, hs]; rfl
  rw [hx, ← hh, ← hs]
  have h0 : h ≠ 0 := by omega
  have hll := l.hash_len
  have hrl := r.hash_len
  generalize l.hash = a at *
  generalize r.hash = c at *
  have e2 := sum_fn b [some [1, byteOf (h : Int)], some (lenBytes (s : Int)), some a, some c] (by simp) (by simp) (by simp [catP, pB, lenBytes, hll, hrl])
  have c2 : catP [some [1, byteOf (h : Int)], some (lenBytes (s : Int)), some a, some c] = [1, byteOf (h : Int)] ++ lenBytes (s : Int) ++ a ++ c := by simp [catP, pB]
  rw [c2] at e2
  have hl : (dI (shaW ([1, byteOf (h : Int)] ++ lenBytes (s : Int) ++ a ++ c))).length = 32 := by simp [dI, shaW_len]
  generalize shaW ([1, byteOf (h : Int)] ++ lenBytes (s : Int) ++ a ++ c) = x at *
  have hb := wrap_byte (h : Int)
  generalize byteOf (h : Int) = z at *
  have hsz := size_call b (s : Int)
  generalize lenBytes (s : Int) = y at *
  have hda : (dI a).length = 32 := by simp [dI, hll]
  have hdc : (dI c).length = 32 := by simp [dI, hrl]
  have h32 : 32 ≤ maxLen := big_max (by decide)
  have hta := take_av a 32 hll
  have htc := take_av c 32 hrl
  have e2' : fnX (cfg b) An 88 [.c (.sl 1 [.sl 1 [.int .u8 1, .int .u8 (z.toNat : Int)], .sl 1 (bytesAV y), .sl 1 (bytesAV a), .sl 1 (bytesAV c)])] [] = some (.c (.arr 32 .u8 (dI x)), []) := e2
  have hka : (cfg b).keepA 88 = false := rfl
  have hcf : clashFree [0, 1, 3, 7, 0, 16, 48, 0, 128, 0, 512, 2047, 4095, 8191] [(false, [0], 2, 2), (false, [0], 2, 2), (false, [], 2, 2), (false, [], 2, 3), (false, [0], 3, 3), (false, [0], 3, 3), (false, [], 3, 3), (false, [0], 3, 3), (true, [0], 3, 3), (false, [0], 3, 3), (false, [0], 3, 3), (true, [2], 3, 4), (true, [3], 4, 4), (true, [1], 4, 4)] = false := by decide
  have hcf1 : clashFree [0, 1, 3, 7, 0, 16, 48, 0, 128, 0, 512, 2047, 4095, 8191] [(false, [0], 2, 2), (false, [0], 2, 2), (false, [], 2, 2), (false, [], 2, 3), (false, [0], 3, 3), (false, [0], 3, 3), (false, [], 3, 3), (false, [0], 3, 3), (false, [0], 3, 3), (false, [0], 3, 3), (false, [0], 3, 3), (true, [2], 3, 4), (true, [3], 4, 4), (true, [1], 4, 4)] = true := by decide
  have hhi : (((h : Nat) : Int) == 0) = false := by simp [h0]
  simp [p49, v88, hka, hcf, hcf1, hsz, e2', hl, hda, hdc, h32, dI_map, hta, htc, hb, h0, hhi]
end Go.Fm

