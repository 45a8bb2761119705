/-
  A part of the proof: PTree.
-/
import Derived.Test.YtjmjijgnbjkpnaaDoorPSha
import Derived.Test.YtjmjijgnbjkpnaaDoorFm46
import Derived.Test.YtjmjijgnbjkpnaaDoorDTree
import Derived.Test.YtjmjijgnbjkpnaaDoorPEpoch1
set_option linter.all false
set_option autoImplicit true
/-
  tree: what a node is; sums; leaves and inner nodes.
-/
set_option maxRecDepth 100000
set_option linter.unusedVariables false
set_option linter.unusedSimpArgs false
namespace Go.Fm
open Go Go.Proofs
/-- A tree that is not empty. -/
inductive Tn where
  | leaf (k : List UInt8) (v : Option (List UInt8))
  | node (l r : Tn)
  deriving Inhabited
namespace Tn
def least : Tn → List UInt8
  | leaf k _ => k
  | node l _ => l.least
def key : Tn → List UInt8
  | leaf k _ => k
  | node _ r => r.least
def val : Tn → Option (List UInt8)
  | leaf _ v => v
  | node _ _ => none
def ht : Tn → Nat
  | leaf _ _ => 0
  | node l r => 1 + max l.ht r.ht
def sz : Tn → Nat
  | leaf _ _ => 1
  | node l r => l.sz + r.sz
def hash : Tn → List UInt8
  | leaf k v => shaW ([0, byteOf (k.length : Int)] ++ k ++ shaW (pB v))
  | node l r => shaW ([1, byteOf ((1 + max l.ht r.ht : Nat) : Int)] ++ lenBytes ((l.sz + r.sz : Nat) : Int) ++ l.hash ++ r.hash)
def lh : Tn → List UInt8
  | leaf _ _ => zero32
  | node l _ => l.hash
def rh : Tn → List UInt8
  | leaf _ _ => zero32
  | node _ r => r.hash
def api (t : Tn) : CV := .agg [.sl 1 (bytesAV t.key), pV t.val, .int .i64 (t.ht : Int), .int .u64 (t.sz : Int), .arr 32 .u8 (dI t.lh), .arr 32 .u8 (dI t.rh)]
def cv : Tn → CV
  | leaf k v => .agg [(leaf k v).api, .arr 32 .u8 (dI (leaf k v).hash), .nilp, .nilp]
  | node l r => .agg [(node l r).api, .arr 32 .u8 (dI (node l r).hash), .ptr l.cv [] 0, .ptr r.cv [] 0]
def lp : Tn → CV
  | leaf _ _ => .nilp
  | node l _ => .ptr l.cv [] 0
def rp : Tn → CV
  | leaf _ _ => .nilp
  | node _ r => .ptr r.cv [] 0
theorem cv_eq (t : Tn) : t.cv = .agg [t.api, .arr 32 .u8 (dI t.hash), t.lp, t.rp] := by cases t <;> rfl
theorem hash_len (t : Tn) : t.hash.length = 32 := by cases t <;> simp only [hash, shaW_len]
theorem lh_len (t : Tn) : t.lh.length = 32 := by cases t <;> simp [lh, hash_len, zero32]
theorem rh_len (t : Tn) : t.rh.length = 32 := by cases t <;> simp [rh, hash_len, zero32]
theorem sz_pos (t : Tn) : 1 ≤ t.sz := by induction t with
  | leaf => simp [sz]
  | node l r ihl ihr => simp [sz]; omega
theorem ht_lt (t : Tn) : t.ht < t.sz := by induction t with
  | leaf => simp [ht, sz]
  | node l r ihl ihr => simp only [ht, sz]; have := l.sz_pos; have := r.sz_pos; omega
/-- A node's pointer. -/
def pt (t : Tn) : CV := .ptr t.cv [] 0
/-- .. or nil. -/
def pto : Option Tn → CV
  | none => .nilp
  | some t => t.pt
end Tn
theorem csz_pV (v : Option (List UInt8)) : CV.size (pV v) = 1 := by cases v <;> rfl
theorem cag_pV (v : Option (List UInt8)) : CV.isAgg (pV v) = false := by cases v <;> rfl
theorem csz_lp (t : Tn) : CV.size t.lp = 1 := by cases t <;> rfl
theorem cag_lp (t : Tn) : CV.isAgg t.lp = false := by cases t <;> rfl
theorem csz_rp (t : Tn) : CV.size t.rp = 1 := by cases t <;> rfl
theorem cag_rp (t : Tn) : CV.isAgg t.rp = false := by cases t <;> rfl
theorem csz_api (t : Tn) : CV.size t.api = 68 := by simp [Tn.api, csz_pV]
theorem cag_api (t : Tn) : CV.isAgg t.api = true := rfl
theorem len_dI (l : List UInt8) : (dI l).length = l.length := by simp [dI]
section
variable (t : Tn)
theorem g_k : getC t.cv [0, 0] = some (.sl 1 (bytesAV t.key)) := by rw [t.cv_eq]; simp [Tn.api]
theorem o_k : offC t.cv [0, 0] = some 0 := by rw [t.cv_eq]; simp [Tn.api]
theorem g_v : getC t.cv [0, 1] = some (pV t.val) := by rw [t.cv_eq]; simp [Tn.api]
theorem o_v : offC t.cv [0, 1] = some 1 := by rw [t.cv_eq]; simp [Tn.api]
theorem g_h : getC t.cv [0, 2] = some (.int .i64 (t.ht : Int)) := by rw [t.cv_eq]; simp [Tn.api]
theorem o_h : offC t.cv [0, 2] = some 2 := by rw [t.cv_eq]; simp [Tn.api, csz_pV]
theorem g_s : getC t.cv [0, 3] = some (.int .u64 (t.sz : Int)) := by rw [t.cv_eq]; simp [Tn.api]
theorem o_s : offC t.cv [0, 3] = some 3 := by rw [t.cv_eq]; simp [Tn.api, csz_pV]
theorem g_a : getC t.cv [0] = some t.api := by rw [t.cv_eq]; simp
theorem o_a : offC t.cv [0] = some 0 := by rw [t.cv_eq]; simp
theorem g_x : getC t.cv [1] = some (.arr 32 .u8 (dI t.hash)) := by rw [t.cv_eq]; simp
theorem o_x : offC t.cv [1] = some 68 := by rw [t.cv_eq]; simp [csz_api]
theorem g_l : getC t.cv [2] = some t.lp := by rw [t.cv_eq]; simp
theorem o_l : offC t.cv [2] = some 100 := by rw [t.cv_eq]; simp [csz_api]
theorem g_r : getC t.cv [3] = some t.rp := by rw [t.cv_eq]; simp
theorem o_r : offC t.cv [3] = some 101 := by rw [t.cv_eq]; simp [csz_api, csz_lp]
end
attribute [simp] csz_pV cag_pV csz_lp cag_lp csz_rp cag_rp csz_api cag_api g_k o_k g_v o_v g_h o_h g_s o_s g_a o_a g_x o_x g_l o_l g_r o_r
/-! ### bytes -/
end Go.Fm
/-
  tree: leaves and inner nodes.
-/
set_option maxRecDepth 100000
set_option linter.unusedVariables false
set_option linter.unusedSimpArgs false
namespace Go.Fm
open Go Go.Proofs
theorem prim101e {b : Bool} : (cfg b).prim 101 = some compareP := rfl
theorem prim103e {b : Bool} : (cfg b).prim 103 = some cloneP := rfl
theorem handCs_cs (b keep : Bool) (H : Heap) (vs : List AV) (h : vs.all AV.isC = true) : handCs (cfg b) keep H vs = some (vs, H) := handCs_c _ _ _ h
/-- bytes.Clone -/
theorem clone_call (b : Bool) (v : Option (List UInt8)) (hv : (pB v).length ≤ 140737488355328) (H : Heap) : callX (cfg b) An 103 [.c (pV v)] H = some (.c (pV v), H) := by
  rw [callX_prim prim103e, handCs_cs _ _ _ _ rfl]
  cases v with
  | none => rfl
  | some bs =>
    simp only [pV, cloneP, elemsOf, if_true, bytesC_av]
    rw [if_pos (by simpa [pB] using hv)]
theorem clone_sl (b : Bool) (k : List UInt8) (hv : k.length ≤ 140737488355328) (H : Heap) : callX (cfg b) An 103 [.c (.sl 1 (bytesAV k))] H = some (.c (.sl 1 (bytesAV k)), H) := clone_call b (some k) hv H
def cmpZ (x y : List UInt8) : Int := if Op.bytesLess x y then -1 else if x == y then 0 else 1
theorem compare_call (b : Bool) (x y : List UInt8) (H : Heap) : callX (cfg b) An 101 [.c (.sl 1 (bytesAV x)), .c (.sl 1 (bytesAV y))] H = some (.c (.int .i64 (cmpZ x y)), H) := by
  rw [callX_prim prim101e, handCs_cs _ _ _ _ rfl]
  simp only [compareP, bE, elemsOf, if_true, bytesC_av]
  rfl
theorem cmpZ_lt (x y : List UInt8) : decide (cmpZ x y < 0) = Op.bytesLess x y := by
  unfold cmpZ
  cases Op.bytesLess x y with
  | true => rfl
  | false => cases h : x == y <;> rfl
theorem bytesLess_irr : ∀ (x : List UInt8), Op.bytesLess x x = false
  | [] => rfl
  | a :: x => by simp [Op.bytesLess, bytesLess_irr x]
theorem cmpZ_gt (x y : List UInt8) : decide (cmpZ x y > 0) = (!Op.bytesLess x y && !(x == y)) := by
  unfold cmpZ
  cases Op.bytesLess x y with
  | true => rfl
  | false => cases h : x == y <;> rfl
/-! ### size -/
theorem size_step (b : Bool) (cf : CallFn) (z : Int) (ds : List UInt8) (hl : ds.length = 8) (i k : Nat) (h0 : i < 8) (hk : iSub .i64 56 (iMul .i64 8 (i : Int)) = (k : Int)) (hj : iAdd .i64 (i : Int) 1 = ((i + 1 : Nat) : Int)) :
    loopX 0 (p96_l0 b cf 0) [.c (.int .u64 z), .ov 0 [] 0, .c (.int .i64 (i : Int))] [.var 202 (.c (.arr 8 .u8 (dI ds)))] =
      loopX 0 (p96_l0 b cf 0) [.c (.int .u64 z), .ov 0 [] 0, .c (.int .i64 ((i + 1 : Nat) : Int))] [.var 202 (.c (.arr 8 .u8 (dI (ds.set i (byteOf (iShr .u64 z k))))))] := by
  rw [loopX_eq]
  have hz := wrap_byte (iShr .u64 z k)
  have hd : (dI ds).length = 8 := by simp [dI, hl]
  have he : (dI ds).set i ((byteOf (iShr .u64 z k)).toNat : Int) = dI (ds.set i (byteOf (iShr .u64 z k))) := by simp [dI, List.map_set]
  have h1 : ((i : Nat) : Int) < 8 := by omega
  have h2 : (0 : Int) ≤ (i : Int) := by omega
  have h3 : ¬ ((k : Nat) : Int) < 0 := by omega
  simp only [Int.natCast_add, Int.cast_ofNat_Int] at hj
  simp [p96_l0, h0, h1, h2, h3, hk, hj, hz, hd, he]
theorem size_fn (b : Bool) (z : Int) : fnX (cfg b) An 96 [.c (.int .u64 z)] [] = some (.c (.sl 1 (bytesAV (lenBytes z))), []) := by
  rw [fnX_eq, p96_eq]
  have e : loopX 0 (p96_l0 b (callX (cfg b) An) 0) [.c (.int .u64 z), .ov 0 [] 0, .c (.int .i64 0)] [.var 202 (.c (.arr 8 .u8 (List.replicate 8 0)))] = some (.exit 0 [.ov 0 [] 0], [.var 202 (.c (.arr 8 .u8 (dI (lenBytes z))))]) := by
    have h0 : (List.replicate 8 (0 : Int)) = dI [0, 0, 0, 0, 0, 0, 0, 0] := by decide
    have n0 : (0 : Int) = ((0 : Nat) : Int) := rfl
    rw [h0]
    rw [n0]
    rw [size_step b _ z _ (by simp) 0 56 (by decide) (by decide) (by decide), size_step b _ z _ (by simp) 1 48 (by decide) (by decide) (by decide), size_step b _ z _ (by simp) 2 40 (by decide) (by decide) (by decide),
      size_step b _ z _ (by simp) 3 32 (by decide) (by decide) (by decide), size_step b _ z _ (by simp) 4 24 (by decide) (by decide) (by decide), size_step b _ z _ (by simp) 5 16 (by decide) (by decide) (by decide),
      size_step b _ z _ (by simp) 6 8 (by decide) (by decide) (by decide), size_step b _ z _ (by simp) 7 0 (by decide) (by decide) (by decide)]
    rw [loopX_eq]
    simp [p96_l0, lenBytes]
  have hd : (dI (lenBytes z)).length = 8 := by simp [dI, lenBytes]
  have hm : (dI (lenBytes z)).map (CV.int .u8) = bytesAV (lenBytes z) := by simp [dI, bytesAV]
  have h8 : 8 ≤ maxLen := big_max (by decide)
  have ht : (bytesAV (lenBytes z)).take 8 = bytesAV (lenBytes z) := List.take_of_length_le (by simp [lenBytes])
  simp only [List.reduceReplicate] at e
  simp [p96, e, hd, hm, h8, ht]
/-! ### Hash -/
theorem size_call (b : Bool) (z : Int) (H : Heap) : callX (cfg b) An 96 [.c (.int .u64 z)] H = some (.c (.sl 1 (bytesAV (lenBytes z))), H) := callX_pure (size_fn b z) rfl rfl (prim_none (by decide)) H
theorem v88 {b : Bool} {H : Heap} {vs : List AV} : callX (cfg b) An 88 vs H = cvw (fnX (cfg b) An 88) (handCs (cfg b) false H vs) := callX_v (prim_none (by decide))
theorem api_leaf (k : List UInt8) (v : Option (List UInt8)) : (Tn.leaf k v).api = .agg [.sl 1 (bytesAV k), pV v, .int .i64 0, .int .u64 1, .arr 32 .u8 (dI zero32), .arr 32 .u8 (dI zero32)] := rfl
theorem api_node (l r : Tn) : (Tn.node l r).api = .agg [.sl 1 (bytesAV r.least), .nilsl, .int .i64 ((1 + max l.ht r.ht : Nat) : Int), .int .u64 ((l.sz + r.sz : Nat) : Int), .arr 32 .u8 (dI l.hash), .arr 32 .u8 (dI r.hash)] := rfl
theorem dI_map (l : List UInt8) : (dI l).map (CV.int .u8) = bytesAV l := by simp [dI, bytesAV]
theorem take_av (l : List UInt8) (n : Nat) (h : l.length = n) : (bytesAV l).take n = bytesAV l := List.take_of_length_le (by simp [h])
set_option maxHeartbeats 4000000 in
theorem hash_leaf (b : Bool) (k : List UInt8) (v : Option (List UInt8)) (hk : k.length ≤ 1000000) (hv : (pB v).length ≤ 1000000) : fnX (cfg b) An 49 [.c (Tn.leaf k v).api] [] = some (.c (.arr 32 .u8 (dI (Tn.leaf k v).hash)), []) := by
  rw [fnX_eq, p49_eq, api_leaf]
  have e1 := sum_fn b [v] (by simp) (by simp) (by simp [catP]; omega)
  have c1 : catP [v] = pB v := by simp [catP]
  rw [c1] at e1
  obtain ⟨w, hw⟩ : ∃ w, w = shaW (pB v) := ⟨_, rfl⟩
  have hwl : w.length = 32 := by rw [hw, shaW_len]
  have e2 := sum_fn b [some [0, byteOf (k.length : Int)], some k, some w] (by simp) (by simp) (by simp [catP, pB]; omega)
  have c2 : catP [some [0, byteOf (k.length : Int)], some k, some w] = [0, byteOf (k.length : Int)] ++ k ++ w := by simp [catP, pB]
  rw [c2] at e2
  have hh : (Tn.leaf k v).hash = shaW ([0, byteOf (k.length : Int)] ++ k ++ w) := by rw [hw]; rfl
  have hl : (dI (shaW ([0, byteOf (k.length : Int)] ++ k ++ w))).length = 32 := by simp [dI, shaW_len]
  rw [hh]
  rw [← hw] at e1
  generalize shaW ([0, byteOf (k.length : Int)] ++ k ++ w) = x at *
  have hb := wrap_byte (k.length : Int)
  generalize byteOf (k.length : Int) = z at *
  have hdw : (dI w).length = 32 := by simp [dI, hwl]
  have h32 : 32 ≤ maxLen := big_max (by decide)
  have ht := take_av w 32 hwl
  have e1' : fnX (cfg b) An 88 [.c (.sl 1 [pV v])] [] = some (.c (.arr 32 .u8 (dI w)), []) := e1
  have e2' : fnX (cfg b) An 88 [.c (.sl 1 [.sl 1 [.int .u8 0, .int .u8 (z.toNat : Int)], .sl 1 (bytesAV k), .sl 1 (bytesAV w)])] [] = some (.c (.arr 32 .u8 (dI x)), []) := e2
  have hka : (cfg b).keepA 88 = false := rfl
  have hcf : clashFree [0, 1, 3, 7, 15, 0, 32, 0, 255, 511, 1023] [(false, [0], 4, 4), (false, [0], 4, 4), (false, [], 4, 4), (false, [], 4, 4), (false, [], 4, 5), (false, [0], 5, 5), (false, [0], 5, 5), (true, [3], 5, 5), (true, [4], 5, 6), (true, [5], 6, 6), (true, [1], 6, 6)] = true := by decide
  simp [p49, v88, hka, hcf, e1', e2', hl, hdw, h32, dI_map, ht, hb]
set_option maxHeartbeats 4000000 in
theorem hash_node (b : Bool) (l r : Tn) : fnX (cfg b) An 49 [.c (Tn.node l r).api] [] = some (.c (.arr 32 .u8 (dI (Tn.node l r).hash)), []) := by
  rw [fnX_eq, p49_eq, api_node]
  obtain ⟨h, hh⟩ : ∃ h : Nat, h = 1 + max l.ht r.ht := ⟨_, rfl⟩
  obtain ⟨s, hs⟩ : ∃ s : Nat, s = l.sz + r.sz := ⟨_, rfl⟩
  have hx : (Tn.node l r).hash = shaW ([1, byteOf (h : Int)] ++ lenBytes (s : Int) ++ l.hash ++ r.hash) := by rw [hh, hs]; rfl
  rw [hx, ← hh, ← hs]
  have h0 : h ≠ 0 := by omega
  have hll := l.hash_len
  have hrl := r.hash_len
  generalize l.hash = a at *
  generalize r.hash = c at *
  have e2 := sum_fn b [some [1, byteOf (h : Int)], some (lenBytes (s : Int)), some a, some c] (by simp) (by simp) (by simp [catP, pB, lenBytes, hll, hrl])
  have c2 : catP [some [1, byteOf (h : Int)], some (lenBytes (s : Int)), some a, some c] = [1, byteOf (h : Int)] ++ lenBytes (s : Int) ++ a ++ c := by simp [catP, pB]
  rw [c2] at e2
  have hl : (dI (shaW ([1, byteOf (h : Int)] ++ lenBytes (s : Int) ++ a ++ c))).length = 32 := by simp [dI, shaW_len]
  generalize shaW ([1, byteOf (h : Int)] ++ lenBytes (s : Int) ++ a ++ c) = x at *
  have hb := wrap_byte (h : Int)
  generalize byteOf (h : Int) = z at *
  have hsz := size_call b (s : Int)
  generalize lenBytes (s : Int) = y at *
  have hda : (dI a).length = 32 := by simp [dI, hll]
  have hdc : (dI c).length = 32 := by simp [dI, hrl]
  have h32 : 32 ≤ maxLen := big_max (by decide)
  have hta := take_av a 32 hll
  have htc := take_av c 32 hrl
  have e2' : fnX (cfg b) An 88 [.c (.sl 1 [.sl 1 [.int .u8 1, .int .u8 (z.toNat : Int)], .sl 1 (bytesAV y), .sl 1 (bytesAV a), .sl 1 (bytesAV c)])] [] = some (.c (.arr 32 .u8 (dI x)), []) := e2
  have hka : (cfg b).keepA 88 = false := rfl
  have hcf : clashFree [0, 1, 3, 7, 0, 16, 48, 0, 128, 0, 512, 2047, 4095, 8191] [(false, [0], 2, 2), (false, [0], 2, 2), (false, [], 2, 2), (false, [], 2, 3), (false, [0], 3, 3), (false, [0], 3, 3), (false, [], 3, 3), (false, [0], 3, 3), (true, [0], 3, 3), (false, [0], 3, 3), (false, [0], 3, 3), (true, [2], 3, 4), (true, [3], 4, 4), (true, [1], 4, 4)] = false := by decide
  have hcf1 : clashFree [0, 1, 3, 7, 0, 16, 48, 0, 128, 0, 512, 2047, 4095, 8191] [(false, [0], 2, 2), (false, [0], 2, 2), (false, [], 2, 2), (false, [], 2, 3), (false, [0], 3, 3), (false, [0], 3, 3), (false, [], 3, 3), (false, [0], 3, 3), (false, [0], 3, 3), (false, [0], 3, 3), (false, [0], 3, 3), (true, [2], 3, 4), (true, [3], 4, 4), (true, [1], 4, 4)] = true := by decide
  have hhi : (((h : Nat) : Int) == 0) = false := by simp [h0]
  simp [p49, v88, hka, hcf, hcf1, hsz, e2', hl, hda, hdc, h32, dI_map, hta, htc, hb, h0, hhi]
end Go.Fm
/-
  tree: leaf, least, inner.
-/
set_option maxRecDepth 100000
set_option linter.unusedVariables false
set_option linter.unusedSimpArgs false
namespace Go.Fm
open Go Go.Proofs
namespace Tn
/-- All bytes few enough. -/
def fit : Tn → Prop
  | leaf k v => k.length ≤ 1000000 ∧ (pB v).length ≤ 1000000
  | node l r => l.fit ∧ r.fit
end Tn
theorem bne138 {b lit : Bool} {x y : AV} {H : Heap} (h : isIS x y = false) : mBin (cfg b) 138 lit .neq x y H = eqH H true (ptrEq x y) := by rw [mBin_neg eqg138 h, aeq138]
theorem hash_call (b : Bool) (t : Tn) (h : t.fit) (H : Heap) : callX (cfg b) An 49 [.c t.api] H = some (.c (.arr 32 .u8 (dI t.hash)), H) := by
  cases t with
  | leaf k v => exact callX_pure (hash_leaf b k v h.1 h.2) rfl rfl (prim_none (by decide)) H
  | node l r => exact callX_pure (hash_node b l r) rfl rfl (prim_none (by decide)) H
theorem frz145 {b : Bool} : (cfg b).frz 145 = true := rfl
set_option maxHeartbeats 4000000 in
theorem leaf_fn (b : Bool) (k : List UInt8) (v : Option (List UInt8)) (hk : k.length ≤ 1000000) (hv : (pB v).length ≤ 1000000) :
    fnX (cfg b) An 123 [.c (.sl 1 (bytesAV k)), .c (pV v)] [] = some (.c (Tn.leaf k v).pt, []) := by
  rw [fnX_eq, p123_eq]
  have hz : dI zero32 = List.replicate 32 0 := by decide
  have hh := hash_call b (.leaf k v) ⟨hk, hv⟩
  rw [api_leaf, hz] at hh
  have hl := len_dI (Tn.leaf k v).hash
  rw [Tn.hash_len] at hl
  have hp : (Tn.leaf k v).pt = .ptr (.agg [.agg [.sl 1 (bytesAV k), pV v, .int .i64 0, .int .u64 1, .arr 32 .u8 (List.replicate 32 0), .arr 32 .u8 (List.replicate 32 0)], .arr 32 .u8 (dI (Tn.leaf k v).hash), .nilp, .nilp]) [] 0 := by rw [← hz]; rfl
  rw [hp]
  generalize (Tn.leaf k v).hash = w at *
  have c1 := clone_sl b k (by omega)
  have c2 := clone_call b v (by omega)
  simp only [List.reduceReplicate] at hh
  simp [p123, c1, c2, hh, hl, frz145]
theorem leaf_call (b : Bool) (k : List UInt8) (v : Option (List UInt8)) (hk : k.length ≤ 1000000) (hv : (pB v).length ≤ 1000000) (H : Heap) :
    callX (cfg b) An 123 [.c (.sl 1 (bytesAV k)), .c (pV v)] H = some (.c (Tn.leaf k v).pt, H) := callX_pure (leaf_fn b k v hk hv) rfl rfl (prim_none (by decide)) H
theorem least_loop (b : Bool) (cf : CallFn) : ∀ t : Tn, ∃ v, loopX 0 (p144_l0 b cf 0) [.c t.pt] [] = some (.exit 0 [.c (Tn.leaf t.least v).pt], [])
  | .leaf k v => by
    refine ⟨v, ?_⟩
    rw [loopX_eq]
    simp [p144_l0, Tn.pt, bne138, Tn.lp, Tn.least]
  | .node l r => by
    obtain ⟨v, hv⟩ := least_loop b cf l
    refine ⟨v, ?_⟩
    rw [loopX_eq]
    have e : (Tn.node l r).lp = l.pt := rfl
    simp only [Tn.least, ← hv]
    simp [p144_l0, Tn.pt, bne138, e]
theorem least_fn (b : Bool) (t : Tn) : fnX (cfg b) An 144 [.c t.pt] [] = some (.c (.sl 1 (bytesAV t.least)), []) := by
  rw [fnX_eq, p144_eq]
  obtain ⟨v, hv⟩ := least_loop b (callX (cfg b) An) t
  have hk : (Tn.leaf t.least v).key = t.least := rfl
  simp [p144, hv]
  simp [Tn.pt, hk]
theorem least_call (b : Bool) (t : Tn) (H : Heap) : callX (cfg b) An 144 [.c t.pt] H = some (.c (.sl 1 (bytesAV t.least)), H) := callX_pure (least_fn b t) rfl rfl (prim_none (by decide)) H
theorem maxZ (a c : Nat) : (if a < c then (c : Int) else (a : Int)) = ((max a c : Nat) : Int) := by
  split
  · rename_i h; omega
  · rename_i h; omega
theorem addZ (a : Nat) (h : a < 4000000000000000000) : iAdd .i64 1 (a : Int) = ((1 + a : Nat) : Int) := by
  unfold iAdd
  rw [i64_small (by omega) (by omega)]
  omega
theorem u64_small {z : Int} (h0 : 0 ≤ z) (h1 : z < 18446744073709551616) : IntKind.u64.wrap z = z := by
  unfold IntKind.wrap
  simp only [IntKind.bits, IntKind.signed]
  simp
  omega
theorem addU (a c : Nat) (h : a + c < 4000000000000000000) : iAdd .u64 (a : Int) (c : Int) = ((a + c : Nat) : Int) := by
  unfold iAdd
  rw [u64_small (by omega) (by omega)]
  omega
set_option maxHeartbeats 8000000 in
theorem inner_fn (b : Bool) (l r : Tn) (hs : l.sz + r.sz ≤ 1000000000000) : fnX (cfg b) An 125 [.c l.pt, .c r.pt] [] = some (.c (Tn.node l r).pt, []) := by
  rw [fnX_eq, p125_eq]
  have hh := hash_call b (.node l r)
  have hh1 : ∀ H, callX (cfg b) An 49 [.c (Tn.node l r).api] H = some (.c (.arr 32 .u8 (dI (Tn.node l r).hash)), H) := fun H => callX_pure (hash_node b l r) rfl rfl (prim_none (by decide)) H
  rw [api_node] at hh1
  have hl := len_dI (Tn.node l r).hash
  rw [Tn.hash_len] at hl
  have hll := len_dI l.hash
  rw [Tn.hash_len] at hll
  have hrl := len_dI r.hash
  rw [Tn.hash_len] at hrl
  have hp : (Tn.node l r).pt = .ptr (.agg [.agg [.sl 1 (bytesAV r.least), .nilsl, .int .i64 ((1 + max l.ht r.ht : Nat) : Int), .int .u64 ((l.sz + r.sz : Nat) : Int), .arr 32 .u8 (dI l.hash), .arr 32 .u8 (dI r.hash)], .arr 32 .u8 (dI (Tn.node l r).hash), l.pt, r.pt]) [] 0 := rfl
  rw [hp]
  have h1 := l.ht_lt
  have h2 := r.ht_lt
  have hmx : max l.ht r.ht < 4000000000000000000 := by omega
  have ea := addZ (max l.ht r.ht) hmx
  have eu := addU l.sz r.sz (by omega)
  have em := maxZ l.ht r.ht
  have hle := least_call b r
  generalize (Tn.node l r).hash = w at *
  obtain ⟨hz, hhz⟩ : ∃ hz : Int, hz = ((1 + max l.ht r.ht : Nat) : Int) := ⟨_, rfl⟩
  obtain ⟨sz, hsz⟩ : ∃ sz : Int, sz = ((l.sz + r.sz : Nat) : Int) := ⟨_, rfl⟩
  obtain ⟨mz, hmz⟩ : ∃ mz : Int, mz = ((max l.ht r.ht : Nat) : Int) := ⟨_, rfl⟩
  rw [← hhz] at ea hh1 ⊢
  rw [← hsz] at eu hh1 ⊢
  rw [← hmz] at ea em
  clear hhz hsz hmz hh hs hmx h1 h2
  simp only [Tn.pt] at hle ⊢
  simp [p125, hh1, hl, hll, hrl, ea, eu, em, hle, frz145]
theorem inner_call (b : Bool) (l r : Tn) (hs : l.sz + r.sz ≤ 1000000000000) (H : Heap) : callX (cfg b) An 125 [.c l.pt, .c r.pt] H = some (.c (Tn.node l r).pt, H) := callX_pure (inner_fn b l r hs) rfl rfl (prim_none (by decide)) H
namespace Tn
def balL (l r : Tn) : Tn := match l with
  | .node ll (.node lrl lrr) => if ll.ht < (Tn.node lrl lrr).ht then .node (.node ll lrl) (.node lrr r) else .node ll (.node (.node lrl lrr) r)
  | .node ll lr => .node ll (.node lr r)
  | .leaf _ _ => .node l r
def balR (l r : Tn) : Tn := match r with
  | .node (.node rll rlr) rr => if rr.ht < (Tn.node rll rlr).ht then .node (.node l rll) (.node rlr rr) else .node (.node l (.node rll rlr)) rr
  | .node rl rr => .node (.node l rl) rr
  | .leaf _ _ => .node l r
def bal (l r : Tn) : Tn := if r.ht + 1 < l.ht then balL l r else if l.ht + 1 < r.ht then balR l r else .node l r
theorem sz_balL (l r : Tn) : (balL l r).sz = l.sz + r.sz := by
  unfold balL
  split
  · split <;> simp [sz] <;> omega
  · simp [sz]; omega
  · simp [sz]
theorem sz_balR (l r : Tn) : (balR l r).sz = l.sz + r.sz := by
  unfold balR
  split
  · split <;> simp [sz] <;> omega
  · simp [sz]; omega
  · simp [sz]
theorem sz_bal (l r : Tn) : (bal l r).sz = l.sz + r.sz := by
  unfold bal
  split
  · exact sz_balL l r
  · split
    · exact sz_balR l r
    · rfl
end Tn
theorem gtZ (a c : Nat) (h : c < 4000000000000000000) : iAdd .i64 (c : Int) 1 = ((c + 1 : Nat) : Int) := by
  unfold iAdd
  rw [i64_small (by omega) (by omega)]
  omega
set_option maxHeartbeats 16000000 in
theorem bal_fn (b : Bool) (l r : Tn) (hs : l.sz + r.sz ≤ 1000000000000) : fnX (cfg b) An 124 [.c l.pt, .c r.pt] [] = some (.c (Tn.bal l r).pt, []) := by
  rw [fnX_eq, p124_eq]
  have h1 := l.ht_lt
  have h2 := r.ht_lt
  have e1 := gtZ 0 r.ht (by omega)
  have e2 := gtZ 0 l.ht (by omega)
  by_cases hl : r.ht + 1 < l.ht
  · have hlI : (r.ht : Int) + 1 < (l.ht : Int) := by omega
    cases l with
    | leaf k v => simp [Tn.ht] at hl
    | node ll lr =>
      have hlr : ¬ 0 < 0 := by omega
      simp only [Tn.sz] at hs
      cases lr with
      | leaf k v =>
        have hb : Tn.bal (.node ll (.leaf k v)) r = .node ll (.node (.leaf k v) r) := by simp [Tn.bal, hl, Tn.balL]
        have i1 := inner_call b (.leaf k v) r (by omega)
        have i2 := inner_call b ll (.node (.leaf k v) r) (by simp only [Tn.sz] at hs ⊢; omega)
        have hlp : (Tn.node ll (.leaf k v)).lp = ll.pt := rfl
        have hrp : (Tn.node ll (.leaf k v)).rp = (Tn.leaf k v).pt := rfl
        have hlt : ¬ ll.ht < (Tn.leaf k v).ht := by simp [Tn.ht]
        rw [hb]
        simp only [Tn.pt] at i1 i2 hlp hrp ⊢
        simp [p124, e1, hlI, hlp, hrp, hlt, i1, i2]
      | node lrl lrr =>
        have hlp : (Tn.node ll (.node lrl lrr)).lp = ll.pt := rfl
        have hrp : (Tn.node ll (.node lrl lrr)).rp = (Tn.node lrl lrr).pt := rfl
        have hlp2 : (Tn.node lrl lrr).lp = lrl.pt := rfl
        have hrp2 : (Tn.node lrl lrr).rp = lrr.pt := rfl
        simp only [Tn.sz] at hs
        by_cases hlt : ll.ht < (Tn.node lrl lrr).ht
        · have hb : Tn.bal (.node ll (.node lrl lrr)) r = .node (.node ll lrl) (.node lrr r) := by simp [Tn.bal, hl, Tn.balL, hlt]
          have i1 := inner_call b ll lrl (by omega)
          have i2 := inner_call b lrr r (by omega)
          have i3 := inner_call b (.node ll lrl) (.node lrr r) (by simp only [Tn.sz] at hs ⊢; omega)
          rw [hb]
          simp only [Tn.pt] at i1 i2 i3 hlp hrp hlp2 hrp2 ⊢
          simp [p124, e1, hlI, hlp, hrp, hlp2, hrp2, hlt, i1, i2, i3]
        · have hb : Tn.bal (.node ll (.node lrl lrr)) r = .node ll (.node (.node lrl lrr) r) := by simp [Tn.bal, hl, Tn.balL, hlt]
          have i1 := inner_call b (.node lrl lrr) r (by simp only [Tn.sz]; omega)
          have i2 := inner_call b ll (.node (.node lrl lrr) r) (by simp only [Tn.sz] at hs ⊢; omega)
          rw [hb]
          simp only [Tn.pt] at i1 i2 hlp hrp hlp2 hrp2 ⊢
          simp [p124, e1, hlI, hlp, hrp, hlp2, hrp2, hlt, i1, i2]
  · have hlI : ¬ (r.ht : Int) + 1 < (l.ht : Int) := by omega
    by_cases hr : l.ht + 1 < r.ht
    · have hrI : (l.ht : Int) + 1 < (r.ht : Int) := by omega
      cases r with
      | leaf k v => simp [Tn.ht] at hr
      | node rl rr =>
        simp only [Tn.sz] at hs
        cases rl with
        | leaf k v =>
          have hb : Tn.bal l (.node (.leaf k v) rr) = .node (.node l (.leaf k v)) rr := by simp [Tn.bal, hl, hr, Tn.balR]
          have i1 := inner_call b l (.leaf k v) (by omega)
          have i2 := inner_call b (.node l (.leaf k v)) rr (by simp only [Tn.sz] at hs ⊢; omega)
          have hlp : (Tn.node (.leaf k v) rr).lp = (Tn.leaf k v).pt := rfl
          have hrp : (Tn.node (.leaf k v) rr).rp = rr.pt := rfl
          have hlt : ¬ rr.ht < (Tn.leaf k v).ht := by simp [Tn.ht]
          rw [hb]
          simp only [Tn.pt] at i1 i2 hlp hrp ⊢
          simp [p124, e1, e2, hlI, hrI, hlp, hrp, hlt, i1, i2]
        | node rll rlr =>
          have hlp : (Tn.node (.node rll rlr) rr).lp = (Tn.node rll rlr).pt := rfl
          have hrp : (Tn.node (.node rll rlr) rr).rp = rr.pt := rfl
          have hlp2 : (Tn.node rll rlr).lp = rll.pt := rfl
          have hrp2 : (Tn.node rll rlr).rp = rlr.pt := rfl
          simp only [Tn.sz] at hs
          by_cases hlt : rr.ht < (Tn.node rll rlr).ht
          · have hb : Tn.bal l (.node (.node rll rlr) rr) = .node (.node l rll) (.node rlr rr) := by simp [Tn.bal, hl, hr, Tn.balR, hlt]
            have i1 := inner_call b l rll (by omega)
            have i2 := inner_call b rlr rr (by omega)
            have i3 := inner_call b (.node l rll) (.node rlr rr) (by simp only [Tn.sz] at hs ⊢; omega)
            rw [hb]
            simp only [Tn.pt] at i1 i2 i3 hlp hrp hlp2 hrp2 ⊢
            simp [p124, e1, e2, hlI, hrI, hlp, hrp, hlp2, hrp2, hlt, i1, i2, i3]
          · have hb : Tn.bal l (.node (.node rll rlr) rr) = .node (.node l (.node rll rlr)) rr := by simp [Tn.bal, hl, hr, Tn.balR, hlt]
            have i1 := inner_call b l (.node rll rlr) (by simp only [Tn.sz]; omega)
            have i2 := inner_call b (.node l (.node rll rlr)) rr (by simp only [Tn.sz] at hs ⊢; omega)
            rw [hb]
            simp only [Tn.pt] at i1 i2 hlp hrp hlp2 hrp2 ⊢
            simp [p124, e1, e2, hlI, hrI, hlp, hrp, hlp2, hrp2, hlt, i1, i2]
    · have hrI : ¬ (l.ht : Int) + 1 < (r.ht : Int) := by omega
      have hb : Tn.bal l r = .node l r := by simp [Tn.bal, hl, hr]
      have i1 := inner_call b l r hs
      rw [hb]
      simp only [Tn.pt] at i1 ⊢
      simp [p124, e1, e2, hlI, hrI, i1]
end Go.Fm
/-
  tree: put and cut.
-/
set_option maxRecDepth 100000
set_option linter.unusedVariables false
set_option linter.unusedSimpArgs false
namespace Go.Fm
open Go Go.Proofs
namespace Tn
def put (key : List UInt8) (v : Option (List UInt8)) : Tn → Tn
  | leaf k w => if Op.bytesLess key k = true then .node (.leaf key v) (.leaf k w) else if key = k then .leaf key v else .node (.leaf k w) (.leaf key v)
  | node l r => if Op.bytesLess key r.least = true then bal (put key v l) r else bal l (put key v r)
def puto (key : List UInt8) (v : Option (List UInt8)) : Option Tn → Tn
  | none => .leaf key v
  | some t => put key v t
theorem fit_balL {l r : Tn} (hl : l.fit) (hr : r.fit) : (balL l r).fit := by
  unfold balL
  split
  · split <;> simp_all [fit]
  · simp_all [fit]
  · simp_all [fit]
theorem fit_balR {l r : Tn} (hl : l.fit) (hr : r.fit) : (balR l r).fit := by
  unfold balR
  split
  · split <;> simp_all [fit]
  · simp_all [fit]
  · simp_all [fit]
theorem fit_bal {l r : Tn} (hl : l.fit) (hr : r.fit) : (bal l r).fit := by
  unfold bal
  split
  · exact fit_balL hl hr
  · split
    · exact fit_balR hl hr
    · exact ⟨hl, hr⟩
theorem sz_put (key : List UInt8) (v : Option (List UInt8)) : ∀ t : Tn, (put key v t).sz ≤ t.sz + 1
  | leaf k w => by
    unfold put
    split
    · simp [sz]
    · split <;> simp [sz]
  | node l r => by
    have h1 := sz_put key v l
    have h2 := sz_put key v r
    unfold put
    split
    · rw [sz_bal]; simp only [sz]; omega
    · rw [sz_bal]; simp only [sz]; omega
theorem fit_put {key : List UInt8} {v : Option (List UInt8)} (hk : key.length ≤ 1000000) (hv : (pB v).length ≤ 1000000) : ∀ t : Tn, t.fit → (put key v t).fit
  | leaf k w, h => by
    unfold put
    split
    · exact ⟨⟨hk, hv⟩, h⟩
    · split
      · exact ⟨hk, hv⟩
      · exact ⟨h, hk, hv⟩
  | node l r, h => by
    unfold put
    split
    · exact fit_bal (fit_put hk hv l h.1) h.2
    · exact fit_bal h.1 (fit_put hk hv r h.2)
end Tn
theorem cmpZ_gt' (x y : List UInt8) : decide (0 < cmpZ x y) = (!Op.bytesLess x y && !(x == y)) := cmpZ_gt x y
theorem bal_call (b : Bool) (l r : Tn) (hs : l.sz + r.sz ≤ 1000000000000) (H : Heap) : callX (cfg b) An 124 [.c l.pt, .c r.pt] H = some (.c (Tn.bal l r).pt, H) := callX_pure (bal_fn b l r hs) rfl rfl (prim_none (by decide)) H
theorem key_leaf (k : List UInt8) (w : Option (List UInt8)) : (Tn.leaf k w).key = k := rfl
theorem key_node (l r : Tn) : (Tn.node l r).key = r.least := rfl
theorem ht_leaf (k : List UInt8) (w : Option (List UInt8)) : (Tn.leaf k w).ht = 0 := rfl
theorem lp_node (l r : Tn) : (Tn.node l r).lp = l.pt := rfl
theorem rp_node (l r : Tn) : (Tn.node l r).rp = r.pt := rfl
theorem lp_leaf (k : List UInt8) (w : Option (List UInt8)) : (Tn.leaf k w).lp = .nilp := rfl
theorem rp_leaf (k : List UInt8) (w : Option (List UInt8)) : (Tn.leaf k w).rp = .nilp := rfl
theorem ht_node_pos (l r : Tn) : (0 : Int) < ((Tn.node l r).ht : Int) := by simp [Tn.ht]; omega
theorem ht_node_posN (l r : Tn) : 0 < (Tn.node l r).ht := by simp only [Tn.ht]; omega
theorem lenOf_pV (H : Heap) (v : Option (List UInt8)) : lenOf H (.c (pV v)) = some (pB v).length := by cases v <;> simp [pV, pB]
attribute [simp] lenOf_pV
theorem ht_node_ne (l r : Tn) : ((((Tn.node l r).ht : Nat) : Int) == 0) = false := by
  have := ht_node_pos l r
  simp only [beq_eq_false_iff_ne, ne_eq]; omega
set_option maxHeartbeats 8000000 in
theorem put_fn (b : Bool) (key : List UInt8) (v : Option (List UInt8)) (hk : key.length ≤ 1000000) (hv : (pB v).length ≤ 1000000) : ∀ t : Tn, t.sz ≤ 100000000000 →
    fnX (cfg b) An 91 [.c t.pt, .c (.sl 1 (bytesAV key)), .c (pV v)] [] = some (.c (Tn.put key v t).pt, [])
  | .leaf k w, hs => by
    rw [fnX_eq, p91_eq]
    have c1 := compare_call b key k
    have lf := leaf_call b key v hk hv
    by_cases h1 : Op.bytesLess key k = true
    · have e : Tn.put key v (.leaf k w) = .node (.leaf key v) (.leaf k w) := by simp [Tn.put, h1]
      have i1 := inner_call b (.leaf key v) (.leaf k w) (by simp [Tn.sz])
      rw [e]
      simp only [Tn.pt] at lf i1 ⊢
      simp [p91, be138, c1, key_leaf, ht_leaf, cmpZ_lt, cmpZ_gt', h1, lf, i1]
    · have h1' : Op.bytesLess key k = false := by simpa using h1
      by_cases h2 : key = k
      · have e : Tn.put key v (.leaf k w) = .leaf key v := by simp [Tn.put, h1', h2, bytesLess_irr]
        rw [e]
        have h3 : (key == k) = true := by simpa using h2
        simp only [Tn.pt] at lf ⊢
        simp [p91, be138, c1, key_leaf, ht_leaf, cmpZ_lt, cmpZ_gt', h1', h3, lf]
      · have e : Tn.put key v (.leaf k w) = .node (.leaf k w) (.leaf key v) := by simp [Tn.put, h1', h2]
        have i1 := inner_call b (.leaf k w) (.leaf key v) (by simp [Tn.sz])
        rw [e]
        have h3 : (key == k) = false := by simpa using h2
        simp only [Tn.pt] at lf i1 ⊢
        simp [p91, be138, c1, key_leaf, ht_leaf, cmpZ_lt, cmpZ_gt', h1', h3, lf, i1]
  | .node l r, hs => by
    simp only [Tn.sz] at hs
    have ihl : ∀ H, callX (cfg b) An 91 [.c l.pt, .c (.sl 1 (bytesAV key)), .c (pV v)] H = some (.c (Tn.put key v l).pt, H) := callX_pure (put_fn b key v hk hv l (by omega)) rfl rfl (prim_none (by decide))
    have ihr : ∀ H, callX (cfg b) An 91 [.c r.pt, .c (.sl 1 (bytesAV key)), .c (pV v)] H = some (.c (Tn.put key v r).pt, H) := callX_pure (put_fn b key v hk hv r (by omega)) rfl rfl (prim_none (by decide))
    rw [fnX_eq, p91_eq]
    have c1 := compare_call b key r.least
    have hp := ht_node_posN l r
    have s1 := Tn.sz_put key v l
    have s2 := Tn.sz_put key v r
    by_cases h1 : Op.bytesLess key r.least = true
    · have e : Tn.put key v (.node l r) = .bal (Tn.put key v l) r := by simp [Tn.put, h1]
      have i1 := bal_call b (Tn.put key v l) r (by omega)
      rw [e]
      have hlp := lp_node l r
      have hrp := rp_node l r
      simp only [Tn.pt] at ihl i1 hlp hrp ⊢
      simp [p91, be138, c1, key_node, hp, hlp, hrp, cmpZ_lt, cmpZ_gt', h1, ihl, i1]
    · have h1' : Op.bytesLess key r.least = false := by simpa using h1
      have e : Tn.put key v (.node l r) = .bal l (Tn.put key v r) := by simp [Tn.put, h1']
      have i1 := bal_call b l (Tn.put key v r) (by omega)
      rw [e]
      have hlp := lp_node l r
      have hrp := rp_node l r
      simp only [Tn.pt] at ihr i1 hlp hrp ⊢
      simp [p91, be138, c1, key_node, hp, hlp, hrp, cmpZ_lt, cmpZ_gt', h1', ihr, i1]
theorem put_nil (b : Bool) (key : List UInt8) (v : Option (List UInt8)) (hk : key.length ≤ 1000000) (hv : (pB v).length ≤ 1000000) :
    fnX (cfg b) An 91 [.c .nilp, .c (.sl 1 (bytesAV key)), .c (pV v)] [] = some (.c (Tn.leaf key v).pt, []) := by
  rw [fnX_eq, p91_eq]
  have lf := leaf_call b key v hk hv
  simp only [Tn.pt] at lf ⊢
  simp [p91, be138, lf]
theorem put_call (b : Bool) (key : List UInt8) (v : Option (List UInt8)) (hk : key.length ≤ 1000000) (hv : (pB v).length ≤ 1000000) (t : Option Tn) (ht : ∀ u, t = some u → u.sz ≤ 100000000000) (H : Heap) :
    callX (cfg b) An 91 [.c (Tn.pto t), .c (.sl 1 (bytesAV key)), .c (pV v)] H = some (.c (Tn.puto key v t).pt, H) := by
  cases t with
  | none => exact callX_pure (put_nil b key v hk hv) rfl rfl (prim_none (by decide)) H
  | some u => exact callX_pure (put_fn b key v hk hv u (ht u rfl)) rfl rfl (prim_none (by decide)) H
/-! ### Trees -/
/-- A tree as the package hands it out. -/
def tC (t : Option Tn) : CV := .ptr (.agg [Tn.pto t]) [] 0
theorem csz_pto (t : Option Tn) : CV.size (Tn.pto t) = 1 := by cases t <;> rfl
theorem cag_pto (t : Option Tn) : CV.isAgg (Tn.pto t) = false := by cases t <;> rfl
attribute [simp] csz_pto cag_pto
theorem Put_fn (b : Bool) (key : List UInt8) (v : Option (List UInt8)) (h1 : key ≠ []) (h2 : key.length ≤ 96) (hv : (pB v).length ≤ 256) (t : Option Tn) (ht : ∀ u, t = some u → u.sz ≤ 100000000000) :
    fnX (cfg b) An 36 [.c (tC t), .c (.sl 1 (bytesAV key)), .c (pV v)] [] = some (.tup [.c (tC (some (Tn.puto key v t))), .c (.int .i64 0)], []) := by
  rw [fnX_eq, p36_eq]
  have pc := put_call b key v (by omega) (by omega) t ht
  have l1 : ((key.length : Int) == 0) = false := by
    have := List.length_pos_iff.2 h1
    simp only [beq_eq_false_iff_ne, ne_eq]; omega
  have l2 : ¬ (96 : Int) < (key.length : Int) := by omega
  have l3 : ¬ (256 : Int) < ((pB v).length : Int) := by omega
  simp only [tC]
  generalize Tn.puto key v t = u at *
  have hu : CV.size u.pt = 1 := rfl
  have hu2 : CV.isAgg u.pt = false := rfl
  have hp : Tn.pto (some u) = u.pt := rfl
  simp [p36, be28, pc, l1, l2, l3, frz140, hu, hu2, hp]
end Go.Fm
/-
  tree: cut, Get, Len, Node, copied, Root.
-/
set_option maxRecDepth 100000
set_option linter.unusedVariables false
set_option linter.unusedSimpArgs false
namespace Go.Fm
open Go Go.Proofs
theorem BA_toList (bs : List UInt8) : (⟨bs.toArray⟩ : ByteArray).toList = bs := by
  rw [ByteArray.toList_eq] 
theorem equal_fn (b : Bool) (x y : List UInt8) : fnX (cfg b) An 102 [.c (.sl 1 (bytesAV x)), .c (.sl 1 (bytesAV y))] [] = some (.c (.bool (x == y)), []) := by
  rw [fnX_eq, p102_eq]
  simp [p102, BA_toList]
theorem equal_call (b : Bool) (x y : List UInt8) (H : Heap) : callX (cfg b) An 102 [.c (.sl 1 (bytesAV x)), .c (.sl 1 (bytesAV y))] H = some (.c (.bool (x == y)), H) := callX_pure (equal_fn b x y) rfl rfl (prim_none (by decide)) H
namespace Tn
def cutR (n : Tn) (x : Option Tn × Bool) (other : Tn) (f : Tn → Tn) : Option Tn × Bool := match x with
  | (_, false) => (some n, false)
  | (none, true) => (some other, true)
  | (some l, true) => (some (f l), true)
def cut (key : List UInt8) : Tn → Option Tn × Bool
  | leaf k w => if k = key then (none, true) else (some (leaf k w), false)
  | node l r => if Op.bytesLess key r.least = true then cutR (.node l r) (cut key l) r (fun l' => bal l' r) else cutR (.node l r) (cut key r) l (fun r' => bal l r')
def cuto (key : List UInt8) : Option Tn → Option Tn × Bool
  | none => (none, false)
  | some t => cut key t
theorem sz_cut (key : List UInt8) : ∀ t u : Tn, (cut key t).1 = some u → u.sz ≤ t.sz
  | leaf k w, u, h => by
    unfold cut at h
    split at h
    · simp at h
    · simp only [Option.some.injEq] at h; subst h; exact Nat.le_refl _
  | node l r, u, h => by
    unfold cut at h
    split at h
    · have ih := sz_cut key l
      unfold cutR at h
      split at h
      · simp only [Option.some.injEq] at h; subst h; exact Nat.le_refl _
      · simp only [Option.some.injEq] at h; subst h; simp [sz]
      · rename_i l' hl
        simp only [Option.some.injEq] at h; subst h
        have := ih l' (by rw [hl])
        rw [sz_bal]; simp only [sz]; omega
    · have ih := sz_cut key r
      unfold cutR at h
      split at h
      · simp only [Option.some.injEq] at h; subst h; exact Nat.le_refl _
      · simp only [Option.some.injEq] at h; subst h; simp [sz]
      · rename_i l' hl
        simp only [Option.some.injEq] at h; subst h
        have := ih l' (by rw [hl])
        rw [sz_bal]; simp only [sz]; omega
theorem fit_cut (key : List UInt8) : ∀ t u : Tn, t.fit → (cut key t).1 = some u → u.fit
  | leaf k w, u, hf, h => by
    unfold cut at h
    split at h
    · simp at h
    · simp only [Option.some.injEq] at h; subst h; exact hf
  | node l r, u, hf, h => by
    unfold cut at h
    split at h
    · have ih := fit_cut key l
      unfold cutR at h
      split at h
      · simp only [Option.some.injEq] at h; subst h; exact hf
      · simp only [Option.some.injEq] at h; subst h; exact hf.2
      · rename_i l' hl
        simp only [Option.some.injEq] at h; subst h
        exact fit_bal (ih l' hf.1 (by rw [hl])) hf.2
    · have ih := fit_cut key r
      unfold cutR at h
      split at h
      · simp only [Option.some.injEq] at h; subst h; exact hf
      · simp only [Option.some.injEq] at h; subst h; exact hf.1
      · rename_i l' hl
        simp only [Option.some.injEq] at h; subst h
        exact fit_bal hf.1 (ih l' hf.2 (by rw [hl]))
end Tn
set_option maxHeartbeats 8000000 in
theorem cut_fn (b : Bool) (key : List UInt8) : ∀ t : Tn, t.sz ≤ 100000000000 →
    fnX (cfg b) An 100 [.c t.pt, .c (.sl 1 (bytesAV key))] [] = some (.tup [.c (Tn.pto (t.cut key).1), .c (.bool (t.cut key).2)], [])
  | .leaf k w, hs => by
    rw [fnX_eq, p100_eq]
    have c1 := equal_call b k key
    by_cases h1 : k = key
    · have e : (Tn.leaf k w).cut key = (none, true) := by simp [Tn.cut, h1]
      have h3 : (k == key) = true := by simpa using h1
      rw [e]
      simp only [Tn.pt, Tn.pto]
      simp [p100, be138, c1, key_leaf, ht_leaf, h3]
    · have e : (Tn.leaf k w).cut key = (some (.leaf k w), false) := by simp [Tn.cut, h1]
      have h3 : (k == key) = false := by simpa using h1
      rw [e]
      simp only [Tn.pt, Tn.pto]
      simp [p100, be138, c1, key_leaf, ht_leaf, h3]
  | .node l r, hs => by
    simp only [Tn.sz] at hs
    have ihl : ∀ H, callX (cfg b) An 100 [.c l.pt, .c (.sl 1 (bytesAV key))] H = some (.tup [.c (Tn.pto (l.cut key).1), .c (.bool (l.cut key).2)], H) := callX_pure (cut_fn b key l (by omega)) rfl rfl (prim_none (by decide))
    have ihr : ∀ H, callX (cfg b) An 100 [.c r.pt, .c (.sl 1 (bytesAV key))] H = some (.tup [.c (Tn.pto (r.cut key).1), .c (.bool (r.cut key).2)], H) := callX_pure (cut_fn b key r (by omega)) rfl rfl (prim_none (by decide))
    rw [fnX_eq, p100_eq]
    have c1 := compare_call b key r.least
    have hne := ht_node_ne l r
    have hlp := lp_node l r
    have hrp := rp_node l r
    have s1 := Tn.sz_cut key l
    have s2 := Tn.sz_cut key r
    by_cases h1 : Op.bytesLess key r.least = true
    · have e : Tn.cut key (.node l r) = Tn.cutR (.node l r) (l.cut key) r (fun l' => Tn.bal l' r) := by simp [Tn.cut, h1]
      rw [e]
      cases hc : l.cut key with
      | mk o w =>
        rw [hc] at ihl s1
        simp only at ihl s1
        cases w with
        | false =>
          simp only [Tn.cutR, Tn.pto]
          simp only [Tn.pt] at ihl hlp hrp ⊢
          simp [p100, be138, c1, key_node, hne, hlp, hrp, cmpZ_lt, h1, ihl]
        | true =>
          cases o with
          | none =>
            simp only [Tn.cutR, Tn.pto] at ihl ⊢
            simp only [Tn.pt] at ihl hlp hrp ⊢
            simp [p100, be138, c1, key_node, hne, hlp, hrp, cmpZ_lt, h1, ihl]
          | some l' =>
            have i1 := bal_call b l' r (by have := s1 l' rfl; omega)
            simp only [Tn.cutR, Tn.pto] at ihl ⊢
            simp only [Tn.pt] at ihl hlp hrp i1 ⊢
            simp [p100, be138, c1, key_node, hne, hlp, hrp, cmpZ_lt, h1, ihl, i1]
    · have h1' : Op.bytesLess key r.least = false := by simpa using h1
      have e : Tn.cut key (.node l r) = Tn.cutR (.node l r) (r.cut key) l (fun r' => Tn.bal l r') := by simp [Tn.cut, h1']
      rw [e]
      cases hc : r.cut key with
      | mk o w =>
        rw [hc] at ihr s2
        simp only at ihr s2
        cases w with
        | false =>
          simp only [Tn.cutR, Tn.pto]
          simp only [Tn.pt] at ihr hlp hrp ⊢
          simp [p100, be138, c1, key_node, hne, hlp, hrp, cmpZ_lt, h1', ihr]
        | true =>
          cases o with
          | none =>
            simp only [Tn.cutR, Tn.pto] at ihr ⊢
            simp only [Tn.pt] at ihr hlp hrp ⊢
            simp [p100, be138, c1, key_node, hne, hlp, hrp, cmpZ_lt, h1', ihr]
          | some r' =>
            have i1 := bal_call b l r' (by have := s2 r' rfl; omega)
            simp only [Tn.cutR, Tn.pto] at ihr ⊢
            simp only [Tn.pt] at ihr hlp hrp i1 ⊢
            simp [p100, be138, c1, key_node, hne, hlp, hrp, cmpZ_lt, h1', ihr, i1]
theorem cut_nil (b : Bool) (key : List UInt8) : fnX (cfg b) An 100 [.c .nilp, .c (.sl 1 (bytesAV key))] [] = some (.tup [.c .nilp, .c (.bool false)], []) := by
  rw [fnX_eq, p100_eq]
  simp [p100, be138]
theorem cut_call (b : Bool) (key : List UInt8) (t : Option Tn) (ht : ∀ u, t = some u → u.sz ≤ 100000000000) (H : Heap) :
    callX (cfg b) An 100 [.c (Tn.pto t), .c (.sl 1 (bytesAV key))] H = some (.tup [.c (Tn.pto (Tn.cuto key t).1), .c (.bool (Tn.cuto key t).2)], H) := by
  cases t with
  | none => exact callX_pure (cut_nil b key) rfl rfl (prim_none (by decide)) H
  | some u => exact callX_pure (cut_fn b key u (ht u rfl)) rfl rfl (prim_none (by decide)) H
theorem Cut_fn (b : Bool) (key : List UInt8) (t : Option Tn) (ht : ∀ u, t = some u → u.sz ≤ 100000000000) :
    fnX (cfg b) An 61 [.c (tC t), .c (.sl 1 (bytesAV key))] [] = some (.tup [.c (tC (Tn.cuto key t).1), .c (.bool (Tn.cuto key t).2)], []) := by
  rw [fnX_eq, p61_eq]
  have cc := cut_call b key t ht
  simp only [tC]
  generalize Tn.cuto key t = u at *
  obtain ⟨o, w⟩ := u
  simp only at cc ⊢
  simp [p61, be28, cc, frz140]
/-! ### Len, Root -/
def Tn.szo : Option Tn → Nat
  | none => 0
  | some t => t.sz
def Tn.hasho : Option Tn → List UInt8
  | none => shaW []
  | some t => t.hash
theorem Len_fn (b : Bool) (t : Option Tn) (ht : Tn.szo t ≤ 100000000000) : fnX (cfg b) An 47 [.c (tC t)] [] = some (.c (.int .i64 (Tn.szo t : Int)), []) := by
  rw [fnX_eq, p47_eq]
  cases t with
  | none => simp [p47, tC, Tn.pto, be28, be138, Tn.szo]
  | some u =>
    have hw : IntKind.i64.wrap (u.sz : Int) = (u.sz : Int) := i64_small (by omega) (by simp only [Tn.szo] at ht; omega)
    simp [p47, tC, Tn.pto, Tn.pt, be28, be138, Tn.szo, hw]
theorem Root_fn (b : Bool) (t : Option Tn) : fnX (cfg b) An 37 [.c (tC t)] [] = some (.c (.arr 32 .u8 (dI (Tn.hasho t))), []) := by
  cases t with
  | none => exact root_fn b
  | some u =>
    rw [fnX_eq, p37_eq]
    have hl := len_dI u.hash
    rw [Tn.hash_len] at hl
    simp [p37, tC, Tn.pto, Tn.pt, be28, be138, Tn.hasho, hl]
/-! ### copied -/
theorem copied_fn (b : Bool) (k : List UInt8) (v : Option (List UInt8)) (hk : k.length ≤ 1000000) (hv : (pB v).length ≤ 1000000) (h s : Int) (x y : List UInt8) (hx : x.length = 32) (hy : y.length = 32) :
    fnX (cfg b) An 95 [.c (.agg [.sl 1 (bytesAV k), pV v, .int .i64 h, .int .u64 s, .arr 32 .u8 (dI x), .arr 32 .u8 (dI y)])] [] = some (.c (.agg [.sl 1 (bytesAV k), pV v, .int .i64 h, .int .u64 s, .arr 32 .u8 (dI x), .arr 32 .u8 (dI y)]), []) := by
  rw [fnX_eq, p95_eq]
  have c1 := clone_sl b k (by omega)
  have c2 := clone_call b v (by omega)
  simp [p95, c1, c2]
end Go.Fm
/-
  tree: Get, Node, All, Nodes.
-/
set_option maxRecDepth 100000
set_option linter.unusedVariables false
set_option linter.unusedSimpArgs false
namespace Go.Fm
open Go Go.Proofs
namespace Tn
theorem fit_least : ∀ t : Tn, t.fit → t.least.length ≤ 1000000
  | leaf k v, h => h.1
  | node l r, h => fit_least l h.1
theorem fit_key (t : Tn) (h : t.fit) : t.key.length ≤ 1000000 := by
  cases t with
  | leaf k v => exact h.1
  | node l r => exact fit_least r h.2
theorem fit_val (t : Tn) (h : t.fit) : (pB t.val).length ≤ 1000000 := by
  cases t with
  | leaf k v => exact h.2
  | node l r => simp [val, pB]
/-- Where a way leads. -/
def go : List Bool → Tn → Option Tn
  | [], t => some t
  | _ :: _, leaf _ _ => none
  | w :: ws, node l r => go ws (if w = true then r else l)
/-- The leaf that a key's way comes to. -/
def goKey (key : List UInt8) : Tn → List UInt8 × Option (List UInt8)
  | leaf k v => (k, v)
  | node l r => if Op.bytesLess key r.least = true then goKey key l else goKey key r
theorem goKey_fit (key : List UInt8) : ∀ t : Tn, t.fit → (pB (goKey key t).2).length ≤ 1000000
  | leaf k v, h => h.2
  | node l r, h => by
    unfold goKey
    split
    · exact goKey_fit key l h.1
    · exact goKey_fit key r h.2
end Tn
theorem copied_call (b : Bool) (t : Tn) (h : t.fit) (H : Heap) : callX (cfg b) An 95 [.c t.api] H = some (.c t.api, H) := by
  refine callX_pure ?_ rfl rfl (prim_none (by decide)) H
  exact copied_fn b t.key t.val (t.fit_key h) (t.fit_val h) _ _ t.lh t.rh t.lh_len t.rh_len
theorem idx_add (i : Nat) (h : i < 4000000000000000000) : iAdd .i64 (i : Int) 1 = (i : Int) + 1 := by
  unfold iAdd
  rw [i64_small (by omega) (by omega)]
def api0 : CV := .agg [.nilsl, .nilsl, .int .i64 0, .int .u64 0, .arr 32 .u8 (List.replicate 32 0), .arr 32 .u8 (List.replicate 32 0)]
theorem Node_root (b : Bool) (t : Tn) (hf : t.fit) : fnX (cfg b) An 45 [.c (tC (some t)), .c .nilsl] [] = some (.tup [.c t.api, .c (.bool true)], []) := by
  rw [fnX_eq, p45_eq]
  have cc := copied_call b t hf
  have hu : loopX 0 (p45_l0 b (callX (cfg b) An) 0) [.ov 0 [] 0, .c (.ptr t.cv [] 0), .c .nilsl, .c (.int .i64 0), .c (.int .i64 0)] [.var 66 (.c api0)] = some (.exit 0 [.ov 0 [] 0, .any, .c t.pt], [.var 66 (.c api0)]) := by
    rw [loopX_eq]
    simp [p45_l0, Tn.pt]
  simp only [Tn.pt, api0, List.reduceReplicate] at hu
  simp [p45, tC, Tn.pto, Tn.pt, be28, be138, hu, cc]
/-! ### Get -/
theorem get_loop (b : Bool) (key : List UInt8) : ∀ t : Tn, loopX 0 (p63_l0 b (callX (cfg b) An) 0) [.c (.sl 1 (bytesAV key)), .c t.pt] [] = some (.exit 0 [.c (.sl 1 (bytesAV key)), .c (Tn.leaf (t.goKey key).1 (t.goKey key).2).pt], [])
  | .leaf k v => by
    rw [loopX_eq]
    simp [p63_l0, Tn.pt, ht_leaf, Tn.goKey]
  | .node l r => by
    have hl := get_loop b key l
    have hr := get_loop b key r
    have c1 := compare_call b key r.least
    have hlp := lp_node l r
    have hrp := rp_node l r
    have hp := ht_node_posN l r
    rw [loopX_eq]
    by_cases h1 : Op.bytesLess key r.least = true
    · have e : Tn.goKey key (.node l r) = Tn.goKey key l := by simp [Tn.goKey, h1]
      rw [e, ← hl]
      simp only [Tn.pt] at hlp hrp ⊢
      simp [p63_l0, c1, key_node, hp, hlp, hrp, cmpZ_lt, h1]
    · have h1' : Op.bytesLess key r.least = false := by simpa using h1
      have e : Tn.goKey key (.node l r) = Tn.goKey key r := by simp [Tn.goKey, h1']
      rw [e, ← hr]
      simp only [Tn.pt] at hlp hrp ⊢
      simp [p63_l0, c1, key_node, hp, hlp, hrp, cmpZ_lt, h1']
def Tn.get (key : List UInt8) : Option Tn → Option (Option (List UInt8))
  | none => none
  | some t => if (t.goKey key).1 = key then some (t.goKey key).2 else none
def getV : Option (Option (List UInt8)) → CV
  | none => .nilsl
  | some v => pV v
theorem Get_fn (b : Bool) (key : List UInt8) (t : Option Tn) (hf : ∀ u, t = some u → u.fit) : fnX (cfg b) An 63 [.c (tC t), .c (.sl 1 (bytesAV key))] [] = some (.tup [.c (getV (Tn.get key t)), .c (.bool (Tn.get key t).isSome)], []) := by
  rw [fnX_eq, p63_eq]
  cases t with
  | none => simp [p63, tC, Tn.pto, be28, be138, Tn.get, getV]
  | some t =>
    have hl := get_loop b key t
    have c1 := equal_call b (t.goKey key).1 key
    have c2 := clone_call b (t.goKey key).2 (by have := Tn.goKey_fit key t (hf t rfl); omega)
    have hv : (Tn.leaf (t.goKey key).1 (t.goKey key).2).val = (t.goKey key).2 := rfl
    by_cases h1 : (t.goKey key).1 = key
    · have h3 : ((t.goKey key).1 == key) = true := by simpa using h1
      have e : Tn.get key (some t) = some (t.goKey key).2 := by simp [Tn.get, h1]
      rw [e]
      simp only [Tn.pt] at hl
      simp [p63, tC, Tn.pto, Tn.pt, be28, be138, hl, c1, c2, key_leaf, hv, h3, getV]
    · have h3 : ((t.goKey key).1 == key) = false := by simpa using h1
      have e : Tn.get key (some t) = none := by simp [Tn.get, h1]
      rw [e]
      simp only [Tn.pt] at hl
      simp [p63, tC, Tn.pto, Tn.pt, be28, be138, hl, c1, c2, key_leaf, hv, h3, getV]
end Go.Fm
/-
  tree: All, Nodes.
-/
set_option maxRecDepth 100000
set_option linter.unusedVariables false
set_option linter.unusedSimpArgs false
namespace Go.Fm
open Go Go.Proofs
def pairC (k : List UInt8) (v : Option (List UInt8)) : CV := .agg [.sl 1 (bytesAV k), pV v]
namespace Tn
/-- All leaves, from the left. -/
def leaves : Tn → List (List UInt8 × Option (List UInt8))
  | leaf k v => [(k, v)]
  | node l r => l.leaves ++ r.leaves
def pairs (t : Tn) : List CV := t.leaves.map fun p => pairC p.1 p.2
theorem leaves_sz (t : Tn) : t.leaves.length = t.sz := by
  induction t with
  | leaf k v => rfl
  | node l r ihl ihr => simp [leaves, sz, ihl, ihr]
theorem pairs_len (t : Tn) : t.pairs.length = t.sz := by simp [pairs, leaves_sz]
end Tn
theorem cf_PTree7_a735024b : clashFree [0, 1, 3, 7, 0, 16, 48, 112, 0, 496, 1023, 2047] [(false, [], 1, 1), (false, [], 1, 1), (false, [], 1, 1), (false, [], 1, 1), (false, [], 1, 1), (false, [], 1, 1), (false, [], 1, 1), (false, [], 1, 1), (false, [0], 1, 1), (true, [0], 1, 2), (true, [1], 2, 3), (false, [2], 3, 3)] = true := by decide
attribute [simp] cf_PTree7_a735024b
theorem cf_PTree7_9b1c674e : clashFree [0, 1, 3, 7, 0, 16, 48, 112, 0, 0, 512, 1536, 3584, 7680, 15872, 32512, 65520, 131071, 262143] [(false, [], 0, 0), (false, [], 0, 0), (false, [], 0, 0), (false, [], 0, 0), (false, [], 0, 0), (false, [], 0, 0), (false, [], 0, 0), (false, [], 0, 0), (false, [], 0, 0), (false, [], 0, 0), (false, [], 0, 0), (false, [], 0, 0), (false, [], 0, 0), (false, [], 0, 0), (false, [], 0, 1), (true, [0], 1, 2), (true, [1], 2, 2), (true, [1], 2, 2), (false, [1], 2, 2)] = true := by decide
attribute [simp] cf_PTree7_9b1c674e
theorem cf_PTree7_96598ddf : clashFree [0, 1, 3, 7, 0, 16, 48, 112, 0, 0, 512, 1536, 3584, 7680, 15872, 32512, 65520, 131071, 262143] [(false, [], 1, 1), (false, [], 1, 1), (false, [], 1, 1), (false, [], 1, 1), (false, [], 1, 1), (false, [], 1, 1), (false, [], 1, 1), (false, [], 1, 1), (false, [0], 1, 1), (false, [], 1, 1), (false, [], 1, 1), (false, [], 1, 1), (false, [], 1, 1), (false, [], 1, 1), (false, [], 1, 2), (true, [0, 1], 2, 3), (true, [2], 3, 3), (true, [2], 3, 3), (false, [2], 3, 3)] = true := by decide
attribute [simp] cf_PTree7_96598ddf
theorem cf_PTree7_975ff8a6 : clashFree [0, 1, 3, 7, 0, 16, 48, 112, 0, 0, 512, 1536, 3584, 7680, 15872, 32512, 65520, 131071, 262143] [(false, [], 0, 0), (false, [], 0, 0), (false, [], 0, 0), (false, [], 0, 0), (false, [], 0, 0), (false, [], 0, 0), (false, [], 0, 0), (false, [], 0, 0), (false, [], 0, 0), (false, [], 0, 0), (false, [], 0, 0), (false, [], 0, 0), (false, [], 0, 0), (false, [], 0, 0), (false, [], 0, 1), (true, [0], 1, 2), (true, [1], 2, 3), (true, [2], 3, 4), (false, [3], 4, 4)] = true := by decide
attribute [simp] cf_PTree7_975ff8a6
theorem cf_PTree7_86b4c1ec : clashFree [0, 1, 3, 7, 0, 16, 48, 112, 0, 0, 512, 1536, 3584, 7680, 15872, 32512, 65520, 131071, 262143] [(false, [], 1, 1), (false, [], 1, 1), (false, [], 1, 1), (false, [], 1, 1), (false, [], 1, 1), (false, [], 1, 1), (false, [], 1, 1), (false, [], 1, 1), (false, [0], 1, 1), (false, [], 1, 1), (false, [], 1, 1), (false, [], 1, 1), (false, [], 1, 1), (false, [], 1, 1), (false, [], 1, 2), (true, [0, 1], 2, 3), (true, [2], 3, 4), (true, [3], 4, 5), (false, [4], 5, 5)] = true := by decide
attribute [simp] cf_PTree7_86b4c1ec
theorem cf_PTree7_da06f667 : clashFree [0, 1, 3, 7, 0, 16, 48, 112, 0, 496, 1023, 2047] [(false, [], 1, 1), (false, [], 1, 1), (false, [], 1, 1), (false, [], 1, 1), (false, [], 1, 1), (false, [], 1, 1), (false, [], 1, 1), (false, [], 1, 1), (false, [], 1, 1), (true, [0], 1, 2), (true, [1], 2, 3), (false, [], 3, 3)] = true := by decide
attribute [simp] cf_PTree7_da06f667
theorem cf_PTree7_a9b3eda5 : clashFree [0, 1, 3, 7, 0, 16, 48, 112, 0, 0, 512, 1536, 3584, 7680, 15872, 32512, 65520, 131071, 262143] [(false, [], 0, 0), (false, [], 0, 0), (false, [], 0, 0), (false, [], 0, 0), (false, [], 0, 0), (false, [], 0, 0), (false, [], 0, 0), (false, [], 0, 0), (false, [], 0, 0), (false, [], 0, 0), (false, [], 0, 0), (false, [], 0, 0), (false, [], 0, 0), (false, [], 0, 0), (false, [], 0, 1), (true, [0], 1, 2), (true, [1], 2, 2), (true, [1], 2, 2), (false, [], 2, 2)] = true := by decide
attribute [simp] cf_PTree7_a9b3eda5
theorem cf_PTree7_e4896d3d : clashFree [0, 1, 3, 7, 0, 16, 48, 112, 0, 0, 512, 1536, 3584, 7680, 15872, 32512, 65520, 131071, 262143] [(false, [], 1, 1), (false, [], 1, 1), (false, [], 1, 1), (false, [], 1, 1), (false, [], 1, 1), (false, [], 1, 1), (false, [], 1, 1), (false, [], 1, 1), (false, [], 1, 1), (false, [], 1, 1), (false, [], 1, 1), (false, [], 1, 1), (false, [], 1, 1), (false, [], 1, 1), (false, [], 1, 2), (true, [0, 1], 2, 3), (true, [2], 3, 3), (true, [2], 3, 3), (false, [], 3, 3)] = true := by decide
attribute [simp] cf_PTree7_e4896d3d
theorem cf_PTree7_c858f572 : clashFree [0, 1, 3, 7, 0, 16, 48, 112, 0, 0, 512, 1536, 3584, 7680, 15872, 32512, 65520, 131071, 262143] [(false, [], 0, 0), (false, [], 0, 0), (false, [], 0, 0), (false, [], 0, 0), (false, [], 0, 0), (false, [], 0, 0), (false, [], 0, 0), (false, [], 0, 0), (false, [], 0, 0), (false, [], 0, 0), (false, [], 0, 0), (false, [], 0, 0), (false, [], 0, 0), (false, [], 0, 0), (false, [], 0, 1), (true, [0], 1, 2), (true, [1], 2, 3), (true, [2], 3, 4), (false, [], 4, 4)] = true := by decide
attribute [simp] cf_PTree7_c858f572
theorem cf_PTree7_684e4c87 : clashFree [0, 1, 3, 7, 0, 16, 48, 112, 0, 0, 512, 1536, 3584, 7680, 15872, 32512, 65520, 131071, 262143] [(false, [], 1, 1), (false, [], 1, 1), (false, [], 1, 1), (false, [], 1, 1), (false, [], 1, 1), (false, [], 1, 1), (false, [], 1, 1), (false, [], 1, 1), (false, [], 1, 1), (false, [], 1, 1), (false, [], 1, 1), (false, [], 1, 1), (false, [], 1, 1), (false, [], 1, 1), (false, [], 1, 2), (true, [0, 1], 2, 3), (true, [2], 3, 4), (true, [3], 4, 5), (false, [], 5, 5)] = true := by decide
attribute [simp] cf_PTree7_684e4c87
/-! CF -/
theorem v97 {b : Bool} {H : Heap} {vs : List AV} : callX (cfg b) An 97 vs H = cvw (fnX (cfg b) An 97) (handCs (cfg b) true H vs) := callX_v (prim_none (by decide))
theorem keepR97 {b : Bool} : (cfg b).keepR 97 = true := rfl
set_option maxHeartbeats 8000000 in
theorem walk_fn (b : Bool) : ∀ (t : Tn), t.fit → ∀ es : List CV, es.length + t.sz ≤ 1000000000 →
    fnX (cfg b) An 97 [.c t.pt, .c .nilsl] [] = some (.os 0, [.row 97 2 t.pairs]) ∧
    fnX (cfg b) An 97 [.c t.pt, .os 0] [.row 97 2 es] = some (.os 1, [.dead, .row 97 2 (es ++ t.pairs)])
  | .leaf k v, hf, es, hs => by
    have c1 := clone_sl b k (by have := hf.1; omega)
    have c2 := clone_call b v (by have := hf.2; omega)
    have hp : (Tn.leaf k v).pairs = [pairC k v] := rfl
    have hv : (Tn.leaf k v).val = v := rfl
    have h1 : 1 ≤ maxLen := big_max (by decide)
    simp only [Tn.sz] at hs
    have h2 : es.length + 1 ≤ maxLen := big_max (by omega)
    have h3 : (es.length + 1) * 48 ≤ 140737488355328 := by omega
    rw [hp]
    constructor
    · rw [fnX_eq, p97_eq]
      simp [p97, Tn.pt, be138, ht_leaf, key_leaf, hv, c1, c2, pairC, h1, keepR97]
    · rw [fnX_eq, p97_eq]
      simp [p97, Tn.pt, be138, ht_leaf, key_leaf, hv, c1, c2, pairC, h1, h2, h3, keepR97]
  | .node l r, hf, es, hs => by
    simp only [Tn.sz] at hs
    have hl := walk_fn b l hf.1 es (by omega)
    have hr1 := (walk_fn b r hf.2 l.pairs (by rw [Tn.pairs_len]; omega)).2
    have hr2 := (walk_fn b r hf.2 (es ++ l.pairs) (by rw [List.length_append, Tn.pairs_len]; omega)).2
    have hne := ht_node_ne l r
    have hlp := lp_node l r
    have hrp := rp_node l r
    have hp : (Tn.node l r).pairs = l.pairs ++ r.pairs := by simp [Tn.pairs, Tn.leaves]
    rw [hp]
    simp only [Tn.pt] at hl hr1 hr2 hlp hrp ⊢
    constructor
    · rw [fnX_eq, p97_eq]
      simp [p97, be138, hne, hlp, hrp, v97, hl.1, hr1, keepR97]
    · rw [fnX_eq, p97_eq]
      simp [p97, be138, hne, hlp, hrp, v97, hl.2, hr2, keepR97]
def Tn.pairso : Option Tn → CV
  | none => .nilsl
  | some t => .sl 2 t.pairs
theorem All_fn (b : Bool) (t : Option Tn) (hf : ∀ u, t = some u → u.fit) (hs : Tn.szo t ≤ 1000000000) : fnX (cfg b) An 51 [.c (tC t)] [] = some (.c (Tn.pairso t), []) := by
  rw [fnX_eq, p51_eq]
  cases t with
  | none =>
    have h : fnX (cfg b) An 97 [.c .nilp, .c .nilsl] [] = some (.c .nilsl, []) := by
      rw [fnX_eq, p97_eq]
      simp [p97, be138]
    simp [p51, tC, Tn.pto, be28, v97, h, Tn.pairso]
  | some t =>
    have h := (walk_fn b t (hf t rfl) [] (by simpa [Tn.szo] using hs)).1
    simp only [Tn.pt] at h
    simp [p51, tC, Tn.pto, Tn.pt, be28, v97, h, Tn.pairso]
/-! ### Nodes -/
namespace Tn
def nodesL : Tn → List Tn
  | leaf k v => [leaf k v]
  | node l r => node l r :: (l.nodesL ++ r.nodesL)
theorem nodesL_len (t : Tn) : t.nodesL.length + 1 = 2 * t.sz := by
  induction t with
  | leaf k v => rfl
  | node l r ihl ihr => simp [nodesL, sz]; omega
end Tn
end Go.Fm
