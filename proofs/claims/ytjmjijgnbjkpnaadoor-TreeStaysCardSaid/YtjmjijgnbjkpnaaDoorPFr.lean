/-
  A part of the proof: PFr.
-/
import Derived.Test.YtjmjijgnbjkpnaaDoorDFr
import Derived.Test.YtjmjijgnbjkpnaaDoorPTree
set_option linter.all false
set_option autoImplicit true
/-
  All and Nodes: what they hand out lies fresh.
-/
set_option maxRecDepth 100000
set_option linter.unusedVariables false
set_option linter.unusedSimpArgs false
namespace Go.Fm
open Go Go.Proofs
theorem csz_frs {es : List CV} : CV.size (.frs es) = 1 := (rfl)
theorem cag_frs {es : List CV} : CV.isAgg (.frs es) = false := (rfl)
attribute [simp] csz_frs cag_frs
def pF : Option (List UInt8) → CV
  | none => .nilsl
  | some bs => .frs (bytesAV bs)
theorem csz_pF (v : Option (List UInt8)) : CV.size (pF v) = 1 := by cases v <;> rfl
theorem cag_pF (v : Option (List UInt8)) : CV.isAgg (pF v) = false := by cases v <;> rfl
attribute [simp] csz_pF cag_pF
section
variable {lit : Bool} {x y : AV} {H : Heap} {vs : List AV}
theorem eqgF28 : cfgF.P.eqGuardType cfgF.P.depth 28 = false := by kernel_rfl
theorem aeqF28 : aeq cfgF.P 12 28 x y = ptrEq x y := aeq_ptr (e := 140) (by kernel_rfl)
theorem eqgF138 : cfgF.P.eqGuardType cfgF.P.depth 138 = false := by kernel_rfl
theorem aeqF138 : aeq cfgF.P 12 138 x y = ptrEq x y := aeq_ptr (e := 145) (by kernel_rfl)
theorem bF28 (h : isIS x y = false) : mBin cfgF 28 lit .eql x y H = eqH H false (ptrEq x y) := by rw [mBin_eqg eqgF28 h, aeqF28]
theorem bF138 (h : isIS x y = false) : mBin cfgF 138 lit .eql x y H = eqH H false (ptrEq x y) := by rw [mBin_eqg eqgF138 h, aeqF138]
theorem primF {f : FuncId} (h : f ≠ 103) : cfgF.prim f = none := by simp [cfgF, h]
theorem primF103 : cfgF.prim 103 = some cloneF := rfl
theorem vF97 : callX cfgF An0 97 vs H = cvw (fnX cfgF An0 97) (handCs cfgF true H vs) := callX_v (primF (by decide))
theorem vF105 : callX cfgF An0 105 vs H = cvw (fnX cfgF An0 105) (handCs cfgF true H vs) := callX_v (primF (by decide))
theorem kF97 : cfgF.keepR 97 = true := rfl
theorem kF105 : cfgF.keepR 105 = true := rfl
end
theorem cloneF_v (v : Option (List UInt8)) (hv : (pB v).length ≤ 140737488355328) (H : Heap) : callX cfgF An0 103 [.c (pV v)] H = some (.c (pF v), H) := by
  rw [callX_prim primF103, handCs_c _ _ _ rfl]
  cases v with
  | none => rfl
  | some bs =>
    simp only [pV, pF, cloneF, bytesC_av]
    rw [if_pos (by simpa [pB] using hv)]
theorem cloneF_sl (k : List UInt8) (hv : k.length ≤ 140737488355328) (H : Heap) : callX cfgF An0 103 [.c (.sl 1 (bytesAV k))] H = some (.c (.frs (bytesAV k)), H) := cloneF_v (some k) hv H
def pairF (k : List UInt8) (v : Option (List UInt8)) : CV := .agg [.frs (bytesAV k), pF v]
namespace Tn
def pairsF (t : Tn) : List CV := t.leaves.map fun p => pairF p.1 p.2
theorem pairsF_len (t : Tn) : t.pairsF.length = t.sz := by simp [pairsF, leaves_sz]
def apiF (t : Tn) : CV := .agg [.frs (bytesAV t.key), pF t.val, .int .i64 (t.ht : Int), .int .u64 (t.sz : Int), .arr 32 .u8 (dI t.lh), .arr 32 .u8 (dI t.rh)]
def apisF (t : Tn) : List CV := t.nodesL.map Tn.apiF
theorem apisF_len (t : Tn) : t.apisF.length ≤ 2 * t.sz := by have := t.nodesL_len; simp [apisF]; omega
theorem csz_apiF (t : Tn) : t.apiF.size = 68 := by simp [apiF, t.lh_len, t.rh_len]
theorem cag_apiF (t : Tn) : t.apiF.isAgg = true := rfl
end Tn
attribute [simp] Tn.csz_apiF Tn.cag_apiF
theorem cf_PFr_a735024b : clashFree [0, 1, 3, 7, 0, 16, 48, 112, 0, 496, 1023, 2047] [(false, [], 1, 1), (false, [], 1, 1), (false, [], 1, 1), (false, [], 1, 1), (false, [], 1, 1), (false, [], 1, 1), (false, [], 1, 1), (false, [], 1, 1), (false, [0], 1, 1), (true, [0], 1, 2), (true, [1], 2, 3), (false, [2], 3, 3)] = true := by decide
attribute [simp] cf_PFr_a735024b
theorem cf_PFr_9b1c674e : clashFree [0, 1, 3, 7, 0, 16, 48, 112, 0, 0, 512, 1536, 3584, 7680, 15872, 32512, 65520, 131071, 262143] [(false, [], 0, 0), (false, [], 0, 0), (false, [], 0, 0), (false, [], 0, 0), (false, [], 0, 0), (false, [], 0, 0), (false, [], 0, 0), (false, [], 0, 0), (false, [], 0, 0), (false, [], 0, 0), (false, [], 0, 0), (false, [], 0, 0), (false, [], 0, 0), (false, [], 0, 0), (false, [], 0, 1), (true, [0], 1, 2), (true, [1], 2, 2), (true, [1], 2, 2), (false, [1], 2, 2)] = true := by decide
attribute [simp] cf_PFr_9b1c674e
theorem cf_PFr_96598ddf : clashFree [0, 1, 3, 7, 0, 16, 48, 112, 0, 0, 512, 1536, 3584, 7680, 15872, 32512, 65520, 131071, 262143] [(false, [], 1, 1), (false, [], 1, 1), (false, [], 1, 1), (false, [], 1, 1), (false, [], 1, 1), (false, [], 1, 1), (false, [], 1, 1), (false, [], 1, 1), (false, [0], 1, 1), (false, [], 1, 1), (false, [], 1, 1), (false, [], 1, 1), (false, [], 1, 1), (false, [], 1, 1), (false, [], 1, 2), (true, [0, 1], 2, 3), (true, [2], 3, 3), (true, [2], 3, 3), (false, [2], 3, 3)] = true := by decide
attribute [simp] cf_PFr_96598ddf
theorem cf_PFr_975ff8a6 : clashFree [0, 1, 3, 7, 0, 16, 48, 112, 0, 0, 512, 1536, 3584, 7680, 15872, 32512, 65520, 131071, 262143] [(false, [], 0, 0), (false, [], 0, 0), (false, [], 0, 0), (false, [], 0, 0), (false, [], 0, 0), (false, [], 0, 0), (false, [], 0, 0), (false, [], 0, 0), (false, [], 0, 0), (false, [], 0, 0), (false, [], 0, 0), (false, [], 0, 0), (false, [], 0, 0), (false, [], 0, 0), (false, [], 0, 1), (true, [0], 1, 2), (true, [1], 2, 3), (true, [2], 3, 4), (false, [3], 4, 4)] = true := by decide
attribute [simp] cf_PFr_975ff8a6
theorem cf_PFr_86b4c1ec : clashFree [0, 1, 3, 7, 0, 16, 48, 112, 0, 0, 512, 1536, 3584, 7680, 15872, 32512, 65520, 131071, 262143] [(false, [], 1, 1), (false, [], 1, 1), (false, [], 1, 1), (false, [], 1, 1), (false, [], 1, 1), (false, [], 1, 1), (false, [], 1, 1), (false, [], 1, 1), (false, [0], 1, 1), (false, [], 1, 1), (false, [], 1, 1), (false, [], 1, 1), (false, [], 1, 1), (false, [], 1, 1), (false, [], 1, 2), (true, [0, 1], 2, 3), (true, [2], 3, 4), (true, [3], 4, 5), (false, [4], 5, 5)] = true := by decide
attribute [simp] cf_PFr_86b4c1ec
theorem cf_PFr_da06f667 : clashFree [0, 1, 3, 7, 0, 16, 48, 112, 0, 496, 1023, 2047] [(false, [], 1, 1), (false, [], 1, 1), (false, [], 1, 1), (false, [], 1, 1), (false, [], 1, 1), (false, [], 1, 1), (false, [], 1, 1), (false, [], 1, 1), (false, [], 1, 1), (true, [0], 1, 2), (true, [1], 2, 3), (false, [], 3, 3)] = true := by decide
attribute [simp] cf_PFr_da06f667
theorem cf_PFr_a9b3eda5 : clashFree [0, 1, 3, 7, 0, 16, 48, 112, 0, 0, 512, 1536, 3584, 7680, 15872, 32512, 65520, 131071, 262143] [(false, [], 0, 0), (false, [], 0, 0), (false, [], 0, 0), (false, [], 0, 0), (false, [], 0, 0), (false, [], 0, 0), (false, [], 0, 0), (false, [], 0, 0), (false, [], 0, 0), (false, [], 0, 0), (false, [], 0, 0), (false, [], 0, 0), (false, [], 0, 0), (false, [], 0, 0), (false, [], 0, 1), (true, [0], 1, 2), (true, [1], 2, 2), (true, [1], 2, 2), (false, [], 2, 2)] = true := by decide
attribute [simp] cf_PFr_a9b3eda5
theorem cf_PFr_e4896d3d : clashFree [0, 1, 3, 7, 0, 16, 48, 112, 0, 0, 512, 1536, 3584, 7680, 15872, 32512, 65520, 131071, 262143] [(false, [], 1, 1), (false, [], 1, 1), (false, [], 1, 1), (false, [], 1, 1), (false, [], 1, 1), (false, [], 1, 1), (false, [], 1, 1), (false, [], 1, 1), (false, [], 1, 1), (false, [], 1, 1), (false, [], 1, 1), (false, [], 1, 1), (false, [], 1, 1), (false, [], 1, 1), (false, [], 1, 2), (true, [0, 1], 2, 3), (true, [2], 3, 3), (true, [2], 3, 3), (false, [], 3, 3)] = true := by decide
attribute [simp] cf_PFr_e4896d3d
theorem cf_PFr_c858f572 : clashFree [0, 1, 3, 7, 0, 16, 48, 112, 0, 0, 512, 1536, 3584, 7680, 15872, 32512, 65520, 131071, 262143] [(false, [], 0, 0), (false, [], 0, 0), (false, [], 0, 0), (false, [], 0, 0), (false, [], 0, 0), (false, [], 0, 0), (false, [], 0, 0), (false, [], 0, 0), (false, [], 0, 0), (false, [], 0, 0), (false, [], 0, 0), (false, [], 0, 0), (false, [], 0, 0), (false, [], 0, 0), (false, [], 0, 1), (true, [0], 1, 2), (true, [1], 2, 3), (true, [2], 3, 4), (false, [], 4, 4)] = true := by decide
attribute [simp] cf_PFr_c858f572
theorem cf_PFr_684e4c87 : clashFree [0, 1, 3, 7, 0, 16, 48, 112, 0, 0, 512, 1536, 3584, 7680, 15872, 32512, 65520, 131071, 262143] [(false, [], 1, 1), (false, [], 1, 1), (false, [], 1, 1), (false, [], 1, 1), (false, [], 1, 1), (false, [], 1, 1), (false, [], 1, 1), (false, [], 1, 1), (false, [], 1, 1), (false, [], 1, 1), (false, [], 1, 1), (false, [], 1, 1), (false, [], 1, 1), (false, [], 1, 1), (false, [], 1, 2), (true, [0, 1], 2, 3), (true, [2], 3, 4), (true, [3], 4, 5), (false, [], 5, 5)] = true := by decide
attribute [simp] cf_PFr_684e4c87
/-! CF -/
theorem copiedF_fn (k : List UInt8) (v : Option (List UInt8)) (hk : k.length ≤ 1000000) (hv : (pB v).length ≤ 1000000) (h s : Int) (x y : List UInt8) (hx : x.length = 32) (hy : y.length = 32) :
    fnX cfgF An0 95 [.c (.agg [.sl 1 (bytesAV k), pV v, .int .i64 h, .int .u64 s, .arr 32 .u8 (dI x), .arr 32 .u8 (dI y)])] [] = some (.c (.agg [.frs (bytesAV k), pF v, .int .i64 h, .int .u64 s, .arr 32 .u8 (dI x), .arr 32 .u8 (dI y)]), []) := by
  rw [fnX_eq, f95_eq true]
  have c1 := cloneF_sl k (by omega)
  have c2 := cloneF_v v (by omega)
  simp [f95, c1, c2]
theorem copiedF (t : Tn) (h : t.fit) (H : Heap) : callX cfgF An0 95 [.c t.api] H = some (.c t.apiF, H) := by
  refine callX_pure ?_ rfl rfl (primF (by decide)) H
  exact copiedF_fn t.key t.val (t.fit_key h) (t.fit_val h) _ _ t.lh t.rh t.lh_len t.rh_len
set_option maxHeartbeats 8000000 in
theorem walkF : ∀ (t : Tn), t.fit → ∀ es : List CV, es.length + t.sz ≤ 1000000000 →
    fnX cfgF An0 97 [.c t.pt, .c .nilsl] [] = some (.os 0, [.row 97 2 t.pairsF]) ∧
    fnX cfgF An0 97 [.c t.pt, .os 0] [.row 97 2 es] = some (.os 1, [.dead, .row 97 2 (es ++ t.pairsF)])
  | .leaf k v, hf, es, hs => by
    have c1 := cloneF_sl k (by have := hf.1; omega)
    have c2 := cloneF_v v (by have := hf.2; omega)
    have hp : (Tn.leaf k v).pairsF = [pairF k v] := rfl
    have hv : (Tn.leaf k v).val = v := rfl
    have h1 : 1 ≤ maxLen := big_max (by decide)
    simp only [Tn.sz] at hs
    have h2 : es.length + 1 ≤ maxLen := big_max (by omega)
    have h3 : (es.length + 1) * 48 ≤ 140737488355328 := by omega
    rw [hp]
    constructor
    · rw [fnX_eq, f97_eq true]
      simp [f97, Tn.pt, bF138, ht_leaf, key_leaf, hv, c1, c2, pairF, h1, kF97]
    · rw [fnX_eq, f97_eq true]
      simp [f97, Tn.pt, bF138, ht_leaf, key_leaf, hv, c1, c2, pairF, h1, h2, h3, kF97]
  | .node l r, hf, es, hs => by
    simp only [Tn.sz] at hs
    have hl := walkF l hf.1 es (by omega)
    have hr1 := (walkF r hf.2 l.pairsF (by rw [Tn.pairsF_len]; omega)).2
    have hr2 := (walkF r hf.2 (es ++ l.pairsF) (by rw [List.length_append, Tn.pairsF_len]; omega)).2
    have hne := ht_node_ne l r
    have hlp := lp_node l r
    have hrp := rp_node l r
    have hp : (Tn.node l r).pairsF = l.pairsF ++ r.pairsF := by simp [Tn.pairsF, Tn.leaves]
    rw [hp]
    simp only [Tn.pt] at hl hr1 hr2 hlp hrp ⊢
    constructor
    · rw [fnX_eq, f97_eq true]
      simp [f97, bF138, hne, hlp, hrp, vF97, hl.1, hr1, kF97]
    · rw [fnX_eq, f97_eq true]
      simp [f97, bF138, hne, hlp, hrp, vF97, hl.2, hr2, kF97]
theorem nodesF_nil (es : List CV) : fnX cfgF An0 105 [.c .nilp, .os 0] [.row 66 68 es] = some (.os 0, [.row 66 68 es]) := by
  rw [fnX_eq, f105_eq true]
  simp [f105, bF138, kF105]
set_option maxHeartbeats 8000000 in
theorem nodesF : ∀ (t : Tn), t.fit → ∀ es : List CV, es.length + t.apisF.length ≤ 100000000 →
    fnX cfgF An0 105 [.c t.pt, .c .nilsl] [] = some (.os 0, [.row 66 68 t.apisF]) ∧
    fnX cfgF An0 105 [.c t.pt, .os 0] [.row 66 68 es] = some (.os 1, [.dead, .row 66 68 (es ++ t.apisF)])
  | .leaf k v, hf, es, hs => by
    have cc := copiedF (.leaf k v) hf
    have hp : (Tn.leaf k v).apisF = [(Tn.leaf k v).apiF] := rfl
    have h1 : 1 ≤ maxLen := big_max (by decide)
    rw [hp, List.length_singleton] at hs
    have h2 : es.length + 1 ≤ maxLen := big_max (by omega)
    have h3 : (es.length + 1) * 128 ≤ 140737488355328 := by omega
    have n1 := nodesF_nil [(Tn.leaf k v).apiF]
    have n2 := nodesF_nil (es ++ [(Tn.leaf k v).apiF])
    rw [hp]
    constructor
    · rw [fnX_eq, f105_eq true]
      simp [f105, Tn.pt, bF138, lp_leaf, rp_leaf, cc, vF105, n1, h1, kF105]
    · rw [fnX_eq, f105_eq true]
      simp [f105, Tn.pt, bF138, lp_leaf, rp_leaf, cc, vF105, n2, h1, h2, h3, kF105]
  | .node l r, hf, es, hs => by
    have cc := copiedF (.node l r) hf
    have hp : (Tn.node l r).apisF = [(Tn.node l r).apiF] ++ l.apisF ++ r.apisF := by simp [Tn.apisF, Tn.nodesL]
    rw [hp] at hs
    simp only [List.length_append, List.length_cons, List.length_nil] at hs
    have hl1 := (nodesF l hf.1 [(Tn.node l r).apiF] (by simp only [List.length_cons, List.length_nil]; omega)).2
    have hr1 := (nodesF r hf.2 ([(Tn.node l r).apiF] ++ l.apisF) (by simp only [List.length_append, List.length_cons, List.length_nil]; omega)).2
    have hl2 := (nodesF l hf.1 (es ++ [(Tn.node l r).apiF]) (by simp only [List.length_append, List.length_cons, List.length_nil]; omega)).2
    have hr2 := (nodesF r hf.2 (es ++ [(Tn.node l r).apiF] ++ l.apisF) (by simp only [List.length_append, List.length_cons, List.length_nil]; omega)).2
    have hlp := lp_node l r
    have hrp := rp_node l r
    have h1 : 1 ≤ maxLen := big_max (by decide)
    have h2 : es.length + 1 ≤ maxLen := big_max (by omega)
    have h3 : (es.length + 1) * 128 ≤ 140737488355328 := by omega
    rw [hp]
    generalize l.apisF = A at *
    generalize r.apisF = B at *
    simp only [Tn.pt] at hl1 hr1 hl2 hr2 hlp hrp ⊢
    simp only [List.cons_append, List.nil_append, List.append_assoc] at hl1 hr1 hl2 hr2
    constructor
    · rw [fnX_eq, f105_eq true]
      simp [f105, bF138, hlp, hrp, cc, vF105, hl1, hr1, h1, kF105]
    · rw [fnX_eq, f105_eq true]
      simp [f105, bF138, hlp, hrp, cc, vF105, hl2, hr2, h1, h2, h3, kF105]
def Tn.pairsoF : Option Tn → CV
  | none => .nilsl
  | some t => .sl 2 t.pairsF
theorem AllF (t : Option Tn) (hf : ∀ u, t = some u → u.fit) (hs : Tn.szo t ≤ 1000000000) : fnX cfgF An0 51 [.c (tC t)] [] = some (.c (Tn.pairsoF t), []) := by
  rw [fnX_eq, f51_eq true]
  cases t with
  | none =>
    have h : fnX cfgF An0 97 [.c .nilp, .c .nilsl] [] = some (.c .nilsl, []) := by
      rw [fnX_eq, f97_eq true]
      simp [f97, bF138]
    simp [f51, tC, Tn.pto, bF28, vF97, h, Tn.pairsoF]
  | some t =>
    have h := (walkF t (hf t rfl) [] (by simpa [Tn.szo] using hs)).1
    simp only [Tn.pt] at h
    simp [f51, tC, Tn.pto, Tn.pt, bF28, vF97, h, Tn.pairsoF]
def Tn.apisoF : Option Tn → CV
  | none => .nilsl
  | some t => .sl 68 t.apisF
theorem NodesF (t : Option Tn) (hf : ∀ u, t = some u → u.fit) (hs : Tn.szo t ≤ 10000000) : fnX cfgF An0 66 [.c (tC t)] [] = some (.c (Tn.apisoF t), []) := by
  rw [fnX_eq, f66_eq true]
  cases t with
  | none =>
    have h : fnX cfgF An0 105 [.c .nilp, .c .nilsl] [] = some (.c .nilsl, []) := by
      rw [fnX_eq, f105_eq true]
      simp [f105, bF138]
    simp [f66, tC, Tn.pto, bF28, vF105, h, Tn.apisoF]
  | some t =>
    have h := (nodesF t (hf t rfl) [] (by simp only [Tn.szo] at hs; have := t.apisF_len; simp; omega)).1
    simp only [Tn.pt] at h
    simp [f66, tC, Tn.pto, Tn.pt, bF28, vF105, h, Tn.apisoF]
theorem FrE_pair (p : List UInt8 × Option (List UInt8)) : FrE 2 0 (pairF p.1 p.2) := ⟨by simp [pairF], rfl, .frs (bytesAV p.1), rfl, rfl, .inr ⟨p.1, rfl⟩⟩
theorem FrE_api (t : Tn) : FrE 68 0 t.apiF := ⟨by simp, rfl, .frs (bytesAV t.key), rfl, rfl, .inr ⟨t.key, rfl⟩⟩
theorem plain_av : ∀ l : List UInt8, CV.plains (bytesAV l) = true
  | [] => rfl
  | x :: l => by have := plain_av l; simp only [bytesAV, List.map_cons, CV.plains, CV.plain, Bool.true_and]; exact this
theorem plain_pV (v : Option (List UInt8)) : (pV v).plain = true := by
  cases v with
  | none => rfl
  | some l => simpa [pV, CV.plain] using plain_av l
theorem plain_api (t : Tn) : t.api.plain = true := by simp [Tn.api, CV.plain, CV.plains, plain_av, plain_pV]
theorem plain_cv : ∀ t : Tn, t.cv.plain = true
  | .leaf k v => by simp [Tn.cv, CV.plain, CV.plains, plain_api]
  | .node l r => by simp [Tn.cv, CV.plain, CV.plains, plain_api, plain_cv l, plain_cv r]
theorem plain_tC (t : Option Tn) : (tC t).plain = true := by
  cases t with
  | none => rfl
  | some t => simp [tC, Tn.pto, Tn.pt, CV.plain, CV.plains, plain_cv]
theorem ok51 (t : Option Tn) (hf : ∀ u, t = some u → u.fit) (hs : Tn.szo t ≤ 1000000000) : okRow 51 2 0 [.c (tC t)] := by
  refine ⟨_, _, rfl, rfl, plain_tC t, AllF t hf hs, ?_⟩
  cases t with
  | none => exact .inl rfl
  | some t => exact .inr ⟨_, rfl, fun e he => by obtain ⟨p, _, rfl⟩ := List.mem_map.1 he; exact FrE_pair p⟩
theorem ok66 (t : Option Tn) (hf : ∀ u, t = some u → u.fit) (hs : Tn.szo t ≤ 10000000) : okRow 66 68 0 [.c (tC t)] := by
  refine ⟨_, _, rfl, rfl, plain_tC t, NodesF t hf hs, ?_⟩
  cases t with
  | none => exact .inl rfl
  | some t => exact .inr ⟨_, rfl, fun e he => by obtain ⟨p, _, rfl⟩ := List.mem_map.1 he; exact FrE_api p⟩
end Go.Fm
