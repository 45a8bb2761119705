/-
  A part of the proof: PTreeO.
-/
import Derived.Test.YtjmjijgnbjkpnaaDoorPTree
set_option linter.all false
set_option autoImplicit true
/-
  tree: put and cut of keys and values that stay the caller's.
-/
set_option maxRecDepth 100000
set_option linter.unusedVariables false
set_option linter.unusedSimpArgs false
namespace Go.Fm
open Go Go.Proofs
theorem hc1 {b : Bool} {H : Heap} {id : Nat} : handCs (cfg b) true H [.os id] = some ([.os id], H) := by simp [handCs, handC]
theorem hc2 {b : Bool} {H : Heap} {id : Nat} {v : CV} : handCs (cfg b) true H [.os id, .c v] = some ([.os id, .c v], H) := by simp [handCs, handC]
theorem clone_os0 (b : Bool) (k : List UInt8) (hk : k.length ≤ 140737488355328) (R : Heap) : callX (cfg b) An 103 [.os 0] (.row 5 1 (bytesAV k) :: R) = some (.c (.sl 1 (bytesAV k)), .row 5 1 (bytesAV k) :: R) := by
  rw [callX_prim prim103e, show (cfg b).keepA 103 = true from rfl, hc1]
  have hl : (bytesAV k).length ≤ 140737488355328 := by simpa [bytesAV] using hk
  simp [cloneP, elemsOf, rowOf, bytesC_av, hl, hk]
theorem clone_os1 (b : Bool) (k : List UInt8) (hk : k.length ≤ 140737488355328) (x : Blk) (R : Heap) : callX (cfg b) An 103 [.os 1] (x :: .row 5 1 (bytesAV k) :: R) = some (.c (.sl 1 (bytesAV k)), x :: .row 5 1 (bytesAV k) :: R) := by
  rw [callX_prim prim103e, show (cfg b).keepA 103 = true from rfl, hc1]
  have hl : (bytesAV k).length ≤ 140737488355328 := by simpa [bytesAV] using hk
  simp [cloneP, elemsOf, rowOf, bytesC_av, hl, hk]
theorem compare_os0 (b : Bool) (x y : List UInt8) (R : Heap) : callX (cfg b) An 101 [.os 0, .c (.sl 1 (bytesAV y))] (.row 5 1 (bytesAV x) :: R) = some (.c (.int .i64 (cmpZ x y)), .row 5 1 (bytesAV x) :: R) := by
  rw [callX_prim prim101e, show (cfg b).keepA 101 = true from rfl, hc2]
  simp only [compareP, bE, elemsOf, rowOf, if_true, bytesC_av, List.getElem?_cons_zero]
  rfl
theorem v123 {b : Bool} {H : Heap} {vs : List AV} : callX (cfg b) An 123 vs H = cvw (fnX (cfg b) An 123) (handCs (cfg b) true H vs) := callX_v (prim_none (by decide))
theorem v91 {b : Bool} {H : Heap} {vs : List AV} : callX (cfg b) An 91 vs H = cvw (fnX (cfg b) An 91) (handCs (cfg b) true H vs) := callX_v (prim_none (by decide))
theorem v100 {b : Bool} {H : Heap} {vs : List AV} : callX (cfg b) An 100 vs H = cvw (fnX (cfg b) An 100) (handCs (cfg b) true H vs) := callX_v (prim_none (by decide))
theorem v102 {b : Bool} {H : Heap} {vs : List AV} : callX (cfg b) An 102 vs H = cvw (fnX (cfg b) An 102) (handCs (cfg b) true H vs) := callX_v (prim_none (by decide))
theorem cf_PTreeO_3c811360 : clashFree [0, 1, 3, 7, 0, 16, 48, 112, 0, 0, 1008, 2047, 4095] [(false, [], 1, 1), (false, [], 1, 1), (false, [], 1, 1), (false, [], 1, 1), (false, [], 1, 1), (false, [], 1, 1), (false, [], 1, 1), (false, [], 1, 1), (false, [], 1, 1), (false, [], 1, 1), (true, [0], 1, 1), (false, [], 1, 1), (false, [], 1, 1)] = true := by decide
attribute [simp] cf_PTreeO_3c811360
theorem cf_PTreeO_56f0df86 : clashFree [0, 1, 3, 7, 0, 16, 48, 112, 0, 0, 1008, 2047, 4095] [(false, [], 2, 2), (false, [], 2, 2), (false, [], 2, 2), (false, [], 2, 2), (false, [], 2, 2), (false, [], 2, 2), (false, [], 2, 2), (false, [], 2, 2), (false, [], 2, 2), (false, [], 2, 2), (true, [0, 1], 2, 2), (false, [], 2, 2), (false, [], 2, 2)] = true := by decide
attribute [simp] cf_PTreeO_56f0df86
/-! CF -/
theorem equalO_fn (b : Bool) (x y : List UInt8) : fnX (cfg b) An 102 [.c (.sl 1 (bytesAV x)), .os 0] [.row 5 1 (bytesAV y)] = some (.c (.bool (x == y)), [.row 5 1 (bytesAV y)]) := by
  rw [fnX_eq, p102_eq]
  simp [p102, BA_toList]
set_option maxHeartbeats 4000000 in
theorem leafN_fn (b : Bool) (k : List UInt8) (hk : k.length ≤ 1000000) :
    fnX (cfg b) An 123 [.os 0, .c .nilsl] [.row 5 1 (bytesAV k)] = some (.c (Tn.leaf k none).pt, [.row 5 1 (bytesAV k)]) := by
  rw [fnX_eq, p123_eq]
  have hz : dI zero32 = List.replicate 32 0 := by decide
  have hh := hash_call b (.leaf k none) ⟨hk, by simp [pB]⟩
  rw [api_leaf, hz] at hh
  have hl := len_dI (Tn.leaf k none).hash
  rw [Tn.hash_len] at hl
  have hp : (Tn.leaf k none).pt = .ptr (.agg [.agg [.sl 1 (bytesAV k), .nilsl, .int .i64 0, .int .u64 1, .arr 32 .u8 (List.replicate 32 0), .arr 32 .u8 (List.replicate 32 0)], .arr 32 .u8 (dI (Tn.leaf k none).hash), .nilp, .nilp]) [] 0 := by rw [← hz]; rfl
  rw [hp]
  generalize (Tn.leaf k none).hash = w at *
  have c1 := clone_os0 b k (by omega)
  have c2 : ∀ H, callX (cfg b) An 103 [.c .nilsl] H = some (.c .nilsl, H) := clone_call b none (by decide)
  simp only [List.reduceReplicate, pV] at hh
  simp [p123, c1, c2, hh, hl, frz145]
set_option maxHeartbeats 8000000 in
theorem putN_fn (b : Bool) (key : List UInt8) (hk : key.length ≤ 1000000) : ∀ t : Tn, t.sz ≤ 100000000000 →
    fnX (cfg b) An 91 [.c t.pt, .os 0, .c .nilsl] [.row 5 1 (bytesAV key)] = some (.c (Tn.put key none t).pt, [.row 5 1 (bytesAV key)])
  | .leaf k w, hs => by
    rw [fnX_eq, p91_eq]
    have c1 := compare_os0 b key k
    have lf := leafN_fn b key hk 
    by_cases h1 : Op.bytesLess key k = true
    · have e : Tn.put key none (.leaf k w) = .node (.leaf key none) (.leaf k w) := by simp [Tn.put, h1]
      have i1 := inner_call b (.leaf key none) (.leaf k w) (by simp [Tn.sz])
      rw [e]
      simp only [Tn.pt] at lf i1 ⊢
      simp [p91, be138, c1, v123, key_leaf, ht_leaf, cmpZ_lt, cmpZ_gt', h1, lf, i1]
    · have h1' : Op.bytesLess key k = false := by simpa using h1
      by_cases h2 : key = k
      · have e : Tn.put key none (.leaf k w) = .leaf key none := by simp [Tn.put, h1', h2, bytesLess_irr]
        rw [e]
        have h3 : (key == k) = true := by simpa using h2
        simp only [Tn.pt] at lf ⊢
        simp [p91, be138, c1, v123, key_leaf, ht_leaf, cmpZ_lt, cmpZ_gt', h1', h3, lf]
      · have e : Tn.put key none (.leaf k w) = .node (.leaf k w) (.leaf key none) := by simp [Tn.put, h1', h2]
        have i1 := inner_call b (.leaf k w) (.leaf key none) (by simp [Tn.sz])
        rw [e]
        have h3 : (key == k) = false := by simpa using h2
        simp only [Tn.pt] at lf i1 ⊢
        simp [p91, be138, c1, v123, key_leaf, ht_leaf, cmpZ_lt, cmpZ_gt', h1', h3, lf, i1]
  | .node l r, hs => by
    simp only [Tn.sz] at hs
    have ihl := putN_fn b key hk  l (by omega)
    have ihr := putN_fn b key hk  r (by omega)
    rw [fnX_eq, p91_eq]
    have c1 := compare_os0 b key r.least
    have hp := ht_node_posN l r
    have s1 := Tn.sz_put key none l
    have s2 := Tn.sz_put key none r
    by_cases h1 : Op.bytesLess key r.least = true
    · have e : Tn.put key none (.node l r) = .bal (Tn.put key none l) r := by simp [Tn.put, h1]
      have i1 := bal_call b (Tn.put key none l) r (by omega)
      rw [e]
      have hlp := lp_node l r
      have hrp := rp_node l r
      simp only [Tn.pt] at ihl i1 hlp hrp ⊢
      simp [p91, be138, c1, v91, key_node, hp, hlp, hrp, cmpZ_lt, cmpZ_gt', h1, ihl, i1]
    · have h1' : Op.bytesLess key r.least = false := by simpa using h1
      have e : Tn.put key none (.node l r) = .bal l (Tn.put key none r) := by simp [Tn.put, h1']
      have i1 := bal_call b l (Tn.put key none r) (by omega)
      rw [e]
      have hlp := lp_node l r
      have hrp := rp_node l r
      simp only [Tn.pt] at ihr i1 hlp hrp ⊢
      simp [p91, be138, c1, v91, key_node, hp, hlp, hrp, cmpZ_lt, cmpZ_gt', h1', ihr, i1]
theorem putN_nil (b : Bool) (key : List UInt8) (hk : key.length ≤ 1000000) :
    fnX (cfg b) An 91 [.c .nilp, .os 0, .c .nilsl] [.row 5 1 (bytesAV key)] = some (.c (Tn.leaf key none).pt, [.row 5 1 (bytesAV key)]) := by
  rw [fnX_eq, p91_eq]
  have lf := leafN_fn b key hk 
  simp only [Tn.pt] at lf ⊢
  simp [p91, be138, v123, lf]
theorem putN_o (b : Bool) (key : List UInt8) (hk : key.length ≤ 1000000) (t : Option Tn) (ht : ∀ u, t = some u → u.sz ≤ 100000000000) :
    fnX (cfg b) An 91 [.c (Tn.pto t), .os 0, .c .nilsl] [.row 5 1 (bytesAV key)] = some (.c (Tn.puto key none t).pt, [.row 5 1 (bytesAV key)]) := by
  cases t with
  | none => exact putN_nil b key hk 
  | some u => exact putN_fn b key hk  u (ht u rfl)
theorem PutN_fn (b : Bool) (key : List UInt8) (h1 : key ≠ []) (h2 : key.length ≤ 96) (t : Option Tn) (ht : ∀ u, t = some u → u.sz ≤ 100000000000) :
    fnX (cfg b) An 36 [.c (tC t), .os 0, .c .nilsl] [.row 5 1 (bytesAV key)] = some (.tup [.c (tC (some (Tn.puto key none t))), .c (.int .i64 0)], [.row 5 1 (bytesAV key)]) := by
  rw [fnX_eq, p36_eq]
  have pc := putN_o b key (by omega) t ht
  have l1 : ((key.length : Int) == 0) = false := by
    have := List.length_pos_iff.2 h1
    simp only [beq_eq_false_iff_ne, ne_eq]; omega
  have l2 : ¬ (96 : Int) < (key.length : Int) := by omega
  have hbl : (bytesAV key).length = key.length := by simp [bytesAV]
  simp only [tC]
  generalize Tn.puto key none t = u at *
  have hu : CV.size u.pt = 1 := rfl
  have hu2 : CV.isAgg u.pt = false := rfl
  have hp : Tn.pto (some u) = u.pt := rfl
  simp [p36, be28, v91, pc, l1, l2, frz140, hu, hu2, hp, hbl]
set_option maxHeartbeats 4000000 in
theorem leafO_fn (b : Bool) (k : List UInt8) (v : List UInt8) (hk : k.length ≤ 1000000) (hv : v.length ≤ 1000000) :
    fnX (cfg b) An 123 [.os 0, .os 1] [.row 5 1 (bytesAV k), .row 5 1 (bytesAV v)] = some (.c (Tn.leaf k (some v)).pt, [.row 5 1 (bytesAV k), .row 5 1 (bytesAV v)]) := by
  rw [fnX_eq, p123_eq]
  have hz : dI zero32 = List.replicate 32 0 := by decide
  have hh := hash_call b (.leaf k (some v)) ⟨hk, by simpa [pB] using hv⟩
  rw [api_leaf, hz] at hh
  have hl := len_dI (Tn.leaf k (some v)).hash
  rw [Tn.hash_len] at hl
  have hp : (Tn.leaf k (some v)).pt = .ptr (.agg [.agg [.sl 1 (bytesAV k), .sl 1 (bytesAV v), .int .i64 0, .int .u64 1, .arr 32 .u8 (List.replicate 32 0), .arr 32 .u8 (List.replicate 32 0)], .arr 32 .u8 (dI (Tn.leaf k (some v)).hash), .nilp, .nilp]) [] 0 := by rw [← hz]; rfl
  rw [hp]
  generalize (Tn.leaf k (some v)).hash = w at *
  have c1 := clone_os0 b k (by omega)
  have c2 := clone_os1 b v (by omega)
  simp only [List.reduceReplicate, pV] at hh
  simp [p123, c1, c2, hh, hl, frz145]
set_option maxHeartbeats 8000000 in
theorem putO_fn (b : Bool) (key : List UInt8) (v : List UInt8) (hk : key.length ≤ 1000000) (hv : v.length ≤ 1000000) : ∀ t : Tn, t.sz ≤ 100000000000 →
    fnX (cfg b) An 91 [.c t.pt, .os 0, .os 1] [.row 5 1 (bytesAV key), .row 5 1 (bytesAV v)] = some (.c (Tn.put key (some v) t).pt, [.row 5 1 (bytesAV key), .row 5 1 (bytesAV v)])
  | .leaf k w, hs => by
    rw [fnX_eq, p91_eq]
    have c1 := compare_os0 b key k
    have lf := leafO_fn b key v hk hv 
    by_cases h1 : Op.bytesLess key k = true
    · have e : Tn.put key (some v) (.leaf k w) = .node (.leaf key (some v)) (.leaf k w) := by simp [Tn.put, h1]
      have i1 := inner_call b (.leaf key (some v)) (.leaf k w) (by simp [Tn.sz])
      rw [e]
      simp only [Tn.pt] at lf i1 ⊢
      simp [p91, be138, c1, v123, key_leaf, ht_leaf, cmpZ_lt, cmpZ_gt', h1, lf, i1]
    · have h1' : Op.bytesLess key k = false := by simpa using h1
      by_cases h2 : key = k
      · have e : Tn.put key (some v) (.leaf k w) = .leaf key (some v) := by simp [Tn.put, h1', h2, bytesLess_irr]
        rw [e]
        have h3 : (key == k) = true := by simpa using h2
        simp only [Tn.pt] at lf ⊢
        simp [p91, be138, c1, v123, key_leaf, ht_leaf, cmpZ_lt, cmpZ_gt', h1', h3, lf]
      · have e : Tn.put key (some v) (.leaf k w) = .node (.leaf k w) (.leaf key (some v)) := by simp [Tn.put, h1', h2]
        have i1 := inner_call b (.leaf k w) (.leaf key (some v)) (by simp [Tn.sz])
        rw [e]
        have h3 : (key == k) = false := by simpa using h2
        simp only [Tn.pt] at lf i1 ⊢
        simp [p91, be138, c1, v123, key_leaf, ht_leaf, cmpZ_lt, cmpZ_gt', h1', h3, lf, i1]
  | .node l r, hs => by
    simp only [Tn.sz] at hs
    have ihl := putO_fn b key v hk hv  l (by omega)
    have ihr := putO_fn b key v hk hv  r (by omega)
    rw [fnX_eq, p91_eq]
    have c1 := compare_os0 b key r.least
    have hp := ht_node_posN l r
    have s1 := Tn.sz_put key (some v) l
    have s2 := Tn.sz_put key (some v) r
    by_cases h1 : Op.bytesLess key r.least = true
    · have e : Tn.put key (some v) (.node l r) = .bal (Tn.put key (some v) l) r := by simp [Tn.put, h1]
      have i1 := bal_call b (Tn.put key (some v) l) r (by omega)
      rw [e]
      have hlp := lp_node l r
      have hrp := rp_node l r
      simp only [Tn.pt] at ihl i1 hlp hrp ⊢
      simp [p91, be138, c1, v91, key_node, hp, hlp, hrp, cmpZ_lt, cmpZ_gt', h1, ihl, i1]
    · have h1' : Op.bytesLess key r.least = false := by simpa using h1
      have e : Tn.put key (some v) (.node l r) = .bal l (Tn.put key (some v) r) := by simp [Tn.put, h1']
      have i1 := bal_call b l (Tn.put key (some v) r) (by omega)
      rw [e]
      have hlp := lp_node l r
      have hrp := rp_node l r
      simp only [Tn.pt] at ihr i1 hlp hrp ⊢
      simp [p91, be138, c1, v91, key_node, hp, hlp, hrp, cmpZ_lt, cmpZ_gt', h1', ihr, i1]
theorem putO_nil (b : Bool) (key : List UInt8) (v : List UInt8) (hk : key.length ≤ 1000000) (hv : v.length ≤ 1000000) :
    fnX (cfg b) An 91 [.c .nilp, .os 0, .os 1] [.row 5 1 (bytesAV key), .row 5 1 (bytesAV v)] = some (.c (Tn.leaf key (some v)).pt, [.row 5 1 (bytesAV key), .row 5 1 (bytesAV v)]) := by
  rw [fnX_eq, p91_eq]
  have lf := leafO_fn b key v hk hv 
  simp only [Tn.pt] at lf ⊢
  simp [p91, be138, v123, lf]
theorem putO_o (b : Bool) (key : List UInt8) (v : List UInt8) (hk : key.length ≤ 1000000) (hv : v.length ≤ 1000000) (t : Option Tn) (ht : ∀ u, t = some u → u.sz ≤ 100000000000) :
    fnX (cfg b) An 91 [.c (Tn.pto t), .os 0, .os 1] [.row 5 1 (bytesAV key), .row 5 1 (bytesAV v)] = some (.c (Tn.puto key (some v) t).pt, [.row 5 1 (bytesAV key), .row 5 1 (bytesAV v)]) := by
  cases t with
  | none => exact putO_nil b key v hk hv 
  | some u => exact putO_fn b key v hk hv  u (ht u rfl)
theorem PutO_fn (b : Bool) (key : List UInt8) (v : List UInt8) (h1 : key ≠ []) (h2 : key.length ≤ 96) (hv : v.length ≤ 256) (t : Option Tn) (ht : ∀ u, t = some u → u.sz ≤ 100000000000) :
    fnX (cfg b) An 36 [.c (tC t), .os 0, .os 1] [.row 5 1 (bytesAV key), .row 5 1 (bytesAV v)] = some (.tup [.c (tC (some (Tn.puto key (some v) t))), .c (.int .i64 0)], [.row 5 1 (bytesAV key), .row 5 1 (bytesAV v)]) := by
  rw [fnX_eq, p36_eq]
  have pc := putO_o b key v (by omega) (by omega) t ht
  have l1 : ((key.length : Int) == 0) = false := by
    have := List.length_pos_iff.2 h1
    simp only [beq_eq_false_iff_ne, ne_eq]; omega
  have l2 : ¬ (96 : Int) < (key.length : Int) := by omega
  have l3 : ¬ (256 : Int) < (v.length : Int) := by omega
  have hbv : (bytesAV v).length = v.length := by simp [bytesAV]
  have hbl : (bytesAV key).length = key.length := by simp [bytesAV]
  simp only [tC]
  generalize Tn.puto key (some v) t = u at *
  have hu : CV.size u.pt = 1 := rfl
  have hu2 : CV.isAgg u.pt = false := rfl
  have hp : Tn.pto (some u) = u.pt := rfl
  simp [p36, be28, v91, pc, l1, l2, l3, frz140, hu, hu2, hp, hbl, hbv]
set_option maxHeartbeats 8000000 in
theorem cutO_fn (b : Bool) (key : List UInt8) : ∀ t : Tn, t.sz ≤ 100000000000 →
    fnX (cfg b) An 100 [.c t.pt, .os 0] [.row 5 1 (bytesAV key)] = some (.tup [.c (Tn.pto (t.cut key).1), .c (.bool (t.cut key).2)], [.row 5 1 (bytesAV key)])
  | .leaf k w, hs => by
    rw [fnX_eq, p100_eq]
    have c1 := equalO_fn b k key
    by_cases h1 : k = key
    · have e : (Tn.leaf k w).cut key = (none, true) := by simp [Tn.cut, h1]
      have h3 : (k == key) = true := by simpa using h1
      rw [e]
      simp only [Tn.pt, Tn.pto]
      simp [p100, be138, c1, v102, v100, key_leaf, ht_leaf, h3]
    · have e : (Tn.leaf k w).cut key = (some (.leaf k w), false) := by simp [Tn.cut, h1]
      have h3 : (k == key) = false := by simpa using h1
      rw [e]
      simp only [Tn.pt, Tn.pto]
      simp [p100, be138, c1, v102, v100, key_leaf, ht_leaf, h3]
  | .node l r, hs => by
    simp only [Tn.sz] at hs
    have ihl := cutO_fn b key l (by omega)
    have ihr := cutO_fn b key r (by omega)
    rw [fnX_eq, p100_eq]
    have c1 := compare_os0 b key r.least
    have hne := ht_node_ne l r
    have hlp := lp_node l r
    have hrp := rp_node l r
    have s1 := Tn.sz_cut key l
    have s2 := Tn.sz_cut key r
    by_cases h1 : Op.bytesLess key r.least = true
    · have e : Tn.cut key (.node l r) = Tn.cutR (.node l r) (l.cut key) r (fun l' => Tn.bal l' r) := by simp [Tn.cut, h1]
      rw [e]
      cases hc : l.cut key with
      | mk o w =>
        rw [hc] at ihl s1
        simp only at ihl s1
        cases w with
        | false =>
          simp only [Tn.cutR, Tn.pto]
          simp only [Tn.pt] at ihl hlp hrp ⊢
          simp [p100, be138, c1, v102, v100, key_node, hne, hlp, hrp, cmpZ_lt, h1, ihl]
        | true =>
          cases o with
          | none =>
            simp only [Tn.cutR, Tn.pto] at ihl ⊢
            simp only [Tn.pt] at ihl hlp hrp ⊢
            simp [p100, be138, c1, v102, v100, key_node, hne, hlp, hrp, cmpZ_lt, h1, ihl]
          | some l' =>
            have i1 := bal_call b l' r (by have := s1 l' rfl; omega)
            simp only [Tn.cutR, Tn.pto] at ihl ⊢
            simp only [Tn.pt] at ihl hlp hrp i1 ⊢
            simp [p100, be138, c1, v102, v100, key_node, hne, hlp, hrp, cmpZ_lt, h1, ihl, i1]
    · have h1' : Op.bytesLess key r.least = false := by simpa using h1
      have e : Tn.cut key (.node l r) = Tn.cutR (.node l r) (r.cut key) l (fun r' => Tn.bal l r') := by simp [Tn.cut, h1']
      rw [e]
      cases hc : r.cut key with
      | mk o w =>
        rw [hc] at ihr s2
        simp only at ihr s2
        cases w with
        | false =>
          simp only [Tn.cutR, Tn.pto]
          simp only [Tn.pt] at ihr hlp hrp ⊢
          simp [p100, be138, c1, v102, v100, key_node, hne, hlp, hrp, cmpZ_lt, h1', ihr]
        | true =>
          cases o with
          | none =>
            simp only [Tn.cutR, Tn.pto] at ihr ⊢
            simp only [Tn.pt] at ihr hlp hrp ⊢
            simp [p100, be138, c1, v102, v100, key_node, hne, hlp, hrp, cmpZ_lt, h1', ihr]
          | some r' =>
            have i1 := bal_call b l r' (by have := s2 r' rfl; omega)
            simp only [Tn.cutR, Tn.pto] at ihr ⊢
            simp only [Tn.pt] at ihr hlp hrp i1 ⊢
            simp [p100, be138, c1, v102, v100, key_node, hne, hlp, hrp, cmpZ_lt, h1', ihr, i1]
theorem cutO_nil (b : Bool) (key : List UInt8) : fnX (cfg b) An 100 [.c .nilp, .os 0] [.row 5 1 (bytesAV key)] = some (.tup [.c .nilp, .c (.bool false)], [.row 5 1 (bytesAV key)]) := by
  rw [fnX_eq, p100_eq]
  simp [p100, be138]
theorem cutO_o (b : Bool) (key : List UInt8) (t : Option Tn) (ht : ∀ u, t = some u → u.sz ≤ 100000000000) :
    fnX (cfg b) An 100 [.c (Tn.pto t), .os 0] [.row 5 1 (bytesAV key)] = some (.tup [.c (Tn.pto (Tn.cuto key t).1), .c (.bool (Tn.cuto key t).2)], [.row 5 1 (bytesAV key)]) := by
  cases t with
  | none => exact cutO_nil b key
  | some u => exact cutO_fn b key u (ht u rfl)
theorem CutO_fn (b : Bool) (key : List UInt8) (t : Option Tn) (ht : ∀ u, t = some u → u.sz ≤ 100000000000) :
    fnX (cfg b) An 61 [.c (tC t), .os 0] [.row 5 1 (bytesAV key)] = some (.tup [.c (tC (Tn.cuto key t).1), .c (.bool (Tn.cuto key t).2)], [.row 5 1 (bytesAV key)]) := by
  rw [fnX_eq, p61_eq]
  have cc := cutO_o b key t ht
  simp only [tC]
  generalize Tn.cuto key t = u at *
  obtain ⟨o, w⟩ := u
  simp only at cc ⊢
  simp [p61, be28, v100, cc, frz140]
end Go.Fm
