/-
  A part of the proof: PCa.
-/
import Derived.Test.YtjmjijgnbjkpnabDoorPNod
import Derived.Test.YtjmjijgnbjkpnabDoorPTree
import Derived.Test.YtjmjijgnbjkpnabDoorDCache
set_option linter.all false
set_option autoImplicit true
/-
  cache: copied, New, List.
-/
set_option maxRecDepth 100000
set_option linter.unusedVariables false
set_option linter.unusedSimpArgs false
namespace Go.Fm
open Go Go.Proofs
theorem frz68 {b : Bool} : (cfg b).frz 68 = false := rfl
theorem frz70 {b : Bool} : (cfg b).frz 70 = false := rfl
theorem eqg27 {b : Bool} : (cfg b).P.eqGuardType (cfg b).P.depth 27 = false := by kernel_rfl
theorem aeq27 {b : Bool} {x y : AV} : aeq (cfg b).P 12 27 x y = ptrEq x y := aeq_ptr (e := 68) (by kernel_rfl)
theorem be27 {b lit : Bool} {x y : AV} {H : Heap} (h : isIS x y = false) : mBin (cfg b) 27 lit .eql x y H = eqH H false (ptrEq x y) := by rw [mBin_eqg eqg27 h, aeq27]
/-- An entry: a sum, and its node. -/
abbrev Ent := List UInt8 × Tn
def entC (e : Ent) : CV := .agg [.arr 32 .u8 (dI e.1), e.2.api]
/-- What can be kept. -/
def EntOk (e : Ent) : Prop := e.1.length = 32 ∧ e.2.fit
theorem csz_ent (e : Ent) (h : EntOk e) : (entC e).size = 100 := by
  have : (dI e.1).length = 32 := by rw [len_dI]; exact h.1
  simp [entC]
/-! CF -/
theorem ccopied_fn (b : Bool) (k : List UInt8) (v : Option (List UInt8)) (hk : k.length ≤ 1000000) (hv : (pB v).length ≤ 1000000) (h s : Int) (x y : List UInt8) (hx : x.length = 32) (hy : y.length = 32) :
    fnX (cfg b) An 22 [.c (.agg [.sl 1 (bytesAV k), pV v, .int .i64 h, .int .u64 s, .arr 32 .u8 (dI x), .arr 32 .u8 (dI y)])] [] = some (.c (.agg [.sl 1 (bytesAV k), pV v, .int .i64 h, .int .u64 s, .arr 32 .u8 (dI x), .arr 32 .u8 (dI y)]), []) := by
  rw [fnX_eq, p22_eq]
  have c1 := clone_sl b k (by omega)
  have c2 := clone_call b v (by omega)
  simp (maxSteps := 1000000) [p22, p22_d0, c1, c2, frz38]
theorem ccopied_call (b : Bool) (t : Tn) (h : t.fit) (H : Heap) : callX (cfg b) An 22 [.c t.api] H = some (.c t.api, H) := by
  refine callX_pure ?_ rfl rfl (prim_none (by decide)) H
  exact ccopied_fn b t.key t.val (t.fit_key h) (t.fit_val h) _ _ t.lh t.rh t.lh_len t.rh_len
theorem cnew_fn (b : Bool) (m : Mp) (room : Int) (h1 : 1 ≤ room) (h2 : room ≤ 4096) :
    fnX (cfg b) An 15 [.ov 0 [] 0, .c (.int .i64 room)] (baH m) = some (.tup [.ov 2 [] 0, .c (.int .i64 0)], baH m ++ [.var 68 (.agg [.ov 0 [] 0, .c (.int .i64 room), .c .nilsl])]) := by
  rw [fnX_eq, p15_eq]
  simp only [baH]
  generalize mC m = M at *
  have c1 : ¬ room < 1 := by omega
  have c2 : ¬ 4096 < room := by omega
  simp (maxSteps := 1000000) [p15, be26, frz81, frz68, c1, c2]
/-- A cache: nothing in it; something in it. -/
def cHn (room : Int) (m : Mp) : Heap := [.var 68 (.agg [.ov 1 [] 0, .c (.int .i64 room), .c .nilsl]), .var 81 (.agg [.mp 2]), .mp (mC m)]
def cHr (room : Int) (E : List CV) (m : Mp) : Heap := [.var 68 (.agg [.ov 1 [] 0, .c (.int .i64 room), .os 2]), .var 81 (.agg [.mp 3]), .row 70 100 E, .mp (mC m)]
def hC (e : Ent) : CV := .arr 32 .u8 (dI e.1)
def acA4 (l : List Ent) : AV := match l with | [] => .c .nilsl | _ => .os 4
def acH4 (l : List Ent) : Heap := match l with | [] => [] | l => [.row 34 32 (l.map hC)]
set_option maxHeartbeats 8000000 in
theorem clist_step (b : Bool) (room : Int) (l : List Ent) (hm : l.length ≤ 5000) (m : Mp) (pre rest : List Ent) (e : Ent) (h : l = pre ++ e :: rest) (he : EntOk e) :
    loopX 4 (p9_l0 b (callX (cfg b) An) 4) [acA4 pre, .os 2, .c (.int .i64 (l.length : Int)), .c (.int .i64 (pre.length : Int))] (cHr room (l.map entC) m ++ acH4 pre) =
    loopX 4 (p9_l0 b (callX (cfg b) An) 4) [acA4 (pre ++ [e]), .os 2, .c (.int .i64 (l.length : Int)), .c (.int .i64 ((pre.length : Int) + 1))] (cHr room (l.map entC) m ++ acH4 (pre ++ [e])) := by
  have hl : pre.length < l.length := by subst h; simp
  have hg : nthC (l.map entC) pre.length = entC e := by rw [h]; simp [nthC, List.getD_eq_getElem?_getD]
  have hs := csz_ent e he
  have hh : (dI e.1).length = 32 := by rw [len_dI]; exact he.1
  have ha := idx_add pre.length (by omega)
  have hE : entC e = .agg [hC e, e.2.api] := rfl
  have hx := big_max (n := pre.length + 1) (by omega)
  have hx1 : (pre.length + 1) * 32 ≤ 140737488355328 := by omega
  have hlE : (l.map entC).length = l.length := by simp
  rw [loopX_eq]
  simp only [cHr]
  generalize mC m = M at *
  generalize l.map entC = E at *
  generalize l.length = n at *
  cases pre with
  | nil =>
    simp only [List.length_nil, List.nil_append] at *
    have a0 : iAdd .i64 0 1 = 1 := by decide
    simp (maxSteps := 1000000) [p9_l0, a0, acA4, acH4, hl, hg, hE, ha, hs, hh, hx, frz70, frz41n, hC, hlE]
    exact loopX_gc (by simp) (by simp)
  | cons q pre =>
    have hi2 : pre.length + 1 = (q :: pre).length := rfl
    generalize (q :: pre).length = i at *
    simp (maxSteps := 1000000) [p9_l0, hi2, hx1, acA4, acH4, hl, hg, hE, ha, hs, hh, hx, frz70, frz41n, hC, hlE]
    exact loopX_gc (by simp) (by simp)
theorem clist_loop (b : Bool) (room : Int) (l : List Ent) (hm : l.length ≤ 5000) (m : Mp) (ho : ∀ e ∈ l, EntOk e) : ∀ (rest pre : List Ent), l = pre ++ rest →
    loopX 4 (p9_l0 b (callX (cfg b) An) 4) [acA4 pre, .os 2, .c (.int .i64 (l.length : Int)), .c (.int .i64 (pre.length : Int))] (cHr room (l.map entC) m ++ acH4 pre) =
    some (.exit 0 [acA4 l], cHr room (l.map entC) m ++ acH4 l)
  | [], pre, h => by
    rw [List.append_nil] at h
    subst h
    rw [loopX_eq]
    simp only [cHr]
    generalize mC m = M at *
    generalize hE : l.map entC = E at *
    cases l with
    | nil => simp [p9_l0, acA4, acH4]
    | cons q l => simp [p9_l0, acA4, acH4]
  | e :: rest, pre, h => by
    have he : EntOk e := ho e (by rw [h]; simp)
    rw [clist_step b room l hm m pre rest e h he]
    have ih := clist_loop b room l hm m ho rest (pre ++ [e]) (by rw [h]; simp)
    have e1 : (((pre ++ [e]).length : Nat) : Int) = (pre.length : Int) + 1 := by simp
    rw [e1] at ih
    exact ih
theorem clist_fn (b : Bool) (room : Int) (e : Ent) (l : List Ent) (hm : (e :: l).length ≤ 5000) (m : Mp) (ho : ∀ x ∈ e :: l, EntOk x) :
    fnX (cfg b) An 9 [.ov 0 [] 0] (cHr room ((e :: l).map entC) m) = some (.c (.sl 32 ((e :: l).map hC)), cHr room ((e :: l).map entC) m) := by
  rw [fnX_eq, p9_eq]
  have lp := clist_loop b room (e :: l) hm m ho (e :: l) [] rfl
  have hl : ((e :: l).map entC).length = (e :: l).length := by simp
  obtain ⟨n, hn⟩ : ∃ n, n = (e :: l).length := ⟨_, rfl⟩
  rw [← hn] at lp hl
  simp only [cHr, acA4, acH4, List.length_nil] at lp ⊢
  generalize mC m = M at *
  generalize (e :: l).map entC = E at *
  generalize (e :: l).map hC = F at *
  rw [show ((0 : Nat) : Int) = 0 from rfl] at lp
  simp only [List.append_nil, List.cons_append, List.nil_append] at lp
  simp (maxSteps := 1000000) [p9, be27, frz68, frz81, hl, lp]
end Go.Fm
/-
  cache.Node: the look for a node that was read.
-/
set_option maxRecDepth 100000
set_option linter.unusedVariables false
set_option linter.unusedSimpArgs false
namespace Go.Fm
open Go Go.Proofs
theorem v23 {b : Bool} {H : Heap} {vs : List AV} : callX (cfg b) An 23 vs H = cvw (fnX (cfg b) An 23) (handCs (cfg b) false H vs) := callX_v (prim_none (by decide))
theorem v24 {b : Bool} {H : Heap} {vs : List AV} : callX (cfg b) An 24 vs H = cvw (fnX (cfg b) An 24) (handCs (cfg b) false H vs) := callX_v (prim_none (by decide))
theorem hEq (b lit : Bool) (g h : List UInt8) (H : Heap) : mBin (cfg b) 34 lit .eql (.c (.arr 32 .u8 (dI g))) (.c (.arr 32 .u8 (dI h))) H = some (.c (.bool (g == h)), H) := by
  simp [be34, arrEq_e, dI_inj]
def z68 : CV := .agg [.nilsl, .nilsl, .int .i64 0, .int .u64 0, .arr 32 .u8 (List.replicate 32 0), .arr 32 .u8 (List.replicate 32 0)]
def nS (n : Nat) (i : Int) : List AV := [.ov 0 [] 0, .ov 4 [] 0, .ov 5 [] 0, .os 2, .c (.int .i64 (n : Int)), .c (.int .i64 i)]
def nT (h : List UInt8) : Heap := [.var 34 (.c (.arr 32 .u8 (dI h))), .var 38 (.c z68)]
/-! CF -/
set_option maxHeartbeats 8000000 in
theorem cn_skip (b : Bool) (room : Int) (l : List Ent) (hm : l.length ≤ 5000) (m : Mp) (h : List UInt8) (hh : h.length = 32) (pre rest : List Ent) (e : Ent) (hl0 : l = pre ++ e :: rest) (he : EntOk e) (hne : (e.1 == h) = false) :
    loopX 4 (p8_l0 b (callX (cfg b) An) 4) (nS l.length (pre.length : Int)) (cHr room (l.map entC) m ++ nT h) =
    loopX 4 (p8_l0 b (callX (cfg b) An) 4) (nS l.length ((pre.length : Int) + 1)) (cHr room (l.map entC) m ++ nT h) := by
  have hl : pre.length < l.length := by subst hl0; simp
  have hg : nthC (l.map entC) pre.length = entC e := by rw [hl0]; simp [nthC, List.getD_eq_getElem?_getD]
  have hs := csz_ent e he
  have hh1 : (dI e.1).length = 32 := by rw [len_dI]; exact he.1
  have hh2 : (dI h).length = 32 := by rw [len_dI]; exact hh
  have ha := idx_add pre.length (by omega)
  have hE : entC e = .agg [.arr 32 .u8 (dI e.1), e.2.api] := rfl
  have hlE : (l.map entC).length = l.length := by simp
  have hq := fun lit H => hEq b lit e.1 h H
  rw [hne] at hq
  rw [loopX_eq]
  simp only [cHr, nS, nT]
  generalize mC m = M at *
  generalize l.map entC = E at *
  generalize l.length = n at *
  generalize pre.length = i at *
  generalize z68 = Z at *
  simp (maxSteps := 1000000) [p8_l0, hl, hg, hE, ha, hs, hh1, hh2, frz70, frz41n, hlE, hq]
  exact loopX_gc (by simp) (by simp)
theorem cn_none (b : Bool) (room : Int) (l : List Ent) (hm : l.length ≤ 5000) (m : Mp) (h : List UInt8) (hh : h.length = 32) (ho : ∀ e ∈ l, EntOk e) (hne : ∀ e ∈ l, (e.1 == h) = false) : ∀ (rest pre : List Ent), l = pre ++ rest →
    loopX 4 (p8_l0 b (callX (cfg b) An) 4) (nS l.length (pre.length : Int)) (cHr room (l.map entC) m ++ nT h) = some (.exit 0 [.ov 0 [] 0, .ov 4 [] 0, .ov 5 [] 0, .any], cHr room (l.map entC) m ++ nT h)
  | [], pre, hl => by
    rw [List.append_nil] at hl
    subst hl
    rw [loopX_eq]
    simp only [cHr, nS, nT]
    generalize mC m = M at *
    generalize z68 = Z at *
    simp (maxSteps := 1000000) [p8_l0]
  | e :: rest, pre, hl => by
    have he : e ∈ l := by rw [hl]; simp
    rw [cn_skip b room l hm m h hh pre rest e hl (ho e he) (hne e he)]
    have ih := cn_none b room l hm m h hh ho hne rest (pre ++ [e]) (by rw [hl]; simp)
    have e1 : (((pre ++ [e]).length : Nat) : Int) = (pre.length : Int) + 1 := by simp
    rw [e1] at ih
    exact ih
end Go.Fm
/-
  cache.Node: a node that was read goes to the end.
-/
set_option maxRecDepth 100000
set_option linter.unusedVariables false
set_option linter.unusedSimpArgs false
namespace Go.Fm
open Go Go.Proofs
theorem cf_PCa3_4bed613c : clashFree [0, 0, 2, 6, 14, 0, 0, 126, 0, 256, 768, 1792, 0, 4096, 16128, 32766, 0, 65536, 262142, 524287, 1048575, 2097151] [(false, [], 7, 7), (false, [], 7, 7), (false, [0, 1, 3, 2], 7, 7), (false, [0, 1, 3, 2], 7, 7), (false, [0, 1, 3, 2], 7, 7), (false, [], 7, 7), (false, [], 7, 7), (true, [2], 7, 8), (false, [], 8, 8), (false, [0, 1, 3, 2], 8, 8), (false, [0, 1, 3, 2], 8, 8), (false, [0, 1, 3, 2], 8, 8), (false, [], 8, 8), (false, [], 8, 8), (false, [2], 8, 8), (false, [7], 8, 8), (false, [6], 8, 8), (false, [], 8, 9), (true, [7, 8], 9, 10), (false, [0, 1, 3, 2], 10, 10), (false, [0, 1, 3, 2], 10, 10), (true, [0, 1, 3, 2, 9], 10, 10)] = false := by decide
attribute [simp] cf_PCa3_4bed613c
theorem cf_PCa3_8a37a682 : clashFree [0, 0, 2, 6, 14, 0, 0, 126, 0, 256, 768, 1792, 0, 4096, 16128, 32766, 0, 65536, 262142, 524287, 1048575, 2097151] [(false, [], 7, 7), (false, [], 7, 7), (false, [0, 1, 3, 2], 7, 7), (false, [0, 1, 3, 2], 7, 7), (false, [0, 1, 3, 2], 7, 7), (false, [], 7, 7), (false, [], 7, 7), (false, [2], 7, 8), (false, [], 8, 8), (false, [0, 1, 3, 2], 8, 8), (false, [0, 1, 3, 2], 8, 8), (false, [0, 1, 3, 2], 8, 8), (false, [], 8, 8), (false, [], 8, 8), (false, [2], 8, 8), (false, [7], 8, 8), (false, [6], 8, 8), (false, [], 8, 9), (true, [7, 8], 9, 10), (false, [0, 1, 3, 2], 10, 10), (false, [0, 1, 3, 2], 10, 10), (true, [0, 1, 3, 2, 9], 10, 10)] = true := by decide
attribute [simp] cf_PCa3_8a37a682
theorem cf_PCa3_f32c17ec : clashFree [0, 0, 2, 6, 14, 0, 0, 126, 0, 256, 768, 1792, 0, 4096, 16128, 32766, 0, 65536, 262142, 524287, 1048575, 2097151] [(false, [], 7, 7), (false, [], 7, 7), (false, [0, 1, 3, 2], 7, 7), (false, [0, 1, 3, 2], 7, 7), (false, [0, 1, 3, 2], 7, 7), (false, [], 7, 7), (false, [], 7, 7), (true, [2], 7, 8), (false, [], 8, 8), (false, [0, 1, 3, 2], 8, 8), (false, [0, 1, 3, 2], 8, 8), (false, [0, 1, 3, 2], 8, 8), (false, [], 8, 8), (false, [], 8, 8), (false, [2], 8, 8), (false, [7], 8, 9), (false, [6], 9, 9), (false, [], 9, 10), (true, [8, 9], 10, 11), (false, [0, 1, 3, 2], 11, 11), (false, [0, 1, 3, 2], 11, 11), (true, [0, 1, 3, 2, 10], 11, 11)] = false := by decide
attribute [simp] cf_PCa3_f32c17ec
theorem cf_PCa3_ec8f7337 : clashFree [0, 0, 2, 6, 14, 0, 0, 126, 0, 256, 768, 1792, 0, 4096, 16128, 32766, 0, 65536, 262142, 524287, 1048575, 2097151] [(false, [], 7, 7), (false, [], 7, 7), (false, [0, 1, 3, 2], 7, 7), (false, [0, 1, 3, 2], 7, 7), (false, [0, 1, 3, 2], 7, 7), (false, [], 7, 7), (false, [], 7, 7), (false, [2], 7, 8), (false, [], 8, 8), (false, [0, 1, 3, 2], 8, 8), (false, [0, 1, 3, 2], 8, 8), (false, [0, 1, 3, 2], 8, 8), (false, [], 8, 8), (false, [], 8, 8), (false, [2], 8, 8), (false, [7], 8, 9), (false, [6], 9, 9), (false, [], 9, 10), (true, [8, 9], 10, 11), (false, [0, 1, 3, 2], 11, 11), (false, [0, 1, 3, 2], 11, 11), (true, [0, 1, 3, 2, 10], 11, 11)] = true := by decide
attribute [simp] cf_PCa3_ec8f7337
/-! CF -/
set_option maxHeartbeats 16000000 in
theorem cn_hitA (b : Bool) (room : Int) (l : List Ent) (hm : l.length ≤ 5000) (m : Mp) (h : List UInt8) (hh : h.length = 32) (pre : List Ent) (e : Ent) (hl0 : l = pre ++ e :: []) (he : EntOk e) (hfit : e.2.fit) (heq : (e.1 == h) = true) :
    loopX 4 (p8_l0 b (callX (cfg b) An) 4) (nS l.length (pre.length : Int)) (cHr room (l.map entC) m ++ nT h) = some (.ret [.ov 0 [] 0, .ov 4 [] 0, .ov 5 [] 0, .c (.int .i64 0)], [.var 68 (.agg [.ov 1 [] 0, .c (.int .i64 room), .os 9]), .var 81 (.agg [.mp 3]), .frow 70 100 (l.map entC), .mp (mC m), .var 34 (.c (.arr 32 .u8 (dI h))), .var 38 (.c e.2.api), .var 70 (.c (entC e)), .xrow 70 100 (pre.map entC), .row 70 100 [entC e], .row 70 100 (pre.map entC ++ [entC e])]) := by
  have hl : pre.length < l.length := by subst hl0; simp
  have hg : nthC (l.map entC) pre.length = entC e := by rw [hl0]; simp [nthC, List.getD_eq_getElem?_getD]
  have hs := csz_ent e he
  have hh1 : (dI e.1).length = 32 := by rw [len_dI]; exact he.1
  have hh2 : (dI h).length = 32 := by rw [len_dI]; exact hh
  have ha := idx_add pre.length (by omega)
  have hE : entC e = .agg [.arr 32 .u8 (dI e.1), e.2.api] := rfl
  have hlE : (l.map entC).length = l.length := by simp
  have hq := fun lit H => hEq b lit e.1 h H
  rw [heq] at hq
  have hx := big_max (n := pre.length + 1) (by omega)
  have hx1 : (pre.length + 1) * 160 ≤ 140737488355328 := by omega
  have hx2 := big_max (n := pre.length) (by omega)
  have hx3 : (pre.length) * 160 ≤ 140737488355328 := by omega
  have cc := ccopied_call b e.2 hfit
  have hdr : (l.map entC).drop (pre.length + 1) = [] := by rw [hl0]; simp
  have htk : (l.map entC).take pre.length = pre.map entC := by rw [hl0]; simp
  have hpl : (pre.map entC).length = pre.length := by simp
  have i1 : (pre.length : Int) + 1 ≤ (l.length : Int) := by omega
  have i2 : ((pre.length : Int) + 1).toNat = pre.length + 1 := by omega
  have i3 : (0 : Int) ≤ (pre.length : Int) + 1 := by omega
  have i4 : l.length - (pre.length + 1) = 0 := by rw [hl0]; simp
  have s1 := csz_api e.2
  have s2 := cag_api e.2
  have hz : z68.size = 68 := rfl
  have hza : z68.isAgg = true := rfl
  rw [loopX_eq]
  simp only [cHr, nS, nT]
  generalize mC m = M at *
  generalize l.map entC = E at *
  generalize pre.map entC = P at *
  generalize l.length = n at *
  generalize pre.length = i at *
  generalize z68 = Z at *
  generalize e.2.api = ap at *
  have sf : ∀ lo, mSliceSl 100 (.os 2) lo none [.dead, .dead, .frow 70 100 E, .dead, .dead, .dead, .dead, .dead] = _ := fun lo => mSliceSl_fos (lo := lo) (i := 2) (sz := 100) (H := [.dead, .dead, .frow 70 100 E, .dead, .dead, .dead, .dead, .dead]) rfl
  simp (maxSteps := 2000000) [sf, hz, hza, p8_l0, p8_l0_d0, hl, hg, hE, ha, hs, hh1, hh2, frz70, frz41n, frz68, frz38, hlE, hq, hx, hx1, hx2, hx3, cc, hdr, htk, hpl, i1, i2, i3, i4, s1, s2]
set_option maxHeartbeats 16000000 in
theorem cn_hitB (b : Bool) (room : Int) (l : List Ent) (hm : l.length ≤ 5000) (m : Mp) (h : List UInt8) (hh : h.length = 32) (pre rest : List Ent) (e q : Ent) (hl0 : l = pre ++ e :: q :: rest) (he : EntOk e) (hfit : e.2.fit) (heq : (e.1 == h) = true) :
    loopX 4 (p8_l0 b (callX (cfg b) An) 4) (nS l.length (pre.length : Int)) (cHr room (l.map entC) m ++ nT h) = some (.ret [.ov 0 [] 0, .ov 4 [] 0, .ov 5 [] 0, .c (.int .i64 0)], [.var 68 (.agg [.ov 1 [] 0, .c (.int .i64 room), .os 10]), .var 81 (.agg [.mp 3]), .frow 70 100 (l.map entC), .mp (mC m), .var 34 (.c (.arr 32 .u8 (dI h))), .var 38 (.c e.2.api), .var 70 (.c (entC e)), .xrow 70 100 (pre.map entC), .dead, .row 70 100 [entC e], .row 70 100 (pre.map entC ++ entC q :: rest.map entC ++ [entC e])]) := by
  have hl : pre.length < l.length := by subst hl0; simp
  have hg : nthC (l.map entC) pre.length = entC e := by rw [hl0]; simp [nthC, List.getD_eq_getElem?_getD]
  have hs := csz_ent e he
  have hh1 : (dI e.1).length = 32 := by rw [len_dI]; exact he.1
  have hh2 : (dI h).length = 32 := by rw [len_dI]; exact hh
  have ha := idx_add pre.length (by omega)
  have hE : entC e = .agg [.arr 32 .u8 (dI e.1), e.2.api] := rfl
  have hlE : (l.map entC).length = l.length := by simp
  have hq := fun lit H => hEq b lit e.1 h H
  rw [heq] at hq
  have hx := big_max (n := pre.length + 1) (by omega)
  have hx1 : (pre.length + 1) * 160 ≤ 140737488355328 := by omega
  have hx2 := big_max (n := pre.length) (by omega)
  have hx3 : (pre.length) * 160 ≤ 140737488355328 := by omega
  have cc := ccopied_call b e.2 hfit
  have hdr : (l.map entC).drop (pre.length + 1) = entC q :: rest.map entC := by
    have := List.drop_left (l₁ := pre.map entC ++ [entC e]) (l₂ := entC q :: rest.map entC)
    rw [hl0]; simpa using this
  have htk : (l.map entC).take pre.length = pre.map entC := by rw [hl0]; simp
  have hpl : (pre.map entC).length = pre.length := by simp
  have i1 : (pre.length : Int) + 1 ≤ (l.length : Int) := by omega
  have i2 : ((pre.length : Int) + 1).toNat = pre.length + 1 := by omega
  have i3 : (0 : Int) ≤ (pre.length : Int) + 1 := by omega
  have i4 : l.length - (pre.length + 1) = rest.length + 1 := by rw [hl0]; simp; omega
  have i5 : pre.length + (rest.length + 1) + 1 = l.length := by rw [hl0]; simp; omega
  have i6 := big_max (n := l.length) (by omega)
  have i7 : l.length * 160 ≤ 140737488355328 := by omega
  have i8 := big_max (n := pre.length + (rest.length + 1)) (by omega)
  have i9 : (pre.length + (rest.length + 1)) * 160 ≤ 140737488355328 := by omega
  have hrl : (rest.map entC).length = rest.length := by simp
  have hrt : (rest.map entC).take rest.length = rest.map entC := List.take_of_length_le (by simp)
  have s1 := csz_api e.2
  have s2 := cag_api e.2
  have hz : z68.size = 68 := rfl
  have hza : z68.isAgg = true := rfl
  rw [loopX_eq]
  simp only [cHr, nS, nT]
  generalize mC m = M at *
  generalize l.map entC = E at *
  generalize pre.map entC = P at *
  generalize rest.map entC = R at *
  generalize rest.length = rn at *
  generalize l.length = n at *
  generalize pre.length = i at *
  generalize z68 = Z at *
  generalize e.2.api = ap at *
  have sf : ∀ lo, mSliceSl 100 (.os 2) lo none [.dead, .dead, .frow 70 100 E, .dead, .dead, .dead, .dead, .dead] = _ := fun lo => mSliceSl_fos (lo := lo) (i := 2) (sz := 100) (H := [.dead, .dead, .frow 70 100 E, .dead, .dead, .dead, .dead, .dead]) rfl
  simp (maxSteps := 2000000) [sf, hz, hza, p8_l0, p8_l0_d0, hl, hg, hE, ha, hs, hh1, hh2, frz70, frz41n, frz68, frz38, hlE, hq, hx, hx1, hx2, hx3, cc, hdr, htk, hpl, i1, i2, i3, i4, i5, i6, i7, i8, i9, hrl, hrt, s1, s2]
end Go.Fm
/-
  cache.Node: what it answers, and what is cached behind it.
-/
set_option maxRecDepth 100000
set_option linter.unusedVariables false
set_option linter.unusedSimpArgs false
namespace Go.Fm
open Go Go.Proofs
theorem cn_upto (b : Bool) (room : Int) (l : List Ent) (hm : l.length ≤ 5000) (m : Mp) (h : List UInt8) (hh : h.length = 32) (ho : ∀ e ∈ l, EntOk e) : ∀ (mid pre rest : List Ent), l = pre ++ mid ++ rest → (∀ e ∈ mid, (e.1 == h) = false) →
    loopX 4 (p8_l0 b (callX (cfg b) An) 4) (nS l.length (pre.length : Int)) (cHr room (l.map entC) m ++ nT h) =
    loopX 4 (p8_l0 b (callX (cfg b) An) 4) (nS l.length (((pre ++ mid).length : Nat) : Int)) (cHr room (l.map entC) m ++ nT h)
  | [], pre, rest, hl, hne => by rw [List.append_nil]
  | e :: mid, pre, rest, hl, hne => by
    have he : e ∈ l := by rw [hl]; simp
    rw [cn_skip b room l hm m h hh pre (mid ++ rest) e (by rw [hl]; simp) (ho e he) (hne e (by simp))]
    have ih := cn_upto b room l hm m h hh ho mid (pre ++ [e]) rest (by rw [hl]; simp) (fun x hx => hne x (by simp [hx]))
    have e1 : (((pre ++ [e]).length : Nat) : Int) = (pre.length : Int) + 1 := by simp
    rw [e1] at ih
    rw [ih]
    simp
/-- A cache behind a call. -/
def cHo (room : Int) (B : Blk) (E : List CV) (m : Mp) : Heap := [.var 68 (.agg [.ov 1 [] 0, .c (.int .i64 room), .os 4]), .var 81 (.agg [.mp 3]), B, .mp (mC m), .row 70 100 E]
/-! CF -/
set_option maxHeartbeats 16000000 in
theorem cnode_hit (b : Bool) (room : Int) (l : List Ent) (hm : l.length ≤ 5000) (m : Mp) (h : List UInt8) (hh : h.length = 32) (ho : ∀ e ∈ l, EntOk e) (pre rest : List Ent) (e : Ent) (hl : l = pre ++ e :: rest) (hne : ∀ x ∈ pre, (x.1 == h) = false) (heq : (e.1 == h) = true) :
    fnX (cfg b) An 8 [.ov 0 [] 0, .c (.arr 32 .u8 (dI h))] (cHr room (l.map entC) m) = some (.tup [.c e.2.api, .c (.int .i64 0)], cHo room (.frow 70 100 (l.map entC)) ((pre ++ rest ++ [e]).map entC) m) := by
  rw [fnX_eq, p8_eq]
  have he : EntOk e := ho e (by rw [hl]; simp)
  have up := cn_upto b room l hm m h hh ho pre [] (e :: rest) (by rw [hl]; simp) hne
  have hlE : (l.map entC).length = l.length := by simp
  have hh2 : (dI h).length = 32 := by rw [len_dI]; exact hh
  have s1 := csz_api e.2
  have s2 := cag_api e.2
  have lp : ∃ j W, loopX 4 (p8_l0 b (callX (cfg b) An) 4) (nS l.length (pre.length : Int)) (cHr room (l.map entC) m ++ nT h) = some (.ret [.ov 0 [] 0, .ov 4 [] 0, .ov 5 [] 0, .c (.int .i64 0)], [.var 68 (.agg [.ov 1 [] 0, .c (.int .i64 room), .os j]), .var 81 (.agg [.mp 3]), .frow 70 100 (l.map entC), .mp (mC m), .var 34 (.c (.arr 32 .u8 (dI h))), .var 38 (.c e.2.api), .var 70 (.c (entC e)), .xrow 70 100 (pre.map entC)] ++ W) ∧
      ((j = 9 ∧ ∃ a c, W = [a, .row 70 100 c] ∧ c = (pre ++ rest ++ [e]).map entC) ∨ (j = 10 ∧ ∃ a d c, W = [a, d, .row 70 100 c] ∧ c = (pre ++ rest ++ [e]).map entC)) := by
    cases rest with
    | nil => exact ⟨9, _, cn_hitA b room l hm m h hh pre e hl he he.2 heq, .inl ⟨rfl, _, _, rfl, by simp⟩⟩
    | cons q rest => exact ⟨10, _, cn_hitB b room l hm m h hh pre rest e q hl he he.2 heq, .inr ⟨rfl, _, _, _, rfl, by simp⟩⟩
  obtain ⟨j, W, lp, hW⟩ := lp
  rw [List.nil_append, lp] at up
  have z0 : ((([] : List Ent).length : Nat) : Int) = 0 := rfl
  rw [z0] at up
  have hz : z68 = .agg [.nilsl, .nilsl, .int .i64 0, .int .u64 0, .arr 32 .u8 (List.replicate 32 0), .arr 32 .u8 (List.replicate 32 0)] := rfl
  simp only [cHr, cHo, nS, nT, List.cons_append, List.nil_append] at up ⊢
  rw [hz] at up
  simp only [List.reduceReplicate] at up
  generalize mC m = M at *
  generalize l.map entC = E at *
  generalize e.2.api = ap at *
  generalize l.length = n at *
  rcases hW with ⟨rfl, a, c, rfl, rfl⟩ | ⟨rfl, a, d, c, rfl, rfl⟩
  · simp (maxSteps := 1000000) [p8, be27, frz68, frz81, frz41n, frz38, hlE, up, s1, s2]
  · simp (maxSteps := 1000000) [p8, be27, frz68, frz81, frz41n, frz38, hlE, up, s1, s2]
end Go.Fm
/-
  nodes.Decode of a node's bytes: the node.
-/
set_option maxRecDepth 100000
set_option linter.unusedVariables false
set_option linter.unusedSimpArgs false
namespace Go.Fm
open Go Go.Proofs
/-- A node as it is read: a value of no bytes is none. -/
def Tn.nrm : Tn → Tn
  | .leaf k v => match pB v with
    | [] => .leaf k none
    | x :: r => .leaf k (some (x :: r))
  | .node l r => .node l r
theorem Tn.nrm_fit {t : Tn} (h : t.fit) : t.nrm.fit := by
  cases t with
  | leaf k v =>
    obtain ⟨h1, h2⟩ := h
    cases hv : pB v with
    | nil =>
      have e : (Tn.leaf k v).nrm = .leaf k none := by simp [Tn.nrm, hv]
      rw [e]
      exact ⟨h1, by decide⟩
    | cons x r =>
      have e : (Tn.leaf k v).nrm = .leaf k (some (x :: r)) := by simp [Tn.nrm, hv]
      rw [e]
      exact ⟨h1, by rw [hv] at h2; exact h2⟩
  | node l r => exact h
theorem dec_nrm (b : Bool) (t : Tn) (h : Small t) : fnX (cfg b) An 24 [.c (.sl 1 (bytesAV t.enc))] [] = some (.tup [.c t.nrm.api, .c (.int .i64 0)], []) := by
  have pc := parse_call b t.its (its_ok t h) (by cases t with | leaf k v => simp only [Tn.its]; split <;> simp | node l r => simp [Tn.its])
  rw [← enc_flat t h] at pc
  cases t with
  | leaf k v =>
    obtain ⟨h0, h1, h2⟩ := h
    cases hv : pB v with
    | nil =>
      have e : (Tn.leaf k v).its = [(1, k)] := by simp [Tn.its, hv]
      rw [e] at pc
      have ee : (Tn.leaf k v).enc = (Tn.leaf k none).enc := by
        show tput (some (tput (some (tput none 1 (some k))) 2 v)) 3 _ = tput (some (tput (some (tput none 1 (some k))) 2 none)) 3 _
        rw [tput_no _ 2 v (by rw [hv]; rfl), tput_no _ 2 none rfl]
        rfl
      rw [ee] at pc ⊢
      have ec : ∀ H, callX (cfg b) An 28 [.c (Tn.leaf k none).api] H = _ := callX_pure (enc_leaf b k none h0 h1 (by decide)) rfl rfl (prim_none (by decide))
      rw [api_leaf, zero32_dI] at ec
      have en : (Tn.leaf k v).nrm = .leaf k none := by simp [Tn.nrm, hv]
      rw [en, api_leaf, zero32_dI]
      exact dec_leaf1 b _ k .nilp pc ec
    | cons x r =>
      have e : (Tn.leaf k v).its = [(1, k), (2, x :: r)] := by simp [Tn.its, hv]
      rw [e] at pc
      have ev : v = some (x :: r) := by
        cases v with
        | none => simp [pB] at hv
        | some v => simp only [pB] at hv; rw [hv]
      subst ev
      have ec : ∀ H, callX (cfg b) An 28 [.c (Tn.leaf k (some (x :: r))).api] H = _ := callX_pure (enc_leaf b k _ h0 h1 (by omega)) rfl rfl (prim_none (by decide))
      rw [api_leaf, zero32_dI] at ec
      have en : (Tn.leaf k (some (x :: r))).nrm = .leaf k (some (x :: r)) := rfl
      rw [en, api_leaf, zero32_dI]
      exact dec_leaf2 b _ k (x :: r) pc ec
  | node l r =>
    obtain ⟨h0, h1, h2⟩ := h
    have hp : 0 < (Tn.node l r).ht := ht_node_posN l r
    have hz := (Tn.node l r).sz_pos
    have hs := Tn.ht_lt (.node l r)
    have hh64 : (Tn.node l r).ht ≤ 64 := by omega
    have ec : ∀ H, callX (cfg b) An 28 [.c (Tn.node l r).api] H = _ := callX_pure (enc_node b l r h0 h1 hh64) rfl rfl (prim_none (by decide))
    have ha : (Tn.node l r).api = .agg [.sl 1 (bytesAV r.least), .nilsl, .int .i64 ((Tn.node l r).ht : Int), .int .u64 ((Tn.node l r).sz : Int), .arr 32 .u8 (dI l.hash), .arr 32 .u8 (dI r.hash)] := rfl
    rw [ha] at ec
    have e1 : (((UInt8.ofNat (Tn.node l r).ht).toNat : Nat) : Int) = ((Tn.node l r).ht : Int) := lo_toNat (by omega)
    have e2 : (((UInt8.ofNat (Tn.node l r).sz).toNat : Nat) : Int) = ((Tn.node l r).sz : Int) := lo_toNat (by omega)
    have z1 : UInt8.ofNat (Tn.node l r).ht ≠ 0 := by intro e; rw [e] at e1; simp at e1; omega
    have z2 : UInt8.ofNat (Tn.node l r).sz ≠ 0 := by intro e; rw [e] at e2; simp at e2; omega
    rw [← e1, ← e2] at ec
    have d := dec_node5 b _ r.least l.hash r.hash _ _ z1 (by omega) z2 l.hash_len r.hash_len pc ec
    rw [e1, e2] at d
    exact d
end Go.Fm
/-
  cache.Node: a node that was not read comes out of the base.
-/
set_option maxRecDepth 100000
set_option linter.unusedVariables false
set_option linter.unusedSimpArgs false
namespace Go.Fm
open Go Go.Proofs
theorem cf_PCa5_8fefc7dc : clashFree [0, 0, 2, 6, 14, 0, 0, 96, 224, 510, 1023, 2047, 4095] [(false, [], 7, 7), (false, [], 7, 7), (false, [0, 1, 2], 7, 7), (false, [0, 1, 2], 7, 7), (false, [0, 1, 2], 7, 7), (false, [3], 7, 7), (false, [6], 7, 7), (false, [], 7, 7), (false, [], 7, 8), (true, [7], 8, 9), (false, [0, 1, 2], 9, 9), (false, [0, 1, 2], 9, 9), (true, [0, 1, 2, 8], 9, 9)] = true := by decide
attribute [simp] cf_PCa5_8fefc7dc
theorem cf_PCa5_f9a83256 : clashFree [0, 1, 3, 7, 15, 0, 32, 96, 224, 511] [(false, [], 8, 8), (false, [], 8, 8), (false, [0, 1, 3, 2], 8, 8), (false, [0, 1, 3, 2], 8, 8), (false, [0, 1, 3, 2], 8, 8), (false, [4], 8, 8), (false, [7], 8, 8), (false, [], 8, 8), (false, [], 8, 9), (true, [2, 8], 9, 10), (false, [0, 1, 3, 2], 10, 10), (false, [0, 1, 3, 2], 10, 10), (true, [0, 1, 3, 2, 9], 10, 10)] = false := by decide
attribute [simp] cf_PCa5_f9a83256
theorem cf_PCa5_55fabb7a : clashFree [0, 0, 2, 6, 14, 0, 0, 96, 224, 510, 1023, 2047, 4095] [(false, [], 8, 8), (false, [], 8, 8), (false, [0, 1, 3, 2], 8, 8), (false, [0, 1, 3, 2], 8, 8), (false, [0, 1, 3, 2], 8, 8), (false, [4], 8, 8), (false, [7], 8, 8), (false, [], 8, 8), (false, [], 8, 9), (true, [2, 8], 9, 10), (false, [0, 1, 3, 2], 10, 10), (false, [0, 1, 3, 2], 10, 10), (true, [0, 1, 3, 2, 9], 10, 10)] = true := by decide
attribute [simp] cf_PCa5_55fabb7a
/-! CF -/
set_option maxHeartbeats 4000000 in
theorem cnode_new (b : Bool) (room : Int) (hroom : 1 ≤ room) (m : Mp) (h : List UInt8) (hh : h.length = 32) (w : List UInt8) (hw : w.length ≤ 100000) (hk : lkM h m = some w) (u : Tn) (hu : u.fit)
    (dc : fnX (cfg b) An 24 [.c (.sl 1 (bytesAV w))] [] = some (.tup [.c u.api, .c (.int .i64 0)], [])) :
    fnX (cfg b) An 8 [.ov 0 [] 0, .c (.arr 32 .u8 (dI h))] (cHn room m) = some (.tup [.c u.api, .c (.int .i64 0)], [.var 68 (.agg [.ov 1 [] 0, .c (.int .i64 room), .os 3]), .var 81 (.agg [.mp 2]), .mp (mC m), .row 70 100 [entC (h, u)]]) := by
  rw [fnX_eq, p8_eq]
  have ge := get_fn b h hh m (by simp only [gtB, hk, pB]; exact hw)
  simp only [gtB, hk, pB, Option.isSome_some, baH] at ge
  have hh2 : (dI h).length = 32 := by rw [len_dI]; exact hh
  have s1 := csz_api u
  have s2 := cag_api u
  have cc := ccopied_call b u hu
  have hE : entC (h, u) = .agg [.arr 32 .u8 (dI h), u.api] := rfl
  have hr : ¬ (room < 1) := by omega
  have m1 : 1 ≤ maxLen := by simp [maxLen]
  simp only [cHn]
  generalize mC m = M at *
  generalize u.api = ap at *
  have lp : ∀ Z : CV, loopX 3 (p8_l0 b (callX (cfg b) An) 3) [.ov 0 [] 0, .ov 3 [] 0, .ov 4 [] 0, .c .nilsl, .c (.int .i64 0), .c (.int .i64 0)]
      [.var 68 (.agg [.ov 1 [] 0, .c (.int .i64 room), .c .nilsl]), .var 81 (.agg [.mp 2]), .mp M, .var 34 (.c (.arr 32 .u8 (dI h))), .var 38 (.c Z)] =
      some (.exit 0 [.ov 0 [] 0, .ov 3 [] 0, .ov 4 [] 0, .any], [.var 68 (.agg [.ov 1 [] 0, .c (.int .i64 room), .c .nilsl]), .var 81 (.agg [.mp 2]), .mp M, .var 34 (.c (.arr 32 .u8 (dI h))), .var 38 (.c Z)]) := by
    intro Z
    rw [loopX_eq]
    simp [p8_l0]
  simp (maxSteps := 2000000) [lp, p8, p8_d0, p8_d1, p8_d2, be27, frz68, frz81, frz41n, frz38, frz70, v23, v24, ge, dc, hh2, s1, s2, cc, hE, hr, m1, keepR84]
end Go.Fm
/-
  cache.Node: a node that was not read comes out of the base.
-/
set_option maxRecDepth 100000
set_option linter.unusedVariables false
set_option linter.unusedSimpArgs false
namespace Go.Fm
open Go Go.Proofs
/-! CF -/
set_option maxHeartbeats 4000000 in
theorem cnode_more (b : Bool) (room : Int) (l : List Ent) (hm : l.length ≤ 5000) (m : Mp) (h : List UInt8) (hh : h.length = 32) (ho : ∀ e ∈ l, EntOk e) (hne : ∀ e ∈ l, (e.1 == h) = false) (hroom : (l.length : Int) < room)
    (w : List UInt8) (hw : w.length ≤ 100000) (hk : lkM h m = some w) (u : Tn) (hu : u.fit)
    (dc : fnX (cfg b) An 24 [.c (.sl 1 (bytesAV w))] [] = some (.tup [.c u.api, .c (.int .i64 0)], [])) :
    fnX (cfg b) An 8 [.ov 0 [] 0, .c (.arr 32 .u8 (dI h))] (cHr room (l.map entC) m) = some (.tup [.c u.api, .c (.int .i64 0)], cHo room .dead (l.map entC ++ [entC (h, u)]) m) := by
  rw [fnX_eq, p8_eq]
  have ge := get_fn b h hh m (by simp only [gtB, hk, pB]; exact hw)
  simp only [gtB, hk, pB, Option.isSome_some, baH] at ge
  have hh2 : (dI h).length = 32 := by rw [len_dI]; exact hh
  have s1 := csz_api u
  have s2 := cag_api u
  have cc := ccopied_call b u hu
  have hE : entC (h, u) = .agg [.arr 32 .u8 (dI h), u.api] := rfl
  have hr : ¬ (room < (l.length : Int) + 1) := by omega
  have m1 : 1 ≤ maxLen := by simp [maxLen]
  have m2 := big_max (n := l.length + 1) (by omega)
  have m3 : (l.length + 1) * 160 ≤ 140737488355328 := by omega
  have hlE : (l.map entC).length = l.length := by simp
  have lp := cn_none b room l hm m h hh ho hne l [] rfl
  have hz : z68 = .agg [.nilsl, .nilsl, .int .i64 0, .int .u64 0, .arr 32 .u8 (List.replicate 32 0), .arr 32 .u8 (List.replicate 32 0)] := rfl
  have z0 : ((([] : List Ent).length : Nat) : Int) = 0 := rfl
  rw [z0] at lp
  simp only [cHr, cHo, nS, nT, List.cons_append, List.nil_append] at lp ⊢
  rw [hz] at lp
  simp only [List.reduceReplicate] at lp
  generalize mC m = M at *
  generalize u.api = ap at *
  generalize l.map entC = E at *
  generalize l.length = n at *
  simp (maxSteps := 2000000) [lp, p8, p8_d0, p8_d1, p8_d2, be27, frz68, frz81, frz41n, frz38, frz70, v23, v24, ge, dc, hh2, s1, s2, cc, hE, hr, m1, m2, m3, hlE, keepR84]
end Go.Fm
/-
  cache.Node: a node that was not read comes out of the base.
-/
set_option maxRecDepth 100000
set_option linter.unusedVariables false
set_option linter.unusedSimpArgs false
namespace Go.Fm
open Go Go.Proofs
/-! CF -/
set_option maxHeartbeats 4000000 in
theorem cnode_full (b : Bool) (room : Int) (a : Ent) (l : List Ent) (hm : (a :: l).length ≤ 5000) (m : Mp) (h : List UInt8) (hh : h.length = 32) (ho : ∀ e ∈ a :: l, EntOk e) (hne : ∀ e ∈ a :: l, (e.1 == h) = false) (hroom : ((a :: l).length : Int) = room)
    (w : List UInt8) (hw : w.length ≤ 100000) (hk : lkM h m = some w) (u : Tn) (hu : u.fit)
    (dc : fnX (cfg b) An 24 [.c (.sl 1 (bytesAV w))] [] = some (.tup [.c u.api, .c (.int .i64 0)], [])) :
    fnX (cfg b) An 8 [.ov 0 [] 0, .c (.arr 32 .u8 (dI h))] (cHr room ((a :: l).map entC) m) = some (.tup [.c u.api, .c (.int .i64 0)], cHo room .dead (l.map entC ++ [entC (h, u)]) m) := by
  rw [fnX_eq, p8_eq]
  have ge := get_fn b h hh m (by simp only [gtB, hk, pB]; exact hw)
  simp only [gtB, hk, pB, Option.isSome_some, baH] at ge
  have hh2 : (dI h).length = 32 := by rw [len_dI]; exact hh
  have s1 := csz_api u
  have s2 := cag_api u
  have cc := ccopied_call b u hu
  have hE : entC (h, u) = .agg [.arr 32 .u8 (dI h), u.api] := rfl
  have m1 : 1 ≤ maxLen := by simp [maxLen]
  have lp := cn_none b room (a :: l) hm m h hh ho hne (a :: l) [] rfl
  have hz : z68 = .agg [.nilsl, .nilsl, .int .i64 0, .int .u64 0, .arr 32 .u8 (List.replicate 32 0), .arr 32 .u8 (List.replicate 32 0)] := rfl
  have z0 : ((([] : List Ent).length : Nat) : Int) = 0 := rfl
  rw [z0] at lp
  simp only [cHr, cHo, nS, nT, List.cons_append, List.nil_append] at lp ⊢
  rw [hz] at lp
  simp only [List.reduceReplicate] at lp
  have hlE : ((a :: l).map entC).length = (a :: l).length := by simp
  have hlF : (l.map entC).length + 1 = (a :: l).length := by simp
  have hd : ((a :: l).map entC ++ [entC (h, u)]).drop 1 = l.map entC ++ [entC (h, u)] := rfl
  rw [hE] at hd
  generalize mC m = M at *
  generalize u.api = ap at *
  generalize (a :: l).map entC = E at *
  generalize l.map entC = F at *
  obtain ⟨n, hn⟩ : ∃ n, n = (a :: l).length := ⟨_, rfl⟩
  rw [← hn] at lp hroom hm hlE hlF
  have hr : room < (n : Int) + 1 := by omega
  have m2 := big_max (n := n + 1) (by omega)
  have m3 : (n + 1) * 160 ≤ 140737488355328 := by omega
  have m4 := big_max (n := n) (by omega)
  have m5 : n * 160 ≤ 140737488355328 := by omega
  have m7 : (1 : Int) ≤ (n : Int) + 1 := by omega
  clear hn
  have tl : ∀ x0 x1 x2 x3 x4 x5 x6 x7 x8 x10 : Blk, mSliceSl 100 (.os 9) (some (.c (.int .i64 1))) none [x0, x1, x2, x3, x4, x5, x6, x7, x8, .row 70 100 (E ++ [.agg [.arr 32 .u8 (dI h), ap]]), x10] =
      some (.os 11, [x0, x1, x2, x3, x4, x5, x6, x7, x8, .dead, x10, .row 70 100 (F ++ [.agg [.arr 32 .u8 (dI h), ap]])]) := by
    intro x0 x1 x2 x3 x4 x5 x6 x7 x8 x10
    rw [mSliceSl_tail (u := 70) (es := E ++ [.agg [.arr 32 .u8 (dI h), ap]]) rfl (by decide) (by simp; omega)]
    have : (E ++ [CV.agg [.arr 32 .u8 (dI h), ap]]).drop (1 : Int).toNat = F ++ [.agg [.arr 32 .u8 (dI h), ap]] := hd
    rw [this]
    rfl
  simp (maxSteps := 1000000) [lp, tl, p8, p8_d0, p8_d1, p8_d2, be27, frz68, frz81, frz41n, frz38, frz70, v23, v24, ge, dc, hh2, s1, s2, cc, hE, hr, m1, m2, m3, m4, m5, m7, hlE, hlF, hd, keepR84]
end Go.Fm
