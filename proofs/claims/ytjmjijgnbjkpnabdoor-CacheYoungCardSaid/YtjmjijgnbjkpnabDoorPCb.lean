/-
  A part of the proof: PCb.
-/
import Derived.Test.YtjmjijgnbjkpnabDoorPCa
import Derived.Test.YtjmjijgnbjkpnabDoorDLaw8
import Derived.Test.YtjmjijgnbjkpnabDoorPTree
import Derived.Test.YtjmjijgnbjkpnabDoorPGrow
import Derived.Test.YtjmjijgnbjkpnabDoorPNod
set_option linter.all false
set_option autoImplicit true
/-
  CacheYoung: the set of what is cached.
-/
set_option maxRecDepth 100000
set_option linter.unusedVariables false
set_option linter.unusedSimpArgs false
namespace Go.Fm
open Go Go.Proofs
def snC (l : List Ent) : List (CV × CV) := l.map fun e => (hC e, .bool true)
theorem putM_b {b : Bool} (e : Ent) : ∀ l : List Ent, (∀ x ∈ l, (e.1 == x.1) = false) → putM (cfg b).P 34 (hC e) (.bool true) (snC l) = some (snC (l ++ [e]))
  | [], _ => rfl
  | p :: r, hn => by
    have ih := putM_b (b := b) e r (fun x hx => hn x (by simp [hx]))
    have h0 := hn p (by simp)
    have e1 : snC (p :: r) = (hC p, .bool true) :: snC r := rfl
    rw [e1]
    unfold putM
    have e2 := aeq41h (b := b) e.1 p.1
    rw [h0] at e2
    have e3 : aeq (cfg b).P 12 34 (.c (hC e)) (.c (hC p)) = some false := e2
    rw [e3, ih]
    rfl
def sS (r : Int) (t : CV) (er : Int) (ns : CV) (h : List UInt8) (fe : Int) (l : CV) (wh : CV) (wn wi : Int) (n : Nat) (i : Int) : List AV :=
  [.c (.int .u8 r), .c t, .ov 0 [] 0, .c (.int .i64 er), .c ns, .ov 1 [] 0, .c (.int .i64 fe), .c l, .mp 2, .c wh, .c (.int .i64 wn), .c (.int .i64 wi), .c l, .c (.int .i64 (n : Int)), .c (.int .i64 i)]
def sH (room : Int) (h : List UInt8) (seen : List Ent) (E : List CV) (m : Mp) : Heap :=
  [.var 68 (.agg [.ov 3 [] 0, .c (.int .i64 room), .os 4]), .var 34 (.c (.arr 32 .u8 (dI h))), .mp (snC seen), .var 81 (.agg [.mp 5]), .row 70 100 E, .mp (mC m)]
/-! CF -/
set_option maxHeartbeats 8000000 in
theorem sn_step (b : Bool) (r : Int) (t : CV) (er : Int) (ns : CV) (h : List UInt8) (fe : Int) (wh : CV) (wn wi : Int) (room : Int) (m : Mp) (l : List Ent) (hm : l.length ≤ 5000) (pre rest : List Ent) (e : Ent) (hl0 : l = pre ++ e :: rest) (he : e.1.length = 32) (hne : ∀ x ∈ pre, (e.1 == x.1) = false) (E : List CV) :
    loopX 0 (p3_l2 b (callX (cfg b) An) 0) (sS r t er ns h fe (.sl 32 (l.map hC)) wh wn wi l.length (pre.length : Int)) (sH room h pre E m) =
    loopX 0 (p3_l2 b (callX (cfg b) An) 0) (sS r t er ns h fe (.sl 32 (l.map hC)) wh wn wi l.length ((pre.length : Int) + 1)) (sH room h (pre ++ [e]) E m) := by
  have hl : pre.length < l.length := by subst hl0; simp
  have hg : nthC (l.map hC) pre.length = hC e := by rw [hl0]; simp [nthC, List.getD_eq_getElem?_getD]
  have hh1 : (dI e.1).length = 32 := by rw [len_dI]; exact he
  have ha := idx_add pre.length (by omega)
  have hlE : (l.map hC).length = l.length := by simp
  have pm := putM_b (b := b) e pre hne
  have ko : keyOk (cfg b).P 34 (hC e) = true := keyOk41 _
  have hE : hC e = .arr 32 .u8 (dI e.1) := rfl
  rw [hE] at pm ko hg
  rw [loopX_eq]
  simp only [sS, sH]
  generalize mC m = M at *
  generalize snC (pre ++ [e]) = S2 at *
  generalize snC pre = S1 at *
  generalize l.map hC = L at *
  generalize l.length = n at *
  generalize pre.length = i at *
  simp (maxSteps := 1000000) [p3_l2, hl, hg, ha, hh1, frz41n, hlE, pm, ko]
  exact loopX_gc (by simp) (by simp)
end Go.Fm
/-
  CacheYoung: one turn of its loop.
-/
set_option maxRecDepth 100000
set_option linter.unusedVariables false
set_option linter.unusedSimpArgs false
namespace Go.Fm
open Go Go.Proofs
theorem v8 {b : Bool} {H : Heap} {vs : List AV} : callX (cfg b) An 8 vs H = cvw (fnX (cfg b) An 8) (handCs (cfg b) false H vs) := callX_v (prim_none (by decide))
theorem v9 {b : Bool} {H : Heap} {vs : List AV} : callX (cfg b) An 9 vs H = cvw (fnX (cfg b) An 9) (handCs (cfg b) false H vs) := callX_v (prim_none (by decide))
/-- All unlike. -/
def Unlike (l : List Ent) : Prop := l.Pairwise fun x y => (y.1 == x.1) = false
theorem sn_loop (b : Bool) (r : Int) (t : CV) (er : Int) (ns : CV) (h : List UInt8) (fe : Int) (wh : CV) (wn wi : Int) (room : Int) (m : Mp) (l : List Ent) (hm : l.length ≤ 5000) (ho : ∀ e ∈ l, e.1.length = 32) (hu : Unlike l) (E : List CV) : ∀ (rest pre : List Ent), l = pre ++ rest →
    loopX 0 (p3_l2 b (callX (cfg b) An) 0) (sS r t er ns h fe (.sl 32 (l.map hC)) wh wn wi l.length (pre.length : Int)) (sH room h pre E m) =
    some (.exit 2 [.c (.int .u8 r), .c t, .ov 0 [] 0, .c (.int .i64 er), .c ns, .ov 1 [] 0, .c (.int .i64 fe), .c (.sl 32 (l.map hC)), .mp 2, .c wh, .c (.int .i64 wn), .c (.int .i64 wi)], sH room h l E m)
  | [], pre, hl => by
    rw [List.append_nil] at hl
    subst hl
    rw [loopX_eq]
    simp only [sS, sH]
    generalize mC m = M at *
    generalize snC l = S1 at *
    have hlE : (l.map hC).length = l.length := by simp
    generalize l.map hC = L at *
    simp (maxSteps := 1000000) [p3_l2]
  | e :: rest, pre, hl => by
    have he : e ∈ l := by rw [hl]; simp
    have hne : ∀ x ∈ pre, (e.1 == x.1) = false := by
      intro x hx
      rw [hl] at hu
      exact (List.pairwise_append.1 hu).2.2 x hx e (by simp)
    rw [sn_step b r t er ns h fe wh wn wi room m l hm pre rest e hl (ho e he) hne E]
    have ih := sn_loop b r t er ns h fe wh wn wi room m l hm ho hu E rest (pre ++ [e]) (by rw [hl]; simp)
    have e1 : (((pre ++ [e]).length : Nat) : Int) = (pre.length : Int) + 1 := by simp
    rw [e1] at ih
    exact ih
def lS (r : Int) (t : CV) (ns : CV) (wh : CV) (wn wi : Int) : List AV :=
  [.c (.int .u8 r), .c t, .ov 0 [] 0, .c (.int .i64 0), .c ns, .c wh, .c (.int .i64 wn), .c (.int .i64 wi)]
/-! CF -/
set_option maxHeartbeats 16000000 in
/-- A turn, by what Node does. -/
theorem turn_core (b : Bool) (r : Int) (t : CV) (ns : List CV) (ap : CV) (aw : CV) (k : Nat) (h : List UInt8) (hh : h.length = 32) (wh : CV) (wn wi : Int) (w : Int) (room q : Int) (m : Mp) (E : List CV) (B : Blk) (hB : B = .dead ∨ B = .frow 70 100 E)
    (e0 : Ent) (l : List Ent) (hm : (e0 :: l).length ≤ 5000) (ho : ∀ e ∈ e0 :: l, EntOk e) (hu : Unlike (e0 :: l)) (hlast : nthC ((e0 :: l).map hC) l.length = .arr 32 .u8 (dI h)) (hroom : ((e0 :: l).length : Int) ≤ room)
    (i0 : ¬ 60 < wi) (i1 : wi < wn) (i2 : iAdd .i64 wi 1 = wi + 1)
    (x1 : ∀ H, mIdxS 1 (.c wh) (.c (.int .i64 wi)) H = some (.c (.ptr (.int .u8 w) [] 0), H))
    (x2 : (IntKind.i64.wrap w).tmod (ns.length : Int) = (k : Int)) (x3 : ns ≠ [])
    (hk : k < ns.length) (hn : nthC ns k = ap) (a1 : ap.size = 68) (a2 : ap.isAgg = true) (aw1 : aw.size = 68) (aw2 : aw.isAgg = true)
    (hc : ∀ H, callX (cfg b) An 7 [.c ap] H = some (.c (.arr 32 .u8 (dI h)), H))
    (r1 : r.tmod 12 = q) (r2 : iAdd .i64 1 (IntKind.i64.wrap q) = room)
    (nc : fnX (cfg b) An 8 [.ov 0 [] 0, .c (.arr 32 .u8 (dI h))] (cHr room E m) = some (.tup [.c aw, .c (.int .i64 0)], cHo room B ((e0 :: l).map entC) m)) :
    loopX 0 (p3_l0 b (callX (cfg b) An) 0) (lS r t (.sl 68 ns) wh wn wi) (cHr room E m) = loopX 0 (p3_l0 b (callX (cfg b) An) 0) (lS r t (.sl 68 ns) wh wn (wi + 1)) (cHr room ((e0 :: l).map entC) m) := by
  have lc := clist_fn b room e0 l hm m ho
  have sl := sn_loop b r t 0 (.sl 68 ns) h 0 wh wn wi room m (e0 :: l) hm (fun e he => (ho e he).1) hu ((e0 :: l).map entC) (e0 :: l) [] rfl
  have hh2 : (dI h).length = 32 := by rw [len_dI]; exact hh
  have hls : (snC (e0 :: l)).length = l.length + 1 := by simp [snC]
  have hlh : ((e0 :: l).map hC).length = l.length + 1 := by simp
  have hr : ¬ (room < (l.length : Int) + 1) := by simp only [List.length_cons] at hroom; omega
  have z0 : ((([] : List Ent).length : Nat) : Int) = 0 := rfl
  have hs1 : iSub .i64 ((l.length : Int) + 1) 1 = (l.length : Int) := by
    have := sub_nat (l.length + 1) 1 (by omega) (by simp only [List.length_cons] at hm; omega)
    simpa using this
  rw [z0] at sl
  have hEl : nthC ns k = ap := hn
  simp only [cHr, cHo, lS, sS, sH] at nc lc sl ⊢
  have ml : (e0 :: l).length = l.length + 1 := rfl
  rw [ml] at sl hroom hm
  generalize mC m = M at *
  generalize (e0 :: l).map entC = E2 at *
  generalize (e0 :: l).map hC = L at *
  generalize snC (e0 :: l) = S2 at *
  have s0 : snC [] = [] := rfl
  rw [s0] at sl
  generalize l.length = n at *
  rw [show ((n + 1 : Nat) : Int) = (n : Int) + 1 from by simp] at sl
  have g1 : ∀ B : Blk, loopX 0 (p3_l2 b (callX (cfg b) An) 0)
      [.c (.int .u8 r), .c t, .ov 0 [] 0, .c (.int .i64 0), .c (.sl 68 ns), .ov 4 [] 0, .c (.int .i64 0), .c (.sl 32 L), .mp 7, .c wh, .c (.int .i64 wn), .c (.int .i64 wi), .c (.sl 32 L), .c (.int .i64 ((n : Int) + 1)), .c (.int .i64 0)]
      [.var 68 (.agg [.ov 1 [] 0, .c (.int .i64 room), .os 5]), .var 81 (.agg [.mp 3]), B, .mp M, .var 34 (.c (.arr 32 .u8 (dI h))), .row 70 100 E2, .var 38 (.c aw), .mp []] = some (.exit 2 [.c (.int .u8 r), .c t, .ov 0 [] 0, .c (.int .i64 0), .c (.sl 68 ns), .ov 1 [] 0, .c (.int .i64 0), .c (.sl 32 L), .mp 2, .c wh, .c (.int .i64 wn), .c (.int .i64 wi)], [.var 68 (.agg [.ov 3 [] 0, .c (.int .i64 room), .os 4]), .var 34 (.c (.arr 32 .u8 (dI h))), .mp S2, .var 81 (.agg [.mp 5]), .row 70 100 E2, .mp M]) := by
    intro B
    rw [loopX_gc (s1 := [.c (.int .u8 r), .c t, .ov 0 [] 0, .c (.int .i64 0), .c (.sl 68 ns), .ov 1 [] 0, .c (.int .i64 0), .c (.sl 32 L), .mp 2, .c wh, .c (.int .i64 wn), .c (.int .i64 wi), .c (.sl 32 L), .c (.int .i64 ((n : Int) + 1)), .c (.int .i64 0)])
      (H1 := [.var 68 (.agg [.ov 3 [] 0, .c (.int .i64 room), .os 4]), .var 34 (.c (.arr 32 .u8 (dI h))), .mp [], .var 81 (.agg [.mp 5]), .row 70 100 E2, .mp M]) (by simp) (by simp)]
    exact sl
  have hz1 : ((n : Int) + 1 == 0) = false := by simp; omega
  have hz2 : ¬ ((n : Int) + 1 = 0) := by omega
  have hz3 : (n : Int) < (n : Int) + 1 := by omega
  have hq2 : ∀ (H : Heap) (c : Bool), mBin (cfg b) 34 c .neq (.c (.arr 32 .u8 (dI h))) (.c (.arr 32 .u8 (dI h))) H = some (.c (.bool false), H) := by
    intro H c
    simp [bne34, arrEq_e]
  rw [loopX_eq]
  rcases hB with rfl | rfl
  · simp (maxSteps := 2000000) [g1, hz1, hz2, hz3, hq2, hs1, hls, hlast, hr, r1, r2, p3_l0, p3_l0_d0, i0, i1, i2, x1, x2, x3, hk, hn, a1, a2, aw1, aw2, hc, v8, nc, v9, lc, frz41n, frz38, frz68, frz81, frz70, hh2, hlh]
    exact loopX_gc (by simp) (by simp)
  · simp (maxSteps := 2000000) [g1, hz1, hz2, hz3, hq2, hs1, hls, hlast, hr, r1, r2, p3_l0, p3_l0_d0, i0, i1, i2, x1, x2, x3, hk, hn, a1, a2, aw1, aw2, hc, v8, nc, v9, lc, frz41n, frz38, frz68, frz81, frz70, hh2, hlh]
    exact loopX_gc (by simp) (by simp)
end Go.Fm
/-
  CacheYoung: the first turn of its loop.
-/
set_option maxRecDepth 100000
set_option linter.unusedVariables false
set_option linter.unusedSimpArgs false
namespace Go.Fm
open Go Go.Proofs
/-! CF -/
set_option maxHeartbeats 16000000 in
/-- A turn, by what Node does. -/
theorem turn_new (b : Bool) (r : Int) (t : CV) (ns : List CV) (ap : CV) (aw : CV) (k : Nat) (h : List UInt8) (hh : h.length = 32) (wh : CV) (wn wi : Int) (w : Int) (room q : Int) (m : Mp)
    (e0 : Ent) (l : List Ent) (hm : (e0 :: l).length ≤ 5000) (ho : ∀ e ∈ e0 :: l, EntOk e) (hu : Unlike (e0 :: l)) (hlast : nthC ((e0 :: l).map hC) l.length = .arr 32 .u8 (dI h)) (hroom : ((e0 :: l).length : Int) ≤ room)
    (i0 : ¬ 60 < wi) (i1 : wi < wn) (i2 : iAdd .i64 wi 1 = wi + 1)
    (x1 : ∀ H, mIdxS 1 (.c wh) (.c (.int .i64 wi)) H = some (.c (.ptr (.int .u8 w) [] 0), H))
    (x2 : (IntKind.i64.wrap w).tmod (ns.length : Int) = (k : Int)) (x3 : ns ≠ [])
    (hk : k < ns.length) (hn : nthC ns k = ap) (a1 : ap.size = 68) (a2 : ap.isAgg = true) (aw1 : aw.size = 68) (aw2 : aw.isAgg = true)
    (hc : ∀ H, callX (cfg b) An 7 [.c ap] H = some (.c (.arr 32 .u8 (dI h)), H))
    (r1 : r.tmod 12 = q) (r2 : iAdd .i64 1 (IntKind.i64.wrap q) = room)
    (nc : fnX (cfg b) An 8 [.ov 0 [] 0, .c (.arr 32 .u8 (dI h))] (cHn room m) = some (.tup [.c aw, .c (.int .i64 0)], [.var 68 (.agg [.ov 1 [] 0, .c (.int .i64 room), .os 3]), .var 81 (.agg [.mp 2]), .mp (mC m), .row 70 100 ((e0 :: l).map entC)])) :
    loopX 0 (p3_l0 b (callX (cfg b) An) 0) (lS r t (.sl 68 ns) wh wn wi) (cHn room m) = loopX 0 (p3_l0 b (callX (cfg b) An) 0) (lS r t (.sl 68 ns) wh wn (wi + 1)) (cHr room ((e0 :: l).map entC) m) := by
  have lc := clist_fn b room e0 l hm m ho
  have sl := sn_loop b r t 0 (.sl 68 ns) h 0 wh wn wi room m (e0 :: l) hm (fun e he => (ho e he).1) hu ((e0 :: l).map entC) (e0 :: l) [] rfl
  have hh2 : (dI h).length = 32 := by rw [len_dI]; exact hh
  have hls : (snC (e0 :: l)).length = l.length + 1 := by simp [snC]
  have hlh : ((e0 :: l).map hC).length = l.length + 1 := by simp
  have hr : ¬ (room < (l.length : Int) + 1) := by simp only [List.length_cons] at hroom; omega
  have z0 : ((([] : List Ent).length : Nat) : Int) = 0 := rfl
  have hs1 : iSub .i64 ((l.length : Int) + 1) 1 = (l.length : Int) := by
    have := sub_nat (l.length + 1) 1 (by omega) (by simp only [List.length_cons] at hm; omega)
    simpa using this
  rw [z0] at sl
  have hEl : nthC ns k = ap := hn
  simp only [cHr, cHn, lS, sS, sH] at nc lc sl ⊢
  have ml : (e0 :: l).length = l.length + 1 := rfl
  rw [ml] at sl hroom hm
  generalize mC m = M at *
  generalize (e0 :: l).map entC = E2 at *
  generalize (e0 :: l).map hC = L at *
  generalize snC (e0 :: l) = S2 at *
  have s0 : snC [] = [] := rfl
  rw [s0] at sl
  generalize l.length = n at *
  rw [show ((n + 1 : Nat) : Int) = (n : Int) + 1 from by simp] at sl
  have g1 : loopX 0 (p3_l2 b (callX (cfg b) An) 0)
      [.c (.int .u8 r), .c t, .ov 0 [] 0, .c (.int .i64 0), .c (.sl 68 ns), .ov 3 [] 0, .c (.int .i64 0), .c (.sl 32 L), .mp 6, .c wh, .c (.int .i64 wn), .c (.int .i64 wi), .c (.sl 32 L), .c (.int .i64 ((n : Int) + 1)), .c (.int .i64 0)]
      [.var 68 (.agg [.ov 1 [] 0, .c (.int .i64 room), .os 4]), .var 81 (.agg [.mp 2]), .mp M, .var 34 (.c (.arr 32 .u8 (dI h))), .row 70 100 E2, .var 38 (.c aw), .mp []] = some (.exit 2 [.c (.int .u8 r), .c t, .ov 0 [] 0, .c (.int .i64 0), .c (.sl 68 ns), .ov 1 [] 0, .c (.int .i64 0), .c (.sl 32 L), .mp 2, .c wh, .c (.int .i64 wn), .c (.int .i64 wi)], [.var 68 (.agg [.ov 3 [] 0, .c (.int .i64 room), .os 4]), .var 34 (.c (.arr 32 .u8 (dI h))), .mp S2, .var 81 (.agg [.mp 5]), .row 70 100 E2, .mp M]) := by
    rw [loopX_gc (s1 := [.c (.int .u8 r), .c t, .ov 0 [] 0, .c (.int .i64 0), .c (.sl 68 ns), .ov 1 [] 0, .c (.int .i64 0), .c (.sl 32 L), .mp 2, .c wh, .c (.int .i64 wn), .c (.int .i64 wi), .c (.sl 32 L), .c (.int .i64 ((n : Int) + 1)), .c (.int .i64 0)])
      (H1 := [.var 68 (.agg [.ov 3 [] 0, .c (.int .i64 room), .os 4]), .var 34 (.c (.arr 32 .u8 (dI h))), .mp [], .var 81 (.agg [.mp 5]), .row 70 100 E2, .mp M]) (by simp) (by simp)]
    exact sl
  have hz1 : ((n : Int) + 1 == 0) = false := by simp; omega
  have hz2 : ¬ ((n : Int) + 1 = 0) := by omega
  have hz3 : (n : Int) < (n : Int) + 1 := by omega
  have hq2 : ∀ (H : Heap) (c : Bool), mBin (cfg b) 34 c .neq (.c (.arr 32 .u8 (dI h))) (.c (.arr 32 .u8 (dI h))) H = some (.c (.bool false), H) := by
    intro H c
    simp [bne34, arrEq_e]
  rw [loopX_eq]
  simp (maxSteps := 2000000) [g1, hz1, hz2, hz3, hq2, hs1, hls, hlast, hr, r1, r2, p3_l0, p3_l0_d0, i0, i1, i2, x1, x2, x3, hk, hn, a1, a2, aw1, aw2, hc, v8, nc, v9, lc, frz41n, frz38, frz68, frz81, frz70, hh2, hlh]
  exact loopX_gc (by simp) (by simp)
end Go.Fm
/-
  CacheYoung: every turn; the loop.
-/
set_option maxRecDepth 100000
set_option linter.unusedVariables false
set_option linter.unusedSimpArgs false
namespace Go.Fm
open Go Go.Proofs
def heapOf (room : Int) (l : List Ent) (m : Mp) : Heap := match l with
  | [] => cHn room m
  | l => cHr room (l.map entC) m
structure InvL (room : Int) (l : List Ent) : Prop where
  ok : ∀ e ∈ l, EntOk e
  un : Unlike l
  len : (l.length : Int) ≤ room
/-- What the base holds for a sum. -/
def Held (m : Mp) (h : List UInt8) : Prop := ∃ n : Tn, Small n ∧ n.fit ∧ lkM h m = some n.enc ∧ n.enc.length ≤ 100000
theorem find_ent (h : List UInt8) : ∀ l : List Ent, (∀ e ∈ l, (e.1 == h) = false) ∨ ∃ pre e rest, l = pre ++ e :: rest ∧ (∀ x ∈ pre, (x.1 == h) = false) ∧ (e.1 == h) = true
  | [] => .inl (by simp)
  | x :: r => by
    cases hx : x.1 == h with
    | true => exact .inr ⟨[], x, r, rfl, by simp, hx⟩
    | false =>
      rcases find_ent h r with k | ⟨pre, e, rest, rfl, k1, k2⟩
      · refine .inl fun e he => ?_
        rcases List.mem_cons.1 he with rfl | he
        · exact hx
        · exact k e he
      · refine .inr ⟨x :: pre, e, rest, rfl, fun y hy => ?_, k2⟩
        rcases List.mem_cons.1 hy with rfl | hy
        · exact hx
        · exact k1 y hy
theorem unlike_snoc {l : List Ent} {e : Ent} (h : Unlike l) (k : ∀ x ∈ l, (x.1 == e.1) = false) : Unlike (l ++ [e]) := by
  refine List.pairwise_append.2 ⟨h, List.pairwise_singleton _ _, fun x hx y hy => ?_⟩
  simp only [List.mem_singleton] at hy
  subst hy
  have := k x hx
  rw [Bool.eq_false_iff] at this ⊢
  intro e1
  exact this (by rw [beq_iff_eq] at e1 ⊢; exact e1.symm)
theorem unlike_move {pre rest : List Ent} {e : Ent} (h : Unlike (pre ++ e :: rest)) : Unlike (pre ++ rest ++ [e]) := by
  have h1 := List.pairwise_append.1 h
  have h2 := List.pairwise_cons.1 h1.2.1
  refine unlike_snoc (List.pairwise_append.2 ⟨h1.1, h2.2, fun x hx y hy => h1.2.2 x hx y (by simp [hy])⟩) fun x hx => ?_
  rcases List.mem_append.1 hx with hx | hx
  · have := h1.2.2 x hx e (by simp)
    rw [Bool.eq_false_iff] at this ⊢
    intro e1
    exact this (by rw [beq_iff_eq] at e1 ⊢; exact e1.symm)
  · exact h2.1 x hx
theorem last_nth (l : List Ent) (e : Ent) : ∃ e0 r, l ++ [e] = e0 :: r ∧ nthC ((e0 :: r).map hC) r.length = hC e := by
  cases l with
  | nil => exact ⟨e, [], rfl, rfl⟩
  | cons a l => exact ⟨a, l ++ [e], rfl, by simp [nthC, List.getD_eq_getElem?_getD]⟩
/-- What a turn knows of its place. -/
structure At (b : Bool) (r : Int) (ns : List CV) (ap : CV) (k : Nat) (h : List UInt8) (wh : CV) (wn wi w room q : Int) : Prop where
  hh : h.length = 32
  i0 : ¬ 60 < wi
  i1 : wi < wn
  i2 : iAdd .i64 wi 1 = wi + 1
  x1 : ∀ H, mIdxS 1 (.c wh) (.c (.int .i64 wi)) H = some (.c (.ptr (.int .u8 w) [] 0), H)
  x2 : (IntKind.i64.wrap w).tmod (ns.length : Int) = (k : Int)
  x3 : ns ≠ []
  hk : k < ns.length
  hn : nthC ns k = ap
  a1 : ap.size = 68
  a2 : ap.isAgg = true
  hc : ∀ H, callX (cfg b) An 7 [.c ap] H = some (.c (.arr 32 .u8 (dI h)), H)
  r1 : r.tmod 12 = q
  r2 : iAdd .i64 1 (IntKind.i64.wrap q) = room
theorem turn (b : Bool) (r : Int) (t : CV) (ns : List CV) (ap : CV) (k : Nat) (h : List UInt8) (wh : CV) (wn wi w room q : Int) (A : At b r ns ap k h wh wn wi w room q) (hr1 : 1 ≤ room) (hr2 : room ≤ 4096) (m : Mp) (hm : Held m h) (l : List Ent) (hI : InvL room l) :
    ∃ l', InvL room l' ∧ loopX 0 (p3_l0 b (callX (cfg b) An) 0) (lS r t (.sl 68 ns) wh wn wi) (heapOf room l m) = loopX 0 (p3_l0 b (callX (cfg b) An) 0) (lS r t (.sl 68 ns) wh wn (wi + 1)) (heapOf room l' m) := by
  obtain ⟨n, n1, n2, n3, n4⟩ := hm
  have dc := dec_nrm b n n1
  have nf := Tn.nrm_fit n2
  have heap_ne : ∀ (e0 : Ent) (r : List Ent), heapOf room (e0 :: r) m = cHr room ((e0 :: r).map entC) m := fun _ _ => rfl
  have hE : EntOk (h, n.nrm) := ⟨A.hh, nf⟩
  rcases find_ent h l with hne | ⟨pre, e, rest, rfl, k1, k2⟩
  · cases l with
    | nil =>
      refine ⟨[(h, n.nrm)], ⟨fun e he => by simp only [List.mem_singleton] at he; subst he; exact hE, List.pairwise_singleton _ _, by simp; omega⟩, ?_⟩
      exact turn_new b r t ns ap n.nrm.api k h A.hh wh wn wi w room q m (h, n.nrm) [] (by simp) (fun e he => by simp only [List.mem_singleton] at he; subst he; exact hE) (List.pairwise_singleton _ _) rfl (by simp; omega) A.i0 A.i1 A.i2 A.x1 A.x2 A.x3 A.hk A.hn A.a1 A.a2 (csz_api _) (cag_api _) A.hc A.r1 A.r2 (cnode_new b room hr1 m h A.hh n.enc n4 n3 n.nrm nf dc)
    | cons a l =>
      have hlen := hI.len
      by_cases hfull : ((a :: l).length : Int) = room
      · have hI' : InvL room (l ++ [(h, n.nrm)]) := ⟨fun e he => by
          rcases List.mem_append.1 he with he | he
          · exact hI.ok e (by simp [he])
          · simp only [List.mem_singleton] at he; subst he; exact hE, unlike_snoc (List.pairwise_cons.1 hI.un).2 fun x hx => hne x (by simp [hx]), by simp at hfull ⊢; omega⟩
        obtain ⟨e0, s, hs, hl⟩ := last_nth l (h, n.nrm)
        refine ⟨l ++ [(h, n.nrm)], hI', ?_⟩
        have nc := cnode_full b room a l (by omega) m h A.hh hI.ok hne hfull n.enc n4 n3 n.nrm nf dc
        have e2 : l.map entC ++ [entC (h, n.nrm)] = (l ++ [(h, n.nrm)]).map entC := by simp
        rw [e2, hs] at nc
        rw [hs] at hI' ⊢
        have hl' := hI'.len
        rw [heap_ne, heap_ne]
        exact turn_core b r t ns ap n.nrm.api k h A.hh wh wn wi w room q m _ .dead (.inl rfl) e0 s (by omega) hI'.ok hI'.un hl hI'.len A.i0 A.i1 A.i2 A.x1 A.x2 A.x3 A.hk A.hn A.a1 A.a2 (csz_api _) (cag_api _) A.hc A.r1 A.r2 nc
      · have hI' : InvL room (a :: l ++ [(h, n.nrm)]) := ⟨fun e he => by
          rcases List.mem_append.1 he with he | he
          · exact hI.ok e he
          · simp only [List.mem_singleton] at he; subst he; exact hE, unlike_snoc hI.un hne, by simp at hlen hfull ⊢; omega⟩
        obtain ⟨e0, s, hs, hl⟩ := last_nth (a :: l) (h, n.nrm)
        refine ⟨a :: l ++ [(h, n.nrm)], hI', ?_⟩
        have nc := cnode_more b room (a :: l) (by omega) m h A.hh hI.ok hne (by omega) n.enc n4 n3 n.nrm nf dc
        have e2 : (a :: l).map entC ++ [entC (h, n.nrm)] = (a :: l ++ [(h, n.nrm)]).map entC := by simp
        rw [e2, hs] at nc
        rw [hs] at hI' ⊢
        have hl' := hI'.len
        rw [heap_ne, heap_ne]
        exact turn_core b r t ns ap n.nrm.api k h A.hh wh wn wi w room q m _ .dead (.inl rfl) e0 s (by omega) hI'.ok hI'.un hl hI'.len A.i0 A.i1 A.i2 A.x1 A.x2 A.x3 A.hk A.hn A.a1 A.a2 (csz_api _) (cag_api _) A.hc A.r1 A.r2 nc
  · have hlen := hI.len
    have he : EntOk e := hI.ok e (by simp)
    have hI' : InvL room (pre ++ rest ++ [e]) := ⟨fun x hx => hI.ok x (by
      rcases List.mem_append.1 hx with hx | hx
      · rcases List.mem_append.1 hx with hx | hx
        · exact List.mem_append.2 (.inl hx)
        · exact List.mem_append.2 (.inr (List.mem_cons_of_mem _ hx))
      · rw [List.mem_singleton.1 hx]; simp), unlike_move hI.un, by simp at hlen ⊢; omega⟩
    obtain ⟨e0, s, hs, hl⟩ := last_nth (pre ++ rest) e
    refine ⟨pre ++ rest ++ [e], hI', ?_⟩
    have nc := cnode_hit b room (pre ++ e :: rest) (by omega) m h A.hh hI.ok pre rest e rfl k1 k2
    rw [hs] at nc
    rw [hs] at hI' ⊢
    have hl' := hI'.len
    have hle : hC e = .arr 32 .u8 (dI h) := by rw [beq_iff_eq] at k2; unfold hC; rw [k2]
    rw [hle] at hl
    have h1 : heapOf room (pre ++ e :: rest) m = cHr room ((pre ++ e :: rest).map entC) m := by cases pre <;> rfl
    rw [h1, heap_ne]
    exact turn_core b r t ns ap e.2.api k h A.hh wh wn wi w room q m _ (.frow 70 100 ((pre ++ e :: rest).map entC)) (.inr rfl) e0 s (by omega) hI'.ok hI'.un hl hI'.len A.i0 A.i1 A.i2 A.x1 A.x2 A.x3 A.hk A.hn A.a1 A.a2 (csz_api _) (cag_api _) A.hc A.r1 A.r2 nc
end Go.Fm
/-
  CacheYoung: its loop.
-/
set_option maxRecDepth 100000
set_option linter.unusedVariables false
set_option linter.unusedSimpArgs false
namespace Go.Fm
open Go Go.Proofs
theorem exit_ge (b : Bool) (r : Int) (t ns wh : CV) (wn wi room : Int) (l : List Ent) (m : Mp) (h : ¬ wi < wn) :
    ∃ H', loopX 0 (p3_l0 b (callX (cfg b) An) 0) (lS r t ns wh wn wi) (heapOf room l m) = some (.exit 0 [.any, .c (.int .i64 0)], H') := by
  cases l with
  | nil =>
    rw [loopX_eq]
    simp only [lS, heapOf, cHn]
    generalize mC m = M at *
    simp [p3_l0, h]
  | cons e l =>
    rw [loopX_eq]
    simp only [lS, heapOf, cHr]
    generalize mC m = M at *
    generalize (e :: l).map entC = E at *
    simp [p3_l0, h]
theorem exit_60 (b : Bool) (r : Int) (t ns wh : CV) (wn wi room w : Int) (l : List Ent) (m : Mp) (h : wi < wn) (h6 : 60 < wi) (x1 : ∀ H, mIdxS 1 (.c wh) (.c (.int .i64 wi)) H = some (.c (.ptr (.int .u8 w) [] 0), H)) :
    ∃ H', loopX 0 (p3_l0 b (callX (cfg b) An) 0) (lS r t ns wh wn wi) (heapOf room l m) = some (.exit 0 [.any, .c (.int .i64 0)], H') := by
  cases l with
  | nil =>
    rw [loopX_eq]
    simp only [lS, heapOf, cHn]
    generalize mC m = M at *
    simp [p3_l0, h, h6, x1]
  | cons e l =>
    rw [loopX_eq]
    simp only [lS, heapOf, cHr]
    generalize mC m = M at *
    generalize (e :: l).map entC = E at *
    simp [p3_l0, h, h6, x1]
theorem wrap_by64 (w : UInt8) : IntKind.i64.wrap (w.toNat : Int) = (w.toNat : Int) := by
  have h := w.toNat_lt
  exact i64_small (by omega) (by omega)
theorem law_loop (b : Bool) (r : Int) (t : CV) (nodes : List Tn) (hn0 : nodes ≠ []) (hf : ∀ n ∈ nodes, n.fit) (ws : List UInt8) (room q : Int) (r1 : r.tmod 12 = q) (r2 : iAdd .i64 1 (IntKind.i64.wrap q) = room) (hr1 : 1 ≤ room) (hr2 : room ≤ 4096) (m : Mp) (hm : ∀ n ∈ nodes, Held m n.hash) :
    ∀ (rest pre : List UInt8) (l : List Ent), ws = pre ++ rest → InvL room l → ∃ H', loopX 0 (p3_l0 b (callX (cfg b) An) 0) (lS r t (.sl 68 (nodes.map Tn.api)) (.sl 1 (bytesAV ws)) (ws.length : Int) (pre.length : Int)) (heapOf room l m) = some (.exit 0 [.any, .c (.int .i64 0)], H')
  | [], pre, l, h, hI => by
    rw [List.append_nil] at h
    subst h
    exact exit_ge b r t _ _ _ _ room l m (by omega)
  | w :: rest, pre, l, h, hI => by
    have hl : pre.length < ws.length := by rw [h]; simp
    have x1 : ∀ H, mIdxS 1 (.c (.sl 1 (bytesAV ws))) (.c (.int .i64 (pre.length : Int))) H = some (.c (.ptr (.int .u8 (w.toNat : Int)) [] 0), H) := by
      intro H
      have hg : nthC (bytesAV ws) pre.length = .int .u8 (w.toNat : Int) := by rw [h]; simp [nthC, bytesAV, List.getD_eq_getElem?_getD]
      have hlb : (bytesAV ws).length = ws.length := by simp [bytesAV]
      simp [hg, hlb, hl]
    by_cases h6 : (60 : Int) < (pre.length : Int)
    · exact exit_60 b r t _ _ _ _ room _ l m (by omega) h6 x1
    · have hN : 0 < nodes.length := List.length_pos_iff.2 hn0
      have hk : w.toNat % nodes.length < nodes.length := Nat.mod_lt _ hN
      obtain ⟨n, hn⟩ : ∃ n, nodes[w.toNat % nodes.length]? = some n := ⟨_, List.getElem?_eq_getElem hk⟩
      have hmem : n ∈ nodes := List.mem_of_getElem? hn
      have A : At b r (nodes.map Tn.api) n.api (w.toNat % nodes.length) n.hash (.sl 1 (bytesAV ws)) (ws.length : Int) (pre.length : Int) (w.toNat : Int) room q :=
        { hh := n.hash_len, i0 := h6, i1 := by omega, i2 := idx_add pre.length (by omega), x1 := x1
          x2 := by rw [wrap_by64, List.length_map]; exact tmod_nat _ _
          x3 := by intro e; exact hn0 (List.map_eq_nil_iff.1 e)
          hk := by rw [List.length_map]; exact hk
          hn := by simp [nthC, List.getD_eq_getElem?_getD, hn]
          a1 := csz_api n, a2 := cag_api n, hc := hash_call b n (hf n hmem), r1 := r1, r2 := r2 }
      obtain ⟨l', hI', e⟩ := turn b r t _ _ _ _ _ _ _ _ room q A hr1 hr2 m (hm n hmem) l hI
      rw [e]
      have ih := law_loop b r t nodes hn0 hf ws room q r1 r2 hr1 hr2 m hm rest (pre ++ [w]) l' (by rw [h]; simp) hI'
      have e1 : (((pre ++ [w]).length : Nat) : Int) = (pre.length : Int) + 1 := by simp
      rw [e1] at ih
      exact ih
end Go.Fm
/-
  CacheYoung: the base holds every node; made.
-/
set_option maxRecDepth 100000
set_option linter.unusedVariables false
set_option linter.unusedSimpArgs false
namespace Go.Fm
open Go Go.Proofs
theorem lkM_app {h e : List UInt8} {m n : Mp} (hm : lkM h m = some e) : lkM h (m ++ n) = some e := by
  induction m with
  | nil => simp [lkM] at hm
  | cons p r ih =>
    simp only [lkM, List.cons_append] at hm ⊢
    split
    · rename_i hp; simpa [hp] using hm
    · rename_i hne
      simp only [hne, if_false] at hm
      exact ih hm
theorem saveM_lk {h e : List UInt8} : ∀ (l : List Tn) (m : Mp), lkM h m = some e → lkM h (saveM l m) = some e
  | [], m, hm => hm
  | n :: l, m, hm => by
    refine saveM_lk l (sv1 m n) ?_
    unfold sv1
    split
    · exact hm
    · exact lkM_app hm
theorem lkM_snoc {h k e : List UInt8} : ∀ {m : Mp}, lkM h m = none → lkM h (m ++ [(k, e)]) = if h = k then some e else none
  | [], _ => by simp [lkM]
  | p :: r, hm => by
    simp only [lkM, List.cons_append] at hm ⊢
    split at hm
    · simp at hm
    · rename_i hne
      rw [if_neg hne]
      exact lkM_snoc hm
/-- Whatever is there is some node's. -/
def From (L : List Tn) (m : Mp) : Prop := ∀ h w, lkM h m = some w → ∃ n ∈ L, w = n.enc
theorem From.sv1 {L : List Tn} {m : Mp} (h : From L m) {n : Tn} (hn : n ∈ L) : From L (sv1 m n) := by
  intro k w hk
  unfold Go.Fm.sv1 at hk
  split at hk
  · exact h k w hk
  · rename_i hne
    cases hm : lkM k m with
    | some e =>
      rw [lkM_app hm] at hk
      exact h k w (by rw [hm]; exact hk)
    | none =>
      rw [lkM_snoc hm] at hk
      split at hk
      · simp only [Option.some.injEq] at hk
        exact ⟨n, hn, hk.symm⟩
      · simp at hk
theorem From.save {L : List Tn} : ∀ (l : List Tn) (m : Mp), (∀ n ∈ l, n ∈ L) → From L m → From L (saveM l m)
  | [], m, _, h => h
  | n :: l, m, hl, h => From.save l (Go.Fm.sv1 m n) (fun x hx => hl x (by simp [hx])) (h.sv1 (hl n (by simp)))
theorem sv1_some (m : Mp) (n : Tn) : ∃ w, lkM n.hash (sv1 m n) = some w := by
  unfold sv1
  split
  · rename_i h; exact Option.isSome_iff_exists.1 h
  · rename_i h
    have : lkM n.hash m = none := by cases hm : lkM n.hash m with | none => rfl | some x => simp [hm] at h
    exact ⟨n.enc, by rw [lkM_snoc this]; simp⟩
theorem saveM_some : ∀ (l : List Tn) (m : Mp) (n : Tn), n ∈ l → ∃ w, lkM n.hash (saveM l m) = some w
  | x :: l, m, n, h => by
    rcases List.mem_cons.1 h with rfl | h
    · obtain ⟨w, hw⟩ := sv1_some m n
      exact ⟨w, saveM_lk l _ hw⟩
    · exact saveM_some l (sv1 m x) n h
theorem saveM_from (l : List Tn) {n : Tn} (h : n ∈ l) : ∃ n' ∈ l, lkM n.hash (saveM l []) = some n'.enc := by
  obtain ⟨w, hw⟩ := saveM_some l [] n h
  have hf : From l (saveM l []) := From.save l [] (fun x hx => hx) (fun h w hk => by simp [lkM] at hk)
  obtain ⟨n', h1, rfl⟩ := hf _ _ hw
  exact ⟨n', h1, hw⟩
theorem v15 {b : Bool} {H : Heap} {vs : List AV} : callX (cfg b) An 15 vs H = cvw (fnX (cfg b) An 15) (handCs (cfg b) false H vs) := callX_v (prim_none (by decide))
theorem v5 {b : Bool} {H : Heap} {vs : List AV} : callX (cfg b) An 5 vs H = cvw (fnX (cfg b) An 5) (handCs (cfg b) false H vs) := callX_v (prim_none (by decide))
/-! CF -/
set_option maxHeartbeats 8000000 in
theorem made_core (b : Bool) (acts T L : CV) (room : Int) (h1 : 1 ≤ room) (h2 : room ≤ 4096) (m : Mp) (R : List Int) (hR : R.length = 32)
    (gc : ∀ H, callX (cfg b) An 18 [.c acts, .c (.int .i64 50)] H = some (.tup [.c T, .c L], H))
    (sv : fnX (cfg b) An 14 [.ov 0 [] 0, .c T] (baH []) = some (.tup [.c (.arr 32 .u8 R), .c (.int .i64 0)], baH m)) :
    fnX (cfg b) An 5 [.c acts, .c (.int .i64 room)] [] = some (.tup [.c T, .ov 0 [] 0, .ov 1 [] 0, .c (.int .i64 0)], [.var 81 (.agg [.mp 2]), .var 68 (.agg [.ov 0 [] 0, .c (.int .i64 room), .c .nilsl]), .mp (mC m)]) := by
  rw [fnX_eq, p5_eq]
  have nw := bnew_fn b
  have cn := cnew_fn b m room h1 h2
  simp only [baH] at nw sv cn
  generalize mC m = M at *
  simp (maxSteps := 1000000) [p5, gc, v13, v14, v15, nw, sv, cn, frz81, frz68, frz41n, hR]
end Go.Fm
/-
  CacheYoung: the law, given that it is awake.
-/
set_option maxRecDepth 100000
set_option linter.unusedVariables false
set_option linter.unusedSimpArgs false
namespace Go.Fm
open Go Go.Proofs
theorem growS_val (most : Nat) : ∀ (l : List ActL) (i : Nat) (s : GS), (∀ p ∈ s.2, 0 < p.1.length ∧ p.1.length ≤ 96 ∧ (pB p.2).length < 256) → ∀ p ∈ (growS most l i s).2, 0 < p.1.length ∧ p.1.length ≤ 96 ∧ (pB p.2).length < 256
  | [], i, s, h => h
  | a :: r, i, s, h => by
    unfold growS
    split
    · exact h
    · rename_i hc
      have hk : 0 < a.key.length := List.length_pos_iff.2 a.key_ne
      have hv : (pB (upto 100 a.val)).length ≤ 100 := by rw [pB_upto, List.length_take]; omega
      refine growS_val most r (i + 1) _ ?_
      split
      · intro p hp
        rcases putP_mem hp with rfl | hp
        · exact ⟨hk, by simp only; omega, by simp only; omega⟩
        · exact h p hp
      · intro p hp
        exact h p (List.mem_filter.1 hp).1
theorem flat_len : ∀ l : List It, (∀ p ∈ l, p.2.length < 256) → (flat l).length ≤ l.length * 300
  | [], _ => by simp [flat]
  | p :: r, h => by
    have ih := flat_len r fun q hq => h q (by simp [hq])
    have h0 := h p (by simp)
    have e : flat (p :: r) = itB p ++ flat r := rfl
    rw [e, List.length_append]
    simp only [itB, List.length_cons]
    omega
/-! CF -/
set_option maxHeartbeats 8000000 in
theorem law_none (b : Bool) (acts T L : CV) (wh : CV) (r q room : Int) (r1 : r.tmod 12 = q) (r2 : iAdd .i64 1 (IntKind.i64.wrap q) = room) (m : Mp)
    (aw : ∀ H, callX (cfg b) An 4 [] H = some (.c (.bool true), H))
    (md : fnX (cfg b) An 5 [.c acts, .c (.int .i64 room)] [] = some (.tup [.c T, .ov 0 [] 0, .ov 1 [] 0, .c (.int .i64 0)], [.var 81 (.agg [.mp 2]), .var 68 (.agg [.ov 0 [] 0, .c (.int .i64 room), .c .nilsl]), .mp (mC m)]))
    (nc : ∀ H, callX (cfg b) An 6 [.c T] H = some (.c .nilsl, H)) :
    fnX (cfg b) An 3 [.c acts, .c (.int .u8 r), .c wh] [] = some (.c (.bool true), []) := by
  rw [fnX_eq, p3_eq]
  generalize mC m = M at *
  simp (maxSteps := 1000000) [p3, aw, r1, r2, v5, md, nc]
set_option maxHeartbeats 8000000 in
theorem law_some (b : Bool) (acts T L : CV) (wh : CV) (wn : Nat) (hwl : ∀ H, lenOf H (.c wh) = some wn) (ns : List CV) (hn : ns ≠ []) (r q room : Int) (r1 : r.tmod 12 = q) (r2 : iAdd .i64 1 (IntKind.i64.wrap q) = room) (m : Mp)
    (aw : ∀ H, callX (cfg b) An 4 [] H = some (.c (.bool true), H))
    (md : fnX (cfg b) An 5 [.c acts, .c (.int .i64 room)] [] = some (.tup [.c T, .ov 0 [] 0, .ov 1 [] 0, .c (.int .i64 0)], [.var 81 (.agg [.mp 2]), .var 68 (.agg [.ov 0 [] 0, .c (.int .i64 room), .c .nilsl]), .mp (mC m)]))
    (nc : ∀ H, callX (cfg b) An 6 [.c T] H = some (.c (.sl 68 ns), H)) (H' : Heap)
    (lp : loopX 0 (p3_l0 b (callX (cfg b) An) 0) (lS r T (.sl 68 ns) wh (wn : Int) 0) (cHn room m) = some (.exit 0 [.any, .c (.int .i64 0)], H')) :
    fnX (cfg b) An 3 [.c acts, .c (.int .u8 r), .c wh] [] = some (.c (.bool true), []) := by
  rw [fnX_eq, p3_eq]
  simp only [lS, cHn] at lp
  generalize mC m = M at *
  have g1 : loopX 0 (p3_l0 b (callX (cfg b) An) 0) [.c (.int .u8 r), .c T, .ov 1 [] 0, .c (.int .i64 0), .c (.sl 68 ns), .c wh, .c (.int .i64 (wn : Int)), .c (.int .i64 0)]
      [.var 81 (.agg [.mp 2]), .var 68 (.agg [.ov 0 [] 0, .c (.int .i64 room), .c .nilsl]), .mp M] = some (.exit 0 [.any, .c (.int .i64 0)], H') := by
    rw [loopX_gc (s1 := [.c (.int .u8 r), .c T, .ov 0 [] 0, .c (.int .i64 0), .c (.sl 68 ns), .c wh, .c (.int .i64 (wn : Int)), .c (.int .i64 0)])
      (H1 := [.var 68 (.agg [.ov 1 [] 0, .c (.int .i64 room), .c .nilsl]), .var 81 (.agg [.mp 2]), .mp M]) (by simp) (by simp)]
    exact lp
  have hn2 : ¬ ns.length = 0 := fun e => hn (List.length_eq_zero_iff.1 e)
  have hn3 : ((ns.length : Int) == 0) = false := by
    rw [beq_eq_false_iff_ne]
    omega
  simp (maxSteps := 1000000) [p3, aw, r1, r2, v5, md, nc, hwl, g1, hn, hn2, hn3]
theorem cacheYoung_fn (b : Bool) (aw : ∀ H, callX (cfg b) An 4 [] H = some (.c (.bool true), H)) (o : Option (List ActL)) (r : UInt8) (wo : Option (List UInt8)) :
    fnX (cfg b) An 3 [.c (actsC o), .c (.int .u8 (r.toNat : Int)), .c (pV wo)] [] = some (.c (.bool true), []) := by
  have gc := grow_call b 50 (by decide) o
  have hok := grown_ok 50 o
  have hlaw := grown_law 50 o
  have hnd := growS_ndok 50 (actsL o) 0 (none, []) (fun p hp => by simp at hp)
  have hnd' := growS_val 50 (actsL o) 0 (none, []) (fun p hp => by simp at hp)
  have hg : growS 50 (actsL o) 0 (none, []) = grown 50 o := rfl
  rw [hg] at hnd hnd'
  have n50 : ((50 : Nat) : Int) = 50 := rfl
  rw [n50] at gc
  generalize grown 50 o = g at *
  obtain ⟨t, l⟩ := g
  have hlv := hlaw.leaves
  have hsz := hok.sz
  have hft := hok.fit
  simp only at hlv hsz hft gc hnd hnd'
  have T1 : TrOk b t := ⟨hft, by omega, by rw [hlv]; exact hnd⟩
  have s1 := save_fn b t T1 []
  have hlR : (Tn.hasho t).length = 32 := by
    cases t with
    | none => exact shaW_len _
    | some t => exact t.hash_len
  have hdR : (dI (Tn.hasho t)).length = 32 := by rw [len_dI, hlR]
  have r1 : ((r.toNat : Int)).tmod 12 = ((r.toNat % 12 : Nat) : Int) := tmod_nat r.toNat 12
  have hq : r.toNat % 12 < 12 := Nat.mod_lt _ (by decide)
  have r2 : iAdd .i64 1 (IntKind.i64.wrap ((r.toNat % 12 : Nat) : Int)) = 1 + ((r.toNat % 12 : Nat) : Int) := by
    rw [i64_small (by omega) (by omega)]
    unfold iAdd
    exact i64_small (by omega) (by omega)
  have md := made_core b (actsC o) (tC t) _ (1 + ((r.toNat % 12 : Nat) : Int)) (by omega) (by omega) (saveM (Tn.nodesO t) []) _ hdR gc s1
  have nc : ∀ H, callX (cfg b) An 6 [.c (tC t)] H = some (.c (Tn.apiso t), H) := callX_pure (Nodes_fn b t hft (by omega)) rfl rfl (prim_none (by decide))
  cases t with
  | none => exact law_none b _ _ .nilp _ _ _ _ r1 r2 _ aw md nc
  | some t =>
    simp only [Tn.szo] at hsz
    have hsm : ∀ n ∈ t.nodesL, Held (saveM t.nodesL []) n.hash := by
      intro n hn
      obtain ⟨n', h1, h2⟩ := saveM_from t.nodesL hn
      obtain ⟨f1, f2, f3⟩ := nodesL_facts t n' h1
      have hS : Small n' := by
        cases n' with
        | leaf k v =>
          obtain ⟨h0, h1, h2⟩ := T1.ok (k, v) (f2 _ (by simp [Tn.leaves]))
          obtain ⟨h3, h4, h5⟩ := hnd' (k, v) (by rw [← hlv]; exact f2 _ (by simp [Tn.leaves]))
          exact ⟨h0, h1, h5⟩
        | node a c =>
          obtain ⟨v, q, e⟩ := Tn.leaves_head c
          obtain ⟨h0, h1, _⟩ := T1.ok (c.least, v) (f2 _ (by simp only [Tn.leaves]; rw [e]; simp))
          exact ⟨h0, h1, by omega⟩
      refine ⟨n', hS, f3 (hft t rfl), h2, ?_⟩
      rw [enc_flat n' hS]
      have h1 := flat_len n'.its fun p hp => ((its_ok n' hS).2 p hp).2
      have h2 : n'.its.length ≤ 5 := by cases n' with | leaf k v => simp only [Tn.its]; split <;> simp | node l r => simp [Tn.its]
      omega
    have hne : t.nodesL ≠ [] := by cases t <;> simp [Tn.nodesL]
    have hfit : ∀ n ∈ t.nodesL, n.fit := fun n hn => (nodesL_facts t n hn).2.2 (hft t rfl)
    have hI0 : InvL (1 + ((r.toNat % 12 : Nat) : Int)) [] := ⟨by simp, List.Pairwise.nil, by simp; omega⟩
    have hlp : ∃ H', loopX 0 (p3_l0 b (callX (cfg b) An) 0) (lS (r.toNat : Int) (tC (some t)) (.sl 68 (t.nodesL.map Tn.api)) (pV wo) (((pB wo).length : Nat) : Int) 0) (cHn (1 + ((r.toNat % 12 : Nat) : Int)) (saveM t.nodesL [])) = some (.exit 0 [.any, .c (.int .i64 0)], H') := by
      cases wo with
      | none => exact exit_ge b _ _ _ _ _ _ _ [] _ (by simp [pB])
      | some ws => exact law_loop b _ _ t.nodesL hne hfit ws _ _ r1 r2 (by omega) (by omega) _ hsm ws [] [] rfl hI0
    obtain ⟨H', lp⟩ := hlp
    exact law_some b _ _ .nilp _ (pB wo).length (by intro H; cases wo <;> simp [pV, pB, bytesAV]) (t.nodesL.map Tn.api) (by simpa using hne) _ _ _ r1 r2 _ aw md nc H' lp
end Go.Fm
