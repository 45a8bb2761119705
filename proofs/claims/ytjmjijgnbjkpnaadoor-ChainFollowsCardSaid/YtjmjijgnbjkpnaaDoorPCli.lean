/-
  A part of the proof: PCli.
-/
import Derived.Test.YtjmjijgnbjkpnaaDoorPChain
import Derived.Test.YtjmjijgnbjkpnaaDoorPWords
import Derived.Test.YtjmjijgnbjkpnaaDoorDMisc
set_option linter.all false
set_option autoImplicit true
/-
  client: of, New, Latest, Status, at; chain: Open, Client, Time, Tick.
-/
set_option maxRecDepth 100000
set_option linter.unusedVariables false
set_option linter.unusedSimpArgs false
namespace Go.Fm
open Go Go.Proofs

section
variable {b lit : Bool} {x y : AV} {H : Heap}
theorem frz171 : (cfg b).frz 171 = false := rfl
theorem frz168 : (cfg b).frz 168 = false := rfl
theorem frz22 : (cfg b).frz 22 = false := rfl
theorem eqg92' : (cfg b).P.eqGuardType (cfg b).P.depth 92 = false := by kernel_rfl
theorem aeq92 : aeq (cfg b).P 12 92 x y = ptrEq x y := aeq_ptr (e := 171) (by kernel_rfl)
theorem be92 (h : isIS x y = false) : mBin (cfg b) 92 lit .eql x y H = eqH H false (ptrEq x y) := by rw [mBin_eqg eqg92' h, aeq92]
end
/-- What is known of a height. -/
def stC (h t : Int) (r n s : List UInt8) : CV := .agg [.int .u64 h, .int .u64 t, .arr 32 .u8 (dI r), .arr 32 .u8 (dI n), .arr 32 .u8 (dI s)]
def stZ : CV := .agg [.int .u64 0, .int .u64 0, .arr 32 .u8 (List.replicate 32 0), .arr 32 .u8 (List.replicate 32 0), .arr 32 .u8 (List.replicate 32 0)]
def clH (p : Int) (L : List CV) : Heap := [.var 171 (.agg [.c (.int .u64 p), .os 1, .c (.bool false)]), .row 168 98 L]
def clD (p : Int) (L : List CV) : Heap := [.var 171 (.agg [.c (.int .u64 p), .os 2, .c (.bool false)]), .dead, .row 168 98 L]
/-! CF -/
set_option maxHeartbeats 8000000 in
theorem of_fn (b : Bool) (h t : Int) (r v n s sw : List UInt8) (l0 : (dI s).length = 32) (l1 : (dI v).length = 32) (l2 : (dI n).length = 32) (l3 : (dI r).length = 32) (l4 : (dI sw).length = 32)
    (sc : ∀ H, callX (cfg b) An 98 [.c (hdC h t r v n s)] H = some (.c (.arr 32 .u8 (dI sw)), H)) :
    fnX (cfg b) An 110 [.c (hdC h t r v n s)] [] = some (.c (stC h t r n sw), []) := by
  rw [fnX_eq, p110_eq]
  simp only [hdC, stC] at sc ⊢
  simp [p110, p110_d0, sc, l0, l1, l2, l3, l4, frz80, frz168]
theorem keep111 {b : Bool} : (cfg b).keepA 111 = false := rfl
set_option maxHeartbeats 8000000 in
theorem cnew_fn (b : Bool) (p h t : Int) (r v n s sw : List UInt8) (l0 : (dI s).length = 32) (l1 : (dI v).length = 32) (l2 : (dI n).length = 32) (l3 : (dI r).length = 32) (l4 : (dI sw).length = 32)
    (p1 : ¬ p < 1) (p2 : ¬ 4294967296 < p) (h1 : ¬ h < 1) (h2 : ¬ 1099511627776 < h) (t2 : ¬ 1099511627776 < t)
    (sc : ∀ H, callX (cfg b) An 110 [.c (hdC h t r v n s)] H = some (.c (stC h t r n sw), H)) :
    fnX (cfg b) An 99 [.c (hdC h t r v n s), .c (.int .u64 p)] [] = some (.tup [.ov 0 [] 0, .c (.int .i64 0)], clH p [stC h t r n sw]) := by
  rw [fnX_eq, p99_eq]
  simp only [hdC, stC, clH] at sc ⊢
  simp [p99, sc, l0, l1, l2, l3, l4, frz80, frz168, frz171, p1, p2, h1, h2, t2]
theorem v99 {b : Bool} {H : Heap} {vs : List AV} : callX (cfg b) An 99 vs H = cvw (fnX (cfg b) An 99) (handCs (cfg b) false H vs) := callX_v (prim_none (by decide))
/-- A chain without blocks that has a client. -/
def chO (a : UInt8) (p h t q : Int) (L : List CV) : Heap := [.var 152 (.agg [.c (.int .u8 (a.toNat : Int)), .c (.int .u64 p), .c (.int .u64 h), .c (.int .u64 t), .ov 1 [] 0, .c .nilsl, .ov 2 [] 0]), .var 137 (.c (.agg [.int .i64 64, .int .u64 1, .nilsl])), .var 171 (.agg [.c (.int .u64 q), .os 3, .c (.bool false)]), .row 168 98 L]
set_option maxHeartbeats 16000000 in
theorem open_core (b : Bool) (a : UInt8) (p h0 t0 h t : Int) (r v n s : List UInt8) (l0 : (dI s).length = 32) (l1 : (dI v).length = 32) (l2 : (dI n).length = 32) (l3 : (dI r).length = 32) (L : List CV)
    (nw : fnX (cfg b) An 99 [.c (hdC h t r v n s), .c (.int .u64 p)] [] = some (.tup [.ov 0 [] 0, .c (.int .i64 0)], clH p L)) :
    fnX (cfg b) An 57 [.ov 0 [] 0, .c (hdC h t r v n s)] (chE a p h0 t0) = some (.c (.int .i64 0), chO a p h0 t0 p L) := by
  rw [fnX_eq, p57_eq]
  simp only [hdC, clH, chE, chO] at nw ⊢
  simp [p57, p57_d0, be81, v99, nw, l0, l1, l2, l3, frz80, frz168, frz171, frz152, frz137]
theorem client_fn (b : Bool) (a : UInt8) (p h t q : Int) (L : List CV) : fnX (cfg b) An 58 [.ov 0 [] 0] (chO a p h t q L) = some (.ov 2 [] 0, chO a p h t q L) := by
  rw [fnX_eq, p58_eq]
  simp only [chO]
  simp [p58, be81, frz152, frz171]
theorem time_fn (b : Bool) (a : UInt8) (p h t : Int) (hs : List CV) (f : Int) (ts : List CV) : fnX (cfg b) An 60 [.ov 0 [] 0] (chH a p h t hs f ts) = some (.c (.int .u64 t), chH a p h t hs f ts) := by
  rw [fnX_eq, p60_eq]
  simp only [chH]
  simp [p60, be81]
set_option maxHeartbeats 8000000 in
theorem tick_fn (b : Bool) (a : UInt8) (p h t : Int) (hs : List CV) (f : Int) (ts : List CV) (n t1 t2 : Int) (e : iSub .u64 1099511627776 t = t1) (e2 : iAdd .u64 t (if t1 < n then t1 else n) = t2) :
    fnX (cfg b) An 55 [.ov 0 [] 0, .c (.int .u64 n)] (chH a p h t hs f ts) = some (.tup [], chH a p h t2 hs f ts) := by
  rw [fnX_eq, p55_eq]
  simp only [chH]
  simp [p55, p55_d0, bne81, e, e2, frz152]
theorem subLast (n : Nat) (h : n < 1000000) : iSub .i64 ((n : Int) + 1) 1 = (n : Int) := by
  unfold iSub
  rw [i64_small (by omega) (by omega)]; omega
/-- The last of a list. -/
theorem latest_fn (b : Bool) (p : Int) (L : List CV) (k : Nat) (hl : L.length = k + 1) (hk : k < 1000000) (h t : Int) (r n s : List UInt8) (l0 : (dI s).length = 32) (l2 : (dI n).length = 32) (l3 : (dI r).length = 32) (hn : nthC L k = stC h t r n s) :
    fnX (cfg b) An 73 [.ov 0 [] 0] (clH p L) = some (.c (.int .u64 h), clH p L) := by
  rw [fnX_eq, p73_eq]
  have e := subLast k hk
  have g : (k : Int) < (k : Int) + 1 := by omega
  simp only [clH, stC] at hn ⊢
  simp [p73, p73_d0, be92, hl, e, g, hn, l0, l2, l3, frz171]
set_option maxHeartbeats 8000000 in
theorem status_fn (b : Bool) (p now d : Int) (L : List CV) (k : Nat) (hl : L.length = k + 1) (hk : k < 1000000) (h t : Int) (r n s : List UInt8) (l0 : (dI s).length = 32) (l2 : (dI n).length = 32) (l3 : (dI r).length = 32) (hn : nthC L k = stC h t r n s)
    (h1 : t < now) (hd : iSub .u64 now t = d) (h2 : ¬ p ≤ d) :
    fnX (cfg b) An 107 [.ov 0 [] 0, .c (.int .u64 now)] (clH p L) = some (.c .nilif, clH p L) := by
  rw [fnX_eq, p107_eq]
  have e := subLast k hk
  have g : (k : Int) < (k : Int) + 1 := by omega
  simp only [clH, stC] at hn ⊢
  simp [p107, p107_d0, be92, hl, e, g, hn, l0, l2, l3, frz171, h1, hd, h2]
theorem v133 {b : Bool} {H : Heap} {vs : List AV} : callX (cfg b) An 133 vs H = cvw (fnX (cfg b) An 133) (handCs (cfg b) false H vs) := callX_v (prim_none (by decide))
theorem v132 {b : Bool} {H : Heap} {vs : List AV} : callX (cfg b) An 132 vs H = cvw (fnX (cfg b) An 132) (handCs (cfg b) true H vs) := callX_v (prim_none (by decide))
theorem same_fn (b : Bool) (x h t : Int) (r n s : List UInt8) (l0 : (dI s).length = 32) (l2 : (dI n).length = 32) (l3 : (dI r).length = 32) (hx : h ≠ x) :
    fnX (cfg b) An 133 [.c (stC h t r n s), .ov 0 [] 0] [.var 22 (.c (.int .u64 x))] = some (.c (.bool false), [.var 22 (.c (.int .u64 x))]) := by
  rw [fnX_eq, p133_eq]
  simp only [stC]
  simp [p133, l0, l2, l3, hx, frz168, frz22]
/-- States, none of this height. -/
def NoHt (L : List CV) (x : Int) : Prop := ∀ i, i < L.length → ∃ h t r n s, nthC L i = stC h t r n s ∧ h ≠ x ∧ (dI s).length = 32 ∧ (dI n).length = 32 ∧ (dI r).length = 32
theorem idx_loop (b : Bool) (L : List CV) (x : Int) (hx : NoHt L x) (hL : L.length < 1000000) : ∀ (n i : Nat), i + n = L.length →
    loopX 2 (p132_l0 b (callX (cfg b) An) 2) [.os 0, .fn 133 [.ov 1 [] 0], .c (.int .i64 (L.length : Int)), .c (.int .i64 (i : Int))] [.row 168 98 L, .var 22 (.c (.int .u64 x))] = some (.exit 0 [.any], [.row 168 98 L, .var 22 (.c (.int .u64 x))])
  | 0, i, hi => by
    have : i = L.length := by omega
    subst this
    rw [loopX_eq]
    simp [p132_l0]
  | n + 1, i, hi => by
    have ih := idx_loop b L x hx hL n (i + 1) (by omega)
    obtain ⟨h, t, r, nx, s, e, hne, l0, l2, l3⟩ := hx i (by omega)
    have sf := same_fn b x h t r nx s l0 l2 l3 hne
    have g1 : (i : Int) < (L.length : Int) := by omega
    have g2 : i < L.length := by omega
    have g3 : iAdd .i64 (i : Int) 1 = ((i + 1 : Nat) : Int) := by unfold iAdd; rw [i64_small (by omega) (by omega)]; omega
    rw [loopX_eq]
    simp only [stC] at e sf
    simp [p132_l0, g1, g2, g3, e, v133, sf, l0, l2, l3, frz168, frz22]
    simpa using ih
theorem idx_fn (b : Bool) (L : List CV) (x : Int) (hx : NoHt L x) (hL : L.length < 1000000) :
    fnX (cfg b) An 132 [.os 0, .fn 133 [.ov 1 [] 0]] [.row 168 98 L, .var 22 (.c (.int .u64 x))] = some (.c (.int .i64 (-1)), [.row 168 98 L, .var 22 (.c (.int .u64 x))]) := by
  rw [fnX_eq, p132_eq]
  have lp := idx_loop b L x hx hL L.length 0 (by omega)
  have z0 : ((0 : Nat) : Int) = 0 := rfl
  rw [z0] at lp
  simp [p132, lp]
theorem at_fn (b : Bool) (p x : Int) (L : List CV) (hx : NoHt L x) (hL : L.length < 1000000) :
    fnX (cfg b) An 109 [.ov 0 [] 0, .c (.int .u64 x)] (clH p L) = some (.tup [.c stZ, .c (.bool false)], clH p L) := by
  rw [fnX_eq, p109_eq]
  have ix := idx_fn b L x hx hL
  simp only [clH, stZ]
  simp [p109, v132, ix, frz171, frz168, frz22]
end Go.Fm

/-
  client.Update: a header more.
-/
set_option maxRecDepth 100000
set_option linter.unusedVariables false
set_option linter.unusedSimpArgs false
namespace Go.Fm
open Go Go.Proofs

section
variable {b lit : Bool} {H : Heap}
theorem eqg112 : (cfg b).P.eqGuardType (cfg b).P.depth 112 = true := by kernel_rfl
theorem ift112 : ifaceT (cfg b).P 112 = true := by kernel_rfl
theorem bne112n : mBin (cfg b) 112 true .neq (.c .nilif) (.c .nilif) H = some (.c (.bool false), H) := by simp [mBin, abin, eqg112, ift112]
end
theorem v107 {b : Bool} {H : Heap} {vs : List AV} : callX (cfg b) An 107 vs H = cvw (fnX (cfg b) An 107) (handCs (cfg b) false H vs) := callX_v (prim_none (by decide))
theorem v109 {b : Bool} {H : Heap} {vs : List AV} : callX (cfg b) An 109 vs H = cvw (fnX (cfg b) An 109) (handCs (cfg b) false H vs) := callX_v (prim_none (by decide))
theorem v111 {b : Bool} {H : Heap} {vs : List AV} : callX (cfg b) An 111 vs H = cvw (fnX (cfg b) An 111) (handCs (cfg b) false H vs) := callX_v (prim_none (by decide))
theorem cf_PCli2_b834e858 : clashFree [0, 0, 2, 6, 14, 0, 32, 96, 254, 511, 1023, 2047] [(false, [], 5, 5), (false, [], 5, 5), (false, [0, 1], 5, 5), (false, [0, 1], 5, 5), (false, [0, 1], 5, 5), (false, [2], 5, 5), (false, [], 5, 5), (false, [], 5, 6), (true, [1, 5], 6, 7), (false, [0, 1], 7, 7), (false, [0, 1], 7, 7), (true, [0, 1, 6], 7, 7)] = true := by decide
attribute [simp] cf_PCli2_b834e858
/-! CF -/
set_option maxHeartbeats 32000000 in
theorem upd_core (b : Bool) (p now : Int) (L : List CV) (k : Nat) (hl : L.length = k + 1) (hk : k < 15) (h t h0 t0 : Int) (r v nx s r0 s0 : List UInt8) (l0 : (dI s).length = 32) (l1 : (dI v).length = 32) (l2 : (dI nx).length = 32) (l3 : (dI r).length = 32) (l4 : (dI r0).length = 32) (l5 : (dI s0).length = 32)
    (hn : nthC L k = stC h0 t0 r0 v s0)
    (sc : ∀ H, callX (cfg b) An 98 [.c (hdC h t r v nx s)] H = some (.c (.arr 32 .u8 (dI s)), H))
    (oc : ∀ H, callX (cfg b) An 110 [.c (hdC h t r v nx s)] H = some (.c (stC h t r nx s), H))
    (st : fnX (cfg b) An 107 [.ov 0 [] 0, .c (.int .u64 now)] (clH p L) = some (.c .nilif, clH p L))
    (att : fnX (cfg b) An 109 [.ov 0 [] 0, .c (.int .u64 h)] (clH p L) = some (.tup [.c stZ, .c (.bool false)], clH p L))
    (c1 : ¬ h < h0) (c2 : ¬ 1099511627776 < h) (c3 : ¬ t ≤ t0) (c4 : ¬ 1099511627776 < t) :
    fnX (cfg b) An 72 [.ov 0 [] 0, .c (hdC h t r v nx s), .c (.int .u64 now)] (clH p L) = some (.c .nilif, clD p (L ++ [stC h t r nx s])) := by
  rw [fnX_eq, p72_eq]
  have e := subLast k (by omega)
  have g : (k : Int) < (k : Int) + 1 := by omega
  have m1 : 1 ≤ maxLen := big_max (by decide)
  have m2 : k + 1 + 1 ≤ maxLen := big_max (by omega)
  have m3 : (k + 1 + 1) * 112 ≤ 140737488355328 := by omega
  have m4 : ¬ (16 : Int) < (k : Int) + 1 + 1 := by omega
  simp only [clH, clD, stC, hdC, stZ] at hn sc oc st att ⊢
  simp (maxSteps := 400000) [p72, p72_d0, p72_d1, p72_d2, v107, v109, st, att, sc, oc, hl, e, g, hn, bne112n, be41, bne41, l0, l1, l2, l3, l4, l5, c1, c2, c3, c4, m1, m2, m3, m4, frz171, frz168, frz80]
theorem eqg169 {b : Bool} : (cfg b).P.eqGuardType (cfg b).P.depth 169 = false := by kernel_rfl
theorem aeq169 {b : Bool} {x y : AV} : aeq (cfg b).P 12 169 x y = slEq x y := aeq_sl (e := 168) (by kernel_rfl)
theorem eq169 {b lit : Bool} {H : Heap} (e : CV) (es : List CV) : mBin (cfg b) 169 lit .eql (.c (.sl 98 (e :: es))) (.c .nilsl) H = some (.c (.bool false), H) := by
  rw [mBin_eqg eqg169 (by rfl), aeq169]
  rfl
theorem clone_st (b : Bool) (L : List CV) (k : Nat) (hl : L.length = k + 1) (hk : k < 1000) : fnX (cfg b) An 111 [.c (.sl 98 L)] [] = some (.os 0, [.row 168 98 L]) := by
  cases L with
  | nil => simp at hl
  | cons e L =>
    rw [fnX_eq, p111_eq]
    have hl' : L.length = k := by simpa using hl
    have m2 : k + 1 ≤ maxLen := big_max (by omega)
    have m3 : (k + 1) * 112 ≤ 140737488355328 := by omega
    simp [p111, eq169, hl', m2, m3]
set_option maxHeartbeats 32000000 in
theorem upd_core2 (b : Bool) (p now : Int) (L : List CV) (hl : L.length = 16) (h t h0 t0 : Int) (r v nx s r0 s0 : List UInt8) (l0 : (dI s).length = 32) (l1 : (dI v).length = 32) (l2 : (dI nx).length = 32) (l3 : (dI r).length = 32) (l4 : (dI r0).length = 32) (l5 : (dI s0).length = 32)
    (hn : nthC L 15 = stC h0 t0 r0 v s0)
    (sc : ∀ H, callX (cfg b) An 98 [.c (hdC h t r v nx s)] H = some (.c (.arr 32 .u8 (dI s)), H))
    (oc : ∀ H, callX (cfg b) An 110 [.c (hdC h t r v nx s)] H = some (.c (stC h t r nx s), H))
    (st : fnX (cfg b) An 107 [.ov 0 [] 0, .c (.int .u64 now)] (clH p L) = some (.c .nilif, clH p L))
    (att : fnX (cfg b) An 109 [.ov 0 [] 0, .c (.int .u64 h)] (clH p L) = some (.tup [.c stZ, .c (.bool false)], clH p L))
    (c1 : ¬ h < h0) (c2 : ¬ 1099511627776 < h) (c3 : ¬ t ≤ t0) (c4 : ¬ 1099511627776 < t) :
    fnX (cfg b) An 72 [.ov 0 [] 0, .c (hdC h t r v nx s), .c (.int .u64 now)] (clH p L) = some (.c .nilif, clD p ((L ++ [stC h t r nx s]).drop 1)) := by
  rw [fnX_eq, p72_eq]
  have m1 : 1 ≤ maxLen := big_max (by decide)
  have m2 : 17 ≤ maxLen := big_max (by decide)
  have hD : ((L ++ [stC h t r nx s]).drop 1).length = 15 + 1 := by simp [hl]
  have hL2 : (L ++ [stC h t r nx s]).length = 17 := by simp [hl]
  have cs := clone_st b _ 15 hD (by decide)
  have e15 : iSub .i64 16 1 = 15 := by decide
  simp only [clH, clD, stC, hdC, stZ] at hn sc oc st att hD hL2 cs ⊢
  generalize hLL : L ++ [CV.agg [.int .u64 h, .int .u64 t, .arr 32 .u8 (dI r), .arr 32 .u8 (dI nx), .arr 32 .u8 (dI s)]] = LL at *
  have sl : ∀ A0 A1 A2 A3 A4 A5, mSliceSl 98 (.os 6) (some (.c (.int .i64 1))) none [A0, A1, A2, A3, A4, A5, .row 168 98 LL] = _ := fun A0 A1 A2 A3 A4 A5 => mSliceSl_tail (sz := 98) (u := 168) (es := LL) (H := [A0, A1, A2, A3, A4, A5, .row 168 98 LL]) (i := 6) (c := 1) (k := .i64) rfl (by decide) (by rw [hL2]; decide)
  generalize hDD : LL.drop 1 = D at *
  simp (maxSteps := 400000) [p72, p72_d0, p72_d1, p72_d2, v107, v109, v111, st, att, sc, oc, hl, hn, bne112n, be41, bne41, l0, l1, l2, l3, l4, l5, c1, c2, c3, c4, m1, m2, hLL, hDD, hL2, hD, cs, sl, e15, frz171, frz168, frz80]
end Go.Fm

