/-
  A part of the proof: PCli.
-/
import Derived.Test.YtjmjijgnbjkpnaaDoorDAnn
import Derived.Test.YtjmjijgnbjkpnaaDoorPChain
import Derived.Test.YtjmjijgnbjkpnaaDoorDMisc
set_option linter.all false
set_option autoImplicit true
/-
  Words more.
-/
set_option linter.unusedVariables false
set_option linter.unusedSimpArgs false
namespace Go.Fm
open Go Go.Proofs
theorem drawC_ns (H : Heap) (v : AV) (X : Heap) (h1 : v.all (fun i => decide (H.length ≤ i)) = true) (h2 : (X.all fun b => b.all fun i => decide (H.length ≤ i)) = true) :
    drawC H (some (v, deadL H ++ X)) = some ((v, (false, [], H.length, H.length + X.length)), H ++ X) := by
  have h : (deadL H ++ X).drop H.length = X := by rw [← deadL_len H, List.drop_left]
  simp only [drawC, h, List.length_append, deadL_len]
  simp [h1, h2]
attribute [simp] drawC_ns
end Go.Fm
/-
  client: of, New, Latest, Status, at; chain: Open, Client, Time, Tick.
-/
set_option maxRecDepth 100000
set_option linter.unusedVariables false
set_option linter.unusedSimpArgs false
namespace Go.Fm
open Go Go.Proofs
section
variable {b lit : Bool} {x y : AV} {H : Heap}
theorem frz171 : (cfg b).frz 171 = false := rfl
theorem frz168 : (cfg b).frz 168 = false := rfl
theorem eqg92' : (cfg b).P.eqGuardType (cfg b).P.depth 92 = false := by kernel_rfl
theorem aeq92 : aeq (cfg b).P 12 92 x y = ptrEq x y := aeq_ptr (e := 171) (by kernel_rfl)
theorem be92 (h : isIS x y = false) : mBin (cfg b) 92 lit .eql x y H = eqH H false (ptrEq x y) := by rw [mBin_eqg eqg92' h, aeq92]
end
/-- What is known of a height. -/
def stC (h t : Int) (r n s : List UInt8) : CV := .agg [.int .u64 h, .int .u64 t, .arr 32 .u8 (dI r), .arr 32 .u8 (dI n), .arr 32 .u8 (dI s)]
def clH (p : Int) (L : List CV) : Heap := [.var 171 (.agg [.c (.int .u64 p), .os 1, .c (.bool false)]), .row 168 98 L]
/-! CF -/
set_option maxHeartbeats 8000000 in
theorem of_fn (b : Bool) (h t : Int) (r v n s sw : List UInt8) (l0 : (dI s).length = 32) (l1 : (dI v).length = 32) (l2 : (dI n).length = 32) (l3 : (dI r).length = 32) (l4 : (dI sw).length = 32)
    (sc : ∀ H, callX (cfg b) An 98 [.c (hdC h t r v n s)] H = some (.c (.arr 32 .u8 (dI sw)), H)) :
    fnX (cfg b) An 110 [.c (hdC h t r v n s)] [] = some (.c (stC h t r n sw), []) := by
  rw [fnX_eq, p110_eq]
  simp only [hdC, stC] at sc ⊢
  simp [p110, p110_d0, sc, l0, l1, l2, l3, l4, frz80, frz168]
set_option maxHeartbeats 8000000 in
theorem cnew_fn (b : Bool) (p h t : Int) (r v n s sw : List UInt8) (l0 : (dI s).length = 32) (l1 : (dI v).length = 32) (l2 : (dI n).length = 32) (l3 : (dI r).length = 32) (l4 : (dI sw).length = 32)
    (p1 : ¬ p < 1) (p2 : ¬ 4294967296 < p) (h1 : ¬ h < 1) (h2 : ¬ 1099511627776 < h) (t2 : ¬ 1099511627776 < t)
    (sc : ∀ H, callX (cfg b) An 110 [.c (hdC h t r v n s)] H = some (.c (stC h t r n sw), H)) :
    fnX (cfg b) An 99 [.c (hdC h t r v n s), .c (.int .u64 p)] [] = some (.tup [.ov 0 [] 0, .c (.int .i64 0)], clH p [stC h t r n sw]) := by
  rw [fnX_eq, p99_eq]
  simp only [hdC, stC, clH] at sc ⊢
  simp [p99, sc, l0, l1, l2, l3, l4, frz80, frz168, frz171, p1, p2, h1, h2, t2]
theorem v99 {b : Bool} {H : Heap} {vs : List AV} : callX (cfg b) An 99 vs H = cvw (fnX (cfg b) An 99) (handCs (cfg b) false H vs) := callX_v (prim_none (by decide))
/-- A chain without blocks that has a client. -/
def chO (a : UInt8) (p h t q : Int) (L : List CV) : Heap := [.var 152 (.agg [.c (.int .u8 (a.toNat : Int)), .c (.int .u64 p), .c (.int .u64 h), .c (.int .u64 t), .ov 1 [] 0, .c .nilsl, .ov 2 [] 0]), .var 137 (.c (.agg [.int .i64 64, .int .u64 1, .nilsl])), .var 171 (.agg [.c (.int .u64 q), .os 3, .c (.bool false)]), .row 168 98 L]
theorem subLast (n : Nat) (h : n < 1000000) : iSub .i64 ((n : Int) + 1) 1 = (n : Int) := by
  unfold iSub
  rw [i64_small (by omega) (by omega)]; omega
/-- The last of a list. -/
theorem latest_fn (b : Bool) (p : Int) (L : List CV) (k : Nat) (hl : L.length = k + 1) (hk : k < 1000000) (h t : Int) (r n s : List UInt8) (l0 : (dI s).length = 32) (l2 : (dI n).length = 32) (l3 : (dI r).length = 32) (hn : nthC L k = stC h t r n s) :
    fnX (cfg b) An 73 [.ov 0 [] 0] (clH p L) = some (.c (.int .u64 h), clH p L) := by
  rw [fnX_eq, p73_eq]
  have e := subLast k hk
  have g : (k : Int) < (k : Int) + 1 := by omega
  simp only [clH, stC] at hn ⊢
  simp [p73, p73_d0, be92, hl, e, g, hn, l0, l2, l3, frz171]
/-- States, none of this height. -/
def NoHt (L : List CV) (x : Int) : Prop := ∀ i, i < L.length → ∃ h t r n s, nthC L i = stC h t r n s ∧ h ≠ x ∧ (dI s).length = 32 ∧ (dI n).length = 32 ∧ (dI r).length = 32
end Go.Fm
/-
  client.Update: a header more.
-/
set_option maxRecDepth 100000
set_option linter.unusedVariables false
set_option linter.unusedSimpArgs false
namespace Go.Fm
open Go Go.Proofs
section
variable {b lit : Bool} {H : Heap}
end
theorem cf_PCli2_b834e858 : clashFree [0, 0, 2, 6, 14, 0, 32, 96, 254, 511, 1023, 2047] [(false, [], 5, 5), (false, [], 5, 5), (false, [0, 1], 5, 5), (false, [0, 1], 5, 5), (false, [0, 1], 5, 5), (false, [2], 5, 5), (false, [], 5, 5), (false, [], 5, 6), (true, [1, 5], 6, 7), (false, [0, 1], 7, 7), (false, [0, 1], 7, 7), (true, [0, 1, 6], 7, 7)] = true := by decide
attribute [simp] cf_PCli2_b834e858
/-! CF -/
end Go.Fm
