/-
  A part of the proof: PCp.
-/
import Derived.Test.YtjmjijgnbjkpnaaDoorPFol
import Derived.Test.YtjmjijgnbjkpnaaDoorPRf1
import Derived.Test.YtjmjijgnbjkpnaaDoorPEp
import Derived.Test.YtjmjijgnbjkpnaaDoorPSta
import Derived.Test.YtjmjijgnbjkpnaaDoorPEq80
import Derived.Test.YtjmjijgnbjkpnaaDoorDMisc
import Derived.Test.YtjmjijgnbjkpnaaDoorGlue4
set_option linter.all false
set_option autoImplicit true
/-
  A chain with and without blocks, with and without a client: Time, Height, Client, Tick, Open.
-/
set_option maxRecDepth 100000
set_option linter.unusedVariables false
set_option linter.unusedSimpArgs false
namespace Go.Fm
open Go Go.Proofs
/-- With blocks and a client. -/
def chK (a : UInt8) (p h t : Int) (hs : List CV) (f : Int) (ts : List CV) (q : Int) (L : List CV) : Heap := [.var 152 (.agg [.c (.int .u8 (a.toNat : Int)), .c (.int .u64 p), .c (.int .u64 h), .c (.int .u64 t), .ov 1 [] 0, .os 2, .ov 3 [] 0]), .var 137 (.agg [.c (.int .i64 64), .c (.int .u64 f), .os 4]), .row 80 130 hs, .var 171 (.agg [.c (.int .u64 q), .os 5, .c (.bool false)]), .row 28 1 ts, .row 168 98 L]
abbrev Cl := Option (Int × List CV)
def kE (a : UInt8) (p h t : Int) : Cl → Heap
  | none => chE a p h t
  | some (q, L) => chO a p h t q L
def kH (a : UInt8) (p h t : Int) (hs : List CV) (f : Int) (ts : List CV) : Cl → Heap
  | none => chH a p h t hs f ts
  | some (q, L) => chK a p h t hs f ts q L
def cE : Cl → AV
  | none => .c .nilp
  | some _ => .ov 2 [] 0
def cH : Cl → AV
  | none => .c .nilp
  | some _ => .ov 3 [] 0
theorem timeE (b : Bool) (a : UInt8) (p h t : Int) (c : Cl) : fnX (cfg b) An 60 [.ov 0 [] 0] (kE a p h t c) = some (.c (.int .u64 t), kE a p h t c) := by
  rw [fnX_eq, p60_eq]
  cases c <;> simp [kE, chE, chO, p60, be81]
theorem timeH (b : Bool) (a : UInt8) (p h t : Int) (hs : List CV) (f : Int) (ts : List CV) (c : Cl) : fnX (cfg b) An 60 [.ov 0 [] 0] (kH a p h t hs f ts c) = some (.c (.int .u64 t), kH a p h t hs f ts c) := by
  rw [fnX_eq, p60_eq]
  cases c <;> simp [kH, chH, chK, p60, be81]
theorem heightE (b : Bool) (a : UInt8) (p h t : Int) (c : Cl) : fnX (cfg b) An 59 [.ov 0 [] 0] (kE a p h t c) = some (.c (.int .u64 h), kE a p h t c) := by
  rw [fnX_eq, p59_eq]
  cases c <;> simp [kE, chE, chO, p59, be81]
theorem heightH (b : Bool) (a : UInt8) (p h t : Int) (hs : List CV) (f : Int) (ts : List CV) (c : Cl) : fnX (cfg b) An 59 [.ov 0 [] 0] (kH a p h t hs f ts c) = some (.c (.int .u64 h), kH a p h t hs f ts c) := by
  rw [fnX_eq, p59_eq]
  cases c <;> simp [kH, chH, chK, p59, be81]
theorem clientE (b : Bool) (a : UInt8) (p h t : Int) (c : Cl) : fnX (cfg b) An 58 [.ov 0 [] 0] (kE a p h t c) = some (cE c, kE a p h t c) := by
  rw [fnX_eq, p58_eq]
  cases c <;> simp [kE, cE, chE, chO, p58, be81, frz152, frz171]
theorem clientH (b : Bool) (a : UInt8) (p h t : Int) (hs : List CV) (f : Int) (ts : List CV) (c : Cl) : fnX (cfg b) An 58 [.ov 0 [] 0] (kH a p h t hs f ts c) = some (cH c, kH a p h t hs f ts c) := by
  rw [fnX_eq, p58_eq]
  cases c <;> simp [kH, cH, chH, chK, p58, be81, frz152, frz171]
/-! CF -/
theorem tickE (b : Bool) (a : UInt8) (p h t : Int) (c : Cl) (n t1 t2 : Int) (e : iSub .u64 1099511627776 t = t1) (e2 : iAdd .u64 t (if t1 < n then t1 else n) = t2) :
    fnX (cfg b) An 55 [.ov 0 [] 0, .c (.int .u64 n)] (kE a p h t c) = some (.tup [], kE a p h t2 c) := by
  rw [fnX_eq, p55_eq]
  cases c <;> simp [kE, chE, chO, p55, p55_d0, bne81, e, e2, frz152]
theorem tickH (b : Bool) (a : UInt8) (p h t : Int) (hs : List CV) (f : Int) (ts : List CV) (c : Cl) (n t1 t2 : Int) (e : iSub .u64 1099511627776 t = t1) (e2 : iAdd .u64 t (if t1 < n then t1 else n) = t2) :
    fnX (cfg b) An 55 [.ov 0 [] 0, .c (.int .u64 n)] (kH a p h t hs f ts c) = some (.tup [], kH a p h t2 hs f ts c) := by
  rw [fnX_eq, p55_eq]
  cases c <;> simp [kH, chH, chK, p55, p55_d0, bne81, e, e2, frz152]
/-- What Open leaves. -/
def kE1 (a : UInt8) (p h t : Int) (q1 : Int) (L1 : List CV) : Cl → Heap
  | none => chO a p h t q1 L1
  | some (q, L) => [.var 152 (.agg [.c (.int .u8 (a.toNat : Int)), .c (.int .u64 p), .c (.int .u64 h), .c (.int .u64 t), .ov 1 [] 0, .c .nilsl, .ov 4 [] 0]), .var 137 (.c (.agg [.int .i64 64, .int .u64 1, .nilsl])), .var 171 (.agg [.c (.int .u64 q), .os 3, .c (.bool false)]), .row 168 98 L, .var 171 (.agg [.c (.int .u64 q1), .os 5, .c (.bool false)]), .row 168 98 L1]
def kH1 (a : UInt8) (p h t : Int) (hs : List CV) (f : Int) (ts : List CV) (q1 : Int) (L1 : List CV) : Cl → Heap
  | none => [.var 152 (.agg [.c (.int .u8 (a.toNat : Int)), .c (.int .u64 p), .c (.int .u64 h), .c (.int .u64 t), .ov 1 [] 0, .os 2, .ov 4 [] 0]), .var 137 (.agg [.c (.int .i64 64), .c (.int .u64 f), .os 3]), .row 80 130 hs, .row 28 1 ts, .var 171 (.agg [.c (.int .u64 q1), .os 5, .c (.bool false)]), .row 168 98 L1]
  | some (q, L) => [.var 152 (.agg [.c (.int .u8 (a.toNat : Int)), .c (.int .u64 p), .c (.int .u64 h), .c (.int .u64 t), .ov 1 [] 0, .os 2, .ov 6 [] 0]), .var 137 (.agg [.c (.int .i64 64), .c (.int .u64 f), .os 4]), .row 80 130 hs, .var 171 (.agg [.c (.int .u64 q), .os 5, .c (.bool false)]), .row 28 1 ts, .row 168 98 L, .var 171 (.agg [.c (.int .u64 q1), .os 7, .c (.bool false)]), .row 168 98 L1]
set_option maxHeartbeats 16000000 in
theorem openE (b : Bool) (a : UInt8) (p h0 t0 h t : Int) (r v n s : List UInt8) (l0 : (dI s).length = 32) (l1 : (dI v).length = 32) (l2 : (dI n).length = 32) (l3 : (dI r).length = 32) (L : List CV) (c : Cl)
    (nw : fnX (cfg b) An 99 [.c (hdC h t r v n s), .c (.int .u64 p)] [] = some (.tup [.ov 0 [] 0, .c (.int .i64 0)], clH p L)) :
    fnX (cfg b) An 57 [.ov 0 [] 0, .c (hdC h t r v n s)] (kE a p h0 t0 c) = some (.c (.int .i64 0), kE1 a p h0 t0 p L c) := by
  rw [fnX_eq, p57_eq]
  simp only [hdC, clH] at nw ⊢
  cases c <;> simp [kE, kE1, chE, chO, p57, p57_d0, be81, v99, nw, l0, l1, l2, l3, frz80, frz168, frz171, frz152, frz137]
set_option maxHeartbeats 16000000 in
theorem openH (b : Bool) (a : UInt8) (p h0 t0 h t : Int) (hs : List CV) (f : Int) (ts : List CV) (r v n s : List UInt8) (l0 : (dI s).length = 32) (l1 : (dI v).length = 32) (l2 : (dI n).length = 32) (l3 : (dI r).length = 32) (L : List CV) (c : Cl)
    (nw : fnX (cfg b) An 99 [.c (hdC h t r v n s), .c (.int .u64 p)] [] = some (.tup [.ov 0 [] 0, .c (.int .i64 0)], clH p L)) :
    fnX (cfg b) An 57 [.ov 0 [] 0, .c (hdC h t r v n s)] (kH a p h0 t0 hs f ts c) = some (.c (.int .i64 0), kH1 a p h0 t0 hs f ts p L c) := by
  rw [fnX_eq, p57_eq]
  simp only [hdC, clH] at nw ⊢
  cases c <;> simp [kH, kH1, chH, chK, p57, p57_d0, be81, v99, nw, l0, l1, l2, l3, frz80, frz168, frz171, frz152, frz137]
set_option maxHeartbeats 16000000 in
theorem openEn (b : Bool) (a : UInt8) (p h0 t0 h t : Int) (r v n s : List UInt8) (l0 : (dI s).length = 32) (l1 : (dI v).length = 32) (l2 : (dI n).length = 32) (l3 : (dI r).length = 32) (e : Int) (he : e ≠ 0) (c : Cl)
    (nw : fnX (cfg b) An 99 [.c (hdC h t r v n s), .c (.int .u64 p)] [] = some (.tup [.c .nilp, .c (.int .i64 e)], [])) :
    fnX (cfg b) An 57 [.ov 0 [] 0, .c (hdC h t r v n s)] (kE a p h0 t0 c) = some (.c (.int .i64 e), kE a p h0 t0 c) := by
  rw [fnX_eq, p57_eq]
  have he2 : (e == 0) = false := by simpa using he
  simp only [hdC] at nw ⊢
  cases c <;> simp [kE, chE, chO, p57, p57_d0, be81, v99, nw, he, he2, l0, l1, l2, l3, frz80, frz168, frz171, frz152, frz137]
set_option maxHeartbeats 16000000 in
theorem openHn (b : Bool) (a : UInt8) (p h0 t0 h t : Int) (hs : List CV) (f : Int) (ts : List CV) (r v n s : List UInt8) (l0 : (dI s).length = 32) (l1 : (dI v).length = 32) (l2 : (dI n).length = 32) (l3 : (dI r).length = 32) (e : Int) (he : e ≠ 0) (c : Cl)
    (nw : fnX (cfg b) An 99 [.c (hdC h t r v n s), .c (.int .u64 p)] [] = some (.tup [.c .nilp, .c (.int .i64 e)], [])) :
    fnX (cfg b) An 57 [.ov 0 [] 0, .c (hdC h t r v n s)] (kH a p h0 t0 hs f ts c) = some (.c (.int .i64 e), kH a p h0 t0 hs f ts c) := by
  rw [fnX_eq, p57_eq]
  have he2 : (e == 0) = false := by simpa using he
  simp only [hdC] at nw ⊢
  cases c <;> simp [kH, chH, chK, p57, p57_d0, be81, v99, nw, he, he2, l0, l1, l2, l3, frz80, frz168, frz171, frz152, frz137]
theorem cnew_bad (b : Bool) (p h t : Int) (r v n s : List UInt8) (l0 : (dI s).length = 32) (l1 : (dI v).length = 32) (l2 : (dI n).length = 32) (l3 : (dI r).length = 32)
    (p1 : ¬ p < 1) (p2 : ¬ 4294967296 < p) (bad : h < 1 ∨ 1099511627776 < h ∨ 1099511627776 < t) :
    ∃ e : Int, e ≠ 0 ∧ fnX (cfg b) An 99 [.c (hdC h t r v n s), .c (.int .u64 p)] [] = some (.tup [.c .nilp, .c (.int .i64 e)], []) := by
  by_cases h1 : h < 1
  · refine ⟨_, ?_, by rw [fnX_eq, p99_eq]; simp only [hdC]; simp [p99, l0, l1, l2, l3, frz80, p1, p2, h1]; rfl⟩; decide
  · by_cases h2 : 1099511627776 < h
    · refine ⟨_, ?_, by rw [fnX_eq, p99_eq]; simp only [hdC]; simp [p99, l0, l1, l2, l3, frz80, p1, p2, h1, h2]; rfl⟩; decide
    · have t2 : 1099511627776 < t := by omega
      refine ⟨_, ?_, by rw [fnX_eq, p99_eq]; simp only [hdC]; simp [p99, l0, l1, l2, l3, frz80, p1, p2, h1, h2, t2]; rfl⟩; decide
end Go.Fm
/-
  End, with and without a client.
-/
set_option maxRecDepth 100000
set_option linter.unusedVariables false
set_option linter.unusedSimpArgs false
namespace Go.Fm
open Go Go.Proofs
def hdZ1 : CV := .agg [.int .u64 0, .int .u64 0, .arr 32 .u8 (List.replicate 32 0), .arr 32 .u8 (List.replicate 32 0), .arr 32 .u8 (List.replicate 32 0), .arr 32 .u8 (List.replicate 32 0)]
/-- The first block. -/
def kE2 (a : UInt8) (p h t : Int) (hs ts : List CV) : Cl → Heap
  | none => chH a p h t hs 1 ts
  | some (q, L) => [.var 152 (.agg [.c (.int .u8 (a.toNat : Int)), .c (.int .u64 p), .c (.int .u64 h), .c (.int .u64 t), .ov 1 [] 0, .os 4, .ov 2 [] 0]), .var 137 (.agg [.c (.int .i64 64), .c (.int .u64 1), .os 5]), .var 171 (.agg [.c (.int .u64 q), .os 3, .c (.bool false)]), .row 168 98 L, .row 80 130 hs, .row 28 1 ts]
/-- A block more. -/
def kH2 (a : UInt8) (p h t : Int) (hs : List CV) (f : Int) (ts : List CV) : Cl → Heap
  | none => chD a p h t hs f ts
  | some (q, L) => [.var 152 (.agg [.c (.int .u8 (a.toNat : Int)), .c (.int .u64 p), .c (.int .u64 h), .c (.int .u64 t), .ov 1 [] 0, .os 6, .ov 3 [] 0]), .var 137 (.agg [.c (.int .i64 64), .c (.int .u64 f), .os 7]), .dead, .var 171 (.agg [.c (.int .u64 q), .os 5, .c (.bool false)]), .dead, .row 168 98 L, .row 80 130 hs, .row 28 1 ts]
theorem cf_PCp2_aee9c479 : clashFree [0, 0, 2, 6, 14, 0, 32, 126, 255, 511, 1023] [(false, [], 7, 7), (false, [], 7, 7), (false, [0, 1, 6, 2, 3], 7, 7), (false, [0, 1, 6, 2, 3], 7, 7), (false, [0, 1, 6, 2, 3], 7, 7), (false, [5], 7, 7), (false, [], 7, 8), (true, [7], 8, 9), (false, [0, 1, 6, 2, 3], 9, 9), (false, [0, 1, 6, 2, 3], 9, 9), (true, [0, 1, 6, 2, 3, 8], 9, 9)] = true := by decide
attribute [simp] cf_PCp2_aee9c479
theorem cf_PCp2_7d12d293 : clashFree [0, 0, 2, 6, 14, 0, 32, 126, 255, 511, 1023] [(false, [], 9, 9), (false, [], 9, 9), (false, [0, 1, 8, 2, 3, 5], 9, 9), (false, [0, 1, 8, 2, 3, 5], 9, 9), (false, [0, 1, 8, 2, 3, 5], 9, 9), (false, [7], 9, 9), (false, [], 9, 10), (true, [2, 9], 10, 11), (false, [0, 1, 8, 2, 3, 5], 11, 11), (false, [0, 1, 8, 2, 3, 5], 11, 11), (true, [0, 1, 8, 2, 3, 5, 10], 11, 11)] = true := by decide
attribute [simp] cf_PCp2_7d12d293
/-! CF -/
theorem endE_no (b : Bool) (a : UInt8) (p h tm : Int) (hh : ¬ (1099511627776 ≤ h)) (ht : 1099511627776 ≤ tm) (T : CV) (hT : ptrEq (.c T) (.c .nilp) = some false) (c : Cl) :
    fnX (cfg b) An 52 [.ov 0 [] 0, .c T] (kE a p h tm c) = some (.tup [.c hdZ1, .c (.int .i64 2)], kE a p h tm c) := by
  rw [fnX_eq, p52_eq]
  cases c <;> simp [kE, chE, chO, hdZ1, p52, be81, be28, hT, hh, ht, frz80, frz152, frz137, frz171]
theorem endH_no (b : Bool) (a : UInt8) (p h tm : Int) (hs : List CV) (f : Int) (ts : List CV) (hh : ¬ (1099511627776 ≤ h)) (ht : 1099511627776 ≤ tm) (T : CV) (hT : ptrEq (.c T) (.c .nilp) = some false) (c : Cl) :
    fnX (cfg b) An 52 [.ov 0 [] 0, .c T] (kH a p h tm hs f ts c) = some (.tup [.c hdZ1, .c (.int .i64 2)], kH a p h tm hs f ts c) := by
  rw [fnX_eq, p52_eq]
  cases c <;> simp [kH, chH, chK, hdZ1, p52, be81, be28, hT, hh, ht, frz80, frz152, frz137, frz171]
set_option maxHeartbeats 32000000 in
theorem endE_core (b : Bool) (a : UInt8) (p h tm h1 h2 tm1 : Int) (hh : ¬ (1099511627776 ≤ h)) (ht : ¬ (1099511627776 ≤ tm)) (e1 : iAdd .u64 h 1 = h1) (e2 : iAdd .u64 h1 1 = h2) (e3 : iAdd .u64 tm 1 = tm1)
    (T : CV) (R v1 v2 sw : List UInt8) (hsl : (dI sw).length = 32) (l1 : (dI v1).length = 32) (l2 : (dI v2).length = 32) (l3 : (dI R).length = 32) (z : Int) (c : Cl)
    (rc : ∀ H, callX (cfg b) An 37 [.c T] H = some (.c (.arr 32 .u8 (dI R)), H))
    (vc1 : ∀ H, callX (cfg b) An 33 [.c (.int .u8 (a.toNat : Int)), .c (.int .u64 h1)] H = some (.c (.arr 32 .u8 (dI v1)), H))
    (vc2 : ∀ H, callX (cfg b) An 33 [.c (.int .u8 (a.toNat : Int)), .c (.int .u64 h2)] H = some (.c (.arr 32 .u8 (dI v2)), H))
    (sc : ∀ H, callX (cfg b) An 98 [.c (.agg [.int .u64 h1, .int .u64 tm1, .arr 32 .u8 (dI R), .arr 32 .u8 (dI v1), .arr 32 .u8 (dI v2), .arr 32 .u8 (List.replicate 32 0)])] H = some (.c (.arr 32 .u8 (dI sw)), H))
    (hT : ptrEq (.c T) (.c .nilp) = some false)
    (cm : fnX (cfg b) An 25 [.ov 0 [] 0, .c T] [.var 137 (.c (.agg [.int .i64 64, .int .u64 1, .nilsl]))] = some (.tup [.c (.int .u64 z), .c (.int .i64 0)], logH 64 1 [T])) :
    fnX (cfg b) An 52 [.ov 0 [] 0, .c T] (kE a p h tm c) = some (.tup [.c (hdC h1 tm1 R v1 v2 sw), .c (.int .i64 0)], kE2 a p h1 tm1 [hdC h1 tm1 R v1 v2 sw] [T] c) := by
  cases c with
  | none => exact end_core0 b a p h tm h1 h2 tm1 hh ht e1 e2 e3 T R v1 v2 sw hsl l1 l2 l3 z rc vc1 vc2 sc hT cm
  | some c =>
    rw [fnX_eq, p52_eq]
    have m1 : 1 ≤ maxLen := big_max (by decide)
    simp only [List.reduceReplicate] at sc
    simp only [kE, kE2, chE, chO, chH, hdC, logH] at cm ⊢
    simp (maxSteps := 300000) [p52, p52_d0, p52_d1, be81, be28, hT, hh, ht, e1, e2, e3, sc, rc, vc1, vc2, v25, cm, hsl, l1, l2, l3, m1, frz80, frz41, frz137, frz152, frz171, keep25]
set_option maxHeartbeats 32000000 in
theorem endH_core1 (b : Bool) (a : UInt8) (p h tm h1 h2 tm1 : Int) (hh : ¬ (1099511627776 ≤ h)) (ht : ¬ (1099511627776 ≤ tm)) (e1 : iAdd .u64 h 1 = h1) (e2 : iAdd .u64 h1 1 = h2) (e3 : iAdd .u64 tm 1 = tm1)
    (T : CV) (R v1 v2 sw : List UInt8) (hsl : (dI sw).length = 32) (l1 : (dI v1).length = 32) (l2 : (dI v2).length = 32) (l3 : (dI R).length = 32) (z f f' : Int) (hs ts ts' : List CV) (hlen : hs.length < 64) (c : Cl)
    (rc : ∀ H, callX (cfg b) An 37 [.c T] H = some (.c (.arr 32 .u8 (dI R)), H))
    (vc1 : ∀ H, callX (cfg b) An 33 [.c (.int .u8 (a.toNat : Int)), .c (.int .u64 h1)] H = some (.c (.arr 32 .u8 (dI v1)), H))
    (vc2 : ∀ H, callX (cfg b) An 33 [.c (.int .u8 (a.toNat : Int)), .c (.int .u64 h2)] H = some (.c (.arr 32 .u8 (dI v2)), H))
    (sc : ∀ H, callX (cfg b) An 98 [.c (.agg [.int .u64 h1, .int .u64 tm1, .arr 32 .u8 (dI R), .arr 32 .u8 (dI v1), .arr 32 .u8 (dI v2), .arr 32 .u8 (List.replicate 32 0)])] H = some (.c (.arr 32 .u8 (dI sw)), H))
    (hT : ptrEq (.c T) (.c .nilp) = some false)
    (cm : fnX (cfg b) An 25 [.ov 0 [] 0, .c T] (logH 64 f ts) = some (.tup [.c (.int .u64 z), .c (.int .i64 0)], logD 64 f' ts')) :
    fnX (cfg b) An 52 [.ov 0 [] 0, .c T] (kH a p h tm hs f ts c) = some (.tup [.c (hdC h1 tm1 R v1 v2 sw), .c (.int .i64 0)], kH2 a p h1 tm1 (hs ++ [hdC h1 tm1 R v1 v2 sw]) f' ts' c) := by
  cases c with
  | none => exact end_core1 b a p h tm h1 h2 tm1 hh ht e1 e2 e3 T R v1 v2 sw hsl l1 l2 l3 z f f' hs ts ts' hlen rc vc1 vc2 sc hT cm
  | some c =>
    rw [fnX_eq, p52_eq]
    have m1 : 1 ≤ maxLen := big_max (by decide)
    simp only [List.reduceReplicate] at sc
    simp only [kH, kH2, chK, hdC, logH, logD] at cm ⊢
    have m2 : hs.length + 1 ≤ maxLen := big_max (by omega)
    have m3 : (hs.length + 1) * 144 ≤ 140737488355328 := by omega
    have m4 : ¬ (64 : Int) < (hs.length : Int) + 1 := by omega
    simp (maxSteps := 300000) [p52, p52_d0, p52_d1, be81, be28, hT, hh, ht, e1, e2, e3, sc, rc, vc1, vc2, v25, cm, hsl, l1, l2, l3, m1, frz80, frz41, frz137, frz152, frz171, keep25, m2, m3, m4]
set_option maxHeartbeats 32000000 in
theorem endH_core2 (b : Bool) (a : UInt8) (p h tm h1 h2 tm1 : Int) (hh : ¬ (1099511627776 ≤ h)) (ht : ¬ (1099511627776 ≤ tm)) (e1 : iAdd .u64 h 1 = h1) (e2 : iAdd .u64 h1 1 = h2) (e3 : iAdd .u64 tm 1 = tm1)
    (T : CV) (R v1 v2 sw : List UInt8) (hsl : (dI sw).length = 32) (l1 : (dI v1).length = 32) (l2 : (dI v2).length = 32) (l3 : (dI R).length = 32) (z f f' : Int) (hs ts ts' : List CV) (hlen : hs.length = 64) (c : Cl)
    (rc : ∀ H, callX (cfg b) An 37 [.c T] H = some (.c (.arr 32 .u8 (dI R)), H))
    (vc1 : ∀ H, callX (cfg b) An 33 [.c (.int .u8 (a.toNat : Int)), .c (.int .u64 h1)] H = some (.c (.arr 32 .u8 (dI v1)), H))
    (vc2 : ∀ H, callX (cfg b) An 33 [.c (.int .u8 (a.toNat : Int)), .c (.int .u64 h2)] H = some (.c (.arr 32 .u8 (dI v2)), H))
    (sc : ∀ H, callX (cfg b) An 98 [.c (.agg [.int .u64 h1, .int .u64 tm1, .arr 32 .u8 (dI R), .arr 32 .u8 (dI v1), .arr 32 .u8 (dI v2), .arr 32 .u8 (List.replicate 32 0)])] H = some (.c (.arr 32 .u8 (dI sw)), H))
    (hT : ptrEq (.c T) (.c .nilp) = some false)
    (cm : fnX (cfg b) An 25 [.ov 0 [] 0, .c T] (logH 64 f ts) = some (.tup [.c (.int .u64 z), .c (.int .i64 0)], logD 64 f' ts')) :
    fnX (cfg b) An 52 [.ov 0 [] 0, .c T] (kH a p h tm hs f ts c) = some (.tup [.c (hdC h1 tm1 R v1 v2 sw), .c (.int .i64 0)], kH2 a p h1 tm1 ((hs ++ [hdC h1 tm1 R v1 v2 sw]).drop 1) f' ts' c) := by
  cases c with
  | none => exact end_core2 b a p h tm h1 h2 tm1 hh ht e1 e2 e3 T R v1 v2 sw hsl l1 l2 l3 z f f' hs ts ts' hlen rc vc1 vc2 sc hT cm
  | some c =>
    rw [fnX_eq, p52_eq]
    have m1 : 1 ≤ maxLen := big_max (by decide)
    simp only [List.reduceReplicate] at sc
    simp only [kH, kH2, chK, hdC, logH, logD] at cm ⊢
    have m2 : hs.length + 1 ≤ maxLen := big_max (by omega)
    have m3 : (hs.length + 1) * 144 ≤ 140737488355328 := by omega
    have m4 : (64 : Int) < (hs.length : Int) + 1 := by omega
    generalize hL : hs ++ [CV.agg [.int .u64 h1, .int .u64 tm1, .arr 32 .u8 (dI R), .arr 32 .u8 (dI v1), .arr 32 .u8 (dI v2), .arr 32 .u8 (dI sw)]] = L at *
    have hLl : L.length = 65 := by rw [← hL]; simp [hlen]
    have hDl : (L.drop 1).length = 64 := by simp [hLl]
    generalize hD : L.drop 1 = D at *
    have sl : ∀ A0 A1 A2 A3 A4 A5 A6 A7 A8 A9 A11, mSliceSl 130 (.os 10) (some (.c (.int .i64 1))) none [A0, A1, A2, A3, A4, A5, A6, A7, A8, A9, .row 80 130 L, A11] = _ := fun A0 A1 A2 A3 A4 A5 A6 A7 A8 A9 A11 => mSliceSl_tail (sz := 130) (u := 80) (es := L) (H := [A0, A1, A2, A3, A4, A5, A6, A7, A8, A9, .row 80 130 L, A11]) (i := 10) (c := 1) (k := .i64) rfl (by decide) (by rw [hLl]; decide)
    have m64 : 64 ≤ maxLen := big_max (by decide)
    have m65 : 65 ≤ maxLen := big_max (by decide)
    simp (maxSteps := 300000) [p52, p52_d0, p52_d1, be81, be28, hT, hh, ht, e1, e2, e3, sc, rc, vc1, vc2, v25, cm, hsl, l1, l2, l3, m1, frz80, frz41, frz137, frz152, frz171, keep25, m2, m3, m4, hlen, hL, hD, hLl, hDl, sl, m64, m65]
end Go.Fm
/-
  Header and Tree of any height.
-/
set_option maxRecDepth 100000
set_option linter.unusedVariables false
set_option linter.unusedSimpArgs false
namespace Go.Fm
open Go Go.Proofs
/-- Headers of heights in a row. -/
def HdI (hs : List CV) (base : Nat) : Prop := ∀ i, i < hs.length → ∃ (t : Int) (R v n s : List UInt8), nthC hs i = hdC ((base + i + 1 : Nat) : Int) t R v n s ∧ (dI s).length = 32 ∧ (dI v).length = 32 ∧ (dI n).length = 32 ∧ (dI R).length = 32
def kL : Cl → Nat
  | none => 4
  | some _ => 6
def kHv (a : UInt8) (p h t : Int) (hs : List CV) (f : Int) (ts : List CV) : Cl → CV → Heap
  | none, V => chH a p h t hs f ts ++ [.var 80 (.c V)]
  | some (q, L), V => chK a p h t hs f ts q L ++ [.var 80 (.c V)]
/-! CF -/
set_option maxHeartbeats 16000000 in
theorem hd_step (b : Bool) (a : UInt8) (p h t : Int) (hs : List CV) (f : Int) (ts : List CV) (c : Cl) (x i : Nat) (y t1 : Int) (R v n s : List UInt8) (l0 : (dI s).length = 32) (l1 : (dI v).length = 32) (l2 : (dI n).length = 32) (l3 : (dI R).length = 32)
    (hi : i < hs.length) (hm : hs.length < 1000) (hn : nthC hs i = hdC y t1 R v n s) (hne : (y == (x : Int)) = false) :
    loopX (kL c) (p53_l0 b (callX (cfg b) An) (kL c)) [.c (.int .u64 (x : Int)), .ov (kL c) [] 0, .os 2, .c (.int .i64 (hs.length : Int)), .c (.int .i64 (i : Int))] (kHv a p h t hs f ts c hdZ1) =
      loopX (kL c) (p53_l0 b (callX (cfg b) An) (kL c)) [.c (.int .u64 (x : Int)), .ov (kL c) [] 0, .os 2, .c (.int .i64 (hs.length : Int)), .c (.int .i64 ((i + 1 : Nat) : Int))] (kHv a p h t hs f ts c hdZ1) := by
  have g1 : (i : Int) < (hs.length : Int) := by omega
  have g3 : iAdd .i64 (i : Int) 1 = ((i + 1 : Nat) : Int) := by unfold iAdd; rw [i64_small (by omega) (by omega)]; omega
  rw [loopX_eq]
  simp only [hdC] at hn
  cases c with
  | none =>
    simp [kL, kHv, chH, hdZ1, p53_l0, g1, hi, g3, hn, hne, l0, l1, l2, l3, frz80]
    rw [loopX_gc (s1 := [.c (.int .u64 (x : Int)), .ov 4 [] 0, .os 2, .c (.int .i64 (hs.length : Int)), .c (.int .i64 ((i : Int) + 1))]) (H1 := kHv a p h t hs f ts none hdZ1) (by simp [kHv, chH, hdZ1]) (by simp [kHv, chH, hdZ1])]
    simp [kHv, chH, hdZ1]
  | some c =>
    simp [kL, kHv, chK, hdZ1, p53_l0, g1, hi, g3, hn, hne, l0, l1, l2, l3, frz80]
    rw [loopX_gc (s1 := [.c (.int .u64 (x : Int)), .ov 6 [] 0, .os 2, .c (.int .i64 (hs.length : Int)), .c (.int .i64 ((i : Int) + 1))]) (H1 := kHv a p h t hs f ts (some c) hdZ1) (by simp [kHv, chK, hdZ1]) (by simp [kHv, chK, hdZ1])]
    simp [kHv, chK, hdZ1]
set_option maxHeartbeats 16000000 in
theorem hd_hit (b : Bool) (a : UInt8) (p h t : Int) (hs : List CV) (f : Int) (ts : List CV) (c : Cl) (x i : Nat) (t1 : Int) (R v n s : List UInt8) (l0 : (dI s).length = 32) (l1 : (dI v).length = 32) (l2 : (dI n).length = 32) (l3 : (dI R).length = 32)
    (hi : i < hs.length) (hm : hs.length < 1000) (hn : nthC hs i = hdC (x : Int) t1 R v n s) :
    ∃ Hx, loopX (kL c) (p53_l0 b (callX (cfg b) An) (kL c)) [.c (.int .u64 (x : Int)), .ov (kL c) [] 0, .os 2, .c (.int .i64 (hs.length : Int)), .c (.int .i64 (i : Int))] (kHv a p h t hs f ts c hdZ1) =
      some (.ret [.ov (kL c) [] 0, .c (.bool true)], kHv a p h t hs f ts c (hdC (x : Int) t1 R v n s) ++ Hx) := by
  have g1 : (i : Int) < (hs.length : Int) := by omega
  rw [loopX_eq]
  simp only [hdC] at hn ⊢
  cases c with
  | none =>
    simp [kL, kHv, chH, hdZ1, p53_l0, g1, hi, hn, l0, l1, l2, l3, frz80]
  | some c =>
    simp [kL, kHv, chK, hdZ1, p53_l0, g1, hi, hn, l0, l1, l2, l3, frz80]
theorem hd_end (b : Bool) (a : UInt8) (p h t : Int) (hs : List CV) (f : Int) (ts : List CV) (c : Cl) (x : Nat) :
    loopX (kL c) (p53_l0 b (callX (cfg b) An) (kL c)) [.c (.int .u64 (x : Int)), .ov (kL c) [] 0, .os 2, .c (.int .i64 (hs.length : Int)), .c (.int .i64 (hs.length : Int))] (kHv a p h t hs f ts c hdZ1) =
      some (.exit 0 [.ov (kL c) [] 0, .any], kHv a p h t hs f ts c hdZ1) := by
  rw [loopX_eq]
  cases c with
  | none => simp [kL, kHv, chH, hdZ1, p53_l0]
  | some c => simp [kL, kHv, chK, hdZ1, p53_l0]
theorem hd_skip (b : Bool) (a : UInt8) (p h t : Int) (hs : List CV) (f : Int) (ts : List CV) (c : Cl) (x base : Nat) (hI : HdI hs base) (hm : hs.length < 1000) (hb : base < 1000) :
    ∀ (k i : Nat), i + k ≤ hs.length → (∀ j, i ≤ j → j < i + k → base + j + 1 ≠ x) →
    loopX (kL c) (p53_l0 b (callX (cfg b) An) (kL c)) [.c (.int .u64 (x : Int)), .ov (kL c) [] 0, .os 2, .c (.int .i64 (hs.length : Int)), .c (.int .i64 (i : Int))] (kHv a p h t hs f ts c hdZ1) =
      loopX (kL c) (p53_l0 b (callX (cfg b) An) (kL c)) [.c (.int .u64 (x : Int)), .ov (kL c) [] 0, .os 2, .c (.int .i64 (hs.length : Int)), .c (.int .i64 ((i + k : Nat) : Int))] (kHv a p h t hs f ts c hdZ1)
  | 0, i, hk, hne => rfl
  | k + 1, i, hk, hne => by
    obtain ⟨t1, R, v, n, s, e, l0, l1, l2, l3⟩ := hI i (by omega)
    have hx := hne i (Nat.le_refl _) (by omega)
    rw [hd_step b a p h t hs f ts c x i _ t1 R v n s l0 l1 l2 l3 (by omega) hm e (by simp; omega), hd_skip b a p h t hs f ts c x base hI hm hb k (i + 1) (by omega) (fun j h1 h2 => hne j (by omega) (by omega))]
    have e2 : i + 1 + k = i + (k + 1) := by omega
    rw [e2]
set_option maxHeartbeats 16000000 in
theorem header_core (b : Bool) (a : UInt8) (p h t : Int) (hs : List CV) (f : Int) (ts : List CV) (c : Cl) (x : Nat) (t1 : Int) (R v n s : List UInt8) (l0 : (dI s).length = 32) (l1 : (dI v).length = 32) (l2 : (dI n).length = 32) (l3 : (dI R).length = 32) (Hx : Heap)
    (lp : loopX (kL c) (p53_l0 b (callX (cfg b) An) (kL c)) [.c (.int .u64 (x : Int)), .ov (kL c) [] 0, .os 2, .c (.int .i64 (hs.length : Int)), .c (.int .i64 0)] (kHv a p h t hs f ts c hdZ1) =
      some (.ret [.ov (kL c) [] 0, .c (.bool true)], kHv a p h t hs f ts c (hdC (x : Int) t1 R v n s) ++ Hx)) :
    fnX (cfg b) An 53 [.ov 0 [] 0, .c (.int .u64 (x : Int))] (kH a p h t hs f ts c) = some (.tup [.c (hdC (x : Int) t1 R v n s), .c (.bool true)], kH a p h t hs f ts c) := by
  rw [fnX_eq, p53_eq]
  cases c with
  | none =>
    simp only [kL, kHv, kH, chH, hdZ1, hdC, List.cons_append, List.nil_append, List.reduceReplicate] at lp ⊢
    simp [p53, bne81, lp, l0, l1, l2, l3, frz80]
  | some c =>
    simp only [kL, kHv, kH, chK, hdZ1, hdC, List.cons_append, List.nil_append, List.reduceReplicate] at lp ⊢
    simp [p53, bne81, lp, l0, l1, l2, l3, frz80]
theorem header_in (b : Bool) (a : UInt8) (p h t : Int) (hs : List CV) (f : Int) (ts : List CV) (c : Cl) (base j : Nat) (hI : HdI hs base) (hm : hs.length < 1000) (hb : base < 1000) (hj : j < hs.length) :
    fnX (cfg b) An 53 [.ov 0 [] 0, .c (.int .u64 ((base + j + 1 : Nat) : Int))] (kH a p h t hs f ts c) = some (.tup [.c (nthC hs j), .c (.bool true)], kH a p h t hs f ts c) := by
  obtain ⟨t1, R, v, n, s, e, l0, l1, l2, l3⟩ := hI j hj
  obtain ⟨Hx, e2⟩ := hd_hit b a p h t hs f ts c (base + j + 1) j t1 R v n s l0 l1 l2 l3 hj hm e
  have sk := hd_skip b a p h t hs f ts c (base + j + 1) base hI hm hb j 0 (by omega) (fun i h1 h2 => by omega)
  have z : 0 + j = j := Nat.zero_add j
  have z0 : ((0 : Nat) : Int) = 0 := rfl
  rw [z, e2, z0] at sk
  rw [e]
  exact header_core b a p h t hs f ts c (base + j + 1) t1 R v n s l0 l1 l2 l3 Hx sk
set_option maxHeartbeats 16000000 in
theorem header_out (b : Bool) (a : UInt8) (p h t : Int) (hs : List CV) (f : Int) (ts : List CV) (c : Cl) (base x : Nat) (hI : HdI hs base) (hm : hs.length < 1000) (hb : base < 1000) (hx : x ≤ base ∨ base + hs.length < x) :
    fnX (cfg b) An 53 [.ov 0 [] 0, .c (.int .u64 (x : Int))] (kH a p h t hs f ts c) = some (.tup [.c hdZ1, .c (.bool false)], kH a p h t hs f ts c) := by
  have sk := hd_skip b a p h t hs f ts c x base hI hm hb hs.length 0 (by omega) (fun i h1 h2 => by omega)
  have z : 0 + hs.length = hs.length := Nat.zero_add _
  have z0 : ((0 : Nat) : Int) = 0 := rfl
  rw [z, hd_end, z0] at sk
  rw [fnX_eq, p53_eq]
  cases c with
  | none =>
    simp only [kL, kHv, kH, chH, hdZ1, List.cons_append, List.nil_append, List.reduceReplicate] at sk ⊢
    simp [p53, bne81, sk, frz80]
  | some c =>
    simp only [kL, kHv, kH, chK, hdZ1, List.cons_append, List.nil_append, List.reduceReplicate] at sk ⊢
    simp [p53, bne81, sk, frz80]
def kLE : Cl → Nat
  | none => 2
  | some _ => 4
theorem hdE_end (b : Bool) (a : UInt8) (p h t : Int) (c : Cl) (x : Int) :
    loopX (kLE c) (p53_l0 b (callX (cfg b) An) (kLE c)) [.c (.int .u64 x), .ov (kLE c) [] 0, .c .nilsl, .c (.int .i64 0), .c (.int .i64 0)] (kE a p h t c ++ [.var 80 (.c hdZ1)]) =
      some (.exit 0 [.ov (kLE c) [] 0, .any], kE a p h t c ++ [.var 80 (.c hdZ1)]) := by
  rw [loopX_eq]
  cases c with
  | none => simp [kLE, kE, chE, hdZ1, p53_l0]
  | some c => simp [kLE, kE, chO, hdZ1, p53_l0]
set_option maxHeartbeats 16000000 in
theorem headerE (b : Bool) (a : UInt8) (p h t : Int) (c : Cl) (x : Int) :
    fnX (cfg b) An 53 [.ov 0 [] 0, .c (.int .u64 x)] (kE a p h t c) = some (.tup [.c hdZ1, .c (.bool false)], kE a p h t c) := by
  rw [fnX_eq, p53_eq]
  have e := hdE_end b a p h t c x
  cases c with
  | none =>
    simp only [kLE, kE, chE, hdZ1, List.cons_append, List.nil_append, List.reduceReplicate] at e ⊢
    simp [p53, e, bne81, frz80]
  | some c =>
    simp only [kLE, kE, chO, hdZ1, List.cons_append, List.nil_append, List.reduceReplicate] at e ⊢
    simp [p53, e, bne81, frz80]
/-! ### Trees -/
theorem tree_in (b : Bool) (a : UInt8) (p h t : Int) (hs : List CV) (f n : Nat) (us : List (Option Tn)) (c : Cl) (hf : f ≤ n) (hn : n < 1000000) (hl : n - f < us.length) (hm : us.length ≤ 1000) :
    fnX (cfg b) An 54 [.ov 0 [] 0, .c (.int .u64 (n : Int))] (kH a p h t hs (f : Int) (us.map tC) c) = some (.tup [.c (tC (us.getD (n - f) none)), .c (.bool true)], kH a p h t hs (f : Int) (us.map tC) c) := by
  rw [fnX_eq, p54_eq]
  have ai := at_in b 64 f n us hf (by omega) hl (by omega)
  generalize us.map tC = ts at *
  generalize us.getD (n - f) none = u at *
  simp only [logH] at ai
  cases c with
  | none => simp only [kH, chH]; simp [p54, be81, v27, ai, frz137, keep27]
  | some c => simp only [kH, chK]; simp [p54, be81, v27, ai, frz137, keep27]
theorem tree_out (b : Bool) (a : UInt8) (p h t : Int) (hs : List CV) (f n : Nat) (us : List (Option Tn)) (c : Cl) (hn : n < 1000000) (hf : f ≤ 1000) (hl : n < f ∨ us.length ≤ n - f) (hm : us.length ≤ 1000) :
    fnX (cfg b) An 54 [.ov 0 [] 0, .c (.int .u64 (n : Int))] (kH a p h t hs (f : Int) (us.map tC) c) = some (.tup [.c .nilp, .c (.bool false)], kH a p h t hs (f : Int) (us.map tC) c) := by
  rw [fnX_eq, p54_eq]
  have ai := at_out b 64 f n us (by omega) (by omega) hl (by omega)
  generalize us.map tC = ts at *
  simp only [logH] at ai
  cases c with
  | none => simp only [kH, chH]; simp [p54, be81, v27, ai, frz137, keep27]
  | some c => simp only [kH, chK]; simp [p54, be81, v27, ai, frz137, keep27]
theorem treeE (b : Bool) (a : UInt8) (p h t : Int) (n : Nat) (c : Cl) (hn : n < 1000000) :
    fnX (cfg b) An 54 [.ov 0 [] 0, .c (.int .u64 (n : Int))] (kE a p h t c) = some (.tup [.c .nilp, .c (.bool false)], kE a p h t c) := by
  rw [fnX_eq, p54_eq]
  have ai := at_new b 64 n (by omega)
  cases c with
  | none => simp only [kE, chE]; simp [p54, be81, v27, ai, frz137, keep27]
  | some c => simp only [kE, chO]; simp [p54, be81, v27, ai, frz137, keep27]
end Go.Fm
/-
  Law 21, ChainPlays: a turn of the loop that is a Tick, or an Open.
-/
set_option maxRecDepth 100000
set_option linter.unusedVariables false
set_option linter.unusedSimpArgs false
namespace Go.Fm
open Go Go.Proofs
section
variable {b lit : Bool} {x y : AV} {H : Heap}
theorem bne92 (h : isIS x y = false) : mBin (cfg b) 92 lit .neq x y H = eqH H true (ptrEq x y) := by rw [mBin_neg eqg92' h, aeq92]
theorem bne4c (h : isIS x y = false) : mBin (cfg b) 4 lit .neq x y H = eqH H true (boolEq x y) := by rw [mBin_neg eqg4c h, aeq4c]
theorem ne80 (h t : Int) (r v n s : List UInt8) : mBin (cfg b) 80 lit .neq (.c (hdC h t r v n s)) (.c (hdC h t r v n s)) H = some (.c (.bool false), H) := by
  rw [mBin_neg eqg80 (by rfl), aeq80r]
  rfl
end
/-- A call. -/
structure AcH where
  k : UInt8
  n : Int
  x : HdrL
def AcH.cv (z : AcH) : CV := .agg [.int .u8 (z.k.toNat : Int), .int .u64 z.n, z.x.cv]
/-- The loop's slots, and its heap. -/
def lS (a : UInt8) (p : Int) (K A : CV) (len h t : Int) (op : Bool) (hd : AV) (i : Int) : List AV := [.c (.int .u8 (a.toNat : Int)), .c (.int .u64 p), .c K, .ov 0 [] 0, .c (.int .i64 0), .c (.int .u64 h), .c (.int .u64 t), .c (.bool op), hd, .c A, .c (.int .i64 len), .c (.int .i64 i)]
def lH (a : UInt8) (p h t : Int) (all hs : List CV) (f : Int) (ts : List CV) : Cl → Heap
  | none => [.var 152 (.agg [.c (.int .u8 (a.toNat : Int)), .c (.int .u64 p), .c (.int .u64 h), .c (.int .u64 t), .ov 2 [] 0, .os 3, .c .nilp]), .row 80 130 all, .var 137 (.agg [.c (.int .i64 64), .c (.int .u64 f), .os 4]), .row 80 130 hs, .row 28 1 ts]
  | some (q, L) => [.var 152 (.agg [.c (.int .u8 (a.toNat : Int)), .c (.int .u64 p), .c (.int .u64 h), .c (.int .u64 t), .ov 2 [] 0, .os 3, .ov 4 [] 0]), .row 80 130 all, .var 137 (.agg [.c (.int .i64 64), .c (.int .u64 f), .os 5]), .row 80 130 hs, .var 171 (.agg [.c (.int .u64 q), .os 6, .c (.bool false)]), .row 28 1 ts, .row 168 98 L]
def isO : Cl → Bool
  | none => false
  | some _ => true
theorem gcE (a : UInt8) (p h t : Int) (K A : CV) (len h' t' : Int) (op : Bool) (i : Int) (c : Cl) : gcL 0 (lS a p K A len h' t' op (.c .nilsl) i) (kE a p h t c) = some (lS a p K A len h' t' op (.c .nilsl) i, kE a p h t c) := by
  cases c <;> simp [lS, kE, chE, chO]
theorem gcH (a : UInt8) (p h t : Int) (K A : CV) (len h' t' : Int) (op : Bool) (i : Int) (all hs : List CV) (f : Int) (ts : List CV) (c : Cl) : gcL 0 (lS a p K A len h' t' op (.os 1) i) (lH a p h t all hs f ts c) = some (lS a p K A len h' t' op (.os 1) i, lH a p h t all hs f ts c) := by
  cases c <;> simp [lS, lH]
theorem cf_PCp4_b850d095 : clashFree [0, 1, 3, 7, 15, 3, 35, 99, 255, 511] [(false, [], 5, 5), (false, [], 5, 5), (false, [], 5, 5), (true, [0, 1, 3, 4], 5, 5), (true, [3, 4], 5, 5), (false, [2], 5, 5), (false, [2], 5, 5), (false, [2], 5, 5), (false, [], 5, 5), (false, [], 5, 5)] = true := by decide
attribute [simp] cf_PCp4_b850d095
theorem cf_PCp4_579681ef : clashFree [0, 1, 3, 7, 15, 3, 35, 99, 255, 511] [(false, [], 7, 7), (false, [], 7, 7), (false, [], 7, 7), (true, [0, 1, 5, 6], 7, 7), (true, [5, 6], 7, 7), (false, [4], 7, 7), (false, [4], 7, 7), (false, [4], 7, 7), (false, [], 7, 7), (false, [], 7, 7)] = true := by decide
attribute [simp] cf_PCp4_579681ef
theorem cf_PCp4_531c8585 : clashFree [0, 1, 3, 7, 15, 3, 35, 99, 255, 511] [(false, [], 8, 8), (false, [], 8, 8), (false, [], 8, 8), (true, [0, 2, 4, 3, 6, 7], 8, 8), (true, [6, 7], 8, 8), (false, [5], 8, 8), (false, [5], 8, 8), (false, [5], 8, 8), (false, [], 8, 8), (false, [], 8, 8)] = true := by decide
attribute [simp] cf_PCp4_531c8585
theorem cf_PCp4_e0f0444a : clashFree [0, 1, 3, 7, 15, 3, 35, 99, 255, 511] [(false, [], 10, 10), (false, [], 10, 10), (false, [], 10, 10), (true, [0, 2, 5, 3, 8, 9], 10, 10), (true, [8, 9], 10, 10), (false, [7], 10, 10), (false, [7], 10, 10), (false, [7], 10, 10), (false, [], 10, 10), (false, [], 10, 10)] = true := by decide
attribute [simp] cf_PCp4_e0f0444a
/-! CF -/
set_option maxHeartbeats 16000000 in
theorem cpTickE (a : UInt8) (p h t : Int) (K : CV) (zs : List CV) (len : Nat) (i : Nat) (c : Cl) (z : AcH) (t1 t2 : Int) (hlen : zs.length = len) (hi : i < len) (hm : True) (h100 : i ≤ 100) (hz : nthC zs i = z.cv) (ok : z.x.Ok)
    (hk : ((z.k.toNat : Int).tmod 6 == 4) = true) (e : iSub .u64 1099511627776 t = t1) (e2 : iAdd .u64 t (if t1 < z.n then t1 else z.n) = t2) :
    loopX 0 (p21_l0 true (callX (cfg true) An) 0) (lS a p K (.sl 132 zs) len h t (isO c) (.c .nilsl) i) (kE a p h t c) = loopX 0 (p21_l0 true (callX (cfg true) An) 0) (lS a p K (.sl 132 zs) len h t2 (isO c) (.c .nilsl) ((i + 1 : Nat) : Int)) (kE a p h t2 c) := by
  have tk := tickE true a p h t c z.n t1 t2 e e2
  have he := heightE true a p h t2 c
  have tm := timeE true a p h t2 c
  have cl := clientE true a p h t2 c
  have g1 : (i : Int) < (len : Int) := by omega
  have g2 : ¬ (100 : Int) < (i : Int) := by omega
  have g3 : iAdd .i64 (i : Int) 1 = ((i + 1 : Nat) : Int) := by unfold iAdd; rw [i64_small (by omega) (by omega)]; omega
  have d1 := len32 ok.root
  have d2 := len32 ok.vals
  have d3 := len32 ok.next
  have d4 := len32 ok.sl
  have gc := gcE a p h t2 K (.sl 132 zs) len h t2 (isO c) ((i + 1 : Nat) : Int) c
  rw [loopX_eq]
  simp only [AcH.cv, HdrL.cv] at hz
  cases c with
  | none =>
    simp only [kE, chE, lS, isO, cE] at tk he tm cl gc ⊢
    simp (maxSteps := 1000000) [p21_l0, g1, g2, g3, hi, hlen, hz, hk, e, e2, v55, tk, v59, he, v60, tm, v58, cl, bne92, bne4c, d1, d2, d3, d4, frz152, frz137]
    exact loopX_gc (by simp) (by simpa using gc)
  | some c =>
    simp only [kE, chO, lS, isO, cE] at tk he tm cl gc ⊢
    simp (maxSteps := 1000000) [p21_l0, g1, g2, g3, hi, hlen, hz, hk, e, e2, v55, tk, v59, he, v60, tm, v58, cl, bne92, bne4c, d1, d2, d3, d4, frz152, frz137, frz171]
    exact loopX_gc (by simp) (by simpa using gc)
set_option maxHeartbeats 16000000 in
theorem cpTickH (a : UInt8) (p h t : Int) (all hs : List CV) (f : Int) (ts : List CV) (K : CV) (zs : List CV) (len : Nat) (i : Nat) (c : Cl) (z : AcH) (t1 t2 : Int) (hlen : zs.length = len) (hi : i < len) (hm : True) (h100 : i ≤ 100) (hz : nthC zs i = z.cv) (ok : z.x.Ok)
    (hk : ((z.k.toNat : Int).tmod 6 == 4) = true) (e : iSub .u64 1099511627776 t = t1) (e2 : iAdd .u64 t (if t1 < z.n then t1 else z.n) = t2) :
    loopX 0 (p21_l0 true (callX (cfg true) An) 0) (lS a p K (.sl 132 zs) len h t (isO c) (.os 1) i) (lH a p h t all hs f ts c) = loopX 0 (p21_l0 true (callX (cfg true) An) 0) (lS a p K (.sl 132 zs) len h t2 (isO c) (.os 1) ((i + 1 : Nat) : Int)) (lH a p h t2 all hs f ts c) := by
  have tk := tickH true a p h t hs f ts c z.n t1 t2 e e2
  have he := heightH true a p h t2 hs f ts c
  have tm := timeH true a p h t2 hs f ts c
  have cl := clientH true a p h t2 hs f ts c
  have g1 : (i : Int) < (len : Int) := by omega
  have g2 : ¬ (100 : Int) < (i : Int) := by omega
  have g3 : iAdd .i64 (i : Int) 1 = ((i + 1 : Nat) : Int) := by unfold iAdd; rw [i64_small (by omega) (by omega)]; omega
  have d1 := len32 ok.root
  have d2 := len32 ok.vals
  have d3 := len32 ok.next
  have d4 := len32 ok.sl
  have gc := gcH a p h t2 K (.sl 132 zs) len h t2 (isO c) ((i + 1 : Nat) : Int) all hs f ts c
  rw [loopX_eq]
  simp only [AcH.cv, HdrL.cv] at hz
  cases c with
  | none =>
    simp only [kH, chH, lH, lS, isO, cH] at tk he tm cl gc ⊢
    simp (maxSteps := 1000000) [p21_l0, g1, g2, g3, hi, hlen, hz, hk, e, e2, v55, tk, v59, he, v60, tm, v58, cl, bne92, bne4c, d1, d2, d3, d4, frz152, frz137]
    exact loopX_gc (by simp) (by simpa using gc)
  | some c =>
    simp only [kH, chK, lH, lS, isO, cH] at tk he tm cl gc ⊢
    simp (maxSteps := 1000000) [p21_l0, g1, g2, g3, hi, hlen, hz, hk, e, e2, v55, tk, v59, he, v60, tm, v58, cl, bne92, bne4c, d1, d2, d3, d4, frz152, frz137, frz171]
    exact loopX_gc (by simp) (by simpa using gc)
set_option maxHeartbeats 16000000 in
theorem cpBadE (a : UInt8) (p h t : Int) (K : CV) (zs : List CV) (len : Nat) (i : Nat) (c : Cl) (z : AcH) (hlen : zs.length = len) (hi : i < len) (hm : True) (h100 : i ≤ 100) (hz : nthC zs i = z.cv) (ok : z.x.Ok)
    (hk4 : ((z.k.toNat : Int).tmod 6 == 4) = false) (hk : ((z.k.toNat : Int).tmod 6 == 5) = true) (p1 : ¬ p < 1) (p2 : ¬ 4294967296 < p) (r : Bool) (hr : (decide (1 ≤ z.x.h) && (decide (z.x.h ≤ 1099511627776) && decide (z.x.t ≤ 1099511627776))) = false) :
    loopX 0 (p21_l0 true (callX (cfg true) An) 0) (lS a p K (.sl 132 zs) len h t (isO c) (.c .nilsl) i) (kE a p h t c) = loopX 0 (p21_l0 true (callX (cfg true) An) 0) (lS a p K (.sl 132 zs) len h t (isO c) (.c .nilsl) ((i + 1 : Nat) : Int)) (kE a p h t c) := by
  have g1 : (i : Int) < (len : Int) := by omega
  have g2 : ¬ (100 : Int) < (i : Int) := by omega
  have g3 : iAdd .i64 (i : Int) 1 = ((i + 1 : Nat) : Int) := by unfold iAdd; rw [i64_small (by omega) (by omega)]; omega
  have d1 := len32 ok.root
  have d2 := len32 ok.vals
  have d3 := len32 ok.next
  have d4 := len32 ok.sl
  obtain ⟨er, her, nw⟩ := cnew_bad true p z.x.h z.x.t z.x.root z.x.vals z.x.next z.x.sl d4 d2 d3 d1 p1 p2 (by
    simp only [Bool.and_eq_false_iff, decide_eq_false_iff_not] at hr
    omega)
  have op := openEn true a p h t z.x.h z.x.t z.x.root z.x.vals z.x.next z.x.sl d4 d2 d3 d1 er her c nw
  have he := heightE true a p h t c
  have tm := timeE true a p h t c
  have cl := clientE true a p h t c
  have her2 : (er == 0) = false := by simpa using her
  have gc := gcE a p h t K (.sl 132 zs) len h t (isO c) ((i + 1 : Nat) : Int) c
  rw [loopX_eq]
  simp only [AcH.cv, HdrL.cv] at hz
  simp only [hdC] at op
  have fin : ∀ (x y w : Bool), (x && (y && w)) = false → (x = true ∧ y = true ∧ w = true → False) := by decide
  by_cases q1 : 1 ≤ z.x.h <;> by_cases q2 : z.x.h ≤ 1099511627776 <;> by_cases q3 : z.x.t ≤ 1099511627776 <;> cases c <;>
  first
  | (exfalso; simp [q1, q2, q3] at hr; done)
  | (simp only [kE, kE1, chE, chO, lS, isO, cE] at op he tm cl gc ⊢
     simp (maxSteps := 1000000) [p21_l0, p21_l0_d0, q1, q2, q3, g1, g2, g3, hi, hlen, hz, hk, hk4, her, her2, v57, op, v59, he, v60, tm, v58, cl, bne92, bne4c, d1, d2, d3, d4, frz152, frz137, frz171]
     exact loopX_gc (by simp) (by simpa using gc))
set_option maxHeartbeats 16000000 in
theorem cpOpenE (a : UInt8) (p h t : Int) (K : CV) (zs : List CV) (len : Nat) (i : Nat) (c : Cl) (z : AcH) (hlen : zs.length = len) (hi : i < len) (hm : True) (h100 : i ≤ 100) (hz : nthC zs i = z.cv) (ok : z.x.Ok)
    (hk4 : ((z.k.toNat : Int).tmod 6 == 4) = false) (hk : ((z.k.toNat : Int).tmod 6 == 5) = true) (p1 : ¬ p < 1) (p2 : ¬ 4294967296 < p) (q1 : 1 ≤ z.x.h) (q2 : z.x.h ≤ 1099511627776) (q3 : z.x.t ≤ 1099511627776) :
    ∃ L, loopX 0 (p21_l0 true (callX (cfg true) An) 0) (lS a p K (.sl 132 zs) len h t (isO c) (.c .nilsl) i) (kE a p h t c) = loopX 0 (p21_l0 true (callX (cfg true) An) 0) (lS a p K (.sl 132 zs) len h t true (.c .nilsl) ((i + 1 : Nat) : Int)) (kE a p h t (some (p, L))) := by
  have g1 : (i : Int) < (len : Int) := by omega
  have g2 : ¬ (100 : Int) < (i : Int) := by omega
  have g3 : iAdd .i64 (i : Int) 1 = ((i + 1 : Nat) : Int) := by unfold iAdd; rw [i64_small (by omega) (by omega)]; omega
  have d1 := len32 ok.root
  have d2 := len32 ok.vals
  have d3 := len32 ok.next
  have d4 := len32 ok.sl
  have sc := seal_call true z.x ok
  have ds := len32 z.x.sealW_len
  generalize z.x.sealW = sw at sc ds
  have oc : ∀ H, callX (cfg true) An 110 [.c (hdC z.x.h z.x.t z.x.root z.x.vals z.x.next z.x.sl)] H = _ := callX_pure (of_fn true z.x.h z.x.t z.x.root z.x.vals z.x.next z.x.sl sw d4 d2 d3 d1 ds sc) rfl rfl (prim_none (by decide))
  have nw := cnew_fn true p z.x.h z.x.t z.x.root z.x.vals z.x.next z.x.sl sw d4 d2 d3 d1 ds p1 p2 (by omega) (by omega) (by omega) oc
  have op := openE true a p h t z.x.h z.x.t z.x.root z.x.vals z.x.next z.x.sl d4 d2 d3 d1 _ c nw
  have la := latest_fn true p [stC z.x.h z.x.t z.x.root z.x.next sw] 0 rfl (by decide) z.x.h z.x.t z.x.root z.x.next sw ds d3 d1 rfl
  refine ⟨[stC z.x.h z.x.t z.x.root z.x.next sw], ?_⟩
  generalize [stC z.x.h z.x.t z.x.root z.x.next sw] = L at *
  have he := heightE true a p h t (some (p, L))
  have tm := timeE true a p h t (some (p, L))
  have cl := clientE true a p h t (some (p, L))
  have gc := gcE a p h t K (.sl 132 zs) len h t true ((i + 1 : Nat) : Int) (some (p, L))
  rw [loopX_eq]
  simp only [AcH.cv, HdrL.cv] at hz
  simp only [hdC] at op
  simp only [clH] at la
  cases c with
  | none =>
    simp only [kE, kE1, chE, chO, lS, isO, cE] at op he tm cl gc ⊢
    simp (maxSteps := 1000000) [p21_l0, p21_l0_d0, q1, q2, q3, g1, g2, g3, hi, hlen, hz, hk, hk4, v57, op, v59, he, v60, tm, v58, cl, v73, la, bne92, bne4c, d1, d2, d3, d4, frz152, frz137, frz171]
    exact loopX_gc (by simp) (by simpa using gc)
  | some c =>
    simp only [kE, kE1, chE, chO, lS, isO, cE] at op he tm cl gc ⊢
    simp (maxSteps := 1000000) [p21_l0, p21_l0_d0, q1, q2, q3, g1, g2, g3, hi, hlen, hz, hk, hk4, v57, op, v59, he, v60, tm, v58, cl, v73, la, bne92, bne4c, d1, d2, d3, d4, frz152, frz137, frz171]
    exact loopX_gc (by simp) (by simpa using gc)
set_option maxHeartbeats 16000000 in
theorem cpBadH (a : UInt8) (p h t : Int) (all hs : List CV) (f : Int) (ts : List CV) (K : CV) (zs : List CV) (len : Nat) (i : Nat) (c : Cl) (z : AcH) (hlen : zs.length = len) (hi : i < len) (hm : True) (h100 : i ≤ 100) (hz : nthC zs i = z.cv) (ok : z.x.Ok)
    (hk4 : ((z.k.toNat : Int).tmod 6 == 4) = false) (hk : ((z.k.toNat : Int).tmod 6 == 5) = true) (p1 : ¬ p < 1) (p2 : ¬ 4294967296 < p) (r : Bool) (hr : (decide (1 ≤ z.x.h) && (decide (z.x.h ≤ 1099511627776) && decide (z.x.t ≤ 1099511627776))) = false) :
    loopX 0 (p21_l0 true (callX (cfg true) An) 0) (lS a p K (.sl 132 zs) len h t (isO c) (.os 1) i) (lH a p h t all hs f ts c) = loopX 0 (p21_l0 true (callX (cfg true) An) 0) (lS a p K (.sl 132 zs) len h t (isO c) (.os 1) ((i + 1 : Nat) : Int)) (lH a p h t all hs f ts c) := by
  have g1 : (i : Int) < (len : Int) := by omega
  have g2 : ¬ (100 : Int) < (i : Int) := by omega
  have g3 : iAdd .i64 (i : Int) 1 = ((i + 1 : Nat) : Int) := by unfold iAdd; rw [i64_small (by omega) (by omega)]; omega
  have d1 := len32 ok.root
  have d2 := len32 ok.vals
  have d3 := len32 ok.next
  have d4 := len32 ok.sl
  obtain ⟨er, her, nw⟩ := cnew_bad true p z.x.h z.x.t z.x.root z.x.vals z.x.next z.x.sl d4 d2 d3 d1 p1 p2 (by
    simp only [Bool.and_eq_false_iff, decide_eq_false_iff_not] at hr
    omega)
  have op := openHn true a p h t z.x.h z.x.t hs f ts z.x.root z.x.vals z.x.next z.x.sl d4 d2 d3 d1 er her c nw
  have he := heightH true a p h t hs f ts c
  have tm := timeH true a p h t hs f ts c
  have cl := clientH true a p h t hs f ts c
  have her2 : (er == 0) = false := by simpa using her
  have gc := gcH a p h t K (.sl 132 zs) len h t (isO c) ((i + 1 : Nat) : Int) all hs f ts c
  rw [loopX_eq]
  simp only [AcH.cv, HdrL.cv] at hz
  simp only [hdC] at op
  have fin : ∀ (x y w : Bool), (x && (y && w)) = false → (x = true ∧ y = true ∧ w = true → False) := by decide
  by_cases q1 : 1 ≤ z.x.h <;> by_cases q2 : z.x.h ≤ 1099511627776 <;> by_cases q3 : z.x.t ≤ 1099511627776 <;> cases c <;>
  first
  | (exfalso; simp [q1, q2, q3] at hr; done)
  | (simp only [kH, kH1, chH, chK, lH, lS, isO, cH] at op he tm cl gc ⊢
     simp (maxSteps := 1000000) [p21_l0, p21_l0_d0, q1, q2, q3, g1, g2, g3, hi, hlen, hz, hk, hk4, her, her2, v57, op, v59, he, v60, tm, v58, cl, bne92, bne4c, d1, d2, d3, d4, frz152, frz137, frz171]
     exact loopX_gc (by simp) (by simpa using gc))
set_option maxHeartbeats 16000000 in
theorem cpOpenH (a : UInt8) (p h t : Int) (all hs : List CV) (f : Int) (ts : List CV) (K : CV) (zs : List CV) (len : Nat) (i : Nat) (c : Cl) (z : AcH) (hlen : zs.length = len) (hi : i < len) (hm : True) (h100 : i ≤ 100) (hz : nthC zs i = z.cv) (ok : z.x.Ok)
    (hk4 : ((z.k.toNat : Int).tmod 6 == 4) = false) (hk : ((z.k.toNat : Int).tmod 6 == 5) = true) (p1 : ¬ p < 1) (p2 : ¬ 4294967296 < p) (q1 : 1 ≤ z.x.h) (q2 : z.x.h ≤ 1099511627776) (q3 : z.x.t ≤ 1099511627776) :
    ∃ L, loopX 0 (p21_l0 true (callX (cfg true) An) 0) (lS a p K (.sl 132 zs) len h t (isO c) (.os 1) i) (lH a p h t all hs f ts c) = loopX 0 (p21_l0 true (callX (cfg true) An) 0) (lS a p K (.sl 132 zs) len h t true (.os 1) ((i + 1 : Nat) : Int)) (lH a p h t all hs f ts (some (p, L))) := by
  have g1 : (i : Int) < (len : Int) := by omega
  have g2 : ¬ (100 : Int) < (i : Int) := by omega
  have g3 : iAdd .i64 (i : Int) 1 = ((i + 1 : Nat) : Int) := by unfold iAdd; rw [i64_small (by omega) (by omega)]; omega
  have d1 := len32 ok.root
  have d2 := len32 ok.vals
  have d3 := len32 ok.next
  have d4 := len32 ok.sl
  have sc := seal_call true z.x ok
  have ds := len32 z.x.sealW_len
  generalize z.x.sealW = sw at sc ds
  have oc : ∀ H, callX (cfg true) An 110 [.c (hdC z.x.h z.x.t z.x.root z.x.vals z.x.next z.x.sl)] H = _ := callX_pure (of_fn true z.x.h z.x.t z.x.root z.x.vals z.x.next z.x.sl sw d4 d2 d3 d1 ds sc) rfl rfl (prim_none (by decide))
  have nw := cnew_fn true p z.x.h z.x.t z.x.root z.x.vals z.x.next z.x.sl sw d4 d2 d3 d1 ds p1 p2 (by omega) (by omega) (by omega) oc
  have op := openH true a p h t z.x.h z.x.t hs f ts z.x.root z.x.vals z.x.next z.x.sl d4 d2 d3 d1 _ c nw
  have la := latest_fn true p [stC z.x.h z.x.t z.x.root z.x.next sw] 0 rfl (by decide) z.x.h z.x.t z.x.root z.x.next sw ds d3 d1 rfl
  refine ⟨[stC z.x.h z.x.t z.x.root z.x.next sw], ?_⟩
  generalize [stC z.x.h z.x.t z.x.root z.x.next sw] = L at *
  have he := heightH true a p h t hs f ts (some (p, L))
  have tm := timeH true a p h t hs f ts (some (p, L))
  have cl := clientH true a p h t hs f ts (some (p, L))
  have gc := gcH a p h t K (.sl 132 zs) len h t true ((i + 1 : Nat) : Int) all hs f ts (some (p, L))
  rw [loopX_eq]
  simp only [AcH.cv, HdrL.cv] at hz
  simp only [hdC] at op
  simp only [clH] at la
  cases c with
  | none =>
    simp only [kH, kH1, chH, chK, lH, lS, isO, cH] at op he tm cl gc ⊢
    simp (maxSteps := 1000000) [p21_l0, p21_l0_d0, q1, q2, q3, g1, g2, g3, hi, hlen, hz, hk, hk4, v57, op, v59, he, v60, tm, v58, cl, v73, la, bne92, bne4c, d1, d2, d3, d4, frz152, frz137, frz171]
    exact loopX_gc (by simp) (by simpa using gc)
  | some c =>
    simp only [kH, kH1, chH, chK, lH, lS, isO, cH] at op he tm cl gc ⊢
    simp (maxSteps := 1000000) [p21_l0, p21_l0_d0, q1, q2, q3, g1, g2, g3, hi, hlen, hz, hk, hk4, v57, op, v59, he, v60, tm, v58, cl, v73, la, bne92, bne4c, d1, d2, d3, d4, frz152, frz137, frz171]
    exact loopX_gc (by simp) (by simpa using gc)
end Go.Fm
/-
  Law 21, ChainPlays: a turn of the loop that ends a block.
-/
set_option maxRecDepth 100000
set_option linter.unusedVariables false
set_option linter.unusedSimpArgs false
namespace Go.Fm
open Go Go.Proofs
theorem ne80z {b lit : Bool} {H : Heap} : mBin (cfg b) 80 lit .neq (.c hdZ1) (.c hdZ1) H = some (.c (.bool false), H) := by
  have := ne80 (b := b) (lit := lit) (H := H) 0 0 zero32 zero32 zero32 zero32
  have e : hdC 0 0 zero32 zero32 zero32 zero32 = hdZ1 := by
    have hz : dI zero32 = List.replicate 32 0 := by decide
    simp only [hdC, hdZ1, hz]
  rwa [e] at this
/-! CF -/
set_option maxHeartbeats 16000000 in
theorem cpNoE (a : UInt8) (p h t : Int) (K : CV) (zs : List CV) (len : Nat) (i : Nat) (c : Cl) (z : AcH) (hlen : zs.length = len) (hi : i < len) (hm : True) (h100 : i ≤ 100) (hz : nthC zs i = z.cv) (ok : z.x.Ok)
    (hk4 : ((z.k.toNat : Int).tmod 6 == 4) = false) (hk : ((z.k.toNat : Int).tmod 6 == 5) = false) (m : Int) (m0 : Int) (hm0 : z.n.tmod 20 = m0) (hm1 : IntKind.i64.wrap m0 = m) (T L : CV) (hT : ptrEq (.c T) (.c .nilp) = some false)
    (gr : ∀ H, callX (cfg true) An 39 [.c K, .c (.int .i64 m)] H = some (.tup [.c T, .c L], H)) (hh : ¬ (1099511627776 ≤ h)) (ht : 1099511627776 ≤ t) :
    loopX 0 (p21_l0 true (callX (cfg true) An) 0) (lS a p K (.sl 132 zs) len h t (isO c) (.c .nilsl) i) (kE a p h t c) = loopX 0 (p21_l0 true (callX (cfg true) An) 0) (lS a p K (.sl 132 zs) len h t (isO c) (.c .nilsl) ((i + 1 : Nat) : Int)) (kE a p h t c) := by
  have g1 : (i : Int) < (len : Int) := by omega
  have g2 : ¬ (100 : Int) < (i : Int) := by omega
  have g3 : iAdd .i64 (i : Int) 1 = ((i + 1 : Nat) : Int) := by unfold iAdd; rw [i64_small (by omega) (by omega)]; omega
  have d1 := len32 ok.root
  have d2 := len32 ok.vals
  have d3 := len32 ok.next
  have d4 := len32 ok.sl
  have en := endE_no true a p h t hh ht T hT c
  have he := heightE true a p h t c
  have tm := timeE true a p h t c
  have cl := clientE true a p h t c
  have nz := fun lit H => ne80z (b := true) (lit := lit) (H := H)
  have gc := gcE a p h t K (.sl 132 zs) len h t (isO c) ((i + 1 : Nat) : Int) c
  rw [loopX_eq]
  simp only [AcH.cv, HdrL.cv] at hz
  simp only [hdZ1, List.reduceReplicate] at en nz
  cases c with
  | none =>
    simp only [kE, kE2, chE, chO, kH, chH, chK, lH, lS, isO, cE] at en he tm cl gc ⊢
    simp (maxSteps := 1000000) [p21_l0, g1, g2, g3, hi, hlen, hz, hk, hk4, hm0, hm1, gr, v52, en, ht, nz, v59, he, v60, tm, v58, cl, bne92, bne4c, d1, d2, d3, d4, frz152, frz137, frz171]
    exact loopX_gc (by simp) (by simpa using gc)
  | some c =>
    simp only [kE, kE2, chE, chO, kH, chH, chK, lH, lS, isO, cE] at en he tm cl gc ⊢
    simp (maxSteps := 1000000) [p21_l0, g1, g2, g3, hi, hlen, hz, hk, hk4, hm0, hm1, gr, v52, en, ht, nz, v59, he, v60, tm, v58, cl, bne92, bne4c, d1, d2, d3, d4, frz152, frz137, frz171]
    exact loopX_gc (by simp) (by simpa using gc)
set_option maxHeartbeats 64000000 in
theorem cpEndE (a : UInt8) (p h t : Int) (K : CV) (zs : List CV) (len : Nat) (i : Nat) (c : Cl) (z : AcH) (hlen : zs.length = len) (hi : i < len) (hm : True) (h100 : i ≤ 100) (hz : nthC zs i = z.cv) (ok : z.x.Ok)
    (hk4 : ((z.k.toNat : Int).tmod 6 == 4) = false) (hk : ((z.k.toNat : Int).tmod 6 == 5) = false) (m : Int) (m0 : Int) (hm0 : z.n.tmod 20 = m0) (hm1 : IntKind.i64.wrap m0 = m) (T LL : CV)
    (gr : ∀ H, callX (cfg true) An 39 [.c K, .c (.int .i64 m)] H = some (.tup [.c T, .c LL], H)) (ht : ¬ 1099511627776 ≤ t) (h1 h2 t1 : Int) (e1 : iAdd .u64 h 1 = h1) (e2 : iAdd .u64 h1 1 = h2) (e3 : iAdd .u64 t 1 = t1)
    (R v1 v2 sw : List UInt8) (l0 : (dI sw).length = 32) (l1 : (dI v1).length = 32) (l2 : (dI v2).length = 32) (l3 : (dI R).length = 32)
    (en : fnX (cfg true) An 52 [.ov 0 [] 0, .c T] (kE a p h t c) = some (.tup [.c (hdC h1 t1 R v1 v2 sw), .c (.int .i64 0)], kE2 a p h1 t1 [hdC h1 t1 R v1 v2 sw] [T] c))
    (rc : ∀ H, callX (cfg true) An 37 [.c T] H = some (.c (.arr 32 .u8 (dI R)), H))
    (vc1 : ∀ H, callX (cfg true) An 82 [.c (.int .u8 (a.toNat : Int)), .c (.int .u64 h1)] H = some (.c (.arr 32 .u8 (dI v1)), H))
    (vc2 : ∀ H, callX (cfg true) An 82 [.c (.int .u8 (a.toNat : Int)), .c (.int .u64 h2)] H = some (.c (.arr 32 .u8 (dI v2)), H))
    (sc : ∀ H, callX (cfg true) An 83 [.c (.agg [.int .u64 h1, .int .u64 t1, .arr 32 .u8 (dI R), .arr 32 .u8 (dI v1), .arr 32 .u8 (dI v2), .arr 32 .u8 (List.replicate 32 0)])] H = some (.c (.arr 32 .u8 (dI sw)), H)) :
    loopX 0 (p21_l0 true (callX (cfg true) An) 0) (lS a p K (.sl 132 zs) len h t (isO c) (.c .nilsl) i) (kE a p h t c) = loopX 0 (p21_l0 true (callX (cfg true) An) 0) (lS a p K (.sl 132 zs) len h1 t1 (isO c) (.os 1) ((i + 1 : Nat) : Int)) (lH a p h1 t1 [hdC h1 t1 R v1 v2 sw] [hdC h1 t1 R v1 v2 sw] 1 [T] c) := by
  have g1 : (i : Int) < (len : Int) := by omega
  have g2 : ¬ (100 : Int) < (i : Int) := by omega
  have g3 : iAdd .i64 (i : Int) 1 = ((i + 1 : Nat) : Int) := by unfold iAdd; rw [i64_small (by omega) (by omega)]; omega
  have d1 := len32 ok.root
  have d2 := len32 ok.vals
  have d3 := len32 ok.next
  have d4 := len32 ok.sl
  have he := heightH true a p h1 t1 [hdC h1 t1 R v1 v2 sw] 1 [T] c
  have tm := timeH true a p h1 t1 [hdC h1 t1 R v1 v2 sw] 1 [T] c
  have cl := clientH true a p h1 t1 [hdC h1 t1 R v1 v2 sw] 1 [T] c
  have nz := fun lit H => ne80 (b := true) (lit := lit) (H := H) h1 t1 R v1 v2 sw
  have m1 : 1 ≤ maxLen := big_max (by decide)
  have gc := gcH a p h1 t1 K (.sl 132 zs) len h1 t1 (isO c) ((i + 1 : Nat) : Int) [hdC h1 t1 R v1 v2 sw] [hdC h1 t1 R v1 v2 sw] 1 [T] c
  rw [loopX_eq]
  simp only [AcH.cv, HdrL.cv] at hz
  simp only [hdC] at en nz gc he tm cl ⊢
  simp only [List.reduceReplicate] at sc
  cases c with
  | none =>
    simp only [kE, kE2, chE, chO, kH, chH, chK, lH, lS, isO, cH] at en he tm cl gc ⊢
    simp (maxSteps := 1000000) [p21_l0, g1, g2, g3, hi, hlen, hz, hk, hk4, hm0, hm1, gr, v52, en, ht, e1, e2, e3, rc, vc1, vc2, sc, nz, m1, v59, he, v60, tm, v58, cl, bne92, bne4c, d1, d2, d3, d4, l0, l1, l2, l3, frz80, frz152, frz137, frz171]
    exact loopX_gc (by simp) (by simpa using gc)
  | some c =>
    simp only [kE, kE2, chE, chO, kH, chH, chK, lH, lS, isO, cH] at en he tm cl gc ⊢
    simp (maxSteps := 1000000) [p21_l0, g1, g2, g3, hi, hlen, hz, hk, hk4, hm0, hm1, gr, v52, en, ht, e1, e2, e3, rc, vc1, vc2, sc, nz, m1, v59, he, v60, tm, v58, cl, bne92, bne4c, d1, d2, d3, d4, l0, l1, l2, l3, frz80, frz152, frz137, frz171]
    exact loopX_gc (by simp) (by simpa using gc)
set_option maxHeartbeats 16000000 in
theorem cpNoH (a : UInt8) (p h t : Int) (all hs : List CV) (f : Int) (ts : List CV) (K : CV) (zs : List CV) (len : Nat) (i : Nat) (c : Cl) (z : AcH) (hlen : zs.length = len) (hi : i < len) (hm : True) (h100 : i ≤ 100) (hz : nthC zs i = z.cv) (ok : z.x.Ok)
    (hk4 : ((z.k.toNat : Int).tmod 6 == 4) = false) (hk : ((z.k.toNat : Int).tmod 6 == 5) = false) (m : Int) (m0 : Int) (hm0 : z.n.tmod 20 = m0) (hm1 : IntKind.i64.wrap m0 = m) (T L : CV) (hT : ptrEq (.c T) (.c .nilp) = some false)
    (gr : ∀ H, callX (cfg true) An 39 [.c K, .c (.int .i64 m)] H = some (.tup [.c T, .c L], H)) (hh : ¬ (1099511627776 ≤ h)) (ht : 1099511627776 ≤ t) :
    loopX 0 (p21_l0 true (callX (cfg true) An) 0) (lS a p K (.sl 132 zs) len h t (isO c) (.os 1) i) (lH a p h t all hs f ts c) = loopX 0 (p21_l0 true (callX (cfg true) An) 0) (lS a p K (.sl 132 zs) len h t (isO c) (.os 1) ((i + 1 : Nat) : Int)) (lH a p h t all hs f ts c) := by
  have g1 : (i : Int) < (len : Int) := by omega
  have g2 : ¬ (100 : Int) < (i : Int) := by omega
  have g3 : iAdd .i64 (i : Int) 1 = ((i + 1 : Nat) : Int) := by unfold iAdd; rw [i64_small (by omega) (by omega)]; omega
  have d1 := len32 ok.root
  have d2 := len32 ok.vals
  have d3 := len32 ok.next
  have d4 := len32 ok.sl
  have en := endH_no true a p h t hs f ts hh ht T hT c
  have he := heightH true a p h t hs f ts c
  have tm := timeH true a p h t hs f ts c
  have cl := clientH true a p h t hs f ts c
  have nz := fun lit H => ne80z (b := true) (lit := lit) (H := H)
  have gc := gcH a p h t K (.sl 132 zs) len h t (isO c) ((i + 1 : Nat) : Int) all hs f ts c
  rw [loopX_eq]
  simp only [AcH.cv, HdrL.cv] at hz
  simp only [hdZ1, List.reduceReplicate] at en nz
  cases c with
  | none =>
    simp only [kH, kH2, chH, chK, chD, lH, lS, isO, cH] at en he tm cl gc ⊢
    simp (maxSteps := 1000000) [p21_l0, g1, g2, g3, hi, hlen, hz, hk, hk4, hm0, hm1, gr, v52, en, ht, nz, v59, he, v60, tm, v58, cl, bne92, bne4c, d1, d2, d3, d4, frz152, frz137, frz171]
    exact loopX_gc (by simp) (by simpa using gc)
  | some c =>
    simp only [kH, kH2, chH, chK, chD, lH, lS, isO, cH] at en he tm cl gc ⊢
    simp (maxSteps := 1000000) [p21_l0, g1, g2, g3, hi, hlen, hz, hk, hk4, hm0, hm1, gr, v52, en, ht, nz, v59, he, v60, tm, v58, cl, bne92, bne4c, d1, d2, d3, d4, frz152, frz137, frz171]
    exact loopX_gc (by simp) (by simpa using gc)
set_option maxHeartbeats 64000000 in
theorem cpEndH (a : UInt8) (p h t : Int) (all hs : List CV) (f : Int) (ts : List CV) (K : CV) (zs : List CV) (len : Nat) (i : Nat) (c : Cl) (z : AcH) (hlen : zs.length = len) (hi : i < len) (hm : True) (h100 : i ≤ 100) (hz : nthC zs i = z.cv) (ok : z.x.Ok)
    (hk4 : ((z.k.toNat : Int).tmod 6 == 4) = false) (hk : ((z.k.toNat : Int).tmod 6 == 5) = false) (m : Int) (m0 : Int) (hm0 : z.n.tmod 20 = m0) (hm1 : IntKind.i64.wrap m0 = m) (T LL : CV)
    (gr : ∀ H, callX (cfg true) An 39 [.c K, .c (.int .i64 m)] H = some (.tup [.c T, .c LL], H)) (ht : ¬ 1099511627776 ≤ t) (h1 h2 t1 : Int) (e1 : iAdd .u64 h 1 = h1) (e2 : iAdd .u64 h1 1 = h2) (e3 : iAdd .u64 t 1 = t1)
    (R v1 v2 sw : List UInt8) (l0 : (dI sw).length = 32) (l1 : (dI v1).length = 32) (l2 : (dI v2).length = 32) (l3 : (dI R).length = 32) (hs1 : List CV) (f1 : Int) (ts1 : List CV) (hal : all.length < 1000)
    (en : fnX (cfg true) An 52 [.ov 0 [] 0, .c T] (kH a p h t hs f ts c) = some (.tup [.c (hdC h1 t1 R v1 v2 sw), .c (.int .i64 0)], kH2 a p h1 t1 hs1 f1 ts1 c))
    (rc : ∀ H, callX (cfg true) An 37 [.c T] H = some (.c (.arr 32 .u8 (dI R)), H))
    (vc1 : ∀ H, callX (cfg true) An 82 [.c (.int .u8 (a.toNat : Int)), .c (.int .u64 h1)] H = some (.c (.arr 32 .u8 (dI v1)), H))
    (vc2 : ∀ H, callX (cfg true) An 82 [.c (.int .u8 (a.toNat : Int)), .c (.int .u64 h2)] H = some (.c (.arr 32 .u8 (dI v2)), H))
    (sc : ∀ H, callX (cfg true) An 83 [.c (.agg [.int .u64 h1, .int .u64 t1, .arr 32 .u8 (dI R), .arr 32 .u8 (dI v1), .arr 32 .u8 (dI v2), .arr 32 .u8 (List.replicate 32 0)])] H = some (.c (.arr 32 .u8 (dI sw)), H)) :
    loopX 0 (p21_l0 true (callX (cfg true) An) 0) (lS a p K (.sl 132 zs) len h t (isO c) (.os 1) i) (lH a p h t all hs f ts c) = loopX 0 (p21_l0 true (callX (cfg true) An) 0) (lS a p K (.sl 132 zs) len h1 t1 (isO c) (.os 1) ((i + 1 : Nat) : Int)) (lH a p h1 t1 (all ++ [hdC h1 t1 R v1 v2 sw]) hs1 f1 ts1 c) := by
  have g1 : (i : Int) < (len : Int) := by omega
  have g2 : ¬ (100 : Int) < (i : Int) := by omega
  have g3 : iAdd .i64 (i : Int) 1 = ((i + 1 : Nat) : Int) := by unfold iAdd; rw [i64_small (by omega) (by omega)]; omega
  have d1 := len32 ok.root
  have d2 := len32 ok.vals
  have d3 := len32 ok.next
  have d4 := len32 ok.sl
  have m2 : all.length + 1 ≤ maxLen := big_max (by omega)
  have m3 : (all.length + 1) * 144 ≤ 140737488355328 := by omega
  have he := heightH true a p h1 t1 hs1 f1 ts1 c
  have tm := timeH true a p h1 t1 hs1 f1 ts1 c
  have cl := clientH true a p h1 t1 hs1 f1 ts1 c
  have nz := fun lit H => ne80 (b := true) (lit := lit) (H := H) h1 t1 R v1 v2 sw
  have m1 : 1 ≤ maxLen := big_max (by decide)
  have gc := gcH a p h1 t1 K (.sl 132 zs) len h1 t1 (isO c) ((i + 1 : Nat) : Int) (all ++ [hdC h1 t1 R v1 v2 sw]) hs1 f1 ts1 c
  rw [loopX_eq]
  simp only [AcH.cv, HdrL.cv] at hz
  simp only [hdC] at en nz gc he tm cl ⊢
  simp only [List.reduceReplicate] at sc
  cases c with
  | none =>
    simp only [kH, kH2, chH, chK, chD, lH, lS, isO, cH] at en he tm cl gc ⊢
    simp (maxSteps := 1000000) [p21_l0, g1, g2, g3, hi, hlen, hz, hk, hk4, hm0, hm1, gr, v52, en, ht, e1, e2, e3, rc, vc1, vc2, sc, nz, m1, m2, m3, v59, he, v60, tm, v58, cl, bne92, bne4c, d1, d2, d3, d4, l0, l1, l2, l3, frz80, frz152, frz137, frz171]
    exact loopX_gc (by simp) (by simpa using gc)
  | some c =>
    simp only [kH, kH2, chH, chK, chD, lH, lS, isO, cH] at en he tm cl gc ⊢
    simp (maxSteps := 1000000) [p21_l0, g1, g2, g3, hi, hlen, hz, hk, hk4, hm0, hm1, gr, v52, en, ht, e1, e2, e3, rc, vc1, vc2, sc, nz, m1, m2, m3, v59, he, v60, tm, v58, cl, bne92, bne4c, d1, d2, d3, d4, l0, l1, l2, l3, frz80, frz152, frz137, frz171]
    exact loopX_gc (by simp) (by simpa using gc)
end Go.Fm
/-
  Law 21, ChainPlays: the loop over heights.
-/
set_option maxRecDepth 100000
set_option linter.unusedVariables false
set_option linter.unusedSimpArgs false
namespace Go.Fm
open Go Go.Proofs
section
variable {b lit : Bool} {x y : AV} {H : Heap}
end
def mS (a : UInt8) (p h : Int) (hd : AV) (top x : Int) : List AV := [.c (.int .u8 (a.toNat : Int)), .c (.int .u64 p), .ov 0 [] 0, .c (.int .i64 0), .c (.int .u64 h), hd, .c (.int .u64 top), .c (.int .u64 x)]
theorem gcmE (a : UInt8) (p h t : Int) (h' top x : Int) (c : Cl) : gcL 0 (mS a p h' (.c .nilsl) top x) (kE a p h t c) = some (mS a p h' (.c .nilsl) top x, kE a p h t c) := by
  cases c <;> simp [mS, kE, chE, chO]
theorem gcmH (a : UInt8) (p h t : Int) (h' top x : Int) (all hs : List CV) (f : Int) (ts : List CV) (c : Cl) : gcL 0 (mS a p h' (.os 1) top x) (lH a p h t all hs f ts c) = some (mS a p h' (.os 1) top x, lH a p h t all hs f ts c) := by
  cases c <;> simp [mS, lH]
/-! CF -/
set_option maxHeartbeats 64000000 in
theorem m_stepE (a : UInt8) (p h t : Int) (top : Int) (x : Nat) (c : Cl) (hx : (x : Int) < top) (hxm : x < 1000) (q : ¬ (1 ≤ (x : Int) ∧ (x : Int) ≤ h)) :
    loopX 0 (p21_l3 true (callX (cfg true) An) 0) (mS a p h (.c .nilsl) top x) (kE a p h t c) = loopX 0 (p21_l3 true (callX (cfg true) An) 0) (mS a p h (.c .nilsl) top ((x + 1 : Nat) : Int)) (kE a p h t c) := by
  have hd := headerE true a p h t c (x : Int)
  have tr := treeE true a p h t x c (by omega)
  have nz := fun lit H => ne80z (b := true) (lit := lit) (H := H)
  have g3 : iAdd .u64 (x : Int) 1 = ((x + 1 : Nat) : Int) := by unfold iAdd; rw [u64_small (by omega) (by omega)]; omega
  have gc := gcmE a p h t h top ((x + 1 : Nat) : Int) c
  rw [loopX_eq]
  simp only [hdZ1, List.reduceReplicate] at hd nz
  have q2 : (1 : Int) ≤ (x : Int) → ¬ (x : Int) ≤ h := fun h1 h2 => q ⟨h1, h2⟩
  by_cases q1 : (1 : Int) ≤ (x : Int)
  · have q2' := q2 q1
    cases c with
    | none =>
      simp only [kE, chE, mS] at hd tr gc ⊢
      simp (maxSteps := 1000000) [p21_l3, p21_l3_d0, hx, q1, q2', g3, v53, hd, v54, tr, nz, bne4c, bne28, frz80, frz152, frz137, frz171]
      exact loopX_gc (by simp) (by simpa using gc)
    | some c =>
      simp only [kE, chO, mS] at hd tr gc ⊢
      simp (maxSteps := 1000000) [p21_l3, p21_l3_d0, hx, q1, q2', g3, v53, hd, v54, tr, nz, bne4c, bne28, frz80, frz152, frz137, frz171]
      exact loopX_gc (by simp) (by simpa using gc)
  · cases c with
    | none =>
      simp only [kE, chE, mS] at hd tr gc ⊢
      simp (maxSteps := 1000000) [p21_l3, p21_l3_d0, hx, q1, g3, v53, hd, v54, tr, nz, bne4c, bne28, frz80, frz152, frz137, frz171]
      exact loopX_gc (by simp) (by simpa using gc)
    | some c =>
      simp only [kE, chO, mS] at hd tr gc ⊢
      simp (maxSteps := 1000000) [p21_l3, p21_l3_d0, hx, q1, g3, v53, hd, v54, tr, nz, bne4c, bne28, frz80, frz152, frz137, frz171]
      exact loopX_gc (by simp) (by simpa using gc)
set_option maxHeartbeats 64000000 in
theorem m_out (a : UInt8) (p h t : Int) (all hs : List CV) (f : Int) (ts : List CV) (top : Int) (x : Nat) (c : Cl) (x64 : Int) (hx : (x : Int) < top) (hxm : x < 1000) (e64 : iAdd .u64 (x : Int) 64 = x64) (q : ¬ (1 ≤ (x : Int) ∧ (x : Int) ≤ h ∧ h < x64))
    (hd : fnX (cfg true) An 53 [.ov 0 [] 0, .c (.int .u64 (x : Int))] (kH a p h t hs f ts c) = some (.tup [.c hdZ1, .c (.bool false)], kH a p h t hs f ts c))
    (tr : fnX (cfg true) An 54 [.ov 0 [] 0, .c (.int .u64 (x : Int))] (kH a p h t hs f ts c) = some (.tup [.c .nilp, .c (.bool false)], kH a p h t hs f ts c)) :
    loopX 0 (p21_l3 true (callX (cfg true) An) 0) (mS a p h (.os 1) top x) (lH a p h t all hs f ts c) = loopX 0 (p21_l3 true (callX (cfg true) An) 0) (mS a p h (.os 1) top ((x + 1 : Nat) : Int)) (lH a p h t all hs f ts c) := by
  have nz := fun lit H => ne80z (b := true) (lit := lit) (H := H)
  have g3 : iAdd .u64 (x : Int) 1 = ((x + 1 : Nat) : Int) := by unfold iAdd; rw [u64_small (by omega) (by omega)]; omega
  have gc := gcmH a p h t h top ((x + 1 : Nat) : Int) all hs f ts c
  rw [loopX_eq]
  simp only [hdZ1, List.reduceReplicate] at hd nz
  by_cases q1 : (1 : Int) ≤ (x : Int)
  · by_cases q2 : (x : Int) ≤ h
    · have q3 : ¬ h < x64 := fun h' => q ⟨q1, q2, h'⟩
      cases c with
      | none =>
        simp only [kH, lH, chH, mS] at hd tr gc ⊢
        simp (maxSteps := 1000000) [p21_l3, p21_l3_d0, hx, q1, q2, q3, e64, g3, v53, hd, v54, tr, nz, bne4c, bne28, frz80, frz152, frz137, frz171]
        exact loopX_gc (by simp) (by simpa using gc)
      | some c =>
        simp only [kH, lH, chK, mS] at hd tr gc ⊢
        simp (maxSteps := 1000000) [p21_l3, p21_l3_d0, hx, q1, q2, q3, e64, g3, v53, hd, v54, tr, nz, bne4c, bne28, frz80, frz152, frz137, frz171]
        exact loopX_gc (by simp) (by simpa using gc)
    · cases c with
      | none =>
        simp only [kH, lH, chH, mS] at hd tr gc ⊢
        simp (maxSteps := 1000000) [p21_l3, p21_l3_d0, hx, q1, q2, e64, g3, v53, hd, v54, tr, nz, bne4c, bne28, frz80, frz152, frz137, frz171]
        exact loopX_gc (by simp) (by simpa using gc)
      | some c =>
        simp only [kH, lH, chK, mS] at hd tr gc ⊢
        simp (maxSteps := 1000000) [p21_l3, p21_l3_d0, hx, q1, q2, e64, g3, v53, hd, v54, tr, nz, bne4c, bne28, frz80, frz152, frz137, frz171]
        exact loopX_gc (by simp) (by simpa using gc)
  · cases c with
    | none =>
      simp only [kH, lH, chH, mS] at hd tr gc ⊢
      simp (maxSteps := 1000000) [p21_l3, p21_l3_d0, hx, q1, e64, g3, v53, hd, v54, tr, nz, bne4c, bne28, frz80, frz152, frz137, frz171]
      exact loopX_gc (by simp) (by simpa using gc)
    | some c =>
      simp only [kH, lH, chK, mS] at hd tr gc ⊢
      simp (maxSteps := 1000000) [p21_l3, p21_l3_d0, hx, q1, e64, g3, v53, hd, v54, tr, nz, bne4c, bne28, frz80, frz152, frz137, frz171]
      exact loopX_gc (by simp) (by simpa using gc)
set_option maxHeartbeats 64000000 in
theorem m_in (a : UInt8) (p h t : Int) (all hs : List CV) (f : Int) (ts : List CV) (top : Int) (x k : Nat) (c : Cl) (x64 : Int) (hx : (x : Int) < top) (hxm : x < 1000) (e64 : iAdd .u64 (x : Int) 64 = x64) (q1 : 1 ≤ (x : Int)) (q2 : (x : Int) ≤ h) (q3 : h < x64)
    (T : CV) (hh tt : Int) (R v n s : List UInt8) (l0 : (dI s).length = 32) (l1 : (dI v).length = 32) (l2 : (dI n).length = 32) (l3 : (dI R).length = 32)
    (hd : fnX (cfg true) An 53 [.ov 0 [] 0, .c (.int .u64 (x : Int))] (kH a p h t hs f ts c) = some (.tup [.c (hdC hh tt R v n s), .c (.bool true)], kH a p h t hs f ts c))
    (tr : fnX (cfg true) An 54 [.ov 0 [] 0, .c (.int .u64 (x : Int))] (kH a p h t hs f ts c) = some (.tup [.c T, .c (.bool true)], kH a p h t hs f ts c))
    (rc : ∀ H, callX (cfg true) An 37 [.c T] H = some (.c (.arr 32 .u8 (dI R)), H)) (hk : x = k + 1) (hkl : k < all.length) (hn : nthC all k = hdC hh tt R v n s) :
    loopX 0 (p21_l3 true (callX (cfg true) An) 0) (mS a p h (.os 1) top x) (lH a p h t all hs f ts c) = loopX 0 (p21_l3 true (callX (cfg true) An) 0) (mS a p h (.os 1) top ((x + 1 : Nat) : Int)) (lH a p h t all hs f ts c) := by
  have nz := fun lit H => ne80 (b := true) (lit := lit) (H := H) hh tt R v n s
  have g3 : iAdd .u64 (x : Int) 1 = ((x + 1 : Nat) : Int) := by unfold iAdd; rw [u64_small (by omega) (by omega)]; omega
  have g4 : iSub .u64 (x : Int) 1 = (k : Int) := by unfold iSub; rw [u64_small (by omega) (by omega)]; omega
  have g5 : (k : Int) < (all.length : Int) := by omega
  have gc := gcmH a p h t h top ((x + 1 : Nat) : Int) all hs f ts c
  rw [loopX_eq]
  simp only [hdC] at hd nz hn
  cases c with
  | none =>
    simp only [kH, lH, chH, mS] at hd tr gc ⊢
    simp (maxSteps := 1000000) [p21_l3, p21_l3_d0, hx, q1, q2, q3, e64, g3, g4, g5, hkl, hn, v53, hd, v54, tr, rc, nz, l0, l1, l2, l3, be41, bne41, bne4c, bne28, frz80, frz152, frz137, frz171]
    exact loopX_gc (by simp) (by simpa using gc)
  | some c =>
    simp only [kH, lH, chK, mS] at hd tr gc ⊢
    simp (maxSteps := 1000000) [p21_l3, p21_l3_d0, hx, q1, q2, q3, e64, g3, g4, g5, hkl, hn, v53, hd, v54, tr, rc, nz, l0, l1, l2, l3, be41, bne41, bne4c, bne28, frz80, frz152, frz137, frz171]
    exact loopX_gc (by simp) (by simpa using gc)
end Go.Fm
/-
  Law 21, ChainPlays: the loops as wholes.
-/
set_option maxRecDepth 100000
set_option linter.unusedVariables false
set_option linter.unusedSimpArgs false
namespace Go.Fm
open Go Go.Proofs
abbrev Bl := List (Int × Option Tn)
def hdrAt (a : UInt8) (i : Nat) (x : Int × Option Tn) : CV := blkC a ((i + 1 : Nat) : Int) ((i + 2 : Nat) : Int) x.1 x.2
def allH (a : UInt8) (bs : Bl) : List CV := bs.mapIdx (hdrAt a)
def trs (bs : Bl) : List (Option Tn) := bs.map Prod.snd
def kp {α : Type} (l : List α) : List α := l.drop (l.length - 64)
theorem allH_len (a : UInt8) (bs : Bl) : (allH a bs).length = bs.length := by simp [allH]
theorem allH_app (a : UInt8) (bs : Bl) (x : Int × Option Tn) : allH a (bs ++ [x]) = allH a bs ++ [hdrAt a bs.length x] := by simp [allH, List.mapIdx_append]
theorem allH_nth (a : UInt8) (bs : Bl) (i : Nat) (h : i < bs.length) : nthC (allH a bs) i = hdrAt a i bs[i] := by
  simp [nthC, allH, List.getElem?_mapIdx, h]
theorem kp_len {α : Type} (l : List α) : (kp l).length = min l.length 64 := by simp [kp]; omega
theorem kp_nth (l : List CV) (i : Nat) : nthC (kp l) i = nthC l (l.length - 64 + i) := by simp [kp, nthC, List.getElem?_drop]
theorem kp_more {α : Type} (l : List α) (x : α) (h : l.length < 64) : kp (l ++ [x]) = kp l ++ [x] := by
  unfold kp
  have e1 : (l ++ [x]).length - 64 = 0 := by simp; omega
  have e2 : l.length - 64 = 0 := by omega
  rw [e1, e2]
  simp
theorem kp_drop {α : Type} (l : List α) (x : α) (h : 64 ≤ l.length) : kp (l ++ [x]) = (kp l ++ [x]).drop 1 := by
  unfold kp
  have e1 : (l ++ [x]).length - 64 = l.length - 64 + 1 := by simp; omega
  rw [e1, List.drop_append_of_le_length (by omega), List.drop_append_of_le_length (by simp; omega), List.drop_drop]
theorem blk_lens (a : UInt8) (h1 h2 t1 : Int) (t : Option Tn) : ∃ R v n s, blkC a h1 h2 t1 t = hdC h1 t1 R v n s ∧ R = Tn.hasho t ∧ (dI s).length = 32 ∧ (dI v).length = 32 ∧ (dI n).length = 32 ∧ (dI R).length = 32 :=
  ⟨_, _, _, _, rfl, rfl, len32 (HdrL.sealW_len _), len32 (shaW_len _), len32 (shaW_len _), len32 (hashoL t)⟩
theorem hdI_kp (a : UInt8) (bs : Bl) : HdI (kp (allH a bs)) (bs.length - 64) := by
  intro i hi
  rw [kp_len, allH_len] at hi
  have hj : bs.length - 64 + i < bs.length := by omega
  rw [kp_nth, allH_len, allH_nth a bs _ hj]
  obtain ⟨R, v, n, s, e, _, l0, l1, l2, l3⟩ := blk_lens a ((bs.length - 64 + i + 1 : Nat) : Int) ((bs.length - 64 + i + 2 : Nat) : Int) bs[bs.length - 64 + i].1 bs[bs.length - 64 + i].2
  exact ⟨_, R, v, n, s, e, l0, l1, l2, l3⟩
/-- What calls find of a block. -/
theorem end_facts (a : UInt8) (h1 h2 t1 : Int) (t : Option Tn) : ∃ (R v1 v2 sw : List UInt8), blkC a h1 h2 t1 t = hdC h1 t1 R v1 v2 sw ∧ R = Tn.hasho t ∧ (dI sw).length = 32 ∧ (dI v1).length = 32 ∧ (dI v2).length = 32 ∧ (dI R).length = 32 ∧
    (∀ H, callX (cfg true) An 33 [.c (.int .u8 (a.toNat : Int)), .c (.int .u64 h1)] H = some (.c (.arr 32 .u8 (dI v1)), H)) ∧
    (∀ H, callX (cfg true) An 33 [.c (.int .u8 (a.toNat : Int)), .c (.int .u64 h2)] H = some (.c (.arr 32 .u8 (dI v2)), H)) ∧
    (∀ H, callX (cfg true) An 82 [.c (.int .u8 (a.toNat : Int)), .c (.int .u64 h1)] H = some (.c (.arr 32 .u8 (dI v1)), H)) ∧
    (∀ H, callX (cfg true) An 82 [.c (.int .u8 (a.toNat : Int)), .c (.int .u64 h2)] H = some (.c (.arr 32 .u8 (dI v2)), H)) ∧
    (∀ H, callX (cfg true) An 98 [.c (.agg [.int .u64 h1, .int .u64 t1, .arr 32 .u8 (dI R), .arr 32 .u8 (dI v1), .arr 32 .u8 (dI v2), .arr 32 .u8 (List.replicate 32 0)])] H = some (.c (.arr 32 .u8 (dI sw)), H)) ∧
    (∀ H, callX (cfg true) An 83 [.c (.agg [.int .u64 h1, .int .u64 t1, .arr 32 .u8 (dI R), .arr 32 .u8 (dI v1), .arr 32 .u8 (dI v2), .arr 32 .u8 (List.replicate 32 0)])] H = some (.c (.arr 32 .u8 (dI sw)), H)) := by
  have sc := seal_call true _ (hd1_ok a h1 h2 t1 t)
  have sc2 := r01seal_call _ (hd1_ok a h1 h2 t1 t)
  have hz : dI zero32 = List.replicate 32 0 := by decide
  have hc : (hd1 a h1 h2 t1 (Tn.hasho t)).cv = .agg [.int .u64 h1, .int .u64 t1, .arr 32 .u8 (dI (Tn.hasho t)), .arr 32 .u8 (dI (shaW (valsB ++ a :: lenBytes h1))), .arr 32 .u8 (dI (shaW (valsB ++ a :: lenBytes h2))), .arr 32 .u8 (List.replicate 32 0)] := by simp only [HdrL.cv, hd1, hz]
  rw [hc] at sc sc2
  exact ⟨_, _, _, _, rfl, rfl, len32 (HdrL.sealW_len _), len32 (shaW_len _), len32 (shaW_len _), len32 (hashoL t), vals_call true a h1, vals_call true a h2, vals82_call a h1, vals82_call a h2, sc, sc2⟩
theorem u64_addn (n : Nat) (h : n < 100000) : iAdd .u64 (n : Int) 1 = ((n + 1 : Nat) : Int) := by
  unfold iAdd
  rw [u64_small (by omega) (by omega)]; omega
/-- A call's bounds. -/
def AcOk (z : AcH) : Prop := 0 ≤ z.n ∧ z.n < 18446744073709551616 ∧ z.x.Ok
/-- The state at the loop's head. -/
def hdA : Bl → AV
  | [] => .c .nilsl
  | _ :: _ => .os 1
def stH (a : UInt8) (p tm : Int) (bs : Bl) (c : Cl) : Heap := match bs with
  | [] => kE a p 0 tm c
  | _ :: _ => lH a p ((bs.length : Nat) : Int) tm (allH a bs) (kp (allH a bs)) ((bs.length - 64 + 1 : Nat) : Int) ((kp (trs bs)).map tC) c
theorem stH_ne (a : UInt8) (p tm : Int) (bs : Bl) (c : Cl) (h : bs ≠ []) : stH a p tm bs c = lH a p ((bs.length : Nat) : Int) tm (allH a bs) (kp (allH a bs)) ((bs.length - 64 + 1 : Nat) : Int) ((kp (trs bs)).map tC) c := by
  cases bs with
  | nil => exact absurd rfl h
  | cons _ _ => rfl
theorem hdA_ne (bs : Bl) (h : bs ≠ []) : hdA bs = .os 1 := by
  cases bs with
  | nil => exact absurd rfl h
  | cons _ _ => rfl
set_option maxHeartbeats 4000000 in
theorem cp_end (a : UInt8) (p : Int) (o : Option (List ActL)) (zs : List CV) (len i : Nat) (c : Cl) (z : AcH) (tm : Int) (bs : Bl) (hlen : zs.length = len) (hi : i < len) (hm : True) (h100 : i ≤ 100) (hz : nthC zs i = z.cv) (ok : AcOk z)
    (hk4 : ((z.k.toNat : Int).tmod 6 == 4) = false) (hk : ((z.k.toNat : Int).tmod 6 == 5) = false) (h0 : 0 ≤ tm) (h1 : tm ≤ 1099511627776) (hb : bs.length ≤ 200) :
    ∃ (tm' : Int) (bs' : Bl), 0 ≤ tm' ∧ tm' ≤ 1099511627776 ∧ bs'.length ≤ bs.length + 1 ∧
      loopX 0 (p21_l0 true (callX (cfg true) An) 0) (lS a p (actsC o) (.sl 132 zs) len ((bs.length : Nat) : Int) tm (isO c) (hdA bs) i) (stH a p tm bs c) =
        loopX 0 (p21_l0 true (callX (cfg true) An) 0) (lS a p (actsC o) (.sl 132 zs) len ((bs'.length : Nat) : Int) tm' (isO c) (hdA bs') ((i + 1 : Nat) : Int)) (stH a p tm' bs' c) := by
  obtain ⟨n0, n1, okx⟩ := ok
  obtain ⟨N, hN⟩ : ∃ N : Nat, z.n = (N : Int) := ⟨z.n.toNat, by omega⟩
  have hm0 : z.n.tmod 20 = ((N % 20 : Nat) : Int) := by rw [hN]; exact tmod_nat N 20
  have hm1 : IntKind.i64.wrap ((N % 20 : Nat) : Int) = ((N % 20 : Nat) : Int) := i64_small (by omega) (by omega)
  have gr := grow_call true (N % 20) (by omega) o
  obtain ⟨G, hG⟩ : ∃ G, G = grown (N % 20) o := ⟨_, rfl⟩
  rw [← hG] at gr
  obtain ⟨t, l⟩ := G
  simp only at gr
  clear hG
  by_cases ht : 1099511627776 ≤ tm
  · refine ⟨tm, bs, h0, h1, by omega, ?_⟩
    cases hbs : bs with
    | nil => exact cpNoE a p 0 tm _ zs len i c z hlen hi hm h100 hz okx hk4 hk _ _ hm0 hm1 (tC t) _ (ptrEqT t) gr (by decide) ht
    | cons x y =>
      rw [← hbs]
      have hne : bs ≠ [] := by rw [hbs]; simp
      rw [stH_ne _ _ _ _ _ hne, hdA_ne _ hne]
      exact cpNoH a p _ tm _ _ _ _ _ zs len i c z hlen hi hm h100 hz okx hk4 hk _ _ hm0 hm1 (tC t) _ (ptrEqT t) gr (by omega) ht
  · obtain ⟨R, v1, v2, sw, e, hR, l0, l1, l2, l3, vc1, vc2, wc1, wc2, sc, sc2⟩ := end_facts a ((bs.length + 1 : Nat) : Int) ((bs.length + 2 : Nat) : Int) (tm + 1) t
    have rc : ∀ H, callX (cfg true) An 37 [.c (tC t)] H = some (.c (.arr 32 .u8 (dI R)), H) := by rw [hR]; exact Root_call true t
    have a1 := u64_addn bs.length (by omega)
    have a2 := u64_addn (bs.length + 1) (by omega)
    have a3 : iAdd .u64 tm 1 = tm + 1 := by unfold iAdd; rw [u64_small (by omega) (by omega)]
    refine ⟨tm + 1, bs ++ [(tm + 1, t)], by omega, by omega, by simp, ?_⟩
    have hne2 : bs ++ [(tm + 1, t)] ≠ [] := by simp
    rw [stH_ne _ _ _ _ _ hne2, hdA_ne _ hne2, allH_app]
    have hx : hdrAt a bs.length (tm + 1, t) = hdC ((bs.length + 1 : Nat) : Int) (tm + 1) R v1 v2 sw := by unfold hdrAt; exact e
    rw [hx]
    have hl : (bs ++ [(tm + 1, t)]).length = bs.length + 1 := by simp
    rw [hl]
    have ht2 : trs (bs ++ [(tm + 1, t)]) = trs bs ++ [t] := by simp [trs]
    rw [ht2]
    have tl : (trs bs).length = bs.length := by simp [trs]
    cases hbs : bs with
    | nil =>
      subst hbs
      have cm := commit_first true 64 1 (.agg [Tn.pto t]) [] 0 (by decide)
      have en := endE_core true a p 0 tm 1 2 (tm + 1) (by decide) ht a1 a2 a3 (tC t) R v1 v2 sw l0 l1 l2 l3 _ c rc vc1 vc2 sc (ptrEqT t) cm
      exact cpEndE a p 0 tm _ zs len i c z hlen hi hm h100 hz okx hk4 hk _ _ hm0 hm1 (tC t) _ gr ht 1 2 (tm + 1) a1 a2 a3 R v1 v2 sw l0 l1 l2 l3 en rc wc1 wc2 sc2
    | cons x y =>
      rw [← hbs]
      have hne : bs ≠ [] := by rw [hbs]; simp
      rw [stH_ne _ _ _ _ _ hne, hdA_ne _ hne]
      have hal : (allH a bs).length < 1000 := by rw [allH_len]; omega
      have k1 : (kp (allH a bs)).length = min bs.length 64 := by rw [kp_len, allH_len]
      have k2 : ((kp (trs bs)).map tC).length = min bs.length 64 := by rw [List.length_map, kp_len, tl]
      by_cases h64 : bs.length < 64
      · have cm := commit_more true 64 ((bs.length - 64 + 1 : Nat) : Int) ((kp (trs bs)).map tC) (.agg [Tn.pto t]) [] 0 (by omega) (by omega)
        have en := endH_core1 true a p ((bs.length : Nat) : Int) tm _ _ (tm + 1) (by omega) ht a1 a2 a3 (tC t) R v1 v2 sw l0 l1 l2 l3 _ _ _ (kp (allH a bs)) _ _ (by omega) c rc vc1 vc2 sc (ptrEqT t) cm
        have step := cpEndH a p _ tm (allH a bs) _ _ _ _ zs len i c z hlen hi hm h100 hz okx hk4 hk _ _ hm0 hm1 (tC t) _ gr ht _ _ (tm + 1) a1 a2 a3 R v1 v2 sw l0 l1 l2 l3 _ _ _ hal en rc wc1 wc2 sc2
        rw [step, kp_more _ _ (by rw [allH_len]; exact h64), kp_more _ _ (by rw [tl]; exact h64)]
        have ef : bs.length + 1 - 64 + 1 = bs.length - 64 + 1 := by omega
        rw [ef, List.map_append]
        rfl
      · have cm := commit_drop true 64 ((bs.length - 64 + 1 : Nat) : Int) ((kp (trs bs)).map tC) (.agg [Tn.pto t]) [] 0 (by omega) (by omega)
        rw [u64_addn _ (by omega)] at cm
        have en := endH_core2 true a p ((bs.length : Nat) : Int) tm _ _ (tm + 1) (by omega) ht a1 a2 a3 (tC t) R v1 v2 sw l0 l1 l2 l3 _ _ _ (kp (allH a bs)) _ _ (by omega) c rc vc1 vc2 sc (ptrEqT t) cm
        have step := cpEndH a p _ tm (allH a bs) _ _ _ _ zs len i c z hlen hi hm h100 hz okx hk4 hk _ _ hm0 hm1 (tC t) _ gr ht _ _ (tm + 1) a1 a2 a3 R v1 v2 sw l0 l1 l2 l3 _ _ _ hal en rc wc1 wc2 sc2
        rw [step, kp_drop _ _ (by rw [allH_len]; omega), kp_drop _ _ (by rw [tl]; omega)]
        have ef : bs.length + 1 - 64 + 1 = bs.length - 64 + 1 + 1 := by omega
        rw [ef, List.map_drop, List.map_append]
        rfl
end Go.Fm
/-
  Law 21, ChainPlays, as a whole.
-/
set_option maxRecDepth 100000
set_option linter.unusedVariables false
set_option linter.unusedSimpArgs false
namespace Go.Fm
open Go Go.Proofs
set_option maxHeartbeats 4000000 in
theorem cp_step (a : UInt8) (p : Int) (p1 : ¬ p < 1) (p2 : ¬ 4294967296 < p) (o : Option (List ActL)) (zs : List CV) (len i : Nat) (c : Cl) (z : AcH) (tm : Int) (bs : Bl) (hlen : zs.length = len) (hi : i < len) (hm : True) (h100 : i ≤ 100) (hz : nthC zs i = z.cv) (ok : AcOk z)
    (h0 : 0 ≤ tm) (h1 : tm ≤ 1099511627776) (hb : bs.length ≤ 200) :
    ∃ (c' : Cl) (tm' : Int) (bs' : Bl), 0 ≤ tm' ∧ tm' ≤ 1099511627776 ∧ bs'.length ≤ bs.length + 1 ∧
      loopX 0 (p21_l0 true (callX (cfg true) An) 0) (lS a p (actsC o) (.sl 132 zs) len ((bs.length : Nat) : Int) tm (isO c) (hdA bs) i) (stH a p tm bs c) =
        loopX 0 (p21_l0 true (callX (cfg true) An) 0) (lS a p (actsC o) (.sl 132 zs) len ((bs'.length : Nat) : Int) tm' (isO c') (hdA bs') ((i + 1 : Nat) : Int)) (stH a p tm' bs' c') := by
  obtain ⟨n0, n1, okx⟩ := ok
  cases hk4 : ((z.k.toNat : Int).tmod 6 == 4) with
  | true =>
    have e1 : iSub .u64 1099511627776 tm = 1099511627776 - tm := by unfold iSub; rw [u64_small (by omega) (by omega)]
    have e2 : iAdd .u64 tm (if 1099511627776 - tm < z.n then 1099511627776 - tm else z.n) = tm + (if 1099511627776 - tm < z.n then 1099511627776 - tm else z.n) := by
      unfold iAdd
      split <;> rw [u64_small (by omega) (by omega)]
    refine ⟨c, tm + (if 1099511627776 - tm < z.n then 1099511627776 - tm else z.n), bs, by split <;> omega, by split <;> omega, by omega, ?_⟩
    cases hbs : bs with
    | nil => exact cpTickE a p 0 tm _ zs len i c z _ _ hlen hi hm h100 hz okx hk4 e1 e2
    | cons x y =>
      rw [← hbs]
      have hne : bs ≠ [] := by rw [hbs]; simp
      rw [stH_ne _ _ _ _ _ hne, stH_ne _ _ _ _ _ hne, hdA_ne _ hne]
      exact cpTickH a p _ tm _ _ _ _ _ zs len i c z _ _ hlen hi hm h100 hz okx hk4 e1 e2
  | false =>
    cases hk : ((z.k.toNat : Int).tmod 6 == 5) with
    | false =>
      obtain ⟨tm', bs', a1, a2, a3, e⟩ := cp_end a p o zs len i c z tm bs hlen hi hm h100 hz ⟨n0, n1, okx⟩ hk4 hk h0 h1 hb
      exact ⟨c, tm', bs', a1, a2, a3, e⟩
    | true =>
      cases hr : (decide (1 ≤ z.x.h) && (decide (z.x.h ≤ 1099511627776) && decide (z.x.t ≤ 1099511627776))) with
      | false =>
        refine ⟨c, tm, bs, h0, h1, by omega, ?_⟩
        cases hbs : bs with
        | nil => exact cpBadE a p 0 tm _ zs len i c z hlen hi hm h100 hz okx hk4 hk p1 p2 true hr
        | cons x y =>
          rw [← hbs]
          have hne : bs ≠ [] := by rw [hbs]; simp
          rw [stH_ne _ _ _ _ _ hne, hdA_ne _ hne]
          exact cpBadH a p _ tm _ _ _ _ _ zs len i c z hlen hi hm h100 hz okx hk4 hk p1 p2 true hr
      | true =>
        simp only [Bool.and_eq_true, decide_eq_true_eq] at hr
        obtain ⟨q1, q2, q3⟩ := hr
        cases hbs : bs with
        | nil =>
          obtain ⟨L, e⟩ := cpOpenE a p 0 tm (actsC o) zs len i c z hlen hi hm h100 hz okx hk4 hk p1 p2 q1 q2 q3
          exact ⟨some (p, L), tm, [], h0, h1, by simp, e⟩
        | cons x y =>
          have hne : bs ≠ [] := by rw [hbs]; simp
          obtain ⟨L, e⟩ := cpOpenH a p ((bs.length : Nat) : Int) tm (allH a bs) (kp (allH a bs)) ((bs.length - 64 + 1 : Nat) : Int) ((kp (trs bs)).map tC) (actsC o) zs len i c z hlen hi hm h100 hz okx hk4 hk p1 p2 q1 q2 q3
          rw [← hbs]
          refine ⟨some (p, L), tm, bs, h0, h1, by omega, ?_⟩
          rw [stH_ne _ _ _ _ _ hne, stH_ne _ _ _ _ _ hne, hdA_ne _ hne]
          exact e
/-! ### The end of the loop -/
theorem cp_exit0 (cf : CallFn) (a : UInt8) (p : Int) (K A : CV) (len : Int) (tm : Int) (bs : Bl) (c : Cl) (op : Bool) :
    loopX 0 (p21_l0 true cf 0) (lS a p K A len ((bs.length : Nat) : Int) tm op (hdA bs) len) (stH a p tm bs c) =
      some (.exit 0 [.c (.int .u8 (a.toNat : Int)), .c (.int .u64 p), .any, .ov 0 [] 0, .c (.int .i64 0), .c (.int .u64 ((bs.length : Nat) : Int)), hdA bs], stH a p tm bs c) := by
  rw [loopX_eq]
  cases bs with
  | nil => cases c <;> simp [stH, hdA, lS, kE, chE, chO, p21_l0]
  | cons x y =>
    have hne : x :: y ≠ [] := by simp
    rw [stH_ne _ _ _ _ _ hne, hdA_ne _ hne]
    generalize allH a (x :: y) = A1
    generalize (kp (trs (x :: y))).map tC = A2
    generalize (x :: y).length = N
    cases c <;> simp [lS, lH, p21_l0]
theorem cp_exit1 (cf : CallFn) (a : UInt8) (p : Int) (K : CV) (zs : List CV) (len i : Nat) (tm : Int) (bs : Bl) (c : Cl) (op : Bool) (z : AcH) (hlen : zs.length = len) (hi : i < len) (h100 : 100 < i) (hz : nthC zs i = z.cv) (okx : z.x.Ok) :
    loopX 0 (p21_l0 true cf 0) (lS a p K (.sl 132 zs) len ((bs.length : Nat) : Int) tm op (hdA bs) i) (stH a p tm bs c) =
      some (.exit 0 [.c (.int .u8 (a.toNat : Int)), .c (.int .u64 p), .any, .ov 0 [] 0, .c (.int .i64 0), .c (.int .u64 ((bs.length : Nat) : Int)), hdA bs], stH a p tm bs c ++ [.var 126 (.c z.cv)]) := by
  have g1 : (i : Int) < (len : Int) := by omega
  have g2 : (100 : Int) < (i : Int) := by omega
  have d1 := len32 okx.root
  have d2 := len32 okx.vals
  have d3 := len32 okx.next
  have d4 := len32 okx.sl
  rw [loopX_eq]
  simp only [AcH.cv, HdrL.cv] at hz ⊢
  cases bs with
  | nil => cases c <;> simp [stH, hdA, lS, kE, chE, chO, p21_l0, g1, g2, hi, hlen, hz, d1, d2, d3, d4]
  | cons x y =>
    have hne : x :: y ≠ [] := by simp
    rw [stH_ne _ _ _ _ _ hne, hdA_ne _ hne]
    generalize allH a (x :: y) = A1
    generalize (kp (trs (x :: y))).map tC = A2
    generalize (x :: y).length = N
    cases c <;> simp [lS, lH, p21_l0, g1, g2, hi, hlen, hz, d1, d2, d3, d4]
theorem cpl_loop (a : UInt8) (p : Int) (p1 : ¬ p < 1) (p2 : ¬ 4294967296 < p) (o : Option (List ActL)) (l : List AcH) (hm : True) (hok : ∀ z ∈ l, AcOk z) :
    ∀ (n i : Nat) (c : Cl) (tm : Int) (bs : Bl), i + n = l.length → 0 ≤ tm → tm ≤ 1099511627776 → bs.length ≤ i → i ≤ 101 →
      ∃ (c' : Cl) (tm' : Int) (bs' : Bl) (X : Heap), bs'.length ≤ 101 ∧ (X = [] ∨ ∃ z, X = [.var 126 (.c z)]) ∧
        loopX 0 (p21_l0 true (callX (cfg true) An) 0) (lS a p (actsC o) (.sl 132 (l.map AcH.cv)) (l.length : Nat) ((bs.length : Nat) : Int) tm (isO c) (hdA bs) i) (stH a p tm bs c) =
          some (.exit 0 [.c (.int .u8 (a.toNat : Int)), .c (.int .u64 p), .any, .ov 0 [] 0, .c (.int .i64 0), .c (.int .u64 ((bs'.length : Nat) : Int)), hdA bs'], stH a p tm' bs' c' ++ X)
  | 0, i, c, tm, bs, hi, h0, h1, hb, h101 => by
    obtain rfl : i = l.length := by omega
    exact ⟨c, tm, bs, [], by omega, .inl rfl, by rw [cp_exit0, List.append_nil]⟩
  | n + 1, i, c, tm, bs, hi, h0, h1, hb, h101 => by
    have hz : nthC (l.map AcH.cv) i = AcH.cv (l.getD i ⟨0, 0, ⟨0, 0, [], [], [], []⟩⟩) := nthC_map _ (by omega)
    have hin : l.getD i ⟨0, 0, ⟨0, 0, [], [], [], []⟩⟩ ∈ l := by
      rw [List.getD_eq_getElem?_getD, List.getElem?_eq_getElem (by omega)]
      exact List.getElem_mem _
    have ok := hok _ hin
    by_cases h100 : i ≤ 100
    · obtain ⟨c1, tm1, bs1, a1, a2, a3, e⟩ := cp_step a p p1 p2 o (l.map AcH.cv) l.length i c _ tm bs (by simp) (by omega) hm h100 hz ok h0 h1 (by omega)
      obtain ⟨c', tm', bs', X, b1, b2, e2⟩ := cpl_loop a p p1 p2 o l hm hok n (i + 1) c1 tm1 bs1 (by omega) a1 a2 (by omega) (by omega)
      exact ⟨c', tm', bs', X, b1, b2, by rw [e, e2]⟩
    · exact ⟨c, tm, bs, [.var 126 (.c (AcH.cv _))], by omega, .inr ⟨_, rfl⟩, cp_exit1 _ a p _ _ _ i tm bs c _ _ (by simp) (by omega) (by omega) hz ok.2.2⟩
/-! ### The loop over heights -/
theorem m_exit (cf : CallFn) (a : UInt8) (p : Int) (tm top : Int) (bs : Bl) (c : Cl) :
    loopX 0 (p21_l3 true cf 0) (mS a p ((bs.length : Nat) : Int) (hdA bs) top top) (stH a p tm bs c) = some (.exit 3 [.c (.int .u8 (a.toNat : Int)), .c (.int .u64 p), .any, .c (.int .i64 0)], stH a p tm bs c) := by
  rw [loopX_eq]
  cases bs with
  | nil => cases c <;> simp [stH, hdA, mS, kE, chE, chO, p21_l3]
  | cons x y =>
    have hne : x :: y ≠ [] := by simp
    rw [stH_ne _ _ _ _ _ hne, hdA_ne _ hne]
    generalize allH a (x :: y) = A1
    generalize (kp (trs (x :: y))).map tC = A2
    generalize (x :: y).length = N
    cases c <;> simp [mS, lH, p21_l3]
theorem kp_getD (us : List (Option Tn)) (i : Nat) : (kp us).getD i none = us.getD (us.length - 64 + i) none := by simp [kp, List.getD_eq_getElem?_getD, List.getElem?_drop]
set_option maxHeartbeats 4000000 in
theorem m_step (a : UInt8) (p : Int) (tm : Int) (bs : Bl) (c : Cl) (hb : bs.length ≤ 101) (x : Nat) (hx : x < bs.length + 2) :
    loopX 0 (p21_l3 true (callX (cfg true) An) 0) (mS a p ((bs.length : Nat) : Int) (hdA bs) ((bs.length + 2 : Nat) : Int) x) (stH a p tm bs c) =
      loopX 0 (p21_l3 true (callX (cfg true) An) 0) (mS a p ((bs.length : Nat) : Int) (hdA bs) ((bs.length + 2 : Nat) : Int) ((x + 1 : Nat) : Int)) (stH a p tm bs c) := by
  cases hbs : bs with
  | nil => exact m_stepE a p 0 tm _ x c (by simp [hbs] at hx ⊢; omega) (by omega) (by omega)
  | cons y ys =>
    rw [← hbs]
    have hne : bs ≠ [] := by rw [hbs]; simp
    have hpos : 0 < bs.length := by rw [hbs]; simp
    rw [stH_ne _ _ _ _ _ hne, hdA_ne _ hne]
    have e64 : iAdd .u64 (x : Int) 64 = ((x + 64 : Nat) : Int) := by unfold iAdd; rw [u64_small (by omega) (by omega)]; omega
    have hkl : (kp (allH a bs)).length = min bs.length 64 := by rw [kp_len, allH_len]
    have tl : (trs bs).length = bs.length := by simp [trs]
    have hkt : (kp (trs bs)).length = min bs.length 64 := by rw [kp_len, tl]
    by_cases hin : 1 ≤ x ∧ x ≤ bs.length ∧ bs.length < x + 64
    · obtain ⟨i1, i2, i3⟩ := hin
      obtain ⟨j, hj⟩ : ∃ j, x = bs.length - 64 + j + 1 := ⟨x - 1 - (bs.length - 64), by omega⟩
      have hd := header_in true a p ((bs.length : Nat) : Int) tm (kp (allH a bs)) ((bs.length - 64 + 1 : Nat) : Int) ((kp (trs bs)).map tC) c (bs.length - 64) j (hdI_kp a bs) (by omega) (by omega) (by omega)
      rw [← hj, kp_nth, allH_len] at hd
      have tr := tree_in true a p ((bs.length : Nat) : Int) tm (kp (allH a bs)) (bs.length - 64 + 1) x (kp (trs bs)) c (by omega) (by omega) (by omega) (by omega)
      have hxx : x - (bs.length - 64 + 1) = j := by omega
      rw [hxx, kp_getD, tl] at tr
      have hk : bs.length - 64 + j < bs.length := by omega
      obtain ⟨k, hkk⟩ : ∃ k, k = bs.length - 64 + j := ⟨_, rfl⟩
      rw [← hkk] at hd tr hk
      have hT : (trs bs).getD k none = bs[k].2 := by simp [trs, List.getD_eq_getElem?_getD, hk]
      rw [hT] at tr
      have hn := allH_nth a bs k hk
      obtain ⟨R, v, n, s, e, hR, l0, l1, l2, l3⟩ := blk_lens a ((k + 1 : Nat) : Int) ((k + 2 : Nat) : Int) bs[k].1 bs[k].2
      have hn2 : nthC (allH a bs) k = hdC ((k + 1 : Nat) : Int) bs[k].1 R v n s := by rw [hn]; exact e
      rw [hn2] at hd
      have rc : ∀ H, callX (cfg true) An 37 [.c (tC bs[k].2)] H = some (.c (.arr 32 .u8 (dI R)), H) := by rw [hR]; exact Root_call true bs[k].2
      exact m_in a p _ tm (allH a bs) (kp (allH a bs)) _ _ _ x k c _ (by omega) (by omega) e64 (by omega) (by omega) (by omega) (tC bs[k].2) _ _ R v n s l0 l1 l2 l3 hd tr rc (by omega) (by rw [allH_len]; exact hk) hn2
    · have hd := header_out true a p ((bs.length : Nat) : Int) tm (kp (allH a bs)) ((bs.length - 64 + 1 : Nat) : Int) ((kp (trs bs)).map tC) c (bs.length - 64) x (hdI_kp a bs) (by omega) (by omega) (by omega)
      have tr := tree_out true a p ((bs.length : Nat) : Int) tm (kp (allH a bs)) (bs.length - 64 + 1) x (kp (trs bs)) c (by omega) (by omega) (by omega) (by omega)
      exact m_out a p _ tm (allH a bs) (kp (allH a bs)) _ _ _ x c _ (by omega) (by omega) e64 (by omega) hd tr
theorem m_loop (a : UInt8) (p : Int) (tm : Int) (bs : Bl) (c : Cl) (hb : bs.length ≤ 101) : ∀ (n x : Nat), x + n = bs.length + 2 →
    loopX 0 (p21_l3 true (callX (cfg true) An) 0) (mS a p ((bs.length : Nat) : Int) (hdA bs) ((bs.length + 2 : Nat) : Int) x) (stH a p tm bs c) = some (.exit 3 [.c (.int .u8 (a.toNat : Int)), .c (.int .u64 p), .any, .c (.int .i64 0)], stH a p tm bs c)
  | 0, x, h => by
    obtain rfl : x = bs.length + 2 := by omega
    exact m_exit _ a p tm _ bs c
  | n + 1, x, h => by
    rw [m_step a p tm bs c hb x (by omega)]
    exact m_loop a p tm bs c hb n (x + 1) (by omega)
theorem m_loopX (a : UInt8) (p : Int) (tm : Int) (bs : Bl) (c : Cl) (hb : bs.length ≤ 101) (X : Heap) (hX : X = [] ∨ ∃ z, X = [.var 126 (.c z)]) :
    loopX 0 (p21_l3 true (callX (cfg true) An) 0) (mS a p ((bs.length : Nat) : Int) (hdA bs) ((bs.length + 2 : Nat) : Int) 0) (stH a p tm bs c ++ X) = some (.exit 3 [.c (.int .u8 (a.toNat : Int)), .c (.int .u64 p), .any, .c (.int .i64 0)], stH a p tm bs c) := by
  have e := m_loop a p tm bs c hb (bs.length + 2) 0 (by omega)
  have z0 : ((0 : Nat) : Int) = 0 := rfl
  rw [z0] at e
  rw [← e]
  rcases hX with rfl | ⟨z, rfl⟩
  · rw [List.append_nil]
  · apply loopX_gc
    · cases bs with
      | nil => cases c <;> simp [stH, hdA, mS, kE, chE, chO]
      | cons x y =>
        have hne : x :: y ≠ [] := by simp
        rw [stH_ne _ _ _ _ _ hne, hdA_ne _ hne]
        generalize allH a (x :: y) = A1
        generalize (kp (trs (x :: y))).map tC = A2
        generalize (x :: y).length = N
        cases c <;> simp [mS, lH]
    · cases bs with
      | nil => cases c <;> simp [stH, hdA, mS, kE, chE, chO]
      | cons x y =>
        have hne : x :: y ≠ [] := by simp
        rw [stH_ne _ _ _ _ _ hne, hdA_ne _ hne]
        generalize allH a (x :: y) = A1
        generalize (kp (trs (x :: y))).map tC = A2
        generalize (x :: y).length = N
        cases c <;> simp [mS, lH]
/-! ### The law -/
def acsC : Option (List AcH) → CV
  | none => .nilsl
  | some l => .sl 132 (l.map AcH.cv)
theorem chain_bad (b : Bool) (a : Int) (p : Int) (h : p < 1 ∨ 4294967296 < p) : fnX (cfg b) An 56 [.c (.int .u8 a), .c (.int .u64 p)] [] = some (.tup [.c .nilp, .c (.int .i64 2)], []) := by
  rw [fnX_eq, p56_eq]
  by_cases h1 : p < 1
  · simp [p56, h1]
  · have h2 : 4294967296 < p := by omega
    simp [p56, h1, h2]
set_option maxHeartbeats 4000000 in
theorem chainPlays_fn (a : UInt8) (p : Int) (o : Option (List ActL)) (q : Option (List AcH)) (hq : ∀ l, q = some l → ∀ z ∈ l, AcOk z) :
    fnX (cfg true) An 21 [.c (.int .u8 (a.toNat : Int)), .c (.int .u64 p), .c (actsC o), .c (acsC q)] [] = some (.c (.bool true), []) := by
  rw [fnX_eq, p21_eq]
  have c0 := awake18_call true
  by_cases hp : p < 1 ∨ 4294967296 < p
  · have nb := chain_bad true (a.toNat : Int) p hp
    have nc : ∀ H, callX (cfg true) An 56 [.c (.int .u8 (a.toNat : Int)), .c (.int .u64 p)] H = _ := callX_pure nb rfl rfl (prim_none (by decide))
    by_cases h1 : p < 1
    · simp [p21, c0, nc, h1, be81]
    · have h2 : 4294967296 < p := by omega
      simp [p21, c0, nc, h1, h2, be81]
  · have h1 : ¬ p < 1 := fun h => hp (.inl h)
    have h2 : ¬ 4294967296 < p := fun h => hp (.inr h)
    have nw := chain_new' true a p h1 h2
    have vc := vals_call true a p
    have wc := vals82_call a p
    have ln : (dI (shaW (valsB ++ a :: lenBytes p))).length = 32 := len32 (shaW_len _)
    obtain ⟨c', tm', bs', X, b1, b2, e⟩ : ∃ (c' : Cl) (tm' : Int) (bs' : Bl) (X : Heap), bs'.length ≤ 101 ∧ (X = [] ∨ ∃ z, X = [.var 126 (.c z)]) ∧
        loopX 0 (p21_l0 true (callX (cfg true) An) 0) (lS a p (actsC o) (acsC q) ((lenOf [] (.c (acsC q))).getD 0 : Nat) 0 0 false (.c .nilsl) 0) (chE a p 0 0) =
          some (.exit 0 [.c (.int .u8 (a.toNat : Int)), .c (.int .u64 p), .any, .ov 0 [] 0, .c (.int .i64 0), .c (.int .u64 ((bs'.length : Nat) : Int)), hdA bs'], stH a p tm' bs' c' ++ X) := by
      cases q with
      | none => exact ⟨none, 0, [], [], by simp, .inl rfl, by rw [List.append_nil]; exact cp_exit0 (callX (cfg true) An) a p (actsC o) .nilsl 0 0 [] none false⟩
      | some l =>
        have hok := hq l rfl
        have := cpl_loop a p h1 h2 o l trivial hok l.length 0 none 0 [] (by omega) (by decide) (by decide) (by simp) (by omega)
        simpa [acsC, lenOf, isO, hdA, stH, kE] using this
    have e2 := m_loopX a p tm' bs' c' b1 X b2
    have top : iAdd .u64 ((bs'.length : Nat) : Int) 2 = ((bs'.length + 2 : Nat) : Int) := by unfold iAdd; rw [u64_small (by omega) (by omega)]; omega
    have hlo : ∃ n, lenOf [] (.c (acsC q)) = some n ∧ ∀ H, lenOf H (.c (acsC q)) = some n := by
      cases q with
      | none => exact ⟨0, rfl, fun _ => rfl⟩
      | some l => exact ⟨_, rfl, fun _ => rfl⟩
    obtain ⟨nn, hn0, hn1⟩ := hlo
    rw [hn0] at e
    simp only [Option.getD_some] at e
    generalize shaW (valsB ++ a :: lenBytes p) = w at *
    generalize acsC q = Q at *
    generalize actsC o = K at *
    generalize ((bs'.length + 2 : Nat) : Int) = tp at *
    generalize ((bs'.length : Nat) : Int) = N at *
    generalize hdA bs' = hA at *
    generalize stH a p tm' bs' c' ++ X = H1 at *
    generalize stH a p tm' bs' c' = H2 at *
    simp only [lS, mS, chE] at nw e e2
    simp [p21, c0, v56, nw, h1, h2, hn1, e, e2, top, vc, wc, ln, be41, frz152, frz137]
end Go.Fm
/-
  Shapes of the calls of law 21.
-/
set_option maxRecDepth 100000
set_option linter.unusedVariables false
set_option linter.unusedSimpArgs false
namespace Go.Fm
open Go Go.Proofs
theorem is_ac {v : CV} (h : Is (.st [.int .u8, .int .u64, shHdr]) v) : ∃ z : AcH, v = z.cv ∧ AcOk z := by
  cases h with
  | st _ vs hl h =>
    match vs, hl with
    | [v0, v1, v2], _ =>
      obtain ⟨x, rfl⟩ := is_u8 (h 0 _ _ rfl rfl)
      obtain ⟨n, rfl, n0, n1⟩ := is_int (h 1 _ _ rfl rfl)
      obtain ⟨y, rfl, ok⟩ := is_hdr (h 2 _ _ rfl rfl)
      refine ⟨⟨x, n, y⟩, rfl, ?_, ?_, ok⟩
      · simpa [IntKind.min, IntKind.signed] using n0
      · have : n ≤ 18446744073709551615 := by simpa [IntKind.max, IntKind.signed, IntKind.bits] using n1
        show n < 18446744073709551616
        omega
theorem is_acs {v : CV} (h : Is (.sl 132 (.st [.int .u8, .int .u64, shHdr])) v) : ∃ q : Option (List AcH), v = acsC q ∧ ∀ l, q = some l → ∀ z ∈ l, AcOk z := by
  cases h with
  | nilsl => exact ⟨none, rfl, fun l h => by cases h⟩
  | sl _ _ es hl h =>
    have : ∃ l : List AcH, es = l.map AcH.cv ∧ ∀ z ∈ l, AcOk z := by
      clear hl
      induction es with
      | nil => exact ⟨[], rfl, fun z hz => by cases hz⟩
      | cons e es ih =>
        obtain ⟨a, rfl, ha⟩ := is_ac (h e (by simp))
        obtain ⟨l, rfl, hl⟩ := ih fun x hx => h x (by simp [hx])
        refine ⟨a :: l, rfl, fun z hz => ?_⟩
        rcases List.mem_cons.1 hz with rfl | hz
        · exact ha
        · exact hl z hz
    obtain ⟨l, rfl, hl2⟩ := this
    exact ⟨some l, rfl, fun l' h' => by cases h'; exact hl2⟩
end Go.Fm
