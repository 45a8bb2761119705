/-
  A part of the proof: PChain.
-/
import Derived.Test.YtjmjijgnbjkpnaaDoorPNu
import Derived.Test.YtjmjijgnbjkpnaaDoorPEp
import Derived.Test.YtjmjijgnbjkpnaaDoorDMisc
import Derived.Test.YtjmjijgnbjkpnaaDoorPSeal
set_option linter.all false
set_option autoImplicit true
/-
  chain: New and Height.
-/
set_option maxRecDepth 100000
set_option linter.unusedVariables false
set_option linter.unusedSimpArgs false
namespace Go.Fm
open Go Go.Proofs
theorem frz152 {b : Bool} : (cfg b).frz 152 = false := rfl
theorem chain_new (b : Bool) (a : Int) (p : Int) (h : ¬ p < 1) (h2 : ¬ p > 4294967296) : fnX (cfg b) An 56 [.c (.int .u8 a), .c (.int .u64 p)] [] =
    some (.tup [.ov 0 [] 0, .c (.int .i64 0)], [.var 152 (.agg [.c (.int .u8 a), .c (.int .u64 p), .c (.int .u64 0), .c (.int .u64 0), .ov 1 [] 0, .c .nilsl, .c .nilp]), .var 137 (.c (.agg [.int .i64 64, .int .u64 1, .nilsl]))]) := by
  rw [fnX_eq, p56_eq]
  have hN := new_fn b 64 (by decide) (by decide)
  have h2' : ¬ 4294967296 < p := h2
  simp [p56, h, h2', v28, keep28, hN, frz152, frz137]
end Go.Fm
/-
  chain.End.
-/
set_option maxRecDepth 100000
set_option linter.unusedVariables false
set_option linter.unusedSimpArgs false
namespace Go.Fm
open Go Go.Proofs
theorem vals_call (b : Bool) (a : UInt8) (z : Int) (H : Heap) : callX (cfg b) An 33 [.c (.int .u8 (a.toNat : Int)), .c (.int .u64 z)] H = some (.c (.arr 32 .u8 (dI (shaW (valsB ++ a :: lenBytes z)))), H) := callX_pure (vals_fn b a z) rfl rfl (prim_none (by decide)) H
theorem eqg81 {b : Bool} : (cfg b).P.eqGuardType (cfg b).P.depth 81 = false := by kernel_rfl
theorem aeq81 {b : Bool} {x y : AV} : aeq (cfg b).P 12 81 x y = ptrEq x y := aeq_ptr (e := 152) (by kernel_rfl)
theorem be81 {b lit : Bool} {x y : AV} {H : Heap} (h : isIS x y = false) : mBin (cfg b) 81 lit .eql x y H = eqH H false (ptrEq x y) := by rw [mBin_eqg eqg81 h, aeq81]
theorem frz80 {b : Bool} : (cfg b).frz 80 = false := rfl
theorem frz41 {b : Bool} : (cfg b).frz 41 = false := rfl
/-- A block's header: without its seal, and with it. -/
def blkB (a : UInt8) (h t : Int) (root : List UInt8) : HdrL := ⟨h, t, root, shaW (valsB ++ a :: lenBytes h), shaW (valsB ++ a :: lenBytes (iAdd .u64 h 1)), zero32⟩
def blk (a : UInt8) (h t : Int) (root : List UInt8) : HdrL := { blkB a h t root with sl := (blkB a h t root).sealW }
def chE (a : UInt8) (p h t : Int) : Heap := [.var 152 (.agg [.c (.int .u8 (a.toNat : Int)), .c (.int .u64 p), .c (.int .u64 h), .c (.int .u64 t), .ov 1 [] 0, .c .nilsl, .c .nilp]), .var 137 (.c (.agg [.int .i64 64, .int .u64 1, .nilsl]))]
theorem cf_PChain2_2c833360 : clashFree [0, 0, 2, 6, 14, 0, 32, 126, 255, 511, 1023] [(false, [0, 1, 4], 5, 5), (false, [0, 1, 4], 5, 5), (false, [0, 1, 4], 5, 5), (false, [0, 1, 4], 5, 5), (false, [0, 1, 4], 5, 5), (false, [3], 5, 5), (false, [], 5, 6), (true, [5], 6, 7), (false, [0, 1, 4], 7, 7), (false, [0, 1, 4], 7, 7), (true, [0, 1, 4, 6], 7, 7)] = true := by decide
attribute [simp] cf_PChain2_2c833360
def hdC (h t : Int) (r v n s : List UInt8) : CV := .agg [.int .u64 h, .int .u64 t, .arr 32 .u8 (dI r), .arr 32 .u8 (dI v), .arr 32 .u8 (dI n), .arr 32 .u8 (dI s)]
def chH (a : UInt8) (p h t : Int) (hs : List CV) (f : Int) (ts : List CV) : Heap := [.var 152 (.agg [.c (.int .u8 (a.toNat : Int)), .c (.int .u64 p), .c (.int .u64 h), .c (.int .u64 t), .ov 1 [] 0, .os 2, .c .nilp]), .var 137 (.agg [.c (.int .i64 64), .c (.int .u64 f), .os 3]), .row 80 130 hs, .row 28 1 ts]
theorem cf_PChain2_d823f608 : clashFree [0, 0, 2, 6, 14, 0, 32, 126, 255, 511, 1023] [(false, [0, 1, 6, 2], 7, 7), (false, [0, 1, 6, 2], 7, 7), (false, [0, 1, 6, 2], 7, 7), (false, [0, 1, 6, 2], 7, 7), (false, [0, 1, 6, 2], 7, 7), (false, [5], 7, 7), (false, [], 7, 8), (true, [2, 7], 8, 9), (false, [0, 1, 6, 2], 9, 9), (false, [0, 1, 6, 2], 9, 9), (true, [0, 1, 6, 2, 8], 9, 9)] = false := by decide
attribute [simp] cf_PChain2_d823f608
theorem cf_PChain2_72538841 : clashFree [0, 0, 2, 6, 14, 0, 32, 126, 255, 511, 1023] [(false, [], 5, 5), (false, [], 5, 5), (false, [0, 1, 4], 5, 5), (false, [0, 1, 4], 5, 5), (false, [0, 1, 4], 5, 5), (false, [3], 5, 5), (false, [], 5, 6), (true, [5], 6, 7), (false, [0, 1, 4], 7, 7), (false, [0, 1, 4], 7, 7), (true, [0, 1, 4, 6], 7, 7)] = true := by decide
attribute [simp] cf_PChain2_72538841
/-! CF -/
set_option maxHeartbeats 32000000 in
theorem end_core0 (b : Bool) (a : UInt8) (p h tm h1 h2 tm1 : Int) (hh : ¬ (1099511627776 ≤ h)) (ht : ¬ (1099511627776 ≤ tm)) (e1 : iAdd .u64 h 1 = h1) (e2 : iAdd .u64 h1 1 = h2) (e3 : iAdd .u64 tm 1 = tm1)
    (T : CV) (R v1 v2 sw : List UInt8) (hsl : (dI sw).length = 32) (l1 : (dI v1).length = 32) (l2 : (dI v2).length = 32) (l3 : (dI R).length = 32) (z : Int)
    (rc : ∀ H, callX (cfg b) An 37 [.c T] H = some (.c (.arr 32 .u8 (dI R)), H))
    (vc1 : ∀ H, callX (cfg b) An 33 [.c (.int .u8 (a.toNat : Int)), .c (.int .u64 h1)] H = some (.c (.arr 32 .u8 (dI v1)), H))
    (vc2 : ∀ H, callX (cfg b) An 33 [.c (.int .u8 (a.toNat : Int)), .c (.int .u64 h2)] H = some (.c (.arr 32 .u8 (dI v2)), H))
    (sc : ∀ H, callX (cfg b) An 98 [.c (.agg [.int .u64 h1, .int .u64 tm1, .arr 32 .u8 (dI R), .arr 32 .u8 (dI v1), .arr 32 .u8 (dI v2), .arr 32 .u8 (List.replicate 32 0)])] H = some (.c (.arr 32 .u8 (dI sw)), H))
    (hT : ptrEq (.c T) (.c .nilp) = some false)
    (cm : fnX (cfg b) An 25 [.ov 0 [] 0, .c T] [.var 137 (.c (.agg [.int .i64 64, .int .u64 1, .nilsl]))] = some (.tup [.c (.int .u64 z), .c (.int .i64 0)], logH 64 1 [T])) :
    fnX (cfg b) An 52 [.ov 0 [] 0, .c T] (chE a p h tm) = some (.tup [.c (hdC h1 tm1 R v1 v2 sw), .c (.int .i64 0)], chH a p h1 tm1 [hdC h1 tm1 R v1 v2 sw] 1 [T]) := by
  rw [fnX_eq, p52_eq]
  have m1 : 1 ≤ maxLen := big_max (by decide)
  simp only [List.reduceReplicate] at sc
  simp only [chE, chH, hdC, logH] at cm ⊢
  simp (maxSteps := 300000) [p52, p52_d0, p52_d1, be81, be28, hT, hh, ht, e1, e2, e3, sc, rc, vc1, vc2, v25, cm, hsl, l1, l2, l3, m1, frz80, frz41, frz137, frz152, keep25]
theorem ptrEqT (t : Option Tn) : ptrEq (.c (tC t)) (.c .nilp) = some false := rfl
theorem hashoL (t : Option Tn) : (Tn.hasho t).length = 32 := by cases t with
  | none => exact shaW_len _
  | some t => exact t.hash_len
theorem len32 {l : List UInt8} (h : l.length = 32) : (dI l).length = 32 := by rw [len_dI, h]
/-- The first block. -/
def hd1 (a : UInt8) (h1 h2 tm1 : Int) (R : List UInt8) : HdrL := ⟨h1, tm1, R, shaW (valsB ++ a :: lenBytes h1), shaW (valsB ++ a :: lenBytes h2), zero32⟩
theorem hd1_ok (a : UInt8) (h1 h2 tm1 : Int) (t : Option Tn) : (hd1 a h1 h2 tm1 (Tn.hasho t)).Ok := by
  constructor
  · simp only [hd1]; exact hashoL t
  · simp only [hd1]; rw [shaW_len]
  · simp only [hd1]; rw [shaW_len]
  · simp only [hd1, zero32, List.length_replicate]
theorem end_first (b : Bool) (a : UInt8) (p h tm h1 h2 tm1 : Int) (hh : ¬ (1099511627776 ≤ h)) (ht : ¬ (1099511627776 ≤ tm)) (e1 : iAdd .u64 h 1 = h1) (e2 : iAdd .u64 h1 1 = h2) (e3 : iAdd .u64 tm 1 = tm1) (t : Option Tn) :
    fnX (cfg b) An 52 [.ov 0 [] 0, .c (tC t)] (chE a p h tm) =
      some (.tup [.c (hdC h1 tm1 (Tn.hasho t) (shaW (valsB ++ a :: lenBytes h1)) (shaW (valsB ++ a :: lenBytes h2)) (hd1 a h1 h2 tm1 (Tn.hasho t)).sealW), .c (.int .i64 0)],
        chH a p h1 tm1 [hdC h1 tm1 (Tn.hasho t) (shaW (valsB ++ a :: lenBytes h1)) (shaW (valsB ++ a :: lenBytes h2)) (hd1 a h1 h2 tm1 (Tn.hasho t)).sealW] 1 [tC t]) := by
  have sc := seal_call b _ (hd1_ok a h1 h2 tm1 t)
  have hz : dI zero32 = List.replicate 32 0 := by decide
  have hc : (hd1 a h1 h2 tm1 (Tn.hasho t)).cv = .agg [.int .u64 h1, .int .u64 tm1, .arr 32 .u8 (dI (Tn.hasho t)), .arr 32 .u8 (dI (shaW (valsB ++ a :: lenBytes h1))), .arr 32 .u8 (dI (shaW (valsB ++ a :: lenBytes h2))), .arr 32 .u8 (List.replicate 32 0)] := by simp only [HdrL.cv, hd1, hz]
  rw [hc] at sc
  have cm := commit_first b 64 1 (.agg [Tn.pto t]) [] 0 (by decide)
  have vc1 := vals_call b a h1
  have vc2 := vals_call b a h2
  have l0 := len32 (HdrL.sealW_len (hd1 a h1 h2 tm1 (Tn.hasho t)))
  have l1 := len32 (shaW_len (valsB ++ a :: lenBytes h1))
  have l2 := len32 (shaW_len (valsB ++ a :: lenBytes h2))
  have l3 := len32 (hashoL t)
  clear hc
  generalize (hd1 a h1 h2 tm1 (Tn.hasho t)).sealW = sw at sc l0 ⊢
  generalize shaW (valsB ++ a :: lenBytes h1) = v1 at sc l1 vc1 ⊢
  generalize shaW (valsB ++ a :: lenBytes h2) = v2 at sc l2 vc2 ⊢
  exact end_core0 b a p h tm h1 h2 tm1 hh ht e1 e2 e3 (tC t) (Tn.hasho t) v1 v2 sw l0 l1 l2 l3 (lastZ 1 1) (callX_pure (Root_fn b t) rfl rfl (prim_none (by decide))) vc1 vc2 sc (ptrEqT t) cm
end Go.Fm
/-
  ferrymanlaw18.Awake.
-/
set_option maxRecDepth 100000
set_option linter.unusedVariables false
set_option linter.unusedSimpArgs false
namespace Go.Fm
open Go Go.Proofs
theorem v52 {b : Bool} {H : Heap} {vs : List AV} : callX (cfg b) An 52 vs H = cvw (fnX (cfg b) An 52) (handCs (cfg b) false H vs) := callX_v (prim_none (by decide))
theorem v56 {b : Bool} {H : Heap} {vs : List AV} : callX (cfg b) An 56 vs H = cvw (fnX (cfg b) An 56) (handCs (cfg b) false H vs) := callX_v (prim_none (by decide))
theorem v59 {b : Bool} {H : Heap} {vs : List AV} : callX (cfg b) An 59 vs H = cvw (fnX (cfg b) An 59) (handCs (cfg b) false H vs) := callX_v (prim_none (by decide))
theorem height_fn (b : Bool) (a : UInt8) (p h t : Int) (hs : List CV) (f : Int) (ts : List CV) : fnX (cfg b) An 59 [.ov 0 [] 0] (chH a p h t hs f ts) = some (.c (.int .u64 h), chH a p h t hs f ts) := by
  rw [fnX_eq, p59_eq]
  simp only [chH]
  simp [p59, be81]
theorem chain_new' (b : Bool) (a : UInt8) (p : Int) (h : ¬ p < 1) (h2 : ¬ p > 4294967296) : fnX (cfg b) An 56 [.c (.int .u8 (a.toNat : Int)), .c (.int .u64 p)] [] =
    some (.tup [.ov 0 [] 0, .c (.int .i64 0)], chE a p 0 0) := chain_new b _ p h h2
/-! CF -/
set_option maxHeartbeats 16000000 in
theorem awake18_core (b : Bool) (R v1 v2 sw : List UInt8) (hsl : (dI sw).length = 32) (l1 : (dI v1).length = 32) (l2 : (dI v2).length = 32) (l3 : (dI R).length = 32)
    (en : fnX (cfg b) An 52 [.ov 0 [] 0, .c (tC none)] (chE 0 10 0 0) = some (.tup [.c (hdC 1 1 R v1 v2 sw), .c (.int .i64 0)], chH 0 10 1 1 [hdC 1 1 R v1 v2 sw] 1 [tC none]))
    (ec : ∀ H, callX (cfg b) An 62 [] H = some (.c (.arr 32 .u8 (dI R)), H)) : fnX (cfg b) An 31 [] [] = some (.c (.bool true), []) := by
  rw [fnX_eq, p31_eq]
  have nw := chain_new' b 0 10 (by decide) (by decide)
  have hg := height_fn b 0 10 1 1 [hdC 1 1 R v1 v2 sw] 1 [tC none]
  have nc := new_call b
  have t0 : ((0 : UInt8).toNat : Int) = 0 := rfl
  simp only [chE, chH, hdC, t0] at nw en hg
  simp (maxSteps := 1000000) [p31, p31_d0, v56, nw, nc, v52, en, v59, hg, ec, be41, hsl, l1, l2, l3, frz152, frz137, frz80]
theorem awake18 (b : Bool) : fnX (cfg b) An 31 [] [] = some (.c (.bool true), []) := by
  have en := end_first b 0 10 0 0 1 2 1 (by decide) (by decide) (by decide) (by decide) (by decide) none
  have l0 := len32 (HdrL.sealW_len (hd1 0 1 2 1 (Tn.hasho none)))
  have l1 := len32 (shaW_len (valsB ++ 0 :: lenBytes 1))
  have l2 := len32 (shaW_len (valsB ++ 0 :: lenBytes 2))
  have l3 := len32 (hashoL none)
  have ec := empty_call b
  have hn : Tn.hasho none = shaW [] := rfl
  rw [← hn] at ec
  generalize (hd1 0 1 2 1 (Tn.hasho none)).sealW = sw at en l0
  generalize shaW (valsB ++ 0 :: lenBytes 1) = v1 at en l1
  generalize shaW (valsB ++ 0 :: lenBytes 2) = v2 at en l2
  generalize Tn.hasho none = R at en l3 ec
  exact awake18_core b R v1 v2 sw l0 l1 l2 l3 en ec
theorem awake18_call (b : Bool) (H : Heap) : callX (cfg b) An 31 [] H = some (.c (.bool true), H) := callX_pure (awake18 b) rfl rfl (prim_none (by decide)) H
end Go.Fm
/-
  chain.End on a chain with blocks.
-/
set_option maxRecDepth 100000
set_option linter.unusedVariables false
set_option linter.unusedSimpArgs false
namespace Go.Fm
open Go Go.Proofs
theorem cf_PChain4_9537fbfe : clashFree [0, 0, 2, 6, 14, 0, 32, 126, 255, 511, 1023] [(false, [], 7, 7), (false, [], 7, 7), (false, [0, 1, 6, 2], 7, 7), (false, [0, 1, 6, 2], 7, 7), (false, [0, 1, 6, 2], 7, 7), (false, [5], 7, 7), (false, [], 7, 8), (true, [2, 7], 8, 9), (false, [0, 1, 6, 2], 9, 9), (false, [0, 1, 6, 2], 9, 9), (true, [0, 1, 6, 2, 8], 9, 9)] = true := by decide
attribute [simp] cf_PChain4_9537fbfe
def chD (a : UInt8) (p h t : Int) (hs : List CV) (f : Int) (ts : List CV) : Heap := [.var 152 (.agg [.c (.int .u8 (a.toNat : Int)), .c (.int .u64 p), .c (.int .u64 h), .c (.int .u64 t), .ov 1 [] 0, .os 4, .c .nilp]), .var 137 (.agg [.c (.int .i64 64), .c (.int .u64 f), .os 5]), .dead, .dead, .row 80 130 hs, .row 28 1 ts]
/-! CF -/
set_option maxHeartbeats 32000000 in
theorem end_core1 (b : Bool) (a : UInt8) (p h tm h1 h2 tm1 : Int) (hh : ¬ (1099511627776 ≤ h)) (ht : ¬ (1099511627776 ≤ tm)) (e1 : iAdd .u64 h 1 = h1) (e2 : iAdd .u64 h1 1 = h2) (e3 : iAdd .u64 tm 1 = tm1)
    (T : CV) (R v1 v2 sw : List UInt8) (hsl : (dI sw).length = 32) (l1 : (dI v1).length = 32) (l2 : (dI v2).length = 32) (l3 : (dI R).length = 32) (z f f' : Int) (hs ts ts' : List CV) (hlen : hs.length < 64)
    (rc : ∀ H, callX (cfg b) An 37 [.c T] H = some (.c (.arr 32 .u8 (dI R)), H))
    (vc1 : ∀ H, callX (cfg b) An 33 [.c (.int .u8 (a.toNat : Int)), .c (.int .u64 h1)] H = some (.c (.arr 32 .u8 (dI v1)), H))
    (vc2 : ∀ H, callX (cfg b) An 33 [.c (.int .u8 (a.toNat : Int)), .c (.int .u64 h2)] H = some (.c (.arr 32 .u8 (dI v2)), H))
    (sc : ∀ H, callX (cfg b) An 98 [.c (.agg [.int .u64 h1, .int .u64 tm1, .arr 32 .u8 (dI R), .arr 32 .u8 (dI v1), .arr 32 .u8 (dI v2), .arr 32 .u8 (List.replicate 32 0)])] H = some (.c (.arr 32 .u8 (dI sw)), H))
    (hT : ptrEq (.c T) (.c .nilp) = some false)
    (cm : fnX (cfg b) An 25 [.ov 0 [] 0, .c T] (logH 64 f ts) = some (.tup [.c (.int .u64 z), .c (.int .i64 0)], logD 64 f' ts')) :
    fnX (cfg b) An 52 [.ov 0 [] 0, .c T] (chH a p h tm hs f ts) = some (.tup [.c (hdC h1 tm1 R v1 v2 sw), .c (.int .i64 0)], chD a p h1 tm1 (hs ++ [hdC h1 tm1 R v1 v2 sw]) f' ts') := by
  rw [fnX_eq, p52_eq]
  have m1 : 1 ≤ maxLen := big_max (by decide)
  simp only [List.reduceReplicate] at sc
  simp only [chE, chH, chD, hdC, logH, logD] at cm ⊢
  have m2 : hs.length + 1 ≤ maxLen := big_max (by omega)
  have m3 : (hs.length + 1) * 144 ≤ 140737488355328 := by omega
  have m4 : ¬ (64 : Int) < (hs.length : Int) + 1 := by omega
  simp (maxSteps := 300000) [p52, p52_d0, p52_d1, be81, be28, hT, hh, ht, e1, e2, e3, sc, rc, vc1, vc2, v25, cm, hsl, l1, l2, l3, m1, frz80, frz41, frz137, frz152, keep25, m2, m3, m4]
end Go.Fm
/-
  chain.End on a chain with as many blocks as are kept.
-/
set_option maxRecDepth 100000
set_option linter.unusedVariables false
set_option linter.unusedSimpArgs false
namespace Go.Fm
open Go Go.Proofs
/-! CF -/
set_option maxHeartbeats 32000000 in
theorem end_core2 (b : Bool) (a : UInt8) (p h tm h1 h2 tm1 : Int) (hh : ¬ (1099511627776 ≤ h)) (ht : ¬ (1099511627776 ≤ tm)) (e1 : iAdd .u64 h 1 = h1) (e2 : iAdd .u64 h1 1 = h2) (e3 : iAdd .u64 tm 1 = tm1)
    (T : CV) (R v1 v2 sw : List UInt8) (hsl : (dI sw).length = 32) (l1 : (dI v1).length = 32) (l2 : (dI v2).length = 32) (l3 : (dI R).length = 32) (z f f' : Int) (hs ts ts' : List CV) (hlen : hs.length = 64)
    (rc : ∀ H, callX (cfg b) An 37 [.c T] H = some (.c (.arr 32 .u8 (dI R)), H))
    (vc1 : ∀ H, callX (cfg b) An 33 [.c (.int .u8 (a.toNat : Int)), .c (.int .u64 h1)] H = some (.c (.arr 32 .u8 (dI v1)), H))
    (vc2 : ∀ H, callX (cfg b) An 33 [.c (.int .u8 (a.toNat : Int)), .c (.int .u64 h2)] H = some (.c (.arr 32 .u8 (dI v2)), H))
    (sc : ∀ H, callX (cfg b) An 98 [.c (.agg [.int .u64 h1, .int .u64 tm1, .arr 32 .u8 (dI R), .arr 32 .u8 (dI v1), .arr 32 .u8 (dI v2), .arr 32 .u8 (List.replicate 32 0)])] H = some (.c (.arr 32 .u8 (dI sw)), H))
    (hT : ptrEq (.c T) (.c .nilp) = some false)
    (cm : fnX (cfg b) An 25 [.ov 0 [] 0, .c T] (logH 64 f ts) = some (.tup [.c (.int .u64 z), .c (.int .i64 0)], logD 64 f' ts')) :
    fnX (cfg b) An 52 [.ov 0 [] 0, .c T] (chH a p h tm hs f ts) = some (.tup [.c (hdC h1 tm1 R v1 v2 sw), .c (.int .i64 0)], chD a p h1 tm1 ((hs ++ [hdC h1 tm1 R v1 v2 sw]).drop 1) f' ts') := by
  rw [fnX_eq, p52_eq]
  have m1 : 1 ≤ maxLen := big_max (by decide)
  simp only [List.reduceReplicate] at sc
  simp only [chE, chH, chD, hdC, logH, logD] at cm ⊢
  have m2 : hs.length + 1 ≤ maxLen := big_max (by omega)
  have m3 : (hs.length + 1) * 144 ≤ 140737488355328 := by omega
  have m4 : (64 : Int) < (hs.length : Int) + 1 := by omega
  generalize hL : hs ++ [CV.agg [.int .u64 h1, .int .u64 tm1, .arr 32 .u8 (dI R), .arr 32 .u8 (dI v1), .arr 32 .u8 (dI v2), .arr 32 .u8 (dI sw)]] = L at *
  have hLl : L.length = 65 := by rw [← hL]; simp [hlen]
  have hDl : (L.drop 1).length = 64 := by simp [hLl]
  generalize hD : L.drop 1 = D at *
  have sl : ∀ A0 A1 A4 A5 A6 A7 A9, mSliceSl 130 (.os 8) (some (.c (.int .i64 1))) none [A0, A1, .dead, .dead, A4, A5, A6, A7, .row 80 130 L, A9] = _ := fun A0 A1 A4 A5 A6 A7 A9 => mSliceSl_tail (sz := 130) (u := 80) (es := L) (H := [A0, A1, .dead, .dead, A4, A5, A6, A7, .row 80 130 L, A9]) (i := 8) (c := 1) (k := .i64) rfl (by decide) (by rw [hLl]; decide)
  have m64 : 64 ≤ maxLen := big_max (by decide)
  have m65 : 65 ≤ maxLen := big_max (by decide)
  simp (maxSteps := 300000) [p52, p52_d0, p52_d1, be81, be28, hT, hh, ht, e1, e2, e3, sc, rc, vc1, vc2, v25, cm, hsl, l1, l2, l3, m1, frz80, frz41, frz137, frz152, keep25, m2, m3, m4, hlen, hL, hD, hLl, hDl, sl, m64, m65]
end Go.Fm
/-
  chain.End: one block more.
-/
set_option maxRecDepth 100000
set_option linter.unusedVariables false
set_option linter.unusedSimpArgs false
namespace Go.Fm
open Go Go.Proofs
/-- The header that End makes. -/
def blkC (a : UInt8) (h1 h2 tm1 : Int) (t : Option Tn) : CV := hdC h1 tm1 (Tn.hasho t) (shaW (valsB ++ a :: lenBytes h1)) (shaW (valsB ++ a :: lenBytes h2)) (hd1 a h1 h2 tm1 (Tn.hasho t)).sealW
end Go.Fm
/-
  chain.Header, chain.Tree of the first block.
-/
set_option maxRecDepth 100000
set_option linter.unusedVariables false
set_option linter.unusedSimpArgs false
namespace Go.Fm
open Go Go.Proofs
theorem bne81 {b lit : Bool} {x y : AV} {H : Heap} (h : isIS x y = false) : mBin (cfg b) 81 lit .neq x y H = eqH H true (ptrEq x y) := by rw [mBin_neg eqg81 h, aeq81]
/-! CF -/
end Go.Fm
