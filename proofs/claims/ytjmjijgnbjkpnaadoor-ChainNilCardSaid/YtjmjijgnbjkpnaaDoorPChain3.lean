/-
  A part of the proof: PChain3.
-/
import Derived.Test.YtjmjijgnbjkpnaaDoorPChain2
set_option linter.all false
set_option autoImplicit true
/-
  ferrymanlaw18.Awake.
-/
set_option maxRecDepth 100000
set_option linter.unusedVariables false
set_option linter.unusedSimpArgs false
namespace Go.Fm
open Go Go.Proofs

theorem v52 {b : Bool} {H : Heap} {vs : List AV} : callX (cfg b) An 52 vs H = cvw (fnX (cfg b) An 52) (handCs (cfg b) false H vs) := callX_v (prim_none (by decide))
theorem v56 {b : Bool} {H : Heap} {vs : List AV} : callX (cfg b) An 56 vs H = cvw (fnX (cfg b) An 56) (handCs (cfg b) false H vs) := callX_v (prim_none (by decide))
theorem v59 {b : Bool} {H : Heap} {vs : List AV} : callX (cfg b) An 59 vs H = cvw (fnX (cfg b) An 59) (handCs (cfg b) false H vs) := callX_v (prim_none (by decide))
theorem height_fn (b : Bool) (a : UInt8) (p h t : Int) (hs : List CV) (f : Int) (ts : List CV) : fnX (cfg b) An 59 [.ov 0 [] 0] (chH a p h t hs f ts) = some (.c (.int .u64 h), chH a p h t hs f ts) := by
  rw [fnX_eq, p59_eq]
  simp only [chH]
  simp [p59, be81]
theorem chain_new' (b : Bool) (a : UInt8) (p : Int) (h : ¬ p < 1) (h2 : ¬ p > 4294967296) : fnX (cfg b) An 56 [.c (.int .u8 (a.toNat : Int)), .c (.int .u64 p)] [] =
    some (.tup [.ov 0 [] 0, .c (.int .i64 0)], chE a p 0 0) := chain_new b _ p h h2
/-! CF -/
set_option maxHeartbeats 16000000 in
theorem awake18_core (b : Bool) (R v1 v2 sw : List UInt8) (hsl : (dI sw).length = 32) (l1 : (dI v1).length = 32) (l2 : (dI v2).length = 32) (l3 : (dI R).length = 32)
    (en : fnX (cfg b) An 52 [.ov 0 [] 0, .c (tC none)] (chE 0 10 0 0) = some (.tup [.c (hdC 1 1 R v1 v2 sw), .c (.int .i64 0)], chH 0 10 1 1 [hdC 1 1 R v1 v2 sw] 1 [tC none]))
    (ec : ∀ H, callX (cfg b) An 62 [] H = some (.c (.arr 32 .u8 (dI R)), H)) : fnX (cfg b) An 31 [] [] = some (.c (.bool true), []) := by
  rw [fnX_eq, p31_eq]
  have nw := chain_new' b 0 10 (by decide) (by decide)
  have hg := height_fn b 0 10 1 1 [hdC 1 1 R v1 v2 sw] 1 [tC none]
  have nc := new_call b
  have t0 : ((0 : UInt8).toNat : Int) = 0 := rfl
  simp only [chE, chH, hdC, t0] at nw en hg
  simp (maxSteps := 1000000) [p31, p31_d0, v56, nw, nc, v52, en, v59, hg, ec, be41, hsl, l1, l2, l3, frz152, frz137, frz80]
theorem awake18 (b : Bool) : fnX (cfg b) An 31 [] [] = some (.c (.bool true), []) := by
  have en := end_first b 0 10 0 0 1 2 1 (by decide) (by decide) (by decide) (by decide) (by decide) none
  have l0 := len32 (HdrL.sealW_len (hd1 0 1 2 1 (Tn.hasho none)))
  have l1 := len32 (shaW_len (valsB ++ 0 :: lenBytes 1))
  have l2 := len32 (shaW_len (valsB ++ 0 :: lenBytes 2))
  have l3 := len32 (hashoL none)
  have ec := empty_call b
  have hn : Tn.hasho none = shaW [] := rfl
  rw [← hn] at ec
  generalize (hd1 0 1 2 1 (Tn.hasho none)).sealW = sw at en l0
  generalize shaW (valsB ++ 0 :: lenBytes 1) = v1 at en l1
  generalize shaW (valsB ++ 0 :: lenBytes 2) = v2 at en l2
  generalize Tn.hasho none = R at en l3 ec
  exact awake18_core b R v1 v2 sw l0 l1 l2 l3 en ec
theorem awake18_call (b : Bool) (H : Heap) : callX (cfg b) An 31 [] H = some (.c (.bool true), H) := callX_pure (awake18 b) rfl rfl (prim_none (by decide)) H
end Go.Fm

