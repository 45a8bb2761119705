/-
  A part of the proof: PLaw10.
-/
import Derived.Test.YtjmjijgnbjkpnaaDoorPChain3
import Derived.Test.YtjmjijgnbjkpnaaDoorDChain4
import Derived.Test.YtjmjijgnbjkpnaaDoorDLaw10
set_option linter.all false
set_option autoImplicit true
/-
  Law 10, ChainNil.
-/
set_option maxRecDepth 100000
set_option linter.unusedVariables false
set_option linter.unusedSimpArgs false
namespace Go.Fm
open Go Go.Proofs

def hdZ : CV := .agg [.int .u64 0, .int .u64 0, .arr 32 .u8 (List.replicate 32 0), .arr 32 .u8 (List.replicate 32 0), .arr 32 .u8 (List.replicate 32 0), .arr 32 .u8 (List.replicate 32 0)]
section
variable {b lit : Bool} {x y : AV} {H : Heap}
theorem bne81 (h : isIS x y = false) : mBin (cfg b) 81 lit .neq x y H = eqH H true (ptrEq x y) := by rw [mBin_neg eqg81 h, aeq81]
theorem eqg80 : (cfg b).P.eqGuardType (cfg b).P.depth 80 = false := by kernel_rfl
theorem aeq80z : aeq (cfg b).P 12 80 (.c hdZ) (.c hdZ) = some true := by kernel_rfl
theorem eq80z : mBin (cfg b) 80 lit .eql (.c hdZ) (.c hdZ) H = eqH H false (some true) := by rw [mBin_eqg eqg80 (by rfl), aeq80z]
theorem eqg92 : (cfg b).P.eqGuardType (cfg b).P.depth 92 = false := by kernel_rfl
theorem be92n : mBin (cfg b) 92 lit .eql (.c .nilp) (.c .nilp) H = eqH H false (some true) := by
  rw [mBin_eqg eqg92 (by rfl)]
  have : aeq (cfg b).P 12 92 (.c .nilp) (.c .nilp) = some true := by kernel_rfl
  rw [this]
end
/-! CF -/
theorem end_nil (b : Bool) (t : Option Tn) : fnX (cfg b) An 52 [.c .nilp, .c (tC t)] [] = some (.tup [.c hdZ, .c (.int .i64 1)], []) := by
  rw [fnX_eq, p52_eq]
  simp [p52, be81, hdZ]
theorem end_notree (b : Bool) (a : UInt8) (p h tm : Int) : fnX (cfg b) An 52 [.ov 0 [] 0, .c .nilp] (chE a p h tm) = some (.tup [.c hdZ, .c (.int .i64 1)], chE a p h tm) := by
  rw [fnX_eq, p52_eq]
  simp only [chE]
  simp [p52, be81, be28, hdZ]
theorem hdr_nil (b : Bool) (n : CV) : fnX (cfg b) An 53 [.c .nilp, .c n] [] = some (.tup [.c hdZ, .c (.bool false)], []) := by
  rw [fnX_eq, p53_eq]
  simp [p53, bne81, hdZ]
theorem tree_nil (b : Bool) (n : CV) : fnX (cfg b) An 54 [.c .nilp, .c n] [] = some (.tup [.c .nilp, .c (.bool false)], []) := by
  rw [fnX_eq, p54_eq]
  simp [p54, be81]
theorem tick_nil (b : Bool) (n : CV) : fnX (cfg b) An 55 [.c .nilp, .c n] [] = some (.tup [], []) := by
  rw [fnX_eq, p55_eq]
  simp [p55, bne81]
theorem open_nil (b : Bool) (x : HdrL) (ok : x.Ok) : fnX (cfg b) An 57 [.c .nilp, .c x.cv] [] = some (.c (.int .i64 1), []) := by
  rw [fnX_eq, p57_eq]
  simp [p57, be81, HdrL.cv]
theorem client_nil (b : Bool) : fnX (cfg b) An 58 [.c .nilp] [] = some (.c .nilp, []) := by
  rw [fnX_eq, p58_eq]
  simp [p58, be81]
theorem height_nil (b : Bool) : fnX (cfg b) An 59 [.c .nilp] [] = some (.c (.int .u64 0), []) := by
  rw [fnX_eq, p59_eq]
  simp [p59, be81]
theorem time_nil (b : Bool) : fnX (cfg b) An 60 [.c .nilp] [] = some (.c (.int .u64 0), []) := by
  rw [fnX_eq, p60_eq]
  simp [p60, be81]
theorem height_new (b : Bool) (a : UInt8) (p h tm : Int) : fnX (cfg b) An 59 [.ov 0 [] 0] (chE a p h tm) = some (.c (.int .u64 h), chE a p h tm) := by
  rw [fnX_eq, p59_eq]
  simp only [chE]
  simp [p59, be81]
set_option maxHeartbeats 16000000 in
theorem chainNil_fn (b : Bool) (n : Int) (x : HdrL) (ok : x.Ok) : fnX (cfg b) An 10 [.c (.int .u64 n), .c x.cv] [] = some (.c (.bool true), []) := by
  rw [fnX_eq, p10_eq]
  have c0 := awake18_call b
  have nc := new_call b
  have e1 : ∀ H, callX (cfg b) An 52 [.c .nilp, .c (tC none)] H = _ := callX_pure (end_nil b none) rfl rfl (prim_none (by decide))
  have e2 : ∀ H, callX (cfg b) An 53 [.c .nilp, .c (.int .u64 n)] H = _ := callX_pure (hdr_nil b _) rfl rfl (prim_none (by decide))
  have e3 : ∀ H, callX (cfg b) An 54 [.c .nilp, .c (.int .u64 n)] H = _ := callX_pure (tree_nil b _) rfl rfl (prim_none (by decide))
  have e4 : ∀ H, callX (cfg b) An 55 [.c .nilp, .c (.int .u64 n)] H = _ := callX_pure (tick_nil b _) rfl rfl (prim_none (by decide))
  have e5 : ∀ H, callX (cfg b) An 57 [.c .nilp, .c x.cv] H = _ := callX_pure (open_nil b x ok) rfl rfl (prim_none (by decide))
  have e6 : ∀ H, callX (cfg b) An 58 [.c .nilp] H = _ := callX_pure (client_nil b) rfl rfl (prim_none (by decide))
  have e7 : ∀ H, callX (cfg b) An 59 [.c .nilp] H = _ := callX_pure (height_nil b) rfl rfl (prim_none (by decide))
  have e8 : ∀ H, callX (cfg b) An 60 [.c .nilp] H = _ := callX_pure (time_nil b) rfl rfl (prim_none (by decide))
  have nw := chain_new' b 1 5 (by decide) (by decide)
  have en := end_notree b 1 5 0 0
  have hn := height_new b 1 5 0 0
  have t1 : ((1 : UInt8).toNat : Int) = 1 := rfl
  have z := fun H => eq80z (b := b) (lit := false) (H := H)
  have h1 : (dI x.root).length = 32 := len32 ok.root
  have h2 : (dI x.vals).length = 32 := len32 ok.vals
  have h3 : (dI x.next).length = 32 := len32 ok.next
  have h4 : (dI x.sl).length = 32 := len32 ok.sl
  have e1' := end_nil b none
  simp only [chE, hdZ, t1, List.reduceReplicate, HdrL.cv] at e1 e1' e2 e5 nw en hn z
  simp only [HdrL.cv]
  simp (maxSteps := 1000000) [p10, c0, nc, e1, e2, e3, e4, e5, e6, e7, e8, v56, nw, v52, en, v59, hn, z, height_nil b, e1', be28, be92n, h1, h2, h3, h4, frz152, frz137, frz80]
end Go.Fm

