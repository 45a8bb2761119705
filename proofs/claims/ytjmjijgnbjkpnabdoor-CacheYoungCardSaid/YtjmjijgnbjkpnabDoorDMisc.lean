/-
  A part of the proof: DMisc.
-/
import Derived.Test.YtjmjijgnbjkpnabDoorDAnn
set_option linter.all false
set_option autoImplicit true
/-
  What the interpreter does to functions, without slots and types; the kernel holds it against the code.
-/
set_option maxRecDepth 100000
set_option linter.unusedVariables false
namespace Go.Fm
open Go Go.Proofs
/-- ferryman/tlv.Put -/
noncomputable def p47 (b : Bool) (cf : CallFn) (k : Nat) (t0 t1 t2 : AV) (H : Heap) : Option (AV × Heap) :=
  bindE (mBuildSl 5 1 (.int .u8 0) 0 [] H) fun t9_0 H_1 =>
  bindE (mAppend 5 1 1 false t9_0 t0 H_1) fun t11_2 H_3 =>
  bindE (mLenSl t2 H_3) fun t14_4 H_5 =>
  bindE (mBin (cfg b) 3 true .gtr t14_4 (AV.c (.int .i64 65535)) H_5) fun t15_6 H_7 =>
  condR t15_6 (endQ (cfg b) false k (resC1 (some (AV.c .nilsl)) (resC1 (some (AV.c (.int .i64 3))) (some []))) H_7) (bindE (mLenSl t2 H_7) fun t18_8 H_9 =>
  bindE (mBin (cfg b) 3 true .eql t18_8 (AV.c (.int .i64 0)) H_9) fun t19_10 H_11 =>
  condR t19_10 (endQ (cfg b) false k (resC1 (some t11_2) (resC1 (some (AV.c (.int .i64 0))) (some []))) H_11) (bindE (mLenSl t2 H_11) fun t24_12 H_13 =>
  bindE (mBin (cfg b) 3 true .shr t24_12 (AV.c (.int .u64 8)) H_13) fun t25_14 H_15 =>
  bindE (mConvI .u8 t25_14 H_15) fun t26_16 H_17 =>
  bindE (mLenSl t2 H_17) fun t28_18 H_19 =>
  bindE (mConvI .u8 t28_18 H_19) fun t29_20 H_21 =>
  bindE (mBuildSl 5 1 (.int .u8 0) 3 [(0, t1), (1, t26_16), (2, t29_20)] H_21) fun t30_22 H_23 =>
  bindE (mAppend 5 1 1 false t11_2 t30_22 H_23) fun t31_24 H_25 =>
  bindE (mAppend 5 1 1 false t31_24 t2 H_25) fun t34_26 H_27 =>
  endQ (cfg b) false k (resC1 (some t34_26) (resC1 (some (AV.c (.int .i64 0))) (some []))) H_27))
theorem p47_eq (b : Bool) (cf : CallFn) (t0 t1 t2 : AV) (H : Heap) : runG (cfg b) cf An 47 [t0, t1, t2] H = p47 b cf H.length t0 t1 t2 H := by kernel_rfl
end Go.Fm
