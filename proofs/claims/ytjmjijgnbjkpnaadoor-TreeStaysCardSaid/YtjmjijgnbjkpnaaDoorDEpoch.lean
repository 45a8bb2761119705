/-
  A part of the proof: DEpoch.
-/
import Derived.Test.YtjmjijgnbjkpnaaDoorDAnn
set_option linter.all false
set_option autoImplicit true
/-
  What the interpreter does to functions, without slots and types; the kernel holds it against the code.
-/
set_option maxRecDepth 100000
set_option linter.unusedVariables false
namespace Go.Fm
open Go Go.Proofs
/-- ferryman/tree.New -/
noncomputable def p26 (b : Bool) (cf : CallFn) (k : Nat) (H : Heap) : Option (AV × Heap) :=
  bindE (mBuildS [.nilp] [] H) fun t1_0 H_1 =>
  bindE (mBox 140 t1_0 H_1) fun t2_2 H_3 =>
  endQ (cfg b) false k (resC1 (some t2_2) (some [])) H_3
/-- (*ferryman/tree.Tree).Root -/
noncomputable def p37 (b : Bool) (cf : CallFn) (k : Nat) (t0 : AV) (H : Heap) : Option (AV × Heap) :=
  bindE (mAlloc 41 (.arr 32 .u8 (List.replicate 32 0)) H) fun t2_0 H_1 =>
  bindE (mBin (cfg b) 28 true .eql t0 (AV.c .nilp) H_1) fun t4_2 H_3 =>
  bindE (guardR (wantR false t4_2) (some (t0, H_3)) H_3) fun t6_4 H_5 =>
  bindE (guardR (wantR false t4_2) (mNil t6_4 H_5) H_5) fun t7_6 H_7 =>
  bindE (guardR (wantR false t4_2) (mFA 0 0 t7_6 H_7) H_7) fun t8_8 H_9 =>
  bindE (guardR (wantR false t4_2) (mLoad false 1 t8_8 H_9) H_9) fun t9_10 H_11 =>
  bindE (guardR (wantR false t4_2) (mBin (cfg b) 138 true .eql t9_10 (AV.c .nilp) H_11) H_11) fun t10_12 H_13 =>
  bindE (mPick t4_2 (AV.c (.bool true)) t10_12 H_13) fun t11_14 H_15 =>
  condR t11_14 (bindE (cf 62 [] H_15) fun t12_16 H_17 =>
  bindE (mStore true 32 t2_0 t12_16 H_17) fun u_18 H_19 =>
  endQ (cfg b) false k (resC1 (mld true 32 H_19 t2_0) (some [])) H_19) (bindE (mNil t0 H_15) fun t14_20 H_21 =>
  bindE (mFA 0 0 t14_20 H_21) fun t15_22 H_23 =>
  bindE (mLoad false 1 t15_22 H_23) fun t16_24 H_25 =>
  bindE (mNil t16_24 H_25) fun t17_26 H_27 =>
  bindE (mFA 1 68 t17_26 H_27) fun t18_28 H_29 =>
  bindE (mLoad true 32 t18_28 H_29) fun t19_30 H_31 =>
  bindE (mStore true 32 t2_0 t19_30 H_31) fun u_32 H_33 =>
  endQ (cfg b) false k (resC1 (mld true 32 H_33 t2_0) (some [])) H_33)
/-- ferryman/tree.Empty -/
noncomputable def p62 (b : Bool) (cf : CallFn) (k : Nat) (H : Heap) : Option (AV × Heap) :=
  bindE (mAlloc 41 (.arr 32 .u8 (List.replicate 32 0)) H) fun t0_0 H_1 =>
  bindE (mBuildSl 38 1 .nilsl 1 [(0, (AV.c .nilsl))] H_1) fun t1_2 H_3 =>
  bindE (cf 88 [t1_2] H_3) fun t2_4 H_5 =>
  bindE (mStore true 32 t0_0 t2_4 H_5) fun u_6 H_7 =>
  endQ (cfg b) false k (resC1 (mld true 32 H_7 t0_0) (some [])) H_7
theorem p26_eq (b : Bool) (cf : CallFn) (H : Heap) : runG (cfg b) cf An 26 [] H = p26 b cf H.length  H := by kernel_rfl
theorem p37_eq (b : Bool) (cf : CallFn) (t0 : AV) (H : Heap) : runG (cfg b) cf An 37 [t0] H = p37 b cf H.length t0 H := by kernel_rfl
theorem p62_eq (b : Bool) (cf : CallFn) (H : Heap) : runG (cfg b) cf An 62 [] H = p62 b cf H.length  H := by kernel_rfl
end Go.Fm
