/-
  A part of the proof: DChain2.
-/
import Derived.Test.YtjmjijgnbjkpnaaDoorDAnn
set_option linter.all false
set_option autoImplicit true
/-
  What the interpreter does to functions, without slots and types; the kernel holds it against the code.
-/
set_option maxRecDepth 100000
set_option linter.unusedVariables false
namespace Go.Fm
open Go Go.Proofs

/-- ferryman/parcel.Seal -/
noncomputable def p98 (b : Bool) (cf : CallFn) (k : Nat) (t0 : AV) (H : Heap) : Option (AV × Heap) :=
  bindE (mBox 80 t0 H) fun t1_0 H_1 =>
  bindE (mAlloc 41 (.arr 32 .u8 (List.replicate 32 0)) H_1) fun t2_2 H_3 =>
  bindE (mBuildA 32 .u8 (List.replicate 32 0) [] H_3) fun t3_4 H_5 =>
  bindE (mFA 5 98 t1_0 H_5) fun t4_6 H_7 =>
  bindE (mStore true 32 t4_6 t3_4 H_7) fun u_8 H_9 =>
  afterD (twice [0, 1, 0, 4, 0, 16, 63, 127, 255] (fun H_10 => bindE (drawR false [] (fun F => mBuildSl 5 1 (.int .u8 0) 4 [(0, (AV.c (.int .u8 115))), (1, (AV.c (.int .u8 101))), (2, (AV.c (.int .u8 97))), (3, (AV.c (.int .u8 108)))] F) H_10) fun t5_11 H_12 =>
  bindE (drawR true [t5_11.1] (fun F => mConv0 t5_11.1 F) H_12) fun t6_13 H_14 =>
  bindE (drawR true [t1_0] (fun F => mFA 3 34 t1_0 F) H_14) fun t7_15 H_16 =>
  bindE (drawR false [t7_15.1] (fun F => mSliceArr 32 t7_15.1 none none F) H_16) fun t8_17 H_18 =>
  bindE (drawR true [t1_0] (fun F => mLoad true 130 t1_0 F) H_18) fun t9_19 H_20 =>
  bindE (drawR false [t9_19.1] (fun F => cf 127 [t9_19.1] F) H_20) fun t10_21 H_22 =>
  bindE (drawR false [t6_13.1, t8_17.1, t10_21.1] (fun F => mBuildSl 38 1 .nilsl 3 [(0, t6_13.1), (1, t8_17.1), (2, t10_21.1)] F) H_22) fun t11_23 H_24 =>
  bindE (drawR false [t11_23.1] (fun F => cf 88 [t11_23.1] F) H_24) fun t12_25 H_26 =>
  bindE (drawR false [t2_2, t12_25.1] (fun F => mStore true 32 t2_2 t12_25.1 F) H_26) fun u_27 H_28 =>
  some (([], [t5_11.2, t6_13.2, t7_15.2, t8_17.2, t9_19.2, t10_21.2, t11_23.2, t12_25.2, u_27.2]), H_28)) H_9) fun vs_29 H_30 =>
  un0 vs_29 (endQ (cfg b) false k (resC1 (mld true 32 H_30 t2_2) (some [])) H_30)

/-- ferryman/parcel.Header -/
noncomputable def p127 (b : Bool) (cf : CallFn) (k : Nat) (t0 : AV) (H : Heap) : Option (AV × Heap) :=
  bindE (mBox 80 t0 H) fun t1_0 H_1 =>
  bindE (mBuildS [.nilsl, (.int .i64 0)] [] H_1) fun t4_2 H_3 =>
  bindE (mBox 220 t4_2 H_3) fun t5_4 H_5 =>
  bindE (mFA 0 0 t1_0 H_5) fun t7_6 H_7 =>
  bindE (mLoad false 1 t7_6 H_7) fun t8_8 H_9 =>
  bindE (cf 145 [t5_4, (AV.c (.int .u8 1)), t8_8] H_9) fun t9_10 H_11 =>
  bindE (mFA 1 1 t1_0 H_11) fun t11_12 H_13 =>
  bindE (mLoad false 1 t11_12 H_13) fun t12_14 H_15 =>
  bindE (cf 145 [t5_4, (AV.c (.int .u8 2)), t12_14] H_15) fun t13_16 H_17 =>
  bindE (mFA 2 2 t1_0 H_17) fun t15_18 H_19 =>
  bindE (mLoad true 32 t15_18 H_19) fun t16_20 H_21 =>
  bindE (cf 146 [t5_4, (AV.c (.int .u8 3)), t16_20] H_21) fun t17_22 H_23 =>
  bindE (mFA 3 34 t1_0 H_23) fun t19_24 H_25 =>
  bindE (mLoad true 32 t19_24 H_25) fun t20_26 H_27 =>
  bindE (cf 146 [t5_4, (AV.c (.int .u8 4)), t20_26] H_27) fun t21_28 H_29 =>
  bindE (mFA 4 66 t1_0 H_29) fun t23_30 H_31 =>
  bindE (mLoad true 32 t23_30 H_31) fun t24_32 H_33 =>
  bindE (cf 146 [t5_4, (AV.c (.int .u8 5)), t24_32] H_33) fun t25_34 H_35 =>
  bindE (mFA 5 98 t1_0 H_35) fun t27_36 H_37 =>
  bindE (mLoad true 32 t27_36 H_37) fun t28_38 H_39 =>
  bindE (cf 146 [t5_4, (AV.c (.int .u8 6)), t28_38] H_39) fun t29_40 H_41 =>
  bindE (mNil t5_4 H_41) fun t31_42 H_43 =>
  bindE (mFA 0 0 t31_42 H_43) fun t32_44 H_45 =>
  bindE (mLoad false 1 t32_44 H_45) fun t33_46 H_47 =>
  endQ (cfg b) false k (resC1 (some t33_46) (some [])) H_47

theorem p98_eq (b : Bool) (cf : CallFn) (t0 : AV) (H : Heap) : runG (cfg b) cf An 98 [t0] H = p98 b cf H.length t0 H := by kernel_rfl
theorem p127_eq (b : Bool) (cf : CallFn) (t0 : AV) (H : Heap) : runG (cfg b) cf An 127 [t0] H = p127 b cf H.length t0 H := by kernel_rfl

end Go.Fm

