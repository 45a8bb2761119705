/-
  A part of the proof: DFr.
-/
import Derived.Test.YtjmjijgnbjkpnaaDoorDAnn
set_option linter.all false
set_option autoImplicit true
/-
  All and Nodes, once more: what bytes.Clone gives lies fresh.
-/
set_option maxRecDepth 100000
set_option linter.unusedVariables false
namespace Go.Fm
open Go Go.Proofs
/-- (*ferryman/tree.Tree).All -/
noncomputable def f51 (b : Bool) (cf : CallFn) (k : Nat) (t0 : AV) (H : Heap) : Option (AV × Heap) :=
  bindE (mBin cfgF 28 true .eql t0 (AV.c .nilp) H) fun t4_0 H_1 =>
  condR t4_0 (endQ cfgF false k (resC1 (some (AV.c .nilsl)) (some [])) H_1) (bindE (mNil t0 H_1) fun t6_2 H_3 =>
  bindE (mFA 0 0 t6_2 H_3) fun t7_4 H_5 =>
  bindE (mLoad false 1 t7_4 H_5) fun t8_6 H_7 =>
  bindE (cf 97 [t8_6, (AV.c .nilsl)] H_7) fun t9_8 H_9 =>
  endQ cfgF false k (resC1 (some t9_8) (some [])) H_9)
/-- ferryman/tree.walk -/
noncomputable def f97 (b : Bool) (cf : CallFn) (k : Nat) (t0 t1 : AV) (H : Heap) : Option (AV × Heap) :=
  bindE (mBin cfgF 138 true .eql t0 (AV.c .nilp) H) fun t7_0 H_1 =>
  condR t7_0 (endQ cfgF true k (resC1 (some t1) (some [])) H_1) (bindE (mNil t0 H_1) fun t11_2 H_3 =>
  bindE (mFA 0 0 t11_2 H_3) fun t12_4 H_5 =>
  bindE (mFA 2 2 t12_4 H_5) fun t13_6 H_7 =>
  bindE (mLoad false 1 t13_6 H_7) fun t14_8 H_9 =>
  bindE (mBin cfgF 3 true .eql t14_8 (AV.c (.int .i64 0)) H_9) fun t15_10 H_11 =>
  condR t15_10 (afterD (twice [0, 0, 2, 6, 14, 30, 62, 0, 128, 384, 896, 1920, 4094, 8190, 16382, 32767, 65535] (fun H_12 => bindE (drawM (some t1) H_12) fun t16_13 H_14 =>
  bindE (drawM (some t0) H_14) fun t17_15 H_16 =>
  bindE (drawR true [t17_15.1] (fun F => mNil t17_15.1 F) H_16) fun t18_17 H_18 =>
  bindE (drawR true [t18_17.1] (fun F => mFA 0 0 t18_17.1 F) H_18) fun t19_19 H_20 =>
  bindE (drawR true [t19_19.1] (fun F => mFA 0 0 t19_19.1 F) H_20) fun t20_21 H_22 =>
  bindE (drawR true [t20_21.1] (fun F => mLoad false 1 t20_21.1 F) H_22) fun t21_23 H_24 =>
  bindE (drawR false [t21_23.1] (fun F => cf 103 [t21_23.1] F) H_24) fun t22_25 H_26 =>
  bindE (drawM (some t0) H_26) fun t23_27 H_28 =>
  bindE (drawR true [t23_27.1] (fun F => mNil t23_27.1 F) H_28) fun t24_29 H_30 =>
  bindE (drawR true [t24_29.1] (fun F => mFA 0 0 t24_29.1 F) H_30) fun t25_31 H_32 =>
  bindE (drawR true [t25_31.1] (fun F => mFA 1 1 t25_31.1 F) H_32) fun t26_33 H_34 =>
  bindE (drawR true [t26_33.1] (fun F => mLoad false 1 t26_33.1 F) H_34) fun t27_35 H_36 =>
  bindE (drawR false [t27_35.1] (fun F => cf 103 [t27_35.1] F) H_36) fun t28_37 H_38 =>
  bindE (drawR false [t22_25.1, t28_37.1] (fun F => mBuildS [.nilsl, .nilsl] [(0, t22_25.1), (1, t28_37.1)] F) H_38) fun t29_39 H_40 =>
  bindE (drawR false [t29_39.1] (fun F => mBuildSl 97 2 (.agg [.nilsl, .nilsl]) 1 [(0, t29_39.1)] F) H_40) fun t30_41 H_42 =>
  bindE (drawR false [t16_13.1, t30_41.1] (fun F => mAppend 97 2 48 false t16_13.1 t30_41.1 F) H_42) fun t31_43 H_44 =>
  bindE (drawM (some t31_43.1) H_44) fun t4_45 H_46 =>
  some (([t4_45.1], [t16_13.2, t17_15.2, t18_17.2, t19_19.2, t20_21.2, t21_23.2, t22_25.2, t23_27.2, t24_29.2, t25_31.2, t26_33.2, t27_35.2, t28_37.2, t29_39.2, t30_41.2, t31_43.2, t4_45.2]), H_46)) H_11) fun vs_47 H_48 =>
  un vs_47 fun t4_49 vs_50 => un0 vs_50 (endQ cfgF true k (resC1 (some t4_49) (some [])) H_48)) (afterD (twice [0, 1, 3, 7, 0, 16, 48, 112, 0, 496, 1023, 2047] (fun H_51 => bindE (drawM (some t0) H_51) fun t32_52 H_53 =>
  bindE (drawR true [t32_52.1] (fun F => mNil t32_52.1 F) H_53) fun t33_54 H_55 =>
  bindE (drawR true [t33_54.1] (fun F => mFA 3 101 t33_54.1 F) H_55) fun t34_56 H_57 =>
  bindE (drawR true [t34_56.1] (fun F => mLoad false 1 t34_56.1 F) H_57) fun t35_58 H_59 =>
  bindE (drawM (some t0) H_59) fun t36_60 H_61 =>
  bindE (drawR true [t36_60.1] (fun F => mNil t36_60.1 F) H_61) fun t37_62 H_63 =>
  bindE (drawR true [t37_62.1] (fun F => mFA 2 100 t37_62.1 F) H_63) fun t38_64 H_65 =>
  bindE (drawR true [t38_64.1] (fun F => mLoad false 1 t38_64.1 F) H_65) fun t39_66 H_67 =>
  bindE (drawM (some t1) H_67) fun t40_68 H_69 =>
  bindE (drawR false [t39_66.1, t40_68.1] (fun F => cf 97 [t39_66.1, t40_68.1] F) H_69) fun t41_70 H_71 =>
  bindE (drawR false [t35_58.1, t41_70.1] (fun F => cf 97 [t35_58.1, t41_70.1] F) H_71) fun t42_72 H_73 =>
  bindE (drawM (some t42_72.1) H_73) fun t4_74 H_75 =>
  some (([t4_74.1], [t32_52.2, t33_54.2, t34_56.2, t35_58.2, t36_60.2, t37_62.2, t38_64.2, t39_66.2, t40_68.2, t41_70.2, t42_72.2, t4_74.2]), H_75)) H_11) fun vs_76 H_77 =>
  un vs_76 fun t4_78 vs_79 => un0 vs_79 (endQ cfgF true k (resC1 (some t4_78) (some [])) H_77)))
/-- (*ferryman/tree.Tree).Nodes -/
noncomputable def f66 (b : Bool) (cf : CallFn) (k : Nat) (t0 : AV) (H : Heap) : Option (AV × Heap) :=
  bindE (mBin cfgF 28 true .eql t0 (AV.c .nilp) H) fun t4_0 H_1 =>
  condR t4_0 (endQ cfgF false k (resC1 (some (AV.c .nilsl)) (some [])) H_1) (bindE (mNil t0 H_1) fun t6_2 H_3 =>
  bindE (mFA 0 0 t6_2 H_3) fun t7_4 H_5 =>
  bindE (mLoad false 1 t7_4 H_5) fun t8_6 H_7 =>
  bindE (cf 105 [t8_6, (AV.c .nilsl)] H_7) fun t9_8 H_9 =>
  endQ cfgF false k (resC1 (some t9_8) (some [])) H_9)
/-- ferryman/tree.nodes -/
noncomputable def f105 (b : Bool) (cf : CallFn) (k : Nat) (t0 t1 : AV) (H : Heap) : Option (AV × Heap) :=
  bindE (mBin cfgF 138 true .eql t0 (AV.c .nilp) H) fun t6_0 H_1 =>
  condR t6_0 (endQ cfgF true k (resC1 (some t1) (some [])) H_1) (afterD (twice [0, 1, 3, 7, 0, 16, 48, 112, 0, 0, 512, 1536, 3584, 7680, 15872, 32512, 65520, 131071, 262143] (fun H_2 => bindE (drawM (some t0) H_2) fun t8_3 H_4 =>
  bindE (drawR true [t8_3.1] (fun F => mNil t8_3.1 F) H_4) fun t9_5 H_6 =>
  bindE (drawR true [t9_5.1] (fun F => mFA 3 101 t9_5.1 F) H_6) fun t10_7 H_8 =>
  bindE (drawR true [t10_7.1] (fun F => mLoad false 1 t10_7.1 F) H_8) fun t11_9 H_10 =>
  bindE (drawM (some t0) H_10) fun t12_11 H_12 =>
  bindE (drawR true [t12_11.1] (fun F => mNil t12_11.1 F) H_12) fun t13_13 H_14 =>
  bindE (drawR true [t13_13.1] (fun F => mFA 2 100 t13_13.1 F) H_14) fun t14_15 H_16 =>
  bindE (drawR true [t14_15.1] (fun F => mLoad false 1 t14_15.1 F) H_16) fun t15_17 H_18 =>
  bindE (drawM (some t1) H_18) fun t16_19 H_20 =>
  bindE (drawM (some t0) H_20) fun t17_21 H_22 =>
  bindE (drawR true [t17_21.1] (fun F => mNil t17_21.1 F) H_22) fun t18_23 H_24 =>
  bindE (drawR true [t18_23.1] (fun F => mFA 0 0 t18_23.1 F) H_24) fun t19_25 H_26 =>
  bindE (drawR true [t19_25.1] (fun F => mLoad true 68 t19_25.1 F) H_26) fun t20_27 H_28 =>
  bindE (drawR false [t20_27.1] (fun F => cf 95 [t20_27.1] F) H_28) fun t21_29 H_30 =>
  bindE (drawR false [t21_29.1] (fun F => mBuildSl 66 68 (.agg [.nilsl, .nilsl, (.int .i64 0), (.int .u64 0), (.arr 32 .u8 (List.replicate 32 0)), (.arr 32 .u8 (List.replicate 32 0))]) 1 [(0, t21_29.1)] F) H_30) fun t22_31 H_32 =>
  bindE (drawR false [t16_19.1, t22_31.1] (fun F => mAppend 66 68 128 false t16_19.1 t22_31.1 F) H_32) fun t23_33 H_34 =>
  bindE (drawR false [t15_17.1, t23_33.1] (fun F => cf 105 [t15_17.1, t23_33.1] F) H_34) fun t24_35 H_36 =>
  bindE (drawR false [t11_9.1, t24_35.1] (fun F => cf 105 [t11_9.1, t24_35.1] F) H_36) fun t25_37 H_38 =>
  bindE (drawM (some t25_37.1) H_38) fun t4_39 H_40 =>
  some (([t4_39.1], [t8_3.2, t9_5.2, t10_7.2, t11_9.2, t12_11.2, t13_13.2, t14_15.2, t15_17.2, t16_19.2, t17_21.2, t18_23.2, t19_25.2, t20_27.2, t21_29.2, t22_31.2, t23_33.2, t24_35.2, t25_37.2, t4_39.2]), H_40)) H_1) fun vs_41 H_42 =>
  un vs_41 fun t4_43 vs_44 => un0 vs_44 (endQ cfgF true k (resC1 (some t4_43) (some [])) H_42))
/-- ferryman/tree.copied -/
noncomputable def f95 (b : Bool) (cf : CallFn) (k : Nat) (t0 : AV) (H : Heap) : Option (AV × Heap) :=
  bindE (mBox 66 t0 H) fun t1_0 H_1 =>
  bindE (mAlloc 66 (.agg [.nilsl, .nilsl, (.int .i64 0), (.int .u64 0), (.arr 32 .u8 (List.replicate 32 0)), (.arr 32 .u8 (List.replicate 32 0))]) H_1) fun t2_2 H_3 =>
  afterD (twice [0, 1, 3, 0, 8, 31, 31, 127, 255, 511] (fun H_4 => bindE (drawR true [t1_0] (fun F => mFA 0 0 t1_0 F) H_4) fun t3_5 H_6 =>
  bindE (drawR true [t3_5.1] (fun F => mLoad false 1 t3_5.1 F) H_6) fun t4_7 H_8 =>
  bindE (drawR false [t4_7.1] (fun F => cf 103 [t4_7.1] F) H_8) fun t5_9 H_10 =>
  bindE (drawR true [t1_0] (fun F => mFA 1 1 t1_0 F) H_10) fun t6_11 H_12 =>
  bindE (drawR true [t6_11.1] (fun F => mLoad false 1 t6_11.1 F) H_12) fun t7_13 H_14 =>
  bindE (drawR false [t7_13.1] (fun F => cf 103 [t7_13.1] F) H_14) fun t8_15 H_16 =>
  bindE (drawR true [t1_0] (fun F => mFA 0 0 t1_0 F) H_16) fun t9_17 H_18 =>
  bindE (drawR false [t9_17.1, t5_9.1] (fun F => mStore false 1 t9_17.1 t5_9.1 F) H_18) fun u_19 H_20 =>
  bindE (drawR true [t1_0] (fun F => mFA 1 1 t1_0 F) H_20) fun t10_21 H_22 =>
  bindE (drawR false [t10_21.1, t8_15.1] (fun F => mStore false 1 t10_21.1 t8_15.1 F) H_22) fun u_23 H_24 =>
  some (([], [t3_5.2, t4_7.2, t5_9.2, t6_11.2, t7_13.2, t8_15.2, t9_17.2, u_19.2, t10_21.2, u_23.2]), H_24)) H_3) fun vs_25 H_26 =>
  un0 vs_25 (bindE (mLoad true 68 t1_0 H_26) fun t11_27 H_28 =>
  bindE (mStore true 68 t2_2 t11_27 H_28) fun u_29 H_30 =>
  endQ cfgF false k (resC1 (mld true 68 H_30 t2_2) (some [])) H_30)
theorem f51_eq (b : Bool) (cf : CallFn) (t0 : AV) (H : Heap) : runG cfgF cf An0 51 [t0] H = f51 b cf H.length t0 H := by kernel_rfl
theorem f66_eq (b : Bool) (cf : CallFn) (t0 : AV) (H : Heap) : runG cfgF cf An0 66 [t0] H = f66 b cf H.length t0 H := by kernel_rfl
theorem f95_eq (b : Bool) (cf : CallFn) (t0 : AV) (H : Heap) : runG cfgF cf An0 95 [t0] H = f95 b cf H.length t0 H := by kernel_rfl
theorem f97_eq (b : Bool) (cf : CallFn) (t0 t1 : AV) (H : Heap) : runG cfgF cf An0 97 [t0, t1] H = f97 b cf H.length t0 t1 H := by kernel_rfl
theorem f105_eq (b : Bool) (cf : CallFn) (t0 t1 : AV) (H : Heap) : runG cfgF cf An0 105 [t0, t1] H = f105 b cf H.length t0 t1 H := by kernel_rfl
end Go.Fm
