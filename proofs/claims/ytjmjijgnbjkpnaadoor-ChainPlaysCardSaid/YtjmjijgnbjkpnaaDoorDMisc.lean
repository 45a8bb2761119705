/-
  A part of the proof: DMisc.
-/
import Derived.Test.YtjmjijgnbjkpnaaDoorDAnn
set_option linter.all false
set_option autoImplicit true
/-
  What the interpreter does to functions, without slots and types; the kernel holds it against the code.
-/
set_option maxRecDepth 100000
set_option linter.unusedVariables false
namespace Go.Fm
open Go Go.Proofs
noncomputable def p131_l0 (b : Bool) (cf : CallFn) (k : Nat) (s : List AV) (H : Heap) : Option (LStep × Heap) :=
  un s fun t0_0 vs_1 => un vs_1 fun t3_2 vs_3 => un vs_3 fun t4_4 vs_5 => un0 vs_5 (bindE (mBin (cfg b) 3 true .geq t4_4 (AV.c (.int .i64 0)) H) fun t7_6 H_7 =>
  condR t7_6 (bindE (mBin (cfg b) 3 true .mul (AV.c (.int .i64 8)) t4_4 H_7) fun t12_8 H_9 =>
  bindE (mBin (cfg b) 22 false .shr t0_0 t12_8 H_9) fun t13_10 H_11 =>
  bindE (mConvI .u8 t13_10 H_11) fun t14_12 H_13 =>
  bindE (mBin (cfg b) 5 true .neq t14_12 (AV.c (.int .u8 0)) H_13) fun t16_14 H_15 =>
  bindE (guardR (wantR false t16_14) (some (t3_2, H_15)) H_15) fun t18_16 H_17 =>
  bindE (guardR (wantR false t16_14) (mLenSl t18_16 H_17) H_17) fun t19_18 H_19 =>
  bindE (guardR (wantR false t16_14) (mBin (cfg b) 3 true .gtr t19_18 (AV.c (.int .i64 0)) H_19) H_19) fun t20_20 H_21 =>
  bindE (mPick t16_14 (AV.c (.bool true)) t20_20 H_21) fun t21_22 H_23 =>
  condR t21_22 (bindE (mBuildSl 5 1 (.int .u8 0) 1 [(0, t14_12)] H_23) fun t24_24 H_25 =>
  bindE (mAppend 5 1 1 false t3_2 t24_24 H_25) fun t25_26 H_27 =>
  bindE (mBin (cfg b) 3 true .sub t4_4 (AV.c (.int .i64 1)) H_27) fun t9_28 H_29 =>
  some (LStep.cont [t0_0, t25_26, t9_28], H_29)) (bindE (mBin (cfg b) 3 true .sub t4_4 (AV.c (.int .i64 1)) H_23) fun t9_30 H_31 =>
  some (LStep.cont [t0_0, t3_2, t9_30], H_31))) (some (LStep.exit 0 [t3_2], H_7)))
/-- ferryman/tlv.Num -/
noncomputable def p131 (b : Bool) (cf : CallFn) (k : Nat) (t0 : AV) (H : Heap) : Option (AV × Heap) :=
  afterL 0 (loopX k (p131_l0 b cf k) [t0, (AV.c .nilsl), (AV.c (.int .i64 7))] H) (fun vs_32 H_33 =>
  un vs_32 fun t3_34 vs_35 => un0 vs_35 (endQ (cfg b) false k (resC1 (some t3_34) (some [])) H_33)) (fun vs_32 H_33 => un vs_32 fun t3_36 vs_37 => un0 vs_37 (endQ (cfg b) false k (resC1 (some AV.any) (some [])) H_33))
/-- (*ferryman/parcel.writer).num -/
noncomputable def p145 (b : Bool) (cf : CallFn) (k : Nat) (t0 t1 t2 : AV) (H : Heap) : Option (AV × Heap) :=
  bindE (cf 131 [t2] H) fun t9_0 H_1 =>
  bindE (cf 148 [t0, t1, t9_0] H_1) fun t10_2 H_3 =>
  endQ (cfg b) false k (some []) H_3
/-- (*ferryman/parcel.writer).hash -/
noncomputable def p146 (b : Bool) (cf : CallFn) (k : Nat) (t0 t1 t2 : AV) (H : Heap) : Option (AV × Heap) :=
  bindE (mBox 41 t2 H) fun t5_0 H_1 =>
  bindE (mLoad true 32 t5_0 H_1) fun t6_2 H_3 =>
  bindE (mBuildA 32 .u8 (List.replicate 32 0) [] H_3) fun t7_4 H_5 =>
  bindE (mBin (cfg b) 41 false .neq t6_2 t7_4 H_5) fun t8_6 H_7 =>
  condR t8_6 (bindE (mSliceArr 32 t5_0 none none H_7) fun t11_8 H_9 =>
  bindE (cf 148 [t0, t1, t11_8] H_9) fun t12_10 H_11 =>
  endQ (cfg b) false k (some []) H_11) (endQ (cfg b) false k (some []) H_7)
/-- (*ferryman/parcel.writer).bytes -/
noncomputable def p148 (b : Bool) (cf : CallFn) (k : Nat) (t0 t1 t2 : AV) (H : Heap) : Option (AV × Heap) :=
  bindE (mNil t0 H) fun t7_0 H_1 =>
  bindE (mFA 1 1 t7_0 H_1) fun t8_2 H_3 =>
  bindE (mLoad false 1 t8_2 H_3) fun t9_4 H_5 =>
  bindE (mBin (cfg b) 25 true .eql t9_4 (AV.c (.int .i64 0)) H_5) fun t10_6 H_7 =>
  condR t10_6 (bindE (mNil t0 H_7) fun t15_8 H_9 =>
  bindE (mFA 0 0 t15_8 H_9) fun t16_10 H_11 =>
  bindE (mLoad false 1 t16_10 H_11) fun t17_12 H_13 =>
  bindE (cf 130 [t17_12, t1, t2] H_13) fun t20_14 H_15 =>
  bindE (mExtract 0 t20_14 H_15) fun t21_16 H_17 =>
  bindE (mExtract 1 t20_14 H_17) fun t22_18 H_19 =>
  bindE (mNil t0 H_19) fun t23_20 H_21 =>
  bindE (mFA 0 0 t23_20 H_21) fun t24_22 H_23 =>
  bindE (mStore false 1 t24_22 t21_16 H_23) fun u_24 H_25 =>
  bindE (mNil t0 H_25) fun t25_26 H_27 =>
  bindE (mFA 1 1 t25_26 H_27) fun t26_28 H_29 =>
  bindE (mStore false 1 t26_28 t22_18 H_29) fun u_30 H_31 =>
  endQ (cfg b) false k (some []) H_31) (endQ (cfg b) false k (some []) H_7)
theorem p131_eq (b : Bool) (cf : CallFn) (t0 : AV) (H : Heap) : runG (cfg b) cf An 131 [t0] H = p131 b cf H.length t0 H := by kernel_rfl
theorem p145_eq (b : Bool) (cf : CallFn) (t0 t1 t2 : AV) (H : Heap) : runG (cfg b) cf An 145 [t0, t1, t2] H = p145 b cf H.length t0 t1 t2 H := by kernel_rfl
theorem p146_eq (b : Bool) (cf : CallFn) (t0 t1 t2 : AV) (H : Heap) : runG (cfg b) cf An 146 [t0, t1, t2] H = p146 b cf H.length t0 t1 t2 H := by kernel_rfl
theorem p148_eq (b : Bool) (cf : CallFn) (t0 t1 t2 : AV) (H : Heap) : runG (cfg b) cf An 148 [t0, t1, t2] H = p148 b cf H.length t0 t1 t2 H := by kernel_rfl
end Go.Fm
/-
  What the interpreter does to functions, without slots and types; the kernel holds it against the code.
-/
set_option maxRecDepth 100000
set_option linter.unusedVariables false
namespace Go.Fm
open Go Go.Proofs
/-- ferryman/tlv.Put -/
noncomputable def p130 (b : Bool) (cf : CallFn) (k : Nat) (t0 t1 t2 : AV) (H : Heap) : Option (AV × Heap) :=
  bindE (mBuildSl 5 1 (.int .u8 0) 0 [] H) fun t9_0 H_1 =>
  bindE (mAppend 5 1 1 false t9_0 t0 H_1) fun t11_2 H_3 =>
  bindE (mLenSl t2 H_3) fun t14_4 H_5 =>
  bindE (mBin (cfg b) 3 true .gtr t14_4 (AV.c (.int .i64 65535)) H_5) fun t15_6 H_7 =>
  condR t15_6 (endQ (cfg b) false k (resC1 (some (AV.c .nilsl)) (resC1 (some (AV.c (.int .i64 3))) (some []))) H_7) (bindE (mLenSl t2 H_7) fun t18_8 H_9 =>
  bindE (mBin (cfg b) 3 true .eql t18_8 (AV.c (.int .i64 0)) H_9) fun t19_10 H_11 =>
  condR t19_10 (endQ (cfg b) false k (resC1 (some t11_2) (resC1 (some (AV.c (.int .i64 0))) (some []))) H_11) (bindE (mLenSl t2 H_11) fun t24_12 H_13 =>
  bindE (mBin (cfg b) 3 true .shr t24_12 (AV.c (.int .u64 8)) H_13) fun t25_14 H_15 =>
  bindE (mConvI .u8 t25_14 H_15) fun t26_16 H_17 =>
  bindE (mLenSl t2 H_17) fun t28_18 H_19 =>
  bindE (mConvI .u8 t28_18 H_19) fun t29_20 H_21 =>
  bindE (mBuildSl 5 1 (.int .u8 0) 3 [(0, t1), (1, t26_16), (2, t29_20)] H_21) fun t30_22 H_23 =>
  bindE (mAppend 5 1 1 false t11_2 t30_22 H_23) fun t31_24 H_25 =>
  bindE (mAppend 5 1 1 false t31_24 t2 H_25) fun t34_26 H_27 =>
  endQ (cfg b) false k (resC1 (some t34_26) (resC1 (some (AV.c (.int .i64 0))) (some []))) H_27))
theorem p130_eq (b : Bool) (cf : CallFn) (t0 t1 t2 : AV) (H : Heap) : runG (cfg b) cf An 130 [t0, t1, t2] H = p130 b cf H.length t0 t1 t2 H := by kernel_rfl
end Go.Fm
/-
  What the interpreter does to functions, without slots and types; the kernel holds it against the code.
-/
set_option maxRecDepth 100000
set_option linter.unusedVariables false
namespace Go.Fm
open Go Go.Proofs
/-- ferryman/parcel.Seal -/
noncomputable def p98 (b : Bool) (cf : CallFn) (k : Nat) (t0 : AV) (H : Heap) : Option (AV × Heap) :=
  bindE (mBox 80 t0 H) fun t1_0 H_1 =>
  bindE (mAlloc 41 (.arr 32 .u8 (List.replicate 32 0)) H_1) fun t2_2 H_3 =>
  bindE (mBuildA 32 .u8 (List.replicate 32 0) [] H_3) fun t3_4 H_5 =>
  bindE (mFA 5 98 t1_0 H_5) fun t4_6 H_7 =>
  bindE (mStore true 32 t4_6 t3_4 H_7) fun u_8 H_9 =>
  afterD (twice [0, 1, 0, 4, 0, 16, 63, 127, 255] (fun H_10 => bindE (drawR false [] (fun F => mBuildSl 5 1 (.int .u8 0) 4 [(0, (AV.c (.int .u8 115))), (1, (AV.c (.int .u8 101))), (2, (AV.c (.int .u8 97))), (3, (AV.c (.int .u8 108)))] F) H_10) fun t5_11 H_12 =>
  bindE (drawR true [t5_11.1] (fun F => mConv0 t5_11.1 F) H_12) fun t6_13 H_14 =>
  bindE (drawR true [t1_0] (fun F => mFA 3 34 t1_0 F) H_14) fun t7_15 H_16 =>
  bindE (drawR false [t7_15.1] (fun F => mSliceArr 32 t7_15.1 none none F) H_16) fun t8_17 H_18 =>
  bindE (drawR true [t1_0] (fun F => mLoad true 130 t1_0 F) H_18) fun t9_19 H_20 =>
  bindE (drawR false [t9_19.1] (fun F => cf 127 [t9_19.1] F) H_20) fun t10_21 H_22 =>
  bindE (drawR false [t6_13.1, t8_17.1, t10_21.1] (fun F => mBuildSl 38 1 .nilsl 3 [(0, t6_13.1), (1, t8_17.1), (2, t10_21.1)] F) H_22) fun t11_23 H_24 =>
  bindE (drawR false [t11_23.1] (fun F => cf 88 [t11_23.1] F) H_24) fun t12_25 H_26 =>
  bindE (drawR false [t2_2, t12_25.1] (fun F => mStore true 32 t2_2 t12_25.1 F) H_26) fun u_27 H_28 =>
  some (([], [t5_11.2, t6_13.2, t7_15.2, t8_17.2, t9_19.2, t10_21.2, t11_23.2, t12_25.2, u_27.2]), H_28)) H_9) fun vs_29 H_30 =>
  un0 vs_29 (endQ (cfg b) false k (resC1 (mld true 32 H_30 t2_2) (some [])) H_30)
/-- ferryman/parcel.Header -/
noncomputable def p127 (b : Bool) (cf : CallFn) (k : Nat) (t0 : AV) (H : Heap) : Option (AV × Heap) :=
  bindE (mBox 80 t0 H) fun t1_0 H_1 =>
  bindE (mBuildS [.nilsl, (.int .i64 0)] [] H_1) fun t4_2 H_3 =>
  bindE (mBox 220 t4_2 H_3) fun t5_4 H_5 =>
  bindE (mFA 0 0 t1_0 H_5) fun t7_6 H_7 =>
  bindE (mLoad false 1 t7_6 H_7) fun t8_8 H_9 =>
  bindE (cf 145 [t5_4, (AV.c (.int .u8 1)), t8_8] H_9) fun t9_10 H_11 =>
  bindE (mFA 1 1 t1_0 H_11) fun t11_12 H_13 =>
  bindE (mLoad false 1 t11_12 H_13) fun t12_14 H_15 =>
  bindE (cf 145 [t5_4, (AV.c (.int .u8 2)), t12_14] H_15) fun t13_16 H_17 =>
  bindE (mFA 2 2 t1_0 H_17) fun t15_18 H_19 =>
  bindE (mLoad true 32 t15_18 H_19) fun t16_20 H_21 =>
  bindE (cf 146 [t5_4, (AV.c (.int .u8 3)), t16_20] H_21) fun t17_22 H_23 =>
  bindE (mFA 3 34 t1_0 H_23) fun t19_24 H_25 =>
  bindE (mLoad true 32 t19_24 H_25) fun t20_26 H_27 =>
  bindE (cf 146 [t5_4, (AV.c (.int .u8 4)), t20_26] H_27) fun t21_28 H_29 =>
  bindE (mFA 4 66 t1_0 H_29) fun t23_30 H_31 =>
  bindE (mLoad true 32 t23_30 H_31) fun t24_32 H_33 =>
  bindE (cf 146 [t5_4, (AV.c (.int .u8 5)), t24_32] H_33) fun t25_34 H_35 =>
  bindE (mFA 5 98 t1_0 H_35) fun t27_36 H_37 =>
  bindE (mLoad true 32 t27_36 H_37) fun t28_38 H_39 =>
  bindE (cf 146 [t5_4, (AV.c (.int .u8 6)), t28_38] H_39) fun t29_40 H_41 =>
  bindE (mNil t5_4 H_41) fun t31_42 H_43 =>
  bindE (mFA 0 0 t31_42 H_43) fun t32_44 H_45 =>
  bindE (mLoad false 1 t32_44 H_45) fun t33_46 H_47 =>
  endQ (cfg b) false k (resC1 (some t33_46) (some [])) H_47
theorem p98_eq (b : Bool) (cf : CallFn) (t0 : AV) (H : Heap) : runG (cfg b) cf An 98 [t0] H = p98 b cf H.length t0 H := by kernel_rfl
theorem p127_eq (b : Bool) (cf : CallFn) (t0 : AV) (H : Heap) : runG (cfg b) cf An 127 [t0] H = p127 b cf H.length t0 H := by kernel_rfl
end Go.Fm
/-
  What the interpreter does to functions, without slots and types; the kernel holds it against the code.
-/
set_option maxRecDepth 100000
set_option linter.unusedVariables false
namespace Go.Fm
open Go Go.Proofs
/-- ferryman/ferrymanlaw18.Awake -/
noncomputable def p31_d0 (b : Bool) (cf : CallFn) (t8_4 t14_12 t3_14 t7_2 : AV) (H_18 : Heap) : Option ((List AV × List Trail) × Heap) :=
  bindE (drawM (some t8_4) H_18) fun t15_19 H_20 =>
  bindE (drawR true [t15_19.1] (fun F => mBin (cfg b) 25 true .eql t15_19.1 (AV.c (.int .i64 0)) F) H_20) fun t16_21 H_22 =>
  bindE (drawM (some t16_21.1) H_22) fun t17_23 H_24 =>
  bindE (guardD (wantR true t17_23.1) (drawM (some t14_12) H_24) H_24) fun t18_25 H_26 =>
  bindE (guardD (wantR true t17_23.1) (drawR true [t18_25.1] (fun F => mBin (cfg b) 25 true .eql t18_25.1 (AV.c (.int .i64 0)) F) H_26) H_26) fun t19_27 H_28 =>
  bindE (drawR true [t17_23.1, t19_27.1] (fun F => mPick t17_23.1 t19_27.1 (AV.c (.bool false)) F) H_28) fun t20_29 H_30 =>
  bindE (drawM (some t20_29.1) H_30) fun t21_31 H_32 =>
  bindE (guardD (wantR true t21_31.1) (drawR true [t3_14] (fun F => mFA 0 0 t3_14 F) H_32) H_32) fun t22_33 H_34 =>
  bindE (guardD (wantR true t21_31.1) (drawR true [t22_33.1] (fun F => mLoad false 1 t22_33.1 F) H_34) H_34) fun t23_35 H_36 =>
  bindE (guardD (wantR true t21_31.1) (drawR true [t23_35.1] (fun F => mBin (cfg b) 22 true .eql t23_35.1 (AV.c (.int .u64 1)) F) H_36) H_36) fun t24_37 H_38 =>
  bindE (drawR true [t21_31.1, t24_37.1] (fun F => mPick t21_31.1 t24_37.1 (AV.c (.bool false)) F) H_38) fun t25_39 H_40 =>
  bindE (drawM (some t25_39.1) H_40) fun t26_41 H_42 =>
  bindE (guardD (wantR true t26_41.1) (drawR true [t3_14] (fun F => mFA 1 1 t3_14 F) H_42) H_42) fun t27_43 H_44 =>
  bindE (guardD (wantR true t26_41.1) (drawR true [t27_43.1] (fun F => mLoad false 1 t27_43.1 F) H_44) H_44) fun t28_45 H_46 =>
  bindE (guardD (wantR true t26_41.1) (drawR true [t28_45.1] (fun F => mBin (cfg b) 22 true .eql t28_45.1 (AV.c (.int .u64 1)) F) H_46) H_46) fun t29_47 H_48 =>
  bindE (drawR true [t26_41.1, t29_47.1] (fun F => mPick t26_41.1 t29_47.1 (AV.c (.bool false)) F) H_48) fun t30_49 H_50 =>
  bindE (drawM (some t30_49.1) H_50) fun t31_51 H_52 =>
  bindE (guardD (wantR true t31_51.1) (drawR true [t3_14] (fun F => mFA 2 2 t3_14 F) H_52) H_52) fun t32_53 H_54 =>
  bindE (guardD (wantR true t31_51.1) (drawR true [t32_53.1] (fun F => mLoad true 32 t32_53.1 F) H_54) H_54) fun t33_55 H_56 =>
  bindE (guardD (wantR true t31_51.1) (drawR false [] (fun F => cf 62 [] F) H_56) H_56) fun t34_57 H_58 =>
  bindE (guardD (wantR true t31_51.1) (drawR true [t33_55.1, t34_57.1] (fun F => mBin (cfg b) 41 false .eql t33_55.1 t34_57.1 F) H_58) H_58) fun t35_59 H_60 =>
  bindE (drawR true [t31_51.1, t35_59.1] (fun F => mPick t31_51.1 t35_59.1 (AV.c (.bool false)) F) H_60) fun t36_61 H_62 =>
  bindE (drawM (some t36_61.1) H_62) fun t37_63 H_64 =>
  bindE (guardD (wantR true t37_63.1) (drawM (some t7_2) H_64) H_64) fun t38_65 H_66 =>
  bindE (guardD (wantR true t37_63.1) (drawR false [t38_65.1] (fun F => cf 59 [t38_65.1] F) H_66) H_66) fun t39_67 H_68 =>
  bindE (guardD (wantR true t37_63.1) (drawR true [t39_67.1] (fun F => mBin (cfg b) 22 true .eql t39_67.1 (AV.c (.int .u64 1)) F) H_68) H_68) fun t40_69 H_70 =>
  bindE (drawR true [t37_63.1, t40_69.1] (fun F => mPick t37_63.1 t40_69.1 (AV.c (.bool false)) F) H_70) fun t41_71 H_72 =>
  bindE (drawM (some t41_71.1) H_72) fun t0_73 H_74 =>
  some (([t0_73.1], [t15_19.2, t16_21.2, t17_23.2, t18_25.2, t19_27.2, t20_29.2, t21_31.2, t22_33.2, t23_35.2, t24_37.2, t25_39.2, t26_41.2, t27_43.2, t28_45.2, t29_47.2, t30_49.2, t31_51.2, t32_53.2, t33_55.2, t34_57.2, t35_59.2, t36_61.2, t37_63.2, t38_65.2, t39_67.2, t40_69.2, t41_71.2, t0_73.2]), H_74)
noncomputable def p31 (b : Bool) (cf : CallFn) (k : Nat) (H : Heap) : Option (AV × Heap) :=
  bindE (cf 56 [(AV.c (.int .u8 0)), (AV.c (.int .u64 10))] H) fun t6_0 H_1 =>
  bindE (mExtract 0 t6_0 H_1) fun t7_2 H_3 =>
  bindE (mExtract 1 t6_0 H_3) fun t8_4 H_5 =>
  bindE (cf 26 [] H_5) fun t11_6 H_7 =>
  bindE (cf 52 [t7_2, t11_6] H_7) fun t12_8 H_9 =>
  bindE (mExtract 0 t12_8 H_9) fun t13_10 H_11 =>
  bindE (mExtract 1 t12_8 H_11) fun t14_12 H_13 =>
  bindE (mAlloc 80 (.agg [(.int .u64 0), (.int .u64 0), (.arr 32 .u8 (List.replicate 32 0)), (.arr 32 .u8 (List.replicate 32 0)), (.arr 32 .u8 (List.replicate 32 0)), (.arr 32 .u8 (List.replicate 32 0))]) H_13) fun t3_14 H_15 =>
  bindE (mStore true 130 t3_14 t13_10 H_15) fun u_16 H_17 =>
  afterD (twice [0, 1, 3, 7, 15, 31, 63, 127, 255, 511, 1023, 2047, 4095, 8191, 16383, 32767, 65535, 131071, 262143, 131071, 1048575, 2097151, 4194303, 8388607, 16777215, 33554431, 67108863, 134217727] (p31_d0 b cf t8_4 t14_12 t3_14 t7_2) H_17) fun vs_75 H_76 =>
  un vs_75 fun t0_77 vs_78 => un0 vs_78 (endQ (cfg b) false k (resC1 (some t0_77) (some [])) H_76)
/-- (*ferryman/chain.Chain).End -/
noncomputable def p52_d0 (b : Bool) (cf : CallFn) (t0 t1 : AV) (H_66 : Heap) : Option ((List AV × List Trail) × Heap) :=
  bindE (drawM (some t0) H_66) fun t43_67 H_68 =>
  bindE (drawR true [t43_67.1] (fun F => mNil t43_67.1 F) H_68) fun t44_69 H_70 =>
  bindE (drawR true [t44_69.1] (fun F => mFA 2 2 t44_69.1 F) H_70) fun t45_71 H_72 =>
  bindE (drawR true [t45_71.1] (fun F => mLoad false 1 t45_71.1 F) H_72) fun t46_73 H_74 =>
  bindE (drawM (some t0) H_74) fun t47_75 H_76 =>
  bindE (drawR true [t47_75.1] (fun F => mNil t47_75.1 F) H_76) fun t48_77 H_78 =>
  bindE (drawR true [t48_77.1] (fun F => mFA 3 3 t48_77.1 F) H_78) fun t49_79 H_80 =>
  bindE (drawR true [t49_79.1] (fun F => mLoad false 1 t49_79.1 F) H_80) fun t50_81 H_82 =>
  bindE (drawM (some t1) H_82) fun t51_83 H_84 =>
  bindE (drawR false [t51_83.1] (fun F => cf 37 [t51_83.1] F) H_84) fun t52_85 H_86 =>
  bindE (drawM (some t0) H_86) fun t53_87 H_88 =>
  bindE (drawR true [t53_87.1] (fun F => mNil t53_87.1 F) H_88) fun t54_89 H_90 =>
  bindE (drawR true [t54_89.1] (fun F => mFA 0 0 t54_89.1 F) H_90) fun t55_91 H_92 =>
  bindE (drawR true [t55_91.1] (fun F => mLoad false 1 t55_91.1 F) H_92) fun t56_93 H_94 =>
  bindE (drawM (some t0) H_94) fun t57_95 H_96 =>
  bindE (drawR true [t57_95.1] (fun F => mNil t57_95.1 F) H_96) fun t58_97 H_98 =>
  bindE (drawR true [t58_97.1] (fun F => mFA 2 2 t58_97.1 F) H_98) fun t59_99 H_100 =>
  bindE (drawR true [t59_99.1] (fun F => mLoad false 1 t59_99.1 F) H_100) fun t60_101 H_102 =>
  bindE (drawR false [t56_93.1, t60_101.1] (fun F => cf 33 [t56_93.1, t60_101.1] F) H_102) fun t61_103 H_104 =>
  bindE (drawM (some t0) H_104) fun t62_105 H_106 =>
  bindE (drawR true [t62_105.1] (fun F => mNil t62_105.1 F) H_106) fun t63_107 H_108 =>
  bindE (drawR true [t63_107.1] (fun F => mFA 0 0 t63_107.1 F) H_108) fun t64_109 H_110 =>
  bindE (drawR true [t64_109.1] (fun F => mLoad false 1 t64_109.1 F) H_110) fun t65_111 H_112 =>
  bindE (drawM (some t0) H_112) fun t66_113 H_114 =>
  bindE (drawR true [t66_113.1] (fun F => mNil t66_113.1 F) H_114) fun t67_115 H_116 =>
  bindE (drawR true [t67_115.1] (fun F => mFA 2 2 t67_115.1 F) H_116) fun t68_117 H_118 =>
  bindE (drawR true [t68_117.1] (fun F => mLoad false 1 t68_117.1 F) H_118) fun t69_119 H_120 =>
  bindE (drawR true [t69_119.1] (fun F => mBin (cfg b) 22 true .add t69_119.1 (AV.c (.int .u64 1)) F) H_120) fun t70_121 H_122 =>
  bindE (drawR false [t65_111.1, t70_121.1] (fun F => cf 33 [t65_111.1, t70_121.1] F) H_122) fun t71_123 H_124 =>
  bindE (drawR false [t46_73.1, t50_81.1, t52_85.1, t61_103.1, t71_123.1] (fun F => mBuildS [(.int .u64 0), (.int .u64 0), (.arr 32 .u8 (List.replicate 32 0)), (.arr 32 .u8 (List.replicate 32 0)), (.arr 32 .u8 (List.replicate 32 0)), (.arr 32 .u8 (List.replicate 32 0))] [(0, t46_73.1), (1, t50_81.1), (2, t52_85.1), (3, t61_103.1), (4, t71_123.1)] F) H_124) fun t72_125 H_126 =>
  bindE (drawR false [] (fun F => mAlloc 80 (.agg [(.int .u64 0), (.int .u64 0), (.arr 32 .u8 (List.replicate 32 0)), (.arr 32 .u8 (List.replicate 32 0)), (.arr 32 .u8 (List.replicate 32 0)), (.arr 32 .u8 (List.replicate 32 0))]) F) H_126) fun t6_127 H_128 =>
  bindE (drawR false [t6_127.1, t72_125.1] (fun F => mStore true 130 t6_127.1 t72_125.1 F) H_128) fun u_129 H_130 =>
  some (([t6_127.1], [t43_67.2, t44_69.2, t45_71.2, t46_73.2, t47_75.2, t48_77.2, t49_79.2, t50_81.2, t51_83.2, t52_85.2, t53_87.2, t54_89.2, t55_91.2, t56_93.2, t57_95.2, t58_97.2, t59_99.2, t60_101.2, t61_103.2, t62_105.2, t63_107.2, t64_109.2, t65_111.2, t66_113.2, t67_115.2, t68_117.2, t69_119.2, t70_121.2, t71_123.2, t72_125.2, t6_127.2, u_129.2]), H_130)
noncomputable def p52_d1 (b : Bool) (cf : CallFn) (t0 t6_133 : AV) (H_151 : Heap) : Option ((List AV × List Trail) × Heap) :=
  bindE (drawM (some t0) H_151) fun t82_152 H_153 =>
  bindE (drawM (some t0) H_153) fun t83_154 H_155 =>
  bindE (drawR true [t83_154.1] (fun F => mNil t83_154.1 F) H_155) fun t84_156 H_157 =>
  bindE (drawR true [t84_156.1] (fun F => mFA 5 5 t84_156.1 F) H_157) fun t85_158 H_159 =>
  bindE (drawR true [t85_158.1] (fun F => mLoad false 1 t85_158.1 F) H_159) fun t86_160 H_161 =>
  bindE (drawR true [t6_133] (fun F => mLoad true 130 t6_133 F) H_161) fun t87_162 H_163 =>
  bindE (drawR false [t87_162.1] (fun F => mBuildSl 80 130 (.agg [(.int .u64 0), (.int .u64 0), (.arr 32 .u8 (List.replicate 32 0)), (.arr 32 .u8 (List.replicate 32 0)), (.arr 32 .u8 (List.replicate 32 0)), (.arr 32 .u8 (List.replicate 32 0))]) 1 [(0, t87_162.1)] F) H_163) fun t88_164 H_165 =>
  bindE (drawR false [t86_160.1, t88_164.1] (fun F => mAppend 80 130 144 false t86_160.1 t88_164.1 F) H_165) fun t89_166 H_167 =>
  bindE (drawR true [t82_152.1] (fun F => mNil t82_152.1 F) H_167) fun t90_168 H_169 =>
  bindE (drawR true [t90_168.1] (fun F => mFA 5 5 t90_168.1 F) H_169) fun t91_170 H_171 =>
  bindE (drawR false [t91_170.1, t89_166.1] (fun F => mStore false 1 t91_170.1 t89_166.1 F) H_171) fun u_172 H_173 =>
  some (([], [t82_152.2, t83_154.2, t84_156.2, t85_158.2, t86_160.2, t87_162.2, t88_164.2, t89_166.2, t90_168.2, t91_170.2, u_172.2]), H_173)
noncomputable def p52 (b : Bool) (cf : CallFn) (k : Nat) (t0 t1 : AV) (H : Heap) : Option (AV × Heap) :=
  bindE (mAlloc 80 (.agg [(.int .u64 0), (.int .u64 0), (.arr 32 .u8 (List.replicate 32 0)), (.arr 32 .u8 (List.replicate 32 0)), (.arr 32 .u8 (List.replicate 32 0)), (.arr 32 .u8 (List.replicate 32 0))]) H) fun t4_0 H_1 =>
  bindE (mBin (cfg b) 81 true .eql t0 (AV.c .nilp) H_1) fun t9_2 H_3 =>
  bindE (guardR (wantR false t9_2) (some (t1, H_3)) H_3) fun t11_4 H_5 =>
  bindE (guardR (wantR false t9_2) (mBin (cfg b) 28 true .eql t11_4 (AV.c .nilp) H_5) H_5) fun t12_6 H_7 =>
  bindE (mPick t9_2 (AV.c (.bool true)) t12_6 H_7) fun t13_8 H_9 =>
  condR t13_8 (bindE (mBuildS [(.int .u64 0), (.int .u64 0), (.arr 32 .u8 (List.replicate 32 0)), (.arr 32 .u8 (List.replicate 32 0)), (.arr 32 .u8 (List.replicate 32 0)), (.arr 32 .u8 (List.replicate 32 0))] [] H_9) fun t14_10 H_11 =>
  bindE (mStore true 130 t4_0 t14_10 H_11) fun u_12 H_13 =>
  endQ (cfg b) false k (resC1 (mld true 130 H_13 t4_0) (resC1 (some (AV.c (.int .i64 1))) (some []))) H_13) (bindE (mNil t0 H_9) fun t17_14 H_15 =>
  bindE (mFA 2 2 t17_14 H_15) fun t18_16 H_17 =>
  bindE (mLoad false 1 t18_16 H_17) fun t19_18 H_19 =>
  bindE (mBin (cfg b) 22 true .geq t19_18 (AV.c (.int .u64 1099511627776)) H_19) fun t20_20 H_21 =>
  bindE (guardR (wantR false t20_20) (some (t0, H_21)) H_21) fun t22_22 H_23 =>
  bindE (guardR (wantR false t20_20) (mNil t22_22 H_23) H_23) fun t23_24 H_25 =>
  bindE (guardR (wantR false t20_20) (mFA 3 3 t23_24 H_25) H_25) fun t24_26 H_27 =>
  bindE (guardR (wantR false t20_20) (mLoad false 1 t24_26 H_27) H_27) fun t25_28 H_29 =>
  bindE (guardR (wantR false t20_20) (mBin (cfg b) 22 true .geq t25_28 (AV.c (.int .u64 1099511627776)) H_29) H_29) fun t26_30 H_31 =>
  bindE (mPick t20_20 (AV.c (.bool true)) t26_30 H_31) fun t27_32 H_33 =>
  condR t27_32 (bindE (mBuildS [(.int .u64 0), (.int .u64 0), (.arr 32 .u8 (List.replicate 32 0)), (.arr 32 .u8 (List.replicate 32 0)), (.arr 32 .u8 (List.replicate 32 0)), (.arr 32 .u8 (List.replicate 32 0))] [] H_33) fun t28_34 H_35 =>
  bindE (mStore true 130 t4_0 t28_34 H_35) fun u_36 H_37 =>
  endQ (cfg b) false k (resC1 (mld true 130 H_37 t4_0) (resC1 (some (AV.c (.int .i64 2))) (some []))) H_37) (bindE (mNil t0 H_33) fun t30_38 H_39 =>
  bindE (mFA 2 2 t30_38 H_39) fun t31_40 H_41 =>
  bindE (mLoad false 1 t31_40 H_41) fun t32_42 H_43 =>
  bindE (mBin (cfg b) 22 true .add t32_42 (AV.c (.int .u64 1)) H_43) fun t33_44 H_45 =>
  bindE (mNil t0 H_45) fun t34_46 H_47 =>
  bindE (mFA 2 2 t34_46 H_47) fun t35_48 H_49 =>
  bindE (mStore false 1 t35_48 t33_44 H_49) fun u_50 H_51 =>
  bindE (mNil t0 H_51) fun t37_52 H_53 =>
  bindE (mFA 3 3 t37_52 H_53) fun t38_54 H_55 =>
  bindE (mLoad false 1 t38_54 H_55) fun t39_56 H_57 =>
  bindE (mBin (cfg b) 22 true .add t39_56 (AV.c (.int .u64 1)) H_57) fun t40_58 H_59 =>
  bindE (mNil t0 H_59) fun t41_60 H_61 =>
  bindE (mFA 3 3 t41_60 H_61) fun t42_62 H_63 =>
  bindE (mStore false 1 t42_62 t40_58 H_63) fun u_64 H_65 =>
  afterD (twice [0, 1, 3, 7, 0, 16, 48, 112, 0, 256, 0, 1024, 3072, 7168, 0, 16384, 49152, 114688, 261888, 0, 524288, 1572864, 3670016, 0, 8388608, 25165824, 58720256, 125829120, 268435200, 536870911, 0, 2147483647] (p52_d0 b cf t0 t1) H_65) fun vs_131 H_132 =>
  un vs_131 fun t6_133 vs_134 => un0 vs_134 (bindE (mLoad true 130 t6_133 H_132) fun t73_135 H_136 =>
  bindE (cf 98 [t73_135] H_136) fun t74_137 H_138 =>
  bindE (mFA 5 98 t6_133 H_138) fun t75_139 H_140 =>
  bindE (mStore true 32 t75_139 t74_137 H_140) fun u_141 H_142 =>
  bindE (mNil t0 H_142) fun t77_143 H_144 =>
  bindE (mFA 4 4 t77_143 H_144) fun t78_145 H_146 =>
  bindE (mLoad false 1 t78_145 H_146) fun t79_147 H_148 =>
  bindE (cf 25 [t79_147, t1] H_148) fun t81_149 H_150 =>
  afterD (twice [0, 0, 2, 6, 14, 0, 32, 126, 255, 511, 1023] (p52_d1 b cf t0 t6_133) H_150) fun vs_174 H_175 =>
  un0 vs_174 (bindE (mNil t0 H_175) fun t93_176 H_177 =>
  bindE (mFA 5 5 t93_176 H_177) fun t94_178 H_179 =>
  bindE (mLoad false 1 t94_178 H_179) fun t95_180 H_181 =>
  bindE (mLenSl t95_180 H_181) fun t96_182 H_183 =>
  bindE (mBin (cfg b) 3 true .gtr t96_182 (AV.c (.int .i64 64)) H_183) fun t97_184 H_185 =>
  condR t97_184 (bindE (mBuildSl 80 130 (.agg [(.int .u64 0), (.int .u64 0), (.arr 32 .u8 (List.replicate 32 0)), (.arr 32 .u8 (List.replicate 32 0)), (.arr 32 .u8 (List.replicate 32 0)), (.arr 32 .u8 (List.replicate 32 0))]) 0 [] H_185) fun t99_186 H_187 =>
  bindE (mNil t0 H_187) fun t101_188 H_189 =>
  bindE (mFA 5 5 t101_188 H_189) fun t102_190 H_191 =>
  bindE (mLoad false 1 t102_190 H_191) fun t103_192 H_193 =>
  bindE (mSliceSl 130 t103_192 (some (AV.c (.int .i64 1))) none H_193) fun t104_194 H_195 =>
  bindE (mAppend 80 130 144 false t99_186 t104_194 H_195) fun t105_196 H_197 =>
  bindE (mNil t0 H_197) fun t106_198 H_199 =>
  bindE (mFA 5 5 t106_198 H_199) fun t107_200 H_201 =>
  bindE (mStore false 1 t107_200 t105_196 H_201) fun u_202 H_203 =>
  bindE (mLoad true 130 t6_133 H_203) fun t108_204 H_205 =>
  bindE (mStore true 130 t4_0 t108_204 H_205) fun u_206 H_207 =>
  endQ (cfg b) false k (resC1 (mld true 130 H_207 t4_0) (resC1 (some (AV.c (.int .i64 0))) (some []))) H_207) (bindE (mLoad true 130 t6_133 H_185) fun t108_208 H_209 =>
  bindE (mStore true 130 t4_0 t108_208 H_209) fun u_210 H_211 =>
  endQ (cfg b) false k (resC1 (mld true 130 H_211 t4_0) (resC1 (some (AV.c (.int .i64 0))) (some []))) H_211)))))
/-- ferryman/chain.New -/
noncomputable def p56 (b : Bool) (cf : CallFn) (k : Nat) (t0 t1 : AV) (H : Heap) : Option (AV × Heap) :=
  bindE (mBin (cfg b) 22 true .lss t1 (AV.c (.int .u64 1)) H) fun t9_0 H_1 =>
  bindE (guardR (wantR false t9_0) (some (t1, H_1)) H_1) fun t11_2 H_3 =>
  bindE (guardR (wantR false t9_0) (mBin (cfg b) 22 true .gtr t11_2 (AV.c (.int .u64 4294967296)) H_3) H_3) fun t12_4 H_5 =>
  bindE (mPick t9_0 (AV.c (.bool true)) t12_4 H_5) fun t13_6 H_7 =>
  condR t13_6 (endQ (cfg b) false k (resC1 (some (AV.c .nilp)) (resC1 (some (AV.c (.int .i64 2))) (some []))) H_7) (bindE (cf 28 [(AV.c (.int .i64 64))] H_7) fun t15_8 H_9 =>
  bindE (mExtract 0 t15_8 H_9) fun t16_10 H_11 =>
  bindE (mExtract 1 t15_8 H_11) fun t17_12 H_13 =>
  bindE (mBuildS [(.int .u8 0), (.int .u64 0), (.int .u64 0), (.int .u64 0), .nilp, .nilsl, .nilp] [(0, t0), (1, t1), (4, t16_10)] H_13) fun t21_14 H_15 =>
  bindE (mBox 152 t21_14 H_15) fun t22_16 H_17 =>
  endQ (cfg b) false k (resC1 (some t22_16) (resC1 (some (AV.c (.int .i64 0))) (some []))) H_17)
/-- (*ferryman/chain.Chain).Height -/
noncomputable def p59 (b : Bool) (cf : CallFn) (k : Nat) (t0 : AV) (H : Heap) : Option (AV × Heap) :=
  bindE (mBin (cfg b) 81 true .eql t0 (AV.c .nilp) H) fun t4_0 H_1 =>
  condR t4_0 (endQ (cfg b) false k (resC1 (some (AV.c (.int .u64 0))) (some [])) H_1) (bindE (mNil t0 H_1) fun t6_2 H_3 =>
  bindE (mFA 2 2 t6_2 H_3) fun t7_4 H_5 =>
  bindE (mLoad false 1 t7_4 H_5) fun t8_6 H_7 =>
  endQ (cfg b) false k (resC1 (some t8_6) (some [])) H_7)
theorem p31_eq (b : Bool) (cf : CallFn) (H : Heap) : runG (cfg b) cf An 31 [] H = p31 b cf H.length  H := by kernel_rfl
theorem p52_eq (b : Bool) (cf : CallFn) (t0 t1 : AV) (H : Heap) : runG (cfg b) cf An 52 [t0, t1] H = p52 b cf H.length t0 t1 H := by kernel_rfl
theorem p56_eq (b : Bool) (cf : CallFn) (t0 t1 : AV) (H : Heap) : runG (cfg b) cf An 56 [t0, t1] H = p56 b cf H.length t0 t1 H := by kernel_rfl
theorem p59_eq (b : Bool) (cf : CallFn) (t0 : AV) (H : Heap) : runG (cfg b) cf An 59 [t0] H = p59 b cf H.length t0 H := by kernel_rfl
end Go.Fm
/-
  What the interpreter does to functions, without slots and types; the kernel holds it against the code.
-/
set_option maxRecDepth 100000
set_option linter.unusedVariables false
namespace Go.Fm
open Go Go.Proofs
noncomputable def p53_l0 (b : Bool) (cf : CallFn) (k : Nat) (s : List AV) (H : Heap) : Option (LStep × Heap) :=
  un s fun t1_12 vs_13 => un vs_13 fun t4_14 vs_15 => un vs_15 fun t13_16 vs_17 => un vs_17 fun t14_18 vs_19 => un vs_19 fun t15_20 vs_21 => un0 vs_21 (bindE (mBin (cfg b) 3 false .lss t15_20 t14_18 H) fun t16_22 H_23 =>
  condR t16_22 (bindE (mIdxS 130 t13_16 t15_20 H_23) fun t17_24 H_25 =>
  bindE (mLoad true 130 t17_24 H_25) fun t18_26 H_27 =>
  bindE (mAlloc 80 (.agg [(.int .u64 0), (.int .u64 0), (.arr 32 .u8 (List.replicate 32 0)), (.arr 32 .u8 (List.replicate 32 0)), (.arr 32 .u8 (List.replicate 32 0)), (.arr 32 .u8 (List.replicate 32 0))]) H_27) fun t7_28 H_29 =>
  bindE (mStore true 130 t7_28 t18_26 H_29) fun u_30 H_31 =>
  bindE (mFA 0 0 t7_28 H_31) fun t19_32 H_33 =>
  bindE (mLoad false 1 t19_32 H_33) fun t20_34 H_35 =>
  bindE (mBin (cfg b) 22 false .eql t20_34 t1_12 H_35) fun t22_36 H_37 =>
  condR t22_36 (bindE (mLoad true 130 t7_28 H_37) fun t23_38 H_39 =>
  bindE (mStore true 130 t4_14 t23_38 H_39) fun u_40 H_41 =>
  some (LStep.ret [t4_14, (AV.c (.bool true))], H_41)) (bindE (mBin (cfg b) 3 true .add t15_20 (AV.c (.int .i64 1)) H_37) fun t24_42 H_43 =>
  some (LStep.cont [t1_12, t4_14, t13_16, t14_18, t24_42], H_43))) (some (LStep.exit 0 [t4_14, AV.any], H_23)))
/-- (*ferryman/chain.Chain).Header -/
noncomputable def p53 (b : Bool) (cf : CallFn) (k : Nat) (t0 t1 : AV) (H : Heap) : Option (AV × Heap) :=
  bindE (mAlloc 80 (.agg [(.int .u64 0), (.int .u64 0), (.arr 32 .u8 (List.replicate 32 0)), (.arr 32 .u8 (List.replicate 32 0)), (.arr 32 .u8 (List.replicate 32 0)), (.arr 32 .u8 (List.replicate 32 0))]) H) fun t4_0 H_1 =>
  bindE (mBin (cfg b) 81 true .neq t0 (AV.c .nilp) H_1) fun t9_2 H_3 =>
  condR t9_2 (bindE (mNil t0 H_3) fun t11_4 H_5 =>
  bindE (mFA 5 5 t11_4 H_5) fun t12_6 H_7 =>
  bindE (mLoad false 1 t12_6 H_7) fun t13_8 H_9 =>
  bindE (mLenSl t13_8 H_9) fun t14_10 H_11 =>
  afterL 0 (loopX k (p53_l0 b cf k) [t1, t4_0, t13_8, t14_10, (AV.c (.int .i64 0))] H_11) (fun vs_44 H_45 =>
  un vs_44 fun t4_46 vs_47 => un vs_47 fun t5_48 vs_49 => un0 vs_49 (bindE (mBuildS [(.int .u64 0), (.int .u64 0), (.arr 32 .u8 (List.replicate 32 0)), (.arr 32 .u8 (List.replicate 32 0)), (.arr 32 .u8 (List.replicate 32 0)), (.arr 32 .u8 (List.replicate 32 0))] [] H_45) fun t25_50 H_51 =>
  bindE (mStore true 130 t4_46 t25_50 H_51) fun u_52 H_53 =>
  endQ (cfg b) false k (resC1 (mld true 130 H_53 t4_46) (resC1 (some (AV.c (.bool false))) (some []))) H_53)) (fun vs_44 H_45 => un vs_44 fun t4_54 vs_55 => un vs_55 fun t5_56 vs_57 => un0 vs_57 (endQ (cfg b) false k (resC1 (mld true 130 H_45 t4_54) (resC1 (some t5_56) (some []))) H_45))) (bindE (mBuildS [(.int .u64 0), (.int .u64 0), (.arr 32 .u8 (List.replicate 32 0)), (.arr 32 .u8 (List.replicate 32 0)), (.arr 32 .u8 (List.replicate 32 0)), (.arr 32 .u8 (List.replicate 32 0))] [] H_3) fun t25_58 H_59 =>
  bindE (mStore true 130 t4_0 t25_58 H_59) fun u_60 H_61 =>
  endQ (cfg b) false k (resC1 (mld true 130 H_61 t4_0) (resC1 (some (AV.c (.bool false))) (some []))) H_61)
/-- (*ferryman/chain.Chain).Tree -/
noncomputable def p54 (b : Bool) (cf : CallFn) (k : Nat) (t0 t1 : AV) (H : Heap) : Option (AV × Heap) :=
  bindE (mBin (cfg b) 81 true .eql t0 (AV.c .nilp) H) fun t9_0 H_1 =>
  condR t9_0 (endQ (cfg b) false k (resC1 (some (AV.c .nilp)) (resC1 (some (AV.c (.bool false))) (some []))) H_1) (bindE (mNil t0 H_1) fun t12_2 H_3 =>
  bindE (mFA 4 4 t12_2 H_3) fun t13_4 H_5 =>
  bindE (mLoad false 1 t13_4 H_5) fun t14_6 H_7 =>
  bindE (cf 27 [t14_6, t1] H_7) fun t16_8 H_9 =>
  bindE (mExtract 0 t16_8 H_9) fun t17_10 H_11 =>
  bindE (mExtract 1 t16_8 H_11) fun t18_12 H_13 =>
  bindE (mBin (cfg b) 25 true .eql t18_12 (AV.c (.int .i64 0)) H_13) fun t21_14 H_15 =>
  endQ (cfg b) false k (resC1 (some t17_10) (resC1 (some t21_14) (some []))) H_15)
/-- (*ferryman/chain.Chain).Tick -/
noncomputable def p55_d0 (b : Bool) (cf : CallFn) (t0 t1 : AV) (H_2 : Heap) : Option ((List AV × List Trail) × Heap) :=
  bindE (drawM (some t0) H_2) fun t6_3 H_4 =>
  bindE (drawR true [t6_3.1] (fun F => mNil t6_3.1 F) H_4) fun t7_5 H_6 =>
  bindE (drawR true [t7_5.1] (fun F => mFA 3 3 t7_5.1 F) H_6) fun t8_7 H_8 =>
  bindE (drawR true [t8_7.1] (fun F => mLoad false 1 t8_7.1 F) H_8) fun t9_9 H_10 =>
  bindE (drawM (some t1) H_10) fun t10_11 H_12 =>
  bindE (drawM (some t0) H_12) fun t11_13 H_14 =>
  bindE (drawR true [t11_13.1] (fun F => mNil t11_13.1 F) H_14) fun t12_15 H_16 =>
  bindE (drawR true [t12_15.1] (fun F => mFA 3 3 t12_15.1 F) H_16) fun t13_17 H_18 =>
  bindE (drawR true [t13_17.1] (fun F => mLoad false 1 t13_17.1 F) H_18) fun t14_19 H_20 =>
  bindE (drawR true [t14_19.1] (fun F => mBin (cfg b) 22 true .sub (AV.c (.int .u64 1099511627776)) t14_19.1 F) H_20) fun t15_21 H_22 =>
  bindE (drawR true [t10_11.1, t15_21.1] (fun F => mMin [t10_11.1, t15_21.1] F) H_22) fun t16_23 H_24 =>
  bindE (drawR true [t9_9.1, t16_23.1] (fun F => mBin (cfg b) 22 false .add t9_9.1 t16_23.1 F) H_24) fun t17_25 H_26 =>
  bindE (drawR true [t6_3.1] (fun F => mNil t6_3.1 F) H_26) fun t18_27 H_28 =>
  bindE (drawR true [t18_27.1] (fun F => mFA 3 3 t18_27.1 F) H_28) fun t19_29 H_30 =>
  bindE (drawR false [t19_29.1, t17_25.1] (fun F => mStore false 1 t19_29.1 t17_25.1 F) H_30) fun u_31 H_32 =>
  some (([], [t6_3.2, t7_5.2, t8_7.2, t9_9.2, t10_11.2, t11_13.2, t12_15.2, t13_17.2, t14_19.2, t15_21.2, t16_23.2, t17_25.2, t18_27.2, t19_29.2, u_31.2]), H_32)
noncomputable def p55 (b : Bool) (cf : CallFn) (k : Nat) (t0 t1 : AV) (H : Heap) : Option (AV × Heap) :=
  bindE (mBin (cfg b) 81 true .neq t0 (AV.c .nilp) H) fun t5_0 H_1 =>
  condR t5_0 (afterD (twice [0, 1, 3, 7, 0, 0, 32, 96, 224, 480, 1008, 2047, 4095, 8191, 16383] (p55_d0 b cf t0 t1) H_1) fun vs_33 H_34 =>
  un0 vs_33 (endQ (cfg b) false k (some []) H_34)) (endQ (cfg b) false k (some []) H_1)
/-- (*ferryman/chain.Chain).Open -/
noncomputable def p57_d0 (b : Bool) (cf : CallFn) (t3_0 t0 : AV) (H_4 : Heap) : Option ((List AV × List Trail) × Heap) :=
  bindE (drawR true [t3_0] (fun F => mLoad true 130 t3_0 F) H_4) fun t10_5 H_6 =>
  bindE (drawM (some t0) H_6) fun t11_7 H_8 =>
  bindE (drawR true [t11_7.1] (fun F => mNil t11_7.1 F) H_8) fun t12_9 H_10 =>
  bindE (drawR true [t12_9.1] (fun F => mFA 1 1 t12_9.1 F) H_10) fun t13_11 H_12 =>
  bindE (drawR true [t13_11.1] (fun F => mLoad false 1 t13_11.1 F) H_12) fun t14_13 H_14 =>
  bindE (drawR false [t10_5.1, t14_13.1] (fun F => cf 99 [t10_5.1, t14_13.1] F) H_14) fun t15_15 H_16 =>
  bindE (drawM (some t15_15.1) H_16) fun t9_17 H_18 =>
  bindE (drawR true [t9_17.1] (fun F => mExtract 0 t9_17.1 F) H_18) fun t16_19 H_20 =>
  bindE (drawR true [t9_17.1] (fun F => mExtract 1 t9_17.1 F) H_20) fun t17_21 H_22 =>
  bindE (drawM (some t16_19.1) H_22) fun t5_23 H_24 =>
  bindE (drawM (some t17_21.1) H_24) fun t6_25 H_26 =>
  some (([t5_23.1, t6_25.1], [t10_5.2, t11_7.2, t12_9.2, t13_11.2, t14_13.2, t15_15.2, t9_17.2, t16_19.2, t17_21.2, t5_23.2, t6_25.2]), H_26)
noncomputable def p57 (b : Bool) (cf : CallFn) (k : Nat) (t0 t1 : AV) (H : Heap) : Option (AV × Heap) :=
  bindE (mBox 80 t1 H) fun t3_0 H_1 =>
  bindE (mBin (cfg b) 81 true .eql t0 (AV.c .nilp) H_1) fun t8_2 H_3 =>
  condR t8_2 (endQ (cfg b) false k (resC1 (some (AV.c (.int .i64 1))) (some [])) H_3) (afterD (twice [0, 0, 2, 6, 14, 31, 63, 127, 127, 255, 1023] (p57_d0 b cf t3_0 t0) H_3) fun vs_27 H_28 =>
  un vs_27 fun t5_29 vs_30 => un vs_30 fun t6_31 vs_32 => un0 vs_32 (bindE (mBin (cfg b) 25 true .eql t6_31 (AV.c (.int .i64 0)) H_28) fun t19_33 H_34 =>
  condR t19_33 (bindE (mNil t0 H_34) fun t22_35 H_36 =>
  bindE (mFA 6 6 t22_35 H_36) fun t23_37 H_38 =>
  bindE (mStore false 1 t23_37 t5_29 H_38) fun u_39 H_40 =>
  endQ (cfg b) false k (resC1 (some t6_31) (some [])) H_40) (endQ (cfg b) false k (resC1 (some t6_31) (some [])) H_34)))
/-- (*ferryman/chain.Chain).Client -/
noncomputable def p58 (b : Bool) (cf : CallFn) (k : Nat) (t0 : AV) (H : Heap) : Option (AV × Heap) :=
  bindE (mBin (cfg b) 81 true .eql t0 (AV.c .nilp) H) fun t4_0 H_1 =>
  condR t4_0 (endQ (cfg b) false k (resC1 (some (AV.c .nilp)) (some [])) H_1) (bindE (mNil t0 H_1) fun t6_2 H_3 =>
  bindE (mFA 6 6 t6_2 H_3) fun t7_4 H_5 =>
  bindE (mLoad false 1 t7_4 H_5) fun t8_6 H_7 =>
  endQ (cfg b) false k (resC1 (some t8_6) (some [])) H_7)
/-- (*ferryman/chain.Chain).Time -/
noncomputable def p60 (b : Bool) (cf : CallFn) (k : Nat) (t0 : AV) (H : Heap) : Option (AV × Heap) :=
  bindE (mBin (cfg b) 81 true .eql t0 (AV.c .nilp) H) fun t4_0 H_1 =>
  condR t4_0 (endQ (cfg b) false k (resC1 (some (AV.c (.int .u64 0))) (some [])) H_1) (bindE (mNil t0 H_1) fun t6_2 H_3 =>
  bindE (mFA 3 3 t6_2 H_3) fun t7_4 H_5 =>
  bindE (mLoad false 1 t7_4 H_5) fun t8_6 H_7 =>
  endQ (cfg b) false k (resC1 (some t8_6) (some [])) H_7)
theorem p53_eq (b : Bool) (cf : CallFn) (t0 t1 : AV) (H : Heap) : runG (cfg b) cf An 53 [t0, t1] H = p53 b cf H.length t0 t1 H := by kernel_rfl
theorem p54_eq (b : Bool) (cf : CallFn) (t0 t1 : AV) (H : Heap) : runG (cfg b) cf An 54 [t0, t1] H = p54 b cf H.length t0 t1 H := by kernel_rfl
theorem p55_eq (b : Bool) (cf : CallFn) (t0 t1 : AV) (H : Heap) : runG (cfg b) cf An 55 [t0, t1] H = p55 b cf H.length t0 t1 H := by kernel_rfl
theorem p57_eq (b : Bool) (cf : CallFn) (t0 t1 : AV) (H : Heap) : runG (cfg b) cf An 57 [t0, t1] H = p57 b cf H.length t0 t1 H := by kernel_rfl
theorem p58_eq (b : Bool) (cf : CallFn) (t0 : AV) (H : Heap) : runG (cfg b) cf An 58 [t0] H = p58 b cf H.length t0 H := by kernel_rfl
theorem p60_eq (b : Bool) (cf : CallFn) (t0 : AV) (H : Heap) : runG (cfg b) cf An 60 [t0] H = p60 b cf H.length t0 H := by kernel_rfl
end Go.Fm
/-
  What the interpreter does to functions, without slots and types; the kernel holds it against the code.
-/
set_option maxRecDepth 100000
set_option linter.unusedVariables false
namespace Go.Fm
open Go Go.Proofs
/-- (*ferryman/client.Client).Latest -/
noncomputable def p73_d0 (b : Bool) (cf : CallFn) (t0 : AV) (H_2 : Heap) : Option ((List AV × List Trail) × Heap) :=
  bindE (drawM (some t0) H_2) fun t5_3 H_4 =>
  bindE (drawR true [t5_3.1] (fun F => mNil t5_3.1 F) H_4) fun t6_5 H_6 =>
  bindE (drawR true [t6_5.1] (fun F => mFA 1 1 t6_5.1 F) H_6) fun t7_7 H_8 =>
  bindE (drawR true [t7_7.1] (fun F => mLoad false 1 t7_7.1 F) H_8) fun t8_9 H_10 =>
  bindE (drawM (some t0) H_10) fun t9_11 H_12 =>
  bindE (drawR true [t9_11.1] (fun F => mNil t9_11.1 F) H_12) fun t10_13 H_14 =>
  bindE (drawR true [t10_13.1] (fun F => mFA 1 1 t10_13.1 F) H_14) fun t11_15 H_16 =>
  bindE (drawR true [t11_15.1] (fun F => mLoad false 1 t11_15.1 F) H_16) fun t12_17 H_18 =>
  bindE (drawR true [t12_17.1] (fun F => mLenSl t12_17.1 F) H_18) fun t13_19 H_20 =>
  bindE (drawR true [t13_19.1] (fun F => mBin (cfg b) 3 true .sub t13_19.1 (AV.c (.int .i64 1)) F) H_20) fun t14_21 H_22 =>
  bindE (drawR true [t8_9.1, t14_21.1] (fun F => mIdxS 98 t8_9.1 t14_21.1 F) H_22) fun t15_23 H_24 =>
  bindE (drawR true [t15_23.1] (fun F => mFA 0 0 t15_23.1 F) H_24) fun t16_25 H_26 =>
  bindE (drawR true [t16_25.1] (fun F => mLoad false 1 t16_25.1 F) H_26) fun t17_27 H_28 =>
  bindE (drawM (some t17_27.1) H_28) fun t2_29 H_30 =>
  some (([t2_29.1], [t5_3.2, t6_5.2, t7_7.2, t8_9.2, t9_11.2, t10_13.2, t11_15.2, t12_17.2, t13_19.2, t14_21.2, t15_23.2, t16_25.2, t17_27.2, t2_29.2]), H_30)
noncomputable def p73 (b : Bool) (cf : CallFn) (k : Nat) (t0 : AV) (H : Heap) : Option (AV × Heap) :=
  bindE (mBin (cfg b) 92 true .eql t0 (AV.c .nilp) H) fun t4_0 H_1 =>
  condR t4_0 (endQ (cfg b) false k (resC1 (some (AV.c (.int .u64 0))) (some [])) H_1) (afterD (twice [0, 1, 3, 7, 0, 16, 48, 112, 240, 496, 1023, 2047, 4095, 8191] (p73_d0 b cf t0) H_1) fun vs_31 H_32 =>
  un vs_31 fun t2_33 vs_34 => un0 vs_34 (endQ (cfg b) false k (resC1 (some t2_33) (some [])) H_32))
/-- ferryman/client.New -/
noncomputable def p99 (b : Bool) (cf : CallFn) (k : Nat) (t0 t1 : AV) (H : Heap) : Option (AV × Heap) :=
  bindE (mBox 80 t0 H) fun t2_0 H_1 =>
  bindE (mBin (cfg b) 22 true .lss t1 (AV.c (.int .u64 1)) H_1) fun t8_2 H_3 =>
  bindE (guardR (wantR false t8_2) (some (t1, H_3)) H_3) fun t10_4 H_5 =>
  bindE (guardR (wantR false t8_2) (mBin (cfg b) 22 true .gtr t10_4 (AV.c (.int .u64 4294967296)) H_5) H_5) fun t11_6 H_7 =>
  bindE (mPick t8_2 (AV.c (.bool true)) t11_6 H_7) fun t12_8 H_9 =>
  condR t12_8 (endQ (cfg b) false k (resC1 (some (AV.c .nilp)) (resC1 (some (AV.c (.int .i64 2))) (some []))) H_9) (bindE (mFA 0 0 t2_0 H_9) fun t14_10 H_11 =>
  bindE (mLoad false 1 t14_10 H_11) fun t15_12 H_13 =>
  bindE (mBin (cfg b) 22 true .lss t15_12 (AV.c (.int .u64 1)) H_13) fun t16_14 H_15 =>
  bindE (guardR (wantR false t16_14) (mFA 0 0 t2_0 H_15) H_15) fun t18_16 H_17 =>
  bindE (guardR (wantR false t16_14) (mLoad false 1 t18_16 H_17) H_17) fun t19_18 H_19 =>
  bindE (guardR (wantR false t16_14) (mBin (cfg b) 22 true .gtr t19_18 (AV.c (.int .u64 1099511627776)) H_19) H_19) fun t20_20 H_21 =>
  bindE (mPick t16_14 (AV.c (.bool true)) t20_20 H_21) fun t21_22 H_23 =>
  condR t21_22 (endQ (cfg b) false k (resC1 (some (AV.c .nilp)) (resC1 (some (AV.c (.int .i64 32))) (some []))) H_23) (bindE (mFA 1 1 t2_0 H_23) fun t23_24 H_25 =>
  bindE (mLoad false 1 t23_24 H_25) fun t24_26 H_27 =>
  bindE (mBin (cfg b) 22 true .gtr t24_26 (AV.c (.int .u64 1099511627776)) H_27) fun t25_28 H_29 =>
  condR t25_28 (endQ (cfg b) false k (resC1 (some (AV.c .nilp)) (resC1 (some (AV.c (.int .i64 33))) (some []))) H_29) (bindE (mLoad true 130 t2_0 H_29) fun t27_30 H_31 =>
  bindE (cf 110 [t27_30] H_31) fun t28_32 H_33 =>
  bindE (mBuildSl 168 98 (.agg [(.int .u64 0), (.int .u64 0), (.arr 32 .u8 (List.replicate 32 0)), (.arr 32 .u8 (List.replicate 32 0)), (.arr 32 .u8 (List.replicate 32 0))]) 1 [(0, t28_32)] H_33) fun t29_34 H_35 =>
  bindE (mBuildS [(.int .u64 0), .nilsl, (.bool false)] [(0, t1), (1, t29_34)] H_35) fun t30_36 H_37 =>
  bindE (mBox 171 t30_36 H_37) fun t31_38 H_39 =>
  endQ (cfg b) false k (resC1 (some t31_38) (resC1 (some (AV.c (.int .i64 0))) (some []))) H_39)))
theorem p73_eq (b : Bool) (cf : CallFn) (t0 : AV) (H : Heap) : runG (cfg b) cf An 73 [t0] H = p73 b cf H.length t0 H := by kernel_rfl
theorem p99_eq (b : Bool) (cf : CallFn) (t0 t1 : AV) (H : Heap) : runG (cfg b) cf An 99 [t0, t1] H = p99 b cf H.length t0 t1 H := by kernel_rfl
end Go.Fm
/-
  What the interpreter does to functions, without slots and types; the kernel holds it against the code.
-/
set_option maxRecDepth 100000
set_option linter.unusedVariables false
namespace Go.Fm
open Go Go.Proofs
/-- ferryman/client.of -/
noncomputable def p110_d0 (b : Bool) (cf : CallFn) (t1_0 t2_2 : AV) (H_4 : Heap) : Option ((List AV × List Trail) × Heap) :=
  bindE (drawR true [t1_0] (fun F => mFA 0 0 t1_0 F) H_4) fun t3_5 H_6 =>
  bindE (drawR true [t3_5.1] (fun F => mLoad false 1 t3_5.1 F) H_6) fun t4_7 H_8 =>
  bindE (drawR true [t1_0] (fun F => mFA 1 1 t1_0 F) H_8) fun t5_9 H_10 =>
  bindE (drawR true [t5_9.1] (fun F => mLoad false 1 t5_9.1 F) H_10) fun t6_11 H_12 =>
  bindE (drawR true [t1_0] (fun F => mFA 2 2 t1_0 F) H_12) fun t7_13 H_14 =>
  bindE (drawR true [t7_13.1] (fun F => mLoad true 32 t7_13.1 F) H_14) fun t8_15 H_16 =>
  bindE (drawR true [t1_0] (fun F => mFA 4 66 t1_0 F) H_16) fun t9_17 H_18 =>
  bindE (drawR true [t9_17.1] (fun F => mLoad true 32 t9_17.1 F) H_18) fun t10_19 H_20 =>
  bindE (drawR true [t1_0] (fun F => mLoad true 130 t1_0 F) H_20) fun t11_21 H_22 =>
  bindE (drawR false [t11_21.1] (fun F => cf 98 [t11_21.1] F) H_22) fun t12_23 H_24 =>
  bindE (drawR false [t4_7.1, t6_11.1, t8_15.1, t10_19.1, t12_23.1] (fun F => mBuildS [(.int .u64 0), (.int .u64 0), (.arr 32 .u8 (List.replicate 32 0)), (.arr 32 .u8 (List.replicate 32 0)), (.arr 32 .u8 (List.replicate 32 0))] [(0, t4_7.1), (1, t6_11.1), (2, t8_15.1), (3, t10_19.1), (4, t12_23.1)] F) H_24) fun t13_25 H_26 =>
  bindE (drawR false [t2_2, t13_25.1] (fun F => mStore true 98 t2_2 t13_25.1 F) H_26) fun u_27 H_28 =>
  some (([], [t3_5.2, t4_7.2, t5_9.2, t6_11.2, t7_13.2, t8_15.2, t9_17.2, t10_19.2, t11_21.2, t12_23.2, t13_25.2, u_27.2]), H_28)
noncomputable def p110 (b : Bool) (cf : CallFn) (k : Nat) (t0 : AV) (H : Heap) : Option (AV × Heap) :=
  bindE (mBox 80 t0 H) fun t1_0 H_1 =>
  bindE (mAlloc 168 (.agg [(.int .u64 0), (.int .u64 0), (.arr 32 .u8 (List.replicate 32 0)), (.arr 32 .u8 (List.replicate 32 0)), (.arr 32 .u8 (List.replicate 32 0))]) H_1) fun t2_2 H_3 =>
  afterD (twice [0, 1, 0, 4, 0, 16, 0, 64, 0, 256, 1023, 2047] (p110_d0 b cf t1_0 t2_2) H_3) fun vs_29 H_30 =>
  un0 vs_29 (endQ (cfg b) false k (resC1 (mld true 98 H_30 t2_2) (some [])) H_30)
theorem p110_eq (b : Bool) (cf : CallFn) (t0 : AV) (H : Heap) : runG (cfg b) cf An 110 [t0] H = p110 b cf H.length t0 H := by kernel_rfl
end Go.Fm
/-
  What the interpreter does to functions, without slots and types; the kernel holds it against the code.
-/
set_option maxRecDepth 100000
set_option linter.unusedVariables false
namespace Go.Fm
open Go Go.Proofs
end Go.Fm
/-
  What the interpreter does to functions, without slots and types; the kernel holds it against the code.
-/
set_option maxRecDepth 100000
set_option linter.unusedVariables false
namespace Go.Fm
open Go Go.Proofs
end Go.Fm
/-
  What the interpreter does to functions, without slots and types; the kernel holds it against the code.
-/
set_option maxRecDepth 100000
set_option linter.unusedVariables false
namespace Go.Fm
open Go Go.Proofs
/-- ferryman/ferrymanlaw18.vals -/
noncomputable def p82 (b : Bool) (cf : CallFn) (k : Nat) (t0 t1 : AV) (H : Heap) : Option (AV × Heap) :=
  bindE (mAlloc 41 (.arr 32 .u8 (List.replicate 32 0)) H) fun t4_0 H_1 =>
  bindE (mBuildSl 5 1 (.int .u8 0) 4 [(0, (AV.c (.int .u8 118))), (1, (AV.c (.int .u8 97))), (2, (AV.c (.int .u8 108))), (3, (AV.c (.int .u8 115)))] H_1) fun t5_2 H_3 =>
  bindE (mConv0 t5_2 H_3) fun t6_4 H_5 =>
  bindE (mBuildSl 5 1 (.int .u8 0) 1 [(0, t0)] H_5) fun t8_6 H_7 =>
  bindE (mAppend 5 1 1 false t6_4 t8_6 H_7) fun t9_8 H_9 =>
  bindE (cf 32 [t1] H_9) fun t11_10 H_11 =>
  bindE (mAppend 5 1 1 false t9_8 t11_10 H_11) fun t12_12 H_13 =>
  bindE (cf 90 [t12_12] H_13) fun t13_14 H_15 =>
  bindE (mStore true 32 t4_0 t13_14 H_15) fun u_16 H_17 =>
  endQ (cfg b) false k (resC1 (mld true 32 H_17 t4_0) (some [])) H_17
/-- ferryman/ferrymanref01.Seal -/
noncomputable def p83_d0 (b : Bool) (cf : CallFn) (t1_0 t2_2 : AV) (H_10 : Heap) : Option ((List AV × List Trail) × Heap) :=
  bindE (drawR false [] (fun F => mBuildSl 5 1 (.int .u8 0) 4 [(0, (AV.c (.int .u8 115))), (1, (AV.c (.int .u8 101))), (2, (AV.c (.int .u8 97))), (3, (AV.c (.int .u8 108)))] F) H_10) fun t5_11 H_12 =>
  bindE (drawR true [t5_11.1] (fun F => mConv0 t5_11.1 F) H_12) fun t6_13 H_14 =>
  bindE (drawR true [t1_0] (fun F => mFA 3 34 t1_0 F) H_14) fun t7_15 H_16 =>
  bindE (drawR false [t7_15.1] (fun F => mSliceArr 32 t7_15.1 none none F) H_16) fun t8_17 H_18 =>
  bindE (drawR false [t6_13.1, t8_17.1] (fun F => mAppend 5 1 1 false t6_13.1 t8_17.1 F) H_18) fun t9_19 H_20 =>
  bindE (drawR true [t1_0] (fun F => mLoad true 130 t1_0 F) H_20) fun t10_21 H_22 =>
  bindE (drawR false [t10_21.1] (fun F => cf 116 [t10_21.1] F) H_22) fun t11_23 H_24 =>
  bindE (drawR false [t9_19.1, t11_23.1] (fun F => mAppend 5 1 1 false t9_19.1 t11_23.1 F) H_24) fun t12_25 H_26 =>
  bindE (drawR false [t12_25.1] (fun F => cf 90 [t12_25.1] F) H_26) fun t13_27 H_28 =>
  bindE (drawR false [t2_2, t13_27.1] (fun F => mStore true 32 t2_2 t13_27.1 F) H_28) fun u_29 H_30 =>
  some (([], [t5_11.2, t6_13.2, t7_15.2, t8_17.2, t9_19.2, t10_21.2, t11_23.2, t12_25.2, t13_27.2, u_29.2]), H_30)
noncomputable def p83 (b : Bool) (cf : CallFn) (k : Nat) (t0 : AV) (H : Heap) : Option (AV × Heap) :=
  bindE (mBox 80 t0 H) fun t1_0 H_1 =>
  bindE (mAlloc 41 (.arr 32 .u8 (List.replicate 32 0)) H_1) fun t2_2 H_3 =>
  bindE (mBuildA 32 .u8 (List.replicate 32 0) [] H_3) fun t3_4 H_5 =>
  bindE (mFA 5 98 t1_0 H_5) fun t4_6 H_7 =>
  bindE (mStore true 32 t4_6 t3_4 H_7) fun u_8 H_9 =>
  afterD (twice [0, 1, 0, 4, 15, 0, 63, 127, 255, 511] (p83_d0 b cf t1_0 t2_2) H_9) fun vs_31 H_32 =>
  un0 vs_31 (endQ (cfg b) false k (resC1 (mld true 32 H_32 t2_2) (some [])) H_32)
/-- ferryman/ferrymanref01.Header -/
noncomputable def p116_d0 (b : Bool) (cf : CallFn) (t1_0 : AV) (H_2 : Heap) : Option ((List AV × List Trail) × Heap) :=
  bindE (drawR true [t1_0] (fun F => mFA 0 0 t1_0 F) H_2) fun t4_3 H_4 =>
  bindE (drawR true [t4_3.1] (fun F => mLoad false 1 t4_3.1 F) H_4) fun t5_5 H_6 =>
  bindE (drawR false [t5_5.1] (fun F => cf 139 [t5_5.1] F) H_6) fun t6_7 H_8 =>
  bindE (drawR false [t6_7.1] (fun F => cf 138 [(AV.c .nilsl), (AV.c (.int .u8 1)), t6_7.1] F) H_8) fun t7_9 H_10 =>
  bindE (drawR true [t1_0] (fun F => mFA 1 1 t1_0 F) H_10) fun t8_11 H_12 =>
  bindE (drawR true [t8_11.1] (fun F => mLoad false 1 t8_11.1 F) H_12) fun t9_13 H_14 =>
  bindE (drawR false [t9_13.1] (fun F => cf 139 [t9_13.1] F) H_14) fun t10_15 H_16 =>
  bindE (drawR false [t7_9.1, t10_15.1] (fun F => cf 138 [t7_9.1, (AV.c (.int .u8 2)), t10_15.1] F) H_16) fun t11_17 H_18 =>
  bindE (drawM (some t11_17.1) H_18) fun t3_19 H_20 =>
  some (([t3_19.1], [t4_3.2, t5_5.2, t6_7.2, t7_9.2, t8_11.2, t9_13.2, t10_15.2, t11_17.2, t3_19.2]), H_20)
noncomputable def p116_d1 (b : Bool) (cf : CallFn) (t3_23 t1_0 : AV) (H_25 : Heap) : Option ((List AV × List Trail) × Heap) :=
  bindE (drawM (some t3_23) H_25) fun t12_26 H_27 =>
  bindE (drawR true [t1_0] (fun F => mFA 2 2 t1_0 F) H_27) fun t13_28 H_29 =>
  bindE (drawR true [t13_28.1] (fun F => mLoad true 32 t13_28.1 F) H_29) fun t14_30 H_31 =>
  bindE (drawR false [t12_26.1, t14_30.1] (fun F => cf 140 [t12_26.1, (AV.c (.int .u8 3)), t14_30.1] F) H_31) fun t15_32 H_33 =>
  bindE (drawR true [t1_0] (fun F => mFA 3 34 t1_0 F) H_33) fun t16_34 H_35 =>
  bindE (drawR true [t16_34.1] (fun F => mLoad true 32 t16_34.1 F) H_35) fun t17_36 H_37 =>
  bindE (drawR false [t15_32.1, t17_36.1] (fun F => cf 140 [t15_32.1, (AV.c (.int .u8 4)), t17_36.1] F) H_37) fun t18_38 H_39 =>
  bindE (drawR true [t1_0] (fun F => mFA 4 66 t1_0 F) H_39) fun t19_40 H_41 =>
  bindE (drawR true [t19_40.1] (fun F => mLoad true 32 t19_40.1 F) H_41) fun t20_42 H_43 =>
  bindE (drawR false [t18_38.1, t20_42.1] (fun F => cf 140 [t18_38.1, (AV.c (.int .u8 5)), t20_42.1] F) H_43) fun t21_44 H_45 =>
  bindE (drawR true [t1_0] (fun F => mFA 5 98 t1_0 F) H_45) fun t22_46 H_47 =>
  bindE (drawR true [t22_46.1] (fun F => mLoad true 32 t22_46.1 F) H_47) fun t23_48 H_49 =>
  bindE (drawR false [t21_44.1, t23_48.1] (fun F => cf 140 [t21_44.1, (AV.c (.int .u8 6)), t23_48.1] F) H_49) fun t24_50 H_51 =>
  bindE (drawM (some t24_50.1) H_51) fun t2_52 H_53 =>
  some (([t2_52.1], [t12_26.2, t13_28.2, t14_30.2, t15_32.2, t16_34.2, t17_36.2, t18_38.2, t19_40.2, t20_42.2, t21_44.2, t22_46.2, t23_48.2, t24_50.2, t2_52.2]), H_53)
noncomputable def p116 (b : Bool) (cf : CallFn) (k : Nat) (t0 : AV) (H : Heap) : Option (AV × Heap) :=
  bindE (mBox 80 t0 H) fun t1_0 H_1 =>
  afterD (twice [0, 1, 3, 7, 0, 16, 63, 127, 255] (p116_d0 b cf t1_0) H_1) fun vs_21 H_22 =>
  un vs_21 fun t3_23 vs_24 => un0 vs_24 (afterD (twice [0, 0, 2, 7, 0, 16, 63, 0, 128, 511, 0, 1024, 4095, 8191] (p116_d1 b cf t3_23 t1_0) H_22) fun vs_54 H_55 =>
  un vs_54 fun t2_56 vs_57 => un0 vs_57 (endQ (cfg b) false k (resC1 (some t2_56) (some [])) H_55))
/-- ferryman/ferrymanref01.Put -/
noncomputable def p138 (b : Bool) (cf : CallFn) (k : Nat) (t0 t1 t2 : AV) (H : Heap) : Option (AV × Heap) :=
  bindE (mLenSl t2 H) fun t8_0 H_1 =>
  bindE (mBin (cfg b) 3 true .eql t8_0 (AV.c (.int .i64 0)) H_1) fun t9_2 H_3 =>
  condR t9_2 (endQ (cfg b) false k (resC1 (some t0) (some [])) H_3) (bindE (mBuildSl 5 1 (.int .u8 0) 0 [] H_3) fun t11_4 H_5 =>
  bindE (mAppend 5 1 1 false t11_4 t0 H_5) fun t13_6 H_7 =>
  bindE (mLenSl t2 H_7) fun t16_8 H_9 =>
  bindE (mBin (cfg b) 3 true .quo t16_8 (AV.c (.int .i64 256)) H_9) fun t17_10 H_11 =>
  bindE (mConvI .u8 t17_10 H_11) fun t18_12 H_13 =>
  bindE (mLenSl t2 H_13) fun t20_14 H_15 =>
  bindE (mBin (cfg b) 3 true .rem t20_14 (AV.c (.int .i64 256)) H_15) fun t21_16 H_17 =>
  bindE (mConvI .u8 t21_16 H_17) fun t22_18 H_19 =>
  bindE (mBuildSl 5 1 (.int .u8 0) 3 [(0, t1), (1, t18_12), (2, t22_18)] H_19) fun t23_20 H_21 =>
  bindE (mAppend 5 1 1 false t13_6 t23_20 H_21) fun t24_22 H_23 =>
  bindE (mAppend 5 1 1 false t24_22 t2 H_23) fun t26_24 H_25 =>
  endQ (cfg b) false k (resC1 (some t26_24) (some [])) H_25)
noncomputable def p139_l0 (b : Bool) (cf : CallFn) (k : Nat) (s : List AV) (H : Heap) : Option (LStep × Heap) :=
  un s fun t3_2 vs_3 => un0 vs_3 (bindE (mLenSl t3_2 H) fun t7_4 H_5 =>
  bindE (mBin (cfg b) 3 true .gtr t7_4 (AV.c (.int .i64 0)) H_5) fun t8_6 H_7 =>
  bindE (guardR (wantR true t8_6) (some (t3_2, H_7)) H_7) fun t10_8 H_9 =>
  bindE (guardR (wantR true t8_6) (mIdxS 1 t10_8 (AV.c (.int .i64 0)) H_9) H_9) fun t11_10 H_11 =>
  bindE (guardR (wantR true t8_6) (mLoad false 1 t11_10 H_11) H_11) fun t12_12 H_13 =>
  bindE (guardR (wantR true t8_6) (mBin (cfg b) 5 true .eql t12_12 (AV.c (.int .u8 0)) H_13) H_13) fun t13_14 H_15 =>
  bindE (mPick t8_6 t13_14 (AV.c (.bool false)) H_15) fun t14_16 H_17 =>
  condR t14_16 (bindE (mSliceSl 1 t3_2 (some (AV.c (.int .i64 1))) none H_17) fun t16_18 H_19 =>
  some (LStep.cont [t16_18], H_19)) (some (LStep.exit 0 [t3_2], H_17)))
/-- ferryman/ferrymanref01.Num -/
noncomputable def p139 (b : Bool) (cf : CallFn) (k : Nat) (t0 : AV) (H : Heap) : Option (AV × Heap) :=
  bindE (cf 32 [t0] H) fun t5_0 H_1 =>
  afterL 0 (loopX k (p139_l0 b cf k) [t5_0] H_1) (fun vs_20 H_21 =>
  un vs_20 fun t3_22 vs_23 => un0 vs_23 (endQ (cfg b) false k (resC1 (some t3_22) (some [])) H_21)) (fun vs_20 H_21 => un vs_20 fun t3_24 vs_25 => un0 vs_25 (endQ (cfg b) false k (resC1 (some AV.any) (some [])) H_21))
/-- ferryman/ferrymanref01.hash -/
noncomputable def p140 (b : Bool) (cf : CallFn) (k : Nat) (t0 t1 t2 : AV) (H : Heap) : Option (AV × Heap) :=
  bindE (mBox 41 t2 H) fun t5_0 H_1 =>
  bindE (mLoad true 32 t5_0 H_1) fun t7_2 H_3 =>
  bindE (mBuildA 32 .u8 (List.replicate 32 0) [] H_3) fun t8_4 H_5 =>
  bindE (mBin (cfg b) 41 false .eql t7_2 t8_4 H_5) fun t9_6 H_7 =>
  condR t9_6 (endQ (cfg b) false k (resC1 (some t0) (some [])) H_7) (bindE (mSliceArr 32 t5_0 none none H_7) fun t13_8 H_9 =>
  bindE (cf 138 [t0, t1, t13_8] H_9) fun t14_10 H_11 =>
  endQ (cfg b) false k (resC1 (some t14_10) (some [])) H_11)
theorem p82_eq (b : Bool) (cf : CallFn) (t0 t1 : AV) (H : Heap) : runG (cfg b) cf An 82 [t0, t1] H = p82 b cf H.length t0 t1 H := by kernel_rfl
theorem p83_eq (b : Bool) (cf : CallFn) (t0 : AV) (H : Heap) : runG (cfg b) cf An 83 [t0] H = p83 b cf H.length t0 H := by kernel_rfl
theorem p116_eq (b : Bool) (cf : CallFn) (t0 : AV) (H : Heap) : runG (cfg b) cf An 116 [t0] H = p116 b cf H.length t0 H := by kernel_rfl
theorem p138_eq (b : Bool) (cf : CallFn) (t0 t1 t2 : AV) (H : Heap) : runG (cfg b) cf An 138 [t0, t1, t2] H = p138 b cf H.length t0 t1 t2 H := by kernel_rfl
theorem p139_eq (b : Bool) (cf : CallFn) (t0 : AV) (H : Heap) : runG (cfg b) cf An 139 [t0] H = p139 b cf H.length t0 H := by kernel_rfl
theorem p140_eq (b : Bool) (cf : CallFn) (t0 t1 t2 : AV) (H : Heap) : runG (cfg b) cf An 140 [t0, t1, t2] H = p140 b cf H.length t0 t1 t2 H := by kernel_rfl
end Go.Fm
/-
  What the interpreter does to functions, without slots and types; the kernel holds it against the code.
-/
set_option maxRecDepth 100000
set_option linter.unusedVariables false
namespace Go.Fm
open Go Go.Proofs
noncomputable def p21_l0_d0 (b : Bool) (cf : CallFn) (t150_150 t9_34 t16_58 : AV) (H_160 : Heap) : Option ((List AV × List Trail) × Heap) :=
  bindE (drawM (some t150_150) H_160) fun t159_161 H_162 =>
  bindE (drawM (some t159_161.1) H_162) fun t160_163 H_164 =>
  bindE (guardD (wantR true t160_163.1) (drawM (some t9_34) H_164) H_164) fun t161_165 H_166 =>
  bindE (guardD (wantR true t160_163.1) (drawR false [t161_165.1] (fun F => cf 58 [t161_165.1] F) H_166) H_166) fun t162_167 H_168 =>
  bindE (guardD (wantR true t160_163.1) (drawR false [t162_167.1] (fun F => cf 73 [t162_167.1] F) H_168) H_168) fun t163_169 H_170 =>
  bindE (guardD (wantR true t160_163.1) (drawR true [t16_58] (fun F => mFA 2 2 t16_58 F) H_170) H_170) fun t164_171 H_172 =>
  bindE (guardD (wantR true t160_163.1) (drawR true [t164_171.1] (fun F => mFA 0 0 t164_171.1 F) H_172) H_172) fun t165_173 H_174 =>
  bindE (guardD (wantR true t160_163.1) (drawR true [t165_173.1] (fun F => mLoad false 1 t165_173.1 F) H_174) H_174) fun t166_175 H_176 =>
  bindE (guardD (wantR true t160_163.1) (drawR true [t163_169.1, t166_175.1] (fun F => mBin (cfg b) 22 false .neq t163_169.1 t166_175.1 F) H_176) H_176) fun t167_177 H_178 =>
  bindE (drawR true [t160_163.1, t167_177.1] (fun F => mPick t160_163.1 t167_177.1 (AV.c (.bool false)) F) H_178) fun t168_179 H_180 =>
  some (([t168_179.1], [t159_161.2, t160_163.2, t161_165.2, t162_167.2, t163_169.2, t164_171.2, t165_173.2, t166_175.2, t167_177.2, t168_179.2]), H_180)
noncomputable def p21_l0 (b : Bool) (cf : CallFn) (k : Nat) (s : List AV) (H : Heap) : Option (LStep × Heap) :=
  un s fun t0_28 vs_29 => un vs_29 fun t1_30 vs_31 => un vs_31 fun t2_32 vs_33 => un vs_33 fun t9_34 vs_35 => un vs_35 fun t10_36 vs_37 => un vs_37 fun t11_38 vs_39 => un vs_39 fun t12_40 vs_41 => un vs_41 fun t13_42 vs_43 => un vs_43 fun t14_44 vs_45 => un vs_45 fun t50_46 vs_47 => un vs_47 fun t51_48 vs_49 => un vs_49 fun t52_50 vs_51 => un0 vs_51 (bindE (mBin (cfg b) 3 false .lss t52_50 t51_48 H) fun t53_52 H_53 =>
  condR t53_52 (bindE (mIdxS 132 t50_46 t52_50 H_53) fun t55_54 H_55 =>
  bindE (mLoad true 132 t55_54 H_55) fun t56_56 H_57 =>
  bindE (mAlloc 126 (.agg [(.int .u8 0), (.int .u64 0), (.agg [(.int .u64 0), (.int .u64 0), (.arr 32 .u8 (List.replicate 32 0)), (.arr 32 .u8 (List.replicate 32 0)), (.arr 32 .u8 (List.replicate 32 0)), (.arr 32 .u8 (List.replicate 32 0))])]) H_57) fun t16_58 H_59 =>
  bindE (mStore true 132 t16_58 t56_56 H_59) fun u_60 H_61 =>
  bindE (mBin (cfg b) 3 true .gtr t52_50 (AV.c (.int .i64 100)) H_61) fun t58_62 H_63 =>
  condR t58_62 (some (LStep.exit 0 [t0_28, t1_30, AV.any, t9_34, t10_36, t11_38, t14_44], H_63)) (bindE (mFA 0 0 t16_58 H_63) fun t59_64 H_65 =>
  bindE (mLoad false 1 t59_64 H_65) fun t60_66 H_67 =>
  bindE (mBin (cfg b) 5 true .rem t60_66 (AV.c (.int .u8 6)) H_67) fun t61_68 H_69 =>
  bindE (mBin (cfg b) 5 true .eql t61_68 (AV.c (.int .u8 4)) H_69) fun t117_70 H_71 =>
  condR t117_70 (bindE (mFA 1 1 t16_58 H_71) fun t119_72 H_73 =>
  bindE (mLoad false 1 t119_72 H_73) fun t120_74 H_75 =>
  bindE (cf 55 [t9_34, t120_74] H_75) fun t121_76 H_77 =>
  bindE (mFA 1 1 t16_58 H_77) fun t123_78 H_79 =>
  bindE (mLoad false 1 t123_78 H_79) fun t124_80 H_81 =>
  bindE (mBin (cfg b) 22 true .sub (AV.c (.int .u64 1099511627776)) t12_40 H_81) fun t126_82 H_83 =>
  bindE (mMin [t124_80, t126_82] H_83) fun t127_84 H_85 =>
  bindE (mBin (cfg b) 22 false .add t12_40 t127_84 H_85) fun t128_86 H_87 =>
  bindE (cf 59 [t9_34] H_87) fun t170_88 H_89 =>
  bindE (mBin (cfg b) 22 false .neq t170_88 t11_38 H_89) fun t172_90 H_91 =>
  bindE (guardR (wantR false t172_90) (some (t9_34, H_91)) H_91) fun t174_92 H_93 =>
  bindE (guardR (wantR false t172_90) (cf 60 [t174_92] H_93) H_93) fun t175_94 H_95 =>
  bindE (guardR (wantR false t172_90) (some (t128_86, H_95)) H_95) fun t176_96 H_97 =>
  bindE (guardR (wantR false t172_90) (mBin (cfg b) 22 false .neq t175_94 t176_96 H_97) H_97) fun t177_98 H_99 =>
  bindE (mPick t172_90 (AV.c (.bool true)) t177_98 H_99) fun t178_100 H_101 =>
  bindE (guardR (wantR false t178_100) (some (t9_34, H_101)) H_101) fun t180_102 H_103 =>
  bindE (guardR (wantR false t178_100) (cf 58 [t180_102] H_103) H_103) fun t181_104 H_105 =>
  bindE (guardR (wantR false t178_100) (mBin (cfg b) 92 true .neq t181_104 (AV.c .nilp) H_105) H_105) fun t182_106 H_107 =>
  bindE (guardR (wantR false t178_100) (some (t13_42, H_107)) H_107) fun t183_108 H_109 =>
  bindE (guardR (wantR false t178_100) (mBin (cfg b) 4 false .neq t182_106 t183_108 H_109) H_109) fun t184_110 H_111 =>
  bindE (mPick t178_100 (AV.c (.bool true)) t184_110 H_111) fun t185_112 H_113 =>
  condR t185_112 (some (LStep.ret [t0_28, t1_30, (AV.c (.bool false)), t9_34, t10_36, t11_38, t14_44], H_113)) (bindE (mBin (cfg b) 3 true .add t52_50 (AV.c (.int .i64 1)) H_113) fun t186_114 H_115 =>
  some (LStep.cont [t0_28, t1_30, t2_32, t9_34, t10_36, t11_38, t128_86, t13_42, t14_44, t50_46, t51_48, t186_114], H_115))) (bindE (mBin (cfg b) 5 true .eql t61_68 (AV.c (.int .u8 5)) H_71) fun t130_116 H_117 =>
  condR t130_116 (bindE (mFA 2 2 t16_58 H_117) fun t132_118 H_119 =>
  bindE (mLoad true 130 t132_118 H_119) fun t133_120 H_121 =>
  bindE (cf 57 [t9_34, t133_120] H_121) fun t134_122 H_123 =>
  bindE (mFA 2 2 t16_58 H_123) fun t135_124 H_125 =>
  bindE (mFA 0 0 t135_124 H_125) fun t136_126 H_127 =>
  bindE (mLoad false 1 t136_126 H_127) fun t137_128 H_129 =>
  bindE (mBin (cfg b) 22 true .geq t137_128 (AV.c (.int .u64 1)) H_129) fun t138_130 H_131 =>
  bindE (guardR (wantR true t138_130) (mFA 2 2 t16_58 H_131) H_131) fun t140_132 H_133 =>
  bindE (guardR (wantR true t138_130) (mFA 0 0 t140_132 H_133) H_133) fun t141_134 H_135 =>
  bindE (guardR (wantR true t138_130) (mLoad false 1 t141_134 H_135) H_135) fun t142_136 H_137 =>
  bindE (guardR (wantR true t138_130) (mBin (cfg b) 22 true .leq t142_136 (AV.c (.int .u64 1099511627776)) H_137) H_137) fun t143_138 H_139 =>
  bindE (mPick t138_130 t143_138 (AV.c (.bool false)) H_139) fun t144_140 H_141 =>
  bindE (guardR (wantR true t144_140) (mFA 2 2 t16_58 H_141) H_141) fun t146_142 H_143 =>
  bindE (guardR (wantR true t144_140) (mFA 1 1 t146_142 H_143) H_143) fun t147_144 H_145 =>
  bindE (guardR (wantR true t144_140) (mLoad false 1 t147_144 H_145) H_145) fun t148_146 H_147 =>
  bindE (guardR (wantR true t144_140) (mBin (cfg b) 22 true .leq t148_146 (AV.c (.int .u64 1099511627776)) H_147) H_147) fun t149_148 H_149 =>
  bindE (mPick t144_140 t149_148 (AV.c (.bool false)) H_149) fun t150_150 H_151 =>
  bindE (mBin (cfg b) 25 true .eql t134_122 (AV.c (.int .i64 0)) H_151) fun t152_152 H_153 =>
  bindE (mBin (cfg b) 4 false .neq t152_152 t150_150 H_153) fun t154_154 H_155 =>
  condR t154_154 (some (LStep.ret [t0_28, t1_30, (AV.c (.bool false)), t9_34, t10_36, t11_38, t14_44], H_155)) (bindE (guardR (wantR false t13_42) (some (t150_150, H_155)) H_155) fun t157_156 H_157 =>
  bindE (mPick t13_42 (AV.c (.bool true)) t157_156 H_157) fun t158_158 H_159 =>
  afterD (twice [0, 1, 3, 7, 15, 3, 35, 99, 255, 511] (p21_l0_d0 b cf t150_150 t9_34 t16_58) H_159) fun vs_181 H_182 =>
  un vs_181 fun t168_183 vs_184 => un0 vs_184 (condR t168_183 (some (LStep.ret [t0_28, t1_30, (AV.c (.bool false)), t9_34, t10_36, t11_38, t14_44], H_182)) (bindE (cf 59 [t9_34] H_182) fun t170_185 H_186 =>
  bindE (mBin (cfg b) 22 false .neq t170_185 t11_38 H_186) fun t172_187 H_188 =>
  bindE (guardR (wantR false t172_187) (some (t9_34, H_188)) H_188) fun t174_189 H_190 =>
  bindE (guardR (wantR false t172_187) (cf 60 [t174_189] H_190) H_190) fun t175_191 H_192 =>
  bindE (guardR (wantR false t172_187) (some (t12_40, H_192)) H_192) fun t176_193 H_194 =>
  bindE (guardR (wantR false t172_187) (mBin (cfg b) 22 false .neq t175_191 t176_193 H_194) H_194) fun t177_195 H_196 =>
  bindE (mPick t172_187 (AV.c (.bool true)) t177_195 H_196) fun t178_197 H_198 =>
  bindE (guardR (wantR false t178_197) (some (t9_34, H_198)) H_198) fun t180_199 H_200 =>
  bindE (guardR (wantR false t178_197) (cf 58 [t180_199] H_200) H_200) fun t181_201 H_202 =>
  bindE (guardR (wantR false t178_197) (mBin (cfg b) 92 true .neq t181_201 (AV.c .nilp) H_202) H_202) fun t182_203 H_204 =>
  bindE (guardR (wantR false t178_197) (some (t158_158, H_204)) H_204) fun t183_205 H_206 =>
  bindE (guardR (wantR false t178_197) (mBin (cfg b) 4 false .neq t182_203 t183_205 H_206) H_206) fun t184_207 H_208 =>
  bindE (mPick t178_197 (AV.c (.bool true)) t184_207 H_208) fun t185_209 H_210 =>
  condR t185_209 (some (LStep.ret [t0_28, t1_30, (AV.c (.bool false)), t9_34, t10_36, t11_38, t14_44], H_210)) (bindE (mBin (cfg b) 3 true .add t52_50 (AV.c (.int .i64 1)) H_210) fun t186_211 H_212 =>
  some (LStep.cont [t0_28, t1_30, t2_32, t9_34, t10_36, t11_38, t12_40, t158_158, t14_44, t50_46, t51_48, t186_211], H_212)))))) (bindE (mFA 1 1 t16_58 H_117) fun t64_213 H_214 =>
  bindE (mLoad false 1 t64_213 H_214) fun t65_215 H_216 =>
  bindE (mBin (cfg b) 22 true .rem t65_215 (AV.c (.int .u64 20)) H_216) fun t66_217 H_218 =>
  bindE (mConvI .i64 t66_217 H_218) fun t67_219 H_220 =>
  bindE (cf 39 [t2_32, t67_219] H_220) fun t68_221 H_222 =>
  bindE (mExtract 0 t68_221 H_222) fun t69_223 H_224 =>
  bindE (mExtract 1 t68_221 H_224) fun t70_225 H_226 =>
  bindE (cf 52 [t9_34, t69_223] H_226) fun t74_227 H_228 =>
  bindE (mExtract 0 t74_227 H_228) fun t75_229 H_230 =>
  bindE (mExtract 1 t74_227 H_230) fun t76_231 H_232 =>
  bindE (mAlloc 80 (.agg [(.int .u64 0), (.int .u64 0), (.arr 32 .u8 (List.replicate 32 0)), (.arr 32 .u8 (List.replicate 32 0)), (.arr 32 .u8 (List.replicate 32 0)), (.arr 32 .u8 (List.replicate 32 0))]) H_232) fun t21_233 H_234 =>
  bindE (mStore true 130 t21_233 t75_229 H_234) fun u_235 H_236 =>
  bindE (mBin (cfg b) 22 true .geq t12_40 (AV.c (.int .u64 1099511627776)) H_236) fun t78_237 H_238 =>
  condR t78_237 (bindE (mBin (cfg b) 25 true .neq t76_231 (AV.c (.int .i64 2)) H_238) fun t80_239 H_240 =>
  bindE (guardR (wantR false t80_239) (mLoad true 130 t21_233 H_240) H_240) fun t82_241 H_242 =>
  bindE (guardR (wantR false t80_239) (mBuildS [(.int .u64 0), (.int .u64 0), (.arr 32 .u8 (List.replicate 32 0)), (.arr 32 .u8 (List.replicate 32 0)), (.arr 32 .u8 (List.replicate 32 0)), (.arr 32 .u8 (List.replicate 32 0))] [] H_242) H_242) fun t83_243 H_244 =>
  bindE (guardR (wantR false t80_239) (mBin (cfg b) 80 false .neq t82_241 t83_243 H_244) H_244) fun t84_245 H_246 =>
  bindE (mPick t80_239 (AV.c (.bool true)) t84_245 H_246) fun t85_247 H_248 =>
  condR t85_247 (some (LStep.ret [t0_28, t1_30, (AV.c (.bool false)), t9_34, t10_36, t11_38, t14_44], H_248)) (bindE (cf 59 [t9_34] H_248) fun t170_249 H_250 =>
  bindE (mBin (cfg b) 22 false .neq t170_249 t11_38 H_250) fun t172_251 H_252 =>
  bindE (guardR (wantR false t172_251) (some (t9_34, H_252)) H_252) fun t174_253 H_254 =>
  bindE (guardR (wantR false t172_251) (cf 60 [t174_253] H_254) H_254) fun t175_255 H_256 =>
  bindE (guardR (wantR false t172_251) (some (t12_40, H_256)) H_256) fun t176_257 H_258 =>
  bindE (guardR (wantR false t172_251) (mBin (cfg b) 22 false .neq t175_255 t176_257 H_258) H_258) fun t177_259 H_260 =>
  bindE (mPick t172_251 (AV.c (.bool true)) t177_259 H_260) fun t178_261 H_262 =>
  bindE (guardR (wantR false t178_261) (some (t9_34, H_262)) H_262) fun t180_263 H_264 =>
  bindE (guardR (wantR false t178_261) (cf 58 [t180_263] H_264) H_264) fun t181_265 H_266 =>
  bindE (guardR (wantR false t178_261) (mBin (cfg b) 92 true .neq t181_265 (AV.c .nilp) H_266) H_266) fun t182_267 H_268 =>
  bindE (guardR (wantR false t178_261) (some (t13_42, H_268)) H_268) fun t183_269 H_270 =>
  bindE (guardR (wantR false t178_261) (mBin (cfg b) 4 false .neq t182_267 t183_269 H_270) H_270) fun t184_271 H_272 =>
  bindE (mPick t178_261 (AV.c (.bool true)) t184_271 H_272) fun t185_273 H_274 =>
  condR t185_273 (some (LStep.ret [t0_28, t1_30, (AV.c (.bool false)), t9_34, t10_36, t11_38, t14_44], H_274)) (bindE (mBin (cfg b) 3 true .add t52_50 (AV.c (.int .i64 1)) H_274) fun t186_275 H_276 =>
  some (LStep.cont [t0_28, t1_30, t2_32, t9_34, t10_36, t11_38, t12_40, t13_42, t14_44, t50_46, t51_48, t186_275], H_276)))) (bindE (mBin (cfg b) 22 true .add t11_38 (AV.c (.int .u64 1)) H_238) fun t87_277 H_278 =>
  bindE (mBin (cfg b) 22 true .add t12_40 (AV.c (.int .u64 1)) H_278) fun t89_279 H_280 =>
  bindE (cf 37 [t69_223] H_280) fun t93_281 H_282 =>
  bindE (cf 82 [t0_28, t87_277] H_282) fun t96_283 H_284 =>
  bindE (mBin (cfg b) 22 true .add t87_277 (AV.c (.int .u64 1)) H_284) fun t99_285 H_286 =>
  bindE (cf 82 [t0_28, t99_285] H_286) fun t100_287 H_288 =>
  bindE (mBuildS [(.int .u64 0), (.int .u64 0), (.arr 32 .u8 (List.replicate 32 0)), (.arr 32 .u8 (List.replicate 32 0)), (.arr 32 .u8 (List.replicate 32 0)), (.arr 32 .u8 (List.replicate 32 0))] [(0, t87_277), (1, t89_279), (2, t93_281), (3, t96_283), (4, t100_287)] H_288) fun t101_289 H_290 =>
  bindE (mAlloc 80 (.agg [(.int .u64 0), (.int .u64 0), (.arr 32 .u8 (List.replicate 32 0)), (.arr 32 .u8 (List.replicate 32 0)), (.arr 32 .u8 (List.replicate 32 0)), (.arr 32 .u8 (List.replicate 32 0))]) H_290) fun t23_291 H_292 =>
  bindE (mStore true 130 t23_291 t101_289 H_292) fun u_293 H_294 =>
  bindE (mLoad true 130 t23_291 H_294) fun t102_295 H_296 =>
  bindE (cf 83 [t102_295] H_296) fun t103_297 H_298 =>
  bindE (mFA 5 98 t23_291 H_298) fun t104_299 H_300 =>
  bindE (mStore true 32 t104_299 t103_297 H_300) fun u_301 H_302 =>
  bindE (mLoad true 130 t23_291 H_302) fun t106_303 H_304 =>
  bindE (mBuildSl 80 130 (.agg [(.int .u64 0), (.int .u64 0), (.arr 32 .u8 (List.replicate 32 0)), (.arr 32 .u8 (List.replicate 32 0)), (.arr 32 .u8 (List.replicate 32 0)), (.arr 32 .u8 (List.replicate 32 0))]) 1 [(0, t106_303)] H_304) fun t107_305 H_306 =>
  bindE (mAppend 80 130 144 false t14_44 t107_305 H_306) fun t108_307 H_308 =>
  bindE (mBin (cfg b) 25 true .neq t76_231 (AV.c (.int .i64 0)) H_308) fun t110_309 H_310 =>
  bindE (guardR (wantR false t110_309) (mLoad true 130 t21_233 H_310) H_310) fun t112_311 H_312 =>
  bindE (guardR (wantR false t110_309) (mLoad true 130 t23_291 H_312) H_312) fun t113_313 H_314 =>
  bindE (guardR (wantR false t110_309) (mBin (cfg b) 80 false .neq t112_311 t113_313 H_314) H_314) fun t114_315 H_316 =>
  bindE (mPick t110_309 (AV.c (.bool true)) t114_315 H_316) fun t115_317 H_318 =>
  condR t115_317 (some (LStep.ret [t0_28, t1_30, (AV.c (.bool false)), t9_34, t10_36, t87_277, t108_307], H_318)) (bindE (cf 59 [t9_34] H_318) fun t170_319 H_320 =>
  bindE (mBin (cfg b) 22 false .neq t170_319 t87_277 H_320) fun t172_321 H_322 =>
  bindE (guardR (wantR false t172_321) (some (t9_34, H_322)) H_322) fun t174_323 H_324 =>
  bindE (guardR (wantR false t172_321) (cf 60 [t174_323] H_324) H_324) fun t175_325 H_326 =>
  bindE (guardR (wantR false t172_321) (some (t89_279, H_326)) H_326) fun t176_327 H_328 =>
  bindE (guardR (wantR false t172_321) (mBin (cfg b) 22 false .neq t175_325 t176_327 H_328) H_328) fun t177_329 H_330 =>
  bindE (mPick t172_321 (AV.c (.bool true)) t177_329 H_330) fun t178_331 H_332 =>
  bindE (guardR (wantR false t178_331) (some (t9_34, H_332)) H_332) fun t180_333 H_334 =>
  bindE (guardR (wantR false t178_331) (cf 58 [t180_333] H_334) H_334) fun t181_335 H_336 =>
  bindE (guardR (wantR false t178_331) (mBin (cfg b) 92 true .neq t181_335 (AV.c .nilp) H_336) H_336) fun t182_337 H_338 =>
  bindE (guardR (wantR false t178_331) (some (t13_42, H_338)) H_338) fun t183_339 H_340 =>
  bindE (guardR (wantR false t178_331) (mBin (cfg b) 4 false .neq t182_337 t183_339 H_340) H_340) fun t184_341 H_342 =>
  bindE (mPick t178_331 (AV.c (.bool true)) t184_341 H_342) fun t185_343 H_344 =>
  condR t185_343 (some (LStep.ret [t0_28, t1_30, (AV.c (.bool false)), t9_34, t10_36, t87_277, t108_307], H_344)) (bindE (mBin (cfg b) 3 true .add t52_50 (AV.c (.int .i64 1)) H_344) fun t186_345 H_346 =>
  some (LStep.cont [t0_28, t1_30, t2_32, t9_34, t10_36, t87_277, t89_279, t13_42, t108_307, t50_46, t51_48, t186_345], H_346)))))))) (some (LStep.exit 0 [t0_28, t1_30, AV.any, t9_34, t10_36, t11_38, t14_44], H_53)))
noncomputable def p21_l3_d0 (b : Bool) (cf : CallFn) (t197_387 t216_417 t203_397 t25_389 t14_375 t189_379 t202_395 : AV) (H_419 : Heap) : Option ((List AV × List Trail) × Heap) :=
  bindE (drawM (some t197_387) H_419) fun t217_420 H_421 =>
  bindE (drawM (some t216_417) H_421) fun t218_422 H_423 =>
  bindE (drawR true [t217_420.1, t218_422.1] (fun F => mBin (cfg b) 4 false .neq t217_420.1 t218_422.1 F) H_423) fun t219_424 H_425 =>
  bindE (drawM (some t219_424.1) H_425) fun t220_426 H_427 =>
  bindE (guardD (wantR false t220_426.1) (drawM (some t203_397) H_427) H_427) fun t221_428 H_429 =>
  bindE (guardD (wantR false t220_426.1) (drawM (some t216_417) H_429) H_429) fun t222_430 H_431 =>
  bindE (guardD (wantR false t220_426.1) (drawR true [t221_428.1, t222_430.1] (fun F => mBin (cfg b) 4 false .neq t221_428.1 t222_430.1 F) H_431) H_431) fun t223_432 H_433 =>
  bindE (drawR true [t220_426.1, t223_432.1] (fun F => mPick t220_426.1 (AV.c (.bool true)) t223_432.1 F) H_433) fun t224_434 H_435 =>
  bindE (drawM (some t224_434.1) H_435) fun t225_436 H_437 =>
  bindE (guardD (wantR false t225_436.1) (drawM (some t216_417) H_437) H_437) fun t226_438 H_439 =>
  bindE (guardD (wantR false t225_436.1) (drawM (some t226_438.1) H_439) H_439) fun t227_440 H_441 =>
  bindE (guardD (wantR true t227_440.1) (drawR true [t25_389] (fun F => mLoad true 130 t25_389 F) H_441) H_441) fun t228_442 H_443 =>
  bindE (guardD (wantR true t227_440.1) (drawM (some t14_375) H_443) H_443) fun t229_444 H_445 =>
  bindE (guardD (wantR true t227_440.1) (drawM (some t189_379) H_445) H_445) fun t230_446 H_447 =>
  bindE (guardD (wantR true t227_440.1) (drawR true [t230_446.1] (fun F => mBin (cfg b) 22 true .sub t230_446.1 (AV.c (.int .u64 1)) F) H_447) H_447) fun t231_448 H_449 =>
  bindE (guardD (wantR true t227_440.1) (drawR true [t229_444.1, t231_448.1] (fun F => mIdxS 130 t229_444.1 t231_448.1 F) H_449) H_449) fun t232_450 H_451 =>
  bindE (guardD (wantR true t227_440.1) (drawR true [t232_450.1] (fun F => mLoad true 130 t232_450.1 F) H_451) H_451) fun t233_452 H_453 =>
  bindE (guardD (wantR true t227_440.1) (drawR true [t228_442.1, t233_452.1] (fun F => mBin (cfg b) 80 false .neq t228_442.1 t233_452.1 F) H_453) H_453) fun t234_454 H_455 =>
  bindE (guardD (wantR true t227_440.1) (drawM (some t234_454.1) H_455) H_455) fun t235_456 H_457 =>
  bindE (guardD (wantR false t235_456.1) (drawM (some t202_395) H_457) H_457) fun t236_458 H_459 =>
  bindE (guardD (wantR false t235_456.1) (drawR false [t236_458.1] (fun F => cf 37 [t236_458.1] F) H_459) H_459) fun t237_460 H_461 =>
  bindE (guardD (wantR false t235_456.1) (drawR true [t25_389] (fun F => mFA 2 2 t25_389 F) H_461) H_461) fun t238_462 H_463 =>
  bindE (guardD (wantR false t235_456.1) (drawR true [t238_462.1] (fun F => mLoad true 32 t238_462.1 F) H_463) H_463) fun t239_464 H_465 =>
  bindE (guardD (wantR false t235_456.1) (drawR true [t237_460.1, t239_464.1] (fun F => mBin (cfg b) 41 false .neq t237_460.1 t239_464.1 F) H_465) H_465) fun t240_466 H_467 =>
  bindE (guardD (wantR true t227_440.1) (drawR true [t235_456.1, t240_466.1] (fun F => mPick t235_456.1 (AV.c (.bool true)) t240_466.1 F) H_467) H_467) fun t241_468 H_469 =>
  bindE (guardD (wantR false t225_436.1) (drawR true [t227_440.1, t241_468.1] (fun F => mPick t227_440.1 t241_468.1 (AV.c (.bool false)) F) H_469) H_469) fun t242_470 H_471 =>
  bindE (drawR true [t225_436.1, t242_470.1] (fun F => mPick t225_436.1 (AV.c (.bool true)) t242_470.1 F) H_471) fun t243_472 H_473 =>
  bindE (drawM (some t243_472.1) H_473) fun t244_474 H_475 =>
  bindE (guardD (wantR false t244_474.1) (drawM (some t216_417) H_475) H_475) fun t245_476 H_477 =>
  bindE (guardD (wantR false t244_474.1) (drawR true [t245_476.1] (fun F => mUn .not t245_476.1 F) H_477) H_477) fun t246_478 H_479 =>
  bindE (guardD (wantR false t244_474.1) (drawM (some t246_478.1) H_479) H_479) fun t247_480 H_481 =>
  bindE (guardD (wantR true t247_480.1) (drawR true [t25_389] (fun F => mLoad true 130 t25_389 F) H_481) H_481) fun t248_482 H_483 =>
  bindE (guardD (wantR true t247_480.1) (drawR false [] (fun F => mBuildS [(.int .u64 0), (.int .u64 0), (.arr 32 .u8 (List.replicate 32 0)), (.arr 32 .u8 (List.replicate 32 0)), (.arr 32 .u8 (List.replicate 32 0)), (.arr 32 .u8 (List.replicate 32 0))] [] F) H_483) H_483) fun t249_484 H_485 =>
  bindE (guardD (wantR true t247_480.1) (drawR true [t248_482.1, t249_484.1] (fun F => mBin (cfg b) 80 false .neq t248_482.1 t249_484.1 F) H_485) H_485) fun t250_486 H_487 =>
  bindE (guardD (wantR true t247_480.1) (drawM (some t250_486.1) H_487) H_487) fun t251_488 H_489 =>
  bindE (guardD (wantR false t251_488.1) (drawM (some t202_395) H_489) H_489) fun t252_490 H_491 =>
  bindE (guardD (wantR false t251_488.1) (drawR true [t252_490.1] (fun F => mBin (cfg b) 28 true .neq t252_490.1 (AV.c .nilp) F) H_491) H_491) fun t253_492 H_493 =>
  bindE (guardD (wantR true t247_480.1) (drawR true [t251_488.1, t253_492.1] (fun F => mPick t251_488.1 (AV.c (.bool true)) t253_492.1 F) H_493) H_493) fun t254_494 H_495 =>
  bindE (guardD (wantR false t244_474.1) (drawR true [t247_480.1, t254_494.1] (fun F => mPick t247_480.1 t254_494.1 (AV.c (.bool false)) F) H_495) H_495) fun t255_496 H_497 =>
  bindE (drawR true [t244_474.1, t255_496.1] (fun F => mPick t244_474.1 (AV.c (.bool true)) t255_496.1 F) H_497) fun t256_498 H_499 =>
  some (([t256_498.1], [t217_420.2, t218_422.2, t219_424.2, t220_426.2, t221_428.2, t222_430.2, t223_432.2, t224_434.2, t225_436.2, t226_438.2, t227_440.2, t228_442.2, t229_444.2, t230_446.2, t231_448.2, t232_450.2, t233_452.2, t234_454.2, t235_456.2, t236_458.2, t237_460.2, t238_462.2, t239_464.2, t240_466.2, t241_468.2, t242_470.2, t243_472.2, t244_474.2, t245_476.2, t246_478.2, t247_480.2, t248_482.2, t249_484.2, t250_486.2, t251_488.2, t252_490.2, t253_492.2, t254_494.2, t255_496.2, t256_498.2]), H_499)
noncomputable def p21_l3 (b : Bool) (cf : CallFn) (k : Nat) (s : List AV) (H : Heap) : Option (LStep × Heap) :=
  un s fun t0_365 vs_366 => un vs_366 fun t1_367 vs_368 => un vs_368 fun t9_369 vs_370 => un vs_370 fun t10_371 vs_372 => un vs_372 fun t11_373 vs_374 => un vs_374 fun t14_375 vs_376 => un vs_376 fun t188_377 vs_378 => un vs_378 fun t189_379 vs_380 => un0 vs_380 (bindE (mBin (cfg b) 22 false .lss t189_379 t188_377 H) fun t190_381 H_382 =>
  condR t190_381 (bindE (cf 53 [t9_369, t189_379] H_382) fun t195_383 H_384 =>
  bindE (mExtract 0 t195_383 H_384) fun t196_385 H_386 =>
  bindE (mExtract 1 t195_383 H_386) fun t197_387 H_388 =>
  bindE (mAlloc 80 (.agg [(.int .u64 0), (.int .u64 0), (.arr 32 .u8 (List.replicate 32 0)), (.arr 32 .u8 (List.replicate 32 0)), (.arr 32 .u8 (List.replicate 32 0)), (.arr 32 .u8 (List.replicate 32 0))]) H_388) fun t25_389 H_390 =>
  bindE (mStore true 130 t25_389 t196_385 H_390) fun u_391 H_392 =>
  bindE (cf 54 [t9_369, t189_379] H_392) fun t201_393 H_394 =>
  bindE (mExtract 0 t201_393 H_394) fun t202_395 H_396 =>
  bindE (mExtract 1 t201_393 H_396) fun t203_397 H_398 =>
  bindE (mBin (cfg b) 22 true .geq t189_379 (AV.c (.int .u64 1)) H_398) fun t205_399 H_400 =>
  bindE (guardR (wantR true t205_399) (some (t189_379, H_400)) H_400) fun t207_401 H_402 =>
  bindE (guardR (wantR true t205_399) (some (t11_373, H_402)) H_402) fun t208_403 H_404 =>
  bindE (guardR (wantR true t205_399) (mBin (cfg b) 22 false .leq t207_401 t208_403 H_404) H_404) fun t209_405 H_406 =>
  bindE (mPick t205_399 t209_405 (AV.c (.bool false)) H_406) fun t210_407 H_408 =>
  bindE (guardR (wantR true t210_407) (some (t189_379, H_408)) H_408) fun t212_409 H_410 =>
  bindE (guardR (wantR true t210_407) (mBin (cfg b) 22 true .add t212_409 (AV.c (.int .u64 64)) H_410) H_410) fun t213_411 H_412 =>
  bindE (guardR (wantR true t210_407) (some (t11_373, H_412)) H_412) fun t214_413 H_414 =>
  bindE (guardR (wantR true t210_407) (mBin (cfg b) 22 false .gtr t213_411 t214_413 H_414) H_414) fun t215_415 H_416 =>
  bindE (mPick t210_407 t215_415 (AV.c (.bool false)) H_416) fun t216_417 H_418 =>
  afterD (twice [0, 0, 3, 7, 15, 15, 63, 127, 255, 511, 1023, 2047, 2047, 2047, 10239, 30719, 63487, 131071, 262143, 524287, 1048575, 524287, 2621439, 8388607, 16777215, 33554431, 67108863, 134217727, 268435455, 536870911, 1073741823, 2147483647, 2147483647, 8589934591, 17179869183, 34359738367, 68719476735, 137438953471, 274877906943, 549755813887] (p21_l3_d0 b cf t197_387 t216_417 t203_397 t25_389 t14_375 t189_379 t202_395) H_418) fun vs_500 H_501 =>
  un vs_500 fun t256_502 vs_503 => un0 vs_503 (condR t256_502 (some (LStep.ret [t0_365, t1_367, (AV.c (.bool false)), t10_371], H_501)) (bindE (mBin (cfg b) 22 true .add t189_379 (AV.c (.int .u64 1)) H_501) fun t257_504 H_505 =>
  some (LStep.cont [t0_365, t1_367, t9_369, t10_371, t11_373, t14_375, t188_377, t257_504], H_505)))) (some (LStep.exit 3 [t0_365, t1_367, AV.any, t10_371], H_382)))
/-- ferryman/ferrymanlaw18.ChainPlays -/
noncomputable def p21 (b : Bool) (cf : CallFn) (k : Nat) (t0 t1 t2 t3 : AV) (H : Heap) : Option (AV × Heap) :=
  bindE (cf 31 [] H) fun t30_0 H_1 =>
  bindE (mUn .not t30_0 H_1) fun t31_2 H_3 =>
  condR t31_2 (endQ (cfg b) false k (resC1 (some (AV.c (.bool false))) (some [])) H_3) (bindE (cf 56 [t0, t1] H_3) fun t35_4 H_5 =>
  bindE (mExtract 0 t35_4 H_5) fun t36_6 H_7 =>
  bindE (mExtract 1 t35_4 H_7) fun t37_8 H_9 =>
  bindE (mBin (cfg b) 22 true .lss t1 (AV.c (.int .u64 1)) H_9) fun t39_10 H_11 =>
  bindE (guardR (wantR false t39_10) (some (t1, H_11)) H_11) fun t41_12 H_13 =>
  bindE (guardR (wantR false t39_10) (mBin (cfg b) 22 true .gtr t41_12 (AV.c (.int .u64 4294967296)) H_13) H_13) fun t42_14 H_15 =>
  bindE (mPick t39_10 (AV.c (.bool true)) t42_14 H_15) fun t43_16 H_17 =>
  condR t43_16 (bindE (mBin (cfg b) 25 true .eql t37_8 (AV.c (.int .i64 2)) H_17) fun t45_18 H_19 =>
  bindE (guardR (wantR true t45_18) (some (t36_6, H_19)) H_19) fun t47_20 H_21 =>
  bindE (guardR (wantR true t45_18) (mBin (cfg b) 81 true .eql t47_20 (AV.c .nilp) H_21) H_21) fun t48_22 H_23 =>
  bindE (mPick t45_18 t48_22 (AV.c (.bool false)) H_23) fun t49_24 H_25 =>
  endQ (cfg b) false k (resC1 (some t49_24) (some [])) H_25) (bindE (mLenSl t3 H_17) fun t51_26 H_27 =>
  afterL 0 (loopX k (p21_l0 b cf k) [t0, t1, t2, t36_6, t37_8, (AV.c (.int .u64 0)), (AV.c (.int .u64 0)), (AV.c (.bool false)), (AV.c .nilsl), t3, t51_26, (AV.c (.int .i64 0))] H_27) (fun vs_347 H_348 =>
  un vs_347 fun t0_349 vs_350 => un vs_350 fun t1_351 vs_352 => un vs_352 fun t8_353 vs_354 => un vs_354 fun t9_355 vs_356 => un vs_356 fun t10_357 vs_358 => un vs_358 fun t11_359 vs_360 => un vs_360 fun t14_361 vs_362 => un0 vs_362 (bindE (mBin (cfg b) 22 true .add t11_359 (AV.c (.int .u64 2)) H_348) fun t188_363 H_364 =>
  afterL 3 (loopX k (p21_l3 b cf k) [t0_349, t1_351, t9_355, t10_357, t11_359, t14_361, t188_363, (AV.c (.int .u64 0))] H_364) (fun vs_506 H_507 =>
  un vs_506 fun t0_508 vs_509 => un vs_509 fun t1_510 vs_511 => un vs_511 fun t8_512 vs_513 => un vs_513 fun t10_514 vs_515 => un0 vs_515 (bindE (mBin (cfg b) 25 true .eql t10_514 (AV.c (.int .i64 0)) H_507) fun t259_516 H_517 =>
  bindE (guardR (wantR true t259_516) (some (t0_508, H_517)) H_517) fun t261_518 H_519 =>
  bindE (guardR (wantR true t259_516) (some (t1_510, H_519)) H_519) fun t262_520 H_521 =>
  bindE (guardR (wantR true t259_516) (cf 33 [t261_518, t262_520] H_521) H_521) fun t263_522 H_523 =>
  bindE (guardR (wantR true t259_516) (some (t0_508, H_523)) H_523) fun t264_524 H_525 =>
  bindE (guardR (wantR true t259_516) (some (t1_510, H_525)) H_525) fun t265_526 H_527 =>
  bindE (guardR (wantR true t259_516) (cf 82 [t264_524, t265_526] H_527) H_527) fun t266_528 H_529 =>
  bindE (guardR (wantR true t259_516) (mBin (cfg b) 41 false .eql t263_522 t266_528 H_529) H_529) fun t267_530 H_531 =>
  bindE (mPick t259_516 t267_530 (AV.c (.bool false)) H_531) fun t268_532 H_533 =>
  endQ (cfg b) false k (resC1 (some t268_532) (some [])) H_533)) (fun vs_506 H_507 => un vs_506 fun t0_534 vs_535 => un vs_535 fun t1_536 vs_537 => un vs_537 fun t8_538 vs_539 => un vs_539 fun t10_540 vs_541 => un0 vs_541 (endQ (cfg b) false k (resC1 (some t8_538) (some [])) H_507)))) (fun vs_347 H_348 => un vs_347 fun t0_542 vs_543 => un vs_543 fun t1_544 vs_545 => un vs_545 fun t8_546 vs_547 => un vs_547 fun t9_548 vs_549 => un vs_549 fun t10_550 vs_551 => un vs_551 fun t11_552 vs_553 => un vs_553 fun t14_554 vs_555 => un0 vs_555 (endQ (cfg b) false k (resC1 (some t8_546) (some [])) H_348))))
theorem p21_eq (b : Bool) (cf : CallFn) (t0 t1 t2 t3 : AV) (H : Heap) : runG (cfg b) cf An 21 [t0, t1, t2, t3] H = p21 b cf H.length t0 t1 t2 t3 H := by kernel_rfl
end Go.Fm
