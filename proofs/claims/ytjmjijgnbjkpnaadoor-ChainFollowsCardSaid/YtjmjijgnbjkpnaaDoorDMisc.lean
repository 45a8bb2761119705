/-
  A part of the proof: DMisc.
-/
import Derived.Test.YtjmjijgnbjkpnaaDoorDAnn
set_option linter.all false
set_option autoImplicit true
/-
  What the interpreter does to functions, without slots and types; the kernel holds it against the code.
-/
set_option maxRecDepth 100000
set_option linter.unusedVariables false
namespace Go.Fm
open Go Go.Proofs

noncomputable def p131_l0 (b : Bool) (cf : CallFn) (k : Nat) (s : List AV) (H : Heap) : Option (LStep × Heap) :=
  un s fun t0_0 vs_1 => un vs_1 fun t3_2 vs_3 => un vs_3 fun t4_4 vs_5 => un0 vs_5 (bindE (mBin (cfg b) 3 true .geq t4_4 (AV.c (.int .i64 0)) H) fun t7_6 H_7 =>
  condR t7_6 (bindE (mBin (cfg b) 3 true .mul (AV.c (.int .i64 8)) t4_4 H_7) fun t12_8 H_9 =>
  bindE (mBin (cfg b) 22 false .shr t0_0 t12_8 H_9) fun t13_10 H_11 =>
  bindE (mConvI .u8 t13_10 H_11) fun t14_12 H_13 =>
  bindE (mBin (cfg b) 5 true .neq t14_12 (AV.c (.int .u8 0)) H_13) fun t16_14 H_15 =>
  bindE (guardR (wantR false t16_14) (some (t3_2, H_15)) H_15) fun t18_16 H_17 =>
  bindE (guardR (wantR false t16_14) (mLenSl t18_16 H_17) H_17) fun t19_18 H_19 =>
  bindE (guardR (wantR false t16_14) (mBin (cfg b) 3 true .gtr t19_18 (AV.c (.int .i64 0)) H_19) H_19) fun t20_20 H_21 =>
  bindE (mPick t16_14 (AV.c (.bool true)) t20_20 H_21) fun t21_22 H_23 =>
  condR t21_22 (bindE (mBuildSl 5 1 (.int .u8 0) 1 [(0, t14_12)] H_23) fun t24_24 H_25 =>
  bindE (mAppend 5 1 1 false t3_2 t24_24 H_25) fun t25_26 H_27 =>
  bindE (mBin (cfg b) 3 true .sub t4_4 (AV.c (.int .i64 1)) H_27) fun t9_28 H_29 =>
  some (LStep.cont [t0_0, t25_26, t9_28], H_29)) (bindE (mBin (cfg b) 3 true .sub t4_4 (AV.c (.int .i64 1)) H_23) fun t9_30 H_31 =>
  some (LStep.cont [t0_0, t3_2, t9_30], H_31))) (some (LStep.exit 0 [t3_2], H_7)))
/-- ferryman/tlv.Num -/
noncomputable def p131 (b : Bool) (cf : CallFn) (k : Nat) (t0 : AV) (H : Heap) : Option (AV × Heap) :=
  afterL 0 (loopX k (p131_l0 b cf k) [t0, (AV.c .nilsl), (AV.c (.int .i64 7))] H) (fun vs_32 H_33 =>
  un vs_32 fun t3_34 vs_35 => un0 vs_35 (endQ (cfg b) false k (resC1 (some t3_34) (some [])) H_33)) (fun vs_32 H_33 => un vs_32 fun t3_36 vs_37 => un0 vs_37 (endQ (cfg b) false k (resC1 (some AV.any) (some [])) H_33))

/-- (*ferryman/parcel.writer).num -/
noncomputable def p145 (b : Bool) (cf : CallFn) (k : Nat) (t0 t1 t2 : AV) (H : Heap) : Option (AV × Heap) :=
  bindE (cf 131 [t2] H) fun t9_0 H_1 =>
  bindE (cf 148 [t0, t1, t9_0] H_1) fun t10_2 H_3 =>
  endQ (cfg b) false k (some []) H_3

/-- (*ferryman/parcel.writer).hash -/
noncomputable def p146 (b : Bool) (cf : CallFn) (k : Nat) (t0 t1 t2 : AV) (H : Heap) : Option (AV × Heap) :=
  bindE (mBox 41 t2 H) fun t5_0 H_1 =>
  bindE (mLoad true 32 t5_0 H_1) fun t6_2 H_3 =>
  bindE (mBuildA 32 .u8 (List.replicate 32 0) [] H_3) fun t7_4 H_5 =>
  bindE (mBin (cfg b) 41 false .neq t6_2 t7_4 H_5) fun t8_6 H_7 =>
  condR t8_6 (bindE (mSliceArr 32 t5_0 none none H_7) fun t11_8 H_9 =>
  bindE (cf 148 [t0, t1, t11_8] H_9) fun t12_10 H_11 =>
  endQ (cfg b) false k (some []) H_11) (endQ (cfg b) false k (some []) H_7)

/-- (*ferryman/parcel.writer).bytes -/
noncomputable def p148 (b : Bool) (cf : CallFn) (k : Nat) (t0 t1 t2 : AV) (H : Heap) : Option (AV × Heap) :=
  bindE (mNil t0 H) fun t7_0 H_1 =>
  bindE (mFA 1 1 t7_0 H_1) fun t8_2 H_3 =>
  bindE (mLoad false 1 t8_2 H_3) fun t9_4 H_5 =>
  bindE (mBin (cfg b) 25 true .eql t9_4 (AV.c (.int .i64 0)) H_5) fun t10_6 H_7 =>
  condR t10_6 (bindE (mNil t0 H_7) fun t15_8 H_9 =>
  bindE (mFA 0 0 t15_8 H_9) fun t16_10 H_11 =>
  bindE (mLoad false 1 t16_10 H_11) fun t17_12 H_13 =>
  bindE (cf 130 [t17_12, t1, t2] H_13) fun t20_14 H_15 =>
  bindE (mExtract 0 t20_14 H_15) fun t21_16 H_17 =>
  bindE (mExtract 1 t20_14 H_17) fun t22_18 H_19 =>
  bindE (mNil t0 H_19) fun t23_20 H_21 =>
  bindE (mFA 0 0 t23_20 H_21) fun t24_22 H_23 =>
  bindE (mStore false 1 t24_22 t21_16 H_23) fun u_24 H_25 =>
  bindE (mNil t0 H_25) fun t25_26 H_27 =>
  bindE (mFA 1 1 t25_26 H_27) fun t26_28 H_29 =>
  bindE (mStore false 1 t26_28 t22_18 H_29) fun u_30 H_31 =>
  endQ (cfg b) false k (some []) H_31) (endQ (cfg b) false k (some []) H_7)

theorem p131_eq (b : Bool) (cf : CallFn) (t0 : AV) (H : Heap) : runG (cfg b) cf An 131 [t0] H = p131 b cf H.length t0 H := by kernel_rfl
theorem p145_eq (b : Bool) (cf : CallFn) (t0 t1 t2 : AV) (H : Heap) : runG (cfg b) cf An 145 [t0, t1, t2] H = p145 b cf H.length t0 t1 t2 H := by kernel_rfl
theorem p146_eq (b : Bool) (cf : CallFn) (t0 t1 t2 : AV) (H : Heap) : runG (cfg b) cf An 146 [t0, t1, t2] H = p146 b cf H.length t0 t1 t2 H := by kernel_rfl
theorem p148_eq (b : Bool) (cf : CallFn) (t0 t1 t2 : AV) (H : Heap) : runG (cfg b) cf An 148 [t0, t1, t2] H = p148 b cf H.length t0 t1 t2 H := by kernel_rfl

end Go.Fm

/-
  What the interpreter does to functions, without slots and types; the kernel holds it against the code.
-/
set_option maxRecDepth 100000
set_option linter.unusedVariables false
namespace Go.Fm
open Go Go.Proofs

/-- ferryman/tlv.Put -/
noncomputable def p130 (b : Bool) (cf : CallFn) (k : Nat) (t0 t1 t2 : AV) (H : Heap) : Option (AV × Heap) :=
  bindE (mBuildSl 5 1 (.int .u8 0) 0 [] H) fun t9_0 H_1 =>
  bindE (mAppend 5 1 1 false t9_0 t0 H_1) fun t11_2 H_3 =>
  bindE (mLenSl t2 H_3) fun t14_4 H_5 =>
  bindE (mBin (cfg b) 3 true .gtr t14_4 (AV.c (.int .i64 65535)) H_5) fun t15_6 H_7 =>
  condR t15_6 (endQ (cfg b) false k (resC1 (some (AV.c .nilsl)) (resC1 (some (AV.c (.int .i64 3))) (some []))) H_7) (bindE (mLenSl t2 H_7) fun t18_8 H_9 =>
  bindE (mBin (cfg b) 3 true .eql t18_8 (AV.c (.int .i64 0)) H_9) fun t19_10 H_11 =>
  condR t19_10 (endQ (cfg b) false k (resC1 (some t11_2) (resC1 (some (AV.c (.int .i64 0))) (some []))) H_11) (bindE (mLenSl t2 H_11) fun t24_12 H_13 =>
  bindE (mBin (cfg b) 3 true .shr t24_12 (AV.c (.int .u64 8)) H_13) fun t25_14 H_15 =>
  bindE (mConvI .u8 t25_14 H_15) fun t26_16 H_17 =>
  bindE (mLenSl t2 H_17) fun t28_18 H_19 =>
  bindE (mConvI .u8 t28_18 H_19) fun t29_20 H_21 =>
  bindE (mBuildSl 5 1 (.int .u8 0) 3 [(0, t1), (1, t26_16), (2, t29_20)] H_21) fun t30_22 H_23 =>
  bindE (mAppend 5 1 1 false t11_2 t30_22 H_23) fun t31_24 H_25 =>
  bindE (mAppend 5 1 1 false t31_24 t2 H_25) fun t34_26 H_27 =>
  endQ (cfg b) false k (resC1 (some t34_26) (resC1 (some (AV.c (.int .i64 0))) (some []))) H_27))

theorem p130_eq (b : Bool) (cf : CallFn) (t0 t1 t2 : AV) (H : Heap) : runG (cfg b) cf An 130 [t0, t1, t2] H = p130 b cf H.length t0 t1 t2 H := by kernel_rfl

end Go.Fm

/-
  What the interpreter does to functions, without slots and types; the kernel holds it against the code.
-/
set_option maxRecDepth 100000
set_option linter.unusedVariables false
namespace Go.Fm
open Go Go.Proofs

/-- ferryman/parcel.Seal -/
noncomputable def p98 (b : Bool) (cf : CallFn) (k : Nat) (t0 : AV) (H : Heap) : Option (AV × Heap) :=
  bindE (mBox 80 t0 H) fun t1_0 H_1 =>
  bindE (mAlloc 41 (.arr 32 .u8 (List.replicate 32 0)) H_1) fun t2_2 H_3 =>
  bindE (mBuildA 32 .u8 (List.replicate 32 0) [] H_3) fun t3_4 H_5 =>
  bindE (mFA 5 98 t1_0 H_5) fun t4_6 H_7 =>
  bindE (mStore true 32 t4_6 t3_4 H_7) fun u_8 H_9 =>
  afterD (twice [0, 1, 0, 4, 0, 16, 63, 127, 255] (fun H_10 => bindE (drawR false [] (fun F => mBuildSl 5 1 (.int .u8 0) 4 [(0, (AV.c (.int .u8 115))), (1, (AV.c (.int .u8 101))), (2, (AV.c (.int .u8 97))), (3, (AV.c (.int .u8 108)))] F) H_10) fun t5_11 H_12 =>
  bindE (drawR true [t5_11.1] (fun F => mConv0 t5_11.1 F) H_12) fun t6_13 H_14 =>
  bindE (drawR true [t1_0] (fun F => mFA 3 34 t1_0 F) H_14) fun t7_15 H_16 =>
  bindE (drawR false [t7_15.1] (fun F => mSliceArr 32 t7_15.1 none none F) H_16) fun t8_17 H_18 =>
  bindE (drawR true [t1_0] (fun F => mLoad true 130 t1_0 F) H_18) fun t9_19 H_20 =>
  bindE (drawR false [t9_19.1] (fun F => cf 127 [t9_19.1] F) H_20) fun t10_21 H_22 =>
  bindE (drawR false [t6_13.1, t8_17.1, t10_21.1] (fun F => mBuildSl 38 1 .nilsl 3 [(0, t6_13.1), (1, t8_17.1), (2, t10_21.1)] F) H_22) fun t11_23 H_24 =>
  bindE (drawR false [t11_23.1] (fun F => cf 88 [t11_23.1] F) H_24) fun t12_25 H_26 =>
  bindE (drawR false [t2_2, t12_25.1] (fun F => mStore true 32 t2_2 t12_25.1 F) H_26) fun u_27 H_28 =>
  some (([], [t5_11.2, t6_13.2, t7_15.2, t8_17.2, t9_19.2, t10_21.2, t11_23.2, t12_25.2, u_27.2]), H_28)) H_9) fun vs_29 H_30 =>
  un0 vs_29 (endQ (cfg b) false k (resC1 (mld true 32 H_30 t2_2) (some [])) H_30)

/-- ferryman/parcel.Header -/
noncomputable def p127 (b : Bool) (cf : CallFn) (k : Nat) (t0 : AV) (H : Heap) : Option (AV × Heap) :=
  bindE (mBox 80 t0 H) fun t1_0 H_1 =>
  bindE (mBuildS [.nilsl, (.int .i64 0)] [] H_1) fun t4_2 H_3 =>
  bindE (mBox 220 t4_2 H_3) fun t5_4 H_5 =>
  bindE (mFA 0 0 t1_0 H_5) fun t7_6 H_7 =>
  bindE (mLoad false 1 t7_6 H_7) fun t8_8 H_9 =>
  bindE (cf 145 [t5_4, (AV.c (.int .u8 1)), t8_8] H_9) fun t9_10 H_11 =>
  bindE (mFA 1 1 t1_0 H_11) fun t11_12 H_13 =>
  bindE (mLoad false 1 t11_12 H_13) fun t12_14 H_15 =>
  bindE (cf 145 [t5_4, (AV.c (.int .u8 2)), t12_14] H_15) fun t13_16 H_17 =>
  bindE (mFA 2 2 t1_0 H_17) fun t15_18 H_19 =>
  bindE (mLoad true 32 t15_18 H_19) fun t16_20 H_21 =>
  bindE (cf 146 [t5_4, (AV.c (.int .u8 3)), t16_20] H_21) fun t17_22 H_23 =>
  bindE (mFA 3 34 t1_0 H_23) fun t19_24 H_25 =>
  bindE (mLoad true 32 t19_24 H_25) fun t20_26 H_27 =>
  bindE (cf 146 [t5_4, (AV.c (.int .u8 4)), t20_26] H_27) fun t21_28 H_29 =>
  bindE (mFA 4 66 t1_0 H_29) fun t23_30 H_31 =>
  bindE (mLoad true 32 t23_30 H_31) fun t24_32 H_33 =>
  bindE (cf 146 [t5_4, (AV.c (.int .u8 5)), t24_32] H_33) fun t25_34 H_35 =>
  bindE (mFA 5 98 t1_0 H_35) fun t27_36 H_37 =>
  bindE (mLoad true 32 t27_36 H_37) fun t28_38 H_39 =>
  bindE (cf 146 [t5_4, (AV.c (.int .u8 6)), t28_38] H_39) fun t29_40 H_41 =>
  bindE (mNil t5_4 H_41) fun t31_42 H_43 =>
  bindE (mFA 0 0 t31_42 H_43) fun t32_44 H_45 =>
  bindE (mLoad false 1 t32_44 H_45) fun t33_46 H_47 =>
  endQ (cfg b) false k (resC1 (some t33_46) (some [])) H_47

theorem p98_eq (b : Bool) (cf : CallFn) (t0 : AV) (H : Heap) : runG (cfg b) cf An 98 [t0] H = p98 b cf H.length t0 H := by kernel_rfl
theorem p127_eq (b : Bool) (cf : CallFn) (t0 : AV) (H : Heap) : runG (cfg b) cf An 127 [t0] H = p127 b cf H.length t0 H := by kernel_rfl

end Go.Fm

/-
  What the interpreter does to functions, without slots and types; the kernel holds it against the code.
-/
set_option maxRecDepth 100000
set_option linter.unusedVariables false
namespace Go.Fm
open Go Go.Proofs

/-- ferryman/ferrymanlaw18.Awake -/
noncomputable def p31_d0 (b : Bool) (cf : CallFn) (t8_4 t14_12 t3_14 t7_2 : AV) (H_18 : Heap) : Option ((List AV × List Trail) × Heap) :=
  bindE (drawM (some t8_4) H_18) fun t15_19 H_20 =>
  bindE (drawR true [t15_19.1] (fun F => mBin (cfg b) 25 true .eql t15_19.1 (AV.c (.int .i64 0)) F) H_20) fun t16_21 H_22 =>
  bindE (drawM (some t16_21.1) H_22) fun t17_23 H_24 =>
  bindE (guardD (wantR true t17_23.1) (drawM (some t14_12) H_24) H_24) fun t18_25 H_26 =>
  bindE (guardD (wantR true t17_23.1) (drawR true [t18_25.1] (fun F => mBin (cfg b) 25 true .eql t18_25.1 (AV.c (.int .i64 0)) F) H_26) H_26) fun t19_27 H_28 =>
  bindE (drawR true [t17_23.1, t19_27.1] (fun F => mPick t17_23.1 t19_27.1 (AV.c (.bool false)) F) H_28) fun t20_29 H_30 =>
  bindE (drawM (some t20_29.1) H_30) fun t21_31 H_32 =>
  bindE (guardD (wantR true t21_31.1) (drawR true [t3_14] (fun F => mFA 0 0 t3_14 F) H_32) H_32) fun t22_33 H_34 =>
  bindE (guardD (wantR true t21_31.1) (drawR true [t22_33.1] (fun F => mLoad false 1 t22_33.1 F) H_34) H_34) fun t23_35 H_36 =>
  bindE (guardD (wantR true t21_31.1) (drawR true [t23_35.1] (fun F => mBin (cfg b) 22 true .eql t23_35.1 (AV.c (.int .u64 1)) F) H_36) H_36) fun t24_37 H_38 =>
  bindE (drawR true [t21_31.1, t24_37.1] (fun F => mPick t21_31.1 t24_37.1 (AV.c (.bool false)) F) H_38) fun t25_39 H_40 =>
  bindE (drawM (some t25_39.1) H_40) fun t26_41 H_42 =>
  bindE (guardD (wantR true t26_41.1) (drawR true [t3_14] (fun F => mFA 1 1 t3_14 F) H_42) H_42) fun t27_43 H_44 =>
  bindE (guardD (wantR true t26_41.1) (drawR true [t27_43.1] (fun F => mLoad false 1 t27_43.1 F) H_44) H_44) fun t28_45 H_46 =>
  bindE (guardD (wantR true t26_41.1) (drawR true [t28_45.1] (fun F => mBin (cfg b) 22 true .eql t28_45.1 (AV.c (.int .u64 1)) F) H_46) H_46) fun t29_47 H_48 =>
  bindE (drawR true [t26_41.1, t29_47.1] (fun F => mPick t26_41.1 t29_47.1 (AV.c (.bool false)) F) H_48) fun t30_49 H_50 =>
  bindE (drawM (some t30_49.1) H_50) fun t31_51 H_52 =>
  bindE (guardD (wantR true t31_51.1) (drawR true [t3_14] (fun F => mFA 2 2 t3_14 F) H_52) H_52) fun t32_53 H_54 =>
  bindE (guardD (wantR true t31_51.1) (drawR true [t32_53.1] (fun F => mLoad true 32 t32_53.1 F) H_54) H_54) fun t33_55 H_56 =>
  bindE (guardD (wantR true t31_51.1) (drawR false [] (fun F => cf 62 [] F) H_56) H_56) fun t34_57 H_58 =>
  bindE (guardD (wantR true t31_51.1) (drawR true [t33_55.1, t34_57.1] (fun F => mBin (cfg b) 41 false .eql t33_55.1 t34_57.1 F) H_58) H_58) fun t35_59 H_60 =>
  bindE (drawR true [t31_51.1, t35_59.1] (fun F => mPick t31_51.1 t35_59.1 (AV.c (.bool false)) F) H_60) fun t36_61 H_62 =>
  bindE (drawM (some t36_61.1) H_62) fun t37_63 H_64 =>
  bindE (guardD (wantR true t37_63.1) (drawM (some t7_2) H_64) H_64) fun t38_65 H_66 =>
  bindE (guardD (wantR true t37_63.1) (drawR false [t38_65.1] (fun F => cf 59 [t38_65.1] F) H_66) H_66) fun t39_67 H_68 =>
  bindE (guardD (wantR true t37_63.1) (drawR true [t39_67.1] (fun F => mBin (cfg b) 22 true .eql t39_67.1 (AV.c (.int .u64 1)) F) H_68) H_68) fun t40_69 H_70 =>
  bindE (drawR true [t37_63.1, t40_69.1] (fun F => mPick t37_63.1 t40_69.1 (AV.c (.bool false)) F) H_70) fun t41_71 H_72 =>
  bindE (drawM (some t41_71.1) H_72) fun t0_73 H_74 =>
  some (([t0_73.1], [t15_19.2, t16_21.2, t17_23.2, t18_25.2, t19_27.2, t20_29.2, t21_31.2, t22_33.2, t23_35.2, t24_37.2, t25_39.2, t26_41.2, t27_43.2, t28_45.2, t29_47.2, t30_49.2, t31_51.2, t32_53.2, t33_55.2, t34_57.2, t35_59.2, t36_61.2, t37_63.2, t38_65.2, t39_67.2, t40_69.2, t41_71.2, t0_73.2]), H_74)
noncomputable def p31 (b : Bool) (cf : CallFn) (k : Nat) (H : Heap) : Option (AV × Heap) :=
  bindE (cf 56 [(AV.c (.int .u8 0)), (AV.c (.int .u64 10))] H) fun t6_0 H_1 =>
  bindE (mExtract 0 t6_0 H_1) fun t7_2 H_3 =>
  bindE (mExtract 1 t6_0 H_3) fun t8_4 H_5 =>
  bindE (cf 26 [] H_5) fun t11_6 H_7 =>
  bindE (cf 52 [t7_2, t11_6] H_7) fun t12_8 H_9 =>
  bindE (mExtract 0 t12_8 H_9) fun t13_10 H_11 =>
  bindE (mExtract 1 t12_8 H_11) fun t14_12 H_13 =>
  bindE (mAlloc 80 (.agg [(.int .u64 0), (.int .u64 0), (.arr 32 .u8 (List.replicate 32 0)), (.arr 32 .u8 (List.replicate 32 0)), (.arr 32 .u8 (List.replicate 32 0)), (.arr 32 .u8 (List.replicate 32 0))]) H_13) fun t3_14 H_15 =>
  bindE (mStore true 130 t3_14 t13_10 H_15) fun u_16 H_17 =>
  afterD (twice [0, 1, 3, 7, 15, 31, 63, 127, 255, 511, 1023, 2047, 4095, 8191, 16383, 32767, 65535, 131071, 262143, 131071, 1048575, 2097151, 4194303, 8388607, 16777215, 33554431, 67108863, 134217727] (p31_d0 b cf t8_4 t14_12 t3_14 t7_2) H_17) fun vs_75 H_76 =>
  un vs_75 fun t0_77 vs_78 => un0 vs_78 (endQ (cfg b) false k (resC1 (some t0_77) (some [])) H_76)

/-- (*ferryman/chain.Chain).End -/
noncomputable def p52_d0 (b : Bool) (cf : CallFn) (t0 t1 : AV) (H_66 : Heap) : Option ((List AV × List Trail) × Heap) :=
  bindE (drawM (some t0) H_66) fun t43_67 H_68 =>
  bindE (drawR true [t43_67.1] (fun F => mNil t43_67.1 F) H_68) fun t44_69 H_70 =>
  bindE (drawR true [t44_69.1] (fun F => mFA 2 2 t44_69.1 F) H_70) fun t45_71 H_72 =>
  bindE (drawR true [t45_71.1] (fun F => mLoad false 1 t45_71.1 F) H_72) fun t46_73 H_74 =>
  bindE (drawM (some t0) H_74) fun t47_75 H_76 =>
  bindE (drawR true [t47_75.1] (fun F => mNil t47_75.1 F) H_76) fun t48_77 H_78 =>
  bindE (drawR true [t48_77.1] (fun F => mFA 3 3 t48_77.1 F) H_78) fun t49_79 H_80 =>
  bindE (drawR true [t49_79.1] (fun F => mLoad false 1 t49_79.1 F) H_80) fun t50_81 H_82 =>
  bindE (drawM (some t1) H_82) fun t51_83 H_84 =>
  bindE (drawR false [t51_83.1] (fun F => cf 37 [t51_83.1] F) H_84) fun t52_85 H_86 =>
  bindE (drawM (some t0) H_86) fun t53_87 H_88 =>
  bindE (drawR true [t53_87.1] (fun F => mNil t53_87.1 F) H_88) fun t54_89 H_90 =>
  bindE (drawR true [t54_89.1] (fun F => mFA 0 0 t54_89.1 F) H_90) fun t55_91 H_92 =>
  bindE (drawR true [t55_91.1] (fun F => mLoad false 1 t55_91.1 F) H_92) fun t56_93 H_94 =>
  bindE (drawM (some t0) H_94) fun t57_95 H_96 =>
  bindE (drawR true [t57_95.1] (fun F => mNil t57_95.1 F) H_96) fun t58_97 H_98 =>
  bindE (drawR true [t58_97.1] (fun F => mFA 2 2 t58_97.1 F) H_98) fun t59_99 H_100 =>
  bindE (drawR true [t59_99.1] (fun F => mLoad false 1 t59_99.1 F) H_100) fun t60_101 H_102 =>
  bindE (drawR false [t56_93.1, t60_101.1] (fun F => cf 33 [t56_93.1, t60_101.1] F) H_102) fun t61_103 H_104 =>
  bindE (drawM (some t0) H_104) fun t62_105 H_106 =>
  bindE (drawR true [t62_105.1] (fun F => mNil t62_105.1 F) H_106) fun t63_107 H_108 =>
  bindE (drawR true [t63_107.1] (fun F => mFA 0 0 t63_107.1 F) H_108) fun t64_109 H_110 =>
  bindE (drawR true [t64_109.1] (fun F => mLoad false 1 t64_109.1 F) H_110) fun t65_111 H_112 =>
  bindE (drawM (some t0) H_112) fun t66_113 H_114 =>
  bindE (drawR true [t66_113.1] (fun F => mNil t66_113.1 F) H_114) fun t67_115 H_116 =>
  bindE (drawR true [t67_115.1] (fun F => mFA 2 2 t67_115.1 F) H_116) fun t68_117 H_118 =>
  bindE (drawR true [t68_117.1] (fun F => mLoad false 1 t68_117.1 F) H_118) fun t69_119 H_120 =>
  bindE (drawR true [t69_119.1] (fun F => mBin (cfg b) 22 true .add t69_119.1 (AV.c (.int .u64 1)) F) H_120) fun t70_121 H_122 =>
  bindE (drawR false [t65_111.1, t70_121.1] (fun F => cf 33 [t65_111.1, t70_121.1] F) H_122) fun t71_123 H_124 =>
  bindE (drawR false [t46_73.1, t50_81.1, t52_85.1, t61_103.1, t71_123.1] (fun F => mBuildS [(.int .u64 0), (.int .u64 0), (.arr 32 .u8 (List.replicate 32 0)), (.arr 32 .u8 (List.replicate 32 0)), (.arr 32 .u8 (List.replicate 32 0)), (.arr 32 .u8 (List.replicate 32 0))] [(0, t46_73.1), (1, t50_81.1), (2, t52_85.1), (3, t61_103.1), (4, t71_123.1)] F) H_124) fun t72_125 H_126 =>
  bindE (drawR false [] (fun F => mAlloc 80 (.agg [(.int .u64 0), (.int .u64 0), (.arr 32 .u8 (List.replicate 32 0)), (.arr 32 .u8 (List.replicate 32 0)), (.arr 32 .u8 (List.replicate 32 0)), (.arr 32 .u8 (List.replicate 32 0))]) F) H_126) fun t6_127 H_128 =>
  bindE (drawR false [t6_127.1, t72_125.1] (fun F => mStore true 130 t6_127.1 t72_125.1 F) H_128) fun u_129 H_130 =>
  some (([t6_127.1], [t43_67.2, t44_69.2, t45_71.2, t46_73.2, t47_75.2, t48_77.2, t49_79.2, t50_81.2, t51_83.2, t52_85.2, t53_87.2, t54_89.2, t55_91.2, t56_93.2, t57_95.2, t58_97.2, t59_99.2, t60_101.2, t61_103.2, t62_105.2, t63_107.2, t64_109.2, t65_111.2, t66_113.2, t67_115.2, t68_117.2, t69_119.2, t70_121.2, t71_123.2, t72_125.2, t6_127.2, u_129.2]), H_130)
noncomputable def p52_d1 (b : Bool) (cf : CallFn) (t0 t6_133 : AV) (H_151 : Heap) : Option ((List AV × List Trail) × Heap) :=
  bindE (drawM (some t0) H_151) fun t82_152 H_153 =>
  bindE (drawM (some t0) H_153) fun t83_154 H_155 =>
  bindE (drawR true [t83_154.1] (fun F => mNil t83_154.1 F) H_155) fun t84_156 H_157 =>
  bindE (drawR true [t84_156.1] (fun F => mFA 5 5 t84_156.1 F) H_157) fun t85_158 H_159 =>
  bindE (drawR true [t85_158.1] (fun F => mLoad false 1 t85_158.1 F) H_159) fun t86_160 H_161 =>
  bindE (drawR true [t6_133] (fun F => mLoad true 130 t6_133 F) H_161) fun t87_162 H_163 =>
  bindE (drawR false [t87_162.1] (fun F => mBuildSl 80 130 (.agg [(.int .u64 0), (.int .u64 0), (.arr 32 .u8 (List.replicate 32 0)), (.arr 32 .u8 (List.replicate 32 0)), (.arr 32 .u8 (List.replicate 32 0)), (.arr 32 .u8 (List.replicate 32 0))]) 1 [(0, t87_162.1)] F) H_163) fun t88_164 H_165 =>
  bindE (drawR false [t86_160.1, t88_164.1] (fun F => mAppend 80 130 144 false t86_160.1 t88_164.1 F) H_165) fun t89_166 H_167 =>
  bindE (drawR true [t82_152.1] (fun F => mNil t82_152.1 F) H_167) fun t90_168 H_169 =>
  bindE (drawR true [t90_168.1] (fun F => mFA 5 5 t90_168.1 F) H_169) fun t91_170 H_171 =>
  bindE (drawR false [t91_170.1, t89_166.1] (fun F => mStore false 1 t91_170.1 t89_166.1 F) H_171) fun u_172 H_173 =>
  some (([], [t82_152.2, t83_154.2, t84_156.2, t85_158.2, t86_160.2, t87_162.2, t88_164.2, t89_166.2, t90_168.2, t91_170.2, u_172.2]), H_173)
noncomputable def p52 (b : Bool) (cf : CallFn) (k : Nat) (t0 t1 : AV) (H : Heap) : Option (AV × Heap) :=
  bindE (mAlloc 80 (.agg [(.int .u64 0), (.int .u64 0), (.arr 32 .u8 (List.replicate 32 0)), (.arr 32 .u8 (List.replicate 32 0)), (.arr 32 .u8 (List.replicate 32 0)), (.arr 32 .u8 (List.replicate 32 0))]) H) fun t4_0 H_1 =>
  bindE (mBin (cfg b) 81 true .eql t0 (AV.c .nilp) H_1) fun t9_2 H_3 =>
  bindE (guardR (wantR false t9_2) (some (t1, H_3)) H_3) fun t11_4 H_5 =>
  bindE (guardR (wantR false t9_2) (mBin (cfg b) 28 true .eql t11_4 (AV.c .nilp) H_5) H_5) fun t12_6 H_7 =>
  bindE (mPick t9_2 (AV.c (.bool true)) t12_6 H_7) fun t13_8 H_9 =>
  condR t13_8 (bindE (mBuildS [(.int .u64 0), (.int .u64 0), (.arr 32 .u8 (List.replicate 32 0)), (.arr 32 .u8 (List.replicate 32 0)), (.arr 32 .u8 (List.replicate 32 0)), (.arr 32 .u8 (List.replicate 32 0))] [] H_9) fun t14_10 H_11 =>
  bindE (mStore true 130 t4_0 t14_10 H_11) fun u_12 H_13 =>
  endQ (cfg b) false k (resC1 (mld true 130 H_13 t4_0) (resC1 (some (AV.c (.int .i64 1))) (some []))) H_13) (bindE (mNil t0 H_9) fun t17_14 H_15 =>
  bindE (mFA 2 2 t17_14 H_15) fun t18_16 H_17 =>
  bindE (mLoad false 1 t18_16 H_17) fun t19_18 H_19 =>
  bindE (mBin (cfg b) 22 true .geq t19_18 (AV.c (.int .u64 1099511627776)) H_19) fun t20_20 H_21 =>
  bindE (guardR (wantR false t20_20) (some (t0, H_21)) H_21) fun t22_22 H_23 =>
  bindE (guardR (wantR false t20_20) (mNil t22_22 H_23) H_23) fun t23_24 H_25 =>
  bindE (guardR (wantR false t20_20) (mFA 3 3 t23_24 H_25) H_25) fun t24_26 H_27 =>
  bindE (guardR (wantR false t20_20) (mLoad false 1 t24_26 H_27) H_27) fun t25_28 H_29 =>
  bindE (guardR (wantR false t20_20) (mBin (cfg b) 22 true .geq t25_28 (AV.c (.int .u64 1099511627776)) H_29) H_29) fun t26_30 H_31 =>
  bindE (mPick t20_20 (AV.c (.bool true)) t26_30 H_31) fun t27_32 H_33 =>
  condR t27_32 (bindE (mBuildS [(.int .u64 0), (.int .u64 0), (.arr 32 .u8 (List.replicate 32 0)), (.arr 32 .u8 (List.replicate 32 0)), (.arr 32 .u8 (List.replicate 32 0)), (.arr 32 .u8 (List.replicate 32 0))] [] H_33) fun t28_34 H_35 =>
  bindE (mStore true 130 t4_0 t28_34 H_35) fun u_36 H_37 =>
  endQ (cfg b) false k (resC1 (mld true 130 H_37 t4_0) (resC1 (some (AV.c (.int .i64 2))) (some []))) H_37) (bindE (mNil t0 H_33) fun t30_38 H_39 =>
  bindE (mFA 2 2 t30_38 H_39) fun t31_40 H_41 =>
  bindE (mLoad false 1 t31_40 H_41) fun t32_42 H_43 =>
  bindE (mBin (cfg b) 22 true .add t32_42 (AV.c (.int .u64 1)) H_43) fun t33_44 H_45 =>
  bindE (mNil t0 H_45) fun t34_46 H_47 =>
  bindE (mFA 2 2 t34_46 H_47) fun t35_48 H_49 =>
  bindE (mStore false 1 t35_48 t33_44 H_49) fun u_50 H_51 =>
  bindE (mNil t0 H_51) fun t37_52 H_53 =>
  bindE (mFA 3 3 t37_52 H_53) fun t38_54 H_55 =>
  bindE (mLoad false 1 t38_54 H_55) fun t39_56 H_57 =>
  bindE (mBin (cfg b) 22 true .add t39_56 (AV.c (.int .u64 1)) H_57) fun t40_58 H_59 =>
  bindE (mNil t0 H_59) fun t41_60 H_61 =>
  bindE (mFA 3 3 t41_60 H_61) fun t42_62 H_63 =>
  bindE (mStore false 1 t42_62 t40_58 H_63) fun u_64 H_65 =>
  afterD (twice [0, 1, 3, 7, 0, 16, 48, 112, 0, 256, 0, 1024, 3072, 7168, 0, 16384, 49152, 114688, 261888, 0, 524288, 1572864, 3670016, 0, 8388608, 25165824, 58720256, 125829120, 268435200, 536870911, 0, 2147483647] (p52_d0 b cf t0 t1) H_65) fun vs_131 H_132 =>
  un vs_131 fun t6_133 vs_134 => un0 vs_134 (bindE (mLoad true 130 t6_133 H_132) fun t73_135 H_136 =>
  bindE (cf 98 [t73_135] H_136) fun t74_137 H_138 =>
  bindE (mFA 5 98 t6_133 H_138) fun t75_139 H_140 =>
  bindE (mStore true 32 t75_139 t74_137 H_140) fun u_141 H_142 =>
  bindE (mNil t0 H_142) fun t77_143 H_144 =>
  bindE (mFA 4 4 t77_143 H_144) fun t78_145 H_146 =>
  bindE (mLoad false 1 t78_145 H_146) fun t79_147 H_148 =>
  bindE (cf 25 [t79_147, t1] H_148) fun t81_149 H_150 =>
  afterD (twice [0, 0, 2, 6, 14, 0, 32, 126, 255, 511, 1023] (p52_d1 b cf t0 t6_133) H_150) fun vs_174 H_175 =>
  un0 vs_174 (bindE (mNil t0 H_175) fun t93_176 H_177 =>
  bindE (mFA 5 5 t93_176 H_177) fun t94_178 H_179 =>
  bindE (mLoad false 1 t94_178 H_179) fun t95_180 H_181 =>
  bindE (mLenSl t95_180 H_181) fun t96_182 H_183 =>
  bindE (mBin (cfg b) 3 true .gtr t96_182 (AV.c (.int .i64 64)) H_183) fun t97_184 H_185 =>
  condR t97_184 (bindE (mBuildSl 80 130 (.agg [(.int .u64 0), (.int .u64 0), (.arr 32 .u8 (List.replicate 32 0)), (.arr 32 .u8 (List.replicate 32 0)), (.arr 32 .u8 (List.replicate 32 0)), (.arr 32 .u8 (List.replicate 32 0))]) 0 [] H_185) fun t99_186 H_187 =>
  bindE (mNil t0 H_187) fun t101_188 H_189 =>
  bindE (mFA 5 5 t101_188 H_189) fun t102_190 H_191 =>
  bindE (mLoad false 1 t102_190 H_191) fun t103_192 H_193 =>
  bindE (mSliceSl 130 t103_192 (some (AV.c (.int .i64 1))) none H_193) fun t104_194 H_195 =>
  bindE (mAppend 80 130 144 false t99_186 t104_194 H_195) fun t105_196 H_197 =>
  bindE (mNil t0 H_197) fun t106_198 H_199 =>
  bindE (mFA 5 5 t106_198 H_199) fun t107_200 H_201 =>
  bindE (mStore false 1 t107_200 t105_196 H_201) fun u_202 H_203 =>
  bindE (mLoad true 130 t6_133 H_203) fun t108_204 H_205 =>
  bindE (mStore true 130 t4_0 t108_204 H_205) fun u_206 H_207 =>
  endQ (cfg b) false k (resC1 (mld true 130 H_207 t4_0) (resC1 (some (AV.c (.int .i64 0))) (some []))) H_207) (bindE (mLoad true 130 t6_133 H_185) fun t108_208 H_209 =>
  bindE (mStore true 130 t4_0 t108_208 H_209) fun u_210 H_211 =>
  endQ (cfg b) false k (resC1 (mld true 130 H_211 t4_0) (resC1 (some (AV.c (.int .i64 0))) (some []))) H_211)))))

/-- ferryman/chain.New -/
noncomputable def p56 (b : Bool) (cf : CallFn) (k : Nat) (t0 t1 : AV) (H : Heap) : Option (AV × Heap) :=
  bindE (mBin (cfg b) 22 true .lss t1 (AV.c (.int .u64 1)) H) fun t9_0 H_1 =>
  bindE (guardR (wantR false t9_0) (some (t1, H_1)) H_1) fun t11_2 H_3 =>
  bindE (guardR (wantR false t9_0) (mBin (cfg b) 22 true .gtr t11_2 (AV.c (.int .u64 4294967296)) H_3) H_3) fun t12_4 H_5 =>
  bindE (mPick t9_0 (AV.c (.bool true)) t12_4 H_5) fun t13_6 H_7 =>
  condR t13_6 (endQ (cfg b) false k (resC1 (some (AV.c .nilp)) (resC1 (some (AV.c (.int .i64 2))) (some []))) H_7) (bindE (cf 28 [(AV.c (.int .i64 64))] H_7) fun t15_8 H_9 =>
  bindE (mExtract 0 t15_8 H_9) fun t16_10 H_11 =>
  bindE (mExtract 1 t15_8 H_11) fun t17_12 H_13 =>
  bindE (mBuildS [(.int .u8 0), (.int .u64 0), (.int .u64 0), (.int .u64 0), .nilp, .nilsl, .nilp] [(0, t0), (1, t1), (4, t16_10)] H_13) fun t21_14 H_15 =>
  bindE (mBox 152 t21_14 H_15) fun t22_16 H_17 =>
  endQ (cfg b) false k (resC1 (some t22_16) (resC1 (some (AV.c (.int .i64 0))) (some []))) H_17)

/-- (*ferryman/chain.Chain).Height -/
noncomputable def p59 (b : Bool) (cf : CallFn) (k : Nat) (t0 : AV) (H : Heap) : Option (AV × Heap) :=
  bindE (mBin (cfg b) 81 true .eql t0 (AV.c .nilp) H) fun t4_0 H_1 =>
  condR t4_0 (endQ (cfg b) false k (resC1 (some (AV.c (.int .u64 0))) (some [])) H_1) (bindE (mNil t0 H_1) fun t6_2 H_3 =>
  bindE (mFA 2 2 t6_2 H_3) fun t7_4 H_5 =>
  bindE (mLoad false 1 t7_4 H_5) fun t8_6 H_7 =>
  endQ (cfg b) false k (resC1 (some t8_6) (some [])) H_7)

theorem p31_eq (b : Bool) (cf : CallFn) (H : Heap) : runG (cfg b) cf An 31 [] H = p31 b cf H.length  H := by kernel_rfl
theorem p52_eq (b : Bool) (cf : CallFn) (t0 t1 : AV) (H : Heap) : runG (cfg b) cf An 52 [t0, t1] H = p52 b cf H.length t0 t1 H := by kernel_rfl
theorem p56_eq (b : Bool) (cf : CallFn) (t0 t1 : AV) (H : Heap) : runG (cfg b) cf An 56 [t0, t1] H = p56 b cf H.length t0 t1 H := by kernel_rfl
theorem p59_eq (b : Bool) (cf : CallFn) (t0 : AV) (H : Heap) : runG (cfg b) cf An 59 [t0] H = p59 b cf H.length t0 H := by kernel_rfl

end Go.Fm

/-
  What the interpreter does to functions, without slots and types; the kernel holds it against the code.
-/
set_option maxRecDepth 100000
set_option linter.unusedVariables false
namespace Go.Fm
open Go Go.Proofs

noncomputable def p53_l0 (b : Bool) (cf : CallFn) (k : Nat) (s : List AV) (H : Heap) : Option (LStep × Heap) :=
  un s fun t1_12 vs_13 => un vs_13 fun t4_14 vs_15 => un vs_15 fun t13_16 vs_17 => un vs_17 fun t14_18 vs_19 => un vs_19 fun t15_20 vs_21 => un0 vs_21 (bindE (mBin (cfg b) 3 false .lss t15_20 t14_18 H) fun t16_22 H_23 =>
  condR t16_22 (bindE (mIdxS 130 t13_16 t15_20 H_23) fun t17_24 H_25 =>
  bindE (mLoad true 130 t17_24 H_25) fun t18_26 H_27 =>
  bindE (mAlloc 80 (.agg [(.int .u64 0), (.int .u64 0), (.arr 32 .u8 (List.replicate 32 0)), (.arr 32 .u8 (List.replicate 32 0)), (.arr 32 .u8 (List.replicate 32 0)), (.arr 32 .u8 (List.replicate 32 0))]) H_27) fun t7_28 H_29 =>
  bindE (mStore true 130 t7_28 t18_26 H_29) fun u_30 H_31 =>
  bindE (mFA 0 0 t7_28 H_31) fun t19_32 H_33 =>
  bindE (mLoad false 1 t19_32 H_33) fun t20_34 H_35 =>
  bindE (mBin (cfg b) 22 false .eql t20_34 t1_12 H_35) fun t22_36 H_37 =>
  condR t22_36 (bindE (mLoad true 130 t7_28 H_37) fun t23_38 H_39 =>
  bindE (mStore true 130 t4_14 t23_38 H_39) fun u_40 H_41 =>
  some (LStep.ret [t4_14, (AV.c (.bool true))], H_41)) (bindE (mBin (cfg b) 3 true .add t15_20 (AV.c (.int .i64 1)) H_37) fun t24_42 H_43 =>
  some (LStep.cont [t1_12, t4_14, t13_16, t14_18, t24_42], H_43))) (some (LStep.exit 0 [t4_14, AV.any], H_23)))
/-- (*ferryman/chain.Chain).Header -/
noncomputable def p53 (b : Bool) (cf : CallFn) (k : Nat) (t0 t1 : AV) (H : Heap) : Option (AV × Heap) :=
  bindE (mAlloc 80 (.agg [(.int .u64 0), (.int .u64 0), (.arr 32 .u8 (List.replicate 32 0)), (.arr 32 .u8 (List.replicate 32 0)), (.arr 32 .u8 (List.replicate 32 0)), (.arr 32 .u8 (List.replicate 32 0))]) H) fun t4_0 H_1 =>
  bindE (mBin (cfg b) 81 true .neq t0 (AV.c .nilp) H_1) fun t9_2 H_3 =>
  condR t9_2 (bindE (mNil t0 H_3) fun t11_4 H_5 =>
  bindE (mFA 5 5 t11_4 H_5) fun t12_6 H_7 =>
  bindE (mLoad false 1 t12_6 H_7) fun t13_8 H_9 =>
  bindE (mLenSl t13_8 H_9) fun t14_10 H_11 =>
  afterL 0 (loopX k (p53_l0 b cf k) [t1, t4_0, t13_8, t14_10, (AV.c (.int .i64 0))] H_11) (fun vs_44 H_45 =>
  un vs_44 fun t4_46 vs_47 => un vs_47 fun t5_48 vs_49 => un0 vs_49 (bindE (mBuildS [(.int .u64 0), (.int .u64 0), (.arr 32 .u8 (List.replicate 32 0)), (.arr 32 .u8 (List.replicate 32 0)), (.arr 32 .u8 (List.replicate 32 0)), (.arr 32 .u8 (List.replicate 32 0))] [] H_45) fun t25_50 H_51 =>
  bindE (mStore true 130 t4_46 t25_50 H_51) fun u_52 H_53 =>
  endQ (cfg b) false k (resC1 (mld true 130 H_53 t4_46) (resC1 (some (AV.c (.bool false))) (some []))) H_53)) (fun vs_44 H_45 => un vs_44 fun t4_54 vs_55 => un vs_55 fun t5_56 vs_57 => un0 vs_57 (endQ (cfg b) false k (resC1 (mld true 130 H_45 t4_54) (resC1 (some t5_56) (some []))) H_45))) (bindE (mBuildS [(.int .u64 0), (.int .u64 0), (.arr 32 .u8 (List.replicate 32 0)), (.arr 32 .u8 (List.replicate 32 0)), (.arr 32 .u8 (List.replicate 32 0)), (.arr 32 .u8 (List.replicate 32 0))] [] H_3) fun t25_58 H_59 =>
  bindE (mStore true 130 t4_0 t25_58 H_59) fun u_60 H_61 =>
  endQ (cfg b) false k (resC1 (mld true 130 H_61 t4_0) (resC1 (some (AV.c (.bool false))) (some []))) H_61)

/-- (*ferryman/chain.Chain).Tree -/
noncomputable def p54 (b : Bool) (cf : CallFn) (k : Nat) (t0 t1 : AV) (H : Heap) : Option (AV × Heap) :=
  bindE (mBin (cfg b) 81 true .eql t0 (AV.c .nilp) H) fun t9_0 H_1 =>
  condR t9_0 (endQ (cfg b) false k (resC1 (some (AV.c .nilp)) (resC1 (some (AV.c (.bool false))) (some []))) H_1) (bindE (mNil t0 H_1) fun t12_2 H_3 =>
  bindE (mFA 4 4 t12_2 H_3) fun t13_4 H_5 =>
  bindE (mLoad false 1 t13_4 H_5) fun t14_6 H_7 =>
  bindE (cf 27 [t14_6, t1] H_7) fun t16_8 H_9 =>
  bindE (mExtract 0 t16_8 H_9) fun t17_10 H_11 =>
  bindE (mExtract 1 t16_8 H_11) fun t18_12 H_13 =>
  bindE (mBin (cfg b) 25 true .eql t18_12 (AV.c (.int .i64 0)) H_13) fun t21_14 H_15 =>
  endQ (cfg b) false k (resC1 (some t17_10) (resC1 (some t21_14) (some []))) H_15)

/-- (*ferryman/chain.Chain).Tick -/
noncomputable def p55_d0 (b : Bool) (cf : CallFn) (t0 t1 : AV) (H_2 : Heap) : Option ((List AV × List Trail) × Heap) :=
  bindE (drawM (some t0) H_2) fun t6_3 H_4 =>
  bindE (drawR true [t6_3.1] (fun F => mNil t6_3.1 F) H_4) fun t7_5 H_6 =>
  bindE (drawR true [t7_5.1] (fun F => mFA 3 3 t7_5.1 F) H_6) fun t8_7 H_8 =>
  bindE (drawR true [t8_7.1] (fun F => mLoad false 1 t8_7.1 F) H_8) fun t9_9 H_10 =>
  bindE (drawM (some t1) H_10) fun t10_11 H_12 =>
  bindE (drawM (some t0) H_12) fun t11_13 H_14 =>
  bindE (drawR true [t11_13.1] (fun F => mNil t11_13.1 F) H_14) fun t12_15 H_16 =>
  bindE (drawR true [t12_15.1] (fun F => mFA 3 3 t12_15.1 F) H_16) fun t13_17 H_18 =>
  bindE (drawR true [t13_17.1] (fun F => mLoad false 1 t13_17.1 F) H_18) fun t14_19 H_20 =>
  bindE (drawR true [t14_19.1] (fun F => mBin (cfg b) 22 true .sub (AV.c (.int .u64 1099511627776)) t14_19.1 F) H_20) fun t15_21 H_22 =>
  bindE (drawR true [t10_11.1, t15_21.1] (fun F => mMin [t10_11.1, t15_21.1] F) H_22) fun t16_23 H_24 =>
  bindE (drawR true [t9_9.1, t16_23.1] (fun F => mBin (cfg b) 22 false .add t9_9.1 t16_23.1 F) H_24) fun t17_25 H_26 =>
  bindE (drawR true [t6_3.1] (fun F => mNil t6_3.1 F) H_26) fun t18_27 H_28 =>
  bindE (drawR true [t18_27.1] (fun F => mFA 3 3 t18_27.1 F) H_28) fun t19_29 H_30 =>
  bindE (drawR false [t19_29.1, t17_25.1] (fun F => mStore false 1 t19_29.1 t17_25.1 F) H_30) fun u_31 H_32 =>
  some (([], [t6_3.2, t7_5.2, t8_7.2, t9_9.2, t10_11.2, t11_13.2, t12_15.2, t13_17.2, t14_19.2, t15_21.2, t16_23.2, t17_25.2, t18_27.2, t19_29.2, u_31.2]), H_32)
noncomputable def p55 (b : Bool) (cf : CallFn) (k : Nat) (t0 t1 : AV) (H : Heap) : Option (AV × Heap) :=
  bindE (mBin (cfg b) 81 true .neq t0 (AV.c .nilp) H) fun t5_0 H_1 =>
  condR t5_0 (afterD (twice [0, 1, 3, 7, 0, 0, 32, 96, 224, 480, 1008, 2047, 4095, 8191, 16383] (p55_d0 b cf t0 t1) H_1) fun vs_33 H_34 =>
  un0 vs_33 (endQ (cfg b) false k (some []) H_34)) (endQ (cfg b) false k (some []) H_1)

/-- (*ferryman/chain.Chain).Open -/
noncomputable def p57_d0 (b : Bool) (cf : CallFn) (t3_0 t0 : AV) (H_4 : Heap) : Option ((List AV × List Trail) × Heap) :=
  bindE (drawR true [t3_0] (fun F => mLoad true 130 t3_0 F) H_4) fun t10_5 H_6 =>
  bindE (drawM (some t0) H_6) fun t11_7 H_8 =>
  bindE (drawR true [t11_7.1] (fun F => mNil t11_7.1 F) H_8) fun t12_9 H_10 =>
  bindE (drawR true [t12_9.1] (fun F => mFA 1 1 t12_9.1 F) H_10) fun t13_11 H_12 =>
  bindE (drawR true [t13_11.1] (fun F => mLoad false 1 t13_11.1 F) H_12) fun t14_13 H_14 =>
  bindE (drawR false [t10_5.1, t14_13.1] (fun F => cf 99 [t10_5.1, t14_13.1] F) H_14) fun t15_15 H_16 =>
  bindE (drawM (some t15_15.1) H_16) fun t9_17 H_18 =>
  bindE (drawR true [t9_17.1] (fun F => mExtract 0 t9_17.1 F) H_18) fun t16_19 H_20 =>
  bindE (drawR true [t9_17.1] (fun F => mExtract 1 t9_17.1 F) H_20) fun t17_21 H_22 =>
  bindE (drawM (some t16_19.1) H_22) fun t5_23 H_24 =>
  bindE (drawM (some t17_21.1) H_24) fun t6_25 H_26 =>
  some (([t5_23.1, t6_25.1], [t10_5.2, t11_7.2, t12_9.2, t13_11.2, t14_13.2, t15_15.2, t9_17.2, t16_19.2, t17_21.2, t5_23.2, t6_25.2]), H_26)
noncomputable def p57 (b : Bool) (cf : CallFn) (k : Nat) (t0 t1 : AV) (H : Heap) : Option (AV × Heap) :=
  bindE (mBox 80 t1 H) fun t3_0 H_1 =>
  bindE (mBin (cfg b) 81 true .eql t0 (AV.c .nilp) H_1) fun t8_2 H_3 =>
  condR t8_2 (endQ (cfg b) false k (resC1 (some (AV.c (.int .i64 1))) (some [])) H_3) (afterD (twice [0, 0, 2, 6, 14, 31, 63, 127, 127, 255, 1023] (p57_d0 b cf t3_0 t0) H_3) fun vs_27 H_28 =>
  un vs_27 fun t5_29 vs_30 => un vs_30 fun t6_31 vs_32 => un0 vs_32 (bindE (mBin (cfg b) 25 true .eql t6_31 (AV.c (.int .i64 0)) H_28) fun t19_33 H_34 =>
  condR t19_33 (bindE (mNil t0 H_34) fun t22_35 H_36 =>
  bindE (mFA 6 6 t22_35 H_36) fun t23_37 H_38 =>
  bindE (mStore false 1 t23_37 t5_29 H_38) fun u_39 H_40 =>
  endQ (cfg b) false k (resC1 (some t6_31) (some [])) H_40) (endQ (cfg b) false k (resC1 (some t6_31) (some [])) H_34)))

/-- (*ferryman/chain.Chain).Client -/
noncomputable def p58 (b : Bool) (cf : CallFn) (k : Nat) (t0 : AV) (H : Heap) : Option (AV × Heap) :=
  bindE (mBin (cfg b) 81 true .eql t0 (AV.c .nilp) H) fun t4_0 H_1 =>
  condR t4_0 (endQ (cfg b) false k (resC1 (some (AV.c .nilp)) (some [])) H_1) (bindE (mNil t0 H_1) fun t6_2 H_3 =>
  bindE (mFA 6 6 t6_2 H_3) fun t7_4 H_5 =>
  bindE (mLoad false 1 t7_4 H_5) fun t8_6 H_7 =>
  endQ (cfg b) false k (resC1 (some t8_6) (some [])) H_7)

/-- (*ferryman/chain.Chain).Time -/
noncomputable def p60 (b : Bool) (cf : CallFn) (k : Nat) (t0 : AV) (H : Heap) : Option (AV × Heap) :=
  bindE (mBin (cfg b) 81 true .eql t0 (AV.c .nilp) H) fun t4_0 H_1 =>
  condR t4_0 (endQ (cfg b) false k (resC1 (some (AV.c (.int .u64 0))) (some [])) H_1) (bindE (mNil t0 H_1) fun t6_2 H_3 =>
  bindE (mFA 3 3 t6_2 H_3) fun t7_4 H_5 =>
  bindE (mLoad false 1 t7_4 H_5) fun t8_6 H_7 =>
  endQ (cfg b) false k (resC1 (some t8_6) (some [])) H_7)

theorem p53_eq (b : Bool) (cf : CallFn) (t0 t1 : AV) (H : Heap) : runG (cfg b) cf An 53 [t0, t1] H = p53 b cf H.length t0 t1 H := by kernel_rfl
theorem p54_eq (b : Bool) (cf : CallFn) (t0 t1 : AV) (H : Heap) : runG (cfg b) cf An 54 [t0, t1] H = p54 b cf H.length t0 t1 H := by kernel_rfl
theorem p55_eq (b : Bool) (cf : CallFn) (t0 t1 : AV) (H : Heap) : runG (cfg b) cf An 55 [t0, t1] H = p55 b cf H.length t0 t1 H := by kernel_rfl
theorem p57_eq (b : Bool) (cf : CallFn) (t0 t1 : AV) (H : Heap) : runG (cfg b) cf An 57 [t0, t1] H = p57 b cf H.length t0 t1 H := by kernel_rfl
theorem p58_eq (b : Bool) (cf : CallFn) (t0 : AV) (H : Heap) : runG (cfg b) cf An 58 [t0] H = p58 b cf H.length t0 H := by kernel_rfl
theorem p60_eq (b : Bool) (cf : CallFn) (t0 : AV) (H : Heap) : runG (cfg b) cf An 60 [t0] H = p60 b cf H.length t0 H := by kernel_rfl

end Go.Fm

/-
  What the interpreter does to functions, without slots and types; the kernel holds it against the code.
-/
set_option maxRecDepth 100000
set_option linter.unusedVariables false
namespace Go.Fm
open Go Go.Proofs

/-- (*ferryman/client.Client).Update -/
noncomputable def p72_d0 (b : Bool) (cf : CallFn) (t4_0 : AV) (H_6 : Heap) : Option ((List AV × List Trail) × Heap) :=
  bindE (drawR true [t4_0] (fun F => mFA 5 98 t4_0 F) H_6) fun t17_7 H_8 =>
  bindE (drawR true [t17_7.1] (fun F => mLoad true 32 t17_7.1 F) H_8) fun t18_9 H_10 =>
  bindE (drawR true [t4_0] (fun F => mLoad true 130 t4_0 F) H_10) fun t19_11 H_12 =>
  bindE (drawR false [t19_11.1] (fun F => cf 98 [t19_11.1] F) H_12) fun t20_13 H_14 =>
  bindE (drawR true [t18_9.1, t20_13.1] (fun F => mBin (cfg b) 41 false .neq t18_9.1 t20_13.1 F) H_14) fun t21_15 H_16 =>
  some (([t21_15.1], [t17_7.2, t18_9.2, t19_11.2, t20_13.2, t21_15.2]), H_16)
noncomputable def p72_d1 (b : Bool) (cf : CallFn) (t0 : AV) (H_25 : Heap) : Option ((List AV × List Trail) × Heap) :=
  bindE (drawM (some t0) H_25) fun t24_26 H_27 =>
  bindE (drawR true [t24_26.1] (fun F => mNil t24_26.1 F) H_27) fun t25_28 H_29 =>
  bindE (drawR true [t25_28.1] (fun F => mFA 1 1 t25_28.1 F) H_29) fun t26_30 H_31 =>
  bindE (drawR true [t26_30.1] (fun F => mLoad false 1 t26_30.1 F) H_31) fun t27_32 H_33 =>
  bindE (drawM (some t0) H_33) fun t28_34 H_35 =>
  bindE (drawR true [t28_34.1] (fun F => mNil t28_34.1 F) H_35) fun t29_36 H_37 =>
  bindE (drawR true [t29_36.1] (fun F => mFA 1 1 t29_36.1 F) H_37) fun t30_38 H_39 =>
  bindE (drawR true [t30_38.1] (fun F => mLoad false 1 t30_38.1 F) H_39) fun t31_40 H_41 =>
  bindE (drawR true [t31_40.1] (fun F => mLenSl t31_40.1 F) H_41) fun t32_42 H_43 =>
  bindE (drawR true [t32_42.1] (fun F => mBin (cfg b) 3 true .sub t32_42.1 (AV.c (.int .i64 1)) F) H_43) fun t33_44 H_45 =>
  bindE (drawR true [t27_32.1, t33_44.1] (fun F => mIdxS 98 t27_32.1 t33_44.1 F) H_45) fun t34_46 H_47 =>
  bindE (drawR true [t34_46.1] (fun F => mLoad true 98 t34_46.1 F) H_47) fun t35_48 H_49 =>
  bindE (drawR false [] (fun F => mAlloc 168 (.agg [(.int .u64 0), (.int .u64 0), (.arr 32 .u8 (List.replicate 32 0)), (.arr 32 .u8 (List.replicate 32 0)), (.arr 32 .u8 (List.replicate 32 0))]) F) H_49) fun t8_50 H_51 =>
  bindE (drawR false [t8_50.1, t35_48.1] (fun F => mStore true 98 t8_50.1 t35_48.1 F) H_51) fun u_52 H_53 =>
  some (([t8_50.1], [t24_26.2, t25_28.2, t26_30.2, t27_32.2, t28_34.2, t29_36.2, t30_38.2, t31_40.2, t32_42.2, t33_44.2, t34_46.2, t35_48.2, t8_50.2, u_52.2]), H_53)
noncomputable def p72_d2 (b : Bool) (cf : CallFn) (t0 t4_0 : AV) (H_148 : Heap) : Option ((List AV × List Trail) × Heap) :=
  bindE (drawM (some t0) H_148) fun t91_149 H_150 =>
  bindE (drawM (some t0) H_150) fun t92_151 H_152 =>
  bindE (drawR true [t92_151.1] (fun F => mNil t92_151.1 F) H_152) fun t93_153 H_154 =>
  bindE (drawR true [t93_153.1] (fun F => mFA 1 1 t93_153.1 F) H_154) fun t94_155 H_156 =>
  bindE (drawR true [t94_155.1] (fun F => mLoad false 1 t94_155.1 F) H_156) fun t95_157 H_158 =>
  bindE (drawR true [t4_0] (fun F => mLoad true 130 t4_0 F) H_158) fun t96_159 H_160 =>
  bindE (drawR false [t96_159.1] (fun F => cf 110 [t96_159.1] F) H_160) fun t97_161 H_162 =>
  bindE (drawR false [t97_161.1] (fun F => mBuildSl 168 98 (.agg [(.int .u64 0), (.int .u64 0), (.arr 32 .u8 (List.replicate 32 0)), (.arr 32 .u8 (List.replicate 32 0)), (.arr 32 .u8 (List.replicate 32 0))]) 1 [(0, t97_161.1)] F) H_162) fun t98_163 H_164 =>
  bindE (drawR false [t95_157.1, t98_163.1] (fun F => mAppend 168 98 112 false t95_157.1 t98_163.1 F) H_164) fun t99_165 H_166 =>
  bindE (drawR true [t91_149.1] (fun F => mNil t91_149.1 F) H_166) fun t100_167 H_168 =>
  bindE (drawR true [t100_167.1] (fun F => mFA 1 1 t100_167.1 F) H_168) fun t101_169 H_170 =>
  bindE (drawR false [t101_169.1, t99_165.1] (fun F => mStore false 1 t101_169.1 t99_165.1 F) H_170) fun u_171 H_172 =>
  some (([], [t91_149.2, t92_151.2, t93_153.2, t94_155.2, t95_157.2, t96_159.2, t97_161.2, t98_163.2, t99_165.2, t100_167.2, t101_169.2, u_171.2]), H_172)
noncomputable def p72 (b : Bool) (cf : CallFn) (k : Nat) (t0 t1 t2 : AV) (H : Heap) : Option (AV × Heap) :=
  bindE (mBox 80 t1 H) fun t4_0 H_1 =>
  bindE (cf 107 [t0, t2] H_1) fun t13_2 H_3 =>
  bindE (mBin (cfg b) 112 true .neq t13_2 (AV.c .nilif) H_3) fun t15_4 H_5 =>
  condR t15_4 (endQ (cfg b) false k (resC1 (some t13_2) (some [])) H_5) (afterD (twice [0, 1, 0, 4, 15] (p72_d0 b cf t4_0) H_5) fun vs_17 H_18 =>
  un vs_17 fun t21_19 vs_20 => un0 vs_20 (condR t21_19 (bindE (mIface 25 (AV.c (.int .i64 35)) H_18) fun t22_21 H_22 =>
  bindE (cf 108 [(AV.c (.str ⟨#[104, 101, 97, 100, 101, 114]⟩)), (AV.c (.int .i64 0)), t22_21] H_22) fun t23_23 H_24 =>
  endQ (cfg b) false k (resC1 (some t23_23) (some [])) H_24) (afterD (twice [0, 1, 3, 7, 0, 16, 48, 112, 240, 496, 1023, 2047, 0, 8191] (p72_d1 b cf t0) H_18) fun vs_54 H_55 =>
  un vs_54 fun t8_56 vs_57 => un0 vs_57 (bindE (mFA 0 0 t4_0 H_55) fun t38_58 H_59 =>
  bindE (mLoad false 1 t38_58 H_59) fun t39_60 H_61 =>
  bindE (cf 109 [t0, t39_60] H_61) fun t40_62 H_63 =>
  bindE (mExtract 0 t40_62 H_63) fun t41_64 H_65 =>
  bindE (mExtract 1 t40_62 H_65) fun t42_66 H_67 =>
  bindE (mAlloc 168 (.agg [(.int .u64 0), (.int .u64 0), (.arr 32 .u8 (List.replicate 32 0)), (.arr 32 .u8 (List.replicate 32 0)), (.arr 32 .u8 (List.replicate 32 0))]) H_67) fun t9_68 H_69 =>
  bindE (mStore true 98 t9_68 t41_64 H_69) fun u_70 H_71 =>
  bindE (guardR (wantR true t42_66) (mFA 4 66 t9_68 H_71) H_71) fun t46_72 H_73 =>
  bindE (guardR (wantR true t42_66) (mLoad true 32 t46_72 H_73) H_73) fun t47_74 H_75 =>
  bindE (guardR (wantR true t42_66) (mFA 5 98 t4_0 H_75) H_75) fun t48_76 H_77 =>
  bindE (guardR (wantR true t42_66) (mLoad true 32 t48_76 H_77) H_77) fun t49_78 H_79 =>
  bindE (guardR (wantR true t42_66) (mBin (cfg b) 41 false .eql t47_74 t49_78 H_79) H_79) fun t50_80 H_81 =>
  bindE (mPick t42_66 t50_80 (AV.c (.bool false)) H_81) fun t51_82 H_83 =>
  condR t51_82 (endQ (cfg b) false k (resC1 (some (AV.c .nilif)) (some [])) H_83) (condR t42_66 (bindE (mNil t0 H_83) fun t55_84 H_85 =>
  bindE (mFA 2 2 t55_84 H_85) fun t56_86 H_87 =>
  bindE (mStore false 1 t56_86 (AV.c (.bool true)) H_87) fun u_88 H_89 =>
  endQ (cfg b) false k (resC1 (some (AV.c .nilif)) (some [])) H_89) (bindE (mFA 0 0 t4_0 H_83) fun t58_90 H_91 =>
  bindE (mLoad false 1 t58_90 H_91) fun t59_92 H_93 =>
  bindE (mFA 0 0 t8_56 H_93) fun t60_94 H_95 =>
  bindE (mLoad false 1 t60_94 H_95) fun t61_96 H_97 =>
  bindE (mBin (cfg b) 22 false .lss t59_92 t61_96 H_97) fun t62_98 H_99 =>
  bindE (guardR (wantR false t62_98) (mFA 0 0 t4_0 H_99) H_99) fun t64_100 H_101 =>
  bindE (guardR (wantR false t62_98) (mLoad false 1 t64_100 H_101) H_101) fun t65_102 H_103 =>
  bindE (guardR (wantR false t62_98) (mBin (cfg b) 22 true .gtr t65_102 (AV.c (.int .u64 1099511627776)) H_103) H_103) fun t66_104 H_105 =>
  bindE (mPick t62_98 (AV.c (.bool true)) t66_104 H_105) fun t67_106 H_107 =>
  condR t67_106 (bindE (mIface 25 (AV.c (.int .i64 32)) H_107) fun t68_108 H_109 =>
  bindE (cf 108 [(AV.c (.str ⟨#[104, 101, 97, 100, 101, 114]⟩)), (AV.c (.int .i64 1)), t68_108] H_109) fun t69_110 H_111 =>
  endQ (cfg b) false k (resC1 (some t69_110) (some [])) H_111) (bindE (mFA 1 1 t4_0 H_107) fun t71_112 H_113 =>
  bindE (mLoad false 1 t71_112 H_113) fun t72_114 H_115 =>
  bindE (mFA 1 1 t8_56 H_115) fun t73_116 H_117 =>
  bindE (mLoad false 1 t73_116 H_117) fun t74_118 H_119 =>
  bindE (mBin (cfg b) 22 false .leq t72_114 t74_118 H_119) fun t75_120 H_121 =>
  bindE (guardR (wantR false t75_120) (mFA 1 1 t4_0 H_121) H_121) fun t77_122 H_123 =>
  bindE (guardR (wantR false t75_120) (mLoad false 1 t77_122 H_123) H_123) fun t78_124 H_125 =>
  bindE (guardR (wantR false t75_120) (mBin (cfg b) 22 true .gtr t78_124 (AV.c (.int .u64 1099511627776)) H_125) H_125) fun t79_126 H_127 =>
  bindE (mPick t75_120 (AV.c (.bool true)) t79_126 H_127) fun t80_128 H_129 =>
  condR t80_128 (bindE (mIface 25 (AV.c (.int .i64 33)) H_129) fun t81_130 H_131 =>
  bindE (cf 108 [(AV.c (.str ⟨#[104, 101, 97, 100, 101, 114]⟩)), (AV.c (.int .i64 2)), t81_130] H_131) fun t82_132 H_133 =>
  endQ (cfg b) false k (resC1 (some t82_132) (some [])) H_133) (bindE (mFA 3 34 t4_0 H_129) fun t84_134 H_135 =>
  bindE (mLoad true 32 t84_134 H_135) fun t85_136 H_137 =>
  bindE (mFA 3 34 t8_56 H_137) fun t86_138 H_139 =>
  bindE (mLoad true 32 t86_138 H_139) fun t87_140 H_141 =>
  bindE (mBin (cfg b) 41 false .neq t85_136 t87_140 H_141) fun t88_142 H_143 =>
  condR t88_142 (bindE (mIface 25 (AV.c (.int .i64 34)) H_143) fun t89_144 H_145 =>
  bindE (cf 108 [(AV.c (.str ⟨#[104, 101, 97, 100, 101, 114]⟩)), (AV.c (.int .i64 3)), t89_144] H_145) fun t90_146 H_147 =>
  endQ (cfg b) false k (resC1 (some t90_146) (some [])) H_147) (afterD (twice [0, 0, 2, 6, 14, 0, 32, 96, 254, 511, 1023, 2047] (p72_d2 b cf t0 t4_0) H_143) fun vs_173 H_174 =>
  un0 vs_173 (bindE (mNil t0 H_174) fun t103_175 H_176 =>
  bindE (mFA 1 1 t103_175 H_176) fun t104_177 H_178 =>
  bindE (mLoad false 1 t104_177 H_178) fun t105_179 H_180 =>
  bindE (mLenSl t105_179 H_180) fun t106_181 H_182 =>
  bindE (mBin (cfg b) 3 true .gtr t106_181 (AV.c (.int .i64 16)) H_182) fun t107_183 H_184 =>
  condR t107_183 (bindE (mNil t0 H_184) fun t110_185 H_186 =>
  bindE (mFA 1 1 t110_185 H_186) fun t111_187 H_188 =>
  bindE (mLoad false 1 t111_187 H_188) fun t112_189 H_190 =>
  bindE (mSliceSl 98 t112_189 (some (AV.c (.int .i64 1))) none H_190) fun t113_191 H_192 =>
  bindE (cf 111 [t113_191] H_192) fun t114_193 H_194 =>
  bindE (mNil t0 H_194) fun t115_195 H_196 =>
  bindE (mFA 1 1 t115_195 H_196) fun t116_197 H_198 =>
  bindE (mStore false 1 t116_197 t114_193 H_198) fun u_199 H_200 =>
  endQ (cfg b) false k (resC1 (some (AV.c .nilif)) (some [])) H_200) (endQ (cfg b) false k (resC1 (some (AV.c .nilif)) (some [])) H_184)))))))))))

/-- (*ferryman/client.Client).Latest -/
noncomputable def p73_d0 (b : Bool) (cf : CallFn) (t0 : AV) (H_2 : Heap) : Option ((List AV × List Trail) × Heap) :=
  bindE (drawM (some t0) H_2) fun t5_3 H_4 =>
  bindE (drawR true [t5_3.1] (fun F => mNil t5_3.1 F) H_4) fun t6_5 H_6 =>
  bindE (drawR true [t6_5.1] (fun F => mFA 1 1 t6_5.1 F) H_6) fun t7_7 H_8 =>
  bindE (drawR true [t7_7.1] (fun F => mLoad false 1 t7_7.1 F) H_8) fun t8_9 H_10 =>
  bindE (drawM (some t0) H_10) fun t9_11 H_12 =>
  bindE (drawR true [t9_11.1] (fun F => mNil t9_11.1 F) H_12) fun t10_13 H_14 =>
  bindE (drawR true [t10_13.1] (fun F => mFA 1 1 t10_13.1 F) H_14) fun t11_15 H_16 =>
  bindE (drawR true [t11_15.1] (fun F => mLoad false 1 t11_15.1 F) H_16) fun t12_17 H_18 =>
  bindE (drawR true [t12_17.1] (fun F => mLenSl t12_17.1 F) H_18) fun t13_19 H_20 =>
  bindE (drawR true [t13_19.1] (fun F => mBin (cfg b) 3 true .sub t13_19.1 (AV.c (.int .i64 1)) F) H_20) fun t14_21 H_22 =>
  bindE (drawR true [t8_9.1, t14_21.1] (fun F => mIdxS 98 t8_9.1 t14_21.1 F) H_22) fun t15_23 H_24 =>
  bindE (drawR true [t15_23.1] (fun F => mFA 0 0 t15_23.1 F) H_24) fun t16_25 H_26 =>
  bindE (drawR true [t16_25.1] (fun F => mLoad false 1 t16_25.1 F) H_26) fun t17_27 H_28 =>
  bindE (drawM (some t17_27.1) H_28) fun t2_29 H_30 =>
  some (([t2_29.1], [t5_3.2, t6_5.2, t7_7.2, t8_9.2, t9_11.2, t10_13.2, t11_15.2, t12_17.2, t13_19.2, t14_21.2, t15_23.2, t16_25.2, t17_27.2, t2_29.2]), H_30)
noncomputable def p73 (b : Bool) (cf : CallFn) (k : Nat) (t0 : AV) (H : Heap) : Option (AV × Heap) :=
  bindE (mBin (cfg b) 92 true .eql t0 (AV.c .nilp) H) fun t4_0 H_1 =>
  condR t4_0 (endQ (cfg b) false k (resC1 (some (AV.c (.int .u64 0))) (some [])) H_1) (afterD (twice [0, 1, 3, 7, 0, 16, 48, 112, 240, 496, 1023, 2047, 4095, 8191] (p73_d0 b cf t0) H_1) fun vs_31 H_32 =>
  un vs_31 fun t2_33 vs_34 => un0 vs_34 (endQ (cfg b) false k (resC1 (some t2_33) (some [])) H_32))

/-- ferryman/client.New -/
noncomputable def p99 (b : Bool) (cf : CallFn) (k : Nat) (t0 t1 : AV) (H : Heap) : Option (AV × Heap) :=
  bindE (mBox 80 t0 H) fun t2_0 H_1 =>
  bindE (mBin (cfg b) 22 true .lss t1 (AV.c (.int .u64 1)) H_1) fun t8_2 H_3 =>
  bindE (guardR (wantR false t8_2) (some (t1, H_3)) H_3) fun t10_4 H_5 =>
  bindE (guardR (wantR false t8_2) (mBin (cfg b) 22 true .gtr t10_4 (AV.c (.int .u64 4294967296)) H_5) H_5) fun t11_6 H_7 =>
  bindE (mPick t8_2 (AV.c (.bool true)) t11_6 H_7) fun t12_8 H_9 =>
  condR t12_8 (endQ (cfg b) false k (resC1 (some (AV.c .nilp)) (resC1 (some (AV.c (.int .i64 2))) (some []))) H_9) (bindE (mFA 0 0 t2_0 H_9) fun t14_10 H_11 =>
  bindE (mLoad false 1 t14_10 H_11) fun t15_12 H_13 =>
  bindE (mBin (cfg b) 22 true .lss t15_12 (AV.c (.int .u64 1)) H_13) fun t16_14 H_15 =>
  bindE (guardR (wantR false t16_14) (mFA 0 0 t2_0 H_15) H_15) fun t18_16 H_17 =>
  bindE (guardR (wantR false t16_14) (mLoad false 1 t18_16 H_17) H_17) fun t19_18 H_19 =>
  bindE (guardR (wantR false t16_14) (mBin (cfg b) 22 true .gtr t19_18 (AV.c (.int .u64 1099511627776)) H_19) H_19) fun t20_20 H_21 =>
  bindE (mPick t16_14 (AV.c (.bool true)) t20_20 H_21) fun t21_22 H_23 =>
  condR t21_22 (endQ (cfg b) false k (resC1 (some (AV.c .nilp)) (resC1 (some (AV.c (.int .i64 32))) (some []))) H_23) (bindE (mFA 1 1 t2_0 H_23) fun t23_24 H_25 =>
  bindE (mLoad false 1 t23_24 H_25) fun t24_26 H_27 =>
  bindE (mBin (cfg b) 22 true .gtr t24_26 (AV.c (.int .u64 1099511627776)) H_27) fun t25_28 H_29 =>
  condR t25_28 (endQ (cfg b) false k (resC1 (some (AV.c .nilp)) (resC1 (some (AV.c (.int .i64 33))) (some []))) H_29) (bindE (mLoad true 130 t2_0 H_29) fun t27_30 H_31 =>
  bindE (cf 110 [t27_30] H_31) fun t28_32 H_33 =>
  bindE (mBuildSl 168 98 (.agg [(.int .u64 0), (.int .u64 0), (.arr 32 .u8 (List.replicate 32 0)), (.arr 32 .u8 (List.replicate 32 0)), (.arr 32 .u8 (List.replicate 32 0))]) 1 [(0, t28_32)] H_33) fun t29_34 H_35 =>
  bindE (mBuildS [(.int .u64 0), .nilsl, (.bool false)] [(0, t1), (1, t29_34)] H_35) fun t30_36 H_37 =>
  bindE (mBox 171 t30_36 H_37) fun t31_38 H_39 =>
  endQ (cfg b) false k (resC1 (some t31_38) (resC1 (some (AV.c (.int .i64 0))) (some []))) H_39)))

/-- (*ferryman/client.Client).Status -/
noncomputable def p107_d0 (b : Bool) (cf : CallFn) (t1 t0 : AV) (H_16 : Heap) : Option ((List AV × List Trail) × Heap) :=
  bindE (drawM (some t1) H_16) fun t18_17 H_18 =>
  bindE (drawM (some t0) H_18) fun t19_19 H_20 =>
  bindE (drawR true [t19_19.1] (fun F => mNil t19_19.1 F) H_20) fun t20_21 H_22 =>
  bindE (drawR true [t20_21.1] (fun F => mFA 1 1 t20_21.1 F) H_22) fun t21_23 H_24 =>
  bindE (drawR true [t21_23.1] (fun F => mLoad false 1 t21_23.1 F) H_24) fun t22_25 H_26 =>
  bindE (drawM (some t0) H_26) fun t23_27 H_28 =>
  bindE (drawR true [t23_27.1] (fun F => mNil t23_27.1 F) H_28) fun t24_29 H_30 =>
  bindE (drawR true [t24_29.1] (fun F => mFA 1 1 t24_29.1 F) H_30) fun t25_31 H_32 =>
  bindE (drawR true [t25_31.1] (fun F => mLoad false 1 t25_31.1 F) H_32) fun t26_33 H_34 =>
  bindE (drawR true [t26_33.1] (fun F => mLenSl t26_33.1 F) H_34) fun t27_35 H_36 =>
  bindE (drawR true [t27_35.1] (fun F => mBin (cfg b) 3 true .sub t27_35.1 (AV.c (.int .i64 1)) F) H_36) fun t28_37 H_38 =>
  bindE (drawR true [t22_25.1, t28_37.1] (fun F => mIdxS 98 t22_25.1 t28_37.1 F) H_38) fun t29_39 H_40 =>
  bindE (drawR true [t29_39.1] (fun F => mFA 1 1 t29_39.1 F) H_40) fun t30_41 H_42 =>
  bindE (drawR true [t30_41.1] (fun F => mLoad false 1 t30_41.1 F) H_42) fun t31_43 H_44 =>
  bindE (drawR true [t18_17.1, t31_43.1] (fun F => mBin (cfg b) 22 false .gtr t18_17.1 t31_43.1 F) H_44) fun t32_45 H_46 =>
  bindE (drawM (some t32_45.1) H_46) fun t33_47 H_48 =>
  bindE (guardD (wantR true t33_47.1) (drawM (some t1) H_48) H_48) fun t34_49 H_50 =>
  bindE (guardD (wantR true t33_47.1) (drawM (some t0) H_50) H_50) fun t35_51 H_52 =>
  bindE (guardD (wantR true t33_47.1) (drawR true [t35_51.1] (fun F => mNil t35_51.1 F) H_52) H_52) fun t36_53 H_54 =>
  bindE (guardD (wantR true t33_47.1) (drawR true [t36_53.1] (fun F => mFA 1 1 t36_53.1 F) H_54) H_54) fun t37_55 H_56 =>
  bindE (guardD (wantR true t33_47.1) (drawR true [t37_55.1] (fun F => mLoad false 1 t37_55.1 F) H_56) H_56) fun t38_57 H_58 =>
  bindE (guardD (wantR true t33_47.1) (drawM (some t0) H_58) H_58) fun t39_59 H_60 =>
  bindE (guardD (wantR true t33_47.1) (drawR true [t39_59.1] (fun F => mNil t39_59.1 F) H_60) H_60) fun t40_61 H_62 =>
  bindE (guardD (wantR true t33_47.1) (drawR true [t40_61.1] (fun F => mFA 1 1 t40_61.1 F) H_62) H_62) fun t41_63 H_64 =>
  bindE (guardD (wantR true t33_47.1) (drawR true [t41_63.1] (fun F => mLoad false 1 t41_63.1 F) H_64) H_64) fun t42_65 H_66 =>
  bindE (guardD (wantR true t33_47.1) (drawR true [t42_65.1] (fun F => mLenSl t42_65.1 F) H_66) H_66) fun t43_67 H_68 =>
  bindE (guardD (wantR true t33_47.1) (drawR true [t43_67.1] (fun F => mBin (cfg b) 3 true .sub t43_67.1 (AV.c (.int .i64 1)) F) H_68) H_68) fun t44_69 H_70 =>
  bindE (guardD (wantR true t33_47.1) (drawR true [t38_57.1, t44_69.1] (fun F => mIdxS 98 t38_57.1 t44_69.1 F) H_70) H_70) fun t45_71 H_72 =>
  bindE (guardD (wantR true t33_47.1) (drawR true [t45_71.1] (fun F => mFA 1 1 t45_71.1 F) H_72) H_72) fun t46_73 H_74 =>
  bindE (guardD (wantR true t33_47.1) (drawR true [t46_73.1] (fun F => mLoad false 1 t46_73.1 F) H_74) H_74) fun t47_75 H_76 =>
  bindE (guardD (wantR true t33_47.1) (drawR true [t34_49.1, t47_75.1] (fun F => mBin (cfg b) 22 false .sub t34_49.1 t47_75.1 F) H_76) H_76) fun t48_77 H_78 =>
  bindE (guardD (wantR true t33_47.1) (drawM (some t0) H_78) H_78) fun t49_79 H_80 =>
  bindE (guardD (wantR true t33_47.1) (drawR true [t49_79.1] (fun F => mNil t49_79.1 F) H_80) H_80) fun t50_81 H_82 =>
  bindE (guardD (wantR true t33_47.1) (drawR true [t50_81.1] (fun F => mFA 0 0 t50_81.1 F) H_82) H_82) fun t51_83 H_84 =>
  bindE (guardD (wantR true t33_47.1) (drawR true [t51_83.1] (fun F => mLoad false 1 t51_83.1 F) H_84) H_84) fun t52_85 H_86 =>
  bindE (guardD (wantR true t33_47.1) (drawR true [t48_77.1, t52_85.1] (fun F => mBin (cfg b) 22 false .geq t48_77.1 t52_85.1 F) H_86) H_86) fun t53_87 H_88 =>
  bindE (drawR true [t33_47.1, t53_87.1] (fun F => mPick t33_47.1 t53_87.1 (AV.c (.bool false)) F) H_88) fun t54_89 H_90 =>
  bindE (drawM (some t54_89.1) H_90) fun t17_91 H_92 =>
  some (([t17_91.1], [t18_17.2, t19_19.2, t20_21.2, t21_23.2, t22_25.2, t23_27.2, t24_29.2, t25_31.2, t26_33.2, t27_35.2, t28_37.2, t29_39.2, t30_41.2, t31_43.2, t32_45.2, t33_47.2, t34_49.2, t35_51.2, t36_53.2, t37_55.2, t38_57.2, t39_59.2, t40_61.2, t41_63.2, t42_65.2, t43_67.2, t44_69.2, t45_71.2, t46_73.2, t47_75.2, t48_77.2, t49_79.2, t50_81.2, t51_83.2, t52_85.2, t53_87.2, t54_89.2, t17_91.2]), H_92)
noncomputable def p107 (b : Bool) (cf : CallFn) (k : Nat) (t0 t1 : AV) (H : Heap) : Option (AV × Heap) :=
  bindE (mBin (cfg b) 92 true .eql t0 (AV.c .nilp) H) fun t7_0 H_1 =>
  condR t7_0 (bindE (mIface 25 (AV.c (.int .i64 1)) H_1) fun t8_2 H_3 =>
  bindE (cf 108 [(AV.c (.str ⟨#[99, 108, 105, 101, 110, 116]⟩)), (AV.c (.int .i64 0)), t8_2] H_3) fun t9_4 H_5 =>
  endQ (cfg b) false k (resC1 (some t9_4) (some [])) H_5) (bindE (mNil t0 H_1) fun t12_6 H_7 =>
  bindE (mFA 2 2 t12_6 H_7) fun t13_8 H_9 =>
  bindE (mLoad false 1 t13_8 H_9) fun t14_10 H_11 =>
  condR t14_10 (bindE (mIface 25 (AV.c (.int .i64 30)) H_11) fun t15_12 H_13 =>
  bindE (cf 108 [(AV.c (.str ⟨#[99, 108, 105, 101, 110, 116]⟩)), (AV.c (.int .i64 0)), t15_12] H_13) fun t16_14 H_15 =>
  endQ (cfg b) false k (resC1 (some t16_14) (some [])) H_15) (afterD (twice [0, 0, 2, 6, 14, 0, 32, 96, 224, 480, 992, 2046, 4094, 8190, 16383, 32767, 65535, 65535, 196607, 458751, 983039, 65535, 2162687, 6356991, 14745599, 31522815, 65077247, 134152191, 268369919, 536805375, 1073741823, 65535, 2147549183, 6442516479, 15032451071, 34359738367, 68719476735, 137438953471] (p107_d0 b cf t1 t0) H_11) fun vs_93 H_94 =>
  un vs_93 fun t17_95 vs_96 => un0 vs_96 (condR t17_95 (bindE (mIface 25 (AV.c (.int .i64 31)) H_94) fun t55_97 H_98 =>
  bindE (cf 108 [(AV.c (.str ⟨#[99, 108, 105, 101, 110, 116]⟩)), (AV.c (.int .i64 0)), t55_97] H_98) fun t56_99 H_100 =>
  endQ (cfg b) false k (resC1 (some t56_99) (some [])) H_100) (endQ (cfg b) false k (resC1 (some (AV.c .nilif)) (some [])) H_94))))

theorem p72_eq (b : Bool) (cf : CallFn) (t0 t1 t2 : AV) (H : Heap) : runG (cfg b) cf An 72 [t0, t1, t2] H = p72 b cf H.length t0 t1 t2 H := by kernel_rfl
theorem p73_eq (b : Bool) (cf : CallFn) (t0 : AV) (H : Heap) : runG (cfg b) cf An 73 [t0] H = p73 b cf H.length t0 H := by kernel_rfl
theorem p99_eq (b : Bool) (cf : CallFn) (t0 t1 : AV) (H : Heap) : runG (cfg b) cf An 99 [t0, t1] H = p99 b cf H.length t0 t1 H := by kernel_rfl
theorem p107_eq (b : Bool) (cf : CallFn) (t0 t1 : AV) (H : Heap) : runG (cfg b) cf An 107 [t0, t1] H = p107 b cf H.length t0 t1 H := by kernel_rfl

end Go.Fm

/-
  What the interpreter does to functions, without slots and types; the kernel holds it against the code.
-/
set_option maxRecDepth 100000
set_option linter.unusedVariables false
namespace Go.Fm
open Go Go.Proofs

/-- (*ferryman/client.Client).at -/
noncomputable def p109 (b : Bool) (cf : CallFn) (k : Nat) (t0 t1 : AV) (H : Heap) : Option (AV × Heap) :=
  bindE (mBox 22 t1 H) fun t3_0 H_1 =>
  bindE (mAlloc 168 (.agg [(.int .u64 0), (.int .u64 0), (.arr 32 .u8 (List.replicate 32 0)), (.arr 32 .u8 (List.replicate 32 0)), (.arr 32 .u8 (List.replicate 32 0))]) H_1) fun t4_2 H_3 =>
  bindE (mNil t0 H_3) fun t8_4 H_5 =>
  bindE (mFA 1 1 t8_4 H_5) fun t9_6 H_7 =>
  bindE (mLoad false 1 t9_6 H_7) fun t10_8 H_9 =>
  bindE (cf 132 [t10_8, (AV.fn 133 [t3_0])] H_9) fun t12_10 H_11 =>
  bindE (mBin (cfg b) 3 true .lss t12_10 (AV.c (.int .i64 0)) H_11) fun t14_12 H_13 =>
  condR t14_12 (bindE (mBuildS [(.int .u64 0), (.int .u64 0), (.arr 32 .u8 (List.replicate 32 0)), (.arr 32 .u8 (List.replicate 32 0)), (.arr 32 .u8 (List.replicate 32 0))] [] H_13) fun t15_14 H_15 =>
  bindE (mStore true 98 t4_2 t15_14 H_15) fun u_16 H_17 =>
  endQ (cfg b) false k (resC1 (mld true 98 H_17 t4_2) (resC1 (some (AV.c (.bool false))) (some []))) H_17) (bindE (mNil t0 H_13) fun t17_18 H_19 =>
  bindE (mFA 1 1 t17_18 H_19) fun t18_20 H_21 =>
  bindE (mLoad false 1 t18_20 H_21) fun t19_22 H_23 =>
  bindE (mIdxS 98 t19_22 t12_10 H_23) fun t21_24 H_25 =>
  bindE (mLoad true 98 t21_24 H_25) fun t22_26 H_27 =>
  bindE (mStore true 98 t4_2 t22_26 H_27) fun u_28 H_29 =>
  endQ (cfg b) false k (resC1 (mld true 98 H_29 t4_2) (resC1 (some (AV.c (.bool true))) (some []))) H_29)

/-- ferryman/client.of -/
noncomputable def p110_d0 (b : Bool) (cf : CallFn) (t1_0 t2_2 : AV) (H_4 : Heap) : Option ((List AV × List Trail) × Heap) :=
  bindE (drawR true [t1_0] (fun F => mFA 0 0 t1_0 F) H_4) fun t3_5 H_6 =>
  bindE (drawR true [t3_5.1] (fun F => mLoad false 1 t3_5.1 F) H_6) fun t4_7 H_8 =>
  bindE (drawR true [t1_0] (fun F => mFA 1 1 t1_0 F) H_8) fun t5_9 H_10 =>
  bindE (drawR true [t5_9.1] (fun F => mLoad false 1 t5_9.1 F) H_10) fun t6_11 H_12 =>
  bindE (drawR true [t1_0] (fun F => mFA 2 2 t1_0 F) H_12) fun t7_13 H_14 =>
  bindE (drawR true [t7_13.1] (fun F => mLoad true 32 t7_13.1 F) H_14) fun t8_15 H_16 =>
  bindE (drawR true [t1_0] (fun F => mFA 4 66 t1_0 F) H_16) fun t9_17 H_18 =>
  bindE (drawR true [t9_17.1] (fun F => mLoad true 32 t9_17.1 F) H_18) fun t10_19 H_20 =>
  bindE (drawR true [t1_0] (fun F => mLoad true 130 t1_0 F) H_20) fun t11_21 H_22 =>
  bindE (drawR false [t11_21.1] (fun F => cf 98 [t11_21.1] F) H_22) fun t12_23 H_24 =>
  bindE (drawR false [t4_7.1, t6_11.1, t8_15.1, t10_19.1, t12_23.1] (fun F => mBuildS [(.int .u64 0), (.int .u64 0), (.arr 32 .u8 (List.replicate 32 0)), (.arr 32 .u8 (List.replicate 32 0)), (.arr 32 .u8 (List.replicate 32 0))] [(0, t4_7.1), (1, t6_11.1), (2, t8_15.1), (3, t10_19.1), (4, t12_23.1)] F) H_24) fun t13_25 H_26 =>
  bindE (drawR false [t2_2, t13_25.1] (fun F => mStore true 98 t2_2 t13_25.1 F) H_26) fun u_27 H_28 =>
  some (([], [t3_5.2, t4_7.2, t5_9.2, t6_11.2, t7_13.2, t8_15.2, t9_17.2, t10_19.2, t11_21.2, t12_23.2, t13_25.2, u_27.2]), H_28)
noncomputable def p110 (b : Bool) (cf : CallFn) (k : Nat) (t0 : AV) (H : Heap) : Option (AV × Heap) :=
  bindE (mBox 80 t0 H) fun t1_0 H_1 =>
  bindE (mAlloc 168 (.agg [(.int .u64 0), (.int .u64 0), (.arr 32 .u8 (List.replicate 32 0)), (.arr 32 .u8 (List.replicate 32 0)), (.arr 32 .u8 (List.replicate 32 0))]) H_1) fun t2_2 H_3 =>
  afterD (twice [0, 1, 0, 4, 0, 16, 0, 64, 0, 256, 1023, 2047] (p110_d0 b cf t1_0 t2_2) H_3) fun vs_29 H_30 =>
  un0 vs_29 (endQ (cfg b) false k (resC1 (mld true 98 H_30 t2_2) (some [])) H_30)

/-- slices.Clone[[]ferryman/client.state,ferryman/client.state] -/
noncomputable def p111 (b : Bool) (cf : CallFn) (k : Nat) (t0 : AV) (H : Heap) : Option (AV × Heap) :=
  bindE (mBin (cfg b) 169 true .eql t0 (AV.c .nilsl) H) fun t4_0 H_1 =>
  condR t4_0 (endQ (cfg b) true k (resC1 (some (AV.c .nilsl)) (some [])) H_1) (bindE (mBuildSl 168 98 (.agg [(.int .u64 0), (.int .u64 0), (.arr 32 .u8 (List.replicate 32 0)), (.arr 32 .u8 (List.replicate 32 0)), (.arr 32 .u8 (List.replicate 32 0))]) 0 [] H_1) fun t5_2 H_3 =>
  bindE (mAppend 168 98 112 false t5_2 t0 H_3) fun t7_4 H_5 =>
  endQ (cfg b) true k (resC1 (some t7_4) (some [])) H_5)

noncomputable def p132_l0 (b : Bool) (cf : CallFn) (k : Nat) (s : List AV) (H : Heap) : Option (LStep × Heap) :=
  un s fun t0_2 vs_3 => un vs_3 fun t1_4 vs_5 => un vs_5 fun t7_6 vs_7 => un vs_7 fun t8_8 vs_9 => un0 vs_9 (bindE (mBin (cfg b) 3 false .lss t8_8 t7_6 H) fun t9_10 H_11 =>
  condR t9_10 (bindE (mIdxS 98 t0_2 t8_8 H_11) fun t14_12 H_13 =>
  bindE (mLoad true 98 t14_12 H_13) fun t15_14 H_15 =>
  bindE (mCallV cf t1_4 [t15_14] H_15) fun t16_16 H_17 =>
  condR t16_16 (some (LStep.ret [t8_8], H_17)) (bindE (mBin (cfg b) 3 true .add t8_8 (AV.c (.int .i64 1)) H_17) fun t18_18 H_19 =>
  some (LStep.cont [t0_2, t1_4, t7_6, t18_18], H_19))) (some (LStep.exit 0 [AV.any], H_11)))
/-- slices.IndexFunc[[]ferryman/client.state,ferryman/client.state] -/
noncomputable def p132 (b : Bool) (cf : CallFn) (k : Nat) (t0 t1 : AV) (H : Heap) : Option (AV × Heap) :=
  bindE (mLenSl t0 H) fun t7_0 H_1 =>
  afterL 0 (loopX k (p132_l0 b cf k) [t0, t1, t7_0, (AV.c (.int .i64 0))] H_1) (fun vs_20 H_21 =>
  un vs_20 fun t4_22 vs_23 => un0 vs_23 (endQ (cfg b) false k (resC1 (some (AV.c (.int .i64 (-1)))) (some [])) H_21)) (fun vs_20 H_21 => un vs_20 fun t4_24 vs_25 => un0 vs_25 (endQ (cfg b) false k (resC1 (some t4_24) (some [])) H_21))

/-- (*ferryman/client.Client).at$1 -/
noncomputable def p133 (b : Bool) (cf : CallFn) (k : Nat) (t0 t1 : AV) (H : Heap) : Option (AV × Heap) :=
  bindE (mBox 168 t0 H) fun t2_0 H_1 =>
  bindE (mFA 0 0 t2_0 H_1) fun t4_2 H_3 =>
  bindE (mLoad false 1 t4_2 H_3) fun t5_4 H_5 =>
  bindE (mLoad false 1 t1 H_5) fun t6_6 H_7 =>
  bindE (mBin (cfg b) 22 false .eql t5_4 t6_6 H_7) fun t7_8 H_9 =>
  endQ (cfg b) false k (resC1 (some t7_8) (some [])) H_9

theorem p109_eq (b : Bool) (cf : CallFn) (t0 t1 : AV) (H : Heap) : runG (cfg b) cf An 109 [t0, t1] H = p109 b cf H.length t0 t1 H := by kernel_rfl
theorem p110_eq (b : Bool) (cf : CallFn) (t0 : AV) (H : Heap) : runG (cfg b) cf An 110 [t0] H = p110 b cf H.length t0 H := by kernel_rfl
theorem p111_eq (b : Bool) (cf : CallFn) (t0 : AV) (H : Heap) : runG (cfg b) cf An 111 [t0] H = p111 b cf H.length t0 H := by kernel_rfl
theorem p132_eq (b : Bool) (cf : CallFn) (t0 t1 : AV) (H : Heap) : runG (cfg b) cf An 132 [t0, t1] H = p132 b cf H.length t0 t1 H := by kernel_rfl
theorem p133_eq (b : Bool) (cf : CallFn) (t0 t1 : AV) (H : Heap) : runG (cfg b) cf An 133 [t0, t1] H = p133 b cf H.length t0 t1 H := by kernel_rfl

end Go.Fm

/-
  What the interpreter does to functions, without slots and types; the kernel holds it against the code.
-/
set_option maxRecDepth 100000
set_option linter.unusedVariables false
namespace Go.Fm
open Go Go.Proofs

noncomputable def p16_l0_d0 (b : Bool) (cf : CallFn) (t9_42 t11_46 t7_38 : AV) (H_80 : Heap) : Option ((List AV × List Trail) × Heap) :=
  bindE (drawM (some t9_42) H_80) fun t60_81 H_82 =>
  bindE (drawR false [t60_81.1] (fun F => cf 58 [t60_81.1] F) H_82) fun t61_83 H_84 =>
  bindE (drawR true [t11_46] (fun F => mLoad true 130 t11_46 F) H_84) fun t62_85 H_86 =>
  bindE (drawM (some t7_38) H_86) fun t63_87 H_88 =>
  bindE (drawR false [t63_87.1] (fun F => cf 60 [t63_87.1] F) H_88) fun t64_89 H_90 =>
  bindE (drawR false [t61_83.1, t62_85.1, t64_89.1] (fun F => cf 72 [t61_83.1, t62_85.1, t64_89.1] F) H_90) fun t65_91 H_92 =>
  bindE (drawR true [t65_91.1] (fun F => mBin (cfg b) 112 true .neq t65_91.1 (AV.c .nilif) F) H_92) fun t66_93 H_94 =>
  bindE (drawM (some t66_93.1) H_94) fun t67_95 H_96 =>
  bindE (guardD (wantR false t67_95.1) (drawM (some t9_42) H_96) H_96) fun t68_97 H_98 =>
  bindE (guardD (wantR false t67_95.1) (drawR false [t68_97.1] (fun F => cf 58 [t68_97.1] F) H_98) H_98) fun t69_99 H_100 =>
  bindE (guardD (wantR false t67_95.1) (drawR false [t69_99.1] (fun F => cf 73 [t69_99.1] F) H_100) H_100) fun t70_101 H_102 =>
  bindE (guardD (wantR false t67_95.1) (drawR true [t11_46] (fun F => mFA 0 0 t11_46 F) H_102) H_102) fun t71_103 H_104 =>
  bindE (guardD (wantR false t67_95.1) (drawR true [t71_103.1] (fun F => mLoad false 1 t71_103.1 F) H_104) H_104) fun t72_105 H_106 =>
  bindE (guardD (wantR false t67_95.1) (drawR true [t70_101.1, t72_105.1] (fun F => mBin (cfg b) 22 false .neq t70_101.1 t72_105.1 F) H_106) H_106) fun t73_107 H_108 =>
  bindE (drawR true [t67_95.1, t73_107.1] (fun F => mPick t67_95.1 (AV.c (.bool true)) t73_107.1 F) H_108) fun t74_109 H_110 =>
  some (([t74_109.1], [t60_81.2, t61_83.2, t62_85.2, t63_87.2, t64_89.2, t65_91.2, t66_93.2, t67_95.2, t68_97.2, t69_99.2, t70_101.2, t71_103.2, t72_105.2, t73_107.2, t74_109.2]), H_110)
noncomputable def p16_l0_d1 (b : Bool) (cf : CallFn) (t9_42 t11_46 t7_38 : AV) (H_127 : Heap) : Option ((List AV × List Trail) × Heap) :=
  bindE (drawM (some t9_42) H_127) fun t60_128 H_129 =>
  bindE (drawR false [t60_128.1] (fun F => cf 58 [t60_128.1] F) H_129) fun t61_130 H_131 =>
  bindE (drawR true [t11_46] (fun F => mLoad true 130 t11_46 F) H_131) fun t62_132 H_133 =>
  bindE (drawM (some t7_38) H_133) fun t63_134 H_135 =>
  bindE (drawR false [t63_134.1] (fun F => cf 60 [t63_134.1] F) H_135) fun t64_136 H_137 =>
  bindE (drawR false [t61_130.1, t62_132.1, t64_136.1] (fun F => cf 72 [t61_130.1, t62_132.1, t64_136.1] F) H_137) fun t65_138 H_139 =>
  bindE (drawR true [t65_138.1] (fun F => mBin (cfg b) 112 true .neq t65_138.1 (AV.c .nilif) F) H_139) fun t66_140 H_141 =>
  bindE (drawM (some t66_140.1) H_141) fun t67_142 H_143 =>
  bindE (guardD (wantR false t67_142.1) (drawM (some t9_42) H_143) H_143) fun t68_144 H_145 =>
  bindE (guardD (wantR false t67_142.1) (drawR false [t68_144.1] (fun F => cf 58 [t68_144.1] F) H_145) H_145) fun t69_146 H_147 =>
  bindE (guardD (wantR false t67_142.1) (drawR false [t69_146.1] (fun F => cf 73 [t69_146.1] F) H_147) H_147) fun t70_148 H_149 =>
  bindE (guardD (wantR false t67_142.1) (drawR true [t11_46] (fun F => mFA 0 0 t11_46 F) H_149) H_149) fun t71_150 H_151 =>
  bindE (guardD (wantR false t67_142.1) (drawR true [t71_150.1] (fun F => mLoad false 1 t71_150.1 F) H_151) H_151) fun t72_152 H_153 =>
  bindE (guardD (wantR false t67_142.1) (drawR true [t70_148.1, t72_152.1] (fun F => mBin (cfg b) 22 false .neq t70_148.1 t72_152.1 F) H_153) H_153) fun t73_154 H_155 =>
  bindE (drawR true [t67_142.1, t73_154.1] (fun F => mPick t67_142.1 (AV.c (.bool true)) t73_154.1 F) H_155) fun t74_156 H_157 =>
  some (([t74_156.1], [t60_128.2, t61_130.2, t62_132.2, t63_134.2, t64_136.2, t65_138.2, t66_140.2, t67_142.2, t68_144.2, t69_146.2, t70_148.2, t71_150.2, t72_152.2, t73_154.2, t74_156.2]), H_157)
noncomputable def p16_l0 (b : Bool) (cf : CallFn) (k : Nat) (s : List AV) (H : Heap) : Option (LStep × Heap) :=
  un s fun t2_36 vs_37 => un vs_37 fun t7_38 vs_39 => un vs_39 fun t8_40 vs_41 => un vs_41 fun t9_42 vs_43 => un vs_43 fun t10_44 vs_45 => un vs_45 fun t11_46 vs_47 => un vs_47 fun t13_48 vs_49 => un vs_49 fun t38_50 vs_51 => un vs_51 fun t39_52 vs_53 => un0 vs_53 (bindE (mBin (cfg b) 5 false .lss t39_52 t38_50 H) fun t40_54 H_55 =>
  condR t40_54 (bindE (mConvI .i64 t39_52 H_55) fun t43_56 H_57 =>
  bindE (mLenSl t2_36 H_57) fun t45_58 H_59 =>
  bindE (mBin (cfg b) 3 false .lss t43_56 t45_58 H_59) fun t46_60 H_61 =>
  condR t46_60 (bindE (mIdxS 1 t2_36 t39_52 H_61) fun t50_62 H_63 =>
  bindE (mLoad false 1 t50_62 H_63) fun t51_64 H_65 =>
  bindE (mConvI .u64 t51_64 H_65) fun t52_66 H_67 =>
  bindE (cf 55 [t7_38, t52_66] H_67) fun t53_68 H_69 =>
  bindE (cf 26 [] H_69) fun t56_70 H_71 =>
  bindE (cf 52 [t7_38, t56_70] H_71) fun t57_72 H_73 =>
  bindE (mExtract 0 t57_72 H_73) fun t58_74 H_75 =>
  bindE (mExtract 1 t57_72 H_75) fun t59_76 H_77 =>
  bindE (mStore true 130 t11_46 t58_74 H_77) fun u_78 H_79 =>
  afterD (twice [0, 1, 0, 0, 11, 31, 63, 127, 255, 511, 1023, 255, 2303, 8191, 16383] (p16_l0_d0 b cf t9_42 t11_46 t7_38) H_79) fun vs_111 H_112 =>
  un vs_111 fun t74_113 vs_114 => un0 vs_114 (condR t74_113 (some (LStep.ret [(AV.c (.bool false)), t7_38, t8_40, t9_42, t10_44, t13_48], H_112)) (bindE (mBin (cfg b) 5 true .add t39_52 (AV.c (.int .u8 1)) H_112) fun t75_115 H_116 =>
  some (LStep.cont [t2_36, t7_38, t8_40, t9_42, t10_44, t11_46, t13_48, t38_50, t75_115], H_116)))) (bindE (cf 26 [] H_61) fun t56_117 H_118 =>
  bindE (cf 52 [t7_38, t56_117] H_118) fun t57_119 H_120 =>
  bindE (mExtract 0 t57_119 H_120) fun t58_121 H_122 =>
  bindE (mExtract 1 t57_119 H_122) fun t59_123 H_124 =>
  bindE (mStore true 130 t11_46 t58_121 H_124) fun u_125 H_126 =>
  afterD (twice [0, 1, 0, 0, 11, 31, 63, 127, 255, 511, 1023, 255, 2303, 8191, 16383] (p16_l0_d1 b cf t9_42 t11_46 t7_38) H_126) fun vs_158 H_159 =>
  un vs_158 fun t74_160 vs_161 => un0 vs_161 (condR t74_160 (some (LStep.ret [(AV.c (.bool false)), t7_38, t8_40, t9_42, t10_44, t13_48], H_159)) (bindE (mBin (cfg b) 5 true .add t39_52 (AV.c (.int .u8 1)) H_159) fun t75_162 H_163 =>
  some (LStep.cont [t2_36, t7_38, t8_40, t9_42, t10_44, t11_46, t13_48, t38_50, t75_162], H_163))))) (some (LStep.exit 0 [AV.any, t7_38, t8_40, t9_42, t10_44, t13_48], H_55)))
/-- ferryman/ferrymanlaw18.ChainFollows -/
noncomputable def p16 (b : Bool) (cf : CallFn) (k : Nat) (t0 t1 t2 : AV) (H : Heap) : Option (AV × Heap) :=
  bindE (cf 31 [] H) fun t15_0 H_1 =>
  bindE (mUn .not t15_0 H_1) fun t16_2 H_3 =>
  condR t16_2 (endQ (cfg b) false k (resC1 (some (AV.c (.bool false))) (some [])) H_3) (bindE (cf 56 [t0, (AV.c (.int .u64 4294967296))] H_3) fun t19_4 H_5 =>
  bindE (mExtract 0 t19_4 H_5) fun t20_6 H_7 =>
  bindE (mExtract 1 t19_4 H_7) fun t21_8 H_9 =>
  bindE (mBin (cfg b) 5 true .add t0 (AV.c (.int .u8 1)) H_9) fun t24_10 H_11 =>
  bindE (cf 56 [t24_10, (AV.c (.int .u64 4294967296))] H_11) fun t25_12 H_13 =>
  bindE (mExtract 0 t25_12 H_13) fun t26_14 H_15 =>
  bindE (mExtract 1 t25_12 H_15) fun t27_16 H_17 =>
  bindE (cf 26 [] H_17) fun t30_18 H_19 =>
  bindE (cf 52 [t20_6, t30_18] H_19) fun t31_20 H_21 =>
  bindE (mExtract 0 t31_20 H_21) fun t32_22 H_23 =>
  bindE (mExtract 1 t31_20 H_23) fun t33_24 H_25 =>
  bindE (mAlloc 80 (.agg [(.int .u64 0), (.int .u64 0), (.arr 32 .u8 (List.replicate 32 0)), (.arr 32 .u8 (List.replicate 32 0)), (.arr 32 .u8 (List.replicate 32 0)), (.arr 32 .u8 (List.replicate 32 0))]) H_25) fun t11_26 H_27 =>
  bindE (mStore true 130 t11_26 t32_22 H_27) fun u_28 H_29 =>
  bindE (mLoad true 130 t11_26 H_29) fun t35_30 H_31 =>
  bindE (cf 57 [t26_14, t35_30] H_31) fun t36_32 H_33 =>
  bindE (mBin (cfg b) 5 true .rem t1 (AV.c (.int .u8 70)) H_33) fun t38_34 H_35 =>
  afterL 0 (loopX k (p16_l0 b cf k) [t2, t20_6, t21_8, t26_14, t27_16, t11_26, t36_32, t38_34, (AV.c (.int .u8 0))] H_35) (fun vs_164 H_165 =>
  un vs_164 fun t6_166 vs_167 => un vs_167 fun t7_168 vs_169 => un vs_169 fun t8_170 vs_171 => un vs_171 fun t9_172 vs_173 => un vs_173 fun t10_174 vs_175 => un vs_175 fun t13_176 vs_177 => un0 vs_177 (bindE (mBin (cfg b) 25 true .eql t8_170 (AV.c (.int .i64 0)) H_165) fun t77_178 H_179 =>
  bindE (guardR (wantR true t77_178) (some (t10_174, H_179)) H_179) fun t79_180 H_181 =>
  bindE (guardR (wantR true t77_178) (mBin (cfg b) 25 true .eql t79_180 (AV.c (.int .i64 0)) H_181) H_181) fun t80_182 H_183 =>
  bindE (mPick t77_178 t80_182 (AV.c (.bool false)) H_183) fun t81_184 H_185 =>
  bindE (guardR (wantR true t81_184) (some (t13_176, H_185)) H_185) fun t83_186 H_187 =>
  bindE (guardR (wantR true t81_184) (mBin (cfg b) 25 true .eql t83_186 (AV.c (.int .i64 0)) H_187) H_187) fun t84_188 H_189 =>
  bindE (mPick t81_184 t84_188 (AV.c (.bool false)) H_189) fun t85_190 H_191 =>
  bindE (guardR (wantR true t85_190) (some (t9_172, H_191)) H_191) fun t87_192 H_193 =>
  bindE (guardR (wantR true t85_190) (cf 58 [t87_192] H_193) H_193) fun t88_194 H_195 =>
  bindE (guardR (wantR true t85_190) (cf 73 [t88_194] H_195) H_195) fun t89_196 H_197 =>
  bindE (guardR (wantR true t85_190) (some (t7_168, H_197)) H_197) fun t90_198 H_199 =>
  bindE (guardR (wantR true t85_190) (cf 59 [t90_198] H_199) H_199) fun t91_200 H_201 =>
  bindE (guardR (wantR true t85_190) (mBin (cfg b) 22 false .eql t89_196 t91_200 H_201) H_201) fun t92_202 H_203 =>
  bindE (mPick t85_190 t92_202 (AV.c (.bool false)) H_203) fun t93_204 H_205 =>
  endQ (cfg b) false k (resC1 (some t93_204) (some [])) H_205)) (fun vs_164 H_165 => un vs_164 fun t6_206 vs_207 => un vs_207 fun t7_208 vs_209 => un vs_209 fun t8_210 vs_211 => un vs_211 fun t9_212 vs_213 => un vs_213 fun t10_214 vs_215 => un vs_215 fun t13_216 vs_217 => un0 vs_217 (endQ (cfg b) false k (resC1 (some t6_206) (some [])) H_165)))

theorem p16_eq (b : Bool) (cf : CallFn) (t0 t1 t2 : AV) (H : Heap) : runG (cfg b) cf An 16 [t0, t1, t2] H = p16 b cf H.length t0 t1 t2 H := by kernel_rfl

end Go.Fm

/-
  What the interpreter does to functions, without slots and types; the kernel holds it against the code.
-/
set_option maxRecDepth 100000
set_option linter.unusedVariables false
namespace Go.Fm
open Go Go.Proofs

noncomputable def p17_l0 (b : Bool) (cf : CallFn) (k : Nat) (s : List AV) (H : Heap) : Option (LStep × Heap) :=
  un s fun t5_28 vs_29 => un vs_29 fun t6_30 vs_31 => un vs_31 fun t7_32 vs_33 => un vs_33 fun t9_34 vs_35 => un vs_35 fun t10_36 vs_37 => un vs_37 fun t33_38 vs_39 => un vs_39 fun t34_40 vs_41 => un0 vs_41 (bindE (mBin (cfg b) 5 false .lss t34_40 t33_38 H) fun t35_42 H_43 =>
  condR t35_42 (bindE (cf 26 [] H_43) fun t37_44 H_45 =>
  bindE (cf 52 [t5_28, t37_44] H_45) fun t38_46 H_47 =>
  bindE (mBin (cfg b) 5 true .add t34_40 (AV.c (.int .u8 1)) H_47) fun t39_48 H_49 =>
  some (LStep.cont [t5_28, t6_30, t7_32, t9_34, t10_36, t33_38, t39_48], H_49)) (some (LStep.exit 0 [t5_28, t6_30, t7_32, t9_34, t10_36], H_43)))
/-- ferryman/ferrymanlaw18.ChainStays -/
noncomputable def p17_d0 (b : Bool) (cf : CallFn) (t6_54 t10_60 t44_66 t49_76 t9_58 t11_68 t48_74 t7_56 : AV) (H_78 : Heap) : Option ((List AV × List Trail) × Heap) :=
  bindE (drawM (some t6_54) H_78) fun t50_79 H_80 =>
  bindE (drawR true [t50_79.1] (fun F => mBin (cfg b) 25 true .eql t50_79.1 (AV.c (.int .i64 0)) F) H_80) fun t51_81 H_82 =>
  bindE (drawM (some t51_81.1) H_82) fun t52_83 H_84 =>
  bindE (guardD (wantR true t52_83.1) (drawM (some t10_60) H_84) H_84) fun t53_85 H_86 =>
  bindE (guardD (wantR true t52_83.1) (drawR true [t53_85.1] (fun F => mBin (cfg b) 25 true .eql t53_85.1 (AV.c (.int .i64 0)) F) H_86) H_86) fun t54_87 H_88 =>
  bindE (drawR true [t52_83.1, t54_87.1] (fun F => mPick t52_83.1 t54_87.1 (AV.c (.bool false)) F) H_88) fun t55_89 H_90 =>
  bindE (drawM (some t55_89.1) H_90) fun t56_91 H_92 =>
  bindE (guardD (wantR true t56_91.1) (drawM (some t44_66) H_92) H_92) fun t57_93 H_94 =>
  bindE (drawR true [t56_91.1, t57_93.1] (fun F => mPick t56_91.1 t57_93.1 (AV.c (.bool false)) F) H_94) fun t58_95 H_96 =>
  bindE (drawM (some t58_95.1) H_96) fun t59_97 H_98 =>
  bindE (guardD (wantR true t59_97.1) (drawM (some t49_76) H_98) H_98) fun t60_99 H_100 =>
  bindE (drawR true [t59_97.1, t60_99.1] (fun F => mPick t59_97.1 t60_99.1 (AV.c (.bool false)) F) H_100) fun t61_101 H_102 =>
  bindE (drawM (some t61_101.1) H_102) fun t62_103 H_104 =>
  bindE (guardD (wantR true t62_103.1) (drawR true [t9_58] (fun F => mLoad true 130 t9_58 F) H_104) H_104) fun t63_105 H_106 =>
  bindE (guardD (wantR true t62_103.1) (drawR true [t11_68] (fun F => mLoad true 130 t11_68 F) H_106) H_106) fun t64_107 H_108 =>
  bindE (guardD (wantR true t62_103.1) (drawR true [t63_105.1, t64_107.1] (fun F => mBin (cfg b) 80 false .eql t63_105.1 t64_107.1 F) H_108) H_108) fun t65_109 H_110 =>
  bindE (drawR true [t62_103.1, t65_109.1] (fun F => mPick t62_103.1 t65_109.1 (AV.c (.bool false)) F) H_110) fun t66_111 H_112 =>
  bindE (drawM (some t66_111.1) H_112) fun t67_113 H_114 =>
  bindE (guardD (wantR true t67_113.1) (drawM (some t48_74) H_114) H_114) fun t68_115 H_116 =>
  bindE (guardD (wantR true t67_113.1) (drawR false [t68_115.1] (fun F => cf 37 [t68_115.1] F) H_116) H_116) fun t69_117 H_118 =>
  bindE (guardD (wantR true t67_113.1) (drawR true [t9_58] (fun F => mFA 2 2 t9_58 F) H_118) H_118) fun t70_119 H_120 =>
  bindE (guardD (wantR true t67_113.1) (drawR true [t70_119.1] (fun F => mLoad true 32 t70_119.1 F) H_120) H_120) fun t71_121 H_122 =>
  bindE (guardD (wantR true t67_113.1) (drawR true [t69_117.1, t71_121.1] (fun F => mBin (cfg b) 41 false .eql t69_117.1 t71_121.1 F) H_122) H_122) fun t72_123 H_124 =>
  bindE (drawR true [t67_113.1, t72_123.1] (fun F => mPick t67_113.1 t72_123.1 (AV.c (.bool false)) F) H_124) fun t73_125 H_126 =>
  bindE (drawM (some t73_125.1) H_126) fun t74_127 H_128 =>
  bindE (guardD (wantR true t74_127.1) (drawM (some t48_74) H_128) H_128) fun t75_129 H_130 =>
  bindE (guardD (wantR true t74_127.1) (drawR false [t75_129.1] (fun F => cf 37 [t75_129.1] F) H_130) H_130) fun t76_131 H_132 =>
  bindE (guardD (wantR true t74_127.1) (drawM (some t7_56) H_132) H_132) fun t77_133 H_134 =>
  bindE (guardD (wantR true t74_127.1) (drawR false [t77_133.1] (fun F => cf 37 [t77_133.1] F) H_134) H_134) fun t78_135 H_136 =>
  bindE (guardD (wantR true t74_127.1) (drawR true [t76_131.1, t78_135.1] (fun F => mBin (cfg b) 41 false .eql t76_131.1 t78_135.1 F) H_136) H_136) fun t79_137 H_138 =>
  bindE (drawR true [t74_127.1, t79_137.1] (fun F => mPick t74_127.1 t79_137.1 (AV.c (.bool false)) F) H_138) fun t80_139 H_140 =>
  bindE (drawM (some t80_139.1) H_140) fun t4_141 H_142 =>
  some (([t4_141.1], [t50_79.2, t51_81.2, t52_83.2, t53_85.2, t54_87.2, t55_89.2, t56_91.2, t57_93.2, t58_95.2, t59_97.2, t60_99.2, t61_101.2, t62_103.2, t63_105.2, t64_107.2, t65_109.2, t66_111.2, t67_113.2, t68_115.2, t69_117.2, t70_119.2, t71_121.2, t72_123.2, t73_125.2, t74_127.2, t75_129.2, t76_131.2, t77_133.2, t78_135.2, t79_137.2, t80_139.2, t4_141.2]), H_142)
noncomputable def p17 (b : Bool) (cf : CallFn) (k : Nat) (t0 t1 : AV) (H : Heap) : Option (AV × Heap) :=
  bindE (cf 31 [] H) fun t15_0 H_1 =>
  bindE (mUn .not t15_0 H_1) fun t16_2 H_3 =>
  condR t16_2 (endQ (cfg b) false k (resC1 (some (AV.c (.bool false))) (some [])) H_3) (bindE (cf 56 [(AV.c (.int .u8 3)), (AV.c (.int .u64 100))] H_3) fun t18_4 H_5 =>
  bindE (mExtract 0 t18_4 H_5) fun t19_6 H_7 =>
  bindE (mExtract 1 t18_4 H_7) fun t20_8 H_9 =>
  bindE (cf 39 [t0, (AV.c (.int .i64 20))] H_9) fun t23_10 H_11 =>
  bindE (mExtract 0 t23_10 H_11) fun t24_12 H_13 =>
  bindE (mExtract 1 t23_10 H_13) fun t25_14 H_15 =>
  bindE (cf 52 [t19_6, t24_12] H_15) fun t29_16 H_17 =>
  bindE (mExtract 0 t29_16 H_17) fun t30_18 H_19 =>
  bindE (mExtract 1 t29_16 H_19) fun t31_20 H_21 =>
  bindE (mAlloc 80 (.agg [(.int .u64 0), (.int .u64 0), (.arr 32 .u8 (List.replicate 32 0)), (.arr 32 .u8 (List.replicate 32 0)), (.arr 32 .u8 (List.replicate 32 0)), (.arr 32 .u8 (List.replicate 32 0))]) H_21) fun t9_22 H_23 =>
  bindE (mStore true 130 t9_22 t30_18 H_23) fun u_24 H_25 =>
  bindE (mBin (cfg b) 5 true .rem t1 (AV.c (.int .u8 63)) H_25) fun t33_26 H_27 =>
  afterL 0 (loopX k (p17_l0 b cf k) [t19_6, t20_8, t24_12, t9_22, t31_20, t33_26, (AV.c (.int .u8 0))] H_27) (fun vs_50 H_51 =>
  un vs_50 fun t5_52 vs_53 => un vs_53 fun t6_54 vs_55 => un vs_55 fun t7_56 vs_57 => un vs_57 fun t9_58 vs_59 => un vs_59 fun t10_60 vs_61 => un0 vs_61 (bindE (cf 53 [t5_52, (AV.c (.int .u64 1))] H_51) fun t42_62 H_63 =>
  bindE (mExtract 0 t42_62 H_63) fun t43_64 H_65 =>
  bindE (mExtract 1 t42_62 H_65) fun t44_66 H_67 =>
  bindE (mAlloc 80 (.agg [(.int .u64 0), (.int .u64 0), (.arr 32 .u8 (List.replicate 32 0)), (.arr 32 .u8 (List.replicate 32 0)), (.arr 32 .u8 (List.replicate 32 0)), (.arr 32 .u8 (List.replicate 32 0))]) H_67) fun t11_68 H_69 =>
  bindE (mStore true 130 t11_68 t43_64 H_69) fun u_70 H_71 =>
  bindE (cf 54 [t5_52, (AV.c (.int .u64 1))] H_71) fun t47_72 H_73 =>
  bindE (mExtract 0 t47_72 H_73) fun t48_74 H_75 =>
  bindE (mExtract 1 t47_72 H_75) fun t49_76 H_77 =>
  afterD (twice [0, 1, 3, 7, 15, 31, 63, 127, 255, 511, 1023, 2047, 4095, 8191, 8191, 32767, 65535, 131071, 262143, 524287, 262143, 1310719, 4194303, 8388607, 16777215, 33554431, 67108863, 33554431, 268435455, 536870911, 1073741823, 2147483647] (p17_d0 b cf t6_54 t10_60 t44_66 t49_76 t9_58 t11_68 t48_74 t7_56) H_77) fun vs_143 H_144 =>
  un vs_143 fun t4_145 vs_146 => un0 vs_146 (endQ (cfg b) false k (resC1 (some t4_145) (some [])) H_144))) (fun vs_50 H_51 => un vs_50 fun t5_147 vs_148 => un vs_148 fun t6_149 vs_150 => un vs_150 fun t7_151 vs_152 => un vs_152 fun t9_153 vs_154 => un vs_154 fun t10_155 vs_156 => un0 vs_156 (endQ (cfg b) false k (resC1 (some AV.any) (some [])) H_51)))

theorem p17_eq (b : Bool) (cf : CallFn) (t0 t1 : AV) (H : Heap) : runG (cfg b) cf An 17 [t0, t1] H = p17 b cf H.length t0 t1 H := by kernel_rfl

end Go.Fm

