/-
  A part of the proof: DEpoch.
-/
import Derived.Test.YtjmjijgnbjkpnaaDoorDAnn
set_option linter.all false
set_option autoImplicit true
/-
  What the interpreter does to functions, without slots and types; the kernel holds it against the code.
-/
set_option maxRecDepth 100000
set_option linter.unusedVariables false
namespace Go.Fm
open Go Go.Proofs
/-- (*ferryman/epoch.Log).Commit -/
noncomputable def p25 (b : Bool) (cf : CallFn) (k : Nat) (t0 t1 : AV) (H : Heap) : Option (AV × Heap) :=
  bindE (mBin (cfg b) 24 true .eql t0 (AV.c .nilp) H) fun t7_0 H_1 =>
  bindE (guardR (wantR false t7_0) (some (t1, H_1)) H_1) fun t9_2 H_3 =>
  bindE (guardR (wantR false t7_0) (mBin (cfg b) 28 true .eql t9_2 (AV.c .nilp) H_3) H_3) fun t10_4 H_5 =>
  bindE (mPick t7_0 (AV.c (.bool true)) t10_4 H_5) fun t11_6 H_7 =>
  condR t11_6 (endQ (cfg b) false k (resC1 (some (AV.c (.int .u64 0))) (resC1 (some (AV.c (.int .i64 1))) (some []))) H_7) (bindE (mNil t0 H_7) fun t14_8 H_9 =>
  bindE (mFA 2 2 t14_8 H_9) fun t15_10 H_11 =>
  bindE (mLoad false 1 t15_10 H_11) fun t16_12 H_13 =>
  bindE (mBuildSl 28 1 .nilp 1 [(0, t1)] H_13) fun t18_14 H_15 =>
  bindE (mAppend 28 1 8 false t16_12 t18_14 H_15) fun t19_16 H_17 =>
  bindE (mNil t0 H_17) fun t20_18 H_19 =>
  bindE (mFA 2 2 t20_18 H_19) fun t21_20 H_21 =>
  bindE (mStore false 1 t21_20 t19_16 H_21) fun u_22 H_23 =>
  afterD (twice [0, 1, 3, 7, 15, 0, 32, 96, 224, 511] (fun H_24 => bindE (drawM (some t0) H_24) fun t22_25 H_26 =>
  bindE (drawR true [t22_25.1] (fun F => mNil t22_25.1 F) H_26) fun t23_27 H_28 =>
  bindE (drawR true [t23_27.1] (fun F => mFA 2 2 t23_27.1 F) H_28) fun t24_29 H_30 =>
  bindE (drawR true [t24_29.1] (fun F => mLoad false 1 t24_29.1 F) H_30) fun t25_31 H_32 =>
  bindE (drawR true [t25_31.1] (fun F => mLenSl t25_31.1 F) H_32) fun t26_33 H_34 =>
  bindE (drawM (some t0) H_34) fun t27_35 H_36 =>
  bindE (drawR true [t27_35.1] (fun F => mNil t27_35.1 F) H_36) fun t28_37 H_38 =>
  bindE (drawR true [t28_37.1] (fun F => mFA 0 0 t28_37.1 F) H_38) fun t29_39 H_40 =>
  bindE (drawR true [t29_39.1] (fun F => mLoad false 1 t29_39.1 F) H_40) fun t30_41 H_42 =>
  bindE (drawR true [t26_33.1, t30_41.1] (fun F => mBin (cfg b) 3 false .gtr t26_33.1 t30_41.1 F) H_42) fun t31_43 H_44 =>
  some (([t31_43.1], [t22_25.2, t23_27.2, t24_29.2, t25_31.2, t26_33.2, t27_35.2, t28_37.2, t29_39.2, t30_41.2, t31_43.2]), H_44)) H_23) fun vs_45 H_46 =>
  un vs_45 fun t31_47 vs_48 => un0 vs_48 (condR t31_47 (bindE (mBuildSl 28 1 .nilp 0 [] H_46) fun t33_49 H_50 =>
  bindE (mNil t0 H_50) fun t35_51 H_52 =>
  bindE (mFA 2 2 t35_51 H_52) fun t36_53 H_54 =>
  bindE (mLoad false 1 t36_53 H_54) fun t37_55 H_56 =>
  bindE (mSliceSl 1 t37_55 (some (AV.c (.int .i64 1))) none H_56) fun t38_57 H_58 =>
  bindE (mAppend 28 1 8 false t33_49 t38_57 H_58) fun t39_59 H_60 =>
  bindE (mNil t0 H_60) fun t40_61 H_62 =>
  bindE (mFA 2 2 t40_61 H_62) fun t41_63 H_64 =>
  bindE (mStore false 1 t41_63 t39_59 H_64) fun u_65 H_66 =>
  bindE (mNil t0 H_66) fun t43_67 H_68 =>
  bindE (mFA 1 1 t43_67 H_68) fun t44_69 H_70 =>
  bindE (mLoad false 1 t44_69 H_70) fun t45_71 H_72 =>
  bindE (mBin (cfg b) 22 true .add t45_71 (AV.c (.int .u64 1)) H_72) fun t46_73 H_74 =>
  bindE (mNil t0 H_74) fun t47_75 H_76 =>
  bindE (mFA 1 1 t47_75 H_76) fun t48_77 H_78 =>
  bindE (mStore false 1 t48_77 t46_73 H_78) fun u_79 H_80 =>
  bindE (cf 29 [t0] H_80) fun t50_81 H_82 =>
  endQ (cfg b) false k (resC1 (some t50_81) (resC1 (some (AV.c (.int .i64 0))) (some []))) H_82) (bindE (cf 29 [t0] H_46) fun t50_83 H_84 =>
  endQ (cfg b) false k (resC1 (some t50_83) (resC1 (some (AV.c (.int .i64 0))) (some []))) H_84)))
/-- ferryman/tree.New -/
noncomputable def p26 (b : Bool) (cf : CallFn) (k : Nat) (H : Heap) : Option (AV × Heap) :=
  bindE (mBuildS [.nilp] [] H) fun t1_0 H_1 =>
  bindE (mBox 140 t1_0 H_1) fun t2_2 H_3 =>
  endQ (cfg b) false k (resC1 (some t2_2) (some [])) H_3
/-- (*ferryman/epoch.Log).At -/
noncomputable def p27 (b : Bool) (cf : CallFn) (k : Nat) (t0 t1 : AV) (H : Heap) : Option (AV × Heap) :=
  bindE (mBin (cfg b) 24 true .eql t0 (AV.c .nilp) H) fun t8_0 H_1 =>
  condR t8_0 (endQ (cfg b) false k (resC1 (some (AV.c .nilp)) (resC1 (some (AV.c (.int .i64 1))) (some []))) H_1) (afterD (twice [0, 0, 2, 6, 14, 31, 63, 127, 127, 383, 895, 1919, 4095, 127, 8319, 24703, 57471, 123007, 254079, 524287, 1048575, 2097151] (fun H_2 => bindE (drawM (some t1) H_2) fun t10_3 H_4 =>
  bindE (drawM (some t0) H_4) fun t11_5 H_6 =>
  bindE (drawR true [t11_5.1] (fun F => mNil t11_5.1 F) H_6) fun t12_7 H_8 =>
  bindE (drawR true [t12_7.1] (fun F => mFA 1 1 t12_7.1 F) H_8) fun t13_9 H_10 =>
  bindE (drawR true [t13_9.1] (fun F => mLoad false 1 t13_9.1 F) H_10) fun t14_11 H_12 =>
  bindE (drawR true [t10_3.1, t14_11.1] (fun F => mBin (cfg b) 22 false .lss t10_3.1 t14_11.1 F) H_12) fun t15_13 H_14 =>
  bindE (drawM (some t15_13.1) H_14) fun t16_15 H_16 =>
  bindE (guardD (wantR false t16_15.1) (drawM (some t1) H_16) H_16) fun t17_17 H_18 =>
  bindE (guardD (wantR false t16_15.1) (drawM (some t0) H_18) H_18) fun t18_19 H_20 =>
  bindE (guardD (wantR false t16_15.1) (drawR true [t18_19.1] (fun F => mNil t18_19.1 F) H_20) H_20) fun t19_21 H_22 =>
  bindE (guardD (wantR false t16_15.1) (drawR true [t19_21.1] (fun F => mFA 1 1 t19_21.1 F) H_22) H_22) fun t20_23 H_24 =>
  bindE (guardD (wantR false t16_15.1) (drawR true [t20_23.1] (fun F => mLoad false 1 t20_23.1 F) H_24) H_24) fun t21_25 H_26 =>
  bindE (guardD (wantR false t16_15.1) (drawR true [t17_17.1, t21_25.1] (fun F => mBin (cfg b) 22 false .sub t17_17.1 t21_25.1 F) H_26) H_26) fun t22_27 H_28 =>
  bindE (guardD (wantR false t16_15.1) (drawM (some t0) H_28) H_28) fun t23_29 H_30 =>
  bindE (guardD (wantR false t16_15.1) (drawR true [t23_29.1] (fun F => mNil t23_29.1 F) H_30) H_30) fun t24_31 H_32 =>
  bindE (guardD (wantR false t16_15.1) (drawR true [t24_31.1] (fun F => mFA 2 2 t24_31.1 F) H_32) H_32) fun t25_33 H_34 =>
  bindE (guardD (wantR false t16_15.1) (drawR true [t25_33.1] (fun F => mLoad false 1 t25_33.1 F) H_34) H_34) fun t26_35 H_36 =>
  bindE (guardD (wantR false t16_15.1) (drawR true [t26_35.1] (fun F => mLenSl t26_35.1 F) H_36) H_36) fun t27_37 H_38 =>
  bindE (guardD (wantR false t16_15.1) (drawR true [t27_37.1] (fun F => mConvI .u64 t27_37.1 F) H_38) H_38) fun t28_39 H_40 =>
  bindE (guardD (wantR false t16_15.1) (drawR true [t22_27.1, t28_39.1] (fun F => mBin (cfg b) 22 false .geq t22_27.1 t28_39.1 F) H_40) H_40) fun t29_41 H_42 =>
  bindE (drawR true [t16_15.1, t29_41.1] (fun F => mPick t16_15.1 (AV.c (.bool true)) t29_41.1 F) H_42) fun t30_43 H_44 =>
  bindE (drawM (some t30_43.1) H_44) fun t9_45 H_46 =>
  some (([t9_45.1], [t10_3.2, t11_5.2, t12_7.2, t13_9.2, t14_11.2, t15_13.2, t16_15.2, t17_17.2, t18_19.2, t19_21.2, t20_23.2, t21_25.2, t22_27.2, t23_29.2, t24_31.2, t25_33.2, t26_35.2, t27_37.2, t28_39.2, t29_41.2, t30_43.2, t9_45.2]), H_46)) H_1) fun vs_47 H_48 =>
  un vs_47 fun t9_49 vs_50 => un0 vs_50 (condR t9_49 (endQ (cfg b) false k (resC1 (some (AV.c .nilp)) (resC1 (some (AV.c (.int .i64 11))) (some []))) H_48) (afterD (twice [0, 1, 3, 7, 0, 0, 32, 96, 224, 496, 1023, 2047, 4095, 8191] (fun H_51 => bindE (drawM (some t0) H_51) fun t31_52 H_53 =>
  bindE (drawR true [t31_52.1] (fun F => mNil t31_52.1 F) H_53) fun t32_54 H_55 =>
  bindE (drawR true [t32_54.1] (fun F => mFA 2 2 t32_54.1 F) H_55) fun t33_56 H_57 =>
  bindE (drawR true [t33_56.1] (fun F => mLoad false 1 t33_56.1 F) H_57) fun t34_58 H_59 =>
  bindE (drawM (some t1) H_59) fun t35_60 H_61 =>
  bindE (drawM (some t0) H_61) fun t36_62 H_63 =>
  bindE (drawR true [t36_62.1] (fun F => mNil t36_62.1 F) H_63) fun t37_64 H_65 =>
  bindE (drawR true [t37_64.1] (fun F => mFA 1 1 t37_64.1 F) H_65) fun t38_66 H_67 =>
  bindE (drawR true [t38_66.1] (fun F => mLoad false 1 t38_66.1 F) H_67) fun t39_68 H_69 =>
  bindE (drawR true [t35_60.1, t39_68.1] (fun F => mBin (cfg b) 22 false .sub t35_60.1 t39_68.1 F) H_69) fun t40_70 H_71 =>
  bindE (drawR true [t34_58.1, t40_70.1] (fun F => mIdxS 1 t34_58.1 t40_70.1 F) H_71) fun t41_72 H_73 =>
  bindE (drawR true [t41_72.1] (fun F => mLoad false 1 t41_72.1 F) H_73) fun t42_74 H_75 =>
  bindE (drawM (some t42_74.1) H_75) fun t4_76 H_77 =>
  bindE (drawM (some (AV.c (.int .i64 0))) H_77) fun t5_78 H_79 =>
  some (([t4_76.1, t5_78.1], [t31_52.2, t32_54.2, t33_56.2, t34_58.2, t35_60.2, t36_62.2, t37_64.2, t38_66.2, t39_68.2, t40_70.2, t41_72.2, t42_74.2, t4_76.2, t5_78.2]), H_79)) H_48) fun vs_80 H_81 =>
  un vs_80 fun t4_82 vs_83 => un vs_83 fun t5_84 vs_85 => un0 vs_85 (endQ (cfg b) false k (resC1 (some t4_82) (resC1 (some t5_84) (some []))) H_81))))
/-- ferryman/epoch.New -/
noncomputable def p28 (b : Bool) (cf : CallFn) (k : Nat) (t0 : AV) (H : Heap) : Option (AV × Heap) :=
  bindE (mBin (cfg b) 3 true .lss t0 (AV.c (.int .i64 1)) H) fun t5_0 H_1 =>
  bindE (guardR (wantR false t5_0) (some (t0, H_1)) H_1) fun t7_2 H_3 =>
  bindE (guardR (wantR false t5_0) (mBin (cfg b) 3 true .gtr t7_2 (AV.c (.int .i64 64)) H_3) H_3) fun t8_4 H_5 =>
  bindE (mPick t5_0 (AV.c (.bool true)) t8_4 H_5) fun t9_6 H_7 =>
  condR t9_6 (endQ (cfg b) false k (resC1 (some (AV.c .nilp)) (resC1 (some (AV.c (.int .i64 2))) (some []))) H_7) (bindE (mBuildS [(.int .i64 0), (.int .u64 0), .nilsl] [(0, t0), (1, (AV.c (.int .u64 1)))] H_7) fun t11_8 H_9 =>
  bindE (mBox 137 t11_8 H_9) fun t12_10 H_11 =>
  endQ (cfg b) false k (resC1 (some t12_10) (resC1 (some (AV.c (.int .i64 0))) (some []))) H_11)
/-- (*ferryman/epoch.Log).Last -/
noncomputable def p29 (b : Bool) (cf : CallFn) (k : Nat) (t0 : AV) (H : Heap) : Option (AV × Heap) :=
  bindE (mBin (cfg b) 24 true .eql t0 (AV.c .nilp) H) fun t4_0 H_1 =>
  condR t4_0 (endQ (cfg b) false k (resC1 (some (AV.c (.int .u64 0))) (some [])) H_1) (afterD (twice [0, 1, 3, 7, 0, 16, 48, 112, 240, 496, 1023, 2047, 4095] (fun H_2 => bindE (drawM (some t0) H_2) fun t5_3 H_4 =>
  bindE (drawR true [t5_3.1] (fun F => mNil t5_3.1 F) H_4) fun t6_5 H_6 =>
  bindE (drawR true [t6_5.1] (fun F => mFA 1 1 t6_5.1 F) H_6) fun t7_7 H_8 =>
  bindE (drawR true [t7_7.1] (fun F => mLoad false 1 t7_7.1 F) H_8) fun t8_9 H_10 =>
  bindE (drawM (some t0) H_10) fun t9_11 H_12 =>
  bindE (drawR true [t9_11.1] (fun F => mNil t9_11.1 F) H_12) fun t10_13 H_14 =>
  bindE (drawR true [t10_13.1] (fun F => mFA 2 2 t10_13.1 F) H_14) fun t11_15 H_16 =>
  bindE (drawR true [t11_15.1] (fun F => mLoad false 1 t11_15.1 F) H_16) fun t12_17 H_18 =>
  bindE (drawR true [t12_17.1] (fun F => mLenSl t12_17.1 F) H_18) fun t13_19 H_20 =>
  bindE (drawR true [t13_19.1] (fun F => mConvI .u64 t13_19.1 F) H_20) fun t14_21 H_22 =>
  bindE (drawR true [t8_9.1, t14_21.1] (fun F => mBin (cfg b) 22 false .add t8_9.1 t14_21.1 F) H_22) fun t15_23 H_24 =>
  bindE (drawR true [t15_23.1] (fun F => mBin (cfg b) 22 true .sub t15_23.1 (AV.c (.int .u64 1)) F) H_24) fun t16_25 H_26 =>
  bindE (drawM (some t16_25.1) H_26) fun t2_27 H_28 =>
  some (([t2_27.1], [t5_3.2, t6_5.2, t7_7.2, t8_9.2, t9_11.2, t10_13.2, t11_15.2, t12_17.2, t13_19.2, t14_21.2, t15_23.2, t16_25.2, t2_27.2]), H_28)) H_1) fun vs_29 H_30 =>
  un vs_29 fun t2_31 vs_32 => un0 vs_32 (endQ (cfg b) false k (resC1 (some t2_31) (some [])) H_30))
/-- (*ferryman/tree.Tree).Root -/
noncomputable def p37 (b : Bool) (cf : CallFn) (k : Nat) (t0 : AV) (H : Heap) : Option (AV × Heap) :=
  bindE (mAlloc 41 (.arr 32 .u8 (List.replicate 32 0)) H) fun t2_0 H_1 =>
  bindE (mBin (cfg b) 28 true .eql t0 (AV.c .nilp) H_1) fun t4_2 H_3 =>
  bindE (guardR (wantR false t4_2) (some (t0, H_3)) H_3) fun t6_4 H_5 =>
  bindE (guardR (wantR false t4_2) (mNil t6_4 H_5) H_5) fun t7_6 H_7 =>
  bindE (guardR (wantR false t4_2) (mFA 0 0 t7_6 H_7) H_7) fun t8_8 H_9 =>
  bindE (guardR (wantR false t4_2) (mLoad false 1 t8_8 H_9) H_9) fun t9_10 H_11 =>
  bindE (guardR (wantR false t4_2) (mBin (cfg b) 138 true .eql t9_10 (AV.c .nilp) H_11) H_11) fun t10_12 H_13 =>
  bindE (mPick t4_2 (AV.c (.bool true)) t10_12 H_13) fun t11_14 H_15 =>
  condR t11_14 (bindE (cf 62 [] H_15) fun t12_16 H_17 =>
  bindE (mStore true 32 t2_0 t12_16 H_17) fun u_18 H_19 =>
  endQ (cfg b) false k (resC1 (mld true 32 H_19 t2_0) (some [])) H_19) (bindE (mNil t0 H_15) fun t14_20 H_21 =>
  bindE (mFA 0 0 t14_20 H_21) fun t15_22 H_23 =>
  bindE (mLoad false 1 t15_22 H_23) fun t16_24 H_25 =>
  bindE (mNil t16_24 H_25) fun t17_26 H_27 =>
  bindE (mFA 1 68 t17_26 H_27) fun t18_28 H_29 =>
  bindE (mLoad true 32 t18_28 H_29) fun t19_30 H_31 =>
  bindE (mStore true 32 t2_0 t19_30 H_31) fun u_32 H_33 =>
  endQ (cfg b) false k (resC1 (mld true 32 H_33 t2_0) (some [])) H_33)
/-- ferryman/tree.Empty -/
noncomputable def p62 (b : Bool) (cf : CallFn) (k : Nat) (H : Heap) : Option (AV × Heap) :=
  bindE (mAlloc 41 (.arr 32 .u8 (List.replicate 32 0)) H) fun t0_0 H_1 =>
  bindE (mBuildSl 38 1 .nilsl 1 [(0, (AV.c .nilsl))] H_1) fun t1_2 H_3 =>
  bindE (cf 88 [t1_2] H_3) fun t2_4 H_5 =>
  bindE (mStore true 32 t0_0 t2_4 H_5) fun u_6 H_7 =>
  endQ (cfg b) false k (resC1 (mld true 32 H_7 t0_0) (some [])) H_7
theorem p25_eq (b : Bool) (cf : CallFn) (t0 t1 : AV) (H : Heap) : runG (cfg b) cf An 25 [t0, t1] H = p25 b cf H.length t0 t1 H := by kernel_rfl
theorem p26_eq (b : Bool) (cf : CallFn) (H : Heap) : runG (cfg b) cf An 26 [] H = p26 b cf H.length  H := by kernel_rfl
theorem p27_eq (b : Bool) (cf : CallFn) (t0 t1 : AV) (H : Heap) : runG (cfg b) cf An 27 [t0, t1] H = p27 b cf H.length t0 t1 H := by kernel_rfl
theorem p28_eq (b : Bool) (cf : CallFn) (t0 : AV) (H : Heap) : runG (cfg b) cf An 28 [t0] H = p28 b cf H.length t0 H := by kernel_rfl
theorem p29_eq (b : Bool) (cf : CallFn) (t0 : AV) (H : Heap) : runG (cfg b) cf An 29 [t0] H = p29 b cf H.length t0 H := by kernel_rfl
theorem p37_eq (b : Bool) (cf : CallFn) (t0 : AV) (H : Heap) : runG (cfg b) cf An 37 [t0] H = p37 b cf H.length t0 H := by kernel_rfl
theorem p62_eq (b : Bool) (cf : CallFn) (H : Heap) : runG (cfg b) cf An 62 [] H = p62 b cf H.length  H := by kernel_rfl
end Go.Fm
