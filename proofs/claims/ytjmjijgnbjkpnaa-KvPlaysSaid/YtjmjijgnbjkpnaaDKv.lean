/-
  A part of the proof: DKv.
-/
import Derived.Test.YtjmjijgnbjkpnaaDAnn
set_option linter.all false
set_option autoImplicit true
/-
  What the interpreter does to functions, without slots and types; the kernel holds it against the code.
-/
set_option maxRecDepth 100000
set_option linter.unusedVariables false
namespace Go.Fm
open Go Go.Proofs
/-- ferryman/kv.New -/
noncomputable def p14 (b : Bool) (cf : CallFn) (k : Nat) (H : Heap) : Option (AV × Heap) :=
  bindE (mBuildS [.nilsl] [] H) fun t1_0 H_1 =>
  bindE (mBox 82 t1_0 H_1) fun t2_2 H_3 =>
  endQ (cfg b) false k (resC1 (some t2_2) (some [])) H_3
/-- (*ferryman/kv.Store).Put -/
noncomputable def p17_d0 (b : Bool) (cf : CallFn) (t0 t35_30 t7_24 : AV) (H_34 : Heap) : Option ((List AV × List Trail) × Heap) :=
  bindE (drawM (some t0) H_34) fun t38_35 H_36 =>
  bindE (drawR true [t38_35.1] (fun F => mNil t38_35.1 F) H_36) fun t39_37 H_38 =>
  bindE (drawR true [t39_37.1] (fun F => mFA 0 0 t39_37.1 F) H_38) fun t40_39 H_40 =>
  bindE (drawR true [t40_39.1] (fun F => mLoad false 1 t40_39.1 F) H_40) fun t41_41 H_42 =>
  bindE (drawM (some t35_30) H_42) fun t42_43 H_44 =>
  bindE (drawR true [t7_24] (fun F => mLoad true 2 t7_24 F) H_44) fun t43_45 H_46 =>
  bindE (drawR true [t41_41.1, t42_43.1] (fun F => mIdxS 2 t41_41.1 t42_43.1 F) H_46) fun t44_47 H_48 =>
  bindE (drawR false [t44_47.1, t43_45.1] (fun F => mStore true 2 t44_47.1 t43_45.1 F) H_48) fun u_49 H_50 =>
  some (([], [t38_35.2, t39_37.2, t40_39.2, t41_41.2, t42_43.2, t43_45.2, t44_47.2, u_49.2]), H_50)
noncomputable def p17_d1 (b : Bool) (cf : CallFn) (t0 t35_30 t7_24 : AV) (H_53 : Heap) : Option ((List AV × List Trail) × Heap) :=
  bindE (drawM (some t0) H_53) fun t45_54 H_55 =>
  bindE (drawM (some t0) H_55) fun t46_56 H_57 =>
  bindE (drawR true [t46_56.1] (fun F => mNil t46_56.1 F) H_57) fun t47_58 H_59 =>
  bindE (drawR true [t47_58.1] (fun F => mFA 0 0 t47_58.1 F) H_59) fun t48_60 H_61 =>
  bindE (drawR true [t48_60.1] (fun F => mLoad false 1 t48_60.1 F) H_61) fun t49_62 H_63 =>
  bindE (drawM (some t35_30) H_63) fun t50_64 H_65 =>
  bindE (drawR true [t7_24] (fun F => mLoad true 2 t7_24 F) H_65) fun t51_66 H_67 =>
  bindE (drawR false [t51_66.1] (fun F => mBuildSl 59 2 (.agg [.nilsl, .nilsl]) 1 [(0, t51_66.1)] F) H_67) fun t52_68 H_69 =>
  bindE (drawR false [t49_62.1, t50_64.1, t52_68.1] (fun F => cf 37 [t49_62.1, t50_64.1, t52_68.1] F) H_69) fun t53_70 H_71 =>
  bindE (drawR true [t45_54.1] (fun F => mNil t45_54.1 F) H_71) fun t54_72 H_73 =>
  bindE (drawR true [t54_72.1] (fun F => mFA 0 0 t54_72.1 F) H_73) fun t55_74 H_75 =>
  bindE (drawR false [t55_74.1, t53_70.1] (fun F => mStore false 1 t55_74.1 t53_70.1 F) H_75) fun u_76 H_77 =>
  some (([], [t45_54.2, t46_56.2, t47_58.2, t48_60.2, t49_62.2, t50_64.2, t51_66.2, t52_68.2, t53_70.2, t54_72.2, t55_74.2, u_76.2]), H_77)
noncomputable def p17 (b : Bool) (cf : CallFn) (k : Nat) (t0 t1 t2 : AV) (H : Heap) : Option (AV × Heap) :=
  bindE (mBin (cfg b) 45 true .eql t0 (AV.c .nilp) H) fun t12_0 H_1 =>
  condR t12_0 (endQ (cfg b) false k (resC1 (some (AV.c (.int .i64 1))) (some [])) H_1) (bindE (mLenSl t1 H_1) fun t15_2 H_3 =>
  bindE (mBin (cfg b) 3 true .eql t15_2 (AV.c (.int .i64 0)) H_3) fun t16_4 H_5 =>
  bindE (guardR (wantR false t16_4) (some (t1, H_5)) H_5) fun t18_6 H_7 =>
  bindE (guardR (wantR false t16_4) (mLenSl t18_6 H_7) H_7) fun t19_8 H_9 =>
  bindE (guardR (wantR false t16_4) (mBin (cfg b) 3 true .gtr t19_8 (AV.c (.int .i64 96)) H_9) H_9) fun t20_10 H_11 =>
  bindE (mPick t16_4 (AV.c (.bool true)) t20_10 H_11) fun t21_12 H_13 =>
  condR t21_12 (endQ (cfg b) false k (resC1 (some (AV.c (.int .i64 10))) (some [])) H_13) (bindE (mLenSl t2 H_13) fun t24_14 H_15 =>
  bindE (mBin (cfg b) 3 true .gtr t24_14 (AV.c (.int .i64 256)) H_15) fun t25_16 H_17 =>
  condR t25_16 (endQ (cfg b) false k (resC1 (some (AV.c (.int .i64 3))) (some [])) H_17) (bindE (cf 35 [t1] H_17) fun t27_18 H_19 =>
  bindE (cf 35 [t2] H_19) fun t29_20 H_21 =>
  bindE (mBuildS [.nilsl, .nilsl] [(0, t27_18), (1, t29_20)] H_21) fun t30_22 H_23 =>
  bindE (mAlloc 59 (.agg [.nilsl, .nilsl]) H_23) fun t7_24 H_25 =>
  bindE (mStore true 2 t7_24 t30_22 H_25) fun u_26 H_27 =>
  bindE (cf 36 [t0, t1] H_27) fun t34_28 H_29 =>
  bindE (mExtract 0 t34_28 H_29) fun t35_30 H_31 =>
  bindE (mExtract 1 t34_28 H_31) fun t36_32 H_33 =>
  condR t36_32 (afterD (twice [0, 1, 3, 7, 0, 0, 63, 127] (p17_d0 b cf t0 t35_30 t7_24) H_33) fun vs_51 H_52 =>
  un0 vs_51 (endQ (cfg b) false k (resC1 (some (AV.c (.int .i64 0))) (some [])) H_52)) (afterD (twice [0, 0, 2, 6, 14, 0, 0, 64, 254, 511, 1023, 2047] (p17_d1 b cf t0 t35_30 t7_24) H_33) fun vs_78 H_79 =>
  un0 vs_78 (endQ (cfg b) false k (resC1 (some (AV.c (.int .i64 0))) (some [])) H_79)))))
/-- (*ferryman/kv.Store).Cut -/
noncomputable def p18 (b : Bool) (cf : CallFn) (k : Nat) (t0 t1 : AV) (H : Heap) : Option (AV × Heap) :=
  bindE (mBin (cfg b) 45 true .eql t0 (AV.c .nilp) H) fun t8_0 H_1 =>
  condR t8_0 (endQ (cfg b) false k (resC1 (some (AV.c (.bool false))) (some [])) H_1) (bindE (cf 36 [t0, t1] H_1) fun t12_2 H_3 =>
  bindE (mExtract 0 t12_2 H_3) fun t13_4 H_5 =>
  bindE (mExtract 1 t12_2 H_5) fun t14_6 H_7 =>
  condR t14_6 (bindE (mNil t0 H_7) fun t18_8 H_9 =>
  bindE (mFA 0 0 t18_8 H_9) fun t19_10 H_11 =>
  bindE (mLoad false 1 t19_10 H_11) fun t20_12 H_13 =>
  bindE (mBin (cfg b) 3 true .add t13_4 (AV.c (.int .i64 1)) H_13) fun t23_14 H_15 =>
  bindE (cf 38 [t20_12, t13_4, t23_14] H_15) fun t24_16 H_17 =>
  bindE (mNil t0 H_17) fun t25_18 H_19 =>
  bindE (mFA 0 0 t25_18 H_19) fun t26_20 H_21 =>
  bindE (mStore false 1 t26_20 t24_16 H_21) fun u_22 H_23 =>
  endQ (cfg b) false k (resC1 (some t14_6) (some [])) H_23) (endQ (cfg b) false k (resC1 (some t14_6) (some [])) H_7))
/-- (*ferryman/kv.Store).Get -/
noncomputable def p21 (b : Bool) (cf : CallFn) (k : Nat) (t0 t1 : AV) (H : Heap) : Option (AV × Heap) :=
  bindE (mBin (cfg b) 45 true .eql t0 (AV.c .nilp) H) fun t9_0 H_1 =>
  condR t9_0 (endQ (cfg b) false k (resC1 (some (AV.c .nilsl)) (resC1 (some (AV.c (.bool false))) (some []))) H_1) (bindE (cf 36 [t0, t1] H_1) fun t13_2 H_3 =>
  bindE (mExtract 0 t13_2 H_3) fun t14_4 H_5 =>
  bindE (mExtract 1 t13_2 H_5) fun t15_6 H_7 =>
  bindE (mUn .not t15_6 H_7) fun t17_8 H_9 =>
  condR t17_8 (endQ (cfg b) false k (resC1 (some (AV.c .nilsl)) (resC1 (some (AV.c (.bool false))) (some []))) H_9) (bindE (mNil t0 H_9) fun t19_10 H_11 =>
  bindE (mFA 0 0 t19_10 H_11) fun t20_12 H_13 =>
  bindE (mLoad false 1 t20_12 H_13) fun t21_14 H_15 =>
  bindE (mIdxS 2 t21_14 t14_4 H_15) fun t23_16 H_17 =>
  bindE (mFA 1 1 t23_16 H_17) fun t24_18 H_19 =>
  bindE (mLoad false 1 t24_18 H_19) fun t25_20 H_21 =>
  bindE (cf 35 [t25_20] H_21) fun t26_22 H_23 =>
  endQ (cfg b) false k (resC1 (some t26_22) (resC1 (some (AV.c (.bool true))) (some []))) H_23))
noncomputable def p23_l0_d0 (b : Bool) (cf : CallFn) (t5_12 t7_26 : AV) (H_36 : Heap) : Option ((List AV × List Trail) × Heap) :=
  bindE (drawM (some t5_12) H_36) fun t23_37 H_38 =>
  bindE (drawR true [t7_26] (fun F => mFA 0 0 t7_26 F) H_38) fun t24_39 H_40 =>
  bindE (drawR true [t24_39.1] (fun F => mLoad false 1 t24_39.1 F) H_40) fun t25_41 H_42 =>
  bindE (drawR false [t25_41.1] (fun F => cf 35 [t25_41.1] F) H_42) fun t26_43 H_44 =>
  bindE (drawR true [t7_26] (fun F => mFA 1 1 t7_26 F) H_44) fun t27_45 H_46 =>
  bindE (drawR true [t27_45.1] (fun F => mLoad false 1 t27_45.1 F) H_46) fun t28_47 H_48 =>
  bindE (drawR false [t28_47.1] (fun F => cf 35 [t28_47.1] F) H_48) fun t29_49 H_50 =>
  bindE (drawR false [t26_43.1, t29_49.1] (fun F => mBuildS [.nilsl, .nilsl] [(0, t26_43.1), (1, t29_49.1)] F) H_50) fun t30_51 H_52 =>
  bindE (drawR false [t30_51.1] (fun F => mBuildSl 59 2 (.agg [.nilsl, .nilsl]) 1 [(0, t30_51.1)] F) H_52) fun t31_53 H_54 =>
  bindE (drawR false [t23_37.1, t31_53.1] (fun F => mAppend 59 2 48 false t23_37.1 t31_53.1 F) H_54) fun t32_55 H_56 =>
  bindE (drawM (some t32_55.1) H_56) fun t5_57 H_58 =>
  some (([t5_57.1], [t23_37.2, t24_39.2, t25_41.2, t26_43.2, t27_45.2, t28_47.2, t29_49.2, t30_51.2, t31_53.2, t32_55.2, t5_57.2]), H_58)
noncomputable def p23_l0 (b : Bool) (cf : CallFn) (k : Nat) (s : List AV) (H : Heap) : Option (LStep × Heap) :=
  un s fun t1_10 vs_11 => un vs_11 fun t5_12 vs_13 => un vs_13 fun t13_14 vs_15 => un vs_15 fun t14_16 vs_17 => un vs_17 fun t15_18 vs_19 => un0 vs_19 (bindE (mBin (cfg b) 3 false .lss t15_18 t14_16 H) fun t16_20 H_21 =>
  condR t16_20 (bindE (mIdxS 2 t13_14 t15_18 H_21) fun t17_22 H_23 =>
  bindE (mLoad true 2 t17_22 H_23) fun t18_24 H_25 =>
  bindE (mAlloc 59 (.agg [.nilsl, .nilsl]) H_25) fun t7_26 H_27 =>
  bindE (mStore true 2 t7_26 t18_24 H_27) fun u_28 H_29 =>
  bindE (mFA 0 0 t7_26 H_29) fun t19_30 H_31 =>
  bindE (mLoad false 1 t19_30 H_31) fun t20_32 H_33 =>
  bindE (cf 39 [t20_32, t1_10] H_33) fun t22_34 H_35 =>
  condR t22_34 (afterD (twice [0, 0, 2, 6, 0, 16, 62, 126, 254, 511, 1023] (p23_l0_d0 b cf t5_12 t7_26) H_35) fun vs_59 H_60 =>
  un vs_59 fun t5_61 vs_62 => un0 vs_62 (bindE (mBin (cfg b) 3 true .add t15_18 (AV.c (.int .i64 1)) H_60) fun t33_63 H_64 =>
  some (LStep.cont [t1_10, t5_61, t13_14, t14_16, t33_63], H_64))) (bindE (mBin (cfg b) 3 true .add t15_18 (AV.c (.int .i64 1)) H_35) fun t33_65 H_66 =>
  some (LStep.cont [t1_10, t5_12, t13_14, t14_16, t33_65], H_66))) (some (LStep.exit 0 [t5_12], H_21)))
/-- (*ferryman/kv.Store).List -/
noncomputable def p23 (b : Bool) (cf : CallFn) (k : Nat) (t0 t1 : AV) (H : Heap) : Option (AV × Heap) :=
  bindE (mBin (cfg b) 45 true .eql t0 (AV.c .nilp) H) fun t9_0 H_1 =>
  condR t9_0 (endQ (cfg b) false k (resC1 (some (AV.c .nilsl)) (some [])) H_1) (bindE (mNil t0 H_1) fun t11_2 H_3 =>
  bindE (mFA 0 0 t11_2 H_3) fun t12_4 H_5 =>
  bindE (mLoad false 1 t12_4 H_5) fun t13_6 H_7 =>
  bindE (mLenSl t13_6 H_7) fun t14_8 H_9 =>
  afterL 0 (loopX k (p23_l0 b cf k) [t1, (AV.c .nilsl), t13_6, t14_8, (AV.c (.int .i64 0))] H_9) (fun vs_67 H_68 =>
  un vs_67 fun t5_69 vs_70 => un0 vs_70 (endQ (cfg b) false k (resC1 (some t5_69) (some [])) H_68)) (fun vs_67 H_68 => un vs_67 fun t5_71 vs_72 => un0 vs_72 (endQ (cfg b) false k (resC1 (some AV.any) (some [])) H_68)))
/-- (*ferryman/kv.Store).find -/
noncomputable def p36 (b : Bool) (cf : CallFn) (k : Nat) (t0 t1 : AV) (H : Heap) : Option (AV × Heap) :=
  bindE (mNil t0 H) fun t7_0 H_1 =>
  bindE (mFA 0 0 t7_0 H_1) fun t8_2 H_3 =>
  bindE (mLoad false 1 t8_2 H_3) fun t9_4 H_5 =>
  bindE (cf 43 [t9_4, t1, (AV.c (.fn 44))] H_5) fun t11_6 H_7 =>
  bindE (mExtract 0 t11_6 H_7) fun t12_8 H_9 =>
  bindE (mExtract 1 t11_6 H_9) fun t13_10 H_11 =>
  endQ (cfg b) false k (resC1 (some t12_8) (resC1 (some t13_10) (some []))) H_11
/-- bytes.HasPrefix -/
noncomputable def p39 (b : Bool) (cf : CallFn) (k : Nat) (t0 t1 : AV) (H : Heap) : Option (AV × Heap) :=
  bindE (mLenSl t0 H) fun t6_0 H_1 =>
  bindE (mLenSl t1 H_1) fun t8_2 H_3 =>
  bindE (mBin (cfg b) 3 false .geq t6_0 t8_2 H_3) fun t9_4 H_5 =>
  bindE (guardR (wantR true t9_4) (some (t0, H_5)) H_5) fun t11_6 H_7 =>
  bindE (guardR (wantR true t9_4) (some (t1, H_7)) H_7) fun t12_8 H_9 =>
  bindE (guardR (wantR true t9_4) (mLenSl t12_8 H_9) H_9) fun t13_10 H_11 =>
  bindE (guardR (wantR true t9_4) (mSliceSl 1 t11_6 none (some t13_10) H_11) H_11) fun t14_12 H_13 =>
  bindE (guardR (wantR true t9_4) (some (t1, H_13)) H_13) fun t15_14 H_15 =>
  bindE (guardR (wantR true t9_4) (cf 48 [t14_12, t15_14] H_15) H_15) fun t16_16 H_17 =>
  bindE (mPick t9_4 t16_16 (AV.c (.bool false)) H_17) fun t17_18 H_19 =>
  endQ (cfg b) false k (resC1 (some t17_18) (some [])) H_19
noncomputable def p43_l0 (b : Bool) (cf : CallFn) (k : Nat) (s : List AV) (H : Heap) : Option (LStep × Heap) :=
  un s fun t0_2 vs_3 => un vs_3 fun t1_4 vs_5 => un vs_5 fun t2_6 vs_7 => un vs_7 fun t8_8 vs_9 => un vs_9 fun t9_10 vs_11 => un vs_11 fun t10_12 vs_13 => un0 vs_13 (bindE (mBin (cfg b) 3 false .lss t9_10 t10_12 H) fun t17_14 H_15 =>
  condR t17_14 (bindE (mBin (cfg b) 3 false .add t9_10 t10_12 H_15) fun t20_16 H_17 =>
  bindE (mConvI .u64 t20_16 H_17) fun t21_18 H_19 =>
  bindE (mBin (cfg b) 67 true .shr t21_18 (AV.c (.int .u64 1)) H_19) fun t22_20 H_21 =>
  bindE (mConvI .i64 t22_20 H_21) fun t23_22 H_23 =>
  bindE (mIdxS 2 t0_2 t23_22 H_23) fun t27_24 H_25 =>
  bindE (mLoad true 2 t27_24 H_25) fun t28_26 H_27 =>
  bindE (mCallV cf t2_6 [t28_26, t1_4] H_27) fun t30_28 H_29 =>
  bindE (mBin (cfg b) 3 true .lss t30_28 (AV.c (.int .i64 0)) H_29) fun t31_30 H_31 =>
  condR t31_30 (bindE (mBin (cfg b) 3 true .add t23_22 (AV.c (.int .i64 1)) H_31) fun t33_32 H_33 =>
  some (LStep.cont [t0_2, t1_4, t2_6, t8_8, t33_32, t10_12], H_33)) (some (LStep.cont [t0_2, t1_4, t2_6, t8_8, t9_10, t23_22], H_31))) (some (LStep.exit 0 [t0_2, t1_4, t2_6, t8_8, t9_10], H_15)))
/-- slices.BinarySearchFunc[[]ferryman/api.Pair,ferryman/api.Pair,[]byte] -/
noncomputable def p43 (b : Bool) (cf : CallFn) (k : Nat) (t0 t1 t2 : AV) (H : Heap) : Option (AV × Heap) :=
  bindE (mLenSl t0 H) fun t13_0 H_1 =>
  afterL 0 (loopX k (p43_l0 b cf k) [t0, t1, t2, t13_0, (AV.c (.int .i64 0)), t13_0] H_1) (fun vs_34 H_35 =>
  un vs_34 fun t0_36 vs_37 => un vs_37 fun t1_38 vs_39 => un vs_39 fun t2_40 vs_41 => un vs_41 fun t8_42 vs_43 => un vs_43 fun t9_44 vs_45 => un0 vs_45 (bindE (mBin (cfg b) 3 false .lss t9_44 t8_42 H_35) fun t38_46 H_47 =>
  bindE (guardR (wantR true t38_46) (some (t2_40, H_47)) H_47) fun t40_48 H_49 =>
  bindE (guardR (wantR true t38_46) (some (t0_36, H_49)) H_49) fun t41_50 H_51 =>
  bindE (guardR (wantR true t38_46) (some (t9_44, H_51)) H_51) fun t42_52 H_53 =>
  bindE (guardR (wantR true t38_46) (mIdxS 2 t41_50 t42_52 H_53) H_53) fun t43_54 H_55 =>
  bindE (guardR (wantR true t38_46) (mLoad true 2 t43_54 H_55) H_55) fun t44_56 H_57 =>
  bindE (guardR (wantR true t38_46) (some (t1_38, H_57)) H_57) fun t45_58 H_59 =>
  bindE (guardR (wantR true t38_46) (mCallV cf t40_48 [t44_56, t45_58] H_59) H_59) fun t46_60 H_61 =>
  bindE (guardR (wantR true t38_46) (mBin (cfg b) 3 true .eql t46_60 (AV.c (.int .i64 0)) H_61) H_61) fun t47_62 H_63 =>
  bindE (mPick t38_46 t47_62 (AV.c (.bool false)) H_63) fun t48_64 H_65 =>
  endQ (cfg b) false k (resC1 (some t9_44) (resC1 (some t48_64) (some []))) H_65)) (fun vs_34 H_35 => un vs_34 fun t0_66 vs_67 => un vs_67 fun t1_68 vs_69 => un vs_69 fun t2_70 vs_71 => un vs_71 fun t8_72 vs_73 => un vs_73 fun t9_74 vs_75 => un0 vs_75 (endQ (cfg b) false k (resC1 (some AV.any) (resC1 (some AV.any) (some []))) H_35))
/-- (*ferryman/kv.Store).find$1 -/
noncomputable def p44 (b : Bool) (cf : CallFn) (k : Nat) (t0 t1 : AV) (H : Heap) : Option (AV × Heap) :=
  bindE (mBox 59 t0 H) fun t2_0 H_1 =>
  bindE (mFA 0 0 t2_0 H_1) fun t5_2 H_3 =>
  bindE (mLoad false 1 t5_2 H_3) fun t6_4 H_5 =>
  bindE (cf 45 [t6_4, t1] H_5) fun t8_6 H_7 =>
  endQ (cfg b) false k (resC1 (some t8_6) (some [])) H_7
/-- bytes.Equal -/
noncomputable def p48 (b : Bool) (cf : CallFn) (k : Nat) (t0 t1 : AV) (H : Heap) : Option (AV × Heap) :=
  bindE (mConvBS t0 H) fun t6_0 H_1 =>
  bindE (mConvBS t1 H_1) fun t8_2 H_3 =>
  bindE (mBin (cfg b) 9 false .eql t6_0 t8_2 H_3) fun t9_4 H_5 =>
  endQ (cfg b) false k (resC1 (some t9_4) (some [])) H_5
theorem p14_eq (b : Bool) (cf : CallFn) (H : Heap) : runG (cfg b) cf An 14 [] H = p14 b cf H.length  H := by kernel_rfl
theorem p17_eq (b : Bool) (cf : CallFn) (t0 t1 t2 : AV) (H : Heap) : runG (cfg b) cf An 17 [t0, t1, t2] H = p17 b cf H.length t0 t1 t2 H := by kernel_rfl
theorem p18_eq (b : Bool) (cf : CallFn) (t0 t1 : AV) (H : Heap) : runG (cfg b) cf An 18 [t0, t1] H = p18 b cf H.length t0 t1 H := by kernel_rfl
theorem p21_eq (b : Bool) (cf : CallFn) (t0 t1 : AV) (H : Heap) : runG (cfg b) cf An 21 [t0, t1] H = p21 b cf H.length t0 t1 H := by kernel_rfl
theorem p23_eq (b : Bool) (cf : CallFn) (t0 t1 : AV) (H : Heap) : runG (cfg b) cf An 23 [t0, t1] H = p23 b cf H.length t0 t1 H := by kernel_rfl
theorem p36_eq (b : Bool) (cf : CallFn) (t0 t1 : AV) (H : Heap) : runG (cfg b) cf An 36 [t0, t1] H = p36 b cf H.length t0 t1 H := by kernel_rfl
theorem p39_eq (b : Bool) (cf : CallFn) (t0 t1 : AV) (H : Heap) : runG (cfg b) cf An 39 [t0, t1] H = p39 b cf H.length t0 t1 H := by kernel_rfl
theorem p43_eq (b : Bool) (cf : CallFn) (t0 t1 t2 : AV) (H : Heap) : runG (cfg b) cf An 43 [t0, t1, t2] H = p43 b cf H.length t0 t1 t2 H := by kernel_rfl
theorem p44_eq (b : Bool) (cf : CallFn) (t0 t1 : AV) (H : Heap) : runG (cfg b) cf An 44 [t0, t1] H = p44 b cf H.length t0 t1 H := by kernel_rfl
theorem p48_eq (b : Bool) (cf : CallFn) (t0 t1 : AV) (H : Heap) : runG (cfg b) cf An 48 [t0, t1] H = p48 b cf H.length t0 t1 H := by kernel_rfl
end Go.Fm
