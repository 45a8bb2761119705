/-
  A part of the proof: DTree.
-/
import Derived.Test.YtjmjijgnbjkpnaaDoorDAnn
set_option linter.all false
set_option autoImplicit true
/-
  What the interpreter does to functions, without slots and types; the kernel holds it against the code.
-/
set_option maxRecDepth 100000
set_option linter.unusedVariables false
namespace Go.Fm
open Go Go.Proofs
/-- (*ferryman/tree.Tree).Put -/
noncomputable def p36 (b : Bool) (cf : CallFn) (k : Nat) (t0 t1 t2 : AV) (H : Heap) : Option (AV × Heap) :=
  bindE (mBin (cfg b) 28 true .eql t0 (AV.c .nilp) H) fun t10_0 H_1 =>
  condR t10_0 (endQ (cfg b) false k (resC1 (some (AV.c .nilp)) (resC1 (some (AV.c (.int .i64 1))) (some []))) H_1) (bindE (mLenSl t1 H_1) fun t13_2 H_3 =>
  bindE (mBin (cfg b) 3 true .eql t13_2 (AV.c (.int .i64 0)) H_3) fun t14_4 H_5 =>
  bindE (guardR (wantR false t14_4) (some (t1, H_5)) H_5) fun t16_6 H_7 =>
  bindE (guardR (wantR false t14_4) (mLenSl t16_6 H_7) H_7) fun t17_8 H_9 =>
  bindE (guardR (wantR false t14_4) (mBin (cfg b) 3 true .gtr t17_8 (AV.c (.int .i64 96)) H_9) H_9) fun t18_10 H_11 =>
  bindE (mPick t14_4 (AV.c (.bool true)) t18_10 H_11) fun t19_12 H_13 =>
  condR t19_12 (endQ (cfg b) false k (resC1 (some (AV.c .nilp)) (resC1 (some (AV.c (.int .i64 10))) (some []))) H_13) (bindE (mLenSl t2 H_13) fun t22_14 H_15 =>
  bindE (mBin (cfg b) 3 true .gtr t22_14 (AV.c (.int .i64 256)) H_15) fun t23_16 H_17 =>
  condR t23_16 (endQ (cfg b) false k (resC1 (some (AV.c .nilp)) (resC1 (some (AV.c (.int .i64 3))) (some []))) H_17) (bindE (mNil t0 H_17) fun t25_18 H_19 =>
  bindE (mFA 0 0 t25_18 H_19) fun t26_20 H_21 =>
  bindE (mLoad false 1 t26_20 H_21) fun t27_22 H_23 =>
  bindE (cf 91 [t27_22, t1, t2] H_23) fun t30_24 H_25 =>
  bindE (mBuildS [.nilp] [(0, t30_24)] H_25) fun t31_26 H_27 =>
  bindE (mBox 140 t31_26 H_27) fun t32_28 H_29 =>
  endQ (cfg b) false k (resC1 (some t32_28) (resC1 (some (AV.c (.int .i64 0))) (some []))) H_29)))
noncomputable def p45_l0 (b : Bool) (cf : CallFn) (k : Nat) (s : List AV) (H : Heap) : Option (LStep × Heap) :=
  un s fun t4_28 vs_29 => un vs_29 fun t6_30 vs_31 => un vs_31 fun t23_32 vs_33 => un vs_33 fun t24_34 vs_35 => un vs_35 fun t25_36 vs_37 => un0 vs_37 (bindE (mBin (cfg b) 3 false .lss t25_36 t24_34 H) fun t26_38 H_39 =>
  condR t26_38 (bindE (mIdxS 1 t23_32 t25_36 H_39) fun t27_40 H_41 =>
  bindE (mLoad false 1 t27_40 H_41) fun t28_42 H_43 =>
  bindE (mNil t6_30 H_43) fun t30_44 H_45 =>
  bindE (mFA 0 0 t30_44 H_45) fun t31_46 H_47 =>
  bindE (mFA 2 2 t31_46 H_47) fun t32_48 H_49 =>
  bindE (mLoad false 1 t32_48 H_49) fun t33_50 H_51 =>
  bindE (mBin (cfg b) 3 true .eql t33_50 (AV.c (.int .i64 0)) H_51) fun t34_52 H_53 =>
  condR t34_52 (bindE (mBuildS [.nilsl, .nilsl, (.int .i64 0), (.int .u64 0), (.arr 32 .u8 (List.replicate 32 0)), (.arr 32 .u8 (List.replicate 32 0))] [] H_53) fun t35_54 H_55 =>
  bindE (mStore true 68 t4_28 t35_54 H_55) fun u_56 H_57 =>
  some (LStep.ret [t4_28, (AV.c (.bool false)), t6_30], H_57)) (condR t28_42 (bindE (mNil t6_30 H_53) fun t38_58 H_59 =>
  bindE (mFA 3 101 t38_58 H_59) fun t39_60 H_61 =>
  bindE (mLoad false 1 t39_60 H_61) fun t40_62 H_63 =>
  bindE (mBin (cfg b) 3 true .add t25_36 (AV.c (.int .i64 1)) H_63) fun t45_64 H_65 =>
  some (LStep.cont [t4_28, t40_62, t23_32, t24_34, t45_64], H_65)) (bindE (mNil t6_30 H_53) fun t42_66 H_67 =>
  bindE (mFA 2 100 t42_66 H_67) fun t43_68 H_69 =>
  bindE (mLoad false 1 t43_68 H_69) fun t44_70 H_71 =>
  bindE (mBin (cfg b) 3 true .add t25_36 (AV.c (.int .i64 1)) H_71) fun t45_72 H_73 =>
  some (LStep.cont [t4_28, t44_70, t23_32, t24_34, t45_72], H_73)))) (some (LStep.exit 0 [t4_28, AV.any, t6_30], H_39)))
/-- (*ferryman/tree.Tree).Node -/
noncomputable def p45 (b : Bool) (cf : CallFn) (k : Nat) (t0 t1 : AV) (H : Heap) : Option (AV × Heap) :=
  bindE (mAlloc 66 (.agg [.nilsl, .nilsl, (.int .i64 0), (.int .u64 0), (.arr 32 .u8 (List.replicate 32 0)), (.arr 32 .u8 (List.replicate 32 0))]) H) fun t4_0 H_1 =>
  bindE (mBin (cfg b) 28 true .eql t0 (AV.c .nilp) H_1) fun t10_2 H_3 =>
  bindE (guardR (wantR false t10_2) (some (t0, H_3)) H_3) fun t12_4 H_5 =>
  bindE (guardR (wantR false t10_2) (mNil t12_4 H_5) H_5) fun t13_6 H_7 =>
  bindE (guardR (wantR false t10_2) (mFA 0 0 t13_6 H_7) H_7) fun t14_8 H_9 =>
  bindE (guardR (wantR false t10_2) (mLoad false 1 t14_8 H_9) H_9) fun t15_10 H_11 =>
  bindE (guardR (wantR false t10_2) (mBin (cfg b) 138 true .eql t15_10 (AV.c .nilp) H_11) H_11) fun t16_12 H_13 =>
  bindE (mPick t10_2 (AV.c (.bool true)) t16_12 H_13) fun t17_14 H_15 =>
  condR t17_14 (bindE (mBuildS [.nilsl, .nilsl, (.int .i64 0), (.int .u64 0), (.arr 32 .u8 (List.replicate 32 0)), (.arr 32 .u8 (List.replicate 32 0))] [] H_15) fun t18_16 H_17 =>
  bindE (mStore true 68 t4_0 t18_16 H_17) fun u_18 H_19 =>
  endQ (cfg b) false k (resC1 (mld true 68 H_19 t4_0) (resC1 (some (AV.c (.bool false))) (some []))) H_19) (bindE (mNil t0 H_15) fun t20_20 H_21 =>
  bindE (mFA 0 0 t20_20 H_21) fun t21_22 H_23 =>
  bindE (mLoad false 1 t21_22 H_23) fun t22_24 H_25 =>
  bindE (mLenSl t1 H_25) fun t24_26 H_27 =>
  afterL 0 (loopX k (p45_l0 b cf k) [t4_0, t22_24, t1, t24_26, (AV.c (.int .i64 0))] H_27) (fun vs_74 H_75 =>
  un vs_74 fun t4_76 vs_77 => un vs_77 fun t5_78 vs_79 => un vs_79 fun t6_80 vs_81 => un0 vs_81 (bindE (mNil t6_80 H_75) fun t47_82 H_83 =>
  bindE (mFA 0 0 t47_82 H_83) fun t48_84 H_85 =>
  bindE (mLoad true 68 t48_84 H_85) fun t49_86 H_87 =>
  bindE (cf 95 [t49_86] H_87) fun t50_88 H_89 =>
  bindE (mStore true 68 t4_76 t50_88 H_89) fun u_90 H_91 =>
  endQ (cfg b) false k (resC1 (mld true 68 H_91 t4_76) (resC1 (some (AV.c (.bool true))) (some []))) H_91)) (fun vs_74 H_75 => un vs_74 fun t4_92 vs_93 => un vs_93 fun t5_94 vs_95 => un vs_95 fun t6_96 vs_97 => un0 vs_97 (endQ (cfg b) false k (resC1 (mld true 68 H_75 t4_92) (resC1 (some t5_94) (some []))) H_75)))
/-- (*ferryman/tree.Tree).Len -/
noncomputable def p47 (b : Bool) (cf : CallFn) (k : Nat) (t0 : AV) (H : Heap) : Option (AV × Heap) :=
  bindE (mBin (cfg b) 28 true .eql t0 (AV.c .nilp) H) fun t4_0 H_1 =>
  bindE (guardR (wantR false t4_0) (some (t0, H_1)) H_1) fun t6_2 H_3 =>
  bindE (guardR (wantR false t4_0) (mNil t6_2 H_3) H_3) fun t7_4 H_5 =>
  bindE (guardR (wantR false t4_0) (mFA 0 0 t7_4 H_5) H_5) fun t8_6 H_7 =>
  bindE (guardR (wantR false t4_0) (mLoad false 1 t8_6 H_7) H_7) fun t9_8 H_9 =>
  bindE (guardR (wantR false t4_0) (mBin (cfg b) 138 true .eql t9_8 (AV.c .nilp) H_9) H_9) fun t10_10 H_11 =>
  bindE (mPick t4_0 (AV.c (.bool true)) t10_10 H_11) fun t11_12 H_13 =>
  condR t11_12 (endQ (cfg b) false k (resC1 (some (AV.c (.int .i64 0))) (some [])) H_13) (bindE (mNil t0 H_13) fun t13_14 H_15 =>
  bindE (mFA 0 0 t13_14 H_15) fun t14_16 H_17 =>
  bindE (mLoad false 1 t14_16 H_17) fun t15_18 H_19 =>
  bindE (mNil t15_18 H_19) fun t16_20 H_21 =>
  bindE (mFA 0 0 t16_20 H_21) fun t17_22 H_23 =>
  bindE (mFA 3 3 t17_22 H_23) fun t18_24 H_25 =>
  bindE (mLoad false 1 t18_24 H_25) fun t19_26 H_27 =>
  bindE (mConvI .i64 t19_26 H_27) fun t20_28 H_29 =>
  endQ (cfg b) false k (resC1 (some t20_28) (some [])) H_29)
/-- ferryman/tree.Hash -/
noncomputable def p49 (b : Bool) (cf : CallFn) (k : Nat) (t0 : AV) (H : Heap) : Option (AV × Heap) :=
  bindE (mBox 66 t0 H) fun t1_0 H_1 =>
  bindE (mAlloc 41 (.arr 32 .u8 (List.replicate 32 0)) H_1) fun t2_2 H_3 =>
  bindE (mFA 2 2 t1_0 H_3) fun t4_4 H_5 =>
  bindE (mLoad false 1 t4_4 H_5) fun t5_6 H_7 =>
  bindE (mBin (cfg b) 3 true .eql t5_6 (AV.c (.int .i64 0)) H_7) fun t6_8 H_9 =>
  condR t6_8 (bindE (mFA 1 1 t1_0 H_9) fun t7_10 H_11 =>
  bindE (mLoad false 1 t7_10 H_11) fun t8_12 H_13 =>
  bindE (mBuildSl 38 1 .nilsl 1 [(0, t8_12)] H_13) fun t9_14 H_15 =>
  bindE (cf 88 [t9_14] H_15) fun t10_16 H_17 =>
  bindE (mAlloc 41 (.arr 32 .u8 (List.replicate 32 0)) H_17) fun t3_18 H_19 =>
  bindE (mStore true 32 t3_18 t10_16 H_19) fun u_20 H_21 =>
  afterD (twice [0, 1, 3, 7, 15, 0, 32, 0, 255, 511, 1023] (fun H_22 => bindE (drawR true [t1_0] (fun F => mFA 0 0 t1_0 F) H_22) fun t11_23 H_24 =>
  bindE (drawR true [t11_23.1] (fun F => mLoad false 1 t11_23.1 F) H_24) fun t12_25 H_26 =>
  bindE (drawR true [t12_25.1] (fun F => mLenSl t12_25.1 F) H_26) fun t13_27 H_28 =>
  bindE (drawR true [t13_27.1] (fun F => mConvI .u8 t13_27.1 F) H_28) fun t14_29 H_30 =>
  bindE (drawR false [t14_29.1] (fun F => mBuildSl 5 1 (.int .u8 0) 2 [(0, (AV.c (.int .u8 0))), (1, t14_29.1)] F) H_30) fun t15_31 H_32 =>
  bindE (drawR true [t1_0] (fun F => mFA 0 0 t1_0 F) H_32) fun t16_33 H_34 =>
  bindE (drawR true [t16_33.1] (fun F => mLoad false 1 t16_33.1 F) H_34) fun t17_35 H_36 =>
  bindE (drawR false [t3_18] (fun F => mSliceArr 32 t3_18 none none F) H_36) fun t18_37 H_38 =>
  bindE (drawR false [t15_31.1, t17_35.1, t18_37.1] (fun F => mBuildSl 38 1 .nilsl 3 [(0, t15_31.1), (1, t17_35.1), (2, t18_37.1)] F) H_38) fun t19_39 H_40 =>
  bindE (drawR false [t19_39.1] (fun F => cf 88 [t19_39.1] F) H_40) fun t20_41 H_42 =>
  bindE (drawR false [t2_2, t20_41.1] (fun F => mStore true 32 t2_2 t20_41.1 F) H_42) fun u_43 H_44 =>
  some (([], [t11_23.2, t12_25.2, t13_27.2, t14_29.2, t15_31.2, t16_33.2, t17_35.2, t18_37.2, t19_39.2, t20_41.2, u_43.2]), H_44)) H_21) fun vs_45 H_46 =>
  un0 vs_45 (endQ (cfg b) false k (resC1 (mld true 32 H_46 t2_2) (some [])) H_46)) (afterD (twice [0, 1, 3, 7, 0, 16, 48, 0, 128, 0, 512, 2047, 4095, 8191] (fun H_47 => bindE (drawR true [t1_0] (fun F => mFA 2 2 t1_0 F) H_47) fun t21_48 H_49 =>
  bindE (drawR true [t21_48.1] (fun F => mLoad false 1 t21_48.1 F) H_49) fun t22_50 H_51 =>
  bindE (drawR true [t22_50.1] (fun F => mConvI .u8 t22_50.1 F) H_51) fun t23_52 H_53 =>
  bindE (drawR false [t23_52.1] (fun F => mBuildSl 5 1 (.int .u8 0) 2 [(0, (AV.c (.int .u8 1))), (1, t23_52.1)] F) H_53) fun t24_54 H_55 =>
  bindE (drawR true [t1_0] (fun F => mFA 3 3 t1_0 F) H_55) fun t25_56 H_57 =>
  bindE (drawR true [t25_56.1] (fun F => mLoad false 1 t25_56.1 F) H_57) fun t26_58 H_59 =>
  bindE (drawR false [t26_58.1] (fun F => cf 96 [t26_58.1] F) H_59) fun t27_60 H_61 =>
  bindE (drawR true [t1_0] (fun F => mFA 4 4 t1_0 F) H_61) fun t28_62 H_63 =>
  bindE (drawR false [t28_62.1] (fun F => mSliceArr 32 t28_62.1 none none F) H_63) fun t29_64 H_65 =>
  bindE (drawR true [t1_0] (fun F => mFA 5 36 t1_0 F) H_65) fun t30_66 H_67 =>
  bindE (drawR false [t30_66.1] (fun F => mSliceArr 32 t30_66.1 none none F) H_67) fun t31_68 H_69 =>
  bindE (drawR false [t24_54.1, t27_60.1, t29_64.1, t31_68.1] (fun F => mBuildSl 38 1 .nilsl 4 [(0, t24_54.1), (1, t27_60.1), (2, t29_64.1), (3, t31_68.1)] F) H_69) fun t32_70 H_71 =>
  bindE (drawR false [t32_70.1] (fun F => cf 88 [t32_70.1] F) H_71) fun t33_72 H_73 =>
  bindE (drawR false [t2_2, t33_72.1] (fun F => mStore true 32 t2_2 t33_72.1 F) H_73) fun u_74 H_75 =>
  some (([], [t21_48.2, t22_50.2, t23_52.2, t24_54.2, t25_56.2, t26_58.2, t27_60.2, t28_62.2, t29_64.2, t30_66.2, t31_68.2, t32_70.2, t33_72.2, u_74.2]), H_75)) H_9) fun vs_76 H_77 =>
  un0 vs_76 (endQ (cfg b) false k (resC1 (mld true 32 H_77 t2_2) (some [])) H_77))
/-- (*ferryman/tree.Tree).All -/
noncomputable def p51 (b : Bool) (cf : CallFn) (k : Nat) (t0 : AV) (H : Heap) : Option (AV × Heap) :=
  bindE (mBin (cfg b) 28 true .eql t0 (AV.c .nilp) H) fun t4_0 H_1 =>
  condR t4_0 (endQ (cfg b) false k (resC1 (some (AV.c .nilsl)) (some [])) H_1) (bindE (mNil t0 H_1) fun t6_2 H_3 =>
  bindE (mFA 0 0 t6_2 H_3) fun t7_4 H_5 =>
  bindE (mLoad false 1 t7_4 H_5) fun t8_6 H_7 =>
  bindE (cf 97 [t8_6, (AV.c .nilsl)] H_7) fun t9_8 H_9 =>
  endQ (cfg b) false k (resC1 (some t9_8) (some [])) H_9)
/-- (*ferryman/tree.Tree).Cut -/
noncomputable def p61 (b : Bool) (cf : CallFn) (k : Nat) (t0 t1 : AV) (H : Heap) : Option (AV × Heap) :=
  bindE (mBin (cfg b) 28 true .eql t0 (AV.c .nilp) H) fun t9_0 H_1 =>
  condR t9_0 (endQ (cfg b) false k (resC1 (some (AV.c .nilp)) (resC1 (some (AV.c (.bool false))) (some []))) H_1) (bindE (mNil t0 H_1) fun t12_2 H_3 =>
  bindE (mFA 0 0 t12_2 H_3) fun t13_4 H_5 =>
  bindE (mLoad false 1 t13_4 H_5) fun t14_6 H_7 =>
  bindE (cf 100 [t14_6, t1] H_7) fun t16_8 H_9 =>
  bindE (mExtract 0 t16_8 H_9) fun t17_10 H_11 =>
  bindE (mExtract 1 t16_8 H_11) fun t18_12 H_13 =>
  bindE (mBuildS [.nilp] [(0, t17_10)] H_13) fun t20_14 H_15 =>
  bindE (mBox 140 t20_14 H_15) fun t21_16 H_17 =>
  endQ (cfg b) false k (resC1 (some t21_16) (resC1 (some t18_12) (some []))) H_17)
noncomputable def p63_l0 (b : Bool) (cf : CallFn) (k : Nat) (s : List AV) (H : Heap) : Option (LStep × Heap) :=
  un s fun t1_20 vs_21 => un vs_21 fun t6_22 vs_23 => un0 vs_23 (bindE (mNil t6_22 H) fun t21_24 H_25 =>
  bindE (mFA 0 0 t21_24 H_25) fun t22_26 H_27 =>
  bindE (mFA 2 2 t22_26 H_27) fun t23_28 H_29 =>
  bindE (mLoad false 1 t23_28 H_29) fun t24_30 H_31 =>
  bindE (mBin (cfg b) 3 true .gtr t24_30 (AV.c (.int .i64 0)) H_31) fun t25_32 H_33 =>
  condR t25_32 (bindE (mNil t6_22 H_33) fun t28_34 H_35 =>
  bindE (mFA 0 0 t28_34 H_35) fun t29_36 H_37 =>
  bindE (mFA 0 0 t29_36 H_37) fun t30_38 H_39 =>
  bindE (mLoad false 1 t30_38 H_39) fun t31_40 H_41 =>
  bindE (cf 101 [t1_20, t31_40] H_41) fun t32_42 H_43 =>
  bindE (mBin (cfg b) 3 true .lss t32_42 (AV.c (.int .i64 0)) H_43) fun t33_44 H_45 =>
  condR t33_44 (bindE (mNil t6_22 H_45) fun t35_46 H_47 =>
  bindE (mFA 2 100 t35_46 H_47) fun t36_48 H_49 =>
  bindE (mLoad false 1 t36_48 H_49) fun t37_50 H_51 =>
  some (LStep.cont [t1_20, t37_50], H_51)) (bindE (mNil t6_22 H_45) fun t39_52 H_53 =>
  bindE (mFA 3 101 t39_52 H_53) fun t40_54 H_55 =>
  bindE (mLoad false 1 t40_54 H_55) fun t41_56 H_57 =>
  some (LStep.cont [t1_20, t41_56], H_57))) (some (LStep.exit 0 [t1_20, t6_22], H_33)))
/-- (*ferryman/tree.Tree).Get -/
noncomputable def p63 (b : Bool) (cf : CallFn) (k : Nat) (t0 t1 : AV) (H : Heap) : Option (AV × Heap) :=
  bindE (mBin (cfg b) 28 true .eql t0 (AV.c .nilp) H) fun t8_0 H_1 =>
  bindE (guardR (wantR false t8_0) (some (t0, H_1)) H_1) fun t10_2 H_3 =>
  bindE (guardR (wantR false t8_0) (mNil t10_2 H_3) H_3) fun t11_4 H_5 =>
  bindE (guardR (wantR false t8_0) (mFA 0 0 t11_4 H_5) H_5) fun t12_6 H_7 =>
  bindE (guardR (wantR false t8_0) (mLoad false 1 t12_6 H_7) H_7) fun t13_8 H_9 =>
  bindE (guardR (wantR false t8_0) (mBin (cfg b) 138 true .eql t13_8 (AV.c .nilp) H_9) H_9) fun t14_10 H_11 =>
  bindE (mPick t8_0 (AV.c (.bool true)) t14_10 H_11) fun t15_12 H_13 =>
  condR t15_12 (endQ (cfg b) false k (resC1 (some (AV.c .nilsl)) (resC1 (some (AV.c (.bool false))) (some []))) H_13) (bindE (mNil t0 H_13) fun t17_14 H_15 =>
  bindE (mFA 0 0 t17_14 H_15) fun t18_16 H_17 =>
  bindE (mLoad false 1 t18_16 H_17) fun t19_18 H_19 =>
  afterL 0 (loopX k (p63_l0 b cf k) [t1, t19_18] H_19) (fun vs_58 H_59 =>
  un vs_58 fun t1_60 vs_61 => un vs_61 fun t6_62 vs_63 => un0 vs_63 (bindE (mNil t6_62 H_59) fun t43_64 H_65 =>
  bindE (mFA 0 0 t43_64 H_65) fun t44_66 H_67 =>
  bindE (mFA 0 0 t44_66 H_67) fun t45_68 H_69 =>
  bindE (mLoad false 1 t45_68 H_69) fun t46_70 H_71 =>
  bindE (cf 102 [t46_70, t1_60] H_71) fun t48_72 H_73 =>
  bindE (mUn .not t48_72 H_73) fun t49_74 H_75 =>
  condR t49_74 (endQ (cfg b) false k (resC1 (some (AV.c .nilsl)) (resC1 (some (AV.c (.bool false))) (some []))) H_75) (bindE (mNil t6_62 H_75) fun t51_76 H_77 =>
  bindE (mFA 0 0 t51_76 H_77) fun t52_78 H_79 =>
  bindE (mFA 1 1 t52_78 H_79) fun t53_80 H_81 =>
  bindE (mLoad false 1 t53_80 H_81) fun t54_82 H_83 =>
  bindE (cf 103 [t54_82] H_83) fun t55_84 H_85 =>
  endQ (cfg b) false k (resC1 (some t55_84) (resC1 (some (AV.c (.bool true))) (some []))) H_85))) (fun vs_58 H_59 => un vs_58 fun t1_86 vs_87 => un vs_87 fun t6_88 vs_89 => un0 vs_89 (endQ (cfg b) false k (resC1 (some AV.any) (resC1 (some AV.any) (some []))) H_59)))
/-- ferryman/tree.put -/
noncomputable def p91 (b : Bool) (cf : CallFn) (k : Nat) (t0 t1 t2 : AV) (H : Heap) : Option (AV × Heap) :=
  bindE (mBin (cfg b) 138 true .eql t0 (AV.c .nilp) H) fun t9_0 H_1 =>
  condR t9_0 (bindE (cf 123 [t1, t2] H_1) fun t12_2 H_3 =>
  endQ (cfg b) false k (resC1 (some t12_2) (some [])) H_3) (bindE (mNil t0 H_1) fun t15_4 H_5 =>
  bindE (mFA 0 0 t15_4 H_5) fun t16_6 H_7 =>
  bindE (mFA 0 0 t16_6 H_7) fun t17_8 H_9 =>
  bindE (mLoad false 1 t17_8 H_9) fun t18_10 H_11 =>
  bindE (cf 101 [t1, t18_10] H_11) fun t19_12 H_13 =>
  bindE (mNil t0 H_13) fun t22_14 H_15 =>
  bindE (mFA 0 0 t22_14 H_15) fun t23_16 H_17 =>
  bindE (mFA 2 2 t23_16 H_17) fun t24_18 H_19 =>
  bindE (mLoad false 1 t24_18 H_19) fun t25_20 H_21 =>
  bindE (mBin (cfg b) 3 true .gtr t25_20 (AV.c (.int .i64 0)) H_21) fun t26_22 H_23 =>
  bindE (guardR (wantR true t26_22) (some (t19_12, H_23)) H_23) fun t28_24 H_25 =>
  bindE (guardR (wantR true t26_22) (mBin (cfg b) 3 true .lss t28_24 (AV.c (.int .i64 0)) H_25) H_25) fun t29_26 H_27 =>
  bindE (mPick t26_22 t29_26 (AV.c (.bool false)) H_27) fun t30_28 H_29 =>
  condR t30_28 (afterD (twice [0, 1, 3, 7, 0, 0, 63, 0, 128, 384, 896, 2047, 4095] (fun H_30 => bindE (drawM (some t0) H_30) fun t31_31 H_32 =>
  bindE (drawR true [t31_31.1] (fun F => mNil t31_31.1 F) H_32) fun t32_33 H_34 =>
  bindE (drawR true [t32_33.1] (fun F => mFA 2 100 t32_33.1 F) H_34) fun t33_35 H_36 =>
  bindE (drawR true [t33_35.1] (fun F => mLoad false 1 t33_35.1 F) H_36) fun t34_37 H_38 =>
  bindE (drawM (some t1) H_38) fun t35_39 H_40 =>
  bindE (drawM (some t2) H_40) fun t36_41 H_42 =>
  bindE (drawR false [t34_37.1, t35_39.1, t36_41.1] (fun F => cf 91 [t34_37.1, t35_39.1, t36_41.1] F) H_42) fun t37_43 H_44 =>
  bindE (drawM (some t0) H_44) fun t38_45 H_46 =>
  bindE (drawR true [t38_45.1] (fun F => mNil t38_45.1 F) H_46) fun t39_47 H_48 =>
  bindE (drawR true [t39_47.1] (fun F => mFA 3 101 t39_47.1 F) H_48) fun t40_49 H_50 =>
  bindE (drawR true [t40_49.1] (fun F => mLoad false 1 t40_49.1 F) H_50) fun t41_51 H_52 =>
  bindE (drawR false [t37_43.1, t41_51.1] (fun F => cf 124 [t37_43.1, t41_51.1] F) H_52) fun t42_53 H_54 =>
  bindE (drawM (some t42_53.1) H_54) fun t6_55 H_56 =>
  some (([t6_55.1], [t31_31.2, t32_33.2, t33_35.2, t34_37.2, t35_39.2, t36_41.2, t37_43.2, t38_45.2, t39_47.2, t40_49.2, t41_51.2, t42_53.2, t6_55.2]), H_56)) H_29) fun vs_57 H_58 =>
  un vs_57 fun t6_59 vs_60 => un0 vs_60 (endQ (cfg b) false k (resC1 (some t6_59) (some [])) H_58)) (bindE (mNil t0 H_29) fun t45_61 H_62 =>
  bindE (mFA 0 0 t45_61 H_62) fun t46_63 H_64 =>
  bindE (mFA 2 2 t46_63 H_64) fun t47_65 H_66 =>
  bindE (mLoad false 1 t47_65 H_66) fun t48_67 H_68 =>
  bindE (mBin (cfg b) 3 true .gtr t48_67 (AV.c (.int .i64 0)) H_68) fun t49_69 H_70 =>
  condR t49_69 (afterD (twice [0, 1, 3, 7, 0, 16, 48, 112, 0, 0, 1008, 2047, 4095] (fun H_71 => bindE (drawM (some t0) H_71) fun t50_72 H_73 =>
  bindE (drawR true [t50_72.1] (fun F => mNil t50_72.1 F) H_73) fun t51_74 H_75 =>
  bindE (drawR true [t51_74.1] (fun F => mFA 2 100 t51_74.1 F) H_75) fun t52_76 H_77 =>
  bindE (drawR true [t52_76.1] (fun F => mLoad false 1 t52_76.1 F) H_77) fun t53_78 H_79 =>
  bindE (drawM (some t0) H_79) fun t54_80 H_81 =>
  bindE (drawR true [t54_80.1] (fun F => mNil t54_80.1 F) H_81) fun t55_82 H_83 =>
  bindE (drawR true [t55_82.1] (fun F => mFA 3 101 t55_82.1 F) H_83) fun t56_84 H_85 =>
  bindE (drawR true [t56_84.1] (fun F => mLoad false 1 t56_84.1 F) H_85) fun t57_86 H_87 =>
  bindE (drawM (some t1) H_87) fun t58_88 H_89 =>
  bindE (drawM (some t2) H_89) fun t59_90 H_91 =>
  bindE (drawR false [t57_86.1, t58_88.1, t59_90.1] (fun F => cf 91 [t57_86.1, t58_88.1, t59_90.1] F) H_91) fun t60_92 H_93 =>
  bindE (drawR false [t53_78.1, t60_92.1] (fun F => cf 124 [t53_78.1, t60_92.1] F) H_93) fun t61_94 H_95 =>
  bindE (drawM (some t61_94.1) H_95) fun t6_96 H_97 =>
  some (([t6_96.1], [t50_72.2, t51_74.2, t52_76.2, t53_78.2, t54_80.2, t55_82.2, t56_84.2, t57_86.2, t58_88.2, t59_90.2, t60_92.2, t61_94.2, t6_96.2]), H_97)) H_70) fun vs_98 H_99 =>
  un vs_98 fun t6_100 vs_101 => un0 vs_101 (endQ (cfg b) false k (resC1 (some t6_100) (some [])) H_99)) (bindE (mBin (cfg b) 3 true .lss t19_12 (AV.c (.int .i64 0)) H_70) fun t64_102 H_103 =>
  condR t64_102 (bindE (cf 123 [t1, t2] H_103) fun t67_104 H_105 =>
  bindE (cf 125 [t67_104, t0] H_105) fun t69_106 H_107 =>
  endQ (cfg b) false k (resC1 (some t69_106) (some [])) H_107) (bindE (mBin (cfg b) 3 true .gtr t19_12 (AV.c (.int .i64 0)) H_103) fun t72_108 H_109 =>
  condR t72_108 (bindE (cf 123 [t1, t2] H_109) fun t76_110 H_111 =>
  bindE (cf 125 [t0, t76_110] H_111) fun t77_112 H_113 =>
  endQ (cfg b) false k (resC1 (some t77_112) (some [])) H_113) (bindE (cf 123 [t1, t2] H_109) fun t80_114 H_115 =>
  endQ (cfg b) false k (resC1 (some t80_114) (some [])) H_115)))))
/-- ferryman/tree.copied -/
noncomputable def p95 (b : Bool) (cf : CallFn) (k : Nat) (t0 : AV) (H : Heap) : Option (AV × Heap) :=
  bindE (mBox 66 t0 H) fun t1_0 H_1 =>
  bindE (mAlloc 66 (.agg [.nilsl, .nilsl, (.int .i64 0), (.int .u64 0), (.arr 32 .u8 (List.replicate 32 0)), (.arr 32 .u8 (List.replicate 32 0))]) H_1) fun t2_2 H_3 =>
  afterD (twice [0, 1, 3, 0, 8, 31, 31, 127, 255, 511] (fun H_4 => bindE (drawR true [t1_0] (fun F => mFA 0 0 t1_0 F) H_4) fun t3_5 H_6 =>
  bindE (drawR true [t3_5.1] (fun F => mLoad false 1 t3_5.1 F) H_6) fun t4_7 H_8 =>
  bindE (drawR false [t4_7.1] (fun F => cf 103 [t4_7.1] F) H_8) fun t5_9 H_10 =>
  bindE (drawR true [t1_0] (fun F => mFA 1 1 t1_0 F) H_10) fun t6_11 H_12 =>
  bindE (drawR true [t6_11.1] (fun F => mLoad false 1 t6_11.1 F) H_12) fun t7_13 H_14 =>
  bindE (drawR false [t7_13.1] (fun F => cf 103 [t7_13.1] F) H_14) fun t8_15 H_16 =>
  bindE (drawR true [t1_0] (fun F => mFA 0 0 t1_0 F) H_16) fun t9_17 H_18 =>
  bindE (drawR false [t9_17.1, t5_9.1] (fun F => mStore false 1 t9_17.1 t5_9.1 F) H_18) fun u_19 H_20 =>
  bindE (drawR true [t1_0] (fun F => mFA 1 1 t1_0 F) H_20) fun t10_21 H_22 =>
  bindE (drawR false [t10_21.1, t8_15.1] (fun F => mStore false 1 t10_21.1 t8_15.1 F) H_22) fun u_23 H_24 =>
  some (([], [t3_5.2, t4_7.2, t5_9.2, t6_11.2, t7_13.2, t8_15.2, t9_17.2, u_19.2, t10_21.2, u_23.2]), H_24)) H_3) fun vs_25 H_26 =>
  un0 vs_25 (bindE (mLoad true 68 t1_0 H_26) fun t11_27 H_28 =>
  bindE (mStore true 68 t2_2 t11_27 H_28) fun u_29 H_30 =>
  endQ (cfg b) false k (resC1 (mld true 68 H_30 t2_2) (some [])) H_30)
noncomputable def p96_l0 (b : Bool) (cf : CallFn) (k : Nat) (s : List AV) (H : Heap) : Option (LStep × Heap) :=
  un s fun t0_2 vs_3 => un vs_3 fun t3_4 vs_5 => un vs_5 fun t5_6 vs_7 => un0 vs_7 (bindE (mBin (cfg b) 3 true .lss t5_6 (AV.c (.int .i64 8)) H) fun t6_8 H_9 =>
  condR t6_8 (bindE (mBin (cfg b) 3 true .mul (AV.c (.int .i64 8)) t5_6 H_9) fun t11_10 H_11 =>
  bindE (mBin (cfg b) 3 true .sub (AV.c (.int .i64 56)) t11_10 H_11) fun t12_12 H_13 =>
  bindE (mBin (cfg b) 22 false .shr t0_2 t12_12 H_13) fun t13_14 H_15 =>
  bindE (mConvI .u8 t13_14 H_15) fun t14_16 H_17 =>
  bindE (mIdxA 8 t3_4 t5_6 H_17) fun t15_18 H_19 =>
  bindE (mStore false 1 t15_18 t14_16 H_19) fun u_20 H_21 =>
  bindE (mBin (cfg b) 3 true .add t5_6 (AV.c (.int .i64 1)) H_21) fun t16_22 H_23 =>
  some (LStep.cont [t0_2, t3_4, t16_22], H_23)) (some (LStep.exit 0 [t3_4], H_9)))
/-- ferryman/tree.size -/
noncomputable def p96 (b : Bool) (cf : CallFn) (k : Nat) (t0 : AV) (H : Heap) : Option (AV × Heap) :=
  bindE (mAlloc 202 (.arr 8 .u8 (List.replicate 8 0)) H) fun t3_0 H_1 =>
  afterL 0 (loopX k (p96_l0 b cf k) [t0, t3_0, (AV.c (.int .i64 0))] H_1) (fun vs_24 H_25 =>
  un vs_24 fun t3_26 vs_27 => un0 vs_27 (bindE (mSliceArr 8 t3_26 none none H_25) fun t17_28 H_29 =>
  endQ (cfg b) false k (resC1 (some t17_28) (some [])) H_29)) (fun vs_24 H_25 => un vs_24 fun t3_30 vs_31 => un0 vs_31 (endQ (cfg b) false k (resC1 (some AV.any) (some [])) H_25))
/-- ferryman/tree.walk -/
noncomputable def p97 (b : Bool) (cf : CallFn) (k : Nat) (t0 t1 : AV) (H : Heap) : Option (AV × Heap) :=
  bindE (mBin (cfg b) 138 true .eql t0 (AV.c .nilp) H) fun t7_0 H_1 =>
  condR t7_0 (endQ (cfg b) true k (resC1 (some t1) (some [])) H_1) (bindE (mNil t0 H_1) fun t11_2 H_3 =>
  bindE (mFA 0 0 t11_2 H_3) fun t12_4 H_5 =>
  bindE (mFA 2 2 t12_4 H_5) fun t13_6 H_7 =>
  bindE (mLoad false 1 t13_6 H_7) fun t14_8 H_9 =>
  bindE (mBin (cfg b) 3 true .eql t14_8 (AV.c (.int .i64 0)) H_9) fun t15_10 H_11 =>
  condR t15_10 (afterD (twice [0, 0, 2, 6, 14, 30, 62, 0, 128, 384, 896, 1920, 4094, 8190, 16382, 32767, 65535] (fun H_12 => bindE (drawM (some t1) H_12) fun t16_13 H_14 =>
  bindE (drawM (some t0) H_14) fun t17_15 H_16 =>
  bindE (drawR true [t17_15.1] (fun F => mNil t17_15.1 F) H_16) fun t18_17 H_18 =>
  bindE (drawR true [t18_17.1] (fun F => mFA 0 0 t18_17.1 F) H_18) fun t19_19 H_20 =>
  bindE (drawR true [t19_19.1] (fun F => mFA 0 0 t19_19.1 F) H_20) fun t20_21 H_22 =>
  bindE (drawR true [t20_21.1] (fun F => mLoad false 1 t20_21.1 F) H_22) fun t21_23 H_24 =>
  bindE (drawR false [t21_23.1] (fun F => cf 103 [t21_23.1] F) H_24) fun t22_25 H_26 =>
  bindE (drawM (some t0) H_26) fun t23_27 H_28 =>
  bindE (drawR true [t23_27.1] (fun F => mNil t23_27.1 F) H_28) fun t24_29 H_30 =>
  bindE (drawR true [t24_29.1] (fun F => mFA 0 0 t24_29.1 F) H_30) fun t25_31 H_32 =>
  bindE (drawR true [t25_31.1] (fun F => mFA 1 1 t25_31.1 F) H_32) fun t26_33 H_34 =>
  bindE (drawR true [t26_33.1] (fun F => mLoad false 1 t26_33.1 F) H_34) fun t27_35 H_36 =>
  bindE (drawR false [t27_35.1] (fun F => cf 103 [t27_35.1] F) H_36) fun t28_37 H_38 =>
  bindE (drawR false [t22_25.1, t28_37.1] (fun F => mBuildS [.nilsl, .nilsl] [(0, t22_25.1), (1, t28_37.1)] F) H_38) fun t29_39 H_40 =>
  bindE (drawR false [t29_39.1] (fun F => mBuildSl 97 2 (.agg [.nilsl, .nilsl]) 1 [(0, t29_39.1)] F) H_40) fun t30_41 H_42 =>
  bindE (drawR false [t16_13.1, t30_41.1] (fun F => mAppend 97 2 48 false t16_13.1 t30_41.1 F) H_42) fun t31_43 H_44 =>
  bindE (drawM (some t31_43.1) H_44) fun t4_45 H_46 =>
  some (([t4_45.1], [t16_13.2, t17_15.2, t18_17.2, t19_19.2, t20_21.2, t21_23.2, t22_25.2, t23_27.2, t24_29.2, t25_31.2, t26_33.2, t27_35.2, t28_37.2, t29_39.2, t30_41.2, t31_43.2, t4_45.2]), H_46)) H_11) fun vs_47 H_48 =>
  un vs_47 fun t4_49 vs_50 => un0 vs_50 (endQ (cfg b) true k (resC1 (some t4_49) (some [])) H_48)) (afterD (twice [0, 1, 3, 7, 0, 16, 48, 112, 0, 496, 1023, 2047] (fun H_51 => bindE (drawM (some t0) H_51) fun t32_52 H_53 =>
  bindE (drawR true [t32_52.1] (fun F => mNil t32_52.1 F) H_53) fun t33_54 H_55 =>
  bindE (drawR true [t33_54.1] (fun F => mFA 3 101 t33_54.1 F) H_55) fun t34_56 H_57 =>
  bindE (drawR true [t34_56.1] (fun F => mLoad false 1 t34_56.1 F) H_57) fun t35_58 H_59 =>
  bindE (drawM (some t0) H_59) fun t36_60 H_61 =>
  bindE (drawR true [t36_60.1] (fun F => mNil t36_60.1 F) H_61) fun t37_62 H_63 =>
  bindE (drawR true [t37_62.1] (fun F => mFA 2 100 t37_62.1 F) H_63) fun t38_64 H_65 =>
  bindE (drawR true [t38_64.1] (fun F => mLoad false 1 t38_64.1 F) H_65) fun t39_66 H_67 =>
  bindE (drawM (some t1) H_67) fun t40_68 H_69 =>
  bindE (drawR false [t39_66.1, t40_68.1] (fun F => cf 97 [t39_66.1, t40_68.1] F) H_69) fun t41_70 H_71 =>
  bindE (drawR false [t35_58.1, t41_70.1] (fun F => cf 97 [t35_58.1, t41_70.1] F) H_71) fun t42_72 H_73 =>
  bindE (drawM (some t42_72.1) H_73) fun t4_74 H_75 =>
  some (([t4_74.1], [t32_52.2, t33_54.2, t34_56.2, t35_58.2, t36_60.2, t37_62.2, t38_64.2, t39_66.2, t40_68.2, t41_70.2, t42_72.2, t4_74.2]), H_75)) H_11) fun vs_76 H_77 =>
  un vs_76 fun t4_78 vs_79 => un0 vs_79 (endQ (cfg b) true k (resC1 (some t4_78) (some [])) H_77)))
/-- ferryman/tree.cut -/
noncomputable def p100 (b : Bool) (cf : CallFn) (k : Nat) (t0 t1 : AV) (H : Heap) : Option (AV × Heap) :=
  bindE (mBin (cfg b) 138 true .eql t0 (AV.c .nilp) H) fun t10_0 H_1 =>
  bindE (guardR (wantR false t10_0) (some (t0, H_1)) H_1) fun t12_2 H_3 =>
  bindE (guardR (wantR false t10_0) (mNil t12_2 H_3) H_3) fun t13_4 H_5 =>
  bindE (guardR (wantR false t10_0) (mFA 0 0 t13_4 H_5) H_5) fun t14_6 H_7 =>
  bindE (guardR (wantR false t10_0) (mFA 2 2 t14_6 H_7) H_7) fun t15_8 H_9 =>
  bindE (guardR (wantR false t10_0) (mLoad false 1 t15_8 H_9) H_9) fun t16_10 H_11 =>
  bindE (guardR (wantR false t10_0) (mBin (cfg b) 3 true .eql t16_10 (AV.c (.int .i64 0)) H_11) H_11) fun t17_12 H_13 =>
  bindE (guardR (wantR false t10_0) (some (t17_12, H_13)) H_13) fun t18_14 H_15 =>
  bindE (guardR (wantR true t18_14) (some (t0, H_15)) H_15) fun t19_16 H_17 =>
  bindE (guardR (wantR true t18_14) (mNil t19_16 H_17) H_17) fun t20_18 H_19 =>
  bindE (guardR (wantR true t18_14) (mFA 0 0 t20_18 H_19) H_19) fun t21_20 H_21 =>
  bindE (guardR (wantR true t18_14) (mFA 0 0 t21_20 H_21) H_21) fun t22_22 H_23 =>
  bindE (guardR (wantR true t18_14) (mLoad false 1 t22_22 H_23) H_23) fun t23_24 H_25 =>
  bindE (guardR (wantR true t18_14) (some (t1, H_25)) H_25) fun t24_26 H_27 =>
  bindE (guardR (wantR true t18_14) (cf 102 [t23_24, t24_26] H_27) H_27) fun t25_28 H_29 =>
  bindE (guardR (wantR true t18_14) (mUn .not t25_28 H_29) H_29) fun t26_30 H_31 =>
  bindE (guardR (wantR false t10_0) (mPick t18_14 t26_30 (AV.c (.bool false)) H_31) H_31) fun t27_32 H_33 =>
  bindE (mPick t10_0 (AV.c (.bool true)) t27_32 H_33) fun t28_34 H_35 =>
  condR t28_34 (endQ (cfg b) false k (resC1 (some t0) (resC1 (some (AV.c (.bool false))) (some []))) H_35) (bindE (mNil t0 H_35) fun t31_36 H_37 =>
  bindE (mFA 0 0 t31_36 H_37) fun t32_38 H_39 =>
  bindE (mFA 2 2 t32_38 H_39) fun t33_40 H_41 =>
  bindE (mLoad false 1 t33_40 H_41) fun t34_42 H_43 =>
  bindE (mBin (cfg b) 3 true .eql t34_42 (AV.c (.int .i64 0)) H_43) fun t35_44 H_45 =>
  condR t35_44 (endQ (cfg b) false k (resC1 (some (AV.c .nilp)) (resC1 (some (AV.c (.bool true))) (some []))) H_45) (afterD (twice [0, 1, 3, 7, 0, 16, 48, 112, 15, 511, 1023] (fun H_46 => bindE (drawM (some t0) H_46) fun t36_47 H_48 =>
  bindE (drawR true [t36_47.1] (fun F => mNil t36_47.1 F) H_48) fun t37_49 H_50 =>
  bindE (drawR true [t37_49.1] (fun F => mFA 2 100 t37_49.1 F) H_50) fun t38_51 H_52 =>
  bindE (drawR true [t38_51.1] (fun F => mLoad false 1 t38_51.1 F) H_52) fun t39_53 H_54 =>
  bindE (drawM (some t0) H_54) fun t40_55 H_56 =>
  bindE (drawR true [t40_55.1] (fun F => mNil t40_55.1 F) H_56) fun t41_57 H_58 =>
  bindE (drawR true [t41_57.1] (fun F => mFA 3 101 t41_57.1 F) H_58) fun t42_59 H_60 =>
  bindE (drawR true [t42_59.1] (fun F => mLoad false 1 t42_59.1 F) H_60) fun t43_61 H_62 =>
  bindE (drawM (some t39_53.1) H_62) fun t6_63 H_64 =>
  bindE (drawM (some t43_61.1) H_64) fun t7_65 H_66 =>
  bindE (drawM (some (AV.c (.bool false))) H_66) fun t8_67 H_68 =>
  some (([t6_63.1, t7_65.1], [t36_47.2, t37_49.2, t38_51.2, t39_53.2, t40_55.2, t41_57.2, t42_59.2, t43_61.2, t6_63.2, t7_65.2, t8_67.2]), H_68)) H_45) fun vs_69 H_70 =>
  un vs_69 fun t6_71 vs_72 => un vs_72 fun t7_73 vs_74 => un0 vs_74 (bindE (mNil t0 H_70) fun t46_75 H_76 =>
  bindE (mFA 0 0 t46_75 H_76) fun t47_77 H_78 =>
  bindE (mFA 0 0 t47_77 H_78) fun t48_79 H_80 =>
  bindE (mLoad false 1 t48_79 H_80) fun t49_81 H_82 =>
  bindE (cf 101 [t1, t49_81] H_82) fun t50_83 H_84 =>
  bindE (mBin (cfg b) 3 true .lss t50_83 (AV.c (.int .i64 0)) H_84) fun t51_85 H_86 =>
  condR t51_85 (bindE (cf 100 [t6_71, t1] H_86) fun t55_87 H_88 =>
  bindE (mExtract 0 t55_87 H_88) fun t56_89 H_90 =>
  bindE (mExtract 1 t55_87 H_90) fun t57_91 H_92 =>
  bindE (mUn .not t57_91 H_92) fun t66_93 H_94 =>
  condR t66_93 (endQ (cfg b) false k (resC1 (some t0) (resC1 (some (AV.c (.bool false))) (some []))) H_94) (bindE (mBin (cfg b) 138 true .eql t56_89 (AV.c .nilp) H_94) fun t70_95 H_96 =>
  condR t70_95 (endQ (cfg b) false k (resC1 (some t7_73) (resC1 (some (AV.c (.bool true))) (some []))) H_96) (bindE (mBin (cfg b) 138 true .eql t7_73 (AV.c .nilp) H_96) fun t74_97 H_98 =>
  condR t74_97 (endQ (cfg b) false k (resC1 (some t56_89) (resC1 (some (AV.c (.bool true))) (some []))) H_98) (bindE (cf 124 [t56_89, t7_73] H_98) fun t78_99 H_100 =>
  endQ (cfg b) false k (resC1 (some t78_99) (resC1 (some (AV.c (.bool true))) (some []))) H_100)))) (bindE (cf 100 [t7_73, t1] H_86) fun t61_101 H_102 =>
  bindE (mExtract 0 t61_101 H_102) fun t62_103 H_104 =>
  bindE (mExtract 1 t61_101 H_104) fun t63_105 H_106 =>
  bindE (mUn .not t63_105 H_106) fun t66_107 H_108 =>
  condR t66_107 (endQ (cfg b) false k (resC1 (some t0) (resC1 (some (AV.c (.bool false))) (some []))) H_108) (bindE (mBin (cfg b) 138 true .eql t6_71 (AV.c .nilp) H_108) fun t70_109 H_110 =>
  condR t70_109 (endQ (cfg b) false k (resC1 (some t62_103) (resC1 (some (AV.c (.bool true))) (some []))) H_110) (bindE (mBin (cfg b) 138 true .eql t62_103 (AV.c .nilp) H_110) fun t74_111 H_112 =>
  condR t74_111 (endQ (cfg b) false k (resC1 (some t6_71) (resC1 (some (AV.c (.bool true))) (some []))) H_112) (bindE (cf 124 [t6_71, t62_103] H_112) fun t78_113 H_114 =>
  endQ (cfg b) false k (resC1 (some t78_113) (resC1 (some (AV.c (.bool true))) (some []))) H_114)))))))
/-- bytes.Equal -/
noncomputable def p102 (b : Bool) (cf : CallFn) (k : Nat) (t0 t1 : AV) (H : Heap) : Option (AV × Heap) :=
  bindE (mConvBS t0 H) fun t6_0 H_1 =>
  bindE (mConvBS t1 H_1) fun t8_2 H_3 =>
  bindE (mBin (cfg b) 9 false .eql t6_0 t8_2 H_3) fun t9_4 H_5 =>
  endQ (cfg b) false k (resC1 (some t9_4) (some [])) H_5
/-- ferryman/tree.leaf -/
noncomputable def p123 (b : Bool) (cf : CallFn) (k : Nat) (t0 t1 : AV) (H : Heap) : Option (AV × Heap) :=
  bindE (cf 103 [t0] H) fun t7_0 H_1 =>
  bindE (cf 103 [t1] H_1) fun t9_2 H_3 =>
  bindE (mBuildS [.nilsl, .nilsl, (.int .i64 0), (.int .u64 0), (.arr 32 .u8 (List.replicate 32 0)), (.arr 32 .u8 (List.replicate 32 0))] [(0, t7_0), (1, t9_2), (3, (AV.c (.int .u64 1)))] H_3) fun t10_4 H_5 =>
  bindE (mBuildS [(.agg [.nilsl, .nilsl, (.int .i64 0), (.int .u64 0), (.arr 32 .u8 (List.replicate 32 0)), (.arr 32 .u8 (List.replicate 32 0))]), (.arr 32 .u8 (List.replicate 32 0)), .nilp, .nilp] [(0, t10_4)] H_5) fun t11_6 H_7 =>
  bindE (mBox 145 t11_6 H_7) fun t12_8 H_9 =>
  bindE (mNil t12_8 H_9) fun t15_10 H_11 =>
  bindE (mFA 0 0 t15_10 H_11) fun t16_12 H_13 =>
  bindE (mLoad true 68 t16_12 H_13) fun t17_14 H_15 =>
  bindE (cf 49 [t17_14] H_15) fun t18_16 H_17 =>
  bindE (mNil t12_8 H_17) fun t19_18 H_19 =>
  bindE (mFA 1 68 t19_18 H_19) fun t20_20 H_21 =>
  bindE (mStore true 32 t20_20 t18_16 H_21) fun u_22 H_23 =>
  endQ (cfg b) false k (resC1 (some t12_8) (some [])) H_23
/-- ferryman/tree.balanced -/
noncomputable def p124 (b : Bool) (cf : CallFn) (k : Nat) (t0 t1 : AV) (H : Heap) : Option (AV × Heap) :=
  afterD (twice [0, 1, 3, 7, 15, 0, 32, 96, 224, 480, 992, 2047, 4095] (fun H_0 => bindE (drawM (some t0) H_0) fun t6_1 H_2 =>
  bindE (drawR true [t6_1.1] (fun F => mNil t6_1.1 F) H_2) fun t7_3 H_4 =>
  bindE (drawR true [t7_3.1] (fun F => mFA 0 0 t7_3.1 F) H_4) fun t8_5 H_6 =>
  bindE (drawR true [t8_5.1] (fun F => mFA 2 2 t8_5.1 F) H_6) fun t9_7 H_8 =>
  bindE (drawR true [t9_7.1] (fun F => mLoad false 1 t9_7.1 F) H_8) fun t10_9 H_10 =>
  bindE (drawM (some t1) H_10) fun t11_11 H_12 =>
  bindE (drawR true [t11_11.1] (fun F => mNil t11_11.1 F) H_12) fun t12_13 H_14 =>
  bindE (drawR true [t12_13.1] (fun F => mFA 0 0 t12_13.1 F) H_14) fun t13_15 H_16 =>
  bindE (drawR true [t13_15.1] (fun F => mFA 2 2 t13_15.1 F) H_16) fun t14_17 H_18 =>
  bindE (drawR true [t14_17.1] (fun F => mLoad false 1 t14_17.1 F) H_18) fun t15_19 H_20 =>
  bindE (drawR true [t15_19.1] (fun F => mBin (cfg b) 3 true .add t15_19.1 (AV.c (.int .i64 1)) F) H_20) fun t16_21 H_22 =>
  bindE (drawR true [t10_9.1, t16_21.1] (fun F => mBin (cfg b) 3 false .gtr t10_9.1 t16_21.1 F) H_22) fun t17_23 H_24 =>
  bindE (drawM (some t17_23.1) H_24) fun t5_25 H_26 =>
  some (([t5_25.1], [t6_1.2, t7_3.2, t8_5.2, t9_7.2, t10_9.2, t11_11.2, t12_13.2, t13_15.2, t14_17.2, t15_19.2, t16_21.2, t17_23.2, t5_25.2]), H_26)) H) fun vs_27 H_28 =>
  un vs_27 fun t5_29 vs_30 => un0 vs_30 (condR t5_29 (afterD (twice [0, 1, 3, 7, 15, 31, 63, 127, 0, 256, 768, 1792, 3840, 7936, 16128, 32512, 65535] (fun H_31 => bindE (drawM (some t0) H_31) fun t18_32 H_33 =>
  bindE (drawR true [t18_32.1] (fun F => mNil t18_32.1 F) H_33) fun t19_34 H_35 =>
  bindE (drawR true [t19_34.1] (fun F => mFA 2 100 t19_34.1 F) H_35) fun t20_36 H_37 =>
  bindE (drawR true [t20_36.1] (fun F => mLoad false 1 t20_36.1 F) H_37) fun t21_38 H_39 =>
  bindE (drawR true [t21_38.1] (fun F => mNil t21_38.1 F) H_39) fun t22_40 H_41 =>
  bindE (drawR true [t22_40.1] (fun F => mFA 0 0 t22_40.1 F) H_41) fun t23_42 H_43 =>
  bindE (drawR true [t23_42.1] (fun F => mFA 2 2 t23_42.1 F) H_43) fun t24_44 H_45 =>
  bindE (drawR true [t24_44.1] (fun F => mLoad false 1 t24_44.1 F) H_45) fun t25_46 H_47 =>
  bindE (drawM (some t0) H_47) fun t26_48 H_49 =>
  bindE (drawR true [t26_48.1] (fun F => mNil t26_48.1 F) H_49) fun t27_50 H_51 =>
  bindE (drawR true [t27_50.1] (fun F => mFA 3 101 t27_50.1 F) H_51) fun t28_52 H_53 =>
  bindE (drawR true [t28_52.1] (fun F => mLoad false 1 t28_52.1 F) H_53) fun t29_54 H_55 =>
  bindE (drawR true [t29_54.1] (fun F => mNil t29_54.1 F) H_55) fun t30_56 H_57 =>
  bindE (drawR true [t30_56.1] (fun F => mFA 0 0 t30_56.1 F) H_57) fun t31_58 H_59 =>
  bindE (drawR true [t31_58.1] (fun F => mFA 2 2 t31_58.1 F) H_59) fun t32_60 H_61 =>
  bindE (drawR true [t32_60.1] (fun F => mLoad false 1 t32_60.1 F) H_61) fun t33_62 H_63 =>
  bindE (drawR true [t25_46.1, t33_62.1] (fun F => mBin (cfg b) 3 false .lss t25_46.1 t33_62.1 F) H_63) fun t34_64 H_65 =>
  some (([t34_64.1], [t18_32.2, t19_34.2, t20_36.2, t21_38.2, t22_40.2, t23_42.2, t24_44.2, t25_46.2, t26_48.2, t27_50.2, t28_52.2, t29_54.2, t30_56.2, t31_58.2, t32_60.2, t33_62.2, t34_64.2]), H_65)) H_28) fun vs_66 H_67 =>
  un vs_66 fun t34_68 vs_69 => un0 vs_69 (condR t34_68 (afterD (twice [0, 1, 3, 7, 0, 16, 48, 112, 240, 496, 1008, 2047, 0, 4096, 12288, 28672, 61440, 126976, 258048, 0, 1048575, 2097151, 4194303] (fun H_70 => bindE (drawM (some t0) H_70) fun t35_71 H_72 =>
  bindE (drawR true [t35_71.1] (fun F => mNil t35_71.1 F) H_72) fun t36_73 H_74 =>
  bindE (drawR true [t36_73.1] (fun F => mFA 2 100 t36_73.1 F) H_74) fun t37_75 H_76 =>
  bindE (drawR true [t37_75.1] (fun F => mLoad false 1 t37_75.1 F) H_76) fun t38_77 H_78 =>
  bindE (drawM (some t0) H_78) fun t39_79 H_80 =>
  bindE (drawR true [t39_79.1] (fun F => mNil t39_79.1 F) H_80) fun t40_81 H_82 =>
  bindE (drawR true [t40_81.1] (fun F => mFA 3 101 t40_81.1 F) H_82) fun t41_83 H_84 =>
  bindE (drawR true [t41_83.1] (fun F => mLoad false 1 t41_83.1 F) H_84) fun t42_85 H_86 =>
  bindE (drawR true [t42_85.1] (fun F => mNil t42_85.1 F) H_86) fun t43_87 H_88 =>
  bindE (drawR true [t43_87.1] (fun F => mFA 2 100 t43_87.1 F) H_88) fun t44_89 H_90 =>
  bindE (drawR true [t44_89.1] (fun F => mLoad false 1 t44_89.1 F) H_90) fun t45_91 H_92 =>
  bindE (drawR false [t38_77.1, t45_91.1] (fun F => cf 125 [t38_77.1, t45_91.1] F) H_92) fun t46_93 H_94 =>
  bindE (drawM (some t0) H_94) fun t47_95 H_96 =>
  bindE (drawR true [t47_95.1] (fun F => mNil t47_95.1 F) H_96) fun t48_97 H_98 =>
  bindE (drawR true [t48_97.1] (fun F => mFA 3 101 t48_97.1 F) H_98) fun t49_99 H_100 =>
  bindE (drawR true [t49_99.1] (fun F => mLoad false 1 t49_99.1 F) H_100) fun t50_101 H_102 =>
  bindE (drawR true [t50_101.1] (fun F => mNil t50_101.1 F) H_102) fun t51_103 H_104 =>
  bindE (drawR true [t51_103.1] (fun F => mFA 3 101 t51_103.1 F) H_104) fun t52_105 H_106 =>
  bindE (drawR true [t52_105.1] (fun F => mLoad false 1 t52_105.1 F) H_106) fun t53_107 H_108 =>
  bindE (drawM (some t1) H_108) fun t54_109 H_110 =>
  bindE (drawR false [t53_107.1, t54_109.1] (fun F => cf 125 [t53_107.1, t54_109.1] F) H_110) fun t55_111 H_112 =>
  bindE (drawR false [t46_93.1, t55_111.1] (fun F => cf 125 [t46_93.1, t55_111.1] F) H_112) fun t56_113 H_114 =>
  bindE (drawM (some t56_113.1) H_114) fun t4_115 H_116 =>
  some (([t4_115.1], [t35_71.2, t36_73.2, t37_75.2, t38_77.2, t39_79.2, t40_81.2, t41_83.2, t42_85.2, t43_87.2, t44_89.2, t45_91.2, t46_93.2, t47_95.2, t48_97.2, t49_99.2, t50_101.2, t51_103.2, t52_105.2, t53_107.2, t54_109.2, t55_111.2, t56_113.2, t4_115.2]), H_116)) H_67) fun vs_117 H_118 =>
  un vs_117 fun t4_119 vs_120 => un0 vs_120 (endQ (cfg b) false k (resC1 (some t4_119) (some [])) H_118)) (afterD (twice [0, 1, 3, 7, 0, 16, 48, 112, 0, 496, 1023, 2047] (fun H_121 => bindE (drawM (some t0) H_121) fun t57_122 H_123 =>
  bindE (drawR true [t57_122.1] (fun F => mNil t57_122.1 F) H_123) fun t58_124 H_125 =>
  bindE (drawR true [t58_124.1] (fun F => mFA 2 100 t58_124.1 F) H_125) fun t59_126 H_127 =>
  bindE (drawR true [t59_126.1] (fun F => mLoad false 1 t59_126.1 F) H_127) fun t60_128 H_129 =>
  bindE (drawM (some t0) H_129) fun t61_130 H_131 =>
  bindE (drawR true [t61_130.1] (fun F => mNil t61_130.1 F) H_131) fun t62_132 H_133 =>
  bindE (drawR true [t62_132.1] (fun F => mFA 3 101 t62_132.1 F) H_133) fun t63_134 H_135 =>
  bindE (drawR true [t63_134.1] (fun F => mLoad false 1 t63_134.1 F) H_135) fun t64_136 H_137 =>
  bindE (drawM (some t1) H_137) fun t65_138 H_139 =>
  bindE (drawR false [t64_136.1, t65_138.1] (fun F => cf 125 [t64_136.1, t65_138.1] F) H_139) fun t66_140 H_141 =>
  bindE (drawR false [t60_128.1, t66_140.1] (fun F => cf 125 [t60_128.1, t66_140.1] F) H_141) fun t67_142 H_143 =>
  bindE (drawM (some t67_142.1) H_143) fun t4_144 H_145 =>
  some (([t4_144.1], [t57_122.2, t58_124.2, t59_126.2, t60_128.2, t61_130.2, t62_132.2, t63_134.2, t64_136.2, t65_138.2, t66_140.2, t67_142.2, t4_144.2]), H_145)) H_67) fun vs_146 H_147 =>
  un vs_146 fun t4_148 vs_149 => un0 vs_149 (endQ (cfg b) false k (resC1 (some t4_148) (some [])) H_147)))) (afterD (twice [0, 1, 3, 7, 15, 0, 32, 96, 224, 480, 992, 2047, 4095] (fun H_150 => bindE (drawM (some t1) H_150) fun t69_151 H_152 =>
  bindE (drawR true [t69_151.1] (fun F => mNil t69_151.1 F) H_152) fun t70_153 H_154 =>
  bindE (drawR true [t70_153.1] (fun F => mFA 0 0 t70_153.1 F) H_154) fun t71_155 H_156 =>
  bindE (drawR true [t71_155.1] (fun F => mFA 2 2 t71_155.1 F) H_156) fun t72_157 H_158 =>
  bindE (drawR true [t72_157.1] (fun F => mLoad false 1 t72_157.1 F) H_158) fun t73_159 H_160 =>
  bindE (drawM (some t0) H_160) fun t74_161 H_162 =>
  bindE (drawR true [t74_161.1] (fun F => mNil t74_161.1 F) H_162) fun t75_163 H_164 =>
  bindE (drawR true [t75_163.1] (fun F => mFA 0 0 t75_163.1 F) H_164) fun t76_165 H_166 =>
  bindE (drawR true [t76_165.1] (fun F => mFA 2 2 t76_165.1 F) H_166) fun t77_167 H_168 =>
  bindE (drawR true [t77_167.1] (fun F => mLoad false 1 t77_167.1 F) H_168) fun t78_169 H_170 =>
  bindE (drawR true [t78_169.1] (fun F => mBin (cfg b) 3 true .add t78_169.1 (AV.c (.int .i64 1)) F) H_170) fun t79_171 H_172 =>
  bindE (drawR true [t73_159.1, t79_171.1] (fun F => mBin (cfg b) 3 false .gtr t73_159.1 t79_171.1 F) H_172) fun t80_173 H_174 =>
  bindE (drawM (some t80_173.1) H_174) fun t68_175 H_176 =>
  some (([t68_175.1], [t69_151.2, t70_153.2, t71_155.2, t72_157.2, t73_159.2, t74_161.2, t75_163.2, t76_165.2, t77_167.2, t78_169.2, t79_171.2, t80_173.2, t68_175.2]), H_176)) H_28) fun vs_177 H_178 =>
  un vs_177 fun t68_179 vs_180 => un0 vs_180 (condR t68_179 (afterD (twice [0, 1, 3, 7, 15, 31, 63, 127, 0, 256, 768, 1792, 3840, 7936, 16128, 32512, 65535] (fun H_181 => bindE (drawM (some t1) H_181) fun t81_182 H_183 =>
  bindE (drawR true [t81_182.1] (fun F => mNil t81_182.1 F) H_183) fun t82_184 H_185 =>
  bindE (drawR true [t82_184.1] (fun F => mFA 3 101 t82_184.1 F) H_185) fun t83_186 H_187 =>
  bindE (drawR true [t83_186.1] (fun F => mLoad false 1 t83_186.1 F) H_187) fun t84_188 H_189 =>
  bindE (drawR true [t84_188.1] (fun F => mNil t84_188.1 F) H_189) fun t85_190 H_191 =>
  bindE (drawR true [t85_190.1] (fun F => mFA 0 0 t85_190.1 F) H_191) fun t86_192 H_193 =>
  bindE (drawR true [t86_192.1] (fun F => mFA 2 2 t86_192.1 F) H_193) fun t87_194 H_195 =>
  bindE (drawR true [t87_194.1] (fun F => mLoad false 1 t87_194.1 F) H_195) fun t88_196 H_197 =>
  bindE (drawM (some t1) H_197) fun t89_198 H_199 =>
  bindE (drawR true [t89_198.1] (fun F => mNil t89_198.1 F) H_199) fun t90_200 H_201 =>
  bindE (drawR true [t90_200.1] (fun F => mFA 2 100 t90_200.1 F) H_201) fun t91_202 H_203 =>
  bindE (drawR true [t91_202.1] (fun F => mLoad false 1 t91_202.1 F) H_203) fun t92_204 H_205 =>
  bindE (drawR true [t92_204.1] (fun F => mNil t92_204.1 F) H_205) fun t93_206 H_207 =>
  bindE (drawR true [t93_206.1] (fun F => mFA 0 0 t93_206.1 F) H_207) fun t94_208 H_209 =>
  bindE (drawR true [t94_208.1] (fun F => mFA 2 2 t94_208.1 F) H_209) fun t95_210 H_211 =>
  bindE (drawR true [t95_210.1] (fun F => mLoad false 1 t95_210.1 F) H_211) fun t96_212 H_213 =>
  bindE (drawR true [t88_196.1, t96_212.1] (fun F => mBin (cfg b) 3 false .lss t88_196.1 t96_212.1 F) H_213) fun t97_214 H_215 =>
  some (([t97_214.1], [t81_182.2, t82_184.2, t83_186.2, t84_188.2, t85_190.2, t86_192.2, t87_194.2, t88_196.2, t89_198.2, t90_200.2, t91_202.2, t92_204.2, t93_206.2, t94_208.2, t95_210.2, t96_212.2, t97_214.2]), H_215)) H_178) fun vs_216 H_217 =>
  un vs_216 fun t97_218 vs_219 => un0 vs_219 (condR t97_218 (afterD (twice [0, 0, 2, 6, 14, 30, 62, 126, 255, 0, 512, 1536, 3584, 7680, 15872, 32256, 0, 65536, 196608, 458752, 1048575, 2097151, 4194303] (fun H_220 => bindE (drawM (some t0) H_220) fun t98_221 H_222 =>
  bindE (drawM (some t1) H_222) fun t99_223 H_224 =>
  bindE (drawR true [t99_223.1] (fun F => mNil t99_223.1 F) H_224) fun t100_225 H_226 =>
  bindE (drawR true [t100_225.1] (fun F => mFA 2 100 t100_225.1 F) H_226) fun t101_227 H_228 =>
  bindE (drawR true [t101_227.1] (fun F => mLoad false 1 t101_227.1 F) H_228) fun t102_229 H_230 =>
  bindE (drawR true [t102_229.1] (fun F => mNil t102_229.1 F) H_230) fun t103_231 H_232 =>
  bindE (drawR true [t103_231.1] (fun F => mFA 2 100 t103_231.1 F) H_232) fun t104_233 H_234 =>
  bindE (drawR true [t104_233.1] (fun F => mLoad false 1 t104_233.1 F) H_234) fun t105_235 H_236 =>
  bindE (drawR false [t98_221.1, t105_235.1] (fun F => cf 125 [t98_221.1, t105_235.1] F) H_236) fun t106_237 H_238 =>
  bindE (drawM (some t1) H_238) fun t107_239 H_240 =>
  bindE (drawR true [t107_239.1] (fun F => mNil t107_239.1 F) H_240) fun t108_241 H_242 =>
  bindE (drawR true [t108_241.1] (fun F => mFA 2 100 t108_241.1 F) H_242) fun t109_243 H_244 =>
  bindE (drawR true [t109_243.1] (fun F => mLoad false 1 t109_243.1 F) H_244) fun t110_245 H_246 =>
  bindE (drawR true [t110_245.1] (fun F => mNil t110_245.1 F) H_246) fun t111_247 H_248 =>
  bindE (drawR true [t111_247.1] (fun F => mFA 3 101 t111_247.1 F) H_248) fun t112_249 H_250 =>
  bindE (drawR true [t112_249.1] (fun F => mLoad false 1 t112_249.1 F) H_250) fun t113_251 H_252 =>
  bindE (drawM (some t1) H_252) fun t114_253 H_254 =>
  bindE (drawR true [t114_253.1] (fun F => mNil t114_253.1 F) H_254) fun t115_255 H_256 =>
  bindE (drawR true [t115_255.1] (fun F => mFA 3 101 t115_255.1 F) H_256) fun t116_257 H_258 =>
  bindE (drawR true [t116_257.1] (fun F => mLoad false 1 t116_257.1 F) H_258) fun t117_259 H_260 =>
  bindE (drawR false [t113_251.1, t117_259.1] (fun F => cf 125 [t113_251.1, t117_259.1] F) H_260) fun t118_261 H_262 =>
  bindE (drawR false [t106_237.1, t118_261.1] (fun F => cf 125 [t106_237.1, t118_261.1] F) H_262) fun t119_263 H_264 =>
  bindE (drawM (some t119_263.1) H_264) fun t4_265 H_266 =>
  some (([t4_265.1], [t98_221.2, t99_223.2, t100_225.2, t101_227.2, t102_229.2, t103_231.2, t104_233.2, t105_235.2, t106_237.2, t107_239.2, t108_241.2, t109_243.2, t110_245.2, t111_247.2, t112_249.2, t113_251.2, t114_253.2, t115_255.2, t116_257.2, t117_259.2, t118_261.2, t119_263.2, t4_265.2]), H_266)) H_217) fun vs_267 H_268 =>
  un vs_267 fun t4_269 vs_270 => un0 vs_270 (endQ (cfg b) false k (resC1 (some t4_269) (some [])) H_268)) (afterD (twice [0, 0, 2, 6, 14, 31, 0, 64, 192, 448, 1023, 2047] (fun H_271 => bindE (drawM (some t0) H_271) fun t120_272 H_273 =>
  bindE (drawM (some t1) H_273) fun t121_274 H_275 =>
  bindE (drawR true [t121_274.1] (fun F => mNil t121_274.1 F) H_275) fun t122_276 H_277 =>
  bindE (drawR true [t122_276.1] (fun F => mFA 2 100 t122_276.1 F) H_277) fun t123_278 H_279 =>
  bindE (drawR true [t123_278.1] (fun F => mLoad false 1 t123_278.1 F) H_279) fun t124_280 H_281 =>
  bindE (drawR false [t120_272.1, t124_280.1] (fun F => cf 125 [t120_272.1, t124_280.1] F) H_281) fun t125_282 H_283 =>
  bindE (drawM (some t1) H_283) fun t126_284 H_285 =>
  bindE (drawR true [t126_284.1] (fun F => mNil t126_284.1 F) H_285) fun t127_286 H_287 =>
  bindE (drawR true [t127_286.1] (fun F => mFA 3 101 t127_286.1 F) H_287) fun t128_288 H_289 =>
  bindE (drawR true [t128_288.1] (fun F => mLoad false 1 t128_288.1 F) H_289) fun t129_290 H_291 =>
  bindE (drawR false [t125_282.1, t129_290.1] (fun F => cf 125 [t125_282.1, t129_290.1] F) H_291) fun t130_292 H_293 =>
  bindE (drawM (some t130_292.1) H_293) fun t4_294 H_295 =>
  some (([t4_294.1], [t120_272.2, t121_274.2, t122_276.2, t123_278.2, t124_280.2, t125_282.2, t126_284.2, t127_286.2, t128_288.2, t129_290.2, t130_292.2, t4_294.2]), H_295)) H_217) fun vs_296 H_297 =>
  un vs_296 fun t4_298 vs_299 => un0 vs_299 (endQ (cfg b) false k (resC1 (some t4_298) (some [])) H_297)))) (bindE (cf 125 [t0, t1] H_178) fun t133_300 H_301 =>
  endQ (cfg b) false k (resC1 (some t133_300) (some [])) H_301))))
/-- ferryman/tree.inner -/
noncomputable def p125 (b : Bool) (cf : CallFn) (k : Nat) (t0 t1 : AV) (H : Heap) : Option (AV × Heap) :=
  bindE (mBuildS [(.agg [.nilsl, .nilsl, (.int .i64 0), (.int .u64 0), (.arr 32 .u8 (List.replicate 32 0)), (.arr 32 .u8 (List.replicate 32 0))]), (.arr 32 .u8 (List.replicate 32 0)), .nilp, .nilp] [(2, t0), (3, t1)] H) fun t8_0 H_1 =>
  bindE (mBox 145 t8_0 H_1) fun t9_2 H_3 =>
  afterD (twice [0, 0, 2, 0, 8, 24, 56, 120, 0, 256, 768, 1792, 3840, 8184, 16376, 0, 32768, 98304, 229376, 491520, 0, 1048576, 3145728, 7340032, 15728640, 33521664, 0, 67108864, 201326592, 469762048, 0, 1073741824, 3221225472, 7516192768, 17179869182, 34359738367, 68719476735, 137438953471] (fun H_4 => bindE (drawM (some t9_2) H_4) fun t10_5 H_6 =>
  bindE (drawM (some t1) H_6) fun t11_7 H_8 =>
  bindE (drawR false [t11_7.1] (fun F => cf 144 [t11_7.1] F) H_8) fun t12_9 H_10 =>
  bindE (drawM (some t0) H_10) fun t13_11 H_12 =>
  bindE (drawR true [t13_11.1] (fun F => mNil t13_11.1 F) H_12) fun t14_13 H_14 =>
  bindE (drawR true [t14_13.1] (fun F => mFA 0 0 t14_13.1 F) H_14) fun t15_15 H_16 =>
  bindE (drawR true [t15_15.1] (fun F => mFA 2 2 t15_15.1 F) H_16) fun t16_17 H_18 =>
  bindE (drawR true [t16_17.1] (fun F => mLoad false 1 t16_17.1 F) H_18) fun t17_19 H_20 =>
  bindE (drawM (some t1) H_20) fun t18_21 H_22 =>
  bindE (drawR true [t18_21.1] (fun F => mNil t18_21.1 F) H_22) fun t19_23 H_24 =>
  bindE (drawR true [t19_23.1] (fun F => mFA 0 0 t19_23.1 F) H_24) fun t20_25 H_26 =>
  bindE (drawR true [t20_25.1] (fun F => mFA 2 2 t20_25.1 F) H_26) fun t21_27 H_28 =>
  bindE (drawR true [t21_27.1] (fun F => mLoad false 1 t21_27.1 F) H_28) fun t22_29 H_30 =>
  bindE (drawR true [t17_19.1, t22_29.1] (fun F => mMax [t17_19.1, t22_29.1] F) H_30) fun t23_31 H_32 =>
  bindE (drawR true [t23_31.1] (fun F => mBin (cfg b) 3 true .add (AV.c (.int .i64 1)) t23_31.1 F) H_32) fun t24_33 H_34 =>
  bindE (drawM (some t0) H_34) fun t25_35 H_36 =>
  bindE (drawR true [t25_35.1] (fun F => mNil t25_35.1 F) H_36) fun t26_37 H_38 =>
  bindE (drawR true [t26_37.1] (fun F => mFA 0 0 t26_37.1 F) H_38) fun t27_39 H_40 =>
  bindE (drawR true [t27_39.1] (fun F => mFA 3 3 t27_39.1 F) H_40) fun t28_41 H_42 =>
  bindE (drawR true [t28_41.1] (fun F => mLoad false 1 t28_41.1 F) H_42) fun t29_43 H_44 =>
  bindE (drawM (some t1) H_44) fun t30_45 H_46 =>
  bindE (drawR true [t30_45.1] (fun F => mNil t30_45.1 F) H_46) fun t31_47 H_48 =>
  bindE (drawR true [t31_47.1] (fun F => mFA 0 0 t31_47.1 F) H_48) fun t32_49 H_50 =>
  bindE (drawR true [t32_49.1] (fun F => mFA 3 3 t32_49.1 F) H_50) fun t33_51 H_52 =>
  bindE (drawR true [t33_51.1] (fun F => mLoad false 1 t33_51.1 F) H_52) fun t34_53 H_54 =>
  bindE (drawR true [t29_43.1, t34_53.1] (fun F => mBin (cfg b) 22 false .add t29_43.1 t34_53.1 F) H_54) fun t35_55 H_56 =>
  bindE (drawM (some t0) H_56) fun t36_57 H_58 =>
  bindE (drawR true [t36_57.1] (fun F => mNil t36_57.1 F) H_58) fun t37_59 H_60 =>
  bindE (drawR true [t37_59.1] (fun F => mFA 1 68 t37_59.1 F) H_60) fun t38_61 H_62 =>
  bindE (drawR true [t38_61.1] (fun F => mLoad true 32 t38_61.1 F) H_62) fun t39_63 H_64 =>
  bindE (drawM (some t1) H_64) fun t40_65 H_66 =>
  bindE (drawR true [t40_65.1] (fun F => mNil t40_65.1 F) H_66) fun t41_67 H_68 =>
  bindE (drawR true [t41_67.1] (fun F => mFA 1 68 t41_67.1 F) H_68) fun t42_69 H_70 =>
  bindE (drawR true [t42_69.1] (fun F => mLoad true 32 t42_69.1 F) H_70) fun t43_71 H_72 =>
  bindE (drawR false [t12_9.1, t24_33.1, t35_55.1, t39_63.1, t43_71.1] (fun F => mBuildS [.nilsl, .nilsl, (.int .i64 0), (.int .u64 0), (.arr 32 .u8 (List.replicate 32 0)), (.arr 32 .u8 (List.replicate 32 0))] [(0, t12_9.1), (2, t24_33.1), (3, t35_55.1), (4, t39_63.1), (5, t43_71.1)] F) H_72) fun t44_73 H_74 =>
  bindE (drawR true [t10_5.1] (fun F => mNil t10_5.1 F) H_74) fun t45_75 H_76 =>
  bindE (drawR true [t45_75.1] (fun F => mFA 0 0 t45_75.1 F) H_76) fun t46_77 H_78 =>
  bindE (drawR false [t46_77.1, t44_73.1] (fun F => mStore true 68 t46_77.1 t44_73.1 F) H_78) fun u_79 H_80 =>
  some (([], [t10_5.2, t11_7.2, t12_9.2, t13_11.2, t14_13.2, t15_15.2, t16_17.2, t17_19.2, t18_21.2, t19_23.2, t20_25.2, t21_27.2, t22_29.2, t23_31.2, t24_33.2, t25_35.2, t26_37.2, t27_39.2, t28_41.2, t29_43.2, t30_45.2, t31_47.2, t32_49.2, t33_51.2, t34_53.2, t35_55.2, t36_57.2, t37_59.2, t38_61.2, t39_63.2, t40_65.2, t41_67.2, t42_69.2, t43_71.2, t44_73.2, t45_75.2, t46_77.2, u_79.2]), H_80)) H_3) fun vs_81 H_82 =>
  un0 vs_81 (bindE (mNil t9_2 H_82) fun t49_83 H_84 =>
  bindE (mFA 0 0 t49_83 H_84) fun t50_85 H_86 =>
  bindE (mLoad true 68 t50_85 H_86) fun t51_87 H_88 =>
  bindE (cf 49 [t51_87] H_88) fun t52_89 H_90 =>
  bindE (mNil t9_2 H_90) fun t53_91 H_92 =>
  bindE (mFA 1 68 t53_91 H_92) fun t54_93 H_94 =>
  bindE (mStore true 32 t54_93 t52_89 H_94) fun u_95 H_96 =>
  endQ (cfg b) false k (resC1 (some t9_2) (some [])) H_96)
noncomputable def p144_l0 (b : Bool) (cf : CallFn) (k : Nat) (s : List AV) (H : Heap) : Option (LStep × Heap) :=
  un s fun t0_0 vs_1 => un0 vs_1 (bindE (mNil t0_0 H) fun t4_2 H_3 =>
  bindE (mFA 2 100 t4_2 H_3) fun t5_4 H_5 =>
  bindE (mLoad false 1 t5_4 H_5) fun t6_6 H_7 =>
  bindE (mBin (cfg b) 138 true .neq t6_6 (AV.c .nilp) H_7) fun t7_8 H_9 =>
  condR t7_8 (bindE (mNil t0_0 H_9) fun t9_10 H_11 =>
  bindE (mFA 2 100 t9_10 H_11) fun t10_12 H_13 =>
  bindE (mLoad false 1 t10_12 H_13) fun t11_14 H_15 =>
  some (LStep.cont [t11_14], H_15)) (some (LStep.exit 0 [t0_0], H_9)))
/-- (*ferryman/tree.node).least -/
noncomputable def p144 (b : Bool) (cf : CallFn) (k : Nat) (t0 : AV) (H : Heap) : Option (AV × Heap) :=
  afterL 0 (loopX k (p144_l0 b cf k) [t0] H) (fun vs_16 H_17 =>
  un vs_16 fun t0_18 vs_19 => un0 vs_19 (bindE (mNil t0_18 H_17) fun t13_20 H_21 =>
  bindE (mFA 0 0 t13_20 H_21) fun t14_22 H_23 =>
  bindE (mFA 0 0 t14_22 H_23) fun t15_24 H_25 =>
  bindE (mLoad false 1 t15_24 H_25) fun t16_26 H_27 =>
  endQ (cfg b) false k (resC1 (some t16_26) (some [])) H_27)) (fun vs_16 H_17 => un vs_16 fun t0_28 vs_29 => un0 vs_29 (endQ (cfg b) false k (resC1 (some AV.any) (some [])) H_17))
theorem p36_eq (b : Bool) (cf : CallFn) (t0 t1 t2 : AV) (H : Heap) : runG (cfg b) cf An 36 [t0, t1, t2] H = p36 b cf H.length t0 t1 t2 H := by kernel_rfl
theorem p45_eq (b : Bool) (cf : CallFn) (t0 t1 : AV) (H : Heap) : runG (cfg b) cf An 45 [t0, t1] H = p45 b cf H.length t0 t1 H := by kernel_rfl
theorem p47_eq (b : Bool) (cf : CallFn) (t0 : AV) (H : Heap) : runG (cfg b) cf An 47 [t0] H = p47 b cf H.length t0 H := by kernel_rfl
theorem p49_eq (b : Bool) (cf : CallFn) (t0 : AV) (H : Heap) : runG (cfg b) cf An 49 [t0] H = p49 b cf H.length t0 H := by kernel_rfl
theorem p51_eq (b : Bool) (cf : CallFn) (t0 : AV) (H : Heap) : runG (cfg b) cf An 51 [t0] H = p51 b cf H.length t0 H := by kernel_rfl
theorem p61_eq (b : Bool) (cf : CallFn) (t0 t1 : AV) (H : Heap) : runG (cfg b) cf An 61 [t0, t1] H = p61 b cf H.length t0 t1 H := by kernel_rfl
theorem p63_eq (b : Bool) (cf : CallFn) (t0 t1 : AV) (H : Heap) : runG (cfg b) cf An 63 [t0, t1] H = p63 b cf H.length t0 t1 H := by kernel_rfl
theorem p91_eq (b : Bool) (cf : CallFn) (t0 t1 t2 : AV) (H : Heap) : runG (cfg b) cf An 91 [t0, t1, t2] H = p91 b cf H.length t0 t1 t2 H := by kernel_rfl
theorem p95_eq (b : Bool) (cf : CallFn) (t0 : AV) (H : Heap) : runG (cfg b) cf An 95 [t0] H = p95 b cf H.length t0 H := by kernel_rfl
theorem p96_eq (b : Bool) (cf : CallFn) (t0 : AV) (H : Heap) : runG (cfg b) cf An 96 [t0] H = p96 b cf H.length t0 H := by kernel_rfl
theorem p97_eq (b : Bool) (cf : CallFn) (t0 t1 : AV) (H : Heap) : runG (cfg b) cf An 97 [t0, t1] H = p97 b cf H.length t0 t1 H := by kernel_rfl
theorem p100_eq (b : Bool) (cf : CallFn) (t0 t1 : AV) (H : Heap) : runG (cfg b) cf An 100 [t0, t1] H = p100 b cf H.length t0 t1 H := by kernel_rfl
theorem p102_eq (b : Bool) (cf : CallFn) (t0 t1 : AV) (H : Heap) : runG (cfg b) cf An 102 [t0, t1] H = p102 b cf H.length t0 t1 H := by kernel_rfl
theorem p123_eq (b : Bool) (cf : CallFn) (t0 t1 : AV) (H : Heap) : runG (cfg b) cf An 123 [t0, t1] H = p123 b cf H.length t0 t1 H := by kernel_rfl
theorem p124_eq (b : Bool) (cf : CallFn) (t0 t1 : AV) (H : Heap) : runG (cfg b) cf An 124 [t0, t1] H = p124 b cf H.length t0 t1 H := by kernel_rfl
theorem p125_eq (b : Bool) (cf : CallFn) (t0 t1 : AV) (H : Heap) : runG (cfg b) cf An 125 [t0, t1] H = p125 b cf H.length t0 t1 H := by kernel_rfl
theorem p144_eq (b : Bool) (cf : CallFn) (t0 : AV) (H : Heap) : runG (cfg b) cf An 144 [t0] H = p144 b cf H.length t0 H := by kernel_rfl
end Go.Fm
