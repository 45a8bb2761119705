/-
  A part of the proof: DRef.
-/
import Derived.Test.YtjmjijgnbjkpnaaDAnn
set_option linter.all false
set_option autoImplicit true
/-
  What the interpreter does to functions, without slots and types; the kernel holds it against the code.
-/
set_option maxRecDepth 100000
set_option linter.unusedVariables false
namespace Go.Fm
open Go Go.Proofs
/-- (ferryman/ferrymanlaw05.Act).Key -/
noncomputable def p15 (b : Bool) (cf : CallFn) (k : Nat) (t0 : AV) (H : Heap) : Option (AV × Heap) :=
  bindE (mBox 49 t0 H) fun t1_0 H_1 =>
  bindE (mFA 2 2 t1_0 H_1) fun t3_2 H_3 =>
  bindE (mLoad false 1 t3_2 H_3) fun t4_4 H_5 =>
  bindE (mLenSl t4_4 H_5) fun t5_6 H_7 =>
  bindE (mBin (cfg b) 3 true .gtr t5_6 (AV.c (.int .i64 0)) H_7) fun t6_8 H_9 =>
  condR t6_8 (bindE (mFA 2 2 t1_0 H_9) fun t7_10 H_11 =>
  bindE (mLoad false 1 t7_10 H_11) fun t8_12 H_13 =>
  endQ (cfg b) false k (resC1 (some t8_12) (some [])) H_13) (bindE (mFA 1 1 t1_0 H_9) fun t9_14 H_15 =>
  bindE (mLoad false 1 t9_14 H_15) fun t10_16 H_17 =>
  bindE (mBin (cfg b) 5 true .rem t10_16 (AV.c (.int .u8 26)) H_17) fun t11_18 H_19 =>
  bindE (mBin (cfg b) 5 true .add (AV.c (.int .u8 97)) t11_18 H_19) fun t12_20 H_21 =>
  bindE (mFA 1 1 t1_0 H_21) fun t13_22 H_23 =>
  bindE (mLoad false 1 t13_22 H_23) fun t14_24 H_25 =>
  bindE (mBin (cfg b) 5 true .quo t14_24 (AV.c (.int .u8 26)) H_25) fun t15_26 H_27 =>
  bindE (mBin (cfg b) 5 true .add (AV.c (.int .u8 97)) t15_26 H_27) fun t16_28 H_29 =>
  bindE (mBuildSl 5 1 (.int .u8 0) 3 [(0, (AV.c (.int .u8 107))), (1, t12_20), (2, t16_28)] H_29) fun t17_30 H_31 =>
  endQ (cfg b) false k (resC1 (some t17_30) (some [])) H_31)
noncomputable def p16_l0 (b : Bool) (cf : CallFn) (k : Nat) (s : List AV) (H : Heap) : Option (LStep × Heap) :=
  un s fun t0_0 vs_1 => un vs_1 fun t1_2 vs_3 => un vs_3 fun t2_4 vs_5 => un vs_5 fun t7_6 vs_7 => un vs_7 fun t8_8 vs_9 => un0 vs_9 (afterD (twice [0, 0, 2, 7, 15, 31, 31, 127, 255, 511, 1023, 31, 2079, 8191, 16383] (fun H_10 => bindE (drawM (some t8_8) H_10) fun t9_11 H_12 =>
  bindE (drawM (some t0_0) H_12) fun t10_13 H_14 =>
  bindE (drawR true [t10_13.1] (fun F => mLenSl t10_13.1 F) H_14) fun t11_15 H_16 =>
  bindE (drawR true [t9_11.1, t11_15.1] (fun F => mBin (cfg b) 3 false .lss t9_11.1 t11_15.1 F) H_16) fun t12_17 H_18 =>
  bindE (drawM (some t12_17.1) H_18) fun t13_19 H_20 =>
  bindE (guardD (wantR true t13_19.1) (drawM (some t0_0) H_20) H_20) fun t14_21 H_22 =>
  bindE (guardD (wantR true t13_19.1) (drawM (some t8_8) H_22) H_22) fun t15_23 H_24 =>
  bindE (guardD (wantR true t13_19.1) (drawR true [t14_21.1, t15_23.1] (fun F => mIdxS 2 t14_21.1 t15_23.1 F) H_24) H_24) fun t16_25 H_26 =>
  bindE (guardD (wantR true t13_19.1) (drawR true [t16_25.1] (fun F => mFA 0 0 t16_25.1 F) H_26) H_26) fun t17_27 H_28 =>
  bindE (guardD (wantR true t13_19.1) (drawR true [t17_27.1] (fun F => mLoad false 1 t17_27.1 F) H_28) H_28) fun t18_29 H_30 =>
  bindE (guardD (wantR true t13_19.1) (drawR true [t18_29.1] (fun F => mConvBS t18_29.1 F) H_30) H_30) fun t19_31 H_32 =>
  bindE (guardD (wantR true t13_19.1) (drawM (some t1_2) H_32) H_32) fun t20_33 H_34 =>
  bindE (guardD (wantR true t13_19.1) (drawR true [t20_33.1] (fun F => mConvBS t20_33.1 F) H_34) H_34) fun t21_35 H_36 =>
  bindE (guardD (wantR true t13_19.1) (drawR true [t19_31.1, t21_35.1] (fun F => mBin (cfg b) 9 false .lss t19_31.1 t21_35.1 F) H_36) H_36) fun t22_37 H_38 =>
  bindE (drawR true [t13_19.1, t22_37.1] (fun F => mPick t13_19.1 t22_37.1 (AV.c (.bool false)) F) H_38) fun t23_39 H_40 =>
  some (([t23_39.1], [t9_11.2, t10_13.2, t11_15.2, t12_17.2, t13_19.2, t14_21.2, t15_23.2, t16_25.2, t17_27.2, t18_29.2, t19_31.2, t20_33.2, t21_35.2, t22_37.2, t23_39.2]), H_40)) H) fun vs_41 H_42 =>
  un vs_41 fun t23_43 vs_44 => un0 vs_44 (condR t23_43 (bindE (mIdxS 2 t0_0 t8_8 H_42) fun t27_45 H_46 =>
  bindE (mLoad true 2 t27_45 H_46) fun t28_47 H_48 =>
  bindE (mBuildSl 59 2 (.agg [.nilsl, .nilsl]) 1 [(0, t28_47)] H_48) fun t29_49 H_50 =>
  bindE (mAppend 59 2 48 false t7_6 t29_49 H_50) fun t30_51 H_52 =>
  bindE (mBin (cfg b) 3 true .add t8_8 (AV.c (.int .i64 1)) H_52) fun t32_53 H_54 =>
  some (LStep.cont [t0_0, t1_2, t2_4, t30_51, t32_53], H_54)) (some (LStep.exit 0 [t0_0, t1_2, t2_4, t7_6, t8_8], H_42))))
/-- ferryman/ferrymanref05.PutPair -/
noncomputable def p16 (b : Bool) (cf : CallFn) (k : Nat) (t0 t1 t2 : AV) (H : Heap) : Option (AV × Heap) :=
  afterL 0 (loopX k (p16_l0 b cf k) [t0, t1, t2, (AV.c .nilsl), (AV.c (.int .i64 0))] H) (fun vs_55 H_56 =>
  un vs_55 fun t0_57 vs_58 => un vs_58 fun t1_59 vs_60 => un vs_60 fun t2_61 vs_62 => un vs_62 fun t7_63 vs_64 => un vs_64 fun t8_65 vs_66 => un0 vs_66 (bindE (mBuildS [.nilsl, .nilsl] [(0, t1_59), (1, t2_61)] H_56) fun t36_67 H_68 =>
  bindE (mBuildSl 59 2 (.agg [.nilsl, .nilsl]) 1 [(0, t36_67)] H_68) fun t37_69 H_70 =>
  bindE (mAppend 59 2 48 false t7_63 t37_69 H_70) fun t38_71 H_72 =>
  afterD (twice [0, 0, 2, 7, 15, 31, 31, 127, 255, 511, 1023, 31, 2079, 8191, 16383] (fun H_73 => bindE (drawM (some t8_65) H_73) fun t39_74 H_75 =>
  bindE (drawM (some t0_57) H_75) fun t40_76 H_77 =>
  bindE (drawR true [t40_76.1] (fun F => mLenSl t40_76.1 F) H_77) fun t41_78 H_79 =>
  bindE (drawR true [t39_74.1, t41_78.1] (fun F => mBin (cfg b) 3 false .lss t39_74.1 t41_78.1 F) H_79) fun t42_80 H_81 =>
  bindE (drawM (some t42_80.1) H_81) fun t43_82 H_83 =>
  bindE (guardD (wantR true t43_82.1) (drawM (some t0_57) H_83) H_83) fun t44_84 H_85 =>
  bindE (guardD (wantR true t43_82.1) (drawM (some t8_65) H_85) H_85) fun t45_86 H_87 =>
  bindE (guardD (wantR true t43_82.1) (drawR true [t44_84.1, t45_86.1] (fun F => mIdxS 2 t44_84.1 t45_86.1 F) H_87) H_87) fun t46_88 H_89 =>
  bindE (guardD (wantR true t43_82.1) (drawR true [t46_88.1] (fun F => mFA 0 0 t46_88.1 F) H_89) H_89) fun t47_90 H_91 =>
  bindE (guardD (wantR true t43_82.1) (drawR true [t47_90.1] (fun F => mLoad false 1 t47_90.1 F) H_91) H_91) fun t48_92 H_93 =>
  bindE (guardD (wantR true t43_82.1) (drawR true [t48_92.1] (fun F => mConvBS t48_92.1 F) H_93) H_93) fun t49_94 H_95 =>
  bindE (guardD (wantR true t43_82.1) (drawM (some t1_59) H_95) H_95) fun t50_96 H_97 =>
  bindE (guardD (wantR true t43_82.1) (drawR true [t50_96.1] (fun F => mConvBS t50_96.1 F) H_97) H_97) fun t51_98 H_99 =>
  bindE (guardD (wantR true t43_82.1) (drawR true [t49_94.1, t51_98.1] (fun F => mBin (cfg b) 9 false .eql t49_94.1 t51_98.1 F) H_99) H_99) fun t52_100 H_101 =>
  bindE (drawR true [t43_82.1, t52_100.1] (fun F => mPick t43_82.1 t52_100.1 (AV.c (.bool false)) F) H_101) fun t53_102 H_103 =>
  some (([t53_102.1], [t39_74.2, t40_76.2, t41_78.2, t42_80.2, t43_82.2, t44_84.2, t45_86.2, t46_88.2, t47_90.2, t48_92.2, t49_94.2, t50_96.2, t51_98.2, t52_100.2, t53_102.2]), H_103)) H_72) fun vs_104 H_105 =>
  un vs_104 fun t53_106 vs_107 => un0 vs_107 (condR t53_106 (bindE (mBin (cfg b) 3 true .add t8_65 (AV.c (.int .i64 1)) H_105) fun t55_108 H_109 =>
  bindE (mSliceSl 2 t0_57 (some t55_108) none H_109) fun t59_110 H_111 =>
  bindE (mAppend 59 2 48 false t38_71 t59_110 H_111) fun t60_112 H_113 =>
  endQ (cfg b) false k (resC1 (some t60_112) (some [])) H_113) (bindE (mSliceSl 2 t0_57 (some t8_65) none H_105) fun t59_114 H_115 =>
  bindE (mAppend 59 2 48 false t38_71 t59_114 H_115) fun t60_116 H_117 =>
  endQ (cfg b) false k (resC1 (some t60_116) (some [])) H_117)))) (fun vs_55 H_56 => un vs_55 fun t0_118 vs_119 => un vs_119 fun t1_120 vs_121 => un vs_121 fun t2_122 vs_123 => un vs_123 fun t7_124 vs_125 => un vs_125 fun t8_126 vs_127 => un0 vs_127 (endQ (cfg b) false k (resC1 (some AV.any) (some [])) H_56))
noncomputable def p19_l0 (b : Bool) (cf : CallFn) (k : Nat) (s : List AV) (H : Heap) : Option (LStep × Heap) :=
  un s fun t0_0 vs_1 => un vs_1 fun t1_2 vs_3 => un vs_3 fun t5_4 vs_5 => un0 vs_5 (bindE (mLenSl t0_0 H) fun t8_6 H_7 =>
  bindE (mBin (cfg b) 3 false .lss t5_4 t8_6 H_7) fun t9_8 H_9 =>
  condR t9_8 (afterD (twice [0, 0, 3, 7, 15, 31, 0, 64, 255] (fun H_10 => bindE (drawM (some t0_0) H_10) fun t12_11 H_12 =>
  bindE (drawM (some t5_4) H_12) fun t13_13 H_14 =>
  bindE (drawR true [t12_11.1, t13_13.1] (fun F => mIdxS 2 t12_11.1 t13_13.1 F) H_14) fun t14_15 H_16 =>
  bindE (drawR true [t14_15.1] (fun F => mFA 0 0 t14_15.1 F) H_16) fun t15_17 H_18 =>
  bindE (drawR true [t15_17.1] (fun F => mLoad false 1 t15_17.1 F) H_18) fun t16_19 H_20 =>
  bindE (drawR true [t16_19.1] (fun F => mConvBS t16_19.1 F) H_20) fun t17_21 H_22 =>
  bindE (drawM (some t1_2) H_22) fun t18_23 H_24 =>
  bindE (drawR true [t18_23.1] (fun F => mConvBS t18_23.1 F) H_24) fun t19_25 H_26 =>
  bindE (drawR true [t17_21.1, t19_25.1] (fun F => mBin (cfg b) 9 false .eql t17_21.1 t19_25.1 F) H_26) fun t20_27 H_28 =>
  some (([t20_27.1], [t12_11.2, t13_13.2, t14_15.2, t15_17.2, t16_19.2, t17_21.2, t18_23.2, t19_25.2, t20_27.2]), H_28)) H_9) fun vs_29 H_30 =>
  un vs_29 fun t20_31 vs_32 => un0 vs_32 (condR t20_31 (some (LStep.ret [t5_4], H_30)) (bindE (mBin (cfg b) 3 true .add t5_4 (AV.c (.int .i64 1)) H_30) fun t11_33 H_34 =>
  some (LStep.cont [t0_0, t1_2, t11_33], H_34)))) (some (LStep.exit 0 [AV.any], H_9)))
/-- ferryman/ferrymanref05.Find -/
noncomputable def p19 (b : Bool) (cf : CallFn) (k : Nat) (t0 t1 : AV) (H : Heap) : Option (AV × Heap) :=
  afterL 0 (loopX k (p19_l0 b cf k) [t0, t1, (AV.c (.int .i64 0))] H) (fun vs_35 H_36 =>
  un vs_35 fun t4_37 vs_38 => un0 vs_38 (endQ (cfg b) false k (resC1 (some (AV.c (.int .i64 (-1)))) (some [])) H_36)) (fun vs_35 H_36 => un vs_35 fun t4_39 vs_40 => un0 vs_40 (endQ (cfg b) false k (resC1 (some t4_39) (some [])) H_36))
noncomputable def p20_l0 (b : Bool) (cf : CallFn) (k : Nat) (s : List AV) (H : Heap) : Option (LStep × Heap) :=
  un s fun t0_0 vs_1 => un vs_1 fun t1_2 vs_3 => un vs_3 fun t5_4 vs_5 => un vs_5 fun t6_6 vs_7 => un0 vs_7 (bindE (mLenSl t0_0 H) fun t9_8 H_9 =>
  bindE (mBin (cfg b) 3 false .lss t6_6 t9_8 H_9) fun t10_10 H_11 =>
  condR t10_10 (afterD (twice [0, 0, 3, 7, 15, 31, 0, 64, 255] (fun H_12 => bindE (drawM (some t0_0) H_12) fun t13_13 H_14 =>
  bindE (drawM (some t6_6) H_14) fun t14_15 H_16 =>
  bindE (drawR true [t13_13.1, t14_15.1] (fun F => mIdxS 2 t13_13.1 t14_15.1 F) H_16) fun t15_17 H_18 =>
  bindE (drawR true [t15_17.1] (fun F => mFA 0 0 t15_17.1 F) H_18) fun t16_19 H_20 =>
  bindE (drawR true [t16_19.1] (fun F => mLoad false 1 t16_19.1 F) H_20) fun t17_21 H_22 =>
  bindE (drawR true [t17_21.1] (fun F => mConvBS t17_21.1 F) H_22) fun t18_23 H_24 =>
  bindE (drawM (some t1_2) H_24) fun t19_25 H_26 =>
  bindE (drawR true [t19_25.1] (fun F => mConvBS t19_25.1 F) H_26) fun t20_27 H_28 =>
  bindE (drawR true [t18_23.1, t20_27.1] (fun F => mBin (cfg b) 9 false .neq t18_23.1 t20_27.1 F) H_28) fun t21_29 H_30 =>
  some (([t21_29.1], [t13_13.2, t14_15.2, t15_17.2, t16_19.2, t17_21.2, t18_23.2, t19_25.2, t20_27.2, t21_29.2]), H_30)) H_11) fun vs_31 H_32 =>
  un vs_31 fun t21_33 vs_34 => un0 vs_34 (condR t21_33 (bindE (mIdxS 2 t0_0 t6_6 H_32) fun t25_35 H_36 =>
  bindE (mLoad true 2 t25_35 H_36) fun t26_37 H_38 =>
  bindE (mBuildSl 59 2 (.agg [.nilsl, .nilsl]) 1 [(0, t26_37)] H_38) fun t27_39 H_40 =>
  bindE (mAppend 59 2 48 false t5_4 t27_39 H_40) fun t28_41 H_42 =>
  bindE (mBin (cfg b) 3 true .add t6_6 (AV.c (.int .i64 1)) H_42) fun t12_43 H_44 =>
  some (LStep.cont [t0_0, t1_2, t28_41, t12_43], H_44)) (bindE (mBin (cfg b) 3 true .add t6_6 (AV.c (.int .i64 1)) H_32) fun t12_45 H_46 =>
  some (LStep.cont [t0_0, t1_2, t5_4, t12_45], H_46)))) (some (LStep.exit 0 [t5_4], H_11)))
/-- ferryman/ferrymanref05.CutPair -/
noncomputable def p20 (b : Bool) (cf : CallFn) (k : Nat) (t0 t1 : AV) (H : Heap) : Option (AV × Heap) :=
  afterL 0 (loopX k (p20_l0 b cf k) [t0, t1, (AV.c .nilsl), (AV.c (.int .i64 0))] H) (fun vs_47 H_48 =>
  un vs_47 fun t5_49 vs_50 => un0 vs_50 (endQ (cfg b) false k (resC1 (some t5_49) (some [])) H_48)) (fun vs_47 H_48 => un vs_47 fun t5_51 vs_52 => un0 vs_52 (endQ (cfg b) false k (resC1 (some AV.any) (some [])) H_48))
noncomputable def p22_l0 (b : Bool) (cf : CallFn) (k : Nat) (s : List AV) (H : Heap) : Option (LStep × Heap) :=
  un s fun t0_6 vs_7 => un vs_7 fun t1_8 vs_9 => un vs_9 fun t5_10 vs_11 => un0 vs_11 (bindE (mLenSl t0_6 H) fun t13_12 H_13 =>
  bindE (mBin (cfg b) 3 false .lss t5_10 t13_12 H_13) fun t14_14 H_15 =>
  condR t14_14 (afterD (twice [0, 0, 3, 7, 15, 31, 0, 0, 192, 448, 960, 1984, 4095, 8191, 16383, 16383, 65535, 131071, 262143, 524287, 16383, 16383, 3162111, 7356415, 15745023, 32522239, 67108863, 134217727] (fun H_16 => bindE (drawM (some t0_6) H_16) fun t17_17 H_18 =>
  bindE (drawM (some t5_10) H_18) fun t18_19 H_20 =>
  bindE (drawR true [t17_17.1, t18_19.1] (fun F => mIdxS 2 t17_17.1 t18_19.1 F) H_20) fun t19_21 H_22 =>
  bindE (drawR true [t19_21.1] (fun F => mFA 0 0 t19_21.1 F) H_22) fun t20_23 H_24 =>
  bindE (drawR true [t20_23.1] (fun F => mLoad false 1 t20_23.1 F) H_24) fun t21_25 H_26 =>
  bindE (drawR true [t21_25.1] (fun F => mConvBS t21_25.1 F) H_26) fun t22_27 H_28 =>
  bindE (drawM (some t1_8) H_28) fun t23_29 H_30 =>
  bindE (drawM (some t5_10) H_30) fun t24_31 H_32 =>
  bindE (drawR true [t23_29.1, t24_31.1] (fun F => mIdxS 2 t23_29.1 t24_31.1 F) H_32) fun t25_33 H_34 =>
  bindE (drawR true [t25_33.1] (fun F => mFA 0 0 t25_33.1 F) H_34) fun t26_35 H_36 =>
  bindE (drawR true [t26_35.1] (fun F => mLoad false 1 t26_35.1 F) H_36) fun t27_37 H_38 =>
  bindE (drawR true [t27_37.1] (fun F => mConvBS t27_37.1 F) H_38) fun t28_39 H_40 =>
  bindE (drawR true [t22_27.1, t28_39.1] (fun F => mBin (cfg b) 9 false .neq t22_27.1 t28_39.1 F) H_40) fun t29_41 H_42 =>
  bindE (drawM (some t29_41.1) H_42) fun t30_43 H_44 =>
  bindE (guardD (wantR false t30_43.1) (drawM (some t0_6) H_44) H_44) fun t31_45 H_46 =>
  bindE (guardD (wantR false t30_43.1) (drawM (some t5_10) H_46) H_46) fun t32_47 H_48 =>
  bindE (guardD (wantR false t30_43.1) (drawR true [t31_45.1, t32_47.1] (fun F => mIdxS 2 t31_45.1 t32_47.1 F) H_48) H_48) fun t33_49 H_50 =>
  bindE (guardD (wantR false t30_43.1) (drawR true [t33_49.1] (fun F => mFA 1 1 t33_49.1 F) H_50) H_50) fun t34_51 H_52 =>
  bindE (guardD (wantR false t30_43.1) (drawR true [t34_51.1] (fun F => mLoad false 1 t34_51.1 F) H_52) H_52) fun t35_53 H_54 =>
  bindE (guardD (wantR false t30_43.1) (drawR true [t35_53.1] (fun F => mConvBS t35_53.1 F) H_54) H_54) fun t36_55 H_56 =>
  bindE (guardD (wantR false t30_43.1) (drawM (some t1_8) H_56) H_56) fun t37_57 H_58 =>
  bindE (guardD (wantR false t30_43.1) (drawM (some t5_10) H_58) H_58) fun t38_59 H_60 =>
  bindE (guardD (wantR false t30_43.1) (drawR true [t37_57.1, t38_59.1] (fun F => mIdxS 2 t37_57.1 t38_59.1 F) H_60) H_60) fun t39_61 H_62 =>
  bindE (guardD (wantR false t30_43.1) (drawR true [t39_61.1] (fun F => mFA 1 1 t39_61.1 F) H_62) H_62) fun t40_63 H_64 =>
  bindE (guardD (wantR false t30_43.1) (drawR true [t40_63.1] (fun F => mLoad false 1 t40_63.1 F) H_64) H_64) fun t41_65 H_66 =>
  bindE (guardD (wantR false t30_43.1) (drawR true [t41_65.1] (fun F => mConvBS t41_65.1 F) H_66) H_66) fun t42_67 H_68 =>
  bindE (guardD (wantR false t30_43.1) (drawR true [t36_55.1, t42_67.1] (fun F => mBin (cfg b) 9 false .neq t36_55.1 t42_67.1 F) H_68) H_68) fun t43_69 H_70 =>
  bindE (drawR true [t30_43.1, t43_69.1] (fun F => mPick t30_43.1 (AV.c (.bool true)) t43_69.1 F) H_70) fun t44_71 H_72 =>
  some (([t44_71.1], [t17_17.2, t18_19.2, t19_21.2, t20_23.2, t21_25.2, t22_27.2, t23_29.2, t24_31.2, t25_33.2, t26_35.2, t27_37.2, t28_39.2, t29_41.2, t30_43.2, t31_45.2, t32_47.2, t33_49.2, t34_51.2, t35_53.2, t36_55.2, t37_57.2, t38_59.2, t39_61.2, t40_63.2, t41_65.2, t42_67.2, t43_69.2, t44_71.2]), H_72)) H_15) fun vs_73 H_74 =>
  un vs_73 fun t44_75 vs_76 => un0 vs_76 (condR t44_75 (some (LStep.ret [(AV.c (.bool false))], H_74)) (bindE (mBin (cfg b) 3 true .add t5_10 (AV.c (.int .i64 1)) H_74) fun t16_77 H_78 =>
  some (LStep.cont [t0_6, t1_8, t16_77], H_78)))) (some (LStep.exit 0 [AV.any], H_15)))
/-- ferryman/ferrymanref05.SamePairs -/
noncomputable def p22 (b : Bool) (cf : CallFn) (k : Nat) (t0 t1 : AV) (H : Heap) : Option (AV × Heap) :=
  bindE (mLenSl t0 H) fun t7_0 H_1 =>
  bindE (mLenSl t1 H_1) fun t9_2 H_3 =>
  bindE (mBin (cfg b) 3 false .neq t7_0 t9_2 H_3) fun t10_4 H_5 =>
  condR t10_4 (endQ (cfg b) false k (resC1 (some (AV.c (.bool false))) (some [])) H_5) (afterL 0 (loopX k (p22_l0 b cf k) [t0, t1, (AV.c (.int .i64 0))] H_5) (fun vs_79 H_80 =>
  un vs_79 fun t4_81 vs_82 => un0 vs_82 (endQ (cfg b) false k (resC1 (some (AV.c (.bool true))) (some [])) H_80)) (fun vs_79 H_80 => un vs_79 fun t4_83 vs_84 => un0 vs_84 (endQ (cfg b) false k (resC1 (some t4_83) (some [])) H_80)))
noncomputable def p24_l0 (b : Bool) (cf : CallFn) (k : Nat) (s : List AV) (H : Heap) : Option (LStep × Heap) :=
  un s fun t0_0 vs_1 => un vs_1 fun t1_2 vs_3 => un vs_3 fun t5_4 vs_5 => un vs_5 fun t6_6 vs_7 => un0 vs_7 (bindE (mLenSl t0_0 H) fun t9_8 H_9 =>
  bindE (mBin (cfg b) 3 false .lss t6_6 t9_8 H_9) fun t10_10 H_11 =>
  condR t10_10 (afterD (twice [0, 0, 3, 7, 15, 31, 0, 64, 255, 511, 1023, 1023, 4095, 8191, 16383, 1023, 33791, 131071, 262143, 1023, 525311, 2097151, 4194303] (fun H_12 => bindE (drawM (some t0_0) H_12) fun t13_13 H_14 =>
  bindE (drawM (some t6_6) H_14) fun t14_15 H_16 =>
  bindE (drawR true [t13_13.1, t14_15.1] (fun F => mIdxS 2 t13_13.1 t14_15.1 F) H_16) fun t15_17 H_18 =>
  bindE (drawR true [t15_17.1] (fun F => mFA 0 0 t15_17.1 F) H_18) fun t16_19 H_20 =>
  bindE (drawR true [t16_19.1] (fun F => mLoad false 1 t16_19.1 F) H_20) fun t17_21 H_22 =>
  bindE (drawR true [t17_21.1] (fun F => mLenSl t17_21.1 F) H_22) fun t18_23 H_24 =>
  bindE (drawM (some t1_2) H_24) fun t19_25 H_26 =>
  bindE (drawR true [t19_25.1] (fun F => mLenSl t19_25.1 F) H_26) fun t20_27 H_28 =>
  bindE (drawR true [t18_23.1, t20_27.1] (fun F => mBin (cfg b) 3 false .geq t18_23.1 t20_27.1 F) H_28) fun t21_29 H_30 =>
  bindE (drawM (some t21_29.1) H_30) fun t22_31 H_32 =>
  bindE (guardD (wantR true t22_31.1) (drawM (some t0_0) H_32) H_32) fun t23_33 H_34 =>
  bindE (guardD (wantR true t22_31.1) (drawM (some t6_6) H_34) H_34) fun t24_35 H_36 =>
  bindE (guardD (wantR true t22_31.1) (drawR true [t23_33.1, t24_35.1] (fun F => mIdxS 2 t23_33.1 t24_35.1 F) H_36) H_36) fun t25_37 H_38 =>
  bindE (guardD (wantR true t22_31.1) (drawR true [t25_37.1] (fun F => mFA 0 0 t25_37.1 F) H_38) H_38) fun t26_39 H_40 =>
  bindE (guardD (wantR true t22_31.1) (drawR true [t26_39.1] (fun F => mLoad false 1 t26_39.1 F) H_40) H_40) fun t27_41 H_42 =>
  bindE (guardD (wantR true t22_31.1) (drawM (some t1_2) H_42) H_42) fun t28_43 H_44 =>
  bindE (guardD (wantR true t22_31.1) (drawR true [t28_43.1] (fun F => mLenSl t28_43.1 F) H_44) H_44) fun t29_45 H_46 =>
  bindE (guardD (wantR true t22_31.1) (drawR false [t27_41.1, t29_45.1] (fun F => mSliceSl 1 t27_41.1 none (some t29_45.1) F) H_46) H_46) fun t30_47 H_48 =>
  bindE (guardD (wantR true t22_31.1) (drawR true [t30_47.1] (fun F => mConvBS t30_47.1 F) H_48) H_48) fun t31_49 H_50 =>
  bindE (guardD (wantR true t22_31.1) (drawM (some t1_2) H_50) H_50) fun t32_51 H_52 =>
  bindE (guardD (wantR true t22_31.1) (drawR true [t32_51.1] (fun F => mConvBS t32_51.1 F) H_52) H_52) fun t33_53 H_54 =>
  bindE (guardD (wantR true t22_31.1) (drawR true [t31_49.1, t33_53.1] (fun F => mBin (cfg b) 9 false .eql t31_49.1 t33_53.1 F) H_54) H_54) fun t34_55 H_56 =>
  bindE (drawR true [t22_31.1, t34_55.1] (fun F => mPick t22_31.1 t34_55.1 (AV.c (.bool false)) F) H_56) fun t35_57 H_58 =>
  some (([t35_57.1], [t13_13.2, t14_15.2, t15_17.2, t16_19.2, t17_21.2, t18_23.2, t19_25.2, t20_27.2, t21_29.2, t22_31.2, t23_33.2, t24_35.2, t25_37.2, t26_39.2, t27_41.2, t28_43.2, t29_45.2, t30_47.2, t31_49.2, t32_51.2, t33_53.2, t34_55.2, t35_57.2]), H_58)) H_11) fun vs_59 H_60 =>
  un vs_59 fun t35_61 vs_62 => un0 vs_62 (condR t35_61 (bindE (mIdxS 2 t0_0 t6_6 H_60) fun t39_63 H_64 =>
  bindE (mLoad true 2 t39_63 H_64) fun t40_65 H_66 =>
  bindE (mBuildSl 59 2 (.agg [.nilsl, .nilsl]) 1 [(0, t40_65)] H_66) fun t41_67 H_68 =>
  bindE (mAppend 59 2 48 false t5_4 t41_67 H_68) fun t42_69 H_70 =>
  bindE (mBin (cfg b) 3 true .add t6_6 (AV.c (.int .i64 1)) H_70) fun t12_71 H_72 =>
  some (LStep.cont [t0_0, t1_2, t42_69, t12_71], H_72)) (bindE (mBin (cfg b) 3 true .add t6_6 (AV.c (.int .i64 1)) H_60) fun t12_73 H_74 =>
  some (LStep.cont [t0_0, t1_2, t5_4, t12_73], H_74)))) (some (LStep.exit 0 [t5_4], H_11)))
/-- ferryman/ferrymanref05.Begin -/
noncomputable def p24 (b : Bool) (cf : CallFn) (k : Nat) (t0 t1 : AV) (H : Heap) : Option (AV × Heap) :=
  afterL 0 (loopX k (p24_l0 b cf k) [t0, t1, (AV.c .nilsl), (AV.c (.int .i64 0))] H) (fun vs_75 H_76 =>
  un vs_75 fun t5_77 vs_78 => un0 vs_78 (endQ (cfg b) false k (resC1 (some t5_77) (some [])) H_76)) (fun vs_75 H_76 => un vs_75 fun t5_79 vs_80 => un0 vs_80 (endQ (cfg b) false k (resC1 (some AV.any) (some [])) H_76))
theorem p15_eq (b : Bool) (cf : CallFn) (t0 : AV) (H : Heap) : runG (cfg b) cf An 15 [t0] H = p15 b cf H.length t0 H := by kernel_rfl
theorem p16_eq (b : Bool) (cf : CallFn) (t0 t1 t2 : AV) (H : Heap) : runG (cfg b) cf An 16 [t0, t1, t2] H = p16 b cf H.length t0 t1 t2 H := by kernel_rfl
theorem p19_eq (b : Bool) (cf : CallFn) (t0 t1 : AV) (H : Heap) : runG (cfg b) cf An 19 [t0, t1] H = p19 b cf H.length t0 t1 H := by kernel_rfl
theorem p20_eq (b : Bool) (cf : CallFn) (t0 t1 : AV) (H : Heap) : runG (cfg b) cf An 20 [t0, t1] H = p20 b cf H.length t0 t1 H := by kernel_rfl
theorem p22_eq (b : Bool) (cf : CallFn) (t0 t1 : AV) (H : Heap) : runG (cfg b) cf An 22 [t0, t1] H = p22 b cf H.length t0 t1 H := by kernel_rfl
theorem p24_eq (b : Bool) (cf : CallFn) (t0 t1 : AV) (H : Heap) : runG (cfg b) cf An 24 [t0, t1] H = p24 b cf H.length t0 t1 H := by kernel_rfl
end Go.Fm
