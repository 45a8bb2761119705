/-
  A part of the proof: DRef05.
-/
import Derived.Test.YtjmjijgnbjkpnaaDoorDAnn
set_option linter.all false
set_option autoImplicit true
/-
  What the interpreter does to functions, without slots and types; the kernel holds it against the code.
-/
set_option maxRecDepth 100000
set_option linter.unusedVariables false
namespace Go.Fm
open Go Go.Proofs

noncomputable def p40_l0 (b : Bool) (cf : CallFn) (k : Nat) (s : List AV) (H : Heap) : Option (LStep × Heap) :=
  un s fun t0_0 vs_1 => un vs_1 fun t3_2 vs_3 => un vs_3 fun t4_4 vs_5 => un0 vs_5 (bindE (mLenSl t0_0 H) fun t7_6 H_7 =>
  bindE (mBin (cfg b) 3 false .lss t4_4 t7_6 H_7) fun t8_8 H_9 =>
  condR t8_8 (afterD (twice [0, 0, 0, 6, 14, 30, 0, 0, 192, 448, 960, 2047, 4095] (fun H_10 => bindE (drawM (some t3_2) H_10) fun t11_11 H_12 =>
  bindE (drawM (some t0_0) H_12) fun t12_13 H_14 =>
  bindE (drawM (some t4_4) H_14) fun t13_15 H_16 =>
  bindE (drawR true [t12_13.1, t13_15.1] (fun F => mIdxS 2 t12_13.1 t13_15.1 F) H_16) fun t14_17 H_18 =>
  bindE (drawR true [t14_17.1] (fun F => mFA 0 0 t14_17.1 F) H_18) fun t15_19 H_20 =>
  bindE (drawR true [t15_19.1] (fun F => mLoad false 1 t15_19.1 F) H_20) fun t16_21 H_22 =>
  bindE (drawM (some t0_0) H_22) fun t17_23 H_24 =>
  bindE (drawM (some t4_4) H_24) fun t18_25 H_26 =>
  bindE (drawR true [t17_23.1, t18_25.1] (fun F => mIdxS 2 t17_23.1 t18_25.1 F) H_26) fun t19_27 H_28 =>
  bindE (drawR true [t19_27.1] (fun F => mFA 1 1 t19_27.1 F) H_28) fun t20_29 H_30 =>
  bindE (drawR true [t20_29.1] (fun F => mLoad false 1 t20_29.1 F) H_30) fun t21_31 H_32 =>
  bindE (drawR false [t11_11.1, t16_21.1, t21_31.1] (fun F => cf 41 [t11_11.1, t16_21.1, t21_31.1] F) H_32) fun t22_33 H_34 =>
  bindE (drawM (some t22_33.1) H_34) fun t3_35 H_36 =>
  some (([t3_35.1], [t11_11.2, t12_13.2, t13_15.2, t14_17.2, t15_19.2, t16_21.2, t17_23.2, t18_25.2, t19_27.2, t20_29.2, t21_31.2, t22_33.2, t3_35.2]), H_36)) H_9) fun vs_37 H_38 =>
  un vs_37 fun t3_39 vs_40 => un0 vs_40 (bindE (mBin (cfg b) 3 true .add t4_4 (AV.c (.int .i64 1)) H_38) fun t10_41 H_42 =>
  some (LStep.cont [t0_0, t3_39, t10_41], H_42))) (some (LStep.exit 0 [t3_2], H_9)))
/-- ferryman/ferrymanref05.Grown -/
noncomputable def p40 (b : Bool) (cf : CallFn) (k : Nat) (t0 : AV) (H : Heap) : Option (AV × Heap) :=
  afterL 0 (loopX k (p40_l0 b cf k) [t0, (AV.c .nilp), (AV.c (.int .i64 0))] H) (fun vs_43 H_44 =>
  un vs_43 fun t3_45 vs_46 => un0 vs_46 (endQ (cfg b) false k (resC1 (some t3_45) (some [])) H_44)) (fun vs_43 H_44 => un vs_43 fun t3_47 vs_48 => un0 vs_48 (endQ (cfg b) false k (resC1 (some AV.any) (some [])) H_44))

/-- ferryman/ferrymanref05.Put -/
noncomputable def p41 (b : Bool) (cf : CallFn) (k : Nat) (t0 t1 t2 : AV) (H : Heap) : Option (AV × Heap) :=
  bindE (mBuildS [.nilsl, .nilsl, (.int .i64 0), (.int .u64 0), .nilp, .nilp] [(0, t1), (1, t2), (3, (AV.c (.int .u64 1)))] H) fun t10_0 H_1 =>
  bindE (mBox 64 t10_0 H_1) fun t11_2 H_3 =>
  bindE (mBin (cfg b) 57 true .eql t0 (AV.c .nilp) H_3) fun t13_4 H_5 =>
  condR t13_4 (endQ (cfg b) false k (resC1 (some t11_2) (some [])) H_5) (bindE (mNil t0 H_5) fun t16_6 H_7 =>
  bindE (mFA 2 2 t16_6 H_7) fun t17_8 H_9 =>
  bindE (mLoad false 1 t17_8 H_9) fun t18_10 H_11 =>
  bindE (mBin (cfg b) 3 true .eql t18_10 (AV.c (.int .i64 0)) H_11) fun t19_12 H_13 =>
  condR t19_12 (afterD (twice [0, 1, 0, 4, 12, 28, 60, 127] (fun H_14 => bindE (drawM (some t1) H_14) fun t20_15 H_16 =>
  bindE (drawR true [t20_15.1] (fun F => mConvBS t20_15.1 F) H_16) fun t21_17 H_18 =>
  bindE (drawM (some t0) H_18) fun t22_19 H_20 =>
  bindE (drawR true [t22_19.1] (fun F => mNil t22_19.1 F) H_20) fun t23_21 H_22 =>
  bindE (drawR true [t23_21.1] (fun F => mFA 0 0 t23_21.1 F) H_22) fun t24_23 H_24 =>
  bindE (drawR true [t24_23.1] (fun F => mLoad false 1 t24_23.1 F) H_24) fun t25_25 H_26 =>
  bindE (drawR true [t25_25.1] (fun F => mConvBS t25_25.1 F) H_26) fun t26_27 H_28 =>
  bindE (drawR true [t21_17.1, t26_27.1] (fun F => mBin (cfg b) 9 false .eql t21_17.1 t26_27.1 F) H_28) fun t27_29 H_30 =>
  some (([t27_29.1], [t20_15.2, t21_17.2, t22_19.2, t23_21.2, t24_23.2, t25_25.2, t26_27.2, t27_29.2]), H_30)) H_13) fun vs_31 H_32 =>
  un vs_31 fun t27_33 vs_34 => un0 vs_34 (condR t27_33 (endQ (cfg b) false k (resC1 (some t11_2) (some [])) H_32) (afterD (twice [0, 1, 0, 4, 12, 28, 60, 127] (fun H_35 => bindE (drawM (some t1) H_35) fun t29_36 H_37 =>
  bindE (drawR true [t29_36.1] (fun F => mConvBS t29_36.1 F) H_37) fun t30_38 H_39 =>
  bindE (drawM (some t0) H_39) fun t31_40 H_41 =>
  bindE (drawR true [t31_40.1] (fun F => mNil t31_40.1 F) H_41) fun t32_42 H_43 =>
  bindE (drawR true [t32_42.1] (fun F => mFA 0 0 t32_42.1 F) H_43) fun t33_44 H_45 =>
  bindE (drawR true [t33_44.1] (fun F => mLoad false 1 t33_44.1 F) H_45) fun t34_46 H_47 =>
  bindE (drawR true [t34_46.1] (fun F => mConvBS t34_46.1 F) H_47) fun t35_48 H_49 =>
  bindE (drawR true [t30_38.1, t35_48.1] (fun F => mBin (cfg b) 9 false .lss t30_38.1 t35_48.1 F) H_49) fun t36_50 H_51 =>
  some (([t36_50.1], [t29_36.2, t30_38.2, t31_40.2, t32_42.2, t33_44.2, t34_46.2, t35_48.2, t36_50.2]), H_51)) H_32) fun vs_52 H_53 =>
  un vs_52 fun t36_54 vs_55 => un0 vs_55 (condR t36_54 (bindE (cf 93 [t11_2, t0] H_53) fun t39_56 H_57 =>
  endQ (cfg b) false k (resC1 (some t39_56) (some [])) H_57) (bindE (cf 93 [t0, t11_2] H_53) fun t42_58 H_59 =>
  endQ (cfg b) false k (resC1 (some t42_58) (some [])) H_59))))) (afterD (twice [0, 1, 0, 4, 12, 28, 60, 127] (fun H_60 => bindE (drawM (some t1) H_60) fun t43_61 H_62 =>
  bindE (drawR true [t43_61.1] (fun F => mConvBS t43_61.1 F) H_62) fun t44_63 H_64 =>
  bindE (drawM (some t0) H_64) fun t45_65 H_66 =>
  bindE (drawR true [t45_65.1] (fun F => mNil t45_65.1 F) H_66) fun t46_67 H_68 =>
  bindE (drawR true [t46_67.1] (fun F => mFA 0 0 t46_67.1 F) H_68) fun t47_69 H_70 =>
  bindE (drawR true [t47_69.1] (fun F => mLoad false 1 t47_69.1 F) H_70) fun t48_71 H_72 =>
  bindE (drawR true [t48_71.1] (fun F => mConvBS t48_71.1 F) H_72) fun t49_73 H_74 =>
  bindE (drawR true [t44_63.1, t49_73.1] (fun F => mBin (cfg b) 9 false .lss t44_63.1 t49_73.1 F) H_74) fun t50_75 H_76 =>
  some (([t50_75.1], [t43_61.2, t44_63.2, t45_65.2, t46_67.2, t47_69.2, t48_71.2, t49_73.2, t50_75.2]), H_76)) H_13) fun vs_77 H_78 =>
  un vs_77 fun t50_79 vs_80 => un0 vs_80 (condR t50_79 (afterD (twice [0, 1, 3, 7, 0, 0, 63, 0, 128, 384, 896, 2047, 4095] (fun H_81 => bindE (drawM (some t0) H_81) fun t51_82 H_83 =>
  bindE (drawR true [t51_82.1] (fun F => mNil t51_82.1 F) H_83) fun t52_84 H_85 =>
  bindE (drawR true [t52_84.1] (fun F => mFA 4 4 t52_84.1 F) H_85) fun t53_86 H_87 =>
  bindE (drawR true [t53_86.1] (fun F => mLoad false 1 t53_86.1 F) H_87) fun t54_88 H_89 =>
  bindE (drawM (some t1) H_89) fun t55_90 H_91 =>
  bindE (drawM (some t2) H_91) fun t56_92 H_93 =>
  bindE (drawR false [t54_88.1, t55_90.1, t56_92.1] (fun F => cf 41 [t54_88.1, t55_90.1, t56_92.1] F) H_93) fun t57_94 H_95 =>
  bindE (drawM (some t0) H_95) fun t58_96 H_97 =>
  bindE (drawR true [t58_96.1] (fun F => mNil t58_96.1 F) H_97) fun t59_98 H_99 =>
  bindE (drawR true [t59_98.1] (fun F => mFA 5 5 t59_98.1 F) H_99) fun t60_100 H_101 =>
  bindE (drawR true [t60_100.1] (fun F => mLoad false 1 t60_100.1 F) H_101) fun t61_102 H_103 =>
  bindE (drawR false [t57_94.1, t61_102.1] (fun F => cf 94 [t57_94.1, t61_102.1] F) H_103) fun t62_104 H_105 =>
  bindE (drawM (some t62_104.1) H_105) fun t6_106 H_107 =>
  some (([t6_106.1], [t51_82.2, t52_84.2, t53_86.2, t54_88.2, t55_90.2, t56_92.2, t57_94.2, t58_96.2, t59_98.2, t60_100.2, t61_102.2, t62_104.2, t6_106.2]), H_107)) H_78) fun vs_108 H_109 =>
  un vs_108 fun t6_110 vs_111 => un0 vs_111 (endQ (cfg b) false k (resC1 (some t6_110) (some [])) H_109)) (afterD (twice [0, 1, 3, 7, 0, 16, 48, 112, 0, 0, 1008, 2047, 4095] (fun H_112 => bindE (drawM (some t0) H_112) fun t63_113 H_114 =>
  bindE (drawR true [t63_113.1] (fun F => mNil t63_113.1 F) H_114) fun t64_115 H_116 =>
  bindE (drawR true [t64_115.1] (fun F => mFA 4 4 t64_115.1 F) H_116) fun t65_117 H_118 =>
  bindE (drawR true [t65_117.1] (fun F => mLoad false 1 t65_117.1 F) H_118) fun t66_119 H_120 =>
  bindE (drawM (some t0) H_120) fun t67_121 H_122 =>
  bindE (drawR true [t67_121.1] (fun F => mNil t67_121.1 F) H_122) fun t68_123 H_124 =>
  bindE (drawR true [t68_123.1] (fun F => mFA 5 5 t68_123.1 F) H_124) fun t69_125 H_126 =>
  bindE (drawR true [t69_125.1] (fun F => mLoad false 1 t69_125.1 F) H_126) fun t70_127 H_128 =>
  bindE (drawM (some t1) H_128) fun t71_129 H_130 =>
  bindE (drawM (some t2) H_130) fun t72_131 H_132 =>
  bindE (drawR false [t70_127.1, t71_129.1, t72_131.1] (fun F => cf 41 [t70_127.1, t71_129.1, t72_131.1] F) H_132) fun t73_133 H_134 =>
  bindE (drawR false [t66_119.1, t73_133.1] (fun F => cf 94 [t66_119.1, t73_133.1] F) H_134) fun t74_135 H_136 =>
  bindE (drawM (some t74_135.1) H_136) fun t6_137 H_138 =>
  some (([t6_137.1], [t63_113.2, t64_115.2, t65_117.2, t66_119.2, t67_121.2, t68_123.2, t69_125.2, t70_127.2, t71_129.2, t72_131.2, t73_133.2, t74_135.2, t6_137.2]), H_138)) H_78) fun vs_139 H_140 =>
  un vs_139 fun t6_141 vs_142 => un0 vs_142 (endQ (cfg b) false k (resC1 (some t6_141) (some [])) H_140)))))

noncomputable def p42_l0 (b : Bool) (cf : CallFn) (k : Nat) (s : List AV) (H : Heap) : Option (LStep × Heap) :=
  un s fun t0_0 vs_1 => un vs_1 fun t1_2 vs_3 => un vs_3 fun t5_4 vs_5 => un0 vs_5 (bindE (mLenSl t0_0 H) fun t8_6 H_7 =>
  bindE (mBin (cfg b) 3 false .lss t5_4 t8_6 H_7) fun t9_8 H_9 =>
  condR t9_8 (afterD (twice [0, 0, 3, 7, 15, 31, 0, 64, 255] (fun H_10 => bindE (drawM (some t0_0) H_10) fun t12_11 H_12 =>
  bindE (drawM (some t5_4) H_12) fun t13_13 H_14 =>
  bindE (drawR true [t12_11.1, t13_13.1] (fun F => mIdxS 2 t12_11.1 t13_13.1 F) H_14) fun t14_15 H_16 =>
  bindE (drawR true [t14_15.1] (fun F => mFA 0 0 t14_15.1 F) H_16) fun t15_17 H_18 =>
  bindE (drawR true [t15_17.1] (fun F => mLoad false 1 t15_17.1 F) H_18) fun t16_19 H_20 =>
  bindE (drawR true [t16_19.1] (fun F => mConvBS t16_19.1 F) H_20) fun t17_21 H_22 =>
  bindE (drawM (some t1_2) H_22) fun t18_23 H_24 =>
  bindE (drawR true [t18_23.1] (fun F => mConvBS t18_23.1 F) H_24) fun t19_25 H_26 =>
  bindE (drawR true [t17_21.1, t19_25.1] (fun F => mBin (cfg b) 9 false .eql t17_21.1 t19_25.1 F) H_26) fun t20_27 H_28 =>
  some (([t20_27.1], [t12_11.2, t13_13.2, t14_15.2, t15_17.2, t16_19.2, t17_21.2, t18_23.2, t19_25.2, t20_27.2]), H_28)) H_9) fun vs_29 H_30 =>
  un vs_29 fun t20_31 vs_32 => un0 vs_32 (condR t20_31 (some (LStep.ret [t5_4], H_30)) (bindE (mBin (cfg b) 3 true .add t5_4 (AV.c (.int .i64 1)) H_30) fun t11_33 H_34 =>
  some (LStep.cont [t0_0, t1_2, t11_33], H_34)))) (some (LStep.exit 0 [AV.any], H_9)))
/-- ferryman/ferrymanref05.Find -/
noncomputable def p42 (b : Bool) (cf : CallFn) (k : Nat) (t0 t1 : AV) (H : Heap) : Option (AV × Heap) :=
  afterL 0 (loopX k (p42_l0 b cf k) [t0, t1, (AV.c (.int .i64 0))] H) (fun vs_35 H_36 =>
  un vs_35 fun t4_37 vs_38 => un0 vs_38 (endQ (cfg b) false k (resC1 (some (AV.c (.int .i64 (-1)))) (some [])) H_36)) (fun vs_35 H_36 => un vs_35 fun t4_39 vs_40 => un0 vs_40 (endQ (cfg b) false k (resC1 (some t4_39) (some [])) H_36))

/-- ferryman/ferrymanref05.Leaves -/
noncomputable def p43 (b : Bool) (cf : CallFn) (k : Nat) (t0 t1 : AV) (H : Heap) : Option (AV × Heap) :=
  bindE (mBin (cfg b) 57 true .eql t0 (AV.c .nilp) H) fun t6_0 H_1 =>
  condR t6_0 (endQ (cfg b) true k (resC1 (some t1) (some [])) H_1) (bindE (mNil t0 H_1) fun t9_2 H_3 =>
  bindE (mFA 2 2 t9_2 H_3) fun t10_4 H_5 =>
  bindE (mLoad false 1 t10_4 H_5) fun t11_6 H_7 =>
  bindE (mBin (cfg b) 3 true .eql t11_6 (AV.c (.int .i64 0)) H_7) fun t12_8 H_9 =>
  condR t12_8 (afterD (twice [0, 0, 2, 6, 14, 0, 32, 96, 224, 510, 1022, 2047, 4095] (fun H_10 => bindE (drawM (some t1) H_10) fun t13_11 H_12 =>
  bindE (drawM (some t0) H_12) fun t14_13 H_14 =>
  bindE (drawR true [t14_13.1] (fun F => mNil t14_13.1 F) H_14) fun t15_15 H_16 =>
  bindE (drawR true [t15_15.1] (fun F => mFA 0 0 t15_15.1 F) H_16) fun t16_17 H_18 =>
  bindE (drawR true [t16_17.1] (fun F => mLoad false 1 t16_17.1 F) H_18) fun t17_19 H_20 =>
  bindE (drawM (some t0) H_20) fun t18_21 H_22 =>
  bindE (drawR true [t18_21.1] (fun F => mNil t18_21.1 F) H_22) fun t19_23 H_24 =>
  bindE (drawR true [t19_23.1] (fun F => mFA 1 1 t19_23.1 F) H_24) fun t20_25 H_26 =>
  bindE (drawR true [t20_25.1] (fun F => mLoad false 1 t20_25.1 F) H_26) fun t21_27 H_28 =>
  bindE (drawR false [t17_19.1, t21_27.1] (fun F => mBuildS [.nilsl, .nilsl] [(0, t17_19.1), (1, t21_27.1)] F) H_28) fun t22_29 H_30 =>
  bindE (drawR false [t22_29.1] (fun F => mBuildSl 97 2 (.agg [.nilsl, .nilsl]) 1 [(0, t22_29.1)] F) H_30) fun t23_31 H_32 =>
  bindE (drawR false [t13_11.1, t23_31.1] (fun F => mAppend 97 2 48 false t13_11.1 t23_31.1 F) H_32) fun t24_33 H_34 =>
  bindE (drawM (some t24_33.1) H_34) fun t4_35 H_36 =>
  some (([t4_35.1], [t13_11.2, t14_13.2, t15_15.2, t16_17.2, t17_19.2, t18_21.2, t19_23.2, t20_25.2, t21_27.2, t22_29.2, t23_31.2, t24_33.2, t4_35.2]), H_36)) H_9) fun vs_37 H_38 =>
  un vs_37 fun t4_39 vs_40 => un0 vs_40 (endQ (cfg b) true k (resC1 (some t4_39) (some [])) H_38)) (afterD (twice [0, 1, 3, 7, 0, 16, 48, 112, 0, 496, 1023, 2047] (fun H_41 => bindE (drawM (some t0) H_41) fun t25_42 H_43 =>
  bindE (drawR true [t25_42.1] (fun F => mNil t25_42.1 F) H_43) fun t26_44 H_45 =>
  bindE (drawR true [t26_44.1] (fun F => mFA 5 5 t26_44.1 F) H_45) fun t27_46 H_47 =>
  bindE (drawR true [t27_46.1] (fun F => mLoad false 1 t27_46.1 F) H_47) fun t28_48 H_49 =>
  bindE (drawM (some t0) H_49) fun t29_50 H_51 =>
  bindE (drawR true [t29_50.1] (fun F => mNil t29_50.1 F) H_51) fun t30_52 H_53 =>
  bindE (drawR true [t30_52.1] (fun F => mFA 4 4 t30_52.1 F) H_53) fun t31_54 H_55 =>
  bindE (drawR true [t31_54.1] (fun F => mLoad false 1 t31_54.1 F) H_55) fun t32_56 H_57 =>
  bindE (drawM (some t1) H_57) fun t33_58 H_59 =>
  bindE (drawR false [t32_56.1, t33_58.1] (fun F => cf 43 [t32_56.1, t33_58.1] F) H_59) fun t34_60 H_61 =>
  bindE (drawR false [t28_48.1, t34_60.1] (fun F => cf 43 [t28_48.1, t34_60.1] F) H_61) fun t35_62 H_63 =>
  bindE (drawM (some t35_62.1) H_63) fun t4_64 H_65 =>
  some (([t4_64.1], [t25_42.2, t26_44.2, t27_46.2, t28_48.2, t29_50.2, t30_52.2, t31_54.2, t32_56.2, t33_58.2, t34_60.2, t35_62.2, t4_64.2]), H_65)) H_9) fun vs_66 H_67 =>
  un vs_66 fun t4_68 vs_69 => un0 vs_69 (endQ (cfg b) true k (resC1 (some t4_68) (some [])) H_67)))

/-- ferryman/ferrymanref05.Cut -/
noncomputable def p44 (b : Bool) (cf : CallFn) (k : Nat) (t0 t1 : AV) (H : Heap) : Option (AV × Heap) :=
  bindE (mNil t0 H) fun t8_0 H_1 =>
  bindE (mFA 2 2 t8_0 H_1) fun t9_2 H_3 =>
  bindE (mLoad false 1 t9_2 H_3) fun t10_4 H_5 =>
  bindE (mBin (cfg b) 3 true .eql t10_4 (AV.c (.int .i64 0)) H_5) fun t11_6 H_7 =>
  condR t11_6 (endQ (cfg b) false k (resC1 (some (AV.c .nilp)) (some [])) H_7) (afterD (twice [0, 1, 0, 4, 12, 28, 60, 127] (fun H_8 => bindE (drawM (some t1) H_8) fun t12_9 H_10 =>
  bindE (drawR true [t12_9.1] (fun F => mConvBS t12_9.1 F) H_10) fun t13_11 H_12 =>
  bindE (drawM (some t0) H_12) fun t14_13 H_14 =>
  bindE (drawR true [t14_13.1] (fun F => mNil t14_13.1 F) H_14) fun t15_15 H_16 =>
  bindE (drawR true [t15_15.1] (fun F => mFA 0 0 t15_15.1 F) H_16) fun t16_17 H_18 =>
  bindE (drawR true [t16_17.1] (fun F => mLoad false 1 t16_17.1 F) H_18) fun t17_19 H_20 =>
  bindE (drawR true [t17_19.1] (fun F => mConvBS t17_19.1 F) H_20) fun t18_21 H_22 =>
  bindE (drawR true [t13_11.1, t18_21.1] (fun F => mBin (cfg b) 9 false .lss t13_11.1 t18_21.1 F) H_22) fun t19_23 H_24 =>
  some (([t19_23.1], [t12_9.2, t13_11.2, t14_13.2, t15_15.2, t16_17.2, t17_19.2, t18_21.2, t19_23.2]), H_24)) H_7) fun vs_25 H_26 =>
  un vs_25 fun t19_27 vs_28 => un0 vs_28 (condR t19_27 (bindE (mNil t0 H_26) fun t21_29 H_30 =>
  bindE (mFA 4 4 t21_29 H_30) fun t22_31 H_32 =>
  bindE (mLoad false 1 t22_31 H_32) fun t23_33 H_34 =>
  bindE (cf 44 [t23_33, t1] H_34) fun t25_35 H_36 =>
  bindE (mBin (cfg b) 57 true .eql t25_35 (AV.c .nilp) H_36) fun t27_37 H_38 =>
  condR t27_37 (bindE (mNil t0 H_38) fun t29_39 H_40 =>
  bindE (mFA 5 5 t29_39 H_40) fun t30_41 H_42 =>
  bindE (mLoad false 1 t30_41 H_42) fun t31_43 H_44 =>
  endQ (cfg b) false k (resC1 (some t31_43) (some [])) H_44) (bindE (mNil t0 H_38) fun t34_45 H_46 =>
  bindE (mFA 5 5 t34_45 H_46) fun t35_47 H_48 =>
  bindE (mLoad false 1 t35_47 H_48) fun t36_49 H_50 =>
  bindE (cf 94 [t25_35, t36_49] H_50) fun t37_51 H_52 =>
  endQ (cfg b) false k (resC1 (some t37_51) (some [])) H_52)) (bindE (mNil t0 H_26) fun t39_53 H_54 =>
  bindE (mFA 5 5 t39_53 H_54) fun t40_55 H_56 =>
  bindE (mLoad false 1 t40_55 H_56) fun t41_57 H_58 =>
  bindE (cf 44 [t41_57, t1] H_58) fun t43_59 H_60 =>
  bindE (mBin (cfg b) 57 true .eql t43_59 (AV.c .nilp) H_60) fun t45_61 H_62 =>
  condR t45_61 (bindE (mNil t0 H_62) fun t47_63 H_64 =>
  bindE (mFA 4 4 t47_63 H_64) fun t48_65 H_66 =>
  bindE (mLoad false 1 t48_65 H_66) fun t49_67 H_68 =>
  endQ (cfg b) false k (resC1 (some t49_67) (some [])) H_68) (bindE (mNil t0 H_62) fun t51_69 H_70 =>
  bindE (mFA 4 4 t51_69 H_70) fun t52_71 H_72 =>
  bindE (mLoad false 1 t52_71 H_72) fun t53_73 H_74 =>
  bindE (cf 94 [t53_73, t43_59] H_74) fun t55_75 H_76 =>
  endQ (cfg b) false k (resC1 (some t55_75) (some [])) H_76))))

/-- ferryman/ferrymanref05.SameNode -/
noncomputable def p46 (b : Bool) (cf : CallFn) (k : Nat) (t0 t1 : AV) (H : Heap) : Option (AV × Heap) :=
  bindE (mBox 66 t0 H) fun t2_0 H_1 =>
  bindE (mBox 66 t1 H_1) fun t3_2 H_3 =>
  bindE (mFA 0 0 t2_0 H_3) fun t5_4 H_5 =>
  bindE (mLoad false 1 t5_4 H_5) fun t6_6 H_7 =>
  bindE (mConvBS t6_6 H_7) fun t7_8 H_9 =>
  bindE (mFA 0 0 t3_2 H_9) fun t8_10 H_11 =>
  bindE (mLoad false 1 t8_10 H_11) fun t9_12 H_13 =>
  bindE (mConvBS t9_12 H_13) fun t10_14 H_15 =>
  bindE (mBin (cfg b) 9 false .eql t7_8 t10_14 H_15) fun t11_16 H_17 =>
  bindE (guardR (wantR true t11_16) (mFA 1 1 t2_0 H_17) H_17) fun t13_18 H_19 =>
  bindE (guardR (wantR true t11_16) (mLoad false 1 t13_18 H_19) H_19) fun t14_20 H_21 =>
  bindE (guardR (wantR true t11_16) (mConvBS t14_20 H_21) H_21) fun t15_22 H_23 =>
  bindE (guardR (wantR true t11_16) (mFA 1 1 t3_2 H_23) H_23) fun t16_24 H_25 =>
  bindE (guardR (wantR true t11_16) (mLoad false 1 t16_24 H_25) H_25) fun t17_26 H_27 =>
  bindE (guardR (wantR true t11_16) (mConvBS t17_26 H_27) H_27) fun t18_28 H_29 =>
  bindE (guardR (wantR true t11_16) (mBin (cfg b) 9 false .eql t15_22 t18_28 H_29) H_29) fun t19_30 H_31 =>
  bindE (mPick t11_16 t19_30 (AV.c (.bool false)) H_31) fun t20_32 H_33 =>
  bindE (guardR (wantR true t20_32) (mFA 2 2 t2_0 H_33) H_33) fun t22_34 H_35 =>
  bindE (guardR (wantR true t20_32) (mLoad false 1 t22_34 H_35) H_35) fun t23_36 H_37 =>
  bindE (guardR (wantR true t20_32) (mFA 2 2 t3_2 H_37) H_37) fun t24_38 H_39 =>
  bindE (guardR (wantR true t20_32) (mLoad false 1 t24_38 H_39) H_39) fun t25_40 H_41 =>
  bindE (guardR (wantR true t20_32) (mBin (cfg b) 3 false .eql t23_36 t25_40 H_41) H_41) fun t26_42 H_43 =>
  bindE (mPick t20_32 t26_42 (AV.c (.bool false)) H_43) fun t27_44 H_45 =>
  bindE (guardR (wantR true t27_44) (mFA 3 3 t2_0 H_45) H_45) fun t29_46 H_47 =>
  bindE (guardR (wantR true t27_44) (mLoad false 1 t29_46 H_47) H_47) fun t30_48 H_49 =>
  bindE (guardR (wantR true t27_44) (mFA 3 3 t3_2 H_49) H_49) fun t31_50 H_51 =>
  bindE (guardR (wantR true t27_44) (mLoad false 1 t31_50 H_51) H_51) fun t32_52 H_53 =>
  bindE (guardR (wantR true t27_44) (mBin (cfg b) 22 false .eql t30_48 t32_52 H_53) H_53) fun t33_54 H_55 =>
  bindE (mPick t27_44 t33_54 (AV.c (.bool false)) H_55) fun t34_56 H_57 =>
  bindE (guardR (wantR true t34_56) (mFA 4 4 t2_0 H_57) H_57) fun t36_58 H_59 =>
  bindE (guardR (wantR true t34_56) (mLoad true 32 t36_58 H_59) H_59) fun t37_60 H_61 =>
  bindE (guardR (wantR true t34_56) (mFA 4 4 t3_2 H_61) H_61) fun t38_62 H_63 =>
  bindE (guardR (wantR true t34_56) (mLoad true 32 t38_62 H_63) H_63) fun t39_64 H_65 =>
  bindE (guardR (wantR true t34_56) (mBin (cfg b) 41 false .eql t37_60 t39_64 H_65) H_65) fun t40_66 H_67 =>
  bindE (mPick t34_56 t40_66 (AV.c (.bool false)) H_67) fun t41_68 H_69 =>
  bindE (guardR (wantR true t41_68) (mFA 5 36 t2_0 H_69) H_69) fun t43_70 H_71 =>
  bindE (guardR (wantR true t41_68) (mLoad true 32 t43_70 H_71) H_71) fun t44_72 H_73 =>
  bindE (guardR (wantR true t41_68) (mFA 5 36 t3_2 H_73) H_73) fun t45_74 H_75 =>
  bindE (guardR (wantR true t41_68) (mLoad true 32 t45_74 H_75) H_75) fun t46_76 H_77 =>
  bindE (guardR (wantR true t41_68) (mBin (cfg b) 41 false .eql t44_72 t46_76 H_77) H_77) fun t47_78 H_79 =>
  bindE (mPick t41_68 t47_78 (AV.c (.bool false)) H_79) fun t48_80 H_81 =>
  endQ (cfg b) false k (resC1 (some t48_80) (some [])) H_81

/-- (*ferryman/ferrymanref05.Node).Api -/
noncomputable def p48 (b : Bool) (cf : CallFn) (k : Nat) (t0 : AV) (H : Heap) : Option (AV × Heap) :=
  bindE (mAlloc 66 (.agg [.nilsl, .nilsl, (.int .i64 0), (.int .u64 0), (.arr 32 .u8 (List.replicate 32 0)), (.arr 32 .u8 (List.replicate 32 0))]) H) fun t2_0 H_1 =>
  afterD (twice [0, 1, 3, 7, 0, 16, 48, 112, 0, 256, 768, 1792, 0, 4096, 12288, 28672, 65535, 0, 262143] (fun H_2 => bindE (drawM (some t0) H_2) fun t4_3 H_4 =>
  bindE (drawR true [t4_3.1] (fun F => mNil t4_3.1 F) H_4) fun t5_5 H_6 =>
  bindE (drawR true [t5_5.1] (fun F => mFA 0 0 t5_5.1 F) H_6) fun t6_7 H_8 =>
  bindE (drawR true [t6_7.1] (fun F => mLoad false 1 t6_7.1 F) H_8) fun t7_9 H_10 =>
  bindE (drawM (some t0) H_10) fun t8_11 H_12 =>
  bindE (drawR true [t8_11.1] (fun F => mNil t8_11.1 F) H_12) fun t9_13 H_14 =>
  bindE (drawR true [t9_13.1] (fun F => mFA 1 1 t9_13.1 F) H_14) fun t10_15 H_16 =>
  bindE (drawR true [t10_15.1] (fun F => mLoad false 1 t10_15.1 F) H_16) fun t11_17 H_18 =>
  bindE (drawM (some t0) H_18) fun t12_19 H_20 =>
  bindE (drawR true [t12_19.1] (fun F => mNil t12_19.1 F) H_20) fun t13_21 H_22 =>
  bindE (drawR true [t13_21.1] (fun F => mFA 2 2 t13_21.1 F) H_22) fun t14_23 H_24 =>
  bindE (drawR true [t14_23.1] (fun F => mLoad false 1 t14_23.1 F) H_24) fun t15_25 H_26 =>
  bindE (drawM (some t0) H_26) fun t16_27 H_28 =>
  bindE (drawR true [t16_27.1] (fun F => mNil t16_27.1 F) H_28) fun t17_29 H_30 =>
  bindE (drawR true [t17_29.1] (fun F => mFA 3 3 t17_29.1 F) H_30) fun t18_31 H_32 =>
  bindE (drawR true [t18_31.1] (fun F => mLoad false 1 t18_31.1 F) H_32) fun t19_33 H_34 =>
  bindE (drawR false [t7_9.1, t11_17.1, t15_25.1, t19_33.1] (fun F => mBuildS [.nilsl, .nilsl, (.int .i64 0), (.int .u64 0), (.arr 32 .u8 (List.replicate 32 0)), (.arr 32 .u8 (List.replicate 32 0))] [(0, t7_9.1), (1, t11_17.1), (2, t15_25.1), (3, t19_33.1)] F) H_34) fun t20_35 H_36 =>
  bindE (drawR false [] (fun F => mAlloc 66 (.agg [.nilsl, .nilsl, (.int .i64 0), (.int .u64 0), (.arr 32 .u8 (List.replicate 32 0)), (.arr 32 .u8 (List.replicate 32 0))]) F) H_36) fun t3_37 H_38 =>
  bindE (drawR false [t3_37.1, t20_35.1] (fun F => mStore true 68 t3_37.1 t20_35.1 F) H_38) fun u_39 H_40 =>
  some (([t3_37.1], [t4_3.2, t5_5.2, t6_7.2, t7_9.2, t8_11.2, t9_13.2, t10_15.2, t11_17.2, t12_19.2, t13_21.2, t14_23.2, t15_25.2, t16_27.2, t17_29.2, t18_31.2, t19_33.2, t20_35.2, t3_37.2, u_39.2]), H_40)) H_1) fun vs_41 H_42 =>
  un vs_41 fun t3_43 vs_44 => un0 vs_44 (bindE (mNil t0 H_42) fun t22_45 H_46 =>
  bindE (mFA 2 2 t22_45 H_46) fun t23_47 H_48 =>
  bindE (mLoad false 1 t23_47 H_48) fun t24_49 H_50 =>
  bindE (mBin (cfg b) 3 true .gtr t24_49 (AV.c (.int .i64 0)) H_50) fun t25_51 H_52 =>
  condR t25_51 (bindE (mNil t0 H_52) fun t27_53 H_54 =>
  bindE (mFA 4 4 t27_53 H_54) fun t28_55 H_56 =>
  bindE (mLoad false 1 t28_55 H_56) fun t29_57 H_58 =>
  bindE (cf 64 [t29_57] H_58) fun t30_59 H_60 =>
  bindE (mFA 4 4 t3_43 H_60) fun t31_61 H_62 =>
  bindE (mStore true 32 t31_61 t30_59 H_62) fun u_63 H_64 =>
  bindE (mNil t0 H_64) fun t33_65 H_66 =>
  bindE (mFA 5 5 t33_65 H_66) fun t34_67 H_68 =>
  bindE (mLoad false 1 t34_67 H_68) fun t35_69 H_70 =>
  bindE (cf 64 [t35_69] H_70) fun t36_71 H_72 =>
  bindE (mFA 5 36 t3_43 H_72) fun t37_73 H_74 =>
  bindE (mStore true 32 t37_73 t36_71 H_74) fun u_75 H_76 =>
  bindE (mLoad true 68 t3_43 H_76) fun t38_77 H_78 =>
  bindE (mStore true 68 t2_0 t38_77 H_78) fun u_79 H_80 =>
  endQ (cfg b) false k (resC1 (mld true 68 H_80 t2_0) (some [])) H_80) (bindE (mLoad true 68 t3_43 H_52) fun t38_81 H_82 =>
  bindE (mStore true 68 t2_0 t38_81 H_82) fun u_83 H_84 =>
  endQ (cfg b) false k (resC1 (mld true 68 H_84 t2_0) (some [])) H_84))

noncomputable def p50_l0 (b : Bool) (cf : CallFn) (k : Nat) (s : List AV) (H : Heap) : Option (LStep × Heap) :=
  un s fun t0_6 vs_7 => un vs_7 fun t1_8 vs_9 => un vs_9 fun t5_10 vs_11 => un0 vs_11 (bindE (mLenSl t0_6 H) fun t13_12 H_13 =>
  bindE (mBin (cfg b) 3 false .lss t5_10 t13_12 H_13) fun t14_14 H_15 =>
  condR t14_14 (afterD (twice [0, 0, 3, 7, 15, 31, 0, 0, 192, 448, 960, 1984, 4095, 8191, 16383, 16383, 65535, 131071, 262143, 524287, 16383, 16383, 3162111, 7356415, 15745023, 32522239, 67108863, 134217727] (fun H_16 => bindE (drawM (some t0_6) H_16) fun t17_17 H_18 =>
  bindE (drawM (some t5_10) H_18) fun t18_19 H_20 =>
  bindE (drawR true [t17_17.1, t18_19.1] (fun F => mIdxS 2 t17_17.1 t18_19.1 F) H_20) fun t19_21 H_22 =>
  bindE (drawR true [t19_21.1] (fun F => mFA 0 0 t19_21.1 F) H_22) fun t20_23 H_24 =>
  bindE (drawR true [t20_23.1] (fun F => mLoad false 1 t20_23.1 F) H_24) fun t21_25 H_26 =>
  bindE (drawR true [t21_25.1] (fun F => mConvBS t21_25.1 F) H_26) fun t22_27 H_28 =>
  bindE (drawM (some t1_8) H_28) fun t23_29 H_30 =>
  bindE (drawM (some t5_10) H_30) fun t24_31 H_32 =>
  bindE (drawR true [t23_29.1, t24_31.1] (fun F => mIdxS 2 t23_29.1 t24_31.1 F) H_32) fun t25_33 H_34 =>
  bindE (drawR true [t25_33.1] (fun F => mFA 0 0 t25_33.1 F) H_34) fun t26_35 H_36 =>
  bindE (drawR true [t26_35.1] (fun F => mLoad false 1 t26_35.1 F) H_36) fun t27_37 H_38 =>
  bindE (drawR true [t27_37.1] (fun F => mConvBS t27_37.1 F) H_38) fun t28_39 H_40 =>
  bindE (drawR true [t22_27.1, t28_39.1] (fun F => mBin (cfg b) 9 false .neq t22_27.1 t28_39.1 F) H_40) fun t29_41 H_42 =>
  bindE (drawM (some t29_41.1) H_42) fun t30_43 H_44 =>
  bindE (guardD (wantR false t30_43.1) (drawM (some t0_6) H_44) H_44) fun t31_45 H_46 =>
  bindE (guardD (wantR false t30_43.1) (drawM (some t5_10) H_46) H_46) fun t32_47 H_48 =>
  bindE (guardD (wantR false t30_43.1) (drawR true [t31_45.1, t32_47.1] (fun F => mIdxS 2 t31_45.1 t32_47.1 F) H_48) H_48) fun t33_49 H_50 =>
  bindE (guardD (wantR false t30_43.1) (drawR true [t33_49.1] (fun F => mFA 1 1 t33_49.1 F) H_50) H_50) fun t34_51 H_52 =>
  bindE (guardD (wantR false t30_43.1) (drawR true [t34_51.1] (fun F => mLoad false 1 t34_51.1 F) H_52) H_52) fun t35_53 H_54 =>
  bindE (guardD (wantR false t30_43.1) (drawR true [t35_53.1] (fun F => mConvBS t35_53.1 F) H_54) H_54) fun t36_55 H_56 =>
  bindE (guardD (wantR false t30_43.1) (drawM (some t1_8) H_56) H_56) fun t37_57 H_58 =>
  bindE (guardD (wantR false t30_43.1) (drawM (some t5_10) H_58) H_58) fun t38_59 H_60 =>
  bindE (guardD (wantR false t30_43.1) (drawR true [t37_57.1, t38_59.1] (fun F => mIdxS 2 t37_57.1 t38_59.1 F) H_60) H_60) fun t39_61 H_62 =>
  bindE (guardD (wantR false t30_43.1) (drawR true [t39_61.1] (fun F => mFA 1 1 t39_61.1 F) H_62) H_62) fun t40_63 H_64 =>
  bindE (guardD (wantR false t30_43.1) (drawR true [t40_63.1] (fun F => mLoad false 1 t40_63.1 F) H_64) H_64) fun t41_65 H_66 =>
  bindE (guardD (wantR false t30_43.1) (drawR true [t41_65.1] (fun F => mConvBS t41_65.1 F) H_66) H_66) fun t42_67 H_68 =>
  bindE (guardD (wantR false t30_43.1) (drawR true [t36_55.1, t42_67.1] (fun F => mBin (cfg b) 9 false .neq t36_55.1 t42_67.1 F) H_68) H_68) fun t43_69 H_70 =>
  bindE (drawR true [t30_43.1, t43_69.1] (fun F => mPick t30_43.1 (AV.c (.bool true)) t43_69.1 F) H_70) fun t44_71 H_72 =>
  some (([t44_71.1], [t17_17.2, t18_19.2, t19_21.2, t20_23.2, t21_25.2, t22_27.2, t23_29.2, t24_31.2, t25_33.2, t26_35.2, t27_37.2, t28_39.2, t29_41.2, t30_43.2, t31_45.2, t32_47.2, t33_49.2, t34_51.2, t35_53.2, t36_55.2, t37_57.2, t38_59.2, t39_61.2, t40_63.2, t41_65.2, t42_67.2, t43_69.2, t44_71.2]), H_72)) H_15) fun vs_73 H_74 =>
  un vs_73 fun t44_75 vs_76 => un0 vs_76 (condR t44_75 (some (LStep.ret [(AV.c (.bool false))], H_74)) (bindE (mBin (cfg b) 3 true .add t5_10 (AV.c (.int .i64 1)) H_74) fun t16_77 H_78 =>
  some (LStep.cont [t0_6, t1_8, t16_77], H_78)))) (some (LStep.exit 0 [AV.any], H_15)))
/-- ferryman/ferrymanref05.SamePairs -/
noncomputable def p50 (b : Bool) (cf : CallFn) (k : Nat) (t0 t1 : AV) (H : Heap) : Option (AV × Heap) :=
  bindE (mLenSl t0 H) fun t7_0 H_1 =>
  bindE (mLenSl t1 H_1) fun t9_2 H_3 =>
  bindE (mBin (cfg b) 3 false .neq t7_0 t9_2 H_3) fun t10_4 H_5 =>
  condR t10_4 (endQ (cfg b) false k (resC1 (some (AV.c (.bool false))) (some [])) H_5) (afterL 0 (loopX k (p50_l0 b cf k) [t0, t1, (AV.c (.int .i64 0))] H_5) (fun vs_79 H_80 =>
  un vs_79 fun t4_81 vs_82 => un0 vs_82 (endQ (cfg b) false k (resC1 (some (AV.c (.bool true))) (some [])) H_80)) (fun vs_79 H_80 => un vs_79 fun t4_83 vs_84 => un0 vs_84 (endQ (cfg b) false k (resC1 (some t4_83) (some [])) H_80)))

/-- (*ferryman/ferrymanref05.Node).Sum -/
noncomputable def p64 (b : Bool) (cf : CallFn) (k : Nat) (t0 : AV) (H : Heap) : Option (AV × Heap) :=
  bindE (mAlloc 41 (.arr 32 .u8 (List.replicate 32 0)) H) fun t2_0 H_1 =>
  bindE (mBin (cfg b) 57 true .eql t0 (AV.c .nilp) H_1) fun t4_2 H_3 =>
  condR t4_2 (bindE (cf 90 [(AV.c .nilsl)] H_3) fun t5_4 H_5 =>
  bindE (mStore true 32 t2_0 t5_4 H_5) fun u_6 H_7 =>
  endQ (cfg b) false k (resC1 (mld true 32 H_7 t2_0) (some [])) H_7) (bindE (cf 48 [t0] H_3) fun t7_8 H_9 =>
  bindE (cf 104 [t7_8] H_9) fun t8_10 H_11 =>
  bindE (mStore true 32 t2_0 t8_10 H_11) fun u_12 H_13 =>
  endQ (cfg b) false k (resC1 (mld true 32 H_13 t2_0) (some [])) H_13)

noncomputable def p65_l0 (b : Bool) (cf : CallFn) (k : Nat) (s : List AV) (H : Heap) : Option (LStep × Heap) :=
  un s fun t0_6 vs_7 => un vs_7 fun t1_8 vs_9 => un vs_9 fun t5_10 vs_11 => un0 vs_11 (bindE (mLenSl t0_6 H) fun t13_12 H_13 =>
  bindE (mBin (cfg b) 3 false .lss t5_10 t13_12 H_13) fun t14_14 H_15 =>
  condR t14_14 (afterD (twice [0, 0, 3, 7, 0, 0, 48, 112, 255, 511] (fun H_16 => bindE (drawM (some t0_6) H_16) fun t17_17 H_18 =>
  bindE (drawM (some t5_10) H_18) fun t18_19 H_20 =>
  bindE (drawR true [t17_17.1, t18_19.1] (fun F => mIdxS 68 t17_17.1 t18_19.1 F) H_20) fun t19_21 H_22 =>
  bindE (drawR true [t19_21.1] (fun F => mLoad true 68 t19_21.1 F) H_22) fun t20_23 H_24 =>
  bindE (drawM (some t1_8) H_24) fun t21_25 H_26 =>
  bindE (drawM (some t5_10) H_26) fun t22_27 H_28 =>
  bindE (drawR true [t21_25.1, t22_27.1] (fun F => mIdxS 68 t21_25.1 t22_27.1 F) H_28) fun t23_29 H_30 =>
  bindE (drawR true [t23_29.1] (fun F => mLoad true 68 t23_29.1 F) H_30) fun t24_31 H_32 =>
  bindE (drawR false [t20_23.1, t24_31.1] (fun F => cf 46 [t20_23.1, t24_31.1] F) H_32) fun t25_33 H_34 =>
  bindE (drawR true [t25_33.1] (fun F => mUn .not t25_33.1 F) H_34) fun t26_35 H_36 =>
  some (([t26_35.1], [t17_17.2, t18_19.2, t19_21.2, t20_23.2, t21_25.2, t22_27.2, t23_29.2, t24_31.2, t25_33.2, t26_35.2]), H_36)) H_15) fun vs_37 H_38 =>
  un vs_37 fun t26_39 vs_40 => un0 vs_40 (condR t26_39 (some (LStep.ret [(AV.c (.bool false))], H_38)) (bindE (mBin (cfg b) 3 true .add t5_10 (AV.c (.int .i64 1)) H_38) fun t16_41 H_42 =>
  some (LStep.cont [t0_6, t1_8, t16_41], H_42)))) (some (LStep.exit 0 [AV.any], H_15)))
/-- ferryman/ferrymanref05.SameNodes -/
noncomputable def p65 (b : Bool) (cf : CallFn) (k : Nat) (t0 t1 : AV) (H : Heap) : Option (AV × Heap) :=
  bindE (mLenSl t0 H) fun t7_0 H_1 =>
  bindE (mLenSl t1 H_1) fun t9_2 H_3 =>
  bindE (mBin (cfg b) 3 false .neq t7_0 t9_2 H_3) fun t10_4 H_5 =>
  condR t10_4 (endQ (cfg b) false k (resC1 (some (AV.c (.bool false))) (some [])) H_5) (afterL 0 (loopX k (p65_l0 b cf k) [t0, t1, (AV.c (.int .i64 0))] H_5) (fun vs_43 H_44 =>
  un vs_43 fun t4_45 vs_46 => un0 vs_46 (endQ (cfg b) false k (resC1 (some (AV.c (.bool true))) (some [])) H_44)) (fun vs_43 H_44 => un vs_43 fun t4_47 vs_48 => un0 vs_48 (endQ (cfg b) false k (resC1 (some t4_47) (some [])) H_44)))

/-- ferryman/ferrymanref05.All -/
noncomputable def p67 (b : Bool) (cf : CallFn) (k : Nat) (t0 t1 : AV) (H : Heap) : Option (AV × Heap) :=
  bindE (mBin (cfg b) 57 true .eql t0 (AV.c .nilp) H) fun t6_0 H_1 =>
  condR t6_0 (endQ (cfg b) true k (resC1 (some t1) (some [])) H_1) (bindE (cf 48 [t0] H_1) fun t10_2 H_3 =>
  bindE (mBuildSl 66 68 (.agg [.nilsl, .nilsl, (.int .i64 0), (.int .u64 0), (.arr 32 .u8 (List.replicate 32 0)), (.arr 32 .u8 (List.replicate 32 0))]) 1 [(0, t10_2)] H_3) fun t11_4 H_5 =>
  bindE (mAppend 66 68 128 false t1 t11_4 H_5) fun t12_6 H_7 =>
  bindE (mNil t0 H_7) fun t14_8 H_9 =>
  bindE (mFA 2 2 t14_8 H_9) fun t15_10 H_11 =>
  bindE (mLoad false 1 t15_10 H_11) fun t16_12 H_13 =>
  bindE (mBin (cfg b) 3 true .eql t16_12 (AV.c (.int .i64 0)) H_13) fun t17_14 H_15 =>
  condR t17_14 (endQ (cfg b) true k (resC1 (some t12_6) (some [])) H_15) (afterD (twice [0, 1, 3, 7, 0, 16, 48, 112, 0, 496, 1023, 2047] (fun H_16 => bindE (drawM (some t0) H_16) fun t19_17 H_18 =>
  bindE (drawR true [t19_17.1] (fun F => mNil t19_17.1 F) H_18) fun t20_19 H_20 =>
  bindE (drawR true [t20_19.1] (fun F => mFA 5 5 t20_19.1 F) H_20) fun t21_21 H_22 =>
  bindE (drawR true [t21_21.1] (fun F => mLoad false 1 t21_21.1 F) H_22) fun t22_23 H_24 =>
  bindE (drawM (some t0) H_24) fun t23_25 H_26 =>
  bindE (drawR true [t23_25.1] (fun F => mNil t23_25.1 F) H_26) fun t24_27 H_28 =>
  bindE (drawR true [t24_27.1] (fun F => mFA 4 4 t24_27.1 F) H_28) fun t25_29 H_30 =>
  bindE (drawR true [t25_29.1] (fun F => mLoad false 1 t25_29.1 F) H_30) fun t26_31 H_32 =>
  bindE (drawM (some t12_6) H_32) fun t27_33 H_34 =>
  bindE (drawR false [t26_31.1, t27_33.1] (fun F => cf 67 [t26_31.1, t27_33.1] F) H_34) fun t28_35 H_36 =>
  bindE (drawR false [t22_23.1, t28_35.1] (fun F => cf 67 [t22_23.1, t28_35.1] F) H_36) fun t29_37 H_38 =>
  bindE (drawM (some t29_37.1) H_38) fun t4_39 H_40 =>
  some (([t4_39.1], [t19_17.2, t20_19.2, t21_21.2, t22_23.2, t23_25.2, t24_27.2, t25_29.2, t26_31.2, t27_33.2, t28_35.2, t29_37.2, t4_39.2]), H_40)) H_15) fun vs_41 H_42 =>
  un vs_41 fun t4_43 vs_44 => un0 vs_44 (endQ (cfg b) true k (resC1 (some t4_43) (some [])) H_42)))

/-- ferryman/ferrymanref05.above -/
noncomputable def p93 (b : Bool) (cf : CallFn) (k : Nat) (t0 t1 : AV) (H : Heap) : Option (AV × Heap) :=
  bindE (mNil t0 H) fun t7_0 H_1 =>
  bindE (mFA 2 2 t7_0 H_1) fun t8_2 H_3 =>
  bindE (mLoad false 1 t8_2 H_3) fun t9_4 H_5 =>
  bindE (mNil t1 H_5) fun t11_6 H_7 =>
  bindE (mFA 2 2 t11_6 H_7) fun t12_8 H_9 =>
  bindE (mLoad false 1 t12_8 H_9) fun t13_10 H_11 =>
  bindE (mBin (cfg b) 3 false .gtr t13_10 t9_4 H_11) fun t15_12 H_13 =>
  condR t15_12 (bindE (mNil t1 H_13) fun t17_14 H_15 =>
  bindE (mFA 2 2 t17_14 H_15) fun t18_16 H_17 =>
  bindE (mLoad false 1 t18_16 H_17) fun t19_18 H_19 =>
  afterD (twice [0, 1, 0, 4, 0, 16, 48, 112, 0, 256, 768, 1792, 4080, 0, 0, 32767, 65535, 131071] (fun H_20 => bindE (drawM (some t1) H_20) fun t20_21 H_22 =>
  bindE (drawR false [t20_21.1] (fun F => cf 126 [t20_21.1] F) H_22) fun t21_23 H_24 =>
  bindE (drawM (some t19_18) H_24) fun t22_25 H_26 =>
  bindE (drawR true [t22_25.1] (fun F => mBin (cfg b) 3 true .add t22_25.1 (AV.c (.int .i64 1)) F) H_26) fun t23_27 H_28 =>
  bindE (drawM (some t0) H_28) fun t24_29 H_30 =>
  bindE (drawR true [t24_29.1] (fun F => mNil t24_29.1 F) H_30) fun t25_31 H_32 =>
  bindE (drawR true [t25_31.1] (fun F => mFA 3 3 t25_31.1 F) H_32) fun t26_33 H_34 =>
  bindE (drawR true [t26_33.1] (fun F => mLoad false 1 t26_33.1 F) H_34) fun t27_35 H_36 =>
  bindE (drawM (some t1) H_36) fun t28_37 H_38 =>
  bindE (drawR true [t28_37.1] (fun F => mNil t28_37.1 F) H_38) fun t29_39 H_40 =>
  bindE (drawR true [t29_39.1] (fun F => mFA 3 3 t29_39.1 F) H_40) fun t30_41 H_42 =>
  bindE (drawR true [t30_41.1] (fun F => mLoad false 1 t30_41.1 F) H_42) fun t31_43 H_44 =>
  bindE (drawR true [t27_35.1, t31_43.1] (fun F => mBin (cfg b) 22 false .add t27_35.1 t31_43.1 F) H_44) fun t32_45 H_46 =>
  bindE (drawM (some t0) H_46) fun t33_47 H_48 =>
  bindE (drawM (some t1) H_48) fun t34_49 H_50 =>
  bindE (drawR false [t21_23.1, t23_27.1, t32_45.1, t33_47.1, t34_49.1] (fun F => mBuildS [.nilsl, .nilsl, (.int .i64 0), (.int .u64 0), .nilp, .nilp] [(0, t21_23.1), (2, t23_27.1), (3, t32_45.1), (4, t33_47.1), (5, t34_49.1)] F) H_50) fun t35_51 H_52 =>
  bindE (drawR false [t35_51.1] (fun F => mBox 64 t35_51.1 F) H_52) fun t36_53 H_54 =>
  bindE (drawM (some t36_53.1) H_54) fun t4_55 H_56 =>
  some (([t4_55.1], [t20_21.2, t21_23.2, t22_25.2, t23_27.2, t24_29.2, t25_31.2, t26_33.2, t27_35.2, t28_37.2, t29_39.2, t30_41.2, t31_43.2, t32_45.2, t33_47.2, t34_49.2, t35_51.2, t36_53.2, t4_55.2]), H_56)) H_19) fun vs_57 H_58 =>
  un vs_57 fun t4_59 vs_60 => un0 vs_60 (endQ (cfg b) false k (resC1 (some t4_59) (some [])) H_58)) (afterD (twice [0, 1, 0, 4, 0, 16, 48, 112, 0, 256, 768, 1792, 4080, 0, 0, 32767, 65535, 131071] (fun H_61 => bindE (drawM (some t1) H_61) fun t20_62 H_63 =>
  bindE (drawR false [t20_62.1] (fun F => cf 126 [t20_62.1] F) H_63) fun t21_64 H_65 =>
  bindE (drawM (some t9_4) H_65) fun t22_66 H_67 =>
  bindE (drawR true [t22_66.1] (fun F => mBin (cfg b) 3 true .add t22_66.1 (AV.c (.int .i64 1)) F) H_67) fun t23_68 H_69 =>
  bindE (drawM (some t0) H_69) fun t24_70 H_71 =>
  bindE (drawR true [t24_70.1] (fun F => mNil t24_70.1 F) H_71) fun t25_72 H_73 =>
  bindE (drawR true [t25_72.1] (fun F => mFA 3 3 t25_72.1 F) H_73) fun t26_74 H_75 =>
  bindE (drawR true [t26_74.1] (fun F => mLoad false 1 t26_74.1 F) H_75) fun t27_76 H_77 =>
  bindE (drawM (some t1) H_77) fun t28_78 H_79 =>
  bindE (drawR true [t28_78.1] (fun F => mNil t28_78.1 F) H_79) fun t29_80 H_81 =>
  bindE (drawR true [t29_80.1] (fun F => mFA 3 3 t29_80.1 F) H_81) fun t30_82 H_83 =>
  bindE (drawR true [t30_82.1] (fun F => mLoad false 1 t30_82.1 F) H_83) fun t31_84 H_85 =>
  bindE (drawR true [t27_76.1, t31_84.1] (fun F => mBin (cfg b) 22 false .add t27_76.1 t31_84.1 F) H_85) fun t32_86 H_87 =>
  bindE (drawM (some t0) H_87) fun t33_88 H_89 =>
  bindE (drawM (some t1) H_89) fun t34_90 H_91 =>
  bindE (drawR false [t21_64.1, t23_68.1, t32_86.1, t33_88.1, t34_90.1] (fun F => mBuildS [.nilsl, .nilsl, (.int .i64 0), (.int .u64 0), .nilp, .nilp] [(0, t21_64.1), (2, t23_68.1), (3, t32_86.1), (4, t33_88.1), (5, t34_90.1)] F) H_91) fun t35_92 H_93 =>
  bindE (drawR false [t35_92.1] (fun F => mBox 64 t35_92.1 F) H_93) fun t36_94 H_95 =>
  bindE (drawM (some t36_94.1) H_95) fun t4_96 H_97 =>
  some (([t4_96.1], [t20_62.2, t21_64.2, t22_66.2, t23_68.2, t24_70.2, t25_72.2, t26_74.2, t27_76.2, t28_78.2, t29_80.2, t30_82.2, t31_84.2, t32_86.2, t33_88.2, t34_90.2, t35_92.2, t36_94.2, t4_96.2]), H_97)) H_13) fun vs_98 H_99 =>
  un vs_98 fun t4_100 vs_101 => un0 vs_101 (endQ (cfg b) false k (resC1 (some t4_100) (some [])) H_99))

/-- ferryman/ferrymanref05.balanced -/
noncomputable def p94 (b : Bool) (cf : CallFn) (k : Nat) (t0 t1 : AV) (H : Heap) : Option (AV × Heap) :=
  afterD (twice [0, 1, 3, 7, 0, 16, 48, 112, 240, 511] (fun H_0 => bindE (drawM (some t0) H_0) fun t7_1 H_2 =>
  bindE (drawR true [t7_1.1] (fun F => mNil t7_1.1 F) H_2) fun t8_3 H_4 =>
  bindE (drawR true [t8_3.1] (fun F => mFA 2 2 t8_3.1 F) H_4) fun t9_5 H_6 =>
  bindE (drawR true [t9_5.1] (fun F => mLoad false 1 t9_5.1 F) H_6) fun t10_7 H_8 =>
  bindE (drawM (some t1) H_8) fun t11_9 H_10 =>
  bindE (drawR true [t11_9.1] (fun F => mNil t11_9.1 F) H_10) fun t12_11 H_12 =>
  bindE (drawR true [t12_11.1] (fun F => mFA 2 2 t12_11.1 F) H_12) fun t13_13 H_14 =>
  bindE (drawR true [t13_13.1] (fun F => mLoad false 1 t13_13.1 F) H_14) fun t14_15 H_16 =>
  bindE (drawR true [t14_15.1] (fun F => mBin (cfg b) 3 true .add t14_15.1 (AV.c (.int .i64 1)) F) H_16) fun t15_17 H_18 =>
  bindE (drawR true [t10_7.1, t15_17.1] (fun F => mBin (cfg b) 3 false .gtr t10_7.1 t15_17.1 F) H_18) fun t16_19 H_20 =>
  some (([t16_19.1], [t7_1.2, t8_3.2, t9_5.2, t10_7.2, t11_9.2, t12_11.2, t13_13.2, t14_15.2, t15_17.2, t16_19.2]), H_20)) H) fun vs_21 H_22 =>
  un vs_21 fun t16_23 vs_24 => un0 vs_24 (condR t16_23 (afterD (twice [0, 1, 3, 7, 15, 31, 63, 0, 128, 384, 896, 1920, 3968, 8064, 16383] (fun H_25 => bindE (drawM (some t0) H_25) fun t17_26 H_27 =>
  bindE (drawR true [t17_26.1] (fun F => mNil t17_26.1 F) H_27) fun t18_28 H_29 =>
  bindE (drawR true [t18_28.1] (fun F => mFA 4 4 t18_28.1 F) H_29) fun t19_30 H_31 =>
  bindE (drawR true [t19_30.1] (fun F => mLoad false 1 t19_30.1 F) H_31) fun t20_32 H_33 =>
  bindE (drawR true [t20_32.1] (fun F => mNil t20_32.1 F) H_33) fun t21_34 H_35 =>
  bindE (drawR true [t21_34.1] (fun F => mFA 2 2 t21_34.1 F) H_35) fun t22_36 H_37 =>
  bindE (drawR true [t22_36.1] (fun F => mLoad false 1 t22_36.1 F) H_37) fun t23_38 H_39 =>
  bindE (drawM (some t0) H_39) fun t24_40 H_41 =>
  bindE (drawR true [t24_40.1] (fun F => mNil t24_40.1 F) H_41) fun t25_42 H_43 =>
  bindE (drawR true [t25_42.1] (fun F => mFA 5 5 t25_42.1 F) H_43) fun t26_44 H_45 =>
  bindE (drawR true [t26_44.1] (fun F => mLoad false 1 t26_44.1 F) H_45) fun t27_46 H_47 =>
  bindE (drawR true [t27_46.1] (fun F => mNil t27_46.1 F) H_47) fun t28_48 H_49 =>
  bindE (drawR true [t28_48.1] (fun F => mFA 2 2 t28_48.1 F) H_49) fun t29_50 H_51 =>
  bindE (drawR true [t29_50.1] (fun F => mLoad false 1 t29_50.1 F) H_51) fun t30_52 H_53 =>
  bindE (drawR true [t23_38.1, t30_52.1] (fun F => mBin (cfg b) 3 false .lss t23_38.1 t30_52.1 F) H_53) fun t31_54 H_55 =>
  some (([t31_54.1], [t17_26.2, t18_28.2, t19_30.2, t20_32.2, t21_34.2, t22_36.2, t23_38.2, t24_40.2, t25_42.2, t26_44.2, t27_46.2, t28_48.2, t29_50.2, t30_52.2, t31_54.2]), H_55)) H_22) fun vs_56 H_57 =>
  un vs_56 fun t31_58 vs_59 => un0 vs_59 (condR t31_58 (bindE (mNil t0 H_57) fun t33_60 H_61 =>
  bindE (mFA 5 5 t33_60 H_61) fun t34_62 H_63 =>
  bindE (mLoad false 1 t34_62 H_63) fun t35_64 H_65 =>
  afterD (twice [0, 1, 3, 7, 0, 16, 48, 112, 255, 0, 512, 1536, 3584, 0, 16383, 32767, 65535] (fun H_66 => bindE (drawM (some t0) H_66) fun t36_67 H_68 =>
  bindE (drawR true [t36_67.1] (fun F => mNil t36_67.1 F) H_68) fun t37_69 H_70 =>
  bindE (drawR true [t37_69.1] (fun F => mFA 4 4 t37_69.1 F) H_70) fun t38_71 H_72 =>
  bindE (drawR true [t38_71.1] (fun F => mLoad false 1 t38_71.1 F) H_72) fun t39_73 H_74 =>
  bindE (drawM (some t35_64) H_74) fun t40_75 H_76 =>
  bindE (drawR true [t40_75.1] (fun F => mNil t40_75.1 F) H_76) fun t41_77 H_78 =>
  bindE (drawR true [t41_77.1] (fun F => mFA 4 4 t41_77.1 F) H_78) fun t42_79 H_80 =>
  bindE (drawR true [t42_79.1] (fun F => mLoad false 1 t42_79.1 F) H_80) fun t43_81 H_82 =>
  bindE (drawR false [t39_73.1, t43_81.1] (fun F => cf 93 [t39_73.1, t43_81.1] F) H_82) fun t44_83 H_84 =>
  bindE (drawM (some t35_64) H_84) fun t45_85 H_86 =>
  bindE (drawR true [t45_85.1] (fun F => mNil t45_85.1 F) H_86) fun t46_87 H_88 =>
  bindE (drawR true [t46_87.1] (fun F => mFA 5 5 t46_87.1 F) H_88) fun t47_89 H_90 =>
  bindE (drawR true [t47_89.1] (fun F => mLoad false 1 t47_89.1 F) H_90) fun t48_91 H_92 =>
  bindE (drawM (some t1) H_92) fun t49_93 H_94 =>
  bindE (drawR false [t48_91.1, t49_93.1] (fun F => cf 93 [t48_91.1, t49_93.1] F) H_94) fun t50_95 H_96 =>
  bindE (drawR false [t44_83.1, t50_95.1] (fun F => cf 93 [t44_83.1, t50_95.1] F) H_96) fun t51_97 H_98 =>
  bindE (drawM (some t51_97.1) H_98) fun t4_99 H_100 =>
  some (([t4_99.1], [t36_67.2, t37_69.2, t38_71.2, t39_73.2, t40_75.2, t41_77.2, t42_79.2, t43_81.2, t44_83.2, t45_85.2, t46_87.2, t47_89.2, t48_91.2, t49_93.2, t50_95.2, t51_97.2, t4_99.2]), H_100)) H_65) fun vs_101 H_102 =>
  un vs_101 fun t4_103 vs_104 => un0 vs_104 (endQ (cfg b) false k (resC1 (some t4_103) (some [])) H_102)) (afterD (twice [0, 1, 3, 7, 0, 16, 48, 112, 0, 496, 1023, 2047] (fun H_105 => bindE (drawM (some t0) H_105) fun t52_106 H_107 =>
  bindE (drawR true [t52_106.1] (fun F => mNil t52_106.1 F) H_107) fun t53_108 H_109 =>
  bindE (drawR true [t53_108.1] (fun F => mFA 4 4 t53_108.1 F) H_109) fun t54_110 H_111 =>
  bindE (drawR true [t54_110.1] (fun F => mLoad false 1 t54_110.1 F) H_111) fun t55_112 H_113 =>
  bindE (drawM (some t0) H_113) fun t56_114 H_115 =>
  bindE (drawR true [t56_114.1] (fun F => mNil t56_114.1 F) H_115) fun t57_116 H_117 =>
  bindE (drawR true [t57_116.1] (fun F => mFA 5 5 t57_116.1 F) H_117) fun t58_118 H_119 =>
  bindE (drawR true [t58_118.1] (fun F => mLoad false 1 t58_118.1 F) H_119) fun t59_120 H_121 =>
  bindE (drawM (some t1) H_121) fun t60_122 H_123 =>
  bindE (drawR false [t59_120.1, t60_122.1] (fun F => cf 93 [t59_120.1, t60_122.1] F) H_123) fun t61_124 H_125 =>
  bindE (drawR false [t55_112.1, t61_124.1] (fun F => cf 93 [t55_112.1, t61_124.1] F) H_125) fun t62_126 H_127 =>
  bindE (drawM (some t62_126.1) H_127) fun t4_128 H_129 =>
  some (([t4_128.1], [t52_106.2, t53_108.2, t54_110.2, t55_112.2, t56_114.2, t57_116.2, t58_118.2, t59_120.2, t60_122.2, t61_124.2, t62_126.2, t4_128.2]), H_129)) H_57) fun vs_130 H_131 =>
  un vs_130 fun t4_132 vs_133 => un0 vs_133 (endQ (cfg b) false k (resC1 (some t4_132) (some [])) H_131)))) (afterD (twice [0, 1, 3, 7, 0, 16, 48, 112, 240, 511] (fun H_134 => bindE (drawM (some t1) H_134) fun t63_135 H_136 =>
  bindE (drawR true [t63_135.1] (fun F => mNil t63_135.1 F) H_136) fun t64_137 H_138 =>
  bindE (drawR true [t64_137.1] (fun F => mFA 2 2 t64_137.1 F) H_138) fun t65_139 H_140 =>
  bindE (drawR true [t65_139.1] (fun F => mLoad false 1 t65_139.1 F) H_140) fun t66_141 H_142 =>
  bindE (drawM (some t0) H_142) fun t67_143 H_144 =>
  bindE (drawR true [t67_143.1] (fun F => mNil t67_143.1 F) H_144) fun t68_145 H_146 =>
  bindE (drawR true [t68_145.1] (fun F => mFA 2 2 t68_145.1 F) H_146) fun t69_147 H_148 =>
  bindE (drawR true [t69_147.1] (fun F => mLoad false 1 t69_147.1 F) H_148) fun t70_149 H_150 =>
  bindE (drawR true [t70_149.1] (fun F => mBin (cfg b) 3 true .add t70_149.1 (AV.c (.int .i64 1)) F) H_150) fun t71_151 H_152 =>
  bindE (drawR true [t66_141.1, t71_151.1] (fun F => mBin (cfg b) 3 false .gtr t66_141.1 t71_151.1 F) H_152) fun t72_153 H_154 =>
  some (([t72_153.1], [t63_135.2, t64_137.2, t65_139.2, t66_141.2, t67_143.2, t68_145.2, t69_147.2, t70_149.2, t71_151.2, t72_153.2]), H_154)) H_22) fun vs_155 H_156 =>
  un vs_155 fun t72_157 vs_158 => un0 vs_158 (condR t72_157 (afterD (twice [0, 1, 3, 7, 15, 31, 63, 0, 128, 384, 896, 1920, 3968, 8064, 16383] (fun H_159 => bindE (drawM (some t1) H_159) fun t73_160 H_161 =>
  bindE (drawR true [t73_160.1] (fun F => mNil t73_160.1 F) H_161) fun t74_162 H_163 =>
  bindE (drawR true [t74_162.1] (fun F => mFA 5 5 t74_162.1 F) H_163) fun t75_164 H_165 =>
  bindE (drawR true [t75_164.1] (fun F => mLoad false 1 t75_164.1 F) H_165) fun t76_166 H_167 =>
  bindE (drawR true [t76_166.1] (fun F => mNil t76_166.1 F) H_167) fun t77_168 H_169 =>
  bindE (drawR true [t77_168.1] (fun F => mFA 2 2 t77_168.1 F) H_169) fun t78_170 H_171 =>
  bindE (drawR true [t78_170.1] (fun F => mLoad false 1 t78_170.1 F) H_171) fun t79_172 H_173 =>
  bindE (drawM (some t1) H_173) fun t80_174 H_175 =>
  bindE (drawR true [t80_174.1] (fun F => mNil t80_174.1 F) H_175) fun t81_176 H_177 =>
  bindE (drawR true [t81_176.1] (fun F => mFA 4 4 t81_176.1 F) H_177) fun t82_178 H_179 =>
  bindE (drawR true [t82_178.1] (fun F => mLoad false 1 t82_178.1 F) H_179) fun t83_180 H_181 =>
  bindE (drawR true [t83_180.1] (fun F => mNil t83_180.1 F) H_181) fun t84_182 H_183 =>
  bindE (drawR true [t84_182.1] (fun F => mFA 2 2 t84_182.1 F) H_183) fun t85_184 H_185 =>
  bindE (drawR true [t85_184.1] (fun F => mLoad false 1 t85_184.1 F) H_185) fun t86_186 H_187 =>
  bindE (drawR true [t79_172.1, t86_186.1] (fun F => mBin (cfg b) 3 false .lss t79_172.1 t86_186.1 F) H_187) fun t87_188 H_189 =>
  some (([t87_188.1], [t73_160.2, t74_162.2, t75_164.2, t76_166.2, t77_168.2, t78_170.2, t79_172.2, t80_174.2, t81_176.2, t82_178.2, t83_180.2, t84_182.2, t85_184.2, t86_186.2, t87_188.2]), H_189)) H_156) fun vs_190 H_191 =>
  un vs_190 fun t87_192 vs_193 => un0 vs_193 (condR t87_192 (bindE (mNil t1 H_191) fun t89_194 H_195 =>
  bindE (mFA 4 4 t89_194 H_195) fun t90_196 H_197 =>
  bindE (mLoad false 1 t90_196 H_197) fun t91_198 H_199 =>
  afterD (twice [0, 0, 2, 6, 14, 31, 0, 64, 192, 448, 0, 1024, 3072, 7168, 16383, 32767, 65535] (fun H_200 => bindE (drawM (some t0) H_200) fun t92_201 H_202 =>
  bindE (drawM (some t91_198) H_202) fun t93_203 H_204 =>
  bindE (drawR true [t93_203.1] (fun F => mNil t93_203.1 F) H_204) fun t94_205 H_206 =>
  bindE (drawR true [t94_205.1] (fun F => mFA 4 4 t94_205.1 F) H_206) fun t95_207 H_208 =>
  bindE (drawR true [t95_207.1] (fun F => mLoad false 1 t95_207.1 F) H_208) fun t96_209 H_210 =>
  bindE (drawR false [t92_201.1, t96_209.1] (fun F => cf 93 [t92_201.1, t96_209.1] F) H_210) fun t97_211 H_212 =>
  bindE (drawM (some t91_198) H_212) fun t98_213 H_214 =>
  bindE (drawR true [t98_213.1] (fun F => mNil t98_213.1 F) H_214) fun t99_215 H_216 =>
  bindE (drawR true [t99_215.1] (fun F => mFA 5 5 t99_215.1 F) H_216) fun t100_217 H_218 =>
  bindE (drawR true [t100_217.1] (fun F => mLoad false 1 t100_217.1 F) H_218) fun t101_219 H_220 =>
  bindE (drawM (some t1) H_220) fun t102_221 H_222 =>
  bindE (drawR true [t102_221.1] (fun F => mNil t102_221.1 F) H_222) fun t103_223 H_224 =>
  bindE (drawR true [t103_223.1] (fun F => mFA 5 5 t103_223.1 F) H_224) fun t104_225 H_226 =>
  bindE (drawR true [t104_225.1] (fun F => mLoad false 1 t104_225.1 F) H_226) fun t105_227 H_228 =>
  bindE (drawR false [t101_219.1, t105_227.1] (fun F => cf 93 [t101_219.1, t105_227.1] F) H_228) fun t106_229 H_230 =>
  bindE (drawR false [t97_211.1, t106_229.1] (fun F => cf 93 [t97_211.1, t106_229.1] F) H_230) fun t107_231 H_232 =>
  bindE (drawM (some t107_231.1) H_232) fun t4_233 H_234 =>
  some (([t4_233.1], [t92_201.2, t93_203.2, t94_205.2, t95_207.2, t96_209.2, t97_211.2, t98_213.2, t99_215.2, t100_217.2, t101_219.2, t102_221.2, t103_223.2, t104_225.2, t105_227.2, t106_229.2, t107_231.2, t4_233.2]), H_234)) H_199) fun vs_235 H_236 =>
  un vs_235 fun t4_237 vs_238 => un0 vs_238 (endQ (cfg b) false k (resC1 (some t4_237) (some [])) H_236)) (afterD (twice [0, 0, 2, 6, 14, 31, 0, 64, 192, 448, 1023, 2047] (fun H_239 => bindE (drawM (some t0) H_239) fun t108_240 H_241 =>
  bindE (drawM (some t1) H_241) fun t109_242 H_243 =>
  bindE (drawR true [t109_242.1] (fun F => mNil t109_242.1 F) H_243) fun t110_244 H_245 =>
  bindE (drawR true [t110_244.1] (fun F => mFA 4 4 t110_244.1 F) H_245) fun t111_246 H_247 =>
  bindE (drawR true [t111_246.1] (fun F => mLoad false 1 t111_246.1 F) H_247) fun t112_248 H_249 =>
  bindE (drawR false [t108_240.1, t112_248.1] (fun F => cf 93 [t108_240.1, t112_248.1] F) H_249) fun t113_250 H_251 =>
  bindE (drawM (some t1) H_251) fun t114_252 H_253 =>
  bindE (drawR true [t114_252.1] (fun F => mNil t114_252.1 F) H_253) fun t115_254 H_255 =>
  bindE (drawR true [t115_254.1] (fun F => mFA 5 5 t115_254.1 F) H_255) fun t116_256 H_257 =>
  bindE (drawR true [t116_256.1] (fun F => mLoad false 1 t116_256.1 F) H_257) fun t117_258 H_259 =>
  bindE (drawR false [t113_250.1, t117_258.1] (fun F => cf 93 [t113_250.1, t117_258.1] F) H_259) fun t118_260 H_261 =>
  bindE (drawM (some t118_260.1) H_261) fun t4_262 H_263 =>
  some (([t4_262.1], [t108_240.2, t109_242.2, t110_244.2, t111_246.2, t112_248.2, t113_250.2, t114_252.2, t115_254.2, t116_256.2, t117_258.2, t118_260.2, t4_262.2]), H_263)) H_191) fun vs_264 H_265 =>
  un vs_264 fun t4_266 vs_267 => un0 vs_267 (endQ (cfg b) false k (resC1 (some t4_266) (some [])) H_265)))) (bindE (cf 93 [t0, t1] H_156) fun t121_268 H_269 =>
  endQ (cfg b) false k (resC1 (some t121_268) (some [])) H_269))))

/-- ferryman/ferrymanref05.Hash -/
noncomputable def p104 (b : Bool) (cf : CallFn) (k : Nat) (t0 : AV) (H : Heap) : Option (AV × Heap) :=
  bindE (mBox 66 t0 H) fun t1_0 H_1 =>
  bindE (mAlloc 41 (.arr 32 .u8 (List.replicate 32 0)) H_1) fun t2_2 H_3 =>
  bindE (mFA 2 2 t1_0 H_3) fun t5_4 H_5 =>
  bindE (mLoad false 1 t5_4 H_5) fun t6_6 H_7 =>
  bindE (mBin (cfg b) 3 true .eql t6_6 (AV.c (.int .i64 0)) H_7) fun t7_8 H_9 =>
  condR t7_8 (bindE (mFA 1 1 t1_0 H_9) fun t8_10 H_11 =>
  bindE (mLoad false 1 t8_10 H_11) fun t9_12 H_13 =>
  bindE (cf 90 [t9_12] H_13) fun t10_14 H_15 =>
  bindE (mAlloc 41 (.arr 32 .u8 (List.replicate 32 0)) H_15) fun t3_16 H_17 =>
  bindE (mStore true 32 t3_16 t10_14 H_17) fun u_18 H_19 =>
  afterD (twice [0, 1, 3, 7, 15, 0, 32, 127, 0, 511, 1023, 2047] (fun H_20 => bindE (drawR true [t1_0] (fun F => mFA 0 0 t1_0 F) H_20) fun t11_21 H_22 =>
  bindE (drawR true [t11_21.1] (fun F => mLoad false 1 t11_21.1 F) H_22) fun t12_23 H_24 =>
  bindE (drawR true [t12_23.1] (fun F => mLenSl t12_23.1 F) H_24) fun t13_25 H_26 =>
  bindE (drawR true [t13_25.1] (fun F => mConvI .u8 t13_25.1 F) H_26) fun t14_27 H_28 =>
  bindE (drawR false [t14_27.1] (fun F => mBuildSl 5 1 (.int .u8 0) 2 [(0, (AV.c (.int .u8 0))), (1, t14_27.1)] F) H_28) fun t15_29 H_30 =>
  bindE (drawR true [t1_0] (fun F => mFA 0 0 t1_0 F) H_30) fun t16_31 H_32 =>
  bindE (drawR true [t16_31.1] (fun F => mLoad false 1 t16_31.1 F) H_32) fun t17_33 H_34 =>
  bindE (drawR false [t15_29.1, t17_33.1] (fun F => mAppend 5 1 1 false t15_29.1 t17_33.1 F) H_34) fun t18_35 H_36 =>
  bindE (drawR false [t3_16] (fun F => mSliceArr 32 t3_16 none none F) H_36) fun t19_37 H_38 =>
  bindE (drawR false [t18_35.1, t19_37.1] (fun F => mAppend 5 1 1 false t18_35.1 t19_37.1 F) H_38) fun t20_39 H_40 =>
  bindE (drawR false [t20_39.1] (fun F => cf 90 [t20_39.1] F) H_40) fun t21_41 H_42 =>
  bindE (drawR false [t2_2, t21_41.1] (fun F => mStore true 32 t2_2 t21_41.1 F) H_42) fun u_43 H_44 =>
  some (([], [t11_21.2, t12_23.2, t13_25.2, t14_27.2, t15_29.2, t16_31.2, t17_33.2, t18_35.2, t19_37.2, t20_39.2, t21_41.2, u_43.2]), H_44)) H_19) fun vs_45 H_46 =>
  un0 vs_45 (endQ (cfg b) false k (resC1 (mld true 32 H_46 t2_2) (some [])) H_46)) (afterD (twice [0, 1, 3, 7, 0, 16, 48, 127, 255] (fun H_47 => bindE (drawR true [t1_0] (fun F => mFA 2 2 t1_0 F) H_47) fun t22_48 H_49 =>
  bindE (drawR true [t22_48.1] (fun F => mLoad false 1 t22_48.1 F) H_49) fun t23_50 H_51 =>
  bindE (drawR true [t23_50.1] (fun F => mConvI .u8 t23_50.1 F) H_51) fun t24_52 H_53 =>
  bindE (drawR false [t24_52.1] (fun F => mBuildSl 5 1 (.int .u8 0) 2 [(0, (AV.c (.int .u8 1))), (1, t24_52.1)] F) H_53) fun t25_54 H_55 =>
  bindE (drawR true [t1_0] (fun F => mFA 3 3 t1_0 F) H_55) fun t26_56 H_57 =>
  bindE (drawR true [t26_56.1] (fun F => mLoad false 1 t26_56.1 F) H_57) fun t27_58 H_59 =>
  bindE (drawR false [t27_58.1] (fun F => cf 32 [t27_58.1] F) H_59) fun t28_60 H_61 =>
  bindE (drawR false [t25_54.1, t28_60.1] (fun F => mAppend 5 1 1 false t25_54.1 t28_60.1 F) H_61) fun t29_62 H_63 =>
  bindE (drawM (some t29_62.1) H_63) fun t4_64 H_65 =>
  some (([t4_64.1], [t22_48.2, t23_50.2, t24_52.2, t25_54.2, t26_56.2, t27_58.2, t28_60.2, t29_62.2, t4_64.2]), H_65)) H_9) fun vs_66 H_67 =>
  un vs_66 fun t4_68 vs_69 => un0 vs_69 (afterD (twice [0, 0, 2, 7, 0, 16, 63, 127, 255] (fun H_70 => bindE (drawM (some t4_68) H_70) fun t30_71 H_72 =>
  bindE (drawR true [t1_0] (fun F => mFA 4 4 t1_0 F) H_72) fun t31_73 H_74 =>
  bindE (drawR false [t31_73.1] (fun F => mSliceArr 32 t31_73.1 none none F) H_74) fun t32_75 H_76 =>
  bindE (drawR false [t30_71.1, t32_75.1] (fun F => mAppend 5 1 1 false t30_71.1 t32_75.1 F) H_76) fun t33_77 H_78 =>
  bindE (drawR true [t1_0] (fun F => mFA 5 36 t1_0 F) H_78) fun t34_79 H_80 =>
  bindE (drawR false [t34_79.1] (fun F => mSliceArr 32 t34_79.1 none none F) H_80) fun t35_81 H_82 =>
  bindE (drawR false [t33_77.1, t35_81.1] (fun F => mAppend 5 1 1 false t33_77.1 t35_81.1 F) H_82) fun t36_83 H_84 =>
  bindE (drawR false [t36_83.1] (fun F => cf 90 [t36_83.1] F) H_84) fun t37_85 H_86 =>
  bindE (drawR false [t2_2, t37_85.1] (fun F => mStore true 32 t2_2 t37_85.1 F) H_86) fun u_87 H_88 =>
  some (([], [t30_71.2, t31_73.2, t32_75.2, t33_77.2, t34_79.2, t35_81.2, t36_83.2, t37_85.2, u_87.2]), H_88)) H_67) fun vs_89 H_90 =>
  un0 vs_89 (endQ (cfg b) false k (resC1 (mld true 32 H_90 t2_2) (some [])) H_90)))

noncomputable def p126_l0 (b : Bool) (cf : CallFn) (k : Nat) (s : List AV) (H : Heap) : Option (LStep × Heap) :=
  un s fun t0_0 vs_1 => un0 vs_1 (bindE (mNil t0_0 H) fun t4_2 H_3 =>
  bindE (mFA 2 2 t4_2 H_3) fun t5_4 H_5 =>
  bindE (mLoad false 1 t5_4 H_5) fun t6_6 H_7 =>
  bindE (mBin (cfg b) 3 true .gtr t6_6 (AV.c (.int .i64 0)) H_7) fun t7_8 H_9 =>
  condR t7_8 (bindE (mNil t0_0 H_9) fun t9_10 H_11 =>
  bindE (mFA 4 4 t9_10 H_11) fun t10_12 H_13 =>
  bindE (mLoad false 1 t10_12 H_13) fun t11_14 H_15 =>
  some (LStep.cont [t11_14], H_15)) (some (LStep.exit 0 [t0_0], H_9)))
/-- (*ferryman/ferrymanref05.Node).least -/
noncomputable def p126 (b : Bool) (cf : CallFn) (k : Nat) (t0 : AV) (H : Heap) : Option (AV × Heap) :=
  afterL 0 (loopX k (p126_l0 b cf k) [t0] H) (fun vs_16 H_17 =>
  un vs_16 fun t0_18 vs_19 => un0 vs_19 (bindE (mNil t0_18 H_17) fun t13_20 H_21 =>
  bindE (mFA 0 0 t13_20 H_21) fun t14_22 H_23 =>
  bindE (mLoad false 1 t14_22 H_23) fun t15_24 H_25 =>
  endQ (cfg b) false k (resC1 (some t15_24) (some [])) H_25)) (fun vs_16 H_17 => un vs_16 fun t0_26 vs_27 => un0 vs_27 (endQ (cfg b) false k (resC1 (some AV.any) (some [])) H_17))

noncomputable def p78_l0 (b : Bool) (cf : CallFn) (k : Nat) (s : List AV) (H : Heap) : Option (LStep × Heap) :=
  un s fun t0_0 vs_1 => un vs_1 fun t1_2 vs_3 => un vs_3 fun t2_4 vs_5 => un vs_5 fun t7_6 vs_7 => un vs_7 fun t8_8 vs_9 => un0 vs_9 (afterD (twice [0, 0, 2, 7, 15, 31, 31, 127, 255, 511, 1023, 31, 2079, 8191, 16383] (fun H_10 => bindE (drawM (some t8_8) H_10) fun t9_11 H_12 =>
  bindE (drawM (some t0_0) H_12) fun t10_13 H_14 =>
  bindE (drawR true [t10_13.1] (fun F => mLenSl t10_13.1 F) H_14) fun t11_15 H_16 =>
  bindE (drawR true [t9_11.1, t11_15.1] (fun F => mBin (cfg b) 3 false .lss t9_11.1 t11_15.1 F) H_16) fun t12_17 H_18 =>
  bindE (drawM (some t12_17.1) H_18) fun t13_19 H_20 =>
  bindE (guardD (wantR true t13_19.1) (drawM (some t0_0) H_20) H_20) fun t14_21 H_22 =>
  bindE (guardD (wantR true t13_19.1) (drawM (some t8_8) H_22) H_22) fun t15_23 H_24 =>
  bindE (guardD (wantR true t13_19.1) (drawR true [t14_21.1, t15_23.1] (fun F => mIdxS 2 t14_21.1 t15_23.1 F) H_24) H_24) fun t16_25 H_26 =>
  bindE (guardD (wantR true t13_19.1) (drawR true [t16_25.1] (fun F => mFA 0 0 t16_25.1 F) H_26) H_26) fun t17_27 H_28 =>
  bindE (guardD (wantR true t13_19.1) (drawR true [t17_27.1] (fun F => mLoad false 1 t17_27.1 F) H_28) H_28) fun t18_29 H_30 =>
  bindE (guardD (wantR true t13_19.1) (drawR true [t18_29.1] (fun F => mConvBS t18_29.1 F) H_30) H_30) fun t19_31 H_32 =>
  bindE (guardD (wantR true t13_19.1) (drawM (some t1_2) H_32) H_32) fun t20_33 H_34 =>
  bindE (guardD (wantR true t13_19.1) (drawR true [t20_33.1] (fun F => mConvBS t20_33.1 F) H_34) H_34) fun t21_35 H_36 =>
  bindE (guardD (wantR true t13_19.1) (drawR true [t19_31.1, t21_35.1] (fun F => mBin (cfg b) 9 false .lss t19_31.1 t21_35.1 F) H_36) H_36) fun t22_37 H_38 =>
  bindE (drawR true [t13_19.1, t22_37.1] (fun F => mPick t13_19.1 t22_37.1 (AV.c (.bool false)) F) H_38) fun t23_39 H_40 =>
  some (([t23_39.1], [t9_11.2, t10_13.2, t11_15.2, t12_17.2, t13_19.2, t14_21.2, t15_23.2, t16_25.2, t17_27.2, t18_29.2, t19_31.2, t20_33.2, t21_35.2, t22_37.2, t23_39.2]), H_40)) H) fun vs_41 H_42 =>
  un vs_41 fun t23_43 vs_44 => un0 vs_44 (condR t23_43 (bindE (mIdxS 2 t0_0 t8_8 H_42) fun t27_45 H_46 =>
  bindE (mLoad true 2 t27_45 H_46) fun t28_47 H_48 =>
  bindE (mBuildSl 97 2 (.agg [.nilsl, .nilsl]) 1 [(0, t28_47)] H_48) fun t29_49 H_50 =>
  bindE (mAppend 97 2 48 false t7_6 t29_49 H_50) fun t30_51 H_52 =>
  bindE (mBin (cfg b) 3 true .add t8_8 (AV.c (.int .i64 1)) H_52) fun t32_53 H_54 =>
  some (LStep.cont [t0_0, t1_2, t2_4, t30_51, t32_53], H_54)) (some (LStep.exit 0 [t0_0, t1_2, t2_4, t7_6, t8_8], H_42))))
/-- ferryman/ferrymanref05.PutPair -/
noncomputable def p78 (b : Bool) (cf : CallFn) (k : Nat) (t0 t1 t2 : AV) (H : Heap) : Option (AV × Heap) :=
  afterL 0 (loopX k (p78_l0 b cf k) [t0, t1, t2, (AV.c .nilsl), (AV.c (.int .i64 0))] H) (fun vs_55 H_56 =>
  un vs_55 fun t0_57 vs_58 => un vs_58 fun t1_59 vs_60 => un vs_60 fun t2_61 vs_62 => un vs_62 fun t7_63 vs_64 => un vs_64 fun t8_65 vs_66 => un0 vs_66 (bindE (mBuildS [.nilsl, .nilsl] [(0, t1_59), (1, t2_61)] H_56) fun t36_67 H_68 =>
  bindE (mBuildSl 97 2 (.agg [.nilsl, .nilsl]) 1 [(0, t36_67)] H_68) fun t37_69 H_70 =>
  bindE (mAppend 97 2 48 false t7_63 t37_69 H_70) fun t38_71 H_72 =>
  afterD (twice [0, 0, 2, 7, 15, 31, 31, 127, 255, 511, 1023, 31, 2079, 8191, 16383] (fun H_73 => bindE (drawM (some t8_65) H_73) fun t39_74 H_75 =>
  bindE (drawM (some t0_57) H_75) fun t40_76 H_77 =>
  bindE (drawR true [t40_76.1] (fun F => mLenSl t40_76.1 F) H_77) fun t41_78 H_79 =>
  bindE (drawR true [t39_74.1, t41_78.1] (fun F => mBin (cfg b) 3 false .lss t39_74.1 t41_78.1 F) H_79) fun t42_80 H_81 =>
  bindE (drawM (some t42_80.1) H_81) fun t43_82 H_83 =>
  bindE (guardD (wantR true t43_82.1) (drawM (some t0_57) H_83) H_83) fun t44_84 H_85 =>
  bindE (guardD (wantR true t43_82.1) (drawM (some t8_65) H_85) H_85) fun t45_86 H_87 =>
  bindE (guardD (wantR true t43_82.1) (drawR true [t44_84.1, t45_86.1] (fun F => mIdxS 2 t44_84.1 t45_86.1 F) H_87) H_87) fun t46_88 H_89 =>
  bindE (guardD (wantR true t43_82.1) (drawR true [t46_88.1] (fun F => mFA 0 0 t46_88.1 F) H_89) H_89) fun t47_90 H_91 =>
  bindE (guardD (wantR true t43_82.1) (drawR true [t47_90.1] (fun F => mLoad false 1 t47_90.1 F) H_91) H_91) fun t48_92 H_93 =>
  bindE (guardD (wantR true t43_82.1) (drawR true [t48_92.1] (fun F => mConvBS t48_92.1 F) H_93) H_93) fun t49_94 H_95 =>
  bindE (guardD (wantR true t43_82.1) (drawM (some t1_59) H_95) H_95) fun t50_96 H_97 =>
  bindE (guardD (wantR true t43_82.1) (drawR true [t50_96.1] (fun F => mConvBS t50_96.1 F) H_97) H_97) fun t51_98 H_99 =>
  bindE (guardD (wantR true t43_82.1) (drawR true [t49_94.1, t51_98.1] (fun F => mBin (cfg b) 9 false .eql t49_94.1 t51_98.1 F) H_99) H_99) fun t52_100 H_101 =>
  bindE (drawR true [t43_82.1, t52_100.1] (fun F => mPick t43_82.1 t52_100.1 (AV.c (.bool false)) F) H_101) fun t53_102 H_103 =>
  some (([t53_102.1], [t39_74.2, t40_76.2, t41_78.2, t42_80.2, t43_82.2, t44_84.2, t45_86.2, t46_88.2, t47_90.2, t48_92.2, t49_94.2, t50_96.2, t51_98.2, t52_100.2, t53_102.2]), H_103)) H_72) fun vs_104 H_105 =>
  un vs_104 fun t53_106 vs_107 => un0 vs_107 (condR t53_106 (bindE (mBin (cfg b) 3 true .add t8_65 (AV.c (.int .i64 1)) H_105) fun t55_108 H_109 =>
  bindE (mSliceSl 2 t0_57 (some t55_108) none H_109) fun t59_110 H_111 =>
  bindE (mAppend 97 2 48 false t38_71 t59_110 H_111) fun t60_112 H_113 =>
  endQ (cfg b) false k (resC1 (some t60_112) (some [])) H_113) (bindE (mSliceSl 2 t0_57 (some t8_65) none H_105) fun t59_114 H_115 =>
  bindE (mAppend 97 2 48 false t38_71 t59_114 H_115) fun t60_116 H_117 =>
  endQ (cfg b) false k (resC1 (some t60_116) (some [])) H_117)))) (fun vs_55 H_56 => un vs_55 fun t0_118 vs_119 => un vs_119 fun t1_120 vs_121 => un vs_121 fun t2_122 vs_123 => un vs_123 fun t7_124 vs_125 => un vs_125 fun t8_126 vs_127 => un0 vs_127 (endQ (cfg b) false k (resC1 (some AV.any) (some [])) H_56))

noncomputable def p92_l0 (b : Bool) (cf : CallFn) (k : Nat) (s : List AV) (H : Heap) : Option (LStep × Heap) :=
  un s fun t0_0 vs_1 => un vs_1 fun t1_2 vs_3 => un vs_3 fun t5_4 vs_5 => un vs_5 fun t6_6 vs_7 => un0 vs_7 (bindE (mLenSl t0_0 H) fun t9_8 H_9 =>
  bindE (mBin (cfg b) 3 false .lss t6_6 t9_8 H_9) fun t10_10 H_11 =>
  condR t10_10 (afterD (twice [0, 0, 3, 7, 15, 31, 0, 64, 255] (fun H_12 => bindE (drawM (some t0_0) H_12) fun t13_13 H_14 =>
  bindE (drawM (some t6_6) H_14) fun t14_15 H_16 =>
  bindE (drawR true [t13_13.1, t14_15.1] (fun F => mIdxS 2 t13_13.1 t14_15.1 F) H_16) fun t15_17 H_18 =>
  bindE (drawR true [t15_17.1] (fun F => mFA 0 0 t15_17.1 F) H_18) fun t16_19 H_20 =>
  bindE (drawR true [t16_19.1] (fun F => mLoad false 1 t16_19.1 F) H_20) fun t17_21 H_22 =>
  bindE (drawR true [t17_21.1] (fun F => mConvBS t17_21.1 F) H_22) fun t18_23 H_24 =>
  bindE (drawM (some t1_2) H_24) fun t19_25 H_26 =>
  bindE (drawR true [t19_25.1] (fun F => mConvBS t19_25.1 F) H_26) fun t20_27 H_28 =>
  bindE (drawR true [t18_23.1, t20_27.1] (fun F => mBin (cfg b) 9 false .neq t18_23.1 t20_27.1 F) H_28) fun t21_29 H_30 =>
  some (([t21_29.1], [t13_13.2, t14_15.2, t15_17.2, t16_19.2, t17_21.2, t18_23.2, t19_25.2, t20_27.2, t21_29.2]), H_30)) H_11) fun vs_31 H_32 =>
  un vs_31 fun t21_33 vs_34 => un0 vs_34 (condR t21_33 (bindE (mIdxS 2 t0_0 t6_6 H_32) fun t25_35 H_36 =>
  bindE (mLoad true 2 t25_35 H_36) fun t26_37 H_38 =>
  bindE (mBuildSl 97 2 (.agg [.nilsl, .nilsl]) 1 [(0, t26_37)] H_38) fun t27_39 H_40 =>
  bindE (mAppend 97 2 48 false t5_4 t27_39 H_40) fun t28_41 H_42 =>
  bindE (mBin (cfg b) 3 true .add t6_6 (AV.c (.int .i64 1)) H_42) fun t12_43 H_44 =>
  some (LStep.cont [t0_0, t1_2, t28_41, t12_43], H_44)) (bindE (mBin (cfg b) 3 true .add t6_6 (AV.c (.int .i64 1)) H_32) fun t12_45 H_46 =>
  some (LStep.cont [t0_0, t1_2, t5_4, t12_45], H_46)))) (some (LStep.exit 0 [t5_4], H_11)))
/-- ferryman/ferrymanref05.CutPair -/
noncomputable def p92 (b : Bool) (cf : CallFn) (k : Nat) (t0 t1 : AV) (H : Heap) : Option (AV × Heap) :=
  afterL 0 (loopX k (p92_l0 b cf k) [t0, t1, (AV.c .nilsl), (AV.c (.int .i64 0))] H) (fun vs_47 H_48 =>
  un vs_47 fun t5_49 vs_50 => un0 vs_50 (endQ (cfg b) false k (resC1 (some t5_49) (some [])) H_48)) (fun vs_47 H_48 => un vs_47 fun t5_51 vs_52 => un0 vs_52 (endQ (cfg b) false k (resC1 (some AV.any) (some [])) H_48))

theorem p40_eq (b : Bool) (cf : CallFn) (t0 : AV) (H : Heap) : runG (cfg b) cf An 40 [t0] H = p40 b cf H.length t0 H := by kernel_rfl
theorem p41_eq (b : Bool) (cf : CallFn) (t0 t1 t2 : AV) (H : Heap) : runG (cfg b) cf An 41 [t0, t1, t2] H = p41 b cf H.length t0 t1 t2 H := by kernel_rfl
theorem p42_eq (b : Bool) (cf : CallFn) (t0 t1 : AV) (H : Heap) : runG (cfg b) cf An 42 [t0, t1] H = p42 b cf H.length t0 t1 H := by kernel_rfl
theorem p43_eq (b : Bool) (cf : CallFn) (t0 t1 : AV) (H : Heap) : runG (cfg b) cf An 43 [t0, t1] H = p43 b cf H.length t0 t1 H := by kernel_rfl
theorem p44_eq (b : Bool) (cf : CallFn) (t0 t1 : AV) (H : Heap) : runG (cfg b) cf An 44 [t0, t1] H = p44 b cf H.length t0 t1 H := by kernel_rfl
theorem p46_eq (b : Bool) (cf : CallFn) (t0 t1 : AV) (H : Heap) : runG (cfg b) cf An 46 [t0, t1] H = p46 b cf H.length t0 t1 H := by kernel_rfl
theorem p48_eq (b : Bool) (cf : CallFn) (t0 : AV) (H : Heap) : runG (cfg b) cf An 48 [t0] H = p48 b cf H.length t0 H := by kernel_rfl
theorem p50_eq (b : Bool) (cf : CallFn) (t0 t1 : AV) (H : Heap) : runG (cfg b) cf An 50 [t0, t1] H = p50 b cf H.length t0 t1 H := by kernel_rfl
theorem p64_eq (b : Bool) (cf : CallFn) (t0 : AV) (H : Heap) : runG (cfg b) cf An 64 [t0] H = p64 b cf H.length t0 H := by kernel_rfl
theorem p65_eq (b : Bool) (cf : CallFn) (t0 t1 : AV) (H : Heap) : runG (cfg b) cf An 65 [t0, t1] H = p65 b cf H.length t0 t1 H := by kernel_rfl
theorem p67_eq (b : Bool) (cf : CallFn) (t0 t1 : AV) (H : Heap) : runG (cfg b) cf An 67 [t0, t1] H = p67 b cf H.length t0 t1 H := by kernel_rfl
theorem p93_eq (b : Bool) (cf : CallFn) (t0 t1 : AV) (H : Heap) : runG (cfg b) cf An 93 [t0, t1] H = p93 b cf H.length t0 t1 H := by kernel_rfl
theorem p94_eq (b : Bool) (cf : CallFn) (t0 t1 : AV) (H : Heap) : runG (cfg b) cf An 94 [t0, t1] H = p94 b cf H.length t0 t1 H := by kernel_rfl
theorem p104_eq (b : Bool) (cf : CallFn) (t0 : AV) (H : Heap) : runG (cfg b) cf An 104 [t0] H = p104 b cf H.length t0 H := by kernel_rfl
theorem p126_eq (b : Bool) (cf : CallFn) (t0 : AV) (H : Heap) : runG (cfg b) cf An 126 [t0] H = p126 b cf H.length t0 H := by kernel_rfl
theorem p78_eq (b : Bool) (cf : CallFn) (t0 t1 t2 : AV) (H : Heap) : runG (cfg b) cf An 78 [t0, t1, t2] H = p78 b cf H.length t0 t1 t2 H := by kernel_rfl
theorem p92_eq (b : Bool) (cf : CallFn) (t0 t1 : AV) (H : Heap) : runG (cfg b) cf An 92 [t0, t1] H = p92 b cf H.length t0 t1 H := by kernel_rfl

end Go.Fm

