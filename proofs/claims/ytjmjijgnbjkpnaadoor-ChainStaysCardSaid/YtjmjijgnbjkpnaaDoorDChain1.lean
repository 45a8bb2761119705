/-
  A part of the proof: DChain1.
-/
import Derived.Test.YtjmjijgnbjkpnaaDoorDAnn
set_option linter.all false
set_option autoImplicit true
/-
  What the interpreter does to functions, without slots and types; the kernel holds it against the code.
-/
set_option maxRecDepth 100000
set_option linter.unusedVariables false
namespace Go.Fm
open Go Go.Proofs

/-- ferryman/ferrymanlaw18.Awake -/
noncomputable def p31_d0 (b : Bool) (cf : CallFn) (t8_4 t14_12 t3_14 t7_2 : AV) (H_18 : Heap) : Option ((List AV × List Trail) × Heap) :=
  bindE (drawM (some t8_4) H_18) fun t15_19 H_20 =>
  bindE (drawR true [t15_19.1] (fun F => mBin (cfg b) 25 true .eql t15_19.1 (AV.c (.int .i64 0)) F) H_20) fun t16_21 H_22 =>
  bindE (drawM (some t16_21.1) H_22) fun t17_23 H_24 =>
  bindE (guardD (wantR true t17_23.1) (drawM (some t14_12) H_24) H_24) fun t18_25 H_26 =>
  bindE (guardD (wantR true t17_23.1) (drawR true [t18_25.1] (fun F => mBin (cfg b) 25 true .eql t18_25.1 (AV.c (.int .i64 0)) F) H_26) H_26) fun t19_27 H_28 =>
  bindE (drawR true [t17_23.1, t19_27.1] (fun F => mPick t17_23.1 t19_27.1 (AV.c (.bool false)) F) H_28) fun t20_29 H_30 =>
  bindE (drawM (some t20_29.1) H_30) fun t21_31 H_32 =>
  bindE (guardD (wantR true t21_31.1) (drawR true [t3_14] (fun F => mFA 0 0 t3_14 F) H_32) H_32) fun t22_33 H_34 =>
  bindE (guardD (wantR true t21_31.1) (drawR true [t22_33.1] (fun F => mLoad false 1 t22_33.1 F) H_34) H_34) fun t23_35 H_36 =>
  bindE (guardD (wantR true t21_31.1) (drawR true [t23_35.1] (fun F => mBin (cfg b) 22 true .eql t23_35.1 (AV.c (.int .u64 1)) F) H_36) H_36) fun t24_37 H_38 =>
  bindE (drawR true [t21_31.1, t24_37.1] (fun F => mPick t21_31.1 t24_37.1 (AV.c (.bool false)) F) H_38) fun t25_39 H_40 =>
  bindE (drawM (some t25_39.1) H_40) fun t26_41 H_42 =>
  bindE (guardD (wantR true t26_41.1) (drawR true [t3_14] (fun F => mFA 1 1 t3_14 F) H_42) H_42) fun t27_43 H_44 =>
  bindE (guardD (wantR true t26_41.1) (drawR true [t27_43.1] (fun F => mLoad false 1 t27_43.1 F) H_44) H_44) fun t28_45 H_46 =>
  bindE (guardD (wantR true t26_41.1) (drawR true [t28_45.1] (fun F => mBin (cfg b) 22 true .eql t28_45.1 (AV.c (.int .u64 1)) F) H_46) H_46) fun t29_47 H_48 =>
  bindE (drawR true [t26_41.1, t29_47.1] (fun F => mPick t26_41.1 t29_47.1 (AV.c (.bool false)) F) H_48) fun t30_49 H_50 =>
  bindE (drawM (some t30_49.1) H_50) fun t31_51 H_52 =>
  bindE (guardD (wantR true t31_51.1) (drawR true [t3_14] (fun F => mFA 2 2 t3_14 F) H_52) H_52) fun t32_53 H_54 =>
  bindE (guardD (wantR true t31_51.1) (drawR true [t32_53.1] (fun F => mLoad true 32 t32_53.1 F) H_54) H_54) fun t33_55 H_56 =>
  bindE (guardD (wantR true t31_51.1) (drawR false [] (fun F => cf 62 [] F) H_56) H_56) fun t34_57 H_58 =>
  bindE (guardD (wantR true t31_51.1) (drawR true [t33_55.1, t34_57.1] (fun F => mBin (cfg b) 41 false .eql t33_55.1 t34_57.1 F) H_58) H_58) fun t35_59 H_60 =>
  bindE (drawR true [t31_51.1, t35_59.1] (fun F => mPick t31_51.1 t35_59.1 (AV.c (.bool false)) F) H_60) fun t36_61 H_62 =>
  bindE (drawM (some t36_61.1) H_62) fun t37_63 H_64 =>
  bindE (guardD (wantR true t37_63.1) (drawM (some t7_2) H_64) H_64) fun t38_65 H_66 =>
  bindE (guardD (wantR true t37_63.1) (drawR false [t38_65.1] (fun F => cf 59 [t38_65.1] F) H_66) H_66) fun t39_67 H_68 =>
  bindE (guardD (wantR true t37_63.1) (drawR true [t39_67.1] (fun F => mBin (cfg b) 22 true .eql t39_67.1 (AV.c (.int .u64 1)) F) H_68) H_68) fun t40_69 H_70 =>
  bindE (drawR true [t37_63.1, t40_69.1] (fun F => mPick t37_63.1 t40_69.1 (AV.c (.bool false)) F) H_70) fun t41_71 H_72 =>
  bindE (drawM (some t41_71.1) H_72) fun t0_73 H_74 =>
  some (([t0_73.1], [t15_19.2, t16_21.2, t17_23.2, t18_25.2, t19_27.2, t20_29.2, t21_31.2, t22_33.2, t23_35.2, t24_37.2, t25_39.2, t26_41.2, t27_43.2, t28_45.2, t29_47.2, t30_49.2, t31_51.2, t32_53.2, t33_55.2, t34_57.2, t35_59.2, t36_61.2, t37_63.2, t38_65.2, t39_67.2, t40_69.2, t41_71.2, t0_73.2]), H_74)
noncomputable def p31 (b : Bool) (cf : CallFn) (k : Nat) (H : Heap) : Option (AV × Heap) :=
  bindE (cf 56 [(AV.c (.int .u8 0)), (AV.c (.int .u64 10))] H) fun t6_0 H_1 =>
  bindE (mExtract 0 t6_0 H_1) fun t7_2 H_3 =>
  bindE (mExtract 1 t6_0 H_3) fun t8_4 H_5 =>
  bindE (cf 26 [] H_5) fun t11_6 H_7 =>
  bindE (cf 52 [t7_2, t11_6] H_7) fun t12_8 H_9 =>
  bindE (mExtract 0 t12_8 H_9) fun t13_10 H_11 =>
  bindE (mExtract 1 t12_8 H_11) fun t14_12 H_13 =>
  bindE (mAlloc 80 (.agg [(.int .u64 0), (.int .u64 0), (.arr 32 .u8 (List.replicate 32 0)), (.arr 32 .u8 (List.replicate 32 0)), (.arr 32 .u8 (List.replicate 32 0)), (.arr 32 .u8 (List.replicate 32 0))]) H_13) fun t3_14 H_15 =>
  bindE (mStore true 130 t3_14 t13_10 H_15) fun u_16 H_17 =>
  afterD (twice [0, 1, 3, 7, 15, 31, 63, 127, 255, 511, 1023, 2047, 4095, 8191, 16383, 32767, 65535, 131071, 262143, 131071, 1048575, 2097151, 4194303, 8388607, 16777215, 33554431, 67108863, 134217727] (p31_d0 b cf t8_4 t14_12 t3_14 t7_2) H_17) fun vs_75 H_76 =>
  un vs_75 fun t0_77 vs_78 => un0 vs_78 (endQ (cfg b) false k (resC1 (some t0_77) (some [])) H_76)

/-- (*ferryman/chain.Chain).End -/
noncomputable def p52_d0 (b : Bool) (cf : CallFn) (t0 t1 : AV) (H_66 : Heap) : Option ((List AV × List Trail) × Heap) :=
  bindE (drawM (some t0) H_66) fun t43_67 H_68 =>
  bindE (drawR true [t43_67.1] (fun F => mNil t43_67.1 F) H_68) fun t44_69 H_70 =>
  bindE (drawR true [t44_69.1] (fun F => mFA 2 2 t44_69.1 F) H_70) fun t45_71 H_72 =>
  bindE (drawR true [t45_71.1] (fun F => mLoad false 1 t45_71.1 F) H_72) fun t46_73 H_74 =>
  bindE (drawM (some t0) H_74) fun t47_75 H_76 =>
  bindE (drawR true [t47_75.1] (fun F => mNil t47_75.1 F) H_76) fun t48_77 H_78 =>
  bindE (drawR true [t48_77.1] (fun F => mFA 3 3 t48_77.1 F) H_78) fun t49_79 H_80 =>
  bindE (drawR true [t49_79.1] (fun F => mLoad false 1 t49_79.1 F) H_80) fun t50_81 H_82 =>
  bindE (drawM (some t1) H_82) fun t51_83 H_84 =>
  bindE (drawR false [t51_83.1] (fun F => cf 37 [t51_83.1] F) H_84) fun t52_85 H_86 =>
  bindE (drawM (some t0) H_86) fun t53_87 H_88 =>
  bindE (drawR true [t53_87.1] (fun F => mNil t53_87.1 F) H_88) fun t54_89 H_90 =>
  bindE (drawR true [t54_89.1] (fun F => mFA 0 0 t54_89.1 F) H_90) fun t55_91 H_92 =>
  bindE (drawR true [t55_91.1] (fun F => mLoad false 1 t55_91.1 F) H_92) fun t56_93 H_94 =>
  bindE (drawM (some t0) H_94) fun t57_95 H_96 =>
  bindE (drawR true [t57_95.1] (fun F => mNil t57_95.1 F) H_96) fun t58_97 H_98 =>
  bindE (drawR true [t58_97.1] (fun F => mFA 2 2 t58_97.1 F) H_98) fun t59_99 H_100 =>
  bindE (drawR true [t59_99.1] (fun F => mLoad false 1 t59_99.1 F) H_100) fun t60_101 H_102 =>
  bindE (drawR false [t56_93.1, t60_101.1] (fun F => cf 33 [t56_93.1, t60_101.1] F) H_102) fun t61_103 H_104 =>
  bindE (drawM (some t0) H_104) fun t62_105 H_106 =>
  bindE (drawR true [t62_105.1] (fun F => mNil t62_105.1 F) H_106) fun t63_107 H_108 =>
  bindE (drawR true [t63_107.1] (fun F => mFA 0 0 t63_107.1 F) H_108) fun t64_109 H_110 =>
  bindE (drawR true [t64_109.1] (fun F => mLoad false 1 t64_109.1 F) H_110) fun t65_111 H_112 =>
  bindE (drawM (some t0) H_112) fun t66_113 H_114 =>
  bindE (drawR true [t66_113.1] (fun F => mNil t66_113.1 F) H_114) fun t67_115 H_116 =>
  bindE (drawR true [t67_115.1] (fun F => mFA 2 2 t67_115.1 F) H_116) fun t68_117 H_118 =>
  bindE (drawR true [t68_117.1] (fun F => mLoad false 1 t68_117.1 F) H_118) fun t69_119 H_120 =>
  bindE (drawR true [t69_119.1] (fun F => mBin (cfg b) 22 true .add t69_119.1 (AV.c (.int .u64 1)) F) H_120) fun t70_121 H_122 =>
  bindE (drawR false [t65_111.1, t70_121.1] (fun F => cf 33 [t65_111.1, t70_121.1] F) H_122) fun t71_123 H_124 =>
  bindE (drawR false [t46_73.1, t50_81.1, t52_85.1, t61_103.1, t71_123.1] (fun F => mBuildS [(.int .u64 0), (.int .u64 0), (.arr 32 .u8 (List.replicate 32 0)), (.arr 32 .u8 (List.replicate 32 0)), (.arr 32 .u8 (List.replicate 32 0)), (.arr 32 .u8 (List.replicate 32 0))] [(0, t46_73.1), (1, t50_81.1), (2, t52_85.1), (3, t61_103.1), (4, t71_123.1)] F) H_124) fun t72_125 H_126 =>
  bindE (drawR false [] (fun F => mAlloc 80 (.agg [(.int .u64 0), (.int .u64 0), (.arr 32 .u8 (List.replicate 32 0)), (.arr 32 .u8 (List.replicate 32 0)), (.arr 32 .u8 (List.replicate 32 0)), (.arr 32 .u8 (List.replicate 32 0))]) F) H_126) fun t6_127 H_128 =>
  bindE (drawR false [t6_127.1, t72_125.1] (fun F => mStore true 130 t6_127.1 t72_125.1 F) H_128) fun u_129 H_130 =>
  some (([t6_127.1], [t43_67.2, t44_69.2, t45_71.2, t46_73.2, t47_75.2, t48_77.2, t49_79.2, t50_81.2, t51_83.2, t52_85.2, t53_87.2, t54_89.2, t55_91.2, t56_93.2, t57_95.2, t58_97.2, t59_99.2, t60_101.2, t61_103.2, t62_105.2, t63_107.2, t64_109.2, t65_111.2, t66_113.2, t67_115.2, t68_117.2, t69_119.2, t70_121.2, t71_123.2, t72_125.2, t6_127.2, u_129.2]), H_130)
noncomputable def p52_d1 (b : Bool) (cf : CallFn) (t0 t6_133 : AV) (H_151 : Heap) : Option ((List AV × List Trail) × Heap) :=
  bindE (drawM (some t0) H_151) fun t82_152 H_153 =>
  bindE (drawM (some t0) H_153) fun t83_154 H_155 =>
  bindE (drawR true [t83_154.1] (fun F => mNil t83_154.1 F) H_155) fun t84_156 H_157 =>
  bindE (drawR true [t84_156.1] (fun F => mFA 5 5 t84_156.1 F) H_157) fun t85_158 H_159 =>
  bindE (drawR true [t85_158.1] (fun F => mLoad false 1 t85_158.1 F) H_159) fun t86_160 H_161 =>
  bindE (drawR true [t6_133] (fun F => mLoad true 130 t6_133 F) H_161) fun t87_162 H_163 =>
  bindE (drawR false [t87_162.1] (fun F => mBuildSl 80 130 (.agg [(.int .u64 0), (.int .u64 0), (.arr 32 .u8 (List.replicate 32 0)), (.arr 32 .u8 (List.replicate 32 0)), (.arr 32 .u8 (List.replicate 32 0)), (.arr 32 .u8 (List.replicate 32 0))]) 1 [(0, t87_162.1)] F) H_163) fun t88_164 H_165 =>
  bindE (drawR false [t86_160.1, t88_164.1] (fun F => mAppend 80 130 144 false t86_160.1 t88_164.1 F) H_165) fun t89_166 H_167 =>
  bindE (drawR true [t82_152.1] (fun F => mNil t82_152.1 F) H_167) fun t90_168 H_169 =>
  bindE (drawR true [t90_168.1] (fun F => mFA 5 5 t90_168.1 F) H_169) fun t91_170 H_171 =>
  bindE (drawR false [t91_170.1, t89_166.1] (fun F => mStore false 1 t91_170.1 t89_166.1 F) H_171) fun u_172 H_173 =>
  some (([], [t82_152.2, t83_154.2, t84_156.2, t85_158.2, t86_160.2, t87_162.2, t88_164.2, t89_166.2, t90_168.2, t91_170.2, u_172.2]), H_173)
noncomputable def p52 (b : Bool) (cf : CallFn) (k : Nat) (t0 t1 : AV) (H : Heap) : Option (AV × Heap) :=
  bindE (mAlloc 80 (.agg [(.int .u64 0), (.int .u64 0), (.arr 32 .u8 (List.replicate 32 0)), (.arr 32 .u8 (List.replicate 32 0)), (.arr 32 .u8 (List.replicate 32 0)), (.arr 32 .u8 (List.replicate 32 0))]) H) fun t4_0 H_1 =>
  bindE (mBin (cfg b) 81 true .eql t0 (AV.c .nilp) H_1) fun t9_2 H_3 =>
  bindE (guardR (wantR false t9_2) (some (t1, H_3)) H_3) fun t11_4 H_5 =>
  bindE (guardR (wantR false t9_2) (mBin (cfg b) 28 true .eql t11_4 (AV.c .nilp) H_5) H_5) fun t12_6 H_7 =>
  bindE (mPick t9_2 (AV.c (.bool true)) t12_6 H_7) fun t13_8 H_9 =>
  condR t13_8 (bindE (mBuildS [(.int .u64 0), (.int .u64 0), (.arr 32 .u8 (List.replicate 32 0)), (.arr 32 .u8 (List.replicate 32 0)), (.arr 32 .u8 (List.replicate 32 0)), (.arr 32 .u8 (List.replicate 32 0))] [] H_9) fun t14_10 H_11 =>
  bindE (mStore true 130 t4_0 t14_10 H_11) fun u_12 H_13 =>
  endQ (cfg b) false k (resC1 (mld true 130 H_13 t4_0) (resC1 (some (AV.c (.int .i64 1))) (some []))) H_13) (bindE (mNil t0 H_9) fun t17_14 H_15 =>
  bindE (mFA 2 2 t17_14 H_15) fun t18_16 H_17 =>
  bindE (mLoad false 1 t18_16 H_17) fun t19_18 H_19 =>
  bindE (mBin (cfg b) 22 true .geq t19_18 (AV.c (.int .u64 1099511627776)) H_19) fun t20_20 H_21 =>
  bindE (guardR (wantR false t20_20) (some (t0, H_21)) H_21) fun t22_22 H_23 =>
  bindE (guardR (wantR false t20_20) (mNil t22_22 H_23) H_23) fun t23_24 H_25 =>
  bindE (guardR (wantR false t20_20) (mFA 3 3 t23_24 H_25) H_25) fun t24_26 H_27 =>
  bindE (guardR (wantR false t20_20) (mLoad false 1 t24_26 H_27) H_27) fun t25_28 H_29 =>
  bindE (guardR (wantR false t20_20) (mBin (cfg b) 22 true .geq t25_28 (AV.c (.int .u64 1099511627776)) H_29) H_29) fun t26_30 H_31 =>
  bindE (mPick t20_20 (AV.c (.bool true)) t26_30 H_31) fun t27_32 H_33 =>
  condR t27_32 (bindE (mBuildS [(.int .u64 0), (.int .u64 0), (.arr 32 .u8 (List.replicate 32 0)), (.arr 32 .u8 (List.replicate 32 0)), (.arr 32 .u8 (List.replicate 32 0)), (.arr 32 .u8 (List.replicate 32 0))] [] H_33) fun t28_34 H_35 =>
  bindE (mStore true 130 t4_0 t28_34 H_35) fun u_36 H_37 =>
  endQ (cfg b) false k (resC1 (mld true 130 H_37 t4_0) (resC1 (some (AV.c (.int .i64 2))) (some []))) H_37) (bindE (mNil t0 H_33) fun t30_38 H_39 =>
  bindE (mFA 2 2 t30_38 H_39) fun t31_40 H_41 =>
  bindE (mLoad false 1 t31_40 H_41) fun t32_42 H_43 =>
  bindE (mBin (cfg b) 22 true .add t32_42 (AV.c (.int .u64 1)) H_43) fun t33_44 H_45 =>
  bindE (mNil t0 H_45) fun t34_46 H_47 =>
  bindE (mFA 2 2 t34_46 H_47) fun t35_48 H_49 =>
  bindE (mStore false 1 t35_48 t33_44 H_49) fun u_50 H_51 =>
  bindE (mNil t0 H_51) fun t37_52 H_53 =>
  bindE (mFA 3 3 t37_52 H_53) fun t38_54 H_55 =>
  bindE (mLoad false 1 t38_54 H_55) fun t39_56 H_57 =>
  bindE (mBin (cfg b) 22 true .add t39_56 (AV.c (.int .u64 1)) H_57) fun t40_58 H_59 =>
  bindE (mNil t0 H_59) fun t41_60 H_61 =>
  bindE (mFA 3 3 t41_60 H_61) fun t42_62 H_63 =>
  bindE (mStore false 1 t42_62 t40_58 H_63) fun u_64 H_65 =>
  afterD (twice [0, 1, 3, 7, 0, 16, 48, 112, 0, 256, 0, 1024, 3072, 7168, 0, 16384, 49152, 114688, 261888, 0, 524288, 1572864, 3670016, 0, 8388608, 25165824, 58720256, 125829120, 268435200, 536870911, 0, 2147483647] (p52_d0 b cf t0 t1) H_65) fun vs_131 H_132 =>
  un vs_131 fun t6_133 vs_134 => un0 vs_134 (bindE (mLoad true 130 t6_133 H_132) fun t73_135 H_136 =>
  bindE (cf 98 [t73_135] H_136) fun t74_137 H_138 =>
  bindE (mFA 5 98 t6_133 H_138) fun t75_139 H_140 =>
  bindE (mStore true 32 t75_139 t74_137 H_140) fun u_141 H_142 =>
  bindE (mNil t0 H_142) fun t77_143 H_144 =>
  bindE (mFA 4 4 t77_143 H_144) fun t78_145 H_146 =>
  bindE (mLoad false 1 t78_145 H_146) fun t79_147 H_148 =>
  bindE (cf 25 [t79_147, t1] H_148) fun t81_149 H_150 =>
  afterD (twice [0, 0, 2, 6, 14, 0, 32, 126, 255, 511, 1023] (p52_d1 b cf t0 t6_133) H_150) fun vs_174 H_175 =>
  un0 vs_174 (bindE (mNil t0 H_175) fun t93_176 H_177 =>
  bindE (mFA 5 5 t93_176 H_177) fun t94_178 H_179 =>
  bindE (mLoad false 1 t94_178 H_179) fun t95_180 H_181 =>
  bindE (mLenSl t95_180 H_181) fun t96_182 H_183 =>
  bindE (mBin (cfg b) 3 true .gtr t96_182 (AV.c (.int .i64 64)) H_183) fun t97_184 H_185 =>
  condR t97_184 (bindE (mBuildSl 80 130 (.agg [(.int .u64 0), (.int .u64 0), (.arr 32 .u8 (List.replicate 32 0)), (.arr 32 .u8 (List.replicate 32 0)), (.arr 32 .u8 (List.replicate 32 0)), (.arr 32 .u8 (List.replicate 32 0))]) 0 [] H_185) fun t99_186 H_187 =>
  bindE (mNil t0 H_187) fun t101_188 H_189 =>
  bindE (mFA 5 5 t101_188 H_189) fun t102_190 H_191 =>
  bindE (mLoad false 1 t102_190 H_191) fun t103_192 H_193 =>
  bindE (mSliceSl 130 t103_192 (some (AV.c (.int .i64 1))) none H_193) fun t104_194 H_195 =>
  bindE (mAppend 80 130 144 false t99_186 t104_194 H_195) fun t105_196 H_197 =>
  bindE (mNil t0 H_197) fun t106_198 H_199 =>
  bindE (mFA 5 5 t106_198 H_199) fun t107_200 H_201 =>
  bindE (mStore false 1 t107_200 t105_196 H_201) fun u_202 H_203 =>
  bindE (mLoad true 130 t6_133 H_203) fun t108_204 H_205 =>
  bindE (mStore true 130 t4_0 t108_204 H_205) fun u_206 H_207 =>
  endQ (cfg b) false k (resC1 (mld true 130 H_207 t4_0) (resC1 (some (AV.c (.int .i64 0))) (some []))) H_207) (bindE (mLoad true 130 t6_133 H_185) fun t108_208 H_209 =>
  bindE (mStore true 130 t4_0 t108_208 H_209) fun u_210 H_211 =>
  endQ (cfg b) false k (resC1 (mld true 130 H_211 t4_0) (resC1 (some (AV.c (.int .i64 0))) (some []))) H_211)))))

/-- ferryman/chain.New -/
noncomputable def p56 (b : Bool) (cf : CallFn) (k : Nat) (t0 t1 : AV) (H : Heap) : Option (AV × Heap) :=
  bindE (mBin (cfg b) 22 true .lss t1 (AV.c (.int .u64 1)) H) fun t9_0 H_1 =>
  bindE (guardR (wantR false t9_0) (some (t1, H_1)) H_1) fun t11_2 H_3 =>
  bindE (guardR (wantR false t9_0) (mBin (cfg b) 22 true .gtr t11_2 (AV.c (.int .u64 4294967296)) H_3) H_3) fun t12_4 H_5 =>
  bindE (mPick t9_0 (AV.c (.bool true)) t12_4 H_5) fun t13_6 H_7 =>
  condR t13_6 (endQ (cfg b) false k (resC1 (some (AV.c .nilp)) (resC1 (some (AV.c (.int .i64 2))) (some []))) H_7) (bindE (cf 28 [(AV.c (.int .i64 64))] H_7) fun t15_8 H_9 =>
  bindE (mExtract 0 t15_8 H_9) fun t16_10 H_11 =>
  bindE (mExtract 1 t15_8 H_11) fun t17_12 H_13 =>
  bindE (mBuildS [(.int .u8 0), (.int .u64 0), (.int .u64 0), (.int .u64 0), .nilp, .nilsl, .nilp] [(0, t0), (1, t1), (4, t16_10)] H_13) fun t21_14 H_15 =>
  bindE (mBox 152 t21_14 H_15) fun t22_16 H_17 =>
  endQ (cfg b) false k (resC1 (some t22_16) (resC1 (some (AV.c (.int .i64 0))) (some []))) H_17)

/-- (*ferryman/chain.Chain).Height -/
noncomputable def p59 (b : Bool) (cf : CallFn) (k : Nat) (t0 : AV) (H : Heap) : Option (AV × Heap) :=
  bindE (mBin (cfg b) 81 true .eql t0 (AV.c .nilp) H) fun t4_0 H_1 =>
  condR t4_0 (endQ (cfg b) false k (resC1 (some (AV.c (.int .u64 0))) (some [])) H_1) (bindE (mNil t0 H_1) fun t6_2 H_3 =>
  bindE (mFA 2 2 t6_2 H_3) fun t7_4 H_5 =>
  bindE (mLoad false 1 t7_4 H_5) fun t8_6 H_7 =>
  endQ (cfg b) false k (resC1 (some t8_6) (some [])) H_7)

theorem p31_eq (b : Bool) (cf : CallFn) (H : Heap) : runG (cfg b) cf An 31 [] H = p31 b cf H.length  H := by kernel_rfl
theorem p52_eq (b : Bool) (cf : CallFn) (t0 t1 : AV) (H : Heap) : runG (cfg b) cf An 52 [t0, t1] H = p52 b cf H.length t0 t1 H := by kernel_rfl
theorem p56_eq (b : Bool) (cf : CallFn) (t0 t1 : AV) (H : Heap) : runG (cfg b) cf An 56 [t0, t1] H = p56 b cf H.length t0 t1 H := by kernel_rfl
theorem p59_eq (b : Bool) (cf : CallFn) (t0 : AV) (H : Heap) : runG (cfg b) cf An 59 [t0] H = p59 b cf H.length t0 H := by kernel_rfl

end Go.Fm

