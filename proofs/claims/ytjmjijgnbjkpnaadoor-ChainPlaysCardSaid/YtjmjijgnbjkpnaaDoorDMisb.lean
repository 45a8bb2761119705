/-
  A part of the proof: DMisb.
-/
import Derived.Test.YtjmjijgnbjkpnaaDoorDAnn
set_option linter.all false
set_option autoImplicit true
/-
  What the interpreter does to functions, without slots and types; the kernel holds it against the code.
-/
set_option maxRecDepth 100000
set_option linter.unusedVariables false
namespace Go.Fm
open Go Go.Proofs
/-- ferryman/ferrymanlaw18.ChainApart -/
noncomputable def p4 (b : Bool) (cf : CallFn) (k : Nat) (t0 t1 t2 t3 : AV) (H : Heap) : Option (AV × Heap) :=
  bindE (cf 31 [] H) fun t11_0 H_1 =>
  bindE (mUn .not t11_0 H_1) fun t12_2 H_3 =>
  condR t12_2 (endQ (cfg b) false k (resC1 (some (AV.c (.bool false))) (some [])) H_3) (bindE (mBuildSl 5 1 (.int .u8 0) 4 [(0, (AV.c (.int .u8 118))), (1, (AV.c (.int .u8 97))), (2, (AV.c (.int .u8 108))), (3, (AV.c (.int .u8 115)))] H_3) fun t13_4 H_5 =>
  bindE (mConv0 t13_4 H_5) fun t14_6 H_7 =>
  bindE (mBuildSl 5 1 (.int .u8 0) 1 [(0, t0)] H_7) fun t16_8 H_9 =>
  bindE (mAppend 5 1 1 false t14_6 t16_8 H_9) fun t17_10 H_11 =>
  bindE (cf 32 [t2] H_11) fun t19_12 H_13 =>
  bindE (mAppend 5 1 1 false t17_10 t19_12 H_13) fun t20_14 H_15 =>
  bindE (mBuildSl 5 1 (.int .u8 0) 4 [(0, (AV.c (.int .u8 118))), (1, (AV.c (.int .u8 97))), (2, (AV.c (.int .u8 108))), (3, (AV.c (.int .u8 115)))] H_15) fun t21_16 H_17 =>
  bindE (mConv0 t21_16 H_17) fun t22_18 H_19 =>
  bindE (mBuildSl 5 1 (.int .u8 0) 1 [(0, t1)] H_19) fun t24_20 H_21 =>
  bindE (mAppend 5 1 1 false t22_18 t24_20 H_21) fun t25_22 H_23 =>
  bindE (cf 32 [t3] H_23) fun t27_24 H_25 =>
  bindE (mAppend 5 1 1 false t25_22 t27_24 H_25) fun t28_26 H_27 =>
  bindE (cf 33 [t0, t2] H_27) fun t31_28 H_29 =>
  bindE (cf 33 [t1, t3] H_29) fun t34_30 H_31 =>
  bindE (mBin (cfg b) 41 false .eql t31_28 t34_30 H_31) fun t35_32 H_33 =>
  bindE (mBin (cfg b) 5 false .eql t0 t1 H_33) fun t38_34 H_35 =>
  bindE (guardR (wantR true t38_34) (some (t2, H_35)) H_35) fun t40_36 H_37 =>
  bindE (guardR (wantR true t38_34) (some (t3, H_37)) H_37) fun t41_38 H_39 =>
  bindE (guardR (wantR true t38_34) (mBin (cfg b) 22 false .eql t40_36 t41_38 H_39) H_39) fun t42_40 H_41 =>
  bindE (mPick t38_34 t42_40 (AV.c (.bool false)) H_41) fun t43_42 H_43 =>
  bindE (mBin (cfg b) 4 false .eql t35_32 t43_42 H_43) fun t44_44 H_45 =>
  bindE (guardR (wantR false t44_44) (some (t20_14, H_45)) H_45) fun t46_46 H_47 =>
  bindE (guardR (wantR false t44_44) (some (t28_26, H_47)) H_47) fun t47_48 H_49 =>
  bindE (guardR (wantR false t44_44) (mBuildSl 38 1 .nilsl 2 [(0, t46_46), (1, t47_48)] H_49) H_49) fun t48_50 H_51 =>
  bindE (guardR (wantR false t44_44) (cf 34 [t48_50] H_51) H_51) fun t49_52 H_53 =>
  bindE (mPick t44_44 (AV.c (.bool true)) t49_52 H_53) fun t50_54 H_55 =>
  endQ (cfg b) false k (resC1 (some t50_54) (some [])) H_55)
noncomputable def p32_l0 (b : Bool) (cf : CallFn) (k : Nat) (s : List AV) (H : Heap) : Option (LStep × Heap) :=
  un s fun t0_0 vs_1 => un vs_1 fun t3_2 vs_3 => un vs_3 fun t4_4 vs_5 => un0 vs_5 (bindE (mBin (cfg b) 3 true .lss t4_4 (AV.c (.int .i64 8)) H) fun t6_6 H_7 =>
  condR t6_6 (bindE (mBin (cfg b) 3 true .mul (AV.c (.int .i64 8)) t4_4 H_7) fun t12_8 H_9 =>
  bindE (mBin (cfg b) 3 true .sub (AV.c (.int .i64 56)) t12_8 H_9) fun t13_10 H_11 =>
  bindE (mBin (cfg b) 22 false .shr t0_0 t13_10 H_11) fun t14_12 H_13 =>
  bindE (mConvI .u8 t14_12 H_13) fun t15_14 H_15 =>
  bindE (mBuildSl 5 1 (.int .u8 0) 1 [(0, t15_14)] H_15) fun t16_16 H_17 =>
  bindE (mAppend 5 1 1 false t3_2 t16_16 H_17) fun t17_18 H_19 =>
  bindE (mBin (cfg b) 3 true .add t4_4 (AV.c (.int .i64 1)) H_19) fun t8_20 H_21 =>
  some (LStep.cont [t0_0, t17_18, t8_20], H_21)) (some (LStep.exit 0 [t3_2], H_7)))
/-- ferryman/ferrymanref01.Eight -/
noncomputable def p32 (b : Bool) (cf : CallFn) (k : Nat) (t0 : AV) (H : Heap) : Option (AV × Heap) :=
  afterL 0 (loopX k (p32_l0 b cf k) [t0, (AV.c .nilsl), (AV.c (.int .i64 0))] H) (fun vs_22 H_23 =>
  un vs_22 fun t3_24 vs_25 => un0 vs_25 (endQ (cfg b) false k (resC1 (some t3_24) (some [])) H_23)) (fun vs_22 H_23 => un vs_22 fun t3_26 vs_27 => un0 vs_27 (endQ (cfg b) false k (resC1 (some AV.any) (some [])) H_23))
/-- ferryman/chain.Vals -/
noncomputable def p33 (b : Bool) (cf : CallFn) (k : Nat) (t0 t1 : AV) (H : Heap) : Option (AV × Heap) :=
  bindE (mAlloc 41 (.arr 32 .u8 (List.replicate 32 0)) H) fun t4_0 H_1 =>
  bindE (mBuildSl 5 1 (.int .u8 0) 4 [(0, (AV.c (.int .u8 118))), (1, (AV.c (.int .u8 97))), (2, (AV.c (.int .u8 108))), (3, (AV.c (.int .u8 115)))] H_1) fun t5_2 H_3 =>
  bindE (mConv0 t5_2 H_3) fun t6_4 H_5 =>
  bindE (mBuildSl 5 1 (.int .u8 0) 1 [(0, t0)] H_5) fun t8_6 H_7 =>
  bindE (cf 89 [t1] H_7) fun t10_8 H_9 =>
  bindE (mBuildSl 38 1 .nilsl 3 [(0, t6_4), (1, t8_6), (2, t10_8)] H_9) fun t11_10 H_11 =>
  bindE (cf 88 [t11_10] H_11) fun t12_12 H_13 =>
  bindE (mStore true 32 t4_0 t12_12 H_13) fun u_14 H_15 =>
  endQ (cfg b) false k (resC1 (mld true 32 H_15 t4_0) (some [])) H_15
noncomputable def p89_l0 (b : Bool) (cf : CallFn) (k : Nat) (s : List AV) (H : Heap) : Option (LStep × Heap) :=
  un s fun t0_0 vs_1 => un vs_1 fun t3_2 vs_3 => un vs_3 fun t4_4 vs_5 => un0 vs_5 (bindE (mBin (cfg b) 3 true .geq t4_4 (AV.c (.int .i64 0)) H) fun t6_6 H_7 =>
  condR t6_6 (bindE (mBin (cfg b) 22 false .shr t0_0 t4_4 H_7) fun t12_8 H_9 =>
  bindE (mConvI .u8 t12_8 H_9) fun t13_10 H_11 =>
  bindE (mBuildSl 5 1 (.int .u8 0) 1 [(0, t13_10)] H_11) fun t14_12 H_13 =>
  bindE (mAppend 5 1 1 false t3_2 t14_12 H_13) fun t15_14 H_15 =>
  bindE (mBin (cfg b) 3 true .sub t4_4 (AV.c (.int .i64 8)) H_15) fun t8_16 H_17 =>
  some (LStep.cont [t0_0, t15_14, t8_16], H_17)) (some (LStep.exit 0 [t3_2], H_7)))
/-- ferryman/keys.Num -/
noncomputable def p89 (b : Bool) (cf : CallFn) (k : Nat) (t0 : AV) (H : Heap) : Option (AV × Heap) :=
  afterL 0 (loopX k (p89_l0 b cf k) [t0, (AV.c .nilsl), (AV.c (.int .i64 56))] H) (fun vs_18 H_19 =>
  un vs_18 fun t3_20 vs_21 => un0 vs_21 (endQ (cfg b) false k (resC1 (some t3_20) (some [])) H_19)) (fun vs_18 H_19 => un vs_18 fun t3_22 vs_23 => un0 vs_23 (endQ (cfg b) false k (resC1 (some AV.any) (some [])) H_19))
noncomputable def p90_l0 (b : Bool) (cf : CallFn) (k : Nat) (s : List AV) (H : Heap) : Option (LStep × Heap) :=
  un s fun t0_10 vs_11 => un vs_11 fun t2_12 vs_13 => un vs_13 fun t3_14 vs_15 => un0 vs_15 (bindE (mLenSl t3_14 H) fun t36_16 H_17 =>
  bindE (mBin (cfg b) 3 true .rem t36_16 (AV.c (.int .i64 64)) H_17) fun t37_18 H_19 =>
  bindE (mBin (cfg b) 3 true .neq t37_18 (AV.c (.int .i64 56)) H_19) fun t38_20 H_21 =>
  condR t38_20 (bindE (mBuildSl 5 1 (.int .u8 0) 1 [(0, (AV.c (.int .u8 0)))] H_21) fun t40_22 H_23 =>
  bindE (mAppend 5 1 1 false t3_14 t40_22 H_23) fun t41_24 H_25 =>
  some (LStep.cont [t0_10, t2_12, t41_24], H_25)) (some (LStep.exit 0 [t0_10, t2_12, t3_14], H_21)))
noncomputable def p90_l2 (b : Bool) (cf : CallFn) (k : Nat) (s : List AV) (H : Heap) : Option (LStep × Heap) :=
  un s fun t2_40 vs_41 => un vs_41 fun t3_42 vs_43 => un vs_43 fun t4_44 vs_45 => un vs_45 fun t5_46 vs_47 => un0 vs_47 (bindE (mBin (cfg b) 3 true .lss t5_46 (AV.c (.int .i64 8)) H) fun t47_48 H_49 =>
  condR t47_48 (bindE (mBin (cfg b) 3 true .mul (AV.c (.int .i64 8)) t5_46 H_49) fun t53_50 H_51 =>
  bindE (mBin (cfg b) 3 true .sub (AV.c (.int .i64 56)) t53_50 H_51) fun t54_52 H_53 =>
  bindE (mBin (cfg b) 22 false .shr t4_44 t54_52 H_53) fun t55_54 H_55 =>
  bindE (mConvI .u8 t55_54 H_55) fun t56_56 H_57 =>
  bindE (mBuildSl 5 1 (.int .u8 0) 1 [(0, t56_56)] H_57) fun t57_58 H_59 =>
  bindE (mAppend 5 1 1 false t3_42 t57_58 H_59) fun t58_60 H_61 =>
  bindE (mBin (cfg b) 3 true .add t5_46 (AV.c (.int .i64 1)) H_61) fun t49_62 H_63 =>
  some (LStep.cont [t2_40, t58_60, t4_44, t49_62], H_63)) (some (LStep.exit 2 [t2_40, t3_42], H_49)))
noncomputable def p90_l6 (b : Bool) (cf : CallFn) (k : Nat) (s : List AV) (H : Heap) : Option (LStep × Heap) :=
  un s fun t2_86 vs_87 => un vs_87 fun t3_88 vs_89 => un vs_89 fun t6_90 vs_91 => un vs_91 fun t7_92 vs_93 => un vs_93 fun t8_94 vs_95 => un vs_95 fun t9_96 vs_97 => un0 vs_97 (bindE (mBin (cfg b) 3 true .lss t9_96 (AV.c (.int .i64 16)) H) fun t68_98 H_99 =>
  condR t68_98 (bindE (mBin (cfg b) 3 true .mul (AV.c (.int .i64 4)) t9_96 H_99) fun t73_100 H_101 =>
  bindE (mBin (cfg b) 3 false .add t7_92 t73_100 H_101) fun t74_102 H_103 =>
  afterD (twice [0, 0, 0, 0, 12, 28, 60, 124, 0, 0, 512, 1792, 3840, 7936, 16128, 32764, 0, 0, 131072, 458752, 983040, 2031616, 4128768, 8388604, 0, 0, 33554432, 117440512, 251658240, 520093696, 1073741820, 2147483647, 4294967295] (fun H_104 => bindE (drawM (some t8_94) H_104) fun t75_105 H_106 =>
  bindE (drawM (some t9_96) H_106) fun t76_107 H_108 =>
  bindE (drawM (some t3_88) H_108) fun t77_109 H_110 =>
  bindE (drawM (some t74_102) H_110) fun t78_111 H_112 =>
  bindE (drawR true [t77_109.1, t78_111.1] (fun F => mIdxS 1 t77_109.1 t78_111.1 F) H_112) fun t79_113 H_114 =>
  bindE (drawR true [t79_113.1] (fun F => mLoad false 1 t79_113.1 F) H_114) fun t80_115 H_116 =>
  bindE (drawR true [t80_115.1] (fun F => mConvI .u32 t80_115.1 F) H_116) fun t81_117 H_118 =>
  bindE (drawR true [t81_117.1] (fun F => mBin (cfg b) 192 true .shl t81_117.1 (AV.c (.int .u64 24)) F) H_118) fun t82_119 H_120 =>
  bindE (drawM (some t3_88) H_120) fun t83_121 H_122 =>
  bindE (drawM (some t74_102) H_122) fun t84_123 H_124 =>
  bindE (drawR true [t84_123.1] (fun F => mBin (cfg b) 3 true .add t84_123.1 (AV.c (.int .i64 1)) F) H_124) fun t85_125 H_126 =>
  bindE (drawR true [t83_121.1, t85_125.1] (fun F => mIdxS 1 t83_121.1 t85_125.1 F) H_126) fun t86_127 H_128 =>
  bindE (drawR true [t86_127.1] (fun F => mLoad false 1 t86_127.1 F) H_128) fun t87_129 H_130 =>
  bindE (drawR true [t87_129.1] (fun F => mConvI .u32 t87_129.1 F) H_130) fun t88_131 H_132 =>
  bindE (drawR true [t88_131.1] (fun F => mBin (cfg b) 192 true .shl t88_131.1 (AV.c (.int .u64 16)) F) H_132) fun t89_133 H_134 =>
  bindE (drawR true [t82_119.1, t89_133.1] (fun F => mBin (cfg b) 192 false .add t82_119.1 t89_133.1 F) H_134) fun t90_135 H_136 =>
  bindE (drawM (some t3_88) H_136) fun t91_137 H_138 =>
  bindE (drawM (some t74_102) H_138) fun t92_139 H_140 =>
  bindE (drawR true [t92_139.1] (fun F => mBin (cfg b) 3 true .add t92_139.1 (AV.c (.int .i64 2)) F) H_140) fun t93_141 H_142 =>
  bindE (drawR true [t91_137.1, t93_141.1] (fun F => mIdxS 1 t91_137.1 t93_141.1 F) H_142) fun t94_143 H_144 =>
  bindE (drawR true [t94_143.1] (fun F => mLoad false 1 t94_143.1 F) H_144) fun t95_145 H_146 =>
  bindE (drawR true [t95_145.1] (fun F => mConvI .u32 t95_145.1 F) H_146) fun t96_147 H_148 =>
  bindE (drawR true [t96_147.1] (fun F => mBin (cfg b) 192 true .shl t96_147.1 (AV.c (.int .u64 8)) F) H_148) fun t97_149 H_150 =>
  bindE (drawR true [t90_135.1, t97_149.1] (fun F => mBin (cfg b) 192 false .add t90_135.1 t97_149.1 F) H_150) fun t98_151 H_152 =>
  bindE (drawM (some t3_88) H_152) fun t99_153 H_154 =>
  bindE (drawM (some t74_102) H_154) fun t100_155 H_156 =>
  bindE (drawR true [t100_155.1] (fun F => mBin (cfg b) 3 true .add t100_155.1 (AV.c (.int .i64 3)) F) H_156) fun t101_157 H_158 =>
  bindE (drawR true [t99_153.1, t101_157.1] (fun F => mIdxS 1 t99_153.1 t101_157.1 F) H_158) fun t102_159 H_160 =>
  bindE (drawR true [t102_159.1] (fun F => mLoad false 1 t102_159.1 F) H_160) fun t103_161 H_162 =>
  bindE (drawR true [t103_161.1] (fun F => mConvI .u32 t103_161.1 F) H_162) fun t104_163 H_164 =>
  bindE (drawR true [t98_151.1, t104_163.1] (fun F => mBin (cfg b) 192 false .add t98_151.1 t104_163.1 F) H_164) fun t105_165 H_166 =>
  bindE (drawR true [t75_105.1, t76_107.1] (fun F => mIdxS 1 t75_105.1 t76_107.1 F) H_166) fun t106_167 H_168 =>
  bindE (drawR false [t106_167.1, t105_165.1] (fun F => mStore false 1 t106_167.1 t105_165.1 F) H_168) fun u_169 H_170 =>
  some (([], [t75_105.2, t76_107.2, t77_109.2, t78_111.2, t79_113.2, t80_115.2, t81_117.2, t82_119.2, t83_121.2, t84_123.2, t85_125.2, t86_127.2, t87_129.2, t88_131.2, t89_133.2, t90_135.2, t91_137.2, t92_139.2, t93_141.2, t94_143.2, t95_145.2, t96_147.2, t97_149.2, t98_151.2, t99_153.2, t100_155.2, t101_157.2, t102_159.2, t103_161.2, t104_163.2, t105_165.2, t106_167.2, u_169.2]), H_170)) H_103) fun vs_171 H_172 =>
  un0 vs_171 (bindE (mBin (cfg b) 3 true .add t9_96 (AV.c (.int .i64 1)) H_172) fun t70_173 H_174 =>
  some (LStep.cont [t2_86, t3_88, t6_90, t7_92, t8_94, t70_173], H_174))) (some (LStep.exit 6 [t2_86, t3_88, t6_90, t7_92, t8_94], H_99)))
noncomputable def p90_l8 (b : Bool) (cf : CallFn) (k : Nat) (s : List AV) (H : Heap) : Option (LStep × Heap) :=
  un s fun t2_187 vs_188 => un vs_188 fun t3_189 vs_190 => un vs_190 fun t6_191 vs_192 => un vs_192 fun t7_193 vs_194 => un vs_194 fun t8_195 vs_196 => un vs_196 fun t11_197 vs_198 => un0 vs_198 (bindE (mBin (cfg b) 3 true .lss t11_197 (AV.c (.int .i64 64)) H) fun t108_199 H_200 =>
  condR t108_199 (afterD (twice [0, 0, 2, 7, 15, 31, 0, 0, 128, 448, 960, 2047, 4095, 0, 0, 16384, 57344, 122880, 253952, 524287, 1048575] (fun H_201 => bindE (drawM (some t8_195) H_201) fun t111_202 H_203 =>
  bindE (drawM (some t11_197) H_203) fun t112_204 H_205 =>
  bindE (drawR true [t112_204.1] (fun F => mBin (cfg b) 3 true .sub t112_204.1 (AV.c (.int .i64 15)) F) H_205) fun t113_206 H_207 =>
  bindE (drawR true [t111_202.1, t113_206.1] (fun F => mIdxS 1 t111_202.1 t113_206.1 F) H_207) fun t114_208 H_209 =>
  bindE (drawR true [t114_208.1] (fun F => mLoad false 1 t114_208.1 F) H_209) fun t115_210 H_211 =>
  bindE (drawR false [t115_210.1] (fun F => cf 122 [t115_210.1, (AV.c (.int .i64 7))] F) H_211) fun t116_212 H_213 =>
  bindE (drawM (some t8_195) H_213) fun t117_214 H_215 =>
  bindE (drawM (some t11_197) H_215) fun t118_216 H_217 =>
  bindE (drawR true [t118_216.1] (fun F => mBin (cfg b) 3 true .sub t118_216.1 (AV.c (.int .i64 15)) F) H_217) fun t119_218 H_219 =>
  bindE (drawR true [t117_214.1, t119_218.1] (fun F => mIdxS 1 t117_214.1 t119_218.1 F) H_219) fun t120_220 H_221 =>
  bindE (drawR true [t120_220.1] (fun F => mLoad false 1 t120_220.1 F) H_221) fun t121_222 H_223 =>
  bindE (drawR false [t121_222.1] (fun F => cf 122 [t121_222.1, (AV.c (.int .i64 18))] F) H_223) fun t122_224 H_225 =>
  bindE (drawR true [t116_212.1, t122_224.1] (fun F => mBin (cfg b) 192 false .xor t116_212.1 t122_224.1 F) H_225) fun t123_226 H_227 =>
  bindE (drawM (some t8_195) H_227) fun t124_228 H_229 =>
  bindE (drawM (some t11_197) H_229) fun t125_230 H_231 =>
  bindE (drawR true [t125_230.1] (fun F => mBin (cfg b) 3 true .sub t125_230.1 (AV.c (.int .i64 15)) F) H_231) fun t126_232 H_233 =>
  bindE (drawR true [t124_228.1, t126_232.1] (fun F => mIdxS 1 t124_228.1 t126_232.1 F) H_233) fun t127_234 H_235 =>
  bindE (drawR true [t127_234.1] (fun F => mLoad false 1 t127_234.1 F) H_235) fun t128_236 H_237 =>
  bindE (drawR true [t128_236.1] (fun F => mBin (cfg b) 192 true .shr t128_236.1 (AV.c (.int .u64 3)) F) H_237) fun t129_238 H_239 =>
  bindE (drawR true [t123_226.1, t129_238.1] (fun F => mBin (cfg b) 192 false .xor t123_226.1 t129_238.1 F) H_239) fun t130_240 H_241 =>
  bindE (drawM (some t130_240.1) H_241) fun t12_242 H_243 =>
  some (([t12_242.1], [t111_202.2, t112_204.2, t113_206.2, t114_208.2, t115_210.2, t116_212.2, t117_214.2, t118_216.2, t119_218.2, t120_220.2, t121_222.2, t122_224.2, t123_226.2, t124_228.2, t125_230.2, t126_232.2, t127_234.2, t128_236.2, t129_238.2, t130_240.2, t12_242.2]), H_243)) H_200) fun vs_244 H_245 =>
  un vs_244 fun t12_246 vs_247 => un0 vs_247 (afterD (twice [0, 0, 2, 7, 15, 31, 0, 0, 128, 448, 960, 2047, 4095, 0, 0, 16384, 57344, 122880, 253952, 524287, 1048575] (fun H_248 => bindE (drawM (some t8_195) H_248) fun t131_249 H_250 =>
  bindE (drawM (some t11_197) H_250) fun t132_251 H_252 =>
  bindE (drawR true [t132_251.1] (fun F => mBin (cfg b) 3 true .sub t132_251.1 (AV.c (.int .i64 2)) F) H_252) fun t133_253 H_254 =>
  bindE (drawR true [t131_249.1, t133_253.1] (fun F => mIdxS 1 t131_249.1 t133_253.1 F) H_254) fun t134_255 H_256 =>
  bindE (drawR true [t134_255.1] (fun F => mLoad false 1 t134_255.1 F) H_256) fun t135_257 H_258 =>
  bindE (drawR false [t135_257.1] (fun F => cf 122 [t135_257.1, (AV.c (.int .i64 17))] F) H_258) fun t136_259 H_260 =>
  bindE (drawM (some t8_195) H_260) fun t137_261 H_262 =>
  bindE (drawM (some t11_197) H_262) fun t138_263 H_264 =>
  bindE (drawR true [t138_263.1] (fun F => mBin (cfg b) 3 true .sub t138_263.1 (AV.c (.int .i64 2)) F) H_264) fun t139_265 H_266 =>
  bindE (drawR true [t137_261.1, t139_265.1] (fun F => mIdxS 1 t137_261.1 t139_265.1 F) H_266) fun t140_267 H_268 =>
  bindE (drawR true [t140_267.1] (fun F => mLoad false 1 t140_267.1 F) H_268) fun t141_269 H_270 =>
  bindE (drawR false [t141_269.1] (fun F => cf 122 [t141_269.1, (AV.c (.int .i64 19))] F) H_270) fun t142_271 H_272 =>
  bindE (drawR true [t136_259.1, t142_271.1] (fun F => mBin (cfg b) 192 false .xor t136_259.1 t142_271.1 F) H_272) fun t143_273 H_274 =>
  bindE (drawM (some t8_195) H_274) fun t144_275 H_276 =>
  bindE (drawM (some t11_197) H_276) fun t145_277 H_278 =>
  bindE (drawR true [t145_277.1] (fun F => mBin (cfg b) 3 true .sub t145_277.1 (AV.c (.int .i64 2)) F) H_278) fun t146_279 H_280 =>
  bindE (drawR true [t144_275.1, t146_279.1] (fun F => mIdxS 1 t144_275.1 t146_279.1 F) H_280) fun t147_281 H_282 =>
  bindE (drawR true [t147_281.1] (fun F => mLoad false 1 t147_281.1 F) H_282) fun t148_283 H_284 =>
  bindE (drawR true [t148_283.1] (fun F => mBin (cfg b) 192 true .shr t148_283.1 (AV.c (.int .u64 10)) F) H_284) fun t149_285 H_286 =>
  bindE (drawR true [t143_273.1, t149_285.1] (fun F => mBin (cfg b) 192 false .xor t143_273.1 t149_285.1 F) H_286) fun t150_287 H_288 =>
  bindE (drawM (some t150_287.1) H_288) fun t13_289 H_290 =>
  some (([t13_289.1], [t131_249.2, t132_251.2, t133_253.2, t134_255.2, t135_257.2, t136_259.2, t137_261.2, t138_263.2, t139_265.2, t140_267.2, t141_269.2, t142_271.2, t143_273.2, t144_275.2, t145_277.2, t146_279.2, t147_281.2, t148_283.2, t149_285.2, t150_287.2, t13_289.2]), H_290)) H_245) fun vs_291 H_292 =>
  un vs_291 fun t13_293 vs_294 => un0 vs_294 (afterD (twice [0, 0, 0, 0, 8, 28, 60, 0, 252, 0, 0, 1024, 3584, 7680, 16380, 0, 65532, 131071, 262143] (fun H_295 => bindE (drawM (some t8_195) H_295) fun t151_296 H_297 =>
  bindE (drawM (some t11_197) H_297) fun t152_298 H_299 =>
  bindE (drawM (some t8_195) H_299) fun t153_300 H_301 =>
  bindE (drawM (some t11_197) H_301) fun t154_302 H_303 =>
  bindE (drawR true [t154_302.1] (fun F => mBin (cfg b) 3 true .sub t154_302.1 (AV.c (.int .i64 16)) F) H_303) fun t155_304 H_305 =>
  bindE (drawR true [t153_300.1, t155_304.1] (fun F => mIdxS 1 t153_300.1 t155_304.1 F) H_305) fun t156_306 H_307 =>
  bindE (drawR true [t156_306.1] (fun F => mLoad false 1 t156_306.1 F) H_307) fun t157_308 H_309 =>
  bindE (drawM (some t12_246) H_309) fun t158_310 H_311 =>
  bindE (drawR true [t157_308.1, t158_310.1] (fun F => mBin (cfg b) 192 false .add t157_308.1 t158_310.1 F) H_311) fun t159_312 H_313 =>
  bindE (drawM (some t8_195) H_313) fun t160_314 H_315 =>
  bindE (drawM (some t11_197) H_315) fun t161_316 H_317 =>
  bindE (drawR true [t161_316.1] (fun F => mBin (cfg b) 3 true .sub t161_316.1 (AV.c (.int .i64 7)) F) H_317) fun t162_318 H_319 =>
  bindE (drawR true [t160_314.1, t162_318.1] (fun F => mIdxS 1 t160_314.1 t162_318.1 F) H_319) fun t163_320 H_321 =>
  bindE (drawR true [t163_320.1] (fun F => mLoad false 1 t163_320.1 F) H_321) fun t164_322 H_323 =>
  bindE (drawR true [t159_312.1, t164_322.1] (fun F => mBin (cfg b) 192 false .add t159_312.1 t164_322.1 F) H_323) fun t165_324 H_325 =>
  bindE (drawM (some t13_293) H_325) fun t166_326 H_327 =>
  bindE (drawR true [t165_324.1, t166_326.1] (fun F => mBin (cfg b) 192 false .add t165_324.1 t166_326.1 F) H_327) fun t167_328 H_329 =>
  bindE (drawR true [t151_296.1, t152_298.1] (fun F => mIdxS 1 t151_296.1 t152_298.1 F) H_329) fun t168_330 H_331 =>
  bindE (drawR false [t168_330.1, t167_328.1] (fun F => mStore false 1 t168_330.1 t167_328.1 F) H_331) fun u_332 H_333 =>
  some (([], [t151_296.2, t152_298.2, t153_300.2, t154_302.2, t155_304.2, t156_306.2, t157_308.2, t158_310.2, t159_312.2, t160_314.2, t161_316.2, t162_318.2, t163_320.2, t164_322.2, t165_324.2, t166_326.2, t167_328.2, t168_330.2, u_332.2]), H_333)) H_292) fun vs_334 H_335 =>
  un0 vs_334 (bindE (mBin (cfg b) 3 true .add t11_197 (AV.c (.int .i64 1)) H_335) fun t110_336 H_337 =>
  some (LStep.cont [t2_187, t3_189, t6_191, t7_193, t8_195, t110_336], H_337))))) (some (LStep.exit 8 [t2_187, t3_189, t6_191, t7_193, t8_195], H_200)))
noncomputable def p90_l10 (b : Bool) (cf : CallFn) (k : Nat) (s : List AV) (H : Heap) : Option (LStep × Heap) :=
  un s fun t2_433 vs_434 => un vs_434 fun t3_435 vs_436 => un vs_436 fun t6_437 vs_438 => un vs_438 fun t7_439 vs_440 => un vs_440 fun t8_441 vs_442 => un vs_442 fun t14_443 vs_444 => un vs_444 fun t15_445 vs_446 => un vs_446 fun t16_447 vs_448 => un vs_448 fun t17_449 vs_450 => un vs_450 fun t18_451 vs_452 => un vs_452 fun t19_453 vs_454 => un vs_454 fun t20_455 vs_456 => un vs_456 fun t21_457 vs_458 => un vs_458 fun t22_459 vs_460 => un0 vs_460 (bindE (mBin (cfg b) 3 true .lss t22_459 (AV.c (.int .i64 64)) H) fun t194_461 H_462 =>
  condR t194_461 (afterD (twice [0, 0, 2, 0, 14, 30, 0, 94, 254, 511, 0, 0, 3072, 0, 8192, 0, 57344, 130048, 262143, 0, 524288, 1572864, 4194303, 0, 0, 25165824, 58720256, 134217727, 268435455] (fun H_463 => bindE (drawM (some t21_457) H_463) fun t197_464 H_465 =>
  bindE (drawM (some t18_451) H_465) fun t198_466 H_467 =>
  bindE (drawR false [t198_466.1] (fun F => cf 122 [t198_466.1, (AV.c (.int .i64 6))] F) H_467) fun t199_468 H_469 =>
  bindE (drawM (some t18_451) H_469) fun t200_470 H_471 =>
  bindE (drawR false [t200_470.1] (fun F => cf 122 [t200_470.1, (AV.c (.int .i64 11))] F) H_471) fun t201_472 H_473 =>
  bindE (drawR true [t199_468.1, t201_472.1] (fun F => mBin (cfg b) 192 false .xor t199_468.1 t201_472.1 F) H_473) fun t202_474 H_475 =>
  bindE (drawM (some t18_451) H_475) fun t203_476 H_477 =>
  bindE (drawR false [t203_476.1] (fun F => cf 122 [t203_476.1, (AV.c (.int .i64 25))] F) H_477) fun t204_478 H_479 =>
  bindE (drawR true [t202_474.1, t204_478.1] (fun F => mBin (cfg b) 192 false .xor t202_474.1 t204_478.1 F) H_479) fun t205_480 H_481 =>
  bindE (drawR true [t197_464.1, t205_480.1] (fun F => mBin (cfg b) 192 false .add t197_464.1 t205_480.1 F) H_481) fun t206_482 H_483 =>
  bindE (drawM (some t18_451) H_483) fun t207_484 H_485 =>
  bindE (drawM (some t19_453) H_485) fun t208_486 H_487 =>
  bindE (drawR true [t207_484.1, t208_486.1] (fun F => mBin (cfg b) 192 false .and t207_484.1 t208_486.1 F) H_487) fun t209_488 H_489 =>
  bindE (drawM (some t18_451) H_489) fun t210_490 H_491 =>
  bindE (drawR true [t210_490.1] (fun F => mUn .xor t210_490.1 F) H_491) fun t211_492 H_493 =>
  bindE (drawM (some t20_455) H_493) fun t212_494 H_495 =>
  bindE (drawR true [t211_492.1, t212_494.1] (fun F => mBin (cfg b) 192 false .and t211_492.1 t212_494.1 F) H_495) fun t213_496 H_497 =>
  bindE (drawR true [t209_488.1, t213_496.1] (fun F => mBin (cfg b) 192 false .or t209_488.1 t213_496.1 F) H_497) fun t214_498 H_499 =>
  bindE (drawR true [t206_482.1, t214_498.1] (fun F => mBin (cfg b) 192 false .add t206_482.1 t214_498.1 F) H_499) fun t215_500 H_501 =>
  bindE (drawM (some t22_459) H_501) fun t216_502 H_503 =>
  bindE (drawR true [t216_502.1] (fun F => mIdxA 64 (glR 0) t216_502.1 F) H_503) fun t217_504 H_505 =>
  bindE (drawR true [t217_504.1] (fun F => mLoad false 1 t217_504.1 F) H_505) fun t218_506 H_507 =>
  bindE (drawR true [t215_500.1, t218_506.1] (fun F => mBin (cfg b) 192 false .add t215_500.1 t218_506.1 F) H_507) fun t219_508 H_509 =>
  bindE (drawM (some t8_441) H_509) fun t220_510 H_511 =>
  bindE (drawM (some t22_459) H_511) fun t221_512 H_513 =>
  bindE (drawR true [t220_510.1, t221_512.1] (fun F => mIdxS 1 t220_510.1 t221_512.1 F) H_513) fun t222_514 H_515 =>
  bindE (drawR true [t222_514.1] (fun F => mLoad false 1 t222_514.1 F) H_515) fun t223_516 H_517 =>
  bindE (drawR true [t219_508.1, t223_516.1] (fun F => mBin (cfg b) 192 false .add t219_508.1 t223_516.1 F) H_517) fun t224_518 H_519 =>
  bindE (drawM (some t224_518.1) H_519) fun t23_520 H_521 =>
  some (([t23_520.1], [t197_464.2, t198_466.2, t199_468.2, t200_470.2, t201_472.2, t202_474.2, t203_476.2, t204_478.2, t205_480.2, t206_482.2, t207_484.2, t208_486.2, t209_488.2, t210_490.2, t211_492.2, t212_494.2, t213_496.2, t214_498.2, t215_500.2, t216_502.2, t217_504.2, t218_506.2, t219_508.2, t220_510.2, t221_512.2, t222_514.2, t223_516.2, t224_518.2, t23_520.2]), H_521)) H_462) fun vs_522 H_523 =>
  un vs_522 fun t23_524 vs_525 => un0 vs_525 (bindE (cf 122 [t14_443, (AV.c (.int .i64 2))] H_523) fun t226_526 H_527 =>
  bindE (cf 122 [t14_443, (AV.c (.int .i64 13))] H_527) fun t228_528 H_529 =>
  bindE (mBin (cfg b) 192 false .xor t226_526 t228_528 H_529) fun t229_530 H_531 =>
  bindE (cf 122 [t14_443, (AV.c (.int .i64 22))] H_531) fun t231_532 H_533 =>
  bindE (mBin (cfg b) 192 false .xor t229_530 t231_532 H_533) fun t232_534 H_535 =>
  bindE (mBin (cfg b) 192 false .and t14_443 t15_445 H_535) fun t235_536 H_537 =>
  bindE (mBin (cfg b) 192 false .and t14_443 t16_447 H_537) fun t238_538 H_539 =>
  bindE (mBin (cfg b) 192 false .or t235_536 t238_538 H_539) fun t239_540 H_541 =>
  bindE (mBin (cfg b) 192 false .and t15_445 t16_447 H_541) fun t242_542 H_543 =>
  bindE (mBin (cfg b) 192 false .or t239_540 t242_542 H_543) fun t243_544 H_545 =>
  bindE (mBin (cfg b) 192 false .add t232_534 t243_544 H_545) fun t244_546 H_547 =>
  bindE (mBin (cfg b) 192 false .add t17_449 t23_524 H_547) fun t250_548 H_549 =>
  bindE (mBin (cfg b) 192 false .add t23_524 t244_546 H_549) fun t256_550 H_551 =>
  bindE (mBin (cfg b) 3 true .add t22_459 (AV.c (.int .i64 1)) H_551) fun t196_552 H_553 =>
  some (LStep.cont [t2_433, t3_435, t6_437, t7_439, t8_441, t256_550, t14_443, t15_445, t16_447, t250_548, t18_451, t19_453, t20_455, t196_552], H_553))) (some (LStep.exit 10 [t2_433, t3_435, t6_437, t7_439, t14_443, t15_445, t16_447, t17_449, t18_451, t19_453, t20_455, t21_457], H_462)))
noncomputable def p90_l12 (b : Bool) (cf : CallFn) (k : Nat) (s : List AV) (H : Heap) : Option (LStep × Heap) :=
  un s fun t2_582 vs_583 => un vs_583 fun t3_584 vs_585 => un vs_585 fun t6_586 vs_587 => un vs_587 fun t7_588 vs_589 => un vs_589 fun t25_590 vs_591 => un vs_591 fun t26_592 vs_593 => un0 vs_593 (bindE (mBin (cfg b) 3 true .lss t26_592 (AV.c (.int .i64 8)) H) fun t267_594 H_595 =>
  condR t267_594 (afterD (twice [0, 0, 0, 0, 12, 28, 0, 0, 192, 448, 1020, 2047, 4095] (fun H_596 => bindE (drawM (some t6_586) H_596) fun t270_597 H_598 =>
  bindE (drawM (some t26_592) H_598) fun t271_599 H_600 =>
  bindE (drawM (some t6_586) H_600) fun t272_601 H_602 =>
  bindE (drawM (some t26_592) H_602) fun t273_603 H_604 =>
  bindE (drawR true [t272_601.1, t273_603.1] (fun F => mIdxS 1 t272_601.1 t273_603.1 F) H_604) fun t274_605 H_606 =>
  bindE (drawR true [t274_605.1] (fun F => mLoad false 1 t274_605.1 F) H_606) fun t275_607 H_608 =>
  bindE (drawM (some t25_590) H_608) fun t276_609 H_610 =>
  bindE (drawM (some t26_592) H_610) fun t277_611 H_612 =>
  bindE (drawR true [t276_609.1, t277_611.1] (fun F => mIdxS 1 t276_609.1 t277_611.1 F) H_612) fun t278_613 H_614 =>
  bindE (drawR true [t278_613.1] (fun F => mLoad false 1 t278_613.1 F) H_614) fun t279_615 H_616 =>
  bindE (drawR true [t275_607.1, t279_615.1] (fun F => mBin (cfg b) 192 false .add t275_607.1 t279_615.1 F) H_616) fun t280_617 H_618 =>
  bindE (drawR true [t270_597.1, t271_599.1] (fun F => mIdxS 1 t270_597.1 t271_599.1 F) H_618) fun t281_619 H_620 =>
  bindE (drawR false [t281_619.1, t280_617.1] (fun F => mStore false 1 t281_619.1 t280_617.1 F) H_620) fun u_621 H_622 =>
  some (([], [t270_597.2, t271_599.2, t272_601.2, t273_603.2, t274_605.2, t275_607.2, t276_609.2, t277_611.2, t278_613.2, t279_615.2, t280_617.2, t281_619.2, u_621.2]), H_622)) H_595) fun vs_623 H_624 =>
  un0 vs_623 (bindE (mBin (cfg b) 3 true .add t26_592 (AV.c (.int .i64 1)) H_624) fun t269_625 H_626 =>
  some (LStep.cont [t2_582, t3_584, t6_586, t7_588, t25_590, t269_625], H_626))) (some (LStep.exit 12 [t2_582, t3_584, t6_586, t7_588], H_595)))
noncomputable def p90_l4 (b : Bool) (cf : CallFn) (k : Nat) (s : List AV) (H : Heap) : Option (LStep × Heap) :=
  un s fun t2_72 vs_73 => un vs_73 fun t3_74 vs_75 => un vs_75 fun t6_76 vs_77 => un vs_77 fun t7_78 vs_79 => un0 vs_79 (bindE (mLenSl t3_74 H) fun t62_80 H_81 =>
  bindE (mBin (cfg b) 3 false .lss t7_78 t62_80 H_81) fun t63_82 H_83 =>
  condR t63_82 (bindE (mMakeSl 192 1 4 (.int .u32 0) (AV.c (.int .i64 64)) (AV.c (.int .i64 64)) H_83) fun t66_84 H_85 =>
  afterL 6 (loopX k (p90_l6 b cf k) [t2_72, t3_74, t6_76, t7_78, t66_84, (AV.c (.int .i64 0))] H_85) (fun vs_175 H_176 =>
  un vs_175 fun t2_177 vs_178 => un vs_178 fun t3_179 vs_180 => un vs_180 fun t6_181 vs_182 => un vs_182 fun t7_183 vs_184 => un vs_184 fun t8_185 vs_186 => un0 vs_186 (afterL 8 (loopX k (p90_l8 b cf k) [t2_177, t3_179, t6_181, t7_183, t8_185, (AV.c (.int .i64 16))] H_176) (fun vs_338 H_339 =>
  un vs_338 fun t2_340 vs_341 => un vs_341 fun t3_342 vs_343 => un vs_343 fun t6_344 vs_345 => un vs_345 fun t7_346 vs_347 => un vs_347 fun t8_348 vs_349 => un0 vs_349 (afterD (twice [0, 1, 3, 0, 8, 24, 0, 64, 192, 0, 512, 1536, 0, 4096, 12288, 0, 32768, 98304, 0, 262144, 786432, 0, 2097152, 6291456, 7, 16777279, 50332159, 117444607, 251691007, 520355839, 1059061759, 2147483647] (fun H_350 => bindE (drawM (some t6_344) H_350) fun t169_351 H_352 =>
  bindE (drawR true [t169_351.1] (fun F => mIdxS 1 t169_351.1 (AV.c (.int .i64 0)) F) H_352) fun t170_353 H_354 =>
  bindE (drawR true [t170_353.1] (fun F => mLoad false 1 t170_353.1 F) H_354) fun t171_355 H_356 =>
  bindE (drawM (some t6_344) H_356) fun t172_357 H_358 =>
  bindE (drawR true [t172_357.1] (fun F => mIdxS 1 t172_357.1 (AV.c (.int .i64 1)) F) H_358) fun t173_359 H_360 =>
  bindE (drawR true [t173_359.1] (fun F => mLoad false 1 t173_359.1 F) H_360) fun t174_361 H_362 =>
  bindE (drawM (some t6_344) H_362) fun t175_363 H_364 =>
  bindE (drawR true [t175_363.1] (fun F => mIdxS 1 t175_363.1 (AV.c (.int .i64 2)) F) H_364) fun t176_365 H_366 =>
  bindE (drawR true [t176_365.1] (fun F => mLoad false 1 t176_365.1 F) H_366) fun t177_367 H_368 =>
  bindE (drawM (some t6_344) H_368) fun t178_369 H_370 =>
  bindE (drawR true [t178_369.1] (fun F => mIdxS 1 t178_369.1 (AV.c (.int .i64 3)) F) H_370) fun t179_371 H_372 =>
  bindE (drawR true [t179_371.1] (fun F => mLoad false 1 t179_371.1 F) H_372) fun t180_373 H_374 =>
  bindE (drawM (some t6_344) H_374) fun t181_375 H_376 =>
  bindE (drawR true [t181_375.1] (fun F => mIdxS 1 t181_375.1 (AV.c (.int .i64 4)) F) H_376) fun t182_377 H_378 =>
  bindE (drawR true [t182_377.1] (fun F => mLoad false 1 t182_377.1 F) H_378) fun t183_379 H_380 =>
  bindE (drawM (some t6_344) H_380) fun t184_381 H_382 =>
  bindE (drawR true [t184_381.1] (fun F => mIdxS 1 t184_381.1 (AV.c (.int .i64 5)) F) H_382) fun t185_383 H_384 =>
  bindE (drawR true [t185_383.1] (fun F => mLoad false 1 t185_383.1 F) H_384) fun t186_385 H_386 =>
  bindE (drawM (some t6_344) H_386) fun t187_387 H_388 =>
  bindE (drawR true [t187_387.1] (fun F => mIdxS 1 t187_387.1 (AV.c (.int .i64 6)) F) H_388) fun t188_389 H_390 =>
  bindE (drawR true [t188_389.1] (fun F => mLoad false 1 t188_389.1 F) H_390) fun t189_391 H_392 =>
  bindE (drawM (some t6_344) H_392) fun t190_393 H_394 =>
  bindE (drawR true [t190_393.1] (fun F => mIdxS 1 t190_393.1 (AV.c (.int .i64 7)) F) H_394) fun t191_395 H_396 =>
  bindE (drawR true [t191_395.1] (fun F => mLoad false 1 t191_395.1 F) H_396) fun t192_397 H_398 =>
  bindE (drawM (some t171_355.1) H_398) fun t14_399 H_400 =>
  bindE (drawM (some t174_361.1) H_400) fun t15_401 H_402 =>
  bindE (drawM (some t177_367.1) H_402) fun t16_403 H_404 =>
  bindE (drawM (some t180_373.1) H_404) fun t17_405 H_406 =>
  bindE (drawM (some t183_379.1) H_406) fun t18_407 H_408 =>
  bindE (drawM (some t186_385.1) H_408) fun t19_409 H_410 =>
  bindE (drawM (some t189_391.1) H_410) fun t20_411 H_412 =>
  bindE (drawM (some t192_397.1) H_412) fun t21_413 H_414 =>
  some (([t14_399.1, t15_401.1, t16_403.1, t17_405.1, t18_407.1, t19_409.1, t20_411.1, t21_413.1], [t169_351.2, t170_353.2, t171_355.2, t172_357.2, t173_359.2, t174_361.2, t175_363.2, t176_365.2, t177_367.2, t178_369.2, t179_371.2, t180_373.2, t181_375.2, t182_377.2, t183_379.2, t184_381.2, t185_383.2, t186_385.2, t187_387.2, t188_389.2, t189_391.2, t190_393.2, t191_395.2, t192_397.2, t14_399.2, t15_401.2, t16_403.2, t17_405.2, t18_407.2, t19_409.2, t20_411.2, t21_413.2]), H_414)) H_339) fun vs_415 H_416 =>
  un vs_415 fun t14_417 vs_418 => un vs_418 fun t15_419 vs_420 => un vs_420 fun t16_421 vs_422 => un vs_422 fun t17_423 vs_424 => un vs_424 fun t18_425 vs_426 => un vs_426 fun t19_427 vs_428 => un vs_428 fun t20_429 vs_430 => un vs_430 fun t21_431 vs_432 => un0 vs_432 (afterL 10 (loopX k (p90_l10 b cf k) [t2_340, t3_342, t6_344, t7_346, t8_348, t14_417, t15_419, t16_421, t17_423, t18_425, t19_427, t20_429, t21_431, (AV.c (.int .i64 0))] H_416) (fun vs_554 H_555 =>
  un vs_554 fun t2_556 vs_557 => un vs_557 fun t3_558 vs_559 => un vs_559 fun t6_560 vs_561 => un vs_561 fun t7_562 vs_563 => un vs_563 fun t14_564 vs_565 => un vs_565 fun t15_566 vs_567 => un vs_567 fun t16_568 vs_569 => un vs_569 fun t17_570 vs_571 => un vs_571 fun t18_572 vs_573 => un vs_573 fun t19_574 vs_575 => un vs_575 fun t20_576 vs_577 => un vs_577 fun t21_578 vs_579 => un0 vs_579 (bindE (mBuildSl 192 1 (.int .u32 0) 8 [(0, t14_564), (1, t15_566), (2, t16_568), (3, t17_570), (4, t18_572), (5, t19_574), (6, t20_576), (7, t21_578)] H_555) fun t265_580 H_581 =>
  afterL 12 (loopX k (p90_l12 b cf k) [t2_556, t3_558, t6_560, t7_562, t265_580, (AV.c (.int .i64 0))] H_581) (fun vs_627 H_628 =>
  un vs_627 fun t2_629 vs_630 => un vs_630 fun t3_631 vs_632 => un vs_632 fun t6_633 vs_634 => un vs_634 fun t7_635 vs_636 => un0 vs_636 (bindE (mBin (cfg b) 3 true .add t7_635 (AV.c (.int .i64 64)) H_628) fun t65_637 H_638 =>
  some (LStep.cont [t2_629, t3_631, t6_633, t65_637], H_638))) (fun vs_627 H_628 => un vs_627 fun t2_639 vs_640 => un vs_640 fun t3_641 vs_642 => un vs_642 fun t6_643 vs_644 => un vs_644 fun t7_645 vs_646 => un0 vs_646 (some (LStep.ret [t2_639, t6_643], H_628))))) (fun vs_554 H_555 => un vs_554 fun t2_647 vs_648 => un vs_648 fun t3_649 vs_650 => un vs_650 fun t6_651 vs_652 => un vs_652 fun t7_653 vs_654 => un vs_654 fun t14_655 vs_656 => un vs_656 fun t15_657 vs_658 => un vs_658 fun t16_659 vs_660 => un vs_660 fun t17_661 vs_662 => un vs_662 fun t18_663 vs_664 => un vs_664 fun t19_665 vs_666 => un vs_666 fun t20_667 vs_668 => un vs_668 fun t21_669 vs_670 => un0 vs_670 (some (LStep.ret [t2_647, t6_651], H_555)))))) (fun vs_338 H_339 => un vs_338 fun t2_671 vs_672 => un vs_672 fun t3_673 vs_674 => un vs_674 fun t6_675 vs_676 => un vs_676 fun t7_677 vs_678 => un vs_678 fun t8_679 vs_680 => un0 vs_680 (some (LStep.ret [t2_671, t6_675], H_339))))) (fun vs_175 H_176 => un vs_175 fun t2_681 vs_682 => un vs_682 fun t3_683 vs_684 => un vs_684 fun t6_685 vs_686 => un vs_686 fun t7_687 vs_688 => un vs_688 fun t8_689 vs_690 => un0 vs_690 (some (LStep.ret [t2_681, t6_685], H_176)))) (some (LStep.exit 4 [t2_72, t6_76], H_83)))
noncomputable def p90_l14 (b : Bool) (cf : CallFn) (k : Nat) (s : List AV) (H : Heap) : Option (LStep × Heap) :=
  un s fun t2_699 vs_700 => un vs_700 fun t6_701 vs_702 => un vs_702 fun t27_703 vs_704 => un vs_704 fun t28_705 vs_706 => un0 vs_706 (bindE (mBin (cfg b) 3 true .lss t28_705 (AV.c (.int .i64 32)) H) fun t283_707 H_708 =>
  condR t283_707 (bindE (mBin (cfg b) 3 true .quo t28_705 (AV.c (.int .i64 4)) H_708) fun t289_709 H_710 =>
  bindE (mIdxS 1 t6_701 t289_709 H_710) fun t290_711 H_712 =>
  bindE (mLoad false 1 t290_711 H_712) fun t291_713 H_714 =>
  bindE (mBin (cfg b) 3 true .rem t28_705 (AV.c (.int .i64 4)) H_714) fun t293_715 H_716 =>
  bindE (mBin (cfg b) 3 true .mul (AV.c (.int .i64 8)) t293_715 H_716) fun t294_717 H_718 =>
  bindE (mBin (cfg b) 3 true .sub (AV.c (.int .i64 24)) t294_717 H_718) fun t295_719 H_720 =>
  bindE (mBin (cfg b) 192 false .shr t291_713 t295_719 H_720) fun t296_721 H_722 =>
  bindE (mConvI .u8 t296_721 H_722) fun t297_723 H_724 =>
  bindE (mIdxA 32 t27_703 t28_705 H_724) fun t298_725 H_726 =>
  bindE (mStore false 1 t298_725 t297_723 H_726) fun u_727 H_728 =>
  bindE (mBin (cfg b) 3 true .add t28_705 (AV.c (.int .i64 1)) H_728) fun t285_729 H_730 =>
  some (LStep.cont [t2_699, t6_701, t27_703, t285_729], H_730)) (some (LStep.exit 14 [t2_699, t27_703], H_708)))
/-- ferryman/ferrymanref01.Sum -/
noncomputable def p90 (b : Bool) (cf : CallFn) (k : Nat) (t0 : AV) (H : Heap) : Option (AV × Heap) :=
  bindE (mAlloc 41 (.arr 32 .u8 (List.replicate 32 0)) H) fun t2_0 H_1 =>
  bindE (mBuildSl 5 1 (.int .u8 0) 0 [] H_1) fun t29_2 H_3 =>
  bindE (mAppend 5 1 1 false t29_2 t0 H_3) fun t31_4 H_5 =>
  bindE (mBuildSl 5 1 (.int .u8 0) 1 [(0, (AV.c (.int .u8 128)))] H_5) fun t33_6 H_7 =>
  bindE (mAppend 5 1 1 false t31_4 t33_6 H_7) fun t34_8 H_9 =>
  afterL 0 (loopX k (p90_l0 b cf k) [t0, t2_0, t34_8] H_9) (fun vs_26 H_27 =>
  un vs_26 fun t0_28 vs_29 => un vs_29 fun t2_30 vs_31 => un vs_31 fun t3_32 vs_33 => un0 vs_33 (bindE (mLenSl t0_28 H_27) fun t43_34 H_35 =>
  bindE (mConvI .u64 t43_34 H_35) fun t44_36 H_37 =>
  bindE (mBin (cfg b) 22 true .mul t44_36 (AV.c (.int .u64 8)) H_37) fun t45_38 H_39 =>
  afterL 2 (loopX k (p90_l2 b cf k) [t2_30, t3_32, t45_38, (AV.c (.int .i64 0))] H_39) (fun vs_64 H_65 =>
  un vs_64 fun t2_66 vs_67 => un vs_67 fun t3_68 vs_69 => un0 vs_69 (bindE (mBuildSl 192 1 (.int .u32 0) 8 [(0, (AV.c (.int .u32 1779033703))), (1, (AV.c (.int .u32 3144134277))), (2, (AV.c (.int .u32 1013904242))), (3, (AV.c (.int .u32 2773480762))), (4, (AV.c (.int .u32 1359893119))), (5, (AV.c (.int .u32 2600822924))), (6, (AV.c (.int .u32 528734635))), (7, (AV.c (.int .u32 1541459225)))] H_65) fun t59_70 H_71 =>
  afterL 4 (loopX k (p90_l4 b cf k) [t2_66, t3_68, t59_70, (AV.c (.int .i64 0))] H_71) (fun vs_691 H_692 =>
  un vs_691 fun t2_693 vs_694 => un vs_694 fun t6_695 vs_696 => un0 vs_696 (bindE (mAlloc 41 (.arr 32 .u8 (List.replicate 32 0)) H_692) fun t27_697 H_698 =>
  afterL 14 (loopX k (p90_l14 b cf k) [t2_693, t6_695, t27_697, (AV.c (.int .i64 0))] H_698) (fun vs_731 H_732 =>
  un vs_731 fun t2_733 vs_734 => un vs_734 fun t27_735 vs_736 => un0 vs_736 (bindE (mLoad true 32 t27_735 H_732) fun t299_737 H_738 =>
  bindE (mStore true 32 t2_733 t299_737 H_738) fun u_739 H_740 =>
  endQ (cfg b) false k (resC1 (mld true 32 H_740 t2_733) (some [])) H_740)) (fun vs_731 H_732 => un vs_731 fun t2_741 vs_742 => un vs_742 fun t27_743 vs_744 => un0 vs_744 (endQ (cfg b) false k (resC1 (mld true 32 H_732 t2_741) (some [])) H_732)))) (fun vs_691 H_692 => un vs_691 fun t2_745 vs_746 => un vs_746 fun t6_747 vs_748 => un0 vs_748 (endQ (cfg b) false k (resC1 (mld true 32 H_692 t2_745) (some [])) H_692)))) (fun vs_64 H_65 => un vs_64 fun t2_749 vs_750 => un vs_750 fun t3_751 vs_752 => un0 vs_752 (endQ (cfg b) false k (resC1 (mld true 32 H_65 t2_749) (some [])) H_65)))) (fun vs_26 H_27 => un vs_26 fun t0_753 vs_754 => un vs_754 fun t2_755 vs_756 => un vs_756 fun t3_757 vs_758 => un0 vs_758 (endQ (cfg b) false k (resC1 (mld true 32 H_27 t2_755) (some [])) H_27))
/-- ferryman/ferrymanref01.turn -/
noncomputable def p122 (b : Bool) (cf : CallFn) (k : Nat) (t0 t1 : AV) (H : Heap) : Option (AV × Heap) :=
  afterD (twice [0, 0, 3, 0, 0, 16, 56, 127, 255] (fun H_0 => bindE (drawM (some t0) H_0) fun t5_1 H_2 =>
  bindE (drawM (some t1) H_2) fun t6_3 H_4 =>
  bindE (drawR true [t5_1.1, t6_3.1] (fun F => mBin (cfg b) 192 false .shr t5_1.1 t6_3.1 F) H_4) fun t7_5 H_6 =>
  bindE (drawM (some t0) H_6) fun t8_7 H_8 =>
  bindE (drawM (some t1) H_8) fun t9_9 H_10 =>
  bindE (drawR true [t9_9.1] (fun F => mBin (cfg b) 3 true .sub (AV.c (.int .i64 32)) t9_9.1 F) H_10) fun t10_11 H_12 =>
  bindE (drawR true [t8_7.1, t10_11.1] (fun F => mBin (cfg b) 192 false .shl t8_7.1 t10_11.1 F) H_12) fun t11_13 H_14 =>
  bindE (drawR true [t7_5.1, t11_13.1] (fun F => mBin (cfg b) 192 false .or t7_5.1 t11_13.1 F) H_14) fun t12_15 H_16 =>
  bindE (drawM (some t12_15.1) H_16) fun t4_17 H_18 =>
  some (([t4_17.1], [t5_1.2, t6_3.2, t7_5.2, t8_7.2, t9_9.2, t10_11.2, t11_13.2, t12_15.2, t4_17.2]), H_18)) H) fun vs_19 H_20 =>
  un vs_19 fun t4_21 vs_22 => un0 vs_22 (endQ (cfg b) false k (resC1 (some t4_21) (some [])) H_20)
theorem p32_eq (b : Bool) (cf : CallFn) (t0 : AV) (H : Heap) : runG (cfg b) cf An 32 [t0] H = p32 b cf H.length t0 H := by kernel_rfl
theorem p33_eq (b : Bool) (cf : CallFn) (t0 t1 : AV) (H : Heap) : runG (cfg b) cf An 33 [t0, t1] H = p33 b cf H.length t0 t1 H := by kernel_rfl
theorem p89_eq (b : Bool) (cf : CallFn) (t0 : AV) (H : Heap) : runG (cfg b) cf An 89 [t0] H = p89 b cf H.length t0 H := by kernel_rfl
theorem p90_eq (cf : CallFn) (t0 : AV) (H : Heap) : runG (cfg true) cf An 90 [t0] H = p90 true cf H.length t0 H := by kernel_rfl
theorem p122_eq (b : Bool) (cf : CallFn) (t0 t1 : AV) (H : Heap) : runG (cfg b) cf An 122 [t0, t1] H = p122 b cf H.length t0 t1 H := by kernel_rfl
end Go.Fm
/-
  What the interpreter does to functions, without slots and types; the kernel holds it against the code.
-/
set_option maxRecDepth 100000
set_option linter.unusedVariables false
namespace Go.Fm
open Go Go.Proofs
/-- (ferryman/ferrymanlaw05.Act).Key -/
noncomputable def p35 (b : Bool) (cf : CallFn) (k : Nat) (t0 : AV) (H : Heap) : Option (AV × Heap) :=
  bindE (mBox 48 t0 H) fun t1_0 H_1 =>
  bindE (mFA 2 2 t1_0 H_1) fun t3_2 H_3 =>
  bindE (mLoad false 1 t3_2 H_3) fun t4_4 H_5 =>
  bindE (mLenSl t4_4 H_5) fun t5_6 H_7 =>
  bindE (mBin (cfg b) 3 true .gtr t5_6 (AV.c (.int .i64 0)) H_7) fun t6_8 H_9 =>
  condR t6_8 (bindE (mFA 2 2 t1_0 H_9) fun t7_10 H_11 =>
  bindE (mLoad false 1 t7_10 H_11) fun t8_12 H_13 =>
  endQ (cfg b) false k (resC1 (some t8_12) (some [])) H_13) (bindE (mFA 1 1 t1_0 H_9) fun t9_14 H_15 =>
  bindE (mLoad false 1 t9_14 H_15) fun t10_16 H_17 =>
  bindE (mBin (cfg b) 5 true .rem t10_16 (AV.c (.int .u8 26)) H_17) fun t11_18 H_19 =>
  bindE (mBin (cfg b) 5 true .add (AV.c (.int .u8 97)) t11_18 H_19) fun t12_20 H_21 =>
  bindE (mFA 1 1 t1_0 H_21) fun t13_22 H_23 =>
  bindE (mLoad false 1 t13_22 H_23) fun t14_24 H_25 =>
  bindE (mBin (cfg b) 5 true .quo t14_24 (AV.c (.int .u8 26)) H_25) fun t15_26 H_27 =>
  bindE (mBin (cfg b) 5 true .add (AV.c (.int .u8 97)) t15_26 H_27) fun t16_28 H_29 =>
  bindE (mBuildSl 5 1 (.int .u8 0) 3 [(0, (AV.c (.int .u8 107))), (1, t12_20), (2, t16_28)] H_29) fun t17_30 H_31 =>
  endQ (cfg b) false k (resC1 (some t17_30) (some [])) H_31)
noncomputable def p39_l0 (b : Bool) (cf : CallFn) (k : Nat) (s : List AV) (H : Heap) : Option (LStep × Heap) :=
  un s fun t1_4 vs_5 => un vs_5 fun t6_6 vs_7 => un vs_7 fun t7_8 vs_9 => un vs_9 fun t13_10 vs_11 => un vs_11 fun t14_12 vs_13 => un vs_13 fun t15_14 vs_15 => un0 vs_15 (bindE (mBin (cfg b) 3 false .lss t15_14 t14_12 H) fun t16_16 H_17 =>
  condR t16_16 (bindE (mIdxS 4 t13_10 t15_14 H_17) fun t18_18 H_19 =>
  bindE (mLoad true 4 t18_18 H_19) fun t19_20 H_21 =>
  bindE (mAlloc 48 (.agg [(.int .u8 0), (.int .u8 0), .nilsl, .nilsl]) H_21) fun t9_22 H_23 =>
  bindE (mStore true 4 t9_22 t19_20 H_23) fun u_24 H_25 =>
  afterD (twice [0, 1, 0, 4, 0, 16, 48, 112, 252, 3, 1023] (fun H_26 => bindE (drawR true [t9_22] (fun F => mLoad true 4 t9_22 F) H_26) fun t20_27 H_28 =>
  bindE (drawR false [t20_27.1] (fun F => cf 35 [t20_27.1] F) H_28) fun t21_29 H_30 =>
  bindE (drawR true [t9_22] (fun F => mFA 3 3 t9_22 F) H_30) fun t22_31 H_32 =>
  bindE (drawR true [t22_31.1] (fun F => mLoad false 1 t22_31.1 F) H_32) fun t23_33 H_34 =>
  bindE (drawR true [t9_22] (fun F => mFA 3 3 t9_22 F) H_34) fun t24_35 H_36 =>
  bindE (drawR true [t24_35.1] (fun F => mLoad false 1 t24_35.1 F) H_36) fun t25_37 H_38 =>
  bindE (drawR true [t25_37.1] (fun F => mLenSl t25_37.1 F) H_38) fun t26_39 H_40 =>
  bindE (drawR true [t26_39.1] (fun F => mMin [t26_39.1, (AV.c (.int .i64 100))] F) H_40) fun t27_41 H_42 =>
  bindE (drawR false [t23_33.1, t27_41.1] (fun F => mSliceSl 1 t23_33.1 none (some t27_41.1) F) H_42) fun t28_43 H_44 =>
  bindE (drawM (some t21_29.1) H_44) fun t10_45 H_46 =>
  bindE (drawM (some t28_43.1) H_46) fun t11_47 H_48 =>
  some (([t10_45.1, t11_47.1], [t20_27.2, t21_29.2, t22_31.2, t23_33.2, t24_35.2, t25_37.2, t26_39.2, t27_41.2, t28_43.2, t10_45.2, t11_47.2]), H_48)) H_25) fun vs_49 H_50 =>
  un vs_49 fun t10_51 vs_52 => un vs_52 fun t11_53 vs_54 => un0 vs_54 (bindE (mBin (cfg b) 3 false .geq t15_14 t1_4 H_50) fun t31_55 H_56 =>
  bindE (guardR (wantR false t31_55) (some (t10_51, H_56)) H_56) fun t33_57 H_58 =>
  bindE (guardR (wantR false t31_55) (mLenSl t33_57 H_58) H_58) fun t34_59 H_60 =>
  bindE (guardR (wantR false t31_55) (mBin (cfg b) 3 true .gtr t34_59 (AV.c (.int .i64 90)) H_60) H_60) fun t35_61 H_62 =>
  bindE (mPick t31_55 (AV.c (.bool true)) t35_61 H_62) fun t36_63 H_64 =>
  condR t36_63 (some (LStep.exit 0 [t6_6, t7_8], H_64)) (bindE (mFA 0 0 t9_22 H_64) fun t37_65 H_66 =>
  bindE (mLoad false 1 t37_65 H_66) fun t38_67 H_68 =>
  bindE (mBin (cfg b) 5 true .rem t38_67 (AV.c (.int .u8 6)) H_68) fun t39_69 H_70 =>
  bindE (mBin (cfg b) 5 true .lss t39_69 (AV.c (.int .u8 4)) H_70) fun t40_71 H_72 =>
  condR t40_71 (bindE (cf 36 [t6_6, t10_51, t11_53] H_72) fun t45_73 H_74 =>
  bindE (mExtract 0 t45_73 H_74) fun t46_75 H_76 =>
  bindE (mExtract 1 t45_73 H_76) fun t47_77 H_78 =>
  bindE (cf 78 [t7_8, t10_51, t11_53] H_78) fun t51_79 H_80 =>
  bindE (mBin (cfg b) 3 true .add t15_14 (AV.c (.int .i64 1)) H_80) fun t61_81 H_82 =>
  some (LStep.cont [t1_4, t46_75, t51_79, t13_10, t14_12, t61_81], H_82)) (bindE (cf 61 [t6_6, t10_51] H_72) fun t55_83 H_84 =>
  bindE (mExtract 0 t55_83 H_84) fun t56_85 H_86 =>
  bindE (mExtract 1 t55_83 H_86) fun t57_87 H_88 =>
  bindE (cf 92 [t7_8, t10_51] H_88) fun t60_89 H_90 =>
  bindE (mBin (cfg b) 3 true .add t15_14 (AV.c (.int .i64 1)) H_90) fun t61_91 H_92 =>
  some (LStep.cont [t1_4, t56_85, t60_89, t13_10, t14_12, t61_91], H_92))))) (some (LStep.exit 0 [t6_6, t7_8], H_17)))
/-- ferryman/ferrymanlaw05.Grow -/
noncomputable def p39 (b : Bool) (cf : CallFn) (k : Nat) (t0 t1 : AV) (H : Heap) : Option (AV × Heap) :=
  bindE (cf 26 [] H) fun t12_0 H_1 =>
  bindE (mLenSl t0 H_1) fun t14_2 H_3 =>
  afterL 0 (loopX k (p39_l0 b cf k) [t1, t12_0, (AV.c .nilsl), t0, t14_2, (AV.c (.int .i64 0))] H_3) (fun vs_93 H_94 =>
  un vs_93 fun t6_95 vs_96 => un vs_96 fun t7_97 vs_98 => un0 vs_98 (endQ (cfg b) false k (resC1 (some t6_95) (resC1 (some t7_97) (some []))) H_94)) (fun vs_93 H_94 => un vs_93 fun t6_99 vs_100 => un vs_100 fun t7_101 vs_102 => un0 vs_102 (endQ (cfg b) false k (resC1 (some AV.any) (resC1 (some AV.any) (some []))) H_94))
theorem p35_eq (b : Bool) (cf : CallFn) (t0 : AV) (H : Heap) : runG (cfg b) cf An 35 [t0] H = p35 b cf H.length t0 H := by kernel_rfl
theorem p39_eq (b : Bool) (cf : CallFn) (t0 t1 : AV) (H : Heap) : runG (cfg b) cf An 39 [t0, t1] H = p39 b cf H.length t0 t1 H := by kernel_rfl
end Go.Fm
/-
  What the interpreter does to functions, without slots and types; the kernel holds it against the code.
-/
set_option maxRecDepth 100000
set_option linter.unusedVariables false
namespace Go.Fm
open Go Go.Proofs
/-- ferryman/ferrymanlaw06.EpochNil -/
noncomputable def p3 (b : Bool) (cf : CallFn) (k : Nat) (t0 t1 : AV) (H : Heap) : Option (AV × Heap) :=
  bindE (cf 24 [] H) fun t14_0 H_1 =>
  bindE (mUn .not t14_0 H_1) fun t15_2 H_3 =>
  condR t15_2 (endQ (cfg b) false k (resC1 (some (AV.c (.bool false))) (some [])) H_3) (bindE (cf 26 [] H_3) fun t18_4 H_5 =>
  bindE (cf 25 [(AV.c .nilp), t18_4] H_5) fun t19_6 H_7 =>
  bindE (mExtract 0 t19_6 H_7) fun t20_8 H_9 =>
  bindE (mExtract 1 t19_6 H_9) fun t21_10 H_11 =>
  bindE (cf 27 [(AV.c .nilp), t0] H_11) fun t25_12 H_13 =>
  bindE (mExtract 0 t25_12 H_13) fun t26_14 H_15 =>
  bindE (mExtract 1 t25_12 H_15) fun t27_16 H_17 =>
  bindE (mBin (cfg b) 5 true .rem t1 (AV.c (.int .u8 64)) H_17) fun t30_18 H_19 =>
  bindE (mConvI .i64 t30_18 H_19) fun t31_20 H_21 =>
  bindE (mBin (cfg b) 3 true .add (AV.c (.int .i64 1)) t31_20 H_21) fun t32_22 H_23 =>
  bindE (cf 28 [t32_22] H_23) fun t33_24 H_25 =>
  bindE (mExtract 0 t33_24 H_25) fun t34_26 H_27 =>
  bindE (mExtract 1 t33_24 H_27) fun t35_28 H_29 =>
  bindE (cf 25 [t34_26, (AV.c .nilp)] H_29) fun t38_30 H_31 =>
  bindE (mExtract 0 t38_30 H_31) fun t39_32 H_33 =>
  bindE (mExtract 1 t38_30 H_33) fun t40_34 H_35 =>
  bindE (mBin (cfg b) 22 true .eql t20_8 (AV.c (.int .u64 0)) H_35) fun t42_36 H_37 =>
  bindE (guardR (wantR true t42_36) (some (t21_10, H_37)) H_37) fun t44_38 H_39 =>
  bindE (guardR (wantR true t42_36) (mBin (cfg b) 25 true .eql t44_38 (AV.c (.int .i64 1)) H_39) H_39) fun t45_40 H_41 =>
  bindE (mPick t42_36 t45_40 (AV.c (.bool false)) H_41) fun t46_42 H_43 =>
  bindE (guardR (wantR true t46_42) (some (t26_14, H_43)) H_43) fun t48_44 H_45 =>
  bindE (guardR (wantR true t46_42) (mBin (cfg b) 28 true .eql t48_44 (AV.c .nilp) H_45) H_45) fun t49_46 H_47 =>
  bindE (mPick t46_42 t49_46 (AV.c (.bool false)) H_47) fun t50_48 H_49 =>
  bindE (guardR (wantR true t50_48) (some (t27_16, H_49)) H_49) fun t52_50 H_51 =>
  bindE (guardR (wantR true t50_48) (mBin (cfg b) 25 true .eql t52_50 (AV.c (.int .i64 1)) H_51) H_51) fun t53_52 H_53 =>
  bindE (mPick t50_48 t53_52 (AV.c (.bool false)) H_53) fun t54_54 H_55 =>
  bindE (guardR (wantR true t54_54) (some ((AV.c .nilp), H_55)) H_55) fun t56_56 H_57 =>
  bindE (guardR (wantR true t54_54) (cf 29 [t56_56] H_57) H_57) fun t57_58 H_59 =>
  bindE (guardR (wantR true t54_54) (mBin (cfg b) 22 true .eql t57_58 (AV.c (.int .u64 0)) H_59) H_59) fun t58_60 H_61 =>
  bindE (mPick t54_54 t58_60 (AV.c (.bool false)) H_61) fun t59_62 H_63 =>
  bindE (guardR (wantR true t59_62) (some ((AV.c .nilp), H_63)) H_63) fun t61_64 H_65 =>
  bindE (guardR (wantR true t59_62) (cf 30 [t61_64] H_65) H_65) fun t62_66 H_67 =>
  bindE (guardR (wantR true t59_62) (mLenSl t62_66 H_67) H_67) fun t63_68 H_69 =>
  bindE (guardR (wantR true t59_62) (mBin (cfg b) 3 true .eql t63_68 (AV.c (.int .i64 0)) H_69) H_69) fun t64_70 H_71 =>
  bindE (mPick t59_62 t64_70 (AV.c (.bool false)) H_71) fun t65_72 H_73 =>
  bindE (guardR (wantR true t65_72) (some (t35_28, H_73)) H_73) fun t67_74 H_75 =>
  bindE (guardR (wantR true t65_72) (mBin (cfg b) 25 true .eql t67_74 (AV.c (.int .i64 0)) H_75) H_75) fun t68_76 H_77 =>
  bindE (mPick t65_72 t68_76 (AV.c (.bool false)) H_77) fun t69_78 H_79 =>
  bindE (guardR (wantR true t69_78) (some (t39_32, H_79)) H_79) fun t71_80 H_81 =>
  bindE (guardR (wantR true t69_78) (mBin (cfg b) 22 true .eql t71_80 (AV.c (.int .u64 0)) H_81) H_81) fun t72_82 H_83 =>
  bindE (mPick t69_78 t72_82 (AV.c (.bool false)) H_83) fun t73_84 H_85 =>
  bindE (guardR (wantR true t73_84) (some (t40_34, H_85)) H_85) fun t75_86 H_87 =>
  bindE (guardR (wantR true t73_84) (mBin (cfg b) 25 true .eql t75_86 (AV.c (.int .i64 1)) H_87) H_87) fun t76_88 H_89 =>
  bindE (mPick t73_84 t76_88 (AV.c (.bool false)) H_89) fun t77_90 H_91 =>
  bindE (guardR (wantR true t77_90) (some (t34_26, H_91)) H_91) fun t79_92 H_93 =>
  bindE (guardR (wantR true t77_90) (cf 29 [t79_92] H_93) H_93) fun t80_94 H_95 =>
  bindE (guardR (wantR true t77_90) (mBin (cfg b) 22 true .eql t80_94 (AV.c (.int .u64 0)) H_95) H_95) fun t81_96 H_97 =>
  bindE (mPick t77_90 t81_96 (AV.c (.bool false)) H_97) fun t82_98 H_99 =>
  endQ (cfg b) false k (resC1 (some t82_98) (some [])) H_99)
end Go.Fm
