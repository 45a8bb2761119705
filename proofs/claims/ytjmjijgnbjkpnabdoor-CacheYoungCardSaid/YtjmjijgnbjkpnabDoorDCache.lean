/-
  A part of the proof: DCache.
-/
import Derived.Test.YtjmjijgnbjkpnabDoorDAnn
set_option linter.all false
set_option autoImplicit true
/-
  What the interpreter does to functions, without slots and types; the kernel holds it against the code.
-/
set_option maxRecDepth 100000
set_option linter.unusedVariables false
namespace Go.Fm
open Go Go.Proofs
noncomputable def p8_l0_d0 (b : Bool) (cf : CallFn) (t0_18 t20_28 t7_36 : AV) (H_48 : Heap) : Option ((List AV × List Trail) × Heap) :=
  bindE (drawM (some t0_18) H_48) fun t29_49 H_50 =>
  bindE (drawM (some t0_18) H_50) fun t30_51 H_52 =>
  bindE (drawR true [t30_51.1] (fun F => mNil t30_51.1 F) H_52) fun t31_53 H_54 =>
  bindE (drawR true [t31_53.1] (fun F => mFA 2 2 t31_53.1 F) H_54) fun t32_55 H_56 =>
  bindE (drawR true [t32_55.1] (fun F => mLoad false 1 t32_55.1 F) H_56) fun t33_57 H_58 =>
  bindE (drawM (some t20_28) H_58) fun t34_59 H_60 =>
  bindE (drawM (some t20_28) H_60) fun t35_61 H_62 =>
  bindE (drawR false [t33_57.1, t34_59.1, t35_61.1] (fun F => mSlice3 100 70 t33_57.1 t34_59.1 t35_61.1 F) H_62) fun t36_63 H_64 =>
  bindE (drawM (some t0_18) H_64) fun t37_65 H_66 =>
  bindE (drawR true [t37_65.1] (fun F => mNil t37_65.1 F) H_66) fun t38_67 H_68 =>
  bindE (drawR true [t38_67.1] (fun F => mFA 2 2 t38_67.1 F) H_68) fun t39_69 H_70 =>
  bindE (drawR true [t39_69.1] (fun F => mLoad false 1 t39_69.1 F) H_70) fun t40_71 H_72 =>
  bindE (drawM (some t20_28) H_72) fun t41_73 H_74 =>
  bindE (drawR true [t41_73.1] (fun F => mBin (cfg b) 3 true .add t41_73.1 (AV.c (.int .i64 1)) F) H_74) fun t42_75 H_76 =>
  bindE (drawR false [t40_71.1, t42_75.1] (fun F => mSliceSl 100 t40_71.1 (some t42_75.1) none F) H_76) fun t43_77 H_78 =>
  bindE (drawR false [t36_63.1, t43_77.1] (fun F => mAppend 70 100 160 false t36_63.1 t43_77.1 F) H_78) fun t44_79 H_80 =>
  bindE (drawR true [t7_36] (fun F => mLoad true 100 t7_36 F) H_80) fun t45_81 H_82 =>
  bindE (drawR false [t45_81.1] (fun F => mBuildSl 70 100 (.agg [(.arr 32 .u8 (List.replicate 32 0)), (.agg [.nilsl, .nilsl, (.int .i64 0), (.int .u64 0), (.arr 32 .u8 (List.replicate 32 0)), (.arr 32 .u8 (List.replicate 32 0))])]) 1 [(0, t45_81.1)] F) H_82) fun t46_83 H_84 =>
  bindE (drawR false [t44_79.1, t46_83.1] (fun F => mAppend 70 100 160 false t44_79.1 t46_83.1 F) H_84) fun t47_85 H_86 =>
  bindE (drawR true [t29_49.1] (fun F => mNil t29_49.1 F) H_86) fun t48_87 H_88 =>
  bindE (drawR true [t48_87.1] (fun F => mFA 2 2 t48_87.1 F) H_88) fun t49_89 H_90 =>
  bindE (drawR false [t49_89.1, t47_85.1] (fun F => mStore false 1 t49_89.1 t47_85.1 F) H_90) fun u_91 H_92 =>
  some (([], [t29_49.2, t30_51.2, t31_53.2, t32_55.2, t33_57.2, t34_59.2, t35_61.2, t36_63.2, t37_65.2, t38_67.2, t39_69.2, t40_71.2, t41_73.2, t42_75.2, t43_77.2, t44_79.2, t45_81.2, t46_83.2, t47_85.2, t48_87.2, t49_89.2, u_91.2]), H_92)
noncomputable def p8_l0 (b : Bool) (cf : CallFn) (k : Nat) (s : List AV) (H : Heap) : Option (LStep × Heap) :=
  un s fun t0_18 vs_19 => un vs_19 fun t3_20 vs_21 => un vs_21 fun t4_22 vs_23 => un vs_23 fun t18_24 vs_25 => un vs_25 fun t19_26 vs_27 => un vs_27 fun t20_28 vs_29 => un0 vs_29 (bindE (mBin (cfg b) 3 false .lss t20_28 t19_26 H) fun t21_30 H_31 =>
  condR t21_30 (bindE (mIdxS 100 t18_24 t20_28 H_31) fun t23_32 H_33 =>
  bindE (mLoad true 100 t23_32 H_33) fun t24_34 H_35 =>
  bindE (mAlloc 70 (.agg [(.arr 32 .u8 (List.replicate 32 0)), (.agg [.nilsl, .nilsl, (.int .i64 0), (.int .u64 0), (.arr 32 .u8 (List.replicate 32 0)), (.arr 32 .u8 (List.replicate 32 0))])]) H_35) fun t7_36 H_37 =>
  bindE (mStore true 100 t7_36 t24_34 H_37) fun u_38 H_39 =>
  bindE (mFA 0 0 t7_36 H_39) fun t25_40 H_41 =>
  bindE (mLoad true 32 t25_40 H_41) fun t26_42 H_43 =>
  bindE (mLoad true 32 t3_20 H_43) fun t27_44 H_45 =>
  bindE (mBin (cfg b) 34 false .eql t26_42 t27_44 H_45) fun t28_46 H_47 =>
  condR t28_46 (afterD (twice [0, 0, 2, 6, 14, 0, 0, 126, 0, 256, 768, 1792, 0, 4096, 16128, 32766, 0, 65536, 262142, 524287, 1048575, 2097151] (p8_l0_d0 b cf t0_18 t20_28 t7_36) H_47) fun vs_93 H_94 =>
  un0 vs_93 (bindE (mFA 1 32 t7_36 H_94) fun t50_95 H_96 =>
  bindE (mLoad true 68 t50_95 H_96) fun t51_97 H_98 =>
  bindE (cf 22 [t51_97] H_98) fun t52_99 H_100 =>
  bindE (mStore true 68 t4_22 t52_99 H_100) fun u_101 H_102 =>
  some (LStep.ret [t0_18, t3_20, t4_22, (AV.c (.int .i64 0))], H_102))) (bindE (mBin (cfg b) 3 true .add t20_28 (AV.c (.int .i64 1)) H_47) fun t53_103 H_104 =>
  some (LStep.cont [t0_18, t3_20, t4_22, t18_24, t19_26, t53_103], H_104))) (some (LStep.exit 0 [t0_18, t3_20, t4_22, AV.any], H_31)))
/-- (*ferryman/cache.Cache).Node -/
noncomputable def p8_d0 (b : Bool) (cf : CallFn) (t0_107 t3_109 : AV) (H_115 : Heap) : Option ((List AV × List Trail) × Heap) :=
  bindE (drawM (some t0_107) H_115) fun t55_116 H_117 =>
  bindE (drawR true [t55_116.1] (fun F => mNil t55_116.1 F) H_117) fun t56_118 H_119 =>
  bindE (drawR true [t56_118.1] (fun F => mFA 0 0 t56_118.1 F) H_119) fun t57_120 H_121 =>
  bindE (drawR true [t57_120.1] (fun F => mLoad false 1 t57_120.1 F) H_121) fun t58_122 H_123 =>
  bindE (drawR true [t3_109] (fun F => mLoad true 32 t3_109 F) H_123) fun t59_124 H_125 =>
  bindE (drawR false [t58_122.1, t59_124.1] (fun F => cf 23 [t58_122.1, t59_124.1] F) H_125) fun t60_126 H_127 =>
  bindE (drawM (some t60_126.1) H_127) fun t54_128 H_129 =>
  bindE (drawR true [t54_128.1] (fun F => mExtract 0 t54_128.1 F) H_129) fun t61_130 H_131 =>
  bindE (drawR true [t54_128.1] (fun F => mExtract 1 t54_128.1 F) H_131) fun t62_132 H_133 =>
  bindE (drawM (some t61_130.1) H_133) fun t8_134 H_135 =>
  bindE (drawM (some t62_132.1) H_135) fun t9_136 H_137 =>
  some (([t8_134.1, t9_136.1], [t55_116.2, t56_118.2, t57_120.2, t58_122.2, t59_124.2, t60_126.2, t54_128.2, t61_130.2, t62_132.2, t8_134.2, t9_136.2]), H_137)
noncomputable def p8_d1 (b : Bool) (cf : CallFn) (t0_107 t3_109 t10_156 : AV) (H_166 : Heap) : Option ((List AV × List Trail) × Heap) :=
  bindE (drawM (some t0_107) H_166) fun t75_167 H_168 =>
  bindE (drawM (some t0_107) H_168) fun t76_169 H_170 =>
  bindE (drawR true [t76_169.1] (fun F => mNil t76_169.1 F) H_170) fun t77_171 H_172 =>
  bindE (drawR true [t77_171.1] (fun F => mFA 2 2 t77_171.1 F) H_172) fun t78_173 H_174 =>
  bindE (drawR true [t78_173.1] (fun F => mLoad false 1 t78_173.1 F) H_174) fun t79_175 H_176 =>
  bindE (drawR true [t3_109] (fun F => mLoad true 32 t3_109 F) H_176) fun t80_177 H_178 =>
  bindE (drawR true [t10_156] (fun F => mLoad true 68 t10_156 F) H_178) fun t81_179 H_180 =>
  bindE (drawR false [t80_177.1, t81_179.1] (fun F => mBuildS [(.arr 32 .u8 (List.replicate 32 0)), (.agg [.nilsl, .nilsl, (.int .i64 0), (.int .u64 0), (.arr 32 .u8 (List.replicate 32 0)), (.arr 32 .u8 (List.replicate 32 0))])] [(0, t80_177.1), (1, t81_179.1)] F) H_180) fun t82_181 H_182 =>
  bindE (drawR false [t82_181.1] (fun F => mBuildSl 70 100 (.agg [(.arr 32 .u8 (List.replicate 32 0)), (.agg [.nilsl, .nilsl, (.int .i64 0), (.int .u64 0), (.arr 32 .u8 (List.replicate 32 0)), (.arr 32 .u8 (List.replicate 32 0))])]) 1 [(0, t82_181.1)] F) H_182) fun t83_183 H_184 =>
  bindE (drawR false [t79_175.1, t83_183.1] (fun F => mAppend 70 100 160 false t79_175.1 t83_183.1 F) H_184) fun t84_185 H_186 =>
  bindE (drawR true [t75_167.1] (fun F => mNil t75_167.1 F) H_186) fun t85_187 H_188 =>
  bindE (drawR true [t85_187.1] (fun F => mFA 2 2 t85_187.1 F) H_188) fun t86_189 H_190 =>
  bindE (drawR false [t86_189.1, t84_185.1] (fun F => mStore false 1 t86_189.1 t84_185.1 F) H_190) fun u_191 H_192 =>
  some (([], [t75_167.2, t76_169.2, t77_171.2, t78_173.2, t79_175.2, t80_177.2, t81_179.2, t82_181.2, t83_183.2, t84_185.2, t85_187.2, t86_189.2, u_191.2]), H_192)
noncomputable def p8_d2 (b : Bool) (cf : CallFn) (t0_107 : AV) (H_195 : Heap) : Option ((List AV × List Trail) × Heap) :=
  bindE (drawM (some t0_107) H_195) fun t87_196 H_197 =>
  bindE (drawR true [t87_196.1] (fun F => mNil t87_196.1 F) H_197) fun t88_198 H_199 =>
  bindE (drawR true [t88_198.1] (fun F => mFA 2 2 t88_198.1 F) H_199) fun t89_200 H_201 =>
  bindE (drawR true [t89_200.1] (fun F => mLoad false 1 t89_200.1 F) H_201) fun t90_202 H_203 =>
  bindE (drawR true [t90_202.1] (fun F => mLenSl t90_202.1 F) H_203) fun t91_204 H_205 =>
  bindE (drawM (some t0_107) H_205) fun t92_206 H_207 =>
  bindE (drawR true [t92_206.1] (fun F => mNil t92_206.1 F) H_207) fun t93_208 H_209 =>
  bindE (drawR true [t93_208.1] (fun F => mFA 1 1 t93_208.1 F) H_209) fun t94_210 H_211 =>
  bindE (drawR true [t94_210.1] (fun F => mLoad false 1 t94_210.1 F) H_211) fun t95_212 H_213 =>
  bindE (drawR true [t91_204.1, t95_212.1] (fun F => mBin (cfg b) 3 false .gtr t91_204.1 t95_212.1 F) H_213) fun t96_214 H_215 =>
  some (([t96_214.1], [t87_196.2, t88_198.2, t89_200.2, t90_202.2, t91_204.2, t92_206.2, t93_208.2, t94_210.2, t95_212.2, t96_214.2]), H_215)
noncomputable def p8 (b : Bool) (cf : CallFn) (k : Nat) (t0 t1 : AV) (H : Heap) : Option (AV × Heap) :=
  bindE (mBox 34 t1 H) fun t3_0 H_1 =>
  bindE (mAlloc 38 (.agg [.nilsl, .nilsl, (.int .i64 0), (.int .u64 0), (.arr 32 .u8 (List.replicate 32 0)), (.arr 32 .u8 (List.replicate 32 0))]) H_1) fun t4_2 H_3 =>
  bindE (mBin (cfg b) 27 true .eql t0 (AV.c .nilp) H_3) fun t13_4 H_5 =>
  condR t13_4 (bindE (mBuildS [.nilsl, .nilsl, (.int .i64 0), (.int .u64 0), (.arr 32 .u8 (List.replicate 32 0)), (.arr 32 .u8 (List.replicate 32 0))] [] H_5) fun t14_6 H_7 =>
  bindE (mStore true 68 t4_2 t14_6 H_7) fun u_8 H_9 =>
  endQ (cfg b) false k (resC1 (mld true 68 H_9 t4_2) (resC1 (some (AV.c (.int .i64 1))) (some []))) H_9) (bindE (mNil t0 H_5) fun t16_10 H_11 =>
  bindE (mFA 2 2 t16_10 H_11) fun t17_12 H_13 =>
  bindE (mLoad false 1 t17_12 H_13) fun t18_14 H_15 =>
  bindE (mLenSl t18_14 H_15) fun t19_16 H_17 =>
  afterL 0 (loopX k (p8_l0 b cf k) [t0, t3_0, t4_2, t18_14, t19_16, (AV.c (.int .i64 0))] H_17) (fun vs_105 H_106 =>
  un vs_105 fun t0_107 vs_108 => un vs_108 fun t3_109 vs_110 => un vs_110 fun t4_111 vs_112 => un vs_112 fun t5_113 vs_114 => un0 vs_114 (afterD (twice [0, 1, 3, 7, 0, 31, 63, 127, 127, 255, 1023] (p8_d0 b cf t0_107 t3_109) H_106) fun vs_138 H_139 =>
  un vs_138 fun t8_140 vs_141 => un vs_141 fun t9_142 vs_143 => un0 vs_143 (bindE (mUn .not t9_142 H_139) fun t64_144 H_145 =>
  condR t64_144 (bindE (mBuildS [.nilsl, .nilsl, (.int .i64 0), (.int .u64 0), (.arr 32 .u8 (List.replicate 32 0)), (.arr 32 .u8 (List.replicate 32 0))] [] H_145) fun t65_146 H_147 =>
  bindE (mStore true 68 t4_111 t65_146 H_147) fun u_148 H_149 =>
  endQ (cfg b) false k (resC1 (mld true 68 H_149 t4_111) (resC1 (some (AV.c (.int .i64 11))) (some []))) H_149) (bindE (cf 24 [t8_140] H_145) fun t68_150 H_151 =>
  bindE (mExtract 0 t68_150 H_151) fun t69_152 H_153 =>
  bindE (mExtract 1 t68_150 H_153) fun t70_154 H_155 =>
  bindE (mAlloc 38 (.agg [.nilsl, .nilsl, (.int .i64 0), (.int .u64 0), (.arr 32 .u8 (List.replicate 32 0)), (.arr 32 .u8 (List.replicate 32 0))]) H_155) fun t10_156 H_157 =>
  bindE (mStore true 68 t10_156 t69_152 H_157) fun u_158 H_159 =>
  bindE (mBin (cfg b) 28 true .neq t70_154 (AV.c (.int .i64 0)) H_159) fun t72_160 H_161 =>
  condR t72_160 (bindE (mBuildS [.nilsl, .nilsl, (.int .i64 0), (.int .u64 0), (.arr 32 .u8 (List.replicate 32 0)), (.arr 32 .u8 (List.replicate 32 0))] [] H_161) fun t73_162 H_163 =>
  bindE (mStore true 68 t4_111 t73_162 H_163) fun u_164 H_165 =>
  endQ (cfg b) false k (resC1 (mld true 68 H_165 t4_111) (resC1 (some t70_154) (some []))) H_165) (afterD (twice [0, 0, 2, 6, 14, 0, 0, 96, 224, 510, 1023, 2047, 4095] (p8_d1 b cf t0_107 t3_109 t10_156) H_161) fun vs_193 H_194 =>
  un0 vs_193 (afterD (twice [0, 1, 3, 7, 15, 0, 32, 96, 224, 511] (p8_d2 b cf t0_107) H_194) fun vs_216 H_217 =>
  un vs_216 fun t96_218 vs_219 => un0 vs_219 (condR t96_218 (bindE (mBuildSl 70 100 (.agg [(.arr 32 .u8 (List.replicate 32 0)), (.agg [.nilsl, .nilsl, (.int .i64 0), (.int .u64 0), (.arr 32 .u8 (List.replicate 32 0)), (.arr 32 .u8 (List.replicate 32 0))])]) 0 [] H_217) fun t98_220 H_221 =>
  bindE (mNil t0_107 H_221) fun t100_222 H_223 =>
  bindE (mFA 2 2 t100_222 H_223) fun t101_224 H_225 =>
  bindE (mLoad false 1 t101_224 H_225) fun t102_226 H_227 =>
  bindE (mSliceSl 100 t102_226 (some (AV.c (.int .i64 1))) none H_227) fun t103_228 H_229 =>
  bindE (mAppend 70 100 160 false t98_220 t103_228 H_229) fun t104_230 H_231 =>
  bindE (mNil t0_107 H_231) fun t105_232 H_233 =>
  bindE (mFA 2 2 t105_232 H_233) fun t106_234 H_235 =>
  bindE (mStore false 1 t106_234 t104_230 H_235) fun u_236 H_237 =>
  bindE (mLoad true 68 t10_156 H_237) fun t107_238 H_239 =>
  bindE (cf 22 [t107_238] H_239) fun t108_240 H_241 =>
  bindE (mStore true 68 t4_111 t108_240 H_241) fun u_242 H_243 =>
  endQ (cfg b) false k (resC1 (mld true 68 H_243 t4_111) (resC1 (some (AV.c (.int .i64 0))) (some []))) H_243) (bindE (mLoad true 68 t10_156 H_217) fun t107_244 H_245 =>
  bindE (cf 22 [t107_244] H_245) fun t108_246 H_247 =>
  bindE (mStore true 68 t4_111 t108_246 H_247) fun u_248 H_249 =>
  endQ (cfg b) false k (resC1 (mld true 68 H_249 t4_111) (resC1 (some (AV.c (.int .i64 0))) (some []))) H_249)))))))) (fun vs_105 H_106 => un vs_105 fun t0_250 vs_251 => un vs_251 fun t3_252 vs_253 => un vs_253 fun t4_254 vs_255 => un vs_255 fun t5_256 vs_257 => un0 vs_257 (endQ (cfg b) false k (resC1 (mld true 68 H_106 t4_254) (resC1 (some t5_256) (some []))) H_106)))
noncomputable def p9_l0 (b : Bool) (cf : CallFn) (k : Nat) (s : List AV) (H : Heap) : Option (LStep × Heap) :=
  un s fun t3_10 vs_11 => un vs_11 fun t11_12 vs_13 => un vs_13 fun t12_14 vs_15 => un vs_15 fun t13_16 vs_17 => un0 vs_17 (bindE (mBin (cfg b) 3 false .lss t13_16 t12_14 H) fun t14_18 H_19 =>
  condR t14_18 (bindE (mIdxS 100 t11_12 t13_16 H_19) fun t15_20 H_21 =>
  bindE (mLoad true 100 t15_20 H_21) fun t16_22 H_23 =>
  bindE (mAlloc 70 (.agg [(.arr 32 .u8 (List.replicate 32 0)), (.agg [.nilsl, .nilsl, (.int .i64 0), (.int .u64 0), (.arr 32 .u8 (List.replicate 32 0)), (.arr 32 .u8 (List.replicate 32 0))])]) H_23) fun t5_24 H_25 =>
  bindE (mStore true 100 t5_24 t16_22 H_25) fun u_26 H_27 =>
  bindE (mFA 0 0 t5_24 H_27) fun t18_28 H_29 =>
  bindE (mLoad true 32 t18_28 H_29) fun t19_30 H_31 =>
  bindE (mBuildSl 34 32 (.arr 32 .u8 (List.replicate 32 0)) 1 [(0, t19_30)] H_31) fun t20_32 H_33 =>
  bindE (mAppend 34 32 32 false t3_10 t20_32 H_33) fun t21_34 H_35 =>
  bindE (mBin (cfg b) 3 true .add t13_16 (AV.c (.int .i64 1)) H_35) fun t22_36 H_37 =>
  some (LStep.cont [t21_34, t11_12, t12_14, t22_36], H_37)) (some (LStep.exit 0 [t3_10], H_19)))
/-- (*ferryman/cache.Cache).List -/
noncomputable def p9 (b : Bool) (cf : CallFn) (k : Nat) (t0 : AV) (H : Heap) : Option (AV × Heap) :=
  bindE (mBin (cfg b) 27 true .eql t0 (AV.c .nilp) H) fun t7_0 H_1 =>
  condR t7_0 (endQ (cfg b) false k (resC1 (some (AV.c .nilsl)) (some [])) H_1) (bindE (mNil t0 H_1) fun t9_2 H_3 =>
  bindE (mFA 2 2 t9_2 H_3) fun t10_4 H_5 =>
  bindE (mLoad false 1 t10_4 H_5) fun t11_6 H_7 =>
  bindE (mLenSl t11_6 H_7) fun t12_8 H_9 =>
  afterL 0 (loopX k (p9_l0 b cf k) [(AV.c .nilsl), t11_6, t12_8, (AV.c (.int .i64 0))] H_9) (fun vs_38 H_39 =>
  un vs_38 fun t3_40 vs_41 => un0 vs_41 (endQ (cfg b) false k (resC1 (some t3_40) (some [])) H_39)) (fun vs_38 H_39 => un vs_38 fun t3_42 vs_43 => un0 vs_43 (endQ (cfg b) false k (resC1 (some AV.any) (some [])) H_39)))
/-- ferryman/cache.New -/
noncomputable def p15 (b : Bool) (cf : CallFn) (k : Nat) (t0 t1 : AV) (H : Heap) : Option (AV × Heap) :=
  bindE (mBin (cfg b) 26 true .eql t0 (AV.c .nilp) H) fun t8_0 H_1 =>
  condR t8_0 (endQ (cfg b) false k (resC1 (some (AV.c .nilp)) (resC1 (some (AV.c (.int .i64 1))) (some []))) H_1) (bindE (mBin (cfg b) 3 true .lss t1 (AV.c (.int .i64 1)) H_1) fun t11_2 H_3 =>
  bindE (guardR (wantR false t11_2) (some (t1, H_3)) H_3) fun t13_4 H_5 =>
  bindE (guardR (wantR false t11_2) (mBin (cfg b) 3 true .gtr t13_4 (AV.c (.int .i64 4096)) H_5) H_5) fun t14_6 H_7 =>
  bindE (mPick t11_2 (AV.c (.bool true)) t14_6 H_7) fun t15_8 H_9 =>
  condR t15_8 (endQ (cfg b) false k (resC1 (some (AV.c .nilp)) (resC1 (some (AV.c (.int .i64 2))) (some []))) H_9) (bindE (mBuildS [.nilp, (.int .i64 0), .nilsl] [(0, t0), (1, t1)] H_9) fun t18_10 H_11 =>
  bindE (mBox 68 t18_10 H_11) fun t19_12 H_13 =>
  endQ (cfg b) false k (resC1 (some t19_12) (resC1 (some (AV.c (.int .i64 0))) (some []))) H_13))
noncomputable def p16_l0 (b : Bool) (cf : CallFn) (k : Nat) (s : List AV) (H : Heap) : Option (LStep × Heap) :=
  un s fun t0_15 vs_16 => un vs_16 fun t2_17 vs_18 => un vs_18 fun t4_19 vs_20 => un0 vs_20 (bindE (mLoad true 32 t4_19 H) fun t18_21 H_22 =>
  bindE (cf 8 [t0_15, t18_21] H_22) fun t19_23 H_24 =>
  bindE (mExtract 0 t19_23 H_24) fun t20_25 H_26 =>
  bindE (mExtract 1 t19_23 H_26) fun t21_27 H_28 =>
  bindE (mAlloc 38 (.agg [.nilsl, .nilsl, (.int .i64 0), (.int .u64 0), (.arr 32 .u8 (List.replicate 32 0)), (.arr 32 .u8 (List.replicate 32 0))]) H_28) fun t9_29 H_30 =>
  bindE (mStore true 68 t9_29 t20_25 H_30) fun u_31 H_32 =>
  bindE (mBin (cfg b) 28 true .neq t21_27 (AV.c (.int .i64 0)) H_32) fun t26_33 H_34 =>
  condR t26_33 (some (LStep.ret [(AV.c .nilsl), (AV.c (.bool false)), t21_27], H_34)) (bindE (mFA 2 2 t9_29 H_34) fun t29_35 H_36 =>
  bindE (mLoad false 1 t29_35 H_36) fun t30_37 H_38 =>
  bindE (mBin (cfg b) 3 true .eql t30_37 (AV.c (.int .i64 0)) H_38) fun t31_39 H_40 =>
  bindE (guardR (wantR true t31_39) (mFA 0 0 t9_29 H_40) H_40) fun t33_41 H_42 =>
  bindE (guardR (wantR true t31_39) (mLoad false 1 t33_41 H_42) H_42) fun t34_43 H_44 =>
  bindE (guardR (wantR true t31_39) (some (t2_17, H_44)) H_44) fun t35_45 H_46 =>
  bindE (guardR (wantR true t31_39) (cf 30 [t34_43, t35_45] H_46) H_46) fun t36_47 H_48 =>
  bindE (mPick t31_39 t36_47 (AV.c (.bool false)) H_48) fun t37_49 H_50 =>
  condR t37_49 (bindE (mFA 1 1 t9_29 H_50) fun t38_51 H_52 =>
  bindE (mLoad false 1 t38_51 H_52) fun t39_53 H_54 =>
  some (LStep.ret [t39_53, (AV.c (.bool true)), (AV.c (.int .i64 0))], H_54)) (bindE (mFA 2 2 t9_29 H_50) fun t41_55 H_56 =>
  bindE (mLoad false 1 t41_55 H_56) fun t42_57 H_58 =>
  bindE (mBin (cfg b) 3 true .eql t42_57 (AV.c (.int .i64 0)) H_58) fun t43_59 H_60 =>
  condR t43_59 (some (LStep.ret [(AV.c .nilsl), (AV.c (.bool false)), (AV.c (.int .i64 0))], H_60)) (bindE (mFA 0 0 t9_29 H_60) fun t46_61 H_62 =>
  bindE (mLoad false 1 t46_61 H_62) fun t47_63 H_64 =>
  bindE (cf 31 [t2_17, t47_63] H_64) fun t48_65 H_66 =>
  bindE (mBin (cfg b) 3 true .lss t48_65 (AV.c (.int .i64 0)) H_66) fun t49_67 H_68 =>
  condR t49_67 (bindE (mFA 4 4 t9_29 H_68) fun t50_69 H_70 =>
  bindE (mLoad true 32 t50_69 H_70) fun t51_71 H_72 =>
  bindE (mStore true 32 t4_19 t51_71 H_72) fun u_73 H_74 =>
  some (LStep.cont [t0_15, t2_17, t4_19], H_74)) (bindE (mFA 5 36 t9_29 H_68) fun t22_75 H_76 =>
  bindE (mLoad true 32 t22_75 H_76) fun t23_77 H_78 =>
  bindE (mStore true 32 t4_19 t23_77 H_78) fun u_79 H_80 =>
  some (LStep.cont [t0_15, t2_17, t4_19], H_80))))))
/-- (*ferryman/cache.Cache).Get -/
noncomputable def p16_d0 (b : Bool) (cf : CallFn) (t4_0 : AV) (H_4 : Heap) : Option ((List AV × List Trail) × Heap) :=
  bindE (drawR true [t4_0] (fun F => mLoad true 32 t4_0 F) H_4) fun t13_5 H_6 =>
  bindE (drawR false [] (fun F => cf 29 [] F) H_6) fun t14_7 H_8 =>
  bindE (drawR true [t13_5.1, t14_7.1] (fun F => mBin (cfg b) 34 false .eql t13_5.1 t14_7.1 F) H_8) fun t15_9 H_10 =>
  some (([t15_9.1], [t13_5.2, t14_7.2, t15_9.2]), H_10)
noncomputable def p16 (b : Bool) (cf : CallFn) (k : Nat) (t0 t1 t2 : AV) (H : Heap) : Option (AV × Heap) :=
  bindE (mBox 34 t1 H) fun t4_0 H_1 =>
  bindE (mBin (cfg b) 27 true .eql t0 (AV.c .nilp) H_1) fun t12_2 H_3 =>
  condR t12_2 (endQ (cfg b) false k (resC1 (some (AV.c .nilsl)) (resC1 (some (AV.c (.bool false))) (resC1 (some (AV.c (.int .i64 1))) (some [])))) H_3) (afterD (twice [0, 0, 3] (p16_d0 b cf t4_0) H_3) fun vs_11 H_12 =>
  un vs_11 fun t15_13 vs_14 => un0 vs_14 (condR t15_13 (endQ (cfg b) false k (resC1 (some (AV.c .nilsl)) (resC1 (some (AV.c (.bool false))) (resC1 (some (AV.c (.int .i64 0))) (some [])))) H_12) (afterL 0 (loopX k (p16_l0 b cf k) [t0, t2, t4_0] H_12) (fun vs_81 H_82 =>
  un vs_81 fun t6_83 vs_84 => un vs_84 fun t7_85 vs_86 => un vs_86 fun t8_87 vs_88 => un0 vs_88 (endQ (cfg b) false k (resC1 (some t6_83) (resC1 (some t7_85) (resC1 (some t8_87) (some [])))) H_82)) (fun vs_81 H_82 => un vs_81 fun t6_89 vs_90 => un vs_90 fun t7_91 vs_92 => un vs_92 fun t8_93 vs_94 => un0 vs_94 (endQ (cfg b) false k (resC1 (some t6_89) (resC1 (some t7_91) (resC1 (some t8_93) (some [])))) H_82)))))
/-- ferryman/cache.copied -/
noncomputable def p22_d0 (b : Bool) (cf : CallFn) (t1_0 : AV) (H_4 : Heap) : Option ((List AV × List Trail) × Heap) :=
  bindE (drawR true [t1_0] (fun F => mFA 0 0 t1_0 F) H_4) fun t3_5 H_6 =>
  bindE (drawR true [t3_5.1] (fun F => mLoad false 1 t3_5.1 F) H_6) fun t4_7 H_8 =>
  bindE (drawR false [t4_7.1] (fun F => cf 38 [t4_7.1] F) H_8) fun t5_9 H_10 =>
  bindE (drawR true [t1_0] (fun F => mFA 1 1 t1_0 F) H_10) fun t6_11 H_12 =>
  bindE (drawR true [t6_11.1] (fun F => mLoad false 1 t6_11.1 F) H_12) fun t7_13 H_14 =>
  bindE (drawR false [t7_13.1] (fun F => cf 38 [t7_13.1] F) H_14) fun t8_15 H_16 =>
  bindE (drawR true [t1_0] (fun F => mFA 0 0 t1_0 F) H_16) fun t9_17 H_18 =>
  bindE (drawR false [t9_17.1, t5_9.1] (fun F => mStore false 1 t9_17.1 t5_9.1 F) H_18) fun u_19 H_20 =>
  bindE (drawR true [t1_0] (fun F => mFA 1 1 t1_0 F) H_20) fun t10_21 H_22 =>
  bindE (drawR false [t10_21.1, t8_15.1] (fun F => mStore false 1 t10_21.1 t8_15.1 F) H_22) fun u_23 H_24 =>
  some (([], [t3_5.2, t4_7.2, t5_9.2, t6_11.2, t7_13.2, t8_15.2, t9_17.2, u_19.2, t10_21.2, u_23.2]), H_24)
noncomputable def p22 (b : Bool) (cf : CallFn) (k : Nat) (t0 : AV) (H : Heap) : Option (AV × Heap) :=
  bindE (mBox 38 t0 H) fun t1_0 H_1 =>
  bindE (mAlloc 38 (.agg [.nilsl, .nilsl, (.int .i64 0), (.int .u64 0), (.arr 32 .u8 (List.replicate 32 0)), (.arr 32 .u8 (List.replicate 32 0))]) H_1) fun t2_2 H_3 =>
  afterD (twice [0, 1, 3, 0, 8, 31, 31, 127, 255, 511] (p22_d0 b cf t1_0) H_3) fun vs_25 H_26 =>
  un0 vs_25 (bindE (mLoad true 68 t1_0 H_26) fun t11_27 H_28 =>
  bindE (mStore true 68 t2_2 t11_27 H_28) fun u_29 H_30 =>
  endQ (cfg b) false k (resC1 (mld true 68 H_30 t2_2) (some [])) H_30)
theorem p8_eq (b : Bool) (cf : CallFn) (t0 t1 : AV) (H : Heap) : runG (cfg b) cf An 8 [t0, t1] H = p8 b cf H.length t0 t1 H := by kernel_rfl
theorem p9_eq (b : Bool) (cf : CallFn) (t0 : AV) (H : Heap) : runG (cfg b) cf An 9 [t0] H = p9 b cf H.length t0 H := by kernel_rfl
theorem p15_eq (b : Bool) (cf : CallFn) (t0 t1 : AV) (H : Heap) : runG (cfg b) cf An 15 [t0, t1] H = p15 b cf H.length t0 t1 H := by kernel_rfl
theorem p16_eq (b : Bool) (cf : CallFn) (t0 t1 t2 : AV) (H : Heap) : runG (cfg b) cf An 16 [t0, t1, t2] H = p16 b cf H.length t0 t1 t2 H := by kernel_rfl
theorem p22_eq (b : Bool) (cf : CallFn) (t0 : AV) (H : Heap) : runG (cfg b) cf An 22 [t0] H = p22 b cf H.length t0 H := by kernel_rfl
end Go.Fm
