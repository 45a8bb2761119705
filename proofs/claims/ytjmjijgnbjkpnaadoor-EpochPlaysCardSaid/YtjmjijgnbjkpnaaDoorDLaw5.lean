/-
  A part of the proof: DLaw5.
-/
import Derived.Test.YtjmjijgnbjkpnaaDoorDAnn
set_option linter.all false
set_option autoImplicit true
/-
  What the interpreter does to functions, without slots and types; the kernel holds it against the code.
-/
set_option maxRecDepth 100000
set_option linter.unusedVariables false
namespace Go.Fm
open Go Go.Proofs

noncomputable def p5_l0 (b : Bool) (cf : CallFn) (k : Nat) (s : List AV) (H : Heap) : Option (LStep × Heap) :=
  un s fun t0_30 vs_31 => un vs_31 fun t5_32 vs_33 => un vs_33 fun t6_34 vs_35 => un vs_35 fun t7_36 vs_37 => un vs_37 fun t8_38 vs_39 => un vs_39 fun t41_40 vs_41 => un vs_41 fun t42_42 vs_43 => un vs_43 fun t43_44 vs_45 => un0 vs_45 (bindE (mBin (cfg b) 3 false .lss t43_44 t42_42 H) fun t44_46 H_47 =>
  condR t44_46 (bindE (mIdxS 4 t41_40 t43_44 H_47) fun t46_48 H_49 =>
  bindE (mLoad true 4 t46_48 H_49) fun t47_50 H_51 =>
  bindE (mAlloc 48 (.agg [(.int .u8 0), (.int .u8 0), .nilsl, .nilsl]) H_51) fun t10_52 H_53 =>
  bindE (mStore true 4 t10_52 t47_50 H_53) fun u_54 H_55 =>
  bindE (mBin (cfg b) 3 true .gtr t43_44 (AV.c (.int .i64 80)) H_55) fun t49_56 H_57 =>
  bindE (guardR (wantR false t49_56) (mLoad true 4 t10_52 H_57) H_57) fun t51_58 H_59 =>
  bindE (guardR (wantR false t49_56) (cf 35 [t51_58] H_59) H_59) fun t52_60 H_61 =>
  bindE (guardR (wantR false t49_56) (mLenSl t52_60 H_61) H_61) fun t53_62 H_63 =>
  bindE (guardR (wantR false t49_56) (mBin (cfg b) 3 true .gtr t53_62 (AV.c (.int .i64 90)) H_63) H_63) fun t54_64 H_65 =>
  bindE (mPick t49_56 (AV.c (.bool true)) t54_64 H_65) fun t55_66 H_67 =>
  condR t55_66 (some (LStep.exit 0 [t0_30, AV.any, t5_32, t6_34, t8_38], H_67)) (afterD (twice [0, 0, 2, 0, 8, 0, 32, 96, 224, 504, 1023, 2047, 4095, 4095, 8191] (fun H_68 => bindE (drawR true [t7_36] (fun F => some (t7_36, F)) H_68) fun t57_69 H_70 =>
  bindE (drawR true [t10_52] (fun F => mLoad true 4 t10_52 F) H_70) fun t58_71 H_72 =>
  bindE (drawR false [t58_71.1] (fun F => cf 35 [t58_71.1] F) H_72) fun t59_73 H_74 =>
  bindE (drawR true [t10_52] (fun F => mFA 3 3 t10_52 F) H_74) fun t60_75 H_76 =>
  bindE (drawR true [t60_75.1] (fun F => mLoad false 1 t60_75.1 F) H_76) fun t61_77 H_78 =>
  bindE (drawR true [t10_52] (fun F => mFA 3 3 t10_52 F) H_78) fun t62_79 H_80 =>
  bindE (drawR true [t62_79.1] (fun F => mLoad false 1 t62_79.1 F) H_80) fun t63_81 H_82 =>
  bindE (drawR true [t63_81.1] (fun F => mLenSl t63_81.1 F) H_82) fun t64_83 H_84 =>
  bindE (drawR true [t64_83.1] (fun F => mMin [t64_83.1, (AV.c (.int .i64 50))] F) H_84) fun t65_85 H_86 =>
  bindE (drawR false [t61_77.1, t65_85.1] (fun F => mSliceSl 1 t61_77.1 none (some t65_85.1) F) H_86) fun t66_87 H_88 =>
  bindE (drawR false [t57_69.1, t59_73.1, t66_87.1] (fun F => cf 36 [t57_69.1, t59_73.1, t66_87.1] F) H_88) fun t67_89 H_90 =>
  bindE (drawR true [t67_89.1] (fun F => some (t67_89.1, F)) H_90) fun t56_91 H_92 =>
  bindE (drawR true [t56_91.1] (fun F => mExtract 0 t56_91.1 F) H_92) fun t68_93 H_94 =>
  bindE (drawR true [t56_91.1] (fun F => mExtract 1 t56_91.1 F) H_94) fun t69_95 H_96 =>
  bindE (drawR true [t68_93.1] (fun F => some (t68_93.1, F)) H_96) fun t7_97 H_98 =>
  some (([t7_97.1], [t57_69.2, t58_71.2, t59_73.2, t60_75.2, t61_77.2, t62_79.2, t63_81.2, t64_83.2, t65_85.2, t66_87.2, t67_89.2, t56_91.2, t68_93.2, t69_95.2, t7_97.2]), H_98)) H_67) fun vs_99 H_100 =>
  un vs_99 fun t7_101 vs_102 => un0 vs_102 (bindE (cf 25 [t5_32, t7_101] H_100) fun t73_103 H_104 =>
  bindE (mExtract 0 t73_103 H_104) fun t74_105 H_106 =>
  bindE (mExtract 1 t73_103 H_106) fun t75_107 H_108 =>
  bindE (cf 37 [t7_101] H_108) fun t78_109 H_110 =>
  bindE (mBuildSl 41 32 (.arr 32 .u8 (List.replicate 32 0)) 1 [(0, t78_109)] H_110) fun t79_111 H_112 =>
  bindE (mAppend 41 32 32 false t8_38 t79_111 H_112) fun t80_113 H_114 =>
  bindE (mBin (cfg b) 25 true .neq t75_107 (AV.c (.int .i64 0)) H_114) fun t82_115 H_116 =>
  bindE (guardR (wantR false t82_115) (some (t74_105, H_116)) H_116) fun t84_117 H_118 =>
  bindE (guardR (wantR false t82_115) (some (t80_113, H_118)) H_118) fun t85_119 H_120 =>
  bindE (guardR (wantR false t82_115) (mLenSl t85_119 H_120) H_120) fun t86_121 H_122 =>
  bindE (guardR (wantR false t82_115) (mConvI .u64 t86_121 H_122) H_122) fun t87_123 H_124 =>
  bindE (guardR (wantR false t82_115) (mBin (cfg b) 22 false .neq t84_117 t87_123 H_124) H_124) fun t88_125 H_126 =>
  bindE (mPick t82_115 (AV.c (.bool true)) t88_125 H_126) fun t89_127 H_128 =>
  bindE (guardR (wantR false t89_127) (some (t5_32, H_128)) H_128) fun t91_129 H_130 =>
  bindE (guardR (wantR false t89_127) (cf 29 [t91_129] H_130) H_130) fun t92_131 H_132 =>
  bindE (guardR (wantR false t89_127) (some (t74_105, H_132)) H_132) fun t93_133 H_134 =>
  bindE (guardR (wantR false t89_127) (mBin (cfg b) 22 false .neq t92_131 t93_133 H_134) H_134) fun t94_135 H_136 =>
  bindE (mPick t89_127 (AV.c (.bool true)) t94_135 H_136) fun t95_137 H_138 =>
  condR t95_137 (some (LStep.ret [t0_30, (AV.c (.bool false)), t5_32, t6_34, t80_113], H_138)) (bindE (mBin (cfg b) 3 true .add t43_44 (AV.c (.int .i64 1)) H_138) fun t96_139 H_140 =>
  some (LStep.cont [t0_30, t5_32, t6_34, t7_101, t80_113, t41_40, t42_42, t96_139], H_140))))) (some (LStep.exit 0 [t0_30, AV.any, t5_32, t6_34, t8_38], H_47)))
noncomputable def p5_l2 (b : Bool) (cf : CallFn) (k : Nat) (s : List AV) (H : Heap) : Option (LStep × Heap) :=
  un s fun t5_173 vs_174 => un vs_174 fun t6_175 vs_176 => un vs_176 fun t8_177 vs_178 => un vs_178 fun t13_179 vs_180 => un vs_180 fun t14_181 vs_182 => un vs_182 fun t113_183 vs_184 => un vs_184 fun t114_185 vs_186 => un0 vs_186 (bindE (mBin (cfg b) 3 false .lss t114_185 t113_183 H) fun t115_187 H_188 =>
  condR t115_187 (bindE (mConvI .u64 t114_185 H_188) fun t120_189 H_190 =>
  bindE (cf 27 [t5_173, t120_189] H_190) fun t121_191 H_192 =>
  bindE (mExtract 0 t121_191 H_192) fun t122_193 H_194 =>
  bindE (mExtract 1 t121_191 H_194) fun t123_195 H_196 =>
  bindE (mBin (cfg b) 3 false .gtr t114_185 t13_179 H_196) fun t126_197 H_198 =>
  bindE (guardR (wantR true t126_197) (some (t114_185, H_198)) H_198) fun t128_199 H_200 =>
  bindE (guardR (wantR true t126_197) (some (t8_177, H_200)) H_200) fun t129_201 H_202 =>
  bindE (guardR (wantR true t126_197) (mLenSl t129_201 H_202) H_202) fun t130_203 H_204 =>
  bindE (guardR (wantR true t126_197) (mBin (cfg b) 3 false .leq t128_199 t130_203 H_204) H_204) fun t131_205 H_206 =>
  bindE (mPick t126_197 t131_205 (AV.c (.bool false)) H_206) fun t132_207 H_208 =>
  afterD (twice [0, 1, 0, 7, 15, 31, 63, 127, 255, 511, 1023, 2047, 4095, 8191, 16383, 32767, 65535, 131071, 262143, 524287, 1048575, 524287, 524287, 4718591, 15204351, 31981567, 67108863, 134217727, 268435455, 268435455, 805306367, 268435455, 4026531839, 8589934591, 17179869183, 268435455, 268435455, 68987912191, 240786604031, 515664510975, 1099511627775, 2199023255551, 4398046511103, 8796093022207] (fun H_209 => bindE (drawR true [t123_195] (fun F => some (t123_195, F)) H_209) fun t133_210 H_211 =>
  bindE (drawR true [t133_210.1] (fun F => mBin (cfg b) 25 true .eql t133_210.1 (AV.c (.int .i64 0)) F) H_211) fun t134_212 H_213 =>
  bindE (drawR true [t132_207] (fun F => some (t132_207, F)) H_213) fun t135_214 H_215 =>
  bindE (drawR true [t134_212.1, t135_214.1] (fun F => mBin (cfg b) 4 false .neq t134_212.1 t135_214.1 F) H_215) fun t136_216 H_217 =>
  bindE (drawR true [t136_216.1] (fun F => some (t136_216.1, F)) H_217) fun t137_218 H_219 =>
  bindE (guardD (wantR false t137_218.1) (drawR true [t132_207] (fun F => some (t132_207, F)) H_219) H_219) fun t138_220 H_221 =>
  bindE (guardD (wantR false t137_218.1) (drawR true [t138_220.1] (fun F => mUn .not t138_220.1 F) H_221) H_221) fun t139_222 H_223 =>
  bindE (guardD (wantR false t137_218.1) (drawR true [t139_222.1] (fun F => some (t139_222.1, F)) H_223) H_223) fun t140_224 H_225 =>
  bindE (guardD (wantR true t140_224.1) (drawR true [t123_195] (fun F => some (t123_195, F)) H_225) H_225) fun t141_226 H_227 =>
  bindE (guardD (wantR true t140_224.1) (drawR true [t141_226.1] (fun F => mBin (cfg b) 25 true .neq t141_226.1 (AV.c (.int .i64 11)) F) H_227) H_227) fun t142_228 H_229 =>
  bindE (guardD (wantR true t140_224.1) (drawR true [t142_228.1] (fun F => some (t142_228.1, F)) H_229) H_229) fun t143_230 H_231 =>
  bindE (guardD (wantR false t143_230.1) (drawR true [t122_193] (fun F => some (t122_193, F)) H_231) H_231) fun t144_232 H_233 =>
  bindE (guardD (wantR false t143_230.1) (drawR true [t144_232.1] (fun F => mBin (cfg b) 28 true .neq t144_232.1 (AV.c .nilp) F) H_233) H_233) fun t145_234 H_235 =>
  bindE (guardD (wantR true t140_224.1) (drawR true [t143_230.1, t145_234.1] (fun F => mPick t143_230.1 (AV.c (.bool true)) t145_234.1 F) H_235) H_235) fun t146_236 H_237 =>
  bindE (guardD (wantR false t137_218.1) (drawR true [t140_224.1, t146_236.1] (fun F => mPick t140_224.1 t146_236.1 (AV.c (.bool false)) F) H_237) H_237) fun t147_238 H_239 =>
  bindE (drawR true [t137_218.1, t147_238.1] (fun F => mPick t137_218.1 (AV.c (.bool true)) t147_238.1 F) H_239) fun t148_240 H_241 =>
  bindE (drawR true [t148_240.1] (fun F => some (t148_240.1, F)) H_241) fun t149_242 H_243 =>
  bindE (guardD (wantR false t149_242.1) (drawR true [t132_207] (fun F => some (t132_207, F)) H_243) H_243) fun t150_244 H_245 =>
  bindE (guardD (wantR false t149_242.1) (drawR true [t150_244.1] (fun F => some (t150_244.1, F)) H_245) H_245) fun t151_246 H_247 =>
  bindE (guardD (wantR true t151_246.1) (drawR true [t122_193] (fun F => some (t122_193, F)) H_247) H_247) fun t152_248 H_249 =>
  bindE (guardD (wantR true t151_246.1) (drawR false [t152_248.1] (fun F => cf 37 [t152_248.1] F) H_249) H_249) fun t153_250 H_251 =>
  bindE (guardD (wantR true t151_246.1) (drawR true [t8_177] (fun F => some (t8_177, F)) H_251) H_251) fun t154_252 H_253 =>
  bindE (guardD (wantR true t151_246.1) (drawR true [t114_185] (fun F => some (t114_185, F)) H_253) H_253) fun t155_254 H_255 =>
  bindE (guardD (wantR true t151_246.1) (drawR true [t155_254.1] (fun F => mBin (cfg b) 3 true .sub t155_254.1 (AV.c (.int .i64 1)) F) H_255) H_255) fun t156_256 H_257 =>
  bindE (guardD (wantR true t151_246.1) (drawR true [t154_252.1, t156_256.1] (fun F => mIdxS 32 t154_252.1 t156_256.1 F) H_257) H_257) fun t157_258 H_259 =>
  bindE (guardD (wantR true t151_246.1) (drawR true [t157_258.1] (fun F => mLoad true 32 t157_258.1 F) H_259) H_259) fun t158_260 H_261 =>
  bindE (guardD (wantR true t151_246.1) (drawR true [t153_250.1, t158_260.1] (fun F => mBin (cfg b) 41 false .neq t153_250.1 t158_260.1 F) H_261) H_261) fun t159_262 H_263 =>
  bindE (guardD (wantR true t151_246.1) (drawR true [t159_262.1] (fun F => some (t159_262.1, F)) H_263) H_263) fun t160_264 H_265 =>
  bindE (guardD (wantR false t160_264.1) (drawR true [t14_181] (fun F => some (t14_181, F)) H_265) H_265) fun t161_266 H_267 =>
  bindE (guardD (wantR false t160_264.1) (drawR true [t114_185] (fun F => some (t114_185, F)) H_267) H_267) fun t162_268 H_269 =>
  bindE (guardD (wantR false t160_264.1) (drawR true [t162_268.1] (fun F => mBin (cfg b) 3 true .sub t162_268.1 (AV.c (.int .i64 1)) F) H_269) H_269) fun t163_270 H_271 =>
  bindE (guardD (wantR false t160_264.1) (drawR true [t13_179] (fun F => some (t13_179, F)) H_271) H_271) fun t164_272 H_273 =>
  bindE (guardD (wantR false t160_264.1) (drawR true [t163_270.1, t164_272.1] (fun F => mBin (cfg b) 3 false .sub t163_270.1 t164_272.1 F) H_273) H_273) fun t165_274 H_275 =>
  bindE (guardD (wantR false t160_264.1) (drawR true [t161_266.1, t165_274.1] (fun F => mIdxS 32 t161_266.1 t165_274.1 F) H_275) H_275) fun t166_276 H_277 =>
  bindE (guardD (wantR false t160_264.1) (drawR true [t166_276.1] (fun F => mLoad true 32 t166_276.1 F) H_277) H_277) fun t167_278 H_279 =>
  bindE (guardD (wantR false t160_264.1) (drawR true [t8_177] (fun F => some (t8_177, F)) H_279) H_279) fun t168_280 H_281 =>
  bindE (guardD (wantR false t160_264.1) (drawR true [t114_185] (fun F => some (t114_185, F)) H_281) H_281) fun t169_282 H_283 =>
  bindE (guardD (wantR false t160_264.1) (drawR true [t169_282.1] (fun F => mBin (cfg b) 3 true .sub t169_282.1 (AV.c (.int .i64 1)) F) H_283) H_283) fun t170_284 H_285 =>
  bindE (guardD (wantR false t160_264.1) (drawR true [t168_280.1, t170_284.1] (fun F => mIdxS 32 t168_280.1 t170_284.1 F) H_285) H_285) fun t171_286 H_287 =>
  bindE (guardD (wantR false t160_264.1) (drawR true [t171_286.1] (fun F => mLoad true 32 t171_286.1 F) H_287) H_287) fun t172_288 H_289 =>
  bindE (guardD (wantR false t160_264.1) (drawR true [t167_278.1, t172_288.1] (fun F => mBin (cfg b) 41 false .neq t167_278.1 t172_288.1 F) H_289) H_289) fun t173_290 H_291 =>
  bindE (guardD (wantR true t151_246.1) (drawR true [t160_264.1, t173_290.1] (fun F => mPick t160_264.1 (AV.c (.bool true)) t173_290.1 F) H_291) H_291) fun t174_292 H_293 =>
  bindE (guardD (wantR false t149_242.1) (drawR true [t151_246.1, t174_292.1] (fun F => mPick t151_246.1 t174_292.1 (AV.c (.bool false)) F) H_293) H_293) fun t175_294 H_295 =>
  bindE (drawR true [t149_242.1, t175_294.1] (fun F => mPick t149_242.1 (AV.c (.bool true)) t175_294.1 F) H_295) fun t176_296 H_297 =>
  some (([t176_296.1], [t133_210.2, t134_212.2, t135_214.2, t136_216.2, t137_218.2, t138_220.2, t139_222.2, t140_224.2, t141_226.2, t142_228.2, t143_230.2, t144_232.2, t145_234.2, t146_236.2, t147_238.2, t148_240.2, t149_242.2, t150_244.2, t151_246.2, t152_248.2, t153_250.2, t154_252.2, t155_254.2, t156_256.2, t157_258.2, t158_260.2, t159_262.2, t160_264.2, t161_266.2, t162_268.2, t163_270.2, t164_272.2, t165_274.2, t166_276.2, t167_278.2, t168_280.2, t169_282.2, t170_284.2, t171_286.2, t172_288.2, t173_290.2, t174_292.2, t175_294.2, t176_296.2]), H_297)) H_208) fun vs_298 H_299 =>
  un vs_298 fun t176_300 vs_301 => un0 vs_301 (condR t176_300 (some (LStep.ret [(AV.c (.bool false)), t5_173, t6_175, t8_177], H_299)) (bindE (mBin (cfg b) 3 true .add t114_185 (AV.c (.int .i64 1)) H_299) fun t177_302 H_303 =>
  some (LStep.cont [t5_173, t6_175, t8_177, t13_179, t14_181, t113_183, t177_302], H_303)))) (some (LStep.exit 2 [AV.any, t5_173, t6_175, t8_177], H_188)))
/-- ferryman/ferrymanlaw06.EpochPlays -/
noncomputable def p5 (b : Bool) (cf : CallFn) (k : Nat) (t0 t1 : AV) (H : Heap) : Option (AV × Heap) :=
  bindE (cf 24 [] H) fun t21_0 H_1 =>
  bindE (mUn .not t21_0 H_1) fun t22_2 H_3 =>
  condR t22_2 (endQ (cfg b) false k (resC1 (some (AV.c (.bool false))) (some [])) H_3) (bindE (cf 28 [t0] H_3) fun t25_4 H_5 =>
  bindE (mExtract 0 t25_4 H_5) fun t26_6 H_7 =>
  bindE (mExtract 1 t25_4 H_7) fun t27_8 H_9 =>
  bindE (mBin (cfg b) 3 true .lss t0 (AV.c (.int .i64 1)) H_9) fun t29_10 H_11 =>
  bindE (guardR (wantR false t29_10) (some (t0, H_11)) H_11) fun t31_12 H_13 =>
  bindE (guardR (wantR false t29_10) (mBin (cfg b) 3 true .gtr t31_12 (AV.c (.int .i64 64)) H_13) H_13) fun t32_14 H_15 =>
  bindE (mPick t29_10 (AV.c (.bool true)) t32_14 H_15) fun t33_16 H_17 =>
  condR t33_16 (bindE (mBin (cfg b) 25 true .eql t27_8 (AV.c (.int .i64 2)) H_17) fun t35_18 H_19 =>
  bindE (guardR (wantR true t35_18) (some (t26_6, H_19)) H_19) fun t37_20 H_21 =>
  bindE (guardR (wantR true t35_18) (mBin (cfg b) 24 true .eql t37_20 (AV.c .nilp) H_21) H_21) fun t38_22 H_23 =>
  bindE (mPick t35_18 t38_22 (AV.c (.bool false)) H_23) fun t39_24 H_25 =>
  endQ (cfg b) false k (resC1 (some t39_24) (some [])) H_25) (bindE (cf 26 [] H_17) fun t40_26 H_27 =>
  bindE (mLenSl t1 H_27) fun t42_28 H_29 =>
  afterL 0 (loopX k (p5_l0 b cf k) [t0, t26_6, t27_8, t40_26, (AV.c .nilsl), t1, t42_28, (AV.c (.int .i64 0))] H_29) (fun vs_141 H_142 =>
  un vs_141 fun t0_143 vs_144 => un vs_144 fun t4_145 vs_146 => un vs_146 fun t5_147 vs_148 => un vs_148 fun t6_149 vs_150 => un vs_150 fun t8_151 vs_152 => un0 vs_152 (bindE (mLenSl t8_151 H_142) fun t98_153 H_154 =>
  bindE (mBin (cfg b) 3 false .sub t98_153 t0_143 H_154) fun t100_155 H_156 =>
  bindE (mMax [(AV.c (.int .i64 0)), t100_155] H_156) fun t101_157 H_158 =>
  bindE (cf 30 [t5_147] H_158) fun t103_159 H_160 =>
  bindE (mLenSl t103_159 H_160) fun t105_161 H_162 =>
  bindE (mLenSl t8_151 H_162) fun t107_163 H_164 =>
  bindE (mBin (cfg b) 3 false .sub t107_163 t101_157 H_164) fun t109_165 H_166 =>
  bindE (mBin (cfg b) 3 false .neq t105_161 t109_165 H_166) fun t110_167 H_168 =>
  condR t110_167 (endQ (cfg b) false k (resC1 (some (AV.c (.bool false))) (some [])) H_168) (bindE (mLenSl t8_151 H_168) fun t112_169 H_170 =>
  bindE (mBin (cfg b) 3 true .add t112_169 (AV.c (.int .i64 2)) H_170) fun t113_171 H_172 =>
  afterL 2 (loopX k (p5_l2 b cf k) [t5_147, t6_149, t8_151, t101_157, t103_159, t113_171, (AV.c (.int .i64 0))] H_172) (fun vs_304 H_305 =>
  un vs_304 fun t4_306 vs_307 => un vs_307 fun t5_308 vs_309 => un vs_309 fun t6_310 vs_311 => un vs_311 fun t8_312 vs_313 => un0 vs_313 (bindE (cf 27 [t5_308, (AV.c (.int .u64 18446744073709551615))] H_305) fun t180_314 H_315 =>
  bindE (mExtract 0 t180_314 H_315) fun t181_316 H_317 =>
  bindE (mExtract 1 t180_314 H_317) fun t182_318 H_319 =>
  bindE (mBin (cfg b) 25 true .eql t6_310 (AV.c (.int .i64 0)) H_319) fun t184_320 H_321 =>
  bindE (guardR (wantR true t184_320) (some (t182_318, H_321)) H_321) fun t186_322 H_323 =>
  bindE (guardR (wantR true t184_320) (mBin (cfg b) 25 true .eql t186_322 (AV.c (.int .i64 11)) H_323) H_323) fun t187_324 H_325 =>
  bindE (mPick t184_320 t187_324 (AV.c (.bool false)) H_325) fun t188_326 H_327 =>
  bindE (guardR (wantR true t188_326) (some (t5_308, H_327)) H_327) fun t190_328 H_329 =>
  bindE (guardR (wantR true t188_326) (cf 29 [t190_328] H_329) H_329) fun t191_330 H_331 =>
  bindE (guardR (wantR true t188_326) (some (t8_312, H_331)) H_331) fun t192_332 H_333 =>
  bindE (guardR (wantR true t188_326) (mLenSl t192_332 H_333) H_333) fun t193_334 H_335 =>
  bindE (guardR (wantR true t188_326) (mConvI .u64 t193_334 H_335) H_335) fun t194_336 H_337 =>
  bindE (guardR (wantR true t188_326) (mBin (cfg b) 22 false .eql t191_330 t194_336 H_337) H_337) fun t195_338 H_339 =>
  bindE (mPick t188_326 t195_338 (AV.c (.bool false)) H_339) fun t196_340 H_341 =>
  endQ (cfg b) false k (resC1 (some t196_340) (some [])) H_341)) (fun vs_304 H_305 => un vs_304 fun t4_342 vs_343 => un vs_343 fun t5_344 vs_345 => un vs_345 fun t6_346 vs_347 => un vs_347 fun t8_348 vs_349 => un0 vs_349 (endQ (cfg b) false k (resC1 (some t4_342) (some [])) H_305))))) (fun vs_141 H_142 => un vs_141 fun t0_350 vs_351 => un vs_351 fun t4_352 vs_353 => un vs_353 fun t5_354 vs_355 => un vs_355 fun t6_356 vs_357 => un vs_357 fun t8_358 vs_359 => un0 vs_359 (endQ (cfg b) false k (resC1 (some t4_352) (some [])) H_142))))

theorem p5_eq (b : Bool) (cf : CallFn) (t0 t1 : AV) (H : Heap) : runG (cfg b) cf An 5 [t0, t1] H = p5 b cf H.length t0 t1 H := by kernel_rfl

end Go.Fm

