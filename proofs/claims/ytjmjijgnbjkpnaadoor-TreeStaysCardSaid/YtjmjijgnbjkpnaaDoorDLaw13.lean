/-
  A part of the proof: DLaw13.
-/
import Derived.Test.YtjmjijgnbjkpnaaDoorDAnn
set_option linter.all false
set_option autoImplicit true
/-
  What the interpreter does to functions, without slots and types; the kernel holds it against the code.
-/
set_option maxRecDepth 100000
set_option linter.unusedVariables false
namespace Go.Fm
open Go Go.Proofs
noncomputable def p13_l2 (b : Bool) (cf : CallFn) (k : Nat) (s : List AV) (H : Heap) : Option (LStep × Heap) :=
  un s fun t5_113 vs_114 => un vs_114 fun t6_115 vs_116 => un vs_116 fun t7_117 vs_118 => un vs_118 fun t8_119 vs_120 => un vs_120 fun t11_121 vs_122 => un vs_122 fun t12_123 vs_124 => un vs_124 fun t13_125 vs_126 => un vs_126 fun t32_127 vs_128 => un vs_128 fun t33_129 vs_130 => un vs_130 fun t34_131 vs_132 => un vs_132 fun t80_133 vs_134 => un vs_134 fun t81_135 vs_136 => un0 vs_136 (bindE (mBin (cfg b) 3 false .lss t81_135 t80_133 H) fun t82_137 H_138 =>
  condR t82_137 (bindE (mIdxS 1 t11_121 t81_135 H_138) fun t86_139 H_140 =>
  bindE (mLoad false 1 t86_139 H_140) fun t87_141 H_142 =>
  bindE (mBin (cfg b) 5 true .xor t87_141 (AV.c (.int .u8 255)) H_142) fun t88_143 H_144 =>
  bindE (mIdxS 1 t11_121 t81_135 H_144) fun t89_145 H_146 =>
  bindE (mStore false 1 t89_145 t88_143 H_146) fun u_147 H_148 =>
  bindE (mBin (cfg b) 3 true .add t81_135 (AV.c (.int .i64 1)) H_148) fun t90_149 H_150 =>
  some (LStep.cont [t5_113, t6_115, t7_117, t8_119, t11_121, t12_123, t13_125, t32_127, t33_129, t34_131, t80_133, t90_149], H_150)) (some (LStep.exit 2 [t5_113, t6_115, t7_117, t8_119, t12_123, t13_125, t32_127, t33_129, t34_131], H_138)))
noncomputable def p13_l4 (b : Bool) (cf : CallFn) (k : Nat) (s : List AV) (H : Heap) : Option (LStep × Heap) :=
  un s fun t5_173 vs_174 => un vs_174 fun t6_175 vs_176 => un vs_176 fun t7_177 vs_178 => un vs_178 fun t8_179 vs_180 => un vs_180 fun t12_181 vs_182 => un vs_182 fun t13_183 vs_184 => un vs_184 fun t32_185 vs_186 => un vs_186 fun t33_187 vs_188 => un vs_188 fun t34_189 vs_190 => un vs_190 fun t92_191 vs_192 => un vs_192 fun t93_193 vs_194 => un0 vs_194 (bindE (mBin (cfg b) 3 false .lss t93_193 t92_191 H) fun t94_195 H_196 =>
  condR t94_195 (bindE (mIdxS 1 t12_181 t93_193 H_196) fun t98_197 H_198 =>
  bindE (mLoad false 1 t98_197 H_198) fun t99_199 H_200 =>
  bindE (mBin (cfg b) 5 true .xor t99_199 (AV.c (.int .u8 255)) H_200) fun t100_201 H_202 =>
  bindE (mIdxS 1 t12_181 t93_193 H_202) fun t101_203 H_204 =>
  bindE (mStore false 1 t101_203 t100_201 H_204) fun u_205 H_206 =>
  bindE (mBin (cfg b) 3 true .add t93_193 (AV.c (.int .i64 1)) H_206) fun t102_207 H_208 =>
  some (LStep.cont [t5_173, t6_175, t7_177, t8_179, t12_181, t13_183, t32_185, t33_187, t34_189, t92_191, t102_207], H_208)) (some (LStep.exit 4 [t5_173, t6_175, t7_177, t8_179, t13_183, t32_185, t33_187, t34_189], H_196)))
noncomputable def p13_l0_d0 (b : Bool) (cf : CallFn) (t10_38 : AV) (H_54 : Heap) : Option ((List AV × List Trail) × Heap) :=
  bindE (drawR false [] (fun F => mBuildSl 5 1 (.int .u8 0) 0 [] F) H_54) fun t47_55 H_56 =>
  bindE (drawR true [t10_38] (fun F => mLoad true 4 t10_38 F) H_56) fun t48_57 H_58 =>
  bindE (drawR false [t48_57.1] (fun F => cf 35 [t48_57.1] F) H_58) fun t49_59 H_60 =>
  bindE (drawR false [t47_55.1, t49_59.1] (fun F => mAppend 5 1 1 false t47_55.1 t49_59.1 F) H_60) fun t50_61 H_62 =>
  bindE (drawR false [] (fun F => mBuildSl 5 1 (.int .u8 0) 0 [] F) H_62) fun t51_63 H_64 =>
  bindE (drawR true [t10_38] (fun F => mFA 3 3 t10_38 F) H_64) fun t52_65 H_66 =>
  bindE (drawR true [t52_65.1] (fun F => mLoad false 1 t52_65.1 F) H_66) fun t53_67 H_68 =>
  bindE (drawR true [t10_38] (fun F => mFA 3 3 t10_38 F) H_68) fun t54_69 H_70 =>
  bindE (drawR true [t54_69.1] (fun F => mLoad false 1 t54_69.1 F) H_70) fun t55_71 H_72 =>
  bindE (drawR true [t55_71.1] (fun F => mLenSl t55_71.1 F) H_72) fun t56_73 H_74 =>
  bindE (drawR true [t56_73.1] (fun F => mMin [t56_73.1, (AV.c (.int .i64 100))] F) H_74) fun t57_75 H_76 =>
  bindE (drawR false [t53_67.1, t57_75.1] (fun F => mSliceSl 1 t53_67.1 none (some t57_75.1) F) H_76) fun t58_77 H_78 =>
  bindE (drawR false [t51_63.1, t58_77.1] (fun F => mAppend 5 1 1 false t51_63.1 t58_77.1 F) H_78) fun t59_79 H_80 =>
  bindE (drawM (some t50_61.1) H_80) fun t11_81 H_82 =>
  bindE (drawM (some t59_79.1) H_82) fun t12_83 H_84 =>
  some (([t11_81.1, t12_83.1], [t47_55.2, t48_57.2, t49_59.2, t50_61.2, t51_63.2, t52_65.2, t53_67.2, t54_69.2, t55_71.2, t56_73.2, t57_75.2, t58_77.2, t59_79.2, t11_81.2, t12_83.2]), H_84)
noncomputable def p13_l0_d1 (b : Bool) (cf : CallFn) (t8_217 t13_219 : AV) (H_227 : Heap) : Option ((List AV × List Trail) × Heap) :=
  bindE (drawM (some t8_217) H_227) fun t147_228 H_229 =>
  bindE (drawR false [t147_228.1] (fun F => cf 37 [t147_228.1] F) H_229) fun t148_230 H_231 =>
  bindE (drawR true [t13_219] (fun F => mLoad true 32 t13_219 F) H_231) fun t149_232 H_233 =>
  bindE (drawR true [t148_230.1, t149_232.1] (fun F => mBin (cfg b) 41 false .neq t148_230.1 t149_232.1 F) H_233) fun t150_234 H_235 =>
  some (([t150_234.1], [t147_228.2, t148_230.2, t149_232.2, t150_234.2]), H_235)
noncomputable def p13_l0_d2 (b : Bool) (cf : CallFn) (t8_320 t13_322 : AV) (H_330 : Heap) : Option ((List AV × List Trail) × Heap) :=
  bindE (drawM (some t8_320) H_330) fun t147_331 H_332 =>
  bindE (drawR false [t147_331.1] (fun F => cf 37 [t147_331.1] F) H_332) fun t148_333 H_334 =>
  bindE (drawR true [t13_322] (fun F => mLoad true 32 t13_322 F) H_334) fun t149_335 H_336 =>
  bindE (drawR true [t148_333.1, t149_335.1] (fun F => mBin (cfg b) 41 false .neq t148_333.1 t149_335.1 F) H_336) fun t150_337 H_338 =>
  some (([t150_337.1], [t147_331.2, t148_333.2, t149_335.2, t150_337.2]), H_338)
noncomputable def p13_l0 (b : Bool) (cf : CallFn) (k : Nat) (s : List AV) (H : Heap) : Option (LStep × Heap) :=
  un s fun t5_18 vs_19 => un vs_19 fun t6_20 vs_21 => un vs_21 fun t7_22 vs_23 => un vs_23 fun t8_24 vs_25 => un vs_25 fun t32_26 vs_27 => un vs_27 fun t33_28 vs_29 => un vs_29 fun t34_30 vs_31 => un0 vs_31 (bindE (mBin (cfg b) 3 false .lss t34_30 t33_28 H) fun t35_32 H_33 =>
  condR t35_32 (bindE (mIdxS 4 t32_26 t34_30 H_33) fun t37_34 H_35 =>
  bindE (mLoad true 4 t37_34 H_35) fun t38_36 H_37 =>
  bindE (mAlloc 48 (.agg [(.int .u8 0), (.int .u8 0), .nilsl, .nilsl]) H_37) fun t10_38 H_39 =>
  bindE (mStore true 4 t10_38 t38_36 H_39) fun u_40 H_41 =>
  bindE (mBin (cfg b) 3 true .gtr t34_30 (AV.c (.int .i64 30)) H_41) fun t40_42 H_43 =>
  bindE (guardR (wantR false t40_42) (mLoad true 4 t10_38 H_43) H_43) fun t42_44 H_45 =>
  bindE (guardR (wantR false t40_42) (cf 35 [t42_44] H_45) H_45) fun t43_46 H_47 =>
  bindE (guardR (wantR false t40_42) (mLenSl t43_46 H_47) H_47) fun t44_48 H_49 =>
  bindE (guardR (wantR false t40_42) (mBin (cfg b) 3 true .gtr t44_48 (AV.c (.int .i64 90)) H_49) H_49) fun t45_50 H_51 =>
  bindE (mPick t40_42 (AV.c (.bool true)) t45_50 H_51) fun t46_52 H_53 =>
  condR t46_52 (some (LStep.exit 0 [AV.any, t5_18, t6_20, t7_22], H_53)) (afterD (twice [0, 0, 2, 7, 0, 0, 32, 0, 128, 384, 896, 2016, 4095, 8191, 16383] (p13_l0_d0 b cf t10_38) H_53) fun vs_85 H_86 =>
  un vs_85 fun t11_87 vs_88 => un vs_88 fun t12_89 vs_90 => un0 vs_90 (bindE (mFA 0 0 t10_38 H_86) fun t60_91 H_92 =>
  bindE (mLoad false 1 t60_91 H_92) fun t61_93 H_94 =>
  bindE (mBin (cfg b) 5 true .rem t61_93 (AV.c (.int .u8 6)) H_94) fun t62_95 H_96 =>
  bindE (mBin (cfg b) 5 true .lss t62_95 (AV.c (.int .u8 4)) H_96) fun t63_97 H_98 =>
  condR t63_97 (bindE (cf 36 [t8_24, t11_87, t12_89] H_98) fun t68_99 H_100 =>
  bindE (mExtract 0 t68_99 H_100) fun t69_101 H_102 =>
  bindE (mExtract 1 t68_99 H_102) fun t70_103 H_104 =>
  bindE (cf 37 [t69_101] H_104) fun t78_105 H_106 =>
  bindE (mAlloc 41 (.arr 32 .u8 (List.replicate 32 0)) H_106) fun t13_107 H_108 =>
  bindE (mStore true 32 t13_107 t78_105 H_108) fun u_109 H_110 =>
  bindE (mLenSl t11_87 H_110) fun t80_111 H_112 =>
  afterL 2 (loopX k (p13_l2 b cf k) [t5_18, t6_20, t7_22, t69_101, t11_87, t12_89, t13_107, t32_26, t33_28, t34_30, t80_111, (AV.c (.int .i64 0))] H_112) (fun vs_151 H_152 =>
  un vs_151 fun t5_153 vs_154 => un vs_154 fun t6_155 vs_156 => un vs_156 fun t7_157 vs_158 => un vs_158 fun t8_159 vs_160 => un vs_160 fun t12_161 vs_162 => un vs_162 fun t13_163 vs_164 => un vs_164 fun t32_165 vs_166 => un vs_166 fun t33_167 vs_168 => un vs_168 fun t34_169 vs_170 => un0 vs_170 (bindE (mLenSl t12_161 H_152) fun t92_171 H_172 =>
  afterL 4 (loopX k (p13_l4 b cf k) [t5_153, t6_155, t7_157, t8_159, t12_161, t13_163, t32_165, t33_167, t34_169, t92_171, (AV.c (.int .i64 0))] H_172) (fun vs_209 H_210 =>
  un vs_209 fun t5_211 vs_212 => un vs_212 fun t6_213 vs_214 => un vs_214 fun t7_215 vs_216 => un vs_216 fun t8_217 vs_218 => un vs_218 fun t13_219 vs_220 => un vs_220 fun t32_221 vs_222 => un vs_222 fun t33_223 vs_224 => un vs_224 fun t34_225 vs_226 => un0 vs_226 (pieceR pc13_25 [t8_217, AV.any] (pieceR pc13_34 [t8_217, AV.any] (afterD (twice [0, 1, 0, 7] (p13_l0_d1 b cf t8_217 t13_219) H_210) fun vs_236 H_237 =>
  un vs_236 fun t150_238 vs_239 => un0 vs_239 (condR t150_238 (some (LStep.ret [(AV.c (.bool false)), t5_211, t6_213, t7_215], H_237)) (bindE (mBin (cfg b) 3 true .add t34_225 (AV.c (.int .i64 1)) H_237) fun t151_240 H_241 =>
  some (LStep.cont [t5_211, t6_213, t7_215, t8_217, t32_221, t33_223, t151_240], H_241))))))) (fun vs_209 H_210 => un vs_209 fun t5_242 vs_243 => un vs_243 fun t6_244 vs_245 => un vs_245 fun t7_246 vs_247 => un vs_247 fun t8_248 vs_249 => un vs_249 fun t13_250 vs_251 => un vs_251 fun t32_252 vs_253 => un vs_253 fun t33_254 vs_255 => un vs_255 fun t34_256 vs_257 => un0 vs_257 (some (LStep.ret [AV.any, t5_242, t6_244, t7_246], H_210))))) (fun vs_151 H_152 => un vs_151 fun t5_258 vs_259 => un vs_259 fun t6_260 vs_261 => un vs_261 fun t7_262 vs_263 => un vs_263 fun t8_264 vs_265 => un vs_265 fun t12_266 vs_267 => un vs_267 fun t13_268 vs_269 => un vs_269 fun t32_270 vs_271 => un vs_271 fun t33_272 vs_273 => un vs_273 fun t34_274 vs_275 => un0 vs_275 (some (LStep.ret [AV.any, t5_258, t6_260, t7_262], H_152)))) (bindE (cf 61 [t8_24, t11_87] H_98) fun t74_276 H_277 =>
  bindE (mExtract 0 t74_276 H_277) fun t75_278 H_279 =>
  bindE (mExtract 1 t74_276 H_279) fun t76_280 H_281 =>
  bindE (cf 37 [t75_278] H_281) fun t78_282 H_283 =>
  bindE (mAlloc 41 (.arr 32 .u8 (List.replicate 32 0)) H_283) fun t13_284 H_285 =>
  bindE (mStore true 32 t13_284 t78_282 H_285) fun u_286 H_287 =>
  bindE (mLenSl t11_87 H_287) fun t80_288 H_289 =>
  afterL 2 (loopX k (p13_l2 b cf k) [t5_18, t6_20, t7_22, t75_278, t11_87, t12_89, t13_284, t32_26, t33_28, t34_30, t80_288, (AV.c (.int .i64 0))] H_289) (fun vs_290 H_291 =>
  un vs_290 fun t5_292 vs_293 => un vs_293 fun t6_294 vs_295 => un vs_295 fun t7_296 vs_297 => un vs_297 fun t8_298 vs_299 => un vs_299 fun t12_300 vs_301 => un vs_301 fun t13_302 vs_303 => un vs_303 fun t32_304 vs_305 => un vs_305 fun t33_306 vs_307 => un vs_307 fun t34_308 vs_309 => un0 vs_309 (bindE (mLenSl t12_300 H_291) fun t92_310 H_311 =>
  afterL 4 (loopX k (p13_l4 b cf k) [t5_292, t6_294, t7_296, t8_298, t12_300, t13_302, t32_304, t33_306, t34_308, t92_310, (AV.c (.int .i64 0))] H_311) (fun vs_312 H_313 =>
  un vs_312 fun t5_314 vs_315 => un vs_315 fun t6_316 vs_317 => un vs_317 fun t7_318 vs_319 => un vs_319 fun t8_320 vs_321 => un vs_321 fun t13_322 vs_323 => un vs_323 fun t32_324 vs_325 => un vs_325 fun t33_326 vs_327 => un vs_327 fun t34_328 vs_329 => un0 vs_329 (pieceR pc13_25 [t8_320, AV.any] (pieceR pc13_34 [t8_320, AV.any] (afterD (twice [0, 1, 0, 7] (p13_l0_d2 b cf t8_320 t13_322) H_313) fun vs_339 H_340 =>
  un vs_339 fun t150_341 vs_342 => un0 vs_342 (condR t150_341 (some (LStep.ret [(AV.c (.bool false)), t5_314, t6_316, t7_318], H_340)) (bindE (mBin (cfg b) 3 true .add t34_328 (AV.c (.int .i64 1)) H_340) fun t151_343 H_344 =>
  some (LStep.cont [t5_314, t6_316, t7_318, t8_320, t32_324, t33_326, t151_343], H_344))))))) (fun vs_312 H_313 => un vs_312 fun t5_345 vs_346 => un vs_346 fun t6_347 vs_348 => un vs_348 fun t7_349 vs_350 => un vs_350 fun t8_351 vs_352 => un vs_352 fun t13_353 vs_354 => un vs_354 fun t32_355 vs_356 => un vs_356 fun t33_357 vs_358 => un vs_358 fun t34_359 vs_360 => un0 vs_360 (some (LStep.ret [AV.any, t5_345, t6_347, t7_349], H_313))))) (fun vs_290 H_291 => un vs_290 fun t5_361 vs_362 => un vs_362 fun t6_363 vs_364 => un vs_364 fun t7_365 vs_366 => un vs_366 fun t8_367 vs_368 => un vs_368 fun t12_369 vs_370 => un vs_370 fun t13_371 vs_372 => un vs_372 fun t32_373 vs_374 => un vs_374 fun t33_375 vs_376 => un vs_376 fun t34_377 vs_378 => un0 vs_378 (some (LStep.ret [AV.any, t5_361, t6_363, t7_365], H_291))))))) (some (LStep.exit 0 [AV.any, t5_18, t6_20, t7_22], H_33)))
/-- ferryman/ferrymanlaw05.TreeStays -/
noncomputable def p13_d0 (b : Bool) (cf : CallFn) (t5_383 t7_387 t6_385 : AV) (H_389 : Heap) : Option ((List AV × List Trail) × Heap) :=
  bindE (drawM (some t5_383) H_389) fun t152_390 H_391 =>
  bindE (drawR false [t152_390.1] (fun F => cf 37 [t152_390.1] F) H_391) fun t153_392 H_393 =>
  bindE (drawR true [t7_387] (fun F => mLoad true 32 t7_387 F) H_393) fun t154_394 H_395 =>
  bindE (drawR true [t153_392.1, t154_394.1] (fun F => mBin (cfg b) 41 false .eql t153_392.1 t154_394.1 F) H_395) fun t155_396 H_397 =>
  bindE (drawM (some t155_396.1) H_397) fun t156_398 H_399 =>
  bindE (guardD (wantR true t156_398.1) (drawM (some t5_383) H_399) H_399) fun t157_400 H_401 =>
  bindE (guardD (wantR true t156_398.1) (drawR false [t157_400.1] (fun F => cf 51 [t157_400.1] F) H_401) H_401) fun t158_402 H_403 =>
  bindE (guardD (wantR true t156_398.1) (drawM (some t6_385) H_403) H_403) fun t159_404 H_405 =>
  bindE (guardD (wantR true t156_398.1) (drawR false [t158_402.1, t159_404.1] (fun F => cf 50 [t158_402.1, t159_404.1] F) H_405) H_405) fun t160_406 H_407 =>
  bindE (drawR true [t156_398.1, t160_406.1] (fun F => mPick t156_398.1 t160_406.1 (AV.c (.bool false)) F) H_407) fun t161_408 H_409 =>
  bindE (drawM (some t161_408.1) H_409) fun t4_410 H_411 =>
  some (([t4_410.1], [t152_390.2, t153_392.2, t154_394.2, t155_396.2, t156_398.2, t157_400.2, t158_402.2, t159_404.2, t160_406.2, t161_408.2, t4_410.2]), H_411)
noncomputable def p13 (b : Bool) (cf : CallFn) (k : Nat) (t0 t1 : AV) (H : Heap) : Option (AV × Heap) :=
  bindE (cf 38 [] H) fun t22_0 H_1 =>
  bindE (mUn .not t22_0 H_1) fun t23_2 H_3 =>
  condR t23_2 (endQ (cfg b) false k (resC1 (some (AV.c (.bool false))) (some [])) H_3) (bindE (cf 39 [t0, (AV.c (.int .i64 40))] H_3) fun t26_4 H_5 =>
  bindE (mExtract 0 t26_4 H_5) fun t27_6 H_7 =>
  bindE (mExtract 1 t26_4 H_7) fun t28_8 H_9 =>
  bindE (cf 37 [t27_6] H_9) fun t30_10 H_11 =>
  bindE (mAlloc 41 (.arr 32 .u8 (List.replicate 32 0)) H_11) fun t7_12 H_13 =>
  bindE (mStore true 32 t7_12 t30_10 H_13) fun u_14 H_15 =>
  bindE (mLenSl t1 H_15) fun t33_16 H_17 =>
  afterL 0 (loopX k (p13_l0 b cf k) [t27_6, t28_8, t7_12, t27_6, t1, t33_16, (AV.c (.int .i64 0))] H_17) (fun vs_379 H_380 =>
  un vs_379 fun t4_381 vs_382 => un vs_382 fun t5_383 vs_384 => un vs_384 fun t6_385 vs_386 => un vs_386 fun t7_387 vs_388 => un0 vs_388 (afterD (twice [0, 1, 0, 7, 15, 31, 63, 31, 255, 511, 1023] (p13_d0 b cf t5_383 t7_387 t6_385) H_380) fun vs_412 H_413 =>
  un vs_412 fun t4_414 vs_415 => un0 vs_415 (endQ (cfg b) false k (resC1 (some t4_414) (some [])) H_413))) (fun vs_379 H_380 => un vs_379 fun t4_416 vs_417 => un vs_417 fun t5_418 vs_419 => un vs_419 fun t6_420 vs_421 => un vs_421 fun t7_422 vs_423 => un0 vs_423 (endQ (cfg b) false k (resC1 (some t4_416) (some [])) H_380)))
theorem p13_eq (b : Bool) (cf : CallFn) (t0 t1 : AV) (H : Heap) : runG (cfg b) cf An 13 [t0, t1] H = p13 b cf H.length t0 t1 H := by kernel_rfl
end Go.Fm
