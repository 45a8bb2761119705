/-
  A part of the proof: DLaw5.
-/
import Derived.Test.YtjmjijgnbjkpnaaDAnn
set_option linter.all false
set_option autoImplicit true
/-
  What the interpreter does to functions, without slots and types; the kernel holds it against the code.
-/
set_option maxRecDepth 100000
set_option linter.unusedVariables false
namespace Go.Fm
open Go Go.Proofs
noncomputable def p5_l3 (b : Bool) (cf : CallFn) (k : Nat) (s : List AV) (H : Heap) : Option (LStep × Heap) :=
  un s fun t1_80 vs_81 => un vs_81 fun t5_82 vs_83 => un vs_83 fun t6_84 vs_85 => un vs_85 fun t9_86 vs_87 => un vs_87 fun t11_88 vs_89 => un vs_89 fun t22_90 vs_91 => un vs_91 fun t23_92 vs_93 => un vs_93 fun t24_94 vs_95 => un vs_95 fun t76_96 vs_97 => un vs_97 fun t77_98 vs_99 => un0 vs_99 (bindE (mBin (cfg b) 3 false .lss t77_98 t76_96 H) fun t78_100 H_101 =>
  condR t78_100 (bindE (mIdxS 1 t11_88 t77_98 H_101) fun t82_102 H_103 =>
  bindE (mLoad false 1 t82_102 H_103) fun t83_104 H_105 =>
  bindE (mBin (cfg b) 5 true .xor t83_104 (AV.c (.int .u8 255)) H_105) fun t84_106 H_107 =>
  bindE (mIdxS 1 t11_88 t77_98 H_107) fun t85_108 H_109 =>
  bindE (mStore false 1 t85_108 t84_106 H_109) fun u_110 H_111 =>
  bindE (mBin (cfg b) 3 true .add t77_98 (AV.c (.int .i64 1)) H_111) fun t86_112 H_113 =>
  some (LStep.cont [t1_80, t5_82, t6_84, t9_86, t11_88, t22_90, t23_92, t24_94, t76_96, t86_112], H_113)) (some (LStep.exit 3 [t1_80, t5_82, t6_84, t9_86, t22_90, t23_92, t24_94], H_101)))
noncomputable def p5_l0_d0 (b : Bool) (cf : CallFn) (t103_134 t106_136 t102_132 t6_120 t5_118 t1_116 : AV) (H_138 : Heap) : Option ((List AV × List Trail) × Heap) :=
  bindE (drawM (some t103_134) H_138) fun t107_139 H_140 =>
  bindE (drawM (some t106_136) H_140) fun t108_141 H_142 =>
  bindE (drawR true [t108_141.1] (fun F => mBin (cfg b) 3 true .geq t108_141.1 (AV.c (.int .i64 0)) F) H_142) fun t109_143 H_144 =>
  bindE (drawR true [t107_139.1, t109_143.1] (fun F => mBin (cfg b) 4 false .neq t107_139.1 t109_143.1 F) H_144) fun t110_145 H_146 =>
  bindE (drawM (some t110_145.1) H_146) fun t111_147 H_148 =>
  bindE (guardD (wantR false t111_147.1) (drawM (some t103_134) H_148) H_148) fun t112_149 H_150 =>
  bindE (guardD (wantR false t111_147.1) (drawM (some t112_149.1) H_150) H_150) fun t113_151 H_152 =>
  bindE (guardD (wantR true t113_151.1) (drawM (some t102_132) H_152) H_152) fun t114_153 H_154 =>
  bindE (guardD (wantR true t113_151.1) (drawR true [t114_153.1] (fun F => mConvBS t114_153.1 F) H_154) H_154) fun t115_155 H_156 =>
  bindE (guardD (wantR true t113_151.1) (drawM (some t6_120) H_156) H_156) fun t116_157 H_158 =>
  bindE (guardD (wantR true t113_151.1) (drawM (some t106_136) H_158) H_158) fun t117_159 H_160 =>
  bindE (guardD (wantR true t113_151.1) (drawR true [t116_157.1, t117_159.1] (fun F => mIdxS 2 t116_157.1 t117_159.1 F) H_160) H_160) fun t118_161 H_162 =>
  bindE (guardD (wantR true t113_151.1) (drawR true [t118_161.1] (fun F => mFA 1 1 t118_161.1 F) H_162) H_162) fun t119_163 H_164 =>
  bindE (guardD (wantR true t113_151.1) (drawR true [t119_163.1] (fun F => mLoad false 1 t119_163.1 F) H_164) H_164) fun t120_165 H_166 =>
  bindE (guardD (wantR true t113_151.1) (drawR true [t120_165.1] (fun F => mConvBS t120_165.1 F) H_166) H_166) fun t121_167 H_168 =>
  bindE (guardD (wantR true t113_151.1) (drawR true [t115_155.1, t121_167.1] (fun F => mBin (cfg b) 9 false .neq t115_155.1 t121_167.1 F) H_168) H_168) fun t122_169 H_170 =>
  bindE (guardD (wantR false t111_147.1) (drawR true [t113_151.1, t122_169.1] (fun F => mPick t113_151.1 t122_169.1 (AV.c (.bool false)) F) H_170) H_170) fun t123_171 H_172 =>
  bindE (drawR true [t111_147.1, t123_171.1] (fun F => mPick t111_147.1 (AV.c (.bool true)) t123_171.1 F) H_172) fun t124_173 H_174 =>
  bindE (drawM (some t124_173.1) H_174) fun t125_175 H_176 =>
  bindE (guardD (wantR false t125_175.1) (drawM (some t5_118) H_176) H_176) fun t126_177 H_178 =>
  bindE (guardD (wantR false t125_175.1) (drawR false [t126_177.1] (fun F => cf 23 [t126_177.1, (AV.c .nilsl)] F) H_178) H_178) fun t127_179 H_180 =>
  bindE (guardD (wantR false t125_175.1) (drawM (some t6_120) H_180) H_180) fun t128_181 H_182 =>
  bindE (guardD (wantR false t125_175.1) (drawR false [t127_179.1, t128_181.1] (fun F => cf 22 [t127_179.1, t128_181.1] F) H_182) H_182) fun t129_183 H_184 =>
  bindE (guardD (wantR false t125_175.1) (drawR true [t129_183.1] (fun F => mUn .not t129_183.1 F) H_184) H_184) fun t130_185 H_186 =>
  bindE (drawR true [t125_175.1, t130_185.1] (fun F => mPick t125_175.1 (AV.c (.bool true)) t130_185.1 F) H_186) fun t131_187 H_188 =>
  bindE (drawM (some t131_187.1) H_188) fun t132_189 H_190 =>
  bindE (guardD (wantR false t132_189.1) (drawM (some t5_118) H_190) H_190) fun t133_191 H_192 =>
  bindE (guardD (wantR false t132_189.1) (drawM (some t1_116) H_192) H_192) fun t134_193 H_194 =>
  bindE (guardD (wantR false t132_189.1) (drawR false [t133_191.1, t134_193.1] (fun F => cf 23 [t133_191.1, t134_193.1] F) H_194) H_194) fun t135_195 H_196 =>
  bindE (guardD (wantR false t132_189.1) (drawM (some t6_120) H_196) H_196) fun t136_197 H_198 =>
  bindE (guardD (wantR false t132_189.1) (drawM (some t1_116) H_198) H_198) fun t137_199 H_200 =>
  bindE (guardD (wantR false t132_189.1) (drawR false [t136_197.1, t137_199.1] (fun F => cf 24 [t136_197.1, t137_199.1] F) H_200) H_200) fun t138_201 H_202 =>
  bindE (guardD (wantR false t132_189.1) (drawR false [t135_195.1, t138_201.1] (fun F => cf 22 [t135_195.1, t138_201.1] F) H_202) H_202) fun t139_203 H_204 =>
  bindE (guardD (wantR false t132_189.1) (drawR true [t139_203.1] (fun F => mUn .not t139_203.1 F) H_204) H_204) fun t140_205 H_206 =>
  bindE (drawR true [t132_189.1, t140_205.1] (fun F => mPick t132_189.1 (AV.c (.bool true)) t140_205.1 F) H_206) fun t141_207 H_208 =>
  some (([t141_207.1], [t107_139.2, t108_141.2, t109_143.2, t110_145.2, t111_147.2, t112_149.2, t113_151.2, t114_153.2, t115_155.2, t116_157.2, t117_159.2, t118_161.2, t119_163.2, t120_165.2, t121_167.2, t122_169.2, t123_171.2, t124_173.2, t125_175.2, t126_177.2, t127_179.2, t128_181.2, t129_183.2, t130_185.2, t131_187.2, t132_189.2, t133_191.2, t134_193.2, t135_195.2, t136_197.2, t137_199.2, t138_201.2, t139_203.2, t140_205.2, t141_207.2]), H_208)
noncomputable def p5_l0_d1 (b : Bool) (cf : CallFn) (t103_271 t106_273 t102_269 t6_257 t5_255 t1_253 : AV) (H_275 : Heap) : Option ((List AV × List Trail) × Heap) :=
  bindE (drawM (some t103_271) H_275) fun t107_276 H_277 =>
  bindE (drawM (some t106_273) H_277) fun t108_278 H_279 =>
  bindE (drawR true [t108_278.1] (fun F => mBin (cfg b) 3 true .geq t108_278.1 (AV.c (.int .i64 0)) F) H_279) fun t109_280 H_281 =>
  bindE (drawR true [t107_276.1, t109_280.1] (fun F => mBin (cfg b) 4 false .neq t107_276.1 t109_280.1 F) H_281) fun t110_282 H_283 =>
  bindE (drawM (some t110_282.1) H_283) fun t111_284 H_285 =>
  bindE (guardD (wantR false t111_284.1) (drawM (some t103_271) H_285) H_285) fun t112_286 H_287 =>
  bindE (guardD (wantR false t111_284.1) (drawM (some t112_286.1) H_287) H_287) fun t113_288 H_289 =>
  bindE (guardD (wantR true t113_288.1) (drawM (some t102_269) H_289) H_289) fun t114_290 H_291 =>
  bindE (guardD (wantR true t113_288.1) (drawR true [t114_290.1] (fun F => mConvBS t114_290.1 F) H_291) H_291) fun t115_292 H_293 =>
  bindE (guardD (wantR true t113_288.1) (drawM (some t6_257) H_293) H_293) fun t116_294 H_295 =>
  bindE (guardD (wantR true t113_288.1) (drawM (some t106_273) H_295) H_295) fun t117_296 H_297 =>
  bindE (guardD (wantR true t113_288.1) (drawR true [t116_294.1, t117_296.1] (fun F => mIdxS 2 t116_294.1 t117_296.1 F) H_297) H_297) fun t118_298 H_299 =>
  bindE (guardD (wantR true t113_288.1) (drawR true [t118_298.1] (fun F => mFA 1 1 t118_298.1 F) H_299) H_299) fun t119_300 H_301 =>
  bindE (guardD (wantR true t113_288.1) (drawR true [t119_300.1] (fun F => mLoad false 1 t119_300.1 F) H_301) H_301) fun t120_302 H_303 =>
  bindE (guardD (wantR true t113_288.1) (drawR true [t120_302.1] (fun F => mConvBS t120_302.1 F) H_303) H_303) fun t121_304 H_305 =>
  bindE (guardD (wantR true t113_288.1) (drawR true [t115_292.1, t121_304.1] (fun F => mBin (cfg b) 9 false .neq t115_292.1 t121_304.1 F) H_305) H_305) fun t122_306 H_307 =>
  bindE (guardD (wantR false t111_284.1) (drawR true [t113_288.1, t122_306.1] (fun F => mPick t113_288.1 t122_306.1 (AV.c (.bool false)) F) H_307) H_307) fun t123_308 H_309 =>
  bindE (drawR true [t111_284.1, t123_308.1] (fun F => mPick t111_284.1 (AV.c (.bool true)) t123_308.1 F) H_309) fun t124_310 H_311 =>
  bindE (drawM (some t124_310.1) H_311) fun t125_312 H_313 =>
  bindE (guardD (wantR false t125_312.1) (drawM (some t5_255) H_313) H_313) fun t126_314 H_315 =>
  bindE (guardD (wantR false t125_312.1) (drawR false [t126_314.1] (fun F => cf 23 [t126_314.1, (AV.c .nilsl)] F) H_315) H_315) fun t127_316 H_317 =>
  bindE (guardD (wantR false t125_312.1) (drawM (some t6_257) H_317) H_317) fun t128_318 H_319 =>
  bindE (guardD (wantR false t125_312.1) (drawR false [t127_316.1, t128_318.1] (fun F => cf 22 [t127_316.1, t128_318.1] F) H_319) H_319) fun t129_320 H_321 =>
  bindE (guardD (wantR false t125_312.1) (drawR true [t129_320.1] (fun F => mUn .not t129_320.1 F) H_321) H_321) fun t130_322 H_323 =>
  bindE (drawR true [t125_312.1, t130_322.1] (fun F => mPick t125_312.1 (AV.c (.bool true)) t130_322.1 F) H_323) fun t131_324 H_325 =>
  bindE (drawM (some t131_324.1) H_325) fun t132_326 H_327 =>
  bindE (guardD (wantR false t132_326.1) (drawM (some t5_255) H_327) H_327) fun t133_328 H_329 =>
  bindE (guardD (wantR false t132_326.1) (drawM (some t1_253) H_329) H_329) fun t134_330 H_331 =>
  bindE (guardD (wantR false t132_326.1) (drawR false [t133_328.1, t134_330.1] (fun F => cf 23 [t133_328.1, t134_330.1] F) H_331) H_331) fun t135_332 H_333 =>
  bindE (guardD (wantR false t132_326.1) (drawM (some t6_257) H_333) H_333) fun t136_334 H_335 =>
  bindE (guardD (wantR false t132_326.1) (drawM (some t1_253) H_335) H_335) fun t137_336 H_337 =>
  bindE (guardD (wantR false t132_326.1) (drawR false [t136_334.1, t137_336.1] (fun F => cf 24 [t136_334.1, t137_336.1] F) H_337) H_337) fun t138_338 H_339 =>
  bindE (guardD (wantR false t132_326.1) (drawR false [t135_332.1, t138_338.1] (fun F => cf 22 [t135_332.1, t138_338.1] F) H_339) H_339) fun t139_340 H_341 =>
  bindE (guardD (wantR false t132_326.1) (drawR true [t139_340.1] (fun F => mUn .not t139_340.1 F) H_341) H_341) fun t140_342 H_343 =>
  bindE (drawR true [t132_326.1, t140_342.1] (fun F => mPick t132_326.1 (AV.c (.bool true)) t140_342.1 F) H_343) fun t141_344 H_345 =>
  some (([t141_344.1], [t107_276.2, t108_278.2, t109_280.2, t110_282.2, t111_284.2, t112_286.2, t113_288.2, t114_290.2, t115_292.2, t116_294.2, t117_296.2, t118_298.2, t119_300.2, t120_302.2, t121_304.2, t122_306.2, t123_308.2, t124_310.2, t125_312.2, t126_314.2, t127_316.2, t128_318.2, t129_320.2, t130_322.2, t131_324.2, t132_326.2, t133_328.2, t134_330.2, t135_332.2, t136_334.2, t137_336.2, t138_338.2, t139_340.2, t140_342.2, t141_344.2]), H_345)
noncomputable def p5_l0_d2 (b : Bool) (cf : CallFn) (t6_12 t42_52 t8_26 : AV) (H_366 : Heap) : Option ((List AV × List Trail) × Heap) :=
  bindE (drawM (some t6_12) H_366) fun t47_367 H_368 =>
  bindE (drawR false [] (fun F => mBuildSl 5 1 (.int .u8 0) 0 [] F) H_368) fun t48_369 H_370 =>
  bindE (drawM (some t42_52) H_370) fun t49_371 H_372 =>
  bindE (drawR false [t48_369.1, t49_371.1] (fun F => mAppend 5 1 1 false t48_369.1 t49_371.1 F) H_372) fun t50_373 H_374 =>
  bindE (drawR false [] (fun F => mBuildSl 5 1 (.int .u8 0) 0 [] F) H_374) fun t51_375 H_376 =>
  bindE (drawR true [t8_26] (fun F => mFA 3 3 t8_26 F) H_376) fun t52_377 H_378 =>
  bindE (drawR true [t52_377.1] (fun F => mLoad false 1 t52_377.1 F) H_378) fun t53_379 H_380 =>
  bindE (drawR false [t51_375.1, t53_379.1] (fun F => mAppend 5 1 1 false t51_375.1 t53_379.1 F) H_380) fun t54_381 H_382 =>
  bindE (drawR false [t47_367.1, t50_373.1, t54_381.1] (fun F => cf 16 [t47_367.1, t50_373.1, t54_381.1] F) H_382) fun t55_383 H_384 =>
  bindE (drawM (some t55_383.1) H_384) fun t6_385 H_386 =>
  some (([t6_385.1], [t47_367.2, t48_369.2, t49_371.2, t50_373.2, t51_375.2, t52_377.2, t53_379.2, t54_381.2, t55_383.2, t6_385.2]), H_386)
noncomputable def p5_l0_d3 (b : Bool) (cf : CallFn) (t103_425 t106_427 t102_423 t6_411 t5_409 t1_407 : AV) (H_429 : Heap) : Option ((List AV × List Trail) × Heap) :=
  bindE (drawM (some t103_425) H_429) fun t107_430 H_431 =>
  bindE (drawM (some t106_427) H_431) fun t108_432 H_433 =>
  bindE (drawR true [t108_432.1] (fun F => mBin (cfg b) 3 true .geq t108_432.1 (AV.c (.int .i64 0)) F) H_433) fun t109_434 H_435 =>
  bindE (drawR true [t107_430.1, t109_434.1] (fun F => mBin (cfg b) 4 false .neq t107_430.1 t109_434.1 F) H_435) fun t110_436 H_437 =>
  bindE (drawM (some t110_436.1) H_437) fun t111_438 H_439 =>
  bindE (guardD (wantR false t111_438.1) (drawM (some t103_425) H_439) H_439) fun t112_440 H_441 =>
  bindE (guardD (wantR false t111_438.1) (drawM (some t112_440.1) H_441) H_441) fun t113_442 H_443 =>
  bindE (guardD (wantR true t113_442.1) (drawM (some t102_423) H_443) H_443) fun t114_444 H_445 =>
  bindE (guardD (wantR true t113_442.1) (drawR true [t114_444.1] (fun F => mConvBS t114_444.1 F) H_445) H_445) fun t115_446 H_447 =>
  bindE (guardD (wantR true t113_442.1) (drawM (some t6_411) H_447) H_447) fun t116_448 H_449 =>
  bindE (guardD (wantR true t113_442.1) (drawM (some t106_427) H_449) H_449) fun t117_450 H_451 =>
  bindE (guardD (wantR true t113_442.1) (drawR true [t116_448.1, t117_450.1] (fun F => mIdxS 2 t116_448.1 t117_450.1 F) H_451) H_451) fun t118_452 H_453 =>
  bindE (guardD (wantR true t113_442.1) (drawR true [t118_452.1] (fun F => mFA 1 1 t118_452.1 F) H_453) H_453) fun t119_454 H_455 =>
  bindE (guardD (wantR true t113_442.1) (drawR true [t119_454.1] (fun F => mLoad false 1 t119_454.1 F) H_455) H_455) fun t120_456 H_457 =>
  bindE (guardD (wantR true t113_442.1) (drawR true [t120_456.1] (fun F => mConvBS t120_456.1 F) H_457) H_457) fun t121_458 H_459 =>
  bindE (guardD (wantR true t113_442.1) (drawR true [t115_446.1, t121_458.1] (fun F => mBin (cfg b) 9 false .neq t115_446.1 t121_458.1 F) H_459) H_459) fun t122_460 H_461 =>
  bindE (guardD (wantR false t111_438.1) (drawR true [t113_442.1, t122_460.1] (fun F => mPick t113_442.1 t122_460.1 (AV.c (.bool false)) F) H_461) H_461) fun t123_462 H_463 =>
  bindE (drawR true [t111_438.1, t123_462.1] (fun F => mPick t111_438.1 (AV.c (.bool true)) t123_462.1 F) H_463) fun t124_464 H_465 =>
  bindE (drawM (some t124_464.1) H_465) fun t125_466 H_467 =>
  bindE (guardD (wantR false t125_466.1) (drawM (some t5_409) H_467) H_467) fun t126_468 H_469 =>
  bindE (guardD (wantR false t125_466.1) (drawR false [t126_468.1] (fun F => cf 23 [t126_468.1, (AV.c .nilsl)] F) H_469) H_469) fun t127_470 H_471 =>
  bindE (guardD (wantR false t125_466.1) (drawM (some t6_411) H_471) H_471) fun t128_472 H_473 =>
  bindE (guardD (wantR false t125_466.1) (drawR false [t127_470.1, t128_472.1] (fun F => cf 22 [t127_470.1, t128_472.1] F) H_473) H_473) fun t129_474 H_475 =>
  bindE (guardD (wantR false t125_466.1) (drawR true [t129_474.1] (fun F => mUn .not t129_474.1 F) H_475) H_475) fun t130_476 H_477 =>
  bindE (drawR true [t125_466.1, t130_476.1] (fun F => mPick t125_466.1 (AV.c (.bool true)) t130_476.1 F) H_477) fun t131_478 H_479 =>
  bindE (drawM (some t131_478.1) H_479) fun t132_480 H_481 =>
  bindE (guardD (wantR false t132_480.1) (drawM (some t5_409) H_481) H_481) fun t133_482 H_483 =>
  bindE (guardD (wantR false t132_480.1) (drawM (some t1_407) H_483) H_483) fun t134_484 H_485 =>
  bindE (guardD (wantR false t132_480.1) (drawR false [t133_482.1, t134_484.1] (fun F => cf 23 [t133_482.1, t134_484.1] F) H_485) H_485) fun t135_486 H_487 =>
  bindE (guardD (wantR false t132_480.1) (drawM (some t6_411) H_487) H_487) fun t136_488 H_489 =>
  bindE (guardD (wantR false t132_480.1) (drawM (some t1_407) H_489) H_489) fun t137_490 H_491 =>
  bindE (guardD (wantR false t132_480.1) (drawR false [t136_488.1, t137_490.1] (fun F => cf 24 [t136_488.1, t137_490.1] F) H_491) H_491) fun t138_492 H_493 =>
  bindE (guardD (wantR false t132_480.1) (drawR false [t135_486.1, t138_492.1] (fun F => cf 22 [t135_486.1, t138_492.1] F) H_493) H_493) fun t139_494 H_495 =>
  bindE (guardD (wantR false t132_480.1) (drawR true [t139_494.1] (fun F => mUn .not t139_494.1 F) H_495) H_495) fun t140_496 H_497 =>
  bindE (drawR true [t132_480.1, t140_496.1] (fun F => mPick t132_480.1 (AV.c (.bool true)) t140_496.1 F) H_497) fun t141_498 H_499 =>
  some (([t141_498.1], [t107_430.2, t108_432.2, t109_434.2, t110_436.2, t111_438.2, t112_440.2, t113_442.2, t114_444.2, t115_446.2, t116_448.2, t117_450.2, t118_452.2, t119_454.2, t120_456.2, t121_458.2, t122_460.2, t123_462.2, t124_464.2, t125_466.2, t126_468.2, t127_470.2, t128_472.2, t129_474.2, t130_476.2, t131_478.2, t132_480.2, t133_482.2, t134_484.2, t135_486.2, t136_488.2, t137_490.2, t138_492.2, t139_494.2, t140_496.2, t141_498.2]), H_499)
noncomputable def p5_l0_d4 (b : Bool) (cf : CallFn) (t103_534 t106_536 t102_532 t97_528 t5_10 t1_8 : AV) (H_538 : Heap) : Option ((List AV × List Trail) × Heap) :=
  bindE (drawM (some t103_534) H_538) fun t107_539 H_540 =>
  bindE (drawM (some t106_536) H_540) fun t108_541 H_542 =>
  bindE (drawR true [t108_541.1] (fun F => mBin (cfg b) 3 true .geq t108_541.1 (AV.c (.int .i64 0)) F) H_542) fun t109_543 H_544 =>
  bindE (drawR true [t107_539.1, t109_543.1] (fun F => mBin (cfg b) 4 false .neq t107_539.1 t109_543.1 F) H_544) fun t110_545 H_546 =>
  bindE (drawM (some t110_545.1) H_546) fun t111_547 H_548 =>
  bindE (guardD (wantR false t111_547.1) (drawM (some t103_534) H_548) H_548) fun t112_549 H_550 =>
  bindE (guardD (wantR false t111_547.1) (drawM (some t112_549.1) H_550) H_550) fun t113_551 H_552 =>
  bindE (guardD (wantR true t113_551.1) (drawM (some t102_532) H_552) H_552) fun t114_553 H_554 =>
  bindE (guardD (wantR true t113_551.1) (drawR true [t114_553.1] (fun F => mConvBS t114_553.1 F) H_554) H_554) fun t115_555 H_556 =>
  bindE (guardD (wantR true t113_551.1) (drawM (some t97_528) H_556) H_556) fun t116_557 H_558 =>
  bindE (guardD (wantR true t113_551.1) (drawM (some t106_536) H_558) H_558) fun t117_559 H_560 =>
  bindE (guardD (wantR true t113_551.1) (drawR true [t116_557.1, t117_559.1] (fun F => mIdxS 2 t116_557.1 t117_559.1 F) H_560) H_560) fun t118_561 H_562 =>
  bindE (guardD (wantR true t113_551.1) (drawR true [t118_561.1] (fun F => mFA 1 1 t118_561.1 F) H_562) H_562) fun t119_563 H_564 =>
  bindE (guardD (wantR true t113_551.1) (drawR true [t119_563.1] (fun F => mLoad false 1 t119_563.1 F) H_564) H_564) fun t120_565 H_566 =>
  bindE (guardD (wantR true t113_551.1) (drawR true [t120_565.1] (fun F => mConvBS t120_565.1 F) H_566) H_566) fun t121_567 H_568 =>
  bindE (guardD (wantR true t113_551.1) (drawR true [t115_555.1, t121_567.1] (fun F => mBin (cfg b) 9 false .neq t115_555.1 t121_567.1 F) H_568) H_568) fun t122_569 H_570 =>
  bindE (guardD (wantR false t111_547.1) (drawR true [t113_551.1, t122_569.1] (fun F => mPick t113_551.1 t122_569.1 (AV.c (.bool false)) F) H_570) H_570) fun t123_571 H_572 =>
  bindE (drawR true [t111_547.1, t123_571.1] (fun F => mPick t111_547.1 (AV.c (.bool true)) t123_571.1 F) H_572) fun t124_573 H_574 =>
  bindE (drawM (some t124_573.1) H_574) fun t125_575 H_576 =>
  bindE (guardD (wantR false t125_575.1) (drawM (some t5_10) H_576) H_576) fun t126_577 H_578 =>
  bindE (guardD (wantR false t125_575.1) (drawR false [t126_577.1] (fun F => cf 23 [t126_577.1, (AV.c .nilsl)] F) H_578) H_578) fun t127_579 H_580 =>
  bindE (guardD (wantR false t125_575.1) (drawM (some t97_528) H_580) H_580) fun t128_581 H_582 =>
  bindE (guardD (wantR false t125_575.1) (drawR false [t127_579.1, t128_581.1] (fun F => cf 22 [t127_579.1, t128_581.1] F) H_582) H_582) fun t129_583 H_584 =>
  bindE (guardD (wantR false t125_575.1) (drawR true [t129_583.1] (fun F => mUn .not t129_583.1 F) H_584) H_584) fun t130_585 H_586 =>
  bindE (drawR true [t125_575.1, t130_585.1] (fun F => mPick t125_575.1 (AV.c (.bool true)) t130_585.1 F) H_586) fun t131_587 H_588 =>
  bindE (drawM (some t131_587.1) H_588) fun t132_589 H_590 =>
  bindE (guardD (wantR false t132_589.1) (drawM (some t5_10) H_590) H_590) fun t133_591 H_592 =>
  bindE (guardD (wantR false t132_589.1) (drawM (some t1_8) H_592) H_592) fun t134_593 H_594 =>
  bindE (guardD (wantR false t132_589.1) (drawR false [t133_591.1, t134_593.1] (fun F => cf 23 [t133_591.1, t134_593.1] F) H_594) H_594) fun t135_595 H_596 =>
  bindE (guardD (wantR false t132_589.1) (drawM (some t97_528) H_596) H_596) fun t136_597 H_598 =>
  bindE (guardD (wantR false t132_589.1) (drawM (some t1_8) H_598) H_598) fun t137_599 H_600 =>
  bindE (guardD (wantR false t132_589.1) (drawR false [t136_597.1, t137_599.1] (fun F => cf 24 [t136_597.1, t137_599.1] F) H_600) H_600) fun t138_601 H_602 =>
  bindE (guardD (wantR false t132_589.1) (drawR false [t135_595.1, t138_601.1] (fun F => cf 22 [t135_595.1, t138_601.1] F) H_602) H_602) fun t139_603 H_604 =>
  bindE (guardD (wantR false t132_589.1) (drawR true [t139_603.1] (fun F => mUn .not t139_603.1 F) H_604) H_604) fun t140_605 H_606 =>
  bindE (drawR true [t132_589.1, t140_605.1] (fun F => mPick t132_589.1 (AV.c (.bool true)) t140_605.1 F) H_606) fun t141_607 H_608 =>
  some (([t141_607.1], [t107_539.2, t108_541.2, t109_543.2, t110_545.2, t111_547.2, t112_549.2, t113_551.2, t114_553.2, t115_555.2, t116_557.2, t117_559.2, t118_561.2, t119_563.2, t120_565.2, t121_567.2, t122_569.2, t123_571.2, t124_573.2, t125_575.2, t126_577.2, t127_579.2, t128_581.2, t129_583.2, t130_585.2, t131_587.2, t132_589.2, t133_591.2, t134_593.2, t135_595.2, t136_597.2, t137_599.2, t138_601.2, t139_603.2, t140_605.2, t141_607.2]), H_608)
noncomputable def p5_l0 (b : Bool) (cf : CallFn) (k : Nat) (s : List AV) (H : Heap) : Option (LStep × Heap) :=
  un s fun t1_8 vs_9 => un vs_9 fun t5_10 vs_11 => un vs_11 fun t6_12 vs_13 => un vs_13 fun t22_14 vs_15 => un vs_15 fun t23_16 vs_17 => un vs_17 fun t24_18 vs_19 => un0 vs_19 (bindE (mBin (cfg b) 3 false .lss t24_18 t23_16 H) fun t25_20 H_21 =>
  condR t25_20 (bindE (mIdxS 4 t22_14 t24_18 H_21) fun t27_22 H_23 =>
  bindE (mLoad true 4 t27_22 H_23) fun t28_24 H_25 =>
  bindE (mAlloc 49 (.agg [(.int .u8 0), (.int .u8 0), .nilsl, .nilsl]) H_25) fun t8_26 H_27 =>
  bindE (mStore true 4 t8_26 t28_24 H_27) fun u_28 H_29 =>
  bindE (mBin (cfg b) 3 true .gtr t24_18 (AV.c (.int .i64 80)) H_29) fun t30_30 H_31 =>
  bindE (guardR (wantR false t30_30) (mFA 2 2 t8_26 H_31) H_31) fun t32_32 H_33 =>
  bindE (guardR (wantR false t30_30) (mLoad false 1 t32_32 H_33) H_33) fun t33_34 H_35 =>
  bindE (guardR (wantR false t30_30) (mLenSl t33_34 H_35) H_35) fun t34_36 H_37 =>
  bindE (guardR (wantR false t30_30) (mFA 3 3 t8_26 H_37) H_37) fun t35_38 H_39 =>
  bindE (guardR (wantR false t30_30) (mLoad false 1 t35_38 H_39) H_39) fun t36_40 H_41 =>
  bindE (guardR (wantR false t30_30) (mLenSl t36_40 H_41) H_41) fun t37_42 H_43 =>
  bindE (guardR (wantR false t30_30) (mBin (cfg b) 3 false .add t34_36 t37_42 H_43) H_43) fun t38_44 H_45 =>
  bindE (guardR (wantR false t30_30) (mBin (cfg b) 3 true .gtr t38_44 (AV.c (.int .i64 1000)) H_45) H_45) fun t39_46 H_47 =>
  bindE (mPick t30_30 (AV.c (.bool true)) t39_46 H_47) fun t40_48 H_49 =>
  condR t40_48 (some (LStep.exit 0 [AV.any, t5_10], H_49)) (bindE (mLoad true 4 t8_26 H_49) fun t41_50 H_51 =>
  bindE (cf 15 [t41_50] H_51) fun t42_52 H_53 =>
  bindE (mFA 0 0 t8_26 H_53) fun t43_54 H_55 =>
  bindE (mLoad false 1 t43_54 H_55) fun t44_56 H_57 =>
  bindE (mBin (cfg b) 5 true .rem t44_56 (AV.c (.int .u8 6)) H_57) fun t45_58 H_59 =>
  bindE (mBin (cfg b) 5 true .lss t45_58 (AV.c (.int .u8 4)) H_59) fun t46_60 H_61 =>
  condR t46_60 (bindE (mLenSl t42_52 H_61) fun t58_62 H_63 =>
  bindE (mBin (cfg b) 3 true .gtr t58_62 (AV.c (.int .i64 96)) H_63) fun t59_64 H_65 =>
  condR t59_64 (bindE (mBuildSl 5 1 (.int .u8 0) 0 [] H_65) fun t65_66 H_67 =>
  bindE (mAppend 5 1 1 false t65_66 t42_52 H_67) fun t67_68 H_69 =>
  bindE (mFA 3 3 t8_26 H_69) fun t70_70 H_71 =>
  bindE (mLoad false 1 t70_70 H_71) fun t71_72 H_73 =>
  bindE (cf 17 [t5_10, t67_68, t71_72] H_73) fun t72_74 H_75 =>
  bindE (mBin (cfg b) 30 false .neq t72_74 (AV.c (.int .i64 10)) H_75) fun t74_76 H_77 =>
  condR t74_76 (some (LStep.ret [(AV.c (.bool false)), t5_10], H_77)) (bindE (mLenSl t67_68 H_77) fun t76_78 H_79 =>
  afterL 3 (loopX k (p5_l3 b cf k) [t1_8, t5_10, t6_12, t42_52, t67_68, t22_14, t23_16, t24_18, t76_78, (AV.c (.int .i64 0))] H_79) (fun vs_114 H_115 =>
  un vs_114 fun t1_116 vs_117 => un vs_117 fun t5_118 vs_119 => un vs_119 fun t6_120 vs_121 => un vs_121 fun t9_122 vs_123 => un vs_123 fun t22_124 vs_125 => un vs_125 fun t23_126 vs_127 => un vs_127 fun t24_128 vs_129 => un0 vs_129 (bindE (cf 21 [t5_118, t9_122] H_115) fun t101_130 H_131 =>
  bindE (mExtract 0 t101_130 H_131) fun t102_132 H_133 =>
  bindE (mExtract 1 t101_130 H_133) fun t103_134 H_135 =>
  bindE (cf 19 [t6_120, t9_122] H_135) fun t106_136 H_137 =>
  afterD (twice [0, 0, 2, 7, 15, 31, 63, 127, 255, 127, 127, 1663, 3711, 7807, 15999, 32767, 65535, 131071, 262143, 524287, 1048575, 524287, 4194303, 8388607, 16777215, 33554431, 67108863, 67108863, 268435455, 67108863, 67108863, 2147483647, 4294967295, 8589934591, 17179869183] (p5_l0_d0 b cf t103_134 t106_136 t102_132 t6_120 t5_118 t1_116) H_137) fun vs_209 H_210 =>
  un vs_209 fun t141_211 vs_212 => un0 vs_212 (condR t141_211 (some (LStep.ret [(AV.c (.bool false)), t5_118], H_210)) (pieceR pc5_32 [t5_118, AV.any] H_210 (bindE (mBin (cfg b) 3 true .add t24_128 (AV.c (.int .i64 1)) H_210) fun t164_213 H_214 =>
  some (LStep.cont [t1_116, t5_118, t6_120, t22_124, t23_126, t164_213], H_214)))))) (fun vs_114 H_115 => un vs_114 fun t1_215 vs_216 => un vs_216 fun t5_217 vs_218 => un vs_218 fun t6_219 vs_220 => un vs_220 fun t9_221 vs_222 => un vs_222 fun t22_223 vs_224 => un vs_224 fun t23_225 vs_226 => un vs_226 fun t24_227 vs_228 => un0 vs_228 (some (LStep.ret [AV.any, t5_217], H_115))))) (bindE (mFA 3 3 t8_26 H_65) fun t61_229 H_230 =>
  bindE (mLoad false 1 t61_229 H_230) fun t62_231 H_232 =>
  bindE (mLenSl t62_231 H_232) fun t63_233 H_234 =>
  bindE (mBin (cfg b) 3 true .gtr t63_233 (AV.c (.int .i64 256)) H_234) fun t64_235 H_236 =>
  condR t64_235 (bindE (mBuildSl 5 1 (.int .u8 0) 0 [] H_236) fun t65_237 H_238 =>
  bindE (mAppend 5 1 1 false t65_237 t42_52 H_238) fun t67_239 H_240 =>
  bindE (mFA 3 3 t8_26 H_240) fun t70_241 H_242 =>
  bindE (mLoad false 1 t70_241 H_242) fun t71_243 H_244 =>
  bindE (cf 17 [t5_10, t67_239, t71_243] H_244) fun t72_245 H_246 =>
  bindE (mBin (cfg b) 30 false .neq t72_245 (AV.c (.int .i64 3)) H_246) fun t74_247 H_248 =>
  condR t74_247 (some (LStep.ret [(AV.c (.bool false)), t5_10], H_248)) (bindE (mLenSl t67_239 H_248) fun t76_249 H_250 =>
  afterL 3 (loopX k (p5_l3 b cf k) [t1_8, t5_10, t6_12, t42_52, t67_239, t22_14, t23_16, t24_18, t76_249, (AV.c (.int .i64 0))] H_250) (fun vs_251 H_252 =>
  un vs_251 fun t1_253 vs_254 => un vs_254 fun t5_255 vs_256 => un vs_256 fun t6_257 vs_258 => un vs_258 fun t9_259 vs_260 => un vs_260 fun t22_261 vs_262 => un vs_262 fun t23_263 vs_264 => un vs_264 fun t24_265 vs_266 => un0 vs_266 (bindE (cf 21 [t5_255, t9_259] H_252) fun t101_267 H_268 =>
  bindE (mExtract 0 t101_267 H_268) fun t102_269 H_270 =>
  bindE (mExtract 1 t101_267 H_270) fun t103_271 H_272 =>
  bindE (cf 19 [t6_257, t9_259] H_272) fun t106_273 H_274 =>
  afterD (twice [0, 0, 2, 7, 15, 31, 63, 127, 255, 127, 127, 1663, 3711, 7807, 15999, 32767, 65535, 131071, 262143, 524287, 1048575, 524287, 4194303, 8388607, 16777215, 33554431, 67108863, 67108863, 268435455, 67108863, 67108863, 2147483647, 4294967295, 8589934591, 17179869183] (p5_l0_d1 b cf t103_271 t106_273 t102_269 t6_257 t5_255 t1_253) H_274) fun vs_346 H_347 =>
  un vs_346 fun t141_348 vs_349 => un0 vs_349 (condR t141_348 (some (LStep.ret [(AV.c (.bool false)), t5_255], H_347)) (pieceR pc5_32 [t5_255, AV.any] H_347 (bindE (mBin (cfg b) 3 true .add t24_265 (AV.c (.int .i64 1)) H_347) fun t164_350 H_351 =>
  some (LStep.cont [t1_253, t5_255, t6_257, t22_261, t23_263, t164_350], H_351)))))) (fun vs_251 H_252 => un vs_251 fun t1_352 vs_353 => un vs_353 fun t5_354 vs_355 => un vs_355 fun t6_356 vs_357 => un vs_357 fun t9_358 vs_359 => un vs_359 fun t22_360 vs_361 => un vs_361 fun t23_362 vs_363 => un vs_363 fun t24_364 vs_365 => un0 vs_365 (some (LStep.ret [AV.any, t5_354], H_252))))) (afterD (twice [0, 0, 0, 6, 0, 0, 32, 126, 255, 511] (p5_l0_d2 b cf t6_12 t42_52 t8_26) H_236) fun vs_387 H_388 =>
  un vs_387 fun t6_389 vs_390 => un0 vs_390 (bindE (mBuildSl 5 1 (.int .u8 0) 0 [] H_388) fun t65_391 H_392 =>
  bindE (mAppend 5 1 1 false t65_391 t42_52 H_392) fun t67_393 H_394 =>
  bindE (mFA 3 3 t8_26 H_394) fun t70_395 H_396 =>
  bindE (mLoad false 1 t70_395 H_396) fun t71_397 H_398 =>
  bindE (cf 17 [t5_10, t67_393, t71_397] H_398) fun t72_399 H_400 =>
  bindE (mBin (cfg b) 30 false .neq t72_399 (AV.c (.int .i64 0)) H_400) fun t74_401 H_402 =>
  condR t74_401 (some (LStep.ret [(AV.c (.bool false)), t5_10], H_402)) (bindE (mLenSl t67_393 H_402) fun t76_403 H_404 =>
  afterL 3 (loopX k (p5_l3 b cf k) [t1_8, t5_10, t6_389, t42_52, t67_393, t22_14, t23_16, t24_18, t76_403, (AV.c (.int .i64 0))] H_404) (fun vs_405 H_406 =>
  un vs_405 fun t1_407 vs_408 => un vs_408 fun t5_409 vs_410 => un vs_410 fun t6_411 vs_412 => un vs_412 fun t9_413 vs_414 => un vs_414 fun t22_415 vs_416 => un vs_416 fun t23_417 vs_418 => un vs_418 fun t24_419 vs_420 => un0 vs_420 (bindE (cf 21 [t5_409, t9_413] H_406) fun t101_421 H_422 =>
  bindE (mExtract 0 t101_421 H_422) fun t102_423 H_424 =>
  bindE (mExtract 1 t101_421 H_424) fun t103_425 H_426 =>
  bindE (cf 19 [t6_411, t9_413] H_426) fun t106_427 H_428 =>
  afterD (twice [0, 0, 2, 7, 15, 31, 63, 127, 255, 127, 127, 1663, 3711, 7807, 15999, 32767, 65535, 131071, 262143, 524287, 1048575, 524287, 4194303, 8388607, 16777215, 33554431, 67108863, 67108863, 268435455, 67108863, 67108863, 2147483647, 4294967295, 8589934591, 17179869183] (p5_l0_d3 b cf t103_425 t106_427 t102_423 t6_411 t5_409 t1_407) H_428) fun vs_500 H_501 =>
  un vs_500 fun t141_502 vs_503 => un0 vs_503 (condR t141_502 (some (LStep.ret [(AV.c (.bool false)), t5_409], H_501)) (pieceR pc5_32 [t5_409, AV.any] H_501 (bindE (mBin (cfg b) 3 true .add t24_419 (AV.c (.int .i64 1)) H_501) fun t164_504 H_505 =>
  some (LStep.cont [t1_407, t5_409, t6_411, t22_415, t23_417, t164_504], H_505)))))) (fun vs_405 H_406 => un vs_405 fun t1_506 vs_507 => un vs_507 fun t5_508 vs_509 => un vs_509 fun t6_510 vs_511 => un vs_511 fun t9_512 vs_513 => un vs_513 fun t22_514 vs_515 => un vs_515 fun t23_516 vs_517 => un vs_517 fun t24_518 vs_519 => un0 vs_519 (some (LStep.ret [AV.any, t5_508], H_406)))))))) (bindE (cf 18 [t5_10, t42_52] H_61) fun t89_520 H_521 =>
  bindE (cf 19 [t6_12, t42_52] H_521) fun t92_522 H_523 =>
  bindE (mBin (cfg b) 3 true .geq t92_522 (AV.c (.int .i64 0)) H_523) fun t93_524 H_525 =>
  bindE (mBin (cfg b) 4 false .neq t89_520 t93_524 H_525) fun t94_526 H_527 =>
  condR t94_526 (some (LStep.ret [(AV.c (.bool false)), t5_10], H_527)) (bindE (cf 20 [t6_12, t42_52] H_527) fun t97_528 H_529 =>
  bindE (cf 21 [t5_10, t42_52] H_529) fun t101_530 H_531 =>
  bindE (mExtract 0 t101_530 H_531) fun t102_532 H_533 =>
  bindE (mExtract 1 t101_530 H_533) fun t103_534 H_535 =>
  bindE (cf 19 [t97_528, t42_52] H_535) fun t106_536 H_537 =>
  afterD (twice [0, 0, 2, 7, 15, 31, 63, 127, 255, 127, 127, 1663, 3711, 7807, 15999, 32767, 65535, 131071, 262143, 524287, 1048575, 524287, 4194303, 8388607, 16777215, 33554431, 67108863, 67108863, 268435455, 67108863, 67108863, 2147483647, 4294967295, 8589934591, 17179869183] (p5_l0_d4 b cf t103_534 t106_536 t102_532 t97_528 t5_10 t1_8) H_537) fun vs_609 H_610 =>
  un vs_609 fun t141_611 vs_612 => un0 vs_612 (condR t141_611 (some (LStep.ret [(AV.c (.bool false)), t5_10], H_610)) (pieceR pc5_32 [t5_10, AV.any] H_610 (bindE (mBin (cfg b) 3 true .add t24_18 (AV.c (.int .i64 1)) H_610) fun t164_613 H_614 =>
  some (LStep.cont [t1_8, t5_10, t97_528, t22_14, t23_16, t164_613], H_614)))))))) (some (LStep.exit 0 [AV.any, t5_10], H_21)))
/-- ferryman/ferrymanlaw16.KvPlays -/
noncomputable def p5 (b : Bool) (cf : CallFn) (k : Nat) (t0 t1 : AV) (H : Heap) : Option (AV × Heap) :=
  bindE (cf 13 [] H) fun t19_0 H_1 =>
  bindE (mUn .not t19_0 H_1) fun t20_2 H_3 =>
  condR t20_2 (endQ (cfg b) false k (resC1 (some (AV.c (.bool false))) (some [])) H_3) (bindE (cf 14 [] H_3) fun t21_4 H_5 =>
  bindE (mLenSl t0 H_5) fun t23_6 H_7 =>
  afterL 0 (loopX k (p5_l0 b cf k) [t1, t21_4, (AV.c .nilsl), t0, t23_6, (AV.c (.int .i64 0))] H_7) (fun vs_615 H_616 =>
  un vs_615 fun t4_617 vs_618 => un vs_618 fun t5_619 vs_620 => un0 vs_620 (bindE (cf 17 [t5_619, (AV.c .nilsl), (AV.c .nilsl)] H_616) fun t166_621 H_622 =>
  bindE (mBin (cfg b) 30 true .eql t166_621 (AV.c (.int .i64 10)) H_622) fun t167_623 H_624 =>
  endQ (cfg b) false k (resC1 (some t167_623) (some [])) H_624)) (fun vs_615 H_616 => un vs_615 fun t4_625 vs_626 => un vs_626 fun t5_627 vs_628 => un0 vs_628 (endQ (cfg b) false k (resC1 (some t4_625) (some [])) H_616)))
theorem p5_eq (b : Bool) (cf : CallFn) (t0 t1 : AV) (H : Heap) : runG (cfg b) cf An 5 [t0, t1] H = p5 b cf H.length t0 t1 H := by kernel_rfl
end Go.Fm
