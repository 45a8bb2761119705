/-
  A part of the proof: DLaw12.
-/
import Derived.Test.YtjmjijgnbjkpnaaDoorDAnn
set_option linter.all false
set_option autoImplicit true
/-
  What the interpreter does to functions, without slots and types; the kernel holds it against the code.
-/
set_option maxRecDepth 100000
set_option linter.unusedVariables false
namespace Go.Fm
open Go Go.Proofs

noncomputable def p12_d (b : Bool) (cf : CallFn) (t113_110 t116_112 t112_108 t107_104 T N : AV) (H_114 : Heap) : Option ((List AV × List Trail) × Heap) :=
  bindE (drawR true [t113_110] (fun F => some (t113_110, F)) H_114) fun t117_115 H_116 =>
  bindE (drawR true [t116_112] (fun F => some (t116_112, F)) H_116) fun t118_117 H_118 =>
  bindE (drawR true [t118_117.1] (fun F => mBin (cfg b) 3 true .geq t118_117.1 (AV.c (.int .i64 0)) F) H_118) fun t119_119 H_120 =>
  bindE (drawR true [t117_115.1, t119_119.1] (fun F => mBin (cfg b) 4 false .neq t117_115.1 t119_119.1 F) H_120) fun t120_121 H_122 =>
  bindE (drawR true [t120_121.1] (fun F => some (t120_121.1, F)) H_122) fun t121_123 H_124 =>
  bindE (guardD (wantR false t121_123.1) (drawR true [t113_110] (fun F => some (t113_110, F)) H_124) H_124) fun t122_125 H_126 =>
  bindE (guardD (wantR false t121_123.1) (drawR true [t122_125.1] (fun F => some (t122_125.1, F)) H_126) H_126) fun t123_127 H_128 =>
  bindE (guardD (wantR true t123_127.1) (drawR true [t112_108] (fun F => some (t112_108, F)) H_128) H_128) fun t124_129 H_130 =>
  bindE (guardD (wantR true t123_127.1) (drawR true [t124_129.1] (fun F => mConvBS t124_129.1 F) H_130) H_130) fun t125_131 H_132 =>
  bindE (guardD (wantR true t123_127.1) (drawR true [t107_104] (fun F => some (t107_104, F)) H_132) H_132) fun t126_133 H_134 =>
  bindE (guardD (wantR true t123_127.1) (drawR true [t116_112] (fun F => some (t116_112, F)) H_134) H_134) fun t127_135 H_136 =>
  bindE (guardD (wantR true t123_127.1) (drawR true [t126_133.1, t127_135.1] (fun F => mIdxS 2 t126_133.1 t127_135.1 F) H_136) H_136) fun t128_137 H_138 =>
  bindE (guardD (wantR true t123_127.1) (drawR true [t128_137.1] (fun F => mFA 1 1 t128_137.1 F) H_138) H_138) fun t129_139 H_140 =>
  bindE (guardD (wantR true t123_127.1) (drawR true [t129_139.1] (fun F => mLoad false 1 t129_139.1 F) H_140) H_140) fun t130_141 H_142 =>
  bindE (guardD (wantR true t123_127.1) (drawR true [t130_141.1] (fun F => mConvBS t130_141.1 F) H_142) H_142) fun t131_143 H_144 =>
  bindE (guardD (wantR true t123_127.1) (drawR true [t125_131.1, t131_143.1] (fun F => mBin (cfg b) 9 false .neq t125_131.1 t131_143.1 F) H_144) H_144) fun t132_145 H_146 =>
  bindE (guardD (wantR false t121_123.1) (drawR true [t123_127.1, t132_145.1] (fun F => mPick t123_127.1 t132_145.1 (AV.c (.bool false)) F) H_146) H_146) fun t133_147 H_148 =>
  bindE (drawR true [t121_123.1, t133_147.1] (fun F => mPick t121_123.1 (AV.c (.bool true)) t133_147.1 F) H_148) fun t134_149 H_150 =>
  bindE (drawR true [t134_149.1] (fun F => some (t134_149.1, F)) H_150) fun t135_151 H_152 =>
  bindE (guardD (wantR false t135_151.1) (drawR true [t113_110] (fun F => some (t113_110, F)) H_152) H_152) fun t136_153 H_154 =>
  bindE (guardD (wantR false t135_151.1) (drawR true [t136_153.1] (fun F => mUn .not t136_153.1 F) H_154) H_154) fun t137_155 H_156 =>
  bindE (guardD (wantR false t135_151.1) (drawR true [t137_155.1] (fun F => some (t137_155.1, F)) H_156) H_156) fun t138_157 H_158 =>
  bindE (guardD (wantR true t138_157.1) (drawR true [t112_108] (fun F => some (t112_108, F)) H_158) H_158) fun t139_159 H_160 =>
  bindE (guardD (wantR true t138_157.1) (drawR true [t139_159.1] (fun F => mLenSl t139_159.1 F) H_160) H_160) fun t140_161 H_162 =>
  bindE (guardD (wantR true t138_157.1) (drawR true [t140_161.1] (fun F => mBin (cfg b) 3 true .gtr t140_161.1 (AV.c (.int .i64 0)) F) H_162) H_162) fun t141_163 H_164 =>
  bindE (guardD (wantR false t135_151.1) (drawR true [t138_157.1, t141_163.1] (fun F => mPick t138_157.1 t141_163.1 (AV.c (.bool false)) F) H_164) H_164) fun t142_165 H_166 =>
  bindE (drawR true [t135_151.1, t142_165.1] (fun F => mPick t135_151.1 (AV.c (.bool true)) t142_165.1 F) H_166) fun t143_167 H_168 =>
  bindE (drawR true [t143_167.1] (fun F => some (t143_167.1, F)) H_168) fun t144_169 H_170 =>
  bindE (guardD (wantR false t144_169.1) (drawR true [T] (fun F => some (T, F)) H_170) H_170) fun t145_171 H_172 =>
  bindE (guardD (wantR false t144_169.1) (drawR false [t145_171.1] (fun F => cf 47 [t145_171.1] F) H_172) H_172) fun t146_173 H_174 =>
  bindE (guardD (wantR false t144_169.1) (drawR true [t107_104] (fun F => some (t107_104, F)) H_174) H_174) fun t147_175 H_176 =>
  bindE (guardD (wantR false t144_169.1) (drawR true [t147_175.1] (fun F => mLenSl t147_175.1 F) H_176) H_176) fun t148_177 H_178 =>
  bindE (guardD (wantR false t144_169.1) (drawR true [t146_173.1, t148_177.1] (fun F => mBin (cfg b) 3 false .neq t146_173.1 t148_177.1 F) H_178) H_178) fun t149_179 H_180 =>
  bindE (drawR true [t144_169.1, t149_179.1] (fun F => mPick t144_169.1 (AV.c (.bool true)) t149_179.1 F) H_180) fun t150_181 H_182 =>
  bindE (drawR true [t150_181.1] (fun F => some (t150_181.1, F)) H_182) fun t151_183 H_184 =>
  bindE (guardD (wantR false t151_183.1) (drawR true [T] (fun F => some (T, F)) H_184) H_184) fun t152_185 H_186 =>
  bindE (guardD (wantR false t151_183.1) (drawR false [t152_185.1] (fun F => cf 51 [t152_185.1] F) H_186) H_186) fun t153_187 H_188 =>
  bindE (guardD (wantR false t151_183.1) (drawR true [t107_104] (fun F => some (t107_104, F)) H_188) H_188) fun t154_189 H_190 =>
  bindE (guardD (wantR false t151_183.1) (drawR false [t153_187.1, t154_189.1] (fun F => cf 50 [t153_187.1, t154_189.1] F) H_190) H_190) fun t155_191 H_192 =>
  bindE (guardD (wantR false t151_183.1) (drawR true [t155_191.1] (fun F => mUn .not t155_191.1 F) H_192) H_192) fun t156_193 H_194 =>
  bindE (drawR true [t151_183.1, t156_193.1] (fun F => mPick t151_183.1 (AV.c (.bool true)) t156_193.1 F) H_194) fun t157_195 H_196 =>
  bindE (drawR true [t157_195.1] (fun F => some (t157_195.1, F)) H_196) fun t158_197 H_198 =>
  bindE (guardD (wantR false t158_197.1) (drawR true [T] (fun F => some (T, F)) H_198) H_198) fun t159_199 H_200 =>
  bindE (guardD (wantR false t158_197.1) (drawR false [t159_199.1] (fun F => cf 37 [t159_199.1] F) H_200) H_200) fun t160_201 H_202 =>
  bindE (guardD (wantR false t158_197.1) (drawR true [N] (fun F => some (N, F)) H_202) H_202) fun t161_203 H_204 =>
  bindE (guardD (wantR false t158_197.1) (drawR false [t161_203.1] (fun F => cf 64 [t161_203.1] F) H_204) H_204) fun t162_205 H_206 =>
  bindE (guardD (wantR false t158_197.1) (drawR true [t160_201.1, t162_205.1] (fun F => mBin (cfg b) 41 false .neq t160_201.1 t162_205.1 F) H_206) H_206) fun t163_207 H_208 =>
  bindE (drawR true [t158_197.1, t163_207.1] (fun F => mPick t158_197.1 (AV.c (.bool true)) t163_207.1 F) H_208) fun t164_209 H_210 =>
  some (([t164_209.1], [t117_115.2, t118_117.2, t119_119.2, t120_121.2, t121_123.2, t122_125.2, t123_127.2, t124_129.2, t125_131.2, t126_133.2, t127_135.2, t128_137.2, t129_139.2, t130_141.2, t131_143.2, t132_145.2, t133_147.2, t134_149.2, t135_151.2, t136_153.2, t137_155.2, t138_157.2, t139_159.2, t140_161.2, t141_163.2, t142_165.2, t143_167.2, t144_169.2, t145_171.2, t146_173.2, t147_175.2, t148_177.2, t149_179.2, t150_181.2, t151_183.2, t152_185.2, t153_187.2, t154_189.2, t155_191.2, t156_193.2, t157_195.2, t158_197.2, t159_199.2, t160_201.2, t161_203.2, t162_205.2, t163_207.2, t164_209.2]), H_210)
noncomputable def p12_t (b : Bool) (cf : CallFn) (k : Nat) (T N t41_50 t21_12 t22_14 t23_16 : AV) (H : Heap) : Option (LStep × Heap) :=
  bindE (cf 43 [N, (AV.c .nilsl)] H) fun t107_104 H_105 =>
  bindE (cf 63 [T, t41_50] H_105) fun t111_106 H_107 =>
  bindE (mExtract 0 t111_106 H_107) fun t112_108 H_109 =>
  bindE (mExtract 1 t111_106 H_109) fun t113_110 H_111 =>
  bindE (cf 42 [t107_104, t41_50] H_111) fun t116_112 H_113 =>
  afterD (twice [0, 0, 2, 7, 15, 31, 63, 127, 255, 127, 127, 1663, 3711, 7807, 15999, 32767, 65535, 131071, 262143, 524287, 1048575, 2097151, 4194303, 8388607, 16777215, 33554431, 67108863, 134217727, 268435455, 536870911, 268435455, 1342177279, 4294967295, 8589934591, 17179869183, 34359738367, 68719476735, 34359738367, 274877906943, 549755813887, 1099511627775, 2199023255551, 4398046511103, 8796093022207, 4398046511103, 35184372088831, 70368744177663, 140737488355327] (p12_d b cf t113_110 t116_112 t112_108 t107_104 T N) H_113) fun vs_211 H_212 =>
  un vs_211 fun t164_213 vs_214 => un0 vs_214 (condR t164_213 (some (LStep.ret [(AV.c (.bool false)), T, N], H_212)) (bindE (mBin (cfg b) 3 true .add t23_16 (AV.c (.int .i64 1)) H_212) fun t165_215 H_216 =>
  some (LStep.cont [T, N, t21_12, t22_14, t165_215], H_216)))
noncomputable def p12_l0 (b : Bool) (cf : CallFn) (k : Nat) (s : List AV) (H : Heap) : Option (LStep × Heap) :=
  un s fun t3_8 vs_9 => un vs_9 fun t4_10 vs_11 => un vs_11 fun t21_12 vs_13 => un vs_13 fun t22_14 vs_15 => un vs_15 fun t23_16 vs_17 => un0 vs_17 (bindE (mBin (cfg b) 3 false .lss t23_16 t22_14 H) fun t24_18 H_19 =>
  condR t24_18 (bindE (mIdxS 4 t21_12 t23_16 H_19) fun t26_20 H_21 =>
  bindE (mLoad true 4 t26_20 H_21) fun t27_22 H_23 =>
  bindE (mAlloc 48 (.agg [(.int .u8 0), (.int .u8 0), .nilsl, .nilsl]) H_23) fun t6_24 H_25 =>
  bindE (mStore true 4 t6_24 t27_22 H_25) fun u_26 H_27 =>
  bindE (mBin (cfg b) 3 true .gtr t23_16 (AV.c (.int .i64 60)) H_27) fun t29_28 H_29 =>
  bindE (guardR (wantR false t29_28) (mFA 2 2 t6_24 H_29) H_29) fun t31_30 H_31 =>
  bindE (guardR (wantR false t29_28) (mLoad false 1 t31_30 H_31) H_31) fun t32_32 H_33 =>
  bindE (guardR (wantR false t29_28) (mLenSl t32_32 H_33) H_33) fun t33_34 H_35 =>
  bindE (guardR (wantR false t29_28) (mFA 3 3 t6_24 H_35) H_35) fun t34_36 H_37 =>
  bindE (guardR (wantR false t29_28) (mLoad false 1 t34_36 H_37) H_37) fun t35_38 H_39 =>
  bindE (guardR (wantR false t29_28) (mLenSl t35_38 H_39) H_39) fun t36_40 H_41 =>
  bindE (guardR (wantR false t29_28) (mBin (cfg b) 3 false .add t33_34 t36_40 H_41) H_41) fun t37_42 H_43 =>
  bindE (guardR (wantR false t29_28) (mBin (cfg b) 3 true .gtr t37_42 (AV.c (.int .i64 1000)) H_43) H_43) fun t38_44 H_45 =>
  bindE (mPick t29_28 (AV.c (.bool true)) t38_44 H_45) fun t39_46 H_47 =>
  condR t39_46 (some (LStep.exit 0 [AV.any, t3_8, t4_10], H_47)) (bindE (mLoad true 4 t6_24 H_47) fun t40_48 H_49 =>
  bindE (cf 35 [t40_48] H_49) fun t41_50 H_51 =>
  bindE (cf 43 [t4_10, (AV.c .nilsl)] H_51) fun t43_52 H_53 =>
  bindE (cf 42 [t43_52, t41_50] H_53) fun t45_54 H_55 =>
  bindE (mFA 0 0 t6_24 H_55) fun t46_56 H_57 =>
  bindE (mLoad false 1 t46_56 H_57) fun t47_58 H_59 =>
  bindE (mBin (cfg b) 5 true .rem t47_58 (AV.c (.int .u8 6)) H_59) fun t48_60 H_61 =>
  bindE (mBin (cfg b) 5 true .lss t48_60 (AV.c (.int .u8 4)) H_61) fun t49_62 H_63 =>
  condR t49_62 (bindE (mLenSl t41_50 H_63) fun t52_64 H_65 =>
  bindE (mBin (cfg b) 3 true .gtr t52_64 (AV.c (.int .i64 96)) H_65) fun t53_66 H_67 =>
  condR t53_66 (bindE (mFA 3 3 t6_24 H_67) fun t62_68 H_69 =>
  bindE (mLoad false 1 t62_68 H_69) fun t63_70 H_71 =>
  bindE (cf 36 [t3_8, t41_50, t63_70] H_71) fun t64_72 H_73 =>
  bindE (mExtract 0 t64_72 H_73) fun t65_74 H_75 =>
  bindE (mExtract 1 t64_72 H_75) fun t66_76 H_77 =>
  bindE (mBin (cfg b) 25 false .neq t66_76 (AV.c (.int .i64 10)) H_77) fun t69_78 H_79 =>
  bindE (guardR (wantR false t69_78) (some (t65_74, H_79)) H_79) fun t71_80 H_81 =>
  bindE (guardR (wantR false t69_78) (mBin (cfg b) 28 true .eql t71_80 (AV.c .nilp) H_81) H_81) fun t72_82 H_83 =>
  bindE (guardR (wantR false t69_78) (some (t66_76, H_83)) H_83) fun t73_84 H_85 =>
  bindE (guardR (wantR false t69_78) (mBin (cfg b) 25 true .neq t73_84 (AV.c (.int .i64 0)) H_85) H_85) fun t74_86 H_87 =>
  bindE (guardR (wantR false t69_78) (mBin (cfg b) 4 false .neq t72_82 t74_86 H_87) H_87) fun t75_88 H_89 =>
  bindE (mPick t69_78 (AV.c (.bool true)) t75_88 H_89) fun t76_90 H_91 =>
  condR t76_90 (some (LStep.ret [(AV.c (.bool false)), t3_8, t4_10], H_91)) (bindE (mBin (cfg b) 25 true .eql t66_76 (AV.c (.int .i64 0)) H_91) fun t78_92 H_93 =>
  condR t78_92 (bindE (mBuildSl 5 1 (.int .u8 0) 0 [] H_93) fun t82_94 H_95 =>
  bindE (mFA 3 3 t6_24 H_95) fun t83_96 H_97 =>
  bindE (mLoad false 1 t83_96 H_97) fun t84_98 H_99 =>
  bindE (mAppend 5 1 1 false t82_94 t84_98 H_99) fun t85_100 H_101 =>
  bindE (cf 41 [t4_10, t41_50, t85_100] H_101) fun t86_102 H_103 =>
  p12_t b cf k t65_74 t86_102 t41_50 t21_12 t22_14 t23_16 H_103) (p12_t b cf k t3_8 t4_10 t41_50 t21_12 t22_14 t23_16 H_93))) (bindE (mFA 3 3 t6_24 H_67) fun t55_330 H_331 =>
  bindE (mLoad false 1 t55_330 H_331) fun t56_332 H_333 =>
  bindE (mLenSl t56_332 H_333) fun t57_334 H_335 =>
  bindE (mBin (cfg b) 3 true .gtr t57_334 (AV.c (.int .i64 256)) H_335) fun t58_336 H_337 =>
  condR t58_336 (bindE (mFA 3 3 t6_24 H_337) fun t62_338 H_339 =>
  bindE (mLoad false 1 t62_338 H_339) fun t63_340 H_341 =>
  bindE (cf 36 [t3_8, t41_50, t63_340] H_341) fun t64_342 H_343 =>
  bindE (mExtract 0 t64_342 H_343) fun t65_344 H_345 =>
  bindE (mExtract 1 t64_342 H_345) fun t66_346 H_347 =>
  bindE (mBin (cfg b) 25 false .neq t66_346 (AV.c (.int .i64 3)) H_347) fun t69_348 H_349 =>
  bindE (guardR (wantR false t69_348) (some (t65_344, H_349)) H_349) fun t71_350 H_351 =>
  bindE (guardR (wantR false t69_348) (mBin (cfg b) 28 true .eql t71_350 (AV.c .nilp) H_351) H_351) fun t72_352 H_353 =>
  bindE (guardR (wantR false t69_348) (some (t66_346, H_353)) H_353) fun t73_354 H_355 =>
  bindE (guardR (wantR false t69_348) (mBin (cfg b) 25 true .neq t73_354 (AV.c (.int .i64 0)) H_355) H_355) fun t74_356 H_357 =>
  bindE (guardR (wantR false t69_348) (mBin (cfg b) 4 false .neq t72_352 t74_356 H_357) H_357) fun t75_358 H_359 =>
  bindE (mPick t69_348 (AV.c (.bool true)) t75_358 H_359) fun t76_360 H_361 =>
  condR t76_360 (some (LStep.ret [(AV.c (.bool false)), t3_8, t4_10], H_361)) (bindE (mBin (cfg b) 25 true .eql t66_346 (AV.c (.int .i64 0)) H_361) fun t78_362 H_363 =>
  condR t78_362 (bindE (mBuildSl 5 1 (.int .u8 0) 0 [] H_363) fun t82_364 H_365 =>
  bindE (mFA 3 3 t6_24 H_365) fun t83_366 H_367 =>
  bindE (mLoad false 1 t83_366 H_367) fun t84_368 H_369 =>
  bindE (mAppend 5 1 1 false t82_364 t84_368 H_369) fun t85_370 H_371 =>
  bindE (cf 41 [t4_10, t41_50, t85_370] H_371) fun t86_372 H_373 =>
  p12_t b cf k t65_344 t86_372 t41_50 t21_12 t22_14 t23_16 H_373) (p12_t b cf k t3_8 t4_10 t41_50 t21_12 t22_14 t23_16 H_363))) (bindE (mFA 3 3 t6_24 H_337) fun t62_600 H_601 =>
  bindE (mLoad false 1 t62_600 H_601) fun t63_602 H_603 =>
  bindE (cf 36 [t3_8, t41_50, t63_602] H_603) fun t64_604 H_605 =>
  bindE (mExtract 0 t64_604 H_605) fun t65_606 H_607 =>
  bindE (mExtract 1 t64_604 H_607) fun t66_608 H_609 =>
  bindE (mBin (cfg b) 25 false .neq t66_608 (AV.c (.int .i64 0)) H_609) fun t69_610 H_611 =>
  bindE (guardR (wantR false t69_610) (some (t65_606, H_611)) H_611) fun t71_612 H_613 =>
  bindE (guardR (wantR false t69_610) (mBin (cfg b) 28 true .eql t71_612 (AV.c .nilp) H_613) H_613) fun t72_614 H_615 =>
  bindE (guardR (wantR false t69_610) (some (t66_608, H_615)) H_615) fun t73_616 H_617 =>
  bindE (guardR (wantR false t69_610) (mBin (cfg b) 25 true .neq t73_616 (AV.c (.int .i64 0)) H_617) H_617) fun t74_618 H_619 =>
  bindE (guardR (wantR false t69_610) (mBin (cfg b) 4 false .neq t72_614 t74_618 H_619) H_619) fun t75_620 H_621 =>
  bindE (mPick t69_610 (AV.c (.bool true)) t75_620 H_621) fun t76_622 H_623 =>
  condR t76_622 (some (LStep.ret [(AV.c (.bool false)), t3_8, t4_10], H_623)) (bindE (mBin (cfg b) 25 true .eql t66_608 (AV.c (.int .i64 0)) H_623) fun t78_624 H_625 =>
  condR t78_624 (bindE (mBuildSl 5 1 (.int .u8 0) 0 [] H_625) fun t82_626 H_627 =>
  bindE (mFA 3 3 t6_24 H_627) fun t83_628 H_629 =>
  bindE (mLoad false 1 t83_628 H_629) fun t84_630 H_631 =>
  bindE (mAppend 5 1 1 false t82_626 t84_630 H_631) fun t85_632 H_633 =>
  bindE (cf 41 [t4_10, t41_50, t85_632] H_633) fun t86_634 H_635 =>
  p12_t b cf k t65_606 t86_634 t41_50 t21_12 t22_14 t23_16 H_635) (p12_t b cf k t3_8 t4_10 t41_50 t21_12 t22_14 t23_16 H_625))))) (bindE (cf 61 [t3_8, t41_50] H_63) fun t90_862 H_863 =>
  bindE (mExtract 0 t90_862 H_863) fun t91_864 H_865 =>
  bindE (mExtract 1 t90_862 H_865) fun t92_866 H_867 =>
  bindE (mBin (cfg b) 3 true .geq t45_54 (AV.c (.int .i64 0)) H_867) fun t95_868 H_869 =>
  bindE (mBin (cfg b) 4 false .neq t92_866 t95_868 H_869) fun t96_870 H_871 =>
  bindE (guardR (wantR false t96_870) (some (t91_864, H_871)) H_871) fun t98_872 H_873 =>
  bindE (guardR (wantR false t96_870) (mBin (cfg b) 28 true .eql t98_872 (AV.c .nilp) H_873) H_873) fun t99_874 H_875 =>
  bindE (mPick t96_870 (AV.c (.bool true)) t99_874 H_875) fun t100_876 H_877 =>
  condR t100_876 (some (LStep.ret [(AV.c (.bool false)), t3_8, t4_10], H_877)) (condR t92_866 (bindE (cf 44 [t4_10, t41_50] H_877) fun t105_878 H_879 =>
  p12_t b cf k t91_864 t105_878 t41_50 t21_12 t22_14 t23_16 H_879) (p12_t b cf k t91_864 t4_10 t41_50 t21_12 t22_14 t23_16 H_877))))) (some (LStep.exit 0 [AV.any, t3_8, t4_10], H_19)))
/-- ferryman/ferrymanlaw05.TreePlays -/
noncomputable def p12 (b : Bool) (cf : CallFn) (k : Nat) (t0 : AV) (H : Heap) : Option (AV × Heap) :=
  bindE (cf 38 [] H) fun t18_0 H_1 =>
  bindE (mUn .not t18_0 H_1) fun t19_2 H_3 =>
  condR t19_2 (endQ (cfg b) false k (resC1 (some (AV.c (.bool false))) (some [])) H_3) (bindE (cf 26 [] H_3) fun t20_4 H_5 =>
  bindE (mLenSl t0 H_5) fun t22_6 H_7 =>
  afterL 0 (loopX k (p12_l0 b cf k) [t20_4, (AV.c .nilp), t0, t22_6, (AV.c (.int .i64 0))] H_7) (fun vs_1106 H_1107 =>
  un vs_1106 fun t2_1108 vs_1109 => un vs_1109 fun t3_1110 vs_1111 => un vs_1111 fun t4_1112 vs_1113 => un0 vs_1113 (bindE (cf 66 [t3_1110] H_1107) fun t167_1114 H_1115 =>
  bindE (cf 67 [t4_1112, (AV.c .nilsl)] H_1115) fun t169_1116 H_1117 =>
  bindE (cf 65 [t167_1114, t169_1116] H_1117) fun t170_1118 H_1119 =>
  endQ (cfg b) false k (resC1 (some t170_1118) (some [])) H_1119)) (fun vs_1106 H_1107 => un vs_1106 fun t2_1120 vs_1121 => un vs_1121 fun t3_1122 vs_1123 => un vs_1123 fun t4_1124 vs_1125 => un0 vs_1125 (endQ (cfg b) false k (resC1 (some t2_1120) (some [])) H_1107)))

theorem p12_eq (b : Bool) (cf : CallFn) (t0 : AV) (H : Heap) : runG (cfg b) cf An 12 [t0] H = p12 b cf H.length t0 H := by kernel_rfl

end Go.Fm

