/-
  A part of the proof: DLaw9.
-/
import Derived.Test.YtjmjijgnbjkpnaaDoorDAnn
set_option linter.all false
set_option autoImplicit true
/-
  What the interpreter does to functions, without slots and types; the kernel holds it against the code.
-/
set_option maxRecDepth 100000
set_option linter.unusedVariables false
namespace Go.Fm
open Go Go.Proofs

noncomputable def p9_l0 (b : Bool) (cf : CallFn) (k : Nat) (s : List AV) (H : Heap) : Option (LStep × Heap) :=
  un s fun t3_12 vs_13 => un vs_13 fun t4_14 vs_15 => un vs_15 fun t5_16 vs_17 => un vs_17 fun t6_18 vs_19 => un0 vs_19 (bindE (mLenSl t5_16 H) fun t26_20 H_21 =>
  bindE (mBin (cfg b) 3 true .gtr t26_20 (AV.c (.int .i64 0)) H_21) fun t27_22 H_23 =>
  bindE (guardR (wantR true t27_22) (some (t4_14, H_23)) H_23) fun t29_24 H_25 =>
  bindE (guardR (wantR true t27_22) (mLenSl t29_24 H_25) H_25) fun t30_26 H_27 =>
  bindE (guardR (wantR true t27_22) (mBin (cfg b) 3 true .gtr t30_26 (AV.c (.int .i64 0)) H_27) H_27) fun t31_28 H_29 =>
  bindE (mPick t27_22 t31_28 (AV.c (.bool false)) H_29) fun t32_30 H_31 =>
  condR t32_30 (bindE (mIdxS 1 t5_16 (AV.c (.int .i64 0)) H_31) fun t34_32 H_33 =>
  bindE (mLoad false 1 t34_32 H_33) fun t35_34 H_35 =>
  bindE (mSliceSl 1 t5_16 (some (AV.c (.int .i64 1))) none H_35) fun t37_36 H_37 =>
  bindE (cf 45 [t3_12, t35_34] H_37) fun t41_38 H_39 =>
  bindE (mExtract 0 t41_38 H_39) fun t42_40 H_41 =>
  bindE (mExtract 1 t41_38 H_41) fun t43_42 H_43 =>
  bindE (mAlloc 66 (.agg [.nilsl, .nilsl, (.int .i64 0), (.int .u64 0), (.arr 32 .u8 (List.replicate 32 0)), (.arr 32 .u8 (List.replicate 32 0))]) H_43) fun t8_44 H_45 =>
  bindE (mStore true 68 t8_44 t42_40 H_45) fun u_46 H_47 =>
  bindE (mUn .not t43_42 H_47) fun t45_48 H_49 =>
  condR t45_48 (some (LStep.ret [(AV.c (.bool false)), t3_12, t4_14, t6_18], H_49)) (bindE (mFA 2 2 t8_44 H_49) fun t46_50 H_51 =>
  bindE (mLoad false 1 t46_50 H_51) fun t47_52 H_53 =>
  bindE (mBin (cfg b) 3 true .eql t47_52 (AV.c (.int .i64 0)) H_53) fun t48_54 H_55 =>
  condR t48_54 (bindE (mBin (cfg b) 3 true .add t6_18 (AV.c (.int .i64 1)) H_55) fun t50_56 H_57 =>
  some (LStep.cont [t3_12, t4_14, t37_36, t50_56], H_57)) (bindE (mBuildSl 4 1 (.bool false) 0 [] H_55) fun t51_58 H_59 =>
  bindE (mAppend 4 1 1 false t51_58 t35_34 H_59) fun t53_60 H_61 =>
  bindE (mBuildSl 4 1 (.bool false) 1 [(0, (AV.c (.bool false)))] H_61) fun t54_62 H_63 =>
  bindE (mAppend 4 1 1 false t53_60 t54_62 H_63) fun t55_64 H_65 =>
  bindE (mBuildSl 4 1 (.bool false) 0 [] H_65) fun t56_66 H_67 =>
  bindE (mAppend 4 1 1 false t56_66 t35_34 H_67) fun t58_68 H_69 =>
  bindE (mBuildSl 4 1 (.bool false) 1 [(0, (AV.c (.bool true)))] H_69) fun t59_70 H_71 =>
  bindE (mAppend 4 1 1 false t58_68 t59_70 H_71) fun t60_72 H_73 =>
  bindE (cf 45 [t3_12, t55_64] H_73) fun t64_74 H_75 =>
  bindE (mExtract 0 t64_74 H_75) fun t65_76 H_77 =>
  bindE (mExtract 1 t64_74 H_77) fun t66_78 H_79 =>
  bindE (mAlloc 66 (.agg [.nilsl, .nilsl, (.int .i64 0), (.int .u64 0), (.arr 32 .u8 (List.replicate 32 0)), (.arr 32 .u8 (List.replicate 32 0))]) H_79) fun t12_80 H_81 =>
  bindE (mStore true 68 t12_80 t65_76 H_81) fun u_82 H_83 =>
  bindE (cf 45 [t3_12, t60_72] H_83) fun t70_84 H_85 =>
  bindE (mExtract 0 t70_84 H_85) fun t71_86 H_87 =>
  bindE (mExtract 1 t70_84 H_87) fun t72_88 H_89 =>
  bindE (mAlloc 66 (.agg [.nilsl, .nilsl, (.int .i64 0), (.int .u64 0), (.arr 32 .u8 (List.replicate 32 0)), (.arr 32 .u8 (List.replicate 32 0))]) H_89) fun t14_90 H_91 =>
  bindE (mStore true 68 t14_90 t71_86 H_91) fun u_92 H_93 =>
  bindE (mFA 2 2 t12_80 H_93) fun t73_94 H_95 =>
  bindE (mLoad false 1 t73_94 H_95) fun t74_96 H_97 =>
  bindE (mFA 2 2 t14_90 H_97) fun t75_98 H_99 =>
  bindE (mLoad false 1 t75_98 H_99) fun t76_100 H_101 =>
  bindE (mBin (cfg b) 3 false .sub t74_96 t76_100 H_101) fun t77_102 H_103 =>
  afterD (twice [0, 1, 3, 7, 15, 31, 63, 127, 255, 511, 1023, 2047, 4095, 2047, 10239, 2047, 34815, 124927, 255999, 524287, 1048575, 2097151, 4194303, 8388607, 4194303, 20971519, 4194303, 71303167, 255852543, 536870911, 1073741823, 2147483647, 4294967295, 8589934591, 4294967295, 21474836479, 68719476735, 137438953471, 274877906943, 549755813887, 1099511627775, 549755813887, 2748779069439, 8796093022207, 17592186044415] (fun H_104 => bindE (drawR true [t72_88] (fun F => some (t72_88, F)) H_104) fun t78_105 H_106 =>
  bindE (drawR true [t78_105.1] (fun F => mUn .not t78_105.1 F) H_106) fun t79_107 H_108 =>
  bindE (drawR true [t79_107.1] (fun F => some (t79_107.1, F)) H_108) fun t80_109 H_110 =>
  bindE (guardD (wantR false t80_109.1) (drawR true [t77_102] (fun F => some (t77_102, F)) H_110) H_110) fun t81_111 H_112 =>
  bindE (guardD (wantR false t80_109.1) (drawR true [t81_111.1] (fun F => mBin (cfg b) 3 true .lss t81_111.1 (AV.c (.int .i64 (-1))) F) H_112) H_112) fun t82_113 H_114 =>
  bindE (drawR true [t80_109.1, t82_113.1] (fun F => mPick t80_109.1 (AV.c (.bool true)) t82_113.1 F) H_114) fun t83_115 H_116 =>
  bindE (drawR true [t83_115.1] (fun F => some (t83_115.1, F)) H_116) fun t84_117 H_118 =>
  bindE (guardD (wantR false t84_117.1) (drawR true [t77_102] (fun F => some (t77_102, F)) H_118) H_118) fun t85_119 H_120 =>
  bindE (guardD (wantR false t84_117.1) (drawR true [t85_119.1] (fun F => mBin (cfg b) 3 true .gtr t85_119.1 (AV.c (.int .i64 1)) F) H_120) H_120) fun t86_121 H_122 =>
  bindE (drawR true [t84_117.1, t86_121.1] (fun F => mPick t84_117.1 (AV.c (.bool true)) t86_121.1 F) H_122) fun t87_123 H_124 =>
  bindE (drawR true [t87_123.1] (fun F => some (t87_123.1, F)) H_124) fun t88_125 H_126 =>
  bindE (guardD (wantR false t88_125.1) (drawR true [t8_44] (fun F => mFA 2 2 t8_44 F) H_126) H_126) fun t89_127 H_128 =>
  bindE (guardD (wantR false t88_125.1) (drawR true [t89_127.1] (fun F => mLoad false 1 t89_127.1 F) H_128) H_128) fun t90_129 H_130 =>
  bindE (guardD (wantR false t88_125.1) (drawR true [t12_80] (fun F => mFA 2 2 t12_80 F) H_130) H_130) fun t91_131 H_132 =>
  bindE (guardD (wantR false t88_125.1) (drawR true [t91_131.1] (fun F => mLoad false 1 t91_131.1 F) H_132) H_132) fun t92_133 H_134 =>
  bindE (guardD (wantR false t88_125.1) (drawR true [t14_90] (fun F => mFA 2 2 t14_90 F) H_134) H_134) fun t93_135 H_136 =>
  bindE (guardD (wantR false t88_125.1) (drawR true [t93_135.1] (fun F => mLoad false 1 t93_135.1 F) H_136) H_136) fun t94_137 H_138 =>
  bindE (guardD (wantR false t88_125.1) (drawR true [t92_133.1, t94_137.1] (fun F => mMax [t92_133.1, t94_137.1] F) H_138) H_138) fun t95_139 H_140 =>
  bindE (guardD (wantR false t88_125.1) (drawR true [t95_139.1] (fun F => mBin (cfg b) 3 true .add (AV.c (.int .i64 1)) t95_139.1 F) H_140) H_140) fun t96_141 H_142 =>
  bindE (guardD (wantR false t88_125.1) (drawR true [t90_129.1, t96_141.1] (fun F => mBin (cfg b) 3 false .neq t90_129.1 t96_141.1 F) H_142) H_142) fun t97_143 H_144 =>
  bindE (drawR true [t88_125.1, t97_143.1] (fun F => mPick t88_125.1 (AV.c (.bool true)) t97_143.1 F) H_144) fun t98_145 H_146 =>
  bindE (drawR true [t98_145.1] (fun F => some (t98_145.1, F)) H_146) fun t99_147 H_148 =>
  bindE (guardD (wantR false t99_147.1) (drawR true [t8_44] (fun F => mFA 3 3 t8_44 F) H_148) H_148) fun t100_149 H_150 =>
  bindE (guardD (wantR false t99_147.1) (drawR true [t100_149.1] (fun F => mLoad false 1 t100_149.1 F) H_150) H_150) fun t101_151 H_152 =>
  bindE (guardD (wantR false t99_147.1) (drawR true [t12_80] (fun F => mFA 3 3 t12_80 F) H_152) H_152) fun t102_153 H_154 =>
  bindE (guardD (wantR false t99_147.1) (drawR true [t102_153.1] (fun F => mLoad false 1 t102_153.1 F) H_154) H_154) fun t103_155 H_156 =>
  bindE (guardD (wantR false t99_147.1) (drawR true [t14_90] (fun F => mFA 3 3 t14_90 F) H_156) H_156) fun t104_157 H_158 =>
  bindE (guardD (wantR false t99_147.1) (drawR true [t104_157.1] (fun F => mLoad false 1 t104_157.1 F) H_158) H_158) fun t105_159 H_160 =>
  bindE (guardD (wantR false t99_147.1) (drawR true [t103_155.1, t105_159.1] (fun F => mBin (cfg b) 22 false .add t103_155.1 t105_159.1 F) H_160) H_160) fun t106_161 H_162 =>
  bindE (guardD (wantR false t99_147.1) (drawR true [t101_151.1, t106_161.1] (fun F => mBin (cfg b) 22 false .neq t101_151.1 t106_161.1 F) H_162) H_162) fun t107_163 H_164 =>
  bindE (drawR true [t99_147.1, t107_163.1] (fun F => mPick t99_147.1 (AV.c (.bool true)) t107_163.1 F) H_164) fun t108_165 H_166 =>
  bindE (drawR true [t108_165.1] (fun F => some (t108_165.1, F)) H_166) fun t109_167 H_168 =>
  bindE (guardD (wantR false t109_167.1) (drawR true [t8_44] (fun F => mFA 4 4 t8_44 F) H_168) H_168) fun t110_169 H_170 =>
  bindE (guardD (wantR false t109_167.1) (drawR true [t110_169.1] (fun F => mLoad true 32 t110_169.1 F) H_170) H_170) fun t111_171 H_172 =>
  bindE (guardD (wantR false t109_167.1) (drawR true [t12_80] (fun F => mLoad true 68 t12_80 F) H_172) H_172) fun t112_173 H_174 =>
  bindE (guardD (wantR false t109_167.1) (drawR false [t112_173.1] (fun F => cf 49 [t112_173.1] F) H_174) H_174) fun t113_175 H_176 =>
  bindE (guardD (wantR false t109_167.1) (drawR true [t111_171.1, t113_175.1] (fun F => mBin (cfg b) 41 false .neq t111_171.1 t113_175.1 F) H_176) H_176) fun t114_177 H_178 =>
  bindE (drawR true [t109_167.1, t114_177.1] (fun F => mPick t109_167.1 (AV.c (.bool true)) t114_177.1 F) H_178) fun t115_179 H_180 =>
  bindE (drawR true [t115_179.1] (fun F => some (t115_179.1, F)) H_180) fun t116_181 H_182 =>
  bindE (guardD (wantR false t116_181.1) (drawR true [t8_44] (fun F => mFA 5 36 t8_44 F) H_182) H_182) fun t117_183 H_184 =>
  bindE (guardD (wantR false t116_181.1) (drawR true [t117_183.1] (fun F => mLoad true 32 t117_183.1 F) H_184) H_184) fun t118_185 H_186 =>
  bindE (guardD (wantR false t116_181.1) (drawR true [t14_90] (fun F => mLoad true 68 t14_90 F) H_186) H_186) fun t119_187 H_188 =>
  bindE (guardD (wantR false t116_181.1) (drawR false [t119_187.1] (fun F => cf 49 [t119_187.1] F) H_188) H_188) fun t120_189 H_190 =>
  bindE (guardD (wantR false t116_181.1) (drawR true [t118_185.1, t120_189.1] (fun F => mBin (cfg b) 41 false .neq t118_185.1 t120_189.1 F) H_190) H_190) fun t121_191 H_192 =>
  bindE (drawR true [t116_181.1, t121_191.1] (fun F => mPick t116_181.1 (AV.c (.bool true)) t121_191.1 F) H_192) fun t122_193 H_194 =>
  some (([t122_193.1], [t78_105.2, t79_107.2, t80_109.2, t81_111.2, t82_113.2, t83_115.2, t84_117.2, t85_119.2, t86_121.2, t87_123.2, t88_125.2, t89_127.2, t90_129.2, t91_131.2, t92_133.2, t93_135.2, t94_137.2, t95_139.2, t96_141.2, t97_143.2, t98_145.2, t99_147.2, t100_149.2, t101_151.2, t102_153.2, t103_155.2, t104_157.2, t105_159.2, t106_161.2, t107_163.2, t108_165.2, t109_167.2, t110_169.2, t111_171.2, t112_173.2, t113_175.2, t114_177.2, t115_179.2, t116_181.2, t117_183.2, t118_185.2, t119_187.2, t120_189.2, t121_191.2, t122_193.2]), H_194)) H_103) fun vs_195 H_196 =>
  un vs_195 fun t122_197 vs_198 => un0 vs_198 (condR t122_197 (some (LStep.ret [(AV.c (.bool false)), t3_12, t4_14, t6_18], H_196)) (bindE (mBuildSl 53 1 .nilsl 2 [(0, t55_64), (1, t60_72)] H_196) fun t126_199 H_200 =>
  bindE (mAppend 53 1 24 false t37_36 t126_199 H_200) fun t127_201 H_202 =>
  some (LStep.cont [t3_12, t4_14, t127_201, t6_18], H_202)))))) (some (LStep.exit 0 [AV.any, t3_12, t4_14, t6_18], H_31)))
/-- ferryman/ferrymanlaw05.TreeBalance -/
noncomputable def p9 (b : Bool) (cf : CallFn) (k : Nat) (t0 : AV) (H : Heap) : Option (AV × Heap) :=
  bindE (cf 38 [] H) fun t17_0 H_1 =>
  bindE (mUn .not t17_0 H_1) fun t18_2 H_3 =>
  condR t18_2 (endQ (cfg b) false k (resC1 (some (AV.c (.bool false))) (some [])) H_3) (bindE (cf 39 [t0, (AV.c (.int .i64 80))] H_3) fun t21_4 H_5 =>
  bindE (mExtract 0 t21_4 H_5) fun t22_6 H_7 =>
  bindE (mExtract 1 t21_4 H_7) fun t23_8 H_9 =>
  bindE (mBuildSl 53 1 .nilsl 1 [(0, (AV.c .nilsl))] H_9) fun t24_10 H_11 =>
  afterL 0 (loopX k (p9_l0 b cf k) [t22_6, t23_8, t24_10, (AV.c (.int .i64 0))] H_11) (fun vs_203 H_204 =>
  un vs_203 fun t2_205 vs_206 => un vs_206 fun t3_207 vs_208 => un vs_208 fun t4_209 vs_210 => un vs_210 fun t6_211 vs_212 => un0 vs_212 (bindE (mLenSl t4_209 H_204) fun t130_213 H_214 =>
  bindE (mBin (cfg b) 3 false .eql t6_211 t130_213 H_214) fun t131_215 H_216 =>
  bindE (guardR (wantR true t131_215) (some (t3_207, H_216)) H_216) fun t133_217 H_218 =>
  bindE (guardR (wantR true t131_215) (cf 51 [t133_217] H_218) H_218) fun t134_219 H_220 =>
  bindE (guardR (wantR true t131_215) (some (t4_209, H_220)) H_220) fun t135_221 H_222 =>
  bindE (guardR (wantR true t131_215) (cf 50 [t134_219, t135_221] H_222) H_222) fun t136_223 H_224 =>
  bindE (mPick t131_215 t136_223 (AV.c (.bool false)) H_224) fun t137_225 H_226 =>
  endQ (cfg b) false k (resC1 (some t137_225) (some [])) H_226)) (fun vs_203 H_204 => un vs_203 fun t2_227 vs_228 => un vs_228 fun t3_229 vs_230 => un vs_230 fun t4_231 vs_232 => un vs_232 fun t6_233 vs_234 => un0 vs_234 (endQ (cfg b) false k (resC1 (some t2_227) (some [])) H_204)))

theorem p9_eq (b : Bool) (cf : CallFn) (t0 : AV) (H : Heap) : runG (cfg b) cf An 9 [t0] H = p9 b cf H.length t0 H := by kernel_rfl

end Go.Fm

