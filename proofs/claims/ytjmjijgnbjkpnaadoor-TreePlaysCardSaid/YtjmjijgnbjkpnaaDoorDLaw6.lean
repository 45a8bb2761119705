/-
  A part of the proof: DLaw6.
-/
import Derived.Test.YtjmjijgnbjkpnaaDoorDAnn
set_option linter.all false
set_option autoImplicit true
/-
  What the interpreter does to functions, without slots and types; the kernel holds it against the code.
-/
set_option maxRecDepth 100000
set_option linter.unusedVariables false
namespace Go.Fm
open Go Go.Proofs

noncomputable def p6_l0 (b : Bool) (cf : CallFn) (k : Nat) (s : List AV) (H : Heap) : Option (LStep × Heap) :=
  un s fun t1_18 vs_19 => un vs_19 fun t5_20 vs_21 => un vs_21 fun t6_22 vs_23 => un vs_23 fun t7_24 vs_25 => un vs_25 fun t26_26 vs_27 => un vs_27 fun t27_28 vs_29 => un vs_29 fun t28_30 vs_31 => un0 vs_31 (bindE (mBin (cfg b) 3 false .lss t28_30 t27_28 H) fun t29_32 H_33 =>
  condR t29_32 (bindE (mIdxS 4 t26_26 t28_30 H_33) fun t31_34 H_35 =>
  bindE (mLoad true 4 t31_34 H_35) fun t32_36 H_37 =>
  bindE (mAlloc 48 (.agg [(.int .u8 0), (.int .u8 0), .nilsl, .nilsl]) H_37) fun t9_38 H_39 =>
  bindE (mStore true 4 t9_38 t32_36 H_39) fun u_40 H_41 =>
  bindE (mBin (cfg b) 3 true .geq t28_30 (AV.c (.int .i64 60)) H_41) fun t34_42 H_43 =>
  bindE (guardR (wantR false t34_42) (mLoad true 4 t9_38 H_43) H_43) fun t36_44 H_45 =>
  bindE (guardR (wantR false t34_42) (cf 35 [t36_44] H_45) H_45) fun t37_46 H_47 =>
  bindE (guardR (wantR false t34_42) (mLenSl t37_46 H_47) H_47) fun t38_48 H_49 =>
  bindE (guardR (wantR false t34_42) (mBin (cfg b) 3 true .gtr t38_48 (AV.c (.int .i64 90)) H_49) H_49) fun t39_50 H_51 =>
  bindE (mPick t34_42 (AV.c (.bool true)) t39_50 H_51) fun t40_52 H_53 =>
  condR t40_52 (some (LStep.exit 0 [t1_18, t5_20, t6_22, t7_24], H_53)) (bindE (mFA 3 3 t9_38 H_53) fun t41_54 H_55 =>
  bindE (mLoad false 1 t41_54 H_55) fun t42_56 H_57 =>
  bindE (mFA 3 3 t9_38 H_57) fun t43_58 H_59 =>
  bindE (mLoad false 1 t43_58 H_59) fun t44_60 H_61 =>
  bindE (mLenSl t44_60 H_61) fun t45_62 H_63 =>
  bindE (mMin [t45_62, (AV.c (.int .i64 100))] H_63) fun t46_64 H_65 =>
  bindE (mSliceSl 1 t42_56 none (some t46_64) H_65) fun t47_66 H_67 =>
  bindE (mFA 0 0 t9_38 H_67) fun t48_68 H_69 =>
  bindE (mLoad false 1 t48_68 H_69) fun t49_70 H_71 =>
  bindE (mBin (cfg b) 5 true .rem t49_70 (AV.c (.int .u8 6)) H_71) fun t50_72 H_73 =>
  bindE (mBin (cfg b) 5 true .lss t50_72 (AV.c (.int .u8 4)) H_73) fun t51_74 H_75 =>
  condR t51_74 (bindE (mLoad true 4 t9_38 H_75) fun t53_76 H_77 =>
  bindE (cf 35 [t53_76] H_77) fun t54_78 H_79 =>
  bindE (cf 41 [t7_24, t54_78, t47_66] H_79) fun t56_80 H_81 =>
  bindE (mBin (cfg b) 3 true .add t28_30 (AV.c (.int .i64 1)) H_81) fun t67_82 H_83 =>
  some (LStep.cont [t1_18, t5_20, t6_22, t56_80, t26_26, t27_28, t67_82], H_83)) (afterD (twice [0, 1, 0, 7, 15, 31] (fun H_84 => bindE (drawR true [t7_24] (fun F => some (t7_24, F)) H_84) fun t57_85 H_86 =>
  bindE (drawR false [t57_85.1] (fun F => cf 43 [t57_85.1, (AV.c .nilsl)] F) H_86) fun t58_87 H_88 =>
  bindE (drawR true [t9_38] (fun F => mLoad true 4 t9_38 F) H_88) fun t59_89 H_90 =>
  bindE (drawR false [t59_89.1] (fun F => cf 35 [t59_89.1] F) H_90) fun t60_91 H_92 =>
  bindE (drawR false [t58_87.1, t60_91.1] (fun F => cf 42 [t58_87.1, t60_91.1] F) H_92) fun t61_93 H_94 =>
  bindE (drawR true [t61_93.1] (fun F => mBin (cfg b) 3 true .geq t61_93.1 (AV.c (.int .i64 0)) F) H_94) fun t62_95 H_96 =>
  some (([t62_95.1], [t57_85.2, t58_87.2, t59_89.2, t60_91.2, t61_93.2, t62_95.2]), H_96)) H_75) fun vs_97 H_98 =>
  un vs_97 fun t62_99 vs_100 => un0 vs_100 (condR t62_99 (bindE (mLoad true 4 t9_38 H_98) fun t64_101 H_102 =>
  bindE (cf 35 [t64_101] H_102) fun t65_103 H_104 =>
  bindE (cf 44 [t7_24, t65_103] H_104) fun t66_105 H_106 =>
  bindE (mBin (cfg b) 3 true .add t28_30 (AV.c (.int .i64 1)) H_106) fun t67_107 H_108 =>
  some (LStep.cont [t1_18, t5_20, t6_22, t66_105, t26_26, t27_28, t67_107], H_108)) (bindE (mBin (cfg b) 3 true .add t28_30 (AV.c (.int .i64 1)) H_98) fun t67_109 H_110 =>
  some (LStep.cont [t1_18, t5_20, t6_22, t7_24, t26_26, t27_28, t67_109], H_110)))))) (some (LStep.exit 0 [t1_18, t5_20, t6_22, t7_24], H_33)))
noncomputable def p6_l2 (b : Bool) (cf : CallFn) (k : Nat) (s : List AV) (H : Heap) : Option (LStep × Heap) :=
  un s fun t1_123 vs_124 => un vs_124 fun t5_125 vs_126 => un vs_126 fun t6_127 vs_128 => un vs_128 fun t7_129 vs_130 => un vs_130 fun t68_131 vs_132 => un vs_132 fun t69_133 vs_134 => un vs_134 fun t70_135 vs_136 => un0 vs_136 (bindE (mBin (cfg b) 3 false .lss t70_135 t69_133 H) fun t71_137 H_138 =>
  condR t71_137 (bindE (mIdxS 1 t68_131 t70_135 H_138) fun t72_139 H_140 =>
  bindE (mLoad false 1 t72_139 H_140) fun t73_141 H_142 =>
  bindE (mBin (cfg b) 57 true .eql t7_129 (AV.c .nilp) H_142) fun t75_143 H_144 =>
  bindE (guardR (wantR false t75_143) (some (t7_129, H_144)) H_144) fun t77_145 H_146 =>
  bindE (guardR (wantR false t75_143) (mNil t77_145 H_146) H_146) fun t78_147 H_148 =>
  bindE (guardR (wantR false t75_143) (mFA 2 2 t78_147 H_148) H_148) fun t79_149 H_150 =>
  bindE (guardR (wantR false t75_143) (mLoad false 1 t79_149 H_150) H_150) fun t80_151 H_152 =>
  bindE (guardR (wantR false t75_143) (mBin (cfg b) 3 true .eql t80_151 (AV.c (.int .i64 0)) H_152) H_152) fun t81_153 H_154 =>
  bindE (mPick t75_143 (AV.c (.bool true)) t81_153 H_154) fun t82_155 H_156 =>
  condR t82_155 (some (LStep.exit 2 [t1_123, t5_125, t6_127, (AV.c .nilp)], H_156)) (condR t73_141 (bindE (mNil t7_129 H_156) fun t85_157 H_158 =>
  bindE (mFA 5 5 t85_157 H_158) fun t86_159 H_160 =>
  bindE (mLoad false 1 t86_159 H_160) fun t87_161 H_162 =>
  bindE (mBin (cfg b) 3 true .add t70_135 (AV.c (.int .i64 1)) H_162) fun t92_163 H_164 =>
  some (LStep.cont [t1_123, t5_125, t6_127, t87_161, t68_131, t69_133, t92_163], H_164)) (bindE (mNil t7_129 H_156) fun t89_165 H_166 =>
  bindE (mFA 4 4 t89_165 H_166) fun t90_167 H_168 =>
  bindE (mLoad false 1 t90_167 H_168) fun t91_169 H_170 =>
  bindE (mBin (cfg b) 3 true .add t70_135 (AV.c (.int .i64 1)) H_170) fun t92_171 H_172 =>
  some (LStep.cont [t1_123, t5_125, t6_127, t91_169, t68_131, t69_133, t92_171], H_172)))) (some (LStep.exit 2 [t1_123, t5_125, t6_127, t7_129], H_138)))
/-- ferryman/ferrymanlaw05.TreeWays -/
noncomputable def p6 (b : Bool) (cf : CallFn) (k : Nat) (t0 t1 : AV) (H : Heap) : Option (AV × Heap) :=
  bindE (cf 38 [] H) fun t15_0 H_1 =>
  bindE (mUn .not t15_0 H_1) fun t16_2 H_3 =>
  condR t16_2 (endQ (cfg b) false k (resC1 (some (AV.c (.bool false))) (some [])) H_3) (bindE (mLenSl t1 H_3) fun t18_4 H_5 =>
  bindE (mBin (cfg b) 3 true .gtr t18_4 (AV.c (.int .i64 100)) H_5) fun t19_6 H_7 =>
  condR t19_6 (endQ (cfg b) false k (resC1 (some (AV.c (.bool true))) (some [])) H_7) (bindE (cf 39 [t0, (AV.c (.int .i64 60))] H_7) fun t22_8 H_9 =>
  bindE (mExtract 0 t22_8 H_9) fun t23_10 H_11 =>
  bindE (mExtract 1 t22_8 H_11) fun t24_12 H_13 =>
  bindE (cf 40 [(AV.c .nilsl)] H_13) fun t25_14 H_15 =>
  bindE (mLenSl t0 H_15) fun t27_16 H_17 =>
  afterL 0 (loopX k (p6_l0 b cf k) [t1, t23_10, t24_12, t25_14, t0, t27_16, (AV.c (.int .i64 0))] H_17) (fun vs_111 H_112 =>
  un vs_111 fun t1_113 vs_114 => un vs_114 fun t5_115 vs_116 => un vs_116 fun t6_117 vs_118 => un vs_118 fun t7_119 vs_120 => un0 vs_120 (bindE (mLenSl t1_113 H_112) fun t69_121 H_122 =>
  afterL 2 (loopX k (p6_l2 b cf k) [t1_113, t5_115, t6_117, t7_119, t1_113, t69_121, (AV.c (.int .i64 0))] H_122) (fun vs_173 H_174 =>
  un vs_173 fun t1_175 vs_176 => un vs_176 fun t5_177 vs_178 => un vs_178 fun t6_179 vs_180 => un vs_180 fun t7_181 vs_182 => un0 vs_182 (bindE (cf 45 [t5_177, t1_175] H_174) fun t96_183 H_184 =>
  bindE (mExtract 0 t96_183 H_184) fun t97_185 H_186 =>
  bindE (mExtract 1 t96_183 H_186) fun t98_187 H_188 =>
  bindE (mAlloc 66 (.agg [.nilsl, .nilsl, (.int .i64 0), (.int .u64 0), (.arr 32 .u8 (List.replicate 32 0)), (.arr 32 .u8 (List.replicate 32 0))]) H_188) fun t13_189 H_190 =>
  bindE (mStore true 68 t13_189 t97_185 H_190) fun u_191 H_192 =>
  bindE (mBin (cfg b) 57 true .eql t7_181 (AV.c .nilp) H_192) fun t100_193 H_194 =>
  condR t100_193 (bindE (mUn .not t98_187 H_194) fun t102_195 H_196 =>
  bindE (guardR (wantR true t102_195) (mLoad true 68 t13_189 H_196) H_196) fun t104_197 H_198 =>
  bindE (guardR (wantR true t102_195) (mBuildS [.nilsl, .nilsl, (.int .i64 0), (.int .u64 0), (.arr 32 .u8 (List.replicate 32 0)), (.arr 32 .u8 (List.replicate 32 0))] [] H_198) H_198) fun t105_199 H_200 =>
  bindE (guardR (wantR true t102_195) (cf 46 [t104_197, t105_199] H_200) H_200) fun t106_201 H_202 =>
  bindE (mPick t102_195 t106_201 (AV.c (.bool false)) H_202) fun t107_203 H_204 =>
  bindE (guardR (wantR true t107_203) (some (t6_179, H_204)) H_204) fun t109_205 H_206 =>
  bindE (guardR (wantR true t107_203) (mLenSl t109_205 H_206) H_206) fun t110_207 H_208 =>
  bindE (guardR (wantR true t107_203) (some (t5_177, H_208)) H_208) fun t111_209 H_210 =>
  bindE (guardR (wantR true t107_203) (cf 47 [t111_209] H_210) H_210) fun t112_211 H_212 =>
  bindE (guardR (wantR true t107_203) (mBin (cfg b) 3 false .eql t110_207 t112_211 H_212) H_212) fun t113_213 H_214 =>
  bindE (mPick t107_203 t113_213 (AV.c (.bool false)) H_214) fun t114_215 H_216 =>
  endQ (cfg b) false k (resC1 (some t114_215) (some [])) H_216) (afterD (twice [0, 1, 3, 3, 11, 31, 63, 127] (fun H_217 => bindE (drawR true [t98_187] (fun F => some (t98_187, F)) H_217) fun t115_218 H_219 =>
  bindE (drawR true [t115_218.1] (fun F => some (t115_218.1, F)) H_219) fun t116_220 H_221 =>
  bindE (guardD (wantR true t116_220.1) (drawR true [t13_189] (fun F => mLoad true 68 t13_189 F) H_221) H_221) fun t117_222 H_223 =>
  bindE (guardD (wantR true t116_220.1) (drawR true [t7_181] (fun F => some (t7_181, F)) H_223) H_223) fun t118_224 H_225 =>
  bindE (guardD (wantR true t116_220.1) (drawR false [t118_224.1] (fun F => cf 48 [t118_224.1] F) H_225) H_225) fun t119_226 H_227 =>
  bindE (guardD (wantR true t116_220.1) (drawR false [t117_222.1, t119_226.1] (fun F => cf 46 [t117_222.1, t119_226.1] F) H_227) H_227) fun t120_228 H_229 =>
  bindE (drawR true [t116_220.1, t120_228.1] (fun F => mPick t116_220.1 t120_228.1 (AV.c (.bool false)) F) H_229) fun t121_230 H_231 =>
  bindE (drawR true [t121_230.1] (fun F => some (t121_230.1, F)) H_231) fun t4_232 H_233 =>
  some (([t4_232.1], [t115_218.2, t116_220.2, t117_222.2, t118_224.2, t119_226.2, t120_228.2, t121_230.2, t4_232.2]), H_233)) H_194) fun vs_234 H_235 =>
  un vs_234 fun t4_236 vs_237 => un0 vs_237 (endQ (cfg b) false k (resC1 (some t4_236) (some [])) H_235)))) (fun vs_173 H_174 => un vs_173 fun t1_238 vs_239 => un vs_239 fun t5_240 vs_241 => un vs_241 fun t6_242 vs_243 => un vs_243 fun t7_244 vs_245 => un0 vs_245 (endQ (cfg b) false k (resC1 (some AV.any) (some [])) H_174)))) (fun vs_111 H_112 => un vs_111 fun t1_246 vs_247 => un vs_247 fun t5_248 vs_249 => un vs_249 fun t6_250 vs_251 => un vs_251 fun t7_252 vs_253 => un0 vs_253 (endQ (cfg b) false k (resC1 (some AV.any) (some [])) H_112))))

theorem p6_eq (b : Bool) (cf : CallFn) (t0 t1 : AV) (H : Heap) : runG (cfg b) cf An 6 [t0, t1] H = p6 b cf H.length t0 t1 H := by kernel_rfl

end Go.Fm

