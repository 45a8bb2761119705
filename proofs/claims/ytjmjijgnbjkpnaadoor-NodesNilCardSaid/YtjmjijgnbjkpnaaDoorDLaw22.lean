/-
  A part of the proof: DLaw22.
-/
import Derived.Test.YtjmjijgnbjkpnaaDoorDAnn
set_option linter.all false
set_option autoImplicit true
/-
  What the interpreter does to functions, without slots and types; the kernel holds it against the code.
-/
set_option maxRecDepth 100000
set_option linter.unusedVariables false
namespace Go.Fm
open Go Go.Proofs

noncomputable def p22_l0 (b : Bool) (cf : CallFn) (k : Nat) (s : List AV) (H : Heap) : Option (LStep × Heap) :=
  un s fun t3_56 vs_57 => un vs_57 fun t5_58 vs_59 => un vs_59 fun t6_60 vs_61 => un vs_61 fun t7_62 vs_63 => un vs_63 fun t8_64 vs_65 => un vs_65 fun t9_66 vs_67 => un vs_67 fun t10_68 vs_69 => un vs_69 fun t11_70 vs_71 => un vs_71 fun t12_72 vs_73 => un vs_73 fun t13_74 vs_75 => un vs_75 fun t14_76 vs_77 => un vs_77 fun t15_78 vs_79 => un vs_79 fun t58_80 vs_81 => un vs_81 fun t59_82 vs_83 => un0 vs_83 (bindE (mBin (cfg b) 3 false .lss t59_82 t58_80 H) fun t60_84 H_85 =>
  condR t60_84 (bindE (mIdxS 1 t15_78 t59_82 H_85) fun t64_86 H_87 =>
  bindE (mLoad false 1 t64_86 H_87) fun t65_88 H_89 =>
  bindE (mBin (cfg b) 5 true .xor t65_88 (AV.c (.int .u8 255)) H_89) fun t66_90 H_91 =>
  bindE (mIdxS 1 t15_78 t59_82 H_91) fun t67_92 H_93 =>
  bindE (mStore false 1 t67_92 t66_90 H_93) fun u_94 H_95 =>
  bindE (mBin (cfg b) 3 true .add t59_82 (AV.c (.int .i64 1)) H_95) fun t68_96 H_97 =>
  some (LStep.cont [t3_56, t5_58, t6_60, t7_62, t8_64, t9_66, t10_68, t11_70, t12_72, t13_74, t14_76, t15_78, t58_80, t68_96], H_97)) (some (LStep.exit 0 [t3_56, t5_58, t6_60, t7_62, t8_64, t9_66, t10_68, t11_70, t12_72, t13_74, t14_76], H_85)))
/-- ferryman/ferrymanlaw07.NodesNil -/
noncomputable def p22 (b : Bool) (cf : CallFn) (k : Nat) (t0 t1 : AV) (H : Heap) : Option (AV × Heap) :=
  bindE (mBox 41 t1 H) fun t3_0 H_1 =>
  bindE (cf 68 [] H_1) fun t22_2 H_3 =>
  bindE (mUn .not t22_2 H_3) fun t23_4 H_5 =>
  condR t23_4 (endQ (cfg b) false k (resC1 (some (AV.c (.bool false))) (some [])) H_5) (bindE (cf 26 [] H_5) fun t26_6 H_7 =>
  bindE (cf 70 [(AV.c .nilp), t26_6] H_7) fun t27_8 H_9 =>
  bindE (mExtract 0 t27_8 H_9) fun t28_10 H_11 =>
  bindE (mExtract 1 t27_8 H_11) fun t29_12 H_13 =>
  bindE (mAlloc 41 (.arr 32 .u8 (List.replicate 32 0)) H_13) fun t6_14 H_15 =>
  bindE (mStore true 32 t6_14 t28_10 H_15) fun u_16 H_17 =>
  bindE (mLoad true 32 t3_0 H_17) fun t32_18 H_19 =>
  bindE (cf 84 [(AV.c .nilp), t32_18] H_19) fun t33_20 H_21 =>
  bindE (mExtract 0 t33_20 H_21) fun t34_22 H_23 =>
  bindE (mExtract 1 t33_20 H_23) fun t35_24 H_25 =>
  bindE (cf 69 [] H_25) fun t36_26 H_27 =>
  bindE (cf 70 [t36_26, (AV.c .nilp)] H_27) fun t39_28 H_29 =>
  bindE (mExtract 0 t39_28 H_29) fun t40_30 H_31 =>
  bindE (mExtract 1 t39_28 H_31) fun t41_32 H_33 =>
  bindE (mAlloc 41 (.arr 32 .u8 (List.replicate 32 0)) H_33) fun t11_34 H_35 =>
  bindE (mStore true 32 t11_34 t40_30 H_35) fun u_36 H_37 =>
  bindE (cf 39 [t0, (AV.c (.int .i64 20))] H_37) fun t44_38 H_39 =>
  bindE (mExtract 0 t44_38 H_39) fun t45_40 H_41 =>
  bindE (mExtract 1 t44_38 H_41) fun t46_42 H_43 =>
  bindE (cf 70 [t36_26, t45_40] H_43) fun t49_44 H_45 =>
  bindE (cf 37 [t45_40] H_45) fun t53_46 H_47 =>
  bindE (cf 84 [t36_26, t53_46] H_47) fun t54_48 H_49 =>
  bindE (mExtract 0 t54_48 H_49) fun t55_50 H_51 =>
  bindE (mExtract 1 t54_48 H_51) fun t56_52 H_53 =>
  bindE (mLenSl t55_50 H_53) fun t58_54 H_55 =>
  afterL 0 (loopX k (p22_l0 b cf k) [t3_0, (AV.c .nilp), t6_14, t29_12, t34_22, t35_24, t36_26, t11_34, t41_32, t45_40, t46_42, t55_50, t58_54, (AV.c (.int .i64 0))] H_55) (fun vs_98 H_99 =>
  un vs_98 fun t3_100 vs_101 => un vs_101 fun t5_102 vs_103 => un vs_103 fun t6_104 vs_105 => un vs_105 fun t7_106 vs_107 => un vs_107 fun t8_108 vs_109 => un vs_109 fun t9_110 vs_111 => un vs_111 fun t10_112 vs_113 => un vs_113 fun t11_114 vs_115 => un vs_115 fun t12_116 vs_117 => un vs_117 fun t13_118 vs_119 => un vs_119 fun t14_120 vs_121 => un0 vs_121 (bindE (cf 37 [t13_118] H_99) fun t72_122 H_123 =>
  bindE (cf 84 [t10_112, t72_122] H_123) fun t73_124 H_125 =>
  bindE (mExtract 0 t73_124 H_125) fun t74_126 H_127 =>
  bindE (mExtract 1 t73_124 H_127) fun t75_128 H_129 =>
  bindE (cf 85 [t74_126] H_129) fun t78_130 H_131 =>
  bindE (mExtract 0 t78_130 H_131) fun t79_132 H_133 =>
  bindE (mExtract 1 t78_130 H_133) fun t80_134 H_135 =>
  bindE (mAlloc 66 (.agg [.nilsl, .nilsl, (.int .i64 0), (.int .u64 0), (.arr 32 .u8 (List.replicate 32 0)), (.arr 32 .u8 (List.replicate 32 0))]) H_135) fun t20_136 H_137 =>
  bindE (mStore true 68 t20_136 t79_132 H_137) fun u_138 H_139 =>
  bindE (mLoad true 32 t6_104 H_139) fun t81_140 H_141 =>
  bindE (mBuildA 32 .u8 (List.replicate 32 0) [] H_141) fun t82_142 H_143 =>
  bindE (mBin (cfg b) 41 false .eql t81_140 t82_142 H_143) fun t83_144 H_145 =>
  bindE (guardR (wantR true t83_144) (some (t7_106, H_145)) H_145) fun t85_146 H_147 =>
  bindE (guardR (wantR true t83_144) (mBin (cfg b) 25 true .eql t85_146 (AV.c (.int .i64 1)) H_147) H_147) fun t86_148 H_149 =>
  bindE (mPick t83_144 t86_148 (AV.c (.bool false)) H_149) fun t87_150 H_151 =>
  bindE (guardR (wantR true t87_150) (some (t8_108, H_151)) H_151) fun t89_152 H_153 =>
  bindE (guardR (wantR true t87_150) (mLenSl t89_152 H_153) H_153) fun t90_154 H_155 =>
  bindE (guardR (wantR true t87_150) (mBin (cfg b) 3 true .eql t90_154 (AV.c (.int .i64 0)) H_155) H_155) fun t91_156 H_157 =>
  bindE (mPick t87_150 t91_156 (AV.c (.bool false)) H_157) fun t92_158 H_159 =>
  bindE (guardR (wantR true t92_158) (some (t9_110, H_159)) H_159) fun t94_160 H_161 =>
  bindE (guardR (wantR true t92_158) (mUn .not t94_160 H_161) H_161) fun t95_162 H_163 =>
  bindE (mPick t92_158 t95_162 (AV.c (.bool false)) H_163) fun t96_164 H_165 =>
  bindE (guardR (wantR true t96_164) (some (t5_102, H_165)) H_165) fun t98_166 H_167 =>
  bindE (guardR (wantR true t96_164) (cf 71 [t98_166] H_167) H_167) fun t99_168 H_169 =>
  bindE (guardR (wantR true t96_164) (mBin (cfg b) 3 true .eql t99_168 (AV.c (.int .i64 0)) H_169) H_169) fun t100_170 H_171 =>
  bindE (mPick t96_164 t100_170 (AV.c (.bool false)) H_171) fun t101_172 H_173 =>
  bindE (guardR (wantR true t101_172) (some (t5_102, H_173)) H_173) fun t103_174 H_175 =>
  bindE (guardR (wantR true t101_172) (mLoad true 32 t3_100 H_175) H_175) fun t104_176 H_177 =>
  bindE (guardR (wantR true t101_172) (mBuildSl 41 32 (.arr 32 .u8 (List.replicate 32 0)) 1 [(0, t104_176)] H_177) H_177) fun t105_178 H_179 =>
  bindE (guardR (wantR true t101_172) (cf 86 [t103_174, t105_178] H_179) H_179) fun t106_180 H_181 =>
  bindE (guardR (wantR true t101_172) (mBin (cfg b) 3 true .eql t106_180 (AV.c (.int .i64 0)) H_181) H_181) fun t107_182 H_183 =>
  bindE (mPick t101_172 t107_182 (AV.c (.bool false)) H_183) fun t108_184 H_185 =>
  bindE (guardR (wantR true t108_184) (mLoad true 32 t11_114 H_185) H_185) fun t110_186 H_187 =>
  bindE (guardR (wantR true t108_184) (mBuildA 32 .u8 (List.replicate 32 0) [] H_187) H_187) fun t111_188 H_189 =>
  bindE (guardR (wantR true t108_184) (mBin (cfg b) 41 false .eql t110_186 t111_188 H_189) H_189) fun t112_190 H_191 =>
  bindE (mPick t108_184 t112_190 (AV.c (.bool false)) H_191) fun t113_192 H_193 =>
  bindE (guardR (wantR true t113_192) (some (t12_116, H_193)) H_193) fun t115_194 H_195 =>
  bindE (guardR (wantR true t113_192) (mBin (cfg b) 25 true .eql t115_194 (AV.c (.int .i64 1)) H_195) H_195) fun t116_196 H_197 =>
  bindE (mPick t113_192 t116_196 (AV.c (.bool false)) H_197) fun t117_198 H_199 =>
  bindE (guardR (wantR true t117_198) (some (t75_128, H_199)) H_199) fun t119_200 H_201 =>
  bindE (guardR (wantR true t117_198) (some (t14_120, H_201)) H_201) fun t120_202 H_203 =>
  bindE (guardR (wantR true t117_198) (mLenSl t120_202 H_203) H_203) fun t121_204 H_205 =>
  bindE (guardR (wantR true t117_198) (mBin (cfg b) 3 true .gtr t121_204 (AV.c (.int .i64 0)) H_205) H_205) fun t122_206 H_207 =>
  bindE (guardR (wantR true t117_198) (mBin (cfg b) 4 false .eql t119_200 t122_206 H_207) H_207) fun t123_208 H_209 =>
  bindE (mPick t117_198 t123_208 (AV.c (.bool false)) H_209) fun t124_210 H_211 =>
  bindE (guardR (wantR true t124_210) (some (t75_128, H_211)) H_211) fun t126_212 H_213 =>
  bindE (guardR (wantR true t124_210) (mUn .not t126_212 H_213) H_213) fun t127_214 H_215 =>
  bindE (guardR (wantR true t124_210) (some (t127_214, H_215)) H_215) fun t128_216 H_217 =>
  bindE (guardR (wantR false t128_216) (some (t80_134, H_217)) H_217) fun t129_218 H_219 =>
  bindE (guardR (wantR false t128_216) (mBin (cfg b) 25 true .eql t129_218 (AV.c (.int .i64 0)) H_219) H_219) fun t130_220 H_221 =>
  bindE (guardR (wantR true t124_210) (mPick t128_216 (AV.c (.bool true)) t130_220 H_221) H_221) fun t131_222 H_223 =>
  bindE (mPick t124_210 t131_222 (AV.c (.bool false)) H_223) fun t132_224 H_225 =>
  bindE (guardR (wantR false t132_224) (some (t13_118, H_225)) H_225) fun t134_226 H_227 =>
  bindE (guardR (wantR false t132_224) (mBuildSl 28 1 .nilp 1 [(0, t134_226)] H_227) H_227) fun t135_228 H_229 =>
  bindE (guardR (wantR false t132_224) (cf 87 [t135_228] H_229) H_229) fun t136_230 H_231 =>
  bindE (mPick t132_224 (AV.c (.bool true)) t136_230 H_231) fun t137_232 H_233 =>
  endQ (cfg b) false k (resC1 (some t137_232) (some [])) H_233)) (fun vs_98 H_99 => un vs_98 fun t3_234 vs_235 => un vs_235 fun t5_236 vs_237 => un vs_237 fun t6_238 vs_239 => un vs_239 fun t7_240 vs_241 => un vs_241 fun t8_242 vs_243 => un vs_243 fun t9_244 vs_245 => un vs_245 fun t10_246 vs_247 => un vs_247 fun t11_248 vs_249 => un vs_249 fun t12_250 vs_251 => un vs_251 fun t13_252 vs_253 => un vs_253 fun t14_254 vs_255 => un0 vs_255 (endQ (cfg b) false k (resC1 (some AV.any) (some [])) H_99)))

theorem p22_eq (b : Bool) (cf : CallFn) (t0 t1 : AV) (H : Heap) : runG (cfg b) cf An 22 [t0, t1] H = p22 b cf H.length t0 t1 H := by kernel_rfl

end Go.Fm

