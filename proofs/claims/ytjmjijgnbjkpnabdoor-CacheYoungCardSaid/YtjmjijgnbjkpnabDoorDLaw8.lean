/-
  A part of the proof: DLaw8.
-/
import Derived.Test.YtjmjijgnbjkpnabDoorDAnn
set_option linter.all false
set_option autoImplicit true
/-
  What the interpreter does to functions, without slots and types; the kernel holds it against the code.
-/
set_option maxRecDepth 100000
set_option linter.unusedVariables false
namespace Go.Fm
open Go Go.Proofs
noncomputable def p3_l2 (b : Bool) (cf : CallFn) (k : Nat) (s : List AV) (H : Heap) : Option (LStep × Heap) :=
  un s fun t1_88 vs_89 => un vs_89 fun t7_90 vs_91 => un vs_91 fun t9_92 vs_93 => un vs_93 fun t10_94 vs_95 => un vs_95 fun t11_96 vs_97 => un vs_97 fun t14_98 vs_99 => un vs_99 fun t16_100 vs_101 => un vs_101 fun t17_102 vs_103 => un vs_103 fun t18_104 vs_105 => un vs_105 fun t41_106 vs_107 => un vs_107 fun t42_108 vs_109 => un vs_109 fun t43_110 vs_111 => un vs_111 fun t68_112 vs_113 => un vs_113 fun t69_114 vs_115 => un vs_115 fun t70_116 vs_117 => un0 vs_117 (bindE (mBin (cfg b) 3 false .lss t70_116 t69_114 H) fun t71_118 H_119 =>
  condR t71_118 (bindE (mIdxS 32 t68_112 t70_116 H_119) fun t72_120 H_121 =>
  bindE (mLoad true 32 t72_120 H_121) fun t73_122 H_123 =>
  bindE (mAlloc 34 (.arr 32 .u8 (List.replicate 32 0)) H_123) fun t20_124 H_125 =>
  bindE (mStore true 32 t20_124 t73_122 H_125) fun u_126 H_127 =>
  bindE (mLoad true 32 t20_124 H_127) fun t75_128 H_129 =>
  bindE (mMapUpd (cfg b) 34 t18_104 t75_128 (AV.c (.bool true)) H_129) fun u_130 H_131 =>
  bindE (mBin (cfg b) 3 true .add t70_116 (AV.c (.int .i64 1)) H_131) fun t76_132 H_133 =>
  some (LStep.cont [t1_88, t7_90, t9_92, t10_94, t11_96, t14_98, t16_100, t17_102, t18_104, t41_106, t42_108, t43_110, t68_112, t69_114, t76_132], H_133)) (some (LStep.exit 2 [t1_88, t7_90, t9_92, t10_94, t11_96, t14_98, t16_100, t17_102, t18_104, t41_106, t42_108, t43_110], H_119)))
noncomputable def p3_l0_d0 (b : Bool) (cf : CallFn) (t16_148 t17_150 t14_146 t18_152 t1_136 : AV) (H_160 : Heap) : Option ((List AV × List Trail) × Heap) :=
  bindE (drawM (some t16_148) H_160) fun t77_161 H_162 =>
  bindE (drawR true [t77_161.1] (fun F => mBin (cfg b) 28 true .neq t77_161.1 (AV.c (.int .i64 0)) F) H_162) fun t78_163 H_164 =>
  bindE (drawM (some t78_163.1) H_164) fun t79_165 H_166 =>
  bindE (guardD (wantR false t79_165.1) (drawM (some t17_150) H_166) H_166) fun t80_167 H_168 =>
  bindE (guardD (wantR false t79_165.1) (drawR true [t80_167.1] (fun F => mLenSl t80_167.1 F) H_168) H_168) fun t81_169 H_170 =>
  bindE (guardD (wantR false t79_165.1) (drawR true [t81_169.1] (fun F => mBin (cfg b) 3 true .eql t81_169.1 (AV.c (.int .i64 0)) F) H_170) H_170) fun t82_171 H_172 =>
  bindE (drawR true [t79_165.1, t82_171.1] (fun F => mPick t79_165.1 (AV.c (.bool true)) t82_171.1 F) H_172) fun t83_173 H_174 =>
  bindE (drawM (some t83_173.1) H_174) fun t84_175 H_176 =>
  bindE (guardD (wantR false t84_175.1) (drawM (some t17_150) H_176) H_176) fun t85_177 H_178 =>
  bindE (guardD (wantR false t84_175.1) (drawM (some t17_150) H_178) H_178) fun t86_179 H_180 =>
  bindE (guardD (wantR false t84_175.1) (drawR true [t86_179.1] (fun F => mLenSl t86_179.1 F) H_180) H_180) fun t87_181 H_182 =>
  bindE (guardD (wantR false t84_175.1) (drawR true [t87_181.1] (fun F => mBin (cfg b) 3 true .sub t87_181.1 (AV.c (.int .i64 1)) F) H_182) H_182) fun t88_183 H_184 =>
  bindE (guardD (wantR false t84_175.1) (drawR true [t85_177.1, t88_183.1] (fun F => mIdxS 32 t85_177.1 t88_183.1 F) H_184) H_184) fun t89_185 H_186 =>
  bindE (guardD (wantR false t84_175.1) (drawR true [t89_185.1] (fun F => mLoad true 32 t89_185.1 F) H_186) H_186) fun t90_187 H_188 =>
  bindE (guardD (wantR false t84_175.1) (drawR true [t14_146] (fun F => mLoad true 32 t14_146 F) H_188) H_188) fun t91_189 H_190 =>
  bindE (guardD (wantR false t84_175.1) (drawR true [t90_187.1, t91_189.1] (fun F => mBin (cfg b) 34 false .neq t90_187.1 t91_189.1 F) H_190) H_190) fun t92_191 H_192 =>
  bindE (drawR true [t84_175.1, t92_191.1] (fun F => mPick t84_175.1 (AV.c (.bool true)) t92_191.1 F) H_192) fun t93_193 H_194 =>
  bindE (drawM (some t93_193.1) H_194) fun t94_195 H_196 =>
  bindE (guardD (wantR false t94_195.1) (drawM (some t18_152) H_196) H_196) fun t95_197 H_198 =>
  bindE (guardD (wantR false t94_195.1) (drawR true [t95_197.1] (fun F => mLenMp t95_197.1 F) H_198) H_198) fun t96_199 H_200 =>
  bindE (guardD (wantR false t94_195.1) (drawM (some t17_150) H_200) H_200) fun t97_201 H_202 =>
  bindE (guardD (wantR false t94_195.1) (drawR true [t97_201.1] (fun F => mLenSl t97_201.1 F) H_202) H_202) fun t98_203 H_204 =>
  bindE (guardD (wantR false t94_195.1) (drawR true [t96_199.1, t98_203.1] (fun F => mBin (cfg b) 3 false .neq t96_199.1 t98_203.1 F) H_204) H_204) fun t99_205 H_206 =>
  bindE (drawR true [t94_195.1, t99_205.1] (fun F => mPick t94_195.1 (AV.c (.bool true)) t99_205.1 F) H_206) fun t100_207 H_208 =>
  bindE (drawM (some t100_207.1) H_208) fun t101_209 H_210 =>
  bindE (guardD (wantR false t101_209.1) (drawM (some t17_150) H_210) H_210) fun t102_211 H_212 =>
  bindE (guardD (wantR false t101_209.1) (drawR true [t102_211.1] (fun F => mLenSl t102_211.1 F) H_212) H_212) fun t103_213 H_214 =>
  bindE (guardD (wantR false t101_209.1) (drawM (some t1_136) H_214) H_214) fun t104_215 H_216 =>
  bindE (guardD (wantR false t101_209.1) (drawR true [t104_215.1] (fun F => mBin (cfg b) 5 true .rem t104_215.1 (AV.c (.int .u8 12)) F) H_216) H_216) fun t105_217 H_218 =>
  bindE (guardD (wantR false t101_209.1) (drawR true [t105_217.1] (fun F => mConvI .i64 t105_217.1 F) H_218) H_218) fun t106_219 H_220 =>
  bindE (guardD (wantR false t101_209.1) (drawR true [t106_219.1] (fun F => mBin (cfg b) 3 true .add (AV.c (.int .i64 1)) t106_219.1 F) H_220) H_220) fun t107_221 H_222 =>
  bindE (guardD (wantR false t101_209.1) (drawR true [t103_213.1, t107_221.1] (fun F => mBin (cfg b) 3 false .gtr t103_213.1 t107_221.1 F) H_222) H_222) fun t108_223 H_224 =>
  bindE (drawR true [t101_209.1, t108_223.1] (fun F => mPick t101_209.1 (AV.c (.bool true)) t108_223.1 F) H_224) fun t109_225 H_226 =>
  some (([t109_225.1], [t77_161.2, t78_163.2, t79_165.2, t80_167.2, t81_169.2, t82_171.2, t83_173.2, t84_175.2, t85_177.2, t86_179.2, t87_181.2, t88_183.2, t89_185.2, t90_187.2, t91_189.2, t92_191.2, t93_193.2, t94_195.2, t95_197.2, t96_199.2, t97_201.2, t98_203.2, t99_205.2, t100_207.2, t101_209.2, t102_211.2, t103_213.2, t104_215.2, t105_217.2, t106_219.2, t107_221.2, t108_223.2, t109_225.2]), H_226)
noncomputable def p3_l0 (b : Bool) (cf : CallFn) (k : Nat) (s : List AV) (H : Heap) : Option (LStep × Heap) :=
  un s fun t1_30 vs_31 => un vs_31 fun t7_32 vs_33 => un vs_33 fun t9_34 vs_35 => un vs_35 fun t10_36 vs_37 => un vs_37 fun t11_38 vs_39 => un vs_39 fun t41_40 vs_41 => un vs_41 fun t42_42 vs_43 => un vs_43 fun t43_44 vs_45 => un0 vs_45 (bindE (mBin (cfg b) 3 false .lss t43_44 t42_42 H) fun t44_46 H_47 =>
  condR t44_46 (bindE (mIdxS 1 t41_40 t43_44 H_47) fun t46_48 H_49 =>
  bindE (mLoad false 1 t46_48 H_49) fun t47_50 H_51 =>
  bindE (mBin (cfg b) 3 true .gtr t43_44 (AV.c (.int .i64 60)) H_51) fun t49_52 H_53 =>
  condR t49_52 (some (LStep.exit 0 [AV.any, t10_36], H_53)) (bindE (mConvI .i64 t47_50 H_53) fun t52_54 H_55 =>
  bindE (mLenSl t11_38 H_55) fun t54_56 H_57 =>
  bindE (mBin (cfg b) 3 false .rem t52_54 t54_56 H_57) fun t55_58 H_59 =>
  bindE (mIdxS 68 t11_38 t55_58 H_59) fun t56_60 H_61 =>
  bindE (mLoad true 68 t56_60 H_61) fun t57_62 H_63 =>
  bindE (cf 7 [t57_62] H_63) fun t58_64 H_65 =>
  bindE (mAlloc 34 (.arr 32 .u8 (List.replicate 32 0)) H_65) fun t14_66 H_67 =>
  bindE (mStore true 32 t14_66 t58_64 H_67) fun u_68 H_69 =>
  bindE (mLoad true 32 t14_66 H_69) fun t61_70 H_71 =>
  bindE (cf 8 [t9_34, t61_70] H_71) fun t62_72 H_73 =>
  bindE (mExtract 0 t62_72 H_73) fun t63_74 H_75 =>
  bindE (mExtract 1 t62_72 H_75) fun t64_76 H_77 =>
  bindE (mAlloc 38 (.agg [.nilsl, .nilsl, (.int .i64 0), (.int .u64 0), (.arr 32 .u8 (List.replicate 32 0)), (.arr 32 .u8 (List.replicate 32 0))]) H_77) fun t15_78 H_79 =>
  bindE (mStore true 68 t15_78 t63_74 H_79) fun u_80 H_81 =>
  bindE (cf 9 [t9_34] H_81) fun t66_82 H_83 =>
  bindE (mMakeMap H_83) fun t67_84 H_85 =>
  bindE (mLenSl t66_82 H_85) fun t69_86 H_87 =>
  afterL 2 (loopX k (p3_l2 b cf k) [t1_30, t7_32, t9_34, t10_36, t11_38, t14_66, t64_76, t66_82, t67_84, t41_40, t42_42, t43_44, t66_82, t69_86, (AV.c (.int .i64 0))] H_87) (fun vs_134 H_135 =>
  un vs_134 fun t1_136 vs_137 => un vs_137 fun t7_138 vs_139 => un vs_139 fun t9_140 vs_141 => un vs_141 fun t10_142 vs_143 => un vs_143 fun t11_144 vs_145 => un vs_145 fun t14_146 vs_147 => un vs_147 fun t16_148 vs_149 => un vs_149 fun t17_150 vs_151 => un vs_151 fun t18_152 vs_153 => un vs_153 fun t41_154 vs_155 => un vs_155 fun t42_156 vs_157 => un vs_157 fun t43_158 vs_159 => un0 vs_159 (afterD (twice [0, 1, 3, 7, 15, 31, 63, 127, 255, 255, 767, 1791, 4095, 8191, 255, 32767, 65535, 131071, 262143, 524287, 262143, 1310719, 4194303, 8388607, 16777215, 33554431, 67108863, 33554431, 167772159, 436207615, 973078527, 2147483647, 4294967295] (p3_l0_d0 b cf t16_148 t17_150 t14_146 t18_152 t1_136) H_135) fun vs_227 H_228 =>
  un vs_227 fun t109_229 vs_230 => un0 vs_230 (condR t109_229 (bindE (cf 10 [t7_138] H_228) fun t111_231 H_232 =>
  some (LStep.ret [t111_231, t10_142], H_232)) (bindE (mBin (cfg b) 3 true .add t43_158 (AV.c (.int .i64 1)) H_228) fun t112_233 H_234 =>
  some (LStep.cont [t1_136, t7_138, t9_140, t10_142, t11_144, t41_154, t42_156, t112_233], H_234))))) (fun vs_134 H_135 => un vs_134 fun t1_235 vs_236 => un vs_236 fun t7_237 vs_238 => un vs_238 fun t9_239 vs_240 => un vs_240 fun t10_241 vs_242 => un vs_242 fun t11_243 vs_244 => un vs_244 fun t14_245 vs_246 => un vs_246 fun t16_247 vs_248 => un vs_248 fun t17_249 vs_250 => un vs_250 fun t18_251 vs_252 => un vs_252 fun t41_253 vs_254 => un vs_254 fun t42_255 vs_256 => un vs_256 fun t43_257 vs_258 => un0 vs_258 (some (LStep.ret [AV.any, t10_241], H_135))))) (some (LStep.exit 0 [AV.any, t10_36], H_47)))
/-- ferryman/ferrymanlaw08.CacheYoung -/
noncomputable def p3 (b : Bool) (cf : CallFn) (k : Nat) (t0 t1 t2 : AV) (H : Heap) : Option (AV × Heap) :=
  bindE (cf 4 [] H) fun t21_0 H_1 =>
  bindE (mUn .not t21_0 H_1) fun t22_2 H_3 =>
  condR t22_2 (endQ (cfg b) false k (resC1 (some (AV.c (.bool false))) (some [])) H_3) (bindE (mBin (cfg b) 5 true .rem t1 (AV.c (.int .u8 12)) H_3) fun t26_4 H_5 =>
  bindE (mConvI .i64 t26_4 H_5) fun t27_6 H_7 =>
  bindE (mBin (cfg b) 3 true .add (AV.c (.int .i64 1)) t27_6 H_7) fun t28_8 H_9 =>
  bindE (cf 5 [t0, t28_8] H_9) fun t29_10 H_11 =>
  bindE (mExtract 0 t29_10 H_11) fun t30_12 H_13 =>
  bindE (mExtract 1 t29_10 H_13) fun t31_14 H_15 =>
  bindE (mExtract 2 t29_10 H_15) fun t32_16 H_17 =>
  bindE (mExtract 3 t29_10 H_17) fun t33_18 H_19 =>
  bindE (cf 6 [t30_12] H_19) fun t35_20 H_21 =>
  bindE (mLenSl t35_20 H_21) fun t37_22 H_23 =>
  bindE (mBin (cfg b) 3 true .eql t37_22 (AV.c (.int .i64 0)) H_23) fun t38_24 H_25 =>
  condR t38_24 (bindE (mBin (cfg b) 28 true .eql t33_18 (AV.c (.int .i64 0)) H_25) fun t40_26 H_27 =>
  endQ (cfg b) false k (resC1 (some t40_26) (some [])) H_27) (bindE (mLenSl t2 H_25) fun t42_28 H_29 =>
  afterL 0 (loopX k (p3_l0 b cf k) [t1, t30_12, t32_16, t33_18, t35_20, t2, t42_28, (AV.c (.int .i64 0))] H_29) (fun vs_259 H_260 =>
  un vs_259 fun t6_261 vs_262 => un vs_262 fun t10_263 vs_264 => un0 vs_264 (bindE (mBin (cfg b) 28 true .eql t10_263 (AV.c (.int .i64 0)) H_260) fun t114_265 H_266 =>
  endQ (cfg b) false k (resC1 (some t114_265) (some [])) H_266)) (fun vs_259 H_260 => un vs_259 fun t6_267 vs_268 => un vs_268 fun t10_269 vs_270 => un0 vs_270 (endQ (cfg b) false k (resC1 (some t6_267) (some [])) H_260))))
/-- ferryman/ferrymanlaw08.Awake -/
noncomputable def p4 (b : Bool) (cf : CallFn) (k : Nat) (H : Heap) : Option (AV × Heap) :=
  bindE (cf 11 [] H) fun t11_0 H_1 =>
  bindE (mBuildSl 5 1 (.int .u8 0) 1 [(0, (AV.c (.int .u8 97)))] H_1) fun t14_2 H_3 =>
  bindE (mConv0 t14_2 H_3) fun t15_4 H_5 =>
  bindE (mBuildSl 5 1 (.int .u8 0) 1 [(0, (AV.c (.int .u8 49)))] H_5) fun t16_6 H_7 =>
  bindE (mConv0 t16_6 H_7) fun t17_8 H_9 =>
  bindE (cf 12 [t11_0, t15_4, t17_8] H_9) fun t18_10 H_11 =>
  bindE (mExtract 0 t18_10 H_11) fun t19_12 H_13 =>
  bindE (mExtract 1 t18_10 H_13) fun t20_14 H_15 =>
  bindE (mBuildSl 5 1 (.int .u8 0) 1 [(0, (AV.c (.int .u8 98)))] H_15) fun t23_16 H_17 =>
  bindE (mConv0 t23_16 H_17) fun t24_18 H_19 =>
  bindE (mBuildSl 5 1 (.int .u8 0) 1 [(0, (AV.c (.int .u8 50)))] H_19) fun t25_20 H_21 =>
  bindE (mConv0 t25_20 H_21) fun t26_22 H_23 =>
  bindE (cf 12 [t19_12, t24_18, t26_22] H_23) fun t27_24 H_25 =>
  bindE (mExtract 0 t27_24 H_25) fun t28_26 H_27 =>
  bindE (mExtract 1 t27_24 H_27) fun t29_28 H_29 =>
  bindE (cf 13 [] H_29) fun t30_30 H_31 =>
  bindE (cf 14 [t30_30, t28_26] H_31) fun t33_32 H_33 =>
  bindE (cf 15 [t30_30, (AV.c (.int .i64 1))] H_33) fun t36_34 H_35 =>
  bindE (mExtract 0 t36_34 H_35) fun t37_36 H_37 =>
  bindE (mExtract 1 t36_34 H_37) fun t38_38 H_39 =>
  bindE (cf 17 [t28_26] H_39) fun t42_40 H_41 =>
  bindE (mBuildSl 5 1 (.int .u8 0) 1 [(0, (AV.c (.int .u8 97)))] H_41) fun t43_42 H_43 =>
  bindE (mConv0 t43_42 H_43) fun t44_44 H_45 =>
  bindE (cf 16 [t37_36, t42_40, t44_44] H_45) fun t45_46 H_47 =>
  bindE (mExtract 0 t45_46 H_47) fun t46_48 H_49 =>
  bindE (mExtract 1 t45_46 H_49) fun t47_50 H_51 =>
  bindE (mExtract 2 t45_46 H_51) fun t48_52 H_53 =>
  bindE (cf 17 [t28_26] H_53) fun t52_54 H_55 =>
  bindE (mBuildSl 5 1 (.int .u8 0) 1 [(0, (AV.c (.int .u8 98)))] H_55) fun t53_56 H_57 =>
  bindE (mConv0 t53_56 H_57) fun t54_58 H_59 =>
  bindE (cf 16 [t37_36, t52_54, t54_58] H_59) fun t55_60 H_61 =>
  bindE (mExtract 0 t55_60 H_61) fun t56_62 H_63 =>
  bindE (mExtract 1 t55_60 H_63) fun t57_64 H_65 =>
  bindE (mExtract 2 t55_60 H_65) fun t58_66 H_67 =>
  bindE (mBin (cfg b) 28 true .eql t38_38 (AV.c (.int .i64 0)) H_67) fun t60_68 H_69 =>
  bindE (guardR (wantR true t60_68) (some (t48_52, H_69)) H_69) fun t62_70 H_71 =>
  bindE (guardR (wantR true t60_68) (mBin (cfg b) 28 true .eql t62_70 (AV.c (.int .i64 0)) H_71) H_71) fun t63_72 H_73 =>
  bindE (mPick t60_68 t63_72 (AV.c (.bool false)) H_73) fun t64_74 H_75 =>
  bindE (guardR (wantR true t64_74) (some (t58_66, H_75)) H_75) fun t66_76 H_77 =>
  bindE (guardR (wantR true t64_74) (mBin (cfg b) 28 true .eql t66_76 (AV.c (.int .i64 0)) H_77) H_77) fun t67_78 H_79 =>
  bindE (mPick t64_74 t67_78 (AV.c (.bool false)) H_79) fun t68_80 H_81 =>
  bindE (guardR (wantR true t68_80) (some (t47_50, H_81)) H_81) fun t70_82 H_83 =>
  bindE (mPick t68_80 t70_82 (AV.c (.bool false)) H_83) fun t71_84 H_85 =>
  bindE (guardR (wantR true t71_84) (some (t57_64, H_85)) H_85) fun t73_86 H_87 =>
  bindE (mPick t71_84 t73_86 (AV.c (.bool false)) H_87) fun t74_88 H_89 =>
  bindE (guardR (wantR true t74_88) (some (t46_48, H_89)) H_89) fun t76_90 H_91 =>
  bindE (guardR (wantR true t74_88) (mConvBS t76_90 H_91) H_91) fun t77_92 H_93 =>
  bindE (guardR (wantR true t74_88) (mBin (cfg b) 9 true .eql t77_92 (AV.c (.str ⟨#[49]⟩)) H_93) H_93) fun t78_94 H_95 =>
  bindE (mPick t74_88 t78_94 (AV.c (.bool false)) H_95) fun t79_96 H_97 =>
  bindE (guardR (wantR true t79_96) (some (t56_62, H_97)) H_97) fun t81_98 H_99 =>
  bindE (guardR (wantR true t79_96) (mConvBS t81_98 H_99) H_99) fun t82_100 H_101 =>
  bindE (guardR (wantR true t79_96) (mBin (cfg b) 9 true .eql t82_100 (AV.c (.str ⟨#[50]⟩)) H_101) H_101) fun t83_102 H_103 =>
  bindE (mPick t79_96 t83_102 (AV.c (.bool false)) H_103) fun t84_104 H_105 =>
  bindE (guardR (wantR true t84_104) (some (t37_36, H_105)) H_105) fun t86_106 H_107 =>
  bindE (guardR (wantR true t84_104) (cf 9 [t86_106] H_107) H_107) fun t87_108 H_109 =>
  bindE (guardR (wantR true t84_104) (mLenSl t87_108 H_109) H_109) fun t88_110 H_111 =>
  bindE (guardR (wantR true t84_104) (mBin (cfg b) 3 true .eql t88_110 (AV.c (.int .i64 1)) H_111) H_111) fun t89_112 H_113 =>
  bindE (mPick t84_104 t89_112 (AV.c (.bool false)) H_113) fun t90_114 H_115 =>
  endQ (cfg b) false k (resC1 (some t90_114) (some [])) H_115
/-- ferryman/ferrymanlaw08.made -/
noncomputable def p5 (b : Bool) (cf : CallFn) (k : Nat) (t0 t1 : AV) (H : Heap) : Option (AV × Heap) :=
  bindE (cf 18 [t0, (AV.c (.int .i64 50))] H) fun t15_0 H_1 =>
  bindE (mExtract 0 t15_0 H_1) fun t16_2 H_3 =>
  bindE (mExtract 1 t15_0 H_3) fun t17_4 H_5 =>
  bindE (cf 13 [] H_5) fun t18_6 H_7 =>
  bindE (cf 14 [t18_6, t16_2] H_7) fun t21_8 H_9 =>
  bindE (cf 15 [t18_6, t1] H_9) fun t25_10 H_11 =>
  bindE (mExtract 0 t25_10 H_11) fun t26_12 H_13 =>
  bindE (mExtract 1 t25_10 H_13) fun t27_14 H_15 =>
  endQ (cfg b) false k (resC1 (some t16_2) (resC1 (some t18_6) (resC1 (some t26_12) (resC1 (some t27_14) (some []))))) H_15
theorem p3_eq (b : Bool) (cf : CallFn) (t0 t1 t2 : AV) (H : Heap) : runG (cfg b) cf An 3 [t0, t1, t2] H = p3 b cf H.length t0 t1 t2 H := by kernel_rfl
theorem p4_eq (b : Bool) (cf : CallFn) (H : Heap) : runG (cfg b) cf An 4 [] H = p4 b cf H.length  H := by kernel_rfl
theorem p5_eq (b : Bool) (cf : CallFn) (t0 t1 : AV) (H : Heap) : runG (cfg b) cf An 5 [t0, t1] H = p5 b cf H.length t0 t1 H := by kernel_rfl
end Go.Fm
