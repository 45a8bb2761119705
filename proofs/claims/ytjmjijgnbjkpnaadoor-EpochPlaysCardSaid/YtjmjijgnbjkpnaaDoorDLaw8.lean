/-
  A part of the proof: DLaw8.
-/
import Derived.Test.YtjmjijgnbjkpnaaDoorDAnn
set_option linter.all false
set_option autoImplicit true
/-
  What the interpreter does to functions, without slots and types; the kernel holds it against the code.
-/
set_option maxRecDepth 100000
set_option linter.unusedVariables false
namespace Go.Fm
open Go Go.Proofs

noncomputable def p8_l0 (b : Bool) (cf : CallFn) (k : Nat) (s : List AV) (H : Heap) : Option (LStep × Heap) :=
  un s fun t5_24 vs_25 => un vs_25 fun t6_26 vs_27 => un vs_27 fun t7_28 vs_29 => un vs_29 fun t9_30 vs_31 => un vs_31 fun t10_32 vs_33 => un vs_33 fun t33_34 vs_35 => un vs_35 fun t34_36 vs_37 => un0 vs_37 (bindE (mBin (cfg b) 5 false .lss t34_36 t33_34 H) fun t35_38 H_39 =>
  condR t35_38 (bindE (cf 26 [] H_39) fun t37_40 H_41 =>
  bindE (cf 25 [t5_24, t37_40] H_41) fun t38_42 H_43 =>
  bindE (mBin (cfg b) 5 true .add t34_36 (AV.c (.int .u8 1)) H_43) fun t39_44 H_45 =>
  some (LStep.cont [t5_24, t6_26, t7_28, t9_30, t10_32, t33_34, t39_44], H_45)) (some (LStep.exit 0 [t5_24, t6_26, t7_28, t9_30, t10_32], H_39)))
noncomputable def p8_l2 (b : Bool) (cf : CallFn) (k : Nat) (s : List AV) (H : Heap) : Option (LStep × Heap) :=
  un s fun t5_62 vs_63 => un vs_63 fun t6_64 vs_65 => un vs_65 fun t7_66 vs_67 => un vs_67 fun t9_68 vs_69 => un vs_69 fun t10_70 vs_71 => un vs_71 fun t41_72 vs_73 => un vs_73 fun t42_74 vs_75 => un vs_75 fun t43_76 vs_77 => un0 vs_77 (bindE (mBin (cfg b) 3 false .lss t43_76 t42_74 H) fun t44_78 H_79 =>
  condR t44_78 (bindE (mIdxS 32 t41_72 t43_76 H_79) fun t46_80 H_81 =>
  bindE (mLoad true 32 t46_80 H_81) fun t47_82 H_83 =>
  bindE (mAlloc 41 (.arr 32 .u8 (List.replicate 32 0)) H_83) fun t12_84 H_85 =>
  bindE (mStore true 32 t12_84 t47_82 H_85) fun u_86 H_87 =>
  bindE (mBin (cfg b) 3 true .rem t43_76 (AV.c (.int .i64 32)) H_87) fun t49_88 H_89 =>
  bindE (mIdxA 32 t12_84 t49_88 H_89) fun t50_90 H_91 =>
  bindE (mLoad false 1 t50_90 H_91) fun t51_92 H_93 =>
  bindE (mBin (cfg b) 5 true .xor t51_92 (AV.c (.int .u8 1)) H_93) fun t52_94 H_95 =>
  bindE (mIdxA 32 t12_84 t49_88 H_95) fun t53_96 H_97 =>
  bindE (mStore false 1 t53_96 t52_94 H_97) fun u_98 H_99 =>
  bindE (mBin (cfg b) 3 true .add t43_76 (AV.c (.int .i64 1)) H_99) fun t54_100 H_101 =>
  some (LStep.cont [t5_62, t6_64, t7_66, t9_68, t10_70, t41_72, t42_74, t54_100], H_101)) (some (LStep.exit 2 [t5_62, t6_64, t7_66, t9_68, t10_70], H_79)))
/-- ferryman/ferrymanlaw06.EpochStays -/
noncomputable def p8 (b : Bool) (cf : CallFn) (k : Nat) (t0 t1 : AV) (H : Heap) : Option (AV × Heap) :=
  bindE (cf 24 [] H) fun t15_0 H_1 =>
  bindE (mUn .not t15_0 H_1) fun t16_2 H_3 =>
  condR t16_2 (endQ (cfg b) false k (resC1 (some (AV.c (.bool false))) (some [])) H_3) (bindE (cf 28 [(AV.c (.int .i64 64))] H_3) fun t18_4 H_5 =>
  bindE (mExtract 0 t18_4 H_5) fun t19_6 H_7 =>
  bindE (mExtract 1 t18_4 H_7) fun t20_8 H_9 =>
  bindE (cf 39 [t0, (AV.c (.int .i64 30))] H_9) fun t23_10 H_11 =>
  bindE (mExtract 0 t23_10 H_11) fun t24_12 H_13 =>
  bindE (mExtract 1 t23_10 H_13) fun t25_14 H_15 =>
  bindE (cf 25 [t19_6, t24_12] H_15) fun t29_16 H_17 =>
  bindE (mExtract 0 t29_16 H_17) fun t30_18 H_19 =>
  bindE (mExtract 1 t29_16 H_19) fun t31_20 H_21 =>
  bindE (mBin (cfg b) 5 true .rem t1 (AV.c (.int .u8 60)) H_21) fun t33_22 H_23 =>
  afterL 0 (loopX k (p8_l0 b cf k) [t19_6, t20_8, t24_12, t30_18, t31_20, t33_22, (AV.c (.int .u8 0))] H_23) (fun vs_46 H_47 =>
  un vs_46 fun t5_48 vs_49 => un vs_49 fun t6_50 vs_51 => un vs_51 fun t7_52 vs_53 => un vs_53 fun t9_54 vs_55 => un vs_55 fun t10_56 vs_57 => un0 vs_57 (bindE (cf 30 [t5_48] H_47) fun t41_58 H_59 =>
  bindE (mLenSl t41_58 H_59) fun t42_60 H_61 =>
  afterL 2 (loopX k (p8_l2 b cf k) [t5_48, t6_50, t7_52, t9_54, t10_56, t41_58, t42_60, (AV.c (.int .i64 0))] H_61) (fun vs_102 H_103 =>
  un vs_102 fun t5_104 vs_105 => un vs_105 fun t6_106 vs_107 => un vs_107 fun t7_108 vs_109 => un vs_109 fun t9_110 vs_111 => un vs_111 fun t10_112 vs_113 => un0 vs_113 (bindE (cf 27 [t5_104, t9_110] H_103) fun t58_114 H_115 =>
  bindE (mExtract 0 t58_114 H_115) fun t59_116 H_117 =>
  bindE (mExtract 1 t58_114 H_117) fun t60_118 H_119 =>
  afterD (twice [0, 1, 3, 7, 15, 31, 63, 127, 255, 511, 1023, 2047, 4095, 8191, 16383, 32767, 65535, 32767, 262143, 524287, 1048575, 2097151, 4194303, 8388607, 16777215, 33554431, 4194303, 83886079, 268435455, 536870911, 1073741823] (fun H_120 => bindE (drawR true [t6_106] (fun F => some (t6_106, F)) H_120) fun t61_121 H_122 =>
  bindE (drawR true [t61_121.1] (fun F => mBin (cfg b) 25 true .eql t61_121.1 (AV.c (.int .i64 0)) F) H_122) fun t62_123 H_124 =>
  bindE (drawR true [t62_123.1] (fun F => some (t62_123.1, F)) H_124) fun t63_125 H_126 =>
  bindE (guardD (wantR true t63_125.1) (drawR true [t10_112] (fun F => some (t10_112, F)) H_126) H_126) fun t64_127 H_128 =>
  bindE (guardD (wantR true t63_125.1) (drawR true [t64_127.1] (fun F => mBin (cfg b) 25 true .eql t64_127.1 (AV.c (.int .i64 0)) F) H_128) H_128) fun t65_129 H_130 =>
  bindE (drawR true [t63_125.1, t65_129.1] (fun F => mPick t63_125.1 t65_129.1 (AV.c (.bool false)) F) H_130) fun t66_131 H_132 =>
  bindE (drawR true [t66_131.1] (fun F => some (t66_131.1, F)) H_132) fun t67_133 H_134 =>
  bindE (guardD (wantR true t67_133.1) (drawR true [t60_118] (fun F => some (t60_118, F)) H_134) H_134) fun t68_135 H_136 =>
  bindE (guardD (wantR true t67_133.1) (drawR true [t68_135.1] (fun F => mBin (cfg b) 25 true .eql t68_135.1 (AV.c (.int .i64 0)) F) H_136) H_136) fun t69_137 H_138 =>
  bindE (drawR true [t67_133.1, t69_137.1] (fun F => mPick t67_133.1 t69_137.1 (AV.c (.bool false)) F) H_138) fun t70_139 H_140 =>
  bindE (drawR true [t70_139.1] (fun F => some (t70_139.1, F)) H_140) fun t71_141 H_142 =>
  bindE (guardD (wantR true t71_141.1) (drawR true [t9_110] (fun F => some (t9_110, F)) H_142) H_142) fun t72_143 H_144 =>
  bindE (guardD (wantR true t71_141.1) (drawR true [t72_143.1] (fun F => mBin (cfg b) 22 true .eql t72_143.1 (AV.c (.int .u64 1)) F) H_144) H_144) fun t73_145 H_146 =>
  bindE (drawR true [t71_141.1, t73_145.1] (fun F => mPick t71_141.1 t73_145.1 (AV.c (.bool false)) F) H_146) fun t74_147 H_148 =>
  bindE (drawR true [t74_147.1] (fun F => some (t74_147.1, F)) H_148) fun t75_149 H_150 =>
  bindE (guardD (wantR true t75_149.1) (drawR true [t59_116] (fun F => some (t59_116, F)) H_150) H_150) fun t76_151 H_152 =>
  bindE (guardD (wantR true t75_149.1) (drawR false [t76_151.1] (fun F => cf 37 [t76_151.1] F) H_152) H_152) fun t77_153 H_154 =>
  bindE (guardD (wantR true t75_149.1) (drawR true [t7_108] (fun F => some (t7_108, F)) H_154) H_154) fun t78_155 H_156 =>
  bindE (guardD (wantR true t75_149.1) (drawR false [t78_155.1] (fun F => cf 37 [t78_155.1] F) H_156) H_156) fun t79_157 H_158 =>
  bindE (guardD (wantR true t75_149.1) (drawR true [t77_153.1, t79_157.1] (fun F => mBin (cfg b) 41 false .eql t77_153.1 t79_157.1 F) H_158) H_158) fun t80_159 H_160 =>
  bindE (drawR true [t75_149.1, t80_159.1] (fun F => mPick t75_149.1 t80_159.1 (AV.c (.bool false)) F) H_160) fun t81_161 H_162 =>
  bindE (drawR true [t81_161.1] (fun F => some (t81_161.1, F)) H_162) fun t82_163 H_164 =>
  bindE (guardD (wantR true t82_163.1) (drawR true [t5_104] (fun F => some (t5_104, F)) H_164) H_164) fun t83_165 H_166 =>
  bindE (guardD (wantR true t82_163.1) (drawR false [t83_165.1] (fun F => cf 30 [t83_165.1] F) H_166) H_166) fun t84_167 H_168 =>
  bindE (guardD (wantR true t82_163.1) (drawR true [t84_167.1] (fun F => mIdxS 32 t84_167.1 (AV.c (.int .i64 0)) F) H_168) H_168) fun t85_169 H_170 =>
  bindE (guardD (wantR true t82_163.1) (drawR true [t85_169.1] (fun F => mLoad true 32 t85_169.1 F) H_170) H_170) fun t86_171 H_172 =>
  bindE (guardD (wantR true t82_163.1) (drawR true [t7_108] (fun F => some (t7_108, F)) H_172) H_172) fun t87_173 H_174 =>
  bindE (guardD (wantR true t82_163.1) (drawR false [t87_173.1] (fun F => cf 37 [t87_173.1] F) H_174) H_174) fun t88_175 H_176 =>
  bindE (guardD (wantR true t82_163.1) (drawR true [t86_171.1, t88_175.1] (fun F => mBin (cfg b) 41 false .eql t86_171.1 t88_175.1 F) H_176) H_176) fun t89_177 H_178 =>
  bindE (drawR true [t82_163.1, t89_177.1] (fun F => mPick t82_163.1 t89_177.1 (AV.c (.bool false)) F) H_178) fun t90_179 H_180 =>
  bindE (drawR true [t90_179.1] (fun F => some (t90_179.1, F)) H_180) fun t4_181 H_182 =>
  some (([t4_181.1], [t61_121.2, t62_123.2, t63_125.2, t64_127.2, t65_129.2, t66_131.2, t67_133.2, t68_135.2, t69_137.2, t70_139.2, t71_141.2, t72_143.2, t73_145.2, t74_147.2, t75_149.2, t76_151.2, t77_153.2, t78_155.2, t79_157.2, t80_159.2, t81_161.2, t82_163.2, t83_165.2, t84_167.2, t85_169.2, t86_171.2, t87_173.2, t88_175.2, t89_177.2, t90_179.2, t4_181.2]), H_182)) H_119) fun vs_183 H_184 =>
  un vs_183 fun t4_185 vs_186 => un0 vs_186 (endQ (cfg b) false k (resC1 (some t4_185) (some [])) H_184))) (fun vs_102 H_103 => un vs_102 fun t5_187 vs_188 => un vs_188 fun t6_189 vs_190 => un vs_190 fun t7_191 vs_192 => un vs_192 fun t9_193 vs_194 => un vs_194 fun t10_195 vs_196 => un0 vs_196 (endQ (cfg b) false k (resC1 (some AV.any) (some [])) H_103)))) (fun vs_46 H_47 => un vs_46 fun t5_197 vs_198 => un vs_198 fun t6_199 vs_200 => un vs_200 fun t7_201 vs_202 => un vs_202 fun t9_203 vs_204 => un vs_204 fun t10_205 vs_206 => un0 vs_206 (endQ (cfg b) false k (resC1 (some AV.any) (some [])) H_47)))

theorem p8_eq (b : Bool) (cf : CallFn) (t0 t1 : AV) (H : Heap) : runG (cfg b) cf An 8 [t0, t1] H = p8 b cf H.length t0 t1 H := by kernel_rfl

end Go.Fm

