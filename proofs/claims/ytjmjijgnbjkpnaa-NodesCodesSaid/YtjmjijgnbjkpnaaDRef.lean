/-
  A part of the proof: DRef.
-/
import Derived.Test.YtjmjijgnbjkpnaaDAnn
set_option linter.all false
set_option autoImplicit true
/-
  What the interpreter does to functions, without slots and types; the kernel holds it against the code.
-/
set_option maxRecDepth 100000
set_option linter.unusedVariables false
namespace Go.Fm
open Go Go.Proofs
/-- ferryman/ferrymanref05.Encode -/
noncomputable def p8_d0 (b : Bool) (cf : CallFn) (t1_0 : AV) (H_108 : Heap) : Option ((List AV × List Trail) × Heap) :=
  bindE (drawR true [t1_0] (fun F => mFA 0 0 t1_0 F) H_108) fun t62_109 H_110 =>
  bindE (drawR true [t62_109.1] (fun F => mLoad false 1 t62_109.1 F) H_110) fun t63_111 H_112 =>
  bindE (drawR false [t63_111.1] (fun F => cf 28 [(AV.c .nilsl), (AV.c (.int .u8 1)), t63_111.1] F) H_112) fun t64_113 H_114 =>
  bindE (drawR true [t1_0] (fun F => mFA 1 1 t1_0 F) H_114) fun t65_115 H_116 =>
  bindE (drawR true [t65_115.1] (fun F => mLoad false 1 t65_115.1 F) H_116) fun t66_117 H_118 =>
  bindE (drawR false [t64_113.1, t66_117.1] (fun F => cf 28 [t64_113.1, (AV.c (.int .u8 2)), t66_117.1] F) H_118) fun t67_119 H_120 =>
  bindE (drawM (some t67_119.1) H_120) fun t5_121 H_122 =>
  some (([t5_121.1], [t62_109.2, t63_111.2, t64_113.2, t65_115.2, t66_117.2, t67_119.2, t5_121.2]), H_122)
noncomputable def p8_d1 (b : Bool) (cf : CallFn) (t82_149 t1_0 : AV) (H_151 : Heap) : Option ((List AV × List Trail) × Heap) :=
  bindE (drawM (some t82_149) H_151) fun t83_152 H_153 =>
  bindE (drawR true [t1_0] (fun F => mFA 4 4 t1_0 F) H_153) fun t84_154 H_155 =>
  bindE (drawR false [t84_154.1] (fun F => mSliceArr 32 t84_154.1 none none F) H_155) fun t85_156 H_157 =>
  bindE (drawR false [t83_152.1, t85_156.1] (fun F => cf 28 [t83_152.1, (AV.c (.int .u8 5)), t85_156.1] F) H_157) fun t86_158 H_159 =>
  bindE (drawR true [t1_0] (fun F => mFA 5 36 t1_0 F) H_159) fun t87_160 H_161 =>
  bindE (drawR false [t87_160.1] (fun F => mSliceArr 32 t87_160.1 none none F) H_161) fun t88_162 H_163 =>
  bindE (drawR false [t86_158.1, t88_162.1] (fun F => cf 28 [t86_158.1, (AV.c (.int .u8 6)), t88_162.1] F) H_163) fun t89_164 H_165 =>
  bindE (drawM (some t89_164.1) H_165) fun t2_166 H_167 =>
  bindE (drawM (some (AV.c (.int .i64 0))) H_167) fun t3_168 H_169 =>
  some (([t2_166.1, t3_168.1], [t83_152.2, t84_154.2, t85_156.2, t86_158.2, t87_160.2, t88_162.2, t89_164.2, t2_166.2, t3_168.2]), H_169)
noncomputable def p8 (b : Bool) (cf : CallFn) (k : Nat) (t0 : AV) (H : Heap) : Option (AV × Heap) :=
  bindE (mBox 27 t0 H) fun t1_0 H_1 =>
  bindE (mBuildA 32 .u8 (List.replicate 32 0) [] H_1) fun t6_2 H_3 =>
  bindE (mAlloc 25 (.arr 32 .u8 (List.replicate 32 0)) H_3) fun t4_4 H_5 =>
  bindE (mStore true 32 t4_4 t6_2 H_5) fun u_6 H_7 =>
  bindE (mFA 0 0 t1_0 H_7) fun t7_8 H_9 =>
  bindE (mLoad false 1 t7_8 H_9) fun t8_10 H_11 =>
  bindE (mLenSl t8_10 H_11) fun t9_12 H_13 =>
  bindE (mBin (cfg b) 3 true .lss t9_12 (AV.c (.int .i64 1)) H_13) fun t10_14 H_15 =>
  bindE (guardR (wantR false t10_14) (mFA 0 0 t1_0 H_15) H_15) fun t12_16 H_17 =>
  bindE (guardR (wantR false t10_14) (mLoad false 1 t12_16 H_17) H_17) fun t13_18 H_19 =>
  bindE (guardR (wantR false t10_14) (mLenSl t13_18 H_19) H_19) fun t14_20 H_21 =>
  bindE (guardR (wantR false t10_14) (mBin (cfg b) 3 true .gtr t14_20 (AV.c (.int .i64 96)) H_21) H_21) fun t15_22 H_23 =>
  bindE (mPick t10_14 (AV.c (.bool true)) t15_22 H_23) fun t16_24 H_25 =>
  condR t16_24 (endQ (cfg b) false k (resC1 (some (AV.c .nilsl)) (resC1 (some (AV.c (.int .i64 10))) (some []))) H_25) (bindE (mFA 2 2 t1_0 H_25) fun t17_26 H_27 =>
  bindE (mLoad false 1 t17_26 H_27) fun t18_28 H_29 =>
  bindE (mBin (cfg b) 3 true .lss t18_28 (AV.c (.int .i64 0)) H_29) fun t19_30 H_31 =>
  bindE (guardR (wantR false t19_30) (mFA 2 2 t1_0 H_31) H_31) fun t21_32 H_33 =>
  bindE (guardR (wantR false t19_30) (mLoad false 1 t21_32 H_33) H_33) fun t22_34 H_35 =>
  bindE (guardR (wantR false t19_30) (mBin (cfg b) 3 true .gtr t22_34 (AV.c (.int .i64 64)) H_35) H_35) fun t23_36 H_37 =>
  bindE (mPick t19_30 (AV.c (.bool true)) t23_36 H_37) fun t24_38 H_39 =>
  bindE (guardR (wantR false t24_38) (mFA 1 1 t1_0 H_39) H_39) fun t26_40 H_41 =>
  bindE (guardR (wantR false t24_38) (mLoad false 1 t26_40 H_41) H_41) fun t27_42 H_43 =>
  bindE (guardR (wantR false t24_38) (mLenSl t27_42 H_43) H_43) fun t28_44 H_45 =>
  bindE (guardR (wantR false t24_38) (mBin (cfg b) 3 true .gtr t28_44 (AV.c (.int .i64 256)) H_45) H_45) fun t29_46 H_47 =>
  bindE (mPick t24_38 (AV.c (.bool true)) t29_46 H_47) fun t30_48 H_49 =>
  condR t30_48 (endQ (cfg b) false k (resC1 (some (AV.c .nilsl)) (resC1 (some (AV.c (.int .i64 12))) (some []))) H_49) (bindE (mFA 2 2 t1_0 H_49) fun t31_50 H_51 =>
  bindE (mLoad false 1 t31_50 H_51) fun t32_52 H_53 =>
  bindE (mBin (cfg b) 3 true .gtr t32_52 (AV.c (.int .i64 0)) H_53) fun t33_54 H_55 =>
  bindE (guardR (wantR true t33_54) (mFA 1 1 t1_0 H_55) H_55) fun t35_56 H_57 =>
  bindE (guardR (wantR true t33_54) (mLoad false 1 t35_56 H_57) H_57) fun t36_58 H_59 =>
  bindE (guardR (wantR true t33_54) (mLenSl t36_58 H_59) H_59) fun t37_60 H_61 =>
  bindE (guardR (wantR true t33_54) (mBin (cfg b) 3 true .gtr t37_60 (AV.c (.int .i64 0)) H_61) H_61) fun t38_62 H_63 =>
  bindE (mPick t33_54 t38_62 (AV.c (.bool false)) H_63) fun t39_64 H_65 =>
  bindE (guardR (wantR false t39_64) (mFA 2 2 t1_0 H_65) H_65) fun t41_66 H_67 =>
  bindE (guardR (wantR false t39_64) (mLoad false 1 t41_66 H_67) H_67) fun t42_68 H_69 =>
  bindE (guardR (wantR false t39_64) (mBin (cfg b) 3 true .eql t42_68 (AV.c (.int .i64 0)) H_69) H_69) fun t43_70 H_71 =>
  bindE (guardR (wantR false t39_64) (some (t43_70, H_71)) H_71) fun t44_72 H_73 =>
  bindE (guardR (wantR true t44_72) (mFA 3 3 t1_0 H_73) H_73) fun t45_74 H_75 =>
  bindE (guardR (wantR true t44_72) (mLoad false 1 t45_74 H_75) H_75) fun t46_76 H_77 =>
  bindE (guardR (wantR true t44_72) (mBin (cfg b) 23 true .neq t46_76 (AV.c (.int .u64 1)) H_77) H_77) fun t47_78 H_79 =>
  bindE (guardR (wantR true t44_72) (some (t47_78, H_79)) H_79) fun t48_80 H_81 =>
  bindE (guardR (wantR false t48_80) (mFA 4 4 t1_0 H_81) H_81) fun t49_82 H_83 =>
  bindE (guardR (wantR false t48_80) (mLoad true 32 t49_82 H_83) H_83) fun t50_84 H_85 =>
  bindE (guardR (wantR false t48_80) (mLoad true 32 t4_4 H_85) H_85) fun t51_86 H_87 =>
  bindE (guardR (wantR false t48_80) (mBin (cfg b) 25 false .neq t50_84 t51_86 H_87) H_87) fun t52_88 H_89 =>
  bindE (guardR (wantR true t44_72) (mPick t48_80 (AV.c (.bool true)) t52_88 H_89) H_89) fun t53_90 H_91 =>
  bindE (guardR (wantR true t44_72) (some (t53_90, H_91)) H_91) fun t54_92 H_93 =>
  bindE (guardR (wantR false t54_92) (mFA 5 36 t1_0 H_93) H_93) fun t55_94 H_95 =>
  bindE (guardR (wantR false t54_92) (mLoad true 32 t55_94 H_95) H_95) fun t56_96 H_97 =>
  bindE (guardR (wantR false t54_92) (mLoad true 32 t4_4 H_97) H_97) fun t57_98 H_99 =>
  bindE (guardR (wantR false t54_92) (mBin (cfg b) 25 false .neq t56_96 t57_98 H_99) H_99) fun t58_100 H_101 =>
  bindE (guardR (wantR true t44_72) (mPick t54_92 (AV.c (.bool true)) t58_100 H_101) H_101) fun t59_102 H_103 =>
  bindE (guardR (wantR false t39_64) (mPick t44_72 t59_102 (AV.c (.bool false)) H_103) H_103) fun t60_104 H_105 =>
  bindE (mPick t39_64 (AV.c (.bool true)) t60_104 H_105) fun t61_106 H_107 =>
  condR t61_106 (endQ (cfg b) false k (resC1 (some (AV.c .nilsl)) (resC1 (some (AV.c (.int .i64 12))) (some []))) H_107) (afterD (twice [0, 1, 3, 0, 8, 31, 63] (p8_d0 b cf t1_0) H_107) fun vs_123 H_124 =>
  un vs_123 fun t5_125 vs_126 => un0 vs_126 (bindE (mFA 2 2 t1_0 H_124) fun t68_127 H_128 =>
  bindE (mLoad false 1 t68_127 H_128) fun t69_129 H_130 =>
  bindE (mBin (cfg b) 3 true .eql t69_129 (AV.c (.int .i64 0)) H_130) fun t70_131 H_132 =>
  condR t70_131 (endQ (cfg b) false k (resC1 (some t5_125) (resC1 (some (AV.c (.int .i64 0))) (some []))) H_132) (bindE (mFA 2 2 t1_0 H_132) fun t73_133 H_134 =>
  bindE (mLoad false 1 t73_133 H_134) fun t74_135 H_136 =>
  bindE (mConvI .u64 t74_135 H_136) fun t75_137 H_138 =>
  bindE (cf 29 [t75_137] H_138) fun t76_139 H_140 =>
  bindE (cf 28 [t5_125, (AV.c (.int .u8 3)), t76_139] H_140) fun t77_141 H_142 =>
  bindE (mFA 3 3 t1_0 H_142) fun t79_143 H_144 =>
  bindE (mLoad false 1 t79_143 H_144) fun t80_145 H_146 =>
  bindE (cf 29 [t80_145] H_146) fun t81_147 H_148 =>
  bindE (cf 28 [t77_141, (AV.c (.int .u8 4)), t81_147] H_148) fun t82_149 H_150 =>
  afterD (twice [0, 0, 2, 7, 0, 16, 63, 127, 255] (p8_d1 b cf t82_149 t1_0) H_150) fun vs_170 H_171 =>
  un vs_170 fun t2_172 vs_173 => un vs_173 fun t3_174 vs_175 => un0 vs_175 (endQ (cfg b) false k (resC1 (some t2_172) (resC1 (some t3_174) (some []))) H_171))))))
noncomputable def p11_l0 (b : Bool) (cf : CallFn) (k : Nat) (s : List AV) (H : Heap) : Option (LStep × Heap) :=
  un s fun t0_20 vs_21 => un vs_21 fun t2_22 vs_23 => un vs_23 fun t4_24 vs_25 => un vs_25 fun t6_26 vs_27 => un vs_27 fun t7_28 vs_29 => un0 vs_29 (bindE (mLenSl t4_24 H) fun t24_30 H_31 =>
  bindE (mBin (cfg b) 3 false .lss t7_28 t24_30 H_31) fun t25_32 H_33 =>
  condR t25_32 (bindE (mIdxS 2 t4_24 t7_28 H_33) fun t30_34 H_35 =>
  bindE (mFA 1 1 t30_34 H_35) fun t31_36 H_37 =>
  bindE (mLoad false 1 t31_36 H_37) fun t32_38 H_39 =>
  bindE (mIdxS 2 t4_24 t7_28 H_39) fun t35_40 H_41 =>
  bindE (mFA 0 0 t35_40 H_41) fun t36_42 H_43 =>
  bindE (mLoad false 1 t36_42 H_43) fun t37_44 H_45 =>
  bindE (mBin (cfg b) 5 true .eql t37_44 (AV.c (.int .u8 1)) H_45) fun t40_46 H_47 =>
  condR t40_46 (bindE (mFA 0 0 t6_26 H_47) fun t42_48 H_49 =>
  bindE (mStore false 1 t42_48 t32_38 H_49) fun u_50 H_51 =>
  bindE (mUn .not (AV.c (.bool true)) H_51) fun t85_52 H_53 =>
  condR t85_52 (bindE (mBuildS [.nilsl, .nilsl, (.int .i64 0), (.int .u64 0), (.arr 32 .u8 (List.replicate 32 0)), (.arr 32 .u8 (List.replicate 32 0))] [] H_53) fun t86_54 H_55 =>
  bindE (mStore true 68 t2_22 t86_54 H_55) fun u_56 H_57 =>
  some (LStep.ret [t0_20, t2_22, (AV.c (.int .i64 7)), t6_26], H_57)) (bindE (mBin (cfg b) 3 true .add t7_28 (AV.c (.int .i64 1)) H_53) fun t27_58 H_59 =>
  some (LStep.cont [t0_20, t2_22, t4_24, t6_26, t27_58], H_59))) (bindE (mBin (cfg b) 5 true .eql t37_44 (AV.c (.int .u8 2)) H_47) fun t44_60 H_61 =>
  condR t44_60 (bindE (mFA 1 1 t6_26 H_61) fun t46_62 H_63 =>
  bindE (mStore false 1 t46_62 t32_38 H_63) fun u_64 H_65 =>
  bindE (mUn .not (AV.c (.bool true)) H_65) fun t85_66 H_67 =>
  condR t85_66 (bindE (mBuildS [.nilsl, .nilsl, (.int .i64 0), (.int .u64 0), (.arr 32 .u8 (List.replicate 32 0)), (.arr 32 .u8 (List.replicate 32 0))] [] H_67) fun t86_68 H_69 =>
  bindE (mStore true 68 t2_22 t86_68 H_69) fun u_70 H_71 =>
  some (LStep.ret [t0_20, t2_22, (AV.c (.int .i64 7)), t6_26], H_71)) (bindE (mBin (cfg b) 3 true .add t7_28 (AV.c (.int .i64 1)) H_67) fun t27_72 H_73 =>
  some (LStep.cont [t0_20, t2_22, t4_24, t6_26, t27_72], H_73))) (bindE (mBin (cfg b) 5 true .eql t37_44 (AV.c (.int .u8 3)) H_61) fun t48_74 H_75 =>
  condR t48_74 (bindE (cf 33 [t32_38] H_75) fun t51_76 H_77 =>
  bindE (mExtract 0 t51_76 H_77) fun t52_78 H_79 =>
  bindE (mExtract 1 t51_76 H_79) fun t53_80 H_81 =>
  bindE (mFA 2 2 t6_26 H_81) fun t54_82 H_83 =>
  bindE (mStore false 1 t54_82 (AV.c (.int .i64 65)) H_83) fun u_84 H_85 =>
  bindE (mBin (cfg b) 23 true .lss t52_78 (AV.c (.int .u64 65)) H_85) fun t56_86 H_87 =>
  condR t56_86 (bindE (mConvI .i64 t52_78 H_87) fun t58_88 H_89 =>
  bindE (mFA 2 2 t6_26 H_89) fun t59_90 H_91 =>
  bindE (mStore false 1 t59_90 t58_88 H_91) fun u_92 H_93 =>
  bindE (mUn .not t53_80 H_93) fun t85_94 H_95 =>
  condR t85_94 (bindE (mBuildS [.nilsl, .nilsl, (.int .i64 0), (.int .u64 0), (.arr 32 .u8 (List.replicate 32 0)), (.arr 32 .u8 (List.replicate 32 0))] [] H_95) fun t86_96 H_97 =>
  bindE (mStore true 68 t2_22 t86_96 H_97) fun u_98 H_99 =>
  some (LStep.ret [t0_20, t2_22, (AV.c (.int .i64 7)), t6_26], H_99)) (bindE (mBin (cfg b) 3 true .add t7_28 (AV.c (.int .i64 1)) H_95) fun t27_100 H_101 =>
  some (LStep.cont [t0_20, t2_22, t4_24, t6_26, t27_100], H_101))) (bindE (mUn .not t53_80 H_87) fun t85_102 H_103 =>
  condR t85_102 (bindE (mBuildS [.nilsl, .nilsl, (.int .i64 0), (.int .u64 0), (.arr 32 .u8 (List.replicate 32 0)), (.arr 32 .u8 (List.replicate 32 0))] [] H_103) fun t86_104 H_105 =>
  bindE (mStore true 68 t2_22 t86_104 H_105) fun u_106 H_107 =>
  some (LStep.ret [t0_20, t2_22, (AV.c (.int .i64 7)), t6_26], H_107)) (bindE (mBin (cfg b) 3 true .add t7_28 (AV.c (.int .i64 1)) H_103) fun t27_108 H_109 =>
  some (LStep.cont [t0_20, t2_22, t4_24, t6_26, t27_108], H_109)))) (bindE (mBin (cfg b) 5 true .eql t37_44 (AV.c (.int .u8 4)) H_75) fun t61_110 H_111 =>
  condR t61_110 (bindE (cf 33 [t32_38] H_111) fun t64_112 H_113 =>
  bindE (mExtract 0 t64_112 H_113) fun t65_114 H_115 =>
  bindE (mExtract 1 t64_112 H_115) fun t66_116 H_117 =>
  bindE (mFA 3 3 t6_26 H_117) fun t67_118 H_119 =>
  bindE (mStore false 1 t67_118 t65_114 H_119) fun u_120 H_121 =>
  bindE (mUn .not t66_116 H_121) fun t85_122 H_123 =>
  condR t85_122 (bindE (mBuildS [.nilsl, .nilsl, (.int .i64 0), (.int .u64 0), (.arr 32 .u8 (List.replicate 32 0)), (.arr 32 .u8 (List.replicate 32 0))] [] H_123) fun t86_124 H_125 =>
  bindE (mStore true 68 t2_22 t86_124 H_125) fun u_126 H_127 =>
  some (LStep.ret [t0_20, t2_22, (AV.c (.int .i64 7)), t6_26], H_127)) (bindE (mBin (cfg b) 3 true .add t7_28 (AV.c (.int .i64 1)) H_123) fun t27_128 H_129 =>
  some (LStep.cont [t0_20, t2_22, t4_24, t6_26, t27_128], H_129))) (bindE (mBin (cfg b) 5 true .eql t37_44 (AV.c (.int .u8 5)) H_111) fun t69_130 H_131 =>
  condR t69_130 (bindE (cf 34 [t32_38] H_131) fun t72_132 H_133 =>
  bindE (mExtract 0 t72_132 H_133) fun t73_134 H_135 =>
  bindE (mExtract 1 t72_132 H_135) fun t74_136 H_137 =>
  bindE (mFA 4 4 t6_26 H_137) fun t75_138 H_139 =>
  bindE (mStore true 32 t75_138 t73_134 H_139) fun u_140 H_141 =>
  bindE (mUn .not t74_136 H_141) fun t85_142 H_143 =>
  condR t85_142 (bindE (mBuildS [.nilsl, .nilsl, (.int .i64 0), (.int .u64 0), (.arr 32 .u8 (List.replicate 32 0)), (.arr 32 .u8 (List.replicate 32 0))] [] H_143) fun t86_144 H_145 =>
  bindE (mStore true 68 t2_22 t86_144 H_145) fun u_146 H_147 =>
  some (LStep.ret [t0_20, t2_22, (AV.c (.int .i64 7)), t6_26], H_147)) (bindE (mBin (cfg b) 3 true .add t7_28 (AV.c (.int .i64 1)) H_143) fun t27_148 H_149 =>
  some (LStep.cont [t0_20, t2_22, t4_24, t6_26, t27_148], H_149))) (bindE (mBin (cfg b) 5 true .eql t37_44 (AV.c (.int .u8 6)) H_131) fun t77_150 H_151 =>
  condR t77_150 (bindE (cf 34 [t32_38] H_151) fun t80_152 H_153 =>
  bindE (mExtract 0 t80_152 H_153) fun t81_154 H_155 =>
  bindE (mExtract 1 t80_152 H_155) fun t82_156 H_157 =>
  bindE (mFA 5 36 t6_26 H_157) fun t83_158 H_159 =>
  bindE (mStore true 32 t83_158 t81_154 H_159) fun u_160 H_161 =>
  bindE (mUn .not t82_156 H_161) fun t85_162 H_163 =>
  condR t85_162 (bindE (mBuildS [.nilsl, .nilsl, (.int .i64 0), (.int .u64 0), (.arr 32 .u8 (List.replicate 32 0)), (.arr 32 .u8 (List.replicate 32 0))] [] H_163) fun t86_164 H_165 =>
  bindE (mStore true 68 t2_22 t86_164 H_165) fun u_166 H_167 =>
  some (LStep.ret [t0_20, t2_22, (AV.c (.int .i64 7)), t6_26], H_167)) (bindE (mBin (cfg b) 3 true .add t7_28 (AV.c (.int .i64 1)) H_163) fun t27_168 H_169 =>
  some (LStep.cont [t0_20, t2_22, t4_24, t6_26, t27_168], H_169))) (bindE (mBuildS [.nilsl, .nilsl, (.int .i64 0), (.int .u64 0), (.arr 32 .u8 (List.replicate 32 0)), (.arr 32 .u8 (List.replicate 32 0))] [] H_151) fun t38_170 H_171 =>
  bindE (mStore true 68 t2_22 t38_170 H_171) fun u_172 H_173 =>
  some (LStep.ret [t0_20, t2_22, (AV.c (.int .i64 8)), t6_26], H_173)))))))) (some (LStep.exit 0 [t0_20, t2_22, AV.any, t6_26], H_33)))
/-- ferryman/ferrymanref05.Decode -/
noncomputable def p11 (b : Bool) (cf : CallFn) (k : Nat) (t0 : AV) (H : Heap) : Option (AV × Heap) :=
  bindE (mAlloc 27 (.agg [.nilsl, .nilsl, (.int .i64 0), (.int .u64 0), (.arr 32 .u8 (List.replicate 32 0)), (.arr 32 .u8 (List.replicate 32 0))]) H) fun t2_0 H_1 =>
  bindE (cf 32 [t0] H_1) fun t14_2 H_3 =>
  bindE (mExtract 0 t14_2 H_3) fun t15_4 H_5 =>
  bindE (mExtract 1 t14_2 H_5) fun t16_6 H_7 =>
  bindE (mBin (cfg b) 3 true .neq t16_6 (AV.c (.int .i64 0)) H_7) fun t18_8 H_9 =>
  condR t18_8 (bindE (mBuildS [.nilsl, .nilsl, (.int .i64 0), (.int .u64 0), (.arr 32 .u8 (List.replicate 32 0)), (.arr 32 .u8 (List.replicate 32 0))] [] H_9) fun t19_10 H_11 =>
  bindE (mStore true 68 t2_0 t19_10 H_11) fun u_12 H_13 =>
  endQ (cfg b) false k (resC1 (mld true 68 H_13 t2_0) (resC1 (some t16_6) (some []))) H_13) (bindE (mBuildS [.nilsl, .nilsl, (.int .i64 0), (.int .u64 0), (.arr 32 .u8 (List.replicate 32 0)), (.arr 32 .u8 (List.replicate 32 0))] [(3, (AV.c (.int .u64 1)))] H_9) fun t21_14 H_15 =>
  bindE (mAlloc 27 (.agg [.nilsl, .nilsl, (.int .i64 0), (.int .u64 0), (.arr 32 .u8 (List.replicate 32 0)), (.arr 32 .u8 (List.replicate 32 0))]) H_15) fun t6_16 H_17 =>
  bindE (mStore true 68 t6_16 t21_14 H_17) fun u_18 H_19 =>
  afterL 0 (loopX k (p11_l0 b cf k) [t0, t2_0, t15_4, t6_16, (AV.c (.int .i64 0))] H_19) (fun vs_174 H_175 =>
  un vs_174 fun t0_176 vs_177 => un vs_177 fun t2_178 vs_179 => un vs_179 fun t3_180 vs_181 => un vs_181 fun t6_182 vs_183 => un0 vs_183 (bindE (mLoad true 68 t6_182 H_175) fun t88_184 H_185 =>
  bindE (cf 8 [t88_184] H_185) fun t89_186 H_187 =>
  bindE (mExtract 0 t89_186 H_187) fun t90_188 H_189 =>
  bindE (mExtract 1 t89_186 H_189) fun t91_190 H_191 =>
  bindE (mBin (cfg b) 3 true .neq t91_190 (AV.c (.int .i64 0)) H_191) fun t93_192 H_193 =>
  condR t93_192 (bindE (mBuildS [.nilsl, .nilsl, (.int .i64 0), (.int .u64 0), (.arr 32 .u8 (List.replicate 32 0)), (.arr 32 .u8 (List.replicate 32 0))] [] H_193) fun t94_194 H_195 =>
  bindE (mStore true 68 t2_178 t94_194 H_195) fun u_196 H_197 =>
  endQ (cfg b) false k (resC1 (mld true 68 H_197 t2_178) (resC1 (some t91_190) (some []))) H_197) (bindE (mConvBS t90_188 H_193) fun t97_198 H_199 =>
  bindE (mConvBS t0_176 H_199) fun t99_200 H_201 =>
  bindE (mBin (cfg b) 9 false .neq t97_198 t99_200 H_201) fun t100_202 H_203 =>
  condR t100_202 (bindE (mBuildS [.nilsl, .nilsl, (.int .i64 0), (.int .u64 0), (.arr 32 .u8 (List.replicate 32 0)), (.arr 32 .u8 (List.replicate 32 0))] [] H_203) fun t101_204 H_205 =>
  bindE (mStore true 68 t2_178 t101_204 H_205) fun u_206 H_207 =>
  endQ (cfg b) false k (resC1 (mld true 68 H_207 t2_178) (resC1 (some (AV.c (.int .i64 7))) (some []))) H_207) (bindE (mLoad true 68 t6_182 H_203) fun t102_208 H_209 =>
  bindE (mStore true 68 t2_178 t102_208 H_209) fun u_210 H_211 =>
  endQ (cfg b) false k (resC1 (mld true 68 H_211 t2_178) (resC1 (some (AV.c (.int .i64 0))) (some []))) H_211)))) (fun vs_174 H_175 => un vs_174 fun t0_212 vs_213 => un vs_213 fun t2_214 vs_215 => un vs_215 fun t3_216 vs_217 => un vs_217 fun t6_218 vs_219 => un0 vs_219 (endQ (cfg b) false k (resC1 (mld true 68 H_175 t2_214) (resC1 (some t3_216) (some []))) H_175)))
/-- ferryman/ferrymanref05.SameNode -/
noncomputable def p12 (b : Bool) (cf : CallFn) (k : Nat) (t0 t1 : AV) (H : Heap) : Option (AV × Heap) :=
  bindE (mBox 27 t0 H) fun t2_0 H_1 =>
  bindE (mBox 27 t1 H_1) fun t3_2 H_3 =>
  bindE (mFA 0 0 t2_0 H_3) fun t5_4 H_5 =>
  bindE (mLoad false 1 t5_4 H_5) fun t6_6 H_7 =>
  bindE (mConvBS t6_6 H_7) fun t7_8 H_9 =>
  bindE (mFA 0 0 t3_2 H_9) fun t8_10 H_11 =>
  bindE (mLoad false 1 t8_10 H_11) fun t9_12 H_13 =>
  bindE (mConvBS t9_12 H_13) fun t10_14 H_15 =>
  bindE (mBin (cfg b) 9 false .eql t7_8 t10_14 H_15) fun t11_16 H_17 =>
  bindE (guardR (wantR true t11_16) (mFA 1 1 t2_0 H_17) H_17) fun t13_18 H_19 =>
  bindE (guardR (wantR true t11_16) (mLoad false 1 t13_18 H_19) H_19) fun t14_20 H_21 =>
  bindE (guardR (wantR true t11_16) (mConvBS t14_20 H_21) H_21) fun t15_22 H_23 =>
  bindE (guardR (wantR true t11_16) (mFA 1 1 t3_2 H_23) H_23) fun t16_24 H_25 =>
  bindE (guardR (wantR true t11_16) (mLoad false 1 t16_24 H_25) H_25) fun t17_26 H_27 =>
  bindE (guardR (wantR true t11_16) (mConvBS t17_26 H_27) H_27) fun t18_28 H_29 =>
  bindE (guardR (wantR true t11_16) (mBin (cfg b) 9 false .eql t15_22 t18_28 H_29) H_29) fun t19_30 H_31 =>
  bindE (mPick t11_16 t19_30 (AV.c (.bool false)) H_31) fun t20_32 H_33 =>
  bindE (guardR (wantR true t20_32) (mFA 2 2 t2_0 H_33) H_33) fun t22_34 H_35 =>
  bindE (guardR (wantR true t20_32) (mLoad false 1 t22_34 H_35) H_35) fun t23_36 H_37 =>
  bindE (guardR (wantR true t20_32) (mFA 2 2 t3_2 H_37) H_37) fun t24_38 H_39 =>
  bindE (guardR (wantR true t20_32) (mLoad false 1 t24_38 H_39) H_39) fun t25_40 H_41 =>
  bindE (guardR (wantR true t20_32) (mBin (cfg b) 3 false .eql t23_36 t25_40 H_41) H_41) fun t26_42 H_43 =>
  bindE (mPick t20_32 t26_42 (AV.c (.bool false)) H_43) fun t27_44 H_45 =>
  bindE (guardR (wantR true t27_44) (mFA 3 3 t2_0 H_45) H_45) fun t29_46 H_47 =>
  bindE (guardR (wantR true t27_44) (mLoad false 1 t29_46 H_47) H_47) fun t30_48 H_49 =>
  bindE (guardR (wantR true t27_44) (mFA 3 3 t3_2 H_49) H_49) fun t31_50 H_51 =>
  bindE (guardR (wantR true t27_44) (mLoad false 1 t31_50 H_51) H_51) fun t32_52 H_53 =>
  bindE (guardR (wantR true t27_44) (mBin (cfg b) 23 false .eql t30_48 t32_52 H_53) H_53) fun t33_54 H_55 =>
  bindE (mPick t27_44 t33_54 (AV.c (.bool false)) H_55) fun t34_56 H_57 =>
  bindE (guardR (wantR true t34_56) (mFA 4 4 t2_0 H_57) H_57) fun t36_58 H_59 =>
  bindE (guardR (wantR true t34_56) (mLoad true 32 t36_58 H_59) H_59) fun t37_60 H_61 =>
  bindE (guardR (wantR true t34_56) (mFA 4 4 t3_2 H_61) H_61) fun t38_62 H_63 =>
  bindE (guardR (wantR true t34_56) (mLoad true 32 t38_62 H_63) H_63) fun t39_64 H_65 =>
  bindE (guardR (wantR true t34_56) (mBin (cfg b) 25 false .eql t37_60 t39_64 H_65) H_65) fun t40_66 H_67 =>
  bindE (mPick t34_56 t40_66 (AV.c (.bool false)) H_67) fun t41_68 H_69 =>
  bindE (guardR (wantR true t41_68) (mFA 5 36 t2_0 H_69) H_69) fun t43_70 H_71 =>
  bindE (guardR (wantR true t41_68) (mLoad true 32 t43_70 H_71) H_71) fun t44_72 H_73 =>
  bindE (guardR (wantR true t41_68) (mFA 5 36 t3_2 H_73) H_73) fun t45_74 H_75 =>
  bindE (guardR (wantR true t41_68) (mLoad true 32 t45_74 H_75) H_75) fun t46_76 H_77 =>
  bindE (guardR (wantR true t41_68) (mBin (cfg b) 25 false .eql t44_72 t46_76 H_77) H_77) fun t47_78 H_79 =>
  bindE (mPick t41_68 t47_78 (AV.c (.bool false)) H_79) fun t48_80 H_81 =>
  endQ (cfg b) false k (resC1 (some t48_80) (some [])) H_81
/-- ferryman/ferrymanref01.Put -/
noncomputable def p28 (b : Bool) (cf : CallFn) (k : Nat) (t0 t1 t2 : AV) (H : Heap) : Option (AV × Heap) :=
  bindE (mLenSl t2 H) fun t8_0 H_1 =>
  bindE (mBin (cfg b) 3 true .eql t8_0 (AV.c (.int .i64 0)) H_1) fun t9_2 H_3 =>
  condR t9_2 (endQ (cfg b) false k (resC1 (some t0) (some [])) H_3) (bindE (mBuildSl 5 1 (.int .u8 0) 0 [] H_3) fun t11_4 H_5 =>
  bindE (mAppend 5 1 1 false t11_4 t0 H_5) fun t13_6 H_7 =>
  bindE (mLenSl t2 H_7) fun t16_8 H_9 =>
  bindE (mBin (cfg b) 3 true .quo t16_8 (AV.c (.int .i64 256)) H_9) fun t17_10 H_11 =>
  bindE (mConvI .u8 t17_10 H_11) fun t18_12 H_13 =>
  bindE (mLenSl t2 H_13) fun t20_14 H_15 =>
  bindE (mBin (cfg b) 3 true .rem t20_14 (AV.c (.int .i64 256)) H_15) fun t21_16 H_17 =>
  bindE (mConvI .u8 t21_16 H_17) fun t22_18 H_19 =>
  bindE (mBuildSl 5 1 (.int .u8 0) 3 [(0, t1), (1, t18_12), (2, t22_18)] H_19) fun t23_20 H_21 =>
  bindE (mAppend 5 1 1 false t13_6 t23_20 H_21) fun t24_22 H_23 =>
  bindE (mAppend 5 1 1 false t24_22 t2 H_23) fun t26_24 H_25 =>
  endQ (cfg b) false k (resC1 (some t26_24) (some [])) H_25)
noncomputable def p29_l0 (b : Bool) (cf : CallFn) (k : Nat) (s : List AV) (H : Heap) : Option (LStep × Heap) :=
  un s fun t3_2 vs_3 => un0 vs_3 (bindE (mLenSl t3_2 H) fun t7_4 H_5 =>
  bindE (mBin (cfg b) 3 true .gtr t7_4 (AV.c (.int .i64 0)) H_5) fun t8_6 H_7 =>
  bindE (guardR (wantR true t8_6) (some (t3_2, H_7)) H_7) fun t10_8 H_9 =>
  bindE (guardR (wantR true t8_6) (mIdxS 1 t10_8 (AV.c (.int .i64 0)) H_9) H_9) fun t11_10 H_11 =>
  bindE (guardR (wantR true t8_6) (mLoad false 1 t11_10 H_11) H_11) fun t12_12 H_13 =>
  bindE (guardR (wantR true t8_6) (mBin (cfg b) 5 true .eql t12_12 (AV.c (.int .u8 0)) H_13) H_13) fun t13_14 H_15 =>
  bindE (mPick t8_6 t13_14 (AV.c (.bool false)) H_15) fun t14_16 H_17 =>
  condR t14_16 (bindE (mSliceSl 1 t3_2 (some (AV.c (.int .i64 1))) none H_17) fun t16_18 H_19 =>
  some (LStep.cont [t16_18], H_19)) (some (LStep.exit 0 [t3_2], H_17)))
/-- ferryman/ferrymanref01.Num -/
noncomputable def p29 (b : Bool) (cf : CallFn) (k : Nat) (t0 : AV) (H : Heap) : Option (AV × Heap) :=
  bindE (cf 40 [t0] H) fun t5_0 H_1 =>
  afterL 0 (loopX k (p29_l0 b cf k) [t5_0] H_1) (fun vs_20 H_21 =>
  un vs_20 fun t3_22 vs_23 => un0 vs_23 (endQ (cfg b) false k (resC1 (some t3_22) (some [])) H_21)) (fun vs_20 H_21 => un vs_20 fun t3_24 vs_25 => un0 vs_25 (endQ (cfg b) false k (resC1 (some AV.any) (some [])) H_21))
noncomputable def p32_l0 (b : Bool) (cf : CallFn) (k : Nat) (s : List AV) (H : Heap) : Option (LStep × Heap) :=
  un s fun t0_0 vs_1 => un vs_1 fun t4_2 vs_3 => un vs_3 fun t5_4 vs_5 => un0 vs_5 (bindE (mLenSl t0_0 H) fun t11_6 H_7 =>
  bindE (mBin (cfg b) 3 true .gtr t11_6 (AV.c (.int .i64 0)) H_7) fun t12_8 H_9 =>
  condR t12_8 (bindE (mIdxS 1 t0_0 (AV.c (.int .i64 0)) H_9) fun t14_10 H_11 =>
  bindE (mLoad false 1 t14_10 H_11) fun t15_12 H_13 =>
  bindE (mConvI .i64 t15_12 H_13) fun t16_14 H_15 =>
  bindE (mSliceSl 1 t0_0 (some (AV.c (.int .i64 1))) none H_15) fun t19_16 H_17 =>
  bindE (cf 42 [t19_16] H_17) fun t20_18 H_19 =>
  bindE (mExtract 0 t20_18 H_19) fun t21_20 H_21 =>
  bindE (mExtract 1 t20_18 H_21) fun t22_22 H_23 =>
  bindE (mExtract 2 t20_18 H_23) fun t23_24 H_25 =>
  bindE (mUn .not t23_24 H_25) fun t25_26 H_27 =>
  condR t25_26 (some (LStep.ret [(AV.c .nilsl), (AV.c (.int .i64 4)), t4_2], H_27)) (bindE (mLenSl t21_20 H_27) fun t27_28 H_29 =>
  bindE (mBin (cfg b) 3 true .eql t27_28 (AV.c (.int .i64 0)) H_29) fun t28_30 H_31 =>
  condR t28_30 (some (LStep.ret [(AV.c .nilsl), (AV.c (.int .i64 6)), t4_2], H_31)) (bindE (mBin (cfg b) 3 false .leq t16_14 t5_4 H_31) fun t31_32 H_33 =>
  condR t31_32 (some (LStep.ret [(AV.c .nilsl), (AV.c (.int .i64 5)), t4_2], H_33)) (bindE (mConvI .u8 t16_14 H_33) fun t34_34 H_35 =>
  bindE (mBuildS [(.int .u8 0), .nilsl] [(0, t34_34), (1, t21_20)] H_35) fun t36_36 H_37 =>
  bindE (mBuildSl 72 2 (.agg [(.int .u8 0), .nilsl]) 1 [(0, t36_36)] H_37) fun t37_38 H_39 =>
  bindE (mAppend 72 2 32 false t4_2 t37_38 H_39) fun t38_40 H_41 =>
  some (LStep.cont [t22_22, t38_40, t16_14], H_41))))) (some (LStep.exit 0 [AV.any, AV.any, t4_2], H_9)))
/-- ferryman/ferrymanref01.Parse -/
noncomputable def p32 (b : Bool) (cf : CallFn) (k : Nat) (t0 : AV) (H : Heap) : Option (AV × Heap) :=
  afterL 0 (loopX k (p32_l0 b cf k) [t0, (AV.c .nilsl), (AV.c (.int .i64 (-1)))] H) (fun vs_42 H_43 =>
  un vs_42 fun t2_44 vs_45 => un vs_45 fun t3_46 vs_47 => un vs_47 fun t4_48 vs_49 => un0 vs_49 (endQ (cfg b) false k (resC1 (some t4_48) (resC1 (some (AV.c (.int .i64 0))) (some []))) H_43)) (fun vs_42 H_43 => un vs_42 fun t2_50 vs_51 => un vs_51 fun t3_52 vs_53 => un vs_53 fun t4_54 vs_55 => un0 vs_55 (endQ (cfg b) false k (resC1 (some t2_50) (resC1 (some t3_52) (some []))) H_43))
noncomputable def p33_l0 (b : Bool) (cf : CallFn) (k : Nat) (s : List AV) (H : Heap) : Option (LStep × Heap) :=
  un s fun t0_24 vs_25 => un vs_25 fun t4_26 vs_27 => un vs_27 fun t5_28 vs_29 => un0 vs_29 (bindE (mLenSl t0_24 H) fun t22_30 H_31 =>
  bindE (mBin (cfg b) 3 false .lss t5_28 t22_30 H_31) fun t23_32 H_33 =>
  condR t23_32 (bindE (mBin (cfg b) 23 true .mul t4_26 (AV.c (.int .u64 256)) H_33) fun t27_34 H_35 =>
  bindE (mIdxS 1 t0_24 t5_28 H_35) fun t30_36 H_37 =>
  bindE (mLoad false 1 t30_36 H_37) fun t31_38 H_39 =>
  bindE (mConvI .u64 t31_38 H_39) fun t32_40 H_41 =>
  bindE (mBin (cfg b) 23 false .add t27_34 t32_40 H_41) fun t33_42 H_43 =>
  bindE (mBin (cfg b) 3 true .add t5_28 (AV.c (.int .i64 1)) H_43) fun t25_44 H_45 =>
  some (LStep.cont [t0_24, t33_42, t25_44], H_45)) (some (LStep.exit 0 [t4_26], H_33)))
/-- ferryman/ferrymanref01.Value -/
noncomputable def p33 (b : Bool) (cf : CallFn) (k : Nat) (t0 : AV) (H : Heap) : Option (AV × Heap) :=
  bindE (mLenSl t0 H) fun t7_0 H_1 =>
  bindE (mBin (cfg b) 3 true .gtr t7_0 (AV.c (.int .i64 8)) H_1) fun t8_2 H_3 =>
  bindE (guardR (wantR false t8_2) (some (t0, H_3)) H_3) fun t10_4 H_5 =>
  bindE (guardR (wantR false t8_2) (mLenSl t10_4 H_5) H_5) fun t11_6 H_7 =>
  bindE (guardR (wantR false t8_2) (mBin (cfg b) 3 true .gtr t11_6 (AV.c (.int .i64 0)) H_7) H_7) fun t12_8 H_9 =>
  bindE (guardR (wantR false t8_2) (some (t12_8, H_9)) H_9) fun t13_10 H_11 =>
  bindE (guardR (wantR true t13_10) (some (t0, H_11)) H_11) fun t14_12 H_13 =>
  bindE (guardR (wantR true t13_10) (mIdxS 1 t14_12 (AV.c (.int .i64 0)) H_13) H_13) fun t15_14 H_15 =>
  bindE (guardR (wantR true t13_10) (mLoad false 1 t15_14 H_15) H_15) fun t16_16 H_17 =>
  bindE (guardR (wantR true t13_10) (mBin (cfg b) 5 true .eql t16_16 (AV.c (.int .u8 0)) H_17) H_17) fun t17_18 H_19 =>
  bindE (guardR (wantR false t8_2) (mPick t13_10 t17_18 (AV.c (.bool false)) H_19) H_19) fun t18_20 H_21 =>
  bindE (mPick t8_2 (AV.c (.bool true)) t18_20 H_21) fun t19_22 H_23 =>
  condR t19_22 (endQ (cfg b) false k (resC1 (some (AV.c (.int .u64 0))) (resC1 (some (AV.c (.bool false))) (some []))) H_23) (afterL 0 (loopX k (p33_l0 b cf k) [t0, (AV.c (.int .u64 0)), (AV.c (.int .i64 0))] H_23) (fun vs_46 H_47 =>
  un vs_46 fun t4_48 vs_49 => un0 vs_49 (endQ (cfg b) false k (resC1 (some t4_48) (resC1 (some (AV.c (.bool true))) (some []))) H_47)) (fun vs_46 H_47 => un vs_46 fun t4_50 vs_51 => un0 vs_51 (endQ (cfg b) false k (resC1 (some AV.any) (resC1 (some AV.any) (some []))) H_47)))
noncomputable def p34_l0 (b : Bool) (cf : CallFn) (k : Nat) (s : List AV) (H : Heap) : Option (LStep × Heap) :=
  un s fun t0_12 vs_13 => un vs_13 fun t2_14 vs_15 => un vs_15 fun t4_16 vs_17 => un vs_17 fun t5_18 vs_19 => un0 vs_19 (bindE (mBin (cfg b) 3 true .lss t5_18 (AV.c (.int .i64 32)) H) fun t11_20 H_21 =>
  condR t11_20 (bindE (mIdxS 1 t0_12 t5_18 H_21) fun t17_22 H_23 =>
  bindE (mLoad false 1 t17_22 H_23) fun t18_24 H_25 =>
  bindE (mIdxA 32 t4_16 t5_18 H_25) fun t19_26 H_27 =>
  bindE (mStore false 1 t19_26 t18_24 H_27) fun u_28 H_29 =>
  bindE (mBin (cfg b) 3 true .add t5_18 (AV.c (.int .i64 1)) H_29) fun t13_30 H_31 =>
  some (LStep.cont [t0_12, t2_14, t4_16, t13_30], H_31)) (some (LStep.exit 0 [t2_14, t4_16], H_21)))
/-- ferryman/ferrymanref05.sum -/
noncomputable def p34 (b : Bool) (cf : CallFn) (k : Nat) (t0 : AV) (H : Heap) : Option (AV × Heap) :=
  bindE (mAlloc 25 (.arr 32 .u8 (List.replicate 32 0)) H) fun t2_0 H_1 =>
  bindE (mAlloc 25 (.arr 32 .u8 (List.replicate 32 0)) H_1) fun t4_2 H_3 =>
  bindE (mLenSl t0 H_3) fun t7_4 H_5 =>
  bindE (mBin (cfg b) 3 true .neq t7_4 (AV.c (.int .i64 32)) H_5) fun t8_6 H_7 =>
  condR t8_6 (bindE (mLoad true 32 t4_2 H_7) fun t9_8 H_9 =>
  bindE (mStore true 32 t2_0 t9_8 H_9) fun u_10 H_11 =>
  endQ (cfg b) false k (resC1 (mld true 32 H_11 t2_0) (resC1 (some (AV.c (.bool false))) (some []))) H_11) (afterL 0 (loopX k (p34_l0 b cf k) [t0, t2_0, t4_2, (AV.c (.int .i64 0))] H_7) (fun vs_32 H_33 =>
  un vs_32 fun t2_34 vs_35 => un vs_35 fun t4_36 vs_37 => un0 vs_37 (bindE (mLoad true 32 t4_36 H_33) fun t20_38 H_39 =>
  bindE (mStore true 32 t2_34 t20_38 H_39) fun u_40 H_41 =>
  endQ (cfg b) false k (resC1 (mld true 32 H_41 t2_34) (resC1 (some (AV.c (.bool true))) (some []))) H_41)) (fun vs_32 H_33 => un vs_32 fun t2_42 vs_43 => un vs_43 fun t4_44 vs_45 => un0 vs_45 (endQ (cfg b) false k (resC1 (mld true 32 H_33 t2_42) (resC1 (some AV.any) (some []))) H_33)))
noncomputable def p40_l0 (b : Bool) (cf : CallFn) (k : Nat) (s : List AV) (H : Heap) : Option (LStep × Heap) :=
  un s fun t0_0 vs_1 => un vs_1 fun t3_2 vs_3 => un vs_3 fun t4_4 vs_5 => un0 vs_5 (bindE (mBin (cfg b) 3 true .lss t4_4 (AV.c (.int .i64 8)) H) fun t6_6 H_7 =>
  condR t6_6 (bindE (mBin (cfg b) 3 true .mul (AV.c (.int .i64 8)) t4_4 H_7) fun t12_8 H_9 =>
  bindE (mBin (cfg b) 3 true .sub (AV.c (.int .i64 56)) t12_8 H_9) fun t13_10 H_11 =>
  bindE (mBin (cfg b) 23 false .shr t0_0 t13_10 H_11) fun t14_12 H_13 =>
  bindE (mConvI .u8 t14_12 H_13) fun t15_14 H_15 =>
  bindE (mBuildSl 5 1 (.int .u8 0) 1 [(0, t15_14)] H_15) fun t16_16 H_17 =>
  bindE (mAppend 5 1 1 false t3_2 t16_16 H_17) fun t17_18 H_19 =>
  bindE (mBin (cfg b) 3 true .add t4_4 (AV.c (.int .i64 1)) H_19) fun t8_20 H_21 =>
  some (LStep.cont [t0_0, t17_18, t8_20], H_21)) (some (LStep.exit 0 [t3_2], H_7)))
/-- ferryman/ferrymanref01.Eight -/
noncomputable def p40 (b : Bool) (cf : CallFn) (k : Nat) (t0 : AV) (H : Heap) : Option (AV × Heap) :=
  afterL 0 (loopX k (p40_l0 b cf k) [t0, (AV.c .nilsl), (AV.c (.int .i64 0))] H) (fun vs_22 H_23 =>
  un vs_22 fun t3_24 vs_25 => un0 vs_25 (endQ (cfg b) false k (resC1 (some t3_24) (some [])) H_23)) (fun vs_22 H_23 => un vs_22 fun t3_26 vs_27 => un0 vs_27 (endQ (cfg b) false k (resC1 (some AV.any) (some [])) H_23))
/-- ferryman/ferrymanref01.piece -/
noncomputable def p42_d0 (b : Bool) (cf : CallFn) (t0 : AV) (H_0 : Heap) : Option ((List AV × List Trail) × Heap) :=
  bindE (drawM (some t0) H_0) fun t6_1 H_2 =>
  bindE (drawR true [t6_1.1] (fun F => mLenSl t6_1.1 F) H_2) fun t7_3 H_4 =>
  bindE (drawR true [t7_3.1] (fun F => mBin (cfg b) 3 true .lss t7_3.1 (AV.c (.int .i64 2)) F) H_4) fun t8_5 H_6 =>
  bindE (drawM (some t8_5.1) H_6) fun t9_7 H_8 =>
  bindE (guardD (wantR false t9_7.1) (drawM (some t0) H_8) H_8) fun t10_9 H_10 =>
  bindE (guardD (wantR false t9_7.1) (drawR true [t10_9.1] (fun F => mLenSl t10_9.1 F) H_10) H_10) fun t11_11 H_12 =>
  bindE (guardD (wantR false t9_7.1) (drawR true [t11_11.1] (fun F => mBin (cfg b) 3 true .sub t11_11.1 (AV.c (.int .i64 2)) F) H_12) H_12) fun t12_13 H_14 =>
  bindE (guardD (wantR false t9_7.1) (drawM (some t0) H_14) H_14) fun t13_15 H_16 =>
  bindE (guardD (wantR false t9_7.1) (drawR true [t13_15.1] (fun F => mIdxS 1 t13_15.1 (AV.c (.int .i64 0)) F) H_16) H_16) fun t14_17 H_18 =>
  bindE (guardD (wantR false t9_7.1) (drawR true [t14_17.1] (fun F => mLoad false 1 t14_17.1 F) H_18) H_18) fun t15_19 H_20 =>
  bindE (guardD (wantR false t9_7.1) (drawR true [t15_19.1] (fun F => mConvI .i64 t15_19.1 F) H_20) H_20) fun t16_21 H_22 =>
  bindE (guardD (wantR false t9_7.1) (drawR true [t16_21.1] (fun F => mBin (cfg b) 3 true .mul t16_21.1 (AV.c (.int .i64 256)) F) H_22) H_22) fun t17_23 H_24 =>
  bindE (guardD (wantR false t9_7.1) (drawM (some t0) H_24) H_24) fun t18_25 H_26 =>
  bindE (guardD (wantR false t9_7.1) (drawR true [t18_25.1] (fun F => mIdxS 1 t18_25.1 (AV.c (.int .i64 1)) F) H_26) H_26) fun t19_27 H_28 =>
  bindE (guardD (wantR false t9_7.1) (drawR true [t19_27.1] (fun F => mLoad false 1 t19_27.1 F) H_28) H_28) fun t20_29 H_30 =>
  bindE (guardD (wantR false t9_7.1) (drawR true [t20_29.1] (fun F => mConvI .i64 t20_29.1 F) H_30) H_30) fun t21_31 H_32 =>
  bindE (guardD (wantR false t9_7.1) (drawR true [t17_23.1, t21_31.1] (fun F => mBin (cfg b) 3 false .add t17_23.1 t21_31.1 F) H_32) H_32) fun t22_33 H_34 =>
  bindE (guardD (wantR false t9_7.1) (drawR true [t12_13.1, t22_33.1] (fun F => mBin (cfg b) 3 false .lss t12_13.1 t22_33.1 F) H_34) H_34) fun t23_35 H_36 =>
  bindE (drawR true [t9_7.1, t23_35.1] (fun F => mPick t9_7.1 (AV.c (.bool true)) t23_35.1 F) H_36) fun t24_37 H_38 =>
  some (([t24_37.1], [t6_1.2, t7_3.2, t8_5.2, t9_7.2, t10_9.2, t11_11.2, t12_13.2, t13_15.2, t14_17.2, t15_19.2, t16_21.2, t17_23.2, t18_25.2, t19_27.2, t20_29.2, t21_31.2, t22_33.2, t23_35.2, t24_37.2]), H_38)
noncomputable def p42_d1 (b : Bool) (cf : CallFn) (t0 : AV) (H_43 : Heap) : Option ((List AV × List Trail) × Heap) :=
  bindE (drawM (some t0) H_43) fun t25_44 H_45 =>
  bindE (drawR true [t25_44.1] (fun F => mIdxS 1 t25_44.1 (AV.c (.int .i64 0)) F) H_45) fun t26_46 H_47 =>
  bindE (drawR true [t26_46.1] (fun F => mLoad false 1 t26_46.1 F) H_47) fun t27_48 H_49 =>
  bindE (drawR true [t27_48.1] (fun F => mConvI .i64 t27_48.1 F) H_49) fun t28_50 H_51 =>
  bindE (drawR true [t28_50.1] (fun F => mBin (cfg b) 3 true .mul t28_50.1 (AV.c (.int .i64 256)) F) H_51) fun t29_52 H_53 =>
  bindE (drawM (some t0) H_53) fun t30_54 H_55 =>
  bindE (drawR true [t30_54.1] (fun F => mIdxS 1 t30_54.1 (AV.c (.int .i64 1)) F) H_55) fun t31_56 H_57 =>
  bindE (drawR true [t31_56.1] (fun F => mLoad false 1 t31_56.1 F) H_57) fun t32_58 H_59 =>
  bindE (drawR true [t32_58.1] (fun F => mConvI .i64 t32_58.1 F) H_59) fun t33_60 H_61 =>
  bindE (drawR true [t29_52.1, t33_60.1] (fun F => mBin (cfg b) 3 false .add t29_52.1 t33_60.1 F) H_61) fun t34_62 H_63 =>
  bindE (drawM (some t34_62.1) H_63) fun t5_64 H_65 =>
  some (([t5_64.1], [t25_44.2, t26_46.2, t27_48.2, t28_50.2, t29_52.2, t30_54.2, t31_56.2, t32_58.2, t33_60.2, t34_62.2, t5_64.2]), H_65)
noncomputable def p42_d2 (b : Bool) (cf : CallFn) (t0 t5_68 : AV) (H_70 : Heap) : Option ((List AV × List Trail) × Heap) :=
  bindE (drawM (some t0) H_70) fun t35_71 H_72 =>
  bindE (drawM (some t5_68) H_72) fun t36_73 H_74 =>
  bindE (drawR true [t36_73.1] (fun F => mBin (cfg b) 3 true .add (AV.c (.int .i64 2)) t36_73.1 F) H_74) fun t37_75 H_76 =>
  bindE (drawR false [t35_71.1, t37_75.1] (fun F => mSliceSl 1 t35_71.1 (some (AV.c (.int .i64 2))) (some t37_75.1) F) H_76) fun t38_77 H_78 =>
  bindE (drawM (some t0) H_78) fun t39_79 H_80 =>
  bindE (drawM (some t5_68) H_80) fun t40_81 H_82 =>
  bindE (drawR true [t40_81.1] (fun F => mBin (cfg b) 3 true .add (AV.c (.int .i64 2)) t40_81.1 F) H_82) fun t41_83 H_84 =>
  bindE (drawR false [t39_79.1, t41_83.1] (fun F => mSliceSl 1 t39_79.1 (some t41_83.1) none F) H_84) fun t42_85 H_86 =>
  bindE (drawM (some t38_77.1) H_86) fun t2_87 H_88 =>
  bindE (drawM (some t42_85.1) H_88) fun t3_89 H_90 =>
  bindE (drawM (some (AV.c (.bool true))) H_90) fun t4_91 H_92 =>
  some (([t2_87.1, t3_89.1, t4_91.1], [t35_71.2, t36_73.2, t37_75.2, t38_77.2, t39_79.2, t40_81.2, t41_83.2, t42_85.2, t2_87.2, t3_89.2, t4_91.2]), H_92)
noncomputable def p42 (b : Bool) (cf : CallFn) (k : Nat) (t0 : AV) (H : Heap) : Option (AV × Heap) :=
  afterD (twice [0, 1, 3, 7, 15, 31, 63, 15, 143, 399, 911, 1935, 15, 4111, 12303, 28687, 65423, 131071, 262143] (p42_d0 b cf t0) H) fun vs_39 H_40 =>
  un vs_39 fun t24_41 vs_42 => un0 vs_42 (condR t24_41 (endQ (cfg b) false k (resC1 (some (AV.c .nilsl)) (resC1 (some (AV.c .nilsl)) (resC1 (some (AV.c (.bool false))) (some [])))) H_40) (afterD (twice [0, 1, 3, 7, 15, 0, 32, 96, 224, 511, 1023] (p42_d1 b cf t0) H_40) fun vs_66 H_67 =>
  un vs_66 fun t5_68 vs_69 => un0 vs_69 (afterD (twice [0, 0, 2, 7, 0, 0, 32, 112, 15, 511, 1023] (p42_d2 b cf t0 t5_68) H_67) fun vs_93 H_94 =>
  un vs_93 fun t2_95 vs_96 => un vs_96 fun t3_97 vs_98 => un vs_98 fun t4_99 vs_100 => un0 vs_100 (endQ (cfg b) false k (resC1 (some t2_95) (resC1 (some t3_97) (resC1 (some t4_99) (some [])))) H_94))))
theorem p8_eq (b : Bool) (cf : CallFn) (t0 : AV) (H : Heap) : runG (cfg b) cf An 8 [t0] H = p8 b cf H.length t0 H := by kernel_rfl
theorem p11_eq (b : Bool) (cf : CallFn) (t0 : AV) (H : Heap) : runG (cfg b) cf An 11 [t0] H = p11 b cf H.length t0 H := by kernel_rfl
theorem p12_eq (b : Bool) (cf : CallFn) (t0 t1 : AV) (H : Heap) : runG (cfg b) cf An 12 [t0, t1] H = p12 b cf H.length t0 t1 H := by kernel_rfl
theorem p28_eq (b : Bool) (cf : CallFn) (t0 t1 t2 : AV) (H : Heap) : runG (cfg b) cf An 28 [t0, t1, t2] H = p28 b cf H.length t0 t1 t2 H := by kernel_rfl
theorem p29_eq (b : Bool) (cf : CallFn) (t0 : AV) (H : Heap) : runG (cfg b) cf An 29 [t0] H = p29 b cf H.length t0 H := by kernel_rfl
theorem p32_eq (b : Bool) (cf : CallFn) (t0 : AV) (H : Heap) : runG (cfg b) cf An 32 [t0] H = p32 b cf H.length t0 H := by kernel_rfl
theorem p33_eq (b : Bool) (cf : CallFn) (t0 : AV) (H : Heap) : runG (cfg b) cf An 33 [t0] H = p33 b cf H.length t0 H := by kernel_rfl
theorem p34_eq (b : Bool) (cf : CallFn) (t0 : AV) (H : Heap) : runG (cfg b) cf An 34 [t0] H = p34 b cf H.length t0 H := by kernel_rfl
theorem p40_eq (b : Bool) (cf : CallFn) (t0 : AV) (H : Heap) : runG (cfg b) cf An 40 [t0] H = p40 b cf H.length t0 H := by kernel_rfl
theorem p42_eq (b : Bool) (cf : CallFn) (t0 : AV) (H : Heap) : runG (cfg b) cf An 42 [t0] H = p42 b cf H.length t0 H := by kernel_rfl
end Go.Fm
