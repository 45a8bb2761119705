/-
  A part of the proof: DLaw11.
-/
import Derived.Test.YtjmjijgnbjkpnaaDoorDAnn
set_option linter.all false
set_option autoImplicit true
/-
  What the interpreter does to functions, without slots and types; the kernel holds it against the code.
-/
set_option maxRecDepth 100000
set_option linter.unusedVariables false
namespace Go.Fm
open Go Go.Proofs

noncomputable def p11_l0 (b : Bool) (cf : CallFn) (k : Nat) (s : List AV) (H : Heap) : Option (LStep × Heap) :=
  un s fun t5_80 vs_81 => un vs_81 fun t6_82 vs_83 => un vs_83 fun t68_84 vs_85 => un vs_85 fun t69_86 vs_87 => un vs_87 fun t70_88 vs_89 => un0 vs_89 (bindE (mBin (cfg b) 3 false .lss t70_88 t69_86 H) fun t71_90 H_91 =>
  condR t71_90 (bindE (mIdxS 2 t68_84 t70_88 H_91) fun t73_92 H_93 =>
  bindE (mLoad true 2 t73_92 H_93) fun t74_94 H_95 =>
  bindE (mAlloc 97 (.agg [.nilsl, .nilsl]) H_95) fun t12_96 H_97 =>
  bindE (mStore true 2 t12_96 t74_94 H_97) fun u_98 H_99 =>
  bindE (mFA 0 0 t12_96 H_99) fun t77_100 H_101 =>
  bindE (mLoad false 1 t77_100 H_101) fun t78_102 H_103 =>
  bindE (cf 61 [t5_80, t78_102] H_103) fun t79_104 H_105 =>
  bindE (mExtract 0 t79_104 H_105) fun t80_106 H_107 =>
  bindE (mExtract 1 t79_104 H_107) fun t81_108 H_109 =>
  bindE (mUn .not t81_108 H_109) fun t83_110 H_111 =>
  bindE (guardR (wantR false t83_110) (some (t80_106, H_111)) H_111) fun t85_112 H_113 =>
  bindE (guardR (wantR false t83_110) (cf 47 [t85_112] H_113) H_113) fun t86_114 H_115 =>
  bindE (guardR (wantR false t83_110) (some (t6_82, H_115)) H_115) fun t87_116 H_117 =>
  bindE (guardR (wantR false t83_110) (mLenSl t87_116 H_117) H_117) fun t88_118 H_119 =>
  bindE (guardR (wantR false t83_110) (mBin (cfg b) 3 true .sub t88_118 (AV.c (.int .i64 1)) H_119) H_119) fun t89_120 H_121 =>
  bindE (guardR (wantR false t83_110) (some (t70_88, H_121)) H_121) fun t90_122 H_123 =>
  bindE (guardR (wantR false t83_110) (mBin (cfg b) 3 false .sub t89_120 t90_122 H_123) H_123) fun t91_124 H_125 =>
  bindE (guardR (wantR false t83_110) (mBin (cfg b) 3 false .neq t86_114 t91_124 H_125) H_125) fun t92_126 H_127 =>
  bindE (mPick t83_110 (AV.c (.bool true)) t92_126 H_127) fun t93_128 H_129 =>
  condR t93_128 (some (LStep.ret [(AV.c (.bool false)), t80_106], H_129)) (bindE (mBin (cfg b) 3 true .add t70_88 (AV.c (.int .i64 1)) H_129) fun t94_130 H_131 =>
  some (LStep.cont [t80_106, t6_82, t68_84, t69_86, t94_130], H_131))) (some (LStep.exit 0 [AV.any, t5_80], H_91)))
/-- ferryman/ferrymanlaw05.TreeCuts -/
noncomputable def p11 (b : Bool) (cf : CallFn) (k : Nat) (t0 t1 : AV) (H : Heap) : Option (AV × Heap) :=
  bindE (cf 38 [] H) fun t14_0 H_1 =>
  bindE (mUn .not t14_0 H_1) fun t15_2 H_3 =>
  condR t15_2 (endQ (cfg b) false k (resC1 (some (AV.c (.bool false))) (some [])) H_3) (bindE (cf 39 [t0, (AV.c (.int .i64 60))] H_3) fun t18_4 H_5 =>
  bindE (mExtract 0 t18_4 H_5) fun t19_6 H_7 =>
  bindE (mExtract 1 t18_4 H_7) fun t20_8 H_9 =>
  bindE (mLenSl t1 H_9) fun t22_10 H_11 =>
  bindE (mBin (cfg b) 3 true .gtr t22_10 (AV.c (.int .i64 0)) H_11) fun t23_12 H_13 =>
  bindE (guardR (wantR true t23_12) (some (t1, H_13)) H_13) fun t25_14 H_15 =>
  bindE (guardR (wantR true t23_12) (mLenSl t25_14 H_15) H_15) fun t26_16 H_17 =>
  bindE (guardR (wantR true t23_12) (mBin (cfg b) 3 true .leq t26_16 (AV.c (.int .i64 96)) H_17) H_17) fun t27_18 H_19 =>
  bindE (mPick t23_12 t27_18 (AV.c (.bool false)) H_19) fun t28_20 H_21 =>
  bindE (guardR (wantR true t28_20) (some (t20_8, H_21)) H_21) fun t30_22 H_23 =>
  bindE (guardR (wantR true t28_20) (some (t1, H_23)) H_23) fun t31_24 H_25 =>
  bindE (guardR (wantR true t28_20) (cf 42 [t30_22, t31_24] H_25) H_25) fun t32_26 H_27 =>
  bindE (guardR (wantR true t28_20) (mBin (cfg b) 3 true .lss t32_26 (AV.c (.int .i64 0)) H_27) H_27) fun t33_28 H_29 =>
  bindE (mPick t28_20 t33_28 (AV.c (.bool false)) H_29) fun t34_30 H_31 =>
  condR t34_30 (bindE (cf 36 [t19_6, t1, (AV.c .nilsl)] H_31) fun t38_32 H_33 =>
  bindE (mExtract 0 t38_32 H_33) fun t39_34 H_35 =>
  bindE (mExtract 1 t38_32 H_35) fun t40_36 H_37 =>
  bindE (cf 61 [t39_34, t1] H_37) fun t44_38 H_39 =>
  bindE (mExtract 0 t44_38 H_39) fun t45_40 H_41 =>
  bindE (mExtract 1 t44_38 H_41) fun t46_42 H_43 =>
  bindE (mBin (cfg b) 25 true .neq t40_36 (AV.c (.int .i64 0)) H_43) fun t48_44 H_45 =>
  bindE (guardR (wantR false t48_44) (some (t46_42, H_45)) H_45) fun t50_46 H_47 =>
  bindE (guardR (wantR false t48_44) (mUn .not t50_46 H_47) H_47) fun t51_48 H_49 =>
  bindE (mPick t48_44 (AV.c (.bool true)) t51_48 H_49) fun t52_50 H_51 =>
  bindE (guardR (wantR false t52_50) (some (t45_40, H_51)) H_51) fun t54_52 H_53 =>
  bindE (guardR (wantR false t52_50) (cf 51 [t54_52] H_53) H_53) fun t55_54 H_55 =>
  bindE (guardR (wantR false t52_50) (some (t20_8, H_55)) H_55) fun t56_56 H_57 =>
  bindE (guardR (wantR false t52_50) (cf 50 [t55_54, t56_56] H_57) H_57) fun t57_58 H_59 =>
  bindE (guardR (wantR false t52_50) (mUn .not t57_58 H_59) H_59) fun t58_60 H_61 =>
  bindE (mPick t52_50 (AV.c (.bool true)) t58_60 H_61) fun t59_62 H_63 =>
  bindE (guardR (wantR false t59_62) (some (t39_34, H_63)) H_63) fun t61_64 H_65 =>
  bindE (guardR (wantR false t59_62) (cf 47 [t61_64] H_65) H_65) fun t62_66 H_67 =>
  bindE (guardR (wantR false t59_62) (some (t20_8, H_67)) H_67) fun t63_68 H_69 =>
  bindE (guardR (wantR false t59_62) (mLenSl t63_68 H_69) H_69) fun t64_70 H_71 =>
  bindE (guardR (wantR false t59_62) (mBin (cfg b) 3 true .add t64_70 (AV.c (.int .i64 1)) H_71) H_71) fun t65_72 H_73 =>
  bindE (guardR (wantR false t59_62) (mBin (cfg b) 3 false .neq t62_66 t65_72 H_73) H_73) fun t66_74 H_75 =>
  bindE (mPick t59_62 (AV.c (.bool true)) t66_74 H_75) fun t67_76 H_77 =>
  condR t67_76 (endQ (cfg b) false k (resC1 (some (AV.c (.bool false))) (some [])) H_77) (bindE (mLenSl t20_8 H_77) fun t69_78 H_79 =>
  afterL 0 (loopX k (p11_l0 b cf k) [t19_6, t20_8, t20_8, t69_78, (AV.c (.int .i64 0))] H_79) (fun vs_132 H_133 =>
  un vs_132 fun t4_134 vs_135 => un vs_135 fun t5_136 vs_137 => un0 vs_137 (bindE (cf 37 [t5_136] H_133) fun t96_138 H_139 =>
  bindE (cf 62 [] H_139) fun t97_140 H_141 =>
  bindE (mBin (cfg b) 41 false .eql t96_138 t97_140 H_141) fun t98_142 H_143 =>
  endQ (cfg b) false k (resC1 (some t98_142) (some [])) H_143)) (fun vs_132 H_133 => un vs_132 fun t4_144 vs_145 => un vs_145 fun t5_146 vs_147 => un0 vs_147 (endQ (cfg b) false k (resC1 (some t4_144) (some [])) H_133)))) (bindE (mLenSl t20_8 H_31) fun t69_148 H_149 =>
  afterL 0 (loopX k (p11_l0 b cf k) [t19_6, t20_8, t20_8, t69_148, (AV.c (.int .i64 0))] H_149) (fun vs_150 H_151 =>
  un vs_150 fun t4_152 vs_153 => un vs_153 fun t5_154 vs_155 => un0 vs_155 (bindE (cf 37 [t5_154] H_151) fun t96_156 H_157 =>
  bindE (cf 62 [] H_157) fun t97_158 H_159 =>
  bindE (mBin (cfg b) 41 false .eql t96_156 t97_158 H_159) fun t98_160 H_161 =>
  endQ (cfg b) false k (resC1 (some t98_160) (some [])) H_161)) (fun vs_150 H_151 => un vs_150 fun t4_162 vs_163 => un vs_163 fun t5_164 vs_165 => un0 vs_165 (endQ (cfg b) false k (resC1 (some t4_162) (some [])) H_151))))

theorem p11_eq (b : Bool) (cf : CallFn) (t0 t1 : AV) (H : Heap) : runG (cfg b) cf An 11 [t0, t1] H = p11 b cf H.length t0 t1 H := by kernel_rfl

end Go.Fm

