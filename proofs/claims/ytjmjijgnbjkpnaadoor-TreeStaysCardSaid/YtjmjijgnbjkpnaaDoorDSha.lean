/-
  A part of the proof: DSha.
-/
import Derived.Test.YtjmjijgnbjkpnaaDoorDAnn
set_option linter.all false
set_option autoImplicit true
/-
  What the interpreter does to functions, without slots and types; the kernel holds it against the code.
-/
set_option maxRecDepth 100000
set_option linter.unusedVariables false
namespace Go.Fm
open Go Go.Proofs
noncomputable def p88_l0 (b : Bool) (cf : CallFn) (k : Nat) (s : List AV) (H : Heap) : Option (LStep × Heap) :=
  un s fun t2_4 vs_5 => un vs_5 fun t3_6 vs_7 => un vs_7 fun t11_8 vs_9 => un vs_9 fun t12_10 vs_11 => un vs_11 fun t13_12 vs_13 => un0 vs_13 (bindE (mBin (cfg b) 3 false .lss t13_12 t12_10 H) fun t14_14 H_15 =>
  condR t14_14 (bindE (mIdxS 1 t11_8 t13_12 H_15) fun t15_16 H_17 =>
  bindE (mLoad false 1 t15_16 H_17) fun t16_18 H_19 =>
  bindE (mAppend 5 1 1 false t3_6 t16_18 H_19) fun t19_20 H_21 =>
  bindE (mBin (cfg b) 3 true .add t13_12 (AV.c (.int .i64 1)) H_21) fun t20_22 H_23 =>
  some (LStep.cont [t2_4, t19_20, t11_8, t12_10, t20_22], H_23)) (some (LStep.exit 0 [t2_4, t3_6], H_15)))
noncomputable def p88_l2 (b : Bool) (cf : CallFn) (k : Nat) (s : List AV) (H : Heap) : Option (LStep × Heap) :=
  un s fun t2_40 vs_41 => un vs_41 fun t3_42 vs_43 => un vs_43 fun t6_44 vs_45 => un0 vs_45 (bindE (mLenSl t3_42 H) fun t29_46 H_47 =>
  bindE (mBin (cfg b) 3 true .rem t29_46 (AV.c (.int .i64 64)) H_47) fun t30_48 H_49 =>
  bindE (mBin (cfg b) 3 true .neq t30_48 (AV.c (.int .i64 56)) H_49) fun t31_50 H_51 =>
  condR t31_50 (bindE (mBuildSl 5 1 (.int .u8 0) 1 [(0, (AV.c (.int .u8 0)))] H_51) fun t33_52 H_53 =>
  bindE (mAppend 5 1 1 false t3_42 t33_52 H_53) fun t34_54 H_55 =>
  some (LStep.cont [t2_40, t34_54, t6_44], H_55)) (some (LStep.exit 2 [t2_40, t3_42, t6_44], H_51)))
noncomputable def p88_l4 (b : Bool) (cf : CallFn) (k : Nat) (s : List AV) (H : Heap) : Option (LStep × Heap) :=
  un s fun t2_64 vs_65 => un vs_65 fun t3_66 vs_67 => un vs_67 fun t6_68 vs_69 => un vs_69 fun t7_70 vs_71 => un0 vs_71 (bindE (mBin (cfg b) 3 true .geq t7_70 (AV.c (.int .i64 0)) H) fun t36_72 H_73 =>
  condR t36_72 (bindE (mBin (cfg b) 22 false .shr t6_68 t7_70 H_73) fun t42_74 H_75 =>
  bindE (mConvI .u8 t42_74 H_75) fun t43_76 H_77 =>
  bindE (mBuildSl 5 1 (.int .u8 0) 1 [(0, t43_76)] H_77) fun t44_78 H_79 =>
  bindE (mAppend 5 1 1 false t3_66 t44_78 H_79) fun t45_80 H_81 =>
  bindE (mBin (cfg b) 3 true .sub t7_70 (AV.c (.int .i64 8)) H_81) fun t38_82 H_83 =>
  some (LStep.cont [t2_64, t45_80, t6_68, t38_82], H_83)) (some (LStep.exit 4 [t2_64, t3_66], H_73)))
noncomputable def p88_l6 (b : Bool) (cf : CallFn) (k : Nat) (s : List AV) (H : Heap) : Option (LStep × Heap) :=
  un s fun t2_96 vs_97 => un vs_97 fun t3_98 vs_99 => un vs_99 fun t8_100 vs_101 => un0 vs_101 (bindE (mLenSl t3_98 H) fun t48_102 H_103 =>
  bindE (mBin (cfg b) 3 true .gtr t48_102 (AV.c (.int .i64 0)) H_103) fun t49_104 H_105 =>
  condR t49_104 (bindE (cf 121 [t8_100, t3_98] H_105) fun t53_106 H_107 =>
  bindE (mSliceSl 1 t3_98 (some (AV.c (.int .i64 64))) none H_107) fun t51_108 H_109 =>
  some (LStep.cont [t2_96, t51_108, t8_100], H_109)) (some (LStep.exit 6 [t2_96, t8_100], H_105)))
noncomputable def p88_l8 (b : Bool) (cf : CallFn) (k : Nat) (s : List AV) (H : Heap) : Option (LStep × Heap) :=
  un s fun t2_118 vs_119 => un vs_119 fun t8_120 vs_121 => un vs_121 fun t9_122 vs_123 => un vs_123 fun t54_124 vs_125 => un0 vs_125 (bindE (mBin (cfg b) 3 true .lss t54_124 (AV.c (.int .i64 32)) H) fun t55_126 H_127 =>
  condR t55_126 (bindE (mBin (cfg b) 3 true .quo t54_124 (AV.c (.int .i64 4)) H_127) fun t59_128 H_129 =>
  bindE (mIdxA 8 t8_120 t59_128 H_129) fun t60_130 H_131 =>
  bindE (mLoad false 1 t60_130 H_131) fun t61_132 H_133 =>
  bindE (mBin (cfg b) 3 true .rem t54_124 (AV.c (.int .i64 4)) H_133) fun t63_134 H_135 =>
  bindE (mBin (cfg b) 3 true .mul t63_134 (AV.c (.int .i64 8)) H_135) fun t64_136 H_137 =>
  bindE (mBin (cfg b) 3 true .sub (AV.c (.int .i64 24)) t64_136 H_137) fun t65_138 H_139 =>
  bindE (mBin (cfg b) 192 false .shr t61_132 t65_138 H_139) fun t66_140 H_141 =>
  bindE (mConvI .u8 t66_140 H_141) fun t67_142 H_143 =>
  bindE (mIdxA 32 t9_122 t54_124 H_143) fun t68_144 H_145 =>
  bindE (mStore false 1 t68_144 t67_142 H_145) fun u_146 H_147 =>
  bindE (mBin (cfg b) 3 true .add t54_124 (AV.c (.int .i64 1)) H_147) fun t69_148 H_149 =>
  some (LStep.cont [t2_118, t8_120, t9_122, t69_148], H_149)) (some (LStep.exit 8 [t2_118, t9_122], H_127)))
/-- ferryman/sha.Sum -/
noncomputable def p88 (b : Bool) (cf : CallFn) (k : Nat) (t0 : AV) (H : Heap) : Option (AV × Heap) :=
  bindE (mAlloc 41 (.arr 32 .u8 (List.replicate 32 0)) H) fun t2_0 H_1 =>
  bindE (mLenSl t0 H_1) fun t12_2 H_3 =>
  afterL 0 (loopX k (p88_l0 b cf k) [t2_0, (AV.c .nilsl), t0, t12_2, (AV.c (.int .i64 0))] H_3) (fun vs_24 H_25 =>
  un vs_24 fun t2_26 vs_27 => un vs_27 fun t3_28 vs_29 => un0 vs_29 (bindE (mLenSl t3_28 H_25) fun t22_30 H_31 =>
  bindE (mConvI .u64 t22_30 H_31) fun t23_32 H_33 =>
  bindE (mBin (cfg b) 22 true .mul t23_32 (AV.c (.int .u64 8)) H_33) fun t24_34 H_35 =>
  bindE (mBuildSl 5 1 (.int .u8 0) 1 [(0, (AV.c (.int .u8 128)))] H_35) fun t26_36 H_37 =>
  bindE (mAppend 5 1 1 false t3_28 t26_36 H_37) fun t27_38 H_39 =>
  afterL 2 (loopX k (p88_l2 b cf k) [t2_26, t27_38, t24_34] H_39) (fun vs_56 H_57 =>
  un vs_56 fun t2_58 vs_59 => un vs_59 fun t3_60 vs_61 => un vs_61 fun t6_62 vs_63 => un0 vs_63 (afterL 4 (loopX k (p88_l4 b cf k) [t2_58, t3_60, t6_62, (AV.c (.int .i64 56))] H_57) (fun vs_84 H_85 =>
  un vs_84 fun t2_86 vs_87 => un vs_87 fun t3_88 vs_89 => un0 vs_89 (bindE (mBuildA 8 .u32 (List.replicate 8 0) [(0, (AV.c (.int .u32 1779033703))), (1, (AV.c (.int .u32 3144134277))), (2, (AV.c (.int .u32 1013904242))), (3, (AV.c (.int .u32 2773480762))), (4, (AV.c (.int .u32 1359893119))), (5, (AV.c (.int .u32 2600822924))), (6, (AV.c (.int .u32 528734635))), (7, (AV.c (.int .u32 1541459225)))] H_85) fun t46_90 H_91 =>
  bindE (mAlloc 193 (.arr 8 .u32 (List.replicate 8 0)) H_91) fun t8_92 H_93 =>
  bindE (mStore true 8 t8_92 t46_90 H_93) fun u_94 H_95 =>
  afterL 6 (loopX k (p88_l6 b cf k) [t2_86, t3_88, t8_92] H_95) (fun vs_110 H_111 =>
  un vs_110 fun t2_112 vs_113 => un vs_113 fun t8_114 vs_115 => un0 vs_115 (bindE (mAlloc 41 (.arr 32 .u8 (List.replicate 32 0)) H_111) fun t9_116 H_117 =>
  afterL 8 (loopX k (p88_l8 b cf k) [t2_112, t8_114, t9_116, (AV.c (.int .i64 0))] H_117) (fun vs_150 H_151 =>
  un vs_150 fun t2_152 vs_153 => un vs_153 fun t9_154 vs_155 => un0 vs_155 (bindE (mLoad true 32 t9_154 H_151) fun t70_156 H_157 =>
  bindE (mStore true 32 t2_152 t70_156 H_157) fun u_158 H_159 =>
  endQ (cfg b) false k (resC1 (mld true 32 H_159 t2_152) (some [])) H_159)) (fun vs_150 H_151 => un vs_150 fun t2_160 vs_161 => un vs_161 fun t9_162 vs_163 => un0 vs_163 (endQ (cfg b) false k (resC1 (mld true 32 H_151 t2_160) (some [])) H_151)))) (fun vs_110 H_111 => un vs_110 fun t2_164 vs_165 => un vs_165 fun t8_166 vs_167 => un0 vs_167 (endQ (cfg b) false k (resC1 (mld true 32 H_111 t2_164) (some [])) H_111)))) (fun vs_84 H_85 => un vs_84 fun t2_168 vs_169 => un vs_169 fun t3_170 vs_171 => un0 vs_171 (endQ (cfg b) false k (resC1 (mld true 32 H_85 t2_168) (some [])) H_85)))) (fun vs_56 H_57 => un vs_56 fun t2_172 vs_173 => un vs_173 fun t3_174 vs_175 => un vs_175 fun t6_176 vs_177 => un0 vs_177 (endQ (cfg b) false k (resC1 (mld true 32 H_57 t2_172) (some [])) H_57)))) (fun vs_24 H_25 => un vs_24 fun t2_178 vs_179 => un vs_179 fun t3_180 vs_181 => un0 vs_181 (endQ (cfg b) false k (resC1 (mld true 32 H_25 t2_178) (some [])) H_25))
noncomputable def p121_l0 (b : Bool) (cf : CallFn) (k : Nat) (s : List AV) (H : Heap) : Option (LStep × Heap) :=
  un s fun t0_2 vs_3 => un vs_3 fun t1_4 vs_5 => un vs_5 fun t4_6 vs_7 => un vs_7 fun t19_8 vs_9 => un0 vs_9 (bindE (mBin (cfg b) 3 true .lss t19_8 (AV.c (.int .i64 16)) H) fun t20_10 H_11 =>
  condR t20_10 (afterD (twice [0, 0, 0, 4, 14, 30, 62, 126, 0, 0, 512, 1536, 3840, 7936, 16128, 32512, 65534, 0, 0, 262144, 786432, 1966080, 4063232, 8257536, 16646144, 33554430, 0, 0, 134217728, 402653184, 1006632960, 2080374784, 4227858432, 8589934590, 17179869183, 34359738367] (fun H_12 => bindE (drawM (some t19_8) H_12) fun t22_13 H_14 =>
  bindE (drawM (some t1_4) H_14) fun t23_15 H_16 =>
  bindE (drawM (some t19_8) H_16) fun t24_17 H_18 =>
  bindE (drawR true [t24_17.1] (fun F => mBin (cfg b) 3 true .mul (AV.c (.int .i64 4)) t24_17.1 F) H_18) fun t25_19 H_20 =>
  bindE (drawR true [t23_15.1, t25_19.1] (fun F => mIdxS 1 t23_15.1 t25_19.1 F) H_20) fun t26_21 H_22 =>
  bindE (drawR true [t26_21.1] (fun F => mLoad false 1 t26_21.1 F) H_22) fun t27_23 H_24 =>
  bindE (drawR true [t27_23.1] (fun F => mConvI .u32 t27_23.1 F) H_24) fun t28_25 H_26 =>
  bindE (drawR true [t28_25.1] (fun F => mBin (cfg b) 192 true .shl t28_25.1 (AV.c (.int .u64 24)) F) H_26) fun t29_27 H_28 =>
  bindE (drawM (some t1_4) H_28) fun t30_29 H_30 =>
  bindE (drawM (some t19_8) H_30) fun t31_31 H_32 =>
  bindE (drawR true [t31_31.1] (fun F => mBin (cfg b) 3 true .mul (AV.c (.int .i64 4)) t31_31.1 F) H_32) fun t32_33 H_34 =>
  bindE (drawR true [t32_33.1] (fun F => mBin (cfg b) 3 true .add t32_33.1 (AV.c (.int .i64 1)) F) H_34) fun t33_35 H_36 =>
  bindE (drawR true [t30_29.1, t33_35.1] (fun F => mIdxS 1 t30_29.1 t33_35.1 F) H_36) fun t34_37 H_38 =>
  bindE (drawR true [t34_37.1] (fun F => mLoad false 1 t34_37.1 F) H_38) fun t35_39 H_40 =>
  bindE (drawR true [t35_39.1] (fun F => mConvI .u32 t35_39.1 F) H_40) fun t36_41 H_42 =>
  bindE (drawR true [t36_41.1] (fun F => mBin (cfg b) 192 true .shl t36_41.1 (AV.c (.int .u64 16)) F) H_42) fun t37_43 H_44 =>
  bindE (drawR true [t29_27.1, t37_43.1] (fun F => mBin (cfg b) 192 false .or t29_27.1 t37_43.1 F) H_44) fun t38_45 H_46 =>
  bindE (drawM (some t1_4) H_46) fun t39_47 H_48 =>
  bindE (drawM (some t19_8) H_48) fun t40_49 H_50 =>
  bindE (drawR true [t40_49.1] (fun F => mBin (cfg b) 3 true .mul (AV.c (.int .i64 4)) t40_49.1 F) H_50) fun t41_51 H_52 =>
  bindE (drawR true [t41_51.1] (fun F => mBin (cfg b) 3 true .add t41_51.1 (AV.c (.int .i64 2)) F) H_52) fun t42_53 H_54 =>
  bindE (drawR true [t39_47.1, t42_53.1] (fun F => mIdxS 1 t39_47.1 t42_53.1 F) H_54) fun t43_55 H_56 =>
  bindE (drawR true [t43_55.1] (fun F => mLoad false 1 t43_55.1 F) H_56) fun t44_57 H_58 =>
  bindE (drawR true [t44_57.1] (fun F => mConvI .u32 t44_57.1 F) H_58) fun t45_59 H_60 =>
  bindE (drawR true [t45_59.1] (fun F => mBin (cfg b) 192 true .shl t45_59.1 (AV.c (.int .u64 8)) F) H_60) fun t46_61 H_62 =>
  bindE (drawR true [t38_45.1, t46_61.1] (fun F => mBin (cfg b) 192 false .or t38_45.1 t46_61.1 F) H_62) fun t47_63 H_64 =>
  bindE (drawM (some t1_4) H_64) fun t48_65 H_66 =>
  bindE (drawM (some t19_8) H_66) fun t49_67 H_68 =>
  bindE (drawR true [t49_67.1] (fun F => mBin (cfg b) 3 true .mul (AV.c (.int .i64 4)) t49_67.1 F) H_68) fun t50_69 H_70 =>
  bindE (drawR true [t50_69.1] (fun F => mBin (cfg b) 3 true .add t50_69.1 (AV.c (.int .i64 3)) F) H_70) fun t51_71 H_72 =>
  bindE (drawR true [t48_65.1, t51_71.1] (fun F => mIdxS 1 t48_65.1 t51_71.1 F) H_72) fun t52_73 H_74 =>
  bindE (drawR true [t52_73.1] (fun F => mLoad false 1 t52_73.1 F) H_74) fun t53_75 H_76 =>
  bindE (drawR true [t53_75.1] (fun F => mConvI .u32 t53_75.1 F) H_76) fun t54_77 H_78 =>
  bindE (drawR true [t47_63.1, t54_77.1] (fun F => mBin (cfg b) 192 false .or t47_63.1 t54_77.1 F) H_78) fun t55_79 H_80 =>
  bindE (drawR true [t4_6, t22_13.1] (fun F => mIdxA 64 t4_6 t22_13.1 F) H_80) fun t56_81 H_82 =>
  bindE (drawR false [t56_81.1, t55_79.1] (fun F => mStore false 1 t56_81.1 t55_79.1 F) H_82) fun u_83 H_84 =>
  some (([], [t22_13.2, t23_15.2, t24_17.2, t25_19.2, t26_21.2, t27_23.2, t28_25.2, t29_27.2, t30_29.2, t31_31.2, t32_33.2, t33_35.2, t34_37.2, t35_39.2, t36_41.2, t37_43.2, t38_45.2, t39_47.2, t40_49.2, t41_51.2, t42_53.2, t43_55.2, t44_57.2, t45_59.2, t46_61.2, t47_63.2, t48_65.2, t49_67.2, t50_69.2, t51_71.2, t52_73.2, t53_75.2, t54_77.2, t55_79.2, t56_81.2, u_83.2]), H_84)) H_11) fun vs_85 H_86 =>
  un0 vs_85 (bindE (mBin (cfg b) 3 true .add t19_8 (AV.c (.int .i64 1)) H_86) fun t57_87 H_88 =>
  some (LStep.cont [t0_2, t1_4, t4_6, t57_87], H_88))) (some (LStep.exit 0 [t0_2, t4_6], H_11)))
noncomputable def p121_l2 (b : Bool) (cf : CallFn) (k : Nat) (s : List AV) (H : Heap) : Option (LStep × Heap) :=
  un s fun t0_95 vs_96 => un vs_96 fun t4_97 vs_98 => un vs_98 fun t6_99 vs_100 => un0 vs_100 (bindE (mBin (cfg b) 3 true .lss t6_99 (AV.c (.int .i64 64)) H) fun t59_101 H_102 =>
  condR t59_101 (afterD (twice [0, 1, 3, 7, 0, 16, 48, 112, 15, 511] (fun H_103 => bindE (drawM (some t6_99) H_103) fun t62_104 H_105 =>
  bindE (drawR true [t62_104.1] (fun F => mBin (cfg b) 3 true .sub t62_104.1 (AV.c (.int .i64 15)) F) H_105) fun t63_106 H_107 =>
  bindE (drawR true [t4_97, t63_106.1] (fun F => mIdxA 64 t4_97 t63_106.1 F) H_107) fun t64_108 H_109 =>
  bindE (drawR true [t64_108.1] (fun F => mLoad false 1 t64_108.1 F) H_109) fun t65_110 H_111 =>
  bindE (drawM (some t6_99) H_111) fun t66_112 H_113 =>
  bindE (drawR true [t66_112.1] (fun F => mBin (cfg b) 3 true .sub t66_112.1 (AV.c (.int .i64 2)) F) H_113) fun t67_114 H_115 =>
  bindE (drawR true [t4_97, t67_114.1] (fun F => mIdxA 64 t4_97 t67_114.1 F) H_115) fun t68_116 H_117 =>
  bindE (drawR true [t68_116.1] (fun F => mLoad false 1 t68_116.1 F) H_117) fun t69_118 H_119 =>
  bindE (drawM (some t65_110.1) H_119) fun t7_120 H_121 =>
  bindE (drawM (some t69_118.1) H_121) fun t8_122 H_123 =>
  some (([t7_120.1, t8_122.1], [t62_104.2, t63_106.2, t64_108.2, t65_110.2, t66_112.2, t67_114.2, t68_116.2, t69_118.2, t7_120.2, t8_122.2]), H_123)) H_102) fun vs_124 H_125 =>
  un vs_124 fun t7_126 vs_127 => un vs_127 fun t8_128 vs_129 => un0 vs_129 (bindE (cf 143 [t7_126, (AV.c (.int .i64 (-7)))] H_125) fun t71_130 H_131 =>
  bindE (cf 143 [t7_126, (AV.c (.int .i64 (-18)))] H_131) fun t73_132 H_133 =>
  bindE (mBin (cfg b) 192 false .xor t71_130 t73_132 H_133) fun t74_134 H_135 =>
  bindE (mBin (cfg b) 192 true .shr t7_126 (AV.c (.int .u64 3)) H_135) fun t76_136 H_137 =>
  bindE (mBin (cfg b) 192 false .xor t74_134 t76_136 H_137) fun t77_138 H_139 =>
  bindE (cf 143 [t8_128, (AV.c (.int .i64 (-17)))] H_139) fun t79_140 H_141 =>
  bindE (cf 143 [t8_128, (AV.c (.int .i64 (-19)))] H_141) fun t81_142 H_143 =>
  bindE (mBin (cfg b) 192 false .xor t79_140 t81_142 H_143) fun t82_144 H_145 =>
  bindE (mBin (cfg b) 192 true .shr t8_128 (AV.c (.int .u64 10)) H_145) fun t84_146 H_147 =>
  bindE (mBin (cfg b) 192 false .xor t82_144 t84_146 H_147) fun t85_148 H_149 =>
  afterD (twice [0, 0, 2, 6, 14, 0, 62, 0, 128, 384, 896, 2046, 0, 8190, 16383, 32767] (fun H_150 => bindE (drawM (some t6_99) H_150) fun t86_151 H_152 =>
  bindE (drawM (some t6_99) H_152) fun t87_153 H_154 =>
  bindE (drawR true [t87_153.1] (fun F => mBin (cfg b) 3 true .sub t87_153.1 (AV.c (.int .i64 16)) F) H_154) fun t88_155 H_156 =>
  bindE (drawR true [t4_97, t88_155.1] (fun F => mIdxA 64 t4_97 t88_155.1 F) H_156) fun t89_157 H_158 =>
  bindE (drawR true [t89_157.1] (fun F => mLoad false 1 t89_157.1 F) H_158) fun t90_159 H_160 =>
  bindE (drawM (some t77_138) H_160) fun t91_161 H_162 =>
  bindE (drawR true [t90_159.1, t91_161.1] (fun F => mBin (cfg b) 192 false .add t90_159.1 t91_161.1 F) H_162) fun t92_163 H_164 =>
  bindE (drawM (some t6_99) H_164) fun t93_165 H_166 =>
  bindE (drawR true [t93_165.1] (fun F => mBin (cfg b) 3 true .sub t93_165.1 (AV.c (.int .i64 7)) F) H_166) fun t94_167 H_168 =>
  bindE (drawR true [t4_97, t94_167.1] (fun F => mIdxA 64 t4_97 t94_167.1 F) H_168) fun t95_169 H_170 =>
  bindE (drawR true [t95_169.1] (fun F => mLoad false 1 t95_169.1 F) H_170) fun t96_171 H_172 =>
  bindE (drawR true [t92_163.1, t96_171.1] (fun F => mBin (cfg b) 192 false .add t92_163.1 t96_171.1 F) H_172) fun t97_173 H_174 =>
  bindE (drawM (some t85_148) H_174) fun t98_175 H_176 =>
  bindE (drawR true [t97_173.1, t98_175.1] (fun F => mBin (cfg b) 192 false .add t97_173.1 t98_175.1 F) H_176) fun t99_177 H_178 =>
  bindE (drawR true [t4_97, t86_151.1] (fun F => mIdxA 64 t4_97 t86_151.1 F) H_178) fun t100_179 H_180 =>
  bindE (drawR false [t100_179.1, t99_177.1] (fun F => mStore false 1 t100_179.1 t99_177.1 F) H_180) fun u_181 H_182 =>
  some (([], [t86_151.2, t87_153.2, t88_155.2, t89_157.2, t90_159.2, t91_161.2, t92_163.2, t93_165.2, t94_167.2, t95_169.2, t96_171.2, t97_173.2, t98_175.2, t99_177.2, t100_179.2, u_181.2]), H_182)) H_149) fun vs_183 H_184 =>
  un0 vs_183 (bindE (mBin (cfg b) 3 true .add t6_99 (AV.c (.int .i64 1)) H_184) fun t61_185 H_186 =>
  some (LStep.cont [t0_95, t4_97, t61_185], H_186)))) (some (LStep.exit 2 [t0_95, t4_97], H_102)))
noncomputable def p121_l4 (b : Bool) (cf : CallFn) (k : Nat) (s : List AV) (H : Heap) : Option (LStep × Heap) :=
  un s fun t0_203 vs_204 => un vs_204 fun t4_205 vs_206 => un vs_206 fun t11_207 vs_208 => un vs_208 fun t104_209 vs_210 => un vs_210 fun t105_211 vs_212 => un0 vs_212 (bindE (mBin (cfg b) 3 true .lss t105_211 (AV.c (.int .i64 64)) H) fun t106_213 H_214 =>
  condR t106_213 (bindE (mIndexA 64 t104_209 t105_211 H_214) fun t108_215 H_216 =>
  afterD (twice [0, 1, 0, 4, 3, 31] (fun H_217 => bindE (drawR true [t11_207] (fun F => mIdxA 8 t11_207 (AV.c (.int .i64 4)) F) H_217) fun t109_218 H_219 =>
  bindE (drawR true [t109_218.1] (fun F => mLoad false 1 t109_218.1 F) H_219) fun t110_220 H_221 =>
  bindE (drawR true [t11_207] (fun F => mIdxA 8 t11_207 (AV.c (.int .i64 0)) F) H_221) fun t111_222 H_223 =>
  bindE (drawR true [t111_222.1] (fun F => mLoad false 1 t111_222.1 F) H_223) fun t112_224 H_225 =>
  bindE (drawM (some t110_220.1) H_225) fun t14_226 H_227 =>
  bindE (drawM (some t112_224.1) H_227) fun t15_228 H_229 =>
  some (([t14_226.1, t15_228.1], [t109_218.2, t110_220.2, t111_222.2, t112_224.2, t14_226.2, t15_228.2]), H_229)) H_216) fun vs_230 H_231 =>
  un vs_230 fun t14_232 vs_233 => un vs_233 fun t15_234 vs_235 => un0 vs_235 (afterD (twice [0, 1, 0, 4, 0, 28, 60, 0, 188, 508, 1023, 0, 0, 4096, 14336, 0, 32768, 0, 131072, 491520, 1046528, 2097151, 0, 8388607, 0, 16777216, 50331648, 134217727, 268435455] (fun H_236 => bindE (drawR true [t11_207] (fun F => mIdxA 8 t11_207 (AV.c (.int .i64 7)) F) H_236) fun t113_237 H_238 =>
  bindE (drawR true [t113_237.1] (fun F => mLoad false 1 t113_237.1 F) H_238) fun t114_239 H_240 =>
  bindE (drawM (some t14_232) H_240) fun t115_241 H_242 =>
  bindE (drawR false [t115_241.1] (fun F => cf 143 [t115_241.1, (AV.c (.int .i64 (-6)))] F) H_242) fun t116_243 H_244 =>
  bindE (drawM (some t14_232) H_244) fun t117_245 H_246 =>
  bindE (drawR false [t117_245.1] (fun F => cf 143 [t117_245.1, (AV.c (.int .i64 (-11)))] F) H_246) fun t118_247 H_248 =>
  bindE (drawR true [t116_243.1, t118_247.1] (fun F => mBin (cfg b) 192 false .xor t116_243.1 t118_247.1 F) H_248) fun t119_249 H_250 =>
  bindE (drawM (some t14_232) H_250) fun t120_251 H_252 =>
  bindE (drawR false [t120_251.1] (fun F => cf 143 [t120_251.1, (AV.c (.int .i64 (-25)))] F) H_252) fun t121_253 H_254 =>
  bindE (drawR true [t119_249.1, t121_253.1] (fun F => mBin (cfg b) 192 false .xor t119_249.1 t121_253.1 F) H_254) fun t122_255 H_256 =>
  bindE (drawR true [t114_239.1, t122_255.1] (fun F => mBin (cfg b) 192 false .add t114_239.1 t122_255.1 F) H_256) fun t123_257 H_258 =>
  bindE (drawM (some t14_232) H_258) fun t124_259 H_260 =>
  bindE (drawR true [t11_207] (fun F => mIdxA 8 t11_207 (AV.c (.int .i64 5)) F) H_260) fun t125_261 H_262 =>
  bindE (drawR true [t125_261.1] (fun F => mLoad false 1 t125_261.1 F) H_262) fun t126_263 H_264 =>
  bindE (drawR true [t124_259.1, t126_263.1] (fun F => mBin (cfg b) 192 false .and t124_259.1 t126_263.1 F) H_264) fun t127_265 H_266 =>
  bindE (drawM (some t14_232) H_266) fun t128_267 H_268 =>
  bindE (drawR true [t128_267.1] (fun F => mUn .xor t128_267.1 F) H_268) fun t129_269 H_270 =>
  bindE (drawR true [t11_207] (fun F => mIdxA 8 t11_207 (AV.c (.int .i64 6)) F) H_270) fun t130_271 H_272 =>
  bindE (drawR true [t130_271.1] (fun F => mLoad false 1 t130_271.1 F) H_272) fun t131_273 H_274 =>
  bindE (drawR true [t129_269.1, t131_273.1] (fun F => mBin (cfg b) 192 false .and t129_269.1 t131_273.1 F) H_274) fun t132_275 H_276 =>
  bindE (drawR true [t127_265.1, t132_275.1] (fun F => mBin (cfg b) 192 false .xor t127_265.1 t132_275.1 F) H_276) fun t133_277 H_278 =>
  bindE (drawR true [t123_257.1, t133_277.1] (fun F => mBin (cfg b) 192 false .add t123_257.1 t133_277.1 F) H_278) fun t134_279 H_280 =>
  bindE (drawM (some t108_215) H_280) fun t135_281 H_282 =>
  bindE (drawR true [t134_279.1, t135_281.1] (fun F => mBin (cfg b) 192 false .add t134_279.1 t135_281.1 F) H_282) fun t136_283 H_284 =>
  bindE (drawM (some t105_211) H_284) fun t137_285 H_286 =>
  bindE (drawR true [t4_205, t137_285.1] (fun F => mIdxA 64 t4_205 t137_285.1 F) H_286) fun t138_287 H_288 =>
  bindE (drawR true [t138_287.1] (fun F => mLoad false 1 t138_287.1 F) H_288) fun t139_289 H_290 =>
  bindE (drawR true [t136_283.1, t139_289.1] (fun F => mBin (cfg b) 192 false .add t136_283.1 t139_289.1 F) H_290) fun t140_291 H_292 =>
  bindE (drawM (some t140_291.1) H_292) fun t16_293 H_294 =>
  some (([t16_293.1], [t113_237.2, t114_239.2, t115_241.2, t116_243.2, t117_245.2, t118_247.2, t119_249.2, t120_251.2, t121_253.2, t122_255.2, t123_257.2, t124_259.2, t125_261.2, t126_263.2, t127_265.2, t128_267.2, t129_269.2, t130_271.2, t131_273.2, t132_275.2, t133_277.2, t134_279.2, t135_281.2, t136_283.2, t137_285.2, t138_287.2, t139_289.2, t140_291.2, t16_293.2]), H_294)) H_231) fun vs_295 H_296 =>
  un vs_295 fun t16_297 vs_298 => un0 vs_298 (afterD (twice [0, 1, 0, 7, 15, 0, 47, 127, 0, 0, 512, 1792, 0, 0, 8192, 28672, 65280, 0, 131072, 0, 524288, 1966080, 4194048, 8388607, 16777215] (fun H_299 => bindE (drawM (some t15_234) H_299) fun t141_300 H_301 =>
  bindE (drawR false [t141_300.1] (fun F => cf 143 [t141_300.1, (AV.c (.int .i64 (-2)))] F) H_301) fun t142_302 H_303 =>
  bindE (drawM (some t15_234) H_303) fun t143_304 H_305 =>
  bindE (drawR false [t143_304.1] (fun F => cf 143 [t143_304.1, (AV.c (.int .i64 (-13)))] F) H_305) fun t144_306 H_307 =>
  bindE (drawR true [t142_302.1, t144_306.1] (fun F => mBin (cfg b) 192 false .xor t142_302.1 t144_306.1 F) H_307) fun t145_308 H_309 =>
  bindE (drawM (some t15_234) H_309) fun t146_310 H_311 =>
  bindE (drawR false [t146_310.1] (fun F => cf 143 [t146_310.1, (AV.c (.int .i64 (-22)))] F) H_311) fun t147_312 H_313 =>
  bindE (drawR true [t145_308.1, t147_312.1] (fun F => mBin (cfg b) 192 false .xor t145_308.1 t147_312.1 F) H_313) fun t148_314 H_315 =>
  bindE (drawM (some t15_234) H_315) fun t149_316 H_317 =>
  bindE (drawR true [t11_207] (fun F => mIdxA 8 t11_207 (AV.c (.int .i64 1)) F) H_317) fun t150_318 H_319 =>
  bindE (drawR true [t150_318.1] (fun F => mLoad false 1 t150_318.1 F) H_319) fun t151_320 H_321 =>
  bindE (drawR true [t149_316.1, t151_320.1] (fun F => mBin (cfg b) 192 false .and t149_316.1 t151_320.1 F) H_321) fun t152_322 H_323 =>
  bindE (drawM (some t15_234) H_323) fun t153_324 H_325 =>
  bindE (drawR true [t11_207] (fun F => mIdxA 8 t11_207 (AV.c (.int .i64 2)) F) H_325) fun t154_326 H_327 =>
  bindE (drawR true [t154_326.1] (fun F => mLoad false 1 t154_326.1 F) H_327) fun t155_328 H_329 =>
  bindE (drawR true [t153_324.1, t155_328.1] (fun F => mBin (cfg b) 192 false .and t153_324.1 t155_328.1 F) H_329) fun t156_330 H_331 =>
  bindE (drawR true [t152_322.1, t156_330.1] (fun F => mBin (cfg b) 192 false .xor t152_322.1 t156_330.1 F) H_331) fun t157_332 H_333 =>
  bindE (drawR true [t11_207] (fun F => mIdxA 8 t11_207 (AV.c (.int .i64 1)) F) H_333) fun t158_334 H_335 =>
  bindE (drawR true [t158_334.1] (fun F => mLoad false 1 t158_334.1 F) H_335) fun t159_336 H_337 =>
  bindE (drawR true [t11_207] (fun F => mIdxA 8 t11_207 (AV.c (.int .i64 2)) F) H_337) fun t160_338 H_339 =>
  bindE (drawR true [t160_338.1] (fun F => mLoad false 1 t160_338.1 F) H_339) fun t161_340 H_341 =>
  bindE (drawR true [t159_336.1, t161_340.1] (fun F => mBin (cfg b) 192 false .and t159_336.1 t161_340.1 F) H_341) fun t162_342 H_343 =>
  bindE (drawR true [t157_332.1, t162_342.1] (fun F => mBin (cfg b) 192 false .xor t157_332.1 t162_342.1 F) H_343) fun t163_344 H_345 =>
  bindE (drawR true [t148_314.1, t163_344.1] (fun F => mBin (cfg b) 192 false .add t148_314.1 t163_344.1 F) H_345) fun t164_346 H_347 =>
  bindE (drawM (some t164_346.1) H_347) fun t17_348 H_349 =>
  some (([t17_348.1], [t141_300.2, t142_302.2, t143_304.2, t144_306.2, t145_308.2, t146_310.2, t147_312.2, t148_314.2, t149_316.2, t150_318.2, t151_320.2, t152_322.2, t153_324.2, t154_326.2, t155_328.2, t156_330.2, t157_332.2, t158_334.2, t159_336.2, t160_338.2, t161_340.2, t162_342.2, t163_344.2, t164_346.2, t17_348.2]), H_349)) H_296) fun vs_350 H_351 =>
  un vs_350 fun t17_352 vs_353 => un0 vs_353 (bindE (mBin (cfg b) 192 false .add t16_297 t17_352 H_351) fun t167_354 H_355 =>
  bindE (mIdxA 8 t11_207 (AV.c (.int .i64 0)) H_355) fun t168_356 H_357 =>
  bindE (mLoad false 1 t168_356 H_357) fun t169_358 H_359 =>
  bindE (mIdxA 8 t11_207 (AV.c (.int .i64 1)) H_359) fun t170_360 H_361 =>
  bindE (mLoad false 1 t170_360 H_361) fun t171_362 H_363 =>
  bindE (mIdxA 8 t11_207 (AV.c (.int .i64 2)) H_363) fun t172_364 H_365 =>
  bindE (mLoad false 1 t172_364 H_365) fun t173_366 H_367 =>
  bindE (mIdxA 8 t11_207 (AV.c (.int .i64 3)) H_367) fun t174_368 H_369 =>
  bindE (mLoad false 1 t174_368 H_369) fun t175_370 H_371 =>
  bindE (mBin (cfg b) 192 false .add t175_370 t16_297 H_371) fun t177_372 H_373 =>
  bindE (mIdxA 8 t11_207 (AV.c (.int .i64 4)) H_373) fun t178_374 H_375 =>
  bindE (mLoad false 1 t178_374 H_375) fun t179_376 H_377 =>
  bindE (mIdxA 8 t11_207 (AV.c (.int .i64 5)) H_377) fun t180_378 H_379 =>
  bindE (mLoad false 1 t180_378 H_379) fun t181_380 H_381 =>
  bindE (mIdxA 8 t11_207 (AV.c (.int .i64 6)) H_381) fun t182_382 H_383 =>
  bindE (mLoad false 1 t182_382 H_383) fun t183_384 H_385 =>
  bindE (mBuildA 8 .u32 (List.replicate 8 0) [(0, t167_354), (1, t169_358), (2, t171_362), (3, t173_366), (4, t177_372), (5, t179_376), (6, t181_380), (7, t183_384)] H_385) fun t184_386 H_387 =>
  bindE (mStore true 8 t11_207 t184_386 H_387) fun u_388 H_389 =>
  bindE (mBin (cfg b) 3 true .add t105_211 (AV.c (.int .i64 1)) H_389) fun t185_390 H_391 =>
  some (LStep.cont [t0_203, t4_205, t11_207, t104_209, t185_390], H_391))))) (some (LStep.exit 4 [t0_203, t11_207], H_214)))
noncomputable def p121_l6 (b : Bool) (cf : CallFn) (k : Nat) (s : List AV) (H : Heap) : Option (LStep × Heap) :=
  un s fun t0_398 vs_399 => un vs_399 fun t11_400 vs_401 => un vs_401 fun t186_402 vs_403 => un0 vs_403 (bindE (mBin (cfg b) 3 true .lss t186_402 (AV.c (.int .i64 8)) H) fun t187_404 H_405 =>
  condR t187_404 (afterD (twice [0, 0, 1, 7, 15, 0, 32, 96, 255, 1, 1023, 2047] (fun H_406 => bindE (drawM (some t0_398) H_406) fun t189_407 H_408 =>
  bindE (drawM (some t186_402) H_408) fun t190_409 H_410 =>
  bindE (drawR true [t189_407.1] (fun F => mNil t189_407.1 F) H_410) fun t191_411 H_412 =>
  bindE (drawR true [t191_411.1, t190_409.1] (fun F => mIdxA 8 t191_411.1 t190_409.1 F) H_412) fun t192_413 H_414 =>
  bindE (drawR true [t192_413.1] (fun F => mLoad false 1 t192_413.1 F) H_414) fun t193_415 H_416 =>
  bindE (drawM (some t186_402) H_416) fun t194_417 H_418 =>
  bindE (drawR true [t11_400, t194_417.1] (fun F => mIdxA 8 t11_400 t194_417.1 F) H_418) fun t195_419 H_420 =>
  bindE (drawR true [t195_419.1] (fun F => mLoad false 1 t195_419.1 F) H_420) fun t196_421 H_422 =>
  bindE (drawR true [t193_415.1, t196_421.1] (fun F => mBin (cfg b) 192 false .add t193_415.1 t196_421.1 F) H_422) fun t197_423 H_424 =>
  bindE (drawR true [t189_407.1] (fun F => mNil t189_407.1 F) H_424) fun t198_425 H_426 =>
  bindE (drawR true [t198_425.1, t190_409.1] (fun F => mIdxA 8 t198_425.1 t190_409.1 F) H_426) fun t199_427 H_428 =>
  bindE (drawR false [t199_427.1, t197_423.1] (fun F => mStore false 1 t199_427.1 t197_423.1 F) H_428) fun u_429 H_430 =>
  some (([], [t189_407.2, t190_409.2, t191_411.2, t192_413.2, t193_415.2, t194_417.2, t195_419.2, t196_421.2, t197_423.2, t198_425.2, t199_427.2, u_429.2]), H_430)) H_405) fun vs_431 H_432 =>
  un0 vs_431 (bindE (mBin (cfg b) 3 true .add t186_402 (AV.c (.int .i64 1)) H_432) fun t200_433 H_434 =>
  some (LStep.cont [t0_398, t11_400, t200_433], H_434))) (some (LStep.exit 6 [], H_405)))
/-- ferryman/sha.block -/
noncomputable def p121 (b : Bool) (cf : CallFn) (k : Nat) (t0 t1 : AV) (H : Heap) : Option (AV × Heap) :=
  bindE (mAlloc 199 (.arr 64 .u32 (List.replicate 64 0)) H) fun t4_0 H_1 =>
  afterL 0 (loopX k (p121_l0 b cf k) [t0, t1, t4_0, (AV.c (.int .i64 0))] H_1) (fun vs_89 H_90 =>
  un vs_89 fun t0_91 vs_92 => un vs_92 fun t4_93 vs_94 => un0 vs_94 (afterL 2 (loopX k (p121_l2 b cf k) [t0_91, t4_93, (AV.c (.int .i64 16))] H_90) (fun vs_187 H_188 =>
  un vs_187 fun t0_189 vs_190 => un vs_190 fun t4_191 vs_192 => un0 vs_192 (bindE (mNil t0_189 H_188) fun t102_193 H_194 =>
  bindE (mLoad true 8 t102_193 H_194) fun t103_195 H_196 =>
  bindE (mAlloc 193 (.arr 8 .u32 (List.replicate 8 0)) H_196) fun t11_197 H_198 =>
  bindE (mStore true 8 t11_197 t103_195 H_198) fun u_199 H_200 =>
  bindE (mLoad true 64 (glR 1) H_200) fun t104_201 H_202 =>
  afterL 4 (loopX k (p121_l4 b cf k) [t0_189, t4_191, t11_197, t104_201, (AV.c (.int .i64 0))] H_202) (fun vs_392 H_393 =>
  un vs_392 fun t0_394 vs_395 => un vs_395 fun t11_396 vs_397 => un0 vs_397 (afterL 6 (loopX k (p121_l6 b cf k) [t0_394, t11_396, (AV.c (.int .i64 0))] H_393) (fun vs_435 H_436 =>
  un0 vs_435 (endQ (cfg b) false k (some []) H_436)) (fun vs_435 H_436 => un0 vs_435 (endQ (cfg b) false k (some []) H_436)))) (fun vs_392 H_393 => un vs_392 fun t0_437 vs_438 => un vs_438 fun t11_439 vs_440 => un0 vs_440 (endQ (cfg b) false k (some []) H_393)))) (fun vs_187 H_188 => un vs_187 fun t0_441 vs_442 => un vs_442 fun t4_443 vs_444 => un0 vs_444 (endQ (cfg b) false k (some []) H_188)))) (fun vs_89 H_90 => un vs_89 fun t0_445 vs_446 => un vs_446 fun t4_447 vs_448 => un0 vs_448 (endQ (cfg b) false k (some []) H_90))
/-- math/bits.RotateLeft32 -/
noncomputable def p143 (b : Bool) (cf : CallFn) (k : Nat) (t0 t1 : AV) (H : Heap) : Option (AV × Heap) :=
  bindE (mConvI .u64 t1 H) fun t7_0 H_1 =>
  bindE (mBin (cfg b) 197 true .and t7_0 (AV.c (.int .u64 31)) H_1) fun t8_2 H_3 =>
  bindE (mBin (cfg b) 192 false .shl t0 t8_2 H_3) fun t11_4 H_5 =>
  bindE (mBin (cfg b) 197 true .sub (AV.c (.int .u64 32)) t8_2 H_5) fun t14_6 H_7 =>
  bindE (mBin (cfg b) 192 false .shr t0 t14_6 H_7) fun t15_8 H_9 =>
  bindE (mBin (cfg b) 192 false .or t11_4 t15_8 H_9) fun t16_10 H_11 =>
  endQ (cfg b) false k (resC1 (some t16_10) (some [])) H_11
theorem p88_eq (b : Bool) (cf : CallFn) (t0 : AV) (H : Heap) : runG (cfg b) cf An 88 [t0] H = p88 b cf H.length t0 H := by kernel_rfl
theorem p121_eq (b : Bool) (cf : CallFn) (t0 t1 : AV) (H : Heap) : runG (cfg b) cf An 121 [t0, t1] H = p121 b cf H.length t0 t1 H := by kernel_rfl
theorem p143_eq (b : Bool) (cf : CallFn) (t0 t1 : AV) (H : Heap) : runG (cfg b) cf An 143 [t0, t1] H = p143 b cf H.length t0 t1 H := by kernel_rfl
end Go.Fm
