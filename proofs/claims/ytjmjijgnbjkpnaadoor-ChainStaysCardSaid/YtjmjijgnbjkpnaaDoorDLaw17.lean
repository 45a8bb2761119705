/-
  A part of the proof: DLaw17.
-/
import Derived.Test.YtjmjijgnbjkpnaaDoorDAnn
set_option linter.all false
set_option autoImplicit true
/-
  What the interpreter does to functions, without slots and types; the kernel holds it against the code.
-/
set_option maxRecDepth 100000
set_option linter.unusedVariables false
namespace Go.Fm
open Go Go.Proofs

noncomputable def p17_l0 (b : Bool) (cf : CallFn) (k : Nat) (s : List AV) (H : Heap) : Option (LStep × Heap) :=
  un s fun t5_28 vs_29 => un vs_29 fun t6_30 vs_31 => un vs_31 fun t7_32 vs_33 => un vs_33 fun t9_34 vs_35 => un vs_35 fun t10_36 vs_37 => un vs_37 fun t33_38 vs_39 => un vs_39 fun t34_40 vs_41 => un0 vs_41 (bindE (mBin (cfg b) 5 false .lss t34_40 t33_38 H) fun t35_42 H_43 =>
  condR t35_42 (bindE (cf 26 [] H_43) fun t37_44 H_45 =>
  bindE (cf 52 [t5_28, t37_44] H_45) fun t38_46 H_47 =>
  bindE (mBin (cfg b) 5 true .add t34_40 (AV.c (.int .u8 1)) H_47) fun t39_48 H_49 =>
  some (LStep.cont [t5_28, t6_30, t7_32, t9_34, t10_36, t33_38, t39_48], H_49)) (some (LStep.exit 0 [t5_28, t6_30, t7_32, t9_34, t10_36], H_43)))
/-- ferryman/ferrymanlaw18.ChainStays -/
noncomputable def p17_d0 (b : Bool) (cf : CallFn) (t6_54 t10_60 t44_66 t49_76 t9_58 t11_68 t48_74 t7_56 : AV) (H_78 : Heap) : Option ((List AV × List Trail) × Heap) :=
  bindE (drawM (some t6_54) H_78) fun t50_79 H_80 =>
  bindE (drawR true [t50_79.1] (fun F => mBin (cfg b) 25 true .eql t50_79.1 (AV.c (.int .i64 0)) F) H_80) fun t51_81 H_82 =>
  bindE (drawM (some t51_81.1) H_82) fun t52_83 H_84 =>
  bindE (guardD (wantR true t52_83.1) (drawM (some t10_60) H_84) H_84) fun t53_85 H_86 =>
  bindE (guardD (wantR true t52_83.1) (drawR true [t53_85.1] (fun F => mBin (cfg b) 25 true .eql t53_85.1 (AV.c (.int .i64 0)) F) H_86) H_86) fun t54_87 H_88 =>
  bindE (drawR true [t52_83.1, t54_87.1] (fun F => mPick t52_83.1 t54_87.1 (AV.c (.bool false)) F) H_88) fun t55_89 H_90 =>
  bindE (drawM (some t55_89.1) H_90) fun t56_91 H_92 =>
  bindE (guardD (wantR true t56_91.1) (drawM (some t44_66) H_92) H_92) fun t57_93 H_94 =>
  bindE (drawR true [t56_91.1, t57_93.1] (fun F => mPick t56_91.1 t57_93.1 (AV.c (.bool false)) F) H_94) fun t58_95 H_96 =>
  bindE (drawM (some t58_95.1) H_96) fun t59_97 H_98 =>
  bindE (guardD (wantR true t59_97.1) (drawM (some t49_76) H_98) H_98) fun t60_99 H_100 =>
  bindE (drawR true [t59_97.1, t60_99.1] (fun F => mPick t59_97.1 t60_99.1 (AV.c (.bool false)) F) H_100) fun t61_101 H_102 =>
  bindE (drawM (some t61_101.1) H_102) fun t62_103 H_104 =>
  bindE (guardD (wantR true t62_103.1) (drawR true [t9_58] (fun F => mLoad true 130 t9_58 F) H_104) H_104) fun t63_105 H_106 =>
  bindE (guardD (wantR true t62_103.1) (drawR true [t11_68] (fun F => mLoad true 130 t11_68 F) H_106) H_106) fun t64_107 H_108 =>
  bindE (guardD (wantR true t62_103.1) (drawR true [t63_105.1, t64_107.1] (fun F => mBin (cfg b) 80 false .eql t63_105.1 t64_107.1 F) H_108) H_108) fun t65_109 H_110 =>
  bindE (drawR true [t62_103.1, t65_109.1] (fun F => mPick t62_103.1 t65_109.1 (AV.c (.bool false)) F) H_110) fun t66_111 H_112 =>
  bindE (drawM (some t66_111.1) H_112) fun t67_113 H_114 =>
  bindE (guardD (wantR true t67_113.1) (drawM (some t48_74) H_114) H_114) fun t68_115 H_116 =>
  bindE (guardD (wantR true t67_113.1) (drawR false [t68_115.1] (fun F => cf 37 [t68_115.1] F) H_116) H_116) fun t69_117 H_118 =>
  bindE (guardD (wantR true t67_113.1) (drawR true [t9_58] (fun F => mFA 2 2 t9_58 F) H_118) H_118) fun t70_119 H_120 =>
  bindE (guardD (wantR true t67_113.1) (drawR true [t70_119.1] (fun F => mLoad true 32 t70_119.1 F) H_120) H_120) fun t71_121 H_122 =>
  bindE (guardD (wantR true t67_113.1) (drawR true [t69_117.1, t71_121.1] (fun F => mBin (cfg b) 41 false .eql t69_117.1 t71_121.1 F) H_122) H_122) fun t72_123 H_124 =>
  bindE (drawR true [t67_113.1, t72_123.1] (fun F => mPick t67_113.1 t72_123.1 (AV.c (.bool false)) F) H_124) fun t73_125 H_126 =>
  bindE (drawM (some t73_125.1) H_126) fun t74_127 H_128 =>
  bindE (guardD (wantR true t74_127.1) (drawM (some t48_74) H_128) H_128) fun t75_129 H_130 =>
  bindE (guardD (wantR true t74_127.1) (drawR false [t75_129.1] (fun F => cf 37 [t75_129.1] F) H_130) H_130) fun t76_131 H_132 =>
  bindE (guardD (wantR true t74_127.1) (drawM (some t7_56) H_132) H_132) fun t77_133 H_134 =>
  bindE (guardD (wantR true t74_127.1) (drawR false [t77_133.1] (fun F => cf 37 [t77_133.1] F) H_134) H_134) fun t78_135 H_136 =>
  bindE (guardD (wantR true t74_127.1) (drawR true [t76_131.1, t78_135.1] (fun F => mBin (cfg b) 41 false .eql t76_131.1 t78_135.1 F) H_136) H_136) fun t79_137 H_138 =>
  bindE (drawR true [t74_127.1, t79_137.1] (fun F => mPick t74_127.1 t79_137.1 (AV.c (.bool false)) F) H_138) fun t80_139 H_140 =>
  bindE (drawM (some t80_139.1) H_140) fun t4_141 H_142 =>
  some (([t4_141.1], [t50_79.2, t51_81.2, t52_83.2, t53_85.2, t54_87.2, t55_89.2, t56_91.2, t57_93.2, t58_95.2, t59_97.2, t60_99.2, t61_101.2, t62_103.2, t63_105.2, t64_107.2, t65_109.2, t66_111.2, t67_113.2, t68_115.2, t69_117.2, t70_119.2, t71_121.2, t72_123.2, t73_125.2, t74_127.2, t75_129.2, t76_131.2, t77_133.2, t78_135.2, t79_137.2, t80_139.2, t4_141.2]), H_142)
noncomputable def p17 (b : Bool) (cf : CallFn) (k : Nat) (t0 t1 : AV) (H : Heap) : Option (AV × Heap) :=
  bindE (cf 31 [] H) fun t15_0 H_1 =>
  bindE (mUn .not t15_0 H_1) fun t16_2 H_3 =>
  condR t16_2 (endQ (cfg b) false k (resC1 (some (AV.c (.bool false))) (some [])) H_3) (bindE (cf 56 [(AV.c (.int .u8 3)), (AV.c (.int .u64 100))] H_3) fun t18_4 H_5 =>
  bindE (mExtract 0 t18_4 H_5) fun t19_6 H_7 =>
  bindE (mExtract 1 t18_4 H_7) fun t20_8 H_9 =>
  bindE (cf 39 [t0, (AV.c (.int .i64 20))] H_9) fun t23_10 H_11 =>
  bindE (mExtract 0 t23_10 H_11) fun t24_12 H_13 =>
  bindE (mExtract 1 t23_10 H_13) fun t25_14 H_15 =>
  bindE (cf 52 [t19_6, t24_12] H_15) fun t29_16 H_17 =>
  bindE (mExtract 0 t29_16 H_17) fun t30_18 H_19 =>
  bindE (mExtract 1 t29_16 H_19) fun t31_20 H_21 =>
  bindE (mAlloc 80 (.agg [(.int .u64 0), (.int .u64 0), (.arr 32 .u8 (List.replicate 32 0)), (.arr 32 .u8 (List.replicate 32 0)), (.arr 32 .u8 (List.replicate 32 0)), (.arr 32 .u8 (List.replicate 32 0))]) H_21) fun t9_22 H_23 =>
  bindE (mStore true 130 t9_22 t30_18 H_23) fun u_24 H_25 =>
  bindE (mBin (cfg b) 5 true .rem t1 (AV.c (.int .u8 63)) H_25) fun t33_26 H_27 =>
  afterL 0 (loopX k (p17_l0 b cf k) [t19_6, t20_8, t24_12, t9_22, t31_20, t33_26, (AV.c (.int .u8 0))] H_27) (fun vs_50 H_51 =>
  un vs_50 fun t5_52 vs_53 => un vs_53 fun t6_54 vs_55 => un vs_55 fun t7_56 vs_57 => un vs_57 fun t9_58 vs_59 => un vs_59 fun t10_60 vs_61 => un0 vs_61 (bindE (cf 53 [t5_52, (AV.c (.int .u64 1))] H_51) fun t42_62 H_63 =>
  bindE (mExtract 0 t42_62 H_63) fun t43_64 H_65 =>
  bindE (mExtract 1 t42_62 H_65) fun t44_66 H_67 =>
  bindE (mAlloc 80 (.agg [(.int .u64 0), (.int .u64 0), (.arr 32 .u8 (List.replicate 32 0)), (.arr 32 .u8 (List.replicate 32 0)), (.arr 32 .u8 (List.replicate 32 0)), (.arr 32 .u8 (List.replicate 32 0))]) H_67) fun t11_68 H_69 =>
  bindE (mStore true 130 t11_68 t43_64 H_69) fun u_70 H_71 =>
  bindE (cf 54 [t5_52, (AV.c (.int .u64 1))] H_71) fun t47_72 H_73 =>
  bindE (mExtract 0 t47_72 H_73) fun t48_74 H_75 =>
  bindE (mExtract 1 t47_72 H_75) fun t49_76 H_77 =>
  afterD (twice [0, 1, 3, 7, 15, 31, 63, 127, 255, 511, 1023, 2047, 4095, 8191, 8191, 32767, 65535, 131071, 262143, 524287, 262143, 1310719, 4194303, 8388607, 16777215, 33554431, 67108863, 33554431, 268435455, 536870911, 1073741823, 2147483647] (p17_d0 b cf t6_54 t10_60 t44_66 t49_76 t9_58 t11_68 t48_74 t7_56) H_77) fun vs_143 H_144 =>
  un vs_143 fun t4_145 vs_146 => un0 vs_146 (endQ (cfg b) false k (resC1 (some t4_145) (some [])) H_144))) (fun vs_50 H_51 => un vs_50 fun t5_147 vs_148 => un vs_148 fun t6_149 vs_150 => un vs_150 fun t7_151 vs_152 => un vs_152 fun t9_153 vs_154 => un vs_154 fun t10_155 vs_156 => un0 vs_156 (endQ (cfg b) false k (resC1 (some AV.any) (some [])) H_51)))

theorem p17_eq (b : Bool) (cf : CallFn) (t0 t1 : AV) (H : Heap) : runG (cfg b) cf An 17 [t0, t1] H = p17 b cf H.length t0 t1 H := by kernel_rfl

end Go.Fm

