/-
  A part of the proof: DLaw10.
-/
import Derived.Test.YtjmjijgnbjkpnaaDoorDAnn
set_option linter.all false
set_option autoImplicit true
/-
  What the interpreter does to functions, without slots and types; the kernel holds it against the code.
-/
set_option maxRecDepth 100000
set_option linter.unusedVariables false
namespace Go.Fm
open Go Go.Proofs

/-- ferryman/ferrymanlaw18.ChainNil -/
noncomputable def p10 (b : Bool) (cf : CallFn) (k : Nat) (t0 t1 : AV) (H : Heap) : Option (AV × Heap) :=
  bindE (mBox 80 t1 H) fun t3_0 H_1 =>
  bindE (cf 31 [] H_1) fun t16_2 H_3 =>
  bindE (mUn .not t16_2 H_3) fun t17_4 H_5 =>
  condR t17_4 (endQ (cfg b) false k (resC1 (some (AV.c (.bool false))) (some [])) H_5) (bindE (cf 26 [] H_5) fun t20_6 H_7 =>
  bindE (cf 52 [(AV.c .nilp), t20_6] H_7) fun t21_8 H_9 =>
  bindE (mExtract 0 t21_8 H_9) fun t22_10 H_11 =>
  bindE (mExtract 1 t21_8 H_11) fun t23_12 H_13 =>
  bindE (mAlloc 80 (.agg [(.int .u64 0), (.int .u64 0), (.arr 32 .u8 (List.replicate 32 0)), (.arr 32 .u8 (List.replicate 32 0)), (.arr 32 .u8 (List.replicate 32 0)), (.arr 32 .u8 (List.replicate 32 0))]) H_13) fun t6_14 H_15 =>
  bindE (mStore true 130 t6_14 t22_10 H_15) fun u_16 H_17 =>
  bindE (cf 53 [(AV.c .nilp), t0] H_17) fun t27_18 H_19 =>
  bindE (mExtract 0 t27_18 H_19) fun t28_20 H_21 =>
  bindE (mExtract 1 t27_18 H_21) fun t29_22 H_23 =>
  bindE (mAlloc 80 (.agg [(.int .u64 0), (.int .u64 0), (.arr 32 .u8 (List.replicate 32 0)), (.arr 32 .u8 (List.replicate 32 0)), (.arr 32 .u8 (List.replicate 32 0)), (.arr 32 .u8 (List.replicate 32 0))]) H_23) fun t8_24 H_25 =>
  bindE (mStore true 130 t8_24 t28_20 H_25) fun u_26 H_27 =>
  bindE (cf 54 [(AV.c .nilp), t0] H_27) fun t33_28 H_29 =>
  bindE (mExtract 0 t33_28 H_29) fun t34_30 H_31 =>
  bindE (mExtract 1 t33_28 H_31) fun t35_32 H_33 =>
  bindE (cf 55 [(AV.c .nilp), t0] H_33) fun t38_34 H_35 =>
  bindE (cf 56 [(AV.c (.int .u8 1)), (AV.c (.int .u64 5))] H_35) fun t40_36 H_37 =>
  bindE (mExtract 0 t40_36 H_37) fun t41_38 H_39 =>
  bindE (mExtract 1 t40_36 H_39) fun t42_40 H_41 =>
  bindE (cf 52 [t41_38, (AV.c .nilp)] H_41) fun t45_42 H_43 =>
  bindE (mExtract 0 t45_42 H_43) fun t46_44 H_45 =>
  bindE (mExtract 1 t45_42 H_45) fun t47_46 H_47 =>
  bindE (mAlloc 80 (.agg [(.int .u64 0), (.int .u64 0), (.arr 32 .u8 (List.replicate 32 0)), (.arr 32 .u8 (List.replicate 32 0)), (.arr 32 .u8 (List.replicate 32 0)), (.arr 32 .u8 (List.replicate 32 0))]) H_47) fun t14_48 H_49 =>
  bindE (mStore true 130 t14_48 t46_44 H_49) fun u_50 H_51 =>
  bindE (mLoad true 130 t6_14 H_51) fun t48_52 H_53 =>
  bindE (mBuildS [(.int .u64 0), (.int .u64 0), (.arr 32 .u8 (List.replicate 32 0)), (.arr 32 .u8 (List.replicate 32 0)), (.arr 32 .u8 (List.replicate 32 0)), (.arr 32 .u8 (List.replicate 32 0))] [] H_53) fun t49_54 H_55 =>
  bindE (mBin (cfg b) 80 false .eql t48_52 t49_54 H_55) fun t50_56 H_57 =>
  bindE (guardR (wantR true t50_56) (some (t23_12, H_57)) H_57) fun t52_58 H_59 =>
  bindE (guardR (wantR true t50_56) (mBin (cfg b) 25 true .eql t52_58 (AV.c (.int .i64 1)) H_59) H_59) fun t53_60 H_61 =>
  bindE (mPick t50_56 t53_60 (AV.c (.bool false)) H_61) fun t54_62 H_63 =>
  bindE (guardR (wantR true t54_62) (mLoad true 130 t8_24 H_63) H_63) fun t56_64 H_65 =>
  bindE (guardR (wantR true t54_62) (mBuildS [(.int .u64 0), (.int .u64 0), (.arr 32 .u8 (List.replicate 32 0)), (.arr 32 .u8 (List.replicate 32 0)), (.arr 32 .u8 (List.replicate 32 0)), (.arr 32 .u8 (List.replicate 32 0))] [] H_65) H_65) fun t57_66 H_67 =>
  bindE (guardR (wantR true t54_62) (mBin (cfg b) 80 false .eql t56_64 t57_66 H_67) H_67) fun t58_68 H_69 =>
  bindE (mPick t54_62 t58_68 (AV.c (.bool false)) H_69) fun t59_70 H_71 =>
  bindE (guardR (wantR true t59_70) (some (t29_22, H_71)) H_71) fun t61_72 H_73 =>
  bindE (guardR (wantR true t59_70) (mUn .not t61_72 H_73) H_73) fun t62_74 H_75 =>
  bindE (mPick t59_70 t62_74 (AV.c (.bool false)) H_75) fun t63_76 H_77 =>
  bindE (guardR (wantR true t63_76) (some (t34_30, H_77)) H_77) fun t65_78 H_79 =>
  bindE (guardR (wantR true t63_76) (mBin (cfg b) 28 true .eql t65_78 (AV.c .nilp) H_79) H_79) fun t66_80 H_81 =>
  bindE (mPick t63_76 t66_80 (AV.c (.bool false)) H_81) fun t67_82 H_83 =>
  bindE (guardR (wantR true t67_82) (some (t35_32, H_83)) H_83) fun t69_84 H_85 =>
  bindE (guardR (wantR true t67_82) (mUn .not t69_84 H_85) H_85) fun t70_86 H_87 =>
  bindE (mPick t67_82 t70_86 (AV.c (.bool false)) H_87) fun t71_88 H_89 =>
  bindE (guardR (wantR true t71_88) (some ((AV.c .nilp), H_89)) H_89) fun t73_90 H_91 =>
  bindE (guardR (wantR true t71_88) (mLoad true 130 t3_0 H_91) H_91) fun t74_92 H_93 =>
  bindE (guardR (wantR true t71_88) (cf 57 [t73_90, t74_92] H_93) H_93) fun t75_94 H_95 =>
  bindE (guardR (wantR true t71_88) (mBin (cfg b) 25 true .eql t75_94 (AV.c (.int .i64 1)) H_95) H_95) fun t76_96 H_97 =>
  bindE (mPick t71_88 t76_96 (AV.c (.bool false)) H_97) fun t77_98 H_99 =>
  bindE (guardR (wantR true t77_98) (some ((AV.c .nilp), H_99)) H_99) fun t79_100 H_101 =>
  bindE (guardR (wantR true t77_98) (cf 58 [t79_100] H_101) H_101) fun t80_102 H_103 =>
  bindE (guardR (wantR true t77_98) (mBin (cfg b) 92 true .eql t80_102 (AV.c .nilp) H_103) H_103) fun t81_104 H_105 =>
  bindE (mPick t77_98 t81_104 (AV.c (.bool false)) H_105) fun t82_106 H_107 =>
  bindE (guardR (wantR true t82_106) (some ((AV.c .nilp), H_107)) H_107) fun t84_108 H_109 =>
  bindE (guardR (wantR true t82_106) (cf 59 [t84_108] H_109) H_109) fun t85_110 H_111 =>
  bindE (guardR (wantR true t82_106) (mBin (cfg b) 22 true .eql t85_110 (AV.c (.int .u64 0)) H_111) H_111) fun t86_112 H_113 =>
  bindE (mPick t82_106 t86_112 (AV.c (.bool false)) H_113) fun t87_114 H_115 =>
  bindE (guardR (wantR true t87_114) (some ((AV.c .nilp), H_115)) H_115) fun t89_116 H_117 =>
  bindE (guardR (wantR true t87_114) (cf 60 [t89_116] H_117) H_117) fun t90_118 H_119 =>
  bindE (guardR (wantR true t87_114) (mBin (cfg b) 22 true .eql t90_118 (AV.c (.int .u64 0)) H_119) H_119) fun t91_120 H_121 =>
  bindE (mPick t87_114 t91_120 (AV.c (.bool false)) H_121) fun t92_122 H_123 =>
  bindE (guardR (wantR true t92_122) (mLoad true 130 t14_48 H_123) H_123) fun t94_124 H_125 =>
  bindE (guardR (wantR true t92_122) (mBuildS [(.int .u64 0), (.int .u64 0), (.arr 32 .u8 (List.replicate 32 0)), (.arr 32 .u8 (List.replicate 32 0)), (.arr 32 .u8 (List.replicate 32 0)), (.arr 32 .u8 (List.replicate 32 0))] [] H_125) H_125) fun t95_126 H_127 =>
  bindE (guardR (wantR true t92_122) (mBin (cfg b) 80 false .eql t94_124 t95_126 H_127) H_127) fun t96_128 H_129 =>
  bindE (mPick t92_122 t96_128 (AV.c (.bool false)) H_129) fun t97_130 H_131 =>
  bindE (guardR (wantR true t97_130) (some (t47_46, H_131)) H_131) fun t99_132 H_133 =>
  bindE (guardR (wantR true t97_130) (mBin (cfg b) 25 true .eql t99_132 (AV.c (.int .i64 1)) H_133) H_133) fun t100_134 H_135 =>
  bindE (mPick t97_130 t100_134 (AV.c (.bool false)) H_135) fun t101_136 H_137 =>
  bindE (guardR (wantR true t101_136) (some (t41_38, H_137)) H_137) fun t103_138 H_139 =>
  bindE (guardR (wantR true t101_136) (cf 59 [t103_138] H_139) H_139) fun t104_140 H_141 =>
  bindE (guardR (wantR true t101_136) (mBin (cfg b) 22 true .eql t104_140 (AV.c (.int .u64 0)) H_141) H_141) fun t105_142 H_143 =>
  bindE (mPick t101_136 t105_142 (AV.c (.bool false)) H_143) fun t106_144 H_145 =>
  endQ (cfg b) false k (resC1 (some t106_144) (some [])) H_145)

theorem p10_eq (b : Bool) (cf : CallFn) (t0 t1 : AV) (H : Heap) : runG (cfg b) cf An 10 [t0, t1] H = p10 b cf H.length t0 t1 H := by kernel_rfl

end Go.Fm

