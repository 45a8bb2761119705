/-
  A part of the proof: DEnc.
-/
import Derived.Test.YtjmjijgnbjkpnaaDAnn
set_option linter.all false
set_option autoImplicit true
/-
  What the interpreter does to functions, without slots and types; the kernel holds it against the code.
-/
set_option maxRecDepth 100000
set_option linter.unusedVariables false
namespace Go.Fm
open Go Go.Proofs
/-- ferryman/ferrymanlaw07.Awake -/
noncomputable def p6 (b : Bool) (cf : CallFn) (k : Nat) (H : Heap) : Option (AV × Heap) :=
  bindE (mBuildSl 5 1 (.int .u8 0) 1 [(0, (AV.c (.int .u8 97)))] H) fun t4_0 H_1 =>
  bindE (mConv0 t4_0 H_1) fun t5_2 H_3 =>
  bindE (mBuildSl 5 1 (.int .u8 0) 1 [(0, (AV.c (.int .u8 120)))] H_3) fun t6_4 H_5 =>
  bindE (mConv0 t6_4 H_5) fun t7_6 H_7 =>
  bindE (mBuildS [.nilsl, .nilsl, (.int .i64 0), (.int .u64 0), (.arr 32 .u8 (List.replicate 32 0)), (.arr 32 .u8 (List.replicate 32 0))] [(0, t5_2), (1, t7_6), (3, (AV.c (.int .u64 1)))] H_7) fun t8_8 H_9 =>
  bindE (cf 7 [t8_8] H_9) fun t9_10 H_11 =>
  bindE (mExtract 0 t9_10 H_11) fun t10_12 H_13 =>
  bindE (mExtract 1 t9_10 H_13) fun t11_14 H_15 =>
  bindE (mBin (cfg b) 30 true .eql t11_14 (AV.c (.int .i64 0)) H_15) fun t13_16 H_17 =>
  bindE (guardR (wantR true t13_16) (some (t10_12, H_17)) H_17) fun t15_18 H_19 =>
  bindE (guardR (wantR true t13_16) (mConvBS t15_18 H_19) H_19) fun t16_20 H_21 =>
  bindE (guardR (wantR true t13_16) (mBin (cfg b) 9 true .eql t16_20 (AV.c (.str ⟨#[1, 0, 1, 97, 2, 0, 1, 120]⟩)) H_21) H_21) fun t17_22 H_23 =>
  bindE (mPick t13_16 t17_22 (AV.c (.bool false)) H_23) fun t18_24 H_25 =>
  endQ (cfg b) false k (resC1 (some t18_24) (some [])) H_25
/-- ferryman/nodes.Encode -/
noncomputable def p7 (b : Bool) (cf : CallFn) (k : Nat) (t0 : AV) (H : Heap) : Option (AV × Heap) :=
  bindE (mBox 27 t0 H) fun t1_0 H_1 =>
  bindE (mFA 0 0 t1_0 H_1) fun t7_2 H_3 =>
  bindE (mLoad false 1 t7_2 H_3) fun t8_4 H_5 =>
  bindE (mLenSl t8_4 H_5) fun t9_6 H_7 =>
  bindE (mBin (cfg b) 3 true .eql t9_6 (AV.c (.int .i64 0)) H_7) fun t10_8 H_9 =>
  bindE (guardR (wantR false t10_8) (mFA 0 0 t1_0 H_9) H_9) fun t12_10 H_11 =>
  bindE (guardR (wantR false t10_8) (mLoad false 1 t12_10 H_11) H_11) fun t13_12 H_13 =>
  bindE (guardR (wantR false t10_8) (mLenSl t13_12 H_13) H_13) fun t14_14 H_15 =>
  bindE (guardR (wantR false t10_8) (mBin (cfg b) 3 true .gtr t14_14 (AV.c (.int .i64 96)) H_15) H_15) fun t15_16 H_17 =>
  bindE (mPick t10_8 (AV.c (.bool true)) t15_16 H_17) fun t16_18 H_19 =>
  condR t16_18 (endQ (cfg b) false k (resC1 (some (AV.c .nilsl)) (resC1 (some (AV.c (.int .i64 10))) (some []))) H_19) (bindE (mFA 2 2 t1_0 H_19) fun t18_20 H_21 =>
  bindE (mLoad false 1 t18_20 H_21) fun t19_22 H_23 =>
  bindE (mBin (cfg b) 3 true .lss t19_22 (AV.c (.int .i64 0)) H_23) fun t20_24 H_25 =>
  bindE (guardR (wantR false t20_24) (mFA 2 2 t1_0 H_25) H_25) fun t22_26 H_27 =>
  bindE (guardR (wantR false t20_24) (mLoad false 1 t22_26 H_27) H_27) fun t23_28 H_29 =>
  bindE (guardR (wantR false t20_24) (mBin (cfg b) 3 true .gtr t23_28 (AV.c (.int .i64 64)) H_29) H_29) fun t24_30 H_31 =>
  bindE (mPick t20_24 (AV.c (.bool true)) t24_30 H_31) fun t25_32 H_33 =>
  bindE (guardR (wantR false t25_32) (mFA 2 2 t1_0 H_33) H_33) fun t27_34 H_35 =>
  bindE (guardR (wantR false t25_32) (mLoad false 1 t27_34 H_35) H_35) fun t28_36 H_37 =>
  bindE (guardR (wantR false t25_32) (mBin (cfg b) 3 true .gtr t28_36 (AV.c (.int .i64 0)) H_37) H_37) fun t29_38 H_39 =>
  bindE (guardR (wantR false t25_32) (some (t29_38, H_39)) H_39) fun t30_40 H_41 =>
  bindE (guardR (wantR true t30_40) (mFA 1 1 t1_0 H_41) H_41) fun t31_42 H_43 =>
  bindE (guardR (wantR true t30_40) (mLoad false 1 t31_42 H_43) H_43) fun t32_44 H_45 =>
  bindE (guardR (wantR true t30_40) (mLenSl t32_44 H_45) H_45) fun t33_46 H_47 =>
  bindE (guardR (wantR true t30_40) (mBin (cfg b) 3 true .gtr t33_46 (AV.c (.int .i64 0)) H_47) H_47) fun t34_48 H_49 =>
  bindE (guardR (wantR false t25_32) (mPick t30_40 t34_48 (AV.c (.bool false)) H_49) H_49) fun t35_50 H_51 =>
  bindE (mPick t25_32 (AV.c (.bool true)) t35_50 H_51) fun t36_52 H_53 =>
  bindE (guardR (wantR false t36_52) (mFA 1 1 t1_0 H_53) H_53) fun t38_54 H_55 =>
  bindE (guardR (wantR false t36_52) (mLoad false 1 t38_54 H_55) H_55) fun t39_56 H_57 =>
  bindE (guardR (wantR false t36_52) (mLenSl t39_56 H_57) H_57) fun t40_58 H_59 =>
  bindE (guardR (wantR false t36_52) (mBin (cfg b) 3 true .gtr t40_58 (AV.c (.int .i64 256)) H_59) H_59) fun t41_60 H_61 =>
  bindE (mPick t36_52 (AV.c (.bool true)) t41_60 H_61) fun t42_62 H_63 =>
  bindE (guardR (wantR false t42_62) (mFA 2 2 t1_0 H_63) H_63) fun t44_64 H_65 =>
  bindE (guardR (wantR false t42_62) (mLoad false 1 t44_64 H_65) H_65) fun t45_66 H_67 =>
  bindE (guardR (wantR false t42_62) (mBin (cfg b) 3 true .eql t45_66 (AV.c (.int .i64 0)) H_67) H_67) fun t46_68 H_69 =>
  bindE (guardR (wantR false t42_62) (some (t46_68, H_69)) H_69) fun t47_70 H_71 =>
  bindE (guardR (wantR true t47_70) (mFA 3 3 t1_0 H_71) H_71) fun t48_72 H_73 =>
  bindE (guardR (wantR true t47_70) (mLoad false 1 t48_72 H_73) H_73) fun t49_74 H_75 =>
  bindE (guardR (wantR true t47_70) (mBin (cfg b) 23 true .neq t49_74 (AV.c (.int .u64 1)) H_75) H_75) fun t50_76 H_77 =>
  bindE (guardR (wantR true t47_70) (some (t50_76, H_77)) H_77) fun t51_78 H_79 =>
  bindE (guardR (wantR false t51_78) (mFA 4 4 t1_0 H_79) H_79) fun t52_80 H_81 =>
  bindE (guardR (wantR false t51_78) (mLoad true 32 t52_80 H_81) H_81) fun t53_82 H_83 =>
  bindE (guardR (wantR false t51_78) (mBuildA 32 .u8 (List.replicate 32 0) [] H_83) H_83) fun t54_84 H_85 =>
  bindE (guardR (wantR false t51_78) (mBin (cfg b) 25 false .neq t53_82 t54_84 H_85) H_85) fun t55_86 H_87 =>
  bindE (guardR (wantR true t47_70) (mPick t51_78 (AV.c (.bool true)) t55_86 H_87) H_87) fun t56_88 H_89 =>
  bindE (guardR (wantR true t47_70) (some (t56_88, H_89)) H_89) fun t57_90 H_91 =>
  bindE (guardR (wantR false t57_90) (mFA 5 36 t1_0 H_91) H_91) fun t58_92 H_93 =>
  bindE (guardR (wantR false t57_90) (mLoad true 32 t58_92 H_93) H_93) fun t59_94 H_95 =>
  bindE (guardR (wantR false t57_90) (mBuildA 32 .u8 (List.replicate 32 0) [] H_95) H_95) fun t60_96 H_97 =>
  bindE (guardR (wantR false t57_90) (mBin (cfg b) 25 false .neq t59_94 t60_96 H_97) H_97) fun t61_98 H_99 =>
  bindE (guardR (wantR true t47_70) (mPick t57_90 (AV.c (.bool true)) t61_98 H_99) H_99) fun t62_100 H_101 =>
  bindE (guardR (wantR false t42_62) (mPick t47_70 t62_100 (AV.c (.bool false)) H_101) H_101) fun t63_102 H_103 =>
  bindE (mPick t42_62 (AV.c (.bool true)) t63_102 H_103) fun t64_104 H_105 =>
  condR t64_104 (endQ (cfg b) false k (resC1 (some (AV.c .nilsl)) (resC1 (some (AV.c (.int .i64 12))) (some []))) H_105) (bindE (mAlloc 22 .nilsl H_105) fun t4_106 H_107 =>
  bindE (mFA 0 0 t1_0 H_107) fun t67_108 H_109 =>
  bindE (mLoad false 1 t67_108 H_109) fun t68_110 H_111 =>
  bindE (mCallV cf (AV.fn 25 [t4_106]) [(AV.c (.int .u8 1)), t68_110] H_111) fun t69_112 H_113 =>
  bindE (mFA 1 1 t1_0 H_113) fun t71_114 H_115 =>
  bindE (mLoad false 1 t71_114 H_115) fun t72_116 H_117 =>
  bindE (mCallV cf (AV.fn 25 [t4_106]) [(AV.c (.int .u8 2)), t72_116] H_117) fun t73_118 H_119 =>
  bindE (mFA 2 2 t1_0 H_119) fun t75_120 H_121 =>
  bindE (mLoad false 1 t75_120 H_121) fun t76_122 H_123 =>
  bindE (mConvI .u64 t76_122 H_123) fun t77_124 H_125 =>
  bindE (cf 27 [t77_124] H_125) fun t78_126 H_127 =>
  bindE (mCallV cf (AV.fn 25 [t4_106]) [(AV.c (.int .u8 3)), t78_126] H_127) fun t79_128 H_129 =>
  bindE (mFA 2 2 t1_0 H_129) fun t80_130 H_131 =>
  bindE (mLoad false 1 t80_130 H_131) fun t81_132 H_133 =>
  bindE (mBin (cfg b) 3 true .gtr t81_132 (AV.c (.int .i64 0)) H_133) fun t82_134 H_135 =>
  condR t82_134 (bindE (mFA 3 3 t1_0 H_135) fun t84_136 H_137 =>
  bindE (mLoad false 1 t84_136 H_137) fun t85_138 H_139 =>
  bindE (cf 27 [t85_138] H_139) fun t86_140 H_141 =>
  bindE (mCallV cf (AV.fn 25 [t4_106]) [(AV.c (.int .u8 4)), t86_140] H_141) fun t87_142 H_143 =>
  bindE (mFA 4 4 t1_0 H_143) fun t89_144 H_145 =>
  bindE (mSliceArr 32 t89_144 none none H_145) fun t90_146 H_147 =>
  bindE (mCallV cf (AV.fn 25 [t4_106]) [(AV.c (.int .u8 5)), t90_146] H_147) fun t91_148 H_149 =>
  bindE (mFA 5 36 t1_0 H_149) fun t93_150 H_151 =>
  bindE (mSliceArr 32 t93_150 none none H_151) fun t94_152 H_153 =>
  bindE (mCallV cf (AV.fn 25 [t4_106]) [(AV.c (.int .u8 6)), t94_152] H_153) fun t95_154 H_155 =>
  bindE (mLoad false 1 t4_106 H_155) fun t96_156 H_157 =>
  endQ (cfg b) false k (resC1 (some t96_156) (resC1 (some (AV.c (.int .i64 0))) (some []))) H_157) (bindE (mLoad false 1 t4_106 H_135) fun t96_158 H_159 =>
  endQ (cfg b) false k (resC1 (some t96_158) (resC1 (some (AV.c (.int .i64 0))) (some []))) H_159)))
/-- ferryman/nodes.Encode$1 -/
noncomputable def p25 (b : Bool) (cf : CallFn) (k : Nat) (t0 t1 t2 : AV) (H : Heap) : Option (AV × Heap) :=
  bindE (mLoad false 1 t2 H) fun t6_0 H_1 =>
  bindE (cf 26 [t6_0, t0, t1] H_1) fun t9_2 H_3 =>
  bindE (mExtract 0 t9_2 H_3) fun t10_4 H_5 =>
  bindE (mExtract 1 t9_2 H_5) fun t11_6 H_7 =>
  bindE (mStore false 1 t2 t10_4 H_7) fun u_8 H_9 =>
  endQ (cfg b) false k (some []) H_9
/-- ferryman/tlv.Put -/
noncomputable def p26 (b : Bool) (cf : CallFn) (k : Nat) (t0 t1 t2 : AV) (H : Heap) : Option (AV × Heap) :=
  bindE (mBuildSl 5 1 (.int .u8 0) 0 [] H) fun t9_0 H_1 =>
  bindE (mAppend 5 1 1 false t9_0 t0 H_1) fun t11_2 H_3 =>
  bindE (mLenSl t2 H_3) fun t14_4 H_5 =>
  bindE (mBin (cfg b) 3 true .gtr t14_4 (AV.c (.int .i64 65535)) H_5) fun t15_6 H_7 =>
  condR t15_6 (endQ (cfg b) false k (resC1 (some (AV.c .nilsl)) (resC1 (some (AV.c (.int .i64 3))) (some []))) H_7) (bindE (mLenSl t2 H_7) fun t18_8 H_9 =>
  bindE (mBin (cfg b) 3 true .eql t18_8 (AV.c (.int .i64 0)) H_9) fun t19_10 H_11 =>
  condR t19_10 (endQ (cfg b) false k (resC1 (some t11_2) (resC1 (some (AV.c (.int .i64 0))) (some []))) H_11) (bindE (mLenSl t2 H_11) fun t24_12 H_13 =>
  bindE (mBin (cfg b) 3 true .shr t24_12 (AV.c (.int .u64 8)) H_13) fun t25_14 H_15 =>
  bindE (mConvI .u8 t25_14 H_15) fun t26_16 H_17 =>
  bindE (mLenSl t2 H_17) fun t28_18 H_19 =>
  bindE (mConvI .u8 t28_18 H_19) fun t29_20 H_21 =>
  bindE (mBuildSl 5 1 (.int .u8 0) 3 [(0, t1), (1, t26_16), (2, t29_20)] H_21) fun t30_22 H_23 =>
  bindE (mAppend 5 1 1 false t11_2 t30_22 H_23) fun t31_24 H_25 =>
  bindE (mAppend 5 1 1 false t31_24 t2 H_25) fun t34_26 H_27 =>
  endQ (cfg b) false k (resC1 (some t34_26) (resC1 (some (AV.c (.int .i64 0))) (some []))) H_27))
noncomputable def p27_l0 (b : Bool) (cf : CallFn) (k : Nat) (s : List AV) (H : Heap) : Option (LStep × Heap) :=
  un s fun t0_0 vs_1 => un vs_1 fun t3_2 vs_3 => un vs_3 fun t4_4 vs_5 => un0 vs_5 (bindE (mBin (cfg b) 3 true .geq t4_4 (AV.c (.int .i64 0)) H) fun t7_6 H_7 =>
  condR t7_6 (bindE (mBin (cfg b) 3 true .mul (AV.c (.int .i64 8)) t4_4 H_7) fun t12_8 H_9 =>
  bindE (mBin (cfg b) 23 false .shr t0_0 t12_8 H_9) fun t13_10 H_11 =>
  bindE (mConvI .u8 t13_10 H_11) fun t14_12 H_13 =>
  bindE (mBin (cfg b) 5 true .neq t14_12 (AV.c (.int .u8 0)) H_13) fun t16_14 H_15 =>
  bindE (guardR (wantR false t16_14) (some (t3_2, H_15)) H_15) fun t18_16 H_17 =>
  bindE (guardR (wantR false t16_14) (mLenSl t18_16 H_17) H_17) fun t19_18 H_19 =>
  bindE (guardR (wantR false t16_14) (mBin (cfg b) 3 true .gtr t19_18 (AV.c (.int .i64 0)) H_19) H_19) fun t20_20 H_21 =>
  bindE (mPick t16_14 (AV.c (.bool true)) t20_20 H_21) fun t21_22 H_23 =>
  condR t21_22 (bindE (mBuildSl 5 1 (.int .u8 0) 1 [(0, t14_12)] H_23) fun t24_24 H_25 =>
  bindE (mAppend 5 1 1 false t3_2 t24_24 H_25) fun t25_26 H_27 =>
  bindE (mBin (cfg b) 3 true .sub t4_4 (AV.c (.int .i64 1)) H_27) fun t9_28 H_29 =>
  some (LStep.cont [t0_0, t25_26, t9_28], H_29)) (bindE (mBin (cfg b) 3 true .sub t4_4 (AV.c (.int .i64 1)) H_23) fun t9_30 H_31 =>
  some (LStep.cont [t0_0, t3_2, t9_30], H_31))) (some (LStep.exit 0 [t3_2], H_7)))
/-- ferryman/tlv.Num -/
noncomputable def p27 (b : Bool) (cf : CallFn) (k : Nat) (t0 : AV) (H : Heap) : Option (AV × Heap) :=
  afterL 0 (loopX k (p27_l0 b cf k) [t0, (AV.c .nilsl), (AV.c (.int .i64 7))] H) (fun vs_32 H_33 =>
  un vs_32 fun t3_34 vs_35 => un0 vs_35 (endQ (cfg b) false k (resC1 (some t3_34) (some [])) H_33)) (fun vs_32 H_33 => un vs_32 fun t3_36 vs_37 => un0 vs_37 (endQ (cfg b) false k (resC1 (some AV.any) (some [])) H_33))
theorem p6_eq (b : Bool) (cf : CallFn) (H : Heap) : runG (cfg b) cf An 6 [] H = p6 b cf H.length  H := by kernel_rfl
theorem p7_eq (b : Bool) (cf : CallFn) (t0 : AV) (H : Heap) : runG (cfg b) cf An 7 [t0] H = p7 b cf H.length t0 H := by kernel_rfl
theorem p25_eq (b : Bool) (cf : CallFn) (t0 t1 t2 : AV) (H : Heap) : runG (cfg b) cf An 25 [t0, t1, t2] H = p25 b cf H.length t0 t1 t2 H := by kernel_rfl
theorem p26_eq (b : Bool) (cf : CallFn) (t0 t1 t2 : AV) (H : Heap) : runG (cfg b) cf An 26 [t0, t1, t2] H = p26 b cf H.length t0 t1 t2 H := by kernel_rfl
theorem p27_eq (b : Bool) (cf : CallFn) (t0 : AV) (H : Heap) : runG (cfg b) cf An 27 [t0] H = p27 b cf H.length t0 H := by kernel_rfl
end Go.Fm
