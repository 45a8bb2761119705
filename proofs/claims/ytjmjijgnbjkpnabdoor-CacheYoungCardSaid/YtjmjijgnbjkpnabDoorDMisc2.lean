/-
  A part of the proof: DMisc2.
-/
import Derived.Test.YtjmjijgnbjkpnabDoorDAnn
set_option linter.all false
set_option autoImplicit true
/-
  What the interpreter does to functions, without slots and types; the kernel holds it against the code.
-/
set_option maxRecDepth 100000
set_option linter.unusedVariables false
namespace Go.Fm
open Go Go.Proofs
/-- ferryman/nodes.New -/
noncomputable def p13 (b : Bool) (cf : CallFn) (k : Nat) (H : Heap) : Option (AV × Heap) :=
  bindE (mMakeMap H) fun t1_0 H_1 =>
  bindE (mBuildS [.nilmap] [(0, t1_0)] H_1) fun t2_2 H_3 =>
  bindE (mBox 81 t2_2 H_3) fun t3_4 H_5 =>
  endQ (cfg b) false k (resC1 (some t3_4) (some [])) H_5
noncomputable def p14_l0_d0 (b : Bool) (cf : CallFn) (t0_18 t8_44 : AV) (H_48 : Heap) : Option ((List AV × List Trail) × Heap) :=
  bindE (drawM (some t0_18) H_48) fun t28_49 H_50 =>
  bindE (drawR true [t28_49.1] (fun F => mNil t28_49.1 F) H_50) fun t29_51 H_52 =>
  bindE (drawR true [t29_51.1] (fun F => mFA 0 0 t29_51.1 F) H_52) fun t30_53 H_54 =>
  bindE (drawR true [t30_53.1] (fun F => mLoad false 1 t30_53.1 F) H_54) fun t31_55 H_56 =>
  bindE (drawR true [t8_44] (fun F => mLoad true 32 t8_44 F) H_56) fun t32_57 H_58 =>
  bindE (drawR true [t31_55.1, t32_57.1] (fun F => mLookup (cfg b) 34 .nilsl true t31_55.1 t32_57.1 F) H_58) fun t33_59 H_60 =>
  bindE (drawM (some t33_59.1) H_60) fun t27_61 H_62 =>
  bindE (drawR true [t27_61.1] (fun F => mExtract 0 t27_61.1 F) H_62) fun t34_63 H_64 =>
  bindE (drawR true [t27_61.1] (fun F => mExtract 1 t27_61.1 F) H_64) fun t35_65 H_66 =>
  bindE (drawM (some t34_63.1) H_66) fun t9_67 H_68 =>
  bindE (drawM (some t35_65.1) H_68) fun t10_69 H_70 =>
  some (([t10_69.1], [t28_49.2, t29_51.2, t30_53.2, t31_55.2, t32_57.2, t33_59.2, t27_61.2, t34_63.2, t35_65.2, t9_67.2, t10_69.2]), H_70)
noncomputable def p14_l0_d1 (b : Bool) (cf : CallFn) (t0_18 t8_44 t7_36 : AV) (H_77 : Heap) : Option ((List AV × List Trail) × Heap) :=
  bindE (drawM (some t0_18) H_77) fun t39_78 H_79 =>
  bindE (drawR true [t39_78.1] (fun F => mNil t39_78.1 F) H_79) fun t40_80 H_81 =>
  bindE (drawR true [t40_80.1] (fun F => mFA 0 0 t40_80.1 F) H_81) fun t41_82 H_83 =>
  bindE (drawR true [t41_82.1] (fun F => mLoad false 1 t41_82.1 F) H_83) fun t42_84 H_85 =>
  bindE (drawR true [t8_44] (fun F => mLoad true 32 t8_44 F) H_85) fun t43_86 H_87 =>
  bindE (drawR true [t7_36] (fun F => mLoad true 68 t7_36 F) H_87) fun t44_88 H_89 =>
  bindE (drawR false [t44_88.1] (fun F => cf 28 [t44_88.1] F) H_89) fun t45_90 H_91 =>
  bindE (drawM (some t45_90.1) H_91) fun t38_92 H_93 =>
  bindE (drawR true [t38_92.1] (fun F => mExtract 0 t38_92.1 F) H_93) fun t46_94 H_95 =>
  bindE (drawR true [t38_92.1] (fun F => mExtract 1 t38_92.1 F) H_95) fun t47_96 H_97 =>
  bindE (drawR false [t42_84.1, t43_86.1, t46_94.1] (fun F => mMapUpd (cfg b) 34 t42_84.1 t43_86.1 t46_94.1 F) H_97) fun u_98 H_99 =>
  some (([], [t39_78.2, t40_80.2, t41_82.2, t42_84.2, t43_86.2, t44_88.2, t45_90.2, t38_92.2, t46_94.2, t47_96.2, u_98.2]), H_99)
noncomputable def p14_l0 (b : Bool) (cf : CallFn) (k : Nat) (s : List AV) (H : Heap) : Option (LStep × Heap) :=
  un s fun t0_18 vs_19 => un vs_19 fun t1_20 vs_21 => un vs_21 fun t4_22 vs_23 => un vs_23 fun t19_24 vs_25 => un vs_25 fun t20_26 vs_27 => un vs_27 fun t21_28 vs_29 => un0 vs_29 (bindE (mBin (cfg b) 3 false .lss t21_28 t20_26 H) fun t22_30 H_31 =>
  condR t22_30 (bindE (mIdxS 68 t19_24 t21_28 H_31) fun t23_32 H_33 =>
  bindE (mLoad true 68 t23_32 H_33) fun t24_34 H_35 =>
  bindE (mAlloc 38 (.agg [.nilsl, .nilsl, (.int .i64 0), (.int .u64 0), (.arr 32 .u8 (List.replicate 32 0)), (.arr 32 .u8 (List.replicate 32 0))]) H_35) fun t7_36 H_37 =>
  bindE (mStore true 68 t7_36 t24_34 H_37) fun u_38 H_39 =>
  bindE (mLoad true 68 t7_36 H_39) fun t25_40 H_41 =>
  bindE (cf 7 [t25_40] H_41) fun t26_42 H_43 =>
  bindE (mAlloc 34 (.arr 32 .u8 (List.replicate 32 0)) H_43) fun t8_44 H_45 =>
  bindE (mStore true 32 t8_44 t26_42 H_45) fun u_46 H_47 =>
  afterD (twice [0, 1, 3, 7, 0, 31, 63, 127, 127, 255, 1023] (p14_l0_d0 b cf t0_18 t8_44) H_47) fun vs_71 H_72 =>
  un vs_71 fun t10_73 vs_74 => un0 vs_74 (bindE (mUn .not t10_73 H_72) fun t37_75 H_76 =>
  condR t37_75 (afterD (twice [0, 1, 3, 7, 0, 0, 32, 96, 224, 224, 511] (p14_l0_d1 b cf t0_18 t8_44 t7_36) H_76) fun vs_100 H_101 =>
  un0 vs_100 (bindE (mBin (cfg b) 3 true .add t21_28 (AV.c (.int .i64 1)) H_101) fun t48_102 H_103 =>
  some (LStep.cont [t0_18, t1_20, t4_22, t19_24, t20_26, t48_102], H_103))) (bindE (mBin (cfg b) 3 true .add t21_28 (AV.c (.int .i64 1)) H_76) fun t48_104 H_105 =>
  some (LStep.cont [t0_18, t1_20, t4_22, t19_24, t20_26, t48_104], H_105)))) (some (LStep.exit 0 [t1_20, t4_22], H_31)))
/-- (*ferryman/nodes.Base).Save -/
noncomputable def p14 (b : Bool) (cf : CallFn) (k : Nat) (t0 t1 : AV) (H : Heap) : Option (AV × Heap) :=
  bindE (mAlloc 34 (.arr 32 .u8 (List.replicate 32 0)) H) fun t4_0 H_1 =>
  bindE (mBin (cfg b) 26 true .eql t0 (AV.c .nilp) H_1) fun t12_2 H_3 =>
  bindE (guardR (wantR false t12_2) (some (t1, H_3)) H_3) fun t14_4 H_5 =>
  bindE (guardR (wantR false t12_2) (mBin (cfg b) 25 true .eql t14_4 (AV.c .nilp) H_5) H_5) fun t15_6 H_7 =>
  bindE (mPick t12_2 (AV.c (.bool true)) t15_6 H_7) fun t16_8 H_9 =>
  condR t16_8 (bindE (mBuildA 32 .u8 (List.replicate 32 0) [] H_9) fun t17_10 H_11 =>
  bindE (mStore true 32 t4_0 t17_10 H_11) fun u_12 H_13 =>
  endQ (cfg b) false k (resC1 (mld true 32 H_13 t4_0) (resC1 (some (AV.c (.int .i64 1))) (some []))) H_13) (bindE (cf 6 [t1] H_9) fun t19_14 H_15 =>
  bindE (mLenSl t19_14 H_15) fun t20_16 H_17 =>
  afterL 0 (loopX k (p14_l0 b cf k) [t0, t1, t4_0, t19_14, t20_16, (AV.c (.int .i64 0))] H_17) (fun vs_106 H_107 =>
  un vs_106 fun t1_108 vs_109 => un vs_109 fun t4_110 vs_111 => un0 vs_111 (bindE (cf 17 [t1_108] H_107) fun t50_112 H_113 =>
  bindE (mStore true 32 t4_110 t50_112 H_113) fun u_114 H_115 =>
  endQ (cfg b) false k (resC1 (mld true 32 H_115 t4_110) (resC1 (some (AV.c (.int .i64 0))) (some []))) H_115)) (fun vs_106 H_107 => un vs_106 fun t1_116 vs_117 => un vs_117 fun t4_118 vs_119 => un0 vs_119 (endQ (cfg b) false k (resC1 (mld true 32 H_107 t4_118) (resC1 (some AV.any) (some []))) H_107)))
/-- (*ferryman/nodes.Base).Get -/
noncomputable def p23_d0 (b : Bool) (cf : CallFn) (t0 t3_0 : AV) (H_4 : Heap) : Option ((List AV × List Trail) × Heap) :=
  bindE (drawM (some t0) H_4) fun t11_5 H_6 =>
  bindE (drawR true [t11_5.1] (fun F => mNil t11_5.1 F) H_6) fun t12_7 H_8 =>
  bindE (drawR true [t12_7.1] (fun F => mFA 0 0 t12_7.1 F) H_8) fun t13_9 H_10 =>
  bindE (drawR true [t13_9.1] (fun F => mLoad false 1 t13_9.1 F) H_10) fun t14_11 H_12 =>
  bindE (drawR true [t3_0] (fun F => mLoad true 32 t3_0 F) H_12) fun t15_13 H_14 =>
  bindE (drawR true [t14_11.1, t15_13.1] (fun F => mLookup (cfg b) 34 .nilsl true t14_11.1 t15_13.1 F) H_14) fun t16_15 H_16 =>
  bindE (drawM (some t16_15.1) H_16) fun t10_17 H_18 =>
  bindE (drawR true [t10_17.1] (fun F => mExtract 0 t10_17.1 F) H_18) fun t17_19 H_20 =>
  bindE (drawR true [t10_17.1] (fun F => mExtract 1 t10_17.1 F) H_20) fun t18_21 H_22 =>
  bindE (drawM (some t17_19.1) H_22) fun t6_23 H_24 =>
  bindE (drawM (some t18_21.1) H_24) fun t7_25 H_26 =>
  some (([t6_23.1, t7_25.1], [t11_5.2, t12_7.2, t13_9.2, t14_11.2, t15_13.2, t16_15.2, t10_17.2, t17_19.2, t18_21.2, t6_23.2, t7_25.2]), H_26)
noncomputable def p23 (b : Bool) (cf : CallFn) (k : Nat) (t0 t1 : AV) (H : Heap) : Option (AV × Heap) :=
  bindE (mBox 34 t1 H) fun t3_0 H_1 =>
  bindE (mBin (cfg b) 26 true .eql t0 (AV.c .nilp) H_1) fun t9_2 H_3 =>
  condR t9_2 (endQ (cfg b) true k (resC1 (some (AV.c .nilsl)) (resC1 (some (AV.c (.bool false))) (some []))) H_3) (afterD (twice [0, 1, 3, 7, 0, 31, 63, 127, 127, 255, 1023] (p23_d0 b cf t0 t3_0) H_3) fun vs_27 H_28 =>
  un vs_27 fun t6_29 vs_30 => un vs_30 fun t7_31 vs_32 => un0 vs_32 (bindE (mBuildSl 5 1 (.int .u8 0) 0 [] H_28) fun t19_33 H_34 =>
  bindE (mAppend 5 1 1 false t19_33 t6_29 H_34) fun t21_35 H_36 =>
  endQ (cfg b) true k (resC1 (some t21_35) (resC1 (some t7_31) (some []))) H_36))
/-- ferryman/nodes.Encode -/
noncomputable def p28 (b : Bool) (cf : CallFn) (k : Nat) (t0 : AV) (H : Heap) : Option (AV × Heap) :=
  bindE (mBox 38 t0 H) fun t1_0 H_1 =>
  bindE (mFA 0 0 t1_0 H_1) fun t7_2 H_3 =>
  bindE (mLoad false 1 t7_2 H_3) fun t8_4 H_5 =>
  bindE (mLenSl t8_4 H_5) fun t9_6 H_7 =>
  bindE (mBin (cfg b) 3 true .eql t9_6 (AV.c (.int .i64 0)) H_7) fun t10_8 H_9 =>
  bindE (guardR (wantR false t10_8) (mFA 0 0 t1_0 H_9) H_9) fun t12_10 H_11 =>
  bindE (guardR (wantR false t10_8) (mLoad false 1 t12_10 H_11) H_11) fun t13_12 H_13 =>
  bindE (guardR (wantR false t10_8) (mLenSl t13_12 H_13) H_13) fun t14_14 H_15 =>
  bindE (guardR (wantR false t10_8) (mBin (cfg b) 3 true .gtr t14_14 (AV.c (.int .i64 96)) H_15) H_15) fun t15_16 H_17 =>
  bindE (mPick t10_8 (AV.c (.bool true)) t15_16 H_17) fun t16_18 H_19 =>
  condR t16_18 (endQ (cfg b) false k (resC1 (some (AV.c .nilsl)) (resC1 (some (AV.c (.int .i64 10))) (some []))) H_19) (bindE (mFA 2 2 t1_0 H_19) fun t18_20 H_21 =>
  bindE (mLoad false 1 t18_20 H_21) fun t19_22 H_23 =>
  bindE (mBin (cfg b) 3 true .lss t19_22 (AV.c (.int .i64 0)) H_23) fun t20_24 H_25 =>
  bindE (guardR (wantR false t20_24) (mFA 2 2 t1_0 H_25) H_25) fun t22_26 H_27 =>
  bindE (guardR (wantR false t20_24) (mLoad false 1 t22_26 H_27) H_27) fun t23_28 H_29 =>
  bindE (guardR (wantR false t20_24) (mBin (cfg b) 3 true .gtr t23_28 (AV.c (.int .i64 64)) H_29) H_29) fun t24_30 H_31 =>
  bindE (mPick t20_24 (AV.c (.bool true)) t24_30 H_31) fun t25_32 H_33 =>
  bindE (guardR (wantR false t25_32) (mFA 2 2 t1_0 H_33) H_33) fun t27_34 H_35 =>
  bindE (guardR (wantR false t25_32) (mLoad false 1 t27_34 H_35) H_35) fun t28_36 H_37 =>
  bindE (guardR (wantR false t25_32) (mBin (cfg b) 3 true .gtr t28_36 (AV.c (.int .i64 0)) H_37) H_37) fun t29_38 H_39 =>
  bindE (guardR (wantR false t25_32) (some (t29_38, H_39)) H_39) fun t30_40 H_41 =>
  bindE (guardR (wantR true t30_40) (mFA 1 1 t1_0 H_41) H_41) fun t31_42 H_43 =>
  bindE (guardR (wantR true t30_40) (mLoad false 1 t31_42 H_43) H_43) fun t32_44 H_45 =>
  bindE (guardR (wantR true t30_40) (mLenSl t32_44 H_45) H_45) fun t33_46 H_47 =>
  bindE (guardR (wantR true t30_40) (mBin (cfg b) 3 true .gtr t33_46 (AV.c (.int .i64 0)) H_47) H_47) fun t34_48 H_49 =>
  bindE (guardR (wantR false t25_32) (mPick t30_40 t34_48 (AV.c (.bool false)) H_49) H_49) fun t35_50 H_51 =>
  bindE (mPick t25_32 (AV.c (.bool true)) t35_50 H_51) fun t36_52 H_53 =>
  bindE (guardR (wantR false t36_52) (mFA 1 1 t1_0 H_53) H_53) fun t38_54 H_55 =>
  bindE (guardR (wantR false t36_52) (mLoad false 1 t38_54 H_55) H_55) fun t39_56 H_57 =>
  bindE (guardR (wantR false t36_52) (mLenSl t39_56 H_57) H_57) fun t40_58 H_59 =>
  bindE (guardR (wantR false t36_52) (mBin (cfg b) 3 true .gtr t40_58 (AV.c (.int .i64 256)) H_59) H_59) fun t41_60 H_61 =>
  bindE (mPick t36_52 (AV.c (.bool true)) t41_60 H_61) fun t42_62 H_63 =>
  bindE (guardR (wantR false t42_62) (mFA 2 2 t1_0 H_63) H_63) fun t44_64 H_65 =>
  bindE (guardR (wantR false t42_62) (mLoad false 1 t44_64 H_65) H_65) fun t45_66 H_67 =>
  bindE (guardR (wantR false t42_62) (mBin (cfg b) 3 true .eql t45_66 (AV.c (.int .i64 0)) H_67) H_67) fun t46_68 H_69 =>
  bindE (guardR (wantR false t42_62) (some (t46_68, H_69)) H_69) fun t47_70 H_71 =>
  bindE (guardR (wantR true t47_70) (mFA 3 3 t1_0 H_71) H_71) fun t48_72 H_73 =>
  bindE (guardR (wantR true t47_70) (mLoad false 1 t48_72 H_73) H_73) fun t49_74 H_75 =>
  bindE (guardR (wantR true t47_70) (mBin (cfg b) 36 true .neq t49_74 (AV.c (.int .u64 1)) H_75) H_75) fun t50_76 H_77 =>
  bindE (guardR (wantR true t47_70) (some (t50_76, H_77)) H_77) fun t51_78 H_79 =>
  bindE (guardR (wantR false t51_78) (mFA 4 4 t1_0 H_79) H_79) fun t52_80 H_81 =>
  bindE (guardR (wantR false t51_78) (mLoad true 32 t52_80 H_81) H_81) fun t53_82 H_83 =>
  bindE (guardR (wantR false t51_78) (mBuildA 32 .u8 (List.replicate 32 0) [] H_83) H_83) fun t54_84 H_85 =>
  bindE (guardR (wantR false t51_78) (mBin (cfg b) 34 false .neq t53_82 t54_84 H_85) H_85) fun t55_86 H_87 =>
  bindE (guardR (wantR true t47_70) (mPick t51_78 (AV.c (.bool true)) t55_86 H_87) H_87) fun t56_88 H_89 =>
  bindE (guardR (wantR true t47_70) (some (t56_88, H_89)) H_89) fun t57_90 H_91 =>
  bindE (guardR (wantR false t57_90) (mFA 5 36 t1_0 H_91) H_91) fun t58_92 H_93 =>
  bindE (guardR (wantR false t57_90) (mLoad true 32 t58_92 H_93) H_93) fun t59_94 H_95 =>
  bindE (guardR (wantR false t57_90) (mBuildA 32 .u8 (List.replicate 32 0) [] H_95) H_95) fun t60_96 H_97 =>
  bindE (guardR (wantR false t57_90) (mBin (cfg b) 34 false .neq t59_94 t60_96 H_97) H_97) fun t61_98 H_99 =>
  bindE (guardR (wantR true t47_70) (mPick t57_90 (AV.c (.bool true)) t61_98 H_99) H_99) fun t62_100 H_101 =>
  bindE (guardR (wantR false t42_62) (mPick t47_70 t62_100 (AV.c (.bool false)) H_101) H_101) fun t63_102 H_103 =>
  bindE (mPick t42_62 (AV.c (.bool true)) t63_102 H_103) fun t64_104 H_105 =>
  condR t64_104 (endQ (cfg b) false k (resC1 (some (AV.c .nilsl)) (resC1 (some (AV.c (.int .i64 12))) (some []))) H_105) (bindE (mAlloc 23 .nilsl H_105) fun t4_106 H_107 =>
  bindE (mFA 0 0 t1_0 H_107) fun t67_108 H_109 =>
  bindE (mLoad false 1 t67_108 H_109) fun t68_110 H_111 =>
  bindE (mCallV cf (AV.fn 46 [t4_106]) [(AV.c (.int .u8 1)), t68_110] H_111) fun t69_112 H_113 =>
  bindE (mFA 1 1 t1_0 H_113) fun t71_114 H_115 =>
  bindE (mLoad false 1 t71_114 H_115) fun t72_116 H_117 =>
  bindE (mCallV cf (AV.fn 46 [t4_106]) [(AV.c (.int .u8 2)), t72_116] H_117) fun t73_118 H_119 =>
  bindE (mFA 2 2 t1_0 H_119) fun t75_120 H_121 =>
  bindE (mLoad false 1 t75_120 H_121) fun t76_122 H_123 =>
  bindE (mConvI .u64 t76_122 H_123) fun t77_124 H_125 =>
  bindE (cf 48 [t77_124] H_125) fun t78_126 H_127 =>
  bindE (mCallV cf (AV.fn 46 [t4_106]) [(AV.c (.int .u8 3)), t78_126] H_127) fun t79_128 H_129 =>
  bindE (mFA 2 2 t1_0 H_129) fun t80_130 H_131 =>
  bindE (mLoad false 1 t80_130 H_131) fun t81_132 H_133 =>
  bindE (mBin (cfg b) 3 true .gtr t81_132 (AV.c (.int .i64 0)) H_133) fun t82_134 H_135 =>
  condR t82_134 (bindE (mFA 3 3 t1_0 H_135) fun t84_136 H_137 =>
  bindE (mLoad false 1 t84_136 H_137) fun t85_138 H_139 =>
  bindE (cf 48 [t85_138] H_139) fun t86_140 H_141 =>
  bindE (mCallV cf (AV.fn 46 [t4_106]) [(AV.c (.int .u8 4)), t86_140] H_141) fun t87_142 H_143 =>
  bindE (mFA 4 4 t1_0 H_143) fun t89_144 H_145 =>
  bindE (mSliceArr 32 t89_144 none none H_145) fun t90_146 H_147 =>
  bindE (mCallV cf (AV.fn 46 [t4_106]) [(AV.c (.int .u8 5)), t90_146] H_147) fun t91_148 H_149 =>
  bindE (mFA 5 36 t1_0 H_149) fun t93_150 H_151 =>
  bindE (mSliceArr 32 t93_150 none none H_151) fun t94_152 H_153 =>
  bindE (mCallV cf (AV.fn 46 [t4_106]) [(AV.c (.int .u8 6)), t94_152] H_153) fun t95_154 H_155 =>
  bindE (mLoad false 1 t4_106 H_155) fun t96_156 H_157 =>
  endQ (cfg b) false k (resC1 (some t96_156) (resC1 (some (AV.c (.int .i64 0))) (some []))) H_157) (bindE (mLoad false 1 t4_106 H_135) fun t96_158 H_159 =>
  endQ (cfg b) false k (resC1 (some t96_158) (resC1 (some (AV.c (.int .i64 0))) (some []))) H_159)))
/-- ferryman/nodes.Encode$1 -/
noncomputable def p46 (b : Bool) (cf : CallFn) (k : Nat) (t0 t1 t2 : AV) (H : Heap) : Option (AV × Heap) :=
  bindE (mLoad false 1 t2 H) fun t6_0 H_1 =>
  bindE (cf 47 [t6_0, t0, t1] H_1) fun t9_2 H_3 =>
  bindE (mExtract 0 t9_2 H_3) fun t10_4 H_5 =>
  bindE (mExtract 1 t9_2 H_5) fun t11_6 H_7 =>
  bindE (mStore false 1 t2 t10_4 H_7) fun u_8 H_9 =>
  endQ (cfg b) false k (some []) H_9
theorem p13_eq (b : Bool) (cf : CallFn) (H : Heap) : runG (cfg b) cf An 13 [] H = p13 b cf H.length  H := by kernel_rfl
theorem p14_eq (b : Bool) (cf : CallFn) (t0 t1 : AV) (H : Heap) : runG (cfg b) cf An 14 [t0, t1] H = p14 b cf H.length t0 t1 H := by kernel_rfl
theorem p23_eq (b : Bool) (cf : CallFn) (t0 t1 : AV) (H : Heap) : runG (cfg b) cf An 23 [t0, t1] H = p23 b cf H.length t0 t1 H := by kernel_rfl
theorem p28_eq (b : Bool) (cf : CallFn) (t0 : AV) (H : Heap) : runG (cfg b) cf An 28 [t0] H = p28 b cf H.length t0 H := by kernel_rfl
theorem p46_eq (b : Bool) (cf : CallFn) (t0 t1 t2 : AV) (H : Heap) : runG (cfg b) cf An 46 [t0, t1, t2] H = p46 b cf H.length t0 t1 t2 H := by kernel_rfl
end Go.Fm
/-
  What the interpreter does to functions, without slots and types; the kernel holds it against the code.
-/
set_option maxRecDepth 100000
set_option linter.unusedVariables false
namespace Go.Fm
open Go Go.Proofs
noncomputable def p24_l0 (b : Bool) (cf : CallFn) (k : Nat) (s : List AV) (H : Heap) : Option (LStep × Heap) :=
  un s fun t0_22 vs_23 => un vs_23 fun t2_24 vs_25 => un vs_25 fun t6_26 vs_27 => un vs_27 fun t22_28 vs_29 => un vs_29 fun t23_30 vs_31 => un vs_31 fun t24_32 vs_33 => un0 vs_33 (bindE (mBin (cfg b) 3 false .lss t24_32 t23_30 H) fun t25_34 H_35 =>
  condR t25_34 (bindE (mIdxS 2 t22_28 t24_32 H_35) fun t26_36 H_37 =>
  bindE (mLoad true 2 t26_36 H_37) fun t27_38 H_39 =>
  bindE (mAlloc 105 (.agg [(.int .u8 0), .nilsl]) H_39) fun t8_40 H_41 =>
  bindE (mStore true 2 t8_40 t27_38 H_41) fun u_42 H_43 =>
  bindE (mFA 0 0 t8_40 H_43) fun t28_44 H_45 =>
  bindE (mLoad false 1 t28_44 H_45) fun t29_46 H_47 =>
  bindE (mBin (cfg b) 5 true .eql t29_46 (AV.c (.int .u8 1)) H_47) fun t32_48 H_49 =>
  condR t32_48 (bindE (mFA 1 1 t8_40 H_49) fun t33_50 H_51 =>
  bindE (mLoad false 1 t33_50 H_51) fun t34_52 H_53 =>
  bindE (mFA 0 0 t6_26 H_53) fun t35_54 H_55 =>
  bindE (mStore false 1 t35_54 t34_52 H_55) fun u_56 H_57 =>
  bindE (mBin (cfg b) 3 true .add t24_32 (AV.c (.int .i64 1)) H_57) fun t84_58 H_59 =>
  some (LStep.cont [t0_22, t2_24, t6_26, t22_28, t23_30, t84_58], H_59)) (bindE (mBin (cfg b) 5 true .eql t29_46 (AV.c (.int .u8 2)) H_49) fun t37_60 H_61 =>
  condR t37_60 (bindE (mFA 1 1 t8_40 H_61) fun t38_62 H_63 =>
  bindE (mLoad false 1 t38_62 H_63) fun t39_64 H_65 =>
  bindE (mFA 1 1 t6_26 H_65) fun t40_66 H_67 =>
  bindE (mStore false 1 t40_66 t39_64 H_67) fun u_68 H_69 =>
  bindE (mBin (cfg b) 3 true .add t24_32 (AV.c (.int .i64 1)) H_69) fun t84_70 H_71 =>
  some (LStep.cont [t0_22, t2_24, t6_26, t22_28, t23_30, t84_70], H_71)) (bindE (mBin (cfg b) 5 true .eql t29_46 (AV.c (.int .u8 3)) H_61) fun t42_72 H_73 =>
  condR t42_72 (condR t42_72 (bindE (mFA 1 1 t8_40 H_73) fun t45_74 H_75 =>
  bindE (mLoad false 1 t45_74 H_75) fun t46_76 H_77 =>
  bindE (cf 40 [t46_76] H_77) fun t47_78 H_79 =>
  bindE (mExtract 0 t47_78 H_79) fun t48_80 H_81 =>
  bindE (mExtract 1 t47_78 H_81) fun t49_82 H_83 =>
  bindE (mBin (cfg b) 28 true .neq t49_82 (AV.c (.int .i64 0)) H_83) fun t51_84 H_85 =>
  condR t51_84 (bindE (mBuildS [.nilsl, .nilsl, (.int .i64 0), (.int .u64 0), (.arr 32 .u8 (List.replicate 32 0)), (.arr 32 .u8 (List.replicate 32 0))] [] H_85) fun t52_86 H_87 =>
  bindE (mStore true 68 t2_24 t52_86 H_87) fun u_88 H_89 =>
  some (LStep.ret [t0_22, t2_24, t49_82, t6_26], H_89)) (bindE (mFA 0 0 t8_40 H_85) fun t54_90 H_91 =>
  bindE (mLoad false 1 t54_90 H_91) fun t55_92 H_93 =>
  bindE (mBin (cfg b) 5 true .eql t55_92 (AV.c (.int .u8 4)) H_93) fun t56_94 H_95 =>
  condR t56_94 (bindE (mFA 3 3 t6_26 H_95) fun t58_96 H_97 =>
  bindE (mStore false 1 t58_96 t48_80 H_97) fun u_98 H_99 =>
  bindE (mBin (cfg b) 3 true .add t24_32 (AV.c (.int .i64 1)) H_99) fun t84_100 H_101 =>
  some (LStep.cont [t0_22, t2_24, t6_26, t22_28, t23_30, t84_100], H_101)) (bindE (mMin [t48_80, (AV.c (.int .u64 65))] H_95) fun t60_102 H_103 =>
  bindE (mConvI .i64 t60_102 H_103) fun t61_104 H_105 =>
  bindE (mFA 2 2 t6_26 H_105) fun t62_106 H_107 =>
  bindE (mStore false 1 t62_106 t61_104 H_107) fun u_108 H_109 =>
  bindE (mBin (cfg b) 3 true .add t24_32 (AV.c (.int .i64 1)) H_109) fun t84_110 H_111 =>
  some (LStep.cont [t0_22, t2_24, t6_26, t22_28, t23_30, t84_110], H_111)))) (bindE (mBin (cfg b) 5 true .eql t29_46 (AV.c (.int .u8 5)) H_73) fun t64_112 H_113 =>
  condR t64_112 (condR t64_112 (bindE (mFA 1 1 t8_40 H_113) fun t66_114 H_115 =>
  bindE (mLoad false 1 t66_114 H_115) fun t67_116 H_117 =>
  bindE (mLenSl t67_116 H_117) fun t68_118 H_119 =>
  bindE (mBin (cfg b) 3 true .neq t68_118 (AV.c (.int .i64 32)) H_119) fun t69_120 H_121 =>
  condR t69_120 (bindE (mBuildS [.nilsl, .nilsl, (.int .i64 0), (.int .u64 0), (.arr 32 .u8 (List.replicate 32 0)), (.arr 32 .u8 (List.replicate 32 0))] [] H_121) fun t70_122 H_123 =>
  bindE (mStore true 68 t2_24 t70_122 H_123) fun u_124 H_125 =>
  some (LStep.ret [t0_22, t2_24, (AV.c (.int .i64 7)), t6_26], H_125)) (bindE (mFA 0 0 t8_40 H_121) fun t71_126 H_127 =>
  bindE (mLoad false 1 t71_126 H_127) fun t72_128 H_129 =>
  bindE (mBin (cfg b) 5 true .eql t72_128 (AV.c (.int .u8 5)) H_129) fun t73_130 H_131 =>
  condR t73_130 (bindE (mFA 1 1 t8_40 H_131) fun t74_132 H_133 =>
  bindE (mLoad false 1 t74_132 H_133) fun t75_134 H_135 =>
  bindE (mArrAt 32 .u8 t75_134 H_135) fun t76_136 H_137 =>
  bindE (mLoad true 32 t76_136 H_137) fun t77_138 H_139 =>
  bindE (mFA 4 4 t6_26 H_139) fun t78_140 H_141 =>
  bindE (mStore true 32 t78_140 t77_138 H_141) fun u_142 H_143 =>
  bindE (mBin (cfg b) 3 true .add t24_32 (AV.c (.int .i64 1)) H_143) fun t84_144 H_145 =>
  some (LStep.cont [t0_22, t2_24, t6_26, t22_28, t23_30, t84_144], H_145)) (bindE (mFA 1 1 t8_40 H_131) fun t79_146 H_147 =>
  bindE (mLoad false 1 t79_146 H_147) fun t80_148 H_149 =>
  bindE (mArrAt 32 .u8 t80_148 H_149) fun t81_150 H_151 =>
  bindE (mLoad true 32 t81_150 H_151) fun t82_152 H_153 =>
  bindE (mFA 5 36 t6_26 H_153) fun t83_154 H_155 =>
  bindE (mStore true 32 t83_154 t82_152 H_155) fun u_156 H_157 =>
  bindE (mBin (cfg b) 3 true .add t24_32 (AV.c (.int .i64 1)) H_157) fun t84_158 H_159 =>
  some (LStep.cont [t0_22, t2_24, t6_26, t22_28, t23_30, t84_158], H_159)))) (bindE (mBuildS [.nilsl, .nilsl, (.int .i64 0), (.int .u64 0), (.arr 32 .u8 (List.replicate 32 0)), (.arr 32 .u8 (List.replicate 32 0))] [] H_113) fun t30_160 H_161 =>
  bindE (mStore true 68 t2_24 t30_160 H_161) fun u_162 H_163 =>
  some (LStep.ret [t0_22, t2_24, (AV.c (.int .i64 8)), t6_26], H_163))) (bindE (mBin (cfg b) 5 true .eql t29_46 (AV.c (.int .u8 6)) H_113) fun t65_164 H_165 =>
  condR t65_164 (bindE (mFA 1 1 t8_40 H_165) fun t66_166 H_167 =>
  bindE (mLoad false 1 t66_166 H_167) fun t67_168 H_169 =>
  bindE (mLenSl t67_168 H_169) fun t68_170 H_171 =>
  bindE (mBin (cfg b) 3 true .neq t68_170 (AV.c (.int .i64 32)) H_171) fun t69_172 H_173 =>
  condR t69_172 (bindE (mBuildS [.nilsl, .nilsl, (.int .i64 0), (.int .u64 0), (.arr 32 .u8 (List.replicate 32 0)), (.arr 32 .u8 (List.replicate 32 0))] [] H_173) fun t70_174 H_175 =>
  bindE (mStore true 68 t2_24 t70_174 H_175) fun u_176 H_177 =>
  some (LStep.ret [t0_22, t2_24, (AV.c (.int .i64 7)), t6_26], H_177)) (bindE (mFA 0 0 t8_40 H_173) fun t71_178 H_179 =>
  bindE (mLoad false 1 t71_178 H_179) fun t72_180 H_181 =>
  bindE (mBin (cfg b) 5 true .eql t72_180 (AV.c (.int .u8 5)) H_181) fun t73_182 H_183 =>
  condR t73_182 (bindE (mFA 1 1 t8_40 H_183) fun t74_184 H_185 =>
  bindE (mLoad false 1 t74_184 H_185) fun t75_186 H_187 =>
  bindE (mArrAt 32 .u8 t75_186 H_187) fun t76_188 H_189 =>
  bindE (mLoad true 32 t76_188 H_189) fun t77_190 H_191 =>
  bindE (mFA 4 4 t6_26 H_191) fun t78_192 H_193 =>
  bindE (mStore true 32 t78_192 t77_190 H_193) fun u_194 H_195 =>
  bindE (mBin (cfg b) 3 true .add t24_32 (AV.c (.int .i64 1)) H_195) fun t84_196 H_197 =>
  some (LStep.cont [t0_22, t2_24, t6_26, t22_28, t23_30, t84_196], H_197)) (bindE (mFA 1 1 t8_40 H_183) fun t79_198 H_199 =>
  bindE (mLoad false 1 t79_198 H_199) fun t80_200 H_201 =>
  bindE (mArrAt 32 .u8 t80_200 H_201) fun t81_202 H_203 =>
  bindE (mLoad true 32 t81_202 H_203) fun t82_204 H_205 =>
  bindE (mFA 5 36 t6_26 H_205) fun t83_206 H_207 =>
  bindE (mStore true 32 t83_206 t82_204 H_207) fun u_208 H_209 =>
  bindE (mBin (cfg b) 3 true .add t24_32 (AV.c (.int .i64 1)) H_209) fun t84_210 H_211 =>
  some (LStep.cont [t0_22, t2_24, t6_26, t22_28, t23_30, t84_210], H_211)))) (bindE (mBuildS [.nilsl, .nilsl, (.int .i64 0), (.int .u64 0), (.arr 32 .u8 (List.replicate 32 0)), (.arr 32 .u8 (List.replicate 32 0))] [] H_165) fun t30_212 H_213 =>
  bindE (mStore true 68 t2_24 t30_212 H_213) fun u_214 H_215 =>
  some (LStep.ret [t0_22, t2_24, (AV.c (.int .i64 8)), t6_26], H_215))))) (bindE (mBin (cfg b) 5 true .eql t29_46 (AV.c (.int .u8 4)) H_73) fun t43_216 H_217 =>
  condR t43_216 (bindE (mFA 1 1 t8_40 H_217) fun t45_218 H_219 =>
  bindE (mLoad false 1 t45_218 H_219) fun t46_220 H_221 =>
  bindE (cf 40 [t46_220] H_221) fun t47_222 H_223 =>
  bindE (mExtract 0 t47_222 H_223) fun t48_224 H_225 =>
  bindE (mExtract 1 t47_222 H_225) fun t49_226 H_227 =>
  bindE (mBin (cfg b) 28 true .neq t49_226 (AV.c (.int .i64 0)) H_227) fun t51_228 H_229 =>
  condR t51_228 (bindE (mBuildS [.nilsl, .nilsl, (.int .i64 0), (.int .u64 0), (.arr 32 .u8 (List.replicate 32 0)), (.arr 32 .u8 (List.replicate 32 0))] [] H_229) fun t52_230 H_231 =>
  bindE (mStore true 68 t2_24 t52_230 H_231) fun u_232 H_233 =>
  some (LStep.ret [t0_22, t2_24, t49_226, t6_26], H_233)) (bindE (mFA 0 0 t8_40 H_229) fun t54_234 H_235 =>
  bindE (mLoad false 1 t54_234 H_235) fun t55_236 H_237 =>
  bindE (mBin (cfg b) 5 true .eql t55_236 (AV.c (.int .u8 4)) H_237) fun t56_238 H_239 =>
  condR t56_238 (bindE (mFA 3 3 t6_26 H_239) fun t58_240 H_241 =>
  bindE (mStore false 1 t58_240 t48_224 H_241) fun u_242 H_243 =>
  bindE (mBin (cfg b) 3 true .add t24_32 (AV.c (.int .i64 1)) H_243) fun t84_244 H_245 =>
  some (LStep.cont [t0_22, t2_24, t6_26, t22_28, t23_30, t84_244], H_245)) (bindE (mMin [t48_224, (AV.c (.int .u64 65))] H_239) fun t60_246 H_247 =>
  bindE (mConvI .i64 t60_246 H_247) fun t61_248 H_249 =>
  bindE (mFA 2 2 t6_26 H_249) fun t62_250 H_251 =>
  bindE (mStore false 1 t62_250 t61_248 H_251) fun u_252 H_253 =>
  bindE (mBin (cfg b) 3 true .add t24_32 (AV.c (.int .i64 1)) H_253) fun t84_254 H_255 =>
  some (LStep.cont [t0_22, t2_24, t6_26, t22_28, t23_30, t84_254], H_255)))) (bindE (mBin (cfg b) 5 true .eql t29_46 (AV.c (.int .u8 5)) H_217) fun t64_256 H_257 =>
  condR t64_256 (condR t64_256 (bindE (mFA 1 1 t8_40 H_257) fun t66_258 H_259 =>
  bindE (mLoad false 1 t66_258 H_259) fun t67_260 H_261 =>
  bindE (mLenSl t67_260 H_261) fun t68_262 H_263 =>
  bindE (mBin (cfg b) 3 true .neq t68_262 (AV.c (.int .i64 32)) H_263) fun t69_264 H_265 =>
  condR t69_264 (bindE (mBuildS [.nilsl, .nilsl, (.int .i64 0), (.int .u64 0), (.arr 32 .u8 (List.replicate 32 0)), (.arr 32 .u8 (List.replicate 32 0))] [] H_265) fun t70_266 H_267 =>
  bindE (mStore true 68 t2_24 t70_266 H_267) fun u_268 H_269 =>
  some (LStep.ret [t0_22, t2_24, (AV.c (.int .i64 7)), t6_26], H_269)) (bindE (mFA 0 0 t8_40 H_265) fun t71_270 H_271 =>
  bindE (mLoad false 1 t71_270 H_271) fun t72_272 H_273 =>
  bindE (mBin (cfg b) 5 true .eql t72_272 (AV.c (.int .u8 5)) H_273) fun t73_274 H_275 =>
  condR t73_274 (bindE (mFA 1 1 t8_40 H_275) fun t74_276 H_277 =>
  bindE (mLoad false 1 t74_276 H_277) fun t75_278 H_279 =>
  bindE (mArrAt 32 .u8 t75_278 H_279) fun t76_280 H_281 =>
  bindE (mLoad true 32 t76_280 H_281) fun t77_282 H_283 =>
  bindE (mFA 4 4 t6_26 H_283) fun t78_284 H_285 =>
  bindE (mStore true 32 t78_284 t77_282 H_285) fun u_286 H_287 =>
  bindE (mBin (cfg b) 3 true .add t24_32 (AV.c (.int .i64 1)) H_287) fun t84_288 H_289 =>
  some (LStep.cont [t0_22, t2_24, t6_26, t22_28, t23_30, t84_288], H_289)) (bindE (mFA 1 1 t8_40 H_275) fun t79_290 H_291 =>
  bindE (mLoad false 1 t79_290 H_291) fun t80_292 H_293 =>
  bindE (mArrAt 32 .u8 t80_292 H_293) fun t81_294 H_295 =>
  bindE (mLoad true 32 t81_294 H_295) fun t82_296 H_297 =>
  bindE (mFA 5 36 t6_26 H_297) fun t83_298 H_299 =>
  bindE (mStore true 32 t83_298 t82_296 H_299) fun u_300 H_301 =>
  bindE (mBin (cfg b) 3 true .add t24_32 (AV.c (.int .i64 1)) H_301) fun t84_302 H_303 =>
  some (LStep.cont [t0_22, t2_24, t6_26, t22_28, t23_30, t84_302], H_303)))) (bindE (mBuildS [.nilsl, .nilsl, (.int .i64 0), (.int .u64 0), (.arr 32 .u8 (List.replicate 32 0)), (.arr 32 .u8 (List.replicate 32 0))] [] H_257) fun t30_304 H_305 =>
  bindE (mStore true 68 t2_24 t30_304 H_305) fun u_306 H_307 =>
  some (LStep.ret [t0_22, t2_24, (AV.c (.int .i64 8)), t6_26], H_307))) (bindE (mBin (cfg b) 5 true .eql t29_46 (AV.c (.int .u8 6)) H_257) fun t65_308 H_309 =>
  condR t65_308 (bindE (mFA 1 1 t8_40 H_309) fun t66_310 H_311 =>
  bindE (mLoad false 1 t66_310 H_311) fun t67_312 H_313 =>
  bindE (mLenSl t67_312 H_313) fun t68_314 H_315 =>
  bindE (mBin (cfg b) 3 true .neq t68_314 (AV.c (.int .i64 32)) H_315) fun t69_316 H_317 =>
  condR t69_316 (bindE (mBuildS [.nilsl, .nilsl, (.int .i64 0), (.int .u64 0), (.arr 32 .u8 (List.replicate 32 0)), (.arr 32 .u8 (List.replicate 32 0))] [] H_317) fun t70_318 H_319 =>
  bindE (mStore true 68 t2_24 t70_318 H_319) fun u_320 H_321 =>
  some (LStep.ret [t0_22, t2_24, (AV.c (.int .i64 7)), t6_26], H_321)) (bindE (mFA 0 0 t8_40 H_317) fun t71_322 H_323 =>
  bindE (mLoad false 1 t71_322 H_323) fun t72_324 H_325 =>
  bindE (mBin (cfg b) 5 true .eql t72_324 (AV.c (.int .u8 5)) H_325) fun t73_326 H_327 =>
  condR t73_326 (bindE (mFA 1 1 t8_40 H_327) fun t74_328 H_329 =>
  bindE (mLoad false 1 t74_328 H_329) fun t75_330 H_331 =>
  bindE (mArrAt 32 .u8 t75_330 H_331) fun t76_332 H_333 =>
  bindE (mLoad true 32 t76_332 H_333) fun t77_334 H_335 =>
  bindE (mFA 4 4 t6_26 H_335) fun t78_336 H_337 =>
  bindE (mStore true 32 t78_336 t77_334 H_337) fun u_338 H_339 =>
  bindE (mBin (cfg b) 3 true .add t24_32 (AV.c (.int .i64 1)) H_339) fun t84_340 H_341 =>
  some (LStep.cont [t0_22, t2_24, t6_26, t22_28, t23_30, t84_340], H_341)) (bindE (mFA 1 1 t8_40 H_327) fun t79_342 H_343 =>
  bindE (mLoad false 1 t79_342 H_343) fun t80_344 H_345 =>
  bindE (mArrAt 32 .u8 t80_344 H_345) fun t81_346 H_347 =>
  bindE (mLoad true 32 t81_346 H_347) fun t82_348 H_349 =>
  bindE (mFA 5 36 t6_26 H_349) fun t83_350 H_351 =>
  bindE (mStore true 32 t83_350 t82_348 H_351) fun u_352 H_353 =>
  bindE (mBin (cfg b) 3 true .add t24_32 (AV.c (.int .i64 1)) H_353) fun t84_354 H_355 =>
  some (LStep.cont [t0_22, t2_24, t6_26, t22_28, t23_30, t84_354], H_355)))) (bindE (mBuildS [.nilsl, .nilsl, (.int .i64 0), (.int .u64 0), (.arr 32 .u8 (List.replicate 32 0)), (.arr 32 .u8 (List.replicate 32 0))] [] H_309) fun t30_356 H_357 =>
  bindE (mStore true 68 t2_24 t30_356 H_357) fun u_358 H_359 =>
  some (LStep.ret [t0_22, t2_24, (AV.c (.int .i64 8)), t6_26], H_359)))))))) (some (LStep.exit 0 [t0_22, t2_24, AV.any, t6_26], H_35)))
/-- ferryman/nodes.Decode -/
noncomputable def p24 (b : Bool) (cf : CallFn) (k : Nat) (t0 : AV) (H : Heap) : Option (AV × Heap) :=
  bindE (mAlloc 38 (.agg [.nilsl, .nilsl, (.int .i64 0), (.int .u64 0), (.arr 32 .u8 (List.replicate 32 0)), (.arr 32 .u8 (List.replicate 32 0))]) H) fun t2_0 H_1 =>
  bindE (cf 39 [t0] H_1) fun t14_2 H_3 =>
  bindE (mExtract 0 t14_2 H_3) fun t15_4 H_5 =>
  bindE (mExtract 1 t14_2 H_5) fun t16_6 H_7 =>
  bindE (mBin (cfg b) 28 true .neq t16_6 (AV.c (.int .i64 0)) H_7) fun t18_8 H_9 =>
  condR t18_8 (bindE (mBuildS [.nilsl, .nilsl, (.int .i64 0), (.int .u64 0), (.arr 32 .u8 (List.replicate 32 0)), (.arr 32 .u8 (List.replicate 32 0))] [] H_9) fun t19_10 H_11 =>
  bindE (mStore true 68 t2_0 t19_10 H_11) fun u_12 H_13 =>
  endQ (cfg b) false k (resC1 (mld true 68 H_13 t2_0) (resC1 (some t16_6) (some []))) H_13) (bindE (mBuildS [.nilsl, .nilsl, (.int .i64 0), (.int .u64 0), (.arr 32 .u8 (List.replicate 32 0)), (.arr 32 .u8 (List.replicate 32 0))] [(3, (AV.c (.int .u64 1)))] H_9) fun t21_14 H_15 =>
  bindE (mAlloc 38 (.agg [.nilsl, .nilsl, (.int .i64 0), (.int .u64 0), (.arr 32 .u8 (List.replicate 32 0)), (.arr 32 .u8 (List.replicate 32 0))]) H_15) fun t6_16 H_17 =>
  bindE (mStore true 68 t6_16 t21_14 H_17) fun u_18 H_19 =>
  bindE (mLenSl t15_4 H_19) fun t23_20 H_21 =>
  afterL 0 (loopX k (p24_l0 b cf k) [t0, t2_0, t6_16, t15_4, t23_20, (AV.c (.int .i64 0))] H_21) (fun vs_360 H_361 =>
  un vs_360 fun t0_362 vs_363 => un vs_363 fun t2_364 vs_365 => un vs_365 fun t3_366 vs_367 => un vs_367 fun t6_368 vs_369 => un0 vs_369 (bindE (mLoad true 68 t6_368 H_361) fun t86_370 H_371 =>
  bindE (cf 28 [t86_370] H_371) fun t87_372 H_373 =>
  bindE (mExtract 0 t87_372 H_373) fun t88_374 H_375 =>
  bindE (mExtract 1 t87_372 H_375) fun t89_376 H_377 =>
  bindE (mBin (cfg b) 28 true .neq t89_376 (AV.c (.int .i64 0)) H_377) fun t92_378 H_379 =>
  condR t92_378 (bindE (mBuildS [.nilsl, .nilsl, (.int .i64 0), (.int .u64 0), (.arr 32 .u8 (List.replicate 32 0)), (.arr 32 .u8 (List.replicate 32 0))] [] H_379) fun t93_380 H_381 =>
  bindE (mStore true 68 t2_364 t93_380 H_381) fun u_382 H_383 =>
  endQ (cfg b) false k (resC1 (mld true 68 H_383 t2_364) (resC1 (some t89_376) (some []))) H_383) (bindE (mConvBS t88_374 H_379) fun t97_384 H_385 =>
  bindE (mConvBS t0_362 H_385) fun t99_386 H_387 =>
  bindE (mBin (cfg b) 9 false .neq t97_384 t99_386 H_387) fun t100_388 H_389 =>
  condR t100_388 (bindE (mBuildS [.nilsl, .nilsl, (.int .i64 0), (.int .u64 0), (.arr 32 .u8 (List.replicate 32 0)), (.arr 32 .u8 (List.replicate 32 0))] [] H_389) fun t101_390 H_391 =>
  bindE (mStore true 68 t2_364 t101_390 H_391) fun u_392 H_393 =>
  endQ (cfg b) false k (resC1 (mld true 68 H_393 t2_364) (resC1 (some (AV.c (.int .i64 7))) (some []))) H_393) (bindE (mLoad true 68 t6_368 H_389) fun t102_394 H_395 =>
  bindE (mStore true 68 t2_364 t102_394 H_395) fun u_396 H_397 =>
  endQ (cfg b) false k (resC1 (mld true 68 H_397 t2_364) (resC1 (some (AV.c (.int .i64 0))) (some []))) H_397)))) (fun vs_360 H_361 => un vs_360 fun t0_398 vs_399 => un vs_399 fun t2_400 vs_401 => un vs_401 fun t3_402 vs_403 => un vs_403 fun t6_404 vs_405 => un0 vs_405 (endQ (cfg b) false k (resC1 (mld true 68 H_361 t2_400) (resC1 (some t3_402) (some []))) H_361)))
noncomputable def p39_l0 (b : Bool) (cf : CallFn) (k : Nat) (s : List AV) (H : Heap) : Option (LStep × Heap) :=
  un s fun t0_0 vs_1 => un vs_1 fun t4_2 vs_3 => un0 vs_3 (bindE (mLenSl t0_0 H) fun t10_4 H_5 =>
  bindE (mBin (cfg b) 3 true .gtr t10_4 (AV.c (.int .i64 0)) H_5) fun t11_6 H_7 =>
  condR t11_6 (bindE (mIdxS 1 t0_0 (AV.c (.int .i64 0)) H_7) fun t13_8 H_9 =>
  bindE (mLoad false 1 t13_8 H_9) fun t14_10 H_11 =>
  bindE (mSliceSl 1 t0_0 (some (AV.c (.int .i64 1))) none H_11) fun t17_12 H_13 =>
  bindE (cf 52 [t17_12] H_13) fun t18_14 H_15 =>
  bindE (mExtract 0 t18_14 H_15) fun t19_16 H_17 =>
  bindE (mExtract 1 t18_14 H_17) fun t20_18 H_19 =>
  bindE (mExtract 2 t18_14 H_19) fun t21_20 H_21 =>
  bindE (mBin (cfg b) 28 true .neq t21_20 (AV.c (.int .i64 0)) H_21) fun t24_22 H_23 =>
  condR t24_22 (some (LStep.ret [(AV.c .nilsl), t21_20, t4_2], H_23)) (bindE (mLenSl t19_16 H_23) fun t28_24 H_25 =>
  bindE (mBin (cfg b) 3 true .eql t28_24 (AV.c (.int .i64 0)) H_25) fun t29_26 H_27 =>
  condR t29_26 (some (LStep.ret [(AV.c .nilsl), (AV.c (.int .i64 6)), t4_2], H_27)) (bindE (mLenSl t4_2 H_27) fun t32_28 H_29 =>
  bindE (mBin (cfg b) 3 true .gtr t32_28 (AV.c (.int .i64 0)) H_29) fun t33_30 H_31 =>
  bindE (guardR (wantR true t33_30) (some (t4_2, H_31)) H_31) fun t35_32 H_33 =>
  bindE (guardR (wantR true t33_30) (some (t4_2, H_33)) H_33) fun t36_34 H_35 =>
  bindE (guardR (wantR true t33_30) (mLenSl t36_34 H_35) H_35) fun t37_36 H_37 =>
  bindE (guardR (wantR true t33_30) (mBin (cfg b) 3 true .sub t37_36 (AV.c (.int .i64 1)) H_37) H_37) fun t38_38 H_39 =>
  bindE (guardR (wantR true t33_30) (mIdxS 2 t35_32 t38_38 H_39) H_39) fun t39_40 H_41 =>
  bindE (guardR (wantR true t33_30) (mFA 0 0 t39_40 H_41) H_41) fun t40_42 H_43 =>
  bindE (guardR (wantR true t33_30) (mLoad false 1 t40_42 H_43) H_43) fun t41_44 H_45 =>
  bindE (guardR (wantR true t33_30) (some (t14_10, H_45)) H_45) fun t42_46 H_47 =>
  bindE (guardR (wantR true t33_30) (mBin (cfg b) 5 false .geq t41_44 t42_46 H_47) H_47) fun t43_48 H_49 =>
  bindE (mPick t33_30 t43_48 (AV.c (.bool false)) H_49) fun t44_50 H_51 =>
  condR t44_50 (some (LStep.ret [(AV.c .nilsl), (AV.c (.int .i64 5)), t4_2], H_51)) (bindE (mBuildSl 5 1 (.int .u8 0) 0 [] H_51) fun t47_52 H_53 =>
  bindE (mAppend 5 1 1 false t47_52 t19_16 H_53) fun t49_54 H_55 =>
  bindE (mBuildS [(.int .u8 0), .nilsl] [(0, t14_10), (1, t49_54)] H_55) fun t50_56 H_57 =>
  bindE (mBuildSl 105 2 (.agg [(.int .u8 0), .nilsl]) 1 [(0, t50_56)] H_57) fun t51_58 H_59 =>
  bindE (mAppend 105 2 32 false t4_2 t51_58 H_59) fun t52_60 H_61 =>
  some (LStep.cont [t20_18, t52_60], H_61))))) (some (LStep.exit 0 [AV.any, AV.any, t4_2], H_7)))
/-- ferryman/tlv.Parse -/
noncomputable def p39 (b : Bool) (cf : CallFn) (k : Nat) (t0 : AV) (H : Heap) : Option (AV × Heap) :=
  afterL 0 (loopX k (p39_l0 b cf k) [t0, (AV.c .nilsl)] H) (fun vs_62 H_63 =>
  un vs_62 fun t2_64 vs_65 => un vs_65 fun t3_66 vs_67 => un vs_67 fun t4_68 vs_69 => un0 vs_69 (endQ (cfg b) false k (resC1 (some t4_68) (resC1 (some (AV.c (.int .i64 0))) (some []))) H_63)) (fun vs_62 H_63 => un vs_62 fun t2_70 vs_71 => un vs_71 fun t3_72 vs_73 => un vs_73 fun t4_74 vs_75 => un0 vs_75 (endQ (cfg b) false k (resC1 (some t2_70) (resC1 (some t3_72) (some []))) H_63))
noncomputable def p40_l0 (b : Bool) (cf : CallFn) (k : Nat) (s : List AV) (H : Heap) : Option (LStep × Heap) :=
  un s fun t4_26 vs_27 => un vs_27 fun t21_28 vs_29 => un vs_29 fun t22_30 vs_31 => un vs_31 fun t23_32 vs_33 => un0 vs_33 (bindE (mBin (cfg b) 3 false .lss t23_32 t22_30 H) fun t24_34 H_35 =>
  condR t24_34 (bindE (mIdxS 1 t21_28 t23_32 H_35) fun t25_36 H_37 =>
  bindE (mLoad false 1 t25_36 H_37) fun t26_38 H_39 =>
  bindE (mBin (cfg b) 36 true .shl t4_26 (AV.c (.int .u64 8)) H_39) fun t28_40 H_41 =>
  bindE (mConvI .u64 t26_38 H_41) fun t30_42 H_43 =>
  bindE (mBin (cfg b) 36 false .or t28_40 t30_42 H_43) fun t31_44 H_45 =>
  bindE (mBin (cfg b) 3 true .add t23_32 (AV.c (.int .i64 1)) H_45) fun t32_46 H_47 =>
  some (LStep.cont [t31_44, t21_28, t22_30, t32_46], H_47)) (some (LStep.exit 0 [t4_26], H_35)))
/-- ferryman/tlv.Value -/
noncomputable def p40 (b : Bool) (cf : CallFn) (k : Nat) (t0 : AV) (H : Heap) : Option (AV × Heap) :=
  bindE (mLenSl t0 H) fun t8_0 H_1 =>
  bindE (mBin (cfg b) 3 true .gtr t8_0 (AV.c (.int .i64 8)) H_1) fun t9_2 H_3 =>
  bindE (guardR (wantR false t9_2) (some (t0, H_3)) H_3) fun t11_4 H_5 =>
  bindE (guardR (wantR false t9_2) (mLenSl t11_4 H_5) H_5) fun t12_6 H_7 =>
  bindE (guardR (wantR false t9_2) (mBin (cfg b) 3 true .gtr t12_6 (AV.c (.int .i64 0)) H_7) H_7) fun t13_8 H_9 =>
  bindE (guardR (wantR false t9_2) (some (t13_8, H_9)) H_9) fun t14_10 H_11 =>
  bindE (guardR (wantR true t14_10) (some (t0, H_11)) H_11) fun t15_12 H_13 =>
  bindE (guardR (wantR true t14_10) (mIdxS 1 t15_12 (AV.c (.int .i64 0)) H_13) H_13) fun t16_14 H_15 =>
  bindE (guardR (wantR true t14_10) (mLoad false 1 t16_14 H_15) H_15) fun t17_16 H_17 =>
  bindE (guardR (wantR true t14_10) (mBin (cfg b) 5 true .eql t17_16 (AV.c (.int .u8 0)) H_17) H_17) fun t18_18 H_19 =>
  bindE (guardR (wantR false t9_2) (mPick t14_10 t18_18 (AV.c (.bool false)) H_19) H_19) fun t19_20 H_21 =>
  bindE (mPick t9_2 (AV.c (.bool true)) t19_20 H_21) fun t20_22 H_23 =>
  condR t20_22 (endQ (cfg b) false k (resC1 (some (AV.c (.int .u64 0))) (resC1 (some (AV.c (.int .i64 7))) (some []))) H_23) (bindE (mLenSl t0 H_23) fun t22_24 H_25 =>
  afterL 0 (loopX k (p40_l0 b cf k) [(AV.c (.int .u64 0)), t0, t22_24, (AV.c (.int .i64 0))] H_25) (fun vs_48 H_49 =>
  un vs_48 fun t4_50 vs_51 => un0 vs_51 (endQ (cfg b) false k (resC1 (some t4_50) (resC1 (some (AV.c (.int .i64 0))) (some []))) H_49)) (fun vs_48 H_49 => un vs_48 fun t4_52 vs_53 => un0 vs_53 (endQ (cfg b) false k (resC1 (some AV.any) (resC1 (some AV.any) (some []))) H_49)))
/-- ferryman/tlv.piece -/
noncomputable def p52_d0 (b : Bool) (cf : CallFn) (t0 : AV) (H_4 : Heap) : Option ((List AV × List Trail) × Heap) :=
  bindE (drawM (some t0) H_4) fun t9_5 H_6 =>
  bindE (drawR true [t9_5.1] (fun F => mIdxS 1 t9_5.1 (AV.c (.int .i64 0)) F) H_6) fun t10_7 H_8 =>
  bindE (drawR true [t10_7.1] (fun F => mLoad false 1 t10_7.1 F) H_8) fun t11_9 H_10 =>
  bindE (drawR true [t11_9.1] (fun F => mConvI .i64 t11_9.1 F) H_10) fun t12_11 H_12 =>
  bindE (drawR true [t12_11.1] (fun F => mBin (cfg b) 3 true .shl t12_11.1 (AV.c (.int .u64 8)) F) H_12) fun t13_13 H_14 =>
  bindE (drawM (some t0) H_14) fun t14_15 H_16 =>
  bindE (drawR true [t14_15.1] (fun F => mIdxS 1 t14_15.1 (AV.c (.int .i64 1)) F) H_16) fun t15_17 H_18 =>
  bindE (drawR true [t15_17.1] (fun F => mLoad false 1 t15_17.1 F) H_18) fun t16_19 H_20 =>
  bindE (drawR true [t16_19.1] (fun F => mConvI .i64 t16_19.1 F) H_20) fun t17_21 H_22 =>
  bindE (drawR true [t13_13.1, t17_21.1] (fun F => mBin (cfg b) 3 false .or t13_13.1 t17_21.1 F) H_22) fun t18_23 H_24 =>
  bindE (drawM (some t18_23.1) H_24) fun t5_25 H_26 =>
  some (([t5_25.1], [t9_5.2, t10_7.2, t11_9.2, t12_11.2, t13_13.2, t14_15.2, t15_17.2, t16_19.2, t17_21.2, t18_23.2, t5_25.2]), H_26)
noncomputable def p52_d1 (b : Bool) (cf : CallFn) (t20_31 t5_29 : AV) (H_37 : Heap) : Option ((List AV × List Trail) × Heap) :=
  bindE (drawM (some t20_31) H_37) fun t25_38 H_39 =>
  bindE (drawM (some t5_29) H_39) fun t26_40 H_41 =>
  bindE (drawR false [t25_38.1, t26_40.1] (fun F => mSliceSl 1 t25_38.1 none (some t26_40.1) F) H_41) fun t27_42 H_43 =>
  bindE (drawM (some t20_31) H_43) fun t28_44 H_45 =>
  bindE (drawM (some t5_29) H_45) fun t29_46 H_47 =>
  bindE (drawR false [t28_44.1, t29_46.1] (fun F => mSliceSl 1 t28_44.1 (some t29_46.1) none F) H_47) fun t30_48 H_49 =>
  bindE (drawM (some t27_42.1) H_49) fun t2_50 H_51 =>
  bindE (drawM (some t30_48.1) H_51) fun t3_52 H_53 =>
  bindE (drawM (some (AV.c (.int .i64 0))) H_53) fun t4_54 H_55 =>
  some (([t2_50.1, t3_52.1, t4_54.1], [t25_38.2, t26_40.2, t27_42.2, t28_44.2, t29_46.2, t30_48.2, t2_50.2, t3_52.2, t4_54.2]), H_55)
noncomputable def p52 (b : Bool) (cf : CallFn) (k : Nat) (t0 : AV) (H : Heap) : Option (AV × Heap) :=
  bindE (mLenSl t0 H) fun t7_0 H_1 =>
  bindE (mBin (cfg b) 3 true .lss t7_0 (AV.c (.int .i64 2)) H_1) fun t8_2 H_3 =>
  condR t8_2 (endQ (cfg b) false k (resC1 (some (AV.c .nilsl)) (resC1 (some (AV.c .nilsl)) (resC1 (some (AV.c (.int .i64 4))) (some [])))) H_3) (afterD (twice [0, 1, 3, 7, 15, 0, 32, 96, 224, 511, 1023] (p52_d0 b cf t0) H_3) fun vs_27 H_28 =>
  un vs_27 fun t5_29 vs_30 => un0 vs_30 (bindE (mSliceSl 1 t0 (some (AV.c (.int .i64 2))) none H_28) fun t20_31 H_32 =>
  bindE (mLenSl t20_31 H_32) fun t23_33 H_34 =>
  bindE (mBin (cfg b) 3 false .gtr t5_29 t23_33 H_34) fun t24_35 H_36 =>
  condR t24_35 (endQ (cfg b) false k (resC1 (some (AV.c .nilsl)) (resC1 (some (AV.c .nilsl)) (resC1 (some (AV.c (.int .i64 4))) (some [])))) H_36) (afterD (twice [0, 0, 3, 0, 0, 24, 7, 127, 255] (p52_d1 b cf t20_31 t5_29) H_36) fun vs_56 H_57 =>
  un vs_56 fun t2_58 vs_59 => un vs_59 fun t3_60 vs_61 => un vs_61 fun t4_62 vs_63 => un0 vs_63 (endQ (cfg b) false k (resC1 (some t2_58) (resC1 (some t3_60) (resC1 (some t4_62) (some [])))) H_57))))
theorem p24_eq (b : Bool) (cf : CallFn) (t0 : AV) (H : Heap) : runG (cfg b) cf An 24 [t0] H = p24 b cf H.length t0 H := by kernel_rfl
theorem p39_eq (b : Bool) (cf : CallFn) (t0 : AV) (H : Heap) : runG (cfg b) cf An 39 [t0] H = p39 b cf H.length t0 H := by kernel_rfl
theorem p40_eq (b : Bool) (cf : CallFn) (t0 : AV) (H : Heap) : runG (cfg b) cf An 40 [t0] H = p40 b cf H.length t0 H := by kernel_rfl
theorem p52_eq (b : Bool) (cf : CallFn) (t0 : AV) (H : Heap) : runG (cfg b) cf An 52 [t0] H = p52 b cf H.length t0 H := by kernel_rfl
end Go.Fm
