/-
  A part of the proof: DNodes.
-/
import Derived.Test.YtjmjijgnbjkpnaaDoorDAnn
set_option linter.all false
set_option autoImplicit true
/-
  What the interpreter does to functions, without slots and types; the kernel holds it against the code.
-/
set_option maxRecDepth 100000
set_option linter.unusedVariables false
namespace Go.Fm
open Go Go.Proofs

/-- ferryman/ferrymanlaw07.Awake -/
noncomputable def p68 (b : Bool) (cf : CallFn) (k : Nat) (H : Heap) : Option (AV × Heap) :=
  bindE (mBuildSl 5 1 (.int .u8 0) 1 [(0, (AV.c (.int .u8 97)))] H) fun t4_0 H_1 =>
  bindE (mConv0 t4_0 H_1) fun t5_2 H_3 =>
  bindE (mBuildSl 5 1 (.int .u8 0) 1 [(0, (AV.c (.int .u8 120)))] H_3) fun t6_4 H_5 =>
  bindE (mConv0 t6_4 H_5) fun t7_6 H_7 =>
  bindE (mBuildS [.nilsl, .nilsl, (.int .i64 0), (.int .u64 0), (.arr 32 .u8 (List.replicate 32 0)), (.arr 32 .u8 (List.replicate 32 0))] [(0, t5_2), (1, t7_6), (3, (AV.c (.int .u64 1)))] H_7) fun t8_8 H_9 =>
  bindE (cf 106 [t8_8] H_9) fun t9_10 H_11 =>
  bindE (mExtract 0 t9_10 H_11) fun t10_12 H_13 =>
  bindE (mExtract 1 t9_10 H_13) fun t11_14 H_15 =>
  bindE (mBin (cfg b) 25 true .eql t11_14 (AV.c (.int .i64 0)) H_15) fun t13_16 H_17 =>
  bindE (guardR (wantR true t13_16) (some (t10_12, H_17)) H_17) fun t15_18 H_19 =>
  bindE (guardR (wantR true t13_16) (mConvBS t15_18 H_19) H_19) fun t16_20 H_21 =>
  bindE (guardR (wantR true t13_16) (mBin (cfg b) 9 true .eql t16_20 (AV.c (.str ⟨#[1, 0, 1, 97, 2, 0, 1, 120]⟩)) H_21) H_21) fun t17_22 H_23 =>
  bindE (mPick t13_16 t17_22 (AV.c (.bool false)) H_23) fun t18_24 H_25 =>
  endQ (cfg b) false k (resC1 (some t18_24) (some [])) H_25

/-- ferryman/nodes.New -/
noncomputable def p69 (b : Bool) (cf : CallFn) (k : Nat) (H : Heap) : Option (AV × Heap) :=
  bindE (mMakeMap H) fun t1_0 H_1 =>
  bindE (mBuildS [.nilmap] [(0, t1_0)] H_1) fun t2_2 H_3 =>
  bindE (mBox 164 t2_2 H_3) fun t3_4 H_5 =>
  endQ (cfg b) false k (resC1 (some t3_4) (some [])) H_5

noncomputable def p70_l0_d0 (b : Bool) (cf : CallFn) (t0_18 t8_44 : AV) (H_48 : Heap) : Option ((List AV × List Trail) × Heap) :=
  bindE (drawM (some t0_18) H_48) fun t28_49 H_50 =>
  bindE (drawR true [t28_49.1] (fun F => mNil t28_49.1 F) H_50) fun t29_51 H_52 =>
  bindE (drawR true [t29_51.1] (fun F => mFA 0 0 t29_51.1 F) H_52) fun t30_53 H_54 =>
  bindE (drawR true [t30_53.1] (fun F => mLoad false 1 t30_53.1 F) H_54) fun t31_55 H_56 =>
  bindE (drawR true [t8_44] (fun F => mLoad true 32 t8_44 F) H_56) fun t32_57 H_58 =>
  bindE (drawR true [t31_55.1, t32_57.1] (fun F => mLookup (cfg b) 41 .nilsl true t31_55.1 t32_57.1 F) H_58) fun t33_59 H_60 =>
  bindE (drawM (some t33_59.1) H_60) fun t27_61 H_62 =>
  bindE (drawR true [t27_61.1] (fun F => mExtract 0 t27_61.1 F) H_62) fun t34_63 H_64 =>
  bindE (drawR true [t27_61.1] (fun F => mExtract 1 t27_61.1 F) H_64) fun t35_65 H_66 =>
  bindE (drawM (some t34_63.1) H_66) fun t9_67 H_68 =>
  bindE (drawM (some t35_65.1) H_68) fun t10_69 H_70 =>
  some (([t10_69.1], [t28_49.2, t29_51.2, t30_53.2, t31_55.2, t32_57.2, t33_59.2, t27_61.2, t34_63.2, t35_65.2, t9_67.2, t10_69.2]), H_70)
noncomputable def p70_l0_d1 (b : Bool) (cf : CallFn) (t0_18 t8_44 t7_36 : AV) (H_77 : Heap) : Option ((List AV × List Trail) × Heap) :=
  bindE (drawM (some t0_18) H_77) fun t39_78 H_79 =>
  bindE (drawR true [t39_78.1] (fun F => mNil t39_78.1 F) H_79) fun t40_80 H_81 =>
  bindE (drawR true [t40_80.1] (fun F => mFA 0 0 t40_80.1 F) H_81) fun t41_82 H_83 =>
  bindE (drawR true [t41_82.1] (fun F => mLoad false 1 t41_82.1 F) H_83) fun t42_84 H_85 =>
  bindE (drawR true [t8_44] (fun F => mLoad true 32 t8_44 F) H_85) fun t43_86 H_87 =>
  bindE (drawR true [t7_36] (fun F => mLoad true 68 t7_36 F) H_87) fun t44_88 H_89 =>
  bindE (drawR false [t44_88.1] (fun F => cf 106 [t44_88.1] F) H_89) fun t45_90 H_91 =>
  bindE (drawM (some t45_90.1) H_91) fun t38_92 H_93 =>
  bindE (drawR true [t38_92.1] (fun F => mExtract 0 t38_92.1 F) H_93) fun t46_94 H_95 =>
  bindE (drawR true [t38_92.1] (fun F => mExtract 1 t38_92.1 F) H_95) fun t47_96 H_97 =>
  bindE (drawR false [t42_84.1, t43_86.1, t46_94.1] (fun F => mMapUpd (cfg b) 41 t42_84.1 t43_86.1 t46_94.1 F) H_97) fun u_98 H_99 =>
  some (([], [t39_78.2, t40_80.2, t41_82.2, t42_84.2, t43_86.2, t44_88.2, t45_90.2, t38_92.2, t46_94.2, t47_96.2, u_98.2]), H_99)
noncomputable def p70_l0 (b : Bool) (cf : CallFn) (k : Nat) (s : List AV) (H : Heap) : Option (LStep × Heap) :=
  un s fun t0_18 vs_19 => un vs_19 fun t1_20 vs_21 => un vs_21 fun t4_22 vs_23 => un vs_23 fun t19_24 vs_25 => un vs_25 fun t20_26 vs_27 => un vs_27 fun t21_28 vs_29 => un0 vs_29 (bindE (mBin (cfg b) 3 false .lss t21_28 t20_26 H) fun t22_30 H_31 =>
  condR t22_30 (bindE (mIdxS 68 t19_24 t21_28 H_31) fun t23_32 H_33 =>
  bindE (mLoad true 68 t23_32 H_33) fun t24_34 H_35 =>
  bindE (mAlloc 66 (.agg [.nilsl, .nilsl, (.int .i64 0), (.int .u64 0), (.arr 32 .u8 (List.replicate 32 0)), (.arr 32 .u8 (List.replicate 32 0))]) H_35) fun t7_36 H_37 =>
  bindE (mStore true 68 t7_36 t24_34 H_37) fun u_38 H_39 =>
  bindE (mLoad true 68 t7_36 H_39) fun t25_40 H_41 =>
  bindE (cf 49 [t25_40] H_41) fun t26_42 H_43 =>
  bindE (mAlloc 41 (.arr 32 .u8 (List.replicate 32 0)) H_43) fun t8_44 H_45 =>
  bindE (mStore true 32 t8_44 t26_42 H_45) fun u_46 H_47 =>
  afterD (twice [0, 1, 3, 7, 0, 31, 63, 127, 127, 255, 1023] (p70_l0_d0 b cf t0_18 t8_44) H_47) fun vs_71 H_72 =>
  un vs_71 fun t10_73 vs_74 => un0 vs_74 (bindE (mUn .not t10_73 H_72) fun t37_75 H_76 =>
  condR t37_75 (afterD (twice [0, 1, 3, 7, 0, 0, 32, 96, 224, 224, 511] (p70_l0_d1 b cf t0_18 t8_44 t7_36) H_76) fun vs_100 H_101 =>
  un0 vs_100 (bindE (mBin (cfg b) 3 true .add t21_28 (AV.c (.int .i64 1)) H_101) fun t48_102 H_103 =>
  some (LStep.cont [t0_18, t1_20, t4_22, t19_24, t20_26, t48_102], H_103))) (bindE (mBin (cfg b) 3 true .add t21_28 (AV.c (.int .i64 1)) H_76) fun t48_104 H_105 =>
  some (LStep.cont [t0_18, t1_20, t4_22, t19_24, t20_26, t48_104], H_105)))) (some (LStep.exit 0 [t1_20, t4_22], H_31)))
/-- (*ferryman/nodes.Base).Save -/
noncomputable def p70 (b : Bool) (cf : CallFn) (k : Nat) (t0 t1 : AV) (H : Heap) : Option (AV × Heap) :=
  bindE (mAlloc 41 (.arr 32 .u8 (List.replicate 32 0)) H) fun t4_0 H_1 =>
  bindE (mBin (cfg b) 107 true .eql t0 (AV.c .nilp) H_1) fun t12_2 H_3 =>
  bindE (guardR (wantR false t12_2) (some (t1, H_3)) H_3) fun t14_4 H_5 =>
  bindE (guardR (wantR false t12_2) (mBin (cfg b) 28 true .eql t14_4 (AV.c .nilp) H_5) H_5) fun t15_6 H_7 =>
  bindE (mPick t12_2 (AV.c (.bool true)) t15_6 H_7) fun t16_8 H_9 =>
  condR t16_8 (bindE (mBuildA 32 .u8 (List.replicate 32 0) [] H_9) fun t17_10 H_11 =>
  bindE (mStore true 32 t4_0 t17_10 H_11) fun u_12 H_13 =>
  endQ (cfg b) false k (resC1 (mld true 32 H_13 t4_0) (resC1 (some (AV.c (.int .i64 1))) (some []))) H_13) (bindE (cf 66 [t1] H_9) fun t19_14 H_15 =>
  bindE (mLenSl t19_14 H_15) fun t20_16 H_17 =>
  afterL 0 (loopX k (p70_l0 b cf k) [t0, t1, t4_0, t19_14, t20_16, (AV.c (.int .i64 0))] H_17) (fun vs_106 H_107 =>
  un vs_106 fun t1_108 vs_109 => un vs_109 fun t4_110 vs_111 => un0 vs_111 (bindE (cf 37 [t1_108] H_107) fun t50_112 H_113 =>
  bindE (mStore true 32 t4_110 t50_112 H_113) fun u_114 H_115 =>
  endQ (cfg b) false k (resC1 (mld true 32 H_115 t4_110) (resC1 (some (AV.c (.int .i64 0))) (some []))) H_115)) (fun vs_106 H_107 => un vs_106 fun t1_116 vs_117 => un vs_117 fun t4_118 vs_119 => un0 vs_119 (endQ (cfg b) false k (resC1 (mld true 32 H_107 t4_118) (resC1 (some AV.any) (some []))) H_107)))

/-- (*ferryman/nodes.Base).Len -/
noncomputable def p71 (b : Bool) (cf : CallFn) (k : Nat) (t0 : AV) (H : Heap) : Option (AV × Heap) :=
  bindE (mBin (cfg b) 107 true .eql t0 (AV.c .nilp) H) fun t4_0 H_1 =>
  condR t4_0 (endQ (cfg b) false k (resC1 (some (AV.c (.int .i64 0))) (some [])) H_1) (bindE (mNil t0 H_1) fun t6_2 H_3 =>
  bindE (mFA 0 0 t6_2 H_3) fun t7_4 H_5 =>
  bindE (mLoad false 1 t7_4 H_5) fun t8_6 H_7 =>
  bindE (mLenMp t8_6 H_7) fun t9_8 H_9 =>
  endQ (cfg b) false k (resC1 (some t9_8) (some [])) H_9)

/-- (*ferryman/nodes.Base).Get -/
noncomputable def p84_d0 (b : Bool) (cf : CallFn) (t0 t3_0 : AV) (H_4 : Heap) : Option ((List AV × List Trail) × Heap) :=
  bindE (drawM (some t0) H_4) fun t11_5 H_6 =>
  bindE (drawR true [t11_5.1] (fun F => mNil t11_5.1 F) H_6) fun t12_7 H_8 =>
  bindE (drawR true [t12_7.1] (fun F => mFA 0 0 t12_7.1 F) H_8) fun t13_9 H_10 =>
  bindE (drawR true [t13_9.1] (fun F => mLoad false 1 t13_9.1 F) H_10) fun t14_11 H_12 =>
  bindE (drawR true [t3_0] (fun F => mLoad true 32 t3_0 F) H_12) fun t15_13 H_14 =>
  bindE (drawR true [t14_11.1, t15_13.1] (fun F => mLookup (cfg b) 41 .nilsl true t14_11.1 t15_13.1 F) H_14) fun t16_15 H_16 =>
  bindE (drawM (some t16_15.1) H_16) fun t10_17 H_18 =>
  bindE (drawR true [t10_17.1] (fun F => mExtract 0 t10_17.1 F) H_18) fun t17_19 H_20 =>
  bindE (drawR true [t10_17.1] (fun F => mExtract 1 t10_17.1 F) H_20) fun t18_21 H_22 =>
  bindE (drawM (some t17_19.1) H_22) fun t6_23 H_24 =>
  bindE (drawM (some t18_21.1) H_24) fun t7_25 H_26 =>
  some (([t6_23.1, t7_25.1], [t11_5.2, t12_7.2, t13_9.2, t14_11.2, t15_13.2, t16_15.2, t10_17.2, t17_19.2, t18_21.2, t6_23.2, t7_25.2]), H_26)
noncomputable def p84 (b : Bool) (cf : CallFn) (k : Nat) (t0 t1 : AV) (H : Heap) : Option (AV × Heap) :=
  bindE (mBox 41 t1 H) fun t3_0 H_1 =>
  bindE (mBin (cfg b) 107 true .eql t0 (AV.c .nilp) H_1) fun t9_2 H_3 =>
  condR t9_2 (endQ (cfg b) false k (resC1 (some (AV.c .nilsl)) (resC1 (some (AV.c (.bool false))) (some []))) H_3) (afterD (twice [0, 1, 3, 7, 0, 31, 63, 127, 127, 255, 1023] (p84_d0 b cf t0 t3_0) H_3) fun vs_27 H_28 =>
  un vs_27 fun t6_29 vs_30 => un vs_30 fun t7_31 vs_32 => un0 vs_32 (bindE (mBuildSl 5 1 (.int .u8 0) 0 [] H_28) fun t19_33 H_34 =>
  bindE (mAppend 5 1 1 false t19_33 t6_29 H_34) fun t21_35 H_36 =>
  endQ (cfg b) false k (resC1 (some t21_35) (resC1 (some t7_31) (some []))) H_36))

/-- ferryman/nodes.Encode -/
noncomputable def p106 (b : Bool) (cf : CallFn) (k : Nat) (t0 : AV) (H : Heap) : Option (AV × Heap) :=
  bindE (mBox 66 t0 H) fun t1_0 H_1 =>
  bindE (mFA 0 0 t1_0 H_1) fun t7_2 H_3 =>
  bindE (mLoad false 1 t7_2 H_3) fun t8_4 H_5 =>
  bindE (mLenSl t8_4 H_5) fun t9_6 H_7 =>
  bindE (mBin (cfg b) 3 true .eql t9_6 (AV.c (.int .i64 0)) H_7) fun t10_8 H_9 =>
  bindE (guardR (wantR false t10_8) (mFA 0 0 t1_0 H_9) H_9) fun t12_10 H_11 =>
  bindE (guardR (wantR false t10_8) (mLoad false 1 t12_10 H_11) H_11) fun t13_12 H_13 =>
  bindE (guardR (wantR false t10_8) (mLenSl t13_12 H_13) H_13) fun t14_14 H_15 =>
  bindE (guardR (wantR false t10_8) (mBin (cfg b) 3 true .gtr t14_14 (AV.c (.int .i64 96)) H_15) H_15) fun t15_16 H_17 =>
  bindE (mPick t10_8 (AV.c (.bool true)) t15_16 H_17) fun t16_18 H_19 =>
  condR t16_18 (endQ (cfg b) false k (resC1 (some (AV.c .nilsl)) (resC1 (some (AV.c (.int .i64 10))) (some []))) H_19) (bindE (mFA 2 2 t1_0 H_19) fun t18_20 H_21 =>
  bindE (mLoad false 1 t18_20 H_21) fun t19_22 H_23 =>
  bindE (mBin (cfg b) 3 true .lss t19_22 (AV.c (.int .i64 0)) H_23) fun t20_24 H_25 =>
  bindE (guardR (wantR false t20_24) (mFA 2 2 t1_0 H_25) H_25) fun t22_26 H_27 =>
  bindE (guardR (wantR false t20_24) (mLoad false 1 t22_26 H_27) H_27) fun t23_28 H_29 =>
  bindE (guardR (wantR false t20_24) (mBin (cfg b) 3 true .gtr t23_28 (AV.c (.int .i64 64)) H_29) H_29) fun t24_30 H_31 =>
  bindE (mPick t20_24 (AV.c (.bool true)) t24_30 H_31) fun t25_32 H_33 =>
  bindE (guardR (wantR false t25_32) (mFA 2 2 t1_0 H_33) H_33) fun t27_34 H_35 =>
  bindE (guardR (wantR false t25_32) (mLoad false 1 t27_34 H_35) H_35) fun t28_36 H_37 =>
  bindE (guardR (wantR false t25_32) (mBin (cfg b) 3 true .gtr t28_36 (AV.c (.int .i64 0)) H_37) H_37) fun t29_38 H_39 =>
  bindE (guardR (wantR false t25_32) (some (t29_38, H_39)) H_39) fun t30_40 H_41 =>
  bindE (guardR (wantR true t30_40) (mFA 1 1 t1_0 H_41) H_41) fun t31_42 H_43 =>
  bindE (guardR (wantR true t30_40) (mLoad false 1 t31_42 H_43) H_43) fun t32_44 H_45 =>
  bindE (guardR (wantR true t30_40) (mLenSl t32_44 H_45) H_45) fun t33_46 H_47 =>
  bindE (guardR (wantR true t30_40) (mBin (cfg b) 3 true .gtr t33_46 (AV.c (.int .i64 0)) H_47) H_47) fun t34_48 H_49 =>
  bindE (guardR (wantR false t25_32) (mPick t30_40 t34_48 (AV.c (.bool false)) H_49) H_49) fun t35_50 H_51 =>
  bindE (mPick t25_32 (AV.c (.bool true)) t35_50 H_51) fun t36_52 H_53 =>
  bindE (guardR (wantR false t36_52) (mFA 1 1 t1_0 H_53) H_53) fun t38_54 H_55 =>
  bindE (guardR (wantR false t36_52) (mLoad false 1 t38_54 H_55) H_55) fun t39_56 H_57 =>
  bindE (guardR (wantR false t36_52) (mLenSl t39_56 H_57) H_57) fun t40_58 H_59 =>
  bindE (guardR (wantR false t36_52) (mBin (cfg b) 3 true .gtr t40_58 (AV.c (.int .i64 256)) H_59) H_59) fun t41_60 H_61 =>
  bindE (mPick t36_52 (AV.c (.bool true)) t41_60 H_61) fun t42_62 H_63 =>
  bindE (guardR (wantR false t42_62) (mFA 2 2 t1_0 H_63) H_63) fun t44_64 H_65 =>
  bindE (guardR (wantR false t42_62) (mLoad false 1 t44_64 H_65) H_65) fun t45_66 H_67 =>
  bindE (guardR (wantR false t42_62) (mBin (cfg b) 3 true .eql t45_66 (AV.c (.int .i64 0)) H_67) H_67) fun t46_68 H_69 =>
  bindE (guardR (wantR false t42_62) (some (t46_68, H_69)) H_69) fun t47_70 H_71 =>
  bindE (guardR (wantR true t47_70) (mFA 3 3 t1_0 H_71) H_71) fun t48_72 H_73 =>
  bindE (guardR (wantR true t47_70) (mLoad false 1 t48_72 H_73) H_73) fun t49_74 H_75 =>
  bindE (guardR (wantR true t47_70) (mBin (cfg b) 22 true .neq t49_74 (AV.c (.int .u64 1)) H_75) H_75) fun t50_76 H_77 =>
  bindE (guardR (wantR true t47_70) (some (t50_76, H_77)) H_77) fun t51_78 H_79 =>
  bindE (guardR (wantR false t51_78) (mFA 4 4 t1_0 H_79) H_79) fun t52_80 H_81 =>
  bindE (guardR (wantR false t51_78) (mLoad true 32 t52_80 H_81) H_81) fun t53_82 H_83 =>
  bindE (guardR (wantR false t51_78) (mBuildA 32 .u8 (List.replicate 32 0) [] H_83) H_83) fun t54_84 H_85 =>
  bindE (guardR (wantR false t51_78) (mBin (cfg b) 41 false .neq t53_82 t54_84 H_85) H_85) fun t55_86 H_87 =>
  bindE (guardR (wantR true t47_70) (mPick t51_78 (AV.c (.bool true)) t55_86 H_87) H_87) fun t56_88 H_89 =>
  bindE (guardR (wantR true t47_70) (some (t56_88, H_89)) H_89) fun t57_90 H_91 =>
  bindE (guardR (wantR false t57_90) (mFA 5 36 t1_0 H_91) H_91) fun t58_92 H_93 =>
  bindE (guardR (wantR false t57_90) (mLoad true 32 t58_92 H_93) H_93) fun t59_94 H_95 =>
  bindE (guardR (wantR false t57_90) (mBuildA 32 .u8 (List.replicate 32 0) [] H_95) H_95) fun t60_96 H_97 =>
  bindE (guardR (wantR false t57_90) (mBin (cfg b) 41 false .neq t59_94 t60_96 H_97) H_97) fun t61_98 H_99 =>
  bindE (guardR (wantR true t47_70) (mPick t57_90 (AV.c (.bool true)) t61_98 H_99) H_99) fun t62_100 H_101 =>
  bindE (guardR (wantR false t42_62) (mPick t47_70 t62_100 (AV.c (.bool false)) H_101) H_101) fun t63_102 H_103 =>
  bindE (mPick t42_62 (AV.c (.bool true)) t63_102 H_103) fun t64_104 H_105 =>
  condR t64_104 (endQ (cfg b) false k (resC1 (some (AV.c .nilsl)) (resC1 (some (AV.c (.int .i64 12))) (some []))) H_105) (bindE (mAlloc 38 .nilsl H_105) fun t4_106 H_107 =>
  bindE (mFA 0 0 t1_0 H_107) fun t67_108 H_109 =>
  bindE (mLoad false 1 t67_108 H_109) fun t68_110 H_111 =>
  bindE (mCallV cf (AV.fn 129 [t4_106]) [(AV.c (.int .u8 1)), t68_110] H_111) fun t69_112 H_113 =>
  bindE (mFA 1 1 t1_0 H_113) fun t71_114 H_115 =>
  bindE (mLoad false 1 t71_114 H_115) fun t72_116 H_117 =>
  bindE (mCallV cf (AV.fn 129 [t4_106]) [(AV.c (.int .u8 2)), t72_116] H_117) fun t73_118 H_119 =>
  bindE (mFA 2 2 t1_0 H_119) fun t75_120 H_121 =>
  bindE (mLoad false 1 t75_120 H_121) fun t76_122 H_123 =>
  bindE (mConvI .u64 t76_122 H_123) fun t77_124 H_125 =>
  bindE (cf 131 [t77_124] H_125) fun t78_126 H_127 =>
  bindE (mCallV cf (AV.fn 129 [t4_106]) [(AV.c (.int .u8 3)), t78_126] H_127) fun t79_128 H_129 =>
  bindE (mFA 2 2 t1_0 H_129) fun t80_130 H_131 =>
  bindE (mLoad false 1 t80_130 H_131) fun t81_132 H_133 =>
  bindE (mBin (cfg b) 3 true .gtr t81_132 (AV.c (.int .i64 0)) H_133) fun t82_134 H_135 =>
  condR t82_134 (bindE (mFA 3 3 t1_0 H_135) fun t84_136 H_137 =>
  bindE (mLoad false 1 t84_136 H_137) fun t85_138 H_139 =>
  bindE (cf 131 [t85_138] H_139) fun t86_140 H_141 =>
  bindE (mCallV cf (AV.fn 129 [t4_106]) [(AV.c (.int .u8 4)), t86_140] H_141) fun t87_142 H_143 =>
  bindE (mFA 4 4 t1_0 H_143) fun t89_144 H_145 =>
  bindE (mSliceArr 32 t89_144 none none H_145) fun t90_146 H_147 =>
  bindE (mCallV cf (AV.fn 129 [t4_106]) [(AV.c (.int .u8 5)), t90_146] H_147) fun t91_148 H_149 =>
  bindE (mFA 5 36 t1_0 H_149) fun t93_150 H_151 =>
  bindE (mSliceArr 32 t93_150 none none H_151) fun t94_152 H_153 =>
  bindE (mCallV cf (AV.fn 129 [t4_106]) [(AV.c (.int .u8 6)), t94_152] H_153) fun t95_154 H_155 =>
  bindE (mLoad false 1 t4_106 H_155) fun t96_156 H_157 =>
  endQ (cfg b) false k (resC1 (some t96_156) (resC1 (some (AV.c (.int .i64 0))) (some []))) H_157) (bindE (mLoad false 1 t4_106 H_135) fun t96_158 H_159 =>
  endQ (cfg b) false k (resC1 (some t96_158) (resC1 (some (AV.c (.int .i64 0))) (some []))) H_159)))

/-- ferryman/nodes.Encode$1 -/
noncomputable def p129 (b : Bool) (cf : CallFn) (k : Nat) (t0 t1 t2 : AV) (H : Heap) : Option (AV × Heap) :=
  bindE (mLoad false 1 t2 H) fun t6_0 H_1 =>
  bindE (cf 130 [t6_0, t0, t1] H_1) fun t9_2 H_3 =>
  bindE (mExtract 0 t9_2 H_3) fun t10_4 H_5 =>
  bindE (mExtract 1 t9_2 H_5) fun t11_6 H_7 =>
  bindE (mStore false 1 t2 t10_4 H_7) fun u_8 H_9 =>
  endQ (cfg b) false k (some []) H_9

theorem p68_eq (b : Bool) (cf : CallFn) (H : Heap) : runG (cfg b) cf An 68 [] H = p68 b cf H.length  H := by kernel_rfl
theorem p69_eq (b : Bool) (cf : CallFn) (H : Heap) : runG (cfg b) cf An 69 [] H = p69 b cf H.length  H := by kernel_rfl
theorem p70_eq (b : Bool) (cf : CallFn) (t0 t1 : AV) (H : Heap) : runG (cfg b) cf An 70 [t0, t1] H = p70 b cf H.length t0 t1 H := by kernel_rfl
theorem p71_eq (b : Bool) (cf : CallFn) (t0 : AV) (H : Heap) : runG (cfg b) cf An 71 [t0] H = p71 b cf H.length t0 H := by kernel_rfl
theorem p84_eq (b : Bool) (cf : CallFn) (t0 t1 : AV) (H : Heap) : runG (cfg b) cf An 84 [t0, t1] H = p84 b cf H.length t0 t1 H := by kernel_rfl
theorem p106_eq (b : Bool) (cf : CallFn) (t0 : AV) (H : Heap) : runG (cfg b) cf An 106 [t0] H = p106 b cf H.length t0 H := by kernel_rfl
theorem p129_eq (b : Bool) (cf : CallFn) (t0 t1 t2 : AV) (H : Heap) : runG (cfg b) cf An 129 [t0, t1, t2] H = p129 b cf H.length t0 t1 t2 H := by kernel_rfl

end Go.Fm

