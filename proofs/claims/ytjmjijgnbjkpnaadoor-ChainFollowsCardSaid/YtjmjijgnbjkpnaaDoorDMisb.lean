/-
  A part of the proof: DMisb.
-/
import Derived.Test.YtjmjijgnbjkpnaaDoorDAnn
set_option linter.all false
set_option autoImplicit true
/-
  What the interpreter does to functions, without slots and types; the kernel holds it against the code.
-/
set_option maxRecDepth 100000
set_option linter.unusedVariables false
namespace Go.Fm
open Go Go.Proofs

/-- ferryman/ferrymanlaw18.ChainApart -/
noncomputable def p4 (b : Bool) (cf : CallFn) (k : Nat) (t0 t1 t2 t3 : AV) (H : Heap) : Option (AV × Heap) :=
  bindE (cf 31 [] H) fun t11_0 H_1 =>
  bindE (mUn .not t11_0 H_1) fun t12_2 H_3 =>
  condR t12_2 (endQ (cfg b) false k (resC1 (some (AV.c (.bool false))) (some [])) H_3) (bindE (mBuildSl 5 1 (.int .u8 0) 4 [(0, (AV.c (.int .u8 118))), (1, (AV.c (.int .u8 97))), (2, (AV.c (.int .u8 108))), (3, (AV.c (.int .u8 115)))] H_3) fun t13_4 H_5 =>
  bindE (mConv0 t13_4 H_5) fun t14_6 H_7 =>
  bindE (mBuildSl 5 1 (.int .u8 0) 1 [(0, t0)] H_7) fun t16_8 H_9 =>
  bindE (mAppend 5 1 1 false t14_6 t16_8 H_9) fun t17_10 H_11 =>
  bindE (cf 32 [t2] H_11) fun t19_12 H_13 =>
  bindE (mAppend 5 1 1 false t17_10 t19_12 H_13) fun t20_14 H_15 =>
  bindE (mBuildSl 5 1 (.int .u8 0) 4 [(0, (AV.c (.int .u8 118))), (1, (AV.c (.int .u8 97))), (2, (AV.c (.int .u8 108))), (3, (AV.c (.int .u8 115)))] H_15) fun t21_16 H_17 =>
  bindE (mConv0 t21_16 H_17) fun t22_18 H_19 =>
  bindE (mBuildSl 5 1 (.int .u8 0) 1 [(0, t1)] H_19) fun t24_20 H_21 =>
  bindE (mAppend 5 1 1 false t22_18 t24_20 H_21) fun t25_22 H_23 =>
  bindE (cf 32 [t3] H_23) fun t27_24 H_25 =>
  bindE (mAppend 5 1 1 false t25_22 t27_24 H_25) fun t28_26 H_27 =>
  bindE (cf 33 [t0, t2] H_27) fun t31_28 H_29 =>
  bindE (cf 33 [t1, t3] H_29) fun t34_30 H_31 =>
  bindE (mBin (cfg b) 41 false .eql t31_28 t34_30 H_31) fun t35_32 H_33 =>
  bindE (mBin (cfg b) 5 false .eql t0 t1 H_33) fun t38_34 H_35 =>
  bindE (guardR (wantR true t38_34) (some (t2, H_35)) H_35) fun t40_36 H_37 =>
  bindE (guardR (wantR true t38_34) (some (t3, H_37)) H_37) fun t41_38 H_39 =>
  bindE (guardR (wantR true t38_34) (mBin (cfg b) 22 false .eql t40_36 t41_38 H_39) H_39) fun t42_40 H_41 =>
  bindE (mPick t38_34 t42_40 (AV.c (.bool false)) H_41) fun t43_42 H_43 =>
  bindE (mBin (cfg b) 4 false .eql t35_32 t43_42 H_43) fun t44_44 H_45 =>
  bindE (guardR (wantR false t44_44) (some (t20_14, H_45)) H_45) fun t46_46 H_47 =>
  bindE (guardR (wantR false t44_44) (some (t28_26, H_47)) H_47) fun t47_48 H_49 =>
  bindE (guardR (wantR false t44_44) (mBuildSl 38 1 .nilsl 2 [(0, t46_46), (1, t47_48)] H_49) H_49) fun t48_50 H_51 =>
  bindE (guardR (wantR false t44_44) (cf 34 [t48_50] H_51) H_51) fun t49_52 H_53 =>
  bindE (mPick t44_44 (AV.c (.bool true)) t49_52 H_53) fun t50_54 H_55 =>
  endQ (cfg b) false k (resC1 (some t50_54) (some [])) H_55)

noncomputable def p32_l0 (b : Bool) (cf : CallFn) (k : Nat) (s : List AV) (H : Heap) : Option (LStep × Heap) :=
  un s fun t0_0 vs_1 => un vs_1 fun t3_2 vs_3 => un vs_3 fun t4_4 vs_5 => un0 vs_5 (bindE (mBin (cfg b) 3 true .lss t4_4 (AV.c (.int .i64 8)) H) fun t6_6 H_7 =>
  condR t6_6 (bindE (mBin (cfg b) 3 true .mul (AV.c (.int .i64 8)) t4_4 H_7) fun t12_8 H_9 =>
  bindE (mBin (cfg b) 3 true .sub (AV.c (.int .i64 56)) t12_8 H_9) fun t13_10 H_11 =>
  bindE (mBin (cfg b) 22 false .shr t0_0 t13_10 H_11) fun t14_12 H_13 =>
  bindE (mConvI .u8 t14_12 H_13) fun t15_14 H_15 =>
  bindE (mBuildSl 5 1 (.int .u8 0) 1 [(0, t15_14)] H_15) fun t16_16 H_17 =>
  bindE (mAppend 5 1 1 false t3_2 t16_16 H_17) fun t17_18 H_19 =>
  bindE (mBin (cfg b) 3 true .add t4_4 (AV.c (.int .i64 1)) H_19) fun t8_20 H_21 =>
  some (LStep.cont [t0_0, t17_18, t8_20], H_21)) (some (LStep.exit 0 [t3_2], H_7)))
/-- ferryman/ferrymanref01.Eight -/
noncomputable def p32 (b : Bool) (cf : CallFn) (k : Nat) (t0 : AV) (H : Heap) : Option (AV × Heap) :=
  afterL 0 (loopX k (p32_l0 b cf k) [t0, (AV.c .nilsl), (AV.c (.int .i64 0))] H) (fun vs_22 H_23 =>
  un vs_22 fun t3_24 vs_25 => un0 vs_25 (endQ (cfg b) false k (resC1 (some t3_24) (some [])) H_23)) (fun vs_22 H_23 => un vs_22 fun t3_26 vs_27 => un0 vs_27 (endQ (cfg b) false k (resC1 (some AV.any) (some [])) H_23))

/-- ferryman/chain.Vals -/
noncomputable def p33 (b : Bool) (cf : CallFn) (k : Nat) (t0 t1 : AV) (H : Heap) : Option (AV × Heap) :=
  bindE (mAlloc 41 (.arr 32 .u8 (List.replicate 32 0)) H) fun t4_0 H_1 =>
  bindE (mBuildSl 5 1 (.int .u8 0) 4 [(0, (AV.c (.int .u8 118))), (1, (AV.c (.int .u8 97))), (2, (AV.c (.int .u8 108))), (3, (AV.c (.int .u8 115)))] H_1) fun t5_2 H_3 =>
  bindE (mConv0 t5_2 H_3) fun t6_4 H_5 =>
  bindE (mBuildSl 5 1 (.int .u8 0) 1 [(0, t0)] H_5) fun t8_6 H_7 =>
  bindE (cf 89 [t1] H_7) fun t10_8 H_9 =>
  bindE (mBuildSl 38 1 .nilsl 3 [(0, t6_4), (1, t8_6), (2, t10_8)] H_9) fun t11_10 H_11 =>
  bindE (cf 88 [t11_10] H_11) fun t12_12 H_13 =>
  bindE (mStore true 32 t4_0 t12_12 H_13) fun u_14 H_15 =>
  endQ (cfg b) false k (resC1 (mld true 32 H_15 t4_0) (some [])) H_15

noncomputable def p34_l0 (b : Bool) (cf : CallFn) (k : Nat) (s : List AV) (H : Heap) : Option (LStep × Heap) :=
  un s fun t0_4 vs_5 => un vs_5 fun t3_6 vs_7 => un vs_7 fun t4_8 vs_9 => un0 vs_9 (bindE (mLenSl t0_4 H) fun t12_10 H_11 =>
  bindE (mBin (cfg b) 3 false .lss t4_8 t12_10 H_11) fun t13_12 H_13 =>
  condR t13_12 (bindE (mIdxS 1 t0_4 t4_8 H_13) fun t20_14 H_15 =>
  bindE (mLoad false 1 t20_14 H_15) fun t21_16 H_17 =>
  bindE (cf 90 [t21_16] H_17) fun t22_18 H_19 =>
  bindE (mIdxS 32 t3_6 t4_8 H_19) fun t23_20 H_21 =>
  bindE (mStore true 32 t23_20 t22_18 H_21) fun u_22 H_23 =>
  bindE (mBin (cfg b) 3 true .add t4_8 (AV.c (.int .i64 1)) H_23) fun t15_24 H_25 =>
  some (LStep.cont [t0_4, t3_6, t15_24], H_25)) (some (LStep.exit 0 [t0_4, t3_6], H_13)))
noncomputable def p34_l4 (b : Bool) (cf : CallFn) (k : Nat) (s : List AV) (H : Heap) : Option (LStep × Heap) :=
  un s fun t0_42 vs_43 => un vs_43 fun t3_44 vs_45 => un vs_45 fun t5_46 vs_47 => un vs_47 fun t6_48 vs_49 => un0 vs_49 (bindE (mBin (cfg b) 3 false .lss t6_48 t5_46 H) fun t32_50 H_51 =>
  condR t32_50 (afterD (twice [0, 0, 3, 7, 0, 0, 48, 112, 255, 511, 1023, 1023, 4095, 8191, 16383, 1023, 1023, 99327, 230399, 492543, 1048575, 2097151] (fun H_52 => bindE (drawM (some t3_44) H_52) fun t35_53 H_54 =>
  bindE (drawM (some t5_46) H_54) fun t36_55 H_56 =>
  bindE (drawR true [t35_53.1, t36_55.1] (fun F => mIdxS 32 t35_53.1 t36_55.1 F) H_56) fun t37_57 H_58 =>
  bindE (drawR true [t37_57.1] (fun F => mLoad true 32 t37_57.1 F) H_58) fun t38_59 H_60 =>
  bindE (drawM (some t3_44) H_60) fun t39_61 H_62 =>
  bindE (drawM (some t6_48) H_62) fun t40_63 H_64 =>
  bindE (drawR true [t39_61.1, t40_63.1] (fun F => mIdxS 32 t39_61.1 t40_63.1 F) H_64) fun t41_65 H_66 =>
  bindE (drawR true [t41_65.1] (fun F => mLoad true 32 t41_65.1 F) H_66) fun t42_67 H_68 =>
  bindE (drawR true [t38_59.1, t42_67.1] (fun F => mBin (cfg b) 41 false .eql t38_59.1 t42_67.1 F) H_68) fun t43_69 H_70 =>
  bindE (drawM (some t43_69.1) H_70) fun t44_71 H_72 =>
  bindE (guardD (wantR true t44_71.1) (drawM (some t0_42) H_72) H_72) fun t45_73 H_74 =>
  bindE (guardD (wantR true t44_71.1) (drawM (some t5_46) H_74) H_74) fun t46_75 H_76 =>
  bindE (guardD (wantR true t44_71.1) (drawR true [t45_73.1, t46_75.1] (fun F => mIdxS 1 t45_73.1 t46_75.1 F) H_76) H_76) fun t47_77 H_78 =>
  bindE (guardD (wantR true t44_71.1) (drawR true [t47_77.1] (fun F => mLoad false 1 t47_77.1 F) H_78) H_78) fun t48_79 H_80 =>
  bindE (guardD (wantR true t44_71.1) (drawR true [t48_79.1] (fun F => mConvBS t48_79.1 F) H_80) H_80) fun t49_81 H_82 =>
  bindE (guardD (wantR true t44_71.1) (drawM (some t0_42) H_82) H_82) fun t50_83 H_84 =>
  bindE (guardD (wantR true t44_71.1) (drawM (some t6_48) H_84) H_84) fun t51_85 H_86 =>
  bindE (guardD (wantR true t44_71.1) (drawR true [t50_83.1, t51_85.1] (fun F => mIdxS 1 t50_83.1 t51_85.1 F) H_86) H_86) fun t52_87 H_88 =>
  bindE (guardD (wantR true t44_71.1) (drawR true [t52_87.1] (fun F => mLoad false 1 t52_87.1 F) H_88) H_88) fun t53_89 H_90 =>
  bindE (guardD (wantR true t44_71.1) (drawR true [t53_89.1] (fun F => mConvBS t53_89.1 F) H_90) H_90) fun t54_91 H_92 =>
  bindE (guardD (wantR true t44_71.1) (drawR true [t49_81.1, t54_91.1] (fun F => mBin (cfg b) 9 false .neq t49_81.1 t54_91.1 F) H_92) H_92) fun t55_93 H_94 =>
  bindE (drawR true [t44_71.1, t55_93.1] (fun F => mPick t44_71.1 t55_93.1 (AV.c (.bool false)) F) H_94) fun t56_95 H_96 =>
  some (([t56_95.1], [t35_53.2, t36_55.2, t37_57.2, t38_59.2, t39_61.2, t40_63.2, t41_65.2, t42_67.2, t43_69.2, t44_71.2, t45_73.2, t46_75.2, t47_77.2, t48_79.2, t49_81.2, t50_83.2, t51_85.2, t52_87.2, t53_89.2, t54_91.2, t55_93.2, t56_95.2]), H_96)) H_51) fun vs_97 H_98 =>
  un vs_97 fun t56_99 vs_100 => un0 vs_100 (condR t56_99 (some (LStep.ret [t0_42, (AV.c (.bool true)), t3_44, t5_46], H_98)) (bindE (mBin (cfg b) 3 true .add t6_48 (AV.c (.int .i64 1)) H_98) fun t34_101 H_102 =>
  some (LStep.cont [t0_42, t3_44, t5_46, t34_101], H_102)))) (some (LStep.exit 4 [t0_42, AV.any, t3_44, t5_46], H_51)))
noncomputable def p34_l2 (b : Bool) (cf : CallFn) (k : Nat) (s : List AV) (H : Heap) : Option (LStep × Heap) :=
  un s fun t0_32 vs_33 => un vs_33 fun t3_34 vs_35 => un vs_35 fun t5_36 vs_37 => un0 vs_37 (bindE (mLenSl t0_32 H) fun t26_38 H_39 =>
  bindE (mBin (cfg b) 3 false .lss t5_36 t26_38 H_39) fun t27_40 H_41 =>
  condR t27_40 (afterL 4 (loopX k (p34_l4 b cf k) [t0_32, t3_34, t5_36, (AV.c (.int .i64 0))] H_41) (fun vs_103 H_104 =>
  un vs_103 fun t0_105 vs_106 => un vs_106 fun t2_107 vs_108 => un vs_108 fun t3_109 vs_110 => un vs_110 fun t5_111 vs_112 => un0 vs_112 (bindE (mBin (cfg b) 3 true .add t5_111 (AV.c (.int .i64 1)) H_104) fun t29_113 H_114 =>
  some (LStep.cont [t0_105, t3_109, t29_113], H_114))) (fun vs_103 H_104 => un vs_103 fun t0_115 vs_116 => un vs_116 fun t2_117 vs_118 => un vs_118 fun t3_119 vs_120 => un vs_120 fun t5_121 vs_122 => un0 vs_122 (some (LStep.ret [t2_117], H_104)))) (some (LStep.exit 2 [AV.any], H_41)))
/-- ferryman/ferrymanref01.Clash -/
noncomputable def p34 (b : Bool) (cf : CallFn) (k : Nat) (t0 : AV) (H : Heap) : Option (AV × Heap) :=
  bindE (mLenSl t0 H) fun t8_0 H_1 =>
  bindE (mMakeSl 41 32 32 (.arr 32 .u8 (List.replicate 32 0)) t8_0 t8_0 H_1) fun t9_2 H_3 =>
  afterL 0 (loopX k (p34_l0 b cf k) [t0, t9_2, (AV.c (.int .i64 0))] H_3) (fun vs_26 H_27 =>
  un vs_26 fun t0_28 vs_29 => un vs_29 fun t3_30 vs_31 => un0 vs_31 (afterL 2 (loopX k (p34_l2 b cf k) [t0_28, t3_30, (AV.c (.int .i64 0))] H_27) (fun vs_123 H_124 =>
  un vs_123 fun t2_125 vs_126 => un0 vs_126 (endQ (cfg b) false k (resC1 (some (AV.c (.bool false))) (some [])) H_124)) (fun vs_123 H_124 => un vs_123 fun t2_127 vs_128 => un0 vs_128 (endQ (cfg b) false k (resC1 (some t2_127) (some [])) H_124)))) (fun vs_26 H_27 => un vs_26 fun t0_129 vs_130 => un vs_130 fun t3_131 vs_132 => un0 vs_132 (endQ (cfg b) false k (resC1 (some AV.any) (some [])) H_27))

noncomputable def p89_l0 (b : Bool) (cf : CallFn) (k : Nat) (s : List AV) (H : Heap) : Option (LStep × Heap) :=
  un s fun t0_0 vs_1 => un vs_1 fun t3_2 vs_3 => un vs_3 fun t4_4 vs_5 => un0 vs_5 (bindE (mBin (cfg b) 3 true .geq t4_4 (AV.c (.int .i64 0)) H) fun t6_6 H_7 =>
  condR t6_6 (bindE (mBin (cfg b) 22 false .shr t0_0 t4_4 H_7) fun t12_8 H_9 =>
  bindE (mConvI .u8 t12_8 H_9) fun t13_10 H_11 =>
  bindE (mBuildSl 5 1 (.int .u8 0) 1 [(0, t13_10)] H_11) fun t14_12 H_13 =>
  bindE (mAppend 5 1 1 false t3_2 t14_12 H_13) fun t15_14 H_15 =>
  bindE (mBin (cfg b) 3 true .sub t4_4 (AV.c (.int .i64 8)) H_15) fun t8_16 H_17 =>
  some (LStep.cont [t0_0, t15_14, t8_16], H_17)) (some (LStep.exit 0 [t3_2], H_7)))
/-- ferryman/keys.Num -/
noncomputable def p89 (b : Bool) (cf : CallFn) (k : Nat) (t0 : AV) (H : Heap) : Option (AV × Heap) :=
  afterL 0 (loopX k (p89_l0 b cf k) [t0, (AV.c .nilsl), (AV.c (.int .i64 56))] H) (fun vs_18 H_19 =>
  un vs_18 fun t3_20 vs_21 => un0 vs_21 (endQ (cfg b) false k (resC1 (some t3_20) (some [])) H_19)) (fun vs_18 H_19 => un vs_18 fun t3_22 vs_23 => un0 vs_23 (endQ (cfg b) false k (resC1 (some AV.any) (some [])) H_19))

/-- ferryman/ferrymanref01.turn -/
noncomputable def p122 (b : Bool) (cf : CallFn) (k : Nat) (t0 t1 : AV) (H : Heap) : Option (AV × Heap) :=
  afterD (twice [0, 0, 3, 0, 0, 16, 56, 127, 255] (fun H_0 => bindE (drawM (some t0) H_0) fun t5_1 H_2 =>
  bindE (drawM (some t1) H_2) fun t6_3 H_4 =>
  bindE (drawR true [t5_1.1, t6_3.1] (fun F => mBin (cfg b) 192 false .shr t5_1.1 t6_3.1 F) H_4) fun t7_5 H_6 =>
  bindE (drawM (some t0) H_6) fun t8_7 H_8 =>
  bindE (drawM (some t1) H_8) fun t9_9 H_10 =>
  bindE (drawR true [t9_9.1] (fun F => mBin (cfg b) 3 true .sub (AV.c (.int .i64 32)) t9_9.1 F) H_10) fun t10_11 H_12 =>
  bindE (drawR true [t8_7.1, t10_11.1] (fun F => mBin (cfg b) 192 false .shl t8_7.1 t10_11.1 F) H_12) fun t11_13 H_14 =>
  bindE (drawR true [t7_5.1, t11_13.1] (fun F => mBin (cfg b) 192 false .or t7_5.1 t11_13.1 F) H_14) fun t12_15 H_16 =>
  bindE (drawM (some t12_15.1) H_16) fun t4_17 H_18 =>
  some (([t4_17.1], [t5_1.2, t6_3.2, t7_5.2, t8_7.2, t9_9.2, t10_11.2, t11_13.2, t12_15.2, t4_17.2]), H_18)) H) fun vs_19 H_20 =>
  un vs_19 fun t4_21 vs_22 => un0 vs_22 (endQ (cfg b) false k (resC1 (some t4_21) (some [])) H_20)

theorem p4_eq (b : Bool) (cf : CallFn) (t0 t1 t2 t3 : AV) (H : Heap) : runG (cfg b) cf An 4 [t0, t1, t2, t3] H = p4 b cf H.length t0 t1 t2 t3 H := by kernel_rfl
theorem p32_eq (b : Bool) (cf : CallFn) (t0 : AV) (H : Heap) : runG (cfg b) cf An 32 [t0] H = p32 b cf H.length t0 H := by kernel_rfl
theorem p33_eq (b : Bool) (cf : CallFn) (t0 t1 : AV) (H : Heap) : runG (cfg b) cf An 33 [t0, t1] H = p33 b cf H.length t0 t1 H := by kernel_rfl
theorem p34_eq (b : Bool) (cf : CallFn) (t0 : AV) (H : Heap) : runG (cfg b) cf An 34 [t0] H = p34 b cf H.length t0 H := by kernel_rfl
theorem p89_eq (b : Bool) (cf : CallFn) (t0 : AV) (H : Heap) : runG (cfg b) cf An 89 [t0] H = p89 b cf H.length t0 H := by kernel_rfl
theorem p122_eq (b : Bool) (cf : CallFn) (t0 t1 : AV) (H : Heap) : runG (cfg b) cf An 122 [t0, t1] H = p122 b cf H.length t0 t1 H := by kernel_rfl

end Go.Fm

/-
  What the interpreter does to functions, without slots and types; the kernel holds it against the code.
-/
set_option maxRecDepth 100000
set_option linter.unusedVariables false
namespace Go.Fm
open Go Go.Proofs

noncomputable def p38_l0 (b : Bool) (cf : CallFn) (k : Nat) (s : List AV) (H : Heap) : Option (LStep × Heap) :=
  un s fun t1_6 vs_7 => un vs_7 fun t9_8 vs_9 => un vs_9 fun t10_10 vs_11 => un vs_11 fun t11_12 vs_13 => un0 vs_13 (bindE (mBin (cfg b) 3 false .lss t11_12 t10_10 H) fun t12_14 H_15 =>
  condR t12_14 (bindE (mIdxS 1 t9_8 t11_12 H_15) fun t13_16 H_17 =>
  bindE (mLoad false 1 t13_16 H_17) fun t14_18 H_19 =>
  bindE (mConvSB 5 t14_18 H_19) fun t18_20 H_21 =>
  bindE (cf 36 [t1_6, t18_20, (AV.c .nilsl)] H_21) fun t19_22 H_23 =>
  bindE (mExtract 0 t19_22 H_23) fun t20_24 H_25 =>
  bindE (mExtract 1 t19_22 H_25) fun t21_26 H_27 =>
  bindE (mBin (cfg b) 3 true .add t11_12 (AV.c (.int .i64 1)) H_27) fun t22_28 H_29 =>
  some (LStep.cont [t20_24, t9_8, t10_10, t22_28], H_29)) (some (LStep.exit 0 [t1_6], H_15)))
/-- ferryman/ferrymanlaw05.Awake -/
noncomputable def p38 (b : Bool) (cf : CallFn) (k : Nat) (H : Heap) : Option (AV × Heap) :=
  bindE (cf 26 [] H) fun t8_0 H_1 =>
  bindE (mBuildSl 9 1 (.str ⟨#[]⟩) 4 [(0, (AV.c (.str ⟨#[97]⟩))), (1, (AV.c (.str ⟨#[98]⟩))), (2, (AV.c (.str ⟨#[99]⟩))), (3, (AV.c (.str ⟨#[100]⟩)))] H_1) fun t9_2 H_3 =>
  bindE (mLenSl t9_2 H_3) fun t10_4 H_5 =>
  afterL 0 (loopX k (p38_l0 b cf k) [t8_0, t9_2, t10_4, (AV.c (.int .i64 0))] H_5) (fun vs_30 H_31 =>
  un vs_30 fun t1_32 vs_33 => un0 vs_33 (bindE (cf 45 [t1_32, (AV.c .nilsl)] H_31) fun t25_34 H_35 =>
  bindE (mExtract 0 t25_34 H_35) fun t26_36 H_37 =>
  bindE (mExtract 1 t25_34 H_37) fun t27_38 H_39 =>
  bindE (mAlloc 66 (.agg [.nilsl, .nilsl, (.int .i64 0), (.int .u64 0), (.arr 32 .u8 (List.replicate 32 0)), (.arr 32 .u8 (List.replicate 32 0))]) H_39) fun t4_40 H_41 =>
  bindE (mStore true 68 t4_40 t26_36 H_41) fun u_42 H_43 =>
  bindE (mBuildSl 5 1 (.int .u8 0) 1 [(0, (AV.c (.int .u8 100)))] H_43) fun t30_44 H_45 =>
  bindE (mConv0 t30_44 H_45) fun t31_46 H_47 =>
  bindE (cf 63 [t1_32, t31_46] H_47) fun t32_48 H_49 =>
  bindE (mExtract 0 t32_48 H_49) fun t33_50 H_51 =>
  bindE (mExtract 1 t32_48 H_51) fun t34_52 H_53 =>
  bindE (guardR (wantR true t27_38) (some (t34_52, H_53)) H_53) fun t37_54 H_55 =>
  bindE (mPick t27_38 t37_54 (AV.c (.bool false)) H_55) fun t38_56 H_57 =>
  bindE (guardR (wantR true t38_56) (some (t33_50, H_57)) H_57) fun t40_58 H_59 =>
  bindE (guardR (wantR true t38_56) (mLenSl t40_58 H_59) H_59) fun t41_60 H_61 =>
  bindE (guardR (wantR true t38_56) (mBin (cfg b) 3 true .eql t41_60 (AV.c (.int .i64 0)) H_61) H_61) fun t42_62 H_63 =>
  bindE (mPick t38_56 t42_62 (AV.c (.bool false)) H_63) fun t43_64 H_65 =>
  bindE (guardR (wantR true t43_64) (some (t1_32, H_65)) H_65) fun t45_66 H_67 =>
  bindE (guardR (wantR true t43_64) (cf 47 [t45_66] H_67) H_67) fun t46_68 H_69 =>
  bindE (guardR (wantR true t43_64) (mBin (cfg b) 3 true .eql t46_68 (AV.c (.int .i64 4)) H_69) H_69) fun t47_70 H_71 =>
  bindE (mPick t43_64 t47_70 (AV.c (.bool false)) H_71) fun t48_72 H_73 =>
  bindE (guardR (wantR true t48_72) (mFA 2 2 t4_40 H_73) H_73) fun t50_74 H_75 =>
  bindE (guardR (wantR true t48_72) (mLoad false 1 t50_74 H_75) H_75) fun t51_76 H_77 =>
  bindE (guardR (wantR true t48_72) (mBin (cfg b) 3 true .eql t51_76 (AV.c (.int .i64 2)) H_77) H_77) fun t52_78 H_79 =>
  bindE (mPick t48_72 t52_78 (AV.c (.bool false)) H_79) fun t53_80 H_81 =>
  bindE (guardR (wantR true t53_80) (mFA 3 3 t4_40 H_81) H_81) fun t55_82 H_83 =>
  bindE (guardR (wantR true t53_80) (mLoad false 1 t55_82 H_83) H_83) fun t56_84 H_85 =>
  bindE (guardR (wantR true t53_80) (mBin (cfg b) 22 true .eql t56_84 (AV.c (.int .u64 4)) H_85) H_85) fun t57_86 H_87 =>
  bindE (mPick t53_80 t57_86 (AV.c (.bool false)) H_87) fun t58_88 H_89 =>
  bindE (guardR (wantR true t58_88) (mFA 0 0 t4_40 H_89) H_89) fun t60_90 H_91 =>
  bindE (guardR (wantR true t58_88) (mLoad false 1 t60_90 H_91) H_91) fun t61_92 H_93 =>
  bindE (guardR (wantR true t58_88) (mConvBS t61_92 H_93) H_93) fun t62_94 H_95 =>
  bindE (guardR (wantR true t58_88) (mBin (cfg b) 9 true .eql t62_94 (AV.c (.str ⟨#[99]⟩)) H_95) H_95) fun t63_96 H_97 =>
  bindE (mPick t58_88 t63_96 (AV.c (.bool false)) H_97) fun t64_98 H_99 =>
  endQ (cfg b) false k (resC1 (some t64_98) (some [])) H_99)) (fun vs_30 H_31 => un vs_30 fun t1_100 vs_101 => un0 vs_101 (endQ (cfg b) false k (resC1 (some AV.any) (some [])) H_31))

/-- ferryman/ferrymanlaw05.TreeNil -/
noncomputable def p14 (b : Bool) (cf : CallFn) (k : Nat) (t0 t1 t2 : AV) (H : Heap) : Option (AV × Heap) :=
  bindE (cf 38 [] H) fun t16_0 H_1 =>
  bindE (mUn .not t16_0 H_1) fun t17_2 H_3 =>
  condR t17_2 (endQ (cfg b) false k (resC1 (some (AV.c (.bool false))) (some [])) H_3) (bindE (cf 36 [(AV.c .nilp), t0, t1] H_3) fun t22_4 H_5 =>
  bindE (mExtract 0 t22_4 H_5) fun t23_6 H_7 =>
  bindE (mExtract 1 t22_4 H_7) fun t24_8 H_9 =>
  bindE (cf 61 [(AV.c .nilp), t0] H_9) fun t28_10 H_11 =>
  bindE (mExtract 0 t28_10 H_11) fun t29_12 H_13 =>
  bindE (mExtract 1 t28_10 H_13) fun t30_14 H_15 =>
  bindE (cf 63 [(AV.c .nilp), t0] H_15) fun t34_16 H_17 =>
  bindE (mExtract 0 t34_16 H_17) fun t35_18 H_19 =>
  bindE (mExtract 1 t34_16 H_19) fun t36_20 H_21 =>
  bindE (cf 45 [(AV.c .nilp), t2] H_21) fun t40_22 H_23 =>
  bindE (mExtract 0 t40_22 H_23) fun t41_24 H_25 =>
  bindE (mExtract 1 t40_22 H_25) fun t42_26 H_27 =>
  bindE (mAlloc 66 (.agg [.nilsl, .nilsl, (.int .i64 0), (.int .u64 0), (.arr 32 .u8 (List.replicate 32 0)), (.arr 32 .u8 (List.replicate 32 0))]) H_27) fun t14_28 H_29 =>
  bindE (mStore true 68 t14_28 t41_24 H_29) fun u_30 H_31 =>
  bindE (mBin (cfg b) 28 true .eql t23_6 (AV.c .nilp) H_31) fun t44_32 H_33 =>
  bindE (guardR (wantR true t44_32) (some (t24_8, H_33)) H_33) fun t46_34 H_35 =>
  bindE (guardR (wantR true t44_32) (mBin (cfg b) 25 true .eql t46_34 (AV.c (.int .i64 1)) H_35) H_35) fun t47_36 H_37 =>
  bindE (mPick t44_32 t47_36 (AV.c (.bool false)) H_37) fun t48_38 H_39 =>
  bindE (guardR (wantR true t48_38) (some (t29_12, H_39)) H_39) fun t50_40 H_41 =>
  bindE (guardR (wantR true t48_38) (mBin (cfg b) 28 true .eql t50_40 (AV.c .nilp) H_41) H_41) fun t51_42 H_43 =>
  bindE (mPick t48_38 t51_42 (AV.c (.bool false)) H_43) fun t52_44 H_45 =>
  bindE (guardR (wantR true t52_44) (some (t30_14, H_45)) H_45) fun t54_46 H_47 =>
  bindE (guardR (wantR true t52_44) (mUn .not t54_46 H_47) H_47) fun t55_48 H_49 =>
  bindE (mPick t52_44 t55_48 (AV.c (.bool false)) H_49) fun t56_50 H_51 =>
  bindE (guardR (wantR true t56_50) (some (t35_18, H_51)) H_51) fun t58_52 H_53 =>
  bindE (guardR (wantR true t56_50) (mLenSl t58_52 H_53) H_53) fun t59_54 H_55 =>
  bindE (guardR (wantR true t56_50) (mBin (cfg b) 3 true .eql t59_54 (AV.c (.int .i64 0)) H_55) H_55) fun t60_56 H_57 =>
  bindE (mPick t56_50 t60_56 (AV.c (.bool false)) H_57) fun t61_58 H_59 =>
  bindE (guardR (wantR true t61_58) (some (t36_20, H_59)) H_59) fun t63_60 H_61 =>
  bindE (guardR (wantR true t61_58) (mUn .not t63_60 H_61) H_61) fun t64_62 H_63 =>
  bindE (mPick t61_58 t64_62 (AV.c (.bool false)) H_63) fun t65_64 H_65 =>
  bindE (guardR (wantR true t65_64) (some (t42_26, H_65)) H_65) fun t67_66 H_67 =>
  bindE (guardR (wantR true t65_64) (mUn .not t67_66 H_67) H_67) fun t68_68 H_69 =>
  bindE (mPick t65_64 t68_68 (AV.c (.bool false)) H_69) fun t69_70 H_71 =>
  bindE (guardR (wantR true t69_70) (mLoad true 68 t14_28 H_71) H_71) fun t71_72 H_73 =>
  bindE (guardR (wantR true t69_70) (mBuildS [.nilsl, .nilsl, (.int .i64 0), (.int .u64 0), (.arr 32 .u8 (List.replicate 32 0)), (.arr 32 .u8 (List.replicate 32 0))] [] H_73) H_73) fun t72_74 H_75 =>
  bindE (guardR (wantR true t69_70) (cf 46 [t71_72, t72_74] H_75) H_75) fun t73_76 H_77 =>
  bindE (mPick t69_70 t73_76 (AV.c (.bool false)) H_77) fun t74_78 H_79 =>
  bindE (guardR (wantR true t74_78) (some ((AV.c .nilp), H_79)) H_79) fun t76_80 H_81 =>
  bindE (guardR (wantR true t74_78) (cf 37 [t76_80] H_81) H_81) fun t77_82 H_83 =>
  bindE (guardR (wantR true t74_78) (cf 62 [] H_83) H_83) fun t78_84 H_85 =>
  bindE (guardR (wantR true t74_78) (mBin (cfg b) 41 false .eql t77_82 t78_84 H_85) H_85) fun t79_86 H_87 =>
  bindE (mPick t74_78 t79_86 (AV.c (.bool false)) H_87) fun t80_88 H_89 =>
  bindE (guardR (wantR true t80_88) (some ((AV.c .nilp), H_89)) H_89) fun t82_90 H_91 =>
  bindE (guardR (wantR true t80_88) (cf 47 [t82_90] H_91) H_91) fun t83_92 H_93 =>
  bindE (guardR (wantR true t80_88) (mBin (cfg b) 3 true .eql t83_92 (AV.c (.int .i64 0)) H_93) H_93) fun t84_94 H_95 =>
  bindE (mPick t80_88 t84_94 (AV.c (.bool false)) H_95) fun t85_96 H_97 =>
  bindE (guardR (wantR true t85_96) (some ((AV.c .nilp), H_97)) H_97) fun t87_98 H_99 =>
  bindE (guardR (wantR true t85_96) (cf 51 [t87_98] H_99) H_99) fun t88_100 H_101 =>
  bindE (guardR (wantR true t85_96) (mLenSl t88_100 H_101) H_101) fun t89_102 H_103 =>
  bindE (guardR (wantR true t85_96) (some ((AV.c .nilp), H_103)) H_103) fun t90_104 H_105 =>
  bindE (guardR (wantR true t85_96) (cf 66 [t90_104] H_105) H_105) fun t91_106 H_107 =>
  bindE (guardR (wantR true t85_96) (mLenSl t91_106 H_107) H_107) fun t92_108 H_109 =>
  bindE (guardR (wantR true t85_96) (mBin (cfg b) 3 false .add t89_102 t92_108 H_109) H_109) fun t93_110 H_111 =>
  bindE (guardR (wantR true t85_96) (mBin (cfg b) 3 true .eql t93_110 (AV.c (.int .i64 0)) H_111) H_111) fun t94_112 H_113 =>
  bindE (mPick t85_96 t94_112 (AV.c (.bool false)) H_113) fun t95_114 H_115 =>
  endQ (cfg b) false k (resC1 (some t95_114) (some [])) H_115)

/-- (ferryman/ferrymanlaw05.Act).Key -/
noncomputable def p35 (b : Bool) (cf : CallFn) (k : Nat) (t0 : AV) (H : Heap) : Option (AV × Heap) :=
  bindE (mBox 48 t0 H) fun t1_0 H_1 =>
  bindE (mFA 2 2 t1_0 H_1) fun t3_2 H_3 =>
  bindE (mLoad false 1 t3_2 H_3) fun t4_4 H_5 =>
  bindE (mLenSl t4_4 H_5) fun t5_6 H_7 =>
  bindE (mBin (cfg b) 3 true .gtr t5_6 (AV.c (.int .i64 0)) H_7) fun t6_8 H_9 =>
  condR t6_8 (bindE (mFA 2 2 t1_0 H_9) fun t7_10 H_11 =>
  bindE (mLoad false 1 t7_10 H_11) fun t8_12 H_13 =>
  endQ (cfg b) false k (resC1 (some t8_12) (some [])) H_13) (bindE (mFA 1 1 t1_0 H_9) fun t9_14 H_15 =>
  bindE (mLoad false 1 t9_14 H_15) fun t10_16 H_17 =>
  bindE (mBin (cfg b) 5 true .rem t10_16 (AV.c (.int .u8 26)) H_17) fun t11_18 H_19 =>
  bindE (mBin (cfg b) 5 true .add (AV.c (.int .u8 97)) t11_18 H_19) fun t12_20 H_21 =>
  bindE (mFA 1 1 t1_0 H_21) fun t13_22 H_23 =>
  bindE (mLoad false 1 t13_22 H_23) fun t14_24 H_25 =>
  bindE (mBin (cfg b) 5 true .quo t14_24 (AV.c (.int .u8 26)) H_25) fun t15_26 H_27 =>
  bindE (mBin (cfg b) 5 true .add (AV.c (.int .u8 97)) t15_26 H_27) fun t16_28 H_29 =>
  bindE (mBuildSl 5 1 (.int .u8 0) 3 [(0, (AV.c (.int .u8 107))), (1, t12_20), (2, t16_28)] H_29) fun t17_30 H_31 =>
  endQ (cfg b) false k (resC1 (some t17_30) (some [])) H_31)

noncomputable def p39_l0 (b : Bool) (cf : CallFn) (k : Nat) (s : List AV) (H : Heap) : Option (LStep × Heap) :=
  un s fun t1_4 vs_5 => un vs_5 fun t6_6 vs_7 => un vs_7 fun t7_8 vs_9 => un vs_9 fun t13_10 vs_11 => un vs_11 fun t14_12 vs_13 => un vs_13 fun t15_14 vs_15 => un0 vs_15 (bindE (mBin (cfg b) 3 false .lss t15_14 t14_12 H) fun t16_16 H_17 =>
  condR t16_16 (bindE (mIdxS 4 t13_10 t15_14 H_17) fun t18_18 H_19 =>
  bindE (mLoad true 4 t18_18 H_19) fun t19_20 H_21 =>
  bindE (mAlloc 48 (.agg [(.int .u8 0), (.int .u8 0), .nilsl, .nilsl]) H_21) fun t9_22 H_23 =>
  bindE (mStore true 4 t9_22 t19_20 H_23) fun u_24 H_25 =>
  afterD (twice [0, 1, 0, 4, 0, 16, 48, 112, 252, 3, 1023] (fun H_26 => bindE (drawR true [t9_22] (fun F => mLoad true 4 t9_22 F) H_26) fun t20_27 H_28 =>
  bindE (drawR false [t20_27.1] (fun F => cf 35 [t20_27.1] F) H_28) fun t21_29 H_30 =>
  bindE (drawR true [t9_22] (fun F => mFA 3 3 t9_22 F) H_30) fun t22_31 H_32 =>
  bindE (drawR true [t22_31.1] (fun F => mLoad false 1 t22_31.1 F) H_32) fun t23_33 H_34 =>
  bindE (drawR true [t9_22] (fun F => mFA 3 3 t9_22 F) H_34) fun t24_35 H_36 =>
  bindE (drawR true [t24_35.1] (fun F => mLoad false 1 t24_35.1 F) H_36) fun t25_37 H_38 =>
  bindE (drawR true [t25_37.1] (fun F => mLenSl t25_37.1 F) H_38) fun t26_39 H_40 =>
  bindE (drawR true [t26_39.1] (fun F => mMin [t26_39.1, (AV.c (.int .i64 100))] F) H_40) fun t27_41 H_42 =>
  bindE (drawR false [t23_33.1, t27_41.1] (fun F => mSliceSl 1 t23_33.1 none (some t27_41.1) F) H_42) fun t28_43 H_44 =>
  bindE (drawM (some t21_29.1) H_44) fun t10_45 H_46 =>
  bindE (drawM (some t28_43.1) H_46) fun t11_47 H_48 =>
  some (([t10_45.1, t11_47.1], [t20_27.2, t21_29.2, t22_31.2, t23_33.2, t24_35.2, t25_37.2, t26_39.2, t27_41.2, t28_43.2, t10_45.2, t11_47.2]), H_48)) H_25) fun vs_49 H_50 =>
  un vs_49 fun t10_51 vs_52 => un vs_52 fun t11_53 vs_54 => un0 vs_54 (bindE (mBin (cfg b) 3 false .geq t15_14 t1_4 H_50) fun t31_55 H_56 =>
  bindE (guardR (wantR false t31_55) (some (t10_51, H_56)) H_56) fun t33_57 H_58 =>
  bindE (guardR (wantR false t31_55) (mLenSl t33_57 H_58) H_58) fun t34_59 H_60 =>
  bindE (guardR (wantR false t31_55) (mBin (cfg b) 3 true .gtr t34_59 (AV.c (.int .i64 90)) H_60) H_60) fun t35_61 H_62 =>
  bindE (mPick t31_55 (AV.c (.bool true)) t35_61 H_62) fun t36_63 H_64 =>
  condR t36_63 (some (LStep.exit 0 [t6_6, t7_8], H_64)) (bindE (mFA 0 0 t9_22 H_64) fun t37_65 H_66 =>
  bindE (mLoad false 1 t37_65 H_66) fun t38_67 H_68 =>
  bindE (mBin (cfg b) 5 true .rem t38_67 (AV.c (.int .u8 6)) H_68) fun t39_69 H_70 =>
  bindE (mBin (cfg b) 5 true .lss t39_69 (AV.c (.int .u8 4)) H_70) fun t40_71 H_72 =>
  condR t40_71 (bindE (cf 36 [t6_6, t10_51, t11_53] H_72) fun t45_73 H_74 =>
  bindE (mExtract 0 t45_73 H_74) fun t46_75 H_76 =>
  bindE (mExtract 1 t45_73 H_76) fun t47_77 H_78 =>
  bindE (cf 78 [t7_8, t10_51, t11_53] H_78) fun t51_79 H_80 =>
  bindE (mBin (cfg b) 3 true .add t15_14 (AV.c (.int .i64 1)) H_80) fun t61_81 H_82 =>
  some (LStep.cont [t1_4, t46_75, t51_79, t13_10, t14_12, t61_81], H_82)) (bindE (cf 61 [t6_6, t10_51] H_72) fun t55_83 H_84 =>
  bindE (mExtract 0 t55_83 H_84) fun t56_85 H_86 =>
  bindE (mExtract 1 t55_83 H_86) fun t57_87 H_88 =>
  bindE (cf 92 [t7_8, t10_51] H_88) fun t60_89 H_90 =>
  bindE (mBin (cfg b) 3 true .add t15_14 (AV.c (.int .i64 1)) H_90) fun t61_91 H_92 =>
  some (LStep.cont [t1_4, t56_85, t60_89, t13_10, t14_12, t61_91], H_92))))) (some (LStep.exit 0 [t6_6, t7_8], H_17)))
/-- ferryman/ferrymanlaw05.Grow -/
noncomputable def p39 (b : Bool) (cf : CallFn) (k : Nat) (t0 t1 : AV) (H : Heap) : Option (AV × Heap) :=
  bindE (cf 26 [] H) fun t12_0 H_1 =>
  bindE (mLenSl t0 H_1) fun t14_2 H_3 =>
  afterL 0 (loopX k (p39_l0 b cf k) [t1, t12_0, (AV.c .nilsl), t0, t14_2, (AV.c (.int .i64 0))] H_3) (fun vs_93 H_94 =>
  un vs_93 fun t6_95 vs_96 => un vs_96 fun t7_97 vs_98 => un0 vs_98 (endQ (cfg b) false k (resC1 (some t6_95) (resC1 (some t7_97) (some []))) H_94)) (fun vs_93 H_94 => un vs_93 fun t6_99 vs_100 => un vs_100 fun t7_101 vs_102 => un0 vs_102 (endQ (cfg b) false k (resC1 (some AV.any) (resC1 (some AV.any) (some []))) H_94))

theorem p38_eq (b : Bool) (cf : CallFn) (H : Heap) : runG (cfg b) cf An 38 [] H = p38 b cf H.length  H := by kernel_rfl
theorem p14_eq (b : Bool) (cf : CallFn) (t0 t1 t2 : AV) (H : Heap) : runG (cfg b) cf An 14 [t0, t1, t2] H = p14 b cf H.length t0 t1 t2 H := by kernel_rfl
theorem p35_eq (b : Bool) (cf : CallFn) (t0 : AV) (H : Heap) : runG (cfg b) cf An 35 [t0] H = p35 b cf H.length t0 H := by kernel_rfl
theorem p39_eq (b : Bool) (cf : CallFn) (t0 t1 : AV) (H : Heap) : runG (cfg b) cf An 39 [t0, t1] H = p39 b cf H.length t0 t1 H := by kernel_rfl

end Go.Fm

/-
  What the interpreter does to functions, without slots and types; the kernel holds it against the code.
-/
set_option maxRecDepth 100000
set_option linter.unusedVariables false
namespace Go.Fm
open Go Go.Proofs

/-- ferryman/ferrymanlaw06.EpochNil -/
noncomputable def p3 (b : Bool) (cf : CallFn) (k : Nat) (t0 t1 : AV) (H : Heap) : Option (AV × Heap) :=
  bindE (cf 24 [] H) fun t14_0 H_1 =>
  bindE (mUn .not t14_0 H_1) fun t15_2 H_3 =>
  condR t15_2 (endQ (cfg b) false k (resC1 (some (AV.c (.bool false))) (some [])) H_3) (bindE (cf 26 [] H_3) fun t18_4 H_5 =>
  bindE (cf 25 [(AV.c .nilp), t18_4] H_5) fun t19_6 H_7 =>
  bindE (mExtract 0 t19_6 H_7) fun t20_8 H_9 =>
  bindE (mExtract 1 t19_6 H_9) fun t21_10 H_11 =>
  bindE (cf 27 [(AV.c .nilp), t0] H_11) fun t25_12 H_13 =>
  bindE (mExtract 0 t25_12 H_13) fun t26_14 H_15 =>
  bindE (mExtract 1 t25_12 H_15) fun t27_16 H_17 =>
  bindE (mBin (cfg b) 5 true .rem t1 (AV.c (.int .u8 64)) H_17) fun t30_18 H_19 =>
  bindE (mConvI .i64 t30_18 H_19) fun t31_20 H_21 =>
  bindE (mBin (cfg b) 3 true .add (AV.c (.int .i64 1)) t31_20 H_21) fun t32_22 H_23 =>
  bindE (cf 28 [t32_22] H_23) fun t33_24 H_25 =>
  bindE (mExtract 0 t33_24 H_25) fun t34_26 H_27 =>
  bindE (mExtract 1 t33_24 H_27) fun t35_28 H_29 =>
  bindE (cf 25 [t34_26, (AV.c .nilp)] H_29) fun t38_30 H_31 =>
  bindE (mExtract 0 t38_30 H_31) fun t39_32 H_33 =>
  bindE (mExtract 1 t38_30 H_33) fun t40_34 H_35 =>
  bindE (mBin (cfg b) 22 true .eql t20_8 (AV.c (.int .u64 0)) H_35) fun t42_36 H_37 =>
  bindE (guardR (wantR true t42_36) (some (t21_10, H_37)) H_37) fun t44_38 H_39 =>
  bindE (guardR (wantR true t42_36) (mBin (cfg b) 25 true .eql t44_38 (AV.c (.int .i64 1)) H_39) H_39) fun t45_40 H_41 =>
  bindE (mPick t42_36 t45_40 (AV.c (.bool false)) H_41) fun t46_42 H_43 =>
  bindE (guardR (wantR true t46_42) (some (t26_14, H_43)) H_43) fun t48_44 H_45 =>
  bindE (guardR (wantR true t46_42) (mBin (cfg b) 28 true .eql t48_44 (AV.c .nilp) H_45) H_45) fun t49_46 H_47 =>
  bindE (mPick t46_42 t49_46 (AV.c (.bool false)) H_47) fun t50_48 H_49 =>
  bindE (guardR (wantR true t50_48) (some (t27_16, H_49)) H_49) fun t52_50 H_51 =>
  bindE (guardR (wantR true t50_48) (mBin (cfg b) 25 true .eql t52_50 (AV.c (.int .i64 1)) H_51) H_51) fun t53_52 H_53 =>
  bindE (mPick t50_48 t53_52 (AV.c (.bool false)) H_53) fun t54_54 H_55 =>
  bindE (guardR (wantR true t54_54) (some ((AV.c .nilp), H_55)) H_55) fun t56_56 H_57 =>
  bindE (guardR (wantR true t54_54) (cf 29 [t56_56] H_57) H_57) fun t57_58 H_59 =>
  bindE (guardR (wantR true t54_54) (mBin (cfg b) 22 true .eql t57_58 (AV.c (.int .u64 0)) H_59) H_59) fun t58_60 H_61 =>
  bindE (mPick t54_54 t58_60 (AV.c (.bool false)) H_61) fun t59_62 H_63 =>
  bindE (guardR (wantR true t59_62) (some ((AV.c .nilp), H_63)) H_63) fun t61_64 H_65 =>
  bindE (guardR (wantR true t59_62) (cf 30 [t61_64] H_65) H_65) fun t62_66 H_67 =>
  bindE (guardR (wantR true t59_62) (mLenSl t62_66 H_67) H_67) fun t63_68 H_69 =>
  bindE (guardR (wantR true t59_62) (mBin (cfg b) 3 true .eql t63_68 (AV.c (.int .i64 0)) H_69) H_69) fun t64_70 H_71 =>
  bindE (mPick t59_62 t64_70 (AV.c (.bool false)) H_71) fun t65_72 H_73 =>
  bindE (guardR (wantR true t65_72) (some (t35_28, H_73)) H_73) fun t67_74 H_75 =>
  bindE (guardR (wantR true t65_72) (mBin (cfg b) 25 true .eql t67_74 (AV.c (.int .i64 0)) H_75) H_75) fun t68_76 H_77 =>
  bindE (mPick t65_72 t68_76 (AV.c (.bool false)) H_77) fun t69_78 H_79 =>
  bindE (guardR (wantR true t69_78) (some (t39_32, H_79)) H_79) fun t71_80 H_81 =>
  bindE (guardR (wantR true t69_78) (mBin (cfg b) 22 true .eql t71_80 (AV.c (.int .u64 0)) H_81) H_81) fun t72_82 H_83 =>
  bindE (mPick t69_78 t72_82 (AV.c (.bool false)) H_83) fun t73_84 H_85 =>
  bindE (guardR (wantR true t73_84) (some (t40_34, H_85)) H_85) fun t75_86 H_87 =>
  bindE (guardR (wantR true t73_84) (mBin (cfg b) 25 true .eql t75_86 (AV.c (.int .i64 1)) H_87) H_87) fun t76_88 H_89 =>
  bindE (mPick t73_84 t76_88 (AV.c (.bool false)) H_89) fun t77_90 H_91 =>
  bindE (guardR (wantR true t77_90) (some (t34_26, H_91)) H_91) fun t79_92 H_93 =>
  bindE (guardR (wantR true t77_90) (cf 29 [t79_92] H_93) H_93) fun t80_94 H_95 =>
  bindE (guardR (wantR true t77_90) (mBin (cfg b) 22 true .eql t80_94 (AV.c (.int .u64 0)) H_95) H_95) fun t81_96 H_97 =>
  bindE (mPick t77_90 t81_96 (AV.c (.bool false)) H_97) fun t82_98 H_99 =>
  endQ (cfg b) false k (resC1 (some t82_98) (some [])) H_99)

noncomputable def p24_l0 (b : Bool) (cf : CallFn) (k : Nat) (s : List AV) (H : Heap) : Option (LStep × Heap) :=
  un s fun t1_6 vs_7 => un vs_7 fun t2_8 vs_9 => un vs_9 fun t9_10 vs_11 => un0 vs_11 (bindE (mBin (cfg b) 3 true .lss t9_10 (AV.c (.int .i64 3)) H) fun t10_12 H_13 =>
  condR t10_12 (bindE (cf 26 [] H_13) fun t12_14 H_15 =>
  bindE (cf 25 [t1_6, t12_14] H_15) fun t13_16 H_17 =>
  bindE (mBin (cfg b) 3 true .add t9_10 (AV.c (.int .i64 1)) H_17) fun t14_18 H_19 =>
  some (LStep.cont [t1_6, t2_8, t14_18], H_19)) (some (LStep.exit 0 [t1_6, t2_8], H_13)))
/-- ferryman/ferrymanlaw06.Awake -/
noncomputable def p24 (b : Bool) (cf : CallFn) (k : Nat) (H : Heap) : Option (AV × Heap) :=
  bindE (cf 28 [(AV.c (.int .i64 2))] H) fun t6_0 H_1 =>
  bindE (mExtract 0 t6_0 H_1) fun t7_2 H_3 =>
  bindE (mExtract 1 t6_0 H_3) fun t8_4 H_5 =>
  afterL 0 (loopX k (p24_l0 b cf k) [t7_2, t8_4, (AV.c (.int .i64 0))] H_5) (fun vs_20 H_21 =>
  un vs_20 fun t1_22 vs_23 => un vs_23 fun t2_24 vs_25 => un0 vs_25 (bindE (cf 27 [t1_22, (AV.c (.int .u64 1))] H_21) fun t17_26 H_27 =>
  bindE (mExtract 0 t17_26 H_27) fun t18_28 H_29 =>
  bindE (mExtract 1 t17_26 H_29) fun t19_30 H_31 =>
  bindE (mBin (cfg b) 25 true .eql t2_24 (AV.c (.int .i64 0)) H_31) fun t21_32 H_33 =>
  bindE (guardR (wantR true t21_32) (some (t1_22, H_33)) H_33) fun t23_34 H_35 =>
  bindE (guardR (wantR true t21_32) (cf 29 [t23_34] H_35) H_35) fun t24_36 H_37 =>
  bindE (guardR (wantR true t21_32) (mBin (cfg b) 22 true .eql t24_36 (AV.c (.int .u64 3)) H_37) H_37) fun t25_38 H_39 =>
  bindE (mPick t21_32 t25_38 (AV.c (.bool false)) H_39) fun t26_40 H_41 =>
  bindE (guardR (wantR true t26_40) (some (t19_30, H_41)) H_41) fun t28_42 H_43 =>
  bindE (guardR (wantR true t26_40) (mBin (cfg b) 25 true .eql t28_42 (AV.c (.int .i64 11)) H_43) H_43) fun t29_44 H_45 =>
  bindE (mPick t26_40 t29_44 (AV.c (.bool false)) H_45) fun t30_46 H_47 =>
  bindE (guardR (wantR true t30_46) (some (t1_22, H_47)) H_47) fun t32_48 H_49 =>
  bindE (guardR (wantR true t30_46) (cf 30 [t32_48] H_49) H_49) fun t33_50 H_51 =>
  bindE (guardR (wantR true t30_46) (mLenSl t33_50 H_51) H_51) fun t34_52 H_53 =>
  bindE (guardR (wantR true t30_46) (mBin (cfg b) 3 true .eql t34_52 (AV.c (.int .i64 2)) H_53) H_53) fun t35_54 H_55 =>
  bindE (mPick t30_46 t35_54 (AV.c (.bool false)) H_55) fun t36_56 H_57 =>
  endQ (cfg b) false k (resC1 (some t36_56) (some [])) H_57)) (fun vs_20 H_21 => un vs_20 fun t1_58 vs_59 => un vs_59 fun t2_60 vs_61 => un0 vs_61 (endQ (cfg b) false k (resC1 (some AV.any) (some [])) H_21))

theorem p3_eq (b : Bool) (cf : CallFn) (t0 t1 : AV) (H : Heap) : runG (cfg b) cf An 3 [t0, t1] H = p3 b cf H.length t0 t1 H := by kernel_rfl
theorem p24_eq (b : Bool) (cf : CallFn) (H : Heap) : runG (cfg b) cf An 24 [] H = p24 b cf H.length  H := by kernel_rfl

end Go.Fm

