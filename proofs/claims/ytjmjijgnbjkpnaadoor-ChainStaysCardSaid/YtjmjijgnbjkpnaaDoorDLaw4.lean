/-
  A part of the proof: DLaw4.
-/
import Derived.Test.YtjmjijgnbjkpnaaDoorDAnn
set_option linter.all false
set_option autoImplicit true
/-
  What the interpreter does to functions, without slots and types; the kernel holds it against the code.
-/
set_option maxRecDepth 100000
set_option linter.unusedVariables false
namespace Go.Fm
open Go Go.Proofs

/-- ferryman/ferrymanlaw18.ChainApart -/
noncomputable def p4 (b : Bool) (cf : CallFn) (k : Nat) (t0 t1 t2 t3 : AV) (H : Heap) : Option (AV × Heap) :=
  bindE (cf 31 [] H) fun t11_0 H_1 =>
  bindE (mUn .not t11_0 H_1) fun t12_2 H_3 =>
  condR t12_2 (endQ (cfg b) false k (resC1 (some (AV.c (.bool false))) (some [])) H_3) (bindE (mBuildSl 5 1 (.int .u8 0) 4 [(0, (AV.c (.int .u8 118))), (1, (AV.c (.int .u8 97))), (2, (AV.c (.int .u8 108))), (3, (AV.c (.int .u8 115)))] H_3) fun t13_4 H_5 =>
  bindE (mConv0 t13_4 H_5) fun t14_6 H_7 =>
  bindE (mBuildSl 5 1 (.int .u8 0) 1 [(0, t0)] H_7) fun t16_8 H_9 =>
  bindE (mAppend 5 1 1 false t14_6 t16_8 H_9) fun t17_10 H_11 =>
  bindE (cf 32 [t2] H_11) fun t19_12 H_13 =>
  bindE (mAppend 5 1 1 false t17_10 t19_12 H_13) fun t20_14 H_15 =>
  bindE (mBuildSl 5 1 (.int .u8 0) 4 [(0, (AV.c (.int .u8 118))), (1, (AV.c (.int .u8 97))), (2, (AV.c (.int .u8 108))), (3, (AV.c (.int .u8 115)))] H_15) fun t21_16 H_17 =>
  bindE (mConv0 t21_16 H_17) fun t22_18 H_19 =>
  bindE (mBuildSl 5 1 (.int .u8 0) 1 [(0, t1)] H_19) fun t24_20 H_21 =>
  bindE (mAppend 5 1 1 false t22_18 t24_20 H_21) fun t25_22 H_23 =>
  bindE (cf 32 [t3] H_23) fun t27_24 H_25 =>
  bindE (mAppend 5 1 1 false t25_22 t27_24 H_25) fun t28_26 H_27 =>
  bindE (cf 33 [t0, t2] H_27) fun t31_28 H_29 =>
  bindE (cf 33 [t1, t3] H_29) fun t34_30 H_31 =>
  bindE (mBin (cfg b) 41 false .eql t31_28 t34_30 H_31) fun t35_32 H_33 =>
  bindE (mBin (cfg b) 5 false .eql t0 t1 H_33) fun t38_34 H_35 =>
  bindE (guardR (wantR true t38_34) (some (t2, H_35)) H_35) fun t40_36 H_37 =>
  bindE (guardR (wantR true t38_34) (some (t3, H_37)) H_37) fun t41_38 H_39 =>
  bindE (guardR (wantR true t38_34) (mBin (cfg b) 22 false .eql t40_36 t41_38 H_39) H_39) fun t42_40 H_41 =>
  bindE (mPick t38_34 t42_40 (AV.c (.bool false)) H_41) fun t43_42 H_43 =>
  bindE (mBin (cfg b) 4 false .eql t35_32 t43_42 H_43) fun t44_44 H_45 =>
  bindE (guardR (wantR false t44_44) (some (t20_14, H_45)) H_45) fun t46_46 H_47 =>
  bindE (guardR (wantR false t44_44) (some (t28_26, H_47)) H_47) fun t47_48 H_49 =>
  bindE (guardR (wantR false t44_44) (mBuildSl 38 1 .nilsl 2 [(0, t46_46), (1, t47_48)] H_49) H_49) fun t48_50 H_51 =>
  bindE (guardR (wantR false t44_44) (cf 34 [t48_50] H_51) H_51) fun t49_52 H_53 =>
  bindE (mPick t44_44 (AV.c (.bool true)) t49_52 H_53) fun t50_54 H_55 =>
  endQ (cfg b) false k (resC1 (some t50_54) (some [])) H_55)

noncomputable def p32_l0 (b : Bool) (cf : CallFn) (k : Nat) (s : List AV) (H : Heap) : Option (LStep × Heap) :=
  un s fun t0_0 vs_1 => un vs_1 fun t3_2 vs_3 => un vs_3 fun t4_4 vs_5 => un0 vs_5 (bindE (mBin (cfg b) 3 true .lss t4_4 (AV.c (.int .i64 8)) H) fun t6_6 H_7 =>
  condR t6_6 (bindE (mBin (cfg b) 3 true .mul (AV.c (.int .i64 8)) t4_4 H_7) fun t12_8 H_9 =>
  bindE (mBin (cfg b) 3 true .sub (AV.c (.int .i64 56)) t12_8 H_9) fun t13_10 H_11 =>
  bindE (mBin (cfg b) 22 false .shr t0_0 t13_10 H_11) fun t14_12 H_13 =>
  bindE (mConvI .u8 t14_12 H_13) fun t15_14 H_15 =>
  bindE (mBuildSl 5 1 (.int .u8 0) 1 [(0, t15_14)] H_15) fun t16_16 H_17 =>
  bindE (mAppend 5 1 1 false t3_2 t16_16 H_17) fun t17_18 H_19 =>
  bindE (mBin (cfg b) 3 true .add t4_4 (AV.c (.int .i64 1)) H_19) fun t8_20 H_21 =>
  some (LStep.cont [t0_0, t17_18, t8_20], H_21)) (some (LStep.exit 0 [t3_2], H_7)))
/-- ferryman/ferrymanref01.Eight -/
noncomputable def p32 (b : Bool) (cf : CallFn) (k : Nat) (t0 : AV) (H : Heap) : Option (AV × Heap) :=
  afterL 0 (loopX k (p32_l0 b cf k) [t0, (AV.c .nilsl), (AV.c (.int .i64 0))] H) (fun vs_22 H_23 =>
  un vs_22 fun t3_24 vs_25 => un0 vs_25 (endQ (cfg b) false k (resC1 (some t3_24) (some [])) H_23)) (fun vs_22 H_23 => un vs_22 fun t3_26 vs_27 => un0 vs_27 (endQ (cfg b) false k (resC1 (some AV.any) (some [])) H_23))

/-- ferryman/chain.Vals -/
noncomputable def p33 (b : Bool) (cf : CallFn) (k : Nat) (t0 t1 : AV) (H : Heap) : Option (AV × Heap) :=
  bindE (mAlloc 41 (.arr 32 .u8 (List.replicate 32 0)) H) fun t4_0 H_1 =>
  bindE (mBuildSl 5 1 (.int .u8 0) 4 [(0, (AV.c (.int .u8 118))), (1, (AV.c (.int .u8 97))), (2, (AV.c (.int .u8 108))), (3, (AV.c (.int .u8 115)))] H_1) fun t5_2 H_3 =>
  bindE (mConv0 t5_2 H_3) fun t6_4 H_5 =>
  bindE (mBuildSl 5 1 (.int .u8 0) 1 [(0, t0)] H_5) fun t8_6 H_7 =>
  bindE (cf 89 [t1] H_7) fun t10_8 H_9 =>
  bindE (mBuildSl 38 1 .nilsl 3 [(0, t6_4), (1, t8_6), (2, t10_8)] H_9) fun t11_10 H_11 =>
  bindE (cf 88 [t11_10] H_11) fun t12_12 H_13 =>
  bindE (mStore true 32 t4_0 t12_12 H_13) fun u_14 H_15 =>
  endQ (cfg b) false k (resC1 (mld true 32 H_15 t4_0) (some [])) H_15

noncomputable def p34_l0 (b : Bool) (cf : CallFn) (k : Nat) (s : List AV) (H : Heap) : Option (LStep × Heap) :=
  un s fun t0_4 vs_5 => un vs_5 fun t3_6 vs_7 => un vs_7 fun t4_8 vs_9 => un0 vs_9 (bindE (mLenSl t0_4 H) fun t12_10 H_11 =>
  bindE (mBin (cfg b) 3 false .lss t4_8 t12_10 H_11) fun t13_12 H_13 =>
  condR t13_12 (bindE (mIdxS 1 t0_4 t4_8 H_13) fun t20_14 H_15 =>
  bindE (mLoad false 1 t20_14 H_15) fun t21_16 H_17 =>
  bindE (cf 90 [t21_16] H_17) fun t22_18 H_19 =>
  bindE (mIdxS 32 t3_6 t4_8 H_19) fun t23_20 H_21 =>
  bindE (mStore true 32 t23_20 t22_18 H_21) fun u_22 H_23 =>
  bindE (mBin (cfg b) 3 true .add t4_8 (AV.c (.int .i64 1)) H_23) fun t15_24 H_25 =>
  some (LStep.cont [t0_4, t3_6, t15_24], H_25)) (some (LStep.exit 0 [t0_4, t3_6], H_13)))
noncomputable def p34_l4 (b : Bool) (cf : CallFn) (k : Nat) (s : List AV) (H : Heap) : Option (LStep × Heap) :=
  un s fun t0_42 vs_43 => un vs_43 fun t3_44 vs_45 => un vs_45 fun t5_46 vs_47 => un vs_47 fun t6_48 vs_49 => un0 vs_49 (bindE (mBin (cfg b) 3 false .lss t6_48 t5_46 H) fun t32_50 H_51 =>
  condR t32_50 (afterD (twice [0, 0, 3, 7, 0, 0, 48, 112, 255, 511, 1023, 1023, 4095, 8191, 16383, 1023, 1023, 99327, 230399, 492543, 1048575, 2097151] (fun H_52 => bindE (drawM (some t3_44) H_52) fun t35_53 H_54 =>
  bindE (drawM (some t5_46) H_54) fun t36_55 H_56 =>
  bindE (drawR true [t35_53.1, t36_55.1] (fun F => mIdxS 32 t35_53.1 t36_55.1 F) H_56) fun t37_57 H_58 =>
  bindE (drawR true [t37_57.1] (fun F => mLoad true 32 t37_57.1 F) H_58) fun t38_59 H_60 =>
  bindE (drawM (some t3_44) H_60) fun t39_61 H_62 =>
  bindE (drawM (some t6_48) H_62) fun t40_63 H_64 =>
  bindE (drawR true [t39_61.1, t40_63.1] (fun F => mIdxS 32 t39_61.1 t40_63.1 F) H_64) fun t41_65 H_66 =>
  bindE (drawR true [t41_65.1] (fun F => mLoad true 32 t41_65.1 F) H_66) fun t42_67 H_68 =>
  bindE (drawR true [t38_59.1, t42_67.1] (fun F => mBin (cfg b) 41 false .eql t38_59.1 t42_67.1 F) H_68) fun t43_69 H_70 =>
  bindE (drawM (some t43_69.1) H_70) fun t44_71 H_72 =>
  bindE (guardD (wantR true t44_71.1) (drawM (some t0_42) H_72) H_72) fun t45_73 H_74 =>
  bindE (guardD (wantR true t44_71.1) (drawM (some t5_46) H_74) H_74) fun t46_75 H_76 =>
  bindE (guardD (wantR true t44_71.1) (drawR true [t45_73.1, t46_75.1] (fun F => mIdxS 1 t45_73.1 t46_75.1 F) H_76) H_76) fun t47_77 H_78 =>
  bindE (guardD (wantR true t44_71.1) (drawR true [t47_77.1] (fun F => mLoad false 1 t47_77.1 F) H_78) H_78) fun t48_79 H_80 =>
  bindE (guardD (wantR true t44_71.1) (drawR true [t48_79.1] (fun F => mConvBS t48_79.1 F) H_80) H_80) fun t49_81 H_82 =>
  bindE (guardD (wantR true t44_71.1) (drawM (some t0_42) H_82) H_82) fun t50_83 H_84 =>
  bindE (guardD (wantR true t44_71.1) (drawM (some t6_48) H_84) H_84) fun t51_85 H_86 =>
  bindE (guardD (wantR true t44_71.1) (drawR true [t50_83.1, t51_85.1] (fun F => mIdxS 1 t50_83.1 t51_85.1 F) H_86) H_86) fun t52_87 H_88 =>
  bindE (guardD (wantR true t44_71.1) (drawR true [t52_87.1] (fun F => mLoad false 1 t52_87.1 F) H_88) H_88) fun t53_89 H_90 =>
  bindE (guardD (wantR true t44_71.1) (drawR true [t53_89.1] (fun F => mConvBS t53_89.1 F) H_90) H_90) fun t54_91 H_92 =>
  bindE (guardD (wantR true t44_71.1) (drawR true [t49_81.1, t54_91.1] (fun F => mBin (cfg b) 9 false .neq t49_81.1 t54_91.1 F) H_92) H_92) fun t55_93 H_94 =>
  bindE (drawR true [t44_71.1, t55_93.1] (fun F => mPick t44_71.1 t55_93.1 (AV.c (.bool false)) F) H_94) fun t56_95 H_96 =>
  some (([t56_95.1], [t35_53.2, t36_55.2, t37_57.2, t38_59.2, t39_61.2, t40_63.2, t41_65.2, t42_67.2, t43_69.2, t44_71.2, t45_73.2, t46_75.2, t47_77.2, t48_79.2, t49_81.2, t50_83.2, t51_85.2, t52_87.2, t53_89.2, t54_91.2, t55_93.2, t56_95.2]), H_96)) H_51) fun vs_97 H_98 =>
  un vs_97 fun t56_99 vs_100 => un0 vs_100 (condR t56_99 (some (LStep.ret [t0_42, (AV.c (.bool true)), t3_44, t5_46], H_98)) (bindE (mBin (cfg b) 3 true .add t6_48 (AV.c (.int .i64 1)) H_98) fun t34_101 H_102 =>
  some (LStep.cont [t0_42, t3_44, t5_46, t34_101], H_102)))) (some (LStep.exit 4 [t0_42, AV.any, t3_44, t5_46], H_51)))
noncomputable def p34_l2 (b : Bool) (cf : CallFn) (k : Nat) (s : List AV) (H : Heap) : Option (LStep × Heap) :=
  un s fun t0_32 vs_33 => un vs_33 fun t3_34 vs_35 => un vs_35 fun t5_36 vs_37 => un0 vs_37 (bindE (mLenSl t0_32 H) fun t26_38 H_39 =>
  bindE (mBin (cfg b) 3 false .lss t5_36 t26_38 H_39) fun t27_40 H_41 =>
  condR t27_40 (afterL 4 (loopX k (p34_l4 b cf k) [t0_32, t3_34, t5_36, (AV.c (.int .i64 0))] H_41) (fun vs_103 H_104 =>
  un vs_103 fun t0_105 vs_106 => un vs_106 fun t2_107 vs_108 => un vs_108 fun t3_109 vs_110 => un vs_110 fun t5_111 vs_112 => un0 vs_112 (bindE (mBin (cfg b) 3 true .add t5_111 (AV.c (.int .i64 1)) H_104) fun t29_113 H_114 =>
  some (LStep.cont [t0_105, t3_109, t29_113], H_114))) (fun vs_103 H_104 => un vs_103 fun t0_115 vs_116 => un vs_116 fun t2_117 vs_118 => un vs_118 fun t3_119 vs_120 => un vs_120 fun t5_121 vs_122 => un0 vs_122 (some (LStep.ret [t2_117], H_104)))) (some (LStep.exit 2 [AV.any], H_41)))
/-- ferryman/ferrymanref01.Clash -/
noncomputable def p34 (b : Bool) (cf : CallFn) (k : Nat) (t0 : AV) (H : Heap) : Option (AV × Heap) :=
  bindE (mLenSl t0 H) fun t8_0 H_1 =>
  bindE (mMakeSl 41 32 32 (.arr 32 .u8 (List.replicate 32 0)) t8_0 t8_0 H_1) fun t9_2 H_3 =>
  afterL 0 (loopX k (p34_l0 b cf k) [t0, t9_2, (AV.c (.int .i64 0))] H_3) (fun vs_26 H_27 =>
  un vs_26 fun t0_28 vs_29 => un vs_29 fun t3_30 vs_31 => un0 vs_31 (afterL 2 (loopX k (p34_l2 b cf k) [t0_28, t3_30, (AV.c (.int .i64 0))] H_27) (fun vs_123 H_124 =>
  un vs_123 fun t2_125 vs_126 => un0 vs_126 (endQ (cfg b) false k (resC1 (some (AV.c (.bool false))) (some [])) H_124)) (fun vs_123 H_124 => un vs_123 fun t2_127 vs_128 => un0 vs_128 (endQ (cfg b) false k (resC1 (some t2_127) (some [])) H_124)))) (fun vs_26 H_27 => un vs_26 fun t0_129 vs_130 => un vs_130 fun t3_131 vs_132 => un0 vs_132 (endQ (cfg b) false k (resC1 (some AV.any) (some [])) H_27))

noncomputable def p89_l0 (b : Bool) (cf : CallFn) (k : Nat) (s : List AV) (H : Heap) : Option (LStep × Heap) :=
  un s fun t0_0 vs_1 => un vs_1 fun t3_2 vs_3 => un vs_3 fun t4_4 vs_5 => un0 vs_5 (bindE (mBin (cfg b) 3 true .geq t4_4 (AV.c (.int .i64 0)) H) fun t6_6 H_7 =>
  condR t6_6 (bindE (mBin (cfg b) 22 false .shr t0_0 t4_4 H_7) fun t12_8 H_9 =>
  bindE (mConvI .u8 t12_8 H_9) fun t13_10 H_11 =>
  bindE (mBuildSl 5 1 (.int .u8 0) 1 [(0, t13_10)] H_11) fun t14_12 H_13 =>
  bindE (mAppend 5 1 1 false t3_2 t14_12 H_13) fun t15_14 H_15 =>
  bindE (mBin (cfg b) 3 true .sub t4_4 (AV.c (.int .i64 8)) H_15) fun t8_16 H_17 =>
  some (LStep.cont [t0_0, t15_14, t8_16], H_17)) (some (LStep.exit 0 [t3_2], H_7)))
/-- ferryman/keys.Num -/
noncomputable def p89 (b : Bool) (cf : CallFn) (k : Nat) (t0 : AV) (H : Heap) : Option (AV × Heap) :=
  afterL 0 (loopX k (p89_l0 b cf k) [t0, (AV.c .nilsl), (AV.c (.int .i64 56))] H) (fun vs_18 H_19 =>
  un vs_18 fun t3_20 vs_21 => un0 vs_21 (endQ (cfg b) false k (resC1 (some t3_20) (some [])) H_19)) (fun vs_18 H_19 => un vs_18 fun t3_22 vs_23 => un0 vs_23 (endQ (cfg b) false k (resC1 (some AV.any) (some [])) H_19))

/-- ferryman/ferrymanref01.turn -/
noncomputable def p122 (b : Bool) (cf : CallFn) (k : Nat) (t0 t1 : AV) (H : Heap) : Option (AV × Heap) :=
  afterD (twice [0, 0, 3, 0, 0, 16, 56, 127, 255] (fun H_0 => bindE (drawM (some t0) H_0) fun t5_1 H_2 =>
  bindE (drawM (some t1) H_2) fun t6_3 H_4 =>
  bindE (drawR true [t5_1.1, t6_3.1] (fun F => mBin (cfg b) 192 false .shr t5_1.1 t6_3.1 F) H_4) fun t7_5 H_6 =>
  bindE (drawM (some t0) H_6) fun t8_7 H_8 =>
  bindE (drawM (some t1) H_8) fun t9_9 H_10 =>
  bindE (drawR true [t9_9.1] (fun F => mBin (cfg b) 3 true .sub (AV.c (.int .i64 32)) t9_9.1 F) H_10) fun t10_11 H_12 =>
  bindE (drawR true [t8_7.1, t10_11.1] (fun F => mBin (cfg b) 192 false .shl t8_7.1 t10_11.1 F) H_12) fun t11_13 H_14 =>
  bindE (drawR true [t7_5.1, t11_13.1] (fun F => mBin (cfg b) 192 false .or t7_5.1 t11_13.1 F) H_14) fun t12_15 H_16 =>
  bindE (drawM (some t12_15.1) H_16) fun t4_17 H_18 =>
  some (([t4_17.1], [t5_1.2, t6_3.2, t7_5.2, t8_7.2, t9_9.2, t10_11.2, t11_13.2, t12_15.2, t4_17.2]), H_18)) H) fun vs_19 H_20 =>
  un vs_19 fun t4_21 vs_22 => un0 vs_22 (endQ (cfg b) false k (resC1 (some t4_21) (some [])) H_20)

theorem p4_eq (b : Bool) (cf : CallFn) (t0 t1 t2 t3 : AV) (H : Heap) : runG (cfg b) cf An 4 [t0, t1, t2, t3] H = p4 b cf H.length t0 t1 t2 t3 H := by kernel_rfl
theorem p32_eq (b : Bool) (cf : CallFn) (t0 : AV) (H : Heap) : runG (cfg b) cf An 32 [t0] H = p32 b cf H.length t0 H := by kernel_rfl
theorem p33_eq (b : Bool) (cf : CallFn) (t0 t1 : AV) (H : Heap) : runG (cfg b) cf An 33 [t0, t1] H = p33 b cf H.length t0 t1 H := by kernel_rfl
theorem p34_eq (b : Bool) (cf : CallFn) (t0 : AV) (H : Heap) : runG (cfg b) cf An 34 [t0] H = p34 b cf H.length t0 H := by kernel_rfl
theorem p89_eq (b : Bool) (cf : CallFn) (t0 : AV) (H : Heap) : runG (cfg b) cf An 89 [t0] H = p89 b cf H.length t0 H := by kernel_rfl
theorem p122_eq (b : Bool) (cf : CallFn) (t0 t1 : AV) (H : Heap) : runG (cfg b) cf An 122 [t0, t1] H = p122 b cf H.length t0 t1 H := by kernel_rfl

end Go.Fm

