/-
  A part of the proof: DMisb.
-/
import Derived.Test.YtjmjijgnbjkpnaaDoorDAnn
set_option linter.all false
set_option autoImplicit true
/-
  What the interpreter does to functions, without slots and types; the kernel holds it against the code.
-/
set_option maxRecDepth 100000
set_option linter.unusedVariables false
namespace Go.Fm
open Go Go.Proofs
noncomputable def p38_l0 (b : Bool) (cf : CallFn) (k : Nat) (s : List AV) (H : Heap) : Option (LStep × Heap) :=
  un s fun t1_6 vs_7 => un vs_7 fun t9_8 vs_9 => un vs_9 fun t10_10 vs_11 => un vs_11 fun t11_12 vs_13 => un0 vs_13 (bindE (mBin (cfg b) 3 false .lss t11_12 t10_10 H) fun t12_14 H_15 =>
  condR t12_14 (bindE (mIdxS 1 t9_8 t11_12 H_15) fun t13_16 H_17 =>
  bindE (mLoad false 1 t13_16 H_17) fun t14_18 H_19 =>
  bindE (mConvSB 5 t14_18 H_19) fun t18_20 H_21 =>
  bindE (cf 36 [t1_6, t18_20, (AV.c .nilsl)] H_21) fun t19_22 H_23 =>
  bindE (mExtract 0 t19_22 H_23) fun t20_24 H_25 =>
  bindE (mExtract 1 t19_22 H_25) fun t21_26 H_27 =>
  bindE (mBin (cfg b) 3 true .add t11_12 (AV.c (.int .i64 1)) H_27) fun t22_28 H_29 =>
  some (LStep.cont [t20_24, t9_8, t10_10, t22_28], H_29)) (some (LStep.exit 0 [t1_6], H_15)))
/-- ferryman/ferrymanlaw05.Awake -/
noncomputable def p38 (b : Bool) (cf : CallFn) (k : Nat) (H : Heap) : Option (AV × Heap) :=
  bindE (cf 26 [] H) fun t8_0 H_1 =>
  bindE (mBuildSl 9 1 (.str ⟨#[]⟩) 4 [(0, (AV.c (.str ⟨#[97]⟩))), (1, (AV.c (.str ⟨#[98]⟩))), (2, (AV.c (.str ⟨#[99]⟩))), (3, (AV.c (.str ⟨#[100]⟩)))] H_1) fun t9_2 H_3 =>
  bindE (mLenSl t9_2 H_3) fun t10_4 H_5 =>
  afterL 0 (loopX k (p38_l0 b cf k) [t8_0, t9_2, t10_4, (AV.c (.int .i64 0))] H_5) (fun vs_30 H_31 =>
  un vs_30 fun t1_32 vs_33 => un0 vs_33 (bindE (cf 45 [t1_32, (AV.c .nilsl)] H_31) fun t25_34 H_35 =>
  bindE (mExtract 0 t25_34 H_35) fun t26_36 H_37 =>
  bindE (mExtract 1 t25_34 H_37) fun t27_38 H_39 =>
  bindE (mAlloc 66 (.agg [.nilsl, .nilsl, (.int .i64 0), (.int .u64 0), (.arr 32 .u8 (List.replicate 32 0)), (.arr 32 .u8 (List.replicate 32 0))]) H_39) fun t4_40 H_41 =>
  bindE (mStore true 68 t4_40 t26_36 H_41) fun u_42 H_43 =>
  bindE (mBuildSl 5 1 (.int .u8 0) 1 [(0, (AV.c (.int .u8 100)))] H_43) fun t30_44 H_45 =>
  bindE (mConv0 t30_44 H_45) fun t31_46 H_47 =>
  bindE (cf 63 [t1_32, t31_46] H_47) fun t32_48 H_49 =>
  bindE (mExtract 0 t32_48 H_49) fun t33_50 H_51 =>
  bindE (mExtract 1 t32_48 H_51) fun t34_52 H_53 =>
  bindE (guardR (wantR true t27_38) (some (t34_52, H_53)) H_53) fun t37_54 H_55 =>
  bindE (mPick t27_38 t37_54 (AV.c (.bool false)) H_55) fun t38_56 H_57 =>
  bindE (guardR (wantR true t38_56) (some (t33_50, H_57)) H_57) fun t40_58 H_59 =>
  bindE (guardR (wantR true t38_56) (mLenSl t40_58 H_59) H_59) fun t41_60 H_61 =>
  bindE (guardR (wantR true t38_56) (mBin (cfg b) 3 true .eql t41_60 (AV.c (.int .i64 0)) H_61) H_61) fun t42_62 H_63 =>
  bindE (mPick t38_56 t42_62 (AV.c (.bool false)) H_63) fun t43_64 H_65 =>
  bindE (guardR (wantR true t43_64) (some (t1_32, H_65)) H_65) fun t45_66 H_67 =>
  bindE (guardR (wantR true t43_64) (cf 47 [t45_66] H_67) H_67) fun t46_68 H_69 =>
  bindE (guardR (wantR true t43_64) (mBin (cfg b) 3 true .eql t46_68 (AV.c (.int .i64 4)) H_69) H_69) fun t47_70 H_71 =>
  bindE (mPick t43_64 t47_70 (AV.c (.bool false)) H_71) fun t48_72 H_73 =>
  bindE (guardR (wantR true t48_72) (mFA 2 2 t4_40 H_73) H_73) fun t50_74 H_75 =>
  bindE (guardR (wantR true t48_72) (mLoad false 1 t50_74 H_75) H_75) fun t51_76 H_77 =>
  bindE (guardR (wantR true t48_72) (mBin (cfg b) 3 true .eql t51_76 (AV.c (.int .i64 2)) H_77) H_77) fun t52_78 H_79 =>
  bindE (mPick t48_72 t52_78 (AV.c (.bool false)) H_79) fun t53_80 H_81 =>
  bindE (guardR (wantR true t53_80) (mFA 3 3 t4_40 H_81) H_81) fun t55_82 H_83 =>
  bindE (guardR (wantR true t53_80) (mLoad false 1 t55_82 H_83) H_83) fun t56_84 H_85 =>
  bindE (guardR (wantR true t53_80) (mBin (cfg b) 22 true .eql t56_84 (AV.c (.int .u64 4)) H_85) H_85) fun t57_86 H_87 =>
  bindE (mPick t53_80 t57_86 (AV.c (.bool false)) H_87) fun t58_88 H_89 =>
  bindE (guardR (wantR true t58_88) (mFA 0 0 t4_40 H_89) H_89) fun t60_90 H_91 =>
  bindE (guardR (wantR true t58_88) (mLoad false 1 t60_90 H_91) H_91) fun t61_92 H_93 =>
  bindE (guardR (wantR true t58_88) (mConvBS t61_92 H_93) H_93) fun t62_94 H_95 =>
  bindE (guardR (wantR true t58_88) (mBin (cfg b) 9 true .eql t62_94 (AV.c (.str ⟨#[99]⟩)) H_95) H_95) fun t63_96 H_97 =>
  bindE (mPick t58_88 t63_96 (AV.c (.bool false)) H_97) fun t64_98 H_99 =>
  endQ (cfg b) false k (resC1 (some t64_98) (some [])) H_99)) (fun vs_30 H_31 => un vs_30 fun t1_100 vs_101 => un0 vs_101 (endQ (cfg b) false k (resC1 (some AV.any) (some [])) H_31))
/-- (ferryman/ferrymanlaw05.Act).Key -/
noncomputable def p35 (b : Bool) (cf : CallFn) (k : Nat) (t0 : AV) (H : Heap) : Option (AV × Heap) :=
  bindE (mBox 48 t0 H) fun t1_0 H_1 =>
  bindE (mFA 2 2 t1_0 H_1) fun t3_2 H_3 =>
  bindE (mLoad false 1 t3_2 H_3) fun t4_4 H_5 =>
  bindE (mLenSl t4_4 H_5) fun t5_6 H_7 =>
  bindE (mBin (cfg b) 3 true .gtr t5_6 (AV.c (.int .i64 0)) H_7) fun t6_8 H_9 =>
  condR t6_8 (bindE (mFA 2 2 t1_0 H_9) fun t7_10 H_11 =>
  bindE (mLoad false 1 t7_10 H_11) fun t8_12 H_13 =>
  endQ (cfg b) false k (resC1 (some t8_12) (some [])) H_13) (bindE (mFA 1 1 t1_0 H_9) fun t9_14 H_15 =>
  bindE (mLoad false 1 t9_14 H_15) fun t10_16 H_17 =>
  bindE (mBin (cfg b) 5 true .rem t10_16 (AV.c (.int .u8 26)) H_17) fun t11_18 H_19 =>
  bindE (mBin (cfg b) 5 true .add (AV.c (.int .u8 97)) t11_18 H_19) fun t12_20 H_21 =>
  bindE (mFA 1 1 t1_0 H_21) fun t13_22 H_23 =>
  bindE (mLoad false 1 t13_22 H_23) fun t14_24 H_25 =>
  bindE (mBin (cfg b) 5 true .quo t14_24 (AV.c (.int .u8 26)) H_25) fun t15_26 H_27 =>
  bindE (mBin (cfg b) 5 true .add (AV.c (.int .u8 97)) t15_26 H_27) fun t16_28 H_29 =>
  bindE (mBuildSl 5 1 (.int .u8 0) 3 [(0, (AV.c (.int .u8 107))), (1, t12_20), (2, t16_28)] H_29) fun t17_30 H_31 =>
  endQ (cfg b) false k (resC1 (some t17_30) (some [])) H_31)
noncomputable def p39_l0 (b : Bool) (cf : CallFn) (k : Nat) (s : List AV) (H : Heap) : Option (LStep × Heap) :=
  un s fun t1_4 vs_5 => un vs_5 fun t6_6 vs_7 => un vs_7 fun t7_8 vs_9 => un vs_9 fun t13_10 vs_11 => un vs_11 fun t14_12 vs_13 => un vs_13 fun t15_14 vs_15 => un0 vs_15 (bindE (mBin (cfg b) 3 false .lss t15_14 t14_12 H) fun t16_16 H_17 =>
  condR t16_16 (bindE (mIdxS 4 t13_10 t15_14 H_17) fun t18_18 H_19 =>
  bindE (mLoad true 4 t18_18 H_19) fun t19_20 H_21 =>
  bindE (mAlloc 48 (.agg [(.int .u8 0), (.int .u8 0), .nilsl, .nilsl]) H_21) fun t9_22 H_23 =>
  bindE (mStore true 4 t9_22 t19_20 H_23) fun u_24 H_25 =>
  afterD (twice [0, 1, 0, 4, 0, 16, 48, 112, 252, 3, 1023] (fun H_26 => bindE (drawR true [t9_22] (fun F => mLoad true 4 t9_22 F) H_26) fun t20_27 H_28 =>
  bindE (drawR false [t20_27.1] (fun F => cf 35 [t20_27.1] F) H_28) fun t21_29 H_30 =>
  bindE (drawR true [t9_22] (fun F => mFA 3 3 t9_22 F) H_30) fun t22_31 H_32 =>
  bindE (drawR true [t22_31.1] (fun F => mLoad false 1 t22_31.1 F) H_32) fun t23_33 H_34 =>
  bindE (drawR true [t9_22] (fun F => mFA 3 3 t9_22 F) H_34) fun t24_35 H_36 =>
  bindE (drawR true [t24_35.1] (fun F => mLoad false 1 t24_35.1 F) H_36) fun t25_37 H_38 =>
  bindE (drawR true [t25_37.1] (fun F => mLenSl t25_37.1 F) H_38) fun t26_39 H_40 =>
  bindE (drawR true [t26_39.1] (fun F => mMin [t26_39.1, (AV.c (.int .i64 100))] F) H_40) fun t27_41 H_42 =>
  bindE (drawR false [t23_33.1, t27_41.1] (fun F => mSliceSl 1 t23_33.1 none (some t27_41.1) F) H_42) fun t28_43 H_44 =>
  bindE (drawM (some t21_29.1) H_44) fun t10_45 H_46 =>
  bindE (drawM (some t28_43.1) H_46) fun t11_47 H_48 =>
  some (([t10_45.1, t11_47.1], [t20_27.2, t21_29.2, t22_31.2, t23_33.2, t24_35.2, t25_37.2, t26_39.2, t27_41.2, t28_43.2, t10_45.2, t11_47.2]), H_48)) H_25) fun vs_49 H_50 =>
  un vs_49 fun t10_51 vs_52 => un vs_52 fun t11_53 vs_54 => un0 vs_54 (bindE (mBin (cfg b) 3 false .geq t15_14 t1_4 H_50) fun t31_55 H_56 =>
  bindE (guardR (wantR false t31_55) (some (t10_51, H_56)) H_56) fun t33_57 H_58 =>
  bindE (guardR (wantR false t31_55) (mLenSl t33_57 H_58) H_58) fun t34_59 H_60 =>
  bindE (guardR (wantR false t31_55) (mBin (cfg b) 3 true .gtr t34_59 (AV.c (.int .i64 90)) H_60) H_60) fun t35_61 H_62 =>
  bindE (mPick t31_55 (AV.c (.bool true)) t35_61 H_62) fun t36_63 H_64 =>
  condR t36_63 (some (LStep.exit 0 [t6_6, t7_8], H_64)) (bindE (mFA 0 0 t9_22 H_64) fun t37_65 H_66 =>
  bindE (mLoad false 1 t37_65 H_66) fun t38_67 H_68 =>
  bindE (mBin (cfg b) 5 true .rem t38_67 (AV.c (.int .u8 6)) H_68) fun t39_69 H_70 =>
  bindE (mBin (cfg b) 5 true .lss t39_69 (AV.c (.int .u8 4)) H_70) fun t40_71 H_72 =>
  condR t40_71 (bindE (cf 36 [t6_6, t10_51, t11_53] H_72) fun t45_73 H_74 =>
  bindE (mExtract 0 t45_73 H_74) fun t46_75 H_76 =>
  bindE (mExtract 1 t45_73 H_76) fun t47_77 H_78 =>
  bindE (cf 78 [t7_8, t10_51, t11_53] H_78) fun t51_79 H_80 =>
  bindE (mBin (cfg b) 3 true .add t15_14 (AV.c (.int .i64 1)) H_80) fun t61_81 H_82 =>
  some (LStep.cont [t1_4, t46_75, t51_79, t13_10, t14_12, t61_81], H_82)) (bindE (cf 61 [t6_6, t10_51] H_72) fun t55_83 H_84 =>
  bindE (mExtract 0 t55_83 H_84) fun t56_85 H_86 =>
  bindE (mExtract 1 t55_83 H_86) fun t57_87 H_88 =>
  bindE (cf 92 [t7_8, t10_51] H_88) fun t60_89 H_90 =>
  bindE (mBin (cfg b) 3 true .add t15_14 (AV.c (.int .i64 1)) H_90) fun t61_91 H_92 =>
  some (LStep.cont [t1_4, t56_85, t60_89, t13_10, t14_12, t61_91], H_92))))) (some (LStep.exit 0 [t6_6, t7_8], H_17)))
/-- ferryman/ferrymanlaw05.Grow -/
noncomputable def p39 (b : Bool) (cf : CallFn) (k : Nat) (t0 t1 : AV) (H : Heap) : Option (AV × Heap) :=
  bindE (cf 26 [] H) fun t12_0 H_1 =>
  bindE (mLenSl t0 H_1) fun t14_2 H_3 =>
  afterL 0 (loopX k (p39_l0 b cf k) [t1, t12_0, (AV.c .nilsl), t0, t14_2, (AV.c (.int .i64 0))] H_3) (fun vs_93 H_94 =>
  un vs_93 fun t6_95 vs_96 => un vs_96 fun t7_97 vs_98 => un0 vs_98 (endQ (cfg b) false k (resC1 (some t6_95) (resC1 (some t7_97) (some []))) H_94)) (fun vs_93 H_94 => un vs_93 fun t6_99 vs_100 => un vs_100 fun t7_101 vs_102 => un0 vs_102 (endQ (cfg b) false k (resC1 (some AV.any) (resC1 (some AV.any) (some []))) H_94))
theorem p38_eq (b : Bool) (cf : CallFn) (H : Heap) : runG (cfg b) cf An 38 [] H = p38 b cf H.length  H := by kernel_rfl
theorem p35_eq (b : Bool) (cf : CallFn) (t0 : AV) (H : Heap) : runG (cfg b) cf An 35 [t0] H = p35 b cf H.length t0 H := by kernel_rfl
theorem p39_eq (b : Bool) (cf : CallFn) (t0 t1 : AV) (H : Heap) : runG (cfg b) cf An 39 [t0, t1] H = p39 b cf H.length t0 t1 H := by kernel_rfl
end Go.Fm
