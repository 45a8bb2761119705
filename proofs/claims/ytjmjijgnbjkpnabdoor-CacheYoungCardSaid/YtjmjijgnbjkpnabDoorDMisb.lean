/-
  A part of the proof: DMisb.
-/
import Derived.Test.YtjmjijgnbjkpnabDoorDAnn
set_option linter.all false
set_option autoImplicit true
/-
  What the interpreter does to functions, without slots and types; the kernel holds it against the code.
-/
set_option maxRecDepth 100000
set_option linter.unusedVariables false
namespace Go.Fm
open Go Go.Proofs
noncomputable def p18_l0 (b : Bool) (cf : CallFn) (k : Nat) (s : List AV) (H : Heap) : Option (LStep × Heap) :=
  un s fun t1_4 vs_5 => un vs_5 fun t6_6 vs_7 => un vs_7 fun t7_8 vs_9 => un vs_9 fun t13_10 vs_11 => un vs_11 fun t14_12 vs_13 => un vs_13 fun t15_14 vs_15 => un0 vs_15 (bindE (mBin (cfg b) 3 false .lss t15_14 t14_12 H) fun t16_16 H_17 =>
  condR t16_16 (bindE (mIdxS 4 t13_10 t15_14 H_17) fun t18_18 H_19 =>
  bindE (mLoad true 4 t18_18 H_19) fun t19_20 H_21 =>
  bindE (mAlloc 89 (.agg [(.int .u8 0), (.int .u8 0), .nilsl, .nilsl]) H_21) fun t9_22 H_23 =>
  bindE (mStore true 4 t9_22 t19_20 H_23) fun u_24 H_25 =>
  afterD (twice [0, 1, 0, 4, 0, 16, 48, 112, 252, 3, 1023] (fun H_26 => bindE (drawR true [t9_22] (fun F => mLoad true 4 t9_22 F) H_26) fun t20_27 H_28 =>
  bindE (drawR false [t20_27.1] (fun F => cf 32 [t20_27.1] F) H_28) fun t21_29 H_30 =>
  bindE (drawR true [t9_22] (fun F => mFA 3 3 t9_22 F) H_30) fun t22_31 H_32 =>
  bindE (drawR true [t22_31.1] (fun F => mLoad false 1 t22_31.1 F) H_32) fun t23_33 H_34 =>
  bindE (drawR true [t9_22] (fun F => mFA 3 3 t9_22 F) H_34) fun t24_35 H_36 =>
  bindE (drawR true [t24_35.1] (fun F => mLoad false 1 t24_35.1 F) H_36) fun t25_37 H_38 =>
  bindE (drawR true [t25_37.1] (fun F => mLenSl t25_37.1 F) H_38) fun t26_39 H_40 =>
  bindE (drawR true [t26_39.1] (fun F => mMin [t26_39.1, (AV.c (.int .i64 100))] F) H_40) fun t27_41 H_42 =>
  bindE (drawR false [t23_33.1, t27_41.1] (fun F => mSliceSl 1 t23_33.1 none (some t27_41.1) F) H_42) fun t28_43 H_44 =>
  bindE (drawM (some t21_29.1) H_44) fun t10_45 H_46 =>
  bindE (drawM (some t28_43.1) H_46) fun t11_47 H_48 =>
  some (([t10_45.1, t11_47.1], [t20_27.2, t21_29.2, t22_31.2, t23_33.2, t24_35.2, t25_37.2, t26_39.2, t27_41.2, t28_43.2, t10_45.2, t11_47.2]), H_48)) H_25) fun vs_49 H_50 =>
  un vs_49 fun t10_51 vs_52 => un vs_52 fun t11_53 vs_54 => un0 vs_54 (bindE (mBin (cfg b) 3 false .geq t15_14 t1_4 H_50) fun t31_55 H_56 =>
  bindE (guardR (wantR false t31_55) (some (t10_51, H_56)) H_56) fun t33_57 H_58 =>
  bindE (guardR (wantR false t31_55) (mLenSl t33_57 H_58) H_58) fun t34_59 H_60 =>
  bindE (guardR (wantR false t31_55) (mBin (cfg b) 3 true .gtr t34_59 (AV.c (.int .i64 90)) H_60) H_60) fun t35_61 H_62 =>
  bindE (mPick t31_55 (AV.c (.bool true)) t35_61 H_62) fun t36_63 H_64 =>
  condR t36_63 (some (LStep.exit 0 [t6_6, t7_8], H_64)) (bindE (mFA 0 0 t9_22 H_64) fun t37_65 H_66 =>
  bindE (mLoad false 1 t37_65 H_66) fun t38_67 H_68 =>
  bindE (mBin (cfg b) 5 true .rem t38_67 (AV.c (.int .u8 6)) H_68) fun t39_69 H_70 =>
  bindE (mBin (cfg b) 5 true .lss t39_69 (AV.c (.int .u8 4)) H_70) fun t40_71 H_72 =>
  condR t40_71 (bindE (cf 12 [t6_6, t10_51, t11_53] H_72) fun t45_73 H_74 =>
  bindE (mExtract 0 t45_73 H_74) fun t46_75 H_76 =>
  bindE (mExtract 1 t45_73 H_76) fun t47_77 H_78 =>
  bindE (cf 33 [t7_8, t10_51, t11_53] H_78) fun t51_79 H_80 =>
  bindE (mBin (cfg b) 3 true .add t15_14 (AV.c (.int .i64 1)) H_80) fun t61_81 H_82 =>
  some (LStep.cont [t1_4, t46_75, t51_79, t13_10, t14_12, t61_81], H_82)) (bindE (cf 34 [t6_6, t10_51] H_72) fun t55_83 H_84 =>
  bindE (mExtract 0 t55_83 H_84) fun t56_85 H_86 =>
  bindE (mExtract 1 t55_83 H_86) fun t57_87 H_88 =>
  bindE (cf 35 [t7_8, t10_51] H_88) fun t60_89 H_90 =>
  bindE (mBin (cfg b) 3 true .add t15_14 (AV.c (.int .i64 1)) H_90) fun t61_91 H_92 =>
  some (LStep.cont [t1_4, t56_85, t60_89, t13_10, t14_12, t61_91], H_92))))) (some (LStep.exit 0 [t6_6, t7_8], H_17)))
/-- ferryman/ferrymanlaw05.Grow -/
noncomputable def p18 (b : Bool) (cf : CallFn) (k : Nat) (t0 t1 : AV) (H : Heap) : Option (AV × Heap) :=
  bindE (cf 11 [] H) fun t12_0 H_1 =>
  bindE (mLenSl t0 H_1) fun t14_2 H_3 =>
  afterL 0 (loopX k (p18_l0 b cf k) [t1, t12_0, (AV.c .nilsl), t0, t14_2, (AV.c (.int .i64 0))] H_3) (fun vs_93 H_94 =>
  un vs_93 fun t6_95 vs_96 => un vs_96 fun t7_97 vs_98 => un0 vs_98 (endQ (cfg b) false k (resC1 (some t6_95) (resC1 (some t7_97) (some []))) H_94)) (fun vs_93 H_94 => un vs_93 fun t6_99 vs_100 => un vs_100 fun t7_101 vs_102 => un0 vs_102 (endQ (cfg b) false k (resC1 (some AV.any) (resC1 (some AV.any) (some []))) H_94))
/-- (ferryman/ferrymanlaw05.Act).Key -/
noncomputable def p32 (b : Bool) (cf : CallFn) (k : Nat) (t0 : AV) (H : Heap) : Option (AV × Heap) :=
  bindE (mBox 89 t0 H) fun t1_0 H_1 =>
  bindE (mFA 2 2 t1_0 H_1) fun t3_2 H_3 =>
  bindE (mLoad false 1 t3_2 H_3) fun t4_4 H_5 =>
  bindE (mLenSl t4_4 H_5) fun t5_6 H_7 =>
  bindE (mBin (cfg b) 3 true .gtr t5_6 (AV.c (.int .i64 0)) H_7) fun t6_8 H_9 =>
  condR t6_8 (bindE (mFA 2 2 t1_0 H_9) fun t7_10 H_11 =>
  bindE (mLoad false 1 t7_10 H_11) fun t8_12 H_13 =>
  endQ (cfg b) false k (resC1 (some t8_12) (some [])) H_13) (bindE (mFA 1 1 t1_0 H_9) fun t9_14 H_15 =>
  bindE (mLoad false 1 t9_14 H_15) fun t10_16 H_17 =>
  bindE (mBin (cfg b) 5 true .rem t10_16 (AV.c (.int .u8 26)) H_17) fun t11_18 H_19 =>
  bindE (mBin (cfg b) 5 true .add (AV.c (.int .u8 97)) t11_18 H_19) fun t12_20 H_21 =>
  bindE (mFA 1 1 t1_0 H_21) fun t13_22 H_23 =>
  bindE (mLoad false 1 t13_22 H_23) fun t14_24 H_25 =>
  bindE (mBin (cfg b) 5 true .quo t14_24 (AV.c (.int .u8 26)) H_25) fun t15_26 H_27 =>
  bindE (mBin (cfg b) 5 true .add (AV.c (.int .u8 97)) t15_26 H_27) fun t16_28 H_29 =>
  bindE (mBuildSl 5 1 (.int .u8 0) 3 [(0, (AV.c (.int .u8 107))), (1, t12_20), (2, t16_28)] H_29) fun t17_30 H_31 =>
  endQ (cfg b) false k (resC1 (some t17_30) (some [])) H_31)
theorem p18_eq (b : Bool) (cf : CallFn) (t0 t1 : AV) (H : Heap) : runG (cfg b) cf An 18 [t0, t1] H = p18 b cf H.length t0 t1 H := by kernel_rfl
theorem p32_eq (b : Bool) (cf : CallFn) (t0 : AV) (H : Heap) : runG (cfg b) cf An 32 [t0] H = p32 b cf H.length t0 H := by kernel_rfl
end Go.Fm
