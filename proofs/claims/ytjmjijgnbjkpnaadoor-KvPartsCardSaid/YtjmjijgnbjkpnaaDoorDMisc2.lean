/-
  A part of the proof: DMisc2.
-/
import Derived.Test.YtjmjijgnbjkpnaaDoorDAnn
set_option linter.all false
set_option autoImplicit true
/-
  What the interpreter does to functions, without slots and types; the kernel holds it against the code.
-/
set_option maxRecDepth 100000
set_option linter.unusedVariables false
namespace Go.Fm
open Go Go.Proofs

/-- ferryman/ferrymanlaw16.Awake -/
noncomputable def p74 (b : Bool) (cf : CallFn) (k : Nat) (H : Heap) : Option (AV × Heap) :=
  bindE (cf 75 [] H) fun t5_0 H_1 =>
  bindE (mBuildSl 5 1 (.int .u8 0) 1 [(0, (AV.c (.int .u8 98)))] H_1) fun t7_2 H_3 =>
  bindE (mConv0 t7_2 H_3) fun t8_4 H_5 =>
  bindE (mBuildSl 5 1 (.int .u8 0) 1 [(0, (AV.c (.int .u8 50)))] H_5) fun t9_6 H_7 =>
  bindE (mConv0 t9_6 H_7) fun t10_8 H_9 =>
  bindE (cf 76 [t5_0, t8_4, t10_8] H_9) fun t11_10 H_11 =>
  bindE (mBuildSl 5 1 (.int .u8 0) 1 [(0, (AV.c (.int .u8 97)))] H_11) fun t13_12 H_13 =>
  bindE (mConv0 t13_12 H_13) fun t14_14 H_15 =>
  bindE (mBuildSl 5 1 (.int .u8 0) 1 [(0, (AV.c (.int .u8 49)))] H_15) fun t15_16 H_17 =>
  bindE (mConv0 t15_16 H_17) fun t16_18 H_19 =>
  bindE (cf 76 [t5_0, t14_14, t16_18] H_19) fun t17_20 H_21 =>
  bindE (cf 77 [t5_0, (AV.c .nilsl)] H_21) fun t19_22 H_23 =>
  bindE (mBin (cfg b) 25 true .eql t11_10 (AV.c (.int .i64 0)) H_23) fun t21_24 H_25 =>
  bindE (guardR (wantR true t21_24) (some (t17_20, H_25)) H_25) fun t23_26 H_27 =>
  bindE (guardR (wantR true t21_24) (mBin (cfg b) 25 true .eql t23_26 (AV.c (.int .i64 0)) H_27) H_27) fun t24_28 H_29 =>
  bindE (mPick t21_24 t24_28 (AV.c (.bool false)) H_29) fun t25_30 H_31 =>
  bindE (guardR (wantR true t25_30) (some (t19_22, H_31)) H_31) fun t27_32 H_33 =>
  bindE (guardR (wantR true t25_30) (mLenSl t27_32 H_33) H_33) fun t28_34 H_35 =>
  bindE (guardR (wantR true t25_30) (mBin (cfg b) 3 true .eql t28_34 (AV.c (.int .i64 2)) H_35) H_35) fun t29_36 H_37 =>
  bindE (mPick t25_30 t29_36 (AV.c (.bool false)) H_37) fun t30_38 H_39 =>
  bindE (guardR (wantR true t30_38) (some (t19_22, H_39)) H_39) fun t32_40 H_41 =>
  bindE (guardR (wantR true t30_38) (mIdxS 2 t32_40 (AV.c (.int .i64 0)) H_41) H_41) fun t33_42 H_43 =>
  bindE (guardR (wantR true t30_38) (mFA 0 0 t33_42 H_43) H_43) fun t34_44 H_45 =>
  bindE (guardR (wantR true t30_38) (mLoad false 1 t34_44 H_45) H_45) fun t35_46 H_47 =>
  bindE (guardR (wantR true t30_38) (mConvBS t35_46 H_47) H_47) fun t36_48 H_49 =>
  bindE (guardR (wantR true t30_38) (mBin (cfg b) 9 true .eql t36_48 (AV.c (.str ⟨#[97]⟩)) H_49) H_49) fun t37_50 H_51 =>
  bindE (mPick t30_38 t37_50 (AV.c (.bool false)) H_51) fun t38_52 H_53 =>
  bindE (guardR (wantR true t38_52) (some (t19_22, H_53)) H_53) fun t40_54 H_55 =>
  bindE (guardR (wantR true t38_52) (mIdxS 2 t40_54 (AV.c (.int .i64 1)) H_55) H_55) fun t41_56 H_57 =>
  bindE (guardR (wantR true t38_52) (mFA 1 1 t41_56 H_57) H_57) fun t42_58 H_59 =>
  bindE (guardR (wantR true t38_52) (mLoad false 1 t42_58 H_59) H_59) fun t43_60 H_61 =>
  bindE (guardR (wantR true t38_52) (mConvBS t43_60 H_61) H_61) fun t44_62 H_63 =>
  bindE (guardR (wantR true t38_52) (mBin (cfg b) 9 true .eql t44_62 (AV.c (.str ⟨#[50]⟩)) H_63) H_63) fun t45_64 H_65 =>
  bindE (mPick t38_52 t45_64 (AV.c (.bool false)) H_65) fun t46_66 H_67 =>
  endQ (cfg b) false k (resC1 (some t46_66) (some [])) H_67

/-- ferryman/kv.New -/
noncomputable def p75 (b : Bool) (cf : CallFn) (k : Nat) (H : Heap) : Option (AV × Heap) :=
  bindE (mBuildS [.nilsl] [] H) fun t1_0 H_1 =>
  bindE (mBox 177 t1_0 H_1) fun t2_2 H_3 =>
  endQ (cfg b) false k (resC1 (some t2_2) (some [])) H_3

/-- (*ferryman/kv.Store).Put -/
noncomputable def p76_d0 (b : Bool) (cf : CallFn) (t0 t35_30 t7_24 : AV) (H_34 : Heap) : Option ((List AV × List Trail) × Heap) :=
  bindE (drawM (some t0) H_34) fun t38_35 H_36 =>
  bindE (drawR true [t38_35.1] (fun F => mNil t38_35.1 F) H_36) fun t39_37 H_38 =>
  bindE (drawR true [t39_37.1] (fun F => mFA 0 0 t39_37.1 F) H_38) fun t40_39 H_40 =>
  bindE (drawR true [t40_39.1] (fun F => mLoad false 1 t40_39.1 F) H_40) fun t41_41 H_42 =>
  bindE (drawM (some t35_30) H_42) fun t42_43 H_44 =>
  bindE (drawR true [t7_24] (fun F => mLoad true 2 t7_24 F) H_44) fun t43_45 H_46 =>
  bindE (drawR true [t41_41.1, t42_43.1] (fun F => mIdxS 2 t41_41.1 t42_43.1 F) H_46) fun t44_47 H_48 =>
  bindE (drawR false [t44_47.1, t43_45.1] (fun F => mStore true 2 t44_47.1 t43_45.1 F) H_48) fun u_49 H_50 =>
  some (([], [t38_35.2, t39_37.2, t40_39.2, t41_41.2, t42_43.2, t43_45.2, t44_47.2, u_49.2]), H_50)
noncomputable def p76_d1 (b : Bool) (cf : CallFn) (t0 t35_30 t7_24 : AV) (H_53 : Heap) : Option ((List AV × List Trail) × Heap) :=
  bindE (drawM (some t0) H_53) fun t45_54 H_55 =>
  bindE (drawM (some t0) H_55) fun t46_56 H_57 =>
  bindE (drawR true [t46_56.1] (fun F => mNil t46_56.1 F) H_57) fun t47_58 H_59 =>
  bindE (drawR true [t47_58.1] (fun F => mFA 0 0 t47_58.1 F) H_59) fun t48_60 H_61 =>
  bindE (drawR true [t48_60.1] (fun F => mLoad false 1 t48_60.1 F) H_61) fun t49_62 H_63 =>
  bindE (drawM (some t35_30) H_63) fun t50_64 H_65 =>
  bindE (drawR true [t7_24] (fun F => mLoad true 2 t7_24 F) H_65) fun t51_66 H_67 =>
  bindE (drawR false [t51_66.1] (fun F => mBuildSl 97 2 (.agg [.nilsl, .nilsl]) 1 [(0, t51_66.1)] F) H_67) fun t52_68 H_69 =>
  bindE (drawR false [t49_62.1, t50_64.1, t52_68.1] (fun F => cf 113 [t49_62.1, t50_64.1, t52_68.1] F) H_69) fun t53_70 H_71 =>
  bindE (drawR true [t45_54.1] (fun F => mNil t45_54.1 F) H_71) fun t54_72 H_73 =>
  bindE (drawR true [t54_72.1] (fun F => mFA 0 0 t54_72.1 F) H_73) fun t55_74 H_75 =>
  bindE (drawR false [t55_74.1, t53_70.1] (fun F => mStore false 1 t55_74.1 t53_70.1 F) H_75) fun u_76 H_77 =>
  some (([], [t45_54.2, t46_56.2, t47_58.2, t48_60.2, t49_62.2, t50_64.2, t51_66.2, t52_68.2, t53_70.2, t54_72.2, t55_74.2, u_76.2]), H_77)
noncomputable def p76 (b : Bool) (cf : CallFn) (k : Nat) (t0 t1 t2 : AV) (H : Heap) : Option (AV × Heap) :=
  bindE (mBin (cfg b) 115 true .eql t0 (AV.c .nilp) H) fun t12_0 H_1 =>
  condR t12_0 (endQ (cfg b) false k (resC1 (some (AV.c (.int .i64 1))) (some [])) H_1) (bindE (mLenSl t1 H_1) fun t15_2 H_3 =>
  bindE (mBin (cfg b) 3 true .eql t15_2 (AV.c (.int .i64 0)) H_3) fun t16_4 H_5 =>
  bindE (guardR (wantR false t16_4) (some (t1, H_5)) H_5) fun t18_6 H_7 =>
  bindE (guardR (wantR false t16_4) (mLenSl t18_6 H_7) H_7) fun t19_8 H_9 =>
  bindE (guardR (wantR false t16_4) (mBin (cfg b) 3 true .gtr t19_8 (AV.c (.int .i64 96)) H_9) H_9) fun t20_10 H_11 =>
  bindE (mPick t16_4 (AV.c (.bool true)) t20_10 H_11) fun t21_12 H_13 =>
  condR t21_12 (endQ (cfg b) false k (resC1 (some (AV.c (.int .i64 10))) (some [])) H_13) (bindE (mLenSl t2 H_13) fun t24_14 H_15 =>
  bindE (mBin (cfg b) 3 true .gtr t24_14 (AV.c (.int .i64 256)) H_15) fun t25_16 H_17 =>
  condR t25_16 (endQ (cfg b) false k (resC1 (some (AV.c (.int .i64 3))) (some [])) H_17) (bindE (cf 103 [t1] H_17) fun t27_18 H_19 =>
  bindE (cf 103 [t2] H_19) fun t29_20 H_21 =>
  bindE (mBuildS [.nilsl, .nilsl] [(0, t27_18), (1, t29_20)] H_21) fun t30_22 H_23 =>
  bindE (mAlloc 97 (.agg [.nilsl, .nilsl]) H_23) fun t7_24 H_25 =>
  bindE (mStore true 2 t7_24 t30_22 H_25) fun u_26 H_27 =>
  bindE (cf 112 [t0, t1] H_27) fun t34_28 H_29 =>
  bindE (mExtract 0 t34_28 H_29) fun t35_30 H_31 =>
  bindE (mExtract 1 t34_28 H_31) fun t36_32 H_33 =>
  condR t36_32 (afterD (twice [0, 1, 3, 7, 0, 0, 63, 127] (p76_d0 b cf t0 t35_30 t7_24) H_33) fun vs_51 H_52 =>
  un0 vs_51 (endQ (cfg b) false k (resC1 (some (AV.c (.int .i64 0))) (some [])) H_52)) (afterD (twice [0, 0, 2, 6, 14, 0, 0, 64, 254, 511, 1023, 2047] (p76_d1 b cf t0 t35_30 t7_24) H_33) fun vs_78 H_79 =>
  un0 vs_78 (endQ (cfg b) false k (resC1 (some (AV.c (.int .i64 0))) (some [])) H_79)))))

noncomputable def p77_l0_d0 (b : Bool) (cf : CallFn) (t5_12 t7_26 : AV) (H_36 : Heap) : Option ((List AV × List Trail) × Heap) :=
  bindE (drawM (some t5_12) H_36) fun t23_37 H_38 =>
  bindE (drawR true [t7_26] (fun F => mFA 0 0 t7_26 F) H_38) fun t24_39 H_40 =>
  bindE (drawR true [t24_39.1] (fun F => mLoad false 1 t24_39.1 F) H_40) fun t25_41 H_42 =>
  bindE (drawR false [t25_41.1] (fun F => cf 103 [t25_41.1] F) H_42) fun t26_43 H_44 =>
  bindE (drawR true [t7_26] (fun F => mFA 1 1 t7_26 F) H_44) fun t27_45 H_46 =>
  bindE (drawR true [t27_45.1] (fun F => mLoad false 1 t27_45.1 F) H_46) fun t28_47 H_48 =>
  bindE (drawR false [t28_47.1] (fun F => cf 103 [t28_47.1] F) H_48) fun t29_49 H_50 =>
  bindE (drawR false [t26_43.1, t29_49.1] (fun F => mBuildS [.nilsl, .nilsl] [(0, t26_43.1), (1, t29_49.1)] F) H_50) fun t30_51 H_52 =>
  bindE (drawR false [t30_51.1] (fun F => mBuildSl 97 2 (.agg [.nilsl, .nilsl]) 1 [(0, t30_51.1)] F) H_52) fun t31_53 H_54 =>
  bindE (drawR false [t23_37.1, t31_53.1] (fun F => mAppend 97 2 48 false t23_37.1 t31_53.1 F) H_54) fun t32_55 H_56 =>
  bindE (drawM (some t32_55.1) H_56) fun t5_57 H_58 =>
  some (([t5_57.1], [t23_37.2, t24_39.2, t25_41.2, t26_43.2, t27_45.2, t28_47.2, t29_49.2, t30_51.2, t31_53.2, t32_55.2, t5_57.2]), H_58)
noncomputable def p77_l0 (b : Bool) (cf : CallFn) (k : Nat) (s : List AV) (H : Heap) : Option (LStep × Heap) :=
  un s fun t1_10 vs_11 => un vs_11 fun t5_12 vs_13 => un vs_13 fun t13_14 vs_15 => un vs_15 fun t14_16 vs_17 => un vs_17 fun t15_18 vs_19 => un0 vs_19 (bindE (mBin (cfg b) 3 false .lss t15_18 t14_16 H) fun t16_20 H_21 =>
  condR t16_20 (bindE (mIdxS 2 t13_14 t15_18 H_21) fun t17_22 H_23 =>
  bindE (mLoad true 2 t17_22 H_23) fun t18_24 H_25 =>
  bindE (mAlloc 97 (.agg [.nilsl, .nilsl]) H_25) fun t7_26 H_27 =>
  bindE (mStore true 2 t7_26 t18_24 H_27) fun u_28 H_29 =>
  bindE (mFA 0 0 t7_26 H_29) fun t19_30 H_31 =>
  bindE (mLoad false 1 t19_30 H_31) fun t20_32 H_33 =>
  bindE (cf 114 [t20_32, t1_10] H_33) fun t22_34 H_35 =>
  condR t22_34 (afterD (twice [0, 0, 2, 6, 0, 16, 62, 126, 254, 511, 1023] (p77_l0_d0 b cf t5_12 t7_26) H_35) fun vs_59 H_60 =>
  un vs_59 fun t5_61 vs_62 => un0 vs_62 (bindE (mBin (cfg b) 3 true .add t15_18 (AV.c (.int .i64 1)) H_60) fun t33_63 H_64 =>
  some (LStep.cont [t1_10, t5_61, t13_14, t14_16, t33_63], H_64))) (bindE (mBin (cfg b) 3 true .add t15_18 (AV.c (.int .i64 1)) H_35) fun t33_65 H_66 =>
  some (LStep.cont [t1_10, t5_12, t13_14, t14_16, t33_65], H_66))) (some (LStep.exit 0 [t5_12], H_21)))
/-- (*ferryman/kv.Store).List -/
noncomputable def p77 (b : Bool) (cf : CallFn) (k : Nat) (t0 t1 : AV) (H : Heap) : Option (AV × Heap) :=
  bindE (mBin (cfg b) 115 true .eql t0 (AV.c .nilp) H) fun t9_0 H_1 =>
  condR t9_0 (endQ (cfg b) false k (resC1 (some (AV.c .nilsl)) (some [])) H_1) (bindE (mNil t0 H_1) fun t11_2 H_3 =>
  bindE (mFA 0 0 t11_2 H_3) fun t12_4 H_5 =>
  bindE (mLoad false 1 t12_4 H_5) fun t13_6 H_7 =>
  bindE (mLenSl t13_6 H_7) fun t14_8 H_9 =>
  afterL 0 (loopX k (p77_l0 b cf k) [t1, (AV.c .nilsl), t13_6, t14_8, (AV.c (.int .i64 0))] H_9) (fun vs_67 H_68 =>
  un vs_67 fun t5_69 vs_70 => un0 vs_70 (endQ (cfg b) false k (resC1 (some t5_69) (some [])) H_68)) (fun vs_67 H_68 => un vs_67 fun t5_71 vs_72 => un0 vs_72 (endQ (cfg b) false k (resC1 (some AV.any) (some [])) H_68)))

noncomputable def p79_l0 (b : Bool) (cf : CallFn) (k : Nat) (s : List AV) (H : Heap) : Option (LStep × Heap) :=
  un s fun t3_12 vs_13 => un vs_13 fun t13_14 vs_15 => un vs_15 fun t14_16 vs_17 => un vs_17 fun t15_18 vs_19 => un0 vs_19 (bindE (mBin (cfg b) 3 false .lss t15_18 t14_16 H) fun t16_20 H_21 =>
  condR t16_20 (bindE (mIdxS 2 t13_14 t15_18 H_21) fun t17_22 H_23 =>
  bindE (mLoad true 2 t17_22 H_23) fun t18_24 H_25 =>
  bindE (mAlloc 97 (.agg [.nilsl, .nilsl]) H_25) fun t5_26 H_27 =>
  bindE (mStore true 2 t5_26 t18_24 H_27) fun u_28 H_29 =>
  bindE (mFA 0 0 t5_26 H_29) fun t21_30 H_31 =>
  bindE (mLoad false 1 t21_30 H_31) fun t22_32 H_33 =>
  bindE (mFA 1 1 t5_26 H_33) fun t23_34 H_35 =>
  bindE (mLoad false 1 t23_34 H_35) fun t24_36 H_37 =>
  bindE (cf 36 [t3_12, t22_32, t24_36] H_37) fun t25_38 H_39 =>
  bindE (mExtract 0 t25_38 H_39) fun t26_40 H_41 =>
  bindE (mExtract 1 t25_38 H_41) fun t27_42 H_43 =>
  bindE (mBin (cfg b) 3 true .add t15_18 (AV.c (.int .i64 1)) H_43) fun t28_44 H_45 =>
  some (LStep.cont [t26_40, t13_14, t14_16, t28_44], H_45)) (some (LStep.exit 0 [t3_12], H_21)))
/-- (*ferryman/kv.Store).Tree -/
noncomputable def p79 (b : Bool) (cf : CallFn) (k : Nat) (t0 : AV) (H : Heap) : Option (AV × Heap) :=
  bindE (cf 26 [] H) fun t6_0 H_1 =>
  bindE (mBin (cfg b) 115 true .eql t0 (AV.c .nilp) H_1) fun t8_2 H_3 =>
  condR t8_2 (endQ (cfg b) false k (resC1 (some t6_0) (some [])) H_3) (bindE (mNil t0 H_3) fun t11_4 H_5 =>
  bindE (mFA 0 0 t11_4 H_5) fun t12_6 H_7 =>
  bindE (mLoad false 1 t12_6 H_7) fun t13_8 H_9 =>
  bindE (mLenSl t13_8 H_9) fun t14_10 H_11 =>
  afterL 0 (loopX k (p79_l0 b cf k) [t6_0, t13_8, t14_10, (AV.c (.int .i64 0))] H_11) (fun vs_46 H_47 =>
  un vs_46 fun t3_48 vs_49 => un0 vs_49 (endQ (cfg b) false k (resC1 (some t3_48) (some [])) H_47)) (fun vs_46 H_47 => un vs_46 fun t3_50 vs_51 => un0 vs_51 (endQ (cfg b) false k (resC1 (some AV.any) (some [])) H_47)))

/-- (*ferryman/kv.Store).Get -/
noncomputable def p80 (b : Bool) (cf : CallFn) (k : Nat) (t0 t1 : AV) (H : Heap) : Option (AV × Heap) :=
  bindE (mBin (cfg b) 115 true .eql t0 (AV.c .nilp) H) fun t9_0 H_1 =>
  condR t9_0 (endQ (cfg b) false k (resC1 (some (AV.c .nilsl)) (resC1 (some (AV.c (.bool false))) (some []))) H_1) (bindE (cf 112 [t0, t1] H_1) fun t13_2 H_3 =>
  bindE (mExtract 0 t13_2 H_3) fun t14_4 H_5 =>
  bindE (mExtract 1 t13_2 H_5) fun t15_6 H_7 =>
  bindE (mUn .not t15_6 H_7) fun t17_8 H_9 =>
  condR t17_8 (endQ (cfg b) false k (resC1 (some (AV.c .nilsl)) (resC1 (some (AV.c (.bool false))) (some []))) H_9) (bindE (mNil t0 H_9) fun t19_10 H_11 =>
  bindE (mFA 0 0 t19_10 H_11) fun t20_12 H_13 =>
  bindE (mLoad false 1 t20_12 H_13) fun t21_14 H_15 =>
  bindE (mIdxS 2 t21_14 t14_4 H_15) fun t23_16 H_17 =>
  bindE (mFA 1 1 t23_16 H_17) fun t24_18 H_19 =>
  bindE (mLoad false 1 t24_18 H_19) fun t25_20 H_21 =>
  bindE (cf 103 [t25_20] H_21) fun t26_22 H_23 =>
  endQ (cfg b) false k (resC1 (some t26_22) (resC1 (some (AV.c (.bool true))) (some []))) H_23))

/-- (*ferryman/kv.Store).Cut -/
noncomputable def p81 (b : Bool) (cf : CallFn) (k : Nat) (t0 t1 : AV) (H : Heap) : Option (AV × Heap) :=
  bindE (mBin (cfg b) 115 true .eql t0 (AV.c .nilp) H) fun t8_0 H_1 =>
  condR t8_0 (endQ (cfg b) false k (resC1 (some (AV.c (.bool false))) (some [])) H_1) (bindE (cf 112 [t0, t1] H_1) fun t12_2 H_3 =>
  bindE (mExtract 0 t12_2 H_3) fun t13_4 H_5 =>
  bindE (mExtract 1 t12_2 H_5) fun t14_6 H_7 =>
  condR t14_6 (bindE (mNil t0 H_7) fun t18_8 H_9 =>
  bindE (mFA 0 0 t18_8 H_9) fun t19_10 H_11 =>
  bindE (mLoad false 1 t19_10 H_11) fun t20_12 H_13 =>
  bindE (mBin (cfg b) 3 true .add t13_4 (AV.c (.int .i64 1)) H_13) fun t23_14 H_15 =>
  bindE (cf 115 [t20_12, t13_4, t23_14] H_15) fun t24_16 H_17 =>
  bindE (mNil t0 H_17) fun t25_18 H_19 =>
  bindE (mFA 0 0 t25_18 H_19) fun t26_20 H_21 =>
  bindE (mStore false 1 t26_20 t24_16 H_21) fun u_22 H_23 =>
  endQ (cfg b) false k (resC1 (some t14_6) (some [])) H_23) (endQ (cfg b) false k (resC1 (some t14_6) (some [])) H_7))

/-- (*ferryman/kv.Store).find -/
noncomputable def p112 (b : Bool) (cf : CallFn) (k : Nat) (t0 t1 : AV) (H : Heap) : Option (AV × Heap) :=
  bindE (mNil t0 H) fun t7_0 H_1 =>
  bindE (mFA 0 0 t7_0 H_1) fun t8_2 H_3 =>
  bindE (mLoad false 1 t8_2 H_3) fun t9_4 H_5 =>
  bindE (cf 134 [t9_4, t1, (AV.c (.fn 135))] H_5) fun t11_6 H_7 =>
  bindE (mExtract 0 t11_6 H_7) fun t12_8 H_9 =>
  bindE (mExtract 1 t11_6 H_9) fun t13_10 H_11 =>
  endQ (cfg b) false k (resC1 (some t12_8) (resC1 (some t13_10) (some []))) H_11

noncomputable def p134_l0 (b : Bool) (cf : CallFn) (k : Nat) (s : List AV) (H : Heap) : Option (LStep × Heap) :=
  un s fun t0_2 vs_3 => un vs_3 fun t1_4 vs_5 => un vs_5 fun t2_6 vs_7 => un vs_7 fun t8_8 vs_9 => un vs_9 fun t9_10 vs_11 => un vs_11 fun t10_12 vs_13 => un0 vs_13 (bindE (mBin (cfg b) 3 false .lss t9_10 t10_12 H) fun t17_14 H_15 =>
  condR t17_14 (bindE (mBin (cfg b) 3 false .add t9_10 t10_12 H_15) fun t20_16 H_17 =>
  bindE (mConvI .u64 t20_16 H_17) fun t21_18 H_19 =>
  bindE (mBin (cfg b) 197 true .shr t21_18 (AV.c (.int .u64 1)) H_19) fun t22_20 H_21 =>
  bindE (mConvI .i64 t22_20 H_21) fun t23_22 H_23 =>
  bindE (mIdxS 2 t0_2 t23_22 H_23) fun t27_24 H_25 =>
  bindE (mLoad true 2 t27_24 H_25) fun t28_26 H_27 =>
  bindE (mCallV cf t2_6 [t28_26, t1_4] H_27) fun t30_28 H_29 =>
  bindE (mBin (cfg b) 3 true .lss t30_28 (AV.c (.int .i64 0)) H_29) fun t31_30 H_31 =>
  condR t31_30 (bindE (mBin (cfg b) 3 true .add t23_22 (AV.c (.int .i64 1)) H_31) fun t33_32 H_33 =>
  some (LStep.cont [t0_2, t1_4, t2_6, t8_8, t33_32, t10_12], H_33)) (some (LStep.cont [t0_2, t1_4, t2_6, t8_8, t9_10, t23_22], H_31))) (some (LStep.exit 0 [t0_2, t1_4, t2_6, t8_8, t9_10], H_15)))
/-- slices.BinarySearchFunc[[]ferryman/api.Pair,ferryman/api.Pair,[]byte] -/
noncomputable def p134 (b : Bool) (cf : CallFn) (k : Nat) (t0 t1 t2 : AV) (H : Heap) : Option (AV × Heap) :=
  bindE (mLenSl t0 H) fun t13_0 H_1 =>
  afterL 0 (loopX k (p134_l0 b cf k) [t0, t1, t2, t13_0, (AV.c (.int .i64 0)), t13_0] H_1) (fun vs_34 H_35 =>
  un vs_34 fun t0_36 vs_37 => un vs_37 fun t1_38 vs_39 => un vs_39 fun t2_40 vs_41 => un vs_41 fun t8_42 vs_43 => un vs_43 fun t9_44 vs_45 => un0 vs_45 (bindE (mBin (cfg b) 3 false .lss t9_44 t8_42 H_35) fun t38_46 H_47 =>
  bindE (guardR (wantR true t38_46) (some (t2_40, H_47)) H_47) fun t40_48 H_49 =>
  bindE (guardR (wantR true t38_46) (some (t0_36, H_49)) H_49) fun t41_50 H_51 =>
  bindE (guardR (wantR true t38_46) (some (t9_44, H_51)) H_51) fun t42_52 H_53 =>
  bindE (guardR (wantR true t38_46) (mIdxS 2 t41_50 t42_52 H_53) H_53) fun t43_54 H_55 =>
  bindE (guardR (wantR true t38_46) (mLoad true 2 t43_54 H_55) H_55) fun t44_56 H_57 =>
  bindE (guardR (wantR true t38_46) (some (t1_38, H_57)) H_57) fun t45_58 H_59 =>
  bindE (guardR (wantR true t38_46) (mCallV cf t40_48 [t44_56, t45_58] H_59) H_59) fun t46_60 H_61 =>
  bindE (guardR (wantR true t38_46) (mBin (cfg b) 3 true .eql t46_60 (AV.c (.int .i64 0)) H_61) H_61) fun t47_62 H_63 =>
  bindE (mPick t38_46 t47_62 (AV.c (.bool false)) H_63) fun t48_64 H_65 =>
  endQ (cfg b) false k (resC1 (some t9_44) (resC1 (some t48_64) (some []))) H_65)) (fun vs_34 H_35 => un vs_34 fun t0_66 vs_67 => un vs_67 fun t1_68 vs_69 => un vs_69 fun t2_70 vs_71 => un vs_71 fun t8_72 vs_73 => un vs_73 fun t9_74 vs_75 => un0 vs_75 (endQ (cfg b) false k (resC1 (some AV.any) (resC1 (some AV.any) (some []))) H_35))

/-- (*ferryman/kv.Store).find$1 -/
noncomputable def p135 (b : Bool) (cf : CallFn) (k : Nat) (t0 t1 : AV) (H : Heap) : Option (AV × Heap) :=
  bindE (mBox 97 t0 H) fun t2_0 H_1 =>
  bindE (mFA 0 0 t2_0 H_1) fun t5_2 H_3 =>
  bindE (mLoad false 1 t5_2 H_3) fun t6_4 H_5 =>
  bindE (cf 101 [t6_4, t1] H_5) fun t8_6 H_7 =>
  endQ (cfg b) false k (resC1 (some t8_6) (some [])) H_7

/-- bytes.HasPrefix -/
noncomputable def p114 (b : Bool) (cf : CallFn) (k : Nat) (t0 t1 : AV) (H : Heap) : Option (AV × Heap) :=
  bindE (mLenSl t0 H) fun t6_0 H_1 =>
  bindE (mLenSl t1 H_1) fun t8_2 H_3 =>
  bindE (mBin (cfg b) 3 false .geq t6_0 t8_2 H_3) fun t9_4 H_5 =>
  bindE (guardR (wantR true t9_4) (some (t0, H_5)) H_5) fun t11_6 H_7 =>
  bindE (guardR (wantR true t9_4) (some (t1, H_7)) H_7) fun t12_8 H_9 =>
  bindE (guardR (wantR true t9_4) (mLenSl t12_8 H_9) H_9) fun t13_10 H_11 =>
  bindE (guardR (wantR true t9_4) (mSliceSl 1 t11_6 none (some t13_10) H_11) H_11) fun t14_12 H_13 =>
  bindE (guardR (wantR true t9_4) (some (t1, H_13)) H_13) fun t15_14 H_15 =>
  bindE (guardR (wantR true t9_4) (cf 102 [t14_12, t15_14] H_15) H_15) fun t16_16 H_17 =>
  bindE (mPick t9_4 t16_16 (AV.c (.bool false)) H_17) fun t17_18 H_19 =>
  endQ (cfg b) false k (resC1 (some t17_18) (some [])) H_19

/-- slices.Insert[[]ferryman/api.Pair,ferryman/api.Pair] -/
noncomputable def p113_d0 (b : Bool) (cf : CallFn) (t40_24 t1 t14_2 t0 : AV) (H_30 : Heap) : Option ((List AV × List Trail) × Heap) :=
  bindE (drawM (some t40_24) H_30) fun t46_31 H_32 =>
  bindE (drawM (some t1) H_32) fun t47_33 H_34 =>
  bindE (drawM (some t14_2) H_34) fun t48_35 H_36 =>
  bindE (drawR true [t47_33.1, t48_35.1] (fun F => mBin (cfg b) 3 false .add t47_33.1 t48_35.1 F) H_36) fun t49_37 H_38 =>
  bindE (drawR false [t46_31.1, t49_37.1] (fun F => mSliceSl 2 t46_31.1 (some t49_37.1) none F) H_38) fun t50_39 H_40 =>
  bindE (drawM (some t0) H_40) fun t51_41 H_42 =>
  bindE (drawM (some t1) H_42) fun t52_43 H_44 =>
  bindE (drawR false [t51_41.1, t52_43.1] (fun F => mSliceSl 2 t51_41.1 (some t52_43.1) none F) H_44) fun t53_45 H_46 =>
  bindE (drawR false [t50_39.1, t53_45.1] (fun F => (none : Option (AV × Heap))) H_46) fun t54_47 H_48 =>
  some (([], [t46_31.2, t47_33.2, t48_35.2, t49_37.2, t50_39.2, t51_41.2, t52_43.2, t53_45.2, t54_47.2]), H_48)
noncomputable def p113_d1 (b : Bool) (cf : CallFn) (t60_53 t1 t14_2 : AV) (H_63 : Heap) : Option ((List AV × List Trail) × Heap) :=
  bindE (drawM (some t60_53) H_63) fun t69_64 H_65 =>
  bindE (drawM (some t1) H_65) fun t70_66 H_67 =>
  bindE (drawM (some t14_2) H_67) fun t71_68 H_69 =>
  bindE (drawR true [t70_66.1, t71_68.1] (fun F => mBin (cfg b) 3 false .add t70_66.1 t71_68.1 F) H_69) fun t72_70 H_71 =>
  bindE (drawR false [t69_64.1, t72_70.1] (fun F => mSliceSl 2 t69_64.1 (some t72_70.1) none F) H_71) fun t73_72 H_73 =>
  bindE (drawM (some t60_53) H_73) fun t74_74 H_75 =>
  bindE (drawM (some t1) H_75) fun t75_76 H_77 =>
  bindE (drawR false [t74_74.1, t75_76.1] (fun F => mSliceSl 2 t74_74.1 (some t75_76.1) none F) H_77) fun t76_78 H_79 =>
  bindE (drawR false [t73_72.1, t76_78.1] (fun F => (none : Option (AV × Heap))) H_79) fun t77_80 H_81 =>
  some (([], [t69_64.2, t70_66.2, t71_68.2, t72_70.2, t73_72.2, t74_74.2, t75_76.2, t76_78.2, t77_80.2]), H_81)
noncomputable def p113 (b : Bool) (cf : CallFn) (k : Nat) (t0 t1 t2 : AV) (H : Heap) : Option (AV × Heap) :=
  bindE (mSliceSl 2 t0 (some t1) none H) fun t12_0 H_1 =>
  bindE (mLenSl t2 H_1) fun t14_2 H_3 =>
  bindE (mBin (cfg b) 3 true .eql t14_2 (AV.c (.int .i64 0)) H_3) fun t16_4 H_5 =>
  condR t16_4 (endQ (cfg b) true k (resC1 (some t0) (some [])) H_5) (bindE (mLenSl t0 H_5) fun t19_6 H_7 =>
  bindE (mBin (cfg b) 3 false .eql t1 t19_6 H_7) fun t22_8 H_9 =>
  condR t22_8 (bindE (mAppend 97 2 48 false t0 t2 H_9) fun t25_10 H_11 =>
  endQ (cfg b) true k (resC1 (some t25_10) (some [])) H_11) (bindE (mBin (cfg b) 3 false .add t19_6 t14_2 H_9) fun t28_12 H_13 =>
  bindE ((none : Option (AV × Heap))) fun t30_14 H_15 =>
  bindE (mBin (cfg b) 3 false .gtr t28_12 t30_14 H_15) fun t31_16 H_17 =>
  condR t31_16 (bindE (mSliceSl 2 t0 none (some t1) H_17) fun t34_18 H_19 =>
  bindE (mBin (cfg b) 3 false .add t19_6 t14_2 H_19) fun t37_20 H_21 =>
  bindE (mBin (cfg b) 3 false .sub t37_20 t1 H_21) fun t39_22 H_23 =>
  bindE (mAppend 97 2 48 false t34_18 t39_22 H_23) fun t40_24 H_25 =>
  bindE (mSliceSl 2 t40_24 (some t1) none H_25) fun t43_26 H_27 =>
  bindE ((none : Option (AV × Heap))) fun t45_28 H_29 =>
  afterD (twice [0, 0, 0, 6, 15, 0, 0, 96, 255] (p113_d0 b cf t40_24 t1 t14_2 t0) H_29) fun vs_49 H_50 =>
  un0 vs_49 (endQ (cfg b) true k (resC1 (some t40_24) (some [])) H_50)) (bindE (mBin (cfg b) 3 false .add t19_6 t14_2 H_17) fun t59_51 H_52 =>
  bindE (mSliceSl 2 t0 none (some t59_51) H_52) fun t60_53 H_54 =>
  bindE (mBin (cfg b) 3 false .add t1 t14_2 H_54) fun t65_55 H_56 =>
  bindE (mSliceSl 2 t60_53 (some t65_55) none H_56) fun t66_57 H_58 =>
  bindE (cf 136 [t2, t66_57] H_58) fun t67_59 H_60 =>
  bindE (mUn .not t67_59 H_60) fun t68_61 H_62 =>
  condR t68_61 (afterD (twice [0, 0, 0, 6, 15, 0, 0, 96, 255] (p113_d1 b cf t60_53 t1 t14_2) H_62) fun vs_82 H_83 =>
  un0 vs_82 (bindE (mSliceSl 2 t60_53 (some t1) none H_83) fun t80_84 H_85 =>
  bindE ((none : Option (AV × Heap))) fun t82_86 H_87 =>
  endQ (cfg b) true k (resC1 (some t60_53) (some [])) H_87)) (bindE (mSliceSl 2 t60_53 (some t19_6) none H_62) fun t86_88 H_89 =>
  bindE ((none : Option (AV × Heap))) fun t88_90 H_91 =>
  bindE (mSliceSl 2 t60_53 (some t1) none H_91) fun t91_92 H_93 =>
  bindE (cf 137 [t91_92, t14_2] H_93) fun t93_94 H_95 =>
  endQ (cfg b) true k (resC1 (some t60_53) (some [])) H_95))))

/-- slices.Delete[[]ferryman/api.Pair,ferryman/api.Pair] -/
noncomputable def p115_d0 (b : Bool) (cf : CallFn) (t0 t1 t2 : AV) (H_8 : Heap) : Option ((List AV × List Trail) × Heap) :=
  bindE (drawM (some t0) H_8) fun t20_9 H_10 =>
  bindE (drawM (some t1) H_10) fun t21_11 H_12 =>
  bindE (drawR false [t20_9.1, t21_11.1] (fun F => mSliceSl 2 t20_9.1 none (some t21_11.1) F) H_12) fun t22_13 H_14 =>
  bindE (drawM (some t0) H_14) fun t23_15 H_16 =>
  bindE (drawM (some t2) H_16) fun t24_17 H_18 =>
  bindE (drawR false [t23_15.1, t24_17.1] (fun F => mSliceSl 2 t23_15.1 (some t24_17.1) none F) H_18) fun t25_19 H_20 =>
  bindE (drawR false [t22_13.1, t25_19.1] (fun F => mAppend 97 2 48 false t22_13.1 t25_19.1 F) H_20) fun t26_21 H_22 =>
  bindE (drawM (some t26_21.1) H_22) fun t0_23 H_24 =>
  some (([t0_23.1], [t20_9.2, t21_11.2, t22_13.2, t23_15.2, t24_17.2, t25_19.2, t26_21.2, t0_23.2]), H_24)
noncomputable def p115 (b : Bool) (cf : CallFn) (k : Nat) (t0 t1 t2 : AV) (H : Heap) : Option (AV × Heap) :=
  bindE (mLenSl t0 H) fun t12_0 H_1 =>
  bindE ((none : Option (AV × Heap))) fun t13_2 H_3 =>
  bindE (mBin (cfg b) 3 false .eql t1 t2 H_3) fun t16_4 H_5 =>
  condR t16_4 (endQ (cfg b) true k (resC1 (some t0) (some [])) H_5) (bindE (mLenSl t0 H_5) fun t19_6 H_7 =>
  afterD (twice [0, 0, 3, 0, 0, 24, 63, 127] (p115_d0 b cf t0 t1 t2) H_7) fun vs_25 H_26 =>
  un vs_25 fun t0_27 vs_28 => un0 vs_28 (bindE (mLenSl t0_27 H_26) fun t29_29 H_30 =>
  bindE (mSliceSl 2 t0_27 (some t29_29) (some t19_6) H_30) fun t31_31 H_32 =>
  bindE ((none : Option (AV × Heap))) fun u_33 H_34 =>
  endQ (cfg b) true k (resC1 (some t0_27) (some [])) H_34))

theorem p74_eq (b : Bool) (cf : CallFn) (H : Heap) : runG (cfg b) cf An 74 [] H = p74 b cf H.length  H := by kernel_rfl
theorem p75_eq (b : Bool) (cf : CallFn) (H : Heap) : runG (cfg b) cf An 75 [] H = p75 b cf H.length  H := by kernel_rfl
theorem p76_eq (b : Bool) (cf : CallFn) (t0 t1 t2 : AV) (H : Heap) : runG (cfg b) cf An 76 [t0, t1, t2] H = p76 b cf H.length t0 t1 t2 H := by kernel_rfl
theorem p77_eq (b : Bool) (cf : CallFn) (t0 t1 : AV) (H : Heap) : runG (cfg b) cf An 77 [t0, t1] H = p77 b cf H.length t0 t1 H := by kernel_rfl
theorem p79_eq (b : Bool) (cf : CallFn) (t0 : AV) (H : Heap) : runG (cfg b) cf An 79 [t0] H = p79 b cf H.length t0 H := by kernel_rfl
theorem p80_eq (b : Bool) (cf : CallFn) (t0 t1 : AV) (H : Heap) : runG (cfg b) cf An 80 [t0, t1] H = p80 b cf H.length t0 t1 H := by kernel_rfl
theorem p81_eq (b : Bool) (cf : CallFn) (t0 t1 : AV) (H : Heap) : runG (cfg b) cf An 81 [t0, t1] H = p81 b cf H.length t0 t1 H := by kernel_rfl
theorem p112_eq (b : Bool) (cf : CallFn) (t0 t1 : AV) (H : Heap) : runG (cfg b) cf An 112 [t0, t1] H = p112 b cf H.length t0 t1 H := by kernel_rfl
theorem p134_eq (b : Bool) (cf : CallFn) (t0 t1 t2 : AV) (H : Heap) : runG (cfg b) cf An 134 [t0, t1, t2] H = p134 b cf H.length t0 t1 t2 H := by kernel_rfl
theorem p135_eq (b : Bool) (cf : CallFn) (t0 t1 : AV) (H : Heap) : runG (cfg b) cf An 135 [t0, t1] H = p135 b cf H.length t0 t1 H := by kernel_rfl
theorem p114_eq (b : Bool) (cf : CallFn) (t0 t1 : AV) (H : Heap) : runG (cfg b) cf An 114 [t0, t1] H = p114 b cf H.length t0 t1 H := by kernel_rfl
theorem p113_eq (b : Bool) (cf : CallFn) (t0 t1 t2 : AV) (H : Heap) : runG (cfg b) cf An 113 [t0, t1, t2] H = p113 b cf H.length t0 t1 t2 H := by kernel_rfl
theorem p115_eq (b : Bool) (cf : CallFn) (t0 t1 t2 : AV) (H : Heap) : runG (cfg b) cf An 115 [t0, t1, t2] H = p115 b cf H.length t0 t1 t2 H := by kernel_rfl

end Go.Fm

/-
  What the interpreter does to functions, without slots and types; the kernel holds it against the code.
-/
set_option maxRecDepth 100000
set_option linter.unusedVariables false
namespace Go.Fm
open Go Go.Proofs

noncomputable def p18_l0 (b : Bool) (cf : CallFn) (k : Nat) (s : List AV) (H : Heap) : Option (LStep × Heap) :=
  un s fun t1_14 vs_15 => un vs_15 fun t2_16 vs_17 => un vs_17 fun t7_18 vs_19 => un vs_19 fun t9_20 vs_21 => un vs_21 fun t25_22 vs_23 => un vs_23 fun t26_24 vs_25 => un vs_25 fun t27_26 vs_27 => un0 vs_27 (bindE (mBin (cfg b) 3 false .lss t27_26 t26_24 H) fun t28_28 H_29 =>
  condR t28_28 (bindE (mIdxS 2 t25_22 t27_26 H_29) fun t29_30 H_31 =>
  bindE (mLoad true 2 t29_30 H_31) fun t30_32 H_33 =>
  bindE (mAlloc 97 (.agg [.nilsl, .nilsl]) H_33) fun t11_34 H_35 =>
  bindE (mStore true 2 t11_34 t30_32 H_35) fun u_36 H_37 =>
  bindE (mFA 0 0 t11_34 H_37) fun t32_38 H_39 =>
  bindE (mLoad false 1 t32_38 H_39) fun t33_40 H_41 =>
  bindE (mFA 1 1 t11_34 H_41) fun t34_42 H_43 =>
  bindE (mLoad false 1 t34_42 H_43) fun t35_44 H_45 =>
  bindE (cf 76 [t7_18, t33_40, t35_44] H_45) fun t36_46 H_47 =>
  bindE (mBin (cfg b) 3 true .add t27_26 (AV.c (.int .i64 1)) H_47) fun t37_48 H_49 =>
  some (LStep.cont [t1_14, t2_16, t7_18, t9_20, t25_22, t26_24, t37_48], H_49)) (some (LStep.exit 0 [t1_14, t2_16, t7_18, t9_20], H_29)))
noncomputable def p18_l2 (b : Bool) (cf : CallFn) (k : Nat) (s : List AV) (H : Heap) : Option (LStep × Heap) :=
  un s fun t7_122 vs_123 => un vs_123 fun t9_124 vs_125 => un vs_125 fun t13_126 vs_127 => un vs_127 fun t14_128 vs_129 => un vs_129 fun t62_130 vs_131 => un vs_131 fun t63_132 vs_133 => un vs_133 fun t64_134 vs_135 => un0 vs_135 (bindE (mBin (cfg b) 3 false .lss t64_134 t63_132 H) fun t65_136 H_137 =>
  condR t65_136 (bindE (mIdxS 2 t62_130 t64_134 H_137) fun t66_138 H_139 =>
  bindE (mLoad true 2 t66_138 H_139) fun t67_140 H_141 =>
  bindE (mAlloc 97 (.agg [.nilsl, .nilsl]) H_141) fun t16_142 H_143 =>
  bindE (mStore true 2 t16_142 t67_140 H_143) fun u_144 H_145 =>
  bindE (mFA 0 0 t16_142 H_145) fun t69_146 H_147 =>
  bindE (mLoad false 1 t69_146 H_147) fun t70_148 H_149 =>
  bindE (cf 42 [t14_128, t70_148] H_149) fun t71_150 H_151 =>
  bindE (mBin (cfg b) 3 true .geq t71_150 (AV.c (.int .i64 0)) H_151) fun t72_152 H_153 =>
  condR t72_152 (some (LStep.ret [(AV.c (.bool false)), t7_122, t9_124, t13_126], H_153)) (bindE (mBin (cfg b) 3 true .add t64_134 (AV.c (.int .i64 1)) H_153) fun t73_154 H_155 =>
  some (LStep.cont [t7_122, t9_124, t13_126, t14_128, t62_130, t63_132, t73_154], H_155))) (some (LStep.exit 2 [AV.any, t7_122, t9_124, t13_126], H_137)))
/-- ferryman/ferrymanlaw16.KvParts -/
noncomputable def p18_d0 (b : Bool) (cf : CallFn) (t7_56 t1_52 t42_64 t2_54 : AV) (H_66 : Heap) : Option ((List AV × List Trail) × Heap) :=
  bindE (drawM (some t7_56) H_66) fun t43_67 H_68 =>
  bindE (drawM (some t1_52) H_68) fun t44_69 H_70 =>
  bindE (drawM (some t42_64) H_70) fun t45_71 H_72 =>
  bindE (drawR false [t44_69.1, t45_71.1] (fun F => mSliceSl 1 t44_69.1 none (some t45_71.1) F) H_72) fun t46_73 H_74 =>
  bindE (drawR false [t43_67.1, t46_73.1] (fun F => cf 77 [t43_67.1, t46_73.1] F) H_74) fun t47_75 H_76 =>
  bindE (drawM (some t7_56) H_76) fun t48_77 H_78 =>
  bindE (drawM (some t2_54) H_78) fun t49_79 H_80 =>
  bindE (drawM (some t42_64) H_80) fun t50_81 H_82 =>
  bindE (drawR false [t49_79.1, t50_81.1] (fun F => mSliceSl 1 t49_79.1 none (some t50_81.1) F) H_82) fun t51_83 H_84 =>
  bindE (drawR false [t48_77.1, t51_83.1] (fun F => cf 77 [t48_77.1, t51_83.1] F) H_84) fun t52_85 H_86 =>
  bindE (drawM (some t47_75.1) H_86) fun t13_87 H_88 =>
  bindE (drawM (some t52_85.1) H_88) fun t14_89 H_90 =>
  some (([t13_87.1, t14_89.1], [t43_67.2, t44_69.2, t45_71.2, t46_73.2, t47_75.2, t48_77.2, t49_79.2, t50_81.2, t51_83.2, t52_85.2, t13_87.2, t14_89.2]), H_90)
noncomputable def p18_d1 (b : Bool) (cf : CallFn) (t1_52 t42_64 t2_54 : AV) (H_97 : Heap) : Option ((List AV × List Trail) × Heap) :=
  bindE (drawM (some t1_52) H_97) fun t53_98 H_99 =>
  bindE (drawM (some t42_64) H_99) fun t54_100 H_101 =>
  bindE (drawR false [t53_98.1, t54_100.1] (fun F => mSliceSl 1 t53_98.1 none (some t54_100.1) F) H_101) fun t55_102 H_103 =>
  bindE (drawR true [t55_102.1] (fun F => mConvBS t55_102.1 F) H_103) fun t56_104 H_105 =>
  bindE (drawM (some t2_54) H_105) fun t57_106 H_107 =>
  bindE (drawM (some t42_64) H_107) fun t58_108 H_109 =>
  bindE (drawR false [t57_106.1, t58_108.1] (fun F => mSliceSl 1 t57_106.1 none (some t58_108.1) F) H_109) fun t59_110 H_111 =>
  bindE (drawR true [t59_110.1] (fun F => mConvBS t59_110.1 F) H_111) fun t60_112 H_113 =>
  bindE (drawR true [t56_104.1, t60_112.1] (fun F => mBin (cfg b) 9 false .neq t56_104.1 t60_112.1 F) H_113) fun t61_114 H_115 =>
  some (([t61_114.1], [t53_98.2, t54_100.2, t55_102.2, t56_104.2, t57_106.2, t58_108.2, t59_110.2, t60_112.2, t61_114.2]), H_115)
noncomputable def p18 (b : Bool) (cf : CallFn) (k : Nat) (t0 t1 t2 : AV) (H : Heap) : Option (AV × Heap) :=
  bindE (cf 74 [] H) fun t17_0 H_1 =>
  bindE (mUn .not t17_0 H_1) fun t18_2 H_3 =>
  condR t18_2 (endQ (cfg b) false k (resC1 (some (AV.c (.bool false))) (some [])) H_3) (bindE (cf 75 [] H_3) fun t19_4 H_5 =>
  bindE (cf 39 [t0, (AV.c (.int .i64 50))] H_5) fun t22_6 H_7 =>
  bindE (mExtract 0 t22_6 H_7) fun t23_8 H_9 =>
  bindE (mExtract 1 t22_6 H_9) fun t24_10 H_11 =>
  bindE (mLenSl t24_10 H_11) fun t26_12 H_13 =>
  afterL 0 (loopX k (p18_l0 b cf k) [t1, t2, t19_4, t24_10, t24_10, t26_12, (AV.c (.int .i64 0))] H_13) (fun vs_50 H_51 =>
  un vs_50 fun t1_52 vs_53 => un vs_53 fun t2_54 vs_55 => un vs_55 fun t7_56 vs_57 => un vs_57 fun t9_58 vs_59 => un0 vs_59 (bindE (mLenSl t1_52 H_51) fun t39_60 H_61 =>
  bindE (mLenSl t2_54 H_61) fun t41_62 H_63 =>
  bindE (mMin [t39_60, t41_62] H_63) fun t42_64 H_65 =>
  afterD (twice [0, 0, 0, 6, 15, 0, 0, 0, 192, 511, 1023, 2047] (p18_d0 b cf t7_56 t1_52 t42_64 t2_54) H_65) fun vs_91 H_92 =>
  un vs_91 fun t13_93 vs_94 => un vs_94 fun t14_95 vs_96 => un0 vs_96 (afterD (twice [0, 0, 3, 7, 0, 0, 48, 112, 255] (p18_d1 b cf t1_52 t42_64 t2_54) H_92) fun vs_116 H_117 =>
  un vs_116 fun t61_118 vs_119 => un0 vs_119 (condR t61_118 (bindE (mLenSl t13_93 H_117) fun t63_120 H_121 =>
  afterL 2 (loopX k (p18_l2 b cf k) [t7_56, t9_58, t13_93, t14_95, t13_93, t63_120, (AV.c (.int .i64 0))] H_121) (fun vs_156 H_157 =>
  un vs_156 fun t6_158 vs_159 => un vs_159 fun t7_160 vs_161 => un vs_161 fun t9_162 vs_163 => un vs_163 fun t13_164 vs_165 => un0 vs_165 (bindE (cf 77 [t7_160, (AV.c .nilsl)] H_157) fun t75_166 H_167 =>
  bindE (mLenSl t75_166 H_167) fun t76_168 H_169 =>
  bindE (mLenSl t9_162 H_169) fun t78_170 H_171 =>
  bindE (mBin (cfg b) 3 false .eql t76_168 t78_170 H_171) fun t79_172 H_173 =>
  bindE (guardR (wantR true t79_172) (some (t13_164, H_173)) H_173) fun t81_174 H_175 =>
  bindE (guardR (wantR true t79_172) (mLenSl t81_174 H_175) H_175) fun t82_176 H_177 =>
  bindE (guardR (wantR true t79_172) (some (t9_162, H_177)) H_177) fun t83_178 H_179 =>
  bindE (guardR (wantR true t79_172) (mLenSl t83_178 H_179) H_179) fun t84_180 H_181 =>
  bindE (guardR (wantR true t79_172) (mBin (cfg b) 3 false .leq t82_176 t84_180 H_181) H_181) fun t85_182 H_183 =>
  bindE (mPick t79_172 t85_182 (AV.c (.bool false)) H_183) fun t86_184 H_185 =>
  endQ (cfg b) false k (resC1 (some t86_184) (some [])) H_185)) (fun vs_156 H_157 => un vs_156 fun t6_186 vs_187 => un vs_187 fun t7_188 vs_189 => un vs_189 fun t9_190 vs_191 => un vs_191 fun t13_192 vs_193 => un0 vs_193 (endQ (cfg b) false k (resC1 (some t6_186) (some [])) H_157))) (bindE (cf 77 [t7_56, (AV.c .nilsl)] H_117) fun t75_194 H_195 =>
  bindE (mLenSl t75_194 H_195) fun t76_196 H_197 =>
  bindE (mLenSl t9_58 H_197) fun t78_198 H_199 =>
  bindE (mBin (cfg b) 3 false .eql t76_196 t78_198 H_199) fun t79_200 H_201 =>
  bindE (guardR (wantR true t79_200) (some (t13_93, H_201)) H_201) fun t81_202 H_203 =>
  bindE (guardR (wantR true t79_200) (mLenSl t81_202 H_203) H_203) fun t82_204 H_205 =>
  bindE (guardR (wantR true t79_200) (some (t9_58, H_205)) H_205) fun t83_206 H_207 =>
  bindE (guardR (wantR true t79_200) (mLenSl t83_206 H_207) H_207) fun t84_208 H_209 =>
  bindE (guardR (wantR true t79_200) (mBin (cfg b) 3 false .leq t82_204 t84_208 H_209) H_209) fun t85_210 H_211 =>
  bindE (mPick t79_200 t85_210 (AV.c (.bool false)) H_211) fun t86_212 H_213 =>
  endQ (cfg b) false k (resC1 (some t86_212) (some [])) H_213))))) (fun vs_50 H_51 => un vs_50 fun t1_214 vs_215 => un vs_215 fun t2_216 vs_217 => un vs_217 fun t7_218 vs_219 => un vs_219 fun t9_220 vs_221 => un0 vs_221 (endQ (cfg b) false k (resC1 (some AV.any) (some [])) H_51)))

theorem p18_eq (b : Bool) (cf : CallFn) (t0 t1 t2 : AV) (H : Heap) : runG (cfg b) cf An 18 [t0, t1, t2] H = p18 b cf H.length t0 t1 t2 H := by kernel_rfl

end Go.Fm

