/-
  A part of the proof: DLaw7.
-/
import Derived.Test.YtjmjijgnbjkpnaaDoorDAnn
set_option linter.all false
set_option autoImplicit true
/-
  What the interpreter does to functions, without slots and types; the kernel holds it against the code.
-/
set_option maxRecDepth 100000
set_option linter.unusedVariables false
namespace Go.Fm
open Go Go.Proofs

noncomputable def p7_l0 (b : Bool) (cf : CallFn) (k : Nat) (s : List AV) (H : Heap) : Option (LStep × Heap) :=
  un s fun t4_26 vs_27 => un vs_27 fun t5_28 vs_29 => un vs_29 fun t6_30 vs_31 => un vs_31 fun t7_32 vs_33 => un0 vs_33 (bindE (mBin (cfg b) 3 true .shl (AV.c (.int .i64 1)) t7_32 H) fun t26_34 H_35 =>
  bindE (mLenSl t4_26 H_35) fun t28_36 H_37 =>
  bindE (mBin (cfg b) 3 false .lss t26_34 t28_36 H_37) fun t29_38 H_39 =>
  condR t29_38 (bindE (mBin (cfg b) 3 true .add t7_32 (AV.c (.int .i64 1)) H_39) fun t31_40 H_41 =>
  some (LStep.cont [t4_26, t5_28, t6_30, t31_40], H_41)) (some (LStep.exit 0 [t4_26, t5_28, t6_30, t7_32], H_39)))
/-- ferryman/ferrymanlaw05.TreeHigh -/
noncomputable def p7 (b : Bool) (cf : CallFn) (k : Nat) (t0 : AV) (H : Heap) : Option (AV × Heap) :=
  bindE (cf 38 [] H) fun t8_0 H_1 =>
  bindE (mUn .not t8_0 H_1) fun t9_2 H_3 =>
  condR t9_2 (endQ (cfg b) false k (resC1 (some (AV.c (.bool false))) (some [])) H_3) (bindE (cf 39 [t0, (AV.c (.int .i64 200))] H_3) fun t12_4 H_5 =>
  bindE (mExtract 0 t12_4 H_5) fun t13_6 H_7 =>
  bindE (mExtract 1 t12_4 H_7) fun t14_8 H_9 =>
  bindE (cf 45 [t13_6, (AV.c .nilsl)] H_9) fun t17_10 H_11 =>
  bindE (mExtract 0 t17_10 H_11) fun t18_12 H_13 =>
  bindE (mExtract 1 t17_10 H_13) fun t19_14 H_15 =>
  bindE (mAlloc 66 (.agg [.nilsl, .nilsl, (.int .i64 0), (.int .u64 0), (.arr 32 .u8 (List.replicate 32 0)), (.arr 32 .u8 (List.replicate 32 0))]) H_15) fun t5_16 H_17 =>
  bindE (mStore true 68 t5_16 t18_12 H_17) fun u_18 H_19 =>
  bindE (mLenSl t14_8 H_19) fun t21_20 H_21 =>
  bindE (mBin (cfg b) 3 true .eql t21_20 (AV.c (.int .i64 0)) H_21) fun t22_22 H_23 =>
  condR t22_22 (bindE (mUn .not t19_14 H_23) fun t24_24 H_25 =>
  endQ (cfg b) false k (resC1 (some t24_24) (some [])) H_25) (afterL 0 (loopX k (p7_l0 b cf k) [t14_8, t5_16, t19_14, (AV.c (.int .i64 0))] H_23) (fun vs_42 H_43 =>
  un vs_42 fun t4_44 vs_45 => un vs_45 fun t5_46 vs_47 => un vs_47 fun t6_48 vs_49 => un vs_49 fun t7_50 vs_51 => un0 vs_51 (bindE (guardR (wantR true t6_48) (mFA 3 3 t5_46 H_43) H_43) fun t34_52 H_53 =>
  bindE (guardR (wantR true t6_48) (mLoad false 1 t34_52 H_53) H_53) fun t35_54 H_55 =>
  bindE (guardR (wantR true t6_48) (mConvI .i64 t35_54 H_55) H_55) fun t36_56 H_57 =>
  bindE (guardR (wantR true t6_48) (some (t4_44, H_57)) H_57) fun t37_58 H_59 =>
  bindE (guardR (wantR true t6_48) (mLenSl t37_58 H_59) H_59) fun t38_60 H_61 =>
  bindE (guardR (wantR true t6_48) (mBin (cfg b) 3 false .eql t36_56 t38_60 H_61) H_61) fun t39_62 H_63 =>
  bindE (mPick t6_48 t39_62 (AV.c (.bool false)) H_63) fun t40_64 H_65 =>
  bindE (guardR (wantR true t40_64) (mFA 2 2 t5_46 H_65) H_65) fun t42_66 H_67 =>
  bindE (guardR (wantR true t40_64) (mLoad false 1 t42_66 H_67) H_67) fun t43_68 H_69 =>
  bindE (guardR (wantR true t40_64) (mBin (cfg b) 3 true .mul (AV.c (.int .i64 2)) t43_68 H_69) H_69) fun t44_70 H_71 =>
  bindE (guardR (wantR true t40_64) (some (t7_50, H_71)) H_71) fun t45_72 H_73 =>
  bindE (guardR (wantR true t40_64) (mBin (cfg b) 3 true .mul (AV.c (.int .i64 3)) t45_72 H_73) H_73) fun t46_74 H_75 =>
  bindE (guardR (wantR true t40_64) (mBin (cfg b) 3 true .add t46_74 (AV.c (.int .i64 2)) H_75) H_75) fun t47_76 H_77 =>
  bindE (guardR (wantR true t40_64) (mBin (cfg b) 3 false .leq t44_70 t47_76 H_77) H_77) fun t48_78 H_79 =>
  bindE (mPick t40_64 t48_78 (AV.c (.bool false)) H_79) fun t49_80 H_81 =>
  endQ (cfg b) false k (resC1 (some t49_80) (some [])) H_81)) (fun vs_42 H_43 => un vs_42 fun t4_82 vs_83 => un vs_83 fun t5_84 vs_85 => un vs_85 fun t6_86 vs_87 => un vs_87 fun t7_88 vs_89 => un0 vs_89 (endQ (cfg b) false k (resC1 (some AV.any) (some [])) H_43))))

theorem p7_eq (b : Bool) (cf : CallFn) (t0 : AV) (H : Heap) : runG (cfg b) cf An 7 [t0] H = p7 b cf H.length t0 H := by kernel_rfl

end Go.Fm

