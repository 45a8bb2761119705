/-
  A part of the proof: DLaw3.
-/
import Derived.Test.YtjmjijgnbjkpnaaDoorDAnn
set_option linter.all false
set_option autoImplicit true
/-
  What the interpreter does to functions, without slots and types; the kernel holds it against the code.
-/
set_option maxRecDepth 100000
set_option linter.unusedVariables false
namespace Go.Fm
open Go Go.Proofs

/-- ferryman/ferrymanlaw06.EpochNil -/
noncomputable def p3 (b : Bool) (cf : CallFn) (k : Nat) (t0 t1 : AV) (H : Heap) : Option (AV × Heap) :=
  bindE (cf 24 [] H) fun t14_0 H_1 =>
  bindE (mUn .not t14_0 H_1) fun t15_2 H_3 =>
  condR t15_2 (endQ (cfg b) false k (resC1 (some (AV.c (.bool false))) (some [])) H_3) (bindE (cf 26 [] H_3) fun t18_4 H_5 =>
  bindE (cf 25 [(AV.c .nilp), t18_4] H_5) fun t19_6 H_7 =>
  bindE (mExtract 0 t19_6 H_7) fun t20_8 H_9 =>
  bindE (mExtract 1 t19_6 H_9) fun t21_10 H_11 =>
  bindE (cf 27 [(AV.c .nilp), t0] H_11) fun t25_12 H_13 =>
  bindE (mExtract 0 t25_12 H_13) fun t26_14 H_15 =>
  bindE (mExtract 1 t25_12 H_15) fun t27_16 H_17 =>
  bindE (mBin (cfg b) 5 true .rem t1 (AV.c (.int .u8 64)) H_17) fun t30_18 H_19 =>
  bindE (mConvI .i64 t30_18 H_19) fun t31_20 H_21 =>
  bindE (mBin (cfg b) 3 true .add (AV.c (.int .i64 1)) t31_20 H_21) fun t32_22 H_23 =>
  bindE (cf 28 [t32_22] H_23) fun t33_24 H_25 =>
  bindE (mExtract 0 t33_24 H_25) fun t34_26 H_27 =>
  bindE (mExtract 1 t33_24 H_27) fun t35_28 H_29 =>
  bindE (cf 25 [t34_26, (AV.c .nilp)] H_29) fun t38_30 H_31 =>
  bindE (mExtract 0 t38_30 H_31) fun t39_32 H_33 =>
  bindE (mExtract 1 t38_30 H_33) fun t40_34 H_35 =>
  bindE (mBin (cfg b) 22 true .eql t20_8 (AV.c (.int .u64 0)) H_35) fun t42_36 H_37 =>
  bindE (guardR (wantR true t42_36) (some (t21_10, H_37)) H_37) fun t44_38 H_39 =>
  bindE (guardR (wantR true t42_36) (mBin (cfg b) 25 true .eql t44_38 (AV.c (.int .i64 1)) H_39) H_39) fun t45_40 H_41 =>
  bindE (mPick t42_36 t45_40 (AV.c (.bool false)) H_41) fun t46_42 H_43 =>
  bindE (guardR (wantR true t46_42) (some (t26_14, H_43)) H_43) fun t48_44 H_45 =>
  bindE (guardR (wantR true t46_42) (mBin (cfg b) 28 true .eql t48_44 (AV.c .nilp) H_45) H_45) fun t49_46 H_47 =>
  bindE (mPick t46_42 t49_46 (AV.c (.bool false)) H_47) fun t50_48 H_49 =>
  bindE (guardR (wantR true t50_48) (some (t27_16, H_49)) H_49) fun t52_50 H_51 =>
  bindE (guardR (wantR true t50_48) (mBin (cfg b) 25 true .eql t52_50 (AV.c (.int .i64 1)) H_51) H_51) fun t53_52 H_53 =>
  bindE (mPick t50_48 t53_52 (AV.c (.bool false)) H_53) fun t54_54 H_55 =>
  bindE (guardR (wantR true t54_54) (some ((AV.c .nilp), H_55)) H_55) fun t56_56 H_57 =>
  bindE (guardR (wantR true t54_54) (cf 29 [t56_56] H_57) H_57) fun t57_58 H_59 =>
  bindE (guardR (wantR true t54_54) (mBin (cfg b) 22 true .eql t57_58 (AV.c (.int .u64 0)) H_59) H_59) fun t58_60 H_61 =>
  bindE (mPick t54_54 t58_60 (AV.c (.bool false)) H_61) fun t59_62 H_63 =>
  bindE (guardR (wantR true t59_62) (some ((AV.c .nilp), H_63)) H_63) fun t61_64 H_65 =>
  bindE (guardR (wantR true t59_62) (cf 30 [t61_64] H_65) H_65) fun t62_66 H_67 =>
  bindE (guardR (wantR true t59_62) (mLenSl t62_66 H_67) H_67) fun t63_68 H_69 =>
  bindE (guardR (wantR true t59_62) (mBin (cfg b) 3 true .eql t63_68 (AV.c (.int .i64 0)) H_69) H_69) fun t64_70 H_71 =>
  bindE (mPick t59_62 t64_70 (AV.c (.bool false)) H_71) fun t65_72 H_73 =>
  bindE (guardR (wantR true t65_72) (some (t35_28, H_73)) H_73) fun t67_74 H_75 =>
  bindE (guardR (wantR true t65_72) (mBin (cfg b) 25 true .eql t67_74 (AV.c (.int .i64 0)) H_75) H_75) fun t68_76 H_77 =>
  bindE (mPick t65_72 t68_76 (AV.c (.bool false)) H_77) fun t69_78 H_79 =>
  bindE (guardR (wantR true t69_78) (some (t39_32, H_79)) H_79) fun t71_80 H_81 =>
  bindE (guardR (wantR true t69_78) (mBin (cfg b) 22 true .eql t71_80 (AV.c (.int .u64 0)) H_81) H_81) fun t72_82 H_83 =>
  bindE (mPick t69_78 t72_82 (AV.c (.bool false)) H_83) fun t73_84 H_85 =>
  bindE (guardR (wantR true t73_84) (some (t40_34, H_85)) H_85) fun t75_86 H_87 =>
  bindE (guardR (wantR true t73_84) (mBin (cfg b) 25 true .eql t75_86 (AV.c (.int .i64 1)) H_87) H_87) fun t76_88 H_89 =>
  bindE (mPick t73_84 t76_88 (AV.c (.bool false)) H_89) fun t77_90 H_91 =>
  bindE (guardR (wantR true t77_90) (some (t34_26, H_91)) H_91) fun t79_92 H_93 =>
  bindE (guardR (wantR true t77_90) (cf 29 [t79_92] H_93) H_93) fun t80_94 H_95 =>
  bindE (guardR (wantR true t77_90) (mBin (cfg b) 22 true .eql t80_94 (AV.c (.int .u64 0)) H_95) H_95) fun t81_96 H_97 =>
  bindE (mPick t77_90 t81_96 (AV.c (.bool false)) H_97) fun t82_98 H_99 =>
  endQ (cfg b) false k (resC1 (some t82_98) (some [])) H_99)

noncomputable def p24_l0 (b : Bool) (cf : CallFn) (k : Nat) (s : List AV) (H : Heap) : Option (LStep × Heap) :=
  un s fun t1_6 vs_7 => un vs_7 fun t2_8 vs_9 => un vs_9 fun t9_10 vs_11 => un0 vs_11 (bindE (mBin (cfg b) 3 true .lss t9_10 (AV.c (.int .i64 3)) H) fun t10_12 H_13 =>
  condR t10_12 (bindE (cf 26 [] H_13) fun t12_14 H_15 =>
  bindE (cf 25 [t1_6, t12_14] H_15) fun t13_16 H_17 =>
  bindE (mBin (cfg b) 3 true .add t9_10 (AV.c (.int .i64 1)) H_17) fun t14_18 H_19 =>
  some (LStep.cont [t1_6, t2_8, t14_18], H_19)) (some (LStep.exit 0 [t1_6, t2_8], H_13)))
/-- ferryman/ferrymanlaw06.Awake -/
noncomputable def p24 (b : Bool) (cf : CallFn) (k : Nat) (H : Heap) : Option (AV × Heap) :=
  bindE (cf 28 [(AV.c (.int .i64 2))] H) fun t6_0 H_1 =>
  bindE (mExtract 0 t6_0 H_1) fun t7_2 H_3 =>
  bindE (mExtract 1 t6_0 H_3) fun t8_4 H_5 =>
  afterL 0 (loopX k (p24_l0 b cf k) [t7_2, t8_4, (AV.c (.int .i64 0))] H_5) (fun vs_20 H_21 =>
  un vs_20 fun t1_22 vs_23 => un vs_23 fun t2_24 vs_25 => un0 vs_25 (bindE (cf 27 [t1_22, (AV.c (.int .u64 1))] H_21) fun t17_26 H_27 =>
  bindE (mExtract 0 t17_26 H_27) fun t18_28 H_29 =>
  bindE (mExtract 1 t17_26 H_29) fun t19_30 H_31 =>
  bindE (mBin (cfg b) 25 true .eql t2_24 (AV.c (.int .i64 0)) H_31) fun t21_32 H_33 =>
  bindE (guardR (wantR true t21_32) (some (t1_22, H_33)) H_33) fun t23_34 H_35 =>
  bindE (guardR (wantR true t21_32) (cf 29 [t23_34] H_35) H_35) fun t24_36 H_37 =>
  bindE (guardR (wantR true t21_32) (mBin (cfg b) 22 true .eql t24_36 (AV.c (.int .u64 3)) H_37) H_37) fun t25_38 H_39 =>
  bindE (mPick t21_32 t25_38 (AV.c (.bool false)) H_39) fun t26_40 H_41 =>
  bindE (guardR (wantR true t26_40) (some (t19_30, H_41)) H_41) fun t28_42 H_43 =>
  bindE (guardR (wantR true t26_40) (mBin (cfg b) 25 true .eql t28_42 (AV.c (.int .i64 11)) H_43) H_43) fun t29_44 H_45 =>
  bindE (mPick t26_40 t29_44 (AV.c (.bool false)) H_45) fun t30_46 H_47 =>
  bindE (guardR (wantR true t30_46) (some (t1_22, H_47)) H_47) fun t32_48 H_49 =>
  bindE (guardR (wantR true t30_46) (cf 30 [t32_48] H_49) H_49) fun t33_50 H_51 =>
  bindE (guardR (wantR true t30_46) (mLenSl t33_50 H_51) H_51) fun t34_52 H_53 =>
  bindE (guardR (wantR true t30_46) (mBin (cfg b) 3 true .eql t34_52 (AV.c (.int .i64 2)) H_53) H_53) fun t35_54 H_55 =>
  bindE (mPick t30_46 t35_54 (AV.c (.bool false)) H_55) fun t36_56 H_57 =>
  endQ (cfg b) false k (resC1 (some t36_56) (some [])) H_57)) (fun vs_20 H_21 => un vs_20 fun t1_58 vs_59 => un vs_59 fun t2_60 vs_61 => un0 vs_61 (endQ (cfg b) false k (resC1 (some AV.any) (some [])) H_21))

theorem p3_eq (b : Bool) (cf : CallFn) (t0 t1 : AV) (H : Heap) : runG (cfg b) cf An 3 [t0, t1] H = p3 b cf H.length t0 t1 H := by kernel_rfl
theorem p24_eq (b : Bool) (cf : CallFn) (H : Heap) : runG (cfg b) cf An 24 [] H = p24 b cf H.length  H := by kernel_rfl

end Go.Fm

