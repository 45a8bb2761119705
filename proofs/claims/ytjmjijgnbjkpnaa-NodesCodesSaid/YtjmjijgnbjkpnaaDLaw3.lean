/-
  A part of the proof: DLaw3.
-/
import Derived.Test.YtjmjijgnbjkpnaaDAnn
set_option linter.all false
set_option autoImplicit true
/-
  What the interpreter does to functions, without slots and types; the kernel holds it against the code.
-/
set_option maxRecDepth 100000
set_option linter.unusedVariables false
namespace Go.Fm
open Go Go.Proofs
noncomputable def p3_l0 (b : Bool) (cf : CallFn) (k : Nat) (s : List AV) (H : Heap) : Option (LStep × Heap) :=
  un s fun t58_62 vs_63 => un vs_63 fun t59_64 vs_65 => un vs_65 fun t60_66 vs_67 => un0 vs_67 (bindE (mBin (cfg b) 3 false .lss t60_66 t59_64 H) fun t61_68 H_69 =>
  condR t61_68 (bindE (mIdxS 1 t58_62 t60_66 H_69) fun t62_70 H_71 =>
  bindE (mLoad false 1 t62_70 H_71) fun t63_72 H_73 =>
  bindE (cf 10 [t63_72] H_73) fun t66_74 H_75 =>
  bindE (mExtract 0 t66_74 H_75) fun t67_76 H_77 =>
  bindE (mExtract 1 t66_74 H_77) fun t68_78 H_79 =>
  bindE (mAlloc 27 (.agg [.nilsl, .nilsl, (.int .i64 0), (.int .u64 0), (.arr 32 .u8 (List.replicate 32 0)), (.arr 32 .u8 (List.replicate 32 0))]) H_79) fun t15_80 H_81 =>
  bindE (mStore true 68 t15_80 t67_76 H_81) fun u_82 H_83 =>
  bindE (cf 11 [t63_72] H_83) fun t71_84 H_85 =>
  bindE (mExtract 0 t71_84 H_85) fun t72_86 H_87 =>
  bindE (mExtract 1 t71_84 H_87) fun t73_88 H_89 =>
  bindE (mAlloc 27 (.agg [.nilsl, .nilsl, (.int .i64 0), (.int .u64 0), (.arr 32 .u8 (List.replicate 32 0)), (.arr 32 .u8 (List.replicate 32 0))]) H_89) fun t17_90 H_91 =>
  bindE (mStore true 68 t17_90 t72_86 H_91) fun u_92 H_93 =>
  bindE (mBin (cfg b) 3 false .neq t68_78 t73_88 H_93) fun t76_94 H_95 =>
  bindE (guardR (wantR false t76_94) (mLoad true 68 t15_80 H_95) H_95) fun t78_96 H_97 =>
  bindE (guardR (wantR false t76_94) (mLoad true 68 t17_90 H_97) H_97) fun t79_98 H_99 =>
  bindE (guardR (wantR false t76_94) (cf 12 [t78_96, t79_98] H_99) H_99) fun t80_100 H_101 =>
  bindE (guardR (wantR false t76_94) (mUn .not t80_100 H_101) H_101) fun t81_102 H_103 =>
  bindE (mPick t76_94 (AV.c (.bool true)) t81_102 H_103) fun t82_104 H_105 =>
  condR t82_104 (some (LStep.ret [(AV.c (.bool false))], H_105)) (bindE (mBin (cfg b) 3 true .add t60_66 (AV.c (.int .i64 1)) H_105) fun t83_106 H_107 =>
  some (LStep.cont [t58_62, t59_64, t83_106], H_107))) (some (LStep.exit 0 [AV.any], H_69)))
/-- ferryman/ferrymanlaw07.NodesCodes -/
noncomputable def p3 (b : Bool) (cf : CallFn) (k : Nat) (t0 t1 t2 t3 : AV) (H : Heap) : Option (AV × Heap) :=
  bindE (mBox 27 t0 H) fun t4_0 H_1 =>
  bindE (cf 6 [] H_1) fun t19_2 H_3 =>
  bindE (mUn .not t19_2 H_3) fun t20_4 H_5 =>
  condR t20_4 (endQ (cfg b) false k (resC1 (some (AV.c (.bool false))) (some [])) H_5) (bindE (mFA 0 0 t4_0 H_5) fun t21_6 H_7 =>
  bindE (mLoad false 1 t21_6 H_7) fun t22_8 H_9 =>
  bindE (mLenSl t22_8 H_9) fun t23_10 H_11 =>
  bindE (mFA 1 1 t4_0 H_11) fun t24_12 H_13 =>
  bindE (mLoad false 1 t24_12 H_13) fun t25_14 H_15 =>
  bindE (mLenSl t25_14 H_15) fun t26_16 H_17 =>
  bindE (mBin (cfg b) 3 false .add t23_10 t26_16 H_17) fun t27_18 H_19 =>
  bindE (mLenSl t1 H_19) fun t29_20 H_21 =>
  bindE (mBin (cfg b) 3 false .add t27_18 t29_20 H_21) fun t30_22 H_23 =>
  bindE (mBin (cfg b) 3 true .gtr t30_22 (AV.c (.int .i64 2000)) H_23) fun t31_24 H_25 =>
  condR t31_24 (endQ (cfg b) false k (resC1 (some (AV.c (.bool true))) (some [])) H_25) (bindE (mLoad true 68 t4_0 H_25) fun t33_26 H_27 =>
  bindE (cf 7 [t33_26] H_27) fun t34_28 H_29 =>
  bindE (mExtract 0 t34_28 H_29) fun t35_30 H_31 =>
  bindE (mExtract 1 t34_28 H_31) fun t36_32 H_33 =>
  bindE (mLoad true 68 t4_0 H_33) fun t38_34 H_35 =>
  bindE (cf 8 [t38_34] H_35) fun t39_36 H_37 =>
  bindE (mExtract 0 t39_36 H_37) fun t40_38 H_39 =>
  bindE (mExtract 1 t39_36 H_39) fun t41_40 H_41 =>
  bindE (mBin (cfg b) 3 false .neq t36_32 t41_40 H_41) fun t44_42 H_43 =>
  bindE (guardR (wantR false t44_42) (some (t35_30, H_43)) H_43) fun t46_44 H_45 =>
  bindE (guardR (wantR false t44_42) (mConvBS t46_44 H_45) H_45) fun t47_46 H_47 =>
  bindE (guardR (wantR false t44_42) (some (t40_38, H_47)) H_47) fun t48_48 H_49 =>
  bindE (guardR (wantR false t44_42) (mConvBS t48_48 H_49) H_49) fun t49_50 H_51 =>
  bindE (guardR (wantR false t44_42) (mBin (cfg b) 9 false .neq t47_46 t49_50 H_51) H_51) fun t50_52 H_53 =>
  bindE (mPick t44_42 (AV.c (.bool true)) t50_52 H_53) fun t51_54 H_55 =>
  condR t51_54 (endQ (cfg b) false k (resC1 (some (AV.c (.bool false))) (some [])) H_55) (bindE (cf 9 [t35_30, t2, t3] H_55) fun t57_56 H_57 =>
  bindE (mBuildSl 22 1 .nilsl 3 [(0, t1), (1, t35_30), (2, t57_56)] H_57) fun t58_58 H_59 =>
  bindE (mLenSl t58_58 H_59) fun t59_60 H_61 =>
  afterL 0 (loopX k (p3_l0 b cf k) [t58_58, t59_60, (AV.c (.int .i64 0))] H_61) (fun vs_108 H_109 =>
  un vs_108 fun t8_110 vs_111 => un0 vs_111 (endQ (cfg b) false k (resC1 (some (AV.c (.bool true))) (some [])) H_109)) (fun vs_108 H_109 => un vs_108 fun t8_112 vs_113 => un0 vs_113 (endQ (cfg b) false k (resC1 (some t8_112) (some [])) H_109)))))
theorem p3_eq (b : Bool) (cf : CallFn) (t0 t1 t2 t3 : AV) (H : Heap) : runG (cfg b) cf An 3 [t0, t1, t2, t3] H = p3 b cf H.length t0 t1 t2 t3 H := by kernel_rfl
end Go.Fm
