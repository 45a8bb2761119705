/-
  A part of the proof: DLaw15.
-/
import Derived.Test.YtjmjijgnbjkpnaaDoorDAnn
set_option linter.all false
set_option autoImplicit true
/-
  What the interpreter does to functions, without slots and types; the kernel holds it against the code.
-/
set_option maxRecDepth 100000
set_option linter.unusedVariables false
namespace Go.Fm
open Go Go.Proofs

/-- ferryman/ferrymanlaw07.NodesFew -/
noncomputable def p15_d0 (b : Bool) (cf : CallFn) (t47_40 t39_30 t34_26 t29_22 t12_50 : AV) (H_54 : Heap) : Option ((List AV × List Trail) × Heap) :=
  bindE (drawM (some t47_40) H_54) fun t56_55 H_56 =>
  bindE (drawR true [t56_55.1] (fun F => mBin (cfg b) 25 true .eql t56_55.1 (AV.c (.int .i64 0)) F) H_56) fun t57_57 H_58 =>
  bindE (drawM (some t57_57.1) H_58) fun t58_59 H_60 =>
  bindE (guardD (wantR true t58_59.1) (drawM (some t39_30) H_60) H_60) fun t59_61 H_62 =>
  bindE (guardD (wantR true t58_59.1) (drawM (some t34_26) H_62) H_62) fun t60_63 H_64 =>
  bindE (guardD (wantR true t58_59.1) (drawR true [t59_61.1, t60_63.1] (fun F => mBin (cfg b) 3 false .eql t59_61.1 t60_63.1 F) H_64) H_64) fun t61_65 H_66 =>
  bindE (drawR true [t58_59.1, t61_65.1] (fun F => mPick t58_59.1 t61_65.1 (AV.c (.bool false)) F) H_66) fun t62_67 H_68 =>
  bindE (drawM (some t62_67.1) H_68) fun t63_69 H_70 =>
  bindE (guardD (wantR true t63_69.1) (drawM (some t29_22) H_70) H_70) fun t64_71 H_72 =>
  bindE (guardD (wantR true t63_69.1) (drawR false [t64_71.1] (fun F => cf 71 [t64_71.1] F) H_72) H_72) fun t65_73 H_74 =>
  bindE (guardD (wantR true t63_69.1) (drawM (some t34_26) H_74) H_74) fun t66_75 H_76 =>
  bindE (guardD (wantR true t63_69.1) (drawR true [t65_73.1, t66_75.1] (fun F => mBin (cfg b) 3 false .geq t65_73.1 t66_75.1 F) H_76) H_76) fun t67_77 H_78 =>
  bindE (drawR true [t63_69.1, t67_77.1] (fun F => mPick t63_69.1 t67_77.1 (AV.c (.bool false)) F) H_78) fun t68_79 H_80 =>
  bindE (drawM (some t68_79.1) H_80) fun t69_81 H_82 =>
  bindE (guardD (wantR true t69_81.1) (drawM (some t29_22) H_82) H_82) fun t70_83 H_84 =>
  bindE (guardD (wantR true t69_81.1) (drawR false [t70_83.1] (fun F => cf 71 [t70_83.1] F) H_84) H_84) fun t71_85 H_86 =>
  bindE (guardD (wantR true t69_81.1) (drawM (some t34_26) H_86) H_86) fun t72_87 H_88 =>
  bindE (guardD (wantR true t69_81.1) (drawR true [t12_50] (fun F => mFA 2 2 t12_50 F) H_88) H_88) fun t73_89 H_90 =>
  bindE (guardD (wantR true t69_81.1) (drawR true [t73_89.1] (fun F => mLoad false 1 t73_89.1 F) H_90) H_90) fun t74_91 H_92 =>
  bindE (guardD (wantR true t69_81.1) (drawR true [t74_91.1] (fun F => mBin (cfg b) 3 true .mul (AV.c (.int .i64 3)) t74_91.1 F) H_92) H_92) fun t75_93 H_94 =>
  bindE (guardD (wantR true t69_81.1) (drawR true [t72_87.1, t75_93.1] (fun F => mBin (cfg b) 3 false .add t72_87.1 t75_93.1 F) H_94) H_94) fun t76_95 H_96 =>
  bindE (guardD (wantR true t69_81.1) (drawR true [t76_95.1] (fun F => mBin (cfg b) 3 true .add t76_95.1 (AV.c (.int .i64 3)) F) H_96) H_96) fun t77_97 H_98 =>
  bindE (guardD (wantR true t69_81.1) (drawR true [t71_85.1, t77_97.1] (fun F => mBin (cfg b) 3 false .leq t71_85.1 t77_97.1 F) H_98) H_98) fun t78_99 H_100 =>
  bindE (drawR true [t69_81.1, t78_99.1] (fun F => mPick t69_81.1 t78_99.1 (AV.c (.bool false)) F) H_100) fun t79_101 H_102 =>
  bindE (drawM (some t79_101.1) H_102) fun t4_103 H_104 =>
  some (([t4_103.1], [t56_55.2, t57_57.2, t58_59.2, t59_61.2, t60_63.2, t61_65.2, t62_67.2, t63_69.2, t64_71.2, t65_73.2, t66_75.2, t67_77.2, t68_79.2, t69_81.2, t70_83.2, t71_85.2, t72_87.2, t73_89.2, t74_91.2, t75_93.2, t76_95.2, t77_97.2, t78_99.2, t79_101.2, t4_103.2]), H_104)
noncomputable def p15 (b : Bool) (cf : CallFn) (k : Nat) (t0 t1 : AV) (H : Heap) : Option (AV × Heap) :=
  bindE (cf 68 [] H) fun t14_0 H_1 =>
  bindE (mUn .not t14_0 H_1) fun t15_2 H_3 =>
  condR t15_2 (endQ (cfg b) false k (resC1 (some (AV.c (.bool false))) (some [])) H_3) (bindE (cf 39 [t0, (AV.c (.int .i64 60))] H_3) fun t18_4 H_5 =>
  bindE (mExtract 0 t18_4 H_5) fun t19_6 H_7 =>
  bindE (mExtract 1 t18_4 H_7) fun t20_8 H_9 =>
  bindE (mLenSl t1 H_9) fun t22_10 H_11 =>
  bindE (mBin (cfg b) 3 true .eql t22_10 (AV.c (.int .i64 0)) H_11) fun t23_12 H_13 =>
  bindE (guardR (wantR false t23_12) (some (t1, H_13)) H_13) fun t25_14 H_15 =>
  bindE (guardR (wantR false t23_12) (mLenSl t25_14 H_15) H_15) fun t26_16 H_17 =>
  bindE (guardR (wantR false t23_12) (mBin (cfg b) 3 true .gtr t26_16 (AV.c (.int .i64 96)) H_17) H_17) fun t27_18 H_19 =>
  bindE (mPick t23_12 (AV.c (.bool true)) t27_18 H_19) fun t28_20 H_21 =>
  condR t28_20 (endQ (cfg b) false k (resC1 (some (AV.c (.bool true))) (some [])) H_21) (bindE (cf 69 [] H_21) fun t29_22 H_23 =>
  bindE (cf 70 [t29_22, t19_6] H_23) fun t32_24 H_25 =>
  bindE (cf 71 [t29_22] H_25) fun t34_26 H_27 =>
  bindE (cf 70 [t29_22, t19_6] H_27) fun t37_28 H_29 =>
  bindE (cf 71 [t29_22] H_29) fun t39_30 H_31 =>
  bindE (mBuildSl 5 1 (.int .u8 0) 1 [(0, (AV.c (.int .u8 120)))] H_31) fun t43_32 H_33 =>
  bindE (mConv0 t43_32 H_33) fun t44_34 H_35 =>
  bindE (cf 36 [t19_6, t1, t44_34] H_35) fun t45_36 H_37 =>
  bindE (mExtract 0 t45_36 H_37) fun t46_38 H_39 =>
  bindE (mExtract 1 t45_36 H_39) fun t47_40 H_41 =>
  bindE (cf 70 [t29_22, t46_38] H_41) fun t50_42 H_43 =>
  bindE (cf 45 [t46_38, (AV.c .nilsl)] H_43) fun t53_44 H_45 =>
  bindE (mExtract 0 t53_44 H_45) fun t54_46 H_47 =>
  bindE (mExtract 1 t53_44 H_47) fun t55_48 H_49 =>
  bindE (mAlloc 66 (.agg [.nilsl, .nilsl, (.int .i64 0), (.int .u64 0), (.arr 32 .u8 (List.replicate 32 0)), (.arr 32 .u8 (List.replicate 32 0))]) H_49) fun t12_50 H_51 =>
  bindE (mStore true 68 t12_50 t54_46 H_51) fun u_52 H_53 =>
  afterD (twice [0, 1, 3, 7, 7, 31, 63, 127, 255, 511, 255, 2047, 4095, 8191, 16383, 32767, 16383, 16383, 147455, 409599, 999423, 2047999, 4194303, 8388607, 16777215] (p15_d0 b cf t47_40 t39_30 t34_26 t29_22 t12_50) H_53) fun vs_105 H_106 =>
  un vs_105 fun t4_107 vs_108 => un0 vs_108 (endQ (cfg b) false k (resC1 (some t4_107) (some [])) H_106)))

theorem p15_eq (b : Bool) (cf : CallFn) (t0 t1 : AV) (H : Heap) : runG (cfg b) cf An 15 [t0, t1] H = p15 b cf H.length t0 t1 H := by kernel_rfl

end Go.Fm

