/-
  A part of the proof: DLaw.
-/
import Derived.Test.YtjmjijgnbjkpnaaDAnn
set_option linter.all false
set_option autoImplicit true
/-
  What the interpreter does to functions, without slots and types; the kernel holds it against the code.
-/
set_option maxRecDepth 100000
set_option linter.unusedVariables false
namespace Go.Fm
open Go Go.Proofs
noncomputable def p4_l0 (b : Bool) (cf : CallFn) (k : Nat) (s : List AV) (H : Heap) : Option (LStep × Heap) :=
  un s fun t40_40 vs_41 => un vs_41 fun t41_42 vs_43 => un vs_43 fun t42_44 vs_45 => un0 vs_45 (bindE (mBin (cfg b) 3 false .lss t42_44 t41_42 H) fun t43_46 H_47 =>
  condR t43_46 (bindE (mIdxS 1 t40_40 t42_44 H_47) fun t44_48 H_49 =>
  bindE (mLoad false 1 t44_48 H_49) fun t45_50 H_51 =>
  bindE (cf 10 [t45_50] H_51) fun t48_52 H_53 =>
  bindE (mExtract 0 t48_52 H_53) fun t49_54 H_55 =>
  bindE (mExtract 1 t48_52 H_55) fun t50_56 H_57 =>
  bindE (mAlloc 27 (.agg [.nilsl, .nilsl, (.int .i64 0), (.int .u64 0), (.arr 32 .u8 (List.replicate 32 0)), (.arr 32 .u8 (List.replicate 32 0))]) H_57) fun t13_58 H_59 =>
  bindE (mStore true 68 t13_58 t49_54 H_59) fun u_60 H_61 =>
  bindE (mBin (cfg b) 30 true .eql t50_56 (AV.c (.int .i64 0)) H_61) fun t52_62 H_63 =>
  condR t52_62 (bindE (mLoad true 68 t13_58 H_63) fun t54_64 H_65 =>
  bindE (cf 7 [t54_64] H_65) fun t55_66 H_67 =>
  bindE (mExtract 0 t55_66 H_67) fun t56_68 H_69 =>
  bindE (mExtract 1 t55_66 H_69) fun t57_70 H_71 =>
  bindE (mBin (cfg b) 30 true .neq t57_70 (AV.c (.int .i64 0)) H_71) fun t59_72 H_73 =>
  bindE (guardR (wantR false t59_72) (some (t56_68, H_73)) H_73) fun t61_74 H_75 =>
  bindE (guardR (wantR false t59_72) (mConvBS t61_74 H_75) H_75) fun t62_76 H_77 =>
  bindE (guardR (wantR false t59_72) (some (t45_50, H_77)) H_77) fun t63_78 H_79 =>
  bindE (guardR (wantR false t59_72) (mConvBS t63_78 H_79) H_79) fun t64_80 H_81 =>
  bindE (guardR (wantR false t59_72) (mBin (cfg b) 9 false .neq t62_76 t64_80 H_81) H_81) fun t65_82 H_83 =>
  bindE (mPick t59_72 (AV.c (.bool true)) t65_82 H_83) fun t66_84 H_85 =>
  condR t66_84 (some (LStep.ret [(AV.c (.bool false))], H_85)) (bindE (mBin (cfg b) 3 true .add t42_44 (AV.c (.int .i64 1)) H_85) fun t67_86 H_87 =>
  some (LStep.cont [t40_40, t41_42, t67_86], H_87))) (bindE (mBin (cfg b) 3 true .add t42_44 (AV.c (.int .i64 1)) H_63) fun t67_88 H_89 =>
  some (LStep.cont [t40_40, t41_42, t67_88], H_89))) (some (LStep.exit 0 [AV.any], H_47)))
/-- ferryman/ferrymanlaw07.NodesOne -/
noncomputable def p4 (b : Bool) (cf : CallFn) (k : Nat) (t0 t1 t2 t3 : AV) (H : Heap) : Option (AV × Heap) :=
  bindE (mBox 27 t1 H) fun t5_0 H_1 =>
  bindE (cf 6 [] H_1) fun t17_2 H_3 =>
  bindE (mUn .not t17_2 H_3) fun t18_4 H_5 =>
  condR t18_4 (endQ (cfg b) false k (resC1 (some (AV.c (.bool false))) (some [])) H_5) (bindE (mFA 0 0 t5_0 H_5) fun t19_6 H_7 =>
  bindE (mLoad false 1 t19_6 H_7) fun t20_8 H_9 =>
  bindE (mLenSl t20_8 H_9) fun t21_10 H_11 =>
  bindE (mFA 1 1 t5_0 H_11) fun t22_12 H_13 =>
  bindE (mLoad false 1 t22_12 H_13) fun t23_14 H_15 =>
  bindE (mLenSl t23_14 H_15) fun t24_16 H_17 =>
  bindE (mBin (cfg b) 3 false .add t21_10 t24_16 H_17) fun t25_18 H_19 =>
  bindE (mLenSl t0 H_19) fun t27_20 H_21 =>
  bindE (mBin (cfg b) 3 false .add t25_18 t27_20 H_21) fun t28_22 H_23 =>
  bindE (mBin (cfg b) 3 true .gtr t28_22 (AV.c (.int .i64 2000)) H_23) fun t29_24 H_25 =>
  condR t29_24 (endQ (cfg b) false k (resC1 (some (AV.c (.bool true))) (some [])) H_25) (bindE (mLoad true 68 t5_0 H_25) fun t31_26 H_27 =>
  bindE (cf 7 [t31_26] H_27) fun t32_28 H_29 =>
  bindE (mExtract 0 t32_28 H_29) fun t33_30 H_31 =>
  bindE (mExtract 1 t32_28 H_31) fun t34_32 H_33 =>
  bindE (cf 9 [t33_30, t2, t3] H_33) fun t39_34 H_35 =>
  bindE (mBuildSl 22 1 .nilsl 2 [(0, t0), (1, t39_34)] H_35) fun t40_36 H_37 =>
  bindE (mLenSl t40_36 H_37) fun t41_38 H_39 =>
  afterL 0 (loopX k (p4_l0 b cf k) [t40_36, t41_38, (AV.c (.int .i64 0))] H_39) (fun vs_90 H_91 =>
  un vs_90 fun t8_92 vs_93 => un0 vs_93 (endQ (cfg b) false k (resC1 (some (AV.c (.bool true))) (some [])) H_91)) (fun vs_90 H_91 => un vs_90 fun t8_94 vs_95 => un0 vs_95 (endQ (cfg b) false k (resC1 (some t8_94) (some [])) H_91))))
end Go.Fm
