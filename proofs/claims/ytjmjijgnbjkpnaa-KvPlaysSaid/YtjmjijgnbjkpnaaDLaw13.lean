/-
  A part of the proof: DLaw13.
-/
import Derived.Test.YtjmjijgnbjkpnaaDAnn
set_option linter.all false
set_option autoImplicit true
/-
  What the interpreter does to functions, without slots and types; the kernel holds it against the code.
-/
set_option maxRecDepth 100000
set_option linter.unusedVariables false
namespace Go.Fm
open Go Go.Proofs
/-- ferryman/ferrymanlaw16.Awake -/
noncomputable def p13 (b : Bool) (cf : CallFn) (k : Nat) (H : Heap) : Option (AV × Heap) :=
  bindE (cf 14 [] H) fun t5_0 H_1 =>
  bindE (mBuildSl 5 1 (.int .u8 0) 1 [(0, (AV.c (.int .u8 98)))] H_1) fun t7_2 H_3 =>
  bindE (mConv0 t7_2 H_3) fun t8_4 H_5 =>
  bindE (mBuildSl 5 1 (.int .u8 0) 1 [(0, (AV.c (.int .u8 50)))] H_5) fun t9_6 H_7 =>
  bindE (mConv0 t9_6 H_7) fun t10_8 H_9 =>
  bindE (cf 17 [t5_0, t8_4, t10_8] H_9) fun t11_10 H_11 =>
  bindE (mBuildSl 5 1 (.int .u8 0) 1 [(0, (AV.c (.int .u8 97)))] H_11) fun t13_12 H_13 =>
  bindE (mConv0 t13_12 H_13) fun t14_14 H_15 =>
  bindE (mBuildSl 5 1 (.int .u8 0) 1 [(0, (AV.c (.int .u8 49)))] H_15) fun t15_16 H_17 =>
  bindE (mConv0 t15_16 H_17) fun t16_18 H_19 =>
  bindE (cf 17 [t5_0, t14_14, t16_18] H_19) fun t17_20 H_21 =>
  bindE (cf 23 [t5_0, (AV.c .nilsl)] H_21) fun t19_22 H_23 =>
  bindE (mBin (cfg b) 30 true .eql t11_10 (AV.c (.int .i64 0)) H_23) fun t21_24 H_25 =>
  bindE (guardR (wantR true t21_24) (some (t17_20, H_25)) H_25) fun t23_26 H_27 =>
  bindE (guardR (wantR true t21_24) (mBin (cfg b) 30 true .eql t23_26 (AV.c (.int .i64 0)) H_27) H_27) fun t24_28 H_29 =>
  bindE (mPick t21_24 t24_28 (AV.c (.bool false)) H_29) fun t25_30 H_31 =>
  bindE (guardR (wantR true t25_30) (some (t19_22, H_31)) H_31) fun t27_32 H_33 =>
  bindE (guardR (wantR true t25_30) (mLenSl t27_32 H_33) H_33) fun t28_34 H_35 =>
  bindE (guardR (wantR true t25_30) (mBin (cfg b) 3 true .eql t28_34 (AV.c (.int .i64 2)) H_35) H_35) fun t29_36 H_37 =>
  bindE (mPick t25_30 t29_36 (AV.c (.bool false)) H_37) fun t30_38 H_39 =>
  bindE (guardR (wantR true t30_38) (some (t19_22, H_39)) H_39) fun t32_40 H_41 =>
  bindE (guardR (wantR true t30_38) (mIdxS 2 t32_40 (AV.c (.int .i64 0)) H_41) H_41) fun t33_42 H_43 =>
  bindE (guardR (wantR true t30_38) (mFA 0 0 t33_42 H_43) H_43) fun t34_44 H_45 =>
  bindE (guardR (wantR true t30_38) (mLoad false 1 t34_44 H_45) H_45) fun t35_46 H_47 =>
  bindE (guardR (wantR true t30_38) (mConvBS t35_46 H_47) H_47) fun t36_48 H_49 =>
  bindE (guardR (wantR true t30_38) (mBin (cfg b) 9 true .eql t36_48 (AV.c (.str ⟨#[97]⟩)) H_49) H_49) fun t37_50 H_51 =>
  bindE (mPick t30_38 t37_50 (AV.c (.bool false)) H_51) fun t38_52 H_53 =>
  bindE (guardR (wantR true t38_52) (some (t19_22, H_53)) H_53) fun t40_54 H_55 =>
  bindE (guardR (wantR true t38_52) (mIdxS 2 t40_54 (AV.c (.int .i64 1)) H_55) H_55) fun t41_56 H_57 =>
  bindE (guardR (wantR true t38_52) (mFA 1 1 t41_56 H_57) H_57) fun t42_58 H_59 =>
  bindE (guardR (wantR true t38_52) (mLoad false 1 t42_58 H_59) H_59) fun t43_60 H_61 =>
  bindE (guardR (wantR true t38_52) (mConvBS t43_60 H_61) H_61) fun t44_62 H_63 =>
  bindE (guardR (wantR true t38_52) (mBin (cfg b) 9 true .eql t44_62 (AV.c (.str ⟨#[50]⟩)) H_63) H_63) fun t45_64 H_65 =>
  bindE (mPick t38_52 t45_64 (AV.c (.bool false)) H_65) fun t46_66 H_67 =>
  endQ (cfg b) false k (resC1 (some t46_66) (some [])) H_67
theorem p13_eq (b : Bool) (cf : CallFn) (H : Heap) : runG (cfg b) cf An 13 [] H = p13 b cf H.length  H := by kernel_rfl
end Go.Fm
