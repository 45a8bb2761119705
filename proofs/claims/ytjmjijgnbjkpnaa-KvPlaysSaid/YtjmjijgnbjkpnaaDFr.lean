/-
  A part of the proof: DFr.
-/
import Derived.Test.YtjmjijgnbjkpnaaDAnn
set_option linter.all false
set_option autoImplicit true
/-
  List, once more: what bytes.Clone gives lies fresh.
-/
set_option maxRecDepth 100000
set_option linter.unusedVariables false
namespace Go.Fm
open Go Go.Proofs
noncomputable def f23_l0_d0 (b : Bool) (cf : CallFn) (t5_12 t7_26 : AV) (H_36 : Heap) : Option ((List AV × List Trail) × Heap) :=
  bindE (drawM (some t5_12) H_36) fun t23_37 H_38 =>
  bindE (drawR true [t7_26] (fun F => mFA 0 0 t7_26 F) H_38) fun t24_39 H_40 =>
  bindE (drawR true [t24_39.1] (fun F => mLoad false 1 t24_39.1 F) H_40) fun t25_41 H_42 =>
  bindE (drawR false [t25_41.1] (fun F => cf 35 [t25_41.1] F) H_42) fun t26_43 H_44 =>
  bindE (drawR true [t7_26] (fun F => mFA 1 1 t7_26 F) H_44) fun t27_45 H_46 =>
  bindE (drawR true [t27_45.1] (fun F => mLoad false 1 t27_45.1 F) H_46) fun t28_47 H_48 =>
  bindE (drawR false [t28_47.1] (fun F => cf 35 [t28_47.1] F) H_48) fun t29_49 H_50 =>
  bindE (drawR false [t26_43.1, t29_49.1] (fun F => mBuildS [.nilsl, .nilsl] [(0, t26_43.1), (1, t29_49.1)] F) H_50) fun t30_51 H_52 =>
  bindE (drawR false [t30_51.1] (fun F => mBuildSl 59 2 (.agg [.nilsl, .nilsl]) 1 [(0, t30_51.1)] F) H_52) fun t31_53 H_54 =>
  bindE (drawR false [t23_37.1, t31_53.1] (fun F => mAppend 59 2 48 false t23_37.1 t31_53.1 F) H_54) fun t32_55 H_56 =>
  bindE (drawM (some t32_55.1) H_56) fun t5_57 H_58 =>
  some (([t5_57.1], [t23_37.2, t24_39.2, t25_41.2, t26_43.2, t27_45.2, t28_47.2, t29_49.2, t30_51.2, t31_53.2, t32_55.2, t5_57.2]), H_58)
noncomputable def f23_l0 (b : Bool) (cf : CallFn) (k : Nat) (s : List AV) (H : Heap) : Option (LStep × Heap) :=
  un s fun t1_10 vs_11 => un vs_11 fun t5_12 vs_13 => un vs_13 fun t13_14 vs_15 => un vs_15 fun t14_16 vs_17 => un vs_17 fun t15_18 vs_19 => un0 vs_19 (bindE (mBin cfgF 3 false .lss t15_18 t14_16 H) fun t16_20 H_21 =>
  condR t16_20 (bindE (mIdxS 2 t13_14 t15_18 H_21) fun t17_22 H_23 =>
  bindE (mLoad true 2 t17_22 H_23) fun t18_24 H_25 =>
  bindE (mAlloc 59 (.agg [.nilsl, .nilsl]) H_25) fun t7_26 H_27 =>
  bindE (mStore true 2 t7_26 t18_24 H_27) fun u_28 H_29 =>
  bindE (mFA 0 0 t7_26 H_29) fun t19_30 H_31 =>
  bindE (mLoad false 1 t19_30 H_31) fun t20_32 H_33 =>
  bindE (cf 39 [t20_32, t1_10] H_33) fun t22_34 H_35 =>
  condR t22_34 (afterD (twice [0, 0, 2, 6, 0, 16, 62, 126, 254, 511, 1023] (f23_l0_d0 b cf t5_12 t7_26) H_35) fun vs_59 H_60 =>
  un vs_59 fun t5_61 vs_62 => un0 vs_62 (bindE (mBin cfgF 3 true .add t15_18 (AV.c (.int .i64 1)) H_60) fun t33_63 H_64 =>
  some (LStep.cont [t1_10, t5_61, t13_14, t14_16, t33_63], H_64))) (bindE (mBin cfgF 3 true .add t15_18 (AV.c (.int .i64 1)) H_35) fun t33_65 H_66 =>
  some (LStep.cont [t1_10, t5_12, t13_14, t14_16, t33_65], H_66))) (some (LStep.exit 0 [t5_12], H_21)))
/-- (*ferryman/kv.Store).List -/
noncomputable def f23 (b : Bool) (cf : CallFn) (k : Nat) (t0 t1 : AV) (H : Heap) : Option (AV × Heap) :=
  bindE (mBin cfgF 45 true .eql t0 (AV.c .nilp) H) fun t9_0 H_1 =>
  condR t9_0 (endQ cfgF false k (resC1 (some (AV.c .nilsl)) (some [])) H_1) (bindE (mNil t0 H_1) fun t11_2 H_3 =>
  bindE (mFA 0 0 t11_2 H_3) fun t12_4 H_5 =>
  bindE (mLoad false 1 t12_4 H_5) fun t13_6 H_7 =>
  bindE (mLenSl t13_6 H_7) fun t14_8 H_9 =>
  afterL 0 (loopX k (f23_l0 b cf k) [t1, (AV.c .nilsl), t13_6, t14_8, (AV.c (.int .i64 0))] H_9) (fun vs_67 H_68 =>
  un vs_67 fun t5_69 vs_70 => un0 vs_70 (endQ cfgF false k (resC1 (some t5_69) (some [])) H_68)) (fun vs_67 H_68 => un vs_67 fun t5_71 vs_72 => un0 vs_72 (endQ cfgF false k (resC1 (some AV.any) (some [])) H_68)))
/-- bytes.HasPrefix -/
noncomputable def f39 (b : Bool) (cf : CallFn) (k : Nat) (t0 t1 : AV) (H : Heap) : Option (AV × Heap) :=
  bindE (mLenSl t0 H) fun t6_0 H_1 =>
  bindE (mLenSl t1 H_1) fun t8_2 H_3 =>
  bindE (mBin cfgF 3 false .geq t6_0 t8_2 H_3) fun t9_4 H_5 =>
  bindE (guardR (wantR true t9_4) (some (t0, H_5)) H_5) fun t11_6 H_7 =>
  bindE (guardR (wantR true t9_4) (some (t1, H_7)) H_7) fun t12_8 H_9 =>
  bindE (guardR (wantR true t9_4) (mLenSl t12_8 H_9) H_9) fun t13_10 H_11 =>
  bindE (guardR (wantR true t9_4) (mSliceSl 1 t11_6 none (some t13_10) H_11) H_11) fun t14_12 H_13 =>
  bindE (guardR (wantR true t9_4) (some (t1, H_13)) H_13) fun t15_14 H_15 =>
  bindE (guardR (wantR true t9_4) (cf 48 [t14_12, t15_14] H_15) H_15) fun t16_16 H_17 =>
  bindE (mPick t9_4 t16_16 (AV.c (.bool false)) H_17) fun t17_18 H_19 =>
  endQ cfgF false k (resC1 (some t17_18) (some [])) H_19
/-- bytes.Equal -/
noncomputable def f48 (b : Bool) (cf : CallFn) (k : Nat) (t0 t1 : AV) (H : Heap) : Option (AV × Heap) :=
  bindE (mConvBS t0 H) fun t6_0 H_1 =>
  bindE (mConvBS t1 H_1) fun t8_2 H_3 =>
  bindE (mBin cfgF 9 false .eql t6_0 t8_2 H_3) fun t9_4 H_5 =>
  endQ cfgF false k (resC1 (some t9_4) (some [])) H_5
theorem f23_eq (b : Bool) (cf : CallFn) (t0 t1 : AV) (H : Heap) : runG cfgF cf An0 23 [t0, t1] H = f23 b cf H.length t0 t1 H := by kernel_rfl
theorem f39_eq (b : Bool) (cf : CallFn) (t0 t1 : AV) (H : Heap) : runG cfgF cf An0 39 [t0, t1] H = f39 b cf H.length t0 t1 H := by kernel_rfl
theorem f48_eq (b : Bool) (cf : CallFn) (t0 t1 : AV) (H : Heap) : runG cfgF cf An0 48 [t0, t1] H = f48 b cf H.length t0 t1 H := by kernel_rfl
end Go.Fm
