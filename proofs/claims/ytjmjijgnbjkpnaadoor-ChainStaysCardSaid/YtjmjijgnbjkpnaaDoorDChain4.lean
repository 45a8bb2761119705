/-
  A part of the proof: DChain4.
-/
import Derived.Test.YtjmjijgnbjkpnaaDoorDAnn
set_option linter.all false
set_option autoImplicit true
/-
  What the interpreter does to functions, without slots and types; the kernel holds it against the code.
-/
set_option maxRecDepth 100000
set_option linter.unusedVariables false
namespace Go.Fm
open Go Go.Proofs

noncomputable def p53_l0 (b : Bool) (cf : CallFn) (k : Nat) (s : List AV) (H : Heap) : Option (LStep × Heap) :=
  un s fun t1_12 vs_13 => un vs_13 fun t4_14 vs_15 => un vs_15 fun t13_16 vs_17 => un vs_17 fun t14_18 vs_19 => un vs_19 fun t15_20 vs_21 => un0 vs_21 (bindE (mBin (cfg b) 3 false .lss t15_20 t14_18 H) fun t16_22 H_23 =>
  condR t16_22 (bindE (mIdxS 130 t13_16 t15_20 H_23) fun t17_24 H_25 =>
  bindE (mLoad true 130 t17_24 H_25) fun t18_26 H_27 =>
  bindE (mAlloc 80 (.agg [(.int .u64 0), (.int .u64 0), (.arr 32 .u8 (List.replicate 32 0)), (.arr 32 .u8 (List.replicate 32 0)), (.arr 32 .u8 (List.replicate 32 0)), (.arr 32 .u8 (List.replicate 32 0))]) H_27) fun t7_28 H_29 =>
  bindE (mStore true 130 t7_28 t18_26 H_29) fun u_30 H_31 =>
  bindE (mFA 0 0 t7_28 H_31) fun t19_32 H_33 =>
  bindE (mLoad false 1 t19_32 H_33) fun t20_34 H_35 =>
  bindE (mBin (cfg b) 22 false .eql t20_34 t1_12 H_35) fun t22_36 H_37 =>
  condR t22_36 (bindE (mLoad true 130 t7_28 H_37) fun t23_38 H_39 =>
  bindE (mStore true 130 t4_14 t23_38 H_39) fun u_40 H_41 =>
  some (LStep.ret [t4_14, (AV.c (.bool true))], H_41)) (bindE (mBin (cfg b) 3 true .add t15_20 (AV.c (.int .i64 1)) H_37) fun t24_42 H_43 =>
  some (LStep.cont [t1_12, t4_14, t13_16, t14_18, t24_42], H_43))) (some (LStep.exit 0 [t4_14, AV.any], H_23)))
/-- (*ferryman/chain.Chain).Header -/
noncomputable def p53 (b : Bool) (cf : CallFn) (k : Nat) (t0 t1 : AV) (H : Heap) : Option (AV × Heap) :=
  bindE (mAlloc 80 (.agg [(.int .u64 0), (.int .u64 0), (.arr 32 .u8 (List.replicate 32 0)), (.arr 32 .u8 (List.replicate 32 0)), (.arr 32 .u8 (List.replicate 32 0)), (.arr 32 .u8 (List.replicate 32 0))]) H) fun t4_0 H_1 =>
  bindE (mBin (cfg b) 81 true .neq t0 (AV.c .nilp) H_1) fun t9_2 H_3 =>
  condR t9_2 (bindE (mNil t0 H_3) fun t11_4 H_5 =>
  bindE (mFA 5 5 t11_4 H_5) fun t12_6 H_7 =>
  bindE (mLoad false 1 t12_6 H_7) fun t13_8 H_9 =>
  bindE (mLenSl t13_8 H_9) fun t14_10 H_11 =>
  afterL 0 (loopX k (p53_l0 b cf k) [t1, t4_0, t13_8, t14_10, (AV.c (.int .i64 0))] H_11) (fun vs_44 H_45 =>
  un vs_44 fun t4_46 vs_47 => un vs_47 fun t5_48 vs_49 => un0 vs_49 (bindE (mBuildS [(.int .u64 0), (.int .u64 0), (.arr 32 .u8 (List.replicate 32 0)), (.arr 32 .u8 (List.replicate 32 0)), (.arr 32 .u8 (List.replicate 32 0)), (.arr 32 .u8 (List.replicate 32 0))] [] H_45) fun t25_50 H_51 =>
  bindE (mStore true 130 t4_46 t25_50 H_51) fun u_52 H_53 =>
  endQ (cfg b) false k (resC1 (mld true 130 H_53 t4_46) (resC1 (some (AV.c (.bool false))) (some []))) H_53)) (fun vs_44 H_45 => un vs_44 fun t4_54 vs_55 => un vs_55 fun t5_56 vs_57 => un0 vs_57 (endQ (cfg b) false k (resC1 (mld true 130 H_45 t4_54) (resC1 (some t5_56) (some []))) H_45))) (bindE (mBuildS [(.int .u64 0), (.int .u64 0), (.arr 32 .u8 (List.replicate 32 0)), (.arr 32 .u8 (List.replicate 32 0)), (.arr 32 .u8 (List.replicate 32 0)), (.arr 32 .u8 (List.replicate 32 0))] [] H_3) fun t25_58 H_59 =>
  bindE (mStore true 130 t4_0 t25_58 H_59) fun u_60 H_61 =>
  endQ (cfg b) false k (resC1 (mld true 130 H_61 t4_0) (resC1 (some (AV.c (.bool false))) (some []))) H_61)

/-- (*ferryman/chain.Chain).Tree -/
noncomputable def p54 (b : Bool) (cf : CallFn) (k : Nat) (t0 t1 : AV) (H : Heap) : Option (AV × Heap) :=
  bindE (mBin (cfg b) 81 true .eql t0 (AV.c .nilp) H) fun t9_0 H_1 =>
  condR t9_0 (endQ (cfg b) false k (resC1 (some (AV.c .nilp)) (resC1 (some (AV.c (.bool false))) (some []))) H_1) (bindE (mNil t0 H_1) fun t12_2 H_3 =>
  bindE (mFA 4 4 t12_2 H_3) fun t13_4 H_5 =>
  bindE (mLoad false 1 t13_4 H_5) fun t14_6 H_7 =>
  bindE (cf 27 [t14_6, t1] H_7) fun t16_8 H_9 =>
  bindE (mExtract 0 t16_8 H_9) fun t17_10 H_11 =>
  bindE (mExtract 1 t16_8 H_11) fun t18_12 H_13 =>
  bindE (mBin (cfg b) 25 true .eql t18_12 (AV.c (.int .i64 0)) H_13) fun t21_14 H_15 =>
  endQ (cfg b) false k (resC1 (some t17_10) (resC1 (some t21_14) (some []))) H_15)

/-- (*ferryman/chain.Chain).Tick -/
noncomputable def p55_d0 (b : Bool) (cf : CallFn) (t0 t1 : AV) (H_2 : Heap) : Option ((List AV × List Trail) × Heap) :=
  bindE (drawM (some t0) H_2) fun t6_3 H_4 =>
  bindE (drawR true [t6_3.1] (fun F => mNil t6_3.1 F) H_4) fun t7_5 H_6 =>
  bindE (drawR true [t7_5.1] (fun F => mFA 3 3 t7_5.1 F) H_6) fun t8_7 H_8 =>
  bindE (drawR true [t8_7.1] (fun F => mLoad false 1 t8_7.1 F) H_8) fun t9_9 H_10 =>
  bindE (drawM (some t1) H_10) fun t10_11 H_12 =>
  bindE (drawM (some t0) H_12) fun t11_13 H_14 =>
  bindE (drawR true [t11_13.1] (fun F => mNil t11_13.1 F) H_14) fun t12_15 H_16 =>
  bindE (drawR true [t12_15.1] (fun F => mFA 3 3 t12_15.1 F) H_16) fun t13_17 H_18 =>
  bindE (drawR true [t13_17.1] (fun F => mLoad false 1 t13_17.1 F) H_18) fun t14_19 H_20 =>
  bindE (drawR true [t14_19.1] (fun F => mBin (cfg b) 22 true .sub (AV.c (.int .u64 1099511627776)) t14_19.1 F) H_20) fun t15_21 H_22 =>
  bindE (drawR true [t10_11.1, t15_21.1] (fun F => mMin [t10_11.1, t15_21.1] F) H_22) fun t16_23 H_24 =>
  bindE (drawR true [t9_9.1, t16_23.1] (fun F => mBin (cfg b) 22 false .add t9_9.1 t16_23.1 F) H_24) fun t17_25 H_26 =>
  bindE (drawR true [t6_3.1] (fun F => mNil t6_3.1 F) H_26) fun t18_27 H_28 =>
  bindE (drawR true [t18_27.1] (fun F => mFA 3 3 t18_27.1 F) H_28) fun t19_29 H_30 =>
  bindE (drawR false [t19_29.1, t17_25.1] (fun F => mStore false 1 t19_29.1 t17_25.1 F) H_30) fun u_31 H_32 =>
  some (([], [t6_3.2, t7_5.2, t8_7.2, t9_9.2, t10_11.2, t11_13.2, t12_15.2, t13_17.2, t14_19.2, t15_21.2, t16_23.2, t17_25.2, t18_27.2, t19_29.2, u_31.2]), H_32)
noncomputable def p55 (b : Bool) (cf : CallFn) (k : Nat) (t0 t1 : AV) (H : Heap) : Option (AV × Heap) :=
  bindE (mBin (cfg b) 81 true .neq t0 (AV.c .nilp) H) fun t5_0 H_1 =>
  condR t5_0 (afterD (twice [0, 1, 3, 7, 0, 0, 32, 96, 224, 480, 1008, 2047, 4095, 8191, 16383] (p55_d0 b cf t0 t1) H_1) fun vs_33 H_34 =>
  un0 vs_33 (endQ (cfg b) false k (some []) H_34)) (endQ (cfg b) false k (some []) H_1)

/-- (*ferryman/chain.Chain).Open -/
noncomputable def p57_d0 (b : Bool) (cf : CallFn) (t3_0 t0 : AV) (H_4 : Heap) : Option ((List AV × List Trail) × Heap) :=
  bindE (drawR true [t3_0] (fun F => mLoad true 130 t3_0 F) H_4) fun t10_5 H_6 =>
  bindE (drawM (some t0) H_6) fun t11_7 H_8 =>
  bindE (drawR true [t11_7.1] (fun F => mNil t11_7.1 F) H_8) fun t12_9 H_10 =>
  bindE (drawR true [t12_9.1] (fun F => mFA 1 1 t12_9.1 F) H_10) fun t13_11 H_12 =>
  bindE (drawR true [t13_11.1] (fun F => mLoad false 1 t13_11.1 F) H_12) fun t14_13 H_14 =>
  bindE (drawR false [t10_5.1, t14_13.1] (fun F => cf 99 [t10_5.1, t14_13.1] F) H_14) fun t15_15 H_16 =>
  bindE (drawM (some t15_15.1) H_16) fun t9_17 H_18 =>
  bindE (drawR true [t9_17.1] (fun F => mExtract 0 t9_17.1 F) H_18) fun t16_19 H_20 =>
  bindE (drawR true [t9_17.1] (fun F => mExtract 1 t9_17.1 F) H_20) fun t17_21 H_22 =>
  bindE (drawM (some t16_19.1) H_22) fun t5_23 H_24 =>
  bindE (drawM (some t17_21.1) H_24) fun t6_25 H_26 =>
  some (([t5_23.1, t6_25.1], [t10_5.2, t11_7.2, t12_9.2, t13_11.2, t14_13.2, t15_15.2, t9_17.2, t16_19.2, t17_21.2, t5_23.2, t6_25.2]), H_26)
noncomputable def p57 (b : Bool) (cf : CallFn) (k : Nat) (t0 t1 : AV) (H : Heap) : Option (AV × Heap) :=
  bindE (mBox 80 t1 H) fun t3_0 H_1 =>
  bindE (mBin (cfg b) 81 true .eql t0 (AV.c .nilp) H_1) fun t8_2 H_3 =>
  condR t8_2 (endQ (cfg b) false k (resC1 (some (AV.c (.int .i64 1))) (some [])) H_3) (afterD (twice [0, 0, 2, 6, 14, 31, 63, 127, 127, 255, 1023] (p57_d0 b cf t3_0 t0) H_3) fun vs_27 H_28 =>
  un vs_27 fun t5_29 vs_30 => un vs_30 fun t6_31 vs_32 => un0 vs_32 (bindE (mBin (cfg b) 25 true .eql t6_31 (AV.c (.int .i64 0)) H_28) fun t19_33 H_34 =>
  condR t19_33 (bindE (mNil t0 H_34) fun t22_35 H_36 =>
  bindE (mFA 6 6 t22_35 H_36) fun t23_37 H_38 =>
  bindE (mStore false 1 t23_37 t5_29 H_38) fun u_39 H_40 =>
  endQ (cfg b) false k (resC1 (some t6_31) (some [])) H_40) (endQ (cfg b) false k (resC1 (some t6_31) (some [])) H_34)))

/-- (*ferryman/chain.Chain).Client -/
noncomputable def p58 (b : Bool) (cf : CallFn) (k : Nat) (t0 : AV) (H : Heap) : Option (AV × Heap) :=
  bindE (mBin (cfg b) 81 true .eql t0 (AV.c .nilp) H) fun t4_0 H_1 =>
  condR t4_0 (endQ (cfg b) false k (resC1 (some (AV.c .nilp)) (some [])) H_1) (bindE (mNil t0 H_1) fun t6_2 H_3 =>
  bindE (mFA 6 6 t6_2 H_3) fun t7_4 H_5 =>
  bindE (mLoad false 1 t7_4 H_5) fun t8_6 H_7 =>
  endQ (cfg b) false k (resC1 (some t8_6) (some [])) H_7)

/-- (*ferryman/chain.Chain).Time -/
noncomputable def p60 (b : Bool) (cf : CallFn) (k : Nat) (t0 : AV) (H : Heap) : Option (AV × Heap) :=
  bindE (mBin (cfg b) 81 true .eql t0 (AV.c .nilp) H) fun t4_0 H_1 =>
  condR t4_0 (endQ (cfg b) false k (resC1 (some (AV.c (.int .u64 0))) (some [])) H_1) (bindE (mNil t0 H_1) fun t6_2 H_3 =>
  bindE (mFA 3 3 t6_2 H_3) fun t7_4 H_5 =>
  bindE (mLoad false 1 t7_4 H_5) fun t8_6 H_7 =>
  endQ (cfg b) false k (resC1 (some t8_6) (some [])) H_7)

theorem p53_eq (b : Bool) (cf : CallFn) (t0 t1 : AV) (H : Heap) : runG (cfg b) cf An 53 [t0, t1] H = p53 b cf H.length t0 t1 H := by kernel_rfl
theorem p54_eq (b : Bool) (cf : CallFn) (t0 t1 : AV) (H : Heap) : runG (cfg b) cf An 54 [t0, t1] H = p54 b cf H.length t0 t1 H := by kernel_rfl
theorem p55_eq (b : Bool) (cf : CallFn) (t0 t1 : AV) (H : Heap) : runG (cfg b) cf An 55 [t0, t1] H = p55 b cf H.length t0 t1 H := by kernel_rfl
theorem p57_eq (b : Bool) (cf : CallFn) (t0 t1 : AV) (H : Heap) : runG (cfg b) cf An 57 [t0, t1] H = p57 b cf H.length t0 t1 H := by kernel_rfl
theorem p58_eq (b : Bool) (cf : CallFn) (t0 : AV) (H : Heap) : runG (cfg b) cf An 58 [t0] H = p58 b cf H.length t0 H := by kernel_rfl
theorem p60_eq (b : Bool) (cf : CallFn) (t0 : AV) (H : Heap) : runG (cfg b) cf An 60 [t0] H = p60 b cf H.length t0 H := by kernel_rfl

end Go.Fm

