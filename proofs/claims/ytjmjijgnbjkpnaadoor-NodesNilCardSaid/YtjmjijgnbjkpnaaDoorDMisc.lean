/-
  A part of the proof: DMisc.
-/
import Derived.Test.YtjmjijgnbjkpnaaDoorDAnn
set_option linter.all false
set_option autoImplicit true
/-
  What the interpreter does to functions, without slots and types; the kernel holds it against the code.
-/
set_option maxRecDepth 100000
set_option linter.unusedVariables false
namespace Go.Fm
open Go Go.Proofs

noncomputable def p131_l0 (b : Bool) (cf : CallFn) (k : Nat) (s : List AV) (H : Heap) : Option (LStep × Heap) :=
  un s fun t0_0 vs_1 => un vs_1 fun t3_2 vs_3 => un vs_3 fun t4_4 vs_5 => un0 vs_5 (bindE (mBin (cfg b) 3 true .geq t4_4 (AV.c (.int .i64 0)) H) fun t7_6 H_7 =>
  condR t7_6 (bindE (mBin (cfg b) 3 true .mul (AV.c (.int .i64 8)) t4_4 H_7) fun t12_8 H_9 =>
  bindE (mBin (cfg b) 22 false .shr t0_0 t12_8 H_9) fun t13_10 H_11 =>
  bindE (mConvI .u8 t13_10 H_11) fun t14_12 H_13 =>
  bindE (mBin (cfg b) 5 true .neq t14_12 (AV.c (.int .u8 0)) H_13) fun t16_14 H_15 =>
  bindE (guardR (wantR false t16_14) (some (t3_2, H_15)) H_15) fun t18_16 H_17 =>
  bindE (guardR (wantR false t16_14) (mLenSl t18_16 H_17) H_17) fun t19_18 H_19 =>
  bindE (guardR (wantR false t16_14) (mBin (cfg b) 3 true .gtr t19_18 (AV.c (.int .i64 0)) H_19) H_19) fun t20_20 H_21 =>
  bindE (mPick t16_14 (AV.c (.bool true)) t20_20 H_21) fun t21_22 H_23 =>
  condR t21_22 (bindE (mBuildSl 5 1 (.int .u8 0) 1 [(0, t14_12)] H_23) fun t24_24 H_25 =>
  bindE (mAppend 5 1 1 false t3_2 t24_24 H_25) fun t25_26 H_27 =>
  bindE (mBin (cfg b) 3 true .sub t4_4 (AV.c (.int .i64 1)) H_27) fun t9_28 H_29 =>
  some (LStep.cont [t0_0, t25_26, t9_28], H_29)) (bindE (mBin (cfg b) 3 true .sub t4_4 (AV.c (.int .i64 1)) H_23) fun t9_30 H_31 =>
  some (LStep.cont [t0_0, t3_2, t9_30], H_31))) (some (LStep.exit 0 [t3_2], H_7)))
/-- ferryman/tlv.Num -/
noncomputable def p131 (b : Bool) (cf : CallFn) (k : Nat) (t0 : AV) (H : Heap) : Option (AV × Heap) :=
  afterL 0 (loopX k (p131_l0 b cf k) [t0, (AV.c .nilsl), (AV.c (.int .i64 7))] H) (fun vs_32 H_33 =>
  un vs_32 fun t3_34 vs_35 => un0 vs_35 (endQ (cfg b) false k (resC1 (some t3_34) (some [])) H_33)) (fun vs_32 H_33 => un vs_32 fun t3_36 vs_37 => un0 vs_37 (endQ (cfg b) false k (resC1 (some AV.any) (some [])) H_33))

/-- (*ferryman/parcel.writer).num -/
noncomputable def p145 (b : Bool) (cf : CallFn) (k : Nat) (t0 t1 t2 : AV) (H : Heap) : Option (AV × Heap) :=
  bindE (cf 131 [t2] H) fun t9_0 H_1 =>
  bindE (cf 148 [t0, t1, t9_0] H_1) fun t10_2 H_3 =>
  endQ (cfg b) false k (some []) H_3

/-- (*ferryman/parcel.writer).hash -/
noncomputable def p146 (b : Bool) (cf : CallFn) (k : Nat) (t0 t1 t2 : AV) (H : Heap) : Option (AV × Heap) :=
  bindE (mBox 41 t2 H) fun t5_0 H_1 =>
  bindE (mLoad true 32 t5_0 H_1) fun t6_2 H_3 =>
  bindE (mBuildA 32 .u8 (List.replicate 32 0) [] H_3) fun t7_4 H_5 =>
  bindE (mBin (cfg b) 41 false .neq t6_2 t7_4 H_5) fun t8_6 H_7 =>
  condR t8_6 (bindE (mSliceArr 32 t5_0 none none H_7) fun t11_8 H_9 =>
  bindE (cf 148 [t0, t1, t11_8] H_9) fun t12_10 H_11 =>
  endQ (cfg b) false k (some []) H_11) (endQ (cfg b) false k (some []) H_7)

/-- (*ferryman/parcel.writer).bytes -/
noncomputable def p148 (b : Bool) (cf : CallFn) (k : Nat) (t0 t1 t2 : AV) (H : Heap) : Option (AV × Heap) :=
  bindE (mNil t0 H) fun t7_0 H_1 =>
  bindE (mFA 1 1 t7_0 H_1) fun t8_2 H_3 =>
  bindE (mLoad false 1 t8_2 H_3) fun t9_4 H_5 =>
  bindE (mBin (cfg b) 25 true .eql t9_4 (AV.c (.int .i64 0)) H_5) fun t10_6 H_7 =>
  condR t10_6 (bindE (mNil t0 H_7) fun t15_8 H_9 =>
  bindE (mFA 0 0 t15_8 H_9) fun t16_10 H_11 =>
  bindE (mLoad false 1 t16_10 H_11) fun t17_12 H_13 =>
  bindE (cf 130 [t17_12, t1, t2] H_13) fun t20_14 H_15 =>
  bindE (mExtract 0 t20_14 H_15) fun t21_16 H_17 =>
  bindE (mExtract 1 t20_14 H_17) fun t22_18 H_19 =>
  bindE (mNil t0 H_19) fun t23_20 H_21 =>
  bindE (mFA 0 0 t23_20 H_21) fun t24_22 H_23 =>
  bindE (mStore false 1 t24_22 t21_16 H_23) fun u_24 H_25 =>
  bindE (mNil t0 H_25) fun t25_26 H_27 =>
  bindE (mFA 1 1 t25_26 H_27) fun t26_28 H_29 =>
  bindE (mStore false 1 t26_28 t22_18 H_29) fun u_30 H_31 =>
  endQ (cfg b) false k (some []) H_31) (endQ (cfg b) false k (some []) H_7)

theorem p131_eq (b : Bool) (cf : CallFn) (t0 : AV) (H : Heap) : runG (cfg b) cf An 131 [t0] H = p131 b cf H.length t0 H := by kernel_rfl
theorem p145_eq (b : Bool) (cf : CallFn) (t0 t1 t2 : AV) (H : Heap) : runG (cfg b) cf An 145 [t0, t1, t2] H = p145 b cf H.length t0 t1 t2 H := by kernel_rfl
theorem p146_eq (b : Bool) (cf : CallFn) (t0 t1 t2 : AV) (H : Heap) : runG (cfg b) cf An 146 [t0, t1, t2] H = p146 b cf H.length t0 t1 t2 H := by kernel_rfl
theorem p148_eq (b : Bool) (cf : CallFn) (t0 t1 t2 : AV) (H : Heap) : runG (cfg b) cf An 148 [t0, t1, t2] H = p148 b cf H.length t0 t1 t2 H := by kernel_rfl

end Go.Fm

/-
  What the interpreter does to functions, without slots and types; the kernel holds it against the code.
-/
set_option maxRecDepth 100000
set_option linter.unusedVariables false
namespace Go.Fm
open Go Go.Proofs

/-- ferryman/tlv.Put -/
noncomputable def p130 (b : Bool) (cf : CallFn) (k : Nat) (t0 t1 t2 : AV) (H : Heap) : Option (AV × Heap) :=
  bindE (mBuildSl 5 1 (.int .u8 0) 0 [] H) fun t9_0 H_1 =>
  bindE (mAppend 5 1 1 false t9_0 t0 H_1) fun t11_2 H_3 =>
  bindE (mLenSl t2 H_3) fun t14_4 H_5 =>
  bindE (mBin (cfg b) 3 true .gtr t14_4 (AV.c (.int .i64 65535)) H_5) fun t15_6 H_7 =>
  condR t15_6 (endQ (cfg b) false k (resC1 (some (AV.c .nilsl)) (resC1 (some (AV.c (.int .i64 3))) (some []))) H_7) (bindE (mLenSl t2 H_7) fun t18_8 H_9 =>
  bindE (mBin (cfg b) 3 true .eql t18_8 (AV.c (.int .i64 0)) H_9) fun t19_10 H_11 =>
  condR t19_10 (endQ (cfg b) false k (resC1 (some t11_2) (resC1 (some (AV.c (.int .i64 0))) (some []))) H_11) (bindE (mLenSl t2 H_11) fun t24_12 H_13 =>
  bindE (mBin (cfg b) 3 true .shr t24_12 (AV.c (.int .u64 8)) H_13) fun t25_14 H_15 =>
  bindE (mConvI .u8 t25_14 H_15) fun t26_16 H_17 =>
  bindE (mLenSl t2 H_17) fun t28_18 H_19 =>
  bindE (mConvI .u8 t28_18 H_19) fun t29_20 H_21 =>
  bindE (mBuildSl 5 1 (.int .u8 0) 3 [(0, t1), (1, t26_16), (2, t29_20)] H_21) fun t30_22 H_23 =>
  bindE (mAppend 5 1 1 false t11_2 t30_22 H_23) fun t31_24 H_25 =>
  bindE (mAppend 5 1 1 false t31_24 t2 H_25) fun t34_26 H_27 =>
  endQ (cfg b) false k (resC1 (some t34_26) (resC1 (some (AV.c (.int .i64 0))) (some []))) H_27))

theorem p130_eq (b : Bool) (cf : CallFn) (t0 t1 t2 : AV) (H : Heap) : runG (cfg b) cf An 130 [t0, t1, t2] H = p130 b cf H.length t0 t1 t2 H := by kernel_rfl

end Go.Fm

/-
  What the interpreter does to functions, without slots and types; the kernel holds it against the code.
-/
set_option maxRecDepth 100000
set_option linter.unusedVariables false
namespace Go.Fm
open Go Go.Proofs

/-- ferryman/parcel.Seal -/
noncomputable def p98 (b : Bool) (cf : CallFn) (k : Nat) (t0 : AV) (H : Heap) : Option (AV × Heap) :=
  bindE (mBox 80 t0 H) fun t1_0 H_1 =>
  bindE (mAlloc 41 (.arr 32 .u8 (List.replicate 32 0)) H_1) fun t2_2 H_3 =>
  bindE (mBuildA 32 .u8 (List.replicate 32 0) [] H_3) fun t3_4 H_5 =>
  bindE (mFA 5 98 t1_0 H_5) fun t4_6 H_7 =>
  bindE (mStore true 32 t4_6 t3_4 H_7) fun u_8 H_9 =>
  afterD (twice [0, 1, 0, 4, 0, 16, 63, 127, 255] (fun H_10 => bindE (drawR false [] (fun F => mBuildSl 5 1 (.int .u8 0) 4 [(0, (AV.c (.int .u8 115))), (1, (AV.c (.int .u8 101))), (2, (AV.c (.int .u8 97))), (3, (AV.c (.int .u8 108)))] F) H_10) fun t5_11 H_12 =>
  bindE (drawR true [t5_11.1] (fun F => mConv0 t5_11.1 F) H_12) fun t6_13 H_14 =>
  bindE (drawR true [t1_0] (fun F => mFA 3 34 t1_0 F) H_14) fun t7_15 H_16 =>
  bindE (drawR false [t7_15.1] (fun F => mSliceArr 32 t7_15.1 none none F) H_16) fun t8_17 H_18 =>
  bindE (drawR true [t1_0] (fun F => mLoad true 130 t1_0 F) H_18) fun t9_19 H_20 =>
  bindE (drawR false [t9_19.1] (fun F => cf 127 [t9_19.1] F) H_20) fun t10_21 H_22 =>
  bindE (drawR false [t6_13.1, t8_17.1, t10_21.1] (fun F => mBuildSl 38 1 .nilsl 3 [(0, t6_13.1), (1, t8_17.1), (2, t10_21.1)] F) H_22) fun t11_23 H_24 =>
  bindE (drawR false [t11_23.1] (fun F => cf 88 [t11_23.1] F) H_24) fun t12_25 H_26 =>
  bindE (drawR false [t2_2, t12_25.1] (fun F => mStore true 32 t2_2 t12_25.1 F) H_26) fun u_27 H_28 =>
  some (([], [t5_11.2, t6_13.2, t7_15.2, t8_17.2, t9_19.2, t10_21.2, t11_23.2, t12_25.2, u_27.2]), H_28)) H_9) fun vs_29 H_30 =>
  un0 vs_29 (endQ (cfg b) false k (resC1 (mld true 32 H_30 t2_2) (some [])) H_30)

/-- ferryman/parcel.Header -/
noncomputable def p127 (b : Bool) (cf : CallFn) (k : Nat) (t0 : AV) (H : Heap) : Option (AV × Heap) :=
  bindE (mBox 80 t0 H) fun t1_0 H_1 =>
  bindE (mBuildS [.nilsl, (.int .i64 0)] [] H_1) fun t4_2 H_3 =>
  bindE (mBox 220 t4_2 H_3) fun t5_4 H_5 =>
  bindE (mFA 0 0 t1_0 H_5) fun t7_6 H_7 =>
  bindE (mLoad false 1 t7_6 H_7) fun t8_8 H_9 =>
  bindE (cf 145 [t5_4, (AV.c (.int .u8 1)), t8_8] H_9) fun t9_10 H_11 =>
  bindE (mFA 1 1 t1_0 H_11) fun t11_12 H_13 =>
  bindE (mLoad false 1 t11_12 H_13) fun t12_14 H_15 =>
  bindE (cf 145 [t5_4, (AV.c (.int .u8 2)), t12_14] H_15) fun t13_16 H_17 =>
  bindE (mFA 2 2 t1_0 H_17) fun t15_18 H_19 =>
  bindE (mLoad true 32 t15_18 H_19) fun t16_20 H_21 =>
  bindE (cf 146 [t5_4, (AV.c (.int .u8 3)), t16_20] H_21) fun t17_22 H_23 =>
  bindE (mFA 3 34 t1_0 H_23) fun t19_24 H_25 =>
  bindE (mLoad true 32 t19_24 H_25) fun t20_26 H_27 =>
  bindE (cf 146 [t5_4, (AV.c (.int .u8 4)), t20_26] H_27) fun t21_28 H_29 =>
  bindE (mFA 4 66 t1_0 H_29) fun t23_30 H_31 =>
  bindE (mLoad true 32 t23_30 H_31) fun t24_32 H_33 =>
  bindE (cf 146 [t5_4, (AV.c (.int .u8 5)), t24_32] H_33) fun t25_34 H_35 =>
  bindE (mFA 5 98 t1_0 H_35) fun t27_36 H_37 =>
  bindE (mLoad true 32 t27_36 H_37) fun t28_38 H_39 =>
  bindE (cf 146 [t5_4, (AV.c (.int .u8 6)), t28_38] H_39) fun t29_40 H_41 =>
  bindE (mNil t5_4 H_41) fun t31_42 H_43 =>
  bindE (mFA 0 0 t31_42 H_43) fun t32_44 H_45 =>
  bindE (mLoad false 1 t32_44 H_45) fun t33_46 H_47 =>
  endQ (cfg b) false k (resC1 (some t33_46) (some [])) H_47

theorem p98_eq (b : Bool) (cf : CallFn) (t0 : AV) (H : Heap) : runG (cfg b) cf An 98 [t0] H = p98 b cf H.length t0 H := by kernel_rfl
theorem p127_eq (b : Bool) (cf : CallFn) (t0 : AV) (H : Heap) : runG (cfg b) cf An 127 [t0] H = p127 b cf H.length t0 H := by kernel_rfl

end Go.Fm

