/-
  A part of the proof: DChain3.
-/
import Derived.Test.YtjmjijgnbjkpnaaDoorDAnn
set_option linter.all false
set_option autoImplicit true
/-
  What the interpreter does to functions, without slots and types; the kernel holds it against the code.
-/
set_option maxRecDepth 100000
set_option linter.unusedVariables false
namespace Go.Fm
open Go Go.Proofs

noncomputable def p131_l0 (b : Bool) (cf : CallFn) (k : Nat) (s : List AV) (H : Heap) : Option (LStep × Heap) :=
  un s fun t0_0 vs_1 => un vs_1 fun t3_2 vs_3 => un vs_3 fun t4_4 vs_5 => un0 vs_5 (bindE (mBin (cfg b) 3 true .geq t4_4 (AV.c (.int .i64 0)) H) fun t7_6 H_7 =>
  condR t7_6 (bindE (mBin (cfg b) 3 true .mul (AV.c (.int .i64 8)) t4_4 H_7) fun t12_8 H_9 =>
  bindE (mBin (cfg b) 22 false .shr t0_0 t12_8 H_9) fun t13_10 H_11 =>
  bindE (mConvI .u8 t13_10 H_11) fun t14_12 H_13 =>
  bindE (mBin (cfg b) 5 true .neq t14_12 (AV.c (.int .u8 0)) H_13) fun t16_14 H_15 =>
  bindE (guardR (wantR false t16_14) (some (t3_2, H_15)) H_15) fun t18_16 H_17 =>
  bindE (guardR (wantR false t16_14) (mLenSl t18_16 H_17) H_17) fun t19_18 H_19 =>
  bindE (guardR (wantR false t16_14) (mBin (cfg b) 3 true .gtr t19_18 (AV.c (.int .i64 0)) H_19) H_19) fun t20_20 H_21 =>
  bindE (mPick t16_14 (AV.c (.bool true)) t20_20 H_21) fun t21_22 H_23 =>
  condR t21_22 (bindE (mBuildSl 5 1 (.int .u8 0) 1 [(0, t14_12)] H_23) fun t24_24 H_25 =>
  bindE (mAppend 5 1 1 false t3_2 t24_24 H_25) fun t25_26 H_27 =>
  bindE (mBin (cfg b) 3 true .sub t4_4 (AV.c (.int .i64 1)) H_27) fun t9_28 H_29 =>
  some (LStep.cont [t0_0, t25_26, t9_28], H_29)) (bindE (mBin (cfg b) 3 true .sub t4_4 (AV.c (.int .i64 1)) H_23) fun t9_30 H_31 =>
  some (LStep.cont [t0_0, t3_2, t9_30], H_31))) (some (LStep.exit 0 [t3_2], H_7)))
/-- ferryman/tlv.Num -/
noncomputable def p131 (b : Bool) (cf : CallFn) (k : Nat) (t0 : AV) (H : Heap) : Option (AV × Heap) :=
  afterL 0 (loopX k (p131_l0 b cf k) [t0, (AV.c .nilsl), (AV.c (.int .i64 7))] H) (fun vs_32 H_33 =>
  un vs_32 fun t3_34 vs_35 => un0 vs_35 (endQ (cfg b) false k (resC1 (some t3_34) (some [])) H_33)) (fun vs_32 H_33 => un vs_32 fun t3_36 vs_37 => un0 vs_37 (endQ (cfg b) false k (resC1 (some AV.any) (some [])) H_33))

/-- (*ferryman/parcel.writer).num -/
noncomputable def p145 (b : Bool) (cf : CallFn) (k : Nat) (t0 t1 t2 : AV) (H : Heap) : Option (AV × Heap) :=
  bindE (cf 131 [t2] H) fun t9_0 H_1 =>
  bindE (cf 148 [t0, t1, t9_0] H_1) fun t10_2 H_3 =>
  endQ (cfg b) false k (some []) H_3

/-- (*ferryman/parcel.writer).hash -/
noncomputable def p146 (b : Bool) (cf : CallFn) (k : Nat) (t0 t1 t2 : AV) (H : Heap) : Option (AV × Heap) :=
  bindE (mBox 41 t2 H) fun t5_0 H_1 =>
  bindE (mLoad true 32 t5_0 H_1) fun t6_2 H_3 =>
  bindE (mBuildA 32 .u8 (List.replicate 32 0) [] H_3) fun t7_4 H_5 =>
  bindE (mBin (cfg b) 41 false .neq t6_2 t7_4 H_5) fun t8_6 H_7 =>
  condR t8_6 (bindE (mSliceArr 32 t5_0 none none H_7) fun t11_8 H_9 =>
  bindE (cf 148 [t0, t1, t11_8] H_9) fun t12_10 H_11 =>
  endQ (cfg b) false k (some []) H_11) (endQ (cfg b) false k (some []) H_7)

/-- (*ferryman/parcel.writer).bytes -/
noncomputable def p148 (b : Bool) (cf : CallFn) (k : Nat) (t0 t1 t2 : AV) (H : Heap) : Option (AV × Heap) :=
  bindE (mNil t0 H) fun t7_0 H_1 =>
  bindE (mFA 1 1 t7_0 H_1) fun t8_2 H_3 =>
  bindE (mLoad false 1 t8_2 H_3) fun t9_4 H_5 =>
  bindE (mBin (cfg b) 25 true .eql t9_4 (AV.c (.int .i64 0)) H_5) fun t10_6 H_7 =>
  condR t10_6 (bindE (mNil t0 H_7) fun t15_8 H_9 =>
  bindE (mFA 0 0 t15_8 H_9) fun t16_10 H_11 =>
  bindE (mLoad false 1 t16_10 H_11) fun t17_12 H_13 =>
  bindE (cf 130 [t17_12, t1, t2] H_13) fun t20_14 H_15 =>
  bindE (mExtract 0 t20_14 H_15) fun t21_16 H_17 =>
  bindE (mExtract 1 t20_14 H_17) fun t22_18 H_19 =>
  bindE (mNil t0 H_19) fun t23_20 H_21 =>
  bindE (mFA 0 0 t23_20 H_21) fun t24_22 H_23 =>
  bindE (mStore false 1 t24_22 t21_16 H_23) fun u_24 H_25 =>
  bindE (mNil t0 H_25) fun t25_26 H_27 =>
  bindE (mFA 1 1 t25_26 H_27) fun t26_28 H_29 =>
  bindE (mStore false 1 t26_28 t22_18 H_29) fun u_30 H_31 =>
  endQ (cfg b) false k (some []) H_31) (endQ (cfg b) false k (some []) H_7)

theorem p131_eq (b : Bool) (cf : CallFn) (t0 : AV) (H : Heap) : runG (cfg b) cf An 131 [t0] H = p131 b cf H.length t0 H := by kernel_rfl
theorem p145_eq (b : Bool) (cf : CallFn) (t0 t1 t2 : AV) (H : Heap) : runG (cfg b) cf An 145 [t0, t1, t2] H = p145 b cf H.length t0 t1 t2 H := by kernel_rfl
theorem p146_eq (b : Bool) (cf : CallFn) (t0 t1 t2 : AV) (H : Heap) : runG (cfg b) cf An 146 [t0, t1, t2] H = p146 b cf H.length t0 t1 t2 H := by kernel_rfl
theorem p148_eq (b : Bool) (cf : CallFn) (t0 t1 t2 : AV) (H : Heap) : runG (cfg b) cf An 148 [t0, t1, t2] H = p148 b cf H.length t0 t1 t2 H := by kernel_rfl

end Go.Fm

