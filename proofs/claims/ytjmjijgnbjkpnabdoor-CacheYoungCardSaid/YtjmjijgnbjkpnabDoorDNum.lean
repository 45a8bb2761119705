/-
  A part of the proof: DNum.
-/
import Derived.Test.YtjmjijgnbjkpnabDoorDAnn
set_option linter.all false
set_option autoImplicit true
/-
  What the interpreter does to functions, without slots and types; the kernel holds it against the code.
-/
set_option maxRecDepth 100000
set_option linter.unusedVariables false
namespace Go.Fm
open Go Go.Proofs
noncomputable def p48_l0 (b : Bool) (cf : CallFn) (k : Nat) (s : List AV) (H : Heap) : Option (LStep × Heap) :=
  un s fun t0_0 vs_1 => un vs_1 fun t3_2 vs_3 => un vs_3 fun t4_4 vs_5 => un0 vs_5 (bindE (mBin (cfg b) 3 true .geq t4_4 (AV.c (.int .i64 0)) H) fun t7_6 H_7 =>
  condR t7_6 (bindE (mBin (cfg b) 3 true .mul (AV.c (.int .i64 8)) t4_4 H_7) fun t12_8 H_9 =>
  bindE (mBin (cfg b) 36 false .shr t0_0 t12_8 H_9) fun t13_10 H_11 =>
  bindE (mConvI .u8 t13_10 H_11) fun t14_12 H_13 =>
  bindE (mBin (cfg b) 5 true .neq t14_12 (AV.c (.int .u8 0)) H_13) fun t16_14 H_15 =>
  bindE (guardR (wantR false t16_14) (some (t3_2, H_15)) H_15) fun t18_16 H_17 =>
  bindE (guardR (wantR false t16_14) (mLenSl t18_16 H_17) H_17) fun t19_18 H_19 =>
  bindE (guardR (wantR false t16_14) (mBin (cfg b) 3 true .gtr t19_18 (AV.c (.int .i64 0)) H_19) H_19) fun t20_20 H_21 =>
  bindE (mPick t16_14 (AV.c (.bool true)) t20_20 H_21) fun t21_22 H_23 =>
  condR t21_22 (bindE (mBuildSl 5 1 (.int .u8 0) 1 [(0, t14_12)] H_23) fun t24_24 H_25 =>
  bindE (mAppend 5 1 1 false t3_2 t24_24 H_25) fun t25_26 H_27 =>
  bindE (mBin (cfg b) 3 true .sub t4_4 (AV.c (.int .i64 1)) H_27) fun t9_28 H_29 =>
  some (LStep.cont [t0_0, t25_26, t9_28], H_29)) (bindE (mBin (cfg b) 3 true .sub t4_4 (AV.c (.int .i64 1)) H_23) fun t9_30 H_31 =>
  some (LStep.cont [t0_0, t3_2, t9_30], H_31))) (some (LStep.exit 0 [t3_2], H_7)))
/-- ferryman/tlv.Num -/
noncomputable def p48 (b : Bool) (cf : CallFn) (k : Nat) (t0 : AV) (H : Heap) : Option (AV × Heap) :=
  afterL 0 (loopX k (p48_l0 b cf k) [t0, (AV.c .nilsl), (AV.c (.int .i64 7))] H) (fun vs_32 H_33 =>
  un vs_32 fun t3_34 vs_35 => un0 vs_35 (endQ (cfg b) false k (resC1 (some t3_34) (some [])) H_33)) (fun vs_32 H_33 => un vs_32 fun t3_36 vs_37 => un0 vs_37 (endQ (cfg b) false k (resC1 (some AV.any) (some [])) H_33))
theorem p48_eq (b : Bool) (cf : CallFn) (t0 : AV) (H : Heap) : runG (cfg b) cf An 48 [t0] H = p48 b cf H.length t0 H := by kernel_rfl
end Go.Fm
