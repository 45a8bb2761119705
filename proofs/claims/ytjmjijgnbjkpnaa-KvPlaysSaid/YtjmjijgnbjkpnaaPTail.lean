/-
  A part of the proof: PTail.
-/
import Derived.Test.YtjmjijgnbjkpnaaDLaw5
import Derived.Test.YtjmjijgnbjkpnaaPRef1
import Derived.Test.YtjmjijgnbjkpnaaPKv4
import Derived.Test.YtjmjijgnbjkpnaaPGrow
import Derived.Test.YtjmjijgnbjkpnaaPBegin
import Derived.Test.YtjmjijgnbjkpnaaPKv6
import Derived.Test.YtjmjijgnbjkpnaaPPiece
set_option linter.all false
set_option autoImplicit true
/-
  KvPlays: the loop, its tail under a name.
-/
set_option maxRecDepth 100000
set_option linter.unusedVariables false
namespace Go.Fm
open Go Go.Proofs
noncomputable def tl5 (b : Bool) (cf : CallFn) (t1_116 t5_118 t6_120 t9_122 t22_124 t23_126 t24_128 : AV) (H_115 : Heap) : Option (LStep × Heap) :=
  bindE (cf 21 [t5_118, t9_122] H_115) fun t101_130 H_131 =>
  bindE (mExtract 0 t101_130 H_131) fun t102_132 H_133 =>
  bindE (mExtract 1 t101_130 H_133) fun t103_134 H_135 =>
  bindE (cf 19 [t6_120, t9_122] H_135) fun t106_136 H_137 =>
  afterD (twice [0, 0, 2, 7, 15, 31, 63, 127, 255, 127, 127, 1663, 3711, 7807, 15999, 32767, 65535, 131071, 262143, 524287, 1048575, 524287, 4194303, 8388607, 16777215, 33554431, 67108863, 67108863, 268435455, 67108863, 67108863, 2147483647, 4294967295, 8589934591, 17179869183] (p5_l0_d0 b cf t103_134 t106_136 t102_132 t6_120 t5_118 t1_116) H_137) fun vs_209 H_210 =>
  un vs_209 fun t141_211 vs_212 => un0 vs_212 (condR t141_211 (some (LStep.ret [(AV.c (.bool false)), t5_118], H_210)) (pieceR pc5_32 [t5_118, AV.any] H_210 (bindE (mBin (cfg b) 3 true .add t24_128 (AV.c (.int .i64 1)) H_210) fun t164_213 H_214 =>
  some (LStep.cont [t1_116, t5_118, t6_120, t22_124, t23_126, t164_213], H_214))))
noncomputable def q5_l0 (b : Bool) (cf : CallFn) (k : Nat) (s : List AV) (H : Heap) : Option (LStep × Heap) :=
  un s fun t1_8 vs_9 => un vs_9 fun t5_10 vs_11 => un vs_11 fun t6_12 vs_13 => un vs_13 fun t22_14 vs_15 => un vs_15 fun t23_16 vs_17 => un vs_17 fun t24_18 vs_19 => un0 vs_19 (bindE (mBin (cfg b) 3 false .lss t24_18 t23_16 H) fun t25_20 H_21 =>
  condR t25_20 (bindE (mIdxS 4 t22_14 t24_18 H_21) fun t27_22 H_23 =>
  bindE (mLoad true 4 t27_22 H_23) fun t28_24 H_25 =>
  bindE (mAlloc 49 (.agg [(.int .u8 0), (.int .u8 0), .nilsl, .nilsl]) H_25) fun t8_26 H_27 =>
  bindE (mStore true 4 t8_26 t28_24 H_27) fun u_28 H_29 =>
  bindE (mBin (cfg b) 3 true .gtr t24_18 (AV.c (.int .i64 80)) H_29) fun t30_30 H_31 =>
  bindE (guardR (wantR false t30_30) (mFA 2 2 t8_26 H_31) H_31) fun t32_32 H_33 =>
  bindE (guardR (wantR false t30_30) (mLoad false 1 t32_32 H_33) H_33) fun t33_34 H_35 =>
  bindE (guardR (wantR false t30_30) (mLenSl t33_34 H_35) H_35) fun t34_36 H_37 =>
  bindE (guardR (wantR false t30_30) (mFA 3 3 t8_26 H_37) H_37) fun t35_38 H_39 =>
  bindE (guardR (wantR false t30_30) (mLoad false 1 t35_38 H_39) H_39) fun t36_40 H_41 =>
  bindE (guardR (wantR false t30_30) (mLenSl t36_40 H_41) H_41) fun t37_42 H_43 =>
  bindE (guardR (wantR false t30_30) (mBin (cfg b) 3 false .add t34_36 t37_42 H_43) H_43) fun t38_44 H_45 =>
  bindE (guardR (wantR false t30_30) (mBin (cfg b) 3 true .gtr t38_44 (AV.c (.int .i64 1000)) H_45) H_45) fun t39_46 H_47 =>
  bindE (mPick t30_30 (AV.c (.bool true)) t39_46 H_47) fun t40_48 H_49 =>
  condR t40_48 (some (LStep.exit 0 [AV.any, t5_10], H_49)) (bindE (mLoad true 4 t8_26 H_49) fun t41_50 H_51 =>
  bindE (cf 15 [t41_50] H_51) fun t42_52 H_53 =>
  bindE (mFA 0 0 t8_26 H_53) fun t43_54 H_55 =>
  bindE (mLoad false 1 t43_54 H_55) fun t44_56 H_57 =>
  bindE (mBin (cfg b) 5 true .rem t44_56 (AV.c (.int .u8 6)) H_57) fun t45_58 H_59 =>
  bindE (mBin (cfg b) 5 true .lss t45_58 (AV.c (.int .u8 4)) H_59) fun t46_60 H_61 =>
  condR t46_60 (bindE (mLenSl t42_52 H_61) fun t58_62 H_63 =>
  bindE (mBin (cfg b) 3 true .gtr t58_62 (AV.c (.int .i64 96)) H_63) fun t59_64 H_65 =>
  condR t59_64 (bindE (mBuildSl 5 1 (.int .u8 0) 0 [] H_65) fun t65_66 H_67 =>
  bindE (mAppend 5 1 1 false t65_66 t42_52 H_67) fun t67_68 H_69 =>
  bindE (mFA 3 3 t8_26 H_69) fun t70_70 H_71 =>
  bindE (mLoad false 1 t70_70 H_71) fun t71_72 H_73 =>
  bindE (cf 17 [t5_10, t67_68, t71_72] H_73) fun t72_74 H_75 =>
  bindE (mBin (cfg b) 30 false .neq t72_74 (AV.c (.int .i64 10)) H_75) fun t74_76 H_77 =>
  condR t74_76 (some (LStep.ret [(AV.c (.bool false)), t5_10], H_77)) (bindE (mLenSl t67_68 H_77) fun t76_78 H_79 =>
  afterL 3 (loopX k (p5_l3 b cf k) [t1_8, t5_10, t6_12, t42_52, t67_68, t22_14, t23_16, t24_18, t76_78, (AV.c (.int .i64 0))] H_79) (fun vs_114 H_115 =>
  un vs_114 fun t1_116 vs_117 => un vs_117 fun t5_118 vs_119 => un vs_119 fun t6_120 vs_121 => un vs_121 fun t9_122 vs_123 => un vs_123 fun t22_124 vs_125 => un vs_125 fun t23_126 vs_127 => un vs_127 fun t24_128 vs_129 => un0 vs_129 (tl5 b cf t1_116 t5_118 t6_120 t9_122 t22_124 t23_126 t24_128 H_115)) (fun vs_114 H_115 => un vs_114 fun t1_215 vs_216 => un vs_216 fun t5_217 vs_218 => un vs_218 fun t6_219 vs_220 => un vs_220 fun t9_221 vs_222 => un vs_222 fun t22_223 vs_224 => un vs_224 fun t23_225 vs_226 => un vs_226 fun t24_227 vs_228 => un0 vs_228 (some (LStep.ret [AV.any, t5_217], H_115))))) (bindE (mFA 3 3 t8_26 H_65) fun t61_229 H_230 =>
  bindE (mLoad false 1 t61_229 H_230) fun t62_231 H_232 =>
  bindE (mLenSl t62_231 H_232) fun t63_233 H_234 =>
  bindE (mBin (cfg b) 3 true .gtr t63_233 (AV.c (.int .i64 256)) H_234) fun t64_235 H_236 =>
  condR t64_235 (bindE (mBuildSl 5 1 (.int .u8 0) 0 [] H_236) fun t65_237 H_238 =>
  bindE (mAppend 5 1 1 false t65_237 t42_52 H_238) fun t67_239 H_240 =>
  bindE (mFA 3 3 t8_26 H_240) fun t70_241 H_242 =>
  bindE (mLoad false 1 t70_241 H_242) fun t71_243 H_244 =>
  bindE (cf 17 [t5_10, t67_239, t71_243] H_244) fun t72_245 H_246 =>
  bindE (mBin (cfg b) 30 false .neq t72_245 (AV.c (.int .i64 3)) H_246) fun t74_247 H_248 =>
  condR t74_247 (some (LStep.ret [(AV.c (.bool false)), t5_10], H_248)) (bindE (mLenSl t67_239 H_248) fun t76_249 H_250 =>
  afterL 3 (loopX k (p5_l3 b cf k) [t1_8, t5_10, t6_12, t42_52, t67_239, t22_14, t23_16, t24_18, t76_249, (AV.c (.int .i64 0))] H_250) (fun vs_251 H_252 =>
  un vs_251 fun t1_253 vs_254 => un vs_254 fun t5_255 vs_256 => un vs_256 fun t6_257 vs_258 => un vs_258 fun t9_259 vs_260 => un vs_260 fun t22_261 vs_262 => un vs_262 fun t23_263 vs_264 => un vs_264 fun t24_265 vs_266 => un0 vs_266 (tl5 b cf t1_253 t5_255 t6_257 t9_259 t22_261 t23_263 t24_265 H_252)) (fun vs_251 H_252 => un vs_251 fun t1_352 vs_353 => un vs_353 fun t5_354 vs_355 => un vs_355 fun t6_356 vs_357 => un vs_357 fun t9_358 vs_359 => un vs_359 fun t22_360 vs_361 => un vs_361 fun t23_362 vs_363 => un vs_363 fun t24_364 vs_365 => un0 vs_365 (some (LStep.ret [AV.any, t5_354], H_252))))) (afterD (twice [0, 0, 0, 6, 0, 0, 32, 126, 255, 511] (p5_l0_d2 b cf t6_12 t42_52 t8_26) H_236) fun vs_387 H_388 =>
  un vs_387 fun t6_389 vs_390 => un0 vs_390 (bindE (mBuildSl 5 1 (.int .u8 0) 0 [] H_388) fun t65_391 H_392 =>
  bindE (mAppend 5 1 1 false t65_391 t42_52 H_392) fun t67_393 H_394 =>
  bindE (mFA 3 3 t8_26 H_394) fun t70_395 H_396 =>
  bindE (mLoad false 1 t70_395 H_396) fun t71_397 H_398 =>
  bindE (cf 17 [t5_10, t67_393, t71_397] H_398) fun t72_399 H_400 =>
  bindE (mBin (cfg b) 30 false .neq t72_399 (AV.c (.int .i64 0)) H_400) fun t74_401 H_402 =>
  condR t74_401 (some (LStep.ret [(AV.c (.bool false)), t5_10], H_402)) (bindE (mLenSl t67_393 H_402) fun t76_403 H_404 =>
  afterL 3 (loopX k (p5_l3 b cf k) [t1_8, t5_10, t6_389, t42_52, t67_393, t22_14, t23_16, t24_18, t76_403, (AV.c (.int .i64 0))] H_404) (fun vs_405 H_406 =>
  un vs_405 fun t1_407 vs_408 => un vs_408 fun t5_409 vs_410 => un vs_410 fun t6_411 vs_412 => un vs_412 fun t9_413 vs_414 => un vs_414 fun t22_415 vs_416 => un vs_416 fun t23_417 vs_418 => un vs_418 fun t24_419 vs_420 => un0 vs_420 (tl5 b cf t1_407 t5_409 t6_411 t9_413 t22_415 t23_417 t24_419 H_406)) (fun vs_405 H_406 => un vs_405 fun t1_506 vs_507 => un vs_507 fun t5_508 vs_509 => un vs_509 fun t6_510 vs_511 => un vs_511 fun t9_512 vs_513 => un vs_513 fun t22_514 vs_515 => un vs_515 fun t23_516 vs_517 => un vs_517 fun t24_518 vs_519 => un0 vs_519 (some (LStep.ret [AV.any, t5_508], H_406)))))))) (bindE (cf 18 [t5_10, t42_52] H_61) fun t89_520 H_521 =>
  bindE (cf 19 [t6_12, t42_52] H_521) fun t92_522 H_523 =>
  bindE (mBin (cfg b) 3 true .geq t92_522 (AV.c (.int .i64 0)) H_523) fun t93_524 H_525 =>
  bindE (mBin (cfg b) 4 false .neq t89_520 t93_524 H_525) fun t94_526 H_527 =>
  condR t94_526 (some (LStep.ret [(AV.c (.bool false)), t5_10], H_527)) (bindE (cf 20 [t6_12, t42_52] H_527) fun t97_528 H_529 =>
  tl5 b cf t1_8 t5_10 t97_528 t42_52 t22_14 t23_16 t24_18 H_529)))) (some (LStep.exit 0 [AV.any, t5_10], H_21)))
/-- ferryman/ferrymanlaw16.KvPlays -/
theorem q5_eq (b : Bool) (cf : CallFn) : p5_l0 b cf 0 = q5_l0 b cf 0 := rfl
end Go.Fm
/-
  Two lists that read the same: what puts, cuts and seeks do to them.
-/
set_option maxRecDepth 100000
set_option linter.unusedVariables false
set_option linter.unusedSimpArgs false
namespace Go.Fm
open Go Go.Proofs
theorem bl_tri : ∀ (x y : List UInt8), Op.bytesLess x y = false → Op.bytesLess y x = false → x = y
  | [], [], _, _ => rfl
  | [], _ :: _, h, _ => by simp [Op.bytesLess] at h
  | _ :: _, [], _, h => by simp [Op.bytesLess] at h
  | a :: x, b :: y, h1, h2 => by
    simp only [Op.bytesLess, Bool.or_eq_false_iff, Bool.and_eq_false_iff, decide_eq_false_iff_not, beq_eq_false_iff_ne, ne_eq] at h1 h2
    have hab : a = b := UInt8.le_antisymm (UInt8.not_lt.1 h2.1) (UInt8.not_lt.1 h1.1)
    subst hab
    simp only [not_true_eq_false, false_or] at h1 h2
    rw [bl_tri x y h1.2 h2.2]
theorem putP_mem {k : List UInt8} {v : Option (List UInt8)} : ∀ {l : List Pr} {p : Pr}, p ∈ putP k v l → p = (k, v) ∨ p ∈ l
  | [], p, h => by simp only [putP, List.mem_singleton] at h; exact .inl h
  | q :: l, p, h => by
    unfold putP at h
    split at h
    · rcases List.mem_cons.1 h with rfl | h
      · exact .inr (by simp)
      · rcases putP_mem h with h | h
        · exact .inl h
        · exact .inr (by simp [h])
    · split at h
      · rcases List.mem_cons.1 h with h | h
        · exact .inl h
        · exact .inr (by simp [h])
      · rcases List.mem_cons.1 h with h | h
        · exact .inl h
        · exact .inr h
theorem Rise.put {k : List UInt8} {v : Option (List UInt8)} : ∀ {l : List Pr}, Rise l → Rise (putP k v l)
  | [], _ => by simp [putP, Rise]
  | p :: l, h => by
    unfold Rise at h ⊢
    rw [List.pairwise_cons] at h
    unfold putP
    by_cases h1 : Op.bytesLess p.1 k = true
    · rw [if_pos h1, List.pairwise_cons]
      refine ⟨fun q hq => ?_, Rise.put h.2⟩
      rcases putP_mem hq with rfl | hq
      · exact h1
      · exact h.1 q hq
    · rw [if_neg h1]
      by_cases h2 : p.1 = k
      · rw [if_pos h2, List.pairwise_cons]
        exact ⟨fun q hq => by rw [← h2]; exact h.1 q hq, h.2⟩
      · rw [if_neg h2, List.pairwise_cons]
        have h3 : Op.bytesLess k p.1 = true := by
          cases h4 : Op.bytesLess k p.1 with
          | true => rfl
          | false => exact absurd (bl_tri _ _ (by simpa using h1) h4) h2
        refine ⟨fun q hq => ?_, List.pairwise_cons.2 h⟩
        rcases List.mem_cons.1 hq with rfl | hq
        · exact h3
        · exact bl_trans h3 (h.1 q hq)
theorem Rise.cut {k : List UInt8} {l : List Pr} (h : Rise l) : Rise (cutP k l) := List.Pairwise.filter _ h
theorem pk_lt {k : List UInt8} {p : Pr} (s : List Pr) (h : ltk k p = true) : posK k (p :: s) = posK k s + 1 ∧ isK k (p :: s) = isK k s := by
  have h1 : posK k (p :: s) = posK k s + 1 := by unfold posK; rw [List.takeWhile_cons_of_pos h]; rfl
  refine ⟨h1, ?_⟩
  unfold isK
  rw [h1]
  simp
theorem pk_ge {k : List UInt8} {p : Pr} (s : List Pr) (h : ltk k p = false) : posK k (p :: s) = 0 ∧ isK k (p :: s) = (p.1 == k) := by
  have h1 : posK k (p :: s) = 0 := by unfold posK; rw [List.takeWhile_cons_of_neg (by simp [h])]; rfl
  refine ⟨h1, ?_⟩
  unfold isK
  rw [h1]
  simp
theorem ltk_ne {k : List UInt8} {p : Pr} (h : ltk k p = true) : p.1 ≠ k := bl_ne h
theorem isK_not {k : List UInt8} : ∀ {s : List Pr}, Rise s → isK k s = false → ∀ p ∈ s, p.1 ≠ k
  | [], _, _, p, hp => by simp at hp
  | q :: s, hr, hk, p, hp => by
    have hc := List.pairwise_cons.1 hr
    cases hq : ltk k q with
    | true =>
      rcases List.mem_cons.1 hp with rfl | hp
      · exact ltk_ne hq
      · exact isK_not hc.2 (by rw [← (pk_lt s hq).2]; exact hk) p hp
    | false =>
      rw [(pk_ge s hq).2] at hk
      rcases List.mem_cons.1 hp with rfl | hp
      · simpa using hk
      · intro e
        have := hc.1 p hp
        rw [e] at this
        unfold ltk at hq
        rw [this] at hq
        cases hq
theorem Same.mem {k : List UInt8} : ∀ {s l : List Pr}, Same s l → (∀ p ∈ s, p.1 ≠ k) → ∀ p ∈ l, p.1 ≠ k
  | [], [], _, _, p, hp => by simp at hp
  | q :: s, r :: l, h, hs, p, hp => by
    rcases List.mem_cons.1 hp with rfl | hp
    · rw [← h.1]; exact hs q (by simp)
    · exact Same.mem h.2.2 (fun p hp => hs p (by simp [hp])) p hp
  | [], _ :: _, h, _, _, _ => by simp [Same] at h
  | _ :: _, [], h, _, _, _ => by simp [Same] at h
theorem Same.find {k : List UInt8} : ∀ {s l : List Pr}, Rise s → Same s l → isK k s = true → ∀ i, findFrom k l i = some (i + posK k s) ∧ pB (l.getD (posK k s) default).2 = pB (s.getD (posK k s) default).2
  | [], _, _, _, hk, i => by simp [isK, posK] at hk
  | p :: s, q :: l, hr, h, hk, i => by
    have hc := List.pairwise_cons.1 hr
    cases hp : ltk k p with
    | true =>
      have hn : q.1 ≠ k := by rw [← h.1]; exact ltk_ne hp
      rw [(pk_lt s hp).2] at hk
      have ih := Same.find hc.2 h.2.2 hk (i + 1)
      rw [(pk_lt s hp).1]
      unfold findFrom
      rw [if_neg hn, ih.1]
      refine ⟨by congr 1; omega, by simpa using ih.2⟩
    | false =>
      rw [(pk_ge s hp).2] at hk
      rw [(pk_ge s hp).1]
      unfold findFrom
      rw [if_pos (by rw [← h.1]; simpa using hk)]
      exact ⟨rfl, by simpa using h.2.1.symm⟩
  | _ :: _, [], _, h, _, _ => by simp [Same] at h
theorem Same.findZ {k : List UInt8} {s l : List Pr} (hr : Rise s) (h : Same s l) (hk : isK k s = true) : Fm.findZ k l = (posK k s : Int) ∧ pB (l.getD (posK k s) default).2 = pB (s.getD (posK k s) default).2 := by
  obtain ⟨h1, h2⟩ := h.find hr hk 0
  refine ⟨?_, h2⟩
  unfold Fm.findZ
  rw [h1]
  simp
theorem Same.findN {k : List UInt8} {s l : List Pr} (hr : Rise s) (h : Same s l) (hk : isK k s = false) : Fm.findZ k l = -1 := by
  have := findFrom_none (i := 0).2 (h.mem (isK_not hr hk))
  unfold Fm.findZ
  rw [this]
theorem Same.put {k : List UInt8} {v w : Option (List UInt8)} (hv : pB v = pB w) : ∀ {s l : List Pr}, Same s l → Same (putP k v s) (putP k w l)
  | [], [], _ => ⟨rfl, hv, trivial⟩
  | p :: s, q :: l, h => by
    have ih := Same.put hv h.2.2 (k := k)
    have h1 := h.1
    unfold putP
    rw [← h1]
    split
    · exact ⟨h1, h.2.1, ih⟩
    · split
      · exact ⟨rfl, hv, h.2.2⟩
      · exact ⟨rfl, hv, h⟩
  | [], _ :: _, h => by simp [Same] at h
  | _ :: _, [], h => by simp [Same] at h
theorem Same.filt {f : List UInt8 → Bool} : ∀ {s l : List Pr}, Same s l → Same (s.filter fun p => f p.1) (l.filter fun p => f p.1)
  | [], [], _ => trivial
  | p :: s, q :: l, h => by
    have ih := Same.filt h.2.2 (f := f)
    have h1 := h.1
    simp only [List.filter_cons, ← h1]
    split
    · exact ⟨h1, h.2.1, ih⟩
    · exact ih
  | [], _ :: _, h => by simp [Same] at h
  | _ :: _, [], h => by simp [Same] at h
theorem Same.cut {k : List UInt8} {s l : List Pr} (h : Same s l) : Same (cutP k s) (cutP k l) := h.filt (f := fun x => x != k)
theorem Same.beg {q : Option (List UInt8)} {s l : List Pr} (h : Same s l) : Same (begP q s) (begP q l) := h.filt (f := fun x => preB (pB q) x)
theorem begP_none (s : List Pr) : begP none s = s := by
  unfold begP
  rw [List.filter_eq_self]
  intro p _
  simp [preB, pB]
theorem cutP_not {k : List UInt8} {s : List Pr} (h : ∀ p ∈ s, p.1 ≠ k) : cutP k s = s := by
  unfold cutP
  rw [List.filter_eq_self]
  intro p hp
  simpa using h p hp
theorem cutP_at {k : List UInt8} : ∀ {s : List Pr}, Rise s → isK k s = true → s.take (posK k s) ++ s.drop (posK k s + 1) = cutP k s
  | [], _, hk => by simp [isK, posK] at hk
  | p :: s, hr, hk => by
    have hc := List.pairwise_cons.1 hr
    cases hp : ltk k p with
    | true =>
      rw [(pk_lt s hp).2] at hk
      have ih := cutP_at hc.2 hk
      rw [(pk_lt s hp).1]
      have hn : (p.1 != k) = true := by simpa using ltk_ne hp
      have e : cutP k (p :: s) = p :: cutP k s := by simp [cutP, hn]
      rw [e, ← ih]
      simp
    | false =>
      rw [(pk_ge s hp).2] at hk
      rw [(pk_ge s hp).1]
      have hpk : p.1 = k := by simpa using hk
      have e : cutP k (p :: s) = cutP k s := by simp [cutP, hpk]
      rw [e, cutP_not (fun r hr' e' => by
        have := hc.1 r hr'
        rw [hpk, e', bytesLess_irr] at this
        cases this)]
      simp
end Go.Fm
/-
  KvPlays: what the tail of a turn finds.
-/
set_option maxRecDepth 100000
set_option linter.unusedVariables false
set_option linter.unusedSimpArgs false
namespace Go.Fm
open Go Go.Proofs
theorem v21 {b : Bool} {H : Heap} {vs : List AV} : callX (cfg b) An 21 vs H = cvw (fnX (cfg b) An 21) (handCs (cfg b) false H vs) := callX_v (prim_none (by decide))
theorem ListF_sl (l : List Pr) (hm : l.length ≤ 1000000) (hok : ∀ p ∈ l, PrOk p) : fnX cfgF An0 23 [.c (.ptr (.agg [.sl 2 (l.map prC)]) [] 0), .c .nilsl] [] = some (.c (lsF l), []) := by
  cases l with
  | nil =>
    rw [fnX_eq, f23_eq true]
    have lp : loopX 0 (f23_l0 true (callX cfgF An0) 0) [.c .nilsl, .c .nilsl, .c (.sl 2 []), .c (.int .i64 0), .c (.int .i64 0)] [] = some (.exit 0 [.c .nilsl], []) := by
      rw [loopX_eq]
      simp [f23_l0]
    simp [f23, lsF, bF45, lp]
  | cons a r => exact ListF (a :: r) hm hok
theorem FrE_pair (p : Pr) : FrE 2 1 (pairF p) := by
  obtain ⟨k, v⟩ := p
  refine ⟨?_, rfl, pF v, ?_, ?_, ?_⟩
  · simp [pairF]
  · simp [pairF]
  · simp [pairF]
  · cases v with
    | none => exact .inl rfl
    | some w => exact .inr ⟨w, rfl⟩
theorem lsF_ok (l : List Pr) : lsF l = .nilsl ∨ ∃ es, lsF l = .sl 2 es ∧ ∀ e ∈ es, FrE 2 1 e := by
  cases l with
  | nil => exact .inl rfl
  | cons a r =>
    refine .inr ⟨(a :: r).map pairF, rfl, fun e he => ?_⟩
    obtain ⟨p, _, rfl⟩ := List.mem_map.1 he
    exact FrE_pair p
theorem plain_ints : ∀ bs : List UInt8, CV.plains (bytesAV bs) = true
  | [] => rfl
  | x :: r => by
    have := plain_ints r
    unfold bytesAV at this ⊢
    simpa [CV.plains, CV.plain] using this
theorem plain_pr (p : Pr) : (prC p).plain = true := by
  obtain ⟨k, v⟩ := p
  cases v with
  | none => simp [prC, pairC, pV, CV.plain, CV.plains, plain_ints]
  | some w => simp [prC, pairC, pV, CV.plain, CV.plains, plain_ints]
theorem plain_prs : ∀ l : List Pr, CV.plains (l.map prC) = true
  | [] => rfl
  | p :: r => by
    have := plain_prs r
    simp only [List.map_cons, CV.plains, plain_pr, this, Bool.and_self]
theorem ok32 {x : AV} {H H' : Heap} (l : List Pr) (hm : l.length ≤ 1000000) (hok : ∀ p ∈ l, PrOk p) (h : toC 8 H (.ov 0 [] 0) = some (.ptr (.agg [.sl 2 (l.map prC)]) [] 0, H')) : okpc5_32 [.ov 0 [] 0, x] H := by
  refine ⟨?_, [.ptr (.agg [.sl 2 (l.map prC)]) [] 0, .nilsl], H', lsF l, ?_, ?_, ListF_sl l hm hok, lsF_ok l⟩
  · intro v hv
    simp only [List.take_succ_cons, List.take_zero, List.cons_append, List.nil_append, List.mem_cons, List.not_mem_nil, or_false] at hv
    rcases hv with rfl | rfl <;> simp [NT]
  · have t2 : toC 8 H' (.c .nilsl) = some (.nilsl, H') := rfl
    simp only [List.take_succ_cons, List.take_zero, List.cons_append, List.nil_append, freezeL, h, t2]
  · intro c hc
    simp only [List.mem_cons, List.not_mem_nil, or_false] at hc
    rcases hc with rfl | rfl
    · exact ⟨rfl, by simp [CV.plain, CV.plains, plain_prs]⟩
    · exact ⟨rfl, rfl⟩
theorem ok32E {x : AV} (R : Heap) : okpc5_32 [.ov 0 [] 0, x] (.var 82 (.c (.agg [.nilsl])) :: R) := by
  refine ⟨?_, [.ptr (.agg [.nilsl]) [] 0, .nilsl], .fvar 82 (.agg [.nilsl]) :: R, .nilsl, ?_, ?_, ListF [] (by simp) (by simp), .inl rfl⟩
  · intro v hv
    simp only [List.take_succ_cons, List.take_zero, List.cons_append, List.nil_append, List.mem_cons, List.not_mem_nil, or_false] at hv
    rcases hv with rfl | rfl <;> simp [NT]
  · simp [freezeL, toC]
  · intro c hc
    simp only [List.mem_cons, List.not_mem_nil, or_false] at hc
    rcases hc with rfl | rfl
    · exact ⟨rfl, rfl⟩
    · exact ⟨rfl, rfl⟩
theorem ok32H {x : AV} (l : List Pr) (hm : l.length ≤ 1000000) (hok : ∀ p ∈ l, PrOk p) (R : Heap) : okpc5_32 [.ov 0 [] 0, x] (.var 82 (.agg [.os 1]) :: .row 59 2 (l.map prC) :: R) :=
  ok32 l hm hok (H' := .fvar 82 (.agg [.sl 2 (l.map prC)]) :: .frow 59 2 (l.map prC) :: R) (by simp [toC, toCsW])
theorem ok32D {x : AV} (l : List Pr) (hm : l.length ≤ 1000000) (hok : ∀ p ∈ l, PrOk p) (Y Z : Blk) (R : Heap) : okpc5_32 [.ov 0 [] 0, x] (.var 82 (.agg [.os 3]) :: Y :: Z :: .row 59 2 (l.map prC) :: R) :=
  ok32 l hm hok (H' := .fvar 82 (.agg [.sl 2 (l.map prC)]) :: Y :: Z :: .frow 59 2 (l.map prC) :: R) (by simp [toC, toCsW])
theorem pr32 {α : Type} {vs : List AV} {H : Heap} {r : Option α} (h : okpc5_32 vs H) : pieceR pc5_32 vs H r = r := pieceR_ok h
end Go.Fm
/-
  KvPlays: the tail of a turn.
-/
set_option maxRecDepth 100000
set_option linter.unusedVariables false
set_option linter.unusedSimpArgs false
namespace Go.Fm
open Go Go.Proofs
structure Kvd (s l : List Pr) : Prop where
  len : s.length ≤ 1000000
  rise : Rise s
  ok : ∀ p ∈ s, PrOk p
  same : Same s l
section
variable {b lit : Bool} {x y : AV} {H : Heap}
theorem eqg4 : (cfg b).P.eqGuardType (cfg b).P.depth 4 = false := by kernel_rfl
theorem aeq4 : aeq (cfg b).P 12 4 x y = boolEq x y := aeq_bool (by kernel_rfl)
theorem bne4 (h : isIS x y = false) : mBin (cfg b) 4 lit .neq x y H = eqH H true (boolEq x y) := by rw [mBin_neg eqg4 h, aeq4]
end
/-! CF -/
set_option maxHeartbeats 8000000 in
theorem tail_E (b : Bool) (q : Option (List UInt8)) (k : List UInt8) (A N : CV) (n : Nat) (hn : n ≤ 1000) (X : Blk) :
    tl5 b (callX (cfg b) An) (.c (pV q)) (.ov 0 [] 0) (.c .nilsl) (.c (.sl 1 (bytesAV k))) (.c A) (.c N) (.c (.int .i64 (n : Int))) (.var 82 (.c (.agg [.nilsl])) :: [X]) =
      some (.cont [.c (pV q), .ov 0 [] 0, .c .nilsl, .c A, .c N, .c (.int .i64 ((n : Int) + 1))], .var 82 (.c (.agg [.nilsl])) :: [X]) := by
  have ha := idx_add n (by omega)
  have g := kvget_nil b k
  have f := fun H => find_call b [] (some k) (by simp) H
  have l1 := klist_nil b none
  have l2 := klist_nil b q
  have bg := fun H => begin_call b [] q (by simp) H
  have sp := fun H => samePairs_call b [] [] (by simp) trivial H
  have z : findZ k [] = -1 := rfl
  have bz : begP q [] = [] := rfl
  have e1 : pV (some k) = .sl 1 (bytesAV k) := rfl
  have e0 : pV (none : Option (List UInt8)) = .nilsl := rfl
  have ok := ok32E (x := .any) [X]
  simp only [pB, z, bz, e1, e0, pairsC_nil, kvE] at g f l1 l2 bg sp
  generalize pV q = Q at *
  simp (maxSteps := 1000000) [tl5, p5_l0_d0, v21, v23, bne4, frz82, frz59, g, f, l1, l2, bg, sp, pr32 ok, ha]
set_option maxHeartbeats 8000000 in
theorem tail_H0 (b : Bool) (q : Option (List UInt8)) (k : List UInt8) (A N : CV) (n : Nat) (hn : n ≤ 1000) (X : Blk) (s l : List Pr) (h : Kvd s l) (hk : isK k s = false) :
    tl5 b (callX (cfg b) An) (.c (pV q)) (.ov 0 [] 0) (.c (pairsC l)) (.c (.sl 1 (bytesAV k))) (.c A) (.c N) (.c (.int .i64 (n : Int))) (.var 82 (.agg [.os 1]) :: .row 59 2 (s.map prC) :: [X]) =
      some (.cont [.c (pV q), .ov 0 [] 0, .c (pairsC l), .c A, .c N, .c (.int .i64 ((n : Int) + 1))], .var 82 (.agg [.os 1]) :: .row 59 2 (s.map prC) :: [X]) := by
  have ha := idx_add n (by omega)
  have hll := h.same.len
  have hlm : l.length ≤ 1000000 := by have := h.len; omega
  have g := kvget_no b s h.len h.rise k hk
  have f := fun H => find_call b l (some k) hlm H
  have z1 := h.same.findN h.rise hk
  have l1 := klist_fn b s h.len h.ok none
  have l2 := klist_fn b s h.len h.ok q
  have bg := fun H => begin_call b l q hlm H
  have sp := fun H => samePairs_call b s l h.len h.same H
  have sp2 := fun H => samePairs_call b (begP q s) (begP q l) (Nat.le_trans (List.length_filter_le _ _) h.len) h.same.beg H
  have e1 : pV (some k) = .sl 1 (bytesAV k) := rfl
  have e0 : pV (none : Option (List UInt8)) = .nilsl := rfl
  have ok := ok32H (x := .any) s h.len h.ok [X]
  simp only [pB, z1, begP_none, e1, e0, kvH] at g f l1 l2 bg sp sp2
  generalize pairsC (begP q s) = S1 at *
  generalize pairsC (begP q l) = S2 at *
  generalize pairsC s = S3 at *
  generalize pairsC l = S4 at *
  generalize s.map prC = M at *
  generalize pV q = Q at *
  simp (maxSteps := 1000000) [tl5, p5_l0_d0, v21, v23, bne4, frz82, frz59, g, f, l1, l2, bg, sp, sp2, pr32 ok, ha]
set_option maxHeartbeats 8000000 in
theorem tail_D0 (b : Bool) (q : Option (List UInt8)) (k : List UInt8) (A N : CV) (n : Nat) (hn : n ≤ 1000) (Y Z : Blk) (s l : List Pr) (h : Kvd s l) (hk : isK k s = false) :
    tl5 b (callX (cfg b) An) (.c (pV q)) (.ov 0 [] 0) (.c (pairsC l)) (.c (.sl 1 (bytesAV k))) (.c A) (.c N) (.c (.int .i64 (n : Int))) [.var 82 (.agg [.os 3]), Y, Z, .row 59 2 (s.map prC)] =
      some (.cont [.c (pV q), .ov 0 [] 0, .c (pairsC l), .c A, .c N, .c (.int .i64 ((n : Int) + 1))], [.var 82 (.agg [.os 3]), Y, Z, .row 59 2 (s.map prC)]) := by
  have ha := idx_add n (by omega)
  have hll := h.same.len
  have hlm : l.length ≤ 1000000 := by have := h.len; omega
  have g := kvget_no b s h.len h.rise k hk
  have f := fun H => find_call b l (some k) hlm H
  have z1 := h.same.findN h.rise hk
  have l1 := klist_fn b s h.len h.ok none
  have l2 := klist_fn b s h.len h.ok q
  have bg := fun H => begin_call b l q hlm H
  have sp := fun H => samePairs_call b s l h.len h.same H
  have sp2 := fun H => samePairs_call b (begP q s) (begP q l) (Nat.le_trans (List.length_filter_le _ _) h.len) h.same.beg H
  have e1 : pV (some k) = .sl 1 (bytesAV k) := rfl
  have e0 : pV (none : Option (List UInt8)) = .nilsl := rfl
  have ok := ok32D (x := .any) s h.len h.ok Y Z []
  simp only [pB, z1, begP_none, e1, e0, kvH] at g f l1 l2 bg sp sp2
  generalize pairsC (begP q s) = S1 at *
  generalize pairsC (begP q l) = S2 at *
  generalize pairsC s = S3 at *
  generalize pairsC l = S4 at *
  generalize s.map prC = M at *
  generalize pV q = Q at *
  simp (maxSteps := 1000000) [tl5, p5_l0_d0, v21, v23, bne4, frz82, frz59, g, f, l1, l2, bg, sp, sp2, pr32 ok, ha]
end Go.Fm
