/-
  EpochNil: the law answers true at every n and keep; it holds for arguments of every size, given the tables that the card names.
-/
import Derived.Test.YtjmjijgnbjkpnaaDoorCards
import Derived.Test.YtjmjijgnbjkpnaaDoorTie
import Derived.WalkKit
import Derived.ProofKit
import Derived.OpenShut
import Derived.Deep.DeepHandedRow
import Derived.Lib.LaidTab
import Derived.Test.YtjmjijgnbjkpnaaDoorDHead
import Derived.Test.YtjmjijgnbjkpnaaDoorPLaw3
set_option linter.all false
set_option autoImplicit true
set_option maxRecDepth 100000
namespace Go.Proofs.YtjmjijgnbjkpnaaDoor.epochNil
open Go Go.ChangeShapes Go.WideShapes Go.ChangeAt Go.RowKit Go.Fm

theorem prims : ∀ f p, (cfg false).prim f = some p → PrimOk (cfg false) f p := fun f p h => by simp [cfg] at h

theorem own : ownKnob Tryd.prog.godebug = none := by kernel_rfl
theorem gWords : Tryd.prog.globalNamed "ferryman/sha.words" = some 1 := by kernel_rfl
theorem gWordsType : (Tryd.prog.globals[1]?).map (·.type) = some 199 := by kernel_rfl
theorem u199 : Tryd.prog.underlying 199 = some (.array 64 192) := by kernel_rfl
theorem u192 : Tryd.prog.underlying 192 = some (.int .u32) := by kernel_rfl
theorem cells199 : Tryd.prog.cellsOf 199 = 64 := by kernel_rfl
theorem cells192 : Tryd.prog.cellsOf 192 = 1 := by kernel_rfl
theorem u22 : Tryd.prog.underlying 22 = some (.int .u64) := by kernel_rfl
theorem u5 : Tryd.prog.underlying 5 = some (.int .u8) := by kernel_rfl
theorem u4 : Tryd.prog.underlying 4 = some .bool := by kernel_rfl

theorem table {W : World} (h : laidMetH Tryd.prog Rows.epochNilRow.laid W) : Lib.TabIs Tryd.prog W "ferryman/sha.words" .u32 words :=
  Lib.tabIs_of_head (rest := []) gWords gWordsType u199 u192 cells192 cells199 h

theorem globs {W : World} (h : Lib.TabIs Tryd.prog W "ferryman/sha.words" .u32 words) : ∀ n v, (cfg false).gl n = some v → ∃ cs, Here W All n 0 cs ∧ RC W All cs v := by
  intro n v hv
  simp only [cfg] at hv
  split at hv
  · rename_i hn
    subst hn
    simp only [Option.some.injEq] at hv
    subst hv
    refine ⟨words.map (.int .u32), fun i v hi => ?_, .arr 64 .u32 words (by decide)⟩
    rw [List.getElem?_map, Option.map_eq_some_iff] at hi
    obtain ⟨z, hz, rfl⟩ := hi
    obtain ⟨hlt, hz'⟩ := List.getElem?_eq_some_iff.1 hz
    refine ⟨?_, trivial⟩
    rw [Nat.zero_add, h.cell gWords i hlt]
    simp [List.getD_eq_getElem?_getD, hz]
  · simp at hv

theorem contract (H : Type) (enc : TypeId × Value → H) (W : World) (base : Nat) (args : Array Value) (ds gs : List (DataW H)) (before : List MemPlace)
    (hval : ∀ (j : Nat) t v, Tryd.f3.params[j]? = some t → args[j]? = some v → Value.okWide Tryd.prog W .any base t v)
    (hW : DataW.Whole enc Tryd.prog Tryd.f3.params.toList Rows.epochNilSpec.vars false W args.toList ds gs before) (hL : laidMetH Tryd.prog Rows.epochNilRow.laid W) :
    Calls Tryd.prog 3 args W fun e W' => ∃ v, e = .returned v ∧ Rows.epochNilSpec.post enc Tryd.prog Tryd.f3 false true false false W args v W' := by
  have hW' := hW
  obtain ⟨p, q, hA0, hV, rfl, hfz, hnd⟩ := hW
  have hA : DataW.TrodAll enc Tryd.prog W 0 (fun _ => true) true Tryd.f3.params.toList args.toList ds p := hA0
  rw [Tryd.params3] at hA hval
  obtain ⟨v0, vs0, d0, ds0, p0, q0, hargs, rfl, rfl, h0, r0⟩ := trodAll_cons hA
  obtain ⟨v1, vs1, d1, ds1, p1, q1, hargs1, rfl, rfl, h1, r1⟩ := trodAll_cons r0
  subst hargs1
  obtain ⟨rfl, rfl, rfl⟩ := trodAll_nil r1
  obtain rfl : args = #[v0, v1] := by cases args; simp_all
  obtain ⟨rfl, rfl⟩ := trodVars_none hV
  obtain ⟨n, rfl, rfl, rfl, w0⟩ := open_int u22 (hval 0 22 v0 rfl rfl) h0
  obtain ⟨m, rfl, rfl, rfl, w1⟩ := open_int u5 (hval 1 5 v1 rfl rfl) h1
  clear hA0
  simp only [List.append_nil] at hW'
  have hm0 : 0 ≤ m := by
    have w1' := w1
    simp [Lit.wf, IntKind.min, IntKind.signed] at w1'
    omega
  have walk := calls_trueX (C := cfg false) (An := An) (by kernel_rfl) prims (epochNil_fn false n m hm0) (globs (table hL))
    (us := [.int .u64 n, .int .u8 m]) (.cons _ _ _ _ (.one _ _ (.c _ _ (.int .u64 n)) rfl) (.cons _ _ _ _ (.one _ _ (.c _ _ (.int .u8 m)) rfl) .nil))
  refine Calls.mono walk fun e W' he => ?_
  obtain ⟨rfl, hk⟩ := he
  exact ⟨_, rfl, post_of_kept (pa := []) (pv := []) hW' (fun _ _ _ => trodAll_cons_mk (shut_bool u4 _) trodAll_mk0) (fun _ _ => trodAll_cons_mk (shut_int u22 w0) (trodAll_cons_mk (shut_int u5 w1) trodAll_mk0)) (fun _ _ => rfl) rfl
    hk (ok_one (by kernel_rfl) rfl (okWide_bool_mk u4 _))⟩

/-- A world for the witness. -/
noncomputable def laidWorld (os : Os) : World :=
  { World.holding Tryd.prog os ⟨#[], #[], []⟩ with heap := (World.holding Tryd.prog os ⟨#[], #[], []⟩).heap.modify 1 fun
      | .cells _ t frozen => .cells (words.map (Value.int .u32)).toArray t frozen
      | o => o }
theorem laid_met (os : Os) : laidMet Tryd.prog Rows.epochNilRow.laid ((laidWorld os).forCall (fun _ _ => 0) ⟨#[], #[.int .u64 0, .int .u8 0], []⟩).memory :=
  laidMet_of_run' 8 (by kernel_rfl) (by kernel_rfl)
theorem reads (os : Os) {H : Type} (enc : TypeId × Value → H) : ∃ places, DataW.whole enc Tryd.prog ((laidWorld os).forCall (fun _ _ => 0) ⟨#[], #[.int .u64 0, .int .u8 0], []⟩).memory Tryd.f3.params.toList Rows.epochNilSpec.vars false #[Value.int .u64 0, Value.int .u8 0].toList 8 = some ([.lit (.int .u64 0), .lit (.int .u8 0)], [], places) :=
  ⟨[], by kernel_rfl⟩

set_option maxRecDepth 100000 in
theorem lifted (os : Os) (started : os.Started) (H : Type) (enc : TypeId × Value → H) (F : Stop.Interp) :
    ReturnsInHanded {} Tryd.checked os 3 .any ((OpenSpec.ofChange Rows.epochNilSpec).preRow enc Tryd.prog Tryd.f3 Rows.epochNilRow.domain false Rows.epochNilRow.laid) (((OpenSpec.ofChange Rows.epochNilSpec).at F).post enc Tryd.prog Tryd.f3 false true false false) := by
  obtain ⟨places, hx⟩ := reads os enc
  refine returnsInHanded_of_row (C := Tryd.checked) (s := OpenSpec.ofChange Rows.epochNilSpec) own started (by kernel_rfl) Tryd.func3
    (witness_row_at (enc := enc) (C := Tryd.checked) false (laidWorld os) #[.int .u64 0, .int .u8 0] rfl (by kernel_rfl) (by kernel_rfl) (by kernel_rfl)
      (OpenSpec.preRow_of_cond 8 hx (by kernel_rfl) (fun k hk => by cases hk) (by kernel_rfl) (laid_met os))) ?_
  intro W base args ds gs before hval hW _ _ _ hL _ _
  exact contract H enc W base args ds gs before hval hW hL

theorem closed : joinedFacts Tryd.prog 3 Tryd.f3 (OpenSpec.ofChange Rows.epochNilSpec).bare Rows.epochNilRow = true := by
  unfold joinedFacts
  rw [head_may, head_final, head_make]
  kernel_rfl
theorem said : Rows.EpochNilSaid :=
  OpenClaim.holds_of_cond 3 Tryd.f3 rfl rfl rfl rfl rfl rfl rfl ⟨rfl, rfl, rfl, rfl, rfl⟩ rfl rfl rfl rfl rfl (by kernel_rfl) Tryd.func3 closed
    (of_decide_eq_true (by kernel_rfl)) (by unfold Func.isWrapper; rw [if_neg (by decide +kernel)]; exact ⟨rfl, rfl⟩)
    (fun os started H enc _ F => by rw [OpenClaim.pre_eq_preRow]; exact lifted os started H enc F)

theorem plain (f : FuncId) (fn : Func) (hf : Tryd.pinned.checked.prog.funcNamed "ferryman/ferrymanlaw06.EpochNil" = some f) (hfn : Tryd.pinned.checked.prog.funcs[f]? = some fn) :
    false = Tryd.pinned.checked.prog.looks [] ∧ ∀ (j : Nat) t, fn.params[j]? = some t → Tryd.pinned.checked.prog.wantsStandIn t = false := by
  obtain rfl : f = 3 := Option.some.inj ((show Tryd.prog.funcNamed "ferryman/ferrymanlaw06.EpochNil" = some 3 by kernel_rfl).symm.trans hf) |>.symm
  obtain rfl : fn = Tryd.f3 := (Option.some.inj (Tryd.func3.symm.trans hfn)).symm
  refine ⟨by kernel_rfl, fun j t ht => ?_⟩
  rw [Tryd.params3] at ht
  have : t = 22 ∨ t = 5 := by simpa using Array.mem_of_getElem? ht
  rcases this with rfl | rfl
  · exact (show Tryd.prog.wantsStandIn 22 = false by kernel_rfl)
  · exact (show Tryd.prog.wantsStandIn 5 = false by kernel_rfl)

theorem card : Rows.EpochNilCardSaid :=
  Claim7.holds_tied_plain_at .later [] _ _ _ _ said (fun _ h => by cases h) (by kernel_rfl) (fun _ h => by cases h) epochNil_row_tie rfl ⟨rfl, rfl⟩ (head_main.trans (by kernel_rfl)) rfl plain (by kernel_rfl)
end Go.Proofs.YtjmjijgnbjkpnaaDoor.epochNil

