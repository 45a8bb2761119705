/-
  TreeStays: the law answers true at every input; it holds for arguments of every size, given the tables that the card names.
-/
import Derived.Test.YtjmjijgnbjkpnaaDoorCards
import Derived.Test.YtjmjijgnbjkpnaaDoorTie
import Derived.WalkKit
import Derived.ProofKit
import Derived.OpenShut
import Derived.Deep.DeepHandedRow
import Derived.Lib.LaidTab
import Derived.Test.YtjmjijgnbjkpnaaDoorDHead
import Derived.Test.YtjmjijgnbjkpnaaDoorGlue1
import Derived.Test.YtjmjijgnbjkpnaaDoorPPri
import Derived.Test.YtjmjijgnbjkpnaaDoorPLaw13c
import Derived.Test.YtjmjijgnbjkpnaaDoorGlue2
import Derived.Test.YtjmjijgnbjkpnaaDoorPIns
import Derived.Test.YtjmjijgnbjkpnaaDoorPPiece
set_option linter.all false
set_option autoImplicit true
set_option maxRecDepth 100000
namespace Go.Proofs.YtjmjijgnbjkpnaaDoor.treeStays
open Go Go.ChangeShapes Go.WideShapes Go.ChangeAt Go.RowKit Go.Fm
theorem own : ownKnob Tryd.prog.godebug = none := by kernel_rfl
theorem gWords : Tryd.prog.globalNamed "ferryman/sha.words" = some 1 := by kernel_rfl
theorem gWordsType : (Tryd.prog.globals[1]?).map (·.type) = some 199 := by kernel_rfl
theorem u199 : Tryd.prog.underlying 199 = some (.array 64 192) := by kernel_rfl
theorem u192 : Tryd.prog.underlying 192 = some (.int .u32) := by kernel_rfl
theorem cells199 : Tryd.prog.cellsOf 199 = 64 := by kernel_rfl
theorem cells192 : Tryd.prog.cellsOf 192 = 1 := by kernel_rfl
theorem u4 : Tryd.prog.underlying 4 = some .bool := by kernel_rfl
theorem table {W : World} (h : laidMetH Tryd.prog Rows.treeStaysRow.laid W) : Lib.TabIs Tryd.prog W "ferryman/sha.words" .u32 words :=
  Lib.tabIs_of_head (rest := []) gWords gWordsType u199 u192 cells192 cells199 h
theorem globs {W : World} (h : Lib.TabIs Tryd.prog W "ferryman/sha.words" .u32 words) : ∀ n v, (cfg false).gl n = some v → ∃ cs, Here W All n 0 cs ∧ RC W All cs v := by
  intro n v hv
  simp only [cfg] at hv
  split at hv
  · rename_i hn
    subst hn
    simp only [Option.some.injEq] at hv
    subst hv
    refine ⟨words.map (.int .u32), fun i v hi => ?_, .arr 64 .u32 words (by decide)⟩
    rw [List.getElem?_map, Option.map_eq_some_iff] at hi
    obtain ⟨z, hz, rfl⟩ := hi
    obtain ⟨hlt, hz'⟩ := List.getElem?_eq_some_iff.1 hz
    refine ⟨?_, trivial⟩
    rw [Nat.zero_add, h.cell gWords i hlt]
    simp [List.getD_eq_getElem?_getD, hz]
  · simp at hv
/-- The shapes of the arguments. -/
def shs : List Sh := [.sl 4 (.st [.int .u8, .int .u8, .sl 1 (.int .u8), .sl 1 (.int .u8)]), .sl 4 (.st [.int .u8, .int .u8, .sl 1 (.int .u8), .sl 1 (.int .u8)])]
theorem law_fn : ∀ cvs : List CV, cvs.length = shs.length → (∀ (i : Nat) (s : Sh) (v : CV), shs[i]? = some s → cvs[i]? = some v → Is s v) → fnX (cfg false) An 13 (cvs.map .c) [] = some (.c (.bool true), [])
  | [v, w], _, h => by
    obtain ⟨o, rfl, _⟩ := is_acts (h 0 _ _ rfl rfl)
    obtain ⟨p, rfl, _⟩ := is_acts (h 1 _ _ rfl rfl)
    exact treeStays_fn false o p
  | [], h, _ => by simp [shs] at h
  | [_], h, _ => by simp [shs] at h
  | _ :: _ :: _ :: _, h, _ => by simp [shs] at h
theorem contract (H : Type) (enc : TypeId × Value → H) (W : World) (base : Nat) (args : Array Value) (ds gs : List (DataW H)) (before : List MemPlace)
    (hval : ∀ (j : Nat) t v, Tryd.f13.params[j]? = some t → args[j]? = some v → Value.okWide Tryd.prog W .any base t v)
    (hW : DataW.Whole enc Tryd.prog Tryd.f13.params.toList Rows.treeStaysSpec.vars false W args.toList ds gs before) (hL : laidMetH Tryd.prog Rows.treeStaysRow.laid W) :
    Calls Tryd.prog 13 args W fun e W' => ∃ v, e = .returned v ∧ Rows.treeStaysSpec.post enc Tryd.prog Tryd.f13 false true false false W args v W' := by
  have hW' := hW
  obtain ⟨p, q, hA0, hV, hb, hfz, hnd⟩ := hW
  obtain ⟨hg0, hq0⟩ := trodVars_none hV
  subst hg0
  subst hq0
  rw [List.append_nil] at hb
  subst hb
  have hts : Tryd.f13.params.toList = [46, 46] := by rw [Tryd.params13]
  have hA : DataW.TrodAll enc Tryd.prog W 0 (fun _ => true) true [46, 46] args.toList ds before := by rw [← hts]; exact hA0
  have hval' : ∀ (j : Nat) (t : TypeId) (v : Value), ([46, 46] : List TypeId)[j]? = some t → args.toList[j]? = some v → Value.okWide Tryd.prog W .any base t v := fun j t v h1 h2 => by
    refine hval j t v ?_ (by simpa using h2)
    rw [← hts] at h1
    simpa using h1
  obtain ⟨cvs, hcl, his, hrv⟩ := glueAll (P := Tryd.prog) (S := Gh.start.St All) (g := Gh.start) (r := .any) (b0 := base) start_St [46, 46] shs args.toList ds before rfl (okAll_of (n := 8) (by kernel_rfl)) hval' hA
  have walk := calls_trueX (C := cfg false) (An := An) (by kernel_rfl) (pieces_ok false) (prims_ok false) (law_fn cvs hcl his) (globs (table hL)) (us := args.toList) hrv
  rw [Array.toArray_toList] at walk
  refine Calls.mono walk fun e W' he => ?_
  obtain ⟨rfl, hk⟩ := he
  have hA2 := hA
  obtain ⟨v0, vs0, d0, ds0, p0, q0, hargs0, rfl, hp0, h0, r0⟩ := trodAll_cons hA2
  obtain ⟨v1, vs1, d1, ds1, p1, q1, hargs1, rfl, hp1, h1, r1⟩ := trodAll_cons r0
  obtain ⟨_, rfl, _⟩ := trodAll_nil r1
  exact ⟨_, rfl, post_of_true (ts := [46, 46]) (b := 4) hts rfl u4 rfl hW' hA rfl hk (by kernel_rfl) (by kernel_rfl) (by kernel_rfl) (by
    intro t ht
    have : ([46, 46] : List TypeId).all (fun t => decide (t < Tryd.prog.types.size)) = true := by kernel_rfl
    rw [List.all_eq_true] at this
    simpa using this t ht)⟩
def hdrV : Value := .agg (#[Value.int .u64 0, Value.int .u64 0] ++ Array.replicate 128 (Value.int .u8 0))
/-- A world for the witness. -/
noncomputable def laidWorld (os : Os) : World :=
  { World.holding Tryd.prog os ⟨#[], #[], []⟩ with heap := (World.holding Tryd.prog os ⟨#[], #[], []⟩).heap.modify 1 fun
      | .cells _ t frozen => .cells (words.map (Value.int .u32)).toArray t frozen
      | o => o }
theorem laid_met (os : Os) : laidMet Tryd.prog Rows.treeStaysRow.laid ((laidWorld os).forCall (fun _ _ => 0) ⟨#[], #[.slice none 0 0, .slice none 0 0], []⟩).memory :=
  laidMet_of_run' 8 (by kernel_rfl) (by kernel_rfl)
theorem reads (os : Os) {H : Type} (enc : TypeId × Value → H) : ∃ places, DataW.whole enc Tryd.prog ((laidWorld os).forCall (fun _ _ => 0) ⟨#[], #[.slice none 0 0, .slice none 0 0], []⟩).memory Tryd.f13.params.toList Rows.treeStaysSpec.vars false (#[.slice none 0 0, .slice none 0 0] : Array Value).toList 8 = some ([.nil, .nil], [], places) :=
  ⟨[], by kernel_rfl⟩
set_option maxRecDepth 100000 in
set_option maxHeartbeats 8000000 in
theorem lifted (os : Os) (started : os.Started) (H : Type) (enc : TypeId × Value → H) (F : Stop.Interp) :
    ReturnsInHanded {} Tryd.checked os 13 .any ((OpenSpec.ofChange Rows.treeStaysSpec).preRow enc Tryd.prog Tryd.f13 Rows.treeStaysRow.domain false Rows.treeStaysRow.laid) (((OpenSpec.ofChange Rows.treeStaysSpec).at F).post enc Tryd.prog Tryd.f13 false true false false) := by
  obtain ⟨places, hx⟩ := reads os enc
  refine returnsInHanded_of_row (C := Tryd.checked) (s := OpenSpec.ofChange Rows.treeStaysSpec) own started (by kernel_rfl) Tryd.func13
    (witness_row_at (enc := enc) (C := Tryd.checked) false (laidWorld os) #[.slice none 0 0, .slice none 0 0] (by kernel_rfl) (by kernel_rfl) (by kernel_rfl) (by kernel_rfl)
      (OpenSpec.preRow_of_cond 8 hx (by kernel_rfl) (fun k hk => by cases hk) (by kernel_rfl) (laid_met os))) ?_
  intro W base args ds gs before hval hW _ _ _ hL _ _
  exact contract H enc W base args ds gs before hval hW hL
theorem closed : joinedFacts Tryd.prog 13 Tryd.f13 (OpenSpec.ofChange Rows.treeStaysSpec).bare Rows.treeStaysRow = true := by
  unfold joinedFacts
  rw [head_may, head_final, head_make]
  kernel_rfl
theorem said : Rows.TreeStaysSaid :=
  OpenClaim.holds_of_cond 13 Tryd.f13 rfl rfl rfl rfl rfl rfl rfl ⟨rfl, rfl, rfl, rfl, rfl⟩ rfl rfl rfl rfl rfl (by kernel_rfl) Tryd.func13 closed
    (of_decide_eq_true (by kernel_rfl)) (by unfold Func.isWrapper; rw [if_neg (by decide +kernel)]; exact ⟨rfl, rfl⟩)
    (fun os started H enc _ F => by rw [OpenClaim.pre_eq_preRow]; exact lifted os started H enc F)
theorem plain (f : FuncId) (fn : Func) (hf : Tryd.pinned.checked.prog.funcNamed "ferryman/ferrymanlaw05.TreeStays" = some f) (hfn : Tryd.pinned.checked.prog.funcs[f]? = some fn) :
    false = Tryd.pinned.checked.prog.looks [] ∧ ∀ (j : Nat) t, fn.params[j]? = some t → Tryd.pinned.checked.prog.wantsStandIn t = false := by
  obtain rfl : f = 13 := Option.some.inj ((show Tryd.prog.funcNamed "ferryman/ferrymanlaw05.TreeStays" = some 13 by kernel_rfl).symm.trans hf) |>.symm
  obtain rfl : fn = Tryd.f13 := (Option.some.inj (Tryd.func13.symm.trans hfn)).symm
  refine ⟨by kernel_rfl, fun j t ht => ?_⟩
  rw [Tryd.params13] at ht
  have : t = 46 ∨ t = 46 := by simpa using Array.mem_of_getElem? ht
  rcases this with rfl | rfl
  · exact (show Tryd.prog.wantsStandIn 46 = false by kernel_rfl)
  · exact (show Tryd.prog.wantsStandIn 46 = false by kernel_rfl)
theorem card : Rows.TreeStaysCardSaid :=
  Claim7.holds_tied_plain_at .later [] _ _ _ _ said (fun _ h => by cases h) (by kernel_rfl) (fun _ h => by cases h) treeStays_row_tie rfl ⟨rfl, rfl⟩ (head_main.trans (by kernel_rfl)) rfl plain (by kernel_rfl)
end Go.Proofs.YtjmjijgnbjkpnaaDoor.treeStays
