/-
  KvPlays: the law answers true at every input; it holds for arguments of every size that the form of a claim lets in, without any other condition.
-/
import Derived.Test.YtjmjijgnbjkpnaaRows
import Derived.WalkKit
import Derived.ProofKit
import Derived.OpenShut
import Derived.Deep.DeepHandedRow
import Derived.Lib.LaidTab
import Derived.Test.YtjmjijgnbjkpnaaGlue1
import Derived.Test.YtjmjijgnbjkpnaaGlue2
import Derived.Test.YtjmjijgnbjkpnaaPIns
import Derived.Test.YtjmjijgnbjkpnaaPPiece
import Derived.Test.YtjmjijgnbjkpnaaPLawA
set_option linter.all false
set_option autoImplicit true
set_option maxRecDepth 100000
namespace Go.Proofs.Ytjmjijgnbjkpnaa.kvPlays
open Go Go.ChangeShapes Go.WideShapes Go.ChangeAt Go.RowKit Go.Fm
theorem own : ownKnob Try.prog.godebug = none := by kernel_rfl
theorem u4 : Try.prog.underlying 4 = some .bool := by kernel_rfl
theorem globs {W : World} : ∀ n v, (cfg false).gl n = some v → ∃ cs, Here W All n 0 cs ∧ RC W All cs v := by
  intro n v hv
  cases hv
/-- The shapes of the arguments. -/
def shs : List Sh := [.sl 4 (.st [.int .u8, .int .u8, .sl 1 (.int .u8), .sl 1 (.int .u8)]), .sl 1 (.int .u8)]
theorem law_fn : ∀ cvs : List CV, cvs.length = shs.length → (∀ (i : Nat) (s : Sh) (v : CV), shs[i]? = some s → cvs[i]? = some v → Is s v) → fnX (cfg false) An 5 (cvs.map .c) [] = some (.c (.bool true), [])
  | [v, w], _, h => by
    obtain ⟨o, rfl, ho⟩ := is_acts (h 0 _ _ rfl rfl)
    obtain ⟨q, rfl, _⟩ := is_bytes (h 1 _ _ rfl rfl)
    exact kvPlays_fn false o q fun a ha => by
      have h1 := (ho a ha).1
      have h2 := (ho a ha).2
      have hR : reachBytes = 140737488351232 := rfl
      omega
  | [], h, _ => by simp [shs] at h
  | [_], h, _ => by simp [shs] at h
  | _ :: _ :: _ :: _, h, _ => by simp [shs] at h
theorem contract (H : Type) (enc : TypeId × Value → H) (W : World) (base : Nat) (args : Array Value) (ds gs : List (DataW H)) (before : List MemPlace)
    (hval : ∀ (j : Nat) t v, Try.f5.params[j]? = some t → args[j]? = some v → Value.okWide Try.prog W .any base t v)
    (hW : DataW.Whole enc Try.prog Try.f5.params.toList Rows.kvPlaysSpec.vars false W args.toList ds gs before)
    (hw : (DataW.weightsEach Try.prog (Try.f5.params.toList ++ (OpenSpec.ofChange Rows.kvPlaysSpec).bare.plain.varTypes Try.prog) (ds ++ gs)).all (· ≤ reachBytes) = true) :
    Calls Try.prog 5 args W fun e W' => ∃ v, e = .returned v ∧ Rows.kvPlaysSpec.post enc Try.prog Try.f5 false true false false W args v W' := by
  have hW' := hW
  obtain ⟨p, q, hA0, hV, hb, hfz, hnd⟩ := hW
  obtain ⟨hg0, hq0⟩ := trodVars_none hV
  subst hg0
  subst hq0
  rw [List.append_nil] at hb
  subst hb
  have hw' : (DataW.weightsEach Try.prog [44, 22] ds).all (· ≤ reachBytes) = true := by
    have e : Try.f5.params.toList ++ (OpenSpec.ofChange Rows.kvPlaysSpec).bare.plain.varTypes Try.prog = [44, 22] := by rw [Try.params5]; rfl
    rw [e, List.append_nil] at hw
    exact hw
  have hts : Try.f5.params.toList = [44, 22] := by rw [Try.params5]
  have hA : DataW.TrodAll enc Try.prog W 0 (fun _ => true) true [44, 22] args.toList ds before := by rw [← hts]; exact hA0
  have hval' : ∀ (j : Nat) (t : TypeId) (v : Value), ([44, 22] : List TypeId)[j]? = some t → args.toList[j]? = some v → Value.okWide Try.prog W .any base t v := fun j t v h1 h2 => by
    refine hval j t v ?_ (by simpa using h2)
    rw [← hts] at h1
    simpa using h1
  obtain ⟨cvs, hcl, his, hrv⟩ := glueAll (P := Try.prog) (S := Gh.start.St All) (g := Gh.start) (r := .any) (b0 := base) start_St [44, 22] shs args.toList ds before rfl (okAll_of (n := 8) (by kernel_rfl)) hval' hA hw'
  have walk := calls_trueX (C := cfg false) (An := An) (by kernel_rfl) (pieces_ok false) (prims_ok false) (law_fn cvs hcl his) globs (us := args.toList) hrv
  rw [Array.toArray_toList] at walk
  refine Calls.mono walk fun e W' he => ?_
  obtain ⟨rfl, hk⟩ := he
  have hA2 := hA
  obtain ⟨v0, vs0, d0, ds0, p0, q0, hargs0, rfl, hp0, h0, r0⟩ := trodAll_cons hA2
  obtain ⟨v1, vs1, d1, ds1, p1, q1, hargs1, rfl, hp1, h1, r1⟩ := trodAll_cons r0
  obtain ⟨_, rfl, _⟩ := trodAll_nil r1
  exact ⟨_, rfl, post_of_true (ts := [44, 22]) (b := 4) hts rfl u4 rfl hW' hA rfl hk (by kernel_rfl) (by kernel_rfl) (by kernel_rfl) (by
    intro t ht
    have : ([44, 22] : List TypeId).all (fun t => decide (t < Try.prog.types.size)) = true := by kernel_rfl
    rw [List.all_eq_true] at this
    simpa using this t ht)⟩
def nodeV : Value := .agg (#[Value.slice none 0 0, .slice none 0 0, .int .i64 0, .int .u64 0] ++ Array.replicate 64 (Value.int .u8 0))
/-- A world for the witness. -/
noncomputable def laidWorld (os : Os) : World := World.holding Try.prog os ⟨#[], #[], []⟩
theorem laid_met (os : Os) : laidMet Try.prog Rows.kvPlaysRow.laid ((laidWorld os).forCall (fun _ _ => 0) ⟨#[], #[.slice none 0 0, .slice none 0 0], []⟩).memory :=
  laidMet_of_run' 8 (by kernel_rfl) (by kernel_rfl)
theorem reads (os : Os) {H : Type} (enc : TypeId × Value → H) : ∃ places, DataW.whole enc Try.prog ((laidWorld os).forCall (fun _ _ => 0) ⟨#[], #[.slice none 0 0, .slice none 0 0], []⟩).memory Try.f5.params.toList Rows.kvPlaysSpec.vars false (#[.slice none 0 0, .slice none 0 0] : Array Value).toList 8 = some ([.nil, .nil], [], places) :=
  ⟨[], by kernel_rfl⟩
set_option maxRecDepth 100000 in
set_option maxHeartbeats 8000000 in
theorem lifted (os : Os) (started : os.Started) (H : Type) (enc : TypeId × Value → H) (F : Stop.Interp) :
    ReturnsInHanded {} Try.checked os 5 .any ((OpenSpec.ofChange Rows.kvPlaysSpec).preRow enc Try.prog Try.f5 Rows.kvPlaysRow.domain false Rows.kvPlaysRow.laid) (((OpenSpec.ofChange Rows.kvPlaysSpec).at F).post enc Try.prog Try.f5 false true false false) := by
  obtain ⟨places, hx⟩ := reads os enc
  refine returnsInHanded_of_row (C := Try.checked) (s := OpenSpec.ofChange Rows.kvPlaysSpec) own started (by kernel_rfl) Try.func5
    (witness_row_at (enc := enc) (C := Try.checked) false (laidWorld os) #[.slice none 0 0, .slice none 0 0] (by kernel_rfl) (by kernel_rfl) (by kernel_rfl) (by kernel_rfl)
      (OpenSpec.preRow_of_cond 8 hx (by kernel_rfl) (fun k hk => by cases hk) (by kernel_rfl) (laid_met os))) ?_
  intro W base args ds gs before hval hW _ _ hw hL _ _
  exact contract H enc W base args ds gs before hval hW hw
theorem closed : joinedFacts Try.prog 5 Try.f5 (OpenSpec.ofChange Rows.kvPlaysSpec).bare Rows.kvPlaysRow = true := by kernel_rfl
theorem said : Rows.KvPlaysSaid :=
  OpenClaim.holds_of_cond 5 Try.f5 rfl rfl rfl rfl rfl rfl rfl ⟨rfl, rfl, rfl, rfl, rfl⟩ rfl rfl rfl rfl rfl (by kernel_rfl) Try.func5 closed
    (of_decide_eq_true (by kernel_rfl)) (by unfold Func.isWrapper; rw [if_neg (by decide +kernel)]; exact ⟨rfl, rfl⟩)
    (fun os started H enc _ F => by rw [OpenClaim.pre_eq_preRow]; exact lifted os started H enc F)
end Go.Proofs.Ytjmjijgnbjkpnaa.kvPlays
