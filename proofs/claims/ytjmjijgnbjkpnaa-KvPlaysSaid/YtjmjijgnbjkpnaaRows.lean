/-
  No cell of these rows narrows 'for every input' (looked for: loops, veiled, ifaces, maps, wideKeys, modest, calm, conditions, laid).
  DERIVED. THE GIVEN ROWS OF THIS SEAT. 3 by the template 'for every input the law returns true; each argument reads behind the call as it read before'; 0 by the template 'total and deterministic' (their statements: YtjmjijgnbjkpnaaTotals.lean).
  GIVEN WITH THE SEED: the statements are not yours to turn. If you find one false, say at which input.
  Laid BY PROGRAM, IN A SANDBOX (cutbox-rows.mjs): the forced cells as the released guide's own fill.sh prints them over the translation 2bc7295f0b7256b8… (all of the seat's roots in one cut). By AI agents, Wed Nov 11 2026. No macro, syntax, notation, axiom, sorry.
-/
import Derived.Test.YtjmjijgnbjkpnaaChecked
import GoSem.Claim
import GoSem.ClaimJoined
import GoSem.ClaimMapViews
import Derived.JoinedTies
import Derived.KernelRfl
namespace Go.Proofs.Ytjmjijgnbjkpnaa
/- THE CELL 'sum', in the pinned program and in every row, IS THE sha256 OF THE DUMP (.gsa) THAT YtjmjijgnbjkpnaaProg.lean LOADS. Nothing in Lean hashes anything: it is a label: what it is worth is what the hold of that sum in a sandbox is worth. -/
noncomputable def Try.pinned : Pinned := { name := "ytjmjijgnbjkpnaa", sum := "2bc7295f0b7256b84fa54a110b509062af048c36c6f3cef5224150cc3d237db0", checked := Try.checked }
namespace Rows
def none {H : Type} : Left H := { results := [], args := [] }

/-- 'ferrymanlaw07.NodesCodes': WHATEVER THE INPUT: true; the input reads as it did. -/
def nodesCodesSpec : ChangeSpec := { name := "nodesCodes", fn := fun _ => fun
  | [d1, d2, d3, d4] => { results := [.lit (.bool true)], args := [d1, d2, d3, d4] }
  | _ => none }
def nodesCodesRow : OpenClaim := { program := "ytjmjijgnbjkpnaa", sum := "2bc7295f0b7256b84fa54a110b509062af048c36c6f3cef5224150cc3d237db0", func := "ferryman/ferrymanlaw07.NodesCodes", spec := "nodesCodes", unfollowed := true, recurses := true, apart := false }
def NodesCodesSaid : Prop := nodesCodesRow.holds Try.pinned (OpenSpec.ofChange nodesCodesSpec)

/-- ITS FALSE NEIGHBOUR: 'it returns false'. Refute it at one input. -/
def nodesCodesWrong : ChangeSpec := { name := "nodesCodes", fn := fun _ => fun
  | [d1, d2, d3, d4] => { results := [.lit (.bool false)], args := [d1, d2, d3, d4] }
  | _ => none }
def NodesCodesWrongFalsely : Prop := nodesCodesRow.holds Try.pinned (OpenSpec.ofChange nodesCodesWrong)

/-- 'ferrymanlaw07.NodesOne': WHATEVER THE INPUT: true; the input reads as it did. -/
def nodesOneSpec : ChangeSpec := { name := "nodesOne", fn := fun _ => fun
  | [d1, d2, d3, d4] => { results := [.lit (.bool true)], args := [d1, d2, d3, d4] }
  | _ => none }
def nodesOneRow : OpenClaim := { program := "ytjmjijgnbjkpnaa", sum := "2bc7295f0b7256b84fa54a110b509062af048c36c6f3cef5224150cc3d237db0", func := "ferryman/ferrymanlaw07.NodesOne", spec := "nodesOne", unfollowed := true, recurses := true, apart := false }
def NodesOneSaid : Prop := nodesOneRow.holds Try.pinned (OpenSpec.ofChange nodesOneSpec)

/-- ITS FALSE NEIGHBOUR: 'it returns false'. Refute it at one input. -/
def nodesOneWrong : ChangeSpec := { name := "nodesOne", fn := fun _ => fun
  | [d1, d2, d3, d4] => { results := [.lit (.bool false)], args := [d1, d2, d3, d4] }
  | _ => none }
def NodesOneWrongFalsely : Prop := nodesOneRow.holds Try.pinned (OpenSpec.ofChange nodesOneWrong)

/-- 'ferrymanlaw16.KvPlays': WHATEVER THE INPUT: true; the input reads as it did. -/
def kvPlaysSpec : ChangeSpec := { name := "kvPlays", fn := fun _ => fun
  | [d1, d2] => { results := [.lit (.bool true)], args := [d1, d2] }
  | _ => none }
def kvPlaysRow : OpenClaim := { program := "ytjmjijgnbjkpnaa", sum := "2bc7295f0b7256b84fa54a110b509062af048c36c6f3cef5224150cc3d237db0", func := "ferryman/ferrymanlaw16.KvPlays", spec := "kvPlays", inPlace := ["internal/bytealg.Compare", "slices.overlaps[ferryman/api.Pair]"], unfollowed := true, recurses := true, apart := false }
def KvPlaysSaid : Prop := kvPlaysRow.holds Try.pinned (OpenSpec.ofChange kvPlaysSpec)

/-- ITS FALSE NEIGHBOUR: 'it returns false'. Refute it at one input. -/
def kvPlaysWrong : ChangeSpec := { name := "kvPlays", fn := fun _ => fun
  | [d1, d2] => { results := [.lit (.bool false)], args := [d1, d2] }
  | _ => none }
def KvPlaysWrongFalsely : Prop := kvPlaysRow.holds Try.pinned (OpenSpec.ofChange kvPlaysWrong)

/- THE SECOND FORM. 'bulk': how many values and letters a reading holds, each counted each time it is reached (what is shared counts as often as it is met; a slice's spare places count too). A statement '..UptoSaid' is the law's where the arguments, and the package variables that the reading takes, are together of bulk at most 1048576: NARROWER than '..Said'. Prove '..Said' where nothing that the law and all that it calls make is longer than what came in: it says more and counts as full. Else prove '..UptoSaid'. A law counts once. -/
mutual
def uptoBulk {H : Type} : DataW H → Nat
  | .lit (.string bytes) => bytes.length + 1
  | .lit _ => 1
  | .nil => 1
  | .ptr d => uptoBulk d + 1
  | .slice elems spare => uptoBulkAll elems + uptoBulkAll spare + 1
  | .agg parts => uptoBulkAll parts + 1
  | .iface _ d => uptoBulk d + 1
  | .map entries => uptoBulkEntries entries + 1
  | .held _ => 1
def uptoBulkAll {H : Type} : List (DataW H) → Nat
  | [] => 0
  | d :: r => uptoBulk d + uptoBulkAll r
def uptoBulkEntries {H : Type} : List (Lit × DataW H) → Nat
  | [] => 0
  | x :: r => uptoBulkEntry x + uptoBulkEntries r
def uptoBulkEntry {H : Type} : Lit × DataW H → Nat
  | (.string bytes, d) => bytes.length + uptoBulk d + 1
  | (_, d) => uptoBulk d + 1
 end
def uptoSmall : (H : Type) → List (DataW H) → Bool := fun _ ds => decide (uptoBulkAll ds ≤ 1048576)
def OpenSpec.upto (s : _root_.Go.ChangeSpec) : _root_.Go.OpenSpec := { _root_.Go.OpenSpec.ofChange s with cond := some uptoSmall }

/-- 'ferrymanlaw07.NodesCodes', WHERE WHAT IT READS IS OF BULK AT MOST 1048576: true; the input reads as it did. -/
def nodesCodesUptoRow : OpenClaim := { program := "ytjmjijgnbjkpnaa", sum := "2bc7295f0b7256b84fa54a110b509062af048c36c6f3cef5224150cc3d237db0", func := "ferryman/ferrymanlaw07.NodesCodes", spec := "nodesCodes", unfollowed := true, recurses := true, apart := false, narrowed := true }
def NodesCodesUptoSaid : Prop := nodesCodesUptoRow.holds Try.pinned (OpenSpec.upto nodesCodesSpec)

/-- 'ferrymanlaw07.NodesOne', WHERE WHAT IT READS IS OF BULK AT MOST 1048576: true; the input reads as it did. -/
def nodesOneUptoRow : OpenClaim := { program := "ytjmjijgnbjkpnaa", sum := "2bc7295f0b7256b84fa54a110b509062af048c36c6f3cef5224150cc3d237db0", func := "ferryman/ferrymanlaw07.NodesOne", spec := "nodesOne", unfollowed := true, recurses := true, apart := false, narrowed := true }
def NodesOneUptoSaid : Prop := nodesOneUptoRow.holds Try.pinned (OpenSpec.upto nodesOneSpec)

/-- 'ferrymanlaw16.KvPlays', WHERE WHAT IT READS IS OF BULK AT MOST 1048576: true; the input reads as it did. -/
def kvPlaysUptoRow : OpenClaim := { program := "ytjmjijgnbjkpnaa", sum := "2bc7295f0b7256b84fa54a110b509062af048c36c6f3cef5224150cc3d237db0", func := "ferryman/ferrymanlaw16.KvPlays", spec := "kvPlays", inPlace := ["internal/bytealg.Compare", "slices.overlaps[ferryman/api.Pair]"], unfollowed := true, recurses := true, apart := false, narrowed := true }
def KvPlaysUptoSaid : Prop := kvPlaysUptoRow.holds Try.pinned (OpenSpec.upto kvPlaysSpec)

end Rows
end Go.Proofs.Ytjmjijgnbjkpnaa
