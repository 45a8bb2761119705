/-
  DERIVED. GIVEN WITH THE SEED: THE CARDS: each row of YtjmjijgnbjkpnaaDoorRows.lean that lists a variable, with what it lists TIED to the program's text (the seventh form; the later family's looks); each row that meets fmt, with fmt's text TOLD by the authors' own Lean function (tested against real Go, not proved from fmt's source: count such statements apart). THE CARD IS WHAT COUNTS. Prove the row's statement (the work); the ties are given (YtjmjijgnbjkpnaaDoorTie.lean); close each card by the builder's one call (the guide's Derived/Test/ToyasCard.lean, 'card_holds'). Laid BY PROGRAM, IN A SANDBOX (cutbox-door.mjs). By AI agents, Wed Nov 11 2026. No macro, syntax, notation, axiom, sorry.
-/
import Derived.Test.YtjmjijgnbjkpnaaDoorRows
import GoSem.ClaimSeven
namespace Go.Proofs.YtjmjijgnbjkpnaaDoor
namespace Rows

/-- THE TIED CARD OF 'ferrymanlaw06.EpochNil'. -/
def epochNilCard : Claim7 := { stood := { row := epochNilRow, standIns := [], harness := (true, "2393888b2b08c1220e00c12f7faa1aadeb2dd134de955235d6c433bff5f6fd5f"), looks := false }, kinds := [], alts := [], laidByText := true, laidKinds := [.data], laidTests := true, laidLooks := .later }
def EpochNilCardSaid : Prop := Claim7.holds Tryd.pinned (.plain (OpenSpec.ofChange epochNilSpec)) epochNilCard

/-- THE TIED CARD OF 'ferrymanlaw18.ChainApart'. -/
def chainApartCard : Claim7 := { stood := { row := chainApartRow, standIns := [], harness := (true, "2393888b2b08c1220e00c12f7faa1aadeb2dd134de955235d6c433bff5f6fd5f"), looks := false }, kinds := [], alts := [], laidByText := true, laidKinds := [.data, .data], laidTests := true, laidLooks := .later }
def ChainApartCardSaid : Prop := Claim7.holds Tryd.pinned (.plain (OpenSpec.ofChange chainApartSpec)) chainApartCard

/-- THE TIED CARD OF 'ferrymanlaw06.EpochPlays'. -/
def epochPlaysCard : Claim7 := { stood := { row := epochPlaysRow, standIns := [], harness := (true, "2393888b2b08c1220e00c12f7faa1aadeb2dd134de955235d6c433bff5f6fd5f"), looks := false }, kinds := [], alts := [], laidByText := true, laidKinds := [.data], laidTests := true, laidLooks := .later }
def EpochPlaysCardSaid : Prop := Claim7.holds Tryd.pinned (.plain (OpenSpec.ofChange epochPlaysSpec)) epochPlaysCard

/-- THE TIED CARD OF 'ferrymanlaw05.TreeWays'. -/
def treeWaysCard : Claim7 := { stood := { row := treeWaysRow, standIns := [], harness := (true, "2393888b2b08c1220e00c12f7faa1aadeb2dd134de955235d6c433bff5f6fd5f"), looks := false }, kinds := [], alts := [], laidByText := true, laidKinds := [.data, .data], laidTests := true, laidLooks := .later }
def TreeWaysCardSaid : Prop := Claim7.holds Tryd.pinned (.plain (OpenSpec.ofChange treeWaysSpec)) treeWaysCard

/-- THE TIED CARD OF 'ferrymanlaw05.TreeHigh'. -/
def treeHighCard : Claim7 := { stood := { row := treeHighRow, standIns := [], harness := (true, "2393888b2b08c1220e00c12f7faa1aadeb2dd134de955235d6c433bff5f6fd5f"), looks := false }, kinds := [], alts := [], laidByText := true, laidKinds := [.data], laidTests := true, laidLooks := .later }
def TreeHighCardSaid : Prop := Claim7.holds Tryd.pinned (.plain (OpenSpec.ofChange treeHighSpec)) treeHighCard

/-- THE TIED CARD OF 'ferrymanlaw06.EpochStays'. -/
def epochStaysCard : Claim7 := { stood := { row := epochStaysRow, standIns := [], harness := (true, "2393888b2b08c1220e00c12f7faa1aadeb2dd134de955235d6c433bff5f6fd5f"), looks := false }, kinds := [], alts := [], laidByText := true, laidKinds := [.data], laidTests := true, laidLooks := .later }
def EpochStaysCardSaid : Prop := Claim7.holds Tryd.pinned (.plain (OpenSpec.ofChange epochStaysSpec)) epochStaysCard

/-- THE TIED CARD OF 'ferrymanlaw05.TreeBalance'. -/
def treeBalanceCard : Claim7 := { stood := { row := treeBalanceRow, standIns := [], harness := (true, "2393888b2b08c1220e00c12f7faa1aadeb2dd134de955235d6c433bff5f6fd5f"), looks := false }, kinds := [], alts := [], laidByText := true, laidKinds := [.data], laidTests := true, laidLooks := .later }
def TreeBalanceCardSaid : Prop := Claim7.holds Tryd.pinned (.plain (OpenSpec.ofChange treeBalanceSpec)) treeBalanceCard

/-- THE TIED CARD OF 'ferrymanlaw18.ChainNil'. -/
def chainNilCard : Claim7 := { stood := { row := chainNilRow, standIns := [], harness := (true, "2393888b2b08c1220e00c12f7faa1aadeb2dd134de955235d6c433bff5f6fd5f"), looks := false }, kinds := [], alts := [], laidByText := true, laidKinds := [.data], laidTests := true, laidLooks := .later }
def ChainNilCardSaid : Prop := Claim7.holds Tryd.pinned (.plain (OpenSpec.ofChange chainNilSpec)) chainNilCard

/-- THE TIED CARD OF 'ferrymanlaw05.TreeCuts'. -/
def treeCutsCard : Claim7 := { stood := { row := treeCutsRow, standIns := [], harness := (true, "2393888b2b08c1220e00c12f7faa1aadeb2dd134de955235d6c433bff5f6fd5f"), looks := false }, kinds := [], alts := [], laidByText := true, laidKinds := [.data], laidTests := true, laidLooks := .later }
def TreeCutsCardSaid : Prop := Claim7.holds Tryd.pinned (.plain (OpenSpec.ofChange treeCutsSpec)) treeCutsCard

/-- THE TIED CARD OF 'ferrymanlaw05.TreePlays'. -/
def treePlaysCard : Claim7 := { stood := { row := treePlaysRow, standIns := [], harness := (true, "2393888b2b08c1220e00c12f7faa1aadeb2dd134de955235d6c433bff5f6fd5f"), looks := false }, kinds := [], alts := [], laidByText := true, laidKinds := [.data, .data], laidTests := true, laidLooks := .later }
def TreePlaysCardSaid : Prop := Claim7.holds Tryd.pinned (.plain (OpenSpec.ofChange treePlaysSpec)) treePlaysCard

/-- THE TIED CARD OF 'ferrymanlaw05.TreeStays'. -/
def treeStaysCard : Claim7 := { stood := { row := treeStaysRow, standIns := [], harness := (true, "2393888b2b08c1220e00c12f7faa1aadeb2dd134de955235d6c433bff5f6fd5f"), looks := false }, kinds := [], alts := [], laidByText := true, laidKinds := [.data], laidTests := true, laidLooks := .later }
def TreeStaysCardSaid : Prop := Claim7.holds Tryd.pinned (.plain (OpenSpec.ofChange treeStaysSpec)) treeStaysCard

/-- THE TIED CARD OF 'ferrymanlaw05.TreeNil'. -/
def treeNilCard : Claim7 := { stood := { row := treeNilRow, standIns := [], harness := (true, "2393888b2b08c1220e00c12f7faa1aadeb2dd134de955235d6c433bff5f6fd5f"), looks := false }, kinds := [], alts := [], laidByText := true, laidKinds := [.data], laidTests := true, laidLooks := .later }
def TreeNilCardSaid : Prop := Claim7.holds Tryd.pinned (.plain (OpenSpec.ofChange treeNilSpec)) treeNilCard

/-- THE TIED CARD OF 'ferrymanlaw07.NodesFew'. -/
def nodesFewCard : Claim7 := { stood := { row := nodesFewRow, standIns := [], harness := (true, "2393888b2b08c1220e00c12f7faa1aadeb2dd134de955235d6c433bff5f6fd5f"), looks := false }, kinds := [], alts := [], laidByText := true, laidKinds := [.data], laidTests := true, laidLooks := .later }
def NodesFewCardSaid : Prop := Claim7.holds Tryd.pinned (.plain (OpenSpec.ofChange nodesFewSpec)) nodesFewCard

/-- THE TIED CARD OF 'ferrymanlaw18.ChainFollows'. -/
def chainFollowsCard : Claim7 := { stood := { row := chainFollowsRow, standIns := [], harness := (true, "2393888b2b08c1220e00c12f7faa1aadeb2dd134de955235d6c433bff5f6fd5f"), looks := false }, kinds := [], alts := [], laidByText := true, laidKinds := [.data], laidTests := true, laidLooks := .later }
def ChainFollowsCardSaid : Prop := Claim7.holds Tryd.pinned (.plain (OpenSpec.ofChange chainFollowsSpec)) chainFollowsCard

/-- THE TIED CARD OF 'ferrymanlaw18.ChainStays'. -/
def chainStaysCard : Claim7 := { stood := { row := chainStaysRow, standIns := [], harness := (true, "2393888b2b08c1220e00c12f7faa1aadeb2dd134de955235d6c433bff5f6fd5f"), looks := false }, kinds := [], alts := [], laidByText := true, laidKinds := [.data], laidTests := true, laidLooks := .later }
def ChainStaysCardSaid : Prop := Claim7.holds Tryd.pinned (.plain (OpenSpec.ofChange chainStaysSpec)) chainStaysCard

/-- THE TIED CARD OF 'ferrymanlaw16.KvParts'. -/
def kvPartsCard : Claim7 := { stood := { row := kvPartsRow, standIns := [], harness := (true, "2393888b2b08c1220e00c12f7faa1aadeb2dd134de955235d6c433bff5f6fd5f"), looks := false }, kinds := [], alts := [], laidByText := true, laidKinds := [.data], laidTests := true, laidLooks := .later }
def KvPartsCardSaid : Prop := Claim7.holds Tryd.pinned (.plain (OpenSpec.ofChange kvPartsSpec)) kvPartsCard

/-- THE TIED CARD OF 'ferrymanlaw16.KvTree'. -/
def kvTreeCard : Claim7 := { stood := { row := kvTreeRow, standIns := [], harness := (true, "2393888b2b08c1220e00c12f7faa1aadeb2dd134de955235d6c433bff5f6fd5f"), looks := false }, kinds := [], alts := [], laidByText := true, laidKinds := [.data, .data], laidTests := true, laidLooks := .later }
def KvTreeCardSaid : Prop := Claim7.holds Tryd.pinned (.plain (OpenSpec.ofChange kvTreeSpec)) kvTreeCard

/-- THE TIED CARD OF 'ferrymanlaw16.KvNil'. -/
def kvNilCard : Claim7 := { stood := { row := kvNilRow, standIns := [], harness := (true, "2393888b2b08c1220e00c12f7faa1aadeb2dd134de955235d6c433bff5f6fd5f"), looks := false }, kinds := [], alts := [], laidByText := true, laidKinds := [.data], laidTests := true, laidLooks := .later }
def KvNilCardSaid : Prop := Claim7.holds Tryd.pinned (.plain (OpenSpec.ofChange kvNilSpec)) kvNilCard

/-- THE TIED CARD OF 'ferrymanlaw18.ChainPlays'. -/
def chainPlaysCard : Claim7 := { stood := { row := chainPlaysRow, standIns := [], harness := (true, "2393888b2b08c1220e00c12f7faa1aadeb2dd134de955235d6c433bff5f6fd5f"), looks := false }, kinds := [], alts := [], laidByText := true, laidKinds := [.data, .data], laidTests := true, laidLooks := .later }
def ChainPlaysCardSaid : Prop := Claim7.holds Tryd.pinned (.plain (OpenSpec.ofChange chainPlaysSpec)) chainPlaysCard

/-- THE TIED CARD OF 'ferrymanlaw07.NodesNil'. -/
def nodesNilCard : Claim7 := { stood := { row := nodesNilRow, standIns := [], harness := (true, "2393888b2b08c1220e00c12f7faa1aadeb2dd134de955235d6c433bff5f6fd5f"), looks := false }, kinds := [], alts := [], laidByText := true, laidKinds := [.data, .data], laidTests := true, laidLooks := .later }
def NodesNilCardSaid : Prop := Claim7.holds Tryd.pinned (.plain (OpenSpec.ofChange nodesNilSpec)) nodesNilCard

/-- THE TIED CARD OF 'ferrymanlaw16.KvSame'. -/
def kvSameCard : Claim7 := { stood := { row := kvSameRow, standIns := [], harness := (true, "2393888b2b08c1220e00c12f7faa1aadeb2dd134de955235d6c433bff5f6fd5f"), looks := false }, kinds := [], alts := [], laidByText := true, laidKinds := [.data], laidTests := true, laidLooks := .later }
def KvSameCardSaid : Prop := Claim7.holds Tryd.pinned (.plain (OpenSpec.ofChange kvSameSpec)) kvSameCard

/-- THE SECOND FORM's CARD OF 'ferrymanlaw06.EpochNil'. -/
def epochNilUptoCard : Claim7 := { stood := { row := epochNilUptoRow, standIns := [], harness := (true, "2393888b2b08c1220e00c12f7faa1aadeb2dd134de955235d6c433bff5f6fd5f"), looks := false }, kinds := [], alts := [], laidByText := true, laidKinds := [.data], laidTests := true, laidLooks := .later }
def EpochNilUptoCardSaid : Prop := Claim7.holds Tryd.pinned (.plain (OpenSpec.upto epochNilSpec)) epochNilUptoCard

/-- THE SECOND FORM's CARD OF 'ferrymanlaw18.ChainApart'. -/
def chainApartUptoCard : Claim7 := { stood := { row := chainApartUptoRow, standIns := [], harness := (true, "2393888b2b08c1220e00c12f7faa1aadeb2dd134de955235d6c433bff5f6fd5f"), looks := false }, kinds := [], alts := [], laidByText := true, laidKinds := [.data, .data], laidTests := true, laidLooks := .later }
def ChainApartUptoCardSaid : Prop := Claim7.holds Tryd.pinned (.plain (OpenSpec.upto chainApartSpec)) chainApartUptoCard

/-- THE SECOND FORM's CARD OF 'ferrymanlaw06.EpochPlays'. -/
def epochPlaysUptoCard : Claim7 := { stood := { row := epochPlaysUptoRow, standIns := [], harness := (true, "2393888b2b08c1220e00c12f7faa1aadeb2dd134de955235d6c433bff5f6fd5f"), looks := false }, kinds := [], alts := [], laidByText := true, laidKinds := [.data], laidTests := true, laidLooks := .later }
def EpochPlaysUptoCardSaid : Prop := Claim7.holds Tryd.pinned (.plain (OpenSpec.upto epochPlaysSpec)) epochPlaysUptoCard

/-- THE SECOND FORM's CARD OF 'ferrymanlaw05.TreeWays'. -/
def treeWaysUptoCard : Claim7 := { stood := { row := treeWaysUptoRow, standIns := [], harness := (true, "2393888b2b08c1220e00c12f7faa1aadeb2dd134de955235d6c433bff5f6fd5f"), looks := false }, kinds := [], alts := [], laidByText := true, laidKinds := [.data, .data], laidTests := true, laidLooks := .later }
def TreeWaysUptoCardSaid : Prop := Claim7.holds Tryd.pinned (.plain (OpenSpec.upto treeWaysSpec)) treeWaysUptoCard

/-- THE SECOND FORM's CARD OF 'ferrymanlaw05.TreeHigh'. -/
def treeHighUptoCard : Claim7 := { stood := { row := treeHighUptoRow, standIns := [], harness := (true, "2393888b2b08c1220e00c12f7faa1aadeb2dd134de955235d6c433bff5f6fd5f"), looks := false }, kinds := [], alts := [], laidByText := true, laidKinds := [.data], laidTests := true, laidLooks := .later }
def TreeHighUptoCardSaid : Prop := Claim7.holds Tryd.pinned (.plain (OpenSpec.upto treeHighSpec)) treeHighUptoCard

/-- THE SECOND FORM's CARD OF 'ferrymanlaw06.EpochStays'. -/
def epochStaysUptoCard : Claim7 := { stood := { row := epochStaysUptoRow, standIns := [], harness := (true, "2393888b2b08c1220e00c12f7faa1aadeb2dd134de955235d6c433bff5f6fd5f"), looks := false }, kinds := [], alts := [], laidByText := true, laidKinds := [.data], laidTests := true, laidLooks := .later }
def EpochStaysUptoCardSaid : Prop := Claim7.holds Tryd.pinned (.plain (OpenSpec.upto epochStaysSpec)) epochStaysUptoCard

/-- THE SECOND FORM's CARD OF 'ferrymanlaw05.TreeBalance'. -/
def treeBalanceUptoCard : Claim7 := { stood := { row := treeBalanceUptoRow, standIns := [], harness := (true, "2393888b2b08c1220e00c12f7faa1aadeb2dd134de955235d6c433bff5f6fd5f"), looks := false }, kinds := [], alts := [], laidByText := true, laidKinds := [.data], laidTests := true, laidLooks := .later }
def TreeBalanceUptoCardSaid : Prop := Claim7.holds Tryd.pinned (.plain (OpenSpec.upto treeBalanceSpec)) treeBalanceUptoCard

/-- THE SECOND FORM's CARD OF 'ferrymanlaw18.ChainNil'. -/
def chainNilUptoCard : Claim7 := { stood := { row := chainNilUptoRow, standIns := [], harness := (true, "2393888b2b08c1220e00c12f7faa1aadeb2dd134de955235d6c433bff5f6fd5f"), looks := false }, kinds := [], alts := [], laidByText := true, laidKinds := [.data], laidTests := true, laidLooks := .later }
def ChainNilUptoCardSaid : Prop := Claim7.holds Tryd.pinned (.plain (OpenSpec.upto chainNilSpec)) chainNilUptoCard

/-- THE SECOND FORM's CARD OF 'ferrymanlaw05.TreeCuts'. -/
def treeCutsUptoCard : Claim7 := { stood := { row := treeCutsUptoRow, standIns := [], harness := (true, "2393888b2b08c1220e00c12f7faa1aadeb2dd134de955235d6c433bff5f6fd5f"), looks := false }, kinds := [], alts := [], laidByText := true, laidKinds := [.data], laidTests := true, laidLooks := .later }
def TreeCutsUptoCardSaid : Prop := Claim7.holds Tryd.pinned (.plain (OpenSpec.upto treeCutsSpec)) treeCutsUptoCard

/-- THE SECOND FORM's CARD OF 'ferrymanlaw05.TreePlays'. -/
def treePlaysUptoCard : Claim7 := { stood := { row := treePlaysUptoRow, standIns := [], harness := (true, "2393888b2b08c1220e00c12f7faa1aadeb2dd134de955235d6c433bff5f6fd5f"), looks := false }, kinds := [], alts := [], laidByText := true, laidKinds := [.data, .data], laidTests := true, laidLooks := .later }
def TreePlaysUptoCardSaid : Prop := Claim7.holds Tryd.pinned (.plain (OpenSpec.upto treePlaysSpec)) treePlaysUptoCard

/-- THE SECOND FORM's CARD OF 'ferrymanlaw05.TreeStays'. -/
def treeStaysUptoCard : Claim7 := { stood := { row := treeStaysUptoRow, standIns := [], harness := (true, "2393888b2b08c1220e00c12f7faa1aadeb2dd134de955235d6c433bff5f6fd5f"), looks := false }, kinds := [], alts := [], laidByText := true, laidKinds := [.data], laidTests := true, laidLooks := .later }
def TreeStaysUptoCardSaid : Prop := Claim7.holds Tryd.pinned (.plain (OpenSpec.upto treeStaysSpec)) treeStaysUptoCard

/-- THE SECOND FORM's CARD OF 'ferrymanlaw05.TreeNil'. -/
def treeNilUptoCard : Claim7 := { stood := { row := treeNilUptoRow, standIns := [], harness := (true, "2393888b2b08c1220e00c12f7faa1aadeb2dd134de955235d6c433bff5f6fd5f"), looks := false }, kinds := [], alts := [], laidByText := true, laidKinds := [.data], laidTests := true, laidLooks := .later }
def TreeNilUptoCardSaid : Prop := Claim7.holds Tryd.pinned (.plain (OpenSpec.upto treeNilSpec)) treeNilUptoCard

/-- THE SECOND FORM's CARD OF 'ferrymanlaw07.NodesFew'. -/
def nodesFewUptoCard : Claim7 := { stood := { row := nodesFewUptoRow, standIns := [], harness := (true, "2393888b2b08c1220e00c12f7faa1aadeb2dd134de955235d6c433bff5f6fd5f"), looks := false }, kinds := [], alts := [], laidByText := true, laidKinds := [.data], laidTests := true, laidLooks := .later }
def NodesFewUptoCardSaid : Prop := Claim7.holds Tryd.pinned (.plain (OpenSpec.upto nodesFewSpec)) nodesFewUptoCard

/-- THE SECOND FORM's CARD OF 'ferrymanlaw18.ChainFollows'. -/
def chainFollowsUptoCard : Claim7 := { stood := { row := chainFollowsUptoRow, standIns := [], harness := (true, "2393888b2b08c1220e00c12f7faa1aadeb2dd134de955235d6c433bff5f6fd5f"), looks := false }, kinds := [], alts := [], laidByText := true, laidKinds := [.data], laidTests := true, laidLooks := .later }
def ChainFollowsUptoCardSaid : Prop := Claim7.holds Tryd.pinned (.plain (OpenSpec.upto chainFollowsSpec)) chainFollowsUptoCard

/-- THE SECOND FORM's CARD OF 'ferrymanlaw18.ChainStays'. -/
def chainStaysUptoCard : Claim7 := { stood := { row := chainStaysUptoRow, standIns := [], harness := (true, "2393888b2b08c1220e00c12f7faa1aadeb2dd134de955235d6c433bff5f6fd5f"), looks := false }, kinds := [], alts := [], laidByText := true, laidKinds := [.data], laidTests := true, laidLooks := .later }
def ChainStaysUptoCardSaid : Prop := Claim7.holds Tryd.pinned (.plain (OpenSpec.upto chainStaysSpec)) chainStaysUptoCard

/-- THE SECOND FORM's CARD OF 'ferrymanlaw16.KvParts'. -/
def kvPartsUptoCard : Claim7 := { stood := { row := kvPartsUptoRow, standIns := [], harness := (true, "2393888b2b08c1220e00c12f7faa1aadeb2dd134de955235d6c433bff5f6fd5f"), looks := false }, kinds := [], alts := [], laidByText := true, laidKinds := [.data], laidTests := true, laidLooks := .later }
def KvPartsUptoCardSaid : Prop := Claim7.holds Tryd.pinned (.plain (OpenSpec.upto kvPartsSpec)) kvPartsUptoCard

/-- THE SECOND FORM's CARD OF 'ferrymanlaw16.KvTree'. -/
def kvTreeUptoCard : Claim7 := { stood := { row := kvTreeUptoRow, standIns := [], harness := (true, "2393888b2b08c1220e00c12f7faa1aadeb2dd134de955235d6c433bff5f6fd5f"), looks := false }, kinds := [], alts := [], laidByText := true, laidKinds := [.data, .data], laidTests := true, laidLooks := .later }
def KvTreeUptoCardSaid : Prop := Claim7.holds Tryd.pinned (.plain (OpenSpec.upto kvTreeSpec)) kvTreeUptoCard

/-- THE SECOND FORM's CARD OF 'ferrymanlaw16.KvNil'. -/
def kvNilUptoCard : Claim7 := { stood := { row := kvNilUptoRow, standIns := [], harness := (true, "2393888b2b08c1220e00c12f7faa1aadeb2dd134de955235d6c433bff5f6fd5f"), looks := false }, kinds := [], alts := [], laidByText := true, laidKinds := [.data], laidTests := true, laidLooks := .later }
def KvNilUptoCardSaid : Prop := Claim7.holds Tryd.pinned (.plain (OpenSpec.upto kvNilSpec)) kvNilUptoCard

/-- THE SECOND FORM's CARD OF 'ferrymanlaw18.ChainPlays'. -/
def chainPlaysUptoCard : Claim7 := { stood := { row := chainPlaysUptoRow, standIns := [], harness := (true, "2393888b2b08c1220e00c12f7faa1aadeb2dd134de955235d6c433bff5f6fd5f"), looks := false }, kinds := [], alts := [], laidByText := true, laidKinds := [.data, .data], laidTests := true, laidLooks := .later }
def ChainPlaysUptoCardSaid : Prop := Claim7.holds Tryd.pinned (.plain (OpenSpec.upto chainPlaysSpec)) chainPlaysUptoCard

/-- THE SECOND FORM's CARD OF 'ferrymanlaw07.NodesNil'. -/
def nodesNilUptoCard : Claim7 := { stood := { row := nodesNilUptoRow, standIns := [], harness := (true, "2393888b2b08c1220e00c12f7faa1aadeb2dd134de955235d6c433bff5f6fd5f"), looks := false }, kinds := [], alts := [], laidByText := true, laidKinds := [.data, .data], laidTests := true, laidLooks := .later }
def NodesNilUptoCardSaid : Prop := Claim7.holds Tryd.pinned (.plain (OpenSpec.upto nodesNilSpec)) nodesNilUptoCard

/-- THE SECOND FORM's CARD OF 'ferrymanlaw16.KvSame'. -/
def kvSameUptoCard : Claim7 := { stood := { row := kvSameUptoRow, standIns := [], harness := (true, "2393888b2b08c1220e00c12f7faa1aadeb2dd134de955235d6c433bff5f6fd5f"), looks := false }, kinds := [], alts := [], laidByText := true, laidKinds := [.data], laidTests := true, laidLooks := .later }
def KvSameUptoCardSaid : Prop := Claim7.holds Tryd.pinned (.plain (OpenSpec.upto kvSameSpec)) kvSameUptoCard
end Rows
end Go.Proofs.YtjmjijgnbjkpnaaDoor
