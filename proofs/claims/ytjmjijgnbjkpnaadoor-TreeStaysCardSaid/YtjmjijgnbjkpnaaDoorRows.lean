/-
  NARROWER THAN 'FOR EVERY INPUT', by the rows' own cells (each row's printed sentence says how): EpochNil: laid · ChainApart: laid · EpochPlays: laid · TreeWays: laid · TreeHigh: laid · EpochStays: laid · TreeBalance: laid · ChainNil: laid · TreeCuts: laid · TreePlays: laid · TreeStays: laid · TreeNil: laid · NodesFew: laid · ChainFollows: laid · ChainStays: laid · KvParts: laid · KvTree: laid · KvNil: laid · ChainPlays: laid · NodesNil: laid · KvSame: laid.
  DERIVED. THE GIVEN ROWS OF THIS SEAT. 21 by the template 'for every input the law returns true; each argument reads behind the call as it read before'; 0 by the template 'total and deterministic' (their statements: YtjmjijgnbjkpnaaDoorTotals.lean).
  GIVEN WITH THE SEED: the statements are not yours to turn. If you find one false, say at which input.
  Laid BY PROGRAM, IN A SANDBOX (cutbox-rows.mjs): the forced cells as the released guide's own fill.sh prints them over the translation 4184d06cafdf095e… (all of the seat's roots in one cut). By AI agents, Wed Nov 11 2026. No macro, syntax, notation, axiom, sorry.
-/
import Derived.Test.YtjmjijgnbjkpnaaDoorChecked
import GoSem.Claim
import GoSem.ClaimJoined
import GoSem.ClaimMapViews
import Derived.JoinedTies
import Derived.KernelRfl
namespace Go.Proofs.YtjmjijgnbjkpnaaDoor
/- THE CELL 'sum', in the pinned program and in every row, IS THE sha256 OF THE DUMP (.gsa) THAT YtjmjijgnbjkpnaaDoorProg.lean LOADS. Nothing in Lean hashes anything: it is a label: what it is worth is what the hold of that sum in a sandbox is worth. -/
noncomputable def Tryd.pinned : Pinned := { name := "ytjmjijgnbjkpnaadoor", sum := "4184d06cafdf095e8c2d67fa987201ba31a2f079d19cbd276625bd2448811d6e", checked := Tryd.checked }
namespace Rows
def none {H : Type} : Left H := { results := [], args := [] }

/- WHAT THE LISTED PACKAGE-LEVEL VARIABLES READ AS WHEN THE CALL BEGINS. Each datum BY PROGRAM (the guide's laid-datum.mjs) off the statement by which the dump's own 'gosem.cut.vars' lays the variable. In a bare row this is a premise. The card (YtjmjijgnbjkpnaaDoorCards.lean) ties it to the program's text. -/
def laid_ferryman_sha_words {H : Type} : DataW H := .agg [.lit (.int .u32 1116352408), .lit (.int .u32 1899447441), .lit (.int .u32 3049323471), .lit (.int .u32 3921009573), .lit (.int .u32 961987163), .lit (.int .u32 1508970993), .lit (.int .u32 2453635748), .lit (.int .u32 2870763221), .lit (.int .u32 3624381080), .lit (.int .u32 310598401), .lit (.int .u32 607225278), .lit (.int .u32 1426881987), .lit (.int .u32 1925078388), .lit (.int .u32 2162078206), .lit (.int .u32 2614888103), .lit (.int .u32 3248222580), .lit (.int .u32 3835390401), .lit (.int .u32 4022224774), .lit (.int .u32 264347078), .lit (.int .u32 604807628), .lit (.int .u32 770255983), .lit (.int .u32 1249150122), .lit (.int .u32 1555081692), .lit (.int .u32 1996064986), .lit (.int .u32 2554220882), .lit (.int .u32 2821834349), .lit (.int .u32 2952996808), .lit (.int .u32 3210313671), .lit (.int .u32 3336571891), .lit (.int .u32 3584528711), .lit (.int .u32 113926993), .lit (.int .u32 338241895), .lit (.int .u32 666307205), .lit (.int .u32 773529912), .lit (.int .u32 1294757372), .lit (.int .u32 1396182291), .lit (.int .u32 1695183700), .lit (.int .u32 1986661051), .lit (.int .u32 2177026350), .lit (.int .u32 2456956037), .lit (.int .u32 2730485921), .lit (.int .u32 2820302411), .lit (.int .u32 3259730800), .lit (.int .u32 3345764771), .lit (.int .u32 3516065817), .lit (.int .u32 3600352804), .lit (.int .u32 4094571909), .lit (.int .u32 275423344), .lit (.int .u32 430227734), .lit (.int .u32 506948616), .lit (.int .u32 659060556), .lit (.int .u32 883997877), .lit (.int .u32 958139571), .lit (.int .u32 1322822218), .lit (.int .u32 1537002063), .lit (.int .u32 1747873779), .lit (.int .u32 1955562222), .lit (.int .u32 2024104815), .lit (.int .u32 2227730452), .lit (.int .u32 2361852424), .lit (.int .u32 2428436474), .lit (.int .u32 2756734187), .lit (.int .u32 3204031479), .lit (.int .u32 3329325298)]
def laid_ferryman_ferrymanref01_roots {H : Type} : DataW H := .agg [.lit (.int .u32 1116352408), .lit (.int .u32 1899447441), .lit (.int .u32 3049323471), .lit (.int .u32 3921009573), .lit (.int .u32 961987163), .lit (.int .u32 1508970993), .lit (.int .u32 2453635748), .lit (.int .u32 2870763221), .lit (.int .u32 3624381080), .lit (.int .u32 310598401), .lit (.int .u32 607225278), .lit (.int .u32 1426881987), .lit (.int .u32 1925078388), .lit (.int .u32 2162078206), .lit (.int .u32 2614888103), .lit (.int .u32 3248222580), .lit (.int .u32 3835390401), .lit (.int .u32 4022224774), .lit (.int .u32 264347078), .lit (.int .u32 604807628), .lit (.int .u32 770255983), .lit (.int .u32 1249150122), .lit (.int .u32 1555081692), .lit (.int .u32 1996064986), .lit (.int .u32 2554220882), .lit (.int .u32 2821834349), .lit (.int .u32 2952996808), .lit (.int .u32 3210313671), .lit (.int .u32 3336571891), .lit (.int .u32 3584528711), .lit (.int .u32 113926993), .lit (.int .u32 338241895), .lit (.int .u32 666307205), .lit (.int .u32 773529912), .lit (.int .u32 1294757372), .lit (.int .u32 1396182291), .lit (.int .u32 1695183700), .lit (.int .u32 1986661051), .lit (.int .u32 2177026350), .lit (.int .u32 2456956037), .lit (.int .u32 2730485921), .lit (.int .u32 2820302411), .lit (.int .u32 3259730800), .lit (.int .u32 3345764771), .lit (.int .u32 3516065817), .lit (.int .u32 3600352804), .lit (.int .u32 4094571909), .lit (.int .u32 275423344), .lit (.int .u32 430227734), .lit (.int .u32 506948616), .lit (.int .u32 659060556), .lit (.int .u32 883997877), .lit (.int .u32 958139571), .lit (.int .u32 1322822218), .lit (.int .u32 1537002063), .lit (.int .u32 1747873779), .lit (.int .u32 1955562222), .lit (.int .u32 2024104815), .lit (.int .u32 2227730452), .lit (.int .u32 2361852424), .lit (.int .u32 2428436474), .lit (.int .u32 2756734187), .lit (.int .u32 3204031479), .lit (.int .u32 3329325298)]

/-- 'ferrymanlaw06.EpochNil': WHATEVER THE INPUT: true; the input reads as it did. -/
def epochNilSpec : ChangeSpec := { name := "epochNil", fn := fun _ => fun
  | [d1, d2] => { results := [.lit (.bool true)], args := [d1, d2] }
  | _ => none }
def epochNilRow : OpenClaim := { program := "ytjmjijgnbjkpnaadoor", sum := "4184d06cafdf095e8c2d67fa987201ba31a2f079d19cbd276625bd2448811d6e", func := "ferryman/ferrymanlaw06.EpochNil", spec := "epochNil", named := ["ferryman/sha.words"], plainKeys := false, apart := false, laid := [("ferryman/sha.words", laid_ferryman_sha_words)] }
def EpochNilSaid : Prop := epochNilRow.holds Tryd.pinned (OpenSpec.ofChange epochNilSpec)

/-- ITS FALSE NEIGHBOUR: 'it returns false'. Refute it at one input. -/
def epochNilWrong : ChangeSpec := { name := "epochNil", fn := fun _ => fun
  | [d1, d2] => { results := [.lit (.bool false)], args := [d1, d2] }
  | _ => none }
def EpochNilWrongFalsely : Prop := epochNilRow.holds Tryd.pinned (OpenSpec.ofChange epochNilWrong)

/-- 'ferrymanlaw18.ChainApart': WHATEVER THE INPUT: true; the input reads as it did. -/
def chainApartSpec : ChangeSpec := { name := "chainApart", fn := fun _ => fun
  | [d1, d2, d3, d4] => { results := [.lit (.bool true)], args := [d1, d2, d3, d4] }
  | _ => none }
def chainApartRow : OpenClaim := { program := "ytjmjijgnbjkpnaadoor", sum := "4184d06cafdf095e8c2d67fa987201ba31a2f079d19cbd276625bd2448811d6e", func := "ferryman/ferrymanlaw18.ChainApart", spec := "chainApart", named := ["ferryman/sha.words", "ferryman/ferrymanref01.roots"], plainKeys := false, apart := false, laid := [("ferryman/ferrymanref01.roots", laid_ferryman_ferrymanref01_roots), ("ferryman/sha.words", laid_ferryman_sha_words)] }
def ChainApartSaid : Prop := chainApartRow.holds Tryd.pinned (OpenSpec.ofChange chainApartSpec)

/-- ITS FALSE NEIGHBOUR: 'it returns false'. Refute it at one input. -/
def chainApartWrong : ChangeSpec := { name := "chainApart", fn := fun _ => fun
  | [d1, d2, d3, d4] => { results := [.lit (.bool false)], args := [d1, d2, d3, d4] }
  | _ => none }
def ChainApartWrongFalsely : Prop := chainApartRow.holds Tryd.pinned (OpenSpec.ofChange chainApartWrong)

/-- 'ferrymanlaw06.EpochPlays': WHATEVER THE INPUT: true; the input reads as it did. -/
def epochPlaysSpec : ChangeSpec := { name := "epochPlays", fn := fun _ => fun
  | [d1, d2] => { results := [.lit (.bool true)], args := [d1, d2] }
  | _ => none }
def epochPlaysRow : OpenClaim := { program := "ytjmjijgnbjkpnaadoor", sum := "4184d06cafdf095e8c2d67fa987201ba31a2f079d19cbd276625bd2448811d6e", func := "ferryman/ferrymanlaw06.EpochPlays", spec := "epochPlays", inPlace := ["internal/bytealg.Compare"], recurses := true, named := ["ferryman/sha.words"], plainKeys := false, apart := false, laid := [("ferryman/sha.words", laid_ferryman_sha_words)] }
def EpochPlaysSaid : Prop := epochPlaysRow.holds Tryd.pinned (OpenSpec.ofChange epochPlaysSpec)

/-- ITS FALSE NEIGHBOUR: 'it returns false'. Refute it at one input. -/
def epochPlaysWrong : ChangeSpec := { name := "epochPlays", fn := fun _ => fun
  | [d1, d2] => { results := [.lit (.bool false)], args := [d1, d2] }
  | _ => none }
def EpochPlaysWrongFalsely : Prop := epochPlaysRow.holds Tryd.pinned (OpenSpec.ofChange epochPlaysWrong)

/-- 'ferrymanlaw05.TreeWays': WHATEVER THE INPUT: true; the input reads as it did. -/
def treeWaysSpec : ChangeSpec := { name := "treeWays", fn := fun _ => fun
  | [d1, d2] => { results := [.lit (.bool true)], args := [d1, d2] }
  | _ => none }
def treeWaysRow : OpenClaim := { program := "ytjmjijgnbjkpnaadoor", sum := "4184d06cafdf095e8c2d67fa987201ba31a2f079d19cbd276625bd2448811d6e", func := "ferryman/ferrymanlaw05.TreeWays", spec := "treeWays", inPlace := ["internal/bytealg.Compare"], recurses := true, named := ["ferryman/sha.words", "ferryman/ferrymanref01.roots"], plainKeys := false, apart := false, laid := [("ferryman/ferrymanref01.roots", laid_ferryman_ferrymanref01_roots), ("ferryman/sha.words", laid_ferryman_sha_words)] }
def TreeWaysSaid : Prop := treeWaysRow.holds Tryd.pinned (OpenSpec.ofChange treeWaysSpec)

/-- ITS FALSE NEIGHBOUR: 'it returns false'. Refute it at one input. -/
def treeWaysWrong : ChangeSpec := { name := "treeWays", fn := fun _ => fun
  | [d1, d2] => { results := [.lit (.bool false)], args := [d1, d2] }
  | _ => none }
def TreeWaysWrongFalsely : Prop := treeWaysRow.holds Tryd.pinned (OpenSpec.ofChange treeWaysWrong)

/-- 'ferrymanlaw05.TreeHigh': WHATEVER THE INPUT: true; the input reads as it did. -/
def treeHighSpec : ChangeSpec := { name := "treeHigh", fn := fun _ => fun
  | [d] => { results := [.lit (.bool true)], args := [d] }
  | _ => none }
def treeHighRow : OpenClaim := { program := "ytjmjijgnbjkpnaadoor", sum := "4184d06cafdf095e8c2d67fa987201ba31a2f079d19cbd276625bd2448811d6e", func := "ferryman/ferrymanlaw05.TreeHigh", spec := "treeHigh", inPlace := ["internal/bytealg.Compare"], recurses := true, named := ["ferryman/sha.words"], plainKeys := false, apart := false, laid := [("ferryman/sha.words", laid_ferryman_sha_words)] }
def TreeHighSaid : Prop := treeHighRow.holds Tryd.pinned (OpenSpec.ofChange treeHighSpec)

/-- ITS FALSE NEIGHBOUR: 'it returns false'. Refute it at one input. -/
def treeHighWrong : ChangeSpec := { name := "treeHigh", fn := fun _ => fun
  | [d] => { results := [.lit (.bool false)], args := [d] }
  | _ => none }
def TreeHighWrongFalsely : Prop := treeHighRow.holds Tryd.pinned (OpenSpec.ofChange treeHighWrong)

/-- 'ferrymanlaw06.EpochStays': WHATEVER THE INPUT: true; the input reads as it did. -/
def epochStaysSpec : ChangeSpec := { name := "epochStays", fn := fun _ => fun
  | [d1, d2] => { results := [.lit (.bool true)], args := [d1, d2] }
  | _ => none }
def epochStaysRow : OpenClaim := { program := "ytjmjijgnbjkpnaadoor", sum := "4184d06cafdf095e8c2d67fa987201ba31a2f079d19cbd276625bd2448811d6e", func := "ferryman/ferrymanlaw06.EpochStays", spec := "epochStays", inPlace := ["internal/bytealg.Compare"], recurses := true, named := ["ferryman/sha.words"], plainKeys := false, apart := false, laid := [("ferryman/sha.words", laid_ferryman_sha_words)] }
def EpochStaysSaid : Prop := epochStaysRow.holds Tryd.pinned (OpenSpec.ofChange epochStaysSpec)

/-- ITS FALSE NEIGHBOUR: 'it returns false'. Refute it at one input. -/
def epochStaysWrong : ChangeSpec := { name := "epochStays", fn := fun _ => fun
  | [d1, d2] => { results := [.lit (.bool false)], args := [d1, d2] }
  | _ => none }
def EpochStaysWrongFalsely : Prop := epochStaysRow.holds Tryd.pinned (OpenSpec.ofChange epochStaysWrong)

/-- 'ferrymanlaw05.TreeBalance': WHATEVER THE INPUT: true; the input reads as it did. -/
def treeBalanceSpec : ChangeSpec := { name := "treeBalance", fn := fun _ => fun
  | [d] => { results := [.lit (.bool true)], args := [d] }
  | _ => none }
def treeBalanceRow : OpenClaim := { program := "ytjmjijgnbjkpnaadoor", sum := "4184d06cafdf095e8c2d67fa987201ba31a2f079d19cbd276625bd2448811d6e", func := "ferryman/ferrymanlaw05.TreeBalance", spec := "treeBalance", inPlace := ["internal/bytealg.Compare"], recurses := true, named := ["ferryman/sha.words"], plainKeys := false, apart := false, laid := [("ferryman/sha.words", laid_ferryman_sha_words)] }
def TreeBalanceSaid : Prop := treeBalanceRow.holds Tryd.pinned (OpenSpec.ofChange treeBalanceSpec)

/-- ITS FALSE NEIGHBOUR: 'it returns false'. Refute it at one input. -/
def treeBalanceWrong : ChangeSpec := { name := "treeBalance", fn := fun _ => fun
  | [d] => { results := [.lit (.bool false)], args := [d] }
  | _ => none }
def TreeBalanceWrongFalsely : Prop := treeBalanceRow.holds Tryd.pinned (OpenSpec.ofChange treeBalanceWrong)

/-- 'ferrymanlaw18.ChainNil': WHATEVER THE INPUT: true; the input reads as it did. -/
def chainNilSpec : ChangeSpec := { name := "chainNil", fn := fun _ => fun
  | [d1, d2] => { results := [.lit (.bool true)], args := [d1, d2] }
  | _ => none }
def chainNilRow : OpenClaim := { program := "ytjmjijgnbjkpnaadoor", sum := "4184d06cafdf095e8c2d67fa987201ba31a2f079d19cbd276625bd2448811d6e", func := "ferryman/ferrymanlaw18.ChainNil", spec := "chainNil", named := ["ferryman/sha.words"], plainKeys := false, apart := false, laid := [("ferryman/sha.words", laid_ferryman_sha_words)] }
def ChainNilSaid : Prop := chainNilRow.holds Tryd.pinned (OpenSpec.ofChange chainNilSpec)

/-- ITS FALSE NEIGHBOUR: 'it returns false'. Refute it at one input. -/
def chainNilWrong : ChangeSpec := { name := "chainNil", fn := fun _ => fun
  | [d1, d2] => { results := [.lit (.bool false)], args := [d1, d2] }
  | _ => none }
def ChainNilWrongFalsely : Prop := chainNilRow.holds Tryd.pinned (OpenSpec.ofChange chainNilWrong)

/-- 'ferrymanlaw05.TreeCuts': WHATEVER THE INPUT: true; the input reads as it did. -/
def treeCutsSpec : ChangeSpec := { name := "treeCuts", fn := fun _ => fun
  | [d1, d2] => { results := [.lit (.bool true)], args := [d1, d2] }
  | _ => none }
def treeCutsRow : OpenClaim := { program := "ytjmjijgnbjkpnaadoor", sum := "4184d06cafdf095e8c2d67fa987201ba31a2f079d19cbd276625bd2448811d6e", func := "ferryman/ferrymanlaw05.TreeCuts", spec := "treeCuts", inPlace := ["internal/bytealg.Compare"], recurses := true, named := ["ferryman/sha.words"], plainKeys := false, apart := false, laid := [("ferryman/sha.words", laid_ferryman_sha_words)] }
def TreeCutsSaid : Prop := treeCutsRow.holds Tryd.pinned (OpenSpec.ofChange treeCutsSpec)

/-- ITS FALSE NEIGHBOUR: 'it returns false'. Refute it at one input. -/
def treeCutsWrong : ChangeSpec := { name := "treeCuts", fn := fun _ => fun
  | [d1, d2] => { results := [.lit (.bool false)], args := [d1, d2] }
  | _ => none }
def TreeCutsWrongFalsely : Prop := treeCutsRow.holds Tryd.pinned (OpenSpec.ofChange treeCutsWrong)

/-- 'ferrymanlaw05.TreePlays': WHATEVER THE INPUT: true; the input reads as it did. -/
def treePlaysSpec : ChangeSpec := { name := "treePlays", fn := fun _ => fun
  | [d] => { results := [.lit (.bool true)], args := [d] }
  | _ => none }
def treePlaysRow : OpenClaim := { program := "ytjmjijgnbjkpnaadoor", sum := "4184d06cafdf095e8c2d67fa987201ba31a2f079d19cbd276625bd2448811d6e", func := "ferryman/ferrymanlaw05.TreePlays", spec := "treePlays", inPlace := ["internal/bytealg.Compare"], recurses := true, named := ["ferryman/sha.words", "ferryman/ferrymanref01.roots"], plainKeys := false, apart := false, laid := [("ferryman/ferrymanref01.roots", laid_ferryman_ferrymanref01_roots), ("ferryman/sha.words", laid_ferryman_sha_words)] }
def TreePlaysSaid : Prop := treePlaysRow.holds Tryd.pinned (OpenSpec.ofChange treePlaysSpec)

/-- ITS FALSE NEIGHBOUR: 'it returns false'. Refute it at one input. -/
def treePlaysWrong : ChangeSpec := { name := "treePlays", fn := fun _ => fun
  | [d] => { results := [.lit (.bool false)], args := [d] }
  | _ => none }
def TreePlaysWrongFalsely : Prop := treePlaysRow.holds Tryd.pinned (OpenSpec.ofChange treePlaysWrong)

/-- 'ferrymanlaw05.TreeStays': WHATEVER THE INPUT: true; the input reads as it did. -/
def treeStaysSpec : ChangeSpec := { name := "treeStays", fn := fun _ => fun
  | [d1, d2] => { results := [.lit (.bool true)], args := [d1, d2] }
  | _ => none }
def treeStaysRow : OpenClaim := { program := "ytjmjijgnbjkpnaadoor", sum := "4184d06cafdf095e8c2d67fa987201ba31a2f079d19cbd276625bd2448811d6e", func := "ferryman/ferrymanlaw05.TreeStays", spec := "treeStays", inPlace := ["internal/bytealg.Compare"], recurses := true, named := ["ferryman/sha.words"], plainKeys := false, apart := false, laid := [("ferryman/sha.words", laid_ferryman_sha_words)] }
def TreeStaysSaid : Prop := treeStaysRow.holds Tryd.pinned (OpenSpec.ofChange treeStaysSpec)

/-- ITS FALSE NEIGHBOUR: 'it returns false'. Refute it at one input. -/
def treeStaysWrong : ChangeSpec := { name := "treeStays", fn := fun _ => fun
  | [d1, d2] => { results := [.lit (.bool false)], args := [d1, d2] }
  | _ => none }
def TreeStaysWrongFalsely : Prop := treeStaysRow.holds Tryd.pinned (OpenSpec.ofChange treeStaysWrong)

/-- 'ferrymanlaw05.TreeNil': WHATEVER THE INPUT: true; the input reads as it did. -/
def treeNilSpec : ChangeSpec := { name := "treeNil", fn := fun _ => fun
  | [d1, d2, d3] => { results := [.lit (.bool true)], args := [d1, d2, d3] }
  | _ => none }
def treeNilRow : OpenClaim := { program := "ytjmjijgnbjkpnaadoor", sum := "4184d06cafdf095e8c2d67fa987201ba31a2f079d19cbd276625bd2448811d6e", func := "ferryman/ferrymanlaw05.TreeNil", spec := "treeNil", inPlace := ["internal/bytealg.Compare"], recurses := true, named := ["ferryman/sha.words"], plainKeys := false, apart := false, laid := [("ferryman/sha.words", laid_ferryman_sha_words)] }
def TreeNilSaid : Prop := treeNilRow.holds Tryd.pinned (OpenSpec.ofChange treeNilSpec)

/-- ITS FALSE NEIGHBOUR: 'it returns false'. Refute it at one input. -/
def treeNilWrong : ChangeSpec := { name := "treeNil", fn := fun _ => fun
  | [d1, d2, d3] => { results := [.lit (.bool false)], args := [d1, d2, d3] }
  | _ => none }
def TreeNilWrongFalsely : Prop := treeNilRow.holds Tryd.pinned (OpenSpec.ofChange treeNilWrong)

/-- 'ferrymanlaw07.NodesFew': WHATEVER THE INPUT: true; the input reads as it did. -/
def nodesFewSpec : ChangeSpec := { name := "nodesFew", fn := fun _ => fun
  | [d1, d2] => { results := [.lit (.bool true)], args := [d1, d2] }
  | _ => none }
def nodesFewRow : OpenClaim := { program := "ytjmjijgnbjkpnaadoor", sum := "4184d06cafdf095e8c2d67fa987201ba31a2f079d19cbd276625bd2448811d6e", func := "ferryman/ferrymanlaw07.NodesFew", spec := "nodesFew", inPlace := ["internal/bytealg.Compare"], unfollowed := true, recurses := true, named := ["ferryman/sha.words"], plainKeys := false, apart := false, laid := [("ferryman/sha.words", laid_ferryman_sha_words)] }
def NodesFewSaid : Prop := nodesFewRow.holds Tryd.pinned (OpenSpec.ofChange nodesFewSpec)

/-- ITS FALSE NEIGHBOUR: 'it returns false'. Refute it at one input. -/
def nodesFewWrong : ChangeSpec := { name := "nodesFew", fn := fun _ => fun
  | [d1, d2] => { results := [.lit (.bool false)], args := [d1, d2] }
  | _ => none }
def NodesFewWrongFalsely : Prop := nodesFewRow.holds Tryd.pinned (OpenSpec.ofChange nodesFewWrong)

/-- 'ferrymanlaw18.ChainFollows': WHATEVER THE INPUT: true; the input reads as it did. -/
def chainFollowsSpec : ChangeSpec := { name := "chainFollows", fn := fun _ => fun
  | [d1, d2, d3] => { results := [.lit (.bool true)], args := [d1, d2, d3] }
  | _ => none }
def chainFollowsRow : OpenClaim := { program := "ytjmjijgnbjkpnaadoor", sum := "4184d06cafdf095e8c2d67fa987201ba31a2f079d19cbd276625bd2448811d6e", func := "ferryman/ferrymanlaw18.ChainFollows", spec := "chainFollows", unfollowed := true, recurses := true, named := ["ferryman/sha.words"], plainKeys := false, apart := false, laid := [("ferryman/sha.words", laid_ferryman_sha_words)] }
def ChainFollowsSaid : Prop := chainFollowsRow.holds Tryd.pinned (OpenSpec.ofChange chainFollowsSpec)

/-- ITS FALSE NEIGHBOUR: 'it returns false'. Refute it at one input. -/
def chainFollowsWrong : ChangeSpec := { name := "chainFollows", fn := fun _ => fun
  | [d1, d2, d3] => { results := [.lit (.bool false)], args := [d1, d2, d3] }
  | _ => none }
def ChainFollowsWrongFalsely : Prop := chainFollowsRow.holds Tryd.pinned (OpenSpec.ofChange chainFollowsWrong)

/-- 'ferrymanlaw18.ChainStays': WHATEVER THE INPUT: true; the input reads as it did. -/
def chainStaysSpec : ChangeSpec := { name := "chainStays", fn := fun _ => fun
  | [d1, d2] => { results := [.lit (.bool true)], args := [d1, d2] }
  | _ => none }
def chainStaysRow : OpenClaim := { program := "ytjmjijgnbjkpnaadoor", sum := "4184d06cafdf095e8c2d67fa987201ba31a2f079d19cbd276625bd2448811d6e", func := "ferryman/ferrymanlaw18.ChainStays", spec := "chainStays", inPlace := ["internal/bytealg.Compare"], recurses := true, named := ["ferryman/sha.words"], plainKeys := false, apart := false, laid := [("ferryman/sha.words", laid_ferryman_sha_words)] }
def ChainStaysSaid : Prop := chainStaysRow.holds Tryd.pinned (OpenSpec.ofChange chainStaysSpec)

/-- ITS FALSE NEIGHBOUR: 'it returns false'. Refute it at one input. -/
def chainStaysWrong : ChangeSpec := { name := "chainStays", fn := fun _ => fun
  | [d1, d2] => { results := [.lit (.bool false)], args := [d1, d2] }
  | _ => none }
def ChainStaysWrongFalsely : Prop := chainStaysRow.holds Tryd.pinned (OpenSpec.ofChange chainStaysWrong)

/-- 'ferrymanlaw16.KvParts': WHATEVER THE INPUT: true; the input reads as it did. -/
def kvPartsSpec : ChangeSpec := { name := "kvParts", fn := fun _ => fun
  | [d1, d2, d3] => { results := [.lit (.bool true)], args := [d1, d2, d3] }
  | _ => none }
def kvPartsRow : OpenClaim := { program := "ytjmjijgnbjkpnaadoor", sum := "4184d06cafdf095e8c2d67fa987201ba31a2f079d19cbd276625bd2448811d6e", func := "ferryman/ferrymanlaw16.KvParts", spec := "kvParts", inPlace := ["internal/bytealg.Compare", "slices.overlaps[ferryman/api.Pair]"], unfollowed := true, recurses := true, named := ["ferryman/sha.words"], plainKeys := false, apart := false, laid := [("ferryman/sha.words", laid_ferryman_sha_words)] }
def KvPartsSaid : Prop := kvPartsRow.holds Tryd.pinned (OpenSpec.ofChange kvPartsSpec)

/-- ITS FALSE NEIGHBOUR: 'it returns false'. Refute it at one input. -/
def kvPartsWrong : ChangeSpec := { name := "kvParts", fn := fun _ => fun
  | [d1, d2, d3] => { results := [.lit (.bool false)], args := [d1, d2, d3] }
  | _ => none }
def KvPartsWrongFalsely : Prop := kvPartsRow.holds Tryd.pinned (OpenSpec.ofChange kvPartsWrong)

/-- 'ferrymanlaw16.KvTree': WHATEVER THE INPUT: true; the input reads as it did. -/
def kvTreeSpec : ChangeSpec := { name := "kvTree", fn := fun _ => fun
  | [d] => { results := [.lit (.bool true)], args := [d] }
  | _ => none }
def kvTreeRow : OpenClaim := { program := "ytjmjijgnbjkpnaadoor", sum := "4184d06cafdf095e8c2d67fa987201ba31a2f079d19cbd276625bd2448811d6e", func := "ferryman/ferrymanlaw16.KvTree", spec := "kvTree", inPlace := ["internal/bytealg.Compare", "slices.overlaps[ferryman/api.Pair]"], unfollowed := true, recurses := true, named := ["ferryman/sha.words", "ferryman/ferrymanref01.roots"], plainKeys := false, apart := false, laid := [("ferryman/ferrymanref01.roots", laid_ferryman_ferrymanref01_roots), ("ferryman/sha.words", laid_ferryman_sha_words)] }
def KvTreeSaid : Prop := kvTreeRow.holds Tryd.pinned (OpenSpec.ofChange kvTreeSpec)

/-- ITS FALSE NEIGHBOUR: 'it returns false'. Refute it at one input. -/
def kvTreeWrong : ChangeSpec := { name := "kvTree", fn := fun _ => fun
  | [d] => { results := [.lit (.bool false)], args := [d] }
  | _ => none }
def KvTreeWrongFalsely : Prop := kvTreeRow.holds Tryd.pinned (OpenSpec.ofChange kvTreeWrong)

/-- 'ferrymanlaw16.KvNil': WHATEVER THE INPUT: true; the input reads as it did. -/
def kvNilSpec : ChangeSpec := { name := "kvNil", fn := fun _ => fun
  | [d1, d2] => { results := [.lit (.bool true)], args := [d1, d2] }
  | _ => none }
def kvNilRow : OpenClaim := { program := "ytjmjijgnbjkpnaadoor", sum := "4184d06cafdf095e8c2d67fa987201ba31a2f079d19cbd276625bd2448811d6e", func := "ferryman/ferrymanlaw16.KvNil", spec := "kvNil", inPlace := ["internal/bytealg.Compare", "slices.overlaps[ferryman/api.Pair]"], unfollowed := true, recurses := true, named := ["ferryman/sha.words"], plainKeys := false, apart := false, laid := [("ferryman/sha.words", laid_ferryman_sha_words)] }
def KvNilSaid : Prop := kvNilRow.holds Tryd.pinned (OpenSpec.ofChange kvNilSpec)

/-- ITS FALSE NEIGHBOUR: 'it returns false'. Refute it at one input. -/
def kvNilWrong : ChangeSpec := { name := "kvNil", fn := fun _ => fun
  | [d1, d2] => { results := [.lit (.bool false)], args := [d1, d2] }
  | _ => none }
def KvNilWrongFalsely : Prop := kvNilRow.holds Tryd.pinned (OpenSpec.ofChange kvNilWrong)

/-- 'ferrymanlaw18.ChainPlays': WHATEVER THE INPUT: true; the input reads as it did. -/
def chainPlaysSpec : ChangeSpec := { name := "chainPlays", fn := fun _ => fun
  | [d1, d2, d3, d4] => { results := [.lit (.bool true)], args := [d1, d2, d3, d4] }
  | _ => none }
def chainPlaysRow : OpenClaim := { program := "ytjmjijgnbjkpnaadoor", sum := "4184d06cafdf095e8c2d67fa987201ba31a2f079d19cbd276625bd2448811d6e", func := "ferryman/ferrymanlaw18.ChainPlays", spec := "chainPlays", inPlace := ["internal/bytealg.Compare"], recurses := true, named := ["ferryman/sha.words", "ferryman/ferrymanref01.roots"], plainKeys := false, apart := false, laid := [("ferryman/ferrymanref01.roots", laid_ferryman_ferrymanref01_roots), ("ferryman/sha.words", laid_ferryman_sha_words)] }
def ChainPlaysSaid : Prop := chainPlaysRow.holds Tryd.pinned (OpenSpec.ofChange chainPlaysSpec)

/-- ITS FALSE NEIGHBOUR: 'it returns false'. Refute it at one input. -/
def chainPlaysWrong : ChangeSpec := { name := "chainPlays", fn := fun _ => fun
  | [d1, d2, d3, d4] => { results := [.lit (.bool false)], args := [d1, d2, d3, d4] }
  | _ => none }
def ChainPlaysWrongFalsely : Prop := chainPlaysRow.holds Tryd.pinned (OpenSpec.ofChange chainPlaysWrong)

/-- 'ferrymanlaw07.NodesNil': WHATEVER THE INPUT: true; the input reads as it did. -/
def nodesNilSpec : ChangeSpec := { name := "nodesNil", fn := fun _ => fun
  | [d1, d2] => { results := [.lit (.bool true)], args := [d1, d2] }
  | _ => none }
def nodesNilRow : OpenClaim := { program := "ytjmjijgnbjkpnaadoor", sum := "4184d06cafdf095e8c2d67fa987201ba31a2f079d19cbd276625bd2448811d6e", func := "ferryman/ferrymanlaw07.NodesNil", spec := "nodesNil", inPlace := ["internal/bytealg.Compare"], unfollowed := true, recurses := true, named := ["ferryman/sha.words", "ferryman/ferrymanref01.roots"], plainKeys := false, apart := false, laid := [("ferryman/ferrymanref01.roots", laid_ferryman_ferrymanref01_roots), ("ferryman/sha.words", laid_ferryman_sha_words)] }
def NodesNilSaid : Prop := nodesNilRow.holds Tryd.pinned (OpenSpec.ofChange nodesNilSpec)

/-- ITS FALSE NEIGHBOUR: 'it returns false'. Refute it at one input. -/
def nodesNilWrong : ChangeSpec := { name := "nodesNil", fn := fun _ => fun
  | [d1, d2] => { results := [.lit (.bool false)], args := [d1, d2] }
  | _ => none }
def NodesNilWrongFalsely : Prop := nodesNilRow.holds Tryd.pinned (OpenSpec.ofChange nodesNilWrong)

/-- 'ferrymanlaw16.KvSame': WHATEVER THE INPUT: true; the input reads as it did. -/
def kvSameSpec : ChangeSpec := { name := "kvSame", fn := fun _ => fun
  | [d1, d2] => { results := [.lit (.bool true)], args := [d1, d2] }
  | _ => none }
def kvSameRow : OpenClaim := { program := "ytjmjijgnbjkpnaadoor", sum := "4184d06cafdf095e8c2d67fa987201ba31a2f079d19cbd276625bd2448811d6e", func := "ferryman/ferrymanlaw16.KvSame", spec := "kvSame", inPlace := ["internal/bytealg.Compare", "slices.overlaps[ferryman/api.Pair]"], unfollowed := true, recurses := true, named := ["ferryman/sha.words"], plainKeys := false, apart := false, laid := [("ferryman/sha.words", laid_ferryman_sha_words)] }
def KvSameSaid : Prop := kvSameRow.holds Tryd.pinned (OpenSpec.ofChange kvSameSpec)

/-- ITS FALSE NEIGHBOUR: 'it returns false'. Refute it at one input. -/
def kvSameWrong : ChangeSpec := { name := "kvSame", fn := fun _ => fun
  | [d1, d2] => { results := [.lit (.bool false)], args := [d1, d2] }
  | _ => none }
def KvSameWrongFalsely : Prop := kvSameRow.holds Tryd.pinned (OpenSpec.ofChange kvSameWrong)

/- THE SECOND FORM. 'bulk': how many values and letters a reading holds, each counted each time it is reached (what is shared counts as often as it is met; a slice's spare places count too). A statement '..UptoSaid' is the law's where the arguments, and the package variables that the reading takes, are together of bulk at most 1048576: NARROWER than '..Said'. Prove '..Said' where nothing that the law and all that it calls make is longer than what came in: it says more and counts as full. Else prove '..UptoSaid'. A law counts once. -/
mutual
def uptoBulk {H : Type} : DataW H → Nat
  | .lit (.string bytes) => bytes.length + 1
  | .lit _ => 1
  | .nil => 1
  | .ptr d => uptoBulk d + 1
  | .slice elems spare => uptoBulkAll elems + uptoBulkAll spare + 1
  | .agg parts => uptoBulkAll parts + 1
  | .iface _ d => uptoBulk d + 1
  | .map entries => uptoBulkEntries entries + 1
  | .held _ => 1
def uptoBulkAll {H : Type} : List (DataW H) → Nat
  | [] => 0
  | d :: r => uptoBulk d + uptoBulkAll r
def uptoBulkEntries {H : Type} : List (Lit × DataW H) → Nat
  | [] => 0
  | x :: r => uptoBulkEntry x + uptoBulkEntries r
def uptoBulkEntry {H : Type} : Lit × DataW H → Nat
  | (.string bytes, d) => bytes.length + uptoBulk d + 1
  | (_, d) => uptoBulk d + 1
 end
def uptoSmall : (H : Type) → List (DataW H) → Bool := fun _ ds => decide (uptoBulkAll ds ≤ 1048576)
def OpenSpec.upto (s : _root_.Go.ChangeSpec) : _root_.Go.OpenSpec := { _root_.Go.OpenSpec.ofChange s with cond := some uptoSmall }

/-- 'ferrymanlaw06.EpochNil', WHERE WHAT IT READS IS OF BULK AT MOST 1048576: true; the input reads as it did. -/
def epochNilUptoRow : OpenClaim := { program := "ytjmjijgnbjkpnaadoor", sum := "4184d06cafdf095e8c2d67fa987201ba31a2f079d19cbd276625bd2448811d6e", func := "ferryman/ferrymanlaw06.EpochNil", spec := "epochNil", named := ["ferryman/sha.words"], plainKeys := false, apart := false, laid := [("ferryman/sha.words", laid_ferryman_sha_words)], narrowed := true }
def EpochNilUptoSaid : Prop := epochNilUptoRow.holds Tryd.pinned (OpenSpec.upto epochNilSpec)

/-- 'ferrymanlaw18.ChainApart', WHERE WHAT IT READS IS OF BULK AT MOST 1048576: true; the input reads as it did. -/
def chainApartUptoRow : OpenClaim := { program := "ytjmjijgnbjkpnaadoor", sum := "4184d06cafdf095e8c2d67fa987201ba31a2f079d19cbd276625bd2448811d6e", func := "ferryman/ferrymanlaw18.ChainApart", spec := "chainApart", named := ["ferryman/sha.words", "ferryman/ferrymanref01.roots"], plainKeys := false, apart := false, laid := [("ferryman/ferrymanref01.roots", laid_ferryman_ferrymanref01_roots), ("ferryman/sha.words", laid_ferryman_sha_words)], narrowed := true }
def ChainApartUptoSaid : Prop := chainApartUptoRow.holds Tryd.pinned (OpenSpec.upto chainApartSpec)

/-- 'ferrymanlaw06.EpochPlays', WHERE WHAT IT READS IS OF BULK AT MOST 1048576: true; the input reads as it did. -/
def epochPlaysUptoRow : OpenClaim := { program := "ytjmjijgnbjkpnaadoor", sum := "4184d06cafdf095e8c2d67fa987201ba31a2f079d19cbd276625bd2448811d6e", func := "ferryman/ferrymanlaw06.EpochPlays", spec := "epochPlays", inPlace := ["internal/bytealg.Compare"], recurses := true, named := ["ferryman/sha.words"], plainKeys := false, apart := false, laid := [("ferryman/sha.words", laid_ferryman_sha_words)], narrowed := true }
def EpochPlaysUptoSaid : Prop := epochPlaysUptoRow.holds Tryd.pinned (OpenSpec.upto epochPlaysSpec)

/-- 'ferrymanlaw05.TreeWays', WHERE WHAT IT READS IS OF BULK AT MOST 1048576: true; the input reads as it did. -/
def treeWaysUptoRow : OpenClaim := { program := "ytjmjijgnbjkpnaadoor", sum := "4184d06cafdf095e8c2d67fa987201ba31a2f079d19cbd276625bd2448811d6e", func := "ferryman/ferrymanlaw05.TreeWays", spec := "treeWays", inPlace := ["internal/bytealg.Compare"], recurses := true, named := ["ferryman/sha.words", "ferryman/ferrymanref01.roots"], plainKeys := false, apart := false, laid := [("ferryman/ferrymanref01.roots", laid_ferryman_ferrymanref01_roots), ("ferryman/sha.words", laid_ferryman_sha_words)], narrowed := true }
def TreeWaysUptoSaid : Prop := treeWaysUptoRow.holds Tryd.pinned (OpenSpec.upto treeWaysSpec)

/-- 'ferrymanlaw05.TreeHigh', WHERE WHAT IT READS IS OF BULK AT MOST 1048576: true; the input reads as it did. -/
def treeHighUptoRow : OpenClaim := { program := "ytjmjijgnbjkpnaadoor", sum := "4184d06cafdf095e8c2d67fa987201ba31a2f079d19cbd276625bd2448811d6e", func := "ferryman/ferrymanlaw05.TreeHigh", spec := "treeHigh", inPlace := ["internal/bytealg.Compare"], recurses := true, named := ["ferryman/sha.words"], plainKeys := false, apart := false, laid := [("ferryman/sha.words", laid_ferryman_sha_words)], narrowed := true }
def TreeHighUptoSaid : Prop := treeHighUptoRow.holds Tryd.pinned (OpenSpec.upto treeHighSpec)

/-- 'ferrymanlaw06.EpochStays', WHERE WHAT IT READS IS OF BULK AT MOST 1048576: true; the input reads as it did. -/
def epochStaysUptoRow : OpenClaim := { program := "ytjmjijgnbjkpnaadoor", sum := "4184d06cafdf095e8c2d67fa987201ba31a2f079d19cbd276625bd2448811d6e", func := "ferryman/ferrymanlaw06.EpochStays", spec := "epochStays", inPlace := ["internal/bytealg.Compare"], recurses := true, named := ["ferryman/sha.words"], plainKeys := false, apart := false, laid := [("ferryman/sha.words", laid_ferryman_sha_words)], narrowed := true }
def EpochStaysUptoSaid : Prop := epochStaysUptoRow.holds Tryd.pinned (OpenSpec.upto epochStaysSpec)

/-- 'ferrymanlaw05.TreeBalance', WHERE WHAT IT READS IS OF BULK AT MOST 1048576: true; the input reads as it did. -/
def treeBalanceUptoRow : OpenClaim := { program := "ytjmjijgnbjkpnaadoor", sum := "4184d06cafdf095e8c2d67fa987201ba31a2f079d19cbd276625bd2448811d6e", func := "ferryman/ferrymanlaw05.TreeBalance", spec := "treeBalance", inPlace := ["internal/bytealg.Compare"], recurses := true, named := ["ferryman/sha.words"], plainKeys := false, apart := false, laid := [("ferryman/sha.words", laid_ferryman_sha_words)], narrowed := true }
def TreeBalanceUptoSaid : Prop := treeBalanceUptoRow.holds Tryd.pinned (OpenSpec.upto treeBalanceSpec)

/-- 'ferrymanlaw18.ChainNil', WHERE WHAT IT READS IS OF BULK AT MOST 1048576: true; the input reads as it did. -/
def chainNilUptoRow : OpenClaim := { program := "ytjmjijgnbjkpnaadoor", sum := "4184d06cafdf095e8c2d67fa987201ba31a2f079d19cbd276625bd2448811d6e", func := "ferryman/ferrymanlaw18.ChainNil", spec := "chainNil", named := ["ferryman/sha.words"], plainKeys := false, apart := false, laid := [("ferryman/sha.words", laid_ferryman_sha_words)], narrowed := true }
def ChainNilUptoSaid : Prop := chainNilUptoRow.holds Tryd.pinned (OpenSpec.upto chainNilSpec)

/-- 'ferrymanlaw05.TreeCuts', WHERE WHAT IT READS IS OF BULK AT MOST 1048576: true; the input reads as it did. -/
def treeCutsUptoRow : OpenClaim := { program := "ytjmjijgnbjkpnaadoor", sum := "4184d06cafdf095e8c2d67fa987201ba31a2f079d19cbd276625bd2448811d6e", func := "ferryman/ferrymanlaw05.TreeCuts", spec := "treeCuts", inPlace := ["internal/bytealg.Compare"], recurses := true, named := ["ferryman/sha.words"], plainKeys := false, apart := false, laid := [("ferryman/sha.words", laid_ferryman_sha_words)], narrowed := true }
def TreeCutsUptoSaid : Prop := treeCutsUptoRow.holds Tryd.pinned (OpenSpec.upto treeCutsSpec)

/-- 'ferrymanlaw05.TreePlays', WHERE WHAT IT READS IS OF BULK AT MOST 1048576: true; the input reads as it did. -/
def treePlaysUptoRow : OpenClaim := { program := "ytjmjijgnbjkpnaadoor", sum := "4184d06cafdf095e8c2d67fa987201ba31a2f079d19cbd276625bd2448811d6e", func := "ferryman/ferrymanlaw05.TreePlays", spec := "treePlays", inPlace := ["internal/bytealg.Compare"], recurses := true, named := ["ferryman/sha.words", "ferryman/ferrymanref01.roots"], plainKeys := false, apart := false, laid := [("ferryman/ferrymanref01.roots", laid_ferryman_ferrymanref01_roots), ("ferryman/sha.words", laid_ferryman_sha_words)], narrowed := true }
def TreePlaysUptoSaid : Prop := treePlaysUptoRow.holds Tryd.pinned (OpenSpec.upto treePlaysSpec)

/-- 'ferrymanlaw05.TreeStays', WHERE WHAT IT READS IS OF BULK AT MOST 1048576: true; the input reads as it did. -/
def treeStaysUptoRow : OpenClaim := { program := "ytjmjijgnbjkpnaadoor", sum := "4184d06cafdf095e8c2d67fa987201ba31a2f079d19cbd276625bd2448811d6e", func := "ferryman/ferrymanlaw05.TreeStays", spec := "treeStays", inPlace := ["internal/bytealg.Compare"], recurses := true, named := ["ferryman/sha.words"], plainKeys := false, apart := false, laid := [("ferryman/sha.words", laid_ferryman_sha_words)], narrowed := true }
def TreeStaysUptoSaid : Prop := treeStaysUptoRow.holds Tryd.pinned (OpenSpec.upto treeStaysSpec)

/-- 'ferrymanlaw05.TreeNil', WHERE WHAT IT READS IS OF BULK AT MOST 1048576: true; the input reads as it did. -/
def treeNilUptoRow : OpenClaim := { program := "ytjmjijgnbjkpnaadoor", sum := "4184d06cafdf095e8c2d67fa987201ba31a2f079d19cbd276625bd2448811d6e", func := "ferryman/ferrymanlaw05.TreeNil", spec := "treeNil", inPlace := ["internal/bytealg.Compare"], recurses := true, named := ["ferryman/sha.words"], plainKeys := false, apart := false, laid := [("ferryman/sha.words", laid_ferryman_sha_words)], narrowed := true }
def TreeNilUptoSaid : Prop := treeNilUptoRow.holds Tryd.pinned (OpenSpec.upto treeNilSpec)

/-- 'ferrymanlaw07.NodesFew', WHERE WHAT IT READS IS OF BULK AT MOST 1048576: true; the input reads as it did. -/
def nodesFewUptoRow : OpenClaim := { program := "ytjmjijgnbjkpnaadoor", sum := "4184d06cafdf095e8c2d67fa987201ba31a2f079d19cbd276625bd2448811d6e", func := "ferryman/ferrymanlaw07.NodesFew", spec := "nodesFew", inPlace := ["internal/bytealg.Compare"], unfollowed := true, recurses := true, named := ["ferryman/sha.words"], plainKeys := false, apart := false, laid := [("ferryman/sha.words", laid_ferryman_sha_words)], narrowed := true }
def NodesFewUptoSaid : Prop := nodesFewUptoRow.holds Tryd.pinned (OpenSpec.upto nodesFewSpec)

/-- 'ferrymanlaw18.ChainFollows', WHERE WHAT IT READS IS OF BULK AT MOST 1048576: true; the input reads as it did. -/
def chainFollowsUptoRow : OpenClaim := { program := "ytjmjijgnbjkpnaadoor", sum := "4184d06cafdf095e8c2d67fa987201ba31a2f079d19cbd276625bd2448811d6e", func := "ferryman/ferrymanlaw18.ChainFollows", spec := "chainFollows", unfollowed := true, recurses := true, named := ["ferryman/sha.words"], plainKeys := false, apart := false, laid := [("ferryman/sha.words", laid_ferryman_sha_words)], narrowed := true }
def ChainFollowsUptoSaid : Prop := chainFollowsUptoRow.holds Tryd.pinned (OpenSpec.upto chainFollowsSpec)

/-- 'ferrymanlaw18.ChainStays', WHERE WHAT IT READS IS OF BULK AT MOST 1048576: true; the input reads as it did. -/
def chainStaysUptoRow : OpenClaim := { program := "ytjmjijgnbjkpnaadoor", sum := "4184d06cafdf095e8c2d67fa987201ba31a2f079d19cbd276625bd2448811d6e", func := "ferryman/ferrymanlaw18.ChainStays", spec := "chainStays", inPlace := ["internal/bytealg.Compare"], recurses := true, named := ["ferryman/sha.words"], plainKeys := false, apart := false, laid := [("ferryman/sha.words", laid_ferryman_sha_words)], narrowed := true }
def ChainStaysUptoSaid : Prop := chainStaysUptoRow.holds Tryd.pinned (OpenSpec.upto chainStaysSpec)

/-- 'ferrymanlaw16.KvParts', WHERE WHAT IT READS IS OF BULK AT MOST 1048576: true; the input reads as it did. -/
def kvPartsUptoRow : OpenClaim := { program := "ytjmjijgnbjkpnaadoor", sum := "4184d06cafdf095e8c2d67fa987201ba31a2f079d19cbd276625bd2448811d6e", func := "ferryman/ferrymanlaw16.KvParts", spec := "kvParts", inPlace := ["internal/bytealg.Compare", "slices.overlaps[ferryman/api.Pair]"], unfollowed := true, recurses := true, named := ["ferryman/sha.words"], plainKeys := false, apart := false, laid := [("ferryman/sha.words", laid_ferryman_sha_words)], narrowed := true }
def KvPartsUptoSaid : Prop := kvPartsUptoRow.holds Tryd.pinned (OpenSpec.upto kvPartsSpec)

/-- 'ferrymanlaw16.KvTree', WHERE WHAT IT READS IS OF BULK AT MOST 1048576: true; the input reads as it did. -/
def kvTreeUptoRow : OpenClaim := { program := "ytjmjijgnbjkpnaadoor", sum := "4184d06cafdf095e8c2d67fa987201ba31a2f079d19cbd276625bd2448811d6e", func := "ferryman/ferrymanlaw16.KvTree", spec := "kvTree", inPlace := ["internal/bytealg.Compare", "slices.overlaps[ferryman/api.Pair]"], unfollowed := true, recurses := true, named := ["ferryman/sha.words", "ferryman/ferrymanref01.roots"], plainKeys := false, apart := false, laid := [("ferryman/ferrymanref01.roots", laid_ferryman_ferrymanref01_roots), ("ferryman/sha.words", laid_ferryman_sha_words)], narrowed := true }
def KvTreeUptoSaid : Prop := kvTreeUptoRow.holds Tryd.pinned (OpenSpec.upto kvTreeSpec)

/-- 'ferrymanlaw16.KvNil', WHERE WHAT IT READS IS OF BULK AT MOST 1048576: true; the input reads as it did. -/
def kvNilUptoRow : OpenClaim := { program := "ytjmjijgnbjkpnaadoor", sum := "4184d06cafdf095e8c2d67fa987201ba31a2f079d19cbd276625bd2448811d6e", func := "ferryman/ferrymanlaw16.KvNil", spec := "kvNil", inPlace := ["internal/bytealg.Compare", "slices.overlaps[ferryman/api.Pair]"], unfollowed := true, recurses := true, named := ["ferryman/sha.words"], plainKeys := false, apart := false, laid := [("ferryman/sha.words", laid_ferryman_sha_words)], narrowed := true }
def KvNilUptoSaid : Prop := kvNilUptoRow.holds Tryd.pinned (OpenSpec.upto kvNilSpec)

/-- 'ferrymanlaw18.ChainPlays', WHERE WHAT IT READS IS OF BULK AT MOST 1048576: true; the input reads as it did. -/
def chainPlaysUptoRow : OpenClaim := { program := "ytjmjijgnbjkpnaadoor", sum := "4184d06cafdf095e8c2d67fa987201ba31a2f079d19cbd276625bd2448811d6e", func := "ferryman/ferrymanlaw18.ChainPlays", spec := "chainPlays", inPlace := ["internal/bytealg.Compare"], recurses := true, named := ["ferryman/sha.words", "ferryman/ferrymanref01.roots"], plainKeys := false, apart := false, laid := [("ferryman/ferrymanref01.roots", laid_ferryman_ferrymanref01_roots), ("ferryman/sha.words", laid_ferryman_sha_words)], narrowed := true }
def ChainPlaysUptoSaid : Prop := chainPlaysUptoRow.holds Tryd.pinned (OpenSpec.upto chainPlaysSpec)

/-- 'ferrymanlaw07.NodesNil', WHERE WHAT IT READS IS OF BULK AT MOST 1048576: true; the input reads as it did. -/
def nodesNilUptoRow : OpenClaim := { program := "ytjmjijgnbjkpnaadoor", sum := "4184d06cafdf095e8c2d67fa987201ba31a2f079d19cbd276625bd2448811d6e", func := "ferryman/ferrymanlaw07.NodesNil", spec := "nodesNil", inPlace := ["internal/bytealg.Compare"], unfollowed := true, recurses := true, named := ["ferryman/sha.words", "ferryman/ferrymanref01.roots"], plainKeys := false, apart := false, laid := [("ferryman/ferrymanref01.roots", laid_ferryman_ferrymanref01_roots), ("ferryman/sha.words", laid_ferryman_sha_words)], narrowed := true }
def NodesNilUptoSaid : Prop := nodesNilUptoRow.holds Tryd.pinned (OpenSpec.upto nodesNilSpec)

/-- 'ferrymanlaw16.KvSame', WHERE WHAT IT READS IS OF BULK AT MOST 1048576: true; the input reads as it did. -/
def kvSameUptoRow : OpenClaim := { program := "ytjmjijgnbjkpnaadoor", sum := "4184d06cafdf095e8c2d67fa987201ba31a2f079d19cbd276625bd2448811d6e", func := "ferryman/ferrymanlaw16.KvSame", spec := "kvSame", inPlace := ["internal/bytealg.Compare", "slices.overlaps[ferryman/api.Pair]"], unfollowed := true, recurses := true, named := ["ferryman/sha.words"], plainKeys := false, apart := false, laid := [("ferryman/sha.words", laid_ferryman_sha_words)], narrowed := true }
def KvSameUptoSaid : Prop := kvSameUptoRow.holds Tryd.pinned (OpenSpec.upto kvSameSpec)

end Rows
end Go.Proofs.YtjmjijgnbjkpnaaDoor
