/-
  DERIVED. GIVEN WITH THE SEED: THE CARDS: each row of YtjmjijgnbjkpnabDoorRows.lean that lists a variable, with what it lists TIED to the program's text (the seventh form; the later family's looks); each row that meets fmt, with fmt's text TOLD by the authors' own Lean function (tested against real Go, not proved from fmt's source: count such statements apart). THE CARD IS WHAT COUNTS. Prove the row's statement (the work); the ties are given (YtjmjijgnbjkpnabDoorTie.lean); close each card by the builder's one call (the guide's Derived/Test/ToyasCard.lean, 'card_holds'). Laid BY PROGRAM, IN A SANDBOX (cutbox-door.mjs). By AI agents, Wed Nov 11 2026. No macro, syntax, notation, axiom, sorry.
-/
import Derived.Test.YtjmjijgnbjkpnabDoorRows
import GoSem.ClaimSeven
namespace Go.Proofs.YtjmjijgnbjkpnabDoor
namespace Rows

/-- THE TIED CARD OF 'ferrymanlaw08.CacheYoung'. -/
def cacheYoungCard : Claim7 := { stood := { row := cacheYoungRow, standIns := [], harness := (true, "cbdd7fe7c6a4cd49d06ec312960d0137d945ba433e542d79e95fd61ee13bf6e2"), looks := false }, kinds := [], alts := [], laidByText := true, laidKinds := [.data, .data], laidTests := true, laidLooks := .later }
def CacheYoungCardSaid : Prop := Claim7.holds Tryd.pinned (.plain (OpenSpec.ofChange cacheYoungSpec)) cacheYoungCard

/-- THE SECOND FORM's CARD OF 'ferrymanlaw08.CacheYoung'. -/
def cacheYoungUptoCard : Claim7 := { stood := { row := cacheYoungUptoRow, standIns := [], harness := (true, "cbdd7fe7c6a4cd49d06ec312960d0137d945ba433e542d79e95fd61ee13bf6e2"), looks := false }, kinds := [], alts := [], laidByText := true, laidKinds := [.data, .data], laidTests := true, laidLooks := .later }
def CacheYoungUptoCardSaid : Prop := Claim7.holds Tryd.pinned (.plain (OpenSpec.upto cacheYoungSpec)) cacheYoungUptoCard
end Rows
end Go.Proofs.YtjmjijgnbjkpnabDoor
