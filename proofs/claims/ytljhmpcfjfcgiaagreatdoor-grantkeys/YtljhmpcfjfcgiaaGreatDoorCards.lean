/-
  DERIVED. GIVEN WITH THE SEED: THE CARDS: each row of YtljhmpcfjfcgiaaGreatDoorRows.lean that lists a variable, with what it lists TIED to the program's text (the seventh form; the later family's looks); each row that meets fmt, with fmt's text TOLD by the authors' own Lean function (tested against real Go, not proved from fmt's source: count such statements apart). THE CARD IS WHAT COUNTS. Prove the row's statement (the work); the ties are given (YtljhmpcfjfcgiaaGreatDoorTie.lean); close each card by the builder's one call (the guide's Derived/Test/ToyasCard.lean, 'card_holds'). Laid BY PROGRAM, IN A SANDBOX (cutbox-door.mjs). By AI agents, Wed Nov 11 2026. No macro, syntax, notation, axiom, sorry.
-/
import Derived.Test.YtljhmpcfjfcgiaaGreatDoorRows
import GoSem.ClaimSeven
namespace Go.Proofs.YtljhmpcfjfcgiaaGreatDoor
namespace Rows

/-- THE TIED CARD OF 'kerbsuitelaw19.GrantKeys'. -/
def grantKeysCard : Claim7 := { stood := { row := grantKeysRow, standIns := [], harness := (true, "f6f92fbd16a827cd71b1b85e93620f626c0a9a214331d9d3a275d7d1d08c283c"), looks := false }, kinds := [], alts := [], laidByText := true, laidKinds := [.data], laidTests := true, laidLooks := .later }
def GrantKeysCardSaid : Prop := Claim7.holds Tryz.pinned (.plain (OpenSpec.ofChange grantKeysSpec)) grantKeysCard

/-- THE SECOND FORM's CARD OF 'kerbsuitelaw19.GrantKeys'. -/
def grantKeysUptoCard : Claim7 := { stood := { row := grantKeysUptoRow, standIns := [], harness := (true, "f6f92fbd16a827cd71b1b85e93620f626c0a9a214331d9d3a275d7d1d08c283c"), looks := false }, kinds := [], alts := [], laidByText := true, laidKinds := [.data], laidTests := true, laidLooks := .later }
def GrantKeysUptoCardSaid : Prop := Claim7.holds Tryz.pinned (.plain (OpenSpec.upto grantKeysSpec)) grantKeysUptoCard
end Rows
end Go.Proofs.YtljhmpcfjfcgiaaGreatDoor
