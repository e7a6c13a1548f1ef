/-
  DERIVED. GIVEN WITH THE SEED: THE CARDS: each row of YtmdppipjjnfanaaGreatDoorRows.lean that lists a variable, with what it lists TIED to the program's text (the seventh form; the later family's looks); each row that meets fmt, with fmt's text TOLD by the authors' own Lean function (tested against real Go, not proved from fmt's source: count such statements apart). THE CARD IS WHAT COUNTS. Prove the row's statement (the work); the ties are given (YtmdppipjjnfanaaGreatDoorTie.lean); close each card by the builder's one call (the guide's Derived/Test/ToyasCard.lean, 'card_holds'). Laid BY PROGRAM, IN A SANDBOX (cutbox-door.mjs). By AI agents, Wed Nov 11 2026. No macro, syntax, notation, axiom, sorry.
-/
import Derived.Test.YtmdppipjjnfanaaGreatDoorRows
import GoSem.ClaimSeven
namespace Go.Proofs.YtmdppipjjnfanaaGreatDoor
namespace Rows

/-- THE TIED CARD OF 'kerbsuitelaw19.GrantBounds'. -/
def grantBoundsCard : Claim7 := { stood := { row := grantBoundsRow, standIns := [], harness := (true, "5a8dfc18fb86ea1a1b7b01ec5e737276fce1a87838c623f5cd5c1f6411de1ae9"), looks := false }, kinds := [], alts := [], laidByText := true, laidKinds := [.data], laidTests := true, laidLooks := .later }
def GrantBoundsCardSaid : Prop := Claim7.holds Tryz.pinned (.plain (OpenSpec.ofChange grantBoundsSpec)) grantBoundsCard

/-- THE SECOND FORM's CARD OF 'kerbsuitelaw19.GrantBounds'. -/
def grantBoundsUptoCard : Claim7 := { stood := { row := grantBoundsUptoRow, standIns := [], harness := (true, "5a8dfc18fb86ea1a1b7b01ec5e737276fce1a87838c623f5cd5c1f6411de1ae9"), looks := false }, kinds := [], alts := [], laidByText := true, laidKinds := [.data], laidTests := true, laidLooks := .later }
def GrantBoundsUptoCardSaid : Prop := Claim7.holds Tryz.pinned (.plain (OpenSpec.upto grantBoundsSpec)) grantBoundsUptoCard
end Rows
end Go.Proofs.YtmdppipjjnfanaaGreatDoor
