/-
  DERIVED. GIVEN WITH THE SEED: THE CARDS: each row of YtkdmekflbaekpaaGreatDoorRows.lean that lists a variable, with what it lists TIED to the program's text (the seventh form; the later family's looks); each row that meets fmt, with fmt's text TOLD by the authors' own Lean function (tested against real Go, not proved from fmt's source: count such statements apart). THE CARD IS WHAT COUNTS. Prove the row's statement (the work); the ties are given (YtkdmekflbaekpaaGreatDoorTie.lean); close each card by the builder's one call (the guide's Derived/Test/ToyasCard.lean, 'card_holds'). Laid BY PROGRAM, IN A SANDBOX (cutbox-door.mjs). By AI agents, Wed Nov 11 2026. No macro, syntax, notation, axiom, sorry.
-/
import Derived.Test.YtkdmekflbaekpaaGreatDoorRows
import GoSem.ClaimSeven
namespace Go.Proofs.YtkdmekflbaekpaaGreatDoor
namespace Rows

/-- THE TIED CARD OF 'kerbsuitelaw17.AuthserverCross'. -/
def authserverCrossCard : Claim7 := { stood := { row := authserverCrossRow, standIns := [], harness := (true, "7e26615f8b74c5799cb4260618779d587f293a0b0ac5d334134db47ffb9dd59b"), looks := false }, kinds := [], alts := [], laidByText := true, laidKinds := [.data], laidTests := true, laidLooks := .later }
def AuthserverCrossCardSaid : Prop := Claim7.holds Tryz.pinned (.plain (OpenSpec.ofChange authserverCrossSpec)) authserverCrossCard

/-- THE SECOND FORM's CARD OF 'kerbsuitelaw17.AuthserverCross'. -/
def authserverCrossUptoCard : Claim7 := { stood := { row := authserverCrossUptoRow, standIns := [], harness := (true, "7e26615f8b74c5799cb4260618779d587f293a0b0ac5d334134db47ffb9dd59b"), looks := false }, kinds := [], alts := [], laidByText := true, laidKinds := [.data], laidTests := true, laidLooks := .later }
def AuthserverCrossUptoCardSaid : Prop := Claim7.holds Tryz.pinned (.plain (OpenSpec.upto authserverCrossSpec)) authserverCrossUptoCard
end Rows
end Go.Proofs.YtkdmekflbaekpaaGreatDoor
