/-
  DERIVED. GIVEN WITH THE SEED: THE CARDS: each row of YtojagnkahnpklaaGreatDoorRows.lean that lists a variable, with what it lists TIED to the program's text (the seventh form; the later family's looks); each row that meets fmt, with fmt's text TOLD by the authors' own Lean function (tested against real Go, not proved from fmt's source: count such statements apart). THE CARD IS WHAT COUNTS. Prove the row's statement (the work); the ties are given (YtojagnkahnpklaaGreatDoorTie.lean); close each card by the builder's one call (the guide's Derived/Test/ToyasCard.lean, 'card_holds'). Laid BY PROGRAM, IN A SANDBOX (cutbox-door.mjs). By AI agents, Wed Nov 11 2026. No macro, syntax, notation, axiom, sorry.
-/
import Derived.Test.YtojagnkahnpklaaGreatDoorRows
import GoSem.ClaimSeven
namespace Go.Proofs.YtojagnkahnpklaaGreatDoor
namespace Rows

/-- THE TIED CARD OF 'kerbsuitelaw17.AuthserverServices'. -/
def authserverServicesCard : Claim7 := { stood := { row := authserverServicesRow, standIns := [], harness := (true, "cce5051b7932d042b79b11046aa56b470e56c5a92feebeb2c34313f58001a9a7"), looks := false }, kinds := [], alts := [], laidByText := true, laidKinds := [.data], laidTests := true, laidLooks := .later }
def AuthserverServicesCardSaid : Prop := Claim7.holds Tryz.pinned (.plain (OpenSpec.ofChange authserverServicesSpec)) authserverServicesCard

/-- THE SECOND FORM's CARD OF 'kerbsuitelaw17.AuthserverServices'. -/
def authserverServicesUptoCard : Claim7 := { stood := { row := authserverServicesUptoRow, standIns := [], harness := (true, "cce5051b7932d042b79b11046aa56b470e56c5a92feebeb2c34313f58001a9a7"), looks := false }, kinds := [], alts := [], laidByText := true, laidKinds := [.data], laidTests := true, laidLooks := .later }
def AuthserverServicesUptoCardSaid : Prop := Claim7.holds Tryz.pinned (.plain (OpenSpec.upto authserverServicesSpec)) authserverServicesUptoCard
end Rows
end Go.Proofs.YtojagnkahnpklaaGreatDoor
