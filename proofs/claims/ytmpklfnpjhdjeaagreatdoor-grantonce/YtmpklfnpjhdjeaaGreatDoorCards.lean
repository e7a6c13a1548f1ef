/-
  DERIVED. GIVEN WITH THE SEED: THE CARDS: each row of YtmpklfnpjhdjeaaGreatDoorRows.lean that lists a variable, with what it lists TIED to the program's text (the seventh form; the later family's looks); each row that meets fmt, with fmt's text TOLD by the authors' own Lean function (tested against real Go, not proved from fmt's source: count such statements apart). THE CARD IS WHAT COUNTS. Prove the row's statement (the work); the ties are given (YtmpklfnpjhdjeaaGreatDoorTie.lean); close each card by the builder's one call (the guide's Derived/Test/ToyasCard.lean, 'card_holds'). Laid BY PROGRAM, IN A SANDBOX (cutbox-door.mjs). By AI agents, Wed Nov 11 2026. No macro, syntax, notation, axiom, sorry.
-/
import Derived.Test.YtmpklfnpjhdjeaaGreatDoorRows
import GoSem.ClaimSeven
namespace Go.Proofs.YtmpklfnpjhdjeaaGreatDoor
namespace Rows

/-- THE TIED CARD OF 'kerbsuitelaw19.GrantOnce'. -/
def grantOnceCard : Claim7 := { stood := { row := grantOnceRow, standIns := [], harness := (true, "e44a81f07bd875b734d16c29e28cd00ac60132aeaf492d5e899cd7882c9c9f1e"), looks := false }, kinds := [], alts := [], laidByText := true, laidKinds := [.data], laidTests := true, laidLooks := .later }
def GrantOnceCardSaid : Prop := Claim7.holds Tryz.pinned (.plain (OpenSpec.ofChange grantOnceSpec)) grantOnceCard

/-- THE SECOND FORM's CARD OF 'kerbsuitelaw19.GrantOnce'. -/
def grantOnceUptoCard : Claim7 := { stood := { row := grantOnceUptoRow, standIns := [], harness := (true, "e44a81f07bd875b734d16c29e28cd00ac60132aeaf492d5e899cd7882c9c9f1e"), looks := false }, kinds := [], alts := [], laidByText := true, laidKinds := [.data], laidTests := true, laidLooks := .later }
def GrantOnceUptoCardSaid : Prop := Claim7.holds Tryz.pinned (.plain (OpenSpec.upto grantOnceSpec)) grantOnceUptoCard
end Rows
end Go.Proofs.YtmpklfnpjhdjeaaGreatDoor
