/-
  DERIVED. GIVEN WITH THE SEED: THE CARDS: each row of YtlhambpafcdkbaaGreatDoorRows.lean that lists a variable, with what it lists TIED to the program's text (the seventh form; the later family's looks); each row that meets fmt, with fmt's text TOLD by the authors' own Lean function (tested against real Go, not proved from fmt's source: count such statements apart). THE CARD IS WHAT COUNTS. Prove the row's statement (the work); the ties are given (YtlhambpafcdkbaaGreatDoorTie.lean); close each card by the builder's one call (the guide's Derived/Test/ToyasCard.lean, 'card_holds'). Laid BY PROGRAM, IN A SANDBOX (cutbox-door.mjs). By AI agents, Wed Nov 11 2026. No macro, syntax, notation, axiom, sorry.
-/
import Derived.Test.YtlhambpafcdkbaaGreatDoorRows
import GoSem.ClaimSeven
namespace Go.Proofs.YtlhambpafcdkbaaGreatDoor
namespace Rows

/-- THE TIED CARD OF 'kerbsuitelaw17.AuthserverIssues'. -/
def authserverIssuesCard : Claim7 := { stood := { row := authserverIssuesRow, standIns := [], harness := (true, "a98cf695db7cdf25aeffe2528a1538bd4a72469427e81a5911e3ba87c74256e8"), looks := false }, kinds := [], alts := [], laidByText := true, laidKinds := [.data], laidTests := true, laidLooks := .later }
def AuthserverIssuesCardSaid : Prop := Claim7.holds Tryz.pinned (.plain (OpenSpec.ofChange authserverIssuesSpec)) authserverIssuesCard

/-- THE SECOND FORM's CARD OF 'kerbsuitelaw17.AuthserverIssues'. -/
def authserverIssuesUptoCard : Claim7 := { stood := { row := authserverIssuesUptoRow, standIns := [], harness := (true, "a98cf695db7cdf25aeffe2528a1538bd4a72469427e81a5911e3ba87c74256e8"), looks := false }, kinds := [], alts := [], laidByText := true, laidKinds := [.data], laidTests := true, laidLooks := .later }
def AuthserverIssuesUptoCardSaid : Prop := Claim7.holds Tryz.pinned (.plain (OpenSpec.upto authserverIssuesSpec)) authserverIssuesUptoCard
end Rows
end Go.Proofs.YtlhambpafcdkbaaGreatDoor
