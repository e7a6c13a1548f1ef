/-
  No cell of these rows narrows 'for every input' (looked for: loops, veiled, ifaces, maps, wideKeys, modest, calm, conditions, laid).
  DERIVED. THE GIVEN ROWS OF THIS SEAT. 5 by the template 'for every input the law returns true; each argument reads behind the call as it read before'; 0 by the template 'total and deterministic' (their statements: YtojielacjhifeaaGreatTotals.lean).
  GIVEN WITH THE SEED: the statements are not yours to turn. If you find one false, say at which input.
  Laid BY PROGRAM, IN A SANDBOX (cutbox-rows.mjs): the forced cells as the released guide's own fill.sh prints them over the translation 3954ad2194fb3251… (all of the seat's roots in one cut). By AI agents, Wed Nov 11 2026. No macro, syntax, notation, axiom, sorry.
-/
import Derived.Test.YtojielacjhifeaaGreatChecked
import GoSem.Claim
import GoSem.ClaimJoined
import GoSem.ClaimMapViews
import Derived.JoinedTies
import Derived.KernelRfl
namespace Go.Proofs.YtojielacjhifeaaGreat
/- THE CELL 'sum', in the pinned program and in every row, IS THE sha256 OF THE DUMP (.gsa) THAT YtojielacjhifeaaGreatProg.lean LOADS. Nothing in Lean hashes anything: it is a label: what it is worth is what the hold of that sum in a sandbox is worth. -/
noncomputable def Tryz.pinned : Pinned := { name := "ytojielacjhifeaagreat", sum := "3954ad2194fb3251c213791b65387e68b7657aca81291d8637d555c8469e7c91", checked := Tryz.checked }
namespace Rows
def none {H : Type} : Left H := { results := [], args := [] }

/-- 'kerbsuitelaw20.ClientRequests': WHATEVER THE INPUT: true; the input reads as it did. -/
def clientRequestsSpec : ChangeSpec := { name := "clientRequests", fn := fun _ => fun
  | [d1, d2, d3, d4, d5, d6, d7, d8, d9, d10, d11] => { results := [.lit (.bool true)], args := [d1, d2, d3, d4, d5, d6, d7, d8, d9, d10, d11] }
  | _ => none }
def clientRequestsRow : OpenClaim := { program := "ytojielacjhifeaagreat", sum := "3954ad2194fb3251c213791b65387e68b7657aca81291d8637d555c8469e7c91", func := "kerbsuite/kerbsuitelaw20.ClientRequests", spec := "clientRequests", inPlace := ["internal/bytealg.IndexByteString"], unfollowed := true, recurses := true, apart := false }
def ClientRequestsSaid : Prop := clientRequestsRow.holds Tryz.pinned (OpenSpec.ofChange clientRequestsSpec)

/-- ITS FALSE NEIGHBOUR: 'it returns false'. Refute it at one input. -/
def clientRequestsWrong : ChangeSpec := { name := "clientRequests", fn := fun _ => fun
  | [d1, d2, d3, d4, d5, d6, d7, d8, d9, d10, d11] => { results := [.lit (.bool false)], args := [d1, d2, d3, d4, d5, d6, d7, d8, d9, d10, d11] }
  | _ => none }
def ClientRequestsWrongFalsely : Prop := clientRequestsRow.holds Tryz.pinned (OpenSpec.ofChange clientRequestsWrong)

/-- 'kerbsuitelaw20.ClientMakes': WHATEVER THE INPUT: true; the input reads as it did. -/
def clientMakesSpec : ChangeSpec := { name := "clientMakes", fn := fun _ => fun
  | [d1, d2, d3, d4, d5, d6] => { results := [.lit (.bool true)], args := [d1, d2, d3, d4, d5, d6] }
  | _ => none }
def clientMakesRow : OpenClaim := { program := "ytojielacjhifeaagreat", sum := "3954ad2194fb3251c213791b65387e68b7657aca81291d8637d555c8469e7c91", func := "kerbsuite/kerbsuitelaw20.ClientMakes", spec := "clientMakes", inPlace := ["internal/bytealg.IndexByteString"], unfollowed := true, recurses := true, apart := false }
def ClientMakesSaid : Prop := clientMakesRow.holds Tryz.pinned (OpenSpec.ofChange clientMakesSpec)

/-- ITS FALSE NEIGHBOUR: 'it returns false'. Refute it at one input. -/
def clientMakesWrong : ChangeSpec := { name := "clientMakes", fn := fun _ => fun
  | [d1, d2, d3, d4, d5, d6] => { results := [.lit (.bool false)], args := [d1, d2, d3, d4, d5, d6] }
  | _ => none }
def ClientMakesWrongFalsely : Prop := clientMakesRow.holds Tryz.pinned (OpenSpec.ofChange clientMakesWrong)

/-- 'kerbsuitelaw20.ClientAnswers': WHATEVER THE INPUT: true; the input reads as it did. -/
def clientAnswersSpec : ChangeSpec := { name := "clientAnswers", fn := fun _ => fun
  | [d1, d2, d3, d4, d5, d6, d7, d8] => { results := [.lit (.bool true)], args := [d1, d2, d3, d4, d5, d6, d7, d8] }
  | _ => none }
def clientAnswersRow : OpenClaim := { program := "ytojielacjhifeaagreat", sum := "3954ad2194fb3251c213791b65387e68b7657aca81291d8637d555c8469e7c91", func := "kerbsuite/kerbsuitelaw20.ClientAnswers", spec := "clientAnswers", inPlace := ["internal/bytealg.IndexByteString"], unfollowed := true, recurses := true, apart := false }
def ClientAnswersSaid : Prop := clientAnswersRow.holds Tryz.pinned (OpenSpec.ofChange clientAnswersSpec)

/-- ITS FALSE NEIGHBOUR: 'it returns false'. Refute it at one input. -/
def clientAnswersWrong : ChangeSpec := { name := "clientAnswers", fn := fun _ => fun
  | [d1, d2, d3, d4, d5, d6, d7, d8] => { results := [.lit (.bool false)], args := [d1, d2, d3, d4, d5, d6, d7, d8] }
  | _ => none }
def ClientAnswersWrongFalsely : Prop := clientAnswersRow.holds Tryz.pinned (OpenSpec.ofChange clientAnswersWrong)

/-- 'kerbsuitelaw20.ClientReceives': WHATEVER THE INPUT: true; the input reads as it did. -/
def clientReceivesSpec : ChangeSpec := { name := "clientReceives", fn := fun _ => fun
  | [d1, d2, d3, d4, d5, d6, d7, d8, d9] => { results := [.lit (.bool true)], args := [d1, d2, d3, d4, d5, d6, d7, d8, d9] }
  | _ => none }
def clientReceivesRow : OpenClaim := { program := "ytojielacjhifeaagreat", sum := "3954ad2194fb3251c213791b65387e68b7657aca81291d8637d555c8469e7c91", func := "kerbsuite/kerbsuitelaw20.ClientReceives", spec := "clientReceives", inPlace := ["internal/bytealg.IndexByteString", "internal/bytealg.IndexByte"], unfollowed := true, recurses := true, apart := false }
def ClientReceivesSaid : Prop := clientReceivesRow.holds Tryz.pinned (OpenSpec.ofChange clientReceivesSpec)

/-- ITS FALSE NEIGHBOUR: 'it returns false'. Refute it at one input. -/
def clientReceivesWrong : ChangeSpec := { name := "clientReceives", fn := fun _ => fun
  | [d1, d2, d3, d4, d5, d6, d7, d8, d9] => { results := [.lit (.bool false)], args := [d1, d2, d3, d4, d5, d6, d7, d8, d9] }
  | _ => none }
def ClientReceivesWrongFalsely : Prop := clientReceivesRow.holds Tryz.pinned (OpenSpec.ofChange clientReceivesWrong)

/-- 'kerbsuitelaw20.ClientKeeps': WHATEVER THE INPUT: true; the input reads as it did. -/
def clientKeepsSpec : ChangeSpec := { name := "clientKeeps", fn := fun _ => fun
  | [d1, d2, d3, d4] => { results := [.lit (.bool true)], args := [d1, d2, d3, d4] }
  | _ => none }
def clientKeepsRow : OpenClaim := { program := "ytojielacjhifeaagreat", sum := "3954ad2194fb3251c213791b65387e68b7657aca81291d8637d555c8469e7c91", func := "kerbsuite/kerbsuitelaw20.ClientKeeps", spec := "clientKeeps", inPlace := ["internal/bytealg.IndexByteString", "internal/bytealg.IndexByte"], unfollowed := true, recurses := true, apart := false }
def ClientKeepsSaid : Prop := clientKeepsRow.holds Tryz.pinned (OpenSpec.ofChange clientKeepsSpec)

/-- ITS FALSE NEIGHBOUR: 'it returns false'. Refute it at one input. -/
def clientKeepsWrong : ChangeSpec := { name := "clientKeeps", fn := fun _ => fun
  | [d1, d2, d3, d4] => { results := [.lit (.bool false)], args := [d1, d2, d3, d4] }
  | _ => none }
def ClientKeepsWrongFalsely : Prop := clientKeepsRow.holds Tryz.pinned (OpenSpec.ofChange clientKeepsWrong)

/- THE SECOND FORM. 'bulk': how many values and letters a reading holds, each counted each time it is reached (what is shared counts as often as it is met; a slice's spare places count too). A statement '..UptoSaid' is the law's where the arguments, and the package variables that the reading takes, are together of bulk at most 1048576: NARROWER than '..Said'. Prove '..Said' where nothing that the law and all that it calls make is longer than what came in: it says more and counts as full. Else prove '..UptoSaid'. A law counts once. -/
mutual
def uptoBulk {H : Type} : DataW H → Nat
  | .lit (.string bytes) => bytes.length + 1
  | .lit _ => 1
  | .nil => 1
  | .ptr d => uptoBulk d + 1
  | .slice elems spare => uptoBulkAll elems + uptoBulkAll spare + 1
  | .agg parts => uptoBulkAll parts + 1
  | .iface _ d => uptoBulk d + 1
  | .map entries => uptoBulkEntries entries + 1
  | .held _ => 1
def uptoBulkAll {H : Type} : List (DataW H) → Nat
  | [] => 0
  | d :: r => uptoBulk d + uptoBulkAll r
def uptoBulkEntries {H : Type} : List (Lit × DataW H) → Nat
  | [] => 0
  | x :: r => uptoBulkEntry x + uptoBulkEntries r
def uptoBulkEntry {H : Type} : Lit × DataW H → Nat
  | (.string bytes, d) => bytes.length + uptoBulk d + 1
  | (_, d) => uptoBulk d + 1
 end
def uptoSmall : (H : Type) → List (DataW H) → Bool := fun _ ds => decide (uptoBulkAll ds ≤ 1048576)
def OpenSpec.upto (s : _root_.Go.ChangeSpec) : _root_.Go.OpenSpec := { _root_.Go.OpenSpec.ofChange s with cond := some uptoSmall }

/-- 'kerbsuitelaw20.ClientRequests', WHERE WHAT IT READS IS OF BULK AT MOST 1048576: true; the input reads as it did. -/
def clientRequestsUptoRow : OpenClaim := { program := "ytojielacjhifeaagreat", sum := "3954ad2194fb3251c213791b65387e68b7657aca81291d8637d555c8469e7c91", func := "kerbsuite/kerbsuitelaw20.ClientRequests", spec := "clientRequests", inPlace := ["internal/bytealg.IndexByteString"], unfollowed := true, recurses := true, apart := false, narrowed := true }
def ClientRequestsUptoSaid : Prop := clientRequestsUptoRow.holds Tryz.pinned (OpenSpec.upto clientRequestsSpec)

/-- 'kerbsuitelaw20.ClientMakes', WHERE WHAT IT READS IS OF BULK AT MOST 1048576: true; the input reads as it did. -/
def clientMakesUptoRow : OpenClaim := { program := "ytojielacjhifeaagreat", sum := "3954ad2194fb3251c213791b65387e68b7657aca81291d8637d555c8469e7c91", func := "kerbsuite/kerbsuitelaw20.ClientMakes", spec := "clientMakes", inPlace := ["internal/bytealg.IndexByteString"], unfollowed := true, recurses := true, apart := false, narrowed := true }
def ClientMakesUptoSaid : Prop := clientMakesUptoRow.holds Tryz.pinned (OpenSpec.upto clientMakesSpec)

/-- 'kerbsuitelaw20.ClientAnswers', WHERE WHAT IT READS IS OF BULK AT MOST 1048576: true; the input reads as it did. -/
def clientAnswersUptoRow : OpenClaim := { program := "ytojielacjhifeaagreat", sum := "3954ad2194fb3251c213791b65387e68b7657aca81291d8637d555c8469e7c91", func := "kerbsuite/kerbsuitelaw20.ClientAnswers", spec := "clientAnswers", inPlace := ["internal/bytealg.IndexByteString"], unfollowed := true, recurses := true, apart := false, narrowed := true }
def ClientAnswersUptoSaid : Prop := clientAnswersUptoRow.holds Tryz.pinned (OpenSpec.upto clientAnswersSpec)

/-- 'kerbsuitelaw20.ClientReceives', WHERE WHAT IT READS IS OF BULK AT MOST 1048576: true; the input reads as it did. -/
def clientReceivesUptoRow : OpenClaim := { program := "ytojielacjhifeaagreat", sum := "3954ad2194fb3251c213791b65387e68b7657aca81291d8637d555c8469e7c91", func := "kerbsuite/kerbsuitelaw20.ClientReceives", spec := "clientReceives", inPlace := ["internal/bytealg.IndexByteString", "internal/bytealg.IndexByte"], unfollowed := true, recurses := true, apart := false, narrowed := true }
def ClientReceivesUptoSaid : Prop := clientReceivesUptoRow.holds Tryz.pinned (OpenSpec.upto clientReceivesSpec)

/-- 'kerbsuitelaw20.ClientKeeps', WHERE WHAT IT READS IS OF BULK AT MOST 1048576: true; the input reads as it did. -/
def clientKeepsUptoRow : OpenClaim := { program := "ytojielacjhifeaagreat", sum := "3954ad2194fb3251c213791b65387e68b7657aca81291d8637d555c8469e7c91", func := "kerbsuite/kerbsuitelaw20.ClientKeeps", spec := "clientKeeps", inPlace := ["internal/bytealg.IndexByteString", "internal/bytealg.IndexByte"], unfollowed := true, recurses := true, apart := false, narrowed := true }
def ClientKeepsUptoSaid : Prop := clientKeepsUptoRow.holds Tryz.pinned (OpenSpec.upto clientKeepsSpec)

end Rows
end Go.Proofs.YtojielacjhifeaaGreat
