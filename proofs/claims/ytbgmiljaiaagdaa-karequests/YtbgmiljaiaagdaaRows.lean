/-
  No cell of these rows narrows 'for every input' (looked for: loops, veiled, ifaces, maps, wideKeys, modest, calm, conditions, laid).
  DERIVED. THE GIVEN ROWS OF THIS SEAT. 4 by the template 'for every input the law returns true; each argument reads behind the call as it read before'; 0 by the template 'total and deterministic' (their statements: YtbgmiljaiaagdaaTotals.lean).
  GIVEN WITH THE SEED: the statements are not yours to turn. If you find one false, say at which input.
  Laid BY PROGRAM, IN A SANDBOX (cutbox-rows.mjs): the forced cells as the released guide's own fill.sh prints them over the translation d9ddbcebd1dbc4b9… (all of the seat's roots in one cut). By AI agents, Wed Nov 11 2026. No macro, syntax, notation, axiom, sorry.
-/
import Derived.Test.YtbgmiljaiaagdaaChecked
import GoSem.Claim
import GoSem.ClaimJoined
import GoSem.ClaimMapViews
import Derived.JoinedTies
import Derived.KernelRfl
namespace Go.Proofs.Ytbgmiljaiaagdaa
/- THE CELL 'sum', in the pinned program and in every row, IS THE sha256 OF THE DUMP (.gsa) THAT YtbgmiljaiaagdaaProg.lean LOADS. Nothing in Lean hashes anything: it is a label: what it is worth is what the hold of that sum in a sandbox is worth. -/
noncomputable def Try.pinned : Pinned := { name := "ytbgmiljaiaagdaa", sum := "d9ddbcebd1dbc4b9510e5ffc3ad41f0027760fbc0d522ea3db1a37c5f1dcc632", checked := Try.checked }
namespace Rows
def none {H : Type} : Left H := { results := [], args := [] }

/-- 'kerbsuitelaw22.KaRequests': WHATEVER THE INPUT: true; the input reads as it did. -/
def kaRequestsSpec : ChangeSpec := { name := "kaRequests", fn := fun _ => fun
  | [d1, d2] => { results := [.lit (.bool true)], args := [d1, d2] }
  | _ => none }
def kaRequestsRow : OpenClaim := { program := "ytbgmiljaiaagdaa", sum := "d9ddbcebd1dbc4b9510e5ffc3ad41f0027760fbc0d522ea3db1a37c5f1dcc632", func := "kerbsuite/kerbsuitelaw22.KaRequests", spec := "kaRequests", inPlace := ["internal/bytealg.IndexByteString", "internal/bytealg.IndexByte"], apart := false }
def KaRequestsSaid : Prop := kaRequestsRow.holds Try.pinned (OpenSpec.ofChange kaRequestsSpec)

/-- ITS FALSE NEIGHBOUR: 'it returns false'. Refute it at one input. -/
def kaRequestsWrong : ChangeSpec := { name := "kaRequests", fn := fun _ => fun
  | [d1, d2] => { results := [.lit (.bool false)], args := [d1, d2] }
  | _ => none }
def KaRequestsWrongFalsely : Prop := kaRequestsRow.holds Try.pinned (OpenSpec.ofChange kaRequestsWrong)

/-- 'kerbsuitelaw22.KaReplies': WHATEVER THE INPUT: true; the input reads as it did. -/
def kaRepliesSpec : ChangeSpec := { name := "kaReplies", fn := fun _ => fun
  | [d1, d2, d3, d4, d5] => { results := [.lit (.bool true)], args := [d1, d2, d3, d4, d5] }
  | _ => none }
def kaRepliesRow : OpenClaim := { program := "ytbgmiljaiaagdaa", sum := "d9ddbcebd1dbc4b9510e5ffc3ad41f0027760fbc0d522ea3db1a37c5f1dcc632", func := "kerbsuite/kerbsuitelaw22.KaReplies", spec := "kaReplies", inPlace := ["internal/bytealg.IndexByteString", "internal/bytealg.IndexByte"], apart := false }
def KaRepliesSaid : Prop := kaRepliesRow.holds Try.pinned (OpenSpec.ofChange kaRepliesSpec)

/-- ITS FALSE NEIGHBOUR: 'it returns false'. Refute it at one input. -/
def kaRepliesWrong : ChangeSpec := { name := "kaReplies", fn := fun _ => fun
  | [d1, d2, d3, d4, d5] => { results := [.lit (.bool false)], args := [d1, d2, d3, d4, d5] }
  | _ => none }
def KaRepliesWrongFalsely : Prop := kaRepliesRow.holds Try.pinned (OpenSpec.ofChange kaRepliesWrong)

/-- 'kerbsuitelaw22.KaAnswers': WHATEVER THE INPUT: true; the input reads as it did. -/
def kaAnswersSpec : ChangeSpec := { name := "kaAnswers", fn := fun _ => fun
  | [d1, d2] => { results := [.lit (.bool true)], args := [d1, d2] }
  | _ => none }
def kaAnswersRow : OpenClaim := { program := "ytbgmiljaiaagdaa", sum := "d9ddbcebd1dbc4b9510e5ffc3ad41f0027760fbc0d522ea3db1a37c5f1dcc632", func := "kerbsuite/kerbsuitelaw22.KaAnswers", spec := "kaAnswers", inPlace := ["internal/bytealg.IndexByteString", "internal/bytealg.IndexByte"], apart := false }
def KaAnswersSaid : Prop := kaAnswersRow.holds Try.pinned (OpenSpec.ofChange kaAnswersSpec)

/-- ITS FALSE NEIGHBOUR: 'it returns false'. Refute it at one input. -/
def kaAnswersWrong : ChangeSpec := { name := "kaAnswers", fn := fun _ => fun
  | [d1, d2] => { results := [.lit (.bool false)], args := [d1, d2] }
  | _ => none }
def KaAnswersWrongFalsely : Prop := kaAnswersRow.holds Try.pinned (OpenSpec.ofChange kaAnswersWrong)

/-- 'kerbsuitelaw22.KaSecrets': WHATEVER THE INPUT: true; the input reads as it did. -/
def kaSecretsSpec : ChangeSpec := { name := "kaSecrets", fn := fun _ => fun
  | [d1, d2] => { results := [.lit (.bool true)], args := [d1, d2] }
  | _ => none }
def kaSecretsRow : OpenClaim := { program := "ytbgmiljaiaagdaa", sum := "d9ddbcebd1dbc4b9510e5ffc3ad41f0027760fbc0d522ea3db1a37c5f1dcc632", func := "kerbsuite/kerbsuitelaw22.KaSecrets", spec := "kaSecrets", inPlace := ["internal/bytealg.IndexByteString", "internal/bytealg.IndexByte"], apart := false }
def KaSecretsSaid : Prop := kaSecretsRow.holds Try.pinned (OpenSpec.ofChange kaSecretsSpec)

/-- ITS FALSE NEIGHBOUR: 'it returns false'. Refute it at one input. -/
def kaSecretsWrong : ChangeSpec := { name := "kaSecrets", fn := fun _ => fun
  | [d1, d2] => { results := [.lit (.bool false)], args := [d1, d2] }
  | _ => none }
def KaSecretsWrongFalsely : Prop := kaSecretsRow.holds Try.pinned (OpenSpec.ofChange kaSecretsWrong)

/- THE SECOND FORM. 'bulk': how many values and letters a reading holds, each counted each time it is reached (what is shared counts as often as it is met; a slice's spare places count too). A statement '..UptoSaid' is the law's where the arguments, and the package variables that the reading takes, are together of bulk at most 1048576: NARROWER than '..Said'. Prove '..Said' where nothing that the law and all that it calls make is longer than what came in: it says more and counts as full. Else prove '..UptoSaid'. A law counts once. -/
mutual
def uptoBulk {H : Type} : DataW H → Nat
  | .lit (.string bytes) => bytes.length + 1
  | .lit _ => 1
  | .nil => 1
  | .ptr d => uptoBulk d + 1
  | .slice elems spare => uptoBulkAll elems + uptoBulkAll spare + 1
  | .agg parts => uptoBulkAll parts + 1
  | .iface _ d => uptoBulk d + 1
  | .map entries => uptoBulkEntries entries + 1
  | .held _ => 1
def uptoBulkAll {H : Type} : List (DataW H) → Nat
  | [] => 0
  | d :: r => uptoBulk d + uptoBulkAll r
def uptoBulkEntries {H : Type} : List (Lit × DataW H) → Nat
  | [] => 0
  | x :: r => uptoBulkEntry x + uptoBulkEntries r
def uptoBulkEntry {H : Type} : Lit × DataW H → Nat
  | (.string bytes, d) => bytes.length + uptoBulk d + 1
  | (_, d) => uptoBulk d + 1
 end
def uptoSmall : (H : Type) → List (DataW H) → Bool := fun _ ds => decide (uptoBulkAll ds ≤ 1048576)
def OpenSpec.upto (s : _root_.Go.ChangeSpec) : _root_.Go.OpenSpec := { _root_.Go.OpenSpec.ofChange s with cond := some uptoSmall }

/-- 'kerbsuitelaw22.KaRequests', WHERE WHAT IT READS IS OF BULK AT MOST 1048576: true; the input reads as it did. -/
def kaRequestsUptoRow : OpenClaim := { program := "ytbgmiljaiaagdaa", sum := "d9ddbcebd1dbc4b9510e5ffc3ad41f0027760fbc0d522ea3db1a37c5f1dcc632", func := "kerbsuite/kerbsuitelaw22.KaRequests", spec := "kaRequests", inPlace := ["internal/bytealg.IndexByteString", "internal/bytealg.IndexByte"], apart := false, narrowed := true }
def KaRequestsUptoSaid : Prop := kaRequestsUptoRow.holds Try.pinned (OpenSpec.upto kaRequestsSpec)

/-- 'kerbsuitelaw22.KaReplies', WHERE WHAT IT READS IS OF BULK AT MOST 1048576: true; the input reads as it did. -/
def kaRepliesUptoRow : OpenClaim := { program := "ytbgmiljaiaagdaa", sum := "d9ddbcebd1dbc4b9510e5ffc3ad41f0027760fbc0d522ea3db1a37c5f1dcc632", func := "kerbsuite/kerbsuitelaw22.KaReplies", spec := "kaReplies", inPlace := ["internal/bytealg.IndexByteString", "internal/bytealg.IndexByte"], apart := false, narrowed := true }
def KaRepliesUptoSaid : Prop := kaRepliesUptoRow.holds Try.pinned (OpenSpec.upto kaRepliesSpec)

/-- 'kerbsuitelaw22.KaAnswers', WHERE WHAT IT READS IS OF BULK AT MOST 1048576: true; the input reads as it did. -/
def kaAnswersUptoRow : OpenClaim := { program := "ytbgmiljaiaagdaa", sum := "d9ddbcebd1dbc4b9510e5ffc3ad41f0027760fbc0d522ea3db1a37c5f1dcc632", func := "kerbsuite/kerbsuitelaw22.KaAnswers", spec := "kaAnswers", inPlace := ["internal/bytealg.IndexByteString", "internal/bytealg.IndexByte"], apart := false, narrowed := true }
def KaAnswersUptoSaid : Prop := kaAnswersUptoRow.holds Try.pinned (OpenSpec.upto kaAnswersSpec)

/-- 'kerbsuitelaw22.KaSecrets', WHERE WHAT IT READS IS OF BULK AT MOST 1048576: true; the input reads as it did. -/
def kaSecretsUptoRow : OpenClaim := { program := "ytbgmiljaiaagdaa", sum := "d9ddbcebd1dbc4b9510e5ffc3ad41f0027760fbc0d522ea3db1a37c5f1dcc632", func := "kerbsuite/kerbsuitelaw22.KaSecrets", spec := "kaSecrets", inPlace := ["internal/bytealg.IndexByteString", "internal/bytealg.IndexByte"], apart := false, narrowed := true }
def KaSecretsUptoSaid : Prop := kaSecretsUptoRow.holds Try.pinned (OpenSpec.upto kaSecretsSpec)

end Rows
end Go.Proofs.Ytbgmiljaiaagdaa
