/-
  No cell of these rows narrows 'for every input' (looked for: loops, veiled, ifaces, maps, wideKeys, modest, calm, conditions, laid).
  DERIVED. THE GIVEN ROWS OF THIS SEAT. 6 by the template 'for every input the law returns true; each argument reads behind the call as it read before'; 0 by the template 'total and deterministic' (their statements: YtiplnpablmohiaaGreatTotals.lean).
  GIVEN WITH THE SEED: the statements are not yours to turn. If you find one false, say at which input.
  Laid BY PROGRAM, IN A SANDBOX (cutbox-rows.mjs): the forced cells as the released guide's own fill.sh prints them over the translation 1ee0f42c5af2b01a… (all of the seat's roots in one cut). By AI agents, Wed Nov 11 2026. No macro, syntax, notation, axiom, sorry.
-/
import Derived.Test.YtiplnpablmohiaaGreatChecked
import GoSem.Claim
import GoSem.ClaimJoined
import GoSem.ClaimMapViews
import Derived.JoinedTies
import Derived.KernelRfl
namespace Go.Proofs.YtiplnpablmohiaaGreat
/- THE CELL 'sum', in the pinned program and in every row, IS THE sha256 OF THE DUMP (.gsa) THAT YtiplnpablmohiaaGreatProg.lean LOADS. Nothing in Lean hashes anything: it is a label: what it is worth is what the hold of that sum in a sandbox is worth. -/
noncomputable def Tryz.pinned : Pinned := { name := "ytiplnpablmohiaagreat", sum := "1ee0f42c5af2b01ad63c88c347c28579e67ebdc7f6a679df2208c6d75907a62d", checked := Tryz.checked }
namespace Rows
def none {H : Type} : Left H := { results := [], args := [] }

/-- 'kerbsuitelaw18.VerifierReads': WHATEVER THE INPUT: true; the input reads as it did. -/
def verifierReadsSpec : ChangeSpec := { name := "verifierReads", fn := fun _ => fun
  | [d1, d2, d3, d4, d5, d6, d7] => { results := [.lit (.bool true)], args := [d1, d2, d3, d4, d5, d6, d7] }
  | _ => none }
def verifierReadsRow : OpenClaim := { program := "ytiplnpablmohiaagreat", sum := "1ee0f42c5af2b01ad63c88c347c28579e67ebdc7f6a679df2208c6d75907a62d", func := "kerbsuite/kerbsuitelaw18.VerifierReads", spec := "verifierReads", inPlace := ["internal/bytealg.IndexByte", "internal/bytealg.IndexByteString"], apart := false }
def VerifierReadsSaid : Prop := verifierReadsRow.holds Tryz.pinned (OpenSpec.ofChange verifierReadsSpec)

/-- ITS FALSE NEIGHBOUR: 'it returns false'. Refute it at one input. -/
def verifierReadsWrong : ChangeSpec := { name := "verifierReads", fn := fun _ => fun
  | [d1, d2, d3, d4, d5, d6, d7] => { results := [.lit (.bool false)], args := [d1, d2, d3, d4, d5, d6, d7] }
  | _ => none }
def VerifierReadsWrongFalsely : Prop := verifierReadsRow.holds Tryz.pinned (OpenSpec.ofChange verifierReadsWrong)

/-- 'kerbsuitelaw18.VerifierAny': WHATEVER THE INPUT: true; the input reads as it did. -/
def verifierAnySpec : ChangeSpec := { name := "verifierAny", fn := fun _ => fun
  | [d1, d2, d3, d4, d5, d6, d7, d8] => { results := [.lit (.bool true)], args := [d1, d2, d3, d4, d5, d6, d7, d8] }
  | _ => none }
def verifierAnyRow : OpenClaim := { program := "ytiplnpablmohiaagreat", sum := "1ee0f42c5af2b01ad63c88c347c28579e67ebdc7f6a679df2208c6d75907a62d", func := "kerbsuite/kerbsuitelaw18.VerifierAny", spec := "verifierAny", inPlace := ["internal/bytealg.IndexByte", "internal/bytealg.IndexByteString"], apart := false }
def VerifierAnySaid : Prop := verifierAnyRow.holds Tryz.pinned (OpenSpec.ofChange verifierAnySpec)

/-- ITS FALSE NEIGHBOUR: 'it returns false'. Refute it at one input. -/
def verifierAnyWrong : ChangeSpec := { name := "verifierAny", fn := fun _ => fun
  | [d1, d2, d3, d4, d5, d6, d7, d8] => { results := [.lit (.bool false)], args := [d1, d2, d3, d4, d5, d6, d7, d8] }
  | _ => none }
def VerifierAnyWrongFalsely : Prop := verifierAnyRow.holds Tryz.pinned (OpenSpec.ofChange verifierAnyWrong)

/-- 'kerbsuitelaw18.VerifierTimely': WHATEVER THE INPUT: true; the input reads as it did. -/
def verifierTimelySpec : ChangeSpec := { name := "verifierTimely", fn := fun _ => fun
  | [d1, d2, d3, d4] => { results := [.lit (.bool true)], args := [d1, d2, d3, d4] }
  | _ => none }
def verifierTimelyRow : OpenClaim := { program := "ytiplnpablmohiaagreat", sum := "1ee0f42c5af2b01ad63c88c347c28579e67ebdc7f6a679df2208c6d75907a62d", func := "kerbsuite/kerbsuitelaw18.VerifierTimely", spec := "verifierTimely", inPlace := ["internal/bytealg.IndexByte", "internal/bytealg.IndexByteString"], apart := false }
def VerifierTimelySaid : Prop := verifierTimelyRow.holds Tryz.pinned (OpenSpec.ofChange verifierTimelySpec)

/-- ITS FALSE NEIGHBOUR: 'it returns false'. Refute it at one input. -/
def verifierTimelyWrong : ChangeSpec := { name := "verifierTimely", fn := fun _ => fun
  | [d1, d2, d3, d4] => { results := [.lit (.bool false)], args := [d1, d2, d3, d4] }
  | _ => none }
def VerifierTimelyWrongFalsely : Prop := verifierTimelyRow.holds Tryz.pinned (OpenSpec.ofChange verifierTimelyWrong)

/-- 'kerbsuitelaw18.VerifierOnce': WHATEVER THE INPUT: true; the input reads as it did. -/
def verifierOnceSpec : ChangeSpec := { name := "verifierOnce", fn := fun _ => fun
  | [d1, d2, d3, d4] => { results := [.lit (.bool true)], args := [d1, d2, d3, d4] }
  | _ => none }
def verifierOnceRow : OpenClaim := { program := "ytiplnpablmohiaagreat", sum := "1ee0f42c5af2b01ad63c88c347c28579e67ebdc7f6a679df2208c6d75907a62d", func := "kerbsuite/kerbsuitelaw18.VerifierOnce", spec := "verifierOnce", inPlace := ["internal/bytealg.IndexByte", "internal/bytealg.IndexByteString"], apart := false }
def VerifierOnceSaid : Prop := verifierOnceRow.holds Tryz.pinned (OpenSpec.ofChange verifierOnceSpec)

/-- ITS FALSE NEIGHBOUR: 'it returns false'. Refute it at one input. -/
def verifierOnceWrong : ChangeSpec := { name := "verifierOnce", fn := fun _ => fun
  | [d1, d2, d3, d4] => { results := [.lit (.bool false)], args := [d1, d2, d3, d4] }
  | _ => none }
def VerifierOnceWrongFalsely : Prop := verifierOnceRow.holds Tryz.pinned (OpenSpec.ofChange verifierOnceWrong)

/-- 'kerbsuitelaw18.VerifierAnswers': WHATEVER THE INPUT: true; the input reads as it did. -/
def verifierAnswersSpec : ChangeSpec := { name := "verifierAnswers", fn := fun _ => fun
  | [d1, d2] => { results := [.lit (.bool true)], args := [d1, d2] }
  | _ => none }
def verifierAnswersRow : OpenClaim := { program := "ytiplnpablmohiaagreat", sum := "1ee0f42c5af2b01ad63c88c347c28579e67ebdc7f6a679df2208c6d75907a62d", func := "kerbsuite/kerbsuitelaw18.VerifierAnswers", spec := "verifierAnswers", inPlace := ["internal/bytealg.IndexByte", "internal/bytealg.IndexByteString"], apart := false }
def VerifierAnswersSaid : Prop := verifierAnswersRow.holds Tryz.pinned (OpenSpec.ofChange verifierAnswersSpec)

/-- ITS FALSE NEIGHBOUR: 'it returns false'. Refute it at one input. -/
def verifierAnswersWrong : ChangeSpec := { name := "verifierAnswers", fn := fun _ => fun
  | [d1, d2] => { results := [.lit (.bool false)], args := [d1, d2] }
  | _ => none }
def VerifierAnswersWrongFalsely : Prop := verifierAnswersRow.holds Tryz.pinned (OpenSpec.ofChange verifierAnswersWrong)

/-- 'kerbsuitelaw18.VerifierNew': WHATEVER THE INPUT: true; the input reads as it did. -/
def verifierNewSpec : ChangeSpec := { name := "verifierNew", fn := fun _ => fun
  | [d1, d2, d3, d4, d5, d6, d7, d8] => { results := [.lit (.bool true)], args := [d1, d2, d3, d4, d5, d6, d7, d8] }
  | _ => none }
def verifierNewRow : OpenClaim := { program := "ytiplnpablmohiaagreat", sum := "1ee0f42c5af2b01ad63c88c347c28579e67ebdc7f6a679df2208c6d75907a62d", func := "kerbsuite/kerbsuitelaw18.VerifierNew", spec := "verifierNew", inPlace := ["internal/bytealg.IndexByte", "internal/bytealg.IndexByteString"], apart := false }
def VerifierNewSaid : Prop := verifierNewRow.holds Tryz.pinned (OpenSpec.ofChange verifierNewSpec)

/-- ITS FALSE NEIGHBOUR: 'it returns false'. Refute it at one input. -/
def verifierNewWrong : ChangeSpec := { name := "verifierNew", fn := fun _ => fun
  | [d1, d2, d3, d4, d5, d6, d7, d8] => { results := [.lit (.bool false)], args := [d1, d2, d3, d4, d5, d6, d7, d8] }
  | _ => none }
def VerifierNewWrongFalsely : Prop := verifierNewRow.holds Tryz.pinned (OpenSpec.ofChange verifierNewWrong)

/- THE SECOND FORM. 'bulk': how many values and letters a reading holds, each counted each time it is reached (what is shared counts as often as it is met; a slice's spare places count too). A statement '..UptoSaid' is the law's where the arguments, and the package variables that the reading takes, are together of bulk at most 1048576: NARROWER than '..Said'. Prove '..Said' where nothing that the law and all that it calls make is longer than what came in: it says more and counts as full. Else prove '..UptoSaid'. A law counts once. -/
mutual
def uptoBulk {H : Type} : DataW H → Nat
  | .lit (.string bytes) => bytes.length + 1
  | .lit _ => 1
  | .nil => 1
  | .ptr d => uptoBulk d + 1
  | .slice elems spare => uptoBulkAll elems + uptoBulkAll spare + 1
  | .agg parts => uptoBulkAll parts + 1
  | .iface _ d => uptoBulk d + 1
  | .map entries => uptoBulkEntries entries + 1
  | .held _ => 1
def uptoBulkAll {H : Type} : List (DataW H) → Nat
  | [] => 0
  | d :: r => uptoBulk d + uptoBulkAll r
def uptoBulkEntries {H : Type} : List (Lit × DataW H) → Nat
  | [] => 0
  | x :: r => uptoBulkEntry x + uptoBulkEntries r
def uptoBulkEntry {H : Type} : Lit × DataW H → Nat
  | (.string bytes, d) => bytes.length + uptoBulk d + 1
  | (_, d) => uptoBulk d + 1
 end
def uptoSmall : (H : Type) → List (DataW H) → Bool := fun _ ds => decide (uptoBulkAll ds ≤ 1048576)
def OpenSpec.upto (s : _root_.Go.ChangeSpec) : _root_.Go.OpenSpec := { _root_.Go.OpenSpec.ofChange s with cond := some uptoSmall }

/-- 'kerbsuitelaw18.VerifierReads', WHERE WHAT IT READS IS OF BULK AT MOST 1048576: true; the input reads as it did. -/
def verifierReadsUptoRow : OpenClaim := { program := "ytiplnpablmohiaagreat", sum := "1ee0f42c5af2b01ad63c88c347c28579e67ebdc7f6a679df2208c6d75907a62d", func := "kerbsuite/kerbsuitelaw18.VerifierReads", spec := "verifierReads", inPlace := ["internal/bytealg.IndexByte", "internal/bytealg.IndexByteString"], apart := false, narrowed := true }
def VerifierReadsUptoSaid : Prop := verifierReadsUptoRow.holds Tryz.pinned (OpenSpec.upto verifierReadsSpec)

/-- 'kerbsuitelaw18.VerifierAny', WHERE WHAT IT READS IS OF BULK AT MOST 1048576: true; the input reads as it did. -/
def verifierAnyUptoRow : OpenClaim := { program := "ytiplnpablmohiaagreat", sum := "1ee0f42c5af2b01ad63c88c347c28579e67ebdc7f6a679df2208c6d75907a62d", func := "kerbsuite/kerbsuitelaw18.VerifierAny", spec := "verifierAny", inPlace := ["internal/bytealg.IndexByte", "internal/bytealg.IndexByteString"], apart := false, narrowed := true }
def VerifierAnyUptoSaid : Prop := verifierAnyUptoRow.holds Tryz.pinned (OpenSpec.upto verifierAnySpec)

/-- 'kerbsuitelaw18.VerifierTimely', WHERE WHAT IT READS IS OF BULK AT MOST 1048576: true; the input reads as it did. -/
def verifierTimelyUptoRow : OpenClaim := { program := "ytiplnpablmohiaagreat", sum := "1ee0f42c5af2b01ad63c88c347c28579e67ebdc7f6a679df2208c6d75907a62d", func := "kerbsuite/kerbsuitelaw18.VerifierTimely", spec := "verifierTimely", inPlace := ["internal/bytealg.IndexByte", "internal/bytealg.IndexByteString"], apart := false, narrowed := true }
def VerifierTimelyUptoSaid : Prop := verifierTimelyUptoRow.holds Tryz.pinned (OpenSpec.upto verifierTimelySpec)

/-- 'kerbsuitelaw18.VerifierOnce', WHERE WHAT IT READS IS OF BULK AT MOST 1048576: true; the input reads as it did. -/
def verifierOnceUptoRow : OpenClaim := { program := "ytiplnpablmohiaagreat", sum := "1ee0f42c5af2b01ad63c88c347c28579e67ebdc7f6a679df2208c6d75907a62d", func := "kerbsuite/kerbsuitelaw18.VerifierOnce", spec := "verifierOnce", inPlace := ["internal/bytealg.IndexByte", "internal/bytealg.IndexByteString"], apart := false, narrowed := true }
def VerifierOnceUptoSaid : Prop := verifierOnceUptoRow.holds Tryz.pinned (OpenSpec.upto verifierOnceSpec)

/-- 'kerbsuitelaw18.VerifierAnswers', WHERE WHAT IT READS IS OF BULK AT MOST 1048576: true; the input reads as it did. -/
def verifierAnswersUptoRow : OpenClaim := { program := "ytiplnpablmohiaagreat", sum := "1ee0f42c5af2b01ad63c88c347c28579e67ebdc7f6a679df2208c6d75907a62d", func := "kerbsuite/kerbsuitelaw18.VerifierAnswers", spec := "verifierAnswers", inPlace := ["internal/bytealg.IndexByte", "internal/bytealg.IndexByteString"], apart := false, narrowed := true }
def VerifierAnswersUptoSaid : Prop := verifierAnswersUptoRow.holds Tryz.pinned (OpenSpec.upto verifierAnswersSpec)

/-- 'kerbsuitelaw18.VerifierNew', WHERE WHAT IT READS IS OF BULK AT MOST 1048576: true; the input reads as it did. -/
def verifierNewUptoRow : OpenClaim := { program := "ytiplnpablmohiaagreat", sum := "1ee0f42c5af2b01ad63c88c347c28579e67ebdc7f6a679df2208c6d75907a62d", func := "kerbsuite/kerbsuitelaw18.VerifierNew", spec := "verifierNew", inPlace := ["internal/bytealg.IndexByte", "internal/bytealg.IndexByteString"], apart := false, narrowed := true }
def VerifierNewUptoSaid : Prop := verifierNewUptoRow.holds Tryz.pinned (OpenSpec.upto verifierNewSpec)

end Rows
end Go.Proofs.YtiplnpablmohiaaGreat
