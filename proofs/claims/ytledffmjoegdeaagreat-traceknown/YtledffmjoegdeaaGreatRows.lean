/-
  No cell of these rows narrows 'for every input' (looked for: loops, veiled, ifaces, maps, wideKeys, modest, calm, conditions, laid).
  DERIVED. THE GIVEN ROWS OF THIS SEAT. 4 by the template 'for every input the law returns true; each argument reads behind the call as it read before'; 0 by the template 'total and deterministic' (their statements: YtledffmjoegdeaaGreatTotals.lean).
  GIVEN WITH THE SEED: the statements are not yours to turn. If you find one false, say at which input.
  Laid BY PROGRAM, IN A SANDBOX (cutbox-rows.mjs): the forced cells as the released guide's own fill.sh prints them over the translation abdca546f9708080… (all of the seat's roots in one cut). By AI agents, Wed Nov 11 2026. No macro, syntax, notation, axiom, sorry.
-/
import Derived.Test.YtledffmjoegdeaaGreatChecked
import GoSem.Claim
import GoSem.ClaimJoined
import GoSem.ClaimMapViews
import Derived.JoinedTies
import Derived.KernelRfl
namespace Go.Proofs.YtledffmjoegdeaaGreat
/- THE CELL 'sum', in the pinned program and in every row, IS THE sha256 OF THE DUMP (.gsa) THAT YtledffmjoegdeaaGreatProg.lean LOADS. Nothing in Lean hashes anything: it is a label: what it is worth is what the hold of that sum in a sandbox is worth. -/
noncomputable def Tryz.pinned : Pinned := { name := "ytledffmjoegdeaagreat", sum := "abdca546f97080802088d268f85d52bbbf8ba95b2249db124ce4e0ed74bf8b99", checked := Tryz.checked }
namespace Rows
def none {H : Type} : Left H := { results := [], args := [] }

/-- 'kerbsuitelaw28.TraceChecks': WHATEVER THE INPUT: true; the input reads as it did. -/
def traceChecksSpec : ChangeSpec := { name := "traceChecks", fn := fun _ => fun
  | [d1, d2, d3, d4] => { results := [.lit (.bool true)], args := [d1, d2, d3, d4] }
  | _ => none }
def traceChecksRow : OpenClaim := { program := "ytledffmjoegdeaagreat", sum := "abdca546f97080802088d268f85d52bbbf8ba95b2249db124ce4e0ed74bf8b99", func := "kerbsuite/kerbsuitelaw28.TraceChecks", spec := "traceChecks", inPlace := ["internal/bytealg.IndexByte", "internal/bytealg.IndexByteString"], unfollowed := true, recurses := true, apart := false }
def TraceChecksSaid : Prop := traceChecksRow.holds Tryz.pinned (OpenSpec.ofChange traceChecksSpec)

/-- ITS FALSE NEIGHBOUR: 'it returns false'. Refute it at one input. -/
def traceChecksWrong : ChangeSpec := { name := "traceChecks", fn := fun _ => fun
  | [d1, d2, d3, d4] => { results := [.lit (.bool false)], args := [d1, d2, d3, d4] }
  | _ => none }
def TraceChecksWrongFalsely : Prop := traceChecksRow.holds Tryz.pinned (OpenSpec.ofChange traceChecksWrong)

/-- 'kerbsuitelaw28.TraceReached': WHATEVER THE INPUT: true; the input reads as it did. -/
def traceReachedSpec : ChangeSpec := { name := "traceReached", fn := fun _ => fun
  | [d1, d2] => { results := [.lit (.bool true)], args := [d1, d2] }
  | _ => none }
def traceReachedRow : OpenClaim := { program := "ytledffmjoegdeaagreat", sum := "abdca546f97080802088d268f85d52bbbf8ba95b2249db124ce4e0ed74bf8b99", func := "kerbsuite/kerbsuitelaw28.TraceReached", spec := "traceReached", inPlace := ["internal/bytealg.IndexByte", "internal/bytealg.IndexByteString"], unfollowed := true, recurses := true, apart := false }
def TraceReachedSaid : Prop := traceReachedRow.holds Tryz.pinned (OpenSpec.ofChange traceReachedSpec)

/-- ITS FALSE NEIGHBOUR: 'it returns false'. Refute it at one input. -/
def traceReachedWrong : ChangeSpec := { name := "traceReached", fn := fun _ => fun
  | [d1, d2] => { results := [.lit (.bool false)], args := [d1, d2] }
  | _ => none }
def TraceReachedWrongFalsely : Prop := traceReachedRow.holds Tryz.pinned (OpenSpec.ofChange traceReachedWrong)

/-- 'kerbsuitelaw28.TraceKnown': WHATEVER THE INPUT: true; the input reads as it did. -/
def traceKnownSpec : ChangeSpec := { name := "traceKnown", fn := fun _ => fun
  | [d1, d2, d3, d4, d5] => { results := [.lit (.bool true)], args := [d1, d2, d3, d4, d5] }
  | _ => none }
def traceKnownRow : OpenClaim := { program := "ytledffmjoegdeaagreat", sum := "abdca546f97080802088d268f85d52bbbf8ba95b2249db124ce4e0ed74bf8b99", func := "kerbsuite/kerbsuitelaw28.TraceKnown", spec := "traceKnown", inPlace := ["internal/bytealg.IndexByte", "internal/bytealg.IndexByteString"], unfollowed := true, recurses := true, apart := false }
def TraceKnownSaid : Prop := traceKnownRow.holds Tryz.pinned (OpenSpec.ofChange traceKnownSpec)

/-- ITS FALSE NEIGHBOUR: 'it returns false'. Refute it at one input. -/
def traceKnownWrong : ChangeSpec := { name := "traceKnown", fn := fun _ => fun
  | [d1, d2, d3, d4, d5] => { results := [.lit (.bool false)], args := [d1, d2, d3, d4, d5] }
  | _ => none }
def TraceKnownWrongFalsely : Prop := traceKnownRow.holds Tryz.pinned (OpenSpec.ofChange traceKnownWrong)

/-- 'kerbsuitelaw28.TraceFronts': WHATEVER THE INPUT: true; the input reads as it did. -/
def traceFrontsSpec : ChangeSpec := { name := "traceFronts", fn := fun _ => fun
  | [d1, d2, d3, d4] => { results := [.lit (.bool true)], args := [d1, d2, d3, d4] }
  | _ => none }
def traceFrontsRow : OpenClaim := { program := "ytledffmjoegdeaagreat", sum := "abdca546f97080802088d268f85d52bbbf8ba95b2249db124ce4e0ed74bf8b99", func := "kerbsuite/kerbsuitelaw28.TraceFronts", spec := "traceFronts", inPlace := ["internal/bytealg.IndexByte", "internal/bytealg.IndexByteString"], unfollowed := true, recurses := true, apart := false }
def TraceFrontsSaid : Prop := traceFrontsRow.holds Tryz.pinned (OpenSpec.ofChange traceFrontsSpec)

/-- ITS FALSE NEIGHBOUR: 'it returns false'. Refute it at one input. -/
def traceFrontsWrong : ChangeSpec := { name := "traceFronts", fn := fun _ => fun
  | [d1, d2, d3, d4] => { results := [.lit (.bool false)], args := [d1, d2, d3, d4] }
  | _ => none }
def TraceFrontsWrongFalsely : Prop := traceFrontsRow.holds Tryz.pinned (OpenSpec.ofChange traceFrontsWrong)

/- THE SECOND FORM. 'bulk': how many values and letters a reading holds, each counted each time it is reached (what is shared counts as often as it is met; a slice's spare places count too). A statement '..UptoSaid' is the law's where the arguments, and the package variables that the reading takes, are together of bulk at most 1048576: NARROWER than '..Said'. Prove '..Said' where nothing that the law and all that it calls make is longer than what came in: it says more and counts as full. Else prove '..UptoSaid'. A law counts once. -/
mutual
def uptoBulk {H : Type} : DataW H → Nat
  | .lit (.string bytes) => bytes.length + 1
  | .lit _ => 1
  | .nil => 1
  | .ptr d => uptoBulk d + 1
  | .slice elems spare => uptoBulkAll elems + uptoBulkAll spare + 1
  | .agg parts => uptoBulkAll parts + 1
  | .iface _ d => uptoBulk d + 1
  | .map entries => uptoBulkEntries entries + 1
  | .held _ => 1
def uptoBulkAll {H : Type} : List (DataW H) → Nat
  | [] => 0
  | d :: r => uptoBulk d + uptoBulkAll r
def uptoBulkEntries {H : Type} : List (Lit × DataW H) → Nat
  | [] => 0
  | x :: r => uptoBulkEntry x + uptoBulkEntries r
def uptoBulkEntry {H : Type} : Lit × DataW H → Nat
  | (.string bytes, d) => bytes.length + uptoBulk d + 1
  | (_, d) => uptoBulk d + 1
 end
def uptoSmall : (H : Type) → List (DataW H) → Bool := fun _ ds => decide (uptoBulkAll ds ≤ 1048576)
def OpenSpec.upto (s : _root_.Go.ChangeSpec) : _root_.Go.OpenSpec := { _root_.Go.OpenSpec.ofChange s with cond := some uptoSmall }

/-- 'kerbsuitelaw28.TraceChecks', WHERE WHAT IT READS IS OF BULK AT MOST 1048576: true; the input reads as it did. -/
def traceChecksUptoRow : OpenClaim := { program := "ytledffmjoegdeaagreat", sum := "abdca546f97080802088d268f85d52bbbf8ba95b2249db124ce4e0ed74bf8b99", func := "kerbsuite/kerbsuitelaw28.TraceChecks", spec := "traceChecks", inPlace := ["internal/bytealg.IndexByte", "internal/bytealg.IndexByteString"], unfollowed := true, recurses := true, apart := false, narrowed := true }
def TraceChecksUptoSaid : Prop := traceChecksUptoRow.holds Tryz.pinned (OpenSpec.upto traceChecksSpec)

/-- 'kerbsuitelaw28.TraceReached', WHERE WHAT IT READS IS OF BULK AT MOST 1048576: true; the input reads as it did. -/
def traceReachedUptoRow : OpenClaim := { program := "ytledffmjoegdeaagreat", sum := "abdca546f97080802088d268f85d52bbbf8ba95b2249db124ce4e0ed74bf8b99", func := "kerbsuite/kerbsuitelaw28.TraceReached", spec := "traceReached", inPlace := ["internal/bytealg.IndexByte", "internal/bytealg.IndexByteString"], unfollowed := true, recurses := true, apart := false, narrowed := true }
def TraceReachedUptoSaid : Prop := traceReachedUptoRow.holds Tryz.pinned (OpenSpec.upto traceReachedSpec)

/-- 'kerbsuitelaw28.TraceKnown', WHERE WHAT IT READS IS OF BULK AT MOST 1048576: true; the input reads as it did. -/
def traceKnownUptoRow : OpenClaim := { program := "ytledffmjoegdeaagreat", sum := "abdca546f97080802088d268f85d52bbbf8ba95b2249db124ce4e0ed74bf8b99", func := "kerbsuite/kerbsuitelaw28.TraceKnown", spec := "traceKnown", inPlace := ["internal/bytealg.IndexByte", "internal/bytealg.IndexByteString"], unfollowed := true, recurses := true, apart := false, narrowed := true }
def TraceKnownUptoSaid : Prop := traceKnownUptoRow.holds Tryz.pinned (OpenSpec.upto traceKnownSpec)

/-- 'kerbsuitelaw28.TraceFronts', WHERE WHAT IT READS IS OF BULK AT MOST 1048576: true; the input reads as it did. -/
def traceFrontsUptoRow : OpenClaim := { program := "ytledffmjoegdeaagreat", sum := "abdca546f97080802088d268f85d52bbbf8ba95b2249db124ce4e0ed74bf8b99", func := "kerbsuite/kerbsuitelaw28.TraceFronts", spec := "traceFronts", inPlace := ["internal/bytealg.IndexByte", "internal/bytealg.IndexByteString"], unfollowed := true, recurses := true, apart := false, narrowed := true }
def TraceFrontsUptoSaid : Prop := traceFrontsUptoRow.holds Tryz.pinned (OpenSpec.upto traceFrontsSpec)

end Rows
end Go.Proofs.YtledffmjoegdeaaGreat
