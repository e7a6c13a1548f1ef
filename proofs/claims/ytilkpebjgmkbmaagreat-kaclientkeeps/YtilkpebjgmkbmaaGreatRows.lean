/-
  No cell of these rows narrows 'for every input' (looked for: loops, veiled, ifaces, maps, wideKeys, modest, calm, conditions, laid).
  DERIVED. THE GIVEN ROWS OF THIS SEAT. 3 by the template 'for every input the law returns true; each argument reads behind the call as it read before'; 0 by the template 'total and deterministic' (their statements: YtilkpebjgmkbmaaGreatTotals.lean).
  GIVEN WITH THE SEED: the statements are not yours to turn. If you find one false, say at which input.
  Laid BY PROGRAM, IN A SANDBOX (cutbox-rows.mjs): the forced cells as the released guide's own fill.sh prints them over the translation c46395925b6a6c55… (all of the seat's roots in one cut). By AI agents, Wed Nov 11 2026. No macro, syntax, notation, axiom, sorry.
-/
import Derived.Test.YtilkpebjgmkbmaaGreatChecked
import GoSem.Claim
import GoSem.ClaimJoined
import GoSem.ClaimMapViews
import Derived.JoinedTies
import Derived.KernelRfl
namespace Go.Proofs.YtilkpebjgmkbmaaGreat
/- THE CELL 'sum', in the pinned program and in every row, IS THE sha256 OF THE DUMP (.gsa) THAT YtilkpebjgmkbmaaGreatProg.lean LOADS. Nothing in Lean hashes anything: it is a label: what it is worth is what the hold of that sum in a sandbox is worth. -/
noncomputable def Tryz.pinned : Pinned := { name := "ytilkpebjgmkbmaagreat", sum := "c46395925b6a6c55fe1a0629cb657f50d3ac1355179b5a7f50ef07b983f46a85", checked := Tryz.checked }
namespace Rows
def none {H : Type} : Left H := { results := [], args := [] }

/-- 'kerbsuitelaw24.KaclientReceives': WHATEVER THE INPUT: true; the input reads as it did. -/
def kaclientReceivesSpec : ChangeSpec := { name := "kaclientReceives", fn := fun _ => fun
  | [d1, d2, d3, d4, d5, d6, d7, d8] => { results := [.lit (.bool true)], args := [d1, d2, d3, d4, d5, d6, d7, d8] }
  | _ => none }
def kaclientReceivesRow : OpenClaim := { program := "ytilkpebjgmkbmaagreat", sum := "c46395925b6a6c55fe1a0629cb657f50d3ac1355179b5a7f50ef07b983f46a85", func := "kerbsuite/kerbsuitelaw24.KaclientReceives", spec := "kaclientReceives", inPlace := ["internal/bytealg.IndexByteString", "internal/bytealg.IndexByte"], apart := false }
def KaclientReceivesSaid : Prop := kaclientReceivesRow.holds Tryz.pinned (OpenSpec.ofChange kaclientReceivesSpec)

/-- ITS FALSE NEIGHBOUR: 'it returns false'. Refute it at one input. -/
def kaclientReceivesWrong : ChangeSpec := { name := "kaclientReceives", fn := fun _ => fun
  | [d1, d2, d3, d4, d5, d6, d7, d8] => { results := [.lit (.bool false)], args := [d1, d2, d3, d4, d5, d6, d7, d8] }
  | _ => none }
def KaclientReceivesWrongFalsely : Prop := kaclientReceivesRow.holds Tryz.pinned (OpenSpec.ofChange kaclientReceivesWrong)

/-- 'kerbsuitelaw24.KaclientKeeps': WHATEVER THE INPUT: true; the input reads as it did. -/
def kaclientKeepsSpec : ChangeSpec := { name := "kaclientKeeps", fn := fun _ => fun
  | [d1, d2, d3] => { results := [.lit (.bool true)], args := [d1, d2, d3] }
  | _ => none }
def kaclientKeepsRow : OpenClaim := { program := "ytilkpebjgmkbmaagreat", sum := "c46395925b6a6c55fe1a0629cb657f50d3ac1355179b5a7f50ef07b983f46a85", func := "kerbsuite/kerbsuitelaw24.KaclientKeeps", spec := "kaclientKeeps", inPlace := ["internal/bytealg.IndexByteString", "internal/bytealg.IndexByte"], apart := false }
def KaclientKeepsSaid : Prop := kaclientKeepsRow.holds Tryz.pinned (OpenSpec.ofChange kaclientKeepsSpec)

/-- ITS FALSE NEIGHBOUR: 'it returns false'. Refute it at one input. -/
def kaclientKeepsWrong : ChangeSpec := { name := "kaclientKeeps", fn := fun _ => fun
  | [d1, d2, d3] => { results := [.lit (.bool false)], args := [d1, d2, d3] }
  | _ => none }
def KaclientKeepsWrongFalsely : Prop := kaclientKeepsRow.holds Tryz.pinned (OpenSpec.ofChange kaclientKeepsWrong)

/-- 'kerbsuitelaw24.KaclientRequests': WHATEVER THE INPUT: true; the input reads as it did. -/
def kaclientRequestsSpec : ChangeSpec := { name := "kaclientRequests", fn := fun _ => fun
  | [d1, d2, d3, d4, d5, d6, d7, d8, d9] => { results := [.lit (.bool true)], args := [d1, d2, d3, d4, d5, d6, d7, d8, d9] }
  | _ => none }
def kaclientRequestsRow : OpenClaim := { program := "ytilkpebjgmkbmaagreat", sum := "c46395925b6a6c55fe1a0629cb657f50d3ac1355179b5a7f50ef07b983f46a85", func := "kerbsuite/kerbsuitelaw24.KaclientRequests", spec := "kaclientRequests", inPlace := ["internal/bytealg.IndexByteString", "internal/bytealg.IndexByte"], apart := false }
def KaclientRequestsSaid : Prop := kaclientRequestsRow.holds Tryz.pinned (OpenSpec.ofChange kaclientRequestsSpec)

/-- ITS FALSE NEIGHBOUR: 'it returns false'. Refute it at one input. -/
def kaclientRequestsWrong : ChangeSpec := { name := "kaclientRequests", fn := fun _ => fun
  | [d1, d2, d3, d4, d5, d6, d7, d8, d9] => { results := [.lit (.bool false)], args := [d1, d2, d3, d4, d5, d6, d7, d8, d9] }
  | _ => none }
def KaclientRequestsWrongFalsely : Prop := kaclientRequestsRow.holds Tryz.pinned (OpenSpec.ofChange kaclientRequestsWrong)

/- THE SECOND FORM. 'bulk': how many values and letters a reading holds, each counted each time it is reached (what is shared counts as often as it is met; a slice's spare places count too). A statement '..UptoSaid' is the law's where the arguments, and the package variables that the reading takes, are together of bulk at most 1048576: NARROWER than '..Said'. Prove '..Said' where nothing that the law and all that it calls make is longer than what came in: it says more and counts as full. Else prove '..UptoSaid'. A law counts once. -/
mutual
def uptoBulk {H : Type} : DataW H → Nat
  | .lit (.string bytes) => bytes.length + 1
  | .lit _ => 1
  | .nil => 1
  | .ptr d => uptoBulk d + 1
  | .slice elems spare => uptoBulkAll elems + uptoBulkAll spare + 1
  | .agg parts => uptoBulkAll parts + 1
  | .iface _ d => uptoBulk d + 1
  | .map entries => uptoBulkEntries entries + 1
  | .held _ => 1
def uptoBulkAll {H : Type} : List (DataW H) → Nat
  | [] => 0
  | d :: r => uptoBulk d + uptoBulkAll r
def uptoBulkEntries {H : Type} : List (Lit × DataW H) → Nat
  | [] => 0
  | x :: r => uptoBulkEntry x + uptoBulkEntries r
def uptoBulkEntry {H : Type} : Lit × DataW H → Nat
  | (.string bytes, d) => bytes.length + uptoBulk d + 1
  | (_, d) => uptoBulk d + 1
 end
def uptoSmall : (H : Type) → List (DataW H) → Bool := fun _ ds => decide (uptoBulkAll ds ≤ 1048576)
def OpenSpec.upto (s : _root_.Go.ChangeSpec) : _root_.Go.OpenSpec := { _root_.Go.OpenSpec.ofChange s with cond := some uptoSmall }

/-- 'kerbsuitelaw24.KaclientReceives', WHERE WHAT IT READS IS OF BULK AT MOST 1048576: true; the input reads as it did. -/
def kaclientReceivesUptoRow : OpenClaim := { program := "ytilkpebjgmkbmaagreat", sum := "c46395925b6a6c55fe1a0629cb657f50d3ac1355179b5a7f50ef07b983f46a85", func := "kerbsuite/kerbsuitelaw24.KaclientReceives", spec := "kaclientReceives", inPlace := ["internal/bytealg.IndexByteString", "internal/bytealg.IndexByte"], apart := false, narrowed := true }
def KaclientReceivesUptoSaid : Prop := kaclientReceivesUptoRow.holds Tryz.pinned (OpenSpec.upto kaclientReceivesSpec)

/-- 'kerbsuitelaw24.KaclientKeeps', WHERE WHAT IT READS IS OF BULK AT MOST 1048576: true; the input reads as it did. -/
def kaclientKeepsUptoRow : OpenClaim := { program := "ytilkpebjgmkbmaagreat", sum := "c46395925b6a6c55fe1a0629cb657f50d3ac1355179b5a7f50ef07b983f46a85", func := "kerbsuite/kerbsuitelaw24.KaclientKeeps", spec := "kaclientKeeps", inPlace := ["internal/bytealg.IndexByteString", "internal/bytealg.IndexByte"], apart := false, narrowed := true }
def KaclientKeepsUptoSaid : Prop := kaclientKeepsUptoRow.holds Tryz.pinned (OpenSpec.upto kaclientKeepsSpec)

/-- 'kerbsuitelaw24.KaclientRequests', WHERE WHAT IT READS IS OF BULK AT MOST 1048576: true; the input reads as it did. -/
def kaclientRequestsUptoRow : OpenClaim := { program := "ytilkpebjgmkbmaagreat", sum := "c46395925b6a6c55fe1a0629cb657f50d3ac1355179b5a7f50ef07b983f46a85", func := "kerbsuite/kerbsuitelaw24.KaclientRequests", spec := "kaclientRequests", inPlace := ["internal/bytealg.IndexByteString", "internal/bytealg.IndexByte"], apart := false, narrowed := true }
def KaclientRequestsUptoSaid : Prop := kaclientRequestsUptoRow.holds Tryz.pinned (OpenSpec.upto kaclientRequestsSpec)

end Rows
end Go.Proofs.YtilkpebjgmkbmaaGreat
