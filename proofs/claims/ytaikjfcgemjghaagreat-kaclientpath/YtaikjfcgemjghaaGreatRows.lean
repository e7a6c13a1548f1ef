/-
  No cell of these rows narrows 'for every input' (looked for: loops, veiled, ifaces, maps, wideKeys, modest, calm, conditions, laid).
  DERIVED. THE GIVEN ROWS OF THIS SEAT. 6 by the template 'for every input the law returns true; each argument reads behind the call as it read before'; 0 by the template 'total and deterministic' (their statements: YtaikjfcgemjghaaGreatTotals.lean).
  GIVEN WITH THE SEED: the statements are not yours to turn. If you find one false, say at which input.
  Laid BY PROGRAM, IN A SANDBOX (cutbox-rows.mjs): the forced cells as the released guide's own fill.sh prints them over the translation 17e5099821618042… (all of the seat's roots in one cut). By AI agents, Wed Nov 11 2026. No macro, syntax, notation, axiom, sorry.
-/
import Derived.Test.YtaikjfcgemjghaaGreatChecked
import GoSem.Claim
import GoSem.ClaimJoined
import GoSem.ClaimMapViews
import Derived.JoinedTies
import Derived.KernelRfl
namespace Go.Proofs.YtaikjfcgemjghaaGreat
/- THE CELL 'sum', in the pinned program and in every row, IS THE sha256 OF THE DUMP (.gsa) THAT YtaikjfcgemjghaaGreatProg.lean LOADS. Nothing in Lean hashes anything: it is a label: what it is worth is what the hold of that sum in a sandbox is worth. -/
noncomputable def Tryz.pinned : Pinned := { name := "ytaikjfcgemjghaagreat", sum := "17e50998216180423f9c3cb6d49cf0513663aa8d491e0fb7503639b6568c2a33", checked := Tryz.checked }
namespace Rows
def none {H : Type} : Left H := { results := [], args := [] }

/-- 'kerbsuitelaw24.KaclientPath': WHATEVER THE INPUT: true; the input reads as it did. -/
def kaclientPathSpec : ChangeSpec := { name := "kaclientPath", fn := fun _ => fun
  | [d1, d2, d3, d4] => { results := [.lit (.bool true)], args := [d1, d2, d3, d4] }
  | _ => none }
def kaclientPathRow : OpenClaim := { program := "ytaikjfcgemjghaagreat", sum := "17e50998216180423f9c3cb6d49cf0513663aa8d491e0fb7503639b6568c2a33", func := "kerbsuite/kerbsuitelaw24.KaclientPath", spec := "kaclientPath", inPlace := ["internal/bytealg.IndexByteString", "internal/bytealg.IndexByte"], apart := false }
def KaclientPathSaid : Prop := kaclientPathRow.holds Tryz.pinned (OpenSpec.ofChange kaclientPathSpec)

/-- ITS FALSE NEIGHBOUR: 'it returns false'. Refute it at one input. -/
def kaclientPathWrong : ChangeSpec := { name := "kaclientPath", fn := fun _ => fun
  | [d1, d2, d3, d4] => { results := [.lit (.bool false)], args := [d1, d2, d3, d4] }
  | _ => none }
def KaclientPathWrongFalsely : Prop := kaclientPathRow.holds Tryz.pinned (OpenSpec.ofChange kaclientPathWrong)

/-- 'kerbsuitelaw23.KaserverAnswers': WHATEVER THE INPUT: true; the input reads as it did. -/
def kaserverAnswersSpec : ChangeSpec := { name := "kaserverAnswers", fn := fun _ => fun
  | [d1, d2, d3, d4, d5, d6, d7, d8, d9, d10, d11] => { results := [.lit (.bool true)], args := [d1, d2, d3, d4, d5, d6, d7, d8, d9, d10, d11] }
  | _ => none }
def kaserverAnswersRow : OpenClaim := { program := "ytaikjfcgemjghaagreat", sum := "17e50998216180423f9c3cb6d49cf0513663aa8d491e0fb7503639b6568c2a33", func := "kerbsuite/kerbsuitelaw23.KaserverAnswers", spec := "kaserverAnswers", inPlace := ["internal/bytealg.IndexByte", "internal/bytealg.IndexByteString", "internal/bytealg.abigen_runtime_cmpstring"], apart := false }
def KaserverAnswersSaid : Prop := kaserverAnswersRow.holds Tryz.pinned (OpenSpec.ofChange kaserverAnswersSpec)

/-- ITS FALSE NEIGHBOUR: 'it returns false'. Refute it at one input. -/
def kaserverAnswersWrong : ChangeSpec := { name := "kaserverAnswers", fn := fun _ => fun
  | [d1, d2, d3, d4, d5, d6, d7, d8, d9, d10, d11] => { results := [.lit (.bool false)], args := [d1, d2, d3, d4, d5, d6, d7, d8, d9, d10, d11] }
  | _ => none }
def KaserverAnswersWrongFalsely : Prop := kaserverAnswersRow.holds Tryz.pinned (OpenSpec.ofChange kaserverAnswersWrong)

/-- 'kerbsuitelaw23.KaserverKeeps': WHATEVER THE INPUT: true; the input reads as it did. -/
def kaserverKeepsSpec : ChangeSpec := { name := "kaserverKeeps", fn := fun _ => fun
  | [d1, d2, d3, d4] => { results := [.lit (.bool true)], args := [d1, d2, d3, d4] }
  | _ => none }
def kaserverKeepsRow : OpenClaim := { program := "ytaikjfcgemjghaagreat", sum := "17e50998216180423f9c3cb6d49cf0513663aa8d491e0fb7503639b6568c2a33", func := "kerbsuite/kerbsuitelaw23.KaserverKeeps", spec := "kaserverKeeps", inPlace := ["internal/bytealg.IndexByte", "internal/bytealg.IndexByteString", "internal/bytealg.abigen_runtime_cmpstring"], apart := false }
def KaserverKeepsSaid : Prop := kaserverKeepsRow.holds Tryz.pinned (OpenSpec.ofChange kaserverKeepsSpec)

/-- ITS FALSE NEIGHBOUR: 'it returns false'. Refute it at one input. -/
def kaserverKeepsWrong : ChangeSpec := { name := "kaserverKeeps", fn := fun _ => fun
  | [d1, d2, d3, d4] => { results := [.lit (.bool false)], args := [d1, d2, d3, d4] }
  | _ => none }
def KaserverKeepsWrongFalsely : Prop := kaserverKeepsRow.holds Tryz.pinned (OpenSpec.ofChange kaserverKeepsWrong)

/-- 'kerbsuitelaw23.KaserverLocks': WHATEVER THE INPUT: true; the input reads as it did. -/
def kaserverLocksSpec : ChangeSpec := { name := "kaserverLocks", fn := fun _ => fun
  | [d1, d2, d3] => { results := [.lit (.bool true)], args := [d1, d2, d3] }
  | _ => none }
def kaserverLocksRow : OpenClaim := { program := "ytaikjfcgemjghaagreat", sum := "17e50998216180423f9c3cb6d49cf0513663aa8d491e0fb7503639b6568c2a33", func := "kerbsuite/kerbsuitelaw23.KaserverLocks", spec := "kaserverLocks", inPlace := ["internal/bytealg.IndexByte", "internal/bytealg.IndexByteString", "internal/bytealg.abigen_runtime_cmpstring"], apart := false }
def KaserverLocksSaid : Prop := kaserverLocksRow.holds Tryz.pinned (OpenSpec.ofChange kaserverLocksSpec)

/-- ITS FALSE NEIGHBOUR: 'it returns false'. Refute it at one input. -/
def kaserverLocksWrong : ChangeSpec := { name := "kaserverLocks", fn := fun _ => fun
  | [d1, d2, d3] => { results := [.lit (.bool false)], args := [d1, d2, d3] }
  | _ => none }
def KaserverLocksWrongFalsely : Prop := kaserverLocksRow.holds Tryz.pinned (OpenSpec.ofChange kaserverLocksWrong)

/-- 'kerbsuitelaw23.KaserverBounds': WHATEVER THE INPUT: true; the input reads as it did. -/
def kaserverBoundsSpec : ChangeSpec := { name := "kaserverBounds", fn := fun _ => fun
  | [d1, d2, d3, d4, d5] => { results := [.lit (.bool true)], args := [d1, d2, d3, d4, d5] }
  | _ => none }
def kaserverBoundsRow : OpenClaim := { program := "ytaikjfcgemjghaagreat", sum := "17e50998216180423f9c3cb6d49cf0513663aa8d491e0fb7503639b6568c2a33", func := "kerbsuite/kerbsuitelaw23.KaserverBounds", spec := "kaserverBounds", inPlace := ["internal/bytealg.IndexByte", "internal/bytealg.IndexByteString", "internal/bytealg.abigen_runtime_cmpstring"], apart := false }
def KaserverBoundsSaid : Prop := kaserverBoundsRow.holds Tryz.pinned (OpenSpec.ofChange kaserverBoundsSpec)

/-- ITS FALSE NEIGHBOUR: 'it returns false'. Refute it at one input. -/
def kaserverBoundsWrong : ChangeSpec := { name := "kaserverBounds", fn := fun _ => fun
  | [d1, d2, d3, d4, d5] => { results := [.lit (.bool false)], args := [d1, d2, d3, d4, d5] }
  | _ => none }
def KaserverBoundsWrongFalsely : Prop := kaserverBoundsRow.holds Tryz.pinned (OpenSpec.ofChange kaserverBoundsWrong)

/-- 'kerbsuitelaw23.KaserverPasswords': WHATEVER THE INPUT: true; the input reads as it did. -/
def kaserverPasswordsSpec : ChangeSpec := { name := "kaserverPasswords", fn := fun _ => fun
  | [d1, d2, d3] => { results := [.lit (.bool true)], args := [d1, d2, d3] }
  | _ => none }
def kaserverPasswordsRow : OpenClaim := { program := "ytaikjfcgemjghaagreat", sum := "17e50998216180423f9c3cb6d49cf0513663aa8d491e0fb7503639b6568c2a33", func := "kerbsuite/kerbsuitelaw23.KaserverPasswords", spec := "kaserverPasswords", inPlace := ["internal/bytealg.IndexByte", "internal/bytealg.IndexByteString", "internal/bytealg.abigen_runtime_cmpstring"], apart := false }
def KaserverPasswordsSaid : Prop := kaserverPasswordsRow.holds Tryz.pinned (OpenSpec.ofChange kaserverPasswordsSpec)

/-- ITS FALSE NEIGHBOUR: 'it returns false'. Refute it at one input. -/
def kaserverPasswordsWrong : ChangeSpec := { name := "kaserverPasswords", fn := fun _ => fun
  | [d1, d2, d3] => { results := [.lit (.bool false)], args := [d1, d2, d3] }
  | _ => none }
def KaserverPasswordsWrongFalsely : Prop := kaserverPasswordsRow.holds Tryz.pinned (OpenSpec.ofChange kaserverPasswordsWrong)

/- THE SECOND FORM. 'bulk': how many values and letters a reading holds, each counted each time it is reached (what is shared counts as often as it is met; a slice's spare places count too). A statement '..UptoSaid' is the law's where the arguments, and the package variables that the reading takes, are together of bulk at most 1048576: NARROWER than '..Said'. Prove '..Said' where nothing that the law and all that it calls make is longer than what came in: it says more and counts as full. Else prove '..UptoSaid'. A law counts once. -/
mutual
def uptoBulk {H : Type} : DataW H → Nat
  | .lit (.string bytes) => bytes.length + 1
  | .lit _ => 1
  | .nil => 1
  | .ptr d => uptoBulk d + 1
  | .slice elems spare => uptoBulkAll elems + uptoBulkAll spare + 1
  | .agg parts => uptoBulkAll parts + 1
  | .iface _ d => uptoBulk d + 1
  | .map entries => uptoBulkEntries entries + 1
  | .held _ => 1
def uptoBulkAll {H : Type} : List (DataW H) → Nat
  | [] => 0
  | d :: r => uptoBulk d + uptoBulkAll r
def uptoBulkEntries {H : Type} : List (Lit × DataW H) → Nat
  | [] => 0
  | x :: r => uptoBulkEntry x + uptoBulkEntries r
def uptoBulkEntry {H : Type} : Lit × DataW H → Nat
  | (.string bytes, d) => bytes.length + uptoBulk d + 1
  | (_, d) => uptoBulk d + 1
 end
def uptoSmall : (H : Type) → List (DataW H) → Bool := fun _ ds => decide (uptoBulkAll ds ≤ 1048576)
def OpenSpec.upto (s : _root_.Go.ChangeSpec) : _root_.Go.OpenSpec := { _root_.Go.OpenSpec.ofChange s with cond := some uptoSmall }

/-- 'kerbsuitelaw24.KaclientPath', WHERE WHAT IT READS IS OF BULK AT MOST 1048576: true; the input reads as it did. -/
def kaclientPathUptoRow : OpenClaim := { program := "ytaikjfcgemjghaagreat", sum := "17e50998216180423f9c3cb6d49cf0513663aa8d491e0fb7503639b6568c2a33", func := "kerbsuite/kerbsuitelaw24.KaclientPath", spec := "kaclientPath", inPlace := ["internal/bytealg.IndexByteString", "internal/bytealg.IndexByte"], apart := false, narrowed := true }
def KaclientPathUptoSaid : Prop := kaclientPathUptoRow.holds Tryz.pinned (OpenSpec.upto kaclientPathSpec)

/-- 'kerbsuitelaw23.KaserverAnswers', WHERE WHAT IT READS IS OF BULK AT MOST 1048576: true; the input reads as it did. -/
def kaserverAnswersUptoRow : OpenClaim := { program := "ytaikjfcgemjghaagreat", sum := "17e50998216180423f9c3cb6d49cf0513663aa8d491e0fb7503639b6568c2a33", func := "kerbsuite/kerbsuitelaw23.KaserverAnswers", spec := "kaserverAnswers", inPlace := ["internal/bytealg.IndexByte", "internal/bytealg.IndexByteString", "internal/bytealg.abigen_runtime_cmpstring"], apart := false, narrowed := true }
def KaserverAnswersUptoSaid : Prop := kaserverAnswersUptoRow.holds Tryz.pinned (OpenSpec.upto kaserverAnswersSpec)

/-- 'kerbsuitelaw23.KaserverKeeps', WHERE WHAT IT READS IS OF BULK AT MOST 1048576: true; the input reads as it did. -/
def kaserverKeepsUptoRow : OpenClaim := { program := "ytaikjfcgemjghaagreat", sum := "17e50998216180423f9c3cb6d49cf0513663aa8d491e0fb7503639b6568c2a33", func := "kerbsuite/kerbsuitelaw23.KaserverKeeps", spec := "kaserverKeeps", inPlace := ["internal/bytealg.IndexByte", "internal/bytealg.IndexByteString", "internal/bytealg.abigen_runtime_cmpstring"], apart := false, narrowed := true }
def KaserverKeepsUptoSaid : Prop := kaserverKeepsUptoRow.holds Tryz.pinned (OpenSpec.upto kaserverKeepsSpec)

/-- 'kerbsuitelaw23.KaserverLocks', WHERE WHAT IT READS IS OF BULK AT MOST 1048576: true; the input reads as it did. -/
def kaserverLocksUptoRow : OpenClaim := { program := "ytaikjfcgemjghaagreat", sum := "17e50998216180423f9c3cb6d49cf0513663aa8d491e0fb7503639b6568c2a33", func := "kerbsuite/kerbsuitelaw23.KaserverLocks", spec := "kaserverLocks", inPlace := ["internal/bytealg.IndexByte", "internal/bytealg.IndexByteString", "internal/bytealg.abigen_runtime_cmpstring"], apart := false, narrowed := true }
def KaserverLocksUptoSaid : Prop := kaserverLocksUptoRow.holds Tryz.pinned (OpenSpec.upto kaserverLocksSpec)

/-- 'kerbsuitelaw23.KaserverBounds', WHERE WHAT IT READS IS OF BULK AT MOST 1048576: true; the input reads as it did. -/
def kaserverBoundsUptoRow : OpenClaim := { program := "ytaikjfcgemjghaagreat", sum := "17e50998216180423f9c3cb6d49cf0513663aa8d491e0fb7503639b6568c2a33", func := "kerbsuite/kerbsuitelaw23.KaserverBounds", spec := "kaserverBounds", inPlace := ["internal/bytealg.IndexByte", "internal/bytealg.IndexByteString", "internal/bytealg.abigen_runtime_cmpstring"], apart := false, narrowed := true }
def KaserverBoundsUptoSaid : Prop := kaserverBoundsUptoRow.holds Tryz.pinned (OpenSpec.upto kaserverBoundsSpec)

/-- 'kerbsuitelaw23.KaserverPasswords', WHERE WHAT IT READS IS OF BULK AT MOST 1048576: true; the input reads as it did. -/
def kaserverPasswordsUptoRow : OpenClaim := { program := "ytaikjfcgemjghaagreat", sum := "17e50998216180423f9c3cb6d49cf0513663aa8d491e0fb7503639b6568c2a33", func := "kerbsuite/kerbsuitelaw23.KaserverPasswords", spec := "kaserverPasswords", inPlace := ["internal/bytealg.IndexByte", "internal/bytealg.IndexByteString", "internal/bytealg.abigen_runtime_cmpstring"], apart := false, narrowed := true }
def KaserverPasswordsUptoSaid : Prop := kaserverPasswordsUptoRow.holds Tryz.pinned (OpenSpec.upto kaserverPasswordsSpec)

end Rows
end Go.Proofs.YtaikjfcgemjghaaGreat
