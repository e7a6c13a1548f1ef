/-
  No cell of these rows narrows 'for every input' (looked for: loops, veiled, ifaces, maps, wideKeys, modest, calm, conditions, laid).
  DERIVED. THE GIVEN ROWS OF THIS SEAT. 5 by the template 'for every input the law returns true; each argument reads behind the call as it read before'; 0 by the template 'total and deterministic' (their statements: YteafbgcimcpfiaaGreatTotals.lean).
  GIVEN WITH THE SEED: the statements are not yours to turn. If you find one false, say at which input.
  Laid BY PROGRAM, IN A SANDBOX (cutbox-rows.mjs): the forced cells as the released guide's own fill.sh prints them over the translation 26e7f128d347ab99… (all of the seat's roots in one cut). By AI agents, Wed Nov 11 2026. No macro, syntax, notation, axiom, sorry.
-/
import Derived.Test.YteafbgcimcpfiaaGreatChecked
import GoSem.Claim
import GoSem.ClaimJoined
import GoSem.ClaimMapViews
import Derived.JoinedTies
import Derived.KernelRfl
namespace Go.Proofs.YteafbgcimcpfiaaGreat
/- THE CELL 'sum', in the pinned program and in every row, IS THE sha256 OF THE DUMP (.gsa) THAT YteafbgcimcpfiaaGreatProg.lean LOADS. Nothing in Lean hashes anything: it is a label: what it is worth is what the hold of that sum in a sandbox is worth. -/
noncomputable def Tryz.pinned : Pinned := { name := "yteafbgcimcpfiaagreat", sum := "26e7f128d347ab996995bf6bb3404a37586c59ac41fcfc45130c6c7865b358d6", checked := Tryz.checked }
namespace Rows
def none {H : Type} : Left H := { results := [], args := [] }

/-- 'kerbsuitelaw27.KnowledgeParts': WHATEVER THE INPUT: true; the input reads as it did. -/
def knowledgePartsSpec : ChangeSpec := { name := "knowledgeParts", fn := fun _ => fun
  | [d1, d2, d3] => { results := [.lit (.bool true)], args := [d1, d2, d3] }
  | _ => none }
def knowledgePartsRow : OpenClaim := { program := "yteafbgcimcpfiaagreat", sum := "26e7f128d347ab996995bf6bb3404a37586c59ac41fcfc45130c6c7865b358d6", func := "kerbsuite/kerbsuitelaw27.KnowledgeParts", spec := "knowledgeParts", inPlace := ["internal/bytealg.IndexByte", "internal/bytealg.IndexByteString"], unfollowed := true, recurses := true, apart := false }
def KnowledgePartsSaid : Prop := knowledgePartsRow.holds Tryz.pinned (OpenSpec.ofChange knowledgePartsSpec)

/-- ITS FALSE NEIGHBOUR: 'it returns false'. Refute it at one input. -/
def knowledgePartsWrong : ChangeSpec := { name := "knowledgeParts", fn := fun _ => fun
  | [d1, d2, d3] => { results := [.lit (.bool false)], args := [d1, d2, d3] }
  | _ => none }
def KnowledgePartsWrongFalsely : Prop := knowledgePartsRow.holds Tryz.pinned (OpenSpec.ofChange knowledgePartsWrong)

/-- 'kerbsuitelaw27.KnowledgeOrder': WHATEVER THE INPUT: true; the input reads as it did. -/
def knowledgeOrderSpec : ChangeSpec := { name := "knowledgeOrder", fn := fun _ => fun
  | [d1, d2, d3] => { results := [.lit (.bool true)], args := [d1, d2, d3] }
  | _ => none }
def knowledgeOrderRow : OpenClaim := { program := "yteafbgcimcpfiaagreat", sum := "26e7f128d347ab996995bf6bb3404a37586c59ac41fcfc45130c6c7865b358d6", func := "kerbsuite/kerbsuitelaw27.KnowledgeOrder", spec := "knowledgeOrder", inPlace := ["internal/bytealg.IndexByte", "internal/bytealg.IndexByteString"], unfollowed := true, recurses := true, apart := false }
def KnowledgeOrderSaid : Prop := knowledgeOrderRow.holds Tryz.pinned (OpenSpec.ofChange knowledgeOrderSpec)

/-- ITS FALSE NEIGHBOUR: 'it returns false'. Refute it at one input. -/
def knowledgeOrderWrong : ChangeSpec := { name := "knowledgeOrder", fn := fun _ => fun
  | [d1, d2, d3] => { results := [.lit (.bool false)], args := [d1, d2, d3] }
  | _ => none }
def KnowledgeOrderWrongFalsely : Prop := knowledgeOrderRow.holds Tryz.pinned (OpenSpec.ofChange knowledgeOrderWrong)

/-- 'kerbsuitelaw27.KnowledgeSecret': WHATEVER THE INPUT: true; the input reads as it did. -/
def knowledgeSecretSpec : ChangeSpec := { name := "knowledgeSecret", fn := fun _ => fun
  | [d1, d2] => { results := [.lit (.bool true)], args := [d1, d2] }
  | _ => none }
def knowledgeSecretRow : OpenClaim := { program := "yteafbgcimcpfiaagreat", sum := "26e7f128d347ab996995bf6bb3404a37586c59ac41fcfc45130c6c7865b358d6", func := "kerbsuite/kerbsuitelaw27.KnowledgeSecret", spec := "knowledgeSecret", inPlace := ["internal/bytealg.IndexByte", "internal/bytealg.IndexByteString"], unfollowed := true, recurses := true, apart := false }
def KnowledgeSecretSaid : Prop := knowledgeSecretRow.holds Tryz.pinned (OpenSpec.ofChange knowledgeSecretSpec)

/-- ITS FALSE NEIGHBOUR: 'it returns false'. Refute it at one input. -/
def knowledgeSecretWrong : ChangeSpec := { name := "knowledgeSecret", fn := fun _ => fun
  | [d1, d2] => { results := [.lit (.bool false)], args := [d1, d2] }
  | _ => none }
def KnowledgeSecretWrongFalsely : Prop := knowledgeSecretRow.holds Tryz.pinned (OpenSpec.ofChange knowledgeSecretWrong)

/-- 'kerbsuitelaw27.KnowledgeLearns': WHATEVER THE INPUT: true; the input reads as it did. -/
def knowledgeLearnsSpec : ChangeSpec := { name := "knowledgeLearns", fn := fun _ => fun
  | [d1, d2, d3, d4, d5] => { results := [.lit (.bool true)], args := [d1, d2, d3, d4, d5] }
  | _ => none }
def knowledgeLearnsRow : OpenClaim := { program := "yteafbgcimcpfiaagreat", sum := "26e7f128d347ab996995bf6bb3404a37586c59ac41fcfc45130c6c7865b358d6", func := "kerbsuite/kerbsuitelaw27.KnowledgeLearns", spec := "knowledgeLearns", inPlace := ["internal/bytealg.IndexByte", "internal/bytealg.IndexByteString"], unfollowed := true, recurses := true, apart := false }
def KnowledgeLearnsSaid : Prop := knowledgeLearnsRow.holds Tryz.pinned (OpenSpec.ofChange knowledgeLearnsSpec)

/-- ITS FALSE NEIGHBOUR: 'it returns false'. Refute it at one input. -/
def knowledgeLearnsWrong : ChangeSpec := { name := "knowledgeLearns", fn := fun _ => fun
  | [d1, d2, d3, d4, d5] => { results := [.lit (.bool false)], args := [d1, d2, d3, d4, d5] }
  | _ => none }
def KnowledgeLearnsWrongFalsely : Prop := knowledgeLearnsRow.holds Tryz.pinned (OpenSpec.ofChange knowledgeLearnsWrong)

/-- 'kerbsuitelaw27.KnowledgeMakes': WHATEVER THE INPUT: true; the input reads as it did. -/
def knowledgeMakesSpec : ChangeSpec := { name := "knowledgeMakes", fn := fun _ => fun
  | [d1, d2, d3] => { results := [.lit (.bool true)], args := [d1, d2, d3] }
  | _ => none }
def knowledgeMakesRow : OpenClaim := { program := "yteafbgcimcpfiaagreat", sum := "26e7f128d347ab996995bf6bb3404a37586c59ac41fcfc45130c6c7865b358d6", func := "kerbsuite/kerbsuitelaw27.KnowledgeMakes", spec := "knowledgeMakes", inPlace := ["internal/bytealg.IndexByte", "internal/bytealg.IndexByteString"], unfollowed := true, recurses := true, apart := false }
def KnowledgeMakesSaid : Prop := knowledgeMakesRow.holds Tryz.pinned (OpenSpec.ofChange knowledgeMakesSpec)

/-- ITS FALSE NEIGHBOUR: 'it returns false'. Refute it at one input. -/
def knowledgeMakesWrong : ChangeSpec := { name := "knowledgeMakes", fn := fun _ => fun
  | [d1, d2, d3] => { results := [.lit (.bool false)], args := [d1, d2, d3] }
  | _ => none }
def KnowledgeMakesWrongFalsely : Prop := knowledgeMakesRow.holds Tryz.pinned (OpenSpec.ofChange knowledgeMakesWrong)

/- THE SECOND FORM. 'bulk': how many values and letters a reading holds, each counted each time it is reached (what is shared counts as often as it is met; a slice's spare places count too). A statement '..UptoSaid' is the law's where the arguments, and the package variables that the reading takes, are together of bulk at most 1048576: NARROWER than '..Said'. Prove '..Said' where nothing that the law and all that it calls make is longer than what came in: it says more and counts as full. Else prove '..UptoSaid'. A law counts once. -/
mutual
def uptoBulk {H : Type} : DataW H → Nat
  | .lit (.string bytes) => bytes.length + 1
  | .lit _ => 1
  | .nil => 1
  | .ptr d => uptoBulk d + 1
  | .slice elems spare => uptoBulkAll elems + uptoBulkAll spare + 1
  | .agg parts => uptoBulkAll parts + 1
  | .iface _ d => uptoBulk d + 1
  | .map entries => uptoBulkEntries entries + 1
  | .held _ => 1
def uptoBulkAll {H : Type} : List (DataW H) → Nat
  | [] => 0
  | d :: r => uptoBulk d + uptoBulkAll r
def uptoBulkEntries {H : Type} : List (Lit × DataW H) → Nat
  | [] => 0
  | x :: r => uptoBulkEntry x + uptoBulkEntries r
def uptoBulkEntry {H : Type} : Lit × DataW H → Nat
  | (.string bytes, d) => bytes.length + uptoBulk d + 1
  | (_, d) => uptoBulk d + 1
 end
def uptoSmall : (H : Type) → List (DataW H) → Bool := fun _ ds => decide (uptoBulkAll ds ≤ 1048576)
def OpenSpec.upto (s : _root_.Go.ChangeSpec) : _root_.Go.OpenSpec := { _root_.Go.OpenSpec.ofChange s with cond := some uptoSmall }

/-- 'kerbsuitelaw27.KnowledgeParts', WHERE WHAT IT READS IS OF BULK AT MOST 1048576: true; the input reads as it did. -/
def knowledgePartsUptoRow : OpenClaim := { program := "yteafbgcimcpfiaagreat", sum := "26e7f128d347ab996995bf6bb3404a37586c59ac41fcfc45130c6c7865b358d6", func := "kerbsuite/kerbsuitelaw27.KnowledgeParts", spec := "knowledgeParts", inPlace := ["internal/bytealg.IndexByte", "internal/bytealg.IndexByteString"], unfollowed := true, recurses := true, apart := false, narrowed := true }
def KnowledgePartsUptoSaid : Prop := knowledgePartsUptoRow.holds Tryz.pinned (OpenSpec.upto knowledgePartsSpec)

/-- 'kerbsuitelaw27.KnowledgeOrder', WHERE WHAT IT READS IS OF BULK AT MOST 1048576: true; the input reads as it did. -/
def knowledgeOrderUptoRow : OpenClaim := { program := "yteafbgcimcpfiaagreat", sum := "26e7f128d347ab996995bf6bb3404a37586c59ac41fcfc45130c6c7865b358d6", func := "kerbsuite/kerbsuitelaw27.KnowledgeOrder", spec := "knowledgeOrder", inPlace := ["internal/bytealg.IndexByte", "internal/bytealg.IndexByteString"], unfollowed := true, recurses := true, apart := false, narrowed := true }
def KnowledgeOrderUptoSaid : Prop := knowledgeOrderUptoRow.holds Tryz.pinned (OpenSpec.upto knowledgeOrderSpec)

/-- 'kerbsuitelaw27.KnowledgeSecret', WHERE WHAT IT READS IS OF BULK AT MOST 1048576: true; the input reads as it did. -/
def knowledgeSecretUptoRow : OpenClaim := { program := "yteafbgcimcpfiaagreat", sum := "26e7f128d347ab996995bf6bb3404a37586c59ac41fcfc45130c6c7865b358d6", func := "kerbsuite/kerbsuitelaw27.KnowledgeSecret", spec := "knowledgeSecret", inPlace := ["internal/bytealg.IndexByte", "internal/bytealg.IndexByteString"], unfollowed := true, recurses := true, apart := false, narrowed := true }
def KnowledgeSecretUptoSaid : Prop := knowledgeSecretUptoRow.holds Tryz.pinned (OpenSpec.upto knowledgeSecretSpec)

/-- 'kerbsuitelaw27.KnowledgeLearns', WHERE WHAT IT READS IS OF BULK AT MOST 1048576: true; the input reads as it did. -/
def knowledgeLearnsUptoRow : OpenClaim := { program := "yteafbgcimcpfiaagreat", sum := "26e7f128d347ab996995bf6bb3404a37586c59ac41fcfc45130c6c7865b358d6", func := "kerbsuite/kerbsuitelaw27.KnowledgeLearns", spec := "knowledgeLearns", inPlace := ["internal/bytealg.IndexByte", "internal/bytealg.IndexByteString"], unfollowed := true, recurses := true, apart := false, narrowed := true }
def KnowledgeLearnsUptoSaid : Prop := knowledgeLearnsUptoRow.holds Tryz.pinned (OpenSpec.upto knowledgeLearnsSpec)

/-- 'kerbsuitelaw27.KnowledgeMakes', WHERE WHAT IT READS IS OF BULK AT MOST 1048576: true; the input reads as it did. -/
def knowledgeMakesUptoRow : OpenClaim := { program := "yteafbgcimcpfiaagreat", sum := "26e7f128d347ab996995bf6bb3404a37586c59ac41fcfc45130c6c7865b358d6", func := "kerbsuite/kerbsuitelaw27.KnowledgeMakes", spec := "knowledgeMakes", inPlace := ["internal/bytealg.IndexByte", "internal/bytealg.IndexByteString"], unfollowed := true, recurses := true, apart := false, narrowed := true }
def KnowledgeMakesUptoSaid : Prop := knowledgeMakesUptoRow.holds Tryz.pinned (OpenSpec.upto knowledgeMakesSpec)

end Rows
end Go.Proofs.YteafbgcimcpfiaaGreat
