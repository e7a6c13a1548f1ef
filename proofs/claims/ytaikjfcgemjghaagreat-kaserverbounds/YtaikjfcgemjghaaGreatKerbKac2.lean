/- Chapter 24: lengths and bounds. -/
import Derived.Test.YtaikjfcgemjghaaGreatKerbKac
import Derived.Test.YtaikjfcgemjghaaGreatKerbKaRef
import Derived.Test.YtaikjfcgemjghaaGreatKerbCli5
namespace Kerb
open Go Go.Abs
set_option linter.unusedVariables false
def KaAnswer.ok (a:KaAnswer):Prop:=a.service.valid=true∨a.service=noPrin
theorem kaRep_box (b:Bytes):(decodeKaReply b).val.box.length≤1012:=by
 unfold decodeKaReply
 split
 ·simp [noKaReply]
 unfold decBy
 split
 ·simp [noKaReply]
 ·rename_i h0 h
  have he:(encodeKaReply (readKaRep b).1).err=0:=Decidable.byContradiction fun x=>h (.inr (.inl x))
  unfold encodeKaReply at he
  split at he
  ·cases he
  split at he
  ·cases he
  split at he
  ·cases he
  ·simp only;omega
end Kerb
