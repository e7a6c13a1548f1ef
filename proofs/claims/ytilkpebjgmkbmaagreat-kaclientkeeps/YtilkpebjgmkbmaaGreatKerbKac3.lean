/- Chapter 24: the statements' answers. -/
import Derived.Test.YtilkpebjgmkbmaaGreatKerbKac
namespace Kerb
open Go Go.Abs
set_option linter.unusedVariables false
def kacOp (a : KacAns) (w : KaWait) : Int := cond (m8 a.op == 7) (IntKind.wrap .i64 (1 + Int.tmod (IntKind.wrap .i64 (Int.tdiv (IntKind.wrap .i64 (↑a.op.toNat : Int)) 8)) 3)) w.op
def kacX1 (a : KacAns) (w : KaWait) : KaAnswer :=
  cond (kacOp a w == 3) ⟨lDone, IntKind.wrap .i64 (w.time + 1), 0, 0, 0, 0, noPrin, []⟩
    ⟨cond (kacOp a w == 2) lGiven lGot, IntKind.wrap .i64 (w.time + 1), session 50, IntKind.wrap .i64 a.start, IntKind.wrap .i64 (IntKind.wrap .i64 a.stop * 3), 4, w.service, [7]⟩
def kacX (a : KacAns) (w : KaWait) : KaAnswer :=
  { kacX1 a w with label := cond (m8 a.label == 7 && !(kacOp a w == 3)) lGiven (kacX1 a w).label, time := cond (m8 a.time == 7) (IntKind.wrap .i64 (↑a.time.toNat : Int)) (kacX1 a w).time, service := cond (m8 a.service == 7 && !(kacOp a w == 3)) (Kerb.service (d8 a.service)) (kacX1 a w).service }
def kacKey (a : KacAns) (w : KaWait) (k : Int) : Int := cond (m8 a.key == 7) (session (IntKind.wrap .i64 (↑a.key.toNat : Int))) (cond (kacOp a w == 2) w.session k)
def kacReply (a : KacAns) (w : KaWait) (k : Int) : KaReply :=
  cond (m8 a.code == 7) ⟨kacOp a w, d8 a.code, []⟩ ⟨kacOp a w, 0, (makeBox 8 (kacKey a w k) (encodeKaAnswer (kacX a w)).val).val⟩
def kacText (a : KacAns) (w : KaWait) (k : Int) : Bytes :=
  cond (Int.tmod a.how 16 == 15) (spoil (encodeKaReply (kacReply a w k)).val (IntKind.wrap .u16 (Int.tdiv a.how 16))) (encodeKaReply (kacReply a w k)).val
def isKacAns : AV → Bool
  | .agg [.u8 a, .u8 b, .u8 c, .u8 d, .u8 e, .u8 f, .int .u16 g, .int .u16 h, .int .u16 i] => decide (0 ≤ g) && decide (g ≤ 65535) && decide (0 ≤ h) && decide (h ≤ 65535) && decide (0 ≤ i) && decide (i ≤ 65535)
  | _ => false
def KacAns.av (x : KacAns) : AV := .agg [.u8 x.op, .u8 x.label, .u8 x.time, .u8 x.service, .u8 x.key, .u8 x.code, .int .u16 x.start, .int .u16 x.stop, .int .u16 x.how]
end Kerb
