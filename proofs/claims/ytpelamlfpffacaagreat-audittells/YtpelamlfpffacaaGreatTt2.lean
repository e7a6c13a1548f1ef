/- R -/
import Derived.Test.YtpelamlfpffacaaGreatTt1
import Derived.Test.YtpelamlfpffacaaGreatTl3
set_option linter.all false
open Go.IntKind renaming i64->AI
namespace Go.Proofs.YtpelamlfpffacaaGreat
open Go Go.Abs Go.Proofs
set_option maxRecDepth 100000
set_option maxHeartbeats 0
attribute [local irreducible] bh IntKind.wrap room Op.bytesLess Tt gE Kerb.kM Kerb.kZ Kerb.XY l_ ik lJ gT UC UD
instance t3:Cx sp3 [TE,(.sl 6 9223372036854775807 HM),af9,br] (λ| _,C=>C (.bool true)):=by
 have i8:eP 8 (λs C=>∀ (v1:Int),-1<=v1->v1<=403->C (stL s 15 (.int AI v1))) (mI 15 1000001):=⟨⟩;have i19:eP 19 (λs C=>∀ (v1:Int),0<=v1->v1<=1000000->C (stL s 3 (.int AI v1))) (mI 3 1000001):=⟨⟩;exact csS
end Go.Proofs.YtpelamlfpffacaaGreat
