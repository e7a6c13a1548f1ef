/- Results of functions. -/
import Derived.Test.YtpelamlfpffacaaGreatTl0
set_option linter.all false
open Go.IntKind renaming i64->AI
namespace Go.Proofs.YtpelamlfpffacaaGreat
open Go Go.Abs Go.Proofs
set_option maxRecDepth 100000
set_option maxHeartbeats 0
attribute [local irreducible] bh IntKind.wrap room Op.bytesLess Tt gE l_ ik lJ gT
instance t51:Cs sp51 [TE] (af6):=by
 have i5:eP 5 (λs C=>∀ (v0:List AV) (v1:List AV) (v2:List AV) (v3:List AV) (v4:List AV) (v5:Int),v0.length<=100->Al nB v0->v1.length<=100->Al mH v1->v2.length<=100->Al qL v2->v3.length<=100->Al nC v3->v4.length<=100->Al rC v4->0<=v5->v5<=2->(v0.length:Int)<=v5/\v2.length=0/\v3.length=0/\v4.length=0 ->  C (stL (stL (stL (stL (stL (stL s 17 (.ay v0)) 18 (.sl 4 v1)) 19 (.ay v2)) 20 (.ay v3)) 21 (.ay v4)) 22 (.int AI v5))) (mI 22 1000001):=⟨⟩;have i10:eP 10 (λs C=>∀ (v0:List UInt8) (v1:List AV) (v2:Int),v0.length<=1000->v1.length<=100->Al sY v1->0<=v2->v2<=5->(v1.length:Int)=v2 ->  C (stL (stL (stL s 23 (.str v0)) 24 (.ay v1)) 26 (.int AI v2))) (mI 26 1000001):=⟨⟩;have i18:eP 18 (λs C=>∀ (v0:List AV) (v1:List AV) (v2:List AV) (v3:List AV) (v4:List AV) (v5:Int),v0.length<=100->Al nB v0->v1.length<=100->Al mH v1->v2.length<=100->Al qL v2->v3.length<=100->Al nC v3->v4.length<=100->Al rC v4->0<=v5->v5<=3->v0.length<=2/\(v2.length:Int)=v5/\v3.length=0/\v4.length=0 ->  C (stL (stL (stL (stL (stL (stL s 17 (.ay v0)) 18 (.sl 4 v1)) 19 (.ay v2)) 20 (.ay v3)) 21 (.ay v4)) 22 (.int AI v5))) (mI 22 1000001):=⟨⟩;have i23:eP 23 (λs C=>∀ (v0:List AV) (v1:List AV) (v2:List AV) (v3:List AV) (v4:List AV) (v5:Int),v0.length<=100->Al nB v0->v1.length<=100->Al mH v1->v2.length<=100->Al qL v2->v3.length<=100->Al nC v3->v4.length<=100->Al rC v4->0<=v5->v5<=4->v0.length<=2/\v2.length=3/\(v3.length:Int)=v5/\v4.length=0 ->  C (stL (stL (stL (stL (stL (stL s 17 (.ay v0)) 18 (.sl 4 v1)) 19 (.ay v2)) 20 (.ay v3)) 21 (.ay v4)) 23 (.int AI v5))) (mI 23 1000001):=⟨⟩;have i30:eP 30 (λs C=>∀ (v0:List AV) (v1:List AV) (v2:List AV) (v3:List AV) (v4:List AV) (v5:Int),v0.length<=100->Al nB v0->v1.length<=100->Al mH v1->v2.length<=100->Al qL v2->v3.length<=100->Al nC v3->v4.length<=100->Al rC v4->0<=v5->v5<=4->v0.length<=2/\v2.length=3/\v3.length=4/\(v4.length:Int)=v5 ->  C (stL (stL (stL (stL (stL (stL s 7 (.ay v0)) 8 (.sl 4 v1)) 9 (.ay v2)) 10 (.ay v3)) 11 (.ay v4)) 12 (.int AI v5))) (mI 12 1000001):=⟨⟩;exact gn
instance t285:Cs sp285 [kQ,br,br,br,ig,YQ] (.tu [(.y 2000),EM,.b]):=gn
end Go.Proofs.YtpelamlfpffacaaGreat
