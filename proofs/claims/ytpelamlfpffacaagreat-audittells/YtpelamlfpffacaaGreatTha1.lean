/- Results of functions. -/
import Derived.Test.YtpelamlfpffacaaGreatTl0
set_option linter.all false
open Go.IntKind renaming i64->AI
namespace Go.Proofs.YtpelamlfpffacaaGreat
open Go Go.Abs Go.Proofs
set_option maxRecDepth 100000
set_option maxHeartbeats 0
attribute [local irreducible] bh IntKind.wrap room Op.bytesLess Tt gE l_ ik lJ gT
instance t106:Cx sp106 [jY,br] (λ| [.agg (_::_::_::_::_ :: .sl _ m::_),.int _ i],C=>(0<=i/\i<m.length)/\∀ n:Int,-9223372036854775808<=n->n<=9223372036854775807->C (.int AI n) | _,_=>False):=by
 have i3:eP 3 (λs C=>∀ (v0:Int) (v1:Int),0<=v1->v1<=1000000 ->  C (stL (stL s 13 (.int AI v0)) 17 (.int AI v1))) (mI 17 1000001):=⟨⟩;have i10:eP 10 (λs C=>leS s 18 λu18=>∀ (v0:Int) (v1:Int) (v2:Int),-1<=v2->v2<=u18->0<=v1/\v1<=1000000 ->  C (stL (stL (stL s 12 (.int AI v0)) 17 (.int AI v1)) 18 (.int AI v2))) (mD 18 (-2)):=⟨⟩;have i18:eP 18 (λs C=>∀ (v0:Int) (v1:Int),0<=v1->v1<=1000000 ->  C (stL (stL s 12 (.int AI v0)) 18 (.int AI v1))) (mI 18 1000001):=⟨⟩;exact IX
instance t276:Cs sp276 [kQ,(.sl 4 100 mH)] ((.sl 5 1000 DG)):=by
 have i6:eP 6 (λs C=>QY s 3 λL3=>∀ (v0:List AV) (v1:Int),(v0.length:Int)<=L3+v1->Al DG v0->0<=v1->v1<=100 ->  C (stL (stL s 3 (.ay v0)) 4 (.int AI v1))) (mI 4 1000001):=⟨⟩;exact gn
instance t82:Cs sp82 [(.sl 13 100 nB),(.sl 4 100 mH),(.sl 31 100 nC),(.sl 10 100 rC)] (.ol 300000 DH):=by
 have i3:eP 3 (λs C=>QY s 4 λL4=>∀ (v0:List AV) (v1:Int),(v0.length:Int)<=L4+1000*v1->Al DH v0->0<=v1->v1<=100 ->  C (stL (stL s 4 (.ay v0)) 5 (.int AI v1))) (mI 5 1000001):=⟨⟩;have i7:eP 7 (λs C=>QY s 4 λL4=>∀ (v0:List AV) (v1:Int),(v0.length:Int)<=L4+v1->Al DH v0->0<=v1->v1<=100 ->  C (stL (stL s 4 (.ay v0)) 8 (.int AI v1))) (mI 8 1000001):=⟨⟩;have i12:eP 12 (λs C=>QY s 3 λL3=>∀ (v0:List AV) (v1:Int),(v0.length:Int)<=L3+v1->Al DH v0->0<=v1->v1<=100 ->  C (stL (stL s 3 (.ay v0)) 4 (.int AI v1))) (mI 4 1000001):=⟨⟩;have i16:eP 16 (λs C=>QY s 2 λL2=>∀ (v0:List AV) (v1:Int),(v0.length:Int)<=L2+1000*v1->Al DH v0->0<=v1->v1<=100 ->  C (stL (stL s 2 (.ay v0)) 3 (.int AI v1))) (mI 3 1000001):=⟨⟩;have i19:eP 19 (λs C=>QY s 2 λL2=>∀ (v0:List AV) (v1:Int),(v0.length:Int)<=L2+v1->Al DH v0->0<=v1->v1<=1000 ->  C (stL (stL s 2 (.ay v0)) 4 (.int AI v1))) (mI 4 1000001):=⟨⟩;have i24:eP 24 (λs C=>QY s 1 λL1=>∀ (v0:List AV) (v1:Int),(v0.length:Int)<=L1+v1->Al DH v0->0<=v1->v1<=100 ->  C (stL (stL s 1 (.ay v0)) 2 (.int AI v1))) (mI 2 1000001):=⟨⟩;exact gn
instance t99:Cs sp99 [YP] (.tu [(.y 2000),br]):=by
 have i8:eP 8 (λs C=>∀ (v0:List UInt8) (v1:Int) (v2:Int),v0.length<=1000000->0<=v2->v2<=1000000 ->  C (stL (stL (stL s 7 (.bs v0)) 8 (.int AI v1)) 9 (.int AI v2))) (mI 9 1000001):=⟨⟩;exact gn
end Go.Proofs.YtpelamlfpffacaaGreat
