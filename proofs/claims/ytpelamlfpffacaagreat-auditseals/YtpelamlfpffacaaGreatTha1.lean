/- Results of functions, by their own runs. -/
import Derived.Test.YtpelamlfpffacaaGreatTl0
set_option linter.all false
namespace Go.Proofs.YtpelamlfpffacaaGreat
open Go Go.Abs Go.Proofs
set_option maxRecDepth 100000
set_option maxHeartbeats 100000000
attribute [local irreducible] bH IntKind.wrap room Op.bytesLess Tt fe
attribute [local irreducible] jh fI ji fH
instance t106:Cx sp106 [kJ,bN] (fun | [.agg (_::_::_::_::_ :: .sl _ m::_),.int _ i],C=>(0<=i/\i<m.length)/\∀ n:Int,-9223372036854775808<=n->n<=9223372036854775807->C (.int .i64 n) | _,_=>False):=by
 have i3:fX 3 (fun s C=>∀ (v0:Int) (v1:Int),0<=v1->v1<=1000000 ->  C (stL (stL s 13 (.int .i64 v0)) 17 (.int .i64 v1))) (mI 17 1000001):=⟨⟩;have i10:fX 10 (fun s C=>leS s 18 fun u18=>∀ (v0:Int) (v1:Int) (v2:Int),-1<=v2->v2<=u18->0<=v1/\v1<=1000000 ->  C (stL (stL (stL s 12 (.int .i64 v0)) 17 (.int .i64 v1)) 18 (.int .i64 v2))) (mD 18 (-2)):=⟨⟩;have i18:fX 18 (fun s C=>∀ (v0:Int) (v1:Int),0<=v1->v1<=1000000 ->  C (stL (stL s 12 (.int .i64 v0)) 18 (.int .i64 v1))) (mI 18 1000001):=⟨⟩;exact GV
instance t276:Cs sp276 [kE,(.sl 4 100 fG)] ((.sl 5 1000 CB)):=by
 have i6:fX 6 (fun s C=>OV s 3 fun L3=>∀ (v0:List AV) (v1:Int),(v0.length:Int)<=L3+v1->Al CB v0->0<=v1->v1<=100 ->  C (stL (stL s 3 (.aD v0)) 4 (.int .i64 v1))) (mI 4 1000001):=⟨⟩;exact gF
instance t82:Cs sp82 [(.sl 13 100 fM),(.sl 4 100 fG),(.sl 31 100 fN),(.sl 10 100 gy)] (.ol 300000 CC):=by
 have i3:fX 3 (fun s C=>OV s 4 fun L4=>∀ (v0:List AV) (v1:Int),(v0.length:Int)<=L4+1000*v1->Al CC v0->0<=v1->v1<=100 ->  C (stL (stL s 4 (.aD v0)) 5 (.int .i64 v1))) (mI 5 1000001):=⟨⟩;have i7:fX 7 (fun s C=>OV s 4 fun L4=>∀ (v0:List AV) (v1:Int),(v0.length:Int)<=L4+v1->Al CC v0->0<=v1->v1<=100 ->  C (stL (stL s 4 (.aD v0)) 8 (.int .i64 v1))) (mI 8 1000001):=⟨⟩;have i12:fX 12 (fun s C=>OV s 3 fun L3=>∀ (v0:List AV) (v1:Int),(v0.length:Int)<=L3+v1->Al CC v0->0<=v1->v1<=100 ->  C (stL (stL s 3 (.aD v0)) 4 (.int .i64 v1))) (mI 4 1000001):=⟨⟩;have i16:fX 16 (fun s C=>OV s 2 fun L2=>∀ (v0:List AV) (v1:Int),(v0.length:Int)<=L2+1000*v1->Al CC v0->0<=v1->v1<=100 ->  C (stL (stL s 2 (.aD v0)) 3 (.int .i64 v1))) (mI 3 1000001):=⟨⟩;have i19:fX 19 (fun s C=>OV s 2 fun L2=>∀ (v0:List AV) (v1:Int),(v0.length:Int)<=L2+v1->Al CC v0->0<=v1->v1<=1000 ->  C (stL (stL s 2 (.aD v0)) 4 (.int .i64 v1))) (mI 4 1000001):=⟨⟩;have i24:fX 24 (fun s C=>OV s 1 fun L1=>∀ (v0:List AV) (v1:Int),(v0.length:Int)<=L1+v1->Al CC v0->0<=v1->v1<=100 ->  C (stL (stL s 1 (.aD v0)) 2 (.int .i64 v1))) (mI 2 1000001):=⟨⟩;exact gF
instance t99:Cs sp99 [Ve] (.tu [(.y 2000),bN]):=by
 have i8:fX 8 (fun s C=>∀ (v0:List UInt8) (v1:Int) (v2:Int),v0.length<=1000000->0<=v2->v2<=1000000 ->  C (stL (stL (stL s 7 (.bs v0)) 8 (.int .i64 v1)) 9 (.int .i64 v2))) (mI 9 1000001):=⟨⟩;exact gF
end Go.Proofs.YtpelamlfpffacaaGreat
