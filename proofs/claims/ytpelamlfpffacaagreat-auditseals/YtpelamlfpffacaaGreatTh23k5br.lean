/- Results of functions, by their own runs. -/
import Derived.Test.YtpelamlfpffacaaGreatTl2
set_option linter.all false
namespace Go.Proofs.YtpelamlfpffacaaGreat
open Go Go.Abs Go.Proofs
set_option maxRecDepth 100000
set_option maxHeartbeats 100000000
attribute [local irreducible] bH IntKind.wrap room Op.bytesLess Tt fe
attribute [local irreducible] jh fI ji fH
theorem R7:Cx sp23 [kJ,p8] (fun | .agg [.sl _ rs,_,_,.sl _ pp,_,.sl _ ms,.sl _ ks,.sl _ bs,.sl _ us,_,.sl _ es,_] :: .agg (.int _ kd :: .int _ sa :: .int _ sb::_)::_,C=>(kd=5/\rs.length=1/\MF rs ms sa 0/\Kerb.eo ks bs=true/\Kerb.fb (Kerb.kn ks bs)<=900000/\us.length<=900000)/\∀ (w0:List AV) (w1:List AV) (w2:List AV) (w3:List AV) (w4:List AV) (w5:List AV) (w6:List AV) (w7:List AV) (w8:List AV) (w9:Int) (fT:List AV) (pk:Int),w0.length<=2->Al fM w0->w1.length<=100->Al fG w1->w2.length<=100->Al gm w2->w3.length<=100->Al fN w3->w4.length<=100->Al gy w4->w5.length<=200->Al hY w5->w6.length<=1000000->Al eR w6->w7.length<=1000000->Al jH w7->w8.length<=1000000->Al eR w8->fT.length<=400->Al mP fT->(w3.length=0/\w4.length=0\/3<=w2.length)->Kerb.eo w6 w7=true->Kerb.fb (Kerb.kn w6 w7)<=Kerb.fb (Kerb.kn ks bs)+6026->w8.length<=us.length+2->Kerb.lS fT<=Kerb.lS es+1->∀ b:Bool,C (.bC [(.agg [.sl 13 w0,.sl 4 w1,.sl 2 w2,.sl 31 w3,.sl 10 w4,.sl 4 w5,.sl 1 w6,.sl 1 w7,.sl 1 w8,.int .i64 w9,.sl 51 fT,.int .i64 pk]),.bool b]) | _,_=>False):=by
 refine Cx.of ?_
 (repeat (first | intro _ | ((with_reducible refine dQ ?_);(conv=>whnf);intro _) | ((with_reducible refine c8 ?_);(conv=>whnf))))
 rename_i Q hQ;obtain⟨hp,hQ⟩:=hQ;try have DW:=Kerb.jn (by assumption) hp.1
 have hYR:=hp.2.2.1;delta sp23;refine eA fw rfl rfl ?_;intro _ jY;exact oN
end Go.Proofs.YtpelamlfpffacaaGreat
