/- Results of functions. -/
import Derived.Test.YtledffmjoegdeaaGreatTl0
set_option linter.all false
open Go.IntKind renaming i64->AI
namespace Go.Proofs.YtledffmjoegdeaaGreat
open Go Go.Abs Go.Proofs
set_option maxRecDepth 100000
set_option maxHeartbeats 0
attribute [local irreducible] bh IntKind.wrap room Op.bytesLess Tt gE MY TV XB aaZ
instance t38:Cx sp38 [adq,ec] (λ| [_,.agg (_::_ :: .sl _ h::_)],C=>0<h.length/\∀ n:Int,C (.int AI n) | _,_=>False):=IX
instance t169:Cs sp169 [Oi] (aa9):=gn
instance t84:Cs sp84 [ec,.u8,br] (l9):=by
 have i3:eP 3 (λs C=>QY s 14 λVS=>∀ (v0:List AV) (v1:Int),(v0.length:Int)<=VS+v1->Al l9 v0->0<=v1->v1<=1000000 ->  C (stL (stL s 14 (.ay v0)) 15 (.int AI v1))) (mI 15 1000001):=⟨⟩;exact gn
instance t91:Cx sp91 [ec,adq,aa1,abp] (λ| .agg (_::_ :: .sl _ h::_)::_,C=>0<h.length/\l9.all C | _,_=>False):=IX
instance t162:Cs sp162 [aad,ig,br,br] (.tu [FR,(.y 2000),br]):=gn
instance t251:Cs sp251 [aad,ig,l9,br] (.tu [aad,zK,br]):=gn
instance t250:Cs sp250 [ep,(.sl 4 100 aa0),br,br,.b,ig,l9] (.tu [(.y 2000),EM,.b]):=gn
instance t328:Cs sp328 [abp,aju,br,br,.b] ((.y 2000)):=gn
instance t248:Cs sp248 [ep,br,br,br,ig,l9] (.tu [ep,(.y 2000),EM,.b]):=gn
end Go.Proofs.YtledffmjoegdeaaGreat
