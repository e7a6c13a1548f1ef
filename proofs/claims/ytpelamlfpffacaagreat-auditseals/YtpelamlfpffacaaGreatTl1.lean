/- Results of functions, by their own runs. -/
import Derived.Test.YtpelamlfpffacaaGreatTl0
import Derived.Test.YtpelamlfpffacaaGreatTm0a
import Derived.Test.YtpelamlfpffacaaGreatTm0b
import Derived.Test.YtpelamlfpffacaaGreatTha1
import Derived.Test.YtpelamlfpffacaaGreatTh51
import Derived.Test.YtpelamlfpffacaaGreatTh217
import Derived.Test.YtpelamlfpffacaaGreatTh234
import Derived.Test.YtpelamlfpffacaaGreatTh207
import Derived.Test.YtpelamlfpffacaaGreatTh211
import Derived.Test.YtpelamlfpffacaaGreatTh285
set_option linter.all false
namespace Go.Proofs.YtpelamlfpffacaaGreat
open Go Go.Abs Go.Proofs
set_option maxRecDepth 100000
set_option maxHeartbeats 100000000
attribute [local irreducible] bH IntKind.wrap room Op.bytesLess Tt fe
attribute [local irreducible] jh fI ji fH
instance t279:Cs sp279 [qN,bN,bN,.b] ((.y 2000)):=gF
instance t293:Cs sp293 [jH] (.tu [Vl,bN]):=gF
instance t295:Cs sp295 [jH] (.tu [Ve,bN]):=gF
instance t165:Cs sp165 [Rj,.b,eR] (.tu [(.y 2000),bN]):=gF
instance t294:Cs sp294 [jH,bN,.b] ((.y 2000)):=gF
instance t406:Cs sp406 [jH,.b] (.tu [Rj,bN]):=gF
instance t98:Cx sp98 [kJ,Gc,fN,wD,.b] (fun | .agg (_::_ :: .sl _ h::_)::_,C=>0<h.length/\jH.all C | _,_=>False):=GV
instance t221:Cx sp221 [lg,yq,.b,bN,bN,bN] (fun | _,C=>∀ (b1 b2:Bool) (n:Int) (s t a:List UInt8) (e:Int),s.length<=1000->t.length<=1000000->a.length<=2000->C (.bC [.agg [.bool b1,.bool b2,.int .i64 n,.str s,.bs t,.bs a],.int .i64 e])):=gF
instance t350:Cs sp350 [jH,.b,eR] (.tu [Rj,bN]):=gF
instance t277:Cs sp277 [wD,Vc,bN,bN] (.tu [wD,TY,bN]):=gF
instance t278:Cs sp278 [wD,Vc,bN,bN,.b] ((.y 2000)):=gF
end Go.Proofs.YtpelamlfpffacaaGreat
