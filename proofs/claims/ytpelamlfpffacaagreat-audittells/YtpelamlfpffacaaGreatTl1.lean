/- Results of functions. -/
import Derived.Test.YtpelamlfpffacaaGreatTl0
import Derived.Test.YtpelamlfpffacaaGreatTm0a
import Derived.Test.YtpelamlfpffacaaGreatTm0b
import Derived.Test.YtpelamlfpffacaaGreatTha1
import Derived.Test.YtpelamlfpffacaaGreatTha2
import Derived.Test.YtpelamlfpffacaaGreatTha3
import Derived.Test.YtpelamlfpffacaaGreatTh207
import Derived.Test.YtpelamlfpffacaaGreatTh211
set_option linter.all false
open Go.IntKind renaming i64->AI
namespace Go.Proofs.YtpelamlfpffacaaGreat
open Go Go.Abs Go.Proofs
set_option maxRecDepth 100000
set_option maxHeartbeats 0
attribute [local irreducible] bh IntKind.wrap room Op.bytesLess Tt gE l_ ik lJ gT
instance t279:Cs sp279 [qM,br,br,.b] ((.y 2000)):=gn
instance t293:Cs sp293 [l9] (.tu [YR,br]):=by
 have i91:=Kerb.ew5;have i92:=Kerb.ew6;exact gn
instance t295:Cs sp295 [l9] (.tu [YP,br]):=by
 have i91:=Kerb.ew5;have i92:=Kerb.ew6;exact gn
instance t165:Cs sp165 [TH,.b,ig] (.tu [(.y 2000),br]):=gn
instance t294:Cs sp294 [l9,br,.b] ((.y 2000)):=gn
instance t406:Cs sp406 [l9,.b] (.tu [TH,br]):=gn
instance t98:Cx sp98 [jY,HM,nC,xn,.b] (λ| .agg (_::_ :: .sl _ h::_)::_,C=>0<h.length/\l9.all C | _,_=>False):=IX
instance t221:Cx sp221 [ll,zK,.b,br,br,br] (λ| _,C=>∀ (b1 b2:Bool) (n:Int) (s t a:List UInt8) (e:Int),s.length<=1000->t.length<=1000000->a.length<=2000->C (.bp [.agg [.bool b1,.bool b2,.int AI n,.str s,.bs t,.bs a],.int AI e])):=gn
instance t350:Cs sp350 [l9,.b,ig] (.tu [TH,br]):=gn
instance t277:Cs sp277 [xn,YO,br,br] (.tu [xn,Xi,br]):=gn
instance t278:Cs sp278 [xn,YO,br,br,.b] ((.y 2000)):=gn
end Go.Proofs.YtpelamlfpffacaaGreat
