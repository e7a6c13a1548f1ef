/- Results of functions, by their own runs. -/
import Derived.Test.YtpelamlfpffacaaGreatTl1
set_option linter.all false
namespace Go.Proofs.YtpelamlfpffacaaGreat
open Go Go.Abs Go.Proofs
set_option maxRecDepth 100000
set_option maxHeartbeats 100000000
attribute [local irreducible] bH IntKind.wrap room Op.bytesLess Tt fe
attribute [local irreducible] jh fI ji fH
instance t208:Cs sp208 [kE,(.sl 4 100 fG),bN,bN,.b,eR,jH] (.tu [(.y 2000),DA,.b]):=gF
instance t205:Cs sp205 [kE,(.sl 4 100 fG),wD,bN,bN,.b,eR,jH] (.tu [wD,(.y 2000),DA,.b]):=gF
instance t215:Cs sp215 [wD,jH,bN,bN] (.tu [wD,TY,(.y 2000),bN]):=gF
end Go.Proofs.YtpelamlfpffacaaGreat
