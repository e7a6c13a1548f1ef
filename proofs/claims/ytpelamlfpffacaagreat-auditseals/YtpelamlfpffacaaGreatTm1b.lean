/- Results of functions, by their own runs. -/
import Derived.Test.YtpelamlfpffacaaGreatTl1
set_option linter.all false
namespace Go.Proofs.YtpelamlfpffacaaGreat
open Go Go.Abs Go.Proofs
set_option maxRecDepth 100000
set_option maxHeartbeats 100000000
attribute [local irreducible] bH IntKind.wrap room Op.bytesLess Tt fe
attribute [local irreducible] jh fI ji fH
instance t138:Cs sp138 [lg,bN,bN] (.tu [lg,(.y 2000),bN]):=gF
instance t140:Cs sp140 [lg,qN,bN,bN,bN] (.tu [lg,(.y 2000),yq,(.y 2000),bN]):=gF
instance t142:Cs sp142 [lg,qN,.b,bN,bN,bN] (.tu [lg,(.y 2000),yq,(.y 2000),bN]):=gF
instance t206:Cs sp206 [kE,bN,bN,bN,eR,jH] (.tu [kE,(.y 2000),DA,.b]):=gF
end Go.Proofs.YtpelamlfpffacaaGreat
