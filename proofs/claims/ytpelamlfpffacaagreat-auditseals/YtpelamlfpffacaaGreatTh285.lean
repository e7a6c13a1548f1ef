/- Results of functions, by their own runs. -/
import Derived.Test.YtpelamlfpffacaaGreatTl0
set_option linter.all false
namespace Go.Proofs.YtpelamlfpffacaaGreat
open Go Go.Abs Go.Proofs
set_option maxRecDepth 100000
set_option maxHeartbeats 100000000
attribute [local irreducible] bH IntKind.wrap room Op.bytesLess Tt fe
attribute [local irreducible] jh fI ji fH
instance t285:Cs sp285 [kE,bN,bN,bN,eR,Vi] (.tu [(.y 2000),DA,.b]):=gF
end Go.Proofs.YtpelamlfpffacaaGreat
