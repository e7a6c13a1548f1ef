/- Results of functions. -/
import Derived.Test.YtpelamlfpffacaaGreatTl0
set_option linter.all false
namespace Go.Proofs.YtpelamlfpffacaaGreat
open Go Go.Abs Go.Proofs
set_option maxRecDepth 100000
set_option maxHeartbeats 0
attribute [local irreducible] bh IntKind.wrap room Op.bytesLess Tt gE l_ ik lJ gT
instance t207:Cs sp207 [kQ,br,l9] (.tu [(.y 2000),EM,.b]):=gn
end Go.Proofs.YtpelamlfpffacaaGreat
