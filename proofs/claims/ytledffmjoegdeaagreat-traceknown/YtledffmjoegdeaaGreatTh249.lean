/- Results of functions. -/
import Derived.Test.YtledffmjoegdeaaGreatTl0
set_option linter.all false
namespace Go.Proofs.YtledffmjoegdeaaGreat
open Go Go.Abs Go.Proofs
set_option maxRecDepth 100000
set_option maxHeartbeats 0
attribute [local irreducible] bh IntKind.wrap room Op.bytesLess Tt gE MY TV XB aaZ
instance t249:Cs sp249 [ep,br,l9] (.tu [(.y 2000),EM,.b]):=gn
end Go.Proofs.YtledffmjoegdeaaGreat
