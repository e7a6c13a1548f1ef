/- Results of functions. -/
import Derived.Test.YtledffmjoegdeaaGreatTl0
set_option linter.all false
namespace Go.Proofs.YtledffmjoegdeaaGreat
open Go Go.Abs Go.Proofs
set_option maxRecDepth 100000
set_option maxHeartbeats 0
attribute [local irreducible] bh IntKind.wrap room Op.bytesLess Tt gE MY TV XB aaZ
instance t273:Cs sp273 [TH,.b] (.tu [l9,br]):=gn
end Go.Proofs.YtledffmjoegdeaaGreat
