/- Results of functions. -/
import Derived.Test.YtledffmjoegdeaaGreatTl0
set_option linter.all false
namespace Go.Proofs.YtledffmjoegdeaaGreat
open Go Go.Abs Go.Proofs
set_option maxRecDepth 100000
set_option maxHeartbeats 0
attribute [local irreducible] bh IntKind.wrap room Op.bytesLess Tt gE MY TV XB aaZ
instance t253:Cs sp253 [aad,FR,ig,l9] (.tu [aad,FR,zK,br]):=gn
end Go.Proofs.YtledffmjoegdeaaGreat
