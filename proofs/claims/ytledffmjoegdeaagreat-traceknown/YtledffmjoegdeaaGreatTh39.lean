/- Results of functions. -/
import Derived.Test.YtledffmjoegdeaaGreatTl1
set_option linter.all false
namespace Go.Proofs.YtledffmjoegdeaaGreat
open Go Go.Abs Go.Proofs
set_option maxRecDepth 100000
set_option maxHeartbeats 0
attribute [local irreducible] bh IntKind.wrap room Op.bytesLess Tt gE MY TV XB aaZ
instance t39:Cx sp39 [ec,adq] (λ| .agg (_::_ :: .sl _ h :: .sl _ p :: .sl _ s::_)::_,C=>(0<h.length/\0<p.length/\0<s.length)/\Sh.all (.y 3000000) C | _,_=>False):=IX
end Go.Proofs.YtledffmjoegdeaaGreat
