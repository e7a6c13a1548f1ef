/- Results of functions, by their own runs. -/
import Derived.Test.YtpelamlfpffacaaGreatTl1
set_option linter.all false
namespace Go.Proofs.YtpelamlfpffacaaGreat
open Go Go.Abs Go.Proofs
set_option maxRecDepth 100000
set_option maxHeartbeats 100000000
attribute [local irreducible] bH IntKind.wrap room Op.bytesLess Tt fe
attribute [local irreducible] jh fI ji fH
instance t58:Cx sp58 [kJ,Gc] (fun | .agg (_::_ :: .sl _ h :: .sl _ p :: .sl _ s::_)::_,C=>(0<h.length/\0<p.length/\0<s.length)/\Sh.all (.y 3000000) C | _,_=>False):=GV
end Go.Proofs.YtpelamlfpffacaaGreat
