/- Results of functions. -/
import Derived.Test.YtpelamlfpffacaaGreatTl1
set_option linter.all false
namespace Go.Proofs.YtpelamlfpffacaaGreat
open Go Go.Abs Go.Proofs
set_option maxRecDepth 100000
set_option maxHeartbeats 0
attribute [local irreducible] bh IntKind.wrap room Op.bytesLess Tt gE l_ ik lJ gT
instance t138:Cs sp138 [ll,br,br] (.tu [ll,(.y 2000),br]):=gn
instance t140:Cs sp140 [ll,qM,br,br,br] (.tu [ll,(.y 2000),zK,(.y 2000),br]):=gn
instance t142:Cs sp142 [ll,qM,.b,br,br,br] (.tu [ll,(.y 2000),zK,(.y 2000),br]):=gn
instance t208:Cs sp208 [kQ,(.sl 4 100 mH),br,br,.b,ig,l9] (.tu [(.y 2000),EM,.b]):=gn
instance t205:Cs sp205 [kQ,(.sl 4 100 mH),xn,br,br,.b,ig,l9] (.tu [xn,(.y 2000),EM,.b]):=gn
instance t206:Cs sp206 [kQ,br,br,br,ig,l9] (.tu [kQ,(.y 2000),EM,.b]):=gn
instance t215:Cs sp215 [xn,l9,br,br] (.tu [xn,Xi,(.y 2000),br]):=gn
end Go.Proofs.YtpelamlfpffacaaGreat
