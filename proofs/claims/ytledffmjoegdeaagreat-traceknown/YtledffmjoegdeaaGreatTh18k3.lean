/- Results of functions. -/
import Derived.Test.YtledffmjoegdeaaGreatTl1
set_option linter.all false
namespace Go.Proofs.YtledffmjoegdeaaGreat
open Go Go.Abs Go.Proofs
set_option maxRecDepth 100000
set_option maxHeartbeats 0
attribute [local irreducible] bh IntKind.wrap room Op.bytesLess Tt gE MY TV XB aaZ
theorem apg:Cx sp18 [ec,aa3] (λ| .agg [_,_,_,_,_,.sl _ ms,.sl _ ks,.sl _ bs,.sl _ us,_,.sl _ es,_] :: .agg (.int _ kd::_)::_,C=>(kd=3/\Kerb.cK ks bs=true/\Kerb.dz (Kerb.kn ks bs)<=900000/\us.length<=900000/\Kerb.KnI es ms ks bs)/\WF (λw5 w6 w7 w8 mh G=>Kerb.cK w6 w7=true->Kerb.dz (Kerb.kn w6 w7)<=Kerb.dz (Kerb.kn ks bs)+6026->w8.length<=us.length+2->Kerb.jk mh<=Kerb.jk es+1->Kerb.KnI mh w5 w6 w7->G) λW=>∀ b:Bool,C (.bp [W,.bool b]) | _,_=>False):=O9
end Go.Proofs.YtledffmjoegdeaaGreat
