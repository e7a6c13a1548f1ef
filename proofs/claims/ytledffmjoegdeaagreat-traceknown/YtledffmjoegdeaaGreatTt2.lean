/- Results of functions. -/
import Derived.Test.YtledffmjoegdeaaGreatTot0
import Derived.Test.YtledffmjoegdeaaGreatTt1
import Derived.Test.YtledffmjoegdeaaGreatTl2
set_option linter.all false
open Go.IntKind renaming i64->AI
namespace Go.Proofs.YtledffmjoegdeaaGreat
open Go Go.Abs Go.Proofs
set_option maxRecDepth 100000
set_option maxHeartbeats 0
attribute [local irreducible] bh IntKind.wrap room Op.bytesLess Tt gE Kerb.uJ Kerb.uL Kerb.NH Kerb.gU Kerb.fQ Kerb.kN Kerb.oq Kerb.knN Kerb.iD Kerb.jt Kerb.kM Kerb.kZ Kerb.XY Kerb.Dv Kerb.Cq Kerb.As Kerb.zg Kerb.learn Kerb.leak Kerb.toK Kerb.toB Kerb.kn Kerb.jk Kerb.Bz Kerb.Cz Kerb.cK Kerb.dz Kerb.jH Kerb.xA MY TV XB aaZ acH aeI aeF
instance t5:Cx sp5 [TE,(.sl 6 9223372036854775807 adq),aqM,br,.u8] (λ| _,C=>C (.bool true)):=by
 have i8:eP 8 (λs C=>∀ (v0:Bool) (v1:Int),0<=v1->v1<=1000000 ->  C (stL (stL s 2 (.bool v0)) 17 (.int AI v1))) (mI 17 1000001):=⟨⟩;exact S1
end Go.Proofs.YtledffmjoegdeaaGreat
