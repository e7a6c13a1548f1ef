/- The result of the law. -/
import Derived.Test.YtpelamlfpffacaaGreatTot0
import Derived.Test.YtpelamlfpffacaaGreatTt1
import Derived.Test.YtpelamlfpffacaaGreatTl3
set_option linter.all false
namespace Go.Proofs.YtpelamlfpffacaaGreat
open Go Go.Abs Go.Proofs
set_option maxRecDepth 100000
set_option maxHeartbeats 100000000
attribute [local irreducible] bH IntKind.wrap room Op.bytesLess Tt fe
attribute [local irreducible] Kerb.yE Kerb.dnF Kerb.evF Kerb.JN Kerb.Pv Kerb.UY Kerb.R3 Kerb.knN Kerb.O_ Kerb.QE Kerb.L_ Kerb.Pj Kerb.adI Kerb.QZ Kerb.Un Kerb.abR Kerb.abQ Kerb.learn Kerb.leak Kerb.dl Kerb.dG Kerb.kn Kerb.lS Kerb.aeB Kerb.LI Kerb.eo Kerb.fb Kerb.wy Kerb.o8 Kerb.rB Kerb.jO Kerb.uq
attribute [local irreducible] jh fI ji fH OD
instance t4:Cx sp4 [Rg,(.sl 6 9223372036854775807 Gc),acv,eR,bN,.u8] (fun | _,C=>C (.bool true)):=by
 have i12:fX 12 (fun s C=>∀ (v0:Bool) (v2:Int),0<=v2->v2<=1000000 ->  C (stL (stL s 2 (.bool v0)) 6 (.int .i64 v2))) (mI 6 1000001):=⟨⟩;have i9:fX 9 (fun s C=>∀ (v0:Bool) (v1:List AV) (v2:Int),v1.length<=1000000->Al eR v1->0<=v2->v2<=1000000->C (stL (stL (stL s 2 (.bool v0)) 4 (.aD v1)) 5 (.int .i64 v2))) (mI 5 1000001):=⟨⟩;exact csS
end Go.Proofs.YtpelamlfpffacaaGreat
