/- Results of functions. -/
import Derived.Test.YtpelamlfpffacaaGreatTot0
set_option linter.all false
open Go.IntKind renaming i64->AI
namespace Go.Proofs.YtpelamlfpffacaaGreat
open Go Go.Abs Go.Proofs
set_option maxRecDepth 100000
set_option maxHeartbeats 0
attribute [local irreducible] bh IntKind.wrap room Op.bytesLess Tt gE Kerb.uJ Kerb.uL Kerb.NH Kerb.gU Kerb.fQ Kerb.kN Kerb.oq Kerb.xd Kerb.iD Kerb.jt Kerb.kM Kerb.kZ Kerb.XY Kerb.Dv Kerb.Cq Kerb.As Kerb.zg Kerb.learn Kerb.leak Kerb.bM Kerb.bD Kerb.kn Kerb.jk Kerb.Bz Kerb.Cz Kerb.cK Kerb.dz Kerb.jH Kerb.xA l_ ik lJ gT
instance t11:Cx sp11 [(.sl 51 400 AQ),br] (λ| [.sl _ l,.int _ i],C=>∀ r:Int,r=Kerb.xD l i->C (.int AI r) | _,_=>False):=by
 refine Cx.of ?_
 (repeat (first | intro _ | ((with_reducible refine bP ?_);(conv=>whnf))))
 rename_i l h1 h2 i Q hQ;delta sp11;refine dD eK rfl rfl ?_;intro _ gR;have i5:eP 5 (λs C=>∀ (v0:Int) (v1:Int),0<=v1->v1<=400->v1<=i->Kerb.uJ (λx=>Kerb.Cq x (l.getD i.toNat .undef)) l i.toNat v1.toNat=Kerb.uJ (λx=>Kerb.Cq x (l.getD i.toNat .undef)) l i.toNat 0 ->  C (stL (stL s 2 (.int AI v0)) 15 (.int AI v1))) (mI 15 1000001):=⟨⟩;exact uC
instance t12:Cx sp12 [(.sl 1 1000000 br),(.sl 1 1000000 br)] (λ| [.sl _ a,.sl _ b],C=>(a=b)/\C (.bool true) | _,_=>False):=by
 have i4:eP 4 (λs C=>∀ (v0:Bool) (v1:Int),0<=v1->v1<=1000000 ->  C (stL (stL s 2 (.bool v0)) 3 (.int AI v1))) (mI 3 1000001):=⟨⟩;exact VP
instance t10:Cx sp10 [(.sl 51 400 AQ),br] (λ| [.sl _ l,.int _ i],C=>∀ r:Int,r=Kerb.xD l i->C (.int AI r) | _,_=>False):=by
 refine Cx.of ?_
 (repeat (first | intro _ | ((with_reducible refine bP ?_);(conv=>whnf))))
 rename_i l h1 h2 i Q hQ;delta sp10;refine dD eK rfl rfl ?_;intro _ gR;have SJ:eP 5000003 (λs C=>∀ (v0 v1:Int),-1<=v1->v1<i->v0=Kerb.uJ (λx=>Kerb.Cq x (l.getD i.toNat .undef)) l i.toNat (v1+1).toNat->C (stL (stL s 0 (.int AI v0)) 1 (.int AI v1))) (mD 1 (-2)):=⟨⟩;exact uC
end Go.Proofs.YtpelamlfpffacaaGreat
