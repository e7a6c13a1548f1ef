/- Results of functions. -/
import Derived.Test.YtledffmjoegdeaaGreatTl1
set_option linter.all false
namespace Go.Proofs.YtledffmjoegdeaaGreat
open Go Go.Abs Go.Proofs
set_option maxRecDepth 100000
set_option maxHeartbeats 0
attribute [local irreducible] bh IntKind.wrap room Op.bytesLess Tt gE MY TV XB aaZ
theorem ahT:Cx sp18 [ec,aa3] (λ| .agg [.sl _ rs,_,_,.sl _ pp,_,.sl _ ms,.sl _ ks,.sl _ bs,.sl _ us,_,.sl _ es,_] :: .agg (.int _ kd :: .int _ sa :: .int _ sb::_)::_,C=>(kd=5/\rs.length=2/\¬ K' rs ms sa 0/\¬ K' rs ms sa 1/\sb<pp.length/\¬ WI ms sa=10/\Kerb.cK ks bs=true/\Kerb.dz (Kerb.kn ks bs)<=900000/\us.length<=900000/\Kerb.KnI es ms ks bs)/\WF (λw5 w6 w7 w8 mh G=>Kerb.cK w6 w7=true->Kerb.dz (Kerb.kn w6 w7)<=Kerb.dz (Kerb.kn ks bs)+6026->w8.length<=us.length+2->Kerb.jk mh<=Kerb.jk es+1->Kerb.KnI mh w5 w6 w7->G) λW=>∀ b:Bool,C (.bp [W,.bool b]) | _,_=>False):=by
 refine Cx.of ?_
 (repeat (first | intro _ | ((with_reducible refine bP ?_);(conv=>whnf))))
 rename_i Q hQ;obtain⟨hp,hQ⟩:=hQ;try have R6:=Kerb.ph (by assumption) hp.1
 first | (have ra:=Kerb.ea hp.2.2.2) | (have ra:=Kerb.ea hp.2.2.2.2) | (have ra:=Kerb.ea hp.2.2.2.2.2) | (have ra:=Kerb.ea hp.2.2.2.2.2.2) | (have ra:=Kerb.ea hp.2.2.2.2.2.2.2) | (have ra:=Kerb.ea hp.2.2.2.2.2.2.2.2) | (have ra:=Kerb.ea hp.2.2.2.2.2.2.2.2.2)
 have V5:=hp.2.2.1;have KB:=hp.2.2.2.1;refine FI (P:=λz=>¬ z=10) (by assumption:Al abk _) hp.2.2.2.2.2.1 ?_ (λhs=> ?_) (λhs=> ?_);rotate_left
 iterate 2 (focus ((delta sp18);(refine dD eK rfl rfl ?_);(intro _ gR);exact qu))
 (repeat (first | intro _ | ((with_reducible refine bP ?_);(conv=>whnf))))
 rename_i hm hK;simp only[Hg,cB,AV.cells,List.getD_cons_succ,List.getD_cons_zero] at hK;delta sp18;refine dD eK rfl rfl ?_;intro _ gR;exact qu
end Go.Proofs.YtledffmjoegdeaaGreat
