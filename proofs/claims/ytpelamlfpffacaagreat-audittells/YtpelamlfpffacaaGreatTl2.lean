/- Results of functions. -/
import Derived.Test.YtpelamlfpffacaaGreatTl1
import Derived.Test.YtpelamlfpffacaaGreatTm1a
import Derived.Test.YtpelamlfpffacaaGreatThb1
import Derived.Test.YtpelamlfpffacaaGreatTh52
set_option linter.all false
namespace Go.Proofs.YtpelamlfpffacaaGreat
open Go Go.Abs Go.Proofs
set_option maxRecDepth 100000
set_option maxHeartbeats 0
attribute [local irreducible] bh IntKind.wrap room Op.bytesLess Tt gE l_ ik lJ gT
def cB(x:AV)(j:Nat):List UInt8:=match x.cells.getD j .undef with
 | .bs s=>s
 | _=>[]
def Hg(x:AV):Int:=(Kerb.bm (cB x 2)).kind
def WI(ms:List AV)(sa:Int):Int:=Hg (ms.getD sa.toNat .undef)
theorem Mg{e:Sh}{ms:List AV}(_:Al e ms)(sa:Int):WI ms sa=10\/¬ WI ms sa=10:=Classical.em _
theorem FI{e:Sh}{ms:List AV}{sa:Int}{P:Int->Prop}{G:Prop}(h:Al e ms)(hk:P (WI ms sa))(k:e.all λx=>ms.getD sa.toNat .undef=x->P (Hg x)->G)(k0:sa<0->G)(k1:(ms.length:Int)<=sa->G):G:=if h0:sa<0 then k0 h0 else if h1:(ms.length:Int)<=sa then k1 h1 else Cg h (show sa.toNat<ms.length by omega) (λx=>ms.getD sa.toNat .undef=x->P (Hg x)->G) k rfl hk
instance t22:Cx sp22 [TE] (λ| [_],C=>WF (λw6 w7 w8 mh G=>Kerb.cK w6 w7=true->Kerb.dz (Kerb.kn w6 w7)=0->w8.length<=300000->mh.length=0->G) λW=>C W | _,_=>False):=gn
instance t24:Cs sp24 [HM,jY] (oh):=gn
theorem acK:Cx sp23 [jY,oh] (λ| .agg [_,_,_,_,_,_,.sl _ ks,.sl _ bs,.sl _ us,_,.sl _ es,_] :: .agg (.int _ kd::_)::_,C=>(kd=1/\Kerb.cK ks bs=true/\Kerb.dz (Kerb.kn ks bs)<=900000/\us.length<=900000)/\WF (λw6 w7 w8 mh G=>Kerb.cK w6 w7=true->Kerb.dz (Kerb.kn w6 w7)<=Kerb.dz (Kerb.kn ks bs)+6026->w8.length<=us.length+2->Kerb.jk mh<=Kerb.jk es+1->G) λW=>∀ b:Bool,C (.bp [W,.bool b]) | _,_=>False):=O9
theorem acP:Cx sp23 [jY,oh] (λ| .agg [_,_,_,_,_,_,.sl _ ks,.sl _ bs,.sl _ us,_,.sl _ es,_] :: .agg (.int _ kd::_)::_,C=>(kd=7/\Kerb.cK ks bs=true/\Kerb.dz (Kerb.kn ks bs)<=900000/\us.length<=900000)/\WF (λw6 w7 w8 mh G=>Kerb.cK w6 w7=true->Kerb.dz (Kerb.kn w6 w7)<=Kerb.dz (Kerb.kn ks bs)+6026->w8.length<=us.length+2->Kerb.jk mh<=Kerb.jk es+1->G) λW=>∀ b:Bool,C (.bp [W,.bool b]) | _,_=>False):=O9
theorem XJ:Cx sp23 [jY,oh] (λ| .agg [_,_,_,_,_,_,.sl _ ks,.sl _ bs,.sl _ us,_,.sl _ es,_] :: .agg (.int _ kd::_)::_,C=>(kd=11/\Kerb.cK ks bs=true/\Kerb.dz (Kerb.kn ks bs)<=900000/\us.length<=900000)/\WF (λw6 w7 w8 mh G=>Kerb.cK w6 w7=true->Kerb.dz (Kerb.kn w6 w7)<=Kerb.dz (Kerb.kn ks bs)+6026->w8.length<=us.length+2->Kerb.jk mh<=Kerb.jk es+1->G) λW=>∀ b:Bool,C (.bp [W,.bool b]) | _,_=>False):=O9
theorem acJ:Cx sp23 [jY,oh] (λ| .agg [_,_,_,_,_,_,.sl _ ks,.sl _ bs,.sl _ us,_,.sl _ es,_] :: .agg (.int _ kd::_)::_,C=>(kd<=0/\Kerb.cK ks bs=true/\Kerb.dz (Kerb.kn ks bs)<=900000/\us.length<=900000)/\WF (λw6 w7 w8 mh G=>Kerb.cK w6 w7=true->Kerb.dz (Kerb.kn w6 w7)<=Kerb.dz (Kerb.kn ks bs)+6026->w8.length<=us.length+2->Kerb.jk mh<=Kerb.jk es+1->G) λW=>∀ b:Bool,C (.bp [W,.bool b]) | _,_=>False):=O9
theorem XK:Cx sp23 [jY,oh] (λ| .agg [_,_,_,_,_,_,.sl _ ks,.sl _ bs,.sl _ us,_,.sl _ es,_] :: .agg (.int _ kd::_)::_,C=>(12<=kd/\Kerb.cK ks bs=true/\Kerb.dz (Kerb.kn ks bs)<=900000/\us.length<=900000)/\WF (λw6 w7 w8 mh G=>Kerb.cK w6 w7=true->Kerb.dz (Kerb.kn w6 w7)<=Kerb.dz (Kerb.kn ks bs)+6026->w8.length<=us.length+2->Kerb.jk mh<=Kerb.jk es+1->G) λW=>∀ b:Bool,C (.bp [W,.bool b]) | _,_=>False):=O9
end Go.Proofs.YtpelamlfpffacaaGreat
