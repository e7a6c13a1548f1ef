/- Results of functions. -/
import Derived.Test.YtledffmjoegdeaaGreatTl0
import Derived.Test.YtledffmjoegdeaaGreatTm0a
import Derived.Test.YtledffmjoegdeaaGreatTm0b
import Derived.Test.YtledffmjoegdeaaGreatTm0c
import Derived.Test.YtledffmjoegdeaaGreatTh273
import Derived.Test.YtledffmjoegdeaaGreatTh249
import Derived.Test.YtledffmjoegdeaaGreatTh253
import Derived.Test.YtledffmjoegdeaaGreatTh33
set_option linter.all false
open Go.IntKind renaming i64->AI
namespace Go.Proofs.YtledffmjoegdeaaGreat
open Go Go.Abs Go.Proofs
set_option maxRecDepth 100000
set_option maxHeartbeats 0
attribute [local irreducible] bh IntKind.wrap room Op.bytesLess Tt gE MY TV XB aaZ
def cB(x:AV)(j:Nat):List UInt8:=match x.cells.getD j .undef with
 | .bs s=>s
 | _=>[]
def Hg(x:AV):Int:=(Kerb.bm (cB x 2)).kind
def WI(ms:List AV)(sa:Int):Int:=Hg (ms.getD sa.toNat .undef)
theorem Mg{e:Sh}{ms:List AV}(_:Al e ms)(sa:Int):WI ms sa=10\/¬ WI ms sa=10:=Classical.em _
theorem FI{e:Sh}{ms:List AV}{sa:Int}{P:Int->Prop}{G:Prop}(h:Al e ms)(hk:P (WI ms sa))(k:e.all λx=>ms.getD sa.toNat .undef=x->P (Hg x)->G)(k0:sa<0->G)(k1:(ms.length:Int)<=sa->G):G:=if h0:sa<0 then k0 h0 else if h1:(ms.length:Int)<=sa then k1 h1 else Cg h (show sa.toNat<ms.length by omega) (λx=>ms.getD sa.toNat .undef=x->P (Hg x)->G) k rfl hk
instance t184:Cs sp184 [TH,.b,ig] (.tu [(.y 2000),br]):=gn
instance t217:Cs sp217 [l9,.b] (.tu [TH,br]):=gn
instance t87:Cx sp87 [ec,adq,aa1,abp,.b] (λ| .agg (_::_ :: .sl _ h::_)::_,C=>0<h.length/\l9.all C | _,_=>False):=IX
instance t130:Cs sp130 [l9,.b,ig] (.tu [TH,br]):=gn
instance t263:Cx sp263 [aad,zK,.b,br,br,br] (λ| _,C=>∀ (b1 b2:Bool) (n:Int) (s t a:List UInt8) (e:Int),s.length<=1000->t.length<=1000000->a.length<=2000->C (.bp [.agg [.bool b1,.bool b2,.int AI n,.str s,.bs t,.bs a],.int AI e])):=gn
instance t159:Cs sp159 [aad,aa9,br,br,br] (.tu [aad,(.y 2000),zK,(.y 2000),br]):=gn
instance t161:Cs sp161 [aad,aa9,.b,br,br,br] (.tu [aad,(.y 2000),zK,(.y 2000),br]):=gn
instance t327:Cs sp327 [abp,aju,br,br] (.tu [abp,Xi,br]):=gn
instance t17:Cx sp17 [TE] (λ| [_],C=>WF (λw5 w6 w7 w8 mh G=>Kerb.cK w6 w7=true->Kerb.dz (Kerb.kn w6 w7)=0->w8.length<=300000->mh.length=0->Kerb.KnI mh w5 w6 w7->G) λW=>C W | _,_=>False):=gn
instance t247:Cs sp247 [ep,(.sl 4 100 aa0),abp,br,br,.b,ig,l9] (.tu [abp,(.y 2000),EM,.b]):=gn
instance t257:Cs sp257 [abp,l9,br,br] (.tu [abp,Xi,(.y 2000),br]):=gn
end Go.Proofs.YtledffmjoegdeaaGreat
