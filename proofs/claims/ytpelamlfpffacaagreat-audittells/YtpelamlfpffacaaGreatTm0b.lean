/- Results of functions. -/
import Derived.Test.YtpelamlfpffacaaGreatTl0
set_option linter.all false
open Go.IntKind renaming i64->AI
namespace Go.Proofs.YtpelamlfpffacaaGreat
open Go Go.Abs Go.Proofs
set_option maxRecDepth 100000
set_option maxHeartbeats 0
attribute [local irreducible] bh IntKind.wrap room Op.bytesLess Tt gE l_ ik lJ gT
instance t48:Cx l_ [.sl 1 1000000 ig,ig] (λ| [.sl _ ks,_],C=>∀ l:List AV,l.length<=ks.length+1->Al ig l->C (.sl 1 l) | _,_=>False):=by
 refine Cx.of ?_;intro ks hl hk k h0 h1 Q hQ;obtain⟨g1,g2,g3⟩:=Kerb.adG hk h0 h1 hl;delta l_;refine K8 ?_ (hQ _ g2 g3);show ax (Kerb.cM ks&&decide (ks.length<=1000000000)) (some _)=_;rw[g1];rfl
instance t130:Cx ik [EL,.y 2000] (λ| [.agg [.sl _ ks,.sl _ bs],_],C=>Kerb.cK ks bs=true/\∀ b:Bool,C (.bool b) | _,_=>False):=by
 refine Cx.of ?_;intro ks _ k1 bs _ k2 b hb Q hQ;obtain⟨h1,hQ⟩:=hQ;delta ik;refine K8 (r:=(.bool (Kerb.BM (Kerb.kn ks bs) b),[])) ?_ (hQ _);show ax (Kerb.cK ks bs&&decide (b.length<=70368744160000)) (some _)=_;rw[h1,Qa4 (show b.length<=70368744160000 by omega)];rfl
instance t57:Cx sp57 [HM,jY] (λ| [_,.agg (_::_ :: .sl _ h::_)],C=>0<h.length/\∀ n:Int,C (.int AI n) | _,_=>False):=IX
instance t107:Cs sp107 [ll,qM] (.b):=by
 have i2:eP 2 (λs C=>∀ (v0:Bool) (v1:Int),0<=v1->v1<=1000000 ->  C (stL (stL s 22 (.bool v0)) 23 (.int AI v1))) (mI 23 1000001):=⟨⟩;exact gn
instance t275:Cs sp275 [br,br] (.b):=gn
instance t220:Cs sp220 [qM,qM] (qM):=gn
instance t95:Cs sp95 [jY,.u8,br] (l9):=by
 have i3:eP 3 (λs C=>QY s 14 λL14=>∀ (v0:List AV) (v1:Int),(v0.length:Int)<=L14+v1->Al l9 v0->0<=v1->v1<=1000000 ->  C (stL (stL s 14 (.ay v0)) 15 (.int AI v1))) (mI 15 1000001):=⟨⟩;exact gn
instance t145:Cs sp145 [(.sl 1 1000000 ig),br,br] (.tu [ig,.b]):=gn
instance t102:Cx sp102 [jY,HM,nC,xn] (λ| .agg (_::_ :: .sl _ h::_)::_,C=>0<h.length/\l9.all C | _,_=>False):=IX
instance t147:Cs sp147 [kQ,qM,qM,br,br,br,ig] (.tu [(.y 2000),EM,br]):=gn
instance t151:Cs sp151 [DI] (.tu [(.y 2000),br]):=gn
instance t301:Cs sp301 [Xi,.b] (.tu [(.y 2000),br]):=gn
instance t80:Cs sp80 [(.sl 2 100 qL),(.sl 31 100 nC)] (br):=by
 have i2:eP 2 (λs C=>∀ (v0:Int) (v1:Int),0<=v1->v1<=1000000 ->  C (stL (stL s 2 (.int AI v0)) 3 (.int AI v1))) (mI 3 1000001):=⟨⟩;exact gn
instance t143:Cs sp143 [ll,ig,br,br] (.tu [Ks,(.y 2000),br]):=gn
instance t144:Cs sp144 [ll,qM,br,br] (.tu [Ks,(.y 2000),br]):=gn
instance t146:Cs sp146 [ll,ig,ig,br] (.tu [Ks,(.y 2000),br]):=gn
instance t214:Cs sp214 [ll,DI,l9] (.tu [ll,zK,br]):=gn
end Go.Proofs.YtpelamlfpffacaaGreat
