/- Results of functions, by their own runs. -/
import Derived.Test.YtpelamlfpffacaaGreatTl0
set_option linter.all false
namespace Go.Proofs.YtpelamlfpffacaaGreat
open Go Go.Abs Go.Proofs
set_option maxRecDepth 100000
set_option maxHeartbeats 100000000
attribute [local irreducible] bH IntKind.wrap room Op.bytesLess Tt fe
attribute [local irreducible] jh fI ji fH
instance t48:Cx jh [.sl 1 1000000 eR,eR] (fun | [.sl _ ks,.int _ k],C=>∀ r:List AV,r.length<=ks.length+1->Al eR r->(Kerb.uq (Kerb.cO ks)=true->Kerb.uq (Kerb.cO r)=true)->r=Kerb.dl (Kerb.jO (Kerb.cO ks) k)->C (.sl 1 r) | _,_=>False):=by
 refine Cx.of ?_;intro ks hl hk k h0 h1 Q hQ;obtain⟨g1,g2,g3⟩:=Kerb.Uk hk h0 h1 hl;delta jh;refine Sg ?_ (hQ _ g2 g3 (fun ha=>by rw[Kerb.f_];exact Kerb.uF ha) rfl);show aA (Kerb.da ks&&decide (ks.length<=1000000000)) (some _)=_;rw[g1];rfl
instance t130:Cx fI [Ye,.y 2000] (fun | [.agg [.sl _ ks,.sl _ bs],_],C=>Kerb.eo ks bs=true/\∀ b:Bool,C (.bool b) | _,_=>False):=by
 refine Cx.of ?_;intro ks _ k1 bs _ k2 b hb Q hQ;obtain⟨h1,hQ⟩:=hQ;delta fI;refine Sg (r:=(.bool (Kerb.AC (Kerb.kn ks bs) b),[])) ?_ (hQ _);show aA (Kerb.eo ks bs&&decide (b.length<=70368744160000)) (some _)=_;rw[h1,Qa4 (show b.length<=70368744160000 by omega)];rfl
instance t57:Cx sp57 [Gc,kJ] (fun | [_,.agg (_::_ :: .sl _ h::_)],C=>0<h.length/\∀ n:Int,C (.int .i64 n) | _,_=>False):=GV
instance t107:Cs sp107 [lg,qN] (.b):=by
 have i2:fX 2 (fun s C=>∀ (v0:Bool) (v1:Int),0<=v1->v1<=1000000 ->  C (stL (stL s 22 (.bool v0)) 23 (.int .i64 v1))) (mI 23 1000001):=⟨⟩;exact gF
instance t275:Cs sp275 [bN,bN] (.b):=gF
instance t220:Cs sp220 [qN,qN] (qN):=gF
instance t95:Cs sp95 [kJ,.u8,bN] (jH):=by
 have i3:fX 3 (fun s C=>OV s 14 fun L14=>∀ (v0:List AV) (v1:Int),(v0.length:Int)<=L14+v1->Al jH v0->0<=v1->v1<=1000000 ->  C (stL (stL s 14 (.aD v0)) 15 (.int .i64 v1))) (mI 15 1000001):=⟨⟩;exact gF
instance t145:Cs sp145 [(.sl 1 1000000 eR),bN,bN] (.tu [eR,.b]):=gF
instance t102:Cx sp102 [kJ,Gc,fN,wD] (fun | .agg (_::_ :: .sl _ h::_)::_,C=>0<h.length/\jH.all C | _,_=>False):=GV
instance t147:Cs sp147 [kE,qN,qN,bN,bN,bN,eR] (.tu [(.y 2000),DA,bN]):=gF
instance t151:Cs sp151 [CD] (.tu [(.y 2000),bN]):=gF
instance t301:Cs sp301 [TY,.b] (.tu [(.y 2000),bN]):=gF
instance t80:Cs sp80 [(.sl 2 100 gm),(.sl 31 100 fN)] (bN):=by
 have i2:fX 2 (fun s C=>∀ (v0:Int) (v1:Int),0<=v1->v1<=1000000 ->  C (stL (stL s 2 (.int .i64 v0)) 3 (.int .i64 v1))) (mI 3 1000001):=⟨⟩;exact gF
instance t143:Cs sp143 [lg,eR,bN,bN] (.tu [Ir,(.y 2000),bN]):=gF
instance t144:Cs sp144 [lg,qN,bN,bN] (.tu [Ir,(.y 2000),bN]):=gF
instance t146:Cs sp146 [lg,eR,eR,bN] (.tu [Ir,(.y 2000),bN]):=gF
instance t214:Cs sp214 [lg,CD,jH] (.tu [lg,yq,bN]):=gF
end Go.Proofs.YtpelamlfpffacaaGreat
