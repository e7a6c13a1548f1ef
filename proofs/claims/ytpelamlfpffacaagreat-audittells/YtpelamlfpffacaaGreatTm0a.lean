/- Results of functions. -/
import Derived.Test.YtpelamlfpffacaaGreatTl0
set_option linter.all false
open Go.IntKind renaming i64->AI
namespace Go.Proofs.YtpelamlfpffacaaGreat
open Go Go.Abs Go.Proofs
set_option maxRecDepth 100000
set_option maxHeartbeats 0
attribute [local irreducible] bh IntKind.wrap room Op.bytesLess Tt gE l_ ik lJ gT
instance t85:Cx lJ [EL,ig] (λ| [.agg [.sl _ ks,.sl _ bs],_],C=>(Kerb.cK ks bs=true/\Kerb.dz (Kerb.kn ks bs)<=900000)/\∀ (w6 w7:List AV),w6.length<=1000000->Al ig w6->w7.length<=1000000->Al l9 w7->Kerb.cK w6 w7=true->Kerb.dz (Kerb.kn w6 w7)<=Kerb.dz (Kerb.kn ks bs)+1->C (.agg [.sl 1 w6,.sl 1 w7]) | _,_=>False):=by
 refine Cx.of ?_;intro ks _ k1 bs _ k2 k hk bn Q hQ;obtain⟨⟨h1,h2⟩,hQ⟩:=hQ;obtain⟨s,rfl,rfl,hf,hd⟩:=Kerb.Gi ⟨h1,Nat.le_refl _⟩ k1 k2;rw[Kerb.gS] at h2 hQ;have g:=Kerb.Gj (Kerb.Fit.leak ⟨hf.xH,Nat.le_refl _⟩ (k:=k) h2) (by omega) (Kerb.Gw hd);delta lJ;refine K8 ?_ (hQ _ _ g.2.1.1 g.2.1.2 g.2.2.1 g.2.2.2 g.1.1 g.1.2);show ax (Kerb.cK (Kerb.bM s.keys) (Kerb.bD s.boxes)&&decide (0<=k)&&decide (k<18446744073709551616)&&decide (Kerb.dz (Kerb.kn (Kerb.bM s.keys) (Kerb.bD s.boxes))+1<=1000000)) (some _)=_;rw[h1,Kerb.gS,Qa4 hk,Qa4 (show k<18446744073709551616 by omega),Qa4 (show Kerb.dz s+1<=1000000 by omega)];rfl
instance t116:Cx gT [EL,.y 2000] (λ| [.agg [.sl _ ks,.sl _ bs],_],C=>(Kerb.cK ks bs=true/\Kerb.dz (Kerb.kn ks bs)<=900000)/\∀ (w6 w7:List AV),w6.length<=1000000->Al ig w6->w7.length<=1000000->Al l9 w7->Kerb.cK w6 w7=true->Kerb.dz (Kerb.kn w6 w7)<=Kerb.dz (Kerb.kn ks bs)+6026->C (.agg [.sl 1 w6,.sl 1 w7]) | _,_=>False):=by
 refine Cx.of ?_;intro ks _ k1 bs _ k2 b hb Q hQ;obtain⟨⟨h1,h2⟩,hQ⟩:=hQ;obtain⟨s,rfl,rfl,hf,hd⟩:=Kerb.Gi ⟨h1,Nat.le_refl _⟩ k1 k2;rw[Kerb.gS] at h2 hQ;have g:=Kerb.Gj (Kerb.Ai ⟨hf.xH,Nat.le_refl _⟩ hb h2) (by omega) (Kerb.Ck hd hb);delta gT;refine K8 ?_ (hQ _ _ g.2.1.1 g.2.1.2 g.2.2.1 g.2.2.2 g.1.1 g.1.2);show ax (Kerb.cK (Kerb.bM s.keys) (Kerb.bD s.boxes)&&decide (Kerb.dz (Kerb.kn (Kerb.bM s.keys) (Kerb.bD s.boxes))+2*b.length+2100<=1000000)) (some _)=_;rw[h1,Kerb.gS,Qa4 (by omega)];rfl
instance t105:Cs sp105 [jY,br] (.b):=by
 have i2:eP 2 (λs C=>∀ (v0:Bool) (v1:Int),0<=v1->v1<=1000000 ->  C (stL (stL s 13 (.bool v0)) 14 (.int AI v1))) (mI 14 1000001):=⟨⟩;exact gn
instance t213:Cs sp213 [(.sl 7 5 DI),DI] ((.sl 7 5 DI)):=gn
instance t353:Cs sp353 [br] (dF):=gn
instance t79:Cs sp79 [(.sl 13 100 nB),(.sl 2 100 qL)] (br):=by
 have i3:eP 3 (λs C=>QY s 3 λL3=>∀ (v0:Int) (v1:List AV) (v2:Int),(v1.length:Int)<=L3+v2->Al br v1->0<=v2->v2<=100 ->  C (stL (stL (stL s 2 (.int AI v0)) 3 (.ay v1)) 4 (.int AI v2))) (mI 4 1000001):=⟨⟩;have i9:eP 9 (λs C=>QY s 2 λL2=>∀ (v0:Int) (v1:List AV) (v2:Int),(v1.length:Int)<=L2+v2->Al br v1->0<=v2->v2<=100 ->  C (stL (stL (stL s 1 (.int AI v0)) 2 (.ay v1)) 3 (.int AI v2))) (mI 3 1000001):=⟨⟩;have i12:eP 12 (λs C=>∀ (v0:Int) (v2:Int),0<=v2->v2<=1000000 ->  C (stL (stL s 1 (.int AI v0)) 4 (.int AI v2))) (mI 4 1000001):=⟨⟩;have i18:eP 18 (λs C=>∀ (v0:Int) (v2:Int),0<=v2->v2<=1000000 ->  C (stL (stL s 0 (.int AI v0)) 2 (.int AI v2))) (mI 2 1000001):=⟨⟩;have i21:eP 21 (λs C=>∀ (v0:Int) (v2:Int),0<=v2->v2<=1000000 ->  C (stL (stL s 0 (.int AI v0)) 3 (.int AI v2))) (mI 3 1000001):=⟨⟩;exact gn
instance t150:Cs sp150 [nB] (qM):=gn
instance t288:Cx sp288 [kQ,br,br] (λ| .agg [_,.sl _ l] :: .int _ i::_,C=>(0<=i/\i<l.length)/\∀ (rl:List UInt8) (l2:List AV),rl.length<=1000->l2.length=l.length->Al sY l2->C (.agg [.str rl,.sl 9 l2]) | _,_=>False):=IX
instance t78:Cs sp78 [(.sl 4 100 mH)] (br):=by
 have i4:eP 4 (λs C=>∀ (v0:Int) (v1:Int),0<=v1->v1<=1000000 ->  C (stL (stL s 1 (.int AI v0)) 2 (.int AI v1))) (mI 2 1000001):=⟨⟩;exact gn
instance t77:Cs sp77 [(.sl 13 100 nB)] (br):=by
 have i2:eP 2 (λs C=>∀ (v0:Int) (v1:Int),0<=v1->v1<=1000000 ->  C (stL (stL s 1 (.int AI v0)) 2 (.int AI v1))) (mI 2 1000001):=⟨⟩;exact gn
instance t284:Cs sp284 [af7,TG,ig] (.tu [(.y 2000),.b]):=gn
instance t352:Cs sp352 [Oi,DJ,br,br] (.tu [Oi,br]):=by
 have i13:eP 13 (λs C=>∀ (v0:List AV) (v1:Int),(v0.length:Int)<=v1->Al DJ v0->0<=v1->v1<=100->C (stL (stL s 13 (.ay v0)) 14 (.int AI v1))) (mI 14 101):=⟨⟩;exact gn
instance t81:Cs sp81 [(.sl 2 100 qL),(.sl 10 100 rC)] (br):=by
 have i2:eP 2 (λs C=>∀ (v0:Int) (v1:Int),0<=v1->v1<=1000000 ->  C (stL (stL s 2 (.int AI v0)) 3 (.int AI v1))) (mI 3 1000001):=⟨⟩;have i13:eP 13 (λs C=>∀ (v0:Int) (v1:Int),0<=v1->v1<=1000000 ->  C (stL (stL s 2 (.int AI v0)) 14 (.int AI v1))) (mI 14 1000001):=⟨⟩;exact gn
instance t212:Cs sp212 [qM,ig,l9] (.tu [DI,br]):=gn
instance t289:Cx sp289 [kQ,br,br,br,l9] (λ| .agg [_,.sl _ l] :: .int _ i::_,C=>(0<=i/\i<l.length)/\Sh.all (.tu [kQ,(.y 2000),EM,.b]) C | _,_=>False):=IX
instance t210:Cs sp210 [ll,l9] (.tu [ll,br]):=gn
instance t290:Cx sp290 [kQ,br,br,br,br,ig,qM,l9] (λ| .agg [_,.sl _ l] :: .int _ i::_,C=>(0<=i/\i<l.length)/\Sh.all (.tu [kQ,(.y 2000),EM,.b]) C | _,_=>False):=IX
end Go.Proofs.YtpelamlfpffacaaGreat
