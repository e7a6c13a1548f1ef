/- Results of functions. -/
import Derived.Test.YtledffmjoegdeaaGreatTl0
set_option linter.all false
open Go.IntKind renaming i64->AI
namespace Go.Proofs.YtledffmjoegdeaaGreat
open Go Go.Abs Go.Proofs
set_option maxRecDepth 100000
set_option maxHeartbeats 0
attribute [local irreducible] bh IntKind.wrap room Op.bytesLess Tt gE MY TV XB aaZ
instance t124:Cx TV [ac2,.y 2000] (λ| [.agg [.sl _ ks,.sl _ bs],_],C=>Kerb.cK ks bs=true/\∀ b:Bool,C (.bool b) | _,_=>False):=by
 refine Cx.of ?_;intro ks _ k1 bs _ k2 b hb Q hQ;obtain⟨h1,hQ⟩:=hQ;delta TV;refine K8 (r:=(.bool (Kerb.BM (Kerb.kn ks bs) b),[])) ?_ (hQ _);show ax (Kerb.cK ks bs&&decide (b.length<=70368744160000)) (some _)=_;rw[h1,Qa4 (show b.length<=70368744160000 by omega)];rfl
instance t60:Cx XB [ac2,ig] (λ| [.agg [.sl _ ks,.sl _ bs],.int _ k],C=>(Kerb.cK ks bs=true/\Kerb.dz (Kerb.kn ks bs)<=900000)/\∀ (w6 w7:List AV),w6.length<=1000000->Al ig w6->w7.length<=1000000->Al l9 w7->Kerb.cK w6 w7=true->Kerb.dz (Kerb.kn w6 w7)<=Kerb.dz (Kerb.kn ks bs)+1->w6=Kerb.toK (Kerb.leak (Kerb.kn ks bs) k).keys->w7=Kerb.toB (Kerb.leak (Kerb.kn ks bs) k).boxes->C (.agg [.sl 1 w6,.sl 1 w7]) | _,_=>False):=by
 refine Cx.of ?_;intro ks _ k1 bs _ k2 k hk bn Q hQ;obtain⟨⟨h1,h2⟩,hQ⟩:=hQ;obtain⟨s,rfl,rfl,hf,hd⟩:=Kerb.Gi ⟨h1,Nat.le_refl _⟩ k1 k2;rw[Kerb.gS] at h2 hQ;have g:=Kerb.Gj (Kerb.Fit.leak ⟨hf.xH,Nat.le_refl _⟩ (k:=k) h2) (by omega) (Kerb.Gw hd);delta XB;refine K8 ?_ (hQ _ _ g.2.1.1 g.2.1.2 g.2.2.1 g.2.2.2 g.1.1 (Nat.le_trans g.1.2 (by omega)) rfl rfl);show ax (Kerb.cK (Kerb.toK s.keys) (Kerb.toB s.boxes)&&decide (0<=k)&&decide (k<18446744073709551616)&&decide (Kerb.dz (Kerb.kn (Kerb.toK s.keys) (Kerb.toB s.boxes))+1<=1000000)) (some _)=_;rw[h1,Kerb.gS,Qa4 hk,Qa4 (show k<18446744073709551616 by omega),Qa4 (show Kerb.dz s+1<=1000000 by omega)];rfl
instance t255:Cs sp255 [(.sl 7 5 ack),ack] ((.sl 7 5 ack)):=gn
instance t164:Cs sp164 [(.sl 1 1000000 ig),br,br] (.tu [ig,.b]):=gn
instance t32:Cs sp32 [TE] (af6):=by
 have i5:eP 5 (λs C=>∀ (v0:List AV) (v1:List AV) (v2:List AV) (v3:List AV) (v4:List AV) (v5:Int),v0.length<=100->Al Oi v0->v1.length<=100->Al aa0 v1->v2.length<=100->Al aa7 v2->v3.length<=100->Al aa1 v3->v4.length<=100->Al aa_ v4->0<=v5->v5<=2->(v0.length:Int)<=v5/\v2.length=0/\v3.length=0/\v4.length=0 ->  C (stL (stL (stL (stL (stL (stL s 17 (.ay v0)) 18 (.sl 4 v1)) 19 (.ay v2)) 20 (.ay v3)) 21 (.ay v4)) 22 (.int AI v5))) (mI 22 1000001):=⟨⟩;have i10:eP 10 (λs C=>∀ (v0:List UInt8) (v1:List AV) (v2:Int),v0.length<=1000->v1.length<=100->Al abe v1->0<=v2->v2<=5->(v1.length:Int)=v2 ->  C (stL (stL (stL s 23 (.str v0)) 24 (.ay v1)) 26 (.int AI v2))) (mI 26 1000001):=⟨⟩;have i18:eP 18 (λs C=>∀ (v0:List AV) (v1:List AV) (v2:List AV) (v3:List AV) (v4:List AV) (v5:Int),v0.length<=100->Al Oi v0->v1.length<=100->Al aa0 v1->v2.length<=100->Al aa7 v2->v3.length<=100->Al aa1 v3->v4.length<=100->Al aa_ v4->0<=v5->v5<=3->v0.length<=2/\(v2.length:Int)=v5/\v3.length=0/\v4.length=0 ->  C (stL (stL (stL (stL (stL (stL s 17 (.ay v0)) 18 (.sl 4 v1)) 19 (.ay v2)) 20 (.ay v3)) 21 (.ay v4)) 22 (.int AI v5))) (mI 22 1000001):=⟨⟩;have i23:eP 23 (λs C=>∀ (v0:List AV) (v1:List AV) (v2:List AV) (v3:List AV) (v4:List AV) (v5:Int),v0.length<=100->Al Oi v0->v1.length<=100->Al aa0 v1->v2.length<=100->Al aa7 v2->v3.length<=100->Al aa1 v3->v4.length<=100->Al aa_ v4->0<=v5->v5<=4->v0.length<=2/\v2.length=3/\(v3.length:Int)=v5/\v4.length=0 ->  C (stL (stL (stL (stL (stL (stL s 17 (.ay v0)) 18 (.sl 4 v1)) 19 (.ay v2)) 20 (.ay v3)) 21 (.ay v4)) 23 (.int AI v5))) (mI 23 1000001):=⟨⟩;have i30:eP 30 (λs C=>∀ (v0:List AV) (v1:List AV) (v2:List AV) (v3:List AV) (v4:List AV) (v5:Int),v0.length<=100->Al Oi v0->v1.length<=100->Al aa0 v1->v2.length<=100->Al aa7 v2->v3.length<=100->Al aa1 v3->v4.length<=100->Al aa_ v4->0<=v5->v5<=4->v0.length<=2/\v2.length=3/\v3.length=4/\(v4.length:Int)=v5 ->  C (stL (stL (stL (stL (stL (stL s 7 (.ay v0)) 8 (.sl 4 v1)) 9 (.ay v2)) 10 (.ay v3)) 11 (.ay v4)) 12 (.int AI v5))) (mI 12 1000001):=⟨⟩;exact gn
instance t166:Cs sp166 [ep,aa9,aa9,br,br,br,ig] (.tu [(.y 2000),EM,br]):=gn
instance t254:Cs sp254 [aa9,ig,l9] (.tu [ack,br]):=gn
instance t163:Cs sp163 [aad,aa9,br,br] (.tu [FR,(.y 2000),br]):=gn
instance t165:Cs sp165 [aad,ig,ig,br] (.tu [FR,(.y 2000),br]):=gn
end Go.Proofs.YtledffmjoegdeaaGreat
