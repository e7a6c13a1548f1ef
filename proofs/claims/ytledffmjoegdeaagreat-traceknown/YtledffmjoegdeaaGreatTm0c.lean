/- Results of functions. -/
import Derived.Test.YtledffmjoegdeaaGreatTl0
set_option linter.all false
open Go.IntKind renaming i64->AI
namespace Go.Proofs.YtledffmjoegdeaaGreat
open Go Go.Abs Go.Proofs
set_option maxRecDepth 100000
set_option maxHeartbeats 0
attribute [local irreducible] bh IntKind.wrap room Op.bytesLess Tt gE MY TV XB aaZ
instance t59:Cx aaZ [ac2,.y 2000] (λ| [.agg [.sl _ ks,.sl _ bs],.bs b],C=>(Kerb.cK ks bs=true/\Kerb.dz (Kerb.kn ks bs)<=900000)/\∀ (w6 w7:List AV),w6.length<=1000000->Al ig w6->w7.length<=1000000->Al l9 w7->Kerb.cK w6 w7=true->Kerb.dz (Kerb.kn w6 w7)<=Kerb.dz (Kerb.kn ks bs)+6026->w6=Kerb.toK (Kerb.learn (Kerb.kn ks bs) b).keys->w7=Kerb.toB (Kerb.learn (Kerb.kn ks bs) b).boxes->C (.agg [.sl 1 w6,.sl 1 w7]) | _,_=>False):=by
 refine Cx.of ?_;intro ks _ k1 bs _ k2 b hb Q hQ;obtain⟨⟨h1,h2⟩,hQ⟩:=hQ;obtain⟨s,rfl,rfl,hf,hd⟩:=Kerb.Gi ⟨h1,Nat.le_refl _⟩ k1 k2;rw[Kerb.gS] at h2 hQ;have g:=Kerb.Gj (Kerb.Ai ⟨hf.xH,Nat.le_refl _⟩ hb h2) (by omega) (Kerb.Ck hd hb);delta aaZ;refine K8 ?_ (hQ _ _ g.2.1.1 g.2.1.2 g.2.2.1 g.2.2.2 g.1.1 g.1.2 rfl rfl);show ax (Kerb.cK (Kerb.toK s.keys) (Kerb.toB s.boxes)&&decide (Kerb.dz (Kerb.kn (Kerb.toK s.keys) (Kerb.toB s.boxes))+2*b.length+2100<=1000000)) (some _)=_;rw[h1,Kerb.gS,Qa4 (by omega)];rfl
instance t40:Cx sp40 [ec,br,br,.u8,br] (λ| .agg (_::_::_ :: .sl _ p :: .sl _ s::_) :: .int _ i :: .int _ j::_,C=>(0<=i/\i<p.length/\0<=j/\j<s.length)/\aa3.all C | _,_=>False):=by
 have i2:eP 2 (λs C=>UE s 22 λUL=>∀ (v0:Int) (v1:Int) (v2:Int) (v3:Int) (v4:Int) (v5:List UInt8) (v6:Int),v5.length<=3000000 -> -1<=v6->v6<=UL ->  C [s.getD 0 .undef,s.getD 1 .undef,s.getD 2 .undef,s.getD 3 .undef,s.getD 4 .undef,s.getD 5 .undef,s.getD 6 .undef,s.getD 7 .undef,s.getD 8 .undef,s.getD 9 .undef,s.getD 10 .undef,s.getD 11 .undef,s.getD 12 .undef,s.getD 13 .undef,s.getD 14 .undef,s.getD 15 .undef,.int AI v0,.int AI v1,.int AI v2,.int AI v3,.int AI v4,.bs v5,.int AI v6]) (mD 22 (-2)):=⟨⟩;have i13:eP 13 (λs C=>∀ (v0:Int) (v1:Int) (v2:Int) (v3:Int) (v4:Int) (v5:List UInt8) (v6:Int),v5.length<=3000000->0<=v6->v6<=1000000 ->  C [s.getD 0 .undef,s.getD 1 .undef,s.getD 2 .undef,s.getD 3 .undef,s.getD 4 .undef,s.getD 5 .undef,s.getD 6 .undef,s.getD 7 .undef,s.getD 8 .undef,s.getD 9 .undef,s.getD 10 .undef,s.getD 11 .undef,s.getD 12 .undef,s.getD 13 .undef,s.getD 14 .undef,s.getD 15 .undef,.int AI v0,.int AI v1,.int AI v2,.int AI v3,.int AI v4,.bs v5,s.getD 22 .undef,s.getD 23 .undef,s.getD 24 .undef,s.getD 25 .undef,s.getD 26 .undef,s.getD 27 .undef,s.getD 28 .undef,s.getD 29 .undef,s.getD 30 .undef,s.getD 31 .undef,s.getD 32 .undef,s.getD 33 .undef,s.getD 34 .undef,s.getD 35 .undef,s.getD 36 .undef,s.getD 37 .undef,s.getD 38 .undef,s.getD 39 .undef,s.getD 40 .undef,s.getD 41 .undef,s.getD 42 .undef,s.getD 43 .undef,.int AI v6]) (mI 44 1000001):=⟨⟩;exact IX
instance t326:Cs sp326 [ep,(.sl 4 100 aa0)] ((.sl 5 1000 ab2)):=by
 have i6:eP 6 (λs C=>QY s 3 λL3=>∀ (v0:List AV) (v1:Int),(v0.length:Int)<=L3+v1->Al ab2 v0->0<=v1->v1<=100 ->  C (stL (stL s 3 (.ay v0)) 4 (.int AI v1))) (mI 4 1000001):=⟨⟩;exact gn
instance t170:Cs sp170 [ack] (.tu [(.y 2000),br]):=gn
instance t349:Cs sp349 [Xi,.b] (.tu [(.y 2000),br]):=gn
instance t403:Cs sp403 [sY,ac0,br,br] (.tu [sY,br]):=by
 have i13:eP 13 (λs C=>∀ (v0:List AV) (v1:Int),(v0.length:Int)<=v1->Al ac0 v0->0<=v1->v1<=100->C (stL (stL s 13 (.ay v0)) 14 (.int AI v1))) (mI 14 101):=⟨⟩;exact gn
instance t157:Cs sp157 [aad,br,br] (.tu [aad,(.y 2000),br]):=gn
instance t252:Cs sp252 [aad,l9] (.tu [aad,br]):=gn
instance t256:Cs sp256 [aad,ack,l9] (.tu [aad,zK,br]):=gn
end Go.Proofs.YtledffmjoegdeaaGreat
