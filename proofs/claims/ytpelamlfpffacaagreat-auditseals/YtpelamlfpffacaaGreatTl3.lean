/- Results of functions, by their own runs. -/
import Derived.Test.YtpelamlfpffacaaGreatTl2
import Derived.Test.YtpelamlfpffacaaGreatTh23k2
import Derived.Test.YtpelamlfpffacaaGreatTh23k3
import Derived.Test.YtpelamlfpffacaaGreatTh23k4
import Derived.Test.YtpelamlfpffacaaGreatTh23k8
import Derived.Test.YtpelamlfpffacaaGreatTh23k9
import Derived.Test.YtpelamlfpffacaaGreatTh23k5af
import Derived.Test.YtpelamlfpffacaaGreatTh23k5ao
import Derived.Test.YtpelamlfpffacaaGreatTh23k5as
import Derived.Test.YtpelamlfpffacaaGreatTh23k5br
import Derived.Test.YtpelamlfpffacaaGreatTh23k5bf
import Derived.Test.YtpelamlfpffacaaGreatTh23k5bo
import Derived.Test.YtpelamlfpffacaaGreatTh23k5bs
import Derived.Test.YtpelamlfpffacaaGreatTh23k5cr
import Derived.Test.YtpelamlfpffacaaGreatTh23k5ct
import Derived.Test.YtpelamlfpffacaaGreatTh23k5cf
import Derived.Test.YtpelamlfpffacaaGreatTh23k5co
import Derived.Test.YtpelamlfpffacaaGreatTh23k5cs
set_option linter.all false
namespace Go.Proofs.YtpelamlfpffacaaGreat
open Go Go.Abs Go.Proofs
set_option maxRecDepth 100000
set_option maxHeartbeats 100000000
attribute [local irreducible] bH IntKind.wrap room Op.bytesLess Tt fe
attribute [local irreducible] jh fI ji fH
instance t23:Cx sp23 [kJ,p8] (fun | .agg [_,_,_,_,_,_,.sl _ ks,.sl _ bs,.sl _ us,_,.sl _ es,_]::_,C=>(Kerb.eo ks bs=true/\Kerb.fb (Kerb.kn ks bs)<=900000/\us.length<=900000)/\∀ (w0:List AV) (w1:List AV) (w2:List AV) (w3:List AV) (w4:List AV) (w5:List AV) (w6:List AV) (w7:List AV) (w8:List AV) (w9:Int) (fT:List AV) (pk:Int),w0.length<=2->Al fM w0->w1.length<=100->Al fG w1->w2.length<=100->Al gm w2->w3.length<=100->Al fN w3->w4.length<=100->Al gy w4->w5.length<=200->Al hY w5->w6.length<=1000000->Al eR w6->w7.length<=1000000->Al jH w7->w8.length<=1000000->Al eR w8->fT.length<=400->Al mP fT->(w3.length=0/\w4.length=0\/3<=w2.length)->Kerb.eo w6 w7=true->Kerb.fb (Kerb.kn w6 w7)<=Kerb.fb (Kerb.kn ks bs)+6026->w8.length<=us.length+2->Kerb.lS fT<=Kerb.lS es+1->∀ b:Bool,C (.bC [(.agg [.sl 13 w0,.sl 4 w1,.sl 2 w2,.sl 31 w3,.sl 10 w4,.sl 4 w5,.sl 1 w6,.sl 1 w7,.sl 1 w8,.int .i64 w9,.sl 51 fT,.int .i64 pk]),.bool b]) | _,_=>False):=by
 refine⟨fun xs g Q hP=> ?_⟩;revert hP;apply g
 (repeat (first | intro _ | ((with_reducible refine dQ ?_);(conv=>whnf);intro _) | ((with_reducible refine c8 ?_);(conv=>whnf))))
 rename_i kd sa sb _ _ _ _ _ hP;obtain⟨hp,hP⟩:=hP;by_cases h5:kd=5
 ·rcases ND (by assumption:List.length (α:=AV) _<=2) with hr | hr | hr
  ·rcases CQ (by assumption:Al fN _) sb with hb | hb
   ·rcases aaJ (by assumption:Al hY _) sa with hk | hk
    ·exact aaK.ok _ (fun D hD=>by apply hD<;>assumption) Q ⟨⟨h5,hr,hb,hk,hp⟩,hP⟩
    ·exact aaN.ok _ (fun D hD=>by apply hD<;>assumption) Q ⟨⟨h5,hr,hb,hk,hp⟩,hP⟩
   ·exact R5.ok _ (fun D hD=>by apply hD<;>assumption) Q ⟨⟨h5,hr,hb,hp⟩,hP⟩
  ·rcases Lb (by assumption:Al fM _) (by assumption:Al hY _) sa 0 with hy | hn
   ·exact R7.ok _ (fun D hD=>by apply hD<;>assumption) Q ⟨⟨h5,hr,hy,hp⟩,hP⟩
   ·rcases CQ (by assumption:Al fN _) sb with hb | hb
    ·rcases aaJ (by assumption:Al hY _) sa with hk | hk
     ·exact aaP.ok _ (fun D hD=>by apply hD<;>assumption) Q ⟨⟨h5,hr,hn,hb,hk,hp⟩,hP⟩
     ·exact aaQ.ok _ (fun D hD=>by apply hD<;>assumption) Q ⟨⟨h5,hr,hn,hb,hk,hp⟩,hP⟩
    ·exact R8.ok _ (fun D hD=>by apply hD<;>assumption) Q ⟨⟨h5,hr,hn,hb,hp⟩,hP⟩
  ·rcases Lb (by assumption:Al fM _) (by assumption:Al hY _) sa 0 with hy | hn
   ·exact R_.ok _ (fun D hD=>by apply hD<;>assumption) Q ⟨⟨h5,hr,hy,hp⟩,hP⟩
   ·rcases Lb (by assumption:Al fM _) (by assumption:Al hY _) sa 1 with hy | hm
    ·exact Sb.ok _ (fun D hD=>by apply hD<;>assumption) Q ⟨⟨h5,hr,hn,hy,hp⟩,hP⟩
    ·rcases CQ (by assumption:Al fN _) sb with hb | hb
     ·rcases aaJ (by assumption:Al hY _) sa with hk | hk
      ·exact aaR.ok _ (fun D hD=>by apply hD<;>assumption) Q ⟨⟨h5,hr,hn,hm,hb,hk,hp⟩,hP⟩
      ·exact aaS.ok _ (fun D hD=>by apply hD<;>assumption) Q ⟨⟨h5,hr,hn,hm,hb,hk,hp⟩,hP⟩
     ·exact Sa.ok _ (fun D hD=>by apply hD<;>assumption) Q ⟨⟨h5,hr,hn,hm,hb,hp⟩,hP⟩
 by_cases h1:kd=1
 ·exact YK.ok _ (fun D hD=>by apply hD<;>assumption) Q ⟨⟨h1,hp⟩,hP⟩
 by_cases h2:kd=2
 ·exact YL.ok _ (fun D hD=>by apply hD<;>assumption) Q ⟨⟨h2,hp⟩,hP⟩
 by_cases h3:kd=3
 ·exact YM.ok _ (fun D hD=>by apply hD<;>assumption) Q ⟨⟨h3,hp⟩,hP⟩
 by_cases h4:kd=4
 ·exact YN.ok _ (fun D hD=>by apply hD<;>assumption) Q ⟨⟨h4,hp⟩,hP⟩
 by_cases h6:kd=6
 ·exact YO.ok _ (fun D hD=>by apply hD<;>assumption) Q ⟨⟨h6,hp⟩,hP⟩
 by_cases h7:kd=7
 ·exact YP.ok _ (fun D hD=>by apply hD<;>assumption) Q ⟨⟨h7,hp⟩,hP⟩
 by_cases h8:kd=8
 ·exact YQ.ok _ (fun D hD=>by apply hD<;>assumption) Q ⟨⟨h8,hp⟩,hP⟩
 by_cases h9:kd=9
 ·exact YR.ok _ (fun D hD=>by apply hD<;>assumption) Q ⟨⟨h9,hp⟩,hP⟩
 by_cases Tc:kd=10
 ·exact T6.ok _ (fun D hD=>by apply hD<;>assumption) Q ⟨⟨Tc,hp⟩,hP⟩
 by_cases WB:kd=11
 ·exact T7.ok _ (fun D hD=>by apply hD<;>assumption) Q ⟨⟨WB,hp⟩,hP⟩
 by_cases h0:kd<=0
 ·exact YJ.ok _ (fun D hD=>by apply hD<;>assumption) Q ⟨⟨h0,hp⟩,hP⟩
 exact T8.ok _ (fun D hD=>by apply hD<;>assumption) Q ⟨⟨by omega,hp⟩,hP⟩
instance t6:Cx sp6 [Rg,(.sl 6 1000000 Gc)] (fun | [_,_],C=>∀ (w0:List AV) (w1:List AV) (w2:List AV) (w3:List AV) (w4:List AV) (w5:List AV) (w6:List AV) (w7:List AV) (w8:List AV) (w9:Int) (fT:List AV) (pk:Int),w0.length<=2->Al fM w0->w1.length<=100->Al fG w1->w2.length<=100->Al gm w2->w3.length<=100->Al fN w3->w4.length<=100->Al gy w4->w5.length<=200->Al hY w5->w6.length<=1000000->Al eR w6->w7.length<=1000000->Al jH w7->w8.length<=1000000->Al eR w8->fT.length<=400->Al mP fT->(w3.length=0/\w4.length=0\/3<=w2.length)->Kerb.eo w6 w7=true->Kerb.fb (Kerb.kn w6 w7)<=500000->w8.length<=301000->Kerb.lS fT<=70->C (.agg [.sl 13 w0,.sl 4 w1,.sl 2 w2,.sl 31 w3,.sl 10 w4,.sl 4 w5,.sl 1 w6,.sl 1 w7,.sl 1 w8,.int .i64 w9,.sl 51 fT,.int .i64 pk]) | _,_=>False):=by
 have i3:fX 3 (fun s C=>∀ (v0:List AV) (v1:List AV) (v2:List AV) (v3:List AV) (v4:List AV) (v5:List AV) (v6:List AV) (v7:List AV) (v8:List AV) (v9:Int) (v10:List AV) (v11:Int) (OK:Int),v0.length<=100->Al fM v0->v1.length<=100->Al fG v1->v2.length<=100->Al gm v2->v3.length<=100->Al fN v3->v4.length<=100->Al gy v4->v5.length<=200->Al hY v5->v6.length<=1000000->Al eR v6->v7.length<=1000000->Al jH v7->v8.length<=1000000->Al eR v8->v10.length<=400->Al mP v10->0<=OK->OK<=70->(v3.length=0/\v4.length=0\/3<=v2.length)/\v0.length<=2/\Kerb.eo v6 v7=true/\(Kerb.fb (Kerb.kn v6 v7):Int)<=6026*OK/\(v8.length:Int)<=300000+2*OK/\(Kerb.lS v10:Int)<=OK ->  C [s.getD 0 .undef,s.getD 1 .undef,s.getD 2 .undef,s.getD 3 .undef,s.getD 4 .undef,s.getD 5 .undef,s.getD 6 .undef,s.getD 7 .undef,s.getD 8 .undef,s.getD 9 .undef,s.getD 10 .undef,s.getD 11 .undef,s.getD 12 .undef,.sl 13 v0,.sl 4 v1,.sl 2 v2,.sl 31 v3,.sl 10 v4,.sl 4 v5,.sl 1 v6,.sl 1 v7,.sl 1 v8,.int .i64 v9,.sl 51 v10,.int .i64 v11,.int .i64 OK]) (mI 25 1000001):=⟨⟩;exact gF
end Go.Proofs.YtpelamlfpffacaaGreat
