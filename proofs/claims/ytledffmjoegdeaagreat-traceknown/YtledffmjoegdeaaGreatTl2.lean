/- Results of functions. -/
import Derived.Test.YtledffmjoegdeaaGreatTl1
import Derived.Test.YtledffmjoegdeaaGreatTh39
import Derived.Test.YtledffmjoegdeaaGreatTh18ka
import Derived.Test.YtledffmjoegdeaaGreatTh18k2
import Derived.Test.YtledffmjoegdeaaGreatTh18k3
import Derived.Test.YtledffmjoegdeaaGreatTh18kb
import Derived.Test.YtledffmjoegdeaaGreatTh18k8
import Derived.Test.YtledffmjoegdeaaGreatTh18k9
import Derived.Test.YtledffmjoegdeaaGreatTh18kc
import Derived.Test.YtledffmjoegdeaaGreatTh18k5af
import Derived.Test.YtledffmjoegdeaaGreatTh18k5ao
import Derived.Test.YtledffmjoegdeaaGreatTh18k5as
import Derived.Test.YtledffmjoegdeaaGreatTh18k5br
import Derived.Test.YtledffmjoegdeaaGreatTh18k5bf
import Derived.Test.YtledffmjoegdeaaGreatTh18k5bo
import Derived.Test.YtledffmjoegdeaaGreatTh18k5bs
import Derived.Test.YtledffmjoegdeaaGreatTh18k5cr
import Derived.Test.YtledffmjoegdeaaGreatTh18k5ct
import Derived.Test.YtledffmjoegdeaaGreatTh18k5cf
import Derived.Test.YtledffmjoegdeaaGreatTh18k5co
import Derived.Test.YtledffmjoegdeaaGreatTh18k5cs
set_option linter.all false
open Go.IntKind renaming i64->AI
namespace Go.Proofs.YtledffmjoegdeaaGreat
open Go Go.Abs Go.Proofs
set_option maxRecDepth 100000
set_option maxHeartbeats 0
attribute [local irreducible] bh IntKind.wrap room Op.bytesLess Tt gE MY TV XB aaZ
instance t19:Cs sp19 [adq,ec] (aa3):=gn
instance t18:Cx sp18 [ec,aa3] (λ| .agg [_,_,_,_,_,.sl _ ms,.sl _ ks,.sl _ bs,.sl _ us,_,.sl _ es,_]::_,C=>(Kerb.cK ks bs=true/\Kerb.dz (Kerb.kn ks bs)<=900000/\us.length<=900000/\Kerb.KnI es ms ks bs)/\WF (λw5 w6 w7 w8 mh G=>Kerb.cK w6 w7=true->Kerb.dz (Kerb.kn w6 w7)<=Kerb.dz (Kerb.kn ks bs)+6026->w8.length<=us.length+2->Kerb.jk mh<=Kerb.jk es+1->Kerb.KnI mh w5 w6 w7->G) λW=>∀ b:Bool,C (.bp [W,.bool b]) | _,_=>False):=by
 refine⟨λxs g Q hP=> ?_⟩;revert hP;apply g
 (repeat (first | intro _ | ((with_reducible refine bP ?_);(conv=>whnf))))
 rename_i kd sa sb _ _ _ _ _ hP;obtain⟨hp,hP⟩:=hP;by_cases h5:kd=5
 .rcases PK (by assumption:List.length (α:=AV) _<=2) with hr | hr | hr
  .rcases D0 (by assumption:Al aa1 _) sb with hb | hb
   .rcases Mg (by assumption:Al abk _) sa with hk | hk
    .exact ahK.ok _ (λD hD=>by apply hD<;>assumption) Q ⟨⟨h5,hr,hb,hk,hp⟩,hP⟩
    .exact ahL.ok _ (λD hD=>by apply hD<;>assumption) Q ⟨⟨h5,hr,hb,hk,hp⟩,hP⟩
   .exact ahM.ok _ (λD hD=>by apply hD<;>assumption) Q ⟨⟨h5,hr,hb,hp⟩,hP⟩
  .rcases Nh (by assumption:Al Oi _) (by assumption:Al abk _) sa 0 with hy | hn
   .exact ahP.ok _ (λD hD=>by apply hD<;>assumption) Q ⟨⟨h5,hr,hy,hp⟩,hP⟩
   .rcases D0 (by assumption:Al aa1 _) sb with hb | hb
    .rcases Mg (by assumption:Al abk _) sa with hk | hk
     .exact ahN.ok _ (λD hD=>by apply hD<;>assumption) Q ⟨⟨h5,hr,hn,hb,hk,hp⟩,hP⟩
     .exact ahO.ok _ (λD hD=>by apply hD<;>assumption) Q ⟨⟨h5,hr,hn,hb,hk,hp⟩,hP⟩
    .exact ahR.ok _ (λD hD=>by apply hD<;>assumption) Q ⟨⟨h5,hr,hn,hb,hp⟩,hP⟩
  .rcases Nh (by assumption:Al Oi _) (by assumption:Al abk _) sa 0 with hy | hn
   .exact ahU.ok _ (λD hD=>by apply hD<;>assumption) Q ⟨⟨h5,hr,hy,hp⟩,hP⟩
   .rcases Nh (by assumption:Al Oi _) (by assumption:Al abk _) sa 1 with hy | hm
    .exact ahW.ok _ (λD hD=>by apply hD<;>assumption) Q ⟨⟨h5,hr,hn,hy,hp⟩,hP⟩
    .rcases D0 (by assumption:Al aa1 _) sb with hb | hb
     .rcases Mg (by assumption:Al abk _) sa with hk | hk
      .exact ahS.ok _ (λD hD=>by apply hD<;>assumption) Q ⟨⟨h5,hr,hn,hm,hb,hk,hp⟩,hP⟩
      .exact ahT.ok _ (λD hD=>by apply hD<;>assumption) Q ⟨⟨h5,hr,hn,hm,hb,hk,hp⟩,hP⟩
     .exact ahV.ok _ (λD hD=>by apply hD<;>assumption) Q ⟨⟨h5,hr,hn,hm,hb,hp⟩,hP⟩
 by_cases h1:kd=1
 .exact apd.ok _ (λD hD=>by apply hD<;>assumption) Q ⟨⟨h1,hp⟩,hP⟩
 by_cases h2:kd=2
 .exact ape.ok _ (λD hD=>by apply hD<;>assumption) Q ⟨⟨h2,hp⟩,hP⟩
 by_cases h3:kd=3
 .exact apg.ok _ (λD hD=>by apply hD<;>assumption) Q ⟨⟨h3,hp⟩,hP⟩
 by_cases h4:kd=4
 .exact aph.ok _ (λD hD=>by apply hD<;>assumption) Q ⟨⟨h4,hp⟩,hP⟩
 by_cases h6:kd=6
 .exact apj.ok _ (λD hD=>by apply hD<;>assumption) Q ⟨⟨h6,hp⟩,hP⟩
 by_cases h7:kd=7
 .exact apk.ok _ (λD hD=>by apply hD<;>assumption) Q ⟨⟨h7,hp⟩,hP⟩
 by_cases h8:kd=8
 .exact apl.ok _ (λD hD=>by apply hD<;>assumption) Q ⟨⟨h8,hp⟩,hP⟩
 by_cases h9:kd=9
 .exact apm.ok _ (λD hD=>by apply hD<;>assumption) Q ⟨⟨h9,hp⟩,hP⟩
 by_cases V3:kd=10
 .exact ain.ok _ (λD hD=>by apply hD<;>assumption) Q ⟨⟨V3,hp⟩,hP⟩
 by_cases oh:kd=11
 .exact ai'.ok _ (λD hD=>by apply hD<;>assumption) Q ⟨⟨oh,hp⟩,hP⟩
 by_cases h0:kd<=0
 .exact apb.ok _ (λD hD=>by apply hD<;>assumption) Q ⟨⟨h0,hp⟩,hP⟩
 exact ajc.ok _ (λD hD=>by apply hD<;>assumption) Q ⟨⟨by omega,hp⟩,hP⟩
instance t8:Cx sp8 [TE,(.sl 6 1000000 adq)] (λ| [_,_],C=>WF (λw5 w6 w7 w8 mh G=>Kerb.cK w6 w7=true->Kerb.dz (Kerb.kn w6 w7)<=500000->w8.length<=301000->Kerb.jk mh<=70->Kerb.KnI mh w5 w6 w7->G) λW=>C W | _,_=>False):=by
 have i3:eP 3 (λs C=>∀ (v0:List AV) (v1:List AV) (v2:List AV) (v3:List AV) (v4:List AV) (v5:List AV) (v6:List AV) (v7:List AV) (v8:List AV) (v9:Int) (v10:List AV) (v11:Int) (QO:Int),v0.length<=100->Al Oi v0->v1.length<=100->Al aa0 v1->v2.length<=100->Al aa7 v2->v3.length<=100->Al aa1 v3->v4.length<=100->Al aa_ v4->v5.length<=200->Al abk v5->v6.length<=1000000->Al ig v6->v7.length<=1000000->Al l9 v7->v8.length<=1000000->Al ig v8->v10.length<=400->Al Qv v10->0<=QO->QO<=70->(v3.length=0/\v4.length=0\/3<=v2.length)/\v0.length<=2/\Kerb.cK v6 v7=true/\(Kerb.dz (Kerb.kn v6 v7):Int)<=6026*QO/\(v8.length:Int)<=300000+2*QO/\(Kerb.jk v10:Int)<=QO->Kerb.KnI v10 v5 v6 v7 ->  C [s.getD 0 .undef,s.getD 1 .undef,s.getD 2 .undef,s.getD 3 .undef,s.getD 4 .undef,s.getD 5 .undef,s.getD 6 .undef,s.getD 7 .undef,s.getD 8 .undef,s.getD 9 .undef,s.getD 10 .undef,s.getD 11 .undef,s.getD 12 .undef,.sl 13 v0,.sl 4 v1,.sl 2 v2,.sl 31 v3,.sl 10 v4,.sl 4 v5,.sl 1 v6,.sl 1 v7,.sl 1 v8,.int AI v9,.sl 51 v10,.int AI v11,.int AI QO]) (mI 25 1000001):=⟨⟩;exact gn
end Go.Proofs.YtledffmjoegdeaaGreat
