/- Results of functions. -/
import Derived.Test.YtpelamlfpffacaaGreatTab
set_option linter.all false
open Go.IntKind renaming i64->AI,u64->AT
open Go.Abs.AV renaming int->Zz,str->Zx,bool->Zv,bs->Zq,sl->Zf,bp->Zn,agg->Yz,fN->Yw,ay->Yq,dt->Yd,aw->Ym,undef->Xx
open Option renaming bind->Zy,some->Zb
open Go.IntKind renaming wrap->Zw,i64->Zp
open Prod renaming snd->Zu,fst->Zd
open List renaming length->Zj,getD->Yb
open Bool renaming and_eq_true->Zk,true->Yx,false->Yk
open Decidable renaming decide->Zg
open Nat renaming le_trans->Zm
open Int renaming toNat->Zh
open Kerb.Rd renaming val->Yy,pos->Yv,bad->Yu
open Kerb renaming fV->Yj,aU->Yp,nn->Yf,aP->Yg,eo->Yn,fX->Xy,vy->Xv,bD->Xu,bytes->Xq,kn->Xj,eH->Xk
open Kerb.Client renaming av->Yh
open Kerb.Cache renaming av->Xz
open Sum renaming inl->Xw
namespace Go.Proofs.YtpelamlfpffacaaGreat
open Go Go.Abs Go.Proofs
set_option maxRecDepth 100000
theorem alk:Nr Tryz.prog G 118 7 [.sl 1,.int AI,.int AI,.int AI] vQ:=by
 refine⟨λxs bl=> ?_,Tryz.f118,Tryz.func118,by decide +kernel,rfl,λT xs bl r h=> ?_⟩
 .cases h:vQ 0 xs bl with
  | none=>rfl
  | some r =>
   unfold vQ at h;split at h
   .obtain⟨aI,_⟩:=aC h;simp only[Zk,Qa2] at aI;omega
   .cases h
 unfold vQ at h;split at h
 .rename_i a b l els;obtain⟨aI,h2⟩:=aC h;cases h2;show rV ((G.cut 118 7 [.sl 1,.int AI,.int AI,.int AI] (vQ T)).env 118 8) G.rts (G.own 118) Tryz.f118 _ _ [0]=_
  refine Qb2 (b:=(Zy (bh (λst=>ar st λx r=>AV.aS x λy=>af AI r λn r=>af AI r λC r=>af AI r λdy r=>az r λb r=>az r λdS r=>ak r (aK (Zg (Zw AI (C-n)<=12)) (Zy (Kz [AV.bL 0 55 1,Zz AI n,Zz AI C] [(0,y)]) λ(r:AV×aO)=>aJ (Zu r) λ(x:List AV) (K:List (List AV))=>aE K (AV.gJ (Zd r) λvs=>ak vs (Zb (Sum.inr (Ex.ret,[Yq x,Zz AI n,Zz AI C,Zz AI dy,Zv b,Zv dS]))))) (aK (dy==0) (Zy (KB [AV.bL 0 55 1,Zz AI n,Zz AI C] [(0,y)]) λ(r:AV×aO)=>aJ (Zu r) λ(x:List AV) (K:List (List AV))=>aE K (AV.gJ (Zd r) λvs=>ak vs (Zb (Sum.inr (Ex.ret,[Yq x,Zz AI n,Zz AI C,Zz AI dy,Zv b,Zv dS]))))) (Zy (aK (!b) (Zy (KD [AV.bL 0 55 1,Zz AI n,Zz AI C] [(0,y)]) λ(r:AV×aO)=>aJ (Zu r) λ(x:List AV) (K:List (List AV))=>aE K (AV.gJ (Zd r) λvs=>ak vs (Zb [Yq x,Zz AI n,Zz AI C,Zz AI (Zw AI (dy-1)),Zv b,Zv dS,Zz AI (Zw AI (C-n))]))) (Zb [Yq y,Zz AI n,Zz AI C,Zz AI dy,Zv b,Zv dS,Zz AI (Zw AI (C-n))])) λl=>ar l λx r=>AV.aS x λy=>af AI r λn r=>af AI r λZ r=>af AI r λcE r=>az r λb r=>az r λkj r=>af AI r λcg r=>ak r (Zy (KE [AV.bL 0 55 1,Zz AI n,Zz AI Z] [(0,y)]) λ(r:AV×aO)=>aJ (Zu r) λ(x:List AV) (K:List (List AV))=>aE K (AV.gJ (Zd r) λvs=>ar vs λx_1 r=>Ym AI x_1 λgH=>ar r λx_2 r=>Ym AI x_2 λgI=>ak r (Zy (aK (gI==2) (Zy (KG [AV.bL 0 55 1,Zz AI n,Zz AI Z] [(0,x)]) λ(r:AV×aO)=>aJ (Zu r) λ(x:List AV) (w:List (List AV))=>aE w (AV.gJ (Zd r) λvs=>ak vs (Zb [Yq x,Zz AI n,Zz AI Z,Zz AI cE,Zv b,Zv kj,Zz AI cg,Zz AI (Zw AI (Zw AI (Z-1)-Zw AI (gH-n))),Zz AI 1]))) (Zb [Yq x,Zz AI n,Zz AI Z,Zz AI cE,Zv b,Zv kj,Zz AI cg,Zz AI gH,Zz AI gI])) λl=>ar l λx r=>AV.aS x λy=>af AI r λn r=>af AI r λke r=>af AI r λpK r=>az r λb r=>az r λjK r=>af AI r λqE r=>af AI r λjS r=>af AI r λlS r=>ak r (Zy (aK b (aK jK (Zb [Yq y,Zz AI n,Zz AI ke,Zz AI pK,Zv b,Zv jK,Zz AI qE,Zz AI jS,Zv (lS==1)]) (Zb [Yq y,Zz AI n,Zz AI ke,Zz AI pK,Zv b,Zv jK,Zz AI qE,Zz AI jS,Zv Yk])) (Zb [Yq y,Zz AI n,Zz AI ke,Zz AI pK,Zv b,Zv jK,Zz AI qE,Zz AI jS,Zv Yk])) λl=>ar l λx r=>AV.aS x λy=>af AI r λn r=>af AI r λiz r=>af AI r λbB r=>az r λb r=>az r λlN r=>af AI r λju r=>af AI r λR r=>az r λnG r=>ak r (aK nG (Zy (Zy (KK [AV.bL 0 55 1,Zz AI n,Zz AI iz] [(0,y)]) λ(r:AV×aO)=>aJ (Zu r) λ(x:List AV) (w:List (List AV))=>aE w (AV.dw (Zd r) λQ=>Zb [Yq x,Zz AI n,Zz AI iz,Zz AI bB,Zv b,Zv lN,Zz AI ju,Zz AI R,Zv Q])) λl=>ar l λx r=>AV.aS x λy=>af AI r λn r=>af AI r λz r=>af AI r λB r=>az r λb r=>az r λQ r=>af AI r λX r=>af AI r λE r=>az r λnK r=>ak r (aK nK (Zb (Sum.inr (Ex.ret,[Yq y,Zz AI n,Zz AI z,Zz AI B,Zv b,Zv Q]))) (Zy (aK (Zg (n>0)) (ax (Zg (0<=Zw AI (n-1))&&Zg (Zw AI (n-1)<(Zj y:Int))&&Yx) (ax (Nat.blt (Zh (Zw AI (n-1))) (Zj y)&&Yx) (Ym AT (Yb y (Zh (Zw AI (n-1))) Xx) λg=>ax (Zg (0<=E)&&Zg (E<(Zj y:Int))&&Yx) (ax (Nat.blt (Zh E) (Zj y)&&Yx) (Ym AT (Yb y (Zh E) Xx) λP=>Zb [Yq y,Zz AI n,Zz AI z,Zz AI B,Zv b,Zv Q,Zz AI X,Zz AI E,Zv !Zg (g<P)]))))) (Zb [Yq y,Zz AI n,Zz AI z,Zz AI B,Zv b,Zv Q,Zz AI X,Zz AI E,Zv Yk])) λl=>ar l λx r=>AV.aS x λy=>af AI r λn r=>af AI r λg r=>af AI r λP r=>az r λb r=>az r λuK r=>af AI r λTd r=>af AI r λTe r=>az r λwG r=>ak r (aK wG (Zy (F6 [AV.bL 0 55 1,Zz AI n,Zz AI g,Zz AI Te] [(0,y)]) λ(r:AV×aO)=>aJ (Zu r) λ(x:List AV) (w:List (List AV))=>aE w (Ym AI (Zd r) λn=>Zb (Xw [Yq x,Zz AI n,Zz AI g,Zz AI P,Zv b,Zv uK]))) (Zy (F7 [AV.bL 0 55 1,Zz AI n,Zz AI g,Zz AI Te] [(0,y)]) λ(r:AV×aO)=>aJ (Zu r) λ(x:List AV) (w:List (List AV))=>aE w (AV.gJ (Zd r) λvs=>ar vs λx_3 r=>Ym AI x_3 λO=>ar r λx_4 r=>AV.dw x_4 λb=>ak r (aK (Zg (Zw AI (O-n)<Zw AI (g-O))) (Zy (vQ T [AV.bL 0 55 1,Zz AI n,Zz AI O,Zz AI P] [(0,x)]) λ(r:AV×aO)=>aJ (Zu r) λ(x:List AV) (J:List (List AV))=>aE J (AV.gJ (Zd r) λvs=>ak vs (Zb (Xw [Yq x,Zz AI (Zw AI (O+1)),Zz AI g,Zz AI P,Zv (Zg (Zw AI (O-n)>=Zw AI (Int.tdiv Td 8))),Zv b])))) (Zy (vQ T [AV.bL 0 55 1,Zz AI (Zw AI (O+1)),Zz AI g,Zz AI P] [(0,x)]) λ(r:AV×aO)=>aJ (Zu r) λ(x:List AV) (J:List (List AV))=>aE J (AV.gJ (Zd r) λvs=>ak vs (Zb (Xw [Yq x,Zz AI n,Zz AI O,Zz AI P,Zv (Zg (Zw AI (g-O)>=Zw AI (Int.tdiv Td 8))),Zv b]))))))))))) (Zy (aK (Zg (n>0)) (ax (Zg (0<=Zw AI (n-1))&&Zg (Zw AI (n-1)<(Zj y:Int))&&Yx) (ax (Nat.blt (Zh (Zw AI (n-1))) (Zj y)&&Yx) (Ym AT (Yb y (Zh (Zw AI (n-1))) Xx) λz=>ax (Zg (0<=R)&&Zg (R<(Zj y:Int))&&Yx) (ax (Nat.blt (Zh R) (Zj y)&&Yx) (Ym AT (Yb y (Zh R) Xx) λB=>Zb [Yq y,Zz AI n,Zz AI iz,Zz AI bB,Zv b,Zv lN,Zz AI ju,Zz AI R,Zv !Zg (z<B)]))))) (Zb [Yq y,Zz AI n,Zz AI iz,Zz AI bB,Zv b,Zv lN,Zz AI ju,Zz AI R,Zv Yk])) λl=>ar l λx r=>AV.aS x λy=>af AI r λn r=>af AI r λz r=>af AI r λB r=>az r λb r=>az r λQ r=>af AI r λX r=>af AI r λE r=>az r λnK r=>ak r (aK nK (Zy (F6 [AV.bL 0 55 1,Zz AI n,Zz AI z,Zz AI E] [(0,y)]) λ(r:AV×aO)=>aJ (Zu r) λ(x:List AV) (w:List (List AV))=>aE w (Ym AI (Zd r) λn=>Zb (Xw [Yq x,Zz AI n,Zz AI z,Zz AI B,Zv b,Zv Q]))) (Zy (F7 [AV.bL 0 55 1,Zz AI n,Zz AI z,Zz AI E] [(0,y)]) λ(r:AV×aO)=>aJ (Zu r) λ(x:List AV) (w:List (List AV))=>aE w (AV.gJ (Zd r) λvs=>ar vs λx_3 r=>Ym AI x_3 λg=>ar r λx_4 r=>AV.dw x_4 λb=>ak r (aK (Zg (Zw AI (g-n)<Zw AI (z-g))) (Zy (vQ T [AV.bL 0 55 1,Zz AI n,Zz AI g,Zz AI B] [(0,x)]) λ(r:AV×aO)=>aJ (Zu r) λ(x:List AV) (J:List (List AV))=>aE J (AV.gJ (Zd r) λvs=>ak vs (Zb (Xw [Yq x,Zz AI (Zw AI (g+1)),Zz AI z,Zz AI B,Zv (Zg (Zw AI (g-n)>=Zw AI (Int.tdiv X 8))),Zv b])))) (Zy (vQ T [AV.bL 0 55 1,Zz AI (Zw AI (g+1)),Zz AI z,Zz AI B] [(0,x)]) λ(r:AV×aO)=>aJ (Zu r) λ(x:List AV) (J:List (List AV))=>aE J (AV.gJ (Zd r) λvs=>ak vs (Zb (Xw [Yq x,Zz AI n,Zz AI g,Zz AI B,Zv (Zg (Zw AI (z-g)>=Zw AI (Int.tdiv X 8))),Zv b])))))))))))))))))) [Yq els,Zz AI a,Zz AI b,Zz AI l,Zv Yx,Zv Yx]) λ(r:Ex×List AV)=>ar (Zu r) λx K=>AV.aS x λy=>af AI K λn w=>af AI w λn J=>af AI J λn gZ=>az gZ λb jo=>az jo λb kg=>ak kg (kJ r.1 (Zb (Zn [],[y])) λ(j:Nat)=>none):Option (AV×aO))) (by kernel_rfl) ?_
  dsimp only[vQ,Kz,KB,KD,KE,KG,KK,F6,F7,bg,dg,az,lR,af,eg,jM];simp only[Yf,Zk,Qa2] at aI;obtain⟨⟨⟨⟨⟨⟨⟨hZ,hlen⟩,Lj⟩,W⟩,hb⟩,H⟩,M⟩,S⟩:=aI;obtain⟨d,rfl,hd⟩:=Kerb.nr hZ;simp only[Yp] at hlen hb;obtain⟨a,rfl⟩:=Int.eq_ofNat_of_zero_le (show 0<=a by omega);obtain⟨b,rfl⟩:=Int.eq_ofNat_of_zero_le (show 0<=b by omega);obtain⟨l,rfl⟩:=Int.eq_ofNat_of_zero_le (show 0<=l by omega);rw[Kerb.sS];obtain⟨P0,hP⟩:∃ P0,P0=Go.Sort.pdq Go.Sort.ltInt d a b l Yx Yx:=⟨_,rfl⟩;rw[<-hP];refine bS (λs:Array Int×Nat×Nat×Nat×Bool×Bool=>[Yq (Kerb.back s.1),Zz AI (s.2.1:Int),Zz AI (s.2.2.1:Int),Zz AI (s.2.2.2.1:Int),Zv s.2.2.2.2.1,Zv s.2.2.2.2.2]) (λs=>s.1.size=d.size/\s.2.1<=s.2.2.1/\s.2.2.1<=d.size/\s.2.2.2.1<=64/\s.2.2.1-s.2.1<=T/\Go.Sort.pdq Go.Sort.ltInt s.1 s.2.1 s.2.2.1 s.2.2.2.1 s.2.2.2.2.1 s.2.2.2.2.2=P0) (λs=>s.2.2.1-s.2.1) (λr=>∃ n1 n2 n3 b1 b2,r=(.ret,[Yq (Kerb.back P0),Zz AI n1,Zz AI n2,Zz AI n3,Zv b1,Zv b2])) (d,a,b,l,Yx,Yx) ⟨rfl,by dsimp only;omega,by dsimp only;omega,by dsimp only;omega,by dsimp only;omega,hP.symm⟩ rfl ?_ ?_
  .clear hP W H M S Lj hb;rintro⟨e,a,b,l,A,D⟩ ⟨hs,W,hb,hl,S,hr⟩;dsimp only at hs W hb hl S hr ⊢;simp only[↓bW,↓cG,↓dx,↓dP,↓dA];rw[show Zw AI ((b:Int)-(a:Int))=((b-a:Nat):Int) from(Kerb.im (by omega) (by omega)).trans (by omega)];rw[Kerb.AF] at hr;by_cases Y:b-a<=12
   .rw[Qa1 Y] at hr;rw[ae (by simp;omega),aq (by simp only[Yf,Yn,Yp,Zk,Qa2,Qa9,Qa8];omega)];simp only[↓gu,↓fB,↓bW,↓cG,↓hU,↓lT,↓dx,↓dP,↓dA];rw[Kerb.SL,hr];exact⟨_,rfl,_,_,_,_,_,rfl⟩
   rw[Qa0 Y] at hr;rw[ai (by simp;omega)];by_cases H:l=0
   .rw[Qa1 H] at hr;rw[ae (by simp;omega),aq (by simp only[Yf,Yn,Yp,Zk,Qa2,Qa9,Qa8];omega)];simp only[↓gu,↓fB,↓bW,↓cG,↓hU,↓lT,↓dx,↓dP,↓dA];rw[Kerb.Ps,hr];exact⟨_,rfl,_,_,_,_,_,rfl⟩
   rw[Qa0 H] at hr;rw[ai (by simp;omega)];obtain⟨d1,o⟩:∃ d1,d1=(if (!A)=Yx then Go.Sort.breakPatterns e a b else e):=⟨_,rfl⟩;obtain⟨l1,M⟩:∃ l1,l1=(if (!A)=Yx then l-1 else l):=⟨_,rfl⟩;rw[<-o,<-M] at hr;refine Kerb.yQ (v:=[Yq (Kerb.back d1),Zz AI (a:Int),Zz AI (b:Int),Zz AI (l1:Int),Zv A,Zv D,Zz AI ((b-a:Nat):Int)]) ?_ ?_
   .cases A
    .rw[Qa1 (show(!Yk)=Yx from rfl)] at o M;rw[ae (show(!Yk)=Yx from rfl),aq (by simp only[Yf,Yn,Yp,Zk,Qa2,Qa9,Qa8];omega)];simp only[↓gu,↓fB,↓bW,↓cG,↓hU,↓lT,↓dx,↓dP,↓dA];rw[Kerb.Lz,o,M,show Zw AI ((l:Int)-1)=((l-1:Nat):Int) from(Kerb.im (by omega) (by omega)).trans (by omega)]
    .rw[Qa0 (by decide)] at o M;rw[ai (show(!Yx)=Yk from rfl),o,M]
   have s1:d1.size=d.size:=by
    rw[o];split
    .rw[Kerb.Cl W (by omega),hs]
    .exact hs
   have arl:l1<=64:=by
    rw[M];split<;>omega
   clear o M;simp only[↓bW,↓cG,↓dx,↓dP,↓dA];rw[aq (by simp only[Yf,Yn,Yp,Zk,Qa2,Qa9,Qa8];omega)];simp only[↓gu,↓fB,↓bW,↓cG,↓hU,↓lT,↓dx,↓dP,↓dA];rw[Kerb.Qi];unfold Kerb.Sl at hr;have hc:=Go.Sort.choosePivot_holds Go.Sort.ltInt d1 a b (by omega);generalize Go.Sort.choosePivot Go.Sort.ltInt d1 a b=c at hc hr ⊢;obtain⟨d2,QU⟩:∃ d2,d2=(if c.2 = .decreasing then Go.Sort.reverseRange d1 a b else d1):=⟨_,rfl⟩;obtain⟨i,N⟩:∃ i,i=(if c.2 = .decreasing then(b-1)-(c.1-a) else c.1):=⟨_,rfl⟩;obtain⟨ht,u⟩:∃ ht,ht=(if c.2 = .decreasing then Go.Sort.Hint.increasing else c.2):=⟨_,rfl⟩;rw[<-QU,<-N,<-u] at hr;refine Kerb.yQ (v:=[Yq (Kerb.back d2),Zz AI (a:Int),Zz AI (b:Int),Zz AI (l1:Int),Zv A,Zv D,Zz AI ((b-a:Nat):Int),Zz AI (i:Int),Zz AI (Kerb.Jn ht)]) ?_ ?_
   .rw[Kerb.Pv];by_cases hd:c.2 = .decreasing
    .rw[Qa1 hd] at QU N u;rw[ae (by simpa using hd),aq (by simp only[Yf,Yn,Yp,Zk,Qa2,Qa9,Qa8];omega)];simp only[↓gu,↓fB,↓bW,↓cG,↓hU,↓lT,↓dx,↓dP,↓dA];rw[Kerb.Tz,QU,N,u,show Zw AI ((b:Int)-1)=((b-1:Nat):Int) from(Kerb.im (by omega) (by omega)).trans (by omega),show Zw AI ((c.1:Int)-(a:Int))=((c.1-a:Nat):Int) from(Kerb.im (by omega) (by omega)).trans (by omega),show Zw AI (((b-1:Nat):Int)-((c.1-a:Nat):Int))=((b-1-(c.1-a):Nat):Int) from(Kerb.im (by omega) (by omega)).trans (by omega)];rfl
    .rw[Qa0 hd] at QU N u;rw[ai (by simpa using hd),QU,N,u]
   have s2:d2.size=d.size:=by
    rw[QU];split
    .rw[Kerb.Ko W (by omega),s1]
    .exact s1
   have V:a<=i:=by
    rw[N];split<;>omega
   have U:i<b:=by
    rw[N];split<;>omega
   clear QU N u;simp only[↓bW,↓cG,↓dx,↓dP,↓dA];obtain⟨q,hq⟩:∃ q,q=(A&&D&&Zg (ht = .increasing)):=⟨_,rfl⟩;unfold Kerb.ab1 at hr;rw[<-hq] at hr;refine Kerb.yQ (v:=[Yq (Kerb.back d2),Zz AI (a:Int),Zz AI (b:Int),Zz AI (l1:Int),Zv A,Zv D,Zz AI ((b-a:Nat):Int),Zz AI (i:Int),Zv q]) ?_ ?_
   .rw[hq,Kerb.Pw];cases A<;>cases D<;>simp[aK]
   simp only[↓bW,↓cG,↓dx,↓dP,↓dA];by_cases F:q=Yx
   .simp only[Qa1 F] at hr;rw[ae F,aq (by simp only[Yf,Yn,Yp,Zk,Qa2,Qa9,Qa8];omega)];simp only[↓gu,↓fB,↓bW,↓cG,↓hU,↓lT,↓dx,↓dP,↓dA];rw[Kerb.Kb];have s3:(Go.Sort.partialInsertionSort Go.Sort.ltInt d2 a b).1.size=d.size:=by
     unfold Go.Sort.partialInsertionSort;rw[Kerb.uj,s2]
    generalize Go.Sort.partialInsertionSort Go.Sort.ltInt d2 a b=pi at s3 hr ⊢;obtain⟨d3,dn⟩:=pi;dsimp only at s3 hr ⊢;by_cases I:dn=Yx
    .rw[Qa1 I] at hr;rw[ae I,hr];exact⟨_,rfl,_,_,_,_,_,rfl⟩
    rw[Qa0 I] at hr;rw[ai (by simpa using I)];have f:=hr;obtain⟨cB,t⟩:∃ cB,cB=(Zg (a>0) && !Go.Sort.ltInt d3[a-1]! d3[i]!):=⟨_,rfl⟩;rw[Kerb.D9 V U (by omega),<-t] at f;refine Kerb.yQ (v:=[Yq (Kerb.back d3),Zz AI (a:Int),Zz AI (b:Int),Zz AI (l1:Int),Zv A,Zv D,Zz AI ((b-a:Nat):Int),Zz AI (i:Int),Zv cB]) ?_ ?_
    .by_cases a0:a>0
     .have g1:a-1<d3.size:=by omega
      have g2:i<d3.size:=by omega
      rw[ae (by simp;omega)];simp only[show Zw AI ((a:Int)-1)=((a-1:Nat):Int) from(Kerb.im (by omega) (by omega)).trans (by omega)];rw[Kerb.rd g1,Kerb.rd g2,t];simp[a0,Go.Sort.ltInt]
     .rw[ai (by simp;omega),t];simp[a0]
    simp only[↓bW,↓cG,↓dx,↓dP,↓dA];by_cases L:cB=Yx
    .rw[Qa1 L] at f;rw[ae L,aq (by simp only[Yf,Yn,Yp,Zk,Qa2,Qa9,Qa8];omega)];simp only[↓gu,↓fB,↓bW,↓cG,↓hU,↓lT,↓dx,↓dP,↓dA];rw[Kerb.xZ];have e:=Kerb.pP V U (show b<=d3.size by omega);generalize Go.Sort.partitionEqual Go.Sort.ltInt d3 a b i=x at e f ⊢;exact⟨_,rfl,(x.2,x.1,b,l1,A,D),rfl,⟨by dsimp only;omega,by dsimp only;omega,by dsimp only;omega,by dsimp only;omega,by dsimp only;omega,f⟩,by dsimp only;omega⟩
    rw[Qa0 L] at f;rw[ai (by simpa using L),aq (by simp only[Yf,Yn,Yp,Zk,Qa2,Qa9,Qa8];omega)];simp only[↓gu,↓fB,↓bW,↓cG,↓hU,↓lT,↓dx,↓dP,↓dA];simp only[Kerb.Dr];have p:=Kerb.tU V U (show b<=d3.size by omega);generalize Go.Sort.partition Go.Sort.ltInt d3 a b i=x at p f ⊢;obtain⟨m,ap,d4⟩:=x;dsimp only at p f ⊢;obtain⟨p1,p2,p3⟩:=p;rw[show Zw AI ((m:Int)-(a:Int))=((m-a:Nat):Int) from(Kerb.im (by omega) (by omega)).trans (by omega),show Zw AI ((b:Int)-(m:Int))=((b-m:Nat):Int) from(Kerb.im (by omega) (by omega)).trans (by omega)];have ht:Zw AI (Int.tdiv ((b-a:Nat):Int) 8)=(((b-a) / 8:Nat):Int):=Kerb.im (n:=(((b-a) / 8:Nat):Int)) (by omega) (by omega);simp only[show Zw AI ((m:Int)+1)=((m+1:Nat):Int) from(Kerb.im (by omega) (by omega)).trans (by omega),ht];by_cases hm:m-a<b-m
    .rw[Qa1 hm] at f;rw[ae (by simp;omega),aq (by simp only[Yf,Yn,Yp,Zk,Qa2,Qa9,Qa8];omega)];simp only[↓gu,↓fB,↓bW,↓cG,↓hU,↓lT,↓dx,↓dP,↓dA];simp only[Kerb.sS];have k:=Kerb.vE _ d4 a m l1 Yx Yx (Nat.le_refl _) p1 (by omega);generalize Go.Sort.pdq Go.Sort.ltInt d4 a m l1 Yx Yx=d5 at k f ⊢;refine⟨_,rfl,(d5,m+1,b,l1,Zg (m-a>=(b-a) / 8),ap),?_,⟨by dsimp only;omega,by dsimp only;omega,by dsimp only;omega,by dsimp only;omega,by dsimp only;omega,f⟩,by dsimp only;omega⟩;dsimp only;rw[show(Zg (((m-a:Nat):Int)>=(((b-a) / 8:Nat):Int)))=Zg (m-a>=(b-a) / 8) from decide_eq_decide.mpr (by omega)]
    .rw[Qa0 hm] at f;rw[ai (by simp;omega),aq (by simp only[Yf,Yn,Yp,Zk,Qa2,Qa9,Qa8];omega)];simp only[↓gu,↓fB,↓bW,↓cG,↓hU,↓lT,↓dx,↓dP,↓dA];simp only[Kerb.sS];have k:=Kerb.vE _ d4 (m+1) b l1 Yx Yx (Nat.le_refl _) (by omega) (by omega);generalize Go.Sort.pdq Go.Sort.ltInt d4 (m+1) b l1 Yx Yx=d5 at k f ⊢;refine⟨_,rfl,(d5,a,m,l1,Zg (b-m>=(b-a) / 8),ap),?_,⟨by dsimp only;omega,by dsimp only;omega,by dsimp only;omega,by dsimp only;omega,by dsimp only;omega,f⟩,by dsimp only;omega⟩;dsimp only;rw[show(Zg (((b-m:Nat):Int)>=(((b-a) / 8:Nat):Int)))=Zg (b-m>=(b-a) / 8) from decide_eq_decide.mpr (by omega)]
   .simp only[Qa0 F] at hr;rw[Qa0 (by decide)] at hr;rw[ai (by simpa using F)];have s3:=s2;revert hr s3;generalize d2=d3;intro f s3;obtain⟨cB,t⟩:∃ cB,cB=(Zg (a>0) && !Go.Sort.ltInt d3[a-1]! d3[i]!):=⟨_,rfl⟩;rw[Kerb.D9 V U (by omega),<-t] at f;refine Kerb.yQ (v:=[Yq (Kerb.back d3),Zz AI (a:Int),Zz AI (b:Int),Zz AI (l1:Int),Zv A,Zv D,Zz AI ((b-a:Nat):Int),Zz AI (i:Int),Zv cB]) ?_ ?_
    .by_cases a0:a>0
     .have g1:a-1<d3.size:=by omega
      have g2:i<d3.size:=by omega
      rw[ae (by simp;omega)];simp only[show Zw AI ((a:Int)-1)=((a-1:Nat):Int) from(Kerb.im (by omega) (by omega)).trans (by omega)];rw[Kerb.rd g1,Kerb.rd g2,t];simp[a0,Go.Sort.ltInt]
     .rw[ai (by simp;omega),t];simp[a0]
    simp only[↓bW,↓cG,↓dx,↓dP,↓dA];by_cases L:cB=Yx
    .rw[Qa1 L] at f;rw[ae L,aq (by simp only[Yf,Yn,Yp,Zk,Qa2,Qa9,Qa8];omega)];simp only[↓gu,↓fB,↓bW,↓cG,↓hU,↓lT,↓dx,↓dP,↓dA];rw[Kerb.xZ];have e:=Kerb.pP V U (show b<=d3.size by omega);generalize Go.Sort.partitionEqual Go.Sort.ltInt d3 a b i=x at e f ⊢;exact⟨_,rfl,(x.2,x.1,b,l1,A,D),rfl,⟨by dsimp only;omega,by dsimp only;omega,by dsimp only;omega,by dsimp only;omega,by dsimp only;omega,f⟩,by dsimp only;omega⟩
    rw[Qa0 L] at f;rw[ai (by simpa using L),aq (by simp only[Yf,Yn,Yp,Zk,Qa2,Qa9,Qa8];omega)];simp only[↓gu,↓fB,↓bW,↓cG,↓hU,↓lT,↓dx,↓dP,↓dA];simp only[Kerb.Dr];have p:=Kerb.tU V U (show b<=d3.size by omega);generalize Go.Sort.partition Go.Sort.ltInt d3 a b i=x at p f ⊢;obtain⟨m,ap,d4⟩:=x;dsimp only at p f ⊢;obtain⟨p1,p2,p3⟩:=p;rw[show Zw AI ((m:Int)-(a:Int))=((m-a:Nat):Int) from(Kerb.im (by omega) (by omega)).trans (by omega),show Zw AI ((b:Int)-(m:Int))=((b-m:Nat):Int) from(Kerb.im (by omega) (by omega)).trans (by omega)];have ht:Zw AI (Int.tdiv ((b-a:Nat):Int) 8)=(((b-a) / 8:Nat):Int):=Kerb.im (n:=(((b-a) / 8:Nat):Int)) (by omega) (by omega);simp only[show Zw AI ((m:Int)+1)=((m+1:Nat):Int) from(Kerb.im (by omega) (by omega)).trans (by omega),ht];by_cases hm:m-a<b-m
    .rw[Qa1 hm] at f;rw[ae (by simp;omega),aq (by simp only[Yf,Yn,Yp,Zk,Qa2,Qa9,Qa8];omega)];simp only[↓gu,↓fB,↓bW,↓cG,↓hU,↓lT,↓dx,↓dP,↓dA];simp only[Kerb.sS];have k:=Kerb.vE _ d4 a m l1 Yx Yx (Nat.le_refl _) p1 (by omega);generalize Go.Sort.pdq Go.Sort.ltInt d4 a m l1 Yx Yx=d5 at k f ⊢;refine⟨_,rfl,(d5,m+1,b,l1,Zg (m-a>=(b-a) / 8),ap),?_,⟨by dsimp only;omega,by dsimp only;omega,by dsimp only;omega,by dsimp only;omega,by dsimp only;omega,f⟩,by dsimp only;omega⟩;dsimp only;rw[show(Zg (((m-a:Nat):Int)>=(((b-a) / 8:Nat):Int)))=Zg (m-a>=(b-a) / 8) from decide_eq_decide.mpr (by omega)]
    .rw[Qa0 hm] at f;rw[ai (by simp;omega),aq (by simp only[Yf,Yn,Yp,Zk,Qa2,Qa9,Qa8];omega)];simp only[↓gu,↓fB,↓bW,↓cG,↓hU,↓lT,↓dx,↓dP,↓dA];simp only[Kerb.sS];have k:=Kerb.vE _ d4 (m+1) b l1 Yx Yx (Nat.le_refl _) (by omega) (by omega);generalize Go.Sort.pdq Go.Sort.ltInt d4 (m+1) b l1 Yx Yx=d5 at k f ⊢;refine⟨_,rfl,(d5,a,m,l1,Zg (b-m>=(b-a) / 8),ap),?_,⟨by dsimp only;omega,by dsimp only;omega,by dsimp only;omega,by dsimp only;omega,by dsimp only;omega,f⟩,by dsimp only;omega⟩;dsimp only;rw[show(Zg (((b-m:Nat):Int)>=(((b-a) / 8:Nat):Int)))=Zg (b-m>=(b-a) / 8) from decide_eq_decide.mpr (by omega)]
  .rintro _ ⟨n1,n2,n3,b1,b2,rfl⟩;simp only[↓bW,↓cG,↓dx,↓dP,↓dA,↓Xc]
 .cases h
theorem alI:Wk 175 7 xq:=by
 refine g8 Tryz.func175 λ_ _ _ h=> ?_;unfold xq at h;split at h;case h_2=>cases h
 rename_i bs;obtain⟨aI,rfl⟩:=ja h;refine jI (Zy (bh (λst=>ar st λx r=>AV.aS x λb=>eg 1 r λc r=>af AI r λn r=>af AI r λa r=>ak r (aK (Zg (a<n)) (ax (Zg (0<=a)&&Zg (a<(Zj c:Int))&&Yx) (AV.dC (Yb c (Zh a) Xx) λd=>Zy (Xt [Zq d] []) (kL λe=>aK e (ax (room (Zj b+Zj [Zq d]) (nat_lit 24)) (Zb (Xw [Yq (b++[Zq d]),Zf 1 c,Zz AI n,Zz AI (Zw AI (a+1))]))) (Zb (Xw [Yq b,Zf 1 c,Zz AI n,Zz AI (Zw AI (a+1))]))))) (Zb (Sum.inr (Ex.exit 0,[Yq b,Zf 1 c,Zz AI n,Zz AI a]))))) [Yq [],Zf 1 bs,Zz AI (Zj bs:Int),Zz AI 0]) λ(r:Ex×List AV)=>ar (Zu r) λx m=>AV.aS x λb=>eg 1 m λc g=>af AI g λn k=>af AI k λn f=>ak f (kJ r.1 none λj=>aK (Nat.beq j 0) (Zb (Zf 1 b,[])) none)) ?_;delta kL;dsimp only[Xt,bg,dg,az,lR,af,eg,jM];obtain⟨l,rfl,hl,hn⟩:=Kerb.Hx aI;rw[Kerb.lK];refine Kerb.o0 (λi=>[.ay (Xu (Kerb.gj (l.take i))),.sl 1 (Xu l),.int AI ((Xu l).length:Int),.int AI (i:Int)]) l.length (λi hi=> ?_) ⟨(.exit 0,[.ay (Xu (Kerb.gj l)),.sl 1 (Xu l),.int AI ((Xu l).length:Int),.int AI (l.length:Int)]),?_,?_⟩ rfl
 .have hm:(Kerb.gj (l.take i)).length<=100000000:=Zm (List.length_filter_le _ _) (by rw[List.length_take];omega);have g3:Zg ((l.getD i []).length<=140737488355328)=Yx:=by have:=hl _ (Kerb.mZ [] hi);exact Qa4 (by omega)
  try dsimp only
  simp only[↓A0,A0,Kerb.V2,Kerb.ltB hi,Kerb.aep hi,g3,Bool.and_self,Bool.and_true,Kerb.Lb (show i<=1000000000 by omega),Kerb.c6 (Kerb.gj _),List.length_singleton,Kerb.DE hm,Kerb.vU];rw[Kerb.yy hi];cases Kerb.oO (l.getD i [])<;>rfl
 .try dsimp only
  simp only[↓A0,A0,Kerb.noB,List.take_length]
 .rfl
theorem alL:Wk 181 7 T8:=by
 refine g8 Tryz.func181 λ_ _ _ h=> ?_;unfold T8 at h;split at h;case h_2=>cases h
 rename_i b;obtain⟨aI,rfl⟩:=ja h;refine jI (Zy (KL [Zq b] []) (kT λvs=>ar vs λx r=>Yd x λcs=>az cs λdS Q=>bg Q λkj O=>bg O λjK P=>bg P λlN M=>af AI M λn L=>af AI L λn I=>af AI I λn H=>dg H λE D=>ak D (af AI r λn r=>ak r (aK (n==0) (Zy (o9 [Zf 1 [Zq E]] []) λr=>aE (Zu r) (Yw 1 (Zd r) λb=>Zb (Zf 1 b,[]))) (Zy (KM [Zq b] []) (kT λvs=>ar vs λx r=>Yd x λcs=>az cs λpz C=>az C λnK N=>af AI N λn K=>bg K λuK J=>dg J λo F=>dg F λG B=>ak B (af AI r λn r=>ak r (aK (n==0) (Zy (o9 [Zf 1 [Zq o,Zq G]] []) λr=>aE (Zu r) (Yw 1 (Zd r) λb=>Zb (Zf 1 b,[]))) (Zy (Oq [Zq b] []) (kT λvs=>ar vs λx r=>Yd x λcs=>az cs λpc A=>az A λpx z=>af AI z λn v=>bg v λpd u=>dg u λy t=>dg t λq s=>af AI s λn m=>af AI m λn l=>bg l λpy k=>bg k λtd j=>ak j (af AI r λn r=>ak r (aK (n==0) (Zy (o9 [Zf 1 [Zq y,Zq q]] []) λr=>aE (Zu r) (Yw 1 (Zd r) λb=>Zb (Zf 1 b,[]))) (Zy (Ot [Zq b] []) (kT λvs=>dg vs λw r=>az r λuU r=>af AI r λn r=>ak r (aK (n==0) (Zy (o9 [Zf 1 [Zq w]] []) λr=>aE (Zu r) (Yw 1 (Zd r) λb=>Zb (Zf 1 b,[]))) (Zy (KN [Zq b] []) (kT λvs=>dg vs λuA r=>dg r λp r=>az r λuV r=>af AI r λn r=>ak r (aK (n==0) (Zy (o9 [Zf 1 [Zq p]] []) λr=>aE (Zu r) (Yw 1 (Zd r) λb=>Zb (Zf 1 b,[]))) (Zy (KO [Zq b] []) (kT λvs=>ar vs λx r=>Yd x λcs=>af AI cs λn i=>bg i λwF g=>bg g λyv f=>bg f λCj e=>af AI e λn d=>bg d λBA c=>dg c λZ AH=>bg AH λLu AJ=>bg AJ λVK AK=>dg AK λT AL=>ak AL (af AI r λn r=>ak r (aK (n==0) (Zy (o9 [Zf 1 [Zq Z,Zq T]] []) λr=>aE (Zu r) (Yw 1 (Zd r) λb=>Zb (Zf 1 b,[]))) (Zy (Ou [Zq b] []) (kT λvs=>ar vs λx r=>Yd x λcs=>af AI cs λn AM=>af AI AM λn Dy=>dg Dy λY W=>ak W (af AI r λn r=>ak r (aK (n==0) (Zy (o9 [Zf 1 [Zq Y]] []) λr=>aE (Zu r) (Yw 1 (Zd r) λb=>Zb (Zf 1 b,[]))) (Zy (Ov [Zq b] []) (kT λvs=>ar vs λx r=>Yd x λcs=>af AI cs λn V=>bg V λb U=>bg U λb X=>bg X λb S=>dg S λb R=>ak R (af AI r λn r=>ak r (aK (n==0) (Zy (o9 [Zf 1 [Zq b]] []) λr=>aE (Zu r) (Yw 1 (Zd r) λb=>Zb (Zf 1 b,[]))) (Zb (Zf 1 [],[])))))))))))))))))))))))))))))))) ?_;delta kT;dsimp only[KL,o9,KM,Oq,Ot,KN,KO,Ou,Ov,bg,dg,az,lR,af,eg,jM];have hb:=Qa3 aI;have a:Zg (b.length<=140737488355328)=Yx:=by simp;omega
 have h1:=Kerb.mU b;have h2:=Kerb.rf b;have h3:=Kerb.pC b;have h4:=Kerb.oB b;have h5:=Kerb.Ds b;have h6:=Kerb.jO b;have h7:=Kerb.ly b;have h8:=Kerb.oC b;simp only[A0,Yh,Xz,Kerb.jj.av,a];unfold Kerb.partsOf Kerb.o7;by_cases hc:(Kerb.aQ b).err=0
 .rw[ae (by simpa using hc),Qa1 hc];rw[aq (Xv (by omega))];rfl
 rw[ai (by simpa using hc),Qa0 hc];clear hc;by_cases hc:(Kerb.c7 b).err=0
 .rw[ae (by simpa using hc),Qa1 hc];rw[aq (Kerb.S5 (by omega) (by omega))];rfl
 rw[ai (by simpa using hc),Qa0 hc];clear hc;by_cases hc:(Kerb.bH b).err=0
 .rw[ae (by simpa using hc),Qa1 hc];rw[aq (Kerb.S5 (by omega) (by omega))];rfl
 rw[ai (by simpa using hc),Qa0 hc];clear hc;by_cases hc:(Kerb.gQ b).err=0
 .rw[ae (by simpa using hc),Qa1 hc];rw[aq (Xv (by omega))];rfl
 rw[ai (by simpa using hc),Qa0 hc];clear hc;by_cases hc:(Kerb.fW b).err=0
 .rw[ae (by simpa using hc),Qa1 hc];rw[aq (Xv (by omega))];rfl
 rw[ai (by simpa using hc),Qa0 hc];clear hc;by_cases hc:(Kerb.aG b).err=0
 .rw[ae (by simpa using hc),Qa1 hc];rw[aq (Kerb.S5 (by omega) (by omega))];rfl
 rw[ai (by simpa using hc),Qa0 hc];clear hc;by_cases hc:(Kerb.dc b).err=0
 .rw[ae (by simpa using hc),Qa1 hc];rw[aq (Xv (by omega))];rfl
 rw[ai (by simpa using hc),Qa0 hc];clear hc;by_cases hc:(Kerb.cT b).err=0
 .rw[ae (by simpa using hc),Qa1 hc];rw[aq (Xv (by omega))];rfl
 rw[ai (by simpa using hc),Qa0 hc];clear hc;rfl
theorem alZ:Wk 203 7 T':=by
 refine g8 Tryz.func203 λ_ _ _ h=> ?_;unfold T' at h;split at h;case h_2=>cases h
 rename_i kd k b;obtain⟨aI,rfl⟩:=ja h
 refine jI (aK (kd==1) (Zy (KR [Zq b] []) (kT λvs=>ar vs λx r=>Yd x λcs=>az cs λb f=>bg f λb d=>bg d λb e=>bg e λb c=>af AI c λn a=>af AT a λn j=>af AI j λs i=>af AI i λt m=>bg m λb l=>bg l λb o=>ak o (af AI r λp r=>ak r (aK (p==0) (Zy (xp [Zz AT n] []) λr=>aE (Zu r) (Yw 1 (Zd r) λb=>Zb (Zn [Zf 1 b,Zf 1 []],[]))) (Zb (Zn [Zf 1 [],Zf 1 []],[])))))) (aK (kd==3) (Zy (KS [Zq b,Zv Yk] []) (kT λvs=>ar vs λx r=>Yd x λcs=>af AT cs λn f=>bg f λu d=>bg d λM e=>bg e λN c=>af AI c λs a=>af AI a λt j=>dg j λE i=>af AI i λp m=>ak m (af AI r λq r=>ak r (aK (!q==0) (Zy (KS [Zq b,Zv Yx] []) (kT λvs=>ar vs λx r=>Yd x λcs=>af AT cs λn l=>bg l λb o=>bg o λb H=>bg H λb G=>af AI G λQ D=>af AI D λP C=>dg C λb B=>af AI B λO A=>ak A (af AI r λF r=>ak r (aK (F==0) (Zy (xp [Zz AT n] []) λr=>aE (Zu r) (Yw 1 (Zd r) λv=>Zy (o9 [Zf 1 [Zq b]] []) λr=>aE (Zu r) (Yw 1 (Zd r) λb=>Zb (Zn [Zf 1 v,Zf 1 b],[])))) (Zb (Zn [Zf 1 [],Zf 1 []],[])))))) (aK (q==0) (Zy (xp [Zz AT n] []) λr=>aE (Zu r) (Yw 1 (Zd r) λb=>Zy (o9 [Zf 1 [Zq E]] []) λr=>aE (Zu r) (Yw 1 (Zd r) λv=>Zb (Zn [Zf 1 b,Zf 1 v],[])))) (Zb (Zn [Zf 1 [],Zf 1 []],[]))))))) (aK (kd==7) (Zy (Ow [Zq b] []) (kT λvs=>ar vs λx r=>Yd x λcs=>bg cs λb f=>af AI f λn d=>af AI d λn e=>af AI e λn c=>af AT c λn a=>ak a (af AI r λs r=>ak r (aK (s==0) (Zy (xp [Zz AT n] []) λr=>aE (Zu r) (Yw 1 (Zd r) λb=>Zb (Zn [Zf 1 b,Zf 1 []],[]))) (Zb (Zn [Zf 1 [],Zf 1 []],[])))))) (aK (kd==8) (Zy (KT [Zq b] []) (kT λvs=>ar vs λx r=>Yd x λcs=>bg cs λb f=>af AI f λn d=>af AT d λn e=>af AI e λs c=>af AI c λt a=>af AI a λp j=>bg j λb i=>bg i λb m=>bg m λb l=>dg l λb o=>ak o (af AI r λq r=>ak r (aK (q==0) (Zy (xp [Zz AT n] []) λr=>aE (Zu r) (Yw 1 (Zd r) λu=>Zy (o9 [Zf 1 [Zq b]] []) λr=>aE (Zu r) (Yw 1 (Zd r) λb=>Zb (Zn [Zf 1 u,Zf 1 b],[])))) (Zb (Zn [Zf 1 [],Zf 1 []],[])))))) (aK (kd==9) (Zy (Ox [Zq b] []) (kT λvs=>ar vs λx r=>Yd x λcs=>bg cs λb f=>bg f λb d=>bg d λb e=>bg e λb c=>bg c λb a=>bg a λb j=>af AT j λn i=>af AI i λs m=>af AI m λt l=>af AI l λp o=>ak o (af AI r λq r=>ak r (aK (q==0) (Zy (xp [Zz AT n] []) λr=>aE (Zu r) (Yw 1 (Zd r) λb=>Zb (Zn [Zf 1 b,Zf 1 []],[]))) (Zb (Zn [Zf 1 [],Zf 1 []],[])))))) (aK (kd==10) (Zy (Oy [Zq b] []) (kT λvs=>ar vs λx r=>Yd x λcs=>af AT cs λn f=>bg f λb d=>bg d λb e=>bg e λb c=>af AI c λs a=>af AI a λt j=>dg j λb i=>ak i (af AI r λp r=>ak r (aK (p==0) (Zy (xp [Zz AT n] []) λr=>aE (Zu r) (Yw 1 (Zd r) λu=>Zy (o9 [Zf 1 [Zq b]] []) λr=>aE (Zu r) (Yw 1 (Zd r) λb=>Zb (Zn [Zf 1 u,Zf 1 b],[])))) (Zb (Zn [Zf 1 [],Zf 1 []],[])))))) (Zb (Zn [Zf 1 [],Zf 1 []],[])))))))) ?_
 delta kT;dsimp only[xp,o9,KR,KS,Ow,KT,Ox,Oy,bg,dg,az,lR,af,eg,jM];have hb:=Qa3 aI;have w:Zg (b.length<=140737488355328)=Yx:=by simp;omega
 have k1:=Kerb.iw b;have k2:=Kerb.k_ b;have k3:=Kerb.gx b;have K:=Kerb.iH b;have J:=Kerb.vf b;have I:=Kerb.ud b;have t2:=Kerb.lW b;have t4:=Kerb.jb b;have t6:=Kerb.k9 b;have u2:∀ li,(Kerb.aX b li).val.aB.length<=70368744177664:=λli=>Zm (t2 li) (by omega);have z:(Kerb.aV b).val.aB.length<=70368744177664:=Zm t4 (by omega);have y:(Kerb.bA b).val.record.length<=70368744177664:=Zm t6 (by omega);simp only[A0,Yh,Xz,Kerb.jj.av,w,k1,k2,k3,K,J,I,Qb3,Bool.and_self,Xv (u2 _),Xv z,Xv y];unfold Kerb.h_;simp only;by_cases hq:kd=1
 .rw[ae (by simpa using hq),Qa1 hq];by_cases g:(Kerb.aW b).err=0
  .rw[ae (by simpa using g),Qa1 g];rfl
  .rw[ai (by simpa using g),Qa0 g];rfl
 rw[ai (by simpa using hq),Qa0 hq];clear hq;by_cases hq:kd=3
 .rw[ae (by simpa using hq),Qa1 hq];by_cases g:(Kerb.aX b Yk).err=0
  .simp only[g,Qb1,Bool.not_true,eA,gO,if_true];rfl
  .have L:((Kerb.aX b Yk).err==0)=Yk:=by simpa using g
   simp only[L,Bool.not_false,gO,Qa0 g];by_cases g2:(Kerb.aX b Yx).err=0
   .rw[ae (by simpa using g2),Qa1 g2];rfl
   .rw[ai (by simpa using g2),Qa0 g2];rfl
 rw[ai (by simpa using hq),Qa0 hq];clear hq;by_cases hq:kd=7
 .rw[ae (by simpa using hq),Qa1 hq];by_cases g:(Kerb.ck b).err=0
  .rw[ae (by simpa using g),Qa1 g];rfl
  .rw[ai (by simpa using g),Qa0 g];rfl
 rw[ai (by simpa using hq),Qa0 hq];clear hq;by_cases hq:kd=8
 .rw[ae (by simpa using hq),Qa1 hq];by_cases g:(Kerb.aV b).err=0
  .rw[ae (by simpa using g),Qa1 g];rfl
  .rw[ai (by simpa using g),Qa0 g];rfl
 rw[ai (by simpa using hq),Qa0 hq];clear hq;by_cases hq:kd=9
 .rw[ae (by simpa using hq),Qa1 hq];by_cases g:(Kerb.bz b).err=0
  .rw[ae (by simpa using g),Qa1 g];rfl
  .rw[ai (by simpa using g),Qa0 g];rfl
 rw[ai (by simpa using hq),Qa0 hq];clear hq;by_cases hq:kd=10
 .rw[ae (by simpa using hq),Qa1 hq];by_cases g:(Kerb.bA b).err=0
  .rw[ae (by simpa using g),Qa1 g];rfl
  .rw[ai (by simpa using g),Qa0 g];rfl
 rw[ai (by simpa using hq),Qa0 hq];clear hq;rfl
theorem w68:Wk 68 8 UF:=by
 refine g8 Tryz.func68 λ_ _ _ h=> ?_;unfold UF at h;split at h;case h_2=>cases h
 rename_i els;obtain⟨aI,rfl⟩:=ja h;refine Fh [0] (Zy (F5 [Zz AT (Zw AT (Zj els:Int))] []) (kI AI λn=>Zy (F4 [AV.bL 0 55 1,Zz AI 0,Zz AI (Zj els:Int),Zz AI n] [(0,els)]) λr=>aJ (Zu r) λx a=>aE a (AV.gJ (Zd r) λvs=>ak vs (Zb (Zn [],[x]))))) ?_;delta kI;dsimp only[F4,F5,bg,dg,az,lR,af,eg,jM];simp only[Zk,Qa2] at aI;obtain⟨hZ,hlen⟩:=aI;obtain⟨d,rfl,hd⟩:=Kerb.nr hZ;simp only[Yp] at hlen ⊢;rw[Kerb.QP (by omega) (by omega),aq (by rw[Kerb.N_];simp;omega)];simp only[↓gu,↓fB,↓bW,↓cG,↓hU,↓lT,↓dx,↓dP,↓dA];rw[Kerb.C6];have hb:=Kerb.ab0 hlen;rw[aq (by simp only[Yf,Yn,Yp,Zk,Qa2,Qa9,Qa8];omega)];simp only[↓gu,↓fB,↓bW,↓cG,↓hU,↓lT,↓dx,↓dP,↓dA];rw[Kerb.QI]
theorem als:Nr Tryz.prog G 133 8 [.other] F1:=by
 refine⟨λxs bl=> ?_,Tryz.f133,Tryz.func133,by decide +kernel,rfl,λa xs bl r h=> ?_⟩
 .cases h:F1 0 xs bl with
  | none=>rfl
  | some r =>
   unfold F1 at h;split at h
   .obtain⟨aI,_⟩:=aC h;simp only[Zk,Qa2] at aI;omega
   .cases h
 unfold F1 at h;split at h
 .rename_i ks bs;obtain⟨aI,h2⟩:=aC h;cases h2;show rV ((G.cut 133 8 [.other] (F1 a)).env 133 9) G.rts (G.own 133) Tryz.f133 _ _ []=_;refine Qb2 (b:=(Kerb.GF a ks bs:Option (AV×aO))) (by kernel_rfl) ?_;simp only[Zk,Qa2] at aI;obtain⟨s,rfl,rfl,hs⟩:=Kerb.xg aI.1;have hd:=aI.2;rw[Kerb.gS] at hd ⊢;exact Kerb.LF hs (by omega)
 .cases h
theorem alY:Nr Tryz.prog G 201 8 [.other,.c4] F2:=by
 refine⟨λxs bl=> ?_,Tryz.f201,Tryz.func201,by decide +kernel,rfl,λa xs bl r h=> ?_⟩
 .cases h:F2 0 xs bl with
  | none=>rfl
  | some r =>
   unfold F2 at h;split at h
   .obtain⟨aI,_⟩:=aC h;simp only[Zk,Qa2] at aI;omega
   .cases h
 unfold F2 at h;split at h
 .rename_i ks bs b;obtain⟨aI,h2⟩:=aC h;cases h2;show rV ((G.cut 201 8 [.other,.c4] (F2 a)).env 201 9) G.rts (G.own 201) Tryz.f201 _ _ []=_;refine Qb2 (b:=(Kerb.acj a ks bs b:Option (AV×aO))) (by kernel_rfl) ?_;simp only[Zk,Qa2] at aI;obtain⟨s,rfl,rfl,hs⟩:=Kerb.xg aI.1.1;rw[Kerb.gS];exact Kerb.W7 hs aI.1.2 (by have:=aI.2;omega)
 .cases h
theorem amG:Wk 310 8 zP:=by
 refine g8 Tryz.func310 λ_ _ _ h=> ?_;unfold zP at h;split at h;case h_2=>cases h
 rename_i b pos;obtain⟨aI,rfl⟩:=ja h;refine jI (Zy (bh (λst=>dg st λb r=>af AI r λn r=>bg r λv r=>bg r λt r=>bg r λp r=>af AI r λw r=>af AI r λu r=>bg r λm r=>bg r λl r=>bg r λA r=>af AI r λf r=>af AI r λc r=>ak r (aK (Zg (c<f)) (ax (Zg (0<=c)&&Zg (c<(↑(Zj [0,1,2]):Int))&&Yx) (aK (Nat.beq (Zh c) 0) (Zy (xu [Zq b,Zz AI n] []) (kT λvs=>bg vs λk r=>af AI r λn r=>af AI r λo r=>ak r (aK (!o==0) (Zb (Sum.inr (Ex.ret,[Zq b,Zz AI n,Zx [],Zx [],Zx [],Zz AI 0,Zz AI o,Zx k,Zx l,Zx A,Zz AI f,Zz AI c]))) (Zb (Xw [Zq b,Zz AI n,Zx v,Zx t,Zx p,Zz AI w,Zz AI u,Zx k,Zx l,Zx A,Zz AI f,Zz AI (Zw AI (c+1))]))))) (aK (Nat.beq (Zh c-1) 0) (Zy (xu [Zq b,Zz AI n] []) (kT λvs=>bg vs λk r=>af AI r λn r=>af AI r λo r=>ak r (aK (!o==0) (Zb (Sum.inr (Ex.ret,[Zq b,Zz AI n,Zx [],Zx [],Zx [],Zz AI 0,Zz AI o,Zx m,Zx k,Zx A,Zz AI f,Zz AI c]))) (Zb (Xw [Zq b,Zz AI n,Zx v,Zx t,Zx p,Zz AI w,Zz AI u,Zx m,Zx k,Zx A,Zz AI f,Zz AI (Zw AI (c+1))]))))) (aK (Nat.beq (Zh c-1-1) 0) (Zy (xu [Zq b,Zz AI n] []) (kT λvs=>bg vs λk r=>af AI r λn r=>af AI r λo r=>ak r (aK (!o==0) (Zb (Sum.inr (Ex.ret,[Zq b,Zz AI n,Zx [],Zx [],Zx [],Zz AI 0,Zz AI o,Zx m,Zx l,Zx k,Zz AI f,Zz AI c]))) (Zb (Xw [Zq b,Zz AI n,Zx v,Zx t,Zx p,Zz AI w,Zz AI u,Zx m,Zx l,Zx k,Zz AI f,Zz AI (Zw AI (c+1))]))))) none)))) (Zb (Sum.inr (Ex.exit 0,[Zq b,Zz AI n,Zx v,Zx t,Zx p,Zz AI w,Zz AI u,Zx m,Zx l,Zx A,Zz AI f,Zz AI c]))))) [Zq b,Zz AI pos,Zx [],Zx [],Zx [],Zz AI 0,Zz AI 0,Zx [],Zx [],Zx [],Zz AI (↑(Zj [0+0,0+1,0+2]):Int),Zz AI 0]) λ(r:Ex×List AV)=>dg (Zu r) λb N=>af AI N λn L=>bg L λb M=>bg M λv J=>bg J λt I=>af AI I λw F=>af AI F λu E=>bg E λp D=>bg D λm C=>bg C λl K=>af AI K λf H=>af AI H λc G=>ak G (kJ r.1 (Zb (Zn [Yz [Zx b,Zx v,Zx t],Zz AI w,Zz AI u],[])) λj=>aK (Nat.beq j 0) (Zy (OD [Yz [Zx p,Zx m,Zx l]] []) (kL λb=>aK (!b) (Zb (Zn [Yz [Zx [],Zx [],Zx []],Zz AI 0,Zz AI 103],[])) (Zb (Zn [Yz [Zx p,Zx m,Zx l],Zz AI n,Zz AI 0],[])))) none)) ?_;delta kT kL;dsimp only[xu,OD,bg,dg,az,lR,af,eg,jM];have hb:=Qa3 aI;obtain⟨a,B⟩:∃ T,T=Kerb.text b pos:=⟨_,rfl⟩;obtain⟨d,s⟩:∃ T,T=Kerb.text b a.next:=⟨_,rfl⟩;obtain⟨e,q⟩:∃ T,T=Kerb.text b d.next:=⟨_,rfl⟩;have hp:Xy b pos=if a.err≠0 then⟨Kerb.bN,0,a.err⟩ else if d.err≠0 then⟨Kerb.bN,0,d.err⟩ else if e.err≠0 then⟨Kerb.bN,0,e.err⟩
   else if Kerb.bQ.valid ⟨a.val,d.val,e.val⟩ then⟨⟨a.val,d.val,e.val⟩,e.next,0⟩ else⟨Kerb.bN,0,103⟩:=by
  rw[q,s,B];rfl
 have k0:=Kerb.ez b pos;rw[<-B] at k0;have k1:=Kerb.ez b a.next;rw[<-s] at k1;have k2:=Kerb.ez b d.next;rw[<-q] at k2;refine bS (λi:Nat=>match i with
   | 0=>[Zq b,Zz Zp pos,Zx [],Zx [],Zx [],Zz Zp 0,Zz Zp 0,Zx [],Zx [],Zx [],Zz Zp 3,Zz Zp 0]
   | 1=>[Zq b,Zz Zp a.next,Zx [],Zx [],Zx [],Zz Zp 0,Zz Zp 0,Zx a.val,Zx [],Zx [],Zz Zp 3,Zz Zp 1]
   | 2=>[Zq b,Zz Zp d.next,Zx [],Zx [],Zx [],Zz Zp 0,Zz Zp 0,Zx a.val,Zx d.val,Zx [],Zz Zp 3,Zz Zp 2]
   | _=>[Zq b,Zz Zp e.next,Zx [],Zx [],Zx [],Zz Zp 0,Zz Zp 0,Zx a.val,Zx d.val,Zx e.val,Zz Zp 3,Zz Zp 3])
  (λi=>i<=3/\(1<=i->a.err=0)/\(2<=i->d.err=0)/\(3<=i->e.err=0)) (λi=>3-i)
  (λr=>(a.err=0/\d.err=0/\e.err=0/\r=(Ex.exit 0,[Zq b,Zz Zp e.next,Zx [],Zx [],Zx [],Zz Zp 0,Zz Zp 0,Zx a.val,Zx d.val,Zx e.val,Zz Zp 3,Zz Zp 3])) \/
   ∃ n x y z i,Xy b pos=⟨Kerb.bN,0,(Xy b pos).err⟩/\r=(Ex.ret,[Zq b,Zz Zp n,Zx [],Zx [],Zx [],Zz Zp 0,Zz Zp (Xy b pos).err,Zx x,Zx y,Zx z,Zz Zp 3,Zz Zp i])) 0 ⟨by omega,by omega,by omega,by omega⟩ rfl ?_ ?_
 .rintro i ⟨hi,g0,g1,g2⟩;have hc:i=0\/i=1\/i=2\/i=3:=by omega
  rcases hc with rfl | rfl | rfl | rfl
  .simp only[A0];rw[ae (by decide),aq (by decide),ae (by decide),aq aI,<-B];by_cases h:a.err=0
   .rw[ai (by simp[h])];exact⟨_,rfl,1,rfl,⟨by omega,λ_=>h,by omega,by omega⟩,by dsimp only;omega⟩
   .rw[ae (by simpa using h)];exact⟨_,rfl,.inr ⟨_,_,_,_,_,by rw[hp,Qa1 h],by rw[hp,Qa1 h]⟩⟩
  .simp only[A0];have g:=g0 (by omega);rw[ae (by decide),aq (by decide),ai (by decide),ae (by decide),aq aI,<-s];by_cases h:d.err=0
   .rw[ai (by simp[h])];exact⟨_,rfl,2,rfl,⟨by omega,λ_=>g,λ_=>h,by omega⟩,by dsimp only;omega⟩
   .rw[ae (by simpa using h)];exact⟨_,rfl,.inr ⟨_,_,_,_,_,by rw[hp,Qa0 (by simp[g]),Qa1 h],by rw[hp,Qa0 (by simp[g]),Qa1 h]⟩⟩
  .simp only[A0];have g:=g0 (by omega);have e1:=g1 (by omega);rw[ae (by decide),aq (by decide),ai (by decide),ai (by decide),ae (by decide),aq aI,<-q];by_cases h:e.err=0
   .rw[ai (by simp[h])];exact⟨_,rfl,3,rfl,⟨by omega,λ_=>g,λ_=>e1,λ_=>h⟩,by dsimp only;omega⟩
   .rw[ae (by simpa using h)];exact⟨_,rfl,.inr ⟨_,_,_,_,_,by rw[hp,Qa0 (by simp[g]),Qa0 (by simp[e1]),Qa1 h],by rw[hp,Qa0 (by simp[g]),Qa0 (by simp[e1]),Qa1 h]⟩⟩
  .simp only[A0];rw[ai (by decide)];exact⟨_,rfl,.inl ⟨g0 (by omega),g1 (by omega),g2 (by omega),rfl⟩⟩
 .rintro r (⟨g,e1,e2,rfl⟩ | ⟨n,x,y,z,i,h,rfl⟩)
  .simp only[A0];rw[ae (Nat.beq_refl _),aq (by simp;omega),hp,Qa0 (by simp[g]),Qa0 (by simp[e1]),Qa0 (by simp[e2])];cases hv:Kerb.bQ.valid ⟨a.val,d.val,e.val⟩
   .rfl
   .rfl
  .simp only[A0];rw[h];rfl
theorem w45:Wk 45 9 acF:=by
 refine g8 Tryz.func45 λ_ _ _ h=> ?_;unfold acF at h;split at h;case h_2=>cases h
 rename_i l k;obtain⟨aI,rfl⟩:=ja h;refine jI (let t1:List AV:=[Zf 1 l,Zf 1 [Zz AT k]];let t0:Int:=(Zj t1:Int);ax (Zg (0<t0)&&Yx) (Yw 1 (Yb t1 (Zh 0) Xx) λb=>let t2:Int:=Zw AI (0+(Zj b:Int));aK (Zg (t2<0)) none (ax (Zg (Zw AI (0+1)<t0)&&Yx) (Yw 1 (Yb t1 (Zh (Zw AI (0+1))) Xx) λb=>aK (Zg (Zw AI (t2+(Zj b:Int))<0)) none (Zy (Ky [AV.bJ,Zz AI (Zw AI (t2+(Zj b:Int)))] []) λr=>aE (Zu r) (AV.aS (Zd r) λl=>ax (Zg (0<t0)&&Yx) (Yw 1 (Yb t1 (Zh 0) Xx) λb=>ax (room (Zj l+Zj b) (nat_lit 8)) (ax (Zg (Zw AI (0+1)<t0)&&Yx) (Yw 1 (Yb t1 (Zh (Zw AI (0+1))) Xx) λc=>ax (room (Zj (l++b)+Zj c) (nat_lit 8)) (ax (Nat.blt 0 (Zj (l++b++c))) (Zy (UF [AV.bL 0 55 (TI.size (TI.mk 1 8 (TK.int AT) [Zz AT 0] [CT.int AT] [CT.int AT]))] [(0,l++b++c)]) λr=>aJ (Zu r) λx f=>aE f (AV.gJ (Zd r) λvs=>ak vs (aK (Zg ((Zj x:Int)<2)) (Zb (Yq x,[])) (Zy (bh (λl=>ar l λx_1 r=>Ym AI x_1 λn=>ak r (aK (Zg (n<(Zj x:Int))) (ax (Zg (0<=n)&&Zg (n<(Zj x:Int))&&Yx) (ax (Nat.blt (Zh n) (Zj x)&&Yx) (Ym AT (Yb x (Zh n) Xx) λm=>ax (Zg (0<=Zw AI (n-1))&&Zg (Zw AI (n-1)<(Zj x:Int))&&Yx) (ax (Nat.blt (Zh (Zw AI (n-1))) (Zj x)&&Yx) (Ym AT (Yb x (Zh (Zw AI (n-1))) Xx) λg=>aK (m==g) (ax (Zg (0<=n)&&Zg (n<=(Zj x:Int))&&Zg ((Zj x:Int)<=(Zj x:Int))) none) (Zb (Xw [Zz AI (Zw AI (n+1))]))))))) (Zb (Sum.inr (Ex.exit 0,[Zz AI n]))))) [Zz AI 1]) λ(r:Ex×List AV)=>ar (Zu r) λx_1 e=>Ym AI x_1 λn=>ak e (kJ r.1 none λj=>aK (Nat.beq j 0) (Zb (Yq x,[])) none))))))))))))))) ?_;dsimp only[UF,Ky,bg,dg,az,lR,af,eg,jM];simp only[Zk,Qa2] at aI;obtain⟨⟨hZ,a⟩,hlen⟩:=aI;rw[aq (by simp)];simp only[show Zw AI (1:Int)=1 from by decide,show Zh (1:Int)=1 from rfl,Int.toNat_zero,List.getD_cons_zero,List.getD_cons_succ,List.length_cons,List.length_nil,List.nil_append,Int.zero_add,Nat.zero_add,↓sSl];rw[show Zw AI ((l.length:Int))=((l.length:Nat):Int) from(Kerb.im (by omega) (by omega)).trans (by omega)];rw[ai (by simp<;>omega),aq (by simp),show Zw AI ((l.length:Int)+((1:Nat):Int))=((l.length+1:Nat):Int) from(Kerb.im (by omega) (by omega)).trans (by omega)];rw[ai (by simp<;>omega),aq (by simp<;>omega)];simp only[↓gu,↓fB,↓bW,↓cG,↓hU,↓lT,↓dx,↓dP,↓dA];simp only[List.length_nil,List.nil_append,Nat.zero_add];rw[aq (by simp),aq (Kerb.Og (by omega)),aq (by simp),aq (Kerb.Og (by omega)),aq (by simp),aq (by simp only[Kerb.all_join hZ,Bool.true_and,Qa2,List.length_append,List.length_cons,List.length_nil];omega)];simp only[↓gu,↓fB,↓bW,↓cG,↓hU,↓lT,↓dx,↓dP,↓dA];rw[show Kerb.Bo (l++[Zz AT k])=Kerb.Ej l k from rfl];have hz:=Kerb.Rg (k:=k) hZ;obtain⟨d,hd⟩:=Kerb.OY l k;rw[hd] at hz a ⊢;simp only[Yp] at hz ⊢;by_cases h2:d.size<2
 .rw[ae (by simp;omega)]
 rw[ai (by simp;omega)];refine bS (λi:Nat=>[Zz AI (i:Int)]) (λi=>1<=i/\i<=d.size) (λi=>d.size-i) (λr=>∃ n,r=(.exit 0,[Zz AI n])) 1 ⟨Nat.le_refl _,by omega⟩ rfl ?_ ?_
 .rintro i ⟨h1,hi⟩;simp only[↓bW,↓cG,↓dx,↓dP,↓dA];by_cases hc:i<d.size;case neg =>
   rw[ai (by simp;omega)];exact⟨_,rfl,_,rfl⟩
  have g2:i-1<d.size:=by omega
  rw[ae (by simp;omega)];simp only[show Zw AI ((i:Int)-1)=((i-1:Nat):Int) from(Kerb.im (by omega) (by omega)).trans (by omega)];have r1:=Kerb.qk hc;have r2:=Kerb.qk g2;simp only[Int.toNat_natCast,r1,r2,↓dx];have fR:=Kerb.Rs a (i:=i-1) (by omega);rw[show i-1+1=i by omega] at fR;rw[aq (by simp;omega),aq (by simp;omega),aq (by simp;omega),aq (by simp;omega),ai (by simp;omega),show Zw AI ((i:Int)+1)=((i+1:Nat):Int) from(Kerb.im (by omega) (by omega)).trans (by omega)];exact⟨_,rfl,i+1,rfl,⟨by omega,by omega⟩,by dsimp only;omega⟩
 .rintro _ ⟨n,rfl⟩;simp only[↓bW,↓cG,↓dx,↓dA,↓lP];rw[ae (Nat.beq_refl _)]
theorem w85:Wk 85 9 lJ:=by
 refine g8 Tryz.func85 λ_ _ _ h=> ?_;unfold lJ at h;split at h;case h_2=>cases h
 rename_i ks bs k;obtain⟨aI,rfl⟩:=ja h;refine jI (Zy (ax (Zg (0<=k)&&Zg (k<18446744073709551616)) (Zb (Zf 1 (Kerb.bM (Kerb.dK [k])),[]))) λr=>aE (Zu r) (Yw 1 (Zd r) λb=>Zy (ax (Kerb.cK ks bs&&Kerb.cM b&&Yx&&Zg (Zj b<=1000)&&Yx&&Yx) (Zb (Zn [Yz [Zf 1 (Kerb.bM (Kerb.Kn.keys (Kerb.Kn.add (Xj ks bs) (Kerb.Bv.mk (Kerb.cu b) (Kerb.fO []))))),Zf 1 (Xu (Kerb.Kn.boxes (Kerb.Kn.add (Xj ks bs) (Kerb.Bv.mk (Kerb.cu b) (Kerb.fO [])))))],Zv !Kerb.Kn.has (Xj ks bs) (Kerb.Bv.mk (Kerb.cu b) (Kerb.fO []))],[]))) (kT λvs=>ar vs λx r=>Yd x λcs=>eg 1 cs λb g=>eg 1 g λc f=>ak f (az r λi r=>ak r (Zy (ax (Kerb.cK b c) (Zb (Yz [Zf 1 (Kerb.bM (Kerb.Kn.keys (Kerb.close (Xj b c)))),Zf 1 (Xu (Kerb.Kn.boxes (Kerb.close (Xj b c))))],[]))) (kA λcs=>eg 1 cs λb r=>eg 1 r λe r=>ak r (Zb (Yz [Zf 1 b,Zf 1 e],[])))))))) ?_;delta kT kA;dsimp only[az,eg];simp only[Zk,Qa2] at aI;obtain⟨⟨⟨a,k0⟩,k1⟩,hm⟩:=aI;have d:(Zg (0<=k)&&Zg (k<18446744073709551616))=Yx:=by simp[k0,k1]
 obtain⟨s,rfl,rfl,hs⟩:=Kerb.xg a;rw[Kerb.gS] at hm;have hp:=Kerb.o_ k;have hf:=Kerb.zl.2 (hs.Mh (k:=k) hm);simp only[A0,Yh,Xz,Kerb.jj.av,d,a,Kerb.gS,Kerb.jE,Kerb.pY,Kerb.dp,show Kerb.fO []=[] from rfl,hf];rw[aq (by simp;omega)];rfl
theorem alj:Wk 116 9 gT:=by
 refine g8 Tryz.func116 λ_ _ _ h=> ?_;unfold gT at h;split at h;case h_2=>cases h
 rename_i ks bs b;obtain⟨aI,rfl⟩:=ja h;refine jI (Zy (ax (Zg (Zj b<=70368744170000)) (Zb (Zf 1 (Xu (Kerb.partsOf b)),[]))) λr=>aE (Zu r) (Yw 1 (Zd r) λb=>Zy (ax (Kerb.cK ks bs&&Yx&&Kerb.ua b&&Yx&&Zg (Zj b<=1000)&&List.all (Kerb.fO b) λ(b:Kerb.Bytes)=>Zg (Zj b<=140737488355328)) (Zb (Zn [Yz [Zf 1 (Kerb.bM (Kerb.Kn.keys (Kerb.Kn.add (Xj ks bs) (Kerb.Bv.mk (Kerb.cu []) (Kerb.fO b))))),Zf 1 (Xu (Kerb.Kn.boxes (Kerb.Kn.add (Xj ks bs) (Kerb.Bv.mk (Kerb.cu []) (Kerb.fO b)))))],Zv !Kerb.Kn.has (Xj ks bs) (Kerb.Bv.mk (Kerb.cu []) (Kerb.fO b))],[]))) (kT λvs=>ar vs λx r=>Yd x λcs=>eg 1 cs λb g=>eg 1 g λd f=>ak f (az r λi r=>ak r (Zy (ax (Kerb.cK b d) (Zb (Yz [Zf 1 (Kerb.bM (Kerb.Kn.keys (Kerb.close (Xj b d)))),Zf 1 (Xu (Kerb.Kn.boxes (Kerb.close (Xj b d))))],[]))) (kA λcs=>eg 1 cs λb r=>eg 1 r λe r=>ak r (Zb (Yz [Zf 1 b,Zf 1 e],[])))))))) ?_;delta kT kA;dsimp only[az,eg];simp only[Zk,Qa2] at aI;obtain⟨a,hm⟩:=aI;obtain⟨s,rfl,rfl,hs⟩:=Kerb.xg a;rw[Kerb.gS] at hm;have c:Zg (b.length<=70368744170000)=Yx:=by simp;omega
 have hp:=Kerb.lh b;have hf:=Kerb.zl.2 (hs.parts hm);have h9:(Kerb.partsOf b).all (λb=>Zg (b.length<=140737488355328))=Yx:=List.all_eq_true.2 λx hx=>Qa4 (by have:=hp.1 x hx;omega);simp only[A0,Yh,Xz,Kerb.jj.av,h9,c,a,Kerb.gS,Kerb.lK,Kerb.zW,Kerb.c6,show Kerb.cu []=[] from rfl,hf];rw[aq (by simp;omega)];rfl
theorem alp:Wk 130 9 ik:=by
 refine g8 Tryz.func130 λ_ _ _ h=> ?_;unfold ik at h;split at h;case h_2=>cases h
 rename_i ks bs b;obtain⟨aI,rfl⟩:=ja h;refine jI (Kerb.aay ks bs b) ?_;simp only[Zk,Qa2] at aI;obtain⟨s,rfl,rfl,hs⟩:=Kerb.xg aI.1;rw[Kerb.gS];exact Kerb.VN hs aI.2
theorem al8:Wk 238 9 Ue:=by
 refine g8 Tryz.func238 λ_ _ _ h=> ?_;unfold Ue at h;split at h;case h_2=>cases h
 rename_i b;obtain⟨aI,rfl⟩:=ja h;refine jI (let t1:AV:=Yz [Zv Yk,Zx [],Zx [],Zx [],Zz AI 0,Zz AI 0,Zz AI 0,Zq []];let t2:List AV:=[Zv (Zd (Kerb.aR b [2]))];let t0:Option (AV×aO):=Zb (Zn [t1,Zz AI 100],[]);aK (!Zu (Kerb.aR b [2])==0) (Zb (Zn [t1,Zz AI (Zu (Kerb.aR b [2]))],[])) (Zy (zP [Zq b,Zz AI 2] []) (kT λvs=>ar vs λx r=>Yd x λcs=>bg cs λt q=>bg q λg o=>bg o λk p=>ak p (af AI r λn r=>af AI r λD r=>ak r (Zy (xr (Zq b::Zz AI n::t2) []) (kT λvs=>af AI vs λn r=>af AI r λs r=>af AI r λB r=>ak r (Zy (uu [Zq b,Zz AI s] []) (kT λvs=>af AI vs λC r=>af AI r λu r=>af AI r λA r=>ak r (Zy (xr (Zq b::Zz AI u::t2) []) (kT λvs=>af AI vs λm r=>af AI r λi r=>af AI r λw r=>ak r (Zy (uu [Zq b,Zz AI i] []) (kT λvs=>af AI vs λc r=>af AI r λj r=>af AI r λy r=>ak r (Zy (Oz (Zq b::Zz AI j::t2) []) (kT λvs=>af AI vs λl r=>af AI r λv r=>af AI r λz r=>ak r (Zy (xt [Zq b,Zz AI v,Zz AI l] []) (kT λvs=>dg vs λf r=>let t3:AV:=Yz [Zv (Zd (Kerb.aR b [2])),Zx t,Zx g,Zx k,Zz AI n,Zz AI m,Zz AI c,Zq f];af AI r λn r=>af AI r λn r=>ak r (Zy (OA [t3] []) (kT λvs=>dg vs λd r=>af AI r λn r=>ak r (aK (!n==0) t0 (aK (!d==b) t0 (Zb (Zn [t3,Zz AI 0],[])))))))))))))))))))))) ?_;delta kT;dsimp only[zP,xr,uu,Oz,xt,OA,bg,dg,az,lR,af,eg,jM];have hb:=Qa3 aI;have a:Zg (b.length<=4611686018427387904)=Yx:=by simp;omega
 simp only[A0];unfold Kerb.aQ;by_cases h:(Kerb.aR b [2]).2=0
 .have l1:=Kerb.gK b 2;rw[ai (by simp[h]),aq a,aq a,aq a,aq a,aq a,aq a,aq aI,aq (by simp;omega),Qa0 (by simpa using h)];obtain⟨R,hR⟩:∃ R,R=Kerb.iZ b:=⟨_,rfl⟩;have e:=hR.symm;unfold Kerb.iZ at e;dsimp only at e;have e2:Kerb.jx.mk (Kerb.aR b [2]).1 (Kerb.bQ.mk (Xy b 2).val.name (Xy b 2).val.inst (Xy b 2).val.aA) _ _ _ _=R:=e;rw[e2,<-hR];by_cases h1:(Kerb.bc R).err=0
  .rw[ai (by simp[h1])];by_cases h2:(Kerb.bc R).val=b
   .rw[ai (by simp[h2]),Qa0 (by simp[h1,h2]),hR];rfl
   .rw[ae (by simpa using h2),Qa1 (.inr h2)];rfl
  .rw[ae (by simpa using h1),Qa1 (.inl h1)];rfl
 .rw[ae (by simpa using h),Qa1 h];rfl
theorem amX:Wk 327 9 Ug:=by
 refine g8 Tryz.func327 λ_ _ _ h=> ?_;unfold Ug at h;split at h;case h_2=>cases h
 rename_i op f e d i rl tk g ins bx;obtain⟨aI,rfl⟩:=ja h;refine jI (Zy (OE [Yz [Zz AI op,Zx f,Zx e,Zx d,Zz AI i,Zx rl,Zq tk,Zx g,Zx ins,Zq bx]] []) (kI AI λn=>aK (!n==0) (Zb (Zn [Zq [],Zz AI n],[])) (aK (op==2) (Zy (zQ [Zq (Kerb.header 9 Yk++Kerb.aD op 1 Yk),Zz AI i] []) (kO λl=>Zy (F_ [Zq l,Zx rl] []) (kO λl=>Zy (DX [Zq l,Zq tk] []) (kB λb=>Zy (F_ [Zq b,Zx g] []) (kO λl=>Zy (F_ [Zq l,Zx ins] []) (kO λl=>Zy (F' [Zq l,Zq bx] []) (kB λb=>Zb (Zn [Zq b,Zz AI 0],[])))))))) (Zy (F9 [Zq (Kerb.header 9 Yk++Kerb.aD op 1 Yk),Yz [Zx f,Zx e,Zx d]] []) (kO λl=>Zy (F' [Zq l,Zq bx] []) (kB λb=>Zb (Zn [Zq b,Zz AI 0],[]))))))) ?_;delta kB kO kI;dsimp only[F9,zQ,F_,OE,DX,F',bg,dg,az,lR,af,eg,jM];have j:=aI;simp only[Zk,Qa2] at aI;simp only[A0];rw[aq j];by_cases he:(Kerb.aH (Kerb.df.mk op ⟨f,e,d⟩ i rl tk g ins bx)).err=0;case neg =>
  rw[ae (by simpa using he),Kerb.I6 he]
 rw[ai (by simp[he]),he];have a:(Kerb.header 9 Yk).length=2:=rfl;rcases Kerb.pE he with⟨c,v1,v2,v3,hk,ht,hb,hu,hv⟩ | ⟨c,v1,hb,hk,hr,ht,hs,hn,hv⟩
 .have l1:=Kerb.iM v1;have l2:=Kerb.jr v2;have l3:=Kerb.il v3;simp only at c l1 l2 l3 ht hb;rw[ae (by simpa using c),hv];rw[aq (by simp[Yg,a]),aq (by simp[Yg,a];omega),aq (by simp[Yg,a,Kerb.gN];omega),aq (by simp[Yg,a,Kerb.gN,Kerb.jg];omega),aq (by simp[Yg,a,Kerb.gN,Kerb.jg];omega),aq (by simp[Yg,a,Kerb.gN,Kerb.jg];omega)];simp[Kerb.gL,Kerb.cX,Kerb.jg]
 .have l1:=Kerb.fZ v1;simp only at c l1 hb;rw[ai (by simp;omega),hv];rw[aq (by simp[Yg,a];omega),aq (by simp[Yg,a,Kerb.gM];omega)];simp[Kerb.gL,Kerb.cX,Kerb.cV]
theorem anJ:Wk 393 9 Ga:=by
 refine g8 Tryz.func393 λ_ _ _ h=> ?_;unfold Ga at h;split at h;case h_2=>cases h
 rename_i b By;obtain⟨aI,rfl⟩:=ja h;refine jI (let t0:Option (AV×aO):=Zb (Zn [Yz [Zz AT 0,Zx [],Zx [],Zx [],Zz AI 0,Zz AI 0,Zq [],Zz AI 0],Zz AI 100],[]);Zy (xt [Zq b,Zz AI 1,Zz AI 8] []) (kT λvs=>dg vs λu r=>af AI r λn r=>af AI r λF r=>ak r (Zy (HU [Zq u] []) (kT λvs=>af AT vs λt r=>az r λz r=>ak r (Zy (zP [Zq b,Zz AI n] []) (kT λvs=>ar vs λx r=>Yd x λcs=>bg cs λl s=>bg s λk p=>bg p λi q=>ak q (af AI r λn r=>af AI r λD r=>ak r (Zy (uu [Zq b,Zz AI n] []) (kT λvs=>af AI vs λn r=>af AI r λv r=>af AI r λE r=>ak r (Zy (uu [Zq b,Zz AI v] []) (kT λvs=>af AI vs λo r=>af AI r λm r=>af AI r λA r=>ak r (Zy (uu [Zq b,Zz AI m] []) (kT λvs=>af AI vs λf r=>af AI r λc r=>af AI r λB r=>ak r (Zy (xt [Zq b,Zz AI c,Zz AI f] []) (kT λvs=>dg vs λd r=>af AI r λj r=>af AI r λC r=>ak r (Zy (xr [Zq b,Zz AI j,Zv By] []) (kT λvs=>af AI vs λw r=>let t1:AV:=Yz [Zz AT t,Zx l,Zx k,Zx i,Zz AI n,Zz AI o,Zq d,Zz AI w];af AI r λn r=>af AI r λn r=>ak r (Zy (OL [t1,Zv By] []) (kT λvs=>dg vs λg r=>af AI r λn r=>ak r (aK (!n==0) t0 (aK (!g==b) t0 (Zb (Zn [t1,Zz AI 0],[]))))))))))))))))))))))) ?_;delta kT;dsimp only[HU,zP,xr,uu,xt,OL,bg,dg,az,lR,af,eg,jM];have hb:=Qa3 aI;have a:Zg (b.length<=4611686018427387904)=Yx:=by simp;omega
 have y:=Kerb.iu b 1 8;simp only[A0];unfold Kerb.aX;have l1:=Kerb.gK b (Xq b 1 8).next
 have l2:=Kerb.dN (Xq b 1 8).val;rw[aq aI,aq (by simp;omega),aq a,aq a,aq a,aq a,aq aI,aq a,aq (by simp;omega)];obtain⟨R,hR⟩:∃ R,R=Kerb.jh b By:=⟨_,rfl⟩;have e:=hR.symm;unfold Kerb.jh at e;dsimp only at e;have e2:Kerb.fL.mk (Kerb.dm (Xq b 1 8).val).1 (Kerb.bQ.mk (Xy b (Xq b 1 8).next).val.name (Xy b (Xq b 1 8).next).val.inst (Xy b (Xq b 1 8).next).val.aA) _ _ _ _=R:=e;rw[e2,<-hR];by_cases h1:(Kerb.bt R By).err=0
 .rw[ai (by simp[h1])];by_cases h2:(Kerb.bt R By).val=b
  .rw[ai (by simp[h2]),Qa0 (by simp[h1,h2]),hR];rfl
  .rw[ae (by simpa using h2),Qa1 (.inr h2)];rfl
 .rw[ae (by simpa using h1),Qa1 (.inl h1)];rfl
theorem an4:Wk 420 9 K2:=by
 refine g8 Tryz.func420 λ_ _ _ h=> ?_;unfold K2 at h;split at h;case h_2=>cases h
 rename_i lb t k st en a x y z tk;obtain⟨aI,rfl⟩:=ja h;refine jI (Zy (OO [Yz [Zx lb,Zz AI t,Zz AT k,Zz AI st,Zz AI en,Zz AI a,Zx x,Zx y,Zx z,Zq tk]] []) (kI AI λn=>aK (!n==0) (Zb (Zn [Zq [],Zz AI n],[])) (Zy (vR [Zq lb,Zz AI t,Zv Yk] []) (kO λl=>aK (Kerb.fh lb) (Zy (DZ [Zz AT k] []) (kB λb=>ax (room (Zj l+Zj b) 1) (Zy (vR [Zq (l++b),Zz AI st,Zv Yk] []) (kO λl=>Zy (vR [Zq l,Zz AI en,Zv Yk] []) (kO λl=>Zy (zQ [Zq l,Zz AI a] []) (kO λl=>Zy (F9 [Zq l,Yz [Zx x,Zx y,Zx z]] []) (kO λl=>Zy (DX [Zq l,Zq tk] []) (kB λb=>Zy (zS [Zq b] []) (kB λb=>Zb (Zn [Zq b,Zz AI 0],[])))))))))) (Zy (zS [Zq l] []) (kB λb=>Zb (Zn [Zq b,Zz AI 0],[]))))))) ?_;delta kB kO kI;dsimp only[F9,vR,zQ,DX,DZ,zS,OO,bg,dg,az,lR,af,eg,jM];have f:=aI;simp only[Zk,Qa2] at aI;have hk:(Zg (0<=k)&&Zg (k<18446744073709551616))=Yx:=by simp;omega
 simp only[A0,f,hk];by_cases he:(Kerb.a_ (Kerb.eW.mk lb t k st en a ⟨x,y,z⟩ tk)).err=0;case neg=>rw[ae (by simpa using he),Kerb.I5 he]
 rw[ai (by simp[he]),he];obtain⟨ht,⟨hl,e,bn,hs,d,hv,hp,hx,hb⟩ | ⟨hl,bn,hs,d,hv,hp,hx,hb⟩⟩:=Kerb.pD he
 .have l1:=Kerb.fZ hp;simp only at hl e l1 hx;rw[hb,aq (by simp;omega),ae hl];rw[aq (Kerb.ie (by simp[Yg,Kerb.bu];omega)),aq (by simp[Yg,Kerb.bu];omega),aq (by simp[Yg,Kerb.bu];omega),aq (by simp[Yg,Kerb.bu];omega),aq (by simp[Yg,Kerb.bu];omega),aq (by simp[Yg,Kerb.bu,Kerb.gM];omega),aq (by simp[Yg,Kerb.bu,Kerb.gM,Kerb.jg];omega)];simp[Kerb.jg,Kerb.cV,Kerb.cX]
 .simp only at hl;have e:lb.length=4:=by rw[hl];rfl
  have c:Kerb.fh lb=Yk:=by rw[hl];decide
  rw[hb,aq (by simp;omega),ai c,aq (by simp[Yg];omega)]
theorem amb:Wk 243 10 Uf:=by
 refine g8 Tryz.func243 λ_ _ _ h=> ?_;unfold Uf at h;split at h;case h_2=>cases h
 rename_i b;obtain⟨aI,rfl⟩:=ja h
 refine jI (let t1:AV:=Yz [Zz AI 0,Zx [],Zx [],Zx [],Zz AI 0,Zx [],Zq [],Zx [],Zx [],Zq []];let t0:Option (AV×aO):=Zb (Zn [t1,Zz AI 100],[]);aK (!Zu (Kerb.aR b [9])==0) (Zb (Zn [t1,Zz AI (Zu (Kerb.aR b [9]))],[])) (Zy (ax (Zg (Zj b<=140737488355328)) (Zb (Zz AI (Yy (Yj b 1 2 Yk)),[[Zq b,Zz AI (Yv (Yj b 1 2 Yk)),Zv (Yu (Yj b 1 2 Yk))]]))) λr=>aJ (Zu r) λx eU=>dg x λa ff=>af AI ff λn fH=>az fH λj gZ=>ak gZ (aE eU (Ym AI (Zd r) λq=>aK (q==2) (Zy (ax (Zg (Zj a<=140737488355328)) (Zb (Zz AI (Yy (Yj a 1 n j)),[[Zq a,Zz AI (Yv (Yj a 1 n j)),Zv (Yu (Yj a 1 n j))]]))) λr=>aJ (Zu r) λx N=>dg x λd K=>af AI K λn J=>az J λo H=>ak H (aE N (Ym AI (Zd r) λp=>Zy (ax (Zg (Zj d<=140737488355328)) (Zb (Zx (Yy (Kerb.lO d n o)),[[Zq d,Zz AI (Yv (Kerb.lO d n o)),Zv (Yu (Kerb.lO d n o))]]))) λr=>aJ (Zu r) λx G=>dg x λf O=>af AI O λn M=>az M λi L=>ak L (aE G (AV.fT (Zd r) λg=>Zy (ax (Zg (Zj f<=140737488355328)) (Zb (Zz AI (Yy (Yj f 1 n i)),[[Zq f,Zz AI (Yv (Yj f 1 n i)),Zv (Yu (Yj f 1 n i))]]))) λr=>aJ (Zu r) λx I=>dg x λc F=>af AI F λn E=>az E λk D=>ak D (aE I (Ym AI (Zd r) λP=>Zy (ax (Zg (Zj c<=140737488355328)) (Zb (Zq (Yy (Xk c P n k)),[[Zq c,Zz AI (Yv (Xk c P n k)),Zv (Yu (Xk c P n k))]]))) λr=>aJ (Zu r) λx rQ=>dg x λs rR=>af AI rR λn rS=>az rS λv rT=>ak rT (aE rQ (AV.dC (Zd r) λl=>Zy (ax (Zg (Zj s<=140737488355328)) (Zb (Zx (Yy (Kerb.lO s n v)),[[Zq s,Zz AI (Yv (Kerb.lO s n v)),Zv (Yu (Kerb.lO s n v))]]))) λr=>aJ (Zu r) λx x3=>dg x λm x4=>af AI x4 λn Z=>az Z λC Y=>ak Y (aE x3 (AV.fT (Zd r) λw=>Zy (ax (Zg (Zj m<=140737488355328)) (Zb (Zx (Yy (Kerb.lO m n C)),[[Zq m,Zz AI (Yv (Kerb.lO m n C)),Zv (Yu (Kerb.lO m n C))]]))) λr=>aJ (Zu r) λx X=>dg x λu W=>af AI W λn V=>az V λB U=>ak U (aE X (AV.fT (Zd r) λy=>Zy (ax (Zg (Zj u<=140737488355328)) (Zb (Zz AI (Yy (Yj u 2 n B)),[[Zq u,Zz AI (Yv (Yj u 2 n B)),Zv (Yu (Yj u 2 n B))]]))) λr=>aJ (Zu r) λx T=>dg x λt S=>af AI S λn AH=>az AH λA AJ=>ak AJ (aE T (Ym AI (Zd r) λQ=>Zy (ax (Zg (Zj t<=140737488355328)) (Zb (Zq (Yy (Xk t Q n A)),[[Zq t,Zz AI (Yv (Xk t Q n A)),Zv (Yu (Xk t Q n A))]]))) λr=>aJ (Zu r) λx AK=>dg x λwE AL=>af AI AL λn AM=>az AM λuV Dy=>ak Dy (aE AK (AV.dC (Zd r) λz=>aK uV t0 (Zy (ax (jM g&&jM w&&jM y) (Zb (Zn [Zq (Kerb.rF.val (Kerb.aH (Kerb.df.mk q (Kerb.bQ.mk [] [] []) p g l w y z))),Zz AI (Kerb.rF.err (Kerb.aH (Kerb.df.mk q (Kerb.bQ.mk [] [] []) p g l w y z)))],[]))) (kT λvs=>dg vs λR r=>af AI r λn r=>ak r (aK (!n==0) t0 (aK (!R==b) t0 (Zb (Zn [Yz [Zz AI q,Zx [],Zx [],Zx [],Zz AI p,Zx g,Zq l,Zx w,Zx y,Zq z],Zz AI 0],[]))))))))))))))))))))))) (Zy (ax (Zg (Zj a<=140737488355328)) (Zb (Yz [Zx (Kerb.bQ.name (Yy (Kerb.lZ a n j))),Zx (Kerb.bQ.inst (Yy (Kerb.lZ a n j))),Zx (Kerb.bQ.aA (Yy (Kerb.lZ a n j)))],[[Zq a,Zz AI (Yv (Kerb.lZ a n j)),Zv (Yu (Kerb.lZ a n j))]]))) λr=>aJ (Zu r) λx N=>dg x λd K=>af AI K λn J=>az J λo H=>ak H (aE N (Yd (Zd r) λcs=>bg cs λf r=>bg r λi r=>bg r λg r=>ak r (Zy (ax (Zg (Zj d<=140737488355328)) (Zb (Zz AI (Yy (Yj d 2 n o)),[[Zq d,Zz AI (Yv (Yj d 2 n o)),Zv (Yu (Yj d 2 n o))]]))) λr=>aJ (Zu r) λx G=>dg x λc O=>af AI O λn M=>az M λk L=>ak L (aE G (Ym AI (Zd r) λp=>Zy (ax (Zg (Zj c<=140737488355328)) (Zb (Zq (Yy (Xk c p n k)),[[Zq c,Zz AI (Yv (Xk c p n k)),Zv (Yu (Xk c p n k))]]))) λr=>aJ (Zu r) λx I=>dg x λs F=>af AI F λn E=>az E λv D=>ak D (aE I (AV.dC (Zd r) λl=>aK v t0 (Zy (ax (jM f&&jM i&&jM g&&Yx&&Yx&&Yx) (Zb (Zn [Zq (Kerb.rF.val (Kerb.aH (Kerb.df.mk q (Kerb.bQ.mk f i g) 0 [] [] [] [] l))),Zz AI (Kerb.rF.err (Kerb.aH (Kerb.df.mk q (Kerb.bQ.mk f i g) 0 [] [] [] [] l)))],[]))) (kT λvs=>dg vs λm r=>af AI r λn r=>ak r (aK (!n==0) t0 (aK (!m==b) t0 (Zb (Zn [Yz [Zz AI q,Zx f,Zx i,Zx g,Zz AI 0,Zx [],Zq [],Zx [],Zx [],Zq l],Zz AI 0],[])))))))))))))))))) ?_
 delta kT;try dsimp only[bg,dg,az,lR,af,eg,jM]
 have hb:=Qa3 aI;simp only[A0];by_cases h:(Kerb.aR b [9]).2=0;case neg =>
  rw[ae (by simpa using h)];unfold Kerb.aG;rw[Qa1 h];rfl
 have hd:Kerb.aG b=Kerb.dU Kerb.lD Kerb.aH Kerb.iY b:=by unfold Kerb.aG;rw[Qa0 (by simpa using h)]
 rw[ai (by simp[h]),hd];rw[aq aI];by_cases h2:(Yj b 1 2 Yk).val=2
 .have e2:((Yj b 1 2 Yk).val==2)=Yx:=by simpa using h2
  rw[ae e2];rw[aq aI,aq aI,aq aI,aq aI,aq aI,aq aI,aq aI,aq aI];have lt:=Kerb.AD b;rw[aq (by simp only[Zk,Qa2];exact⟨⟨Zm (lt _ _) (by omega),Zm (lt _ _) (by omega)⟩,Zm (lt _ _) (by omega)⟩)];exact Kerb.jz (no:=Kerb.lD) (enc:=Kerb.aH) (rd:=Kerb.iY) _ _ (by unfold Kerb.iY Kerb.Dn;dsimp only;rw[e2];rfl) (λx e=>(Zn [Yz [Zz Zp (x).op,Zx (x).user.name,Zx (x).user.inst,Zx (x).user.aA,Zz Zp (x).bj,Zx (x).aA,Zq (x).aB,Zx (x).service,Zx (x).inst,Zq (x).box],Zz Zp e],([]:aO)))
 .have e2:((Yj b 1 2 Yk).val==2)=Yk:=by simpa using h2
  rw[ai e2];rw[aq aI,aq aI,aq aI];have lt:=Kerb.qc b (Yj b 1 2 Yk).pos (Yj b 1 2 Yk).bad;rw[aq (by simp;omega)];exact Kerb.jz (no:=Kerb.lD) (enc:=Kerb.aH) (rd:=Kerb.iY) _ _ (by unfold Kerb.iY Kerb.Dn;dsimp only;rw[e2];rfl) (λx e=>(Zn [Yz [Zz Zp (x).op,Zx (x).user.name,Zx (x).user.inst,Zx (x).user.aA,Zz Zp (x).bj,Zx (x).aA,Zq (x).aB,Zx (x).service,Zx (x).inst,Zq (x).box],Zz Zp e],([]:aO)))
theorem anH:Wk 391 10 KW:=by
 refine g8 Tryz.func391 λ_ _ _ h=> ?_;unfold KW at h;split at h;case h_2=>cases h
 rename_i b;obtain⟨aI,rfl⟩:=ja h;refine jI (let t1:AV:=Yz [Zv Yk,Zx [],Zx [],Zx [],Zz AI 0,Zz AT 0,Zz AI 0,Zz AI 0,Zx [],Zx []];let t0:Option (AV×aO):=Zb (Zn [t1,Zz AI 100],[]);Zy (uu [Zq b,Zz AI 0] []) (kT λvs=>af AI vs λn r=>af AI r λD r=>af AI r λK r=>ak r (aK (Zg (n>1)) (Zb (Zn [t1,Zz AI 7],[])) (Zy (zP [Zq b,Zz AI D] []) (kT λvs=>ar vs λx r=>Yd x λcs=>bg cs λA z=>bg z λl w=>bg w λt y=>ak y (af AI r λv r=>af AI r λL r=>ak r (Zy (xr [Zq b,Zz AI v,Zv (n==1)] []) (kT λvs=>af AI vs λC r=>af AI r λu r=>af AI r λJ r=>ak r (Zy (xt [Zq b,Zz AI u,Zz AI 8] []) (kT λvs=>dg vs λk r=>af AI r λm r=>af AI r λF r=>ak r (Zy (HU [Zq k] []) (kT λvs=>af AT vs λf r=>az r λG r=>ak r (Zy (uu [Zq b,Zz AI m] []) (kT λvs=>af AI vs λs r=>af AI r λj r=>af AI r λH r=>ak r (Zy (xr [Zq b,Zz AI j,Zv (n==1)] []) (kT λvs=>af AI vs λE r=>af AI r λo r=>af AI r λI r=>ak r (Zy (xu [Zq b,Zz AI o] []) (kT λvs=>bg vs λg r=>af AI r λB r=>af AI r λM r=>ak r (Zy (xu [Zq b,Zz AI B] []) (kT λvs=>bg vs λi r=>let t2:AV:=Yz [Zv (n==1),Zx A,Zx l,Zx t,Zz AI C,Zz AT f,Zz AI s,Zz AI E,Zx g,Zx i];af AI r λn r=>af AI r λn r=>ak r (Zy (OK [t2] []) (kT λvs=>dg vs λc r=>af AI r λn r=>ak r (aK (!n==0) t0 (aK (!c==b) t0 (Zb (Zn [t2,Zz AI 0],[])))))))))))))))))))))))))) ?_;delta kT;dsimp only[HU,zP,xr,uu,xt,xu,OK,bg,dg,az,lR,af,eg,jM];have hb:=Qa3 aI;have d:Zg (b.length<=4611686018427387904)=Yx:=by simp;omega
 simp only[aI,d,↓A0,A0];unfold Kerb.aW;by_cases h7:1<(Kerb.get b 0 1 Yk).val
 .rw[ae (by simpa using h7),Qa1 h7];try rfl
 rw[ai (by simpa using h7),Qa0 h7];have hl:∀ p n,(Xq b p n).val.length<=4611686018427387904:=λp n=>Zm (Kerb.iu b p n) (by omega);have hk:∀ q,0<=(Kerb.dm q).1/\(Kerb.dm q).1<18446744073709551616:=Kerb.dN;have hx:∀ q,(Kerb.text b q).val.length<=40:=Kerb.ez b;have a:∀ q (_:Unit),(Xy b q).val.name.length<=40/\(Xy b q).val.inst.length<=40/\(Xy b q).val.aA.length<=40:=λq _=>Kerb.gK b q;rw[aq (by simp only[Qa2];exact hl _ _),aq (by simp only[Zk,Qa2];exact⟨⟨⟨⟨⟨⟨Zm (a _ ()).1 (by decide),Zm (a _ ()).2.1 (by decide)⟩,Zm (a _ ()).2.2 (by decide)⟩,Zm (hx _) (by decide)⟩,Zm (hx _) (by decide)⟩,(hk _).1⟩,(hk _).2⟩)];exact Kerb.jz (no:=Kerb.iL) (enc:=Kerb.bE) (rd:=λb=>(Kerb.my b,Yk)) _ Yk rfl (λx e=>(Zn [Yz [Zv (x).By,Zx (x).BY.name,Zx (x).BY.inst,Zx (x).BY.aA,Zz Zp (x).address,Zz IntKind.u64 (x).ah,Zz Zp (x).bK,Zz Zp (x).cf,Zx (x).service,Zx (x).inst],Zz Zp e],([]:aO)))
theorem anL:Wk 395 10 KX:=by
 refine g8 Tryz.func395 λ_ _ _ h=> ?_;unfold KX at h;split at h;case h_2=>cases h
 rename_i b;obtain⟨aI,rfl⟩:=ja h;refine jI (let t1:List AV:=[Zz AT 0,Zz AI 0,Zz AI 0,Zz AI 0,Zx [],Zx [],Zx [],Zq []];let t0:Option (AV×aO):=Zb (Zn [Yz (Zx []::Zz AI 0::t1),Zz AI 100],[]);Zy (KV [AV.ptr 0 0,Zz AI 4] [(0,[Zq b,Zz AI 0,Zv Yk])]) λr=>aJ (Zu r) λx eU=>dg x λdS ff=>af AI ff λn fH=>az fH λkj gZ=>ak gZ (aE eU (AV.dC (Zd r) λa=>Zy (Gb [AV.ptr 0 0] [(0,[Zq dS,Zz AI n,Zv kj])]) λr=>aJ (Zu r) λx jo=>dg x λY kg=>af AI kg λn Z=>az Z λf V=>ak V (aE jo (Ym AI (Zd r) λd=>let t2:Kerb.rF:=Kerb.a_ (Kerb.eW.mk a d 0 0 0 0 (Kerb.bQ.mk [] [] []) []);aK (Kerb.fh a) (Zy (OM [AV.ptr 0 0] [(0,[Zq Y,Zz AI n,Zv f])]) λr=>aJ (Zu r) λx U=>dg x λK gY=>af AI gY λn kG=>az kG λT kH=>ak kH (aE U (Ym AT (Zd r) λdy=>Zy (Gb [AV.ptr 0 0] [(0,[Zq K,Zz AI n,Zv T])]) λr=>aJ (Zu r) λx W=>dg x λB S=>af AI S λn R=>az R λw Q=>ak Q (aE W (Ym AI (Zd r) λft=>Zy (Gb [AV.ptr 0 0] [(0,[Zq B,Zz AI n,Zv w])]) λr=>aJ (Zu r) λx I=>dg x λX H=>af AI H λn G=>az G λP F=>ak F (aE I (Ym AI (Zd r) λcE=>Zy (KU [AV.ptr 0 0] [(0,[Zq X,Zz AI n,Zv P])]) λr=>aJ (Zu r) λx v=>dg x λM u=>af AI u λn t=>az t λO s=>ak s (aE v (Ym AI (Zd r) λcg=>Zy (OB [AV.ptr 0 0] [(0,[Zq M,Zz AI n,Zv O])]) λr=>aJ (Zu r) λx o=>dg x λN m=>af AI m λn l=>az l λE k=>ak k (aE o (Yd (Zd r) λcs=>bg cs λL r=>bg r λD r=>bg r λJ r=>ak r (Zy (KU [AV.ptr 0 0] [(0,[Zq N,Zz AI n,Zv E])]) λr=>aJ (Zu r) λx j=>dg x λA i=>af AI i λn AH=>az AH λC AJ=>ak AJ (aE j (Ym AI (Zd r) λgH=>Zy (KV [AV.ptr 0 0,Zz AI gH] [(0,[Zq A,Zz AI n,Zv C])]) λr=>aJ (Zu r) λx AK=>dg x λwE AL=>af AI AL λn AM=>az AM λz Dy=>ak Dy (aE AK (AV.dC (Zd r) λy=>let t3:AV:=Yz [Zx a,Zz AI d,Zz AT dy,Zz AI ft,Zz AI cE,Zz AI cg,Zx L,Zx D,Zx J,Zq y];aK z t0 (Zy (K2 [t3] []) (kT λvs=>dg vs λg r=>af AI r λn r=>ak r (aK (!n==0) t0 (aK (!g==b) t0 (Zb (Zn [t3,Zz AI 0],[])))))))))))))))))))))) (aK f t0 (aK (!Kerb.rF.err t2==0) t0 (aK (!Kerb.rF.val t2==b) t0 (Zb (Zn [Yz (Zx a::Zz AI d::t1),Zz AI 0],[])))))))))) ?_;delta kT;dsimp only[KU,KV,OB,Gb,OM,K2,bg,dg,az,lR,af,eg,jM];have hb:=Qa3 aI;simp only[A0,aI];cases ht:Kerb.fh (Xk b 4 0 Yk).val
 .rw[eA];exact Kerb.jz (no:=Kerb.n9) (enc:=Kerb.a_) (rd:=Kerb.iX) _ _ (by unfold Kerb.iX Kerb.EC;dsimp only;rw[ht];rfl) (λx e=>(Zn [Yz [Zx (x).label,Zz Zp (x).time,Zz IntKind.u64 (x).ah,Zz Zp (x).start,Zz Zp (x).stop,Zz Zp (x).bj,Zx (x).service.name,Zx (x).service.inst,Zx (x).service.aA,Zq (x).aB],Zz Zp e],([]:aO)))
 .have hk:∀ p q,0<=(Kerb.xY b p q).val/\(Kerb.xY b p q).val<18446744073709551616:=Kerb.tT b;have c:=Kerb.qc b;rw[gO,aq (by simp only[Zk,Qa2];exact⟨⟨⟨⟨Zm (c _ _).1 (by omega),Zm (c _ _).2.1 (by omega)⟩,Zm (c _ _).2.2 (by omega)⟩,(hk _ _).1⟩,(hk _ _).2⟩)];exact Kerb.jz (no:=Kerb.n9) (enc:=Kerb.a_) (rd:=Kerb.iX) _ _ (by unfold Kerb.iX Kerb.EC;dsimp only;rw[ht];rfl) (λx e=>(Zn [Yz [Zx (x).label,Zz Zp (x).time,Zz IntKind.u64 (x).ah,Zz Zp (x).start,Zz Zp (x).stop,Zz Zp (x).bj,Zx (x).service.name,Zx (x).service.inst,Zx (x).service.aA,Zq (x).aB],Zz Zp e],([]:aO)))
theorem am4:Wk 334 11 Uh:=by
 refine g8 Tryz.func334 λ_ _ _ h=> ?_;unfold Uh at h;split at h;case h_2=>cases h
 rename_i kd k b;obtain⟨aI,rfl⟩:=ja h
 refine jI (aK (kd==1) (Zy (KW [Zq b] []) (kT λvs=>ar vs λx r=>Yd x λcs=>az cs λb f=>bg f λb d=>bg d λb e=>bg e λb c=>af AI c λn a=>af AT a λn j=>af AI j λs i=>af AI i λt m=>bg m λb l=>bg l λb o=>ak o (af AI r λp r=>ak r (aK (p==0) (Zy (vS [Zf 1 [Zz AT n]] []) λr=>aE (Zu r) (Yw 1 (Zd r) λb=>Zb (Zn [Zf 1 b,Zf 1 []],[]))) (Zb (Zn [Zf 1 [],Zf 1 []],[])))))) (aK (kd==3) (Zy (Ga [Zq b,Zv Yk] []) (kT λvs=>ar vs λx r=>Yd x λcs=>af AT cs λn f=>bg f λu d=>bg d λM e=>bg e λN c=>af AI c λs a=>af AI a λt j=>dg j λE i=>af AI i λp m=>ak m (af AI r λq r=>ak r (aK (!q==0) (Zy (Ga [Zq b,Zv Yx] []) (kT λvs=>ar vs λx r=>Yd x λcs=>af AT cs λn l=>bg l λb o=>bg o λb H=>bg H λb G=>af AI G λQ D=>af AI D λP C=>dg C λb B=>af AI B λO A=>ak A (af AI r λF r=>ak r (aK (F==0) (Zy (vS [Zf 1 [Zz AT n]] []) λr=>aE (Zu r) (Yw 1 (Zd r) λv=>Zy (xq [Zf 1 [Zq b]] []) λr=>aE (Zu r) (Yw 1 (Zd r) λb=>Zb (Zn [Zf 1 v,Zf 1 b],[])))) (Zb (Zn [Zf 1 [],Zf 1 []],[])))))) (aK (q==0) (Zy (vS [Zf 1 [Zz AT n]] []) λr=>aE (Zu r) (Yw 1 (Zd r) λb=>Zy (xq [Zf 1 [Zq E]] []) λr=>aE (Zu r) (Yw 1 (Zd r) λv=>Zb (Zn [Zf 1 b,Zf 1 v],[])))) (Zb (Zn [Zf 1 [],Zf 1 []],[]))))))) (aK (kd==7) (Zy (OG [Zq b] []) (kT λvs=>ar vs λx r=>Yd x λcs=>bg cs λb f=>af AI f λn d=>af AI d λn e=>af AI e λn c=>af AT c λn a=>ak a (af AI r λs r=>ak r (aK (s==0) (Zy (vS [Zf 1 [Zz AT n]] []) λr=>aE (Zu r) (Yw 1 (Zd r) λb=>Zb (Zn [Zf 1 b,Zf 1 []],[]))) (Zb (Zn [Zf 1 [],Zf 1 []],[])))))) (aK (kd==8) (Zy (KX [Zq b] []) (kT λvs=>ar vs λx r=>Yd x λcs=>bg cs λb f=>af AI f λn d=>af AT d λn e=>af AI e λs c=>af AI c λt a=>af AI a λp j=>bg j λb i=>bg i λb m=>bg m λb l=>dg l λb o=>ak o (af AI r λq r=>ak r (aK (q==0) (Zy (vS [Zf 1 [Zz AT n]] []) λr=>aE (Zu r) (Yw 1 (Zd r) λu=>Zy (xq [Zf 1 [Zq b]] []) λr=>aE (Zu r) (Yw 1 (Zd r) λb=>Zb (Zn [Zf 1 u,Zf 1 b],[])))) (Zb (Zn [Zf 1 [],Zf 1 []],[])))))) (aK (kd==9) (Zy (OH [Zq b] []) (kT λvs=>ar vs λx r=>Yd x λcs=>bg cs λb f=>bg f λb d=>bg d λb e=>bg e λb c=>bg c λb a=>bg a λb j=>af AT j λn i=>af AI i λs m=>af AI m λt l=>af AI l λp o=>ak o (af AI r λq r=>ak r (aK (q==0) (Zy (vS [Zf 1 [Zz AT n]] []) λr=>aE (Zu r) (Yw 1 (Zd r) λb=>Zb (Zn [Zf 1 b,Zf 1 []],[]))) (Zb (Zn [Zf 1 [],Zf 1 []],[])))))) (aK (kd==10) (Zy (OI [Zq b] []) (kT λvs=>ar vs λx r=>Yd x λcs=>af AT cs λn f=>bg f λb d=>bg d λb e=>bg e λb c=>af AI c λs a=>af AI a λt j=>dg j λb i=>ak i (af AI r λp r=>ak r (aK (p==0) (Zy (vS [Zf 1 [Zz AT n]] []) λr=>aE (Zu r) (Yw 1 (Zd r) λu=>Zy (xq [Zf 1 [Zq b]] []) λr=>aE (Zu r) (Yw 1 (Zd r) λb=>Zb (Zn [Zf 1 u,Zf 1 b],[])))) (Zb (Zn [Zf 1 [],Zf 1 []],[])))))) (Zb (Zn [Zf 1 [],Zf 1 []],[])))))))) ?_
 delta kT;dsimp only[xq,KW,vS,Ga,OG,KX,OH,OI,bg,dg,az,lR,af,eg,jM];have hb:=Qa3 aI;have w:Zg (b.length<=140737488355328)=Yx:=by simp;omega
 have k1:=Kerb.iw b;have k2:=Kerb.k_ b;have k3:=Kerb.gx b;have K:=Kerb.iH b;have J:=Kerb.vf b;have I:=Kerb.ud b;have t2:=Kerb.lW b;have t4:=Kerb.jb b;have t6:=Kerb.k9 b;have u2:∀ li,(Kerb.aX b li).val.aB.length<=70368744177664:=λli=>Zm (t2 li) (by omega);have z:(Kerb.aV b).val.aB.length<=70368744177664:=Zm t4 (by omega);have y:(Kerb.bA b).val.record.length<=70368744177664:=Zm t6 (by omega);simp only[A0,Yh,Xz,Kerb.jj.av,w,Kerb.Fi k1,Kerb.Fi (k2 _),Kerb.Fi k3,Kerb.Fi K,Kerb.Fi J,Kerb.Fi I,Xv (u2 _),Xv z,Xv y];unfold Kerb.h_;simp only;by_cases hq:kd=1
 .rw[ae (by simpa using hq),Qa1 hq];by_cases g:(Kerb.aW b).err=0
  .rw[ae (by simpa using g),Qa1 g];rfl
  .rw[ai (by simpa using g),Qa0 g];rfl
 rw[ai (by simpa using hq),Qa0 hq];clear hq;by_cases hq:kd=3
 .rw[ae (by simpa using hq),Qa1 hq];by_cases g:(Kerb.aX b Yk).err=0
  .simp only[g,Qb1,Bool.not_true,eA,gO,if_true];rfl
  .have L:((Kerb.aX b Yk).err==0)=Yk:=by simpa using g
   simp only[L,Bool.not_false,gO,Qa0 g];by_cases g2:(Kerb.aX b Yx).err=0
   .rw[ae (by simpa using g2),Qa1 g2];rfl
   .rw[ai (by simpa using g2),Qa0 g2];rfl
 rw[ai (by simpa using hq),Qa0 hq];clear hq;by_cases hq:kd=7
 .rw[ae (by simpa using hq),Qa1 hq];by_cases g:(Kerb.ck b).err=0
  .rw[ae (by simpa using g),Qa1 g];rfl
  .rw[ai (by simpa using g),Qa0 g];rfl
 rw[ai (by simpa using hq),Qa0 hq];clear hq;by_cases hq:kd=8
 .rw[ae (by simpa using hq),Qa1 hq];by_cases g:(Kerb.aV b).err=0
  .rw[ae (by simpa using g),Qa1 g];rfl
  .rw[ai (by simpa using g),Qa0 g];rfl
 rw[ai (by simpa using hq),Qa0 hq];clear hq;by_cases hq:kd=9
 .rw[ae (by simpa using hq),Qa1 hq];by_cases g:(Kerb.bz b).err=0
  .rw[ae (by simpa using g),Qa1 g];rfl
  .rw[ai (by simpa using g),Qa0 g];rfl
 rw[ai (by simpa using hq),Qa0 hq];clear hq;by_cases hq:kd=10
 .rw[ae (by simpa using hq),Qa1 hq];by_cases g:(Kerb.bA b).err=0
  .rw[ae (by simpa using g),Qa1 g];rfl
  .rw[ai (by simpa using g),Qa0 g];rfl
 rw[ai (by simpa using hq),Qa0 hq];clear hq;rfl
theorem alh:Wk 111 12 TU:=by
 refine g8 Tryz.func111 λ_ _ _ h=> ?_;unfold TU at h;split at h;case h_2=>cases h
 rename_i b;obtain⟨aI,rfl⟩:=ja h;refine jI (Zy (Om [Zq b] []) λr=>aE (Zu r) (Yw 1 (Zd r) λb=>Zy (xq [Zf 1 b] []) λr=>aE (Zu r) (Yw 1 (Zd r) λb=>Zb (Zf 1 b,[])))) ?_;dsimp only[xq,Om];have hb:=Qa3 aI;have a:Zg (b.length<=140737488355328)=Yx:=by simp;omega
 simp only[A0,Yh,Xz,Kerb.jj.av,aI,Kerb.HO hb,Kerb.lK];rfl
theorem w63:Wk 63 15 UC:=by
 refine g8 Tryz.func63 λ_ _ _ h=> ?_;unfold UC at h;split at h;case h_2=>cases h
 rename_i ks bs b;obtain⟨aI,rfl⟩:=ja h;refine jI (Kerb.Mi ks bs b) ?_;simp only[Zk,Qa2] at aI;exact Kerb.PM aI.1 aI.2
theorem im:Wk 64 15 UD:=by
 refine g8 Tryz.func64 λ_ _ _ h=> ?_;unfold UD at h;split at h;case h_2=>cases h
 rename_i ks bs k;obtain⟨aI,rfl⟩:=ja h;refine jI (Kerb.SY ks bs k) ?_;simp only[Zk,Qa2] at aI;obtain⟨⟨⟨a,b⟩,c⟩,d⟩:=aI;exact Kerb.SZ a (by simp[b,c]) d
end Go.Proofs.YtpelamlfpffacaaGreat
