/- Results of functions. -/
import Derived.Test.YtpelamlfpffacaaGreatTab
set_option linter.all false
open Go.IntKind renaming i64->AI,u64->AT
open Go.IntKind renaming wrap->Zz,i64->Zq,bits->Zk,u64->Yb
open Go.Abs.AV renaming int->Zy,bool->Zu,undef->Zn,str->Yu,ay->Yj,bs->Yk,aw->Yg,bp->Xy,sl->Xx,eG->Xk,aS->Xh
open Int renaming toNat->Zx,toNat_natCast->Yz,eq_ofNat_of_zero_le->Yv,tmod->Xz,fdiv->Xu,tmod_eq_emod_of_nonneg->Xb,tdiv_eq_ediv_of_nonneg->Wv,tdiv->Wu
open List renaming length->Zw,getD->Zj,set->Zh,take_of_length_le->Yd,drop->Xv,take->Xp,drop_eq_nil_of_le->Wz
open Decidable renaming decide->Zv
open Option renaming bind->Zp,some->Zd,none->Wq
open Bool renaming true->Zf,and_eq_true->Zm,false->Yn,and_self->Wx,and_true->Wf
open UInt8 renaming toNat->Zg,ofNat->Yw
open Nat renaming blt->Zb,beq_refl->Yx,beq->Ym,zero_le->Xd
open Sum renaming inr->Yy,inl->Yp
open Go.Abs.Ex renaming exit->Yq,ret->Xn
open Prod renaming snd->Yf
open Kerb renaming bM->Yh,back->Xw,im->Xj,room->Xf,wN->Xg,isKind->Xm,ie->Wy,indexOf->Ww,aU->Wj,swp_size->Wd
open Array renaming setIfInBounds->Xq,size_setIfInBounds->Wp
namespace Go.Proofs.YtpelamlfpffacaaGreat
open Go Go.Abs Go.Proofs
set_option maxRecDepth 100000
theorem w25:Wk 25 1 acC:=by
 refine g8 Tryz.func25 λ_ _ _ h=> ?_;unfold acC at h;split at h;case h_2=>cases h
 rename_i b how;obtain⟨aI,rfl⟩:=ja h;refine jI (let t0:Int:=Xz (Zz AI (Zz .u16 (Wu how 8))) (Zw b:Int);ax (room (Zw b) 1) (aK ((Zw b:Int)==0) (Zd (Yk b,[])) (ax (!(Zw b:Int)==0) (aK (Xz how 4==0) (ax (Zv (0<=t0)&&Zv (t0<(Zw b:Int))) (ax (Zb (Zx t0) (Zw b)&&Zf&&Zf&&Zf) (ax (Zv (0<=Zz AT (Xz how 7))) (ax (Zv (0<=t0)&&Zv (t0<(Zw b:Int))) (ax (Zb (Zx t0) (Zw b)&&Zf&&Zf&&Zf&&Zf) (Zd (Yk (Zh b (Zx t0) (Yw (Zx (Zz .u8 (↑(BitVec.toNat (BitVec.ofInt (Zk .u8) (↑(Zg (Zj b (Zx t0) (0:UInt8))):Int) ^^^ BitVec.ofInt (Zk .u8) (↑(Zg (Yw (Zx (Zz .u8 ((↑(Zg (1:UInt8)):Int)*2 ^ min (Zx (Zz AT (Xz how 7))) 8))))):Int))):Int))))),[]))))))) (aK (Xz how 4==1) (ax (Zv (0<=t0)&&Zv (t0<=(Zw b:Int))&&Zb 0 (Zw b)&&Zf) (ax (Zv (0<=Zz AI (t0+1))&&Zv (Zz AI (t0+1)<=(Zw b:Int))&&Zb 0 (Zw b)&&Zf) (ax (Zb 0 (Zw b)&&Zf&&Zf&&Zf&&room (Zx t0+(Zw b-Zx (Zz AI (t0+1)))) 1) (Zd (Yk (Xp (Zx t0) b++Xv (Zx (Zz AI (t0+1))) b),[]))))) (aK (Xz how 4==2) (ax (room (Zw b+Zw [Yw (Zx (Zz .u8 how))]) 1) (Zd (Yk (b++[Yw (Zx (Zz .u8 how))]),[]))) (Zd (Yk b,[])))))))) ?_;try dsimp only[bg,dg,az,lR,af,eg,jM]
 simp only[Zm,Qa2] at aI;obtain⟨⟨hb,h0⟩,h1⟩:=aI;rw[aq (Wy (by omega))];unfold Kerb.xv;by_cases hn:b=[]
 .subst hn;rfl
 have j:0<b.length:=List.length_pos_iff.2 hn;rw[Qa0 hn,ai (by simp;omega),aq (by simp;omega)];have e:Xz (Zz Zq (Zz IntKind.u16 (Wu how (8:Int)))) (b.length:Int)=Kerb.pV b how:=rfl;rw[e];obtain⟨ha,hc⟩:=Kerb.MZ h0 h1 j;generalize Kerb.pV b how=a at ha hc ⊢;have hd:(Zv ((0:Int)<=a)&&Zv (a<(b.length:Int)))=Zf:=by simp;omega
 have i:Zb a.toNat b.length=Zf:=Nat.ble_eq_true_of_le (by omega);have c:Zb 0 b.length=Zf:=Nat.ble_eq_true_of_le (by omega);have h7:Zv ((0:Int)<=Zz Yb (Xz how (7:Int)))=Zf:=by rw[Kerb.wrap_u64];simp;omega
 by_cases g:Xz how 4=0
 .rw[Qa1 g,ae (by simpa using g),aq hd,aq (by rw[i];rfl),aq h7,aq hd,aq (by rw[i];rfl)]
 rw[Qa0 g,ai (by simpa using g)];by_cases f:Xz how 4=1
 .rw[Qa1 f,ae (by simpa using f),wrap_i64 (n:=a+1) (by omega) (by omega),aq (by rw[c];simp;omega),aq (by rw[c];simp;omega),aq (by rw[c,Wy (by omega)];rfl)]
 rw[Qa0 f,ai (by simpa using f)];by_cases d:Xz how 4=2
 .rw[Qa1 d,ae (by simpa using d),aq (Wy (by simp;omega))]
 .rw[Qa0 d,ai (by simpa using d)]
theorem w48:Wk 48 1 l_:=by
 refine g8 Tryz.func48 λ_ _ _ h=> ?_;unfold l_ at h;split at h;case h_2=>cases h
 rename_i ks k;obtain⟨aI,rfl⟩:=ja h;refine jI (Zp (bh (λst=>eg 1 st λb r=>af AT r λn r=>af AI r λa r=>let t0:Option (List AV ⊕ Ex×List AV):=Zd (Yy (Yq 0,[Xx 1 b,Zy AT n,Zy AI a]));ak r (aK (Zv (a<(Zw b:Int))) (ax (Zv (0<=a)&&Zv (a<(Zw b:Int))&&Zf) (Yg AT (Zj b (Zx a) Zn) λc=>aK (Zv (c<n)) (Zd (Yp [Xx 1 b,Zy AT n,Zy AI (Zz AI (a+1))])) t0)) t0)) [Xx 1 ks,Zy AT k,Zy AI 0]) λ(r:Ex×List AV)=>eg 1 (Yf r) λb p=>let t1:List AV:=Xp (Zx (Zw b:Int)) b;af AT p λn g=>af AI g λa m=>let t3:List AV:=Xv (Zx (↑(0:Nat):Int)) (Xp (Zx a) b)++[Zy AT n];let t2:Option (AV×aO):=ax (Zv ((↑(0:Nat):Int)<=a)&&Zv (a<=(Zw b:Int))) (ax (room (Zw (Xv (Zx (↑(0:Nat):Int)) (Xp (Zx a) b))) (nat_lit 8)) (ax (room (Zw (Xv (Zx (↑(0:Nat):Int)) (Xp (Zx a) b))+Zw [Zy AT n]) (nat_lit 8)) (ax (Zv (0<=a)&&Zv (a<=(Zw b:Int))&&Zv ((Zw b:Int)<=(Zw b:Int))) (ax (room (Zw t3+Zw (Xv (Zx a) t1)) (nat_lit 8)) (Zd (Xx 1 (t3++Xv (Zx a) t1),[]))))));ak m (kJ r.1 Wq λj=>aK (Ym j 0) (aK (Zv (a<(Zw b:Int))) (ax (Zv (0<=a)&&Zv (a<(Zw b:Int))&&Zf) (Yg AT (Zj b (Zx a) Zn) λc=>aK (c==n) (ax (room (Zw b) (nat_lit 8)) (Zd (Xx 1 b,[]))) t2)) t2) Wq)) ?_;try dsimp only[bg,dg,az,lR,af,eg,jM]
 simp only[Zm,Qa2] at aI;obtain⟨l,rfl⟩:=Kerb.xW aI.1;have hn:=aI.2;rw[Kerb.dp] at hn;rw[Kerb.jE];refine bS (enc:=λ(i:Nat)=>[.sl 1 (Yh l),.int AT k,.int AI (i:Int)]) (I:=λi=>i<=l.length/\∀ j,j<i->l.getD j 0<k) (μ:=λi=>l.length-i) (R:=λr=>∃ i:Nat,i<=l.length/\(∀ j,j<i->l.getD j 0<k)/\(i<l.length->¬ l.getD i 0<k)/\r=(.exit 0,[.sl 1 (Yh l),.int AT k,.int AI (i:Int)])) 0 ⟨Xd _,λj h=>by omega⟩ rfl ?_ ?_
 .rintro i ⟨hi,hj⟩;by_cases h:i<l.length
  .by_cases hk:l.getD i 0<k
   .refine⟨.inl [.sl 1 (Yh l),.int AT k,.int AI ((i+1:Nat):Int)],?_,i+1,rfl,⟨h,λj Px=> ?_⟩,show l.length-(i+1)<l.length-i by omega⟩
    .try dsimp only
     simp only[↓A0,A0,Kerb.V2,Kerb.ltK h,Kerb.Pn h,Wx,Wf,Kerb.Lb (show i<=1000000000 by omega),Qa4 hk]
    .by_cases e:j=i
     .rw[e];exact hk
     .exact hj j (by omega)
   .refine⟨.inr (.exit 0,[.sl 1 (Yh l),.int AT k,.int AI (i:Int)]),?_,i,hi,hj,λ_=>hk,rfl⟩;try dsimp only
    simp only[↓A0,A0,Kerb.V2,Kerb.ltK h,Kerb.Pn h,Wx,Wf,Qa5 hk]
  .obtain rfl:i=l.length:=by omega
   refine⟨.inr (.exit 0,[.sl 1 (Yh l),.int AT k,.int AI (l.length:Int)]),?_,l.length,hi,hj,λh=>by omega,rfl⟩;try dsimp only
   simp only[↓A0,A0,Kerb.noK]
 .rintro r ⟨i,hi,hj,hk,rfl⟩;rw[Kerb.NY hi hj hk];have r1:Go.Abs.room (Yh l).length 8=Zf:=by rw[Kerb.dp];exact Kerb.HK (by omega)
  have u:Zv (((0:Nat):Int)<=(i:Int))=Zf:=Kerb.V2 i;have t:Zv ((i:Int)<=((Yh l).length:Int))=Zf:=by rw[Kerb.dp];exact Qa4 (by omega)
  have s:Zv (((Yh l).length:Int)<=((Yh l).length:Int))=Zf:=Qa4 (Int.le_refl _);have t0:Xv (Zx ((0:Nat):Int)) (Xp (Zx (i:Int)) (Yh l))=Yh (l.take i):=by rw[Yz,Yz,List.drop_zero,Kerb.ago]
  have t1:Xv (Zx (i:Int)) (Xp (Zx ((Yh l).length:Int)) (Yh l))=Yh (l.drop i):=by rw[Yz,Yz,List.take_length,Kerb.ad8]
  have l0:(l.take i).length<=l.length:=by rw[List.length_take];omega
  have l1:(l.drop i).length<=l.length:=by rw[List.length_drop];omega
  have r2:Go.Abs.room (Yh (l.take i)).length 8=Zf:=by rw[Kerb.dp];exact Kerb.HK (by omega)
  have f:Go.Abs.room ((Yh (l.take i)).length+[Zy AT k].length) 8=Zf:=by rw[Kerb.dp];exact Kerb.Og (by simp;omega)
  have d:Go.Abs.room ((Yh (l.take i)++[Zy AT k]).length+(Yh (l.drop i)).length) 8=Zf:=by rw[List.length_append,Kerb.dp,Kerb.dp];exact Kerb.Og (by simp;omega)
  have o:Yh (l.take i)++[Zy AT k]++Yh (l.drop i)=Yh (l.take i++k::l.drop i):=by simp[Yh]
  simp only[↓A0,A0,show Ym 0 0=Zf from rfl,t0,t1,r1,r2,f,d,u,t,s,Kerb.V2,Wx,o];by_cases h:i<l.length
  .simp only[↓A0,A0,Kerb.ltK h,Kerb.Pn h,Wx,Wf];by_cases e:l.getD i 0=k
   .rw[ae (by simpa using e),Qa1 ⟨h,e⟩]
   .rw[ai (by simpa using e),Qa0 (λq=>e q.2)]
  .obtain rfl:i=l.length:=by omega
   rw[ai (Kerb.noK l),Qa0 (λq=>h q.1)]
theorem w66:Wk 66 1 UE:=by
 refine g8 Tryz.func66 λ_ _ _ h=> ?_;unfold UE at h;split at h;case h_2=>cases h
 rename_i ks k;obtain⟨aI,rfl⟩:=ja h;refine jI (Zp (bh (λst=>eg 1 st λb r=>af AT r λn r=>az r λc r=>af AI r λa r=>ak r (aK (Zv (a<(Zw b:Int))) (ax (Zv (0<=a)&&Zv (a<(Zw b:Int))&&Zf) (Yg AT (Zj b (Zx a) Zn) λo=>aK (o==n) (Zd (Yy (Xn,[Xx 1 b,Zy AT n,Zu Zf,Zy AI a]))) (Zd (Yp [Xx 1 b,Zy AT n,Zu c,Zy AI (Zz AI (a+1))])))) (Zd (Yy (Yq 0,[Xx 1 b,Zy AT n,Zu c,Zy AI a]))))) [Xx 1 ks,Zy AT k,Zu Yn,Zy AI 0]) λ(r:Ex×List AV)=>eg 1 (Yf r) λb m=>af AT m λn f=>az f λb g=>af AI g λn d=>ak d (kJ r.1 (Zd (Zu b,[])) λj=>aK (Ym j 0) (Zd (Zu Yn,[])) Wq)) ?_;dsimp only[az,af,eg];simp only[Zm,Qa2] at aI;obtain⟨l,rfl⟩:=Kerb.xW aI.1;have hn:=aI.2;rw[Kerb.dp] at hn;rw[Kerb.jE];have e:=Kerb.kh l 0 (λx=>x==k);rw[show l.any (λx=>x==k)=l.contains k by rw[<-Kerb.ub];congr 1;funext x;exact Bool.beq_comm] at e;rw[<-e];refine Qb2 (Kerb.oH (A:=(.bool Zf,[])) (B:=(.bool Yn,[])) (λi=>[.sl 1 (Yh l),.int AT k,.bool Yn,.int AI (i:Int)]) l.length (λi=>l.getD i 0==k) ?_ ?_ ?_ rfl) (by cases (List.range l.length).any (λi=>l.getD i 0==k)<;>rfl)
 .intro i hi hp;try dsimp only at hp ⊢
  simp only[↓A0,A0,Kerb.V2,Kerb.ltK hi,Kerb.Pn hi,Wx,Wf,Kerb.Lb (show i<=1000000000 by omega),hp]
 .intro i hi hp;try dsimp only at hp ⊢
  refine⟨(.ret,[.sl 1 (Yh l),.int AT k,.bool Zf,.int AI (i:Int)]),?_,?_⟩;case refine_2=>rfl
  simp only[↓A0,A0,Kerb.V2,Kerb.ltK hi,Kerb.Pn hi,Wx,Wf,hp]
 .refine⟨(.exit 0,[.sl 1 (Yh l),.int AT k,.bool Yn,.int AI (l.length:Int)]),?_,?_⟩;case refine_2=>rfl
  try dsimp only
  simp only[↓A0,A0,Kerb.noK]
theorem alw:Wk 154 1 TX:=by
 refine g8 Tryz.func154 λ_ _ _ h=> ?_;unfold TX at h;split at h;case h_2=>cases h
 rename_i k By;cases h;refine jI (aK (Zv (k<1)) (Zd (Yk [],[])) (aK (Zv (k>10)) (Zd (Yk [],[])) (aK By (Zd (Yk [(4:UInt8),Yw (Zx (Zz .u8 (Zz AI (Zz AI (2*k)+1))))],[])) (Zd (Yk [(4:UInt8),Yw (Zx (Zz .u8 (Zz AI (2*k))))],[]))))) ?_;by_cases h:1<=k/\k<=10
 .have hk:k=1\/k=2\/k=3\/k=4\/k=5\/k=6\/k=7\/k=8\/k=9\/k=10:=by omega
  rcases hk with rfl | rfl | rfl | rfl | rfl | rfl | rfl | rfl | rfl | rfl<;>cases By<;>rfl
 .have hk:Xm k=Yn:=by simp[Xm];omega
  by_cases h1:k<1
  .simp[aK,Kerb.header,hk,h1]
  .have h2:10<k:=by omega
   simp[aK,Kerb.header,hk,h1,h2]
theorem alx:Wk 155 1 TY:=by
 refine g8 Tryz.func155 λ_ _ _ h=> ?_;unfold TY at h;split at h;case h_2=>cases h
 rename_i b s;obtain⟨aI,rfl⟩:=ja h;refine jI (ax (room (Zw b) 1) (ax (room (Zw b+Zw s) 1) (ax (room (Zw (b++s)+Zw [(0:UInt8)]) 1) (Zd (Xk (b++s++[(0:UInt8)]),[]))))) ?_;simp only[Qa2] at aI;rw[aq (Wy (by omega)),aq (Wy (by omega)),aq (Wy (by simp;omega))];simp[Kerb.cX]
theorem alQ:Wk 186 1 KG:=by
 refine g8 Tryz.func186 λ_ _ _ h=> ?_;unfold KG at h;split at h;case h_2=>cases h
 rename_i a b els;obtain⟨aI,rfl⟩:=ja h;refine Fh [0] (Zp (bh (λst=>ar st λx r=>Xh x λy=>af AI r λn r=>af AI r λc r=>ak r (aK (Zv (n<c)) (ax (Zv (0<=c)&&Zv (c<(Zw y:Int))&&Zf) (ax (Zb (Zx c) (Zw y)&&Zf) (Yg AT (Zj y (Zx c) Zn) λf=>ax (Zv (0<=n)&&Zv (n<(Zw y:Int))&&Zf) (ax (Zb (Zx n) (Zw y)&&Zf) (Yg AT (Zj y (Zx n) Zn) λp=>ax (Zv (0<=n)&&Zv (n<(Zw y:Int))&&Zf) (ax (Zb (Zx n) (Zw y)&&Zf) (Yg AT (Zj y (Zx n) Zn) λA=>ax (Zw [Zy AT f]==nat_lit 1&&Zf&&Zf&&Zf&&Zb (Zx n) (Zw y)) (ax (Zv (0<=c)&&Zv (c<(↑(Zw (Zh y (Zx n) (Zy AT f))):Int))&&Zf) (ax (Zb (Zx c) (Zw (Zh y (Zx n) (Zy AT f)))&&Zf) (Yg AT (Zj (Zh y (Zx n) (Zy AT f)) (Zx c) Zn) λz=>ax (Zw [Zy AT p]==nat_lit 1&&Zf&&Zf&&Zf&&Zb (Zx c) (Zw (Zh y (Zx n) (Zy AT f)))) (Zd (Yp [Yj (Zh (Zh y (Zx n) (Zy AT f)) (Zx c) (Zy AT p)),Zy AI (Zz AI (n+1)),Zy AI (Zz AI (c-1))])))))))))))) (Zd (Yy (Yq 0,[Yj y,Zy AI n,Zy AI c]))))) [Yj els,Zy AI a,Zy AI (Zz AI (b-1))]) λ(r:Ex×List AV)=>ar (Yf r) λx u=>Xh x λy=>af AI u λn q=>af AI q λn t=>ak t (kJ r.1 (Zd (Xy [],[y])) λj=>aK (Ym j 0) (Zd (Xy [],[y])) Wq)) ?_;dsimp only[af];simp only[Zm,Qa2] at aI;obtain⟨⟨⟨⟨hZ,hlen⟩,v⟩,w⟩,hb⟩:=aI;obtain⟨d,rfl,hd⟩:=Kerb.nr hZ;simp only[Wj] at *;unfold Kerb.W9;rw[hd];obtain⟨a,rfl⟩:=Yv v;obtain⟨b,rfl⟩:=Yv (show 0<=b by omega);simp only[Yz];rw[Xj (by omega) (by omega)];unfold Go.Sort.reverseRange;refine bS (λs:Array Int×Nat×Int=>[Yj (Xw s.1),Zy AI (s.2.1:Int),Zy AI s.2.2]) (λs=>s.1.size=d.size/\s.2.1<=d.size /\ -1<=s.2.2/\s.2.2<d.size/\Go.Sort.reverseLoop s.2.1 s.2.2.toNat s.1=Go.Sort.reverseLoop a (b-1) d) (λs=>(s.2.2-s.2.1+1).toNat) (λr=>∃ n m,r=(.exit 0,[Yj (Xw (Go.Sort.reverseLoop a (b-1) d)),Zy AI n,Zy AI m])) (d,a,(b:Int)-1) ⟨rfl,by dsimp only;omega,by dsimp only;omega,by dsimp only;omega,by dsimp only;rw[show((b:Int)-1).toNat=b-1 by omega]⟩ rfl ?_ ?_
 .rintro⟨e,i,j⟩ ⟨hs,hi,k,g,hr⟩;dsimp only at hs hi k g hr ⊢;simp only[↓bW,↓cG,↓dx,↓dA];by_cases h:(i:Int)<j
  .obtain⟨m,rfl⟩:=Yv (show 0<=j by omega);have hm:m<e.size:=by omega
   have o:i<e.size:=by omega
   rw[Yz] at hr;rw[ae (by simpa using h),Xj (by omega) (by omega),Xj (by omega) (by omega),Kerb.sw o hm (λl=>Zd (Yp [Yj l,Zy AI ((i:Int)+1),Zy AI ((m:Int)-1)]))];refine⟨_,rfl,(Go.Sort.swp e i m,i+1,(m:Int)-1),rfl,⟨by dsimp only;rw[Wd,hs],by dsimp only;omega,by dsimp only;omega,by dsimp only;omega,?_⟩,by dsimp only;omega⟩;dsimp only;rw[<-hr];conv=>rhs;unfold Go.Sort.reverseLoop
   rw[Qa1 (by omega),show((m:Int)-1).toNat=m-1 by omega]
  .rw[ai (by simpa using h)];refine⟨_,rfl,i,j,?_⟩;have:Go.Sort.reverseLoop i j.toNat e=e:=by
    unfold Go.Sort.reverseLoop;rw[Qa0 (by omega)]
   rw[<-hr,this]
 .rintro _ ⟨n,m,rfl⟩;simp only[↓bW,↓cG,↓dx,↓dA,↓lP];rw[ae (Yx _)]
theorem alV:Wk 192 1 T9:=by
 refine g8 Tryz.func192 λ_ _ _ h=> ?_;unfold T9 at h;split at h;case h_2=>cases h
 rename_i x;obtain⟨aI,rfl⟩:=ja h;refine jI (let t2:List UInt8:=([8,8,8,8,8,8,8,8,8,8,8,8,8,8,8,8,8,8,8,8,8,8,8,8,8,8,8,8,8,8,8,8,8,8,8,8,8,8,8,8,8,8,8,8,8,8,8,8,8,8,8,8,8,8,8,8,8,8,8,8,8,8,8,8]:List UInt8);let t11:Int:=Xu x (2 ^ min (Zx 32) (Zk AT));let t12:Int:=(↑(Zg (Yw (Zx (Zz .u8 x)))):Int);let t13:Int:=Xu x (2 ^ min (Zx 16) (Zk AT));let t14:Int:=2 ^ min (Zx 8) (Zk AT);let t1:List UInt8:=(0:UInt8)::List.append (List.append ([1,2,2,3,3,3,3,4,4,4,4,4,4,4,4,5,5,5,5,5,5,5,5,5,5,5,5,5,5,5,5,6,6,6,6,6,6,6,6,6,6,6,6,6,6,6,6,6,6,6,6,6,6,6,6,6,6,6,6,6,6,6,6]:List UInt8) ([7,7,7,7,7,7,7,7,7,7,7,7,7,7,7,7,7,7,7,7,7,7,7,7,7,7,7,7,7,7,7,7,7,7,7,7,7,7,7,7,7,7,7,7,7,7,7,7,7,7,7,7,7,7,7,7,7,7,7,7,7,7,7,7]:List UInt8)) (List.append t2 t2);let t5:Int:=(↑(Zg (Yw (Zx (Zz .u8 (Xu t13 t14))))):Int);let t6:Int:=(↑(Zg (Yw (Zx (Zz .u8 (Xu t11 t14))))):Int);let t7:Int:=(↑(Zg (Yw (Zx (Zz .u8 t13)))):Int);let t8:Int:=(↑(Zg (Yw (Zx (Zz .u8 t11)))):Int);let t9:Int:=(↑(Zg (Yw (Zx (Zz .u8 (Xu x t14))))):Int);let t10:Int:=Xu t11 (2 ^ min (Zx 16) (Zk AT));let t0:Int:=(Zw t1:Int);let t3:Int:=(↑(Zg (Yw (Zx (Zz .u8 (Xu t10 t14))))):Int);let t4:Int:=(↑(Zg (Yw (Zx (Zz .u8 t10)))):Int);aK (Zv (x>=4294967296)) (aK (Zv (t11>=65536)) (aK (Zv (t10>=256)) (ax (Zv (0<=t3)&&Zv (t3<t0)) (Zd (Zy AI (Zz AI (Zz AI (Zz AI (32+16)+8)+Zz AI (↑(Zg (Zj t1 (Zx t3) (0:UInt8))):Int))),[]))) (ax (Zv (0<=t4)&&Zv (t4<t0)) (Zd (Zy AI (Zz AI (Zz AI (32+16)+Zz AI (↑(Zg (Zj t1 (Zx t4) (0:UInt8))):Int))),[])))) (aK (Zv (t11>=256)) (ax (Zv (0<=t6)&&Zv (t6<t0)) (Zd (Zy AI (Zz AI (Zz AI (32+8)+Zz AI (↑(Zg (Zj t1 (Zx t6) (0:UInt8))):Int))),[]))) (ax (Zv (0<=t8)&&Zv (t8<t0)) (Zd (Zy AI (Zz AI (32+Zz AI (↑(Zg (Zj t1 (Zx t8) (0:UInt8))):Int))),[]))))) (aK (Zv (x>=65536)) (aK (Zv (t13>=256)) (ax (Zv (0<=t5)&&Zv (t5<t0)) (Zd (Zy AI (Zz AI (Zz AI (Zz AI (0+16)+8)+Zz AI (↑(Zg (Zj t1 (Zx t5) (0:UInt8))):Int))),[]))) (ax (Zv (0<=t7)&&Zv (t7<t0)) (Zd (Zy AI (Zz AI (Zz AI (0+16)+Zz AI (↑(Zg (Zj t1 (Zx t7) (0:UInt8))):Int))),[])))) (aK (Zv (x>=256)) (ax (Zv (0<=t9)&&Zv (t9<t0)) (Zd (Zy AI (Zz AI (Zz AI (0+8)+Zz AI (↑(Zg (Zj t1 (Zx t9) (0:UInt8))):Int))),[]))) (ax (Zv (0<=t12)&&Zv (t12<t0)) (Zd (Zy AI (Zz AI (0+Zz AI (↑(Zg (Zj t1 (Zx t12) (0:UInt8))):Int))),[])))))) ?_;try dsimp only[bg,dg,az,lR,af,eg,jM]
 simp only[Zm,Qa2] at aI;obtain⟨h0,h1⟩:=aI;obtain⟨n,rfl⟩:=Yv h0;rw[Kerb.C6];simp only[Kerb.f32,Kerb.f16,Kerb.f8];by_cases o:2 ^ 32<=n
 .rw[ae (by simp;omega)];have p:=Kerb.k7 32 o;have q:n / 2 ^ 32<2 ^ 32:=by omega
  generalize n / 2 ^ 32=b at p q ⊢;by_cases c:2 ^ 16<=b
  .rw[ae (by simp;omega)];have e:=Kerb.k7 16 c;have g:b / 2 ^ 16<2 ^ 16:=by omega
   generalize b / 2 ^ 16=i at e g ⊢;by_cases h8:2 ^ 8<=i
   .rw[ae (by simp;omega)];have d:=Kerb.k7 8 h8;have f:i / 2 ^ 8<2 ^ 8:=by omega
    generalize i / 2 ^ 8=m at d f ⊢;rw[Kerb.oS (by decide +kernel) (by omega) (by decide) (by decide)];have hz:Zz AI (Zz AI ((32:Int)+(16:Int))+(8:Int))+(Go.Sort.bitsLen m:Int)=(Go.Sort.bitsLen n:Int):=by
     have:Zz AI (Zz AI ((32:Int)+(16:Int))+(8:Int))=56:=by decide
     omega
    rw[hz]
   .rw[ai (by simp;omega)];rw[Kerb.oS (by decide +kernel) (by omega) (by decide) (by decide)];have hz:Zz AI ((32:Int)+(16:Int))+(Go.Sort.bitsLen i:Int)=(Go.Sort.bitsLen n:Int):=by
     have:Zz AI ((32:Int)+(16:Int))=48:=by decide
     omega
    rw[hz]
  .rw[ai (by simp;omega)];by_cases h8:2 ^ 8<=b
   .rw[ae (by simp;omega)];have d:=Kerb.k7 8 h8;have f:b / 2 ^ 8<2 ^ 8:=by omega
    generalize b / 2 ^ 8=l at d f ⊢;rw[Kerb.oS (by decide +kernel) (by omega) (by decide) (by decide)];have hz:Zz AI ((32:Int)+(8:Int))+(Go.Sort.bitsLen l:Int)=(Go.Sort.bitsLen n:Int):=by
     have:Zz AI ((32:Int)+(8:Int))=40:=by decide
     omega
    rw[hz]
   .rw[ai (by simp;omega)];rw[Kerb.oS (by decide +kernel) (by omega) (by decide) (by decide)];have hz:(32:Int)+(Go.Sort.bitsLen b:Int)=(Go.Sort.bitsLen n:Int):=by
     have:(32:Int)=32:=by decide
     omega
    rw[hz]
 .rw[ai (by simp;omega)];by_cases c:2 ^ 16<=n
  .rw[ae (by simp;omega)];have e:=Kerb.k7 16 c;have g:n / 2 ^ 16<2 ^ 16:=by omega
   generalize n / 2 ^ 16=a at e g ⊢;by_cases h8:2 ^ 8<=a
   .rw[ae (by simp;omega)];have d:=Kerb.k7 8 h8;have f:a / 2 ^ 8<2 ^ 8:=by omega
    generalize a / 2 ^ 8=k at d f ⊢;rw[Kerb.oS (by decide +kernel) (by omega) (by decide) (by decide)];have hz:Zz AI (Zz AI ((0:Int)+(16:Int))+(8:Int))+(Go.Sort.bitsLen k:Int)=(Go.Sort.bitsLen n:Int):=by
     have:Zz AI (Zz AI ((0:Int)+(16:Int))+(8:Int))=24:=by decide
     omega
    rw[hz]
   .rw[ai (by simp;omega)];rw[Kerb.oS (by decide +kernel) (by omega) (by decide) (by decide)];have hz:Zz AI ((0:Int)+(16:Int))+(Go.Sort.bitsLen a:Int)=(Go.Sort.bitsLen n:Int):=by
     have:Zz AI ((0:Int)+(16:Int))=16:=by decide
     omega
    rw[hz]
  .rw[ai (by simp;omega)];by_cases h8:2 ^ 8<=n
   .rw[ae (by simp;omega)];have d:=Kerb.k7 8 h8;have f:n / 2 ^ 8<2 ^ 8:=by omega
    generalize n / 2 ^ 8=j at d f ⊢;rw[Kerb.oS (by decide +kernel) (by omega) (by decide) (by decide)];have hz:Zz AI ((0:Int)+(8:Int))+(Go.Sort.bitsLen j:Int)=(Go.Sort.bitsLen n:Int):=by
     have:Zz AI ((0:Int)+(8:Int))=8:=by decide
     omega
    rw[hz]
   .rw[ai (by simp;omega)];rw[Kerb.oS (by decide +kernel) (by omega) (by decide) (by decide)];have hz:(0:Int)+(Go.Sort.bitsLen n:Int)=(Go.Sort.bitsLen n:Int):=by
     have:(0:Int)=0:=by decide
     omega
    rw[hz]
theorem alW:Wk 193 1 T_:=by
 refine g8 Tryz.func193 λ_ _ _ h=> ?_;unfold T_ at h;split at h;case h_2=>cases h
 rename_i c n;cases h;refine jI (let t0:Option (AV×aO):=aK (Zv (n<1)) (Zd (Zy AT 0,[])) (aK (Zv (n>4294967295)) (Zd (Zy AT 0,[])) (Zd (Zy AT (Zz AT (↑(BitVec.toNat (BitVec.ofInt (Zk AT) (Zz AT (Zz AT c*2 ^ min (Zx 56) (Zk AT))) ||| BitVec.ofInt (Zk AT) (Zz AT n))):Int)),[])));aK (!c==1) (aK (!c==2) (Zd (Zy AT 0,[])) t0) t0) ?_;try dsimp only[bg,dg,az,lR,af,eg,jM]
 unfold Kerb.dX Kerb.dd;by_cases hc:c=1\/c=2;case neg =>
  have q1:(c==(1:Int))=Yn:=by simp;omega
  have q2:(c==(2:Int))=Yn:=by simp;omega
  rw[q1,q2];rfl
 by_cases hn:1<=n/\n<=4294967295;case neg =>
  have q:(Zv (1<=n)&&Zv (n<=4294967295))=Yn:=by
   rw[Bool.eq_false_iff];simp;omega
  rw[q,Bool.and_false];have key:(aK (Zv (n<(1:Int))) (Zd (Zy AT (0:Int),([]:aO))) (aK (Zv (n>(4294967295:Int))) (Zd (Zy AT (0:Int),[])) (Zd (Zy Yb (Zz Yb ((BitVec.toNat (BitVec.ofInt (Zk Yb) (Zz Yb (Zz Yb c*(2:Int) ^ min (Zx (56:Int)) (Zk Yb))) ||| BitVec.ofInt (Zk Yb) (Zz Yb n)):Nat):Int)),[]))))=Zd (Zy AT 0,[]):=by
   by_cases hl:n<1
   .rw[ae (by simpa using hl)]
   .rw[ai (by simpa using hl),ae (by simp;omega)]
  rcases hc with rfl | rfl
  .rw[ai (by decide)];exact key
  .rw[ae (by decide),ai (by decide)];exact key
 have q:(Zv (1<=n)&&Zv (n<=4294967295))=Zf:=by simp;omega
 have q2:(c==(1:Int)||c==(2:Int))=Zf:=by simpa using hc
 rw[q,q2,Kerb.SS hc hn.1 hn.2];rcases hc with rfl | rfl
 .rw[ai (by decide),ai (by simp;omega),ai (by simp;omega)];rfl
 .rw[ae (by decide),ai (by decide),ai (by simp;omega),ai (by simp;omega)];rfl
theorem alX:Wk 197 1 DR:=by
 refine g8 Tryz.func197 λ_ _ _ h=> ?_;unfold DR at h;split at h;case h_2=>cases h
 rename_i s bad;obtain⟨aI,rfl⟩:=ja h;refine jI (Zp (bh (λst=>bg st λb r=>bg r λg r=>az r λk r=>af AI r λn r=>ak r (aK (Zv (n<(Zw b:Int))) (ax (Zv (0<=n)&&Zv (n<(Zw b:Int))) (aK (Zv ((↑(Zg (Zj b (Zx n) (0:UInt8))):Int)<(↑(Zg (33:UInt8)):Int))) (Zd (Yy (Xn,[Yu b,Yu g,Zu Yn,Zy AI n]))) (ax (Zv (0<=n)&&Zv (n<(Zw b:Int))) (aK (Zv ((↑(Zg (Zj b (Zx n) (0:UInt8))):Int)>(↑(Zg (126:UInt8)):Int))) (Zd (Yy (Xn,[Yu b,Yu g,Zu Yn,Zy AI n]))) (Zp (bh (λst=>bg st λb r=>bg r λa r=>az r λf r=>af AI r λn r=>af AI r λd r=>ak r (aK (Zv (d<(Zw a:Int))) (ax (Zv (0<=n)&&Zv (n<(Zw b:Int))) (ax (Zv (0<=d)&&Zv (d<(Zw a:Int))) (aK (Zj b (Zx n) (0:UInt8)==Zj a (Zx d) (0:UInt8)) (Zd (Yy (Xn,[Yu b,Yu a,Zu Yn,Zy AI n,Zy AI d]))) (Zd (Yp [Yu b,Yu a,Zu f,Zy AI n,Zy AI (Zz AI (d+1))]))))) (Zd (Yy (Yq 2,[Yu b,Yu a,Zu f,Zy AI n,Zy AI d]))))) [Yu b,Yu g,Zu k,Zy AI n,Zy AI 0]) λ(r:Ex×List AV)=>bg (Yf r) λb u=>bg u λa q=>az q λf t=>af AI t λn p=>af AI p λd v=>ak v (kJ r.1 (Zd (Yy (Xn,[Yu b,Yu a,Zu f,Zy AI n]))) λj=>aK (Ym j 2) (Zd (Yp [Yu b,Yu a,Zu f,Zy AI (Zz AI (n+1))])) Wq)))))) (Zd (Yy (Yq 0,[Yu b,Yu g,Zu k,Zy AI n]))))) [Yu s,Yu bad,Zu Yn,Zy AI 0]) λ(r:Ex×List AV)=>bg (Yf r) λb u=>bg u λg q=>az q λk t=>af AI t λn p=>ak p (kJ r.1 (Zd (Zu k,[])) λj=>aK (Ym j 0) (Zd (Zu (Zv ((Zw b:Int)<=39)),[])) Wq)) ?_;dsimp only[bg,az,af];simp only[Zm,Qa2] at aI;refine bS (λi:Nat=>[Yu s,Yu bad,Zu Yn,Zy Zq (i:Int)]) (λi=>i<=s.length/\Kerb.dO s bad=Kerb.dO (s.drop i) bad) (λi=>s.length-i)
  (λr=>∃ i:Nat,r.2=[Yu s,Yu bad,Zu Yn,Zy Zq (i:Int)]/\((r.1 = .ret/\Kerb.dO s bad=Yn)\/(r.1 = .exit 0/\Kerb.dO s bad=Zf))) 0 ⟨Xd _,rfl⟩ rfl ?_ ?_
 .rintro i ⟨hi,hp⟩;simp only[A0];by_cases fR:i<s.length
  .have hc:(Zv ((0:Int)<=(i:Int))&&Zv ((i:Int)<(s.length:Int)))=Zf:=by simp;omega
   have hd:=Kerb.oE fR;rw[ae (by simp;omega),aq hc,Yz];have m:Kerb.dO (s.drop i) bad=(Kerb.okB bad (s.getD i 0)&&Kerb.dO (s.drop (i+1)) bad):=by rw[hd];rfl
   generalize x:s.getD i 0=c at *;by_cases h1:c.toNat<33
   .rw[ae (by simp;omega)];exact⟨_,rfl,i,rfl,.inl ⟨rfl,by rw[hp,m];simp[Kerb.okB,h1]⟩⟩
   rw[ai (by simp;omega),aq hc];by_cases h2:126<c.toNat
   .rw[ae (by simp;omega)];exact⟨_,rfl,i,rfl,.inl ⟨rfl,by rw[hp,m];simp[Kerb.okB,h2]⟩⟩
   rw[ai (by simp;omega)];refine Hq (λj:Nat=>[Yu s,Yu bad,Zu Yn,Zy Zq (i:Int),Zy Zq (j:Int)]) (λj=>j<=bad.length/\(c∈bad↔c∈bad.drop j)) (λj=>bad.length-j)
    (λr=>∃ j:Nat,r.2=[Yu s,Yu bad,Zu Yn,Zy Zq (i:Int),Zy Zq (j:Int)]/\((r.1 = .ret/\c∈bad)\/(r.1 = .exit 2/\c ∉ bad))) 0 ⟨Xd _,by simp⟩ rfl ?_ ?_
   .rintro j ⟨hj,hm⟩;simp only[A0];by_cases w:j<bad.length
    .have o:=Kerb.oE w;rw[ae (by simp;omega),aq hc,aq (by simp;omega),Yz,Yz,x];rw[o,List.mem_cons] at hm;by_cases h3:c=bad.getD j 0
     .rw[ae (by simpa using h3)];exact⟨_,rfl,j,rfl,.inl ⟨rfl,hm.2 (.inl h3)⟩⟩
     .rw[ai (by simpa using h3),wrap_i64 (by omega) (by omega)];exact⟨_,rfl,j+1,rfl,⟨by omega,hm.trans ⟨λh=>h.resolve_left h3,.inr⟩⟩,by dsimp only;omega⟩
    .rw[ai (by simp;omega)];refine⟨_,rfl,j,rfl,.inr ⟨rfl,?_⟩⟩;rw[hm,Wz (by omega)];simp
   .rintro⟨e,l⟩ ⟨j,rfl,⟨rfl,h3⟩ | ⟨rfl,h3⟩⟩
    .simp only[A0];exact⟨_,rfl,i,rfl,.inl ⟨rfl,by rw[hp,m];simp[Kerb.okB,h3]⟩⟩
    .simp only[A0];rw[ae (Yx _),wrap_i64 (by omega) (by omega)];exact⟨_,rfl,i+1,rfl,⟨by omega,by rw[hp,m];simp[Kerb.okB,h1,h2,h3]⟩,by dsimp only;omega⟩
  .rw[ai (by simp;omega)];exact⟨_,rfl,i,rfl,.inr ⟨rfl,by rw[hp,Wz (by omega)];rfl⟩⟩
 .rintro⟨e,l⟩ ⟨i,rfl,⟨rfl,hp⟩ | ⟨rfl,hp⟩⟩
  .simp only[A0,hp];rfl
  .simp only[A0,hp];rw[ae (Yx _),decide_eq_decide.2 (show((s.length:Int)<=39)↔s.length<=39 from by omega)];rfl
theorem al0:Wk 204 1 Ua:=by
 refine g8 Tryz.func204 λ_ _ _ h=> ?_;unfold Ua at h;split at h;case h_2=>cases h
 rename_i b;cases h;refine jI (let t0:Int:=Zz AI (↑(Zg (Yw (Zx (Zz .u8 (Wu (↑(Zg (Zj b (Zx 1) (0:UInt8))):Int) (↑(Zg (2:UInt8)):Int)))))):Int);let t1:Option (AV×aO):=Zd (Xy [Zy AI 0,Zu Yn,Zy AI 40],[]);aK (Zv ((Zw b:Int)<2)) (Zd (Xy [Zy AI 0,Zu Yn,Zy AI 101],[])) (ax (Zv (0<(Zw b:Int))) (aK (!Zj b (Zx 0) (0:UInt8)==(4:UInt8)) (Zd (Xy [Zy AI 0,Zu Yn,Zy AI 39],[])) (ax (Zv (1<(Zw b:Int))) (aK (Zv (t0<1)) t1 (aK (Zv (t0>10)) t1 (ax (Zv (1<(Zw b:Int))) (Zd (Xy [Zy AI t0,Zu (Yw (Zx (Xz (↑(Zg (Zj b (Zx 1) (0:UInt8))):Int) (↑(Zg (2:UInt8)):Int)))==(1:UInt8)),Zy AI 0],[]))))))))) ?_;try dsimp only[bg,dg,az,lR,af,eg,jM]
 unfold Kerb.bm;by_cases h1:b.length<2
 .rw[ae (by simp;omega)];simp[h1]
 rw[ai (by simp;omega),aq (by simp;omega),Qa0 h1];by_cases h2:b.getD 0 0=4
 .have hb:=(b.getD 1 0).toNat_lt;have e:Zz Zq ((Yw (Zx (Zz IntKind.u8 (Wu ((b.getD (Zx 1) 0).toNat:Int) ((2:UInt8).toNat:Int))))).toNat:Int)=(((b.getD 1 0).toNat / 2:Nat):Int):=by
   rw[show Zx 1=1 from rfl,show((2:UInt8).toNat:Int)=2 from rfl,Wv (by omega),Kerb.wrap_u8];have a:Zx (((b.getD 1 0).toNat:Int) / 2 % 256)=(b.getD 1 0).toNat / 2:=by omega
   rw[a,UInt8.toNat_ofNat_of_lt' (by show _<256;omega),wrap_i64 (by omega) (by omega)]
  have e2:(Yw (Zx (Xz ((b.getD (Zx 1) 0).toNat:Int) ((2:UInt8).toNat:Int)))==1)=Zv ((b.getD 1 0).toNat % 2=1):=by
   rw[show Zx 1=1 from rfl,Xb (by omega)];have a:Zx (((b.getD 1 0).toNat:Int) % ((2:UInt8).toNat:Int))=(b.getD 1 0).toNat % 2:=by
    show Zx (((b.getD 1 0).toNat:Int) % 2)=_;omega
   rw[a];rcases Nat.mod_two_eq_zero_or_one (b.getD 1 0).toNat with h | h<;>rw[h]<;>rfl
  rw[ai (by simp[h2] at *;exact h2),aq (by simp;omega),Qa0 (by simpa using h2),e,e2];generalize (b.getD 1 0).toNat / 2=m;unfold Xm;by_cases h3:1<=m;case neg =>
   rw[ae (by simp;omega),Qa0 (by simp;omega)]
  by_cases h4:m<=10;case neg =>
   rw[ai (by simp;omega),ae (by simp;omega),Qa0 (by simp;omega)]
  rw[ai (by simp;omega),ai (by simp;omega),aq (by simp;omega),Qa1 (by simp;omega)]
 .rw[ae (by simpa using h2),Qa1 (by simpa using h2)]
theorem al4:Wk 232 1 DS:=by
 refine g8 Tryz.func232 λ_ _ _ h=> ?_;unfold DS at h;split at h;case h_2=>cases h
 rename_i b n k By;obtain⟨aI,rfl⟩:=ja h;refine jI (ax (room (Zw b) 1) (Zp (bh (λst=>af AI st λn r=>af AI r λd r=>az r λb r=>ar r λx r=>AV.fS x λc=>af AI r λa r=>let t1:Int:=Zz AT (Zz AI (8*Zz AI (Zz AI (d-1)-a)));let t2:List UInt8:=[Yw (Zx (Zz .u8 (Xu (Zz AT n) (2 ^ min (Zx (Zz AT (Zz AI (8*a)))) (Zk AT)))))];let t0:List UInt8:=[Yw (Zx (Zz .u8 (Xu (Zz AT n) (2 ^ min (Zx t1) (Zk AT)))))];ak r (aK (Zv (a<d)) (aK b (ax (Zv (0<=Zz AT (Zz AI (8*a)))) (ax (room (Zw c+Zw t2) 1) (Zd (Yp [Zy AI n,Zy AI d,Zu b,Xk (c++t2),Zy AI (Zz AI (a+1))])))) (ax (Zv (0<=t1)) (ax (room (Zw c+Zw t0) 1) (Zd (Yp [Zy AI n,Zy AI d,Zu b,Xk (c++t0),Zy AI (Zz AI (a+1))]))))) (Zd (Yy (Yq 0,[Zy AI n,Zy AI d,Zu b,Xk c,Zy AI a]))))) [Zy AI n,Zy AI k,Zu By,Xk b,Zy AI 0]) λ(r:Ex×List AV)=>af AI (Yf r) λn p=>af AI p λn m=>az m λb o=>ar o λx g=>AV.fS x λb=>af AI g λn f=>ak f (kJ r.1 Wq λj=>aK (Ym j 0) (Zd (Xk b,[])) Wq))) ?_;try dsimp only[bg,dg,az,lR,af,eg,jM]
 simp only[Zm,Qa2] at aI;obtain⟨hk,hb⟩:=aI;have q:k.toNat<=4/\0<=k:=by omega
 rw[aq (Wy (by omega))];refine bS (λi:Nat=>[Zy Zq n,Zy Zq k,Zu By,Xk (b++(Kerb.aD n k.toNat By).take i),Zy Zq (i:Int)]) (λi=>i<=k.toNat) (λi=>k.toNat-i)
  (λr=>r=(Yq 0,[Zy Zq n,Zy Zq k,Zu By,Xk (b++Kerb.aD n k.toNat By),Zy Zq k])) 0 (Xd _) (by simp) ?_ ?_
 .intro i hi;simp only[A0];by_cases fR:i<k.toNat
  .have hs:=Kerb.vT (l:=Kerb.aD n k.toNat By) (i:=i) (by rw[Kerb.aP];omega);have hg:=Kerb.AG n k.toNat By fR;have hl:((Kerb.aD n k.toNat By).take i).length=i:=by simp[Kerb.aP];omega
   rw[ae (by simp;omega)];have hw:∀ j:Nat,j<4->Zz Yb (Zz Zq (8*(j:Int)))=((8*j:Nat):Int):=λj hj=>by
    rw[wrap_i64 (by omega) (by omega),Kerb.wrap_u64];omega
   have hm:∀ j:Nat,j<4->min (Zx ((8*j:Nat):Int)) (Zk Yb)=8*j:=λj hj=>by
    have:Zk Yb=64:=rfl;rw[this];omega
   cases By
   .have e:Zz Zq (Zz Zq (k-1)-(i:Int))=((k.toNat-1-i:Nat):Int):=by
     rw[wrap_i64 (n:=k-1) (by omega) (by omega),wrap_i64 (by omega) (by omega)];omega
    rw[ai rfl,e,hw _ (by omega),hm _ (by omega),Kerb.aae n (by omega),aq (by simp;omega),aq (Wy (by simp[hl];omega)),wrap_i64 (by omega) (by omega)];refine⟨_,rfl,i+1,?_,by omega,by dsimp only;omega⟩;dsimp only;rw[hs,hg,<-List.append_assoc];rfl
   .rw[ae rfl,hw _ (by omega),hm _ (by omega),Kerb.aae n (by omega),aq (by simp;omega),aq (Wy (by simp[hl];omega)),wrap_i64 (by omega) (by omega)];refine⟨_,rfl,i+1,?_,by omega,by dsimp only;omega⟩;dsimp only;rw[hs,hg,<-List.append_assoc];rfl
  .rw[ai (by simp;omega)];refine⟨_,rfl,?_⟩;show _=_;rw[Yd (by rw[Kerb.aP];omega),show(i:Int)=k from by omega]
 .rintro r rfl;simp only[A0];rw[ae (Yx _)]
theorem al6:Wk 235 1 Uc:=by
 refine g8 Tryz.func235 λ_ _ _ h=> ?_;unfold Uc at h;split at h;case h_2=>cases h
 rename_i k;obtain⟨aI,rfl⟩:=ja h;refine jI (Zp (bh (λst=>af AT st λn r=>ar r λx r=>AV.fS x λb=>af AI r λa r=>let t0:List UInt8:=[Yw (Zx (Zz .u8 (Xu n (2 ^ min (Zx (Zz AT (Zz AI (8*a)))) (Zk AT)))))];ak r (aK (Zv (a>=0)) (ax (Zv (0<=Zz AT (Zz AI (8*a)))) (ax (room (Zw b+Zw t0) 1) (Zd (Yp [Zy AT n,Xk (b++t0),Zy AI (Zz AI (a-1))])))) (Zd (Yy (Yq 0,[Zy AT n,Xk b,Zy AI a]))))) [Zy AT k,Xk [],Zy AI 7]) λ(r:Ex×List AV)=>af AT (Yf r) λn e=>ar e λx c=>AV.fS x λb=>af AI c λn d=>ak d (kJ r.1 Wq λj=>aK (Ym j 0) (Zd (Yk b,[])) Wq)) ?_;try dsimp only[bg,dg,az,lR,af,eg,jM]
 refine jN 9 (Yq 0,[Zy Yb k,Xk [Xg k 56,Xg k 48,Xg k 40,Xg k 32,Xg k 24,Xg k 16,Xg k 8,Xg k 0],Zy Zq (-1)]) (by kernel_rfl) ?_;simp only[A0];rw[ae (Yx _)];simp[Kerb.uW,Kerb.keyBytes,Kerb.eY,List.range_succ]
theorem al7:Wk 236 1 Ud:=by
 refine g8 Tryz.func236 λ_ _ _ h=> ?_;unfold Ud at h;split at h;case h_2=>cases h
 rename_i b;obtain⟨aI,rfl⟩:=ja h;refine jI (ax (room (Zw b) 1) (Zp (bh (λst=>ar st λx r=>AV.fS x λb=>ak r (aK (!Xz (Zw b:Int) 8==0) (ax (room (Zw b+Zw [(0:UInt8)]) 1) (Zd (Yp [Xk (b++[(0:UInt8)])]))) (Zd (Yy (Yq 0,[Xk b]))))) [Xk b]) λ(r:Ex×List AV)=>ar (Yf r) λx a=>AV.fS x λb=>ak a (kJ r.1 Wq λj=>aK (Ym j 0) (Zd (Xk b,[])) Wq))) ?_;have hb:=Qa3 aI;rw[aq (Wy (by omega))];refine bS (λi:Nat=>[Xk (b++List.replicate i 0)]) (λi=>i<=(8-b.length % 8) % 8) (λi=>(8-b.length % 8) % 8-i)
  (λr=>r=(Yq 0,[Xk (Kerb.pad b)])) 0 (by omega) (by simp) ?_ ?_
 .intro i hi;simp only[A0];have e:Xz ((b++List.replicate i 0).length:Int) 8=(((b.length+i) % 8:Nat):Int):=by
   rw[Xb (by omega)];simp
  rw[e];by_cases fR:i<(8-b.length % 8) % 8
  .rw[ae (by simp;omega),aq (Wy (by simp;omega))];refine⟨_,rfl,i+1,?_,by omega,by dsimp only;omega⟩;dsimp only;rw[List.replicate_succ',List.append_assoc]
  .rw[ai (by simp;omega)];refine⟨_,rfl,?_⟩;show _=_;rw[Kerb.pad,show i=(8-b.length % 8) % 8 from by omega]
 rintro r rfl;simp only[A0];rw[ae (Yx _)]
theorem amr:Wk 260 1 KQ:=by
 refine g8 Tryz.func260 λ_ _ _ h=> ?_;unfold KQ at h;split at h;case h_2=>cases h
 rename_i x;obtain⟨aI,rfl⟩:=ja h;refine Fh [0] (let t2:Int:=Zz AT (↑(BitVec.toNat (BitVec.ofInt (Zk AT) x ^^^ BitVec.ofInt (Zk AT) (Zz AT (x*2 ^ min (Zx 13) (Zk AT))))):Int);let t1:Int:=Zz AT (↑(BitVec.toNat (BitVec.ofInt (Zk AT) t2 ^^^ BitVec.ofInt (Zk AT) (Xu t2 (2 ^ min (Zx 7) (Zk AT))))):Int);let t0:AV:=Zy AT (Zz AT (↑(BitVec.toNat (BitVec.ofInt (Zk AT) t1 ^^^ BitVec.ofInt (Zk AT) (Zz AT (t1*2 ^ min (Zx 17) (Zk AT))))):Int));Zd (t0,[[t0]])) ?_;try dsimp only[bg,dg,az,lR,af,eg,jM]
 simp only[Zm,Qa2] at aI;obtain⟨h0,h1⟩:=aI;obtain⟨v,rfl⟩:∃ v:BitVec 64,x=(v.toNat:Int):=⟨BitVec.ofNat 64 x.toNat,by rw[BitVec.toNat_ofNat];omega⟩;exact Qb4 (λz=>Zd (Zy AT z,[[Zy AT z]])) (Kerb.U8 v)
theorem ang:Wk 365 1 Uk:=by
 refine g8 Tryz.func365 λ_ _ _ h=> ?_;unfold Uk at h;split at h;case h_2=>cases h
 rename_i k els;obtain⟨aI,rfl⟩:=ja h;refine jI (Zp (bh (λst=>af AI st λn r=>az r λb r=>eg 1 r λc r=>af AI r λd r=>af AI r λa r=>ak r (aK (Zv (a<d)) (ax (Zv (0<=a)&&Zv (a<(Zw c:Int))&&Zf) (Yg AI (Zj c (Zx a) Zn) λo=>aK (o==n) (Zd (Yy (Xn,[Zy AI n,Zu Zf,Xx 1 c,Zy AI d,Zy AI a]))) (Zd (Yp [Zy AI n,Zu b,Xx 1 c,Zy AI d,Zy AI (Zz AI (a+1))])))) (Zd (Yy (Yq 0,[Zy AI n,Zu b,Xx 1 c,Zy AI d,Zy AI a]))))) [Zy AI k,Zu Yn,Xx 1 els,Zy AI (Zw els:Int),Zy AI 0]) λ(r:Ex×List AV)=>af AI (Yf r) λn s=>az s λb p=>eg 1 p λc q=>af AI q λn m=>af AI m λn f=>ak f (kJ r.1 (Zd (Zu b,[])) λj=>aK (Ym j 0) (Zd (Zu Yn,[])) Wq)) ?_;dsimp only[az,af,eg];simp only[Zm,Qa2] at aI;obtain⟨ha,hl⟩:=aI;have g:=Kerb.CZ ha;refine bS (λi:Nat=>[Zy Zq k,Zu Yn,Xx 1 els,Zy Zq (els.length:Int),Zy Zq (i:Int)]) (λi=>i<=els.length/\(k∈gf els↔k∈(gf els).drop i)) (λi=>els.length-i)
  (λr=>∃ (i:Nat) (x:Bool),r.2=[Zy Zq k,Zu x,Xx 1 els,Zy Zq (els.length:Int),Zy Zq (i:Int)]/\((r.1 = .ret/\x=Zf/\k∈gf els)\/(r.1 = .exit 0/\k ∉ gf els))) 0 ⟨Xd _,by simp⟩ rfl ?_ ?_
 .rintro i ⟨hi,hm⟩;simp only[A0];by_cases fR:i<els.length
  .obtain⟨n,h1,h2⟩:=Kerb.CY ha fR;rw[ae (by simp;omega),aq (by simp;omega),Yz,h1,sO];rw[h2,List.mem_cons] at hm;by_cases h3:n=k
   .rw[ae (by simpa using h3)];exact⟨_,rfl,i,Zf,rfl,.inl ⟨rfl,rfl,hm.2 (.inl h3.symm)⟩⟩
   .rw[ai (by simpa using h3),wrap_i64 (by omega) (by omega)];exact⟨_,rfl,i+1,rfl,⟨by omega,hm.trans ⟨λh=>h.resolve_left λe=>h3 e.symm,.inr⟩⟩,by dsimp only;omega⟩
  .rw[ai (by simp;omega)];refine⟨_,rfl,i,Yn,rfl,.inr ⟨rfl,?_⟩⟩;rw[hm,Wz (by omega)];simp
 .rintro⟨e,l⟩ ⟨i,x,rfl,⟨rfl,rfl,h⟩ | ⟨rfl,h⟩⟩
  .simp[ar,Yg,AV.dw,AV.fN,ak,kJ,h]
  .simp[ar,Yg,AV.dw,AV.fN,ak,kJ,h,aK]
theorem anz:Wk 383 1 Up:=by
 refine g8 Tryz.func383 λ_ _ _ h=> ?_;unfold Up at h;split at h;case h_2=>cases h
 rename_i nx e B at_ bad;cases h;refine Fh [0] (aK bad (Zd (Zu Yn,[[Yk B,Zy AI at_,Zu Zf]])) (aK (!e==0) (Zd (Zu Yn,[[Yk B,Zy AI at_,Zu Zf]])) (Zd (Zu Zf,[[Yk B,Zy AI nx,Zu bad]])))) ?_;cases bad
 .cases (e==0)<;>rfl
 .rfl
theorem anF:Wk 389 1 Uq:=by
 refine g8 Tryz.func389 λ_ _ _ h=> ?_;unfold Uq at h;split at h;case h_2=>cases h
 rename_i nx e B at_ bad;cases h;refine Fh [0] (aK (!e==0) (Zd (Xy [],[[Yk B,Zy AI at_,Zu Zf]])) (Zd (Xy [],[[Yk B,Zy AI nx,Zu bad]]))) ?_;cases bad<;>cases (e==0)<;>rfl
theorem anP:Wk 401 1 Us:=by
 refine g8 Tryz.func401 λ_ _ _ h=> ?_;unfold Us at h;split at h;case h_2=>cases h
 rename_i nx e B at_ li bad;cases h;refine Fh [0] (aK bad (Zd (Xy [],[[Yk B,Zy AI at_,Zu li,Zu Zf]])) (aK (!e==0) (Zd (Xy [],[[Yk B,Zy AI at_,Zu li,Zu Zf]])) (Zd (Xy [],[[Yk B,Zy AI nx,Zu li,Zu bad]])))) ?_;cases bad
 .cases (e==0)<;>rfl
 .rfl
theorem anS:Wk 404 1 DY:=by
 refine g8 Tryz.func404 λ_ _ _ h=> ?_;unfold DY at h;split at h;case h_2=>cases h
 rename_i b pos n;obtain⟨aI,rfl⟩:=ja h;refine jI (let t0:Option (AV×aO):=Zd (Xy [Yk [],Zy AI 0,Zy AI 104],[]);aK (Zv (pos<0)) t0 (aK (Zv (pos>(Zw b:Int))) t0 (aK (Zv (n<0)) t0 (aK (Zv (n>Zz AI ((Zw b:Int)-pos))) (Zd (Xy [Yk [],Zy AI 0,Zy AI 101],[])) (ax (Zv (0<=pos)&&Zv (pos<=Zz AI (pos+n))&&Zv (Zz AI (pos+n)<=(Zw b:Int))) (ax (room (Zw (Xv (Zx pos) (Xp (Zx (Zz AI (pos+n))) b))) 1) (Zd (Xy [Yk (Xv (Zx pos) (Xp (Zx (Zz AI (pos+n))) b)),Zy AI (Zz AI (pos+n)),Zy AI 0],[])))))))) ?_;try dsimp only[bg,dg,az,lR,af,eg,jM]
 have hb:=Qa3 aI;unfold Kerb.bytes;by_cases h1:pos<0
 .have e:Xf b pos n=104:=by unfold Xf;rw[Qa1 (by omega)]
  rw[ae (by simpa using h1),e];rfl
 rw[ai (by simpa using h1)];by_cases h2:(b.length:Int)<pos
 .have e:Xf b pos n=104:=by unfold Xf;rw[Qa1 (by omega)]
  rw[ae (by simpa using h2),e];rfl
 rw[ai (by simpa using h2)];by_cases h3:n<0
 .have e:Xf b pos n=104:=by unfold Xf;rw[Qa1 (by omega)]
  rw[ae (by simpa using h3),e];rfl
 rw[ai (by simpa using h3),wrap_i64 (n:=(b.length:Int)-pos) (by omega) (by omega)];by_cases h4:(b.length:Int)-pos<n
 .have e:Xf b pos n=101:=by unfold Xf;rw[Qa0 (by omega),Qa1 h4]
  rw[ae (by simpa using h4),e];rfl
 have hr:Xf b pos n=0:=Kerb.iA.2 (by omega);have e:Xv (Zx pos) (Xp (Zx (pos+n)) b)=Kerb.cut b pos n:=by
  rw[show Zx (pos+n)=pos.toNat+n.toNat by omega,List.drop_take,show pos.toNat+n.toNat-pos.toNat=n.toNat by omega];rfl
 have hc:=Kerb.jl hr;rw[ai (by simpa using h4),Qa1 hr,wrap_i64 (by omega) (by omega),e,aq (by simp;omega),aq (Wy (by omega))]
theorem anT:Wk 405 1 KY:=by
 refine g8 Tryz.func405 λ_ _ _ h=> ?_;unfold KY at h;split at h;case h_2=>cases h
 rename_i b pos;obtain⟨aI,rfl⟩:=ja h;refine jI (aK (Zv (pos<0)) (Zd (Xy [Yu [],Zy AI 0,Zy AI 104],[])) (aK (Zv (pos>(Zw b:Int))) (Zd (Xy [Yu [],Zy AI 0,Zy AI 104],[])) (Zp (bh (λst=>dg st λb r=>af AI r λn r=>bg r λw r=>af AI r λm r=>af AI r λt r=>af AI r λa r=>ak r (aK (Zv (a<=39)) (aK (Zv (Zz AI (n+a)>=(Zw b:Int))) (Zd (Yy (Xn,[Yk b,Zy AI n,Yu [],Zy AI 0,Zy AI 101,Zy AI a]))) (ax (Zv (0<=Zz AI (n+a))&&Zv (Zz AI (n+a)<(Zw b:Int))) (aK (Zj b (Zx (Zz AI (n+a))) (0:UInt8)==(0:UInt8)) (ax (Zv (0<=n)&&Zv (n<=Zz AI (n+a))&&Zv (Zz AI (n+a)<=(Zw b:Int))) (Zd (Yy (Xn,[Yk b,Zy AI n,Yu (Xv (Zx n) (Xp (Zx (Zz AI (n+a))) b)),Zy AI (Zz AI (Zz AI (n+a)+1)),Zy AI 0,Zy AI a])))) (Zd (Yp [Yk b,Zy AI n,Yu w,Zy AI m,Zy AI t,Zy AI (Zz AI (a+1))]))))) (Zd (Yy (Yq 0,[Yk b,Zy AI n,Yu w,Zy AI m,Zy AI t,Zy AI a]))))) [Yk b,Zy AI pos,Yu [],Zy AI 0,Zy AI 0,Zy AI 0]) λ(r:Ex×List AV)=>dg (Yf r) λb E=>af AI E λn C=>bg C λb D=>af AI D λn B=>af AI B λm y=>af AI y λt x=>ak x (kJ r.1 (Zd (Xy [Yu b,Zy AI n,Zy AI m],[])) λj=>aK (Ym j 0) (Zd (Xy [Yu [],Zy AI 0,Zy AI 105],[])) Wq)))) ?_;dsimp only[bg,dg,af];have hb:=Qa3 aI;unfold Kerb.text;by_cases h1:pos<0
 .rw[ae (by simpa using h1),Qa0 (by rw[Kerb.iA];omega)]
 rw[ai (by simpa using h1)];by_cases h2:(b.length:Int)<pos
 .rw[ae (by simpa using h2),Qa0 (by rw[Kerb.iA];omega)]
 rw[ai (by simpa using h2),Qa1 (Kerb.iA.2 (by omega))];obtain⟨R,hR⟩:∃ R,R=b.drop pos.toNat:=⟨_,rfl⟩;have A:R.length=b.length-pos.toNat:=by rw[hR];simp
 rw[<-hR];obtain⟨T,c⟩:∃ T,T=R.take 40:=⟨_,rfl⟩;rw[<-c];have d:=Kerb.qA 0 T;refine bS (λi:Nat=>[Yk b,Zy Zq pos,Yu [],Zy Zq 0,Zy Zq 0,Zy Zq (i:Int)]) (λi=>i<=40/\i<=R.length/\(0:UInt8) ∉ R.take i) (λi=>40-i)
  (λr=>∃ (i:Nat) (v:List UInt8) (nx e:Int),r.2=[Yk b,Zy Zq pos,Yu v,Zy Zq nx,Zy Zq e,Zy Zq (i:Int)] /\
   ((r.1 = .ret/\v=[]/\nx=0/\e=101/\Ww 0 T<0/\T.length≠40)\/(r.1 = .ret/\Ww 0 T=i/\v=T.take i/\nx=pos+i+1/\e=0)\/(r.1 = .exit 0/\Ww 0 T<0/\T.length=40))) 0 ⟨by omega,by omega,by simp⟩ rfl ?_ ?_
 .rintro i ⟨hi,z,h0⟩;simp only[A0];by_cases fR:i<=39;case neg =>
   have s:i=40:=by omega
   subst s;rw[ai (by decide)];refine⟨_,rfl,40,[],0,0,rfl,.inr (.inr ⟨rfl,?_,?_⟩)⟩
   .rw[<-c] at h0;have:=mt d.1 h0;omega
   .rw[c];simp;omega
  rw[ae (by simp;omega),wrap_i64 (n:=pos+(i:Int)) (by omega) (by omega)];by_cases k:(b.length:Int)<=pos+i
  .rw[ae (by simpa using k)];have g:T=R.take i:=by rw[c,Yd (by omega),Yd (by omega)]
   refine⟨_,rfl,i,[],0,101,rfl,.inl ⟨rfl,rfl,rfl,rfl,?_,?_⟩⟩
   .rw[<-g] at h0;have:=mt d.1 h0;omega
   .rw[g];simp;omega
  have f:i<R.length:=by omega
  have hd:=Kerb.oE f;have o:b.getD (pos+(i:Int)).toNat 0=R.getD i 0:=by
   rw[show(pos+(i:Int)).toNat=pos.toNat+i by omega,hR];simp[List.getD_eq_getElem?_getD]
  rw[ai (by simpa using k),aq (by simp;omega),o];by_cases hz:R.getD i 0=0
  .rw[ae (by rw[hz];rfl),aq (by simp;omega),wrap_i64 (by omega) (by omega)];have p:T.take i=R.take i:=by rw[c,List.take_take,Nat.min_eq_left (by omega)]
   have q:T=R.take i++0::(R.drop (i+1)).take (39-i):=by
    rw[c];have:R=R.take i++(0::R.drop (i+1)):=by rw[<-hz,<-hd,List.take_append_drop]
    have hl:(R.take i).length=i:=by simp;omega
    calc R.take 40=(R.take i++(0::R.drop (i+1))).take 40:=by rw[<-this]
     _=_:=by rw[List.take_append,hl,Yd (by omega),show 40-i=(39-i)+1 by omega,List.take_succ_cons]
   have u:Ww 0 T=i:=by
    rw[q,Kerb.qz h0];simp;omega
   refine⟨_,rfl,i,_,_,0,rfl,.inr (.inl ⟨rfl,u,?_,rfl,rfl⟩)⟩;rw[p,hR,show(pos+(i:Int)).toNat=pos.toNat+i by omega,List.drop_take,show pos.toNat+i-pos.toNat=i by omega]
  .rw[ai (beq_eq_false_iff_ne.2 hz),wrap_i64 (by omega) (by omega)];refine⟨_,rfl,i+1,rfl,⟨by omega,by omega,?_⟩,by dsimp only;omega⟩;rw[Kerb.vT f];simp only[List.mem_append,List.mem_singleton,not_or];exact⟨h0,λe=>hz e.symm⟩
 .rintro⟨e,l⟩ ⟨i,v,nx,er,rfl,⟨rfl,rfl,rfl,rfl,g1,g2⟩ | ⟨rfl,g1,rfl,rfl,rfl⟩ | ⟨rfl,g1,g2⟩⟩
  .simp only[A0];rw[Qa0 (by omega),Qa0 g2]
  .simp only[A0];rw[Qa1 (by omega),g1,Yz]
  .simp only[A0];rw[Qa0 (by omega),Qa1 g2,ae (Yx _)]
theorem an0:Wk 416 1 Uv:=by
 refine g8 Tryz.func416 λ_ _ _ h=> ?_;unfold Uv at h;split at h;case h_2=>cases h
 rename_i l;cases h;refine jI (aK (l==[(103:UInt8),(84:UInt8),(71:UInt8),(83:UInt8)]) (Zd (Zu Zf,[])) (Zd (Zu (l==[(103:UInt8),(84:UInt8),(75:UInt8),(84:UInt8)]),[]))) ?_;unfold Kerb.lQ;show aK (l==Kerb.zm) _ (Zd (Zu (l==Kerb.ng),[]))=_;cases (l==Kerb.zm)<;>rfl
theorem an3:Wk 419 1 Ux:=by
 refine g8 Tryz.func419 λ_ _ _ h=> ?_;unfold Ux at h;split at h;case h_2=>cases h
 rename_i l;cases h;refine jI (aK (l==[(116:UInt8),(103:UInt8),(115:UInt8),(84:UInt8)]) (Zd (Zu Zf,[])) (Zd (Zu (l==[(116:UInt8),(107:UInt8),(116:UInt8),(71:UInt8)]),[]))) ?_;unfold Kerb.fh;show aK (l==Kerb.Hi) _ (Zd (Zu (l==Kerb.xQ),[]))=_;cases (l==Kerb.Hi)<;>rfl
theorem aoa:Wk 428 1 DZ:=by
 refine g8 Tryz.func428 λ_ _ _ h=> ?_;unfold DZ at h;split at h;case h_2=>cases h
 rename_i k;obtain⟨aI,rfl⟩:=ja h;refine jI (Zp (bh (λst=>af AT st λn r=>ar r λx r=>AV.fS x λb=>af AI r λc r=>af AI r λa r=>ak r (aK (Zv (a<c)) (ax (Zv (0<=Zz AI (8*Zz AI (7-a)))) (ax (Zv (0<=a)&&Zv (a<(Zw b:Int))) (ax (Zb (Zx a) (Zw b)&&Zf&&Zf&&Zf&&Zf) (Zd (Yp [Zy AT n,Xk (Zh b (Zx a) (Yw (Zx (Zz .u8 (Xu n (2 ^ min (Zx (Zz AI (8*Zz AI (7-a)))) (Zk AT))))))),Zy AI c,Zy AI (Zz AI (a+1))]))))) (Zd (Yy (Yq 0,[Zy AT n,Xk b,Zy AI c,Zy AI a]))))) [Zy AT k,Xk (List.replicate (Zx 8) (0:UInt8)),Zy AI (↑(Zw (List.replicate (Zx 8) (0:UInt8))):Int),Zy AI 0]) λ(r:Ex×List AV)=>af AT (Yf r) λn g=>ar g λx e=>AV.fS x λb=>af AI e λn f=>af AI f λn d=>ak d (kJ r.1 Wq λj=>aK (Ym j 0) (Zd (Yk b,[])) Wq)) ?_;dsimp only[af];refine jN 9 (Yq 0,[Zy Yb k,Xk [Xg k 56,Xg k 48,Xg k 40,Xg k 32,Xg k 24,Xg k 16,Xg k 8,Xg k 0],Zy Zq 8,Zy Zq 8]) (by kernel_rfl) ?_;simp only[A0];rw[ae (Yx _)];simp[Kerb.uW,Kerb.keyBytes,Kerb.eY,List.range_succ]
theorem w42:Wk 42 2 acE:=by
 refine g8 Tryz.func42 λ_ _ _ h=> ?_;unfold acE at h;split at h;case h_2=>cases h
 rename_i ks bs k;obtain⟨aI,rfl⟩:=ja h;refine jI (Zp (UE [Xx 1 ks,Zy AT k] []) (kL λb=>Zd (Zu b,[]))) ?_;delta kL;dsimp only[UE,bg,dg,az,lR,af,eg,jM];simp only[A0,Kerb.Client.av,Kerb.Cache.av,Kerb.jj.av,aI]
theorem aln:Wk 120 2 DQ:=by
 refine g8 Tryz.func120 λ_ _ _ h=> ?_;unfold DQ at h;split at h;case h_2=>cases h
 rename_i k;obtain⟨aI,rfl⟩:=ja h;refine jI (let t0:Int:=Zz AI (Zz AT (↑(BitVec.toNat (BitVec.ofInt (Zk AT) k &&& BitVec.ofInt (Zk AT) 72057594037927935)):Int));aK (!k==0) (Zd (Zu ((bif Kerb.dX (Zz AI (Xu k (2 ^ min (Zx 56) (Zk AT))))&&Kerb.dd t0 then Zz AI (Xu k (2 ^ min (Zx 56) (Zk AT)))*72057594037927936+t0 else 0)==k),[])) (Zd (Zu Yn,[]))) ?_;try dsimp only[bg,dg,az,lR,af,eg,jM]
 simp only[Zm,Qa2] at aI;obtain⟨h0,h1⟩:=aI;rw[Kerb.SQ h0 h1,Kerb.SR h0 h1,Kerb.WH];by_cases hk:k=0
 .subst hk;rfl
 rw[ae (by simpa using hk)];unfold Kerb.bf;cases Kerb.dX (Kerb.dI k)&&Kerb.dd (Kerb.dk k)
 .have q:((0:Int)==k)=Yn:=by simp;omega
  simp only[Qa7,q]
 .simp only[Qa6,BEq.rfl]
theorem alo:Wk 124 2 TV:=by
 refine g8 Tryz.func124 λ_ _ _ h=> ?_;unfold TV at h;split at h;case h_2=>cases h
 rename_i s;obtain⟨aI,rfl⟩:=ja h;refine jI (aK (Zv ((Zw s:Int)>0)) (Zp (DR [Yu s,Yu [(64:UInt8)]] []) (kL λb=>Zd (Zu b,[]))) (Zd (Zu Yn,[]))) ?_;delta kL;dsimp only[DR,bg,dg,az,lR,af,eg,jM];simp only[A0];rw[aq (by rw[aI];rfl)];simp only[Kerb.dG];cases s with
 | nil=>rfl
 | cons x r =>
  rw[ae (by first | (simp;done) | (simp;omega)),Bool.and_comm];rfl
theorem alq:Wk 131 2 TW:=by
 refine g8 Tryz.func131 λ_ _ _ h=> ?_;unfold TW at h;split at h;case h_2=>cases h
 rename_i ks bs l m;obtain⟨aI,rfl⟩:=ja h;refine jI (Kerb.aam ks bs l m) ?_;simp only[Zm,Qa2,List.all_eq_true] at aI;obtain⟨⟨⟨⟨⟨a,h1⟩,h2⟩,h3⟩,h4⟩,h5⟩:=aI;obtain⟨s,rfl,rfl,hs⟩:=Kerb.xg a;obtain⟨l,rfl⟩:=Kerb.xW h1;obtain⟨m,rfl⟩:=Kerb.Tk h2;rw[Kerb.dp] at h3;rw[Kerb.c6] at h4;rw[Kerb.lK] at h5;rw[Kerb.gS,Kerb.jE,Kerb.lK];exact Kerb.VE hs (x:=⟨l,m⟩) h3 h4 h5
theorem aly:Wk 156 2 TZ:=by
 refine g8 Tryz.func156 λ_ _ _ h=> ?_;unfold TZ at h;split at h;case h_2=>cases h
 rename_i s;obtain⟨aI,rfl⟩:=ja h;refine jI (aK (Zv ((Zw s:Int)>0)) (Zp (DR [Yu s,Yu [(46:UInt8),(64:UInt8)]] []) (kL λb=>Zd (Zu b,[]))) (Zd (Zu Yn,[]))) ?_;delta kL;dsimp only[DR,bg,dg,az,lR,af,eg,jM];simp only[A0];rw[aq (by rw[aI];rfl)];simp only[Kerb.validName];cases s with
 | nil=>rfl
 | cons x r =>
  rw[ae (by first | (simp;done) | (simp;omega)),Bool.and_comm];rfl
theorem alA:Wk 158 2 T3:=by
 refine g8 Tryz.func158 λ_ _ _ h=> ?_;unfold T3 at h;split at h;case h_2=>cases h
 rename_i b n By;obtain⟨aI,rfl⟩:=ja h;refine jI (Zp (DS [Yk b,Zy AI n,Zy AI 4,Zu By] []) (kO λl=>Zd (Xk l,[]))) ?_;delta kO;dsimp only[DS,bg,dg,az,lR,af,eg,jM];simp only[Qa2] at aI;simp only[A0];rw[aq (by simp;omega)];rfl
theorem alE:Wk 162 2 T4:=by
 refine g8 Tryz.func162 λ_ _ _ h=> ?_;unfold T4 at h;split at h;case h_2=>cases h
 rename_i b n By;obtain⟨aI,rfl⟩:=ja h;refine jI (Zp (DS [Yk b,Zy AI n,Zy AI 2,Zu By] []) (kO λl=>Zd (Xk l,[]))) ?_;delta kO;dsimp only[DS,bg,dg,az,lR,af,eg,jM];simp only[Qa2] at aI;simp only[A0];rw[aq (by simp;omega)];rfl
theorem alK:Wk 179 2 T7:=by
 refine g8 Tryz.func179 λ_ _ _ h=> ?_;unfold T7 at h;split at h;case h_2=>cases h
 rename_i k;obtain⟨aI,rfl⟩:=ja h;refine jI (let t0:Int:=Zz AI (Zz AT (↑(BitVec.toNat (BitVec.ofInt (Zk AT) k &&& BitVec.ofInt (Zk AT) 72057594037927935)):Int));let t1:Option (AV×aO):=Zd (Xy [Zy AI 0,Zy AI 0,Zu Yn],[]);aK (!Kerb.dX (Zz AI (Xu k (2 ^ min (Zx 56) (Zk AT))))) t1 (aK (!Kerb.dd t0) t1 (Zd (Xy [Zy AI (Zz AI (Xu k (2 ^ min (Zx 56) (Zk AT)))),Zy AI t0,Zu Zf],[])))) ?_;try dsimp only[bg,dg,az,lR,af,eg,jM]
 simp only[Zm,Qa2] at aI;obtain⟨h0,h1⟩:=aI;rw[Kerb.SQ h0 h1,Kerb.SR h0 h1];unfold Kerb.bf;cases Kerb.dX (Kerb.dI k)
 .rfl
 cases Kerb.dd (Kerb.dk k)<;>rfl
theorem amK:Wk 314 2 xt:=by
 refine g8 Tryz.func314 λ_ _ _ h=> ?_;unfold xt at h;split at h;case h_2=>cases h
 rename_i b pos n;obtain⟨aI,rfl⟩:=ja h;refine jI (Zp (Bs [Yk b,Zy AI pos,Zy AI n] []) (kI AI λa=>aK (!a==0) (Zd (Xy [Yk [],Zy AI 0,Zy AI a],[])) (ax (Zv (0<=pos)&&Zv (pos<=Zz AI (pos+n))&&Zv (Zz AI (pos+n)<=(Zw b:Int))) (Zp (MY [Yk (Xv (Zx pos) (Xp (Zx (Zz AI (pos+n))) b))] []) (kB λb=>Zd (Xy [Yk b,Zy AI (Zz AI (pos+n)),Zy AI 0],[])))))) ?_;delta kB kI;dsimp only[MY,Bs,bg,dg,az,lR,af,eg,jM];have hb:=Qa3 aI;simp only[A0];rw[aq (by simp;omega)];unfold Kerb.bytes;by_cases hr:Xf b pos n=0
 .obtain⟨q1,q2,q3,c⟩:=Kerb.iA.1 hr;have e:Xv (Zx pos) (Xp (Zx (pos+n)) b)=Kerb.cut b pos n:=by
   rw[show Zx (pos+n)=pos.toNat+n.toNat by omega,List.drop_take,show pos.toNat+n.toNat-pos.toNat=n.toNat by omega];rfl
  have hc:=Kerb.jl hr;rw[ai (by simp[hr]),Qa1 hr,wrap_i64 (by omega) (by omega),e,aq (by simp;omega),aq (by simp;omega)]
 .rw[ae (by simpa using hr),Qa0 hr]
theorem am5:Wk 337 2 Ui:=by
 refine g8 Tryz.func337 λ_ _ _ h=> ?_;unfold Ui at h;split at h;case h_2=>cases h
 rename_i b els;obtain⟨aI,rfl⟩:=ja h;refine jI (aK (!Kerb.Head.err (Kerb.bm b)==0) (Zd (Xy [Zu Yn,Zy AI (Kerb.Head.err (Kerb.bm b))],[])) (Zp (bh (λst=>eg 1 st λb r=>az r λf r=>af AI r λn r=>af AI r λc r=>az r λd r=>af AI r λa r=>ak r (aK (Zv (a<(Zw b:Int))) (ax (Zv (0<=a)&&Zv (a<(Zw b:Int))&&Zf) (Yg AI (Zj b (Zx a) Zn) λq=>aK (q==c) (Zd (Yy (Xn,[Xx 1 b,Zu d,Zy AI 0,Zy AI c,Zu d,Zy AI a]))) (Zd (Yp [Xx 1 b,Zu f,Zy AI n,Zy AI c,Zu d,Zy AI (Zz AI (a+1))])))) (Zd (Yy (Yq 0,[Xx 1 b,Zu f,Zy AI n,Zy AI c,Zu d,Zy AI a]))))) [Xx 1 els,Zu Yn,Zy AI 0,Zy AI (Kerb.Head.kind (Kerb.bm b)),Zu (Kerb.Head.By (Kerb.bm b)),Zy AI 0]) λ(r:Ex×List AV)=>eg 1 (Yf r) λb u=>az u λb s=>af AI s λn t=>af AI t λc p=>az p λf m=>af AI m λa g=>ak g (kJ r.1 (Zd (Xy [Zu b,Zy AI n],[])) λj=>aK (Ym j 0) (Zd (Xy [Zu Yn,Zy AI 40],[])) Wq))) ?_;dsimp only[az,af,eg];simp only[Zm,Qa2] at aI;obtain⟨ha,hl⟩:=aI;have o:=Kerb.CZ ha;unfold Kerb.aR;by_cases he:(Kerb.bm b).err=0;case neg =>
  rw[ae (by simpa using he),Qa1 he]
 rw[ai (by simp[he]),Qa0 (by simpa using he)];generalize (Kerb.bm b).kind=k;generalize (Kerb.bm b).By=lt;refine bS (λi:Nat=>[Xx 1 els,Zu Yn,Zy Zq 0,Zy Zq k,Zu lt,Zy Zq (i:Int)]) (λi=>i<=els.length/\(k∈gf els↔k∈(gf els).drop i)) (λi=>els.length-i)
  (λr=>∃ (i:Nat) (x:Bool),r.2=[Xx 1 els,Zu x,Zy Zq 0,Zy Zq k,Zu lt,Zy Zq (i:Int)]/\((r.1 = .ret/\x=lt/\k∈gf els)\/(r.1 = .exit 0/\k ∉ gf els))) 0 ⟨Xd _,by simp⟩ rfl ?_ ?_
 .rintro i ⟨hi,hm⟩;simp only[A0];by_cases fR:i<els.length
  .obtain⟨n,h1,h2⟩:=Kerb.CY ha fR;rw[ae (by simp;omega),aq (by simp;omega),Yz,h1,sO];rw[h2,List.mem_cons] at hm;by_cases h3:n=k
   .rw[ae (by simpa using h3)];exact⟨_,rfl,i,lt,rfl,.inl ⟨rfl,rfl,hm.2 (.inl h3.symm)⟩⟩
   .rw[ai (by simpa using h3),wrap_i64 (by omega) (by omega)];exact⟨_,rfl,i+1,rfl,⟨by omega,hm.trans ⟨λh=>h.resolve_left λe=>h3 e.symm,.inr⟩⟩,by dsimp only;omega⟩
  .rw[ai (by simp;omega)];refine⟨_,rfl,i,Yn,rfl,.inr ⟨rfl,?_⟩⟩;rw[hm,Wz (by omega)];simp
 .rintro⟨e,l⟩ ⟨i,x,rfl,⟨rfl,rfl,h⟩ | ⟨rfl,h⟩⟩
  .simp only[A0];rw[Qa1 (by simpa using h)]
  .simp only[A0];rw[Qa0 (by simpa using h),ae (Yx _)]
theorem am_:Wk 342 2 nR:=by
 refine g8 Tryz.func342 λ_ _ _ h=> ?_;unfold nR at h;split at h;case h_2=>cases h
 rename_i n B at_ li bad;obtain⟨aI,rfl⟩:=ja h;refine Fh [0] (Zp (DY [Yk B,Zy AI at_,Zy AI n] []) (kT λvs=>dg vs λb r=>af AI r λn r=>af AI r λa r=>ak r (Zd (Yk b,[[Yk B,Zy AI (bif bad || !a==0 then at_ else n),Zu li,Zu (bad || !a==0)]])))) ?_;delta kT;dsimp only[DY,bg,dg,az,lR,af,eg,jM];simp only[A0];rw[aq aI];rfl
theorem am':Wk 344 2 Br:=by
 refine g8 Tryz.func344 λ_ _ _ h=> ?_;unfold Br at h;split at h;case h_2=>cases h
 rename_i B at_ li bad;obtain⟨aI,rfl⟩:=ja h;refine Fh [0] (Zp (KY [Yk B,Zy AI at_] []) (kT λvs=>bg vs λb r=>af AI r λn r=>af AI r λa r=>ak r (Zd (Yu b,[[Yk B,Zy AI (bif bad || !a==0 then at_ else n),Zu li,Zu (bad || !a==0)]])))) ?_;delta kT;dsimp only[KY,bg,dg,az,lR,af,eg,jM];simp only[A0];rw[aq aI];rfl
theorem anf:Wk 364 2 Uj:=by
 refine g8 Tryz.func364 λ_ _ _ h=> ?_;unfold Uj at h;split at h;case h_2=>cases h
 rename_i b;cases h;refine jI (aK (Zv ((Zw b:Int)<2)) (Zd (Xy [Zy AI 0,Zu Yn,Zy AI 101],[])) (ax (Zv (0<(Zw b:Int))) (aK (!Zj b (Zx 0) (0:UInt8)==(4:UInt8)) (Zd (Xy [Zy AI 0,Zu Yn,Zy AI 39],[])) (ax (Zv (1<(Zw b:Int))) (aK (!Xm (Zz AI (Wu (Zz AI (↑(Zg (Zj b (Zx 1) (0:UInt8))):Int)) 2))) (Zd (Xy [Zy AI 0,Zu Yn,Zy AI 40],[])) (ax (Zv (1<(Zw b:Int))) (Zd (Xy [Zy AI (Zz AI (Wu (Zz AI (↑(Zg (Zj b (Zx 1) (0:UInt8))):Int)) 2)),Zu (Yw (Zx (Xz (↑(Zg (Zj b (Zx 1) (0:UInt8))):Int) (↑(Zg (2:UInt8)):Int)))==(1:UInt8)),Zy AI 0],[])))))))) ?_;unfold Kerb.bm;by_cases h1:b.length<2
 .rw[ae (by simp;omega)];simp[h1]
 rw[ai (by simp;omega),aq (by simp;omega),Qa0 h1];by_cases h2:b.getD 0 0=4
 .have hb:=(b.getD 1 0).toNat_lt;have e:Zz Zq (Wu (Zz Zq ((b.getD (Zx 1) 0).toNat:Int)) 2)=(((b.getD 1 0).toNat / 2:Nat):Int):=by
   rw[show Zx 1=1 from rfl,wrap_i64 (n:=((b.getD 1 0).toNat:Int)) (by omega) (by omega),Wv (by omega),wrap_i64 (by omega) (by omega)];omega
  have e2:(Yw (Zx (Xz ((b.getD (Zx 1) 0).toNat:Int) ((2:UInt8).toNat:Int)))==1)=Zv ((b.getD 1 0).toNat % 2=1):=by
   rw[show Zx 1=1 from rfl,Xb (by omega)];have a:Zx (((b.getD 1 0).toNat:Int) % ((2:UInt8).toNat:Int))=(b.getD 1 0).toNat % 2:=by
    show Zx (((b.getD 1 0).toNat:Int) % 2)=_;omega
   rw[a];rcases Nat.mod_two_eq_zero_or_one (b.getD 1 0).toNat with h | h<;>rw[h]<;>rfl
  rw[ai (by simp[h2] at *;exact h2),aq (by simp;omega),Qa0 (by simpa using h2),e,e2];cases hk:Xm (((b.getD 1 0).toNat / 2:Nat):Int)
  .rfl
  .rw[Bool.not_true,eA,aq (by simp;omega)];rfl
 .rw[ae (by simpa using h2),Qa1 (by simpa using h2)]
theorem ani:Wk 367 2 Ul:=by
 refine g8 Tryz.func367 λ_ _ _ h=> ?_;unfold Ul at h;split at h;case h_2=>cases h
 rename_i b pos k By;obtain⟨aI,rfl⟩:=ja h;refine jI (Zp (Bs [Yk b,Zy AI pos,Zy AI k] []) (kI AI λn=>aK (!n==0) (Zd (Xy [Zy AI 0,Zy AI 0,Zy AI n],[])) (Zp (bh (λst=>dg st λb r=>af AI r λn r=>af AI r λc r=>az r λg r=>af AI r λf r=>af AI r λe r=>af AI r λa r=>ak r (aK (Zv (a<e)) (aK g (ax (Zv (0<=Zz AI (n+Zz AI (Zz AI (c-1)-a)))&&Zv (Zz AI (n+Zz AI (Zz AI (c-1)-a))<(Zw b:Int))) (Zd (Yp [Yk b,Zy AI n,Zy AI c,Zu g,Zy AI (Zz AI (↑(BitVec.toNat (BitVec.ofInt (Zk AI) (Zz AI (f*2 ^ min (Zx 8) (Zk AI))) ||| BitVec.ofInt (Zk AI) (Zz AI (↑(Zg (Zj b (Zx (Zz AI (n+Zz AI (Zz AI (c-1)-a)))) (0:UInt8))):Int)))):Int)),Zy AI e,Zy AI (Zz AI (a+1))]))) (ax (Zv (0<=Zz AI (n+a))&&Zv (Zz AI (n+a)<(Zw b:Int))) (Zd (Yp [Yk b,Zy AI n,Zy AI c,Zu g,Zy AI (Zz AI (↑(BitVec.toNat (BitVec.ofInt (Zk AI) (Zz AI (f*2 ^ min (Zx 8) (Zk AI))) ||| BitVec.ofInt (Zk AI) (Zz AI (↑(Zg (Zj b (Zx (Zz AI (n+a))) (0:UInt8))):Int)))):Int)),Zy AI e,Zy AI (Zz AI (a+1))])))) (Zd (Yy (Yq 0,[Yk b,Zy AI n,Zy AI c,Zu g,Zy AI f,Zy AI e,Zy AI a]))))) [Yk b,Zy AI pos,Zy AI k,Zu By,Zy AI 0,Zy AI k,Zy AI 0]) λ(r:Ex×List AV)=>dg (Yf r) λb y=>af AI y λn w=>af AI w λc x=>az x λb v=>af AI v λf s=>af AI s λe q=>af AI q λa p=>ak p (kJ r.1 Wq λj=>aK (Ym j 0) (Zd (Xy [Zy AI f,Zy AI (Zz AI (n+c)),Zy AI 0],[])) Wq)))) ?_;delta kI;dsimp only[Bs,bg,dg,az,lR,af,eg,jM];simp only[Zm,Qa2] at aI;obtain⟨⟨hb,t⟩,A⟩:=aI;simp only[A0];rw[aq (by simpa using hb)];unfold Kerb.get;by_cases hr:Xf b pos k=0
 .rw[ai (by simp[hr]),Qa1 hr];obtain⟨q1,q2,q3,z⟩:=Kerb.iA.1 hr;have o:=Kerb.jl hr;obtain⟨L,m⟩:∃ L,L=cond By (Kerb.cut b pos k).reverse (Kerb.cut b pos k):=⟨_,rfl⟩;have u:L.length=k.toNat:=by rw[m];cases By<;>simp[o]
  rw[<-m];refine bS (λi:Nat=>[Yk b,Zy Zq pos,Zy Zq k,Zu By,Zy Zq (Kerb.ji (L.take i)),Zy Zq k,Zy Zq (i:Int)]) (λi=>i<=k.toNat) (λi=>k.toNat-i)
   (λr=>r=(Yq 0,[Yk b,Zy Zq pos,Zy Zq k,Zu By,Zy Zq (Kerb.ji L),Zy Zq k,Zy Zq k])) 0 (Xd _) rfl ?_ ?_
  .intro i hi;simp only[A0];by_cases fR:i<k.toNat
   .rw[ae (by simp;omega)];have hv:=Kerb.Ic (l:=L.take i) (by simp;omega);have hs:=Kerb.wA (l:=L) (i:=i) (by omega);have d:L.getD i 0=b.getD (cond By (pos.toNat+(k.toNat-1-i)) (pos.toNat+i)) 0:=by
     rw[m];cases By
     .exact Kerb.IZ fR
     .show(Kerb.cut b pos k).reverse.getD i 0=_;rw[Kerb.yU (by omega),o,Kerb.IZ (by omega)];rfl
    cases By
    .rw[ai rfl,wrap_i64 (n:=pos+(i:Int)) (by omega) (by omega),aq (by simp;omega),show(pos+(i:Int)).toNat=pos.toNat+i from by omega];rw[Kerb.B3 _ hv.1 (by omega),wrap_i64 (n:=(i:Int)+1) (by omega) (by omega)];refine⟨_,rfl,i+1,?_,by omega,by dsimp only;omega⟩;dsimp only;rw[hs,d];rfl
    .rw[ae rfl,wrap_i64 (n:=k-1) (by omega) (by omega),wrap_i64 (n:=k-1-(i:Int)) (by omega) (by omega),wrap_i64 (n:=pos+(k-1-(i:Int))) (by omega) (by omega),aq (by simp;omega),show(pos+(k-1-(i:Int))).toNat=pos.toNat+(k.toNat-1-i) from by omega];rw[Kerb.B3 _ hv.1 (by omega),wrap_i64 (n:=(i:Int)+1) (by omega) (by omega)];refine⟨_,rfl,i+1,?_,by omega,by dsimp only;omega⟩;dsimp only;rw[hs,d];rfl
   .rw[ai (by simp;omega)];refine⟨_,rfl,?_⟩;show _=_;rw[Yd (by omega),show(i:Int)=k from by omega]
  .rintro r rfl;simp only[A0];rw[ae (Yx _),wrap_i64 (by omega) (by omega)]
 .rw[ae (by simpa using hr),Qa0 hr]
theorem anl:Wk 370 2 Um:=by
 refine g8 Tryz.func370 λ_ _ _ h=> ?_;unfold Um at h;split at h;case h_2=>cases h
 rename_i k By;cases h;refine jI (aK (!Xm k) (Zd (Yk [],[])) (aK By (Zd (Yk [(4:UInt8),Yw (Zx (Zz .u8 (Zz AI (Zz AI (2*k)+1))))],[])) (Zd (Yk [(4:UInt8),Yw (Zx (Zz .u8 (Zz AI (2*k))))],[])))) ?_;by_cases h:1<=k/\k<=10
 .have hk:k=1\/k=2\/k=3\/k=4\/k=5\/k=6\/k=7\/k=8\/k=9\/k=10:=by omega
  rcases hk with rfl | rfl | rfl | rfl | rfl | rfl | rfl | rfl | rfl | rfl<;>cases By<;>rfl
 .have hk:Xm k=Yn:=by simp[Xm];omega
  by_cases h1:k<1
  .simp[aK,Kerb.header,hk,h1]
  .have h2:10<k:=by omega
   simp[aK,Kerb.header,hk,h1,h2]
theorem anq:Wk 375 2 Un:=by
 refine g8 Tryz.func375 λ_ _ _ h=> ?_;unfold Un at h;split at h;case h_2=>cases h
 rename_i els;obtain⟨aI,rfl⟩:=ja h;refine jI (Zp (bh (λst=>eg 1 st λb r=>af AI r λn r=>eg 1 r λe r=>af AI r λf r=>af AI r λc r=>ak r (aK (Zv (c<f)) (ax (Zv (0<=c)&&Zv (c<(Zw e:Int))&&Zf) (AV.dC (Zj e (Zx c) Zn) λa=>aK (Zv (Zz AI (n+(Zw a:Int))<0)) Wq (Zd (Yp [Xx 1 b,Zy AI (Zz AI (n+(Zw a:Int))),Xx 1 e,Zy AI f,Zy AI (Zz AI (c+1))])))) (Zd (Yy (Yq 0,[Xx 1 b,Zy AI n,Xx 1 e,Zy AI f,Zy AI c]))))) [Xx 1 els,Zy AI 0,Xx 1 els,Zy AI (Zw els:Int),Zy AI 0]) λ(r:Ex×List AV)=>eg 1 (Yf r) λb v=>af AI v λn t=>eg 1 t λe u=>af AI u λf s=>af AI s λc q=>ak q (kJ r.1 Wq λj=>aK (Ym j 0) (Zp (KZ [AV.bJ,Zy AI n] []) (kO λl=>Zp (bh (λst=>ar st λx r=>AV.fS x λb=>eg 1 r λa r=>af AI r λn r=>af AI r λd r=>ak r (aK (Zv (d<n)) (ax (Zv (0<=d)&&Zv (d<(Zw a:Int))&&Zf) (AV.dC (Zj a (Zx d) Zn) λg=>ax (room (Zw b+Zw g) 1) (Zd (Yp [Xk (b++g),Xx 1 a,Zy AI n,Zy AI (Zz AI (d+1))])))) (Zd (Yy (Yq 2,[Xk b,Xx 1 a,Zy AI n,Zy AI d]))))) [Xk l,Xx 1 b,Zy AI (Zw b:Int),Zy AI 0]) λ(r:Ex×List AV)=>ar (Yf r) λx p=>AV.fS x λb=>eg 1 p λa o=>af AI o λn m=>af AI m λn k=>ak k (kJ r.1 Wq λj=>aK (Ym j 2) (Zd (Xk b,[])) Wq))) Wq)) ?_;delta kO;dsimp only[KZ,bg,dg,az,lR,af,eg,jM];simp only[Zm,Qa2] at aI;obtain⟨⟨ha,hl⟩,y0⟩:=aI;refine bS (λi:Nat=>[Xx 1 els,Zy Zq ((tj (els.take i)).length:Int),Xx 1 els,Zy Zq (els.length:Int),Zy Zq (i:Int)]) (λi=>i<=els.length) (λi=>els.length-i)
  (λr=>r=(Yq 0,[Xx 1 els,Zy Zq ((tj els).length:Int),Xx 1 els,Zy Zq (els.length:Int),Zy Zq (els.length:Int)])) 0 (Xd _) rfl ?_ ?_
 .intro i hi;simp only[A0];by_cases fR:i<els.length
  .obtain⟨l,h1,h2,h3⟩:=Kerb.Cn ha fR;rw[ae (by simp;omega),aq (by simp;omega),Yz,h1,wj,wrap_i64 (n:=((tj (els.take i)).length:Int)+(l.length:Int)) (by omega) (by omega),ai (by simp;omega),wrap_i64 (by omega) (by omega)];refine⟨_,rfl,i+1,?_,by omega,by dsimp only;omega⟩;dsimp only;rw[h2,List.length_append,Int.natCast_add];rfl
  .rw[ai (by simp;omega)];refine⟨_,rfl,?_⟩;show _=_;rw[Yd (by omega),show i=els.length from by omega]
 rintro r rfl;simp only[A0];rw[ae (Yx _),aq (by simp;omega)];refine bS (λi:Nat=>[Xk (tj (els.take i)),Xx 1 els,Zy Zq (els.length:Int),Zy Zq (i:Int)]) (λi=>i<=els.length) (λi=>els.length-i)
  (λr=>r=(Yq 2,[Xk (tj els),Xx 1 els,Zy Zq (els.length:Int),Zy Zq (els.length:Int)])) 0 (Xd _) rfl ?_ ?_
 .intro i hi;simp only[A0];by_cases fR:i<els.length
  .obtain⟨l,h1,h2,h3⟩:=Kerb.Cn ha fR;rw[ae (by simp;omega),aq (by simp;omega),Yz,h1,wj,aq (Wy (by omega)),wrap_i64 (by omega) (by omega)];refine⟨_,rfl,i+1,?_,by omega,by dsimp only;omega⟩;dsimp only;rw[h2];rfl
  .rw[ai (by simp;omega)];refine⟨_,rfl,?_⟩;show _=_;rw[Yd (by omega),show i=els.length from by omega]
 rintro r rfl;simp only[A0];rw[ae (Yx _)]
theorem anu:Wk 379 2 Uo:=by
 refine g8 Tryz.func379 λ_ _ _ h=> ?_;unfold Uo at h;split at h;case h_2=>cases h
 rename_i s c;cases h;refine jI (Zd (Zy AI (Ww c s),[])) ?_;rfl
theorem an9:Wk 425 2 Uy:=by
 refine g8 Tryz.func425 λ_ _ _ h=> ?_;unfold Uy at h;split at h;case h_2=>cases h
 rename_i b pos k By;obtain⟨aI,rfl⟩:=ja h;refine jI (Zp (DY [Yk b,Zy AI pos,Zy AI k] []) (kT λvs=>dg vs λb r=>af AI r λn r=>af AI r λo r=>ak r (aK (!o==0) (Zd (Xy [Zy AI 0,Zy AI 0,Zy AI o],[])) (Zp (bh (λst=>af AI st λn r=>az r λb r=>dg r λc r=>af AI r λe r=>af AI r λf r=>af AI r λa r=>ak r (aK (Zv (a<n)) (aK b (ax (Zv (0<=Zz AI (Zz AI (n-1)-a))&&Zv (Zz AI (Zz AI (n-1)-a)<(Zw c:Int))) (Zd (Yp [Zy AI n,Zu b,Yk c,Zy AI e,Zy AI (Zz AI (↑(BitVec.toNat (BitVec.ofInt (Zk AI) (Zz AI (f*2 ^ min (Zx 8) (Zk AI))) ||| BitVec.ofInt (Zk AI) (Zz AI (↑(Zg (Zj c (Zx (Zz AI (Zz AI (n-1)-a))) (0:UInt8))):Int)))):Int)),Zy AI (Zz AI (a+1))]))) (ax (Zv (0<=a)&&Zv (a<(Zw c:Int))) (Zd (Yp [Zy AI n,Zu b,Yk c,Zy AI e,Zy AI (Zz AI (↑(BitVec.toNat (BitVec.ofInt (Zk AI) (Zz AI (f*2 ^ min (Zx 8) (Zk AI))) ||| BitVec.ofInt (Zk AI) (Zz AI (↑(Zg (Zj c (Zx a) (0:UInt8))):Int)))):Int)),Zy AI (Zz AI (a+1))])))) (Zd (Yy (Yq 0,[Zy AI n,Zu b,Yk c,Zy AI e,Zy AI f,Zy AI a]))))) [Zy AI k,Zu By,Yk b,Zy AI n,Zy AI 0,Zy AI 0]) λ(r:Ex×List AV)=>af AI (Yf r) λn x=>az x λb v=>dg v λb w=>af AI w λn u=>af AI u λe q=>af AI q λf p=>ak p (kJ r.1 Wq λj=>aK (Ym j 0) (Zd (Xy [Zy AI e,Zy AI n,Zy AI 0],[])) Wq))))) ?_;delta kT;dsimp only[DY,bg,dg,az,lR,af,eg,jM];simp only[Zm,Qa2] at aI;obtain⟨⟨hb,s⟩,z⟩:=aI;simp only[A0];rw[aq (by simpa using hb)];unfold Kerb.get Kerb.bytes;by_cases hr:Xf b pos k=0;case neg =>
  rw[Qa0 hr,Qa0 hr,ae (by simpa using hr)]
 rw[Qa1 hr,Qa1 hr,ai (by simp)];obtain⟨q1,q2,q3,y⟩:=Kerb.iA.1 hr;have g:=Kerb.jl hr;obtain⟨C,hC⟩:∃ C,C=Kerb.cut b pos k:=⟨_,rfl⟩;rw[<-hC] at g ⊢;obtain⟨L,m⟩:∃ L,L=cond By C.reverse C:=⟨_,rfl⟩;have t:L.length=k.toNat:=by rw[m];cases By<;>simp[g]
 rw[<-m];refine bS (λi:Nat=>[Zy Zq k,Zu By,Yk C,Zy Zq (pos+k),Zy Zq (Kerb.ji (L.take i)),Zy Zq (i:Int)]) (λi=>i<=k.toNat) (λi=>k.toNat-i)
  (λr=>r=(Yq 0,[Zy Zq k,Zu By,Yk C,Zy Zq (pos+k),Zy Zq (Kerb.ji L),Zy Zq k])) 0 (Xd _) rfl ?_ ?_
 .intro i hi;simp only[A0];by_cases fR:i<k.toNat
  .rw[ae (by simp;omega)];have hv:=Kerb.Ic (l:=L.take i) (by simp;omega);have hs:=Kerb.wA (l:=L) (i:=i) (by omega);have d:L.getD i 0=C.getD (cond By (k.toNat-1-i) i) 0:=by
    rw[m];cases By
    .rfl
    .show C.reverse.getD i 0=_;rw[Kerb.yU (by omega),g];rfl
   cases By
   .rw[ai rfl,aq (by simp;omega),Yz];rw[Kerb.B3 _ hv.1 (by omega),wrap_i64 (n:=(i:Int)+1) (by omega) (by omega)];refine⟨_,rfl,i+1,?_,by omega,by dsimp only;omega⟩;dsimp only;rw[hs,d];rfl
   .rw[ae rfl,wrap_i64 (n:=k-1) (by omega) (by omega),wrap_i64 (n:=k-1-(i:Int)) (by omega) (by omega),aq (by simp;omega),show(k-1-(i:Int)).toNat=k.toNat-1-i from by omega];rw[Kerb.B3 _ hv.1 (by omega),wrap_i64 (n:=(i:Int)+1) (by omega) (by omega)];refine⟨_,rfl,i+1,?_,by omega,by dsimp only;omega⟩;dsimp only;rw[hs,d];rfl
  .rw[ai (by simp;omega)];refine⟨_,rfl,?_⟩;show _=_;rw[Yd (by omega),show(i:Int)=k from by omega]
 .rintro r rfl;simp only[A0];rw[ae (Yx _)]
theorem aoh:Wk 435 2 UA:=by
 refine g8 Tryz.func435 λ_ _ _ h=> ?_;unfold UA at h;split at h;case h_2=>cases h
 rename_i s c;cases h;refine jI (Zd (Zy AI (Ww c s),[])) ?_;rfl
theorem w27:Wk 27 3 acD:=by
 refine g8 Tryz.func27 λ_ _ _ h=> ?_;unfold acD at h;split at h;case h_2=>cases h
 rename_i n;obtain⟨aI,rfl⟩:=ja h;refine jI (ax (Zv (0<=Xz n 3)&&Zv (Xz n 3<(↑(Zw [Yu [(97:UInt8),(110:UInt8),(110:UInt8)],Yu [(98:UInt8),(111:UInt8),(98:UInt8)],Yu [(99:UInt8),(97:UInt8),(116:UInt8)]]):Int))&&Zf) (AV.fT (Zj [Yu [(97:UInt8),(110:UInt8),(110:UInt8)],Yu [(98:UInt8),(111:UInt8),(98:UInt8)],Yu [(99:UInt8),(97:UInt8),(116:UInt8)]] (Zx (Xz n 3)) Zn) λb=>Zp (XB [Zy AI (Zz AI (Wu n 3))] []) (kS λa=>Zd (AV.agg [Yu b,Yu [],Yu a],[])))) ?_;delta kS;dsimp only[XB,bg,dg,az,lR,af,eg,jM];have hn:0<=n:=by first | exact Qa3 aI | (simp only[Zm,Qa2] at aI;exact aI.1)
 have ht:Xz n 3=n % 3:=Xb hn;have c:n % 3=0\/n % 3=1\/n % 3=2:=by omega
 simp only[Zm,Qa2] at aI;have hd:Wu n 3=n / 3:=Wv hn;rw[hd,wrap_i64 (by omega) (by omega)];have hq:Zv ((0:Int)<=n / 3)=Zf:=by simp;omega
 rcases c with e | e | e<;>simp[ht,e,ax,AV.fT,Kerb.user,hq,aE]<;>omega
theorem w73:Wk 73 3 HV:=by
 refine g8 Tryz.func73 λ_ _ _ h=> ?_;unfold HV at h;split at h;case h_2=>cases h
 rename_i b;obtain⟨aI,rfl⟩:=ja h;refine jI (aK (!(Zw b:Int)==8) (Zd (Xy [Zy AT 0,Zu Yn],[])) (Zp (bh (λst=>dg st λb r=>af AT r λn r=>af AI r λc r=>ak r (aK (Zv (c<8)) (ax (Zv (0<=c)&&Zv (c<(Zw b:Int))) (Zd (Yp [Yk b,Zy AT (Zz AT (↑(BitVec.toNat (BitVec.ofInt (Zk AT) (Zz AT (n*2 ^ min (Zx 8) (Zk AT))) ||| BitVec.ofInt (Zk AT) (Zz AT (↑(Zg (Zj b (Zx c) (0:UInt8))):Int)))):Int)),Zy AI (Zz AI (c+1))]))) (Zd (Yy (Yq 0,[Yk b,Zy AT n,Zy AI c]))))) [Yk b,Zy AT 0,Zy AI 0]) λ(r:Ex×List AV)=>dg (Yf r) λb f=>af AT f λn d=>af AI d λc e=>ak e (kJ r.1 Wq λj=>aK (Ym j 0) (Zp (DQ [Zy AT n] []) (kL λb=>aK (!b) (Zd (Xy [Zy AT 0,Zu Yn],[])) (Zd (Xy [Zy AT n,Zu Zf],[])))) Wq))) ?_;delta kL;dsimp only[DQ,bg,dg,az,lR,af,eg,jM];have hb:=Qa3 aI;unfold Kerb.dm;by_cases h8:b.length=8;case neg =>
  rw[ae (by simp;omega),Qa0 (by omega)]
 rw[ai (by simp[h8])];refine bS (λi:Nat=>[Yk b,Zy Yb (Kerb.ji (b.take i)),Zy Zq (i:Int)]) (λi=>i<=8) (λi=>8-i)
  (λr=>r=(Yq 0,[Yk b,Zy Yb (Kerb.ji b),Zy Zq 8])) 0 (by omega) rfl ?_ ?_
 .intro i hi;simp only[A0];by_cases fR:i<8
  .have hv:=Kerb.wA (l:=b) (i:=i) (by omega);have a:=Kerb.Lc (l:=b.take i) (by simp;omega);rw[ae (by simp;omega),aq (by simp;omega),Yz,Kerb.Kv _ a.1 a.2,wrap_i64 (by omega) (by omega),<-hv];exact⟨_,rfl,i+1,rfl,by omega,by dsimp only;omega⟩
  .rw[ai (by simp;omega)];refine⟨_,rfl,?_⟩;show _=_;rw[Yd (by omega),show i=8 from by omega];rfl
 rintro r rfl;have a:=Kerb.Ea (l:=b) (by omega);simp only[A0];rw[ae (Yx _),aq (by simp;omega)];cases hv:Kerb.bf (Kerb.ji b)
 .rw[Qa0 (by simp)];rfl
 .rw[Qa1 ⟨h8,rfl⟩];rfl
theorem alM:Wk 182 3 Kz:=by
 refine g8 Tryz.func182 λ_ _ _ h=> ?_;unfold Kz at h;split at h;case h_2=>cases h
 rename_i a b els;obtain⟨aI,rfl⟩:=ja h;refine Fh [0] (Zp (bh (λst=>ar st λx r=>Xh x λy=>af AI r λn r=>af AI r λC r=>af AI r λu r=>ak r (aK (Zv (u<C)) (Zp (bh (λst=>ar st λx r=>Xh x λy=>af AI r λn r=>af AI r λo r=>af AI r λp r=>af AI r λc r=>ak r (aK (Zv (c>n)) (ax (Zv (0<=c)&&Zv (c<(Zw y:Int))&&Zf) (ax (Zb (Zx c) (Zw y)&&Zf) (Yg AT (Zj y (Zx c) Zn) λH=>ax (Zv (0<=Zz AI (c-1))&&Zv (Zz AI (c-1)<(Zw y:Int))&&Zf) (ax (Zb (Zx (Zz AI (c-1))) (Zw y)&&Zf) (Yg AT (Zj y (Zx (Zz AI (c-1))) Zn) λG=>aK (Zv (H<G)) (ax (Zv (0<=Zz AI (c-1))&&Zv (Zz AI (c-1)<(Zw y:Int))&&Zf) (ax (Zb (Zx (Zz AI (c-1))) (Zw y)&&Zf) (Yg AT (Zj y (Zx (Zz AI (c-1))) Zn) λg=>ax (Zv (0<=c)&&Zv (c<(Zw y:Int))&&Zf) (ax (Zb (Zx c) (Zw y)&&Zf) (Yg AT (Zj y (Zx c) Zn) λD=>ax (Zv (0<=c)&&Zv (c<(Zw y:Int))&&Zf) (ax (Zb (Zx c) (Zw y)&&Zf) (Yg AT (Zj y (Zx c) Zn) λL=>ax (Zw [Zy AT g]==nat_lit 1&&Zf&&Zf&&Zf&&Zb (Zx c) (Zw y)) (ax (Zv (0<=Zz AI (c-1))&&Zv (Zz AI (c-1)<(↑(Zw (Zh y (Zx c) (Zy AT g))):Int))&&Zf) (ax (Zb (Zx (Zz AI (c-1))) (Zw (Zh y (Zx c) (Zy AT g)))&&Zf) (Yg AT (Zj (Zh y (Zx c) (Zy AT g)) (Zx (Zz AI (c-1))) Zn) λM=>ax (Zw [Zy AT D]==nat_lit 1&&Zf&&Zf&&Zf&&Zb (Zx (Zz AI (c-1))) (Zw (Zh y (Zx c) (Zy AT g)))) (Zd (Yp [Yj (Zh (Zh y (Zx c) (Zy AT g)) (Zx (Zz AI (c-1))) (Zy AT D)),Zy AI n,Zy AI o,Zy AI p,Zy AI (Zz AI (c-1))])))))))))))) (Zd (Yy (Yq 2,[Yj y,Zy AI n,Zy AI o,Zy AI p,Zy AI c])))))))) (Zd (Yy (Yq 2,[Yj y,Zy AI n,Zy AI o,Zy AI p,Zy AI c]))))) [Yj y,Zy AI n,Zy AI C,Zy AI u,Zy AI u]) λ(r:Ex×List AV)=>ar (Yf r) λx B=>Xh x λy=>af AI B λn z=>af AI z λo A=>af AI A λp v=>af AI v λc E=>ak E (kJ r.1 (Zd (Yy (Xn,[Yj y,Zy AI n,Zy AI o,Zy AI p]))) λj=>aK (Ym j 2) (Zd (Yp [Yj y,Zy AI n,Zy AI o,Zy AI (Zz AI (p+1))])) Wq)) (Zd (Yy (Yq 0,[Yj y,Zy AI n,Zy AI C,Zy AI u]))))) [Yj els,Zy AI a,Zy AI b,Zy AI (Zz AI (a+1))]) λ(r:Ex×List AV)=>ar (Yf r) λx B=>Xh x λy=>af AI B λn z=>af AI z λn A=>af AI A λn v=>ak v (kJ r.1 (Zd (Xy [],[y])) λj=>aK (Ym j 0) (Zd (Xy [],[y])) Wq)) ?_;dsimp only[af];simp only[Zm,Qa2] at aI;obtain⟨⟨⟨⟨hZ,hlen⟩,J⟩,K⟩,hb⟩:=aI;obtain⟨d,rfl,hd⟩:=Kerb.nr hZ;simp only[Wj] at hlen hb;unfold Kerb.BS;rw[hd];obtain⟨a,rfl⟩:=Yv J;obtain⟨b,rfl⟩:=Yv (show 0<=b by omega);simp only[Yz];rw[show Zz AI ((a:Int)+1)=((a+1:Nat):Int) from Xj (by omega) (by omega)];unfold Go.Sort.insertionSort
 refine bS (λs:Array Int×Nat=>[Yj (Xw s.1),Zy AI (a:Int),Zy AI (b:Int),Zy AI (s.2:Int)]) (λs=>s.1.size=d.size/\s.2<=b+1/\Go.Sort.insOuter Go.Sort.ltInt a b s.2 s.1=Go.Sort.insOuter Go.Sort.ltInt a b (a+1) d) (λs=>b-s.2) (λr=>∃ n m k,r=(.exit 0,[Yj (Xw (Go.Sort.insOuter Go.Sort.ltInt a b (a+1) d)),Zy AI n,Zy AI m,Zy AI k])) (d,a+1) ⟨rfl,by dsimp only;omega,rfl⟩ rfl ?_ ?_
 .rintro⟨e,i⟩ ⟨hs,hi,hr⟩;dsimp only at hs hi hr ⊢;simp only[↓bW,↓cG,↓dx,↓dA];by_cases h:i<b;case neg =>
   rw[ai (by simp;omega)];refine⟨_,rfl,(a:Int),(b:Int),(i:Int),?_⟩;rw[<-hr];unfold Go.Sort.insOuter;rw[Qa0 h]
  rw[ae (by simp;omega)];refine Hq (λs:Array Int×Nat=>[Yj (Xw s.1),Zy AI (a:Int),Zy AI (b:Int),Zy AI (i:Int),Zy AI (s.2:Int)]) (λs=>s.1.size=d.size/\s.2<=i/\Go.Sort.insInner Go.Sort.ltInt a s.2 s.1=Go.Sort.insInner Go.Sort.ltInt a i e) (λs=>s.2) (λr=>∃ k,r=(.exit 2,[Yj (Xw (Go.Sort.insInner Go.Sort.ltInt a i e)),Zy AI (a:Int),Zy AI (b:Int),Zy AI (i:Int),Zy AI k])/\(Go.Sort.insInner Go.Sort.ltInt a i e).size=d.size) (e,i) ⟨hs,Nat.le_refl _,rfl⟩ rfl ?_ ?_
  .rintro⟨f,j⟩ ⟨w,hj,t⟩;dsimp only at w hj t ⊢;simp only[↓bW,↓cG,↓dx,↓dA];have done:Go.Sort.insInner Go.Sort.ltInt a j f=f->∃ y,(Zd (Yy (Yq 2,[Yj (Xw f),Zy AI (a:Int),Zy AI (b:Int),Zy AI (i:Int),Zy AI (j:Int)])):Option (List AV ⊕ (Ex×List AV)))=Zd y/\Cc (λs:Array Int×Nat=>[Yj (Xw s.1),Zy AI (a:Int),Zy AI (b:Int),Zy AI (i:Int),Zy AI (s.2:Int)]) (λs=>s.1.size=d.size/\s.2<=i/\Go.Sort.insInner Go.Sort.ltInt a s.2 s.1=Go.Sort.insInner Go.Sort.ltInt a i e) (λs=>s.2) (λr=>∃ k,r=(.exit 2,[Yj (Xw (Go.Sort.insInner Go.Sort.ltInt a i e)),Zy AI (a:Int),Zy AI (b:Int),Zy AI (i:Int),Zy AI k])/\(Go.Sort.insInner Go.Sort.ltInt a i e).size=d.size) (f,j) y:=λq=>by
    refine⟨_,rfl,j,?_,?_⟩
    .rw[<-t,q]
    .rw[<-t,q];exact w
   by_cases F:j>a;case neg =>
    rw[ai (by simp;omega)];refine done ?_;cases j with
    | zero=>rfl
    | succ j=>simp only[Go.Sort.insInner];rw[Qa0 (by simp;omega)]
   obtain⟨m,rfl⟩:∃ m,j=m+1:=⟨j-1,by omega⟩;have h1:m+1<f.size:=by omega
   have h2:m<f.size:=by omega
   rw[ae (by simp;omega)];simp only[show Zz AI (((m+1:Nat):Int)-1)=(m:Int) from(Xj (by omega) (by omega)).trans (by omega)];rw[Kerb.rd h1,Kerb.rd h2];by_cases fR:f[m+1]! < f[m]!;case neg =>
    rw[ai (by simpa using fR)];refine done ?_;simp only[Go.Sort.insInner];rw[Qa0 (by simp[Go.Sort.ltInt,fR])]
   rw[ae (by simpa using fR),Kerb.sw h1 h2 (λl=>Zd (Yp [Yj l,Zy AI (a:Int),Zy AI (b:Int),Zy AI (i:Int),Zy AI (m:Int)]))];refine⟨_,rfl,(Go.Sort.swp f (m+1) m,m),rfl,⟨by dsimp only;rw[Wd,w],by dsimp only;omega,?_⟩,by dsimp only;omega⟩;dsimp only;rw[<-t];conv=>rhs;simp only[Go.Sort.insInner]
   rw[Qa1 (by simp[Go.Sort.ltInt,fR];omega)]
  .rintro _ ⟨k,rfl,I⟩;simp only[↓bW,↓cG,↓dx,↓dA,↓lP];rw[ae (Yx _),show Zz AI ((i:Int)+1)=((i+1:Nat):Int) from Xj (by omega) (by omega)];refine⟨_,rfl,(Go.Sort.insInner Go.Sort.ltInt a i e,i+1),rfl,⟨I,by dsimp only;omega,?_⟩,by dsimp only;omega⟩;dsimp only;rw[<-hr];conv=>rhs;unfold Go.Sort.insOuter
   rw[Qa1 h]
 .rintro _ ⟨n,m,k,rfl⟩;simp only[↓bW,↓cG,↓dx,↓dA,↓lP];rw[ae (Yx _)]
theorem alR:Wk 187 3 KK:=by
 refine g8 Tryz.func187 λ_ _ _ h=> ?_;unfold KK at h;split at h;case h_2=>cases h
 rename_i a b els;obtain⟨aI,rfl⟩:=ja h
 refine Fh [0] (Zp (bh (λst=>ar st λx r=>Xh x λy=>af AI r λn r=>af AI r λbO r=>az r λb r=>af AI r λdy r=>af AI r λft r=>ak r (aK (Zv (ft<5)) (Zp (bh (λst=>ar st λx r=>Xh x λy=>af AI r λn r=>af AI r λu r=>af AI r λk r=>af AI r λG r=>az r λb r=>let t0:Option (List AV ⊕ Ex×List AV):=Zd (Yy (Yq 2,[Yj y,Zy AI n,Zy AI u,Zy AI k,Zy AI G,Zu b]));ak r (aK (Zv (k<u)) (ax (Zv (0<=k)&&Zv (k<(Zw y:Int))&&Zf) (ax (Zb (Zx k) (Zw y)&&Zf) (Yg AT (Zj y (Zx k) Zn) λF=>ax (Zv (0<=Zz AI (k-1))&&Zv (Zz AI (k-1)<(Zw y:Int))&&Zf) (ax (Zb (Zx (Zz AI (k-1))) (Zw y)&&Zf) (Yg AT (Zj y (Zx (Zz AI (k-1))) Zn) λM=>aK (!Zv (F<M)) (Zd (Yp [Yj y,Zy AI n,Zy AI u,Zy AI (Zz AI (k+1)),Zy AI G,Zu b])) t0))))) t0)) [Yj y,Zy AI n,Zy AI bO,Zy AI dy,Zy AI ft,Zu b]) λ(r:Ex×List AV)=>ar (Yf r) λx eU=>Xh x λy=>af AI eU λn ff=>af AI ff λu fH=>af AI fH λk Y=>af AI Y λG W=>let t1:List AV:=[Zy AI k,Zy AI G];az W λb T=>ak T (kJ r.1 (Zd (Yy (Xn,Yj y::Zy AI n::Zy AI u::Zu b::t1))) λj=>aK (Ym j 2) (aK (k==u) (Zd (Yy (Xn,Yj y::Zy AI n::Zy AI u::Zu Zf::t1))) (aK (Zv (Zz AI (u-n)<50)) (Zd (Yy (Xn,Yj y::Zy AI n::Zy AI u::Zu Yn::t1))) (ax (Zv (0<=Zz AI (k-1))&&Zv (Zz AI (k-1)<(Zw y:Int))&&Zf) (ax (Zb (Zx (Zz AI (k-1))) (Zw y)&&Zf) (Yg AT (Zj y (Zx (Zz AI (k-1))) Zn) λF=>let t2:Bool:=Zb (Zx (Zz AI (k-1))) (Zw (Zh y (Zx k) (Zy AT F)));ax (Zv (0<=k)&&Zv (k<(Zw y:Int))&&Zf) (ax (Zb (Zx k) (Zw y)&&Zf) (Yg AT (Zj y (Zx k) Zn) λM=>let t3:AV:=Yj (Zh (Zh y (Zx k) (Zy AT F)) (Zx (Zz AI (k-1))) (Zy AT M));ax (Zv (0<=k)&&Zv (k<(Zw y:Int))&&Zf) (ax (Zb (Zx k) (Zw y)&&Zf) (Yg AT (Zj y (Zx k) Zn) λpK=>ax (Zw [Zy AT F]==nat_lit 1&&Zf&&Zf&&Zf&&Zb (Zx k) (Zw y)) (ax (Zv (0<=Zz AI (k-1))&&Zv (Zz AI (k-1)<(↑(Zw (Zh y (Zx k) (Zy AT F))):Int))&&Zf) (ax (t2&&Zf) (Yg AT (Zj (Zh y (Zx k) (Zy AT F)) (Zx (Zz AI (k-1))) Zn) λqE=>ax (Zw [Zy AT M]==nat_lit 1&&Zf&&Zf&&Zf&&t2) (aK (Zv (Zz AI (k-n)>=2)) (Zp (bh (λst=>ar st λx r=>Xh x λy=>af AI r λn r=>af AI r λt r=>af AI r λq r=>af AI r λv r=>af AI r λc r=>let t4:Bool:=Zv (0<=c)&&Zv (c<(Zw y:Int))&&Zf;let t5:Bool:=Zv (0<=Zz AI (c-1))&&Zv (Zz AI (c-1)<(Zw y:Int))&&Zf;az r λb r=>let t6:Option (List AV ⊕ Ex×List AV):=Zd (Yy (Yq 4,[Yj y,Zy AI n,Zy AI t,Zy AI q,Zy AI v,Zy AI c,Zu b]));ak r (aK (Zv (c>=1)) (ax t4 (ax (Zb (Zx c) (Zw y)&&Zf) (Yg AT (Zj y (Zx c) Zn) λw=>ax t5 (ax (Zb (Zx (Zz AI (c-1))) (Zw y)&&Zf) (Yg AT (Zj y (Zx (Zz AI (c-1))) Zn) λz=>aK (!Zv (w<z)) t6 (ax t5 (ax (Zb (Zx (Zz AI (c-1))) (Zw y)&&Zf) (Yg AT (Zj y (Zx (Zz AI (c-1))) Zn) λp=>let t7:Bool:=Zb (Zx (Zz AI (c-1))) (Zw (Zh y (Zx c) (Zy AT p)));ax t4 (ax (Zb (Zx c) (Zw y)&&Zf) (Yg AT (Zj y (Zx c) Zn) λo=>ax t4 (ax (Zb (Zx c) (Zw y)&&Zf) (Yg AT (Zj y (Zx c) Zn) λO=>ax (Zw [Zy AT p]==nat_lit 1&&Zf&&Zf&&Zf&&Zb (Zx c) (Zw y)) (ax (Zv (0<=Zz AI (c-1))&&Zv (Zz AI (c-1)<(↑(Zw (Zh y (Zx c) (Zy AT p))):Int))&&Zf) (ax (t7&&Zf) (Yg AT (Zj (Zh y (Zx c) (Zy AT p)) (Zx (Zz AI (c-1))) Zn) λN=>ax (Zw [Zy AT o]==nat_lit 1&&Zf&&Zf&&Zf&&t7) (Zd (Yp [Yj (Zh (Zh y (Zx c) (Zy AT p)) (Zx (Zz AI (c-1))) (Zy AT o)),Zy AI n,Zy AI t,Zy AI q,Zy AI v,Zy AI (Zz AI (c-1)),Zu b]))))))))))))))))) t6)) [t3,Zy AI n,Zy AI u,Zy AI k,Zy AI G,Zy AI (Zz AI (k-1)),Zu b]) λ(r:Ex×List AV)=>ar (Yf r) λx S=>Xh x λy=>af AI S λn Q=>af AI Q λt P=>af AI P λq Z=>af AI Z λv V=>af AI V λc U=>az U λb R=>ak R (kJ r.1 (Zd (Yy (Xn,[Yj y,Zy AI n,Zy AI t,Zu b,Zy AI q,Zy AI v]))) λj=>aK (Ym j 4) (aK (Zv (Zz AI (t-q)>=2)) (Zp (bh (λst=>ar st λx r=>Xh x λy=>af AI r λn r=>af AI r λw r=>af AI r λz r=>af AI r λp r=>af AI r λo r=>let t8:Bool:=Zv (0<=o)&&Zv (o<(Zw y:Int))&&Zf;let t9:Bool:=Zv (0<=Zz AI (o-1))&&Zv (Zz AI (o-1)<(Zw y:Int))&&Zf;az r λb r=>let t10:Option (List AV ⊕ Ex×List AV):=Zd (Yy (Yq 6,[Yj y,Zy AI n,Zy AI w,Zy AI z,Zy AI p,Zy AI o,Zu b]));ak r (aK (Zv (o<w)) (ax t8 (ax (Zb (Zx o) (Zw y)&&Zf) (Yg AT (Zj y (Zx o) Zn) λO=>ax t9 (ax (Zb (Zx (Zz AI (o-1))) (Zw y)&&Zf) (Yg AT (Zj y (Zx (Zz AI (o-1))) Zn) λN=>aK (!Zv (O<N)) t10 (ax t9 (ax (Zb (Zx (Zz AI (o-1))) (Zw y)&&Zf) (Yg AT (Zj y (Zx (Zz AI (o-1))) Zn) λH=>let t11:Bool:=Zb (Zx (Zz AI (o-1))) (Zw (Zh y (Zx o) (Zy AT H)));ax t8 (ax (Zb (Zx o) (Zw y)&&Zf) (Yg AT (Zj y (Zx o) Zn) λwL=>ax t8 (ax (Zb (Zx o) (Zw y)&&Zf) (Yg AT (Zj y (Zx o) Zn) λTd=>ax (Zw [Zy AT H]==nat_lit 1&&Zf&&Zf&&Zf&&Zb (Zx o) (Zw y)) (ax (Zv (0<=Zz AI (o-1))&&Zv (Zz AI (o-1)<(↑(Zw (Zh y (Zx o) (Zy AT H))):Int))&&Zf) (ax (t11&&Zf) (Yg AT (Zj (Zh y (Zx o) (Zy AT H)) (Zx (Zz AI (o-1))) Zn) λTe=>ax (Zw [Zy AT wL]==nat_lit 1&&Zf&&Zf&&Zf&&t11) (Zd (Yp [Yj (Zh (Zh y (Zx o) (Zy AT H)) (Zx (Zz AI (o-1))) (Zy AT wL)),Zy AI n,Zy AI w,Zy AI z,Zy AI p,Zy AI (Zz AI (o+1)),Zu b]))))))))))))))))) t10)) [Yj y,Zy AI n,Zy AI t,Zy AI q,Zy AI v,Zy AI (Zz AI (q+1)),Zu b]) λ(r:Ex×List AV)=>ar (Yf r) λx ns=>Xh x λy=>af AI ns λn nt=>af AI nt λw nu=>af AI nu λz rQ=>af AI rQ λp rR=>af AI rR λo rS=>az rS λb rT=>ak rT (kJ r.1 (Zd (Yy (Xn,[Yj y,Zy AI n,Zy AI w,Zu b,Zy AI z,Zy AI p]))) λj=>aK (Ym j 6) (Zd (Yp [Yj y,Zy AI n,Zy AI w,Zu b,Zy AI z,Zy AI (Zz AI (p+1))])) Wq)) (Zd (Yp [Yj y,Zy AI n,Zy AI t,Zu b,Zy AI q,Zy AI (Zz AI (v+1))]))) Wq)) (aK (Zv (Zz AI (u-k)>=2)) (Zp (bh (λst=>ar st λx r=>Xh x λy=>af AI r λn r=>af AI r λt r=>af AI r λq r=>af AI r λv r=>af AI r λc r=>let t12:Bool:=Zv (0<=c)&&Zv (c<(Zw y:Int))&&Zf;let t13:Bool:=Zv (0<=Zz AI (c-1))&&Zv (Zz AI (c-1)<(Zw y:Int))&&Zf;az r λb r=>let t14:Option (List AV ⊕ Ex×List AV):=Zd (Yy (Yq 6,[Yj y,Zy AI n,Zy AI t,Zy AI q,Zy AI v,Zy AI c,Zu b]));ak r (aK (Zv (c<t)) (ax t12 (ax (Zb (Zx c) (Zw y)&&Zf) (Yg AT (Zj y (Zx c) Zn) λw=>ax t13 (ax (Zb (Zx (Zz AI (c-1))) (Zw y)&&Zf) (Yg AT (Zj y (Zx (Zz AI (c-1))) Zn) λz=>aK (!Zv (w<z)) t14 (ax t13 (ax (Zb (Zx (Zz AI (c-1))) (Zw y)&&Zf) (Yg AT (Zj y (Zx (Zz AI (c-1))) Zn) λp=>let t15:Bool:=Zb (Zx (Zz AI (c-1))) (Zw (Zh y (Zx c) (Zy AT p)));ax t12 (ax (Zb (Zx c) (Zw y)&&Zf) (Yg AT (Zj y (Zx c) Zn) λo=>ax t12 (ax (Zb (Zx c) (Zw y)&&Zf) (Yg AT (Zj y (Zx c) Zn) λO=>ax (Zw [Zy AT p]==nat_lit 1&&Zf&&Zf&&Zf&&Zb (Zx c) (Zw y)) (ax (Zv (0<=Zz AI (c-1))&&Zv (Zz AI (c-1)<(↑(Zw (Zh y (Zx c) (Zy AT p))):Int))&&Zf) (ax (t15&&Zf) (Yg AT (Zj (Zh y (Zx c) (Zy AT p)) (Zx (Zz AI (c-1))) Zn) λN=>ax (Zw [Zy AT o]==nat_lit 1&&Zf&&Zf&&Zf&&t15) (Zd (Yp [Yj (Zh (Zh y (Zx c) (Zy AT p)) (Zx (Zz AI (c-1))) (Zy AT o)),Zy AI n,Zy AI t,Zy AI q,Zy AI v,Zy AI (Zz AI (c+1)),Zu b]))))))))))))))))) t14)) [t3,Zy AI n,Zy AI u,Zy AI k,Zy AI G,Zy AI (Zz AI (k+1)),Zu b]) λ(r:Ex×List AV)=>ar (Yf r) λx S=>Xh x λy=>af AI S λn Q=>af AI Q λt P=>af AI P λq Z=>af AI Z λv V=>af AI V λc U=>az U λb R=>ak R (kJ r.1 (Zd (Yy (Xn,[Yj y,Zy AI n,Zy AI t,Zu b,Zy AI q,Zy AI v]))) λj=>aK (Ym j 6) (Zd (Yp [Yj y,Zy AI n,Zy AI t,Zu b,Zy AI q,Zy AI (Zz AI (v+1))])) Wq)) (Zd (Yp [t3,Zy AI n,Zy AI u,Zu b,Zy AI k,Zy AI (Zz AI (G+1))])))))))))))))))) Wq)) (Zd (Yy (Yq 0,[Yj y,Zy AI n,Zy AI bO,Zu b,Zy AI dy,Zy AI ft]))))) [Yj els,Zy AI a,Zy AI b,Zu Yn,Zy AI (Zz AI (a+1)),Zy AI 0]) λ(r:Ex×List AV)=>ar (Yf r) λx eU=>Xh x λy=>af AI eU λn ff=>af AI ff λn fH=>az fH λb Y=>af AI Y λn W=>af AI W λn T=>ak T (kJ r.1 (Zd (Zu b,[y])) λj=>aK (Ym j 0) (Zd (Zu Yn,[y])) Wq)) ?_
 try dsimp only[bg,dg,az,lR,af,eg,jM]
 simp only[Zm,Qa2] at aI;obtain⟨⟨⟨⟨⟨hZ,hlen⟩,Lj⟩,yl⟩,hb⟩,fR⟩:=aI;obtain⟨d,rfl,hd⟩:=Kerb.nr hZ;simp only[Wj] at hlen hb;obtain⟨a,rfl⟩:=Yv (show 0<=a by omega);obtain⟨b,rfl⟩:=Yv (show 0<=b by omega);simp only[Kerb.zC,Kerb.fw,Yz];unfold Go.Sort.partialInsertionSort;rw[show Zz AI ((a:Int)+1)=((a+1:Nat):Int) from(Xj (by omega) (by omega)).trans (by omega)];refine bS (λs:Array Int×Nat×Nat=>[Yj (Xw s.1),Zy AI (a:Int),Zy AI (b:Int),Zu Yn,Zy AI (s.2.1:Int),Zy AI (s.2.2:Int)]) (λs=>s.1.size=d.size/\a+1<=s.2.1/\s.2.1<=b/\s.2.2<=5/\Go.Sort.partialIns Go.Sort.ltInt a b (5-s.2.2) s.2.1 s.1=Go.Sort.partialIns Go.Sort.ltInt a b 5 (a+1) d) (λs=>5-s.2.2) (λr=>∃ i n,(r.1 = .ret\/r.1 = .exit 0/\(Go.Sort.partialIns Go.Sort.ltInt a b 5 (a+1) d).2=Yn)/\r.2=[Yj (Xw (Go.Sort.partialIns Go.Sort.ltInt a b 5 (a+1) d).1),Zy AI (a:Int),Zy AI (b:Int),Zu (Go.Sort.partialIns Go.Sort.ltInt a b 5 (a+1) d).2,Zy AI i,Zy AI n]) (d,a+1,0) ⟨rfl,by dsimp only;omega,by dsimp only;omega,by dsimp only;omega,rfl⟩ rfl ?_ ?_
 .rintro⟨e,i,s⟩ ⟨hs,hi,E,X,hr⟩;dsimp only at hs hi E X hr ⊢;simp only[↓bW,↓cG,↓dx,↓dP,↓dA];by_cases h5:s<5;case neg =>
   rw[ai (by simp;omega)];rw[show 5-s=0 by omega] at hr;refine⟨_,rfl,(i:Int),(s:Int),.inr ⟨rfl,?_⟩,?_⟩
   .rw[<-hr];rfl
   .rw[<-hr];rfl
  rw[ae (by simp;omega)];rw[show 5-s=(5-(s+1))+1 by omega,Go.Sort.partialIns_succ] at hr;rw[Kerb.HT (by omega) (by omega) _ i rfl (by omega) E];have hl:=Kerb.EN (lt:=Go.Sort.ltInt) (d:=e) (b:=b) _ i rfl E;generalize Go.Sort.scanSorted Go.Sort.ltInt e b i=j at hl hr ⊢;simp only[↓gu];simp only[↓bW,↓cG,↓dx,↓dP,↓dA,↓lP];rw[ae (Yx _)];by_cases J:j=b
  .rw[Qa1 J] at hr;rw[ae (by simp;omega)];refine⟨_,rfl,(j:Int),(s:Int),.inl rfl,?_⟩;rw[<-hr]
  rw[Qa0 J] at hr;rw[ai (by simp;omega),show Zz AI ((b:Int)-(a:Int))=((b-a:Nat):Int) from(Xj (by omega) (by omega)).trans (by omega)];by_cases L:b-a<50
  .rw[Qa1 L] at hr;rw[ae (by simp;omega)];refine⟨_,rfl,(j:Int),(s:Int),.inl rfl,?_⟩;rw[<-hr]
  rw[Qa0 L] at hr;rw[ai (by simp;omega)];have g1:j<e.size:=by omega
  have g2:j-1<e.size:=by omega
  simp only[show Zz AI ((j:Int)-1)=((j-1:Nat):Int) from(Xj (by omega) (by omega)).trans (by omega),show Zz AI ((j:Int)-(a:Int))=((j-a:Nat):Int) from(Xj (by omega) (by omega)).trans (by omega)];rw[Kerb.rd g2,Kerb.rd g1,Kerb.wr g1 (by simp[Wj];omega),Kerb.dq,Kerb.wr (by rw[Wp];exact g2) (by simp[Wj];omega),Kerb.dq,show(Xq (Xq e j e[j-1]!) (j-1) e[j]!)=Go.Sort.swp e j (j-1) from rfl];have hz:(Go.Sort.swp e j (j-1)).size=d.size:=by rw[Wd,hs]
  generalize Go.Sort.swp e j (j-1)=f at hz hr ⊢;have fin:∀ g:Array Int,g.size=d.size->Go.Sort.fixUp Go.Sort.ltInt b j (Go.Sort.fixDown Go.Sort.ltInt a j f)=g->∃ y,Zd (Yp [Yj (Xw g),Zy AI (a:Int),Zy AI (b:Int),Zu Yn,Zy AI (j:Int),Zy AI (Zz AI ((s:Int)+1))])=Zd y/\Cc (ρ:=Ex×List AV) (λs:Array Int×Nat×Nat=>[Yj (Xw s.1),Zy AI (a:Int),Zy AI (b:Int),Zu Yn,Zy AI (s.2.1:Int),Zy AI (s.2.2:Int)]) (λs=>s.1.size=d.size/\a+1<=s.2.1/\s.2.1<=b/\s.2.2<=5/\Go.Sort.partialIns Go.Sort.ltInt a b (5-s.2.2) s.2.1 s.1=Go.Sort.partialIns Go.Sort.ltInt a b 5 (a+1) d) (λs=>5-s.2.2) (λr=>∃ i n,(r.1 = .ret\/r.1 = .exit 0/\(Go.Sort.partialIns Go.Sort.ltInt a b 5 (a+1) d).2=Yn)/\r.2=[Yj (Xw (Go.Sort.partialIns Go.Sort.ltInt a b 5 (a+1) d).1),Zy AI (a:Int),Zy AI (b:Int),Zu (Go.Sort.partialIns Go.Sort.ltInt a b 5 (a+1) d).2,Zy AI i,Zy AI n]) (e,i,s) y:=λg hg hf=>by
   rw[show Zz AI ((s:Int)+1)=((s+1:Nat):Int) from(Xj (by omega) (by omega)).trans (by omega)];refine⟨_,rfl,(g,j,s+1),rfl,⟨hg,by dsimp only;omega,by dsimp only;omega,by dsimp only;omega,?_⟩,by dsimp only;omega⟩;dsimp only;rw[<-hr,hf]
  have K:∀ g:Array Int,Zz AI ((b:Int)-(j:Int))=((b-j:Nat):Int):=λ_=>(Xj (by omega) (by omega)).trans (by omega);simp only[K f,show Zz AI ((j:Int)+1)=((j+1:Nat):Int) from(Xj (by omega) (by omega)).trans (by omega)];have up:∀ g:Array Int,g.size=d.size->Go.Sort.fixDown Go.Sort.ltInt a j f=g->b-j>=2->Go.Sort.fixUp Go.Sort.ltInt b j (Go.Sort.fixDown Go.Sort.ltInt a j f)=Go.Sort.shiftUp Go.Sort.ltInt b (j+1) g/\(Go.Sort.shiftUp Go.Sort.ltInt b (j+1) g).size=d.size:=λg hg hf h=>⟨by rw[hf];unfold Go.Sort.fixUp;rw[Qa1 h],by rw[Kerb.zN _ _ _ rfl,hg]⟩;by_cases Va:j-a>=2
  .rw[ae (by simp;omega)];obtain⟨m,hm⟩:=Kerb.Ku (A:=(a:Int)) (B:=(b:Int)) (I:=(j:Int)) (s:=(s:Int)) (bb:=Yn) (e:=4) (j-1) f (by omega) (by omega);rw[hm];have NW:(Go.Sort.shiftDown Go.Sort.ltInt (j-1) f).size=d.size:=by rw[Kerb.vM,hz]
   have C:Go.Sort.fixDown Go.Sort.ltInt a j f=Go.Sort.shiftDown Go.Sort.ltInt (j-1) f:=by unfold Go.Sort.fixDown;rw[Qa1 Va]
   generalize Go.Sort.shiftDown Go.Sort.ltInt (j-1) f=g at NW C ⊢;simp only[↓gu];simp only[↓bW,↓cG,↓dx,↓dP,↓dA,↓lP];rw[ae (Yx _)];simp only[K g,show Zz AI ((j:Int)+1)=((j+1:Nat):Int) from(Xj (by omega) (by omega)).trans (by omega)];by_cases D:b-j>=2
   .rw[ae (by simp;omega)];obtain⟨m,hm⟩:=Kerb.FW (A:=(a:Int)) (I:=(j:Int)) (s:=(s:Int)) (bb:=Yn) (b:=b) (e:=6) _ (j+1) g rfl (by omega) (by omega) (by omega) (by omega);rw[hm];simp only[↓gu];simp only[↓bW,↓cG,↓dx,↓dP,↓dA,↓lP];rw[ae (Yx _)];exact fin _ (up g NW C D).2 (up g NW C D).1
   .rw[ai (by simp;omega)];exact fin _ NW (by rw[C];unfold Go.Sort.fixUp;rw[Qa0 D])
  .rw[ai (by simp;omega)];have C:Go.Sort.fixDown Go.Sort.ltInt a j f=f:=by unfold Go.Sort.fixDown;rw[Qa0 Va]
   by_cases D:b-j>=2
   .rw[ae (by simp;omega)];obtain⟨m,hm⟩:=Kerb.FW (A:=(a:Int)) (I:=(j:Int)) (s:=(s:Int)) (bb:=Yn) (b:=b) (e:=6) _ (j+1) f rfl (by omega) (by omega) (by omega) (by omega);rw[hm];simp only[↓gu];simp only[↓bW,↓cG,↓dx,↓dP,↓dA,↓lP];rw[ae (Yx _)];exact fin _ (up f hz C D).2 (up f hz C D).1
   .rw[ai (by simp;omega)];exact fin _ hz (by rw[C];unfold Go.Sort.fixUp;rw[Qa0 D])
 .rintro⟨x,l⟩ ⟨i,n,h | ⟨h,hf⟩,rfl⟩
  .dsimp only at h;subst h;simp only[↓bW,↓cG,↓dx,↓dP,↓dA,↓Xc]
  .dsimp only at h;subst h;simp only[↓bW,↓cG,↓dx,↓dP,↓dA,↓lP];rw[ae (Yx _),hf]
theorem alT:Wk 189 3 F6:=by
 refine g8 Tryz.func189 λ_ _ _ h=> ?_;unfold F6 at h;split at h;case h_2=>cases h
 rename_i a b p els;obtain⟨aI,rfl⟩:=ja h
 refine Fh [0] (ax (Zv (0<=p)&&Zv (p<(Zw els:Int))&&Zf) (ax (Zb (Zx p) (Zw els)&&Zf) (Yg AT (Zj els (Zx p) Zn) λn=>ax (Zv (0<=a)&&Zv (a<(Zw els:Int))&&Zf) (ax (Zb (Zx a) (Zw els)&&Zf) (Yg AT (Zj els (Zx a) Zn) λC=>ax (Zv (0<=a)&&Zv (a<(Zw els:Int))&&Zf) (ax (Zb (Zx a) (Zw els)&&Zf) (Yg AT (Zj els (Zx a) Zn) λP=>ax (Zw [Zy AT n]==nat_lit 1&&Zf&&Zf&&Zf&&Zb (Zx a) (Zw els)) (ax (Zv (0<=p)&&Zv (p<(↑(Zw (Zh els (Zx a) (Zy AT n))):Int))&&Zf) (ax (Zb (Zx p) (Zw (Zh els (Zx a) (Zy AT n)))&&Zf) (Yg AT (Zj (Zh els (Zx a) (Zy AT n)) (Zx p) Zn) λO=>ax (Zw [Zy AT C]==nat_lit 1&&Zf&&Zf&&Zf&&Zb (Zx p) (Zw (Zh els (Zx a) (Zy AT n)))) (Zp (bh (λst=>ar st λx r=>Xh x λy=>af AI r λn r=>af AI r λB r=>af AI r λJ r=>ak r (Zp (bh (λst=>ar st λx r=>Xh x λy=>af AI r λn r=>af AI r λg r=>af AI r λm r=>ak r (aK (Zv (g<=m)) (ax (Zv (0<=n)&&Zv (n<(Zw y:Int))&&Zf) (ax (Zb (Zx n) (Zw y)&&Zf) (Yg AT (Zj y (Zx n) Zn) λf=>ax (Zv (0<=g)&&Zv (g<(Zw y:Int))&&Zf) (ax (Zb (Zx g) (Zw y)&&Zf) (Yg AT (Zj y (Zx g) Zn) λc=>aK (!Zv (f<c)) (Zd (Yp [Yj y,Zy AI n,Zy AI (Zz AI (g+1)),Zy AI m])) (Zd (Yy (Yq 2,[Yj y,Zy AI n,Zy AI g,Zy AI m])))))))) (Zd (Yy (Yq 2,[Yj y,Zy AI n,Zy AI g,Zy AI m]))))) [Yj y,Zy AI n,Zy AI B,Zy AI J]) λ(r:Ex×List AV)=>ar (Yf r) λx A=>Xh x λy=>af AI A λn w=>af AI w λg z=>af AI z λm t=>ak t (kJ r.1 (Zd (Yy (Xn,[Yj y,Zy AI n,Zy AI g,Zy AI m]))) λj=>aK (Ym j 2) (Zp (bh (λst=>ar st λx r=>Xh x λy=>af AI r λn r=>af AI r λf r=>af AI r λc r=>ak r (aK (Zv (f<=c)) (ax (Zv (0<=n)&&Zv (n<(Zw y:Int))&&Zf) (ax (Zb (Zx n) (Zw y)&&Zf) (Yg AT (Zj y (Zx n) Zn) λl=>ax (Zv (0<=c)&&Zv (c<(Zw y:Int))&&Zf) (ax (Zb (Zx c) (Zw y)&&Zf) (Yg AT (Zj y (Zx c) Zn) λo=>aK (Zv (l<o)) (Zd (Yp [Yj y,Zy AI n,Zy AI f,Zy AI (Zz AI (c-1))])) (Zd (Yy (Yq 4,[Yj y,Zy AI n,Zy AI f,Zy AI c])))))))) (Zd (Yy (Yq 4,[Yj y,Zy AI n,Zy AI f,Zy AI c]))))) [Yj y,Zy AI n,Zy AI g,Zy AI m]) λ(r:Ex×List AV)=>ar (Yf r) λx G=>Xh x λy=>af AI G λn F=>af AI F λf E=>af AI E λc D=>ak D (kJ r.1 (Zd (Yy (Xn,[Yj y,Zy AI n,Zy AI f,Zy AI c]))) λj=>aK (Ym j 4) (aK (Zv (f>c)) (Zd (Yy (Yq 0,[Yj y,Zy AI n,Zy AI f,Zy AI c]))) (ax (Zv (0<=c)&&Zv (c<(Zw y:Int))&&Zf) (ax (Zb (Zx c) (Zw y)&&Zf) (Yg AT (Zj y (Zx c) Zn) λl=>ax (Zv (0<=f)&&Zv (f<(Zw y:Int))&&Zf) (ax (Zb (Zx f) (Zw y)&&Zf) (Yg AT (Zj y (Zx f) Zn) λo=>ax (Zv (0<=f)&&Zv (f<(Zw y:Int))&&Zf) (ax (Zb (Zx f) (Zw y)&&Zf) (Yg AT (Zj y (Zx f) Zn) λM=>ax (Zw [Zy AT l]==nat_lit 1&&Zf&&Zf&&Zf&&Zb (Zx f) (Zw y)) (ax (Zv (0<=c)&&Zv (c<(↑(Zw (Zh y (Zx f) (Zy AT l))):Int))&&Zf) (ax (Zb (Zx c) (Zw (Zh y (Zx f) (Zy AT l)))&&Zf) (Yg AT (Zj (Zh y (Zx f) (Zy AT l)) (Zx c) Zn) λN=>ax (Zw [Zy AT o]==nat_lit 1&&Zf&&Zf&&Zf&&Zb (Zx c) (Zw (Zh y (Zx f) (Zy AT l)))) (Zd (Yp [Yj (Zh (Zh y (Zx f) (Zy AT l)) (Zx c) (Zy AT o)),Zy AI n,Zy AI (Zz AI (f+1)),Zy AI (Zz AI (c-1))]))))))))))))) Wq)) Wq))) [Yj (Zh (Zh els (Zx a) (Zy AT n)) (Zx p) (Zy AT C)),Zy AI a,Zy AI (Zz AI (a+1)),Zy AI (Zz AI (b-1))]) λ(r:Ex×List AV)=>ar (Yf r) λx A=>Xh x λy=>af AI A λn w=>af AI w λn z=>af AI z λB t=>ak t (kJ r.1 Wq λj=>aK (Ym j 0) (Zd (Zy AI n,[y])) Wq)))))))))))) ?_
 dsimp only[af];simp only[Zm,Qa2] at aI;obtain⟨⟨⟨⟨⟨⟨hZ,hlen⟩,Q⟩,L⟩,hb⟩,I⟩,H⟩:=aI;obtain⟨d,rfl,hd⟩:=Kerb.nr hZ;simp only[Wj] at hlen hb;obtain⟨a,rfl⟩:=Yv (show 0<=a by omega);obtain⟨b,rfl⟩:=Yv (show 0<=b by omega);obtain⟨p,rfl⟩:=Yv (show 0<=p by omega);have h1:a<d.size:=by omega
 have h2:p<d.size:=by omega
 have hs:(Go.Sort.swp d a p).size=d.size:=Wd _ _ _;rw[Kerb.xZ];unfold Go.Sort.partitionEqual;rw[Kerb.rd h2,Kerb.rd h1,Kerb.wr h1 (by simp[Wj];omega),Kerb.dq,Kerb.wr (by rw[Wp];exact h2) (by simp[Wj];omega),Kerb.dq,show(Xq (Xq d a d[p]!) p d[a]!)=Go.Sort.swp d a p from rfl];rw[show Zz AI ((a:Int)+1)=((a+1:Nat):Int) from(Xj (by omega) (by omega)).trans (by omega),show Zz AI ((b:Int)-1)=((b-1:Nat):Int) from(Xj (by omega) (by omega)).trans (by omega)];generalize Go.Sort.swp d a p=d2 at hs ⊢;refine bS (λs:Array Int×Nat×Nat=>[Yj (Xw s.1),Zy AI (a:Int),Zy AI (s.2.1:Int),Zy AI (s.2.2:Int)]) (λs=>s.1.size=d.size/\1<=s.2.1/\s.2.1<=s.2.2+2/\s.2.2<d.size/\Go.Sort.partEqLoop Go.Sort.ltInt a s.2.1 s.2.2 s.1=Go.Sort.partEqLoop Go.Sort.ltInt a (a+1) (b-1) d2) (λs=>s.2.2+1-s.2.1) (λr=>∃ n,r=(.exit 0,[Yj (Xw (Go.Sort.partEqLoop Go.Sort.ltInt a (a+1) (b-1) d2).2),Zy AI (a:Int),Zy AI ((Go.Sort.partEqLoop Go.Sort.ltInt a (a+1) (b-1) d2).1:Int),Zy AI n])) (d2,a+1,b-1) ⟨hs,by dsimp only;omega,by dsimp only;omega,by dsimp only;omega,rfl⟩ rfl ?_ ?_
 .rintro⟨e,i,j⟩ ⟨hs,hi,K,hj,hr⟩;dsimp only at hs hi K hj hr ⊢;simp only[↓bW,↓cG,↓dx,↓dA];rw[Kerb.aha (by omega) (by omega) (by omega) (by omega)];dsimp only;have u:=Go.Sort.scanUp_spec (λx => !Go.Sort.ltInt e[a]! x) e j _ i rfl;have v:=Go.Sort.scanDown_spec (λx=>Go.Sort.ltInt e[a]! x) e (Go.Sort.scanUp (λx => !Go.Sort.ltInt e[a]! x) e j i) j;rw[Go.Sort.partEqLoop_eq] at hr;have q:j+1<i->Go.Sort.scanUp (λx => !Go.Sort.ltInt e[a]! x) e j i=i:=λh=>by
   unfold Go.Sort.scanUp;rw[Qa0 (by simp;omega)]
  generalize Go.Sort.scanUp (λx => !Go.Sort.ltInt e[a]! x) e j i=i3 at u v hr q ⊢;simp only[↓bW,↓cG,↓dx,↓dA,↓lP];rw[ae (Yx _)];have u1:=u.1;have u2:=u.2.1;rw[Kerb.VW (by omega) (by omega) (by omega) (by omega)];dsimp only;generalize Go.Sort.scanDown (λx=>Go.Sort.ltInt e[a]! x) e i3 j=k at v hr ⊢;simp only[↓bW,↓cG,↓dx,↓dA,↓lP];rw[ae (Yx _)];have v1:=v.1;have v2:=v.2.1;by_cases hc:i3>k
  .rw[Qa1 hc] at hr;rw[ae (by simp;omega)];refine⟨_,rfl,(k:Int),?_⟩;rw[<-hr]
  .rw[Qa0 hc] at hr;have h3:i3<e.size:=by omega
   have h4:k<e.size:=by omega
   rw[ai (by simp;omega)];rw[Kerb.rd h4,Kerb.rd h3,Kerb.wr h3 (by simp[Wj];omega),Kerb.dq,Kerb.wr (by rw[Wp];exact h4) (by simp[Wj];omega),Kerb.dq,show(Xq (Xq e i3 e[k]!) k e[i3]!)=Go.Sort.swp e i3 k from rfl];rw[show Zz AI ((i3:Int)+1)=((i3+1:Nat):Int) from(Xj (by omega) (by omega)).trans (by omega),show Zz AI ((k:Int)-1)=((k-1:Nat):Int) from(Xj (by omega) (by omega)).trans (by omega)];exact⟨_,rfl,(Go.Sort.swp e i3 k,i3+1,k-1),rfl,⟨by dsimp only;rw[Wd,hs],by dsimp only;omega,by dsimp only;omega,by dsimp only;omega,hr⟩,by dsimp only;omega⟩
 .rintro _ ⟨n,rfl⟩;simp only[↓bW,↓cG,↓dx,↓dA,↓lP];rw[ae (Yx _)]
end Go.Proofs.YtpelamlfpffacaaGreat
