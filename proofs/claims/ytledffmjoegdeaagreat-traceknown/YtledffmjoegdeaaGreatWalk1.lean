/- Results of functions. -/
import Derived.Test.YtledffmjoegdeaaGreatTab
set_option linter.all false
open Go.IntKind renaming i64->AI,u64->AT
open Go.IntKind renaming wrap->Zz,i64->Zu,bits->Zj,u64->Xw
open Go.Abs.AV renaming int->Zy,bool->Zq,undef->Zn,bs->Zh,str->Yw,sl->Yg,ay->Xx,bp->Xv,aw->Xq,eG->Xd
open Int renaming toNat->Zx,toNat_natCast->Yy,eq_ofNat_of_zero_le->Xz,tmod->Xu,fdiv->Xk,tmod_eq_emod_of_nonneg->Wz,tdiv_eq_ediv_of_nonneg->Wj,tdiv->Wp
open List renaming length->Zw,getD->Zk,set->Yj,take_of_length_le->Yp,take->Yn,drop->Ym,range_succ->Xf,append->Xb,replicate->Xh,drop_eq_nil_of_le->Wv
open Decidable renaming decide->Zv
open Option renaming bind->Zp,some->Zd,none->Wd
open Bool renaming and_eq_true->Zf,true->Zb,false->Yk,and_self->Xj,and_true->Xn
open UInt8 renaming toNat->Zg,ofNat->Yx
open Nat renaming beq_refl->Zm,blt->Yz,beq->Yh,zero_le->Xm
open Kerb renaming indexOf->Yv,toK->Yd,wN->Xy,room->Xp,back->Xg,im->Wx,isKind->Ww,ie->Wu,dp->Wq,aD->Wf,V2->Wg
open Sum renaming inr->Yu,inl->Yf
open Go.Abs.Ex renaming exit->Yq,ret->Wy
open Prod renaming snd->Yb
namespace Go.Proofs.YtledffmjoegdeaaGreat
open Go Go.Abs Go.Proofs
set_option maxRecDepth 100000
theorem w23:Wk 23 1 ao':=by
 refine g8 Tryz.func23 λ_ _ _ h=> ?_;unfold ao' at h;split at h;case h_2=>cases h
 rename_i b how;obtain⟨aI,rfl⟩:=ja h;refine jI (let t0:Int:=Xu (Zz AI (Zz .u16 (Wp how 8))) (Zw b:Int);ax (room (Zw b) 1) (aK ((Zw b:Int)==0) (Zd (Zh b,[])) (ax (!(Zw b:Int)==0) (aK (Xu how 4==0) (ax (Zv (0<=t0)&&Zv (t0<(Zw b:Int))) (ax (Yz (Zx t0) (Zw b)&&Zb&&Zb&&Zb) (ax (Zv (0<=Zz AT (Xu how 7))) (ax (Zv (0<=t0)&&Zv (t0<(Zw b:Int))) (ax (Yz (Zx t0) (Zw b)&&Zb&&Zb&&Zb&&Zb) (Zd (Zh (Yj b (Zx t0) (Yx (Zx (Zz .u8 (↑(BitVec.toNat (BitVec.ofInt (Zj .u8) (↑(Zg (Zk b (Zx t0) (0:UInt8))):Int) ^^^ BitVec.ofInt (Zj .u8) (↑(Zg (Yx (Zx (Zz .u8 ((↑(Zg (1:UInt8)):Int)*2 ^ min (Zx (Zz AT (Xu how 7))) 8))))):Int))):Int))))),[]))))))) (aK (Xu how 4==1) (ax (Zv (0<=t0)&&Zv (t0<=(Zw b:Int))&&Yz 0 (Zw b)&&Zb) (ax (Zv (0<=Zz AI (t0+1))&&Zv (Zz AI (t0+1)<=(Zw b:Int))&&Yz 0 (Zw b)&&Zb) (ax (Yz 0 (Zw b)&&Zb&&Zb&&Zb&&Zb&&room (Zx t0+(Zw b-Zx (Zz AI (t0+1)))) 1) (Zd (Zh (Yn (Zx t0) b++Ym (Zx (Zz AI (t0+1))) b),[]))))) (aK (Xu how 4==2) (ax (room (Zw b+Zw [Yx (Zx (Zz .u8 how))]) 1) (Zd (Zh (b++[Yx (Zx (Zz .u8 how))]),[]))) (Zd (Zh b,[])))))))) ?_;try dsimp only[bg,dg,az,lR,af,eg,jM]
 simp only[Zf,Qa2] at aI;obtain⟨⟨hb,h0⟩,h1⟩:=aI;rw[aq (Wu (by omega))];unfold Kerb.xv;by_cases hn:b=[]
 .subst hn;rfl
 have j:0<b.length:=List.length_pos_iff.2 hn;rw[Qa0 hn,ai (by simp;omega),aq (by simp;omega)];have e:Xu (Zz Zu (Zz IntKind.u16 (Wp how (8:Int)))) (b.length:Int)=Kerb.pV b how:=rfl;rw[e];obtain⟨ha,hc⟩:=Kerb.MZ h0 h1 j;generalize Kerb.pV b how=a at ha hc ⊢;have hd:(Zv ((0:Int)<=a)&&Zv (a<(b.length:Int)))=Zb:=by simp;omega
 have i:Yz a.toNat b.length=Zb:=Nat.ble_eq_true_of_le (by omega);have c:Yz 0 b.length=Zb:=Nat.ble_eq_true_of_le (by omega);have h7:Zv ((0:Int)<=Zz Xw (Xu how (7:Int)))=Zb:=by rw[Kerb.wrap_u64];simp;omega
 by_cases g:Xu how 4=0
 .rw[Qa1 g,ae (by simpa using g),aq hd,aq (by rw[i];rfl),aq h7,aq hd,aq (by rw[i];rfl)]
 rw[Qa0 g,ai (by simpa using g)];by_cases f:Xu how 4=1
 .rw[Qa1 f,ae (by simpa using f),wrap_i64 (n:=a+1) (by omega) (by omega),aq (by rw[c];simp;omega),aq (by rw[c];simp;omega),aq (by rw[c,Wu (by omega)];rfl)]
 rw[Qa0 f,ai (by simpa using f)];by_cases d:Xu how 4=2
 .rw[Qa1 d,ae (by simpa using d),aq (Wu (by simp;omega))]
 .rw[Qa0 d,ai (by simpa using d)]
theorem w28:Wk 28 1 ahu:=by
 refine g8 Tryz.func28 λ_ _ _ h=> ?_;unfold ahu at h;split at h;case h_2=>cases h
 rename_i ks c;obtain⟨aI,rfl⟩:=ja h;refine jI (aK (!(Zw ks:Int)==(Zw c:Int)) (Zd (Zq Yk,[])) (Zp (bh (λst=>eg 1 st λb r=>eg 1 r λa r=>az r λd r=>af AI r λn r=>ak r (aK (Zv (n<(Zw b:Int))) (ax (Zv (0<=n)&&Zv (n<(Zw b:Int))&&Zb) (Xq AT (Zk b (Zx n) Zn) λs=>ax (Zv (0<=n)&&Zv (n<(Zw a:Int))&&Zb) (Xq AT (Zk a (Zx n) Zn) λq=>aK (!s==q) (Zd (Yu (Wy,[Yg 1 b,Yg 1 a,Zq Yk,Zy AI n]))) (Zd (Yf [Yg 1 b,Yg 1 a,Zq d,Zy AI (Zz AI (n+1))]))))) (Zd (Yu (Yq 0,[Yg 1 b,Yg 1 a,Zq d,Zy AI n]))))) [Yg 1 ks,Yg 1 c,Zq Yk,Zy AI 0]) λ(r:Ex×List AV)=>eg 1 (Yb r) λb p=>eg 1 p λb k=>az k λb o=>af AI o λn g=>ak g (kJ r.1 (Zd (Zq b,[])) λj=>aK (Yh j 0) (Zd (Zq Zb,[])) Wd))) ?_;dsimp only[az,af,eg];simp only[Zf,Qa2] at aI;obtain⟨⟨h1,h2⟩,hn⟩:=aI;obtain⟨l,rfl⟩:=Kerb.xW h1;obtain⟨m,rfl⟩:=Kerb.xW h2;rw[Wq] at hn;rw[Kerb.jE,Kerb.jE,Wq,Wq];by_cases hlen:l.length=m.length;case neg =>
  have f:(l==m)=Yk:=by
   cases he:l==m with
   | true=>exact absurd (Qb4 Zw (eq_of_beq he)) hlen
   | false=>rfl
  rw[ae (by simp;omega),f]
 rw[ai (by simp;omega)];have e:=Kerb.afj 0 hlen;refine Qb2 (Kerb.oH (A:=(.bool Yk,[])) (B:=(.bool Zb,[])) (λi=>[.sl 1 (Yd l),.sl 1 (Yd m),.bool Yk,.int AI (i:Int)]) l.length (λi => !(l.getD i 0==m.getD i 0)) ?_ ?_ ?_ rfl) (by rw[e];cases l==m<;>rfl)
 .intro i hi hp;have mM:i<m.length:=by omega
  try dsimp only at hp ⊢
  simp only[↓A0,A0,Wg,Kerb.lk hi,Kerb.lk mM,Kerb.Pn hi,Kerb.Pn mM,Xj,Xn,Kerb.Lb (show i<=1000000000 by omega),hp]
 .intro i hi hp;have mM:i<m.length:=by omega
  try dsimp only at hp ⊢
  refine⟨(.ret,[.sl 1 (Yd l),.sl 1 (Yd m),.bool Yk,.int AI (i:Int)]),?_,?_⟩;case refine_2=>rfl
  simp only[↓A0,A0,Wg,Kerb.lk hi,Kerb.lk mM,Kerb.Pn hi,Kerb.Pn mM,Xj,Xn,hp]
 .refine⟨(.exit 0,[.sl 1 (Yd l),.sl 1 (Yd m),.bool Yk,.int AI (l.length:Int)]),?_,?_⟩;case refine_2=>rfl
  try dsimp only
  simp only[↓A0,A0,Kerb.DV]
theorem w29:Wk 29 1 ahy:=by
 refine g8 Tryz.func29 λ_ _ _ h=> ?_;unfold ahy at h;split at h;case h_2=>cases h
 rename_i bs cs;obtain⟨aI,rfl⟩:=ja h;refine jI (aK (!(Zw bs:Int)==(Zw cs:Int)) (Zd (Zq Yk,[])) (Zp (bh (λst=>eg 1 st λb r=>eg 1 r λa r=>az r λc r=>af AI r λn r=>ak r (aK (Zv (n<(Zw b:Int))) (ax (Zv (0<=n)&&Zv (n<(Zw b:Int))&&Zb) (AV.dC (Zk b (Zx n) Zn) λf=>ax (Zv (0<=n)&&Zv (n<(Zw a:Int))&&Zb) (AV.dC (Zk a (Zx n) Zn) λd=>aK (!f==d) (Zd (Yu (Wy,[Yg 1 b,Yg 1 a,Zq Yk,Zy AI n]))) (Zd (Yf [Yg 1 b,Yg 1 a,Zq c,Zy AI (Zz AI (n+1))]))))) (Zd (Yu (Yq 0,[Yg 1 b,Yg 1 a,Zq c,Zy AI n]))))) [Yg 1 bs,Yg 1 cs,Zq Yk,Zy AI 0]) λ(r:Ex×List AV)=>eg 1 (Yb r) λb q=>eg 1 q λb o=>az o λb p=>af AI p λn k=>ak k (kJ r.1 (Zd (Zq b,[])) λj=>aK (Yh j 0) (Zd (Zq Zb,[])) Wd))) ?_;dsimp only[az,af,eg];simp only[Zf,Qa2] at aI;obtain⟨⟨h1,h2⟩,hn⟩:=aI;obtain⟨l,rfl⟩:=Kerb.Tk h1;obtain⟨m,rfl⟩:=Kerb.Tk h2;rw[Kerb.c6] at hn;rw[Kerb.lK,Kerb.lK,Kerb.c6,Kerb.c6];by_cases hlen:l.length=m.length;case neg =>
  have g:(l==m)=Yk:=by
   cases he:l==m with
   | true=>exact absurd (Qb4 Zw (eq_of_beq he)) hlen
   | false=>rfl
  rw[ae (by simp;omega),g]
 rw[ai (by simp;omega)];have e:=Kerb.afj [] hlen;refine Qb2 (Kerb.oH (A:=(.bool Yk,[])) (B:=(.bool Zb,[])) (λi=>[.sl 1 (Kerb.toB l),.sl 1 (Kerb.toB m),.bool Yk,.int AI (i:Int)]) l.length (λi => !(l.getD i []==m.getD i [])) ?_ ?_ ?_ rfl) (by rw[e];cases l==m<;>rfl)
 .intro i hi hp;have mM:i<m.length:=by omega
  try dsimp only at hp ⊢
  simp only[↓A0,A0,Wg,Kerb.IJ hi,Kerb.IJ mM,Kerb.aep hi,Kerb.aep mM,Xj,Xn,Kerb.Lb (show i<=1000000000 by omega),hp]
 .intro i hi hp;have mM:i<m.length:=by omega
  try dsimp only at hp ⊢
  refine⟨(.ret,[.sl 1 (Kerb.toB l),.sl 1 (Kerb.toB m),.bool Yk,.int AI (i:Int)]),?_,?_⟩;case refine_2=>rfl
  simp only[↓A0,A0,Wg,Kerb.IJ hi,Kerb.IJ mM,Kerb.aep hi,Kerb.aep mM,Xj,Xn,hp]
 .refine⟨(.exit 0,[.sl 1 (Kerb.toB l),.sl 1 (Kerb.toB m),.bool Yk,.int AI (l.length:Int)]),?_,?_⟩;case refine_2=>rfl
  try dsimp only
  simp only[↓A0,A0,Kerb.DT]
theorem w72:Wk 72 1 MY:=by
 refine g8 Tryz.func72 λ_ _ _ h=> ?_;unfold MY at h;split at h;case h_2=>cases h
 rename_i ks k;obtain⟨aI,rfl⟩:=ja h;refine jI (Zp (bh (λst=>eg 1 st λb r=>af AT r λn r=>af AI r λa r=>let t0:Option (List AV ⊕ Ex×List AV):=Zd (Yu (Yq 0,[Yg 1 b,Zy AT n,Zy AI a]));ak r (aK (Zv (a<(Zw b:Int))) (ax (Zv (0<=a)&&Zv (a<(Zw b:Int))&&Zb) (Xq AT (Zk b (Zx a) Zn) λc=>aK (Zv (c<n)) (Zd (Yf [Yg 1 b,Zy AT n,Zy AI (Zz AI (a+1))])) t0)) t0)) [Yg 1 ks,Zy AT k,Zy AI 0]) λ(r:Ex×List AV)=>eg 1 (Yb r) λb s=>let t1:List AV:=Yn (Zx (Zw b:Int)) b;af AT s λn m=>af AI m λa o=>let t3:List AV:=Ym (Zx (↑(0:Nat):Int)) (Yn (Zx a) b)++[Zy AT n];let t2:Option (AV×aO):=ax (Zv ((↑(0:Nat):Int)<=a)&&Zv (a<=(Zw b:Int))) (ax (room (Zw (Ym (Zx (↑(0:Nat):Int)) (Yn (Zx a) b))) (nat_lit 8)) (ax (room (Zw (Ym (Zx (↑(0:Nat):Int)) (Yn (Zx a) b))+Zw [Zy AT n]) (nat_lit 8)) (ax (Zv (0<=a)&&Zv (a<=(Zw b:Int))&&Zv ((Zw b:Int)<=(Zw b:Int))) (ax (room (Zw t3+Zw (Ym (Zx a) t1)) (nat_lit 8)) (Zd (Yg 1 (t3++Ym (Zx a) t1),[]))))));ak o (kJ r.1 Wd λj=>aK (Yh j 0) (aK (Zv (a<(Zw b:Int))) (ax (Zv (0<=a)&&Zv (a<(Zw b:Int))&&Zb) (Xq AT (Zk b (Zx a) Zn) λc=>aK (c==n) (ax (room (Zw b) (nat_lit 8)) (Zd (Yg 1 b,[]))) t2)) t2) Wd)) ?_;try dsimp only[bg,dg,az,lR,af,eg,jM]
 simp only[Zf,Qa2] at aI;obtain⟨l,rfl⟩:=Kerb.xW aI.1;have hn:=aI.2;rw[Wq] at hn;rw[Kerb.jE];refine bS (enc:=λ(i:Nat)=>[.sl 1 (Yd l),.int AT k,.int AI (i:Int)]) (I:=λi=>i<=l.length/\∀ j,j<i->l.getD j 0<k) (μ:=λi=>l.length-i) (R:=λr=>∃ i:Nat,i<=l.length/\(∀ j,j<i->l.getD j 0<k)/\(i<l.length->¬ l.getD i 0<k)/\r=(.exit 0,[.sl 1 (Yd l),.int AT k,.int AI (i:Int)])) 0 ⟨Xm _,λj h=>by omega⟩ rfl ?_ ?_
 .rintro i ⟨hi,hj⟩;by_cases h:i<l.length
  .by_cases hk:l.getD i 0<k
   .refine⟨.inl [.sl 1 (Yd l),.int AT k,.int AI ((i+1:Nat):Int)],?_,i+1,rfl,⟨h,λj w=> ?_⟩,show l.length-(i+1)<l.length-i by omega⟩
    .try dsimp only
     simp only[↓A0,A0,Wg,Kerb.lk h,Kerb.Pn h,Xj,Xn,Kerb.Lb (show i<=1000000000 by omega),Qa4 hk]
    .by_cases e:j=i
     .rw[e];exact hk
     .exact hj j (by omega)
   .refine⟨.inr (.exit 0,[.sl 1 (Yd l),.int AT k,.int AI (i:Int)]),?_,i,hi,hj,λ_=>hk,rfl⟩;try dsimp only
    simp only[↓A0,A0,Wg,Kerb.lk h,Kerb.Pn h,Xj,Xn,Qa5 hk]
  .obtain rfl:i=l.length:=by omega
   refine⟨.inr (.exit 0,[.sl 1 (Yd l),.int AT k,.int AI (l.length:Int)]),?_,l.length,hi,hj,λh=>by omega,rfl⟩;try dsimp only
   simp only[↓A0,A0,Kerb.DV]
 .rintro r ⟨i,hi,hj,hk,rfl⟩;rw[Kerb.NY hi hj hk];have r1:Go.Abs.room (Yd l).length 8=Zb:=by rw[Wq];exact Kerb.HK (by omega)
  have v:Zv (((0:Nat):Int)<=(i:Int))=Zb:=Wg i;have u:Zv ((i:Int)<=((Yd l).length:Int))=Zb:=by rw[Wq];exact Qa4 (by omega)
  have t:Zv (((Yd l).length:Int)<=((Yd l).length:Int))=Zb:=Qa4 (Int.le_refl _);have t0:Ym (Zx ((0:Nat):Int)) (Yn (Zx (i:Int)) (Yd l))=Yd (l.take i):=by rw[Yy,Yy,List.drop_zero,Kerb.ago]
  have t1:Ym (Zx (i:Int)) (Yn (Zx ((Yd l).length:Int)) (Yd l))=Yd (l.drop i):=by rw[Yy,Yy,List.take_length,Kerb.ad8]
  have l0:(l.take i).length<=l.length:=by rw[List.length_take];omega
  have l1:(l.drop i).length<=l.length:=by rw[List.length_drop];omega
  have g:Go.Abs.room (Yd (l.take i)).length 8=Zb:=by rw[Wq];exact Kerb.HK (by omega)
  have f:Go.Abs.room ((Yd (l.take i)).length+[Zy AT k].length) 8=Zb:=by rw[Wq];exact Kerb.Og (by simp;omega)
  have d:Go.Abs.room ((Yd (l.take i)++[Zy AT k]).length+(Yd (l.drop i)).length) 8=Zb:=by rw[List.length_append,Wq,Wq];exact Kerb.Og (by simp;omega)
  have p:Yd (l.take i)++[Zy AT k]++Yd (l.drop i)=Yd (l.take i++k::l.drop i):=by simp[Yd]
  simp only[↓A0,A0,show Yh 0 0=Zb from rfl,t0,t1,r1,g,f,d,v,u,t,Wg,Xj,p];by_cases h:i<l.length
  .simp only[↓A0,A0,Kerb.lk h,Kerb.Pn h,Xj,Xn];by_cases e:l.getD i 0=k
   .rw[ae (by simpa using e),Qa1 ⟨h,e⟩]
   .rw[ai (by simpa using e),Qa0 (λq=>e q.2)]
  .obtain rfl:i=l.length:=by omega
   rw[ai (Kerb.DV l),Qa0 (λq=>h q.1)]
theorem atq:Wk 136 1 agK:=by
 refine g8 Tryz.func136 λ_ _ _ h=> ?_;unfold agK at h;split at h;case h_2=>cases h
 rename_i c n;cases h;refine jI (let t0:Option (AV×aO):=aK (Zv (n<1)) (Zd (Zy AT 0,[])) (aK (Zv (n>4294967295)) (Zd (Zy AT 0,[])) (Zd (Zy AT (Zz AT (↑(BitVec.toNat (BitVec.ofInt (Zj AT) (Zz AT (Zz AT c*2 ^ min (Zx 56) (Zj AT))) ||| BitVec.ofInt (Zj AT) (Zz AT n))):Int)),[])));aK (!c==1) (aK (!c==2) (Zd (Zy AT 0,[])) t0) t0) ?_;try dsimp only[bg,dg,az,lR,af,eg,jM]
 unfold Kerb.dX Kerb.dd;by_cases hc:c=1\/c=2;case neg =>
  have q1:(c==(1:Int))=Yk:=by simp;omega
  have q2:(c==(2:Int))=Yk:=by simp;omega
  rw[q1,q2];rfl
 by_cases hn:1<=n/\n<=4294967295;case neg =>
  have q:(Zv (1<=n)&&Zv (n<=4294967295))=Yk:=by
   rw[Bool.eq_false_iff];simp;omega
  rw[q,Bool.and_false];have key:(aK (Zv (n<(1:Int))) (Zd (Zy AT (0:Int),([]:aO))) (aK (Zv (n>(4294967295:Int))) (Zd (Zy AT (0:Int),[])) (Zd (Zy Xw (Zz Xw ((BitVec.toNat (BitVec.ofInt (Zj Xw) (Zz Xw (Zz Xw c*(2:Int) ^ min (Zx (56:Int)) (Zj Xw))) ||| BitVec.ofInt (Zj Xw) (Zz Xw n)):Nat):Int)),[]))))=Zd (Zy AT 0,[]):=by
   by_cases hl:n<1
   .rw[ae (by simpa using hl)]
   .rw[ai (by simpa using hl),ae (by simp;omega)]
  rcases hc with rfl | rfl
  .rw[ai (by decide)];exact key
  .rw[ae (by decide),ai (by decide)];exact key
 have q:(Zv (1<=n)&&Zv (n<=4294967295))=Zb:=by simp;omega
 have q2:(c==(1:Int)||c==(2:Int))=Zb:=by simpa using hc
 rw[q,q2,Kerb.SS hc hn.1 hn.2];rcases hc with rfl | rfl
 .rw[ai (by decide),ai (by simp;omega),ai (by simp;omega)];rfl
 .rw[ae (by decide),ai (by decide),ai (by simp;omega),ai (by simp;omega)];rfl
theorem atA:Wk 173 1 T5:=by
 refine g8 Tryz.func173 λ_ _ _ h=> ?_;unfold T5 at h;split at h;case h_2=>cases h
 rename_i k By;cases h;refine jI (aK (Zv (k<1)) (Zd (Zh [],[])) (aK (Zv (k>10)) (Zd (Zh [],[])) (aK By (Zd (Zh [(4:UInt8),Yx (Zx (Zz .u8 (Zz AI (Zz AI (2*k)+1))))],[])) (Zd (Zh [(4:UInt8),Yx (Zx (Zz .u8 (Zz AI (2*k))))],[]))))) ?_;by_cases h:1<=k/\k<=10
 .have hk:k=1\/k=2\/k=3\/k=4\/k=5\/k=6\/k=7\/k=8\/k=9\/k=10:=by omega
  rcases hk with rfl | rfl | rfl | rfl | rfl | rfl | rfl | rfl | rfl | rfl<;>cases By<;>rfl
 .have hk:Ww k=Yk:=by simp[Ww];omega
  by_cases h1:k<1
  .simp[aK,Kerb.header,hk,h1]
  .have h2:10<k:=by omega
   simp[aK,Kerb.header,hk,h1,h2]
theorem atB:Wk 174 1 T6:=by
 refine g8 Tryz.func174 λ_ _ _ h=> ?_;unfold T6 at h;split at h;case h_2=>cases h
 rename_i b s;obtain⟨aI,rfl⟩:=ja h;refine jI (ax (room (Zw b) 1) (ax (room (Zw b+Zw s) 1) (ax (room (Zw (b++s)+Zw [(0:UInt8)]) 1) (Zd (Xd (b++s++[(0:UInt8)]),[]))))) ?_;simp only[Qa2] at aI;rw[aq (Wu (by omega)),aq (Wu (by omega)),aq (Wu (by simp;omega))];simp[Kerb.cX]
theorem atN:Wk 215 1 adx:=by
 refine g8 Tryz.func215 λ_ _ _ h=> ?_;unfold adx at h;split at h;case h_2=>cases h
 rename_i ks k;obtain⟨aI,rfl⟩:=ja h;refine jI (Zp (bh (λst=>eg 1 st λb r=>af AT r λn r=>az r λc r=>af AI r λa r=>ak r (aK (Zv (a<(Zw b:Int))) (ax (Zv (0<=a)&&Zv (a<(Zw b:Int))&&Zb) (Xq AT (Zk b (Zx a) Zn) λo=>aK (o==n) (Zd (Yu (Wy,[Yg 1 b,Zy AT n,Zq Zb,Zy AI a]))) (Zd (Yf [Yg 1 b,Zy AT n,Zq c,Zy AI (Zz AI (a+1))])))) (Zd (Yu (Yq 0,[Yg 1 b,Zy AT n,Zq c,Zy AI a]))))) [Yg 1 ks,Zy AT k,Zq Yk,Zy AI 0]) λ(r:Ex×List AV)=>eg 1 (Yb r) λb m=>af AT m λn f=>az f λb g=>af AI g λn d=>ak d (kJ r.1 (Zd (Zq b,[])) λj=>aK (Yh j 0) (Zd (Zq Yk,[])) Wd)) ?_;dsimp only[az,af,eg];simp only[Zf,Qa2] at aI;obtain⟨l,rfl⟩:=Kerb.xW aI.1;have hn:=aI.2;rw[Wq] at hn;rw[Kerb.jE];have e:=Kerb.kh l 0 (λx=>x==k);rw[show l.any (λx=>x==k)=l.contains k by rw[<-Kerb.ub];congr 1;funext x;exact Bool.beq_comm] at e;rw[<-e];refine Qb2 (Kerb.oH (A:=(.bool Zb,[])) (B:=(.bool Yk,[])) (λi=>[.sl 1 (Yd l),.int AT k,.bool Yk,.int AI (i:Int)]) l.length (λi=>l.getD i 0==k) ?_ ?_ ?_ rfl) (by cases (List.range l.length).any (λi=>l.getD i 0==k)<;>rfl)
 .intro i hi hp;try dsimp only at hp ⊢
  simp only[↓A0,A0,Wg,Kerb.lk hi,Kerb.Pn hi,Xj,Xn,Kerb.Lb (show i<=1000000000 by omega),hp]
 .intro i hi hp;try dsimp only at hp ⊢
  refine⟨(.ret,[.sl 1 (Yd l),.int AT k,.bool Zb,.int AI (i:Int)]),?_,?_⟩;case refine_2=>rfl
  simp only[↓A0,A0,Wg,Kerb.lk hi,Kerb.Pn hi,Xj,Xn,hp]
 .refine⟨(.exit 0,[.sl 1 (Yd l),.int AT k,.bool Yk,.int AI (l.length:Int)]),?_,?_⟩;case refine_2=>rfl
  try dsimp only
  simp only[↓A0,A0,Kerb.DV]
theorem atP:Wk 219 1 ahr:=by
 refine g8 Tryz.func219 λ_ _ _ h=> ?_;unfold ahr at h;split at h;case h_2=>cases h
 rename_i b;cases h;refine jI (let t0:Int:=Zz AI (↑(Zg (Yx (Zx (Zz .u8 (Wp (↑(Zg (Zk b (Zx 1) (0:UInt8))):Int) (↑(Zg (2:UInt8)):Int)))))):Int);let t1:Option (AV×aO):=Zd (Xv [Zy AI 0,Zq Yk,Zy AI 40],[]);aK (Zv ((Zw b:Int)<2)) (Zd (Xv [Zy AI 0,Zq Yk,Zy AI 101],[])) (ax (Zv (0<(Zw b:Int))) (aK (!Zk b (Zx 0) (0:UInt8)==(4:UInt8)) (Zd (Xv [Zy AI 0,Zq Yk,Zy AI 39],[])) (ax (Zv (1<(Zw b:Int))) (aK (Zv (t0<1)) t1 (aK (Zv (t0>10)) t1 (ax (Zv (1<(Zw b:Int))) (Zd (Xv [Zy AI t0,Zq (Yx (Zx (Xu (↑(Zg (Zk b (Zx 1) (0:UInt8))):Int) (↑(Zg (2:UInt8)):Int)))==(1:UInt8)),Zy AI 0],[]))))))))) ?_;try dsimp only[bg,dg,az,lR,af,eg,jM]
 unfold Kerb.bm;by_cases h1:b.length<2
 .rw[ae (by simp;omega)];simp[h1]
 rw[ai (by simp;omega),aq (by simp;omega),Qa0 h1];by_cases h2:b.getD 0 0=4
 .have hb:=(b.getD 1 0).toNat_lt;have e:Zz Zu ((Yx (Zx (Zz IntKind.u8 (Wp ((b.getD (Zx 1) 0).toNat:Int) ((2:UInt8).toNat:Int))))).toNat:Int)=(((b.getD 1 0).toNat / 2:Nat):Int):=by
   rw[show Zx 1=1 from rfl,show((2:UInt8).toNat:Int)=2 from rfl,Wj (by omega),Kerb.wrap_u8];have a:Zx (((b.getD 1 0).toNat:Int) / 2 % 256)=(b.getD 1 0).toNat / 2:=by omega
   rw[a,UInt8.toNat_ofNat_of_lt' (by show _<256;omega),wrap_i64 (by omega) (by omega)]
  have c:(Yx (Zx (Xu ((b.getD (Zx 1) 0).toNat:Int) ((2:UInt8).toNat:Int)))==1)=Zv ((b.getD 1 0).toNat % 2=1):=by
   rw[show Zx 1=1 from rfl,Wz (by omega)];have a:Zx (((b.getD 1 0).toNat:Int) % ((2:UInt8).toNat:Int))=(b.getD 1 0).toNat % 2:=by
    show Zx (((b.getD 1 0).toNat:Int) % 2)=_;omega
   rw[a];rcases Nat.mod_two_eq_zero_or_one (b.getD 1 0).toNat with h | h<;>rw[h]<;>rfl
  rw[ai (by simp[h2] at *;exact h2),aq (by simp;omega),Qa0 (by simpa using h2),e,c];generalize (b.getD 1 0).toNat / 2=m;unfold Ww;by_cases h3:1<=m;case neg =>
   rw[ae (by simp;omega),Qa0 (by simp;omega)]
  by_cases h4:m<=10;case neg =>
   rw[ai (by simp;omega),ae (by simp;omega),Qa0 (by simp;omega)]
  rw[ai (by simp;omega),ai (by simp;omega),aq (by simp;omega),Qa1 (by simp;omega)]
 .rw[ae (by simpa using h2),Qa1 (by simpa using h2)]
theorem amb:Wk 243 1 Uf:=by
 refine g8 Tryz.func243 λ_ _ _ h=> ?_;unfold Uf at h;split at h;case h_2=>cases h
 rename_i s bad;obtain⟨aI,rfl⟩:=ja h;refine jI (Zp (bh (λst=>bg st λb r=>bg r λg r=>az r λk r=>af AI r λn r=>ak r (aK (Zv (n<(Zw b:Int))) (ax (Zv (0<=n)&&Zv (n<(Zw b:Int))) (aK (Zv ((↑(Zg (Zk b (Zx n) (0:UInt8))):Int)<(↑(Zg (33:UInt8)):Int))) (Zd (Yu (Wy,[Yw b,Yw g,Zq Yk,Zy AI n]))) (ax (Zv (0<=n)&&Zv (n<(Zw b:Int))) (aK (Zv ((↑(Zg (Zk b (Zx n) (0:UInt8))):Int)>(↑(Zg (126:UInt8)):Int))) (Zd (Yu (Wy,[Yw b,Yw g,Zq Yk,Zy AI n]))) (Zp (bh (λst=>bg st λb r=>bg r λa r=>az r λf r=>af AI r λn r=>af AI r λd r=>ak r (aK (Zv (d<(Zw a:Int))) (ax (Zv (0<=n)&&Zv (n<(Zw b:Int))) (ax (Zv (0<=d)&&Zv (d<(Zw a:Int))) (aK (Zk b (Zx n) (0:UInt8)==Zk a (Zx d) (0:UInt8)) (Zd (Yu (Wy,[Yw b,Yw a,Zq Yk,Zy AI n,Zy AI d]))) (Zd (Yf [Yw b,Yw a,Zq f,Zy AI n,Zy AI (Zz AI (d+1))]))))) (Zd (Yu (Yq 2,[Yw b,Yw a,Zq f,Zy AI n,Zy AI d]))))) [Yw b,Yw g,Zq k,Zy AI n,Zy AI 0]) λ(r:Ex×List AV)=>bg (Yb r) λb u=>bg u λa q=>az q λf t=>af AI t λn p=>af AI p λd v=>ak v (kJ r.1 (Zd (Yu (Wy,[Yw b,Yw a,Zq f,Zy AI n]))) λj=>aK (Yh j 2) (Zd (Yf [Yw b,Yw a,Zq f,Zy AI (Zz AI (n+1))])) Wd)))))) (Zd (Yu (Yq 0,[Yw b,Yw g,Zq k,Zy AI n]))))) [Yw s,Yw bad,Zq Yk,Zy AI 0]) λ(r:Ex×List AV)=>bg (Yb r) λb u=>bg u λg q=>az q λk t=>af AI t λn p=>ak p (kJ r.1 (Zd (Zq k,[])) λj=>aK (Yh j 0) (Zd (Zq (Zv ((Zw b:Int)<=39)),[])) Wd)) ?_;dsimp only[bg,az,af];simp only[Zf,Qa2] at aI;refine bS (λi:Nat=>[Yw s,Yw bad,Zq Yk,Zy Zu (i:Int)]) (λi=>i<=s.length/\Kerb.dO s bad=Kerb.dO (s.drop i) bad) (λi=>s.length-i)
  (λr=>∃ i:Nat,r.2=[Yw s,Yw bad,Zq Yk,Zy Zu (i:Int)]/\((r.1 = .ret/\Kerb.dO s bad=Yk)\/(r.1 = .exit 0/\Kerb.dO s bad=Zb))) 0 ⟨Xm _,rfl⟩ rfl ?_ ?_
 .rintro i ⟨hi,hp⟩;simp only[A0];by_cases fR:i<s.length
  .have hc:(Zv ((0:Int)<=(i:Int))&&Zv ((i:Int)<(s.length:Int)))=Zb:=by simp;omega
   have hd:=Kerb.oE fR;rw[ae (by simp;omega),aq hc,Yy];have m:Kerb.dO (s.drop i) bad=(Kerb.okB bad (s.getD i 0)&&Kerb.dO (s.drop (i+1)) bad):=by rw[hd];rfl
   generalize x:s.getD i 0=c at *;by_cases h1:c.toNat<33
   .rw[ae (by simp;omega)];exact⟨_,rfl,i,rfl,.inl ⟨rfl,by rw[hp,m];simp[Kerb.okB,h1]⟩⟩
   rw[ai (by simp;omega),aq hc];by_cases h2:126<c.toNat
   .rw[ae (by simp;omega)];exact⟨_,rfl,i,rfl,.inl ⟨rfl,by rw[hp,m];simp[Kerb.okB,h2]⟩⟩
   rw[ai (by simp;omega)];refine Hq (λj:Nat=>[Yw s,Yw bad,Zq Yk,Zy Zu (i:Int),Zy Zu (j:Int)]) (λj=>j<=bad.length/\(c∈bad↔c∈bad.drop j)) (λj=>bad.length-j)
    (λr=>∃ j:Nat,r.2=[Yw s,Yw bad,Zq Yk,Zy Zu (i:Int),Zy Zu (j:Int)]/\((r.1 = .ret/\c∈bad)\/(r.1 = .exit 2/\c ∉ bad))) 0 ⟨Xm _,by simp⟩ rfl ?_ ?_
   .rintro j ⟨hj,hm⟩;simp only[A0];by_cases w:j<bad.length
    .have o:=Kerb.oE w;rw[ae (by simp;omega),aq hc,aq (by simp;omega),Yy,Yy,x];rw[o,List.mem_cons] at hm;by_cases h3:c=bad.getD j 0
     .rw[ae (by simpa using h3)];exact⟨_,rfl,j,rfl,.inl ⟨rfl,hm.2 (.inl h3)⟩⟩
     .rw[ai (by simpa using h3),wrap_i64 (by omega) (by omega)];exact⟨_,rfl,j+1,rfl,⟨by omega,hm.trans ⟨λh=>h.resolve_left h3,.inr⟩⟩,by dsimp only;omega⟩
    .rw[ai (by simp;omega)];refine⟨_,rfl,j,rfl,.inr ⟨rfl,?_⟩⟩;rw[hm,Wv (by omega)];simp
   .rintro⟨e,l⟩ ⟨j,rfl,⟨rfl,h3⟩ | ⟨rfl,h3⟩⟩
    .simp only[A0];exact⟨_,rfl,i,rfl,.inl ⟨rfl,by rw[hp,m];simp[Kerb.okB,h3]⟩⟩
    .simp only[A0];rw[ae (Zm _),wrap_i64 (by omega) (by omega)];exact⟨_,rfl,i+1,rfl,⟨by omega,by rw[hp,m];simp[Kerb.okB,h1,h2,h3]⟩,by dsimp only;omega⟩
  .rw[ai (by simp;omega)];exact⟨_,rfl,i,rfl,.inr ⟨rfl,by rw[hp,Wv (by omega)];rfl⟩⟩
 .rintro⟨e,l⟩ ⟨i,rfl,⟨rfl,hp⟩ | ⟨rfl,hp⟩⟩
  .simp only[A0,hp];rfl
  .simp only[A0,hp];rw[ae (Zm _),decide_eq_decide.2 (show((s.length:Int)<=39)↔s.length<=39 from by omega)];rfl
theorem amy:Wk 272 1 KT:=by
 refine g8 Tryz.func272 λ_ _ _ h=> ?_;unfold KT at h;split at h;case h_2=>cases h
 rename_i b n k By;obtain⟨aI,rfl⟩:=ja h;refine jI (ax (room (Zw b) 1) (Zp (bh (λst=>af AI st λn r=>af AI r λd r=>az r λb r=>ar r λx r=>AV.fS x λc=>af AI r λa r=>let t1:Int:=Zz AT (Zz AI (8*Zz AI (Zz AI (d-1)-a)));let t2:List UInt8:=[Yx (Zx (Zz .u8 (Xk (Zz AT n) (2 ^ min (Zx (Zz AT (Zz AI (8*a)))) (Zj AT)))))];let t0:List UInt8:=[Yx (Zx (Zz .u8 (Xk (Zz AT n) (2 ^ min (Zx t1) (Zj AT)))))];ak r (aK (Zv (a<d)) (aK b (ax (Zv (0<=Zz AT (Zz AI (8*a)))) (ax (room (Zw c+Zw t2) 1) (Zd (Yf [Zy AI n,Zy AI d,Zq b,Xd (c++t2),Zy AI (Zz AI (a+1))])))) (ax (Zv (0<=t1)) (ax (room (Zw c+Zw t0) 1) (Zd (Yf [Zy AI n,Zy AI d,Zq b,Xd (c++t0),Zy AI (Zz AI (a+1))]))))) (Zd (Yu (Yq 0,[Zy AI n,Zy AI d,Zq b,Xd c,Zy AI a]))))) [Zy AI n,Zy AI k,Zq By,Xd b,Zy AI 0]) λ(r:Ex×List AV)=>af AI (Yb r) λn q=>af AI q λn o=>az o λb p=>ar p λx m=>AV.fS x λb=>af AI m λn g=>ak g (kJ r.1 Wd λj=>aK (Yh j 0) (Zd (Xd b,[])) Wd))) ?_;try dsimp only[bg,dg,az,lR,af,eg,jM]
 simp only[Zf,Qa2] at aI;obtain⟨hk,hb⟩:=aI;have s:k.toNat<=4/\0<=k:=by omega
 rw[aq (Wu (by omega))];refine bS (λi:Nat=>[Zy Zu n,Zy Zu k,Zq By,Xd (b++(Wf n k.toNat By).take i),Zy Zu (i:Int)]) (λi=>i<=k.toNat) (λi=>k.toNat-i)
  (λr=>r=(Yq 0,[Zy Zu n,Zy Zu k,Zq By,Xd (b++Wf n k.toNat By),Zy Zu k])) 0 (Xm _) (by simp) ?_ ?_
 .intro i hi;simp only[A0];by_cases fR:i<k.toNat
  .have hs:=Kerb.vT (l:=Wf n k.toNat By) (i:=i) (by rw[Kerb.aP];omega);have f:=Kerb.AG n k.toNat By fR;have hl:((Wf n k.toNat By).take i).length=i:=by simp[Kerb.aP];omega
   rw[ae (by simp;omega)];have hw:∀ j:Nat,j<4->Zz Xw (Zz Zu (8*(j:Int)))=((8*j:Nat):Int):=λj hj=>by
    rw[wrap_i64 (by omega) (by omega),Kerb.wrap_u64];omega
   have hm:∀ j:Nat,j<4->min (Zx ((8*j:Nat):Int)) (Zj Xw)=8*j:=λj hj=>by
    have:Zj Xw=64:=rfl;rw[this];omega
   cases By
   .have e:Zz Zu (Zz Zu (k-1)-(i:Int))=((k.toNat-1-i:Nat):Int):=by
     rw[wrap_i64 (n:=k-1) (by omega) (by omega),wrap_i64 (by omega) (by omega)];omega
    rw[ai rfl,e,hw _ (by omega),hm _ (by omega),Kerb.aae n (by omega),aq (by simp;omega),aq (Wu (by simp[hl];omega)),wrap_i64 (by omega) (by omega)];refine⟨_,rfl,i+1,?_,by omega,by dsimp only;omega⟩;dsimp only;rw[hs,f,<-List.append_assoc];rfl
   .rw[ae rfl,hw _ (by omega),hm _ (by omega),Kerb.aae n (by omega),aq (by simp;omega),aq (Wu (by simp[hl];omega)),wrap_i64 (by omega) (by omega)];refine⟨_,rfl,i+1,?_,by omega,by dsimp only;omega⟩;dsimp only;rw[hs,f,<-List.append_assoc];rfl
  .rw[ai (by simp;omega)];refine⟨_,rfl,?_⟩;show _=_;rw[Yp (by rw[Kerb.aP];omega),show(i:Int)=k from by omega]
 .rintro r rfl;simp only[A0];rw[ae (Zm _)]
theorem amA:Wk 274 1 Oy:=by
 refine g8 Tryz.func274 λ_ _ _ h=> ?_;unfold Oy at h;split at h;case h_2=>cases h
 rename_i k;obtain⟨aI,rfl⟩:=ja h;refine jI (Zp (bh (λst=>af AT st λn r=>ar r λx r=>AV.fS x λb=>af AI r λa r=>let t0:List UInt8:=[Yx (Zx (Zz .u8 (Xk n (2 ^ min (Zx (Zz AT (Zz AI (8*a)))) (Zj AT)))))];ak r (aK (Zv (a>=0)) (ax (Zv (0<=Zz AT (Zz AI (8*a)))) (ax (room (Zw b+Zw t0) 1) (Zd (Yf [Zy AT n,Xd (b++t0),Zy AI (Zz AI (a-1))])))) (Zd (Yu (Yq 0,[Zy AT n,Xd b,Zy AI a]))))) [Zy AT k,Xd [],Zy AI 7]) λ(r:Ex×List AV)=>af AT (Yb r) λn e=>ar e λx c=>AV.fS x λb=>af AI c λn d=>ak d (kJ r.1 Wd λj=>aK (Yh j 0) (Zd (Zh b,[])) Wd)) ?_;try dsimp only[bg,dg,az,lR,af,eg,jM]
 refine jN 9 (Yq 0,[Zy Xw k,Xd [Xy k 56,Xy k 48,Xy k 40,Xy k 32,Xy k 24,Xy k 16,Xy k 8,Xy k 0],Zy Zu (-1)]) (by kernel_rfl) ?_;simp only[A0];rw[ae (Zm _)];simp[Kerb.uW,Kerb.keyBytes,Kerb.eY,Xf]
theorem at0:Wk 275 1 ahs:=by
 refine g8 Tryz.func275 λ_ _ _ h=> ?_;unfold ahs at h;split at h;case h_2=>cases h
 rename_i b;obtain⟨aI,rfl⟩:=ja h;refine jI (ax (room (Zw b) 1) (Zp (bh (λst=>ar st λx r=>AV.fS x λb=>ak r (aK (!Xu (Zw b:Int) 8==0) (ax (room (Zw b+Zw [(0:UInt8)]) 1) (Zd (Yf [Xd (b++[(0:UInt8)])]))) (Zd (Yu (Yq 0,[Xd b]))))) [Xd b]) λ(r:Ex×List AV)=>ar (Yb r) λx a=>AV.fS x λb=>ak a (kJ r.1 Wd λj=>aK (Yh j 0) (Zd (Xd b,[])) Wd))) ?_;have hb:=Qa3 aI;rw[aq (Wu (by omega))];refine bS (λi:Nat=>[Xd (b++Xh i 0)]) (λi=>i<=(8-b.length % 8) % 8) (λi=>(8-b.length % 8) % 8-i)
  (λr=>r=(Yq 0,[Xd (Kerb.pad b)])) 0 (by omega) (by simp) ?_ ?_
 .intro i hi;simp only[A0];have e:Xu ((b++Xh i 0).length:Int) 8=(((b.length+i) % 8:Nat):Int):=by
   rw[Wz (by omega)];simp
  rw[e];by_cases fR:i<(8-b.length % 8) % 8
  .rw[ae (by simp;omega),aq (Wu (by simp;omega))];refine⟨_,rfl,i+1,?_,by omega,by dsimp only;omega⟩;dsimp only;rw[List.replicate_succ',List.append_assoc]
  .rw[ai (by simp;omega)];refine⟨_,rfl,?_⟩;show _=_;rw[Kerb.pad,show i=(8-b.length % 8) % 8 from by omega]
 rintro r rfl;simp only[A0];rw[ae (Zm _)]
theorem at3:Wk 281 1 ahw:=by
 refine g8 Tryz.func281 λ_ _ _ h=> ?_;unfold ahw at h;split at h;case h_2=>cases h
 rename_i k els;obtain⟨aI,rfl⟩:=ja h;refine jI (Zp (bh (λst=>af AI st λn r=>az r λb r=>eg 1 r λc r=>af AI r λd r=>af AI r λa r=>ak r (aK (Zv (a<d)) (ax (Zv (0<=a)&&Zv (a<(Zw c:Int))&&Zb) (Xq AI (Zk c (Zx a) Zn) λm=>aK (m==n) (Zd (Yu (Wy,[Zy AI n,Zq Zb,Yg 1 c,Zy AI d,Zy AI a]))) (Zd (Yf [Zy AI n,Zq b,Yg 1 c,Zy AI d,Zy AI (Zz AI (a+1))])))) (Zd (Yu (Yq 0,[Zy AI n,Zq b,Yg 1 c,Zy AI d,Zy AI a]))))) [Zy AI k,Zq Yk,Yg 1 els,Zy AI (Zw els:Int),Zy AI 0]) λ(r:Ex×List AV)=>af AI (Yb r) λn q=>az q λb o=>eg 1 o λc p=>af AI p λn g=>af AI g λn f=>ak f (kJ r.1 (Zd (Zq b,[])) λj=>aK (Yh j 0) (Zd (Zq Yk,[])) Wd)) ?_;dsimp only[az,af,eg];simp only[Zf,Qa2] at aI;obtain⟨ha,hl⟩:=aI;have s:=Kerb.CZ ha;refine bS (λi:Nat=>[Zy Zu k,Zq Yk,Yg 1 els,Zy Zu (els.length:Int),Zy Zu (i:Int)]) (λi=>i<=els.length/\(k∈gf els↔k∈(gf els).drop i)) (λi=>els.length-i)
  (λr=>∃ (i:Nat) (x:Bool),r.2=[Zy Zu k,Zq x,Yg 1 els,Zy Zu (els.length:Int),Zy Zu (i:Int)]/\((r.1 = .ret/\x=Zb/\k∈gf els)\/(r.1 = .exit 0/\k ∉ gf els))) 0 ⟨Xm _,by simp⟩ rfl ?_ ?_
 .rintro i ⟨hi,hm⟩;simp only[A0];by_cases fR:i<els.length
  .obtain⟨n,h1,h2⟩:=Kerb.CY ha fR;rw[ae (by simp;omega),aq (by simp;omega),Yy,h1,sO];rw[h2,List.mem_cons] at hm;by_cases h3:n=k
   .rw[ae (by simpa using h3)];exact⟨_,rfl,i,Zb,rfl,.inl ⟨rfl,rfl,hm.2 (.inl h3.symm)⟩⟩
   .rw[ai (by simpa using h3),wrap_i64 (by omega) (by omega)];exact⟨_,rfl,i+1,rfl,⟨by omega,hm.trans ⟨λh=>h.resolve_left λe=>h3 e.symm,.inr⟩⟩,by dsimp only;omega⟩
  .rw[ai (by simp;omega)];refine⟨_,rfl,i,Yk,rfl,.inr ⟨rfl,?_⟩⟩;rw[hm,Wv (by omega)];simp
 .rintro⟨e,l⟩ ⟨i,x,rfl,⟨rfl,rfl,h⟩ | ⟨rfl,h⟩⟩
  .simp[ar,Xq,AV.dw,AV.fN,ak,kJ,h]
  .simp[ar,Xq,AV.dw,AV.fN,ak,kJ,h,aK]
theorem aum:Wk 307 1 ahD:=by
 refine g8 Tryz.func307 λ_ _ _ h=> ?_;unfold ahD at h;split at h;case h_2=>cases h
 rename_i a e B at_ li bad;cases h;refine Fh [0] (aK bad (Zd (Xv [],[[Zh B,Zy AI at_,Zq li,Zq Zb]])) (aK (!e==0) (Zd (Xv [],[[Zh B,Zy AI at_,Zq li,Zq Zb]])) (Zd (Xv [],[[Zh B,Zy AI a,Zq li,Zq bad]])))) ?_;cases bad
 .cases (e==0)<;>rfl
 .rfl
theorem amF:Wk 309 1 ZD:=by
 refine g8 Tryz.func309 λ_ _ _ h=> ?_;unfold ZD at h;split at h;case h_2=>cases h
 rename_i b pos n;obtain⟨aI,rfl⟩:=ja h;refine jI (let t0:Option (AV×aO):=Zd (Xv [Zh [],Zy AI 0,Zy AI 104],[]);aK (Zv (pos<0)) t0 (aK (Zv (pos>(Zw b:Int))) t0 (aK (Zv (n<0)) t0 (aK (Zv (n>Zz AI ((Zw b:Int)-pos))) (Zd (Xv [Zh [],Zy AI 0,Zy AI 101],[])) (ax (Zv (0<=pos)&&Zv (pos<=Zz AI (pos+n))&&Zv (Zz AI (pos+n)<=(Zw b:Int))) (ax (room (Zw (Ym (Zx pos) (Yn (Zx (Zz AI (pos+n))) b))) 1) (Zd (Xv [Zh (Ym (Zx pos) (Yn (Zx (Zz AI (pos+n))) b)),Zy AI (Zz AI (pos+n)),Zy AI 0],[])))))))) ?_;try dsimp only[bg,dg,az,lR,af,eg,jM]
 have hb:=Qa3 aI;unfold Kerb.bytes;by_cases h1:pos<0
 .have e:Xp b pos n=104:=by unfold Xp;rw[Qa1 (by omega)]
  rw[ae (by simpa using h1),e];rfl
 rw[ai (by simpa using h1)];by_cases h2:(b.length:Int)<pos
 .have e:Xp b pos n=104:=by unfold Xp;rw[Qa1 (by omega)]
  rw[ae (by simpa using h2),e];rfl
 rw[ai (by simpa using h2)];by_cases h3:n<0
 .have e:Xp b pos n=104:=by unfold Xp;rw[Qa1 (by omega)]
  rw[ae (by simpa using h3),e];rfl
 rw[ai (by simpa using h3),wrap_i64 (n:=(b.length:Int)-pos) (by omega) (by omega)];by_cases h4:(b.length:Int)-pos<n
 .have e:Xp b pos n=101:=by unfold Xp;rw[Qa0 (by omega),Qa1 h4]
  rw[ae (by simpa using h4),e];rfl
 have hr:Xp b pos n=0:=Kerb.iA.2 (by omega);have e:Ym (Zx pos) (Yn (Zx (pos+n)) b)=Kerb.cut b pos n:=by
  rw[show Zx (pos+n)=pos.toNat+n.toNat by omega,List.drop_take,show pos.toNat+n.toNat-pos.toNat=n.toNat by omega];rfl
 have hc:=Kerb.jl hr;rw[ai (by simpa using h4),Qa1 hr,wrap_i64 (by omega) (by omega),e,aq (by simp;omega),aq (Wu (by omega))]
theorem amG:Wk 310 1 zP:=by
 refine g8 Tryz.func310 λ_ _ _ h=> ?_;unfold zP at h;split at h;case h_2=>cases h
 rename_i b pos;obtain⟨aI,rfl⟩:=ja h;refine jI (aK (Zv (pos<0)) (Zd (Xv [Yw [],Zy AI 0,Zy AI 104],[])) (aK (Zv (pos>(Zw b:Int))) (Zd (Xv [Yw [],Zy AI 0,Zy AI 104],[])) (Zp (bh (λst=>dg st λb r=>af AI r λn r=>bg r λw r=>af AI r λm r=>af AI r λt r=>af AI r λa r=>ak r (aK (Zv (a<=39)) (aK (Zv (Zz AI (n+a)>=(Zw b:Int))) (Zd (Yu (Wy,[Zh b,Zy AI n,Yw [],Zy AI 0,Zy AI 101,Zy AI a]))) (ax (Zv (0<=Zz AI (n+a))&&Zv (Zz AI (n+a)<(Zw b:Int))) (aK (Zk b (Zx (Zz AI (n+a))) (0:UInt8)==(0:UInt8)) (ax (Zv (0<=n)&&Zv (n<=Zz AI (n+a))&&Zv (Zz AI (n+a)<=(Zw b:Int))) (Zd (Yu (Wy,[Zh b,Zy AI n,Yw (Ym (Zx n) (Yn (Zx (Zz AI (n+a))) b)),Zy AI (Zz AI (Zz AI (n+a)+1)),Zy AI 0,Zy AI a])))) (Zd (Yf [Zh b,Zy AI n,Yw w,Zy AI m,Zy AI t,Zy AI (Zz AI (a+1))]))))) (Zd (Yu (Yq 0,[Zh b,Zy AI n,Yw w,Zy AI m,Zy AI t,Zy AI a]))))) [Zh b,Zy AI pos,Yw [],Zy AI 0,Zy AI 0,Zy AI 0]) λ(r:Ex×List AV)=>dg (Yb r) λb F=>af AI F λn D=>bg D λb E=>af AI E λn C=>af AI C λm z=>af AI z λt y=>ak y (kJ r.1 (Zd (Xv [Yw b,Zy AI n,Zy AI m],[])) λj=>aK (Yh j 0) (Zd (Xv [Yw [],Zy AI 0,Zy AI 105],[])) Wd)))) ?_;dsimp only[bg,dg,af];have hb:=Qa3 aI;unfold Kerb.text;by_cases h1:pos<0
 .rw[ae (by simpa using h1),Qa0 (by rw[Kerb.iA];omega)]
 rw[ai (by simpa using h1)];by_cases h2:(b.length:Int)<pos
 .rw[ae (by simpa using h2),Qa0 (by rw[Kerb.iA];omega)]
 rw[ai (by simpa using h2),Qa1 (Kerb.iA.2 (by omega))];obtain⟨R,hR⟩:∃ R,R=b.drop pos.toNat:=⟨_,rfl⟩;have B:R.length=b.length-pos.toNat:=by rw[hR];simp
 rw[<-hR];obtain⟨T,c⟩:∃ T,T=R.take 40:=⟨_,rfl⟩;rw[<-c];have x:=Kerb.qA 0 T;refine bS (λi:Nat=>[Zh b,Zy Zu pos,Yw [],Zy Zu 0,Zy Zu 0,Zy Zu (i:Int)]) (λi=>i<=40/\i<=R.length/\(0:UInt8) ∉ R.take i) (λi=>40-i)
  (λr=>∃ (i:Nat) (v:List UInt8) (k e:Int),r.2=[Zh b,Zy Zu pos,Yw v,Zy Zu k,Zy Zu e,Zy Zu (i:Int)] /\
   ((r.1 = .ret/\v=[]/\k=0/\e=101/\Yv 0 T<0/\T.length≠40)\/(r.1 = .ret/\Yv 0 T=i/\v=T.take i/\k=pos+i+1/\e=0)\/(r.1 = .exit 0/\Yv 0 T<0/\T.length=40))) 0 ⟨by omega,by omega,by simp⟩ rfl ?_ ?_
 .rintro i ⟨hi,A,h0⟩;simp only[A0];by_cases fR:i<=39;case neg =>
   have s:i=40:=by omega
   subst s;rw[ai (by decide)];refine⟨_,rfl,40,[],0,0,rfl,.inr (.inr ⟨rfl,?_,?_⟩)⟩
   .rw[<-c] at h0;have:=mt x.1 h0;omega
   .rw[c];simp;omega
  rw[ae (by simp;omega),wrap_i64 (n:=pos+(i:Int)) (by omega) (by omega)];by_cases g:(b.length:Int)<=pos+i
  .rw[ae (by simpa using g)];have f:T=R.take i:=by rw[c,Yp (by omega),Yp (by omega)]
   refine⟨_,rfl,i,[],0,101,rfl,.inl ⟨rfl,rfl,rfl,rfl,?_,?_⟩⟩
   .rw[<-f] at h0;have:=mt x.1 h0;omega
   .rw[f];simp;omega
  have d:i<R.length:=by omega
  have hd:=Kerb.oE d;have o:b.getD (pos+(i:Int)).toNat 0=R.getD i 0:=by
   rw[show(pos+(i:Int)).toNat=pos.toNat+i by omega,hR];simp[List.getD_eq_getElem?_getD]
  rw[ai (by simpa using g),aq (by simp;omega),o];by_cases hz:R.getD i 0=0
  .rw[ae (by rw[hz];rfl),aq (by simp;omega),wrap_i64 (by omega) (by omega)];have p:T.take i=R.take i:=by rw[c,List.take_take,Nat.min_eq_left (by omega)]
   have q:T=R.take i++0::(R.drop (i+1)).take (39-i):=by
    rw[c];have:R=R.take i++(0::R.drop (i+1)):=by rw[<-hz,<-hd,List.take_append_drop]
    have hl:(R.take i).length=i:=by simp;omega
    calc R.take 40=(R.take i++(0::R.drop (i+1))).take 40:=by rw[<-this]
     _=_:=by rw[List.take_append,hl,Yp (by omega),show 40-i=(39-i)+1 by omega,List.take_succ_cons]
   have u:Yv 0 T=i:=by
    rw[q,Kerb.qz h0];simp;omega
   refine⟨_,rfl,i,_,_,0,rfl,.inr (.inl ⟨rfl,u,?_,rfl,rfl⟩)⟩;rw[p,hR,show(pos+(i:Int)).toNat=pos.toNat+i by omega,List.drop_take,show pos.toNat+i-pos.toNat=i by omega]
  .rw[ai (beq_eq_false_iff_ne.2 hz),wrap_i64 (by omega) (by omega)];refine⟨_,rfl,i+1,rfl,⟨by omega,by omega,?_⟩,by dsimp only;omega⟩;rw[Kerb.vT d];simp only[List.mem_append,List.mem_singleton,not_or];exact⟨h0,λe=>hz e.symm⟩
 .rintro⟨e,l⟩ ⟨i,v,k,G,rfl,⟨rfl,rfl,rfl,rfl,g1,g2⟩ | ⟨rfl,g1,rfl,rfl,rfl⟩ | ⟨rfl,g1,g2⟩⟩
  .simp only[A0];rw[Qa0 (by omega),Qa0 g2]
  .simp only[A0];rw[Qa1 (by omega),g1,Yy]
  .simp only[A0];rw[Qa0 (by omega),Qa1 g2,ae (Zm _)]
theorem anp:Wk 374 1 DW:=by
 refine g8 Tryz.func374 λ_ _ _ h=> ?_;unfold DW at h;split at h;case h_2=>cases h
 rename_i k;obtain⟨aI,rfl⟩:=ja h;refine jI (Zp (bh (λst=>af AT st λn r=>ar r λx r=>AV.fS x λb=>af AI r λc r=>af AI r λa r=>ak r (aK (Zv (a<c)) (ax (Zv (0<=Zz AI (8*Zz AI (7-a)))) (ax (Zv (0<=a)&&Zv (a<(Zw b:Int))) (ax (Yz (Zx a) (Zw b)&&Zb&&Zb&&Zb&&Zb) (Zd (Yf [Zy AT n,Xd (Yj b (Zx a) (Yx (Zx (Zz .u8 (Xk n (2 ^ min (Zx (Zz AI (8*Zz AI (7-a)))) (Zj AT))))))),Zy AI c,Zy AI (Zz AI (a+1))]))))) (Zd (Yu (Yq 0,[Zy AT n,Xd b,Zy AI c,Zy AI a]))))) [Zy AT k,Xd (Xh (Zx 8) (0:UInt8)),Zy AI (↑(Zw (Xh (Zx 8) (0:UInt8))):Int),Zy AI 0]) λ(r:Ex×List AV)=>af AT (Yb r) λn g=>ar g λx e=>AV.fS x λb=>af AI e λn f=>af AI f λn d=>ak d (kJ r.1 Wd λj=>aK (Yh j 0) (Zd (Zh b,[])) Wd)) ?_;dsimp only[af];refine jN 9 (Yq 0,[Zy Xw k,Xd [Xy k 56,Xy k 48,Xy k 40,Xy k 32,Xy k 24,Xy k 16,Xy k 8,Xy k 0],Zy Zu 8,Zy Zu 8]) (by kernel_rfl) ?_;simp only[A0];rw[ae (Zm _)];simp[Kerb.uW,Kerb.keyBytes,Kerb.eY,Xf]
theorem an0:Wk 416 1 Uv:=by
 refine g8 Tryz.func416 λ_ _ _ h=> ?_;unfold Uv at h;split at h;case h_2=>cases h
 rename_i l;cases h;refine jI (aK (l==[(103:UInt8),(84:UInt8),(71:UInt8),(83:UInt8)]) (Zd (Zq Zb,[])) (Zd (Zq (l==[(103:UInt8),(84:UInt8),(75:UInt8),(84:UInt8)]),[]))) ?_;unfold Kerb.lQ;show aK (l==Kerb.zm) _ (Zd (Zq (l==Kerb.ng),[]))=_;cases (l==Kerb.zm)<;>rfl
theorem an3:Wk 419 1 Ux:=by
 refine g8 Tryz.func419 λ_ _ _ h=> ?_;unfold Ux at h;split at h;case h_2=>cases h
 rename_i l;cases h;refine jI (aK (l==[(116:UInt8),(103:UInt8),(115:UInt8),(84:UInt8)]) (Zd (Zq Zb,[])) (Zd (Zq (l==[(116:UInt8),(107:UInt8),(116:UInt8),(71:UInt8)]),[]))) ?_;unfold Kerb.fh;show aK (l==Kerb.Hi) _ (Zd (Zq (l==Kerb.xQ),[]))=_;cases (l==Kerb.Hi)<;>rfl
theorem aog:Wk 434 1 Z':=by
 refine g8 Tryz.func434 λ_ _ _ h=> ?_;unfold Z' at h;split at h;case h_2=>cases h
 rename_i a e B at_ bad;cases h;refine Fh [0] (aK bad (Zd (Zq Yk,[[Zh B,Zy AI at_,Zq Zb]])) (aK (!e==0) (Zd (Zq Yk,[[Zh B,Zy AI at_,Zq Zb]])) (Zd (Zq Zb,[[Zh B,Zy AI a,Zq bad]])))) ?_;cases bad
 .cases (e==0)<;>rfl
 .rfl
theorem auC:Wk 440 1 ahE:=by
 refine g8 Tryz.func440 λ_ _ _ h=> ?_;unfold ahE at h;split at h;case h_2=>cases h
 rename_i a e B at_ bad;cases h;refine Fh [0] (aK (!e==0) (Zd (Xv [],[[Zh B,Zy AI at_,Zq Zb]])) (Zd (Xv [],[[Zh B,Zy AI a,Zq bad]]))) ?_;cases bad<;>cases (e==0)<;>rfl
theorem auI:Wk 446 1 aeo:=by
 refine g8 Tryz.func446 λ_ _ _ h=> ?_;unfold aeo at h;split at h;case h_2=>cases h
 rename_i a b els;obtain⟨aI,rfl⟩:=ja h;refine Fh [0] (Zp (bh (λst=>ar st λx r=>AV.aS x λy=>af AI r λn r=>af AI r λc r=>ak r (aK (Zv (n<c)) (ax (Zv (0<=c)&&Zv (c<(Zw y:Int))&&Zb) (ax (Yz (Zx c) (Zw y)&&Zb) (Xq AT (Zk y (Zx c) Zn) λf=>ax (Zv (0<=n)&&Zv (n<(Zw y:Int))&&Zb) (ax (Yz (Zx n) (Zw y)&&Zb) (Xq AT (Zk y (Zx n) Zn) λo=>ax (Zv (0<=n)&&Zv (n<(Zw y:Int))&&Zb) (ax (Yz (Zx n) (Zw y)&&Zb) (Xq AT (Zk y (Zx n) Zn) λA=>ax (Zw [Zy AT f]==nat_lit 1&&Zb&&Zb&&Zb&&Yz (Zx n) (Zw y)) (ax (Zv (0<=c)&&Zv (c<(↑(Zw (Yj y (Zx n) (Zy AT f))):Int))&&Zb) (ax (Yz (Zx c) (Zw (Yj y (Zx n) (Zy AT f)))&&Zb) (Xq AT (Zk (Yj y (Zx n) (Zy AT f)) (Zx c) Zn) λz=>ax (Zw [Zy AT o]==nat_lit 1&&Zb&&Zb&&Zb&&Yz (Zx c) (Zw (Yj y (Zx n) (Zy AT f)))) (Zd (Yf [Xx (Yj (Yj y (Zx n) (Zy AT f)) (Zx c) (Zy AT o)),Zy AI (Zz AI (n+1)),Zy AI (Zz AI (c-1))])))))))))))) (Zd (Yu (Yq 0,[Xx y,Zy AI n,Zy AI c]))))) [Xx els,Zy AI a,Zy AI (Zz AI (b-1))]) λ(r:Ex×List AV)=>ar (Yb r) λx t=>AV.aS x λy=>af AI t λn p=>af AI p λn q=>ak q (kJ r.1 (Zd (Xv [],[y])) λj=>aK (Yh j 0) (Zd (Xv [],[y])) Wd)) ?_;dsimp only[af];simp only[Zf,Qa2] at aI;obtain⟨⟨⟨⟨hZ,hlen⟩,v⟩,w⟩,hb⟩:=aI;obtain⟨d,rfl,hd⟩:=Kerb.nr hZ;simp only[Kerb.aU] at *;unfold Kerb.W9;rw[hd];obtain⟨a,rfl⟩:=Xz v;obtain⟨b,rfl⟩:=Xz (show 0<=b by omega);simp only[Yy];rw[Wx (by omega) (by omega)];unfold Go.Sort.reverseRange;refine bS (λs:Array Int×Nat×Int=>[Xx (Xg s.1),Zy AI (s.2.1:Int),Zy AI s.2.2]) (λs=>s.1.size=d.size/\s.2.1<=d.size /\ -1<=s.2.2/\s.2.2<d.size/\Go.Sort.reverseLoop s.2.1 s.2.2.toNat s.1=Go.Sort.reverseLoop a (b-1) d) (λs=>(s.2.2-s.2.1+1).toNat) (λr=>∃ n m,r=(.exit 0,[Xx (Xg (Go.Sort.reverseLoop a (b-1) d)),Zy AI n,Zy AI m])) (d,a,(b:Int)-1) ⟨rfl,by dsimp only;omega,by dsimp only;omega,by dsimp only;omega,by dsimp only;rw[show((b:Int)-1).toNat=b-1 by omega]⟩ rfl ?_ ?_
 .rintro⟨e,i,j⟩ ⟨hs,hi,u,g,hr⟩;dsimp only at hs hi u g hr ⊢;simp only[↓bW,↓cG,↓dx,↓dA];by_cases h:(i:Int)<j
  .obtain⟨m,rfl⟩:=Xz (show 0<=j by omega);have hm:m<e.size:=by omega
   have k:i<e.size:=by omega
   rw[Yy] at hr;rw[ae (by simpa using h),Wx (by omega) (by omega),Wx (by omega) (by omega),Kerb.sw k hm (λl=>Zd (Yf [Xx l,Zy AI ((i:Int)+1),Zy AI ((m:Int)-1)]))];refine⟨_,rfl,(Go.Sort.swp e i m,i+1,(m:Int)-1),rfl,⟨by dsimp only;rw[Kerb.swp_size,hs],by dsimp only;omega,by dsimp only;omega,by dsimp only;omega,?_⟩,by dsimp only;omega⟩;dsimp only;rw[<-hr];conv=>rhs;unfold Go.Sort.reverseLoop
   rw[Qa1 (by omega),show((m:Int)-1).toNat=m-1 by omega]
  .rw[ai (by simpa using h)];refine⟨_,rfl,i,j,?_⟩;have:Go.Sort.reverseLoop i j.toNat e=e:=by
    unfold Go.Sort.reverseLoop;rw[Qa0 (by omega)]
   rw[<-hr,this]
 .rintro _ ⟨n,m,rfl⟩;simp only[↓bW,↓cG,↓dx,↓dA,↓lP];rw[ae (Zm _)]
theorem auN:Wk 452 1 ahG:=by
 refine g8 Tryz.func452 λ_ _ _ h=> ?_;unfold ahG at h;split at h;case h_2=>cases h
 rename_i x;obtain⟨aI,rfl⟩:=ja h;refine jI (let t2:List UInt8:=([8,8,8,8,8,8,8,8,8,8,8,8,8,8,8,8,8,8,8,8,8,8,8,8,8,8,8,8,8,8,8,8,8,8,8,8,8,8,8,8,8,8,8,8,8,8,8,8,8,8,8,8,8,8,8,8,8,8,8,8,8,8,8,8]:List UInt8);let t11:Int:=Xk x (2 ^ min (Zx 32) (Zj AT));let t12:Int:=(↑(Zg (Yx (Zx (Zz .u8 x)))):Int);let t13:Int:=Xk x (2 ^ min (Zx 16) (Zj AT));let t14:Int:=2 ^ min (Zx 8) (Zj AT);let t1:List UInt8:=(0:UInt8)::Xb (Xb ([1,2,2,3,3,3,3,4,4,4,4,4,4,4,4,5,5,5,5,5,5,5,5,5,5,5,5,5,5,5,5,6,6,6,6,6,6,6,6,6,6,6,6,6,6,6,6,6,6,6,6,6,6,6,6,6,6,6,6,6,6,6,6]:List UInt8) ([7,7,7,7,7,7,7,7,7,7,7,7,7,7,7,7,7,7,7,7,7,7,7,7,7,7,7,7,7,7,7,7,7,7,7,7,7,7,7,7,7,7,7,7,7,7,7,7,7,7,7,7,7,7,7,7,7,7,7,7,7,7,7,7]:List UInt8)) (Xb t2 t2);let t4:Int:=(↑(Zg (Yx (Zx (Zz .u8 (Xk t13 t14))))):Int);let t5:Int:=(↑(Zg (Yx (Zx (Zz .u8 (Xk t11 t14))))):Int);let t7:Int:=(↑(Zg (Yx (Zx (Zz .u8 (Xk x t14))))):Int);let t8:Int:=(↑(Zg (Yx (Zx (Zz .u8 t11)))):Int);let t9:Int:=(↑(Zg (Yx (Zx (Zz .u8 t13)))):Int);let t10:Int:=Xk t11 (2 ^ min (Zx 16) (Zj AT));let t0:Int:=(Zw t1:Int);let t3:Int:=(↑(Zg (Yx (Zx (Zz .u8 (Xk t10 t14))))):Int);let t6:Int:=(↑(Zg (Yx (Zx (Zz .u8 t10)))):Int);aK (Zv (x>=4294967296)) (aK (Zv (t11>=65536)) (aK (Zv (t10>=256)) (ax (Zv (0<=t3)&&Zv (t3<t0)) (Zd (Zy AI (Zz AI (Zz AI (Zz AI (32+16)+8)+Zz AI (↑(Zg (Zk t1 (Zx t3) (0:UInt8))):Int))),[]))) (ax (Zv (0<=t6)&&Zv (t6<t0)) (Zd (Zy AI (Zz AI (Zz AI (32+16)+Zz AI (↑(Zg (Zk t1 (Zx t6) (0:UInt8))):Int))),[])))) (aK (Zv (t11>=256)) (ax (Zv (0<=t5)&&Zv (t5<t0)) (Zd (Zy AI (Zz AI (Zz AI (32+8)+Zz AI (↑(Zg (Zk t1 (Zx t5) (0:UInt8))):Int))),[]))) (ax (Zv (0<=t8)&&Zv (t8<t0)) (Zd (Zy AI (Zz AI (32+Zz AI (↑(Zg (Zk t1 (Zx t8) (0:UInt8))):Int))),[]))))) (aK (Zv (x>=65536)) (aK (Zv (t13>=256)) (ax (Zv (0<=t4)&&Zv (t4<t0)) (Zd (Zy AI (Zz AI (Zz AI (Zz AI (0+16)+8)+Zz AI (↑(Zg (Zk t1 (Zx t4) (0:UInt8))):Int))),[]))) (ax (Zv (0<=t9)&&Zv (t9<t0)) (Zd (Zy AI (Zz AI (Zz AI (0+16)+Zz AI (↑(Zg (Zk t1 (Zx t9) (0:UInt8))):Int))),[])))) (aK (Zv (x>=256)) (ax (Zv (0<=t7)&&Zv (t7<t0)) (Zd (Zy AI (Zz AI (Zz AI (0+8)+Zz AI (↑(Zg (Zk t1 (Zx t7) (0:UInt8))):Int))),[]))) (ax (Zv (0<=t12)&&Zv (t12<t0)) (Zd (Zy AI (Zz AI (0+Zz AI (↑(Zg (Zk t1 (Zx t12) (0:UInt8))):Int))),[])))))) ?_;try dsimp only[bg,dg,az,lR,af,eg,jM]
 simp only[Zf,Qa2] at aI;obtain⟨h0,h1⟩:=aI;obtain⟨n,rfl⟩:=Xz h0;rw[Kerb.C6];simp only[Kerb.f32,Kerb.f16,Kerb.f8];by_cases k:2 ^ 32<=n
 .rw[ae (by simp;omega)];have l:=Kerb.k7 32 k;have m:n / 2 ^ 32<2 ^ 32:=by omega
  generalize n / 2 ^ 32=a at l m ⊢;by_cases q:2 ^ 16<=a
  .rw[ae (by simp;omega)];have o:=Kerb.k7 16 q;have p:a / 2 ^ 16<2 ^ 16:=by omega
   generalize a / 2 ^ 16=d at o p ⊢;by_cases h8:2 ^ 8<=d
   .rw[ae (by simp;omega)];have b:=Kerb.k7 8 h8;have c:d / 2 ^ 8<2 ^ 8:=by omega
    generalize d / 2 ^ 8=j at b c ⊢;rw[Kerb.oS (by decide +kernel) (by omega) (by decide) (by decide)];have hz:Zz AI (Zz AI ((32:Int)+(16:Int))+(8:Int))+(Go.Sort.bitsLen j:Int)=(Go.Sort.bitsLen n:Int):=by
     have:Zz AI (Zz AI ((32:Int)+(16:Int))+(8:Int))=56:=by decide
     omega
    rw[hz]
   .rw[ai (by simp;omega)];rw[Kerb.oS (by decide +kernel) (by omega) (by decide) (by decide)];have hz:Zz AI ((32:Int)+(16:Int))+(Go.Sort.bitsLen d:Int)=(Go.Sort.bitsLen n:Int):=by
     have:Zz AI ((32:Int)+(16:Int))=48:=by decide
     omega
    rw[hz]
  .rw[ai (by simp;omega)];by_cases h8:2 ^ 8<=a
   .rw[ae (by simp;omega)];have b:=Kerb.k7 8 h8;have c:a / 2 ^ 8<2 ^ 8:=by omega
    generalize a / 2 ^ 8=i at b c ⊢;rw[Kerb.oS (by decide +kernel) (by omega) (by decide) (by decide)];have hz:Zz AI ((32:Int)+(8:Int))+(Go.Sort.bitsLen i:Int)=(Go.Sort.bitsLen n:Int):=by
     have:Zz AI ((32:Int)+(8:Int))=40:=by decide
     omega
    rw[hz]
   .rw[ai (by simp;omega)];rw[Kerb.oS (by decide +kernel) (by omega) (by decide) (by decide)];have hz:(32:Int)+(Go.Sort.bitsLen a:Int)=(Go.Sort.bitsLen n:Int):=by
     have:(32:Int)=32:=by decide
     omega
    rw[hz]
 .rw[ai (by simp;omega)];by_cases q:2 ^ 16<=n
  .rw[ae (by simp;omega)];have o:=Kerb.k7 16 q;have p:n / 2 ^ 16<2 ^ 16:=by omega
   generalize n / 2 ^ 16=e at o p ⊢;by_cases h8:2 ^ 8<=e
   .rw[ae (by simp;omega)];have b:=Kerb.k7 8 h8;have c:e / 2 ^ 8<2 ^ 8:=by omega
    generalize e / 2 ^ 8=g at b c ⊢;rw[Kerb.oS (by decide +kernel) (by omega) (by decide) (by decide)];have hz:Zz AI (Zz AI ((0:Int)+(16:Int))+(8:Int))+(Go.Sort.bitsLen g:Int)=(Go.Sort.bitsLen n:Int):=by
     have:Zz AI (Zz AI ((0:Int)+(16:Int))+(8:Int))=24:=by decide
     omega
    rw[hz]
   .rw[ai (by simp;omega)];rw[Kerb.oS (by decide +kernel) (by omega) (by decide) (by decide)];have hz:Zz AI ((0:Int)+(16:Int))+(Go.Sort.bitsLen e:Int)=(Go.Sort.bitsLen n:Int):=by
     have:Zz AI ((0:Int)+(16:Int))=16:=by decide
     omega
    rw[hz]
  .rw[ai (by simp;omega)];by_cases h8:2 ^ 8<=n
   .rw[ae (by simp;omega)];have b:=Kerb.k7 8 h8;have c:n / 2 ^ 8<2 ^ 8:=by omega
    generalize n / 2 ^ 8=f at b c ⊢;rw[Kerb.oS (by decide +kernel) (by omega) (by decide) (by decide)];have hz:Zz AI ((0:Int)+(8:Int))+(Go.Sort.bitsLen f:Int)=(Go.Sort.bitsLen n:Int):=by
     have:Zz AI ((0:Int)+(8:Int))=8:=by decide
     omega
    rw[hz]
   .rw[ai (by simp;omega)];rw[Kerb.oS (by decide +kernel) (by omega) (by decide) (by decide)];have hz:(0:Int)+(Go.Sort.bitsLen n:Int)=(Go.Sort.bitsLen n:Int):=by
     have:(0:Int)=0:=by decide
     omega
    rw[hz]
theorem auV:Wk 461 1 aev:=by
 refine g8 Tryz.func461 λ_ _ _ h=> ?_;unfold aev at h;split at h;case h_2=>cases h
 rename_i x;obtain⟨aI,rfl⟩:=ja h;refine Fh [0] (let t2:Int:=Zz AT (↑(BitVec.toNat (BitVec.ofInt (Zj AT) x ^^^ BitVec.ofInt (Zj AT) (Zz AT (x*2 ^ min (Zx 13) (Zj AT))))):Int);let t1:Int:=Zz AT (↑(BitVec.toNat (BitVec.ofInt (Zj AT) t2 ^^^ BitVec.ofInt (Zj AT) (Xk t2 (2 ^ min (Zx 7) (Zj AT))))):Int);let t0:AV:=Zy AT (Zz AT (↑(BitVec.toNat (BitVec.ofInt (Zj AT) t1 ^^^ BitVec.ofInt (Zj AT) (Zz AT (t1*2 ^ min (Zx 17) (Zj AT))))):Int));Zd (t0,[[t0]])) ?_;try dsimp only[bg,dg,az,lR,af,eg,jM]
 simp only[Zf,Qa2] at aI;obtain⟨h0,h1⟩:=aI;obtain⟨v,rfl⟩:∃ v:BitVec 64,x=(v.toNat:Int):=⟨BitVec.ofNat 64 x.toNat,by rw[BitVec.toNat_ofNat];omega⟩;exact Qb4 (λz=>Zd (Zy AT z,[[Zy AT z]])) (Kerb.U8 v)
theorem w13:Wk 13 2 aeF:=by
 refine g8 Tryz.func13 λ_ _ _ h=> ?_;unfold aeF at h;split at h;case h_2=>cases h
 rename_i ks bs a cs;obtain⟨aI,rfl⟩:=ja h;refine jI (Zp (ahu [Yg 1 ks,Yg 1 a] []) (kL λb=>aK b (Zp (ahy [Yg 1 bs,Yg 1 cs] []) (kL λb=>Zd (Zq b,[]))) (Zd (Zq Yk,[])))) ?_;delta kL;dsimp only[ahu,ahy,bg,dg,az,lR,af,eg,jM];simp only[Zf,Qa2] at aI;obtain⟨⟨⟨⟨⟨h1,h2⟩,h3⟩,h4⟩,h5⟩,h6⟩:=aI;simp only[A0,Kerb.Client.av,Kerb.Cache.av,Kerb.jj.av,h1,h2,h3,h4,h5,h6,Xj,Qb3];cases Kerb.cu ks==Kerb.cu a<;>rfl
theorem w58:Wk 58 2 aeN:=by
 refine g8 Tryz.func58 λ_ _ _ h=> ?_;unfold aeN at h;split at h;case h_2=>cases h
 rename_i k;obtain⟨aI,rfl⟩:=ja h;refine jI (let t0:Int:=Zz AI (Zz AT (↑(BitVec.toNat (BitVec.ofInt (Zj AT) k &&& BitVec.ofInt (Zj AT) 72057594037927935)):Int));aK (!k==0) (Zd (Zq ((bif Kerb.dX (Zz AI (Xk k (2 ^ min (Zx 56) (Zj AT))))&&Kerb.dd t0 then Zz AI (Xk k (2 ^ min (Zx 56) (Zj AT)))*72057594037927936+t0 else 0)==k),[])) (Zd (Zq Yk,[]))) ?_;try dsimp only[bg,dg,az,lR,af,eg,jM]
 simp only[Zf,Qa2] at aI;obtain⟨h0,h1⟩:=aI;rw[Kerb.SQ h0 h1,Kerb.SR h0 h1,Kerb.WH];by_cases hk:k=0
 .subst hk;rfl
 rw[ae (by simpa using hk)];unfold Kerb.bf;cases Kerb.dX (Kerb.dI k)&&Kerb.dd (Kerb.dk k)
 .have q:((0:Int)==k)=Yk:=by simp;omega
  simp only[Qa7,q]
 .simp only[Qa6,BEq.rfl]
theorem alk:Wk 118 2 F4:=by
 refine g8 Tryz.func118 λ_ _ _ h=> ?_;unfold F4 at h;split at h;case h_2=>cases h
 rename_i k;obtain⟨aI,rfl⟩:=ja h;refine jI (let t0:Int:=Zz AI (Zz AT (↑(BitVec.toNat (BitVec.ofInt (Zj AT) k &&& BitVec.ofInt (Zj AT) 72057594037927935)):Int));let t1:Option (AV×aO):=Zd (Xv [Zy AI 0,Zy AI 0,Zq Yk],[]);aK (!Kerb.dX (Zz AI (Xk k (2 ^ min (Zx 56) (Zj AT))))) t1 (aK (!Kerb.dd t0) t1 (Zd (Xv [Zy AI (Zz AI (Xk k (2 ^ min (Zx 56) (Zj AT)))),Zy AI t0,Zq Zb],[])))) ?_;try dsimp only[bg,dg,az,lR,af,eg,jM]
 simp only[Zf,Qa2] at aI;obtain⟨h0,h1⟩:=aI;rw[Kerb.SQ h0 h1,Kerb.SR h0 h1];unfold Kerb.bf;cases Kerb.dX (Kerb.dI k)
 .rfl
 cases Kerb.dd (Kerb.dk k)<;>rfl
theorem atp:Wk 127 2 afS:=by
 refine g8 Tryz.func127 λ_ _ _ h=> ?_;unfold afS at h;split at h;case h_2=>cases h
 rename_i ks bs k;obtain⟨aI,rfl⟩:=ja h;refine jI (Zp (adx [Yg 1 ks,Zy AT k] []) (kL λb=>Zd (Zq b,[]))) ?_;delta kL;dsimp only[adx,bg,dg,az,lR,af,eg,jM];simp only[A0,Kerb.Client.av,Kerb.Cache.av,Kerb.jj.av,aI]
theorem atr:Wk 137 2 ahc:=by
 refine g8 Tryz.func137 λ_ _ _ h=> ?_;unfold ahc at h;split at h;case h_2=>cases h
 rename_i ks bs l m;obtain⟨aI,rfl⟩:=ja h;refine jI (Kerb.aam ks bs l m) ?_;simp only[Zf,Qa2,List.all_eq_true] at aI;obtain⟨⟨⟨⟨⟨a,h1⟩,h2⟩,h3⟩,h4⟩,h5⟩:=aI;obtain⟨s,rfl,rfl,hs⟩:=Kerb.xg a;obtain⟨l,rfl⟩:=Kerb.xW h1;obtain⟨m,rfl⟩:=Kerb.Tk h2;rw[Wq] at h3;rw[Kerb.c6] at h4;rw[Kerb.lK] at h5;rw[Kerb.gS,Kerb.jE,Kerb.lK];exact Kerb.VE hs (x:=⟨l,m⟩) h3 h4 h5
theorem atx:Wk 147 2 ahe:=by
 refine g8 Tryz.func147 λ_ _ _ h=> ?_;unfold ahe at h;split at h;case h_2=>cases h
 rename_i s;obtain⟨aI,rfl⟩:=ja h;refine jI (aK (Zv ((Zw s:Int)>0)) (Zp (Uf [Yw s,Yw [(64:UInt8)]] []) (kL λb=>Zd (Zq b,[]))) (Zd (Zq Yk,[]))) ?_;delta kL;dsimp only[Uf,bg,dg,az,lR,af,eg,jM];simp only[A0];rw[aq (by rw[aI];rfl)];simp only[Kerb.dG];cases s with
 | nil=>rfl
 | cons x r =>
  rw[ae (by first | (simp;done) | (simp;omega)),Bool.and_comm];rfl
theorem alI:Wk 175 2 xq:=by
 refine g8 Tryz.func175 λ_ _ _ h=> ?_;unfold xq at h;split at h;case h_2=>cases h
 rename_i s;obtain⟨aI,rfl⟩:=ja h;refine jI (aK (Zv ((Zw s:Int)>0)) (Zp (Uf [Yw s,Yw [(46:UInt8),(64:UInt8)]] []) (kL λb=>Zd (Zq b,[]))) (Zd (Zq Yk,[]))) ?_;delta kL;dsimp only[Uf,bg,dg,az,lR,af,eg,jM];simp only[A0];rw[aq (by rw[aI];rfl)];simp only[Kerb.validName];cases s with
 | nil=>rfl
 | cons x r =>
  rw[ae (by first | (simp;done) | (simp;omega)),Bool.and_comm];rfl
theorem atC:Wk 177 2 ahf:=by
 refine g8 Tryz.func177 λ_ _ _ h=> ?_;unfold ahf at h;split at h;case h_2=>cases h
 rename_i b n By;obtain⟨aI,rfl⟩:=ja h;refine jI (Zp (KT [Zh b,Zy AI n,Zy AI 4,Zq By] []) (kO λl=>Zd (Xd l,[]))) ?_;delta kO;dsimp only[KT,bg,dg,az,lR,af,eg,jM];simp only[Qa2] at aI;simp only[A0];rw[aq (by simp;omega)];rfl
theorem alL:Wk 181 2 T8:=by
 refine g8 Tryz.func181 λ_ _ _ h=> ?_;unfold T8 at h;split at h;case h_2=>cases h
 rename_i b n By;obtain⟨aI,rfl⟩:=ja h;refine jI (Zp (KT [Zh b,Zy AI n,Zy AI 2,Zq By] []) (kO λl=>Zd (Xd l,[]))) ?_;delta kO;dsimp only[KT,bg,dg,az,lR,af,eg,jM];simp only[Qa2] at aI;simp only[A0];rw[aq (by simp;omega)];rfl
theorem atO:Wk 218 2 ahq:=by
 refine g8 Tryz.func218 λ_ _ _ h=> ?_;unfold ahq at h;split at h;case h_2=>cases h
 rename_i b els;obtain⟨aI,rfl⟩:=ja h;refine jI (aK (!Kerb.Head.err (Kerb.bm b)==0) (Zd (Xv [Zq Yk,Zy AI (Kerb.Head.err (Kerb.bm b))],[])) (Zp (bh (λst=>eg 1 st λb r=>az r λf r=>af AI r λn r=>af AI r λc r=>az r λd r=>af AI r λa r=>ak r (aK (Zv (a<(Zw b:Int))) (ax (Zv (0<=a)&&Zv (a<(Zw b:Int))&&Zb) (Xq AI (Zk b (Zx a) Zn) λp=>aK (p==c) (Zd (Yu (Wy,[Yg 1 b,Zq d,Zy AI 0,Zy AI c,Zq d,Zy AI a]))) (Zd (Yf [Yg 1 b,Zq f,Zy AI n,Zy AI c,Zq d,Zy AI (Zz AI (a+1))])))) (Zd (Yu (Yq 0,[Yg 1 b,Zq f,Zy AI n,Zy AI c,Zq d,Zy AI a]))))) [Yg 1 els,Zq Yk,Zy AI 0,Zy AI (Kerb.Head.kind (Kerb.bm b)),Zq (Kerb.Head.By (Kerb.bm b)),Zy AI 0]) λ(r:Ex×List AV)=>eg 1 (Yb r) λb t=>az t λb q=>af AI q λn s=>af AI s λc o=>az o λf m=>af AI m λa g=>ak g (kJ r.1 (Zd (Xv [Zq b,Zy AI n],[])) λj=>aK (Yh j 0) (Zd (Xv [Zq Yk,Zy AI 40],[])) Wd))) ?_;dsimp only[az,af,eg];simp only[Zf,Qa2] at aI;obtain⟨ha,hl⟩:=aI;have u:=Kerb.CZ ha;unfold Kerb.aR;by_cases he:(Kerb.bm b).err=0;case neg =>
  rw[ae (by simpa using he),Qa1 he]
 rw[ai (by simp[he]),Qa0 (by simpa using he)];generalize (Kerb.bm b).kind=k;generalize (Kerb.bm b).By=lt;refine bS (λi:Nat=>[Yg 1 els,Zq Yk,Zy Zu 0,Zy Zu k,Zq lt,Zy Zu (i:Int)]) (λi=>i<=els.length/\(k∈gf els↔k∈(gf els).drop i)) (λi=>els.length-i)
  (λr=>∃ (i:Nat) (x:Bool),r.2=[Yg 1 els,Zq x,Zy Zu 0,Zy Zu k,Zq lt,Zy Zu (i:Int)]/\((r.1 = .ret/\x=lt/\k∈gf els)\/(r.1 = .exit 0/\k ∉ gf els))) 0 ⟨Xm _,by simp⟩ rfl ?_ ?_
 .rintro i ⟨hi,hm⟩;simp only[A0];by_cases fR:i<els.length
  .obtain⟨n,h1,h2⟩:=Kerb.CY ha fR;rw[ae (by simp;omega),aq (by simp;omega),Yy,h1,sO];rw[h2,List.mem_cons] at hm;by_cases h3:n=k
   .rw[ae (by simpa using h3)];exact⟨_,rfl,i,lt,rfl,.inl ⟨rfl,rfl,hm.2 (.inl h3.symm)⟩⟩
   .rw[ai (by simpa using h3),wrap_i64 (by omega) (by omega)];exact⟨_,rfl,i+1,rfl,⟨by omega,hm.trans ⟨λh=>h.resolve_left λe=>h3 e.symm,.inr⟩⟩,by dsimp only;omega⟩
  .rw[ai (by simp;omega)];refine⟨_,rfl,i,Yk,rfl,.inr ⟨rfl,?_⟩⟩;rw[hm,Wv (by omega)];simp
 .rintro⟨e,l⟩ ⟨i,x,rfl,⟨rfl,rfl,h⟩ | ⟨rfl,h⟩⟩
  .simp only[A0];rw[Qa1 (by simpa using h)]
  .simp only[A0];rw[Qa0 (by simpa using h),ae (Zm _)]
theorem atV:Wk 225 2 aa2:=by
 refine g8 Tryz.func225 λ_ _ _ h=> ?_;unfold aa2 at h;split at h;case h_2=>cases h
 rename_i n B at_ li bad;obtain⟨aI,rfl⟩:=ja h;refine Fh [0] (Zp (ZD [Zh B,Zy AI at_,Zy AI n] []) (kT λvs=>dg vs λb r=>af AI r λn r=>af AI r λa r=>ak r (Zd (Zh b,[[Zh B,Zy AI (bif bad || !a==0 then at_ else n),Zq li,Zq (bad || !a==0)]])))) ?_;delta kT;dsimp only[ZD,bg,dg,az,lR,af,eg,jM];simp only[A0];rw[aq aI];rfl
theorem atW:Wk 226 2 abN:=by
 refine g8 Tryz.func226 λ_ _ _ h=> ?_;unfold abN at h;split at h;case h_2=>cases h
 rename_i B at_ li bad;obtain⟨aI,rfl⟩:=ja h;refine Fh [0] (Zp (zP [Zh B,Zy AI at_] []) (kT λvs=>bg vs λb r=>af AI r λn r=>af AI r λa r=>ak r (Zd (Yw b,[[Zh B,Zy AI (bif bad || !a==0 then at_ else n),Zq li,Zq (bad || !a==0)]])))) ?_;delta kT;dsimp only[zP,bg,dg,az,lR,af,eg,jM];simp only[A0];rw[aq aI];rfl
theorem at2:Wk 280 2 ahv:=by
 refine g8 Tryz.func280 λ_ _ _ h=> ?_;unfold ahv at h;split at h;case h_2=>cases h
 rename_i b;cases h;refine jI (aK (Zv ((Zw b:Int)<2)) (Zd (Xv [Zy AI 0,Zq Yk,Zy AI 101],[])) (ax (Zv (0<(Zw b:Int))) (aK (!Zk b (Zx 0) (0:UInt8)==(4:UInt8)) (Zd (Xv [Zy AI 0,Zq Yk,Zy AI 39],[])) (ax (Zv (1<(Zw b:Int))) (aK (!Ww (Zz AI (Wp (Zz AI (↑(Zg (Zk b (Zx 1) (0:UInt8))):Int)) 2))) (Zd (Xv [Zy AI 0,Zq Yk,Zy AI 40],[])) (ax (Zv (1<(Zw b:Int))) (Zd (Xv [Zy AI (Zz AI (Wp (Zz AI (↑(Zg (Zk b (Zx 1) (0:UInt8))):Int)) 2)),Zq (Yx (Zx (Xu (↑(Zg (Zk b (Zx 1) (0:UInt8))):Int) (↑(Zg (2:UInt8)):Int)))==(1:UInt8)),Zy AI 0],[])))))))) ?_;unfold Kerb.bm;by_cases h1:b.length<2
 .rw[ae (by simp;omega)];simp[h1]
 rw[ai (by simp;omega),aq (by simp;omega),Qa0 h1];by_cases h2:b.getD 0 0=4
 .have hb:=(b.getD 1 0).toNat_lt;have e:Zz Zu (Wp (Zz Zu ((b.getD (Zx 1) 0).toNat:Int)) 2)=(((b.getD 1 0).toNat / 2:Nat):Int):=by
   rw[show Zx 1=1 from rfl,wrap_i64 (n:=((b.getD 1 0).toNat:Int)) (by omega) (by omega),Wj (by omega),wrap_i64 (by omega) (by omega)];omega
  have c:(Yx (Zx (Xu ((b.getD (Zx 1) 0).toNat:Int) ((2:UInt8).toNat:Int)))==1)=Zv ((b.getD 1 0).toNat % 2=1):=by
   rw[show Zx 1=1 from rfl,Wz (by omega)];have a:Zx (((b.getD 1 0).toNat:Int) % ((2:UInt8).toNat:Int))=(b.getD 1 0).toNat % 2:=by
    show Zx (((b.getD 1 0).toNat:Int) % 2)=_;omega
   rw[a];rcases Nat.mod_two_eq_zero_or_one (b.getD 1 0).toNat with h | h<;>rw[h]<;>rfl
  rw[ai (by simp[h2] at *;exact h2),aq (by simp;omega),Qa0 (by simpa using h2),e,c];cases hk:Ww (((b.getD 1 0).toNat / 2:Nat):Int)
  .rfl
  .rw[Bool.not_true,eA,aq (by simp;omega)];rfl
 .rw[ae (by simpa using h2),Qa1 (by simpa using h2)]
theorem at6:Wk 284 2 abE:=by
 refine g8 Tryz.func284 λ_ _ _ h=> ?_;unfold abE at h;split at h;case h_2=>cases h
 rename_i b pos n;obtain⟨aI,rfl⟩:=ja h;refine jI (Zp (Uk [Zh b,Zy AI pos,Zy AI n] []) (kI AI λa=>aK (!a==0) (Zd (Xv [Zh [],Zy AI 0,Zy AI a],[])) (ax (Zv (0<=pos)&&Zv (pos<=Zz AI (pos+n))&&Zv (Zz AI (pos+n)<=(Zw b:Int))) (Zp (ac9 [Zh (Ym (Zx pos) (Yn (Zx (Zz AI (pos+n))) b))] []) (kB λb=>Zd (Xv [Zh b,Zy AI (Zz AI (pos+n)),Zy AI 0],[])))))) ?_;delta kB kI;dsimp only[ac9,Uk,bg,dg,az,lR,af,eg,jM];have hb:=Qa3 aI;simp only[A0];rw[aq (by simp;omega)];unfold Kerb.bytes;by_cases hr:Xp b pos n=0
 .obtain⟨q1,q2,q3,q4⟩:=Kerb.iA.1 hr;have e:Ym (Zx pos) (Yn (Zx (pos+n)) b)=Kerb.cut b pos n:=by
   rw[show Zx (pos+n)=pos.toNat+n.toNat by omega,List.drop_take,show pos.toNat+n.toNat-pos.toNat=n.toNat by omega];rfl
  have hc:=Kerb.jl hr;rw[ai (by simp[hr]),Qa1 hr,wrap_i64 (by omega) (by omega),e,aq (by simp;omega),aq (by simp;omega)]
 .rw[ae (by simpa using hr),Qa0 hr]
theorem at9:Wk 287 2 ahx:=by
 refine g8 Tryz.func287 λ_ _ _ h=> ?_;unfold ahx at h;split at h;case h_2=>cases h
 rename_i k By;cases h;refine jI (aK (!Ww k) (Zd (Zh [],[])) (aK By (Zd (Zh [(4:UInt8),Yx (Zx (Zz .u8 (Zz AI (Zz AI (2*k)+1))))],[])) (Zd (Zh [(4:UInt8),Yx (Zx (Zz .u8 (Zz AI (2*k))))],[])))) ?_;by_cases h:1<=k/\k<=10
 .have hk:k=1\/k=2\/k=3\/k=4\/k=5\/k=6\/k=7\/k=8\/k=9\/k=10:=by omega
  rcases hk with rfl | rfl | rfl | rfl | rfl | rfl | rfl | rfl | rfl | rfl<;>cases By<;>rfl
 .have hk:Ww k=Yk:=by simp[Ww];omega
  by_cases h1:k<1
  .simp[aK,Kerb.header,hk,h1]
  .have h2:10<k:=by omega
   simp[aK,Kerb.header,hk,h1,h2]
theorem auc:Wk 290 2 ahA:=by
 refine g8 Tryz.func290 λ_ _ _ h=> ?_;unfold ahA at h;split at h;case h_2=>cases h
 rename_i els;obtain⟨aI,rfl⟩:=ja h;refine jI (Zp (bh (λst=>eg 1 st λb r=>af AI r λn r=>eg 1 r λe r=>af AI r λf r=>af AI r λc r=>ak r (aK (Zv (c<f)) (ax (Zv (0<=c)&&Zv (c<(Zw e:Int))&&Zb) (AV.dC (Zk e (Zx c) Zn) λa=>aK (Zv (Zz AI (n+(Zw a:Int))<0)) Wd (Zd (Yf [Yg 1 b,Zy AI (Zz AI (n+(Zw a:Int))),Yg 1 e,Zy AI f,Zy AI (Zz AI (c+1))])))) (Zd (Yu (Yq 0,[Yg 1 b,Zy AI n,Yg 1 e,Zy AI f,Zy AI c]))))) [Yg 1 els,Zy AI 0,Yg 1 els,Zy AI (Zw els:Int),Zy AI 0]) λ(r:Ex×List AV)=>eg 1 (Yb r) λb v=>af AI v λn t=>eg 1 t λe u=>af AI u λf s=>af AI s λc q=>ak q (kJ r.1 Wd λj=>aK (Yh j 0) (Zp (ZT [AV.bJ,Zy AI n] []) (kO λl=>Zp (bh (λst=>ar st λx r=>AV.fS x λb=>eg 1 r λa r=>af AI r λn r=>af AI r λd r=>ak r (aK (Zv (d<n)) (ax (Zv (0<=d)&&Zv (d<(Zw a:Int))&&Zb) (AV.dC (Zk a (Zx d) Zn) λg=>ax (room (Zw b+Zw g) 1) (Zd (Yf [Xd (b++g),Yg 1 a,Zy AI n,Zy AI (Zz AI (d+1))])))) (Zd (Yu (Yq 2,[Xd b,Yg 1 a,Zy AI n,Zy AI d]))))) [Xd l,Yg 1 b,Zy AI (Zw b:Int),Zy AI 0]) λ(r:Ex×List AV)=>ar (Yb r) λx p=>AV.fS x λb=>eg 1 p λa o=>af AI o λn m=>af AI m λn k=>ak k (kJ r.1 Wd λj=>aK (Yh j 2) (Zd (Xd b,[])) Wd))) Wd)) ?_;delta kO;dsimp only[ZT,bg,dg,az,lR,af,eg,jM];simp only[Zf,Qa2] at aI;obtain⟨⟨ha,hl⟩,y0⟩:=aI;refine bS (λi:Nat=>[Yg 1 els,Zy Zu ((tj (els.take i)).length:Int),Yg 1 els,Zy Zu (els.length:Int),Zy Zu (i:Int)]) (λi=>i<=els.length) (λi=>els.length-i)
  (λr=>r=(Yq 0,[Yg 1 els,Zy Zu ((tj els).length:Int),Yg 1 els,Zy Zu (els.length:Int),Zy Zu (els.length:Int)])) 0 (Xm _) rfl ?_ ?_
 .intro i hi;simp only[A0];by_cases fR:i<els.length
  .obtain⟨l,h1,h2,h3⟩:=Kerb.Cn ha fR;rw[ae (by simp;omega),aq (by simp;omega),Yy,h1,wj,wrap_i64 (n:=((tj (els.take i)).length:Int)+(l.length:Int)) (by omega) (by omega),ai (by simp;omega),wrap_i64 (by omega) (by omega)];refine⟨_,rfl,i+1,?_,by omega,by dsimp only;omega⟩;dsimp only;rw[h2,List.length_append,Int.natCast_add];rfl
  .rw[ai (by simp;omega)];refine⟨_,rfl,?_⟩;show _=_;rw[Yp (by omega),show i=els.length from by omega]
 rintro r rfl;simp only[A0];rw[ae (Zm _),aq (by simp;omega)];refine bS (λi:Nat=>[Xd (tj (els.take i)),Yg 1 els,Zy Zu (els.length:Int),Zy Zu (i:Int)]) (λi=>i<=els.length) (λi=>els.length-i)
  (λr=>r=(Yq 2,[Xd (tj els),Yg 1 els,Zy Zu (els.length:Int),Zy Zu (els.length:Int)])) 0 (Xm _) rfl ?_ ?_
 .intro i hi;simp only[A0];by_cases fR:i<els.length
  .obtain⟨l,h1,h2,h3⟩:=Kerb.Cn ha fR;rw[ae (by simp;omega),aq (by simp;omega),Yy,h1,wj,aq (Wu (by omega)),wrap_i64 (by omega) (by omega)];refine⟨_,rfl,i+1,?_,by omega,by dsimp only;omega⟩;dsimp only;rw[h2];rfl
  .rw[ai (by simp;omega)];refine⟨_,rfl,?_⟩;show _=_;rw[Yp (by omega),show i=els.length from by omega]
 rintro r rfl;simp only[A0];rw[ae (Zm _)]
theorem anf:Wk 364 2 Uj:=by
 refine g8 Tryz.func364 λ_ _ _ h=> ?_;unfold Uj at h;split at h;case h_2=>cases h
 rename_i b pos k By;obtain⟨aI,rfl⟩:=ja h;refine jI (Zp (Uk [Zh b,Zy AI pos,Zy AI k] []) (kI AI λn=>aK (!n==0) (Zd (Xv [Zy AI 0,Zy AI 0,Zy AI n],[])) (Zp (bh (λst=>dg st λb r=>af AI r λn r=>af AI r λc r=>az r λf r=>af AI r λe r=>af AI r λd r=>af AI r λa r=>ak r (aK (Zv (a<d)) (aK f (ax (Zv (0<=Zz AI (n+Zz AI (Zz AI (c-1)-a)))&&Zv (Zz AI (n+Zz AI (Zz AI (c-1)-a))<(Zw b:Int))) (Zd (Yf [Zh b,Zy AI n,Zy AI c,Zq f,Zy AI (Zz AI (↑(BitVec.toNat (BitVec.ofInt (Zj AI) (Zz AI (e*2 ^ min (Zx 8) (Zj AI))) ||| BitVec.ofInt (Zj AI) (Zz AI (↑(Zg (Zk b (Zx (Zz AI (n+Zz AI (Zz AI (c-1)-a)))) (0:UInt8))):Int)))):Int)),Zy AI d,Zy AI (Zz AI (a+1))]))) (ax (Zv (0<=Zz AI (n+a))&&Zv (Zz AI (n+a)<(Zw b:Int))) (Zd (Yf [Zh b,Zy AI n,Zy AI c,Zq f,Zy AI (Zz AI (↑(BitVec.toNat (BitVec.ofInt (Zj AI) (Zz AI (e*2 ^ min (Zx 8) (Zj AI))) ||| BitVec.ofInt (Zj AI) (Zz AI (↑(Zg (Zk b (Zx (Zz AI (n+a))) (0:UInt8))):Int)))):Int)),Zy AI d,Zy AI (Zz AI (a+1))])))) (Zd (Yu (Yq 0,[Zh b,Zy AI n,Zy AI c,Zq f,Zy AI e,Zy AI d,Zy AI a]))))) [Zh b,Zy AI pos,Zy AI k,Zq By,Zy AI 0,Zy AI k,Zy AI 0]) λ(r:Ex×List AV)=>dg (Yb r) λb x=>af AI x λn v=>af AI v λc w=>az w λb u=>af AI u λe s=>af AI s λd q=>af AI q λa p=>ak p (kJ r.1 Wd λj=>aK (Yh j 0) (Zd (Xv [Zy AI e,Zy AI (Zz AI (n+c)),Zy AI 0],[])) Wd)))) ?_;delta kI;dsimp only[Uk,bg,dg,az,lR,af,eg,jM];simp only[Zf,Qa2] at aI;obtain⟨⟨hb,y⟩,z⟩:=aI;simp only[A0];rw[aq (by simpa using hb)];unfold Kerb.get;by_cases hr:Xp b pos k=0
 .rw[ai (by simp[hr]),Qa1 hr];obtain⟨q1,q2,q3,q4⟩:=Kerb.iA.1 hr;have m:=Kerb.jl hr;obtain⟨L,g⟩:∃ L,L=cond By (Kerb.cut b pos k).reverse (Kerb.cut b pos k):=⟨_,rfl⟩;have t:L.length=k.toNat:=by rw[g];cases By<;>simp[m]
  rw[<-g];refine bS (λi:Nat=>[Zh b,Zy Zu pos,Zy Zu k,Zq By,Zy Zu (Kerb.ji (L.take i)),Zy Zu k,Zy Zu (i:Int)]) (λi=>i<=k.toNat) (λi=>k.toNat-i)
   (λr=>r=(Yq 0,[Zh b,Zy Zu pos,Zy Zu k,Zq By,Zy Zu (Kerb.ji L),Zy Zu k,Zy Zu k])) 0 (Xm _) rfl ?_ ?_
  .intro i hi;simp only[A0];by_cases fR:i<k.toNat
   .rw[ae (by simp;omega)];have hv:=Kerb.Ic (l:=L.take i) (by simp;omega);have hs:=Kerb.wA (l:=L) (i:=i) (by omega);have o:L.getD i 0=b.getD (cond By (pos.toNat+(k.toNat-1-i)) (pos.toNat+i)) 0:=by
     rw[g];cases By
     .exact Kerb.IZ fR
     .show(Kerb.cut b pos k).reverse.getD i 0=_;rw[Kerb.yU (by omega),m,Kerb.IZ (by omega)];rfl
    cases By
    .rw[ai rfl,wrap_i64 (n:=pos+(i:Int)) (by omega) (by omega),aq (by simp;omega),show(pos+(i:Int)).toNat=pos.toNat+i from by omega];rw[Kerb.B3 _ hv.1 (by omega),wrap_i64 (n:=(i:Int)+1) (by omega) (by omega)];refine⟨_,rfl,i+1,?_,by omega,by dsimp only;omega⟩;dsimp only;rw[hs,o];rfl
    .rw[ae rfl,wrap_i64 (n:=k-1) (by omega) (by omega),wrap_i64 (n:=k-1-(i:Int)) (by omega) (by omega),wrap_i64 (n:=pos+(k-1-(i:Int))) (by omega) (by omega),aq (by simp;omega),show(pos+(k-1-(i:Int))).toNat=pos.toNat+(k.toNat-1-i) from by omega];rw[Kerb.B3 _ hv.1 (by omega),wrap_i64 (n:=(i:Int)+1) (by omega) (by omega)];refine⟨_,rfl,i+1,?_,by omega,by dsimp only;omega⟩;dsimp only;rw[hs,o];rfl
   .rw[ai (by simp;omega)];refine⟨_,rfl,?_⟩;show _=_;rw[Yp (by omega),show(i:Int)=k from by omega]
  .rintro r rfl;simp only[A0];rw[ae (Zm _),wrap_i64 (by omega) (by omega)]
 .rw[ae (by simpa using hr),Qa0 hr]
theorem anh:Wk 366 2 OD:=by
 refine g8 Tryz.func366 λ_ _ _ h=> ?_;unfold OD at h;split at h;case h_2=>cases h
 rename_i s c;cases h;refine jI (Zd (Zy AI (Yv c s),[])) ?_;rfl
theorem anN:Wk 397 2 OI:=by
 refine g8 Tryz.func397 λ_ _ _ h=> ?_;unfold OI at h;split at h;case h_2=>cases h
 rename_i b pos k By;obtain⟨aI,rfl⟩:=ja h;refine jI (Zp (ZD [Zh b,Zy AI pos,Zy AI k] []) (kT λvs=>dg vs λb r=>af AI r λn r=>af AI r λm r=>ak r (aK (!m==0) (Zd (Xv [Zy AI 0,Zy AI 0,Zy AI m],[])) (Zp (bh (λst=>af AI st λn r=>az r λb r=>dg r λc r=>af AI r λd r=>af AI r λe r=>af AI r λa r=>ak r (aK (Zv (a<n)) (aK b (ax (Zv (0<=Zz AI (Zz AI (n-1)-a))&&Zv (Zz AI (Zz AI (n-1)-a)<(Zw c:Int))) (Zd (Yf [Zy AI n,Zq b,Zh c,Zy AI d,Zy AI (Zz AI (↑(BitVec.toNat (BitVec.ofInt (Zj AI) (Zz AI (e*2 ^ min (Zx 8) (Zj AI))) ||| BitVec.ofInt (Zj AI) (Zz AI (↑(Zg (Zk c (Zx (Zz AI (Zz AI (n-1)-a))) (0:UInt8))):Int)))):Int)),Zy AI (Zz AI (a+1))]))) (ax (Zv (0<=a)&&Zv (a<(Zw c:Int))) (Zd (Yf [Zy AI n,Zq b,Zh c,Zy AI d,Zy AI (Zz AI (↑(BitVec.toNat (BitVec.ofInt (Zj AI) (Zz AI (e*2 ^ min (Zx 8) (Zj AI))) ||| BitVec.ofInt (Zj AI) (Zz AI (↑(Zg (Zk c (Zx a) (0:UInt8))):Int)))):Int)),Zy AI (Zz AI (a+1))])))) (Zd (Yu (Yq 0,[Zy AI n,Zq b,Zh c,Zy AI d,Zy AI e,Zy AI a]))))) [Zy AI k,Zq By,Zh b,Zy AI n,Zy AI 0,Zy AI 0]) λ(r:Ex×List AV)=>af AI (Yb r) λn w=>az w λb u=>dg u λb v=>af AI v λn t=>af AI t λd q=>af AI q λe p=>ak p (kJ r.1 Wd λj=>aK (Yh j 0) (Zd (Xv [Zy AI d,Zy AI n,Zy AI 0],[])) Wd))))) ?_;delta kT;dsimp only[ZD,bg,dg,az,lR,af,eg,jM];simp only[Zf,Qa2] at aI;obtain⟨⟨hb,x⟩,y⟩:=aI;simp only[A0];rw[aq (by simpa using hb)];unfold Kerb.get Kerb.bytes;by_cases hr:Xp b pos k=0;case neg =>
  rw[Qa0 hr,Qa0 hr,ae (by simpa using hr)]
 rw[Qa1 hr,Qa1 hr,ai (by simp)];obtain⟨q1,q2,q3,q4⟩:=Kerb.iA.1 hr;have f:=Kerb.jl hr;obtain⟨C,hC⟩:∃ C,C=Kerb.cut b pos k:=⟨_,rfl⟩;rw[<-hC] at f ⊢;obtain⟨L,g⟩:∃ L,L=cond By C.reverse C:=⟨_,rfl⟩;have s:L.length=k.toNat:=by rw[g];cases By<;>simp[f]
 rw[<-g];refine bS (λi:Nat=>[Zy Zu k,Zq By,Zh C,Zy Zu (pos+k),Zy Zu (Kerb.ji (L.take i)),Zy Zu (i:Int)]) (λi=>i<=k.toNat) (λi=>k.toNat-i)
  (λr=>r=(Yq 0,[Zy Zu k,Zq By,Zh C,Zy Zu (pos+k),Zy Zu (Kerb.ji L),Zy Zu k])) 0 (Xm _) rfl ?_ ?_
 .intro i hi;simp only[A0];by_cases fR:i<k.toNat
  .rw[ae (by simp;omega)];have hv:=Kerb.Ic (l:=L.take i) (by simp;omega);have hs:=Kerb.wA (l:=L) (i:=i) (by omega);have o:L.getD i 0=C.getD (cond By (k.toNat-1-i) i) 0:=by
    rw[g];cases By
    .rfl
    .show C.reverse.getD i 0=_;rw[Kerb.yU (by omega),f];rfl
   cases By
   .rw[ai rfl,aq (by simp;omega),Yy];rw[Kerb.B3 _ hv.1 (by omega),wrap_i64 (n:=(i:Int)+1) (by omega) (by omega)];refine⟨_,rfl,i+1,?_,by omega,by dsimp only;omega⟩;dsimp only;rw[hs,o];rfl
   .rw[ae rfl,wrap_i64 (n:=k-1) (by omega) (by omega),wrap_i64 (n:=k-1-(i:Int)) (by omega) (by omega),aq (by simp;omega),show(k-1-(i:Int)).toNat=k.toNat-1-i from by omega];rw[Kerb.B3 _ hv.1 (by omega),wrap_i64 (n:=(i:Int)+1) (by omega) (by omega)];refine⟨_,rfl,i+1,?_,by omega,by dsimp only;omega⟩;dsimp only;rw[hs,o];rfl
  .rw[ai (by simp;omega)];refine⟨_,rfl,?_⟩;show _=_;rw[Yp (by omega),show(i:Int)=k from by omega]
 .rintro r rfl;simp only[A0];rw[ae (Zm _)]
theorem auZ:Wk 465 2 ahI:=by
 refine g8 Tryz.func465 λ_ _ _ h=> ?_;unfold ahI at h;split at h;case h_2=>cases h
 rename_i s c;cases h;refine jI (Zd (Zy AI (Yv c s),[])) ?_;rfl
theorem w21:Wk 21 3 ao9:=by
 refine g8 Tryz.func21 λ_ _ _ h=> ?_;unfold ao9 at h;split at h;case h_2=>cases h
 rename_i n;obtain⟨aI,rfl⟩:=ja h;refine jI (ax (Zv (0<=Xu n 3)&&Zv (Xu n 3<(↑(Zw [Yw [(97:UInt8),(110:UInt8),(110:UInt8)],Yw [(98:UInt8),(111:UInt8),(98:UInt8)],Yw [(99:UInt8),(97:UInt8),(116:UInt8)]]):Int))&&Zb) (AV.fT (Zk [Yw [(97:UInt8),(110:UInt8),(110:UInt8)],Yw [(98:UInt8),(111:UInt8),(98:UInt8)],Yw [(99:UInt8),(97:UInt8),(116:UInt8)]] (Zx (Xu n 3)) Zn) λb=>Zp (ah9 [Zy AI (Zz AI (Wp n 3))] []) (kS λc=>Zd (AV.agg [Yw b,Yw [],Yw c],[])))) ?_;delta kS;dsimp only[ah9,bg,dg,az,lR,af,eg,jM];have hn:0<=n:=by first | exact Qa3 aI | (simp only[Zf,Qa2] at aI;exact aI.1)
 have ht:Xu n 3=n % 3:=Wz hn;have d:n % 3=0\/n % 3=1\/n % 3=2:=by omega
 simp only[Zf,Qa2] at aI;have hd:Wp n 3=n / 3:=Wj hn;rw[hd,wrap_i64 (by omega) (by omega)];have a:Zv ((0:Int)<=n / 3)=Zb:=by simp;omega
 rcases d with e | e | e<;>simp[ht,e,ax,AV.fT,Kerb.user,a,aE]<;>omega
theorem ato:Wk 125 3 afR:=by
 refine g8 Tryz.func125 λ_ _ _ h=> ?_;unfold afR at h;split at h;case h_2=>cases h
 rename_i k;obtain⟨aI,rfl⟩:=ja h;refine jI (Zp (aeN [Zy AT k] []) (kL λb=>aK (!b) (Zd (Zy AI 0,[])) (Zd (Zy AI (Zz AI (Xk k (2 ^ min (Zx 56) (Zj AT)))),[])))) ?_;delta kL;dsimp only[aeN,bg,dg,az,lR,af,eg,jM];simp only[aI,↓A0,A0];unfold Kerb.hY;cases hk:Kerb.bf k
 .rfl
 simp only[Bool.not_true,Bool.not_false,gO,eA];simp only[Zf,Qa2] at aI;have h7:(min (Zx 56) (Zj AT))=56:=rfl;rw[h7,Int.fdiv_eq_ediv_of_nonneg _ (by decide),wrap_i64 (by omega) (by omega)];rfl
theorem atQ:Wk 221 3 abI:=by
 refine g8 Tryz.func221 λ_ _ _ h=> ?_;unfold abI at h;split at h;case h_2=>cases h
 rename_i b;obtain⟨aI,rfl⟩:=ja h;refine jI (aK (!(Zw b:Int)==8) (Zd (Xv [Zy AT 0,Zq Yk],[])) (Zp (bh (λst=>dg st λb r=>af AT r λn r=>af AI r λa r=>ak r (aK (Zv (a<8)) (ax (Zv (0<=a)&&Zv (a<(Zw b:Int))) (Zd (Yf [Zh b,Zy AT (Zz AT (↑(BitVec.toNat (BitVec.ofInt (Zj AT) (Zz AT (n*2 ^ min (Zx 8) (Zj AT))) ||| BitVec.ofInt (Zj AT) (Zz AT (↑(Zg (Zk b (Zx a) (0:UInt8))):Int)))):Int)),Zy AI (Zz AI (a+1))]))) (Zd (Yu (Yq 0,[Zh b,Zy AT n,Zy AI a]))))) [Zh b,Zy AT 0,Zy AI 0]) λ(r:Ex×List AV)=>dg (Yb r) λb f=>af AT f λn d=>af AI d λa e=>ak e (kJ r.1 Wd λj=>aK (Yh j 0) (Zp (aeN [Zy AT n] []) (kL λb=>aK (!b) (Zd (Xv [Zy AT 0,Zq Yk],[])) (Zd (Xv [Zy AT n,Zq Zb],[])))) Wd))) ?_;delta kL;dsimp only[aeN,bg,dg,az,lR,af,eg,jM];have hb:=Qa3 aI;unfold Kerb.dm;by_cases h8:b.length=8;case neg =>
  rw[ae (by simp;omega),Qa0 (by omega)]
 rw[ai (by simp[h8])];refine bS (λi:Nat=>[Zh b,Zy Xw (Kerb.ji (b.take i)),Zy Zu (i:Int)]) (λi=>i<=8) (λi=>8-i)
  (λr=>r=(Yq 0,[Zh b,Zy Xw (Kerb.ji b),Zy Zu 8])) 0 (by omega) rfl ?_ ?_
 .intro i hi;simp only[A0];by_cases fR:i<8
  .have hv:=Kerb.wA (l:=b) (i:=i) (by omega);have c:=Kerb.Lc (l:=b.take i) (by simp;omega);rw[ae (by simp;omega),aq (by simp;omega),Yy,Kerb.Kv _ c.1 c.2,wrap_i64 (by omega) (by omega),<-hv];exact⟨_,rfl,i+1,rfl,by omega,by dsimp only;omega⟩
  .rw[ai (by simp;omega)];refine⟨_,rfl,?_⟩;show _=_;rw[Yp (by omega),show i=8 from by omega];rfl
 rintro r rfl;have c:=Kerb.Ea (l:=b) (by omega);simp only[A0];rw[ae (Zm _),aq (by simp;omega)];cases hv:Kerb.bf (Kerb.ji b)
 .rw[Qa0 (by simp)];rfl
 .rw[Qa1 ⟨h8,rfl⟩];rfl
theorem at5:Wk 283 3 abD:=by
 refine g8 Tryz.func283 λ_ _ _ h=> ?_;unfold abD at h;split at h;case h_2=>cases h
 rename_i b pos;obtain⟨aI,rfl⟩:=ja h;refine jI (let t5:List UInt8:=Ym (Zx pos) (Yn (Zx (Zw b:Int)) b);let t6:Option (AV×aO):=Zd (Xv [Yw [],Zy AI 0,Zy AI 105],[]);let t7:Option (AV×aO):=Zd (Xv [Yw [],Zy AI 0,Zy AI 101],[]);let t1:Int:=Yv (0:UInt8) t5;let t2:Int:=(Zw t5:Int);let t4:List UInt8:=Ym (Zx (↑(0:Nat):Int)) (Yn (Zx 40) t5);let t0:Int:=Yv (0:UInt8) t4;let t3:Int:=(Zw t4:Int);Zp (Uk [Zh b,Zy AI pos,Zy AI 0] []) (kI AI λn=>aK (!n==0) (Zd (Xv [Yw [],Zy AI 0,Zy AI n],[])) (ax (Zv (0<=pos)&&Zv (pos<=(Zw b:Int))&&Zv ((Zw b:Int)<=(Zw b:Int))) (aK (Zv (t2>40)) (ax (Zv (40<=t2)) (aK (Zv (t0>=0)) (ax (Zv ((↑(0:Nat):Int)<=t0)&&Zv (t0<=t3)) (Zd (Xv [Yw (Ym (Zx (↑(0:Nat):Int)) (Yn (Zx t0) t4)),Zy AI (Zz AI (Zz AI (pos+t0)+1)),Zy AI 0],[]))) (aK (t3==40) t6 t7))) (aK (Zv (t1>=0)) (ax (Zv ((↑(0:Nat):Int)<=t1)&&Zv (t1<=t2)) (Zd (Xv [Yw (Ym (Zx (↑(0:Nat):Int)) (Yn (Zx t1) t5)),Zy AI (Zz AI (Zz AI (pos+t1)+1)),Zy AI 0],[]))) (aK (t2==40) t6 t7)))))) ?_;delta kI;dsimp only[Uk,bg,dg,az,lR,af,eg,jM];simp only[Qa2] at aI;simp only[A0];rw[aq (by simpa using aI)];have ht:(Yn (Zx (b.length:Int)) b)=b:=by simp
 rw[ht];unfold Kerb.text;by_cases hr:Xp b pos 0=0;case neg =>
  have c:Xp b pos 0=104:=by
   unfold Xp at hr ⊢;split at hr
   .rw[Qa1 (by assumption)]
   .split at hr<;>omega
  rw[ae (by simpa using hr),Qa0 hr,c]
 obtain⟨q1,q2,_,_⟩:=Kerb.iA.1 hr;rw[ai (by simp[hr]),Qa1 hr,aq (by simp;omega)];obtain⟨R,hR⟩:∃ R,R=b.drop pos.toNat:=⟨_,rfl⟩;have f:R.length=b.length-pos.toNat:=by rw[hR];simp
 rw[<-hR];obtain⟨T,a⟩:∃ T,T=R.take 40:=⟨_,rfl⟩;have i:=Kerb.CU 0 T;have key:(aK (Zv (Yv (0:UInt8) T>=(0:Int)))
   (ax (Zv (((0:Nat):Int)<=Yv (0:UInt8) T)&&Zv (Yv (0:UInt8) T<=(T.length:Int)))
    (Zd (Xv [Yw (Ym (Zx ((0:Nat):Int)) (Yn (Zx (Yv (0:UInt8) T)) T)),Zy Zu (Zz Zu (Zz Zu (pos+Yv (0:UInt8) T)+(1:Int))),Zy Zu (0:Int)],([]:aO))))
   (aK (((T.length:Int))==(40:Int)) (Zd (Xv [Yw [],Zy Zu (0:Int),Zy Zu (105:Int)],[]))
    (Zd (Xv [Yw [],Zy Zu (0:Int),Zy Zu (101:Int)],[])))) =
   Zd (Xv [Yw (if 0<=Yv 0 T then(⟨T.take (Yv 0 T).toNat,pos+Yv 0 T+1,0⟩:Kerb.Q5) else if T.length=40 then⟨[],0,105⟩ else⟨[],0,101⟩).val,
    Zy Zu (if 0<=Yv 0 T then(⟨T.take (Yv 0 T).toNat,pos+Yv 0 T+1,0⟩:Kerb.Q5) else if T.length=40 then⟨[],0,105⟩ else⟨[],0,101⟩).next,
    Zy Zu (if 0<=Yv 0 T then(⟨T.take (Yv 0 T).toNat,pos+Yv 0 T+1,0⟩:Kerb.Q5) else if T.length=40 then⟨[],0,105⟩ else⟨[],0,101⟩).err],[]):=by
  have e:T.length<=b.length-pos.toNat:=by rw[a];simp;omega
  by_cases hi:0<=Yv 0 T
  .rw[ae (by simpa using hi),aq (by simp;omega),Qa1 hi,wrap_i64 (n:=pos+Yv 0 T) (by omega) (by omega),wrap_i64 (by omega) (by omega)];rfl
  .rw[ai (by simp;omega),Qa0 hi];by_cases d:T.length=40
   .rw[ae (by simp[d]),Qa1 d]
   .rw[ai (by simp;omega),Qa0 d]
 by_cases g:40<R.length
 .rw[ae (by simp;omega),aq (by simp;omega)];have e1:Ym (Zx ((0:Nat):Int)) (Yn (Zx (40:Int)) R)=T:=by rw[a];rfl
  rw[e1];rw[<-a];exact key
 .rw[ai (by simp;omega)];have e1:R=T:=by rw[a,Yp (by omega)]
  rw[<-a,e1];exact key
theorem anj:Wk 368 3 Bs:=by
 refine g8 Tryz.func368 λ_ _ _ h=> ?_;unfold Bs at h;split at h;case h_2=>cases h
 rename_i b n k By;obtain⟨aI,rfl⟩:=ja h;refine jI (Zp (bh (λst=>dg st λb r=>af AI r λn r=>af AI r λd r=>az r λf r=>dg r λc r=>af AI r λe r=>af AI r λa r=>ak r (aK (Zv (a<e)) (aK (!f) (ax (Zv (0<=Zz AI (8*a))) (ax (Zv (0<=Zz AI (Zz AI (d-1)-a))&&Zv (Zz AI (Zz AI (d-1)-a)<(Zw c:Int))&&Yh (Zw c) 4&&Zb) (ax (Yz (Zx (Zz AI (Zz AI (d-1)-a))) (Zw c)&&Zb&&Zb&&Zb&&Zb) (Zd (Yf [Zh b,Zy AI n,Zy AI d,Zq f,Zh (Yj c (Zx (Zz AI (Zz AI (d-1)-a))) (Yx (Zx (Zz .u8 (Xk n (2 ^ min (Zx (Zz AI (8*a))) (Zj AI))))))),Zy AI e,Zy AI (Zz AI (a+1))]))))) (ax (Zv (0<=Zz AI (8*a))) (ax (Zv (0<=a)&&Zv (a<(Zw c:Int))&&Yh (Zw c) 4&&Zb) (ax (Yz (Zx a) (Zw c)&&Zb&&Zb&&Zb&&Zb) (Zd (Yf [Zh b,Zy AI n,Zy AI d,Zq f,Zh (Yj c (Zx a) (Yx (Zx (Zz .u8 (Xk n (2 ^ min (Zx (Zz AI (8*a))) (Zj AI))))))),Zy AI e,Zy AI (Zz AI (a+1))])))))) (Zd (Yu (Yq 0,[Zh b,Zy AI n,Zy AI d,Zq f,Zh c,Zy AI e,Zy AI a]))))) [Zh b,Zy AI n,Zy AI k,Zq By,Zh [(0:UInt8),(0:UInt8),(0:UInt8),(0:UInt8)],Zy AI k,Zy AI 0]) λ(r:Ex×List AV)=>dg (Yb r) λb s=>af AI s λn p=>af AI p λn q=>az q λf o=>dg o λc m=>af AI m λd i=>af AI i λe g=>ak g (kJ r.1 Wd λj=>aK (Yh j 0) (ax (Zv ((↑(0:Nat):Int)<=n)&&Zv (n<=(Zw c:Int))&&Yh (Zw c) 4) (Zp (ax (Zv (Zw (Xb b (Xb (Ym (Zx (↑(0:Nat):Int)) (Yn (Zx n) c)) []))<=140737488355328)&&Zv (Zw [Zh b,Zh (Ym (Zx (↑(0:Nat):Int)) (Yn (Zx n) c))]<=1000)) (Zd (Xd (Xb b (Xb (Ym (Zx (↑(0:Nat):Int)) (Yn (Zx n) c)) [])),[]))) (kO λl=>Zd (Xd l,[])))) Wd)) ?_;delta kO;dsimp only[dg,az,af];simp only[Zf,Qa2] at aI;obtain⟨hk,hb⟩:=aI;rcases hk with rfl | rfl | rfl<;>cases By
 .refine jN 2 (Yq 0,[Zh b,Zy Zu n,Zy Zu 1,Zq Yk,Zh [Xy n 0,(0:UInt8),(0:UInt8),(0:UInt8)],Zy Zu 1,Zy Zu 1]) (by kernel_rfl) ?_;simp only[A0];rw[ae (Zm _),aq (by simp),aq (by simp;omega)];simp[Kerb.uW,Wf,Kerb.eY,Xf]
 .refine jN 2 (Yq 0,[Zh b,Zy Zu n,Zy Zu 1,Zq Zb,Zh [Xy n 0,(0:UInt8),(0:UInt8),(0:UInt8)],Zy Zu 1,Zy Zu 1]) (by kernel_rfl) ?_;simp only[A0];rw[ae (Zm _),aq (by simp),aq (by simp;omega)];simp[Kerb.uW,Wf,Kerb.eY,Xf]
 .refine jN 3 (Yq 0,[Zh b,Zy Zu n,Zy Zu 2,Zq Yk,Zh [Xy n 8,Xy n 0,(0:UInt8),(0:UInt8)],Zy Zu 2,Zy Zu 2]) (by kernel_rfl) ?_;simp only[A0];rw[ae (Zm _),aq (by simp),aq (by simp;omega)];simp[Kerb.uW,Wf,Kerb.eY,Xf]
 .refine jN 3 (Yq 0,[Zh b,Zy Zu n,Zy Zu 2,Zq Zb,Zh [Xy n 0,Xy n 8,(0:UInt8),(0:UInt8)],Zy Zu 2,Zy Zu 2]) (by kernel_rfl) ?_;simp only[A0];rw[ae (Zm _),aq (by simp),aq (by simp;omega)];simp[Kerb.uW,Wf,Kerb.eY,Xf]
 .refine jN 5 (Yq 0,[Zh b,Zy Zu n,Zy Zu 4,Zq Yk,Zh [Xy n 24,Xy n 16,Xy n 8,Xy n 0],Zy Zu 4,Zy Zu 4]) (by kernel_rfl) ?_;simp only[A0];rw[ae (Zm _),aq (by simp),aq (by simp;omega)];simp[Kerb.uW,Wf,Kerb.eY,Xf]
 .refine jN 5 (Yq 0,[Zh b,Zy Zu n,Zy Zu 4,Zq Zb,Zh [Xy n 0,Xy n 8,Xy n 16,Xy n 24],Zy Zu 4,Zy Zu 4]) (by kernel_rfl) ?_;simp only[A0];rw[ae (Zm _),aq (by simp),aq (by simp;omega)];simp[Kerb.uW,Wf,Kerb.eY,Xf]
theorem anq:Wk 375 3 Un:=by
 refine g8 Tryz.func375 λ_ _ _ h=> ?_;unfold Un at h;split at h;case h_2=>cases h
 rename_i b;obtain⟨aI,rfl⟩:=ja h;refine jI (let t0:Int:=Xu (Zz AI (8-Xu (Zw b:Int) 8)) 8;ax (Zv (0<=t0)&&Zv (t0<=t0)&&Zv (t0<=140737488355328)) (Zp (ax (Zv (Zw (Xb b (Xb (Xh (Zx t0) (0:UInt8)) []))<=140737488355328)&&Zv (Zw [Zh b,Zh (Xh (Zx t0) (0:UInt8))]<=1000)) (Zd (Xd (Xb b (Xb (Xh (Zx t0) (0:UInt8)) [])),[]))) (kO λl=>Zd (Zh l,[])))) ?_;delta kO;try dsimp only[bg,dg,az,lR,af,eg,jM]
 have hb:=Qa3 aI;rw[Kerb.aca hb];simp only[A0];rw[aq (by simp;omega),aq (by simp;omega)];simp[Kerb.pad];omega
theorem auE:Wk 442 3 adz:=by
 refine g8 Tryz.func442 λ_ _ _ h=> ?_;unfold adz at h;split at h;case h_2=>cases h
 rename_i a b els;obtain⟨aI,rfl⟩:=ja h;refine Fh [0] (Zp (bh (λst=>ar st λx r=>AV.aS x λy=>af AI r λn r=>af AI r λC r=>af AI r λu r=>ak r (aK (Zv (u<C)) (Zp (bh (λst=>ar st λx r=>AV.aS x λy=>af AI r λn r=>af AI r λo r=>af AI r λp r=>af AI r λc r=>ak r (aK (Zv (c>n)) (ax (Zv (0<=c)&&Zv (c<(Zw y:Int))&&Zb) (ax (Yz (Zx c) (Zw y)&&Zb) (Xq AT (Zk y (Zx c) Zn) λH=>ax (Zv (0<=Zz AI (c-1))&&Zv (Zz AI (c-1)<(Zw y:Int))&&Zb) (ax (Yz (Zx (Zz AI (c-1))) (Zw y)&&Zb) (Xq AT (Zk y (Zx (Zz AI (c-1))) Zn) λG=>aK (Zv (H<G)) (ax (Zv (0<=Zz AI (c-1))&&Zv (Zz AI (c-1)<(Zw y:Int))&&Zb) (ax (Yz (Zx (Zz AI (c-1))) (Zw y)&&Zb) (Xq AT (Zk y (Zx (Zz AI (c-1))) Zn) λg=>ax (Zv (0<=c)&&Zv (c<(Zw y:Int))&&Zb) (ax (Yz (Zx c) (Zw y)&&Zb) (Xq AT (Zk y (Zx c) Zn) λD=>ax (Zv (0<=c)&&Zv (c<(Zw y:Int))&&Zb) (ax (Yz (Zx c) (Zw y)&&Zb) (Xq AT (Zk y (Zx c) Zn) λL=>ax (Zw [Zy AT g]==nat_lit 1&&Zb&&Zb&&Zb&&Yz (Zx c) (Zw y)) (ax (Zv (0<=Zz AI (c-1))&&Zv (Zz AI (c-1)<(↑(Zw (Yj y (Zx c) (Zy AT g))):Int))&&Zb) (ax (Yz (Zx (Zz AI (c-1))) (Zw (Yj y (Zx c) (Zy AT g)))&&Zb) (Xq AT (Zk (Yj y (Zx c) (Zy AT g)) (Zx (Zz AI (c-1))) Zn) λM=>ax (Zw [Zy AT D]==nat_lit 1&&Zb&&Zb&&Zb&&Yz (Zx (Zz AI (c-1))) (Zw (Yj y (Zx c) (Zy AT g)))) (Zd (Yf [Xx (Yj (Yj y (Zx c) (Zy AT g)) (Zx (Zz AI (c-1))) (Zy AT D)),Zy AI n,Zy AI o,Zy AI p,Zy AI (Zz AI (c-1))])))))))))))) (Zd (Yu (Yq 2,[Xx y,Zy AI n,Zy AI o,Zy AI p,Zy AI c])))))))) (Zd (Yu (Yq 2,[Xx y,Zy AI n,Zy AI o,Zy AI p,Zy AI c]))))) [Xx y,Zy AI n,Zy AI C,Zy AI u,Zy AI u]) λ(r:Ex×List AV)=>ar (Yb r) λx B=>AV.aS x λy=>af AI B λn z=>af AI z λo A=>af AI A λp v=>af AI v λc E=>ak E (kJ r.1 (Zd (Yu (Wy,[Xx y,Zy AI n,Zy AI o,Zy AI p]))) λj=>aK (Yh j 2) (Zd (Yf [Xx y,Zy AI n,Zy AI o,Zy AI (Zz AI (p+1))])) Wd)) (Zd (Yu (Yq 0,[Xx y,Zy AI n,Zy AI C,Zy AI u]))))) [Xx els,Zy AI a,Zy AI b,Zy AI (Zz AI (a+1))]) λ(r:Ex×List AV)=>ar (Yb r) λx B=>AV.aS x λy=>af AI B λn z=>af AI z λn A=>af AI A λn v=>ak v (kJ r.1 (Zd (Xv [],[y])) λj=>aK (Yh j 0) (Zd (Xv [],[y])) Wd)) ?_;dsimp only[af];simp only[Zf,Qa2] at aI;obtain⟨⟨⟨⟨hZ,hlen⟩,J⟩,K⟩,hb⟩:=aI;obtain⟨d,rfl,hd⟩:=Kerb.nr hZ;simp only[Kerb.aU] at hlen hb;unfold Kerb.BS;rw[hd];obtain⟨a,rfl⟩:=Xz J;obtain⟨b,rfl⟩:=Xz (show 0<=b by omega);simp only[Yy];rw[show Zz AI ((a:Int)+1)=((a+1:Nat):Int) from Wx (by omega) (by omega)];unfold Go.Sort.insertionSort
 refine bS (λs:Array Int×Nat=>[Xx (Xg s.1),Zy AI (a:Int),Zy AI (b:Int),Zy AI (s.2:Int)]) (λs=>s.1.size=d.size/\s.2<=b+1/\Go.Sort.insOuter Go.Sort.ltInt a b s.2 s.1=Go.Sort.insOuter Go.Sort.ltInt a b (a+1) d) (λs=>b-s.2) (λr=>∃ n m k,r=(.exit 0,[Xx (Xg (Go.Sort.insOuter Go.Sort.ltInt a b (a+1) d)),Zy AI n,Zy AI m,Zy AI k])) (d,a+1) ⟨rfl,by dsimp only;omega,rfl⟩ rfl ?_ ?_
 .rintro⟨e,i⟩ ⟨hs,hi,hr⟩;dsimp only at hs hi hr ⊢;simp only[↓bW,↓cG,↓dx,↓dA];by_cases h:i<b;case neg =>
   rw[ai (by simp;omega)];refine⟨_,rfl,(a:Int),(b:Int),(i:Int),?_⟩;rw[<-hr];unfold Go.Sort.insOuter;rw[Qa0 h]
  rw[ae (by simp;omega)];refine Hq (λs:Array Int×Nat=>[Xx (Xg s.1),Zy AI (a:Int),Zy AI (b:Int),Zy AI (i:Int),Zy AI (s.2:Int)]) (λs=>s.1.size=d.size/\s.2<=i/\Go.Sort.insInner Go.Sort.ltInt a s.2 s.1=Go.Sort.insInner Go.Sort.ltInt a i e) (λs=>s.2) (λr=>∃ k,r=(.exit 2,[Xx (Xg (Go.Sort.insInner Go.Sort.ltInt a i e)),Zy AI (a:Int),Zy AI (b:Int),Zy AI (i:Int),Zy AI k])/\(Go.Sort.insInner Go.Sort.ltInt a i e).size=d.size) (e,i) ⟨hs,Nat.le_refl _,rfl⟩ rfl ?_ ?_
  .rintro⟨f,j⟩ ⟨w,hj,t⟩;dsimp only at w hj t ⊢;simp only[↓bW,↓cG,↓dx,↓dA];have done:Go.Sort.insInner Go.Sort.ltInt a j f=f->∃ y,(Zd (Yu (Yq 2,[Xx (Xg f),Zy AI (a:Int),Zy AI (b:Int),Zy AI (i:Int),Zy AI (j:Int)])):Option (List AV ⊕ (Ex×List AV)))=Zd y/\Cc (λs:Array Int×Nat=>[Xx (Xg s.1),Zy AI (a:Int),Zy AI (b:Int),Zy AI (i:Int),Zy AI (s.2:Int)]) (λs=>s.1.size=d.size/\s.2<=i/\Go.Sort.insInner Go.Sort.ltInt a s.2 s.1=Go.Sort.insInner Go.Sort.ltInt a i e) (λs=>s.2) (λr=>∃ k,r=(.exit 2,[Xx (Xg (Go.Sort.insInner Go.Sort.ltInt a i e)),Zy AI (a:Int),Zy AI (b:Int),Zy AI (i:Int),Zy AI k])/\(Go.Sort.insInner Go.Sort.ltInt a i e).size=d.size) (f,j) y:=λq=>by
    refine⟨_,rfl,j,?_,?_⟩
    .rw[<-t,q]
    .rw[<-t,q];exact w
   by_cases F:j>a;case neg =>
    rw[ai (by simp;omega)];refine done ?_;cases j with
    | zero=>rfl
    | succ j=>simp only[Go.Sort.insInner];rw[Qa0 (by simp;omega)]
   obtain⟨m,rfl⟩:∃ m,j=m+1:=⟨j-1,by omega⟩;have h1:m+1<f.size:=by omega
   have h2:m<f.size:=by omega
   rw[ae (by simp;omega)];simp only[show Zz AI (((m+1:Nat):Int)-1)=(m:Int) from(Wx (by omega) (by omega)).trans (by omega)];rw[Kerb.rd h1,Kerb.rd h2];by_cases fR:f[m+1]! < f[m]!;case neg =>
    rw[ai (by simpa using fR)];refine done ?_;simp only[Go.Sort.insInner];rw[Qa0 (by simp[Go.Sort.ltInt,fR])]
   rw[ae (by simpa using fR),Kerb.sw h1 h2 (λl=>Zd (Yf [Xx l,Zy AI (a:Int),Zy AI (b:Int),Zy AI (i:Int),Zy AI (m:Int)]))];refine⟨_,rfl,(Go.Sort.swp f (m+1) m,m),rfl,⟨by dsimp only;rw[Kerb.swp_size,w],by dsimp only;omega,?_⟩,by dsimp only;omega⟩;dsimp only;rw[<-t];conv=>rhs;simp only[Go.Sort.insInner]
   rw[Qa1 (by simp[Go.Sort.ltInt,fR];omega)]
  .rintro _ ⟨k,rfl,I⟩;simp only[↓bW,↓cG,↓dx,↓dA,↓lP];rw[ae (Zm _),show Zz AI ((i:Int)+1)=((i+1:Nat):Int) from Wx (by omega) (by omega)];refine⟨_,rfl,(Go.Sort.insInner Go.Sort.ltInt a i e,i+1),rfl,⟨I,by dsimp only;omega,?_⟩,by dsimp only;omega⟩;dsimp only;rw[<-hr];conv=>rhs;unfold Go.Sort.insOuter
   rw[Qa1 h]
 .rintro _ ⟨n,m,k,rfl⟩;simp only[↓bW,↓cG,↓dx,↓dA,↓lP];rw[ae (Zm _)]
theorem auJ:Wk 447 3 aet:=by
 refine g8 Tryz.func447 λ_ _ _ h=> ?_;unfold aet at h;split at h;case h_2=>cases h
 rename_i a b els;obtain⟨aI,rfl⟩:=ja h
 refine Fh [0] (Zp (bh (λst=>ar st λx r=>AV.aS x λy=>af AI r λn r=>af AI r λbO r=>az r λb r=>af AI r λdy r=>af AI r λY r=>ak r (aK (Zv (Y<5)) (Zp (bh (λst=>ar st λx r=>AV.aS x λy=>af AI r λn r=>af AI r λu r=>af AI r λk r=>af AI r λF r=>az r λb r=>let t0:Option (List AV ⊕ Ex×List AV):=Zd (Yu (Yq 2,[Xx y,Zy AI n,Zy AI u,Zy AI k,Zy AI F,Zq b]));ak r (aK (Zv (k<u)) (ax (Zv (0<=k)&&Zv (k<(Zw y:Int))&&Zb) (ax (Yz (Zx k) (Zw y)&&Zb) (Xq AT (Zk y (Zx k) Zn) λE=>ax (Zv (0<=Zz AI (k-1))&&Zv (Zz AI (k-1)<(Zw y:Int))&&Zb) (ax (Yz (Zx (Zz AI (k-1))) (Zw y)&&Zb) (Xq AT (Zk y (Zx (Zz AI (k-1))) Zn) λJ=>aK (!Zv (E<J)) (Zd (Yf [Xx y,Zy AI n,Zy AI u,Zy AI (Zz AI (k+1)),Zy AI F,Zq b])) t0))))) t0)) [Xx y,Zy AI n,Zy AI bO,Zy AI dy,Zy AI Y,Zq b]) λ(r:Ex×List AV)=>ar (Yb r) λx eU=>AV.aS x λy=>af AI eU λn Z=>af AI Z λu fH=>af AI fH λk W=>af AI W λF T=>let t1:List AV:=[Zy AI k,Zy AI F];az T λb Q=>ak Q (kJ r.1 (Zd (Yu (Wy,Xx y::Zy AI n::Zy AI u::Zq b::t1))) λj=>aK (Yh j 2) (aK (k==u) (Zd (Yu (Wy,Xx y::Zy AI n::Zy AI u::Zq Zb::t1))) (aK (Zv (Zz AI (u-n)<50)) (Zd (Yu (Wy,Xx y::Zy AI n::Zy AI u::Zq Yk::t1))) (ax (Zv (0<=Zz AI (k-1))&&Zv (Zz AI (k-1)<(Zw y:Int))&&Zb) (ax (Yz (Zx (Zz AI (k-1))) (Zw y)&&Zb) (Xq AT (Zk y (Zx (Zz AI (k-1))) Zn) λE=>let t2:Bool:=Yz (Zx (Zz AI (k-1))) (Zw (Yj y (Zx k) (Zy AT E)));ax (Zv (0<=k)&&Zv (k<(Zw y:Int))&&Zb) (ax (Yz (Zx k) (Zw y)&&Zb) (Xq AT (Zk y (Zx k) Zn) λJ=>let t3:AV:=Xx (Yj (Yj y (Zx k) (Zy AT E)) (Zx (Zz AI (k-1))) (Zy AT J));ax (Zv (0<=k)&&Zv (k<(Zw y:Int))&&Zb) (ax (Yz (Zx k) (Zw y)&&Zb) (Xq AT (Zk y (Zx k) Zn) λpK=>ax (Zw [Zy AT E]==nat_lit 1&&Zb&&Zb&&Zb&&Yz (Zx k) (Zw y)) (ax (Zv (0<=Zz AI (k-1))&&Zv (Zz AI (k-1)<(↑(Zw (Yj y (Zx k) (Zy AT E))):Int))&&Zb) (ax (t2&&Zb) (Xq AT (Zk (Yj y (Zx k) (Zy AT E)) (Zx (Zz AI (k-1))) Zn) λqE=>ax (Zw [Zy AT J]==nat_lit 1&&Zb&&Zb&&Zb&&t2) (aK (Zv (Zz AI (k-n)>=2)) (Zp (bh (λst=>ar st λx r=>AV.aS x λy=>af AI r λn r=>af AI r λt r=>af AI r λq r=>af AI r λv r=>af AI r λc r=>let t4:Bool:=Zv (0<=c)&&Zv (c<(Zw y:Int))&&Zb;let t5:Bool:=Zv (0<=Zz AI (c-1))&&Zv (Zz AI (c-1)<(Zw y:Int))&&Zb;az r λb r=>let t6:Option (List AV ⊕ Ex×List AV):=Zd (Yu (Yq 4,[Xx y,Zy AI n,Zy AI t,Zy AI q,Zy AI v,Zy AI c,Zq b]));ak r (aK (Zv (c>=1)) (ax t4 (ax (Yz (Zx c) (Zw y)&&Zb) (Xq AT (Zk y (Zx c) Zn) λw=>ax t5 (ax (Yz (Zx (Zz AI (c-1))) (Zw y)&&Zb) (Xq AT (Zk y (Zx (Zz AI (c-1))) Zn) λz=>aK (!Zv (w<z)) t6 (ax t5 (ax (Yz (Zx (Zz AI (c-1))) (Zw y)&&Zb) (Xq AT (Zk y (Zx (Zz AI (c-1))) Zn) λp=>let t7:Bool:=Yz (Zx (Zz AI (c-1))) (Zw (Yj y (Zx c) (Zy AT p)));ax t4 (ax (Yz (Zx c) (Zw y)&&Zb) (Xq AT (Zk y (Zx c) Zn) λo=>ax t4 (ax (Yz (Zx c) (Zw y)&&Zb) (Xq AT (Zk y (Zx c) Zn) λL=>ax (Zw [Zy AT p]==nat_lit 1&&Zb&&Zb&&Zb&&Yz (Zx c) (Zw y)) (ax (Zv (0<=Zz AI (c-1))&&Zv (Zz AI (c-1)<(↑(Zw (Yj y (Zx c) (Zy AT p))):Int))&&Zb) (ax (t7&&Zb) (Xq AT (Zk (Yj y (Zx c) (Zy AT p)) (Zx (Zz AI (c-1))) Zn) λK=>ax (Zw [Zy AT o]==nat_lit 1&&Zb&&Zb&&Zb&&t7) (Zd (Yf [Xx (Yj (Yj y (Zx c) (Zy AT p)) (Zx (Zz AI (c-1))) (Zy AT o)),Zy AI n,Zy AI t,Zy AI q,Zy AI v,Zy AI (Zz AI (c-1)),Zq b]))))))))))))))))) t6)) [t3,Zy AI n,Zy AI u,Zy AI k,Zy AI F,Zy AI (Zz AI (k-1)),Zq b]) λ(r:Ex×List AV)=>ar (Yb r) λx P=>AV.aS x λy=>af AI P λn N=>af AI N λt M=>af AI M λq X=>af AI X λv S=>af AI S λc R=>az R λb O=>ak O (kJ r.1 (Zd (Yu (Wy,[Xx y,Zy AI n,Zy AI t,Zq b,Zy AI q,Zy AI v]))) λj=>aK (Yh j 4) (aK (Zv (Zz AI (t-q)>=2)) (Zp (bh (λst=>ar st λx r=>AV.aS x λy=>af AI r λn r=>af AI r λw r=>af AI r λz r=>af AI r λp r=>af AI r λo r=>let t8:Bool:=Zv (0<=o)&&Zv (o<(Zw y:Int))&&Zb;let t9:Bool:=Zv (0<=Zz AI (o-1))&&Zv (Zz AI (o-1)<(Zw y:Int))&&Zb;az r λb r=>let t10:Option (List AV ⊕ Ex×List AV):=Zd (Yu (Yq 6,[Xx y,Zy AI n,Zy AI w,Zy AI z,Zy AI p,Zy AI o,Zq b]));ak r (aK (Zv (o<w)) (ax t8 (ax (Yz (Zx o) (Zw y)&&Zb) (Xq AT (Zk y (Zx o) Zn) λL=>ax t9 (ax (Yz (Zx (Zz AI (o-1))) (Zw y)&&Zb) (Xq AT (Zk y (Zx (Zz AI (o-1))) Zn) λK=>aK (!Zv (L<K)) t10 (ax t9 (ax (Yz (Zx (Zz AI (o-1))) (Zw y)&&Zb) (Xq AT (Zk y (Zx (Zz AI (o-1))) Zn) λG=>let t11:Bool:=Yz (Zx (Zz AI (o-1))) (Zw (Yj y (Zx o) (Zy AT G)));ax t8 (ax (Yz (Zx o) (Zw y)&&Zb) (Xq AT (Zk y (Zx o) Zn) λwL=>ax t8 (ax (Yz (Zx o) (Zw y)&&Zb) (Xq AT (Zk y (Zx o) Zn) λTd=>ax (Zw [Zy AT G]==nat_lit 1&&Zb&&Zb&&Zb&&Yz (Zx o) (Zw y)) (ax (Zv (0<=Zz AI (o-1))&&Zv (Zz AI (o-1)<(↑(Zw (Yj y (Zx o) (Zy AT G))):Int))&&Zb) (ax (t11&&Zb) (Xq AT (Zk (Yj y (Zx o) (Zy AT G)) (Zx (Zz AI (o-1))) Zn) λTe=>ax (Zw [Zy AT wL]==nat_lit 1&&Zb&&Zb&&Zb&&t11) (Zd (Yf [Xx (Yj (Yj y (Zx o) (Zy AT G)) (Zx (Zz AI (o-1))) (Zy AT wL)),Zy AI n,Zy AI w,Zy AI z,Zy AI p,Zy AI (Zz AI (o+1)),Zq b]))))))))))))))))) t10)) [Xx y,Zy AI n,Zy AI t,Zy AI q,Zy AI v,Zy AI (Zz AI (q+1)),Zq b]) λ(r:Ex×List AV)=>ar (Yb r) λx ns=>AV.aS x λy=>af AI ns λn nt=>af AI nt λw nu=>af AI nu λz rQ=>af AI rQ λp rR=>af AI rR λo rS=>az rS λb rT=>ak rT (kJ r.1 (Zd (Yu (Wy,[Xx y,Zy AI n,Zy AI w,Zq b,Zy AI z,Zy AI p]))) λj=>aK (Yh j 6) (Zd (Yf [Xx y,Zy AI n,Zy AI w,Zq b,Zy AI z,Zy AI (Zz AI (p+1))])) Wd)) (Zd (Yf [Xx y,Zy AI n,Zy AI t,Zq b,Zy AI q,Zy AI (Zz AI (v+1))]))) Wd)) (aK (Zv (Zz AI (u-k)>=2)) (Zp (bh (λst=>ar st λx r=>AV.aS x λy=>af AI r λn r=>af AI r λt r=>af AI r λq r=>af AI r λv r=>af AI r λc r=>let t12:Bool:=Zv (0<=c)&&Zv (c<(Zw y:Int))&&Zb;let t13:Bool:=Zv (0<=Zz AI (c-1))&&Zv (Zz AI (c-1)<(Zw y:Int))&&Zb;az r λb r=>let t14:Option (List AV ⊕ Ex×List AV):=Zd (Yu (Yq 6,[Xx y,Zy AI n,Zy AI t,Zy AI q,Zy AI v,Zy AI c,Zq b]));ak r (aK (Zv (c<t)) (ax t12 (ax (Yz (Zx c) (Zw y)&&Zb) (Xq AT (Zk y (Zx c) Zn) λw=>ax t13 (ax (Yz (Zx (Zz AI (c-1))) (Zw y)&&Zb) (Xq AT (Zk y (Zx (Zz AI (c-1))) Zn) λz=>aK (!Zv (w<z)) t14 (ax t13 (ax (Yz (Zx (Zz AI (c-1))) (Zw y)&&Zb) (Xq AT (Zk y (Zx (Zz AI (c-1))) Zn) λp=>let t15:Bool:=Yz (Zx (Zz AI (c-1))) (Zw (Yj y (Zx c) (Zy AT p)));ax t12 (ax (Yz (Zx c) (Zw y)&&Zb) (Xq AT (Zk y (Zx c) Zn) λo=>ax t12 (ax (Yz (Zx c) (Zw y)&&Zb) (Xq AT (Zk y (Zx c) Zn) λL=>ax (Zw [Zy AT p]==nat_lit 1&&Zb&&Zb&&Zb&&Yz (Zx c) (Zw y)) (ax (Zv (0<=Zz AI (c-1))&&Zv (Zz AI (c-1)<(↑(Zw (Yj y (Zx c) (Zy AT p))):Int))&&Zb) (ax (t15&&Zb) (Xq AT (Zk (Yj y (Zx c) (Zy AT p)) (Zx (Zz AI (c-1))) Zn) λK=>ax (Zw [Zy AT o]==nat_lit 1&&Zb&&Zb&&Zb&&t15) (Zd (Yf [Xx (Yj (Yj y (Zx c) (Zy AT p)) (Zx (Zz AI (c-1))) (Zy AT o)),Zy AI n,Zy AI t,Zy AI q,Zy AI v,Zy AI (Zz AI (c+1)),Zq b]))))))))))))))))) t14)) [t3,Zy AI n,Zy AI u,Zy AI k,Zy AI F,Zy AI (Zz AI (k+1)),Zq b]) λ(r:Ex×List AV)=>ar (Yb r) λx P=>AV.aS x λy=>af AI P λn N=>af AI N λt M=>af AI M λq X=>af AI X λv S=>af AI S λc R=>az R λb O=>ak O (kJ r.1 (Zd (Yu (Wy,[Xx y,Zy AI n,Zy AI t,Zq b,Zy AI q,Zy AI v]))) λj=>aK (Yh j 6) (Zd (Yf [Xx y,Zy AI n,Zy AI t,Zq b,Zy AI q,Zy AI (Zz AI (v+1))])) Wd)) (Zd (Yf [t3,Zy AI n,Zy AI u,Zq b,Zy AI k,Zy AI (Zz AI (F+1))])))))))))))))))) Wd)) (Zd (Yu (Yq 0,[Xx y,Zy AI n,Zy AI bO,Zq b,Zy AI dy,Zy AI Y]))))) [Xx els,Zy AI a,Zy AI b,Zq Yk,Zy AI (Zz AI (a+1)),Zy AI 0]) λ(r:Ex×List AV)=>ar (Yb r) λx eU=>AV.aS x λy=>af AI eU λn Z=>af AI Z λn fH=>az fH λb W=>af AI W λn T=>af AI T λn Q=>ak Q (kJ r.1 (Zd (Zq b,[y])) λj=>aK (Yh j 0) (Zd (Zq Yk,[y])) Wd)) ?_
 try dsimp only[bg,dg,az,lR,af,eg,jM]
 simp only[Zf,Qa2] at aI;obtain⟨⟨⟨⟨⟨hZ,hlen⟩,Lj⟩,yl⟩,hb⟩,fR⟩:=aI;obtain⟨d,rfl,hd⟩:=Kerb.nr hZ;simp only[Kerb.aU] at hlen hb;obtain⟨a,rfl⟩:=Xz (show 0<=a by omega);obtain⟨b,rfl⟩:=Xz (show 0<=b by omega);simp only[Kerb.zC,Kerb.fw,Yy];unfold Go.Sort.partialInsertionSort;rw[show Zz AI ((a:Int)+1)=((a+1:Nat):Int) from(Wx (by omega) (by omega)).trans (by omega)];refine bS (λs:Array Int×Nat×Nat=>[Xx (Xg s.1),Zy AI (a:Int),Zy AI (b:Int),Zq Yk,Zy AI (s.2.1:Int),Zy AI (s.2.2:Int)]) (λs=>s.1.size=d.size/\a+1<=s.2.1/\s.2.1<=b/\s.2.2<=5/\Go.Sort.partialIns Go.Sort.ltInt a b (5-s.2.2) s.2.1 s.1=Go.Sort.partialIns Go.Sort.ltInt a b 5 (a+1) d) (λs=>5-s.2.2) (λr=>∃ i n,(r.1 = .ret\/r.1 = .exit 0/\(Go.Sort.partialIns Go.Sort.ltInt a b 5 (a+1) d).2=Yk)/\r.2=[Xx (Xg (Go.Sort.partialIns Go.Sort.ltInt a b 5 (a+1) d).1),Zy AI (a:Int),Zy AI (b:Int),Zq (Go.Sort.partialIns Go.Sort.ltInt a b 5 (a+1) d).2,Zy AI i,Zy AI n]) (d,a+1,0) ⟨rfl,by dsimp only;omega,by dsimp only;omega,by dsimp only;omega,rfl⟩ rfl ?_ ?_
 .rintro⟨e,i,s⟩ ⟨hs,hi,Ys,U,hr⟩;dsimp only at hs hi Ys U hr ⊢;simp only[↓bW,↓cG,↓dx,↓dP,↓dA];by_cases h5:s<5;case neg =>
   rw[ai (by simp;omega)];rw[show 5-s=0 by omega] at hr;refine⟨_,rfl,(i:Int),(s:Int),.inr ⟨rfl,?_⟩,?_⟩
   .rw[<-hr];rfl
   .rw[<-hr];rfl
  rw[ae (by simp;omega)];rw[show 5-s=(5-(s+1))+1 by omega,Go.Sort.partialIns_succ] at hr;rw[Kerb.HT (by omega) (by omega) _ i rfl (by omega) Ys];have hl:=Kerb.EN (lt:=Go.Sort.ltInt) (d:=e) (b:=b) _ i rfl Ys;generalize Go.Sort.scanSorted Go.Sort.ltInt e b i=j at hl hr ⊢;simp only[↓gu];simp only[↓bW,↓cG,↓dx,↓dP,↓dA,↓lP];rw[ae (Zm _)];by_cases HM:j=b
  .rw[Qa1 HM] at hr;rw[ae (by simp;omega)];refine⟨_,rfl,(j:Int),(s:Int),.inl rfl,?_⟩;rw[<-hr]
  rw[Qa0 HM] at hr;rw[ai (by simp;omega),show Zz AI ((b:Int)-(a:Int))=((b-a:Nat):Int) from(Wx (by omega) (by omega)).trans (by omega)];by_cases Ky:b-a<50
  .rw[Qa1 Ky] at hr;rw[ae (by simp;omega)];refine⟨_,rfl,(j:Int),(s:Int),.inl rfl,?_⟩;rw[<-hr]
  rw[Qa0 Ky] at hr;rw[ai (by simp;omega)];have g1:j<e.size:=by omega
  have g2:j-1<e.size:=by omega
  simp only[show Zz AI ((j:Int)-1)=((j-1:Nat):Int) from(Wx (by omega) (by omega)).trans (by omega),show Zz AI ((j:Int)-(a:Int))=((j-a:Nat):Int) from(Wx (by omega) (by omega)).trans (by omega)];rw[Kerb.rd g2,Kerb.rd g1,Kerb.wr g1 (by simp[Kerb.aU];omega),Kerb.dq,Kerb.wr (by rw[Array.size_setIfInBounds];exact g2) (by simp[Kerb.aU];omega),Kerb.dq,show(Array.setIfInBounds (Array.setIfInBounds e j e[j-1]!) (j-1) e[j]!)=Go.Sort.swp e j (j-1) from rfl];have hz:(Go.Sort.swp e j (j-1)).size=d.size:=by rw[Kerb.swp_size,hs]
  generalize Go.Sort.swp e j (j-1)=f at hz hr ⊢;have fin:∀ g:Array Int,g.size=d.size->Go.Sort.fixUp Go.Sort.ltInt b j (Go.Sort.fixDown Go.Sort.ltInt a j f)=g->∃ y,Zd (Yf [Xx (Xg g),Zy AI (a:Int),Zy AI (b:Int),Zq Yk,Zy AI (j:Int),Zy AI (Zz AI ((s:Int)+1))])=Zd y/\Cc (ρ:=Ex×List AV) (λs:Array Int×Nat×Nat=>[Xx (Xg s.1),Zy AI (a:Int),Zy AI (b:Int),Zq Yk,Zy AI (s.2.1:Int),Zy AI (s.2.2:Int)]) (λs=>s.1.size=d.size/\a+1<=s.2.1/\s.2.1<=b/\s.2.2<=5/\Go.Sort.partialIns Go.Sort.ltInt a b (5-s.2.2) s.2.1 s.1=Go.Sort.partialIns Go.Sort.ltInt a b 5 (a+1) d) (λs=>5-s.2.2) (λr=>∃ i n,(r.1 = .ret\/r.1 = .exit 0/\(Go.Sort.partialIns Go.Sort.ltInt a b 5 (a+1) d).2=Yk)/\r.2=[Xx (Xg (Go.Sort.partialIns Go.Sort.ltInt a b 5 (a+1) d).1),Zy AI (a:Int),Zy AI (b:Int),Zq (Go.Sort.partialIns Go.Sort.ltInt a b 5 (a+1) d).2,Zy AI i,Zy AI n]) (e,i,s) y:=λg V hf=>by
   rw[show Zz AI ((s:Int)+1)=((s+1:Nat):Int) from(Wx (by omega) (by omega)).trans (by omega)];refine⟨_,rfl,(g,j,s+1),rfl,⟨V,by dsimp only;omega,by dsimp only;omega,by dsimp only;omega,?_⟩,by dsimp only;omega⟩;dsimp only;rw[<-hr,hf]
  have H:∀ g:Array Int,Zz AI ((b:Int)-(j:Int))=((b-j:Nat):Int):=λ_=>(Wx (by omega) (by omega)).trans (by omega);simp only[H f,show Zz AI ((j:Int)+1)=((j+1:Nat):Int) from(Wx (by omega) (by omega)).trans (by omega)];have up:∀ g:Array Int,g.size=d.size->Go.Sort.fixDown Go.Sort.ltInt a j f=g->b-j>=2->Go.Sort.fixUp Go.Sort.ltInt b j (Go.Sort.fixDown Go.Sort.ltInt a j f)=Go.Sort.shiftUp Go.Sort.ltInt b (j+1) g/\(Go.Sort.shiftUp Go.Sort.ltInt b (j+1) g).size=d.size:=λg V hf h=>⟨by rw[hf];unfold Go.Sort.fixUp;rw[Qa1 h],by rw[Kerb.zN _ _ _ rfl,V]⟩;by_cases Va:j-a>=2
  .rw[ae (by simp;omega)];obtain⟨m,hm⟩:=Kerb.Ku (A:=(a:Int)) (B:=(b:Int)) (I:=(j:Int)) (s:=(s:Int)) (bb:=Yk) (e:=4) (j-1) f (by omega) (by omega);rw[hm];have NW:(Go.Sort.shiftDown Go.Sort.ltInt (j-1) f).size=d.size:=by rw[Kerb.vM,hz]
   have C:Go.Sort.fixDown Go.Sort.ltInt a j f=Go.Sort.shiftDown Go.Sort.ltInt (j-1) f:=by unfold Go.Sort.fixDown;rw[Qa1 Va]
   generalize Go.Sort.shiftDown Go.Sort.ltInt (j-1) f=g at NW C ⊢;simp only[↓gu];simp only[↓bW,↓cG,↓dx,↓dP,↓dA,↓lP];rw[ae (Zm _)];simp only[H g,show Zz AI ((j:Int)+1)=((j+1:Nat):Int) from(Wx (by omega) (by omega)).trans (by omega)];by_cases D:b-j>=2
   .rw[ae (by simp;omega)];obtain⟨m,hm⟩:=Kerb.FW (A:=(a:Int)) (I:=(j:Int)) (s:=(s:Int)) (bb:=Yk) (b:=b) (e:=6) _ (j+1) g rfl (by omega) (by omega) (by omega) (by omega);rw[hm];simp only[↓gu];simp only[↓bW,↓cG,↓dx,↓dP,↓dA,↓lP];rw[ae (Zm _)];exact fin _ (up g NW C D).2 (up g NW C D).1
   .rw[ai (by simp;omega)];exact fin _ NW (by rw[C];unfold Go.Sort.fixUp;rw[Qa0 D])
  .rw[ai (by simp;omega)];have C:Go.Sort.fixDown Go.Sort.ltInt a j f=f:=by unfold Go.Sort.fixDown;rw[Qa0 Va]
   by_cases D:b-j>=2
   .rw[ae (by simp;omega)];obtain⟨m,hm⟩:=Kerb.FW (A:=(a:Int)) (I:=(j:Int)) (s:=(s:Int)) (bb:=Yk) (b:=b) (e:=6) _ (j+1) f rfl (by omega) (by omega) (by omega) (by omega);rw[hm];simp only[↓gu];simp only[↓bW,↓cG,↓dx,↓dP,↓dA,↓lP];rw[ae (Zm _)];exact fin _ (up f hz C D).2 (up f hz C D).1
   .rw[ai (by simp;omega)];exact fin _ hz (by rw[C];unfold Go.Sort.fixUp;rw[Qa0 D])
 .rintro⟨x,l⟩ ⟨i,n,h | ⟨h,hf⟩,rfl⟩
  .dsimp only at h;subst h;simp only[↓bW,↓cG,↓dx,↓dP,↓dA,↓Xc]
  .dsimp only at h;subst h;simp only[↓bW,↓cG,↓dx,↓dP,↓dA,↓lP];rw[ae (Zm _),hf]
end Go.Proofs.YtledffmjoegdeaaGreat
