/- What the functions of this seat compute. -/
import Derived.Test.YteafbgcimcpfiaaGreatTab
set_option linter.all false
open Go.IntKind renaming i64->AI,u64->AT
open Go.IntKind renaming wrap->Zz,i64->Zj,bits->Zk,u64->Ym
open Go.Abs.AV renaming int->Zy,bool->Zv,str->Zp,bs->Zb,aQ->Yw,sl->Yv,bY->Xy,undef->Xq
open List renaming length->Zx,getD->Zn,take_of_length_le->Yj,drop->Xj,take->Xk,replicate->Xf,drop_eq_nil_of_le->Ww
open Int renaming toNat->Zw,toNat_natCast->Yy,tmod->Yx,tmod_eq_emod_of_nonneg->Yg,fdiv->Xu,tdiv_eq_ediv_of_nonneg->Wz,eq_ofNat_of_zero_le->Wx,tdiv->Wv
open Decidable renaming decide->Zu
open Option renaming bind->Zq,some->Zd,none->Wp
open Bool renaming and_eq_true->Zf,false->Yz,not_true->Yu,true->Yp,and_self->Yh,and_true->Xd
open UInt8 renaming toNat->Zg,ofNat->Zh
open Kerb renaming within->Zm,bK->Yk,ai->Yb,cF->Xx,isKind->Xw,room->Xg,header->Xn,vP->Xh,cU->Wu,indexOf->Wq,Ht->Wj
open Go.Abs.Ex renaming exit->Yq
open Sum renaming inr->Yd,inl->Xz
open Nat renaming beq_refl->Yf,beq->Xv,zero_le->Xm,blt->Wy
open Prod renaming snd->Yn
open Kerb.Client renaming av->Xp
open Kerb.Cache renaming av->Xb
namespace Go.Proofs.YteafbgcimcpfiaaGreat
open Go Go.Abs Go.Proofs
set_option maxRecDepth 100000
theorem w10:Wk 10 1 QO:=by
 refine cw Tryz.func10 λ_ _ _ h=> ?_;unfold QO at h;split at h;case h_2=>cases h
 rename_i bs cs;obtain⟨ay,rfl⟩:=dg h;refine c6 (aE (!(Zx bs:Int)==(Zx cs:Int)) (Zd (Zv Yz,[])) (Zq (bD (λst=>bH 1 st λb r=>bH 1 r λbW r=>aq r λeg r=>ag AI r λn r=>ak r (aE (Zu (n<(Zx b:Int))) (aB (Zu (0<=n)&&Zu (n<(Zx b:Int))&&Yp) (AV.cS (Zn b (Zw n) Xq) λeG=>aB (Zu (0<=n)&&Zu (n<(Zx bW:Int))&&Yp) (AV.cS (Zn bW (Zw n) Xq) λfG=>aE (!eG==fG) (Zd (Yd (Ex.ret,[Yv 1 b,Yv 1 bW,Zv Yz,Zy AI n]))) (Zd (Xz [Yv 1 b,Yv 1 bW,Zv eg,Zy AI (Zz AI (n+1))]))))) (Zd (Yd (Yq 0,[Yv 1 b,Yv 1 bW,Zv eg,Zy AI n]))))) [Yv 1 bs,Yv 1 cs,Zv Yz,Zy AI 0]) λ(r:Ex×List AV)=>bH 1 (Yn r) λb dj=>bH 1 dj λb dr=>aq dr λb dH=>ag AI dH λn eK=>ak eK (jl r.1 (Zd (Zv b,[])) λj=>aE (Xv j 0) (Zd (Zv Yp,[])) Wp))) ?_;dsimp only[aq,ag,bH];simp only[Zf,Qa2] at ay;obtain⟨⟨h1,h2⟩,hn⟩:=ay;obtain⟨l,rfl⟩:=Kerb.F5 h1;obtain⟨m,rfl⟩:=Kerb.F5 h2;rw[Kerb.cG] at hn;rw[Kerb.hJ,Kerb.hJ,Kerb.cG,Kerb.cG];by_cases hlen:l.length=m.length;case neg =>
  have ii:(l==m)=Yz:=by
   cases he:l==m with
   | true=>exact absurd (Qb5 Zx (Qb0 he)) hlen
   | false=>rfl
  rw[af (by simp;omega),ii]
 rw[ah (by simp;omega)];have e:=Kerb.OT [] hlen;refine Qb3 (Kerb.jn (A:=(.bool Yz,[])) (B:=(.bool Yp,[])) (λi=>[.sl 1 (Kerb.bF l),.sl 1 (Kerb.bF m),.bool Yz,.int AI (i:Int)]) l.length (λi => !(l.getD i []==m.getD i [])) ?_ ?_ ?_ rfl) (by rw[e];cases l==m<;>rfl)
 .intro i hi hp;have jz:i<m.length:=by omega
  try dsimp only at hp ⊢
  simp only[↓A0,A0,Wj,Kerb.XL hi,Kerb.XL jz,Kerb.MY hi,Kerb.MY jz,Yh,Xd,Kerb.yS (show i<=1000000000 by omega),hp]
 .intro i hi hp;have jz:i<m.length:=by omega
  try dsimp only at hp ⊢
  refine⟨(.ret,[.sl 1 (Kerb.bF l),.sl 1 (Kerb.bF m),.bool Yz,.int AI (i:Int)]),?_,?_⟩;case refine_2=>rfl
  simp only[↓A0,A0,Wj,Kerb.XL hi,Kerb.XL jz,Kerb.MY hi,Kerb.MY jz,Yh,Xd,hp]
 .refine⟨(.exit 0,[.sl 1 (Kerb.bF l),.sl 1 (Kerb.bF m),.bool Yz,.int AI (l.length:Int)]),?_,?_⟩;case refine_2=>rfl
  try dsimp only
  simp only[↓A0,A0,Kerb.Tp]
theorem w17:Wk 17 1 Q0:=by
 refine cw Tryz.func17 λ_ _ _ h=> ?_;unfold Q0 at h;split at h;case h_2=>cases h
 rename_i ks ls;obtain⟨ay,rfl⟩:=dg h;refine c6 (aE (!(Zx ks:Int)==(Zx ls:Int)) (Zd (Zv Yz,[])) (Zq (bD (λst=>bH 1 st λb r=>bH 1 r λbW r=>aq r λeg r=>ag AI r λn r=>ak r (aE (Zu (n<(Zx b:Int))) (aB (Zu (0<=n)&&Zu (n<(Zx b:Int))&&Yp) (AV.aw AT (Zn b (Zw n) Xq) λbf=>aB (Zu (0<=n)&&Zu (n<(Zx bW:Int))&&Yp) (AV.aw AT (Zn bW (Zw n) Xq) λbL=>aE (!bf==bL) (Zd (Yd (Ex.ret,[Yv 1 b,Yv 1 bW,Zv Yz,Zy AI n]))) (Zd (Xz [Yv 1 b,Yv 1 bW,Zv eg,Zy AI (Zz AI (n+1))]))))) (Zd (Yd (Yq 0,[Yv 1 b,Yv 1 bW,Zv eg,Zy AI n]))))) [Yv 1 ks,Yv 1 ls,Zv Yz,Zy AI 0]) λ(r:Ex×List AV)=>bH 1 (Yn r) λb dj=>bH 1 dj λb dr=>aq dr λb dH=>ag AI dH λn eK=>ak eK (jl r.1 (Zd (Zv b,[])) λj=>aE (Xv j 0) (Zd (Zv Yp,[])) Wp))) ?_;dsimp only[aq,ag,bH];simp only[Zf,Qa2] at ay;obtain⟨⟨h1,h2⟩,hn⟩:=ay;obtain⟨l,rfl⟩:=Kerb.wR h1;obtain⟨m,rfl⟩:=Kerb.wR h2;rw[Wu] at hn;rw[Kerb.gX,Kerb.gX,Wu,Wu];by_cases hlen:l.length=m.length;case neg =>
  have ii:(l==m)=Yz:=by
   cases he:l==m with
   | true=>exact absurd (Qb5 Zx (Qb0 he)) hlen
   | false=>rfl
  rw[af (by simp;omega),ii]
 rw[ah (by simp;omega)];have e:=Kerb.OT 0 hlen;refine Qb3 (Kerb.jn (A:=(.bool Yz,[])) (B:=(.bool Yp,[])) (λi=>[.sl 1 (Yk l),.sl 1 (Yk m),.bool Yz,.int AI (i:Int)]) l.length (λi => !(l.getD i 0==m.getD i 0)) ?_ ?_ ?_ rfl) (by rw[e];cases l==m<;>rfl)
 .intro i hi hp;have jz:i<m.length:=by omega
  try dsimp only at hp ⊢
  simp only[↓A0,A0,Wj,Kerb.Sy hi,Kerb.Sy jz,Kerb.Dp hi,Kerb.Dp jz,Yh,Xd,Kerb.yS (show i<=1000000000 by omega),hp]
 .intro i hi hp;have jz:i<m.length:=by omega
  try dsimp only at hp ⊢
  refine⟨(.ret,[.sl 1 (Yk l),.sl 1 (Yk m),.bool Yz,.int AI (i:Int)]),?_,?_⟩;case refine_2=>rfl
  simp only[↓A0,A0,Wj,Kerb.Sy hi,Kerb.Sy jz,Kerb.Dp hi,Kerb.Dp jz,Yh,Xd,hp]
 .refine⟨(.exit 0,[.sl 1 (Yk l),.sl 1 (Yk m),.bool Yz,.int AI (l.length:Int)]),?_,?_⟩;case refine_2=>rfl
  try dsimp only
  simp only[↓A0,A0,Kerb.V_]
theorem w21:Wk 21 1 Lb:=by
 refine cw Tryz.func21 λ_ _ _ h=> ?_;unfold Lb at h;split at h;case h_2=>cases h
 rename_i n;obtain⟨ay,rfl⟩:=dg h;refine c6 (Zd (Zy AT (Zz AT (↑(BitVec.toNat (BitVec.ofInt (Zk AT) 144115188075855872 ||| BitVec.ofInt (Zk AT) (Zz AT (Zz AI (1+n))))):Int)),[])) ?_;rfl
theorem w24:Wk 24 1 Rs:=by
 refine cw Tryz.func24 λ_ _ _ h=> ?_;unfold Rs at h;split at h;case h_2=>cases h
 rename_i n;obtain⟨ay,rfl⟩:=dg h;refine c6 (Zd (Zy AT (Zz AT (↑(BitVec.toNat (BitVec.ofInt (Zk AT) 72057594037927936 ||| BitVec.ofInt (Zk AT) (Zz AT (Zz AI (1+n))))):Int)),[])) ?_;rfl
theorem w46:Wk 46 1 Li:=by
 refine cw Tryz.func46 λ_ _ _ h=> ?_;unfold Li at h;split at h;case h_2=>cases h
 rename_i b how;obtain⟨ay,rfl⟩:=dg h;refine c6 (let t0:Int:=Yx (Zz AI (Zz .u16 (Wv how 8))) (Zx b:Int);aB (room (Zx b) 1) (aE ((Zx b:Int)==0) (Zd (Zb b,[])) (aB (!(Zx b:Int)==0) (aE (Yx how 4==0) (aB (Zu (0<=t0)&&Zu (t0<(Zx b:Int))) (aB (Wy (Zw t0) (Zx b)&&Yp&&Yp&&Yp) (aB (Zu (0<=Zz AT (Yx how 7))) (aB (Zu (0<=t0)&&Zu (t0<(Zx b:Int))) (aB (Wy (Zw t0) (Zx b)&&Yp&&Yp&&Yp&&Yp) (Zd (Zb (List.set b (Zw t0) (Zh (Zw (Zz .u8 (↑(BitVec.toNat (BitVec.ofInt (Zk .u8) (↑(Zg (Zn b (Zw t0) (0:UInt8))):Int) ^^^ BitVec.ofInt (Zk .u8) (↑(Zg (Zh (Zw (Zz .u8 ((↑(Zg (1:UInt8)):Int)*2 ^ min (Zw (Zz AT (Yx how 7))) 8))))):Int))):Int))))),[]))))))) (aE (Yx how 4==1) (aB (Zu (0<=t0)&&Zu (t0<=(Zx b:Int))&&Wy 0 (Zx b)&&Yp) (aB (Zu (0<=Zz AI (t0+1))&&Zu (Zz AI (t0+1)<=(Zx b:Int))&&Wy 0 (Zx b)&&Yp) (aB (Wy 0 (Zx b)&&Yp&&Yp&&Yp&&room (Zw t0+(Zx b-Zw (Zz AI (t0+1)))) 1) (Zd (Zb (Xk (Zw t0) b++Xj (Zw (Zz AI (t0+1))) b),[]))))) (aE (Yx how 4==2) (aB (room (Zx b+Zx [Zh (Zw (Zz .u8 how))]) 1) (Zd (Zb (b++[Zh (Zw (Zz .u8 how))]),[]))) (Zd (Zb b,[])))))))) ?_;try dsimp only[aI,aW,aq,cO,ag,bH,dc]
 simp only[Zf,Qa2] at ay;obtain⟨⟨hb,h0⟩,h1⟩:=ay;rw[ae (Xx (by omega))];unfold Kerb.tD;by_cases hn:b=[]
 .subst hn;rfl
 have kU:0<b.length:=List.length_pos_iff.2 hn;rw[Qa0 hn,ah (by simp;omega),ae (by simp;omega)];have e:Yx (Zz Zj (Zz IntKind.u16 (Wv how (8:Int)))) (b.length:Int)=Kerb.px b how:=rfl;rw[e];obtain⟨ha,hc⟩:=Kerb.Lm h0 h1 kU;generalize Kerb.px b how=a at ha hc ⊢;have hd:(Zu ((0:Int)<=a)&&Zu (a<(b.length:Int)))=Yp:=by simp;omega
 have wD:Wy a.toNat b.length=Yp:=Nat.ble_eq_true_of_le (by omega);have U':Wy 0 b.length=Yp:=Nat.ble_eq_true_of_le (by omega);have h7:Zu ((0:Int)<=Zz Ym (Yx how (7:Int)))=Yp:=by rw[Kerb.wrap_u64];simp;omega
 by_cases c0:Yx how 4=0
 .rw[Qa1 c0,af (by simpa using c0),ae hd,ae (by rw[wD];rfl),ae h7,ae hd,ae (by rw[wD];rfl)]
 rw[Qa0 c0,ah (by simpa using c0)];by_cases c1:Yx how 4=1
 .rw[Qa1 c1,af (by simpa using c1),wrap_i64 (n:=a+1) (by omega) (by omega),ae (by rw[U'];simp;omega),ae (by rw[U'];simp;omega),ae (by rw[U',Xx (by omega)];rfl)]
 rw[Qa0 c1,ah (by simpa using c1)];by_cases c2:Yx how 4=2
 .rw[Qa1 c2,af (by simpa using c2),ae (Xx (by simp;omega))]
 .rw[Qa0 c2,ah (by simpa using c2)]
theorem w89:Wk 89 1 zP:=by
 refine cw Tryz.func89 λ_ _ _ h=> ?_;unfold zP at h;split at h;case h_2=>cases h
 rename_i n l pos;obtain⟨ay,rfl⟩:=dg h;refine tK [0] (aE (Zu (pos>=(Zx l:Int))) (Zd (Zy AI 0,[[Zb l,Zy AI pos]])) (aE (Zu (n<=0)) (Zd (Zy AI 0,[[Zb l,Zy AI pos]])) (aB (Zu (0<=pos)&&Zu (pos<(Zx l:Int))) (aB (!n==0) (Zd (Zy AI (Yx (Zz AI (↑(Zg (Zn l (Zw pos) (0:UInt8))):Int)) n),[[Zb l,Zy AI (Zz AI (pos+1))]])))))) ?_;simp only[Zf,Qa2] at ay;unfold Kerb.next Kerb.dS;by_cases h1:(l.length:Int)<=pos
 .simp[aE,h1];omega
 by_cases h2:n<=0
 .simp[aE,h1,h2];omega
 have h3:¬ n=0:=by omega
 have hb:=(l.getD pos.toNat 0).toNat_lt;rw[ah (by simp;omega),ah (by simp;omega),ae (by simp;omega),ae (by simpa using h3),Qa0 (by omega),Qa0 (by omega),wrap_i64 (by omega) (by omega),wrap_i64 (by omega) (by omega),Yg (by omega),Int.toNat_of_nonneg (by omega)]
theorem w90:Wk 90 1 WX:=by
 refine cw Tryz.func90 λ_ _ _ h=> ?_;unfold WX at h;split at h;case h_2=>cases h
 rename_i n;obtain⟨ay,rfl⟩:=dg h;refine c6 (Zq (bD (λst=>ag AI st λn r=>aI r λb r=>aI r λbW r=>aI r λeg r=>aI r λeG r=>ag AI r λbf r=>ak r (aE (Zu (bf<39)) (aB (Zu (Zx eG+Zx [(110:UInt8)]<=4611686018427387904)) (Zd (Xz [Zy AI n,Zp b,Zp bW,Zp eg,Zp (eG++[(110:UInt8)]),Zy AI (Zz AI (bf+1))]))) (Zd (Yd (Yq 0,[Zy AI n,Zp b,Zp bW,Zp eg,Zp eG,Zy AI bf]))))) [Zy AI n,Zp [],Zp [],Zp [],Zp [],Zy AI 0]) λ(r:Ex×List AV)=>ag AI (Yn r) λn dj=>aI dj λb dr=>aI dr λbW dH=>aI dH λeg eK=>aI eK λeG fL=>ag AI fL λbf f_=>ak f_ (jl r.1 (Zd (AV.agg [Zp b,Zp bW,Zp eg],[])) λj=>aE (Xv j 0) (Zq (bD (λst=>ag AI st λn r=>aI r λb r=>aI r λfG r=>aI r λgG r=>aI r λh_ r=>ag AI r λbL r=>ak r (aE (Zu (bL<n)) (aB (Zu (38<=(Zx h_:Int))) (Zd (Xz [Zy AI n,Zp b,Zp fG,Zp gG,Zp (Xj (Zw (↑(0:Nat):Int)) (Xk (Zw 38) h_)),Zy AI (Zz AI (bL+1))]))) (Zd (Yd (Yq 2,[Zy AI n,Zp b,Zp fG,Zp gG,Zp h_,Zy AI bL]))))) [Zy AI n,Zp b,Zp bW,Zp eg,Zp eG,Zy AI 0]) λ(r:Ex×List AV)=>ag AI (Yn r) λn g7=>aI g7 λb iA=>aI iA λfG io=>aI io λgG dA=>aI dA λh_ eC=>ag AI eC λn eD=>ak eD (jl r.1 (Zd (AV.agg [Zp b,Zp fG,Zp gG],[])) λj=>aE (Xv j 2) (Zd (AV.agg [Zp h_,Zp h_,Zp h_],[])) Wp)) Wp)) ?_;dsimp only[aI,ag];simp only[Zf,Qa2] at ay;have hn:n=0\/n=1:=by omega
 rcases hn with rfl | rfl
 .refine gu 40 (Yq 0,[Zy Zj 0,Zp [],Zp [],Zp [],Zp (Xf 39 110),Zy Zj 39]) (by kernel_rfl) ?_;simp only[A0];rw[af (Yf _)];refine gu 1 (Yq 2,[Zy Zj 0,Zp [],Zp [],Zp [],Zp (Xf 39 110),Zy Zj 0]) (by kernel_rfl) ?_;rfl
 .refine gu 40 (Yq 0,[Zy Zj 1,Zp [],Zp [],Zp [],Zp (Xf 39 110),Zy Zj 39]) (by kernel_rfl) ?_;simp only[A0];rw[af (Yf _)];refine gu 2 (Yq 2,[Zy Zj 1,Zp [],Zp [],Zp [],Zp (Xf 38 110),Zy Zj 1]) (by kernel_rfl) ?_;rfl
theorem w92:Wk 92 1 WY:=by
 refine cw Tryz.func92 λ_ _ _ h=> ?_;unfold WY at h;split at h;case h_2=>cases h
 rename_i n m;cases h;refine c6 (aE (Zu (n>=0)) (Zd (Zv (Zu (n<=m)),[])) (Zd (Zv Yz,[]))) ?_;by_cases h:0<=n<;>simp[aE,Zm,h]
theorem w94:Wk 94 1 WZ:=by
 refine cw Tryz.func94 λ_ _ _ h=> ?_;unfold WZ at h;split at h;case h_2=>cases h
 rename_i k By;cases h;refine c6 (aE (Zu (k<1)) (Zd (Zb [],[])) (aE (Zu (k>10)) (Zd (Zb [],[])) (aE By (Zd (Zb [(4:UInt8),Zh (Zw (Zz .u8 (Zz AI (Zz AI (2*k)+1))))],[])) (Zd (Zb [(4:UInt8),Zh (Zw (Zz .u8 (Zz AI (2*k))))],[]))))) ?_;by_cases h:1<=k/\k<=10
 .have hk:k=1\/k=2\/k=3\/k=4\/k=5\/k=6\/k=7\/k=8\/k=9\/k=10:=by omega
  rcases hk with rfl | rfl | rfl | rfl | rfl | rfl | rfl | rfl | rfl | rfl<;>cases By<;>rfl
 .have hk:Xw k=Yz:=by simp[Xw];omega
  by_cases h1:k<1
  .simp[aE,Xn,hk,h1]
  .have h2:10<k:=by omega
   simp[aE,Xn,hk,h1,h2]
theorem w95:Wk 95 1 qv:=by
 refine cw Tryz.func95 λ_ _ _ h=> ?_;unfold qv at h;split at h;case h_2=>cases h
 rename_i b s;obtain⟨ay,rfl⟩:=dg h;refine c6 (aB (room (Zx b) 1) (aB (room (Zx b+Zx s) 1) (aB (room (Zx (b++s)+Zx [(0:UInt8)]) 1) (Zd (Xy (b++s++[(0:UInt8)]),[]))))) ?_;simp only[Qa2] at ay;rw[ae (Xx (by omega)),ae (Xx (by omega)),ae (Xx (by simp;omega))];simp[Kerb.bz]
theorem aem:Wk 104 1 IQ:=by
 refine cw Tryz.func104 λ_ _ _ h=> ?_;unfold IQ at h;split at h;case h_2=>cases h
 rename_i ks k;obtain⟨ay,rfl⟩:=dg h;refine c6 (Zq (bD (λst=>bH 1 st λb r=>ag AT r λn r=>aq r λbW r=>ag AI r λbf r=>ak r (aE (Zu (bf<(Zx b:Int))) (aB (Zu (0<=bf)&&Zu (bf<(Zx b:Int))&&Yp) (AV.aw AT (Zn b (Zw bf) Xq) λbL=>aE (bL==n) (Zd (Yd (Ex.ret,[Yv 1 b,Zy AT n,Zv Yp,Zy AI bf]))) (Zd (Xz [Yv 1 b,Zy AT n,Zv bW,Zy AI (Zz AI (bf+1))])))) (Zd (Yd (Yq 0,[Yv 1 b,Zy AT n,Zv bW,Zy AI bf]))))) [Yv 1 ks,Zy AT k,Zv Yz,Zy AI 0]) λ(r:Ex×List AV)=>bH 1 (Yn r) λb dj=>ag AT dj λn dr=>aq dr λb dH=>ag AI dH λn eK=>ak eK (jl r.1 (Zd (Zv b,[])) λj=>aE (Xv j 0) (Zd (Zv Yz,[])) Wp)) ?_;dsimp only[aq,ag,bH];simp only[Zf,Qa2] at ay;obtain⟨l,rfl⟩:=Kerb.wR ay.1;have hn:=ay.2;rw[Wu] at hn;rw[Kerb.gX];have e:=Kerb.g8 l 0 (λx=>x==k);rw[show l.any (λx=>x==k)=l.contains k by rw[<-Kerb.oS];congr 1;funext x;exact Bool.beq_comm] at e;rw[<-e];refine Qb3 (Kerb.jn (A:=(.bool Yp,[])) (B:=(.bool Yz,[])) (λi=>[.sl 1 (Yk l),.int AT k,.bool Yz,.int AI (i:Int)]) l.length (λi=>l.getD i 0==k) ?_ ?_ ?_ rfl) (by cases (List.range l.length).any (λi=>l.getD i 0==k)<;>rfl)
 .intro i hi hp;try dsimp only at hp ⊢
  simp only[↓A0,A0,Wj,Kerb.Sy hi,Kerb.Dp hi,Yh,Xd,Kerb.yS (show i<=1000000000 by omega),hp]
 .intro i hi hp;try dsimp only at hp ⊢
  refine⟨(.ret,[.sl 1 (Yk l),.int AT k,.bool Yp,.int AI (i:Int)]),?_,?_⟩;case refine_2=>rfl
  simp only[↓A0,A0,Wj,Kerb.Sy hi,Kerb.Dp hi,Yh,Xd,hp]
 .refine⟨(.exit 0,[.sl 1 (Yk l),.int AT k,.bool Yz,.int AI (l.length:Int)]),?_,?_⟩;case refine_2=>rfl
  try dsimp only
  simp only[↓A0,A0,Kerb.V_]
theorem aep:Wk 107 1 QP:=by
 refine cw Tryz.func107 λ_ _ _ h=> ?_;unfold QP at h;split at h;case h_2=>cases h
 rename_i n m;cases h;refine c6 (aE (Zu (n>=0)) (Zd (Zv (Zu (n<=m)),[])) (Zd (Zv Yz,[]))) ?_;by_cases h:0<=n<;>simp[aE,Zm,h]
theorem aev:Wk 113 1 QQ:=by
 refine cw Tryz.func113 λ_ _ _ h=> ?_;unfold QQ at h;split at h;case h_2=>cases h
 rename_i n;cases h;refine c6 (aE (n==1) (Zd (Zv Yp,[])) (Zd (Zv (n==3),[]))) ?_;cases (n==1)<;>rfl
theorem aew:Wk 114 1 QR:=by
 refine cw Tryz.func114 λ_ _ _ h=> ?_;unfold QR at h;split at h;case h_2=>cases h
 rename_i n m;cases h;refine c6 (aE (Zu (n>=0)) (Zd (Zv (Zu (n<=m)),[])) (Zd (Zv Yz,[]))) ?_;by_cases h:0<=n<;>simp[aE,Zm,h]
theorem aeP:Wk 133 1 QT:=by
 refine cw Tryz.func133 λ_ _ _ h=> ?_;unfold QT at h;split at h;case h_2=>cases h
 rename_i b;cases h;refine c6 (let t0:Int:=Zz AI (↑(Zg (Zh (Zw (Zz .u8 (Wv (↑(Zg (Zn b (Zw 1) (0:UInt8))):Int) (↑(Zg (2:UInt8)):Int)))))):Int);let t1:Option (AV×aO):=Zd (Yw [Zy AI 0,Zv Yz,Zy AI 40],[]);aE (Zu ((Zx b:Int)<2)) (Zd (Yw [Zy AI 0,Zv Yz,Zy AI 101],[])) (aB (Zu (0<(Zx b:Int))) (aE (!Zn b (Zw 0) (0:UInt8)==(4:UInt8)) (Zd (Yw [Zy AI 0,Zv Yz,Zy AI 39],[])) (aB (Zu (1<(Zx b:Int))) (aE (Zu (t0<1)) t1 (aE (Zu (t0>10)) t1 (aB (Zu (1<(Zx b:Int))) (Zd (Yw [Zy AI t0,Zv (Zh (Zw (Yx (↑(Zg (Zn b (Zw 1) (0:UInt8))):Int) (↑(Zg (2:UInt8)):Int)))==(1:UInt8)),Zy AI 0],[]))))))))) ?_;try dsimp only[aI,aW,aq,cO,ag,bH,dc]
 unfold Kerb.bj;by_cases h1:b.length<2
 .rw[af (by simp;omega)];simp[h1]
 rw[ah (by simp;omega),ae (by simp;omega),Qa0 h1];by_cases h2:b.getD 0 0=4
 .have hb:=(b.getD 1 0).toNat_lt;have e:Zz Zj ((Zh (Zw (Zz IntKind.u8 (Wv ((b.getD (Zw 1) 0).toNat:Int) ((2:UInt8).toNat:Int))))).toNat:Int)=(((b.getD 1 0).toNat / 2:Nat):Int):=by
   rw[show Zw 1=1 from rfl,show((2:UInt8).toNat:Int)=2 from rfl,Wz (by omega),Kerb.wrap_u8];have e3:Zw (((b.getD 1 0).toNat:Int) / 2 % 256)=(b.getD 1 0).toNat / 2:=by omega
   rw[e3,UInt8.toNat_ofNat_of_lt' (by show _<256;omega),wrap_i64 (by omega) (by omega)]
  have e2:(Zh (Zw (Yx ((b.getD (Zw 1) 0).toNat:Int) ((2:UInt8).toNat:Int)))==1)=Zu ((b.getD 1 0).toNat % 2=1):=by
   rw[show Zw 1=1 from rfl,Yg (by omega)];have e3:Zw (((b.getD 1 0).toNat:Int) % ((2:UInt8).toNat:Int))=(b.getD 1 0).toNat % 2:=by
    show Zw (((b.getD 1 0).toNat:Int) % 2)=_;omega
   rw[e3];rcases Nat.mod_two_eq_zero_or_one (b.getD 1 0).toNat with h | h<;>rw[h]<;>rfl
  rw[ah (by simp[h2] at *;exact h2),ae (by simp;omega),Qa0 (by simpa using h2),e,e2];generalize (b.getD 1 0).toNat / 2=m;unfold Xw;by_cases h3:1<=m;case neg =>
   rw[af (by simp;omega),Qa0 (by simp;omega)]
  by_cases h4:m<=10;case neg =>
   rw[ah (by simp;omega),af (by simp;omega),Qa0 (by simp;omega)]
  rw[ah (by simp;omega),ah (by simp;omega),ae (by simp;omega),Qa1 (by simp;omega)]
 .rw[af (by simpa using h2),Qa1 (by simpa using h2)]
theorem aeT:Wk 138 1 nG:=by
 refine cw Tryz.func138 λ_ _ _ h=> ?_;unfold nG at h;split at h;case h_2=>cases h
 rename_i k;obtain⟨ay,rfl⟩:=dg h;refine c6 (Zq (bD (λst=>ag AT st λn r=>aA r λx r=>AV.fJ x λb=>ag AI r λbf r=>let t0:List UInt8:=[Zh (Zw (Zz .u8 (Xu n (2 ^ min (Zw (Zz AT (Zz AI (8*bf)))) (Zk AT)))))];ak r (aE (Zu (bf>=0)) (aB (Zu (0<=Zz AT (Zz AI (8*bf)))) (aB (room (Zx b+Zx t0) 1) (Zd (Xz [Zy AT n,Xy (b++t0),Zy AI (Zz AI (bf-1))])))) (Zd (Yd (Yq 0,[Zy AT n,Xy b,Zy AI bf]))))) [Zy AT k,Xy [],Zy AI 7]) λ(r:Ex×List AV)=>ag AT (Yn r) λn dj=>aA dj λx dr=>AV.fJ x λb=>ag AI dr λn dH=>ak dH (jl r.1 Wp λj=>aE (Xv j 0) (Zd (Zb b,[])) Wp)) ?_;try dsimp only[aI,aW,aq,cO,ag,bH,dc]
 refine gu 9 (Yq 0,[Zy Ym k,Xy [Xh k 56,Xh k 48,Xh k 40,Xh k 32,Xh k 24,Xh k 16,Xh k 8,Xh k 0],Zy Zj (-1)]) (by kernel_rfl) ?_;simp only[A0];rw[af (Yf _)];simp[Kerb.tT,Kerb.keyBytes,Kerb.fa,List.range_succ]
theorem aeU:Wk 139 1 jF:=by
 refine cw Tryz.func139 λ_ _ _ h=> ?_;unfold jF at h;split at h;case h_2=>cases h
 rename_i b;obtain⟨ay,rfl⟩:=dg h;refine c6 (aB (room (Zx b) 1) (Zq (bD (λst=>aA st λx r=>AV.fJ x λb=>ak r (aE (!Yx (Zx b:Int) 8==0) (aB (room (Zx b+Zx [(0:UInt8)]) 1) (Zd (Xz [Xy (b++[(0:UInt8)])]))) (Zd (Yd (Yq 0,[Xy b]))))) [Xy b]) λ(r:Ex×List AV)=>aA (Yn r) λx dj=>AV.fJ x λb=>ak dj (jl r.1 Wp λj=>aE (Xv j 0) (Zd (Xy b,[])) Wp))) ?_;have hb:=Qa3 ay;rw[ae (Xx (by omega))];refine bQ (λi:Nat=>[Xy (b++Xf i 0)]) (λi=>i<=(8-b.length % 8) % 8) (λi=>(8-b.length % 8) % 8-i)
  (λr=>r=(Yq 0,[Xy (Kerb.pad b)])) 0 (by omega) (by simp) ?_ ?_
 .intro i hi;simp only[A0];have e:Yx ((b++Xf i 0).length:Int) 8=(((b.length+i) % 8:Nat):Int):=by
   rw[Yg (by omega)];simp
  rw[e];by_cases fY:i<(8-b.length % 8) % 8
  .rw[af (by simp;omega),ae (Xx (by simp;omega))];refine⟨_,rfl,i+1,?_,by omega,by dsimp only;omega⟩;dsimp only;rw[List.replicate_succ',List.append_assoc]
  .rw[ah (by simp;omega)];refine⟨_,rfl,?_⟩;show _=_;rw[Kerb.pad,show i=(8-b.length % 8) % 8 from by omega]
 rintro r rfl;simp only[A0];rw[af (Yf _)]
theorem aeX:Wk 142 1 QV:=by
 refine cw Tryz.func142 λ_ _ _ h=> ?_;unfold QV at h;split at h;case h_2=>cases h
 rename_i n m;cases h;refine c6 (aE (Zu (n>=0)) (Zd (Zv (Zu (n<=m)),[])) (Zd (Zv Yz,[]))) ?_;by_cases h:0<=n<;>simp[aE,Zm,h]
theorem aeZ:Wk 144 1 QW:=by
 refine cw Tryz.func144 λ_ _ _ h=> ?_;unfold QW at h;split at h;case h_2=>cases h
 rename_i n m;cases h;refine c6 (aE (Zu (n>=0)) (Zd (Zv (Zu (n<=m)),[])) (Zd (Zv Yz,[]))) ?_;by_cases h:0<=n<;>simp[aE,Zm,h]
theorem ae7:Wk 152 1 QX:=by
 refine cw Tryz.func152 λ_ _ _ h=> ?_;unfold QX at h;split at h;case h_2=>cases h
 rename_i a b;cases h;refine c6 (Zd (Zv (a==b),[])) ?_;rfl
theorem ae':Wk 156 1 QY:=by
 refine cw Tryz.func156 λ_ _ _ h=> ?_;unfold QY at h;split at h;case h_2=>cases h
 rename_i l;cases h;refine c6 (aE (l==[(103:UInt8),(84:UInt8),(71:UInt8),(83:UInt8)]) (Zd (Zv Yp,[])) (Zd (Zv (l==[(103:UInt8),(84:UInt8),(75:UInt8),(84:UInt8)]),[]))) ?_;unfold Kerb.jG;show aE (l==Kerb.vM) _ (Zd (Zv (l==Kerb.ly),[]))=_;cases (l==Kerb.vM)<;>rfl
theorem afc:Wk 159 1 QZ:=by
 refine cw Tryz.func159 λ_ _ _ h=> ?_;unfold QZ at h;split at h;case h_2=>cases h
 rename_i l;cases h;refine c6 (aE (l==[(116:UInt8),(103:UInt8),(115:UInt8),(84:UInt8)]) (Zd (Zv Yp,[])) (Zd (Zv (l==[(116:UInt8),(107:UInt8),(116:UInt8),(71:UInt8)]),[]))) ?_;unfold Kerb.ez;show aE (l==Kerb.zu) _ (Zd (Zv (l==Kerb.p_),[]))=_;cases (l==Kerb.zu)<;>rfl
theorem afn:Wk 174 1 yJ:=by
 refine cw Tryz.func174 λ_ _ _ h=> ?_;unfold yJ at h;split at h;case h_2=>cases h
 rename_i s bad;obtain⟨ay,rfl⟩:=dg h;refine c6 (Zq (bD (λst=>aI st λb r=>aI r λbW r=>aq r λeg r=>ag AI r λn r=>ak r (aE (Zu (n<(Zx b:Int))) (aB (Zu (0<=n)&&Zu (n<(Zx b:Int))) (aE (Zu ((↑(Zg (Zn b (Zw n) (0:UInt8))):Int)<(↑(Zg (33:UInt8)):Int))) (Zd (Yd (Ex.ret,[Zp b,Zp bW,Zv Yz,Zy AI n]))) (aB (Zu (0<=n)&&Zu (n<(Zx b:Int))) (aE (Zu ((↑(Zg (Zn b (Zw n) (0:UInt8))):Int)>(↑(Zg (126:UInt8)):Int))) (Zd (Yd (Ex.ret,[Zp b,Zp bW,Zv Yz,Zy AI n]))) (Zq (bD (λst=>aI st λb r=>aI r λeG r=>aq r λfG r=>ag AI r λn r=>ag AI r λbf r=>ak r (aE (Zu (bf<(Zx eG:Int))) (aB (Zu (0<=n)&&Zu (n<(Zx b:Int))) (aB (Zu (0<=bf)&&Zu (bf<(Zx eG:Int))) (aE (Zn b (Zw n) (0:UInt8)==Zn eG (Zw bf) (0:UInt8)) (Zd (Yd (Ex.ret,[Zp b,Zp eG,Zv Yz,Zy AI n,Zy AI bf]))) (Zd (Xz [Zp b,Zp eG,Zv fG,Zy AI n,Zy AI (Zz AI (bf+1))]))))) (Zd (Yd (Yq 2,[Zp b,Zp eG,Zv fG,Zy AI n,Zy AI bf]))))) [Zp b,Zp bW,Zv eg,Zy AI n,Zy AI 0]) λ(r:Ex×List AV)=>aI (Yn r) λb dj=>aI dj λeG dr=>aq dr λfG dH=>ag AI dH λn eK=>ag AI eK λbf fL=>ak fL (jl r.1 (Zd (Yd (Ex.ret,[Zp b,Zp eG,Zv fG,Zy AI n]))) λj=>aE (Xv j 2) (Zd (Xz [Zp b,Zp eG,Zv fG,Zy AI (Zz AI (n+1))])) Wp)))))) (Zd (Yd (Yq 0,[Zp b,Zp bW,Zv eg,Zy AI n]))))) [Zp s,Zp bad,Zv Yz,Zy AI 0]) λ(r:Ex×List AV)=>aI (Yn r) λb dj=>aI dj λbW dr=>aq dr λeg dH=>ag AI dH λn eK=>ak eK (jl r.1 (Zd (Zv eg,[])) λj=>aE (Xv j 0) (Zd (Zv (Zu ((Zx b:Int)<=39)),[])) Wp)) ?_;dsimp only[aI,aq,ag];simp only[Zf,Qa2] at ay;refine bQ (λi:Nat=>[Zp s,Zp bad,Zv Yz,Zy Zj (i:Int)]) (λi=>i<=s.length/\Kerb.eW s bad=Kerb.eW (s.drop i) bad) (λi=>s.length-i)
  (λr=>∃ i:Nat,r.2=[Zp s,Zp bad,Zv Yz,Zy Zj (i:Int)]/\((r.1 = .ret/\Kerb.eW s bad=Yz)\/(r.1 = .exit 0/\Kerb.eW s bad=Yp))) 0 ⟨Xm _,rfl⟩ rfl ?_ ?_
 .rintro i ⟨hi,hp⟩;simp only[A0];by_cases fY:i<s.length
  .have hc:(Zu ((0:Int)<=(i:Int))&&Zu ((i:Int)<(s.length:Int)))=Yp:=by simp;omega
   have hd:=Kerb.ou fY;rw[af (by simp;omega),ae hc,Yy];have Te:Kerb.eW (s.drop i) bad=(Kerb.okB bad (s.getD i 0)&&Kerb.eW (s.drop (i+1)) bad):=by rw[hd];rfl
   generalize Dr:s.getD i 0=c at *;by_cases h1:c.toNat<33
   .rw[af (by simp;omega)];exact⟨_,rfl,i,rfl,.inl ⟨rfl,by rw[hp,Te];simp[Kerb.okB,h1]⟩⟩
   rw[ah (by simp;omega),ae hc];by_cases h2:126<c.toNat
   .rw[af (by simp;omega)];exact⟨_,rfl,i,rfl,.inl ⟨rfl,by rw[hp,Te];simp[Kerb.okB,h2]⟩⟩
   rw[ah (by simp;omega)];refine FN (λj:Nat=>[Zp s,Zp bad,Zv Yz,Zy Zj (i:Int),Zy Zj (j:Int)]) (λj=>j<=bad.length/\(c∈bad↔c∈bad.drop j)) (λj=>bad.length-j)
    (λr=>∃ j:Nat,r.2=[Zp s,Zp bad,Zv Yz,Zy Zj (i:Int),Zy Zj (j:Int)]/\((r.1 = .ret/\c∈bad)\/(r.1 = .exit 2/\c ∉ bad))) 0 ⟨Xm _,by simp⟩ rfl ?_ ?_
   .rintro j ⟨hj,hm⟩;simp only[A0];by_cases M9:j<bad.length
    .have hdj:=Kerb.ou M9;rw[af (by simp;omega),ae hc,ae (by simp;omega),Yy,Yy,Dr];rw[hdj,List.mem_cons] at hm;by_cases h3:c=bad.getD j 0
     .rw[af (by simpa using h3)];exact⟨_,rfl,j,rfl,.inl ⟨rfl,hm.2 (.inl h3)⟩⟩
     .rw[ah (by simpa using h3),wrap_i64 (by omega) (by omega)];exact⟨_,rfl,j+1,rfl,⟨by omega,hm.trans ⟨λh=>h.resolve_left h3,.inr⟩⟩,by dsimp only;omega⟩
    .rw[ah (by simp;omega)];refine⟨_,rfl,j,rfl,.inr ⟨rfl,?_⟩⟩;rw[hm,Ww (by omega)];simp
   .rintro⟨e,l⟩ ⟨j,rfl,⟨rfl,h3⟩ | ⟨rfl,h3⟩⟩
    .simp only[A0];exact⟨_,rfl,i,rfl,.inl ⟨rfl,by rw[hp,Te];simp[Kerb.okB,h3]⟩⟩
    .simp only[A0];rw[af (Yf _),wrap_i64 (by omega) (by omega)];exact⟨_,rfl,i+1,rfl,⟨by omega,by rw[hp,Te];simp[Kerb.okB,h1,h2,h3]⟩,by dsimp only;omega⟩
  .rw[ah (by simp;omega)];exact⟨_,rfl,i,rfl,.inr ⟨rfl,by rw[hp,Ww (by omega)];rfl⟩⟩
 .rintro⟨e,l⟩ ⟨i,rfl,⟨rfl,hp⟩ | ⟨rfl,hp⟩⟩
  .simp only[A0,hp];rfl
  .simp only[A0,hp];rw[af (Yf _),decide_eq_decide.2 (show((s.length:Int)<=39)↔s.length<=39 from by omega)];rfl
theorem afo:Wk 175 1 yK:=by
 refine cw Tryz.func175 λ_ _ _ h=> ?_;unfold yK at h;split at h;case h_2=>cases h
 rename_i b n k By;obtain⟨ay,rfl⟩:=dg h;refine c6 (aB (room (Zx b) 1) (Zq (bD (λst=>ag AI st λn r=>ag AI r λbf r=>aq r λb r=>aA r λx r=>AV.fJ x λbW=>ag AI r λbL r=>let t1:Int:=Zz AT (Zz AI (8*Zz AI (Zz AI (bf-1)-bL)));let t2:List UInt8:=[Zh (Zw (Zz .u8 (Xu (Zz AT n) (2 ^ min (Zw (Zz AT (Zz AI (8*bL)))) (Zk AT)))))];let t0:List UInt8:=[Zh (Zw (Zz .u8 (Xu (Zz AT n) (2 ^ min (Zw t1) (Zk AT)))))];ak r (aE (Zu (bL<bf)) (aE b (aB (Zu (0<=Zz AT (Zz AI (8*bL)))) (aB (room (Zx bW+Zx t2) 1) (Zd (Xz [Zy AI n,Zy AI bf,Zv b,Xy (bW++t2),Zy AI (Zz AI (bL+1))])))) (aB (Zu (0<=t1)) (aB (room (Zx bW+Zx t0) 1) (Zd (Xz [Zy AI n,Zy AI bf,Zv b,Xy (bW++t0),Zy AI (Zz AI (bL+1))]))))) (Zd (Yd (Yq 0,[Zy AI n,Zy AI bf,Zv b,Xy bW,Zy AI bL]))))) [Zy AI n,Zy AI k,Zv By,Xy b,Zy AI 0]) λ(r:Ex×List AV)=>ag AI (Yn r) λn dj=>ag AI dj λn dr=>aq dr λb dH=>aA dH λx eK=>AV.fJ x λb=>ag AI eK λn fL=>ak fL (jl r.1 Wp λj=>aE (Xv j 0) (Zd (Xy b,[])) Wp))) ?_;try dsimp only[aI,aW,aq,cO,ag,bH,dc]
 simp only[Zf,Qa2] at ay;obtain⟨hk,hb⟩:=ay;have n6:k.toNat<=4/\0<=k:=by omega
 rw[ae (Xx (by omega))];refine bQ (λi:Nat=>[Zy Zj n,Zy Zj k,Zv By,Xy (b++(Kerb.aJ n k.toNat By).take i),Zy Zj (i:Int)]) (λi=>i<=k.toNat) (λi=>k.toNat-i)
  (λr=>r=(Yq 0,[Zy Zj n,Zy Zj k,Zv By,Xy (b++Kerb.aJ n k.toNat By),Zy Zj k])) 0 (Xm _) (by simp) ?_ ?_
 .intro i hi;simp only[A0];by_cases fY:i<k.toNat
  .have hs:=Kerb.vi (l:=Kerb.aJ n k.toNat By) (i:=i) (by rw[Yb];omega);have hg:=Kerb.NR n k.toNat By fY;have hl:((Kerb.aJ n k.toNat By).take i).length=i:=by simp[Yb];omega
   rw[af (by simp;omega)];have hw:∀ j:Nat,j<4->Zz Ym (Zz Zj (8*(j:Int)))=((8*j:Nat):Int):=λj hj=>by
    rw[wrap_i64 (by omega) (by omega),Kerb.wrap_u64];omega
   have hm:∀ j:Nat,j<4->min (Zw ((8*j:Nat):Int)) (Zk Ym)=8*j:=λj hj=>by
    have:Zk Ym=64:=rfl;rw[this];omega
   cases By
   .have e:Zz Zj (Zz Zj (k-1)-(i:Int))=((k.toNat-1-i:Nat):Int):=by
     rw[wrap_i64 (n:=k-1) (by omega) (by omega),wrap_i64 (by omega) (by omega)];omega
    rw[ah rfl,e,hw _ (by omega),hm _ (by omega),Kerb.Ut n (by omega),ae (by simp;omega),ae (Xx (by simp[hl];omega)),wrap_i64 (by omega) (by omega)];refine⟨_,rfl,i+1,?_,by omega,by dsimp only;omega⟩;dsimp only;rw[hs,hg,<-List.append_assoc];rfl
   .rw[af rfl,hw _ (by omega),hm _ (by omega),Kerb.Ut n (by omega),ae (by simp;omega),ae (Xx (by simp[hl];omega)),wrap_i64 (by omega) (by omega)];refine⟨_,rfl,i+1,?_,by omega,by dsimp only;omega⟩;dsimp only;rw[hs,hg,<-List.append_assoc];rfl
  .rw[ah (by simp;omega)];refine⟨_,rfl,?_⟩;show _=_;rw[Yj (by rw[Yb];omega),show(i:Int)=k from by omega]
 .rintro r rfl;simp only[A0];rw[af (Yf _)]
theorem afr:Wk 180 1 Q4:=by
 refine cw Tryz.func180 λ_ _ _ h=> ?_;unfold Q4 at h;split at h;case h_2=>cases h
 rename_i ks k;obtain⟨ay,rfl⟩:=dg h;refine c6 (Zq (bD (λst=>bH 1 st λb r=>ag AT r λn r=>ag AI r λbf r=>let t0:Option (List AV ⊕ Ex×List AV):=Zd (Yd (Yq 0,[Yv 1 b,Zy AT n,Zy AI bf]));ak r (aE (Zu (bf<(Zx b:Int))) (aB (Zu (0<=bf)&&Zu (bf<(Zx b:Int))&&Yp) (AV.aw AT (Zn b (Zw bf) Xq) λbL=>aE (Zu (bL<n)) (Zd (Xz [Yv 1 b,Zy AT n,Zy AI (Zz AI (bf+1))])) t0)) t0)) [Yv 1 ks,Zy AT k,Zy AI 0]) λ(r:Ex×List AV)=>bH 1 (Yn r) λb dj=>let t1:List AV:=Xk (Zw (Zx b:Int)) b;ag AT dj λn dr=>ag AI dr λbf dH=>let t3:List AV:=Xj (Zw (↑(0:Nat):Int)) (Xk (Zw bf) b)++[Zy AT n];let t2:Option (AV×aO):=aB (Zu ((↑(0:Nat):Int)<=bf)&&Zu (bf<=(Zx b:Int))) (aB (room (Zx (Xj (Zw (↑(0:Nat):Int)) (Xk (Zw bf) b))) (nat_lit 8)) (aB (room (Zx (Xj (Zw (↑(0:Nat):Int)) (Xk (Zw bf) b))+Zx [Zy AT n]) (nat_lit 8)) (aB (Zu (0<=bf)&&Zu (bf<=(Zx b:Int))&&Zu ((Zx b:Int)<=(Zx b:Int))) (aB (room (Zx t3+Zx (Xj (Zw bf) t1)) (nat_lit 8)) (Zd (Yv 1 (t3++Xj (Zw bf) t1),[]))))));ak dH (jl r.1 Wp λj=>aE (Xv j 0) (aE (Zu (bf<(Zx b:Int))) (aB (Zu (0<=bf)&&Zu (bf<(Zx b:Int))&&Yp) (AV.aw AT (Zn b (Zw bf) Xq) λbL=>aE (bL==n) (aB (room (Zx b) (nat_lit 8)) (Zd (Yv 1 b,[]))) t2)) t2) Wp)) ?_;try dsimp only[aI,aW,aq,cO,ag,bH,dc]
 simp only[Zf,Qa2] at ay;obtain⟨l,rfl⟩:=Kerb.wR ay.1;have hn:=ay.2;rw[Wu] at hn;rw[Kerb.gX];refine bQ (enc:=λ(i:Nat)=>[.sl 1 (Yk l),.int AT k,.int AI (i:Int)]) (I:=λi=>i<=l.length/\∀ j,j<i->l.getD j 0<k) (μ:=λi=>l.length-i) (R:=λr=>∃ i:Nat,i<=l.length/\(∀ j,j<i->l.getD j 0<k)/\(i<l.length->¬ l.getD i 0<k)/\r=(.exit 0,[.sl 1 (Yk l),.int AT k,.int AI (i:Int)])) 0 ⟨Xm _,λj h=>by omega⟩ rfl ?_ ?_
 .rintro i ⟨hi,hj⟩;by_cases h:i<l.length
  .by_cases hk:l.getD i 0<k
   .refine⟨.inl [.sl 1 (Yk l),.int AT k,.int AI ((i+1:Nat):Int)],?_,i+1,rfl,⟨h,λj HG=> ?_⟩,show l.length-(i+1)<l.length-i by omega⟩
    .try dsimp only
     simp only[↓A0,A0,Wj,Kerb.Sy h,Kerb.Dp h,Yh,Xd,Kerb.yS (show i<=1000000000 by omega),Qa4 hk]
    .by_cases e:j=i
     .rw[e];exact hk
     .exact hj j (by omega)
   .refine⟨.inr (.exit 0,[.sl 1 (Yk l),.int AT k,.int AI (i:Int)]),?_,i,hi,hj,λ_=>hk,rfl⟩;try dsimp only
    simp only[↓A0,A0,Wj,Kerb.Sy h,Kerb.Dp h,Yh,Xd,Qa5 hk]
  .obtain rfl:i=l.length:=by omega
   refine⟨.inr (.exit 0,[.sl 1 (Yk l),.int AT k,.int AI (l.length:Int)]),?_,l.length,hi,hj,λh=>by omega,rfl⟩;try dsimp only
   simp only[↓A0,A0,Kerb.V_]
 .rintro r ⟨i,hi,hj,hk,rfl⟩;rw[Kerb.L9 hi hj hk];have r1:Go.Abs.room (Yk l).length 8=Yp:=by rw[Wu];exact Kerb.Gj (by omega)
  have c1:Zu (((0:Nat):Int)<=(i:Int))=Yp:=Wj i;have c2:Zu ((i:Int)<=((Yk l).length:Int))=Yp:=by rw[Wu];exact Qa4 (by omega)
  have c3:Zu (((Yk l).length:Int)<=((Yk l).length:Int))=Yp:=Qa4 (Int.le_refl _);have t0:Xj (Zw ((0:Nat):Int)) (Xk (Zw (i:Int)) (Yk l))=Yk (l.take i):=by rw[Yy,Yy,List.drop_zero,Kerb.aaC]
  have t1:Xj (Zw (i:Int)) (Xk (Zw ((Yk l).length:Int)) (Yk l))=Yk (l.drop i):=by rw[Yy,Yy,List.take_length,Kerb.YA]
  have l0:(l.take i).length<=l.length:=by rw[List.length_take];omega
  have l1:(l.drop i).length<=l.length:=by rw[List.length_drop];omega
  have r2:Go.Abs.room (Yk (l.take i)).length 8=Yp:=by rw[Wu];exact Kerb.Gj (by omega)
  have r3:Go.Abs.room ((Yk (l.take i)).length+[Zy AT k].length) 8=Yp:=by rw[Wu];exact Kerb.Mp (by simp;omega)
  have r4:Go.Abs.room ((Yk (l.take i)++[Zy AT k]).length+(Yk (l.drop i)).length) 8=Yp:=by rw[List.length_append,Wu,Wu];exact Kerb.Mp (by simp;omega)
  have ej:Yk (l.take i)++[Zy AT k]++Yk (l.drop i)=Yk (l.take i++k::l.drop i):=by simp[Yk]
  simp only[↓A0,A0,show Xv 0 0=Yp from rfl,t0,t1,r1,r2,r3,r4,c1,c2,c3,Wj,Yh,ej];by_cases h:i<l.length
  .simp only[↓A0,A0,Kerb.Sy h,Kerb.Dp h,Yh,Xd];by_cases e:l.getD i 0=k
   .rw[af (by simpa using e),Qa1 ⟨h,e⟩]
   .rw[ah (by simpa using e),Qa0 (λq=>e q.2)]
  .obtain rfl:i=l.length:=by omega
   rw[ah (Kerb.V_ l),Qa0 (λq=>h q.1)]
theorem aft:Wk 184 1 Q5:=by
 refine cw Tryz.func184 λ_ _ _ h=> ?_;unfold Q5 at h;split at h;case h_2=>cases h
 cases h;refine c6 (Zd (Yv 1 [Zp [(65:UInt8),(84:UInt8),(72:UInt8)],Zp [(66:UInt8),(79:UInt8),(83:UInt8)],Zp [(67:UInt8),(65:UInt8),(77:UInt8)]],[])) ?_;rfl
theorem afJ:Wk 200 1 Ra:=by
 refine cw Tryz.func200 λ_ _ _ h=> ?_;unfold Ra at h;split at h;case h_2=>cases h
 rename_i nx e B at_ li bad;cases h;refine tK [0] (aE bad (Zd (Yw [],[[Zb B,Zy AI at_,Zv li,Zv Yp]])) (aE (!e==0) (Zd (Yw [],[[Zb B,Zy AI at_,Zv li,Zv Yp]])) (Zd (Yw [],[[Zb B,Zy AI nx,Zv li,Zv bad]])))) ?_;cases bad
 .cases (e==0)<;>rfl
 .rfl
theorem afM:Wk 203 1 CF:=by
 refine cw Tryz.func203 λ_ _ _ h=> ?_;unfold CF at h;split at h;case h_2=>cases h
 rename_i b pos n;obtain⟨ay,rfl⟩:=dg h;refine c6 (let t0:Option (AV×aO):=Zd (Yw [Zb [],Zy AI 0,Zy AI 104],[]);aE (Zu (pos<0)) t0 (aE (Zu (pos>(Zx b:Int))) t0 (aE (Zu (n<0)) t0 (aE (Zu (n>Zz AI ((Zx b:Int)-pos))) (Zd (Yw [Zb [],Zy AI 0,Zy AI 101],[])) (aB (Zu (0<=pos)&&Zu (pos<=Zz AI (pos+n))&&Zu (Zz AI (pos+n)<=(Zx b:Int))) (aB (room (Zx (Xj (Zw pos) (Xk (Zw (Zz AI (pos+n))) b))) 1) (Zd (Yw [Zb (Xj (Zw pos) (Xk (Zw (Zz AI (pos+n))) b)),Zy AI (Zz AI (pos+n)),Zy AI 0],[])))))))) ?_;try dsimp only[aI,aW,aq,cO,ag,bH,dc]
 have hb:=Qa3 ay;unfold Kerb.bytes;by_cases h1:pos<0
 .have e:Xg b pos n=104:=by unfold Xg;rw[Qa1 (by omega)]
  rw[af (by simpa using h1),e];rfl
 rw[ah (by simpa using h1)];by_cases h2:(b.length:Int)<pos
 .have e:Xg b pos n=104:=by unfold Xg;rw[Qa1 (by omega)]
  rw[af (by simpa using h2),e];rfl
 rw[ah (by simpa using h2)];by_cases h3:n<0
 .have e:Xg b pos n=104:=by unfold Xg;rw[Qa1 (by omega)]
  rw[af (by simpa using h3),e];rfl
 rw[ah (by simpa using h3),wrap_i64 (n:=(b.length:Int)-pos) (by omega) (by omega)];by_cases h4:(b.length:Int)-pos<n
 .have e:Xg b pos n=101:=by unfold Xg;rw[Qa0 (by omega),Qa1 h4]
  rw[af (by simpa using h4),e];rfl
 have hr:Xg b pos n=0:=Kerb.iB.2 (by omega);have e:Xj (Zw pos) (Xk (Zw (pos+n)) b)=Kerb.cut b pos n:=by
  rw[show Zw (pos+n)=pos.toNat+n.toNat by omega,List.drop_take,show pos.toNat+n.toNat-pos.toNat=n.toNat by omega];rfl
 have hc:=Kerb.jd hr;rw[ah (by simpa using h4),Qa1 hr,wrap_i64 (by omega) (by omega),e,ae (by simp;omega),ae (Xx (by omega))]
theorem afN:Wk 204 1 Jn:=by
 refine cw Tryz.func204 λ_ _ _ h=> ?_;unfold Jn at h;split at h;case h_2=>cases h
 rename_i b pos;obtain⟨ay,rfl⟩:=dg h;refine c6 (aE (Zu (pos<0)) (Zd (Yw [Zp [],Zy AI 0,Zy AI 104],[])) (aE (Zu (pos>(Zx b:Int))) (Zd (Yw [Zp [],Zy AI 0,Zy AI 104],[])) (Zq (bD (λst=>aW st λb r=>ag AI r λn r=>aI r λbW r=>ag AI r λbf r=>ag AI r λbL r=>ag AI r λdm r=>ak r (aE (Zu (dm<=39)) (aE (Zu (Zz AI (n+dm)>=(Zx b:Int))) (Zd (Yd (Ex.ret,[Zb b,Zy AI n,Zp [],Zy AI 0,Zy AI 101,Zy AI dm]))) (aB (Zu (0<=Zz AI (n+dm))&&Zu (Zz AI (n+dm)<(Zx b:Int))) (aE (Zn b (Zw (Zz AI (n+dm))) (0:UInt8)==(0:UInt8)) (aB (Zu (0<=n)&&Zu (n<=Zz AI (n+dm))&&Zu (Zz AI (n+dm)<=(Zx b:Int))) (Zd (Yd (Ex.ret,[Zb b,Zy AI n,Zp (Xj (Zw n) (Xk (Zw (Zz AI (n+dm))) b)),Zy AI (Zz AI (Zz AI (n+dm)+1)),Zy AI 0,Zy AI dm])))) (Zd (Xz [Zb b,Zy AI n,Zp bW,Zy AI bf,Zy AI bL,Zy AI (Zz AI (dm+1))]))))) (Zd (Yd (Yq 0,[Zb b,Zy AI n,Zp bW,Zy AI bf,Zy AI bL,Zy AI dm]))))) [Zb b,Zy AI pos,Zp [],Zy AI 0,Zy AI 0,Zy AI 0]) λ(r:Ex×List AV)=>aW (Yn r) λb dj=>ag AI dj λn dr=>aI dr λb dH=>ag AI dH λn eK=>ag AI eK λbf fL=>ag AI fL λbL f_=>ak f_ (jl r.1 (Zd (Yw [Zp b,Zy AI n,Zy AI bf],[])) λj=>aE (Xv j 0) (Zd (Yw [Zp [],Zy AI 0,Zy AI 105],[])) Wp)))) ?_;dsimp only[aI,aW,ag];have hb:=Qa3 ay;unfold Kerb.text;by_cases h1:pos<0
 .rw[af (by simpa using h1),Qa0 (by rw[Kerb.iB];omega)]
 rw[ah (by simpa using h1)];by_cases h2:(b.length:Int)<pos
 .rw[af (by simpa using h2),Qa0 (by rw[Kerb.iB];omega)]
 rw[ah (by simpa using h2),Qa1 (Kerb.iB.2 (by omega))];obtain⟨R,hR⟩:∃ R,R=b.drop pos.toNat:=⟨_,rfl⟩;have hRl:R.length=b.length-pos.toNat:=by rw[hR];simp
 rw[<-hR];obtain⟨T,hT⟩:∃ T,T=R.take 40:=⟨_,rfl⟩;rw[<-hT];have Y9:=Kerb.p8 0 T;refine bQ (λi:Nat=>[Zb b,Zy Zj pos,Zp [],Zy Zj 0,Zy Zj 0,Zy Zj (i:Int)]) (λi=>i<=40/\i<=R.length/\(0:UInt8) ∉ R.take i) (λi=>40-i)
  (λr=>∃ (i:Nat) (v:List UInt8) (nx e:Int),r.2=[Zb b,Zy Zj pos,Zp v,Zy Zj nx,Zy Zj e,Zy Zj (i:Int)] /\
   ((r.1 = .ret/\v=[]/\nx=0/\e=101/\Wq 0 T<0/\T.length≠40)\/(r.1 = .ret/\Wq 0 T=i/\v=T.take i/\nx=pos+i+1/\e=0)\/(r.1 = .exit 0/\Wq 0 T<0/\T.length=40))) 0 ⟨by omega,by omega,by simp⟩ rfl ?_ ?_
 .rintro i ⟨hi,hir,h0⟩;simp only[A0];by_cases fY:i<=39;case neg =>
   have e40:i=40:=by omega
   subst e40;rw[ah (by decide)];refine⟨_,rfl,40,[],0,0,rfl,.inr (.inr ⟨rfl,?_,?_⟩)⟩
   .rw[<-hT] at h0;have:=mt Y9.1 h0;omega
   .rw[hT];simp;omega
  rw[af (by simp;omega),wrap_i64 (n:=pos+(i:Int)) (by omega) (by omega)];by_cases S_:(b.length:Int)<=pos+i
  .rw[af (by simpa using S_)];have hTR:T=R.take i:=by rw[hT,Yj (by omega),Yj (by omega)]
   refine⟨_,rfl,i,[],0,101,rfl,.inl ⟨rfl,rfl,rfl,rfl,?_,?_⟩⟩
   .rw[<-hTR] at h0;have:=mt Y9.1 h0;omega
   .rw[hTR];simp;omega
  have hiR:i<R.length:=by omega
  have hd:=Kerb.ou hiR;have hbi:b.getD (pos+(i:Int)).toNat 0=R.getD i 0:=by
   rw[show(pos+(i:Int)).toNat=pos.toNat+i by omega,hR];simp[List.getD_eq_getElem?_getD]
  rw[ah (by simpa using S_),ae (by simp;omega),hbi];by_cases hz:R.getD i 0=0
  .rw[af (by rw[hz];rfl),ae (by simp;omega),wrap_i64 (by omega) (by omega)];have hTi:T.take i=R.take i:=by rw[hT,List.take_take,Nat.min_eq_left (by omega)]
   have hTe:T=R.take i++0::(R.drop (i+1)).take (39-i):=by
    rw[hT];have:R=R.take i++(0::R.drop (i+1)):=by rw[<-hz,<-hd,List.take_append_drop]
    have hl:(R.take i).length=i:=by simp;omega
    calc R.take 40=(R.take i++(0::R.drop (i+1))).take 40:=by rw[<-this]
     _=_:=by rw[List.take_append,hl,Yj (by omega),show 40-i=(39-i)+1 by omega,List.take_succ_cons]
   have ac6:Wq 0 T=i:=by
    rw[hTe,Kerb.pZ h0];simp;omega
   refine⟨_,rfl,i,_,_,0,rfl,.inr (.inl ⟨rfl,ac6,?_,rfl,rfl⟩)⟩;rw[hTi,hR,show(pos+(i:Int)).toNat=pos.toNat+i by omega,List.drop_take,show pos.toNat+i-pos.toNat=i by omega]
  .rw[ah (beq_eq_false_iff_ne.2 hz),wrap_i64 (by omega) (by omega)];refine⟨_,rfl,i+1,rfl,⟨by omega,by omega,?_⟩,by dsimp only;omega⟩;rw[Kerb.vi hiR];simp only[List.mem_append,List.mem_singleton,not_or];exact⟨h0,λe=>hz e.symm⟩
 .rintro⟨e,l⟩ ⟨i,v,nx,er,rfl,⟨rfl,rfl,rfl,rfl,g1,g2⟩ | ⟨rfl,g1,rfl,rfl,rfl⟩ | ⟨rfl,g1,g2⟩⟩
  .simp only[A0];rw[Qa0 (by omega),Qa0 g2]
  .simp only[A0];rw[Qa1 (by omega),g1,Yy]
  .simp only[A0];rw[Qa0 (by omega),Qa1 g2,af (Yf _)]
theorem afO:Wk 205 1 Rc:=by
 refine cw Tryz.func205 λ_ _ _ h=> ?_;unfold Rc at h;split at h;case h_2=>cases h
 rename_i c n;cases h;refine c6 (let t0:Option (AV×aO):=aE (Zu (n<1)) (Zd (Zy AT 0,[])) (aE (Zu (n>4294967295)) (Zd (Zy AT 0,[])) (Zd (Zy AT (Zz AT (↑(BitVec.toNat (BitVec.ofInt (Zk AT) (Zz AT (Zz AT c*2 ^ min (Zw 56) (Zk AT))) ||| BitVec.ofInt (Zk AT) (Zz AT n))):Int)),[])));aE (!c==1) (aE (!c==2) (Zd (Zy AT 0,[])) t0) t0) ?_;try dsimp only[aI,aW,aq,cO,ag,bH,dc]
 unfold Kerb.pf Kerb.na;by_cases hc:c=1\/c=2;case neg =>
  have q1:(c==(1:Int))=Yz:=by simp;omega
  have q2:(c==(2:Int))=Yz:=by simp;omega
  rw[q1,q2];rfl
 by_cases hn:1<=n/\n<=4294967295;case neg =>
  have q:(Zu (1<=n)&&Zu (n<=4294967295))=Yz:=by
   rw[Bool.eq_false_iff];simp;omega
  rw[q,Bool.and_false];have key:(aE (Zu (n<(1:Int))) (Zd (Zy AT (0:Int),([]:aO))) (aE (Zu (n>(4294967295:Int))) (Zd (Zy AT (0:Int),[])) (Zd (Zy Ym (Zz Ym ((BitVec.toNat (BitVec.ofInt (Zk Ym) (Zz Ym (Zz Ym c*(2:Int) ^ min (Zw (56:Int)) (Zk Ym))) ||| BitVec.ofInt (Zk Ym) (Zz Ym n)):Nat):Int)),[]))))=Zd (Zy AT 0,[]):=by
   by_cases hl:n<1
   .rw[af (by simpa using hl)]
   .rw[ah (by simpa using hl),af (by simp;omega)]
  rcases hc with rfl | rfl
  .rw[ah (by decide)];exact key
  .rw[af (by decide),ah (by decide)];exact key
 have q:(Zu (1<=n)&&Zu (n<=4294967295))=Yp:=by simp;omega
 have q2:(c==(1:Int)||c==(2:Int))=Yp:=by simpa using hc
 rw[q,q2,Kerb.PU hc hn.1 hn.2];rcases hc with rfl | rfl
 .rw[ah (by decide),ah (by simp;omega),ah (by simp;omega)];rfl
 .rw[af (by decide),ah (by decide),ah (by simp;omega),ah (by simp;omega)];rfl
theorem afP:Wk 206 1 Re:=by
 refine cw Tryz.func206 λ_ _ _ h=> ?_;unfold Re at h;split at h;case h_2=>cases h
 rename_i n m;cases h;refine c6 (aE (Zu (n>=0)) (Zd (Zv (Zu (n<=m)),[])) (Zd (Zv Yz,[]))) ?_;by_cases h:0<=n<;>simp[aE,Zm,h]
theorem afQ:Wk 207 1 Rf:=by
 refine cw Tryz.func207 λ_ _ _ h=> ?_;unfold Rf at h;split at h;case h_2=>cases h
 rename_i n m;cases h;refine c6 (aE (Zu (n>=0)) (Zd (Zv (Zu (n<=m)),[])) (Zd (Zv Yz,[]))) ?_;by_cases h:0<=n<;>simp[aE,Zm,h]
theorem afT:Wk 210 1 yM:=by
 refine cw Tryz.func210 λ_ _ _ h=> ?_;unfold yM at h;split at h;case h_2=>cases h
 rename_i b pos n;obtain⟨ay,rfl⟩:=dg h;refine c6 (aE (Zu (pos<0)) (Zd (Zy AI 104,[])) (aE (Zu (pos>(Zx b:Int))) (Zd (Zy AI 104,[])) (aE (Zu (n<0)) (Zd (Zy AI 104,[])) (aE (Zu (n>Zz AI ((Zx b:Int)-pos))) (Zd (Zy AI 101,[])) (Zd (Zy AI 0,[])))))) ?_;simp only[Qa2] at ay;unfold Xg;by_cases h1:pos<0
 .simp[aE,h1]
 by_cases h2:(b.length:Int)<pos
 .simp[aE,h1,h2]
 by_cases h3:n<0
 .simp[aE,h1,h2,h3]
 rw[ah (by simp;omega),ah (by simp;omega),ah (by simp;omega),wrap_i64 (by omega) (by omega),Qa0 (by omega)];by_cases h4:(b.length:Int)-pos<n
 .rw[af (by simp;omega),Qa1 h4]
 .rw[ah (by simp;omega),Qa0 h4]
theorem af0:Wk 218 1 vf:=by
 refine cw Tryz.func218 λ_ _ _ h=> ?_;unfold vf at h;split at h;case h_2=>cases h
 rename_i k;obtain⟨ay,rfl⟩:=dg h;refine c6 (Zq (bD (λst=>ag AT st λn r=>aA r λx r=>AV.fJ x λb=>ag AI r λbf r=>ag AI r λbL r=>ak r (aE (Zu (bL<bf)) (aB (Zu (0<=Zz AI (8*Zz AI (7-bL)))) (aB (Zu (0<=bL)&&Zu (bL<(Zx b:Int))) (aB (Wy (Zw bL) (Zx b)&&Yp&&Yp&&Yp&&Yp) (Zd (Xz [Zy AT n,Xy (List.set b (Zw bL) (Zh (Zw (Zz .u8 (Xu n (2 ^ min (Zw (Zz AI (8*Zz AI (7-bL)))) (Zk AT))))))),Zy AI bf,Zy AI (Zz AI (bL+1))]))))) (Zd (Yd (Yq 0,[Zy AT n,Xy b,Zy AI bf,Zy AI bL]))))) [Zy AT k,Xy (Xf (Zw 8) (0:UInt8)),Zy AI (↑(Zx (Xf (Zw 8) (0:UInt8))):Int),Zy AI 0]) λ(r:Ex×List AV)=>ag AT (Yn r) λn dj=>aA dj λx dr=>AV.fJ x λb=>ag AI dr λn dH=>ag AI dH λn eK=>ak eK (jl r.1 Wp λj=>aE (Xv j 0) (Zd (Zb b,[])) Wp)) ?_;dsimp only[ag];refine gu 9 (Yq 0,[Zy Ym k,Xy [Xh k 56,Xh k 48,Xh k 40,Xh k 32,Xh k 24,Xh k 16,Xh k 8,Xh k 0],Zy Zj 8,Zy Zj 8]) (by kernel_rfl) ?_;simp only[A0];rw[af (Yf _)];simp[Kerb.tT,Kerb.keyBytes,Kerb.fa,List.range_succ]
theorem af3:Wk 221 1 Rj:=by
 refine cw Tryz.func221 λ_ _ _ h=> ?_;unfold Rj at h;split at h;case h_2=>cases h
 rename_i n m;cases h;refine c6 (aE (Zu (n>=0)) (Zd (Zv (Zu (n<=m)),[])) (Zd (Zv Yz,[]))) ?_;by_cases h:0<=n<;>simp[aE,Zm,h]
theorem af4:Wk 222 1 Rk:=by
 refine cw Tryz.func222 λ_ _ _ h=> ?_;unfold Rk at h;split at h;case h_2=>cases h
 rename_i nx e B at_ bad;cases h;refine tK [0] (aE bad (Zd (Zv Yz,[[Zb B,Zy AI at_,Zv Yp]])) (aE (!e==0) (Zd (Zv Yz,[[Zb B,Zy AI at_,Zv Yp]])) (Zd (Zv Yp,[[Zb B,Zy AI nx,Zv bad]])))) ?_;cases bad
 .cases (e==0)<;>rfl
 .rfl
theorem af8:Wk 226 1 Rl:=by
 refine cw Tryz.func226 λ_ _ _ h=> ?_;unfold Rl at h;split at h;case h_2=>cases h
 rename_i nx e B at_ bad;cases h;refine tK [0] (aE (!e==0) (Zd (Yw [],[[Zb B,Zy AI at_,Zv Yp]])) (Zd (Yw [],[[Zb B,Zy AI nx,Zv bad]]))) ?_;cases bad<;>cases (e==0)<;>rfl
theorem af':Wk 229 1 Rn:=by
 refine cw Tryz.func229 λ_ _ _ h=> ?_;unfold Rn at h;split at h;case h_2=>cases h
 rename_i n m;cases h;refine c6 (aE (Zu (n>=0)) (Zd (Zv (Zu (n<=m)),[])) (Zd (Zv Yz,[]))) ?_;by_cases h:0<=n<;>simp[aE,Zm,h]
theorem agb:Wk 233 1 Rp:=by
 refine cw Tryz.func233 λ_ _ _ h=> ?_;unfold Rp at h;split at h;case h_2=>cases h
 rename_i k;cases h;refine c6 (aE (k==1) (Zd (Zv Yp,[])) (Zd (Zv (k==2),[]))) ?_;unfold Kerb.pf;cases (k==(1:Int))<;>rfl
theorem agc:Wk 234 1 Rq:=by
 refine cw Tryz.func234 λ_ _ _ h=> ?_;unfold Rq at h;split at h;case h_2=>cases h
 rename_i k;cases h;refine c6 (aE (Zu (k>=1)) (Zd (Zv (Zu (k<=4294967295)),[])) (Zd (Zv Yz,[]))) ?_;by_cases h:1<=k<;>simp[aE,Kerb.na,h]
theorem age:Wk 238 1 Rr:=by
 refine cw Tryz.func238 λ_ _ _ h=> ?_;unfold Rr at h;split at h;case h_2=>cases h
 rename_i k;cases h;refine c6 (aE (Zu (k>=1)) (Zd (Zv (Zu (k<=10)),[])) (Zd (Zv Yz,[]))) ?_;by_cases h:1<=k<;>simp[aE,Xw,h]
theorem agh:Wk 241 1 Jr:=by
 refine cw Tryz.func241 λ_ _ _ h=> ?_;unfold Jr at h;split at h;case h_2=>cases h
 rename_i k els;obtain⟨ay,rfl⟩:=dg h;refine c6 (Zq (bD (λst=>ag AI st λn r=>aq r λb r=>bH 1 r λbW r=>ag AI r λbf r=>ag AI r λbL r=>ak r (aE (Zu (bL<bf)) (aB (Zu (0<=bL)&&Zu (bL<(Zx bW:Int))&&Yp) (AV.aw AI (Zn bW (Zw bL) Xq) λdm=>aE (dm==n) (Zd (Yd (Ex.ret,[Zy AI n,Zv Yp,Yv 1 bW,Zy AI bf,Zy AI bL]))) (Zd (Xz [Zy AI n,Zv b,Yv 1 bW,Zy AI bf,Zy AI (Zz AI (bL+1))])))) (Zd (Yd (Yq 0,[Zy AI n,Zv b,Yv 1 bW,Zy AI bf,Zy AI bL]))))) [Zy AI k,Zv Yz,Yv 1 els,Zy AI (Zx els:Int),Zy AI 0]) λ(r:Ex×List AV)=>ag AI (Yn r) λn dj=>aq dj λb dr=>bH 1 dr λbW dH=>ag AI dH λn eK=>ag AI eK λn fL=>ak fL (jl r.1 (Zd (Zv b,[])) λj=>aE (Xv j 0) (Zd (Zv Yz,[])) Wp)) ?_;dsimp only[aq,ag,bH];simp only[Zf,Qa2] at ay;obtain⟨ha,hl⟩:=ay;have hil:=Kerb.BK ha;refine bQ (λi:Nat=>[Zy Zj k,Zv Yz,Yv 1 els,Zy Zj (els.length:Int),Zy Zj (i:Int)]) (λi=>i<=els.length/\(k∈iP els↔k∈(iP els).drop i)) (λi=>els.length-i)
  (λr=>∃ (i:Nat) (x:Bool),r.2=[Zy Zj k,Zv x,Yv 1 els,Zy Zj (els.length:Int),Zy Zj (i:Int)]/\((r.1 = .ret/\x=Yp/\k∈iP els)\/(r.1 = .exit 0/\k ∉ iP els))) 0 ⟨Xm _,by simp⟩ rfl ?_ ?_
 .rintro i ⟨hi,hm⟩;simp only[A0];by_cases fY:i<els.length
  .obtain⟨n,h1,h2⟩:=Kerb.BJ ha fY;rw[af (by simp;omega),ae (by simp;omega),Yy,h1,rT];rw[h2,List.mem_cons] at hm;by_cases h3:n=k
   .rw[af (by simpa using h3)];exact⟨_,rfl,i,Yp,rfl,.inl ⟨rfl,rfl,hm.2 (.inl h3.symm)⟩⟩
   .rw[ah (by simpa using h3),wrap_i64 (by omega) (by omega)];exact⟨_,rfl,i+1,rfl,⟨by omega,hm.trans ⟨λh=>h.resolve_left λe=>h3 e.symm,.inr⟩⟩,by dsimp only;omega⟩
  .rw[ah (by simp;omega)];refine⟨_,rfl,i,Yz,rfl,.inr ⟨rfl,?_⟩⟩;rw[hm,Ww (by omega)];simp
 .rintro⟨e,l⟩ ⟨i,x,rfl,⟨rfl,rfl,h⟩ | ⟨rfl,h⟩⟩
  .simp[aA,AV.aw,AV.dd,AV.fR,ak,jl,h]
  .simp[aA,AV.aw,AV.dd,AV.fR,ak,jl,h,aE]
theorem agl:Wk 245 1 Rv:=by
 refine cw Tryz.func245 λ_ _ _ h=> ?_;unfold Rv at h;split at h;case h_2=>cases h
 rename_i n m;cases h;refine c6 (aE (Zu (n>=0)) (Zd (Zv (Zu (n<=m)),[])) (Zd (Zv Yz,[]))) ?_;by_cases h:0<=n<;>simp[aE,Zm,h]
theorem agr:Wk 251 1 Rw:=by
 refine cw Tryz.func251 λ_ _ _ h=> ?_;unfold Rw at h;split at h;case h_2=>cases h
 rename_i n;cases h;refine c6 (aE (n==1) (Zd (Zv Yp,[])) (aE (n==2) (Zd (Zv Yp,[])) (Zd (Zv (n==3),[])))) ?_;unfold Kerb.nc;cases (n==1)
 .cases (n==2)<;>rfl
 .rfl
theorem ags:Wk 252 1 Rx:=by
 refine cw Tryz.func252 λ_ _ _ h=> ?_;unfold Rx at h;split at h;case h_2=>cases h
 rename_i n m;cases h;refine c6 (aE (Zu (n>=0)) (Zd (Zv (Zu (n<=m)),[])) (Zd (Zv Yz,[]))) ?_;by_cases h:0<=n<;>simp[aE,Zm,h]
theorem agu:Wk 255 1 Rz:=by
 refine cw Tryz.func255 λ_ _ _ h=> ?_;unfold Rz at h;split at h;case h_2=>cases h
 rename_i n m;cases h;refine c6 (aE (Zu (n>=0)) (Zd (Zv (Zu (n<=m)),[])) (Zd (Zv Yz,[]))) ?_;by_cases h:0<=n<;>simp[aE,Zm,h]
theorem agy:Wk 261 1 RA:=by
 refine cw Tryz.func261 λ_ _ _ h=> ?_;unfold RA at h;split at h;case h_2=>cases h
 rename_i k;cases h;refine c6 (aE (Zu (k>=1)) (Zd (Zv (Zu (k<=10)),[])) (Zd (Zv Yz,[]))) ?_;by_cases h:1<=k<;>simp[aE,Xw,h]
theorem agE:Wk 267 1 JA:=by
 refine cw Tryz.func267 λ_ _ _ h=> ?_;unfold JA at h;split at h;case h_2=>cases h
 rename_i a b els;obtain⟨ay,rfl⟩:=dg h;refine tK [0] (Zq (bD (λst=>aA st λx r=>AV.aX x λy=>ag AI r λn r=>ag AI r λbf r=>ak r (aE (Zu (n<bf)) (aB (Zu (0<=bf)&&Zu (bf<(Zx y:Int))&&Yp) (aB (Wy (Zw bf) (Zx y)&&Yp) (AV.aw AT (Zn y (Zw bf) Xq) λbL=>aB (Zu (0<=n)&&Zu (n<(Zx y:Int))&&Yp) (aB (Wy (Zw n) (Zx y)&&Yp) (AV.aw AT (Zn y (Zw n) Xq) λdm=>aB (Zu (0<=n)&&Zu (n<(Zx y:Int))&&Yp) (aB (Wy (Zw n) (Zx y)&&Yp) (AV.aw AT (Zn y (Zw n) Xq) λbU=>aB (Zx [Zy AT bL]==nat_lit 1&&Yp&&Yp&&Yp&&Wy (Zw n) (Zx y)) (aB (Zu (0<=bf)&&Zu (bf<(↑(Zx (List.set y (Zw n) (Zy AT bL))):Int))&&Yp) (aB (Wy (Zw bf) (Zx (List.set y (Zw n) (Zy AT bL)))&&Yp) (AV.aw AT (Zn (List.set y (Zw n) (Zy AT bL)) (Zw bf) Xq) λbO=>aB (Zx [Zy AT dm]==nat_lit 1&&Yp&&Yp&&Yp&&Wy (Zw bf) (Zx (List.set y (Zw n) (Zy AT bL)))) (Zd (Xz [AV.aH (List.set (List.set y (Zw n) (Zy AT bL)) (Zw bf) (Zy AT dm)),Zy AI (Zz AI (n+1)),Zy AI (Zz AI (bf-1))])))))))))))) (Zd (Yd (Yq 0,[AV.aH y,Zy AI n,Zy AI bf]))))) [AV.aH els,Zy AI a,Zy AI (Zz AI (b-1))]) λ(r:Ex×List AV)=>aA (Yn r) λx dj=>AV.aX x λy=>ag AI dj λn dr=>ag AI dr λn dH=>ak dH (jl r.1 (Zd (Yw [],[y])) λj=>aE (Xv j 0) (Zd (Yw [],[y])) Wp)) ?_;dsimp only[ag];simp only[Zf,Qa2] at ay;obtain⟨⟨⟨⟨ig,hlen⟩,JO⟩,xe⟩,hb⟩:=ay;obtain⟨d,rfl,hd⟩:=Kerb.nq ig;simp only[Kerb.aY] at *;unfold Kerb.TC;rw[hd];obtain⟨a,rfl⟩:=Wx JO;obtain⟨b,rfl⟩:=Wx (show 0<=b by omega);simp only[Yy];rw[Kerb.iw (by omega) (by omega)];unfold Go.Sort.reverseRange;refine bQ (λs:Array Int×Nat×Int=>[AV.aH (Kerb.back s.1),Zy AI (s.2.1:Int),Zy AI s.2.2]) (λs=>s.1.size=d.size/\s.2.1<=d.size /\ -1<=s.2.2/\s.2.2<d.size/\Go.Sort.reverseLoop s.2.1 s.2.2.toNat s.1=Go.Sort.reverseLoop a (b-1) d) (λs=>(s.2.2-s.2.1+1).toNat) (λr=>∃ n m,r=(.exit 0,[AV.aH (Kerb.back (Go.Sort.reverseLoop a (b-1) d)),Zy AI n,Zy AI m])) (d,a,(b:Int)-1) ⟨rfl,by dsimp only;omega,by dsimp only;omega,by dsimp only;omega,by dsimp only;rw[show((b:Int)-1).toNat=b-1 by omega]⟩ rfl ?_ ?_
 .rintro⟨e,i,j⟩ ⟨hs,hi,hj0,hj1,hr⟩;dsimp only at hs hi hj0 hj1 hr ⊢;simp only[↓bX,↓cH,↓dx,↓dC];by_cases h:(i:Int)<j
  .obtain⟨m,rfl⟩:=Wx (show 0<=j by omega);have hm:m<e.size:=by omega
   have hie:i<e.size:=by omega
   rw[Yy] at hr;rw[af (by simpa using h),Kerb.iw (by omega) (by omega),Kerb.iw (by omega) (by omega),Kerb.sw hie hm (λl=>Zd (Xz [AV.aH l,Zy AI ((i:Int)+1),Zy AI ((m:Int)-1)]))];refine⟨_,rfl,(Go.Sort.swp e i m,i+1,(m:Int)-1),rfl,⟨by dsimp only;rw[Kerb.swp_size,hs],by dsimp only;omega,by dsimp only;omega,by dsimp only;omega,?_⟩,by dsimp only;omega⟩;dsimp only;rw[<-hr];conv=>rhs;unfold Go.Sort.reverseLoop
   rw[Qa1 (by omega),show((m:Int)-1).toNat=m-1 by omega]
  .rw[ah (by simpa using h)];refine⟨_,rfl,i,j,?_⟩;have:Go.Sort.reverseLoop i j.toNat e=e:=by
    unfold Go.Sort.reverseLoop;rw[Qa0 (by omega)]
   rw[<-hr,this]
 .rintro _ ⟨n,m,rfl⟩;simp only[↓bX,↓cH,↓dx,↓dC,↓km];rw[af (Yf _)]
theorem agJ:Wk 273 1 JC:=by
 refine cw Tryz.func273 λ_ _ _ h=> ?_;unfold JC at h;split at h;case h_2=>cases h
 rename_i x;obtain⟨ay,rfl⟩:=dg h;refine c6 (let t2:List UInt8:=([8,8,8,8,8,8,8,8,8,8,8,8,8,8,8,8,8,8,8,8,8,8,8,8,8,8,8,8,8,8,8,8,8,8,8,8,8,8,8,8,8,8,8,8,8,8,8,8,8,8,8,8,8,8,8,8,8,8,8,8,8,8,8,8]:List UInt8);let t11:Int:=Xu x (2 ^ min (Zw 32) (Zk AT));let t12:Int:=(↑(Zg (Zh (Zw (Zz .u8 x)))):Int);let t13:Int:=Xu x (2 ^ min (Zw 16) (Zk AT));let t14:Int:=2 ^ min (Zw 8) (Zk AT);let t1:List UInt8:=(0:UInt8)::List.append (List.append ([1,2,2,3,3,3,3,4,4,4,4,4,4,4,4,5,5,5,5,5,5,5,5,5,5,5,5,5,5,5,5,6,6,6,6,6,6,6,6,6,6,6,6,6,6,6,6,6,6,6,6,6,6,6,6,6,6,6,6,6,6,6,6]:List UInt8) ([7,7,7,7,7,7,7,7,7,7,7,7,7,7,7,7,7,7,7,7,7,7,7,7,7,7,7,7,7,7,7,7,7,7,7,7,7,7,7,7,7,7,7,7,7,7,7,7,7,7,7,7,7,7,7,7,7,7,7,7,7,7,7,7]:List UInt8)) (List.append t2 t2);let t4:Int:=(↑(Zg (Zh (Zw (Zz .u8 (Xu t11 t14))))):Int);let t6:Int:=(↑(Zg (Zh (Zw (Zz .u8 (Xu t13 t14))))):Int);let t7:Int:=(↑(Zg (Zh (Zw (Zz .u8 t11)))):Int);let t8:Int:=(↑(Zg (Zh (Zw (Zz .u8 t13)))):Int);let t9:Int:=(↑(Zg (Zh (Zw (Zz .u8 (Xu x t14))))):Int);let t10:Int:=Xu t11 (2 ^ min (Zw 16) (Zk AT));let t0:Int:=(Zx t1:Int);let t3:Int:=(↑(Zg (Zh (Zw (Zz .u8 (Xu t10 t14))))):Int);let t5:Int:=(↑(Zg (Zh (Zw (Zz .u8 t10)))):Int);aE (Zu (x>=4294967296)) (aE (Zu (t11>=65536)) (aE (Zu (t10>=256)) (aB (Zu (0<=t3)&&Zu (t3<t0)) (Zd (Zy AI (Zz AI (Zz AI (Zz AI (32+16)+8)+Zz AI (↑(Zg (Zn t1 (Zw t3) (0:UInt8))):Int))),[]))) (aB (Zu (0<=t5)&&Zu (t5<t0)) (Zd (Zy AI (Zz AI (Zz AI (32+16)+Zz AI (↑(Zg (Zn t1 (Zw t5) (0:UInt8))):Int))),[])))) (aE (Zu (t11>=256)) (aB (Zu (0<=t4)&&Zu (t4<t0)) (Zd (Zy AI (Zz AI (Zz AI (32+8)+Zz AI (↑(Zg (Zn t1 (Zw t4) (0:UInt8))):Int))),[]))) (aB (Zu (0<=t7)&&Zu (t7<t0)) (Zd (Zy AI (Zz AI (32+Zz AI (↑(Zg (Zn t1 (Zw t7) (0:UInt8))):Int))),[]))))) (aE (Zu (x>=65536)) (aE (Zu (t13>=256)) (aB (Zu (0<=t6)&&Zu (t6<t0)) (Zd (Zy AI (Zz AI (Zz AI (Zz AI (0+16)+8)+Zz AI (↑(Zg (Zn t1 (Zw t6) (0:UInt8))):Int))),[]))) (aB (Zu (0<=t8)&&Zu (t8<t0)) (Zd (Zy AI (Zz AI (Zz AI (0+16)+Zz AI (↑(Zg (Zn t1 (Zw t8) (0:UInt8))):Int))),[])))) (aE (Zu (x>=256)) (aB (Zu (0<=t9)&&Zu (t9<t0)) (Zd (Zy AI (Zz AI (Zz AI (0+8)+Zz AI (↑(Zg (Zn t1 (Zw t9) (0:UInt8))):Int))),[]))) (aB (Zu (0<=t12)&&Zu (t12<t0)) (Zd (Zy AI (Zz AI (0+Zz AI (↑(Zg (Zn t1 (Zw t12) (0:UInt8))):Int))),[])))))) ?_;try dsimp only[aI,aW,aq,cO,ag,bH,dc]
 simp only[Zf,Qa2] at ay;obtain⟨h0,h1⟩:=ay;obtain⟨n,rfl⟩:=Wx h0;rw[Kerb.BR];simp only[Kerb.f32,Kerb.f16,Kerb.f8];by_cases h32:2 ^ 32<=n
 .rw[af (by simp;omega)];have e32:=Kerb.kK 32 h32;have b32:n / 2 ^ 32<2 ^ 32:=by omega
  generalize n / 2 ^ 32=m0 at e32 b32 ⊢;by_cases h16:2 ^ 16<=m0
  .rw[af (by simp;omega)];have e16:=Kerb.kK 16 h16;have b16:m0 / 2 ^ 16<2 ^ 16:=by omega
   generalize m0 / 2 ^ 16=m5 at e16 b16 ⊢;by_cases h8:2 ^ 8<=m5
   .rw[af (by simp;omega)];have e8:=Kerb.kK 8 h8;have b8:m5 / 2 ^ 8<2 ^ 8:=by omega
    generalize m5 / 2 ^ 8=m10 at e8 b8 ⊢;rw[Kerb.oI (by decide +kernel) (by omega) (by decide) (by decide)];have hz:Zz AI (Zz AI ((32:Int)+(16:Int))+(8:Int))+(Go.Sort.bitsLen m10:Int)=(Go.Sort.bitsLen n:Int):=by
     have:Zz AI (Zz AI ((32:Int)+(16:Int))+(8:Int))=56:=by decide
     omega
    rw[hz]
   .rw[ah (by simp;omega)];rw[Kerb.oI (by decide +kernel) (by omega) (by decide) (by decide)];have hz:Zz AI ((32:Int)+(16:Int))+(Go.Sort.bitsLen m5:Int)=(Go.Sort.bitsLen n:Int):=by
     have:Zz AI ((32:Int)+(16:Int))=48:=by decide
     omega
    rw[hz]
  .rw[ah (by simp;omega)];by_cases h8:2 ^ 8<=m0
   .rw[af (by simp;omega)];have e8:=Kerb.kK 8 h8;have b8:m0 / 2 ^ 8<2 ^ 8:=by omega
    generalize m0 / 2 ^ 8=m27 at e8 b8 ⊢;rw[Kerb.oI (by decide +kernel) (by omega) (by decide) (by decide)];have hz:Zz AI ((32:Int)+(8:Int))+(Go.Sort.bitsLen m27:Int)=(Go.Sort.bitsLen n:Int):=by
     have:Zz AI ((32:Int)+(8:Int))=40:=by decide
     omega
    rw[hz]
   .rw[ah (by simp;omega)];rw[Kerb.oI (by decide +kernel) (by omega) (by decide) (by decide)];have hz:(32:Int)+(Go.Sort.bitsLen m0:Int)=(Go.Sort.bitsLen n:Int):=by
     have:(32:Int)=32:=by decide
     omega
    rw[hz]
 .rw[ah (by simp;omega)];by_cases h16:2 ^ 16<=n
  .rw[af (by simp;omega)];have e16:=Kerb.kK 16 h16;have b16:n / 2 ^ 16<2 ^ 16:=by omega
   generalize n / 2 ^ 16=m44 at e16 b16 ⊢;by_cases h8:2 ^ 8<=m44
   .rw[af (by simp;omega)];have e8:=Kerb.kK 8 h8;have b8:m44 / 2 ^ 8<2 ^ 8:=by omega
    generalize m44 / 2 ^ 8=m49 at e8 b8 ⊢;rw[Kerb.oI (by decide +kernel) (by omega) (by decide) (by decide)];have hz:Zz AI (Zz AI ((0:Int)+(16:Int))+(8:Int))+(Go.Sort.bitsLen m49:Int)=(Go.Sort.bitsLen n:Int):=by
     have:Zz AI (Zz AI ((0:Int)+(16:Int))+(8:Int))=24:=by decide
     omega
    rw[hz]
   .rw[ah (by simp;omega)];rw[Kerb.oI (by decide +kernel) (by omega) (by decide) (by decide)];have hz:Zz AI ((0:Int)+(16:Int))+(Go.Sort.bitsLen m44:Int)=(Go.Sort.bitsLen n:Int):=by
     have:Zz AI ((0:Int)+(16:Int))=16:=by decide
     omega
    rw[hz]
  .rw[ah (by simp;omega)];by_cases h8:2 ^ 8<=n
   .rw[af (by simp;omega)];have e8:=Kerb.kK 8 h8;have b8:n / 2 ^ 8<2 ^ 8:=by omega
    generalize n / 2 ^ 8=m66 at e8 b8 ⊢;rw[Kerb.oI (by decide +kernel) (by omega) (by decide) (by decide)];have hz:Zz AI ((0:Int)+(8:Int))+(Go.Sort.bitsLen m66:Int)=(Go.Sort.bitsLen n:Int):=by
     have:Zz AI ((0:Int)+(8:Int))=8:=by decide
     omega
    rw[hz]
   .rw[ah (by simp;omega)];rw[Kerb.oI (by decide +kernel) (by omega) (by decide) (by decide)];have hz:(0:Int)+(Go.Sort.bitsLen n:Int)=(Go.Sort.bitsLen n:Int):=by
     have:(0:Int)=0:=by decide
     omega
    rw[hz]
theorem agN:Wk 277 1 JE:=by
 refine cw Tryz.func277 λ_ _ _ h=> ?_;unfold JE at h;split at h;case h_2=>cases h
 rename_i x;obtain⟨ay,rfl⟩:=dg h;refine tK [0] (let t2:Int:=Zz AT (↑(BitVec.toNat (BitVec.ofInt (Zk AT) x ^^^ BitVec.ofInt (Zk AT) (Zz AT (x*2 ^ min (Zw 13) (Zk AT))))):Int);let t1:Int:=Zz AT (↑(BitVec.toNat (BitVec.ofInt (Zk AT) t2 ^^^ BitVec.ofInt (Zk AT) (Xu t2 (2 ^ min (Zw 7) (Zk AT))))):Int);let t0:AV:=Zy AT (Zz AT (↑(BitVec.toNat (BitVec.ofInt (Zk AT) t1 ^^^ BitVec.ofInt (Zk AT) (Zz AT (t1*2 ^ min (Zw 17) (Zk AT))))):Int));Zd (t0,[[t0]])) ?_;try dsimp only[aI,aW,aq,cO,ag,bH,dc]
 simp only[Zf,Qa2] at ay;obtain⟨h0,h1⟩:=ay;obtain⟨v,rfl⟩:∃ v:BitVec 64,x=(v.toNat:Int):=⟨BitVec.ofNat 64 x.toNat,by rw[BitVec.toNat_ofNat];omega⟩;exact Qb5 (λz=>Zd (Zy AT z,[[Zy AT z]])) (Kerb.Sm v)
theorem agQ:Wk 280 1 RF:=by
 refine cw Tryz.func280 λ_ _ _ h=> ?_;unfold RF at h;split at h;case h_2=>cases h
 rename_i x;cases h;refine c6 (Zd (Zv !x==x,[])) ?_;simp
theorem w20:Wk 20 2 Jk:=by
 refine cw Tryz.func20 λ_ _ _ h=> ?_;unfold Jk at h;split at h;case h_2=>cases h
 rename_i ks bs ls cs;obtain⟨ay,rfl⟩:=dg h;refine c6 (Zq (Q0 [Yv 1 ks,Yv 1 ls] []) (kL λb=>aE b (Zq (QO [Yv 1 bs,Yv 1 cs] []) (kL λb=>Zd (Zv b,[]))) (Zd (Zv Yz,[])))) ?_;delta kL;dsimp only[QO,Q0,aI,aW,aq,cO,ag,bH,dc];simp only[Zf,Qa2] at ay;obtain⟨⟨⟨⟨⟨h1,h2⟩,h3⟩,h4⟩,h5⟩,h6⟩:=ay;simp only[A0,Xp,Xb,Kerb.eL.av,h1,h2,h3,h4,h5,h6,Yh,Qb4];cases Kerb.eJ ks==Kerb.eJ ls<;>rfl
theorem w29:Wk 29 2 WN:=by
 refine cw Tryz.func29 λ_ _ _ h=> ?_;unfold WN at h;split at h;case h_2=>cases h
 rename_i n;cases h;refine c6 (aE (Zu ((↑(Zg (Zh (Zw (Yx (Zg n:Int) (↑(Zg (6:UInt8)):Int))))):Int)<(↑(Zg (2:UInt8)):Int))) (Zq (Rs [Zy AI (Yx (Zz AI (Zg n:Int)) 6)] []) (kI AT λn=>Zd (Zy AT n,[]))) (Zq (Lb [Zy AI (Yx (Zz AI (Zg n:Int)) 6)] []) (kI AT λn=>Zd (Zy AT n,[])))) ?_;delta kI;dsimp only[Lb,Rs,aI,aW,aq,cO,ag,bH,dc];have h:=Kerb.Mo n (m:=6) (by decide);have e1:Zu (0<=Kerb.w5 n 6)=Yp:=Qa4 h.1;have e2:Zu (Kerb.w5 n 6<=1000)=Yp:=Qa4 (by omega);simp only[A0,Xp,Xb,Kerb.eL.av,e1,e2,Yh];unfold Kerb.jE;rw[QF];cases Zu (((Zh (Zw (Yx (n.toNat:Int) ((6:UInt8).toNat:Int)))).toNat:Int)<((2:UInt8).toNat:Int))<;>rfl
theorem w35:Wk 35 2 RL:=by
 refine cw Tryz.func35 λ_ _ _ h=> ?_;unfold RL at h;split at h;case h_2=>cases h
 rename_i ks bs k;obtain⟨ay,rfl⟩:=dg h;refine c6 (Zq (IQ [Yv 1 ks,Zy AT k] []) (kL λb=>Zd (Zv b,[]))) ?_;delta kL;dsimp only[IQ,aI,aW,aq,cO,ag,bH,dc];simp only[A0,Xp,Xb,Kerb.eL.av,ay]
theorem w60:Wk 60 2 WT:=by
 refine cw Tryz.func60 λ_ _ _ h=> ?_;unfold WT at h;split at h;case h_2=>cases h
 rename_i n;cases h;refine c6 (Zq (Lb [Zy AI (Zz AI (2+Yx (Zz AI (Zg n:Int)) 4))] []) (kI AT λn=>Zd (Zy AT n,[]))) ?_;delta kI;dsimp only[Lb,aI,aW,aq,cO,ag,bH,dc];have h:=Kerb.Mo n (m:=4) (by decide);have e0:Go.IntKind.wrap AI (2+Kerb.w5 n 4)=2+Kerb.w5 n 4:=wrap_i64 (by omega) (by omega);have e1:Zu (0<=Go.IntKind.wrap AI (2+Kerb.w5 n 4))=Yp:=Qa4 (by rw[e0];omega);have e2:Zu (Go.IntKind.wrap AI (2+Kerb.w5 n 4)<=1000)=Yp:=Qa4 (by rw[e0];omega);simp only[A0,Xp,Xb,Kerb.eL.av,e1,e2,Yh,Kerb.IJ]
theorem w91:Wk 91 2 Gs:=by
 refine cw Tryz.func91 λ_ _ _ h=> ?_;unfold Gs at h;split at h;case h_2=>cases h
 rename_i s;obtain⟨ay,rfl⟩:=dg h;refine c6 (aE (Zu ((Zx s:Int)>0)) (Zq (yJ [Zp s,Zp [(64:UInt8)]] []) (kL λb=>Zd (Zv b,[]))) (Zd (Zv Yz,[]))) ?_;delta kL;dsimp only[yJ,aI,aW,aq,cO,ag,bH,dc];simp only[A0];rw[ae (by rw[ay];rfl)];simp only[Kerb.dO];cases s with
 | nil=>rfl
 | cons x r =>
  rw[af (by first | (simp;done) | (simp;omega)),Bool.and_comm];rfl
theorem w93:Wk 93 2 jv:=by
 refine cw Tryz.func93 λ_ _ _ h=> ?_;unfold jv at h;split at h;case h_2=>cases h
 rename_i b n;obtain⟨ay,rfl⟩:=dg h;refine c6 (Zq (yK [Zb b,Zy AI n,Zy AI 1,Zv Yz] []) (kO λl=>Zd (Xy l,[]))) ?_;delta kO;dsimp only[yK,aI,aW,aq,cO,ag,bH,dc];simp only[Qa2] at ay;simp only[A0];rw[ae (by simp;omega)];rfl
theorem w99:Wk 99 2 TO:=by
 refine cw Tryz.func99 λ_ _ _ h=> ?_;unfold TO at h;split at h;case h_2=>cases h
 rename_i ks bs l m;obtain⟨ay,rfl⟩:=dg h;refine c6 (Kerb.UB ks bs l m) ?_;simp only[Zf,Qa2,List.all_eq_true] at ay;obtain⟨⟨⟨⟨⟨VC,h1⟩,h2⟩,h3⟩,h4⟩,h5⟩:=ay;obtain⟨s,rfl,rfl,hs⟩:=Kerb.wg VC;obtain⟨l,rfl⟩:=Kerb.wR h1;obtain⟨m,rfl⟩:=Kerb.F5 h2;rw[Wu] at h3;rw[Kerb.cG] at h4;rw[Kerb.hJ] at h5;rw[Kerb.kW,Kerb.gX,Kerb.hJ];exact Kerb.SF hs (x:=⟨l,m⟩) h3 h4 h5
theorem aen:Wk 105 2 Cw:=by
 refine cw Tryz.func105 λ_ _ _ h=> ?_;unfold Cw at h;split at h;case h_2=>cases h
 rename_i n;obtain⟨ay,rfl⟩:=dg h;refine c6 (aB (Zu (0<=Yx n 3)&&Zu (Yx n 3<(↑(Zx [Zp [(65:UInt8),(84:UInt8),(72:UInt8)],Zp [(66:UInt8),(79:UInt8),(83:UInt8)],Zp [(67:UInt8),(65:UInt8),(77:UInt8)]]):Int))&&Yp) (AV.fK (Zn [Zp [(65:UInt8),(84:UInt8),(72:UInt8)],Zp [(66:UInt8),(79:UInt8),(83:UInt8)],Zp [(67:UInt8),(65:UInt8),(77:UInt8)]] (Zw (Yx n 3)) Xq) λb=>Zd (Zp b,[]))) ?_;have hn:0<=n:=by first | exact Qa3 ay | (simp only[Zf,Qa2] at ay;exact ay.1)
 have ht:Yx n 3=n % 3:=Yg hn;have x4:n % 3=0\/n % 3=1\/n % 3=2:=by omega
 rcases x4 with e | e | e<;>simp[ht,e,aB,AV.fK,Kerb.aK]
theorem aeq:Wk 108 2 ko:=by
 refine cw Tryz.func108 λ_ _ _ h=> ?_;unfold ko at h;split at h;case h_2=>cases h
 rename_i b x y z;obtain⟨ay,rfl⟩:=dg h;refine c6 (Zq (qv [Zb b,Zp x] []) (kO λl=>Zq (qv [Zb l,Zp y] []) (kO λl=>Zq (qv [Zb l,Zp z] []) (kO λl=>Zd (Xy l,[]))))) ?_;delta kO;dsimp only[qv,aI,aW,aq,cO,ag,bH,dc];simp only[Qa2] at ay;simp only[A0];rw[ae (by simp;omega),ae (by simp[Kerb.bz];omega),ae (by simp[Kerb.bz];omega)];rfl
theorem aer:Wk 109 2 fv:=by
 refine cw Tryz.func109 λ_ _ _ h=> ?_;unfold fv at h;split at h;case h_2=>cases h
 rename_i b n By;obtain⟨ay,rfl⟩:=dg h;refine c6 (Zq (yK [Zb b,Zy AI n,Zy AI 4,Zv By] []) (kO λl=>Zd (Xy l,[]))) ?_;delta kO;dsimp only[yK,aI,aW,aq,cO,ag,bH,dc];simp only[Qa2] at ay;simp only[A0];rw[ae (by simp;omega)];rfl
theorem aes:Wk 110 2 mG:=by
 refine cw Tryz.func110 λ_ _ _ h=> ?_;unfold mG at h;split at h;case h_2=>cases h
 rename_i b n By;obtain⟨ay,rfl⟩:=dg h;refine c6 (Zq (yK [Zb b,Zy AI n,Zy AI 2,Zv By] []) (kO λl=>Zd (Xy l,[]))) ?_;delta kO;dsimp only[yK,aI,aW,aq,cO,ag,bH,dc];simp only[Qa2] at ay;simp only[A0];rw[ae (by simp;omega)];rfl
theorem aet:Wk 111 2 u9:=by
 refine cw Tryz.func111 λ_ _ _ h=> ?_;unfold u9 at h;split at h;case h_2=>cases h
 rename_i s;obtain⟨ay,rfl⟩:=dg h;refine c6 (aE (Zu ((Zx s:Int)>0)) (Zq (yJ [Zp s,Zp [(46:UInt8),(64:UInt8)]] []) (kL λb=>Zd (Zv b,[]))) (Zd (Zv Yz,[]))) ?_;delta kL;dsimp only[yJ,aI,aW,aq,cO,ag,bH,dc];simp only[A0];rw[ae (by rw[ay];rfl)];simp only[Kerb.validName];cases s with
 | nil=>rfl
 | cons x r =>
  rw[af (by first | (simp;done) | (simp;omega)),Bool.and_comm];rfl
theorem aeu:Wk 112 2 u_:=by
 refine cw Tryz.func112 λ_ _ _ h=> ?_;unfold u_ at h;split at h;case h_2=>cases h
 rename_i s;obtain⟨ay,rfl⟩:=dg h;refine c6 (Zq (yJ [Zp s,Zp [(64:UInt8)]] []) (kL λb=>Zd (Zv b,[]))) ?_;delta kL;dsimp only[yJ,aI,aW,aq,cO,ag,bH,dc];simp only[A0];rw[ae (by rw[ay];rfl),Bool.and_comm];rfl
theorem aeI:Wk 126 2 QS:=by
 refine cw Tryz.func126 λ_ _ _ h=> ?_;unfold QS at h;split at h;case h_2=>cases h
 rename_i b els;obtain⟨ay,rfl⟩:=dg h;refine c6 (aE (!Kerb.Head.err (Kerb.bj b)==0) (Zd (Yw [Zv Yz,Zy AI (Kerb.Head.err (Kerb.bj b))],[])) (Zq (bD (λst=>bH 1 st λb r=>aq r λbW r=>ag AI r λn r=>ag AI r λbf r=>aq r λeg r=>ag AI r λbL r=>ak r (aE (Zu (bL<(Zx b:Int))) (aB (Zu (0<=bL)&&Zu (bL<(Zx b:Int))&&Yp) (AV.aw AI (Zn b (Zw bL) Xq) λdm=>aE (dm==bf) (Zd (Yd (Ex.ret,[Yv 1 b,Zv eg,Zy AI 0,Zy AI bf,Zv eg,Zy AI bL]))) (Zd (Xz [Yv 1 b,Zv bW,Zy AI n,Zy AI bf,Zv eg,Zy AI (Zz AI (bL+1))])))) (Zd (Yd (Yq 0,[Yv 1 b,Zv bW,Zy AI n,Zy AI bf,Zv eg,Zy AI bL]))))) [Yv 1 els,Zv Yz,Zy AI 0,Zy AI (Kerb.Head.kind (Kerb.bj b)),Zv (Kerb.Head.By (Kerb.bj b)),Zy AI 0]) λ(r:Ex×List AV)=>bH 1 (Yn r) λb dj=>aq dj λb dr=>ag AI dr λn dH=>ag AI dH λbf eK=>aq eK λbW fL=>ag AI fL λbL f_=>ak f_ (jl r.1 (Zd (Yw [Zv b,Zy AI n],[])) λj=>aE (Xv j 0) (Zd (Yw [Zv Yz,Zy AI 40],[])) Wp))) ?_;dsimp only[aq,ag,bH];simp only[Zf,Qa2] at ay;obtain⟨ha,hl⟩:=ay;have hil:=Kerb.BK ha;unfold Kerb.aM;by_cases he:(Kerb.bj b).err=0;case neg =>
  rw[af (by simpa using he),Qa1 he]
 rw[ah (by simp[he]),Qa0 (by simpa using he)];generalize (Kerb.bj b).kind=k;generalize (Kerb.bj b).By=lt;refine bQ (λi:Nat=>[Yv 1 els,Zv Yz,Zy Zj 0,Zy Zj k,Zv lt,Zy Zj (i:Int)]) (λi=>i<=els.length/\(k∈iP els↔k∈(iP els).drop i)) (λi=>els.length-i)
  (λr=>∃ (i:Nat) (x:Bool),r.2=[Yv 1 els,Zv x,Zy Zj 0,Zy Zj k,Zv lt,Zy Zj (i:Int)]/\((r.1 = .ret/\x=lt/\k∈iP els)\/(r.1 = .exit 0/\k ∉ iP els))) 0 ⟨Xm _,by simp⟩ rfl ?_ ?_
 .rintro i ⟨hi,hm⟩;simp only[A0];by_cases fY:i<els.length
  .obtain⟨n,h1,h2⟩:=Kerb.BJ ha fY;rw[af (by simp;omega),ae (by simp;omega),Yy,h1,rT];rw[h2,List.mem_cons] at hm;by_cases h3:n=k
   .rw[af (by simpa using h3)];exact⟨_,rfl,i,lt,rfl,.inl ⟨rfl,rfl,hm.2 (.inl h3.symm)⟩⟩
   .rw[ah (by simpa using h3),wrap_i64 (by omega) (by omega)];exact⟨_,rfl,i+1,rfl,⟨by omega,hm.trans ⟨λh=>h.resolve_left λe=>h3 e.symm,.inr⟩⟩,by dsimp only;omega⟩
  .rw[ah (by simp;omega)];refine⟨_,rfl,i,Yz,rfl,.inr ⟨rfl,?_⟩⟩;rw[hm,Ww (by omega)];simp
 .rintro⟨e,l⟩ ⟨i,x,rfl,⟨rfl,rfl,h⟩ | ⟨rfl,h⟩⟩
  .simp only[A0];rw[Qa1 (by simpa using h)]
  .simp only[A0];rw[Qa0 (by simpa using h),af (Yf _)]
theorem aeN:Wk 131 2 gA:=by
 refine cw Tryz.func131 λ_ _ _ h=> ?_;unfold gA at h;split at h;case h_2=>cases h
 rename_i n B at_ li bad;obtain⟨ay,rfl⟩:=dg h;refine tK [0] (Zq (CF [Zb B,Zy AI at_,Zy AI n] []) (kT λvs=>aW vs λb r=>ag AI r λn r=>ag AI r λbf r=>ak r (Zd (Zb b,[[Zb B,Zy AI (bif bad || !bf==0 then at_ else n),Zv li,Zv (bad || !bf==0)]])))) ?_;delta kT;dsimp only[CF,aI,aW,aq,cO,ag,bH,dc];simp only[A0];rw[ae ay]
theorem aeQ:Wk 135 2 o0:=by
 refine cw Tryz.func135 λ_ _ _ h=> ?_;unfold o0 at h;split at h;case h_2=>cases h
 rename_i B at_ li bad;obtain⟨ay,rfl⟩:=dg h;refine tK [0] (Zq (Jn [Zb B,Zy AI at_] []) (kT λvs=>aI vs λb r=>ag AI r λn r=>ag AI r λbf r=>ak r (Zd (Zp b,[[Zb B,Zy AI (bif bad || !bf==0 then at_ else n),Zv li,Zv (bad || !bf==0)]])))) ?_;delta kT;dsimp only[Jn,aI,aW,aq,cO,ag,bH,dc];simp only[A0];rw[ae ay]
theorem aeR:Wk 136 2 mH:=by
 refine cw Tryz.func136 λ_ _ _ h=> ?_;unfold mH at h;split at h;case h_2=>cases h
 rename_i k;obtain⟨ay,rfl⟩:=dg h;refine c6 (let t0:Int:=Zz AI (Zz AT (↑(BitVec.toNat (BitVec.ofInt (Zk AT) k &&& BitVec.ofInt (Zk AT) 72057594037927935)):Int));aE (!k==0) (Zd (Zv ((bif Kerb.pf (Zz AI (Xu k (2 ^ min (Zw 56) (Zk AT))))&&Kerb.na t0 then Zz AI (Xu k (2 ^ min (Zw 56) (Zk AT)))*72057594037927936+t0 else 0)==k),[])) (Zd (Zv Yz,[]))) ?_;try dsimp only[aI,aW,aq,cO,ag,bH,dc]
 simp only[Zf,Qa2] at ay;obtain⟨h0,h1⟩:=ay;rw[Kerb.PS h0 h1,Kerb.PT h0 h1,Kerb.Tk];by_cases hk:k=0
 .subst hk;rfl
 rw[af (by simpa using hk)];unfold Kerb.bB;cases Kerb.pf (Kerb.nf k)&&Kerb.na (Kerb.mC k)
 .have q:((0:Int)==k)=Yz:=by simp;omega
  simp only[Qa7,q]
 .simp only[Qa6,BEq.rfl]
theorem ae3:Wk 148 2 tB:=by
 refine cw Tryz.func148 λ_ _ _ h=> ?_;unfold tB at h;split at h;case h_2=>cases h
 rename_i b pos n;obtain⟨ay,rfl⟩:=dg h;refine c6 (Zq (yM [Zb b,Zy AI pos,Zy AI n] []) (kI AI λbf=>aE (!bf==0) (Zd (Yw [Zb [],Zy AI 0,Zy AI bf],[])) (aB (Zu (0<=pos)&&Zu (pos<=Zz AI (pos+n))&&Zu (Zz AI (pos+n)<=(Zx b:Int))) (Zq (CH [Zb (Xj (Zw pos) (Xk (Zw (Zz AI (pos+n))) b))] []) (kB λb=>Zd (Yw [Zb b,Zy AI (Zz AI (pos+n)),Zy AI 0],[])))))) ?_;delta kB kI;dsimp only[yM,CH,aI,aW,aq,cO,ag,bH,dc];have hb:=Qa3 ay;simp only[A0];rw[ae (by simp;omega)];unfold Kerb.bytes;by_cases hr:Xg b pos n=0
 .obtain⟨q1,q2,q3,q4⟩:=Kerb.iB.1 hr;have e:Xj (Zw pos) (Xk (Zw (pos+n)) b)=Kerb.cut b pos n:=by
   rw[show Zw (pos+n)=pos.toNat+n.toNat by omega,List.drop_take,show pos.toNat+n.toNat-pos.toNat=n.toNat by omega];rfl
  have hc:=Kerb.jd hr;rw[ah (by simp[hr]),Qa1 hr,wrap_i64 (by omega) (by omega),e,ae (by simp;omega),ae (by simp;omega)]
 .rw[af (by simpa using hr),Qa0 hr]
theorem afp:Wk 177 2 CC:=by
 refine cw Tryz.func177 λ_ _ _ h=> ?_;unfold CC at h;split at h;case h_2=>cases h
 rename_i k;obtain⟨ay,rfl⟩:=dg h;refine c6 (let t0:Int:=Zz AI (Zz AT (↑(BitVec.toNat (BitVec.ofInt (Zk AT) k &&& BitVec.ofInt (Zk AT) 72057594037927935)):Int));let t1:Option (AV×aO):=Zd (Yw [Zy AI 0,Zy AI 0,Zv Yz],[]);aE (!Kerb.pf (Zz AI (Xu k (2 ^ min (Zw 56) (Zk AT))))) t1 (aE (!Kerb.na t0) t1 (Zd (Yw [Zy AI (Zz AI (Xu k (2 ^ min (Zw 56) (Zk AT)))),Zy AI t0,Zv Yp],[])))) ?_;try dsimp only[aI,aW,aq,cO,ag,bH,dc]
 simp only[Zf,Qa2] at ay;obtain⟨h0,h1⟩:=ay;rw[Kerb.PS h0 h1,Kerb.PT h0 h1];unfold Kerb.bB;cases Kerb.pf (Kerb.nf k)
 .rfl
 cases Kerb.na (Kerb.mC k)<;>rfl
theorem afR:Wk 208 2 CG:=by
 refine cw Tryz.func208 λ_ _ _ h=> ?_;unfold CG at h;split at h;case h_2=>cases h
 rename_i b pos k By;obtain⟨ay,rfl⟩:=dg h;refine c6 (Zq (yM [Zb b,Zy AI pos,Zy AI k] []) (kI AI λn=>aE (!n==0) (Zd (Yw [Zy AI 0,Zy AI 0,Zy AI n],[])) (Zq (bD (λst=>aW st λb r=>ag AI r λn r=>ag AI r λbf r=>aq r λbW r=>ag AI r λbL r=>ag AI r λdm r=>ag AI r λbU r=>ak r (aE (Zu (bU<dm)) (aE bW (aB (Zu (0<=Zz AI (n+Zz AI (Zz AI (bf-1)-bU)))&&Zu (Zz AI (n+Zz AI (Zz AI (bf-1)-bU))<(Zx b:Int))) (Zd (Xz [Zb b,Zy AI n,Zy AI bf,Zv bW,Zy AI (Zz AI (↑(BitVec.toNat (BitVec.ofInt (Zk AI) (Zz AI (bL*2 ^ min (Zw 8) (Zk AI))) ||| BitVec.ofInt (Zk AI) (Zz AI (↑(Zg (Zn b (Zw (Zz AI (n+Zz AI (Zz AI (bf-1)-bU)))) (0:UInt8))):Int)))):Int)),Zy AI dm,Zy AI (Zz AI (bU+1))]))) (aB (Zu (0<=Zz AI (n+bU))&&Zu (Zz AI (n+bU)<(Zx b:Int))) (Zd (Xz [Zb b,Zy AI n,Zy AI bf,Zv bW,Zy AI (Zz AI (↑(BitVec.toNat (BitVec.ofInt (Zk AI) (Zz AI (bL*2 ^ min (Zw 8) (Zk AI))) ||| BitVec.ofInt (Zk AI) (Zz AI (↑(Zg (Zn b (Zw (Zz AI (n+bU))) (0:UInt8))):Int)))):Int)),Zy AI dm,Zy AI (Zz AI (bU+1))])))) (Zd (Yd (Yq 0,[Zb b,Zy AI n,Zy AI bf,Zv bW,Zy AI bL,Zy AI dm,Zy AI bU]))))) [Zb b,Zy AI pos,Zy AI k,Zv By,Zy AI 0,Zy AI k,Zy AI 0]) λ(r:Ex×List AV)=>aW (Yn r) λb dj=>ag AI dj λn dr=>ag AI dr λbf dH=>aq dH λb eK=>ag AI eK λbL fL=>ag AI fL λdm f_=>ag AI f_ λbU g7=>ak g7 (jl r.1 Wp λj=>aE (Xv j 0) (Zd (Yw [Zy AI bL,Zy AI (Zz AI (n+bf)),Zy AI 0],[])) Wp)))) ?_;delta kI;dsimp only[yM,aI,aW,aq,cO,ag,bH,dc];simp only[Zf,Qa2] at ay;obtain⟨⟨hb,Tb⟩,n6⟩:=ay;simp only[A0];rw[ae (by simpa using hb)];unfold Kerb.get;by_cases hr:Xg b pos k=0
 .rw[ah (by simp[hr]),Qa1 hr];obtain⟨q1,q2,q3,q4⟩:=Kerb.iB.1 hr;have xf:=Kerb.jd hr;obtain⟨L,hL⟩:∃ L,L=cond By (Kerb.cut b pos k).reverse (Kerb.cut b pos k):=⟨_,rfl⟩;have hLl:L.length=k.toNat:=by rw[hL];cases By<;>simp[xf]
  rw[<-hL];refine bQ (λi:Nat=>[Zb b,Zy Zj pos,Zy Zj k,Zv By,Zy Zj (Kerb.jU (L.take i)),Zy Zj k,Zy Zj (i:Int)]) (λi=>i<=k.toNat) (λi=>k.toNat-i)
   (λr=>r=(Yq 0,[Zb b,Zy Zj pos,Zy Zj k,Zv By,Zy Zj (Kerb.jU L),Zy Zj k,Zy Zj k])) 0 (Xm _) rfl ?_ ?_
  .intro i hi;simp only[A0];by_cases fY:i<k.toNat
   .rw[af (by simp;omega)];have hv:=Kerb.Gy (l:=L.take i) (by simp;omega);have hs:=Kerb.vI (l:=L) (i:=i) (by omega);have Y4:L.getD i 0=b.getD (cond By (pos.toNat+(k.toNat-1-i)) (pos.toNat+i)) 0:=by
     rw[hL];cases By
     .exact Kerb.Hc fY
     .show(Kerb.cut b pos k).reverse.getD i 0=_;rw[Kerb.xU (by omega),xf,Kerb.Hc (by omega)];rfl
    cases By
    .rw[ah rfl,wrap_i64 (n:=pos+(i:Int)) (by omega) (by omega),ae (by simp;omega),show(pos+(i:Int)).toNat=pos.toNat+i from by omega];rw[Kerb.AW _ hv.1 (by omega),wrap_i64 (n:=(i:Int)+1) (by omega) (by omega)];refine⟨_,rfl,i+1,?_,by omega,by dsimp only;omega⟩;dsimp only;rw[hs,Y4];rfl
    .rw[af rfl,wrap_i64 (n:=k-1) (by omega) (by omega),wrap_i64 (n:=k-1-(i:Int)) (by omega) (by omega),wrap_i64 (n:=pos+(k-1-(i:Int))) (by omega) (by omega),ae (by simp;omega),show(pos+(k-1-(i:Int))).toNat=pos.toNat+(k.toNat-1-i) from by omega];rw[Kerb.AW _ hv.1 (by omega),wrap_i64 (n:=(i:Int)+1) (by omega) (by omega)];refine⟨_,rfl,i+1,?_,by omega,by dsimp only;omega⟩;dsimp only;rw[hs,Y4];rfl
   .rw[ah (by simp;omega)];refine⟨_,rfl,?_⟩;show _=_;rw[Yj (by omega),show(i:Int)=k from by omega]
  .rintro r rfl;simp only[A0];rw[af (Yf _),wrap_i64 (by omega) (by omega)]
 .rw[af (by simpa using hr),Qa0 hr]
theorem afU:Wk 212 2 Rg:=by
 refine cw Tryz.func212 λ_ _ _ h=> ?_;unfold Rg at h;split at h;case h_2=>cases h
 rename_i s c;cases h;refine c6 (Zd (Zy AI (Wq c s),[])) ?_;rfl
theorem afZ:Wk 217 2 Ri:=by
 refine cw Tryz.func217 λ_ _ _ h=> ?_;unfold Ri at h;split at h;case h_2=>cases h
 rename_i els;obtain⟨ay,rfl⟩:=dg h;refine c6 (Zq (bD (λst=>bH 1 st λb r=>ag AI r λn r=>bH 1 r λbW r=>ag AI r λbf r=>ag AI r λbL r=>ak r (aE (Zu (bL<bf)) (aB (Zu (0<=bL)&&Zu (bL<(Zx bW:Int))&&Yp) (AV.cS (Zn bW (Zw bL) Xq) λeg=>aE (Zu (Zz AI (n+(Zx eg:Int))<0)) Wp (Zd (Xz [Yv 1 b,Zy AI (Zz AI (n+(Zx eg:Int))),Yv 1 bW,Zy AI bf,Zy AI (Zz AI (bL+1))])))) (Zd (Yd (Yq 0,[Yv 1 b,Zy AI n,Yv 1 bW,Zy AI bf,Zy AI bL]))))) [Yv 1 els,Zy AI 0,Yv 1 els,Zy AI (Zx els:Int),Zy AI 0]) λ(r:Ex×List AV)=>bH 1 (Yn r) λb dj=>ag AI dj λn dr=>bH 1 dr λbW dH=>ag AI dH λbf eK=>ag AI eK λbL fL=>ak fL (jl r.1 Wp λj=>aE (Xv j 0) (Zq (Ju [AV.dq,Zy AI n] []) (kO λl=>Zq (bD (λst=>aA st λx r=>AV.fJ x λb=>bH 1 r λeg r=>ag AI r λn r=>ag AI r λdm r=>ak r (aE (Zu (dm<n)) (aB (Zu (0<=dm)&&Zu (dm<(Zx eg:Int))&&Yp) (AV.cS (Zn eg (Zw dm) Xq) λeG=>aB (room (Zx b+Zx eG) 1) (Zd (Xz [Xy (b++eG),Yv 1 eg,Zy AI n,Zy AI (Zz AI (dm+1))])))) (Zd (Yd (Yq 2,[Xy b,Yv 1 eg,Zy AI n,Zy AI dm]))))) [Xy l,Yv 1 b,Zy AI (Zx b:Int),Zy AI 0]) λ(r:Ex×List AV)=>aA (Yn r) λx f_=>AV.fJ x λb=>bH 1 f_ λeg g7=>ag AI g7 λn iA=>ag AI iA λn io=>ak io (jl r.1 Wp λj=>aE (Xv j 2) (Zd (Xy b,[])) Wp))) Wp)) ?_;delta kO;dsimp only[Ju,aI,aW,aq,cO,ag,bH,dc];simp only[Zf,Qa2] at ay;obtain⟨⟨ha,hl⟩,x3⟩:=ay;refine bQ (λi:Nat=>[Yv 1 els,Zy Zj ((tX (els.take i)).length:Int),Yv 1 els,Zy Zj (els.length:Int),Zy Zj (i:Int)]) (λi=>i<=els.length) (λi=>els.length-i)
  (λr=>r=(Yq 0,[Yv 1 els,Zy Zj ((tX els).length:Int),Yv 1 els,Zy Zj (els.length:Int),Zy Zj (els.length:Int)])) 0 (Xm _) rfl ?_ ?_
 .intro i hi;simp only[A0];by_cases fY:i<els.length
  .obtain⟨l,h1,h2,h3⟩:=Kerb.Bc ha fY;rw[af (by simp;omega),ae (by simp;omega),Yy,h1,qN,wrap_i64 (n:=((tX (els.take i)).length:Int)+(l.length:Int)) (by omega) (by omega),ah (by simp;omega),wrap_i64 (by omega) (by omega)];refine⟨_,rfl,i+1,?_,by omega,by dsimp only;omega⟩;dsimp only;rw[h2,List.length_append,Int.natCast_add];rfl
  .rw[ah (by simp;omega)];refine⟨_,rfl,?_⟩;show _=_;rw[Yj (by omega),show i=els.length from by omega]
 rintro r rfl;simp only[A0];rw[af (Yf _),ae (by simp;omega)];refine bQ (λi:Nat=>[Xy (tX (els.take i)),Yv 1 els,Zy Zj (els.length:Int),Zy Zj (i:Int)]) (λi=>i<=els.length) (λi=>els.length-i)
  (λr=>r=(Yq 2,[Xy (tX els),Yv 1 els,Zy Zj (els.length:Int),Zy Zj (els.length:Int)])) 0 (Xm _) rfl ?_ ?_
 .intro i hi;simp only[A0];by_cases fY:i<els.length
  .obtain⟨l,h1,h2,h3⟩:=Kerb.Bc ha fY;rw[af (by simp;omega),ae (by simp;omega),Yy,h1,qN,ae (Xx (by omega)),wrap_i64 (by omega) (by omega)];refine⟨_,rfl,i+1,?_,by omega,by dsimp only;omega⟩;dsimp only;rw[h2];rfl
  .rw[ah (by simp;omega)];refine⟨_,rfl,?_⟩;show _=_;rw[Yj (by omega),show i=els.length from by omega]
 rintro r rfl;simp only[A0];rw[af (Yf _)]
theorem af_:Wk 228 2 Rm:=by
 refine cw Tryz.func228 λ_ _ _ h=> ?_;unfold Rm at h;split at h;case h_2=>cases h
 rename_i a b;cases h;refine c6 (aE (Zm a 4294967295) (aE (Zm b 4294967295) (Zd (Zv (Zu (a<=b)),[])) (Zd (Zv Yz,[]))) (Zd (Zv Yz,[]))) ?_;unfold Kerb.period;cases Zm a 4294967295
 .rfl
 cases Zm b 4294967295<;>rfl
theorem agf:Wk 240 2 Rt:=by
 refine cw Tryz.func240 λ_ _ _ h=> ?_;unfold Rt at h;split at h;case h_2=>cases h
 rename_i b;cases h;refine c6 (aE (Zu ((Zx b:Int)<2)) (Zd (Yw [Zy AI 0,Zv Yz,Zy AI 101],[])) (aB (Zu (0<(Zx b:Int))) (aE (!Zn b (Zw 0) (0:UInt8)==(4:UInt8)) (Zd (Yw [Zy AI 0,Zv Yz,Zy AI 39],[])) (aB (Zu (1<(Zx b:Int))) (aE (!Xw (Zz AI (Wv (Zz AI (↑(Zg (Zn b (Zw 1) (0:UInt8))):Int)) 2))) (Zd (Yw [Zy AI 0,Zv Yz,Zy AI 40],[])) (aB (Zu (1<(Zx b:Int))) (Zd (Yw [Zy AI (Zz AI (Wv (Zz AI (↑(Zg (Zn b (Zw 1) (0:UInt8))):Int)) 2)),Zv (Zh (Zw (Yx (↑(Zg (Zn b (Zw 1) (0:UInt8))):Int) (↑(Zg (2:UInt8)):Int)))==(1:UInt8)),Zy AI 0],[])))))))) ?_;unfold Kerb.bj;by_cases h1:b.length<2
 .rw[af (by simp;omega)];simp[h1]
 rw[ah (by simp;omega),ae (by simp;omega),Qa0 h1];by_cases h2:b.getD 0 0=4
 .have hb:=(b.getD 1 0).toNat_lt;have e:Zz Zj (Wv (Zz Zj ((b.getD (Zw 1) 0).toNat:Int)) 2)=(((b.getD 1 0).toNat / 2:Nat):Int):=by
   rw[show Zw 1=1 from rfl,wrap_i64 (n:=((b.getD 1 0).toNat:Int)) (by omega) (by omega),Wz (by omega),wrap_i64 (by omega) (by omega)];omega
  have e2:(Zh (Zw (Yx ((b.getD (Zw 1) 0).toNat:Int) ((2:UInt8).toNat:Int)))==1)=Zu ((b.getD 1 0).toNat % 2=1):=by
   rw[show Zw 1=1 from rfl,Yg (by omega)];have e3:Zw (((b.getD 1 0).toNat:Int) % ((2:UInt8).toNat:Int))=(b.getD 1 0).toNat % 2:=by
    show Zw (((b.getD 1 0).toNat:Int) % 2)=_;omega
   rw[e3];rcases Nat.mod_two_eq_zero_or_one (b.getD 1 0).toNat with h | h<;>rw[h]<;>rfl
  rw[ah (by simp[h2] at *;exact h2),ae (by simp;omega),Qa0 (by simpa using h2),e,e2];cases hk:Xw (((b.getD 1 0).toNat / 2:Nat):Int)
  .rfl
  .rw[Yu,aF,ae (by simp;omega)];rfl
 .rw[af (by simpa using h2),Qa1 (by simpa using h2)]
theorem agi:Wk 242 2 Ru:=by
 refine cw Tryz.func242 λ_ _ _ h=> ?_;unfold Ru at h;split at h;case h_2=>cases h
 rename_i k By;cases h;refine c6 (aE (!Xw k) (Zd (Zb [],[])) (aE By (Zd (Zb [(4:UInt8),Zh (Zw (Zz .u8 (Zz AI (Zz AI (2*k)+1))))],[])) (Zd (Zb [(4:UInt8),Zh (Zw (Zz .u8 (Zz AI (2*k))))],[])))) ?_;by_cases h:1<=k/\k<=10
 .have hk:k=1\/k=2\/k=3\/k=4\/k=5\/k=6\/k=7\/k=8\/k=9\/k=10:=by omega
  rcases hk with rfl | rfl | rfl | rfl | rfl | rfl | rfl | rfl | rfl | rfl<;>cases By<;>rfl
 .have hk:Xw k=Yz:=by simp[Xw];omega
  by_cases h1:k<1
  .simp[aE,Xn,hk,h1]
  .have h2:10<k:=by omega
   simp[aE,Xn,hk,h1,h2]
theorem agt:Wk 253 2 CN:=by
 refine cw Tryz.func253 λ_ _ _ h=> ?_;unfold CN at h;split at h;case h_2=>cases h
 rename_i b pos k By;obtain⟨ay,rfl⟩:=dg h;refine c6 (Zq (CF [Zb b,Zy AI pos,Zy AI k] []) (kT λvs=>aW vs λb r=>ag AI r λn r=>ag AI r λbf r=>ak r (aE (!bf==0) (Zd (Yw [Zy AI 0,Zy AI 0,Zy AI bf],[])) (Zq (bD (λst=>ag AI st λn r=>aq r λb r=>aW r λbW r=>ag AI r λbL r=>ag AI r λdm r=>ag AI r λbU r=>ak r (aE (Zu (bU<n)) (aE b (aB (Zu (0<=Zz AI (Zz AI (n-1)-bU))&&Zu (Zz AI (Zz AI (n-1)-bU)<(Zx bW:Int))) (Zd (Xz [Zy AI n,Zv b,Zb bW,Zy AI bL,Zy AI (Zz AI (↑(BitVec.toNat (BitVec.ofInt (Zk AI) (Zz AI (dm*2 ^ min (Zw 8) (Zk AI))) ||| BitVec.ofInt (Zk AI) (Zz AI (↑(Zg (Zn bW (Zw (Zz AI (Zz AI (n-1)-bU))) (0:UInt8))):Int)))):Int)),Zy AI (Zz AI (bU+1))]))) (aB (Zu (0<=bU)&&Zu (bU<(Zx bW:Int))) (Zd (Xz [Zy AI n,Zv b,Zb bW,Zy AI bL,Zy AI (Zz AI (↑(BitVec.toNat (BitVec.ofInt (Zk AI) (Zz AI (dm*2 ^ min (Zw 8) (Zk AI))) ||| BitVec.ofInt (Zk AI) (Zz AI (↑(Zg (Zn bW (Zw bU) (0:UInt8))):Int)))):Int)),Zy AI (Zz AI (bU+1))])))) (Zd (Yd (Yq 0,[Zy AI n,Zv b,Zb bW,Zy AI bL,Zy AI dm,Zy AI bU]))))) [Zy AI k,Zv By,Zb b,Zy AI n,Zy AI 0,Zy AI 0]) λ(r:Ex×List AV)=>ag AI (Yn r) λn dj=>aq dj λb dr=>aW dr λb dH=>ag AI dH λn eK=>ag AI eK λbL fL=>ag AI fL λdm f_=>ak f_ (jl r.1 Wp λj=>aE (Xv j 0) (Zd (Yw [Zy AI bL,Zy AI n,Zy AI 0],[])) Wp))))) ?_;delta kT;dsimp only[CF,aI,aW,aq,cO,ag,bH,dc];simp only[Zf,Qa2] at ay;obtain⟨⟨hb,Tb⟩,n6⟩:=ay;simp only[A0];rw[ae (by simpa using hb)];unfold Kerb.get Kerb.bytes;by_cases hr:Xg b pos k=0;case neg =>
  rw[Qa0 hr,Qa0 hr,af (by simpa using hr)]
 rw[Qa1 hr,Qa1 hr,ah (by simp)];obtain⟨q1,q2,q3,q4⟩:=Kerb.iB.1 hr;have xf:=Kerb.jd hr;obtain⟨C,hC⟩:∃ C,C=Kerb.cut b pos k:=⟨_,rfl⟩;rw[<-hC] at xf ⊢;obtain⟨L,hL⟩:∃ L,L=cond By C.reverse C:=⟨_,rfl⟩;have hLl:L.length=k.toNat:=by rw[hL];cases By<;>simp[xf]
 rw[<-hL];refine bQ (λi:Nat=>[Zy Zj k,Zv By,Zb C,Zy Zj (pos+k),Zy Zj (Kerb.jU (L.take i)),Zy Zj (i:Int)]) (λi=>i<=k.toNat) (λi=>k.toNat-i)
  (λr=>r=(Yq 0,[Zy Zj k,Zv By,Zb C,Zy Zj (pos+k),Zy Zj (Kerb.jU L),Zy Zj k])) 0 (Xm _) rfl ?_ ?_
 .intro i hi;simp only[A0];by_cases fY:i<k.toNat
  .rw[af (by simp;omega)];have hv:=Kerb.Gy (l:=L.take i) (by simp;omega);have hs:=Kerb.vI (l:=L) (i:=i) (by omega);have Y4:L.getD i 0=C.getD (cond By (k.toNat-1-i) i) 0:=by
    rw[hL];cases By
    .rfl
    .show C.reverse.getD i 0=_;rw[Kerb.xU (by omega),xf];rfl
   cases By
   .rw[ah rfl,ae (by simp;omega),Yy];rw[Kerb.AW _ hv.1 (by omega),wrap_i64 (n:=(i:Int)+1) (by omega) (by omega)];refine⟨_,rfl,i+1,?_,by omega,by dsimp only;omega⟩;dsimp only;rw[hs,Y4];rfl
   .rw[af rfl,wrap_i64 (n:=k-1) (by omega) (by omega),wrap_i64 (n:=k-1-(i:Int)) (by omega) (by omega),ae (by simp;omega),show(k-1-(i:Int)).toNat=k.toNat-1-i from by omega];rw[Kerb.AW _ hv.1 (by omega),wrap_i64 (n:=(i:Int)+1) (by omega) (by omega)];refine⟨_,rfl,i+1,?_,by omega,by dsimp only;omega⟩;dsimp only;rw[hs,Y4];rfl
  .rw[ah (by simp;omega)];refine⟨_,rfl,?_⟩;show _=_;rw[Yj (by omega),show(i:Int)=k from by omega]
 .rintro r rfl;simp only[A0];rw[af (Yf _)]
theorem agx:Wk 260 2 CO:=by
 refine cw Tryz.func260 λ_ _ _ h=> ?_;unfold CO at h;split at h;case h_2=>cases h
 rename_i x;obtain⟨ay,rfl⟩:=dg h;refine c6 (Zq (JC [Zy AT x] []) (kI AI λn=>Zd (Zy AI n,[]))) ?_;delta kI;dsimp only[JC,aI,aW,aq,cO,ag,bH,dc];simp only[Kerb.F6,Bool.true_and,Zf,Qa2] at ay;rw[ae (by simp;omega)];rfl
theorem agG:Wk 269 2 RB:=by
 refine cw Tryz.func269 λ_ _ _ h=> ?_;unfold RB at h;split at h;case h_2=>cases h
 rename_i x y;cases h;refine c6 (Zd (Zv (Zu (x<y)),[])) ?_;rfl
theorem agR:Wk 281 2 RG:=by
 refine cw Tryz.func281 λ_ _ _ h=> ?_;unfold RG at h;split at h;case h_2=>cases h
 rename_i s c;cases h;refine c6 (Zd (Zy AI (Wq c s),[])) ?_;rfl
theorem w25:Wk 25 3 Ld:=by
 refine cw Tryz.func25 λ_ _ _ h=> ?_;unfold Ld at h;split at h;case h_2=>cases h
 rename_i li mu kv rl tk au;obtain⟨ay,rfl⟩:=dg h;refine c6 (Zq (Gs [Zp rl] []) (kL λb=>aE (!b) (Zd (Yw [Zb [],Zy AI 103],[])) (aE (!Zm kv 255) (Zd (Yw [Zb [],Zy AI 104],[])) (aE (Zu ((Zx tk:Int)>255)) (Zd (Yw [Zb [],Zy AI 105],[])) (aE (Zu ((Zx au:Int)>255)) (Zd (Yw [Zb [],Zy AI 105],[])) (aE mu (Zq (jv [Zb (Xn 4 li),Zy AI kv] []) (kO λl=>Zq (qv [Zb l,Zp rl] []) (kO λl=>Zq (jv [Zb l,Zy AI (Zx tk:Int)] []) (kO λl=>Zq (jv [Zb l,Zy AI (Zx au:Int)] []) (kO λl=>aB (room (Zx l+Zx tk) 1) (aB (room (Zx (l++tk)+Zx au) 1) (Zd (Yw [Zb (l++tk++au),Zy AI 0],[])))))))) (Zq (jv [Zb (Xn 3 li),Zy AI kv] []) (kO λl=>Zq (qv [Zb l,Zp rl] []) (kO λl=>Zq (jv [Zb l,Zy AI (Zx tk:Int)] []) (kO λl=>Zq (jv [Zb l,Zy AI (Zx au:Int)] []) (kO λl=>aB (room (Zx l+Zx tk) 1) (aB (room (Zx (l++tk)+Zx au) 1) (Zd (Yw [Zb (l++tk++au),Zy AI 0],[])))))))))))))) ?_;delta kO kL;dsimp only[Gs,jv,qv,aI,aW,aq,cO,ag,bH,dc];simp only[A0,Xp,Xb,Kerb.eL.av,ay];unfold Kerb.bh;simp only;cases h1:Kerb.dO rl
 .rfl
 rw[Yu,aF,Qa0 (by simp)];cases h2:Zm kv 255
 .rfl
 rw[Yu,aF,Qa0 (by simp)];by_cases h3:255<tk.length
 .rw[af (by simp;omega),Qa1 (.inl h3)]
 rw[ah (by simp;omega)];by_cases h4:255<au.length
 .rw[af (by simp;omega),Qa1 (.inr h4)]
 rw[ah (by simp;omega),Qa0 (by omega)];have l1:=Kerb.gm h1;have g3:=Kerb.kR 3 li;have g4:=Kerb.kR 4 li;cases mu
 .rw[aF,ae (by simp;omega),ae (by simp[Yb];omega),ae (by simp[Yb,Kerb.cf];omega),ae (by simp[Yb,Kerb.cf];omega),ae (Xx (by simp[Yb,Kerb.cf];omega)),ae (Xx (by simp[Yb,Kerb.cf];omega))];rfl
 .rw[b_,ae (by simp;omega),ae (by simp[Yb];omega),ae (by simp[Yb,Kerb.cf];omega),ae (by simp[Yb,Kerb.cf];omega),ae (Xx (by simp[Yb,Kerb.cf];omega)),ae (Xx (by simp[Yb,Kerb.cf];omega))];rfl
theorem w36:Wk 36 3 Lf:=by
 refine cw Tryz.func36 λ_ _ _ h=> ?_;unfold Lf at h;split at h;case h_2=>cases h
 rename_i n;obtain⟨ay,rfl⟩:=dg h;refine c6 (aB (Zu (0<=Yx n 3)&&Zu (Yx n 3<(↑(Zx [Zp [(97:UInt8),(110:UInt8),(110:UInt8)],Zp [(98:UInt8),(111:UInt8),(98:UInt8)],Zp [(99:UInt8),(97:UInt8),(116:UInt8)]]):Int))&&Yp) (AV.fK (Zn [Zp [(97:UInt8),(110:UInt8),(110:UInt8)],Zp [(98:UInt8),(111:UInt8),(98:UInt8)],Zp [(99:UInt8),(97:UInt8),(116:UInt8)]] (Zw (Yx n 3)) Xq) λb=>Zq (Cw [Zy AI (Zz AI (Wv n 3))] []) (kS λbW=>Zd (AV.agg [Zp b,Zp [],Zp bW],[])))) ?_;delta kS;dsimp only[Cw,aI,aW,aq,cO,ag,bH,dc];have hn:0<=n:=by first | exact Qa3 ay | (simp only[Zf,Qa2] at ay;exact ay.1)
 have ht:Yx n 3=n % 3:=Yg hn;have x4:n % 3=0\/n % 3=1\/n % 3=2:=by omega
 simp only[Zf,Qa2] at ay;have hd:Wv n 3=n / 3:=Wz hn;rw[hd,wrap_i64 (by omega) (by omega)];have hq:Zu ((0:Int)<=n / 3)=Yp:=by simp;omega
 rcases x4 with e | e | e<;>simp[ht,e,aB,AV.fK,Kerb.user,hq,aD]<;>omega
theorem w40:Wk 40 3 WQ:=by
 refine cw Tryz.func40 λ_ _ _ h=> ?_;unfold WQ at h;split at h;case h_2=>cases h
 rename_i s li;cases h;refine c6 (aE (Zu ((Zx s:Int)>1012)) (Zd (Yw [Zb [],Zy AI 105],[])) (Zq (mG [Zb (Xn 8 li),Zy AI (Zx s:Int),Zv li] []) (kO λl=>aB (room (Zx l+Zx s) 1) (Zd (Yw [Zb (l++s),Zy AI 0],[]))))) ?_;delta kO;dsimp only[mG,aI,aW,aq,cO,ag,bH,dc];unfold Kerb.cj;by_cases h:1012<s.length
 .rw[af (by simp;omega),Qa1 h]
 rw[ah (by simp;omega),Qa0 h];have hl:(Xn 8 li).length=2:=by cases li<;>rfl
 simp only[↓A0];rw[ae (by simp[hl]),ae (by simp[room,Yb,hl];omega)]
theorem w42:Wk 42 3 WS:=by
 refine cw Tryz.func42 λ_ _ _ h=> ?_;unfold WS at h;split at h;case h_2=>cases h
 rename_i op cd bx;cases h;refine c6 (let t0:Option (AV×aO):=Zq (jv [Zb (Xn 9 Yz++Kerb.aJ (Zz AI (op+128)) 1 Yz),Zy AI cd] []) (kO λl=>Zq (mG [Zb l,Zy AI (Zx bx:Int),Zv Yz] []) (kO λl=>aB (room (Zx l+Zx bx) 1) (Zd (Yw [Zb (l++bx),Zy AI 0],[]))));aE (Zu (op<1)) (Zd (Yw [Zb [],Zy AI 40],[])) (aE (Zu (op>3)) (Zd (Yw [Zb [],Zy AI 40],[])) (aE (Zu (cd<0)) (Zd (Yw [Zb [],Zy AI 104],[])) (aE (Zu (cd>99)) (Zd (Yw [Zb [],Zy AI 104],[])) (aE (Zu ((Zx bx:Int)>1012)) (Zd (Yw [Zb [],Zy AI 105],[])) (aE (!cd==0) (aE (Zu ((Zx bx:Int)>0)) (Zd (Yw [Zb [],Zy AI 108],[])) t0) t0)))))) ?_;delta kO;dsimp only[jv,mG,aI,aW,aq,cO,ag,bH,dc];simp only[A0];have sL:(Xn 9 Yz).length=2:=rfl;unfold Kerb.bw;simp only;by_cases h0:1<=op/\op<=3;case neg =>
  have e:Kerb.nc op=Yz:=by simp[Kerb.nc];omega
  rw[e];by_cases h1:op<1
  .rw[af (by simpa using h1)];rfl
  .rw[ah (by simpa using h1),af (by simp;omega)];rfl
 have e:Kerb.nc op=Yp:=by simp[Kerb.nc];omega
 rw[e,ah (by simp;omega),ah (by simp;omega),Qa0 (by simp)];by_cases h1:0<=cd/\cd<=99;case neg =>
  have e:Zm cd 99=Yz:=by simp[Zm];omega
  rw[e];by_cases h2:cd<0
  .rw[af (by simpa using h2)];rfl
  .rw[ah (by simpa using h2),af (by simp;omega)];rfl
 have e:Zm cd 99=Yp:=by simp[Zm];omega
 rw[e,ah (by simp;omega),ah (by simp;omega),Qa0 (by simp)];by_cases h2:1012<bx.length
 .rw[af (by simp;omega),Qa1 h2]
 rw[ah (by simp;omega),Qa0 h2,wrap_i64 (by omega) (by omega)];by_cases h3:cd=0
 .rw[ah (by simp[h3]),Qa0 (by simp[h3]),ae (by simp[Yb,sL]),ae (by simp[Yb,sL]),ae (Xx (by simp[Yb,sL];omega))];rfl
 rw[af (by simpa using h3)];by_cases h4:bx=[]
 .rw[ah (by simp[h4]),Qa0 (by simp[h4]),ae (by simp[Yb,sL]),ae (by simp[Yb,sL]),ae (Xx (by simp[Yb,sL];omega))];rfl
 .rw[af (by have:=List.length_pos_iff.2 h4;simp;omega),Qa1 ⟨h3,h4⟩]
theorem w58:Wk 58 3 CU:=by
 refine cw Tryz.func58 λ_ _ _ h=> ?_;unfold CU at h;split at h;case h_2=>cases h
 rename_i b;obtain⟨ay,rfl⟩:=dg h;refine c6 (aE (!(Zx b:Int)==8) (Zd (Yw [Zy AT 0,Zv Yz],[])) (Zq (bD (λst=>aW st λb r=>ag AT r λn r=>ag AI r λbf r=>ak r (aE (Zu (bf<8)) (aB (Zu (0<=bf)&&Zu (bf<(Zx b:Int))) (Zd (Xz [Zb b,Zy AT (Zz AT (↑(BitVec.toNat (BitVec.ofInt (Zk AT) (Zz AT (n*2 ^ min (Zw 8) (Zk AT))) ||| BitVec.ofInt (Zk AT) (Zz AT (↑(Zg (Zn b (Zw bf) (0:UInt8))):Int)))):Int)),Zy AI (Zz AI (bf+1))]))) (Zd (Yd (Yq 0,[Zb b,Zy AT n,Zy AI bf]))))) [Zb b,Zy AT 0,Zy AI 0]) λ(r:Ex×List AV)=>aW (Yn r) λb dj=>ag AT dj λn dr=>ag AI dr λbf dH=>ak dH (jl r.1 Wp λj=>aE (Xv j 0) (Zq (mH [Zy AT n] []) (kL λb=>aE (!b) (Zd (Yw [Zy AT 0,Zv Yz],[])) (Zd (Yw [Zy AT n,Zv Yp],[])))) Wp))) ?_;delta kL;dsimp only[mH,aI,aW,aq,cO,ag,bH,dc];have hb:=Qa3 ay;unfold Kerb.cK;by_cases h8:b.length=8;case neg =>
  rw[af (by simp;omega),Qa0 (by omega)]
 rw[ah (by simp[h8])];refine bQ (λi:Nat=>[Zb b,Zy Ym (Kerb.jU (b.take i)),Zy Zj (i:Int)]) (λi=>i<=8) (λi=>8-i)
  (λr=>r=(Yq 0,[Zb b,Zy Ym (Kerb.jU b),Zy Zj 8])) 0 (by omega) rfl ?_ ?_
 .intro i hi;simp only[A0];by_cases fY:i<8
  .have hv:=Kerb.vI (l:=b) (i:=i) (by omega);have U_:=Kerb.JL (l:=b.take i) (by simp;omega);rw[af (by simp;omega),ae (by simp;omega),Yy,Kerb.IL _ U_.1 U_.2,wrap_i64 (by omega) (by omega),<-hv];exact⟨_,rfl,i+1,rfl,by omega,by dsimp only;omega⟩
  .rw[ah (by simp;omega)];refine⟨_,rfl,?_⟩;show _=_;rw[Yj (by omega),show i=8 from by omega];rfl
 rintro r rfl;have U_:=Kerb.C1 (l:=b) (by omega);simp only[A0];rw[af (Yf _),ae (by simp;omega)];cases hv:Kerb.bB (Kerb.jU b)
 .rw[Qa0 (by simp)];rfl
 .rw[Qa1 ⟨h8,rfl⟩];rfl
theorem w59:Wk 59 3 RZ:=by
 refine cw Tryz.func59 λ_ _ _ h=> ?_;unfold RZ at h;split at h;case h_2=>cases h
 rename_i n;obtain⟨ay,rfl⟩:=dg h;refine c6 (let t1:List AV:=[AV.agg [Zp [(109:UInt8),(97:UInt8),(105:UInt8),(108:UInt8)],Zp [],Zp []],AV.agg [Zp [(110:UInt8),(102:UInt8),(115:UInt8)],Zp [(104:UInt8),(111:UInt8),(109:UInt8),(101:UInt8)],Zp []],AV.agg [Zp ([107,114,98,116,103,116]:List UInt8),Zp [(65:UInt8),(84:UInt8),(72:UInt8)],Zp []]];let t0:Int:=(Zx t1:Int);aB (Zu (0<=Yx n 3)&&Zu (Yx n 3<t0)&&Yp) (AV.cR (Zn t1 (Zw (Yx n 3)) Xq) λcs=>aI cs λb r=>aI r λbW r=>aI r λeg r=>ak r (Zq (Cw [Zy AI (Zz AI (Wv n 3))] []) (kS λeG=>Zd (AV.agg [Zp b,Zp bW,Zp eG],[]))))) ?_;delta kS;dsimp only[Cw,aI,aW,aq,cO,ag,bH,dc];have hn:0<=n:=by first | exact Qa3 ay | (simp only[Zf,Qa2] at ay;exact ay.1)
 have ht:Yx n 3=n % 3:=Yg hn;have x4:n % 3=0\/n % 3=1\/n % 3=2:=by omega
 simp only[Zf,Qa2] at ay;have hd:Wv n 3=n / 3:=Wz hn;rw[hd,wrap_i64 (by omega) (by omega)];have hq:Zu ((0:Int)<=n / 3)=Yp:=by simp;omega
 rcases x4 with e | e | e<;>simp[ht,e,aB,AV.fK,AV.cR,aA,ak,Kerb.service,hq,aD]<;>omega
theorem w67:Wk 67 3 Oh:=by
 refine cw Tryz.func67 λ_ _ _ h=> ?_;unfold Oh at h;split at h;case h_2=>cases h
 rename_i lb t st en k;obtain⟨ay,rfl⟩:=dg h;refine c6 (let t5:Option (AV×aO):=Zd (Yw [Xy [],Zy AI 104],[]);let t6:Option (AV×aO):=Zd (Yw [Xy [],Zy AI 108],[]);let t7:Bool:=lb==[(103:UInt8),(84:UInt8),(75:UInt8),(84:UInt8)];let t4:Option (AV×aO):=Zq (fv [Zb lb,Zy AI t,Zv Yz] []) (kO λl=>aE t7 (Zq (fv [Zb l,Zy AI st,Zv Yz] []) (kO λl=>Zq (fv [Zb l,Zy AI en,Zv Yz] []) (kO λl=>Zq (jF [Zb l] []) (kO λl=>Zd (Yw [Xy l,Zy AI 0],[]))))) (Zq (nG [Zy AT k] []) (kB λb=>aB (room (Zx l+Zx b) 1) (Zq (jF [Zb (l++b)] []) (kO λl=>Zd (Yw [Xy l,Zy AI 0],[]))))));let t3:Option (AV×aO):=aE (!t7) (aE (!st==0) t6 (aE (!en==0) t6 t4)) t4;let t2:Option (AV×aO):=aE t7 (aE (!k==0) t6 t3) t3;let t1:Option (AV×aO):=aE (!t7) (Zq (mH [Zy AT k] []) (kL λb=>aE (!b) (Zd (Yw [Xy [],Zy AI 10],[])) t2)) t2;let t0:Option (AV×aO):=aE (!Zm t 4294967295) t5 (aE t7 (aE (!Zm st 4294967295) t5 (aE (!Zm en 4294967295) t5 t1)) t1);aE (lb==[(103:UInt8),(84:UInt8),(71:UInt8),(83:UInt8)]) (aE (!Zm t 4294967295) t5 (aE (!Zm st 4294967295) t5 (aE (!Zm en 4294967295) t5 (aE (!k==0) t6 (Zq (fv [Zb lb,Zy AI t,Zv Yz] []) (kO λl=>Zq (fv [Zb l,Zy AI st,Zv Yz] []) (kO λl=>Zq (fv [Zb l,Zy AI en,Zv Yz] []) (kO λl=>Zq (jF [Zb l] []) (kO λl=>Zd (Yw [Xy l,Zy AI 0],[])))))))))) (aE (!t7) (aE (!lb==[(67:UInt8),(80:UInt8),(87:UInt8),(108:UInt8)]) (Zd (Yw [Xy [],Zy AI 80],[])) t0) t0)) ?_;delta kB kO kL;dsimp only[fv,mH,nG,jF,aI,aW,aq,cO,ag,bH,dc];have MP:([103,84,71,83]:List UInt8)=Kerb.vM:=rfl;have DV:([103,84,75,84]:List UInt8)=Kerb.ly:=rfl;have Hj:([67,80,87,108]:List UInt8)=Kerb.fO:=rfl;have zW:([67,80,87,100]:List UInt8)=Kerb.lH:=rfl;have MQ:([116,103,115,84]:List UInt8)=Kerb.zu:=rfl;have zg:([116,107,116,71]:List UInt8)=Kerb.p_:=rfl;simp only[A0,Hj,MP,DV,ay];unfold Kerb.aR;simp only;cases hg:(lb==Kerb.vM);case true =>
  have ht:Kerb.jG lb=Yp:=by simp[Kerb.jG,hg]
  have hl:lb.length=4:=by rw[Qb0 hg];rfl
  simp only[ht,b_,Yu,Bool.false_and];rw[Qa0 (by simp)];cases h1:Zm t 4294967295
  .rfl
  rw[Yu,aF,Qa0 (by simp),Qa1 trivial];cases h2:Zm st 4294967295
  .rfl
  rw[Yu,aF];cases h3:Zm en 4294967295
  .rfl
  rw[Yu,aF,Qa0 (by simp)];by_cases h4:k=0;case neg=>rw[af (by simpa using h4),Qa1 h4]
  rw[ah (by simp[h4]),Qa0 (by simp[h4]),ae (by simp;omega),ae (by simp[Yb];omega),ae (by simp[Yb];omega),ae (by simp[Yb];omega)]
 cases hk:(lb==Kerb.ly);case true =>
  have ht:Kerb.jG lb=Yp:=by simp[Kerb.jG,hk]
  have hl:lb.length=4:=by rw[Qb0 hk];rfl
  simp only[ht,b_,aF,Yu,Bool.false_and];rw[Qa0 (by simp)];cases h1:Zm t 4294967295
  .rfl
  rw[Yu,aF,Qa0 (by simp),Qa1 trivial];cases h2:Zm st 4294967295
  .rfl
  rw[Yu,aF];cases h3:Zm en 4294967295
  .rfl
  rw[Yu,aF,Qa0 (by simp)];by_cases h4:k=0;case neg=>rw[af (by simpa using h4),Qa1 h4]
  rw[ah (by simp[h4]),Qa0 (by simp[h4]),ae (by simp;omega),ae (by simp[Yb];omega),ae (by simp[Yb];omega),ae (by simp[Yb];omega)]
 have ht:Kerb.jG lb=Yz:=by simp[Kerb.jG,hg,hk]
 simp only[ht,b_,aF,Bool.not_false,Bool.true_and];cases hc:(lb==Kerb.fO)
 .rfl
 have hl:lb.length=4:=by rw[Qb0 hc];rfl
 rw[Yu,aF,Qa0 (by simp)];cases h1:Zm t 4294967295
 .rfl
 rw[Yu,aF,Qa0 (by simp),Qa0 (by simp)];cases h2:Kerb.bB k
 .rfl
 rw[Yu,aF,Qa0 (by simp)];by_cases h3:st=0;case neg=>rw[af (by simpa using h3),Qa1 (.inl h3)]
 rw[ah (by simp[h3])];by_cases h4:en=0;case neg=>rw[af (by simpa using h4),Qa1 (.inr h4)]
 rw[ah (by simp[h4]),Qa0 (by simp[h3,h4]),ae (by simp;omega),ae (Xx (by simp[Yb,Kerb.aj];omega)),ae (by simp[Yb,Kerb.aj];omega)]
theorem w71:Wk 71 3 Ll:=by
 refine cw Tryz.func71 λ_ _ _ h=> ?_;unfold Ll at h;split at h;case h_2=>cases h
 rename_i kd k bd;obtain⟨ay,rfl⟩:=dg h;refine c6 (let t0:List UInt8:=[Zh (Zw (Zz .u8 (Xu (Zx bd:Int) (2 ^ min (Zw 8) (Zk AI))))),Zh (Zw (Zz .u8 (Zx bd:Int)))];let t1:List UInt8:=[(66:UInt8),Zh (Zw (Zz .u8 kd))];aE (Zu (kd<1)) (Zd (Yw [Zb [],Zy AI 104],[])) (aE (Zu (kd>10)) (Zd (Yw [Zb [],Zy AI 104],[])) (Zq (mH [Zy AT k] []) (kL λb=>aE (!b) (Zd (Yw [Zb [],Zy AI 10],[])) (aE (Zu ((Zx bd:Int)>1000)) (Zd (Yw [Zb [],Zy AI 105],[])) (Zq (nG [Zy AT k] []) (kB λb=>aB (room (Zx t1+Zx b) 1) (aB (room (Zx (t1++b)+Zx t0) 1) (aB (room (Zx (t1++b++t0)+Zx bd) 1) (Zd (Yw [Zb (t1++b++t0++bd),Zy AI 0],[]))))))))))) ?_;delta kB kL;dsimp only[mH,nG,aI,aW,aq,cO,ag,bH,dc];simp only[A0,Xp,Xb,Kerb.eL.av,ay];unfold Kerb.g_;by_cases k1:1<=kd;case neg =>
  rw[af (by simp;omega),Qa1 (by simp[Xw];omega)]
 by_cases k2:kd<=10;case neg =>
  rw[ah (by simp;omega),af (by simp;omega),Qa1 (by simp[Xw];omega)]
 rw[ah (by simp;omega),ah (by simp;omega),Qa0 (by simp[Xw];omega)];cases h2:Kerb.bB k
 .rfl
 rw[Yu,aF,Qa0 (by simp)];by_cases h3:1000<bd.length
 .rw[af (by simp;omega),Qa1 h3]
 have lk:=Kerb.aj k;rw[ah (by simp;omega),Qa0 h3,ae (Xx (by simp;omega)),ae (Xx (by simp;omega)),ae (Xx (by simp;omega)),Kerb.Ov,Kerb.wrap_u8,Int.emod_eq_of_lt (by omega) (by omega)]
theorem w80:Wk 80 3 CW:=by
 refine cw Tryz.func80 λ_ _ _ h=> ?_;unfold CW at h;split at h;case h_2=>cases h
 rename_i k;obtain⟨ay,rfl⟩:=dg h;refine c6 (Zq (mH [Zy AT k] []) (kL λb=>aE (!b) (Zd (Yv 1 [],[])) (Zd (Yv 1 [Zy AT k],[])))) ?_;delta kL;dsimp only[mH,aI,aW,aq,cO,ag,bH,dc];simp only[A0,Xp,Xb,Kerb.eL.av,ay];unfold Kerb.ec;cases h:Kerb.bB k
 .simp[h,Yk,aE]
 .simp[h,Yk,aE]
theorem w97:Wk 97 3 zQ:=by
 refine cw Tryz.func97 λ_ _ _ h=> ?_;unfold zQ at h;split at h;case h_2=>cases h
 rename_i k;obtain⟨ay,rfl⟩:=dg h;refine c6 (Zq (CC [Zy AT k] []) (kT λvs=>ag AI vs λn r=>ag AI r λn r=>aq r λb r=>ak r (Zd (Zv b,[])))) ?_;delta kT;dsimp only[CC,aI,aW,aq,cO,ag,bH,dc];simp only[A0];rw[ae ay]
theorem aeo:Wk 106 3 ld:=by
 refine cw Tryz.func106 λ_ _ _ h=> ?_;unfold ld at h;split at h;case h_2=>cases h
 rename_i a b c;obtain⟨ay,rfl⟩:=dg h;refine c6 (Zq (u9 [Zp a] []) (kL λbW=>aE bW (Zq (u_ [Zp b] []) (kL λb=>aE b (Zq (Gs [Zp c] []) (kL λb=>Zd (Zv b,[]))) (Zd (Zv Yz,[])))) (Zd (Zv Yz,[])))) ?_;delta kL;dsimp only[Gs,u9,u_,aI,aW,aq,cO,ag,bH,dc];simp only[Zf,Qa2] at ay;simp only[A0];rw[ae (by simp;omega),ae (by simp;omega),ae (by simp;omega)];simp only[Kerb.bn.valid];cases Kerb.validName a<;>cases Kerb.cA b<;>rfl
theorem aey:Wk 116 3 Ap:=by
 refine cw Tryz.func116 λ_ _ _ h=> ?_;unfold Ap at h;split at h;case h_2=>cases h
 rename_i b s li;obtain⟨ay,rfl⟩:=dg h;refine c6 (Zq (mG [Zb b,Zy AI (Zx s:Int),Zv li] []) (kO λl=>aB (room (Zx l+Zx s) 1) (Zd (Zb (l++s),[])))) ?_;delta kO;dsimp only[mG,aI,aW,aq,cO,ag,bH,dc];simp only[Zf,Qa2] at ay;simp only[A0,Xp,Xb,Kerb.eL.av];rw[ae (by simp;omega),ae (Xx (by simp[Yb];omega))];rfl
theorem aeJ:Wk 127 3 nT:=by
 refine cw Tryz.func127 λ_ _ _ h=> ?_;unfold nT at h;split at h;case h_2=>cases h
 rename_i B at_ li bad;obtain⟨ay,rfl⟩:=dg h;refine tK [0] (Zq (o0 [AV.ptr 0 0] [(0,[Zb B,Zy AI at_,Zv li,Zv bad])]) λr=>aC (Yn r) λx dj=>aW x λb dr=>ag AI dr λn dH=>aq dH λbW eK=>aq eK λeg fL=>ak fL (aD dj (AV.fK (Prod.fst r) λeG=>Zq (o0 [AV.ptr 0 0] [(0,[Zb b,Zy AI n,Zv bW,Zv eg])]) λr=>aC (Yn r) λx f_=>aW x λb g7=>ag AI g7 λn iA=>aq iA λfG io=>aq io λgG dA=>ak dA (aD f_ (AV.fK (Prod.fst r) λh_=>Zq (o0 [AV.ptr 0 0] [(0,[Zb b,Zy AI n,Zv fG,Zv gG])]) λr=>aC (Yn r) λx eC=>aW x λb eD=>ag AI eD λn fl=>aq fl λgY fz=>aq fz λjH fA=>ak fA (aD eC (AV.fK (Prod.fst r) λj7=>Zd (AV.agg [Zp eG,Zp h_,Zp j7],[[Zb b,Zy AI n,Zv gY,Zv jH]])))))))) ?_;dsimp only[o0,aI,aW,aq,cO,ag,bH,dc];simp only[A0];rw[ae ay,ae ay,ae ay];rfl
theorem aeW:Wk 141 3 QU:=by
 refine cw Tryz.func141 λ_ _ _ h=> ?_;unfold QU at h;split at h;case h_2=>cases h
 rename_i b By;obtain⟨ay,rfl⟩:=dg h;refine c6 (aE By (Zq (jv [Zb b,Zy AI 1] []) (kO λl=>Zd (Xy l,[]))) (Zq (jv [Zb b,Zy AI 0] []) (kO λl=>Zd (Xy l,[])))) ?_;delta kO;dsimp only[jv,aI,aW,aq,cO,ag,bH,dc];simp only[A0];rw[ae ay,ae ay];cases By<;>rfl
theorem aeY:Wk 143 3 Cy:=by
 refine cw Tryz.func143 λ_ _ _ h=> ?_;unfold Cy at h;split at h;case h_2=>cases h
 rename_i k;obtain⟨ay,rfl⟩:=dg h;refine c6 (Zq (mH [Zy AT k] []) (kL λb=>aE (!b) (Zd (Zy AI 0,[])) (Zd (Zy AI (Zz AI (Xu k (2 ^ min (Zw 56) (Zk AT)))),[])))) ?_;delta kL;dsimp only[mH,aI,aW,aq,cO,ag,bH,dc];simp only[ay,↓A0,A0];unfold Kerb.iJ;cases hk:Kerb.bB k
 .rfl
 simp only[Yu,Bool.not_false,b_,aF];simp only[Zf,Qa2] at ay;have h7:(min (Zw 56) (Zk AT))=56:=rfl;rw[h7,Int.fdiv_eq_ediv_of_nonneg _ (by decide),wrap_i64 (by omega) (by omega)];rfl
theorem ae0:Wk 145 3 vd:=by
 refine cw Tryz.func145 λ_ _ _ h=> ?_;unfold vd at h;split at h;case h_2=>cases h
 rename_i b pos;obtain⟨ay,rfl⟩:=dg h;refine c6 (Mz [Zb b,Zy AI pos,Zy AI 1,Zv Yz] λn bf bL=>Zd (Yw [Zy AI n,Zy AI bf,Zy AI bL],[])) ?_;unfold Mz;delta kT;dsimp only[CG,aI,aW,aq,cO,ag,bH,dc];simp only[A0];rw[ae (by rw[ay];rfl)]
theorem ae2:Wk 147 3 wl:=by
 refine cw Tryz.func147 λ_ _ _ h=> ?_;unfold wl at h;split at h;case h_2=>cases h
 rename_i b pos By;obtain⟨ay,rfl⟩:=dg h;refine c6 (Mz [Zb b,Zy AI pos,Zy AI 4,Zv By] λn bf bL=>Zd (Yw [Zy AI n,Zy AI bf,Zy AI bL],[])) ?_;unfold Mz;delta kT;dsimp only[CG,aI,aW,aq,cO,ag,bH,dc];simp only[A0];rw[ae (by rw[ay];rfl)]
end Go.Proofs.YteafbgcimcpfiaaGreat
