/- What the functions of this seat compute. -/
import Derived.Test.YteafbgcimcpfiaaGreatTab
set_option linter.all false
open Go.IntKind renaming wrap→Zz,i64→Zq,bits→Zp,u64→Yg
open Go.Abs.AV renaming int→Zy,bool→Zv,str→Zk,bs→Zg,aQ→Yy,sl→Yb,bS→Yh,undef→Xp
open List renaming length→Zx,getD→Zm,take_of_length_le→Yv,take→Xu,drop→Xq,replicate→Xk,drop_eq_nil_of_le→Wx
open Int renaming toNat→Zw,tmod→Yw,toNat_natCast→Yq,tmod_eq_emod_of_nonneg→Yp,fdiv→Xv,tdiv_eq_ediv_of_nonneg→Xm,eq_ofNat_of_zero_le→Wy,tdiv→Ww
open Decidable renaming decide→Zu
open Option renaming bind→Zj,some→Zd,none→Wu
open UInt8 renaming toNat→Zf,ofNat→Zh
open Bool renaming and_eq_true→Zb,false→Yz,not_true→Yu,true→Yn,and_self→Wv
open Kerb renaming within→Zn,indexOf→Yx,ah→Yd,cu→Xz,isKind→Xx,room→Xw,header→Xd,vp→Xg,bg→Xh
open Go.Abs.Ex renaming exit→Yj
open Nat renaming beq_refl→Yk,beq→Xj,zero_le→Xn,blt→Wz
open Sum renaming inr→Yf,inl→Xy
open Prod renaming snd→Ym
open Kerb.Client renaming av→Xf
open Kerb.Cache renaming av→Xb
namespace Go.Proofs.YteafbgcimcpfiaaGreat
open Go Go.Abs Go.Proofs
set_option maxRecDepth 100000
theorem w10:Wk 10 1 M6:=by
 refine cC Tryz.func10 rfl fun xs bl r h=> ?_;unfold M6 at h;split at h;case h_2=>cases h
 rename_i bs cs;obtain⟨aC,rfl⟩:=dj h;refine cA (aG (!(↑(Zx bs):Int)==(↑(Zx cs):Int)) (Zd (Zv Yz,[])) (Zj (bJ (fun st=>cL 1 st fun b r=>cL 1 r fun bT r=>ar r fun dV r=>ag .i64 r fun n r=>ak r (aG (Zu (n<(↑(Zx b):Int))) (aD (Zu (0<=n)&&Zu (n<(↑(Zx b):Int))&&Yn) (AV.dm (Zm b (Zw n) Xp) fun eA=>aD (Zu (0<=n)&&Zu (n<(↑(Zx bT):Int))&&Yn) (AV.dm (Zm bT (Zw n) Xp) fun fg=>aG (!eA==fg) (Zd (Yf (Ex.ret,[Yb 1 b,Yb 1 bT,Zv Yz,Zy .i64 n]))) (Zd (Xy [Yb 1 b,Yb 1 bT,Zv dV,Zy .i64 (Zz .i64 (n+1))]))))) (Zd (Yf (Yj 0,[Yb 1 b,Yb 1 bT,Zv dV,Zy .i64 n]))))) [Yb 1 bs,Yb 1 cs,Zv Yz,Zy .i64 0]) fun(r:Ex×List AV)=>cL 1 (Ym r) fun b dq=>cL 1 dq fun b dA=>ar dA fun b dJ=>ag .i64 dJ fun n eI=>ak eI (jW r.1 (Zd (Zv b,[])) fun(j:Nat)=>aG (Xj j 0) (Zd (Zv Yn,[])) Wu))) (by kernel_rfl) ?_;dsimp only[ar,ag,cL];simp only[Zb,Qa2] at aC;obtain⟨⟨h1,h2⟩,hn⟩:=aC;obtain⟨l,rfl⟩:=Kerb.JP h1;obtain⟨m,rfl⟩:=Kerb.JP h2;rw[Kerb.d_] at hn;rw[Kerb.k9,Kerb.k9,Kerb.d_,Kerb.d_];by_cases hlen:l.length=m.length;case neg =>
  have hU:(l==m)=Yz:=by
   cases he:l==m with
   | true=>exact absurd (Qb5 Zx (Qb0 he)) hlen
   | false=>rfl
  rw[af (by simp;omega),hU]
 rw[ai (by simp;omega)];have e:=Kerb.ND [] hlen;refine Qb3 (Kerb.oa (A:=(.bool Yz,[])) (B:=(.bool Yn,[])) (fun i=>[.sl 1 (Kerb.dl l),.sl 1 (Kerb.dl m),.bool Yz,.int .i64 (i:Int)]) l.length (fun i => !(l.getD i []==m.getD i [])) ?_ ?_ ?_ rfl) (by rw[e];cases l==m<;>rfl)
 ·intro i hi hp;have oA:i<m.length:=by omega
  try dsimp only at hp ⊢
  simp only[↓A0,A0,Kerb.RA,Kerb.Ve hi,Kerb.Ve oA,Kerb.LM hi,Kerb.LM oA,Wv,Bool.and_true,Kerb.Cr (show i<=1000000000 by omega),hp]
 ·intro i hi hp;have oA:i<m.length:=by omega
  try dsimp only at hp ⊢
  refine⟨(.ret,[.sl 1 (Kerb.dl l),.sl 1 (Kerb.dl m),.bool Yz,.int .i64 (i:Int)]),?_,?_⟩;case refine_2=>rfl
  simp only[↓A0,A0,Kerb.RA,Kerb.Ve hi,Kerb.Ve oA,Kerb.LM hi,Kerb.LM oA,Wv,Bool.and_true,hp]
 ·refine⟨(.exit 0,[.sl 1 (Kerb.dl l),.sl 1 (Kerb.dl m),.bool Yz,.int .i64 (l.length:Int)]),?_,?_⟩;case refine_2=>rfl
  try dsimp only
  simp only[↓A0,A0,Kerb.XI]
theorem w17:Wk 17 1 PS:=by
 refine cC Tryz.func17 rfl fun xs bl r h=> ?_;unfold PS at h;split at h;case h_2=>cases h
 rename_i ks ls;obtain⟨aC,rfl⟩:=dj h;refine cA (aG (!(↑(Zx ks):Int)==(↑(Zx ls):Int)) (Zd (Zv Yz,[])) (Zj (bJ (fun st=>cL 1 st fun b r=>cL 1 r fun bT r=>ar r fun dV r=>ag .i64 r fun n r=>ak r (aG (Zu (n<(↑(Zx b):Int))) (aD (Zu (0<=n)&&Zu (n<(↑(Zx b):Int))&&Yn) (AV.ax .u64 (Zm b (Zw n) Xp) fun bh=>aD (Zu (0<=n)&&Zu (n<(↑(Zx bT):Int))&&Yn) (AV.ax .u64 (Zm bT (Zw n) Xp) fun bG=>aG (!bh==bG) (Zd (Yf (Ex.ret,[Yb 1 b,Yb 1 bT,Zv Yz,Zy .i64 n]))) (Zd (Xy [Yb 1 b,Yb 1 bT,Zv dV,Zy .i64 (Zz .i64 (n+1))]))))) (Zd (Yf (Yj 0,[Yb 1 b,Yb 1 bT,Zv dV,Zy .i64 n]))))) [Yb 1 ks,Yb 1 ls,Zv Yz,Zy .i64 0]) fun(r:Ex×List AV)=>cL 1 (Ym r) fun b dq=>cL 1 dq fun b dA=>ar dA fun b dJ=>ag .i64 dJ fun n eI=>ak eI (jW r.1 (Zd (Zv b,[])) fun(j:Nat)=>aG (Xj j 0) (Zd (Zv Yn,[])) Wu))) (by kernel_rfl) ?_;dsimp only[ar,ag,cL];simp only[Zb,Qa2] at aC;obtain⟨⟨h1,h2⟩,hn⟩:=aC;obtain⟨l,rfl⟩:=Kerb.Fj h1;obtain⟨m,rfl⟩:=Kerb.Fj h2;rw[Kerb.ff] at hn;rw[Kerb.pX,Kerb.pX,Kerb.ff,Kerb.ff];by_cases hlen:l.length=m.length;case neg =>
  have hU:(l==m)=Yz:=by
   cases he:l==m with
   | true=>exact absurd (Qb5 Zx (Qb0 he)) hlen
   | false=>rfl
  rw[af (by simp;omega),hU]
 rw[ai (by simp;omega)];have e:=Kerb.ND 0 hlen;refine Qb3 (Kerb.oa (A:=(.bool Yz,[])) (B:=(.bool Yn,[])) (fun i=>[.sl 1 (Kerb.dP l),.sl 1 (Kerb.dP m),.bool Yz,.int .i64 (i:Int)]) l.length (fun i => !(l.getD i 0==m.getD i 0)) ?_ ?_ ?_ rfl) (by rw[e];cases l==m<;>rfl)
 ·intro i hi hp;have oA:i<m.length:=by omega
  try dsimp only at hp ⊢
  simp only[↓A0,A0,Kerb.RA,Kerb.XD hi,Kerb.XD oA,Kerb.N4 hi,Kerb.N4 oA,Wv,Bool.and_true,Kerb.Cr (show i<=1000000000 by omega),hp]
 ·intro i hi hp;have oA:i<m.length:=by omega
  try dsimp only at hp ⊢
  refine⟨(.ret,[.sl 1 (Kerb.dP l),.sl 1 (Kerb.dP m),.bool Yz,.int .i64 (i:Int)]),?_,?_⟩;case refine_2=>rfl
  simp only[↓A0,A0,Kerb.RA,Kerb.XD hi,Kerb.XD oA,Kerb.N4 hi,Kerb.N4 oA,Wv,Bool.and_true,hp]
 ·refine⟨(.exit 0,[.sl 1 (Kerb.dP l),.sl 1 (Kerb.dP m),.bool Yz,.int .i64 (l.length:Int)]),?_,?_⟩;case refine_2=>rfl
  try dsimp only
  simp only[↓A0,A0,Kerb.noK]
theorem w21:Wk 21 1 Kd:=by
 refine cC Tryz.func21 rfl fun xs bl r h=> ?_;unfold Kd at h;split at h;case h_2=>cases h
 rename_i n;obtain⟨aC,rfl⟩:=dj h;refine cA (Zd (Zy .u64 (Zz .u64 (↑(BitVec.toNat (BitVec.ofInt (Zp .u64) 144115188075855872 ||| BitVec.ofInt (Zp .u64) (Zz .u64 (Zz .i64 (1+n))))):Int)),[])) (by kernel_rfl) ?_;rfl
theorem w24:Wk 24 1 Qh:=by
 refine cC Tryz.func24 rfl fun xs bl r h=> ?_;unfold Qh at h;split at h;case h_2=>cases h
 rename_i n;obtain⟨aC,rfl⟩:=dj h;refine cA (Zd (Zy .u64 (Zz .u64 (↑(BitVec.toNat (BitVec.ofInt (Zp .u64) 72057594037927936 ||| BitVec.ofInt (Zp .u64) (Zz .u64 (Zz .i64 (1+n))))):Int)),[])) (by kernel_rfl) ?_;rfl
theorem w46:Wk 46 1 Kj:=by
 refine cC Tryz.func46 rfl fun xs bl r h=> ?_;unfold Kj at h;split at h;case h_2=>cases h
 rename_i b how;obtain⟨aC,rfl⟩:=dj h;refine cA (let t0:Int:=Yw (Zz .i64 (Zz .u16 (Ww how 8))) (↑(Zx b):Int);aD (room (Zx b) 1) (aG ((↑(Zx b):Int)==0) (Zd (Zg b,[])) (aD (!(↑(Zx b):Int)==0) (aG (Yw how 4==0) (aD (Zu (0<=t0)&&Zu (t0<(↑(Zx b):Int))) (aD (Wz (Zw t0) (Zx b)&&Yn&&Yn&&Yn) (aD (Zu (0<=Zz .u64 (Yw how 7))) (aD (Zu (0<=t0)&&Zu (t0<(↑(Zx b):Int))) (aD (Wz (Zw t0) (Zx b)&&Yn&&Yn&&Yn&&Yn) (Zd (Zg (List.set b (Zw t0) (Zh (Zw (Zz .u8 (↑(BitVec.toNat (BitVec.ofInt (Zp .u8) (↑(Zf (Zm b (Zw t0) (0:UInt8))):Int) ^^^ BitVec.ofInt (Zp .u8) (↑(Zf (Zh (Zw (Zz .u8 ((↑(Zf (1:UInt8)):Int)*2 ^ min (Zw (Zz .u64 (Yw how 7))) 8))))):Int))):Int))))),[]))))))) (aG (Yw how 4==1) (aD (Zu (0<=t0)&&Zu (t0<=(↑(Zx b):Int))&&Wz 0 (Zx b)&&Yn) (aD (Zu (0<=Zz .i64 (t0+1))&&Zu (Zz .i64 (t0+1)<=(↑(Zx b):Int))&&Wz 0 (Zx b)&&Yn) (aD (Wz 0 (Zx b)&&Yn&&Yn&&Yn&&room (Zw t0+(Zx b-Zw (Zz .i64 (t0+1)))) 1) (Zd (Zg (Xu (Zw t0) b++Xq (Zw (Zz .i64 (t0+1))) b),[]))))) (aG (Yw how 4==2) (aD (room (Zx b+Zx [Zh (Zw (Zz .u8 how))]) 1) (Zd (Zg (b++[Zh (Zw (Zz .u8 how))]),[]))) (Zd (Zg b,[])))))))) (by kernel_rfl) ?_;try dsimp only[aJ,aV,ar,c9,ag,cL,c7]
 simp only[Zb,Qa2] at aC;obtain⟨⟨hb,h0⟩,h1⟩:=aC;rw[ae (Xz (by omega))];unfold Kerb.sY;by_cases hn:b=[]
 ·subst hn;rfl
 have ko:0<b.length:=List.length_pos_iff.2 hn;rw[Qa0 hn,ai (by simp;omega),ae (by simp;omega)];have e:Yw (Zz Zq (Zz IntKind.u16 (Ww how (8:Int)))) (b.length:Int)=Kerb.o8 b how:=rfl;rw[e];obtain⟨ha,hc⟩:=Kerb.Ko h0 h1 ko;generalize Kerb.o8 b how=a at ha hc ⊢;have hd:(Zu ((0:Int)<=a)&&Zu (a<(b.length:Int)))=Yn:=by simp;omega
 have vT:Wz a.toNat b.length=Yn:=Nat.ble_eq_true_of_le (by omega);have Ts:Wz 0 b.length=Yn:=Nat.ble_eq_true_of_le (by omega);have h7:Zu ((0:Int)<=Zz Yg (Yw how (7:Int)))=Yn:=by rw[Kerb.wrap_u64];simp;omega
 by_cases c0:Yw how 4=0
 ·rw[Qa1 c0,af (by simpa using c0),ae hd,ae (by rw[vT];rfl),ae h7,ae hd,ae (by rw[vT];rfl)]
 rw[Qa0 c0,ai (by simpa using c0)];by_cases c1:Yw how 4=1
 ·rw[Qa1 c1,af (by simpa using c1),wrap_i64 (n:=a+1) (by omega) (by omega),ae (by rw[Ts];simp;omega),ae (by rw[Ts];simp;omega),ae (by rw[Ts,Xz (by omega)];rfl)]
 rw[Qa0 c1,ai (by simpa using c1)];by_cases c2:Yw how 4=2
 ·rw[Qa1 c2,af (by simpa using c2),ae (Xz (by simp;omega))]
 ·rw[Qa0 c2,ai (by simpa using c2)]
theorem w89:Wk 89 1 zk:=by
 refine cC Tryz.func89 rfl fun xs bl r h=> ?_;unfold zk at h;split at h;case h_2=>cases h
 rename_i n l pos;obtain⟨aC,rfl⟩:=dj h;show dT (G.env 89 1) G.rts (G.own 89) Tryz.f89 _ _ [0]=_;refine cA (aG (Zu (pos>=(↑(Zx l):Int))) (Zd (Zy .i64 0,[[Zg l,Zy .i64 pos]])) (aG (Zu (n<=0)) (Zd (Zy .i64 0,[[Zg l,Zy .i64 pos]])) (aD (Zu (0<=pos)&&Zu (pos<(↑(Zx l):Int))) (aD (!n==0) (Zd (Zy .i64 (Yw (Zz .i64 (↑(Zf (Zm l (Zw pos) (0:UInt8))):Int)) n),[[Zg l,Zy .i64 (Zz .i64 (pos+1))]])))))) (by kernel_rfl) ?_;simp only[Zb,Qa2] at aC;unfold Kerb.next Kerb.dN;by_cases h1:(l.length:Int)<=pos
 ·simp[aG,h1];omega
 by_cases h2:n<=0
 ·simp[aG,h1,h2];omega
 have h3:¬ n=0:=by omega
 have hb:=(l.getD pos.toNat 0).toNat_lt;rw[ai (by simp;omega),ai (by simp;omega),ae (by simp;omega),ae (by simpa using h3),Qa0 (by omega),Qa0 (by omega),wrap_i64 (by omega) (by omega),wrap_i64 (by omega) (by omega),Yp (by omega),Int.toNat_of_nonneg (by omega)]
theorem w90:Wk 90 1 UJ:=by
 refine cC Tryz.func90 rfl fun xs bl r h=> ?_;unfold UJ at h;split at h;case h_2=>cases h
 rename_i n;obtain⟨aC,rfl⟩:=dj h;refine cA (Zj (bJ (fun st=>ag .i64 st fun n r=>aJ r fun b r=>aJ r fun bT r=>aJ r fun dV r=>aJ r fun eA r=>ag .i64 r fun bh r=>ak r (aG (Zu (bh<39)) (aD (Zu (Zx eA+Zx [(110:UInt8)]<=4611686018427387904)) (Zd (Xy [Zy .i64 n,Zk b,Zk bT,Zk dV,Zk (eA++[(110:UInt8)]),Zy .i64 (Zz .i64 (bh+1))]))) (Zd (Yf (Yj 0,[Zy .i64 n,Zk b,Zk bT,Zk dV,Zk eA,Zy .i64 bh]))))) [Zy .i64 n,Zk [],Zk [],Zk [],Zk [],Zy .i64 0]) fun(r:Ex×List AV)=>ag .i64 (Ym r) fun n dq=>aJ dq fun b dA=>aJ dA fun bT dJ=>aJ dJ fun dV eI=>aJ eI fun eA fI=>ag .i64 fI fun bh ga=>ak ga (jW r.1 (Zd (AV.agg [Zk b,Zk bT,Zk dV],[])) fun(j:Nat)=>aG (Xj j 0) (Zj (bJ (fun st=>ag .i64 st fun n r=>aJ r fun b r=>aJ r fun fg r=>aJ r fun gh r=>aJ r fun gS r=>ag .i64 r fun bG r=>ak r (aG (Zu (bG<n)) (aD (Zu (38<=(↑(Zx gS):Int))) (Zd (Xy [Zy .i64 n,Zk b,Zk fg,Zk gh,Zk (Xq (Zw (↑(0:Nat):Int)) (Xu (Zw 38) gS)),Zy .i64 (Zz .i64 (bG+1))]))) (Zd (Yf (Yj 2,[Zy .i64 n,Zk b,Zk fg,Zk gh,Zk gS,Zy .i64 bG]))))) [Zy .i64 n,Zk b,Zk bT,Zk dV,Zk eA,Zy .i64 0]) fun(r:Ex×List AV)=>ag .i64 (Ym r) fun n g8=>aJ g8 fun b iA=>aJ iA fun fg ig=>aJ ig fun gh dy=>aJ dy fun gS eD=>ag .i64 eD fun n eE=>ak eE (jW r.1 (Zd (AV.agg [Zk b,Zk fg,Zk gh],[])) fun(j:Nat)=>aG (Xj j 2) (Zd (AV.agg [Zk gS,Zk gS,Zk gS],[])) Wu)) Wu)) (by kernel_rfl) ?_;dsimp only[aJ,ag];simp only[Zb,Qa2] at aC;have hn:n=0\/n=1:=by omega
 rcases hn with rfl | rfl
 ·refine gm 40 (Yj 0,[Zy Zq 0,Zk [],Zk [],Zk [],Zk (Xk 39 110),Zy Zq 39]) (by kernel_rfl) ?_;simp only[A0];rw[af (Yk _)];refine gm 1 (Yj 2,[Zy Zq 0,Zk [],Zk [],Zk [],Zk (Xk 39 110),Zy Zq 0]) (by kernel_rfl) ?_;rfl
 ·refine gm 40 (Yj 0,[Zy Zq 1,Zk [],Zk [],Zk [],Zk (Xk 39 110),Zy Zq 39]) (by kernel_rfl) ?_;simp only[A0];rw[af (Yk _)];refine gm 2 (Yj 2,[Zy Zq 1,Zk [],Zk [],Zk [],Zk (Xk 38 110),Zy Zq 1]) (by kernel_rfl) ?_;rfl
theorem w92:Wk 92 1 UK:=by
 refine cC Tryz.func92 rfl fun xs bl r h=> ?_;unfold UK at h;split at h;case h_2=>cases h
 rename_i n m;cases h;refine cA (aG (Zu (n>=0)) (Zd (Zv (Zu (n<=m)),[])) (Zd (Zv Yz,[]))) (by kernel_rfl) ?_;by_cases h:0<=n<;>simp[aG,Zn,h]
theorem w94:Wk 94 1 UL:=by
 refine cC Tryz.func94 rfl fun xs bl r h=> ?_;unfold UL at h;split at h;case h_2=>cases h
 rename_i k little;cases h;refine cA (aG (Zu (k<1)) (Zd (Zg [],[])) (aG (Zu (k>10)) (Zd (Zg [],[])) (aG little (Zd (Zg [(4:UInt8),Zh (Zw (Zz .u8 (Zz .i64 (Zz .i64 (2*k)+1))))],[])) (Zd (Zg [(4:UInt8),Zh (Zw (Zz .u8 (Zz .i64 (2*k))))],[]))))) (by kernel_rfl) ?_;by_cases h:1<=k/\k<=10
 ·have hk:k=1\/k=2\/k=3\/k=4\/k=5\/k=6\/k=7\/k=8\/k=9\/k=10:=by omega
  rcases hk with rfl | rfl | rfl | rfl | rfl | rfl | rfl | rfl | rfl | rfl<;>cases little<;>rfl
 ·have hk:Xx k=Yz:=by simp[Xx];omega
  by_cases h1:k<1
  ·simp[aG,Xd,hk,h1]
  ·have h2:10<k:=by omega
   simp[aG,Xd,hk,h1,h2]
theorem w95:Wk 95 1 qa:=by
 refine cC Tryz.func95 rfl fun xs bl r h=> ?_;unfold qa at h;split at h;case h_2=>cases h
 rename_i b s;obtain⟨aC,rfl⟩:=dj h;refine cA (aD (room (Zx b) 1) (aD (room (Zx b+Zx s) 1) (aD (room (Zx (b++s)+Zx [(0:UInt8)]) 1) (Zd (Yh (b++s++[(0:UInt8)]),[]))))) (by kernel_rfl) ?_;simp only[Qa2] at aC;rw[ae (Xz (by omega)),ae (Xz (by omega)),ae (Xz (by simp;omega))];simp[Kerb.bw]
theorem ab1:Wk 107 1 PD:=by
 refine cC Tryz.func107 rfl fun xs bl r h=> ?_;unfold PD at h;split at h;case h_2=>cases h
 rename_i n m;cases h;refine cA (aG (Zu (n>=0)) (Zd (Zv (Zu (n<=m)),[])) (Zd (Zv Yz,[]))) (by kernel_rfl) ?_;by_cases h:0<=n<;>simp[aG,Zn,h]
theorem ab7:Wk 113 1 PF:=by
 refine cC Tryz.func113 rfl fun xs bl r h=> ?_;unfold PF at h;split at h;case h_2=>cases h
 rename_i n;cases h;refine cA (aG (n==1) (Zd (Zv Yn,[])) (Zd (Zv (n==3),[]))) (by kernel_rfl) ?_;cases (n==1)<;>rfl
theorem ab8:Wk 114 1 PG:=by
 refine cC Tryz.func114 rfl fun xs bl r h=> ?_;unfold PG at h;split at h;case h_2=>cases h
 rename_i n m;cases h;refine cA (aG (Zu (n>=0)) (Zd (Zv (Zu (n<=m)),[])) (Zd (Zv Yz,[]))) (by kernel_rfl) ?_;by_cases h:0<=n<;>simp[aG,Zn,h]
theorem acr:Wk 133 1 PJ:=by
 refine cC Tryz.func133 rfl fun xs bl r h=> ?_;unfold PJ at h;split at h;case h_2=>cases h
 rename_i b;cases h;refine cA (let t0:Int:=Zz .i64 (↑(Zf (Zh (Zw (Zz .u8 (Ww (↑(Zf (Zm b (Zw 1) (0:UInt8))):Int) (↑(Zf (2:UInt8)):Int)))))):Int);let t1:Option (AV×aw):=Zd (Yy [Zy .i64 0,Zv Yz,Zy .i64 40],[]);aG (Zu ((↑(Zx b):Int)<2)) (Zd (Yy [Zy .i64 0,Zv Yz,Zy .i64 101],[])) (aD (Zu (0<(↑(Zx b):Int))) (aG (!Zm b (Zw 0) (0:UInt8)==(4:UInt8)) (Zd (Yy [Zy .i64 0,Zv Yz,Zy .i64 39],[])) (aD (Zu (1<(↑(Zx b):Int))) (aG (Zu (t0<1)) t1 (aG (Zu (t0>10)) t1 (aD (Zu (1<(↑(Zx b):Int))) (Zd (Yy [Zy .i64 t0,Zv (Zh (Zw (Yw (↑(Zf (Zm b (Zw 1) (0:UInt8))):Int) (↑(Zf (2:UInt8)):Int)))==(1:UInt8)),Zy .i64 0],[]))))))))) (by kernel_rfl) ?_;try dsimp only[aJ,aV,ar,c9,ag,cL,c7]
 unfold Xh;by_cases h1:b.length<2
 ·rw[af (by simp;omega)];simp[h1]
 rw[ai (by simp;omega),ae (by simp;omega),Qa0 h1];by_cases h2:b.getD 0 0=4
 ·have hb:=(b.getD 1 0).toNat_lt;have e:Zz Zq ((Zh (Zw (Zz IntKind.u8 (Ww ((b.getD (Zw 1) 0).toNat:Int) ((2:UInt8).toNat:Int))))).toNat:Int)=(((b.getD 1 0).toNat / 2:Nat):Int):=by
   rw[show Zw 1=1 from rfl,show((2:UInt8).toNat:Int)=2 from rfl,Xm (by omega),Kerb.wrap_u8];have e3:Zw (((b.getD 1 0).toNat:Int) / 2 % 256)=(b.getD 1 0).toNat / 2:=by omega
   rw[e3,UInt8.toNat_ofNat_of_lt' (by show _<256;omega),wrap_i64 (by omega) (by omega)]
  have e2:(Zh (Zw (Yw ((b.getD (Zw 1) 0).toNat:Int) ((2:UInt8).toNat:Int)))==1)=Zu ((b.getD 1 0).toNat % 2=1):=by
   rw[show Zw 1=1 from rfl,Yp (by omega)];have e3:Zw (((b.getD 1 0).toNat:Int) % ((2:UInt8).toNat:Int))=(b.getD 1 0).toNat % 2:=by
    show Zw (((b.getD 1 0).toNat:Int) % 2)=_;omega
   rw[e3];rcases Nat.mod_two_eq_zero_or_one (b.getD 1 0).toNat with h | h<;>rw[h]<;>rfl
  rw[ai (by simp[h2] at *;exact h2),ae (by simp;omega),Qa0 (by simpa using h2),e,e2];generalize (b.getD 1 0).toNat / 2=m;unfold Xx;by_cases h3:1<=m;case neg =>
   rw[af (by simp;omega),Qa0 (by simp;omega)]
  by_cases h4:m<=10;case neg =>
   rw[ai (by simp;omega),af (by simp;omega),Qa0 (by simp;omega)]
  rw[ai (by simp;omega),ai (by simp;omega),ae (by simp;omega),Qa1 (by simp;omega)]
 ·rw[af (by simpa using h2),Qa1 (by simpa using h2)]
theorem acw:Wk 138 1 nq:=by
 refine cC Tryz.func138 rfl fun xs bl r h=> ?_;unfold nq at h;split at h;case h_2=>cases h
 rename_i k;obtain⟨aC,rfl⟩:=dj h;refine cA (Zj (bJ (fun st=>ag .u64 st fun n r=>aA r fun x r=>AV.fA x fun b=>ag .i64 r fun bh r=>let t0:List UInt8:=[Zh (Zw (Zz .u8 (Xv n (2 ^ min (Zw (Zz .u64 (Zz .i64 (8*bh)))) (Zp .u64)))))];ak r (aG (Zu (bh>=0)) (aD (Zu (0<=Zz .u64 (Zz .i64 (8*bh)))) (aD (room (Zx b+Zx t0) 1) (Zd (Xy [Zy .u64 n,Yh (b++t0),Zy .i64 (Zz .i64 (bh-1))])))) (Zd (Yf (Yj 0,[Zy .u64 n,Yh b,Zy .i64 bh]))))) [Zy .u64 k,Yh [],Zy .i64 7]) fun(r:Ex×List AV)=>ag .u64 (Ym r) fun n dq=>aA dq fun x dA=>AV.fA x fun b=>ag .i64 dA fun n dJ=>ak dJ (jW r.1 Wu fun(j:Nat)=>aG (Xj j 0) (Zd (Zg b,[])) Wu)) (by kernel_rfl) ?_;try dsimp only[aJ,aV,ar,c9,ag,cL,c7]
 refine gm 9 (Yj 0,[Zy Yg k,Yh [Xg k 56,Xg k 48,Xg k 40,Xg k 32,Xg k 24,Xg k 16,Xg k 8,Xg k 0],Zy Zq (-1)]) (by kernel_rfl) ?_;simp only[A0];rw[af (Yk _)];simp[Kerb.tv,Kerb.keyBytes,Kerb.eV,List.range_succ]
theorem acx:Wk 139 1 jq:=by
 refine cC Tryz.func139 rfl fun xs bl r h=> ?_;unfold jq at h;split at h;case h_2=>cases h
 rename_i b;obtain⟨aC,rfl⟩:=dj h;refine cA (aD (room (Zx b) 1) (Zj (bJ (fun st=>aA st fun x r=>AV.fA x fun b=>ak r (aG (!Yw (↑(Zx b):Int) 8==0) (aD (room (Zx b+Zx [(0:UInt8)]) 1) (Zd (Xy [Yh (b++[(0:UInt8)])]))) (Zd (Yf (Yj 0,[Yh b]))))) [Yh b]) fun(r:Ex×List AV)=>aA (Ym r) fun x dq=>AV.fA x fun b=>ak dq (jW r.1 Wu fun(j:Nat)=>aG (Xj j 0) (Zd (Yh b,[])) Wu))) (by kernel_rfl) ?_;have hb:=Qa3 aC;rw[ae (Xz (by omega))];refine bW (fun i:Nat=>[Yh (b++Xk i 0)]) (fun i=>i<=(8-b.length % 8) % 8) (fun i=>(8-b.length % 8) % 8-i)
  (fun r=>r=(Yj 0,[Yh (Kerb.pad b)])) 0 (by omega) (by simp) ?_ ?_
 ·intro i hi;simp only[A0];have e:Yw ((b++Xk i 0).length:Int) 8=(((b.length+i) % 8:Nat):Int):=by
   rw[Yp (by omega)];simp
  rw[e];by_cases fY:i<(8-b.length % 8) % 8
  ·rw[af (by simp;omega),ae (Xz (by simp;omega))];refine⟨_,rfl,i+1,?_,by omega,by dsimp only;omega⟩;dsimp only;rw[List.replicate_succ',List.append_assoc]
  ·rw[ai (by simp;omega)];refine⟨_,rfl,?_⟩;show _=_;rw[Kerb.pad,show i=(8-b.length % 8) % 8 from by omega]
 rintro r rfl;simp only[A0];rw[af (Yk _)]
theorem acA:Wk 142 1 PL:=by
 refine cC Tryz.func142 rfl fun xs bl r h=> ?_;unfold PL at h;split at h;case h_2=>cases h
 rename_i n m;cases h;refine cA (aG (Zu (n>=0)) (Zd (Zv (Zu (n<=m)),[])) (Zd (Zv Yz,[]))) (by kernel_rfl) ?_;by_cases h:0<=n<;>simp[aG,Zn,h]
theorem acC:Wk 144 1 PM:=by
 refine cC Tryz.func144 rfl fun xs bl r h=> ?_;unfold PM at h;split at h;case h_2=>cases h
 rename_i n m;cases h;refine cA (aG (Zu (n>=0)) (Zd (Zv (Zu (n<=m)),[])) (Zd (Zv Yz,[]))) (by kernel_rfl) ?_;by_cases h:0<=n<;>simp[aG,Zn,h]
theorem acK:Wk 152 1 PO:=by
 refine cC Tryz.func152 rfl fun xs bl r h=> ?_;unfold PO at h;split at h;case h_2=>cases h
 rename_i a b;cases h;refine cA (Zd (Zv (a==b),[])) (by kernel_rfl) ?_;rfl
theorem acO:Wk 156 1 PP:=by
 refine cC Tryz.func156 rfl fun xs bl r h=> ?_;unfold PP at h;split at h;case h_2=>cases h
 rename_i l;cases h;refine cA (aG (l==[(103:UInt8),(84:UInt8),(71:UInt8),(83:UInt8)]) (Zd (Zv Yn,[])) (Zd (Zv (l==[(103:UInt8),(84:UInt8),(75:UInt8),(84:UInt8)]),[]))) (by kernel_rfl) ?_;unfold Kerb.jr;show aG (l==Kerb.vl) _ (Zd (Zv (l==Kerb.kR),[]))=_;cases (l==Kerb.vl)<;>rfl
theorem acR:Wk 159 1 PQ:=by
 refine cC Tryz.func159 rfl fun xs bl r h=> ?_;unfold PQ at h;split at h;case h_2=>cases h
 rename_i l;cases h;refine cA (aG (l==[(116:UInt8),(103:UInt8),(115:UInt8),(84:UInt8)]) (Zd (Zv Yn,[])) (Zd (Zv (l==[(116:UInt8),(107:UInt8),(116:UInt8),(71:UInt8)]),[]))) (by kernel_rfl) ?_;unfold Kerb.ep;show aG (l==Kerb.yU) _ (Zd (Zv (l==Kerb.pJ),[]))=_;cases (l==Kerb.yU)<;>rfl
theorem ac2:Wk 174 1 yi:=by
 refine cC Tryz.func174 rfl fun xs bl r h=> ?_;unfold yi at h;split at h;case h_2=>cases h
 rename_i s bad;obtain⟨aC,rfl⟩:=dj h;refine cA (Zj (bJ (fun st=>aJ st fun b r=>aJ r fun bT r=>ar r fun dV r=>ag .i64 r fun n r=>ak r (aG (Zu (n<(↑(Zx b):Int))) (aD (Zu (0<=n)&&Zu (n<(↑(Zx b):Int))) (aG (Zu ((↑(Zf (Zm b (Zw n) (0:UInt8))):Int)<(↑(Zf (33:UInt8)):Int))) (Zd (Yf (Ex.ret,[Zk b,Zk bT,Zv Yz,Zy .i64 n]))) (aD (Zu (0<=n)&&Zu (n<(↑(Zx b):Int))) (aG (Zu ((↑(Zf (Zm b (Zw n) (0:UInt8))):Int)>(↑(Zf (126:UInt8)):Int))) (Zd (Yf (Ex.ret,[Zk b,Zk bT,Zv Yz,Zy .i64 n]))) (Zj (bJ (fun st=>aJ st fun b r=>aJ r fun eA r=>ar r fun fg r=>ag .i64 r fun n r=>ag .i64 r fun bh r=>ak r (aG (Zu (bh<(↑(Zx eA):Int))) (aD (Zu (0<=n)&&Zu (n<(↑(Zx b):Int))) (aD (Zu (0<=bh)&&Zu (bh<(↑(Zx eA):Int))) (aG (Zm b (Zw n) (0:UInt8)==Zm eA (Zw bh) (0:UInt8)) (Zd (Yf (Ex.ret,[Zk b,Zk eA,Zv Yz,Zy .i64 n,Zy .i64 bh]))) (Zd (Xy [Zk b,Zk eA,Zv fg,Zy .i64 n,Zy .i64 (Zz .i64 (bh+1))]))))) (Zd (Yf (Yj 2,[Zk b,Zk eA,Zv fg,Zy .i64 n,Zy .i64 bh]))))) [Zk b,Zk bT,Zv dV,Zy .i64 n,Zy .i64 0]) fun(r:Ex×List AV)=>aJ (Ym r) fun b dq=>aJ dq fun eA dA=>ar dA fun fg dJ=>ag .i64 dJ fun n eI=>ag .i64 eI fun bh fI=>ak fI (jW r.1 (Zd (Yf (Ex.ret,[Zk b,Zk eA,Zv fg,Zy .i64 n]))) fun(j:Nat)=>aG (Xj j 2) (Zd (Xy [Zk b,Zk eA,Zv fg,Zy .i64 (Zz .i64 (n+1))])) Wu)))))) (Zd (Yf (Yj 0,[Zk b,Zk bT,Zv dV,Zy .i64 n]))))) [Zk s,Zk bad,Zv Yz,Zy .i64 0]) fun(r:Ex×List AV)=>aJ (Ym r) fun b dq=>aJ dq fun bT dA=>ar dA fun dV dJ=>ag .i64 dJ fun n eI=>ak eI (jW r.1 (Zd (Zv dV,[])) fun(j:Nat)=>aG (Xj j 0) (Zd (Zv (Zu ((↑(Zx b):Int)<=39)),[])) Wu)) (by kernel_rfl) ?_;dsimp only[aJ,ar,ag];simp only[Zb,Qa2] at aC;refine bW (fun i:Nat=>[Zk s,Zk bad,Zv Yz,Zy Zq (i:Int)]) (fun i=>i<=s.length/\Kerb.eR s bad=Kerb.eR (s.drop i) bad) (fun i=>s.length-i)
  (fun r=>∃ i:Nat,r.2=[Zk s,Zk bad,Zv Yz,Zy Zq (i:Int)]/\((r.1 = .ret/\Kerb.eR s bad=Yz)\/(r.1 = .exit 0/\Kerb.eR s bad=Yn))) 0 ⟨Xn _,rfl⟩ rfl ?_ ?_
 ·rintro i ⟨hi,hp⟩;simp only[A0];by_cases fY:i<s.length
  ·have hc:(Zu ((0:Int)<=(i:Int))&&Zu ((i:Int)<(s.length:Int)))=Yn:=by simp;omega
   have hd:=Kerb.n6 fY;rw[af (by simp;omega),ae hc,Yq];have RL:Kerb.eR (s.drop i) bad=(Kerb.okB bad (s.getD i 0)&&Kerb.eR (s.drop (i+1)) bad):=by rw[hd];rfl
   generalize CM:s.getD i 0=c at *;by_cases h1:c.toNat<33
   ·rw[af (by simp;omega)];exact⟨_,rfl,i,rfl,.inl ⟨rfl,by rw[hp,RL];simp[Kerb.okB,h1]⟩⟩
   rw[ai (by simp;omega),ae hc];by_cases h2:126<c.toNat
   ·rw[af (by simp;omega)];exact⟨_,rfl,i,rfl,.inl ⟨rfl,by rw[hp,RL];simp[Kerb.okB,h2]⟩⟩
   rw[ai (by simp;omega)];refine E8 (fun j:Nat=>[Zk s,Zk bad,Zv Yz,Zy Zq (i:Int),Zy Zq (j:Int)]) (fun j=>j<=bad.length/\(c∈bad↔c∈bad.drop j)) (fun j=>bad.length-j)
    (fun r=>∃ j:Nat,r.2=[Zk s,Zk bad,Zv Yz,Zy Zq (i:Int),Zy Zq (j:Int)]/\((r.1 = .ret/\c∈bad)\/(r.1 = .exit 2/\c ∉ bad))) 0 ⟨Xn _,by simp⟩ rfl ?_ ?_
   ·rintro j ⟨hj,hm⟩;simp only[A0];by_cases LY:j<bad.length
    ·have hdj:=Kerb.n6 LY;rw[af (by simp;omega),ae hc,ae (by simp;omega),Yq,Yq,CM];rw[hdj,List.mem_cons] at hm;by_cases h3:c=bad.getD j 0
     ·rw[af (by simpa using h3)];exact⟨_,rfl,j,rfl,.inl ⟨rfl,hm.2 (.inl h3)⟩⟩
     ·rw[ai (by simpa using h3),wrap_i64 (by omega) (by omega)];exact⟨_,rfl,j+1,rfl,⟨by omega,hm.trans ⟨fun h=>h.resolve_left h3,.inr⟩⟩,by dsimp only;omega⟩
    ·rw[ai (by simp;omega)];refine⟨_,rfl,j,rfl,.inr ⟨rfl,?_⟩⟩;rw[hm,Wx (by omega)];simp
   ·rintro⟨e,l⟩ ⟨j,rfl,⟨rfl,h3⟩ | ⟨rfl,h3⟩⟩
    ·simp only[A0];exact⟨_,rfl,i,rfl,.inl ⟨rfl,by rw[hp,RL];simp[Kerb.okB,h3]⟩⟩
    ·simp only[A0];rw[af (Yk _),wrap_i64 (by omega) (by omega)];exact⟨_,rfl,i+1,rfl,⟨by omega,by rw[hp,RL];simp[Kerb.okB,h1,h2,h3]⟩,by dsimp only;omega⟩
  ·rw[ai (by simp;omega)];exact⟨_,rfl,i,rfl,.inr ⟨rfl,by rw[hp,Wx (by omega)];rfl⟩⟩
 ·rintro⟨e,l⟩ ⟨i,rfl,⟨rfl,hp⟩ | ⟨rfl,hp⟩⟩
  ·simp only[A0,hp];rfl
  ·simp only[A0,hp];rw[af (Yk _),decide_eq_decide.2 (show((s.length:Int)<=39)↔s.length<=39 from by omega)];rfl
theorem ac3:Wk 175 1 yj:=by
 refine cC Tryz.func175 rfl fun xs bl r h=> ?_;unfold yj at h;split at h;case h_2=>cases h
 rename_i b n k little;obtain⟨aC,rfl⟩:=dj h;refine cA (aD (room (Zx b) 1) (Zj (bJ (fun st=>ag .i64 st fun n r=>ag .i64 r fun bh r=>ar r fun b r=>aA r fun x r=>AV.fA x fun bT=>ag .i64 r fun bG r=>let t1:Int:=Zz .u64 (Zz .i64 (8*Zz .i64 (Zz .i64 (bh-1)-bG)));let t2:List UInt8:=[Zh (Zw (Zz .u8 (Xv (Zz .u64 n) (2 ^ min (Zw (Zz .u64 (Zz .i64 (8*bG)))) (Zp .u64)))))];let t0:List UInt8:=[Zh (Zw (Zz .u8 (Xv (Zz .u64 n) (2 ^ min (Zw t1) (Zp .u64)))))];ak r (aG (Zu (bG<bh)) (aG b (aD (Zu (0<=Zz .u64 (Zz .i64 (8*bG)))) (aD (room (Zx bT+Zx t2) 1) (Zd (Xy [Zy .i64 n,Zy .i64 bh,Zv b,Yh (bT++t2),Zy .i64 (Zz .i64 (bG+1))])))) (aD (Zu (0<=t1)) (aD (room (Zx bT+Zx t0) 1) (Zd (Xy [Zy .i64 n,Zy .i64 bh,Zv b,Yh (bT++t0),Zy .i64 (Zz .i64 (bG+1))]))))) (Zd (Yf (Yj 0,[Zy .i64 n,Zy .i64 bh,Zv b,Yh bT,Zy .i64 bG]))))) [Zy .i64 n,Zy .i64 k,Zv little,Yh b,Zy .i64 0]) fun(r:Ex×List AV)=>ag .i64 (Ym r) fun n dq=>ag .i64 dq fun n dA=>ar dA fun b dJ=>aA dJ fun x eI=>AV.fA x fun b=>ag .i64 eI fun n fI=>ak fI (jW r.1 Wu fun(j:Nat)=>aG (Xj j 0) (Zd (Yh b,[])) Wu))) (by kernel_rfl) ?_;try dsimp only[aJ,aV,ar,c9,ag,cL,c7]
 simp only[Zb,Qa2] at aC;obtain⟨hk,hb⟩:=aC;have nI:k.toNat<=4/\0<=k:=by omega
 rw[ae (Xz (by omega))];refine bW (fun i:Nat=>[Zy Zq n,Zy Zq k,Zv little,Yh (b++(Kerb.aK n k.toNat little).take i),Zy Zq (i:Int)]) (fun i=>i<=k.toNat) (fun i=>k.toNat-i)
  (fun r=>r=(Yj 0,[Zy Zq n,Zy Zq k,Zv little,Yh (b++Kerb.aK n k.toNat little),Zy Zq k])) 0 (Xn _) (by simp) ?_ ?_
 ·intro i hi;simp only[A0];by_cases fY:i<k.toNat
  ·have hs:=Kerb.uN (l:=Kerb.aK n k.toNat little) (i:=i) (by rw[Yd];omega);have hg:=Kerb.MI n k.toNat little fY;have hl:((Kerb.aK n k.toNat little).take i).length=i:=by simp[Yd];omega
   rw[af (by simp;omega)];have hw:∀ j:Nat,j<4->Zz Yg (Zz Zq (8*(j:Int)))=((8*j:Nat):Int):=fun j hj=>by
    rw[wrap_i64 (by omega) (by omega),Kerb.wrap_u64];omega
   have hm:∀ j:Nat,j<4->min (Zw ((8*j:Nat):Int)) (Zp Yg)=8*j:=fun j hj=>by
    have:Zp Yg=64:=rfl;rw[this];omega
   cases little
   ·have e:Zz Zq (Zz Zq (k-1)-(i:Int))=((k.toNat-1-i:Nat):Int):=by
     rw[wrap_i64 (n:=k-1) (by omega) (by omega),wrap_i64 (by omega) (by omega)];omega
    rw[ai rfl,e,hw _ (by omega),hm _ (by omega),Kerb.SY n (by omega),ae (by simp;omega),ae (Xz (by simp[hl];omega)),wrap_i64 (by omega) (by omega)];refine⟨_,rfl,i+1,?_,by omega,by dsimp only;omega⟩;dsimp only;rw[hs,hg,<-List.append_assoc];rfl
   ·rw[af rfl,hw _ (by omega),hm _ (by omega),Kerb.SY n (by omega),ae (by simp;omega),ae (Xz (by simp[hl];omega)),wrap_i64 (by omega) (by omega)];refine⟨_,rfl,i+1,?_,by omega,by dsimp only;omega⟩;dsimp only;rw[hs,hg,<-List.append_assoc];rfl
  ·rw[ai (by simp;omega)];refine⟨_,rfl,?_⟩;show _=_;rw[Yv (by rw[Yd];omega),show(i:Int)=k from by omega]
 ·rintro r rfl;simp only[A0];rw[af (Yk _)]
theorem ac7:Wk 184 1 PW:=by
 refine cC Tryz.func184 rfl fun xs bl r h=> ?_;unfold PW at h;split at h;case h_2=>cases h
 cases h;refine cA (Zd (Yb 1 [Zk [(65:UInt8),(84:UInt8),(72:UInt8)],Zk [(66:UInt8),(79:UInt8),(83:UInt8)],Zk [(67:UInt8),(65:UInt8),(77:UInt8)]],[])) (by kernel_rfl) ?_;rfl
theorem ado:Wk 200 1 P3:=by
 refine cC Tryz.func200 rfl fun xs bl r h=> ?_;unfold P3 at h;split at h;case h_2=>cases h
 rename_i nx e B at_ li bad;cases h;show dT (G.env 200 1) G.rts (G.own 200) Tryz.f200 _ _ [0]=_;refine cA (aG bad (Zd (Yy [],[[Zg B,Zy .i64 at_,Zv li,Zv Yn]])) (aG (!e==0) (Zd (Yy [],[[Zg B,Zy .i64 at_,Zv li,Zv Yn]])) (Zd (Yy [],[[Zg B,Zy .i64 nx,Zv li,Zv bad]])))) (by kernel_rfl) ?_;cases bad
 ·cases (e==0)<;>rfl
 ·rfl
theorem ads:Wk 203 1 B7:=by
 refine cC Tryz.func203 rfl fun xs bl r h=> ?_;unfold B7 at h;split at h;case h_2=>cases h
 rename_i b pos n;obtain⟨aC,rfl⟩:=dj h;refine cA (let t0:Option (AV×aw):=Zd (Yy [Zg [],Zy .i64 0,Zy .i64 104],[]);aG (Zu (pos<0)) t0 (aG (Zu (pos>(↑(Zx b):Int))) t0 (aG (Zu (n<0)) t0 (aG (Zu (n>Zz .i64 ((↑(Zx b):Int)-pos))) (Zd (Yy [Zg [],Zy .i64 0,Zy .i64 101],[])) (aD (Zu (0<=pos)&&Zu (pos<=Zz .i64 (pos+n))&&Zu (Zz .i64 (pos+n)<=(↑(Zx b):Int))) (aD (room (Zx (Xq (Zw pos) (Xu (Zw (Zz .i64 (pos+n))) b))) 1) (Zd (Yy [Zg (Xq (Zw pos) (Xu (Zw (Zz .i64 (pos+n))) b)),Zy .i64 (Zz .i64 (pos+n)),Zy .i64 0],[])))))))) (by kernel_rfl) ?_;try dsimp only[aJ,aV,ar,c9,ag,cL,c7]
 have hb:=Qa3 aC;unfold Kerb.bytes;by_cases h1:pos<0
 ·have e:Xw b pos n=104:=by unfold Xw;rw[Qa1 (by omega)]
  rw[af (by simpa using h1),e];rfl
 rw[ai (by simpa using h1)];by_cases h2:(b.length:Int)<pos
 ·have e:Xw b pos n=104:=by unfold Xw;rw[Qa1 (by omega)]
  rw[af (by simpa using h2),e];rfl
 rw[ai (by simpa using h2)];by_cases h3:n<0
 ·have e:Xw b pos n=104:=by unfold Xw;rw[Qa1 (by omega)]
  rw[af (by simpa using h3),e];rfl
 rw[ai (by simpa using h3),wrap_i64 (n:=(b.length:Int)-pos) (by omega) (by omega)];by_cases h4:(b.length:Int)-pos<n
 ·have e:Xw b pos n=101:=by unfold Xw;rw[Qa0 (by omega),Qa1 h4]
  rw[af (by simpa using h4),e];rfl
 have hr:Xw b pos n=0:=Kerb.ii.2 (by omega);have e:Xq (Zw pos) (Xu (Zw (pos+n)) b)=Kerb.cut b pos n:=by
  rw[show Zw (pos+n)=pos.toNat+n.toNat by omega,List.drop_take,show pos.toNat+n.toNat-pos.toNat=n.toNat by omega];rfl
 have hc:=Kerb.iS hr;rw[ai (by simpa using h4),Qa1 hr,wrap_i64 (by omega) (by omega),e,ae (by simp;omega),ae (Xz (by omega))]
theorem adt:Wk 204 1 Iq:=by
 refine cC Tryz.func204 rfl fun xs bl r h=> ?_;unfold Iq at h;split at h;case h_2=>cases h
 rename_i b pos;obtain⟨aC,rfl⟩:=dj h;refine cA (aG (Zu (pos<0)) (Zd (Yy [Zk [],Zy .i64 0,Zy .i64 104],[])) (aG (Zu (pos>(↑(Zx b):Int))) (Zd (Yy [Zk [],Zy .i64 0,Zy .i64 104],[])) (Zj (bJ (fun st=>aV st fun b r=>ag .i64 r fun n r=>aJ r fun bT r=>ag .i64 r fun bh r=>ag .i64 r fun bG r=>ag .i64 r fun dd r=>ak r (aG (Zu (dd<=39)) (aG (Zu (Zz .i64 (n+dd)>=(↑(Zx b):Int))) (Zd (Yf (Ex.ret,[Zg b,Zy .i64 n,Zk [],Zy .i64 0,Zy .i64 101,Zy .i64 dd]))) (aD (Zu (0<=Zz .i64 (n+dd))&&Zu (Zz .i64 (n+dd)<(↑(Zx b):Int))) (aG (Zm b (Zw (Zz .i64 (n+dd))) (0:UInt8)==(0:UInt8)) (aD (Zu (0<=n)&&Zu (n<=Zz .i64 (n+dd))&&Zu (Zz .i64 (n+dd)<=(↑(Zx b):Int))) (Zd (Yf (Ex.ret,[Zg b,Zy .i64 n,Zk (Xq (Zw n) (Xu (Zw (Zz .i64 (n+dd))) b)),Zy .i64 (Zz .i64 (Zz .i64 (n+dd)+1)),Zy .i64 0,Zy .i64 dd])))) (Zd (Xy [Zg b,Zy .i64 n,Zk bT,Zy .i64 bh,Zy .i64 bG,Zy .i64 (Zz .i64 (dd+1))]))))) (Zd (Yf (Yj 0,[Zg b,Zy .i64 n,Zk bT,Zy .i64 bh,Zy .i64 bG,Zy .i64 dd]))))) [Zg b,Zy .i64 pos,Zk [],Zy .i64 0,Zy .i64 0,Zy .i64 0]) fun(r:Ex×List AV)=>aV (Ym r) fun b dq=>ag .i64 dq fun n dA=>aJ dA fun b dJ=>ag .i64 dJ fun n eI=>ag .i64 eI fun bh fI=>ag .i64 fI fun bG ga=>ak ga (jW r.1 (Zd (Yy [Zk b,Zy .i64 n,Zy .i64 bh],[])) fun(j:Nat)=>aG (Xj j 0) (Zd (Yy [Zk [],Zy .i64 0,Zy .i64 105],[])) Wu)))) (by kernel_rfl) ?_;dsimp only[aJ,aV,ag];have hb:=Qa3 aC;unfold Kerb.text;by_cases h1:pos<0
 ·rw[af (by simpa using h1),Qa0 (by rw[Kerb.ii];omega)]
 rw[ai (by simpa using h1)];by_cases h2:(b.length:Int)<pos
 ·rw[af (by simpa using h2),Qa0 (by rw[Kerb.ii];omega)]
 rw[ai (by simpa using h2),Qa1 (Kerb.ii.2 (by omega))];obtain⟨R,hR⟩:∃ R,R=b.drop pos.toNat:=⟨_,rfl⟩;have hRl:R.length=b.length-pos.toNat:=by rw[hR];simp
 rw[<-hR];obtain⟨T,hT⟩:∃ T,T=R.take 40:=⟨_,rfl⟩;rw[<-hT];have WE:=Kerb.pI 0 T;refine bW (fun i:Nat=>[Zg b,Zy Zq pos,Zk [],Zy Zq 0,Zy Zq 0,Zy Zq (i:Int)]) (fun i=>i<=40/\i<=R.length/\(0:UInt8) ∉ R.take i) (fun i=>40-i)
  (fun r=>∃ (i:Nat) (v:List UInt8) (nx e:Int),r.2=[Zg b,Zy Zq pos,Zk v,Zy Zq nx,Zy Zq e,Zy Zq (i:Int)] /\
   ((r.1 = .ret/\v=[]/\nx=0/\e=101/\Yx 0 T<0/\T.length≠40)\/(r.1 = .ret/\Yx 0 T=i/\v=T.take i/\nx=pos+i+1/\e=0)\/(r.1 = .exit 0/\Yx 0 T<0/\T.length=40))) 0 ⟨by omega,by omega,by simp⟩ rfl ?_ ?_
 ·rintro i ⟨hi,hir,h0⟩;simp only[A0];by_cases fY:i<=39;case neg =>
   have e40:i=40:=by omega
   subst e40;rw[ai (by decide)];refine⟨_,rfl,40,[],0,0,rfl,.inr (.inr ⟨rfl,?_,?_⟩)⟩
   ·rw[<-hT] at h0;have:=mt WE.1 h0;omega
   ·rw[hT];simp;omega
  rw[af (by simp;omega),wrap_i64 (n:=pos+(i:Int)) (by omega) (by omega)];by_cases RG:(b.length:Int)<=pos+i
  ·rw[af (by simpa using RG)];have hTR:T=R.take i:=by rw[hT,Yv (by omega),Yv (by omega)]
   refine⟨_,rfl,i,[],0,101,rfl,.inl ⟨rfl,rfl,rfl,rfl,?_,?_⟩⟩
   ·rw[<-hTR] at h0;have:=mt WE.1 h0;omega
   ·rw[hTR];simp;omega
  have hiR:i<R.length:=by omega
  have hd:=Kerb.n6 hiR;have hbi:b.getD (pos+(i:Int)).toNat 0=R.getD i 0:=by
   rw[show(pos+(i:Int)).toNat=pos.toNat+i by omega,hR];simp[List.getD_eq_getElem?_getD]
  rw[ai (by simpa using RG),ae (by simp;omega),hbi];by_cases hz:R.getD i 0=0
  ·rw[af (by rw[hz];rfl),ae (by simp;omega),wrap_i64 (by omega) (by omega)];have hTi:T.take i=R.take i:=by rw[hT,List.take_take,Nat.min_eq_left (by omega)]
   have hTe:T=R.take i++0::(R.drop (i+1)).take (39-i):=by
    rw[hT];have:R=R.take i++(0::R.drop (i+1)):=by rw[<-hz,<-hd,List.take_append_drop]
    have hl:(R.take i).length=i:=by simp;omega
    calc R.take 40=(R.take i++(0::R.drop (i+1))).take 40:=by rw[<-this]
     _=_:=by rw[List.take_append,hl,Yv (by omega),show 40-i=(39-i)+1 by omega,List.take_succ_cons]
   have aaK:Yx 0 T=i:=by
    rw[hTe,Kerb.pH h0];simp;omega
   refine⟨_,rfl,i,_,_,0,rfl,.inr (.inl ⟨rfl,aaK,?_,rfl,rfl⟩)⟩;rw[hTi,hR,show(pos+(i:Int)).toNat=pos.toNat+i by omega,List.drop_take,show pos.toNat+i-pos.toNat=i by omega]
  ·rw[ai (beq_eq_false_iff_ne.2 hz),wrap_i64 (by omega) (by omega)];refine⟨_,rfl,i+1,rfl,⟨by omega,by omega,?_⟩,by dsimp only;omega⟩;rw[Kerb.uN hiR];simp only[List.mem_append,List.mem_singleton,not_or];exact⟨h0,fun e=>hz e.symm⟩
 ·rintro⟨e,l⟩ ⟨i,v,nx,er,rfl,⟨rfl,rfl,rfl,rfl,g1,g2⟩ | ⟨rfl,g1,rfl,rfl,rfl⟩ | ⟨rfl,g1,g2⟩⟩
  ·simp only[A0];rw[Qa0 (by omega),Qa0 g2]
  ·simp only[A0];rw[Qa1 (by omega),g1,Yq]
  ·simp only[A0];rw[Qa0 (by omega),Qa1 g2,af (Yk _)]
theorem adu:Wk 205 1 P4:=by
 refine cC Tryz.func205 rfl fun xs bl r h=> ?_;unfold P4 at h;split at h;case h_2=>cases h
 rename_i c n;cases h;refine cA (let t0:Option (AV×aw):=aG (Zu (n<1)) (Zd (Zy .u64 0,[])) (aG (Zu (n>4294967295)) (Zd (Zy .u64 0,[])) (Zd (Zy .u64 (Zz .u64 (↑(BitVec.toNat (BitVec.ofInt (Zp .u64) (Zz .u64 (Zz .u64 c*2 ^ min (Zw 56) (Zp .u64))) ||| BitVec.ofInt (Zp .u64) (Zz .u64 n))):Int)),[])));aG (!c==1) (aG (!c==2) (Zd (Zy .u64 0,[])) t0) t0) (by kernel_rfl) ?_;try dsimp only[aJ,aV,ar,c9,ag,cL,c7]
 unfold Kerb.oS Kerb.mR;by_cases hc:c=1\/c=2;case neg =>
  have q1:(c==(1:Int))=Yz:=by simp;omega
  have q2:(c==(2:Int))=Yz:=by simp;omega
  rw[q1,q2];rfl
 by_cases hn:1<=n/\n<=4294967295;case neg =>
  have q:(Zu (1<=n)&&Zu (n<=4294967295))=Yz:=by
   rw[Bool.eq_false_iff];simp;omega
  rw[q,Bool.and_false];have key:(aG (Zu (n<(1:Int))) (Zd (Zy .u64 (0:Int),([]:aw))) (aG (Zu (n>(4294967295:Int))) (Zd (Zy .u64 (0:Int),[])) (Zd (Zy Yg (Zz Yg ((BitVec.toNat (BitVec.ofInt (Zp Yg) (Zz Yg (Zz Yg c*(2:Int) ^ min (Zw (56:Int)) (Zp Yg))) ||| BitVec.ofInt (Zp Yg) (Zz Yg n)):Nat):Int)),[]))))=Zd (Zy .u64 0,[]):=by
   by_cases hl:n<1
   ·rw[af (by simpa using hl)]
   ·rw[ai (by simpa using hl),af (by simp;omega)]
  rcases hc with rfl | rfl
  ·rw[ai (by decide)];exact key
  ·rw[af (by decide),ai (by decide)];exact key
 have q:(Zu (1<=n)&&Zu (n<=4294967295))=Yn:=by simp;omega
 have q2:(c==(1:Int)||c==(2:Int))=Yn:=by simpa using hc
 rw[q,q2,Kerb.OJ hc hn.1 hn.2];rcases hc with rfl | rfl
 ·rw[ai (by decide),ai (by simp;omega),ai (by simp;omega)];rfl
 ·rw[af (by decide),ai (by decide),ai (by simp;omega),ai (by simp;omega)];rfl
theorem adv:Wk 206 1 P5:=by
 refine cC Tryz.func206 rfl fun xs bl r h=> ?_;unfold P5 at h;split at h;case h_2=>cases h
 rename_i n m;cases h;refine cA (aG (Zu (n>=0)) (Zd (Zv (Zu (n<=m)),[])) (Zd (Zv Yz,[]))) (by kernel_rfl) ?_;by_cases h:0<=n<;>simp[aG,Zn,h]
theorem adw:Wk 207 1 P6:=by
 refine cC Tryz.func207 rfl fun xs bl r h=> ?_;unfold P6 at h;split at h;case h_2=>cases h
 rename_i n m;cases h;refine cA (aG (Zu (n>=0)) (Zd (Zv (Zu (n<=m)),[])) (Zd (Zv Yz,[]))) (by kernel_rfl) ?_;by_cases h:0<=n<;>simp[aG,Zn,h]
theorem adz:Wk 210 1 yl:=by
 refine cC Tryz.func210 rfl fun xs bl r h=> ?_;unfold yl at h;split at h;case h_2=>cases h
 rename_i b pos n;obtain⟨aC,rfl⟩:=dj h;refine cA (aG (Zu (pos<0)) (Zd (Zy .i64 104,[])) (aG (Zu (pos>(↑(Zx b):Int))) (Zd (Zy .i64 104,[])) (aG (Zu (n<0)) (Zd (Zy .i64 104,[])) (aG (Zu (n>Zz .i64 ((↑(Zx b):Int)-pos))) (Zd (Zy .i64 101,[])) (Zd (Zy .i64 0,[])))))) (by kernel_rfl) ?_;simp only[Qa2] at aC;unfold Xw;by_cases h1:pos<0
 ·simp[aG,h1]
 by_cases h2:(b.length:Int)<pos
 ·simp[aG,h1,h2]
 by_cases h3:n<0
 ·simp[aG,h1,h2,h3]
 rw[ai (by simp;omega),ai (by simp;omega),ai (by simp;omega),wrap_i64 (by omega) (by omega),Qa0 (by omega)];by_cases h4:(b.length:Int)-pos<n
 ·rw[af (by simp;omega),Qa1 h4]
 ·rw[ai (by simp;omega),Qa0 h4]
theorem adG:Wk 218 1 uK:=by
 refine cC Tryz.func218 rfl fun xs bl r h=> ?_;unfold uK at h;split at h;case h_2=>cases h
 rename_i k;obtain⟨aC,rfl⟩:=dj h;refine cA (Zj (bJ (fun st=>ag .u64 st fun n r=>aA r fun x r=>AV.fA x fun b=>ag .i64 r fun bh r=>ag .i64 r fun bG r=>ak r (aG (Zu (bG<bh)) (aD (Zu (0<=Zz .i64 (8*Zz .i64 (7-bG)))) (aD (Zu (0<=bG)&&Zu (bG<(↑(Zx b):Int))) (aD (Wz (Zw bG) (Zx b)&&Yn&&Yn&&Yn&&Yn) (Zd (Xy [Zy .u64 n,Yh (List.set b (Zw bG) (Zh (Zw (Zz .u8 (Xv n (2 ^ min (Zw (Zz .i64 (8*Zz .i64 (7-bG)))) (Zp .u64))))))),Zy .i64 bh,Zy .i64 (Zz .i64 (bG+1))]))))) (Zd (Yf (Yj 0,[Zy .u64 n,Yh b,Zy .i64 bh,Zy .i64 bG]))))) [Zy .u64 k,Yh (Xk (Zw 8) (0:UInt8)),Zy .i64 (↑(Zx (Xk (Zw 8) (0:UInt8))):Int),Zy .i64 0]) fun(r:Ex×List AV)=>ag .u64 (Ym r) fun n dq=>aA dq fun x dA=>AV.fA x fun b=>ag .i64 dA fun n dJ=>ag .i64 dJ fun n eI=>ak eI (jW r.1 Wu fun(j:Nat)=>aG (Xj j 0) (Zd (Zg b,[])) Wu)) (by kernel_rfl) ?_;dsimp only[ag];refine gm 9 (Yj 0,[Zy Yg k,Yh [Xg k 56,Xg k 48,Xg k 40,Xg k 32,Xg k 24,Xg k 16,Xg k 8,Xg k 0],Zy Zq 8,Zy Zq 8]) (by kernel_rfl) ?_;simp only[A0];rw[af (Yk _)];simp[Kerb.tv,Kerb.keyBytes,Kerb.eV,List.range_succ]
theorem adJ:Wk 221 1 P_:=by
 refine cC Tryz.func221 rfl fun xs bl r h=> ?_;unfold P_ at h;split at h;case h_2=>cases h
 rename_i n m;cases h;refine cA (aG (Zu (n>=0)) (Zd (Zv (Zu (n<=m)),[])) (Zd (Zv Yz,[]))) (by kernel_rfl) ?_;by_cases h:0<=n<;>simp[aG,Zn,h]
theorem adK:Wk 222 1 P':=by
 refine cC Tryz.func222 rfl fun xs bl r h=> ?_;unfold P' at h;split at h;case h_2=>cases h
 rename_i nx e B at_ bad;cases h;show dT (G.env 222 1) G.rts (G.own 222) Tryz.f222 _ _ [0]=_;refine cA (aG bad (Zd (Zv Yz,[[Zg B,Zy .i64 at_,Zv Yn]])) (aG (!e==0) (Zd (Zv Yz,[[Zg B,Zy .i64 at_,Zv Yn]])) (Zd (Zv Yn,[[Zg B,Zy .i64 nx,Zv bad]])))) (by kernel_rfl) ?_;cases bad
 ·cases (e==0)<;>rfl
 ·rfl
theorem adO:Wk 226 1 Qa:=by
 refine cC Tryz.func226 rfl fun xs bl r h=> ?_;unfold Qa at h;split at h;case h_2=>cases h
 rename_i nx e B at_ bad;cases h;show dT (G.env 226 1) G.rts (G.own 226) Tryz.f226 _ _ [0]=_;refine cA (aG (!e==0) (Zd (Yy [],[[Zg B,Zy .i64 at_,Zv Yn]])) (Zd (Yy [],[[Zg B,Zy .i64 nx,Zv bad]]))) (by kernel_rfl) ?_;cases bad<;>cases (e==0)<;>rfl
theorem adR:Wk 229 1 Qc:=by
 refine cC Tryz.func229 rfl fun xs bl r h=> ?_;unfold Qc at h;split at h;case h_2=>cases h
 rename_i n m;cases h;refine cA (aG (Zu (n>=0)) (Zd (Zv (Zu (n<=m)),[])) (Zd (Zv Yz,[]))) (by kernel_rfl) ?_;by_cases h:0<=n<;>simp[aG,Zn,h]
theorem adT:Wk 233 1 Qe:=by
 refine cC Tryz.func233 rfl fun xs bl r h=> ?_;unfold Qe at h;split at h;case h_2=>cases h
 rename_i k;cases h;refine cA (aG (k==1) (Zd (Zv Yn,[])) (Zd (Zv (k==2),[]))) (by kernel_rfl) ?_;unfold Kerb.oS;cases (k==(1:Int))<;>rfl
theorem adU:Wk 234 1 Qf:=by
 refine cC Tryz.func234 rfl fun xs bl r h=> ?_;unfold Qf at h;split at h;case h_2=>cases h
 rename_i k;cases h;refine cA (aG (Zu (k>=1)) (Zd (Zv (Zu (k<=4294967295)),[])) (Zd (Zv Yz,[]))) (by kernel_rfl) ?_;by_cases h:1<=k<;>simp[aG,Kerb.mR,h]
theorem adW:Wk 238 1 Qg:=by
 refine cC Tryz.func238 rfl fun xs bl r h=> ?_;unfold Qg at h;split at h;case h_2=>cases h
 rename_i k;cases h;refine cA (aG (Zu (k>=1)) (Zd (Zv (Zu (k<=10)),[])) (Zd (Zv Yz,[]))) (by kernel_rfl) ?_;by_cases h:1<=k<;>simp[aG,Xx,h]
theorem adY:Wk 241 1 Iv:=by
 refine cC Tryz.func241 rfl fun xs bl r h=> ?_;unfold Iv at h;split at h;case h_2=>cases h
 rename_i k els;obtain⟨aC,rfl⟩:=dj h;refine cA (Zj (bJ (fun st=>ag .i64 st fun n r=>ar r fun b r=>cL 1 r fun bT r=>ag .i64 r fun bh r=>ag .i64 r fun bG r=>ak r (aG (Zu (bG<bh)) (aD (Zu (0<=bG)&&Zu (bG<(↑(Zx bT):Int))&&Yn) (AV.ax .i64 (Zm bT (Zw bG) Xp) fun dd=>aG (dd==n) (Zd (Yf (Ex.ret,[Zy .i64 n,Zv Yn,Yb 1 bT,Zy .i64 bh,Zy .i64 bG]))) (Zd (Xy [Zy .i64 n,Zv b,Yb 1 bT,Zy .i64 bh,Zy .i64 (Zz .i64 (bG+1))])))) (Zd (Yf (Yj 0,[Zy .i64 n,Zv b,Yb 1 bT,Zy .i64 bh,Zy .i64 bG]))))) [Zy .i64 k,Zv Yz,Yb 1 els,Zy .i64 (↑(Zx els):Int),Zy .i64 0]) fun(r:Ex×List AV)=>ag .i64 (Ym r) fun n dq=>ar dq fun b dA=>cL 1 dA fun bT dJ=>ag .i64 dJ fun n eI=>ag .i64 eI fun n fI=>ak fI (jW r.1 (Zd (Zv b,[])) fun(j:Nat)=>aG (Xj j 0) (Zd (Zv Yz,[])) Wu)) (by kernel_rfl) ?_;dsimp only[ar,ag,cL];simp only[Zb,Qa2] at aC;obtain⟨ha,hl⟩:=aC;have hil:=Kerb.Ba ha;refine bW (fun i:Nat=>[Zy Zq k,Zv Yz,Yb 1 els,Zy Zq (els.length:Int),Zy Zq (i:Int)]) (fun i=>i<=els.length/\(k∈iH els↔k∈(iH els).drop i)) (fun i=>els.length-i)
  (fun r=>∃ (i:Nat) (x:Bool),r.2=[Zy Zq k,Zv x,Yb 1 els,Zy Zq (els.length:Int),Zy Zq (i:Int)]/\((r.1 = .ret/\x=Yn/\k∈iH els)\/(r.1 = .exit 0/\k ∉ iH els))) 0 ⟨Xn _,by simp⟩ rfl ?_ ?_
 ·rintro i ⟨hi,hm⟩;simp only[A0];by_cases fY:i<els.length
  ·obtain⟨n,h1,h2⟩:=Kerb.A' ha fY;rw[af (by simp;omega),ae (by simp;omega),Yq,h1,za];rw[h2,List.mem_cons] at hm;by_cases h3:n=k
   ·rw[af (by simpa using h3)];exact⟨_,rfl,i,Yn,rfl,.inl ⟨rfl,rfl,hm.2 (.inl h3.symm)⟩⟩
   ·rw[ai (by simpa using h3),wrap_i64 (by omega) (by omega)];exact⟨_,rfl,i+1,rfl,⟨by omega,hm.trans ⟨fun h=>h.resolve_left fun e=>h3 e.symm,.inr⟩⟩,by dsimp only;omega⟩
  ·rw[ai (by simp;omega)];refine⟨_,rfl,i,Yz,rfl,.inr ⟨rfl,?_⟩⟩;rw[hm,Wx (by omega)];simp
 ·rintro⟨e,l⟩ ⟨i,x,rfl,⟨rfl,rfl,h⟩ | ⟨rfl,h⟩⟩
  ·simp[aA,AV.ax,AV.dD,AV.fR,ak,jW,h]
  ·simp[aA,AV.ax,AV.dD,AV.fR,ak,jW,h,aG]
theorem ad2:Wk 245 1 Qk:=by
 refine cC Tryz.func245 rfl fun xs bl r h=> ?_;unfold Qk at h;split at h;case h_2=>cases h
 rename_i n m;cases h;refine cA (aG (Zu (n>=0)) (Zd (Zv (Zu (n<=m)),[])) (Zd (Zv Yz,[]))) (by kernel_rfl) ?_;by_cases h:0<=n<;>simp[aG,Zn,h]
theorem ad8:Wk 251 1 Ql:=by
 refine cC Tryz.func251 rfl fun xs bl r h=> ?_;unfold Ql at h;split at h;case h_2=>cases h
 rename_i n;cases h;refine cA (aG (n==1) (Zd (Zv Yn,[])) (aG (n==2) (Zd (Zv Yn,[])) (Zd (Zv (n==3),[])))) (by kernel_rfl) ?_;unfold Kerb.mT;cases (n==1)
 ·cases (n==2)<;>rfl
 ·rfl
theorem ad9:Wk 252 1 Qm:=by
 refine cC Tryz.func252 rfl fun xs bl r h=> ?_;unfold Qm at h;split at h;case h_2=>cases h
 rename_i n m;cases h;refine cA (aG (Zu (n>=0)) (Zd (Zv (Zu (n<=m)),[])) (Zd (Zv Yz,[]))) (by kernel_rfl) ?_;by_cases h:0<=n<;>simp[aG,Zn,h]
theorem ad':Wk 255 1 Qo:=by
 refine cC Tryz.func255 rfl fun xs bl r h=> ?_;unfold Qo at h;split at h;case h_2=>cases h
 rename_i n m;cases h;refine cA (aG (Zu (n>=0)) (Zd (Zv (Zu (n<=m)),[])) (Zd (Zv Yz,[]))) (by kernel_rfl) ?_;by_cases h:0<=n<;>simp[aG,Zn,h]
theorem aed:Wk 261 1 Qp:=by
 refine cC Tryz.func261 rfl fun xs bl r h=> ?_;unfold Qp at h;split at h;case h_2=>cases h
 rename_i k;cases h;refine cA (aG (Zu (k>=1)) (Zd (Zv (Zu (k<=10)),[])) (Zd (Zv Yz,[]))) (by kernel_rfl) ?_;by_cases h:1<=k<;>simp[aG,Xx,h]
theorem aej:Wk 267 1 IE:=by
 refine cC Tryz.func267 rfl fun xs bl r h=> ?_;unfold IE at h;split at h;case h_2=>cases h
 rename_i a b els;obtain⟨aC,rfl⟩:=dj h;show dT (G.env 267 1) G.rts (G.own 267) Tryz.f267 _ _ [0]=_;refine cA (Zj (bJ (fun st=>aA st fun x r=>AV.aW x fun y=>ag .i64 r fun n r=>ag .i64 r fun bh r=>ak r (aG (Zu (n<bh)) (aD (Zu (0<=bh)&&Zu (bh<(↑(Zx y):Int))&&Yn) (aD (Wz (Zw bh) (Zx y)&&Yn) (AV.ax .u64 (Zm y (Zw bh) Xp) fun bG=>aD (Zu (0<=n)&&Zu (n<(↑(Zx y):Int))&&Yn) (aD (Wz (Zw n) (Zx y)&&Yn) (AV.ax .u64 (Zm y (Zw n) Xp) fun dd=>aD (Zu (0<=n)&&Zu (n<(↑(Zx y):Int))&&Yn) (aD (Wz (Zw n) (Zx y)&&Yn) (AV.ax .u64 (Zm y (Zw n) Xp) fun bR=>aD (Zx [Zy .u64 bG]==nat_lit 1&&Yn&&Yn&&Yn&&Wz (Zw n) (Zx y)) (aD (Zu (0<=bh)&&Zu (bh<(↑(Zx (List.set y (Zw n) (Zy .u64 bG))):Int))&&Yn) (aD (Wz (Zw bh) (Zx (List.set y (Zw n) (Zy .u64 bG)))&&Yn) (AV.ax .u64 (Zm (List.set y (Zw n) (Zy .u64 bG)) (Zw bh) Xp) fun bM=>aD (Zx [Zy .u64 dd]==nat_lit 1&&Yn&&Yn&&Yn&&Wz (Zw bh) (Zx (List.set y (Zw n) (Zy .u64 bG)))) (Zd (Xy [AV.aI (List.set (List.set y (Zw n) (Zy .u64 bG)) (Zw bh) (Zy .u64 dd)),Zy .i64 (Zz .i64 (n+1)),Zy .i64 (Zz .i64 (bh-1))])))))))))))) (Zd (Yf (Yj 0,[AV.aI y,Zy .i64 n,Zy .i64 bh]))))) [AV.aI els,Zy .i64 a,Zy .i64 (Zz .i64 (b-1))]) fun(r:Ex×List AV)=>aA (Ym r) fun x dq=>AV.aW x fun y=>ag .i64 dq fun n dA=>ag .i64 dA fun n dJ=>ak dJ (jW r.1 (Zd (Yy [],[y])) fun(j:Nat)=>aG (Xj j 0) (Zd (Yy [],[y])) Wu)) (by kernel_rfl) ?_;dsimp only[ag];simp only[Zb,Qa2] at aC;obtain⟨⟨⟨⟨iq,hlen⟩,IW⟩,wC⟩,hb⟩:=aC;obtain⟨d,rfl,hd⟩:=Kerb.m7 iq;simp only[Kerb.aX] at *;unfold Kerb.R9;rw[hd];obtain⟨a,rfl⟩:=Wy IW;obtain⟨b,rfl⟩:=Wy (show 0<=b by omega);simp only[Yq];rw[Kerb.ia (by omega) (by omega)];unfold Go.Sort.reverseRange;refine bW (fun s:Array Int×Nat×Int=>[AV.aI (Kerb.back s.1),Zy .i64 (s.2.1:Int),Zy .i64 s.2.2]) (fun s=>s.1.size=d.size/\s.2.1<=d.size /\ -1<=s.2.2/\s.2.2<d.size/\Go.Sort.reverseLoop s.2.1 s.2.2.toNat s.1=Go.Sort.reverseLoop a (b-1) d) (fun s=>(s.2.2-s.2.1+1).toNat) (fun r=>∃ n m,r=(.exit 0,[AV.aI (Kerb.back (Go.Sort.reverseLoop a (b-1) d)),Zy .i64 n,Zy .i64 m])) (d,a,(b:Int)-1) ⟨rfl,by dsimp only;omega,by dsimp only;omega,by dsimp only;omega,by dsimp only;rw[show((b:Int)-1).toNat=b-1 by omega]⟩ rfl ?_ ?_
 ·rintro⟨e,i,j⟩ ⟨hs,hi,hj0,hj1,hr⟩;dsimp only at hs hi hj0 hj1 hr ⊢;simp only[↓bQ,↓cw,↓dg,↓dr];by_cases h:(i:Int)<j
  ·obtain⟨m,rfl⟩:=Wy (show 0<=j by omega);have hm:m<e.size:=by omega
   have hie:i<e.size:=by omega
   rw[Yq] at hr;rw[af (by simpa using h),Kerb.ia (by omega) (by omega),Kerb.ia (by omega) (by omega),Kerb.sw hie hm (fun l=>Zd (Xy [AV.aI l,Zy .i64 ((i:Int)+1),Zy .i64 ((m:Int)-1)]))];refine⟨_,rfl,(Go.Sort.swp e i m,i+1,(m:Int)-1),rfl,⟨by dsimp only;rw[Kerb.swp_size,hs],by dsimp only;omega,by dsimp only;omega,by dsimp only;omega,?_⟩,by dsimp only;omega⟩;dsimp only;rw[<-hr];conv=>rhs;unfold Go.Sort.reverseLoop
   rw[Qa1 (by omega),show((m:Int)-1).toNat=m-1 by omega]
  ·rw[ai (by simpa using h)];refine⟨_,rfl,i,j,?_⟩;have:Go.Sort.reverseLoop i j.toNat e=e:=by
    unfold Go.Sort.reverseLoop;rw[Qa0 (by omega)]
   rw[<-hr,this]
 ·rintro _ ⟨n,m,rfl⟩;simp only[↓bQ,↓cw,↓dg,↓dr,↓la];rw[af (Yk _)]
theorem aeo:Wk 273 1 IG:=by
 refine cC Tryz.func273 rfl fun xs bl r h=> ?_;unfold IG at h;split at h;case h_2=>cases h
 rename_i x;obtain⟨aC,rfl⟩:=dj h;refine cA (let t2:List UInt8:=([8,8,8,8,8,8,8,8,8,8,8,8,8,8,8,8,8,8,8,8,8,8,8,8,8,8,8,8,8,8,8,8,8,8,8,8,8,8,8,8,8,8,8,8,8,8,8,8,8,8,8,8,8,8,8,8,8,8,8,8,8,8,8,8]:List UInt8);let t11:Int:=Xv x (2 ^ min (Zw 32) (Zp .u64));let t12:Int:=(↑(Zf (Zh (Zw (Zz .u8 x)))):Int);let t13:Int:=Xv x (2 ^ min (Zw 16) (Zp .u64));let t14:Int:=2 ^ min (Zw 8) (Zp .u64);let t1:List UInt8:=(0:UInt8)::List.append (List.append ([1,2,2,3,3,3,3,4,4,4,4,4,4,4,4,5,5,5,5,5,5,5,5,5,5,5,5,5,5,5,5,6,6,6,6,6,6,6,6,6,6,6,6,6,6,6,6,6,6,6,6,6,6,6,6,6,6,6,6,6,6,6,6]:List UInt8) ([7,7,7,7,7,7,7,7,7,7,7,7,7,7,7,7,7,7,7,7,7,7,7,7,7,7,7,7,7,7,7,7,7,7,7,7,7,7,7,7,7,7,7,7,7,7,7,7,7,7,7,7,7,7,7,7,7,7,7,7,7,7,7,7]:List UInt8)) (List.append t2 t2);let t4:Int:=(↑(Zf (Zh (Zw (Zz .u8 (Xv t11 t14))))):Int);let t6:Int:=(↑(Zf (Zh (Zw (Zz .u8 (Xv t13 t14))))):Int);let t7:Int:=(↑(Zf (Zh (Zw (Zz .u8 t11)))):Int);let t8:Int:=(↑(Zf (Zh (Zw (Zz .u8 t13)))):Int);let t9:Int:=(↑(Zf (Zh (Zw (Zz .u8 (Xv x t14))))):Int);let t10:Int:=Xv t11 (2 ^ min (Zw 16) (Zp .u64));let t0:Int:=(↑(Zx t1):Int);let t3:Int:=(↑(Zf (Zh (Zw (Zz .u8 (Xv t10 t14))))):Int);let t5:Int:=(↑(Zf (Zh (Zw (Zz .u8 t10)))):Int);aG (Zu (x>=4294967296)) (aG (Zu (t11>=65536)) (aG (Zu (t10>=256)) (aD (Zu (0<=t3)&&Zu (t3<t0)) (Zd (Zy .i64 (Zz .i64 (Zz .i64 (Zz .i64 (32+16)+8)+Zz .i64 (↑(Zf (Zm t1 (Zw t3) (0:UInt8))):Int))),[]))) (aD (Zu (0<=t5)&&Zu (t5<t0)) (Zd (Zy .i64 (Zz .i64 (Zz .i64 (32+16)+Zz .i64 (↑(Zf (Zm t1 (Zw t5) (0:UInt8))):Int))),[])))) (aG (Zu (t11>=256)) (aD (Zu (0<=t4)&&Zu (t4<t0)) (Zd (Zy .i64 (Zz .i64 (Zz .i64 (32+8)+Zz .i64 (↑(Zf (Zm t1 (Zw t4) (0:UInt8))):Int))),[]))) (aD (Zu (0<=t7)&&Zu (t7<t0)) (Zd (Zy .i64 (Zz .i64 (32+Zz .i64 (↑(Zf (Zm t1 (Zw t7) (0:UInt8))):Int))),[]))))) (aG (Zu (x>=65536)) (aG (Zu (t13>=256)) (aD (Zu (0<=t6)&&Zu (t6<t0)) (Zd (Zy .i64 (Zz .i64 (Zz .i64 (Zz .i64 (0+16)+8)+Zz .i64 (↑(Zf (Zm t1 (Zw t6) (0:UInt8))):Int))),[]))) (aD (Zu (0<=t8)&&Zu (t8<t0)) (Zd (Zy .i64 (Zz .i64 (Zz .i64 (0+16)+Zz .i64 (↑(Zf (Zm t1 (Zw t8) (0:UInt8))):Int))),[])))) (aG (Zu (x>=256)) (aD (Zu (0<=t9)&&Zu (t9<t0)) (Zd (Zy .i64 (Zz .i64 (Zz .i64 (0+8)+Zz .i64 (↑(Zf (Zm t1 (Zw t9) (0:UInt8))):Int))),[]))) (aD (Zu (0<=t12)&&Zu (t12<t0)) (Zd (Zy .i64 (Zz .i64 (0+Zz .i64 (↑(Zf (Zm t1 (Zw t12) (0:UInt8))):Int))),[])))))) (by kernel_rfl) ?_;try dsimp only[aJ,aV,ar,c9,ag,cL,c7]
 simp only[Zb,Qa2] at aC;obtain⟨h0,h1⟩:=aC;obtain⟨n,rfl⟩:=Wy h0;rw[Kerb.Bh];simp only[Kerb.f32,Kerb.f16,Kerb.f8];by_cases h32:2 ^ 32<=n
 ·rw[af (by simp;omega)];have e32:=Kerb.ke 32 h32;have b32:n / 2 ^ 32<2 ^ 32:=by omega
  generalize n / 2 ^ 32=m0 at e32 b32 ⊢;by_cases h16:2 ^ 16<=m0
  ·rw[af (by simp;omega)];have Z5:=Kerb.ke 16 h16;have ZU:m0 / 2 ^ 16<2 ^ 16:=by omega
   generalize m0 / 2 ^ 16=m5 at Z5 ZU ⊢;by_cases h8:2 ^ 8<=m5
   ·rw[af (by simp;omega)];have e8:=Kerb.ke 8 h8;have b8:m5 / 2 ^ 8<2 ^ 8:=by omega
    generalize m5 / 2 ^ 8=m10 at e8 b8 ⊢;rw[Kerb.oq (by decide +kernel) (by omega) (by decide) (by decide)];have hz:Zz .i64 (Zz .i64 ((32:Int)+(16:Int))+(8:Int))+(Go.Sort.bitsLen m10:Int)=(Go.Sort.bitsLen n:Int):=by
     have:Zz .i64 (Zz .i64 ((32:Int)+(16:Int))+(8:Int))=56:=by decide
     omega
    rw[hz]
   ·rw[ai (by simp;omega)];rw[Kerb.oq (by decide +kernel) (by omega) (by decide) (by decide)];have hz:Zz .i64 ((32:Int)+(16:Int))+(Go.Sort.bitsLen m5:Int)=(Go.Sort.bitsLen n:Int):=by
     have:Zz .i64 ((32:Int)+(16:Int))=48:=by decide
     omega
    rw[hz]
  ·rw[ai (by simp;omega)];by_cases h8:2 ^ 8<=m0
   ·rw[af (by simp;omega)];have e8:=Kerb.ke 8 h8;have b8:m0 / 2 ^ 8<2 ^ 8:=by omega
    generalize m0 / 2 ^ 8=m27 at e8 b8 ⊢;rw[Kerb.oq (by decide +kernel) (by omega) (by decide) (by decide)];have hz:Zz .i64 ((32:Int)+(8:Int))+(Go.Sort.bitsLen m27:Int)=(Go.Sort.bitsLen n:Int):=by
     have:Zz .i64 ((32:Int)+(8:Int))=40:=by decide
     omega
    rw[hz]
   ·rw[ai (by simp;omega)];rw[Kerb.oq (by decide +kernel) (by omega) (by decide) (by decide)];have hz:(32:Int)+(Go.Sort.bitsLen m0:Int)=(Go.Sort.bitsLen n:Int):=by
     have:(32:Int)=32:=by decide
     omega
    rw[hz]
 ·rw[ai (by simp;omega)];by_cases h16:2 ^ 16<=n
  ·rw[af (by simp;omega)];have Z5:=Kerb.ke 16 h16;have ZU:n / 2 ^ 16<2 ^ 16:=by omega
   generalize n / 2 ^ 16=Zt at Z5 ZU ⊢;by_cases h8:2 ^ 8<=Zt
   ·rw[af (by simp;omega)];have e8:=Kerb.ke 8 h8;have b8:Zt / 2 ^ 8<2 ^ 8:=by omega
    generalize Zt / 2 ^ 8=m49 at e8 b8 ⊢;rw[Kerb.oq (by decide +kernel) (by omega) (by decide) (by decide)];have hz:Zz .i64 (Zz .i64 ((0:Int)+(16:Int))+(8:Int))+(Go.Sort.bitsLen m49:Int)=(Go.Sort.bitsLen n:Int):=by
     have:Zz .i64 (Zz .i64 ((0:Int)+(16:Int))+(8:Int))=24:=by decide
     omega
    rw[hz]
   ·rw[ai (by simp;omega)];rw[Kerb.oq (by decide +kernel) (by omega) (by decide) (by decide)];have hz:Zz .i64 ((0:Int)+(16:Int))+(Go.Sort.bitsLen Zt:Int)=(Go.Sort.bitsLen n:Int):=by
     have:Zz .i64 ((0:Int)+(16:Int))=16:=by decide
     omega
    rw[hz]
  ·rw[ai (by simp;omega)];by_cases h8:2 ^ 8<=n
   ·rw[af (by simp;omega)];have e8:=Kerb.ke 8 h8;have b8:n / 2 ^ 8<2 ^ 8:=by omega
    generalize n / 2 ^ 8=m66 at e8 b8 ⊢;rw[Kerb.oq (by decide +kernel) (by omega) (by decide) (by decide)];have hz:Zz .i64 ((0:Int)+(8:Int))+(Go.Sort.bitsLen m66:Int)=(Go.Sort.bitsLen n:Int):=by
     have:Zz .i64 ((0:Int)+(8:Int))=8:=by decide
     omega
    rw[hz]
   ·rw[ai (by simp;omega)];rw[Kerb.oq (by decide +kernel) (by omega) (by decide) (by decide)];have hz:(0:Int)+(Go.Sort.bitsLen n:Int)=(Go.Sort.bitsLen n:Int):=by
     have:(0:Int)=0:=by decide
     omega
    rw[hz]
theorem aes:Wk 277 1 II:=by
 refine cC Tryz.func277 rfl fun xs bl r h=> ?_;unfold II at h;split at h;case h_2=>cases h
 rename_i x;obtain⟨aC,rfl⟩:=dj h;show dT (G.env 277 1) G.rts (G.own 277) Tryz.f277 _ _ [0]=_;refine cA (let t2:Int:=Zz .u64 (↑(BitVec.toNat (BitVec.ofInt (Zp .u64) x ^^^ BitVec.ofInt (Zp .u64) (Zz .u64 (x*2 ^ min (Zw 13) (Zp .u64))))):Int);let t1:Int:=Zz .u64 (↑(BitVec.toNat (BitVec.ofInt (Zp .u64) t2 ^^^ BitVec.ofInt (Zp .u64) (Xv t2 (2 ^ min (Zw 7) (Zp .u64))))):Int);let t0:AV:=Zy .u64 (Zz .u64 (↑(BitVec.toNat (BitVec.ofInt (Zp .u64) t1 ^^^ BitVec.ofInt (Zp .u64) (Zz .u64 (t1*2 ^ min (Zw 17) (Zp .u64))))):Int));Zd (t0,[[t0]])) (by kernel_rfl) ?_;try dsimp only[aJ,aV,ar,c9,ag,cL,c7]
 simp only[Zb,Qa2] at aC;obtain⟨h0,h1⟩:=aC;obtain⟨v,rfl⟩:∃ v:BitVec 64,x=(v.toNat:Int):=⟨BitVec.ofNat 64 x.toNat,by rw[BitVec.toNat_ofNat];omega⟩;exact Qb5 (fun z=>Zd (Zy .u64 z,[[Zy .u64 z]])) (Kerb.Q2 v)
theorem aev:Wk 280 1 Qs:=by
 refine cC Tryz.func280 rfl fun xs bl r h=> ?_;unfold Qs at h;split at h;case h_2=>cases h
 rename_i x;cases h;refine cA (Zd (Zv !x==x,[])) (by kernel_rfl) ?_;simp
theorem w29:Wk 29 2 Uz:=by
 refine cC Tryz.func29 rfl fun xs bl r h=> ?_;unfold Uz at h;split at h;case h_2=>cases h
 rename_i n;cases h;refine cA (aG (Zu ((↑(Zf (Zh (Zw (Yw (↑(Zf n):Int) (↑(Zf (6:UInt8)):Int))))):Int)<(↑(Zf (2:UInt8)):Int))) (Zj (Qh [Zy .i64 (Yw (Zz .i64 (↑(Zf n):Int)) 6)] []) (kI .u64 fun n=>Zd (Zy .u64 n,[]))) (Zj (Kd [Zy .i64 (Yw (Zz .i64 (↑(Zf n):Int)) 6)] []) (kI .u64 fun n=>Zd (Zy .u64 n,[])))) (by kernel_rfl) ?_;delta kI;dsimp only[Kd,Qh,aJ,aV,ar,c9,ag,cL,c7];have h:=Kerb.Lh n (m:=6) (by decide);have e1:Zu (0<=Kerb.ww n 6)=Yn:=Qa4 h.1;have e2:Zu (Kerb.ww n 6<=1000)=Yn:=Qa4 (by omega);simp only[A0,Xf,Xb,Kerb.eU.av,e1,e2,Wv];unfold Kerb.ma;rw[Pu];cases Zu (((Zh (Zw (Yw (n.toNat:Int) ((6:UInt8).toNat:Int)))).toNat:Int)<((2:UInt8).toNat:Int))<;>rfl
theorem w60:Wk 60 2 UF:=by
 refine cC Tryz.func60 rfl fun xs bl r h=> ?_;unfold UF at h;split at h;case h_2=>cases h
 rename_i n;cases h;refine cA (Zj (Kd [Zy .i64 (Zz .i64 (2+Yw (Zz .i64 (↑(Zf n):Int)) 4))] []) (kI .u64 fun n=>Zd (Zy .u64 n,[]))) (by kernel_rfl) ?_;delta kI;dsimp only[Kd,aJ,aV,ar,c9,ag,cL,c7];have h:=Kerb.Lh n (m:=4) (by decide);have e0:Go.IntKind.wrap .i64 (2+Kerb.ww n 4)=2+Kerb.ww n 4:=wrap_i64 (by omega) (by omega);have e1:Zu (0<=Go.IntKind.wrap .i64 (2+Kerb.ww n 4))=Yn:=Qa4 (by rw[e0];omega);have e2:Zu (Go.IntKind.wrap .i64 (2+Kerb.ww n 4)<=1000)=Yn:=Qa4 (by rw[e0];omega);simp only[A0,Xf,Xb,Kerb.eU.av,e1,e2,Wv,Kerb.HQ]
theorem w91:Wk 91 2 FJ:=by
 refine cC Tryz.func91 rfl fun xs bl r h=> ?_;unfold FJ at h;split at h;case h_2=>cases h
 rename_i s;obtain⟨aC,rfl⟩:=dj h;refine cA (aG (Zu ((↑(Zx s):Int)>0)) (Zj (yi [Zk s,Zk [(64:UInt8)]] []) (kL fun b=>Zd (Zv b,[]))) (Zd (Zv Yz,[]))) (by kernel_rfl) ?_;delta kL;dsimp only[yi,aJ,aV,ar,c9,ag,cL,c7];simp only[A0];rw[ae (by rw[aC];rfl)];simp only[Kerb.dI];cases s with
 | nil=>rfl
 | cons x r =>
  rw[af (by first | (simp;done) | (simp;omega)),Bool.and_comm];rfl
theorem w93:Wk 93 2 jk:=by
 refine cC Tryz.func93 rfl fun xs bl r h=> ?_;unfold jk at h;split at h;case h_2=>cases h
 rename_i b n;obtain⟨aC,rfl⟩:=dj h;refine cA (Zj (yj [Zg b,Zy .i64 n,Zy .i64 1,Zv Yz] []) (kO fun l=>Zd (Yh l,[]))) (by kernel_rfl) ?_;delta kO;dsimp only[yj,aJ,aV,ar,c9,ag,cL,c7];simp only[Qa2] at aC;simp only[A0];rw[ae (by simp;omega)];rfl
theorem abZ:Wk 105 2 BV:=by
 refine cC Tryz.func105 rfl fun xs bl r h=> ?_;unfold BV at h;split at h;case h_2=>cases h
 rename_i n;obtain⟨aC,rfl⟩:=dj h;refine cA (aD (Zu (0<=Yw n 3)&&Zu (Yw n 3<(↑(Zx [Zk [(65:UInt8),(84:UInt8),(72:UInt8)],Zk [(66:UInt8),(79:UInt8),(83:UInt8)],Zk [(67:UInt8),(65:UInt8),(77:UInt8)]]):Int))&&Yn) (AV.fB (Zm [Zk [(65:UInt8),(84:UInt8),(72:UInt8)],Zk [(66:UInt8),(79:UInt8),(83:UInt8)],Zk [(67:UInt8),(65:UInt8),(77:UInt8)]] (Zw (Yw n 3)) Xp) fun b=>Zd (Zk b,[]))) (by kernel_rfl) ?_;have hn:0<=n:=by first | exact Qa3 aC | (simp only[Zb,Qa2] at aC;exact aC.1)
 have ht:Yw n 3=n % 3:=Yp hn;have xx:n % 3=0\/n % 3=1\/n % 3=2:=by omega
 rcases xx with e | e | e<;>simp[ht,e,aD,AV.fB,Kerb.aL]
theorem ab2:Wk 108 2 jU:=by
 refine cC Tryz.func108 rfl fun xs bl r h=> ?_;unfold jU at h;split at h;case h_2=>cases h
 rename_i b x y z;obtain⟨aC,rfl⟩:=dj h;refine cA (Zj (qa [Zg b,Zk x] []) (kO fun l=>Zj (qa [Zg l,Zk y] []) (kO fun l=>Zj (qa [Zg l,Zk z] []) (kO fun l=>Zd (Yh l,[]))))) (by kernel_rfl) ?_;delta kO;dsimp only[qa,aJ,aV,ar,c9,ag,cL,c7];simp only[Qa2] at aC;simp only[A0];rw[ae (by simp;omega),ae (by simp[Kerb.bw];omega),ae (by simp[Kerb.bw];omega)];rfl
theorem ab3:Wk 109 2 fq:=by
 refine cC Tryz.func109 rfl fun xs bl r h=> ?_;unfold fq at h;split at h;case h_2=>cases h
 rename_i b n little;obtain⟨aC,rfl⟩:=dj h;refine cA (Zj (yj [Zg b,Zy .i64 n,Zy .i64 4,Zv little] []) (kO fun l=>Zd (Yh l,[]))) (by kernel_rfl) ?_;delta kO;dsimp only[yj,aJ,aV,ar,c9,ag,cL,c7];simp only[Qa2] at aC;simp only[A0];rw[ae (by simp;omega)];rfl
theorem ab4:Wk 110 2 mi:=by
 refine cC Tryz.func110 rfl fun xs bl r h=> ?_;unfold mi at h;split at h;case h_2=>cases h
 rename_i b n little;obtain⟨aC,rfl⟩:=dj h;refine cA (Zj (yj [Zg b,Zy .i64 n,Zy .i64 2,Zv little] []) (kO fun l=>Zd (Yh l,[]))) (by kernel_rfl) ?_;delta kO;dsimp only[yj,aJ,aV,ar,c9,ag,cL,c7];simp only[Qa2] at aC;simp only[A0];rw[ae (by simp;omega)];rfl
theorem ab5:Wk 111 2 uG:=by
 refine cC Tryz.func111 rfl fun xs bl r h=> ?_;unfold uG at h;split at h;case h_2=>cases h
 rename_i s;obtain⟨aC,rfl⟩:=dj h;refine cA (aG (Zu ((↑(Zx s):Int)>0)) (Zj (yi [Zk s,Zk [(46:UInt8),(64:UInt8)]] []) (kL fun b=>Zd (Zv b,[]))) (Zd (Zv Yz,[]))) (by kernel_rfl) ?_;delta kL;dsimp only[yi,aJ,aV,ar,c9,ag,cL,c7];simp only[A0];rw[ae (by rw[aC];rfl)];simp only[Kerb.validName];cases s with
 | nil=>rfl
 | cons x r =>
  rw[af (by first | (simp;done) | (simp;omega)),Bool.and_comm];rfl
theorem ab6:Wk 112 2 uH:=by
 refine cC Tryz.func112 rfl fun xs bl r h=> ?_;unfold uH at h;split at h;case h_2=>cases h
 rename_i s;obtain⟨aC,rfl⟩:=dj h;refine cA (Zj (yi [Zk s,Zk [(64:UInt8)]] []) (kL fun b=>Zd (Zv b,[]))) (by kernel_rfl) ?_;delta kL;dsimp only[yi,aJ,aV,ar,c9,ag,cL,c7];simp only[A0];rw[ae (by rw[aC];rfl),Bool.and_comm];rfl
theorem acj:Wk 126 2 PI:=by
 refine cC Tryz.func126 rfl fun xs bl r h=> ?_;unfold PI at h;split at h;case h_2=>cases h
 rename_i b els;obtain⟨aC,rfl⟩:=dj h;refine cA (aG (!Kerb.Head.err (Xh b)==0) (Zd (Yy [Zv Yz,Zy .i64 (Kerb.Head.err (Xh b))],[])) (Zj (bJ (fun st=>cL 1 st fun b r=>ar r fun bT r=>ag .i64 r fun n r=>ag .i64 r fun bh r=>ar r fun dV r=>ag .i64 r fun bG r=>ak r (aG (Zu (bG<(↑(Zx b):Int))) (aD (Zu (0<=bG)&&Zu (bG<(↑(Zx b):Int))&&Yn) (AV.ax .i64 (Zm b (Zw bG) Xp) fun dd=>aG (dd==bh) (Zd (Yf (Ex.ret,[Yb 1 b,Zv dV,Zy .i64 0,Zy .i64 bh,Zv dV,Zy .i64 bG]))) (Zd (Xy [Yb 1 b,Zv bT,Zy .i64 n,Zy .i64 bh,Zv dV,Zy .i64 (Zz .i64 (bG+1))])))) (Zd (Yf (Yj 0,[Yb 1 b,Zv bT,Zy .i64 n,Zy .i64 bh,Zv dV,Zy .i64 bG]))))) [Yb 1 els,Zv Yz,Zy .i64 0,Zy .i64 (Kerb.Head.kind (Xh b)),Zv (Kerb.Head.little (Xh b)),Zy .i64 0]) fun(r:Ex×List AV)=>cL 1 (Ym r) fun b dq=>ar dq fun b dA=>ag .i64 dA fun n dJ=>ag .i64 dJ fun bh eI=>ar eI fun bT fI=>ag .i64 fI fun bG ga=>ak ga (jW r.1 (Zd (Yy [Zv b,Zy .i64 n],[])) fun(j:Nat)=>aG (Xj j 0) (Zd (Yy [Zv Yz,Zy .i64 40],[])) Wu))) (by kernel_rfl) ?_;dsimp only[ar,ag,cL];simp only[Zb,Qa2] at aC;obtain⟨ha,hl⟩:=aC;have hil:=Kerb.Ba ha;unfold Kerb.aN;by_cases he:(Xh b).err=0;case neg =>
  rw[af (by simpa using he),Qa1 he]
 rw[ai (by simp[he]),Qa0 (by simpa using he)];generalize (Xh b).kind=k;generalize (Xh b).little=lt;refine bW (fun i:Nat=>[Yb 1 els,Zv Yz,Zy Zq 0,Zy Zq k,Zv lt,Zy Zq (i:Int)]) (fun i=>i<=els.length/\(k∈iH els↔k∈(iH els).drop i)) (fun i=>els.length-i)
  (fun r=>∃ (i:Nat) (x:Bool),r.2=[Yb 1 els,Zv x,Zy Zq 0,Zy Zq k,Zv lt,Zy Zq (i:Int)]/\((r.1 = .ret/\x=lt/\k∈iH els)\/(r.1 = .exit 0/\k ∉ iH els))) 0 ⟨Xn _,by simp⟩ rfl ?_ ?_
 ·rintro i ⟨hi,hm⟩;simp only[A0];by_cases fY:i<els.length
  ·obtain⟨n,h1,h2⟩:=Kerb.A' ha fY;rw[af (by simp;omega),ae (by simp;omega),Yq,h1,za];rw[h2,List.mem_cons] at hm;by_cases h3:n=k
   ·rw[af (by simpa using h3)];exact⟨_,rfl,i,lt,rfl,.inl ⟨rfl,rfl,hm.2 (.inl h3.symm)⟩⟩
   ·rw[ai (by simpa using h3),wrap_i64 (by omega) (by omega)];exact⟨_,rfl,i+1,rfl,⟨by omega,hm.trans ⟨fun h=>h.resolve_left fun e=>h3 e.symm,.inr⟩⟩,by dsimp only;omega⟩
  ·rw[ai (by simp;omega)];refine⟨_,rfl,i,Yz,rfl,.inr ⟨rfl,?_⟩⟩;rw[hm,Wx (by omega)];simp
 ·rintro⟨e,l⟩ ⟨i,x,rfl,⟨rfl,rfl,h⟩ | ⟨rfl,h⟩⟩
  ·simp only[A0];rw[Qa1 (by simpa using h)]
  ·simp only[A0];rw[Qa0 (by simpa using h),af (Yk _)]
theorem acp:Wk 131 2 gu:=by
 refine cC Tryz.func131 rfl fun xs bl r h=> ?_;unfold gu at h;split at h;case h_2=>cases h
 rename_i n B at_ li bad;obtain⟨aC,rfl⟩:=dj h;show dT (G.env 131 2) G.rts (G.own 131) Tryz.f131 _ _ [0]=_;refine cA (Zj (B7 [Zg B,Zy .i64 at_,Zy .i64 n] []) (kT fun vs=>aV vs fun b r=>ag .i64 r fun n r=>ag .i64 r fun bh r=>ak r (Zd (Zg b,[[Zg B,Zy .i64 (bif bad || !bh==0 then at_ else n),Zv li,Zv (bad || !bh==0)]])))) (by kernel_rfl) ?_;delta kT;dsimp only[B7,aJ,aV,ar,c9,ag,cL,c7];simp only[A0];rw[ae aC]
theorem acs:Wk 135 2 oJ:=by
 refine cC Tryz.func135 rfl fun xs bl r h=> ?_;unfold oJ at h;split at h;case h_2=>cases h
 rename_i B at_ li bad;obtain⟨aC,rfl⟩:=dj h;show dT (G.env 135 2) G.rts (G.own 135) Tryz.f135 _ _ [0]=_;refine cA (Zj (Iq [Zg B,Zy .i64 at_] []) (kT fun vs=>aJ vs fun b r=>ag .i64 r fun n r=>ag .i64 r fun bh r=>ak r (Zd (Zk b,[[Zg B,Zy .i64 (bif bad || !bh==0 then at_ else n),Zv li,Zv (bad || !bh==0)]])))) (by kernel_rfl) ?_;delta kT;dsimp only[Iq,aJ,aV,ar,c9,ag,cL,c7];simp only[A0];rw[ae aC]
theorem acu:Wk 136 2 mj:=by
 refine cC Tryz.func136 rfl fun xs bl r h=> ?_;unfold mj at h;split at h;case h_2=>cases h
 rename_i k;obtain⟨aC,rfl⟩:=dj h;refine cA (let t0:Int:=Zz .i64 (Zz .u64 (↑(BitVec.toNat (BitVec.ofInt (Zp .u64) k &&& BitVec.ofInt (Zp .u64) 72057594037927935)):Int));aG (!k==0) (Zd (Zv ((bif Kerb.oS (Zz .i64 (Xv k (2 ^ min (Zw 56) (Zp .u64))))&&Kerb.mR t0 then Zz .i64 (Xv k (2 ^ min (Zw 56) (Zp .u64)))*72057594037927936+t0 else 0)==k),[])) (Zd (Zv Yz,[]))) (by kernel_rfl) ?_;try dsimp only[aJ,aV,ar,c9,ag,cL,c7]
 simp only[Zb,Qa2] at aC;obtain⟨h0,h1⟩:=aC;rw[Kerb.OH h0 h1,Kerb.OI h0 h1,Kerb.RR];by_cases hk:k=0
 ·subst hk;rfl
 rw[af (by simpa using hk)];unfold Kerb.bA;cases Kerb.oS (Kerb.mU k)&&Kerb.mR (Kerb.mb k)
 ·have q:((0:Int)==k)=Yz:=by simp;omega
  simp only[Qa7,q]
 ·simp only[Qa6,BEq.rfl]
theorem acG:Wk 148 2 sW:=by
 refine cC Tryz.func148 rfl fun xs bl r h=> ?_;unfold sW at h;split at h;case h_2=>cases h
 rename_i b pos n;obtain⟨aC,rfl⟩:=dj h;refine cA (Zj (yl [Zg b,Zy .i64 pos,Zy .i64 n] []) (kI .i64 fun bh=>aG (!bh==0) (Zd (Yy [Zg [],Zy .i64 0,Zy .i64 bh],[])) (aD (Zu (0<=pos)&&Zu (pos<=Zz .i64 (pos+n))&&Zu (Zz .i64 (pos+n)<=(↑(Zx b):Int))) (Zj (B9 [Zg (Xq (Zw pos) (Xu (Zw (Zz .i64 (pos+n))) b))] []) (kB fun b=>Zd (Yy [Zg b,Zy .i64 (Zz .i64 (pos+n)),Zy .i64 0],[])))))) (by kernel_rfl) ?_;delta kB kI;dsimp only[yl,B9,aJ,aV,ar,c9,ag,cL,c7];have hb:=Qa3 aC;simp only[A0];rw[ae (by simp;omega)];unfold Kerb.bytes;by_cases hr:Xw b pos n=0
 ·obtain⟨q1,q2,q3,q4⟩:=Kerb.ii.1 hr;have e:Xq (Zw pos) (Xu (Zw (pos+n)) b)=Kerb.cut b pos n:=by
   rw[show Zw (pos+n)=pos.toNat+n.toNat by omega,List.drop_take,show pos.toNat+n.toNat-pos.toNat=n.toNat by omega];rfl
  have hc:=Kerb.iS hr;rw[ai (by simp[hr]),Qa1 hr,wrap_i64 (by omega) (by omega),e,ae (by simp;omega),ae (by simp;omega)]
 ·rw[af (by simpa using hr),Qa0 hr]
theorem ac4:Wk 177 2 B4:=by
 refine cC Tryz.func177 rfl fun xs bl r h=> ?_;unfold B4 at h;split at h;case h_2=>cases h
 rename_i k;obtain⟨aC,rfl⟩:=dj h;refine cA (let t0:Int:=Zz .i64 (Zz .u64 (↑(BitVec.toNat (BitVec.ofInt (Zp .u64) k &&& BitVec.ofInt (Zp .u64) 72057594037927935)):Int));let t1:Option (AV×aw):=Zd (Yy [Zy .i64 0,Zy .i64 0,Zv Yz],[]);aG (!Kerb.oS (Zz .i64 (Xv k (2 ^ min (Zw 56) (Zp .u64))))) t1 (aG (!Kerb.mR t0) t1 (Zd (Yy [Zy .i64 (Zz .i64 (Xv k (2 ^ min (Zw 56) (Zp .u64)))),Zy .i64 t0,Zv Yn],[])))) (by kernel_rfl) ?_;try dsimp only[aJ,aV,ar,c9,ag,cL,c7]
 simp only[Zb,Qa2] at aC;obtain⟨h0,h1⟩:=aC;rw[Kerb.OH h0 h1,Kerb.OI h0 h1];unfold Kerb.bA;cases Kerb.oS (Kerb.mU k)
 ·rfl
 cases Kerb.mR (Kerb.mb k)<;>rfl
theorem adx:Wk 208 2 B8:=by
 refine cC Tryz.func208 rfl fun xs bl r h=> ?_;unfold B8 at h;split at h;case h_2=>cases h
 rename_i b pos k little;obtain⟨aC,rfl⟩:=dj h;refine cA (Zj (yl [Zg b,Zy .i64 pos,Zy .i64 k] []) (kI .i64 fun n=>aG (!n==0) (Zd (Yy [Zy .i64 0,Zy .i64 0,Zy .i64 n],[])) (Zj (bJ (fun st=>aV st fun b r=>ag .i64 r fun n r=>ag .i64 r fun bh r=>ar r fun bT r=>ag .i64 r fun bG r=>ag .i64 r fun dd r=>ag .i64 r fun bR r=>ak r (aG (Zu (bR<dd)) (aG bT (aD (Zu (0<=Zz .i64 (n+Zz .i64 (Zz .i64 (bh-1)-bR)))&&Zu (Zz .i64 (n+Zz .i64 (Zz .i64 (bh-1)-bR))<(↑(Zx b):Int))) (Zd (Xy [Zg b,Zy .i64 n,Zy .i64 bh,Zv bT,Zy .i64 (Zz .i64 (↑(BitVec.toNat (BitVec.ofInt (Zp .i64) (Zz .i64 (bG*2 ^ min (Zw 8) (Zp .i64))) ||| BitVec.ofInt (Zp .i64) (Zz .i64 (↑(Zf (Zm b (Zw (Zz .i64 (n+Zz .i64 (Zz .i64 (bh-1)-bR)))) (0:UInt8))):Int)))):Int)),Zy .i64 dd,Zy .i64 (Zz .i64 (bR+1))]))) (aD (Zu (0<=Zz .i64 (n+bR))&&Zu (Zz .i64 (n+bR)<(↑(Zx b):Int))) (Zd (Xy [Zg b,Zy .i64 n,Zy .i64 bh,Zv bT,Zy .i64 (Zz .i64 (↑(BitVec.toNat (BitVec.ofInt (Zp .i64) (Zz .i64 (bG*2 ^ min (Zw 8) (Zp .i64))) ||| BitVec.ofInt (Zp .i64) (Zz .i64 (↑(Zf (Zm b (Zw (Zz .i64 (n+bR))) (0:UInt8))):Int)))):Int)),Zy .i64 dd,Zy .i64 (Zz .i64 (bR+1))])))) (Zd (Yf (Yj 0,[Zg b,Zy .i64 n,Zy .i64 bh,Zv bT,Zy .i64 bG,Zy .i64 dd,Zy .i64 bR]))))) [Zg b,Zy .i64 pos,Zy .i64 k,Zv little,Zy .i64 0,Zy .i64 k,Zy .i64 0]) fun(r:Ex×List AV)=>aV (Ym r) fun b dq=>ag .i64 dq fun n dA=>ag .i64 dA fun bh dJ=>ar dJ fun b eI=>ag .i64 eI fun bG fI=>ag .i64 fI fun dd ga=>ag .i64 ga fun bR g8=>ak g8 (jW r.1 Wu fun(j:Nat)=>aG (Xj j 0) (Zd (Yy [Zy .i64 bG,Zy .i64 (Zz .i64 (n+bh)),Zy .i64 0],[])) Wu)))) (by kernel_rfl) ?_;delta kI;dsimp only[yl,aJ,aV,ar,c9,ag,cL,c7];simp only[Zb,Qa2] at aC;obtain⟨⟨hb,TD⟩,nI⟩:=aC;simp only[A0];rw[ae (by simpa using hb)];unfold Kerb.get;by_cases hr:Xw b pos k=0
 ·rw[ai (by simp[hr]),Qa1 hr];obtain⟨q1,q2,q3,q4⟩:=Kerb.ii.1 hr;have wD:=Kerb.iS hr;obtain⟨L,hL⟩:∃ L,L=cond little (Kerb.cut b pos k).reverse (Kerb.cut b pos k):=⟨_,rfl⟩;have hLl:L.length=k.toNat:=by rw[hL];cases little<;>simp[wD]
  rw[<-hL];refine bW (fun i:Nat=>[Zg b,Zy Zq pos,Zy Zq k,Zv little,Zy Zq (Kerb.jG (L.take i)),Zy Zq k,Zy Zq (i:Int)]) (fun i=>i<=k.toNat) (fun i=>k.toNat-i)
   (fun r=>r=(Yj 0,[Zg b,Zy Zq pos,Zy Zq k,Zv little,Zy Zq (Kerb.jG L),Zy Zq k,Zy Zq k])) 0 (Xn _) rfl ?_ ?_
  ·intro i hi;simp only[A0];by_cases fY:i<k.toNat
   ·rw[af (by simp;omega)];have hv:=Kerb.FQ (l:=L.take i) (by simp;omega);have hs:=Kerb.vh (l:=L) (i:=i) (by omega);have Wt:L.getD i 0=b.getD (cond little (pos.toNat+(k.toNat-1-i)) (pos.toNat+i)) 0:=by
     rw[hL];cases little
     ·exact Kerb.Gq fY
     ·show(Kerb.cut b pos k).reverse.getD i 0=_;rw[Kerb.xq (by omega),wD,Kerb.Gq (by omega)];rfl
    cases little
    ·rw[ai rfl,wrap_i64 (n:=pos+(i:Int)) (by omega) (by omega),ae (by simp;omega),show(pos+(i:Int)).toNat=pos.toNat+i from by omega];rw[Kerb.An _ hv.1 (by omega),wrap_i64 (n:=(i:Int)+1) (by omega) (by omega)];refine⟨_,rfl,i+1,?_,by omega,by dsimp only;omega⟩;dsimp only;rw[hs,Wt];rfl
    ·rw[af rfl,wrap_i64 (n:=k-1) (by omega) (by omega),wrap_i64 (n:=k-1-(i:Int)) (by omega) (by omega),wrap_i64 (n:=pos+(k-1-(i:Int))) (by omega) (by omega),ae (by simp;omega),show(pos+(k-1-(i:Int))).toNat=pos.toNat+(k.toNat-1-i) from by omega];rw[Kerb.An _ hv.1 (by omega),wrap_i64 (n:=(i:Int)+1) (by omega) (by omega)];refine⟨_,rfl,i+1,?_,by omega,by dsimp only;omega⟩;dsimp only;rw[hs,Wt];rfl
   ·rw[ai (by simp;omega)];refine⟨_,rfl,?_⟩;show _=_;rw[Yv (by omega),show(i:Int)=k from by omega]
  ·rintro r rfl;simp only[A0];rw[af (Yk _),wrap_i64 (by omega) (by omega)]
 ·rw[af (by simpa using hr),Qa0 hr]
theorem adA:Wk 212 2 P7:=by
 refine cC Tryz.func212 rfl fun xs bl r h=> ?_;unfold P7 at h;split at h;case h_2=>cases h
 rename_i s c;cases h;refine cA (Zd (Zy .i64 (Yx c s),[])) (by kernel_rfl) ?_;rfl
theorem adF:Wk 217 2 P9:=by
 refine cC Tryz.func217 rfl fun xs bl r h=> ?_;unfold P9 at h;split at h;case h_2=>cases h
 rename_i els;obtain⟨aC,rfl⟩:=dj h;refine cA (Zj (bJ (fun st=>cL 1 st fun b r=>ag .i64 r fun n r=>cL 1 r fun bT r=>ag .i64 r fun bh r=>ag .i64 r fun bG r=>ak r (aG (Zu (bG<bh)) (aD (Zu (0<=bG)&&Zu (bG<(↑(Zx bT):Int))&&Yn) (AV.dm (Zm bT (Zw bG) Xp) fun dV=>aG (Zu (Zz .i64 (n+(↑(Zx dV):Int))<0)) Wu (Zd (Xy [Yb 1 b,Zy .i64 (Zz .i64 (n+(↑(Zx dV):Int))),Yb 1 bT,Zy .i64 bh,Zy .i64 (Zz .i64 (bG+1))])))) (Zd (Yf (Yj 0,[Yb 1 b,Zy .i64 n,Yb 1 bT,Zy .i64 bh,Zy .i64 bG]))))) [Yb 1 els,Zy .i64 0,Yb 1 els,Zy .i64 (↑(Zx els):Int),Zy .i64 0]) fun(r:Ex×List AV)=>cL 1 (Ym r) fun b dq=>ag .i64 dq fun n dA=>cL 1 dA fun bT dJ=>ag .i64 dJ fun bh eI=>ag .i64 eI fun bG fI=>ak fI (jW r.1 Wu fun(j:Nat)=>aG (Xj j 0) (Zj (Iy [AV.dc,Zy .i64 n] []) (kO fun l=>Zj (bJ (fun st=>aA st fun x r=>AV.fA x fun b=>cL 1 r fun dV r=>ag .i64 r fun n r=>ag .i64 r fun dd r=>ak r (aG (Zu (dd<n)) (aD (Zu (0<=dd)&&Zu (dd<(↑(Zx dV):Int))&&Yn) (AV.dm (Zm dV (Zw dd) Xp) fun eA=>aD (room (Zx b+Zx eA) 1) (Zd (Xy [Yh (b++eA),Yb 1 dV,Zy .i64 n,Zy .i64 (Zz .i64 (dd+1))])))) (Zd (Yf (Yj 2,[Yh b,Yb 1 dV,Zy .i64 n,Zy .i64 dd]))))) [Yh l,Yb 1 b,Zy .i64 (↑(Zx b):Int),Zy .i64 0]) fun(r:Ex×List AV)=>aA (Ym r) fun x ga=>AV.fA x fun b=>cL 1 ga fun dV g8=>ag .i64 g8 fun n iA=>ag .i64 iA fun n ig=>ak ig (jW r.1 Wu fun(j:Nat)=>aG (Xj j 2) (Zd (Yh b,[])) Wu))) Wu)) (by kernel_rfl) ?_;delta kO;dsimp only[Iy,aJ,aV,ar,c9,ag,cL,c7];simp only[Zb,Qa2] at aC;obtain⟨⟨ha,hl⟩,xw⟩:=aC;refine bW (fun i:Nat=>[Yb 1 els,Zy Zq ((tA (els.take i)).length:Int),Yb 1 els,Zy Zq (els.length:Int),Zy Zq (i:Int)]) (fun i=>i<=els.length) (fun i=>els.length-i)
  (fun r=>r=(Yj 0,[Yb 1 els,Zy Zq ((tA els).length:Int),Yb 1 els,Zy Zq (els.length:Int),Zy Zq (els.length:Int)])) 0 (Xn _) rfl ?_ ?_
 ·intro i hi;simp only[A0];by_cases fY:i<els.length
  ·obtain⟨l,h1,h2,h3⟩:=Kerb.AB ha fY;rw[af (by simp;omega),ae (by simp;omega),Yq,h1,xX,wrap_i64 (n:=((tA (els.take i)).length:Int)+(l.length:Int)) (by omega) (by omega),ai (by simp;omega),wrap_i64 (by omega) (by omega)];refine⟨_,rfl,i+1,?_,by omega,by dsimp only;omega⟩;dsimp only;rw[h2,List.length_append,Int.natCast_add];rfl
  ·rw[ai (by simp;omega)];refine⟨_,rfl,?_⟩;show _=_;rw[Yv (by omega),show i=els.length from by omega]
 rintro r rfl;simp only[A0];rw[af (Yk _),ae (by simp;omega)];refine bW (fun i:Nat=>[Yh (tA (els.take i)),Yb 1 els,Zy Zq (els.length:Int),Zy Zq (i:Int)]) (fun i=>i<=els.length) (fun i=>els.length-i)
  (fun r=>r=(Yj 2,[Yh (tA els),Yb 1 els,Zy Zq (els.length:Int),Zy Zq (els.length:Int)])) 0 (Xn _) rfl ?_ ?_
 ·intro i hi;simp only[A0];by_cases fY:i<els.length
  ·obtain⟨l,h1,h2,h3⟩:=Kerb.AB ha fY;rw[af (by simp;omega),ae (by simp;omega),Yq,h1,xX,ae (Xz (by omega)),wrap_i64 (by omega) (by omega)];refine⟨_,rfl,i+1,?_,by omega,by dsimp only;omega⟩;dsimp only;rw[h2];rfl
  ·rw[ai (by simp;omega)];refine⟨_,rfl,?_⟩;show _=_;rw[Yv (by omega),show i=els.length from by omega]
 rintro r rfl;simp only[A0];rw[af (Yk _)]
theorem adQ:Wk 228 2 Qb:=by
 refine cC Tryz.func228 rfl fun xs bl r h=> ?_;unfold Qb at h;split at h;case h_2=>cases h
 rename_i a b;cases h;refine cA (aG (Zn a 4294967295) (aG (Zn b 4294967295) (Zd (Zv (Zu (a<=b)),[])) (Zd (Zv Yz,[]))) (Zd (Zv Yz,[]))) (by kernel_rfl) ?_;unfold Kerb.period;cases Zn a 4294967295
 ·rfl
 cases Zn b 4294967295<;>rfl
theorem adX:Wk 240 2 Qi:=by
 refine cC Tryz.func240 rfl fun xs bl r h=> ?_;unfold Qi at h;split at h;case h_2=>cases h
 rename_i b;cases h;refine cA (aG (Zu ((↑(Zx b):Int)<2)) (Zd (Yy [Zy .i64 0,Zv Yz,Zy .i64 101],[])) (aD (Zu (0<(↑(Zx b):Int))) (aG (!Zm b (Zw 0) (0:UInt8)==(4:UInt8)) (Zd (Yy [Zy .i64 0,Zv Yz,Zy .i64 39],[])) (aD (Zu (1<(↑(Zx b):Int))) (aG (!Xx (Zz .i64 (Ww (Zz .i64 (↑(Zf (Zm b (Zw 1) (0:UInt8))):Int)) 2))) (Zd (Yy [Zy .i64 0,Zv Yz,Zy .i64 40],[])) (aD (Zu (1<(↑(Zx b):Int))) (Zd (Yy [Zy .i64 (Zz .i64 (Ww (Zz .i64 (↑(Zf (Zm b (Zw 1) (0:UInt8))):Int)) 2)),Zv (Zh (Zw (Yw (↑(Zf (Zm b (Zw 1) (0:UInt8))):Int) (↑(Zf (2:UInt8)):Int)))==(1:UInt8)),Zy .i64 0],[])))))))) (by kernel_rfl) ?_;unfold Xh;by_cases h1:b.length<2
 ·rw[af (by simp;omega)];simp[h1]
 rw[ai (by simp;omega),ae (by simp;omega),Qa0 h1];by_cases h2:b.getD 0 0=4
 ·have hb:=(b.getD 1 0).toNat_lt;have e:Zz Zq (Ww (Zz Zq ((b.getD (Zw 1) 0).toNat:Int)) 2)=(((b.getD 1 0).toNat / 2:Nat):Int):=by
   rw[show Zw 1=1 from rfl,wrap_i64 (n:=((b.getD 1 0).toNat:Int)) (by omega) (by omega),Xm (by omega),wrap_i64 (by omega) (by omega)];omega
  have e2:(Zh (Zw (Yw ((b.getD (Zw 1) 0).toNat:Int) ((2:UInt8).toNat:Int)))==1)=Zu ((b.getD 1 0).toNat % 2=1):=by
   rw[show Zw 1=1 from rfl,Yp (by omega)];have e3:Zw (((b.getD 1 0).toNat:Int) % ((2:UInt8).toNat:Int))=(b.getD 1 0).toNat % 2:=by
    show Zw (((b.getD 1 0).toNat:Int) % 2)=_;omega
   rw[e3];rcases Nat.mod_two_eq_zero_or_one (b.getD 1 0).toNat with h | h<;>rw[h]<;>rfl
  rw[ai (by simp[h2] at *;exact h2),ae (by simp;omega),Qa0 (by simpa using h2),e,e2];cases hk:Xx (((b.getD 1 0).toNat / 2:Nat):Int)
  ·rfl
  ·rw[Yu,aF,ae (by simp;omega)];rfl
 ·rw[af (by simpa using h2),Qa1 (by simpa using h2)]
theorem adZ:Wk 242 2 Qj:=by
 refine cC Tryz.func242 rfl fun xs bl r h=> ?_;unfold Qj at h;split at h;case h_2=>cases h
 rename_i k little;cases h;refine cA (aG (!Xx k) (Zd (Zg [],[])) (aG little (Zd (Zg [(4:UInt8),Zh (Zw (Zz .u8 (Zz .i64 (Zz .i64 (2*k)+1))))],[])) (Zd (Zg [(4:UInt8),Zh (Zw (Zz .u8 (Zz .i64 (2*k))))],[])))) (by kernel_rfl) ?_;by_cases h:1<=k/\k<=10
 ·have hk:k=1\/k=2\/k=3\/k=4\/k=5\/k=6\/k=7\/k=8\/k=9\/k=10:=by omega
  rcases hk with rfl | rfl | rfl | rfl | rfl | rfl | rfl | rfl | rfl | rfl<;>cases little<;>rfl
 ·have hk:Xx k=Yz:=by simp[Xx];omega
  by_cases h1:k<1
  ·simp[aG,Xd,hk,h1]
  ·have h2:10<k:=by omega
   simp[aG,Xd,hk,h1,h2]
theorem ad_:Wk 253 2 Ce:=by
 refine cC Tryz.func253 rfl fun xs bl r h=> ?_;unfold Ce at h;split at h;case h_2=>cases h
 rename_i b pos k little;obtain⟨aC,rfl⟩:=dj h;refine cA (Zj (B7 [Zg b,Zy .i64 pos,Zy .i64 k] []) (kT fun vs=>aV vs fun b r=>ag .i64 r fun n r=>ag .i64 r fun bh r=>ak r (aG (!bh==0) (Zd (Yy [Zy .i64 0,Zy .i64 0,Zy .i64 bh],[])) (Zj (bJ (fun st=>ag .i64 st fun n r=>ar r fun b r=>aV r fun bT r=>ag .i64 r fun bG r=>ag .i64 r fun dd r=>ag .i64 r fun bR r=>ak r (aG (Zu (bR<n)) (aG b (aD (Zu (0<=Zz .i64 (Zz .i64 (n-1)-bR))&&Zu (Zz .i64 (Zz .i64 (n-1)-bR)<(↑(Zx bT):Int))) (Zd (Xy [Zy .i64 n,Zv b,Zg bT,Zy .i64 bG,Zy .i64 (Zz .i64 (↑(BitVec.toNat (BitVec.ofInt (Zp .i64) (Zz .i64 (dd*2 ^ min (Zw 8) (Zp .i64))) ||| BitVec.ofInt (Zp .i64) (Zz .i64 (↑(Zf (Zm bT (Zw (Zz .i64 (Zz .i64 (n-1)-bR))) (0:UInt8))):Int)))):Int)),Zy .i64 (Zz .i64 (bR+1))]))) (aD (Zu (0<=bR)&&Zu (bR<(↑(Zx bT):Int))) (Zd (Xy [Zy .i64 n,Zv b,Zg bT,Zy .i64 bG,Zy .i64 (Zz .i64 (↑(BitVec.toNat (BitVec.ofInt (Zp .i64) (Zz .i64 (dd*2 ^ min (Zw 8) (Zp .i64))) ||| BitVec.ofInt (Zp .i64) (Zz .i64 (↑(Zf (Zm bT (Zw bR) (0:UInt8))):Int)))):Int)),Zy .i64 (Zz .i64 (bR+1))])))) (Zd (Yf (Yj 0,[Zy .i64 n,Zv b,Zg bT,Zy .i64 bG,Zy .i64 dd,Zy .i64 bR]))))) [Zy .i64 k,Zv little,Zg b,Zy .i64 n,Zy .i64 0,Zy .i64 0]) fun(r:Ex×List AV)=>ag .i64 (Ym r) fun n dq=>ar dq fun b dA=>aV dA fun b dJ=>ag .i64 dJ fun n eI=>ag .i64 eI fun bG fI=>ag .i64 fI fun dd ga=>ak ga (jW r.1 Wu fun(j:Nat)=>aG (Xj j 0) (Zd (Yy [Zy .i64 bG,Zy .i64 n,Zy .i64 0],[])) Wu))))) (by kernel_rfl) ?_;delta kT;dsimp only[B7,aJ,aV,ar,c9,ag,cL,c7];simp only[Zb,Qa2] at aC;obtain⟨⟨hb,TD⟩,nI⟩:=aC;simp only[A0];rw[ae (by simpa using hb)];unfold Kerb.get Kerb.bytes;by_cases hr:Xw b pos k=0;case neg =>
  rw[Qa0 hr,Qa0 hr,af (by simpa using hr)]
 rw[Qa1 hr,Qa1 hr,ai (by simp)];obtain⟨q1,q2,q3,q4⟩:=Kerb.ii.1 hr;have wD:=Kerb.iS hr;obtain⟨C,hC⟩:∃ C,C=Kerb.cut b pos k:=⟨_,rfl⟩;rw[<-hC] at wD ⊢;obtain⟨L,hL⟩:∃ L,L=cond little C.reverse C:=⟨_,rfl⟩;have hLl:L.length=k.toNat:=by rw[hL];cases little<;>simp[wD]
 rw[<-hL];refine bW (fun i:Nat=>[Zy Zq k,Zv little,Zg C,Zy Zq (pos+k),Zy Zq (Kerb.jG (L.take i)),Zy Zq (i:Int)]) (fun i=>i<=k.toNat) (fun i=>k.toNat-i)
  (fun r=>r=(Yj 0,[Zy Zq k,Zv little,Zg C,Zy Zq (pos+k),Zy Zq (Kerb.jG L),Zy Zq k])) 0 (Xn _) rfl ?_ ?_
 ·intro i hi;simp only[A0];by_cases fY:i<k.toNat
  ·rw[af (by simp;omega)];have hv:=Kerb.FQ (l:=L.take i) (by simp;omega);have hs:=Kerb.vh (l:=L) (i:=i) (by omega);have Wt:L.getD i 0=C.getD (cond little (k.toNat-1-i) i) 0:=by
    rw[hL];cases little
    ·rfl
    ·show C.reverse.getD i 0=_;rw[Kerb.xq (by omega),wD];rfl
   cases little
   ·rw[ai rfl,ae (by simp;omega),Yq];rw[Kerb.An _ hv.1 (by omega),wrap_i64 (n:=(i:Int)+1) (by omega) (by omega)];refine⟨_,rfl,i+1,?_,by omega,by dsimp only;omega⟩;dsimp only;rw[hs,Wt];rfl
   ·rw[af rfl,wrap_i64 (n:=k-1) (by omega) (by omega),wrap_i64 (n:=k-1-(i:Int)) (by omega) (by omega),ae (by simp;omega),show(k-1-(i:Int)).toNat=k.toNat-1-i from by omega];rw[Kerb.An _ hv.1 (by omega),wrap_i64 (n:=(i:Int)+1) (by omega) (by omega)];refine⟨_,rfl,i+1,?_,by omega,by dsimp only;omega⟩;dsimp only;rw[hs,Wt];rfl
  ·rw[ai (by simp;omega)];refine⟨_,rfl,?_⟩;show _=_;rw[Yv (by omega),show(i:Int)=k from by omega]
 ·rintro r rfl;simp only[A0];rw[af (Yk _)]
theorem aec:Wk 260 2 Cf:=by
 refine cC Tryz.func260 rfl fun xs bl r h=> ?_;unfold Cf at h;split at h;case h_2=>cases h
 rename_i x;obtain⟨aC,rfl⟩:=dj h;refine cA (Zj (IG [Zy .u64 x] []) (kI .i64 fun n=>Zd (Zy .i64 n,[]))) (by kernel_rfl) ?_;delta kI;dsimp only[IG,aJ,aV,ar,c9,ag,cL,c7];simp only[Kerb.Fk,Bool.true_and,Zb,Qa2] at aC;rw[ae (by simp;omega)];rfl
theorem ael:Wk 269 2 Qq:=by
 refine cC Tryz.func269 rfl fun xs bl r h=> ?_;unfold Qq at h;split at h;case h_2=>cases h
 rename_i x y;cases h;refine cA (Zd (Zv (Zu (x<y)),[])) (by kernel_rfl) ?_;rfl
theorem aew:Wk 281 2 Qt:=by
 refine cC Tryz.func281 rfl fun xs bl r h=> ?_;unfold Qt at h;split at h;case h_2=>cases h
 rename_i s c;cases h;refine cA (Zd (Zy .i64 (Yx c s),[])) (by kernel_rfl) ?_;rfl
theorem w25:Wk 25 3 Kf:=by
 refine cC Tryz.func25 rfl fun xs bl r h=> ?_;unfold Kf at h;split at h;case h_2=>cases h
 rename_i li mu kv rl tk au;obtain⟨aC,rfl⟩:=dj h;refine cA (Zj (FJ [Zk rl] []) (kL fun b=>aG (!b) (Zd (Yy [Zg [],Zy .i64 103],[])) (aG (!Zn kv 255) (Zd (Yy [Zg [],Zy .i64 104],[])) (aG (Zu ((↑(Zx tk):Int)>255)) (Zd (Yy [Zg [],Zy .i64 105],[])) (aG (Zu ((↑(Zx au):Int)>255)) (Zd (Yy [Zg [],Zy .i64 105],[])) (aG mu (Zj (jk [Zg (Xd 4 li),Zy .i64 kv] []) (kO fun l=>Zj (qa [Zg l,Zk rl] []) (kO fun l=>Zj (jk [Zg l,Zy .i64 (↑(Zx tk):Int)] []) (kO fun l=>Zj (jk [Zg l,Zy .i64 (↑(Zx au):Int)] []) (kO fun l=>aD (room (Zx l+Zx tk) 1) (aD (room (Zx (l++tk)+Zx au) 1) (Zd (Yy [Zg (l++tk++au),Zy .i64 0],[])))))))) (Zj (jk [Zg (Xd 3 li),Zy .i64 kv] []) (kO fun l=>Zj (qa [Zg l,Zk rl] []) (kO fun l=>Zj (jk [Zg l,Zy .i64 (↑(Zx tk):Int)] []) (kO fun l=>Zj (jk [Zg l,Zy .i64 (↑(Zx au):Int)] []) (kO fun l=>aD (room (Zx l+Zx tk) 1) (aD (room (Zx (l++tk)+Zx au) 1) (Zd (Yy [Zg (l++tk++au),Zy .i64 0],[])))))))))))))) (by kernel_rfl) ?_;delta kO kL;dsimp only[FJ,jk,qa,aJ,aV,ar,c9,ag,cL,c7];simp only[A0,Xf,Xb,Kerb.eU.av,aC];unfold Kerb.bf;simp only;cases h1:Kerb.dI rl
 ·rfl
 rw[Yu,aF,Qa0 (by simp)];cases h2:Zn kv 255
 ·rfl
 rw[Yu,aF,Qa0 (by simp)];by_cases h3:255<tk.length
 ·rw[af (by simp;omega),Qa1 (.inl h3)]
 rw[ai (by simp;omega)];by_cases h4:255<au.length
 ·rw[af (by simp;omega),Qa1 (.inr h4)]
 rw[ai (by simp;omega),Qa0 (by omega)];have l1:=Kerb.gf h1;have g3:=Kerb.km 3 li;have g4:=Kerb.km 4 li;cases mu
 ·rw[aF,ae (by simp;omega),ae (by simp[Yd];omega),ae (by simp[Yd,Kerb.bX];omega),ae (by simp[Yd,Kerb.bX];omega),ae (Xz (by simp[Yd,Kerb.bX];omega)),ae (Xz (by simp[Yd,Kerb.bX];omega))];rfl
 ·rw[cc,ae (by simp;omega),ae (by simp[Yd];omega),ae (by simp[Yd,Kerb.bX];omega),ae (by simp[Yd,Kerb.bX];omega),ae (Xz (by simp[Yd,Kerb.bX];omega)),ae (Xz (by simp[Yd,Kerb.bX];omega))];rfl
theorem w36:Wk 36 3 Kg:=by
 refine cC Tryz.func36 rfl fun xs bl r h=> ?_;unfold Kg at h;split at h;case h_2=>cases h
 rename_i n;obtain⟨aC,rfl⟩:=dj h;refine cA (aD (Zu (0<=Yw n 3)&&Zu (Yw n 3<(↑(Zx [Zk [(97:UInt8),(110:UInt8),(110:UInt8)],Zk [(98:UInt8),(111:UInt8),(98:UInt8)],Zk [(99:UInt8),(97:UInt8),(116:UInt8)]]):Int))&&Yn) (AV.fB (Zm [Zk [(97:UInt8),(110:UInt8),(110:UInt8)],Zk [(98:UInt8),(111:UInt8),(98:UInt8)],Zk [(99:UInt8),(97:UInt8),(116:UInt8)]] (Zw (Yw n 3)) Xp) fun b=>Zj (BV [Zy .i64 (Zz .i64 (Ww n 3))] []) (kS fun bT=>Zd (AV.agg [Zk b,Zk [],Zk bT],[])))) (by kernel_rfl) ?_;delta kS;dsimp only[BV,aJ,aV,ar,c9,ag,cL,c7];have hn:0<=n:=by first | exact Qa3 aC | (simp only[Zb,Qa2] at aC;exact aC.1)
 have ht:Yw n 3=n % 3:=Yp hn;have xx:n % 3=0\/n % 3=1\/n % 3=2:=by omega
 simp only[Zb,Qa2] at aC;have hd:Ww n 3=n / 3:=Xm hn;rw[hd,wrap_i64 (by omega) (by omega)];have hq:Zu ((0:Int)<=n / 3)=Yn:=by simp;omega
 rcases xx with e | e | e<;>simp[ht,e,aD,AV.fB,Kerb.user,hq,aE]<;>omega
theorem w40:Wk 40 3 UC:=by
 refine cC Tryz.func40 rfl fun xs bl r h=> ?_;unfold UC at h;split at h;case h_2=>cases h
 rename_i s li;cases h;refine cA (aG (Zu ((↑(Zx s):Int)>1012)) (Zd (Yy [Zg [],Zy .i64 105],[])) (Zj (mi [Zg (Xd 8 li),Zy .i64 (↑(Zx s):Int),Zv li] []) (kO fun l=>aD (room (Zx l+Zx s) 1) (Zd (Yy [Zg (l++s),Zy .i64 0],[]))))) (by kernel_rfl) ?_;delta kO;dsimp only[mi,aJ,aV,ar,c9,ag,cL,c7];unfold Kerb.b_;by_cases h:1012<s.length
 ·rw[af (by simp;omega),Qa1 h]
 rw[ai (by simp;omega),Qa0 h];have hl:(Xd 8 li).length=2:=by cases li<;>rfl
 simp only[↓A0];rw[ae (by simp[hl]),ae (by simp[room,Yd,hl];omega)]
theorem w42:Wk 42 3 UE:=by
 refine cC Tryz.func42 rfl fun xs bl r h=> ?_;unfold UE at h;split at h;case h_2=>cases h
 rename_i op cd bx;cases h;refine cA (let t0:Option (AV×aw):=Zj (jk [Zg (Xd 9 Yz++Kerb.aK (Zz .i64 (op+128)) 1 Yz),Zy .i64 cd] []) (kO fun l=>Zj (mi [Zg l,Zy .i64 (↑(Zx bx):Int),Zv Yz] []) (kO fun l=>aD (room (Zx l+Zx bx) 1) (Zd (Yy [Zg (l++bx),Zy .i64 0],[]))));aG (Zu (op<1)) (Zd (Yy [Zg [],Zy .i64 40],[])) (aG (Zu (op>3)) (Zd (Yy [Zg [],Zy .i64 40],[])) (aG (Zu (cd<0)) (Zd (Yy [Zg [],Zy .i64 104],[])) (aG (Zu (cd>99)) (Zd (Yy [Zg [],Zy .i64 104],[])) (aG (Zu ((↑(Zx bx):Int)>1012)) (Zd (Yy [Zg [],Zy .i64 105],[])) (aG (!cd==0) (aG (Zu ((↑(Zx bx):Int)>0)) (Zd (Yy [Zg [],Zy .i64 108],[])) t0) t0)))))) (by kernel_rfl) ?_;delta kO;dsimp only[jk,mi,aJ,aV,ar,c9,ag,cL,c7];simp only[A0];have r_:(Xd 9 Yz).length=2:=rfl;unfold Kerb.bu;simp only;by_cases h0:1<=op/\op<=3;case neg =>
  have e:Kerb.mT op=Yz:=by simp[Kerb.mT];omega
  rw[e];by_cases h1:op<1
  ·rw[af (by simpa using h1)];rfl
  ·rw[ai (by simpa using h1),af (by simp;omega)];rfl
 have e:Kerb.mT op=Yn:=by simp[Kerb.mT];omega
 rw[e,ai (by simp;omega),ai (by simp;omega),Qa0 (by simp)];by_cases h1:0<=cd/\cd<=99;case neg =>
  have e:Zn cd 99=Yz:=by simp[Zn];omega
  rw[e];by_cases h2:cd<0
  ·rw[af (by simpa using h2)];rfl
  ·rw[ai (by simpa using h2),af (by simp;omega)];rfl
 have e:Zn cd 99=Yn:=by simp[Zn];omega
 rw[e,ai (by simp;omega),ai (by simp;omega),Qa0 (by simp)];by_cases h2:1012<bx.length
 ·rw[af (by simp;omega),Qa1 h2]
 rw[ai (by simp;omega),Qa0 h2,wrap_i64 (by omega) (by omega)];by_cases h3:cd=0
 ·rw[ai (by simp[h3]),Qa0 (by simp[h3]),ae (by simp[Yd,r_]),ae (by simp[Yd,r_]),ae (Xz (by simp[Yd,r_];omega))];rfl
 rw[af (by simpa using h3)];by_cases h4:bx=[]
 ·rw[ai (by simp[h4]),Qa0 (by simp[h4]),ae (by simp[Yd,r_]),ae (by simp[Yd,r_]),ae (Xz (by simp[Yd,r_];omega))];rfl
 ·rw[af (by have:=List.length_pos_iff.2 h4;simp;omega),Qa1 ⟨h3,h4⟩]
theorem w58:Wk 58 3 Cj:=by
 refine cC Tryz.func58 rfl fun xs bl r h=> ?_;unfold Cj at h;split at h;case h_2=>cases h
 rename_i b;obtain⟨aC,rfl⟩:=dj h;refine cA (aG (!(↑(Zx b):Int)==8) (Zd (Yy [Zy .u64 0,Zv Yz],[])) (Zj (bJ (fun st=>aV st fun b r=>ag .u64 r fun n r=>ag .i64 r fun bh r=>ak r (aG (Zu (bh<8)) (aD (Zu (0<=bh)&&Zu (bh<(↑(Zx b):Int))) (Zd (Xy [Zg b,Zy .u64 (Zz .u64 (↑(BitVec.toNat (BitVec.ofInt (Zp .u64) (Zz .u64 (n*2 ^ min (Zw 8) (Zp .u64))) ||| BitVec.ofInt (Zp .u64) (Zz .u64 (↑(Zf (Zm b (Zw bh) (0:UInt8))):Int)))):Int)),Zy .i64 (Zz .i64 (bh+1))]))) (Zd (Yf (Yj 0,[Zg b,Zy .u64 n,Zy .i64 bh]))))) [Zg b,Zy .u64 0,Zy .i64 0]) fun(r:Ex×List AV)=>aV (Ym r) fun b dq=>ag .u64 dq fun n dA=>ag .i64 dA fun bh dJ=>ak dJ (jW r.1 Wu fun(j:Nat)=>aG (Xj j 0) (Zj (mj [Zy .u64 n] []) (kL fun b=>aG (!b) (Zd (Yy [Zy .u64 0,Zv Yz],[])) (Zd (Yy [Zy .u64 n,Zv Yn],[])))) Wu))) (by kernel_rfl) ?_;delta kL;dsimp only[mj,aJ,aV,ar,c9,ag,cL,c7];have hb:=Qa3 aC;unfold Kerb.cF;by_cases h8:b.length=8;case neg =>
  rw[af (by simp;omega),Qa0 (by omega)]
 rw[ai (by simp[h8])];refine bW (fun i:Nat=>[Zg b,Zy Yg (Kerb.jG (b.take i)),Zy Zq (i:Int)]) (fun i=>i<=8) (fun i=>8-i)
  (fun r=>r=(Yj 0,[Zg b,Zy Yg (Kerb.jG b),Zy Zq 8])) 0 (by omega) rfl ?_ ?_
 ·intro i hi;simp only[A0];by_cases fY:i<8
  ·have hv:=Kerb.vh (l:=b) (i:=i) (by omega);have Tr:=Kerb.IP (l:=b.take i) (by simp;omega);rw[af (by simp;omega),ae (by simp;omega),Yq,Kerb.HS _ Tr.1 Tr.2,wrap_i64 (by omega) (by omega),<-hv];exact⟨_,rfl,i+1,rfl,by omega,by dsimp only;omega⟩
  ·rw[ai (by simp;omega)];refine⟨_,rfl,?_⟩;show _=_;rw[Yv (by omega),show i=8 from by omega];rfl
 rintro r rfl;have Tr:=Kerb.Cs (l:=b) (by omega);simp only[A0];rw[af (Yk _),ae (by simp;omega)];cases hv:Kerb.bA (Kerb.jG b)
 ·rw[Qa0 (by simp)];rfl
 ·rw[Qa1 ⟨h8,rfl⟩];rfl
theorem w59:Wk 59 3 QH:=by
 refine cC Tryz.func59 rfl fun xs bl r h=> ?_;unfold QH at h;split at h;case h_2=>cases h
 rename_i n;obtain⟨aC,rfl⟩:=dj h;refine cA (let t1:List AV:=[AV.agg [Zk [(109:UInt8),(97:UInt8),(105:UInt8),(108:UInt8)],Zk [],Zk []],AV.agg [Zk [(110:UInt8),(102:UInt8),(115:UInt8)],Zk [(104:UInt8),(111:UInt8),(109:UInt8),(101:UInt8)],Zk []],AV.agg [Zk ([107,114,98,116,103,116]:List UInt8),Zk [(65:UInt8),(84:UInt8),(72:UInt8)],Zk []]];let t0:Int:=(↑(Zx t1):Int);aD (Zu (0<=Yw n 3)&&Zu (Yw n 3<t0)&&Yn) (AV.cV (Zm t1 (Zw (Yw n 3)) Xp) fun cs=>aJ cs fun b r=>aJ r fun bT r=>aJ r fun dV r=>ak r (Zj (BV [Zy .i64 (Zz .i64 (Ww n 3))] []) (kS fun eA=>Zd (AV.agg [Zk b,Zk bT,Zk eA],[]))))) (by kernel_rfl) ?_;delta kS;dsimp only[BV,aJ,aV,ar,c9,ag,cL,c7];have hn:0<=n:=by first | exact Qa3 aC | (simp only[Zb,Qa2] at aC;exact aC.1)
 have ht:Yw n 3=n % 3:=Yp hn;have xx:n % 3=0\/n % 3=1\/n % 3=2:=by omega
 simp only[Zb,Qa2] at aC;have hd:Ww n 3=n / 3:=Xm hn;rw[hd,wrap_i64 (by omega) (by omega)];have hq:Zu ((0:Int)<=n / 3)=Yn:=by simp;omega
 rcases xx with e | e | e<;>simp[ht,e,aD,AV.fB,AV.cV,aA,ak,Kerb.service,hq,aE]<;>omega
theorem w67:Wk 67 3 M7:=by
 refine cC Tryz.func67 rfl fun xs bl r h=> ?_;unfold M7 at h;split at h;case h_2=>cases h
 rename_i lb t st en k;obtain⟨aC,rfl⟩:=dj h;refine cA (let t5:Option (AV×aw):=Zd (Yy [Yh [],Zy .i64 104],[]);let t6:Option (AV×aw):=Zd (Yy [Yh [],Zy .i64 108],[]);let t7:Bool:=lb==[(103:UInt8),(84:UInt8),(75:UInt8),(84:UInt8)];let t4:Option (AV×aw):=Zj (fq [Zg lb,Zy .i64 t,Zv Yz] []) (kO fun l=>aG t7 (Zj (fq [Zg l,Zy .i64 st,Zv Yz] []) (kO fun l=>Zj (fq [Zg l,Zy .i64 en,Zv Yz] []) (kO fun l=>Zj (jq [Zg l] []) (kO fun l=>Zd (Yy [Yh l,Zy .i64 0],[]))))) (Zj (nq [Zy .u64 k] []) (kB fun b=>aD (room (Zx l+Zx b) 1) (Zj (jq [Zg (l++b)] []) (kO fun l=>Zd (Yy [Yh l,Zy .i64 0],[]))))));let t3:Option (AV×aw):=aG (!t7) (aG (!st==0) t6 (aG (!en==0) t6 t4)) t4;let t2:Option (AV×aw):=aG t7 (aG (!k==0) t6 t3) t3;let t1:Option (AV×aw):=aG (!t7) (Zj (mj [Zy .u64 k] []) (kL fun b=>aG (!b) (Zd (Yy [Yh [],Zy .i64 10],[])) t2)) t2;let t0:Option (AV×aw):=aG (!Zn t 4294967295) t5 (aG t7 (aG (!Zn st 4294967295) t5 (aG (!Zn en 4294967295) t5 t1)) t1);aG (lb==[(103:UInt8),(84:UInt8),(71:UInt8),(83:UInt8)]) (aG (!Zn t 4294967295) t5 (aG (!Zn st 4294967295) t5 (aG (!Zn en 4294967295) t5 (aG (!k==0) t6 (Zj (fq [Zg lb,Zy .i64 t,Zv Yz] []) (kO fun l=>Zj (fq [Zg l,Zy .i64 st,Zv Yz] []) (kO fun l=>Zj (fq [Zg l,Zy .i64 en,Zv Yz] []) (kO fun l=>Zj (jq [Zg l] []) (kO fun l=>Zd (Yy [Yh l,Zy .i64 0],[])))))))))) (aG (!t7) (aG (!lb==[(67:UInt8),(80:UInt8),(87:UInt8),(108:UInt8)]) (Zd (Yy [Yh [],Zy .i64 80],[])) t0) t0)) (by kernel_rfl) ?_;delta kB kO kL;dsimp only[fq,mj,nq,jq,aJ,aV,ar,c9,ag,cL,c7];have LD:([103,84,71,83]:List UInt8)=Kerb.vl:=rfl;have Di:([103,84,75,84]:List UInt8)=Kerb.kR:=rfl;have Gw:([67,80,87,108]:List UInt8)=Kerb.fH:=rfl;have zr:([67,80,87,100]:List UInt8)=Kerb.k_:=rfl;have LF:([116,103,115,84]:List UInt8)=Kerb.yU:=rfl;have yJ:([116,107,116,71]:List UInt8)=Kerb.pJ:=rfl;simp only[A0,Gw,LD,Di,aC];unfold Kerb.aR;simp only;cases hg:(lb==Kerb.vl);case true =>
  have ht:Kerb.jr lb=Yn:=by simp[Kerb.jr,hg]
  have hl:lb.length=4:=by rw[Qb0 hg];rfl
  simp only[ht,cc,Yu,Bool.false_and];rw[Qa0 (by simp)];cases h1:Zn t 4294967295
  ·rfl
  rw[Yu,aF,Qa0 (by simp),Qa1 trivial];cases h2:Zn st 4294967295
  ·rfl
  rw[Yu,aF];cases h3:Zn en 4294967295
  ·rfl
  rw[Yu,aF,Qa0 (by simp)];by_cases h4:k=0;case neg=>rw[af (by simpa using h4),Qa1 h4]
  rw[ai (by simp[h4]),Qa0 (by simp[h4]),ae (by simp;omega),ae (by simp[Yd];omega),ae (by simp[Yd];omega),ae (by simp[Yd];omega)]
 cases hk:(lb==Kerb.kR);case true =>
  have ht:Kerb.jr lb=Yn:=by simp[Kerb.jr,hk]
  have hl:lb.length=4:=by rw[Qb0 hk];rfl
  simp only[ht,cc,aF,Yu,Bool.false_and];rw[Qa0 (by simp)];cases h1:Zn t 4294967295
  ·rfl
  rw[Yu,aF,Qa0 (by simp),Qa1 trivial];cases h2:Zn st 4294967295
  ·rfl
  rw[Yu,aF];cases h3:Zn en 4294967295
  ·rfl
  rw[Yu,aF,Qa0 (by simp)];by_cases h4:k=0;case neg=>rw[af (by simpa using h4),Qa1 h4]
  rw[ai (by simp[h4]),Qa0 (by simp[h4]),ae (by simp;omega),ae (by simp[Yd];omega),ae (by simp[Yd];omega),ae (by simp[Yd];omega)]
 have ht:Kerb.jr lb=Yz:=by simp[Kerb.jr,hg,hk]
 simp only[ht,cc,aF,Bool.not_false,Bool.true_and];cases hc:(lb==Kerb.fH)
 ·rfl
 have hl:lb.length=4:=by rw[Qb0 hc];rfl
 rw[Yu,aF,Qa0 (by simp)];cases h1:Zn t 4294967295
 ·rfl
 rw[Yu,aF,Qa0 (by simp),Qa0 (by simp)];cases h2:Kerb.bA k
 ·rfl
 rw[Yu,aF,Qa0 (by simp)];by_cases h3:st=0;case neg=>rw[af (by simpa using h3),Qa1 (.inl h3)]
 rw[ai (by simp[h3])];by_cases h4:en=0;case neg=>rw[af (by simpa using h4),Qa1 (.inr h4)]
 rw[ai (by simp[h4]),Qa0 (by simp[h3,h4]),ae (by simp;omega),ae (Xz (by simp[Yd,Kerb.aj];omega)),ae (by simp[Yd,Kerb.aj];omega)]
theorem w71:Wk 71 3 Km:=by
 refine cC Tryz.func71 rfl fun xs bl r h=> ?_;unfold Km at h;split at h;case h_2=>cases h
 rename_i kd k bd;obtain⟨aC,rfl⟩:=dj h;refine cA (let t0:List UInt8:=[Zh (Zw (Zz .u8 (Xv (↑(Zx bd):Int) (2 ^ min (Zw 8) (Zp .i64))))),Zh (Zw (Zz .u8 (↑(Zx bd):Int)))];let t1:List UInt8:=[(66:UInt8),Zh (Zw (Zz .u8 kd))];aG (Zu (kd<1)) (Zd (Yy [Zg [],Zy .i64 104],[])) (aG (Zu (kd>10)) (Zd (Yy [Zg [],Zy .i64 104],[])) (Zj (mj [Zy .u64 k] []) (kL fun b=>aG (!b) (Zd (Yy [Zg [],Zy .i64 10],[])) (aG (Zu ((↑(Zx bd):Int)>1000)) (Zd (Yy [Zg [],Zy .i64 105],[])) (Zj (nq [Zy .u64 k] []) (kB fun b=>aD (room (Zx t1+Zx b) 1) (aD (room (Zx (t1++b)+Zx t0) 1) (aD (room (Zx (t1++b++t0)+Zx bd) 1) (Zd (Yy [Zg (t1++b++t0++bd),Zy .i64 0],[]))))))))))) (by kernel_rfl) ?_;delta kB kL;dsimp only[mj,nq,aJ,aV,ar,c9,ag,cL,c7];simp only[A0,Xf,Xb,Kerb.eU.av,aC];unfold Kerb.gX;by_cases k1:1<=kd;case neg =>
  rw[af (by simp;omega),Qa1 (by simp[Xx];omega)]
 by_cases k2:kd<=10;case neg =>
  rw[ai (by simp;omega),af (by simp;omega),Qa1 (by simp[Xx];omega)]
 rw[ai (by simp;omega),ai (by simp;omega),Qa0 (by simp[Xx];omega)];cases h2:Kerb.bA k
 ·rfl
 rw[Yu,aF,Qa0 (by simp)];by_cases h3:1000<bd.length
 ·rw[af (by simp;omega),Qa1 h3]
 have lk:=Kerb.aj k;rw[ai (by simp;omega),Qa0 h3,ae (Xz (by simp;omega)),ae (Xz (by simp;omega)),ae (Xz (by simp;omega)),Kerb.Nh,Kerb.wrap_u8,Int.emod_eq_of_lt (by omega) (by omega)]
theorem w80:Wk 80 3 Cl:=by
 refine cC Tryz.func80 rfl fun xs bl r h=> ?_;unfold Cl at h;split at h;case h_2=>cases h
 rename_i k;obtain⟨aC,rfl⟩:=dj h;refine cA (Zj (mj [Zy .u64 k] []) (kL fun b=>aG (!b) (Zd (Yb 1 [],[])) (Zd (Yb 1 [Zy .u64 k],[])))) (by kernel_rfl) ?_;delta kL;dsimp only[mj,aJ,aV,ar,c9,ag,cL,c7];simp only[A0,Xf,Xb,Kerb.eU.av,aC];unfold Kerb.ez;cases h:Kerb.bA k
 ·simp[h,Kerb.dP,aG]
 ·simp[h,Kerb.dP,aG]
theorem w97:Wk 97 3 zl:=by
 refine cC Tryz.func97 rfl fun xs bl r h=> ?_;unfold zl at h;split at h;case h_2=>cases h
 rename_i k;obtain⟨aC,rfl⟩:=dj h;refine cA (Zj (B4 [Zy .u64 k] []) (kT fun vs=>ag .i64 vs fun n r=>ag .i64 r fun n r=>ar r fun b r=>ak r (Zd (Zv b,[])))) (by kernel_rfl) ?_;delta kT;dsimp only[B4,aJ,aV,ar,c9,ag,cL,c7];simp only[A0];rw[ae aC]
theorem ab0:Wk 106 3 kJ:=by
 refine cC Tryz.func106 rfl fun xs bl r h=> ?_;unfold kJ at h;split at h;case h_2=>cases h
 rename_i a b c;obtain⟨aC,rfl⟩:=dj h;refine cA (Zj (uG [Zk a] []) (kL fun bT=>aG bT (Zj (uH [Zk b] []) (kL fun b=>aG b (Zj (FJ [Zk c] []) (kL fun b=>Zd (Zv b,[]))) (Zd (Zv Yz,[])))) (Zd (Zv Yz,[])))) (by kernel_rfl) ?_;delta kL;dsimp only[FJ,uG,uH,aJ,aV,ar,c9,ag,cL,c7];simp only[Zb,Qa2] at aC;simp only[A0];rw[ae (by simp;omega),ae (by simp;omega),ae (by simp;omega)];simp only[Kerb.bn.valid];cases Kerb.validName a<;>cases Kerb.cl b<;>rfl
theorem ab_:Wk 116 3 zT:=by
 refine cC Tryz.func116 rfl fun xs bl r h=> ?_;unfold zT at h;split at h;case h_2=>cases h
 rename_i b s li;obtain⟨aC,rfl⟩:=dj h;refine cA (Zj (mi [Zg b,Zy .i64 (↑(Zx s):Int),Zv li] []) (kO fun l=>aD (room (Zx l+Zx s) 1) (Zd (Zg (l++s),[])))) (by kernel_rfl) ?_;delta kO;dsimp only[mi,aJ,aV,ar,c9,ag,cL,c7];simp only[Zb,Qa2] at aC;simp only[A0,Xf,Xb,Kerb.eU.av];rw[ae (by simp;omega),ae (Xz (by simp[Yd];omega))];rfl
theorem ack:Wk 127 3 nC:=by
 refine cC Tryz.func127 rfl fun xs bl r h=> ?_;unfold nC at h;split at h;case h_2=>cases h
 rename_i B at_ li bad;obtain⟨aC,rfl⟩:=dj h;show dT (G.env 127 3) G.rts (G.own 127) Tryz.f127 _ _ [0]=_;refine cA (Zj (oJ [AV.ptr 0 0] [(0,[Zg B,Zy .i64 at_,Zv li,Zv bad])]) fun(r:AV×aw)=>aB (Ym r) fun(x:List AV) (dq:List (List AV))=>aV x fun b dA=>ag .i64 dA fun n dJ=>ar dJ fun bT eI=>ar eI fun dV fI=>ak fI (aE dq (AV.fB (Prod.fst r) fun eA=>Zj (oJ [AV.ptr 0 0] [(0,[Zg b,Zy .i64 n,Zv bT,Zv dV])]) fun(r:AV×aw)=>aB (Ym r) fun(x:List AV) (ga:List (List AV))=>aV x fun b g8=>ag .i64 g8 fun n iA=>ar iA fun fg ig=>ar ig fun gh dy=>ak dy (aE ga (AV.fB (Prod.fst r) fun gS=>Zj (oJ [AV.ptr 0 0] [(0,[Zg b,Zy .i64 n,Zv fg,Zv gh])]) fun(r:AV×aw)=>aB (Ym r) fun(x:List AV) (eD:List (List AV))=>aV x fun b eE=>ag .i64 eE fun n fv=>ar fv fun gH fD=>ar fD fun ja fF=>ak fF (aE eD (AV.fB (Prod.fst r) fun jb=>Zd (AV.agg [Zk eA,Zk gS,Zk jb],[[Zg b,Zy .i64 n,Zv gH,Zv ja]])))))))) (by kernel_rfl) ?_;dsimp only[oJ,aJ,aV,ar,c9,ag,cL,c7];simp only[A0];rw[ae aC,ae aC,ae aC];rfl
theorem acz:Wk 141 3 PK:=by
 refine cC Tryz.func141 rfl fun xs bl r h=> ?_;unfold PK at h;split at h;case h_2=>cases h
 rename_i b little;obtain⟨aC,rfl⟩:=dj h;refine cA (aG little (Zj (jk [Zg b,Zy .i64 1] []) (kO fun l=>Zd (Yh l,[]))) (Zj (jk [Zg b,Zy .i64 0] []) (kO fun l=>Zd (Yh l,[])))) (by kernel_rfl) ?_;delta kO;dsimp only[jk,aJ,aV,ar,c9,ag,cL,c7];simp only[A0];rw[ae aC,ae aC];cases little<;>rfl
theorem acB:Wk 143 3 BX:=by
 refine cC Tryz.func143 rfl fun xs bl r h=> ?_;unfold BX at h;split at h;case h_2=>cases h
 rename_i k;obtain⟨aC,rfl⟩:=dj h;refine cA (Zj (mj [Zy .u64 k] []) (kL fun b=>aG (!b) (Zd (Zy .i64 0,[])) (Zd (Zy .i64 (Zz .i64 (Xv k (2 ^ min (Zw 56) (Zp .u64)))),[])))) (by kernel_rfl) ?_;delta kL;dsimp only[mj,aJ,aV,ar,c9,ag,cL,c7];simp only[aC,↓A0,A0];unfold Kerb.iD;cases hk:Kerb.bA k
 ·rfl
 simp only[Yu,Bool.not_false,cc,aF];simp only[Zb,Qa2] at aC;have h7:(min (Zw 56) (Zp .u64))=56:=rfl;rw[h7,Int.fdiv_eq_ediv_of_nonneg _ (by decide),wrap_i64 (by omega) (by omega)];rfl
theorem acD:Wk 145 3 uI:=by
 refine cC Tryz.func145 rfl fun xs bl r h=> ?_;unfold uI at h;split at h;case h_2=>cases h
 rename_i b pos;obtain⟨aC,rfl⟩:=dj h;refine cA (Lq [Zg b,Zy .i64 pos,Zy .i64 1,Zv Yz] fun n bh bG=>Zd (Yy [Zy .i64 n,Zy .i64 bh,Zy .i64 bG],[])) (by kernel_rfl) ?_;unfold Lq;delta kT;dsimp only[B8,aJ,aV,ar,c9,ag,cL,c7];simp only[A0];rw[ae (by rw[aC];rfl)]
theorem acF:Wk 147 3 vH:=by
 refine cC Tryz.func147 rfl fun xs bl r h=> ?_;unfold vH at h;split at h;case h_2=>cases h
 rename_i b pos little;obtain⟨aC,rfl⟩:=dj h;refine cA (Lq [Zg b,Zy .i64 pos,Zy .i64 4,Zv little] fun n bh bG=>Zd (Yy [Zy .i64 n,Zy .i64 bh,Zy .i64 bG],[])) (by kernel_rfl) ?_;unfold Lq;delta kT;dsimp only[B8,aJ,aV,ar,c9,ag,cL,c7];simp only[A0];rw[ae (by rw[aC];rfl)]
theorem acI:Wk 150 3 yf:=by
 refine cC Tryz.func150 rfl fun xs bl r h=> ?_;unfold yf at h;split at h;case h_2=>cases h
 rename_i b pos;obtain⟨aC,rfl⟩:=dj h;refine cA (let t5:List UInt8:=Xq (Zw pos) (Xu (Zw (↑(Zx b):Int)) b);let t6:Option (AV×aw):=Zd (Yy [Zk [],Zy .i64 0,Zy .i64 105],[]);let t7:Option (AV×aw):=Zd (Yy [Zk [],Zy .i64 0,Zy .i64 101],[]);let t1:Int:=Yx (0:UInt8) t5;let t2:Int:=(↑(Zx t5):Int);let t4:List UInt8:=Xq (Zw (↑(0:Nat):Int)) (Xu (Zw 40) t5);let t0:Int:=Yx (0:UInt8) t4;let t3:Int:=(↑(Zx t4):Int);Zj (yl [Zg b,Zy .i64 pos,Zy .i64 0] []) (kI .i64 fun n=>aG (!n==0) (Zd (Yy [Zk [],Zy .i64 0,Zy .i64 n],[])) (aD (Zu (0<=pos)&&Zu (pos<=(↑(Zx b):Int))&&Zu ((↑(Zx b):Int)<=(↑(Zx b):Int))) (aG (Zu (t2>40)) (aD (Zu (40<=t2)) (aG (Zu (t0>=0)) (aD (Zu ((↑(0:Nat):Int)<=t0)&&Zu (t0<=t3)) (Zd (Yy [Zk (Xq (Zw (↑(0:Nat):Int)) (Xu (Zw t0) t4)),Zy .i64 (Zz .i64 (Zz .i64 (pos+t0)+1)),Zy .i64 0],[]))) (aG (t3==40) t6 t7))) (aG (Zu (t1>=0)) (aD (Zu ((↑(0:Nat):Int)<=t1)&&Zu (t1<=t2)) (Zd (Yy [Zk (Xq (Zw (↑(0:Nat):Int)) (Xu (Zw t1) t5)),Zy .i64 (Zz .i64 (Zz .i64 (pos+t1)+1)),Zy .i64 0],[]))) (aG (t2==40) t6 t7)))))) (by kernel_rfl) ?_;delta kI;dsimp only[yl,aJ,aV,ar,c9,ag,cL,c7];simp only[Qa2] at aC;simp only[A0];rw[ae (by simpa using aC)];have ht:(Xu (Zw (b.length:Int)) b)=b:=by simp
 rw[ht];unfold Kerb.text;by_cases hr:Xw b pos 0=0;case neg =>
  have aah:Xw b pos 0=104:=by
   unfold Xw at hr ⊢;split at hr
   ·rw[Qa1 (by assumption)]
   ·split at hr<;>omega
  rw[af (by simpa using hr),Qa0 hr,aah]
 obtain⟨q1,q2,_,_⟩:=Kerb.ii.1 hr;rw[ai (by simp[hr]),Qa1 hr,ae (by simp;omega)];obtain⟨R,hR⟩:∃ R,R=b.drop pos.toNat:=⟨_,rfl⟩;have hRl:R.length=b.length-pos.toNat:=by rw[hR];simp
 rw[<-hR];obtain⟨T,hT⟩:∃ T,T=R.take 40:=⟨_,rfl⟩;have WE:=Kerb.A7 0 T;have key:(aG (Zu (Yx (0:UInt8) T>=(0:Int)))
   (aD (Zu (((0:Nat):Int)<=Yx (0:UInt8) T)&&Zu (Yx (0:UInt8) T<=(T.length:Int)))
    (Zd (Yy [Zk (Xq (Zw ((0:Nat):Int)) (Xu (Zw (Yx (0:UInt8) T)) T)),Zy Zq (Zz Zq (Zz Zq (pos+Yx (0:UInt8) T)+(1:Int))),Zy Zq (0:Int)],([]:aw))))
   (aG (((T.length:Int))==(40:Int)) (Zd (Yy [Zk [],Zy Zq (0:Int),Zy Zq (105:Int)],[]))
    (Zd (Yy [Zk [],Zy Zq (0:Int),Zy Zq (101:Int)],[])))) =
   Zd (Yy [Zk (if 0<=Yx 0 T then(⟨T.take (Yx 0 T).toNat,pos+Yx 0 T+1,0⟩:Kerb.my) else if T.length=40 then⟨[],0,105⟩ else⟨[],0,101⟩).val,
    Zy Zq (if 0<=Yx 0 T then(⟨T.take (Yx 0 T).toNat,pos+Yx 0 T+1,0⟩:Kerb.my) else if T.length=40 then⟨[],0,105⟩ else⟨[],0,101⟩).next,
    Zy Zq (if 0<=Yx 0 T then(⟨T.take (Yx 0 T).toNat,pos+Yx 0 T+1,0⟩:Kerb.my) else if T.length=40 then⟨[],0,105⟩ else⟨[],0,101⟩).err],[]):=by
  have hTl:T.length<=b.length-pos.toNat:=by rw[hT];simp;omega
  by_cases hi:0<=Yx 0 T
  ·rw[af (by simpa using hi),ae (by simp;omega),Qa1 hi,wrap_i64 (n:=pos+Yx 0 T) (by omega) (by omega),wrap_i64 (by omega) (by omega)];rfl
  ·rw[ai (by simp;omega),Qa0 hi];by_cases h40:T.length=40
   ·rw[af (by simp[h40]),Qa1 h40]
   ·rw[ai (by simp;omega),Qa0 h40]
 by_cases afj:40<R.length
 ·rw[af (by simp;omega),ae (by simp;omega)];have e1:Xq (Zw ((0:Nat):Int)) (Xu (Zw (40:Int)) R)=T:=by rw[hT];rfl
  rw[e1];rw[<-hT];exact key
 ·rw[ai (by simp;omega)];have e1:R=T:=by rw[hT,Yv (by omega)]
  rw[<-hT,e1];exact key
theorem acM:Wk 154 3 sX:=by
 refine cC Tryz.func154 rfl fun xs bl r h=> ?_;unfold sX at h;split at h;case h_2=>cases h
 rename_i n B at_ bad;obtain⟨aC,rfl⟩:=dj h;show dT (G.env 154 3) G.rts (G.own 154) Tryz.f154 _ _ [0]=_;refine cA (sZ [Zg B,Zy .i64 at_,Zy .i64 n] fun b n bh=>aG (!!(bad || !bh==0)) (Zd (Zg [],[[Zg B,Zy .i64 (bif bad || !bh==0 then at_ else n),Zv (bad || !bh==0)]])) (Zd (Zg b,[[Zg B,Zy .i64 (bif bad || !bh==0 then at_ else n),Zv (bad || !bh==0)]]))) (by kernel_rfl) ?_;unfold sZ;delta kT;dsimp only[sW,aJ,aV,ar,c9,ag,cL,c7];have hb:=Qa3 aC;simp only[A0];rw[ae (by simp;omega)];unfold Kerb.dG;cases bad
 ·simp only[Bool.false_or];generalize hq:(!(_==(0:Int)))=q;cases q<;>rfl
 ·rfl
theorem acZ:Wk 167 3 yh:=by
 refine cC Tryz.func167 rfl fun xs bl r h=> ?_;unfold yh at h;split at h;case h_2=>cases h
 rename_i n B at_ bad;obtain⟨aC,rfl⟩:=dj h;show dT (G.env 167 3) G.rts (G.own 167) Tryz.f167 _ _ [0]=_;refine cA (sZ [Zg B,Zy .i64 at_,Zy .i64 n] fun b n bh=>Zd (Zg b,[[Zg B,Zy .i64 (bif bh==0 then n else at_),Zv (bad || !bh==0)]])) (by kernel_rfl) ?_;unfold sZ;delta kT;dsimp only[sW,aJ,aV,ar,c9,ag,cL,c7];have hb:=Qa3 aC;simp only[A0,Xf,Xb,Kerb.eU.av];rw[ae (by simp;omega)];unfold Kerb.mG;rfl
theorem ac8:Wk 185 3 PX:=by
 refine cC Tryz.func185 rfl fun xs bl r h=> ?_;unfold PX at h;split at h;case h_2=>cases h
 rename_i b els;obtain⟨aC,rfl⟩:=dj h;refine cA (aG (!Kerb.Head.err (Xh b)==0) (Zd (Yy [Zv Yz,Zy .i64 (Kerb.Head.err (Xh b))],[])) (Zj (Iv [Zy .i64 (Kerb.Head.kind (Xh b)),Yb 1 els] []) (kL fun bT=>aG (!bT) (Zd (Yy [Zv Yz,Zy .i64 40],[])) (Zd (Yy [Zv (Kerb.Head.little (Xh b)),Zy .i64 0],[]))))) (by kernel_rfl) ?_;delta kL;dsimp only[Iv,aJ,aV,ar,c9,ag,cL,c7];simp only[A0];unfold Kerb.aN;by_cases h:(Xh b).err=0
 ·rw[ai (by simp[h]),ae aC];cases hc:(iH els).contains (Xh b).kind<;>simp[aG,h,hc]
 ·rw[af (by simpa using h)];simp[h]
theorem ac9:Wk 186 3 yk:=by
 refine cC Tryz.func186 rfl fun xs bl r h=> ?_;unfold yk at h;split at h;case h_2=>cases h
 rename_i b pos little;obtain⟨aC,rfl⟩:=dj h;refine cA (Lq [Zg b,Zy .i64 pos,Zy .i64 2,Zv little] fun n bh bG=>Zd (Yy [Zy .i64 n,Zy .i64 bh,Zy .i64 bG],[])) (by kernel_rfl) ?_;unfold Lq;delta kT;dsimp only[B8,aJ,aV,ar,c9,ag,cL,c7];simp only[A0];rw[ae (by rw[aC];rfl)]
theorem adn:Wk 199 3 Im:=by
 refine cC Tryz.func199 rfl fun xs bl r h=> ?_;unfold Im at h;split at h;case h_2=>cases h
 rename_i b pos little;obtain⟨aC,rfl⟩:=dj h;refine cA (Lr [Zg b,Zy .i64 pos,Zy .i64 4,Zv little] fun n bh bG=>Zd (Yy [Zy .i64 n,Zy .i64 bh,Zy .i64 bG],[])) (by kernel_rfl) ?_;unfold Lr;delta kT;dsimp only[Ce,aJ,aV,ar,c9,ag,cL,c7];simp only[A0];rw[ae (by rw[aC];rfl)]
theorem adp:Wk 201 3 Io:=by
 refine cC Tryz.func201 rfl fun xs bl r h=> ?_;unfold Io at h;split at h;case h_2=>cases h
 rename_i b pos;obtain⟨aC,rfl⟩:=dj h;refine cA (Lr [Zg b,Zy .i64 pos,Zy .i64 1,Zv Yz] fun n bh bG=>Zd (Yy [Zy .i64 n,Zy .i64 bh,Zy .i64 bG],[])) (by kernel_rfl) ?_;unfold Lr;delta kT;dsimp only[Ce,aJ,aV,ar,c9,ag,cL,c7];simp only[A0];rw[ae (by rw[aC];rfl)]
end Go.Proofs.YteafbgcimcpfiaaGreat
