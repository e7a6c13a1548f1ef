/- What the functions of this seat compute. -/
import Derived.Test.YteafbgcimcpfiaaGreatTab
set_option linter.all false
open Go.IntKind renaming wrap→Zz,i64→Zu,bits→Zd,u64→Ym
open Go.Abs.AV renaming int→Zy,bool→Zq,str→Zk,bs→Zg,aQ→Yq,bE→Yg,sl→Yb,undef→Xw,aF→Wx
open List renaming length→Zx,getD→Zm,append→Yp,replicate→Yn,take→Xd,range_succ→Xf,set→Xg,drop→Xb,take_of_length_le→Xm
open Int renaming toNat→Zw,tmod→Yy,toNat_natCast→Yh,tmod_eq_emod_of_nonneg→Xz,fdiv→Xx,eq_ofNat_of_zero_le→Xq,tdiv_eq_ediv_of_nonneg→Wq,tdiv→Wj
open Decidable renaming decide→Zv
open Option renaming bind→Zj,some→Zp,none→Wp
open Bool renaming and_eq_true→Zf,false→Yz,true→Yv,not_true→Yj,and_self→Wy
open UInt8 renaming toNat→Zb,ofNat→Zh
open Kerb renaming within→Zn,indexOf→Yx,s7→Yk,af→Yd,bV→Xv,isKind→Xp,header→Xn,back→Ww,aS→Wu
open Nat renaming beq_refl→Yw,blt→Xy,beq→Xk,zero_le→Wv
open Go.Abs.Ex renaming exit→Yu
open Sum renaming inr→Yf,inl→Xu
open Prod renaming snd→Xj
open Kerb.Client renaming av→Xh
open Kerb.Cache renaming av→Wz
namespace Go.Proofs.YteafbgcimcpfiaaGreat
open Go Go.Abs Go.Proofs
set_option maxRecDepth 100000
theorem w10:Wk 10 1 Nk:=by
 refine cw Tryz.func10 rfl fun xs bl r h=> ?_;unfold Nk at h;split at h;case h_2=>cases h
 rename_i bs cs;obtain⟨aB,rfl⟩:=dz h;refine cu (aD (!(↑(Zx bs):Int)==(↑(Zx cs):Int)) (Zp (Zq Yz,[])) (Zj (bw (fun st=>bW 1 st fun b r=>bW 1 r fun cG r=>aE r fun eQ r=>ak .i64 r fun n r=>aw r (aD (Zv (n<(↑(Zx b):Int))) (az (Zv (0<=n)&&Zv (n<(↑(Zx b):Int))&&Yv) (AV.eA (Zm b (Zw n) Xw) fun eZ=>az (Zv (0<=n)&&Zv (n<(↑(Zx cG):Int))&&Yv) (AV.eA (Zm cG (Zw n) Xw) fun hO=>aD (!eZ==hO) (Zp (Yf (Ex.ret,[Yb 1 b,Yb 1 cG,Zq Yz,Zy .i64 n]))) (Zp (Xu [Yb 1 b,Yb 1 cG,Zq eQ,Zy .i64 (Zz .i64 (n+1))]))))) (Zp (Yf (Yu 0,[Yb 1 b,Yb 1 cG,Zq eQ,Zy .i64 n]))))) [Yb 1 bs,Yb 1 cs,Zq Yz,Zy .i64 0]) fun(r:Ex×List AV)=>bW 1 (Xj r) fun b eH=>bW 1 eH fun b eP=>aE eP fun b eV=>ak .i64 eV fun n fR=>aw fR (jq r.1 (Zp (Zq b,[])) fun(j:Nat)=>aD (Xk j 0) (Zp (Zq Yv,[])) Wp))) (by kernel_rfl) ?_;dsimp only[aE,ak,bW];simp only[Zf,Qa2] at aB;obtain⟨⟨h1,h2⟩,hn⟩:=aB;obtain⟨l,rfl⟩:=Kerb.HE h1;obtain⟨m,rfl⟩:=Kerb.HE h2;rw[Kerb.c4] at hn;rw[Kerb.mn,Kerb.mn,Kerb.c4,Kerb.c4];by_cases hlen:l.length=m.length;case neg =>
  have fY:(l==m)=Yz:=by
   cases he:l==m with
   | true=>exact absurd (Qb3 Zx (Qa9 he)) hlen
   | false=>rfl
  rw[ag (by simp;omega),fY]
 rw[aj (by simp;omega)];have e:=Kerb.Lf [] hlen;refine Qb1 (Kerb.mB (A:=(.bool Yz,[])) (B:=(.bool Yv,[])) (fun i=>[.sl 1 (Kerb.cF l),.sl 1 (Kerb.cF m),.bool Yz,.int .i64 (i:Int)]) l.length (fun i => !(l.getD i []==m.getD i [])) ?_ ?_ ?_ rfl) (by rw[e];cases l==m<;>rfl)
 ·intro i hi hp;have mX:i<m.length:=by omega
  try dsimp only at hp ⊢
  simp only[↓A0,A0,Kerb.Pk,Kerb.Qp hi,Kerb.Qp mX,Kerb.G8 hi,Kerb.G8 mX,Wy,Bool.and_true,Kerb.xK (show i<=1000000000 by omega),hp]
 ·intro i hi hp;have mX:i<m.length:=by omega
  try dsimp only at hp ⊢
  refine⟨(.ret,[.sl 1 (Kerb.cF l),.sl 1 (Kerb.cF m),.bool Yz,.int .i64 (i:Int)]),?_,?_⟩;case refine_2=>rfl
  simp only[↓A0,A0,Kerb.Pk,Kerb.Qp hi,Kerb.Qp mX,Kerb.G8 hi,Kerb.G8 mX,Wy,Bool.and_true,hp]
 ·refine⟨(.exit 0,[.sl 1 (Kerb.cF l),.sl 1 (Kerb.cF m),.bool Yz,.int .i64 (l.length:Int)]),?_,?_⟩;case refine_2=>rfl
  try dsimp only
  simp only[↓A0,A0,Kerb.V8]
theorem w17:Wk 17 1 H3:=by
 refine cw Tryz.func17 rfl fun xs bl r h=> ?_;unfold H3 at h;split at h;case h_2=>cases h
 rename_i ks ls;obtain⟨aB,rfl⟩:=dz h;refine cu (aD (!(↑(Zx ks):Int)==(↑(Zx ls):Int)) (Zp (Zq Yz,[])) (Zj (bw (fun st=>bW 1 st fun b r=>bW 1 r fun cG r=>aE r fun eQ r=>ak .i64 r fun n r=>aw r (aD (Zv (n<(↑(Zx b):Int))) (az (Zv (0<=n)&&Zv (n<(↑(Zx b):Int))&&Yv) (AV.ax .u64 (Zm b (Zw n) Xw) fun bn=>az (Zv (0<=n)&&Zv (n<(↑(Zx cG):Int))&&Yv) (AV.ax .u64 (Zm cG (Zw n) Xw) fun b_=>aD (!bn==b_) (Zp (Yf (Ex.ret,[Yb 1 b,Yb 1 cG,Zq Yz,Zy .i64 n]))) (Zp (Xu [Yb 1 b,Yb 1 cG,Zq eQ,Zy .i64 (Zz .i64 (n+1))]))))) (Zp (Yf (Yu 0,[Yb 1 b,Yb 1 cG,Zq eQ,Zy .i64 n]))))) [Yb 1 ks,Yb 1 ls,Zq Yz,Zy .i64 0]) fun(r:Ex×List AV)=>bW 1 (Xj r) fun b eH=>bW 1 eH fun b eP=>aE eP fun b eV=>ak .i64 eV fun n fR=>aw fR (jq r.1 (Zp (Zq b,[])) fun(j:Nat)=>aD (Xk j 0) (Zp (Zq Yv,[])) Wp))) (by kernel_rfl) ?_;dsimp only[aE,ak,bW];simp only[Zf,Qa2] at aB;obtain⟨⟨h1,h2⟩,hn⟩:=aB;obtain⟨l,rfl⟩:=Kerb.Dj h1;obtain⟨m,rfl⟩:=Kerb.Dj h2;rw[Kerb.ef] at hn;rw[Kerb.mV,Kerb.mV,Kerb.ef,Kerb.ef];by_cases hlen:l.length=m.length;case neg =>
  have fY:(l==m)=Yz:=by
   cases he:l==m with
   | true=>exact absurd (Qb3 Zx (Qa9 he)) hlen
   | false=>rfl
  rw[ag (by simp;omega),fY]
 rw[aj (by simp;omega)];have e:=Kerb.Lf 0 hlen;refine Qb1 (Kerb.mB (A:=(.bool Yz,[])) (B:=(.bool Yv,[])) (fun i=>[.sl 1 (Kerb.cV l),.sl 1 (Kerb.cV m),.bool Yz,.int .i64 (i:Int)]) l.length (fun i => !(l.getD i 0==m.getD i 0)) ?_ ?_ ?_ rfl) (by rw[e];cases l==m<;>rfl)
 ·intro i hi hp;have mX:i<m.length:=by omega
  try dsimp only at hp ⊢
  simp only[↓A0,A0,Kerb.Pk,Kerb.Up hi,Kerb.Up mX,Kerb.LJ hi,Kerb.LJ mX,Wy,Bool.and_true,Kerb.xK (show i<=1000000000 by omega),hp]
 ·intro i hi hp;have mX:i<m.length:=by omega
  try dsimp only at hp ⊢
  refine⟨(.ret,[.sl 1 (Kerb.cV l),.sl 1 (Kerb.cV m),.bool Yz,.int .i64 (i:Int)]),?_,?_⟩;case refine_2=>rfl
  simp only[↓A0,A0,Kerb.Pk,Kerb.Up hi,Kerb.Up mX,Kerb.LJ hi,Kerb.LJ mX,Wy,Bool.and_true,hp]
 ·refine⟨(.exit 0,[.sl 1 (Kerb.cV l),.sl 1 (Kerb.cV m),.bool Yz,.int .i64 (l.length:Int)]),?_,?_⟩;case refine_2=>rfl
  try dsimp only
  simp only[↓A0,A0,Kerb.noK]
theorem w21:Wk 21 1 H4:=by
 refine cw Tryz.func21 rfl fun xs bl r h=> ?_;unfold H4 at h;split at h;case h_2=>cases h
 rename_i n;obtain⟨aB,rfl⟩:=dz h;refine cu (Zp (Zy .u64 (Zz .u64 (↑(BitVec.toNat (BitVec.ofInt (Zd .u64) 144115188075855872 ||| BitVec.ofInt (Zd .u64) (Zz .u64 (Zz .i64 (1+n))))):Int)),[])) (by kernel_rfl) ?_;rfl
theorem w24:Wk 24 1 NX:=by
 refine cw Tryz.func24 rfl fun xs bl r h=> ?_;unfold NX at h;split at h;case h_2=>cases h
 rename_i n;obtain⟨aB,rfl⟩:=dz h;refine cu (Zp (Zy .u64 (Zz .u64 (↑(BitVec.toNat (BitVec.ofInt (Zd .u64) 72057594037927936 ||| BitVec.ofInt (Zd .u64) (Zz .u64 (Zz .i64 (1+n))))):Int)),[])) (by kernel_rfl) ?_;rfl
theorem w46:Wk 46 1 H7:=by
 refine cw Tryz.func46 rfl fun xs bl r h=> ?_;unfold H7 at h;split at h;case h_2=>cases h
 rename_i b how;obtain⟨aB,rfl⟩:=dz h;refine cu (let t0:Int:=Yy (Zz .i64 (Zz .u16 (Wj how 8))) (↑(Zx b):Int);az (room (Zx b) 1) (aD ((↑(Zx b):Int)==0) (Zp (Zg b,[])) (az (!(↑(Zx b):Int)==0) (aD (Yy how 4==0) (az (Zv (0<=t0)&&Zv (t0<(↑(Zx b):Int))) (az (Xy (Zw t0) (Zx b)&&Yv&&Yv&&Yv) (az (Zv (0<=Zz .u64 (Yy how 7))) (az (Zv (0<=t0)&&Zv (t0<(↑(Zx b):Int))) (az (Xy (Zw t0) (Zx b)&&Yv&&Yv&&Yv&&Yv) (Zp (Zg (Xg b (Zw t0) (Zh (Zw (Zz .u8 (↑(BitVec.toNat (BitVec.ofInt (Zd .u8) (↑(Zb (Zm b (Zw t0) (0:UInt8))):Int) ^^^ BitVec.ofInt (Zd .u8) (↑(Zb (Zh (Zw (Zz .u8 ((↑(Zb (1:UInt8)):Int)*2 ^ min (Zw (Zz .u64 (Yy how 7))) 8))))):Int))):Int))))),[]))))))) (aD (Yy how 4==1) (az (Zv (0<=t0)&&Zv (t0<=(↑(Zx b):Int))&&Xy 0 (Zx b)&&Yv) (az (Zv (0<=Zz .i64 (t0+1))&&Zv (Zz .i64 (t0+1)<=(↑(Zx b):Int))&&Xy 0 (Zx b)&&Yv) (az (Xy 0 (Zx b)&&Yv&&Yv&&Yv&&room (Zw t0+(Zx b-Zw (Zz .i64 (t0+1)))) 1) (Zp (Zg (Xd (Zw t0) b++Xb (Zw (Zz .i64 (t0+1))) b),[]))))) (aD (Yy how 4==2) (az (room (Zx b+Zx [Zh (Zw (Zz .u8 how))]) 1) (Zp (Zg (b++[Zh (Zw (Zz .u8 how))]),[]))) (Zp (Zg b,[])))))))) (by kernel_rfl) ?_;try dsimp only[aK,bq,aE,dl,ak,bW,dx]
 simp only[Zf,Qa2] at aB;obtain⟨⟨hb,h0⟩,h1⟩:=aB;rw[ae (Xv (by omega))];unfold Kerb.qG;by_cases hn:b=[]
 ·subst hn;rfl
 have jh:0<b.length:=List.length_pos_iff.2 hn;rw[Qa0 hn,aj (by simp;omega),ae (by simp;omega)];have e:Yy (Zz Zu (Zz IntKind.u16 (Wj how (8:Int)))) (b.length:Int)=Kerb.nu b how:=rfl;rw[e];obtain⟨ha,hc⟩:=Kerb.H9 h0 h1 jh;generalize Kerb.nu b how=a at ha hc ⊢;have hd:(Zv ((0:Int)<=a)&&Zv (a<(b.length:Int)))=Yv:=by simp;omega
 have tM:Xy a.toNat b.length=Yv:=Nat.ble_eq_true_of_le (by omega);have Ra:Xy 0 b.length=Yv:=Nat.ble_eq_true_of_le (by omega);have h7:Zv ((0:Int)<=Zz Ym (Yy how (7:Int)))=Yv:=by rw[Kerb.wrap_u64];simp;omega
 by_cases c0:Yy how 4=0
 ·rw[Qa1 c0,ag (by simpa using c0),ae hd,ae (by rw[tM];rfl),ae h7,ae hd,ae (by rw[tM];rfl)]
 rw[Qa0 c0,aj (by simpa using c0)];by_cases c1:Yy how 4=1
 ·rw[Qa1 c1,ag (by simpa using c1),wrap_i64 (n:=a+1) (by omega) (by omega),ae (by rw[Ra];simp;omega),ae (by rw[Ra];simp;omega),ae (by rw[Ra,Xv (by omega)];rfl)]
 rw[Qa0 c1,aj (by simpa using c1)];by_cases c2:Yy how 4=2
 ·rw[Qa1 c2,ag (by simpa using c2),ae (Xv (by simp;omega))]
 ·rw[Qa0 c2,aj (by simpa using c2)]
theorem w89:Wk 89 1 w_:=by
 refine cw Tryz.func89 rfl fun xs bl r h=> ?_;unfold w_ at h;split at h;case h_2=>cases h
 rename_i n l pos;obtain⟨aB,rfl⟩:=dz h;show eb (G.env 89 1) G.rts (G.own 89) Tryz.f89 _ _ [0]=_;refine cu (aD (Zv (pos>=(↑(Zx l):Int))) (Zp (Zy .i64 0,[[Zg l,Zy .i64 pos]])) (aD (Zv (n<=0)) (Zp (Zy .i64 0,[[Zg l,Zy .i64 pos]])) (az (Zv (0<=pos)&&Zv (pos<(↑(Zx l):Int))) (az (!n==0) (Zp (Zy .i64 (Yy (Zz .i64 (↑(Zb (Zm l (Zw pos) (0:UInt8))):Int)) n),[[Zg l,Zy .i64 (Zz .i64 (pos+1))]])))))) (by kernel_rfl) ?_;simp only[Zf,Qa2] at aB;unfold Kerb.next Kerb.c8;by_cases h1:(l.length:Int)<=pos
 ·simp[aD,h1];omega
 by_cases h2:n<=0
 ·simp[aD,h1,h2];omega
 have h3:¬ n=0:=by omega
 have hb:=(l.getD pos.toNat 0).toNat_lt;rw[aj (by simp;omega),aj (by simp;omega),ae (by simp;omega),ae (by simpa using h3),Qa0 (by omega),Qa0 (by omega),wrap_i64 (by omega) (by omega),wrap_i64 (by omega) (by omega),Xz (by omega),Int.toNat_of_nonneg (by omega)]
theorem w90:Wk 90 1 Sk:=by
 refine cw Tryz.func90 rfl fun xs bl r h=> ?_;unfold Sk at h;split at h;case h_2=>cases h
 rename_i n;obtain⟨aB,rfl⟩:=dz h;refine cu (Zj (bw (fun st=>ak .i64 st fun n r=>aK r fun b r=>aK r fun cG r=>aK r fun eQ r=>aK r fun eZ r=>ak .i64 r fun bn r=>aw r (aD (Zv (bn<39)) (az (Zv (Zx eZ+Zx [(110:UInt8)]<=4611686018427387904)) (Zp (Xu [Zy .i64 n,Zk b,Zk cG,Zk eQ,Zk (eZ++[(110:UInt8)]),Zy .i64 (Zz .i64 (bn+1))]))) (Zp (Yf (Yu 0,[Zy .i64 n,Zk b,Zk cG,Zk eQ,Zk eZ,Zy .i64 bn]))))) [Zy .i64 n,Zk [],Zk [],Zk [],Zk [],Zy .i64 0]) fun(r:Ex×List AV)=>ak .i64 (Xj r) fun n eH=>aK eH fun b eP=>aK eP fun cG eV=>aK eV fun eQ fR=>aK fR fun eZ hZ=>ak .i64 hZ fun bn jj=>aw jj (jq r.1 (Zp (AV.agg [Zk b,Zk cG,Zk eQ],[])) fun(j:Nat)=>aD (Xk j 0) (Zj (bw (fun st=>ak .i64 st fun n r=>aK r fun b r=>aK r fun hO r=>aK r fun gV r=>aK r fun iw r=>ak .i64 r fun b_ r=>aw r (aD (Zv (b_<n)) (az (Zv (38<=(↑(Zx iw):Int))) (Zp (Xu [Zy .i64 n,Zk b,Zk hO,Zk gV,Zk (Xb (Zw (↑(0:Nat):Int)) (Xd (Zw 38) iw)),Zy .i64 (Zz .i64 (b_+1))]))) (Zp (Yf (Yu 2,[Zy .i64 n,Zk b,Zk hO,Zk gV,Zk iw,Zy .i64 b_]))))) [Zy .i64 n,Zk b,Zk cG,Zk eQ,Zk eZ,Zy .i64 0]) fun(r:Ex×List AV)=>ak .i64 (Xj r) fun n kG=>aK kG fun b mT=>aK mT fun hO mf=>aK mf fun gV gu=>aK gu fun iw g8=>ak .i64 g8 fun n g9=>aw g9 (jq r.1 (Zp (AV.agg [Zk b,Zk hO,Zk gV],[])) fun(j:Nat)=>aD (Xk j 2) (Zp (AV.agg [Zk iw,Zk iw,Zk iw],[])) Wp)) Wp)) (by kernel_rfl) ?_;dsimp only[aK,ak];simp only[Zf,Qa2] at aB;have hn:n=0\/n=1:=by omega
 rcases hn with rfl | rfl
 ·refine fa 40 (Yu 0,[Zy Zu 0,Zk [],Zk [],Zk [],Zk (Yn 39 110),Zy Zu 39]) (by kernel_rfl) ?_;simp only[A0];rw[ag (Yw _)];refine fa 1 (Yu 2,[Zy Zu 0,Zk [],Zk [],Zk [],Zk (Yn 39 110),Zy Zu 0]) (by kernel_rfl) ?_;rfl
 ·refine fa 40 (Yu 0,[Zy Zu 1,Zk [],Zk [],Zk [],Zk (Yn 39 110),Zy Zu 39]) (by kernel_rfl) ?_;simp only[A0];rw[ag (Yw _)];refine fa 2 (Yu 2,[Zy Zu 1,Zk [],Zk [],Zk [],Zk (Yn 38 110),Zy Zu 1]) (by kernel_rfl) ?_;rfl
theorem w92:Wk 92 1 Sl:=by
 refine cw Tryz.func92 rfl fun xs bl r h=> ?_;unfold Sl at h;split at h;case h_2=>cases h
 rename_i n m;cases h;refine cu (aD (Zv (n>=0)) (Zp (Zq (Zv (n<=m)),[])) (Zp (Zq Yz,[]))) (by kernel_rfl) ?_;by_cases h:0<=n<;>simp[aD,Zn,h]
theorem w94:Wk 94 1 Sm:=by
 refine cw Tryz.func94 rfl fun xs bl r h=> ?_;unfold Sm at h;split at h;case h_2=>cases h
 rename_i k aq;cases h;refine cu (aD (Zv (k<1)) (Zp (Zg [],[])) (aD (Zv (k>10)) (Zp (Zg [],[])) (aD aq (Zp (Zg [(4:UInt8),Zh (Zw (Zz .u8 (Zz .i64 (Zz .i64 (2*k)+1))))],[])) (Zp (Zg [(4:UInt8),Zh (Zw (Zz .u8 (Zz .i64 (2*k))))],[]))))) (by kernel_rfl) ?_;by_cases h:1<=k/\k<=10
 ·have hk:k=1\/k=2\/k=3\/k=4\/k=5\/k=6\/k=7\/k=8\/k=9\/k=10:=by omega
  rcases hk with rfl | rfl | rfl | rfl | rfl | rfl | rfl | rfl | rfl | rfl<;>cases aq<;>rfl
 ·have hk:Xp k=Yz:=by simp[Xp];omega
  by_cases h1:k<1
  ·simp[aD,Xn,hk,h1]
  ·have h2:10<k:=by omega
   simp[aD,Xn,hk,h1,h2]
theorem w95:Wk 95 1 oa:=by
 refine cw Tryz.func95 rfl fun xs bl r h=> ?_;unfold oa at h;split at h;case h_2=>cases h
 rename_i b s;obtain⟨aB,rfl⟩:=dz h;refine cu (az (room (Zx b) 1) (az (room (Zx b+Zx s) 1) (az (room (Zx (b++s)+Zx [(0:UInt8)]) 1) (Zp (Yg (b++s++[(0:UInt8)]),[]))))) (by kernel_rfl) ?_;simp only[Qa2] at aB;rw[ae (Xv (by omega)),ae (Xv (by omega)),ae (Xv (by simp;omega))];simp[Kerb.bg]
theorem Zc:Wk 107 1 Nl:=by
 refine cw Tryz.func107 rfl fun xs bl r h=> ?_;unfold Nl at h;split at h;case h_2=>cases h
 rename_i n m;cases h;refine cu (aD (Zv (n>=0)) (Zp (Zq (Zv (n<=m)),[])) (Zp (Zq Yz,[]))) (by kernel_rfl) ?_;by_cases h:0<=n<;>simp[aD,Zn,h]
theorem Zs:Wk 113 1 Nm:=by
 refine cw Tryz.func113 rfl fun xs bl r h=> ?_;unfold Nm at h;split at h;case h_2=>cases h
 rename_i n;cases h;refine cu (aD (n==1) (Zp (Zq Yv,[])) (Zp (Zq (n==3),[]))) (by kernel_rfl) ?_;cases (n==1)<;>rfl
theorem Zt:Wk 114 1 Nn:=by
 refine cw Tryz.func114 rfl fun xs bl r h=> ?_;unfold Nn at h;split at h;case h_2=>cases h
 rename_i n m;cases h;refine cu (aD (Zv (n>=0)) (Zp (Zq (Zv (n<=m)),[])) (Zp (Zq Yz,[]))) (by kernel_rfl) ?_;by_cases h:0<=n<;>simp[aD,Zn,h]
theorem ZN:Wk 138 1 lG:=by
 refine cw Tryz.func138 rfl fun xs bl r h=> ?_;unfold lG at h;split at h;case h_2=>cases h
 rename_i k;obtain⟨aB,rfl⟩:=dz h;refine cu (Zj (bw (fun st=>ak .u64 st fun n r=>ay r fun x r=>AV.eG x fun b=>ak .i64 r fun bn r=>let t0:List UInt8:=[Zh (Zw (Zz .u8 (Xx n (2 ^ min (Zw (Zz .u64 (Zz .i64 (8*bn)))) (Zd .u64)))))];aw r (aD (Zv (bn>=0)) (az (Zv (0<=Zz .u64 (Zz .i64 (8*bn)))) (az (room (Zx b+Zx t0) 1) (Zp (Xu [Zy .u64 n,Yg (b++t0),Zy .i64 (Zz .i64 (bn-1))])))) (Zp (Yf (Yu 0,[Zy .u64 n,Yg b,Zy .i64 bn]))))) [Zy .u64 k,Yg [],Zy .i64 7]) fun(r:Ex×List AV)=>ak .u64 (Xj r) fun n eH=>ay eH fun x eP=>AV.eG x fun b=>ak .i64 eP fun n eV=>aw eV (jq r.1 Wp fun(j:Nat)=>aD (Xk j 0) (Zp (Zg b,[])) Wp)) (by kernel_rfl) ?_;try dsimp only[aK,bq,aE,dl,ak,bW,dx]
 refine fa 9 (Yu 0,[Zy Ym k,Yg [Yk k 56,Yk k 48,Yk k 40,Yk k 32,Yk k 24,Yk k 16,Yk k 8,Yk k 0],Zy Zu (-1)]) (by kernel_rfl) ?_;simp only[A0];rw[ag (Yw _)];simp[Kerb.qW,Kerb.keyBytes,Kerb.fG,Xf]
theorem ZO:Wk 139 1 ie:=by
 refine cw Tryz.func139 rfl fun xs bl r h=> ?_;unfold ie at h;split at h;case h_2=>cases h
 rename_i b;obtain⟨aB,rfl⟩:=dz h;refine cu (az (room (Zx b) 1) (Zj (bw (fun st=>ay st fun x r=>AV.eG x fun b=>aw r (aD (!Yy (↑(Zx b):Int) 8==0) (az (room (Zx b+Zx [(0:UInt8)]) 1) (Zp (Xu [Yg (b++[(0:UInt8)])]))) (Zp (Yf (Yu 0,[Yg b]))))) [Yg b]) fun(r:Ex×List AV)=>ay (Xj r) fun x eH=>AV.eG x fun b=>aw eH (jq r.1 Wp fun(j:Nat)=>aD (Xk j 0) (Zp (Yg b,[])) Wp))) (by kernel_rfl) ?_;have hb:=Qa3 aB;rw[ae (Xv (by omega))];refine bZ (fun i:Nat=>[Yg (b++Yn i 0)]) (fun i=>i<=(8-b.length % 8) % 8) (fun i=>(8-b.length % 8) % 8-i)
  (fun r=>r=(Yu 0,[Yg (Kerb.pad b)])) 0 (by omega) (by simp) ?_ ?_
 ·intro i hi;simp only[A0];have e:Yy ((b++Yn i 0).length:Int) 8=(((b.length+i) % 8:Nat):Int):=by
   rw[Xz (by omega)];simp
  rw[e];by_cases eY:i<(8-b.length % 8) % 8
  ·rw[ag (by simp;omega),ae (Xv (by simp;omega))];refine⟨_,rfl,i+1,?_,by omega,by dsimp only;omega⟩;dsimp only;rw[List.replicate_succ',List.append_assoc]
  ·rw[aj (by simp;omega)];refine⟨_,rfl,?_⟩;show _=_;rw[Kerb.pad,show i=(8-b.length % 8) % 8 from by omega]
 rintro r rfl;simp only[A0];rw[ag (Yw _)]
theorem ZR:Wk 142 1 Nr:=by
 refine cw Tryz.func142 rfl fun xs bl r h=> ?_;unfold Nr at h;split at h;case h_2=>cases h
 rename_i n m;cases h;refine cu (aD (Zv (n>=0)) (Zp (Zq (Zv (n<=m)),[])) (Zp (Zq Yz,[]))) (by kernel_rfl) ?_;by_cases h:0<=n<;>simp[aD,Zn,h]
theorem ZT:Wk 144 1 Ns:=by
 refine cw Tryz.func144 rfl fun xs bl r h=> ?_;unfold Ns at h;split at h;case h_2=>cases h
 rename_i n m;cases h;refine cu (aD (Zv (n>=0)) (Zp (Zq (Zv (n<=m)),[])) (Zp (Zq Yz,[]))) (by kernel_rfl) ?_;by_cases h:0<=n<;>simp[aD,Zn,h]
theorem Z1:Wk 152 1 Nt:=by
 refine cw Tryz.func152 rfl fun xs bl r h=> ?_;unfold Nt at h;split at h;case h_2=>cases h
 rename_i a b;cases h;refine cu (Zp (Zq (a==b),[])) (by kernel_rfl) ?_;rfl
theorem Z5:Wk 156 1 Nu:=by
 refine cw Tryz.func156 rfl fun xs bl r h=> ?_;unfold Nu at h;split at h;case h_2=>cases h
 rename_i l;cases h;refine cu (aD (l==[(103:UInt8),(84:UInt8),(71:UInt8),(83:UInt8)]) (Zp (Zq Yv,[])) (Zp (Zq (l==[(103:UInt8),(84:UInt8),(75:UInt8),(84:UInt8)]),[]))) (by kernel_rfl) ?_;unfold Kerb.iR;show aD (l==Kerb.vt) _ (Zp (Zq (l==Kerb.ll),[]))=_;cases (l==Kerb.vt)<;>rfl
theorem Z8:Wk 159 1 Nv:=by
 refine cw Tryz.func159 rfl fun xs bl r h=> ?_;unfold Nv at h;split at h;case h_2=>cases h
 rename_i l;cases h;refine cu (aD (l==[(116:UInt8),(103:UInt8),(115:UInt8),(84:UInt8)]) (Zp (Zq Yv,[])) (Zp (Zq (l==[(116:UInt8),(107:UInt8),(116:UInt8),(71:UInt8)]),[]))) (by kernel_rfl) ?_;unfold Kerb.dL;show aD (l==Kerb.zk) _ (Zp (Zq (l==Kerb.qa),[]))=_;cases (l==Kerb.zk)<;>rfl
theorem aaj:Wk 174 1 vT:=by
 refine cw Tryz.func174 rfl fun xs bl r h=> ?_;unfold vT at h;split at h;case h_2=>cases h
 rename_i s bad;obtain⟨aB,rfl⟩:=dz h;refine cu (Zj (bw (fun st=>aK st fun b r=>aK r fun cG r=>aE r fun eQ r=>ak .i64 r fun n r=>aw r (aD (Zv (n<(↑(Zx b):Int))) (az (Zv (0<=n)&&Zv (n<(↑(Zx b):Int))) (aD (Zv ((↑(Zb (Zm b (Zw n) (0:UInt8))):Int)<(↑(Zb (33:UInt8)):Int))) (Zp (Yf (Ex.ret,[Zk b,Zk cG,Zq Yz,Zy .i64 n]))) (az (Zv (0<=n)&&Zv (n<(↑(Zx b):Int))) (aD (Zv ((↑(Zb (Zm b (Zw n) (0:UInt8))):Int)>(↑(Zb (126:UInt8)):Int))) (Zp (Yf (Ex.ret,[Zk b,Zk cG,Zq Yz,Zy .i64 n]))) (Zj (bw (fun st=>aK st fun b r=>aK r fun eZ r=>aE r fun hO r=>ak .i64 r fun n r=>ak .i64 r fun bn r=>aw r (aD (Zv (bn<(↑(Zx eZ):Int))) (az (Zv (0<=n)&&Zv (n<(↑(Zx b):Int))) (az (Zv (0<=bn)&&Zv (bn<(↑(Zx eZ):Int))) (aD (Zm b (Zw n) (0:UInt8)==Zm eZ (Zw bn) (0:UInt8)) (Zp (Yf (Ex.ret,[Zk b,Zk eZ,Zq Yz,Zy .i64 n,Zy .i64 bn]))) (Zp (Xu [Zk b,Zk eZ,Zq hO,Zy .i64 n,Zy .i64 (Zz .i64 (bn+1))]))))) (Zp (Yf (Yu 2,[Zk b,Zk eZ,Zq hO,Zy .i64 n,Zy .i64 bn]))))) [Zk b,Zk cG,Zq eQ,Zy .i64 n,Zy .i64 0]) fun(r:Ex×List AV)=>aK (Xj r) fun b eH=>aK eH fun eZ eP=>aE eP fun hO eV=>ak .i64 eV fun n fR=>ak .i64 fR fun bn hZ=>aw hZ (jq r.1 (Zp (Yf (Ex.ret,[Zk b,Zk eZ,Zq hO,Zy .i64 n]))) fun(j:Nat)=>aD (Xk j 2) (Zp (Xu [Zk b,Zk eZ,Zq hO,Zy .i64 (Zz .i64 (n+1))])) Wp)))))) (Zp (Yf (Yu 0,[Zk b,Zk cG,Zq eQ,Zy .i64 n]))))) [Zk s,Zk bad,Zq Yz,Zy .i64 0]) fun(r:Ex×List AV)=>aK (Xj r) fun b eH=>aK eH fun cG eP=>aE eP fun eQ eV=>ak .i64 eV fun n fR=>aw fR (jq r.1 (Zp (Zq eQ,[])) fun(j:Nat)=>aD (Xk j 0) (Zp (Zq (Zv ((↑(Zx b):Int)<=39)),[])) Wp)) (by kernel_rfl) ?_;dsimp only[aK,aE,ak];simp only[Zf,Qa2] at aB;refine bZ (fun i:Nat=>[Zk s,Zk bad,Zq Yz,Zy Zu (i:Int)]) (fun i=>i<=s.length/\Kerb.dO s bad=Kerb.dO (s.drop i) bad) (fun i=>s.length-i)
  (fun r=>∃ i:Nat,r.2=[Zk s,Zk bad,Zq Yz,Zy Zu (i:Int)]/\((r.1 = .ret/\Kerb.dO s bad=Yz)\/(r.1 = .exit 0/\Kerb.dO s bad=Yv))) 0 ⟨Wv _,rfl⟩ rfl ?_ ?_
 ·rintro i ⟨hi,hp⟩;simp only[A0];by_cases eY:i<s.length
  ·have hc:(Zv ((0:Int)<=(i:Int))&&Zv ((i:Int)<(s.length:Int)))=Yv:=by simp;omega
   have hd:=Kerb.oI eY;rw[ag (by simp;omega),ae hc,Yh];have Pu:Kerb.dO (s.drop i) bad=(Kerb.okB bad (s.getD i 0)&&Kerb.dO (s.drop (i+1)) bad):=by rw[hd];rfl
   generalize AU:s.getD i 0=c at *;by_cases h1:c.toNat<33
   ·rw[ag (by simp;omega)];exact⟨_,rfl,i,rfl,.inl ⟨rfl,by rw[hp,Pu];simp[Kerb.okB,h1]⟩⟩
   rw[aj (by simp;omega),ae hc];by_cases h2:126<c.toNat
   ·rw[ag (by simp;omega)];exact⟨_,rfl,i,rfl,.inl ⟨rfl,by rw[hp,Pu];simp[Kerb.okB,h2]⟩⟩
   rw[aj (by simp;omega)];refine C_ (fun j:Nat=>[Zk s,Zk bad,Zq Yz,Zy Zu (i:Int),Zy Zu (j:Int)]) (fun j=>j<=bad.length/\(c∈bad↔c∈bad.drop j)) (fun j=>bad.length-j)
    (fun r=>∃ j:Nat,r.2=[Zk s,Zk bad,Zq Yz,Zy Zu (i:Int),Zy Zu (j:Int)]/\((r.1 = .ret/\c∈bad)\/(r.1 = .exit 2/\c ∉ bad))) 0 ⟨Wv _,by simp⟩ rfl ?_ ?_
   ·rintro j ⟨hj,hm⟩;simp only[A0];by_cases JL:j<bad.length
    ·have hdj:=Kerb.oI JL;rw[ag (by simp;omega),ae hc,ae (by simp;omega),Yh,Yh,AU];rw[hdj,List.mem_cons] at hm;by_cases h3:c=bad.getD j 0
     ·rw[ag (by simpa using h3)];exact⟨_,rfl,j,rfl,.inl ⟨rfl,hm.2 (.inl h3)⟩⟩
     ·rw[aj (by simpa using h3),wrap_i64 (by omega) (by omega)];exact⟨_,rfl,j+1,rfl,⟨by omega,hm.trans ⟨fun h=>h.resolve_left h3,.inr⟩⟩,by dsimp only;omega⟩
    ·rw[aj (by simp;omega)];refine⟨_,rfl,j,rfl,.inr ⟨rfl,?_⟩⟩;rw[hm,List.drop_eq_nil_of_le (by omega)];simp
   ·rintro⟨e,l⟩ ⟨j,rfl,⟨rfl,h3⟩ | ⟨rfl,h3⟩⟩
    ·simp only[A0];exact⟨_,rfl,i,rfl,.inl ⟨rfl,by rw[hp,Pu];simp[Kerb.okB,h3]⟩⟩
    ·simp only[A0];rw[ag (Yw _),wrap_i64 (by omega) (by omega)];exact⟨_,rfl,i+1,rfl,⟨by omega,by rw[hp,Pu];simp[Kerb.okB,h1,h2,h3]⟩,by dsimp only;omega⟩
  ·rw[aj (by simp;omega)];exact⟨_,rfl,i,rfl,.inr ⟨rfl,by rw[hp,List.drop_eq_nil_of_le (by omega)];rfl⟩⟩
 ·rintro⟨e,l⟩ ⟨i,rfl,⟨rfl,hp⟩ | ⟨rfl,hp⟩⟩
  ·simp only[A0,hp];rfl
  ·simp only[A0,hp];rw[ag (Yw _),decide_eq_decide.2 (show((s.length:Int)<=39)↔s.length<=39 from by omega)];rfl
theorem aak:Wk 175 1 vU:=by
 refine cw Tryz.func175 rfl fun xs bl r h=> ?_;unfold vU at h;split at h;case h_2=>cases h
 rename_i b n k aq;obtain⟨aB,rfl⟩:=dz h;refine cu (az (room (Zx b) 1) (Zj (bw (fun st=>ak .i64 st fun n r=>ak .i64 r fun bn r=>aE r fun b r=>ay r fun x r=>AV.eG x fun cG=>ak .i64 r fun b_ r=>let t1:Int:=Zz .u64 (Zz .i64 (8*Zz .i64 (Zz .i64 (bn-1)-b_)));let t2:List UInt8:=[Zh (Zw (Zz .u8 (Xx (Zz .u64 n) (2 ^ min (Zw (Zz .u64 (Zz .i64 (8*b_)))) (Zd .u64)))))];let t0:List UInt8:=[Zh (Zw (Zz .u8 (Xx (Zz .u64 n) (2 ^ min (Zw t1) (Zd .u64)))))];aw r (aD (Zv (b_<bn)) (aD b (az (Zv (0<=Zz .u64 (Zz .i64 (8*b_)))) (az (room (Zx cG+Zx t2) 1) (Zp (Xu [Zy .i64 n,Zy .i64 bn,Zq b,Yg (cG++t2),Zy .i64 (Zz .i64 (b_+1))])))) (az (Zv (0<=t1)) (az (room (Zx cG+Zx t0) 1) (Zp (Xu [Zy .i64 n,Zy .i64 bn,Zq b,Yg (cG++t0),Zy .i64 (Zz .i64 (b_+1))]))))) (Zp (Yf (Yu 0,[Zy .i64 n,Zy .i64 bn,Zq b,Yg cG,Zy .i64 b_]))))) [Zy .i64 n,Zy .i64 k,Zq aq,Yg b,Zy .i64 0]) fun(r:Ex×List AV)=>ak .i64 (Xj r) fun n eH=>ak .i64 eH fun n eP=>aE eP fun b eV=>ay eV fun x fR=>AV.eG x fun b=>ak .i64 fR fun n hZ=>aw hZ (jq r.1 Wp fun(j:Nat)=>aD (Xk j 0) (Zp (Yg b,[])) Wp))) (by kernel_rfl) ?_;try dsimp only[aK,bq,aE,dl,ak,bW,dx]
 simp only[Zf,Qa2] at aB;obtain⟨hk,hb⟩:=aB;have my:k.toNat<=4/\0<=k:=by omega
 rw[ae (Xv (by omega))];refine bZ (fun i:Nat=>[Zy Zu n,Zy Zu k,Zq aq,Yg (b++(Wu n k.toNat aq).take i),Zy Zu (i:Int)]) (fun i=>i<=k.toNat) (fun i=>k.toNat-i)
  (fun r=>r=(Yu 0,[Zy Zu n,Zy Zu k,Zq aq,Yg (b++Wu n k.toNat aq),Zy Zu k])) 0 (Wv _) (by simp) ?_ ?_
 ·intro i hi;simp only[A0];by_cases eY:i<k.toNat
  ·have hs:=Kerb.An (l:=Wu n k.toNat aq) (i:=i) (by rw[Yd];omega);have hg:=Kerb.Kr n k.toNat aq eY;have hl:((Wu n k.toNat aq).take i).length=i:=by simp[Yd];omega
   rw[ag (by simp;omega)];have hw:∀ j:Nat,j<4->Zz Ym (Zz Zu (8*(j:Int)))=((8*j:Nat):Int):=fun j hj=>by
    rw[wrap_i64 (by omega) (by omega),Kerb.wrap_u64];omega
   have hm:∀ j:Nat,j<4->min (Zw ((8*j:Nat):Int)) (Zd Ym)=8*j:=fun j hj=>by
    have:Zd Ym=64:=rfl;rw[this];omega
   cases aq
   ·have e:Zz Zu (Zz Zu (k-1)-(i:Int))=((k.toNat-1-i:Nat):Int):=by
     rw[wrap_i64 (n:=k-1) (by omega) (by omega),wrap_i64 (by omega) (by omega)];omega
    rw[aj rfl,e,hw _ (by omega),hm _ (by omega),Kerb.QF n (by omega),ae (by simp;omega),ae (Xv (by simp[hl];omega)),wrap_i64 (by omega) (by omega)];refine⟨_,rfl,i+1,?_,by omega,by dsimp only;omega⟩;dsimp only;rw[hs,hg,<-List.append_assoc];rfl
   ·rw[ag rfl,hw _ (by omega),hm _ (by omega),Kerb.QF n (by omega),ae (by simp;omega),ae (Xv (by simp[hl];omega)),wrap_i64 (by omega) (by omega)];refine⟨_,rfl,i+1,?_,by omega,by dsimp only;omega⟩;dsimp only;rw[hs,hg,<-List.append_assoc];rfl
  ·rw[aj (by simp;omega)];refine⟨_,rfl,?_⟩;show _=_;rw[Xm (by rw[Yd];omega),show(i:Int)=k from by omega]
 ·rintro r rfl;simp only[A0];rw[ag (Yw _)]
theorem aao:Wk 184 1 NA:=by
 refine cw Tryz.func184 rfl fun xs bl r h=> ?_;unfold NA at h;split at h;case h_2=>cases h
 cases h;refine cu (Zp (Yb 1 [Zk [(65:UInt8),(84:UInt8),(72:UInt8)],Zk [(66:UInt8),(79:UInt8),(83:UInt8)],Zk [(67:UInt8),(65:UInt8),(77:UInt8)]],[])) (by kernel_rfl) ?_;rfl
theorem aaD:Wk 205 1 NH:=by
 refine cw Tryz.func205 rfl fun xs bl r h=> ?_;unfold NH at h;split at h;case h_2=>cases h
 rename_i c n;cases h;refine cu (let t0:Option (AV×aC):=aD (Zv (n<1)) (Zp (Zy .u64 0,[])) (aD (Zv (n>4294967295)) (Zp (Zy .u64 0,[])) (Zp (Zy .u64 (Zz .u64 (↑(BitVec.toNat (BitVec.ofInt (Zd .u64) (Zz .u64 (Zz .u64 c*2 ^ min (Zw 56) (Zd .u64))) ||| BitVec.ofInt (Zd .u64) (Zz .u64 n))):Int)),[])));aD (!c==1) (aD (!c==2) (Zp (Zy .u64 0,[])) t0) t0) (by kernel_rfl) ?_;try dsimp only[aK,bq,aE,dl,ak,bW,dx]
 unfold Kerb.nh Kerb.k_;by_cases hc:c=1\/c=2;case neg =>
  have q1:(c==(1:Int))=Yz:=by simp;omega
  have q2:(c==(2:Int))=Yz:=by simp;omega
  rw[q1,q2];rfl
 by_cases hn:1<=n/\n<=4294967295;case neg =>
  have q:(Zv (1<=n)&&Zv (n<=4294967295))=Yz:=by
   rw[Bool.eq_false_iff];simp;omega
  rw[q,Bool.and_false];have key:(aD (Zv (n<(1:Int))) (Zp (Zy .u64 (0:Int),([]:aC))) (aD (Zv (n>(4294967295:Int))) (Zp (Zy .u64 (0:Int),[])) (Zp (Zy Ym (Zz Ym ((BitVec.toNat (BitVec.ofInt (Zd Ym) (Zz Ym (Zz Ym c*(2:Int) ^ min (Zw (56:Int)) (Zd Ym))) ||| BitVec.ofInt (Zd Ym) (Zz Ym n)):Nat):Int)),[]))))=Zp (Zy .u64 0,[]):=by
   by_cases hl:n<1
   ·rw[ag (by simpa using hl)]
   ·rw[aj (by simpa using hl),ag (by simp;omega)]
  rcases hc with rfl | rfl
  ·rw[aj (by decide)];exact key
  ·rw[ag (by decide),aj (by decide)];exact key
 have q:(Zv (1<=n)&&Zv (n<=4294967295))=Yv:=by simp;omega
 have q2:(c==(1:Int)||c==(2:Int))=Yv:=by simpa using hc
 rw[q,q2,Kerb.Mo hc hn.1 hn.2];rcases hc with rfl | rfl
 ·rw[aj (by decide),aj (by simp;omega),aj (by simp;omega)];rfl
 ·rw[ag (by decide),aj (by decide),aj (by simp;omega),aj (by simp;omega)];rfl
theorem aaE:Wk 206 1 NI:=by
 refine cw Tryz.func206 rfl fun xs bl r h=> ?_;unfold NI at h;split at h;case h_2=>cases h
 rename_i n m;cases h;refine cu (aD (Zv (n>=0)) (Zp (Zq (Zv (n<=m)),[])) (Zp (Zq Yz,[]))) (by kernel_rfl) ?_;by_cases h:0<=n<;>simp[aD,Zn,h]
theorem aaF:Wk 207 1 NJ:=by
 refine cw Tryz.func207 rfl fun xs bl r h=> ?_;unfold NJ at h;split at h;case h_2=>cases h
 rename_i n m;cases h;refine cu (aD (Zv (n>=0)) (Zp (Zq (Zv (n<=m)),[])) (Zp (Zq Yz,[]))) (by kernel_rfl) ?_;by_cases h:0<=n<;>simp[aD,Zn,h]
theorem aaI:Wk 210 1 vW:=by
 refine cw Tryz.func210 rfl fun xs bl r h=> ?_;unfold vW at h;split at h;case h_2=>cases h
 rename_i b pos n;obtain⟨aB,rfl⟩:=dz h;refine cu (aD (Zv (pos<0)) (Zp (Zy .i64 104,[])) (aD (Zv (pos>(↑(Zx b):Int))) (Zp (Zy .i64 104,[])) (aD (Zv (n<0)) (Zp (Zy .i64 104,[])) (aD (Zv (n>Zz .i64 ((↑(Zx b):Int)-pos))) (Zp (Zy .i64 101,[])) (Zp (Zy .i64 0,[])))))) (by kernel_rfl) ?_;simp only[Qa2] at aB;unfold Kerb.room;by_cases h1:pos<0
 ·simp[aD,h1]
 by_cases h2:(b.length:Int)<pos
 ·simp[aD,h1,h2]
 by_cases h3:n<0
 ·simp[aD,h1,h2,h3]
 rw[aj (by simp;omega),aj (by simp;omega),aj (by simp;omega),wrap_i64 (by omega) (by omega),Qa0 (by omega)];by_cases h4:(b.length:Int)-pos<n
 ·rw[ag (by simp;omega),Qa1 h4]
 ·rw[aj (by simp;omega),Qa0 h4]
theorem aaP:Wk 218 1 sq:=by
 refine cw Tryz.func218 rfl fun xs bl r h=> ?_;unfold sq at h;split at h;case h_2=>cases h
 rename_i k;obtain⟨aB,rfl⟩:=dz h;refine cu (Zj (bw (fun st=>ak .u64 st fun n r=>ay r fun x r=>AV.eG x fun b=>ak .i64 r fun bn r=>ak .i64 r fun b_ r=>aw r (aD (Zv (b_<bn)) (az (Zv (0<=Zz .i64 (8*Zz .i64 (7-b_)))) (az (Zv (0<=b_)&&Zv (b_<(↑(Zx b):Int))) (az (Xy (Zw b_) (Zx b)&&Yv&&Yv&&Yv&&Yv) (Zp (Xu [Zy .u64 n,Yg (Xg b (Zw b_) (Zh (Zw (Zz .u8 (Xx n (2 ^ min (Zw (Zz .i64 (8*Zz .i64 (7-b_)))) (Zd .u64))))))),Zy .i64 bn,Zy .i64 (Zz .i64 (b_+1))]))))) (Zp (Yf (Yu 0,[Zy .u64 n,Yg b,Zy .i64 bn,Zy .i64 b_]))))) [Zy .u64 k,Yg (Yn (Zw 8) (0:UInt8)),Zy .i64 (↑(Zx (Yn (Zw 8) (0:UInt8))):Int),Zy .i64 0]) fun(r:Ex×List AV)=>ak .u64 (Xj r) fun n eH=>ay eH fun x eP=>AV.eG x fun b=>ak .i64 eP fun n eV=>ak .i64 eV fun n fR=>aw fR (jq r.1 Wp fun(j:Nat)=>aD (Xk j 0) (Zp (Zg b,[])) Wp)) (by kernel_rfl) ?_;dsimp only[ak];refine fa 9 (Yu 0,[Zy Ym k,Yg [Yk k 56,Yk k 48,Yk k 40,Yk k 32,Yk k 24,Yk k 16,Yk k 8,Yk k 0],Zy Zu 8,Zy Zu 8]) (by kernel_rfl) ?_;simp only[A0];rw[ag (Yw _)];simp[Kerb.qW,Kerb.keyBytes,Kerb.fG,Xf]
theorem aaS:Wk 221 1 NN:=by
 refine cw Tryz.func221 rfl fun xs bl r h=> ?_;unfold NN at h;split at h;case h_2=>cases h
 rename_i n m;cases h;refine cu (aD (Zv (n>=0)) (Zp (Zq (Zv (n<=m)),[])) (Zp (Zq Yz,[]))) (by kernel_rfl) ?_;by_cases h:0<=n<;>simp[aD,Zn,h]
theorem aaT:Wk 222 1 NP:=by
 refine cw Tryz.func222 rfl fun xs bl r h=> ?_;unfold NP at h;split at h;case h_2=>cases h
 rename_i nx e B at_ bad;cases h;show eb (G.env 222 1) G.rts (G.own 222) Tryz.f222 _ _ [0]=_;refine cu (aD bad (Zp (Zq Yz,[[Zg B,Zy .i64 at_,Zq Yv]])) (aD (!e==0) (Zp (Zq Yz,[[Zg B,Zy .i64 at_,Zq Yv]])) (Zp (Zq Yv,[[Zg B,Zy .i64 nx,Zq bad]])))) (by kernel_rfl) ?_;cases bad
 ·cases (e==0)<;>rfl
 ·rfl
theorem aaX:Wk 226 1 NQ:=by
 refine cw Tryz.func226 rfl fun xs bl r h=> ?_;unfold NQ at h;split at h;case h_2=>cases h
 rename_i nx e B at_ bad;cases h;show eb (G.env 226 1) G.rts (G.own 226) Tryz.f226 _ _ [0]=_;refine cu (aD (!e==0) (Zp (Yq [],[[Zg B,Zy .i64 at_,Zq Yv]])) (Zp (Yq [],[[Zg B,Zy .i64 nx,Zq bad]]))) (by kernel_rfl) ?_;cases bad<;>cases (e==0)<;>rfl
theorem aa0:Wk 229 1 NS:=by
 refine cw Tryz.func229 rfl fun xs bl r h=> ?_;unfold NS at h;split at h;case h_2=>cases h
 rename_i n m;cases h;refine cu (aD (Zv (n>=0)) (Zp (Zq (Zv (n<=m)),[])) (Zp (Zq Yz,[]))) (by kernel_rfl) ?_;by_cases h:0<=n<;>simp[aD,Zn,h]
theorem aa2:Wk 233 1 NU:=by
 refine cw Tryz.func233 rfl fun xs bl r h=> ?_;unfold NU at h;split at h;case h_2=>cases h
 rename_i k;cases h;refine cu (aD (k==1) (Zp (Zq Yv,[])) (Zp (Zq (k==2),[]))) (by kernel_rfl) ?_;unfold Kerb.nh;cases (k==(1:Int))<;>rfl
theorem aa3:Wk 234 1 NV:=by
 refine cw Tryz.func234 rfl fun xs bl r h=> ?_;unfold NV at h;split at h;case h_2=>cases h
 rename_i k;cases h;refine cu (aD (Zv (k>=1)) (Zp (Zq (Zv (k<=4294967295)),[])) (Zp (Zq Yz,[]))) (by kernel_rfl) ?_;by_cases h:1<=k<;>simp[aD,Kerb.k_,h]
theorem aa5:Wk 238 1 NW:=by
 refine cw Tryz.func238 rfl fun xs bl r h=> ?_;unfold NW at h;split at h;case h_2=>cases h
 rename_i k;cases h;refine cu (aD (Zv (k>=1)) (Zp (Zq (Zv (k<=10)),[])) (Zp (Zq Yz,[]))) (by kernel_rfl) ?_;by_cases h:1<=k<;>simp[aD,Xp,h]
theorem aa7:Wk 241 1 Gl:=by
 refine cw Tryz.func241 rfl fun xs bl r h=> ?_;unfold Gl at h;split at h;case h_2=>cases h
 rename_i k els;obtain⟨aB,rfl⟩:=dz h;refine cu (Zj (bw (fun st=>ak .i64 st fun n r=>aE r fun b r=>bW 1 r fun cG r=>ak .i64 r fun bn r=>ak .i64 r fun b_ r=>aw r (aD (Zv (b_<bn)) (az (Zv (0<=b_)&&Zv (b_<(↑(Zx cG):Int))&&Yv) (AV.ax .i64 (Zm cG (Zw b_) Xw) fun eO=>aD (eO==n) (Zp (Yf (Ex.ret,[Zy .i64 n,Zq Yv,Yb 1 cG,Zy .i64 bn,Zy .i64 b_]))) (Zp (Xu [Zy .i64 n,Zq b,Yb 1 cG,Zy .i64 bn,Zy .i64 (Zz .i64 (b_+1))])))) (Zp (Yf (Yu 0,[Zy .i64 n,Zq b,Yb 1 cG,Zy .i64 bn,Zy .i64 b_]))))) [Zy .i64 k,Zq Yz,Yb 1 els,Zy .i64 (↑(Zx els):Int),Zy .i64 0]) fun(r:Ex×List AV)=>ak .i64 (Xj r) fun n eH=>aE eH fun b eP=>bW 1 eP fun cG eV=>ak .i64 eV fun n fR=>ak .i64 fR fun n hZ=>aw hZ (jq r.1 (Zp (Zq b,[])) fun(j:Nat)=>aD (Xk j 0) (Zp (Zq Yz,[])) Wp)) (by kernel_rfl) ?_;dsimp only[aE,ak,bW];simp only[Zf,Qa2] at aB;obtain⟨ha,hl⟩:=aB;have hil:=Kerb.E4 ha;refine bZ (fun i:Nat=>[Zy Zu k,Zq Yz,Yb 1 els,Zy Zu (els.length:Int),Zy Zu (i:Int)]) (fun i=>i<=els.length/\(k∈jF els↔k∈(jF els).drop i)) (fun i=>els.length-i)
  (fun r=>∃ (i:Nat) (x:Bool),r.2=[Zy Zu k,Zq x,Yb 1 els,Zy Zu (els.length:Int),Zy Zu (i:Int)]/\((r.1 = .ret/\x=Yv/\k∈jF els)\/(r.1 = .exit 0/\k ∉ jF els))) 0 ⟨Wv _,by simp⟩ rfl ?_ ?_
 ·rintro i ⟨hi,hm⟩;simp only[A0];by_cases eY:i<els.length
  ·obtain⟨n,h1,h2⟩:=Kerb.E3 ha eY;rw[ag (by simp;omega),ae (by simp;omega),Yh,h1,BN];rw[h2,List.mem_cons] at hm;by_cases h3:n=k
   ·rw[ag (by simpa using h3)];exact⟨_,rfl,i,Yv,rfl,.inl ⟨rfl,rfl,hm.2 (.inl h3.symm)⟩⟩
   ·rw[aj (by simpa using h3),wrap_i64 (by omega) (by omega)];exact⟨_,rfl,i+1,rfl,⟨by omega,hm.trans ⟨fun h=>h.resolve_left fun e=>h3 e.symm,.inr⟩⟩,by dsimp only;omega⟩
  ·rw[aj (by simp;omega)];refine⟨_,rfl,i,Yz,rfl,.inr ⟨rfl,?_⟩⟩;rw[hm,List.drop_eq_nil_of_le (by omega)];simp
 ·rintro⟨e,l⟩ ⟨i,x,rfl,⟨rfl,rfl,h⟩ | ⟨rfl,h⟩⟩
  ·simp[ay,AV.ax,AV.cU,AV.g7,aw,jq,h]
  ·simp[ay,AV.ax,AV.cU,AV.g7,aw,jq,h,aD]
theorem aa':Wk 245 1 N0:=by
 refine cw Tryz.func245 rfl fun xs bl r h=> ?_;unfold N0 at h;split at h;case h_2=>cases h
 rename_i n m;cases h;refine cu (aD (Zv (n>=0)) (Zp (Zq (Zv (n<=m)),[])) (Zp (Zq Yz,[]))) (by kernel_rfl) ?_;by_cases h:0<=n<;>simp[aD,Zn,h]
theorem abh:Wk 251 1 N3:=by
 refine cw Tryz.func251 rfl fun xs bl r h=> ?_;unfold N3 at h;split at h;case h_2=>cases h
 rename_i n;cases h;refine cu (aD (n==1) (Zp (Zq Yv,[])) (aD (n==2) (Zp (Zq Yv,[])) (Zp (Zq (n==3),[])))) (by kernel_rfl) ?_;unfold Kerb.ld;cases (n==1)
 ·cases (n==2)<;>rfl
 ·rfl
theorem abi:Wk 252 1 N4:=by
 refine cw Tryz.func252 rfl fun xs bl r h=> ?_;unfold N4 at h;split at h;case h_2=>cases h
 rename_i n m;cases h;refine cu (aD (Zv (n>=0)) (Zp (Zq (Zv (n<=m)),[])) (Zp (Zq Yz,[]))) (by kernel_rfl) ?_;by_cases h:0<=n<;>simp[aD,Zn,h]
theorem abj:Wk 255 1 N6:=by
 refine cw Tryz.func255 rfl fun xs bl r h=> ?_;unfold N6 at h;split at h;case h_2=>cases h
 rename_i n m;cases h;refine cu (aD (Zv (n>=0)) (Zp (Zq (Zv (n<=m)),[])) (Zp (Zq Yz,[]))) (by kernel_rfl) ?_;by_cases h:0<=n<;>simp[aD,Zn,h]
theorem abn:Wk 261 1 N7:=by
 refine cw Tryz.func261 rfl fun xs bl r h=> ?_;unfold N7 at h;split at h;case h_2=>cases h
 rename_i k;cases h;refine cu (aD (Zv (k>=1)) (Zp (Zq (Zv (k<=10)),[])) (Zp (Zq Yz,[]))) (by kernel_rfl) ?_;by_cases h:1<=k<;>simp[aD,Xp,h]
theorem abu:Wk 267 1 Gv:=by
 refine cw Tryz.func267 rfl fun xs bl r h=> ?_;unfold Gv at h;split at h;case h_2=>cases h
 rename_i a b els;obtain⟨aB,rfl⟩:=dz h;show eb (G.env 267 1) G.rts (G.own 267) Tryz.f267 _ _ [0]=_;refine cu (Zj (bw (fun st=>ay st fun x r=>AV.aR x fun y=>ak .i64 r fun n r=>ak .i64 r fun bn r=>aw r (aD (Zv (n<bn)) (az (Zv (0<=bn)&&Zv (bn<(↑(Zx y):Int))&&Yv) (az (Xy (Zw bn) (Zx y)&&Yv) (AV.ax .u64 (Zm y (Zw bn) Xw) fun b_=>az (Zv (0<=n)&&Zv (n<(↑(Zx y):Int))&&Yv) (az (Xy (Zw n) (Zx y)&&Yv) (AV.ax .u64 (Zm y (Zw n) Xw) fun eO=>az (Zv (0<=n)&&Zv (n<(↑(Zx y):Int))&&Yv) (az (Xy (Zw n) (Zx y)&&Yv) (AV.ax .u64 (Zm y (Zw n) Xw) fun bY=>az (Zx [Zy .u64 b_]==nat_lit 1&&Yv&&Yv&&Yv&&Xy (Zw n) (Zx y)) (az (Zv (0<=bn)&&Zv (bn<(↑(Zx (Xg y (Zw n) (Zy .u64 b_))):Int))&&Yv) (az (Xy (Zw bn) (Zx (Xg y (Zw n) (Zy .u64 b_)))&&Yv) (AV.ax .u64 (Zm (Xg y (Zw n) (Zy .u64 b_)) (Zw bn) Xw) fun bF=>az (Zx [Zy .u64 eO]==nat_lit 1&&Yv&&Yv&&Yv&&Xy (Zw bn) (Zx (Xg y (Zw n) (Zy .u64 b_)))) (Zp (Xu [Wx (Xg (Xg y (Zw n) (Zy .u64 b_)) (Zw bn) (Zy .u64 eO)),Zy .i64 (Zz .i64 (n+1)),Zy .i64 (Zz .i64 (bn-1))])))))))))))) (Zp (Yf (Yu 0,[Wx y,Zy .i64 n,Zy .i64 bn]))))) [Wx els,Zy .i64 a,Zy .i64 (Zz .i64 (b-1))]) fun(r:Ex×List AV)=>ay (Xj r) fun x eH=>AV.aR x fun y=>ak .i64 eH fun n eP=>ak .i64 eP fun n eV=>aw eV (jq r.1 (Zp (Yq [],[y])) fun(j:Nat)=>aD (Xk j 0) (Zp (Yq [],[y])) Wp)) (by kernel_rfl) ?_;dsimp only[ak];simp only[Zf,Qa2] at aB;obtain⟨⟨⟨⟨fK,hlen⟩,GJ⟩,uu⟩,hb⟩:=aB;obtain⟨d,rfl,hd⟩:=Kerb.lz fK;simp only[Kerb.aT] at *;unfold Kerb.PP;rw[hd];obtain⟨a,rfl⟩:=Xq GJ;obtain⟨b,rfl⟩:=Xq (show 0<=b by omega);simp only[Yh];rw[Kerb.ga (by omega) (by omega)];unfold Go.Sort.reverseRange;refine bZ (fun s:Array Int×Nat×Int=>[Wx (Ww s.1),Zy .i64 (s.2.1:Int),Zy .i64 s.2.2]) (fun s=>s.1.size=d.size/\s.2.1<=d.size /\ -1<=s.2.2/\s.2.2<d.size/\Go.Sort.reverseLoop s.2.1 s.2.2.toNat s.1=Go.Sort.reverseLoop a (b-1) d) (fun s=>(s.2.2-s.2.1+1).toNat) (fun r=>∃ n m,r=(.exit 0,[Wx (Ww (Go.Sort.reverseLoop a (b-1) d)),Zy .i64 n,Zy .i64 m])) (d,a,(b:Int)-1) ⟨rfl,by dsimp only;omega,by dsimp only;omega,by dsimp only;omega,by dsimp only;rw[show((b:Int)-1).toNat=b-1 by omega]⟩ rfl ?_ ?_
 ·rintro⟨e,i,j⟩ ⟨hs,hi,XT,hj1,hr⟩;dsimp only at hs hi XT hj1 hr ⊢;simp only[↓bD,↓bS,↓cL,↓cP];by_cases h:(i:Int)<j
  ·obtain⟨m,rfl⟩:=Xq (show 0<=j by omega);have hm:m<e.size:=by omega
   have hie:i<e.size:=by omega
   rw[Yh] at hr;rw[ag (by simpa using h),Kerb.ga (by omega) (by omega),Kerb.ga (by omega) (by omega),Kerb.sw hie hm (fun l=>Zp (Xu [Wx l,Zy .i64 ((i:Int)+1),Zy .i64 ((m:Int)-1)]))];refine⟨_,rfl,(Go.Sort.swp e i m,i+1,(m:Int)-1),rfl,⟨by dsimp only;rw[Kerb.swp_size,hs],by dsimp only;omega,by dsimp only;omega,by dsimp only;omega,?_⟩,by dsimp only;omega⟩;dsimp only;rw[<-hr];conv=>rhs;unfold Go.Sort.reverseLoop
   rw[Qa1 (by omega),show((m:Int)-1).toNat=m-1 by omega]
  ·rw[aj (by simpa using h)];refine⟨_,rfl,i,j,?_⟩;have:Go.Sort.reverseLoop i j.toNat e=e:=by
    unfold Go.Sort.reverseLoop;rw[Qa0 (by omega)]
   rw[<-hr,this]
 ·rintro _ ⟨n,m,rfl⟩;simp only[↓bD,↓bS,↓cL,↓cP,↓jB];rw[ag (Yw _)]
theorem abz:Wk 273 1 Gx:=by
 refine cw Tryz.func273 rfl fun xs bl r h=> ?_;unfold Gx at h;split at h;case h_2=>cases h
 rename_i x;obtain⟨aB,rfl⟩:=dz h;refine cu (let t2:List UInt8:=([8,8,8,8,8,8,8,8,8,8,8,8,8,8,8,8,8,8,8,8,8,8,8,8,8,8,8,8,8,8,8,8,8,8,8,8,8,8,8,8,8,8,8,8,8,8,8,8,8,8,8,8,8,8,8,8,8,8,8,8,8,8,8,8]:List UInt8);let t11:Int:=Xx x (2 ^ min (Zw 32) (Zd .u64));let t12:Int:=(↑(Zb (Zh (Zw (Zz .u8 x)))):Int);let t13:Int:=Xx x (2 ^ min (Zw 16) (Zd .u64));let t14:Int:=2 ^ min (Zw 8) (Zd .u64);let t1:List UInt8:=(0:UInt8)::Yp (Yp ([1,2,2,3,3,3,3,4,4,4,4,4,4,4,4,5,5,5,5,5,5,5,5,5,5,5,5,5,5,5,5,6,6,6,6,6,6,6,6,6,6,6,6,6,6,6,6,6,6,6,6,6,6,6,6,6,6,6,6,6,6,6,6]:List UInt8) ([7,7,7,7,7,7,7,7,7,7,7,7,7,7,7,7,7,7,7,7,7,7,7,7,7,7,7,7,7,7,7,7,7,7,7,7,7,7,7,7,7,7,7,7,7,7,7,7,7,7,7,7,7,7,7,7,7,7,7,7,7,7,7,7]:List UInt8)) (Yp t2 t2);let t4:Int:=(↑(Zb (Zh (Zw (Zz .u8 (Xx t11 t14))))):Int);let t6:Int:=(↑(Zb (Zh (Zw (Zz .u8 (Xx t13 t14))))):Int);let t7:Int:=(↑(Zb (Zh (Zw (Zz .u8 t11)))):Int);let t8:Int:=(↑(Zb (Zh (Zw (Zz .u8 t13)))):Int);let t9:Int:=(↑(Zb (Zh (Zw (Zz .u8 (Xx x t14))))):Int);let t10:Int:=Xx t11 (2 ^ min (Zw 16) (Zd .u64));let t0:Int:=(↑(Zx t1):Int);let t3:Int:=(↑(Zb (Zh (Zw (Zz .u8 (Xx t10 t14))))):Int);let t5:Int:=(↑(Zb (Zh (Zw (Zz .u8 t10)))):Int);aD (Zv (x>=4294967296)) (aD (Zv (t11>=65536)) (aD (Zv (t10>=256)) (az (Zv (0<=t3)&&Zv (t3<t0)) (Zp (Zy .i64 (Zz .i64 (Zz .i64 (Zz .i64 (32+16)+8)+Zz .i64 (↑(Zb (Zm t1 (Zw t3) (0:UInt8))):Int))),[]))) (az (Zv (0<=t5)&&Zv (t5<t0)) (Zp (Zy .i64 (Zz .i64 (Zz .i64 (32+16)+Zz .i64 (↑(Zb (Zm t1 (Zw t5) (0:UInt8))):Int))),[])))) (aD (Zv (t11>=256)) (az (Zv (0<=t4)&&Zv (t4<t0)) (Zp (Zy .i64 (Zz .i64 (Zz .i64 (32+8)+Zz .i64 (↑(Zb (Zm t1 (Zw t4) (0:UInt8))):Int))),[]))) (az (Zv (0<=t7)&&Zv (t7<t0)) (Zp (Zy .i64 (Zz .i64 (32+Zz .i64 (↑(Zb (Zm t1 (Zw t7) (0:UInt8))):Int))),[]))))) (aD (Zv (x>=65536)) (aD (Zv (t13>=256)) (az (Zv (0<=t6)&&Zv (t6<t0)) (Zp (Zy .i64 (Zz .i64 (Zz .i64 (Zz .i64 (0+16)+8)+Zz .i64 (↑(Zb (Zm t1 (Zw t6) (0:UInt8))):Int))),[]))) (az (Zv (0<=t8)&&Zv (t8<t0)) (Zp (Zy .i64 (Zz .i64 (Zz .i64 (0+16)+Zz .i64 (↑(Zb (Zm t1 (Zw t8) (0:UInt8))):Int))),[])))) (aD (Zv (x>=256)) (az (Zv (0<=t9)&&Zv (t9<t0)) (Zp (Zy .i64 (Zz .i64 (Zz .i64 (0+8)+Zz .i64 (↑(Zb (Zm t1 (Zw t9) (0:UInt8))):Int))),[]))) (az (Zv (0<=t12)&&Zv (t12<t0)) (Zp (Zy .i64 (Zz .i64 (0+Zz .i64 (↑(Zb (Zm t1 (Zw t12) (0:UInt8))):Int))),[])))))) (by kernel_rfl) ?_;try dsimp only[aK,bq,aE,dl,ak,bW,dx]
 simp only[Zf,Qa2] at aB;obtain⟨h0,h1⟩:=aB;obtain⟨n,rfl⟩:=Xq h0;rw[Kerb.zl];simp only[Kerb.f32,Kerb.f16,Kerb.f8];by_cases h32:2 ^ 32<=n
 ·rw[ag (by simp;omega)];have e32:=Kerb.jb 32 h32;have b32:n / 2 ^ 32<2 ^ 32:=by omega
  generalize n / 2 ^ 32=m0 at e32 b32 ⊢;by_cases W7:2 ^ 16<=m0
  ·rw[ag (by simp;omega)];have WU:=Kerb.jb 16 W7;have WI:m0 / 2 ^ 16<2 ^ 16:=by omega
   generalize m0 / 2 ^ 16=m5 at WU WI ⊢;by_cases h8:2 ^ 8<=m5
   ·rw[ag (by simp;omega)];have e8:=Kerb.jb 8 h8;have b8:m5 / 2 ^ 8<2 ^ 8:=by omega
    generalize m5 / 2 ^ 8=m10 at e8 b8 ⊢;rw[Kerb.mM (by decide +kernel) (by omega) (by decide) (by decide)];have hz:Zz .i64 (Zz .i64 ((32:Int)+(16:Int))+(8:Int))+(Go.Sort.bitsLen m10:Int)=(Go.Sort.bitsLen n:Int):=by
     have:Zz .i64 (Zz .i64 ((32:Int)+(16:Int))+(8:Int))=56:=by decide
     omega
    rw[hz]
   ·rw[aj (by simp;omega)];rw[Kerb.mM (by decide +kernel) (by omega) (by decide) (by decide)];have hz:Zz .i64 ((32:Int)+(16:Int))+(Go.Sort.bitsLen m5:Int)=(Go.Sort.bitsLen n:Int):=by
     have:Zz .i64 ((32:Int)+(16:Int))=48:=by decide
     omega
    rw[hz]
  ·rw[aj (by simp;omega)];by_cases h8:2 ^ 8<=m0
   ·rw[ag (by simp;omega)];have e8:=Kerb.jb 8 h8;have b8:m0 / 2 ^ 8<2 ^ 8:=by omega
    generalize m0 / 2 ^ 8=m27 at e8 b8 ⊢;rw[Kerb.mM (by decide +kernel) (by omega) (by decide) (by decide)];have hz:Zz .i64 ((32:Int)+(8:Int))+(Go.Sort.bitsLen m27:Int)=(Go.Sort.bitsLen n:Int):=by
     have:Zz .i64 ((32:Int)+(8:Int))=40:=by decide
     omega
    rw[hz]
   ·rw[aj (by simp;omega)];rw[Kerb.mM (by decide +kernel) (by omega) (by decide) (by decide)];have hz:(32:Int)+(Go.Sort.bitsLen m0:Int)=(Go.Sort.bitsLen n:Int):=by
     have:(32:Int)=32:=by decide
     omega
    rw[hz]
 ·rw[aj (by simp;omega)];by_cases W7:2 ^ 16<=n
  ·rw[ag (by simp;omega)];have WU:=Kerb.jb 16 W7;have WI:n / 2 ^ 16<2 ^ 16:=by omega
   generalize n / 2 ^ 16=V7 at WU WI ⊢;by_cases h8:2 ^ 8<=V7
   ·rw[ag (by simp;omega)];have e8:=Kerb.jb 8 h8;have b8:V7 / 2 ^ 8<2 ^ 8:=by omega
    generalize V7 / 2 ^ 8=m49 at e8 b8 ⊢;rw[Kerb.mM (by decide +kernel) (by omega) (by decide) (by decide)];have hz:Zz .i64 (Zz .i64 ((0:Int)+(16:Int))+(8:Int))+(Go.Sort.bitsLen m49:Int)=(Go.Sort.bitsLen n:Int):=by
     have:Zz .i64 (Zz .i64 ((0:Int)+(16:Int))+(8:Int))=24:=by decide
     omega
    rw[hz]
   ·rw[aj (by simp;omega)];rw[Kerb.mM (by decide +kernel) (by omega) (by decide) (by decide)];have hz:Zz .i64 ((0:Int)+(16:Int))+(Go.Sort.bitsLen V7:Int)=(Go.Sort.bitsLen n:Int):=by
     have:Zz .i64 ((0:Int)+(16:Int))=16:=by decide
     omega
    rw[hz]
  ·rw[aj (by simp;omega)];by_cases h8:2 ^ 8<=n
   ·rw[ag (by simp;omega)];have e8:=Kerb.jb 8 h8;have b8:n / 2 ^ 8<2 ^ 8:=by omega
    generalize n / 2 ^ 8=m66 at e8 b8 ⊢;rw[Kerb.mM (by decide +kernel) (by omega) (by decide) (by decide)];have hz:Zz .i64 ((0:Int)+(8:Int))+(Go.Sort.bitsLen m66:Int)=(Go.Sort.bitsLen n:Int):=by
     have:Zz .i64 ((0:Int)+(8:Int))=8:=by decide
     omega
    rw[hz]
   ·rw[aj (by simp;omega)];rw[Kerb.mM (by decide +kernel) (by omega) (by decide) (by decide)];have hz:(0:Int)+(Go.Sort.bitsLen n:Int)=(Go.Sort.bitsLen n:Int):=by
     have:(0:Int)=0:=by decide
     omega
    rw[hz]
theorem abD:Wk 277 1 Gz:=by
 refine cw Tryz.func277 rfl fun xs bl r h=> ?_;unfold Gz at h;split at h;case h_2=>cases h
 rename_i x;obtain⟨aB,rfl⟩:=dz h;show eb (G.env 277 1) G.rts (G.own 277) Tryz.f277 _ _ [0]=_;refine cu (let t2:Int:=Zz .u64 (↑(BitVec.toNat (BitVec.ofInt (Zd .u64) x ^^^ BitVec.ofInt (Zd .u64) (Zz .u64 (x*2 ^ min (Zw 13) (Zd .u64))))):Int);let t1:Int:=Zz .u64 (↑(BitVec.toNat (BitVec.ofInt (Zd .u64) t2 ^^^ BitVec.ofInt (Zd .u64) (Xx t2 (2 ^ min (Zw 7) (Zd .u64))))):Int);let t0:AV:=Zy .u64 (Zz .u64 (↑(BitVec.toNat (BitVec.ofInt (Zd .u64) t1 ^^^ BitVec.ofInt (Zd .u64) (Zz .u64 (t1*2 ^ min (Zw 17) (Zd .u64))))):Int));Zp (t0,[[t0]])) (by kernel_rfl) ?_;try dsimp only[aK,bq,aE,dl,ak,bW,dx]
 simp only[Zf,Qa2] at aB;obtain⟨h0,h1⟩:=aB;obtain⟨v,rfl⟩:∃ v:BitVec 64,x=(v.toNat:Int):=⟨BitVec.ofNat 64 x.toNat,by rw[BitVec.toNat_ofNat];omega⟩;exact Qb3 (fun z=>Zp (Zy .u64 z,[[Zy .u64 z]])) (Kerb.OK v)
theorem abG:Wk 280 1 N':=by
 refine cw Tryz.func280 rfl fun xs bl r h=> ?_;unfold N' at h;split at h;case h_2=>cases h
 rename_i x;cases h;refine cu (Zp (Zq !x==x,[])) (by kernel_rfl) ?_;simp
theorem w20:Wk 20 2 NG:=by
 refine cw Tryz.func20 rfl fun xs bl r h=> ?_;unfold NG at h;split at h;case h_2=>cases h
 rename_i ks bs ls cs;obtain⟨aB,rfl⟩:=dz h;refine cu (Zj (H3 [Yb 1 ks,Yb 1 ls] []) (kL fun b=>aD b (Zj (Nk [Yb 1 bs,Yb 1 cs] []) (kL fun b=>Zp (Zq b,[]))) (Zp (Zq Yz,[])))) (by kernel_rfl) ?_;delta kL;dsimp only[Nk,H3,aK,bq,aE,dl,ak,bW,dx];simp only[Zf,Qa2] at aB;obtain⟨⟨⟨⟨⟨h1,h2⟩,h3⟩,h4⟩,h5⟩,h6⟩:=aB;simp only[A0,Xh,Wz,Kerb.eE.av,h1,h2,h3,h4,h5,h6,Wy,Qb2];cases Kerb.iM ks==Kerb.iM ls<;>rfl
theorem w29:Wk 29 2 R9:=by
 refine cw Tryz.func29 rfl fun xs bl r h=> ?_;unfold R9 at h;split at h;case h_2=>cases h
 rename_i n;cases h;refine cu (aD (Zv ((↑(Zb (Zh (Zw (Yy (↑(Zb n):Int) (↑(Zb (6:UInt8)):Int))))):Int)<(↑(Zb (2:UInt8)):Int))) (Zj (NX [Zy .i64 (Yy (Zz .i64 (↑(Zb n):Int)) 6)] []) (kI .u64 fun n=>Zp (Zy .u64 n,[]))) (Zj (H4 [Zy .i64 (Yy (Zz .i64 (↑(Zb n):Int)) 6)] []) (kI .u64 fun n=>Zp (Zy .u64 n,[])))) (by kernel_rfl) ?_;delta kI;dsimp only[H4,NX,aK,bq,aE,dl,ak,bW,dx];have h:=Kerb.I7 n (m:=6) (by decide);have e1:Zv (0<=Kerb.ul n 6)=Yv:=Qa4 h.1;have e2:Zv (Kerb.ul n 6<=1000)=Yv:=Qa4 (by omega);simp only[A0,Xh,Wz,Kerb.eE.av,e1,e2,Wy];unfold Kerb.ic;rw[M_];cases Zv (((Zh (Zw (Yy (n.toNat:Int) ((6:UInt8).toNat:Int)))).toNat:Int)<((2:UInt8).toNat:Int))<;>rfl
theorem w60:Wk 60 2 Sf:=by
 refine cw Tryz.func60 rfl fun xs bl r h=> ?_;unfold Sf at h;split at h;case h_2=>cases h
 rename_i n;cases h;refine cu (Zj (H4 [Zy .i64 (Zz .i64 (2+Yy (Zz .i64 (↑(Zb n):Int)) 4))] []) (kI .u64 fun n=>Zp (Zy .u64 n,[]))) (by kernel_rfl) ?_;delta kI;dsimp only[H4,aK,bq,aE,dl,ak,bW,dx];have h:=Kerb.I7 n (m:=4) (by decide);have e0:Go.IntKind.wrap .i64 (2+Kerb.ul n 4)=2+Kerb.ul n 4:=wrap_i64 (by omega) (by omega);have e1:Zv (0<=Go.IntKind.wrap .i64 (2+Kerb.ul n 4))=Yv:=Qa4 (by rw[e0];omega);have e2:Zv (Go.IntKind.wrap .i64 (2+Kerb.ul n 4)<=1000)=Yv:=Qa4 (by rw[e0];omega);simp only[A0,Xh,Wz,Kerb.eE.av,e1,e2,Wy,Kerb.FN]
theorem w91:Wk 91 2 DI:=by
 refine cw Tryz.func91 rfl fun xs bl r h=> ?_;unfold DI at h;split at h;case h_2=>cases h
 rename_i s;obtain⟨aB,rfl⟩:=dz h;refine cu (aD (Zv ((↑(Zx s):Int)>0)) (Zj (vT [Zk s,Zk [(64:UInt8)]] []) (kL fun b=>Zp (Zq b,[]))) (Zp (Zq Yz,[]))) (by kernel_rfl) ?_;delta kL;dsimp only[vT,aK,bq,aE,dl,ak,bW,dx];simp only[A0];rw[ae (by rw[aB];rfl)];simp only[Kerb.cY];cases s with
 | nil=>rfl
 | cons x r =>
  rw[ag (by first | (simp;done) | (simp;omega)),Bool.and_comm];rfl
theorem w93:Wk 93 2 hJ:=by
 refine cw Tryz.func93 rfl fun xs bl r h=> ?_;unfold hJ at h;split at h;case h_2=>cases h
 rename_i b n;obtain⟨aB,rfl⟩:=dz h;refine cu (Zj (vU [Zg b,Zy .i64 n,Zy .i64 1,Zq Yz] []) (kO fun l=>Zp (Yg l,[]))) (by kernel_rfl) ?_;delta kO;dsimp only[vU,aK,bq,aE,dl,ak,bW,dx];simp only[Qa2] at aB;simp only[A0];rw[ae (by simp;omega)];rfl
theorem Y':Wk 105 2 zY:=by
 refine cw Tryz.func105 rfl fun xs bl r h=> ?_;unfold zY at h;split at h;case h_2=>cases h
 rename_i n;obtain⟨aB,rfl⟩:=dz h;refine cu (az (Zv (0<=Yy n 3)&&Zv (Yy n 3<(↑(Zx [Zk [(65:UInt8),(84:UInt8),(72:UInt8)],Zk [(66:UInt8),(79:UInt8),(83:UInt8)],Zk [(67:UInt8),(65:UInt8),(77:UInt8)]]):Int))&&Yv) (AV.gq (Zm [Zk [(65:UInt8),(84:UInt8),(72:UInt8)],Zk [(66:UInt8),(79:UInt8),(83:UInt8)],Zk [(67:UInt8),(65:UInt8),(77:UInt8)]] (Zw (Yy n 3)) Xw) fun b=>Zp (Zk b,[]))) (by kernel_rfl) ?_;have hn:0<=n:=by first | exact Qa3 aB | (simp only[Zf,Qa2] at aB;exact aB.1)
 have ht:Yy n 3=n % 3:=Xz hn;have vg:n % 3=0\/n % 3=1\/n % 3=2:=by omega
 rcases vg with e | e | e<;>simp[ht,e,az,AV.gq,Kerb.aJ]
theorem Ze:Wk 108 2 iQ:=by
 refine cw Tryz.func108 rfl fun xs bl r h=> ?_;unfold iQ at h;split at h;case h_2=>cases h
 rename_i b x y z;obtain⟨aB,rfl⟩:=dz h;refine cu (Zj (oa [Zg b,Zk x] []) (kO fun l=>Zj (oa [Zg l,Zk y] []) (kO fun l=>Zj (oa [Zg l,Zk z] []) (kO fun l=>Zp (Yg l,[]))))) (by kernel_rfl) ?_;delta kO;dsimp only[oa,aK,bq,aE,dl,ak,bW,dx];simp only[Qa2] at aB;simp only[A0];rw[ae (by simp;omega),ae (by simp[Kerb.bg];omega),ae (by simp[Kerb.bg];omega)];rfl
theorem Zi:Wk 109 2 ew:=by
 refine cw Tryz.func109 rfl fun xs bl r h=> ?_;unfold ew at h;split at h;case h_2=>cases h
 rename_i b n aq;obtain⟨aB,rfl⟩:=dz h;refine cu (Zj (vU [Zg b,Zy .i64 n,Zy .i64 4,Zq aq] []) (kO fun l=>Zp (Yg l,[]))) (by kernel_rfl) ?_;delta kO;dsimp only[vU,aK,bq,aE,dl,ak,bW,dx];simp only[Qa2] at aB;simp only[A0];rw[ae (by simp;omega)];rfl
theorem Zl:Wk 110 2 ku:=by
 refine cw Tryz.func110 rfl fun xs bl r h=> ?_;unfold ku at h;split at h;case h_2=>cases h
 rename_i b n aq;obtain⟨aB,rfl⟩:=dz h;refine cu (Zj (vU [Zg b,Zy .i64 n,Zy .i64 2,Zq aq] []) (kO fun l=>Zp (Yg l,[]))) (by kernel_rfl) ?_;delta kO;dsimp only[vU,aK,bq,aE,dl,ak,bW,dx];simp only[Qa2] at aB;simp only[A0];rw[ae (by simp;omega)];rfl
theorem Zo:Wk 111 2 sj:=by
 refine cw Tryz.func111 rfl fun xs bl r h=> ?_;unfold sj at h;split at h;case h_2=>cases h
 rename_i s;obtain⟨aB,rfl⟩:=dz h;refine cu (aD (Zv ((↑(Zx s):Int)>0)) (Zj (vT [Zk s,Zk [(46:UInt8),(64:UInt8)]] []) (kL fun b=>Zp (Zq b,[]))) (Zp (Zq Yz,[]))) (by kernel_rfl) ?_;delta kL;dsimp only[vT,aK,bq,aE,dl,ak,bW,dx];simp only[A0];rw[ae (by rw[aB];rfl)];simp only[Kerb.validName];cases s with
 | nil=>rfl
 | cons x r =>
  rw[ag (by first | (simp;done) | (simp;omega)),Bool.and_comm];rfl
theorem Zr:Wk 112 2 sk:=by
 refine cw Tryz.func112 rfl fun xs bl r h=> ?_;unfold sk at h;split at h;case h_2=>cases h
 rename_i s;obtain⟨aB,rfl⟩:=dz h;refine cu (Zj (vT [Zk s,Zk [(64:UInt8)]] []) (kL fun b=>Zp (Zq b,[]))) (by kernel_rfl) ?_;delta kL;dsimp only[vT,aK,bq,aE,dl,ak,bW,dx];simp only[A0];rw[ae (by rw[aB];rfl),Bool.and_comm];rfl
theorem ZL:Wk 136 2 na:=by
 refine cw Tryz.func136 rfl fun xs bl r h=> ?_;unfold na at h;split at h;case h_2=>cases h
 rename_i k;obtain⟨aB,rfl⟩:=dz h;refine cu (let t0:Int:=Zz .i64 (Zz .u64 (↑(BitVec.toNat (BitVec.ofInt (Zd .u64) k &&& BitVec.ofInt (Zd .u64) 72057594037927935)):Int));aD (!k==0) (Zp (Zq ((bif Kerb.nh (Zz .i64 (Xx k (2 ^ min (Zw 56) (Zd .u64))))&&Kerb.k_ t0 then Zz .i64 (Xx k (2 ^ min (Zw 56) (Zd .u64)))*72057594037927936+t0 else 0)==k),[])) (Zp (Zq Yz,[]))) (by kernel_rfl) ?_;try dsimp only[aK,bq,aE,dl,ak,bW,dx]
 simp only[Zf,Qa2] at aB;obtain⟨h0,h1⟩:=aB;rw[Kerb.Mm h0 h1,Kerb.Mn h0 h1,Kerb.Py];by_cases hk:k=0
 ·subst hk;rfl
 rw[ag (by simpa using hk)];unfold Kerb.bp;cases Kerb.nh (Kerb.lg k)&&Kerb.k_ (Kerb.kq k)
 ·have q:((0:Int)==k)=Yz:=by simp;omega
  simp only[Qa6,q]
 ·simp only[Qa5,BEq.rfl]
theorem ZX:Wk 148 2 qE:=by
 refine cw Tryz.func148 rfl fun xs bl r h=> ?_;unfold qE at h;split at h;case h_2=>cases h
 rename_i b pos n;obtain⟨aB,rfl⟩:=dz h;refine cu (Zj (vW [Zg b,Zy .i64 pos,Zy .i64 n] []) (kI .i64 fun bn=>aD (!bn==0) (Zp (Yq [Zg [],Zy .i64 0,Zy .i64 bn],[])) (az (Zv (0<=pos)&&Zv (pos<=Zz .i64 (pos+n))&&Zv (Zz .i64 (pos+n)<=(↑(Zx b):Int))) (Zj (Aa [Zg (Xb (Zw pos) (Xd (Zw (Zz .i64 (pos+n))) b))] []) (kB fun b=>Zp (Yq [Zg b,Zy .i64 (Zz .i64 (pos+n)),Zy .i64 0],[])))))) (by kernel_rfl) ?_;delta kB kI;dsimp only[vW,Aa,aK,bq,aE,dl,ak,bW,dx];have hb:=Qa3 aB;simp only[A0];rw[ae (by simp;omega)];unfold Kerb.bytes;by_cases hr:Kerb.room b pos n=0
 ·obtain⟨q1,q2,q3,q4⟩:=Kerb.mg.1 hr;have e:Xb (Zw pos) (Xd (Zw (pos+n)) b)=Kerb.cut b pos n:=by
   rw[show Zw (pos+n)=pos.toNat+n.toNat by omega,List.drop_take,show pos.toNat+n.toNat-pos.toNat=n.toNat by omega];rfl
  have hc:=Kerb.j6 hr;rw[aj (by simp[hr]),Qa1 hr,wrap_i64 (by omega) (by omega),e,ae (by simp;omega),ae (by simp;omega)]
 ·rw[ag (by simpa using hr),Qa0 hr]
theorem aal:Wk 177 2 z7:=by
 refine cw Tryz.func177 rfl fun xs bl r h=> ?_;unfold z7 at h;split at h;case h_2=>cases h
 rename_i k;obtain⟨aB,rfl⟩:=dz h;refine cu (let t0:Int:=Zz .i64 (Zz .u64 (↑(BitVec.toNat (BitVec.ofInt (Zd .u64) k &&& BitVec.ofInt (Zd .u64) 72057594037927935)):Int));let t1:Option (AV×aC):=Zp (Yq [Zy .i64 0,Zy .i64 0,Zq Yz],[]);aD (!Kerb.nh (Zz .i64 (Xx k (2 ^ min (Zw 56) (Zd .u64))))) t1 (aD (!Kerb.k_ t0) t1 (Zp (Yq [Zy .i64 (Zz .i64 (Xx k (2 ^ min (Zw 56) (Zd .u64)))),Zy .i64 t0,Zq Yv],[])))) (by kernel_rfl) ?_;try dsimp only[aK,bq,aE,dl,ak,bW,dx]
 simp only[Zf,Qa2] at aB;obtain⟨h0,h1⟩:=aB;rw[Kerb.Mm h0 h1,Kerb.Mn h0 h1];unfold Kerb.bp;cases Kerb.nh (Kerb.lg k)
 ·rfl
 cases Kerb.k_ (Kerb.kq k)<;>rfl
theorem aaG:Wk 208 2 z_:=by
 refine cw Tryz.func208 rfl fun xs bl r h=> ?_;unfold z_ at h;split at h;case h_2=>cases h
 rename_i b pos k aq;obtain⟨aB,rfl⟩:=dz h;refine cu (Zj (vW [Zg b,Zy .i64 pos,Zy .i64 k] []) (kI .i64 fun n=>aD (!n==0) (Zp (Yq [Zy .i64 0,Zy .i64 0,Zy .i64 n],[])) (Zj (bw (fun st=>bq st fun b r=>ak .i64 r fun n r=>ak .i64 r fun bn r=>aE r fun cG r=>ak .i64 r fun b_ r=>ak .i64 r fun eO r=>ak .i64 r fun bY r=>aw r (aD (Zv (bY<eO)) (aD cG (az (Zv (0<=Zz .i64 (n+Zz .i64 (Zz .i64 (bn-1)-bY)))&&Zv (Zz .i64 (n+Zz .i64 (Zz .i64 (bn-1)-bY))<(↑(Zx b):Int))) (Zp (Xu [Zg b,Zy .i64 n,Zy .i64 bn,Zq cG,Zy .i64 (Zz .i64 (↑(BitVec.toNat (BitVec.ofInt (Zd .i64) (Zz .i64 (b_*2 ^ min (Zw 8) (Zd .i64))) ||| BitVec.ofInt (Zd .i64) (Zz .i64 (↑(Zb (Zm b (Zw (Zz .i64 (n+Zz .i64 (Zz .i64 (bn-1)-bY)))) (0:UInt8))):Int)))):Int)),Zy .i64 eO,Zy .i64 (Zz .i64 (bY+1))]))) (az (Zv (0<=Zz .i64 (n+bY))&&Zv (Zz .i64 (n+bY)<(↑(Zx b):Int))) (Zp (Xu [Zg b,Zy .i64 n,Zy .i64 bn,Zq cG,Zy .i64 (Zz .i64 (↑(BitVec.toNat (BitVec.ofInt (Zd .i64) (Zz .i64 (b_*2 ^ min (Zw 8) (Zd .i64))) ||| BitVec.ofInt (Zd .i64) (Zz .i64 (↑(Zb (Zm b (Zw (Zz .i64 (n+bY))) (0:UInt8))):Int)))):Int)),Zy .i64 eO,Zy .i64 (Zz .i64 (bY+1))])))) (Zp (Yf (Yu 0,[Zg b,Zy .i64 n,Zy .i64 bn,Zq cG,Zy .i64 b_,Zy .i64 eO,Zy .i64 bY]))))) [Zg b,Zy .i64 pos,Zy .i64 k,Zq aq,Zy .i64 0,Zy .i64 k,Zy .i64 0]) fun(r:Ex×List AV)=>bq (Xj r) fun b eH=>ak .i64 eH fun n eP=>ak .i64 eP fun bn eV=>aE eV fun b fR=>ak .i64 fR fun b_ hZ=>ak .i64 hZ fun eO jj=>ak .i64 jj fun bY kG=>aw kG (jq r.1 Wp fun(j:Nat)=>aD (Xk j 0) (Zp (Yq [Zy .i64 b_,Zy .i64 (Zz .i64 (n+bn)),Zy .i64 0],[])) Wp)))) (by kernel_rfl) ?_;delta kI;dsimp only[vW,aK,bq,aE,dl,ak,bW,dx];simp only[Zf,Qa2] at aB;obtain⟨⟨hb,Ps⟩,my⟩:=aB;simp only[A0];rw[ae (by simpa using hb)];unfold Kerb.get;by_cases hr:Kerb.room b pos k=0
 ·rw[aj (by simp[hr]),Qa1 hr];obtain⟨q1,q2,q3,q4⟩:=Kerb.mg.1 hr;have xk:=Kerb.j6 hr;obtain⟨L,hL⟩:∃ L,L=cond aq (Kerb.cut b pos k).reverse (Kerb.cut b pos k):=⟨_,rfl⟩;have hLl:L.length=k.toNat:=by rw[hL];cases aq<;>simp[xk]
  rw[<-hL];refine bZ (fun i:Nat=>[Zg b,Zy Zu pos,Zy Zu k,Zq aq,Zy Zu (Kerb.lI (L.take i)),Zy Zu k,Zy Zu (i:Int)]) (fun i=>i<=k.toNat) (fun i=>k.toNat-i)
   (fun r=>r=(Yu 0,[Zg b,Zy Zu pos,Zy Zu k,Zq aq,Zy Zu (Kerb.lI L),Zy Zu k,Zy Zu k])) 0 (Wv _) rfl ?_ ?_
  ·intro i hi;simp only[A0];by_cases eY:i<k.toNat
   ·rw[ag (by simp;omega)];have hv:=Kerb.Jc (l:=L.take i) (by simp;omega);have hs:=Kerb.Cj (l:=L) (i:=i) (by omega);have hgd:L.getD i 0=b.getD (cond aq (pos.toNat+(k.toNat-1-i)) (pos.toNat+i)) 0:=by
     rw[hL];cases aq
     ·exact Kerb.En eY
     ·show(Kerb.cut b pos k).reverse.getD i 0=_;rw[Kerb.CP (by omega),xk,Kerb.En (by omega)];rfl
    cases aq
    ·rw[aj rfl,wrap_i64 (n:=pos+(i:Int)) (by omega) (by omega),ae (by simp;omega),show(pos+(i:Int)).toNat=pos.toNat+i from by omega];rw[Kerb.I8 _ hv.1 (by omega),wrap_i64 (n:=(i:Int)+1) (by omega) (by omega)];refine⟨_,rfl,i+1,?_,by omega,by dsimp only;omega⟩;dsimp only;rw[hs,hgd];rfl
    ·rw[ag rfl,wrap_i64 (n:=k-1) (by omega) (by omega),wrap_i64 (n:=k-1-(i:Int)) (by omega) (by omega),wrap_i64 (n:=pos+(k-1-(i:Int))) (by omega) (by omega),ae (by simp;omega),show(pos+(k-1-(i:Int))).toNat=pos.toNat+(k.toNat-1-i) from by omega];rw[Kerb.I8 _ hv.1 (by omega),wrap_i64 (n:=(i:Int)+1) (by omega) (by omega)];refine⟨_,rfl,i+1,?_,by omega,by dsimp only;omega⟩;dsimp only;rw[hs,hgd];rfl
   ·rw[aj (by simp;omega)];refine⟨_,rfl,?_⟩;show _=_;rw[Xm (by omega),show(i:Int)=k from by omega]
  ·rintro r rfl;simp only[A0];rw[ag (Yw _),wrap_i64 (by omega) (by omega)]
 ·rw[ag (by simpa using hr),Qa0 hr]
theorem aaJ:Wk 212 2 NK:=by
 refine cw Tryz.func212 rfl fun xs bl r h=> ?_;unfold NK at h;split at h;case h_2=>cases h
 rename_i s c;cases h;refine cu (Zp (Zy .i64 (Yx c s),[])) (by kernel_rfl) ?_;rfl
theorem aaO:Wk 217 2 NM:=by
 refine cw Tryz.func217 rfl fun xs bl r h=> ?_;unfold NM at h;split at h;case h_2=>cases h
 rename_i els;obtain⟨aB,rfl⟩:=dz h;refine cu (Zj (bw (fun st=>bW 1 st fun b r=>ak .i64 r fun n r=>bW 1 r fun cG r=>ak .i64 r fun bn r=>ak .i64 r fun b_ r=>aw r (aD (Zv (b_<bn)) (az (Zv (0<=b_)&&Zv (b_<(↑(Zx cG):Int))&&Yv) (AV.eA (Zm cG (Zw b_) Xw) fun eQ=>aD (Zv (Zz .i64 (n+(↑(Zx eQ):Int))<0)) Wp (Zp (Xu [Yb 1 b,Zy .i64 (Zz .i64 (n+(↑(Zx eQ):Int))),Yb 1 cG,Zy .i64 bn,Zy .i64 (Zz .i64 (b_+1))])))) (Zp (Yf (Yu 0,[Yb 1 b,Zy .i64 n,Yb 1 cG,Zy .i64 bn,Zy .i64 b_]))))) [Yb 1 els,Zy .i64 0,Yb 1 els,Zy .i64 (↑(Zx els):Int),Zy .i64 0]) fun(r:Ex×List AV)=>bW 1 (Xj r) fun b eH=>ak .i64 eH fun n eP=>bW 1 eP fun cG eV=>ak .i64 eV fun bn fR=>ak .i64 fR fun b_ hZ=>aw hZ (jq r.1 Wp fun(j:Nat)=>aD (Xk j 0) (Zj (Gp [AV.cK,Zy .i64 n] []) (kO fun l=>Zj (bw (fun st=>ay st fun x r=>AV.eG x fun b=>bW 1 r fun eQ r=>ak .i64 r fun n r=>ak .i64 r fun eO r=>aw r (aD (Zv (eO<n)) (az (Zv (0<=eO)&&Zv (eO<(↑(Zx eQ):Int))&&Yv) (AV.eA (Zm eQ (Zw eO) Xw) fun eZ=>az (room (Zx b+Zx eZ) 1) (Zp (Xu [Yg (b++eZ),Yb 1 eQ,Zy .i64 n,Zy .i64 (Zz .i64 (eO+1))])))) (Zp (Yf (Yu 2,[Yg b,Yb 1 eQ,Zy .i64 n,Zy .i64 eO]))))) [Yg l,Yb 1 b,Zy .i64 (↑(Zx b):Int),Zy .i64 0]) fun(r:Ex×List AV)=>ay (Xj r) fun x jj=>AV.eG x fun b=>bW 1 jj fun eQ kG=>ak .i64 kG fun n mT=>ak .i64 mT fun n mf=>aw mf (jq r.1 Wp fun(j:Nat)=>aD (Xk j 2) (Zp (Yg b,[])) Wp))) Wp)) (by kernel_rfl) ?_;delta kO;dsimp only[Gp,aK,bq,aE,dl,ak,bW,dx];simp only[Zf,Qa2] at aB;obtain⟨⟨ha,hl⟩,vf⟩:=aB;refine bZ (fun i:Nat=>[Yb 1 els,Zy Zu ((qZ (els.take i)).length:Int),Yb 1 els,Zy Zu (els.length:Int),Zy Zu (i:Int)]) (fun i=>i<=els.length) (fun i=>els.length-i)
  (fun r=>r=(Yu 0,[Yb 1 els,Zy Zu ((qZ els).length:Int),Yb 1 els,Zy Zu (els.length:Int),Zy Zu (els.length:Int)])) 0 (Wv _) rfl ?_ ?_
 ·intro i hi;simp only[A0];by_cases eY:i<els.length
  ·obtain⟨l,h1,h2,h3⟩:=Kerb.yr ha eY;rw[ag (by simp;omega),ae (by simp;omega),Yh,h1,vG,wrap_i64 (n:=((qZ (els.take i)).length:Int)+(l.length:Int)) (by omega) (by omega),aj (by simp;omega),wrap_i64 (by omega) (by omega)];refine⟨_,rfl,i+1,?_,by omega,by dsimp only;omega⟩;dsimp only;rw[h2,List.length_append,Int.natCast_add];rfl
  ·rw[aj (by simp;omega)];refine⟨_,rfl,?_⟩;show _=_;rw[Xm (by omega),show i=els.length from by omega]
 rintro r rfl;simp only[A0];rw[ag (Yw _),ae (by simp;omega)];refine bZ (fun i:Nat=>[Yg (qZ (els.take i)),Yb 1 els,Zy Zu (els.length:Int),Zy Zu (i:Int)]) (fun i=>i<=els.length) (fun i=>els.length-i)
  (fun r=>r=(Yu 2,[Yg (qZ els),Yb 1 els,Zy Zu (els.length:Int),Zy Zu (els.length:Int)])) 0 (Wv _) rfl ?_ ?_
 ·intro i hi;simp only[A0];by_cases eY:i<els.length
  ·obtain⟨l,h1,h2,h3⟩:=Kerb.yr ha eY;rw[ag (by simp;omega),ae (by simp;omega),Yh,h1,vG,ae (Xv (by omega)),wrap_i64 (by omega) (by omega)];refine⟨_,rfl,i+1,?_,by omega,by dsimp only;omega⟩;dsimp only;rw[h2];rfl
  ·rw[aj (by simp;omega)];refine⟨_,rfl,?_⟩;show _=_;rw[Xm (by omega),show i=els.length from by omega]
 rintro r rfl;simp only[A0];rw[ag (Yw _)]
theorem aaZ:Wk 228 2 NR:=by
 refine cw Tryz.func228 rfl fun xs bl r h=> ?_;unfold NR at h;split at h;case h_2=>cases h
 rename_i a b;cases h;refine cu (aD (Zn a 4294967295) (aD (Zn b 4294967295) (Zp (Zq (Zv (a<=b)),[])) (Zp (Zq Yz,[]))) (Zp (Zq Yz,[]))) (by kernel_rfl) ?_;unfold Kerb.period;cases Zn a 4294967295
 ·rfl
 cases Zn b 4294967295<;>rfl
theorem aa6:Wk 240 2 NY:=by
 refine cw Tryz.func240 rfl fun xs bl r h=> ?_;unfold NY at h;split at h;case h_2=>cases h
 rename_i b;cases h;refine cu (aD (Zv ((↑(Zx b):Int)<2)) (Zp (Yq [Zy .i64 0,Zq Yz,Zy .i64 101],[])) (az (Zv (0<(↑(Zx b):Int))) (aD (!Zm b (Zw 0) (0:UInt8)==(4:UInt8)) (Zp (Yq [Zy .i64 0,Zq Yz,Zy .i64 39],[])) (az (Zv (1<(↑(Zx b):Int))) (aD (!Xp (Zz .i64 (Wj (Zz .i64 (↑(Zb (Zm b (Zw 1) (0:UInt8))):Int)) 2))) (Zp (Yq [Zy .i64 0,Zq Yz,Zy .i64 40],[])) (az (Zv (1<(↑(Zx b):Int))) (Zp (Yq [Zy .i64 (Zz .i64 (Wj (Zz .i64 (↑(Zb (Zm b (Zw 1) (0:UInt8))):Int)) 2)),Zq (Zh (Zw (Yy (↑(Zb (Zm b (Zw 1) (0:UInt8))):Int) (↑(Zb (2:UInt8)):Int)))==(1:UInt8)),Zy .i64 0],[])))))))) (by kernel_rfl) ?_;unfold Kerb.dC;by_cases h1:b.length<2
 ·rw[ag (by simp;omega)];simp[h1]
 rw[aj (by simp;omega),ae (by simp;omega),Qa0 h1];by_cases h2:b.getD 0 0=4
 ·have hb:=(b.getD 1 0).toNat_lt;have e:Zz Zu (Wj (Zz Zu ((b.getD (Zw 1) 0).toNat:Int)) 2)=(((b.getD 1 0).toNat / 2:Nat):Int):=by
   rw[show Zw 1=1 from rfl,wrap_i64 (n:=((b.getD 1 0).toNat:Int)) (by omega) (by omega),Wq (by omega),wrap_i64 (by omega) (by omega)];omega
  have e2:(Zh (Zw (Yy ((b.getD (Zw 1) 0).toNat:Int) ((2:UInt8).toNat:Int)))==1)=Zv ((b.getD 1 0).toNat % 2=1):=by
   rw[show Zw 1=1 from rfl,Xz (by omega)];have e3:Zw (((b.getD 1 0).toNat:Int) % ((2:UInt8).toNat:Int))=(b.getD 1 0).toNat % 2:=by
    show Zw (((b.getD 1 0).toNat:Int) % 2)=_;omega
   rw[e3];rcases Nat.mod_two_eq_zero_or_one (b.getD 1 0).toNat with h | h<;>rw[h]<;>rfl
  rw[aj (by simp[h2] at *;exact h2),ae (by simp;omega),Qa0 (by simpa using h2),e,e2];cases hk:Xp (((b.getD 1 0).toNat / 2:Nat):Int)
  ·rfl
  ·rw[Yj,aA,ae (by simp;omega)];rfl
 ·rw[ag (by simpa using h2),Qa1 (by simpa using h2)]
theorem aa8:Wk 242 2 NZ:=by
 refine cw Tryz.func242 rfl fun xs bl r h=> ?_;unfold NZ at h;split at h;case h_2=>cases h
 rename_i k aq;cases h;refine cu (aD (!Xp k) (Zp (Zg [],[])) (aD aq (Zp (Zg [(4:UInt8),Zh (Zw (Zz .u8 (Zz .i64 (Zz .i64 (2*k)+1))))],[])) (Zp (Zg [(4:UInt8),Zh (Zw (Zz .u8 (Zz .i64 (2*k))))],[])))) (by kernel_rfl) ?_;by_cases h:1<=k/\k<=10
 ·have hk:k=1\/k=2\/k=3\/k=4\/k=5\/k=6\/k=7\/k=8\/k=9\/k=10:=by omega
  rcases hk with rfl | rfl | rfl | rfl | rfl | rfl | rfl | rfl | rfl | rfl<;>cases aq<;>rfl
 ·have hk:Xp k=Yz:=by simp[Xp];omega
  by_cases h1:k<1
  ·simp[aD,Xn,hk,h1]
  ·have h2:10<k:=by omega
   simp[aD,Xn,hk,h1,h2]
theorem abm:Wk 260 2 Ah:=by
 refine cw Tryz.func260 rfl fun xs bl r h=> ?_;unfold Ah at h;split at h;case h_2=>cases h
 rename_i x;obtain⟨aB,rfl⟩:=dz h;refine cu (Zj (Gx [Zy .u64 x] []) (kI .i64 fun n=>Zp (Zy .i64 n,[]))) (by kernel_rfl) ?_;delta kI;dsimp only[Gx,aK,bq,aE,dl,ak,bW,dx];simp only[Kerb.Dk,Bool.true_and,Zf,Qa2] at aB;rw[ae (by simp;omega)];rfl
theorem abw:Wk 269 2 N8:=by
 refine cw Tryz.func269 rfl fun xs bl r h=> ?_;unfold N8 at h;split at h;case h_2=>cases h
 rename_i x y;cases h;refine cu (Zp (Zq (Zv (x<y)),[])) (by kernel_rfl) ?_;rfl
theorem abH:Wk 281 2 Oa:=by
 refine cw Tryz.func281 rfl fun xs bl r h=> ?_;unfold Oa at h;split at h;case h_2=>cases h
 rename_i s c;cases h;refine cu (Zp (Zy .i64 (Yx c s),[])) (by kernel_rfl) ?_;rfl
theorem w25:Wk 25 3 N1:=by
 refine cw Tryz.func25 rfl fun xs bl r h=> ?_;unfold N1 at h;split at h;case h_2=>cases h
 rename_i li mu kv rl tk au;obtain⟨aB,rfl⟩:=dz h;refine cu (Zj (DI [Zk rl] []) (kL fun b=>aD (!b) (Zp (Yq [Zg [],Zy .i64 103],[])) (aD (!Zn kv 255) (Zp (Yq [Zg [],Zy .i64 104],[])) (aD (Zv ((↑(Zx tk):Int)>255)) (Zp (Yq [Zg [],Zy .i64 105],[])) (aD (Zv ((↑(Zx au):Int)>255)) (Zp (Yq [Zg [],Zy .i64 105],[])) (aD mu (Zj (hJ [Zg (Xn 4 li),Zy .i64 kv] []) (kO fun l=>Zj (oa [Zg l,Zk rl] []) (kO fun l=>Zj (hJ [Zg l,Zy .i64 (↑(Zx tk):Int)] []) (kO fun l=>Zj (hJ [Zg l,Zy .i64 (↑(Zx au):Int)] []) (kO fun l=>az (room (Zx l+Zx tk) 1) (az (room (Zx (l++tk)+Zx au) 1) (Zp (Yq [Zg (l++tk++au),Zy .i64 0],[])))))))) (Zj (hJ [Zg (Xn 3 li),Zy .i64 kv] []) (kO fun l=>Zj (oa [Zg l,Zk rl] []) (kO fun l=>Zj (hJ [Zg l,Zy .i64 (↑(Zx tk):Int)] []) (kO fun l=>Zj (hJ [Zg l,Zy .i64 (↑(Zx au):Int)] []) (kO fun l=>az (room (Zx l+Zx tk) 1) (az (room (Zx (l++tk)+Zx au) 1) (Zp (Yq [Zg (l++tk++au),Zy .i64 0],[])))))))))))))) (by kernel_rfl) ?_;delta kO kL;dsimp only[DI,hJ,oa,aK,bq,aE,dl,ak,bW,dx];simp only[A0,Xh,Wz,Kerb.eE.av,aB];unfold Kerb.cI;simp only;cases h1:Kerb.cY rl
 ·rfl
 rw[Yj,aA,Qa0 (by simp)];cases h2:Zn kv 255
 ·rfl
 rw[Yj,aA,Qa0 (by simp)];by_cases h3:255<tk.length
 ·rw[ag (by simp;omega),Qa1 (.inl h3)]
 rw[aj (by simp;omega)];by_cases h4:255<au.length
 ·rw[ag (by simp;omega),Qa1 (.inr h4)]
 rw[aj (by simp;omega),Qa0 (by omega)];have l1:=Kerb.gw h1;have g3:=Kerb.jg 3 li;have g4:=Kerb.jg 4 li;cases mu
 ·rw[aA,ae (by simp;omega),ae (by simp[Yd];omega),ae (by simp[Yd,Kerb.bH];omega),ae (by simp[Yd,Kerb.bH];omega),ae (Xv (by simp[Yd,Kerb.bH];omega)),ae (Xv (by simp[Yd,Kerb.bH];omega))];rfl
 ·rw[cc,ae (by simp;omega),ae (by simp[Yd];omega),ae (by simp[Yd,Kerb.bH];omega),ae (by simp[Yd,Kerb.bH];omega),ae (Xv (by simp[Yd,Kerb.bH];omega)),ae (Xv (by simp[Yd,Kerb.bH];omega))];rfl
theorem w36:Wk 36 3 H6:=by
 refine cw Tryz.func36 rfl fun xs bl r h=> ?_;unfold H6 at h;split at h;case h_2=>cases h
 rename_i n;obtain⟨aB,rfl⟩:=dz h;refine cu (az (Zv (0<=Yy n 3)&&Zv (Yy n 3<(↑(Zx [Zk [(97:UInt8),(110:UInt8),(110:UInt8)],Zk [(98:UInt8),(111:UInt8),(98:UInt8)],Zk [(99:UInt8),(97:UInt8),(116:UInt8)]]):Int))&&Yv) (AV.gq (Zm [Zk [(97:UInt8),(110:UInt8),(110:UInt8)],Zk [(98:UInt8),(111:UInt8),(98:UInt8)],Zk [(99:UInt8),(97:UInt8),(116:UInt8)]] (Zw (Yy n 3)) Xw) fun b=>Zj (zY [Zy .i64 (Zz .i64 (Wj n 3))] []) (kS fun cG=>Zp (AV.agg [Zk b,Zk [],Zk cG],[])))) (by kernel_rfl) ?_;delta kS;dsimp only[zY,aK,bq,aE,dl,ak,bW,dx];have hn:0<=n:=by first | exact Qa3 aB | (simp only[Zf,Qa2] at aB;exact aB.1)
 have ht:Yy n 3=n % 3:=Xz hn;have vg:n % 3=0\/n % 3=1\/n % 3=2:=by omega
 simp only[Zf,Qa2] at aB;have hd:Wj n 3=n / 3:=Wq hn;rw[hd,wrap_i64 (by omega) (by omega)];have hq:Zv ((0:Int)<=n / 3)=Yv:=by simp;omega
 rcases vg with e | e | e<;>simp[ht,e,az,AV.gq,Kerb.user,hq,aN]<;>omega
theorem w40:Wk 40 3 Sc:=by
 refine cw Tryz.func40 rfl fun xs bl r h=> ?_;unfold Sc at h;split at h;case h_2=>cases h
 rename_i s li;cases h;refine cu (aD (Zv ((↑(Zx s):Int)>1012)) (Zp (Yq [Zg [],Zy .i64 105],[])) (Zj (ku [Zg (Xn 8 li),Zy .i64 (↑(Zx s):Int),Zq li] []) (kO fun l=>az (room (Zx l+Zx s) 1) (Zp (Yq [Zg (l++s),Zy .i64 0],[]))))) (by kernel_rfl) ?_;delta kO;dsimp only[ku,aK,bq,aE,dl,ak,bW,dx];unfold Kerb.dM;by_cases h:1012<s.length
 ·rw[ag (by simp;omega),Qa1 h]
 rw[aj (by simp;omega),Qa0 h];have hl:(Xn 8 li).length=2:=by cases li<;>rfl
 simp only[↓A0];rw[ae (by simp[hl]),ae (by simp[room,Yd,hl];omega)]
theorem w42:Wk 42 3 Se:=by
 refine cw Tryz.func42 rfl fun xs bl r h=> ?_;unfold Se at h;split at h;case h_2=>cases h
 rename_i op cd bx;cases h;refine cu (let t0:Option (AV×aC):=Zj (hJ [Zg (Xn 9 Yz++Wu (Zz .i64 (op+128)) 1 Yz),Zy .i64 cd] []) (kO fun l=>Zj (ku [Zg l,Zy .i64 (↑(Zx bx):Int),Zq Yz] []) (kO fun l=>az (room (Zx l+Zx bx) 1) (Zp (Yq [Zg (l++bx),Zy .i64 0],[]))));aD (Zv (op<1)) (Zp (Yq [Zg [],Zy .i64 40],[])) (aD (Zv (op>3)) (Zp (Yq [Zg [],Zy .i64 40],[])) (aD (Zv (cd<0)) (Zp (Yq [Zg [],Zy .i64 104],[])) (aD (Zv (cd>99)) (Zp (Yq [Zg [],Zy .i64 104],[])) (aD (Zv ((↑(Zx bx):Int)>1012)) (Zp (Yq [Zg [],Zy .i64 105],[])) (aD (!cd==0) (aD (Zv ((↑(Zx bx):Int)>0)) (Zp (Yq [Zg [],Zy .i64 108],[])) t0) t0)))))) (by kernel_rfl) ?_;delta kO;dsimp only[hJ,ku,aK,bq,aE,dl,ak,bW,dx];simp only[A0];have p8:(Xn 9 Yz).length=2:=rfl;unfold Kerb.cg;simp only;by_cases h0:1<=op/\op<=3;case neg =>
  have e:Kerb.ld op=Yz:=by simp[Kerb.ld];omega
  rw[e];by_cases h1:op<1
  ·rw[ag (by simpa using h1)];rfl
  ·rw[aj (by simpa using h1),ag (by simp;omega)];rfl
 have e:Kerb.ld op=Yv:=by simp[Kerb.ld];omega
 rw[e,aj (by simp;omega),aj (by simp;omega),Qa0 (by simp)];by_cases h1:0<=cd/\cd<=99;case neg =>
  have e:Zn cd 99=Yz:=by simp[Zn];omega
  rw[e];by_cases h2:cd<0
  ·rw[ag (by simpa using h2)];rfl
  ·rw[aj (by simpa using h2),ag (by simp;omega)];rfl
 have e:Zn cd 99=Yv:=by simp[Zn];omega
 rw[e,aj (by simp;omega),aj (by simp;omega),Qa0 (by simp)];by_cases h2:1012<bx.length
 ·rw[ag (by simp;omega),Qa1 h2]
 rw[aj (by simp;omega),Qa0 h2,wrap_i64 (by omega) (by omega)];by_cases h3:cd=0
 ·rw[aj (by simp[h3]),Qa0 (by simp[h3]),ae (by simp[Yd,p8]),ae (by simp[Yd,p8]),ae (Xv (by simp[Yd,p8];omega))];rfl
 rw[ag (by simpa using h3)];by_cases h4:bx=[]
 ·rw[aj (by simp[h4]),Qa0 (by simp[h4]),ae (by simp[Yd,p8]),ae (by simp[Yd,p8]),ae (Xv (by simp[Yd,p8];omega))];rfl
 ·rw[ag (by have:=List.length_pos_iff.2 h4;simp;omega),Qa1 ⟨h3,h4⟩]
theorem w59:Wk 59 3 Oi:=by
 refine cw Tryz.func59 rfl fun xs bl r h=> ?_;unfold Oi at h;split at h;case h_2=>cases h
 rename_i n;obtain⟨aB,rfl⟩:=dz h;refine cu (let t1:List AV:=[AV.agg [Zk [(109:UInt8),(97:UInt8),(105:UInt8),(108:UInt8)],Zk [],Zk []],AV.agg [Zk [(110:UInt8),(102:UInt8),(115:UInt8)],Zk [(104:UInt8),(111:UInt8),(109:UInt8),(101:UInt8)],Zk []],AV.agg [Zk ([107,114,98,116,103,116]:List UInt8),Zk [(65:UInt8),(84:UInt8),(72:UInt8)],Zk []]];let t0:Int:=(↑(Zx t1):Int);az (Zv (0<=Yy n 3)&&Zv (Yy n 3<t0)&&Yv) (AV.eu (Zm t1 (Zw (Yy n 3)) Xw) fun cs=>aK cs fun b r=>aK r fun cG r=>aK r fun eQ r=>aw r (Zj (zY [Zy .i64 (Zz .i64 (Wj n 3))] []) (kS fun eZ=>Zp (AV.agg [Zk b,Zk cG,Zk eZ],[]))))) (by kernel_rfl) ?_;delta kS;dsimp only[zY,aK,bq,aE,dl,ak,bW,dx];have hn:0<=n:=by first | exact Qa3 aB | (simp only[Zf,Qa2] at aB;exact aB.1)
 have ht:Yy n 3=n % 3:=Xz hn;have vg:n % 3=0\/n % 3=1\/n % 3=2:=by omega
 simp only[Zf,Qa2] at aB;have hd:Wj n 3=n / 3:=Wq hn;rw[hd,wrap_i64 (by omega) (by omega)];have hq:Zv ((0:Int)<=n / 3)=Yv:=by simp;omega
 rcases vg with e | e | e<;>simp[ht,e,az,AV.gq,AV.eu,ay,aw,Kerb.service,hq,aN]<;>omega
theorem w67:Wk 67 3 Om:=by
 refine cw Tryz.func67 rfl fun xs bl r h=> ?_;unfold Om at h;split at h;case h_2=>cases h
 rename_i lb t st en k;obtain⟨aB,rfl⟩:=dz h;refine cu (let t5:Option (AV×aC):=Zp (Yq [Yg [],Zy .i64 104],[]);let t6:Option (AV×aC):=Zp (Yq [Yg [],Zy .i64 108],[]);let t7:Bool:=lb==[(103:UInt8),(84:UInt8),(75:UInt8),(84:UInt8)];let t4:Option (AV×aC):=Zj (ew [Zg lb,Zy .i64 t,Zq Yz] []) (kO fun l=>aD t7 (Zj (ew [Zg l,Zy .i64 st,Zq Yz] []) (kO fun l=>Zj (ew [Zg l,Zy .i64 en,Zq Yz] []) (kO fun l=>Zj (ie [Zg l] []) (kO fun l=>Zp (Yq [Yg l,Zy .i64 0],[]))))) (Zj (lG [Zy .u64 k] []) (kB fun b=>az (room (Zx l+Zx b) 1) (Zj (ie [Zg (l++b)] []) (kO fun l=>Zp (Yq [Yg l,Zy .i64 0],[]))))));let t3:Option (AV×aC):=aD (!t7) (aD (!st==0) t6 (aD (!en==0) t6 t4)) t4;let t2:Option (AV×aC):=aD t7 (aD (!k==0) t6 t3) t3;let t1:Option (AV×aC):=aD (!t7) (Zj (na [Zy .u64 k] []) (kL fun b=>aD (!b) (Zp (Yq [Yg [],Zy .i64 10],[])) t2)) t2;let t0:Option (AV×aC):=aD (!Zn t 4294967295) t5 (aD t7 (aD (!Zn st 4294967295) t5 (aD (!Zn en 4294967295) t5 t1)) t1);aD (lb==[(103:UInt8),(84:UInt8),(71:UInt8),(83:UInt8)]) (aD (!Zn t 4294967295) t5 (aD (!Zn st 4294967295) t5 (aD (!Zn en 4294967295) t5 (aD (!k==0) t6 (Zj (ew [Zg lb,Zy .i64 t,Zq Yz] []) (kO fun l=>Zj (ew [Zg l,Zy .i64 st,Zq Yz] []) (kO fun l=>Zj (ew [Zg l,Zy .i64 en,Zq Yz] []) (kO fun l=>Zj (ie [Zg l] []) (kO fun l=>Zp (Yq [Yg l,Zy .i64 0],[])))))))))) (aD (!t7) (aD (!lb==[(67:UInt8),(80:UInt8),(87:UInt8),(108:UInt8)]) (Zp (Yq [Yg [],Zy .i64 80],[])) t0) t0)) (by kernel_rfl) ?_;delta kB kO kL;dsimp only[ew,na,lG,ie,aK,bq,aE,dl,ak,bW,dx];have Pd:([103,84,71,83]:List UInt8)=Kerb.vt:=rfl;have Iy:([103,84,75,84]:List UInt8)=Kerb.ll:=rfl;have LA:([67,80,87,108]:List UInt8)=Kerb.gX:=rfl;have Et:([67,80,87,100]:List UInt8)=Kerb.pq:=rfl;have Pe:([116,103,115,84]:List UInt8)=Kerb.zk:=rfl;have CE:([116,107,116,71]:List UInt8)=Kerb.qa:=rfl;simp only[A0,LA,Pd,Iy,aB];unfold Kerb.aW;simp only;cases hg:(lb==Kerb.vt);case true =>
  have ht:Kerb.iR lb=Yv:=by simp[Kerb.iR,hg]
  have hl:lb.length=4:=by rw[Qa9 hg];rfl
  simp only[ht,cc,Yj,Bool.false_and];rw[Qa0 (by simp)];cases h1:Zn t 4294967295
  ·rfl
  rw[Yj,aA,Qa0 (by simp),Qa1 trivial];cases h2:Zn st 4294967295
  ·rfl
  rw[Yj,aA];cases h3:Zn en 4294967295
  ·rfl
  rw[Yj,aA,Qa0 (by simp)];by_cases h4:k=0;case neg=>rw[ag (by simpa using h4),Qa1 h4]
  rw[aj (by simp[h4]),Qa0 (by simp[h4]),ae (by simp;omega),ae (by simp[Yd];omega),ae (by simp[Yd];omega),ae (by simp[Yd];omega)]
 cases hk:(lb==Kerb.ll);case true =>
  have ht:Kerb.iR lb=Yv:=by simp[Kerb.iR,hk]
  have hl:lb.length=4:=by rw[Qa9 hk];rfl
  simp only[ht,cc,aA,Yj,Bool.false_and];rw[Qa0 (by simp)];cases h1:Zn t 4294967295
  ·rfl
  rw[Yj,aA,Qa0 (by simp),Qa1 trivial];cases h2:Zn st 4294967295
  ·rfl
  rw[Yj,aA];cases h3:Zn en 4294967295
  ·rfl
  rw[Yj,aA,Qa0 (by simp)];by_cases h4:k=0;case neg=>rw[ag (by simpa using h4),Qa1 h4]
  rw[aj (by simp[h4]),Qa0 (by simp[h4]),ae (by simp;omega),ae (by simp[Yd];omega),ae (by simp[Yd];omega),ae (by simp[Yd];omega)]
 have ht:Kerb.iR lb=Yz:=by simp[Kerb.iR,hg,hk]
 simp only[ht,cc,aA,Bool.not_false,Bool.true_and];cases hc:(lb==Kerb.gX)
 ·rfl
 have hl:lb.length=4:=by rw[Qa9 hc];rfl
 rw[Yj,aA,Qa0 (by simp)];cases h1:Zn t 4294967295
 ·rfl
 rw[Yj,aA,Qa0 (by simp),Qa0 (by simp)];cases h2:Kerb.bp k
 ·rfl
 rw[Yj,aA,Qa0 (by simp)];by_cases h3:st=0;case neg=>rw[ag (by simpa using h3),Qa1 (.inl h3)]
 rw[aj (by simp[h3])];by_cases h4:en=0;case neg=>rw[ag (by simpa using h4),Qa1 (.inr h4)]
 rw[aj (by simp[h4]),Qa0 (by simp[h3,h4]),ae (by simp;omega),ae (Xv (by simp[Yd,Kerb.ah];omega)),ae (by simp[Yd,Kerb.ah];omega)]
theorem w71:Wk 71 3 H8:=by
 refine cw Tryz.func71 rfl fun xs bl r h=> ?_;unfold H8 at h;split at h;case h_2=>cases h
 rename_i kd k bd;obtain⟨aB,rfl⟩:=dz h;refine cu (let t0:List UInt8:=[Zh (Zw (Zz .u8 (Xx (↑(Zx bd):Int) (2 ^ min (Zw 8) (Zd .i64))))),Zh (Zw (Zz .u8 (↑(Zx bd):Int)))];let t1:List UInt8:=[(66:UInt8),Zh (Zw (Zz .u8 kd))];aD (Zv (kd<1)) (Zp (Yq [Zg [],Zy .i64 104],[])) (aD (Zv (kd>10)) (Zp (Yq [Zg [],Zy .i64 104],[])) (Zj (na [Zy .u64 k] []) (kL fun b=>aD (!b) (Zp (Yq [Zg [],Zy .i64 10],[])) (aD (Zv ((↑(Zx bd):Int)>1000)) (Zp (Yq [Zg [],Zy .i64 105],[])) (Zj (lG [Zy .u64 k] []) (kB fun b=>az (room (Zx t1+Zx b) 1) (az (room (Zx (t1++b)+Zx t0) 1) (az (room (Zx (t1++b++t0)+Zx bd) 1) (Zp (Yq [Zg (t1++b++t0++bd),Zy .i64 0],[]))))))))))) (by kernel_rfl) ?_;delta kB kL;dsimp only[na,lG,aK,bq,aE,dl,ak,bW,dx];simp only[A0,Xh,Wz,Kerb.eE.av,aB];unfold Kerb.fN;by_cases k1:1<=kd;case neg =>
  rw[ag (by simp;omega),Qa1 (by simp[Xp];omega)]
 by_cases k2:kd<=10;case neg =>
  rw[aj (by simp;omega),ag (by simp;omega),Qa1 (by simp[Xp];omega)]
 rw[aj (by simp;omega),aj (by simp;omega),Qa0 (by simp[Xp];omega)];cases h2:Kerb.bp k
 ·rfl
 rw[Yj,aA,Qa0 (by simp)];by_cases h3:1000<bd.length
 ·rw[ag (by simp;omega),Qa1 h3]
 have lk:=Kerb.ah k;rw[aj (by simp;omega),Qa0 h3,ae (Xv (by simp;omega)),ae (Xv (by simp;omega)),ae (Xv (by simp;omega)),Kerb.KS,Kerb.wrap_u8,Int.emod_eq_of_lt (by omega) (by omega)]
theorem w97:Wk 97 3 xc:=by
 refine cw Tryz.func97 rfl fun xs bl r h=> ?_;unfold xc at h;split at h;case h_2=>cases h
 rename_i k;obtain⟨aB,rfl⟩:=dz h;refine cu (Zj (z7 [Zy .u64 k] []) (kT fun vs=>ak .i64 vs fun n r=>ak .i64 r fun n r=>aE r fun b r=>aw r (Zp (Zq b,[])))) (by kernel_rfl) ?_;delta kT;dsimp only[z7,aK,bq,aE,dl,ak,bW,dx];simp only[A0];rw[ae aB]
theorem Za:Wk 106 3 jm:=by
 refine cw Tryz.func106 rfl fun xs bl r h=> ?_;unfold jm at h;split at h;case h_2=>cases h
 rename_i a b c;obtain⟨aB,rfl⟩:=dz h;refine cu (Zj (sj [Zk a] []) (kL fun cG=>aD cG (Zj (sk [Zk b] []) (kL fun b=>aD b (Zj (DI [Zk c] []) (kL fun b=>Zp (Zq b,[]))) (Zp (Zq Yz,[])))) (Zp (Zq Yz,[])))) (by kernel_rfl) ?_;delta kL;dsimp only[DI,sj,sk,aK,bq,aE,dl,ak,bW,dx];simp only[Zf,Qa2] at aB;simp only[A0];rw[ae (by simp;omega),ae (by simp;omega),ae (by simp;omega)];simp only[Kerb.aY.valid];cases Kerb.validName a<;>cases Kerb.bO b<;>rfl
theorem ZB:Wk 116 3 xH:=by
 refine cw Tryz.func116 rfl fun xs bl r h=> ?_;unfold xH at h;split at h;case h_2=>cases h
 rename_i b s li;obtain⟨aB,rfl⟩:=dz h;refine cu (Zj (ku [Zg b,Zy .i64 (↑(Zx s):Int),Zq li] []) (kO fun l=>az (room (Zx l+Zx s) 1) (Zp (Zg (l++s),[])))) (by kernel_rfl) ?_;delta kO;dsimp only[ku,aK,bq,aE,dl,ak,bW,dx];simp only[Zf,Qa2] at aB;simp only[A0,Xh,Wz,Kerb.eE.av];rw[ae (by simp;omega),ae (Xv (by simp[Yd];omega))];rfl
theorem ZQ:Wk 141 3 Nq:=by
 refine cw Tryz.func141 rfl fun xs bl r h=> ?_;unfold Nq at h;split at h;case h_2=>cases h
 rename_i b aq;obtain⟨aB,rfl⟩:=dz h;refine cu (aD aq (Zj (hJ [Zg b,Zy .i64 1] []) (kO fun l=>Zp (Yg l,[]))) (Zj (hJ [Zg b,Zy .i64 0] []) (kO fun l=>Zp (Yg l,[])))) (by kernel_rfl) ?_;delta kO;dsimp only[hJ,aK,bq,aE,dl,ak,bW,dx];simp only[A0];rw[ae aB,ae aB];cases aq<;>rfl
theorem ZS:Wk 143 3 z0:=by
 refine cw Tryz.func143 rfl fun xs bl r h=> ?_;unfold z0 at h;split at h;case h_2=>cases h
 rename_i k;obtain⟨aB,rfl⟩:=dz h;refine cu (Zj (na [Zy .u64 k] []) (kL fun b=>aD (!b) (Zp (Zy .i64 0,[])) (Zp (Zy .i64 (Zz .i64 (Xx k (2 ^ min (Zw 56) (Zd .u64)))),[])))) (by kernel_rfl) ?_;delta kL;dsimp only[na,aK,bq,aE,dl,ak,bW,dx];simp only[aB,↓A0,A0];unfold Kerb.gx;cases hk:Kerb.bp k
 ·rfl
 simp only[Yj,Bool.not_false,cc,aA];simp only[Zf,Qa2] at aB;have h7:(min (Zw 56) (Zd .u64))=56:=rfl;rw[h7,Int.fdiv_eq_ediv_of_nonneg _ (by decide),wrap_i64 (by omega) (by omega)];rfl
theorem ZU:Wk 145 3 sm:=by
 refine cw Tryz.func145 rfl fun xs bl r h=> ?_;unfold sm at h;split at h;case h_2=>cases h
 rename_i b pos;obtain⟨aB,rfl⟩:=dz h;refine cu (Jf [Zg b,Zy .i64 pos,Zy .i64 1,Zq Yz] fun n bn b_=>Zp (Yq [Zy .i64 n,Zy .i64 bn,Zy .i64 b_],[])) (by kernel_rfl) ?_;unfold Jf;delta kT;dsimp only[z_,aK,bq,aE,dl,ak,bW,dx];simp only[A0];rw[ae (by rw[aB];rfl)]
theorem ZW:Wk 147 3 tw:=by
 refine cw Tryz.func147 rfl fun xs bl r h=> ?_;unfold tw at h;split at h;case h_2=>cases h
 rename_i b pos aq;obtain⟨aB,rfl⟩:=dz h;refine cu (Jf [Zg b,Zy .i64 pos,Zy .i64 4,Zq aq] fun n bn b_=>Zp (Yq [Zy .i64 n,Zy .i64 bn,Zy .i64 b_],[])) (by kernel_rfl) ?_;unfold Jf;delta kT;dsimp only[z_,aK,bq,aE,dl,ak,bW,dx];simp only[A0];rw[ae (by rw[aB];rfl)]
theorem ZZ:Wk 150 3 vQ:=by
 refine cw Tryz.func150 rfl fun xs bl r h=> ?_;unfold vQ at h;split at h;case h_2=>cases h
 rename_i b pos;obtain⟨aB,rfl⟩:=dz h;refine cu (let t5:List UInt8:=Xb (Zw pos) (Xd (Zw (↑(Zx b):Int)) b);let t6:Option (AV×aC):=Zp (Yq [Zk [],Zy .i64 0,Zy .i64 105],[]);let t7:Option (AV×aC):=Zp (Yq [Zk [],Zy .i64 0,Zy .i64 101],[]);let t1:Int:=Yx (0:UInt8) t5;let t2:Int:=(↑(Zx t5):Int);let t4:List UInt8:=Xb (Zw (↑(0:Nat):Int)) (Xd (Zw 40) t5);let t0:Int:=Yx (0:UInt8) t4;let t3:Int:=(↑(Zx t4):Int);Zj (vW [Zg b,Zy .i64 pos,Zy .i64 0] []) (kI .i64 fun n=>aD (!n==0) (Zp (Yq [Zk [],Zy .i64 0,Zy .i64 n],[])) (az (Zv (0<=pos)&&Zv (pos<=(↑(Zx b):Int))&&Zv ((↑(Zx b):Int)<=(↑(Zx b):Int))) (aD (Zv (t2>40)) (az (Zv (40<=t2)) (aD (Zv (t0>=0)) (az (Zv ((↑(0:Nat):Int)<=t0)&&Zv (t0<=t3)) (Zp (Yq [Zk (Xb (Zw (↑(0:Nat):Int)) (Xd (Zw t0) t4)),Zy .i64 (Zz .i64 (Zz .i64 (pos+t0)+1)),Zy .i64 0],[]))) (aD (t3==40) t6 t7))) (aD (Zv (t1>=0)) (az (Zv ((↑(0:Nat):Int)<=t1)&&Zv (t1<=t2)) (Zp (Yq [Zk (Xb (Zw (↑(0:Nat):Int)) (Xd (Zw t1) t5)),Zy .i64 (Zz .i64 (Zz .i64 (pos+t1)+1)),Zy .i64 0],[]))) (aD (t2==40) t6 t7)))))) (by kernel_rfl) ?_;delta kI;dsimp only[vW,aK,bq,aE,dl,ak,bW,dx];simp only[Qa2] at aB;simp only[A0];rw[ae (by simpa using aB)];have ht:(Xd (Zw (b.length:Int)) b)=b:=by simp
 rw[ht];unfold Kerb.text;by_cases hr:Kerb.room b pos 0=0;case neg =>
  have W6:Kerb.room b pos 0=104:=by
   unfold Kerb.room at hr ⊢;split at hr
   ·rw[Qa1 (by assumption)]
   ·split at hr<;>omega
  rw[ag (by simpa using hr),Qa0 hr,W6]
 obtain⟨q1,q2,_,_⟩:=Kerb.mg.1 hr;rw[aj (by simp[hr]),Qa1 hr,ae (by simp;omega)];obtain⟨R,hR⟩:∃ R,R=b.drop pos.toNat:=⟨_,rfl⟩;have hRl:R.length=b.length-pos.toNat:=by rw[hR];simp
 rw[<-hR];obtain⟨T,hT⟩:∃ T,T=R.take 40:=⟨_,rfl⟩;have hix:=Kerb.y0 0 T;have key:(aD (Zv (Yx (0:UInt8) T>=(0:Int)))
   (az (Zv (((0:Nat):Int)<=Yx (0:UInt8) T)&&Zv (Yx (0:UInt8) T<=(T.length:Int)))
    (Zp (Yq [Zk (Xb (Zw ((0:Nat):Int)) (Xd (Zw (Yx (0:UInt8) T)) T)),Zy Zu (Zz Zu (Zz Zu (pos+Yx (0:UInt8) T)+(1:Int))),Zy Zu (0:Int)],([]:aC))))
   (aD (((T.length:Int))==(40:Int)) (Zp (Yq [Zk [],Zy Zu (0:Int),Zy Zu (105:Int)],[]))
    (Zp (Yq [Zk [],Zy Zu (0:Int),Zy Zu (101:Int)],[])))) =
   Zp (Yq [Zk (if 0<=Yx 0 T then(⟨T.take (Yx 0 T).toNat,pos+Yx 0 T+1,0⟩:Kerb.K5) else if T.length=40 then⟨[],0,105⟩ else⟨[],0,101⟩).val,
    Zy Zu (if 0<=Yx 0 T then(⟨T.take (Yx 0 T).toNat,pos+Yx 0 T+1,0⟩:Kerb.K5) else if T.length=40 then⟨[],0,105⟩ else⟨[],0,101⟩).next,
    Zy Zu (if 0<=Yx 0 T then(⟨T.take (Yx 0 T).toNat,pos+Yx 0 T+1,0⟩:Kerb.K5) else if T.length=40 then⟨[],0,105⟩ else⟨[],0,101⟩).err],[]):=by
  have hTl:T.length<=b.length-pos.toNat:=by rw[hT];simp;omega
  by_cases hi:0<=Yx 0 T
  ·rw[ag (by simpa using hi),ae (by simp;omega),Qa1 hi,wrap_i64 (n:=pos+Yx 0 T) (by omega) (by omega),wrap_i64 (by omega) (by omega)];rfl
  ·rw[aj (by simp;omega),Qa0 hi];by_cases W8:T.length=40
   ·rw[ag (by simp[W8]),Qa1 W8]
   ·rw[aj (by simp;omega),Qa0 W8]
 by_cases acz:40<R.length
 ·rw[ag (by simp;omega),ae (by simp;omega)];have e1:Xb (Zw ((0:Nat):Int)) (Xd (Zw (40:Int)) R)=T:=by rw[hT];rfl
  rw[e1];rw[<-hT];exact key
 ·rw[aj (by simp;omega)];have e1:R=T:=by rw[hT,Xm (by omega)]
  rw[<-hT,e1];exact key
theorem Z3:Wk 154 3 qF:=by
 refine cw Tryz.func154 rfl fun xs bl r h=> ?_;unfold qF at h;split at h;case h_2=>cases h
 rename_i n B at_ bad;obtain⟨aB,rfl⟩:=dz h;show eb (G.env 154 3) G.rts (G.own 154) Tryz.f154 _ _ [0]=_;refine cu (qH [Zg B,Zy .i64 at_,Zy .i64 n] fun b n bn=>aD (!!(bad || !bn==0)) (Zp (Zg [],[[Zg B,Zy .i64 (bif bad || !bn==0 then at_ else n),Zq (bad || !bn==0)]])) (Zp (Zg b,[[Zg B,Zy .i64 (bif bad || !bn==0 then at_ else n),Zq (bad || !bn==0)]]))) (by kernel_rfl) ?_;unfold qH;delta kT;dsimp only[qE,aK,bq,aE,dl,ak,bW,dx];have hb:=Qa3 aB;simp only[A0];rw[ae (by simp;omega)];unfold Kerb.dw;cases bad
 ·simp only[Bool.false_or];generalize hq:(!(_==(0:Int)))=q;cases q<;>rfl
 ·rfl
theorem aag:Wk 167 3 vS:=by
 refine cw Tryz.func167 rfl fun xs bl r h=> ?_;unfold vS at h;split at h;case h_2=>cases h
 rename_i n B at_ bad;obtain⟨aB,rfl⟩:=dz h;show eb (G.env 167 3) G.rts (G.own 167) Tryz.f167 _ _ [0]=_;refine cu (qH [Zg B,Zy .i64 at_,Zy .i64 n] fun b n bn=>Zp (Zg b,[[Zg B,Zy .i64 (bif bn==0 then n else at_),Zq (bad || !bn==0)]])) (by kernel_rfl) ?_;unfold qH;delta kT;dsimp only[qE,aK,bq,aE,dl,ak,bW,dx];have hb:=Qa3 aB;simp only[A0,Xh,Wz,Kerb.eE.av];rw[ae (by simp;omega)];unfold Kerb.m6;rfl
theorem aap:Wk 185 3 NB:=by
 refine cw Tryz.func185 rfl fun xs bl r h=> ?_;unfold NB at h;split at h;case h_2=>cases h
 rename_i b els;obtain⟨aB,rfl⟩:=dz h;refine cu (aD (!Kerb.Head.err (Kerb.dC b)==0) (Zp (Yq [Zq Yz,Zy .i64 (Kerb.Head.err (Kerb.dC b))],[])) (Zj (Gl [Zy .i64 (Kerb.Head.kind (Kerb.dC b)),Yb 1 els] []) (kL fun cG=>aD (!cG) (Zp (Yq [Zq Yz,Zy .i64 40],[])) (Zp (Yq [Zq (Kerb.Head.aq (Kerb.dC b)),Zy .i64 0],[]))))) (by kernel_rfl) ?_;delta kL;dsimp only[Gl,aK,bq,aE,dl,ak,bW,dx];simp only[A0];unfold Kerb.bc;by_cases h:(Kerb.dC b).err=0
 ·rw[aj (by simp[h]),ae aB];cases hc:(jF els).contains (Kerb.dC b).kind<;>simp[aD,h,hc]
 ·rw[ag (by simpa using h)];simp[h]
theorem aaq:Wk 186 3 vV:=by
 refine cw Tryz.func186 rfl fun xs bl r h=> ?_;unfold vV at h;split at h;case h_2=>cases h
 rename_i b pos aq;obtain⟨aB,rfl⟩:=dz h;refine cu (Jf [Zg b,Zy .i64 pos,Zy .i64 2,Zq aq] fun n bn b_=>Zp (Yq [Zy .i64 n,Zy .i64 bn,Zy .i64 b_],[])) (by kernel_rfl) ?_;unfold Jf;delta kT;dsimp only[z_,aK,bq,aE,dl,ak,bW,dx];simp only[A0];rw[ae (by rw[aB];rfl)]
theorem aaQ:Wk 219 3 oE:=by
 refine cw Tryz.func219 rfl fun xs bl r h=> ?_;unfold oE at h;split at h;case h_2=>cases h
 rename_i b s;obtain⟨aB,rfl⟩:=dz h;refine cu (Zj (az (Zv (Zx (Yp b (Yp s ((0:UInt8)::Yp [] [])))<=140737488355328)&&Zv (Zx [Zg b,Zg s,Zg [(0:UInt8)]]<=1000)) (Zp (Yg (Yp b (Yp s ((0:UInt8)::Yp [] []))),[]))) (kO fun l=>Zp (Yg l,[]))) (by kernel_rfl) ?_;delta kO;simp only[Qa2] at aB;simp only[A0];rw[ae (by simp;omega)];simp[Kerb.bg]
theorem aaR:Wk 220 3 pJ:=by
 refine cw Tryz.func220 rfl fun xs bl r h=> ?_;unfold pJ at h;split at h;case h_2=>cases h
 rename_i b;obtain⟨aB,rfl⟩:=dz h;refine cu (let t0:Int:=Yy (Zz .i64 (8-Yy (↑(Zx b):Int) 8)) 8;az (Zv (0<=t0)&&Zv (t0<=t0)&&Zv (t0<=140737488355328)) (Zj (az (Zv (Zx (Yp b (Yp (Yn (Zw t0) (0:UInt8)) []))<=140737488355328)&&Zv (Zx [Zg b,Zg (Yn (Zw t0) (0:UInt8))]<=1000)) (Zp (Yg (Yp b (Yp (Yn (Zw t0) (0:UInt8)) [])),[]))) (kO fun l=>Zp (Zg l,[])))) (by kernel_rfl) ?_;delta kO;try dsimp only[aK,bq,aE,dl,ak,bW,dx]
 have hb:=Qa3 aB;rw[Kerb.RY hb];simp only[A0];rw[ae (by simp;omega),ae (by simp;omega)];simp[Kerb.pad];omega
theorem aaY:Wk 227 3 Ac:=by
 refine cw Tryz.func227 rfl fun xs bl r h=> ?_;unfold Ac at h;split at h;case h_2=>cases h
 rename_i k;obtain⟨aB,rfl⟩:=dz h;refine cu (Zj (z7 [Zy .u64 k] []) (kT fun vs=>ak .i64 vs fun n r=>ak .i64 r fun bn r=>aE r fun b r=>aw r (Zp (Zy .i64 n,[])))) (by kernel_rfl) ?_;delta kT;dsimp only[z7,aK,bq,aE,dl,ak,bW,dx];simp only[aB,↓A0,A0];rfl
theorem abk:Wk 256 3 vX:=by
 refine cw Tryz.func256 rfl fun xs bl r h=> ?_;unfold vX at h;split at h;case h_2=>cases h
 rename_i b n k aq;obtain⟨aB,rfl⟩:=dz h;refine cu (Zj (bw (fun st=>bq st fun b r=>ak .i64 r fun n r=>ak .i64 r fun bn r=>aE r fun cG r=>bq r fun c r=>ak .i64 r fun b_ r=>ak .i64 r fun eO r=>aw r (aD (Zv (eO<b_)) (aD (!cG) (az (Zv (0<=Zz .i64 (8*eO))) (az (Zv (0<=Zz .i64 (Zz .i64 (bn-1)-eO))&&Zv (Zz .i64 (Zz .i64 (bn-1)-eO)<(↑(Zx c):Int))&&Xk (Zx c) 4&&Yv) (az (Xy (Zw (Zz .i64 (Zz .i64 (bn-1)-eO))) (Zx c)&&Yv&&Yv&&Yv&&Yv) (Zp (Xu [Zg b,Zy .i64 n,Zy .i64 bn,Zq cG,Zg (Xg c (Zw (Zz .i64 (Zz .i64 (bn-1)-eO))) (Zh (Zw (Zz .u8 (Xx n (2 ^ min (Zw (Zz .i64 (8*eO))) (Zd .i64))))))),Zy .i64 b_,Zy .i64 (Zz .i64 (eO+1))]))))) (az (Zv (0<=Zz .i64 (8*eO))) (az (Zv (0<=eO)&&Zv (eO<(↑(Zx c):Int))&&Xk (Zx c) 4&&Yv) (az (Xy (Zw eO) (Zx c)&&Yv&&Yv&&Yv&&Yv) (Zp (Xu [Zg b,Zy .i64 n,Zy .i64 bn,Zq cG,Zg (Xg c (Zw eO) (Zh (Zw (Zz .u8 (Xx n (2 ^ min (Zw (Zz .i64 (8*eO))) (Zd .i64))))))),Zy .i64 b_,Zy .i64 (Zz .i64 (eO+1))])))))) (Zp (Yf (Yu 0,[Zg b,Zy .i64 n,Zy .i64 bn,Zq cG,Zg c,Zy .i64 b_,Zy .i64 eO]))))) [Zg b,Zy .i64 n,Zy .i64 k,Zq aq,Zg [(0:UInt8),(0:UInt8),(0:UInt8),(0:UInt8)],Zy .i64 k,Zy .i64 0]) fun(r:Ex×List AV)=>bq (Xj r) fun b eH=>ak .i64 eH fun n eP=>ak .i64 eP fun n eV=>aE eV fun cG fR=>bq fR fun c hZ=>ak .i64 hZ fun bn jj=>ak .i64 jj fun b_ kG=>aw kG (jq r.1 Wp fun(j:Nat)=>aD (Xk j 0) (az (Zv ((↑(0:Nat):Int)<=n)&&Zv (n<=(↑(Zx c):Int))&&Xk (Zx c) 4) (Zj (az (Zv (Zx (Yp b (Yp (Xb (Zw (↑(0:Nat):Int)) (Xd (Zw n) c)) []))<=140737488355328)&&Zv (Zx [Zg b,Zg (Xb (Zw (↑(0:Nat):Int)) (Xd (Zw n) c))]<=1000)) (Zp (Yg (Yp b (Yp (Xb (Zw (↑(0:Nat):Int)) (Xd (Zw n) c)) [])),[]))) (kO fun l=>Zp (Yg l,[])))) Wp)) (by kernel_rfl) ?_;delta kO;dsimp only[bq,aE,ak];simp only[Zf,Qa2] at aB;obtain⟨hk,hb⟩:=aB;rcases hk with rfl | rfl | rfl<;>cases aq
 ·refine fa 2 (Yu 0,[Zg b,Zy Zu n,Zy Zu 1,Zq Yz,Zg [Yk n 0,(0:UInt8),(0:UInt8),(0:UInt8)],Zy Zu 1,Zy Zu 1]) (by kernel_rfl) ?_;simp only[A0];rw[ag (Yw _),ae (by simp),ae (by simp;omega)];simp[Kerb.qW,Wu,Kerb.fG,Xf]
 ·refine fa 2 (Yu 0,[Zg b,Zy Zu n,Zy Zu 1,Zq Yv,Zg [Yk n 0,(0:UInt8),(0:UInt8),(0:UInt8)],Zy Zu 1,Zy Zu 1]) (by kernel_rfl) ?_;simp only[A0];rw[ag (Yw _),ae (by simp),ae (by simp;omega)];simp[Kerb.qW,Wu,Kerb.fG,Xf]
 ·refine fa 3 (Yu 0,[Zg b,Zy Zu n,Zy Zu 2,Zq Yz,Zg [Yk n 8,Yk n 0,(0:UInt8),(0:UInt8)],Zy Zu 2,Zy Zu 2]) (by kernel_rfl) ?_;simp only[A0];rw[ag (Yw _),ae (by simp),ae (by simp;omega)];simp[Kerb.qW,Wu,Kerb.fG,Xf]
 ·refine fa 3 (Yu 0,[Zg b,Zy Zu n,Zy Zu 2,Zq Yv,Zg [Yk n 0,Yk n 8,(0:UInt8),(0:UInt8)],Zy Zu 2,Zy Zu 2]) (by kernel_rfl) ?_;simp only[A0];rw[ag (Yw _),ae (by simp),ae (by simp;omega)];simp[Kerb.qW,Wu,Kerb.fG,Xf]
 ·refine fa 5 (Yu 0,[Zg b,Zy Zu n,Zy Zu 4,Zq Yz,Zg [Yk n 24,Yk n 16,Yk n 8,Yk n 0],Zy Zu 4,Zy Zu 4]) (by kernel_rfl) ?_;simp only[A0];rw[ag (Yw _),ae (by simp),ae (by simp;omega)];simp[Kerb.qW,Wu,Kerb.fG,Xf]
 ·refine fa 5 (Yu 0,[Zg b,Zy Zu n,Zy Zu 4,Zq Yv,Zg [Yk n 0,Yk n 8,Yk n 16,Yk n 24],Zy Zu 4,Zy Zu 4]) (by kernel_rfl) ?_;simp only[A0];rw[ag (Yw _),ae (by simp),ae (by simp;omega)];simp[Kerb.qW,Wu,Kerb.fG,Xf]
theorem abp:Wk 263 3 Gr:=by
 refine cw Tryz.func263 rfl fun xs bl r h=> ?_;unfold Gr at h;split at h;case h_2=>cases h
 rename_i a b els;obtain⟨aB,rfl⟩:=dz h;show eb (G.env 263 3) G.rts (G.own 263) Tryz.f263 _ _ [0]=_;refine cu (Zj (bw (fun st=>ay st fun x r=>AV.aR x fun y=>ak .i64 r fun n r=>ak .i64 r fun bn r=>ak .i64 r fun b_ r=>aw r (aD (Zv (b_<bn)) (Zj (bw (fun st=>ay st fun x r=>AV.aR x fun y=>ak .i64 r fun n r=>ak .i64 r fun eO r=>ak .i64 r fun bY r=>ak .i64 r fun bF r=>aw r (aD (Zv (bF>n)) (az (Zv (0<=bF)&&Zv (bF<(↑(Zx y):Int))&&Yv) (az (Xy (Zw bF) (Zx y)&&Yv) (AV.ax .u64 (Zm y (Zw bF) Xw) fun fb=>az (Zv (0<=Zz .i64 (bF-1))&&Zv (Zz .i64 (bF-1)<(↑(Zx y):Int))&&Yv) (az (Xy (Zw (Zz .i64 (bF-1))) (Zx y)&&Yv) (AV.ax .u64 (Zm y (Zw (Zz .i64 (bF-1))) Xw) fun eX=>aD (Zv (fb<eX)) (az (Zv (0<=Zz .i64 (bF-1))&&Zv (Zz .i64 (bF-1)<(↑(Zx y):Int))&&Yv) (az (Xy (Zw (Zz .i64 (bF-1))) (Zx y)&&Yv) (AV.ax .u64 (Zm y (Zw (Zz .i64 (bF-1))) Xw) fun gK=>az (Zv (0<=bF)&&Zv (bF<(↑(Zx y):Int))&&Yv) (az (Xy (Zw bF) (Zx y)&&Yv) (AV.ax .u64 (Zm y (Zw bF) Xw) fun kH=>az (Zv (0<=bF)&&Zv (bF<(↑(Zx y):Int))&&Yv) (az (Xy (Zw bF) (Zx y)&&Yv) (AV.ax .u64 (Zm y (Zw bF) Xw) fun lL=>az (Zx [Zy .u64 gK]==nat_lit 1&&Yv&&Yv&&Yv&&Xy (Zw bF) (Zx y)) (az (Zv (0<=Zz .i64 (bF-1))&&Zv (Zz .i64 (bF-1)<(↑(Zx (Xg y (Zw bF) (Zy .u64 gK))):Int))&&Yv) (az (Xy (Zw (Zz .i64 (bF-1))) (Zx (Xg y (Zw bF) (Zy .u64 gK)))&&Yv) (AV.ax .u64 (Zm (Xg y (Zw bF) (Zy .u64 gK)) (Zw (Zz .i64 (bF-1))) Xw) fun gp=>az (Zx [Zy .u64 kH]==nat_lit 1&&Yv&&Yv&&Yv&&Xy (Zw (Zz .i64 (bF-1))) (Zx (Xg y (Zw bF) (Zy .u64 gK)))) (Zp (Xu [Wx (Xg (Xg y (Zw bF) (Zy .u64 gK)) (Zw (Zz .i64 (bF-1))) (Zy .u64 kH)),Zy .i64 n,Zy .i64 eO,Zy .i64 bY,Zy .i64 (Zz .i64 (bF-1))])))))))))))) (Zp (Yf (Yu 2,[Wx y,Zy .i64 n,Zy .i64 eO,Zy .i64 bY,Zy .i64 bF])))))))) (Zp (Yf (Yu 2,[Wx y,Zy .i64 n,Zy .i64 eO,Zy .i64 bY,Zy .i64 bF]))))) [Wx y,Zy .i64 n,Zy .i64 bn,Zy .i64 b_,Zy .i64 b_]) fun(r:Ex×List AV)=>ay (Xj r) fun x eH=>AV.aR x fun y=>ak .i64 eH fun n eP=>ak .i64 eP fun eO eV=>ak .i64 eV fun bY fR=>ak .i64 fR fun bF hZ=>aw hZ (jq r.1 (Zp (Yf (Ex.ret,[Wx y,Zy .i64 n,Zy .i64 eO,Zy .i64 bY]))) fun(j:Nat)=>aD (Xk j 2) (Zp (Xu [Wx y,Zy .i64 n,Zy .i64 eO,Zy .i64 (Zz .i64 (bY+1))])) Wp)) (Zp (Yf (Yu 0,[Wx y,Zy .i64 n,Zy .i64 bn,Zy .i64 b_]))))) [Wx els,Zy .i64 a,Zy .i64 b,Zy .i64 (Zz .i64 (a+1))]) fun(r:Ex×List AV)=>ay (Xj r) fun x eH=>AV.aR x fun y=>ak .i64 eH fun n eP=>ak .i64 eP fun n eV=>ak .i64 eV fun n fR=>aw fR (jq r.1 (Zp (Yq [],[y])) fun(j:Nat)=>aD (Xk j 0) (Zp (Yq [],[y])) Wp)) (by kernel_rfl) ?_;dsimp only[ak];simp only[Zf,Qa2] at aB;obtain⟨⟨⟨⟨fK,hlen⟩,GJ⟩,uu⟩,hb⟩:=aB;obtain⟨d,rfl,hd⟩:=Kerb.lz fK;simp only[Kerb.aT] at hlen hb;unfold Kerb.x7;rw[hd];obtain⟨a,rfl⟩:=Xq GJ;obtain⟨b,rfl⟩:=Xq (show 0<=b by omega);simp only[Yh];rw[show Zz .i64 ((a:Int)+1)=((a+1:Nat):Int) from Kerb.ga (by omega) (by omega)];unfold Go.Sort.insertionSort
 refine bZ (fun s:Array Int×Nat=>[Wx (Ww s.1),Zy .i64 (a:Int),Zy .i64 (b:Int),Zy .i64 (s.2:Int)]) (fun s=>s.1.size=d.size/\s.2<=b+1/\Go.Sort.insOuter Go.Sort.ltInt a b s.2 s.1=Go.Sort.insOuter Go.Sort.ltInt a b (a+1) d) (fun s=>b-s.2) (fun r=>∃ n m k,r=(.exit 0,[Wx (Ww (Go.Sort.insOuter Go.Sort.ltInt a b (a+1) d)),Zy .i64 n,Zy .i64 m,Zy .i64 k])) (d,a+1) ⟨rfl,by dsimp only;omega,rfl⟩ rfl ?_ ?_
 ·rintro⟨e,i⟩ ⟨hs,hi,hr⟩;dsimp only at hs hi hr ⊢;simp only[↓bD,↓bS,↓cL,↓cP];by_cases h:i<b;case neg =>
   rw[aj (by simp;omega)];refine⟨_,rfl,(a:Int),(b:Int),(i:Int),?_⟩;rw[<-hr];unfold Go.Sort.insOuter;rw[Qa0 h]
  rw[ag (by simp;omega)];refine C_ (fun s:Array Int×Nat=>[Wx (Ww s.1),Zy .i64 (a:Int),Zy .i64 (b:Int),Zy .i64 (i:Int),Zy .i64 (s.2:Int)]) (fun s=>s.1.size=d.size/\s.2<=i/\Go.Sort.insInner Go.Sort.ltInt a s.2 s.1=Go.Sort.insInner Go.Sort.ltInt a i e) (fun s=>s.2) (fun r=>∃ k,r=(.exit 2,[Wx (Ww (Go.Sort.insInner Go.Sort.ltInt a i e)),Zy .i64 (a:Int),Zy .i64 (b:Int),Zy .i64 (i:Int),Zy .i64 k])/\(Go.Sort.insInner Go.Sort.ltInt a i e).size=d.size) (e,i) ⟨hs,Nat.le_refl _,rfl⟩ rfl ?_ ?_
  ·rintro⟨f,j⟩ ⟨fJ,hj,ng⟩;dsimp only at fJ hj ng ⊢;simp only[↓bD,↓bS,↓cL,↓cP];have done:Go.Sort.insInner Go.Sort.ltInt a j f=f->∃ y,(Zp (Yf (Yu 2,[Wx (Ww f),Zy .i64 (a:Int),Zy .i64 (b:Int),Zy .i64 (i:Int),Zy .i64 (j:Int)])):Option (List AV ⊕ (Ex×List AV)))=Zp y/\Bf (fun s:Array Int×Nat=>[Wx (Ww s.1),Zy .i64 (a:Int),Zy .i64 (b:Int),Zy .i64 (i:Int),Zy .i64 (s.2:Int)]) (fun s=>s.1.size=d.size/\s.2<=i/\Go.Sort.insInner Go.Sort.ltInt a s.2 s.1=Go.Sort.insInner Go.Sort.ltInt a i e) (fun s=>s.2) (fun r=>∃ k,r=(.exit 2,[Wx (Ww (Go.Sort.insInner Go.Sort.ltInt a i e)),Zy .i64 (a:Int),Zy .i64 (b:Int),Zy .i64 (i:Int),Zy .i64 k])/\(Go.Sort.insInner Go.Sort.ltInt a i e).size=d.size) (f,j) y:=fun q=>by
    refine⟨_,rfl,j,?_,?_⟩
    ·rw[<-ng,q]
    ·rw[<-ng,q];exact fJ
   by_cases hja:j>a;case neg =>
    rw[aj (by simp;omega)];refine done ?_;cases j with
    | zero=>rfl
    | succ j=>simp only[Go.Sort.insInner];rw[Qa0 (by simp;omega)]
   obtain⟨m,rfl⟩:∃ m,j=m+1:=⟨j-1,by omega⟩;have h1:m+1<f.size:=by omega
   have h2:m<f.size:=by omega
   rw[ag (by simp;omega)];simp only[show Zz .i64 (((m+1:Nat):Int)-1)=(m:Int) from(Kerb.ga (by omega) (by omega)).trans (by omega)];rw[Kerb.rd h1,Kerb.rd h2];by_cases eY:f[m+1]! < f[m]!;case neg =>
    rw[aj (by simpa using eY)];refine done ?_;simp only[Go.Sort.insInner];rw[Qa0 (by simp[Go.Sort.ltInt,eY])]
   rw[ag (by simpa using eY),Kerb.sw h1 h2 (fun l=>Zp (Xu [Wx l,Zy .i64 (a:Int),Zy .i64 (b:Int),Zy .i64 (i:Int),Zy .i64 (m:Int)]))];refine⟨_,rfl,(Go.Sort.swp f (m+1) m,m),rfl,⟨by dsimp only;rw[Kerb.swp_size,fJ],by dsimp only;omega,?_⟩,by dsimp only;omega⟩;dsimp only;rw[<-ng];conv=>rhs;simp only[Go.Sort.insInner]
   rw[Qa1 (by simp[Go.Sort.ltInt,eY];omega)]
  ·rintro _ ⟨k,rfl,eR⟩;simp only[↓bD,↓bS,↓cL,↓cP,↓jB];rw[ag (Yw _),show Zz .i64 ((i:Int)+1)=((i+1:Nat):Int) from Kerb.ga (by omega) (by omega)];refine⟨_,rfl,(Go.Sort.insInner Go.Sort.ltInt a i e,i+1),rfl,⟨eR,by dsimp only;omega,?_⟩,by dsimp only;omega⟩;dsimp only;rw[<-hr];conv=>rhs;unfold Go.Sort.insOuter
   rw[Qa1 h]
 ·rintro _ ⟨n,m,k,rfl⟩;simp only[↓bD,↓bS,↓cL,↓cP,↓jB];rw[ag (Yw _)]
end Go.Proofs.YteafbgcimcpfiaaGreat
