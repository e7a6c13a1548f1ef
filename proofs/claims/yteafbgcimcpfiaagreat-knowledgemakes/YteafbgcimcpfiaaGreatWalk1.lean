/- What the functions of this seat compute. -/
import Derived.Test.YteafbgcimcpfiaaGreatTab
set_option linter.all false
open Go.IntKind renaming wrap→Zz,i64→Zu,bits→Zp,u64→Yn
open Go.Abs.AV renaming int→Zy,bool→Zq,str→Zk,bs→Zf,aQ→Yq,bE→Yf,undef→Xu,sl→Xg,aF→Wy
open List renaming length→Zx,getD→Zm,append→Yp,replicate→Yb,take→Xp,range_succ→Xd,set→Xf,drop→Xb,take_of_length_le→Xm
open Int renaming toNat→Zw,tmod→Yz,toNat_natCast→Ym,tmod_eq_emod_of_nonneg→Yh,fdiv→Xy,eq_ofNat_of_zero_le→Xv,tdiv_eq_ediv_of_nonneg→Wu,tdiv→Wq
open Decidable renaming decide→Zv
open Option renaming bind→Zj,some→Zd,none→Wj
open Bool renaming and_eq_true→Zg,false→Yy,true→Yv,not_true→Yj
open UInt8 renaming toNat→Zb,ofNat→Zh
open Kerb renaming within→Zn,indexOf→Yx,tg→Yk,af→Yd,bW→Xx,isKind→Xq,header→Xn,back→Wx,aS→Wv
open Nat renaming beq_refl→Yw,blt→Xz,beq→Xk,zero_le→Ww
open Go.Abs.Ex renaming exit→Yu
open Sum renaming inr→Yg,inl→Xw
open Prod renaming snd→Xj
open Kerb.Client renaming av→Xh
open Kerb.Cache renaming av→Wz
namespace Go.Proofs.YteafbgcimcpfiaaGreat
open Go Go.Abs Go.Proofs
set_option maxRecDepth 100000
theorem w17:Wk 17 1 Nq:=by
 refine cA Tryz.func17 rfl fun xs bl r h=> ?_;unfold Nq at h;split at h;case h_2=>cases h
 rename_i ks ls;obtain⟨aB,rfl⟩:=dA h;refine cw (aD (!(↑(Zx ks):Int)==(↑(Zx ls):Int)) (Zd (Zq Yy,[])) (Zj (bw (fun st=>ci 1 st fun b r=>ci 1 r fun cL r=>aE r fun eP r=>ak .i64 r fun n r=>aw r (aD (Zv (n<(↑(Zx b):Int))) (az (Zv (0<=n)&&Zv (n<(↑(Zx b):Int))&&Yv) (AV.ax .u64 (Zm b (Zw n) Xu) fun bn=>az (Zv (0<=n)&&Zv (n<(↑(Zx cL):Int))&&Yv) (AV.ax .u64 (Zm cL (Zw n) Xu) fun bT=>aD (!bn==bT) (Zd (Yg (Ex.ret,[Xg 1 b,Xg 1 cL,Zq Yy,Zy .i64 n]))) (Zd (Xw [Xg 1 b,Xg 1 cL,Zq eP,Zy .i64 (Zz .i64 (n+1))]))))) (Zd (Yg (Yu 0,[Xg 1 b,Xg 1 cL,Zq eP,Zy .i64 n]))))) [Xg 1 ks,Xg 1 ls,Zq Yy,Zy .i64 0]) fun(r:Ex×List AV)=>ci 1 (Xj r) fun b eI=>ci 1 eI fun b eS=>aE eS fun b eZ=>ak .i64 eZ fun n f_=>aw f_ (jp r.1 (Zd (Zq b,[])) fun(j:Nat)=>aD (Xk j 0) (Zd (Zq Yv,[])) Wj))) (by kernel_rfl) ?_;dsimp only[aE,ak,ci];simp only[Zg,Qa2] at aB;obtain⟨⟨h1,h2⟩,hn⟩:=aB;obtain⟨l,rfl⟩:=Kerb.Dl h1;obtain⟨m,rfl⟩:=Kerb.Dl h2;rw[Kerb.ef] at hn;rw[Kerb.pM,Kerb.pM,Kerb.ef,Kerb.ef];by_cases hlen:l.length=m.length;case neg =>
  have gj:(l==m)=Yy:=by
   cases he:l==m with
   | true=>exact absurd (Qb3 Zx (Qa9 he)) hlen
   | false=>rfl
  rw[ah (by simp;omega),gj]
 rw[aj (by simp;omega)];have e:=Kerb.QK 0 hlen;refine Qb1 (Kerb.ng (A:=(.bool Yy,[])) (B:=(.bool Yv,[])) (fun i=>[.sl 1 (Kerb.cZ l),.sl 1 (Kerb.cZ m),.bool Yy,.int .i64 (i:Int)]) l.length (fun i => !(l.getD i 0==m.getD i 0)) ?_ ?_ ?_ rfl) (by rw[e];cases l==m<;>rfl)
 ·intro i hi hp;have n9:i<m.length:=by omega
  try dsimp only at hp ⊢
  simp only[↓A0,A0,Kerb.P5,Kerb.UB hi,Kerb.UB n9,Kerb.LG hi,Kerb.LG n9,Bool.and_self,Bool.and_true,Kerb.Ax (show i<=1000000000 by omega),hp]
 ·intro i hi hp;have n9:i<m.length:=by omega
  try dsimp only at hp ⊢
  refine⟨(.ret,[.sl 1 (Kerb.cZ l),.sl 1 (Kerb.cZ m),.bool Yy,.int .i64 (i:Int)]),?_,?_⟩;case refine_2=>rfl
  simp only[↓A0,A0,Kerb.P5,Kerb.UB hi,Kerb.UB n9,Kerb.LG hi,Kerb.LG n9,Bool.and_self,Bool.and_true,hp]
 ·refine⟨(.exit 0,[.sl 1 (Kerb.cZ l),.sl 1 (Kerb.cZ m),.bool Yy,.int .i64 (l.length:Int)]),?_,?_⟩;case refine_2=>rfl
  try dsimp only
  simp only[↓A0,A0,Kerb.noK]
theorem w21:Wk 21 1 H2:=by
 refine cA Tryz.func21 rfl fun xs bl r h=> ?_;unfold H2 at h;split at h;case h_2=>cases h
 rename_i n;obtain⟨aB,rfl⟩:=dA h;refine cw (Zd (Zy .u64 (Zz .u64 (↑(BitVec.toNat (BitVec.ofInt (Zp .u64) 144115188075855872 ||| BitVec.ofInt (Zp .u64) (Zz .u64 (Zz .i64 (1+n))))):Int)),[])) (by kernel_rfl) ?_;rfl
theorem w24:Wk 24 1 NR:=by
 refine cA Tryz.func24 rfl fun xs bl r h=> ?_;unfold NR at h;split at h;case h_2=>cases h
 rename_i n;obtain⟨aB,rfl⟩:=dA h;refine cw (Zd (Zy .u64 (Zz .u64 (↑(BitVec.toNat (BitVec.ofInt (Zp .u64) 72057594037927936 ||| BitVec.ofInt (Zp .u64) (Zz .u64 (Zz .i64 (1+n))))):Int)),[])) (by kernel_rfl) ?_;rfl
theorem w46:Wk 46 1 H5:=by
 refine cA Tryz.func46 rfl fun xs bl r h=> ?_;unfold H5 at h;split at h;case h_2=>cases h
 rename_i b how;obtain⟨aB,rfl⟩:=dA h;refine cw (let t0:Int:=Yz (Zz .i64 (Zz .u16 (Wq how 8))) (↑(Zx b):Int);az (room (Zx b) 1) (aD ((↑(Zx b):Int)==0) (Zd (Zf b,[])) (az (!(↑(Zx b):Int)==0) (aD (Yz how 4==0) (az (Zv (0<=t0)&&Zv (t0<(↑(Zx b):Int))) (az (Xz (Zw t0) (Zx b)&&Yv&&Yv&&Yv) (az (Zv (0<=Zz .u64 (Yz how 7))) (az (Zv (0<=t0)&&Zv (t0<(↑(Zx b):Int))) (az (Xz (Zw t0) (Zx b)&&Yv&&Yv&&Yv&&Yv) (Zd (Zf (Xf b (Zw t0) (Zh (Zw (Zz .u8 (↑(BitVec.toNat (BitVec.ofInt (Zp .u8) (↑(Zb (Zm b (Zw t0) (0:UInt8))):Int) ^^^ BitVec.ofInt (Zp .u8) (↑(Zb (Zh (Zw (Zz .u8 ((↑(Zb (1:UInt8)):Int)*2 ^ min (Zw (Zz .u64 (Yz how 7))) 8))))):Int))):Int))))),[]))))))) (aD (Yz how 4==1) (az (Zv (0<=t0)&&Zv (t0<=(↑(Zx b):Int))&&Xz 0 (Zx b)&&Yv) (az (Zv (0<=Zz .i64 (t0+1))&&Zv (Zz .i64 (t0+1)<=(↑(Zx b):Int))&&Xz 0 (Zx b)&&Yv) (az (Xz 0 (Zx b)&&Yv&&Yv&&Yv&&room (Zw t0+(Zx b-Zw (Zz .i64 (t0+1)))) 1) (Zd (Zf (Xp (Zw t0) b++Xb (Zw (Zz .i64 (t0+1))) b),[]))))) (aD (Yz how 4==2) (az (room (Zx b+Zx [Zh (Zw (Zz .u8 how))]) 1) (Zd (Zf (b++[Zh (Zw (Zz .u8 how))]),[]))) (Zd (Zf b,[])))))))) (by kernel_rfl) ?_;try dsimp only[aK,bq,aE,cT,ak,ci,dx]
 simp only[Zg,Qa2] at aB;obtain⟨⟨hb,h0⟩,h1⟩:=aB;rw[ae (Xx (by omega))];unfold Kerb.qJ;by_cases hn:b=[]
 ·subst hn;rfl
 have je:0<b.length:=List.length_pos_iff.2 hn;rw[Qa0 hn,aj (by simp;omega),ae (by simp;omega)];have e:Yz (Zz Zu (Zz IntKind.u16 (Wq how (8:Int)))) (b.length:Int)=Kerb.ns b how:=rfl;rw[e];obtain⟨ha,hc⟩:=Kerb.H7 h0 h1 je;generalize Kerb.ns b how=a at ha hc ⊢;have hd:(Zv ((0:Int)<=a)&&Zv (a<(b.length:Int)))=Yv:=by simp;omega
 have tV:Xz a.toNat b.length=Yv:=Nat.ble_eq_true_of_le (by omega);have Rg:Xz 0 b.length=Yv:=Nat.ble_eq_true_of_le (by omega);have h7:Zv ((0:Int)<=Zz Yn (Yz how (7:Int)))=Yv:=by rw[Kerb.wrap_u64];simp;omega
 by_cases c0:Yz how 4=0
 ·rw[Qa1 c0,ah (by simpa using c0),ae hd,ae (by rw[tV];rfl),ae h7,ae hd,ae (by rw[tV];rfl)]
 rw[Qa0 c0,aj (by simpa using c0)];by_cases c1:Yz how 4=1
 ·rw[Qa1 c1,ah (by simpa using c1),wrap_i64 (n:=a+1) (by omega) (by omega),ae (by rw[Rg];simp;omega),ae (by rw[Rg];simp;omega),ae (by rw[Rg,Xx (by omega)];rfl)]
 rw[Qa0 c1,aj (by simpa using c1)];by_cases c2:Yz how 4=2
 ·rw[Qa1 c2,ah (by simpa using c2),ae (Xx (by simp;omega))]
 ·rw[Qa0 c2,aj (by simpa using c2)]
theorem w89:Wk 89 1 xd:=by
 refine cA Tryz.func89 rfl fun xs bl r h=> ?_;unfold xd at h;split at h;case h_2=>cases h
 rename_i n l pos;obtain⟨aB,rfl⟩:=dA h;show ea (G.env 89 1) G.rts (G.own 89) Tryz.f89 _ _ [0]=_;refine cw (aD (Zv (pos>=(↑(Zx l):Int))) (Zd (Zy .i64 0,[[Zf l,Zy .i64 pos]])) (aD (Zv (n<=0)) (Zd (Zy .i64 0,[[Zf l,Zy .i64 pos]])) (az (Zv (0<=pos)&&Zv (pos<(↑(Zx l):Int))) (az (!n==0) (Zd (Zy .i64 (Yz (Zz .i64 (↑(Zb (Zm l (Zw pos) (0:UInt8))):Int)) n),[[Zf l,Zy .i64 (Zz .i64 (pos+1))]])))))) (by kernel_rfl) ?_;simp only[Zg,Qa2] at aB;unfold Kerb.next Kerb.c9;by_cases h1:(l.length:Int)<=pos
 ·simp[aD,h1];omega
 by_cases h2:n<=0
 ·simp[aD,h1,h2];omega
 have h3:¬ n=0:=by omega
 have hb:=(l.getD pos.toNat 0).toNat_lt;rw[aj (by simp;omega),aj (by simp;omega),ae (by simp;omega),ae (by simpa using h3),Qa0 (by omega),Qa0 (by omega),wrap_i64 (by omega) (by omega),wrap_i64 (by omega) (by omega),Yh (by omega),Int.toNat_of_nonneg (by omega)]
theorem w90:Wk 90 1 Sw:=by
 refine cA Tryz.func90 rfl fun xs bl r h=> ?_;unfold Sw at h;split at h;case h_2=>cases h
 rename_i n;obtain⟨aB,rfl⟩:=dA h;refine cw (Zj (bw (fun st=>ak .i64 st fun n r=>aK r fun b r=>aK r fun cL r=>aK r fun eP r=>aK r fun eX r=>ak .i64 r fun bn r=>aw r (aD (Zv (bn<39)) (az (Zv (Zx eX+Zx [(110:UInt8)]<=4611686018427387904)) (Zd (Xw [Zy .i64 n,Zk b,Zk cL,Zk eP,Zk (eX++[(110:UInt8)]),Zy .i64 (Zz .i64 (bn+1))]))) (Zd (Yg (Yu 0,[Zy .i64 n,Zk b,Zk cL,Zk eP,Zk eX,Zy .i64 bn]))))) [Zy .i64 n,Zk [],Zk [],Zk [],Zk [],Zy .i64 0]) fun(r:Ex×List AV)=>ak .i64 (Xj r) fun n eI=>aK eI fun b eS=>aK eS fun cL eZ=>aK eZ fun eP f_=>aK f_ fun eX iq=>ak .i64 iq fun bn ju=>aw ju (jp r.1 (Zd (AV.agg [Zk b,Zk cL,Zk eP],[])) fun(j:Nat)=>aD (Xk j 0) (Zj (bw (fun st=>ak .i64 st fun n r=>aK r fun b r=>aK r fun g7 r=>aK r fun gZ r=>aK r fun iz r=>ak .i64 r fun bT r=>aw r (aD (Zv (bT<n)) (az (Zv (38<=(↑(Zx iz):Int))) (Zd (Xw [Zy .i64 n,Zk b,Zk g7,Zk gZ,Zk (Xb (Zw (↑(0:Nat):Int)) (Xp (Zw 38) iz)),Zy .i64 (Zz .i64 (bT+1))]))) (Zd (Yg (Yu 2,[Zy .i64 n,Zk b,Zk g7,Zk gZ,Zk iz,Zy .i64 bT]))))) [Zy .i64 n,Zk b,Zk cL,Zk eP,Zk eX,Zy .i64 0]) fun(r:Ex×List AV)=>ak .i64 (Xj r) fun n lE=>aK lE fun b mT=>aK mT fun g7 mg=>aK mg fun gZ fZ=>aK fZ fun iz gS=>ak .i64 gS fun n gT=>aw gT (jp r.1 (Zd (AV.agg [Zk b,Zk g7,Zk gZ],[])) fun(j:Nat)=>aD (Xk j 2) (Zd (AV.agg [Zk iz,Zk iz,Zk iz],[])) Wj)) Wj)) (by kernel_rfl) ?_;dsimp only[aK,ak];simp only[Zg,Qa2] at aB;have hn:n=0\/n=1:=by omega
 rcases hn with rfl | rfl
 ·refine fa 40 (Yu 0,[Zy Zu 0,Zk [],Zk [],Zk [],Zk (Yb 39 110),Zy Zu 39]) (by kernel_rfl) ?_;simp only[A0];rw[ah (Yw _)];refine fa 1 (Yu 2,[Zy Zu 0,Zk [],Zk [],Zk [],Zk (Yb 39 110),Zy Zu 0]) (by kernel_rfl) ?_;rfl
 ·refine fa 40 (Yu 0,[Zy Zu 1,Zk [],Zk [],Zk [],Zk (Yb 39 110),Zy Zu 39]) (by kernel_rfl) ?_;simp only[A0];rw[ah (Yw _)];refine fa 2 (Yu 2,[Zy Zu 1,Zk [],Zk [],Zk [],Zk (Yb 38 110),Zy Zu 1]) (by kernel_rfl) ?_;rfl
theorem w92:Wk 92 1 Sx:=by
 refine cA Tryz.func92 rfl fun xs bl r h=> ?_;unfold Sx at h;split at h;case h_2=>cases h
 rename_i n m;cases h;refine cw (aD (Zv (n>=0)) (Zd (Zq (Zv (n<=m)),[])) (Zd (Zq Yy,[]))) (by kernel_rfl) ?_;by_cases h:0<=n<;>simp[aD,Zn,h]
theorem w94:Wk 94 1 Sy:=by
 refine cA Tryz.func94 rfl fun xs bl r h=> ?_;unfold Sy at h;split at h;case h_2=>cases h
 rename_i k aq;cases h;refine cw (aD (Zv (k<1)) (Zd (Zf [],[])) (aD (Zv (k>10)) (Zd (Zf [],[])) (aD aq (Zd (Zf [(4:UInt8),Zh (Zw (Zz .u8 (Zz .i64 (Zz .i64 (2*k)+1))))],[])) (Zd (Zf [(4:UInt8),Zh (Zw (Zz .u8 (Zz .i64 (2*k))))],[]))))) (by kernel_rfl) ?_;by_cases h:1<=k/\k<=10
 ·have hk:k=1\/k=2\/k=3\/k=4\/k=5\/k=6\/k=7\/k=8\/k=9\/k=10:=by omega
  rcases hk with rfl | rfl | rfl | rfl | rfl | rfl | rfl | rfl | rfl | rfl<;>cases aq<;>rfl
 ·have hk:Xq k=Yy:=by simp[Xq];omega
  by_cases h1:k<1
  ·simp[aD,Xn,hk,h1]
  ·have h2:10<k:=by omega
   simp[aD,Xn,hk,h1,h2]
theorem w95:Wk 95 1 oa:=by
 refine cA Tryz.func95 rfl fun xs bl r h=> ?_;unfold oa at h;split at h;case h_2=>cases h
 rename_i b s;obtain⟨aB,rfl⟩:=dA h;refine cw (az (room (Zx b) 1) (az (room (Zx b+Zx s) 1) (az (room (Zx (b++s)+Zx [(0:UInt8)]) 1) (Zd (Yf (b++s++[(0:UInt8)]),[]))))) (by kernel_rfl) ?_;simp only[Qa2] at aB;rw[ae (Xx (by omega)),ae (Xx (by omega)),ae (Xx (by simp;omega))];simp[Kerb.bg]
theorem ZR:Wk 107 1 Nf:=by
 refine cA Tryz.func107 rfl fun xs bl r h=> ?_;unfold Nf at h;split at h;case h_2=>cases h
 rename_i n m;cases h;refine cw (aD (Zv (n>=0)) (Zd (Zq (Zv (n<=m)),[])) (Zd (Zq Yy,[]))) (by kernel_rfl) ?_;by_cases h:0<=n<;>simp[aD,Zn,h]
theorem ZX:Wk 113 1 Ng:=by
 refine cA Tryz.func113 rfl fun xs bl r h=> ?_;unfold Ng at h;split at h;case h_2=>cases h
 rename_i n;cases h;refine cw (aD (n==1) (Zd (Zq Yv,[])) (Zd (Zq (n==3),[]))) (by kernel_rfl) ?_;cases (n==1)<;>rfl
theorem ZY:Wk 114 1 Nh:=by
 refine cA Tryz.func114 rfl fun xs bl r h=> ?_;unfold Nh at h;split at h;case h_2=>cases h
 rename_i n m;cases h;refine cw (aD (Zv (n>=0)) (Zd (Zq (Zv (n<=m)),[])) (Zd (Zq Yy,[]))) (by kernel_rfl) ?_;by_cases h:0<=n<;>simp[aD,Zn,h]
theorem aac:Wk 138 1 lI:=by
 refine cA Tryz.func138 rfl fun xs bl r h=> ?_;unfold lI at h;split at h;case h_2=>cases h
 rename_i k;obtain⟨aB,rfl⟩:=dA h;refine cw (Zj (bw (fun st=>ak .u64 st fun n r=>ay r fun x r=>AV.eF x fun b=>ak .i64 r fun bn r=>let t0:List UInt8:=[Zh (Zw (Zz .u8 (Xy n (2 ^ min (Zw (Zz .u64 (Zz .i64 (8*bn)))) (Zp .u64)))))];aw r (aD (Zv (bn>=0)) (az (Zv (0<=Zz .u64 (Zz .i64 (8*bn)))) (az (room (Zx b+Zx t0) 1) (Zd (Xw [Zy .u64 n,Yf (b++t0),Zy .i64 (Zz .i64 (bn-1))])))) (Zd (Yg (Yu 0,[Zy .u64 n,Yf b,Zy .i64 bn]))))) [Zy .u64 k,Yf [],Zy .i64 7]) fun(r:Ex×List AV)=>ak .u64 (Xj r) fun n eI=>ay eI fun x eS=>AV.eF x fun b=>ak .i64 eS fun n eZ=>aw eZ (jp r.1 Wj fun(j:Nat)=>aD (Xk j 0) (Zd (Zf b,[])) Wj)) (by kernel_rfl) ?_;try dsimp only[aK,bq,aE,cT,ak,ci,dx]
 refine fa 9 (Yu 0,[Zy Yn k,Yf [Yk k 56,Yk k 48,Yk k 40,Yk k 32,Yk k 24,Yk k 16,Yk k 8,Yk k 0],Zy Zu (-1)]) (by kernel_rfl) ?_;simp only[A0];rw[ah (Yw _)];simp[Kerb.qY,Kerb.keyBytes,Kerb.fG,Xd]
theorem aad:Wk 139 1 ii:=by
 refine cA Tryz.func139 rfl fun xs bl r h=> ?_;unfold ii at h;split at h;case h_2=>cases h
 rename_i b;obtain⟨aB,rfl⟩:=dA h;refine cw (az (room (Zx b) 1) (Zj (bw (fun st=>ay st fun x r=>AV.eF x fun b=>aw r (aD (!Yz (↑(Zx b):Int) 8==0) (az (room (Zx b+Zx [(0:UInt8)]) 1) (Zd (Xw [Yf (b++[(0:UInt8)])]))) (Zd (Yg (Yu 0,[Yf b]))))) [Yf b]) fun(r:Ex×List AV)=>ay (Xj r) fun x eI=>AV.eF x fun b=>aw eI (jp r.1 Wj fun(j:Nat)=>aD (Xk j 0) (Zd (Yf b,[])) Wj))) (by kernel_rfl) ?_;have hb:=Qa3 aB;rw[ae (Xx (by omega))];refine b_ (fun i:Nat=>[Yf (b++Yb i 0)]) (fun i=>i<=(8-b.length % 8) % 8) (fun i=>(8-b.length % 8) % 8-i)
  (fun r=>r=(Yu 0,[Yf (Kerb.pad b)])) 0 (by omega) (by simp) ?_ ?_
 ·intro i hi;simp only[A0];have e:Yz ((b++Yb i 0).length:Int) 8=(((b.length+i) % 8:Nat):Int):=by
   rw[Yh (by omega)];simp
  rw[e];by_cases eY:i<(8-b.length % 8) % 8
  ·rw[ah (by simp;omega),ae (Xx (by simp;omega))];refine⟨_,rfl,i+1,?_,by omega,by dsimp only;omega⟩;dsimp only;rw[List.replicate_succ',List.append_assoc]
  ·rw[aj (by simp;omega)];refine⟨_,rfl,?_⟩;show _=_;rw[Kerb.pad,show i=(8-b.length % 8) % 8 from by omega]
 rintro r rfl;simp only[A0];rw[ah (Yw _)]
theorem aag:Wk 142 1 Nk:=by
 refine cA Tryz.func142 rfl fun xs bl r h=> ?_;unfold Nk at h;split at h;case h_2=>cases h
 rename_i n m;cases h;refine cw (aD (Zv (n>=0)) (Zd (Zq (Zv (n<=m)),[])) (Zd (Zq Yy,[]))) (by kernel_rfl) ?_;by_cases h:0<=n<;>simp[aD,Zn,h]
theorem aai:Wk 144 1 Nl:=by
 refine cA Tryz.func144 rfl fun xs bl r h=> ?_;unfold Nl at h;split at h;case h_2=>cases h
 rename_i n m;cases h;refine cw (aD (Zv (n>=0)) (Zd (Zq (Zv (n<=m)),[])) (Zd (Zq Yy,[]))) (by kernel_rfl) ?_;by_cases h:0<=n<;>simp[aD,Zn,h]
theorem aaq:Wk 152 1 Nm:=by
 refine cA Tryz.func152 rfl fun xs bl r h=> ?_;unfold Nm at h;split at h;case h_2=>cases h
 rename_i a b;cases h;refine cw (Zd (Zq (a==b),[])) (by kernel_rfl) ?_;rfl
theorem aau:Wk 156 1 Nn:=by
 refine cA Tryz.func156 rfl fun xs bl r h=> ?_;unfold Nn at h;split at h;case h_2=>cases h
 rename_i l;cases h;refine cw (aD (l==[(103:UInt8),(84:UInt8),(71:UInt8),(83:UInt8)]) (Zd (Zq Yv,[])) (Zd (Zq (l==[(103:UInt8),(84:UInt8),(75:UInt8),(84:UInt8)]),[]))) (by kernel_rfl) ?_;unfold Kerb.iQ;show aD (l==Kerb.vB) _ (Zd (Zq (l==Kerb.lq),[]))=_;cases (l==Kerb.vB)<;>rfl
theorem aax:Wk 159 1 Np:=by
 refine cA Tryz.func159 rfl fun xs bl r h=> ?_;unfold Np at h;split at h;case h_2=>cases h
 rename_i l;cases h;refine cw (aD (l==[(116:UInt8),(103:UInt8),(115:UInt8),(84:UInt8)]) (Zd (Zq Yv,[])) (Zd (Zq (l==[(116:UInt8),(107:UInt8),(116:UInt8),(71:UInt8)]),[]))) (by kernel_rfl) ?_;unfold Kerb.dK;show aD (l==Kerb.zn) _ (Zd (Zq (l==Kerb.qc),[]))=_;cases (l==Kerb.zn)<;>rfl
theorem aaI:Wk 174 1 wa:=by
 refine cA Tryz.func174 rfl fun xs bl r h=> ?_;unfold wa at h;split at h;case h_2=>cases h
 rename_i s bad;obtain⟨aB,rfl⟩:=dA h;refine cw (Zj (bw (fun st=>aK st fun b r=>aK r fun cL r=>aE r fun eP r=>ak .i64 r fun n r=>aw r (aD (Zv (n<(↑(Zx b):Int))) (az (Zv (0<=n)&&Zv (n<(↑(Zx b):Int))) (aD (Zv ((↑(Zb (Zm b (Zw n) (0:UInt8))):Int)<(↑(Zb (33:UInt8)):Int))) (Zd (Yg (Ex.ret,[Zk b,Zk cL,Zq Yy,Zy .i64 n]))) (az (Zv (0<=n)&&Zv (n<(↑(Zx b):Int))) (aD (Zv ((↑(Zb (Zm b (Zw n) (0:UInt8))):Int)>(↑(Zb (126:UInt8)):Int))) (Zd (Yg (Ex.ret,[Zk b,Zk cL,Zq Yy,Zy .i64 n]))) (Zj (bw (fun st=>aK st fun b r=>aK r fun eX r=>aE r fun g7 r=>ak .i64 r fun n r=>ak .i64 r fun bn r=>aw r (aD (Zv (bn<(↑(Zx eX):Int))) (az (Zv (0<=n)&&Zv (n<(↑(Zx b):Int))) (az (Zv (0<=bn)&&Zv (bn<(↑(Zx eX):Int))) (aD (Zm b (Zw n) (0:UInt8)==Zm eX (Zw bn) (0:UInt8)) (Zd (Yg (Ex.ret,[Zk b,Zk eX,Zq Yy,Zy .i64 n,Zy .i64 bn]))) (Zd (Xw [Zk b,Zk eX,Zq g7,Zy .i64 n,Zy .i64 (Zz .i64 (bn+1))]))))) (Zd (Yg (Yu 2,[Zk b,Zk eX,Zq g7,Zy .i64 n,Zy .i64 bn]))))) [Zk b,Zk cL,Zq eP,Zy .i64 n,Zy .i64 0]) fun(r:Ex×List AV)=>aK (Xj r) fun b eI=>aK eI fun eX eS=>aE eS fun g7 eZ=>ak .i64 eZ fun n f_=>ak .i64 f_ fun bn iq=>aw iq (jp r.1 (Zd (Yg (Ex.ret,[Zk b,Zk eX,Zq g7,Zy .i64 n]))) fun(j:Nat)=>aD (Xk j 2) (Zd (Xw [Zk b,Zk eX,Zq g7,Zy .i64 (Zz .i64 (n+1))])) Wj)))))) (Zd (Yg (Yu 0,[Zk b,Zk cL,Zq eP,Zy .i64 n]))))) [Zk s,Zk bad,Zq Yy,Zy .i64 0]) fun(r:Ex×List AV)=>aK (Xj r) fun b eI=>aK eI fun cL eS=>aE eS fun eP eZ=>ak .i64 eZ fun n f_=>aw f_ (jp r.1 (Zd (Zq eP,[])) fun(j:Nat)=>aD (Xk j 0) (Zd (Zq (Zv ((↑(Zx b):Int)<=39)),[])) Wj)) (by kernel_rfl) ?_;dsimp only[aK,aE,ak];simp only[Zg,Qa2] at aB;refine b_ (fun i:Nat=>[Zk s,Zk bad,Zq Yy,Zy Zu (i:Int)]) (fun i=>i<=s.length/\Kerb.dO s bad=Kerb.dO (s.drop i) bad) (fun i=>s.length-i)
  (fun r=>∃ i:Nat,r.2=[Zk s,Zk bad,Zq Yy,Zy Zu (i:Int)]/\((r.1 = .ret/\Kerb.dO s bad=Yy)\/(r.1 = .exit 0/\Kerb.dO s bad=Yv))) 0 ⟨Ww _,rfl⟩ rfl ?_ ?_
 ·rintro i ⟨hi,hp⟩;simp only[A0];by_cases eY:i<s.length
  ·have hc:(Zv ((0:Int)<=(i:Int))&&Zv ((i:Int)<(s.length:Int)))=Yv:=by simp;omega
   have hd:=Kerb.oI eY;rw[ah (by simp;omega),ae hc,Ym];have Po:Kerb.dO (s.drop i) bad=(Kerb.okB bad (s.getD i 0)&&Kerb.dO (s.drop (i+1)) bad):=by rw[hd];rfl
   generalize AX:s.getD i 0=c at *;by_cases h1:c.toNat<33
   ·rw[ah (by simp;omega)];exact⟨_,rfl,i,rfl,.inl ⟨rfl,by rw[hp,Po];simp[Kerb.okB,h1]⟩⟩
   rw[aj (by simp;omega),ae hc];by_cases h2:126<c.toNat
   ·rw[ah (by simp;omega)];exact⟨_,rfl,i,rfl,.inl ⟨rfl,by rw[hp,Po];simp[Kerb.okB,h2]⟩⟩
   rw[aj (by simp;omega)];refine Da (fun j:Nat=>[Zk s,Zk bad,Zq Yy,Zy Zu (i:Int),Zy Zu (j:Int)]) (fun j=>j<=bad.length/\(c∈bad↔c∈bad.drop j)) (fun j=>bad.length-j)
    (fun r=>∃ j:Nat,r.2=[Zk s,Zk bad,Zq Yy,Zy Zu (i:Int),Zy Zu (j:Int)]/\((r.1 = .ret/\c∈bad)\/(r.1 = .exit 2/\c ∉ bad))) 0 ⟨Ww _,by simp⟩ rfl ?_ ?_
   ·rintro j ⟨hj,hm⟩;simp only[A0];by_cases JJ:j<bad.length
    ·have hdj:=Kerb.oI JJ;rw[ah (by simp;omega),ae hc,ae (by simp;omega),Ym,Ym,AX];rw[hdj,List.mem_cons] at hm;by_cases h3:c=bad.getD j 0
     ·rw[ah (by simpa using h3)];exact⟨_,rfl,j,rfl,.inl ⟨rfl,hm.2 (.inl h3)⟩⟩
     ·rw[aj (by simpa using h3),wrap_i64 (by omega) (by omega)];exact⟨_,rfl,j+1,rfl,⟨by omega,hm.trans ⟨fun h=>h.resolve_left h3,.inr⟩⟩,by dsimp only;omega⟩
    ·rw[aj (by simp;omega)];refine⟨_,rfl,j,rfl,.inr ⟨rfl,?_⟩⟩;rw[hm,List.drop_eq_nil_of_le (by omega)];simp
   ·rintro⟨e,l⟩ ⟨j,rfl,⟨rfl,h3⟩ | ⟨rfl,h3⟩⟩
    ·simp only[A0];exact⟨_,rfl,i,rfl,.inl ⟨rfl,by rw[hp,Po];simp[Kerb.okB,h3]⟩⟩
    ·simp only[A0];rw[ah (Yw _),wrap_i64 (by omega) (by omega)];exact⟨_,rfl,i+1,rfl,⟨by omega,by rw[hp,Po];simp[Kerb.okB,h1,h2,h3]⟩,by dsimp only;omega⟩
  ·rw[aj (by simp;omega)];exact⟨_,rfl,i,rfl,.inr ⟨rfl,by rw[hp,List.drop_eq_nil_of_le (by omega)];rfl⟩⟩
 ·rintro⟨e,l⟩ ⟨i,rfl,⟨rfl,hp⟩ | ⟨rfl,hp⟩⟩
  ·simp only[A0,hp];rfl
  ·simp only[A0,hp];rw[ah (Yw _),decide_eq_decide.2 (show((s.length:Int)<=39)↔s.length<=39 from by omega)];rfl
theorem aaJ:Wk 175 1 wb:=by
 refine cA Tryz.func175 rfl fun xs bl r h=> ?_;unfold wb at h;split at h;case h_2=>cases h
 rename_i b n k aq;obtain⟨aB,rfl⟩:=dA h;refine cw (az (room (Zx b) 1) (Zj (bw (fun st=>ak .i64 st fun n r=>ak .i64 r fun bn r=>aE r fun b r=>ay r fun x r=>AV.eF x fun cL=>ak .i64 r fun bT r=>let t1:Int:=Zz .u64 (Zz .i64 (8*Zz .i64 (Zz .i64 (bn-1)-bT)));let t2:List UInt8:=[Zh (Zw (Zz .u8 (Xy (Zz .u64 n) (2 ^ min (Zw (Zz .u64 (Zz .i64 (8*bT)))) (Zp .u64)))))];let t0:List UInt8:=[Zh (Zw (Zz .u8 (Xy (Zz .u64 n) (2 ^ min (Zw t1) (Zp .u64)))))];aw r (aD (Zv (bT<bn)) (aD b (az (Zv (0<=Zz .u64 (Zz .i64 (8*bT)))) (az (room (Zx cL+Zx t2) 1) (Zd (Xw [Zy .i64 n,Zy .i64 bn,Zq b,Yf (cL++t2),Zy .i64 (Zz .i64 (bT+1))])))) (az (Zv (0<=t1)) (az (room (Zx cL+Zx t0) 1) (Zd (Xw [Zy .i64 n,Zy .i64 bn,Zq b,Yf (cL++t0),Zy .i64 (Zz .i64 (bT+1))]))))) (Zd (Yg (Yu 0,[Zy .i64 n,Zy .i64 bn,Zq b,Yf cL,Zy .i64 bT]))))) [Zy .i64 n,Zy .i64 k,Zq aq,Yf b,Zy .i64 0]) fun(r:Ex×List AV)=>ak .i64 (Xj r) fun n eI=>ak .i64 eI fun n eS=>aE eS fun b eZ=>ay eZ fun x f_=>AV.eF x fun b=>ak .i64 f_ fun n iq=>aw iq (jp r.1 Wj fun(j:Nat)=>aD (Xk j 0) (Zd (Yf b,[])) Wj))) (by kernel_rfl) ?_;try dsimp only[aK,bq,aE,cT,ak,ci,dx]
 simp only[Zg,Qa2] at aB;obtain⟨hk,hb⟩:=aB;have mz:k.toNat<=4/\0<=k:=by omega
 rw[ae (Xx (by omega))];refine b_ (fun i:Nat=>[Zy Zu n,Zy Zu k,Zq aq,Yf (b++(Wv n k.toNat aq).take i),Zy Zu (i:Int)]) (fun i=>i<=k.toNat) (fun i=>k.toNat-i)
  (fun r=>r=(Yu 0,[Zy Zu n,Zy Zu k,Zq aq,Yf (b++Wv n k.toNat aq),Zy Zu k])) 0 (Ww _) (by simp) ?_ ?_
 ·intro i hi;simp only[A0];by_cases eY:i<k.toNat
  ·have hs:=Kerb.Aq (l:=Wv n k.toNat aq) (i:=i) (by rw[Yd];omega);have hg:=Kerb.Kp n k.toNat aq eY;have hl:((Wv n k.toNat aq).take i).length=i:=by simp[Yd];omega
   rw[ah (by simp;omega)];have hw:∀ j:Nat,j<4->Zz Yn (Zz Zu (8*(j:Int)))=((8*j:Nat):Int):=fun j hj=>by
    rw[wrap_i64 (by omega) (by omega),Kerb.wrap_u64];omega
   have hm:∀ j:Nat,j<4->min (Zw ((8*j:Nat):Int)) (Zp Yn)=8*j:=fun j hj=>by
    have:Zp Yn=64:=rfl;rw[this];omega
   cases aq
   ·have e:Zz Zu (Zz Zu (k-1)-(i:Int))=((k.toNat-1-i:Nat):Int):=by
     rw[wrap_i64 (n:=k-1) (by omega) (by omega),wrap_i64 (by omega) (by omega)];omega
    rw[aj rfl,e,hw _ (by omega),hm _ (by omega),Kerb.QA n (by omega),ae (by simp;omega),ae (Xx (by simp[hl];omega)),wrap_i64 (by omega) (by omega)];refine⟨_,rfl,i+1,?_,by omega,by dsimp only;omega⟩;dsimp only;rw[hs,hg,<-List.append_assoc];rfl
   ·rw[ah rfl,hw _ (by omega),hm _ (by omega),Kerb.QA n (by omega),ae (by simp;omega),ae (Xx (by simp[hl];omega)),wrap_i64 (by omega) (by omega)];refine⟨_,rfl,i+1,?_,by omega,by dsimp only;omega⟩;dsimp only;rw[hs,hg,<-List.append_assoc];rfl
  ·rw[aj (by simp;omega)];refine⟨_,rfl,?_⟩;show _=_;rw[Xm (by rw[Yd];omega),show(i:Int)=k from by omega]
 ·rintro r rfl;simp only[A0];rw[ah (Yw _)]
theorem aaN:Wk 184 1 Nv:=by
 refine cA Tryz.func184 rfl fun xs bl r h=> ?_;unfold Nv at h;split at h;case h_2=>cases h
 cases h;refine cw (Zd (Xg 1 [Zk [(65:UInt8),(84:UInt8),(72:UInt8)],Zk [(66:UInt8),(79:UInt8),(83:UInt8)],Zk [(67:UInt8),(65:UInt8),(77:UInt8)]],[])) (by kernel_rfl) ?_;rfl
theorem aa2:Wk 205 1 NB:=by
 refine cA Tryz.func205 rfl fun xs bl r h=> ?_;unfold NB at h;split at h;case h_2=>cases h
 rename_i c n;cases h;refine cw (let t0:Option (AV×aC):=aD (Zv (n<1)) (Zd (Zy .u64 0,[])) (aD (Zv (n>4294967295)) (Zd (Zy .u64 0,[])) (Zd (Zy .u64 (Zz .u64 (↑(BitVec.toNat (BitVec.ofInt (Zp .u64) (Zz .u64 (Zz .u64 c*2 ^ min (Zw 56) (Zp .u64))) ||| BitVec.ofInt (Zp .u64) (Zz .u64 n))):Int)),[])));aD (!c==1) (aD (!c==2) (Zd (Zy .u64 0,[])) t0) t0) (by kernel_rfl) ?_;try dsimp only[aK,bq,aE,cT,ak,ci,dx]
 unfold Kerb.nc Kerb.ld;by_cases hc:c=1\/c=2;case neg =>
  have q1:(c==(1:Int))=Yy:=by simp;omega
  have q2:(c==(2:Int))=Yy:=by simp;omega
  rw[q1,q2];rfl
 by_cases hn:1<=n/\n<=4294967295;case neg =>
  have q:(Zv (1<=n)&&Zv (n<=4294967295))=Yy:=by
   rw[Bool.eq_false_iff];simp;omega
  rw[q,Bool.and_false];have key:(aD (Zv (n<(1:Int))) (Zd (Zy .u64 (0:Int),([]:aC))) (aD (Zv (n>(4294967295:Int))) (Zd (Zy .u64 (0:Int),[])) (Zd (Zy Yn (Zz Yn ((BitVec.toNat (BitVec.ofInt (Zp Yn) (Zz Yn (Zz Yn c*(2:Int) ^ min (Zw (56:Int)) (Zp Yn))) ||| BitVec.ofInt (Zp Yn) (Zz Yn n)):Nat):Int)),[]))))=Zd (Zy .u64 0,[]):=by
   by_cases hl:n<1
   ·rw[ah (by simpa using hl)]
   ·rw[aj (by simpa using hl),ah (by simp;omega)]
  rcases hc with rfl | rfl
  ·rw[aj (by decide)];exact key
  ·rw[ah (by decide),aj (by decide)];exact key
 have q:(Zv (1<=n)&&Zv (n<=4294967295))=Yv:=by simp;omega
 have q2:(c==(1:Int)||c==(2:Int))=Yv:=by simpa using hc
 rw[q,q2,Kerb.Mj hc hn.1 hn.2];rcases hc with rfl | rfl
 ·rw[aj (by decide),aj (by simp;omega),aj (by simp;omega)];rfl
 ·rw[ah (by decide),aj (by decide),aj (by simp;omega),aj (by simp;omega)];rfl
theorem aa3:Wk 206 1 NC:=by
 refine cA Tryz.func206 rfl fun xs bl r h=> ?_;unfold NC at h;split at h;case h_2=>cases h
 rename_i n m;cases h;refine cw (aD (Zv (n>=0)) (Zd (Zq (Zv (n<=m)),[])) (Zd (Zq Yy,[]))) (by kernel_rfl) ?_;by_cases h:0<=n<;>simp[aD,Zn,h]
theorem aa4:Wk 207 1 ND:=by
 refine cA Tryz.func207 rfl fun xs bl r h=> ?_;unfold ND at h;split at h;case h_2=>cases h
 rename_i n m;cases h;refine cw (aD (Zv (n>=0)) (Zd (Zq (Zv (n<=m)),[])) (Zd (Zq Yy,[]))) (by kernel_rfl) ?_;by_cases h:0<=n<;>simp[aD,Zn,h]
theorem aa7:Wk 210 1 wg:=by
 refine cA Tryz.func210 rfl fun xs bl r h=> ?_;unfold wg at h;split at h;case h_2=>cases h
 rename_i b pos n;obtain⟨aB,rfl⟩:=dA h;refine cw (aD (Zv (pos<0)) (Zd (Zy .i64 104,[])) (aD (Zv (pos>(↑(Zx b):Int))) (Zd (Zy .i64 104,[])) (aD (Zv (n<0)) (Zd (Zy .i64 104,[])) (aD (Zv (n>Zz .i64 ((↑(Zx b):Int)-pos))) (Zd (Zy .i64 101,[])) (Zd (Zy .i64 0,[])))))) (by kernel_rfl) ?_;simp only[Qa2] at aB;unfold Kerb.room;by_cases h1:pos<0
 ·simp[aD,h1]
 by_cases h2:(b.length:Int)<pos
 ·simp[aD,h1,h2]
 by_cases h3:n<0
 ·simp[aD,h1,h2,h3]
 rw[aj (by simp;omega),aj (by simp;omega),aj (by simp;omega),wrap_i64 (by omega) (by omega),Qa0 (by omega)];by_cases h4:(b.length:Int)-pos<n
 ·rw[ah (by simp;omega),Qa1 h4]
 ·rw[aj (by simp;omega),Qa0 h4]
theorem abe:Wk 218 1 sB:=by
 refine cA Tryz.func218 rfl fun xs bl r h=> ?_;unfold sB at h;split at h;case h_2=>cases h
 rename_i k;obtain⟨aB,rfl⟩:=dA h;refine cw (Zj (bw (fun st=>ak .u64 st fun n r=>ay r fun x r=>AV.eF x fun b=>ak .i64 r fun bn r=>ak .i64 r fun bT r=>aw r (aD (Zv (bT<bn)) (az (Zv (0<=Zz .i64 (8*Zz .i64 (7-bT)))) (az (Zv (0<=bT)&&Zv (bT<(↑(Zx b):Int))) (az (Xz (Zw bT) (Zx b)&&Yv&&Yv&&Yv&&Yv) (Zd (Xw [Zy .u64 n,Yf (Xf b (Zw bT) (Zh (Zw (Zz .u8 (Xy n (2 ^ min (Zw (Zz .i64 (8*Zz .i64 (7-bT)))) (Zp .u64))))))),Zy .i64 bn,Zy .i64 (Zz .i64 (bT+1))]))))) (Zd (Yg (Yu 0,[Zy .u64 n,Yf b,Zy .i64 bn,Zy .i64 bT]))))) [Zy .u64 k,Yf (Yb (Zw 8) (0:UInt8)),Zy .i64 (↑(Zx (Yb (Zw 8) (0:UInt8))):Int),Zy .i64 0]) fun(r:Ex×List AV)=>ak .u64 (Xj r) fun n eI=>ay eI fun x eS=>AV.eF x fun b=>ak .i64 eS fun n eZ=>ak .i64 eZ fun n f_=>aw f_ (jp r.1 Wj fun(j:Nat)=>aD (Xk j 0) (Zd (Zf b,[])) Wj)) (by kernel_rfl) ?_;dsimp only[ak];refine fa 9 (Yu 0,[Zy Yn k,Yf [Yk k 56,Yk k 48,Yk k 40,Yk k 32,Yk k 24,Yk k 16,Yk k 8,Yk k 0],Zy Zu 8,Zy Zu 8]) (by kernel_rfl) ?_;simp only[A0];rw[ah (Yw _)];simp[Kerb.qY,Kerb.keyBytes,Kerb.fG,Xd]
theorem abh:Wk 221 1 NH:=by
 refine cA Tryz.func221 rfl fun xs bl r h=> ?_;unfold NH at h;split at h;case h_2=>cases h
 rename_i n m;cases h;refine cw (aD (Zv (n>=0)) (Zd (Zq (Zv (n<=m)),[])) (Zd (Zq Yy,[]))) (by kernel_rfl) ?_;by_cases h:0<=n<;>simp[aD,Zn,h]
theorem abi:Wk 222 1 NI:=by
 refine cA Tryz.func222 rfl fun xs bl r h=> ?_;unfold NI at h;split at h;case h_2=>cases h
 rename_i nx e B at_ bad;cases h;show ea (G.env 222 1) G.rts (G.own 222) Tryz.f222 _ _ [0]=_;refine cw (aD bad (Zd (Zq Yy,[[Zf B,Zy .i64 at_,Zq Yv]])) (aD (!e==0) (Zd (Zq Yy,[[Zf B,Zy .i64 at_,Zq Yv]])) (Zd (Zq Yv,[[Zf B,Zy .i64 nx,Zq bad]])))) (by kernel_rfl) ?_;cases bad
 ·cases (e==0)<;>rfl
 ·rfl
theorem abm:Wk 226 1 NJ:=by
 refine cA Tryz.func226 rfl fun xs bl r h=> ?_;unfold NJ at h;split at h;case h_2=>cases h
 rename_i nx e B at_ bad;cases h;show ea (G.env 226 1) G.rts (G.own 226) Tryz.f226 _ _ [0]=_;refine cw (aD (!e==0) (Zd (Yq [],[[Zf B,Zy .i64 at_,Zq Yv]])) (Zd (Yq [],[[Zf B,Zy .i64 nx,Zq bad]]))) (by kernel_rfl) ?_;cases bad<;>cases (e==0)<;>rfl
theorem abp:Wk 229 1 NL:=by
 refine cA Tryz.func229 rfl fun xs bl r h=> ?_;unfold NL at h;split at h;case h_2=>cases h
 rename_i n m;cases h;refine cw (aD (Zv (n>=0)) (Zd (Zq (Zv (n<=m)),[])) (Zd (Zq Yy,[]))) (by kernel_rfl) ?_;by_cases h:0<=n<;>simp[aD,Zn,h]
theorem abr:Wk 233 1 NN:=by
 refine cA Tryz.func233 rfl fun xs bl r h=> ?_;unfold NN at h;split at h;case h_2=>cases h
 rename_i k;cases h;refine cw (aD (k==1) (Zd (Zq Yv,[])) (Zd (Zq (k==2),[]))) (by kernel_rfl) ?_;unfold Kerb.nc;cases (k==(1:Int))<;>rfl
theorem abt:Wk 234 1 NP:=by
 refine cA Tryz.func234 rfl fun xs bl r h=> ?_;unfold NP at h;split at h;case h_2=>cases h
 rename_i k;cases h;refine cw (aD (Zv (k>=1)) (Zd (Zq (Zv (k<=4294967295)),[])) (Zd (Zq Yy,[]))) (by kernel_rfl) ?_;by_cases h:1<=k<;>simp[aD,Kerb.ld,h]
theorem abv:Wk 238 1 NQ:=by
 refine cA Tryz.func238 rfl fun xs bl r h=> ?_;unfold NQ at h;split at h;case h_2=>cases h
 rename_i k;cases h;refine cw (aD (Zv (k>=1)) (Zd (Zq (Zv (k<=10)),[])) (Zd (Zq Yy,[]))) (by kernel_rfl) ?_;by_cases h:1<=k<;>simp[aD,Xq,h]
theorem abx:Wk 241 1 Gn:=by
 refine cA Tryz.func241 rfl fun xs bl r h=> ?_;unfold Gn at h;split at h;case h_2=>cases h
 rename_i k els;obtain⟨aB,rfl⟩:=dA h;refine cw (Zj (bw (fun st=>ak .i64 st fun n r=>aE r fun b r=>ci 1 r fun cL r=>ak .i64 r fun bn r=>ak .i64 r fun bT r=>aw r (aD (Zv (bT<bn)) (az (Zv (0<=bT)&&Zv (bT<(↑(Zx cL):Int))&&Yv) (AV.ax .i64 (Zm cL (Zw bT) Xu) fun eO=>aD (eO==n) (Zd (Yg (Ex.ret,[Zy .i64 n,Zq Yv,Xg 1 cL,Zy .i64 bn,Zy .i64 bT]))) (Zd (Xw [Zy .i64 n,Zq b,Xg 1 cL,Zy .i64 bn,Zy .i64 (Zz .i64 (bT+1))])))) (Zd (Yg (Yu 0,[Zy .i64 n,Zq b,Xg 1 cL,Zy .i64 bn,Zy .i64 bT]))))) [Zy .i64 k,Zq Yy,Xg 1 els,Zy .i64 (↑(Zx els):Int),Zy .i64 0]) fun(r:Ex×List AV)=>ak .i64 (Xj r) fun n eI=>aE eI fun b eS=>ci 1 eS fun cL eZ=>ak .i64 eZ fun n f_=>ak .i64 f_ fun n iq=>aw iq (jp r.1 (Zd (Zq b,[])) fun(j:Nat)=>aD (Xk j 0) (Zd (Zq Yy,[])) Wj)) (by kernel_rfl) ?_;dsimp only[aE,ak,ci];simp only[Zg,Qa2] at aB;obtain⟨ha,hl⟩:=aB;have hil:=Kerb.E8 ha;refine b_ (fun i:Nat=>[Zy Zu k,Zq Yy,Xg 1 els,Zy Zu (els.length:Int),Zy Zu (i:Int)]) (fun i=>i<=els.length/\(k∈jB els↔k∈(jB els).drop i)) (fun i=>els.length-i)
  (fun r=>∃ (i:Nat) (x:Bool),r.2=[Zy Zu k,Zq x,Xg 1 els,Zy Zu (els.length:Int),Zy Zu (i:Int)]/\((r.1 = .ret/\x=Yv/\k∈jB els)\/(r.1 = .exit 0/\k ∉ jB els))) 0 ⟨Ww _,by simp⟩ rfl ?_ ?_
 ·rintro i ⟨hi,hm⟩;simp only[A0];by_cases eY:i<els.length
  ·obtain⟨n,h1,h2⟩:=Kerb.E7 ha eY;rw[ah (by simp;omega),ae (by simp;omega),Ym,h1,BP];rw[h2,List.mem_cons] at hm;by_cases h3:n=k
   ·rw[ah (by simpa using h3)];exact⟨_,rfl,i,Yv,rfl,.inl ⟨rfl,rfl,hm.2 (.inl h3.symm)⟩⟩
   ·rw[aj (by simpa using h3),wrap_i64 (by omega) (by omega)];exact⟨_,rfl,i+1,rfl,⟨by omega,hm.trans ⟨fun h=>h.resolve_left fun e=>h3 e.symm,.inr⟩⟩,by dsimp only;omega⟩
  ·rw[aj (by simp;omega)];refine⟨_,rfl,i,Yy,rfl,.inr ⟨rfl,?_⟩⟩;rw[hm,List.drop_eq_nil_of_le (by omega)];simp
 ·rintro⟨e,l⟩ ⟨i,x,rfl,⟨rfl,rfl,h⟩ | ⟨rfl,h⟩⟩
  ·simp[ay,AV.ax,AV.cR,AV.hO,aw,jp,h]
  ·simp[ay,AV.ax,AV.cR,AV.hO,aw,jp,h,aD]
theorem abB:Wk 245 1 NU:=by
 refine cA Tryz.func245 rfl fun xs bl r h=> ?_;unfold NU at h;split at h;case h_2=>cases h
 rename_i n m;cases h;refine cw (aD (Zv (n>=0)) (Zd (Zq (Zv (n<=m)),[])) (Zd (Zq Yy,[]))) (by kernel_rfl) ?_;by_cases h:0<=n<;>simp[aD,Zn,h]
theorem abH:Wk 251 1 NW:=by
 refine cA Tryz.func251 rfl fun xs bl r h=> ?_;unfold NW at h;split at h;case h_2=>cases h
 rename_i n;cases h;refine cw (aD (n==1) (Zd (Zq Yv,[])) (aD (n==2) (Zd (Zq Yv,[])) (Zd (Zq (n==3),[])))) (by kernel_rfl) ?_;unfold Kerb.lh;cases (n==1)
 ·cases (n==2)<;>rfl
 ·rfl
theorem abI:Wk 252 1 NX:=by
 refine cA Tryz.func252 rfl fun xs bl r h=> ?_;unfold NX at h;split at h;case h_2=>cases h
 rename_i n m;cases h;refine cw (aD (Zv (n>=0)) (Zd (Zq (Zv (n<=m)),[])) (Zd (Zq Yy,[]))) (by kernel_rfl) ?_;by_cases h:0<=n<;>simp[aD,Zn,h]
theorem abJ:Wk 255 1 NZ:=by
 refine cA Tryz.func255 rfl fun xs bl r h=> ?_;unfold NZ at h;split at h;case h_2=>cases h
 rename_i n m;cases h;refine cw (aD (Zv (n>=0)) (Zd (Zq (Zv (n<=m)),[])) (Zd (Zq Yy,[]))) (by kernel_rfl) ?_;by_cases h:0<=n<;>simp[aD,Zn,h]
theorem abN:Wk 261 1 N0:=by
 refine cA Tryz.func261 rfl fun xs bl r h=> ?_;unfold N0 at h;split at h;case h_2=>cases h
 rename_i k;cases h;refine cw (aD (Zv (k>=1)) (Zd (Zq (Zv (k<=10)),[])) (Zd (Zq Yy,[]))) (by kernel_rfl) ?_;by_cases h:1<=k<;>simp[aD,Xq,h]
theorem abT:Wk 267 1 Gx:=by
 refine cA Tryz.func267 rfl fun xs bl r h=> ?_;unfold Gx at h;split at h;case h_2=>cases h
 rename_i a b els;obtain⟨aB,rfl⟩:=dA h;show ea (G.env 267 1) G.rts (G.own 267) Tryz.f267 _ _ [0]=_;refine cw (Zj (bw (fun st=>ay st fun x r=>AV.aR x fun y=>ak .i64 r fun n r=>ak .i64 r fun bn r=>aw r (aD (Zv (n<bn)) (az (Zv (0<=bn)&&Zv (bn<(↑(Zx y):Int))&&Yv) (az (Xz (Zw bn) (Zx y)&&Yv) (AV.ax .u64 (Zm y (Zw bn) Xu) fun bT=>az (Zv (0<=n)&&Zv (n<(↑(Zx y):Int))&&Yv) (az (Xz (Zw n) (Zx y)&&Yv) (AV.ax .u64 (Zm y (Zw n) Xu) fun eO=>az (Zv (0<=n)&&Zv (n<(↑(Zx y):Int))&&Yv) (az (Xz (Zw n) (Zx y)&&Yv) (AV.ax .u64 (Zm y (Zw n) Xu) fun bZ=>az (Zx [Zy .u64 bT]==nat_lit 1&&Yv&&Yv&&Yv&&Xz (Zw n) (Zx y)) (az (Zv (0<=bn)&&Zv (bn<(↑(Zx (Xf y (Zw n) (Zy .u64 bT))):Int))&&Yv) (az (Xz (Zw bn) (Zx (Xf y (Zw n) (Zy .u64 bT)))&&Yv) (AV.ax .u64 (Zm (Xf y (Zw n) (Zy .u64 bT)) (Zw bn) Xu) fun bF=>az (Zx [Zy .u64 eO]==nat_lit 1&&Yv&&Yv&&Yv&&Xz (Zw bn) (Zx (Xf y (Zw n) (Zy .u64 bT)))) (Zd (Xw [Wy (Xf (Xf y (Zw n) (Zy .u64 bT)) (Zw bn) (Zy .u64 eO)),Zy .i64 (Zz .i64 (n+1)),Zy .i64 (Zz .i64 (bn-1))])))))))))))) (Zd (Yg (Yu 0,[Wy y,Zy .i64 n,Zy .i64 bn]))))) [Wy els,Zy .i64 a,Zy .i64 (Zz .i64 (b-1))]) fun(r:Ex×List AV)=>ay (Xj r) fun x eI=>AV.aR x fun y=>ak .i64 eI fun n eS=>ak .i64 eS fun n eZ=>aw eZ (jp r.1 (Zd (Yq [],[y])) fun(j:Nat)=>aD (Xk j 0) (Zd (Yq [],[y])) Wj)) (by kernel_rfl) ?_;dsimp only[ak];simp only[Zg,Qa2] at aB;obtain⟨⟨⟨⟨fK,hlen⟩,GL⟩,uE⟩,hb⟩:=aB;obtain⟨d,rfl,hd⟩:=Kerb.lB fK;simp only[Kerb.aT] at *;unfold Kerb.PJ;rw[hd];obtain⟨a,rfl⟩:=Xv GL;obtain⟨b,rfl⟩:=Xv (show 0<=b by omega);simp only[Ym];rw[Kerb.gf (by omega) (by omega)];unfold Go.Sort.reverseRange;refine b_ (fun s:Array Int×Nat×Int=>[Wy (Wx s.1),Zy .i64 (s.2.1:Int),Zy .i64 s.2.2]) (fun s=>s.1.size=d.size/\s.2.1<=d.size /\ -1<=s.2.2/\s.2.2<d.size/\Go.Sort.reverseLoop s.2.1 s.2.2.toNat s.1=Go.Sort.reverseLoop a (b-1) d) (fun s=>(s.2.2-s.2.1+1).toNat) (fun r=>∃ n m,r=(.exit 0,[Wy (Wx (Go.Sort.reverseLoop a (b-1) d)),Zy .i64 n,Zy .i64 m])) (d,a,(b:Int)-1) ⟨rfl,by dsimp only;omega,by dsimp only;omega,by dsimp only;omega,by dsimp only;rw[show((b:Int)-1).toNat=b-1 by omega]⟩ rfl ?_ ?_
 ·rintro⟨e,i,j⟩ ⟨hs,hi,Yo,hj1,hr⟩;dsimp only at hs hi Yo hj1 hr ⊢;simp only[↓bD,↓bS,↓cK,↓cP];by_cases h:(i:Int)<j
  ·obtain⟨m,rfl⟩:=Xv (show 0<=j by omega);have hm:m<e.size:=by omega
   have hie:i<e.size:=by omega
   rw[Ym] at hr;rw[ah (by simpa using h),Kerb.gf (by omega) (by omega),Kerb.gf (by omega) (by omega),Kerb.sw hie hm (fun l=>Zd (Xw [Wy l,Zy .i64 ((i:Int)+1),Zy .i64 ((m:Int)-1)]))];refine⟨_,rfl,(Go.Sort.swp e i m,i+1,(m:Int)-1),rfl,⟨by dsimp only;rw[Kerb.swp_size,hs],by dsimp only;omega,by dsimp only;omega,by dsimp only;omega,?_⟩,by dsimp only;omega⟩;dsimp only;rw[<-hr];conv=>rhs;unfold Go.Sort.reverseLoop
   rw[Qa1 (by omega),show((m:Int)-1).toNat=m-1 by omega]
  ·rw[aj (by simpa using h)];refine⟨_,rfl,i,j,?_⟩;have:Go.Sort.reverseLoop i j.toNat e=e:=by
    unfold Go.Sort.reverseLoop;rw[Qa0 (by omega)]
   rw[<-hr,this]
 ·rintro _ ⟨n,m,rfl⟩;simp only[↓bD,↓bS,↓cK,↓cP,↓jx];rw[ah (Yw _)]
theorem abY:Wk 273 1 Gz:=by
 refine cA Tryz.func273 rfl fun xs bl r h=> ?_;unfold Gz at h;split at h;case h_2=>cases h
 rename_i x;obtain⟨aB,rfl⟩:=dA h;refine cw (let t2:List UInt8:=([8,8,8,8,8,8,8,8,8,8,8,8,8,8,8,8,8,8,8,8,8,8,8,8,8,8,8,8,8,8,8,8,8,8,8,8,8,8,8,8,8,8,8,8,8,8,8,8,8,8,8,8,8,8,8,8,8,8,8,8,8,8,8,8]:List UInt8);let t11:Int:=Xy x (2 ^ min (Zw 32) (Zp .u64));let t12:Int:=(↑(Zb (Zh (Zw (Zz .u8 x)))):Int);let t13:Int:=Xy x (2 ^ min (Zw 16) (Zp .u64));let t14:Int:=2 ^ min (Zw 8) (Zp .u64);let t1:List UInt8:=(0:UInt8)::Yp (Yp ([1,2,2,3,3,3,3,4,4,4,4,4,4,4,4,5,5,5,5,5,5,5,5,5,5,5,5,5,5,5,5,6,6,6,6,6,6,6,6,6,6,6,6,6,6,6,6,6,6,6,6,6,6,6,6,6,6,6,6,6,6,6,6]:List UInt8) ([7,7,7,7,7,7,7,7,7,7,7,7,7,7,7,7,7,7,7,7,7,7,7,7,7,7,7,7,7,7,7,7,7,7,7,7,7,7,7,7,7,7,7,7,7,7,7,7,7,7,7,7,7,7,7,7,7,7,7,7,7,7,7,7]:List UInt8)) (Yp t2 t2);let t4:Int:=(↑(Zb (Zh (Zw (Zz .u8 (Xy t11 t14))))):Int);let t6:Int:=(↑(Zb (Zh (Zw (Zz .u8 (Xy t13 t14))))):Int);let t7:Int:=(↑(Zb (Zh (Zw (Zz .u8 t11)))):Int);let t8:Int:=(↑(Zb (Zh (Zw (Zz .u8 t13)))):Int);let t9:Int:=(↑(Zb (Zh (Zw (Zz .u8 (Xy x t14))))):Int);let t10:Int:=Xy t11 (2 ^ min (Zw 16) (Zp .u64));let t0:Int:=(↑(Zx t1):Int);let t3:Int:=(↑(Zb (Zh (Zw (Zz .u8 (Xy t10 t14))))):Int);let t5:Int:=(↑(Zb (Zh (Zw (Zz .u8 t10)))):Int);aD (Zv (x>=4294967296)) (aD (Zv (t11>=65536)) (aD (Zv (t10>=256)) (az (Zv (0<=t3)&&Zv (t3<t0)) (Zd (Zy .i64 (Zz .i64 (Zz .i64 (Zz .i64 (32+16)+8)+Zz .i64 (↑(Zb (Zm t1 (Zw t3) (0:UInt8))):Int))),[]))) (az (Zv (0<=t5)&&Zv (t5<t0)) (Zd (Zy .i64 (Zz .i64 (Zz .i64 (32+16)+Zz .i64 (↑(Zb (Zm t1 (Zw t5) (0:UInt8))):Int))),[])))) (aD (Zv (t11>=256)) (az (Zv (0<=t4)&&Zv (t4<t0)) (Zd (Zy .i64 (Zz .i64 (Zz .i64 (32+8)+Zz .i64 (↑(Zb (Zm t1 (Zw t4) (0:UInt8))):Int))),[]))) (az (Zv (0<=t7)&&Zv (t7<t0)) (Zd (Zy .i64 (Zz .i64 (32+Zz .i64 (↑(Zb (Zm t1 (Zw t7) (0:UInt8))):Int))),[]))))) (aD (Zv (x>=65536)) (aD (Zv (t13>=256)) (az (Zv (0<=t6)&&Zv (t6<t0)) (Zd (Zy .i64 (Zz .i64 (Zz .i64 (Zz .i64 (0+16)+8)+Zz .i64 (↑(Zb (Zm t1 (Zw t6) (0:UInt8))):Int))),[]))) (az (Zv (0<=t8)&&Zv (t8<t0)) (Zd (Zy .i64 (Zz .i64 (Zz .i64 (0+16)+Zz .i64 (↑(Zb (Zm t1 (Zw t8) (0:UInt8))):Int))),[])))) (aD (Zv (x>=256)) (az (Zv (0<=t9)&&Zv (t9<t0)) (Zd (Zy .i64 (Zz .i64 (Zz .i64 (0+8)+Zz .i64 (↑(Zb (Zm t1 (Zw t9) (0:UInt8))):Int))),[]))) (az (Zv (0<=t12)&&Zv (t12<t0)) (Zd (Zy .i64 (Zz .i64 (0+Zz .i64 (↑(Zb (Zm t1 (Zw t12) (0:UInt8))):Int))),[])))))) (by kernel_rfl) ?_;try dsimp only[aK,bq,aE,cT,ak,ci,dx]
 simp only[Zg,Qa2] at aB;obtain⟨h0,h1⟩:=aB;obtain⟨n,rfl⟩:=Xv h0;rw[Kerb.zo];simp only[Kerb.f32,Kerb.f16,Kerb.f8];by_cases h32:2 ^ 32<=n
 ·rw[ah (by simp;omega)];have e32:=Kerb.i_ 32 h32;have b32:n / 2 ^ 32<2 ^ 32:=by omega
  generalize n / 2 ^ 32=m0 at e32 b32 ⊢;by_cases XL:2 ^ 16<=m0
  ·rw[ah (by simp;omega)];have Xs:=Kerb.i_ 16 XL;have W0:m0 / 2 ^ 16<2 ^ 16:=by omega
   generalize m0 / 2 ^ 16=m5 at Xs W0 ⊢;by_cases h8:2 ^ 8<=m5
   ·rw[ah (by simp;omega)];have e8:=Kerb.i_ 8 h8;have b8:m5 / 2 ^ 8<2 ^ 8:=by omega
    generalize m5 / 2 ^ 8=m10 at e8 b8 ⊢;rw[Kerb.mM (by decide +kernel) (by omega) (by decide) (by decide)];have hz:Zz .i64 (Zz .i64 ((32:Int)+(16:Int))+(8:Int))+(Go.Sort.bitsLen m10:Int)=(Go.Sort.bitsLen n:Int):=by
     have:Zz .i64 (Zz .i64 ((32:Int)+(16:Int))+(8:Int))=56:=by decide
     omega
    rw[hz]
   ·rw[aj (by simp;omega)];rw[Kerb.mM (by decide +kernel) (by omega) (by decide) (by decide)];have hz:Zz .i64 ((32:Int)+(16:Int))+(Go.Sort.bitsLen m5:Int)=(Go.Sort.bitsLen n:Int):=by
     have:Zz .i64 ((32:Int)+(16:Int))=48:=by decide
     omega
    rw[hz]
  ·rw[aj (by simp;omega)];by_cases h8:2 ^ 8<=m0
   ·rw[ah (by simp;omega)];have e8:=Kerb.i_ 8 h8;have b8:m0 / 2 ^ 8<2 ^ 8:=by omega
    generalize m0 / 2 ^ 8=m27 at e8 b8 ⊢;rw[Kerb.mM (by decide +kernel) (by omega) (by decide) (by decide)];have hz:Zz .i64 ((32:Int)+(8:Int))+(Go.Sort.bitsLen m27:Int)=(Go.Sort.bitsLen n:Int):=by
     have:Zz .i64 ((32:Int)+(8:Int))=40:=by decide
     omega
    rw[hz]
   ·rw[aj (by simp;omega)];rw[Kerb.mM (by decide +kernel) (by omega) (by decide) (by decide)];have hz:(32:Int)+(Go.Sort.bitsLen m0:Int)=(Go.Sort.bitsLen n:Int):=by
     have:(32:Int)=32:=by decide
     omega
    rw[hz]
 ·rw[aj (by simp;omega)];by_cases XL:2 ^ 16<=n
  ·rw[ah (by simp;omega)];have Xs:=Kerb.i_ 16 XL;have W0:n / 2 ^ 16<2 ^ 16:=by omega
   generalize n / 2 ^ 16=Ws at Xs W0 ⊢;by_cases h8:2 ^ 8<=Ws
   ·rw[ah (by simp;omega)];have e8:=Kerb.i_ 8 h8;have b8:Ws / 2 ^ 8<2 ^ 8:=by omega
    generalize Ws / 2 ^ 8=m49 at e8 b8 ⊢;rw[Kerb.mM (by decide +kernel) (by omega) (by decide) (by decide)];have hz:Zz .i64 (Zz .i64 ((0:Int)+(16:Int))+(8:Int))+(Go.Sort.bitsLen m49:Int)=(Go.Sort.bitsLen n:Int):=by
     have:Zz .i64 (Zz .i64 ((0:Int)+(16:Int))+(8:Int))=24:=by decide
     omega
    rw[hz]
   ·rw[aj (by simp;omega)];rw[Kerb.mM (by decide +kernel) (by omega) (by decide) (by decide)];have hz:Zz .i64 ((0:Int)+(16:Int))+(Go.Sort.bitsLen Ws:Int)=(Go.Sort.bitsLen n:Int):=by
     have:Zz .i64 ((0:Int)+(16:Int))=16:=by decide
     omega
    rw[hz]
  ·rw[aj (by simp;omega)];by_cases h8:2 ^ 8<=n
   ·rw[ah (by simp;omega)];have e8:=Kerb.i_ 8 h8;have b8:n / 2 ^ 8<2 ^ 8:=by omega
    generalize n / 2 ^ 8=m66 at e8 b8 ⊢;rw[Kerb.mM (by decide +kernel) (by omega) (by decide) (by decide)];have hz:Zz .i64 ((0:Int)+(8:Int))+(Go.Sort.bitsLen m66:Int)=(Go.Sort.bitsLen n:Int):=by
     have:Zz .i64 ((0:Int)+(8:Int))=8:=by decide
     omega
    rw[hz]
   ·rw[aj (by simp;omega)];rw[Kerb.mM (by decide +kernel) (by omega) (by decide) (by decide)];have hz:(0:Int)+(Go.Sort.bitsLen n:Int)=(Go.Sort.bitsLen n:Int):=by
     have:(0:Int)=0:=by decide
     omega
    rw[hz]
theorem ab2:Wk 277 1 GB:=by
 refine cA Tryz.func277 rfl fun xs bl r h=> ?_;unfold GB at h;split at h;case h_2=>cases h
 rename_i x;obtain⟨aB,rfl⟩:=dA h;show ea (G.env 277 1) G.rts (G.own 277) Tryz.f277 _ _ [0]=_;refine cw (let t2:Int:=Zz .u64 (↑(BitVec.toNat (BitVec.ofInt (Zp .u64) x ^^^ BitVec.ofInt (Zp .u64) (Zz .u64 (x*2 ^ min (Zw 13) (Zp .u64))))):Int);let t1:Int:=Zz .u64 (↑(BitVec.toNat (BitVec.ofInt (Zp .u64) t2 ^^^ BitVec.ofInt (Zp .u64) (Xy t2 (2 ^ min (Zw 7) (Zp .u64))))):Int);let t0:AV:=Zy .u64 (Zz .u64 (↑(BitVec.toNat (BitVec.ofInt (Zp .u64) t1 ^^^ BitVec.ofInt (Zp .u64) (Zz .u64 (t1*2 ^ min (Zw 17) (Zp .u64))))):Int));Zd (t0,[[t0]])) (by kernel_rfl) ?_;try dsimp only[aK,bq,aE,cT,ak,ci,dx]
 simp only[Zg,Qa2] at aB;obtain⟨h0,h1⟩:=aB;obtain⟨v,rfl⟩:∃ v:BitVec 64,x=(v.toNat:Int):=⟨BitVec.ofNat 64 x.toNat,by rw[BitVec.toNat_ofNat];omega⟩;exact Qb3 (fun z=>Zd (Zy .u64 z,[[Zy .u64 z]])) (Kerb.OE v)
theorem ab5:Wk 280 1 N5:=by
 refine cA Tryz.func280 rfl fun xs bl r h=> ?_;unfold N5 at h;split at h;case h_2=>cases h
 rename_i x;cases h;refine cw (Zd (Zq !x==x,[])) (by kernel_rfl) ?_;simp
theorem w29:Wk 29 2 Sk:=by
 refine cA Tryz.func29 rfl fun xs bl r h=> ?_;unfold Sk at h;split at h;case h_2=>cases h
 rename_i n;cases h;refine cw (aD (Zv ((↑(Zb (Zh (Zw (Yz (↑(Zb n):Int) (↑(Zb (6:UInt8)):Int))))):Int)<(↑(Zb (2:UInt8)):Int))) (Zj (NR [Zy .i64 (Yz (Zz .i64 (↑(Zb n):Int)) 6)] []) (kI .u64 fun n=>Zd (Zy .u64 n,[]))) (Zj (H2 [Zy .i64 (Yz (Zz .i64 (↑(Zb n):Int)) 6)] []) (kI .u64 fun n=>Zd (Zy .u64 n,[])))) (by kernel_rfl) ?_;delta kI;dsimp only[H2,NR,aK,bq,aE,cT,ak,ci,dx];have h:=Kerb.I4 n (m:=6) (by decide);have e1:Zv (0<=Kerb.uw n 6)=Yv:=Qa4 h.1;have e2:Zv (Kerb.uw n 6<=1000)=Yv:=Qa4 (by omega);simp only[A0,Xh,Wz,Kerb.eD.av,e1,e2,Bool.and_self];unfold Kerb.ig;rw[M5];cases Zv (((Zh (Zw (Yz (n.toNat:Int) ((6:UInt8).toNat:Int)))).toNat:Int)<((2:UInt8).toNat:Int))<;>rfl
theorem w60:Wk 60 2 Sr:=by
 refine cA Tryz.func60 rfl fun xs bl r h=> ?_;unfold Sr at h;split at h;case h_2=>cases h
 rename_i n;cases h;refine cw (Zj (H2 [Zy .i64 (Zz .i64 (2+Yz (Zz .i64 (↑(Zb n):Int)) 4))] []) (kI .u64 fun n=>Zd (Zy .u64 n,[]))) (by kernel_rfl) ?_;delta kI;dsimp only[H2,aK,bq,aE,cT,ak,ci,dx];have h:=Kerb.I4 n (m:=4) (by decide);have e0:Go.IntKind.wrap .i64 (2+Kerb.uw n 4)=2+Kerb.uw n 4:=wrap_i64 (by omega) (by omega);have e1:Zv (0<=Go.IntKind.wrap .i64 (2+Kerb.uw n 4))=Yv:=Qa4 (by rw[e0];omega);have e2:Zv (Go.IntKind.wrap .i64 (2+Kerb.uw n 4)<=1000)=Yv:=Qa4 (by rw[e0];omega);simp only[A0,Xh,Wz,Kerb.eD.av,e1,e2,Bool.and_self,Kerb.FR]
theorem w91:Wk 91 2 DK:=by
 refine cA Tryz.func91 rfl fun xs bl r h=> ?_;unfold DK at h;split at h;case h_2=>cases h
 rename_i s;obtain⟨aB,rfl⟩:=dA h;refine cw (aD (Zv ((↑(Zx s):Int)>0)) (Zj (wa [Zk s,Zk [(64:UInt8)]] []) (kL fun b=>Zd (Zq b,[]))) (Zd (Zq Yy,[]))) (by kernel_rfl) ?_;delta kL;dsimp only[wa,aK,bq,aE,cT,ak,ci,dx];simp only[A0];rw[ae (by rw[aB];rfl)];simp only[Kerb.c4];cases s with
 | nil=>rfl
 | cons x r =>
  rw[ah (by first | (simp;done) | (simp;omega)),Bool.and_comm];rfl
theorem w93:Wk 93 2 hX:=by
 refine cA Tryz.func93 rfl fun xs bl r h=> ?_;unfold hX at h;split at h;case h_2=>cases h
 rename_i b n;obtain⟨aB,rfl⟩:=dA h;refine cw (Zj (wb [Zf b,Zy .i64 n,Zy .i64 1,Zq Yy] []) (kO fun l=>Zd (Yf l,[]))) (by kernel_rfl) ?_;delta kO;dsimp only[wb,aK,bq,aE,cT,ak,ci,dx];simp only[Qa2] at aB;simp only[A0];rw[ae (by simp;omega)];rfl
theorem ZP:Wk 105 2 z3:=by
 refine cA Tryz.func105 rfl fun xs bl r h=> ?_;unfold z3 at h;split at h;case h_2=>cases h
 rename_i n;obtain⟨aB,rfl⟩:=dA h;refine cw (az (Zv (0<=Yz n 3)&&Zv (Yz n 3<(↑(Zx [Zk [(65:UInt8),(84:UInt8),(72:UInt8)],Zk [(66:UInt8),(79:UInt8),(83:UInt8)],Zk [(67:UInt8),(65:UInt8),(77:UInt8)]]):Int))&&Yv) (AV.gw (Zm [Zk [(65:UInt8),(84:UInt8),(72:UInt8)],Zk [(66:UInt8),(79:UInt8),(83:UInt8)],Zk [(67:UInt8),(65:UInt8),(77:UInt8)]] (Zw (Yz n 3)) Xu) fun b=>Zd (Zk b,[]))) (by kernel_rfl) ?_;have hn:0<=n:=by first | exact Qa3 aB | (simp only[Zg,Qa2] at aB;exact aB.1)
 have ht:Yz n 3=n % 3:=Yh hn;have vp:n % 3=0\/n % 3=1\/n % 3=2:=by omega
 rcases vp with e | e | e<;>simp[ht,e,az,AV.gw,Kerb.aJ]
theorem ZS:Wk 108 2 iP:=by
 refine cA Tryz.func108 rfl fun xs bl r h=> ?_;unfold iP at h;split at h;case h_2=>cases h
 rename_i b x y z;obtain⟨aB,rfl⟩:=dA h;refine cw (Zj (oa [Zf b,Zk x] []) (kO fun l=>Zj (oa [Zf l,Zk y] []) (kO fun l=>Zj (oa [Zf l,Zk z] []) (kO fun l=>Zd (Yf l,[]))))) (by kernel_rfl) ?_;delta kO;dsimp only[oa,aK,bq,aE,cT,ak,ci,dx];simp only[Qa2] at aB;simp only[A0];rw[ae (by simp;omega),ae (by simp[Kerb.bg];omega),ae (by simp[Kerb.bg];omega)];rfl
theorem ZT:Wk 109 2 ew:=by
 refine cA Tryz.func109 rfl fun xs bl r h=> ?_;unfold ew at h;split at h;case h_2=>cases h
 rename_i b n aq;obtain⟨aB,rfl⟩:=dA h;refine cw (Zj (wb [Zf b,Zy .i64 n,Zy .i64 4,Zq aq] []) (kO fun l=>Zd (Yf l,[]))) (by kernel_rfl) ?_;delta kO;dsimp only[wb,aK,bq,aE,cT,ak,ci,dx];simp only[Qa2] at aB;simp only[A0];rw[ae (by simp;omega)];rfl
theorem ZU:Wk 110 2 kC:=by
 refine cA Tryz.func110 rfl fun xs bl r h=> ?_;unfold kC at h;split at h;case h_2=>cases h
 rename_i b n aq;obtain⟨aB,rfl⟩:=dA h;refine cw (Zj (wb [Zf b,Zy .i64 n,Zy .i64 2,Zq aq] []) (kO fun l=>Zd (Yf l,[]))) (by kernel_rfl) ?_;delta kO;dsimp only[wb,aK,bq,aE,cT,ak,ci,dx];simp only[Qa2] at aB;simp only[A0];rw[ae (by simp;omega)];rfl
theorem ZV:Wk 111 2 sr:=by
 refine cA Tryz.func111 rfl fun xs bl r h=> ?_;unfold sr at h;split at h;case h_2=>cases h
 rename_i s;obtain⟨aB,rfl⟩:=dA h;refine cw (aD (Zv ((↑(Zx s):Int)>0)) (Zj (wa [Zk s,Zk [(46:UInt8),(64:UInt8)]] []) (kL fun b=>Zd (Zq b,[]))) (Zd (Zq Yy,[]))) (by kernel_rfl) ?_;delta kL;dsimp only[wa,aK,bq,aE,cT,ak,ci,dx];simp only[A0];rw[ae (by rw[aB];rfl)];simp only[Kerb.validName];cases s with
 | nil=>rfl
 | cons x r =>
  rw[ah (by first | (simp;done) | (simp;omega)),Bool.and_comm];rfl
theorem ZW:Wk 112 2 ss:=by
 refine cA Tryz.func112 rfl fun xs bl r h=> ?_;unfold ss at h;split at h;case h_2=>cases h
 rename_i s;obtain⟨aB,rfl⟩:=dA h;refine cw (Zj (wa [Zk s,Zk [(64:UInt8)]] []) (kL fun b=>Zd (Zq b,[]))) (by kernel_rfl) ?_;delta kL;dsimp only[wa,aK,bq,aE,cT,ak,ci,dx];simp only[A0];rw[ae (by rw[aB];rfl),Bool.and_comm];rfl
theorem Z_:Wk 136 2 m4:=by
 refine cA Tryz.func136 rfl fun xs bl r h=> ?_;unfold m4 at h;split at h;case h_2=>cases h
 rename_i k;obtain⟨aB,rfl⟩:=dA h;refine cw (let t0:Int:=Zz .i64 (Zz .u64 (↑(BitVec.toNat (BitVec.ofInt (Zp .u64) k &&& BitVec.ofInt (Zp .u64) 72057594037927935)):Int));aD (!k==0) (Zd (Zq ((bif Kerb.nc (Zz .i64 (Xy k (2 ^ min (Zw 56) (Zp .u64))))&&Kerb.ld t0 then Zz .i64 (Xy k (2 ^ min (Zw 56) (Zp .u64)))*72057594037927936+t0 else 0)==k),[])) (Zd (Zq Yy,[]))) (by kernel_rfl) ?_;try dsimp only[aK,bq,aE,cT,ak,ci,dx]
 simp only[Zg,Qa2] at aB;obtain⟨h0,h1⟩:=aB;rw[Kerb.Mh h0 h1,Kerb.Mi h0 h1,Kerb.Ps];by_cases hk:k=0
 ·subst hk;rfl
 rw[ah (by simpa using hk)];unfold Kerb.bp;cases Kerb.nc (Kerb.lj k)&&Kerb.ld (Kerb.kr k)
 ·have q:((0:Int)==k)=Yy:=by simp;omega
  simp only[Qa6,q]
 ·simp only[Qa5,BEq.rfl]
theorem aam:Wk 148 2 qH:=by
 refine cA Tryz.func148 rfl fun xs bl r h=> ?_;unfold qH at h;split at h;case h_2=>cases h
 rename_i b pos n;obtain⟨aB,rfl⟩:=dA h;refine cw (Zj (wg [Zf b,Zy .i64 pos,Zy .i64 n] []) (kI .i64 fun bn=>aD (!bn==0) (Zd (Yq [Zf [],Zy .i64 0,Zy .i64 bn],[])) (az (Zv (0<=pos)&&Zv (pos<=Zz .i64 (pos+n))&&Zv (Zz .i64 (pos+n)<=(↑(Zx b):Int))) (Zj (Ad [Zf (Xb (Zw pos) (Xp (Zw (Zz .i64 (pos+n))) b))] []) (kB fun b=>Zd (Yq [Zf b,Zy .i64 (Zz .i64 (pos+n)),Zy .i64 0],[])))))) (by kernel_rfl) ?_;delta kB kI;dsimp only[wg,Ad,aK,bq,aE,cT,ak,ci,dx];have hb:=Qa3 aB;simp only[A0];rw[ae (by simp;omega)];unfold Kerb.bytes;by_cases hr:Kerb.room b pos n=0
 ·obtain⟨q1,q2,q3,q4⟩:=Kerb.mh.1 hr;have e:Xb (Zw pos) (Xp (Zw (pos+n)) b)=Kerb.cut b pos n:=by
   rw[show Zw (pos+n)=pos.toNat+n.toNat by omega,List.drop_take,show pos.toNat+n.toNat-pos.toNat=n.toNat by omega];rfl
  have hc:=Kerb.j6 hr;rw[aj (by simp[hr]),Qa1 hr,wrap_i64 (by omega) (by omega),e,ae (by simp;omega),ae (by simp;omega)]
 ·rw[ah (by simpa using hr),Qa0 hr]
theorem aaK:Wk 177 2 z_:=by
 refine cA Tryz.func177 rfl fun xs bl r h=> ?_;unfold z_ at h;split at h;case h_2=>cases h
 rename_i k;obtain⟨aB,rfl⟩:=dA h;refine cw (let t0:Int:=Zz .i64 (Zz .u64 (↑(BitVec.toNat (BitVec.ofInt (Zp .u64) k &&& BitVec.ofInt (Zp .u64) 72057594037927935)):Int));let t1:Option (AV×aC):=Zd (Yq [Zy .i64 0,Zy .i64 0,Zq Yy],[]);aD (!Kerb.nc (Zz .i64 (Xy k (2 ^ min (Zw 56) (Zp .u64))))) t1 (aD (!Kerb.ld t0) t1 (Zd (Yq [Zy .i64 (Zz .i64 (Xy k (2 ^ min (Zw 56) (Zp .u64)))),Zy .i64 t0,Zq Yv],[])))) (by kernel_rfl) ?_;try dsimp only[aK,bq,aE,cT,ak,ci,dx]
 simp only[Zg,Qa2] at aB;obtain⟨h0,h1⟩:=aB;rw[Kerb.Mh h0 h1,Kerb.Mi h0 h1];unfold Kerb.bp;cases Kerb.nc (Kerb.lj k)
 ·rfl
 cases Kerb.ld (Kerb.kr k)<;>rfl
theorem aa5:Wk 208 2 Ac:=by
 refine cA Tryz.func208 rfl fun xs bl r h=> ?_;unfold Ac at h;split at h;case h_2=>cases h
 rename_i b pos k aq;obtain⟨aB,rfl⟩:=dA h;refine cw (Zj (wg [Zf b,Zy .i64 pos,Zy .i64 k] []) (kI .i64 fun n=>aD (!n==0) (Zd (Yq [Zy .i64 0,Zy .i64 0,Zy .i64 n],[])) (Zj (bw (fun st=>bq st fun b r=>ak .i64 r fun n r=>ak .i64 r fun bn r=>aE r fun cL r=>ak .i64 r fun bT r=>ak .i64 r fun eO r=>ak .i64 r fun bZ r=>aw r (aD (Zv (bZ<eO)) (aD cL (az (Zv (0<=Zz .i64 (n+Zz .i64 (Zz .i64 (bn-1)-bZ)))&&Zv (Zz .i64 (n+Zz .i64 (Zz .i64 (bn-1)-bZ))<(↑(Zx b):Int))) (Zd (Xw [Zf b,Zy .i64 n,Zy .i64 bn,Zq cL,Zy .i64 (Zz .i64 (↑(BitVec.toNat (BitVec.ofInt (Zp .i64) (Zz .i64 (bT*2 ^ min (Zw 8) (Zp .i64))) ||| BitVec.ofInt (Zp .i64) (Zz .i64 (↑(Zb (Zm b (Zw (Zz .i64 (n+Zz .i64 (Zz .i64 (bn-1)-bZ)))) (0:UInt8))):Int)))):Int)),Zy .i64 eO,Zy .i64 (Zz .i64 (bZ+1))]))) (az (Zv (0<=Zz .i64 (n+bZ))&&Zv (Zz .i64 (n+bZ)<(↑(Zx b):Int))) (Zd (Xw [Zf b,Zy .i64 n,Zy .i64 bn,Zq cL,Zy .i64 (Zz .i64 (↑(BitVec.toNat (BitVec.ofInt (Zp .i64) (Zz .i64 (bT*2 ^ min (Zw 8) (Zp .i64))) ||| BitVec.ofInt (Zp .i64) (Zz .i64 (↑(Zb (Zm b (Zw (Zz .i64 (n+bZ))) (0:UInt8))):Int)))):Int)),Zy .i64 eO,Zy .i64 (Zz .i64 (bZ+1))])))) (Zd (Yg (Yu 0,[Zf b,Zy .i64 n,Zy .i64 bn,Zq cL,Zy .i64 bT,Zy .i64 eO,Zy .i64 bZ]))))) [Zf b,Zy .i64 pos,Zy .i64 k,Zq aq,Zy .i64 0,Zy .i64 k,Zy .i64 0]) fun(r:Ex×List AV)=>bq (Xj r) fun b eI=>ak .i64 eI fun n eS=>ak .i64 eS fun bn eZ=>aE eZ fun b f_=>ak .i64 f_ fun bT iq=>ak .i64 iq fun eO ju=>ak .i64 ju fun bZ lE=>aw lE (jp r.1 Wj fun(j:Nat)=>aD (Xk j 0) (Zd (Yq [Zy .i64 bT,Zy .i64 (Zz .i64 (n+bn)),Zy .i64 0],[])) Wj)))) (by kernel_rfl) ?_;delta kI;dsimp only[wg,aK,bq,aE,cT,ak,ci,dx];simp only[Zg,Qa2] at aB;obtain⟨⟨hb,Pm⟩,mz⟩:=aB;simp only[A0];rw[ae (by simpa using hb)];unfold Kerb.get;by_cases hr:Kerb.room b pos k=0
 ·rw[aj (by simp[hr]),Qa1 hr];obtain⟨q1,q2,q3,q4⟩:=Kerb.mh.1 hr;have xp:=Kerb.j6 hr;obtain⟨L,hL⟩:∃ L,L=cond aq (Kerb.cut b pos k).reverse (Kerb.cut b pos k):=⟨_,rfl⟩;have hLl:L.length=k.toNat:=by rw[hL];cases aq<;>simp[xp]
  rw[<-hL];refine b_ (fun i:Nat=>[Zf b,Zy Zu pos,Zy Zu k,Zq aq,Zy Zu (Kerb.lJ (L.take i)),Zy Zu k,Zy Zu (i:Int)]) (fun i=>i<=k.toNat) (fun i=>k.toNat-i)
   (fun r=>r=(Yu 0,[Zf b,Zy Zu pos,Zy Zu k,Zq aq,Zy Zu (Kerb.lJ L),Zy Zu k,Zy Zu k])) 0 (Ww _) rfl ?_ ?_
  ·intro i hi;simp only[A0];by_cases eY:i<k.toNat
   ·rw[ah (by simp;omega)];have hv:=Kerb.I_ (l:=L.take i) (by simp;omega);have hs:=Kerb.Cm (l:=L) (i:=i) (by omega);have hgd:L.getD i 0=b.getD (cond aq (pos.toNat+(k.toNat-1-i)) (pos.toNat+i)) 0:=by
     rw[hL];cases aq
     ·exact Kerb.Es eY
     ·show(Kerb.cut b pos k).reverse.getD i 0=_;rw[Kerb.CS (by omega),xp,Kerb.Es (by omega)];rfl
    cases aq
    ·rw[aj rfl,wrap_i64 (n:=pos+(i:Int)) (by omega) (by omega),ae (by simp;omega),show(pos+(i:Int)).toNat=pos.toNat+i from by omega];rw[Kerb.I5 _ hv.1 (by omega),wrap_i64 (n:=(i:Int)+1) (by omega) (by omega)];refine⟨_,rfl,i+1,?_,by omega,by dsimp only;omega⟩;dsimp only;rw[hs,hgd];rfl
    ·rw[ah rfl,wrap_i64 (n:=k-1) (by omega) (by omega),wrap_i64 (n:=k-1-(i:Int)) (by omega) (by omega),wrap_i64 (n:=pos+(k-1-(i:Int))) (by omega) (by omega),ae (by simp;omega),show(pos+(k-1-(i:Int))).toNat=pos.toNat+(k.toNat-1-i) from by omega];rw[Kerb.I5 _ hv.1 (by omega),wrap_i64 (n:=(i:Int)+1) (by omega) (by omega)];refine⟨_,rfl,i+1,?_,by omega,by dsimp only;omega⟩;dsimp only;rw[hs,hgd];rfl
   ·rw[aj (by simp;omega)];refine⟨_,rfl,?_⟩;show _=_;rw[Xm (by omega),show(i:Int)=k from by omega]
  ·rintro r rfl;simp only[A0];rw[ah (Yw _),wrap_i64 (by omega) (by omega)]
 ·rw[ah (by simpa using hr),Qa0 hr]
theorem aa8:Wk 212 2 NE:=by
 refine cA Tryz.func212 rfl fun xs bl r h=> ?_;unfold NE at h;split at h;case h_2=>cases h
 rename_i s c;cases h;refine cw (Zd (Zy .i64 (Yx c s),[])) (by kernel_rfl) ?_;rfl
theorem abd:Wk 217 2 NG:=by
 refine cA Tryz.func217 rfl fun xs bl r h=> ?_;unfold NG at h;split at h;case h_2=>cases h
 rename_i els;obtain⟨aB,rfl⟩:=dA h;refine cw (Zj (bw (fun st=>ci 1 st fun b r=>ak .i64 r fun n r=>ci 1 r fun cL r=>ak .i64 r fun bn r=>ak .i64 r fun bT r=>aw r (aD (Zv (bT<bn)) (az (Zv (0<=bT)&&Zv (bT<(↑(Zx cL):Int))&&Yv) (AV.eH (Zm cL (Zw bT) Xu) fun eP=>aD (Zv (Zz .i64 (n+(↑(Zx eP):Int))<0)) Wj (Zd (Xw [Xg 1 b,Zy .i64 (Zz .i64 (n+(↑(Zx eP):Int))),Xg 1 cL,Zy .i64 bn,Zy .i64 (Zz .i64 (bT+1))])))) (Zd (Yg (Yu 0,[Xg 1 b,Zy .i64 n,Xg 1 cL,Zy .i64 bn,Zy .i64 bT]))))) [Xg 1 els,Zy .i64 0,Xg 1 els,Zy .i64 (↑(Zx els):Int),Zy .i64 0]) fun(r:Ex×List AV)=>ci 1 (Xj r) fun b eI=>ak .i64 eI fun n eS=>ci 1 eS fun cL eZ=>ak .i64 eZ fun bn f_=>ak .i64 f_ fun bT iq=>aw iq (jp r.1 Wj fun(j:Nat)=>aD (Xk j 0) (Zj (Gr [AV.cJ,Zy .i64 n] []) (kO fun l=>Zj (bw (fun st=>ay st fun x r=>AV.eF x fun b=>ci 1 r fun eP r=>ak .i64 r fun n r=>ak .i64 r fun eO r=>aw r (aD (Zv (eO<n)) (az (Zv (0<=eO)&&Zv (eO<(↑(Zx eP):Int))&&Yv) (AV.eH (Zm eP (Zw eO) Xu) fun eX=>az (room (Zx b+Zx eX) 1) (Zd (Xw [Yf (b++eX),Xg 1 eP,Zy .i64 n,Zy .i64 (Zz .i64 (eO+1))])))) (Zd (Yg (Yu 2,[Yf b,Xg 1 eP,Zy .i64 n,Zy .i64 eO]))))) [Yf l,Xg 1 b,Zy .i64 (↑(Zx b):Int),Zy .i64 0]) fun(r:Ex×List AV)=>ay (Xj r) fun x ju=>AV.eF x fun b=>ci 1 ju fun eP lE=>ak .i64 lE fun n mT=>ak .i64 mT fun n mg=>aw mg (jp r.1 Wj fun(j:Nat)=>aD (Xk j 2) (Zd (Yf b,[])) Wj))) Wj)) (by kernel_rfl) ?_;delta kO;dsimp only[Gr,aK,bq,aE,cT,ak,ci,dx];simp only[Zg,Qa2] at aB;obtain⟨⟨ha,hl⟩,vo⟩:=aB;refine b_ (fun i:Nat=>[Xg 1 els,Zy Zu ((ra (els.take i)).length:Int),Xg 1 els,Zy Zu (els.length:Int),Zy Zu (i:Int)]) (fun i=>i<=els.length) (fun i=>els.length-i)
  (fun r=>r=(Yu 0,[Xg 1 els,Zy Zu ((ra els).length:Int),Xg 1 els,Zy Zu (els.length:Int),Zy Zu (els.length:Int)])) 0 (Ww _) rfl ?_ ?_
 ·intro i hi;simp only[A0];by_cases eY:i<els.length
  ·obtain⟨l,h1,h2,h3⟩:=Kerb.yv ha eY;rw[ah (by simp;omega),ae (by simp;omega),Ym,h1,vO,wrap_i64 (n:=((ra (els.take i)).length:Int)+(l.length:Int)) (by omega) (by omega),aj (by simp;omega),wrap_i64 (by omega) (by omega)];refine⟨_,rfl,i+1,?_,by omega,by dsimp only;omega⟩;dsimp only;rw[h2,List.length_append,Int.natCast_add];rfl
  ·rw[aj (by simp;omega)];refine⟨_,rfl,?_⟩;show _=_;rw[Xm (by omega),show i=els.length from by omega]
 rintro r rfl;simp only[A0];rw[ah (Yw _),ae (by simp;omega)];refine b_ (fun i:Nat=>[Yf (ra (els.take i)),Xg 1 els,Zy Zu (els.length:Int),Zy Zu (i:Int)]) (fun i=>i<=els.length) (fun i=>els.length-i)
  (fun r=>r=(Yu 2,[Yf (ra els),Xg 1 els,Zy Zu (els.length:Int),Zy Zu (els.length:Int)])) 0 (Ww _) rfl ?_ ?_
 ·intro i hi;simp only[A0];by_cases eY:i<els.length
  ·obtain⟨l,h1,h2,h3⟩:=Kerb.yv ha eY;rw[ah (by simp;omega),ae (by simp;omega),Ym,h1,vO,ae (Xx (by omega)),wrap_i64 (by omega) (by omega)];refine⟨_,rfl,i+1,?_,by omega,by dsimp only;omega⟩;dsimp only;rw[h2];rfl
  ·rw[aj (by simp;omega)];refine⟨_,rfl,?_⟩;show _=_;rw[Xm (by omega),show i=els.length from by omega]
 rintro r rfl;simp only[A0];rw[ah (Yw _)]
theorem abo:Wk 228 2 NK:=by
 refine cA Tryz.func228 rfl fun xs bl r h=> ?_;unfold NK at h;split at h;case h_2=>cases h
 rename_i a b;cases h;refine cw (aD (Zn a 4294967295) (aD (Zn b 4294967295) (Zd (Zq (Zv (a<=b)),[])) (Zd (Zq Yy,[]))) (Zd (Zq Yy,[]))) (by kernel_rfl) ?_;unfold Kerb.period;cases Zn a 4294967295
 ·rfl
 cases Zn b 4294967295<;>rfl
theorem abw:Wk 240 2 NS:=by
 refine cA Tryz.func240 rfl fun xs bl r h=> ?_;unfold NS at h;split at h;case h_2=>cases h
 rename_i b;cases h;refine cw (aD (Zv ((↑(Zx b):Int)<2)) (Zd (Yq [Zy .i64 0,Zq Yy,Zy .i64 101],[])) (az (Zv (0<(↑(Zx b):Int))) (aD (!Zm b (Zw 0) (0:UInt8)==(4:UInt8)) (Zd (Yq [Zy .i64 0,Zq Yy,Zy .i64 39],[])) (az (Zv (1<(↑(Zx b):Int))) (aD (!Xq (Zz .i64 (Wq (Zz .i64 (↑(Zb (Zm b (Zw 1) (0:UInt8))):Int)) 2))) (Zd (Yq [Zy .i64 0,Zq Yy,Zy .i64 40],[])) (az (Zv (1<(↑(Zx b):Int))) (Zd (Yq [Zy .i64 (Zz .i64 (Wq (Zz .i64 (↑(Zb (Zm b (Zw 1) (0:UInt8))):Int)) 2)),Zq (Zh (Zw (Yz (↑(Zb (Zm b (Zw 1) (0:UInt8))):Int) (↑(Zb (2:UInt8)):Int)))==(1:UInt8)),Zy .i64 0],[])))))))) (by kernel_rfl) ?_;unfold Kerb.dB;by_cases h1:b.length<2
 ·rw[ah (by simp;omega)];simp[h1]
 rw[aj (by simp;omega),ae (by simp;omega),Qa0 h1];by_cases h2:b.getD 0 0=4
 ·have hb:=(b.getD 1 0).toNat_lt;have e:Zz Zu (Wq (Zz Zu ((b.getD (Zw 1) 0).toNat:Int)) 2)=(((b.getD 1 0).toNat / 2:Nat):Int):=by
   rw[show Zw 1=1 from rfl,wrap_i64 (n:=((b.getD 1 0).toNat:Int)) (by omega) (by omega),Wu (by omega),wrap_i64 (by omega) (by omega)];omega
  have e2:(Zh (Zw (Yz ((b.getD (Zw 1) 0).toNat:Int) ((2:UInt8).toNat:Int)))==1)=Zv ((b.getD 1 0).toNat % 2=1):=by
   rw[show Zw 1=1 from rfl,Yh (by omega)];have e3:Zw (((b.getD 1 0).toNat:Int) % ((2:UInt8).toNat:Int))=(b.getD 1 0).toNat % 2:=by
    show Zw (((b.getD 1 0).toNat:Int) % 2)=_;omega
   rw[e3];rcases Nat.mod_two_eq_zero_or_one (b.getD 1 0).toNat with h | h<;>rw[h]<;>rfl
  rw[aj (by simp[h2] at *;exact h2),ae (by simp;omega),Qa0 (by simpa using h2),e,e2];cases hk:Xq (((b.getD 1 0).toNat / 2:Nat):Int)
  ·rfl
  ·rw[Yj,aA,ae (by simp;omega)];rfl
 ·rw[ah (by simpa using h2),Qa1 (by simpa using h2)]
theorem aby:Wk 242 2 NT:=by
 refine cA Tryz.func242 rfl fun xs bl r h=> ?_;unfold NT at h;split at h;case h_2=>cases h
 rename_i k aq;cases h;refine cw (aD (!Xq k) (Zd (Zf [],[])) (aD aq (Zd (Zf [(4:UInt8),Zh (Zw (Zz .u8 (Zz .i64 (Zz .i64 (2*k)+1))))],[])) (Zd (Zf [(4:UInt8),Zh (Zw (Zz .u8 (Zz .i64 (2*k))))],[])))) (by kernel_rfl) ?_;by_cases h:1<=k/\k<=10
 ·have hk:k=1\/k=2\/k=3\/k=4\/k=5\/k=6\/k=7\/k=8\/k=9\/k=10:=by omega
  rcases hk with rfl | rfl | rfl | rfl | rfl | rfl | rfl | rfl | rfl | rfl<;>cases aq<;>rfl
 ·have hk:Xq k=Yy:=by simp[Xq];omega
  by_cases h1:k<1
  ·simp[aD,Xn,hk,h1]
  ·have h2:10<k:=by omega
   simp[aD,Xn,hk,h1,h2]
theorem abM:Wk 260 2 Ak:=by
 refine cA Tryz.func260 rfl fun xs bl r h=> ?_;unfold Ak at h;split at h;case h_2=>cases h
 rename_i x;obtain⟨aB,rfl⟩:=dA h;refine cw (Zj (Gz [Zy .u64 x] []) (kI .i64 fun n=>Zd (Zy .i64 n,[]))) (by kernel_rfl) ?_;delta kI;dsimp only[Gz,aK,bq,aE,cT,ak,ci,dx];simp only[Kerb.Dm,Bool.true_and,Zg,Qa2] at aB;rw[ae (by simp;omega)];rfl
theorem abV:Wk 269 2 N1:=by
 refine cA Tryz.func269 rfl fun xs bl r h=> ?_;unfold N1 at h;split at h;case h_2=>cases h
 rename_i x y;cases h;refine cw (Zd (Zq (Zv (x<y)),[])) (by kernel_rfl) ?_;rfl
theorem ab6:Wk 281 2 N6:=by
 refine cA Tryz.func281 rfl fun xs bl r h=> ?_;unfold N6 at h;split at h;case h_2=>cases h
 rename_i s c;cases h;refine cw (Zd (Zy .i64 (Yx c s),[])) (by kernel_rfl) ?_;rfl
theorem w25:Wk 25 3 NV:=by
 refine cA Tryz.func25 rfl fun xs bl r h=> ?_;unfold NV at h;split at h;case h_2=>cases h
 rename_i li mu kv rl tk au;obtain⟨aB,rfl⟩:=dA h;refine cw (Zj (DK [Zk rl] []) (kL fun b=>aD (!b) (Zd (Yq [Zf [],Zy .i64 103],[])) (aD (!Zn kv 255) (Zd (Yq [Zf [],Zy .i64 104],[])) (aD (Zv ((↑(Zx tk):Int)>255)) (Zd (Yq [Zf [],Zy .i64 105],[])) (aD (Zv ((↑(Zx au):Int)>255)) (Zd (Yq [Zf [],Zy .i64 105],[])) (aD mu (Zj (hX [Zf (Xn 4 li),Zy .i64 kv] []) (kO fun l=>Zj (oa [Zf l,Zk rl] []) (kO fun l=>Zj (hX [Zf l,Zy .i64 (↑(Zx tk):Int)] []) (kO fun l=>Zj (hX [Zf l,Zy .i64 (↑(Zx au):Int)] []) (kO fun l=>az (room (Zx l+Zx tk) 1) (az (room (Zx (l++tk)+Zx au) 1) (Zd (Yq [Zf (l++tk++au),Zy .i64 0],[])))))))) (Zj (hX [Zf (Xn 3 li),Zy .i64 kv] []) (kO fun l=>Zj (oa [Zf l,Zk rl] []) (kO fun l=>Zj (hX [Zf l,Zy .i64 (↑(Zx tk):Int)] []) (kO fun l=>Zj (hX [Zf l,Zy .i64 (↑(Zx au):Int)] []) (kO fun l=>az (room (Zx l+Zx tk) 1) (az (room (Zx (l++tk)+Zx au) 1) (Zd (Yq [Zf (l++tk++au),Zy .i64 0],[])))))))))))))) (by kernel_rfl) ?_;delta kO kL;dsimp only[DK,hX,oa,aK,bq,aE,cT,ak,ci,dx];simp only[A0,Xh,Wz,Kerb.eD.av,aB];unfold Kerb.cH;simp only;cases h1:Kerb.c4 rl
 ·rfl
 rw[Yj,aA,Qa0 (by simp)];cases h2:Zn kv 255
 ·rfl
 rw[Yj,aA,Qa0 (by simp)];by_cases h3:255<tk.length
 ·rw[ah (by simp;omega),Qa1 (.inl h3)]
 rw[aj (by simp;omega)];by_cases h4:255<au.length
 ·rw[ah (by simp;omega),Qa1 (.inr h4)]
 rw[aj (by simp;omega),Qa0 (by omega)];have l1:=Kerb.gx h1;have g3:=Kerb.jd 3 li;have g4:=Kerb.jd 4 li;cases mu
 ·rw[aA,ae (by simp;omega),ae (by simp[Yd];omega),ae (by simp[Yd,Kerb.bH];omega),ae (by simp[Yd,Kerb.bH];omega),ae (Xx (by simp[Yd,Kerb.bH];omega)),ae (Xx (by simp[Yd,Kerb.bH];omega))];rfl
 ·rw[cc,ae (by simp;omega),ae (by simp[Yd];omega),ae (by simp[Yd,Kerb.bH];omega),ae (by simp[Yd,Kerb.bH];omega),ae (Xx (by simp[Yd,Kerb.bH];omega)),ae (Xx (by simp[Yd,Kerb.bH];omega))];rfl
theorem w36:Wk 36 3 H4:=by
 refine cA Tryz.func36 rfl fun xs bl r h=> ?_;unfold H4 at h;split at h;case h_2=>cases h
 rename_i n;obtain⟨aB,rfl⟩:=dA h;refine cw (az (Zv (0<=Yz n 3)&&Zv (Yz n 3<(↑(Zx [Zk [(97:UInt8),(110:UInt8),(110:UInt8)],Zk [(98:UInt8),(111:UInt8),(98:UInt8)],Zk [(99:UInt8),(97:UInt8),(116:UInt8)]]):Int))&&Yv) (AV.gw (Zm [Zk [(97:UInt8),(110:UInt8),(110:UInt8)],Zk [(98:UInt8),(111:UInt8),(98:UInt8)],Zk [(99:UInt8),(97:UInt8),(116:UInt8)]] (Zw (Yz n 3)) Xu) fun b=>Zj (z3 [Zy .i64 (Zz .i64 (Wq n 3))] []) (kS fun cL=>Zd (AV.agg [Zk b,Zk [],Zk cL],[])))) (by kernel_rfl) ?_;delta kS;dsimp only[z3,aK,bq,aE,cT,ak,ci,dx];have hn:0<=n:=by first | exact Qa3 aB | (simp only[Zg,Qa2] at aB;exact aB.1)
 have ht:Yz n 3=n % 3:=Yh hn;have vp:n % 3=0\/n % 3=1\/n % 3=2:=by omega
 simp only[Zg,Qa2] at aB;have hd:Wq n 3=n / 3:=Wu hn;rw[hd,wrap_i64 (by omega) (by omega)];have hq:Zv ((0:Int)<=n / 3)=Yv:=by simp;omega
 rcases vp with e | e | e<;>simp[ht,e,az,AV.gw,Kerb.user,hq,aM]<;>omega
theorem w40:Wk 40 3 Sn:=by
 refine cA Tryz.func40 rfl fun xs bl r h=> ?_;unfold Sn at h;split at h;case h_2=>cases h
 rename_i s li;cases h;refine cw (aD (Zv ((↑(Zx s):Int)>1012)) (Zd (Yq [Zf [],Zy .i64 105],[])) (Zj (kC [Zf (Xn 8 li),Zy .i64 (↑(Zx s):Int),Zq li] []) (kO fun l=>az (room (Zx l+Zx s) 1) (Zd (Yq [Zf (l++s),Zy .i64 0],[]))))) (by kernel_rfl) ?_;delta kO;dsimp only[kC,aK,bq,aE,cT,ak,ci,dx];unfold Kerb.dM;by_cases h:1012<s.length
 ·rw[ah (by simp;omega),Qa1 h]
 rw[aj (by simp;omega),Qa0 h];have hl:(Xn 8 li).length=2:=by cases li<;>rfl
 simp only[↓A0];rw[ae (by simp[hl]),ae (by simp[room,Yd,hl];omega)]
theorem w42:Wk 42 3 Sq:=by
 refine cA Tryz.func42 rfl fun xs bl r h=> ?_;unfold Sq at h;split at h;case h_2=>cases h
 rename_i op cd bx;cases h;refine cw (let t0:Option (AV×aC):=Zj (hX [Zf (Xn 9 Yy++Wv (Zz .i64 (op+128)) 1 Yy),Zy .i64 cd] []) (kO fun l=>Zj (kC [Zf l,Zy .i64 (↑(Zx bx):Int),Zq Yy] []) (kO fun l=>az (room (Zx l+Zx bx) 1) (Zd (Yq [Zf (l++bx),Zy .i64 0],[]))));aD (Zv (op<1)) (Zd (Yq [Zf [],Zy .i64 40],[])) (aD (Zv (op>3)) (Zd (Yq [Zf [],Zy .i64 40],[])) (aD (Zv (cd<0)) (Zd (Yq [Zf [],Zy .i64 104],[])) (aD (Zv (cd>99)) (Zd (Yq [Zf [],Zy .i64 104],[])) (aD (Zv ((↑(Zx bx):Int)>1012)) (Zd (Yq [Zf [],Zy .i64 105],[])) (aD (!cd==0) (aD (Zv ((↑(Zx bx):Int)>0)) (Zd (Yq [Zf [],Zy .i64 108],[])) t0) t0)))))) (by kernel_rfl) ?_;delta kO;dsimp only[hX,kC,aK,bq,aE,cT,ak,ci,dx];simp only[A0];have p_:(Xn 9 Yy).length=2:=rfl;unfold Kerb.cg;simp only;by_cases h0:1<=op/\op<=3;case neg =>
  have e:Kerb.lh op=Yy:=by simp[Kerb.lh];omega
  rw[e];by_cases h1:op<1
  ·rw[ah (by simpa using h1)];rfl
  ·rw[aj (by simpa using h1),ah (by simp;omega)];rfl
 have e:Kerb.lh op=Yv:=by simp[Kerb.lh];omega
 rw[e,aj (by simp;omega),aj (by simp;omega),Qa0 (by simp)];by_cases h1:0<=cd/\cd<=99;case neg =>
  have e:Zn cd 99=Yy:=by simp[Zn];omega
  rw[e];by_cases h2:cd<0
  ·rw[ah (by simpa using h2)];rfl
  ·rw[aj (by simpa using h2),ah (by simp;omega)];rfl
 have e:Zn cd 99=Yv:=by simp[Zn];omega
 rw[e,aj (by simp;omega),aj (by simp;omega),Qa0 (by simp)];by_cases h2:1012<bx.length
 ·rw[ah (by simp;omega),Qa1 h2]
 rw[aj (by simp;omega),Qa0 h2,wrap_i64 (by omega) (by omega)];by_cases h3:cd=0
 ·rw[aj (by simp[h3]),Qa0 (by simp[h3]),ae (by simp[Yd,p_]),ae (by simp[Yd,p_]),ae (Xx (by simp[Yd,p_];omega))];rfl
 rw[ah (by simpa using h3)];by_cases h4:bx=[]
 ·rw[aj (by simp[h4]),Qa0 (by simp[h4]),ae (by simp[Yd,p_]),ae (by simp[Yd,p_]),ae (Xx (by simp[Yd,p_];omega))];rfl
 ·rw[ah (by have:=List.length_pos_iff.2 h4;simp;omega),Qa1 ⟨h3,h4⟩]
theorem w59:Wk 59 3 Oc:=by
 refine cA Tryz.func59 rfl fun xs bl r h=> ?_;unfold Oc at h;split at h;case h_2=>cases h
 rename_i n;obtain⟨aB,rfl⟩:=dA h;refine cw (let t1:List AV:=[AV.agg [Zk [(109:UInt8),(97:UInt8),(105:UInt8),(108:UInt8)],Zk [],Zk []],AV.agg [Zk [(110:UInt8),(102:UInt8),(115:UInt8)],Zk [(104:UInt8),(111:UInt8),(109:UInt8),(101:UInt8)],Zk []],AV.agg [Zk ([107,114,98,116,103,116]:List UInt8),Zk [(65:UInt8),(84:UInt8),(72:UInt8)],Zk []]];let t0:Int:=(↑(Zx t1):Int);az (Zv (0<=Yz n 3)&&Zv (Yz n 3<t0)&&Yv) (AV.eu (Zm t1 (Zw (Yz n 3)) Xu) fun cs=>aK cs fun b r=>aK r fun cL r=>aK r fun eP r=>aw r (Zj (z3 [Zy .i64 (Zz .i64 (Wq n 3))] []) (kS fun eX=>Zd (AV.agg [Zk b,Zk cL,Zk eX],[]))))) (by kernel_rfl) ?_;delta kS;dsimp only[z3,aK,bq,aE,cT,ak,ci,dx];have hn:0<=n:=by first | exact Qa3 aB | (simp only[Zg,Qa2] at aB;exact aB.1)
 have ht:Yz n 3=n % 3:=Yh hn;have vp:n % 3=0\/n % 3=1\/n % 3=2:=by omega
 simp only[Zg,Qa2] at aB;have hd:Wq n 3=n / 3:=Wu hn;rw[hd,wrap_i64 (by omega) (by omega)];have hq:Zv ((0:Int)<=n / 3)=Yv:=by simp;omega
 rcases vp with e | e | e<;>simp[ht,e,az,AV.gw,AV.eu,ay,aw,Kerb.service,hq,aM]<;>omega
theorem w67:Wk 67 3 Og:=by
 refine cA Tryz.func67 rfl fun xs bl r h=> ?_;unfold Og at h;split at h;case h_2=>cases h
 rename_i lb t st en k;obtain⟨aB,rfl⟩:=dA h;refine cw (let t5:Option (AV×aC):=Zd (Yq [Yf [],Zy .i64 104],[]);let t6:Option (AV×aC):=Zd (Yq [Yf [],Zy .i64 108],[]);let t7:Bool:=lb==[(103:UInt8),(84:UInt8),(75:UInt8),(84:UInt8)];let t4:Option (AV×aC):=Zj (ew [Zf lb,Zy .i64 t,Zq Yy] []) (kO fun l=>aD t7 (Zj (ew [Zf l,Zy .i64 st,Zq Yy] []) (kO fun l=>Zj (ew [Zf l,Zy .i64 en,Zq Yy] []) (kO fun l=>Zj (ii [Zf l] []) (kO fun l=>Zd (Yq [Yf l,Zy .i64 0],[]))))) (Zj (lI [Zy .u64 k] []) (kB fun b=>az (room (Zx l+Zx b) 1) (Zj (ii [Zf (l++b)] []) (kO fun l=>Zd (Yq [Yf l,Zy .i64 0],[]))))));let t3:Option (AV×aC):=aD (!t7) (aD (!st==0) t6 (aD (!en==0) t6 t4)) t4;let t2:Option (AV×aC):=aD t7 (aD (!k==0) t6 t3) t3;let t1:Option (AV×aC):=aD (!t7) (Zj (m4 [Zy .u64 k] []) (kL fun b=>aD (!b) (Zd (Yq [Yf [],Zy .i64 10],[])) t2)) t2;let t0:Option (AV×aC):=aD (!Zn t 4294967295) t5 (aD t7 (aD (!Zn st 4294967295) t5 (aD (!Zn en 4294967295) t5 t1)) t1);aD (lb==[(103:UInt8),(84:UInt8),(71:UInt8),(83:UInt8)]) (aD (!Zn t 4294967295) t5 (aD (!Zn st 4294967295) t5 (aD (!Zn en 4294967295) t5 (aD (!k==0) t6 (Zj (ew [Zf lb,Zy .i64 t,Zq Yy] []) (kO fun l=>Zj (ew [Zf l,Zy .i64 st,Zq Yy] []) (kO fun l=>Zj (ew [Zf l,Zy .i64 en,Zq Yy] []) (kO fun l=>Zj (ii [Zf l] []) (kO fun l=>Zd (Yq [Yf l,Zy .i64 0],[])))))))))) (aD (!t7) (aD (!lb==[(67:UInt8),(80:UInt8),(87:UInt8),(108:UInt8)]) (Zd (Yq [Yf [],Zy .i64 80],[])) t0) t0)) (by kernel_rfl) ?_;delta kB kO kL;dsimp only[ew,m4,lI,ii,aK,bq,aE,cT,ak,ci,dx];have O_:([103,84,71,83]:List UInt8)=Kerb.vB:=rfl;have Iv:([103,84,75,84]:List UInt8)=Kerb.lq:=rfl;have Ly:([67,80,87,108]:List UInt8)=Kerb.g9:=rfl;have Ey:([67,80,87,100]:List UInt8)=Kerb.po:=rfl;have O':([116,103,115,84]:List UInt8)=Kerb.zn:=rfl;have CG:([116,107,116,71]:List UInt8)=Kerb.qc:=rfl;simp only[A0,Ly,O_,Iv,aB];unfold Kerb.aW;simp only;cases hg:(lb==Kerb.vB);case true =>
  have ht:Kerb.iQ lb=Yv:=by simp[Kerb.iQ,hg]
  have hl:lb.length=4:=by rw[Qa9 hg];rfl
  simp only[ht,cc,Yj,Bool.false_and];rw[Qa0 (by simp)];cases h1:Zn t 4294967295
  ·rfl
  rw[Yj,aA,Qa0 (by simp),Qa1 trivial];cases h2:Zn st 4294967295
  ·rfl
  rw[Yj,aA];cases h3:Zn en 4294967295
  ·rfl
  rw[Yj,aA,Qa0 (by simp)];by_cases h4:k=0;case neg=>rw[ah (by simpa using h4),Qa1 h4]
  rw[aj (by simp[h4]),Qa0 (by simp[h4]),ae (by simp;omega),ae (by simp[Yd];omega),ae (by simp[Yd];omega),ae (by simp[Yd];omega)]
 cases hk:(lb==Kerb.lq);case true =>
  have ht:Kerb.iQ lb=Yv:=by simp[Kerb.iQ,hk]
  have hl:lb.length=4:=by rw[Qa9 hk];rfl
  simp only[ht,cc,aA,Yj,Bool.false_and];rw[Qa0 (by simp)];cases h1:Zn t 4294967295
  ·rfl
  rw[Yj,aA,Qa0 (by simp),Qa1 trivial];cases h2:Zn st 4294967295
  ·rfl
  rw[Yj,aA];cases h3:Zn en 4294967295
  ·rfl
  rw[Yj,aA,Qa0 (by simp)];by_cases h4:k=0;case neg=>rw[ah (by simpa using h4),Qa1 h4]
  rw[aj (by simp[h4]),Qa0 (by simp[h4]),ae (by simp;omega),ae (by simp[Yd];omega),ae (by simp[Yd];omega),ae (by simp[Yd];omega)]
 have ht:Kerb.iQ lb=Yy:=by simp[Kerb.iQ,hg,hk]
 simp only[ht,cc,aA,Bool.not_false,Bool.true_and];cases hc:(lb==Kerb.g9)
 ·rfl
 have hl:lb.length=4:=by rw[Qa9 hc];rfl
 rw[Yj,aA,Qa0 (by simp)];cases h1:Zn t 4294967295
 ·rfl
 rw[Yj,aA,Qa0 (by simp),Qa0 (by simp)];cases h2:Kerb.bp k
 ·rfl
 rw[Yj,aA,Qa0 (by simp)];by_cases h3:st=0;case neg=>rw[ah (by simpa using h3),Qa1 (.inl h3)]
 rw[aj (by simp[h3])];by_cases h4:en=0;case neg=>rw[ah (by simpa using h4),Qa1 (.inr h4)]
 rw[aj (by simp[h4]),Qa0 (by simp[h3,h4]),ae (by simp;omega),ae (Xx (by simp[Yd,Kerb.ag];omega)),ae (by simp[Yd,Kerb.ag];omega)]
theorem w71:Wk 71 3 H6:=by
 refine cA Tryz.func71 rfl fun xs bl r h=> ?_;unfold H6 at h;split at h;case h_2=>cases h
 rename_i kd k bd;obtain⟨aB,rfl⟩:=dA h;refine cw (let t0:List UInt8:=[Zh (Zw (Zz .u8 (Xy (↑(Zx bd):Int) (2 ^ min (Zw 8) (Zp .i64))))),Zh (Zw (Zz .u8 (↑(Zx bd):Int)))];let t1:List UInt8:=[(66:UInt8),Zh (Zw (Zz .u8 kd))];aD (Zv (kd<1)) (Zd (Yq [Zf [],Zy .i64 104],[])) (aD (Zv (kd>10)) (Zd (Yq [Zf [],Zy .i64 104],[])) (Zj (m4 [Zy .u64 k] []) (kL fun b=>aD (!b) (Zd (Yq [Zf [],Zy .i64 10],[])) (aD (Zv ((↑(Zx bd):Int)>1000)) (Zd (Yq [Zf [],Zy .i64 105],[])) (Zj (lI [Zy .u64 k] []) (kB fun b=>az (room (Zx t1+Zx b) 1) (az (room (Zx (t1++b)+Zx t0) 1) (az (room (Zx (t1++b++t0)+Zx bd) 1) (Zd (Yq [Zf (t1++b++t0++bd),Zy .i64 0],[]))))))))))) (by kernel_rfl) ?_;delta kB kL;dsimp only[m4,lI,aK,bq,aE,cT,ak,ci,dx];simp only[A0,Xh,Wz,Kerb.eD.av,aB];unfold Kerb.fO;by_cases k1:1<=kd;case neg =>
  rw[ah (by simp;omega),Qa1 (by simp[Xq];omega)]
 by_cases k2:kd<=10;case neg =>
  rw[aj (by simp;omega),ah (by simp;omega),Qa1 (by simp[Xq];omega)]
 rw[aj (by simp;omega),aj (by simp;omega),Qa0 (by simp[Xq];omega)];cases h2:Kerb.bp k
 ·rfl
 rw[Yj,aA,Qa0 (by simp)];by_cases h3:1000<bd.length
 ·rw[ah (by simp;omega),Qa1 h3]
 have lk:=Kerb.ag k;rw[aj (by simp;omega),Qa0 h3,ae (Xx (by simp;omega)),ae (Xx (by simp;omega)),ae (Xx (by simp;omega)),Kerb.KR,Kerb.wrap_u8,Int.emod_eq_of_lt (by omega) (by omega)]
theorem w97:Wk 97 3 xe:=by
 refine cA Tryz.func97 rfl fun xs bl r h=> ?_;unfold xe at h;split at h;case h_2=>cases h
 rename_i k;obtain⟨aB,rfl⟩:=dA h;refine cw (Zj (z_ [Zy .u64 k] []) (kT fun vs=>ak .i64 vs fun n r=>ak .i64 r fun n r=>aE r fun b r=>aw r (Zd (Zq b,[])))) (by kernel_rfl) ?_;delta kT;dsimp only[z_,aK,bq,aE,cT,ak,ci,dx];simp only[A0];rw[ae aB]
theorem ZQ:Wk 106 3 ji:=by
 refine cA Tryz.func106 rfl fun xs bl r h=> ?_;unfold ji at h;split at h;case h_2=>cases h
 rename_i a b c;obtain⟨aB,rfl⟩:=dA h;refine cw (Zj (sr [Zk a] []) (kL fun cL=>aD cL (Zj (ss [Zk b] []) (kL fun b=>aD b (Zj (DK [Zk c] []) (kL fun b=>Zd (Zq b,[]))) (Zd (Zq Yy,[])))) (Zd (Zq Yy,[])))) (by kernel_rfl) ?_;delta kL;dsimp only[DK,sr,ss,aK,bq,aE,cT,ak,ci,dx];simp only[Zg,Qa2] at aB;simp only[A0];rw[ae (by simp;omega),ae (by simp;omega),ae (by simp;omega)];simp only[Kerb.aZ.valid];cases Kerb.validName a<;>cases Kerb.bO b<;>rfl
theorem Z0:Wk 116 3 xK:=by
 refine cA Tryz.func116 rfl fun xs bl r h=> ?_;unfold xK at h;split at h;case h_2=>cases h
 rename_i b s li;obtain⟨aB,rfl⟩:=dA h;refine cw (Zj (kC [Zf b,Zy .i64 (↑(Zx s):Int),Zq li] []) (kO fun l=>az (room (Zx l+Zx s) 1) (Zd (Zf (l++s),[])))) (by kernel_rfl) ?_;delta kO;dsimp only[kC,aK,bq,aE,cT,ak,ci,dx];simp only[Zg,Qa2] at aB;simp only[A0,Xh,Wz,Kerb.eD.av];rw[ae (by simp;omega),ae (Xx (by simp[Yd];omega))];rfl
theorem aaf:Wk 141 3 Nj:=by
 refine cA Tryz.func141 rfl fun xs bl r h=> ?_;unfold Nj at h;split at h;case h_2=>cases h
 rename_i b aq;obtain⟨aB,rfl⟩:=dA h;refine cw (aD aq (Zj (hX [Zf b,Zy .i64 1] []) (kO fun l=>Zd (Yf l,[]))) (Zj (hX [Zf b,Zy .i64 0] []) (kO fun l=>Zd (Yf l,[])))) (by kernel_rfl) ?_;delta kO;dsimp only[hX,aK,bq,aE,cT,ak,ci,dx];simp only[A0];rw[ae aB,ae aB];cases aq<;>rfl
theorem aah:Wk 143 3 z6:=by
 refine cA Tryz.func143 rfl fun xs bl r h=> ?_;unfold z6 at h;split at h;case h_2=>cases h
 rename_i k;obtain⟨aB,rfl⟩:=dA h;refine cw (Zj (m4 [Zy .u64 k] []) (kL fun b=>aD (!b) (Zd (Zy .i64 0,[])) (Zd (Zy .i64 (Zz .i64 (Xy k (2 ^ min (Zw 56) (Zp .u64)))),[])))) (by kernel_rfl) ?_;delta kL;dsimp only[m4,aK,bq,aE,cT,ak,ci,dx];simp only[aB,↓A0,A0];unfold Kerb.gy;cases hk:Kerb.bp k
 ·rfl
 simp only[Yj,Bool.not_false,cc,aA];simp only[Zg,Qa2] at aB;have h7:(min (Zw 56) (Zp .u64))=56:=rfl;rw[h7,Int.fdiv_eq_ediv_of_nonneg _ (by decide),wrap_i64 (by omega) (by omega)];rfl
theorem aaj:Wk 145 3 su:=by
 refine cA Tryz.func145 rfl fun xs bl r h=> ?_;unfold su at h;split at h;case h_2=>cases h
 rename_i b pos;obtain⟨aB,rfl⟩:=dA h;refine cw (Jb [Zf b,Zy .i64 pos,Zy .i64 1,Zq Yy] fun n bn bT=>Zd (Yq [Zy .i64 n,Zy .i64 bn,Zy .i64 bT],[])) (by kernel_rfl) ?_;unfold Jb;delta kT;dsimp only[Ac,aK,bq,aE,cT,ak,ci,dx];simp only[A0];rw[ae (by rw[aB];rfl)]
theorem aal:Wk 147 3 tH:=by
 refine cA Tryz.func147 rfl fun xs bl r h=> ?_;unfold tH at h;split at h;case h_2=>cases h
 rename_i b pos aq;obtain⟨aB,rfl⟩:=dA h;refine cw (Jb [Zf b,Zy .i64 pos,Zy .i64 4,Zq aq] fun n bn bT=>Zd (Yq [Zy .i64 n,Zy .i64 bn,Zy .i64 bT],[])) (by kernel_rfl) ?_;unfold Jb;delta kT;dsimp only[Ac,aK,bq,aE,cT,ak,ci,dx];simp only[A0];rw[ae (by rw[aB];rfl)]
theorem aao:Wk 150 3 vY:=by
 refine cA Tryz.func150 rfl fun xs bl r h=> ?_;unfold vY at h;split at h;case h_2=>cases h
 rename_i b pos;obtain⟨aB,rfl⟩:=dA h;refine cw (let t5:List UInt8:=Xb (Zw pos) (Xp (Zw (↑(Zx b):Int)) b);let t6:Option (AV×aC):=Zd (Yq [Zk [],Zy .i64 0,Zy .i64 105],[]);let t7:Option (AV×aC):=Zd (Yq [Zk [],Zy .i64 0,Zy .i64 101],[]);let t1:Int:=Yx (0:UInt8) t5;let t2:Int:=(↑(Zx t5):Int);let t4:List UInt8:=Xb (Zw (↑(0:Nat):Int)) (Xp (Zw 40) t5);let t0:Int:=Yx (0:UInt8) t4;let t3:Int:=(↑(Zx t4):Int);Zj (wg [Zf b,Zy .i64 pos,Zy .i64 0] []) (kI .i64 fun n=>aD (!n==0) (Zd (Yq [Zk [],Zy .i64 0,Zy .i64 n],[])) (az (Zv (0<=pos)&&Zv (pos<=(↑(Zx b):Int))&&Zv ((↑(Zx b):Int)<=(↑(Zx b):Int))) (aD (Zv (t2>40)) (az (Zv (40<=t2)) (aD (Zv (t0>=0)) (az (Zv ((↑(0:Nat):Int)<=t0)&&Zv (t0<=t3)) (Zd (Yq [Zk (Xb (Zw (↑(0:Nat):Int)) (Xp (Zw t0) t4)),Zy .i64 (Zz .i64 (Zz .i64 (pos+t0)+1)),Zy .i64 0],[]))) (aD (t3==40) t6 t7))) (aD (Zv (t1>=0)) (az (Zv ((↑(0:Nat):Int)<=t1)&&Zv (t1<=t2)) (Zd (Yq [Zk (Xb (Zw (↑(0:Nat):Int)) (Xp (Zw t1) t5)),Zy .i64 (Zz .i64 (Zz .i64 (pos+t1)+1)),Zy .i64 0],[]))) (aD (t2==40) t6 t7)))))) (by kernel_rfl) ?_;delta kI;dsimp only[wg,aK,bq,aE,cT,ak,ci,dx];simp only[Qa2] at aB;simp only[A0];rw[ae (by simpa using aB)];have ht:(Xp (Zw (b.length:Int)) b)=b:=by simp
 rw[ht];unfold Kerb.text;by_cases hr:Kerb.room b pos 0=0;case neg =>
  have XK:Kerb.room b pos 0=104:=by
   unfold Kerb.room at hr ⊢;split at hr
   ·rw[Qa1 (by assumption)]
   ·split at hr<;>omega
  rw[ah (by simpa using hr),Qa0 hr,XK]
 obtain⟨q1,q2,_,_⟩:=Kerb.mh.1 hr;rw[aj (by simp[hr]),Qa1 hr,ae (by simp;omega)];obtain⟨R,hR⟩:∃ R,R=b.drop pos.toNat:=⟨_,rfl⟩;have hRl:R.length=b.length-pos.toNat:=by rw[hR];simp
 rw[<-hR];obtain⟨T,hT⟩:∃ T,T=R.take 40:=⟨_,rfl⟩;have hix:=Kerb.zb 0 T;have key:(aD (Zv (Yx (0:UInt8) T>=(0:Int)))
   (az (Zv (((0:Nat):Int)<=Yx (0:UInt8) T)&&Zv (Yx (0:UInt8) T<=(T.length:Int)))
    (Zd (Yq [Zk (Xb (Zw ((0:Nat):Int)) (Xp (Zw (Yx (0:UInt8) T)) T)),Zy Zu (Zz Zu (Zz Zu (pos+Yx (0:UInt8) T)+(1:Int))),Zy Zu (0:Int)],([]:aC))))
   (aD (((T.length:Int))==(40:Int)) (Zd (Yq [Zk [],Zy Zu (0:Int),Zy Zu (105:Int)],[]))
    (Zd (Yq [Zk [],Zy Zu (0:Int),Zy Zu (101:Int)],[])))) =
   Zd (Yq [Zk (if 0<=Yx 0 T then(⟨T.take (Yx 0 T).toNat,pos+Yx 0 T+1,0⟩:Kerb.K4) else if T.length=40 then⟨[],0,105⟩ else⟨[],0,101⟩).val,
    Zy Zu (if 0<=Yx 0 T then(⟨T.take (Yx 0 T).toNat,pos+Yx 0 T+1,0⟩:Kerb.K4) else if T.length=40 then⟨[],0,105⟩ else⟨[],0,101⟩).next,
    Zy Zu (if 0<=Yx 0 T then(⟨T.take (Yx 0 T).toNat,pos+Yx 0 T+1,0⟩:Kerb.K4) else if T.length=40 then⟨[],0,105⟩ else⟨[],0,101⟩).err],[]):=by
  have hTl:T.length<=b.length-pos.toNat:=by rw[hT];simp;omega
  by_cases hi:0<=Yx 0 T
  ·rw[ah (by simpa using hi),ae (by simp;omega),Qa1 hi,wrap_i64 (n:=pos+Yx 0 T) (by omega) (by omega),wrap_i64 (by omega) (by omega)];rfl
  ·rw[aj (by simp;omega),Qa0 hi];by_cases XM:T.length=40
   ·rw[ah (by simp[XM]),Qa1 XM]
   ·rw[aj (by simp;omega),Qa0 XM]
 by_cases ac0:40<R.length
 ·rw[ah (by simp;omega),ae (by simp;omega)];have e1:Xb (Zw ((0:Nat):Int)) (Xp (Zw (40:Int)) R)=T:=by rw[hT];rfl
  rw[e1];rw[<-hT];exact key
 ·rw[aj (by simp;omega)];have e1:R=T:=by rw[hT,Xm (by omega)]
  rw[<-hT,e1];exact key
theorem aas:Wk 154 3 qI:=by
 refine cA Tryz.func154 rfl fun xs bl r h=> ?_;unfold qI at h;split at h;case h_2=>cases h
 rename_i n B at_ bad;obtain⟨aB,rfl⟩:=dA h;show ea (G.env 154 3) G.rts (G.own 154) Tryz.f154 _ _ [0]=_;refine cw (qK [Zf B,Zy .i64 at_,Zy .i64 n] fun b n bn=>aD (!!(bad || !bn==0)) (Zd (Zf [],[[Zf B,Zy .i64 (bif bad || !bn==0 then at_ else n),Zq (bad || !bn==0)]])) (Zd (Zf b,[[Zf B,Zy .i64 (bif bad || !bn==0 then at_ else n),Zq (bad || !bn==0)]]))) (by kernel_rfl) ?_;unfold qK;delta kT;dsimp only[qH,aK,bq,aE,cT,ak,ci,dx];have hb:=Qa3 aB;simp only[A0];rw[ae (by simp;omega)];unfold Kerb.dw;cases bad
 ·simp only[Bool.false_or];generalize hq:(!(_==(0:Int)))=q;cases q<;>rfl
 ·rfl
theorem aaF:Wk 167 3 v_:=by
 refine cA Tryz.func167 rfl fun xs bl r h=> ?_;unfold v_ at h;split at h;case h_2=>cases h
 rename_i n B at_ bad;obtain⟨aB,rfl⟩:=dA h;show ea (G.env 167 3) G.rts (G.own 167) Tryz.f167 _ _ [0]=_;refine cw (qK [Zf B,Zy .i64 at_,Zy .i64 n] fun b n bn=>Zd (Zf b,[[Zf B,Zy .i64 (bif bn==0 then n else at_),Zq (bad || !bn==0)]])) (by kernel_rfl) ?_;unfold qK;delta kT;dsimp only[qH,aK,bq,aE,cT,ak,ci,dx];have hb:=Qa3 aB;simp only[A0,Xh,Wz,Kerb.eD.av];rw[ae (by simp;omega)];unfold Kerb.mX;rfl
theorem aaO:Wk 185 3 Nw:=by
 refine cA Tryz.func185 rfl fun xs bl r h=> ?_;unfold Nw at h;split at h;case h_2=>cases h
 rename_i b els;obtain⟨aB,rfl⟩:=dA h;refine cw (aD (!Kerb.Head.err (Kerb.dB b)==0) (Zd (Yq [Zq Yy,Zy .i64 (Kerb.Head.err (Kerb.dB b))],[])) (Zj (Gn [Zy .i64 (Kerb.Head.kind (Kerb.dB b)),Xg 1 els] []) (kL fun cL=>aD (!cL) (Zd (Yq [Zq Yy,Zy .i64 40],[])) (Zd (Yq [Zq (Kerb.Head.aq (Kerb.dB b)),Zy .i64 0],[]))))) (by kernel_rfl) ?_;delta kL;dsimp only[Gn,aK,bq,aE,cT,ak,ci,dx];simp only[A0];unfold Kerb.bc;by_cases h:(Kerb.dB b).err=0
 ·rw[aj (by simp[h]),ae aB];cases hc:(jB els).contains (Kerb.dB b).kind<;>simp[aD,h,hc]
 ·rw[ah (by simpa using h)];simp[h]
theorem aaP:Wk 186 3 wc:=by
 refine cA Tryz.func186 rfl fun xs bl r h=> ?_;unfold wc at h;split at h;case h_2=>cases h
 rename_i b pos aq;obtain⟨aB,rfl⟩:=dA h;refine cw (Jb [Zf b,Zy .i64 pos,Zy .i64 2,Zq aq] fun n bn bT=>Zd (Yq [Zy .i64 n,Zy .i64 bn,Zy .i64 bT],[])) (by kernel_rfl) ?_;unfold Jb;delta kT;dsimp only[Ac,aK,bq,aE,cT,ak,ci,dx];simp only[A0];rw[ae (by rw[aB];rfl)]
theorem abf:Wk 219 3 oF:=by
 refine cA Tryz.func219 rfl fun xs bl r h=> ?_;unfold oF at h;split at h;case h_2=>cases h
 rename_i b s;obtain⟨aB,rfl⟩:=dA h;refine cw (Zj (az (Zv (Zx (Yp b (Yp s ((0:UInt8)::Yp [] [])))<=140737488355328)&&Zv (Zx [Zf b,Zf s,Zf [(0:UInt8)]]<=1000)) (Zd (Yf (Yp b (Yp s ((0:UInt8)::Yp [] []))),[]))) (kO fun l=>Zd (Yf l,[]))) (by kernel_rfl) ?_;delta kO;simp only[Qa2] at aB;simp only[A0];rw[ae (by simp;omega)];simp[Kerb.bg]
theorem abg:Wk 220 3 pK:=by
 refine cA Tryz.func220 rfl fun xs bl r h=> ?_;unfold pK at h;split at h;case h_2=>cases h
 rename_i b;obtain⟨aB,rfl⟩:=dA h;refine cw (let t0:Int:=Yz (Zz .i64 (8-Yz (↑(Zx b):Int) 8)) 8;az (Zv (0<=t0)&&Zv (t0<=t0)&&Zv (t0<=140737488355328)) (Zj (az (Zv (Zx (Yp b (Yp (Yb (Zw t0) (0:UInt8)) []))<=140737488355328)&&Zv (Zx [Zf b,Zf (Yb (Zw t0) (0:UInt8))]<=1000)) (Zd (Yf (Yp b (Yp (Yb (Zw t0) (0:UInt8)) [])),[]))) (kO fun l=>Zd (Zf l,[])))) (by kernel_rfl) ?_;delta kO;try dsimp only[aK,bq,aE,cT,ak,ci,dx]
 have hb:=Qa3 aB;rw[Kerb.R5 hb];simp only[A0];rw[ae (by simp;omega),ae (by simp;omega)];simp[Kerb.pad];omega
theorem abn:Wk 227 3 Ag:=by
 refine cA Tryz.func227 rfl fun xs bl r h=> ?_;unfold Ag at h;split at h;case h_2=>cases h
 rename_i k;obtain⟨aB,rfl⟩:=dA h;refine cw (Zj (z_ [Zy .u64 k] []) (kT fun vs=>ak .i64 vs fun n r=>ak .i64 r fun bn r=>aE r fun b r=>aw r (Zd (Zy .i64 n,[])))) (by kernel_rfl) ?_;delta kT;dsimp only[z_,aK,bq,aE,cT,ak,ci,dx];simp only[aB,↓A0,A0];rfl
theorem abK:Wk 256 3 wh:=by
 refine cA Tryz.func256 rfl fun xs bl r h=> ?_;unfold wh at h;split at h;case h_2=>cases h
 rename_i b n k aq;obtain⟨aB,rfl⟩:=dA h;refine cw (Zj (bw (fun st=>bq st fun b r=>ak .i64 r fun n r=>ak .i64 r fun bn r=>aE r fun cL r=>bq r fun c r=>ak .i64 r fun bT r=>ak .i64 r fun eO r=>aw r (aD (Zv (eO<bT)) (aD (!cL) (az (Zv (0<=Zz .i64 (8*eO))) (az (Zv (0<=Zz .i64 (Zz .i64 (bn-1)-eO))&&Zv (Zz .i64 (Zz .i64 (bn-1)-eO)<(↑(Zx c):Int))&&Xk (Zx c) 4&&Yv) (az (Xz (Zw (Zz .i64 (Zz .i64 (bn-1)-eO))) (Zx c)&&Yv&&Yv&&Yv&&Yv) (Zd (Xw [Zf b,Zy .i64 n,Zy .i64 bn,Zq cL,Zf (Xf c (Zw (Zz .i64 (Zz .i64 (bn-1)-eO))) (Zh (Zw (Zz .u8 (Xy n (2 ^ min (Zw (Zz .i64 (8*eO))) (Zp .i64))))))),Zy .i64 bT,Zy .i64 (Zz .i64 (eO+1))]))))) (az (Zv (0<=Zz .i64 (8*eO))) (az (Zv (0<=eO)&&Zv (eO<(↑(Zx c):Int))&&Xk (Zx c) 4&&Yv) (az (Xz (Zw eO) (Zx c)&&Yv&&Yv&&Yv&&Yv) (Zd (Xw [Zf b,Zy .i64 n,Zy .i64 bn,Zq cL,Zf (Xf c (Zw eO) (Zh (Zw (Zz .u8 (Xy n (2 ^ min (Zw (Zz .i64 (8*eO))) (Zp .i64))))))),Zy .i64 bT,Zy .i64 (Zz .i64 (eO+1))])))))) (Zd (Yg (Yu 0,[Zf b,Zy .i64 n,Zy .i64 bn,Zq cL,Zf c,Zy .i64 bT,Zy .i64 eO]))))) [Zf b,Zy .i64 n,Zy .i64 k,Zq aq,Zf [(0:UInt8),(0:UInt8),(0:UInt8),(0:UInt8)],Zy .i64 k,Zy .i64 0]) fun(r:Ex×List AV)=>bq (Xj r) fun b eI=>ak .i64 eI fun n eS=>ak .i64 eS fun n eZ=>aE eZ fun cL f_=>bq f_ fun c iq=>ak .i64 iq fun bn ju=>ak .i64 ju fun bT lE=>aw lE (jp r.1 Wj fun(j:Nat)=>aD (Xk j 0) (az (Zv ((↑(0:Nat):Int)<=n)&&Zv (n<=(↑(Zx c):Int))&&Xk (Zx c) 4) (Zj (az (Zv (Zx (Yp b (Yp (Xb (Zw (↑(0:Nat):Int)) (Xp (Zw n) c)) []))<=140737488355328)&&Zv (Zx [Zf b,Zf (Xb (Zw (↑(0:Nat):Int)) (Xp (Zw n) c))]<=1000)) (Zd (Yf (Yp b (Yp (Xb (Zw (↑(0:Nat):Int)) (Xp (Zw n) c)) [])),[]))) (kO fun l=>Zd (Yf l,[])))) Wj)) (by kernel_rfl) ?_;delta kO;dsimp only[bq,aE,ak];simp only[Zg,Qa2] at aB;obtain⟨hk,hb⟩:=aB;rcases hk with rfl | rfl | rfl<;>cases aq
 ·refine fa 2 (Yu 0,[Zf b,Zy Zu n,Zy Zu 1,Zq Yy,Zf [Yk n 0,(0:UInt8),(0:UInt8),(0:UInt8)],Zy Zu 1,Zy Zu 1]) (by kernel_rfl) ?_;simp only[A0];rw[ah (Yw _),ae (by simp),ae (by simp;omega)];simp[Kerb.qY,Wv,Kerb.fG,Xd]
 ·refine fa 2 (Yu 0,[Zf b,Zy Zu n,Zy Zu 1,Zq Yv,Zf [Yk n 0,(0:UInt8),(0:UInt8),(0:UInt8)],Zy Zu 1,Zy Zu 1]) (by kernel_rfl) ?_;simp only[A0];rw[ah (Yw _),ae (by simp),ae (by simp;omega)];simp[Kerb.qY,Wv,Kerb.fG,Xd]
 ·refine fa 3 (Yu 0,[Zf b,Zy Zu n,Zy Zu 2,Zq Yy,Zf [Yk n 8,Yk n 0,(0:UInt8),(0:UInt8)],Zy Zu 2,Zy Zu 2]) (by kernel_rfl) ?_;simp only[A0];rw[ah (Yw _),ae (by simp),ae (by simp;omega)];simp[Kerb.qY,Wv,Kerb.fG,Xd]
 ·refine fa 3 (Yu 0,[Zf b,Zy Zu n,Zy Zu 2,Zq Yv,Zf [Yk n 0,Yk n 8,(0:UInt8),(0:UInt8)],Zy Zu 2,Zy Zu 2]) (by kernel_rfl) ?_;simp only[A0];rw[ah (Yw _),ae (by simp),ae (by simp;omega)];simp[Kerb.qY,Wv,Kerb.fG,Xd]
 ·refine fa 5 (Yu 0,[Zf b,Zy Zu n,Zy Zu 4,Zq Yy,Zf [Yk n 24,Yk n 16,Yk n 8,Yk n 0],Zy Zu 4,Zy Zu 4]) (by kernel_rfl) ?_;simp only[A0];rw[ah (Yw _),ae (by simp),ae (by simp;omega)];simp[Kerb.qY,Wv,Kerb.fG,Xd]
 ·refine fa 5 (Yu 0,[Zf b,Zy Zu n,Zy Zu 4,Zq Yv,Zf [Yk n 0,Yk n 8,Yk n 16,Yk n 24],Zy Zu 4,Zy Zu 4]) (by kernel_rfl) ?_;simp only[A0];rw[ah (Yw _),ae (by simp),ae (by simp;omega)];simp[Kerb.qY,Wv,Kerb.fG,Xd]
theorem abP:Wk 263 3 Gt:=by
 refine cA Tryz.func263 rfl fun xs bl r h=> ?_;unfold Gt at h;split at h;case h_2=>cases h
 rename_i a b els;obtain⟨aB,rfl⟩:=dA h;show ea (G.env 263 3) G.rts (G.own 263) Tryz.f263 _ _ [0]=_;refine cw (Zj (bw (fun st=>ay st fun x r=>AV.aR x fun y=>ak .i64 r fun n r=>ak .i64 r fun bn r=>ak .i64 r fun bT r=>aw r (aD (Zv (bT<bn)) (Zj (bw (fun st=>ay st fun x r=>AV.aR x fun y=>ak .i64 r fun n r=>ak .i64 r fun eO r=>ak .i64 r fun bZ r=>ak .i64 r fun bF r=>aw r (aD (Zv (bF>n)) (az (Zv (0<=bF)&&Zv (bF<(↑(Zx y):Int))&&Yv) (az (Xz (Zw bF) (Zx y)&&Yv) (AV.ax .u64 (Zm y (Zw bF) Xu) fun fb=>az (Zv (0<=Zz .i64 (bF-1))&&Zv (Zz .i64 (bF-1)<(↑(Zx y):Int))&&Yv) (az (Xz (Zw (Zz .i64 (bF-1))) (Zx y)&&Yv) (AV.ax .u64 (Zm y (Zw (Zz .i64 (bF-1))) Xu) fun eW=>aD (Zv (fb<eW)) (az (Zv (0<=Zz .i64 (bF-1))&&Zv (Zz .i64 (bF-1)<(↑(Zx y):Int))&&Yv) (az (Xz (Zw (Zz .i64 (bF-1))) (Zx y)&&Yv) (AV.ax .u64 (Zm y (Zw (Zz .i64 (bF-1))) Xu) fun gM=>az (Zv (0<=bF)&&Zv (bF<(↑(Zx y):Int))&&Yv) (az (Xz (Zw bF) (Zx y)&&Yv) (AV.ax .u64 (Zm y (Zw bF) Xu) fun kH=>az (Zv (0<=bF)&&Zv (bF<(↑(Zx y):Int))&&Yv) (az (Xz (Zw bF) (Zx y)&&Yv) (AV.ax .u64 (Zm y (Zw bF) Xu) fun lM=>az (Zx [Zy .u64 gM]==nat_lit 1&&Yv&&Yv&&Yv&&Xz (Zw bF) (Zx y)) (az (Zv (0<=Zz .i64 (bF-1))&&Zv (Zz .i64 (bF-1)<(↑(Zx (Xf y (Zw bF) (Zy .u64 gM))):Int))&&Yv) (az (Xz (Zw (Zz .i64 (bF-1))) (Zx (Xf y (Zw bF) (Zy .u64 gM)))&&Yv) (AV.ax .u64 (Zm (Xf y (Zw bF) (Zy .u64 gM)) (Zw (Zz .i64 (bF-1))) Xu) fun gu=>az (Zx [Zy .u64 kH]==nat_lit 1&&Yv&&Yv&&Yv&&Xz (Zw (Zz .i64 (bF-1))) (Zx (Xf y (Zw bF) (Zy .u64 gM)))) (Zd (Xw [Wy (Xf (Xf y (Zw bF) (Zy .u64 gM)) (Zw (Zz .i64 (bF-1))) (Zy .u64 kH)),Zy .i64 n,Zy .i64 eO,Zy .i64 bZ,Zy .i64 (Zz .i64 (bF-1))])))))))))))) (Zd (Yg (Yu 2,[Wy y,Zy .i64 n,Zy .i64 eO,Zy .i64 bZ,Zy .i64 bF])))))))) (Zd (Yg (Yu 2,[Wy y,Zy .i64 n,Zy .i64 eO,Zy .i64 bZ,Zy .i64 bF]))))) [Wy y,Zy .i64 n,Zy .i64 bn,Zy .i64 bT,Zy .i64 bT]) fun(r:Ex×List AV)=>ay (Xj r) fun x eI=>AV.aR x fun y=>ak .i64 eI fun n eS=>ak .i64 eS fun eO eZ=>ak .i64 eZ fun bZ f_=>ak .i64 f_ fun bF iq=>aw iq (jp r.1 (Zd (Yg (Ex.ret,[Wy y,Zy .i64 n,Zy .i64 eO,Zy .i64 bZ]))) fun(j:Nat)=>aD (Xk j 2) (Zd (Xw [Wy y,Zy .i64 n,Zy .i64 eO,Zy .i64 (Zz .i64 (bZ+1))])) Wj)) (Zd (Yg (Yu 0,[Wy y,Zy .i64 n,Zy .i64 bn,Zy .i64 bT]))))) [Wy els,Zy .i64 a,Zy .i64 b,Zy .i64 (Zz .i64 (a+1))]) fun(r:Ex×List AV)=>ay (Xj r) fun x eI=>AV.aR x fun y=>ak .i64 eI fun n eS=>ak .i64 eS fun n eZ=>ak .i64 eZ fun n f_=>aw f_ (jp r.1 (Zd (Yq [],[y])) fun(j:Nat)=>aD (Xk j 0) (Zd (Yq [],[y])) Wj)) (by kernel_rfl) ?_;dsimp only[ak];simp only[Zg,Qa2] at aB;obtain⟨⟨⟨⟨fK,hlen⟩,GL⟩,uE⟩,hb⟩:=aB;obtain⟨d,rfl,hd⟩:=Kerb.lB fK;simp only[Kerb.aT] at hlen hb;unfold Kerb.x9;rw[hd];obtain⟨a,rfl⟩:=Xv GL;obtain⟨b,rfl⟩:=Xv (show 0<=b by omega);simp only[Ym];rw[show Zz .i64 ((a:Int)+1)=((a+1:Nat):Int) from Kerb.gf (by omega) (by omega)];unfold Go.Sort.insertionSort
 refine b_ (fun s:Array Int×Nat=>[Wy (Wx s.1),Zy .i64 (a:Int),Zy .i64 (b:Int),Zy .i64 (s.2:Int)]) (fun s=>s.1.size=d.size/\s.2<=b+1/\Go.Sort.insOuter Go.Sort.ltInt a b s.2 s.1=Go.Sort.insOuter Go.Sort.ltInt a b (a+1) d) (fun s=>b-s.2) (fun r=>∃ n m k,r=(.exit 0,[Wy (Wx (Go.Sort.insOuter Go.Sort.ltInt a b (a+1) d)),Zy .i64 n,Zy .i64 m,Zy .i64 k])) (d,a+1) ⟨rfl,by dsimp only;omega,rfl⟩ rfl ?_ ?_
 ·rintro⟨e,i⟩ ⟨hs,hi,hr⟩;dsimp only at hs hi hr ⊢;simp only[↓bD,↓bS,↓cK,↓cP];by_cases h:i<b;case neg =>
   rw[aj (by simp;omega)];refine⟨_,rfl,(a:Int),(b:Int),(i:Int),?_⟩;rw[<-hr];unfold Go.Sort.insOuter;rw[Qa0 h]
  rw[ah (by simp;omega)];refine Da (fun s:Array Int×Nat=>[Wy (Wx s.1),Zy .i64 (a:Int),Zy .i64 (b:Int),Zy .i64 (i:Int),Zy .i64 (s.2:Int)]) (fun s=>s.1.size=d.size/\s.2<=i/\Go.Sort.insInner Go.Sort.ltInt a s.2 s.1=Go.Sort.insInner Go.Sort.ltInt a i e) (fun s=>s.2) (fun r=>∃ k,r=(.exit 2,[Wy (Wx (Go.Sort.insInner Go.Sort.ltInt a i e)),Zy .i64 (a:Int),Zy .i64 (b:Int),Zy .i64 (i:Int),Zy .i64 k])/\(Go.Sort.insInner Go.Sort.ltInt a i e).size=d.size) (e,i) ⟨hs,Nat.le_refl _,rfl⟩ rfl ?_ ?_
  ·rintro⟨f,j⟩ ⟨fJ,hj,nb⟩;dsimp only at fJ hj nb ⊢;simp only[↓bD,↓bS,↓cK,↓cP];have done:Go.Sort.insInner Go.Sort.ltInt a j f=f->∃ y,(Zd (Yg (Yu 2,[Wy (Wx f),Zy .i64 (a:Int),Zy .i64 (b:Int),Zy .i64 (i:Int),Zy .i64 (j:Int)])):Option (List AV ⊕ (Ex×List AV)))=Zd y/\Bi (fun s:Array Int×Nat=>[Wy (Wx s.1),Zy .i64 (a:Int),Zy .i64 (b:Int),Zy .i64 (i:Int),Zy .i64 (s.2:Int)]) (fun s=>s.1.size=d.size/\s.2<=i/\Go.Sort.insInner Go.Sort.ltInt a s.2 s.1=Go.Sort.insInner Go.Sort.ltInt a i e) (fun s=>s.2) (fun r=>∃ k,r=(.exit 2,[Wy (Wx (Go.Sort.insInner Go.Sort.ltInt a i e)),Zy .i64 (a:Int),Zy .i64 (b:Int),Zy .i64 (i:Int),Zy .i64 k])/\(Go.Sort.insInner Go.Sort.ltInt a i e).size=d.size) (f,j) y:=fun q=>by
    refine⟨_,rfl,j,?_,?_⟩
    ·rw[<-nb,q]
    ·rw[<-nb,q];exact fJ
   by_cases hja:j>a;case neg =>
    rw[aj (by simp;omega)];refine done ?_;cases j with
    | zero=>rfl
    | succ j=>simp only[Go.Sort.insInner];rw[Qa0 (by simp;omega)]
   obtain⟨m,rfl⟩:∃ m,j=m+1:=⟨j-1,by omega⟩;have h1:m+1<f.size:=by omega
   have h2:m<f.size:=by omega
   rw[ah (by simp;omega)];simp only[show Zz .i64 (((m+1:Nat):Int)-1)=(m:Int) from(Kerb.gf (by omega) (by omega)).trans (by omega)];rw[Kerb.rd h1,Kerb.rd h2];by_cases eY:f[m+1]! < f[m]!;case neg =>
    rw[aj (by simpa using eY)];refine done ?_;simp only[Go.Sort.insInner];rw[Qa0 (by simp[Go.Sort.ltInt,eY])]
   rw[ah (by simpa using eY),Kerb.sw h1 h2 (fun l=>Zd (Xw [Wy l,Zy .i64 (a:Int),Zy .i64 (b:Int),Zy .i64 (i:Int),Zy .i64 (m:Int)]))];refine⟨_,rfl,(Go.Sort.swp f (m+1) m,m),rfl,⟨by dsimp only;rw[Kerb.swp_size,fJ],by dsimp only;omega,?_⟩,by dsimp only;omega⟩;dsimp only;rw[<-nb];conv=>rhs;simp only[Go.Sort.insInner]
   rw[Qa1 (by simp[Go.Sort.ltInt,eY];omega)]
  ·rintro _ ⟨k,rfl,eQ⟩;simp only[↓bD,↓bS,↓cK,↓cP,↓jx];rw[ah (Yw _),show Zz .i64 ((i:Int)+1)=((i+1:Nat):Int) from Kerb.gf (by omega) (by omega)];refine⟨_,rfl,(Go.Sort.insInner Go.Sort.ltInt a i e,i+1),rfl,⟨eQ,by dsimp only;omega,?_⟩,by dsimp only;omega⟩;dsimp only;rw[<-hr];conv=>rhs;unfold Go.Sort.insOuter
   rw[Qa1 h]
 ·rintro _ ⟨n,m,k,rfl⟩;simp only[↓bD,↓bS,↓cK,↓cP,↓jx];rw[ah (Yw _)]
end Go.Proofs.YteafbgcimcpfiaaGreat
