/- What the functions of this seat compute. -/
import Derived.Test.YteafbgcimcpfiaaGreatTab
set_option linter.all false
open Go.IntKind renaming wrap→Zz,i64→Zu,bits→Zp,u64→Yb
open Go.Abs.AV renaming int→Zy,bool→Zq,str→Zk,bs→Zf,aS→Yv,bK→Yf,undef→Xf,sl→Xh,aF→Wy
open List renaming length→Zx,getD→Zh,append→Yp,replicate→Yg,take→Xq,range_succ→Xj,set→Xp,drop→Xg,take_of_length_le→Xn
open Int renaming toNat→Zw,tmod→Yz,toNat_natCast→Yn,tmod_eq_emod_of_nonneg→Ym,fdiv→Xy,eq_ofNat_of_zero_le→Xw,tdiv_eq_ediv_of_nonneg→Wu,tdiv→Wq
open Decidable renaming decide→Zv
open Option renaming bind→Zj,some→Zd,none→Wj
open UInt8 renaming toNat→Zg,ofNat→Zm
open Bool renaming and_eq_true→Zb,false→Yw,true→Yq,not_true→Yj
open Kerb renaming within→Zn,indexOf→Yy,ul→Yk,af→Yd,ch→Xx,isKind→Xu,header→Xb,back→Wx,aN→Wv
open Nat renaming beq_refl→Yx,blt→Xz,beq→Xd,zero_le→Ww
open Go.Abs.Ex renaming exit→Yu
open Sum renaming inr→Yh,inl→Xv
open Prod renaming snd→Xk
open Kerb.Client renaming av→Xm
open Kerb.Cache renaming av→Wz
namespace Go.Proofs.YteafbgcimcpfiaaGreat
open Go Go.Abs Go.Proofs
set_option maxRecDepth 100000
theorem w21:Wk 21 1 JS:=by
 refine cL Tryz.func21 rfl fun xs bl r h=> ?_;unfold JS at h;split at h;case h_2=>cases h
 rename_i n;obtain⟨aC,rfl⟩:=dM h;refine cK (Zd (Zy .u64 (Zz .u64 (↑(BitVec.toNat (BitVec.ofInt (Zp .u64) 144115188075855872 ||| BitVec.ofInt (Zp .u64) (Zz .u64 (Zz .i64 (1+n))))):Int)),[])) (by kernel_rfl) ?_;rfl
theorem w24:Wk 24 1 Qf:=by
 refine cL Tryz.func24 rfl fun xs bl r h=> ?_;unfold Qf at h;split at h;case h_2=>cases h
 rename_i n;obtain⟨aC,rfl⟩:=dM h;refine cK (Zd (Zy .u64 (Zz .u64 (↑(BitVec.toNat (BitVec.ofInt (Zp .u64) 72057594037927936 ||| BitVec.ofInt (Zp .u64) (Zz .u64 (Zz .i64 (1+n))))):Int)),[])) (by kernel_rfl) ?_;rfl
theorem w46:Wk 46 1 JV:=by
 refine cL Tryz.func46 rfl fun xs bl r h=> ?_;unfold JV at h;split at h;case h_2=>cases h
 rename_i b how;obtain⟨aC,rfl⟩:=dM h;refine cK (let t0:Int:=Yz (Zz .i64 (Zz .u16 (Wq how 8))) (↑(Zx b):Int);az (room (Zx b) 1) (aE ((↑(Zx b):Int)==0) (Zd (Zf b,[])) (az (!(↑(Zx b):Int)==0) (aE (Yz how 4==0) (az (Zv (0<=t0)&&Zv (t0<(↑(Zx b):Int))) (az (Xz (Zw t0) (Zx b)&&Yq&&Yq&&Yq) (az (Zv (0<=Zz .u64 (Yz how 7))) (az (Zv (0<=t0)&&Zv (t0<(↑(Zx b):Int))) (az (Xz (Zw t0) (Zx b)&&Yq&&Yq&&Yq&&Yq) (Zd (Zf (Xp b (Zw t0) (Zm (Zw (Zz .u8 (↑(BitVec.toNat (BitVec.ofInt (Zp .u8) (↑(Zg (Zh b (Zw t0) (0:UInt8))):Int) ^^^ BitVec.ofInt (Zp .u8) (↑(Zg (Zm (Zw (Zz .u8 ((↑(Zg (1:UInt8)):Int)*2 ^ min (Zw (Zz .u64 (Yz how 7))) 8))))):Int))):Int))))),[]))))))) (aE (Yz how 4==1) (az (Zv (0<=t0)&&Zv (t0<=(↑(Zx b):Int))&&Xz 0 (Zx b)&&Yq) (az (Zv (0<=Zz .i64 (t0+1))&&Zv (Zz .i64 (t0+1)<=(↑(Zx b):Int))&&Xz 0 (Zx b)&&Yq) (az (Xz 0 (Zx b)&&Yq&&Yq&&Yq&&room (Zw t0+(Zx b-Zw (Zz .i64 (t0+1)))) 1) (Zd (Zf (Xq (Zw t0) b++Xg (Zw (Zz .i64 (t0+1))) b),[]))))) (aE (Yz how 4==2) (az (room (Zx b+Zx [Zm (Zw (Zz .u8 how))]) 1) (Zd (Zf (b++[Zm (Zw (Zz .u8 how))]),[]))) (Zd (Zf b,[])))))))) (by kernel_rfl) ?_;try dsimp only[aL,bu,aG,dK,ak,cO,dJ]
 simp only[Zb,Qa2] at aC;obtain⟨⟨hb,h0⟩,h1⟩:=aC;rw[ae (Xx (by omega))];unfold Kerb.oJ;by_cases hn:b=[]
 ·subst hn;rfl
 have jw:0<b.length:=List.length_pos_iff.2 hn;rw[Qa0 hn,aj (by simp;omega),ae (by simp;omega)];have e:Yz (Zz Zu (Zz IntKind.u16 (Wq how (8:Int)))) (b.length:Int)=Kerb.l9 b how:=rfl;rw[e];obtain⟨ha,hc⟩:=Kerb.JX h0 h1 jw;generalize Kerb.l9 b how=a at ha hc ⊢;have hd:(Zv ((0:Int)<=a)&&Zv (a<(b.length:Int)))=Yq:=by simp;omega
 have uY:Xz a.toNat b.length=Yq:=Nat.ble_eq_true_of_le (by omega);have TY:Xz 0 b.length=Yq:=Nat.ble_eq_true_of_le (by omega);have h7:Zv ((0:Int)<=Zz Yb (Yz how (7:Int)))=Yq:=by rw[Kerb.wrap_u64];simp;omega
 by_cases c0:Yz how 4=0
 ·rw[Qa1 c0,ah (by simpa using c0),ae hd,ae (by rw[uY];rfl),ae h7,ae hd,ae (by rw[uY];rfl)]
 rw[Qa0 c0,aj (by simpa using c0)];by_cases c1:Yz how 4=1
 ·rw[Qa1 c1,ah (by simpa using c1),wrap_i64 (n:=a+1) (by omega) (by omega),ae (by rw[TY];simp;omega),ae (by rw[TY];simp;omega),ae (by rw[TY,Xx (by omega)];rfl)]
 rw[Qa0 c1,aj (by simpa using c1)];by_cases c2:Yz how 4=2
 ·rw[Qa1 c2,ah (by simpa using c2),ae (Xx (by simp;omega))]
 ·rw[Qa0 c2,aj (by simpa using c2)]
theorem w89:Wk 89 1 yv:=by
 refine cL Tryz.func89 rfl fun xs bl r h=> ?_;unfold yv at h;split at h;case h_2=>cases h
 rename_i n l pos;obtain⟨aC,rfl⟩:=dM h;show eA (G.env 89 1) G.rts (G.own 89) Tryz.f89 _ _ [0]=_;refine cK (aE (Zv (pos>=(↑(Zx l):Int))) (Zd (Zy .i64 0,[[Zf l,Zy .i64 pos]])) (aE (Zv (n<=0)) (Zd (Zy .i64 0,[[Zf l,Zy .i64 pos]])) (az (Zv (0<=pos)&&Zv (pos<(↑(Zx l):Int))) (az (!n==0) (Zd (Zy .i64 (Yz (Zz .i64 (↑(Zg (Zh l (Zw pos) (0:UInt8))):Int)) n),[[Zf l,Zy .i64 (Zz .i64 (pos+1))]])))))) (by kernel_rfl) ?_;simp only[Zb,Qa2] at aC;unfold Kerb.next Kerb.dl;by_cases h1:(l.length:Int)<=pos
 ·simp[aE,h1];omega
 by_cases h2:n<=0
 ·simp[aE,h1,h2];omega
 have h3:¬ n=0:=by omega
 have hb:=(l.getD pos.toNat 0).toNat_lt;rw[aj (by simp;omega),aj (by simp;omega),ae (by simp;omega),ae (by simpa using h3),Qa0 (by omega),Qa0 (by omega),wrap_i64 (by omega) (by omega),wrap_i64 (by omega) (by omega),Ym (by omega),Int.toNat_of_nonneg (by omega)]
theorem w90:Wk 90 1 Vl:=by
 refine cL Tryz.func90 rfl fun xs bl r h=> ?_;unfold Vl at h;split at h;case h_2=>cases h
 rename_i n;obtain⟨aC,rfl⟩:=dM h;refine cK (Zj (bF (fun st=>ak .i64 st fun n r=>aL r fun b r=>aL r fun c5 r=>aL r fun fh r=>aL r fun fI r=>ak .i64 r fun bt r=>aw r (aE (Zv (bt<39)) (az (Zv (Zx fI+Zx [(110:UInt8)]<=4611686018427387904)) (Zd (Xv [Zy .i64 n,Zk b,Zk c5,Zk fh,Zk (fI++[(110:UInt8)]),Zy .i64 (Zz .i64 (bt+1))]))) (Zd (Yh (Yu 0,[Zy .i64 n,Zk b,Zk c5,Zk fh,Zk fI,Zy .i64 bt]))))) [Zy .i64 n,Zk [],Zk [],Zk [],Zk [],Zy .i64 0]) fun(r:Ex×List AV)=>ak .i64 (Xk r) fun n eY=>aL eY fun b fa=>aL fa fun c5 fR=>aL fR fun fh gP=>aL gP fun fI iV=>ak .i64 iV fun bt jU=>aw jU (jO r.1 (Zd (AV.agg [Zk b,Zk c5,Zk fh],[])) fun(j:Nat)=>aE (Xd j 0) (Zj (bF (fun st=>ak .i64 st fun n r=>aL r fun b r=>aL r fun iD r=>aL r fun iy r=>aL r fun jh r=>ak .i64 r fun cn r=>aw r (aE (Zv (cn<n)) (az (Zv (38<=(↑(Zx jh):Int))) (Zd (Xv [Zy .i64 n,Zk b,Zk iD,Zk iy,Zk (Xg (Zw (↑(0:Nat):Int)) (Xq (Zw 38) jh)),Zy .i64 (Zz .i64 (cn+1))]))) (Zd (Yh (Yu 2,[Zy .i64 n,Zk b,Zk iD,Zk iy,Zk jh,Zy .i64 cn]))))) [Zy .i64 n,Zk b,Zk c5,Zk fh,Zk fI,Zy .i64 0]) fun(r:Ex×List AV)=>ak .i64 (Xk r) fun n mf=>aL mf fun b nz=>aL nz fun iD nq=>aL nq fun iy gO=>aL gO fun jh il=>ak .i64 il fun n im=>aw im (jO r.1 (Zd (AV.agg [Zk b,Zk iD,Zk iy],[])) fun(j:Nat)=>aE (Xd j 2) (Zd (AV.agg [Zk jh,Zk jh,Zk jh],[])) Wj)) Wj)) (by kernel_rfl) ?_;dsimp only[aL,ak];simp only[Zb,Qa2] at aC;have hn:n=0\/n=1:=by omega
 rcases hn with rfl | rfl
 ·refine fB 40 (Yu 0,[Zy Zu 0,Zk [],Zk [],Zk [],Zk (Yg 39 110),Zy Zu 39]) (by kernel_rfl) ?_;simp only[A0];rw[ah (Yx _)];refine fB 1 (Yu 2,[Zy Zu 0,Zk [],Zk [],Zk [],Zk (Yg 39 110),Zy Zu 0]) (by kernel_rfl) ?_;rfl
 ·refine fB 40 (Yu 0,[Zy Zu 1,Zk [],Zk [],Zk [],Zk (Yg 39 110),Zy Zu 39]) (by kernel_rfl) ?_;simp only[A0];rw[ah (Yx _)];refine fB 2 (Yu 2,[Zy Zu 1,Zk [],Zk [],Zk [],Zk (Yg 38 110),Zy Zu 1]) (by kernel_rfl) ?_;rfl
theorem w92:Wk 92 1 Vo:=by
 refine cL Tryz.func92 rfl fun xs bl r h=> ?_;unfold Vo at h;split at h;case h_2=>cases h
 rename_i n m;cases h;refine cK (aE (Zv (n>=0)) (Zd (Zq (Zv (n<=m)),[])) (Zd (Zq Yw,[]))) (by kernel_rfl) ?_;by_cases h:0<=n<;>simp[aE,Zn,h]
theorem w94:Wk 94 1 Vr:=by
 refine cL Tryz.func94 rfl fun xs bl r h=> ?_;unfold Vr at h;split at h;case h_2=>cases h
 rename_i k aq;cases h;refine cK (aE (Zv (k<1)) (Zd (Zf [],[])) (aE (Zv (k>10)) (Zd (Zf [],[])) (aE aq (Zd (Zf [(4:UInt8),Zm (Zw (Zz .u8 (Zz .i64 (Zz .i64 (2*k)+1))))],[])) (Zd (Zf [(4:UInt8),Zm (Zw (Zz .u8 (Zz .i64 (2*k))))],[]))))) (by kernel_rfl) ?_;by_cases h:1<=k/\k<=10
 ·have hk:k=1\/k=2\/k=3\/k=4\/k=5\/k=6\/k=7\/k=8\/k=9\/k=10:=by omega
  rcases hk with rfl | rfl | rfl | rfl | rfl | rfl | rfl | rfl | rfl | rfl<;>cases aq<;>rfl
 ·have hk:Xu k=Yw:=by simp[Xu];omega
  by_cases h1:k<1
  ·simp[aE,Xb,hk,h1]
  ·have h2:10<k:=by omega
   simp[aE,Xb,hk,h1,h2]
theorem w95:Wk 95 1 oN:=by
 refine cL Tryz.func95 rfl fun xs bl r h=> ?_;unfold oN at h;split at h;case h_2=>cases h
 rename_i b s;obtain⟨aC,rfl⟩:=dM h;refine cK (az (room (Zx b) 1) (az (room (Zx b+Zx s) 1) (az (room (Zx (b++s)+Zx [(0:UInt8)]) 1) (Zd (Yf (b++s++[(0:UInt8)]),[]))))) (by kernel_rfl) ?_;simp only[Qa2] at aC;rw[ae (Xx (by omega)),ae (Xx (by omega)),ae (Xx (by simp;omega))];simp[Kerb.a_]
theorem acX:Wk 107 1 PI:=by
 refine cL Tryz.func107 rfl fun xs bl r h=> ?_;unfold PI at h;split at h;case h_2=>cases h
 rename_i n m;cases h;refine cK (aE (Zv (n>=0)) (Zd (Zq (Zv (n<=m)),[])) (Zd (Zq Yw,[]))) (by kernel_rfl) ?_;by_cases h:0<=n<;>simp[aE,Zn,h]
theorem ac3:Wk 113 1 PJ:=by
 refine cL Tryz.func113 rfl fun xs bl r h=> ?_;unfold PJ at h;split at h;case h_2=>cases h
 rename_i n;cases h;refine cK (aE (n==1) (Zd (Zq Yq,[])) (Zd (Zq (n==3),[]))) (by kernel_rfl) ?_;cases (n==1)<;>rfl
theorem ac4:Wk 114 1 PK:=by
 refine cL Tryz.func114 rfl fun xs bl r h=> ?_;unfold PK at h;split at h;case h_2=>cases h
 rename_i n m;cases h;refine cK (aE (Zv (n>=0)) (Zd (Zq (Zv (n<=m)),[])) (Zd (Zq Yw,[]))) (by kernel_rfl) ?_;by_cases h:0<=n<;>simp[aE,Zn,h]
theorem adi:Wk 138 1 l8:=by
 refine cL Tryz.func138 rfl fun xs bl r h=> ?_;unfold l8 at h;split at h;case h_2=>cases h
 rename_i k;obtain⟨aC,rfl⟩:=dM h;refine cK (Zj (bF (fun st=>ak .u64 st fun n r=>ay r fun x r=>AV.eO x fun b=>ak .i64 r fun bt r=>let t0:List UInt8:=[Zm (Zw (Zz .u8 (Xy n (2 ^ min (Zw (Zz .u64 (Zz .i64 (8*bt)))) (Zp .u64)))))];aw r (aE (Zv (bt>=0)) (az (Zv (0<=Zz .u64 (Zz .i64 (8*bt)))) (az (room (Zx b+Zx t0) 1) (Zd (Xv [Zy .u64 n,Yf (b++t0),Zy .i64 (Zz .i64 (bt-1))])))) (Zd (Yh (Yu 0,[Zy .u64 n,Yf b,Zy .i64 bt]))))) [Zy .u64 k,Yf [],Zy .i64 7]) fun(r:Ex×List AV)=>ak .u64 (Xk r) fun n eY=>ay eY fun x fa=>AV.eO x fun b=>ak .i64 fa fun n fR=>aw fR (jO r.1 Wj fun(j:Nat)=>aE (Xd j 0) (Zd (Zf b,[])) Wj)) (by kernel_rfl) ?_;try dsimp only[aL,bu,aG,dK,ak,cO,dJ]
 refine fB 9 (Yu 0,[Zy Yb k,Yf [Yk k 56,Yk k 48,Yk k 40,Yk k 32,Yk k 24,Yk k 16,Yk k 8,Yk k 0],Zy Zu (-1)]) (by kernel_rfl) ?_;simp only[A0];rw[ah (Yx _)];simp[Kerb.rV,Kerb.keyBytes,Kerb.c9,Xj]
theorem adj:Wk 139 1 iG:=by
 refine cL Tryz.func139 rfl fun xs bl r h=> ?_;unfold iG at h;split at h;case h_2=>cases h
 rename_i b;obtain⟨aC,rfl⟩:=dM h;refine cK (az (room (Zx b) 1) (Zj (bF (fun st=>ay st fun x r=>AV.eO x fun b=>aw r (aE (!Yz (↑(Zx b):Int) 8==0) (az (room (Zx b+Zx [(0:UInt8)]) 1) (Zd (Xv [Yf (b++[(0:UInt8)])]))) (Zd (Yh (Yu 0,[Yf b]))))) [Yf b]) fun(r:Ex×List AV)=>ay (Xk r) fun x eY=>AV.eO x fun b=>aw eY (jO r.1 Wj fun(j:Nat)=>aE (Xd j 0) (Zd (Yf b,[])) Wj))) (by kernel_rfl) ?_;have hb:=Qa3 aC;rw[ae (Xx (by omega))];refine cm (fun i:Nat=>[Yf (b++Yg i 0)]) (fun i=>i<=(8-b.length % 8) % 8) (fun i=>(8-b.length % 8) % 8-i)
  (fun r=>r=(Yu 0,[Yf (Kerb.pad b)])) 0 (by omega) (by simp) ?_ ?_
 ·intro i hi;simp only[A0];have e:Yz ((b++Yg i 0).length:Int) 8=(((b.length+i) % 8:Nat):Int):=by
   rw[Ym (by omega)];simp
  rw[e];by_cases fz:i<(8-b.length % 8) % 8
  ·rw[ah (by simp;omega),ae (Xx (by simp;omega))];refine⟨_,rfl,i+1,?_,by omega,by dsimp only;omega⟩;dsimp only;rw[List.replicate_succ',List.append_assoc]
  ·rw[aj (by simp;omega)];refine⟨_,rfl,?_⟩;show _=_;rw[Kerb.pad,show i=(8-b.length % 8) % 8 from by omega]
 rintro r rfl;simp only[A0];rw[ah (Yx _)]
theorem adn:Wk 142 1 PN:=by
 refine cL Tryz.func142 rfl fun xs bl r h=> ?_;unfold PN at h;split at h;case h_2=>cases h
 rename_i n m;cases h;refine cK (aE (Zv (n>=0)) (Zd (Zq (Zv (n<=m)),[])) (Zd (Zq Yw,[]))) (by kernel_rfl) ?_;by_cases h:0<=n<;>simp[aE,Zn,h]
theorem adp:Wk 144 1 PO:=by
 refine cL Tryz.func144 rfl fun xs bl r h=> ?_;unfold PO at h;split at h;case h_2=>cases h
 rename_i n m;cases h;refine cK (aE (Zv (n>=0)) (Zd (Zq (Zv (n<=m)),[])) (Zd (Zq Yw,[]))) (by kernel_rfl) ?_;by_cases h:0<=n<;>simp[aE,Zn,h]
theorem ady:Wk 152 1 PP:=by
 refine cL Tryz.func152 rfl fun xs bl r h=> ?_;unfold PP at h;split at h;case h_2=>cases h
 rename_i a b;cases h;refine cK (Zd (Zq (a==b),[])) (by kernel_rfl) ?_;rfl
theorem adC:Wk 156 1 PQ:=by
 refine cL Tryz.func156 rfl fun xs bl r h=> ?_;unfold PQ at h;split at h;case h_2=>cases h
 rename_i l;cases h;refine cK (aE (l==[(103:UInt8),(84:UInt8),(71:UInt8),(83:UInt8)]) (Zd (Zq Yq,[])) (Zd (Zq (l==[(103:UInt8),(84:UInt8),(75:UInt8),(84:UInt8)]),[]))) (by kernel_rfl) ?_;unfold Kerb.jf;show aE (l==Kerb.ve) _ (Zd (Zq (l==Kerb.lQ),[]))=_;cases (l==Kerb.ve)<;>rfl
theorem adF:Wk 159 1 PR:=by
 refine cL Tryz.func159 rfl fun xs bl r h=> ?_;unfold PR at h;split at h;case h_2=>cases h
 rename_i l;cases h;refine cK (aE (l==[(116:UInt8),(103:UInt8),(115:UInt8),(84:UInt8)]) (Zd (Zq Yq,[])) (Zd (Zq (l==[(116:UInt8),(107:UInt8),(116:UInt8),(71:UInt8)]),[]))) (by kernel_rfl) ?_;unfold Kerb.dD;show aE (l==Kerb.vf) _ (Zd (Zq (l==Kerb.qL),[]))=_;cases (l==Kerb.vf)<;>rfl
theorem adQ:Wk 174 1 xp:=by
 refine cL Tryz.func174 rfl fun xs bl r h=> ?_;unfold xp at h;split at h;case h_2=>cases h
 rename_i s bad;obtain⟨aC,rfl⟩:=dM h;refine cK (Zj (bF (fun st=>aL st fun b r=>aL r fun c5 r=>aG r fun fh r=>ak .i64 r fun n r=>aw r (aE (Zv (n<(↑(Zx b):Int))) (az (Zv (0<=n)&&Zv (n<(↑(Zx b):Int))) (aE (Zv ((↑(Zg (Zh b (Zw n) (0:UInt8))):Int)<(↑(Zg (33:UInt8)):Int))) (Zd (Yh (Ex.ret,[Zk b,Zk c5,Zq Yw,Zy .i64 n]))) (az (Zv (0<=n)&&Zv (n<(↑(Zx b):Int))) (aE (Zv ((↑(Zg (Zh b (Zw n) (0:UInt8))):Int)>(↑(Zg (126:UInt8)):Int))) (Zd (Yh (Ex.ret,[Zk b,Zk c5,Zq Yw,Zy .i64 n]))) (Zj (bF (fun st=>aL st fun b r=>aL r fun fI r=>aG r fun iD r=>ak .i64 r fun n r=>ak .i64 r fun bt r=>aw r (aE (Zv (bt<(↑(Zx fI):Int))) (az (Zv (0<=n)&&Zv (n<(↑(Zx b):Int))) (az (Zv (0<=bt)&&Zv (bt<(↑(Zx fI):Int))) (aE (Zh b (Zw n) (0:UInt8)==Zh fI (Zw bt) (0:UInt8)) (Zd (Yh (Ex.ret,[Zk b,Zk fI,Zq Yw,Zy .i64 n,Zy .i64 bt]))) (Zd (Xv [Zk b,Zk fI,Zq iD,Zy .i64 n,Zy .i64 (Zz .i64 (bt+1))]))))) (Zd (Yh (Yu 2,[Zk b,Zk fI,Zq iD,Zy .i64 n,Zy .i64 bt]))))) [Zk b,Zk c5,Zq fh,Zy .i64 n,Zy .i64 0]) fun(r:Ex×List AV)=>aL (Xk r) fun b eY=>aL eY fun fI fa=>aG fa fun iD fR=>ak .i64 fR fun n gP=>ak .i64 gP fun bt iV=>aw iV (jO r.1 (Zd (Yh (Ex.ret,[Zk b,Zk fI,Zq iD,Zy .i64 n]))) fun(j:Nat)=>aE (Xd j 2) (Zd (Xv [Zk b,Zk fI,Zq iD,Zy .i64 (Zz .i64 (n+1))])) Wj)))))) (Zd (Yh (Yu 0,[Zk b,Zk c5,Zq fh,Zy .i64 n]))))) [Zk s,Zk bad,Zq Yw,Zy .i64 0]) fun(r:Ex×List AV)=>aL (Xk r) fun b eY=>aL eY fun c5 fa=>aG fa fun fh fR=>ak .i64 fR fun n gP=>aw gP (jO r.1 (Zd (Zq fh,[])) fun(j:Nat)=>aE (Xd j 0) (Zd (Zq (Zv ((↑(Zx b):Int)<=39)),[])) Wj)) (by kernel_rfl) ?_;dsimp only[aL,aG,ak];simp only[Zb,Qa2] at aC;refine cm (fun i:Nat=>[Zk s,Zk bad,Zq Yw,Zy Zu (i:Int)]) (fun i=>i<=s.length/\Kerb.dE s bad=Kerb.dE (s.drop i) bad) (fun i=>s.length-i)
  (fun r=>∃ i:Nat,r.2=[Zk s,Zk bad,Zq Yw,Zy Zu (i:Int)]/\((r.1 = .ret/\Kerb.dE s bad=Yw)\/(r.1 = .exit 0/\Kerb.dE s bad=Yq))) 0 ⟨Ww _,rfl⟩ rfl ?_ ?_
 ·rintro i ⟨hi,hp⟩;simp only[A0];by_cases fz:i<s.length
  ·have hc:(Zv ((0:Int)<=(i:Int))&&Zv ((i:Int)<(s.length:Int)))=Yq:=by simp;omega
   have hd:=Kerb.pn fz;rw[ah (by simp;omega),ae hc,Yn];have RI:Kerb.dE (s.drop i) bad=(Kerb.okB bad (s.getD i 0)&&Kerb.dE (s.drop (i+1)) bad):=by rw[hd];rfl
   generalize BX:s.getD i 0=c at *;by_cases h1:c.toNat<33
   ·rw[ah (by simp;omega)];exact⟨_,rfl,i,rfl,.inl ⟨rfl,by rw[hp,RI];simp[Kerb.okB,h1]⟩⟩
   rw[aj (by simp;omega),ae hc];by_cases h2:126<c.toNat
   ·rw[ah (by simp;omega)];exact⟨_,rfl,i,rfl,.inl ⟨rfl,by rw[hp,RI];simp[Kerb.okB,h2]⟩⟩
   rw[aj (by simp;omega)];refine ED (fun j:Nat=>[Zk s,Zk bad,Zq Yw,Zy Zu (i:Int),Zy Zu (j:Int)]) (fun j=>j<=bad.length/\(c∈bad↔c∈bad.drop j)) (fun j=>bad.length-j)
    (fun r=>∃ j:Nat,r.2=[Zk s,Zk bad,Zq Yw,Zy Zu (i:Int),Zy Zu (j:Int)]/\((r.1 = .ret/\c∈bad)\/(r.1 = .exit 2/\c ∉ bad))) 0 ⟨Ww _,by simp⟩ rfl ?_ ?_
   ·rintro j ⟨hj,hm⟩;simp only[A0];by_cases LK:j<bad.length
    ·have hdj:=Kerb.pn LK;rw[ah (by simp;omega),ae hc,ae (by simp;omega),Yn,Yn,BX];rw[hdj,List.mem_cons] at hm;by_cases h3:c=bad.getD j 0
     ·rw[ah (by simpa using h3)];exact⟨_,rfl,j,rfl,.inl ⟨rfl,hm.2 (.inl h3)⟩⟩
     ·rw[aj (by simpa using h3),wrap_i64 (by omega) (by omega)];exact⟨_,rfl,j+1,rfl,⟨by omega,hm.trans ⟨fun h=>h.resolve_left h3,.inr⟩⟩,by dsimp only;omega⟩
    ·rw[aj (by simp;omega)];refine⟨_,rfl,j,rfl,.inr ⟨rfl,?_⟩⟩;rw[hm,List.drop_eq_nil_of_le (by omega)];simp
   ·rintro⟨e,l⟩ ⟨j,rfl,⟨rfl,h3⟩ | ⟨rfl,h3⟩⟩
    ·simp only[A0];exact⟨_,rfl,i,rfl,.inl ⟨rfl,by rw[hp,RI];simp[Kerb.okB,h3]⟩⟩
    ·simp only[A0];rw[ah (Yx _),wrap_i64 (by omega) (by omega)];exact⟨_,rfl,i+1,rfl,⟨by omega,by rw[hp,RI];simp[Kerb.okB,h1,h2,h3]⟩,by dsimp only;omega⟩
  ·rw[aj (by simp;omega)];exact⟨_,rfl,i,rfl,.inr ⟨rfl,by rw[hp,List.drop_eq_nil_of_le (by omega)];rfl⟩⟩
 ·rintro⟨e,l⟩ ⟨i,rfl,⟨rfl,hp⟩ | ⟨rfl,hp⟩⟩
  ·simp only[A0,hp];rfl
  ·simp only[A0,hp];rw[ah (Yx _),decide_eq_decide.2 (show((s.length:Int)<=39)↔s.length<=39 from by omega)];rfl
theorem adR:Wk 175 1 xq:=by
 refine cL Tryz.func175 rfl fun xs bl r h=> ?_;unfold xq at h;split at h;case h_2=>cases h
 rename_i b n k aq;obtain⟨aC,rfl⟩:=dM h;refine cK (az (room (Zx b) 1) (Zj (bF (fun st=>ak .i64 st fun n r=>ak .i64 r fun bt r=>aG r fun b r=>ay r fun x r=>AV.eO x fun c5=>ak .i64 r fun cn r=>let t1:Int:=Zz .u64 (Zz .i64 (8*Zz .i64 (Zz .i64 (bt-1)-cn)));let t2:List UInt8:=[Zm (Zw (Zz .u8 (Xy (Zz .u64 n) (2 ^ min (Zw (Zz .u64 (Zz .i64 (8*cn)))) (Zp .u64)))))];let t0:List UInt8:=[Zm (Zw (Zz .u8 (Xy (Zz .u64 n) (2 ^ min (Zw t1) (Zp .u64)))))];aw r (aE (Zv (cn<bt)) (aE b (az (Zv (0<=Zz .u64 (Zz .i64 (8*cn)))) (az (room (Zx c5+Zx t2) 1) (Zd (Xv [Zy .i64 n,Zy .i64 bt,Zq b,Yf (c5++t2),Zy .i64 (Zz .i64 (cn+1))])))) (az (Zv (0<=t1)) (az (room (Zx c5+Zx t0) 1) (Zd (Xv [Zy .i64 n,Zy .i64 bt,Zq b,Yf (c5++t0),Zy .i64 (Zz .i64 (cn+1))]))))) (Zd (Yh (Yu 0,[Zy .i64 n,Zy .i64 bt,Zq b,Yf c5,Zy .i64 cn]))))) [Zy .i64 n,Zy .i64 k,Zq aq,Yf b,Zy .i64 0]) fun(r:Ex×List AV)=>ak .i64 (Xk r) fun n eY=>ak .i64 eY fun n fa=>aG fa fun b fR=>ay fR fun x gP=>AV.eO x fun b=>ak .i64 gP fun n iV=>aw iV (jO r.1 Wj fun(j:Nat)=>aE (Xd j 0) (Zd (Yf b,[])) Wj))) (by kernel_rfl) ?_;try dsimp only[aL,bu,aG,dK,ak,cO,dJ]
 simp only[Zb,Qa2] at aC;obtain⟨hk,hb⟩:=aC;have mU:k.toNat<=4/\0<=k:=by omega
 rw[ae (Xx (by omega))];refine cm (fun i:Nat=>[Zy Zu n,Zy Zu k,Zq aq,Yf (b++(Wv n k.toNat aq).take i),Zy Zu (i:Int)]) (fun i=>i<=k.toNat) (fun i=>k.toNat-i)
  (fun r=>r=(Yu 0,[Zy Zu n,Zy Zu k,Zq aq,Yf (b++Wv n k.toNat aq),Zy Zu k])) 0 (Ww _) (by simp) ?_ ?_
 ·intro i hi;simp only[A0];by_cases fz:i<k.toNat
  ·have hs:=Kerb.BM (l:=Wv n k.toNat aq) (i:=i) (by rw[Yd];omega);have hg:=Kerb.Mx n k.toNat aq fz;have hl:((Wv n k.toNat aq).take i).length=i:=by simp[Yd];omega
   rw[ah (by simp;omega)];have hw:∀ j:Nat,j<4->Zz Yb (Zz Zu (8*(j:Int)))=((8*j:Nat):Int):=fun j hj=>by
    rw[wrap_i64 (by omega) (by omega),Kerb.wrap_u64];omega
   have hm:∀ j:Nat,j<4->min (Zw ((8*j:Nat):Int)) (Zp Yb)=8*j:=fun j hj=>by
    have:Zp Yb=64:=rfl;rw[this];omega
   cases aq
   ·have e:Zz Zu (Zz Zu (k-1)-(i:Int))=((k.toNat-1-i:Nat):Int):=by
     rw[wrap_i64 (n:=k-1) (by omega) (by omega),wrap_i64 (by omega) (by omega)];omega
    rw[aj rfl,e,hw _ (by omega),hm _ (by omega),Kerb.Tb n (by omega),ae (by simp;omega),ae (Xx (by simp[hl];omega)),wrap_i64 (by omega) (by omega)];refine⟨_,rfl,i+1,?_,by omega,by dsimp only;omega⟩;dsimp only;rw[hs,hg,<-List.append_assoc];rfl
   ·rw[ah rfl,hw _ (by omega),hm _ (by omega),Kerb.Tb n (by omega),ae (by simp;omega),ae (Xx (by simp[hl];omega)),wrap_i64 (by omega) (by omega)];refine⟨_,rfl,i+1,?_,by omega,by dsimp only;omega⟩;dsimp only;rw[hs,hg,<-List.append_assoc];rfl
  ·rw[aj (by simp;omega)];refine⟨_,rfl,?_⟩;show _=_;rw[Xn (by rw[Yd];omega),show(i:Int)=k from by omega]
 ·rintro r rfl;simp only[A0];rw[ah (Yx _)]
theorem adV:Wk 184 1 PW:=by
 refine cL Tryz.func184 rfl fun xs bl r h=> ?_;unfold PW at h;split at h;case h_2=>cases h
 cases h;refine cK (Zd (Xh 1 [Zk [(65:UInt8),(84:UInt8),(72:UInt8)],Zk [(66:UInt8),(79:UInt8),(83:UInt8)],Zk [(67:UInt8),(65:UInt8),(77:UInt8)]],[])) (by kernel_rfl) ?_;rfl
theorem ad_:Wk 205 1 P3:=by
 refine cL Tryz.func205 rfl fun xs bl r h=> ?_;unfold P3 at h;split at h;case h_2=>cases h
 rename_i c n;cases h;refine cK (let t0:Option (AV×aD):=aE (Zv (n<1)) (Zd (Zy .u64 0,[])) (aE (Zv (n>4294967295)) (Zd (Zy .u64 0,[])) (Zd (Zy .u64 (Zz .u64 (↑(BitVec.toNat (BitVec.ofInt (Zp .u64) (Zz .u64 (Zz .u64 c*2 ^ min (Zw 56) (Zp .u64))) ||| BitVec.ofInt (Zp .u64) (Zz .u64 n))):Int)),[])));aE (!c==1) (aE (!c==2) (Zd (Zy .u64 0,[])) t0) t0) (by kernel_rfl) ?_;try dsimp only[aL,bu,aG,dK,ak,cO,dJ]
 unfold Kerb.mX Kerb.ke;by_cases hc:c=1\/c=2;case neg =>
  have q1:(c==(1:Int))=Yw:=by simp;omega
  have q2:(c==(2:Int))=Yw:=by simp;omega
  rw[q1,q2];rfl
 by_cases hn:1<=n/\n<=4294967295;case neg =>
  have q:(Zv (1<=n)&&Zv (n<=4294967295))=Yw:=by
   rw[Bool.eq_false_iff];simp;omega
  rw[q,Bool.and_false];have key:(aE (Zv (n<(1:Int))) (Zd (Zy .u64 (0:Int),([]:aD))) (aE (Zv (n>(4294967295:Int))) (Zd (Zy .u64 (0:Int),[])) (Zd (Zy Yb (Zz Yb ((BitVec.toNat (BitVec.ofInt (Zp Yb) (Zz Yb (Zz Yb c*(2:Int) ^ min (Zw (56:Int)) (Zp Yb))) ||| BitVec.ofInt (Zp Yb) (Zz Yb n)):Nat):Int)),[]))))=Zd (Zy .u64 0,[]):=by
   by_cases hl:n<1
   ·rw[ah (by simpa using hl)]
   ·rw[aj (by simpa using hl),ah (by simp;omega)]
  rcases hc with rfl | rfl
  ·rw[aj (by decide)];exact key
  ·rw[ah (by decide),aj (by decide)];exact key
 have q:(Zv (1<=n)&&Zv (n<=4294967295))=Yq:=by simp;omega
 have q2:(c==(1:Int)||c==(2:Int))=Yq:=by simpa using hc
 rw[q,q2,Kerb.OC hc hn.1 hn.2];rcases hc with rfl | rfl
 ·rw[aj (by decide),aj (by simp;omega),aj (by simp;omega)];rfl
 ·rw[ah (by decide),aj (by decide),aj (by simp;omega),aj (by simp;omega)];rfl
theorem ad':Wk 206 1 P4:=by
 refine cL Tryz.func206 rfl fun xs bl r h=> ?_;unfold P4 at h;split at h;case h_2=>cases h
 rename_i n m;cases h;refine cK (aE (Zv (n>=0)) (Zd (Zq (Zv (n<=m)),[])) (Zd (Zq Yw,[]))) (by kernel_rfl) ?_;by_cases h:0<=n<;>simp[aE,Zn,h]
theorem aea:Wk 207 1 P5:=by
 refine cL Tryz.func207 rfl fun xs bl r h=> ?_;unfold P5 at h;split at h;case h_2=>cases h
 rename_i n m;cases h;refine cK (aE (Zv (n>=0)) (Zd (Zq (Zv (n<=m)),[])) (Zd (Zq Yw,[]))) (by kernel_rfl) ?_;by_cases h:0<=n<;>simp[aE,Zn,h]
theorem aed:Wk 210 1 xt:=by
 refine cL Tryz.func210 rfl fun xs bl r h=> ?_;unfold xt at h;split at h;case h_2=>cases h
 rename_i b pos n;obtain⟨aC,rfl⟩:=dM h;refine cK (aE (Zv (pos<0)) (Zd (Zy .i64 104,[])) (aE (Zv (pos>(↑(Zx b):Int))) (Zd (Zy .i64 104,[])) (aE (Zv (n<0)) (Zd (Zy .i64 104,[])) (aE (Zv (n>Zz .i64 ((↑(Zx b):Int)-pos))) (Zd (Zy .i64 101,[])) (Zd (Zy .i64 0,[])))))) (by kernel_rfl) ?_;simp only[Qa2] at aC;unfold Kerb.room;by_cases h1:pos<0
 ·simp[aE,h1]
 by_cases h2:(b.length:Int)<pos
 ·simp[aE,h1,h2]
 by_cases h3:n<0
 ·simp[aE,h1,h2,h3]
 rw[aj (by simp;omega),aj (by simp;omega),aj (by simp;omega),wrap_i64 (by omega) (by omega),Qa0 (by omega)];by_cases h4:(b.length:Int)-pos<n
 ·rw[ah (by simp;omega),Qa1 h4]
 ·rw[aj (by simp;omega),Qa0 h4]
theorem aek:Wk 218 1 tA:=by
 refine cL Tryz.func218 rfl fun xs bl r h=> ?_;unfold tA at h;split at h;case h_2=>cases h
 rename_i k;obtain⟨aC,rfl⟩:=dM h;refine cK (Zj (bF (fun st=>ak .u64 st fun n r=>ay r fun x r=>AV.eO x fun b=>ak .i64 r fun bt r=>ak .i64 r fun cn r=>aw r (aE (Zv (cn<bt)) (az (Zv (0<=Zz .i64 (8*Zz .i64 (7-cn)))) (az (Zv (0<=cn)&&Zv (cn<(↑(Zx b):Int))) (az (Xz (Zw cn) (Zx b)&&Yq&&Yq&&Yq&&Yq) (Zd (Xv [Zy .u64 n,Yf (Xp b (Zw cn) (Zm (Zw (Zz .u8 (Xy n (2 ^ min (Zw (Zz .i64 (8*Zz .i64 (7-cn)))) (Zp .u64))))))),Zy .i64 bt,Zy .i64 (Zz .i64 (cn+1))]))))) (Zd (Yh (Yu 0,[Zy .u64 n,Yf b,Zy .i64 bt,Zy .i64 cn]))))) [Zy .u64 k,Yf (Yg (Zw 8) (0:UInt8)),Zy .i64 (↑(Zx (Yg (Zw 8) (0:UInt8))):Int),Zy .i64 0]) fun(r:Ex×List AV)=>ak .u64 (Xk r) fun n eY=>ay eY fun x fa=>AV.eO x fun b=>ak .i64 fa fun n fR=>ak .i64 fR fun n gP=>aw gP (jO r.1 Wj fun(j:Nat)=>aE (Xd j 0) (Zd (Zf b,[])) Wj)) (by kernel_rfl) ?_;dsimp only[ak];refine fB 9 (Yu 0,[Zy Yb k,Yf [Yk k 56,Yk k 48,Yk k 40,Yk k 32,Yk k 24,Yk k 16,Yk k 8,Yk k 0],Zy Zu 8,Zy Zu 8]) (by kernel_rfl) ?_;simp only[A0];rw[ah (Yx _)];simp[Kerb.rV,Kerb.keyBytes,Kerb.c9,Xj]
theorem aen:Wk 221 1 P9:=by
 refine cL Tryz.func221 rfl fun xs bl r h=> ?_;unfold P9 at h;split at h;case h_2=>cases h
 rename_i n m;cases h;refine cK (aE (Zv (n>=0)) (Zd (Zq (Zv (n<=m)),[])) (Zd (Zq Yw,[]))) (by kernel_rfl) ?_;by_cases h:0<=n<;>simp[aE,Zn,h]
theorem aeo:Wk 222 1 P_:=by
 refine cL Tryz.func222 rfl fun xs bl r h=> ?_;unfold P_ at h;split at h;case h_2=>cases h
 rename_i nx e B at_ bad;cases h;show eA (G.env 222 1) G.rts (G.own 222) Tryz.f222 _ _ [0]=_;refine cK (aE bad (Zd (Zq Yw,[[Zf B,Zy .i64 at_,Zq Yq]])) (aE (!e==0) (Zd (Zq Yw,[[Zf B,Zy .i64 at_,Zq Yq]])) (Zd (Zq Yq,[[Zf B,Zy .i64 nx,Zq bad]])))) (by kernel_rfl) ?_;cases bad
 ·cases (e==0)<;>rfl
 ·rfl
theorem aes:Wk 226 1 P':=by
 refine cL Tryz.func226 rfl fun xs bl r h=> ?_;unfold P' at h;split at h;case h_2=>cases h
 rename_i nx e B at_ bad;cases h;show eA (G.env 226 1) G.rts (G.own 226) Tryz.f226 _ _ [0]=_;refine cK (aE (!e==0) (Zd (Yv [],[[Zf B,Zy .i64 at_,Zq Yq]])) (Zd (Yv [],[[Zf B,Zy .i64 nx,Zq bad]]))) (by kernel_rfl) ?_;cases bad<;>cases (e==0)<;>rfl
theorem aev:Wk 229 1 Qb:=by
 refine cL Tryz.func229 rfl fun xs bl r h=> ?_;unfold Qb at h;split at h;case h_2=>cases h
 rename_i n m;cases h;refine cK (aE (Zv (n>=0)) (Zd (Zq (Zv (n<=m)),[])) (Zd (Zq Yw,[]))) (by kernel_rfl) ?_;by_cases h:0<=n<;>simp[aE,Zn,h]
theorem aex:Wk 233 1 Qc:=by
 refine cL Tryz.func233 rfl fun xs bl r h=> ?_;unfold Qc at h;split at h;case h_2=>cases h
 rename_i k;cases h;refine cK (aE (k==1) (Zd (Zq Yq,[])) (Zd (Zq (k==2),[]))) (by kernel_rfl) ?_;unfold Kerb.mX;cases (k==(1:Int))<;>rfl
theorem aey:Wk 234 1 Qd:=by
 refine cL Tryz.func234 rfl fun xs bl r h=> ?_;unfold Qd at h;split at h;case h_2=>cases h
 rename_i k;cases h;refine cK (aE (Zv (k>=1)) (Zd (Zq (Zv (k<=4294967295)),[])) (Zd (Zq Yw,[]))) (by kernel_rfl) ?_;by_cases h:1<=k<;>simp[aE,Kerb.ke,h]
theorem aeA:Wk 238 1 Qe:=by
 refine cL Tryz.func238 rfl fun xs bl r h=> ?_;unfold Qe at h;split at h;case h_2=>cases h
 rename_i k;cases h;refine cK (aE (Zv (k>=1)) (Zd (Zq (Zv (k<=10)),[])) (Zd (Zq Yw,[]))) (by kernel_rfl) ?_;by_cases h:1<=k<;>simp[aE,Xu,h]
theorem aeC:Wk 241 1 H3:=by
 refine cL Tryz.func241 rfl fun xs bl r h=> ?_;unfold H3 at h;split at h;case h_2=>cases h
 rename_i k els;obtain⟨aC,rfl⟩:=dM h;refine cK (Zj (bF (fun st=>ak .i64 st fun n r=>aG r fun b r=>cO 1 r fun c5 r=>ak .i64 r fun bt r=>ak .i64 r fun cn r=>aw r (aE (Zv (cn<bt)) (az (Zv (0<=cn)&&Zv (cn<(↑(Zx c5):Int))&&Yq) (AV.ax .i64 (Zh c5 (Zw cn) Xf) fun eR=>aE (eR==n) (Zd (Yh (Ex.ret,[Zy .i64 n,Zq Yq,Xh 1 c5,Zy .i64 bt,Zy .i64 cn]))) (Zd (Xv [Zy .i64 n,Zq b,Xh 1 c5,Zy .i64 bt,Zy .i64 (Zz .i64 (cn+1))])))) (Zd (Yh (Yu 0,[Zy .i64 n,Zq b,Xh 1 c5,Zy .i64 bt,Zy .i64 cn]))))) [Zy .i64 k,Zq Yw,Xh 1 els,Zy .i64 (↑(Zx els):Int),Zy .i64 0]) fun(r:Ex×List AV)=>ak .i64 (Xk r) fun n eY=>aG eY fun b fa=>cO 1 fa fun c5 fR=>ak .i64 fR fun n gP=>ak .i64 gP fun n iV=>aw iV (jO r.1 (Zd (Zq b,[])) fun(j:Nat)=>aE (Xd j 0) (Zd (Zq Yw,[])) Wj)) (by kernel_rfl) ?_;dsimp only[aG,ak,cO];simp only[Zb,Qa2] at aC;obtain⟨ha,hl⟩:=aC;have hil:=Kerb.GJ ha;refine cm (fun i:Nat=>[Zy Zu k,Zq Yw,Xh 1 els,Zy Zu (els.length:Int),Zy Zu (i:Int)]) (fun i=>i<=els.length/\(k∈jT els↔k∈(jT els).drop i)) (fun i=>els.length-i)
  (fun r=>∃ (i:Nat) (x:Bool),r.2=[Zy Zu k,Zq x,Xh 1 els,Zy Zu (els.length:Int),Zy Zu (i:Int)]/\((r.1 = .ret/\x=Yq/\k∈jT els)\/(r.1 = .exit 0/\k ∉ jT els))) 0 ⟨Ww _,by simp⟩ rfl ?_ ?_
 ·rintro i ⟨hi,hm⟩;simp only[A0];by_cases fz:i<els.length
  ·obtain⟨n,h1,h2⟩:=Kerb.GI ha fz;rw[ah (by simp;omega),ae (by simp;omega),Yn,h1,Da];rw[h2,List.mem_cons] at hm;by_cases h3:n=k
   ·rw[ah (by simpa using h3)];exact⟨_,rfl,i,Yq,rfl,.inl ⟨rfl,rfl,hm.2 (.inl h3.symm)⟩⟩
   ·rw[aj (by simpa using h3),wrap_i64 (by omega) (by omega)];exact⟨_,rfl,i+1,rfl,⟨by omega,hm.trans ⟨fun h=>h.resolve_left fun e=>h3 e.symm,.inr⟩⟩,by dsimp only;omega⟩
  ·rw[aj (by simp;omega)];refine⟨_,rfl,i,Yw,rfl,.inr ⟨rfl,?_⟩⟩;rw[hm,List.drop_eq_nil_of_le (by omega)];simp
 ·rintro⟨e,l⟩ ⟨i,x,rfl,⟨rfl,rfl,h⟩ | ⟨rfl,h⟩⟩
  ·simp[ay,AV.ax,AV.cW,AV.ik,aw,jO,h]
  ·simp[ay,AV.ax,AV.cW,AV.ik,aw,jO,h,aE]
theorem aeG:Wk 245 1 Qi:=by
 refine cL Tryz.func245 rfl fun xs bl r h=> ?_;unfold Qi at h;split at h;case h_2=>cases h
 rename_i n m;cases h;refine cK (aE (Zv (n>=0)) (Zd (Zq (Zv (n<=m)),[])) (Zd (Zq Yw,[]))) (by kernel_rfl) ?_;by_cases h:0<=n<;>simp[aE,Zn,h]
theorem aeM:Wk 251 1 Qk:=by
 refine cL Tryz.func251 rfl fun xs bl r h=> ?_;unfold Qk at h;split at h;case h_2=>cases h
 rename_i n;cases h;refine cK (aE (n==1) (Zd (Zq Yq,[])) (aE (n==2) (Zd (Zq Yq,[])) (Zd (Zq (n==3),[])))) (by kernel_rfl) ?_;unfold Kerb.lN;cases (n==1)
 ·cases (n==2)<;>rfl
 ·rfl
theorem aeN:Wk 252 1 Ql:=by
 refine cL Tryz.func252 rfl fun xs bl r h=> ?_;unfold Ql at h;split at h;case h_2=>cases h
 rename_i n m;cases h;refine cK (aE (Zv (n>=0)) (Zd (Zq (Zv (n<=m)),[])) (Zd (Zq Yw,[]))) (by kernel_rfl) ?_;by_cases h:0<=n<;>simp[aE,Zn,h]
theorem aeO:Wk 255 1 Qn:=by
 refine cL Tryz.func255 rfl fun xs bl r h=> ?_;unfold Qn at h;split at h;case h_2=>cases h
 rename_i n m;cases h;refine cK (aE (Zv (n>=0)) (Zd (Zq (Zv (n<=m)),[])) (Zd (Zq Yw,[]))) (by kernel_rfl) ?_;by_cases h:0<=n<;>simp[aE,Zn,h]
theorem aeS:Wk 261 1 Qo:=by
 refine cL Tryz.func261 rfl fun xs bl r h=> ?_;unfold Qo at h;split at h;case h_2=>cases h
 rename_i k;cases h;refine cK (aE (Zv (k>=1)) (Zd (Zq (Zv (k<=10)),[])) (Zd (Zq Yw,[]))) (by kernel_rfl) ?_;by_cases h:1<=k<;>simp[aE,Xu,h]
theorem aeY:Wk 267 1 Ia:=by
 refine cL Tryz.func267 rfl fun xs bl r h=> ?_;unfold Ia at h;split at h;case h_2=>cases h
 rename_i a b els;obtain⟨aC,rfl⟩:=dM h;show eA (G.env 267 1) G.rts (G.own 267) Tryz.f267 _ _ [0]=_;refine cK (Zj (bF (fun st=>ay st fun x r=>AV.aT x fun y=>ak .i64 r fun n r=>ak .i64 r fun bt r=>aw r (aE (Zv (n<bt)) (az (Zv (0<=bt)&&Zv (bt<(↑(Zx y):Int))&&Yq) (az (Xz (Zw bt) (Zx y)&&Yq) (AV.ax .u64 (Zh y (Zw bt) Xf) fun cn=>az (Zv (0<=n)&&Zv (n<(↑(Zx y):Int))&&Yq) (az (Xz (Zw n) (Zx y)&&Yq) (AV.ax .u64 (Zh y (Zw n) Xf) fun eR=>az (Zv (0<=n)&&Zv (n<(↑(Zx y):Int))&&Yq) (az (Xz (Zw n) (Zx y)&&Yq) (AV.ax .u64 (Zh y (Zw n) Xf) fun bV=>az (Zx [Zy .u64 cn]==nat_lit 1&&Yq&&Yq&&Yq&&Xz (Zw n) (Zx y)) (az (Zv (0<=bt)&&Zv (bt<(↑(Zx (Xp y (Zw n) (Zy .u64 cn))):Int))&&Yq) (az (Xz (Zw bt) (Zx (Xp y (Zw n) (Zy .u64 cn)))&&Yq) (AV.ax .u64 (Zh (Xp y (Zw n) (Zy .u64 cn)) (Zw bt) Xf) fun bL=>az (Zx [Zy .u64 eR]==nat_lit 1&&Yq&&Yq&&Yq&&Xz (Zw bt) (Zx (Xp y (Zw n) (Zy .u64 cn)))) (Zd (Xv [Wy (Xp (Xp y (Zw n) (Zy .u64 cn)) (Zw bt) (Zy .u64 eR)),Zy .i64 (Zz .i64 (n+1)),Zy .i64 (Zz .i64 (bt-1))])))))))))))) (Zd (Yh (Yu 0,[Wy y,Zy .i64 n,Zy .i64 bt]))))) [Wy els,Zy .i64 a,Zy .i64 (Zz .i64 (b-1))]) fun(r:Ex×List AV)=>ay (Xk r) fun x eY=>AV.aT x fun y=>ak .i64 eY fun n fa=>ak .i64 fa fun n fR=>aw fR (jO r.1 (Zd (Yv [],[y])) fun(j:Nat)=>aE (Xd j 0) (Zd (Yv [],[y])) Wj)) (by kernel_rfl) ?_;dsimp only[ak];simp only[Zb,Qa2] at aC;obtain⟨⟨⟨⟨fW,hlen⟩,Iu⟩,vC⟩,hb⟩:=aC;obtain⟨d,rfl,hd⟩:=Kerb.lW fW;simp only[Kerb.aU] at *;unfold Kerb.R6;rw[hd];obtain⟨a,rfl⟩:=Xw Iu;obtain⟨b,rfl⟩:=Xw (show 0<=b by omega);simp only[Yn];rw[Kerb.gE (by omega) (by omega)];unfold Go.Sort.reverseRange;refine cm (fun s:Array Int×Nat×Int=>[Wy (Wx s.1),Zy .i64 (s.2.1:Int),Zy .i64 s.2.2]) (fun s=>s.1.size=d.size/\s.2.1<=d.size /\ -1<=s.2.2/\s.2.2<d.size/\Go.Sort.reverseLoop s.2.1 s.2.2.toNat s.1=Go.Sort.reverseLoop a (b-1) d) (fun s=>(s.2.2-s.2.1+1).toNat) (fun r=>∃ n m,r=(.exit 0,[Wy (Wx (Go.Sort.reverseLoop a (b-1) d)),Zy .i64 n,Zy .i64 m])) (d,a,(b:Int)-1) ⟨rfl,by dsimp only;omega,by dsimp only;omega,by dsimp only;omega,by dsimp only;rw[show((b:Int)-1).toNat=b-1 by omega]⟩ rfl ?_ ?_
 ·rintro⟨e,i,j⟩ ⟨hs,hi,hj0,hj1,hr⟩;dsimp only at hs hi hj0 hj1 hr ⊢;simp only[↓bI,↓b_,↓cT,↓cZ];by_cases h:(i:Int)<j
  ·obtain⟨m,rfl⟩:=Xw (show 0<=j by omega);have hm:m<e.size:=by omega
   have hie:i<e.size:=by omega
   rw[Yn] at hr;rw[ah (by simpa using h),Kerb.gE (by omega) (by omega),Kerb.gE (by omega) (by omega),Kerb.sw hie hm (fun l=>Zd (Xv [Wy l,Zy .i64 ((i:Int)+1),Zy .i64 ((m:Int)-1)]))];refine⟨_,rfl,(Go.Sort.swp e i m,i+1,(m:Int)-1),rfl,⟨by dsimp only;rw[Kerb.swp_size,hs],by dsimp only;omega,by dsimp only;omega,by dsimp only;omega,?_⟩,by dsimp only;omega⟩;dsimp only;rw[<-hr];conv=>rhs;unfold Go.Sort.reverseLoop
   rw[Qa1 (by omega),show((m:Int)-1).toNat=m-1 by omega]
  ·rw[aj (by simpa using h)];refine⟨_,rfl,i,j,?_⟩;have:Go.Sort.reverseLoop i j.toNat e=e:=by
    unfold Go.Sort.reverseLoop;rw[Qa0 (by omega)]
   rw[<-hr,this]
 ·rintro _ ⟨n,m,rfl⟩;simp only[↓bI,↓b_,↓cT,↓cZ,↓jP];rw[ah (Yx _)]
theorem ae3:Wk 273 1 Ic:=by
 refine cL Tryz.func273 rfl fun xs bl r h=> ?_;unfold Ic at h;split at h;case h_2=>cases h
 rename_i x;obtain⟨aC,rfl⟩:=dM h;refine cK (let t2:List UInt8:=([8,8,8,8,8,8,8,8,8,8,8,8,8,8,8,8,8,8,8,8,8,8,8,8,8,8,8,8,8,8,8,8,8,8,8,8,8,8,8,8,8,8,8,8,8,8,8,8,8,8,8,8,8,8,8,8,8,8,8,8,8,8,8,8]:List UInt8);let t11:Int:=Xy x (2 ^ min (Zw 32) (Zp .u64));let t12:Int:=(↑(Zg (Zm (Zw (Zz .u8 x)))):Int);let t13:Int:=Xy x (2 ^ min (Zw 16) (Zp .u64));let t14:Int:=2 ^ min (Zw 8) (Zp .u64);let t1:List UInt8:=(0:UInt8)::Yp (Yp ([1,2,2,3,3,3,3,4,4,4,4,4,4,4,4,5,5,5,5,5,5,5,5,5,5,5,5,5,5,5,5,6,6,6,6,6,6,6,6,6,6,6,6,6,6,6,6,6,6,6,6,6,6,6,6,6,6,6,6,6,6,6,6]:List UInt8) ([7,7,7,7,7,7,7,7,7,7,7,7,7,7,7,7,7,7,7,7,7,7,7,7,7,7,7,7,7,7,7,7,7,7,7,7,7,7,7,7,7,7,7,7,7,7,7,7,7,7,7,7,7,7,7,7,7,7,7,7,7,7,7,7]:List UInt8)) (Yp t2 t2);let t4:Int:=(↑(Zg (Zm (Zw (Zz .u8 (Xy t11 t14))))):Int);let t6:Int:=(↑(Zg (Zm (Zw (Zz .u8 (Xy t13 t14))))):Int);let t7:Int:=(↑(Zg (Zm (Zw (Zz .u8 t11)))):Int);let t8:Int:=(↑(Zg (Zm (Zw (Zz .u8 t13)))):Int);let t9:Int:=(↑(Zg (Zm (Zw (Zz .u8 (Xy x t14))))):Int);let t10:Int:=Xy t11 (2 ^ min (Zw 16) (Zp .u64));let t0:Int:=(↑(Zx t1):Int);let t3:Int:=(↑(Zg (Zm (Zw (Zz .u8 (Xy t10 t14))))):Int);let t5:Int:=(↑(Zg (Zm (Zw (Zz .u8 t10)))):Int);aE (Zv (x>=4294967296)) (aE (Zv (t11>=65536)) (aE (Zv (t10>=256)) (az (Zv (0<=t3)&&Zv (t3<t0)) (Zd (Zy .i64 (Zz .i64 (Zz .i64 (Zz .i64 (32+16)+8)+Zz .i64 (↑(Zg (Zh t1 (Zw t3) (0:UInt8))):Int))),[]))) (az (Zv (0<=t5)&&Zv (t5<t0)) (Zd (Zy .i64 (Zz .i64 (Zz .i64 (32+16)+Zz .i64 (↑(Zg (Zh t1 (Zw t5) (0:UInt8))):Int))),[])))) (aE (Zv (t11>=256)) (az (Zv (0<=t4)&&Zv (t4<t0)) (Zd (Zy .i64 (Zz .i64 (Zz .i64 (32+8)+Zz .i64 (↑(Zg (Zh t1 (Zw t4) (0:UInt8))):Int))),[]))) (az (Zv (0<=t7)&&Zv (t7<t0)) (Zd (Zy .i64 (Zz .i64 (32+Zz .i64 (↑(Zg (Zh t1 (Zw t7) (0:UInt8))):Int))),[]))))) (aE (Zv (x>=65536)) (aE (Zv (t13>=256)) (az (Zv (0<=t6)&&Zv (t6<t0)) (Zd (Zy .i64 (Zz .i64 (Zz .i64 (Zz .i64 (0+16)+8)+Zz .i64 (↑(Zg (Zh t1 (Zw t6) (0:UInt8))):Int))),[]))) (az (Zv (0<=t8)&&Zv (t8<t0)) (Zd (Zy .i64 (Zz .i64 (Zz .i64 (0+16)+Zz .i64 (↑(Zg (Zh t1 (Zw t8) (0:UInt8))):Int))),[])))) (aE (Zv (x>=256)) (az (Zv (0<=t9)&&Zv (t9<t0)) (Zd (Zy .i64 (Zz .i64 (Zz .i64 (0+8)+Zz .i64 (↑(Zg (Zh t1 (Zw t9) (0:UInt8))):Int))),[]))) (az (Zv (0<=t12)&&Zv (t12<t0)) (Zd (Zy .i64 (Zz .i64 (0+Zz .i64 (↑(Zg (Zh t1 (Zw t12) (0:UInt8))):Int))),[])))))) (by kernel_rfl) ?_;try dsimp only[aL,bu,aG,dK,ak,cO,dJ]
 simp only[Zb,Qa2] at aC;obtain⟨h0,h1⟩:=aC;obtain⟨n,rfl⟩:=Xw h0;rw[Kerb.AM];simp only[Kerb.f32,Kerb.f16,Kerb.f8];by_cases h32:2 ^ 32<=n
 ·rw[ah (by simp;omega)];have e32:=Kerb.jq 32 h32;have b32:n / 2 ^ 32<2 ^ 32:=by omega
  generalize n / 2 ^ 32=m0 at e32 b32 ⊢;by_cases h16:2 ^ 16<=m0
  ·rw[ah (by simp;omega)];have e16:=Kerb.jq 16 h16;have b16:m0 / 2 ^ 16<2 ^ 16:=by omega
   generalize m0 / 2 ^ 16=m5 at e16 b16 ⊢;by_cases h8:2 ^ 8<=m5
   ·rw[ah (by simp;omega)];have e8:=Kerb.jq 8 h8;have b8:m5 / 2 ^ 8<2 ^ 8:=by omega
    generalize m5 / 2 ^ 8=m10 at e8 b8 ⊢;rw[Kerb.nf (by decide +kernel) (by omega) (by decide) (by decide)];have hz:Zz .i64 (Zz .i64 ((32:Int)+(16:Int))+(8:Int))+(Go.Sort.bitsLen m10:Int)=(Go.Sort.bitsLen n:Int):=by
     have:Zz .i64 (Zz .i64 ((32:Int)+(16:Int))+(8:Int))=56:=by decide
     omega
    rw[hz]
   ·rw[aj (by simp;omega)];rw[Kerb.nf (by decide +kernel) (by omega) (by decide) (by decide)];have hz:Zz .i64 ((32:Int)+(16:Int))+(Go.Sort.bitsLen m5:Int)=(Go.Sort.bitsLen n:Int):=by
     have:Zz .i64 ((32:Int)+(16:Int))=48:=by decide
     omega
    rw[hz]
  ·rw[aj (by simp;omega)];by_cases h8:2 ^ 8<=m0
   ·rw[ah (by simp;omega)];have e8:=Kerb.jq 8 h8;have b8:m0 / 2 ^ 8<2 ^ 8:=by omega
    generalize m0 / 2 ^ 8=m27 at e8 b8 ⊢;rw[Kerb.nf (by decide +kernel) (by omega) (by decide) (by decide)];have hz:Zz .i64 ((32:Int)+(8:Int))+(Go.Sort.bitsLen m27:Int)=(Go.Sort.bitsLen n:Int):=by
     have:Zz .i64 ((32:Int)+(8:Int))=40:=by decide
     omega
    rw[hz]
   ·rw[aj (by simp;omega)];rw[Kerb.nf (by decide +kernel) (by omega) (by decide) (by decide)];have hz:(32:Int)+(Go.Sort.bitsLen m0:Int)=(Go.Sort.bitsLen n:Int):=by
     have:(32:Int)=32:=by decide
     omega
    rw[hz]
 ·rw[aj (by simp;omega)];by_cases h16:2 ^ 16<=n
  ·rw[ah (by simp;omega)];have e16:=Kerb.jq 16 h16;have b16:n / 2 ^ 16<2 ^ 16:=by omega
   generalize n / 2 ^ 16=m44 at e16 b16 ⊢;by_cases h8:2 ^ 8<=m44
   ·rw[ah (by simp;omega)];have e8:=Kerb.jq 8 h8;have b8:m44 / 2 ^ 8<2 ^ 8:=by omega
    generalize m44 / 2 ^ 8=m49 at e8 b8 ⊢;rw[Kerb.nf (by decide +kernel) (by omega) (by decide) (by decide)];have hz:Zz .i64 (Zz .i64 ((0:Int)+(16:Int))+(8:Int))+(Go.Sort.bitsLen m49:Int)=(Go.Sort.bitsLen n:Int):=by
     have:Zz .i64 (Zz .i64 ((0:Int)+(16:Int))+(8:Int))=24:=by decide
     omega
    rw[hz]
   ·rw[aj (by simp;omega)];rw[Kerb.nf (by decide +kernel) (by omega) (by decide) (by decide)];have hz:Zz .i64 ((0:Int)+(16:Int))+(Go.Sort.bitsLen m44:Int)=(Go.Sort.bitsLen n:Int):=by
     have:Zz .i64 ((0:Int)+(16:Int))=16:=by decide
     omega
    rw[hz]
  ·rw[aj (by simp;omega)];by_cases h8:2 ^ 8<=n
   ·rw[ah (by simp;omega)];have e8:=Kerb.jq 8 h8;have b8:n / 2 ^ 8<2 ^ 8:=by omega
    generalize n / 2 ^ 8=m66 at e8 b8 ⊢;rw[Kerb.nf (by decide +kernel) (by omega) (by decide) (by decide)];have hz:Zz .i64 ((0:Int)+(8:Int))+(Go.Sort.bitsLen m66:Int)=(Go.Sort.bitsLen n:Int):=by
     have:Zz .i64 ((0:Int)+(8:Int))=8:=by decide
     omega
    rw[hz]
   ·rw[aj (by simp;omega)];rw[Kerb.nf (by decide +kernel) (by omega) (by decide) (by decide)];have hz:(0:Int)+(Go.Sort.bitsLen n:Int)=(Go.Sort.bitsLen n:Int):=by
     have:(0:Int)=0:=by decide
     omega
    rw[hz]
theorem ae7:Wk 277 1 Ig:=by
 refine cL Tryz.func277 rfl fun xs bl r h=> ?_;unfold Ig at h;split at h;case h_2=>cases h
 rename_i x;obtain⟨aC,rfl⟩:=dM h;show eA (G.env 277 1) G.rts (G.own 277) Tryz.f277 _ _ [0]=_;refine cK (let t2:Int:=Zz .u64 (↑(BitVec.toNat (BitVec.ofInt (Zp .u64) x ^^^ BitVec.ofInt (Zp .u64) (Zz .u64 (x*2 ^ min (Zw 13) (Zp .u64))))):Int);let t1:Int:=Zz .u64 (↑(BitVec.toNat (BitVec.ofInt (Zp .u64) t2 ^^^ BitVec.ofInt (Zp .u64) (Xy t2 (2 ^ min (Zw 7) (Zp .u64))))):Int);let t0:AV:=Zy .u64 (Zz .u64 (↑(BitVec.toNat (BitVec.ofInt (Zp .u64) t1 ^^^ BitVec.ofInt (Zp .u64) (Zz .u64 (t1*2 ^ min (Zw 17) (Zp .u64))))):Int));Zd (t0,[[t0]])) (by kernel_rfl) ?_;try dsimp only[aL,bu,aG,dK,ak,cO,dJ]
 simp only[Zb,Qa2] at aC;obtain⟨h0,h1⟩:=aC;obtain⟨v,rfl⟩:∃ v:BitVec 64,x=(v.toNat:Int):=⟨BitVec.ofNat 64 x.toNat,by rw[BitVec.toNat_ofNat];omega⟩;exact Qb3 (fun z=>Zd (Zy .u64 z,[[Zy .u64 z]])) (Kerb.QW v)
theorem ae_:Wk 280 1 Qr:=by
 refine cL Tryz.func280 rfl fun xs bl r h=> ?_;unfold Qr at h;split at h;case h_2=>cases h
 rename_i x;cases h;refine cK (Zd (Zq !x==x,[])) (by kernel_rfl) ?_;simp
theorem w29:Wk 29 2 U5:=by
 refine cL Tryz.func29 rfl fun xs bl r h=> ?_;unfold U5 at h;split at h;case h_2=>cases h
 rename_i n;cases h;refine cK (aE (Zv ((↑(Zg (Zm (Zw (Yz (↑(Zg n):Int) (↑(Zg (6:UInt8)):Int))))):Int)<(↑(Zg (2:UInt8)):Int))) (Zj (Qf [Zy .i64 (Yz (Zz .i64 (↑(Zg n):Int)) 6)] []) (kI .u64 fun n=>Zd (Zy .u64 n,[]))) (Zj (JS [Zy .i64 (Yz (Zz .i64 (↑(Zg n):Int)) 6)] []) (kI .u64 fun n=>Zd (Zy .u64 n,[])))) (by kernel_rfl) ?_;delta kI;dsimp only[JS,Qf,aL,bu,aG,dK,ak,cO,dJ];have h:=Kerb.zE n (m:=6) (by decide);have e1:Zv (0<=Kerb.s8 n 6)=Yq:=Qa4 h.1;have e2:Zv (Kerb.s8 n 6<=1000)=Yq:=Qa4 (by omega);simp only[A0,Xm,Wz,Kerb.eP.av,e1,e2,Bool.and_self];unfold Kerb.fZ;rw[Px];cases Zv (((Zm (Zw (Yz (n.toNat:Int) ((6:UInt8).toNat:Int)))).toNat:Int)<((2:UInt8).toNat:Int))<;>rfl
theorem w60:Wk 60 2 Va:=by
 refine cL Tryz.func60 rfl fun xs bl r h=> ?_;unfold Va at h;split at h;case h_2=>cases h
 rename_i n;cases h;refine cK (Zj (JS [Zy .i64 (Zz .i64 (2+Yz (Zz .i64 (↑(Zg n):Int)) 4))] []) (kI .u64 fun n=>Zd (Zy .u64 n,[]))) (by kernel_rfl) ?_;delta kI;dsimp only[JS,aL,bu,aG,dK,ak,cO,dJ];have h:=Kerb.zE n (m:=4) (by decide);have e0:Go.IntKind.wrap .i64 (2+Kerb.s8 n 4)=2+Kerb.s8 n 4:=wrap_i64 (by omega) (by omega);have e1:Zv (0<=Go.IntKind.wrap .i64 (2+Kerb.s8 n 4))=Yq:=Qa4 (by rw[e0];omega);have e2:Zv (Go.IntKind.wrap .i64 (2+Kerb.s8 n 4)<=1000)=Yq:=Qa4 (by rw[e0];omega);simp only[A0,Xm,Wz,Kerb.eP.av,e1,e2,Bool.and_self,Kerb.Bi]
theorem w91:Wk 91 2 Fe:=by
 refine cL Tryz.func91 rfl fun xs bl r h=> ?_;unfold Fe at h;split at h;case h_2=>cases h
 rename_i s;obtain⟨aC,rfl⟩:=dM h;refine cK (aE (Zv ((↑(Zx s):Int)>0)) (Zj (xp [Zk s,Zk [(64:UInt8)]] []) (kL fun b=>Zd (Zq b,[]))) (Zd (Zq Yw,[]))) (by kernel_rfl) ?_;delta kL;dsimp only[xp,aL,bu,aG,dK,ak,cO,dJ];simp only[A0];rw[ae (by rw[aC];rfl)];simp only[Kerb.cJ];cases s with
 | nil=>rfl
 | cons x r =>
  rw[ah (by first | (simp;done) | (simp;omega)),Bool.and_comm];rfl
theorem w93:Wk 93 2 iu:=by
 refine cL Tryz.func93 rfl fun xs bl r h=> ?_;unfold iu at h;split at h;case h_2=>cases h
 rename_i b n;obtain⟨aC,rfl⟩:=dM h;refine cK (Zj (xq [Zf b,Zy .i64 n,Zy .i64 1,Zq Yw] []) (kO fun l=>Zd (Yf l,[]))) (by kernel_rfl) ?_;delta kO;dsimp only[xq,aL,bu,aG,dK,ak,cO,dJ];simp only[Qa2] at aC;simp only[A0];rw[ae (by simp;omega)];rfl
theorem acV:Wk 105 2 Bp:=by
 refine cL Tryz.func105 rfl fun xs bl r h=> ?_;unfold Bp at h;split at h;case h_2=>cases h
 rename_i n;obtain⟨aC,rfl⟩:=dM h;refine cK (az (Zv (0<=Yz n 3)&&Zv (Yz n 3<(↑(Zx [Zk [(65:UInt8),(84:UInt8),(72:UInt8)],Zk [(66:UInt8),(79:UInt8),(83:UInt8)],Zk [(67:UInt8),(65:UInt8),(77:UInt8)]]):Int))&&Yq) (AV.gN (Zh [Zk [(65:UInt8),(84:UInt8),(72:UInt8)],Zk [(66:UInt8),(79:UInt8),(83:UInt8)],Zk [(67:UInt8),(65:UInt8),(77:UInt8)]] (Zw (Yz n 3)) Xf) fun b=>Zd (Zk b,[]))) (by kernel_rfl) ?_;have hn:0<=n:=by first | exact Qa3 aC | (simp only[Zb,Qa2] at aC;exact aC.1)
 have ht:Yz n 3=n % 3:=Ym hn;have wz:n % 3=0\/n % 3=1\/n % 3=2:=by omega
 rcases wz with e | e | e<;>simp[ht,e,az,AV.gN,Kerb.aJ]
theorem acY:Wk 108 2 je:=by
 refine cL Tryz.func108 rfl fun xs bl r h=> ?_;unfold je at h;split at h;case h_2=>cases h
 rename_i b x y z;obtain⟨aC,rfl⟩:=dM h;refine cK (Zj (oN [Zf b,Zk x] []) (kO fun l=>Zj (oN [Zf l,Zk y] []) (kO fun l=>Zj (oN [Zf l,Zk z] []) (kO fun l=>Zd (Yf l,[]))))) (by kernel_rfl) ?_;delta kO;dsimp only[oN,aL,bu,aG,dK,ak,cO,dJ];simp only[Qa2] at aC;simp only[A0];rw[ae (by simp;omega),ae (by simp[Kerb.a_];omega),ae (by simp[Kerb.a_];omega)];rfl
theorem acZ:Wk 109 2 eF:=by
 refine cL Tryz.func109 rfl fun xs bl r h=> ?_;unfold eF at h;split at h;case h_2=>cases h
 rename_i b n aq;obtain⟨aC,rfl⟩:=dM h;refine cK (Zj (xq [Zf b,Zy .i64 n,Zy .i64 4,Zq aq] []) (kO fun l=>Zd (Yf l,[]))) (by kernel_rfl) ?_;delta kO;dsimp only[xq,aL,bu,aG,dK,ak,cO,dJ];simp only[Qa2] at aC;simp only[A0];rw[ae (by simp;omega)];rfl
theorem ac0:Wk 110 2 k_:=by
 refine cL Tryz.func110 rfl fun xs bl r h=> ?_;unfold k_ at h;split at h;case h_2=>cases h
 rename_i b n aq;obtain⟨aC,rfl⟩:=dM h;refine cK (Zj (xq [Zf b,Zy .i64 n,Zy .i64 2,Zq aq] []) (kO fun l=>Zd (Yf l,[]))) (by kernel_rfl) ?_;delta kO;dsimp only[xq,aL,bu,aG,dK,ak,cO,dJ];simp only[Qa2] at aC;simp only[A0];rw[ae (by simp;omega)];rfl
theorem ac1:Wk 111 2 tu:=by
 refine cL Tryz.func111 rfl fun xs bl r h=> ?_;unfold tu at h;split at h;case h_2=>cases h
 rename_i s;obtain⟨aC,rfl⟩:=dM h;refine cK (aE (Zv ((↑(Zx s):Int)>0)) (Zj (xp [Zk s,Zk [(46:UInt8),(64:UInt8)]] []) (kL fun b=>Zd (Zq b,[]))) (Zd (Zq Yw,[]))) (by kernel_rfl) ?_;delta kL;dsimp only[xp,aL,bu,aG,dK,ak,cO,dJ];simp only[A0];rw[ae (by rw[aC];rfl)];simp only[Kerb.validName];cases s with
 | nil=>rfl
 | cons x r =>
  rw[ah (by first | (simp;done) | (simp;omega)),Bool.and_comm];rfl
theorem ac2:Wk 112 2 tv:=by
 refine cL Tryz.func112 rfl fun xs bl r h=> ?_;unfold tv at h;split at h;case h_2=>cases h
 rename_i s;obtain⟨aC,rfl⟩:=dM h;refine cK (Zj (xp [Zk s,Zk [(64:UInt8)]] []) (kL fun b=>Zd (Zq b,[]))) (by kernel_rfl) ?_;delta kL;dsimp only[xp,aL,bu,aG,dK,ak,cO,dJ];simp only[A0];rw[ae (by rw[aC];rfl),Bool.and_comm];rfl
theorem adg:Wk 136 2 nD:=by
 refine cL Tryz.func136 rfl fun xs bl r h=> ?_;unfold nD at h;split at h;case h_2=>cases h
 rename_i k;obtain⟨aC,rfl⟩:=dM h;refine cK (let t0:Int:=Zz .i64 (Zz .u64 (↑(BitVec.toNat (BitVec.ofInt (Zp .u64) k &&& BitVec.ofInt (Zp .u64) 72057594037927935)):Int));aE (!k==0) (Zd (Zq ((bif Kerb.mX (Zz .i64 (Xy k (2 ^ min (Zw 56) (Zp .u64))))&&Kerb.ke t0 then Zz .i64 (Xy k (2 ^ min (Zw 56) (Zp .u64)))*72057594037927936+t0 else 0)==k),[])) (Zd (Zq Yw,[]))) (by kernel_rfl) ?_;try dsimp only[aL,bu,aG,dK,ak,cO,dJ]
 simp only[Zb,Qa2] at aC;obtain⟨h0,h1⟩:=aC;rw[Kerb.OA h0 h1,Kerb.OB h0 h1,Kerb.RM];by_cases hk:k=0
 ·subst hk;rfl
 rw[ah (by simpa using hk)];unfold Kerb.bm;cases Kerb.mX (Kerb.kf k)&&Kerb.ke (Kerb.jI k)
 ·have q:((0:Int)==k)=Yw:=by simp;omega
  simp only[Qa6,q]
 ·simp only[Qa5,BEq.rfl]
theorem adu:Wk 148 2 rF:=by
 refine cL Tryz.func148 rfl fun xs bl r h=> ?_;unfold rF at h;split at h;case h_2=>cases h
 rename_i b pos n;obtain⟨aC,rfl⟩:=dM h;refine cK (Zj (xt [Zf b,Zy .i64 pos,Zy .i64 n] []) (kI .i64 fun bt=>aE (!bt==0) (Zd (Yv [Zf [],Zy .i64 0,Zy .i64 bt],[])) (az (Zv (0<=pos)&&Zv (pos<=Zz .i64 (pos+n))&&Zv (Zz .i64 (pos+n)<=(↑(Zx b):Int))) (Zj (BA [Zf (Xg (Zw pos) (Xq (Zw (Zz .i64 (pos+n))) b))] []) (kB fun b=>Zd (Yv [Zf b,Zy .i64 (Zz .i64 (pos+n)),Zy .i64 0],[])))))) (by kernel_rfl) ?_;delta kB kI;dsimp only[xt,BA,aL,bu,aG,dK,ak,cO,dJ];have hb:=Qa3 aC;simp only[A0];rw[ae (by simp;omega)];unfold Kerb.bytes;by_cases hr:Kerb.room b pos n=0
 ·obtain⟨q1,q2,q3,q4⟩:=Kerb.mI.1 hr;have e:Xg (Zw pos) (Xq (Zw (pos+n)) b)=Kerb.cut b pos n:=by
   rw[show Zw (pos+n)=pos.toNat+n.toNat by omega,List.drop_take,show pos.toNat+n.toNat-pos.toNat=n.toNat by omega];rfl
  have hc:=Kerb.kJ hr;rw[aj (by simp[hr]),Qa1 hr,wrap_i64 (by omega) (by omega),e,ae (by simp;omega),ae (by simp;omega)]
 ·rw[ah (by simpa using hr),Qa0 hr]
theorem adS:Wk 177 2 Bv:=by
 refine cL Tryz.func177 rfl fun xs bl r h=> ?_;unfold Bv at h;split at h;case h_2=>cases h
 rename_i k;obtain⟨aC,rfl⟩:=dM h;refine cK (let t0:Int:=Zz .i64 (Zz .u64 (↑(BitVec.toNat (BitVec.ofInt (Zp .u64) k &&& BitVec.ofInt (Zp .u64) 72057594037927935)):Int));let t1:Option (AV×aD):=Zd (Yv [Zy .i64 0,Zy .i64 0,Zq Yw],[]);aE (!Kerb.mX (Zz .i64 (Xy k (2 ^ min (Zw 56) (Zp .u64))))) t1 (aE (!Kerb.ke t0) t1 (Zd (Yv [Zy .i64 (Zz .i64 (Xy k (2 ^ min (Zw 56) (Zp .u64)))),Zy .i64 t0,Zq Yq],[])))) (by kernel_rfl) ?_;try dsimp only[aL,bu,aG,dK,ak,cO,dJ]
 simp only[Zb,Qa2] at aC;obtain⟨h0,h1⟩:=aC;rw[Kerb.OA h0 h1,Kerb.OB h0 h1];unfold Kerb.bm;cases Kerb.mX (Kerb.kf k)
 ·rfl
 cases Kerb.ke (Kerb.jI k)<;>rfl
theorem aeb:Wk 208 2 Bz:=by
 refine cL Tryz.func208 rfl fun xs bl r h=> ?_;unfold Bz at h;split at h;case h_2=>cases h
 rename_i b pos k aq;obtain⟨aC,rfl⟩:=dM h;refine cK (Zj (xt [Zf b,Zy .i64 pos,Zy .i64 k] []) (kI .i64 fun n=>aE (!n==0) (Zd (Yv [Zy .i64 0,Zy .i64 0,Zy .i64 n],[])) (Zj (bF (fun st=>bu st fun b r=>ak .i64 r fun n r=>ak .i64 r fun bt r=>aG r fun c5 r=>ak .i64 r fun cn r=>ak .i64 r fun eR r=>ak .i64 r fun bV r=>aw r (aE (Zv (bV<eR)) (aE c5 (az (Zv (0<=Zz .i64 (n+Zz .i64 (Zz .i64 (bt-1)-bV)))&&Zv (Zz .i64 (n+Zz .i64 (Zz .i64 (bt-1)-bV))<(↑(Zx b):Int))) (Zd (Xv [Zf b,Zy .i64 n,Zy .i64 bt,Zq c5,Zy .i64 (Zz .i64 (↑(BitVec.toNat (BitVec.ofInt (Zp .i64) (Zz .i64 (cn*2 ^ min (Zw 8) (Zp .i64))) ||| BitVec.ofInt (Zp .i64) (Zz .i64 (↑(Zg (Zh b (Zw (Zz .i64 (n+Zz .i64 (Zz .i64 (bt-1)-bV)))) (0:UInt8))):Int)))):Int)),Zy .i64 eR,Zy .i64 (Zz .i64 (bV+1))]))) (az (Zv (0<=Zz .i64 (n+bV))&&Zv (Zz .i64 (n+bV)<(↑(Zx b):Int))) (Zd (Xv [Zf b,Zy .i64 n,Zy .i64 bt,Zq c5,Zy .i64 (Zz .i64 (↑(BitVec.toNat (BitVec.ofInt (Zp .i64) (Zz .i64 (cn*2 ^ min (Zw 8) (Zp .i64))) ||| BitVec.ofInt (Zp .i64) (Zz .i64 (↑(Zg (Zh b (Zw (Zz .i64 (n+bV))) (0:UInt8))):Int)))):Int)),Zy .i64 eR,Zy .i64 (Zz .i64 (bV+1))])))) (Zd (Yh (Yu 0,[Zf b,Zy .i64 n,Zy .i64 bt,Zq c5,Zy .i64 cn,Zy .i64 eR,Zy .i64 bV]))))) [Zf b,Zy .i64 pos,Zy .i64 k,Zq aq,Zy .i64 0,Zy .i64 k,Zy .i64 0]) fun(r:Ex×List AV)=>bu (Xk r) fun b eY=>ak .i64 eY fun n fa=>ak .i64 fa fun bt fR=>aG fR fun b gP=>ak .i64 gP fun cn iV=>ak .i64 iV fun eR jU=>ak .i64 jU fun bV mf=>aw mf (jO r.1 Wj fun(j:Nat)=>aE (Xd j 0) (Zd (Yv [Zy .i64 cn,Zy .i64 (Zz .i64 (n+bt)),Zy .i64 0],[])) Wj)))) (by kernel_rfl) ?_;delta kI;dsimp only[xt,aL,bu,aG,dK,ak,cO,dJ];simp only[Zb,Qa2] at aC;obtain⟨⟨hb,VS⟩,mU⟩:=aC;simp only[A0];rw[ae (by simpa using hb)];unfold Kerb.get;by_cases hr:Kerb.room b pos k=0
 ·rw[aj (by simp[hr]),Qa1 hr];obtain⟨q1,q2,q3,q4⟩:=Kerb.mI.1 hr;have yE:=Kerb.kJ hr;obtain⟨L,hL⟩:∃ L,L=cond aq (Kerb.cut b pos k).reverse (Kerb.cut b pos k):=⟨_,rfl⟩;have hLl:L.length=k.toNat:=by rw[hL];cases aq<;>simp[yE]
  rw[<-hL];refine cm (fun i:Nat=>[Zf b,Zy Zu pos,Zy Zu k,Zq aq,Zy Zu (Kerb.km (L.take i)),Zy Zu k,Zy Zu (i:Int)]) (fun i=>i<=k.toNat) (fun i=>k.toNat-i)
   (fun r=>r=(Yu 0,[Zf b,Zy Zu pos,Zy Zu k,Zq aq,Zy Zu (Kerb.km L),Zy Zu k,Zy Zu k])) 0 (Ww _) rfl ?_ ?_
  ·intro i hi;simp only[A0];by_cases fz:i<k.toNat
   ·rw[ah (by simp;omega)];have hv:=Kerb.K8 (l:=L.take i) (by simp;omega);have hs:=Kerb.DM (l:=L) (i:=i) (by omega);have hgd:L.getD i 0=b.getD (cond aq (pos.toNat+(k.toNat-1-i)) (pos.toNat+i)) 0:=by
     rw[hL];cases aq
     ·exact Kerb.FY fz
     ·show(Kerb.cut b pos k).reverse.getD i 0=_;rw[Kerb.Ei (by omega),yE,Kerb.FY (by omega)];rfl
    cases aq
    ·rw[aj rfl,wrap_i64 (n:=pos+(i:Int)) (by omega) (by omega),ae (by simp;omega),show(pos+(i:Int)).toNat=pos.toNat+i from by omega];rw[Kerb.KZ _ hv.1 (by omega),wrap_i64 (n:=(i:Int)+1) (by omega) (by omega)];refine⟨_,rfl,i+1,?_,by omega,by dsimp only;omega⟩;dsimp only;rw[hs,hgd];rfl
    ·rw[ah rfl,wrap_i64 (n:=k-1) (by omega) (by omega),wrap_i64 (n:=k-1-(i:Int)) (by omega) (by omega),wrap_i64 (n:=pos+(k-1-(i:Int))) (by omega) (by omega),ae (by simp;omega),show(pos+(k-1-(i:Int))).toNat=pos.toNat+(k.toNat-1-i) from by omega];rw[Kerb.KZ _ hv.1 (by omega),wrap_i64 (n:=(i:Int)+1) (by omega) (by omega)];refine⟨_,rfl,i+1,?_,by omega,by dsimp only;omega⟩;dsimp only;rw[hs,hgd];rfl
   ·rw[aj (by simp;omega)];refine⟨_,rfl,?_⟩;show _=_;rw[Xn (by omega),show(i:Int)=k from by omega]
  ·rintro r rfl;simp only[A0];rw[ah (Yx _),wrap_i64 (by omega) (by omega)]
 ·rw[ah (by simpa using hr),Qa0 hr]
theorem aee:Wk 212 2 P6:=by
 refine cL Tryz.func212 rfl fun xs bl r h=> ?_;unfold P6 at h;split at h;case h_2=>cases h
 rename_i s c;cases h;refine cK (Zd (Zy .i64 (Yy c s),[])) (by kernel_rfl) ?_;rfl
theorem aej:Wk 217 2 P8:=by
 refine cL Tryz.func217 rfl fun xs bl r h=> ?_;unfold P8 at h;split at h;case h_2=>cases h
 rename_i els;obtain⟨aC,rfl⟩:=dM h;refine cK (Zj (bF (fun st=>cO 1 st fun b r=>ak .i64 r fun n r=>cO 1 r fun c5 r=>ak .i64 r fun bt r=>ak .i64 r fun cn r=>aw r (aE (Zv (cn<bt)) (az (Zv (0<=cn)&&Zv (cn<(↑(Zx c5):Int))&&Yq) (AV.eX (Zh c5 (Zw cn) Xf) fun fh=>aE (Zv (Zz .i64 (n+(↑(Zx fh):Int))<0)) Wj (Zd (Xv [Xh 1 b,Zy .i64 (Zz .i64 (n+(↑(Zx fh):Int))),Xh 1 c5,Zy .i64 bt,Zy .i64 (Zz .i64 (cn+1))])))) (Zd (Yh (Yu 0,[Xh 1 b,Zy .i64 n,Xh 1 c5,Zy .i64 bt,Zy .i64 cn]))))) [Xh 1 els,Zy .i64 0,Xh 1 els,Zy .i64 (↑(Zx els):Int),Zy .i64 0]) fun(r:Ex×List AV)=>cO 1 (Xk r) fun b eY=>ak .i64 eY fun n fa=>cO 1 fa fun c5 fR=>ak .i64 fR fun bt gP=>ak .i64 gP fun cn iV=>aw iV (jO r.1 Wj fun(j:Nat)=>aE (Xd j 0) (Zj (H6 [AV.cY,Zy .i64 n] []) (kO fun l=>Zj (bF (fun st=>ay st fun x r=>AV.eO x fun b=>cO 1 r fun fh r=>ak .i64 r fun n r=>ak .i64 r fun eR r=>aw r (aE (Zv (eR<n)) (az (Zv (0<=eR)&&Zv (eR<(↑(Zx fh):Int))&&Yq) (AV.eX (Zh fh (Zw eR) Xf) fun fI=>az (room (Zx b+Zx fI) 1) (Zd (Xv [Yf (b++fI),Xh 1 fh,Zy .i64 n,Zy .i64 (Zz .i64 (eR+1))])))) (Zd (Yh (Yu 2,[Yf b,Xh 1 fh,Zy .i64 n,Zy .i64 eR]))))) [Yf l,Xh 1 b,Zy .i64 (↑(Zx b):Int),Zy .i64 0]) fun(r:Ex×List AV)=>ay (Xk r) fun x jU=>AV.eO x fun b=>cO 1 jU fun fh mf=>ak .i64 mf fun n nz=>ak .i64 nz fun n nq=>aw nq (jO r.1 Wj fun(j:Nat)=>aE (Xd j 2) (Zd (Yf b,[])) Wj))) Wj)) (by kernel_rfl) ?_;delta kO;dsimp only[H6,aL,bu,aG,dK,ak,cO,dJ];simp only[Zb,Qa2] at aC;obtain⟨⟨ha,hl⟩,wy⟩:=aC;refine cm (fun i:Nat=>[Xh 1 els,Zy Zu ((rX (els.take i)).length:Int),Xh 1 els,Zy Zu (els.length:Int),Zy Zu (i:Int)]) (fun i=>i<=els.length) (fun i=>els.length-i)
  (fun r=>r=(Yu 0,[Xh 1 els,Zy Zu ((rX els).length:Int),Xh 1 els,Zy Zu (els.length:Int),Zy Zu (els.length:Int)])) 0 (Ww _) rfl ?_ ?_
 ·intro i hi;simp only[A0];by_cases fz:i<els.length
  ·obtain⟨l,h1,h2,h3⟩:=Kerb.zV ha fz;rw[ah (by simp;omega),ae (by simp;omega),Yn,h1,wY,wrap_i64 (n:=((rX (els.take i)).length:Int)+(l.length:Int)) (by omega) (by omega),aj (by simp;omega),wrap_i64 (by omega) (by omega)];refine⟨_,rfl,i+1,?_,by omega,by dsimp only;omega⟩;dsimp only;rw[h2,List.length_append,Int.natCast_add];rfl
  ·rw[aj (by simp;omega)];refine⟨_,rfl,?_⟩;show _=_;rw[Xn (by omega),show i=els.length from by omega]
 rintro r rfl;simp only[A0];rw[ah (Yx _),ae (by simp;omega)];refine cm (fun i:Nat=>[Yf (rX (els.take i)),Xh 1 els,Zy Zu (els.length:Int),Zy Zu (i:Int)]) (fun i=>i<=els.length) (fun i=>els.length-i)
  (fun r=>r=(Yu 2,[Yf (rX els),Xh 1 els,Zy Zu (els.length:Int),Zy Zu (els.length:Int)])) 0 (Ww _) rfl ?_ ?_
 ·intro i hi;simp only[A0];by_cases fz:i<els.length
  ·obtain⟨l,h1,h2,h3⟩:=Kerb.zV ha fz;rw[ah (by simp;omega),ae (by simp;omega),Yn,h1,wY,ae (Xx (by omega)),wrap_i64 (by omega) (by omega)];refine⟨_,rfl,i+1,?_,by omega,by dsimp only;omega⟩;dsimp only;rw[h2];rfl
  ·rw[aj (by simp;omega)];refine⟨_,rfl,?_⟩;show _=_;rw[Xn (by omega),show i=els.length from by omega]
 rintro r rfl;simp only[A0];rw[ah (Yx _)]
theorem aeu:Wk 228 2 Qa:=by
 refine cL Tryz.func228 rfl fun xs bl r h=> ?_;unfold Qa at h;split at h;case h_2=>cases h
 rename_i a b;cases h;refine cK (aE (Zn a 4294967295) (aE (Zn b 4294967295) (Zd (Zq (Zv (a<=b)),[])) (Zd (Zq Yw,[]))) (Zd (Zq Yw,[]))) (by kernel_rfl) ?_;unfold Kerb.period;cases Zn a 4294967295
 ·rfl
 cases Zn b 4294967295<;>rfl
theorem aeB:Wk 240 2 Qg:=by
 refine cL Tryz.func240 rfl fun xs bl r h=> ?_;unfold Qg at h;split at h;case h_2=>cases h
 rename_i b;cases h;refine cK (aE (Zv ((↑(Zx b):Int)<2)) (Zd (Yv [Zy .i64 0,Zq Yw,Zy .i64 101],[])) (az (Zv (0<(↑(Zx b):Int))) (aE (!Zh b (Zw 0) (0:UInt8)==(4:UInt8)) (Zd (Yv [Zy .i64 0,Zq Yw,Zy .i64 39],[])) (az (Zv (1<(↑(Zx b):Int))) (aE (!Xu (Zz .i64 (Wq (Zz .i64 (↑(Zg (Zh b (Zw 1) (0:UInt8))):Int)) 2))) (Zd (Yv [Zy .i64 0,Zq Yw,Zy .i64 40],[])) (az (Zv (1<(↑(Zx b):Int))) (Zd (Yv [Zy .i64 (Zz .i64 (Wq (Zz .i64 (↑(Zg (Zh b (Zw 1) (0:UInt8))):Int)) 2)),Zq (Zm (Zw (Yz (↑(Zg (Zh b (Zw 1) (0:UInt8))):Int) (↑(Zg (2:UInt8)):Int)))==(1:UInt8)),Zy .i64 0],[])))))))) (by kernel_rfl) ?_;unfold Kerb.dL;by_cases h1:b.length<2
 ·rw[ah (by simp;omega)];simp[h1]
 rw[aj (by simp;omega),ae (by simp;omega),Qa0 h1];by_cases h2:b.getD 0 0=4
 ·have hb:=(b.getD 1 0).toNat_lt;have e:Zz Zu (Wq (Zz Zu ((b.getD (Zw 1) 0).toNat:Int)) 2)=(((b.getD 1 0).toNat / 2:Nat):Int):=by
   rw[show Zw 1=1 from rfl,wrap_i64 (n:=((b.getD 1 0).toNat:Int)) (by omega) (by omega),Wu (by omega),wrap_i64 (by omega) (by omega)];omega
  have e2:(Zm (Zw (Yz ((b.getD (Zw 1) 0).toNat:Int) ((2:UInt8).toNat:Int)))==1)=Zv ((b.getD 1 0).toNat % 2=1):=by
   rw[show Zw 1=1 from rfl,Ym (by omega)];have e3:Zw (((b.getD 1 0).toNat:Int) % ((2:UInt8).toNat:Int))=(b.getD 1 0).toNat % 2:=by
    show Zw (((b.getD 1 0).toNat:Int) % 2)=_;omega
   rw[e3];rcases Nat.mod_two_eq_zero_or_one (b.getD 1 0).toNat with h | h<;>rw[h]<;>rfl
  rw[aj (by simp[h2] at *;exact h2),ae (by simp;omega),Qa0 (by simpa using h2),e,e2];cases hk:Xu (((b.getD 1 0).toNat / 2:Nat):Int)
  ·rfl
  ·rw[Yj,aA,ae (by simp;omega)];rfl
 ·rw[ah (by simpa using h2),Qa1 (by simpa using h2)]
theorem aeD:Wk 242 2 Qh:=by
 refine cL Tryz.func242 rfl fun xs bl r h=> ?_;unfold Qh at h;split at h;case h_2=>cases h
 rename_i k aq;cases h;refine cK (aE (!Xu k) (Zd (Zf [],[])) (aE aq (Zd (Zf [(4:UInt8),Zm (Zw (Zz .u8 (Zz .i64 (Zz .i64 (2*k)+1))))],[])) (Zd (Zf [(4:UInt8),Zm (Zw (Zz .u8 (Zz .i64 (2*k))))],[])))) (by kernel_rfl) ?_;by_cases h:1<=k/\k<=10
 ·have hk:k=1\/k=2\/k=3\/k=4\/k=5\/k=6\/k=7\/k=8\/k=9\/k=10:=by omega
  rcases hk with rfl | rfl | rfl | rfl | rfl | rfl | rfl | rfl | rfl | rfl<;>cases aq<;>rfl
 ·have hk:Xu k=Yw:=by simp[Xu];omega
  by_cases h1:k<1
  ·simp[aE,Xb,hk,h1]
  ·have h2:10<k:=by omega
   simp[aE,Xb,hk,h1,h2]
theorem aeR:Wk 260 2 BG:=by
 refine cL Tryz.func260 rfl fun xs bl r h=> ?_;unfold BG at h;split at h;case h_2=>cases h
 rename_i x;obtain⟨aC,rfl⟩:=dM h;refine cK (Zj (Ic [Zy .u64 x] []) (kI .i64 fun n=>Zd (Zy .i64 n,[]))) (by kernel_rfl) ?_;delta kI;dsimp only[Ic,aL,bu,aG,dK,ak,cO,dJ];simp only[Kerb.EP,Bool.true_and,Zb,Qa2] at aC;rw[ae (by simp;omega)];rfl
theorem ae0:Wk 269 2 Qp:=by
 refine cL Tryz.func269 rfl fun xs bl r h=> ?_;unfold Qp at h;split at h;case h_2=>cases h
 rename_i x y;cases h;refine cK (Zd (Zq (Zv (x<y)),[])) (by kernel_rfl) ?_;rfl
theorem ae':Wk 281 2 Qs:=by
 refine cL Tryz.func281 rfl fun xs bl r h=> ?_;unfold Qs at h;split at h;case h_2=>cases h
 rename_i s c;cases h;refine cK (Zd (Zy .i64 (Yy c s),[])) (by kernel_rfl) ?_;rfl
theorem w25:Wk 25 3 Qj:=by
 refine cL Tryz.func25 rfl fun xs bl r h=> ?_;unfold Qj at h;split at h;case h_2=>cases h
 rename_i li mu kv rl tk au;obtain⟨aC,rfl⟩:=dM h;refine cK (Zj (Fe [Zk rl] []) (kL fun b=>aE (!b) (Zd (Yv [Zf [],Zy .i64 103],[])) (aE (!Zn kv 255) (Zd (Yv [Zf [],Zy .i64 104],[])) (aE (Zv ((↑(Zx tk):Int)>255)) (Zd (Yv [Zf [],Zy .i64 105],[])) (aE (Zv ((↑(Zx au):Int)>255)) (Zd (Yv [Zf [],Zy .i64 105],[])) (aE mu (Zj (iu [Zf (Xb 4 li),Zy .i64 kv] []) (kO fun l=>Zj (oN [Zf l,Zk rl] []) (kO fun l=>Zj (iu [Zf l,Zy .i64 (↑(Zx tk):Int)] []) (kO fun l=>Zj (iu [Zf l,Zy .i64 (↑(Zx au):Int)] []) (kO fun l=>az (room (Zx l+Zx tk) 1) (az (room (Zx (l++tk)+Zx au) 1) (Zd (Yv [Zf (l++tk++au),Zy .i64 0],[])))))))) (Zj (iu [Zf (Xb 3 li),Zy .i64 kv] []) (kO fun l=>Zj (oN [Zf l,Zk rl] []) (kO fun l=>Zj (iu [Zf l,Zy .i64 (↑(Zx tk):Int)] []) (kO fun l=>Zj (iu [Zf l,Zy .i64 (↑(Zx au):Int)] []) (kO fun l=>az (room (Zx l+Zx tk) 1) (az (room (Zx (l++tk)+Zx au) 1) (Zd (Yv [Zf (l++tk++au),Zy .i64 0],[])))))))))))))) (by kernel_rfl) ?_;delta kO kL;dsimp only[Fe,iu,oN,aL,bu,aG,dK,ak,cO,dJ];simp only[A0,Xm,Wz,Kerb.eP.av,aC];unfold Kerb.bZ;simp only;cases h1:Kerb.cJ rl
 ·rfl
 rw[Yj,aA,Qa0 (by simp)];cases h2:Zn kv 255
 ·rfl
 rw[Yj,aA,Qa0 (by simp)];by_cases h3:255<tk.length
 ·rw[ah (by simp;omega),Qa1 (.inl h3)]
 rw[aj (by simp;omega)];by_cases h4:255<au.length
 ·rw[ah (by simp;omega),Qa1 (.inr h4)]
 rw[aj (by simp;omega),Qa0 (by omega)];have l1:=Kerb.gQ h1;have g3:=Kerb.jv 3 li;have g4:=Kerb.jv 4 li;cases mu
 ·rw[aA,ae (by simp;omega),ae (by simp[Yd];omega),ae (by simp[Yd,Kerb.bN];omega),ae (by simp[Yd,Kerb.bN];omega),ae (Xx (by simp[Yd,Kerb.bN];omega)),ae (Xx (by simp[Yd,Kerb.bN];omega))];rfl
 ·rw[cr,ae (by simp;omega),ae (by simp[Yd];omega),ae (by simp[Yd,Kerb.bN];omega),ae (by simp[Yd,Kerb.bN];omega),ae (Xx (by simp[Yd,Kerb.bN];omega)),ae (Xx (by simp[Yd,Kerb.bN];omega))];rfl
theorem w36:Wk 36 3 JU:=by
 refine cL Tryz.func36 rfl fun xs bl r h=> ?_;unfold JU at h;split at h;case h_2=>cases h
 rename_i n;obtain⟨aC,rfl⟩:=dM h;refine cK (az (Zv (0<=Yz n 3)&&Zv (Yz n 3<(↑(Zx [Zk [(97:UInt8),(110:UInt8),(110:UInt8)],Zk [(98:UInt8),(111:UInt8),(98:UInt8)],Zk [(99:UInt8),(97:UInt8),(116:UInt8)]]):Int))&&Yq) (AV.gN (Zh [Zk [(97:UInt8),(110:UInt8),(110:UInt8)],Zk [(98:UInt8),(111:UInt8),(98:UInt8)],Zk [(99:UInt8),(97:UInt8),(116:UInt8)]] (Zw (Yz n 3)) Xf) fun b=>Zj (Bp [Zy .i64 (Zz .i64 (Wq n 3))] []) (kS fun c5=>Zd (AV.agg [Zk b,Zk [],Zk c5],[])))) (by kernel_rfl) ?_;delta kS;dsimp only[Bp,aL,bu,aG,dK,ak,cO,dJ];have hn:0<=n:=by first | exact Qa3 aC | (simp only[Zb,Qa2] at aC;exact aC.1)
 have ht:Yz n 3=n % 3:=Ym hn;have wz:n % 3=0\/n % 3=1\/n % 3=2:=by omega
 simp only[Zb,Qa2] at aC;have hd:Wq n 3=n / 3:=Wu hn;rw[hd,wrap_i64 (by omega) (by omega)];have hq:Zv ((0:Int)<=n / 3)=Yq:=by simp;omega
 rcases wz with e | e | e<;>simp[ht,e,az,AV.gN,Kerb.user,hq,aO]<;>omega
theorem w40:Wk 40 3 U9:=by
 refine cL Tryz.func40 rfl fun xs bl r h=> ?_;unfold U9 at h;split at h;case h_2=>cases h
 rename_i s li;cases h;refine cK (aE (Zv ((↑(Zx s):Int)>1012)) (Zd (Yv [Zf [],Zy .i64 105],[])) (Zj (k_ [Zf (Xb 8 li),Zy .i64 (↑(Zx s):Int),Zq li] []) (kO fun l=>az (room (Zx l+Zx s) 1) (Zd (Yv [Zf (l++s),Zy .i64 0],[]))))) (by kernel_rfl) ?_;delta kO;dsimp only[k_,aL,bu,aG,dK,ak,cO,dJ];unfold Kerb.dN;by_cases h:1012<s.length
 ·rw[ah (by simp;omega),Qa1 h]
 rw[aj (by simp;omega),Qa0 h];have hl:(Xb 8 li).length=2:=by cases li<;>rfl
 simp only[↓A0];rw[ae (by simp[hl]),ae (by simp[room,Yd,hl];omega)]
theorem w42:Wk 42 3 U':=by
 refine cL Tryz.func42 rfl fun xs bl r h=> ?_;unfold U' at h;split at h;case h_2=>cases h
 rename_i op cd bx;cases h;refine cK (let t0:Option (AV×aD):=Zj (iu [Zf (Xb 9 Yw++Wv (Zz .i64 (op+128)) 1 Yw),Zy .i64 cd] []) (kO fun l=>Zj (k_ [Zf l,Zy .i64 (↑(Zx bx):Int),Zq Yw] []) (kO fun l=>az (room (Zx l+Zx bx) 1) (Zd (Yv [Zf (l++bx),Zy .i64 0],[]))));aE (Zv (op<1)) (Zd (Yv [Zf [],Zy .i64 40],[])) (aE (Zv (op>3)) (Zd (Yv [Zf [],Zy .i64 40],[])) (aE (Zv (cd<0)) (Zd (Yv [Zf [],Zy .i64 104],[])) (aE (Zv (cd>99)) (Zd (Yv [Zf [],Zy .i64 104],[])) (aE (Zv ((↑(Zx bx):Int)>1012)) (Zd (Yv [Zf [],Zy .i64 105],[])) (aE (!cd==0) (aE (Zv ((↑(Zx bx):Int)>0)) (Zd (Yv [Zf [],Zy .i64 108],[])) t0) t0)))))) (by kernel_rfl) ?_;delta kO;dsimp only[iu,k_,aL,bu,aG,dK,ak,cO,dJ];simp only[A0];have qI:(Xb 9 Yw).length=2:=rfl;unfold Kerb.cf;simp only;by_cases h0:1<=op/\op<=3;case neg =>
  have e:Kerb.lN op=Yw:=by simp[Kerb.lN];omega
  rw[e];by_cases h1:op<1
  ·rw[ah (by simpa using h1)];rfl
  ·rw[aj (by simpa using h1),ah (by simp;omega)];rfl
 have e:Kerb.lN op=Yq:=by simp[Kerb.lN];omega
 rw[e,aj (by simp;omega),aj (by simp;omega),Qa0 (by simp)];by_cases h1:0<=cd/\cd<=99;case neg =>
  have e:Zn cd 99=Yw:=by simp[Zn];omega
  rw[e];by_cases h2:cd<0
  ·rw[ah (by simpa using h2)];rfl
  ·rw[aj (by simpa using h2),ah (by simp;omega)];rfl
 have e:Zn cd 99=Yq:=by simp[Zn];omega
 rw[e,aj (by simp;omega),aj (by simp;omega),Qa0 (by simp)];by_cases h2:1012<bx.length
 ·rw[ah (by simp;omega),Qa1 h2]
 rw[aj (by simp;omega),Qa0 h2,wrap_i64 (by omega) (by omega)];by_cases h3:cd=0
 ·rw[aj (by simp[h3]),Qa0 (by simp[h3]),ae (by simp[Yd,qI]),ae (by simp[Yd,qI]),ae (Xx (by simp[Yd,qI];omega))];rfl
 rw[ah (by simpa using h3)];by_cases h4:bx=[]
 ·rw[aj (by simp[h4]),Qa0 (by simp[h4]),ae (by simp[Yd,qI]),ae (by simp[Yd,qI]),ae (Xx (by simp[Yd,qI];omega))];rfl
 ·rw[ah (by have:=List.length_pos_iff.2 h4;simp;omega),Qa1 ⟨h3,h4⟩]
theorem w59:Wk 59 3 Qz:=by
 refine cL Tryz.func59 rfl fun xs bl r h=> ?_;unfold Qz at h;split at h;case h_2=>cases h
 rename_i n;obtain⟨aC,rfl⟩:=dM h;refine cK (let t1:List AV:=[AV.agg [Zk [(109:UInt8),(97:UInt8),(105:UInt8),(108:UInt8)],Zk [],Zk []],AV.agg [Zk [(110:UInt8),(102:UInt8),(115:UInt8)],Zk [(104:UInt8),(111:UInt8),(109:UInt8),(101:UInt8)],Zk []],AV.agg [Zk ([107,114,98,116,103,116]:List UInt8),Zk [(65:UInt8),(84:UInt8),(72:UInt8)],Zk []]];let t0:Int:=(↑(Zx t1):Int);az (Zv (0<=Yz n 3)&&Zv (Yz n 3<t0)&&Yq) (AV.eL (Zh t1 (Zw (Yz n 3)) Xf) fun cs=>aL cs fun b r=>aL r fun c5 r=>aL r fun fh r=>aw r (Zj (Bp [Zy .i64 (Zz .i64 (Wq n 3))] []) (kS fun fI=>Zd (AV.agg [Zk b,Zk c5,Zk fI],[]))))) (by kernel_rfl) ?_;delta kS;dsimp only[Bp,aL,bu,aG,dK,ak,cO,dJ];have hn:0<=n:=by first | exact Qa3 aC | (simp only[Zb,Qa2] at aC;exact aC.1)
 have ht:Yz n 3=n % 3:=Ym hn;have wz:n % 3=0\/n % 3=1\/n % 3=2:=by omega
 simp only[Zb,Qa2] at aC;have hd:Wq n 3=n / 3:=Wu hn;rw[hd,wrap_i64 (by omega) (by omega)];have hq:Zv ((0:Int)<=n / 3)=Yq:=by simp;omega
 rcases wz with e | e | e<;>simp[ht,e,az,AV.gN,AV.eL,ay,aw,Kerb.service,hq,aO]<;>omega
theorem w67:Wk 67 3 QC:=by
 refine cL Tryz.func67 rfl fun xs bl r h=> ?_;unfold QC at h;split at h;case h_2=>cases h
 rename_i lb t st en k;obtain⟨aC,rfl⟩:=dM h;refine cK (let t5:Option (AV×aD):=Zd (Yv [Yf [],Zy .i64 104],[]);let t6:Option (AV×aD):=Zd (Yv [Yf [],Zy .i64 108],[]);let t7:Bool:=lb==[(103:UInt8),(84:UInt8),(75:UInt8),(84:UInt8)];let t4:Option (AV×aD):=Zj (eF [Zf lb,Zy .i64 t,Zq Yw] []) (kO fun l=>aE t7 (Zj (eF [Zf l,Zy .i64 st,Zq Yw] []) (kO fun l=>Zj (eF [Zf l,Zy .i64 en,Zq Yw] []) (kO fun l=>Zj (iG [Zf l] []) (kO fun l=>Zd (Yv [Yf l,Zy .i64 0],[]))))) (Zj (l8 [Zy .u64 k] []) (kB fun b=>az (room (Zx l+Zx b) 1) (Zj (iG [Zf (l++b)] []) (kO fun l=>Zd (Yv [Yf l,Zy .i64 0],[]))))));let t3:Option (AV×aD):=aE (!t7) (aE (!st==0) t6 (aE (!en==0) t6 t4)) t4;let t2:Option (AV×aD):=aE t7 (aE (!k==0) t6 t3) t3;let t1:Option (AV×aD):=aE (!t7) (Zj (nD [Zy .u64 k] []) (kL fun b=>aE (!b) (Zd (Yv [Yf [],Zy .i64 10],[])) t2)) t2;let t0:Option (AV×aD):=aE (!Zn t 4294967295) t5 (aE t7 (aE (!Zn st 4294967295) t5 (aE (!Zn en 4294967295) t5 t1)) t1);aE (lb==[(103:UInt8),(84:UInt8),(71:UInt8),(83:UInt8)]) (aE (!Zn t 4294967295) t5 (aE (!Zn st 4294967295) t5 (aE (!Zn en 4294967295) t5 (aE (!k==0) t6 (Zj (eF [Zf lb,Zy .i64 t,Zq Yw] []) (kO fun l=>Zj (eF [Zf l,Zy .i64 st,Zq Yw] []) (kO fun l=>Zj (eF [Zf l,Zy .i64 en,Zq Yw] []) (kO fun l=>Zj (iG [Zf l] []) (kO fun l=>Zd (Yv [Yf l,Zy .i64 0],[])))))))))) (aE (!t7) (aE (!lb==[(67:UInt8),(80:UInt8),(87:UInt8),(108:UInt8)]) (Zd (Yv [Yf [],Zy .i64 80],[])) t0) t0)) (by kernel_rfl) ?_;delta kB kO kL;dsimp only[eF,nD,l8,iG,aL,bu,aG,dK,ak,cO,dJ];have Rt:([103,84,71,83]:List UInt8)=Kerb.ve:=rfl;have Km:([103,84,75,84]:List UInt8)=Kerb.lQ:=rfl;have NN:([67,80,87,108]:List UInt8)=Kerb.fX:=rfl;have F6:([67,80,87,100]:List UInt8)=Kerb.o_:=rfl;have Ru:([116,103,115,84]:List UInt8)=Kerb.vf:=rfl;have D8:([116,107,116,71]:List UInt8)=Kerb.qL:=rfl;simp only[A0,NN,Rt,Km,aC];unfold Kerb.aR;simp only;cases hg:(lb==Kerb.ve);case true =>
  have ht:Kerb.jf lb=Yq:=by simp[Kerb.jf,hg]
  have hl:lb.length=4:=by rw[Qa9 hg];rfl
  simp only[ht,cr,Yj,Bool.false_and];rw[Qa0 (by simp)];cases h1:Zn t 4294967295
  ·rfl
  rw[Yj,aA,Qa0 (by simp),Qa1 trivial];cases h2:Zn st 4294967295
  ·rfl
  rw[Yj,aA];cases h3:Zn en 4294967295
  ·rfl
  rw[Yj,aA,Qa0 (by simp)];by_cases h4:k=0;case neg=>rw[ah (by simpa using h4),Qa1 h4]
  rw[aj (by simp[h4]),Qa0 (by simp[h4]),ae (by simp;omega),ae (by simp[Yd];omega),ae (by simp[Yd];omega),ae (by simp[Yd];omega)]
 cases hk:(lb==Kerb.lQ);case true =>
  have ht:Kerb.jf lb=Yq:=by simp[Kerb.jf,hk]
  have hl:lb.length=4:=by rw[Qa9 hk];rfl
  simp only[ht,cr,aA,Yj,Bool.false_and];rw[Qa0 (by simp)];cases h1:Zn t 4294967295
  ·rfl
  rw[Yj,aA,Qa0 (by simp),Qa1 trivial];cases h2:Zn st 4294967295
  ·rfl
  rw[Yj,aA];cases h3:Zn en 4294967295
  ·rfl
  rw[Yj,aA,Qa0 (by simp)];by_cases h4:k=0;case neg=>rw[ah (by simpa using h4),Qa1 h4]
  rw[aj (by simp[h4]),Qa0 (by simp[h4]),ae (by simp;omega),ae (by simp[Yd];omega),ae (by simp[Yd];omega),ae (by simp[Yd];omega)]
 have ht:Kerb.jf lb=Yw:=by simp[Kerb.jf,hg,hk]
 simp only[ht,cr,aA,Bool.not_false,Bool.true_and];cases hc:(lb==Kerb.fX)
 ·rfl
 have hl:lb.length=4:=by rw[Qa9 hc];rfl
 rw[Yj,aA,Qa0 (by simp)];cases h1:Zn t 4294967295
 ·rfl
 rw[Yj,aA,Qa0 (by simp),Qa0 (by simp)];cases h2:Kerb.bm k
 ·rfl
 rw[Yj,aA,Qa0 (by simp)];by_cases h3:st=0;case neg=>rw[ah (by simpa using h3),Qa1 (.inl h3)]
 rw[aj (by simp[h3])];by_cases h4:en=0;case neg=>rw[ah (by simpa using h4),Qa1 (.inr h4)]
 rw[aj (by simp[h4]),Qa0 (by simp[h3,h4]),ae (by simp;omega),ae (Xx (by simp[Yd,Kerb.ag];omega)),ae (by simp[Yd,Kerb.ag];omega)]
theorem w71:Wk 71 3 JW:=by
 refine cL Tryz.func71 rfl fun xs bl r h=> ?_;unfold JW at h;split at h;case h_2=>cases h
 rename_i kd k bd;obtain⟨aC,rfl⟩:=dM h;refine cK (let t0:List UInt8:=[Zm (Zw (Zz .u8 (Xy (↑(Zx bd):Int) (2 ^ min (Zw 8) (Zp .i64))))),Zm (Zw (Zz .u8 (↑(Zx bd):Int)))];let t1:List UInt8:=[(66:UInt8),Zm (Zw (Zz .u8 kd))];aE (Zv (kd<1)) (Zd (Yv [Zf [],Zy .i64 104],[])) (aE (Zv (kd>10)) (Zd (Yv [Zf [],Zy .i64 104],[])) (Zj (nD [Zy .u64 k] []) (kL fun b=>aE (!b) (Zd (Yv [Zf [],Zy .i64 10],[])) (aE (Zv ((↑(Zx bd):Int)>1000)) (Zd (Yv [Zf [],Zy .i64 105],[])) (Zj (l8 [Zy .u64 k] []) (kB fun b=>az (room (Zx t1+Zx b) 1) (az (room (Zx (t1++b)+Zx t0) 1) (az (room (Zx (t1++b++t0)+Zx bd) 1) (Zd (Yv [Zf (t1++b++t0++bd),Zy .i64 0],[]))))))))))) (by kernel_rfl) ?_;delta kB kL;dsimp only[nD,l8,aL,bu,aG,dK,ak,cO,dJ];simp only[A0,Xm,Wz,Kerb.eP.av,aC];unfold Kerb.fo;by_cases k1:1<=kd;case neg =>
  rw[ah (by simp;omega),Qa1 (by simp[Xu];omega)]
 by_cases k2:kd<=10;case neg =>
  rw[aj (by simp;omega),ah (by simp;omega),Qa1 (by simp[Xu];omega)]
 rw[aj (by simp;omega),aj (by simp;omega),Qa0 (by simp[Xu];omega)];cases h2:Kerb.bm k
 ·rfl
 rw[Yj,aA,Qa0 (by simp)];by_cases h3:1000<bd.length
 ·rw[ah (by simp;omega),Qa1 h3]
 have lk:=Kerb.ag k;rw[aj (by simp;omega),Qa0 h3,ae (Xx (by simp;omega)),ae (Xx (by simp;omega)),ae (Xx (by simp;omega)),Kerb.M3,Kerb.wrap_u8,Int.emod_eq_of_lt (by omega) (by omega)]
theorem w97:Wk 97 3 yw:=by
 refine cL Tryz.func97 rfl fun xs bl r h=> ?_;unfold yw at h;split at h;case h_2=>cases h
 rename_i k;obtain⟨aC,rfl⟩:=dM h;refine cK (Zj (Bv [Zy .u64 k] []) (kT fun vs=>ak .i64 vs fun n r=>ak .i64 r fun n r=>aG r fun b r=>aw r (Zd (Zq b,[])))) (by kernel_rfl) ?_;delta kT;dsimp only[Bv,aL,bu,aG,dK,ak,cO,dJ];simp only[A0];rw[ae aC]
theorem acW:Wk 106 3 jA:=by
 refine cL Tryz.func106 rfl fun xs bl r h=> ?_;unfold jA at h;split at h;case h_2=>cases h
 rename_i a b c;obtain⟨aC,rfl⟩:=dM h;refine cK (Zj (tu [Zk a] []) (kL fun c5=>aE c5 (Zj (tv [Zk b] []) (kL fun b=>aE b (Zj (Fe [Zk c] []) (kL fun b=>Zd (Zq b,[]))) (Zd (Zq Yw,[])))) (Zd (Zq Yw,[])))) (by kernel_rfl) ?_;delta kL;dsimp only[Fe,tu,tv,aL,bu,aG,dK,ak,cO,dJ];simp only[Zb,Qa2] at aC;simp only[A0];rw[ae (by simp;omega),ae (by simp;omega),ae (by simp;omega)];simp only[Kerb.bf.valid];cases Kerb.validName a<;>cases Kerb.bS b<;>rfl
theorem ac6:Wk 116 3 yW:=by
 refine cL Tryz.func116 rfl fun xs bl r h=> ?_;unfold yW at h;split at h;case h_2=>cases h
 rename_i b s li;obtain⟨aC,rfl⟩:=dM h;refine cK (Zj (k_ [Zf b,Zy .i64 (↑(Zx s):Int),Zq li] []) (kO fun l=>az (room (Zx l+Zx s) 1) (Zd (Zf (l++s),[])))) (by kernel_rfl) ?_;delta kO;dsimp only[k_,aL,bu,aG,dK,ak,cO,dJ];simp only[Zb,Qa2] at aC;simp only[A0,Xm,Wz,Kerb.eP.av];rw[ae (by simp;omega),ae (Xx (by simp[Yd];omega))];rfl
theorem adl:Wk 141 3 PM:=by
 refine cL Tryz.func141 rfl fun xs bl r h=> ?_;unfold PM at h;split at h;case h_2=>cases h
 rename_i b aq;obtain⟨aC,rfl⟩:=dM h;refine cK (aE aq (Zj (iu [Zf b,Zy .i64 1] []) (kO fun l=>Zd (Yf l,[]))) (Zj (iu [Zf b,Zy .i64 0] []) (kO fun l=>Zd (Yf l,[])))) (by kernel_rfl) ?_;delta kO;dsimp only[iu,aL,bu,aG,dK,ak,cO,dJ];simp only[A0];rw[ae aC,ae aC];cases aq<;>rfl
theorem ado:Wk 143 3 Br:=by
 refine cL Tryz.func143 rfl fun xs bl r h=> ?_;unfold Br at h;split at h;case h_2=>cases h
 rename_i k;obtain⟨aC,rfl⟩:=dM h;refine cK (Zj (nD [Zy .u64 k] []) (kL fun b=>aE (!b) (Zd (Zy .i64 0,[])) (Zd (Zy .i64 (Zz .i64 (Xy k (2 ^ min (Zw 56) (Zp .u64)))),[])))) (by kernel_rfl) ?_;delta kL;dsimp only[nD,aL,bu,aG,dK,ak,cO,dJ];simp only[aC,↓A0,A0];unfold Kerb.gR;cases hk:Kerb.bm k
 ·rfl
 simp only[Yj,Bool.not_false,cr,aA];simp only[Zb,Qa2] at aC;have h7:(min (Zw 56) (Zp .u64))=56:=rfl;rw[h7,Int.fdiv_eq_ediv_of_nonneg _ (by decide),wrap_i64 (by omega) (by omega)];rfl
theorem adq:Wk 145 3 tw:=by
 refine cL Tryz.func145 rfl fun xs bl r h=> ?_;unfold tw at h;split at h;case h_2=>cases h
 rename_i b pos;obtain⟨aC,rfl⟩:=dM h;refine cK (K' [Zf b,Zy .i64 pos,Zy .i64 1,Zq Yw] fun n bt cn=>Zd (Yv [Zy .i64 n,Zy .i64 bt,Zy .i64 cn],[])) (by kernel_rfl) ?_;unfold K';delta kT;dsimp only[Bz,aL,bu,aG,dK,ak,cO,dJ];simp only[A0];rw[ae (by rw[aC];rfl)]
theorem adt:Wk 147 3 uK:=by
 refine cL Tryz.func147 rfl fun xs bl r h=> ?_;unfold uK at h;split at h;case h_2=>cases h
 rename_i b pos aq;obtain⟨aC,rfl⟩:=dM h;refine cK (K' [Zf b,Zy .i64 pos,Zy .i64 4,Zq aq] fun n bt cn=>Zd (Yv [Zy .i64 n,Zy .i64 bt,Zy .i64 cn],[])) (by kernel_rfl) ?_;unfold K';delta kT;dsimp only[Bz,aL,bu,aG,dK,ak,cO,dJ];simp only[A0];rw[ae (by rw[aC];rfl)]
theorem adw:Wk 150 3 xk:=by
 refine cL Tryz.func150 rfl fun xs bl r h=> ?_;unfold xk at h;split at h;case h_2=>cases h
 rename_i b pos;obtain⟨aC,rfl⟩:=dM h;refine cK (let t5:List UInt8:=Xg (Zw pos) (Xq (Zw (↑(Zx b):Int)) b);let t6:Option (AV×aD):=Zd (Yv [Zk [],Zy .i64 0,Zy .i64 105],[]);let t7:Option (AV×aD):=Zd (Yv [Zk [],Zy .i64 0,Zy .i64 101],[]);let t1:Int:=Yy (0:UInt8) t5;let t2:Int:=(↑(Zx t5):Int);let t4:List UInt8:=Xg (Zw (↑(0:Nat):Int)) (Xq (Zw 40) t5);let t0:Int:=Yy (0:UInt8) t4;let t3:Int:=(↑(Zx t4):Int);Zj (xt [Zf b,Zy .i64 pos,Zy .i64 0] []) (kI .i64 fun n=>aE (!n==0) (Zd (Yv [Zk [],Zy .i64 0,Zy .i64 n],[])) (az (Zv (0<=pos)&&Zv (pos<=(↑(Zx b):Int))&&Zv ((↑(Zx b):Int)<=(↑(Zx b):Int))) (aE (Zv (t2>40)) (az (Zv (40<=t2)) (aE (Zv (t0>=0)) (az (Zv ((↑(0:Nat):Int)<=t0)&&Zv (t0<=t3)) (Zd (Yv [Zk (Xg (Zw (↑(0:Nat):Int)) (Xq (Zw t0) t4)),Zy .i64 (Zz .i64 (Zz .i64 (pos+t0)+1)),Zy .i64 0],[]))) (aE (t3==40) t6 t7))) (aE (Zv (t1>=0)) (az (Zv ((↑(0:Nat):Int)<=t1)&&Zv (t1<=t2)) (Zd (Yv [Zk (Xg (Zw (↑(0:Nat):Int)) (Xq (Zw t1) t5)),Zy .i64 (Zz .i64 (Zz .i64 (pos+t1)+1)),Zy .i64 0],[]))) (aE (t2==40) t6 t7)))))) (by kernel_rfl) ?_;delta kI;dsimp only[xt,aL,bu,aG,dK,ak,cO,dJ];simp only[Qa2] at aC;simp only[A0];rw[ae (by simpa using aC)];have ht:(Xq (Zw (b.length:Int)) b)=b:=by simp
 rw[ht];unfold Kerb.text;by_cases hr:Kerb.room b pos 0=0;case neg =>
  have abh:Kerb.room b pos 0=104:=by
   unfold Kerb.room at hr ⊢;split at hr
   ·rw[Qa1 (by assumption)]
   ·split at hr<;>omega
  rw[ah (by simpa using hr),Qa0 hr,abh]
 obtain⟨q1,q2,_,_⟩:=Kerb.mI.1 hr;rw[aj (by simp[hr]),Qa1 hr,ae (by simp;omega)];obtain⟨R,hR⟩:∃ R,R=b.drop pos.toNat:=⟨_,rfl⟩;have hRl:R.length=b.length-pos.toNat:=by rw[hR];simp
 rw[<-hR];obtain⟨T,hT⟩:∃ T,T=R.take 40:=⟨_,rfl⟩;have hix:=Kerb.AA 0 T;have key:(aE (Zv (Yy (0:UInt8) T>=(0:Int)))
   (az (Zv (((0:Nat):Int)<=Yy (0:UInt8) T)&&Zv (Yy (0:UInt8) T<=(T.length:Int)))
    (Zd (Yv [Zk (Xg (Zw ((0:Nat):Int)) (Xq (Zw (Yy (0:UInt8) T)) T)),Zy Zu (Zz Zu (Zz Zu (pos+Yy (0:UInt8) T)+(1:Int))),Zy Zu (0:Int)],([]:aD))))
   (aE (((T.length:Int))==(40:Int)) (Zd (Yv [Zk [],Zy Zu (0:Int),Zy Zu (105:Int)],[]))
    (Zd (Yv [Zk [],Zy Zu (0:Int),Zy Zu (101:Int)],[])))) =
   Zd (Yv [Zk (if 0<=Yy 0 T then(⟨T.take (Yy 0 T).toNat,pos+Yy 0 T+1,0⟩:Kerb.Nc) else if T.length=40 then⟨[],0,105⟩ else⟨[],0,101⟩).val,
    Zy Zu (if 0<=Yy 0 T then(⟨T.take (Yy 0 T).toNat,pos+Yy 0 T+1,0⟩:Kerb.Nc) else if T.length=40 then⟨[],0,105⟩ else⟨[],0,101⟩).next,
    Zy Zu (if 0<=Yy 0 T then(⟨T.take (Yy 0 T).toNat,pos+Yy 0 T+1,0⟩:Kerb.Nc) else if T.length=40 then⟨[],0,105⟩ else⟨[],0,101⟩).err],[]):=by
  have hTl:T.length<=b.length-pos.toNat:=by rw[hT];simp;omega
  by_cases hi:0<=Yy 0 T
  ·rw[ah (by simpa using hi),ae (by simp;omega),Qa1 hi,wrap_i64 (n:=pos+Yy 0 T) (by omega) (by omega),wrap_i64 (by omega) (by omega)];rfl
  ·rw[aj (by simp;omega),Qa0 hi];by_cases h40:T.length=40
   ·rw[ah (by simp[h40]),Qa1 h40]
   ·rw[aj (by simp;omega),Qa0 h40]
 by_cases af1:40<R.length
 ·rw[ah (by simp;omega),ae (by simp;omega)];have e1:Xg (Zw ((0:Nat):Int)) (Xq (Zw (40:Int)) R)=T:=by rw[hT];rfl
  rw[e1];rw[<-hT];exact key
 ·rw[aj (by simp;omega)];have e1:R=T:=by rw[hT,Xn (by omega)]
  rw[<-hT,e1];exact key
theorem adA:Wk 154 3 rG:=by
 refine cL Tryz.func154 rfl fun xs bl r h=> ?_;unfold rG at h;split at h;case h_2=>cases h
 rename_i n B at_ bad;obtain⟨aC,rfl⟩:=dM h;show eA (G.env 154 3) G.rts (G.own 154) Tryz.f154 _ _ [0]=_;refine cK (rH [Zf B,Zy .i64 at_,Zy .i64 n] fun b n bt=>aE (!!(bad || !bt==0)) (Zd (Zf [],[[Zf B,Zy .i64 (bif bad || !bt==0 then at_ else n),Zq (bad || !bt==0)]])) (Zd (Zf b,[[Zf B,Zy .i64 (bif bad || !bt==0 then at_ else n),Zq (bad || !bt==0)]]))) (by kernel_rfl) ?_;unfold rH;delta kT;dsimp only[rF,aL,bu,aG,dK,ak,cO,dJ];have hb:=Qa3 aC;simp only[A0];rw[ae (by simp;omega)];unfold Kerb.dj;cases bad
 ·simp only[Bool.false_or];generalize hq:(!(_==(0:Int)))=q;cases q<;>rfl
 ·rfl
theorem adN:Wk 167 3 xo:=by
 refine cL Tryz.func167 rfl fun xs bl r h=> ?_;unfold xo at h;split at h;case h_2=>cases h
 rename_i n B at_ bad;obtain⟨aC,rfl⟩:=dM h;show eA (G.env 167 3) G.rts (G.own 167) Tryz.f167 _ _ [0]=_;refine cK (rH [Zf B,Zy .i64 at_,Zy .i64 n] fun b n bt=>Zd (Zf b,[[Zf B,Zy .i64 (bif bt==0 then n else at_),Zq (bad || !bt==0)]])) (by kernel_rfl) ?_;unfold rH;delta kT;dsimp only[rF,aL,bu,aG,dK,ak,cO,dJ];have hb:=Qa3 aC;simp only[A0,Xm,Wz,Kerb.eP.av];rw[ae (by simp;omega)];unfold Kerb.nv;rfl
theorem adW:Wk 185 3 PX:=by
 refine cL Tryz.func185 rfl fun xs bl r h=> ?_;unfold PX at h;split at h;case h_2=>cases h
 rename_i b els;obtain⟨aC,rfl⟩:=dM h;refine cK (aE (!Kerb.Head.err (Kerb.dL b)==0) (Zd (Yv [Zq Yw,Zy .i64 (Kerb.Head.err (Kerb.dL b))],[])) (Zj (H3 [Zy .i64 (Kerb.Head.kind (Kerb.dL b)),Xh 1 els] []) (kL fun c5=>aE (!c5) (Zd (Yv [Zq Yw,Zy .i64 40],[])) (Zd (Yv [Zq (Kerb.Head.aq (Kerb.dL b)),Zy .i64 0],[]))))) (by kernel_rfl) ?_;delta kL;dsimp only[H3,aL,bu,aG,dK,ak,cO,dJ];simp only[A0];unfold Kerb.bh;by_cases h:(Kerb.dL b).err=0
 ·rw[aj (by simp[h]),ae aC];cases hc:(jT els).contains (Kerb.dL b).kind<;>simp[aE,h,hc]
 ·rw[ah (by simpa using h)];simp[h]
theorem adX:Wk 186 3 xr:=by
 refine cL Tryz.func186 rfl fun xs bl r h=> ?_;unfold xr at h;split at h;case h_2=>cases h
 rename_i b pos aq;obtain⟨aC,rfl⟩:=dM h;refine cK (K' [Zf b,Zy .i64 pos,Zy .i64 2,Zq aq] fun n bt cn=>Zd (Yv [Zy .i64 n,Zy .i64 bt,Zy .i64 cn],[])) (by kernel_rfl) ?_;unfold K';delta kT;dsimp only[Bz,aL,bu,aG,dK,ak,cO,dJ];simp only[A0];rw[ae (by rw[aC];rfl)]
theorem ael:Wk 219 3 ph:=by
 refine cL Tryz.func219 rfl fun xs bl r h=> ?_;unfold ph at h;split at h;case h_2=>cases h
 rename_i b s;obtain⟨aC,rfl⟩:=dM h;refine cK (Zj (az (Zv (Zx (Yp b (Yp s ((0:UInt8)::Yp [] [])))<=140737488355328)&&Zv (Zx [Zf b,Zf s,Zf [(0:UInt8)]]<=1000)) (Zd (Yf (Yp b (Yp s ((0:UInt8)::Yp [] []))),[]))) (kO fun l=>Zd (Yf l,[]))) (by kernel_rfl) ?_;delta kO;simp only[Qa2] at aC;simp only[A0];rw[ae (by simp;omega)];simp[Kerb.a_]
theorem aem:Wk 220 3 ql:=by
 refine cL Tryz.func220 rfl fun xs bl r h=> ?_;unfold ql at h;split at h;case h_2=>cases h
 rename_i b;obtain⟨aC,rfl⟩:=dM h;refine cK (let t0:Int:=Yz (Zz .i64 (8-Yz (↑(Zx b):Int) 8)) 8;az (Zv (0<=t0)&&Zv (t0<=t0)&&Zv (t0<=140737488355328)) (Zj (az (Zv (Zx (Yp b (Yp (Yg (Zw t0) (0:UInt8)) []))<=140737488355328)&&Zv (Zx [Zf b,Zf (Yg (Zw t0) (0:UInt8))]<=1000)) (Zd (Yf (Yp b (Yp (Yg (Zw t0) (0:UInt8)) [])),[]))) (kO fun l=>Zd (Zf l,[])))) (by kernel_rfl) ?_;delta kO;try dsimp only[aL,bu,aG,dK,ak,cO,dJ]
 have hb:=Qa3 aC;rw[Kerb.UP hb];simp only[A0];rw[ae (by simp;omega),ae (by simp;omega)];simp[Kerb.pad];omega
theorem aet:Wk 227 3 BC:=by
 refine cL Tryz.func227 rfl fun xs bl r h=> ?_;unfold BC at h;split at h;case h_2=>cases h
 rename_i k;obtain⟨aC,rfl⟩:=dM h;refine cK (Zj (Bv [Zy .u64 k] []) (kT fun vs=>ak .i64 vs fun n r=>ak .i64 r fun bt r=>aG r fun b r=>aw r (Zd (Zy .i64 n,[])))) (by kernel_rfl) ?_;delta kT;dsimp only[Bv,aL,bu,aG,dK,ak,cO,dJ];simp only[aC,↓A0,A0];rfl
theorem aeP:Wk 256 3 xu:=by
 refine cL Tryz.func256 rfl fun xs bl r h=> ?_;unfold xu at h;split at h;case h_2=>cases h
 rename_i b n k aq;obtain⟨aC,rfl⟩:=dM h;refine cK (Zj (bF (fun st=>bu st fun b r=>ak .i64 r fun n r=>ak .i64 r fun bt r=>aG r fun c5 r=>bu r fun c r=>ak .i64 r fun cn r=>ak .i64 r fun eR r=>aw r (aE (Zv (eR<cn)) (aE (!c5) (az (Zv (0<=Zz .i64 (8*eR))) (az (Zv (0<=Zz .i64 (Zz .i64 (bt-1)-eR))&&Zv (Zz .i64 (Zz .i64 (bt-1)-eR)<(↑(Zx c):Int))&&Xd (Zx c) 4&&Yq) (az (Xz (Zw (Zz .i64 (Zz .i64 (bt-1)-eR))) (Zx c)&&Yq&&Yq&&Yq&&Yq) (Zd (Xv [Zf b,Zy .i64 n,Zy .i64 bt,Zq c5,Zf (Xp c (Zw (Zz .i64 (Zz .i64 (bt-1)-eR))) (Zm (Zw (Zz .u8 (Xy n (2 ^ min (Zw (Zz .i64 (8*eR))) (Zp .i64))))))),Zy .i64 cn,Zy .i64 (Zz .i64 (eR+1))]))))) (az (Zv (0<=Zz .i64 (8*eR))) (az (Zv (0<=eR)&&Zv (eR<(↑(Zx c):Int))&&Xd (Zx c) 4&&Yq) (az (Xz (Zw eR) (Zx c)&&Yq&&Yq&&Yq&&Yq) (Zd (Xv [Zf b,Zy .i64 n,Zy .i64 bt,Zq c5,Zf (Xp c (Zw eR) (Zm (Zw (Zz .u8 (Xy n (2 ^ min (Zw (Zz .i64 (8*eR))) (Zp .i64))))))),Zy .i64 cn,Zy .i64 (Zz .i64 (eR+1))])))))) (Zd (Yh (Yu 0,[Zf b,Zy .i64 n,Zy .i64 bt,Zq c5,Zf c,Zy .i64 cn,Zy .i64 eR]))))) [Zf b,Zy .i64 n,Zy .i64 k,Zq aq,Zf [(0:UInt8),(0:UInt8),(0:UInt8),(0:UInt8)],Zy .i64 k,Zy .i64 0]) fun(r:Ex×List AV)=>bu (Xk r) fun b eY=>ak .i64 eY fun n fa=>ak .i64 fa fun n fR=>aG fR fun c5 gP=>bu gP fun c iV=>ak .i64 iV fun bt jU=>ak .i64 jU fun cn mf=>aw mf (jO r.1 Wj fun(j:Nat)=>aE (Xd j 0) (az (Zv ((↑(0:Nat):Int)<=n)&&Zv (n<=(↑(Zx c):Int))&&Xd (Zx c) 4) (Zj (az (Zv (Zx (Yp b (Yp (Xg (Zw (↑(0:Nat):Int)) (Xq (Zw n) c)) []))<=140737488355328)&&Zv (Zx [Zf b,Zf (Xg (Zw (↑(0:Nat):Int)) (Xq (Zw n) c))]<=1000)) (Zd (Yf (Yp b (Yp (Xg (Zw (↑(0:Nat):Int)) (Xq (Zw n) c)) [])),[]))) (kO fun l=>Zd (Yf l,[])))) Wj)) (by kernel_rfl) ?_;delta kO;dsimp only[bu,aG,ak];simp only[Zb,Qa2] at aC;obtain⟨hk,hb⟩:=aC;rcases hk with rfl | rfl | rfl<;>cases aq
 ·refine fB 2 (Yu 0,[Zf b,Zy Zu n,Zy Zu 1,Zq Yw,Zf [Yk n 0,(0:UInt8),(0:UInt8),(0:UInt8)],Zy Zu 1,Zy Zu 1]) (by kernel_rfl) ?_;simp only[A0];rw[ah (Yx _),ae (by simp),ae (by simp;omega)];simp[Kerb.rV,Wv,Kerb.c9,Xj]
 ·refine fB 2 (Yu 0,[Zf b,Zy Zu n,Zy Zu 1,Zq Yq,Zf [Yk n 0,(0:UInt8),(0:UInt8),(0:UInt8)],Zy Zu 1,Zy Zu 1]) (by kernel_rfl) ?_;simp only[A0];rw[ah (Yx _),ae (by simp),ae (by simp;omega)];simp[Kerb.rV,Wv,Kerb.c9,Xj]
 ·refine fB 3 (Yu 0,[Zf b,Zy Zu n,Zy Zu 2,Zq Yw,Zf [Yk n 8,Yk n 0,(0:UInt8),(0:UInt8)],Zy Zu 2,Zy Zu 2]) (by kernel_rfl) ?_;simp only[A0];rw[ah (Yx _),ae (by simp),ae (by simp;omega)];simp[Kerb.rV,Wv,Kerb.c9,Xj]
 ·refine fB 3 (Yu 0,[Zf b,Zy Zu n,Zy Zu 2,Zq Yq,Zf [Yk n 0,Yk n 8,(0:UInt8),(0:UInt8)],Zy Zu 2,Zy Zu 2]) (by kernel_rfl) ?_;simp only[A0];rw[ah (Yx _),ae (by simp),ae (by simp;omega)];simp[Kerb.rV,Wv,Kerb.c9,Xj]
 ·refine fB 5 (Yu 0,[Zf b,Zy Zu n,Zy Zu 4,Zq Yw,Zf [Yk n 24,Yk n 16,Yk n 8,Yk n 0],Zy Zu 4,Zy Zu 4]) (by kernel_rfl) ?_;simp only[A0];rw[ah (Yx _),ae (by simp),ae (by simp;omega)];simp[Kerb.rV,Wv,Kerb.c9,Xj]
 ·refine fB 5 (Yu 0,[Zf b,Zy Zu n,Zy Zu 4,Zq Yq,Zf [Yk n 0,Yk n 8,Yk n 16,Yk n 24],Zy Zu 4,Zy Zu 4]) (by kernel_rfl) ?_;simp only[A0];rw[ah (Yx _),ae (by simp),ae (by simp;omega)];simp[Kerb.rV,Wv,Kerb.c9,Xj]
theorem aeU:Wk 263 3 H8:=by
 refine cL Tryz.func263 rfl fun xs bl r h=> ?_;unfold H8 at h;split at h;case h_2=>cases h
 rename_i a b els;obtain⟨aC,rfl⟩:=dM h;show eA (G.env 263 3) G.rts (G.own 263) Tryz.f263 _ _ [0]=_;refine cK (Zj (bF (fun st=>ay st fun x r=>AV.aT x fun y=>ak .i64 r fun n r=>ak .i64 r fun bt r=>ak .i64 r fun cn r=>aw r (aE (Zv (cn<bt)) (Zj (bF (fun st=>ay st fun x r=>AV.aT x fun y=>ak .i64 r fun n r=>ak .i64 r fun eR r=>ak .i64 r fun bV r=>ak .i64 r fun bL r=>aw r (aE (Zv (bL>n)) (az (Zv (0<=bL)&&Zv (bL<(↑(Zx y):Int))&&Yq) (az (Xz (Zw bL) (Zx y)&&Yq) (AV.ax .u64 (Zh y (Zw bL) Xf) fun fD=>az (Zv (0<=Zz .i64 (bL-1))&&Zv (Zz .i64 (bL-1)<(↑(Zx y):Int))&&Yq) (az (Xz (Zw (Zz .i64 (bL-1))) (Zx y)&&Yq) (AV.ax .u64 (Zh y (Zw (Zz .i64 (bL-1))) Xf) fun fy=>aE (Zv (fD<fy)) (az (Zv (0<=Zz .i64 (bL-1))&&Zv (Zz .i64 (bL-1)<(↑(Zx y):Int))&&Yq) (az (Xz (Zw (Zz .i64 (bL-1))) (Zx y)&&Yq) (AV.ax .u64 (Zh y (Zw (Zz .i64 (bL-1))) Xf) fun hJ=>az (Zv (0<=bL)&&Zv (bL<(↑(Zx y):Int))&&Yq) (az (Xz (Zw bL) (Zx y)&&Yq) (AV.ax .u64 (Zh y (Zw bL) Xf) fun lm=>az (Zv (0<=bL)&&Zv (bL<(↑(Zx y):Int))&&Yq) (az (Xz (Zw bL) (Zx y)&&Yq) (AV.ax .u64 (Zh y (Zw bL) Xf) fun mb=>az (Zx [Zy .u64 hJ]==nat_lit 1&&Yq&&Yq&&Yq&&Xz (Zw bL) (Zx y)) (az (Zv (0<=Zz .i64 (bL-1))&&Zv (Zz .i64 (bL-1)<(↑(Zx (Xp y (Zw bL) (Zy .u64 hJ))):Int))&&Yq) (az (Xz (Zw (Zz .i64 (bL-1))) (Zx (Xp y (Zw bL) (Zy .u64 hJ)))&&Yq) (AV.ax .u64 (Zh (Xp y (Zw bL) (Zy .u64 hJ)) (Zw (Zz .i64 (bL-1))) Xf) fun gM=>az (Zx [Zy .u64 lm]==nat_lit 1&&Yq&&Yq&&Yq&&Xz (Zw (Zz .i64 (bL-1))) (Zx (Xp y (Zw bL) (Zy .u64 hJ)))) (Zd (Xv [Wy (Xp (Xp y (Zw bL) (Zy .u64 hJ)) (Zw (Zz .i64 (bL-1))) (Zy .u64 lm)),Zy .i64 n,Zy .i64 eR,Zy .i64 bV,Zy .i64 (Zz .i64 (bL-1))])))))))))))) (Zd (Yh (Yu 2,[Wy y,Zy .i64 n,Zy .i64 eR,Zy .i64 bV,Zy .i64 bL])))))))) (Zd (Yh (Yu 2,[Wy y,Zy .i64 n,Zy .i64 eR,Zy .i64 bV,Zy .i64 bL]))))) [Wy y,Zy .i64 n,Zy .i64 bt,Zy .i64 cn,Zy .i64 cn]) fun(r:Ex×List AV)=>ay (Xk r) fun x eY=>AV.aT x fun y=>ak .i64 eY fun n fa=>ak .i64 fa fun eR fR=>ak .i64 fR fun bV gP=>ak .i64 gP fun bL iV=>aw iV (jO r.1 (Zd (Yh (Ex.ret,[Wy y,Zy .i64 n,Zy .i64 eR,Zy .i64 bV]))) fun(j:Nat)=>aE (Xd j 2) (Zd (Xv [Wy y,Zy .i64 n,Zy .i64 eR,Zy .i64 (Zz .i64 (bV+1))])) Wj)) (Zd (Yh (Yu 0,[Wy y,Zy .i64 n,Zy .i64 bt,Zy .i64 cn]))))) [Wy els,Zy .i64 a,Zy .i64 b,Zy .i64 (Zz .i64 (a+1))]) fun(r:Ex×List AV)=>ay (Xk r) fun x eY=>AV.aT x fun y=>ak .i64 eY fun n fa=>ak .i64 fa fun n fR=>ak .i64 fR fun n gP=>aw gP (jO r.1 (Zd (Yv [],[y])) fun(j:Nat)=>aE (Xd j 0) (Zd (Yv [],[y])) Wj)) (by kernel_rfl) ?_;dsimp only[ak];simp only[Zb,Qa2] at aC;obtain⟨⟨⟨⟨fW,hlen⟩,Iu⟩,vC⟩,hb⟩:=aC;obtain⟨d,rfl,hd⟩:=Kerb.lW fW;simp only[Kerb.aU] at hlen hb;unfold Kerb.zs;rw[hd];obtain⟨a,rfl⟩:=Xw Iu;obtain⟨b,rfl⟩:=Xw (show 0<=b by omega);simp only[Yn];rw[show Zz .i64 ((a:Int)+1)=((a+1:Nat):Int) from Kerb.gE (by omega) (by omega)];unfold Go.Sort.insertionSort
 refine cm (fun s:Array Int×Nat=>[Wy (Wx s.1),Zy .i64 (a:Int),Zy .i64 (b:Int),Zy .i64 (s.2:Int)]) (fun s=>s.1.size=d.size/\s.2<=b+1/\Go.Sort.insOuter Go.Sort.ltInt a b s.2 s.1=Go.Sort.insOuter Go.Sort.ltInt a b (a+1) d) (fun s=>b-s.2) (fun r=>∃ n m k,r=(.exit 0,[Wy (Wx (Go.Sort.insOuter Go.Sort.ltInt a b (a+1) d)),Zy .i64 n,Zy .i64 m,Zy .i64 k])) (d,a+1) ⟨rfl,by dsimp only;omega,rfl⟩ rfl ?_ ?_
 ·rintro⟨e,i⟩ ⟨hs,hi,hr⟩;dsimp only at hs hi hr ⊢;simp only[↓bI,↓b_,↓cT,↓cZ];by_cases h:i<b;case neg =>
   rw[aj (by simp;omega)];refine⟨_,rfl,(a:Int),(b:Int),(i:Int),?_⟩;rw[<-hr];unfold Go.Sort.insOuter;rw[Qa0 h]
  rw[ah (by simp;omega)];refine ED (fun s:Array Int×Nat=>[Wy (Wx s.1),Zy .i64 (a:Int),Zy .i64 (b:Int),Zy .i64 (i:Int),Zy .i64 (s.2:Int)]) (fun s=>s.1.size=d.size/\s.2<=i/\Go.Sort.insInner Go.Sort.ltInt a s.2 s.1=Go.Sort.insInner Go.Sort.ltInt a i e) (fun s=>s.2) (fun r=>∃ k,r=(.exit 2,[Wy (Wx (Go.Sort.insInner Go.Sort.ltInt a i e)),Zy .i64 (a:Int),Zy .i64 (b:Int),Zy .i64 (i:Int),Zy .i64 k])/\(Go.Sort.insInner Go.Sort.ltInt a i e).size=d.size) (e,i) ⟨hs,Nat.le_refl _,rfl⟩ rfl ?_ ?_
  ·rintro⟨f,j⟩ ⟨ga,hj,nJ⟩;dsimp only at ga hj nJ ⊢;simp only[↓bI,↓b_,↓cT,↓cZ];have done:Go.Sort.insInner Go.Sort.ltInt a j f=f->∃ y,(Zd (Yh (Yu 2,[Wy (Wx f),Zy .i64 (a:Int),Zy .i64 (b:Int),Zy .i64 (i:Int),Zy .i64 (j:Int)])):Option (List AV ⊕ (Ex×List AV)))=Zd y/\CC (fun s:Array Int×Nat=>[Wy (Wx s.1),Zy .i64 (a:Int),Zy .i64 (b:Int),Zy .i64 (i:Int),Zy .i64 (s.2:Int)]) (fun s=>s.1.size=d.size/\s.2<=i/\Go.Sort.insInner Go.Sort.ltInt a s.2 s.1=Go.Sort.insInner Go.Sort.ltInt a i e) (fun s=>s.2) (fun r=>∃ k,r=(.exit 2,[Wy (Wx (Go.Sort.insInner Go.Sort.ltInt a i e)),Zy .i64 (a:Int),Zy .i64 (b:Int),Zy .i64 (i:Int),Zy .i64 k])/\(Go.Sort.insInner Go.Sort.ltInt a i e).size=d.size) (f,j) y:=fun q=>by
    refine⟨_,rfl,j,?_,?_⟩
    ·rw[<-nJ,q]
    ·rw[<-nJ,q];exact ga
   by_cases hja:j>a;case neg =>
    rw[aj (by simp;omega)];refine done ?_;cases j with
    | zero=>rfl
    | succ j=>simp only[Go.Sort.insInner];rw[Qa0 (by simp;omega)]
   obtain⟨m,rfl⟩:∃ m,j=m+1:=⟨j-1,by omega⟩;have h1:m+1<f.size:=by omega
   have h2:m<f.size:=by omega
   rw[ah (by simp;omega)];simp only[show Zz .i64 (((m+1:Nat):Int)-1)=(m:Int) from(Kerb.gE (by omega) (by omega)).trans (by omega)];rw[Kerb.rd h1,Kerb.rd h2];by_cases fz:f[m+1]! < f[m]!;case neg =>
    rw[aj (by simpa using fz)];refine done ?_;simp only[Go.Sort.insInner];rw[Qa0 (by simp[Go.Sort.ltInt,fz])]
   rw[ah (by simpa using fz),Kerb.sw h1 h2 (fun l=>Zd (Xv [Wy l,Zy .i64 (a:Int),Zy .i64 (b:Int),Zy .i64 (i:Int),Zy .i64 (m:Int)]))];refine⟨_,rfl,(Go.Sort.swp f (m+1) m,m),rfl,⟨by dsimp only;rw[Kerb.swp_size,ga],by dsimp only;omega,?_⟩,by dsimp only;omega⟩;dsimp only;rw[<-nJ];conv=>rhs;simp only[Go.Sort.insInner]
   rw[Qa1 (by simp[Go.Sort.ltInt,fz];omega)]
  ·rintro _ ⟨k,rfl,eZ⟩;simp only[↓bI,↓b_,↓cT,↓cZ,↓jP];rw[ah (Yx _),show Zz .i64 ((i:Int)+1)=((i+1:Nat):Int) from Kerb.gE (by omega) (by omega)];refine⟨_,rfl,(Go.Sort.insInner Go.Sort.ltInt a i e,i+1),rfl,⟨eZ,by dsimp only;omega,?_⟩,by dsimp only;omega⟩;dsimp only;rw[<-hr];conv=>rhs;unfold Go.Sort.insOuter
   rw[Qa1 h]
 ·rintro _ ⟨n,m,k,rfl⟩;simp only[↓bI,↓b_,↓cT,↓cZ,↓jP];rw[ah (Yx _)]
end Go.Proofs.YteafbgcimcpfiaaGreat
