/- What the functions of this seat compute. -/
import Derived.Test.YtpelamlfpffacaaGreatTab
set_option linter.all false
open Go.IntKind renaming wrap→Zz,bits→Zk,i64→Zd,u64→Ym
open Go.Abs.AV renaming int→Zy,bool→Zu,undef→Zb,str→Zm,bs→Yv,aD→Yq,ax→Yf,bC→Yh,sl→Xf,fO→Wz,bw→Wy
open List renaming length→Zx,getD→Zq,set→Yz,take_of_length_le→Xx,drop→Xp,take→Xb
open Int renaming toNat→Zw,toNat_natCast→Yx,eq_ofNat_of_zero_le→Yw,tmod→Yn,fdiv→Xk,tmod_eq_emod_of_nonneg→Xg
open Decidable renaming decide→Zv
open Option renaming bind→Zj,some→Zp,none→Wp
open Bool renaming true→Zf,and_eq_true→Zn,false→Yk,and_self→Xd,and_true→Xm
open Nat renaming blt→Zg,beq_refl→Yu,beq→Xz,zero_le→Wq
open UInt8 renaming toNat→Zh,ofNat→Yj
open Sum renaming inr→Yy,inl→Yg
open Kerb renaming dl→Yp,back→Xy,within→Xw,aw→Xv,iM→Xq,dK→Xj,room→Xh,fR→Wx,header→Ww,bt→Wv,swp_size→Wj
open Go.Abs.Ex renaming exit→Yd,ret→Xn
open Prod renaming snd→Yb
open Array renaming setIfInBounds→Xu,size_setIfInBounds→Wu
namespace Go.Proofs.YtpelamlfpffacaaGreat
open Go Go.Abs Go.Proofs
set_option maxRecDepth 100000
theorem w19:Wk 19 1 Yt:=by
 refine gi Tryz.func19 fun _ _ _ h=> ?_;unfold Yt at h;split at h;case h_2=>cases h
 rename_i ks ls;obtain⟨aO,rfl⟩:=hZ h;refine il (aP (!(↑(Zx ks):Int)==(↑(Zx ls):Int)) (Zp (Zu Yk,[])) (Zj (bH (fun st=>ef 1 st fun b r=>ef 1 r fun fS r=>ak r fun l6 r=>ai .i64 r fun n r=>ar r (aP (Zv (n<(↑(Zx b):Int))) (aA (Zv (0<=n)&&Zv (n<(↑(Zx b):Int))&&Zf) (Yf .u64 (Zq b (Zw n) Zb) fun cV=>aA (Zv (0<=n)&&Zv (n<(↑(Zx fS):Int))&&Zf) (Yf .u64 (Zq fS (Zw n) Zb) fun eE=>aP (!cV==eE) (Zp (Yy (Xn,[Xf 1 b,Xf 1 fS,Zu Yk,Zy .i64 n]))) (Zp (Yg [Xf 1 b,Xf 1 fS,Zu l6,Zy .i64 (Zz .i64 (n+1))]))))) (Zp (Yy (Yd 0,[Xf 1 b,Xf 1 fS,Zu l6,Zy .i64 n]))))) [Xf 1 ks,Xf 1 ls,Zu Yk,Zy .i64 0]) fun(r:Ex×List AV)=>ef 1 (Yb r) fun b fA=>ef 1 fA fun b fP=>ak fP fun b gj=>ai .i64 gj fun n iV=>ar iV (mZ r.1 (Zp (Zu b,[])) fun j=>aP (Xz j 0) (Zp (Zu Zf,[])) Wp))) ?_;dsimp only[ak,ai,ef];simp only[Zn,Qa2] at aO;obtain⟨⟨h1,h2⟩,hn⟩:=aO;obtain⟨l,rfl⟩:=Kerb.vj h1;obtain⟨m,rfl⟩:=Kerb.vj h2;rw[Wx] at hn;rw[Kerb.f_,Kerb.f_,Wx,Wx];by_cases hlen:l.length=m.length;case neg =>
  have ic:(l==m)=Yk:=by
   cases he:l==m with
   | true=>exact absurd (Qb5 Zx (Qb0 he)) hlen
   | false=>rfl
  rw[ah (by simp;omega),ic]
 rw[aq (by simp;omega)];have e:=Kerb.VT 0 hlen;refine Qb3 (Kerb.tb (A:=(.bool Yk,[])) (B:=(.bool Zf,[])) (fun i=>[.sl 1 (Yp l),.sl 1 (Yp m),.bool Yk,.int .i64 (i:Int)]) l.length (fun i => !(l.getD i 0==m.getD i 0)) ?_ ?_ ?_ rfl) (by rw[e];cases l==m<;>rfl)
 ·intro i hi hp;have pg:i<m.length:=by omega
  try dsimp only at hp ⊢
  simp only[↓A0,A0,Kerb.Tb,Kerb.TG hi,Kerb.TG pg,Kerb.Ft hi,Kerb.Ft pg,Xd,Xm,Kerb.MG (show i<=1000000000 by omega),hp]
 ·intro i hi hp;have pg:i<m.length:=by omega
  try dsimp only at hp ⊢
  refine⟨(.ret,[.sl 1 (Yp l),.sl 1 (Yp m),.bool Yk,.int .i64 (i:Int)]),?_,?_⟩;case refine_2=>rfl
  simp only[↓A0,A0,Kerb.Tb,Kerb.TG hi,Kerb.TG pg,Kerb.Ft hi,Kerb.Ft pg,Xd,Xm,hp]
 ·refine⟨(.exit 0,[.sl 1 (Yp l),.sl 1 (Yp m),.bool Yk,.int .i64 (l.length:Int)]),?_,?_⟩;case refine_2=>rfl
  try dsimp only
  simp only[↓A0,A0,Kerb.ZA]
theorem w25:Wk 25 1 YA:=by
 refine gi Tryz.func25 fun _ _ _ h=> ?_;unfold YA at h;split at h;case h_2=>cases h
 rename_i b how;obtain⟨aO,rfl⟩:=hZ h;refine il (let t0:Int:=Yn (Zz .i64 (Zz .u16 (Int.tdiv how 8))) (↑(Zx b):Int);aA (room (Zx b) 1) (aP ((↑(Zx b):Int)==0) (Zp (Yv b,[])) (aA (!(↑(Zx b):Int)==0) (aP (Yn how 4==0) (aA (Zv (0<=t0)&&Zv (t0<(↑(Zx b):Int))) (aA (Zg (Zw t0) (Zx b)&&Zf&&Zf&&Zf) (aA (Zv (0<=Zz .u64 (Yn how 7))) (aA (Zv (0<=t0)&&Zv (t0<(↑(Zx b):Int))) (aA (Zg (Zw t0) (Zx b)&&Zf&&Zf&&Zf&&Zf) (Zp (Yv (Yz b (Zw t0) (Yj (Zw (Zz .u8 (↑(BitVec.toNat (BitVec.ofInt (Zk .u8) (↑(Zh (Zq b (Zw t0) (0:UInt8))):Int) ^^^ BitVec.ofInt (Zk .u8) (↑(Zh (Yj (Zw (Zz .u8 ((↑(Zh (1:UInt8)):Int)*2 ^ min (Zw (Zz .u64 (Yn how 7))) 8))))):Int))):Int))))),[]))))))) (aP (Yn how 4==1) (aA (Zv (0<=t0)&&Zv (t0<=(↑(Zx b):Int))&&Zg 0 (Zx b)&&Zf) (aA (Zv (0<=Zz .i64 (t0+1))&&Zv (Zz .i64 (t0+1)<=(↑(Zx b):Int))&&Zg 0 (Zx b)&&Zf) (aA (Zg 0 (Zx b)&&Zf&&Zf&&Zf&&room (Zw t0+(Zx b-Zw (Zz .i64 (t0+1)))) 1) (Zp (Yv (Xb (Zw t0) b++Xp (Zw (Zz .i64 (t0+1))) b),[]))))) (aP (Yn how 4==2) (aA (room (Zx b+Zx [Yj (Zw (Zz .u8 how))]) 1) (Zp (Yv (b++[Yj (Zw (Zz .u8 how))]),[]))) (Zp (Yv b,[])))))))) ?_;try dsimp only[bB,cP,ak,jz,ai,ef,iX]
 simp only[Zn,Qa2] at aO;obtain⟨⟨hb,h0⟩,h1⟩:=aO;rw[ae (Xj (by omega))];unfold Kerb.wF;by_cases hn:b=[]
 ·subst hn;rfl
 have kZ:0<b.length:=List.length_pos_iff.2 hn;rw[Qa0 hn,aq (by simp;omega),ae (by simp;omega)];have e:Yn (Zz Zd (Zz IntKind.u16 (Int.tdiv how (8:Int)))) (b.length:Int)=Kerb.p9 b how:=rfl;rw[e];obtain⟨ha,hc⟩:=Kerb.K6 h0 h1 kZ;generalize Kerb.p9 b how=a at ha hc ⊢;have hd:(Zv ((0:Int)<=a)&&Zv (a<(b.length:Int)))=Zf:=by simp;omega
 have zJ:Zg a.toNat b.length=Zf:=Nat.ble_eq_true_of_le (by omega);have WJ:Zg 0 b.length=Zf:=Nat.ble_eq_true_of_le (by omega);have h7:Zv ((0:Int)<=Zz Ym (Yn how (7:Int)))=Zf:=by rw[Kerb.wrap_u64];simp;omega
 by_cases c0:Yn how 4=0
 ·rw[Qa1 c0,ah (by simpa using c0),ae hd,ae (by rw[zJ];rfl),ae h7,ae hd,ae (by rw[zJ];rfl)]
 rw[Qa0 c0,aq (by simpa using c0)];by_cases c1:Yn how 4=1
 ·rw[Qa1 c1,ah (by simpa using c1),wrap_i64 (n:=a+1) (by omega) (by omega),ae (by rw[WJ];simp;omega),ae (by rw[WJ];simp;omega),ae (by rw[WJ,Xj (by omega)];rfl)]
 rw[Qa0 c1,aq (by simpa using c1)];by_cases c2:Yn how 4=2
 ·rw[Qa1 c2,ah (by simpa using c2),ae (Xj (by simp;omega))]
 ·rw[Qa0 c2,aq (by simpa using c2)]
theorem w26:Wk 26 1 YB:=by
 refine gi Tryz.func26 fun _ _ _ h=> ?_;unfold YB at h;split at h;case h_2=>cases h
 rename_i n;obtain⟨aO,rfl⟩:=hZ h;refine il (Zp (Zy .u64 (Zz .u64 (↑(BitVec.toNat (BitVec.ofInt (Zk .u64) 144115188075855872 ||| BitVec.ofInt (Zk .u64) (Zz .u64 (Zz .i64 (1+n))))):Int)),[])) ?_;rfl
theorem w36:Wk 36 1 YE:=by
 refine gi Tryz.func36 fun _ _ _ h=> ?_;unfold YE at h;split at h;case h_2=>cases h
 rename_i a b;cases h;refine il (Zp (Zu (a==b),[])) ?_;rfl
theorem w48:Wk 48 1 jh:=by
 refine gi Tryz.func48 fun _ _ _ h=> ?_;unfold jh at h;split at h;case h_2=>cases h
 rename_i ks k;obtain⟨aO,rfl⟩:=hZ h;refine il (Zj (bH (fun st=>ef 1 st fun b r=>ai .u64 r fun n r=>ai .i64 r fun cV r=>let t0:Option (List AV ⊕ Ex×List AV):=Zp (Yy (Yd 0,[Xf 1 b,Zy .u64 n,Zy .i64 cV]));ar r (aP (Zv (cV<(↑(Zx b):Int))) (aA (Zv (0<=cV)&&Zv (cV<(↑(Zx b):Int))&&Zf) (Yf .u64 (Zq b (Zw cV) Zb) fun eE=>aP (Zv (eE<n)) (Zp (Yg [Xf 1 b,Zy .u64 n,Zy .i64 (Zz .i64 (cV+1))])) t0)) t0)) [Xf 1 ks,Zy .u64 k,Zy .i64 0]) fun(r:Ex×List AV)=>ef 1 (Yb r) fun b fA=>let t1:List AV:=Xb (Zw (↑(Zx b):Int)) b;ai .u64 fA fun n fP=>ai .i64 fP fun cV gj=>let t3:List AV:=Xp (Zw (↑(0:Nat):Int)) (Xb (Zw cV) b)++[Zy .u64 n];let t2:Option (AV×aZ):=aA (Zv ((↑(0:Nat):Int)<=cV)&&Zv (cV<=(↑(Zx b):Int))) (aA (room (Zx (Xp (Zw (↑(0:Nat):Int)) (Xb (Zw cV) b))) (nat_lit 8)) (aA (room (Zx (Xp (Zw (↑(0:Nat):Int)) (Xb (Zw cV) b))+Zx [Zy .u64 n]) (nat_lit 8)) (aA (Zv (0<=cV)&&Zv (cV<=(↑(Zx b):Int))&&Zv ((↑(Zx b):Int)<=(↑(Zx b):Int))) (aA (room (Zx t3+Zx (Xp (Zw cV) t1)) (nat_lit 8)) (Zp (Xf 1 (t3++Xp (Zw cV) t1),[]))))));ar gj (mZ r.1 Wp fun j=>aP (Xz j 0) (aP (Zv (cV<(↑(Zx b):Int))) (aA (Zv (0<=cV)&&Zv (cV<(↑(Zx b):Int))&&Zf) (Yf .u64 (Zq b (Zw cV) Zb) fun eE=>aP (eE==n) (aA (room (Zx b) (nat_lit 8)) (Zp (Xf 1 b,[]))) t2)) t2) Wp)) ?_;try dsimp only[bB,cP,ak,jz,ai,ef,iX]
 simp only[Zn,Qa2] at aO;obtain⟨l,rfl⟩:=Kerb.vj aO.1;have hn:=aO.2;rw[Wx] at hn;rw[Kerb.f_];refine dq (enc:=fun(i:Nat)=>[.sl 1 (Yp l),.int .u64 k,.int .i64 (i:Int)]) (I:=fun i=>i<=l.length/\∀ j,j<i->l.getD j 0<k) (μ:=fun i=>l.length-i) (R:=fun r=>∃ i:Nat,i<=l.length/\(∀ j,j<i->l.getD j 0<k)/\(i<l.length->¬ l.getD i 0<k)/\r=(.exit 0,[.sl 1 (Yp l),.int .u64 k,.int .i64 (i:Int)])) 0 ⟨Wq _,fun j h=>by omega⟩ rfl ?_ ?_
 ·rintro i ⟨hi,hj⟩;by_cases h:i<l.length
  ·by_cases hk:l.getD i 0<k
   ·refine⟨.inl [.sl 1 (Yp l),.int .u64 k,.int .i64 ((i+1:Nat):Int)],?_,i+1,rfl,⟨h,fun j Tn=> ?_⟩,show l.length-(i+1)<l.length-i by omega⟩
    ·try dsimp only
     simp only[↓A0,A0,Kerb.Tb,Kerb.TG h,Kerb.Ft h,Xd,Xm,Kerb.MG (show i<=1000000000 by omega),Qa4 hk]
    ·by_cases e:j=i
     ·rw[e];exact hk
     ·exact hj j (by omega)
   ·refine⟨.inr (.exit 0,[.sl 1 (Yp l),.int .u64 k,.int .i64 (i:Int)]),?_,i,hi,hj,fun _=>hk,rfl⟩;try dsimp only
    simp only[↓A0,A0,Kerb.Tb,Kerb.TG h,Kerb.Ft h,Xd,Xm,Qa5 hk]
  ·obtain rfl:i=l.length:=by omega
   refine⟨.inr (.exit 0,[.sl 1 (Yp l),.int .u64 k,.int .i64 (l.length:Int)]),?_,l.length,hi,hj,fun h=>by omega,rfl⟩;try dsimp only
   simp only[↓A0,A0,Kerb.ZA]
 ·rintro r ⟨i,hi,hj,hk,rfl⟩;rw[Kerb.LY hi hj hk];have r1:Go.Abs.room (Yp l).length 8=Zf:=by rw[Wx];exact Kerb.KQ (by omega)
  have c1:Zv (((0:Nat):Int)<=(i:Int))=Zf:=Kerb.Tb i;have c2:Zv ((i:Int)<=((Yp l).length:Int))=Zf:=by rw[Wx];exact Qa4 (by omega)
  have c3:Zv (((Yp l).length:Int)<=((Yp l).length:Int))=Zf:=Qa4 (Int.le_refl _);have t0:Xp (Zw ((0:Nat):Int)) (Xb (Zw (i:Int)) (Yp l))=Yp (l.take i):=by rw[Yx,Yx,List.drop_zero,Kerb.acK]
  have t1:Xp (Zw (i:Int)) (Xb (Zw ((Yp l).length:Int)) (Yp l))=Yp (l.drop i):=by rw[Yx,Yx,List.take_length,Kerb.aaH]
  have l0:(l.take i).length<=l.length:=by rw[List.length_take];omega
  have l1:(l.drop i).length<=l.length:=by rw[List.length_drop];omega
  have r2:Go.Abs.room (Yp (l.take i)).length 8=Zf:=by rw[Wx];exact Kerb.KQ (by omega)
  have r3:Go.Abs.room ((Yp (l.take i)).length+[Zy .u64 k].length) 8=Zf:=by rw[Wx];exact Kerb.Mi (by simp;omega)
  have r4:Go.Abs.room ((Yp (l.take i)++[Zy .u64 k]).length+(Yp (l.drop i)).length) 8=Zf:=by rw[List.length_append,Wx,Wx];exact Kerb.Mi (by simp;omega)
  have ej:Yp (l.take i)++[Zy .u64 k]++Yp (l.drop i)=Yp (l.take i++k::l.drop i):=by simp[Yp]
  simp only[↓A0,A0,show Xz 0 0=Zf from rfl,t0,t1,r1,r2,r3,r4,c1,c2,c3,Kerb.Tb,Xd,ej];by_cases h:i<l.length
  ·simp only[↓A0,A0,Kerb.TG h,Kerb.Ft h,Xd,Xm];by_cases e:l.getD i 0=k
   ·rw[ah (by simpa using e),Qa1 ⟨h,e⟩]
   ·rw[aq (by simpa using e),Qa0 (fun q=>e q.2)]
  ·obtain rfl:i=l.length:=by omega
   rw[aq (Kerb.ZA l),Qa0 (fun q=>h q.1)]
theorem w66:Wk 66 1 RV:=by
 refine gi Tryz.func66 fun _ _ _ h=> ?_;unfold RV at h;split at h;case h_2=>cases h
 rename_i ks k;obtain⟨aO,rfl⟩:=hZ h;refine il (Zj (bH (fun st=>ef 1 st fun b r=>ai .u64 r fun n r=>ak r fun fS r=>ai .i64 r fun cV r=>ar r (aP (Zv (cV<(↑(Zx b):Int))) (aA (Zv (0<=cV)&&Zv (cV<(↑(Zx b):Int))&&Zf) (Yf .u64 (Zq b (Zw cV) Zb) fun eE=>aP (eE==n) (Zp (Yy (Xn,[Xf 1 b,Zy .u64 n,Zu Zf,Zy .i64 cV]))) (Zp (Yg [Xf 1 b,Zy .u64 n,Zu fS,Zy .i64 (Zz .i64 (cV+1))])))) (Zp (Yy (Yd 0,[Xf 1 b,Zy .u64 n,Zu fS,Zy .i64 cV]))))) [Xf 1 ks,Zy .u64 k,Zu Yk,Zy .i64 0]) fun(r:Ex×List AV)=>ef 1 (Yb r) fun b fA=>ai .u64 fA fun n fP=>ak fP fun b gj=>ai .i64 gj fun n iV=>ar iV (mZ r.1 (Zp (Zu b,[])) fun j=>aP (Xz j 0) (Zp (Zu Yk,[])) Wp)) ?_;dsimp only[ak,ai,ef];simp only[Zn,Qa2] at aO;obtain⟨l,rfl⟩:=Kerb.vj aO.1;have hn:=aO.2;rw[Wx] at hn;rw[Kerb.f_];have e:=Kerb.qa l 0 (fun x=>x==k);rw[show l.any (fun x=>x==k)=l.contains k by rw[<-Kerb.Ag];congr 1;funext x;exact Bool.beq_comm] at e;rw[<-e];refine Qb3 (Kerb.tb (A:=(.bool Zf,[])) (B:=(.bool Yk,[])) (fun i=>[.sl 1 (Yp l),.int .u64 k,.bool Yk,.int .i64 (i:Int)]) l.length (fun i=>l.getD i 0==k) ?_ ?_ ?_ rfl) (by cases (List.range l.length).any (fun i=>l.getD i 0==k)<;>rfl)
 ·intro i hi hp;try dsimp only at hp ⊢
  simp only[↓A0,A0,Kerb.Tb,Kerb.TG hi,Kerb.Ft hi,Xd,Xm,Kerb.MG (show i<=1000000000 by omega),hp]
 ·intro i hi hp;try dsimp only at hp ⊢
  refine⟨(.ret,[.sl 1 (Yp l),.int .u64 k,.bool Zf,.int .i64 (i:Int)]),?_,?_⟩;case refine_2=>rfl
  simp only[↓A0,A0,Kerb.Tb,Kerb.TG hi,Kerb.Ft hi,Xd,Xm,hp]
 ·refine⟨(.exit 0,[.sl 1 (Yp l),.int .u64 k,.bool Yk,.int .i64 (l.length:Int)]),?_,?_⟩;case refine_2=>rfl
  try dsimp only
  simp only[↓A0,A0,Kerb.ZA]
theorem w71:Wk 71 1 YG:=by
 refine gi Tryz.func71 fun _ _ _ h=> ?_;unfold YG at h;split at h;case h_2=>cases h
 rename_i k;cases h;refine il (aP (Zv (k>=1)) (Zp (Zu (Zv (k<=10)),[])) (Zp (Zu Yk,[]))) ?_;by_cases h:1<=k<;>simp[aP,Kerb.isKind,h]
theorem w74:Wk 74 1 YH:=by
 refine gi Tryz.func74 fun _ _ _ h=> ?_;unfold YH at h;split at h;case h_2=>cases h
 rename_i n;obtain⟨aO,rfl⟩:=hZ h;refine il (Zp (Zy .u64 (Zz .u64 (↑(BitVec.toNat (BitVec.ofInt (Zk .u64) 72057594037927936 ||| BitVec.ofInt (Zk .u64) (Zz .u64 (Zz .i64 (1+n))))):Int)),[])) ?_;rfl
theorem ag9:Wk 108 1 Rv:=by
 refine gi Tryz.func108 fun _ _ _ h=> ?_;unfold Rv at h;split at h;case h_2=>cases h
 cases h;refine il (Zp (Xf 1 [Zm [(65:UInt8),(84:UInt8),(72:UInt8)],Zm [(66:UInt8),(79:UInt8),(83:UInt8)],Zm [(67:UInt8),(65:UInt8),(77:UInt8)]],[])) ?_;rfl
theorem ahi:Wk 152 1 Rx:=by
 refine gi Tryz.func152 fun _ _ _ h=> ?_;unfold Rx at h;split at h;case h_2=>cases h
 rename_i n m;cases h;refine il (aP (Zv (n>=0)) (Zp (Zu (Zv (n<=m)),[])) (Zp (Zu Yk,[]))) ?_;by_cases h:0<=n<;>simp[aP,Xw,h]
theorem ahk:Wk 154 1 Ry:=by
 refine gi Tryz.func154 fun _ _ _ h=> ?_;unfold Ry at h;split at h;case h_2=>cases h
 rename_i k little;cases h;refine il (aP (Zv (k<1)) (Zp (Yv [],[])) (aP (Zv (k>10)) (Zp (Yv [],[])) (aP little (Zp (Yv [(4:UInt8),Yj (Zw (Zz .u8 (Zz .i64 (Zz .i64 (2*k)+1))))],[])) (Zp (Yv [(4:UInt8),Yj (Zw (Zz .u8 (Zz .i64 (2*k))))],[]))))) ?_;by_cases h:1<=k/\k<=10
 ·have hk:k=1\/k=2\/k=3\/k=4\/k=5\/k=6\/k=7\/k=8\/k=9\/k=10:=by omega
  rcases hk with rfl | rfl | rfl | rfl | rfl | rfl | rfl | rfl | rfl | rfl<;>cases little<;>rfl
 ·have hk:Kerb.isKind k=Yk:=by simp[Kerb.isKind];omega
  by_cases h1:k<1
  ·simp[aP,Ww,hk,h1]
  ·have h2:10<k:=by omega
   simp[aP,Ww,hk,h1,h2]
theorem ahl:Wk 155 1 lJ:=by
 refine gi Tryz.func155 fun _ _ _ h=> ?_;unfold lJ at h;split at h;case h_2=>cases h
 rename_i b s;obtain⟨aO,rfl⟩:=hZ h;refine il (aA (room (Zx b) 1) (aA (room (Zx b+Zx s) 1) (aA (room (Zx (b++s)+Zx [(0:UInt8)]) 1) (Zp (Wz (b++s++[(0:UInt8)]),[]))))) ?_;simp only[Qa2] at aO;rw[ae (Xj (by omega)),ae (Xj (by omega)),ae (Xj (by simp;omega))];simp[Kerb.cT]
theorem ahq:Wk 160 1 Rz:=by
 refine gi Tryz.func160 fun _ _ _ h=> ?_;unfold Rz at h;split at h;case h_2=>cases h
 rename_i n m;cases h;refine il (aP (Zv (n>=0)) (Zp (Zu (Zv (n<=m)),[])) (Zp (Zu Yk,[]))) ?_;by_cases h:0<=n<;>simp[aP,Xw,h]
theorem ahu:Wk 168 1 RA:=by
 refine gi Tryz.func168 fun _ _ _ h=> ?_;unfold RA at h;split at h;case h_2=>cases h
 rename_i n;cases h;refine il (aP (n==1) (Zp (Zu Zf,[])) (Zp (Zu (n==3),[]))) ?_;cases (n==1)<;>rfl
theorem ahv:Wk 169 1 RB:=by
 refine gi Tryz.func169 fun _ _ _ h=> ?_;unfold RB at h;split at h;case h_2=>cases h
 rename_i n m;cases h;refine il (aP (Zv (n>=0)) (Zp (Zu (Zv (n<=m)),[])) (Zp (Zu Yk,[]))) ?_;by_cases h:0<=n<;>simp[aP,Xw,h]
theorem ahC:Wk 186 1 IH:=by
 refine gi Tryz.func186 fun _ _ _ h=> ?_;unfold IH at h;split at h;case h_2=>cases h
 rename_i a b els;obtain⟨aO,rfl⟩:=hZ h;refine Dp [0] (Zj (bH (fun st=>az st fun x r=>Wy x fun y=>ai .i64 r fun n r=>ai .i64 r fun cV r=>ar r (aP (Zv (n<cV)) (aA (Zv (0<=cV)&&Zv (cV<(↑(Zx y):Int))&&Zf) (aA (Zg (Zw cV) (Zx y)&&Zf) (Yf .u64 (Zq y (Zw cV) Zb) fun eE=>aA (Zv (0<=n)&&Zv (n<(↑(Zx y):Int))&&Zf) (aA (Zg (Zw n) (Zx y)&&Zf) (Yf .u64 (Zq y (Zw n) Zb) fun ig=>aA (Zv (0<=n)&&Zv (n<(↑(Zx y):Int))&&Zf) (aA (Zg (Zw n) (Zx y)&&Zf) (Yf .u64 (Zq y (Zw n) Zb) fun dk=>aA (Zx [Zy .u64 eE]==nat_lit 1&&Zf&&Zf&&Zf&&Zg (Zw n) (Zx y)) (aA (Zv (0<=cV)&&Zv (cV<(↑(Zx (Yz y (Zw n) (Zy .u64 eE))):Int))&&Zf) (aA (Zg (Zw cV) (Zx (Yz y (Zw n) (Zy .u64 eE)))&&Zf) (Yf .u64 (Zq (Yz y (Zw n) (Zy .u64 eE)) (Zw cV) Zb) fun cK=>aA (Zx [Zy .u64 ig]==nat_lit 1&&Zf&&Zf&&Zf&&Zg (Zw cV) (Zx (Yz y (Zw n) (Zy .u64 eE)))) (Zp (Yg [Yq (Yz (Yz y (Zw n) (Zy .u64 eE)) (Zw cV) (Zy .u64 ig)),Zy .i64 (Zz .i64 (n+1)),Zy .i64 (Zz .i64 (cV-1))])))))))))))) (Zp (Yy (Yd 0,[Yq y,Zy .i64 n,Zy .i64 cV]))))) [Yq els,Zy .i64 a,Zy .i64 (Zz .i64 (b-1))]) fun(r:Ex×List AV)=>az (Yb r) fun x fA=>Wy x fun y=>ai .i64 fA fun n fP=>ai .i64 fP fun n gj=>ar gj (mZ r.1 (Zp (Yh [],[y])) fun j=>aP (Xz j 0) (Zp (Yh [],[y])) Wp)) ?_;dsimp only[ai];simp only[Zn,Qa2] at aO;obtain⟨⟨⟨⟨ib,hlen⟩,Jy⟩,xk⟩,hb⟩:=aO;obtain⟨d,rfl,hd⟩:=Kerb.nw ib;simp only[Wv] at *;unfold Kerb.TV;rw[hd];obtain⟨a,rfl⟩:=Yw Jy;obtain⟨b,rfl⟩:=Yw (show 0<=b by omega);simp only[Yx];rw[Xq (by omega) (by omega)];unfold Go.Sort.reverseRange;refine dq (fun s:Array Int×Nat×Int=>[Yq (Xy s.1),Zy .i64 (s.2.1:Int),Zy .i64 s.2.2]) (fun s=>s.1.size=d.size/\s.2.1<=d.size /\ -1<=s.2.2/\s.2.2<d.size/\Go.Sort.reverseLoop s.2.1 s.2.2.toNat s.1=Go.Sort.reverseLoop a (b-1) d) (fun s=>(s.2.2-s.2.1+1).toNat) (fun r=>∃ n m,r=(.exit 0,[Yq (Xy (Go.Sort.reverseLoop a (b-1) d)),Zy .i64 n,Zy .i64 m])) (d,a,(b:Int)-1) ⟨rfl,by dsimp only;omega,by dsimp only;omega,by dsimp only;omega,by dsimp only;rw[show((b:Int)-1).toNat=b-1 by omega]⟩ rfl ?_ ?_
 ·rintro⟨e,i,j⟩ ⟨hs,hi,hj0,hj1,hr⟩;dsimp only at hs hi hj0 hj1 hr ⊢;simp only[↓cq,↓c4,↓dE,↓dF];by_cases h:(i:Int)<j
  ·obtain⟨m,rfl⟩:=Yw (show 0<=j by omega);have hm:m<e.size:=by omega
   have hie:i<e.size:=by omega
   rw[Yx] at hr;rw[ah (by simpa using h),Xq (by omega) (by omega),Xq (by omega) (by omega),Kerb.sw hie hm (fun l=>Zp (Yg [Yq l,Zy .i64 ((i:Int)+1),Zy .i64 ((m:Int)-1)]))];refine⟨_,rfl,(Go.Sort.swp e i m,i+1,(m:Int)-1),rfl,⟨by dsimp only;rw[Wj,hs],by dsimp only;omega,by dsimp only;omega,by dsimp only;omega,?_⟩,by dsimp only;omega⟩;dsimp only;rw[<-hr];conv=>rhs;unfold Go.Sort.reverseLoop
   rw[Qa1 (by omega),show((m:Int)-1).toNat=m-1 by omega]
  ·rw[aq (by simpa using h)];refine⟨_,rfl,i,j,?_⟩;have:Go.Sort.reverseLoop i j.toNat e=e:=by
    unfold Go.Sort.reverseLoop;rw[Qa0 (by omega)]
   rw[<-hr,this]
 ·rintro _ ⟨n,m,rfl⟩;simp only[↓cq,↓c4,↓dE,↓dF,↓lX];rw[ah (Yu _)]
theorem ahH:Wk 192 1 IJ:=by
 refine gi Tryz.func192 fun _ _ _ h=> ?_;unfold IJ at h;split at h;case h_2=>cases h
 rename_i x;obtain⟨aO,rfl⟩:=hZ h;refine il (let t2:List UInt8:=([8,8,8,8,8,8,8,8,8,8,8,8,8,8,8,8,8,8,8,8,8,8,8,8,8,8,8,8,8,8,8,8,8,8,8,8,8,8,8,8,8,8,8,8,8,8,8,8,8,8,8,8,8,8,8,8,8,8,8,8,8,8,8,8]:List UInt8);let t11:Int:=Xk x (2 ^ min (Zw 32) (Zk .u64));let t12:Int:=(↑(Zh (Yj (Zw (Zz .u8 x)))):Int);let t13:Int:=Xk x (2 ^ min (Zw 16) (Zk .u64));let t14:Int:=2 ^ min (Zw 8) (Zk .u64);let t1:List UInt8:=(0:UInt8)::List.append (List.append ([1,2,2,3,3,3,3,4,4,4,4,4,4,4,4,5,5,5,5,5,5,5,5,5,5,5,5,5,5,5,5,6,6,6,6,6,6,6,6,6,6,6,6,6,6,6,6,6,6,6,6,6,6,6,6,6,6,6,6,6,6,6,6]:List UInt8) ([7,7,7,7,7,7,7,7,7,7,7,7,7,7,7,7,7,7,7,7,7,7,7,7,7,7,7,7,7,7,7,7,7,7,7,7,7,7,7,7,7,7,7,7,7,7,7,7,7,7,7,7,7,7,7,7,7,7,7,7,7,7,7,7]:List UInt8)) (List.append t2 t2);let t4:Int:=(↑(Zh (Yj (Zw (Zz .u8 (Xk t13 t14))))):Int);let t6:Int:=(↑(Zh (Yj (Zw (Zz .u8 (Xk t11 t14))))):Int);let t7:Int:=(↑(Zh (Yj (Zw (Zz .u8 (Xk x t14))))):Int);let t8:Int:=(↑(Zh (Yj (Zw (Zz .u8 t13)))):Int);let t9:Int:=(↑(Zh (Yj (Zw (Zz .u8 t11)))):Int);let t10:Int:=Xk t11 (2 ^ min (Zw 16) (Zk .u64));let t0:Int:=(↑(Zx t1):Int);let t3:Int:=(↑(Zh (Yj (Zw (Zz .u8 (Xk t10 t14))))):Int);let t5:Int:=(↑(Zh (Yj (Zw (Zz .u8 t10)))):Int);aP (Zv (x>=4294967296)) (aP (Zv (t11>=65536)) (aP (Zv (t10>=256)) (aA (Zv (0<=t3)&&Zv (t3<t0)) (Zp (Zy .i64 (Zz .i64 (Zz .i64 (Zz .i64 (32+16)+8)+Zz .i64 (↑(Zh (Zq t1 (Zw t3) (0:UInt8))):Int))),[]))) (aA (Zv (0<=t5)&&Zv (t5<t0)) (Zp (Zy .i64 (Zz .i64 (Zz .i64 (32+16)+Zz .i64 (↑(Zh (Zq t1 (Zw t5) (0:UInt8))):Int))),[])))) (aP (Zv (t11>=256)) (aA (Zv (0<=t6)&&Zv (t6<t0)) (Zp (Zy .i64 (Zz .i64 (Zz .i64 (32+8)+Zz .i64 (↑(Zh (Zq t1 (Zw t6) (0:UInt8))):Int))),[]))) (aA (Zv (0<=t9)&&Zv (t9<t0)) (Zp (Zy .i64 (Zz .i64 (32+Zz .i64 (↑(Zh (Zq t1 (Zw t9) (0:UInt8))):Int))),[]))))) (aP (Zv (x>=65536)) (aP (Zv (t13>=256)) (aA (Zv (0<=t4)&&Zv (t4<t0)) (Zp (Zy .i64 (Zz .i64 (Zz .i64 (Zz .i64 (0+16)+8)+Zz .i64 (↑(Zh (Zq t1 (Zw t4) (0:UInt8))):Int))),[]))) (aA (Zv (0<=t8)&&Zv (t8<t0)) (Zp (Zy .i64 (Zz .i64 (Zz .i64 (0+16)+Zz .i64 (↑(Zh (Zq t1 (Zw t8) (0:UInt8))):Int))),[])))) (aP (Zv (x>=256)) (aA (Zv (0<=t7)&&Zv (t7<t0)) (Zp (Zy .i64 (Zz .i64 (Zz .i64 (0+8)+Zz .i64 (↑(Zh (Zq t1 (Zw t7) (0:UInt8))):Int))),[]))) (aA (Zv (0<=t12)&&Zv (t12<t0)) (Zp (Zy .i64 (Zz .i64 (0+Zz .i64 (↑(Zh (Zq t1 (Zw t12) (0:UInt8))):Int))),[])))))) ?_;try dsimp only[bB,cP,ak,jz,ai,ef,iX]
 simp only[Zn,Qa2] at aO;obtain⟨h0,h1⟩:=aO;obtain⟨n,rfl⟩:=Yw h0;rw[Kerb.BT];simp only[Kerb.f32,Kerb.f16,Kerb.f8];by_cases h32:2 ^ 32<=n
 ·rw[ah (by simp;omega)];have e32:=Kerb.kQ 32 h32;have b32:n / 2 ^ 32<2 ^ 32:=by omega
  generalize n / 2 ^ 32=m0 at e32 b32 ⊢;by_cases h16:2 ^ 16<=m0
  ·rw[ah (by simp;omega)];have e16:=Kerb.kQ 16 h16;have b16:m0 / 2 ^ 16<2 ^ 16:=by omega
   generalize m0 / 2 ^ 16=m5 at e16 b16 ⊢;by_cases h8:2 ^ 8<=m5
   ·rw[ah (by simp;omega)];have e8:=Kerb.kQ 8 h8;have b8:m5 / 2 ^ 8<2 ^ 8:=by omega
    generalize m5 / 2 ^ 8=m10 at e8 b8 ⊢;rw[Kerb.oU (by decide +kernel) (by omega) (by decide) (by decide)];have hz:Zz .i64 (Zz .i64 ((32:Int)+(16:Int))+(8:Int))+(Go.Sort.bitsLen m10:Int)=(Go.Sort.bitsLen n:Int):=by
     have:Zz .i64 (Zz .i64 ((32:Int)+(16:Int))+(8:Int))=56:=by decide
     omega
    rw[hz]
   ·rw[aq (by simp;omega)];rw[Kerb.oU (by decide +kernel) (by omega) (by decide) (by decide)];have hz:Zz .i64 ((32:Int)+(16:Int))+(Go.Sort.bitsLen m5:Int)=(Go.Sort.bitsLen n:Int):=by
     have:Zz .i64 ((32:Int)+(16:Int))=48:=by decide
     omega
    rw[hz]
  ·rw[aq (by simp;omega)];by_cases h8:2 ^ 8<=m0
   ·rw[ah (by simp;omega)];have e8:=Kerb.kQ 8 h8;have b8:m0 / 2 ^ 8<2 ^ 8:=by omega
    generalize m0 / 2 ^ 8=m27 at e8 b8 ⊢;rw[Kerb.oU (by decide +kernel) (by omega) (by decide) (by decide)];have hz:Zz .i64 ((32:Int)+(8:Int))+(Go.Sort.bitsLen m27:Int)=(Go.Sort.bitsLen n:Int):=by
     have:Zz .i64 ((32:Int)+(8:Int))=40:=by decide
     omega
    rw[hz]
   ·rw[aq (by simp;omega)];rw[Kerb.oU (by decide +kernel) (by omega) (by decide) (by decide)];have hz:(32:Int)+(Go.Sort.bitsLen m0:Int)=(Go.Sort.bitsLen n:Int):=by
     have:(32:Int)=32:=by decide
     omega
    rw[hz]
 ·rw[aq (by simp;omega)];by_cases h16:2 ^ 16<=n
  ·rw[ah (by simp;omega)];have e16:=Kerb.kQ 16 h16;have b16:n / 2 ^ 16<2 ^ 16:=by omega
   generalize n / 2 ^ 16=m44 at e16 b16 ⊢;by_cases h8:2 ^ 8<=m44
   ·rw[ah (by simp;omega)];have e8:=Kerb.kQ 8 h8;have b8:m44 / 2 ^ 8<2 ^ 8:=by omega
    generalize m44 / 2 ^ 8=m49 at e8 b8 ⊢;rw[Kerb.oU (by decide +kernel) (by omega) (by decide) (by decide)];have hz:Zz .i64 (Zz .i64 ((0:Int)+(16:Int))+(8:Int))+(Go.Sort.bitsLen m49:Int)=(Go.Sort.bitsLen n:Int):=by
     have:Zz .i64 (Zz .i64 ((0:Int)+(16:Int))+(8:Int))=24:=by decide
     omega
    rw[hz]
   ·rw[aq (by simp;omega)];rw[Kerb.oU (by decide +kernel) (by omega) (by decide) (by decide)];have hz:Zz .i64 ((0:Int)+(16:Int))+(Go.Sort.bitsLen m44:Int)=(Go.Sort.bitsLen n:Int):=by
     have:Zz .i64 ((0:Int)+(16:Int))=16:=by decide
     omega
    rw[hz]
  ·rw[aq (by simp;omega)];by_cases h8:2 ^ 8<=n
   ·rw[ah (by simp;omega)];have e8:=Kerb.kQ 8 h8;have b8:n / 2 ^ 8<2 ^ 8:=by omega
    generalize n / 2 ^ 8=m66 at e8 b8 ⊢;rw[Kerb.oU (by decide +kernel) (by omega) (by decide) (by decide)];have hz:Zz .i64 ((0:Int)+(8:Int))+(Go.Sort.bitsLen m66:Int)=(Go.Sort.bitsLen n:Int):=by
     have:Zz .i64 ((0:Int)+(8:Int))=8:=by decide
     omega
    rw[hz]
   ·rw[aq (by simp;omega)];rw[Kerb.oU (by decide +kernel) (by omega) (by decide) (by decide)];have hz:(0:Int)+(Go.Sort.bitsLen n:Int)=(Go.Sort.bitsLen n:Int):=by
     have:(0:Int)=0:=by decide
     omega
    rw[hz]
theorem ahI:Wk 193 1 RE:=by
 refine gi Tryz.func193 fun _ _ _ h=> ?_;unfold RE at h;split at h;case h_2=>cases h
 rename_i c n;cases h;refine il (let t0:Option (AV×aZ):=aP (Zv (n<1)) (Zp (Zy .u64 0,[])) (aP (Zv (n>4294967295)) (Zp (Zy .u64 0,[])) (Zp (Zy .u64 (Zz .u64 (↑(BitVec.toNat (BitVec.ofInt (Zk .u64) (Zz .u64 (Zz .u64 c*2 ^ min (Zw 56) (Zk .u64))) ||| BitVec.ofInt (Zk .u64) (Zz .u64 n))):Int)),[])));aP (!c==1) (aP (!c==2) (Zp (Zy .u64 0,[])) t0) t0) ?_;try dsimp only[bB,cP,ak,jz,ai,ef,iX]
 unfold Kerb.ku Kerb.jc;by_cases hc:c=1\/c=2;case neg =>
  have q1:(c==(1:Int))=Yk:=by simp;omega
  have q2:(c==(2:Int))=Yk:=by simp;omega
  rw[q1,q2];rfl
 by_cases hn:1<=n/\n<=4294967295;case neg =>
  have q:(Zv (1<=n)&&Zv (n<=4294967295))=Yk:=by
   rw[Bool.eq_false_iff];simp;omega
  rw[q,Bool.and_false];have key:(aP (Zv (n<(1:Int))) (Zp (Zy .u64 (0:Int),([]:aZ))) (aP (Zv (n>(4294967295:Int))) (Zp (Zy .u64 (0:Int),[])) (Zp (Zy Ym (Zz Ym ((BitVec.toNat (BitVec.ofInt (Zk Ym) (Zz Ym (Zz Ym c*(2:Int) ^ min (Zw (56:Int)) (Zk Ym))) ||| BitVec.ofInt (Zk Ym) (Zz Ym n)):Nat):Int)),[]))))=Zp (Zy .u64 0,[]):=by
   by_cases hl:n<1
   ·rw[ah (by simpa using hl)]
   ·rw[aq (by simpa using hl),ah (by simp;omega)]
  rcases hc with rfl | rfl
  ·rw[aq (by decide)];exact key
  ·rw[ah (by decide),aq (by decide)];exact key
 have q:(Zv (1<=n)&&Zv (n<=4294967295))=Zf:=by simp;omega
 have q2:(c==(1:Int)||c==(2:Int))=Zf:=by simpa using hc
 rw[q,q2,Kerb.QA hc hn.1 hn.2];rcases hc with rfl | rfl
 ·rw[aq (by decide),aq (by simp;omega),aq (by simp;omega)];rfl
 ·rw[ah (by decide),aq (by decide),aq (by simp;omega),aq (by simp;omega)];rfl
theorem ahJ:Wk 197 1 yw:=by
 refine gi Tryz.func197 fun _ _ _ h=> ?_;unfold yw at h;split at h;case h_2=>cases h
 rename_i s bad;obtain⟨aO,rfl⟩:=hZ h;refine il (Zj (bH (fun st=>bB st fun b r=>bB r fun fS r=>ak r fun l6 r=>ai .i64 r fun n r=>ar r (aP (Zv (n<(↑(Zx b):Int))) (aA (Zv (0<=n)&&Zv (n<(↑(Zx b):Int))) (aP (Zv ((↑(Zh (Zq b (Zw n) (0:UInt8))):Int)<(↑(Zh (33:UInt8)):Int))) (Zp (Yy (Xn,[Zm b,Zm fS,Zu Yk,Zy .i64 n]))) (aA (Zv (0<=n)&&Zv (n<(↑(Zx b):Int))) (aP (Zv ((↑(Zh (Zq b (Zw n) (0:UInt8))):Int)>(↑(Zh (126:UInt8)):Int))) (Zp (Yy (Xn,[Zm b,Zm fS,Zu Yk,Zy .i64 n]))) (Zj (bH (fun st=>bB st fun b r=>bB r fun lO r=>ak r fun lI r=>ai .i64 r fun n r=>ai .i64 r fun cV r=>ar r (aP (Zv (cV<(↑(Zx lO):Int))) (aA (Zv (0<=n)&&Zv (n<(↑(Zx b):Int))) (aA (Zv (0<=cV)&&Zv (cV<(↑(Zx lO):Int))) (aP (Zq b (Zw n) (0:UInt8)==Zq lO (Zw cV) (0:UInt8)) (Zp (Yy (Xn,[Zm b,Zm lO,Zu Yk,Zy .i64 n,Zy .i64 cV]))) (Zp (Yg [Zm b,Zm lO,Zu lI,Zy .i64 n,Zy .i64 (Zz .i64 (cV+1))]))))) (Zp (Yy (Yd 2,[Zm b,Zm lO,Zu lI,Zy .i64 n,Zy .i64 cV]))))) [Zm b,Zm fS,Zu l6,Zy .i64 n,Zy .i64 0]) fun(r:Ex×List AV)=>bB (Yb r) fun b fA=>bB fA fun lO fP=>ak fP fun lI gj=>ai .i64 gj fun n iV=>ai .i64 iV fun cV j7=>ar j7 (mZ r.1 (Zp (Yy (Xn,[Zm b,Zm lO,Zu lI,Zy .i64 n]))) fun j=>aP (Xz j 2) (Zp (Yg [Zm b,Zm lO,Zu lI,Zy .i64 (Zz .i64 (n+1))])) Wp)))))) (Zp (Yy (Yd 0,[Zm b,Zm fS,Zu l6,Zy .i64 n]))))) [Zm s,Zm bad,Zu Yk,Zy .i64 0]) fun(r:Ex×List AV)=>bB (Yb r) fun b fA=>bB fA fun fS fP=>ak fP fun l6 gj=>ai .i64 gj fun n iV=>ar iV (mZ r.1 (Zp (Zu l6,[])) fun j=>aP (Xz j 0) (Zp (Zu (Zv ((↑(Zx b):Int)<=39)),[])) Wp)) ?_;dsimp only[bB,ak,ai];simp only[Zn,Qa2] at aO;refine dq (fun i:Nat=>[Zm s,Zm bad,Zu Yk,Zy Zd (i:Int)]) (fun i=>i<=s.length/\Kerb.iy s bad=Kerb.iy (s.drop i) bad) (fun i=>s.length-i)
  (fun r=>∃ i:Nat,r.2=[Zm s,Zm bad,Zu Yk,Zy Zd (i:Int)]/\((r.1 = .ret/\Kerb.iy s bad=Yk)\/(r.1 = .exit 0/\Kerb.iy s bad=Zf))) 0 ⟨Wq _,rfl⟩ rfl ?_ ?_
 ·rintro i ⟨hi,hp⟩;simp only[A0];by_cases gO:i<s.length
  ·have hc:(Zv ((0:Int)<=(i:Int))&&Zv ((i:Int)<(s.length:Int)))=Zf:=by simp;omega
   have hd:=Kerb.rD gO;rw[ah (by simp;omega),ae hc,Yx];have hpr:Kerb.iy (s.drop i) bad=(Kerb.okB bad (s.getD i 0)&&Kerb.iy (s.drop (i+1)) bad):=by rw[hd];rfl
   generalize Df:s.getD i 0=c at *;by_cases h1:c.toNat<33
   ·rw[ah (by simp;omega)];exact⟨_,rfl,i,rfl,.inl ⟨rfl,by rw[hp,hpr];simp[Kerb.okB,h1]⟩⟩
   rw[aq (by simp;omega),ae hc];by_cases h2:126<c.toNat
   ·rw[ah (by simp;omega)];exact⟨_,rfl,i,rfl,.inl ⟨rfl,by rw[hp,hpr];simp[Kerb.okB,h2]⟩⟩
   rw[aq (by simp;omega)];refine Ma (fun j:Nat=>[Zm s,Zm bad,Zu Yk,Zy Zd (i:Int),Zy Zd (j:Int)]) (fun j=>j<=bad.length/\(c∈bad↔c∈bad.drop j)) (fun j=>bad.length-j)
    (fun r=>∃ j:Nat,r.2=[Zm s,Zm bad,Zu Yk,Zy Zd (i:Int),Zy Zd (j:Int)]/\((r.1 = .ret/\c∈bad)\/(r.1 = .exit 2/\c ∉ bad))) 0 ⟨Wq _,by simp⟩ rfl ?_ ?_
   ·rintro j ⟨hj,hm⟩;simp only[A0];by_cases Np:j<bad.length
    ·have hdj:=Kerb.rD Np;rw[ah (by simp;omega),ae hc,ae (by simp;omega),Yx,Yx,Df];rw[hdj,List.mem_cons] at hm;by_cases h3:c=bad.getD j 0
     ·rw[ah (by simpa using h3)];exact⟨_,rfl,j,rfl,.inl ⟨rfl,hm.2 (.inl h3)⟩⟩
     ·rw[aq (by simpa using h3),wrap_i64 (by omega) (by omega)];exact⟨_,rfl,j+1,rfl,⟨by omega,hm.trans ⟨fun h=>h.resolve_left h3,.inr⟩⟩,by dsimp only;omega⟩
    ·rw[aq (by simp;omega)];refine⟨_,rfl,j,rfl,.inr ⟨rfl,?_⟩⟩;rw[hm,List.drop_eq_nil_of_le (by omega)];simp
   ·rintro⟨e,l⟩ ⟨j,rfl,⟨rfl,h3⟩ | ⟨rfl,h3⟩⟩
    ·simp only[A0];exact⟨_,rfl,i,rfl,.inl ⟨rfl,by rw[hp,hpr];simp[Kerb.okB,h3]⟩⟩
    ·simp only[A0];rw[ah (Yu _),wrap_i64 (by omega) (by omega)];exact⟨_,rfl,i+1,rfl,⟨by omega,by rw[hp,hpr];simp[Kerb.okB,h1,h2,h3]⟩,by dsimp only;omega⟩
  ·rw[aq (by simp;omega)];exact⟨_,rfl,i,rfl,.inr ⟨rfl,by rw[hp,List.drop_eq_nil_of_le (by omega)];rfl⟩⟩
 ·rintro⟨e,l⟩ ⟨i,rfl,⟨rfl,hp⟩ | ⟨rfl,hp⟩⟩
  ·simp only[A0,hp];rfl
  ·simp only[A0,hp];rw[ah (Yu _),decide_eq_decide.2 (show((s.length:Int)<=39)↔s.length<=39 from by omega)];rfl
theorem ahM:Wk 204 1 RG:=by
 refine gi Tryz.func204 fun _ _ _ h=> ?_;unfold RG at h;split at h;case h_2=>cases h
 rename_i b;cases h;refine il (let t0:Int:=Zz .i64 (↑(Zh (Yj (Zw (Zz .u8 (Int.tdiv (↑(Zh (Zq b (Zw 1) (0:UInt8))):Int) (↑(Zh (2:UInt8)):Int)))))):Int);let t1:Option (AV×aZ):=Zp (Yh [Zy .i64 0,Zu Yk,Zy .i64 40],[]);aP (Zv ((↑(Zx b):Int)<2)) (Zp (Yh [Zy .i64 0,Zu Yk,Zy .i64 101],[])) (aA (Zv (0<(↑(Zx b):Int))) (aP (!Zq b (Zw 0) (0:UInt8)==(4:UInt8)) (Zp (Yh [Zy .i64 0,Zu Yk,Zy .i64 39],[])) (aA (Zv (1<(↑(Zx b):Int))) (aP (Zv (t0<1)) t1 (aP (Zv (t0>10)) t1 (aA (Zv (1<(↑(Zx b):Int))) (Zp (Yh [Zy .i64 t0,Zu (Yj (Zw (Yn (↑(Zh (Zq b (Zw 1) (0:UInt8))):Int) (↑(Zh (2:UInt8)):Int)))==(1:UInt8)),Zy .i64 0],[]))))))))) ?_;try dsimp only[bB,cP,ak,jz,ai,ef,iX]
 unfold Kerb.bX;by_cases h1:b.length<2
 ·rw[ah (by simp;omega)];simp[h1]
 rw[aq (by simp;omega),ae (by simp;omega),Qa0 h1];by_cases h2:b.getD 0 0=4
 ·have hb:=(b.getD 1 0).toNat_lt;have e:Zz Zd ((Yj (Zw (Zz IntKind.u8 (Int.tdiv ((b.getD (Zw 1) 0).toNat:Int) ((2:UInt8).toNat:Int))))).toNat:Int)=(((b.getD 1 0).toNat / 2:Nat):Int):=by
   rw[show Zw 1=1 from rfl,show((2:UInt8).toNat:Int)=2 from rfl,Int.tdiv_eq_ediv_of_nonneg (by omega),Kerb.wrap_u8];have e3:Zw (((b.getD 1 0).toNat:Int) / 2 % 256)=(b.getD 1 0).toNat / 2:=by omega
   rw[e3,UInt8.toNat_ofNat_of_lt' (by show _<256;omega),wrap_i64 (by omega) (by omega)]
  have e2:(Yj (Zw (Yn ((b.getD (Zw 1) 0).toNat:Int) ((2:UInt8).toNat:Int)))==1)=Zv ((b.getD 1 0).toNat % 2=1):=by
   rw[show Zw 1=1 from rfl,Xg (by omega)];have e3:Zw (((b.getD 1 0).toNat:Int) % ((2:UInt8).toNat:Int))=(b.getD 1 0).toNat % 2:=by
    show Zw (((b.getD 1 0).toNat:Int) % 2)=_;omega
   rw[e3];rcases Nat.mod_two_eq_zero_or_one (b.getD 1 0).toNat with h | h<;>rw[h]<;>rfl
  rw[aq (by simp[h2] at *;exact h2),ae (by simp;omega),Qa0 (by simpa using h2),e,e2];generalize (b.getD 1 0).toNat / 2=m;unfold Kerb.isKind;by_cases h3:1<=m;case neg =>
   rw[ah (by simp;omega),Qa0 (by simp;omega)]
  by_cases h4:m<=10;case neg =>
   rw[aq (by simp;omega),ah (by simp;omega),Qa0 (by simp;omega)]
  rw[aq (by simp;omega),aq (by simp;omega),ae (by simp;omega),Qa1 (by simp;omega)]
 ·rw[ah (by simpa using h2),Qa1 (by simpa using h2)]
theorem ahN:Wk 228 1 RH:=by
 refine gi Tryz.func228 fun _ _ _ h=> ?_;unfold RH at h;split at h;case h_2=>cases h
 rename_i n m;cases h;refine il (aP (Zv (n>=0)) (Zp (Zu (Zv (n<=m)),[])) (Zp (Zu Yk,[]))) ?_;by_cases h:0<=n<;>simp[aP,Xw,h]
theorem ahQ:Wk 232 1 yx:=by
 refine gi Tryz.func232 fun _ _ _ h=> ?_;unfold yx at h;split at h;case h_2=>cases h
 rename_i b n k little;obtain⟨aO,rfl⟩:=hZ h;refine il (aA (room (Zx b) 1) (Zj (bH (fun st=>ai .i64 st fun n r=>ai .i64 r fun cV r=>ak r fun b r=>az r fun x r=>AV.gB x fun fS=>ai .i64 r fun eE r=>let t1:Int:=Zz .u64 (Zz .i64 (8*Zz .i64 (Zz .i64 (cV-1)-eE)));let t2:List UInt8:=[Yj (Zw (Zz .u8 (Xk (Zz .u64 n) (2 ^ min (Zw (Zz .u64 (Zz .i64 (8*eE)))) (Zk .u64)))))];let t0:List UInt8:=[Yj (Zw (Zz .u8 (Xk (Zz .u64 n) (2 ^ min (Zw t1) (Zk .u64)))))];ar r (aP (Zv (eE<cV)) (aP b (aA (Zv (0<=Zz .u64 (Zz .i64 (8*eE)))) (aA (room (Zx fS+Zx t2) 1) (Zp (Yg [Zy .i64 n,Zy .i64 cV,Zu b,Wz (fS++t2),Zy .i64 (Zz .i64 (eE+1))])))) (aA (Zv (0<=t1)) (aA (room (Zx fS+Zx t0) 1) (Zp (Yg [Zy .i64 n,Zy .i64 cV,Zu b,Wz (fS++t0),Zy .i64 (Zz .i64 (eE+1))]))))) (Zp (Yy (Yd 0,[Zy .i64 n,Zy .i64 cV,Zu b,Wz fS,Zy .i64 eE]))))) [Zy .i64 n,Zy .i64 k,Zu little,Wz b,Zy .i64 0]) fun(r:Ex×List AV)=>ai .i64 (Yb r) fun n fA=>ai .i64 fA fun n fP=>ak fP fun b gj=>az gj fun x iV=>AV.gB x fun b=>ai .i64 iV fun n j7=>ar j7 (mZ r.1 Wp fun j=>aP (Xz j 0) (Zp (Wz b,[])) Wp))) ?_;try dsimp only[bB,cP,ak,jz,ai,ef,iX]
 simp only[Zn,Qa2] at aO;obtain⟨hk,hb⟩:=aO;have oC:k.toNat<=4/\0<=k:=by omega
 rw[ae (Xj (by omega))];refine dq (fun i:Nat=>[Zy Zd n,Zy Zd k,Zu little,Wz (b++(Kerb.aL n k.toNat little).take i),Zy Zd (i:Int)]) (fun i=>i<=k.toNat) (fun i=>k.toNat-i)
  (fun r=>r=(Yd 0,[Zy Zd n,Zy Zd k,Zu little,Wz (b++Kerb.aL n k.toNat little),Zy Zd k])) 0 (Wq _) (by simp) ?_ ?_
 ·intro i hi;simp only[A0];by_cases gO:i<k.toNat
  ·have hs:=Kerb.vG (l:=Kerb.aL n k.toNat little) (i:=i) (by rw[Xv];omega);have hg:=Kerb.zn n k.toNat little gO;have hl:((Kerb.aL n k.toNat little).take i).length=i:=by simp[Xv];omega
   rw[ah (by simp;omega)];have hw:∀ j:Nat,j<4->Zz Ym (Zz Zd (8*(j:Int)))=((8*j:Nat):Int):=fun j hj=>by
    rw[wrap_i64 (by omega) (by omega),Kerb.wrap_u64];omega
   have hm:∀ j:Nat,j<4->min (Zw ((8*j:Nat):Int)) (Zk Ym)=8*j:=fun j hj=>by
    have:Zk Ym=64:=rfl;rw[this];omega
   cases little
   ·have e:Zz Zd (Zz Zd (k-1)-(i:Int))=((k.toNat-1-i:Nat):Int):=by
     rw[wrap_i64 (n:=k-1) (by omega) (by omega),wrap_i64 (by omega) (by omega)];omega
    rw[aq rfl,e,hw _ (by omega),hm _ (by omega),Kerb.VE n (by omega),ae (by simp;omega),ae (Xj (by simp[hl];omega)),wrap_i64 (by omega) (by omega)];refine⟨_,rfl,i+1,?_,by omega,by dsimp only;omega⟩;dsimp only;rw[hs,hg,<-List.append_assoc];rfl
   ·rw[ah rfl,hw _ (by omega),hm _ (by omega),Kerb.VE n (by omega),ae (by simp;omega),ae (Xj (by simp[hl];omega)),wrap_i64 (by omega) (by omega)];refine⟨_,rfl,i+1,?_,by omega,by dsimp only;omega⟩;dsimp only;rw[hs,hg,<-List.append_assoc];rfl
  ·rw[aq (by simp;omega)];refine⟨_,rfl,?_⟩;show _=_;rw[Xx (by rw[Xv];omega),show(i:Int)=k from by omega]
 ·rintro r rfl;simp only[A0];rw[ah (Yu _)]
theorem ahS:Wk 235 1 o_:=by
 refine gi Tryz.func235 fun _ _ _ h=> ?_;unfold o_ at h;split at h;case h_2=>cases h
 rename_i k;obtain⟨aO,rfl⟩:=hZ h;refine il (Zj (bH (fun st=>ai .u64 st fun n r=>az r fun x r=>AV.gB x fun b=>ai .i64 r fun cV r=>let t0:List UInt8:=[Yj (Zw (Zz .u8 (Xk n (2 ^ min (Zw (Zz .u64 (Zz .i64 (8*cV)))) (Zk .u64)))))];ar r (aP (Zv (cV>=0)) (aA (Zv (0<=Zz .u64 (Zz .i64 (8*cV)))) (aA (room (Zx b+Zx t0) 1) (Zp (Yg [Zy .u64 n,Wz (b++t0),Zy .i64 (Zz .i64 (cV-1))])))) (Zp (Yy (Yd 0,[Zy .u64 n,Wz b,Zy .i64 cV]))))) [Zy .u64 k,Wz [],Zy .i64 7]) fun(r:Ex×List AV)=>ai .u64 (Yb r) fun n fA=>az fA fun x fP=>AV.gB x fun b=>ai .i64 fP fun n gj=>ar gj (mZ r.1 Wp fun j=>aP (Xz j 0) (Zp (Yv b,[])) Wp)) ?_;try dsimp only[bB,cP,ak,jz,ai,ef,iX]
 refine HO 9 (Yd 0,[Zy Ym k,Wz [Kerb.SI k 56,Kerb.SI k 48,Kerb.SI k 40,Kerb.SI k 32,Kerb.SI k 24,Kerb.SI k 16,Kerb.SI k 8,Kerb.SI k 0],Zy Zd (-1)]) (by kernel_rfl) ?_;simp only[A0];rw[ah (Yu _)];simp[Kerb.VZ,Kerb.keyBytes,Kerb.gT,List.range_succ]
theorem ahT:Wk 236 1 mK:=by
 refine gi Tryz.func236 fun _ _ _ h=> ?_;unfold mK at h;split at h;case h_2=>cases h
 rename_i b;obtain⟨aO,rfl⟩:=hZ h;refine il (aA (room (Zx b) 1) (Zj (bH (fun st=>az st fun x r=>AV.gB x fun b=>ar r (aP (!Yn (↑(Zx b):Int) 8==0) (aA (room (Zx b+Zx [(0:UInt8)]) 1) (Zp (Yg [Wz (b++[(0:UInt8)])]))) (Zp (Yy (Yd 0,[Wz b]))))) [Wz b]) fun(r:Ex×List AV)=>az (Yb r) fun x fA=>AV.gB x fun b=>ar fA (mZ r.1 Wp fun j=>aP (Xz j 0) (Zp (Wz b,[])) Wp))) ?_;have hb:=Qa3 aO;rw[ae (Xj (by omega))];refine dq (fun i:Nat=>[Wz (b++List.replicate i 0)]) (fun i=>i<=(8-b.length % 8) % 8) (fun i=>(8-b.length % 8) % 8-i)
  (fun r=>r=(Yd 0,[Wz (Kerb.pad b)])) 0 (by omega) (by simp) ?_ ?_
 ·intro i hi;simp only[A0];have e:Yn ((b++List.replicate i 0).length:Int) 8=(((b.length+i) % 8:Nat):Int):=by
   rw[Xg (by omega)];simp
  rw[e];by_cases gO:i<(8-b.length % 8) % 8
  ·rw[ah (by simp;omega),ae (Xj (by simp;omega))];refine⟨_,rfl,i+1,?_,by omega,by dsimp only;omega⟩;dsimp only;rw[List.replicate_succ',List.append_assoc]
  ·rw[aq (by simp;omega)];refine⟨_,rfl,?_⟩;show _=_;rw[Kerb.pad,show i=(8-b.length % 8) % 8 from by omega]
 rintro r rfl;simp only[A0];rw[ah (Yu _)]
theorem ahU:Wk 247 1 RI:=by
 refine gi Tryz.func247 fun _ _ _ h=> ?_;unfold RI at h;split at h;case h_2=>cases h
 rename_i k;cases h;refine il (aP (k==1) (Zp (Zu Zf,[])) (Zp (Zu (k==2),[]))) ?_;unfold Kerb.ku;cases (k==(1:Int))<;>rfl
theorem ahV:Wk 248 1 RJ:=by
 refine gi Tryz.func248 fun _ _ _ h=> ?_;unfold RJ at h;split at h;case h_2=>cases h
 rename_i k;cases h;refine il (aP (Zv (k>=1)) (Zp (Zu (Zv (k<=4294967295)),[])) (Zp (Zu Yk,[]))) ?_;by_cases h:1<=k<;>simp[aP,Kerb.jc,h]
theorem ah7:Wk 260 1 I0:=by
 refine gi Tryz.func260 fun _ _ _ h=> ?_;unfold I0 at h;split at h;case h_2=>cases h
 rename_i x;obtain⟨aO,rfl⟩:=hZ h;refine Dp [0] (let t2:Int:=Zz .u64 (↑(BitVec.toNat (BitVec.ofInt (Zk .u64) x ^^^ BitVec.ofInt (Zk .u64) (Zz .u64 (x*2 ^ min (Zw 13) (Zk .u64))))):Int);let t1:Int:=Zz .u64 (↑(BitVec.toNat (BitVec.ofInt (Zk .u64) t2 ^^^ BitVec.ofInt (Zk .u64) (Xk t2 (2 ^ min (Zw 7) (Zk .u64))))):Int);let t0:AV:=Zy .u64 (Zz .u64 (↑(BitVec.toNat (BitVec.ofInt (Zk .u64) t1 ^^^ BitVec.ofInt (Zk .u64) (Zz .u64 (t1*2 ^ min (Zw 17) (Zk .u64))))):Int));Zp (t0,[[t0]])) ?_;try dsimp only[bB,cP,ak,jz,ai,ef,iX]
 simp only[Zn,Qa2] at aO;obtain⟨h0,h1⟩:=aO;obtain⟨v,rfl⟩:∃ v:BitVec 64,x=(v.toNat:Int):=⟨BitVec.ofNat 64 x.toNat,by rw[BitVec.toNat_ofNat];omega⟩;exact Qb5 (fun z=>Zp (Zy .u64 z,[[Zy .u64 z]])) (Kerb.SF v)
theorem ah_:Wk 263 1 RK:=by
 refine gi Tryz.func263 fun _ _ _ h=> ?_;unfold RK at h;split at h;case h_2=>cases h
 rename_i x;cases h;refine il (Zp (Zu !x==x,[])) ?_;simp
theorem aiu:Wk 362 1 RO:=by
 refine gi Tryz.func362 fun _ _ _ h=> ?_;unfold RO at h;split at h;case h_2=>cases h
 rename_i n m;cases h;refine il (aP (Zv (n>=0)) (Zp (Zu (Zv (n<=m)),[])) (Zp (Zu Yk,[]))) ?_;by_cases h:0<=n<;>simp[aP,Xw,h]
theorem aiw:Wk 401 1 RP:=by
 refine gi Tryz.func401 fun _ _ _ h=> ?_;unfold RP at h;split at h;case h_2=>cases h
 rename_i nx e B at_ li bad;cases h;refine Dp [0] (aP bad (Zp (Yh [],[[Yv B,Zy .i64 at_,Zu li,Zu Zf]])) (aP (!e==0) (Zp (Yh [],[[Yv B,Zy .i64 at_,Zu li,Zu Zf]])) (Zp (Yh [],[[Yv B,Zy .i64 nx,Zu li,Zu bad]])))) ?_;cases bad
 ·cases (e==0)<;>rfl
 ·rfl
theorem aiz:Wk 404 1 CP:=by
 refine gi Tryz.func404 fun _ _ _ h=> ?_;unfold CP at h;split at h;case h_2=>cases h
 rename_i b pos n;obtain⟨aO,rfl⟩:=hZ h;refine il (let t0:Option (AV×aZ):=Zp (Yh [Yv [],Zy .i64 0,Zy .i64 104],[]);aP (Zv (pos<0)) t0 (aP (Zv (pos>(↑(Zx b):Int))) t0 (aP (Zv (n<0)) t0 (aP (Zv (n>Zz .i64 ((↑(Zx b):Int)-pos))) (Zp (Yh [Yv [],Zy .i64 0,Zy .i64 101],[])) (aA (Zv (0<=pos)&&Zv (pos<=Zz .i64 (pos+n))&&Zv (Zz .i64 (pos+n)<=(↑(Zx b):Int))) (aA (room (Zx (Xp (Zw pos) (Xb (Zw (Zz .i64 (pos+n))) b))) 1) (Zp (Yh [Yv (Xp (Zw pos) (Xb (Zw (Zz .i64 (pos+n))) b)),Zy .i64 (Zz .i64 (pos+n)),Zy .i64 0],[])))))))) ?_;try dsimp only[bB,cP,ak,jz,ai,ef,iX]
 have hb:=Qa3 aO;unfold Kerb.bytes;by_cases h1:pos<0
 ·have e:Xh b pos n=104:=by unfold Xh;rw[Qa1 (by omega)]
  rw[ah (by simpa using h1),e];rfl
 rw[aq (by simpa using h1)];by_cases h2:(b.length:Int)<pos
 ·have e:Xh b pos n=104:=by unfold Xh;rw[Qa1 (by omega)]
  rw[ah (by simpa using h2),e];rfl
 rw[aq (by simpa using h2)];by_cases h3:n<0
 ·have e:Xh b pos n=104:=by unfold Xh;rw[Qa1 (by omega)]
  rw[ah (by simpa using h3),e];rfl
 rw[aq (by simpa using h3),wrap_i64 (n:=(b.length:Int)-pos) (by omega) (by omega)];by_cases h4:(b.length:Int)-pos<n
 ·have e:Xh b pos n=101:=by unfold Xh;rw[Qa0 (by omega),Qa1 h4]
  rw[ah (by simpa using h4),e];rfl
 have hr:Xh b pos n=0:=Kerb.kh.2 (by omega);have e:Xp (Zw pos) (Xb (Zw (pos+n)) b)=Kerb.cut b pos n:=by
  rw[show Zw (pos+n)=pos.toNat+n.toNat by omega,List.drop_take,show pos.toNat+n.toNat-pos.toNat=n.toNat by omega];rfl
 have hc:=Kerb.kV hr;rw[aq (by simpa using h4),Qa1 hr,wrap_i64 (by omega) (by omega),e,ae (by simp;omega),ae (Xj (by omega))]
theorem aiA:Wk 405 1 Jb:=by
 refine gi Tryz.func405 fun _ _ _ h=> ?_;unfold Jb at h;split at h;case h_2=>cases h
 rename_i b pos;obtain⟨aO,rfl⟩:=hZ h;refine il (aP (Zv (pos<0)) (Zp (Yh [Zm [],Zy .i64 0,Zy .i64 104],[])) (aP (Zv (pos>(↑(Zx b):Int))) (Zp (Yh [Zm [],Zy .i64 0,Zy .i64 104],[])) (Zj (bH (fun st=>cP st fun b r=>ai .i64 r fun n r=>bB r fun fS r=>ai .i64 r fun cV r=>ai .i64 r fun eE r=>ai .i64 r fun ig r=>ar r (aP (Zv (ig<=39)) (aP (Zv (Zz .i64 (n+ig)>=(↑(Zx b):Int))) (Zp (Yy (Xn,[Yv b,Zy .i64 n,Zm [],Zy .i64 0,Zy .i64 101,Zy .i64 ig]))) (aA (Zv (0<=Zz .i64 (n+ig))&&Zv (Zz .i64 (n+ig)<(↑(Zx b):Int))) (aP (Zq b (Zw (Zz .i64 (n+ig))) (0:UInt8)==(0:UInt8)) (aA (Zv (0<=n)&&Zv (n<=Zz .i64 (n+ig))&&Zv (Zz .i64 (n+ig)<=(↑(Zx b):Int))) (Zp (Yy (Xn,[Yv b,Zy .i64 n,Zm (Xp (Zw n) (Xb (Zw (Zz .i64 (n+ig))) b)),Zy .i64 (Zz .i64 (Zz .i64 (n+ig)+1)),Zy .i64 0,Zy .i64 ig])))) (Zp (Yg [Yv b,Zy .i64 n,Zm fS,Zy .i64 cV,Zy .i64 eE,Zy .i64 (Zz .i64 (ig+1))]))))) (Zp (Yy (Yd 0,[Yv b,Zy .i64 n,Zm fS,Zy .i64 cV,Zy .i64 eE,Zy .i64 ig]))))) [Yv b,Zy .i64 pos,Zm [],Zy .i64 0,Zy .i64 0,Zy .i64 0]) fun(r:Ex×List AV)=>cP (Yb r) fun b fA=>ai .i64 fA fun n fP=>bB fP fun b gj=>ai .i64 gj fun n iV=>ai .i64 iV fun cV j7=>ai .i64 j7 fun eE kH=>ar kH (mZ r.1 (Zp (Yh [Zm b,Zy .i64 n,Zy .i64 cV],[])) fun j=>aP (Xz j 0) (Zp (Yh [Zm [],Zy .i64 0,Zy .i64 105],[])) Wp)))) ?_;dsimp only[bB,cP,ai];have hb:=Qa3 aO;unfold Kerb.text;by_cases h1:pos<0
 ·rw[ah (by simpa using h1),Qa0 (by rw[Kerb.kh];omega)]
 rw[aq (by simpa using h1)];by_cases h2:(b.length:Int)<pos
 ·rw[ah (by simpa using h2),Qa0 (by rw[Kerb.kh];omega)]
 rw[aq (by simpa using h2),Qa1 (Kerb.kh.2 (by omega))];obtain⟨R,hR⟩:∃ R,R=b.drop pos.toNat:=⟨_,rfl⟩;have hRl:R.length=b.length-pos.toNat:=by rw[hR];simp
 rw[<-hR];obtain⟨T,hT⟩:∃ T,T=R.take 40:=⟨_,rfl⟩;rw[<-hT];have hix:=Kerb.u7 0 T;refine dq (fun i:Nat=>[Yv b,Zy Zd pos,Zm [],Zy Zd 0,Zy Zd 0,Zy Zd (i:Int)]) (fun i=>i<=40/\i<=R.length/\(0:UInt8) ∉ R.take i) (fun i=>40-i)
  (fun r=>∃ (i:Nat) (v:List UInt8) (nx e:Int),r.2=[Yv b,Zy Zd pos,Zm v,Zy Zd nx,Zy Zd e,Zy Zd (i:Int)] /\
   ((r.1 = .ret/\v=[]/\nx=0/\e=101/\Kerb.indexOf 0 T<0/\T.length≠40)\/(r.1 = .ret/\Kerb.indexOf 0 T=i/\v=T.take i/\nx=pos+i+1/\e=0)\/(r.1 = .exit 0/\Kerb.indexOf 0 T<0/\T.length=40))) 0 ⟨by omega,by omega,by simp⟩ rfl ?_ ?_
 ·rintro i ⟨hi,hir,h0⟩;simp only[A0];by_cases gO:i<=39;case neg =>
   have e40:i=40:=by omega
   subst e40;rw[aq (by decide)];refine⟨_,rfl,40,[],0,0,rfl,.inr (.inr ⟨rfl,?_,?_⟩)⟩
   ·rw[<-hT] at h0;have:=mt hix.1 h0;omega
   ·rw[hT];simp;omega
  rw[ah (by simp;omega),wrap_i64 (n:=pos+(i:Int)) (by omega) (by omega)];by_cases aa4:(b.length:Int)<=pos+i
  ·rw[ah (by simpa using aa4)];have hTR:T=R.take i:=by rw[hT,Xx (by omega),Xx (by omega)]
   refine⟨_,rfl,i,[],0,101,rfl,.inl ⟨rfl,rfl,rfl,rfl,?_,?_⟩⟩
   ·rw[<-hTR] at h0;have:=mt hix.1 h0;omega
   ·rw[hTR];simp;omega
  have hiR:i<R.length:=by omega
  have hd:=Kerb.rD hiR;have hbi:b.getD (pos+(i:Int)).toNat 0=R.getD i 0:=by
   rw[show(pos+(i:Int)).toNat=pos.toNat+i by omega,hR];simp[List.getD_eq_getElem?_getD]
  rw[aq (by simpa using aa4),ae (by simp;omega),hbi];by_cases hz:R.getD i 0=0
  ·rw[ah (by rw[hz];rfl),ae (by simp;omega),wrap_i64 (by omega) (by omega)];have hTi:T.take i=R.take i:=by rw[hT,List.take_take,Nat.min_eq_left (by omega)]
   have hTe:T=R.take i++0::(R.drop (i+1)).take (39-i):=by
    rw[hT];have:R=R.take i++(0::R.drop (i+1)):=by rw[<-hz,<-hd,List.take_append_drop]
    have hl:(R.take i).length=i:=by simp;omega
    calc R.take 40=(R.take i++(0::R.drop (i+1))).take 40:=by rw[<-this]
     _=_:=by rw[List.take_append,hl,Xx (by omega),show 40-i=(39-i)+1 by omega,List.take_succ_cons]
   have afK:Kerb.indexOf 0 T=i:=by
    rw[hTe,Kerb.qE h0];simp;omega
   refine⟨_,rfl,i,_,_,0,rfl,.inr (.inl ⟨rfl,afK,?_,rfl,rfl⟩)⟩;rw[hTi,hR,show(pos+(i:Int)).toNat=pos.toNat+i by omega,List.drop_take,show pos.toNat+i-pos.toNat=i by omega]
  ·rw[aq (beq_eq_false_iff_ne.2 hz),wrap_i64 (by omega) (by omega)];refine⟨_,rfl,i+1,rfl,⟨by omega,by omega,?_⟩,by dsimp only;omega⟩;rw[Kerb.vG hiR];simp only[List.mem_append,List.mem_singleton,not_or];exact⟨h0,fun e=>hz e.symm⟩
 ·rintro⟨e,l⟩ ⟨i,v,nx,er,rfl,⟨rfl,rfl,rfl,rfl,g1,g2⟩ | ⟨rfl,g1,rfl,rfl,rfl⟩ | ⟨rfl,g1,g2⟩⟩
  ·simp only[A0];rw[Qa0 (by omega),Qa0 g2]
  ·simp only[A0];rw[Qa1 (by omega),g1,Yx]
  ·simp only[A0];rw[Qa0 (by omega),Qa1 g2,ah (Yu _)]
theorem w42:Wk 42 2 YF:=by
 refine gi Tryz.func42 fun _ _ _ h=> ?_;unfold YF at h;split at h;case h_2=>cases h
 rename_i ks bs k;obtain⟨aO,rfl⟩:=hZ h;refine il (Zj (RV [Xf 1 ks,Zy .u64 k] []) (kL fun b=>Zp (Zu b,[]))) ?_;delta kL;dsimp only[RV,bB,cP,ak,jz,ai,ef,iX];simp only[A0,Kerb.Client.av,Kerb.Cache.av,Kerb.h_.av,aO]
theorem w60:Wk 60 2 RU:=by
 refine gi Tryz.func60 fun _ _ _ h=> ?_;unfold RU at h;split at h;case h_2=>cases h
 rename_i n;obtain⟨aO,rfl⟩:=hZ h;refine il (aA (Zv (0<=Yn n 3)&&Zv (Yn n 3<(↑(Zx [Zm [(65:UInt8),(84:UInt8),(72:UInt8)],Zm [(66:UInt8),(79:UInt8),(83:UInt8)],Zm [(67:UInt8),(65:UInt8),(77:UInt8)]]):Int))&&Zf) (AV.fc (Zq [Zm [(65:UInt8),(84:UInt8),(72:UInt8)],Zm [(66:UInt8),(79:UInt8),(83:UInt8)],Zm [(67:UInt8),(65:UInt8),(77:UInt8)]] (Zw (Yn n 3)) Zb) fun b=>Zp (Zm b,[]))) ?_;have hn:0<=n:=by first | exact Qa3 aO | (simp only[Zn,Qa2] at aO;exact aO.1)
 have ht:Yn n 3=n % 3:=Xg hn;have BA:n % 3=0\/n % 3=1\/n % 3=2:=by omega
 rcases BA with e | e | e<;>simp[ht,e,aA,AV.fc,Kerb.aC]
theorem ahb:Wk 119 2 CL:=by
 refine gi Tryz.func119 fun _ _ _ h=> ?_;unfold CL at h;split at h;case h_2=>cases h
 rename_i x;obtain⟨aO,rfl⟩:=hZ h;refine il (Zj (IJ [Zy .u64 x] []) (kI .i64 fun n=>Zp (Zy .i64 n,[]))) ?_;delta kI;dsimp only[IJ,bB,cP,ak,jz,ai,ef,iX];simp only[Kerb.FX,Bool.true_and,Zn,Qa2] at aO;rw[ae (by simp;omega)];rfl
theorem ahc:Wk 120 2 nT:=by
 refine gi Tryz.func120 fun _ _ _ h=> ?_;unfold nT at h;split at h;case h_2=>cases h
 rename_i k;obtain⟨aO,rfl⟩:=hZ h;refine il (let t0:Int:=Zz .i64 (Zz .u64 (↑(BitVec.toNat (BitVec.ofInt (Zk .u64) k &&& BitVec.ofInt (Zk .u64) 72057594037927935)):Int));aP (!k==0) (Zp (Zu ((bif Kerb.ku (Zz .i64 (Xk k (2 ^ min (Zw 56) (Zk .u64))))&&Kerb.jc t0 then Zz .i64 (Xk k (2 ^ min (Zw 56) (Zk .u64)))*72057594037927936+t0 else 0)==k),[])) (Zp (Zu Yk,[]))) ?_;try dsimp only[bB,cP,ak,jz,ai,ef,iX]
 simp only[Zn,Qa2] at aO;obtain⟨h0,h1⟩:=aO;rw[Kerb.Qy h0 h1,Kerb.Qz h0 h1,Kerb.TA];by_cases hk:k=0
 ·subst hk;rfl
 rw[ah (by simpa using hk)];unfold Kerb.bW;cases Kerb.ku (Kerb.lT k)&&Kerb.jc (Kerb.lu k)
 ·have q:((0:Int)==k)=Yk:=by simp;omega
  simp only[Qa7,q]
 ·simp only[Qa6,BEq.rfl]
theorem ahd:Wk 124 2 yv:=by
 refine gi Tryz.func124 fun _ _ _ h=> ?_;unfold yv at h;split at h;case h_2=>cases h
 rename_i s;obtain⟨aO,rfl⟩:=hZ h;refine il (aP (Zv ((↑(Zx s):Int)>0)) (Zj (yw [Zm s,Zm [(64:UInt8)]] []) (kL fun b=>Zp (Zu b,[]))) (Zp (Zu Yk,[]))) ?_;delta kL;dsimp only[yw,bB,cP,ak,jz,ai,ef,iX];simp only[A0];rw[ae (by rw[aO];rfl)];simp only[Kerb.fD];cases s with
 | nil=>rfl
 | cons x r =>
  rw[ah (by first | (simp;done) | (simp;omega)),Bool.and_comm];rfl
theorem ahf:Wk 131 2 Rw:=by
 refine gi Tryz.func131 fun _ _ _ h=> ?_;unfold Rw at h;split at h;case h_2=>cases h
 rename_i ks bs l m;obtain⟨aO,rfl⟩:=hZ h;refine il (Kerb.VQ ks bs l m) ?_;simp only[Zn,Qa2,List.all_eq_true] at aO;obtain⟨⟨⟨⟨⟨WX,h1⟩,h2⟩,h3⟩,h4⟩,h5⟩:=aO;obtain⟨s,rfl,rfl,hs⟩:=Kerb.B8 WX;obtain⟨l,rfl⟩:=Kerb.vj h1;obtain⟨m,rfl⟩:=Kerb.QT h2;rw[Wx] at h3;rw[Kerb.gq] at h4;rw[Kerb.om] at h5;rw[Kerb.nk,Kerb.f_,Kerb.om];exact Kerb.SU hs (x:=⟨l,m⟩) h3 h4 h5
theorem ahj:Wk 153 2 gV:=by
 refine gi Tryz.func153 fun _ _ _ h=> ?_;unfold gV at h;split at h;case h_2=>cases h
 rename_i b n;obtain⟨aO,rfl⟩:=hZ h;refine il (Zj (yx [Yv b,Zy .i64 n,Zy .i64 1,Zu Yk] []) (kO fun l=>Zp (Wz l,[]))) ?_;delta kO;dsimp only[yx,bB,cP,ak,jz,ai,ef,iX];simp only[Qa2] at aO;simp only[A0];rw[ae (by simp;omega)];rfl
theorem ahm:Wk 156 2 vD:=by
 refine gi Tryz.func156 fun _ _ _ h=> ?_;unfold vD at h;split at h;case h_2=>cases h
 rename_i s;obtain⟨aO,rfl⟩:=hZ h;refine il (aP (Zv ((↑(Zx s):Int)>0)) (Zj (yw [Zm s,Zm [(46:UInt8),(64:UInt8)]] []) (kL fun b=>Zp (Zu b,[]))) (Zp (Zu Yk,[]))) ?_;delta kL;dsimp only[yw,bB,cP,ak,jz,ai,ef,iX];simp only[A0];rw[ae (by rw[aO];rfl)];simp only[Kerb.validName];cases s with
 | nil=>rfl
 | cons x r =>
  rw[ah (by first | (simp;done) | (simp;omega)),Bool.and_comm];rfl
theorem ahn:Wk 157 2 vE:=by
 refine gi Tryz.func157 fun _ _ _ h=> ?_;unfold vE at h;split at h;case h_2=>cases h
 rename_i s;obtain⟨aO,rfl⟩:=hZ h;refine il (Zj (yw [Zm s,Zm [(64:UInt8)]] []) (kL fun b=>Zp (Zu b,[]))) ?_;delta kL;dsimp only[yw,bB,cP,ak,jz,ai,ef,iX];simp only[A0];rw[ae (by rw[aO];rfl),Bool.and_comm];rfl
theorem aho:Wk 158 2 gQ:=by
 refine gi Tryz.func158 fun _ _ _ h=> ?_;unfold gQ at h;split at h;case h_2=>cases h
 rename_i b n little;obtain⟨aO,rfl⟩:=hZ h;refine il (Zj (yx [Yv b,Zy .i64 n,Zy .i64 4,Zu little] []) (kO fun l=>Zp (Wz l,[]))) ?_;delta kO;dsimp only[yx,bB,cP,ak,jz,ai,ef,iX];simp only[Qa2] at aO;simp only[A0];rw[ae (by simp;omega)];rfl
theorem ahr:Wk 161 2 lK:=by
 refine gi Tryz.func161 fun _ _ _ h=> ?_;unfold lK at h;split at h;case h_2=>cases h
 rename_i b x y z;obtain⟨aO,rfl⟩:=hZ h;refine il (Zj (lJ [Yv b,Zm x] []) (kO fun l=>Zj (lJ [Yv l,Zm y] []) (kO fun l=>Zj (lJ [Yv l,Zm z] []) (kO fun l=>Zp (Wz l,[]))))) ?_;delta kO;dsimp only[lJ,bB,cP,ak,jz,ai,ef,iX];simp only[Qa2] at aO;simp only[A0];rw[ae (by simp;omega),ae (by simp[Kerb.cT];omega),ae (by simp[Kerb.cT];omega)];rfl
theorem ahs:Wk 162 2 pu:=by
 refine gi Tryz.func162 fun _ _ _ h=> ?_;unfold pu at h;split at h;case h_2=>cases h
 rename_i b n little;obtain⟨aO,rfl⟩:=hZ h;refine il (Zj (yx [Yv b,Zy .i64 n,Zy .i64 2,Zu little] []) (kO fun l=>Zp (Wz l,[]))) ?_;delta kO;dsimp only[yx,bB,cP,ak,jz,ai,ef,iX];simp only[Qa2] at aO;simp only[A0];rw[ae (by simp;omega)];rfl
theorem ahw:Wk 179 2 IC:=by
 refine gi Tryz.func179 fun _ _ _ h=> ?_;unfold IC at h;split at h;case h_2=>cases h
 rename_i k;obtain⟨aO,rfl⟩:=hZ h;refine il (let t0:Int:=Zz .i64 (Zz .u64 (↑(BitVec.toNat (BitVec.ofInt (Zk .u64) k &&& BitVec.ofInt (Zk .u64) 72057594037927935)):Int));let t1:Option (AV×aZ):=Zp (Yh [Zy .i64 0,Zy .i64 0,Zu Yk],[]);aP (!Kerb.ku (Zz .i64 (Xk k (2 ^ min (Zw 56) (Zk .u64))))) t1 (aP (!Kerb.jc t0) t1 (Zp (Yh [Zy .i64 (Zz .i64 (Xk k (2 ^ min (Zw 56) (Zk .u64)))),Zy .i64 t0,Zu Zf],[])))) ?_;try dsimp only[bB,cP,ak,jz,ai,ef,iX]
 simp only[Zn,Qa2] at aO;obtain⟨h0,h1⟩:=aO;rw[Kerb.Qy h0 h1,Kerb.Qz h0 h1];unfold Kerb.bW;cases Kerb.ku (Kerb.lT k)
 ·rfl
 cases Kerb.jc (Kerb.lu k)<;>rfl
theorem ahE:Wk 188 2 RD:=by
 refine gi Tryz.func188 fun _ _ _ h=> ?_;unfold RD at h;split at h;case h_2=>cases h
 rename_i x y;cases h;refine il (Zp (Zu (Zv (x<y)),[])) ?_;rfl
theorem aik:Wk 337 2 RM:=by
 refine gi Tryz.func337 fun _ _ _ h=> ?_;unfold RM at h;split at h;case h_2=>cases h
 rename_i b els;obtain⟨aO,rfl⟩:=hZ h;refine il (aP (!Kerb.Head.err (Kerb.bX b)==0) (Zp (Yh [Zu Yk,Zy .i64 (Kerb.Head.err (Kerb.bX b))],[])) (Zj (bH (fun st=>ef 1 st fun b r=>ak r fun fS r=>ai .i64 r fun n r=>ai .i64 r fun cV r=>ak r fun l6 r=>ai .i64 r fun eE r=>ar r (aP (Zv (eE<(↑(Zx b):Int))) (aA (Zv (0<=eE)&&Zv (eE<(↑(Zx b):Int))&&Zf) (Yf .i64 (Zq b (Zw eE) Zb) fun ig=>aP (ig==cV) (Zp (Yy (Xn,[Xf 1 b,Zu l6,Zy .i64 0,Zy .i64 cV,Zu l6,Zy .i64 eE]))) (Zp (Yg [Xf 1 b,Zu fS,Zy .i64 n,Zy .i64 cV,Zu l6,Zy .i64 (Zz .i64 (eE+1))])))) (Zp (Yy (Yd 0,[Xf 1 b,Zu fS,Zy .i64 n,Zy .i64 cV,Zu l6,Zy .i64 eE]))))) [Xf 1 els,Zu Yk,Zy .i64 0,Zy .i64 (Kerb.Head.kind (Kerb.bX b)),Zu (Kerb.Head.little (Kerb.bX b)),Zy .i64 0]) fun(r:Ex×List AV)=>ef 1 (Yb r) fun b fA=>ak fA fun b fP=>ai .i64 fP fun n gj=>ai .i64 gj fun cV iV=>ak iV fun fS j7=>ai .i64 j7 fun eE kH=>ar kH (mZ r.1 (Zp (Yh [Zu b,Zy .i64 n],[])) fun j=>aP (Xz j 0) (Zp (Yh [Zu Yk,Zy .i64 40],[])) Wp))) ?_;dsimp only[ak,ai,ef];simp only[Zn,Qa2] at aO;obtain⟨ha,hl⟩:=aO;have hil:=Kerb.Hy ha;unfold Kerb.bh;by_cases he:(Kerb.bX b).err=0;case neg =>
  rw[ah (by simpa using he),Qa1 he]
 rw[aq (by simp[he]),Qa0 (by simpa using he)];generalize (Kerb.bX b).kind=k;generalize (Kerb.bX b).little=lt;refine dq (fun i:Nat=>[Xf 1 els,Zu Yk,Zy Zd 0,Zy Zd k,Zu lt,Zy Zd (i:Int)]) (fun i=>i<=els.length/\(k∈nh els↔k∈(nh els).drop i)) (fun i=>els.length-i)
  (fun r=>∃ (i:Nat) (x:Bool),r.2=[Xf 1 els,Zu x,Zy Zd 0,Zy Zd k,Zu lt,Zy Zd (i:Int)]/\((r.1 = .ret/\x=lt/\k∈nh els)\/(r.1 = .exit 0/\k ∉ nh els))) 0 ⟨Wq _,by simp⟩ rfl ?_ ?_
 ·rintro i ⟨hi,hm⟩;simp only[A0];by_cases gO:i<els.length
  ·obtain⟨n,h1,h2⟩:=Kerb.Hx ha gO;rw[ah (by simp;omega),ae (by simp;omega),Yx,h1,vQ];rw[h2,List.mem_cons] at hm;by_cases h3:n=k
   ·rw[ah (by simpa using h3)];exact⟨_,rfl,i,lt,rfl,.inl ⟨rfl,rfl,hm.2 (.inl h3.symm)⟩⟩
   ·rw[aq (by simpa using h3),wrap_i64 (by omega) (by omega)];exact⟨_,rfl,i+1,rfl,⟨by omega,hm.trans ⟨fun h=>h.resolve_left fun e=>h3 e.symm,.inr⟩⟩,by dsimp only;omega⟩
  ·rw[aq (by simp;omega)];refine⟨_,rfl,i,Yk,rfl,.inr ⟨rfl,?_⟩⟩;rw[hm,List.drop_eq_nil_of_le (by omega)];simp
 ·rintro⟨e,l⟩ ⟨i,x,rfl,⟨rfl,rfl,h⟩ | ⟨rfl,h⟩⟩
  ·simp only[A0];rw[Qa1 (by simpa using h)]
  ·simp only[A0];rw[Qa0 (by simpa using h),ah (Yu _)]
theorem aip:Wk 342 2 gA:=by
 refine gi Tryz.func342 fun _ _ _ h=> ?_;unfold gA at h;split at h;case h_2=>cases h
 rename_i n B at_ li bad;obtain⟨aO,rfl⟩:=hZ h;refine Dp [0] (Zj (CP [Yv B,Zy .i64 at_,Zy .i64 n] []) (kT fun vs=>cP vs fun b r=>ai .i64 r fun n r=>ai .i64 r fun cV r=>ar r (Zp (Yv b,[[Yv B,Zy .i64 (bif bad || !cV==0 then at_ else n),Zu li,Zu (bad || !cV==0)]])))) ?_;delta kT;dsimp only[CP,bB,cP,ak,jz,ai,ef,iX];simp only[A0];rw[ae aO]
theorem aiq:Wk 344 2 px:=by
 refine gi Tryz.func344 fun _ _ _ h=> ?_;unfold px at h;split at h;case h_2=>cases h
 rename_i B at_ li bad;obtain⟨aO,rfl⟩:=hZ h;refine Dp [0] (Zj (Jb [Yv B,Zy .i64 at_] []) (kT fun vs=>bB vs fun b r=>ai .i64 r fun n r=>ai .i64 r fun cV r=>ar r (Zp (Zm b,[[Yv B,Zy .i64 (bif bad || !cV==0 then at_ else n),Zu li,Zu (bad || !cV==0)]])))) ?_;delta kT;dsimp only[Jb,bB,cP,ak,jz,ai,ef,iX];simp only[A0];rw[ae aO]
theorem aiB:Wk 425 2 yy:=by
 refine gi Tryz.func425 fun _ _ _ h=> ?_;unfold yy at h;split at h;case h_2=>cases h
 rename_i b pos k little;obtain⟨aO,rfl⟩:=hZ h;refine il (Zj (CP [Yv b,Zy .i64 pos,Zy .i64 k] []) (kT fun vs=>cP vs fun b r=>ai .i64 r fun n r=>ai .i64 r fun cV r=>ar r (aP (!cV==0) (Zp (Yh [Zy .i64 0,Zy .i64 0,Zy .i64 cV],[])) (Zj (bH (fun st=>ai .i64 st fun n r=>ak r fun b r=>cP r fun fS r=>ai .i64 r fun eE r=>ai .i64 r fun ig r=>ai .i64 r fun dk r=>ar r (aP (Zv (dk<n)) (aP b (aA (Zv (0<=Zz .i64 (Zz .i64 (n-1)-dk))&&Zv (Zz .i64 (Zz .i64 (n-1)-dk)<(↑(Zx fS):Int))) (Zp (Yg [Zy .i64 n,Zu b,Yv fS,Zy .i64 eE,Zy .i64 (Zz .i64 (↑(BitVec.toNat (BitVec.ofInt (Zk .i64) (Zz .i64 (ig*2 ^ min (Zw 8) (Zk .i64))) ||| BitVec.ofInt (Zk .i64) (Zz .i64 (↑(Zh (Zq fS (Zw (Zz .i64 (Zz .i64 (n-1)-dk))) (0:UInt8))):Int)))):Int)),Zy .i64 (Zz .i64 (dk+1))]))) (aA (Zv (0<=dk)&&Zv (dk<(↑(Zx fS):Int))) (Zp (Yg [Zy .i64 n,Zu b,Yv fS,Zy .i64 eE,Zy .i64 (Zz .i64 (↑(BitVec.toNat (BitVec.ofInt (Zk .i64) (Zz .i64 (ig*2 ^ min (Zw 8) (Zk .i64))) ||| BitVec.ofInt (Zk .i64) (Zz .i64 (↑(Zh (Zq fS (Zw dk) (0:UInt8))):Int)))):Int)),Zy .i64 (Zz .i64 (dk+1))])))) (Zp (Yy (Yd 0,[Zy .i64 n,Zu b,Yv fS,Zy .i64 eE,Zy .i64 ig,Zy .i64 dk]))))) [Zy .i64 k,Zu little,Yv b,Zy .i64 n,Zy .i64 0,Zy .i64 0]) fun(r:Ex×List AV)=>ai .i64 (Yb r) fun n fA=>ak fA fun b fP=>cP fP fun b gj=>ai .i64 gj fun n iV=>ai .i64 iV fun eE j7=>ai .i64 j7 fun ig kH=>ar kH (mZ r.1 Wp fun j=>aP (Xz j 0) (Zp (Yh [Zy .i64 eE,Zy .i64 n,Zy .i64 0],[])) Wp))))) ?_;delta kT;dsimp only[CP,bB,cP,ak,jz,ai,ef,iX];simp only[Zn,Qa2] at aO;obtain⟨⟨hb,Zl⟩,oC⟩:=aO;simp only[A0];rw[ae (by simpa using hb)];unfold Kerb.get Kerb.bytes;by_cases hr:Xh b pos k=0;case neg =>
  rw[Qa0 hr,Qa0 hr,ah (by simpa using hr)]
 rw[Qa1 hr,Qa1 hr,aq (by simp)];obtain⟨q1,q2,q3,q4⟩:=Kerb.kh.1 hr;have xo:=Kerb.kV hr;obtain⟨C,hC⟩:∃ C,C=Kerb.cut b pos k:=⟨_,rfl⟩;rw[<-hC] at xo ⊢;obtain⟨L,hL⟩:∃ L,L=cond little C.reverse C:=⟨_,rfl⟩;have hLl:L.length=k.toNat:=by rw[hL];cases little<;>simp[xo]
 rw[<-hL];refine dq (fun i:Nat=>[Zy Zd k,Zu little,Yv C,Zy Zd (pos+k),Zy Zd (Kerb.kK (L.take i)),Zy Zd (i:Int)]) (fun i=>i<=k.toNat) (fun i=>k.toNat-i)
  (fun r=>r=(Yd 0,[Zy Zd k,Zu little,Yv C,Zy Zd (pos+k),Zy Zd (Kerb.kK L),Zy Zd k])) 0 (Wq _) rfl ?_ ?_
 ·intro i hi;simp only[A0];by_cases gO:i<k.toNat
  ·rw[ah (by simp;omega)];have hv:=Kerb.MO (l:=L.take i) (by simp;omega);have hs:=Kerb.zB (l:=L) (i:=i) (by omega);have hgd:L.getD i 0=C.getD (cond little (k.toNat-1-i) i) 0:=by
    rw[hL];cases little
    ·rfl
    ·show C.reverse.getD i 0=_;rw[Kerb.Fs (by omega),xo];rfl
   cases little
   ·rw[aq rfl,ae (by simp;omega),Yx];rw[Kerb.Mm _ hv.1 (by omega),wrap_i64 (n:=(i:Int)+1) (by omega) (by omega)];refine⟨_,rfl,i+1,?_,by omega,by dsimp only;omega⟩;dsimp only;rw[hs,hgd];rfl
   ·rw[ah rfl,wrap_i64 (n:=k-1) (by omega) (by omega),wrap_i64 (n:=k-1-(i:Int)) (by omega) (by omega),ae (by simp;omega),show(k-1-(i:Int)).toNat=k.toNat-1-i from by omega];rw[Kerb.Mm _ hv.1 (by omega),wrap_i64 (n:=(i:Int)+1) (by omega) (by omega)];refine⟨_,rfl,i+1,?_,by omega,by dsimp only;omega⟩;dsimp only;rw[hs,hgd];rfl
  ·rw[aq (by simp;omega)];refine⟨_,rfl,?_⟩;show _=_;rw[Xx (by omega),show(i:Int)=k from by omega]
 ·rintro r rfl;simp only[A0];rw[ah (Yu _)]
theorem w27:Wk 27 3 YC:=by
 refine gi Tryz.func27 fun _ _ _ h=> ?_;unfold YC at h;split at h;case h_2=>cases h
 rename_i n;obtain⟨aO,rfl⟩:=hZ h;refine il (aA (Zv (0<=Yn n 3)&&Zv (Yn n 3<(↑(Zx [Zm [(97:UInt8),(110:UInt8),(110:UInt8)],Zm [(98:UInt8),(111:UInt8),(98:UInt8)],Zm [(99:UInt8),(97:UInt8),(116:UInt8)]]):Int))&&Zf) (AV.fc (Zq [Zm [(97:UInt8),(110:UInt8),(110:UInt8)],Zm [(98:UInt8),(111:UInt8),(98:UInt8)],Zm [(99:UInt8),(97:UInt8),(116:UInt8)]] (Zw (Yn n 3)) Zb) fun b=>Zj (RU [Zy .i64 (Zz .i64 (Int.tdiv n 3))] []) (kS fun fS=>Zp (AV.agg [Zm b,Zm [],Zm fS],[])))) ?_;delta kS;dsimp only[RU,bB,cP,ak,jz,ai,ef,iX];have hn:0<=n:=by first | exact Qa3 aO | (simp only[Zn,Qa2] at aO;exact aO.1)
 have ht:Yn n 3=n % 3:=Xg hn;have BA:n % 3=0\/n % 3=1\/n % 3=2:=by omega
 simp only[Zn,Qa2] at aO;have hd:Int.tdiv n 3=n / 3:=Int.tdiv_eq_ediv_of_nonneg hn;rw[hd,wrap_i64 (by omega) (by omega)];have hq:Zv ((0:Int)<=n / 3)=Zf:=by simp;omega
 rcases BA with e | e | e<;>simp[ht,e,aA,AV.fc,Kerb.user,hq,aJ]<;>omega
theorem w73:Wk 73 3 vF:=by
 refine gi Tryz.func73 fun _ _ _ h=> ?_;unfold vF at h;split at h;case h_2=>cases h
 rename_i b;obtain⟨aO,rfl⟩:=hZ h;refine il (aP (!(↑(Zx b):Int)==8) (Zp (Yh [Zy .u64 0,Zu Yk],[])) (Zj (bH (fun st=>cP st fun b r=>ai .u64 r fun n r=>ai .i64 r fun cV r=>ar r (aP (Zv (cV<8)) (aA (Zv (0<=cV)&&Zv (cV<(↑(Zx b):Int))) (Zp (Yg [Yv b,Zy .u64 (Zz .u64 (↑(BitVec.toNat (BitVec.ofInt (Zk .u64) (Zz .u64 (n*2 ^ min (Zw 8) (Zk .u64))) ||| BitVec.ofInt (Zk .u64) (Zz .u64 (↑(Zh (Zq b (Zw cV) (0:UInt8))):Int)))):Int)),Zy .i64 (Zz .i64 (cV+1))]))) (Zp (Yy (Yd 0,[Yv b,Zy .u64 n,Zy .i64 cV]))))) [Yv b,Zy .u64 0,Zy .i64 0]) fun(r:Ex×List AV)=>cP (Yb r) fun b fA=>ai .u64 fA fun n fP=>ai .i64 fP fun cV gj=>ar gj (mZ r.1 Wp fun j=>aP (Xz j 0) (Zj (nT [Zy .u64 n] []) (kL fun b=>aP (!b) (Zp (Yh [Zy .u64 0,Zu Yk],[])) (Zp (Yh [Zy .u64 n,Zu Zf],[])))) Wp))) ?_;delta kL;dsimp only[nT,bB,cP,ak,jz,ai,ef,iX];have hb:=Qa3 aO;unfold Kerb.cR;by_cases h8:b.length=8;case neg =>
  rw[ah (by simp;omega),Qa0 (by omega)]
 rw[aq (by simp[h8])];refine dq (fun i:Nat=>[Yv b,Zy Ym (Kerb.kK (b.take i)),Zy Zd (i:Int)]) (fun i=>i<=8) (fun i=>8-i)
  (fun r=>r=(Yd 0,[Yv b,Zy Ym (Kerb.kK b),Zy Zd 8])) 0 (by omega) rfl ?_ ?_
 ·intro i hi;simp only[A0];by_cases gO:i<8
  ·have hv:=Kerb.zB (l:=b) (i:=i) (by omega);have WI:=Kerb.Ju (l:=b.take i) (by simp;omega);rw[ah (by simp;omega),ae (by simp;omega),Yx,Kerb.Iv _ WI.1 WI.2,wrap_i64 (by omega) (by omega),<-hv];exact⟨_,rfl,i+1,rfl,by omega,by dsimp only;omega⟩
  ·rw[aq (by simp;omega)];refine⟨_,rfl,?_⟩;show _=_;rw[Xx (by omega),show i=8 from by omega];rfl
 rintro r rfl;have WI:=Kerb.CW (l:=b) (by omega);simp only[A0];rw[ah (Yu _),ae (by simp;omega)];cases hv:Kerb.bW (Kerb.kK b)
 ·rw[Qa0 (by simp)];rfl
 ·rw[Qa1 ⟨h8,rfl⟩];rfl
theorem w94:Wk 94 3 K5:=by
 refine gi Tryz.func94 fun _ _ _ h=> ?_;unfold K5 at h;split at h;case h_2=>cases h
 rename_i li mu kv rl tk au;obtain⟨aO,rfl⟩:=hZ h;refine il (Zj (yv [Zm rl] []) (kL fun b=>aP (!b) (Zp (Yh [Yv [],Zy .i64 103],[])) (aP (!Xw kv 255) (Zp (Yh [Yv [],Zy .i64 104],[])) (aP (Zv ((↑(Zx tk):Int)>255)) (Zp (Yh [Yv [],Zy .i64 105],[])) (aP (Zv ((↑(Zx au):Int)>255)) (Zp (Yh [Yv [],Zy .i64 105],[])) (aP mu (Zj (gV [Yv (Ww 4 li),Zy .i64 kv] []) (kO fun l=>Zj (lJ [Yv l,Zm rl] []) (kO fun l=>Zj (gV [Yv l,Zy .i64 (↑(Zx tk):Int)] []) (kO fun l=>Zj (gV [Yv l,Zy .i64 (↑(Zx au):Int)] []) (kO fun l=>aA (room (Zx l+Zx tk) 1) (aA (room (Zx (l++tk)+Zx au) 1) (Zp (Yh [Yv (l++tk++au),Zy .i64 0],[])))))))) (Zj (gV [Yv (Ww 3 li),Zy .i64 kv] []) (kO fun l=>Zj (lJ [Yv l,Zm rl] []) (kO fun l=>Zj (gV [Yv l,Zy .i64 (↑(Zx tk):Int)] []) (kO fun l=>Zj (gV [Yv l,Zy .i64 (↑(Zx au):Int)] []) (kO fun l=>aA (room (Zx l+Zx tk) 1) (aA (room (Zx (l++tk)+Zx au) 1) (Zp (Yh [Yv (l++tk++au),Zy .i64 0],[])))))))))))))) ?_;delta kO kL;dsimp only[yv,gV,lJ,bB,cP,ak,jz,ai,ef,iX];simp only[A0,Kerb.Client.av,Kerb.Cache.av,Kerb.h_.av,aO];unfold Kerb.bD;simp only;cases h1:Kerb.fD rl
 ·rfl
 rw[Bool.not_true,aR,Qa0 (by simp)];cases h2:Xw kv 255
 ·rfl
 rw[Bool.not_true,aR,Qa0 (by simp)];by_cases h3:255<tk.length
 ·rw[ah (by simp;omega),Qa1 (.inl h3)]
 rw[aq (by simp;omega)];by_cases h4:255<au.length
 ·rw[ah (by simp;omega),Qa1 (.inr h4)]
 rw[aq (by simp;omega),Qa0 (by omega)];have l1:=Kerb.iL h1;have g3:=Kerb.bu 3 li;have g4:=Kerb.bu 4 li;cases mu
 ·rw[aR,ae (by simp;omega),ae (by simp[Xv];omega),ae (by simp[Xv,Kerb.c7];omega),ae (by simp[Xv,Kerb.c7];omega),ae (Xj (by simp[Xv,Kerb.c7];omega)),ae (Xj (by simp[Xv,Kerb.c7];omega))];rfl
 ·rw[gn,ae (by simp;omega),ae (by simp[Xv];omega),ae (by simp[Xv,Kerb.c7];omega),ae (by simp[Xv,Kerb.c7];omega),ae (Xj (by simp[Xv,Kerb.c7];omega)),ae (Xj (by simp[Xv,Kerb.c7];omega))];rfl
theorem ag8:Wk 104 3 Ru:=by
 refine gi Tryz.func104 fun _ _ _ h=> ?_;unfold Ru at h;split at h;case h_2=>cases h
 rename_i op cd bx;cases h;refine il (let t0:Option (AV×aZ):=Zj (gV [Yv (Ww 9 Yk++Kerb.aL (Zz .i64 (op+128)) 1 Yk),Zy .i64 cd] []) (kO fun l=>Zj (pu [Yv l,Zy .i64 (↑(Zx bx):Int),Zu Yk] []) (kO fun l=>aA (room (Zx l+Zx bx) 1) (Zp (Yh [Yv (l++bx),Zy .i64 0],[]))));aP (Zv (op<1)) (Zp (Yh [Yv [],Zy .i64 40],[])) (aP (Zv (op>3)) (Zp (Yh [Yv [],Zy .i64 40],[])) (aP (Zv (cd<0)) (Zp (Yh [Yv [],Zy .i64 104],[])) (aP (Zv (cd>99)) (Zp (Yh [Yv [],Zy .i64 104],[])) (aP (Zv ((↑(Zx bx):Int)>1012)) (Zp (Yh [Yv [],Zy .i64 105],[])) (aP (!cd==0) (aP (Zv ((↑(Zx bx):Int)>0)) (Zp (Yh [Yv [],Zy .i64 108],[])) t0) t0)))))) ?_;delta kO;dsimp only[gV,pu,bB,cP,ak,jz,ai,ef,iX];simp only[A0];have C0:(Ww 9 Yk).length=2:=rfl;unfold Kerb.cG;simp only;by_cases h0:1<=op/\op<=3;case neg =>
  have e:Kerb.tc op=Yk:=by simp[Kerb.tc];omega
  rw[e];by_cases h1:op<1
  ·rw[ah (by simpa using h1)];rfl
  ·rw[aq (by simpa using h1),ah (by simp;omega)];rfl
 have e:Kerb.tc op=Zf:=by simp[Kerb.tc];omega
 rw[e,aq (by simp;omega),aq (by simp;omega),Qa0 (by simp)];by_cases h1:0<=cd/\cd<=99;case neg =>
  have e:Xw cd 99=Yk:=by simp[Xw];omega
  rw[e];by_cases h2:cd<0
  ·rw[ah (by simpa using h2)];rfl
  ·rw[aq (by simpa using h2),ah (by simp;omega)];rfl
 have e:Xw cd 99=Zf:=by simp[Xw];omega
 rw[e,aq (by simp;omega),aq (by simp;omega),Qa0 (by simp)];by_cases h2:1012<bx.length
 ·rw[ah (by simp;omega),Qa1 h2]
 rw[aq (by simp;omega),Qa0 h2,wrap_i64 (by omega) (by omega)];by_cases h3:cd=0
 ·rw[aq (by simp[h3]),Qa0 (by simp[h3]),ae (by simp[Xv,C0]),ae (by simp[Xv,C0]),ae (Xj (by simp[Xv,C0];omega))];rfl
 rw[ah (by simpa using h3)];by_cases h4:bx=[]
 ·rw[aq (by simp[h4]),Qa0 (by simp[h4]),ae (by simp[Xv,C0]),ae (by simp[Xv,C0]),ae (Xj (by simp[Xv,C0];omega))];rfl
 ·rw[ah (by have:=List.length_pos_iff.2 h4;simp;omega),Qa1 ⟨h3,h4⟩]
theorem ag_:Wk 114 3 Iz:=by
 refine gi Tryz.func114 fun _ _ _ h=> ?_;unfold Iz at h;split at h;case h_2=>cases h
 rename_i k;obtain⟨aO,rfl⟩:=hZ h;refine il (Zj (IC [Zy .u64 k] []) (kT fun vs=>ai .i64 vs fun n r=>ai .i64 r fun n r=>ak r fun b r=>ar r (Zp (Zu b,[])))) ?_;delta kT;dsimp only[IC,bB,cP,ak,jz,ai,ef,iX];simp only[A0];rw[ae aO]
theorem ahg:Wk 132 3 vC:=by
 refine gi Tryz.func132 fun _ _ _ h=> ?_;unfold vC at h;split at h;case h_2=>cases h
 rename_i k;obtain⟨aO,rfl⟩:=hZ h;refine il (Zj (nT [Zy .u64 k] []) (kL fun b=>aP (!b) (Zp (Xf 1 [],[])) (Zp (Xf 1 [Zy .u64 k],[])))) ?_;delta kL;dsimp only[nT,bB,cP,ak,jz,ai,ef,iX];simp only[A0,Kerb.Client.av,Kerb.Cache.av,Kerb.h_.av,aO];unfold Kerb.jj;cases h:Kerb.bW k
 ·simp[h,Yp,aP]
 ·simp[h,Yp,aP]
theorem ahp:Wk 159 3 lY:=by
 refine gi Tryz.func159 fun _ _ _ h=> ?_;unfold lY at h;split at h;case h_2=>cases h
 rename_i a b c;obtain⟨aO,rfl⟩:=hZ h;refine il (Zj (vD [Zm a] []) (kL fun fS=>aP fS (Zj (vE [Zm b] []) (kL fun b=>aP b (Zj (yv [Zm c] []) (kL fun b=>Zp (Zu b,[]))) (Zp (Zu Yk,[])))) (Zp (Zu Yk,[])))) ?_;delta kL;dsimp only[yv,vD,vE,bB,cP,ak,jz,ai,ef,iX];simp only[Zn,Qa2] at aO;simp only[A0];rw[ae (by simp;omega),ae (by simp;omega),ae (by simp;omega)];simp only[Kerb.ck.valid];cases Kerb.validName a<;>cases Kerb.dg b<;>rfl
theorem ahy:Wk 182 3 ID:=by
 refine gi Tryz.func182 fun _ _ _ h=> ?_;unfold ID at h;split at h;case h_2=>cases h
 rename_i a b els;obtain⟨aO,rfl⟩:=hZ h;refine Dp [0] (Zj (bH (fun st=>az st fun x r=>Wy x fun y=>ai .i64 r fun n r=>ai .i64 r fun cV r=>ai .i64 r fun eE r=>ar r (aP (Zv (eE<cV)) (Zj (bH (fun st=>az st fun x r=>Wy x fun y=>ai .i64 r fun n r=>ai .i64 r fun ig r=>ai .i64 r fun dk r=>ai .i64 r fun cK r=>ar r (aP (Zv (cK>n)) (aA (Zv (0<=cK)&&Zv (cK<(↑(Zx y):Int))&&Zf) (aA (Zg (Zw cK) (Zx y)&&Zf) (Yf .u64 (Zq y (Zw cK) Zb) fun g7=>aA (Zv (0<=Zz .i64 (cK-1))&&Zv (Zz .i64 (cK-1)<(↑(Zx y):Int))&&Zf) (aA (Zg (Zw (Zz .i64 (cK-1))) (Zx y)&&Zf) (Yf .u64 (Zq y (Zw (Zz .i64 (cK-1))) Zb) fun gY=>aP (Zv (g7<gY)) (aA (Zv (0<=Zz .i64 (cK-1))&&Zv (Zz .i64 (cK-1)<(↑(Zx y):Int))&&Zf) (aA (Zg (Zw (Zz .i64 (cK-1))) (Zx y)&&Zf) (Yf .u64 (Zq y (Zw (Zz .i64 (cK-1))) Zb) fun kC=>aA (Zv (0<=cK)&&Zv (cK<(↑(Zx y):Int))&&Zf) (aA (Zg (Zw cK) (Zx y)&&Zf) (Yf .u64 (Zq y (Zw cK) Zb) fun qH=>aA (Zv (0<=cK)&&Zv (cK<(↑(Zx y):Int))&&Zf) (aA (Zg (Zw cK) (Zx y)&&Zf) (Yf .u64 (Zq y (Zw cK) Zb) fun um=>aA (Zx [Zy .u64 kC]==nat_lit 1&&Zf&&Zf&&Zf&&Zg (Zw cK) (Zx y)) (aA (Zv (0<=Zz .i64 (cK-1))&&Zv (Zz .i64 (cK-1)<(↑(Zx (Yz y (Zw cK) (Zy .u64 kC))):Int))&&Zf) (aA (Zg (Zw (Zz .i64 (cK-1))) (Zx (Yz y (Zw cK) (Zy .u64 kC)))&&Zf) (Yf .u64 (Zq (Yz y (Zw cK) (Zy .u64 kC)) (Zw (Zz .i64 (cK-1))) Zb) fun ly=>aA (Zx [Zy .u64 qH]==nat_lit 1&&Zf&&Zf&&Zf&&Zg (Zw (Zz .i64 (cK-1))) (Zx (Yz y (Zw cK) (Zy .u64 kC)))) (Zp (Yg [Yq (Yz (Yz y (Zw cK) (Zy .u64 kC)) (Zw (Zz .i64 (cK-1))) (Zy .u64 qH)),Zy .i64 n,Zy .i64 ig,Zy .i64 dk,Zy .i64 (Zz .i64 (cK-1))])))))))))))) (Zp (Yy (Yd 2,[Yq y,Zy .i64 n,Zy .i64 ig,Zy .i64 dk,Zy .i64 cK])))))))) (Zp (Yy (Yd 2,[Yq y,Zy .i64 n,Zy .i64 ig,Zy .i64 dk,Zy .i64 cK]))))) [Yq y,Zy .i64 n,Zy .i64 cV,Zy .i64 eE,Zy .i64 eE]) fun(r:Ex×List AV)=>az (Yb r) fun x fA=>Wy x fun y=>ai .i64 fA fun n fP=>ai .i64 fP fun ig gj=>ai .i64 gj fun dk iV=>ai .i64 iV fun cK j7=>ar j7 (mZ r.1 (Zp (Yy (Xn,[Yq y,Zy .i64 n,Zy .i64 ig,Zy .i64 dk]))) fun j=>aP (Xz j 2) (Zp (Yg [Yq y,Zy .i64 n,Zy .i64 ig,Zy .i64 (Zz .i64 (dk+1))])) Wp)) (Zp (Yy (Yd 0,[Yq y,Zy .i64 n,Zy .i64 cV,Zy .i64 eE]))))) [Yq els,Zy .i64 a,Zy .i64 b,Zy .i64 (Zz .i64 (a+1))]) fun(r:Ex×List AV)=>az (Yb r) fun x fA=>Wy x fun y=>ai .i64 fA fun n fP=>ai .i64 fP fun n gj=>ai .i64 gj fun n iV=>ar iV (mZ r.1 (Zp (Yh [],[y])) fun j=>aP (Xz j 0) (Zp (Yh [],[y])) Wp)) ?_;dsimp only[ai];simp only[Zn,Qa2] at aO;obtain⟨⟨⟨⟨ib,hlen⟩,Jy⟩,xk⟩,hb⟩:=aO;obtain⟨d,rfl,hd⟩:=Kerb.nw ib;simp only[Wv] at hlen hb;unfold Kerb.AJ;rw[hd];obtain⟨a,rfl⟩:=Yw Jy;obtain⟨b,rfl⟩:=Yw (show 0<=b by omega);simp only[Yx];rw[show Zz .i64 ((a:Int)+1)=((a+1:Nat):Int) from Xq (by omega) (by omega)];unfold Go.Sort.insertionSort
 refine dq (fun s:Array Int×Nat=>[Yq (Xy s.1),Zy .i64 (a:Int),Zy .i64 (b:Int),Zy .i64 (s.2:Int)]) (fun s=>s.1.size=d.size/\s.2<=b+1/\Go.Sort.insOuter Go.Sort.ltInt a b s.2 s.1=Go.Sort.insOuter Go.Sort.ltInt a b (a+1) d) (fun s=>b-s.2) (fun r=>∃ n m k,r=(.exit 0,[Yq (Xy (Go.Sort.insOuter Go.Sort.ltInt a b (a+1) d)),Zy .i64 n,Zy .i64 m,Zy .i64 k])) (d,a+1) ⟨rfl,by dsimp only;omega,rfl⟩ rfl ?_ ?_
 ·rintro⟨e,i⟩ ⟨hs,hi,hr⟩;dsimp only at hs hi hr ⊢;simp only[↓cq,↓c4,↓dE,↓dF];by_cases h:i<b;case neg =>
   rw[aq (by simp;omega)];refine⟨_,rfl,(a:Int),(b:Int),(i:Int),?_⟩;rw[<-hr];unfold Go.Sort.insOuter;rw[Qa0 h]
  rw[ah (by simp;omega)];refine Ma (fun s:Array Int×Nat=>[Yq (Xy s.1),Zy .i64 (a:Int),Zy .i64 (b:Int),Zy .i64 (i:Int),Zy .i64 (s.2:Int)]) (fun s=>s.1.size=d.size/\s.2<=i/\Go.Sort.insInner Go.Sort.ltInt a s.2 s.1=Go.Sort.insInner Go.Sort.ltInt a i e) (fun s=>s.2) (fun r=>∃ k,r=(.exit 2,[Yq (Xy (Go.Sort.insInner Go.Sort.ltInt a i e)),Zy .i64 (a:Int),Zy .i64 (b:Int),Zy .i64 (i:Int),Zy .i64 k])/\(Go.Sort.insInner Go.Sort.ltInt a i e).size=d.size) (e,i) ⟨hs,Nat.le_refl _,rfl⟩ rfl ?_ ?_
  ·rintro⟨f,j⟩ ⟨gX,hj,n7⟩;dsimp only at gX hj n7 ⊢;simp only[↓cq,↓c4,↓dE,↓dF];have done:Go.Sort.insInner Go.Sort.ltInt a j f=f->∃ y,(Zp (Yy (Yd 2,[Yq (Xy f),Zy .i64 (a:Int),Zy .i64 (b:Int),Zy .i64 (i:Int),Zy .i64 (j:Int)])):Option (List AV ⊕ (Ex×List AV)))=Zp y/\GB (fun s:Array Int×Nat=>[Yq (Xy s.1),Zy .i64 (a:Int),Zy .i64 (b:Int),Zy .i64 (i:Int),Zy .i64 (s.2:Int)]) (fun s=>s.1.size=d.size/\s.2<=i/\Go.Sort.insInner Go.Sort.ltInt a s.2 s.1=Go.Sort.insInner Go.Sort.ltInt a i e) (fun s=>s.2) (fun r=>∃ k,r=(.exit 2,[Yq (Xy (Go.Sort.insInner Go.Sort.ltInt a i e)),Zy .i64 (a:Int),Zy .i64 (b:Int),Zy .i64 (i:Int),Zy .i64 k])/\(Go.Sort.insInner Go.Sort.ltInt a i e).size=d.size) (f,j) y:=fun q=>by
    refine⟨_,rfl,j,?_,?_⟩
    ·rw[<-n7,q]
    ·rw[<-n7,q];exact gX
   by_cases hja:j>a;case neg =>
    rw[aq (by simp;omega)];refine done ?_;cases j with
    | zero=>rfl
    | succ j=>simp only[Go.Sort.insInner];rw[Qa0 (by simp;omega)]
   obtain⟨m,rfl⟩:∃ m,j=m+1:=⟨j-1,by omega⟩;have h1:m+1<f.size:=by omega
   have h2:m<f.size:=by omega
   rw[ah (by simp;omega)];simp only[show Zz .i64 (((m+1:Nat):Int)-1)=(m:Int) from(Xq (by omega) (by omega)).trans (by omega)];rw[Kerb.rd h1,Kerb.rd h2];by_cases gO:f[m+1]! < f[m]!;case neg =>
    rw[aq (by simpa using gO)];refine done ?_;simp only[Go.Sort.insInner];rw[Qa0 (by simp[Go.Sort.ltInt,gO])]
   rw[ah (by simpa using gO),Kerb.sw h1 h2 (fun l=>Zp (Yg [Yq l,Zy .i64 (a:Int),Zy .i64 (b:Int),Zy .i64 (i:Int),Zy .i64 (m:Int)]))];refine⟨_,rfl,(Go.Sort.swp f (m+1) m,m),rfl,⟨by dsimp only;rw[Wj,gX],by dsimp only;omega,?_⟩,by dsimp only;omega⟩;dsimp only;rw[<-n7];conv=>rhs;simp only[Go.Sort.insInner]
   rw[Qa1 (by simp[Go.Sort.ltInt,gO];omega)]
  ·rintro _ ⟨k,rfl,gh⟩;simp only[↓cq,↓c4,↓dE,↓dF,↓lX];rw[ah (Yu _),show Zz .i64 ((i:Int)+1)=((i+1:Nat):Int) from Xq (by omega) (by omega)];refine⟨_,rfl,(Go.Sort.insInner Go.Sort.ltInt a i e,i+1),rfl,⟨gh,by dsimp only;omega,?_⟩,by dsimp only;omega⟩;dsimp only;rw[<-hr];conv=>rhs;unfold Go.Sort.insOuter
   rw[Qa1 h]
 ·rintro _ ⟨n,m,k,rfl⟩;simp only[↓cq,↓c4,↓dE,↓dF,↓lX];rw[ah (Yu _)]
theorem ahD:Wk 187 3 II:=by
 refine gi Tryz.func187 fun _ _ _ h=> ?_;unfold II at h;split at h;case h_2=>cases h
 rename_i a b els;obtain⟨aO,rfl⟩:=hZ h
 refine Dp [0] (Zj (bH (fun st=>az st fun x r=>Wy x fun y=>ai .i64 r fun n r=>ai .i64 r fun cV r=>ak r fun b r=>ai .i64 r fun eE r=>ai .i64 r fun ig r=>ar r (aP (Zv (ig<5)) (Zj (bH (fun st=>az st fun x r=>Wy x fun y=>ai .i64 r fun n r=>ai .i64 r fun dk r=>ai .i64 r fun cK r=>ai .i64 r fun g7 r=>ak r fun b r=>let t0:Option (List AV ⊕ Ex×List AV):=Zp (Yy (Yd 2,[Yq y,Zy .i64 n,Zy .i64 dk,Zy .i64 cK,Zy .i64 g7,Zu b]));ar r (aP (Zv (cK<dk)) (aA (Zv (0<=cK)&&Zv (cK<(↑(Zx y):Int))&&Zf) (aA (Zg (Zw cK) (Zx y)&&Zf) (Yf .u64 (Zq y (Zw cK) Zb) fun gY=>aA (Zv (0<=Zz .i64 (cK-1))&&Zv (Zz .i64 (cK-1)<(↑(Zx y):Int))&&Zf) (aA (Zg (Zw (Zz .i64 (cK-1))) (Zx y)&&Zf) (Yf .u64 (Zq y (Zw (Zz .i64 (cK-1))) Zb) fun kC=>aP (!Zv (gY<kC)) (Zp (Yg [Yq y,Zy .i64 n,Zy .i64 dk,Zy .i64 (Zz .i64 (cK+1)),Zy .i64 g7,Zu b])) t0))))) t0)) [Yq y,Zy .i64 n,Zy .i64 cV,Zy .i64 eE,Zy .i64 ig,Zu b]) fun(r:Ex×List AV)=>az (Yb r) fun x fA=>Wy x fun y=>ai .i64 fA fun n fP=>ai .i64 fP fun dk gj=>ai .i64 gj fun cK iV=>ai .i64 iV fun g7 j7=>let t1:List AV:=[Zy .i64 cK,Zy .i64 g7];ak j7 fun b kH=>ar kH (mZ r.1 (Zp (Yy (Xn,Yq y::Zy .i64 n::Zy .i64 dk::Zu b::t1))) fun j=>aP (Xz j 2) (aP (cK==dk) (Zp (Yy (Xn,Yq y::Zy .i64 n::Zy .i64 dk::Zu Zf::t1))) (aP (Zv (Zz .i64 (dk-n)<50)) (Zp (Yy (Xn,Yq y::Zy .i64 n::Zy .i64 dk::Zu Yk::t1))) (aA (Zv (0<=Zz .i64 (cK-1))&&Zv (Zz .i64 (cK-1)<(↑(Zx y):Int))&&Zf) (aA (Zg (Zw (Zz .i64 (cK-1))) (Zx y)&&Zf) (Yf .u64 (Zq y (Zw (Zz .i64 (cK-1))) Zb) fun gY=>let t2:Bool:=Zg (Zw (Zz .i64 (cK-1))) (Zx (Yz y (Zw cK) (Zy .u64 gY)));aA (Zv (0<=cK)&&Zv (cK<(↑(Zx y):Int))&&Zf) (aA (Zg (Zw cK) (Zx y)&&Zf) (Yf .u64 (Zq y (Zw cK) Zb) fun kC=>let t3:AV:=Yq (Yz (Yz y (Zw cK) (Zy .u64 gY)) (Zw (Zz .i64 (cK-1))) (Zy .u64 kC));aA (Zv (0<=cK)&&Zv (cK<(↑(Zx y):Int))&&Zf) (aA (Zg (Zw cK) (Zx y)&&Zf) (Yf .u64 (Zq y (Zw cK) Zb) fun qH=>aA (Zx [Zy .u64 gY]==nat_lit 1&&Zf&&Zf&&Zf&&Zg (Zw cK) (Zx y)) (aA (Zv (0<=Zz .i64 (cK-1))&&Zv (Zz .i64 (cK-1)<(↑(Zx (Yz y (Zw cK) (Zy .u64 gY))):Int))&&Zf) (aA (t2&&Zf) (Yf .u64 (Zq (Yz y (Zw cK) (Zy .u64 gY)) (Zw (Zz .i64 (cK-1))) Zb) fun um=>aA (Zx [Zy .u64 kC]==nat_lit 1&&Zf&&Zf&&Zf&&t2) (aP (Zv (Zz .i64 (cK-n)>=2)) (Zj (bH (fun st=>az st fun x r=>Wy x fun y=>ai .i64 r fun n r=>ai .i64 r fun ly r=>ai .i64 r fun nJ r=>ai .i64 r fun jf r=>ai .i64 r fun bS r=>let t4:Bool:=Zv (0<=bS)&&Zv (bS<(↑(Zx y):Int))&&Zf;let t5:Bool:=Zv (0<=Zz .i64 (bS-1))&&Zv (Zz .i64 (bS-1)<(↑(Zx y):Int))&&Zf;ak r fun b r=>let t6:Option (List AV ⊕ Ex×List AV):=Zp (Yy (Yd 4,[Yq y,Zy .i64 n,Zy .i64 ly,Zy .i64 nJ,Zy .i64 jf,Zy .i64 bS,Zu b]));ar r (aP (Zv (bS>=1)) (aA t4 (aA (Zg (Zw bS) (Zx y)&&Zf) (Yf .u64 (Zq y (Zw bS) Zb) fun jP=>aA t5 (aA (Zg (Zw (Zz .i64 (bS-1))) (Zx y)&&Zf) (Yf .u64 (Zq y (Zw (Zz .i64 (bS-1))) Zb) fun gI=>aP (!Zv (jP<gI)) t6 (aA t5 (aA (Zg (Zw (Zz .i64 (bS-1))) (Zx y)&&Zf) (Yf .u64 (Zq y (Zw (Zz .i64 (bS-1))) Zb) fun ep=>let t7:Bool:=Zg (Zw (Zz .i64 (bS-1))) (Zx (Yz y (Zw bS) (Zy .u64 ep)));aA t4 (aA (Zg (Zw bS) (Zx y)&&Zf) (Yf .u64 (Zq y (Zw bS) Zb) fun ch=>aA t4 (aA (Zg (Zw bS) (Zx y)&&Zf) (Yf .u64 (Zq y (Zw bS) Zb) fun sk=>aA (Zx [Zy .u64 ep]==nat_lit 1&&Zf&&Zf&&Zf&&Zg (Zw bS) (Zx y)) (aA (Zv (0<=Zz .i64 (bS-1))&&Zv (Zz .i64 (bS-1)<(↑(Zx (Yz y (Zw bS) (Zy .u64 ep))):Int))&&Zf) (aA (t7&&Zf) (Yf .u64 (Zq (Yz y (Zw bS) (Zy .u64 ep)) (Zw (Zz .i64 (bS-1))) Zb) fun sm=>aA (Zx [Zy .u64 ch]==nat_lit 1&&Zf&&Zf&&Zf&&t7) (Zp (Yg [Yq (Yz (Yz y (Zw bS) (Zy .u64 ep)) (Zw (Zz .i64 (bS-1))) (Zy .u64 ch)),Zy .i64 n,Zy .i64 ly,Zy .i64 nJ,Zy .i64 jf,Zy .i64 (Zz .i64 (bS-1)),Zu b]))))))))))))))))) t6)) [t3,Zy .i64 n,Zy .i64 dk,Zy .i64 cK,Zy .i64 g7,Zy .i64 (Zz .i64 (cK-1)),Zu b]) fun(r:Ex×List AV)=>az (Yb r) fun x nz=>Wy x fun y=>ai .i64 nz fun n nK=>ai .i64 nK fun ly nL=>ai .i64 nL fun nJ gU=>ai .i64 gU fun jf iT=>ai .i64 iT fun bS iU=>ak iU fun b jC=>ar jC (mZ r.1 (Zp (Yy (Xn,[Yq y,Zy .i64 n,Zy .i64 ly,Zu b,Zy .i64 nJ,Zy .i64 jf]))) fun j=>aP (Xz j 4) (aP (Zv (Zz .i64 (ly-nJ)>=2)) (Zj (bH (fun st=>az st fun x r=>Wy x fun y=>ai .i64 r fun n r=>ai .i64 r fun jP r=>ai .i64 r fun gI r=>ai .i64 r fun ep r=>ai .i64 r fun ch r=>let t8:Bool:=Zv (0<=ch)&&Zv (ch<(↑(Zx y):Int))&&Zf;let t9:Bool:=Zv (0<=Zz .i64 (ch-1))&&Zv (Zz .i64 (ch-1)<(↑(Zx y):Int))&&Zf;ak r fun b r=>let t10:Option (List AV ⊕ Ex×List AV):=Zp (Yy (Yd 6,[Yq y,Zy .i64 n,Zy .i64 jP,Zy .i64 gI,Zy .i64 ep,Zy .i64 ch,Zu b]));ar r (aP (Zv (ch<jP)) (aA t8 (aA (Zg (Zw ch) (Zx y)&&Zf) (Yf .u64 (Zq y (Zw ch) Zb) fun sk=>aA t9 (aA (Zg (Zw (Zz .i64 (ch-1))) (Zx y)&&Zf) (Yf .u64 (Zq y (Zw (Zz .i64 (ch-1))) Zb) fun sm=>aP (!Zv (sk<sm)) t10 (aA t9 (aA (Zg (Zw (Zz .i64 (ch-1))) (Zx y)&&Zf) (Yf .u64 (Zq y (Zw (Zz .i64 (ch-1))) Zb) fun jQ=>let t11:Bool:=Zg (Zw (Zz .i64 (ch-1))) (Zx (Yz y (Zw ch) (Zy .u64 jQ)));aA t8 (aA (Zg (Zw ch) (Zx y)&&Zf) (Yf .u64 (Zq y (Zw ch) Zb) fun wc=>aA t8 (aA (Zg (Zw ch) (Zx y)&&Zf) (Yf .u64 (Zq y (Zw ch) Zb) fun QP=>aA (Zx [Zy .u64 jQ]==nat_lit 1&&Zf&&Zf&&Zf&&Zg (Zw ch) (Zx y)) (aA (Zv (0<=Zz .i64 (ch-1))&&Zv (Zz .i64 (ch-1)<(↑(Zx (Yz y (Zw ch) (Zy .u64 jQ))):Int))&&Zf) (aA (t11&&Zf) (Yf .u64 (Zq (Yz y (Zw ch) (Zy .u64 jQ)) (Zw (Zz .i64 (ch-1))) Zb) fun QQ=>aA (Zx [Zy .u64 wc]==nat_lit 1&&Zf&&Zf&&Zf&&t11) (Zp (Yg [Yq (Yz (Yz y (Zw ch) (Zy .u64 jQ)) (Zw (Zz .i64 (ch-1))) (Zy .u64 wc)),Zy .i64 n,Zy .i64 jP,Zy .i64 gI,Zy .i64 ep,Zy .i64 (Zz .i64 (ch+1)),Zu b]))))))))))))))))) t10)) [Yq y,Zy .i64 n,Zy .i64 ly,Zy .i64 nJ,Zy .i64 jf,Zy .i64 (Zz .i64 (nJ+1)),Zu b]) fun(r:Ex×List AV)=>az (Yb r) fun x jT=>Wy x fun y=>ai .i64 jT fun n jU=>ai .i64 jU fun jP k_=>ai .i64 k_ fun gI mj=>ai .i64 mj fun ep ml=>ai .i64 ml fun ch mn=>ak mn fun b mq=>ar mq (mZ r.1 (Zp (Yy (Xn,[Yq y,Zy .i64 n,Zy .i64 jP,Zu b,Zy .i64 gI,Zy .i64 ep]))) fun j=>aP (Xz j 6) (Zp (Yg [Yq y,Zy .i64 n,Zy .i64 jP,Zu b,Zy .i64 gI,Zy .i64 (Zz .i64 (ep+1))])) Wp)) (Zp (Yg [Yq y,Zy .i64 n,Zy .i64 ly,Zu b,Zy .i64 nJ,Zy .i64 (Zz .i64 (jf+1))]))) Wp)) (aP (Zv (Zz .i64 (dk-cK)>=2)) (Zj (bH (fun st=>az st fun x r=>Wy x fun y=>ai .i64 r fun n r=>ai .i64 r fun ly r=>ai .i64 r fun nJ r=>ai .i64 r fun jf r=>ai .i64 r fun bS r=>let t12:Bool:=Zv (0<=bS)&&Zv (bS<(↑(Zx y):Int))&&Zf;let t13:Bool:=Zv (0<=Zz .i64 (bS-1))&&Zv (Zz .i64 (bS-1)<(↑(Zx y):Int))&&Zf;ak r fun b r=>let t14:Option (List AV ⊕ Ex×List AV):=Zp (Yy (Yd 6,[Yq y,Zy .i64 n,Zy .i64 ly,Zy .i64 nJ,Zy .i64 jf,Zy .i64 bS,Zu b]));ar r (aP (Zv (bS<ly)) (aA t12 (aA (Zg (Zw bS) (Zx y)&&Zf) (Yf .u64 (Zq y (Zw bS) Zb) fun jP=>aA t13 (aA (Zg (Zw (Zz .i64 (bS-1))) (Zx y)&&Zf) (Yf .u64 (Zq y (Zw (Zz .i64 (bS-1))) Zb) fun gI=>aP (!Zv (jP<gI)) t14 (aA t13 (aA (Zg (Zw (Zz .i64 (bS-1))) (Zx y)&&Zf) (Yf .u64 (Zq y (Zw (Zz .i64 (bS-1))) Zb) fun ep=>let t15:Bool:=Zg (Zw (Zz .i64 (bS-1))) (Zx (Yz y (Zw bS) (Zy .u64 ep)));aA t12 (aA (Zg (Zw bS) (Zx y)&&Zf) (Yf .u64 (Zq y (Zw bS) Zb) fun ch=>aA t12 (aA (Zg (Zw bS) (Zx y)&&Zf) (Yf .u64 (Zq y (Zw bS) Zb) fun sk=>aA (Zx [Zy .u64 ep]==nat_lit 1&&Zf&&Zf&&Zf&&Zg (Zw bS) (Zx y)) (aA (Zv (0<=Zz .i64 (bS-1))&&Zv (Zz .i64 (bS-1)<(↑(Zx (Yz y (Zw bS) (Zy .u64 ep))):Int))&&Zf) (aA (t15&&Zf) (Yf .u64 (Zq (Yz y (Zw bS) (Zy .u64 ep)) (Zw (Zz .i64 (bS-1))) Zb) fun sm=>aA (Zx [Zy .u64 ch]==nat_lit 1&&Zf&&Zf&&Zf&&t15) (Zp (Yg [Yq (Yz (Yz y (Zw bS) (Zy .u64 ep)) (Zw (Zz .i64 (bS-1))) (Zy .u64 ch)),Zy .i64 n,Zy .i64 ly,Zy .i64 nJ,Zy .i64 jf,Zy .i64 (Zz .i64 (bS+1)),Zu b]))))))))))))))))) t14)) [t3,Zy .i64 n,Zy .i64 dk,Zy .i64 cK,Zy .i64 g7,Zy .i64 (Zz .i64 (cK+1)),Zu b]) fun(r:Ex×List AV)=>az (Yb r) fun x nz=>Wy x fun y=>ai .i64 nz fun n nK=>ai .i64 nK fun ly nL=>ai .i64 nL fun nJ gU=>ai .i64 gU fun jf iT=>ai .i64 iT fun bS iU=>ak iU fun b jC=>ar jC (mZ r.1 (Zp (Yy (Xn,[Yq y,Zy .i64 n,Zy .i64 ly,Zu b,Zy .i64 nJ,Zy .i64 jf]))) fun j=>aP (Xz j 6) (Zp (Yg [Yq y,Zy .i64 n,Zy .i64 ly,Zu b,Zy .i64 nJ,Zy .i64 (Zz .i64 (jf+1))])) Wp)) (Zp (Yg [t3,Zy .i64 n,Zy .i64 dk,Zu b,Zy .i64 cK,Zy .i64 (Zz .i64 (g7+1))])))))))))))))))) Wp)) (Zp (Yy (Yd 0,[Yq y,Zy .i64 n,Zy .i64 cV,Zu b,Zy .i64 eE,Zy .i64 ig]))))) [Yq els,Zy .i64 a,Zy .i64 b,Zu Yk,Zy .i64 (Zz .i64 (a+1)),Zy .i64 0]) fun(r:Ex×List AV)=>az (Yb r) fun x fA=>Wy x fun y=>ai .i64 fA fun n fP=>ai .i64 fP fun n gj=>ak gj fun b iV=>ai .i64 iV fun n j7=>ai .i64 j7 fun n kH=>ar kH (mZ r.1 (Zp (Zu b,[y])) fun j=>aP (Xz j 0) (Zp (Zu Yk,[y])) Wp)) ?_
 try dsimp only[bB,cP,ak,jz,ai,ef,iX]
 simp only[Zn,Qa2] at aO;obtain⟨⟨⟨⟨⟨ib,hlen⟩,Jy⟩,xk⟩,hb⟩,gO⟩:=aO;obtain⟨d,rfl,hd⟩:=Kerb.nw ib;simp only[Wv] at hlen hb;obtain⟨a,rfl⟩:=Yw (show 0<=a by omega);obtain⟨b,rfl⟩:=Yw (show 0<=b by omega);simp only[Kerb.yf,Kerb.fq,Yx];unfold Go.Sort.partialInsertionSort;rw[show Zz .i64 ((a:Int)+1)=((a+1:Nat):Int) from(Xq (by omega) (by omega)).trans (by omega)];refine dq (fun s:Array Int×Nat×Nat=>[Yq (Xy s.1),Zy .i64 (a:Int),Zy .i64 (b:Int),Zu Yk,Zy .i64 (s.2.1:Int),Zy .i64 (s.2.2:Int)]) (fun s=>s.1.size=d.size/\a+1<=s.2.1/\s.2.1<=b/\s.2.2<=5/\Go.Sort.partialIns Go.Sort.ltInt a b (5-s.2.2) s.2.1 s.1=Go.Sort.partialIns Go.Sort.ltInt a b 5 (a+1) d) (fun s=>5-s.2.2) (fun r=>∃ i n,(r.1 = .ret\/r.1 = .exit 0/\(Go.Sort.partialIns Go.Sort.ltInt a b 5 (a+1) d).2=Yk)/\r.2=[Yq (Xy (Go.Sort.partialIns Go.Sort.ltInt a b 5 (a+1) d).1),Zy .i64 (a:Int),Zy .i64 (b:Int),Zu (Go.Sort.partialIns Go.Sort.ltInt a b 5 (a+1) d).2,Zy .i64 i,Zy .i64 n]) (d,a+1,0) ⟨rfl,by dsimp only;omega,by dsimp only;omega,by dsimp only;omega,rfl⟩ rfl ?_ ?_
 ·rintro⟨e,i,s⟩ ⟨hs,hi,hib,hs5,hr⟩;dsimp only at hs hi hib hs5 hr ⊢;simp only[↓cq,↓c4,↓dE,↓dX,↓dF];by_cases h5:s<5;case neg =>
   rw[aq (by simp;omega)];rw[show 5-s=0 by omega] at hr;refine⟨_,rfl,(i:Int),(s:Int),.inr ⟨rfl,?_⟩,?_⟩
   ·rw[<-hr];rfl
   ·rw[<-hr];rfl
  rw[ah (by simp;omega)];rw[show 5-s=(5-(s+1))+1 by omega,Go.Sort.partialIns_succ] at hr;rw[Kerb.Gj (by omega) (by omega) _ i rfl (by omega) hib];have hl:=Kerb.DB (lt:=Go.Sort.ltInt) (d:=e) (b:=b) _ i rfl hib;generalize Go.Sort.scanSorted Go.Sort.ltInt e b i=j at hl hr ⊢;simp only[↓gx];simp only[↓cq,↓c4,↓dE,↓dX,↓dF,↓lX];rw[ah (Yu _)];by_cases Zi:j=b
  ·rw[Qa1 Zi] at hr;rw[ah (by simp;omega)];refine⟨_,rfl,(j:Int),(s:Int),.inl rfl,?_⟩;rw[<-hr]
  rw[Qa0 Zi] at hr;rw[aq (by simp;omega),show Zz .i64 ((b:Int)-(a:Int))=((b-a:Nat):Int) from(Xq (by omega) (by omega)).trans (by omega)];by_cases h50:b-a<50
  ·rw[Qa1 h50] at hr;rw[ah (by simp;omega)];refine⟨_,rfl,(j:Int),(s:Int),.inl rfl,?_⟩;rw[<-hr]
  rw[Qa0 h50] at hr;rw[aq (by simp;omega)];have g1:j<e.size:=by omega
  have g2:j-1<e.size:=by omega
  simp only[show Zz .i64 ((j:Int)-1)=((j-1:Nat):Int) from(Xq (by omega) (by omega)).trans (by omega),show Zz .i64 ((j:Int)-(a:Int))=((j-a:Nat):Int) from(Xq (by omega) (by omega)).trans (by omega)];rw[Kerb.rd g2,Kerb.rd g1,Kerb.wr g1 (by simp[Wv];omega),Kerb.dA,Kerb.wr (by rw[Wu];exact g2) (by simp[Wv];omega),Kerb.dA,show(Xu (Xu e j e[j-1]!) (j-1) e[j]!)=Go.Sort.swp e j (j-1) from rfl];have hz:(Go.Sort.swp e j (j-1)).size=d.size:=by rw[Wj,hs]
  generalize Go.Sort.swp e j (j-1)=f at hz hr ⊢;have fin:∀ g:Array Int,g.size=d.size->Go.Sort.fixUp Go.Sort.ltInt b j (Go.Sort.fixDown Go.Sort.ltInt a j f)=g->∃ y,Zp (Yg [Yq (Xy g),Zy .i64 (a:Int),Zy .i64 (b:Int),Zu Yk,Zy .i64 (j:Int),Zy .i64 (Zz .i64 ((s:Int)+1))])=Zp y/\GB (ρ:=Ex×List AV) (fun s:Array Int×Nat×Nat=>[Yq (Xy s.1),Zy .i64 (a:Int),Zy .i64 (b:Int),Zu Yk,Zy .i64 (s.2.1:Int),Zy .i64 (s.2.2:Int)]) (fun s=>s.1.size=d.size/\a+1<=s.2.1/\s.2.1<=b/\s.2.2<=5/\Go.Sort.partialIns Go.Sort.ltInt a b (5-s.2.2) s.2.1 s.1=Go.Sort.partialIns Go.Sort.ltInt a b 5 (a+1) d) (fun s=>5-s.2.2) (fun r=>∃ i n,(r.1 = .ret\/r.1 = .exit 0/\(Go.Sort.partialIns Go.Sort.ltInt a b 5 (a+1) d).2=Yk)/\r.2=[Yq (Xy (Go.Sort.partialIns Go.Sort.ltInt a b 5 (a+1) d).1),Zy .i64 (a:Int),Zy .i64 (b:Int),Zu (Go.Sort.partialIns Go.Sort.ltInt a b 5 (a+1) d).2,Zy .i64 i,Zy .i64 n]) (e,i,s) y:=fun g hg hf=>by
   rw[show Zz .i64 ((s:Int)+1)=((s+1:Nat):Int) from(Xq (by omega) (by omega)).trans (by omega)];refine⟨_,rfl,(g,j,s+1),rfl,⟨hg,by dsimp only;omega,by dsimp only;omega,by dsimp only;omega,?_⟩,by dsimp only;omega⟩;dsimp only;rw[<-hr,hf]
  have hbj:∀ g:Array Int,Zz .i64 ((b:Int)-(j:Int))=((b-j:Nat):Int):=fun _=>(Xq (by omega) (by omega)).trans (by omega);simp only[hbj f,show Zz .i64 ((j:Int)+1)=((j+1:Nat):Int) from(Xq (by omega) (by omega)).trans (by omega)];have up:∀ g:Array Int,g.size=d.size->Go.Sort.fixDown Go.Sort.ltInt a j f=g->b-j>=2->Go.Sort.fixUp Go.Sort.ltInt b j (Go.Sort.fixDown Go.Sort.ltInt a j f)=Go.Sort.shiftUp Go.Sort.ltInt b (j+1) g/\(Go.Sort.shiftUp Go.Sort.ltInt b (j+1) g).size=d.size:=fun g hg hf h=>⟨by rw[hf];unfold Go.Sort.fixUp;rw[Qa1 h],by rw[Kerb.yt _ _ _ rfl,hg]⟩;by_cases SJ:j-a>=2
  ·rw[ah (by simp;omega)];obtain⟨m,hm⟩:=Kerb.Iu (A:=(a:Int)) (B:=(b:Int)) (I:=(j:Int)) (s:=(s:Int)) (bb:=Yk) (e:=4) (j-1) f (by omega) (by omega);rw[hm];have SN:(Go.Sort.shiftDown Go.Sort.ltInt (j-1) f).size=d.size:=by rw[Kerb.vw,hz]
   have LO:Go.Sort.fixDown Go.Sort.ltInt a j f=Go.Sort.shiftDown Go.Sort.ltInt (j-1) f:=by unfold Go.Sort.fixDown;rw[Qa1 SJ]
   generalize Go.Sort.shiftDown Go.Sort.ltInt (j-1) f=g at SN LO ⊢;simp only[↓gx];simp only[↓cq,↓c4,↓dE,↓dX,↓dF,↓lX];rw[ah (Yu _)];simp only[hbj g,show Zz .i64 ((j:Int)+1)=((j+1:Nat):Int) from(Xq (by omega) (by omega)).trans (by omega)];by_cases oB:b-j>=2
   ·rw[ah (by simp;omega)];obtain⟨m,hm⟩:=Kerb.EB (A:=(a:Int)) (I:=(j:Int)) (s:=(s:Int)) (bb:=Yk) (b:=b) (e:=6) _ (j+1) g rfl (by omega) (by omega) (by omega) (by omega);rw[hm];simp only[↓gx];simp only[↓cq,↓c4,↓dE,↓dX,↓dF,↓lX];rw[ah (Yu _)];exact fin _ (up g SN LO oB).2 (up g SN LO oB).1
   ·rw[aq (by simp;omega)];exact fin _ SN (by rw[LO];unfold Go.Sort.fixUp;rw[Qa0 oB])
  ·rw[aq (by simp;omega)];have LO:Go.Sort.fixDown Go.Sort.ltInt a j f=f:=by unfold Go.Sort.fixDown;rw[Qa0 SJ]
   by_cases oB:b-j>=2
   ·rw[ah (by simp;omega)];obtain⟨m,hm⟩:=Kerb.EB (A:=(a:Int)) (I:=(j:Int)) (s:=(s:Int)) (bb:=Yk) (b:=b) (e:=6) _ (j+1) f rfl (by omega) (by omega) (by omega) (by omega);rw[hm];simp only[↓gx];simp only[↓cq,↓c4,↓dE,↓dX,↓dF,↓lX];rw[ah (Yu _)];exact fin _ (up f hz LO oB).2 (up f hz LO oB).1
   ·rw[aq (by simp;omega)];exact fin _ hz (by rw[LO];unfold Go.Sort.fixUp;rw[Qa0 oB])
 ·rintro⟨x,l⟩ ⟨i,n,h | ⟨h,hf⟩,rfl⟩
  ·dsimp only at h;subst h;simp only[↓cq,↓c4,↓dE,↓dX,↓dF,↓TX]
  ·dsimp only at h;subst h;simp only[↓cq,↓c4,↓dE,↓dX,↓dF,↓lX];rw[ah (Yu _),hf]
theorem ahF:Wk 189 3 EJ:=by
 refine gi Tryz.func189 fun _ _ _ h=> ?_;unfold EJ at h;split at h;case h_2=>cases h
 rename_i a b p els;obtain⟨aO,rfl⟩:=hZ h
 refine Dp [0] (aA (Zv (0<=p)&&Zv (p<(↑(Zx els):Int))&&Zf) (aA (Zg (Zw p) (Zx els)&&Zf) (Yf .u64 (Zq els (Zw p) Zb) fun n=>aA (Zv (0<=a)&&Zv (a<(↑(Zx els):Int))&&Zf) (aA (Zg (Zw a) (Zx els)&&Zf) (Yf .u64 (Zq els (Zw a) Zb) fun cV=>aA (Zv (0<=a)&&Zv (a<(↑(Zx els):Int))&&Zf) (aA (Zg (Zw a) (Zx els)&&Zf) (Yf .u64 (Zq els (Zw a) Zb) fun eE=>aA (Zx [Zy .u64 n]==nat_lit 1&&Zf&&Zf&&Zf&&Zg (Zw a) (Zx els)) (aA (Zv (0<=p)&&Zv (p<(↑(Zx (Yz els (Zw a) (Zy .u64 n))):Int))&&Zf) (aA (Zg (Zw p) (Zx (Yz els (Zw a) (Zy .u64 n)))&&Zf) (Yf .u64 (Zq (Yz els (Zw a) (Zy .u64 n)) (Zw p) Zb) fun ig=>aA (Zx [Zy .u64 cV]==nat_lit 1&&Zf&&Zf&&Zf&&Zg (Zw p) (Zx (Yz els (Zw a) (Zy .u64 n)))) (Zj (bH (fun st=>az st fun x r=>Wy x fun y=>ai .i64 r fun n r=>ai .i64 r fun dk r=>ai .i64 r fun cK r=>ar r (Zj (bH (fun st=>az st fun x r=>Wy x fun y=>ai .i64 r fun n r=>ai .i64 r fun g7 r=>ai .i64 r fun gY r=>ar r (aP (Zv (g7<=gY)) (aA (Zv (0<=n)&&Zv (n<(↑(Zx y):Int))&&Zf) (aA (Zg (Zw n) (Zx y)&&Zf) (Yf .u64 (Zq y (Zw n) Zb) fun kC=>aA (Zv (0<=g7)&&Zv (g7<(↑(Zx y):Int))&&Zf) (aA (Zg (Zw g7) (Zx y)&&Zf) (Yf .u64 (Zq y (Zw g7) Zb) fun qH=>aP (!Zv (kC<qH)) (Zp (Yg [Yq y,Zy .i64 n,Zy .i64 (Zz .i64 (g7+1)),Zy .i64 gY])) (Zp (Yy (Yd 2,[Yq y,Zy .i64 n,Zy .i64 g7,Zy .i64 gY])))))))) (Zp (Yy (Yd 2,[Yq y,Zy .i64 n,Zy .i64 g7,Zy .i64 gY]))))) [Yq y,Zy .i64 n,Zy .i64 dk,Zy .i64 cK]) fun(r:Ex×List AV)=>az (Yb r) fun x fA=>Wy x fun y=>ai .i64 fA fun n fP=>ai .i64 fP fun g7 gj=>ai .i64 gj fun gY iV=>ar iV (mZ r.1 (Zp (Yy (Xn,[Yq y,Zy .i64 n,Zy .i64 g7,Zy .i64 gY]))) fun j=>aP (Xz j 2) (Zj (bH (fun st=>az st fun x r=>Wy x fun y=>ai .i64 r fun n r=>ai .i64 r fun kC r=>ai .i64 r fun qH r=>ar r (aP (Zv (kC<=qH)) (aA (Zv (0<=n)&&Zv (n<(↑(Zx y):Int))&&Zf) (aA (Zg (Zw n) (Zx y)&&Zf) (Yf .u64 (Zq y (Zw n) Zb) fun um=>aA (Zv (0<=qH)&&Zv (qH<(↑(Zx y):Int))&&Zf) (aA (Zg (Zw qH) (Zx y)&&Zf) (Yf .u64 (Zq y (Zw qH) Zb) fun ly=>aP (Zv (um<ly)) (Zp (Yg [Yq y,Zy .i64 n,Zy .i64 kC,Zy .i64 (Zz .i64 (qH-1))])) (Zp (Yy (Yd 4,[Yq y,Zy .i64 n,Zy .i64 kC,Zy .i64 qH])))))))) (Zp (Yy (Yd 4,[Yq y,Zy .i64 n,Zy .i64 kC,Zy .i64 qH]))))) [Yq y,Zy .i64 n,Zy .i64 g7,Zy .i64 gY]) fun(r:Ex×List AV)=>az (Yb r) fun x j7=>Wy x fun y=>ai .i64 j7 fun n kH=>ai .i64 kH fun kC nz=>ai .i64 nz fun qH nK=>ar nK (mZ r.1 (Zp (Yy (Xn,[Yq y,Zy .i64 n,Zy .i64 kC,Zy .i64 qH]))) fun j=>aP (Xz j 4) (aP (Zv (kC>qH)) (Zp (Yy (Yd 0,[Yq y,Zy .i64 n,Zy .i64 kC,Zy .i64 qH]))) (aA (Zv (0<=qH)&&Zv (qH<(↑(Zx y):Int))&&Zf) (aA (Zg (Zw qH) (Zx y)&&Zf) (Yf .u64 (Zq y (Zw qH) Zb) fun um=>aA (Zv (0<=kC)&&Zv (kC<(↑(Zx y):Int))&&Zf) (aA (Zg (Zw kC) (Zx y)&&Zf) (Yf .u64 (Zq y (Zw kC) Zb) fun ly=>aA (Zv (0<=kC)&&Zv (kC<(↑(Zx y):Int))&&Zf) (aA (Zg (Zw kC) (Zx y)&&Zf) (Yf .u64 (Zq y (Zw kC) Zb) fun nJ=>aA (Zx [Zy .u64 um]==nat_lit 1&&Zf&&Zf&&Zf&&Zg (Zw kC) (Zx y)) (aA (Zv (0<=qH)&&Zv (qH<(↑(Zx (Yz y (Zw kC) (Zy .u64 um))):Int))&&Zf) (aA (Zg (Zw qH) (Zx (Yz y (Zw kC) (Zy .u64 um)))&&Zf) (Yf .u64 (Zq (Yz y (Zw kC) (Zy .u64 um)) (Zw qH) Zb) fun jf=>aA (Zx [Zy .u64 ly]==nat_lit 1&&Zf&&Zf&&Zf&&Zg (Zw qH) (Zx (Yz y (Zw kC) (Zy .u64 um)))) (Zp (Yg [Yq (Yz (Yz y (Zw kC) (Zy .u64 um)) (Zw qH) (Zy .u64 ly)),Zy .i64 n,Zy .i64 (Zz .i64 (kC+1)),Zy .i64 (Zz .i64 (qH-1))]))))))))))))) Wp)) Wp))) [Yq (Yz (Yz els (Zw a) (Zy .u64 n)) (Zw p) (Zy .u64 cV)),Zy .i64 a,Zy .i64 (Zz .i64 (a+1)),Zy .i64 (Zz .i64 (b-1))]) fun(r:Ex×List AV)=>az (Yb r) fun x fA=>Wy x fun y=>ai .i64 fA fun n fP=>ai .i64 fP fun n gj=>ai .i64 gj fun dk iV=>ar iV (mZ r.1 Wp fun j=>aP (Xz j 0) (Zp (Zy .i64 n,[y])) Wp)))))))))))) ?_
 dsimp only[ai];simp only[Zn,Qa2] at aO;obtain⟨⟨⟨⟨⟨⟨ib,hlen⟩,Jy⟩,xk⟩,hb⟩,WG⟩,hpb⟩:=aO;obtain⟨d,rfl,hd⟩:=Kerb.nw ib;simp only[Wv] at hlen hb;obtain⟨a,rfl⟩:=Yw (show 0<=a by omega);obtain⟨b,rfl⟩:=Yw (show 0<=b by omega);obtain⟨p,rfl⟩:=Yw (show 0<=p by omega);have h1:a<d.size:=by omega
 have h2:p<d.size:=by omega
 have hs:(Go.Sort.swp d a p).size=d.size:=Wj _ _ _;rw[Kerb.xd];unfold Go.Sort.partitionEqual;rw[Kerb.rd h2,Kerb.rd h1,Kerb.wr h1 (by simp[Wv];omega),Kerb.dA,Kerb.wr (by rw[Wu];exact h2) (by simp[Wv];omega),Kerb.dA,show(Xu (Xu d a d[p]!) p d[a]!)=Go.Sort.swp d a p from rfl];rw[show Zz .i64 ((a:Int)+1)=((a+1:Nat):Int) from(Xq (by omega) (by omega)).trans (by omega),show Zz .i64 ((b:Int)-1)=((b-1:Nat):Int) from(Xq (by omega) (by omega)).trans (by omega)];generalize Go.Sort.swp d a p=d2 at hs ⊢;refine dq (fun s:Array Int×Nat×Nat=>[Yq (Xy s.1),Zy .i64 (a:Int),Zy .i64 (s.2.1:Int),Zy .i64 (s.2.2:Int)]) (fun s=>s.1.size=d.size/\1<=s.2.1/\s.2.1<=s.2.2+2/\s.2.2<d.size/\Go.Sort.partEqLoop Go.Sort.ltInt a s.2.1 s.2.2 s.1=Go.Sort.partEqLoop Go.Sort.ltInt a (a+1) (b-1) d2) (fun s=>s.2.2+1-s.2.1) (fun r=>∃ n,r=(.exit 0,[Yq (Xy (Go.Sort.partEqLoop Go.Sort.ltInt a (a+1) (b-1) d2).2),Zy .i64 (a:Int),Zy .i64 ((Go.Sort.partEqLoop Go.Sort.ltInt a (a+1) (b-1) d2).1:Int),Zy .i64 n])) (d2,a+1,b-1) ⟨hs,by dsimp only;omega,by dsimp only;omega,by dsimp only;omega,rfl⟩ rfl ?_ ?_
 ·rintro⟨e,i,j⟩ ⟨hs,hi,Tm,hj,hr⟩;dsimp only at hs hi Tm hj hr ⊢;simp only[↓cq,↓c4,↓dE,↓dF];rw[Kerb.adB (by omega) (by omega) (by omega) (by omega)];dsimp only;have u:=Go.Sort.scanUp_spec (fun x => !Go.Sort.ltInt e[a]! x) e j _ i rfl;have v:=Go.Sort.scanDown_spec (fun x=>Go.Sort.ltInt e[a]! x) e (Go.Sort.scanUp (fun x => !Go.Sort.ltInt e[a]! x) e j i) j;rw[Go.Sort.partEqLoop_eq] at hr;have hup:j+1<i->Go.Sort.scanUp (fun x => !Go.Sort.ltInt e[a]! x) e j i=i:=fun h=>by
   unfold Go.Sort.scanUp;rw[Qa0 (by simp;omega)]
  generalize Go.Sort.scanUp (fun x => !Go.Sort.ltInt e[a]! x) e j i=i3 at u v hr hup ⊢;simp only[↓cq,↓c4,↓dE,↓dF,↓lX];rw[ah (Yu _)];have u1:=u.1;have u2:=u.2.1;rw[Kerb.S7 (by omega) (by omega) (by omega) (by omega)];dsimp only;generalize Go.Sort.scanDown (fun x=>Go.Sort.ltInt e[a]! x) e i3 j=j3 at v hr ⊢;simp only[↓cq,↓c4,↓dE,↓dF,↓lX];rw[ah (Yu _)];have v1:=v.1;have v2:=v.2.1;by_cases hc:i3>j3
  ·rw[Qa1 hc] at hr;rw[ah (by simp;omega)];refine⟨_,rfl,(j3:Int),?_⟩;rw[<-hr]
  ·rw[Qa0 hc] at hr;have h3:i3<e.size:=by omega
   have h4:j3<e.size:=by omega
   rw[aq (by simp;omega)];rw[Kerb.rd h4,Kerb.rd h3,Kerb.wr h3 (by simp[Wv];omega),Kerb.dA,Kerb.wr (by rw[Wu];exact h4) (by simp[Wv];omega),Kerb.dA,show(Xu (Xu e i3 e[j3]!) j3 e[i3]!)=Go.Sort.swp e i3 j3 from rfl];rw[show Zz .i64 ((i3:Int)+1)=((i3+1:Nat):Int) from(Xq (by omega) (by omega)).trans (by omega),show Zz .i64 ((j3:Int)-1)=((j3-1:Nat):Int) from(Xq (by omega) (by omega)).trans (by omega)];exact⟨_,rfl,(Go.Sort.swp e i3 j3,i3+1,j3-1),rfl,⟨by dsimp only;rw[Wj,hs],by dsimp only;omega,by dsimp only;omega,by dsimp only;omega,hr⟩,by dsimp only;omega⟩
 ·rintro _ ⟨n,rfl⟩;simp only[↓cq,↓c4,↓dE,↓dF,↓lX];rw[ah (Yu _)]
end Go.Proofs.YtpelamlfpffacaaGreat
