/- What the functions of this seat compute. -/
import Derived.Test.YteafbgcimcpfiaaGreatWalk3
set_option linter.all false
open Go.Abs.AV renaming int→Zz,str→Zw,bs→Zv,bool→Zu,sl→Zq,agg→Yz,aQ→Yy,u8→Yv,ptr→Ym,ax→Xu,eu→Xj,undef→Xf,g7→Xm
open Option renaming bind→Zy,some→Zd
open List renaming length→Zx,getD→Xx,append→Xq
open Decidable renaming decide→Zj
open Prod renaming snd→Zk,fst→Zf
open Go.IntKind renaming wrap→Zp,i64→Zb
open Bool renaming and_eq_true→Zg,not_true→Zm,and_self→Yq,false→Yj,true→Yh,not_false→Xb
open Kerb renaming af→Zn,within→Yx,ah→Yw,ai→Yu,fD→Yb,bc→Xz,bg→Xy,cF→Xw,aS→Xv,cV→Xk,learn→Xd,bytes→Xg,rV→Xh,kR→Wz,gN→Wy,dw→Wx,aV→Ww
open Nat renaming le_trans→Zh
open Kerb.Rd renaming val→Yk,pos→Yf,bad→Yg
open Int renaming toNat→Yp,tmod→Xp,toNat_natCast→Wv
open Kerb.Client renaming av→Yd
open Kerb.Cache renaming av→Yn
open UInt8 renaming toNat→Xn
namespace Go.Proofs.YteafbgcimcpfiaaGreat
open Go Go.Abs Go.Proofs
set_option maxRecDepth 100000
theorem aau:Wk 190 8 Gd:=by
 refine cw Tryz.func190 rfl fun xs bl r h=> ?_;unfold Gd at h;split at h;case h_2=>cases h
 rename_i li mu kv rl tk au tm lf sv ins;obtain⟨aB,rfl⟩:=dz h;refine cu (aD mu (Zd (Yy [Zv [],Zz .i64 100],[])) (Zy (z9 [Yz [Zu li,Zu mu,Zz .i64 kv,Zw rl,Zv tk,Zv au]] []) (kT fun vs=>bq vs fun b r=>ak .i64 r fun n r=>aw r (aD (!n==0) (Zd (Yy [Zv [],Zz .i64 n],[])) (Zy (sr [Zw sv] []) (kL fun cG=>aD (!cG) (Zd (Yy [Zv [],Zz .i64 103],[])) (Zy (pK [Zw ins] []) (kL fun eQ=>aD (!eQ) (Zd (Yy [Zv [],Zz .i64 103],[])) (aD (!Yx tm 4294967295) (Zd (Yy [Zv [],Zz .i64 104],[])) (aD (!Yx lf 255) (Zd (Yy [Zv [],Zz .i64 104],[])) (Zy (kC [Zv b,Zz .i64 tm,Zu li] []) (kO fun l=>Zy (pI [Zv l,Zz .i64 lf] []) (kO fun l=>Zy (oE [Zv l,Zw sv] []) (kO fun l=>Zy (oE [Zv l,Zw ins] []) (kO fun l=>Zd (Yy [Zv l,Zz .i64 0],[])))))))))))))))) (by kernel_rfl) ?_;delta kT kO kL;dsimp only[z9,pI,kC,oE,sr,pK,aK,bq,aE,dl,ak,bW,dx];simp only[Zg,Qa2] at aB;obtain⟨⟨p1,p2⟩,p3⟩:=aB;simp only[A0,Yd,Yn,Kerb.eE.av,p1,p2,p3,Qb2];have hL:∀ q,Kerb.cI ⟨li,mu,kv,rl,tk,au⟩=q->Kerb.dN ⟨⟨li,mu,kv,rl,tk,au⟩,tm,lf,sv,ins⟩=if mu then⟨[],100⟩ else if q.err≠0 then⟨[],q.err⟩ else if !(Kerb.validName sv&&Kerb.bO ins) then⟨[],103⟩ else if !(Yx tm 4294967295&&Yx lf 255) then⟨[],104⟩ else⟨Xy (Xy (q.val++Xv tm 4 li++Xv lf 1 Yj) sv) ins,0⟩:=by rintro _ rfl;rfl
 have hl:=Kerb.uX ⟨li,mu,kv,rl,tk,au⟩;obtain⟨q,hq⟩:∃ q,Kerb.cI ⟨li,mu,kv,rl,tk,au⟩=q:=⟨_,rfl⟩;rw[hL q hq,hq];rw[hq] at hl;cases mu;case true=>rfl
 rw[aA,Qa0 (by simp)];by_cases h1:q.err=0;case neg=>rw[ag (by simpa using h1),Qa1 h1]
 rw[aj (by simpa using h1),Qa0 (by simpa using h1)];cases h2:Kerb.validName sv
 ·rfl
 cases h3:Kerb.bO ins
 ·rfl
 cases Yx tm 4294967295
 ·rfl
 cases Yx lf 255
 ·rfl
 have l2:=Kerb.iI h2;have l3:=Kerb.gS h3;simp only[Zm,aA,Yq,Bool.false_eq_true,if_false];rw[ae (by simp;omega),ae (by simp[Zn];omega),ae (by simp[Zn];omega),ae (by simp[Zn,Kerb.bH];omega)]
theorem aaC:Wk 198 8 Gh:=by
 refine cw Tryz.func198 rfl fun xs bl r h=> ?_;unfold Gh at h;split at h;case h_2=>cases h
 rename_i op ux uy uz bx;obtain⟨aB,rfl⟩:=dz h;refine cu (let t0:Option (AV×aC):=Zy (lV [Yz [Zw ux,Zw uy,Zw uz]] []) (kL fun b=>aD (!b) (Zd (Yy [Zv [],Zz .i64 103],[])) (aD (Zj ((↑(Zx bx):Int)>1012)) (Zd (Yy [Zv [],Zz .i64 105],[])) (Zy (oD [Zv (Kerb.header 10 Yj++Xv op 1 Yj),Yz [Zw ux,Zw uy,Zw uz]] []) (kO fun l=>Zy (Ad [Zv l,Zv bx] []) (kB fun b=>Zd (Yy [Zv b,Zz .i64 0],[]))))));aD (!op==1) (aD (!op==2) (aD (!op==3) (Zd (Yy [Zv [],Zz .i64 40],[])) t0) t0) t0) (by kernel_rfl) ?_;delta kB kO kL;dsimp only[lV,oD,Ad,aK,bq,aE,dl,ak,bW,dx];simp only[Zg,Qa2] at aB;simp only[A0,Yd,Yn,Kerb.eE.av];have p8:(Kerb.header 10 Yj).length=2:=rfl;unfold Kerb.eM;simp only;by_cases h0:1<=op/\op<=3;case neg =>
  have e:Kerb.ld op=Yj:=by simp[Kerb.ld];omega
  rw[e,ag (by simp;omega),ag (by simp;omega),ag (by simp;omega)];rfl
 have e:Kerb.ld op=Yh:=by simp[Kerb.ld];omega
 have hs:∀ (z y:Option (AV×aC)),aD (!op==1) (aD (!op==2) (aD (!op==3) z y) y) y=y:=fun z y=>by
  rcases (show op=1\/op=2\/op=3 by omega) with rfl | rfl | rfl<;>rfl
 rw[e,Qa0 (by simp),hs];rw[ae (by simp;omega)];cases h2:Kerb.aY.valid ⟨ux,uy,uz⟩
 ·rfl
 rw[Zm,aA,Qa0 (by simp)];by_cases h8:1012<bx.length
 ·rw[ag (by simp;omega),Qa1 h8]
 rw[aj (by simp;omega),Qa0 h8];have l2:=Kerb.ch h2;simp only at l2;rw[ae (by simp[Zn,p8];omega),ae (by simp[Yu,Zn,p8];omega)]
theorem aaK:Wk 213 8 NL:=by
 refine cw Tryz.func213 rfl fun xs bl r h=> ?_;unfold NL at h;split at h;case h_2=>cases h
 rename_i li x y z ad k lf uw sv ins;obtain⟨aB,rfl⟩:=dz h;refine cu (Zy (lV [Yz [Zw x,Zw y,Zw z]] []) (kL fun b=>aD (!b) (Zd (Zz .i64 103,[])) (Zy (sr [Zw sv] []) (kL fun b=>aD (!b) (Zd (Zz .i64 103,[])) (Zy (pK [Zw ins] []) (kL fun b=>aD (!b) (Zd (Zz .i64 103,[])) (Zy (Ac [Zz .u64 k] []) (kI .i64 fun n=>aD (!n==2) (Zd (Zz .i64 10,[])) (aD (!Yx ad 4294967295) (Zd (Zz .i64 104,[])) (aD (!Yx lf 255) (Zd (Zz .i64 104,[])) (aD (!Yx uw 4294967295) (Zd (Zz .i64 104,[])) (Zd (Zz .i64 0,[]))))))))))))) (by kernel_rfl) ?_;delta kL kI;dsimp only[lV,Ac,sr,pK,aK,bq,aE,dl,ak,bW,dx];simp only[Zg,Qa2] at aB;obtain⟨⟨⟨⟨⟨⟨h1,h2⟩,h3⟩,h4⟩,h5⟩,h6⟩,h7⟩:=aB;simp only[h1,h2,h3,h4,h5,h6,h7,Qb2,Yq,↓A0,A0];unfold Kerb.dA.err;dsimp only;cases Kerb.aY.valid ⟨x,y,z⟩
 ·rfl
 cases Kerb.validName sv
 ·rfl
 cases Kerb.bO ins
 ·rfl
 simp only[Zm,Yq,aA];by_cases hc:Kerb.gx k=2;case neg=>rw[ag (by simpa using hc),Qa0 (by simp),Qa1 hc]
 rw[aj (by simp[hc]),Qa0 (by simp),Qa0 (by simp[hc])];cases Yx ad 4294967295
 ·rfl
 cases Yx lf 255
 ·rfl
 cases Yx uw 4294967295
 ·rfl
 rfl
theorem aaV:Wk 224 8 Gj:=by
 refine cw Tryz.func224 rfl fun xs bl r h=> ?_;unfold Gj at h;split at h;case h_2=>cases h
 rename_i lb t k st en kv x y z tk;obtain⟨aB,rfl⟩:=dz h;refine cu (let t0:Option (AV×aC):=aD (!Yx t 4294967295) (Zd (Zz .i64 104,[])) (aD (!Kerb.dL lb) (aD (!k==0) (Zd (Zz .i64 108,[])) (aD (!st==0) (Zd (Zz .i64 108,[])) (aD (!en==0) (Zd (Zz .i64 108,[])) (aD (!kv==0) (Zd (Zz .i64 108,[])) (aD (!(x==[]&&(y==[]&&z==[]))) (Zd (Zz .i64 108,[])) (aD (Zj ((↑(Zx tk):Int)>0)) (Zd (Zz .i64 108,[])) (Zd (Zz .i64 0,[])))))))) (Zy (xc [Zz .u64 k] []) (kL fun b=>aD (!b) (Zd (Zz .i64 10,[])) (aD (!Yx st 4294967295) (Zd (Zz .i64 104,[])) (aD (!Yx en 4294967295) (Zd (Zz .i64 104,[])) (aD (!Yx kv 255) (Zd (Zz .i64 104,[])) (Zy (lV [Yz [Zw x,Zw y,Zw z]] []) (kL fun b=>aD (!b) (Zd (Zz .i64 103,[])) (aD (Zj ((↑(Zx tk):Int)>255)) (Zd (Zz .i64 105,[])) (Zd (Zz .i64 0,[])))))))))));aD (!Kerb.dL lb) (aD (!lb==[(67:UInt8),(80:UInt8),(87:UInt8),(100:UInt8)]) (Zd (Zz .i64 80,[])) t0) t0) (by kernel_rfl) ?_;delta kL;dsimp only[xc,lV,aK,bq,aE,dl,ak,bW,dx];have Pd:([103,84,71,83]:List UInt8)=Kerb.vt:=rfl;have Iy:([103,84,75,84]:List UInt8)=Kerb.ll:=rfl;have LA:([67,80,87,108]:List UInt8)=Kerb.gX:=rfl;have Et:([67,80,87,100]:List UInt8)=Kerb.pq:=rfl;have Pe:([116,103,115,84]:List UInt8)=Kerb.zk:=rfl;have CE:([116,107,116,71]:List UInt8)=Kerb.qa:=rfl;have EU:=aB;simp only[Zg,Qa2] at aB;have hk:(Zj (0<=k)&&Zj (k<18446744073709551616))=Yh:=by simp;omega
 have hv:(Zj (x.length<=9223372036854775807)&&Zj (y.length<=9223372036854775807)&&Zj (z.length<=9223372036854775807))=Yh:=by simp;omega
 simp only[A0,Et,hk,hv];unfold Kerb.bm;simp only;cases ht:Kerb.dL lb
 ·rw[Xb,cc];cases hc:(lb==Kerb.pq)
  ·rfl
  rw[Zm,aA,Qa0 (by simp)];cases h1:Yx t 4294967295
  ·rfl
  rw[Zm,aA,Qa0 (by simp),cc,Qa0 (by simp)];by_cases h2:k=0;case neg=>rw[ag (by simpa using h2),Qa1 (.inl h2)]
  rw[aj (by simp[h2])];by_cases h3:st=0;case neg=>rw[ag (by simpa using h3),Qa1 (.inr (.inl h3))]
  rw[aj (by simp[h3])];by_cases h4:en=0;case neg=>rw[ag (by simpa using h4),Qa1 (.inr (.inr (.inl h4)))]
  rw[aj (by simp[h4])];by_cases h5:kv=0;case neg=>rw[ag (by simpa using h5),Qa1 (.inr (.inr (.inr (.inl h5))))]
  rw[aj (by simp[h5])];show aD (!(Kerb.aY.xQ ⟨x,y,z⟩)) _ _=_;cases h6:Kerb.aY.xQ ⟨x,y,z⟩
  ·rw[Qa1 (.inr (.inr (.inr (.inr (.inl rfl)))))];rfl
  rw[Zm,aA];by_cases h7:tk=[];case neg=>rw[ag (by have:=List.length_pos_iff.2 h7;simp;omega),Qa1 (.inr (.inr (.inr (.inr (.inr h7)))))]
  rw[aj (by simp[h7]),Qa0 (by simp[h2,h3,h4,h5,h7])]
 ·rw[Zm,aA,Qa0 (by simp)];cases h1:Yx t 4294967295
  ·rfl
  rw[Zm,aA,Qa0 (by simp),aA,Qa1 rfl];cases h2:Kerb.bp k
  ·rfl
  rw[Zm,aA,Qa0 (by simp)];cases h3:Yx st 4294967295
  ·rfl
  rw[Zm,aA];cases h4:Yx en 4294967295
  ·rfl
  rw[Zm,aA];cases h5:Yx kv 255
  ·rfl
  rw[Zm,aA,Qa0 (by simp)];cases h6:Kerb.aY.valid ⟨x,y,z⟩
  ·rfl
  rw[Zm,aA,Qa0 (by simp)];by_cases h7:255<tk.length
  ·rw[ag (by simp;omega),Qa1 h7]
  ·rw[aj (by simp;omega),Qa0 h7]
theorem aa4:Wk 236 8 Gk:=by
 refine cw Tryz.func236 rfl fun xs bl r h=> ?_;unfold Gk at h;split at h;case h_2=>cases h
 rename_i els;obtain⟨aB,rfl⟩:=dz h;show eb (G.env 236 8) G.rts (G.own 236) Tryz.f236 _ _ [0]=_;refine cu (Zy (Ah [Zz .u64 (Zp .u64 (↑(Zx els):Int))] []) (kI .i64 fun n=>Zy (B9 [AV.bz 0 27 1,Zz .i64 0,Zz .i64 (↑(Zx els):Int),Zz .i64 n] [(0,els)]) fun(r:AV×aC)=>aL (Zk r) fun(x:List AV) (eH:List (List AV))=>aN eH (AV.fI (Zf r) fun vs=>aw vs (Zd (Yy [],[x]))))) (by kernel_rfl) ?_;delta kI;dsimp only[B9,Ah,aK,bq,aE,dl,ak,bW,dx];simp only[Zg,Qa2] at aB;obtain⟨fK,hlen⟩:=aB;obtain⟨d,rfl,hd⟩:=Kerb.lz fK;simp only[Kerb.aT] at hlen ⊢;rw[Kerb.KU (by omega) (by omega),ae (by rw[Kerb.Dk];simp;omega)];simp only[↓fe,↓ec,↓bD,↓bS,↓fO,↓jA,↓cL,↓c7,↓cP];rw[Kerb.zl];have hb:=Kerb.RS hlen;rw[ae (by simp only[Kerb.nn,Kerb.dk,Kerb.aT,Zg,Qa2,Qa8,Qa7];omega)];simp only[↓fe,↓ec,↓bD,↓bS,↓fO,↓jA,↓cL,↓c7,↓cP];rw[Kerb.KJ]
theorem abf:Wk 249 8 Gn:=by
 refine cw Tryz.func249 rfl fun xs bl r h=> ?_;unfold Gn at h;split at h;case h_2=>cases h
 rename_i op ux uy uz kv rl tk sv ins bx;obtain⟨aB,rfl⟩:=dz h;refine cu (aD (!Kerb.ld op) (Zd (Zz .i64 40,[])) (aD (!op==2) (Zy (lV [Yz [Zw ux,Zw uy,Zw uz]] []) (kL fun b=>aD (!b) (Zd (Zz .i64 103,[])) (aD (Zj ((↑(Zx bx):Int)>1012)) (Zd (Zz .i64 105,[])) (aD (!kv==0) (Zd (Zz .i64 108,[])) (aD (!rl==[]) (Zd (Zz .i64 108,[])) (aD (Zj ((↑(Zx tk):Int)>0)) (Zd (Zz .i64 108,[])) (aD (!sv==[]) (Zd (Zz .i64 108,[])) (aD (!ins==[]) (Zd (Zz .i64 108,[])) (Zd (Zz .i64 0,[])))))))))) (Zy (Ag [Zw rl] []) (kL fun b=>aD (!b) (Zd (Zz .i64 103,[])) (Zy (sr [Zw sv] []) (kL fun b=>aD (!b) (Zd (Zz .i64 103,[])) (Zy (pK [Zw ins] []) (kL fun b=>aD (!b) (Zd (Zz .i64 103,[])) (aD (!Yx kv 255) (Zd (Zz .i64 104,[])) (aD (Zj ((↑(Zx tk):Int)>255)) (Zd (Zz .i64 105,[])) (aD (Zj ((↑(Zx bx):Int)>1012)) (Zd (Zz .i64 105,[])) (aD (!(ux==[]&&(uy==[]&&uz==[]))) (Zd (Zz .i64 108,[])) (Zd (Zz .i64 0,[])))))))))))))) (by kernel_rfl) ?_;delta kL;dsimp only[lV,Ag,sr,pK,aK,bq,aE,dl,ak,bW,dx];simp only[Zg,Qa2] at aB;simp only[A0];rw[ae (by simp;omega),ae (by simp;omega),ae (by simp;omega),ae (by simp;omega)];unfold Ww;simp only;cases h0:Kerb.ld op
 ·rfl
 rw[Zm,aA,Qa0 (by simp)];cases h1:(op==2)
 ·rw[Xb,cc,Qa0 (by simp)];cases h2:Kerb.aY.valid ⟨ux,uy,uz⟩
  ·rfl
  rw[Zm,aA,Qa0 (by simp)];by_cases h3:1012<bx.length
  ·rw[ag (by simp;omega),Qa1 h3]
  rw[aj (by simp;omega),Qa0 h3];by_cases h4:kv=0;case neg=>rw[ag (by simpa using h4),Qa1 (.inl h4)]
  rw[aj (by simp[h4])];by_cases h5:rl=[];case neg=>rw[ag (by simpa using h5),Qa1 (.inr (.inl h5))]
  rw[aj (by simp[h5])];by_cases h6:tk=[];case neg=>rw[ag (by have:=List.length_pos_iff.2 h6;simp;omega),Qa1 (.inr (.inr (.inl h6)))]
  rw[aj (by simp[h6])];by_cases h7:sv=[];case neg=>rw[ag (by simpa using h7),Qa1 (.inr (.inr (.inr (.inl h7))))]
  rw[aj (by simp[h7])];by_cases h8:ins=[];case neg=>rw[ag (by simpa using h8),Qa1 (.inr (.inr (.inr (.inr h8))))]
  rw[aj (by simp[h8]),Qa0 (by simp[h4,h5,h6,h7,h8])]
 ·rw[Zm,aA,Qa1 rfl];cases h2:Kerb.cY rl
  ·rfl
  rw[Zm,aA];cases h3:Kerb.validName sv
  ·rfl
  rw[Zm,aA];cases h4:Kerb.bO ins
  ·rfl
  rw[Zm,aA,Qa0 (by simp)];cases h5:Yx kv 255
  ·rfl
  rw[Zm,aA,Qa0 (by simp)];by_cases h6:255<tk.length
  ·rw[ag (by simp;omega),Qa1 (.inl h6)]
  rw[aj (by simp;omega)];by_cases h7:1012<bx.length
  ·rw[ag (by simp;omega),Qa1 (.inr h7)]
  rw[aj (by simp;omega),Qa0 (by omega)];show aD (!(Kerb.aY.xQ ⟨ux,uy,uz⟩)) _ _=_;cases Kerb.aY.xQ ⟨ux,uy,uz⟩<;>rfl
theorem w9:Wk 9 9 Sj:=by
 refine cw Tryz.func9 rfl fun xs bl r h=> ?_;unfold Sj at h;split at h;case h_2=>cases h
 rename_i kd bx se gy de li hw;obtain⟨aB,rfl⟩:=dz h;refine cu (let t0:UInt8:=UInt8.ofNat (Yp (Xp (↑(Xn kd):Int) (↑(Xn (10:UInt8)):Int)));let t1:List AV:=[Yz [Zv [],Zz .i64 0,Zz .i64 0,Zz .i64 (Zp .i64 (↑(Xn de):Int))],Zu li,Zz .u64 (Kerb.ic se)];Zy (Np [Yz [Yv kd,Yv bx,Yv se,Yv gy,Yv de,Zu li,Zz .u16 hw]] []) (kB fun b=>Sx [Zz .i64 (Zp .i64 (↑(Xn kd):Int))] fun cG eQ eZ=>Zy (aD (t0==(0:UInt8)) (Zy (Oc [Yz [Zu li,Zw cG,Zw eQ,Zw eZ,Zz .i64 0,Zz .i64 0,Zz .i64 0,Zv b]] []) (kT fun vs=>bq vs fun b r=>ak .i64 r fun n r=>aw r (Zd [Yv kd,Yv bx,Yv se,Yv gy,Yv de,Zu li,Zz .u16 hw,Zv [],Zv b]))) (aD (t0==(1:UInt8)) (Zd [Yv kd,Yv bx,Yv se,Yv gy,Yv de,Zu li,Zz .u16 hw,Zv [],Zv (Kerb.lW.val (Kerb.cI (Kerb.cQ.mk li Yj 0 [(82:UInt8)] (Kerb.nb gy de) b)))]) (aD (t0==(2:UInt8)) (Zd [Yv kd,Yv bx,Yv se,Yv gy,Yv de,Zu li,Zz .u16 hw,Zv [],Zv (Kerb.lW.val (Kerb.dN (Kerb.ft.mk (Kerb.cQ.mk li Yj 0 [(82:UInt8)] (Kerb.nb gy de) (Kerb.nb gy de)) 0 0 [(115:UInt8)] [])))]) (aD (t0==(3:UInt8)) (Zd [Yv kd,Yv bx,Yv se,Yv gy,Yv de,Zu li,Zz .u16 hw,Zv [],Zv (Kerb.lW.val (Kerb.dM b li))]) (aD (t0==(4:UInt8)) (Zd [Yv kd,Yv bx,Yv se,Yv gy,Yv de,Zu li,Zz .u16 hw,Zv [],Zv (Kerb.lW.val (Ww (Kerb.dZ.mk 2 (Kerb.aY.mk [] [] []) 0 [(82:UInt8)] (Kerb.nb gy de) [(115:UInt8)] [] b)))]) (aD (t0==(5:UInt8)) (Zd [Yv kd,Yv bx,Yv se,Yv gy,Yv de,Zu li,Zz .u16 hw,Zv [],Zv (Kerb.lW.val (Kerb.cg (Kerb.jS.mk 1 0 b)))]) (aD (t0==(6:UInt8)) (Zy (Od [Yz [Zz .i64 (Zp .i64 (1+Xp (Zp .i64 (Int.tdiv (Zp .i64 (↑(Xn kd):Int)) 10)) 3)),Zw cG,Zw eQ,Zw eZ,Zv b]] []) (kT fun vs=>bq vs fun b r=>ak .i64 r fun n r=>aw r (Zd [Yv kd,Yv bx,Yv se,Yv gy,Yv de,Zu li,Zz .u16 hw,Zv [],Zv b]))) (aD (t0==(7:UInt8)) (Zy (Oe t1 []) (kT fun vs=>bq vs fun b r=>ak .i64 r fun n r=>aw r (Zd [Yv kd,Yv bx,Yv se,Yv gy,Yv de,Zu li,Zz .u16 hw,Zv [],Zv b]))) (aD (t0==(8:UInt8)) (Zy (Og t1 []) (kT fun vs=>bq vs fun b r=>ak .i64 r fun n r=>aw r (Zd [Yv kd,Yv bx,Yv se,Yv gy,Yv de,Zu li,Zz .u16 hw,Zv [],Zv b]))) (Zd [Yv kd,Yv bx,Yv se,Yv gy,Yv de,Zu li,Zz .u16 hw,Zv [],Zv b])))))))))) fun l=>dl l fun b r=>dl r fun b r=>dl r fun b r=>dl r fun b r=>dl r fun b r=>aE r fun b r=>ak .u16 r fun n r=>bq r fun b r=>bq r fun b r=>aw r (aD (Xp n 32==13) (Zy (H7 [Zv b,Zz .u16 (Zp .u16 (Int.tdiv n 32))] []) (kB fun b=>Zd (Zv b,[]))) (Zd (Zv b,[]))))) (by kernel_rfl) ?_;unfold Sx;delta kT kA kB;dsimp only[Np,H6,Oc,Od,Oe,Og,H7,aK,bq,aE,dl,ak,bW,dx];have hh:=aB;simp only[Zg,Qa2] at aB;have L:∀ b:List UInt8,b.length<=39->Zj (b.length<=9223372036854775807)=Yh:=fun b h=>Qa4 (by omega);have k1:∀ n,Zj (0<=Kerb.ic n)=Yh:=fun n=>Qa4 (Kerb.nT n).1;have k2:∀ n,Zj (Kerb.ic n<18446744073709551616)=Yh:=fun n=>Qa4 (Kerb.nT n).2;have s1:∀ n,Zj (0<=Kerb.jl n)=Yh:=fun n=>Qa4 (Kerb.pG n).1;have s2:∀ n,Zj (Kerb.jl n<18446744073709551616)=Yh:=fun n=>Qa4 (Kerb.pG n).2;have hb:=Kerb.QE kd;have u1:Zj (0<=Go.IntKind.wrap .i64 (kd.toNat:Int))=Yh:=Qa4 hb.1;have u2:Zj (Go.IntKind.wrap .i64 (kd.toNat:Int)<=4611686018427387904)=Yh:=Qa4 (by omega)
 obtain⟨a1,a2,a3⟩:=Kerb.v_ (Go.IntKind.wrap .i64 (kd.toNat:Int));have hR:UInt8.ofNat (Yp (Xp (kd.toNat:Int) ((10:UInt8).toNat:Int)))=Xh kd 10:=rfl;simp only[↓N2,hh,u1,u2,L _ a1,L _ a2,L _ a3,k1,k2,Yq,hR];have w1:Zj (0<=Go.IntKind.wrap .u16 (Int.tdiv hw 32))=Yh:=Qa4 (Kerb.uO aB.1 aB.2 (by decide)).1;have w2:Zj (Go.IntKind.wrap .u16 (Int.tdiv hw 32)<=65535)=Yh:=Qa4 (Kerb.uO aB.1 aB.2 (by decide)).2;refine D' (P:=fun a=>a=[.u8 kd,.u8 bx,.u8 se,.u8 gy,.u8 de,.bool li,.int .u16 hw,.bs [],.bs (Kerb.ov ⟨kd,bx,se,gy,de,li,hw⟩)]) ⟨_,?_,rfl⟩ ?_
 ·unfold Kerb.ov;try dsimp only
  by_cases hc:Xh kd 10=0
  ·rw[ag (by simpa using hc),Qa1 hc]
  rw[aj (by simpa using hc),Qa0 hc];clear hc;by_cases hc:Xh kd 10=1
  ·rw[ag (by simpa using hc),Qa1 hc]
  rw[aj (by simpa using hc),Qa0 hc];clear hc;by_cases hc:Xh kd 10=2
  ·rw[ag (by simpa using hc),Qa1 hc]
  rw[aj (by simpa using hc),Qa0 hc];clear hc;by_cases hc:Xh kd 10=3
  ·rw[ag (by simpa using hc),Qa1 hc]
  rw[aj (by simpa using hc),Qa0 hc];clear hc;by_cases hc:Xh kd 10=4
  ·rw[ag (by simpa using hc),Qa1 hc]
  rw[aj (by simpa using hc),Qa0 hc];clear hc;by_cases hc:Xh kd 10=5
  ·rw[ag (by simpa using hc),Qa1 hc]
  rw[aj (by simpa using hc),Qa0 hc];clear hc;by_cases hc:Xh kd 10=6
  ·rw[ag (by simpa using hc),Qa1 hc]
  rw[aj (by simpa using hc),Qa0 hc];clear hc;by_cases hc:Xh kd 10=7
  ·rw[ag (by simpa using hc),Qa1 hc]
  rw[aj (by simpa using hc),Qa0 hc];clear hc;by_cases hc:Xh kd 10=8
  ·rw[ag (by simpa using hc),Qa1 hc]
  rw[aj (by simpa using hc),Qa0 hc]
 rintro a rfl;have hl:=Kerb.xr ⟨kd,bx,se,gy,de,li,hw⟩;have w3:Zj ((Kerb.ov ⟨kd,bx,se,gy,de,li,hw⟩).length<=1000000)=Yh:=Qa4 (by omega);unfold Kerb.rL;dsimp only;generalize Kerb.ov ⟨kd,bx,se,gy,de,li,hw⟩=B at w3 ⊢;simp only[↓N2,w1,w2,w3,k1,k2,Yq];cases Xp hw 32==13
 ·simp only[↓A0,A0,aA,Qa6]
 ·simp only[↓A0,A0,cc,Qa5]
theorem w74:Wk 74 9 KM:=by
 refine cw Tryz.func74 rfl fun xs bl r h=> ?_;unfold KM at h;split at h;case h_2=>cases h
 rename_i b aq;obtain⟨aB,rfl⟩:=dz h;refine cu (let t0:Option (AV×aC):=Zd (Yy [Yz [Zz .u64 0,Zw [],Zw [],Zw [],Zz .i64 0,Zz .i64 0,Zv [],Zz .i64 0],Zz .i64 100],[]);qH [Zv b,Zz .i64 1,Zz .i64 8] fun cG n bn=>AF [Zv cG] fun b_ eQ=>AE [Zv b,Zz .i64 n] fun eZ hO gV n eO=>oV [Zv b,Zz .i64 n] fun n bY bF=>oV [Zv b,Zz .i64 bY] fun fb eX gK=>oV [Zv b,Zz .i64 eX] fun kH lL gp=>qH [Zv b,Zz .i64 lL,Zz .i64 kH] fun iw iN fL=>uA [Zv b,Zz .i64 iN,Zu aq] fun bh gP eU=>let t1:AV:=Yz [Zz .u64 b_,Zw eZ,Zw hO,Zw gV,Zz .i64 n,Zz .i64 fb,Zv iw,Zz .i64 bh];Zy (F7 [t1,Zu aq] []) (kT fun vs=>bq vs fun jp r=>ak .i64 r fun n r=>aw r (aD (!n==0) t0 (aD (!jp==b) t0 (Zd (Yy [t1,Zz .i64 0],[])))))) (by kernel_rfl) ?_;unfold oV AE uA qH AF;delta kT;dsimp only[sm,vO,tw,qE,vP,F7,aK,bq,aE,dl,ak,bW,dx];have hb:=Qa3 aB;have jN:Zj (b.length<=4611686018427387904)=Yh:=by simp;omega
 have tM:=Kerb.jt b 1 8;simp only[A0];unfold Kerb.ca;have l1:=Kerb.n0 b (Xg b 1 8).next
 have l2:=Kerb.l6 (Xg b 1 8).val;rw[ae aB,ae (by simp;omega),ae jN,ae jN,ae jN,ae jN,ae aB,ae jN,ae (by simp;omega)];obtain⟨R,hR⟩:∃ R,R=Kerb.rT b aq:=⟨_,rfl⟩;have e:=hR.symm;unfold Kerb.rT at e;dsimp only at e;have e2:Kerb.gG.mk (Kerb.fg (Xg b 1 8).val).1 (Kerb.aY.mk (Kerb.hY b (Xg b 1 8).next).val.name (Kerb.hY b (Xg b 1 8).next).val.inst (Kerb.hY b (Xg b 1 8).next).val.aJ) _ _ _ _=R:=e;rw[e2,<-hR];by_cases h1:(Kerb.cW R aq).err=0
 ·rw[aj (by simp[h1])];by_cases h2:(Kerb.cW R aq).val=b
  ·rw[aj (by simp[h2]),Qa0 (by simp[h1,h2]),hR];rfl
  ·rw[ag (by simpa using h2),Qa1 (.inr h2)];rfl
 ·rw[ag (by simpa using h1),Qa1 (.inl h1)];rfl
theorem ZD:Wk 118 9 FU:=by
 refine cw Tryz.func118 rfl fun xs bl r h=> ?_;unfold FU at h;split at h;case h_2=>cases h
 rename_i b;obtain⟨aB,rfl⟩:=dz h;refine cu (let t1:AV:=Yz [Zu Yj,Zw [],Zw [],Zw [],Zz .i64 0,Zz .i64 0,Zz .i64 0,Zv []];let t2:List AV:=[Zu (Zf (Xz b [2]))];let t0:Option (AV×aC):=Zd (Yy [t1,Zz .i64 100],[]);aD (!Zk (Xz b [2])==0) (Zd (Yy [t1,Zz .i64 (Zk (Xz b [2]))],[])) (AE [Zv b,Zz .i64 2] fun cG eQ eZ n bn=>uA (Zv b::Zz .i64 n::t2) fun n b_ eO=>oV [Zv b,Zz .i64 b_] fun bY bF fb=>uA (Zv b::Zz .i64 bF::t2) fun eX gK kH=>oV [Zv b,Zz .i64 gK] fun lL gp iN=>AG (Zv b::Zz .i64 gp::t2) fun fL bh gP=>qH [Zv b,Zz .i64 bh,Zz .i64 fL] fun hO eU da=>let t3:AV:=Yz [Zu (Zf (Xz b [2])),Zw cG,Zw eQ,Zw eZ,Zz .i64 n,Zz .i64 eX,Zz .i64 lL,Zv hO];Zy (Gc [t3] []) (kT fun vs=>bq vs fun gV r=>ak .i64 r fun n r=>aw r (aD (!n==0) t0 (aD (!gV==b) t0 (Zd (Yy [t3,Zz .i64 0],[]))))))) (by kernel_rfl) ?_;unfold oV AE uA qH AG;delta kT;dsimp only[sm,vO,tw,qE,vV,Gc,aK,bq,aE,dl,ak,bW,dx];have hb:=Qa3 aB;have jN:Zj (b.length<=4611686018427387904)=Yh:=by simp;omega
 simp only[A0];unfold Kerb.bK;by_cases h:(Xz b [2]).2=0
 ·have l1:=Kerb.n0 b 2;rw[aj (by simp[h]),ae jN,ae jN,ae jN,ae jN,ae jN,ae jN,ae aB,ae (by simp;omega),Qa0 (by simpa using h)];obtain⟨R,hR⟩:∃ R,R=Kerb.pE b:=⟨_,rfl⟩;have e:=hR.symm;unfold Kerb.pE at e;dsimp only at e;have e2:Kerb.mE.mk (Xz b [2]).1 (Kerb.aY.mk (Kerb.hY b 2).val.name (Kerb.hY b 2).val.inst (Kerb.hY b 2).val.aJ) _ _ _ _=R:=e;rw[e2,<-hR];by_cases h1:(Kerb.dV R).err=0
  ·rw[aj (by simp[h1])];by_cases h2:(Kerb.dV R).val=b
   ·rw[aj (by simp[h2]),Qa0 (by simp[h1,h2]),hR];rfl
   ·rw[ag (by simpa using h2),Qa1 (.inr h2)];rfl
  ·rw[ag (by simpa using h1),Qa1 (.inl h1)];rfl
 ·rw[ag (by simpa using h),Qa1 h];rfl
theorem ZF:Wk 120 9 FW:=by
 refine cw Tryz.func120 rfl fun xs bl r h=> ?_;unfold FW at h;split at h;case h_2=>cases h
 rename_i b;obtain⟨aB,rfl⟩:=dz h;refine cu (let t1:AV:=Yz [Zu Yj,Zu Yj,Zz .i64 0,Zw [],Zv [],Zv [],Zz .i64 0,Zz .i64 0,Zw [],Zw []];let t0:Option (AV×aC):=Zd (Yy [t1,Zz .i64 100],[]);aD (!Zk (Xz b [3])==0) (Zd (Yy [t1,Zz .i64 (Zk (Xz b [3]))],[])) (Zy (z8 [Zv b] []) (kT fun vs=>ay vs fun x r=>Xj x fun cs=>aE cs fun cG eH=>aE eH fun eQ eP=>ak .i64 eP fun n eV=>aK eV fun eZ fR=>bq fR fun hO hZ=>bq hZ fun gV jj=>aw jj (ak .i64 r fun bn r=>aw r (uA [Zv b,Zz .i64 bn,Zu (Zf (Xz b [3]))] fun b_ eO bY=>oV [Zv b,Zz .i64 eO] fun bF fb eX=>uB [Zv b,Zz .i64 fb] fun iw gK kH=>uB [Zv b,Zz .i64 gK] fun jp lL gp=>let t2:AV:=Yz [Zu cG,Zu eQ,Zz .i64 n,Zw eZ,Zv hO,Zv gV,Zz .i64 b_,Zz .i64 bF,Zw iw,Zw jp];Zy (Gd [t2] []) (kT fun vs=>bq vs fun mW r=>ak .i64 r fun n r=>aw r (aD (!n==0) t0 (aD (!mW==b) t0 (Zd (Yy [t2,Zz .i64 0],[])))))))))) (by kernel_rfl) ?_;unfold oV uA uB;delta kT;dsimp only[sm,tw,vQ,z8,Gd,aK,bq,aE,dl,ak,bW,dx];have hb:=Qa3 aB;have jN:Zj (b.length<=4611686018427387904)=Yh:=by simp;omega
 obtain⟨g1,g2,g3⟩:=Kerb.zP b (Xz b [3]).1;have e1:∀ p,Zj ((Kerb.text b p).val.length<=9223372036854775807)=Yh:=fun p=>by have:=Kerb.jo b p;simp;omega
 unfold Kerb.dr;by_cases h:(Xz b [3]).2=0;case neg=>rw[ag (by simpa using h),Qa1 h];rfl
 rw[aj (by simpa using h),Qa0 (by simpa using h)];have g4:Zj ((Kerb.lE b).val.aJ.length<=9223372036854775807)=Yh:=Qa4 (show(Kerb.lE b).val.aJ.length<=9223372036854775807 from g1);simp only[aB,jN,g4,e1,Qb2,Yq,↓A0,A0];exact Kerb.fM (b:=b) (no:=Kerb.xv) (enc:=Kerb.dN) (rd:=fun b=>(Kerb.sO b (Xz b [3]).1,Yj)) _ Yj rfl (fun x e=>(Yy [.agg [.bool (x).ap.aq,.bool (x).ap.gA,.int .i64 (x).ap.bP,.str (x).ap.aJ,.bs (x).ap.aM,.bs (x).ap.fA,.int .i64 (x).time,.int .i64 (x).cj,.str (x).service,.str (x).inst],Zz Zb e],([]:aC)))
theorem Z0:Wk 151 9 F6:=by
 refine cw Tryz.func151 rfl fun xs bl r h=> ?_;unfold F6 at h;split at h;case h_2=>cases h
 rename_i li x y z ad k lf uw sv ins;obtain⟨aB,rfl⟩:=dz h;refine cu (Zy (az (dx x&&dx y&&dx z&&dx sv&&dx ins&&Zj (0<=k)&&Zj (k<18446744073709551616)) (Zd (Zz .i64 (Kerb.dA.err (Kerb.dA.mk li (Kerb.aY.mk x y z) ad k lf uw sv ins)),[]))) (kI .i64 fun n=>aD (!n==0) (Zd (Yy [Zv [],Zz .i64 n],[])) (aD li (Zy (az (Zj (Zx ([]++Xv 1 1 Yj)+Zx x+Zx y+Zx z<=70368744170000)) (Zd (AV.bE (Kerb.cZ ([]++Xv 1 1 Yj) (Kerb.aY.mk x y z)),[]))) (kO fun l=>Zy (az (Zj (Zx l<=70368744177664)) (Zd (AV.bE (l++Xv ad 4 li),[]))) (kO fun l=>Zy (az (Zj (0<=k)&&Zj (k<18446744073709551616)) (Zd (Zv (Kerb.keyBytes k),[]))) (kB fun b=>Zy (az (Zj (Zx (Xq l (Xq b []))<=140737488355328)&&Zj (Zx [Zv l,Zv b]<=1000)) (Zd (AV.bE (Xq l (Xq b [])),[]))) (kO fun l=>Zy (az (Zj (Zx l<=70368744177664)) (Zd (AV.bE (l++Xv lf 1 Yj),[]))) (kO fun l=>Zy (az (Zj (Zx l<=70368744177664)) (Zd (AV.bE (l++Xv uw 4 li),[]))) (kO fun l=>Zy (az (Zj (Zx l+Zx sv<=70368744177664)) (Zd (AV.bE (Xy l sv),[]))) (kO fun l=>Zy (az (Zj (Zx l+Zx ins<=70368744177664)) (Zd (AV.bE (Xy l ins),[]))) (kO fun l=>Zy (az (Zj (Zx l<=70368744177664)) (Zd (Zv (Kerb.pad l),[]))) (kB fun b=>Zd (Yy [Zv b,Zz .i64 0],[]))))))))))) (Zy (az (Zj (Zx ([]++Xv 0 1 Yj)+Zx x+Zx y+Zx z<=70368744170000)) (Zd (AV.bE (Kerb.cZ ([]++Xv 0 1 Yj) (Kerb.aY.mk x y z)),[]))) (kO fun l=>Zy (az (Zj (Zx l<=70368744177664)) (Zd (AV.bE (l++Xv ad 4 li),[]))) (kO fun l=>Zy (az (Zj (0<=k)&&Zj (k<18446744073709551616)) (Zd (Zv (Kerb.keyBytes k),[]))) (kB fun b=>Zy (az (Zj (Zx (Xq l (Xq b []))<=140737488355328)&&Zj (Zx [Zv l,Zv b]<=1000)) (Zd (AV.bE (Xq l (Xq b [])),[]))) (kO fun l=>Zy (az (Zj (Zx l<=70368744177664)) (Zd (AV.bE (l++Xv lf 1 Yj),[]))) (kO fun l=>Zy (az (Zj (Zx l<=70368744177664)) (Zd (AV.bE (l++Xv uw 4 li),[]))) (kO fun l=>Zy (az (Zj (Zx l+Zx sv<=70368744177664)) (Zd (AV.bE (Xy l sv),[]))) (kO fun l=>Zy (az (Zj (Zx l+Zx ins<=70368744177664)) (Zd (AV.bE (Xy l ins),[]))) (kO fun l=>Zy (az (Zj (Zx l<=70368744177664)) (Zd (Zv (Kerb.pad l),[]))) (kB fun b=>Zd (Yy [Zv b,Zz .i64 0],[])))))))))))))) (by kernel_rfl) ?_;delta kB kO kI;dsimp only[dx];simp only[Zg,Qa2] at aB;obtain⟨⟨⟨⟨⟨⟨h1,h2⟩,h3⟩,h4⟩,h5⟩,h6⟩,h7⟩:=aB;simp only[h1,h2,h3,h4,h5,h6,h7,Qb2,Yq,↓A0,A0];have hb := @Kerb.oJ ⟨li,⟨x,y,z⟩,ad,k,lf,uw,sv,ins⟩;unfold Kerb.bR at hb ⊢;dsimp only at hb ⊢;generalize hE:Kerb.dA.err _=e at hb ⊢;by_cases he:e=0;case neg=>rw[ag (by simpa using he),Qa1 he]
 rw[Qa0 (by simpa using he)] at hb;obtain⟨v1,v2,v3,_⟩:=hb rfl;have l1:=Kerb.ch v1;have l2:=(Kerb.Dd v2).1;have l3:=(Kerb.inst_ok v3).1;dsimp only at l1;rw[aj (by simpa using he),Qa0 (by simpa using he)];cases li
 ·rw[aA,ae (by first | (simp[Yu,Zn,Yw];done) | (simp[Yu,Zn,Yw];omega)),ae (by first | (simp[Yu,Zn,Yw];done) | (simp[Yu,Zn,Yw];omega)),ae (by first | (simp[Yu,Zn,Yw];done) | (simp[Yu,Zn,Yw];omega)),ae (by first | (simp[Yu,Zn,Yw];done) | (simp[Yu,Zn,Yw];omega)),ae (by first | (simp[Yu,Zn,Yw];done) | (simp[Yu,Zn,Yw];omega)),ae (by first | (simp[Yu,Zn,Yw];done) | (simp[Yu,Zn,Yw];omega)),ae (by first | (simp[Xy,Yu,Zn,Yw];done) | (simp[Xy,Yu,Zn,Yw];omega)),ae (by first | (simp[Xy,Yu,Zn,Yw];done) | (simp[Xy,Yu,Zn,Yw];omega))];simp
 ·rw[cc,ae (by first | (simp[Yu,Zn,Yw];done) | (simp[Yu,Zn,Yw];omega)),ae (by first | (simp[Yu,Zn,Yw];done) | (simp[Yu,Zn,Yw];omega)),ae (by first | (simp[Yu,Zn,Yw];done) | (simp[Yu,Zn,Yw];omega)),ae (by first | (simp[Yu,Zn,Yw];done) | (simp[Yu,Zn,Yw];omega)),ae (by first | (simp[Yu,Zn,Yw];done) | (simp[Yu,Zn,Yw];omega)),ae (by first | (simp[Yu,Zn,Yw];done) | (simp[Yu,Zn,Yw];omega)),ae (by first | (simp[Xy,Yu,Zn,Yw];done) | (simp[Xy,Yu,Zn,Yw];omega)),ae (by first | (simp[Xy,Yu,Zn,Yw];done) | (simp[Xy,Yu,Zn,Yw];omega))];simp
theorem Z_:Wk 161 9 F9:=by
 refine cw Tryz.func161 rfl fun xs bl r h=> ?_;unfold F9 at h;split at h;case h_2=>cases h
 rename_i B at_ bad;obtain⟨aB,rfl⟩:=dz h;show eb (G.env 161 9) G.rts (G.own 161) Tryz.f161 _ _ [0]=_;refine cu (AE [Zv B,Zz .i64 at_] fun b cG eQ n bn=>aD (!!(bad || !bn==0)) (Zd (Yz [Zw [],Zw [],Zw []],[[Zv B,Zz .i64 (bif bad || !bn==0 then at_ else n),Zu (bad || !bn==0)]])) (Zd (Yz [Zw b,Zw cG,Zw eQ],[[Zv B,Zz .i64 (bif bad || !bn==0 then at_ else n),Zu (bad || !bn==0)]]))) (by kernel_rfl) ?_;unfold AE;delta kT;dsimp only[vO,aK,bq,aE,dl,ak,bW,dx];have hb:=Qa3 aB;simp only[A0];rw[ae (by simp;omega)];unfold Kerb.mR;cases bad
 ·simp only[Bool.false_or];generalize hq:(!(_==(0:Int)))=q;cases q<;>rfl
 ·rfl
theorem Z':Wk 162 9 F_:=by
 refine cw Tryz.func162 rfl fun xs bl r h=> ?_;unfold F_ at h;split at h;case h_2=>cases h
 rename_i lb t k st en kv x y z tk;obtain⟨aB,rfl⟩:=dz h;refine cu (Zy (Gj [Yz [Zw lb,Zz .i64 t,Zz .u64 k,Zz .i64 st,Zz .i64 en,Zz .i64 kv,Zw x,Zw y,Zw z,Zv tk]] []) (kI .i64 fun n=>aD (!n==0) (Zd (Yy [Zv [],Zz .i64 n],[])) (Zy (kC [Zv lb,Zz .i64 t,Zu Yj] []) (kO fun l=>aD (Kerb.dL lb) (Zy (sq [Zz .u64 k] []) (kB fun b=>az (room (Zx l+Zx b) 1) (Zy (kC [Zv (l++b),Zz .i64 st,Zu Yj] []) (kO fun l=>Zy (kC [Zv l,Zz .i64 en,Zu Yj] []) (kO fun l=>Zy (pI [Zv l,Zz .i64 kv] []) (kO fun l=>Zy (oD [Zv l,Yz [Zw x,Zw y,Zw z]] []) (kO fun l=>Zy (Ab [Zv l,Zv tk] []) (kB fun b=>Zy (pJ [Zv b] []) (kB fun b=>Zd (Yy [Zv b,Zz .i64 0],[])))))))))) (Zy (pJ [Zv l] []) (kB fun b=>Zd (Yy [Zv b,Zz .i64 0],[]))))))) (by kernel_rfl) ?_;delta kB kO kI;dsimp only[pI,oD,kC,sq,pJ,Gj,Ab,aK,bq,aE,dl,ak,bW,dx];have EU:=aB;simp only[Zg,Qa2] at aB;have hk:(Zj (0<=k)&&Zj (k<18446744073709551616))=Yh:=by simp;omega
 simp only[A0,EU,hk];by_cases he:(Kerb.bm (Kerb.gj.mk lb t k st en kv ⟨x,y,z⟩ tk)).err=0;case neg=>rw[ag (by simpa using he),Kerb.Eu he]
 rw[aj (by simp[he]),he];obtain⟨ht,⟨hl,VS,aX,hs,hen,hv,hp,hx,hb⟩ | ⟨hl,aX,hs,hen,hv,hp,hx,hb⟩⟩:=Kerb.uS he
 ·have l1:=Kerb.ch hp;simp only at hl VS l1 hx;rw[hb,ae (by simp;omega),ag hl];rw[ae (Kerb.bV (by simp[Zn,Yw];omega)),ae (by simp[Zn,Yw];omega),ae (by simp[Zn,Yw];omega),ae (by simp[Zn,Yw];omega),ae (by simp[Zn,Yw];omega),ae (by simp[Zn,Yw,Yu];omega),ae (by simp[Zn,Yw,Yu,Kerb.iP];omega)];simp[Kerb.iP,Kerb.cZ,Xy]
 ·simp only at hl;have VS:lb.length=4:=by rw[hl];rfl
  have hnt:Kerb.dL lb=Yj:=by rw[hl];decide
  rw[hb,ae (by simp;omega),aj hnt,ae (by simp[Zn];omega)]
theorem aac:Wk 163 9 tz:=by
 refine cw Tryz.func163 rfl fun xs bl r h=> ?_;unfold tz at h;split at h;case h_2=>cases h
 rename_i B at_ bad;obtain⟨aB,rfl⟩:=dz h;show eb (G.env 163 9) G.rts (G.own 163) Tryz.f163 _ _ [0]=_;refine cu (AE [Zv B,Zz .i64 at_] fun b cG eQ n bn=>Zd (Yz [Zw b,Zw cG,Zw eQ],[[Zv B,Zz .i64 (bif bn==0 then n else at_),Zu (bad || !bn==0)]])) (by kernel_rfl) ?_;unfold AE;delta kT;dsimp only[vO,aK,bq,aE,dl,ak,bW,dx];have hb:=Qa3 aB;simp only[A0,Yd,Yn,Kerb.eE.av];rw[ae (by simp;omega)];unfold Wz;rfl
theorem aam:Wk 179 9 Ny:=by
 refine cw Tryz.func179 rfl fun xs bl r h=> ?_;unfold Ny at h;split at h;case h_2=>cases h
 rename_i l k;obtain⟨aB,rfl⟩:=dz h;refine cu (let t1:List AV:=[Zq 1 l,Zq 1 [Zz .u64 k]];let t0:Int:=(↑(Zx t1):Int);az (Zj (0<t0)&&Yh) (Xm 1 (Xx t1 (Yp 0) Xf) fun b=>let t2:Int:=Zp .i64 (0+(↑(Zx b):Int));aD (Zj (t2<0)) none (az (Zj (Zp .i64 (0+1)<t0)&&Yh) (Xm 1 (Xx t1 (Yp (Zp .i64 (0+1))) Xf) fun b=>aD (Zj (Zp .i64 (t2+(↑(Zx b):Int))<0)) none (Zy (Gq [AV.cK,Zz .i64 (Zp .i64 (t2+(↑(Zx b):Int)))] []) fun(r:AV×aC)=>aN (Zk r) (AV.aR (Zf r) fun l=>az (Zj (0<t0)&&Yh) (Xm 1 (Xx t1 (Yp 0) Xf) fun b=>az (room (Zx l+Zx b) (nat_lit 8)) (az (Zj (Zp .i64 (0+1)<t0)&&Yh) (Xm 1 (Xx t1 (Yp (Zp .i64 (0+1))) Xf) fun cG=>az (room (Zx (l++b)+Zx cG) (nat_lit 8)) (az (Nat.blt 0 (Zx (l++b++cG))) (Zy (Gk [AV.bz 0 27 (TI.size (TI.mk 1 8 (TK.int .u64) [Zz .u64 0] [CT.int .u64] [CT.int .u64]))] [(0,l++b++cG)]) fun(r:AV×aC)=>aL (Zk r) fun(x:List AV) (eH:List (List AV))=>aN eH (AV.fI (Zf r) fun vs=>aw vs (aD (Zj ((↑(Zx x):Int)<2)) (Zd (AV.aF x,[])) (Zy (bw (fun l=>ay l fun x_1 r=>Xu .i64 x_1 fun n=>aw r (aD (Zj (n<(↑(Zx x):Int))) (az (Zj (0<=n)&&Zj (n<(↑(Zx x):Int))&&Yh) (az (Nat.blt (Yp n) (Zx x)&&Yh) (Xu .u64 (Xx x (Yp n) Xf) fun bn=>az (Zj (0<=Zp .i64 (n-1))&&Zj (Zp .i64 (n-1)<(↑(Zx x):Int))&&Yh) (az (Nat.blt (Yp (Zp .i64 (n-1))) (Zx x)&&Yh) (Xu .u64 (Xx x (Yp (Zp .i64 (n-1))) Xf) fun b_=>aD (bn==b_) (az (Zj (0<=n)&&Zj (n<=(↑(Zx x):Int))&&Zj ((↑(Zx x):Int)<=(↑(Zx x):Int))) none) (Zd (Sum.inl [Zz .i64 (Zp .i64 (n+1))]))))))) (Zd (Sum.inr (Ex.exit 0,[Zz .i64 n]))))) [Zz .i64 1]) fun(r:Ex×List AV)=>ay (Zk r) fun x_1 eP=>Xu .i64 x_1 fun n=>aw eP (jq r.1 none fun(j:Nat)=>aD (Nat.beq j 0) (Zd (AV.aF x,[])) none))))))))))))))) (by kernel_rfl) ?_;dsimp only[Gk,Gq,aK,bq,aE,dl,ak,bW,dx];simp only[Zg,Qa2] at aB;obtain⟨⟨fK,Tm⟩,hlen⟩:=aB;rw[ae (by simp)];simp only[show Zp .i64 (1:Int)=1 from by decide,show Yp (1:Int)=1 from rfl,Int.toNat_zero,List.getD_cons_zero,List.getD_cons_succ,List.length_cons,List.length_nil,List.nil_append,Int.zero_add,Nat.zero_add,↓Y2];rw[show Zp .i64 ((l.length:Int))=((l.length:Nat):Int) from(Kerb.ga (by omega) (by omega)).trans (by omega)];rw[aj (by simp<;>omega),ae (by simp),show Zp .i64 ((l.length:Int)+((1:Nat):Int))=((l.length+1:Nat):Int) from(Kerb.ga (by omega) (by omega)).trans (by omega)];rw[aj (by simp<;>omega),ae (by simp<;>omega)];simp only[↓fe,↓ec,↓bD,↓bS,↓fO,↓jA,↓cL,↓c7,↓cP];simp only[List.length_nil,List.nil_append,Nat.zero_add];rw[ae (by simp),ae (Kerb.Qy (by omega)),ae (by simp),ae (Kerb.Qy (by omega)),ae (by simp),ae (by simp only[Kerb.all_join fK,Bool.true_and,Qa2,List.length_append,List.length_cons,List.length_nil];omega)];simp only[↓fe,↓ec,↓bD,↓bS,↓fO,↓jA,↓cL,↓c7,↓cP];rw[show Kerb.xG (l++[Zz .u64 k])=Kerb.AH l k from rfl];have hz:=Kerb.Lc (k:=k) fK;obtain⟨d,hd⟩:=Kerb.Jg l k;rw[hd] at hz Tm ⊢;simp only[Kerb.aT] at hz ⊢;by_cases h2:d.size<2
 ·rw[ag (by simp;omega)]
 rw[aj (by simp;omega)];refine bZ (fun i:Nat=>[Zz .i64 (i:Int)]) (fun i=>1<=i/\i<=d.size) (fun i=>d.size-i) (fun r=>∃ n,r=(.exit 0,[Zz .i64 n])) 1 ⟨Nat.le_refl _,by omega⟩ rfl ?_ ?_
 ·rintro i ⟨h1,hi⟩;simp only[↓bD,↓bS,↓cL,↓c7,↓cP];by_cases hc:i<d.size;case neg =>
   rw[aj (by simp;omega)];exact⟨_,rfl,_,rfl⟩
  have g2:i-1<d.size:=by omega
  rw[ag (by simp;omega)];simp only[show Zp .i64 ((i:Int)-1)=((i-1:Nat):Int) from(Kerb.ga (by omega) (by omega)).trans (by omega)];have r1:=Kerb.nK hc;have r2:=Kerb.nK g2;simp only[Wv,r1,r2,↓cL];have eY:=Kerb.Lj Tm (i:=i-1) (by omega);rw[show i-1+1=i by omega] at eY;rw[ae (by simp;omega),ae (by simp;omega),ae (by simp;omega),ae (by simp;omega),aj (by simp;omega),show Zp .i64 ((i:Int)+1)=((i+1:Nat):Int) from(Kerb.ga (by omega) (by omega)).trans (by omega)];exact⟨_,rfl,i+1,rfl,⟨by omega,by omega⟩,by dsimp only;omega⟩
 ·rintro _ ⟨n,rfl⟩;simp only[↓bD,↓bS,↓cL,↓cP,↓jB];rw[ag (Nat.beq_refl _)]
theorem aaz:Wk 195 9 NE:=by
 refine cw Tryz.func195 rfl fun xs bl r h=> ?_;unfold NE at h;split at h;case h_2=>cases h
 rename_i op ux uy uz kv rl tk sv ins bx;obtain⟨aB,rfl⟩:=dz h;refine cu (Zy (Gn [Yz [Zz .i64 op,Zw ux,Zw uy,Zw uz,Zz .i64 kv,Zw rl,Zv tk,Zw sv,Zw ins,Zv bx]] []) (kI .i64 fun n=>aD (!n==0) (Zd (Yy [Zv [],Zz .i64 n],[])) (aD (op==2) (Zy (pI [Zv (Kerb.header 9 Yj++Xv op 1 Yj),Zz .i64 kv] []) (kO fun l=>Zy (oE [Zv l,Zw rl] []) (kO fun l=>Zy (Ab [Zv l,Zv tk] []) (kB fun b=>Zy (oE [Zv b,Zw sv] []) (kO fun l=>Zy (oE [Zv l,Zw ins] []) (kO fun l=>Zy (xI [Zv l,Zv bx] []) (kB fun b=>Zd (Yy [Zv b,Zz .i64 0],[])))))))) (Zy (oD [Zv (Kerb.header 9 Yj++Xv op 1 Yj),Yz [Zw ux,Zw uy,Zw uz]] []) (kO fun l=>Zy (xI [Zv l,Zv bx] []) (kB fun b=>Zd (Yy [Zv b,Zz .i64 0],[]))))))) (by kernel_rfl) ?_;delta kB kO kI;dsimp only[pI,oD,oE,Ab,Gn,xI,aK,bq,aE,dl,ak,bW,dx];have EU:=aB;simp only[Zg,Qa2] at aB;simp only[A0];rw[ae EU];by_cases he:(Ww (Kerb.dZ.mk op ⟨ux,uy,uz⟩ kv rl tk sv ins bx)).err=0;case neg =>
  rw[ag (by simpa using he),Kerb.Ev he]
 rw[aj (by simp[he]),he];have p8:(Kerb.header 9 Yj).length=2:=rfl;rcases Kerb.uU he with⟨ho,v1,v2,v3,hk,ht,hb,hu,hv⟩ | ⟨ho,v1,hb,hk,hr,ht,hs,hn,hv⟩
 ·have l1:=Kerb.gw v1;have l2:=Kerb.iI v2;have l3:=Kerb.gS v3;simp only at ho l1 l2 l3 ht hb;rw[ag (by simpa using ho),hv];rw[ae (by simp[Zn,p8]),ae (by simp[Zn,p8];omega),ae (by simp[Zn,p8,Kerb.bH];omega),ae (by simp[Zn,p8,Kerb.bH,Kerb.iP];omega),ae (by simp[Zn,p8,Kerb.bH,Kerb.iP];omega),ae (by simp[Zn,p8,Kerb.bH,Kerb.iP];omega)];simp[Kerb.c6,Xy,Kerb.iP]
 ·have l1:=Kerb.ch v1;simp only at ho l1 hb;rw[aj (by simp;omega),hv];rw[ae (by simp[Zn,p8];omega),ae (by simp[Zn,p8,Yu];omega)];simp[Kerb.c6,Xy,Kerb.cZ]
theorem w72:Wk 72 10 Ot:=by
 refine cw Tryz.func72 rfl fun xs bl r h=> ?_;unfold Ot at h;split at h;case h_2=>cases h
 rename_i b;obtain⟨aB,rfl⟩:=dz h;refine cu (let t1:AV:=Yz [Zu Yj,Zw [],Zw [],Zw [],Zz .i64 0,Zz .u64 0,Zz .i64 0,Zz .i64 0,Zw [],Zw []];let t0:Option (AV×aC):=Zd (Yy [t1,Zz .i64 100],[]);oV [Zv b,Zz .i64 0] fun n bn b_=>aD (Zj (n>1)) (Zd (Yy [t1,Zz .i64 7],[])) (AE [Zv b,Zz .i64 bn] fun cG eQ eZ eO bY=>uA [Zv b,Zz .i64 eO,Zu (n==1)] fun bF fb eX=>qH [Zv b,Zz .i64 fb,Zz .i64 8] fun hO gK kH=>AF [Zv hO] fun lL gV=>oV [Zv b,Zz .i64 gK] fun gp iN fL=>uA [Zv b,Zz .i64 iN,Zu (n==1)] fun bh gP eU=>uB [Zv b,Zz .i64 gP] fun iw da bB=>uB [Zv b,Zz .i64 da] fun jp oP oQ=>let t2:AV:=Yz [Zu (n==1),Zw cG,Zw eQ,Zw eZ,Zz .i64 bF,Zz .u64 lL,Zz .i64 gp,Zz .i64 bh,Zw iw,Zw jp];Zy (F6 [t2] []) (kT fun vs=>bq vs fun mW r=>ak .i64 r fun n r=>aw r (aD (!n==0) t0 (aD (!mW==b) t0 (Zd (Yy [t2,Zz .i64 0],[]))))))) (by kernel_rfl) ?_;unfold oV AE uA qH AF uB;delta kT;dsimp only[sm,vO,tw,qE,vP,vQ,F6,aK,bq,aE,dl,ak,bW,dx];have hb:=Qa3 aB;have jN:Zj (b.length<=4611686018427387904)=Yh:=by simp;omega
 simp only[aB,jN,↓A0,A0];unfold Kerb.cA;by_cases h7:1<(Kerb.get b 0 1 Yj).val
 ·rw[ag (by simpa using h7),Qa1 h7];try rfl
 rw[aj (by simpa using h7),Qa0 h7];have hl:∀ p n,(Xg b p n).val.length<=4611686018427387904:=fun p n=>Zh (Kerb.jt b p n) (by omega);have hk:∀ q,0<=(Kerb.fg q).1/\(Kerb.fg q).1<18446744073709551616:=Kerb.l6;have hx:∀ q,(Kerb.text b q).val.length<=40:=Kerb.jo b;have lp:∀ q (_:Unit),(Kerb.hY b q).val.name.length<=40/\(Kerb.hY b q).val.inst.length<=40/\(Kerb.hY b q).val.aJ.length<=40:=fun q _=>Kerb.n0 b q;rw[ae (by simp only[Qa2];exact hl _ _),ae (by simp only[Zg,Qa2];exact⟨⟨⟨⟨⟨⟨Zh (lp _ ()).1 (by decide),Zh (lp _ ()).2.1 (by decide)⟩,Zh (lp _ ()).2.2 (by decide)⟩,Zh (hx _) (by decide)⟩,Zh (hx _) (by decide)⟩,(hk _).1⟩,(hk _).2⟩)];exact Kerb.fM (no:=Kerb.jP) (enc:=Kerb.bR) (rd:=fun b=>(Kerb.zQ b,Yj)) _ Yj rfl (fun x e=>(Yy [Yz [Zu (x).aq,Zw (x).client.name,Zw (x).client.inst,Zw (x).client.aJ,Zz Zb (x).address,Zz IntKind.u64 (x).aG,Zz Zb (x).cj,Zz Zb (x).cD,Zw (x).service,Zw (x).inst],Zz Zb e],([]:aC)))
theorem w76:Wk 76 10 Ov:=by
 refine cw Tryz.func76 rfl fun xs bl r h=> ?_;unfold Ov at h;split at h;case h_2=>cases h
 rename_i b;obtain⟨aB,rfl⟩:=dz h;refine cu (let t1:List AV:=[Zz .u64 0,Zz .i64 0,Zz .i64 0,Zz .i64 0,Zw [],Zw [],Zw [],Zv []];let t0:Option (AV×aC):=Zd (Yy [Yz (Zw []::Zz .i64 0::t1),Zz .i64 100],[]);Zy (qF [Ym 0 0,Zz .i64 4] [(0,[Zv b,Zz .i64 0,Zu Yj])]) fun(r:AV×aC)=>aL (Zk r) fun(x:List AV) (eH:List (List AV))=>bq x fun cG eP=>ak .i64 eP fun n eV=>aE eV fun eQ fR=>aw fR (aN eH (AV.eA (Zf r) fun eZ=>Zy (so [Ym 0 0] [(0,[Zv cG,Zz .i64 n,Zu eQ])]) fun(r:AV×aC)=>aL (Zk r) fun(x:List AV) (hZ:List (List AV))=>bq x fun hO jj=>ak .i64 jj fun n kG=>aE kG fun gV mT=>aw mT (aN hZ (Xu .i64 (Zf r) fun bn=>let t2:Kerb.lW:=Kerb.bm (Kerb.gj.mk eZ bn 0 0 0 0 (Kerb.aY.mk [] [] []) []);aD (Kerb.dL eZ) (Zy (z3 [Ym 0 0] [(0,[Zv hO,Zz .i64 n,Zu gV])]) fun(r:AV×aC)=>aL (Zk r) fun(x:List AV) (mf:List (List AV))=>bq x fun iw gu=>ak .i64 gu fun n g8=>aE g8 fun jp g9=>aw g9 (aN mf (Xu .u64 (Zf r) fun b_=>Zy (so [Ym 0 0] [(0,[Zv iw,Zz .i64 n,Zu jp])]) fun(r:AV×aC)=>aL (Zk r) fun(x:List AV) (kf:List (List AV))=>bq x fun mW lB=>ak .i64 lB fun n lC=>aE lC fun oG mc=>aw mc (aN kf (Xu .i64 (Zf r) fun eO=>Zy (so [Ym 0 0] [(0,[Zv mW,Zz .i64 n,Zu oG])]) fun(r:AV×aC)=>aL (Zk r) fun(x:List AV) (ue:List (List AV))=>bq x fun ig uf=>ak .i64 uf fun n ug=>aE ug fun iT uh=>aw uh (aN ue (Xu .i64 (Zf r) fun bY=>Zy (vR [Ym 0 0] [(0,[Zv ig,Zz .i64 n,Zu iT])]) fun(r:AV×aC)=>aL (Zk r) fun(x:List AV) (wV:List (List AV))=>bq x fun js wW=>ak .i64 wW fun n wX=>aE wX fun iK wY=>aw wY (aN wV (Xu .i64 (Zf r) fun bF=>Zy (F9 [Ym 0 0] [(0,[Zv js,Zz .i64 n,Zu iK])]) fun(r:AV×aC)=>aL (Zk r) fun(x:List AV) (Dn:List (List AV))=>bq x fun nJ Dp=>ak .i64 Dp fun n Dq=>aE Dq fun mZ Dr=>aw Dr (aN Dn (Xj (Zf r) fun cs=>aK cs fun qV r=>aK r fun sX r=>aK r fun wq r=>aw r (Zy (vR [Ym 0 0] [(0,[Zv nJ,Zz .i64 n,Zu mZ])]) fun(r:AV×aC)=>aL (Zk r) fun(x:List AV) (Ds:List (List AV))=>bq x fun wu Dt=>ak .i64 Dt fun n Du=>aE Du fun AJ Dv=>aw Dv (aN Ds (Xu .i64 (Zf r) fun fb=>Zy (qF [Ym 0 0,Zz .i64 fb] [(0,[Zv wu,Zz .i64 n,Zu AJ])]) fun(r:AV×aC)=>aL (Zk r) fun(x:List AV) (Dw:List (List AV))=>bq x fun Jk HL=>ak .i64 HL fun n HM=>aE HM fun G0 HN=>aw HN (aN Dw (AV.eA (Zf r) fun AK=>let t3:AV:=Yz [Zw eZ,Zz .i64 bn,Zz .u64 b_,Zz .i64 eO,Zz .i64 bY,Zz .i64 bF,Zw qV,Zw sX,Zw wq,Zv AK];aD G0 t0 (Zy (F_ [t3] []) (kT fun vs=>bq vs fun Jl r=>ak .i64 r fun n r=>aw r (aD (!n==0) t0 (aD (!Jl==b) t0 (Zd (Yy [t3,Zz .i64 0],[])))))))))))))))))))))) (aD gV t0 (aD (!Kerb.lW.err t2==0) t0 (aD (!Kerb.lW.val t2==b) t0 (Zd (Yy [Yz (Zw eZ::Zz .i64 bn::t1),Zz .i64 0],[])))))))))) (by kernel_rfl) ?_;delta kT;dsimp only[qF,so,z3,vR,F9,F_,aK,bq,aE,dl,ak,bW,dx];have hb:=Qa3 aB;simp only[A0,aB];cases ht:Kerb.dL (Wx b 4 0 Yj).val
 ·rw[aA];exact Kerb.fM (no:=Kerb.t_) (enc:=Kerb.bm) (rd:=Kerb.nB) _ _ (by unfold Kerb.nB Kerb.HH;dsimp only;rw[ht];rfl) (fun x e=>(Yy [Yz [Zw (x).label,Zz Zb (x).time,Zz IntKind.u64 (x).aG,Zz Zb (x).start,Zz Zb (x).stop,Zz Zb (x).bP,Zw (x).service.name,Zw (x).service.inst,Zw (x).service.aJ,Zv (x).aM],Zz Zb e],([]:aC)))
 ·have hk:∀ p q,0<=(Kerb.zF b p q).val/\(Kerb.zF b p q).val<18446744073709551616:=Kerb.ye b;have lp:=Kerb.BR b;rw[cc,ae (by simp only[Zg,Qa2];exact⟨⟨⟨⟨Zh (lp _ _).1 (by omega),Zh (lp _ _).2.1 (by omega)⟩,Zh (lp _ _).2.2 (by omega)⟩,(hk _ _).1⟩,(hk _ _).2⟩)];exact Kerb.fM (no:=Kerb.t_) (enc:=Kerb.bm) (rd:=Kerb.nB) _ _ (by unfold Kerb.nB Kerb.HH;dsimp only;rw[ht];rfl) (fun x e=>(Yy [Yz [Zw (x).label,Zz Zb (x).time,Zz IntKind.u64 (x).aG,Zz Zb (x).start,Zz Zb (x).stop,Zz Zb (x).bP,Zw (x).service.name,Zw (x).service.inst,Zw (x).service.aJ,Zv (x).aM],Zz Zb e],([]:aC)))
theorem w77:Wk 77 10 Ow:=by
 refine cw Tryz.func77 rfl fun xs bl r h=> ?_;unfold Ow at h;split at h;case h_2=>cases h
 rename_i b;obtain⟨aB,rfl⟩:=dz h;refine cu (let t0:Option (AV×aC):=Zd (Yy [Yz [Zw [],Zw [],Zw [],Zw [],Zw [],Zw [],Zz .u64 0,Zz .i64 0,Zz .i64 0,Zz .i64 0],Zz .i64 100],[]);Zy (tz [Ym 0 0] [(0,[Zv b,Zz .i64 0,Zu Yj])]) fun(r:AV×aC)=>aL (Zk r) fun(x:List AV) (eH:List (List AV))=>bq x fun cG eP=>ak .i64 eP fun n eV=>aE eV fun eQ fR=>aw fR (aN eH (Xj (Zf r) fun cs=>aK cs fun eZ r=>aK r fun hO r=>aK r fun gV r=>aw r (Zy (tz [Ym 0 0] [(0,[Zv cG,Zz .i64 n,Zu eQ])]) fun(r:AV×aC)=>aL (Zk r) fun(x:List AV) (hZ:List (List AV))=>bq x fun iw jj=>ak .i64 jj fun n kG=>aE kG fun jp mT=>aw mT (aN hZ (Xj (Zf r) fun cs=>aK cs fun mW r=>aK r fun oG r=>aK r fun ig r=>aw r (Zy (z4 [Ym 0 0] [(0,[Zv iw,Zz .i64 n,Zu jp])]) fun(r:AV×aC)=>aL (Zk r) fun(x:List AV) (mf:List (List AV))=>bq x fun iT gu=>ak .i64 gu fun n g8=>aE g8 fun js g9=>aw g9 (aN mf (Xu .u64 (Zf r) fun bn=>Zy (tA [Ym 0 0] [(0,[Zv iT,Zz .i64 n,Zu js])]) fun(r:AV×aC)=>aL (Zk r) fun(x:List AV) (kf:List (List AV))=>bq x fun iK lB=>ak .i64 lB fun n lC=>aE lC fun nJ mc=>aw mc (aN kf (Xu .i64 (Zf r) fun b_=>Zy (tA [Ym 0 0] [(0,[Zv iK,Zz .i64 n,Zu nJ])]) fun(r:AV×aC)=>aL (Zk r) fun(x:List AV) (ue:List (List AV))=>bq x fun mZ uf=>ak .i64 uf fun n ug=>aE ug fun qV uh=>aw uh (aN ue (Xu .i64 (Zf r) fun eO=>Zy (tA [Ym 0 0] [(0,[Zv mZ,Zz .i64 n,Zu qV])]) fun(r:AV×aC)=>aL (Zk r) fun(x:List AV) (wV:List (List AV))=>bq x fun sX wW=>ak .i64 wW fun n wX=>aE wX fun wq wY=>aw wY (aN wV (Xu .i64 (Zf r) fun n=>let t1:AV:=Yz [Zw eZ,Zw hO,Zw gV,Zw mW,Zw oG,Zw ig,Zz .u64 bn,Zz .i64 b_,Zz .i64 eO,Zz .i64 n];aD wq t0 (Zy (F' [t1] []) (kT fun vs=>bq vs fun wu r=>ak .i64 r fun n r=>aw r (aD (!n==0) t0 (aD (!wu==b) t0 (Zd (Yy [t1,Zz .i64 0],[]))))))))))))))))))))) (by kernel_rfl) ?_;delta kT;dsimp only[tz,z4,tA,F',aK,bq,aE,dl,ak,bW,dx];have hb:=Qa3 aB;have lp:∀ p c,(Wz b p c).val.name.length<=9223372036854775807/\(Wz b p c).val.inst.length<=9223372036854775807/\(Wz b p c).val.aJ.length<=9223372036854775807:=fun p c=>by
  have h:=Kerb.n0 b p;exact⟨Zh h.1 (by omega),Zh h.2.1 (by omega),Zh h.2.2 (by omega)⟩
 have hk:∀ p c,0<=(Kerb.xP b p c).val/\(Kerb.xP b p c).val<18446744073709551616:=Kerb.xX b;simp only[A0,Yd,Yn,Kerb.eE.av,aB,lp,hk,Qb2,Yq];unfold Kerb.dT;exact Kerb.fM (no:=Kerb.MR) (enc:=Kerb.eN) (rd:=Kerb.FG) _ _ rfl (fun x e=>(Yy [Yz [Zw (x).client.name,Zw (x).client.inst,Zw (x).client.aJ,Zw (x).service.name,Zw (x).service.inst,Zw (x).service.aJ,Zz IntKind.u64 (x).aG,Zz Zb (x).start,Zz Zb (x).stop,Zz Zb (x).addr],Zz Zb e],([]:aC)))
theorem w78:Wk 78 10 Ox:=by
 refine cw Tryz.func78 rfl fun xs bl r h=> ?_;unfold Ox at h;split at h;case h_2=>cases h
 rename_i b;obtain⟨aB,rfl⟩:=dz h;refine cu (let t0:Option (AV×aC):=Zd (Yy [Yz [Zz .u64 0,Zw [],Zw [],Zw [],Zz .i64 0,Zz .i64 0,Zv []],Zz .i64 100],[]);Zy (z4 [Ym 0 0] [(0,[Zv b,Zz .i64 0,Zu Yj])]) fun(r:AV×aC)=>aL (Zk r) fun(x:List AV) (eH:List (List AV))=>bq x fun cG eP=>ak .i64 eP fun n eV=>aE eV fun eQ fR=>aw fR (aN eH (Xu .u64 (Zf r) fun bn=>Zy (tz [Ym 0 0] [(0,[Zv cG,Zz .i64 n,Zu eQ])]) fun(r:AV×aC)=>aL (Zk r) fun(x:List AV) (hZ:List (List AV))=>bq x fun eZ jj=>ak .i64 jj fun n kG=>aE kG fun hO mT=>aw mT (aN hZ (Xj (Zf r) fun cs=>aK cs fun gV r=>aK r fun iw r=>aK r fun jp r=>aw r (Zy (tA [Ym 0 0] [(0,[Zv eZ,Zz .i64 n,Zu hO])]) fun(r:AV×aC)=>aL (Zk r) fun(x:List AV) (mf:List (List AV))=>bq x fun mW gu=>ak .i64 gu fun n g8=>aE g8 fun oG g9=>aw g9 (aN mf (Xu .i64 (Zf r) fun b_=>Zy (tA [Ym 0 0] [(0,[Zv mW,Zz .i64 n,Zu oG])]) fun(r:AV×aC)=>aL (Zk r) fun(x:List AV) (kf:List (List AV))=>bq x fun ig lB=>ak .i64 lB fun n lC=>aE lC fun iT mc=>aw mc (aN kf (Xu .i64 (Zf r) fun eO=>Zy (z6 [Ym 0 0] [(0,[Zv ig,Zz .i64 n,Zu iT])]) fun(r:AV×aC)=>aL (Zk r) fun(x:List AV) (ue:List (List AV))=>bq x fun js uf=>ak .i64 uf fun n ug=>aE ug fun iK uh=>aw uh (aN ue (Xu .i64 (Zf r) fun bY=>Zy (vS [Ym 0 0,Zz .i64 bY] [(0,[Zv js,Zz .i64 n,Zu iK])]) fun(r:AV×aC)=>aL (Zk r) fun(x:List AV) (wV:List (List AV))=>bq x fun nJ wW=>ak .i64 wW fun n wX=>aE wX fun mZ wY=>aw wY (aN wV (AV.eA (Zf r) fun qV=>let t1:AV:=Yz [Zz .u64 bn,Zw gV,Zw iw,Zw jp,Zz .i64 b_,Zz .i64 eO,Zv qV];aD mZ t0 (Zy (Ga [t1] []) (kT fun vs=>bq vs fun sX r=>ak .i64 r fun n r=>aw r (aD (!n==0) t0 (aD (!sX==b) t0 (Zd (Yy [t1,Zz .i64 0],[])))))))))))))))))))) (by kernel_rfl) ?_;delta kT;dsimp only[tz,z4,tA,vS,z6,Ga,aK,bq,aE,dl,ak,bW,dx];have hb:=Qa3 aB;have lp:∀ p c,(Wz b p c).val.name.length<=9223372036854775807/\(Wz b p c).val.inst.length<=9223372036854775807/\(Wz b p c).val.aJ.length<=9223372036854775807:=fun p c=>by
  have h:=Kerb.n0 b p;exact⟨Zh h.1 (by omega),Zh h.2.1 (by omega),Zh h.2.2 (by omega)⟩
 have hk:∀ p c,0<=(Kerb.xP b p c).val/\(Kerb.xP b p c).val<18446744073709551616:=Kerb.xX b;simp only[A0,Yd,Yn,Kerb.eE.av,aB,lp,hk,Qb2,Yq];unfold Kerb.dp;exact Kerb.fM (no:=Kerb.I0) (enc:=Kerb.dU) (rd:=Kerb.BV) _ _ rfl (fun x e=>(Yy [Yz [Zz IntKind.u64 (x).aG,Zw (x).service.name,Zw (x).service.inst,Zw (x).service.aJ,Zz Zb (x).start,Zz Zb (x).stop,Zv (x).record],Zz Zb e],([]:aC)))
theorem ZI:Wk 123 10 FZ:=by
 refine cw Tryz.func123 rfl fun xs bl r h=> ?_;unfold FZ at h;split at h;case h_2=>cases h
 rename_i b;obtain⟨aB,rfl⟩:=dz h
 refine cu (let t1:AV:=Yz [Zz .i64 0,Zw [],Zw [],Zw [],Zz .i64 0,Zw [],Zv [],Zw [],Zw [],Zv []];let t0:Option (AV×aC):=Zd (Yy [t1,Zz .i64 100],[]);aD (!Zk (Xz b [9])==0) (Zd (Yy [t1,Zz .i64 (Zk (Xz b [9]))],[])) (Zy (az (Zj (Zx b<=140737488355328)) (Zd (Zz .i64 (Yk (Yb b 1 2 Yj)),[[Zv b,Zz .i64 (Yf (Yb b 1 2 Yj)),Zu (Yg (Yb b 1 2 Yj))]]))) fun(r:AV×aC)=>aL (Zk r) fun(x:List AV) (eH:List (List AV))=>bq x fun cG eP=>ak .i64 eP fun n eV=>aE eV fun eQ fR=>aw fR (aN eH (Xu .i64 (Zf r) fun bn=>aD (bn==2) (Zy (az (Zj (Zx cG<=140737488355328)) (Zd (Zz .i64 (Yk (Yb cG 1 n eQ)),[[Zv cG,Zz .i64 (Yf (Yb cG 1 n eQ)),Zu (Yg (Yb cG 1 n eQ))]]))) fun(r:AV×aC)=>aL (Zk r) fun(x:List AV) (hZ:List (List AV))=>bq x fun eZ jj=>ak .i64 jj fun n kG=>aE kG fun hO mT=>aw mT (aN hZ (Xu .i64 (Zf r) fun b_=>Zy (az (Zj (Zx eZ<=140737488355328)) (Zd (Zw (Yk (Kerb.lU eZ n hO)),[[Zv eZ,Zz .i64 (Yf (Kerb.lU eZ n hO)),Zu (Yg (Kerb.lU eZ n hO))]]))) fun(r:AV×aC)=>aL (Zk r) fun(x:List AV) (mf:List (List AV))=>bq x fun gV gu=>ak .i64 gu fun n g8=>aE g8 fun iw g9=>aw g9 (aN mf (AV.gq (Zf r) fun jp=>Zy (az (Zj (Zx gV<=140737488355328)) (Zd (Zz .i64 (Yk (Yb gV 1 n iw)),[[Zv gV,Zz .i64 (Yf (Yb gV 1 n iw)),Zu (Yg (Yb gV 1 n iw))]]))) fun(r:AV×aC)=>aL (Zk r) fun(x:List AV) (kf:List (List AV))=>bq x fun mW lB=>ak .i64 lB fun n lC=>aE lC fun oG mc=>aw mc (aN kf (Xu .i64 (Zf r) fun eO=>Zy (az (Zj (Zx mW<=140737488355328)) (Zd (Zv (Yk (Wx mW eO n oG)),[[Zv mW,Zz .i64 (Yf (Wx mW eO n oG)),Zu (Yg (Wx mW eO n oG))]]))) fun(r:AV×aC)=>aL (Zk r) fun(x:List AV) (ue:List (List AV))=>bq x fun ig uf=>ak .i64 uf fun n ug=>aE ug fun iT uh=>aw uh (aN ue (AV.eA (Zf r) fun js=>Zy (az (Zj (Zx ig<=140737488355328)) (Zd (Zw (Yk (Kerb.lU ig n iT)),[[Zv ig,Zz .i64 (Yf (Kerb.lU ig n iT)),Zu (Yg (Kerb.lU ig n iT))]]))) fun(r:AV×aC)=>aL (Zk r) fun(x:List AV) (wV:List (List AV))=>bq x fun iK wW=>ak .i64 wW fun n wX=>aE wX fun nJ wY=>aw wY (aN wV (AV.gq (Zf r) fun mZ=>Zy (az (Zj (Zx iK<=140737488355328)) (Zd (Zw (Yk (Kerb.lU iK n nJ)),[[Zv iK,Zz .i64 (Yf (Kerb.lU iK n nJ)),Zu (Yg (Kerb.lU iK n nJ))]]))) fun(r:AV×aC)=>aL (Zk r) fun(x:List AV) (Dn:List (List AV))=>bq x fun qV Dp=>ak .i64 Dp fun n Dq=>aE Dq fun sX Dr=>aw Dr (aN Dn (AV.gq (Zf r) fun wq=>Zy (az (Zj (Zx qV<=140737488355328)) (Zd (Zz .i64 (Yk (Yb qV 2 n sX)),[[Zv qV,Zz .i64 (Yf (Yb qV 2 n sX)),Zu (Yg (Yb qV 2 n sX))]]))) fun(r:AV×aC)=>aL (Zk r) fun(x:List AV) (Ds:List (List AV))=>bq x fun wu Dt=>ak .i64 Dt fun n Du=>aE Du fun AJ Dv=>aw Dv (aN Ds (Xu .i64 (Zf r) fun bY=>Zy (az (Zj (Zx wu<=140737488355328)) (Zd (Zv (Yk (Wx wu bY n AJ)),[[Zv wu,Zz .i64 (Yf (Wx wu bY n AJ)),Zu (Yg (Wx wu bY n AJ))]]))) fun(r:AV×aC)=>aL (Zk r) fun(x:List AV) (Dw:List (List AV))=>bq x fun Jk HL=>ak .i64 HL fun n HM=>aE HM fun G0 HN=>aw HN (aN Dw (AV.eA (Zf r) fun AK=>aD G0 t0 (Zy (az (dx jp&&dx mZ&&dx wq) (Zd (Yy [Zv (Kerb.lW.val (Ww (Kerb.dZ.mk bn (Kerb.aY.mk [] [] []) b_ jp js mZ wq AK))),Zz .i64 (Kerb.lW.err (Ww (Kerb.dZ.mk bn (Kerb.aY.mk [] [] []) b_ jp js mZ wq AK)))],[]))) (kT fun vs=>bq vs fun Jl r=>ak .i64 r fun n r=>aw r (aD (!n==0) t0 (aD (!Jl==b) t0 (Zd (Yy [Yz [Zz .i64 bn,Zw [],Zw [],Zw [],Zz .i64 b_,Zw jp,Zv js,Zw mZ,Zw wq,Zv AK],Zz .i64 0],[]))))))))))))))))))))))) (Zy (az (Zj (Zx cG<=140737488355328)) (Zd (Yz [Zw (Kerb.aY.name (Yk (Kerb.mR cG n eQ))),Zw (Kerb.aY.inst (Yk (Kerb.mR cG n eQ))),Zw (Kerb.aY.aJ (Yk (Kerb.mR cG n eQ)))],[[Zv cG,Zz .i64 (Yf (Kerb.mR cG n eQ)),Zu (Yg (Kerb.mR cG n eQ))]]))) fun(r:AV×aC)=>aL (Zk r) fun(x:List AV) (hZ:List (List AV))=>bq x fun eZ jj=>ak .i64 jj fun n kG=>aE kG fun hO mT=>aw mT (aN hZ (Xj (Zf r) fun cs=>aK cs fun gV r=>aK r fun iw r=>aK r fun jp r=>aw r (Zy (az (Zj (Zx eZ<=140737488355328)) (Zd (Zz .i64 (Yk (Yb eZ 2 n hO)),[[Zv eZ,Zz .i64 (Yf (Yb eZ 2 n hO)),Zu (Yg (Yb eZ 2 n hO))]]))) fun(r:AV×aC)=>aL (Zk r) fun(x:List AV) (mf:List (List AV))=>bq x fun mW gu=>ak .i64 gu fun n g8=>aE g8 fun oG g9=>aw g9 (aN mf (Xu .i64 (Zf r) fun b_=>Zy (az (Zj (Zx mW<=140737488355328)) (Zd (Zv (Yk (Wx mW b_ n oG)),[[Zv mW,Zz .i64 (Yf (Wx mW b_ n oG)),Zu (Yg (Wx mW b_ n oG))]]))) fun(r:AV×aC)=>aL (Zk r) fun(x:List AV) (kf:List (List AV))=>bq x fun ig lB=>ak .i64 lB fun n lC=>aE lC fun iT mc=>aw mc (aN kf (AV.eA (Zf r) fun js=>aD iT t0 (Zy (az (dx gV&&dx iw&&dx jp&&Yh&&Yh&&Yh) (Zd (Yy [Zv (Kerb.lW.val (Ww (Kerb.dZ.mk bn (Kerb.aY.mk gV iw jp) 0 [] [] [] [] js))),Zz .i64 (Kerb.lW.err (Ww (Kerb.dZ.mk bn (Kerb.aY.mk gV iw jp) 0 [] [] [] [] js)))],[]))) (kT fun vs=>bq vs fun iK r=>ak .i64 r fun n r=>aw r (aD (!n==0) t0 (aD (!iK==b) t0 (Zd (Yy [Yz [Zz .i64 bn,Zw gV,Zw iw,Zw jp,Zz .i64 0,Zw [],Zv [],Zw [],Zw [],Zv js],Zz .i64 0],[])))))))))))))))))) (by kernel_rfl) ?_
 delta kT;try dsimp only[aK,bq,aE,dl,ak,bW,dx]
 have hb:=Qa3 aB;simp only[A0];by_cases h:(Xz b [9]).2=0;case neg =>
  rw[ag (by simpa using h)];unfold Kerb.bu;rw[Qa1 h];rfl
 have hd:Kerb.bu b=Kerb.iy Kerb.vC Ww Kerb.nC b:=by unfold Kerb.bu;rw[Qa0 (by simpa using h)]
 rw[aj (by simp[h]),hd];rw[ae aB];by_cases h2:(Yb b 1 2 Yj).val=2
 ·have e2:((Yb b 1 2 Yj).val==2)=Yh:=by simpa using h2
  rw[ag e2];rw[ae aB,ae aB,ae aB,ae aB,ae aB,ae aB,ae aB,ae aB];have lt:=Kerb.Km b;rw[ae (by simp only[Zg,Qa2];exact⟨⟨Zh (lt _ _) (by omega),Zh (lt _ _) (by omega)⟩,Zh (lt _ _) (by omega)⟩)];exact Kerb.fM (no:=Kerb.vC) (enc:=Ww) (rd:=Kerb.nC) _ _ (by unfold Kerb.nC Kerb.HI;dsimp only;rw[e2];rfl) (fun x e=>(Yy [Yz [Zz Zb (x).op,Zw (x).user.name,Zw (x).user.inst,Zw (x).user.aJ,Zz Zb (x).bP,Zw (x).aJ,Zv (x).aM,Zw (x).service,Zw (x).inst,Zv (x).box],Zz Zb e],([]:aC)))
 ·have e2:((Yb b 1 2 Yj).val==2)=Yj:=by simpa using h2
  rw[aj e2];rw[ae aB,ae aB,ae aB];have lt:=Kerb.BR b (Yb b 1 2 Yj).pos (Yb b 1 2 Yj).bad;rw[ae (by simp;omega)];exact Kerb.fM (no:=Kerb.vC) (enc:=Ww) (rd:=Kerb.nC) _ _ (by unfold Kerb.nC Kerb.HI;dsimp only;rw[e2];rfl) (fun x e=>(Yy [Yz [Zz Zb (x).op,Zw (x).user.name,Zw (x).user.inst,Zw (x).user.aJ,Zz Zb (x).bP,Zw (x).aJ,Zv (x).aM,Zw (x).service,Zw (x).inst,Zv (x).box],Zz Zb e],([]:aC)))
theorem ZK:Wk 125 10 F3:=by
 refine cw Tryz.func125 rfl fun xs bl r h=> ?_;unfold F3 at h;split at h;case h_2=>cases h
 rename_i b;obtain⟨aB,rfl⟩:=dz h;refine cu (let t1:AV:=Yz [Zz .i64 0,Zw [],Zw [],Zw [],Zv []];let t0:Option (AV×aC):=Zd (Yy [t1,Zz .i64 100],[]);aD (!Zk (Xz b [10])==0) (Zd (Yy [t1,Zz .i64 (Zk (Xz b [10]))],[])) (Zy (Gg [Ym 0 0] [(0,[Zv b,Zz .i64 2,Zu Yj])]) fun(r:AV×aC)=>aL (Zk r) fun(x:List AV) (eH:List (List AV))=>bq x fun cG eP=>ak .i64 eP fun n eV=>aE eV fun eQ fR=>aw fR (aN eH (Xu .i64 (Zf r) fun bn=>Zy (tz [Ym 0 0] [(0,[Zv cG,Zz .i64 n,Zu eQ])]) fun(r:AV×aC)=>aL (Zk r) fun(x:List AV) (hZ:List (List AV))=>bq x fun eZ jj=>ak .i64 jj fun n kG=>aE kG fun hO mT=>aw mT (aN hZ (Xj (Zf r) fun cs=>aK cs fun gV r=>aK r fun iw r=>aK r fun jp r=>aw r (Zy (z6 [Ym 0 0] [(0,[Zv eZ,Zz .i64 n,Zu hO])]) fun(r:AV×aC)=>aL (Zk r) fun(x:List AV) (mf:List (List AV))=>bq x fun mW gu=>ak .i64 gu fun n g8=>aE g8 fun oG g9=>aw g9 (aN mf (Xu .i64 (Zf r) fun b_=>Zy (vS [Ym 0 0,Zz .i64 b_] [(0,[Zv mW,Zz .i64 n,Zu oG])]) fun(r:AV×aC)=>aL (Zk r) fun(x:List AV) (kf:List (List AV))=>bq x fun ig lB=>ak .i64 lB fun n lC=>aE lC fun iT mc=>aw mc (aN kf (AV.eA (Zf r) fun js=>let t2:AV:=Yz [Zz .i64 bn,Zw gV,Zw iw,Zw jp,Zv js];aD iT t0 (Zy (Gh [t2] []) (kT fun vs=>bq vs fun iK r=>ak .i64 r fun n r=>aw r (aD (!n==0) t0 (aD (!iK==b) t0 (Zd (Yy [t2,Zz .i64 0],[]))))))))))))))))) (by kernel_rfl) ?_;delta kT;dsimp only[tz,vS,z6,Gg,Gh,aK,bq,aE,dl,ak,bW,dx];have hb:=Qa3 aB;have lp:∀ p c,(Wz b p c).val.name.length<=9223372036854775807/\(Wz b p c).val.inst.length<=9223372036854775807/\(Wz b p c).val.aJ.length<=9223372036854775807:=fun p c=>by
  have h:=Kerb.n0 b p;exact⟨Zh h.1 (by omega),Zh h.2.1 (by omega),Zh h.2.2 (by omega)⟩
 simp only[A0,Yd,Yn,Kerb.eE.av,aB,lp,Qb2,Yq];by_cases h:(Xz b [10]).2=0;case neg =>
  rw[ag (by simpa using h)];unfold Kerb.fu;rw[Qa1 h];rfl
 rw[aj (by simp[h])];unfold Kerb.fu;rw[Qa0 (by simpa using h)];exact Kerb.fM (no:=Kerb.HC) (enc:=Kerb.eM) (rd:=Kerb.FF) _ _ rfl (fun x e=>(Yy [Yz [Zz Zb (x).op,Zw (x).name.name,Zw (x).name.inst,Zw (x).name.aJ,Zv (x).box],Zz Zb e],([]:aC)))
theorem w15:Wk 15 11 PX:=by
 refine cw Tryz.func15 rfl fun xs bl r h=> ?_;unfold PX at h;split at h;case h_2=>cases h
 rename_i kd k b;obtain⟨aB,rfl⟩:=dz h
 refine cu (aD (kd==1) (Zy (Ot [Zv b] []) (kT fun vs=>ay vs fun x r=>Xj x fun cs=>aE cs fun b eH=>aK eH fun b eP=>aK eP fun b eV=>aK eV fun b fR=>ak .i64 fR fun n hZ=>ak .u64 hZ fun n jj=>ak .i64 jj fun bn kG=>ak .i64 kG fun b_ mT=>aK mT fun b mf=>aK mf fun b gu=>aw gu (ak .i64 r fun eO r=>aw r (aD (eO==0) (Zy (Al [Zq 1 [Zz .u64 n]] []) fun(r:AV×aC)=>aN (Zk r) (Xm 1 (Zf r) fun b=>Zd (Yy [Zq 1 b,Zq 1 []],[]))) (Zd (Yy [Zq 1 [],Zq 1 []],[])))))) (aD (kd==3) (Zy (KM [Zv b,Zu Yj] []) (kT fun vs=>ay vs fun x r=>Xj x fun cs=>ak .u64 cs fun n eH=>aK eH fun cG eP=>aK eP fun eQ eV=>aK eV fun eZ fR=>ak .i64 fR fun bn hZ=>ak .i64 hZ fun b_ jj=>bq jj fun hO kG=>ak .i64 kG fun eO mT=>aw mT (ak .i64 r fun bY r=>aw r (aD (!bY==0) (Zy (KM [Zv b,Zu Yh] []) (kT fun vs=>ay vs fun x r=>Xj x fun cs=>ak .u64 cs fun n mf=>aK mf fun b gu=>aK gu fun b g8=>aK g8 fun b g9=>ak .i64 g9 fun bF kf=>ak .i64 kf fun fb lB=>bq lB fun b lC=>ak .i64 lC fun eX mc=>aw mc (ak .i64 r fun gK r=>aw r (aD (gK==0) (Zy (Al [Zq 1 [Zz .u64 n]] []) fun(r:AV×aC)=>aN (Zk r) (Xm 1 (Zf r) fun gV=>Zy (Bb [Zq 1 [Zv b]] []) fun(r:AV×aC)=>aN (Zk r) (Xm 1 (Zf r) fun b=>Zd (Yy [Zq 1 gV,Zq 1 b],[])))) (Zd (Yy [Zq 1 [],Zq 1 []],[])))))) (aD (bY==0) (Zy (Al [Zq 1 [Zz .u64 n]] []) fun(r:AV×aC)=>aN (Zk r) (Xm 1 (Zf r) fun b=>Zy (Bb [Zq 1 [Zv hO]] []) fun(r:AV×aC)=>aN (Zk r) (Xm 1 (Zf r) fun gV=>Zd (Yy [Zq 1 b,Zq 1 gV],[])))) (Zd (Yy [Zq 1 [],Zq 1 []],[]))))))) (aD (kd==7) (Zy (Ou [Zv b] []) (kT fun vs=>ay vs fun x r=>Xj x fun cs=>aK cs fun b eH=>ak .i64 eH fun n eP=>ak .i64 eP fun n eV=>ak .i64 eV fun n fR=>ak .u64 fR fun n hZ=>aw hZ (ak .i64 r fun bn r=>aw r (aD (bn==0) (Zy (Al [Zq 1 [Zz .u64 n]] []) fun(r:AV×aC)=>aN (Zk r) (Xm 1 (Zf r) fun b=>Zd (Yy [Zq 1 b,Zq 1 []],[]))) (Zd (Yy [Zq 1 [],Zq 1 []],[])))))) (aD (kd==8) (Zy (Ov [Zv b] []) (kT fun vs=>ay vs fun x r=>Xj x fun cs=>aK cs fun b eH=>ak .i64 eH fun n eP=>ak .u64 eP fun n eV=>ak .i64 eV fun bn fR=>ak .i64 fR fun b_ hZ=>ak .i64 hZ fun eO jj=>aK jj fun b kG=>aK kG fun b mT=>aK mT fun b mf=>bq mf fun b gu=>aw gu (ak .i64 r fun bY r=>aw r (aD (bY==0) (Zy (Al [Zq 1 [Zz .u64 n]] []) fun(r:AV×aC)=>aN (Zk r) (Xm 1 (Zf r) fun cG=>Zy (Bb [Zq 1 [Zv b]] []) fun(r:AV×aC)=>aN (Zk r) (Xm 1 (Zf r) fun b=>Zd (Yy [Zq 1 cG,Zq 1 b],[])))) (Zd (Yy [Zq 1 [],Zq 1 []],[])))))) (aD (kd==9) (Zy (Ow [Zv b] []) (kT fun vs=>ay vs fun x r=>Xj x fun cs=>aK cs fun b eH=>aK eH fun b eP=>aK eP fun b eV=>aK eV fun b fR=>aK fR fun b hZ=>aK hZ fun b jj=>ak .u64 jj fun n kG=>ak .i64 kG fun bn mT=>ak .i64 mT fun b_ mf=>ak .i64 mf fun eO gu=>aw gu (ak .i64 r fun bY r=>aw r (aD (bY==0) (Zy (Al [Zq 1 [Zz .u64 n]] []) fun(r:AV×aC)=>aN (Zk r) (Xm 1 (Zf r) fun b=>Zd (Yy [Zq 1 b,Zq 1 []],[]))) (Zd (Yy [Zq 1 [],Zq 1 []],[])))))) (aD (kd==10) (Zy (Ox [Zv b] []) (kT fun vs=>ay vs fun x r=>Xj x fun cs=>ak .u64 cs fun n eH=>aK eH fun b eP=>aK eP fun b eV=>aK eV fun b fR=>ak .i64 fR fun bn hZ=>ak .i64 hZ fun b_ jj=>bq jj fun b kG=>aw kG (ak .i64 r fun eO r=>aw r (aD (eO==0) (Zy (Al [Zq 1 [Zz .u64 n]] []) fun(r:AV×aC)=>aN (Zk r) (Xm 1 (Zf r) fun cG=>Zy (Bb [Zq 1 [Zv b]] []) fun(r:AV×aC)=>aN (Zk r) (Xm 1 (Zf r) fun b=>Zd (Yy [Zq 1 cG,Zq 1 b],[])))) (Zd (Yy [Zq 1 [],Zq 1 []],[])))))) (Zd (Yy [Zq 1 [],Zq 1 []],[])))))))) (by kernel_rfl) ?_
 delta kT;dsimp only[Bb,Ot,Al,KM,Ou,Ov,Ow,Ox,aK,bq,aE,dl,ak,bW,dx];have hb:=Qa3 aB;have VK:Zj (b.length<=140737488355328)=Yh:=by simp;omega
 have k1:=Kerb.wz b;have k2:=Kerb.yw b;have k3:=Kerb.tI b;have k4:=Kerb.tG b;have k5:=Kerb.yx b;have k6:=Kerb.xM b;have t2:=Kerb.tb b;have t4:=Kerb.om b;have t6:=Kerb.ri b;have u2:∀ li,(Kerb.ca b li).val.aM.length<=70368744177664:=fun li=>Zh (t2 li) (by omega);have u4:(Kerb.bJ b).val.aM.length<=70368744177664:=Zh t4 (by omega);have u6:(Kerb.dp b).val.record.length<=70368744177664:=Zh t6 (by omega);simp only[A0,Yd,Yn,Kerb.eE.av,VK,Kerb.Bz k1,Kerb.Bz (k2 _),Kerb.Bz k3,Kerb.Bz k4,Kerb.Bz k5,Kerb.Bz k6,Kerb.My (u2 _),Kerb.My u4,Kerb.My u6];unfold Kerb.k9;simp only;by_cases hq:kd=1
 ·rw[ag (by simpa using hq),Qa1 hq];by_cases g:(Kerb.cA b).err=0
  ·rw[ag (by simpa using g),Qa1 g];rfl
  ·rw[aj (by simpa using g),Qa0 g];rfl
 rw[aj (by simpa using hq),Qa0 hq];clear hq;by_cases hq:kd=3
 ·rw[ag (by simpa using hq),Qa1 hq];by_cases g:(Kerb.ca b Yj).err=0
  ·simp only[g,beq_self_eq_true,Zm,aA,cc,if_true];rfl
  ·have g':((Kerb.ca b Yj).err==0)=Yj:=by simpa using g
   simp only[g',Xb,cc,Qa0 g];by_cases g2:(Kerb.ca b Yh).err=0
   ·rw[ag (by simpa using g2),Qa1 g2];rfl
   ·rw[aj (by simpa using g2),Qa0 g2];rfl
 rw[aj (by simpa using hq),Qa0 hq];clear hq;by_cases hq:kd=7
 ·rw[ag (by simpa using hq),Qa1 hq];by_cases g:(Kerb.dS b).err=0
  ·rw[ag (by simpa using g),Qa1 g];rfl
  ·rw[aj (by simpa using g),Qa0 g];rfl
 rw[aj (by simpa using hq),Qa0 hq];clear hq;by_cases hq:kd=8
 ·rw[ag (by simpa using hq),Qa1 hq];by_cases g:(Kerb.bJ b).err=0
  ·rw[ag (by simpa using g),Qa1 g];rfl
  ·rw[aj (by simpa using g),Qa0 g];rfl
 rw[aj (by simpa using hq),Qa0 hq];clear hq;by_cases hq:kd=9
 ·rw[ag (by simpa using hq),Qa1 hq];by_cases g:(Kerb.dT b).err=0
  ·rw[ag (by simpa using g),Qa1 g];rfl
  ·rw[aj (by simpa using g),Qa0 g];rfl
 rw[aj (by simpa using hq),Qa0 hq];clear hq;by_cases hq:kd=10
 ·rw[ag (by simpa using hq),Qa1 hq];by_cases g:(Kerb.dp b).err=0
  ·rw[ag (by simpa using g),Qa1 g];rfl
  ·rw[aj (by simpa using g),Qa0 g];rfl
 rw[aj (by simpa using hq),Qa0 hq];clear hq;rfl
theorem w48:Wk 48 11 Oh:=by
 refine cw Tryz.func48 rfl fun xs bl r h=> ?_;unfold Oh at h;split at h;case h_2=>cases h
 rename_i b;obtain⟨aB,rfl⟩:=dz h;refine cu (Zy (FU [Zv b] []) (kT fun vs=>ay vs fun x r=>Xj x fun cs=>aE cs fun cG eH=>aK eH fun eQ eP=>aK eP fun eZ eV=>aK eV fun hO fR=>ak .i64 fR fun n hZ=>ak .i64 hZ fun n jj=>ak .i64 jj fun n kG=>bq kG fun gV mT=>aw mT (ak .i64 r fun n r=>aw r (aD (n==0) (Zd (Zq 1 [Zv gV],[])) (Zy (FV [Zv b] []) (kT fun vs=>ay vs fun x r=>Xj x fun cs=>aE cs fun iw mf=>aE mf fun jp gu=>ak .i64 gu fun n g8=>aK g8 fun mW g9=>bq g9 fun oG kf=>bq kf fun ig lB=>aw lB (ak .i64 r fun n r=>aw r (aD (n==0) (Zd (Zq 1 [Zv oG,Zv ig],[])) (Zy (FW [Zv b] []) (kT fun vs=>ay vs fun x r=>Xj x fun cs=>aE cs fun iT lC=>aE lC fun js mc=>ak .i64 mc fun n ue=>aK ue fun iK uf=>bq uf fun nJ ug=>bq ug fun mZ uh=>ak .i64 uh fun n wV=>ak .i64 wV fun n wW=>aK wW fun qV wX=>aK wX fun sX wY=>aw wY (ak .i64 r fun n r=>aw r (aD (n==0) (Zd (Zq 1 [Zv nJ,Zv mZ],[])) (Zy (FX [Zv b] []) (kT fun vs=>bq vs fun wq r=>aE r fun wu r=>ak .i64 r fun n r=>aw r (aD (n==0) (Zd (Zq 1 [Zv wq],[])) (Zy (FY [Zv b] []) (kT fun vs=>bq vs fun AJ r=>bq r fun Jk r=>aE r fun G0 r=>ak .i64 r fun n r=>aw r (aD (n==0) (Zd (Zq 1 [Zv Jk],[])) (Zy (FZ [Zv b] []) (kT fun vs=>ay vs fun x r=>Xj x fun cs=>ak .i64 cs fun n Dn=>aK Dn fun AK Dp=>aK Dp fun Jl Dq=>aK Dq fun Lm Dr=>ak .i64 Dr fun n Ds=>aK Ds fun Ln Dt=>bq Dt fun Jm Du=>aK Du fun Lo Dv=>aK Dv fun Lp Dw=>bq Dw fun Jn HL=>aw HL (ak .i64 r fun n r=>aw r (aD (n==0) (Zd (Zq 1 [Zv Jm,Zv Jn],[])) (Zy (F0 [Zv b] []) (kT fun vs=>ay vs fun x r=>Xj x fun cs=>ak .i64 cs fun n HM=>ak .i64 HM fun n HN=>bq HN fun Lq RZ=>aw RZ (ak .i64 r fun n r=>aw r (aD (n==0) (Zd (Zq 1 [Zv Lq],[])) (Zy (F3 [Zv b] []) (kT fun vs=>ay vs fun x r=>Xj x fun cs=>ak .i64 cs fun n R2=>aK R2 fun b R3=>aK R3 fun b YW=>aK YW fun b YX=>bq YX fun b YY=>aw YY (ak .i64 r fun n r=>aw r (aD (n==0) (Zd (Zq 1 [Zv b],[])) (Zd (Zq 1 [],[])))))))))))))))))))))))))))))))) (by kernel_rfl) ?_;delta kT;dsimp only[FU,FV,FW,FX,FY,FZ,F0,F3,aK,bq,aE,dl,ak,bW,dx];have hb:=Qa3 aB;have VK:Zj (b.length<=140737488355328)=Yh:=by simp;omega
 simp only[A0,Yd,Yn,Kerb.eE.av,VK];unfold Kerb.n6;by_cases hc:(Kerb.bK b).err=0
 ·rw[ag (by simpa using hc),Qa1 hc];rfl
 rw[aj (by simpa using hc),Qa0 hc];clear hc;by_cases hc:(Kerb.fU b).err=0
 ·rw[ag (by simpa using hc),Qa1 hc];rfl
 rw[aj (by simpa using hc),Qa0 hc];clear hc;by_cases hc:(Kerb.dr b).err=0
 ·rw[ag (by simpa using hc),Qa1 hc];rfl
 rw[aj (by simpa using hc),Qa0 hc];clear hc;by_cases hc:(Kerb.ju b).err=0
 ·rw[ag (by simpa using hc),Qa1 hc];rfl
 rw[aj (by simpa using hc),Qa0 hc];clear hc;by_cases hc:(Kerb.im b).err=0
 ·rw[ag (by simpa using hc),Qa1 hc];rfl
 rw[aj (by simpa using hc),Qa0 hc];clear hc;by_cases hc:(Kerb.bu b).err=0
 ·rw[ag (by simpa using hc),Qa1 hc];rfl
 rw[aj (by simpa using hc),Qa0 hc];clear hc;by_cases hc:(Kerb.dD b).err=0
 ·rw[ag (by simpa using hc),Qa1 hc];rfl
 rw[aj (by simpa using hc),Qa0 hc];clear hc;by_cases hc:(Kerb.fu b).err=0
 ·rw[ag (by simpa using hc),Qa1 hc];rfl
 rw[aj (by simpa using hc),Qa0 hc];clear hc;rfl
theorem w11:Wk 11 12 R8:=by
 refine cw Tryz.func11 rfl fun xs bl r h=> ?_;unfold R8 at h;split at h;case h_2=>cases h
 rename_i b;obtain⟨aB,rfl⟩:=dz h;refine cu (Zy (Oh [Zv b] []) fun(r:AV×aC)=>aN (Zk r) (Xm 1 (Zf r) fun b=>Zy (Bb [Zq 1 b] []) fun(r:AV×aC)=>aN (Zk r) (Xm 1 (Zf r) fun b=>Zd (Zq 1 b,[])))) (by kernel_rfl) ?_;dsimp only[Bb,Oh];have hb:=Qa3 aB;have VK:Zj (b.length<=140737488355328)=Yh:=by simp;omega
 simp only[A0,Yd,Yn,Kerb.eE.av,aB,Kerb.DB hb,Kerb.mn];rfl
theorem Y_:K8 Tryz.prog G 102 12 [.ptr,.fl] B8:=by
 refine⟨fun xs bl=> ?_,Tryz.f102,Tryz.func102,by decide +kernel,rfl,fun xN xs bl r h=> ?_⟩
 ·cases h:B8 0 xs bl with
  | none=>rfl
  | some r =>
   unfold B8 at h;split at h
   ·obtain⟨aB,_⟩:=aH h;simp only[Zg,Qa2] at aB;omega
   ·cases h
 unfold B8 at h;split at h
 ·rename_i b ks bs;obtain⟨aB,h2⟩:=aH h;cases h2;show eb ((G.cut 102 12 [.ptr,.fl] (B8 xN)).env 102 13) G.rts (G.own 102) Tryz.f102 _ _ [0]=_;refine Qb1 (b:=(Kerb.MG xN ks bs b:Option (AV×aC))) (by kernel_rfl) ?_;simp only[Zg,Qa2] at aB;obtain⟨s,rfl,rfl,hs⟩:=Kerb.I2 aB.1.1;rw[Kerb.vr];exact Kerb.MH hs aB.1.2 (by have:=aB.2;omega)
 ·cases h
theorem w31:Wk 31 13 R_:=by
 refine cw Tryz.func31 rfl fun xs bl r h=> ?_;unfold R_ at h;split at h;case h_2=>cases h
 rename_i ks bs b;obtain⟨aB,rfl⟩:=dz h;refine cu (Kerb.MZ ks bs b) (by kernel_rfl) ?_;simp only[Zg,Qa2] at aB;obtain⟨s,rfl,rfl,hs⟩:=Kerb.I2 aB.1;rw[Kerb.vr];exact Kerb.M0 hs aB.2
theorem w19:Wk 19 15 KK:=by
 refine cw Tryz.func19 rfl fun xs bl r h=> ?_;unfold KK at h;split at h;case h_2=>cases h
 rename_i ks bs b;obtain⟨aB,rfl⟩:=dz h;refine cu (Kerb.Hs ks bs b) (by kernel_rfl) ?_;simp only[Zg,Qa2] at aB;exact Kerb.J1 aB.1 aB.2
theorem w27:Wk 27 15 N9:=by
 refine cw Tryz.func27 rfl fun xs bl r h=> ?_;unfold N9 at h;split at h;case h_2=>cases h
 rename_i ks bs k;obtain⟨aB,rfl⟩:=dz h;refine cu (Kerb.Mt ks bs k) (by kernel_rfl) ?_;simp only[Zg,Qa2] at aB;obtain⟨⟨⟨a,b⟩,c⟩,d⟩:=aB;exact Kerb.Mu a (by simp[b,c]) d
theorem w8:Wk 8 16 Y7:=by
 refine cw Tryz.func8 rfl fun xs bl r h=> ?_;unfold Y7 at h;split at h;case h_2=>cases h
 cases h;refine cu (Kerb.QR) (by kernel_rfl) ?_;exact Kerb.O4
theorem w18:Wk 18 16 Nz:=by
 refine cw Tryz.func18 rfl fun xs bl r h=> ?_;unfold Nz at h;split at h;case h_2=>cases h
 rename_i ls lk tn;obtain⟨aB,rfl⟩:=dz h;refine cu (Zy (bw (fun st=>bW 7 st fun b r=>bq r fun cG r=>ak .i64 r fun n r=>bW 1 r fun eQ r=>bW 1 r fun eZ r=>bW 1 r fun hO r=>bW 1 r fun gV r=>ak .i64 r fun bn r=>aw r (aD (Zj (bn<(↑(Zx b):Int))) (az (!(↑(Zx b):Int)==0) (az (Zj (0<=Xp (Zp .i64 (bn+n)) (↑(Zx b):Int))&&Zj (Xp (Zp .i64 (bn+n)) (↑(Zx b):Int)<(↑(Zx b):Int))&&Yh) (Xj (Xx b (Yp (Xp (Zp .i64 (bn+n)) (↑(Zx b):Int))) Xf) fun cs=>dl cs fun iw r=>dl r fun jp r=>dl r fun mW r=>dl r fun oG r=>dl r fun ig r=>aE r fun iT r=>ak .u16 r fun b_ r=>aw r (Zy (Sj [Yz [Yv iw,Yv jp,Yv mW,Yv oG,Yv ig,Zu iT,Zz .u16 b_]] []) (kB fun js=>VE [Yz [Zq 1 hO,Zq 1 gV],Zv js] fun iK nJ=>Zd (Sum.inl [Zq 7 b,Zv cG,Zz .i64 n,Zq 1 eQ,Zq 1 eZ,Zq 1 iK,Zq 1 nJ,Zz .i64 (Zp .i64 (bn+1))])))))) (Zd (Sum.inr (Ex.exit 0,[Zq 7 b,Zv cG,Zz .i64 n,Zq 1 eQ,Zq 1 eZ,Zq 1 hO,Zq 1 gV,Zz .i64 bn]))))) [Zq 7 ls,Zv lk,Zz .i64 tn,Zq 1 [],Zq 1 [],Zq 1 [],Zq 1 [],Zz .i64 0]) fun(r:Ex×List AV)=>bW 7 (Zk r) fun b eH=>bq eH fun b eP=>ak .i64 eP fun n eV=>bW 1 eV fun cG fR=>bW 1 fR fun eQ hZ=>bW 1 hZ fun eZ jj=>bW 1 jj fun hO kG=>ak .i64 kG fun bn mT=>aw mT (jq r.1 (Zd (Yz [Zq 1 cG,Zq 1 eQ],[])) fun(j:Nat)=>aD (Nat.beq j 0) (Zy (bw (fun st=>bq st fun b r=>ak .i64 r fun n r=>bW 1 r fun gV r=>bW 1 r fun iw r=>bW 1 r fun jp r=>bW 1 r fun mW r=>ak .i64 r fun b_ r=>aw r (aD (Zj (b_<(↑(Zx b):Int))) (aD (Zj (b_<6)) (az (!Kerb.tP 6 (↑(Zx b):Int)==0) (az (Zj (0<=Xp (Zp .i64 (b_+n)) (Kerb.tP 6 (↑(Zx b):Int)))&&Zj (Xp (Zp .i64 (b_+n)) (Kerb.tP 6 (↑(Zx b):Int))<(↑(Zx b):Int))) (C27 [Yz [Zq 1 jp,Zq 1 mW],Zz .u64 (Kerb.ic (Xx b (Yp (Xp (Zp .i64 (b_+n)) (Kerb.tP 6 (↑(Zx b):Int)))) (0:UInt8)))] fun oG ig=>Zd (Sum.inl [Zv b,Zz .i64 n,Zq 1 gV,Zq 1 iw,Zq 1 oG,Zq 1 ig,Zz .i64 (Zp .i64 (b_+1))])))) (Zd (Sum.inr (Ex.exit 2,[Zv b,Zz .i64 n,Zq 1 gV,Zq 1 iw,Zq 1 jp,Zq 1 mW,Zz .i64 b_])))) (Zd (Sum.inr (Ex.exit 2,[Zv b,Zz .i64 n,Zq 1 gV,Zq 1 iw,Zq 1 jp,Zq 1 mW,Zz .i64 b_]))))) [Zv b,Zz .i64 n,Zq 1 cG,Zq 1 eQ,Zq 1 eZ,Zq 1 hO,Zz .i64 0]) fun(r:Ex×List AV)=>bq (Zk r) fun b mf=>ak .i64 mf fun n gu=>bW 1 gu fun b g8=>bW 1 g8 fun gV g9=>bW 1 g9 fun iw kf=>bW 1 kf fun jp lB=>ak .i64 lB fun n lC=>aw lC (jq r.1 (Zd (Yz [Zq 1 b,Zq 1 gV],[])) fun(j:Nat)=>aD (Nat.beq j 2) (Zd (Yz [Zq 1 iw,Zq 1 jp],[])) none)) none)) (by kernel_rfl) ?_;unfold VE C27;delta kA kB;dsimp only[Sj,KK,N9,aK,bq,aE,dl,ak,bW,dx];simp only[Zg,Qa2] at aB;obtain⟨⟨⟨fK,hl⟩,Rs⟩,hn1⟩:=aB;obtain⟨n,rfl⟩:∃ n:Nat,tn=n:=⟨tn.toNat,by omega⟩;unfold Kerb.mG Kerb.Ld;rw[Wv];have f1:=Kerb.yH (Kerb.BK ls n) (by rw[Kerb.ij];omega);rw[Kerb.ij] at f1;refine Kerb.lF (fun i=>[.sl 7 ls,.bs lk,.int .i64 (n:Int),.sl 1 [],.sl 1 [],.sl 1 (Xk (((Kerb.gO ls n).take i).foldl Xd Kerb.zy).keys),.sl 1 (Xw (((Kerb.gO ls n).take i).foldl Xd Kerb.zy).boxes),.int .i64 (i:Int)]) ls.length (fun i hi=> ?_)
  ⟨(.exit 0,[.sl 7 ls,.bs lk,.int .i64 (n:Int),.sl 1 [],.sl 1 [],.sl 1 (Xk ((Kerb.gO ls n).foldl Xd Kerb.zy).keys),.sl 1 (Xw ((Kerb.gO ls n).foldl Xd Kerb.zy).boxes),.int .i64 (ls.length:Int)]),?_,?_⟩ rfl
 case refine_2 =>
  rw[<-Kerb.ij ls n,List.take_length,Kerb.ij];simp only[↓A0,A0,show Zj ((ls.length:Int)<(ls.length:Int))=Yj from by simp]
 ·have eY:(i+n) % ls.length<ls.length:=Nat.mod_lt _ (by omega);obtain⟨t,e1,t0,t1,e2⟩:=Kerb.GF fK eY;have hS:=Kerb.sD Xd Kerb.zy [] (l:=Kerb.gO ls n) (i:=i) (by rw[Kerb.ij];exact hi);rw[Kerb.J_ hi,e2] at hS;have hF:=f1 i (by omega);generalize ((Kerb.gO ls n).take i).foldl Xd Kerb.zy=s at hS hF;have hm:=Kerb.wR t;try dsimp only
  simp only[↓A0,A0,hS,show Zj ((i:Int)<(ls.length:Int))=Yh from by simp;exact hi,Kerb.Mx (show 0<ls.length by omega),Kerb.Cd,Xb,Kerb.Ce (show i+n<=1000000 by omega),Kerb.Pk,
   show Zj ((((i+n) % ls.length:Nat):Int)<(ls.length:Int))=Yh from Qa4 (by omega),Yq,Wv,e1,Kerb.lO.av,Qa4 t0,Qa4 t1,hF.kn,hF.pre (show i*14028<=900000 by omega) hm,Kerb.vr,Kerb.xK (show i<=1000000000 by omega)]
 generalize hs:(Kerb.gO ls n).foldl Xd Kerb.zy=s;have hF:Kerb.Fit s (ls.length*14028):=by
  have:=f1 ls.length (Nat.le_refl _);rw[<-Kerb.ij ls n,List.take_length,Kerb.ij,hs] at this;exact this
 clear f1 hs;simp only[↓A0,A0,show Nat.beq 0 0=Yh from rfl];have f2:=Kerb.yG hF (l:=Wy lk n) (by rw[Kerb.l7];omega) (by omega);rw[Kerb.l7] at f2;refine Kerb.lF (fun i=>[.bs lk,.int .i64 (n:Int),.sl 1 [],.sl 1 [],.sl 1 (Xk (((Wy lk n).take i).foldl Kerb.leak s).keys),.sl 1 (Xw (((Wy lk n).take i).foldl Kerb.leak s).boxes),.int .i64 (i:Int)]) (min 6 lk.length) (fun i hi=> ?_)
  ⟨(.exit 2,[.bs lk,.int .i64 (n:Int),.sl 1 [],.sl 1 [],.sl 1 (Xk ((Wy lk n).foldl Kerb.leak s).keys),.sl 1 (Xw ((Wy lk n).foldl Kerb.leak s).boxes),.int .i64 ((min 6 lk.length:Nat):Int)]),?_,?_⟩ rfl
 case refine_2 =>
  have e:(Wy lk n).take (min 6 lk.length)=Wy lk n:=by rw[<-Kerb.l7 lk n,List.take_length]
  rw[e];generalize (Wy lk n).foldl Kerb.leak s=s';simp only[↓A0,A0];by_cases h:lk.length<=6
  ·rw[aj (by simp;omega)]
  ·rw[ag (by simp;omega),aj (by simp;omega)]
 case refine_3=>simp only[↓A0,A0,show Nat.beq 2 2=Yh from rfl]
 ·have hS:=Kerb.sD Kerb.leak s 0 (l:=Wy lk n) (i:=i) (by rw[Kerb.l7];exact hi);rw[Kerb.JY hi] at hS;have hG:=f2 i (by omega);have eY:(i+n) % min 6 lk.length<min 6 lk.length:=Nat.mod_lt _ (by omega);generalize ((Wy lk n).take i).foldl Kerb.leak s=s' at hS hG;generalize hk:Kerb.ic (lk.getD ((i+n) % min 6 lk.length) 0)=k at hS;have Qh:=Kerb.nT (lk.getD ((i+n) % min 6 lk.length) 0);rw[hk] at Qh;try dsimp only
  simp only[↓A0,A0,hS,show Zj ((i:Int)<(lk.length:Int))=Yh from Qa4 (by omega),show Zj ((i:Int)<6)=Yh from Qa4 (by omega),Kerb.Ue,Kerb.Mx (show 0<min 6 lk.length by omega),Xb,Kerb.Ce (show i+n<=1000000 by omega),Kerb.Pk,
   show Zj ((((i+n) % min 6 lk.length:Nat):Int)<(lk.length:Int))=Yh from Qa4 (by omega),Yq,Wv,hk,Qa4 Qh.1,Qa4 Qh.2,hG.kn,hG.PM (show ls.length*14028+i<=900000 by omega),Kerb.vr,Kerb.xK (show i<=1000000000 by omega)]
theorem w4:Wk 4 17 Y6:=by
 refine cw Tryz.func4 rfl fun xs bl r h=> ?_;unfold Y6 at h;split at h;case h_2=>cases h
 rename_i ls lk tn;obtain⟨aB,rfl⟩:=dz h;refine cu (aD (Zj ((↑(Zx ls):Int)>10)) (Zd (Zu Yh,[])) (Wl [Zq 7 ls,Zv lk,Zz .i64 0] fun b cG=>Wl [Zq 7 ls,Zv lk,Zz .i64 (Zp .i64 (↑(Xn tn):Int))] fun eQ eZ=>Zy (H3 [Zq 1 b,Zq 1 eQ] []) (kL fun hO=>aD (!hO) (Zd (Zu Yj,[])) (aD (!(↑(Zx cG):Int)==(↑(Zx eZ):Int)) (Zd (Zu Yj,[])) (Zy (bw (fun st=>bW 7 st fun b r=>aE r fun gV r=>bW 1 r fun iw r=>bW 1 r fun jp r=>bW 1 r fun mW r=>bW 1 r fun oG r=>ak .i64 r fun n r=>aw r (aD (Zj (n<(↑(Zx jp):Int))) (Zy (bw (fun st=>bW 7 st fun b r=>bW 1 r fun ig r=>bW 1 r fun iT r=>bW 1 r fun js r=>bW 1 r fun iK r=>ak .i64 r fun n r=>aE r fun nJ r=>ak .i64 r fun bn r=>aE r fun mZ r=>aw r (aD (Zj (bn<(↑(Zx iK):Int))) (aD nJ (Zd (Sum.inl [Zq 7 b,Zq 1 ig,Zq 1 iT,Zq 1 js,Zq 1 iK,Zz .i64 n,Zu Yh,Zz .i64 (Zp .i64 (bn+1)),Zu mZ])) (az (Zj (0<=n)&&Zj (n<(↑(Zx iT):Int))&&Yh) (AV.eA (Xx iT (Yp n) Xf) fun qV=>az (Zj (0<=bn)&&Zj (bn<(↑(Zx iK):Int))&&Yh) (AV.eA (Xx iK (Yp bn) Xf) fun sX=>Zd (Sum.inl [Zq 7 b,Zq 1 ig,Zq 1 iT,Zq 1 js,Zq 1 iK,Zz .i64 n,Zu (qV==sX),Zz .i64 (Zp .i64 (bn+1)),Zu mZ]))))) (Zd (Sum.inr (Ex.exit 2,[Zq 7 b,Zq 1 ig,Zq 1 iT,Zq 1 js,Zq 1 iK,Zz .i64 n,Zu nJ,Zz .i64 bn,Zu mZ]))))) [Zq 7 b,Zq 1 iw,Zq 1 jp,Zq 1 mW,Zq 1 oG,Zz .i64 n,Zu Yj,Zz .i64 0,Zu gV]) fun(r:Ex×List AV)=>bW 7 (Zk r) fun b eH=>bW 1 eH fun ig eP=>bW 1 eP fun iT eV=>bW 1 eV fun js fR=>bW 1 fR fun iK hZ=>ak .i64 hZ fun n jj=>aE jj fun nJ kG=>ak .i64 kG fun bn mT=>aE mT fun mZ mf=>aw mf (jq r.1 (Zd (Sum.inr (Ex.ret,[Zq 7 b,Zu mZ,Zq 1 ig,Zq 1 iT,Zq 1 js,Zq 1 iK,Zz .i64 n]))) fun(j:Nat)=>aD (Nat.beq j 2) (aD (!nJ) (Zd (Sum.inr (Ex.ret,[Zq 7 b,Zu Yj,Zq 1 ig,Zq 1 iT,Zq 1 js,Zq 1 iK,Zz .i64 n]))) (Zd (Sum.inl [Zq 7 b,Zu mZ,Zq 1 ig,Zq 1 iT,Zq 1 js,Zq 1 iK,Zz .i64 (Zp .i64 (n+1))]))) none)) (Zd (Sum.inr (Ex.exit 0,[Zq 7 b,Zu gV,Zq 1 iw,Zq 1 jp,Zq 1 mW,Zq 1 oG,Zz .i64 n]))))) [Zq 7 ls,Zu Yj,Zq 1 b,Zq 1 cG,Zq 1 eQ,Zq 1 eZ,Zz .i64 0]) fun(r:Ex×List AV)=>bW 7 (Zk r) fun b eH=>aE eH fun gV eP=>bW 1 eP fun iw eV=>bW 1 eV fun jp fR=>bW 1 fR fun mW hZ=>bW 1 hZ fun oG jj=>ak .i64 jj fun n kG=>aw kG (jq r.1 (Zd (Zu gV,[])) fun(j:Nat)=>aD (Nat.beq j 0) (aD ((↑(Zx b):Int)==0) (Zd (Zu Yh,[])) (az (Zj (0<(↑(Zx b):Int))&&Yh) (Xj (Xx b (Yp 0) Xf) fun cs=>dl cs fun b r=>dl r fun ig r=>dl r fun iT r=>dl r fun js r=>dl r fun iK r=>aE r fun nJ r=>ak .u16 r fun n r=>aw r (Zy (Sj [Yz [Yv b,Yv ig,Yv iT,Yv js,Yv iK,Zu nJ,Zz .u16 n]] []) (kB fun b=>VE [Yz [Zq 1 iw,Zq 1 jp],Zv b] fun b mZ=>Zy (NG [Yz [Zq 1 iw,Zq 1 jp],Yz [Zq 1 b,Zq 1 mZ]] []) (kL fun b=>Zd (Zu b,[]))))))) none)))))) (by kernel_rfl) ?_;unfold Wl VE;delta kA kB kL;dsimp only[Sj,H3,Nz,KK,NG,aK,bq,aE,dl,ak,bW,dx];have fK:=aB;by_cases hl:ls.length<=10;case neg=>rw[ag (by simp;omega)]
 rw[aj (by simp;omega)];have hu:0<=Go.IntKind.wrap .i64 (tn.toNat:Int)/\Go.IntKind.wrap .i64 (tn.toNat:Int)<=255:=by
  have:tn.toNat<256:=tn.toNat_lt;rw[wrap_i64 (by omega) (by omega)];omega
 have F1:=Kerb.Bh (ls:=ls) lk 0 (by omega);have F2:=Kerb.Bh (ls:=ls) lk (Go.IntKind.wrap .i64 (tn.toNat:Int)) (by omega);obtain⟨s1,s2,s3⟩:=Kerb.GV ls lk 0 (Go.IntKind.wrap .i64 (tn.toNat:Int));have hk:∀ i,i<ls.length->Xd (Kerb.mG ls lk 0) (Kerb.rL (Kerb.nv (ls.getD i .undef)))=Kerb.mG ls lk 0:=fun i h=>Kerb.D5 lk 0 h;simp only[↓A0,A0,fK,Qa4 hl,Qa4 hu.1,Qa4 hu.2,show Zj ((0:Int)<=0)=Yh from rfl,show Zj ((0:Int)<=255)=Yh from rfl,Yq,Kerb.qm];generalize Kerb.mG ls lk 0=a at F1 s1 s2 s3 hk ⊢;generalize Kerb.mG ls lk (Go.IntKind.wrap .i64 (tn.toNat:Int))=b at F2 s1 s2 s3 ⊢;have lk1:Zj ((Xk a.keys).length<=1000000000)=Yh:=by rw[Kerb.ef];exact Qa4 (by have:=F1.kl (by decide);omega)
 have lb1:Zj ((Xw a.boxes).length<=1000000000)=Yh:=by rw[Kerb.c4];exact Qa4 (by have:=F1.bl (by decide);omega)
 have lbx:=F1.bl (by decide);have lby:=F2.bl (by decide);have lk2:=lk1;rw[s1] at lk2;simp only[↓A0,A0,Yq,lk2,Kerb.mV,s1,BEq.rfl,Zm];rw[<-s1,aj (by rw[Kerb.c4,Kerb.c4,s2];simp)];refine Kerb.lF (fun i=>[.sl 7 ls,.bool Yj,.sl 1 (Xk a.keys),.sl 1 (Xw a.boxes),.sl 1 (Xk a.keys),.sl 1 (Xw b.boxes),.int .i64 (i:Int)]) a.boxes.length (fun i hi=> ?_)
  ⟨(.exit 0,[.sl 7 ls,.bool Yj,.sl 1 (Xk a.keys),.sl 1 (Xw a.boxes),.sl 1 (Xk a.keys),.sl 1 (Xw b.boxes),.int .i64 (a.boxes.length:Int)]),?_,?_⟩ rfl
 case refine_2=>simp only[↓A0,A0,show Zj ((a.boxes.length:Int)<((Xw a.boxes).length:Int))=Yj from by rw[Kerb.c4];simp]
 ·simp only[↓A0,A0,Kerb.Qp hi];refine Kerb.lF (fun j=>[.sl 7 ls,.sl 1 (Xk a.keys),.sl 1 (Xw a.boxes),.sl 1 (Xk a.keys),.sl 1 (Xw b.boxes),.int .i64 (i:Int),.bool ((b.boxes.take j).contains (a.boxes.getD i [])),.int .i64 (j:Int),.bool Yj]) b.boxes.length (fun j hj=> ?_)
   ⟨(.exit 2,[.sl 7 ls,.sl 1 (Xk a.keys),.sl 1 (Xw a.boxes),.sl 1 (Xk a.keys),.sl 1 (Xw b.boxes),.int .i64 (i:Int),.bool Yh,.int .i64 (b.boxes.length:Int),.bool Yj]),?_,?_⟩ rfl
  case refine_2 =>
   have hm:b.boxes.contains (a.boxes.getD i [])=Yh:=by
    rw[List.contains_iff_mem];refine s3 _ ?_;simp only[Xx,List.getElem?_eq_getElem hi,Option.getD_some];exact List.getElem_mem hi
   rw[List.take_length,hm];simp only[↓A0,A0,show Zj ((b.boxes.length:Int)<((Xw b.boxes).length:Int))=Yj from by rw[Kerb.c4];simp]
  case refine_3=>simp only[↓A0,A0,show Nat.beq 2 2=Yh from rfl,Zm,Kerb.xK (show i<=1000000000 by omega)]
  ·simp only[Kerb.LP hj];simp only[↓A0,A0,Kerb.Qp hj,Kerb.Qp hi,Kerb.Pk,Kerb.G8 hi,Kerb.G8 hj,Yq,Bool.and_true,Kerb.xK (show j<=1000000000 by omega)];cases (b.boxes.take j).contains (a.boxes.getD i [])
   ·simp only[aA,Bool.false_or]
   ·simp only[cc,Bool.true_or]
 simp only[↓A0,A0,show Nat.beq 0 0=Yh from rfl];by_cases h0:ls.length=0
 ·rw[ag (by simp[h0])]
 rw[aj (by simpa using h0)];obtain⟨t,e1,t0,t1,e2⟩:=Kerb.GF fK (show 0<ls.length by omega);have Ps:=hk 0 (by omega);rw[e2] at Ps;have hm:=Kerb.wR t;simp only[↓A0,A0,show Zj ((0:Int)<(ls.length:Int))=Yh from Qa4 (by omega),Yq,Int.toNat_zero,e1,Kerb.lO.av,Kerb.Cd,Qa4 t0,Qa4 t1,F1.kn,F1.pre (by decide) hm,Kerb.vr,Ps,Kerb.qm,Kerb.yi,Kerb.mV,Kerb.mn,lk1,lb1,BEq.rfl]
end Go.Proofs.YteafbgcimcpfiaaGreat
