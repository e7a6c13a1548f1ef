/- What the functions of this seat compute. -/
import Derived.Test.YteafbgcimcpfiaaGreatWalk3
set_option linter.all false
open Go.Abs.AV renaming int→Zz,str→Zw,bs→Zv,bool→Zu,sl→Zk,u8→Zg,agg→Yy,aQ→Yx,ptr→Yb,ax→Xv,eu→Xq,undef→Xg,hO→Xb
open Option renaming bind→Zy,some→Zp
open List renaming length→Zx,getD→Xx,append→Xu
open Decidable renaming decide→Zq
open Prod renaming snd→Zj,fst→Zd
open Go.IntKind renaming wrap→Zf,i64→Zn
open Bool renaming and_eq_true→Zb,not_true→Zh,and_self→Yu,false→Yj,true→Xz,not_false→Xj
open Kerb renaming af→Zm,within→Yw,ag→Yv,ai→Yq,fD→Ym,bc→Yh,bg→Xy,aS→Xw,learn→Xd,bytes→Xf,r_→Xn,kU→Xm,gP→Xh,dw→Wz,aV→Wy
open Nat renaming le_trans→Yz
open Kerb.Rd renaming val→Yk,pos→Yf,bad→Yg
open Kerb.Client renaming av→Yp
open Kerb.Cache renaming av→Yd
open Int renaming toNat→Yn,toNat_natCast→Xk,tmod→Xp
namespace Go.Proofs.YteafbgcimcpfiaaGreat
open Go Go.Abs Go.Proofs
set_option maxRecDepth 100000
theorem aaT:Wk 190 8 Gf:=by
 refine cA Tryz.func190 rfl fun xs bl r h=> ?_;unfold Gf at h;split at h;case h_2=>cases h
 rename_i li mu kv rl tk au tm lf sv ins;obtain⟨aB,rfl⟩:=dA h;refine cw (aD mu (Zp (Yx [Zv [],Zz .i64 100],[])) (Zy (Ab [Yy [Zu li,Zu mu,Zz .i64 kv,Zw rl,Zv tk,Zv au]] []) (kT fun vs=>bq vs fun b r=>ak .i64 r fun n r=>aw r (aD (!n==0) (Zp (Yx [Zv [],Zz .i64 n],[])) (Zy (sC [Zw sv] []) (kL fun cL=>aD (!cL) (Zp (Yx [Zv [],Zz .i64 103],[])) (Zy (pL [Zw ins] []) (kL fun eP=>aD (!eP) (Zp (Yx [Zv [],Zz .i64 103],[])) (aD (!Yw tm 4294967295) (Zp (Yx [Zv [],Zz .i64 104],[])) (aD (!Yw lf 255) (Zp (Yx [Zv [],Zz .i64 104],[])) (Zy (kD [Zv b,Zz .i64 tm,Zu li] []) (kO fun l=>Zy (pJ [Zv l,Zz .i64 lf] []) (kO fun l=>Zy (oF [Zv l,Zw sv] []) (kO fun l=>Zy (oF [Zv l,Zw ins] []) (kO fun l=>Zp (Yx [Zv l,Zz .i64 0],[])))))))))))))))) (by kernel_rfl) ?_;delta kT kO kL;dsimp only[Ab,pJ,kD,oF,sC,pL,aK,bq,aE,cT,ak,ci,dx];simp only[Zb,Qa2] at aB;obtain⟨⟨p1,p2⟩,p3⟩:=aB;simp only[A0,Yp,Yd,Kerb.eD.av,p1,p2,p3,Qb2];have hL:∀ q,Kerb.cH ⟨li,mu,kv,rl,tk,au⟩=q->Kerb.dN ⟨⟨li,mu,kv,rl,tk,au⟩,tm,lf,sv,ins⟩=if mu then⟨[],100⟩ else if q.err≠0 then⟨[],q.err⟩ else if !(Kerb.validName sv&&Kerb.bO ins) then⟨[],103⟩ else if !(Yw tm 4294967295&&Yw lf 255) then⟨[],104⟩ else⟨Xy (Xy (q.val++Xw tm 4 li++Xw lf 1 Yj) sv) ins,0⟩:=by rintro _ rfl;rfl
 have hl:=Kerb.ve ⟨li,mu,kv,rl,tk,au⟩;obtain⟨q,hq⟩:∃ q,Kerb.cH ⟨li,mu,kv,rl,tk,au⟩=q:=⟨_,rfl⟩;rw[hL q hq,hq];rw[hq] at hl;cases mu;case true=>rfl
 rw[aA,Qa0 (by simp)];by_cases h1:q.err=0;case neg=>rw[ah (by simpa using h1),Qa1 h1]
 rw[aj (by simpa using h1),Qa0 (by simpa using h1)];cases h2:Kerb.validName sv
 ·rfl
 cases h3:Kerb.bO ins
 ·rfl
 cases Yw tm 4294967295
 ·rfl
 cases Yw lf 255
 ·rfl
 have l2:=Kerb.iK h2;have l3:=Kerb.gW h3;simp only[Zh,aA,Yu,Bool.false_eq_true,if_false];rw[ae (by simp;omega),ae (by simp[Zm];omega),ae (by simp[Zm];omega),ae (by simp[Zm,Kerb.bH];omega)]
theorem aa1:Wk 198 8 Gj:=by
 refine cA Tryz.func198 rfl fun xs bl r h=> ?_;unfold Gj at h;split at h;case h_2=>cases h
 rename_i op ux uy uz bx;obtain⟨aB,rfl⟩:=dA h;refine cw (let t0:Option (AV×aC):=Zy (lW [Yy [Zw ux,Zw uy,Zw uz]] []) (kL fun b=>aD (!b) (Zp (Yx [Zv [],Zz .i64 103],[])) (aD (Zq ((↑(Zx bx):Int)>1012)) (Zp (Yx [Zv [],Zz .i64 105],[])) (Zy (oE [Zv (Kerb.header 10 Yj++Xw op 1 Yj),Yy [Zw ux,Zw uy,Zw uz]] []) (kO fun l=>Zy (Ah [Zv l,Zv bx] []) (kB fun b=>Zp (Yx [Zv b,Zz .i64 0],[]))))));aD (!op==1) (aD (!op==2) (aD (!op==3) (Zp (Yx [Zv [],Zz .i64 40],[])) t0) t0) t0) (by kernel_rfl) ?_;delta kB kO kL;dsimp only[lW,oE,Ah,aK,bq,aE,cT,ak,ci,dx];simp only[Zb,Qa2] at aB;simp only[A0,Yp,Yd,Kerb.eD.av];have p_:(Kerb.header 10 Yj).length=2:=rfl;unfold Kerb.eM;simp only;by_cases h0:1<=op/\op<=3;case neg =>
  have e:Kerb.lh op=Yj:=by simp[Kerb.lh];omega
  rw[e,ah (by simp;omega),ah (by simp;omega),ah (by simp;omega)];rfl
 have e:Kerb.lh op=Xz:=by simp[Kerb.lh];omega
 have hs:∀ (z y:Option (AV×aC)),aD (!op==1) (aD (!op==2) (aD (!op==3) z y) y) y=y:=fun z y=>by
  rcases (show op=1\/op=2\/op=3 by omega) with rfl | rfl | rfl<;>rfl
 rw[e,Qa0 (by simp),hs];rw[ae (by simp;omega)];cases h2:Kerb.aZ.valid ⟨ux,uy,uz⟩
 ·rfl
 rw[Zh,aA,Qa0 (by simp)];by_cases h8:1012<bx.length
 ·rw[ah (by simp;omega),Qa1 h8]
 rw[aj (by simp;omega),Qa0 h8];have l2:=Kerb.ch h2;simp only at l2;rw[ae (by simp[Zm,p_];omega),ae (by simp[Yq,Zm,p_];omega)]
theorem aa9:Wk 213 8 NF:=by
 refine cA Tryz.func213 rfl fun xs bl r h=> ?_;unfold NF at h;split at h;case h_2=>cases h
 rename_i li x y z ad k lf uG sv ins;obtain⟨aB,rfl⟩:=dA h;refine cw (Zy (lW [Yy [Zw x,Zw y,Zw z]] []) (kL fun b=>aD (!b) (Zp (Zz .i64 103,[])) (Zy (sC [Zw sv] []) (kL fun b=>aD (!b) (Zp (Zz .i64 103,[])) (Zy (pL [Zw ins] []) (kL fun b=>aD (!b) (Zp (Zz .i64 103,[])) (Zy (Ag [Zz .u64 k] []) (kI .i64 fun n=>aD (!n==2) (Zp (Zz .i64 10,[])) (aD (!Yw ad 4294967295) (Zp (Zz .i64 104,[])) (aD (!Yw lf 255) (Zp (Zz .i64 104,[])) (aD (!Yw uG 4294967295) (Zp (Zz .i64 104,[])) (Zp (Zz .i64 0,[]))))))))))))) (by kernel_rfl) ?_;delta kL kI;dsimp only[lW,Ag,sC,pL,aK,bq,aE,cT,ak,ci,dx];simp only[Zb,Qa2] at aB;obtain⟨⟨⟨⟨⟨⟨h1,h2⟩,h3⟩,h4⟩,h5⟩,h6⟩,h7⟩:=aB;simp only[h1,h2,h3,h4,h5,h6,h7,Qb2,Yu,↓A0,A0];unfold Kerb.dz.err;dsimp only;cases Kerb.aZ.valid ⟨x,y,z⟩
 ·rfl
 cases Kerb.validName sv
 ·rfl
 cases Kerb.bO ins
 ·rfl
 simp only[Zh,Yu,aA];by_cases hc:Kerb.gy k=2;case neg=>rw[ah (by simpa using hc),Qa0 (by simp),Qa1 hc]
 rw[aj (by simp[hc]),Qa0 (by simp),Qa0 (by simp[hc])];cases Yw ad 4294967295
 ·rfl
 cases Yw lf 255
 ·rfl
 cases Yw uG 4294967295
 ·rfl
 rfl
theorem abk:Wk 224 8 Gl:=by
 refine cA Tryz.func224 rfl fun xs bl r h=> ?_;unfold Gl at h;split at h;case h_2=>cases h
 rename_i lb t k st en kv x y z tk;obtain⟨aB,rfl⟩:=dA h;refine cw (let t0:Option (AV×aC):=aD (!Yw t 4294967295) (Zp (Zz .i64 104,[])) (aD (!Kerb.dK lb) (aD (!k==0) (Zp (Zz .i64 108,[])) (aD (!st==0) (Zp (Zz .i64 108,[])) (aD (!en==0) (Zp (Zz .i64 108,[])) (aD (!kv==0) (Zp (Zz .i64 108,[])) (aD (!(x==[]&&(y==[]&&z==[]))) (Zp (Zz .i64 108,[])) (aD (Zq ((↑(Zx tk):Int)>0)) (Zp (Zz .i64 108,[])) (Zp (Zz .i64 0,[])))))))) (Zy (xe [Zz .u64 k] []) (kL fun b=>aD (!b) (Zp (Zz .i64 10,[])) (aD (!Yw st 4294967295) (Zp (Zz .i64 104,[])) (aD (!Yw en 4294967295) (Zp (Zz .i64 104,[])) (aD (!Yw kv 255) (Zp (Zz .i64 104,[])) (Zy (lW [Yy [Zw x,Zw y,Zw z]] []) (kL fun b=>aD (!b) (Zp (Zz .i64 103,[])) (aD (Zq ((↑(Zx tk):Int)>255)) (Zp (Zz .i64 105,[])) (Zp (Zz .i64 0,[])))))))))));aD (!Kerb.dK lb) (aD (!lb==[(67:UInt8),(80:UInt8),(87:UInt8),(100:UInt8)]) (Zp (Zz .i64 80,[])) t0) t0) (by kernel_rfl) ?_;delta kL;dsimp only[xe,lW,aK,bq,aE,cT,ak,ci,dx];have O_:([103,84,71,83]:List UInt8)=Kerb.vB:=rfl;have Iv:([103,84,75,84]:List UInt8)=Kerb.lq:=rfl;have Ly:([67,80,87,108]:List UInt8)=Kerb.g9:=rfl;have Ey:([67,80,87,100]:List UInt8)=Kerb.po:=rfl;have O':([116,103,115,84]:List UInt8)=Kerb.zn:=rfl;have CG:([116,107,116,71]:List UInt8)=Kerb.qc:=rfl;have EY:=aB;simp only[Zb,Qa2] at aB;have hk:(Zq (0<=k)&&Zq (k<18446744073709551616))=Xz:=by simp;omega
 have hv:(Zq (x.length<=9223372036854775807)&&Zq (y.length<=9223372036854775807)&&Zq (z.length<=9223372036854775807))=Xz:=by simp;omega
 simp only[A0,Ey,hk,hv];unfold Kerb.bm;simp only;cases ht:Kerb.dK lb
 ·rw[Xj,cc];cases hc:(lb==Kerb.po)
  ·rfl
  rw[Zh,aA,Qa0 (by simp)];cases h1:Yw t 4294967295
  ·rfl
  rw[Zh,aA,Qa0 (by simp),cc,Qa0 (by simp)];by_cases h2:k=0;case neg=>rw[ah (by simpa using h2),Qa1 (.inl h2)]
  rw[aj (by simp[h2])];by_cases h3:st=0;case neg=>rw[ah (by simpa using h3),Qa1 (.inr (.inl h3))]
  rw[aj (by simp[h3])];by_cases h4:en=0;case neg=>rw[ah (by simpa using h4),Qa1 (.inr (.inr (.inl h4)))]
  rw[aj (by simp[h4])];by_cases h5:kv=0;case neg=>rw[ah (by simpa using h5),Qa1 (.inr (.inr (.inr (.inl h5))))]
  rw[aj (by simp[h5])];show aD (!(Kerb.aZ.xS ⟨x,y,z⟩)) _ _=_;cases h6:Kerb.aZ.xS ⟨x,y,z⟩
  ·rw[Qa1 (.inr (.inr (.inr (.inr (.inl rfl)))))];rfl
  rw[Zh,aA];by_cases h7:tk=[];case neg=>rw[ah (by have:=List.length_pos_iff.2 h7;simp;omega),Qa1 (.inr (.inr (.inr (.inr (.inr h7)))))]
  rw[aj (by simp[h7]),Qa0 (by simp[h2,h3,h4,h5,h7])]
 ·rw[Zh,aA,Qa0 (by simp)];cases h1:Yw t 4294967295
  ·rfl
  rw[Zh,aA,Qa0 (by simp),aA,Qa1 rfl];cases h2:Kerb.bp k
  ·rfl
  rw[Zh,aA,Qa0 (by simp)];cases h3:Yw st 4294967295
  ·rfl
  rw[Zh,aA];cases h4:Yw en 4294967295
  ·rfl
  rw[Zh,aA];cases h5:Yw kv 255
  ·rfl
  rw[Zh,aA,Qa0 (by simp)];cases h6:Kerb.aZ.valid ⟨x,y,z⟩
  ·rfl
  rw[Zh,aA,Qa0 (by simp)];by_cases h7:255<tk.length
  ·rw[ah (by simp;omega),Qa1 h7]
  ·rw[aj (by simp;omega),Qa0 h7]
theorem abu:Wk 236 8 Gm:=by
 refine cA Tryz.func236 rfl fun xs bl r h=> ?_;unfold Gm at h;split at h;case h_2=>cases h
 rename_i els;obtain⟨aB,rfl⟩:=dA h;show ea (G.env 236 8) G.rts (G.own 236) Tryz.f236 _ _ [0]=_;refine cw (Zy (Ak [Zz .u64 (Zf .u64 (↑(Zx els):Int))] []) (kI .i64 fun n=>Zy (Cb [AV.bz 0 27 1,Zz .i64 0,Zz .i64 (↑(Zx els):Int),Zz .i64 n] [(0,els)]) fun(r:AV×aC)=>aL (Zj r) fun(x:List AV) (eI:List (List AV))=>aM eI (AV.fI (Zd r) fun vs=>aw vs (Zp (Yx [],[x]))))) (by kernel_rfl) ?_;delta kI;dsimp only[Cb,Ak,aK,bq,aE,cT,ak,ci,dx];simp only[Zb,Qa2] at aB;obtain⟨fK,hlen⟩:=aB;obtain⟨d,rfl,hd⟩:=Kerb.lB fK;simp only[Kerb.aT] at hlen ⊢;rw[Kerb.KT (by omega) (by omega),ae (by rw[Kerb.Dm];simp;omega)];simp only[↓fe,↓eb,↓bD,↓bS,↓fP,↓jw,↓cK,↓c8,↓cP];rw[Kerb.zo];have hb:=Kerb.RX hlen;rw[ae (by simp only[Kerb.nn,Kerb.dl,Kerb.aT,Zb,Qa2,Qa8,Qa7];omega)];simp only[↓fe,↓eb,↓bD,↓bS,↓fP,↓jw,↓cK,↓c8,↓cP];rw[Kerb.KG]
theorem abF:Wk 249 8 Gq:=by
 refine cA Tryz.func249 rfl fun xs bl r h=> ?_;unfold Gq at h;split at h;case h_2=>cases h
 rename_i op ux uy uz kv rl tk sv ins bx;obtain⟨aB,rfl⟩:=dA h;refine cw (aD (!Kerb.lh op) (Zp (Zz .i64 40,[])) (aD (!op==2) (Zy (lW [Yy [Zw ux,Zw uy,Zw uz]] []) (kL fun b=>aD (!b) (Zp (Zz .i64 103,[])) (aD (Zq ((↑(Zx bx):Int)>1012)) (Zp (Zz .i64 105,[])) (aD (!kv==0) (Zp (Zz .i64 108,[])) (aD (!rl==[]) (Zp (Zz .i64 108,[])) (aD (Zq ((↑(Zx tk):Int)>0)) (Zp (Zz .i64 108,[])) (aD (!sv==[]) (Zp (Zz .i64 108,[])) (aD (!ins==[]) (Zp (Zz .i64 108,[])) (Zp (Zz .i64 0,[])))))))))) (Zy (Aj [Zw rl] []) (kL fun b=>aD (!b) (Zp (Zz .i64 103,[])) (Zy (sC [Zw sv] []) (kL fun b=>aD (!b) (Zp (Zz .i64 103,[])) (Zy (pL [Zw ins] []) (kL fun b=>aD (!b) (Zp (Zz .i64 103,[])) (aD (!Yw kv 255) (Zp (Zz .i64 104,[])) (aD (Zq ((↑(Zx tk):Int)>255)) (Zp (Zz .i64 105,[])) (aD (Zq ((↑(Zx bx):Int)>1012)) (Zp (Zz .i64 105,[])) (aD (!(ux==[]&&(uy==[]&&uz==[]))) (Zp (Zz .i64 108,[])) (Zp (Zz .i64 0,[])))))))))))))) (by kernel_rfl) ?_;delta kL;dsimp only[lW,Aj,sC,pL,aK,bq,aE,cT,ak,ci,dx];simp only[Zb,Qa2] at aB;simp only[A0];rw[ae (by simp;omega),ae (by simp;omega),ae (by simp;omega),ae (by simp;omega)];unfold Wy;simp only;cases h0:Kerb.lh op
 ·rfl
 rw[Zh,aA,Qa0 (by simp)];cases h1:(op==2)
 ·rw[Xj,cc,Qa0 (by simp)];cases h2:Kerb.aZ.valid ⟨ux,uy,uz⟩
  ·rfl
  rw[Zh,aA,Qa0 (by simp)];by_cases h3:1012<bx.length
  ·rw[ah (by simp;omega),Qa1 h3]
  rw[aj (by simp;omega),Qa0 h3];by_cases h4:kv=0;case neg=>rw[ah (by simpa using h4),Qa1 (.inl h4)]
  rw[aj (by simp[h4])];by_cases h5:rl=[];case neg=>rw[ah (by simpa using h5),Qa1 (.inr (.inl h5))]
  rw[aj (by simp[h5])];by_cases h6:tk=[];case neg=>rw[ah (by have:=List.length_pos_iff.2 h6;simp;omega),Qa1 (.inr (.inr (.inl h6)))]
  rw[aj (by simp[h6])];by_cases h7:sv=[];case neg=>rw[ah (by simpa using h7),Qa1 (.inr (.inr (.inr (.inl h7))))]
  rw[aj (by simp[h7])];by_cases h8:ins=[];case neg=>rw[ah (by simpa using h8),Qa1 (.inr (.inr (.inr (.inr h8))))]
  rw[aj (by simp[h8]),Qa0 (by simp[h4,h5,h6,h7,h8])]
 ·rw[Zh,aA,Qa1 rfl];cases h2:Kerb.c4 rl
  ·rfl
  rw[Zh,aA];cases h3:Kerb.validName sv
  ·rfl
  rw[Zh,aA];cases h4:Kerb.bO ins
  ·rfl
  rw[Zh,aA,Qa0 (by simp)];cases h5:Yw kv 255
  ·rfl
  rw[Zh,aA,Qa0 (by simp)];by_cases h6:255<tk.length
  ·rw[ah (by simp;omega),Qa1 (.inl h6)]
  rw[aj (by simp;omega)];by_cases h7:1012<bx.length
  ·rw[ah (by simp;omega),Qa1 (.inr h7)]
  rw[aj (by simp;omega),Qa0 (by omega)];show aD (!(Kerb.aZ.xS ⟨ux,uy,uz⟩)) _ _=_;cases Kerb.aZ.xS ⟨ux,uy,uz⟩<;>rfl
theorem w9:Wk 9 9 Qw:=by
 refine cA Tryz.func9 rfl fun xs bl r h=> ?_;unfold Qw at h;split at h;case h_2=>cases h
 rename_i kd bx se fN de li hw;obtain⟨aB,rfl⟩:=dA h;refine cw (let t0:UInt8:=UInt8.ofNat (Yn (Xp (↑(UInt8.toNat kd):Int) (↑(UInt8.toNat (10:UInt8)):Int)));let t1:List AV:=[Yy [Zv [],Zz .i64 0,Zz .i64 0,Zz .i64 (Zf .i64 (↑(UInt8.toNat de):Int))],Zu li,Zz .u64 (Kerb.ig se)];Zy (Ni [Yy [Zg kd,Zg bx,Zg se,Zg fN,Zg de,Zu li,Zz .u16 hw]] []) (kB fun b=>SH [Zz .i64 (Zf .i64 (↑(UInt8.toNat kd):Int))] fun cL eP eX=>Zy (aD (t0==(0:UInt8)) (Zy (N9 [Yy [Zu li,Zw cL,Zw eP,Zw eX,Zz .i64 0,Zz .i64 0,Zz .i64 0,Zv b]] []) (kT fun vs=>bq vs fun b r=>ak .i64 r fun n r=>aw r (Zp [Zg kd,Zg bx,Zg se,Zg fN,Zg de,Zu li,Zz .u16 hw,Zv [],Zv b]))) (aD (t0==(1:UInt8)) (Zp [Zg kd,Zg bx,Zg se,Zg fN,Zg de,Zu li,Zz .u16 hw,Zv [],Zv (Kerb.lX.val (Kerb.cH (Kerb.cS.mk li Yj 0 [(82:UInt8)] (Kerb.m6 fN de) b)))]) (aD (t0==(2:UInt8)) (Zp [Zg kd,Zg bx,Zg se,Zg fN,Zg de,Zu li,Zz .u16 hw,Zv [],Zv (Kerb.lX.val (Kerb.dN (Kerb.ft.mk (Kerb.cS.mk li Yj 0 [(82:UInt8)] (Kerb.m6 fN de) (Kerb.m6 fN de)) 0 0 [(115:UInt8)] [])))]) (aD (t0==(3:UInt8)) (Zp [Zg kd,Zg bx,Zg se,Zg fN,Zg de,Zu li,Zz .u16 hw,Zv [],Zv (Kerb.lX.val (Kerb.dM b li))]) (aD (t0==(4:UInt8)) (Zp [Zg kd,Zg bx,Zg se,Zg fN,Zg de,Zu li,Zz .u16 hw,Zv [],Zv (Kerb.lX.val (Wy (Kerb.dY.mk 2 (Kerb.aZ.mk [] [] []) 0 [(82:UInt8)] (Kerb.m6 fN de) [(115:UInt8)] [] b)))]) (aD (t0==(5:UInt8)) (Zp [Zg kd,Zg bx,Zg se,Zg fN,Zg de,Zu li,Zz .u16 hw,Zv [],Zv (Kerb.lX.val (Kerb.cg (Kerb.jS.mk 1 0 b)))]) (aD (t0==(6:UInt8)) (Zy (N_ [Yy [Zz .i64 (Zf .i64 (1+Xp (Zf .i64 (Int.tdiv (Zf .i64 (↑(UInt8.toNat kd):Int)) 10)) 3)),Zw cL,Zw eP,Zw eX,Zv b]] []) (kT fun vs=>bq vs fun b r=>ak .i64 r fun n r=>aw r (Zp [Zg kd,Zg bx,Zg se,Zg fN,Zg de,Zu li,Zz .u16 hw,Zv [],Zv b]))) (aD (t0==(7:UInt8)) (Zy (N' t1 []) (kT fun vs=>bq vs fun b r=>ak .i64 r fun n r=>aw r (Zp [Zg kd,Zg bx,Zg se,Zg fN,Zg de,Zu li,Zz .u16 hw,Zv [],Zv b]))) (aD (t0==(8:UInt8)) (Zy (Oa t1 []) (kT fun vs=>bq vs fun b r=>ak .i64 r fun n r=>aw r (Zp [Zg kd,Zg bx,Zg se,Zg fN,Zg de,Zu li,Zz .u16 hw,Zv [],Zv b]))) (Zp [Zg kd,Zg bx,Zg se,Zg fN,Zg de,Zu li,Zz .u16 hw,Zv [],Zv b])))))))))) fun l=>cT l fun b r=>cT r fun b r=>cT r fun b r=>cT r fun b r=>cT r fun b r=>aE r fun b r=>ak .u16 r fun n r=>bq r fun b r=>bq r fun b r=>aw r (aD (Xp n 32==13) (Zy (H5 [Zv b,Zz .u16 (Zf .u16 (Int.tdiv n 32))] []) (kB fun b=>Zp (Zv b,[]))) (Zp (Zv b,[]))))) (by kernel_rfl) ?_;unfold SH;delta kT kA kB;dsimp only[Ni,H4,N9,N_,N',Oa,H5,aK,bq,aE,cT,ak,ci,dx];have hh:=aB;simp only[Zb,Qa2] at aB;have L:∀ b:List UInt8,b.length<=39->Zq (b.length<=9223372036854775807)=Xz:=fun b h=>Qa4 (by omega);have k1:∀ n,Zq (0<=Kerb.ig n)=Xz:=fun n=>Qa4 (Kerb.nR n).1;have k2:∀ n,Zq (Kerb.ig n<18446744073709551616)=Xz:=fun n=>Qa4 (Kerb.nR n).2;have s1:∀ n,Zq (0<=Kerb.jh n)=Xz:=fun n=>Qa4 (Kerb.pH n).1;have s2:∀ n,Zq (Kerb.jh n<18446744073709551616)=Xz:=fun n=>Qa4 (Kerb.pH n).2;have hb:=Kerb.Qz kd;have u1:Zq (0<=Go.IntKind.wrap .i64 (kd.toNat:Int))=Xz:=Qa4 hb.1;have u2:Zq (Go.IntKind.wrap .i64 (kd.toNat:Int)<=4611686018427387904)=Xz:=Qa4 (by omega)
 obtain⟨a1,a2,a3⟩:=Kerb.wl (Go.IntKind.wrap .i64 (kd.toNat:Int));have hR:UInt8.ofNat (Yn (Xp (kd.toNat:Int) ((10:UInt8).toNat:Int)))=Xn kd 10:=rfl;simp only[↓N2,hh,u1,u2,L _ a1,L _ a2,L _ a3,k1,k2,Yu,hR];have w1:Zq (0<=Go.IntKind.wrap .u16 (Int.tdiv hw 32))=Xz:=Qa4 (Kerb.uX aB.1 aB.2 (by decide)).1;have w2:Zq (Go.IntKind.wrap .u16 (Int.tdiv hw 32)<=65535)=Xz:=Qa4 (Kerb.uX aB.1 aB.2 (by decide)).2;refine Ed (P:=fun a=>a=[.u8 kd,.u8 bx,.u8 se,.u8 fN,.u8 de,.bool li,.int .u16 hw,.bs [],.bs (Kerb.ow ⟨kd,bx,se,fN,de,li,hw⟩)]) ⟨_,?_,rfl⟩ ?_
 ·unfold Kerb.ow;try dsimp only
  by_cases hc:Xn kd 10=0
  ·rw[ah (by simpa using hc),Qa1 hc]
  rw[aj (by simpa using hc),Qa0 hc];clear hc;by_cases hc:Xn kd 10=1
  ·rw[ah (by simpa using hc),Qa1 hc]
  rw[aj (by simpa using hc),Qa0 hc];clear hc;by_cases hc:Xn kd 10=2
  ·rw[ah (by simpa using hc),Qa1 hc]
  rw[aj (by simpa using hc),Qa0 hc];clear hc;by_cases hc:Xn kd 10=3
  ·rw[ah (by simpa using hc),Qa1 hc]
  rw[aj (by simpa using hc),Qa0 hc];clear hc;by_cases hc:Xn kd 10=4
  ·rw[ah (by simpa using hc),Qa1 hc]
  rw[aj (by simpa using hc),Qa0 hc];clear hc;by_cases hc:Xn kd 10=5
  ·rw[ah (by simpa using hc),Qa1 hc]
  rw[aj (by simpa using hc),Qa0 hc];clear hc;by_cases hc:Xn kd 10=6
  ·rw[ah (by simpa using hc),Qa1 hc]
  rw[aj (by simpa using hc),Qa0 hc];clear hc;by_cases hc:Xn kd 10=7
  ·rw[ah (by simpa using hc),Qa1 hc]
  rw[aj (by simpa using hc),Qa0 hc];clear hc;by_cases hc:Xn kd 10=8
  ·rw[ah (by simpa using hc),Qa1 hc]
  rw[aj (by simpa using hc),Qa0 hc]
 rintro a rfl;have hl:=Kerb.xv ⟨kd,bx,se,fN,de,li,hw⟩;have w3:Zq ((Kerb.ow ⟨kd,bx,se,fN,de,li,hw⟩).length<=1000000)=Xz:=Qa4 (by omega);unfold Kerb.pz;dsimp only;generalize Kerb.ow ⟨kd,bx,se,fN,de,li,hw⟩=B at w3 ⊢;simp only[↓N2,w1,w2,w3,k1,k2,Yu];cases Xp hw 32==13
 ·simp only[↓A0,A0,aA,Qa6]
 ·simp only[↓A0,A0,cc,Qa5]
theorem w74:Wk 74 9 KL:=by
 refine cA Tryz.func74 rfl fun xs bl r h=> ?_;unfold KL at h;split at h;case h_2=>cases h
 rename_i b aq;obtain⟨aB,rfl⟩:=dA h;refine cw (let t0:Option (AV×aC):=Zp (Yx [Yy [Zz .u64 0,Zw [],Zw [],Zw [],Zz .i64 0,Zz .i64 0,Zv [],Zz .i64 0],Zz .i64 100],[]);qK [Zv b,Zz .i64 1,Zz .i64 8] fun cL n bn=>AJ [Zv cL] fun bT eP=>AH [Zv b,Zz .i64 n] fun eX g7 gZ n eO=>oV [Zv b,Zz .i64 n] fun n bZ bF=>oV [Zv b,Zz .i64 bZ] fun fb eW gM=>oV [Zv b,Zz .i64 eW] fun kH lM gu=>qK [Zv b,Zz .i64 lM,Zz .i64 kH] fun iz iM fL=>uH [Zv b,Zz .i64 iM,Zu aq] fun bh gR eU=>let t1:AV:=Yy [Zz .u64 bT,Zw eX,Zw g7,Zw gZ,Zz .i64 n,Zz .i64 fb,Zv iz,Zz .i64 bh];Zy (F9 [t1,Zu aq] []) (kT fun vs=>bq vs fun jl r=>ak .i64 r fun n r=>aw r (aD (!n==0) t0 (aD (!jl==b) t0 (Zp (Yx [t1,Zz .i64 0],[])))))) (by kernel_rfl) ?_;unfold oV AH uH qK AJ;delta kT;dsimp only[su,vW,tH,qH,vX,F9,aK,bq,aE,cT,ak,ci,dx];have hb:=Qa3 aB;have jN:Zq (b.length<=4611686018427387904)=Xz:=by simp;omega
 have tV:=Kerb.jn b 1 8;simp only[A0];unfold Kerb.ca;have l1:=Kerb.nY b (Xf b 1 8).next
 have l2:=Kerb.l8 (Xf b 1 8).val;rw[ae aB,ae (by simp;omega),ae jN,ae jN,ae jN,ae jN,ae aB,ae jN,ae (by simp;omega)];obtain⟨R,hR⟩:∃ R,R=Kerb.rY b aq:=⟨_,rfl⟩;have e:=hR.symm;unfold Kerb.rY at e;dsimp only at e;have e2:Kerb.gG.mk (Kerb.fh (Xf b 1 8).val).1 (Kerb.aZ.mk (Kerb.ia b (Xf b 1 8).next).val.name (Kerb.ia b (Xf b 1 8).next).val.inst (Kerb.ia b (Xf b 1 8).next).val.aJ) _ _ _ _=R:=e;rw[e2,<-hR];by_cases h1:(Kerb.cX R aq).err=0
 ·rw[aj (by simp[h1])];by_cases h2:(Kerb.cX R aq).val=b
  ·rw[aj (by simp[h2]),Qa0 (by simp[h1,h2]),hR];rfl
  ·rw[ah (by simpa using h2),Qa1 (.inr h2)];rfl
 ·rw[ah (by simpa using h1),Qa1 (.inl h1)];rfl
theorem Z2:Wk 118 9 FX:=by
 refine cA Tryz.func118 rfl fun xs bl r h=> ?_;unfold FX at h;split at h;case h_2=>cases h
 rename_i b;obtain⟨aB,rfl⟩:=dA h;refine cw (let t1:AV:=Yy [Zu Yj,Zw [],Zw [],Zw [],Zz .i64 0,Zz .i64 0,Zz .i64 0,Zv []];let t2:List AV:=[Zu (Zd (Yh b [2]))];let t0:Option (AV×aC):=Zp (Yx [t1,Zz .i64 100],[]);aD (!Zj (Yh b [2])==0) (Zp (Yx [t1,Zz .i64 (Zj (Yh b [2]))],[])) (AH [Zv b,Zz .i64 2] fun cL eP eX n bn=>uH (Zv b::Zz .i64 n::t2) fun n bT eO=>oV [Zv b,Zz .i64 bT] fun bZ bF fb=>uH (Zv b::Zz .i64 bF::t2) fun eW gM kH=>oV [Zv b,Zz .i64 gM] fun lM gu iM=>AK (Zv b::Zz .i64 gu::t2) fun fL bh gR=>qK [Zv b,Zz .i64 bh,Zz .i64 fL] fun g7 eU dc=>let t3:AV:=Yy [Zu (Zd (Yh b [2])),Zw cL,Zw eP,Zw eX,Zz .i64 n,Zz .i64 eW,Zz .i64 lM,Zv g7];Zy (Ge [t3] []) (kT fun vs=>bq vs fun gZ r=>ak .i64 r fun n r=>aw r (aD (!n==0) t0 (aD (!gZ==b) t0 (Zp (Yx [t3,Zz .i64 0],[]))))))) (by kernel_rfl) ?_;unfold oV AH uH qK AK;delta kT;dsimp only[su,vW,tH,qH,wc,Ge,aK,bq,aE,cT,ak,ci,dx];have hb:=Qa3 aB;have jN:Zq (b.length<=4611686018427387904)=Xz:=by simp;omega
 simp only[A0];unfold Kerb.bK;by_cases h:(Yh b [2]).2=0
 ·have l1:=Kerb.nY b 2;rw[aj (by simp[h]),ae jN,ae jN,ae jN,ae jN,ae jN,ae jN,ae aB,ae (by simp;omega),Qa0 (by simpa using h)];obtain⟨R,hR⟩:∃ R,R=Kerb.pF b:=⟨_,rfl⟩;have e:=hR.symm;unfold Kerb.pF at e;dsimp only at e;have e2:Kerb.mE.mk (Yh b [2]).1 (Kerb.aZ.mk (Kerb.ia b 2).val.name (Kerb.ia b 2).val.inst (Kerb.ia b 2).val.aJ) _ _ _ _=R:=e;rw[e2,<-hR];by_cases h1:(Kerb.dU R).err=0
  ·rw[aj (by simp[h1])];by_cases h2:(Kerb.dU R).val=b
   ·rw[aj (by simp[h2]),Qa0 (by simp[h1,h2]),hR];rfl
   ·rw[ah (by simpa using h2),Qa1 (.inr h2)];rfl
  ·rw[ah (by simpa using h1),Qa1 (.inl h1)];rfl
 ·rw[ah (by simpa using h),Qa1 h];rfl
theorem Z4:Wk 120 9 FZ:=by
 refine cA Tryz.func120 rfl fun xs bl r h=> ?_;unfold FZ at h;split at h;case h_2=>cases h
 rename_i b;obtain⟨aB,rfl⟩:=dA h;refine cw (let t1:AV:=Yy [Zu Yj,Zu Yj,Zz .i64 0,Zw [],Zv [],Zv [],Zz .i64 0,Zz .i64 0,Zw [],Zw []];let t0:Option (AV×aC):=Zp (Yx [t1,Zz .i64 100],[]);aD (!Zj (Yh b [3])==0) (Zp (Yx [t1,Zz .i64 (Zj (Yh b [3]))],[])) (Zy (Aa [Zv b] []) (kT fun vs=>ay vs fun x r=>Xq x fun cs=>aE cs fun cL eI=>aE eI fun eP eS=>ak .i64 eS fun n eZ=>aK eZ fun eX f_=>bq f_ fun g7 iq=>bq iq fun gZ ju=>aw ju (ak .i64 r fun bn r=>aw r (uH [Zv b,Zz .i64 bn,Zu (Zd (Yh b [3]))] fun bT eO bZ=>oV [Zv b,Zz .i64 eO] fun bF fb eW=>uI [Zv b,Zz .i64 fb] fun iz gM kH=>uI [Zv b,Zz .i64 gM] fun jl lM gu=>let t2:AV:=Yy [Zu cL,Zu eP,Zz .i64 n,Zw eX,Zv g7,Zv gZ,Zz .i64 bT,Zz .i64 bF,Zw iz,Zw jl];Zy (Gf [t2] []) (kT fun vs=>bq vs fun mH r=>ak .i64 r fun n r=>aw r (aD (!n==0) t0 (aD (!mH==b) t0 (Zp (Yx [t2,Zz .i64 0],[])))))))))) (by kernel_rfl) ?_;unfold oV uH uI;delta kT;dsimp only[su,tH,vY,Aa,Gf,aK,bq,aE,cT,ak,ci,dx];have hb:=Qa3 aB;have jN:Zq (b.length<=4611686018427387904)=Xz:=by simp;omega
 obtain⟨g1,g2,g3⟩:=Kerb.zS b (Yh b [3]).1;have e1:∀ p,Zq ((Kerb.text b p).val.length<=9223372036854775807)=Xz:=fun p=>by have:=Kerb.jk b p;simp;omega
 unfold Kerb.dr;by_cases h:(Yh b [3]).2=0;case neg=>rw[ah (by simpa using h),Qa1 h];rfl
 rw[aj (by simpa using h),Qa0 (by simpa using h)];have g4:Zq ((Kerb.lG b).val.aJ.length<=9223372036854775807)=Xz:=Qa4 (show(Kerb.lG b).val.aJ.length<=9223372036854775807 from g1);simp only[aB,jN,g4,e1,Qb2,Yu,↓A0,A0];exact Kerb.fM (b:=b) (no:=Kerb.xy) (enc:=Kerb.dN) (rd:=fun b=>(Kerb.sU b (Yh b [3]).1,Yj)) _ Yj rfl (fun x e=>(Yx [.agg [.bool (x).ap.aq,.bool (x).ap.gA,.int .i64 (x).ap.bP,.str (x).ap.aJ,.bs (x).ap.aN,.bs (x).ap.fA,.int .i64 (x).time,.int .i64 (x).cj,.str (x).service,.str (x).inst],Zz Zn e],([]:aC)))
theorem aap:Wk 151 9 F8:=by
 refine cA Tryz.func151 rfl fun xs bl r h=> ?_;unfold F8 at h;split at h;case h_2=>cases h
 rename_i li x y z ad k lf uG sv ins;obtain⟨aB,rfl⟩:=dA h;refine cw (Zy (az (dx x&&dx y&&dx z&&dx sv&&dx ins&&Zq (0<=k)&&Zq (k<18446744073709551616)) (Zp (Zz .i64 (Kerb.dz.err (Kerb.dz.mk li (Kerb.aZ.mk x y z) ad k lf uG sv ins)),[]))) (kI .i64 fun n=>aD (!n==0) (Zp (Yx [Zv [],Zz .i64 n],[])) (aD li (Zy (az (Zq (Zx ([]++Xw 1 1 Yj)+Zx x+Zx y+Zx z<=70368744170000)) (Zp (AV.bE (Kerb.c5 ([]++Xw 1 1 Yj) (Kerb.aZ.mk x y z)),[]))) (kO fun l=>Zy (az (Zq (Zx l<=70368744177664)) (Zp (AV.bE (l++Xw ad 4 li),[]))) (kO fun l=>Zy (az (Zq (0<=k)&&Zq (k<18446744073709551616)) (Zp (Zv (Kerb.keyBytes k),[]))) (kB fun b=>Zy (az (Zq (Zx (Xu l (Xu b []))<=140737488355328)&&Zq (Zx [Zv l,Zv b]<=1000)) (Zp (AV.bE (Xu l (Xu b [])),[]))) (kO fun l=>Zy (az (Zq (Zx l<=70368744177664)) (Zp (AV.bE (l++Xw lf 1 Yj),[]))) (kO fun l=>Zy (az (Zq (Zx l<=70368744177664)) (Zp (AV.bE (l++Xw uG 4 li),[]))) (kO fun l=>Zy (az (Zq (Zx l+Zx sv<=70368744177664)) (Zp (AV.bE (Xy l sv),[]))) (kO fun l=>Zy (az (Zq (Zx l+Zx ins<=70368744177664)) (Zp (AV.bE (Xy l ins),[]))) (kO fun l=>Zy (az (Zq (Zx l<=70368744177664)) (Zp (Zv (Kerb.pad l),[]))) (kB fun b=>Zp (Yx [Zv b,Zz .i64 0],[]))))))))))) (Zy (az (Zq (Zx ([]++Xw 0 1 Yj)+Zx x+Zx y+Zx z<=70368744170000)) (Zp (AV.bE (Kerb.c5 ([]++Xw 0 1 Yj) (Kerb.aZ.mk x y z)),[]))) (kO fun l=>Zy (az (Zq (Zx l<=70368744177664)) (Zp (AV.bE (l++Xw ad 4 li),[]))) (kO fun l=>Zy (az (Zq (0<=k)&&Zq (k<18446744073709551616)) (Zp (Zv (Kerb.keyBytes k),[]))) (kB fun b=>Zy (az (Zq (Zx (Xu l (Xu b []))<=140737488355328)&&Zq (Zx [Zv l,Zv b]<=1000)) (Zp (AV.bE (Xu l (Xu b [])),[]))) (kO fun l=>Zy (az (Zq (Zx l<=70368744177664)) (Zp (AV.bE (l++Xw lf 1 Yj),[]))) (kO fun l=>Zy (az (Zq (Zx l<=70368744177664)) (Zp (AV.bE (l++Xw uG 4 li),[]))) (kO fun l=>Zy (az (Zq (Zx l+Zx sv<=70368744177664)) (Zp (AV.bE (Xy l sv),[]))) (kO fun l=>Zy (az (Zq (Zx l+Zx ins<=70368744177664)) (Zp (AV.bE (Xy l ins),[]))) (kO fun l=>Zy (az (Zq (Zx l<=70368744177664)) (Zp (Zv (Kerb.pad l),[]))) (kB fun b=>Zp (Yx [Zv b,Zz .i64 0],[])))))))))))))) (by kernel_rfl) ?_;delta kB kO kI;dsimp only[dx];simp only[Zb,Qa2] at aB;obtain⟨⟨⟨⟨⟨⟨h1,h2⟩,h3⟩,h4⟩,h5⟩,h6⟩,h7⟩:=aB;simp only[h1,h2,h3,h4,h5,h6,h7,Qb2,Yu,↓A0,A0];have hb := @Kerb.oJ ⟨li,⟨x,y,z⟩,ad,k,lf,uG,sv,ins⟩;unfold Kerb.bR at hb ⊢;dsimp only at hb ⊢;generalize hE:Kerb.dz.err _=e at hb ⊢;by_cases he:e=0;case neg=>rw[ah (by simpa using he),Qa1 he]
 rw[Qa0 (by simpa using he)] at hb;obtain⟨v1,v2,v3,_⟩:=hb rfl;have l1:=Kerb.ch v1;have l2:=(Kerb.Df v2).1;have l3:=(Kerb.inst_ok v3).1;dsimp only at l1;rw[aj (by simpa using he),Qa0 (by simpa using he)];cases li
 ·rw[aA,ae (by first | (simp[Yq,Zm,Yv];done) | (simp[Yq,Zm,Yv];omega)),ae (by first | (simp[Yq,Zm,Yv];done) | (simp[Yq,Zm,Yv];omega)),ae (by first | (simp[Yq,Zm,Yv];done) | (simp[Yq,Zm,Yv];omega)),ae (by first | (simp[Yq,Zm,Yv];done) | (simp[Yq,Zm,Yv];omega)),ae (by first | (simp[Yq,Zm,Yv];done) | (simp[Yq,Zm,Yv];omega)),ae (by first | (simp[Yq,Zm,Yv];done) | (simp[Yq,Zm,Yv];omega)),ae (by first | (simp[Xy,Yq,Zm,Yv];done) | (simp[Xy,Yq,Zm,Yv];omega)),ae (by first | (simp[Xy,Yq,Zm,Yv];done) | (simp[Xy,Yq,Zm,Yv];omega))];simp
 ·rw[cc,ae (by first | (simp[Yq,Zm,Yv];done) | (simp[Yq,Zm,Yv];omega)),ae (by first | (simp[Yq,Zm,Yv];done) | (simp[Yq,Zm,Yv];omega)),ae (by first | (simp[Yq,Zm,Yv];done) | (simp[Yq,Zm,Yv];omega)),ae (by first | (simp[Yq,Zm,Yv];done) | (simp[Yq,Zm,Yv];omega)),ae (by first | (simp[Yq,Zm,Yv];done) | (simp[Yq,Zm,Yv];omega)),ae (by first | (simp[Yq,Zm,Yv];done) | (simp[Yq,Zm,Yv];omega)),ae (by first | (simp[Xy,Yq,Zm,Yv];done) | (simp[Xy,Yq,Zm,Yv];omega)),ae (by first | (simp[Xy,Yq,Zm,Yv];done) | (simp[Xy,Yq,Zm,Yv];omega))];simp
theorem aaz:Wk 161 9 F':=by
 refine cA Tryz.func161 rfl fun xs bl r h=> ?_;unfold F' at h;split at h;case h_2=>cases h
 rename_i B at_ bad;obtain⟨aB,rfl⟩:=dA h;show ea (G.env 161 9) G.rts (G.own 161) Tryz.f161 _ _ [0]=_;refine cw (AH [Zv B,Zz .i64 at_] fun b cL eP n bn=>aD (!!(bad || !bn==0)) (Zp (Yy [Zw [],Zw [],Zw []],[[Zv B,Zz .i64 (bif bad || !bn==0 then at_ else n),Zu (bad || !bn==0)]])) (Zp (Yy [Zw b,Zw cL,Zw eP],[[Zv B,Zz .i64 (bif bad || !bn==0 then at_ else n),Zu (bad || !bn==0)]]))) (by kernel_rfl) ?_;unfold AH;delta kT;dsimp only[vW,aK,bq,aE,cT,ak,ci,dx];have hb:=Qa3 aB;simp only[A0];rw[ae (by simp;omega)];unfold Kerb.mR;cases bad
 ·simp only[Bool.false_or];generalize hq:(!(_==(0:Int)))=q;cases q<;>rfl
 ·rfl
theorem aaA:Wk 162 9 Ga:=by
 refine cA Tryz.func162 rfl fun xs bl r h=> ?_;unfold Ga at h;split at h;case h_2=>cases h
 rename_i lb t k st en kv x y z tk;obtain⟨aB,rfl⟩:=dA h;refine cw (Zy (Gl [Yy [Zw lb,Zz .i64 t,Zz .u64 k,Zz .i64 st,Zz .i64 en,Zz .i64 kv,Zw x,Zw y,Zw z,Zv tk]] []) (kI .i64 fun n=>aD (!n==0) (Zp (Yx [Zv [],Zz .i64 n],[])) (Zy (kD [Zv lb,Zz .i64 t,Zu Yj] []) (kO fun l=>aD (Kerb.dK lb) (Zy (sB [Zz .u64 k] []) (kB fun b=>az (room (Zx l+Zx b) 1) (Zy (kD [Zv (l++b),Zz .i64 st,Zu Yj] []) (kO fun l=>Zy (kD [Zv l,Zz .i64 en,Zu Yj] []) (kO fun l=>Zy (pJ [Zv l,Zz .i64 kv] []) (kO fun l=>Zy (oE [Zv l,Yy [Zw x,Zw y,Zw z]] []) (kO fun l=>Zy (Ae [Zv l,Zv tk] []) (kB fun b=>Zy (pK [Zv b] []) (kB fun b=>Zp (Yx [Zv b,Zz .i64 0],[])))))))))) (Zy (pK [Zv l] []) (kB fun b=>Zp (Yx [Zv b,Zz .i64 0],[]))))))) (by kernel_rfl) ?_;delta kB kO kI;dsimp only[pJ,oE,kD,sB,pK,Gl,Ae,aK,bq,aE,cT,ak,ci,dx];have EY:=aB;simp only[Zb,Qa2] at aB;have hk:(Zq (0<=k)&&Zq (k<18446744073709551616))=Xz:=by simp;omega
 simp only[A0,EY,hk];by_cases he:(Kerb.bm (Kerb.gn.mk lb t k st en kv ⟨x,y,z⟩ tk)).err=0;case neg=>rw[ah (by simpa using he),Kerb.Ez he]
 rw[aj (by simp[he]),he];obtain⟨ht,⟨hl,V5,aX,hs,hen,hv,hp,hx,hb⟩ | ⟨hl,aX,hs,hen,hv,hp,hx,hb⟩⟩:=Kerb.u5 he
 ·have l1:=Kerb.ch hp;simp only at hl V5 l1 hx;rw[hb,ae (by simp;omega),ah hl];rw[ae (Kerb.bW (by simp[Zm,Yv];omega)),ae (by simp[Zm,Yv];omega),ae (by simp[Zm,Yv];omega),ae (by simp[Zm,Yv];omega),ae (by simp[Zm,Yv];omega),ae (by simp[Zm,Yv,Yq];omega),ae (by simp[Zm,Yv,Yq,Kerb.iO];omega)];simp[Kerb.iO,Kerb.c5,Xy]
 ·simp only at hl;have V5:lb.length=4:=by rw[hl];rfl
  have hnt:Kerb.dK lb=Yj:=by rw[hl];decide
  rw[hb,ae (by simp;omega),aj hnt,ae (by simp[Zm];omega)]
theorem aaB:Wk 163 9 tI:=by
 refine cA Tryz.func163 rfl fun xs bl r h=> ?_;unfold tI at h;split at h;case h_2=>cases h
 rename_i B at_ bad;obtain⟨aB,rfl⟩:=dA h;show ea (G.env 163 9) G.rts (G.own 163) Tryz.f163 _ _ [0]=_;refine cw (AH [Zv B,Zz .i64 at_] fun b cL eP n bn=>Zp (Yy [Zw b,Zw cL,Zw eP],[[Zv B,Zz .i64 (bif bn==0 then n else at_),Zu (bad || !bn==0)]])) (by kernel_rfl) ?_;unfold AH;delta kT;dsimp only[vW,aK,bq,aE,cT,ak,ci,dx];have hb:=Qa3 aB;simp only[A0,Yp,Yd,Kerb.eD.av];rw[ae (by simp;omega)];unfold Xm;rfl
theorem aaL:Wk 179 9 Nt:=by
 refine cA Tryz.func179 rfl fun xs bl r h=> ?_;unfold Nt at h;split at h;case h_2=>cases h
 rename_i l k;obtain⟨aB,rfl⟩:=dA h;refine cw (let t1:List AV:=[Zk 1 l,Zk 1 [Zz .u64 k]];let t0:Int:=(↑(Zx t1):Int);az (Zq (0<t0)&&Xz) (Xb 1 (Xx t1 (Yn 0) Xg) fun b=>let t2:Int:=Zf .i64 (0+(↑(Zx b):Int));aD (Zq (t2<0)) none (az (Zq (Zf .i64 (0+1)<t0)&&Xz) (Xb 1 (Xx t1 (Yn (Zf .i64 (0+1))) Xg) fun b=>aD (Zq (Zf .i64 (t2+(↑(Zx b):Int))<0)) none (Zy (Gs [AV.cJ,Zz .i64 (Zf .i64 (t2+(↑(Zx b):Int)))] []) fun(r:AV×aC)=>aM (Zj r) (AV.aR (Zd r) fun l=>az (Zq (0<t0)&&Xz) (Xb 1 (Xx t1 (Yn 0) Xg) fun b=>az (room (Zx l+Zx b) (nat_lit 8)) (az (Zq (Zf .i64 (0+1)<t0)&&Xz) (Xb 1 (Xx t1 (Yn (Zf .i64 (0+1))) Xg) fun cL=>az (room (Zx (l++b)+Zx cL) (nat_lit 8)) (az (Nat.blt 0 (Zx (l++b++cL))) (Zy (Gm [AV.bz 0 27 (TI.size (TI.mk 1 8 (TK.int .u64) [Zz .u64 0] [CT.int .u64] [CT.int .u64]))] [(0,l++b++cL)]) fun(r:AV×aC)=>aL (Zj r) fun(x:List AV) (eI:List (List AV))=>aM eI (AV.fI (Zd r) fun vs=>aw vs (aD (Zq ((↑(Zx x):Int)<2)) (Zp (AV.aF x,[])) (Zy (bw (fun l=>ay l fun x_1 r=>Xv .i64 x_1 fun n=>aw r (aD (Zq (n<(↑(Zx x):Int))) (az (Zq (0<=n)&&Zq (n<(↑(Zx x):Int))&&Xz) (az (Nat.blt (Yn n) (Zx x)&&Xz) (Xv .u64 (Xx x (Yn n) Xg) fun bn=>az (Zq (0<=Zf .i64 (n-1))&&Zq (Zf .i64 (n-1)<(↑(Zx x):Int))&&Xz) (az (Nat.blt (Yn (Zf .i64 (n-1))) (Zx x)&&Xz) (Xv .u64 (Xx x (Yn (Zf .i64 (n-1))) Xg) fun bT=>aD (bn==bT) (az (Zq (0<=n)&&Zq (n<=(↑(Zx x):Int))&&Zq ((↑(Zx x):Int)<=(↑(Zx x):Int))) none) (Zp (Sum.inl [Zz .i64 (Zf .i64 (n+1))]))))))) (Zp (Sum.inr (Ex.exit 0,[Zz .i64 n]))))) [Zz .i64 1]) fun(r:Ex×List AV)=>ay (Zj r) fun x_1 eS=>Xv .i64 x_1 fun n=>aw eS (jp r.1 none fun(j:Nat)=>aD (Nat.beq j 0) (Zp (AV.aF x,[])) none))))))))))))))) (by kernel_rfl) ?_;dsimp only[Gm,Gs,aK,bq,aE,cT,ak,ci,dx];simp only[Zb,Qa2] at aB;obtain⟨⟨fK,Ty⟩,hlen⟩:=aB;rw[ae (by simp)];simp only[show Zf .i64 (1:Int)=1 from by decide,show Yn (1:Int)=1 from rfl,Int.toNat_zero,List.getD_cons_zero,List.getD_cons_succ,List.length_cons,List.length_nil,List.nil_append,Int.zero_add,Nat.zero_add,↓ZF];rw[show Zf .i64 ((l.length:Int))=((l.length:Nat):Int) from(Kerb.gf (by omega) (by omega)).trans (by omega)];rw[aj (by simp<;>omega),ae (by simp),show Zf .i64 ((l.length:Int)+((1:Nat):Int))=((l.length+1:Nat):Int) from(Kerb.gf (by omega) (by omega)).trans (by omega)];rw[aj (by simp<;>omega),ae (by simp<;>omega)];simp only[↓fe,↓eb,↓bD,↓bS,↓fP,↓jw,↓cK,↓c8,↓cP];simp only[List.length_nil,List.nil_append,Nat.zero_add];rw[ae (by simp),ae (Kerb.Qs (by omega)),ae (by simp),ae (Kerb.Qs (by omega)),ae (by simp),ae (by simp only[Kerb.all_join fK,Bool.true_and,Qa2,List.length_append,List.length_cons,List.length_nil];omega)];simp only[↓fe,↓eb,↓bD,↓bS,↓fP,↓jw,↓cK,↓c8,↓cP];rw[show Kerb.xJ (l++[Zz .u64 k])=Kerb.AL l k from rfl];have hz:=Kerb.Lb (k:=k) fK;obtain⟨d,hd⟩:=Kerb.Jc l k;rw[hd] at hz Ty ⊢;simp only[Kerb.aT] at hz ⊢;by_cases h2:d.size<2
 ·rw[ah (by simp;omega)]
 rw[aj (by simp;omega)];refine b_ (fun i:Nat=>[Zz .i64 (i:Int)]) (fun i=>1<=i/\i<=d.size) (fun i=>d.size-i) (fun r=>∃ n,r=(.exit 0,[Zz .i64 n])) 1 ⟨Nat.le_refl _,by omega⟩ rfl ?_ ?_
 ·rintro i ⟨h1,hi⟩;simp only[↓bD,↓bS,↓cK,↓c8,↓cP];by_cases hc:i<d.size;case neg =>
   rw[aj (by simp;omega)];exact⟨_,rfl,_,rfl⟩
  have g2:i-1<d.size:=by omega
  rw[ah (by simp;omega)];simp only[show Zf .i64 ((i:Int)-1)=((i-1:Nat):Int) from(Kerb.gf (by omega) (by omega)).trans (by omega)];have r1:=Kerb.nI hc;have r2:=Kerb.nI g2;simp only[Xk,r1,r2,↓cK];have eY:=Kerb.Lh Ty (i:=i-1) (by omega);rw[show i-1+1=i by omega] at eY;rw[ae (by simp;omega),ae (by simp;omega),ae (by simp;omega),ae (by simp;omega),aj (by simp;omega),show Zf .i64 ((i:Int)+1)=((i+1:Nat):Int) from(Kerb.gf (by omega) (by omega)).trans (by omega)];exact⟨_,rfl,i+1,rfl,⟨by omega,by omega⟩,by dsimp only;omega⟩
 ·rintro _ ⟨n,rfl⟩;simp only[↓bD,↓bS,↓cK,↓cP,↓jx];rw[ah (Nat.beq_refl _)]
theorem aaY:Wk 195 9 Nz:=by
 refine cA Tryz.func195 rfl fun xs bl r h=> ?_;unfold Nz at h;split at h;case h_2=>cases h
 rename_i op ux uy uz kv rl tk sv ins bx;obtain⟨aB,rfl⟩:=dA h;refine cw (Zy (Gq [Yy [Zz .i64 op,Zw ux,Zw uy,Zw uz,Zz .i64 kv,Zw rl,Zv tk,Zw sv,Zw ins,Zv bx]] []) (kI .i64 fun n=>aD (!n==0) (Zp (Yx [Zv [],Zz .i64 n],[])) (aD (op==2) (Zy (pJ [Zv (Kerb.header 9 Yj++Xw op 1 Yj),Zz .i64 kv] []) (kO fun l=>Zy (oF [Zv l,Zw rl] []) (kO fun l=>Zy (Ae [Zv l,Zv tk] []) (kB fun b=>Zy (oF [Zv b,Zw sv] []) (kO fun l=>Zy (oF [Zv l,Zw ins] []) (kO fun l=>Zy (xL [Zv l,Zv bx] []) (kB fun b=>Zp (Yx [Zv b,Zz .i64 0],[])))))))) (Zy (oE [Zv (Kerb.header 9 Yj++Xw op 1 Yj),Yy [Zw ux,Zw uy,Zw uz]] []) (kO fun l=>Zy (xL [Zv l,Zv bx] []) (kB fun b=>Zp (Yx [Zv b,Zz .i64 0],[]))))))) (by kernel_rfl) ?_;delta kB kO kI;dsimp only[pJ,oE,oF,Ae,Gq,xL,aK,bq,aE,cT,ak,ci,dx];have EY:=aB;simp only[Zb,Qa2] at aB;simp only[A0];rw[ae EY];by_cases he:(Wy (Kerb.dY.mk op ⟨ux,uy,uz⟩ kv rl tk sv ins bx)).err=0;case neg =>
  rw[ah (by simpa using he),Kerb.EA he]
 rw[aj (by simp[he]),he];have p_:(Kerb.header 9 Yj).length=2:=rfl;rcases Kerb.u9 he with⟨ho,v1,v2,v3,hk,ht,hb,hu,hv⟩ | ⟨ho,v1,hb,hk,hr,ht,hs,hn,hv⟩
 ·have l1:=Kerb.gx v1;have l2:=Kerb.iK v2;have l3:=Kerb.gW v3;simp only at ho l1 l2 l3 ht hb;rw[ah (by simpa using ho),hv];rw[ae (by simp[Zm,p_]),ae (by simp[Zm,p_];omega),ae (by simp[Zm,p_,Kerb.bH];omega),ae (by simp[Zm,p_,Kerb.bH,Kerb.iO];omega),ae (by simp[Zm,p_,Kerb.bH,Kerb.iO];omega),ae (by simp[Zm,p_,Kerb.bH,Kerb.iO];omega)];simp[Kerb.c7,Xy,Kerb.iO]
 ·have l1:=Kerb.ch v1;simp only at ho l1 hb;rw[aj (by simp;omega),hv];rw[ae (by simp[Zm,p_];omega),ae (by simp[Zm,p_,Yq];omega)];simp[Kerb.c7,Xy,Kerb.c5]
theorem w72:Wk 72 10 Ol:=by
 refine cA Tryz.func72 rfl fun xs bl r h=> ?_;unfold Ol at h;split at h;case h_2=>cases h
 rename_i b;obtain⟨aB,rfl⟩:=dA h;refine cw (let t1:AV:=Yy [Zu Yj,Zw [],Zw [],Zw [],Zz .i64 0,Zz .u64 0,Zz .i64 0,Zz .i64 0,Zw [],Zw []];let t0:Option (AV×aC):=Zp (Yx [t1,Zz .i64 100],[]);oV [Zv b,Zz .i64 0] fun n bn bT=>aD (Zq (n>1)) (Zp (Yx [t1,Zz .i64 7],[])) (AH [Zv b,Zz .i64 bn] fun cL eP eX eO bZ=>uH [Zv b,Zz .i64 eO,Zu (n==1)] fun bF fb eW=>qK [Zv b,Zz .i64 fb,Zz .i64 8] fun g7 gM kH=>AJ [Zv g7] fun lM gZ=>oV [Zv b,Zz .i64 gM] fun gu iM fL=>uH [Zv b,Zz .i64 iM,Zu (n==1)] fun bh gR eU=>uI [Zv b,Zz .i64 gR] fun iz dc bB=>uI [Zv b,Zz .i64 dc] fun jl oP oQ=>let t2:AV:=Yy [Zu (n==1),Zw cL,Zw eP,Zw eX,Zz .i64 bF,Zz .u64 lM,Zz .i64 gu,Zz .i64 bh,Zw iz,Zw jl];Zy (F8 [t2] []) (kT fun vs=>bq vs fun mH r=>ak .i64 r fun n r=>aw r (aD (!n==0) t0 (aD (!mH==b) t0 (Zp (Yx [t2,Zz .i64 0],[]))))))) (by kernel_rfl) ?_;unfold oV AH uH qK AJ uI;delta kT;dsimp only[su,vW,tH,qH,vX,vY,F8,aK,bq,aE,cT,ak,ci,dx];have hb:=Qa3 aB;have jN:Zq (b.length<=4611686018427387904)=Xz:=by simp;omega
 simp only[aB,jN,↓A0,A0];unfold Kerb.cC;by_cases h7:1<(Kerb.get b 0 1 Yj).val
 ·rw[ah (by simpa using h7),Qa1 h7];try rfl
 rw[aj (by simpa using h7),Qa0 h7];have hl:∀ p n,(Xf b p n).val.length<=4611686018427387904:=fun p n=>Yz (Kerb.jn b p n) (by omega);have hk:∀ q,0<=(Kerb.fh q).1/\(Kerb.fh q).1<18446744073709551616:=Kerb.l8;have hx:∀ q,(Kerb.text b q).val.length<=40:=Kerb.jk b;have lp:∀ q (_:Unit),(Kerb.ia b q).val.name.length<=40/\(Kerb.ia b q).val.inst.length<=40/\(Kerb.ia b q).val.aJ.length<=40:=fun q _=>Kerb.nY b q;rw[ae (by simp only[Qa2];exact hl _ _),ae (by simp only[Zb,Qa2];exact⟨⟨⟨⟨⟨⟨Yz (lp _ ()).1 (by decide),Yz (lp _ ()).2.1 (by decide)⟩,Yz (lp _ ()).2.2 (by decide)⟩,Yz (hx _) (by decide)⟩,Yz (hx _) (by decide)⟩,(hk _).1⟩,(hk _).2⟩)];exact Kerb.fM (no:=Kerb.jP) (enc:=Kerb.bR) (rd:=fun b=>(Kerb.zT b,Yj)) _ Yj rfl (fun x e=>(Yx [Yy [Zu (x).aq,Zw (x).client.name,Zw (x).client.inst,Zw (x).client.aJ,Zz Zn (x).address,Zz IntKind.u64 (x).aG,Zz Zn (x).cj,Zz Zn (x).cE,Zw (x).service,Zw (x).inst],Zz Zn e],([]:aC)))
theorem w76:Wk 76 10 On:=by
 refine cA Tryz.func76 rfl fun xs bl r h=> ?_;unfold On at h;split at h;case h_2=>cases h
 rename_i b;obtain⟨aB,rfl⟩:=dA h;refine cw (let t1:List AV:=[Zz .u64 0,Zz .i64 0,Zz .i64 0,Zz .i64 0,Zw [],Zw [],Zw [],Zv []];let t0:Option (AV×aC):=Zp (Yx [Yy (Zw []::Zz .i64 0::t1),Zz .i64 100],[]);Zy (qI [Yb 0 0,Zz .i64 4] [(0,[Zv b,Zz .i64 0,Zu Yj])]) fun(r:AV×aC)=>aL (Zj r) fun(x:List AV) (eI:List (List AV))=>bq x fun cL eS=>ak .i64 eS fun n eZ=>aE eZ fun eP f_=>aw f_ (aM eI (AV.eH (Zd r) fun eX=>Zy (sA [Yb 0 0] [(0,[Zv cL,Zz .i64 n,Zu eP])]) fun(r:AV×aC)=>aL (Zj r) fun(x:List AV) (iq:List (List AV))=>bq x fun g7 ju=>ak .i64 ju fun n lE=>aE lE fun gZ mT=>aw mT (aM iq (Xv .i64 (Zd r) fun bn=>let t2:Kerb.lX:=Kerb.bm (Kerb.gn.mk eX bn 0 0 0 0 (Kerb.aZ.mk [] [] []) []);aD (Kerb.dK eX) (Zy (z7 [Yb 0 0] [(0,[Zv g7,Zz .i64 n,Zu gZ])]) fun(r:AV×aC)=>aL (Zj r) fun(x:List AV) (mg:List (List AV))=>bq x fun iz fZ=>ak .i64 fZ fun n gS=>aE gS fun jl gT=>aw gT (aM mg (Xv .u64 (Zd r) fun bT=>Zy (sA [Yb 0 0] [(0,[Zv iz,Zz .i64 n,Zu jl])]) fun(r:AV×aC)=>aL (Zj r) fun(x:List AV) (jC:List (List AV))=>bq x fun mH kf=>ak .i64 kf fun n kg=>aE kg fun n8 lD=>aw lD (aM jC (Xv .i64 (Zd r) fun eO=>Zy (sA [Yb 0 0] [(0,[Zv mH,Zz .i64 n,Zu n8])]) fun(r:AV×aC)=>aL (Zj r) fun(x:List AV) (rU:List (List AV))=>bq x fun hZ rV=>ak .i64 rV fun n rW=>aE rW fun jI rX=>aw rX (aM rU (Xv .i64 (Zd r) fun bZ=>Zy (vZ [Yb 0 0] [(0,[Zv hZ,Zz .i64 n,Zu jI])]) fun(r:AV×aC)=>aL (Zj r) fun(x:List AV) (uo:List (List AV))=>bq x fun jJ uq=>ak .i64 uq fun n ur=>aE ur fun jK w4=>aw w4 (aM uo (Xv .i64 (Zd r) fun bF=>Zy (F' [Yb 0 0] [(0,[Zv jJ,Zz .i64 n,Zu jK])]) fun(r:AV×aC)=>aL (Zj r) fun(x:List AV) (Dq:List (List AV))=>bq x fun m7 Dr=>ak .i64 Dr fun n Ds=>aE Ds fun nH Dt=>aw Dt (aM Dq (Xq (Zd r) fun cs=>aK cs fun mG r=>aK r fun lZ r=>aK r fun pS r=>aw r (Zy (vZ [Yb 0 0] [(0,[Zv m7,Zz .i64 n,Zu nH])]) fun(r:AV×aC)=>aL (Zj r) fun(x:List AV) (Du:List (List AV))=>bq x fun ta Dv=>ak .i64 Dv fun n Dw=>aE Dw fun AM Dx=>aw Dx (aM Du (Xv .i64 (Zd r) fun fb=>Zy (qI [Yb 0 0,Zz .i64 fb] [(0,[Zv ta,Zz .i64 n,Zu AM])]) fun(r:AV×aC)=>aL (Zj r) fun(x:List AV) (Dy:List (List AV))=>bq x fun Ji HK=>ak .i64 HK fun n HL=>aE HL fun G1 HM=>aw HM (aM Dy (AV.eH (Zd r) fun AN=>let t3:AV:=Yy [Zw eX,Zz .i64 bn,Zz .u64 bT,Zz .i64 eO,Zz .i64 bZ,Zz .i64 bF,Zw mG,Zw lZ,Zw pS,Zv AN];aD G1 t0 (Zy (Ga [t3] []) (kT fun vs=>bq vs fun Jj r=>ak .i64 r fun n r=>aw r (aD (!n==0) t0 (aD (!Jj==b) t0 (Zp (Yx [t3,Zz .i64 0],[])))))))))))))))))))))) (aD gZ t0 (aD (!Kerb.lX.err t2==0) t0 (aD (!Kerb.lX.val t2==b) t0 (Zp (Yx [Yy (Zw eX::Zz .i64 bn::t1),Zz .i64 0],[])))))))))) (by kernel_rfl) ?_;delta kT;dsimp only[qI,sA,z7,vZ,F',Ga,aK,bq,aE,cT,ak,ci,dx];have hb:=Qa3 aB;simp only[A0,aB];cases ht:Kerb.dK (Wz b 4 0 Yj).val
 ·rw[aA];exact Kerb.fM (no:=Kerb.uh) (enc:=Kerb.bm) (rd:=Kerb.nz) _ _ (by unfold Kerb.nz Kerb.HG;dsimp only;rw[ht];rfl) (fun x e=>(Yx [Yy [Zw (x).label,Zz Zn (x).time,Zz IntKind.u64 (x).aG,Zz Zn (x).start,Zz Zn (x).stop,Zz Zn (x).bP,Zw (x).service.name,Zw (x).service.inst,Zw (x).service.aJ,Zv (x).aN],Zz Zn e],([]:aC)))
 ·have hk:∀ p q,0<=(Kerb.zI b p q).val/\(Kerb.zI b p q).val<18446744073709551616:=Kerb.yh b;have lp:=Kerb.BT b;rw[cc,ae (by simp only[Zb,Qa2];exact⟨⟨⟨⟨Yz (lp _ _).1 (by omega),Yz (lp _ _).2.1 (by omega)⟩,Yz (lp _ _).2.2 (by omega)⟩,(hk _ _).1⟩,(hk _ _).2⟩)];exact Kerb.fM (no:=Kerb.uh) (enc:=Kerb.bm) (rd:=Kerb.nz) _ _ (by unfold Kerb.nz Kerb.HG;dsimp only;rw[ht];rfl) (fun x e=>(Yx [Yy [Zw (x).label,Zz Zn (x).time,Zz IntKind.u64 (x).aG,Zz Zn (x).start,Zz Zn (x).stop,Zz Zn (x).bP,Zw (x).service.name,Zw (x).service.inst,Zw (x).service.aJ,Zv (x).aN],Zz Zn e],([]:aC)))
theorem w77:Wk 77 10 Oo:=by
 refine cA Tryz.func77 rfl fun xs bl r h=> ?_;unfold Oo at h;split at h;case h_2=>cases h
 rename_i b;obtain⟨aB,rfl⟩:=dA h;refine cw (let t0:Option (AV×aC):=Zp (Yx [Yy [Zw [],Zw [],Zw [],Zw [],Zw [],Zw [],Zz .u64 0,Zz .i64 0,Zz .i64 0,Zz .i64 0],Zz .i64 100],[]);Zy (tI [Yb 0 0] [(0,[Zv b,Zz .i64 0,Zu Yj])]) fun(r:AV×aC)=>aL (Zj r) fun(x:List AV) (eI:List (List AV))=>bq x fun cL eS=>ak .i64 eS fun n eZ=>aE eZ fun eP f_=>aw f_ (aM eI (Xq (Zd r) fun cs=>aK cs fun eX r=>aK r fun g7 r=>aK r fun gZ r=>aw r (Zy (tI [Yb 0 0] [(0,[Zv cL,Zz .i64 n,Zu eP])]) fun(r:AV×aC)=>aL (Zj r) fun(x:List AV) (iq:List (List AV))=>bq x fun iz ju=>ak .i64 ju fun n lE=>aE lE fun jl mT=>aw mT (aM iq (Xq (Zd r) fun cs=>aK cs fun mH r=>aK r fun n8 r=>aK r fun hZ r=>aw r (Zy (z8 [Yb 0 0] [(0,[Zv iz,Zz .i64 n,Zu jl])]) fun(r:AV×aC)=>aL (Zj r) fun(x:List AV) (mg:List (List AV))=>bq x fun jI fZ=>ak .i64 fZ fun n gS=>aE gS fun jJ gT=>aw gT (aM mg (Xv .u64 (Zd r) fun bn=>Zy (tJ [Yb 0 0] [(0,[Zv jI,Zz .i64 n,Zu jJ])]) fun(r:AV×aC)=>aL (Zj r) fun(x:List AV) (jC:List (List AV))=>bq x fun jK kf=>ak .i64 kf fun n kg=>aE kg fun m7 lD=>aw lD (aM jC (Xv .i64 (Zd r) fun bT=>Zy (tJ [Yb 0 0] [(0,[Zv jK,Zz .i64 n,Zu m7])]) fun(r:AV×aC)=>aL (Zj r) fun(x:List AV) (rU:List (List AV))=>bq x fun nH rV=>ak .i64 rV fun n rW=>aE rW fun mG rX=>aw rX (aM rU (Xv .i64 (Zd r) fun eO=>Zy (tJ [Yb 0 0] [(0,[Zv nH,Zz .i64 n,Zu mG])]) fun(r:AV×aC)=>aL (Zj r) fun(x:List AV) (uo:List (List AV))=>bq x fun lZ uq=>ak .i64 uq fun n ur=>aE ur fun pS w4=>aw w4 (aM uo (Xv .i64 (Zd r) fun n=>let t1:AV:=Yy [Zw eX,Zw g7,Zw gZ,Zw mH,Zw n8,Zw hZ,Zz .u64 bn,Zz .i64 bT,Zz .i64 eO,Zz .i64 n];aD pS t0 (Zy (Gb [t1] []) (kT fun vs=>bq vs fun ta r=>ak .i64 r fun n r=>aw r (aD (!n==0) t0 (aD (!ta==b) t0 (Zp (Yx [t1,Zz .i64 0],[]))))))))))))))))))))) (by kernel_rfl) ?_;delta kT;dsimp only[tI,z8,tJ,Gb,aK,bq,aE,cT,ak,ci,dx];have hb:=Qa3 aB;have lp:∀ p c,(Xm b p c).val.name.length<=9223372036854775807/\(Xm b p c).val.inst.length<=9223372036854775807/\(Xm b p c).val.aJ.length<=9223372036854775807:=fun p c=>by
  have h:=Kerb.nY b p;exact⟨Yz h.1 (by omega),Yz h.2.1 (by omega),Yz h.2.2 (by omega)⟩
 have hk:∀ p c,0<=(Kerb.xR b p c).val/\(Kerb.xR b p c).val<18446744073709551616:=Kerb.xZ b;simp only[A0,Yp,Yd,Kerb.eD.av,aB,lp,hk,Qb2,Yu];unfold Kerb.dS;exact Kerb.fM (no:=Kerb.ML) (enc:=Kerb.eN) (rd:=Kerb.FJ) _ _ rfl (fun x e=>(Yx [Yy [Zw (x).client.name,Zw (x).client.inst,Zw (x).client.aJ,Zw (x).service.name,Zw (x).service.inst,Zw (x).service.aJ,Zz IntKind.u64 (x).aG,Zz Zn (x).start,Zz Zn (x).stop,Zz Zn (x).addr],Zz Zn e],([]:aC)))
theorem w78:Wk 78 10 Oq:=by
 refine cA Tryz.func78 rfl fun xs bl r h=> ?_;unfold Oq at h;split at h;case h_2=>cases h
 rename_i b;obtain⟨aB,rfl⟩:=dA h;refine cw (let t0:Option (AV×aC):=Zp (Yx [Yy [Zz .u64 0,Zw [],Zw [],Zw [],Zz .i64 0,Zz .i64 0,Zv []],Zz .i64 100],[]);Zy (z8 [Yb 0 0] [(0,[Zv b,Zz .i64 0,Zu Yj])]) fun(r:AV×aC)=>aL (Zj r) fun(x:List AV) (eI:List (List AV))=>bq x fun cL eS=>ak .i64 eS fun n eZ=>aE eZ fun eP f_=>aw f_ (aM eI (Xv .u64 (Zd r) fun bn=>Zy (tI [Yb 0 0] [(0,[Zv cL,Zz .i64 n,Zu eP])]) fun(r:AV×aC)=>aL (Zj r) fun(x:List AV) (iq:List (List AV))=>bq x fun eX ju=>ak .i64 ju fun n lE=>aE lE fun g7 mT=>aw mT (aM iq (Xq (Zd r) fun cs=>aK cs fun gZ r=>aK r fun iz r=>aK r fun jl r=>aw r (Zy (tJ [Yb 0 0] [(0,[Zv eX,Zz .i64 n,Zu g7])]) fun(r:AV×aC)=>aL (Zj r) fun(x:List AV) (mg:List (List AV))=>bq x fun mH fZ=>ak .i64 fZ fun n gS=>aE gS fun n8 gT=>aw gT (aM mg (Xv .i64 (Zd r) fun bT=>Zy (tJ [Yb 0 0] [(0,[Zv mH,Zz .i64 n,Zu n8])]) fun(r:AV×aC)=>aL (Zj r) fun(x:List AV) (jC:List (List AV))=>bq x fun hZ kf=>ak .i64 kf fun n kg=>aE kg fun jI lD=>aw lD (aM jC (Xv .i64 (Zd r) fun eO=>Zy (z9 [Yb 0 0] [(0,[Zv hZ,Zz .i64 n,Zu jI])]) fun(r:AV×aC)=>aL (Zj r) fun(x:List AV) (rU:List (List AV))=>bq x fun jJ rV=>ak .i64 rV fun n rW=>aE rW fun jK rX=>aw rX (aM rU (Xv .i64 (Zd r) fun bZ=>Zy (v_ [Yb 0 0,Zz .i64 bZ] [(0,[Zv jJ,Zz .i64 n,Zu jK])]) fun(r:AV×aC)=>aL (Zj r) fun(x:List AV) (uo:List (List AV))=>bq x fun m7 uq=>ak .i64 uq fun n ur=>aE ur fun nH w4=>aw w4 (aM uo (AV.eH (Zd r) fun mG=>let t1:AV:=Yy [Zz .u64 bn,Zw gZ,Zw iz,Zw jl,Zz .i64 bT,Zz .i64 eO,Zv mG];aD nH t0 (Zy (Gc [t1] []) (kT fun vs=>bq vs fun lZ r=>ak .i64 r fun n r=>aw r (aD (!n==0) t0 (aD (!lZ==b) t0 (Zp (Yx [t1,Zz .i64 0],[])))))))))))))))))))) (by kernel_rfl) ?_;delta kT;dsimp only[tI,z8,tJ,v_,z9,Gc,aK,bq,aE,cT,ak,ci,dx];have hb:=Qa3 aB;have lp:∀ p c,(Xm b p c).val.name.length<=9223372036854775807/\(Xm b p c).val.inst.length<=9223372036854775807/\(Xm b p c).val.aJ.length<=9223372036854775807:=fun p c=>by
  have h:=Kerb.nY b p;exact⟨Yz h.1 (by omega),Yz h.2.1 (by omega),Yz h.2.2 (by omega)⟩
 have hk:∀ p c,0<=(Kerb.xR b p c).val/\(Kerb.xR b p c).val<18446744073709551616:=Kerb.xZ b;simp only[A0,Yp,Yd,Kerb.eD.av,aB,lp,hk,Qb2,Yu];unfold Kerb.dp;exact Kerb.fM (no:=Kerb.IX) (enc:=Kerb.dT) (rd:=Kerb.BX) _ _ rfl (fun x e=>(Yx [Yy [Zz IntKind.u64 (x).aG,Zw (x).service.name,Zw (x).service.inst,Zw (x).service.aJ,Zz Zn (x).start,Zz Zn (x).stop,Zv (x).record],Zz Zn e],([]:aC)))
theorem Z7:Wk 123 10 F3:=by
 refine cA Tryz.func123 rfl fun xs bl r h=> ?_;unfold F3 at h;split at h;case h_2=>cases h
 rename_i b;obtain⟨aB,rfl⟩:=dA h
 refine cw (let t1:AV:=Yy [Zz .i64 0,Zw [],Zw [],Zw [],Zz .i64 0,Zw [],Zv [],Zw [],Zw [],Zv []];let t0:Option (AV×aC):=Zp (Yx [t1,Zz .i64 100],[]);aD (!Zj (Yh b [9])==0) (Zp (Yx [t1,Zz .i64 (Zj (Yh b [9]))],[])) (Zy (az (Zq (Zx b<=140737488355328)) (Zp (Zz .i64 (Yk (Ym b 1 2 Yj)),[[Zv b,Zz .i64 (Yf (Ym b 1 2 Yj)),Zu (Yg (Ym b 1 2 Yj))]]))) fun(r:AV×aC)=>aL (Zj r) fun(x:List AV) (eI:List (List AV))=>bq x fun cL eS=>ak .i64 eS fun n eZ=>aE eZ fun eP f_=>aw f_ (aM eI (Xv .i64 (Zd r) fun bn=>aD (bn==2) (Zy (az (Zq (Zx cL<=140737488355328)) (Zp (Zz .i64 (Yk (Ym cL 1 n eP)),[[Zv cL,Zz .i64 (Yf (Ym cL 1 n eP)),Zu (Yg (Ym cL 1 n eP))]]))) fun(r:AV×aC)=>aL (Zj r) fun(x:List AV) (iq:List (List AV))=>bq x fun eX ju=>ak .i64 ju fun n lE=>aE lE fun g7 mT=>aw mT (aM iq (Xv .i64 (Zd r) fun bT=>Zy (az (Zq (Zx eX<=140737488355328)) (Zp (Zw (Yk (Kerb.lV eX n g7)),[[Zv eX,Zz .i64 (Yf (Kerb.lV eX n g7)),Zu (Yg (Kerb.lV eX n g7))]]))) fun(r:AV×aC)=>aL (Zj r) fun(x:List AV) (mg:List (List AV))=>bq x fun gZ fZ=>ak .i64 fZ fun n gS=>aE gS fun iz gT=>aw gT (aM mg (AV.gw (Zd r) fun jl=>Zy (az (Zq (Zx gZ<=140737488355328)) (Zp (Zz .i64 (Yk (Ym gZ 1 n iz)),[[Zv gZ,Zz .i64 (Yf (Ym gZ 1 n iz)),Zu (Yg (Ym gZ 1 n iz))]]))) fun(r:AV×aC)=>aL (Zj r) fun(x:List AV) (jC:List (List AV))=>bq x fun mH kf=>ak .i64 kf fun n kg=>aE kg fun n8 lD=>aw lD (aM jC (Xv .i64 (Zd r) fun eO=>Zy (az (Zq (Zx mH<=140737488355328)) (Zp (Zv (Yk (Wz mH eO n n8)),[[Zv mH,Zz .i64 (Yf (Wz mH eO n n8)),Zu (Yg (Wz mH eO n n8))]]))) fun(r:AV×aC)=>aL (Zj r) fun(x:List AV) (rU:List (List AV))=>bq x fun hZ rV=>ak .i64 rV fun n rW=>aE rW fun jI rX=>aw rX (aM rU (AV.eH (Zd r) fun jJ=>Zy (az (Zq (Zx hZ<=140737488355328)) (Zp (Zw (Yk (Kerb.lV hZ n jI)),[[Zv hZ,Zz .i64 (Yf (Kerb.lV hZ n jI)),Zu (Yg (Kerb.lV hZ n jI))]]))) fun(r:AV×aC)=>aL (Zj r) fun(x:List AV) (uo:List (List AV))=>bq x fun jK uq=>ak .i64 uq fun n ur=>aE ur fun m7 w4=>aw w4 (aM uo (AV.gw (Zd r) fun nH=>Zy (az (Zq (Zx jK<=140737488355328)) (Zp (Zw (Yk (Kerb.lV jK n m7)),[[Zv jK,Zz .i64 (Yf (Kerb.lV jK n m7)),Zu (Yg (Kerb.lV jK n m7))]]))) fun(r:AV×aC)=>aL (Zj r) fun(x:List AV) (Dq:List (List AV))=>bq x fun mG Dr=>ak .i64 Dr fun n Ds=>aE Ds fun lZ Dt=>aw Dt (aM Dq (AV.gw (Zd r) fun pS=>Zy (az (Zq (Zx mG<=140737488355328)) (Zp (Zz .i64 (Yk (Ym mG 2 n lZ)),[[Zv mG,Zz .i64 (Yf (Ym mG 2 n lZ)),Zu (Yg (Ym mG 2 n lZ))]]))) fun(r:AV×aC)=>aL (Zj r) fun(x:List AV) (Du:List (List AV))=>bq x fun ta Dv=>ak .i64 Dv fun n Dw=>aE Dw fun AM Dx=>aw Dx (aM Du (Xv .i64 (Zd r) fun bZ=>Zy (az (Zq (Zx ta<=140737488355328)) (Zp (Zv (Yk (Wz ta bZ n AM)),[[Zv ta,Zz .i64 (Yf (Wz ta bZ n AM)),Zu (Yg (Wz ta bZ n AM))]]))) fun(r:AV×aC)=>aL (Zj r) fun(x:List AV) (Dy:List (List AV))=>bq x fun Ji HK=>ak .i64 HK fun n HL=>aE HL fun G1 HM=>aw HM (aM Dy (AV.eH (Zd r) fun AN=>aD G1 t0 (Zy (az (dx jl&&dx nH&&dx pS) (Zp (Yx [Zv (Kerb.lX.val (Wy (Kerb.dY.mk bn (Kerb.aZ.mk [] [] []) bT jl jJ nH pS AN))),Zz .i64 (Kerb.lX.err (Wy (Kerb.dY.mk bn (Kerb.aZ.mk [] [] []) bT jl jJ nH pS AN)))],[]))) (kT fun vs=>bq vs fun Jj r=>ak .i64 r fun n r=>aw r (aD (!n==0) t0 (aD (!Jj==b) t0 (Zp (Yx [Yy [Zz .i64 bn,Zw [],Zw [],Zw [],Zz .i64 bT,Zw jl,Zv jJ,Zw nH,Zw pS,Zv AN],Zz .i64 0],[]))))))))))))))))))))))) (Zy (az (Zq (Zx cL<=140737488355328)) (Zp (Yy [Zw (Kerb.aZ.name (Yk (Kerb.mR cL n eP))),Zw (Kerb.aZ.inst (Yk (Kerb.mR cL n eP))),Zw (Kerb.aZ.aJ (Yk (Kerb.mR cL n eP)))],[[Zv cL,Zz .i64 (Yf (Kerb.mR cL n eP)),Zu (Yg (Kerb.mR cL n eP))]]))) fun(r:AV×aC)=>aL (Zj r) fun(x:List AV) (iq:List (List AV))=>bq x fun eX ju=>ak .i64 ju fun n lE=>aE lE fun g7 mT=>aw mT (aM iq (Xq (Zd r) fun cs=>aK cs fun gZ r=>aK r fun iz r=>aK r fun jl r=>aw r (Zy (az (Zq (Zx eX<=140737488355328)) (Zp (Zz .i64 (Yk (Ym eX 2 n g7)),[[Zv eX,Zz .i64 (Yf (Ym eX 2 n g7)),Zu (Yg (Ym eX 2 n g7))]]))) fun(r:AV×aC)=>aL (Zj r) fun(x:List AV) (mg:List (List AV))=>bq x fun mH fZ=>ak .i64 fZ fun n gS=>aE gS fun n8 gT=>aw gT (aM mg (Xv .i64 (Zd r) fun bT=>Zy (az (Zq (Zx mH<=140737488355328)) (Zp (Zv (Yk (Wz mH bT n n8)),[[Zv mH,Zz .i64 (Yf (Wz mH bT n n8)),Zu (Yg (Wz mH bT n n8))]]))) fun(r:AV×aC)=>aL (Zj r) fun(x:List AV) (jC:List (List AV))=>bq x fun hZ kf=>ak .i64 kf fun n kg=>aE kg fun jI lD=>aw lD (aM jC (AV.eH (Zd r) fun jJ=>aD jI t0 (Zy (az (dx gZ&&dx iz&&dx jl&&Xz&&Xz&&Xz) (Zp (Yx [Zv (Kerb.lX.val (Wy (Kerb.dY.mk bn (Kerb.aZ.mk gZ iz jl) 0 [] [] [] [] jJ))),Zz .i64 (Kerb.lX.err (Wy (Kerb.dY.mk bn (Kerb.aZ.mk gZ iz jl) 0 [] [] [] [] jJ)))],[]))) (kT fun vs=>bq vs fun jK r=>ak .i64 r fun n r=>aw r (aD (!n==0) t0 (aD (!jK==b) t0 (Zp (Yx [Yy [Zz .i64 bn,Zw gZ,Zw iz,Zw jl,Zz .i64 0,Zw [],Zv [],Zw [],Zw [],Zv jJ],Zz .i64 0],[])))))))))))))))))) (by kernel_rfl) ?_
 delta kT;try dsimp only[aK,bq,aE,cT,ak,ci,dx]
 have hb:=Qa3 aB;simp only[A0];by_cases h:(Yh b [9]).2=0;case neg =>
  rw[ah (by simpa using h)];unfold Kerb.bu;rw[Qa1 h];rfl
 have hd:Kerb.bu b=Kerb.iB Kerb.vK Wy Kerb.nA b:=by unfold Kerb.bu;rw[Qa0 (by simpa using h)]
 rw[aj (by simp[h]),hd];rw[ae aB];by_cases h2:(Ym b 1 2 Yj).val=2
 ·have e2:((Ym b 1 2 Yj).val==2)=Xz:=by simpa using h2
  rw[ah e2];rw[ae aB,ae aB,ae aB,ae aB,ae aB,ae aB,ae aB,ae aB];have lt:=Kerb.Kk b;rw[ae (by simp only[Zb,Qa2];exact⟨⟨Yz (lt _ _) (by omega),Yz (lt _ _) (by omega)⟩,Yz (lt _ _) (by omega)⟩)];exact Kerb.fM (no:=Kerb.vK) (enc:=Wy) (rd:=Kerb.nA) _ _ (by unfold Kerb.nA Kerb.HH;dsimp only;rw[e2];rfl) (fun x e=>(Yx [Yy [Zz Zn (x).op,Zw (x).user.name,Zw (x).user.inst,Zw (x).user.aJ,Zz Zn (x).bP,Zw (x).aJ,Zv (x).aN,Zw (x).service,Zw (x).inst,Zv (x).box],Zz Zn e],([]:aC)))
 ·have e2:((Ym b 1 2 Yj).val==2)=Yj:=by simpa using h2
  rw[aj e2];rw[ae aB,ae aB,ae aB];have lt:=Kerb.BT b (Ym b 1 2 Yj).pos (Ym b 1 2 Yj).bad;rw[ae (by simp;omega)];exact Kerb.fM (no:=Kerb.vK) (enc:=Wy) (rd:=Kerb.nA) _ _ (by unfold Kerb.nA Kerb.HH;dsimp only;rw[e2];rfl) (fun x e=>(Yx [Yy [Zz Zn (x).op,Zw (x).user.name,Zw (x).user.inst,Zw (x).user.aJ,Zz Zn (x).bP,Zw (x).aJ,Zv (x).aN,Zw (x).service,Zw (x).inst,Zv (x).box],Zz Zn e],([]:aC)))
theorem Z9:Wk 125 10 F5:=by
 refine cA Tryz.func125 rfl fun xs bl r h=> ?_;unfold F5 at h;split at h;case h_2=>cases h
 rename_i b;obtain⟨aB,rfl⟩:=dA h;refine cw (let t1:AV:=Yy [Zz .i64 0,Zw [],Zw [],Zw [],Zv []];let t0:Option (AV×aC):=Zp (Yx [t1,Zz .i64 100],[]);aD (!Zj (Yh b [10])==0) (Zp (Yx [t1,Zz .i64 (Zj (Yh b [10]))],[])) (Zy (Gi [Yb 0 0] [(0,[Zv b,Zz .i64 2,Zu Yj])]) fun(r:AV×aC)=>aL (Zj r) fun(x:List AV) (eI:List (List AV))=>bq x fun cL eS=>ak .i64 eS fun n eZ=>aE eZ fun eP f_=>aw f_ (aM eI (Xv .i64 (Zd r) fun bn=>Zy (tI [Yb 0 0] [(0,[Zv cL,Zz .i64 n,Zu eP])]) fun(r:AV×aC)=>aL (Zj r) fun(x:List AV) (iq:List (List AV))=>bq x fun eX ju=>ak .i64 ju fun n lE=>aE lE fun g7 mT=>aw mT (aM iq (Xq (Zd r) fun cs=>aK cs fun gZ r=>aK r fun iz r=>aK r fun jl r=>aw r (Zy (z9 [Yb 0 0] [(0,[Zv eX,Zz .i64 n,Zu g7])]) fun(r:AV×aC)=>aL (Zj r) fun(x:List AV) (mg:List (List AV))=>bq x fun mH fZ=>ak .i64 fZ fun n gS=>aE gS fun n8 gT=>aw gT (aM mg (Xv .i64 (Zd r) fun bT=>Zy (v_ [Yb 0 0,Zz .i64 bT] [(0,[Zv mH,Zz .i64 n,Zu n8])]) fun(r:AV×aC)=>aL (Zj r) fun(x:List AV) (jC:List (List AV))=>bq x fun hZ kf=>ak .i64 kf fun n kg=>aE kg fun jI lD=>aw lD (aM jC (AV.eH (Zd r) fun jJ=>let t2:AV:=Yy [Zz .i64 bn,Zw gZ,Zw iz,Zw jl,Zv jJ];aD jI t0 (Zy (Gj [t2] []) (kT fun vs=>bq vs fun jK r=>ak .i64 r fun n r=>aw r (aD (!n==0) t0 (aD (!jK==b) t0 (Zp (Yx [t2,Zz .i64 0],[]))))))))))))))))) (by kernel_rfl) ?_;delta kT;dsimp only[tI,v_,z9,Gi,Gj,aK,bq,aE,cT,ak,ci,dx];have hb:=Qa3 aB;have lp:∀ p c,(Xm b p c).val.name.length<=9223372036854775807/\(Xm b p c).val.inst.length<=9223372036854775807/\(Xm b p c).val.aJ.length<=9223372036854775807:=fun p c=>by
  have h:=Kerb.nY b p;exact⟨Yz h.1 (by omega),Yz h.2.1 (by omega),Yz h.2.2 (by omega)⟩
 simp only[A0,Yp,Yd,Kerb.eD.av,aB,lp,Qb2,Yu];by_cases h:(Yh b [10]).2=0;case neg =>
  rw[ah (by simpa using h)];unfold Kerb.fu;rw[Qa1 h];rfl
 rw[aj (by simp[h])];unfold Kerb.fu;rw[Qa0 (by simpa using h)];exact Kerb.fM (no:=Kerb.HC) (enc:=Kerb.eM) (rd:=Kerb.FI) _ _ rfl (fun x e=>(Yx [Yy [Zz Zn (x).op,Zw (x).name.name,Zw (x).name.inst,Zw (x).name.aJ,Zv (x).box],Zz Zn e],([]:aC)))
theorem w15:Wk 15 11 PR:=by
 refine cA Tryz.func15 rfl fun xs bl r h=> ?_;unfold PR at h;split at h;case h_2=>cases h
 rename_i kd k b;obtain⟨aB,rfl⟩:=dA h
 refine cw (aD (kd==1) (Zy (Ol [Zv b] []) (kT fun vs=>ay vs fun x r=>Xq x fun cs=>aE cs fun b eI=>aK eI fun b eS=>aK eS fun b eZ=>aK eZ fun b f_=>ak .i64 f_ fun n iq=>ak .u64 iq fun n ju=>ak .i64 ju fun bn lE=>ak .i64 lE fun bT mT=>aK mT fun b mg=>aK mg fun b fZ=>aw fZ (ak .i64 r fun eO r=>aw r (aD (eO==0) (Zy (Ao [Zk 1 [Zz .u64 n]] []) fun(r:AV×aC)=>aM (Zj r) (Xb 1 (Zd r) fun b=>Zp (Yx [Zk 1 b,Zk 1 []],[]))) (Zp (Yx [Zk 1 [],Zk 1 []],[])))))) (aD (kd==3) (Zy (KL [Zv b,Zu Yj] []) (kT fun vs=>ay vs fun x r=>Xq x fun cs=>ak .u64 cs fun n eI=>aK eI fun cL eS=>aK eS fun eP eZ=>aK eZ fun eX f_=>ak .i64 f_ fun bn iq=>ak .i64 iq fun bT ju=>bq ju fun g7 lE=>ak .i64 lE fun eO mT=>aw mT (ak .i64 r fun bZ r=>aw r (aD (!bZ==0) (Zy (KL [Zv b,Zu Xz] []) (kT fun vs=>ay vs fun x r=>Xq x fun cs=>ak .u64 cs fun n mg=>aK mg fun b fZ=>aK fZ fun b gS=>aK gS fun b gT=>ak .i64 gT fun bF jC=>ak .i64 jC fun fb kf=>bq kf fun b kg=>ak .i64 kg fun eW lD=>aw lD (ak .i64 r fun gM r=>aw r (aD (gM==0) (Zy (Ao [Zk 1 [Zz .u64 n]] []) fun(r:AV×aC)=>aM (Zj r) (Xb 1 (Zd r) fun gZ=>Zy (Be [Zk 1 [Zv b]] []) fun(r:AV×aC)=>aM (Zj r) (Xb 1 (Zd r) fun b=>Zp (Yx [Zk 1 gZ,Zk 1 b],[])))) (Zp (Yx [Zk 1 [],Zk 1 []],[])))))) (aD (bZ==0) (Zy (Ao [Zk 1 [Zz .u64 n]] []) fun(r:AV×aC)=>aM (Zj r) (Xb 1 (Zd r) fun b=>Zy (Be [Zk 1 [Zv g7]] []) fun(r:AV×aC)=>aM (Zj r) (Xb 1 (Zd r) fun gZ=>Zp (Yx [Zk 1 b,Zk 1 gZ],[])))) (Zp (Yx [Zk 1 [],Zk 1 []],[]))))))) (aD (kd==7) (Zy (Om [Zv b] []) (kT fun vs=>ay vs fun x r=>Xq x fun cs=>aK cs fun b eI=>ak .i64 eI fun n eS=>ak .i64 eS fun n eZ=>ak .i64 eZ fun n f_=>ak .u64 f_ fun n iq=>aw iq (ak .i64 r fun bn r=>aw r (aD (bn==0) (Zy (Ao [Zk 1 [Zz .u64 n]] []) fun(r:AV×aC)=>aM (Zj r) (Xb 1 (Zd r) fun b=>Zp (Yx [Zk 1 b,Zk 1 []],[]))) (Zp (Yx [Zk 1 [],Zk 1 []],[])))))) (aD (kd==8) (Zy (On [Zv b] []) (kT fun vs=>ay vs fun x r=>Xq x fun cs=>aK cs fun b eI=>ak .i64 eI fun n eS=>ak .u64 eS fun n eZ=>ak .i64 eZ fun bn f_=>ak .i64 f_ fun bT iq=>ak .i64 iq fun eO ju=>aK ju fun b lE=>aK lE fun b mT=>aK mT fun b mg=>bq mg fun b fZ=>aw fZ (ak .i64 r fun bZ r=>aw r (aD (bZ==0) (Zy (Ao [Zk 1 [Zz .u64 n]] []) fun(r:AV×aC)=>aM (Zj r) (Xb 1 (Zd r) fun cL=>Zy (Be [Zk 1 [Zv b]] []) fun(r:AV×aC)=>aM (Zj r) (Xb 1 (Zd r) fun b=>Zp (Yx [Zk 1 cL,Zk 1 b],[])))) (Zp (Yx [Zk 1 [],Zk 1 []],[])))))) (aD (kd==9) (Zy (Oo [Zv b] []) (kT fun vs=>ay vs fun x r=>Xq x fun cs=>aK cs fun b eI=>aK eI fun b eS=>aK eS fun b eZ=>aK eZ fun b f_=>aK f_ fun b iq=>aK iq fun b ju=>ak .u64 ju fun n lE=>ak .i64 lE fun bn mT=>ak .i64 mT fun bT mg=>ak .i64 mg fun eO fZ=>aw fZ (ak .i64 r fun bZ r=>aw r (aD (bZ==0) (Zy (Ao [Zk 1 [Zz .u64 n]] []) fun(r:AV×aC)=>aM (Zj r) (Xb 1 (Zd r) fun b=>Zp (Yx [Zk 1 b,Zk 1 []],[]))) (Zp (Yx [Zk 1 [],Zk 1 []],[])))))) (aD (kd==10) (Zy (Oq [Zv b] []) (kT fun vs=>ay vs fun x r=>Xq x fun cs=>ak .u64 cs fun n eI=>aK eI fun b eS=>aK eS fun b eZ=>aK eZ fun b f_=>ak .i64 f_ fun bn iq=>ak .i64 iq fun bT ju=>bq ju fun b lE=>aw lE (ak .i64 r fun eO r=>aw r (aD (eO==0) (Zy (Ao [Zk 1 [Zz .u64 n]] []) fun(r:AV×aC)=>aM (Zj r) (Xb 1 (Zd r) fun cL=>Zy (Be [Zk 1 [Zv b]] []) fun(r:AV×aC)=>aM (Zj r) (Xb 1 (Zd r) fun b=>Zp (Yx [Zk 1 cL,Zk 1 b],[])))) (Zp (Yx [Zk 1 [],Zk 1 []],[])))))) (Zp (Yx [Zk 1 [],Zk 1 []],[])))))))) (by kernel_rfl) ?_
 delta kT;dsimp only[Be,Ol,Ao,KL,Om,On,Oo,Oq,aK,bq,aE,cT,ak,ci,dx];have hb:=Qa3 aB;have VX:Zq (b.length<=140737488355328)=Xz:=by simp;omega
 have k1:=Kerb.wG b;have k2:=Kerb.yz b;have k3:=Kerb.tR b;have k4:=Kerb.tP b;have k5:=Kerb.yA b;have k6:=Kerb.xO b;have t2:=Kerb.tu b;have t4:=Kerb.oq b;have t6:=Kerb.rm b;have u2:∀ li,(Kerb.ca b li).val.aN.length<=70368744177664:=fun li=>Yz (t2 li) (by omega);have u4:(Kerb.bJ b).val.aN.length<=70368744177664:=Yz t4 (by omega);have u6:(Kerb.dp b).val.record.length<=70368744177664:=Yz t6 (by omega);simp only[A0,Yp,Yd,Kerb.eD.av,VX,Kerb.BB k1,Kerb.BB (k2 _),Kerb.BB k3,Kerb.BB k4,Kerb.BB k5,Kerb.BB k6,Kerb.Mt (u2 _),Kerb.Mt u4,Kerb.Mt u6];unfold Kerb.k_;simp only;by_cases hq:kd=1
 ·rw[ah (by simpa using hq),Qa1 hq];by_cases g:(Kerb.cC b).err=0
  ·rw[ah (by simpa using g),Qa1 g];rfl
  ·rw[aj (by simpa using g),Qa0 g];rfl
 rw[aj (by simpa using hq),Qa0 hq];clear hq;by_cases hq:kd=3
 ·rw[ah (by simpa using hq),Qa1 hq];by_cases g:(Kerb.ca b Yj).err=0
  ·simp only[g,beq_self_eq_true,Zh,aA,cc,if_true];rfl
  ·have g':((Kerb.ca b Yj).err==0)=Yj:=by simpa using g
   simp only[g',Xj,cc,Qa0 g];by_cases g2:(Kerb.ca b Xz).err=0
   ·rw[ah (by simpa using g2),Qa1 g2];rfl
   ·rw[aj (by simpa using g2),Qa0 g2];rfl
 rw[aj (by simpa using hq),Qa0 hq];clear hq;by_cases hq:kd=7
 ·rw[ah (by simpa using hq),Qa1 hq];by_cases g:(Kerb.dR b).err=0
  ·rw[ah (by simpa using g),Qa1 g];rfl
  ·rw[aj (by simpa using g),Qa0 g];rfl
 rw[aj (by simpa using hq),Qa0 hq];clear hq;by_cases hq:kd=8
 ·rw[ah (by simpa using hq),Qa1 hq];by_cases g:(Kerb.bJ b).err=0
  ·rw[ah (by simpa using g),Qa1 g];rfl
  ·rw[aj (by simpa using g),Qa0 g];rfl
 rw[aj (by simpa using hq),Qa0 hq];clear hq;by_cases hq:kd=9
 ·rw[ah (by simpa using hq),Qa1 hq];by_cases g:(Kerb.dS b).err=0
  ·rw[ah (by simpa using g),Qa1 g];rfl
  ·rw[aj (by simpa using g),Qa0 g];rfl
 rw[aj (by simpa using hq),Qa0 hq];clear hq;by_cases hq:kd=10
 ·rw[ah (by simpa using hq),Qa1 hq];by_cases g:(Kerb.dp b).err=0
  ·rw[ah (by simpa using g),Qa1 g];rfl
  ·rw[aj (by simpa using g),Qa0 g];rfl
 rw[aj (by simpa using hq),Qa0 hq];clear hq;rfl
theorem w48:Wk 48 11 Ob:=by
 refine cA Tryz.func48 rfl fun xs bl r h=> ?_;unfold Ob at h;split at h;case h_2=>cases h
 rename_i b;obtain⟨aB,rfl⟩:=dA h;refine cw (Zy (FX [Zv b] []) (kT fun vs=>ay vs fun x r=>Xq x fun cs=>aE cs fun cL eI=>aK eI fun eP eS=>aK eS fun eX eZ=>aK eZ fun g7 f_=>ak .i64 f_ fun n iq=>ak .i64 iq fun n ju=>ak .i64 ju fun n lE=>bq lE fun gZ mT=>aw mT (ak .i64 r fun n r=>aw r (aD (n==0) (Zp (Zk 1 [Zv gZ],[])) (Zy (FY [Zv b] []) (kT fun vs=>ay vs fun x r=>Xq x fun cs=>aE cs fun iz mg=>aE mg fun jl fZ=>ak .i64 fZ fun n gS=>aK gS fun mH gT=>bq gT fun n8 jC=>bq jC fun hZ kf=>aw kf (ak .i64 r fun n r=>aw r (aD (n==0) (Zp (Zk 1 [Zv n8,Zv hZ],[])) (Zy (FZ [Zv b] []) (kT fun vs=>ay vs fun x r=>Xq x fun cs=>aE cs fun jI kg=>aE kg fun jJ lD=>ak .i64 lD fun n rU=>aK rU fun jK rV=>bq rV fun m7 rW=>bq rW fun nH rX=>ak .i64 rX fun n uo=>ak .i64 uo fun n uq=>aK uq fun mG ur=>aK ur fun lZ w4=>aw w4 (ak .i64 r fun n r=>aw r (aD (n==0) (Zp (Zk 1 [Zv m7,Zv nH],[])) (Zy (F0 [Zv b] []) (kT fun vs=>bq vs fun pS r=>aE r fun ta r=>ak .i64 r fun n r=>aw r (aD (n==0) (Zp (Zk 1 [Zv pS],[])) (Zy (F2 [Zv b] []) (kT fun vs=>bq vs fun AM r=>bq r fun Ji r=>aE r fun G1 r=>ak .i64 r fun n r=>aw r (aD (n==0) (Zp (Zk 1 [Zv Ji],[])) (Zy (F3 [Zv b] []) (kT fun vs=>ay vs fun x r=>Xq x fun cs=>ak .i64 cs fun n Dq=>aK Dq fun AN Dr=>aK Dr fun Jj Ds=>aK Ds fun Lk Dt=>ak .i64 Dt fun n Du=>aK Du fun Ll Dv=>bq Dv fun Jk Dw=>aK Dw fun Lm Dx=>aK Dx fun Ln Dy=>bq Dy fun Jl HK=>aw HK (ak .i64 r fun n r=>aw r (aD (n==0) (Zp (Zk 1 [Zv Jk,Zv Jl],[])) (Zy (F4 [Zv b] []) (kT fun vs=>ay vs fun x r=>Xq x fun cs=>ak .i64 cs fun n HL=>ak .i64 HL fun n HM=>bq HM fun Lo R6=>aw R6 (ak .i64 r fun n r=>aw r (aD (n==0) (Zp (Zk 1 [Zv Lo],[])) (Zy (F5 [Zv b] []) (kT fun vs=>ay vs fun x r=>Xq x fun cs=>ak .i64 cs fun n R7=>aK R7 fun b R8=>aK R8 fun b Zt=>aK Zt fun b ZA=>bq ZA fun b ZB=>aw ZB (ak .i64 r fun n r=>aw r (aD (n==0) (Zp (Zk 1 [Zv b],[])) (Zp (Zk 1 [],[])))))))))))))))))))))))))))))))) (by kernel_rfl) ?_;delta kT;dsimp only[FX,FY,FZ,F0,F2,F3,F4,F5,aK,bq,aE,cT,ak,ci,dx];have hb:=Qa3 aB;have VX:Zq (b.length<=140737488355328)=Xz:=by simp;omega
 simp only[A0,Yp,Yd,Kerb.eD.av,VX];unfold Kerb.nZ;by_cases hc:(Kerb.bK b).err=0
 ·rw[ah (by simpa using hc),Qa1 hc];rfl
 rw[aj (by simpa using hc),Qa0 hc];clear hc;by_cases hc:(Kerb.fU b).err=0
 ·rw[ah (by simpa using hc),Qa1 hc];rfl
 rw[aj (by simpa using hc),Qa0 hc];clear hc;by_cases hc:(Kerb.dr b).err=0
 ·rw[ah (by simpa using hc),Qa1 hc];rfl
 rw[aj (by simpa using hc),Qa0 hc];clear hc;by_cases hc:(Kerb.jo b).err=0
 ·rw[ah (by simpa using hc),Qa1 hc];rfl
 rw[aj (by simpa using hc),Qa0 hc];clear hc;by_cases hc:(Kerb.io b).err=0
 ·rw[ah (by simpa using hc),Qa1 hc];rfl
 rw[aj (by simpa using hc),Qa0 hc];clear hc;by_cases hc:(Kerb.bu b).err=0
 ·rw[ah (by simpa using hc),Qa1 hc];rfl
 rw[aj (by simpa using hc),Qa0 hc];clear hc;by_cases hc:(Kerb.dC b).err=0
 ·rw[ah (by simpa using hc),Qa1 hc];rfl
 rw[aj (by simpa using hc),Qa0 hc];clear hc;by_cases hc:(Kerb.fu b).err=0
 ·rw[ah (by simpa using hc),Qa1 hc];rfl
 rw[aj (by simpa using hc),Qa0 hc];clear hc;rfl
theorem w11:Wk 11 12 Sj:=by
 refine cA Tryz.func11 rfl fun xs bl r h=> ?_;unfold Sj at h;split at h;case h_2=>cases h
 rename_i b;obtain⟨aB,rfl⟩:=dA h;refine cw (Zy (Ob [Zv b] []) fun(r:AV×aC)=>aM (Zj r) (Xb 1 (Zd r) fun b=>Zy (Be [Zk 1 b] []) fun(r:AV×aC)=>aM (Zj r) (Xb 1 (Zd r) fun b=>Zp (Zk 1 b,[])))) (by kernel_rfl) ?_;dsimp only[Be,Ob];have hb:=Qa3 aB;have VX:Zq (b.length<=140737488355328)=Xz:=by simp;omega
 simp only[A0,Yp,Yd,Kerb.eD.av,aB,Kerb.DE hb,Kerb.s6];rfl
theorem ZO:K7 Tryz.prog G 102 12 [.ptr,.ff] B_:=by
 refine⟨fun xs bl=> ?_,Tryz.f102,Tryz.func102,by decide +kernel,rfl,fun xP xs bl r h=> ?_⟩
 ·cases h:B_ 0 xs bl with
  | none=>rfl
  | some r =>
   unfold B_ at h;split at h
   ·obtain⟨aB,_⟩:=aH h;simp only[Zb,Qa2] at aB;omega
   ·cases h
 unfold B_ at h;split at h
 ·rename_i b ks bs;obtain⟨aB,h2⟩:=aH h;cases h2;show ea ((G.cut 102 12 [.ptr,.ff] (B_ xP)).env 102 13) G.rts (G.own 102) Tryz.f102 _ _ [0]=_;refine Qb1 (b:=(Kerb.MB xP ks bs b:Option (AV×aC))) (by kernel_rfl) ?_;simp only[Zb,Qa2] at aB;obtain⟨s,rfl,rfl,hs⟩:=Kerb.IZ aB.1.1;rw[Kerb.qB];exact Kerb.MC hs aB.1.2 (by have:=aB.2;omega)
 ·cases h
theorem w31:Wk 31 13 KJ:=by
 refine cA Tryz.func31 rfl fun xs bl r h=> ?_;unfold KJ at h;split at h;case h_2=>cases h
 rename_i ks bs b;obtain⟨aB,rfl⟩:=dA h;refine cw (Kerb.MU ks bs b) (by kernel_rfl) ?_;simp only[Zb,Qa2] at aB;obtain⟨s,rfl,rfl,hs⟩:=Kerb.IZ aB.1;rw[Kerb.qB];exact Kerb.MV hs aB.2
theorem w33:Wk 33 13 N8:=by
 refine cA Tryz.func33 rfl fun xs bl r h=> ?_;unfold N8 at h;split at h;case h_2=>cases h
 rename_i ks bs b;obtain⟨aB,rfl⟩:=dA h;refine cw (Zy (Ca [Yb 0 0,Zv b] [(0,[Zk 1 ks,Zk 1 bs])]) fun(r:AV×aC)=>aL (Zj r) fun(x:List AV) (eI:List (List AV))=>ci 1 x fun b eS=>ci 1 eS fun b eZ=>aw eZ (aM eI (AV.cR (Zd r) fun b=>Zp (Zu !b,[])))) (by kernel_rfl) ?_;dsimp only[Ca,aK,bq,aE,cT,ak,ci,dx];simp only[A0,Yp,Yd,Kerb.eD.av,aB,Bool.not_not]
theorem w19:Wk 19 15 KH:=by
 refine cA Tryz.func19 rfl fun xs bl r h=> ?_;unfold KH at h;split at h;case h_2=>cases h
 rename_i ks bs b;obtain⟨aB,rfl⟩:=dA h;refine cw (Kerb.Hs ks bs b) (by kernel_rfl) ?_;simp only[Zb,Qa2] at aB;exact Kerb.JZ aB.1 aB.2
theorem w27:Wk 27 15 N3:=by
 refine cA Tryz.func27 rfl fun xs bl r h=> ?_;unfold N3 at h;split at h;case h_2=>cases h
 rename_i ks bs k;obtain⟨aB,rfl⟩:=dA h;refine cw (Kerb.Mo ks bs k) (by kernel_rfl) ?_;simp only[Zb,Qa2] at aB;obtain⟨⟨⟨a,b⟩,c⟩,d⟩:=aB;exact Kerb.Mp a (by simp[b,c]) d
theorem w8:Wk 8 16 ZK:=by
 refine cA Tryz.func8 rfl fun xs bl r h=> ?_;unfold ZK at h;split at h;case h_2=>cases h
 cases h;refine cw (Kerb.QN) (by kernel_rfl) ?_;exact Kerb.OZ
theorem w18:Wk 18 16 Nu:=by
 refine cA Tryz.func18 rfl fun xs bl r h=> ?_;unfold Nu at h;split at h;case h_2=>cases h
 rename_i ls lk tn;obtain⟨aB,rfl⟩:=dA h;refine cw (Zy (bw (fun st=>ci 7 st fun b r=>bq r fun cL r=>ak .i64 r fun n r=>ci 1 r fun eP r=>ci 1 r fun eX r=>ci 1 r fun g7 r=>ci 1 r fun gZ r=>ak .i64 r fun bn r=>aw r (aD (Zq (bn<(↑(Zx b):Int))) (az (!(↑(Zx b):Int)==0) (az (Zq (0<=Xp (Zf .i64 (bn+n)) (↑(Zx b):Int))&&Zq (Xp (Zf .i64 (bn+n)) (↑(Zx b):Int)<(↑(Zx b):Int))&&Xz) (Xq (Xx b (Yn (Xp (Zf .i64 (bn+n)) (↑(Zx b):Int))) Xg) fun cs=>cT cs fun iz r=>cT r fun jl r=>cT r fun mH r=>cT r fun n8 r=>cT r fun hZ r=>aE r fun jI r=>ak .u16 r fun bT r=>aw r (Zy (Qw [Yy [Zg iz,Zg jl,Zg mH,Zg n8,Zg hZ,Zu jI,Zz .u16 bT]] []) (kB fun jJ=>VR [Yy [Zk 1 g7,Zk 1 gZ],Zv jJ] fun jK m7=>Zp (Sum.inl [Zk 7 b,Zv cL,Zz .i64 n,Zk 1 eP,Zk 1 eX,Zk 1 jK,Zk 1 m7,Zz .i64 (Zf .i64 (bn+1))])))))) (Zp (Sum.inr (Ex.exit 0,[Zk 7 b,Zv cL,Zz .i64 n,Zk 1 eP,Zk 1 eX,Zk 1 g7,Zk 1 gZ,Zz .i64 bn]))))) [Zk 7 ls,Zv lk,Zz .i64 tn,Zk 1 [],Zk 1 [],Zk 1 [],Zk 1 [],Zz .i64 0]) fun(r:Ex×List AV)=>ci 7 (Zj r) fun b eI=>bq eI fun b eS=>ak .i64 eS fun n eZ=>ci 1 eZ fun cL f_=>ci 1 f_ fun eP iq=>ci 1 iq fun eX ju=>ci 1 ju fun g7 lE=>ak .i64 lE fun bn mT=>aw mT (jp r.1 (Zp (Yy [Zk 1 cL,Zk 1 eP],[])) fun(j:Nat)=>aD (Nat.beq j 0) (Zy (bw (fun st=>bq st fun b r=>ak .i64 r fun n r=>ci 1 r fun gZ r=>ci 1 r fun iz r=>ci 1 r fun jl r=>ci 1 r fun mH r=>ak .i64 r fun bT r=>aw r (aD (Zq (bT<(↑(Zx b):Int))) (aD (Zq (bT<6)) (az (!Kerb.tY 6 (↑(Zx b):Int)==0) (az (Zq (0<=Xp (Zf .i64 (bT+n)) (Kerb.tY 6 (↑(Zx b):Int)))&&Zq (Xp (Zf .i64 (bT+n)) (Kerb.tY 6 (↑(Zx b):Int))<(↑(Zx b):Int))) (C27 [Yy [Zk 1 jl,Zk 1 mH],Zz .u64 (Kerb.ig (Xx b (Yn (Xp (Zf .i64 (bT+n)) (Kerb.tY 6 (↑(Zx b):Int)))) (0:UInt8)))] fun n8 hZ=>Zp (Sum.inl [Zv b,Zz .i64 n,Zk 1 gZ,Zk 1 iz,Zk 1 n8,Zk 1 hZ,Zz .i64 (Zf .i64 (bT+1))])))) (Zp (Sum.inr (Ex.exit 2,[Zv b,Zz .i64 n,Zk 1 gZ,Zk 1 iz,Zk 1 jl,Zk 1 mH,Zz .i64 bT])))) (Zp (Sum.inr (Ex.exit 2,[Zv b,Zz .i64 n,Zk 1 gZ,Zk 1 iz,Zk 1 jl,Zk 1 mH,Zz .i64 bT]))))) [Zv b,Zz .i64 n,Zk 1 cL,Zk 1 eP,Zk 1 eX,Zk 1 g7,Zz .i64 0]) fun(r:Ex×List AV)=>bq (Zj r) fun b mg=>ak .i64 mg fun n fZ=>ci 1 fZ fun b gS=>ci 1 gS fun gZ gT=>ci 1 gT fun iz jC=>ci 1 jC fun jl kf=>ak .i64 kf fun n kg=>aw kg (jp r.1 (Zp (Yy [Zk 1 b,Zk 1 gZ],[])) fun(j:Nat)=>aD (Nat.beq j 2) (Zp (Yy [Zk 1 iz,Zk 1 jl],[])) none)) none)) (by kernel_rfl) ?_;unfold VR C27;delta kA kB;dsimp only[Qw,KH,N3,aK,bq,aE,cT,ak,ci,dx];simp only[Zb,Qa2] at aB;obtain⟨⟨⟨fK,hl⟩,Rw⟩,hn1⟩:=aB;obtain⟨n,rfl⟩:∃ n:Nat,tn=n:=⟨tn.toNat,by omega⟩;unfold Kerb.oe Kerb.Lc;rw[Xk];have f1:=Kerb.yK (Kerb.BM ls n) (by rw[Kerb.ik];omega);rw[Kerb.ik] at f1;refine Kerb.lH (fun i=>[.sl 7 ls,.bs lk,.int .i64 (n:Int),.sl 1 [],.sl 1 [],.sl 1 (Kerb.cZ (((Kerb.gQ ls n).take i).foldl Xd Kerb.zC).keys),.sl 1 (Kerb.cQ (((Kerb.gQ ls n).take i).foldl Xd Kerb.zC).boxes),.int .i64 (i:Int)]) ls.length (fun i hi=> ?_)
  ⟨(.exit 0,[.sl 7 ls,.bs lk,.int .i64 (n:Int),.sl 1 [],.sl 1 [],.sl 1 (Kerb.cZ ((Kerb.gQ ls n).foldl Xd Kerb.zC).keys),.sl 1 (Kerb.cQ ((Kerb.gQ ls n).foldl Xd Kerb.zC).boxes),.int .i64 (ls.length:Int)]),?_,?_⟩ rfl
 case refine_2 =>
  rw[<-Kerb.ik ls n,List.take_length,Kerb.ik];simp only[↓A0,A0,show Zq ((ls.length:Int)<(ls.length:Int))=Yj from by simp]
 ·have eY:(i+n) % ls.length<ls.length:=Nat.mod_lt _ (by omega);obtain⟨t,e1,t0,t1,e2⟩:=Kerb.GH fK eY;have hS:=Kerb.sJ Xd Kerb.zC [] (l:=Kerb.gQ ls n) (i:=i) (by rw[Kerb.ik];exact hi);rw[Kerb.J8 hi,e2] at hS;have hF:=f1 i (by omega);generalize ((Kerb.gQ ls n).take i).foldl Xd Kerb.zC=s at hS hF;have hm:=Kerb.sM t;try dsimp only
  simp only[↓A0,A0,hS,show Zq ((i:Int)<(ls.length:Int))=Xz from by simp;exact hi,Kerb.Ms (show 0<ls.length by omega),Kerb.Cg,Xj,Kerb.Ch (show i+n<=1000000 by omega),Kerb.P5,
   show Zq ((((i+n) % ls.length:Nat):Int)<(ls.length:Int))=Xz from Qa4 (by omega),Yu,Xk,e1,Kerb.lP.av,Qa4 t0,Qa4 t1,hF.kn,hF.pre (show i*14028<=900000 by omega) hm,Kerb.qB,Kerb.Ax (show i<=1000000000 by omega)]
 generalize hs:(Kerb.gQ ls n).foldl Xd Kerb.zC=s;have hF:Kerb.Fit s (ls.length*14028):=by
  have:=f1 ls.length (Nat.le_refl _);rw[<-Kerb.ik ls n,List.take_length,Kerb.ik,hs] at this;exact this
 clear f1 hs;simp only[↓A0,A0,show Nat.beq 0 0=Xz from rfl];have f2:=Kerb.yJ hF (l:=Xh lk n) (by rw[Kerb.l9];omega) (by omega);rw[Kerb.l9] at f2;refine Kerb.lH (fun i=>[.bs lk,.int .i64 (n:Int),.sl 1 [],.sl 1 [],.sl 1 (Kerb.cZ (((Xh lk n).take i).foldl Kerb.leak s).keys),.sl 1 (Kerb.cQ (((Xh lk n).take i).foldl Kerb.leak s).boxes),.int .i64 (i:Int)]) (min 6 lk.length) (fun i hi=> ?_)
  ⟨(.exit 2,[.bs lk,.int .i64 (n:Int),.sl 1 [],.sl 1 [],.sl 1 (Kerb.cZ ((Xh lk n).foldl Kerb.leak s).keys),.sl 1 (Kerb.cQ ((Xh lk n).foldl Kerb.leak s).boxes),.int .i64 ((min 6 lk.length:Nat):Int)]),?_,?_⟩ rfl
 case refine_2 =>
  have e:(Xh lk n).take (min 6 lk.length)=Xh lk n:=by rw[<-Kerb.l9 lk n,List.take_length]
  rw[e];generalize (Xh lk n).foldl Kerb.leak s=s';simp only[↓A0,A0];by_cases h:lk.length<=6
  ·rw[aj (by simp;omega)]
  ·rw[ah (by simp;omega),aj (by simp;omega)]
 case refine_3=>simp only[↓A0,A0,show Nat.beq 2 2=Xz from rfl]
 ·have hS:=Kerb.sJ Kerb.leak s 0 (l:=Xh lk n) (i:=i) (by rw[Kerb.l9];exact hi);rw[Kerb.JW hi] at hS;have hG:=f2 i (by omega);have eY:(i+n) % min 6 lk.length<min 6 lk.length:=Nat.mod_lt _ (by omega);generalize ((Xh lk n).take i).foldl Kerb.leak s=s' at hS hG;generalize hk:Kerb.ig (lk.getD ((i+n) % min 6 lk.length) 0)=k at hS;have Qc:=Kerb.nR (lk.getD ((i+n) % min 6 lk.length) 0);rw[hk] at Qc;try dsimp only
  simp only[↓A0,A0,hS,show Zq ((i:Int)<(lk.length:Int))=Xz from Qa4 (by omega),show Zq ((i:Int)<6)=Xz from Qa4 (by omega),Kerb.Uq,Kerb.Ms (show 0<min 6 lk.length by omega),Xj,Kerb.Ch (show i+n<=1000000 by omega),Kerb.P5,
   show Zq ((((i+n) % min 6 lk.length:Nat):Int)<(lk.length:Int))=Xz from Qa4 (by omega),Yu,Xk,hk,Qa4 Qc.1,Qa4 Qc.2,hG.kn,hG.PG (show ls.length*14028+i<=900000 by omega),Kerb.qB,Kerb.Ax (show i<=1000000000 by omega)]
theorem w7:Wk 7 17 ZJ:=by
 refine cA Tryz.func7 rfl fun xs bl r h=> ?_;unfold ZJ at h;split at h;case h_2=>cases h
 rename_i ls lk kd bx se fN de li hw;obtain⟨aB,rfl⟩:=dA h;refine cw (aD (Zq ((↑(Zx ls):Int)>10)) (Zp (Zu Xz,[])) (C18 [Zk 7 ls,Zv lk,Zz .i64 0] fun b cL=>Zy (bw (fun st=>ci 7 st fun b r=>cT r fun eP r=>cT r fun eX r=>cT r fun g7 r=>cT r fun gZ r=>cT r fun iz r=>aE r fun jl r=>ak .u16 r fun n r=>aE r fun mH r=>ci 1 r fun n8 r=>ci 1 r fun hZ r=>ak .i64 r fun bn r=>aw r (aD (Zq (bn<(↑(Zx b):Int))) (az (Zq (0<=bn)&&Zq (bn<(↑(Zx b):Int))&&Xz) (Xq (Xx b (Yn bn) Xg) fun cs=>cT cs fun jI r=>cT r fun jJ r=>cT r fun jK r=>cT r fun m7 r=>cT r fun nH r=>aE r fun mG r=>ak .u16 r fun bT r=>aw r (Zy (Qw [Yy [Zg jI,Zg jJ,Zg jK,Zg m7,Zg nH,Zu mG,Zz .u16 bT]] []) (kB fun lZ=>Zy (KJ [Yy [Zk 1 n8,Zk 1 hZ],Zv lZ] []) (kL fun pS=>aD (!pS) (Zp (Sum.inr (Ex.ret,[Zk 7 b,Zg eP,Zg eX,Zg g7,Zg gZ,Zg iz,Zu jl,Zz .u16 n,Zu Yj,Zk 1 n8,Zk 1 hZ,Zz .i64 bn]))) (Zp (Sum.inl [Zk 7 b,Zg eP,Zg eX,Zg g7,Zg gZ,Zg iz,Zu jl,Zz .u16 n,Zu mH,Zk 1 n8,Zk 1 hZ,Zz .i64 (Zf .i64 (bn+1))]))))))) (Zp (Sum.inr (Ex.exit 0,[Zk 7 b,Zg eP,Zg eX,Zg g7,Zg gZ,Zg iz,Zu jl,Zz .u16 n,Zu mH,Zk 1 n8,Zk 1 hZ,Zz .i64 bn]))))) [Zk 7 ls,Zg kd,Zg bx,Zg se,Zg fN,Zg de,Zu li,Zz .u16 hw,Zu Yj,Zk 1 b,Zk 1 cL,Zz .i64 0]) fun(r:Ex×List AV)=>ci 7 (Zj r) fun b eI=>cT eI fun b eS=>cT eS fun eP eZ=>cT eZ fun eX f_=>cT f_ fun g7 iq=>cT iq fun gZ ju=>aE ju fun iz lE=>ak .u16 lE fun n mT=>aE mT fun jl mg=>ci 1 mg fun mH fZ=>ci 1 fZ fun n8 gS=>ak .i64 gS fun bn gT=>aw gT (jp r.1 (Zp (Zu jl,[])) fun(j:Nat)=>aD (Nat.beq j 0) (Zy (bw (fun st=>cT st fun b r=>cT r fun hZ r=>cT r fun jI r=>cT r fun jJ r=>cT r fun jK r=>aE r fun m7 r=>ak .u16 r fun n r=>aE r fun nH r=>ci 1 r fun mG r=>ci 1 r fun lZ r=>ak .i64 r fun bT r=>aw r (aD (Zq (bT<(↑(Zx lZ):Int))) (az (Zq (0<=bT)&&Zq (bT<(↑(Zx lZ):Int))&&Xz) (AV.eH (Xx lZ (Yn bT) Xg) fun pS=>Zy (N8 [Yy [Zk 1 mG,Zk 1 lZ],Zv pS] []) (kL fun ta=>aD (!ta) (Zp (Sum.inr (Ex.ret,[Zg b,Zg hZ,Zg jI,Zg jJ,Zg jK,Zu m7,Zz .u16 n,Zu Yj,Zk 1 mG,Zk 1 lZ,Zz .i64 bT]))) (Zp (Sum.inl [Zg b,Zg hZ,Zg jI,Zg jJ,Zg jK,Zu m7,Zz .u16 n,Zu nH,Zk 1 mG,Zk 1 lZ,Zz .i64 (Zf .i64 (bT+1))]))))) (Zp (Sum.inr (Ex.exit 2,[Zg b,Zg hZ,Zg jI,Zg jJ,Zg jK,Zu m7,Zz .u16 n,Zu nH,Zk 1 mG,Zk 1 lZ,Zz .i64 bT]))))) [Zg b,Zg eP,Zg eX,Zg g7,Zg gZ,Zu iz,Zz .u16 n,Zu jl,Zk 1 mH,Zk 1 n8,Zz .i64 0]) fun(r:Ex×List AV)=>cT (Zj r) fun b jC=>cT jC fun hZ kf=>cT kf fun jI kg=>cT kg fun jJ lD=>cT lD fun jK rU=>aE rU fun m7 rV=>ak .u16 rV fun n rW=>aE rW fun nH rX=>ci 1 rX fun mG uo=>ci 1 uo fun lZ uq=>ak .i64 uq fun bT ur=>aw ur (jp r.1 (Zp (Zu nH,[])) fun(j:Nat)=>aD (Nat.beq j 2) (Zy (Qw [Yy [Zg b,Zg hZ,Zg jI,Zg jJ,Zg jK,Zu m7,Zz .u16 n]] []) (kB fun b=>Zy (Zy (KJ [Yy [Zk 1 mG,Zk 1 lZ],Zv b] []) (kL fun pS=>aD (!pS) (Zp [Zu Xz]) (VR [Yy [Zk 1 mG,Zk 1 lZ],Zv b] fun b ta=>Zy (Nq [Zk 1 b,Zk 1 mG] []) (kL fun b=>Zp [Zu b])))) fun l=>aE l fun b r=>aw r (Zp (Zu b,[])))) none)) none))) (by kernel_rfl) ?_;unfold C18 VR;delta kA kB kL;dsimp only[Qw,Nq,Nu,KH,KJ,N8,aK,bq,aE,cT,ak,ci,dx];simp only[Zb,Qa2] at aB;obtain⟨⟨fK,hw0⟩,hw1⟩:=aB
 by_cases hl:ls.length<=10;case neg=>rw[ah (by simp;omega)]
 rw[aj (by simp;omega)];have F1:=Kerb.Jf (ls:=ls) lk 0 (by omega);have hk:∀ i,i<ls.length->Kerb.kM (Kerb.oe ls lk 0) (Kerb.pz (Kerb.nt (ls.getD i .undef)))=Xz:=fun i h=>Kerb.Je lk 0 h;have hm:∀ m,Kerb.kM (Kerb.oe ls lk 0) m=Xz->(Xd (Kerb.oe ls lk 0) m).keys=(Kerb.oe ls lk 0).keys:=fun m h=>Kerb.D8 lk 0 h;simp only[↓A0,A0,fK,Qa4 hl,show Zq ((0:Int)<=0)=Xz from rfl,show Zq ((0:Int)<=255)=Xz from rfl,Yu];generalize Kerb.oe ls lk 0=a at F1 hk hm ⊢;have lk1:Zq ((Kerb.cZ a.keys).length<=1000000000)=Xz:=by rw[Kerb.ef];exact Qa4 (by have:=F1.kl (by decide);omega)
 have lbx:=F1.bl (by decide);refine Kerb.lH (fun i=>[.sl 7 ls,.u8 kd,.u8 bx,.u8 se,.u8 fN,.u8 de,.bool li,.int .u16 hw,.bool Yj,.sl 1 (Kerb.cZ a.keys),.sl 1 (Kerb.cQ a.boxes),.int .i64 (i:Int)]) ls.length (fun i hi=> ?_)
  ⟨(.exit 0,[.sl 7 ls,.u8 kd,.u8 bx,.u8 se,.u8 fN,.u8 de,.bool li,.int .u16 hw,.bool Yj,.sl 1 (Kerb.cZ a.keys),.sl 1 (Kerb.cQ a.boxes),.int .i64 (ls.length:Int)]),?_,?_⟩ rfl
 case refine_2=>simp only[↓A0,A0,show Zq ((ls.length:Int)<(ls.length:Int))=Yj from by simp]
 ·obtain⟨t,e1,t0,t1,e2⟩:=Kerb.GH fK hi;have Pm:=hk i hi;rw[e2] at Pm;have hm:=Kerb.sM t;simp only[↓A0,A0,show Zq ((i:Int)<(ls.length:Int))=Xz from Qa4 (by omega),Kerb.P5,Yu,Xk,e1,Kerb.lP.av,Kerb.Cg,Qa4 t0,Qa4 t1,F1.kn,Kerb.IP hm,Kerb.qB,Pm,Zh,Kerb.Ax (show i<=1000000000 by omega)]
 simp only[↓A0,A0,show Nat.beq 0 0=Xz from rfl];refine Kerb.lH (fun i=>[.u8 kd,.u8 bx,.u8 se,.u8 fN,.u8 de,.bool li,.int .u16 hw,.bool Yj,.sl 1 (Kerb.cZ a.keys),.sl 1 (Kerb.cQ a.boxes),.int .i64 (i:Int)]) a.boxes.length (fun i hi=> ?_)
  ⟨(.exit 2,[.u8 kd,.u8 bx,.u8 se,.u8 fN,.u8 de,.bool li,.int .u16 hw,.bool Yj,.sl 1 (Kerb.cZ a.keys),.sl 1 (Kerb.cQ a.boxes),.int .i64 (a.boxes.length:Int)]),?_,?_⟩ rfl
 case refine_2=>simp only[↓A0,A0,show Zq ((a.boxes.length:Int)<((Kerb.cQ a.boxes).length:Int))=Yj from by rw[Kerb.ec];simp]
 ·have hx:a.boxes.getD i []∈a.boxes:=by
   simp only[Xx,List.getElem?_eq_getElem hi,Option.getD_some];exact List.getElem_mem hi
  simp only[↓A0,A0,Kerb.ltB hi,Kerb.P5,Kerb.To hi,Yu,F1.kn,Qa4 (F1.Jw.len _ hx),Kerb.qB,Kerb.ol hx,Zh,Kerb.Ax (show i<=1000000000 by omega)]
 simp only[↓A0,A0,show Nat.beq 2 2=Xz from rfl,Qa4 hw0,Qa4 hw1,Yu];have wv:=Kerb.sM ⟨kd,bx,se,fN,de,li,hw⟩;have SV:=hm (Kerb.pz ⟨kd,bx,se,fN,de,li,hw⟩);generalize Kerb.pz ⟨kd,bx,se,fN,de,li,hw⟩=m at wv SV ⊢;simp only[F1.kn,Kerb.IP wv,Kerb.qB,Yu,↓N2];cases hc:Kerb.kM a m with
 | false=>simp only[Xj,cc,↓A0,A0]
 | true =>
  simp only[Zh,aA,↓A0,A0,F1.kn,F1.pre (by decide) wv,Kerb.qB,Yu,SV hc,Kerb.s7,lk1,BEq.rfl]
end Go.Proofs.YteafbgcimcpfiaaGreat
