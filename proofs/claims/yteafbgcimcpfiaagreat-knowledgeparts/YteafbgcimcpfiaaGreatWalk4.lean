/- What the functions of this seat compute. -/
import Derived.Test.YteafbgcimcpfiaaGreatWalk3
set_option linter.all false
open Go.Abs.AV renaming int→Zz,str→Zx,bool→Zv,bs→Zq,u8→Zm,aQ→Zh,agg→Yu,sl→Yq,aI→Xz,bS→Xw,ax→Xv,ptr→Xj,bK→Xn,fR→Xm
open Option renaming bind→Zy,some→Zp
open Go.IntKind renaming wrap→Zw,i64→Zf
open List renaming length→Zu,append→Yy
open Decidable renaming decide→Zj
open Bool renaming and_eq_true→Zk,not_true→Zd,false→Yw,true→Yk,and_self→Yf
open Prod renaming snd→Zg,fst→Zb
open Kerb renaming within→Zn,ah→Yz,aq→Yx,aj→Yv,aK→Yj,aN→Yg,ia→Yn,aX→Ym,ec→Yh,header→Xk,nn→Xp,uo→Xd,back→Xg,kH→Xb,qD→Xh,dL→Wz,validName→Wx,bytes→Ww,ma→Wv,gF→Wu,swp_size→Wq
open Nat renaming le_trans→Yp
open UInt8 renaming toNat→Yd
open Int renaming toNat→Yb,tdiv→Xx,eq_ofNat_of_zero_le→Xq,tmod→Xf,toNat_natCast→Wj
open Kerb.Client renaming av→Xy
open Kerb.Cache renaming av→Xu
open Sum renaming inl→Wy
namespace Go.Proofs.YteafbgcimcpfiaaGreat
open Go Go.Abs Go.Proofs
set_option maxRecDepth 100000
theorem w75:Wk 75 6 QK:=by
 refine cC Tryz.func75 rfl fun xs bl r h=> ?_;unfold QK at h;split at h;case h_2=>cases h
 rename_i b;obtain⟨aC,rfl⟩:=dj h;refine cA (let t0:Option (AV×aw):=Zp (Zh [Yu [Zx [],Zz .i64 0,Zz .i64 0,Zz .i64 0,Zz .u64 0],Zz .i64 100],[]);Zy (sX [Xj 0 0,Zz .i64 4] [(0,[Zq b,Zz .i64 0,Zv Yw])]) fun(r:AV×aw)=>aB (Zg r) fun(x:List AV) (dq:List (List AV))=>aV x fun bT dA=>ag .i64 dA fun n dJ=>ar dJ fun dV eI=>ak eI (aE dq (AV.dm (Zb r) fun eA=>Zy (uJ [Xj 0 0] [(0,[Zq bT,Zz .i64 n,Zv dV])]) fun(r:AV×aw)=>aB (Zg r) fun(x:List AV) (fI:List (List AV))=>aV x fun fg ga=>ag .i64 ga fun n g8=>ar g8 fun gh iA=>ak iA (aE fI (Xv .i64 (Zb r) fun bh=>aG (Kerb.jr eA) (Zy (uJ [Xj 0 0] [(0,[Zq fg,Zz .i64 n,Zv gh])]) fun(r:AV×aw)=>aB (Zg r) fun(x:List AV) (ig:List (List AV))=>aV x fun gS dy=>ag .i64 dy fun n eD=>ar eD fun gH eE=>ak eE (aE ig (Xv .i64 (Zb r) fun bG=>Zy (uJ [Xj 0 0] [(0,[Zq gS,Zz .i64 n,Zv gH])]) fun(r:AV×aw)=>aB (Zg r) fun(x:List AV) (fv:List (List AV))=>aV x fun ja fD=>ag .i64 fD fun n fF=>ar fF fun jb fT=>ak fT (aE fv (Xv .i64 (Zb r) fun n=>aG jb t0 (aG (!Kerb.kP.err (Kerb.aR (Kerb.eK.mk eA bh bG n 0))==0) t0 (aG (!Kerb.kP.val (Kerb.aR (Kerb.eK.mk eA bh bG n 0))==b) t0 (Zp (Zh [Yu [Zx eA,Zz .i64 bh,Zz .i64 bG,Zz .i64 n,Zz .u64 0],Zz .i64 0],[]))))))))) (Zy (BZ [Xj 0 0] [(0,[Zq fg,Zz .i64 n,Zv gh])]) fun(r:AV×aw)=>aB (Zg r) fun(x:List AV) (ig:List (List AV))=>aV x fun gS dy=>ag .i64 dy fun n eD=>ar eD fun gH eE=>ak eE (aE ig (Xv .u64 (Zb r) fun n=>let t1:AV:=Yu [Zx eA,Zz .i64 bh,Zz .i64 0,Zz .i64 0,Zz .u64 n];aG gH t0 (Zy (H_ [t1] []) (kT fun vs=>aV vs fun ja r=>ag .i64 r fun n r=>ak r (aG (!n==0) t0 (aG (!ja==b) t0 (Zp (Zh [t1,Zz .i64 0],[])))))))))))))) (by kernel_rfl) ?_;delta kT;dsimp only[sX,uJ,BZ,H_,aJ,aV,ar,c9,ag,cL,c7];have hb:=Qa3 aC;simp only[A0,aC];cases ht:Kerb.jr (Kerb.dG b 4 0 Yw).val
 ·have hk:=Kerb.uY b (Kerb.gE b 4 (Kerb.dG b 4 0 Yw).pos (Kerb.dG b 4 0 Yw).bad).pos (Kerb.gE b 4 (Kerb.dG b 4 0 Yw).pos (Kerb.dG b 4 0 Yw).bad).bad;rw[aF,ae (by simp;omega)];exact Kerb.cY (no:=Kerb.nM) (enc:=Kerb.aR) (rd:=Kerb.iM) _ _ (by unfold Kerb.iM Kerb.HB;dsimp only;rw[ht];rfl) (fun x e=>(Zh [Yu [Zx (x).label,Zz Zf (x).time,Zz Zf (x).start,Zz Zf (x).stop,Zz IntKind.u64 (x).new],Zz Zf e],([]:aw)))
 ·rw[cc];exact Kerb.cY (no:=Kerb.nM) (enc:=Kerb.aR) (rd:=Kerb.iM) _ _ (by unfold Kerb.iM Kerb.HB;dsimp only;rw[ht];rfl) (fun x e=>(Zh [Yu [Zx (x).label,Zz Zf (x).time,Zz Zf (x).start,Zz Zf (x).stop,Zz IntKind.u64 (x).new],Zz Zf e],([]:aw)))
theorem w79:Wk 79 6 QO:=by
 refine cC Tryz.func79 rfl fun xs bl r h=> ?_;unfold QO at h;split at h;case h_2=>cases h
 rename_i b;obtain⟨aC,rfl⟩:=dj h;refine cA (let t2:AV:=Yu [Zv Yw,Zx [],Zx [],Zx [],Zz .i64 0,Zz .u64 0,Zz .i64 0,Zz .i64 0,Zx [],Zx []];let t1:Option (AV×aw):=Zp (Zh [t2,Zz .i64 100],[]);let t0:Option (AV×aw):=Zy (iB [Xj 0 0] [(0,[Zq b,Zz .i64 0,Zv Yw,Zv Yw])]) fun(r:AV×aw)=>aB (Zg r) fun(x:List AV) (dq:List (List AV))=>aV x fun bT dA=>ag .i64 dA fun n dJ=>ar dJ fun dV eI=>ar eI fun eA fI=>ak fI (aE dq (Xv .i64 (Zb r) fun bh=>Zy (nC [Xj 0 0] [(0,[Zq bT,Zz .i64 n,Zv (bh==1),Zv eA])]) fun(r:AV×aw)=>aB (Zg r) fun(x:List AV) (ga:List (List AV))=>aV x fun fg g8=>ag .i64 g8 fun n iA=>ar iA fun gh ig=>ar ig fun gS dy=>ak dy (aE ga (AV.cV (Zb r) fun cs=>aJ cs fun gH r=>aJ r fun ja r=>aJ r fun jb r=>ak r (Zy (iZ [Xj 0 0] [(0,[Zq fg,Zz .i64 n,Zv gh,Zv gS])]) fun(r:AV×aw)=>aB (Zg r) fun(x:List AV) (eD:List (List AV))=>aV x fun eM eE=>ag .i64 eE fun n fv=>ar fv fun fW fD=>ar fD fun gG fF=>ak fF (aE eD (Xv .i64 (Zb r) fun bG=>Zy (gu [Xj 0 0,Zz .i64 8] [(0,[Zq eM,Zz .i64 n,Zv fW,Zv gG])]) fun(r:AV×aw)=>aB (Zg r) fun(x:List AV) (fT:List (List AV))=>aV x fun gw iu=>ag .i64 iu fun n iw=>ar iw fun il iy=>ar iy fun i_ iz=>ak iz (aE fT (AV.dm (Zb r) fun iR=>Kv [Zq iR] fun dd jt=>Zy (iB [Xj 0 0] [(0,[Zq gw,Zz .i64 n,Zv il,Zv i_])]) fun(r:AV×aw)=>aB (Zg r) fun(x:List AV) (ku:List (List AV))=>aV x fun jN kC=>ag .i64 kC fun n kD=>ar kD fun lP kE=>ar kE fun mn lU=>ak lU (aE ku (Xv .i64 (Zb r) fun bR=>Zy (iZ [Xj 0 0] [(0,[Zq jN,Zz .i64 n,Zv lP,Zv mn])]) fun(r:AV×aw)=>aB (Zg r) fun(x:List AV) (lV:List (List AV))=>aV x fun nu lW=>ag .i64 lW fun n nc=>ar nc fun mz nf=>ar nf fun mo ng=>ak ng (aE lV (Xv .i64 (Zb r) fun bM=>Zy (oJ [Xj 0 0] [(0,[Zq nu,Zz .i64 n,Zv mz,Zv mo])]) fun(r:AV×aw)=>aB (Zg r) fun(x:List AV) (pS:List (List AV))=>aV x fun pn pT=>ag .i64 pT fun n pU=>ar pU fun oM qK=>ar qK fun oC qL=>ak qL (aE pS (AV.fB (Zb r) fun p9=>Zy (oJ [Xj 0 0] [(0,[Zq pn,Zz .i64 n,Zv oM,Zv oC])]) fun(r:AV×aw)=>aB (Zg r) fun(x:List AV) (su:List (List AV))=>aV x fun vM wm=>ag .i64 wm fun n wo=>ar wo fun yD wq=>ar wq fun tt zf=>ak zf (aE su (AV.fB (Zb r) fun tu=>UX [Yu [Zv (bh==1),Zx gH,Zx ja,Zx jb,Zz .i64 bG,Zz .u64 dd,Zz .i64 bR,Zz .i64 bM,Zx p9,Zx tu]] fun Er n=>aG tt t1 (aG (!n==0) t1 (aG (!Er==b) t1 (Zp (Zh [Yu [Zv (bh==1),Zx gH,Zx ja,Zx jb,Zz .i64 bG,Zz .u64 dd,Zz .i64 bR,Zz .i64 bM,Zx p9,Zx tu],Zz .i64 0],[])))))))))))))))))))));aG (Zj ((↑(Zu b):Int)>0)) (aD (Zj (0<(↑(Zu b):Int))) (aG (Zj ((↑(Yd (List.getD b (Yb 0) (0:UInt8))):Int)>(↑(Yd (1:UInt8)):Int))) (Zp (Zh [t2,Zz .i64 7],[])) t0)) t0) (by kernel_rfl) ?_;unfold Kv UX;delta kT;dsimp only[Cj,Kk,nC,iZ,iB,gu,oJ,aJ,aV,ar,c9,ag,cL,c7];have hb:=Qa3 aC;simp only[aC,↓A0,A0];unfold Kerb.bD;rw[Kerb.CI];have hl:∀ p n,(Ww b p n).val.length<=4611686018427387904:=fun p n=>Yp (Kerb.gI b p n) (by omega);have hk:∀ q,0<=(Kerb.cF q).1/\(Kerb.cF q).1<18446744073709551616:=Kerb.dR;have hx:∀ q,(Kerb.text b q).val.length<=40:=Kerb.fS b
 have lp:∀ q bd,(Kerb.dH b q bd).p.name.length<=40/\(Kerb.dH b q bd).p.inst.length<=40/\(Kerb.dH b q bd).p.aL.length<=40:=Kerb.kF b;have h7b:¬ (0<b.length)->¬ 1<(Kerb.get b 0 1 Yw).val:=by
  intro h;have:b=[]:=List.eq_nil_of_length_eq_zero (by omega);subst this;decide
 have hv:0<b.length->(Kerb.get b 0 1 Yw).val=((List.getD b (Yb 0) 0).toNat:Int):=by
  intro h;cases b with
  | nil=>simp at h
  | cons c r =>
   have hr:Kerb.room (c::r) 0 1=0:=Kerb.ii.2 ⟨by omega,by simp only[List.length_cons];omega,by omega,by simp only[List.length_cons];omega⟩;unfold Kerb.get;rw[Qa1 hr];simp[Kerb.cut,Kerb.jG]
 have fin:=Kerb.cY (no:=Kerb.jg) (enc:=Kerb.bB) (b:=b) (rd:=fun b=>((Kerb.nl b).val,(Kerb.nl b).bad)) _ _ rfl (fun x e=>(Zh [Yu [Zv (x).little,Zx (x).client.name,Zx (x).client.inst,Zx (x).client.aL,Zz Zf (x).address,Zz IntKind.u64 (x).ay,Zz Zf (x).bL,Zz Zf (x).cG,Zx (x).service,Zx (x).inst],Zz Zf e],([]:aw)));by_cases h:0<b.length
 ·rw[af (by simp only[Qa2];omega),ae (by simp only[Qa2];omega)];have hv:=hv h;by_cases h7:1<(Kerb.get b 0 1 Yw).val
  ·rw[af (by rw[hv] at h7;exact Qa4 h7),Qa1 h7];rfl
  rw[ai (by rw[hv] at h7;exact Qa5 h7),Qa0 h7];rw[ae (by simp only[Qa2];exact hl _ _),ae (by simp only[Zk,Qa2];exact⟨⟨⟨⟨⟨⟨Yp (lp _ _).1 (by decide),Yp (lp _ _).2.1 (by decide)⟩,Yp (lp _ _).2.2 (by decide)⟩,Yp (hx _) (by decide)⟩,Yp (hx _) (by decide)⟩,(hk _).1⟩,(hk _).2⟩)];exact fin
 ·rw[ai (by simp only[decide_eq_false_iff_not];omega),Qa0 (h7b h)];rw[ae (by simp only[Qa2];exact hl _ _),ae (by simp only[Zk,Qa2];exact⟨⟨⟨⟨⟨⟨Yp (lp _ _).1 (by decide),Yp (lp _ _).2.1 (by decide)⟩,Yp (lp _ _).2.2 (by decide)⟩,Yp (hx _) (by decide)⟩,Yp (hx _) (by decide)⟩,(hk _).1⟩,(hk _).2⟩)];exact fin
theorem ab':Wk 117 6 HV:=by
 refine cC Tryz.func117 rfl fun xs bl r h=> ?_;unfold HV at h;split at h;case h_2=>cases h
 rename_i b;obtain⟨aC,rfl⟩:=dj h;refine cA (Vo [Zq b] fun n bh bT bG dd=>aG (dd==0) (Zp (Zv (bG==(↑(Zu b):Int)),[])) (Zp (Zv Yw,[]))) (by kernel_rfl) ?_;unfold Vo;delta kT;dsimp only[Ie,aJ,aV,ar,c9,ag,cL,c7];have lb:=Qa3 aC;simp(config:={maxSteps:=10000000}) only[lb,Qb4,↓N2];unfold Kerb.ol;cases ((Kerb.bm b).err==0)<;>rfl
theorem ace:Wk 121 6 HZ:=by
 refine cC Tryz.func121 rfl fun xs bl r h=> ?_;unfold HZ at h;split at h;case h_2=>cases h
 rename_i b;obtain⟨aC,rfl⟩:=dj h;refine cA (aG (!Zg (Yg b [8])==0) (Zp (Zh [Zq [],Zv Yw,Zz .i64 (Zg (Yg b [8]))],[])) (CD [Zq b,Zz .i64 2,Zv (Zb (Yg b [8]))] fun n bh bG=>sZ [Zq b,Zz .i64 bh,Zz .i64 n] fun bT n dd=>aG (!Kerb.kP.err (Kerb.b_ bT (Zb (Yg b [8])))==0) (Zp (Zh [Zq [],Zv Yw,Zz .i64 100],[])) (aG (!Kerb.kP.val (Kerb.b_ bT (Zb (Yg b [8])))==b) (Zp (Zh [Zq [],Zv Yw,Zz .i64 100],[])) (Zp (Zh [Zq bT,Zv (Zb (Yg b [8])),Zz .i64 0],[]))))) (by kernel_rfl) ?_;unfold sZ CD;delta kT;dsimp only[sW,yk,aJ,aV,ar,c9,ag,cL,c7];have hb:=Qa3 aC;have jQ:Zj (b.length<=4611686018427387904)=Yk:=by simp;omega
 unfold Kerb.gV;by_cases h:(Yg b [8]).2=0;case neg=>rw[af (by simpa using h),Qa1 h]
 rw[ai (by simpa using h),Qa0 (by simpa using h)];simp only[↓A0];rw[ae jQ,ae aC];generalize (Yg b [8]).1=li;have key:=Kerb.cY (no:=([]:List UInt8)) (enc:=fun s=>Kerb.b_ s li) (rd:=fun b'=>(Kerb.sA b' li,Yw)) (b:=b) _ _ rfl (fun x e=>(Zh [Zq x,Zv (cond (e==0) li Yw),Zz Zf e],([]:aw)));refine Qb3 key ?_;generalize hD:Kerb.eG ([]:List UInt8) (fun s=>Kerb.b_ s li) (fun b'=>(Kerb.sA b' li,Yw)) b=D;have hD2:D.err=0\/(D.err=100/\D.val=[]):=by
  rw[<-hD];unfold Kerb.eG;split
  ·exact .inr ⟨rfl,rfl⟩
  ·exact .inl rfl
 rcases hD2 with h0 | ⟨h0,h1⟩
 ·rw[h0,Qa1 rfl];rfl
 ·rw[h0,h1,Qa0 (by decide)];rfl
theorem acf:Wk 122 6 H0:=by
 refine cC Tryz.func122 rfl fun xs bl r h=> ?_;unfold H0 at h;split at h;case h_2=>cases h
 rename_i b;obtain⟨aC,rfl⟩:=dj h;refine cA (Zy (Ii [Zq b] []) (kT fun vs=>ag .i64 vs fun n r=>aV r fun b r=>aV r fun bT r=>ar r fun dV r=>ag .i64 r fun n r=>ak r (Zp (Zh [Zq b,Zq bT,Zv dV,Zz .i64 n],[])))) (by kernel_rfl) ?_;delta kT;dsimp only[Ii,aJ,aV,ar,c9,ag,cL,c7];simp only[Zk,Qa2] at aC;simp only[A0,Xy,Xu,Kerb.eU.av,aC,Qb4]
theorem adj:Wk 196 6 P2:=by
 refine cC Tryz.func196 rfl fun xs bl r h=> ?_;unfold P2 at h;split at h;case h_2=>cases h
 rename_i op cd bx;cases h;refine cA (let t0:Option (AV×aw):=Zy (rI [Zq (Xk 9 Yw++Yj (Zw .i64 (op+128)) 1 Yw),Zz .i64 cd] []) (kO fun l=>Zy (zU [Zq l,Zq bx] []) (kB fun b=>Zp (Zh [Zq b,Zz .i64 0],[])));aG (!Kerb.mT op) (Zp (Zh [Zq [],Zz .i64 40],[])) (aG (!Zn cd 99) (Zp (Zh [Zq [],Zz .i64 104],[])) (aG (Zj ((↑(Zu bx):Int)>1012)) (Zp (Zh [Zq [],Zz .i64 105],[])) (aG (!cd==0) (aG (Zj ((↑(Zu bx):Int)>0)) (Zp (Zh [Zq [],Zz .i64 108],[])) t0) t0)))) (by kernel_rfl) ?_;delta kB kO;dsimp only[rI,zU,aJ,aV,ar,c9,ag,cL,c7];simp only[A0];have r_:(Xk 9 Yw).length=2:=rfl;unfold Kerb.bu;simp only;cases h0:Kerb.mT op
 ·rfl
 rw[Zd,aF,Qa0 (by simp)];have ho:=Kerb.xG.1 h0;cases h1:Zn cd 99
 ·rfl
 rw[Zd,aF,Qa0 (by simp)];by_cases h2:1012<bx.length
 ·rw[af (by simp;omega),Qa1 h2]
 rw[ai (by simp;omega),Qa0 h2,wrap_i64 (by omega) (by omega)];by_cases h3:cd=0
 ·rw[ai (by simp[h3]),Qa0 (by simp[h3]),ae (by simp[Yz,r_]),ae (by simp[Yz,r_];omega)];rfl
 rw[af (by simpa using h3)];by_cases h4:bx=[]
 ·rw[ai (by simp[h4]),Qa0 (by simp[h4]),ae (by simp[Yz,r_]),ae (by simp[Yz,r_];omega)];rfl
 ·rw[af (by have:=List.length_pos_iff.2 h4;simp;omega),Qa1 ⟨h3,h4⟩]
theorem ad1:Wk 244 6 Cd:=by
 refine cC Tryz.func244 rfl fun xs bl r h=> ?_;unfold Cd at h;split at h;case h_2=>cases h
 rename_i s;obtain⟨aC,rfl⟩:=dj h;refine cA (aG (!s==[]) (Zy (rK [Zx s] []) (kL fun b=>Zp (Zv b,[]))) (Zp (Zv Yw,[]))) (by kernel_rfl) ?_;delta kL;dsimp only[rK,aJ,aV,ar,c9,ag,cL,c7];simp only[A0];rw[ae aC];simp only[Kerb.dI];cases s<;>rfl
theorem aei:Wk 266 6 ID:=by
 refine cC Tryz.func266 rfl fun xs bl r h=> ?_;unfold ID at h;split at h;case h_2=>cases h
 rename_i a b els;obtain⟨aC,rfl⟩:=dj h;show dT (G.env 266 6) G.rts (G.own 266) Tryz.f266 _ _ [0]=_;refine cA (let t3:Int:=Zw .i64 (Xx (Zw .i64 (b-a)) 4);let t0:AV:=Zz .i64 (Zw .i64 (a+Zw .i64 (t3*2)));let t1:AV:=Zz .i64 (Zw .i64 (a+Zw .i64 (t3*1)));let t2:AV:=Zz .i64 (Zw .i64 (a+Zw .i64 (t3*3)));aG (Zj (Zw .i64 (b-a)>=8)) (aG (Zj (Zw .i64 (b-a)>=50)) (Zy (Ch [Xn 0 27 1,t1,Xj 2 0] [(0,els),(0+1+1,[Zz .i64 0])]) fun(r:AV×aw)=>aB (Zg r) fun(x:List AV) (dq:List (List AV))=>aB dq fun(x_1:List AV) (dA:List (List AV))=>aA x_1 fun x_2 dJ=>Xv .i64 x_2 fun n=>ak dJ (aE dA (Xv .i64 (Zb r) fun bh=>Zy (Ch [Xn 0 27 1,t0,Xj 2 0] [(0,x),(0+1+1,[Zz .i64 n])]) fun(r:AV×aw)=>aB (Zg r) fun(x:List AV) (eI:List (List AV))=>aB eI fun(x_3:List AV) (fI:List (List AV))=>aA x_3 fun x_4 ga=>Xv .i64 x_4 fun n=>ak ga (aE fI (Xv .i64 (Zb r) fun bG=>Zy (Ch [Xn 0 27 1,t2,Xj 2 0] [(0,x),(0+1+1,[Zz .i64 n])]) fun(r:AV×aw)=>aB (Zg r) fun(x:List AV) (g8:List (List AV))=>aB g8 fun(x_5:List AV) (iA:List (List AV))=>aA x_5 fun x_6 ig=>Xv .i64 x_6 fun n=>ak ig (aE iA (Xv .i64 (Zb r) fun dd=>Zy (zV [Xn 0 27 1,Zz .i64 bh,Zz .i64 bG,Zz .i64 dd,Xj 4 0] [(0,x),(0+1+1+1+1,[Zz .i64 n])]) fun(r:AV×aw)=>aB (Zg r) fun(x:List AV) (dy:List (List AV))=>aB dy fun(x_7:List AV) (eD:List (List AV))=>aA x_7 fun x_8 eE=>Xv .i64 x_8 fun n=>ak eE (aE eD (Xv .i64 (Zb r) fun bR=>aG (n==0) (Zp (Zh [Zz .i64 bR,Zz .i64 1],[x])) (aG (n==12) (Zp (Zh [Zz .i64 bR,Zz .i64 2],[x])) (Zp (Zh [Zz .i64 bR,Zz .i64 0],[x])))))))))))) (Zy (zV [Xn 0 27 1,t1,t0,t2,Xj 4 0] [(0,els),(0+1+1+1+1,[Zz .i64 0])]) fun(r:AV×aw)=>aB (Zg r) fun(x:List AV) (dq:List (List AV))=>aB dq fun(x_1:List AV) (dA:List (List AV))=>aA x_1 fun x_2 dJ=>Xv .i64 x_2 fun n=>ak dJ (aE dA (Xv .i64 (Zb r) fun bh=>aG (n==0) (Zp (Zh [Zz .i64 bh,Zz .i64 1],[x])) (aG (n==12) (Zp (Zh [Zz .i64 bh,Zz .i64 2],[x])) (Zp (Zh [Zz .i64 bh,Zz .i64 0],[x]))))))) (Zp (Zh [t0,Zz .i64 1],[els]))) (by kernel_rfl) ?_;dsimp only[Ch,zV,aJ,aV,ar,c9,ag,cL,c7];simp only[Zk,Qa2] at aC;obtain⟨⟨⟨⟨⟨iq,hlen⟩,IW⟩,wC⟩,hb⟩,h8⟩:=aC;obtain⟨d,rfl,hd⟩:=Kerb.m7 iq;simp only[Ym] at hlen hb;obtain⟨a,rfl⟩:=Xq (show 0<=a by omega);obtain⟨b,rfl⟩:=Xq (show 0<=b by omega);obtain⟨l,hl⟩:∃ l,l=b-a:=⟨_,rfl⟩;obtain⟨q,hq⟩:∃ q,q=l / 4:=⟨_,rfl⟩;rw[show Zw .i64 ((b:Int)-(a:Int))=((l:Nat):Int) from(Yn (by omega) (by omega)).trans (by omega),show Xx (l:Int) 4=((l / 4:Nat):Int) from rfl,<-hq,show Zw .i64 ((q:Nat))=((q:Nat):Int) from(Yn (by omega) (by omega)).trans (by omega)];rw[show Zw .i64 (((q:Nat):Int)*1)=((q*1:Nat):Int) from(Yn (by omega) (by omega)).trans (by omega),show Zw .i64 (((q:Nat):Int)*2)=((q*2:Nat):Int) from(Yn (by omega) (by omega)).trans (by omega),show Zw .i64 (((q:Nat):Int)*3)=((q*3:Nat):Int) from(Yn (by omega) (by omega)).trans (by omega)]
 rw[show Zw .i64 ((a:Int)+((q*1:Nat):Int))=((a+q*1:Nat):Int) from(Yn (by omega) (by omega)).trans (by omega),show Zw .i64 ((a:Int)+((q*2:Nat):Int))=((a+q*2:Nat):Int) from(Yn (by omega) (by omega)).trans (by omega),show Zw .i64 ((a:Int)+((q*3:Nat):Int))=((a+q*3:Nat):Int) from(Yn (by omega) (by omega)).trans (by omega)];simp only[Kerb.HF,Kerb.E',Kerb.median,Kerb.fl,Wj,Int.toNat_zero];unfold Go.Sort.choosePivot;dsimp only;rw[<-hl,<-hq,Qa1 (show l>=8 by omega),af (by simp;omega)];by_cases V3:l>=50
 ·rw[Qa1 V3,af (by simp;omega)];have m1:=Kerb.yY (lt:=Go.Sort.ltInt) (d:=d) (s:=0) (show a+q*1+1<d.size by omega);rw[ae (by simp only[Yh,Ym,Wq,Zk,Qa2,Qa9,Qa8];omega)];simp only[↓gq,↓fe,↓bQ,↓gY,↓k8,↓dg,↓dr,↓dM];simp only[Kerb.fl,Wj];generalize Go.Sort.medianAdjacent Go.Sort.ltInt d (a+q*1) 0=r1 at m1 ⊢;have m2:=Kerb.yY (lt:=Go.Sort.ltInt) (d:=d) (s:=r1.2) (show a+q*2+1<d.size by omega);rw[ae (by simp only[Yh,Ym,Wq,Zk,Qa2,Qa9,Qa8];omega)];simp only[↓gq,↓fe,↓bQ,↓gY,↓k8,↓dg,↓dr,↓dM];simp only[Kerb.fl,Wj];generalize Go.Sort.medianAdjacent Go.Sort.ltInt d (a+q*2) r1.2=r2 at m2 ⊢;have m3:=Kerb.yY (lt:=Go.Sort.ltInt) (d:=d) (s:=r2.2) (show a+q*3+1<d.size by omega);rw[ae (by simp only[Yh,Ym,Wq,Zk,Qa2,Qa9,Qa8];omega)];simp only[↓gq,↓fe,↓bQ,↓gY,↓k8,↓dg,↓dr,↓dM];simp only[Kerb.fl,Wj];generalize Go.Sort.medianAdjacent Go.Sort.ltInt d (a+q*3) r2.2=r3 at m3 ⊢;rw[ae (by simp only[Yh,Ym,Wq,Zk,Qa2,Qa9,Qa8];omega)];simp only[↓gq,↓fe,↓bQ,↓gY,↓k8,↓dg,↓dr,↓dM];exact Kerb.GR (fun h=>Zp (Zh [Zz .i64 ((Go.Sort.median Go.Sort.ltInt d r1.1 r2.1 r3.1 r3.2).1:Int),Zz .i64 h],[Xg d])) _
 ·rw[Qa0 V3,ai (by simp;omega)];rw[ae (by simp only[Yh,Ym,Wq,Zk,Qa2,Qa9,Qa8];omega)];simp only[↓gq,↓fe,↓bQ,↓gY,↓k8,↓dg,↓dr,↓dM];exact Kerb.GR (fun h=>Zp (Zh [Zz .i64 ((Go.Sort.median Go.Sort.ltInt d (a+q*1) (a+q*2) (a+q*3) 0).1:Int),Zz .i64 h],[Xg d])) _
theorem w12:Wk 12 7 PH:=by
 refine cC Tryz.func12 rfl fun xs bl r h=> ?_;unfold PH at h;split at h;case h_2=>cases h
 rename_i b;obtain⟨aC,rfl⟩:=dj h;refine cA (Zy (Qz [Zq b] []) (kT fun vs=>aA vs fun x r=>AV.cV x fun cs=>ar cs fun bT dq=>aJ dq fun dV dA=>aJ dA fun eA dJ=>aJ dJ fun fg eI=>ag .i64 eI fun n fI=>ag .i64 fI fun n ga=>ag .i64 ga fun n g8=>aV g8 fun gh iA=>ak iA (ag .i64 r fun n r=>ak r (aG (n==0) (Zy (uM [Yq 1 [Zq gh]] []) fun(r:AV×aw)=>aE (Zg r) (Xm 1 (Zb r) fun b=>Zp (Yq 1 b,[]))) (Zy (QA [Zq b] []) (kT fun vs=>aA vs fun x r=>AV.cV x fun cs=>ar cs fun gS ig=>ar ig fun gH dy=>ag .i64 dy fun n eD=>aJ eD fun ja eE=>aV eE fun jb fv=>aV fv fun eM fD=>ak fD (ag .i64 r fun n r=>ak r (aG (n==0) (Zy (uM [Yq 1 [Zq jb,Zq eM]] []) fun(r:AV×aw)=>aE (Zg r) (Xm 1 (Zb r) fun b=>Zp (Yq 1 b,[]))) (Zy (QB [Zq b] []) (kT fun vs=>aA vs fun x r=>AV.cV x fun cs=>ar cs fun fW fF=>ar fF fun gG fT=>ag .i64 fT fun n iu=>aJ iu fun gw iw=>aV iw fun il iy=>aV iy fun i_ iz=>ag .i64 iz fun n ku=>ag .i64 ku fun n kC=>aJ kC fun iR kD=>aJ kD fun jt kE=>ak kE (ag .i64 r fun n r=>ak r (aG (n==0) (Zy (uM [Yq 1 [Zq il,Zq i_]] []) fun(r:AV×aw)=>aE (Zg r) (Xm 1 (Zb r) fun b=>Zp (Yq 1 b,[]))) (Zy (QC [Zq b] []) (kT fun vs=>aV vs fun jN r=>ar r fun lP r=>ag .i64 r fun n r=>ak r (aG (n==0) (Zy (uM [Yq 1 [Zq jN]] []) fun(r:AV×aw)=>aE (Zg r) (Xm 1 (Zb r) fun b=>Zp (Yq 1 b,[]))) (Zy (QD [Zq b] []) (kT fun vs=>aV vs fun mn r=>aV r fun nu r=>ar r fun mz r=>ag .i64 r fun n r=>ak r (aG (n==0) (Zy (uM [Yq 1 [Zq nu]] []) fun(r:AV×aw)=>aE (Zg r) (Xm 1 (Zb r) fun b=>Zp (Yq 1 b,[]))) (Zy (QE [Zq b] []) (kT fun vs=>aA vs fun x r=>AV.cV x fun cs=>ag .i64 cs fun n lU=>aJ lU fun mo lV=>aJ lV fun pn lW=>aJ lW fun oM nc=>ag .i64 nc fun n nf=>aJ nf fun oC ng=>aV ng fun p9 pS=>aJ pS fun vM pT=>aJ pT fun yD pU=>aV pU fun tt qK=>ak qK (ag .i64 r fun n r=>ak r (aG (n==0) (Zy (uM [Yq 1 [Zq p9,Zq tt]] []) fun(r:AV×aw)=>aE (Zg r) (Xm 1 (Zb r) fun b=>Zp (Yq 1 b,[]))) (Zy (QF [Zq b] []) (kT fun vs=>aA vs fun x r=>AV.cV x fun cs=>ag .i64 cs fun n qL=>ag .i64 qL fun n su=>aV su fun tu wm=>ak wm (ag .i64 r fun n r=>ak r (aG (n==0) (Zy (uM [Yq 1 [Zq tu]] []) fun(r:AV×aw)=>aE (Zg r) (Xm 1 (Zb r) fun b=>Zp (Yq 1 b,[]))) (Zy (QG [Zq b] []) (kT fun vs=>aA vs fun x r=>AV.cV x fun cs=>ag .i64 cs fun n wo=>aJ wo fun b wq=>aJ wq fun b zf=>aJ zf fun b Fp=>aV Fp fun b Fq=>ak Fq (ag .i64 r fun n r=>ak r (aG (n==0) (Zy (uM [Yq 1 [Zq b]] []) fun(r:AV×aw)=>aE (Zg r) (Xm 1 (Zb r) fun b=>Zp (Yq 1 b,[]))) (Zp (Yq 1 [],[])))))))))))))))))))))))))))))))) (by kernel_rfl) ?_;delta kT;dsimp only[Qz,uM,QA,QB,QC,QD,QE,QF,QG,aJ,aV,ar,c9,ag,cL,c7];have hb:=Qa3 aC;have Su:Zj (b.length<=140737488355328)=Yk:=by simp;omega
 have h1:=Kerb.tI b;have h2:=Kerb.zq b;have h3:=Kerb.wW b;have h4:=Kerb.vu b;have h5:=Kerb.BC b;have h6:=Kerb.py b;have h7:=Kerb.qT b;have h8:=Kerb.vv b;simp only[A0,Xy,Xu,Kerb.eU.av,Su];unfold Kerb.partsOf Kerb.oy;by_cases hc:(Kerb.bj b).err=0
 ·rw[af (by simpa using hc),Qa1 hc];rw[ae (Kerb.ub (by omega))];rfl
 rw[ai (by simpa using hc),Qa0 hc];clear hc;by_cases hc:(Kerb.eC b).err=0
 ·rw[af (by simpa using hc),Qa1 hc];rw[ae (Kerb.OS (by omega) (by omega))];rfl
 rw[ai (by simpa using hc),Qa0 hc];clear hc;by_cases hc:(Kerb.bZ b).err=0
 ·rw[af (by simpa using hc),Qa1 hc];rw[ae (Kerb.OS (by omega) (by omega))];rfl
 rw[ai (by simpa using hc),Qa0 hc];clear hc;by_cases hc:(Kerb.gV b).err=0
 ·rw[af (by simpa using hc),Qa1 hc];rw[ae (Kerb.ub (by omega))];rfl
 rw[ai (by simpa using hc),Qa0 hc];clear hc;by_cases hc:(Kerb.gA b).err=0
 ·rw[af (by simpa using hc),Qa1 hc];rw[ae (Kerb.ub (by omega))];rfl
 rw[ai (by simpa using hc),Qa0 hc];clear hc;by_cases hc:(Kerb.aU b).err=0
 ·rw[af (by simpa using hc),Qa1 hc];rw[ae (Kerb.OS (by omega) (by omega))];rfl
 rw[ai (by simpa using hc),Qa0 hc];clear hc;by_cases hc:(Kerb.cp b).err=0
 ·rw[af (by simpa using hc),Qa1 hc];rw[ae (Kerb.ub (by omega))];rfl
 rw[ai (by simpa using hc),Qa0 hc];clear hc;by_cases hc:(Kerb.dv b).err=0
 ·rw[af (by simpa using hc),Qa1 hc];rw[ae (Kerb.ub (by omega))];rfl
 rw[ai (by simpa using hc),Qa0 hc];clear hc;rfl
theorem w16:Wk 16 7 PR:=by
 refine cC Tryz.func16 rfl fun xs bl r h=> ?_;unfold PR at h;split at h;case h_2=>cases h
 rename_i kd k b;obtain⟨aC,rfl⟩:=dj h
 refine cA (aG (kd==1) (Zy (QO [Zq b] []) (kT fun vs=>aA vs fun x r=>AV.cV x fun cs=>ar cs fun b dq=>aJ dq fun b dA=>aJ dA fun b dJ=>aJ dJ fun b eI=>ag .i64 eI fun n fI=>ag .u64 fI fun n ga=>ag .i64 ga fun bh g8=>ag .i64 g8 fun bG iA=>aJ iA fun b ig=>aJ ig fun b dy=>ak dy (ag .i64 r fun dd r=>ak r (aG (dd==0) (Zy (Cl [Zz .u64 n] []) fun(r:AV×aw)=>aE (Zg r) (Xm 1 (Zb r) fun b=>Zp (Zh [Yq 1 b,Yq 1 []],[]))) (Zp (Zh [Yq 1 [],Yq 1 []],[])))))) (aG (kd==3) (Zy (Nb [Zq b,Zv Yw] []) (kT fun vs=>aA vs fun x r=>AV.cV x fun cs=>ag .u64 cs fun n dq=>aJ dq fun bT dA=>aJ dA fun dV dJ=>aJ dJ fun eA eI=>ag .i64 eI fun bh fI=>ag .i64 fI fun bG ga=>aV ga fun fg g8=>ag .i64 g8 fun dd iA=>ak iA (ag .i64 r fun bR r=>ak r (aG (!bR==0) (Zy (Nb [Zq b,Zv Yk] []) (kT fun vs=>aA vs fun x r=>AV.cV x fun cs=>ag .u64 cs fun n ig=>aJ ig fun b dy=>aJ dy fun b eD=>aJ eD fun b eE=>ag .i64 eE fun bM fv=>ag .i64 fv fun fV fD=>aV fD fun b fF=>ag .i64 fF fun fM fT=>ak fT (ag .i64 r fun ie r=>ak r (aG (ie==0) (Zy (Cl [Zz .u64 n] []) fun(r:AV×aw)=>aE (Zg r) (Xm 1 (Zb r) fun gh=>Zy (uM [Yq 1 [Zq b]] []) fun(r:AV×aw)=>aE (Zg r) (Xm 1 (Zb r) fun b=>Zp (Zh [Yq 1 gh,Yq 1 b],[])))) (Zp (Zh [Yq 1 [],Yq 1 []],[])))))) (aG (bR==0) (Zy (Cl [Zz .u64 n] []) fun(r:AV×aw)=>aE (Zg r) (Xm 1 (Zb r) fun b=>Zy (uM [Yq 1 [Zq fg]] []) fun(r:AV×aw)=>aE (Zg r) (Xm 1 (Zb r) fun gh=>Zp (Zh [Yq 1 b,Yq 1 gh],[])))) (Zp (Zh [Yq 1 [],Yq 1 []],[]))))))) (aG (kd==7) (Zy (QP [Zq b] []) (kT fun vs=>aA vs fun x r=>AV.cV x fun cs=>aJ cs fun b dq=>ag .i64 dq fun n dA=>ag .i64 dA fun n dJ=>ag .i64 dJ fun n eI=>ag .u64 eI fun n fI=>ak fI (ag .i64 r fun bh r=>ak r (aG (bh==0) (Zy (Cl [Zz .u64 n] []) fun(r:AV×aw)=>aE (Zg r) (Xm 1 (Zb r) fun b=>Zp (Zh [Yq 1 b,Yq 1 []],[]))) (Zp (Zh [Yq 1 [],Yq 1 []],[])))))) (aG (kd==8) (Zy (QQ [Zq b] []) (kT fun vs=>aA vs fun x r=>AV.cV x fun cs=>aJ cs fun b dq=>ag .i64 dq fun n dA=>ag .u64 dA fun n dJ=>ag .i64 dJ fun bh eI=>ag .i64 eI fun bG fI=>ag .i64 fI fun dd ga=>aJ ga fun b g8=>aJ g8 fun b iA=>aJ iA fun b ig=>aV ig fun b dy=>ak dy (ag .i64 r fun bR r=>ak r (aG (bR==0) (Zy (Cl [Zz .u64 n] []) fun(r:AV×aw)=>aE (Zg r) (Xm 1 (Zb r) fun bT=>Zy (uM [Yq 1 [Zq b]] []) fun(r:AV×aw)=>aE (Zg r) (Xm 1 (Zb r) fun b=>Zp (Zh [Yq 1 bT,Yq 1 b],[])))) (Zp (Zh [Yq 1 [],Yq 1 []],[])))))) (aG (kd==9) (Zy (QR [Zq b] []) (kT fun vs=>aA vs fun x r=>AV.cV x fun cs=>aJ cs fun b dq=>aJ dq fun b dA=>aJ dA fun b dJ=>aJ dJ fun b eI=>aJ eI fun b fI=>aJ fI fun b ga=>ag .u64 ga fun n g8=>ag .i64 g8 fun bh iA=>ag .i64 iA fun bG ig=>ag .i64 ig fun dd dy=>ak dy (ag .i64 r fun bR r=>ak r (aG (bR==0) (Zy (Cl [Zz .u64 n] []) fun(r:AV×aw)=>aE (Zg r) (Xm 1 (Zb r) fun b=>Zp (Zh [Yq 1 b,Yq 1 []],[]))) (Zp (Zh [Yq 1 [],Yq 1 []],[])))))) (aG (kd==10) (Zy (QS [Zq b] []) (kT fun vs=>aA vs fun x r=>AV.cV x fun cs=>ag .u64 cs fun n dq=>aJ dq fun b dA=>aJ dA fun b dJ=>aJ dJ fun b eI=>ag .i64 eI fun bh fI=>ag .i64 fI fun bG ga=>aV ga fun b g8=>ak g8 (ag .i64 r fun dd r=>ak r (aG (dd==0) (Zy (Cl [Zz .u64 n] []) fun(r:AV×aw)=>aE (Zg r) (Xm 1 (Zb r) fun bT=>Zy (uM [Yq 1 [Zq b]] []) fun(r:AV×aw)=>aE (Zg r) (Xm 1 (Zb r) fun b=>Zp (Zh [Yq 1 bT,Yq 1 b],[])))) (Zp (Zh [Yq 1 [],Yq 1 []],[])))))) (Zp (Zh [Yq 1 [],Yq 1 []],[])))))))) (by kernel_rfl) ?_
 delta kT;dsimp only[uM,QO,Cl,Nb,QP,QQ,QR,QS,aJ,aV,ar,c9,ag,cL,c7];have hb:=Qa3 aC;have Su:Zj (b.length<=140737488355328)=Yk:=by simp;omega
 have k1:=Kerb.qU b;have k2:=Kerb.tG b;have k3:=Kerb.pz b;have k4:=Kerb.px b;have k5:=Kerb.tH b;have k6:=Kerb.sJ b;have t2:=Kerb.qA b;have t4:=Kerb.mD b;have t6:=Kerb.pA b;have u2:∀ li,(Kerb.bt b li).val.aH.length<=70368744177664:=fun li=>Yp (t2 li) (by omega);have u4:(Kerb.a_ b).val.aH.length<=70368744177664:=Yp t4 (by omega);have u6:(Kerb.bV b).val.record.length<=70368744177664:=Yp t6 (by omega);simp only[A0,Xy,Xu,Kerb.eU.av,Su,k1,k2,k3,k4,k5,k6,Qb4,Yf,Kerb.ub (u2 _),Kerb.ub u4,Kerb.ub u6];unfold Kerb.jd;simp only;by_cases hq:kd=1
 ·rw[af (by simpa using hq),Qa1 hq];by_cases g:(Kerb.bD b).err=0
  ·rw[af (by simpa using g),Qa1 g];rfl
  ·rw[ai (by simpa using g),Qa0 g];rfl
 rw[ai (by simpa using hq),Qa0 hq];clear hq;by_cases hq:kd=3
 ·rw[af (by simpa using hq),Qa1 hq];by_cases g:(Kerb.bt b Yw).err=0
  ·simp only[g,Qb2,Zd,aF,cc,if_true];rfl
  ·have g':((Kerb.bt b Yw).err==0)=Yw:=by simpa using g
   simp only[g',Bool.not_false,cc,Qa0 g];by_cases g2:(Kerb.bt b Yk).err=0
   ·rw[af (by simpa using g2),Qa1 g2];rfl
   ·rw[ai (by simpa using g2),Qa0 g2];rfl
 rw[ai (by simpa using hq),Qa0 hq];clear hq;by_cases hq:kd=7
 ·rw[af (by simpa using hq),Qa1 hq];by_cases g:(Kerb.cq b).err=0
  ·rw[af (by simpa using g),Qa1 g];rfl
  ·rw[ai (by simpa using g),Qa0 g];rfl
 rw[ai (by simpa using hq),Qa0 hq];clear hq;by_cases hq:kd=8
 ·rw[af (by simpa using hq),Qa1 hq];by_cases g:(Kerb.a_ b).err=0
  ·rw[af (by simpa using g),Qa1 g];rfl
  ·rw[ai (by simpa using g),Qa0 g];rfl
 rw[ai (by simpa using hq),Qa0 hq];clear hq;by_cases hq:kd=9
 ·rw[af (by simpa using hq),Qa1 hq];by_cases g:(Kerb.ch b).err=0
  ·rw[af (by simpa using g),Qa1 g];rfl
  ·rw[ai (by simpa using g),Qa0 g];rfl
 rw[ai (by simpa using hq),Qa0 hq];clear hq;by_cases hq:kd=10
 ·rw[af (by simpa using hq),Qa1 hq];by_cases g:(Kerb.bV b).err=0
  ·rw[af (by simpa using g),Qa1 g];rfl
  ·rw[ai (by simpa using g),Qa0 g];rfl
 rw[ai (by simpa using hq),Qa0 hq];clear hq;rfl
theorem w38:Wk 38 7 UB:=by
 refine cC Tryz.func38 rfl fun xs bl r h=> ?_;unfold UB at h;split at h;case h_2=>cases h
 rename_i kd bx se gW de li hw;cases h;refine cA (Zy (Ke [Zq [gW,de]] []) (kA fun cs=>ar cs fun b r=>aJ r fun bT r=>aJ r fun dV r=>aJ r fun eA r=>ag .i64 r fun n r=>ag .u64 r fun bh r=>ag .i64 r fun bG r=>ag .i64 r fun dd r=>aJ r fun fg r=>aJ r fun gh r=>ak r (Zy (Qd [Yu [Zv b,Zx bT,Zx dV,Zx eA,Zz .i64 n,Zz .u64 (Xb de),Zz .i64 bG,Zz .i64 dd,Zx fg,Zx gh],Zz .u64 (Wv (UInt8.ofNat (Yb (Zw .u8 (Xx (↑(Yd de):Int) (↑(Yd (8:UInt8)):Int))))))] []) (kT fun vs=>aV vs fun b r=>ag .i64 r fun n r=>ak r (Zp (Zq b,[])))))) (by kernel_rfl) ?_;delta kT kA;dsimp only[Ke,Qd,aJ,aV,ar,c9,ag,cL,c7];have L:∀ b:List UInt8,b.length<=39->Zj (b.length<=9223372036854775807)=Yk:=fun b h=>Qa4 (by omega);have k1:∀ n,Zj (0<=Wv n)=Yk:=fun n=>Qa4 (Kerb.rj n).1;have k2:∀ n,Zj (Wv n<18446744073709551616)=Yk:=fun n=>Qa4 (Kerb.rj n).2;have s1:∀ n,Zj (0<=Xb n)=Yk:=fun n=>Qa4 (Kerb.rG n).1;have s2:∀ n,Zj (Xb n<18446744073709551616)=Yk:=fun n=>Qa4 (Kerb.rG n).2;have e0:Zj ([gW,de].length<=4611686018427387904)=Yk:=rfl;obtain⟨l1,l2,l3,l4,l5⟩:=Kerb.Cn [gW,de];simp only[↓A0,A0,e0,L _ l1,L _ l2,L _ l3,L _ l4,L _ l5,k1,k2,s1,s2,Yf];unfold Kerb.oK Kerb.VR;generalize Kerb.aH [gW,de]=T;cases T;rfl
theorem w47:Wk 47 7 C9:=by
 refine cC Tryz.func47 rfl fun xs bl r h=> ?_;unfold C9 at h;split at h;case h_2=>cases h
 rename_i bs;obtain⟨aC,rfl⟩:=dj h;refine cA (Zy (bJ (fun st=>aA st fun x r=>AV.aW x fun b=>cL 1 r fun bT r=>ag .i64 r fun n r=>ag .i64 r fun bh r=>ak r (aG (Zj (bh<n)) (aD (Zj (0<=bh)&&Zj (bh<(↑(Zu bT):Int))&&Yk) (AV.dm (List.getD bT (Yb bh) AV.undef) fun dV=>Zy (HV [Zq dV] []) (kL fun eA=>aG eA (aD (room (Zu b+Zu [Zq dV]) (nat_lit 24)) (Zp (Wy [Xz (b++[Zq dV]),Yq 1 bT,Zz .i64 n,Zz .i64 (Zw .i64 (bh+1))]))) (Zp (Wy [Xz b,Yq 1 bT,Zz .i64 n,Zz .i64 (Zw .i64 (bh+1))]))))) (Zp (Sum.inr (Ex.exit 0,[Xz b,Yq 1 bT,Zz .i64 n,Zz .i64 bh]))))) [Xz [],Yq 1 bs,Zz .i64 (↑(Zu bs):Int),Zz .i64 0]) fun(r:Ex×List AV)=>aA (Zg r) fun x dq=>AV.aW x fun b=>cL 1 dq fun bT dA=>ag .i64 dA fun n dJ=>ag .i64 dJ fun n eI=>ak eI (jW r.1 none fun(j:Nat)=>aG (Nat.beq j 0) (Zp (Yq 1 b,[])) none)) (by kernel_rfl) ?_;delta kL;dsimp only[HV,aJ,aV,ar,c9,ag,cL,c7];obtain⟨l,rfl,hl,hn⟩:=Kerb.Fi aC;rw[Kerb.k9];refine Kerb.ox (fun i=>[.aI (Kerb.dl (Kerb.gx (l.take i))),.sl 1 (Kerb.dl l),.int .i64 ((Kerb.dl l).length:Int),.int .i64 (i:Int)]) l.length (fun i hi=> ?_) ⟨(.exit 0,[.aI (Kerb.dl (Kerb.gx l)),.sl 1 (Kerb.dl l),.int .i64 ((Kerb.dl l).length:Int),.int .i64 (l.length:Int)]),?_,?_⟩ rfl
 ·have hm:(Kerb.gx (l.take i)).length<=100000000:=Yp (List.length_filter_le _ _) (by rw[List.length_take];omega);have g3:Zj ((l.getD i []).length<=140737488355328)=Yk:=by have:=hl _ (Kerb.xp [] hi);exact Qa4 (by omega)
  try dsimp only
  simp only[↓A0,A0,Kerb.RA,Kerb.Ve hi,Kerb.LM hi,g3,Yf,Bool.and_true,Kerb.Cr (show i<=1000000000 by omega),Kerb.d_ (Kerb.gx _),List.length_singleton,Kerb.FB hm,Kerb.yq];rw[Kerb.wT hi];cases Kerb.ol (l.getD i [])<;>rfl
 ·try dsimp only
  simp only[↓A0,A0,Kerb.XI,List.take_length]
 ·rfl
theorem ach:Wk 124 7 H3:=by
 refine cC Tryz.func124 rfl fun xs bl r h=> ?_;unfold H3 at h;split at h;case h_2=>cases h
 rename_i b;obtain⟨aC,rfl⟩:=dj h;refine cA (aG (!Zg (Yg b [9])==0) (Zp (Zh [Yu [Zz .i64 0,Zz .i64 0,Zq []],Zz .i64 (Zg (Yg b [9]))],[])) (Zy (yg [Xj 0 0] [(0,[Zq b,Zz .i64 2,Zv Yw])]) fun(r:AV×aw)=>aB (Zg r) fun(x:List AV) (dq:List (List AV))=>aV x fun bT dA=>ag .i64 dA fun n dJ=>ar dJ fun dV eI=>ak eI (aE dq (Xv .i64 (Zb r) fun bh=>Zy (yg [Xj 0 0] [(0,[Zq bT,Zz .i64 n,Zv dV])]) fun(r:AV×aw)=>aB (Zg r) fun(x:List AV) (fI:List (List AV))=>aV x fun eA ga=>ag .i64 ga fun n g8=>ar g8 fun fg iA=>ak iA (aE fI (Xv .i64 (Zb r) fun bG=>Zy (Ij [Xj 0 0] [(0,[Zq eA,Zz .i64 n,Zv fg])]) fun(r:AV×aw)=>aB (Zg r) fun(x:List AV) (ig:List (List AV))=>aV x fun gh dy=>ag .i64 dy fun n eD=>ar eD fun gS eE=>ak eE (aE ig (Xv .i64 (Zb r) fun dd=>Zy (sX [Xj 0 0,Zz .i64 dd] [(0,[Zq gh,Zz .i64 n,Zv gS])]) fun(r:AV×aw)=>aB (Zg r) fun(x:List AV) (fv:List (List AV))=>aV x fun gH fD=>ag .i64 fD fun n fF=>ar fF fun ja fT=>ak fT (aE fv (AV.dm (Zb r) fun jb=>aG ja (Zp (Zh [Yu [Zz .i64 0,Zz .i64 0,Zq []],Zz .i64 100],[])) (aG (!Kerb.kP.err (Kerb.bu (Kerb.iC.mk (Zw .i64 (bh-128)) bG jb))==0) (Zp (Zh [Yu [Zz .i64 0,Zz .i64 0,Zq []],Zz .i64 100],[])) (aG (!Kerb.kP.val (Kerb.bu (Kerb.iC.mk (Zw .i64 (bh-128)) bG jb))==b) (Zp (Zh [Yu [Zz .i64 0,Zz .i64 0,Zq []],Zz .i64 100],[])) (Zp (Zh [Yu [Zz .i64 (Zw .i64 (bh-128)),Zz .i64 bG,Zq jb],Zz .i64 0],[])))))))))))))) (by kernel_rfl) ?_;dsimp only[sX,yg,Ij,aJ,aV,ar,c9,ag,cL,c7];have hb:=Qa3 aC;simp only[A0];by_cases h:(Yg b [9]).2=0;case neg =>
  rw[af (by simpa using h)];unfold Kerb.cp;rw[Qa1 h];rfl
 have hd:Kerb.cp b=Kerb.eG Kerb.mc Kerb.bu Kerb.pe b:=by unfold Kerb.cp;rw[Qa0 (by simpa using h)]
 rw[ai (by simp[h]),hd];have hg:=Kerb.R4 b 1 2 Yw (by omega);rw[ae aC,ae aC,ae aC,ae aC,wrap_i64 (by omega) (by omega)];exact Kerb.cY (no:=Kerb.mc) (enc:=Kerb.bu) (rd:=Kerb.pe) _ _ rfl (fun x e=>(Zh [Yu [Zz Zf (x).op,Zz Zf (x).code,Zq (x).box],Zz Zf e],([]:aw)))
theorem ada:Wk 189 7 B6:=by
 refine cC Tryz.func189 rfl fun xs bl r h=> ?_;unfold B6 at h;split at h;case h_2=>cases h
 rename_i li mu kv rl tk au;obtain⟨aC,rfl⟩:=dj h;refine cA (Zy (aD (c7 rl) (Zp (Zv (Kerb.dI rl),[]))) (kL fun b=>aG (!b) (Zp (Zh [Zq [],Zz .i64 103],[])) (aG (!Zn kv 255) (Zp (Zh [Zq [],Zz .i64 104],[])) (aG (Zj ((↑(Zu tk):Int)>255)) (Zp (Zh [Zq [],Zz .i64 105],[])) (aG (Zj ((↑(Zu au):Int)>255)) (Zp (Zh [Zq [],Zz .i64 105],[])) (aG mu (Zy (aD (Zj (Zu (Xk 4 li)<=70368744177664)) (Zp (Xw (Xk 4 li++Yj kv 1 Yw),[]))) (kO fun l=>Zy (aD (Zj (Zu l+Zu rl<=70368744177664)) (Zp (Xw (Kerb.bw l rl),[]))) (kO fun l=>Zy (aD (Zj (Zu l<=70368744177664)) (Zp (Xw (l++Yj (↑(Zu tk):Int) 1 Yw),[]))) (kO fun l=>Zy (aD (Zj (Zu l<=70368744177664)) (Zp (Xw (l++Yj (↑(Zu au):Int) 1 Yw),[]))) (kO fun l=>Zy (aD (Zj (Zu (Yy l (Yy tk (Yy au [])))<=140737488355328)&&Zj (Zu [Zq l,Zq tk,Zq au]<=1000)) (Zp (Xw (Yy l (Yy tk (Yy au []))),[]))) (kO fun l=>Zp (Zh [Zq l,Zz .i64 0],[]))))))) (Zy (aD (Zj (Zu (Xk 3 li)<=70368744177664)) (Zp (Xw (Xk 3 li++Yj kv 1 Yw),[]))) (kO fun l=>Zy (aD (Zj (Zu l+Zu rl<=70368744177664)) (Zp (Xw (Kerb.bw l rl),[]))) (kO fun l=>Zy (aD (Zj (Zu l<=70368744177664)) (Zp (Xw (l++Yj (↑(Zu tk):Int) 1 Yw),[]))) (kO fun l=>Zy (aD (Zj (Zu l<=70368744177664)) (Zp (Xw (l++Yj (↑(Zu au):Int) 1 Yw),[]))) (kO fun l=>Zy (aD (Zj (Zu (Yy l (Yy tk (Yy au [])))<=140737488355328)&&Zj (Zu [Zq l,Zq tk,Zq au]<=1000)) (Zp (Xw (Yy l (Yy tk (Yy au []))),[]))) (kO fun l=>Zp (Zh [Zq l,Zz .i64 0],[]))))))))))))) (by kernel_rfl) ?_;delta kO kL;dsimp only[c7];simp only[A0,Xy,Xu,Kerb.eU.av,aC];unfold Kerb.bf;simp only;cases h1:Kerb.dI rl
 ·rfl
 rw[Zd,aF,Qa0 (by simp)];cases h2:Zn kv 255
 ·rfl
 rw[Zd,aF,Qa0 (by simp)];by_cases h3:255<tk.length
 ·rw[af (by simp;omega),Qa1 (.inl h3)]
 rw[ai (by simp;omega)];by_cases h4:255<au.length
 ·rw[af (by simp;omega),Qa1 (.inr h4)]
 rw[ai (by simp;omega),Qa0 (by omega)];have l1:=Kerb.gf h1;have g3:=Kerb.km 3 li;have g4:=Kerb.km 4 li;cases mu
 ·rw[aF,ae (by simp;omega),ae (by simp[Yz];omega),ae (by simp[Yz,Kerb.bX];omega),ae (by simp[Yz,Kerb.bX];omega),ae (by simp[Yz,Kerb.bX];omega)];simp
 ·rw[cc,ae (by simp;omega),ae (by simp[Yz];omega),ae (by simp[Yz,Kerb.bX];omega),ae (by simp[Yz,Kerb.bX];omega),ae (by simp[Yz,Kerb.bX];omega)];simp
theorem ady:Wk 209 7 nD:=by
 refine cC Tryz.func209 rfl fun xs bl r h=> ?_;unfold nD at h;split at h;case h_2=>cases h
 rename_i a b c;obtain⟨aC,rfl⟩:=dj h;refine cA (Zy (uL [Zx a] []) (kL fun bT=>aG bT (Zy (rK [Zx b] []) (kL fun b=>aG b (Zy (Cd [Zx c] []) (kL fun b=>Zp (Zv b,[]))) (Zp (Zv Yw,[])))) (Zp (Zv Yw,[])))) (by kernel_rfl) ?_;delta kL;dsimp only[Cd,uL,rK,aJ,aV,ar,c9,ag,cL,c7];simp only[Zk,Qa2] at aC;simp only[A0];rw[ae (by simp;omega),ae (by simp;omega),ae (by simp;omega)];simp only[Kerb.bn.valid];cases Wx a<;>cases Kerb.cl b<;>rfl
theorem aeb:Nu Tryz.prog G 259 7 [.sl 1,.int .i64,.int .i64,.int .i64] uF:=by
 refine⟨fun xs bl=> ?_,Tryz.f259,Tryz.func259,by decide +kernel,rfl,fun zX xs bl r h=> ?_⟩
 ·cases h:uF 0 xs bl with
  | none=>rfl
  | some r =>
   unfold uF at h;split at h
   ·obtain⟨aC,_⟩:=aM h;simp only[Zk,Qa2] at aC;omega
   ·cases h
 unfold uF at h;split at h
 ·rename_i a b l els;obtain⟨aC,h2⟩:=aM h;cases h2;show dT ((G.cut 259 7 [.sl 1,.int .i64,.int .i64,.int .i64] (uF zX)).env 259 8) G.rts (G.own 259) Tryz.f259 _ _ [0]=_
  refine Qb3 (b:=(Zy (bJ (fun st=>aA st fun x r=>AV.aW x fun y=>ag .i64 r fun n r=>ag .i64 r fun bh r=>ag .i64 r fun bG r=>ar r fun b r=>ar r fun bT r=>ak r (aG (Zj (Zw .i64 (bh-n)<=12)) (Zy (IA [Xn 0 27 1,Zz .i64 n,Zz .i64 bh] [(0,y)]) fun(r:AV×aw)=>aB (Zg r) fun(x:List AV) (dq:List (List AV))=>aE dq (AV.gT (Zb r) fun vs=>ak vs (Zp (Sum.inr (Ex.ret,[Xz x,Zz .i64 n,Zz .i64 bh,Zz .i64 bG,Zv b,Zv bT]))))) (aG (bG==0) (Zy (IB [Xn 0 27 1,Zz .i64 n,Zz .i64 bh] [(0,y)]) fun(r:AV×aw)=>aB (Zg r) fun(x:List AV) (dq:List (List AV))=>aE dq (AV.gT (Zb r) fun vs=>ak vs (Zp (Sum.inr (Ex.ret,[Xz x,Zz .i64 n,Zz .i64 bh,Zz .i64 bG,Zv b,Zv bT]))))) (Zy (aG (!b) (Zy (IC [Xn 0 27 1,Zz .i64 n,Zz .i64 bh] [(0,y)]) fun(r:AV×aw)=>aB (Zg r) fun(x:List AV) (dq:List (List AV))=>aE dq (AV.gT (Zb r) fun vs=>ak vs (Zp [Xz x,Zz .i64 n,Zz .i64 bh,Zz .i64 (Zw .i64 (bG-1)),Zv b,Zv bT,Zz .i64 (Zw .i64 (bh-n))]))) (Zp [Xz y,Zz .i64 n,Zz .i64 bh,Zz .i64 bG,Zv b,Zv bT,Zz .i64 (Zw .i64 (bh-n))])) fun l=>aA l fun x r=>AV.aW x fun y=>ag .i64 r fun n r=>ag .i64 r fun dd r=>ag .i64 r fun bR r=>ar r fun b r=>ar r fun dV r=>ag .i64 r fun bM r=>ak r (Zy (ID [Xn 0 27 1,Zz .i64 n,Zz .i64 dd] [(0,y)]) fun(r:AV×aw)=>aB (Zg r) fun(x:List AV) (dq:List (List AV))=>aE dq (AV.gT (Zb r) fun vs=>aA vs fun x_1 r=>Xv .i64 x_1 fun fV=>aA r fun x_2 r=>Xv .i64 x_2 fun fM=>ak r (Zy (aG (fM==2) (Zy (IE [Xn 0 27 1,Zz .i64 n,Zz .i64 dd] [(0,x)]) fun(r:AV×aw)=>aB (Zg r) fun(x:List AV) (dA:List (List AV))=>aE dA (AV.gT (Zb r) fun vs=>ak vs (Zp [Xz x,Zz .i64 n,Zz .i64 dd,Zz .i64 bR,Zv b,Zv dV,Zz .i64 bM,Zz .i64 (Zw .i64 (Zw .i64 (dd-1)-Zw .i64 (fV-n))),Zz .i64 1]))) (Zp [Xz x,Zz .i64 n,Zz .i64 dd,Zz .i64 bR,Zv b,Zv dV,Zz .i64 bM,Zz .i64 fV,Zz .i64 fM])) fun l=>aA l fun x r=>AV.aW x fun y=>ag .i64 r fun n r=>ag .i64 r fun ie r=>ag .i64 r fun lj r=>ar r fun b r=>ar r fun eA r=>ag .i64 r fun kq r=>ag .i64 r fun gP r=>ag .i64 r fun iE r=>ak r (Zy (aG b (aG eA (Zp [Xz y,Zz .i64 n,Zz .i64 ie,Zz .i64 lj,Zv b,Zv eA,Zz .i64 kq,Zz .i64 gP,Zv (iE==1)]) (Zp [Xz y,Zz .i64 n,Zz .i64 ie,Zz .i64 lj,Zv b,Zv eA,Zz .i64 kq,Zz .i64 gP,Zv Yw])) (Zp [Xz y,Zz .i64 n,Zz .i64 ie,Zz .i64 lj,Zv b,Zv eA,Zz .i64 kq,Zz .i64 gP,Zv Yw])) fun l=>aA l fun x r=>AV.aW x fun y=>ag .i64 r fun n r=>ag .i64 r fun gJ r=>ag .i64 r fun bE r=>ar r fun b r=>ar r fun fg r=>ag .i64 r fun iV r=>ag .i64 r fun f_ r=>ar r fun gh r=>ak r (aG gh (Zy (Zy (IF [Xn 0 27 1,Zz .i64 n,Zz .i64 gJ] [(0,y)]) fun(r:AV×aw)=>aB (Zg r) fun(x:List AV) (dA:List (List AV))=>aE dA (AV.dD (Zb r) fun gS=>Zp [Xz x,Zz .i64 n,Zz .i64 gJ,Zz .i64 bE,Zv b,Zv fg,Zz .i64 iV,Zz .i64 f_,Zv gS])) fun l=>aA l fun x r=>AV.aW x fun y=>ag .i64 r fun n r=>ag .i64 r fun dS r=>ag .i64 r fun bO r=>ar r fun b r=>ar r fun gS r=>ag .i64 r fun qH r=>ag .i64 r fun qI r=>ar r fun gH r=>ak r (aG gH (Zp (Sum.inr (Ex.ret,[Xz y,Zz .i64 n,Zz .i64 dS,Zz .i64 bO,Zv b,Zv gS]))) (Zy (aG (Zj (n>0)) (aD (Zj (0<=Zw .i64 (n-1))&&Zj (Zw .i64 (n-1)<(↑(Zu y):Int))&&Yk) (aD (Nat.blt (Yb (Zw .i64 (n-1))) (Zu y)&&Yk) (Xv .u64 (List.getD y (Yb (Zw .i64 (n-1))) AV.undef) fun jv=>aD (Zj (0<=qI)&&Zj (qI<(↑(Zu y):Int))&&Yk) (aD (Nat.blt (Yb qI) (Zu y)&&Yk) (Xv .u64 (List.getD y (Yb qI) AV.undef) fun vm=>Zp [Xz y,Zz .i64 n,Zz .i64 dS,Zz .i64 bO,Zv b,Zv gS,Zz .i64 qH,Zz .i64 qI,Zv !Zj (jv<vm)]))))) (Zp [Xz y,Zz .i64 n,Zz .i64 dS,Zz .i64 bO,Zv b,Zv gS,Zz .i64 qH,Zz .i64 qI,Zv Yw])) fun l=>aA l fun x r=>AV.aW x fun y=>ag .i64 r fun n r=>ag .i64 r fun jv r=>ag .i64 r fun vm r=>ar r fun b r=>ar r fun ja r=>ag .i64 r fun O5 r=>ag .i64 r fun O6 r=>ar r fun jb r=>ak r (aG jb (Zy (D9 [Xn 0 27 1,Zz .i64 n,Zz .i64 jv,Zz .i64 O6] [(0,y)]) fun(r:AV×aw)=>aB (Zg r) fun(x:List AV) (dA:List (List AV))=>aE dA (Xv .i64 (Zb r) fun n=>Zp (Wy [Xz x,Zz .i64 n,Zz .i64 jv,Zz .i64 vm,Zv b,Zv ja]))) (Zy (D_ [Xn 0 27 1,Zz .i64 n,Zz .i64 jv,Zz .i64 O6] [(0,y)]) fun(r:AV×aw)=>aB (Zg r) fun(x:List AV) (dA:List (List AV))=>aE dA (AV.gT (Zb r) fun vs=>aA vs fun x_3 r=>Xv .i64 x_3 fun Hm=>aA r fun x_4 r=>AV.dD x_4 fun b=>ak r (aG (Zj (Zw .i64 (Hm-n)<Zw .i64 (jv-Hm))) (Zy (uF zX [Xn 0 27 1,Zz .i64 n,Zz .i64 Hm,Zz .i64 vm] [(0,x)]) fun(r:AV×aw)=>aB (Zg r) fun(x:List AV) (dJ:List (List AV))=>aE dJ (AV.gT (Zb r) fun vs=>ak vs (Zp (Wy [Xz x,Zz .i64 (Zw .i64 (Hm+1)),Zz .i64 jv,Zz .i64 vm,Zv (Zj (Zw .i64 (Hm-n)>=Zw .i64 (Xx O5 8))),Zv b])))) (Zy (uF zX [Xn 0 27 1,Zz .i64 (Zw .i64 (Hm+1)),Zz .i64 jv,Zz .i64 vm] [(0,x)]) fun(r:AV×aw)=>aB (Zg r) fun(x:List AV) (dJ:List (List AV))=>aE dJ (AV.gT (Zb r) fun vs=>ak vs (Zp (Wy [Xz x,Zz .i64 n,Zz .i64 Hm,Zz .i64 vm,Zv (Zj (Zw .i64 (jv-Hm)>=Zw .i64 (Xx O5 8))),Zv b]))))))))))) (Zy (aG (Zj (n>0)) (aD (Zj (0<=Zw .i64 (n-1))&&Zj (Zw .i64 (n-1)<(↑(Zu y):Int))&&Yk) (aD (Nat.blt (Yb (Zw .i64 (n-1))) (Zu y)&&Yk) (Xv .u64 (List.getD y (Yb (Zw .i64 (n-1))) AV.undef) fun dS=>aD (Zj (0<=f_)&&Zj (f_<(↑(Zu y):Int))&&Yk) (aD (Nat.blt (Yb f_) (Zu y)&&Yk) (Xv .u64 (List.getD y (Yb f_) AV.undef) fun bO=>Zp [Xz y,Zz .i64 n,Zz .i64 gJ,Zz .i64 bE,Zv b,Zv fg,Zz .i64 iV,Zz .i64 f_,Zv !Zj (dS<bO)]))))) (Zp [Xz y,Zz .i64 n,Zz .i64 gJ,Zz .i64 bE,Zv b,Zv fg,Zz .i64 iV,Zz .i64 f_,Zv Yw])) fun l=>aA l fun x r=>AV.aW x fun y=>ag .i64 r fun n r=>ag .i64 r fun dS r=>ag .i64 r fun bO r=>ar r fun b r=>ar r fun gS r=>ag .i64 r fun qH r=>ag .i64 r fun qI r=>ar r fun gH r=>ak r (aG gH (Zy (D9 [Xn 0 27 1,Zz .i64 n,Zz .i64 dS,Zz .i64 qI] [(0,y)]) fun(r:AV×aw)=>aB (Zg r) fun(x:List AV) (dA:List (List AV))=>aE dA (Xv .i64 (Zb r) fun n=>Zp (Wy [Xz x,Zz .i64 n,Zz .i64 dS,Zz .i64 bO,Zv b,Zv gS]))) (Zy (D_ [Xn 0 27 1,Zz .i64 n,Zz .i64 dS,Zz .i64 qI] [(0,y)]) fun(r:AV×aw)=>aB (Zg r) fun(x:List AV) (dA:List (List AV))=>aE dA (AV.gT (Zb r) fun vs=>aA vs fun x_3 r=>Xv .i64 x_3 fun jv=>aA r fun x_4 r=>AV.dD x_4 fun b=>ak r (aG (Zj (Zw .i64 (jv-n)<Zw .i64 (dS-jv))) (Zy (uF zX [Xn 0 27 1,Zz .i64 n,Zz .i64 jv,Zz .i64 bO] [(0,x)]) fun(r:AV×aw)=>aB (Zg r) fun(x:List AV) (dJ:List (List AV))=>aE dJ (AV.gT (Zb r) fun vs=>ak vs (Zp (Wy [Xz x,Zz .i64 (Zw .i64 (jv+1)),Zz .i64 dS,Zz .i64 bO,Zv (Zj (Zw .i64 (jv-n)>=Zw .i64 (Xx qH 8))),Zv b])))) (Zy (uF zX [Xn 0 27 1,Zz .i64 (Zw .i64 (jv+1)),Zz .i64 dS,Zz .i64 bO] [(0,x)]) fun(r:AV×aw)=>aB (Zg r) fun(x:List AV) (dJ:List (List AV))=>aE dJ (AV.gT (Zb r) fun vs=>ak vs (Zp (Wy [Xz x,Zz .i64 n,Zz .i64 jv,Zz .i64 bO,Zv (Zj (Zw .i64 (dS-jv)>=Zw .i64 (Xx qH 8))),Zv b])))))))))))))))))) [Xz els,Zz .i64 a,Zz .i64 b,Zz .i64 l,Zv Yk,Zv Yk]) fun(r:Ex×List AV)=>aA (Zg r) fun x dq=>AV.aW x fun y=>ag .i64 dq fun n dA=>ag .i64 dA fun n dJ=>ag .i64 dJ fun n eI=>ar eI fun b fI=>ar fI fun b ga=>ak ga (jW r.1 (Zp (Zh [],[y])) fun(j:Nat)=>none):Option (AV×aw))) (by kernel_rfl) ?_
  dsimp only[uF,IA,IB,IC,ID,IE,IF,D9,D_,aJ,aV,ar,c9,ag,cL,c7];simp only[Xp,Zk,Qa2] at aC;obtain⟨⟨⟨⟨⟨⟨⟨iq,hlen⟩,IW⟩,wC⟩,hb⟩,U9⟩,AX⟩,Tv⟩:=aC;obtain⟨d,rfl,hd⟩:=Kerb.m7 iq;simp only[Ym] at hlen hb;obtain⟨a,rfl⟩:=Xq (show 0<=a by omega);obtain⟨b,rfl⟩:=Xq (show 0<=b by omega);obtain⟨l,rfl⟩:=Xq (show 0<=l by omega);rw[Kerb.rC];obtain⟨P0,hP⟩:∃ P0,P0=Go.Sort.pdq Go.Sort.ltInt d a b l Yk Yk:=⟨_,rfl⟩;rw[<-hP];refine bW (fun s:Array Int×Nat×Nat×Nat×Bool×Bool=>[Xz (Xg s.1),Zz .i64 (s.2.1:Int),Zz .i64 (s.2.2.1:Int),Zz .i64 (s.2.2.2.1:Int),Zv s.2.2.2.2.1,Zv s.2.2.2.2.2]) (fun s=>s.1.size=d.size/\s.2.1<=s.2.2.1/\s.2.2.1<=d.size/\s.2.2.2.1<=64/\s.2.2.1-s.2.1<=zX/\Go.Sort.pdq Go.Sort.ltInt s.1 s.2.1 s.2.2.1 s.2.2.2.1 s.2.2.2.2.1 s.2.2.2.2.2=P0) (fun s=>s.2.2.1-s.2.1) (fun r=>∃ n1 n2 n3 b1 b2,r=(.ret,[Xz (Xg P0),Zz .i64 n1,Zz .i64 n2,Zz .i64 n3,Zv b1,Zv b2])) (d,a,b,l,Yk,Yk) ⟨rfl,by dsimp only;omega,by dsimp only;omega,by dsimp only;omega,by dsimp only;omega,hP.symm⟩ rfl ?_ ?_
  ·clear hP wC U9 AX Tv IW hb;rintro⟨e,a,b,l,wB,wP⟩ ⟨hs,wC,hb,hl,Tv,hr⟩;dsimp only at hs wC hb hl Tv hr ⊢;simp only[↓bQ,↓cw,↓dg,↓dM,↓dr];rw[show Zw .i64 ((b:Int)-(a:Int))=((b-a:Nat):Int) from(Yn (by omega) (by omega)).trans (by omega)];rw[Kerb.ze] at hr;by_cases V2:b-a<=12
   ·rw[Qa1 V2] at hr;rw[af (by simp;omega),ae (by simp only[Xp,Yh,Ym,Zk,Qa2,Qa9,Qa8];omega)];simp only[↓gq,↓fe,↓bQ,↓cw,↓gY,↓k8,↓dg,↓dM,↓dr];rw[Kerb.OD,hr];exact⟨_,rfl,_,_,_,_,_,rfl⟩
   rw[Qa0 V2] at hr;rw[ai (by simp;omega)];by_cases U9:l=0
   ·rw[Qa1 U9] at hr;rw[af (by simp;omega),ae (by simp only[Xp,Yh,Ym,Zk,Qa2,Qa9,Qa8];omega)];simp only[↓gq,↓fe,↓bQ,↓cw,↓gY,↓k8,↓dg,↓dM,↓dr];rw[Kerb.LS,hr];exact⟨_,rfl,_,_,_,_,_,rfl⟩
   rw[Qa0 U9] at hr;rw[ai (by simp;omega)];obtain⟨d1,Tu⟩:∃ d1,d1=(if (!wB)=Yk then Go.Sort.breakPatterns e a b else e):=⟨_,rfl⟩;obtain⟨l1,AX⟩:∃ l1,l1=(if (!wB)=Yk then l-1 else l):=⟨_,rfl⟩;rw[<-Tu,<-AX] at hr;refine Kerb.xf (v:=[Xz (Xg d1),Zz .i64 (a:Int),Zz .i64 (b:Int),Zz .i64 (l1:Int),Zv wB,Zv wP,Zz .i64 ((b-a:Nat):Int)]) ?_ ?_
   ·cases wB
    ·rw[Qa1 (show(!Yw)=Yk from rfl)] at Tu AX;rw[af (show(!Yw)=Yk from rfl),ae (by simp only[Xp,Yh,Ym,Zk,Qa2,Qa9,Qa8];omega)];simp only[↓gq,↓fe,↓bQ,↓cw,↓gY,↓k8,↓dg,↓dM,↓dr];rw[Kerb.I',Tu,AX,show Zw .i64 ((l:Int)-1)=((l-1:Nat):Int) from(Yn (by omega) (by omega)).trans (by omega)]
    ·rw[Qa0 (by decide)] at Tu AX;rw[ai (show(!Yk)=Yw from rfl),Tu,AX]
   have s1:d1.size=d.size:=by
    rw[Tu];split
    ·rw[Kerb.Az wC (by omega),hs]
    ·exact hs
   have agW:l1<=64:=by
    rw[AX];split<;>omega
   clear Tu AX;simp only[↓bQ,↓cw,↓dg,↓dM,↓dr];rw[ae (by simp only[Xp,Yh,Ym,Zk,Qa2,Qa9,Qa8];omega)];simp only[↓gq,↓fe,↓bQ,↓cw,↓gY,↓k8,↓dg,↓dM,↓dr];rw[Kerb.MH];unfold Kerb.Oh at hr;have hc:=Go.Sort.choosePivot_holds Go.Sort.ltInt d1 a b (by omega);generalize Go.Sort.choosePivot Go.Sort.ltInt d1 a b=c at hc hr ⊢;obtain⟨d2,Od⟩:∃ d2,d2=(if c.2 = .decreasing then Go.Sort.reverseRange d1 a b else d1):=⟨_,rfl⟩;obtain⟨pv,SE⟩:∃ pv,pv=(if c.2 = .decreasing then(b-1)-(c.1-a) else c.1):=⟨_,rfl⟩;obtain⟨ht,U6⟩:∃ ht,ht=(if c.2 = .decreasing then Go.Sort.Hint.increasing else c.2):=⟨_,rfl⟩;rw[<-Od,<-SE,<-U6] at hr;refine Kerb.xf (v:=[Xz (Xg d2),Zz .i64 (a:Int),Zz .i64 (b:Int),Zz .i64 (l1:Int),Zv wB,Zv wP,Zz .i64 ((b-a:Nat):Int),Zz .i64 (pv:Int),Zz .i64 (Kerb.GQ ht)]) ?_ ?_
   ·rw[Kerb.LW];by_cases hd:c.2 = .decreasing
    ·rw[Qa1 hd] at Od SE U6;rw[af (by simpa using hd),ae (by simp only[Xp,Yh,Ym,Zk,Qa2,Qa9,Qa8];omega)];simp only[↓gq,↓fe,↓bQ,↓cw,↓gY,↓k8,↓dg,↓dM,↓dr];rw[Kerb.Pp,Od,SE,U6,show Zw .i64 ((b:Int)-1)=((b-1:Nat):Int) from(Yn (by omega) (by omega)).trans (by omega),show Zw .i64 ((c.1:Int)-(a:Int))=((c.1-a:Nat):Int) from(Yn (by omega) (by omega)).trans (by omega),show Zw .i64 (((b-1:Nat):Int)-((c.1-a:Nat):Int))=((b-1-(c.1-a):Nat):Int) from(Yn (by omega) (by omega)).trans (by omega)];rfl
    ·rw[Qa0 hd] at Od SE U6;rw[ai (by simpa using hd),Od,SE,U6]
   have s2:d2.size=d.size:=by
    rw[Od];split
    ·rw[Kerb.HL wC (by omega),s1]
    ·exact s1
   have Ac:a<=pv:=by
    rw[SE];split<;>omega
   have AY:pv<b:=by
    rw[SE];split<;>omega
   clear Od SE U6;simp only[↓bQ,↓cw,↓dg,↓dM,↓dr];obtain⟨q,hq⟩:∃ q,q=(wB&&wP&&Zj (ht = .increasing)):=⟨_,rfl⟩;unfold Kerb.Ud at hr;rw[<-hq] at hr;refine Kerb.xf (v:=[Xz (Xg d2),Zz .i64 (a:Int),Zz .i64 (b:Int),Zz .i64 (l1:Int),Zv wB,Zv wP,Zz .i64 ((b-a:Nat):Int),Zz .i64 (pv:Int),Zv q]) ?_ ?_
   ·rw[hq,Kerb.LX];cases wB<;>cases wP<;>simp[aG]
   simp only[↓bQ,↓cw,↓dg,↓dM,↓dr];by_cases Y9:q=Yk
   ·simp only[Qa1 Y9] at hr;rw[af Y9,ae (by simp only[Xp,Yh,Ym,Zk,Qa2,Qa9,Qa8];omega)];simp only[↓gq,↓fe,↓bQ,↓cw,↓gY,↓k8,↓dg,↓dM,↓dr];rw[Kerb.HC];have s3:(Go.Sort.partialInsertionSort Go.Sort.ltInt d2 a b).1.size=d.size:=by
     unfold Go.Sort.partialInsertionSort;rw[Kerb.sR,s2]
    generalize Go.Sort.partialInsertionSort Go.Sort.ltInt d2 a b=pi at s3 hr ⊢;obtain⟨d3,dn⟩:=pi;dsimp only at s3 hr ⊢;by_cases Y4:dn=Yk
    ·rw[Qa1 Y4] at hr;rw[af Y4,hr];exact⟨_,rfl,_,_,_,_,_,rfl⟩
    rw[Qa0 Y4] at hr;rw[ai (by simpa using Y4)];have vV:=hr;obtain⟨cB,Tt⟩:∃ cB,cB=(Zj (a>0) && !Go.Sort.ltInt d3[a-1]! d3[pv]!):=⟨_,rfl⟩;rw[Kerb.Cm Ac AY (by omega),<-Tt] at vV;refine Kerb.xf (v:=[Xz (Xg d3),Zz .i64 (a:Int),Zz .i64 (b:Int),Zz .i64 (l1:Int),Zv wB,Zv wP,Zz .i64 ((b-a:Nat):Int),Zz .i64 (pv:Int),Zv cB]) ?_ ?_
    ·by_cases a0:a>0
     ·have g1:a-1<d3.size:=by omega
      have g2:pv<d3.size:=by omega
      rw[af (by simp;omega)];simp only[show Zw .i64 ((a:Int)-1)=((a-1:Nat):Int) from(Yn (by omega) (by omega)).trans (by omega)];rw[Kerb.rd g1,Kerb.rd g2,Tt];simp[a0,Go.Sort.ltInt]
     ·rw[ai (by simp;omega),Tt];simp[a0]
    simp only[↓bQ,↓cw,↓dg,↓dM,↓dr];by_cases CM:cB=Yk
    ·rw[Qa1 CM] at vV;rw[af CM,ae (by simp only[Xp,Yh,Ym,Zk,Qa2,Qa9,Qa8];omega)];simp only[↓gq,↓fe,↓bQ,↓cw,↓gY,↓k8,↓dg,↓dM,↓dr];rw[Kerb.wl];have e:=Kerb.oX Ac AY (show b<=d3.size by omega);generalize Go.Sort.partitionEqual Go.Sort.ltInt d3 a b pv=x at e vV ⊢;exact⟨_,rfl,(x.2,x.1,b,l1,wB,wP),rfl,⟨by dsimp only;omega,by dsimp only;omega,by dsimp only;omega,by dsimp only;omega,by dsimp only;omega,vV⟩,by dsimp only;omega⟩
    rw[Qa0 CM] at vV;rw[ai (by simpa using CM),ae (by simp only[Xp,Yh,Ym,Zk,Qa2,Qa9,Qa8];omega)];simp only[↓gq,↓fe,↓bQ,↓cw,↓gY,↓k8,↓dg,↓dM,↓dr];simp only[Kerb.BB];have p:=Kerb.sq Ac AY (show b<=d3.size by omega);generalize Go.Sort.partition Go.Sort.ltInt d3 a b pv=x at p vV ⊢;obtain⟨m,ap,d4⟩:=x;dsimp only at p vV ⊢;obtain⟨p1,p2,p3⟩:=p;rw[show Zw .i64 ((m:Int)-(a:Int))=((m-a:Nat):Int) from(Yn (by omega) (by omega)).trans (by omega),show Zw .i64 ((b:Int)-(m:Int))=((b-m:Nat):Int) from(Yn (by omega) (by omega)).trans (by omega)];have ht:Zw .i64 (Xx ((b-a:Nat):Int) 8)=(((b-a) / 8:Nat):Int):=Yn (n:=(((b-a) / 8:Nat):Int)) (by omega) (by omega);simp only[show Zw .i64 ((m:Int)+1)=((m+1:Nat):Int) from(Yn (by omega) (by omega)).trans (by omega),ht];by_cases hm:m-a<b-m
    ·rw[Qa1 hm] at vV;rw[af (by simp;omega),ae (by simp only[Xp,Yh,Ym,Zk,Qa2,Qa9,Qa8];omega)];simp only[↓gq,↓fe,↓bQ,↓cw,↓gY,↓k8,↓dg,↓dM,↓dr];simp only[Kerb.rC];have TZ:=Kerb.uj _ d4 a m l1 Yk Yk (Nat.le_refl _) p1 (by omega);generalize Go.Sort.pdq Go.Sort.ltInt d4 a m l1 Yk Yk=d5 at TZ vV ⊢;refine⟨_,rfl,(d5,m+1,b,l1,Zj (m-a>=(b-a) / 8),ap),?_,⟨by dsimp only;omega,by dsimp only;omega,by dsimp only;omega,by dsimp only;omega,by dsimp only;omega,vV⟩,by dsimp only;omega⟩;dsimp only;rw[show(Zj (((m-a:Nat):Int)>=(((b-a) / 8:Nat):Int)))=Zj (m-a>=(b-a) / 8) from decide_eq_decide.mpr (by omega)]
    ·rw[Qa0 hm] at vV;rw[ai (by simp;omega),ae (by simp only[Xp,Yh,Ym,Zk,Qa2,Qa9,Qa8];omega)];simp only[↓gq,↓fe,↓bQ,↓cw,↓gY,↓k8,↓dg,↓dM,↓dr];simp only[Kerb.rC];have TZ:=Kerb.uj _ d4 (m+1) b l1 Yk Yk (Nat.le_refl _) (by omega) (by omega);generalize Go.Sort.pdq Go.Sort.ltInt d4 (m+1) b l1 Yk Yk=d5 at TZ vV ⊢;refine⟨_,rfl,(d5,a,m,l1,Zj (b-m>=(b-a) / 8),ap),?_,⟨by dsimp only;omega,by dsimp only;omega,by dsimp only;omega,by dsimp only;omega,by dsimp only;omega,vV⟩,by dsimp only;omega⟩;dsimp only;rw[show(Zj (((b-m:Nat):Int)>=(((b-a) / 8:Nat):Int)))=Zj (b-m>=(b-a) / 8) from decide_eq_decide.mpr (by omega)]
   ·simp only[Qa0 Y9] at hr;rw[Qa0 (by decide)] at hr;rw[ai (by simpa using Y9)];have s3:=s2;revert hr s3;generalize d2=d3;intro vV s3;obtain⟨cB,Tt⟩:∃ cB,cB=(Zj (a>0) && !Go.Sort.ltInt d3[a-1]! d3[pv]!):=⟨_,rfl⟩;rw[Kerb.Cm Ac AY (by omega),<-Tt] at vV;refine Kerb.xf (v:=[Xz (Xg d3),Zz .i64 (a:Int),Zz .i64 (b:Int),Zz .i64 (l1:Int),Zv wB,Zv wP,Zz .i64 ((b-a:Nat):Int),Zz .i64 (pv:Int),Zv cB]) ?_ ?_
    ·by_cases a0:a>0
     ·have g1:a-1<d3.size:=by omega
      have g2:pv<d3.size:=by omega
      rw[af (by simp;omega)];simp only[show Zw .i64 ((a:Int)-1)=((a-1:Nat):Int) from(Yn (by omega) (by omega)).trans (by omega)];rw[Kerb.rd g1,Kerb.rd g2,Tt];simp[a0,Go.Sort.ltInt]
     ·rw[ai (by simp;omega),Tt];simp[a0]
    simp only[↓bQ,↓cw,↓dg,↓dM,↓dr];by_cases CM:cB=Yk
    ·rw[Qa1 CM] at vV;rw[af CM,ae (by simp only[Xp,Yh,Ym,Zk,Qa2,Qa9,Qa8];omega)];simp only[↓gq,↓fe,↓bQ,↓cw,↓gY,↓k8,↓dg,↓dM,↓dr];rw[Kerb.wl];have e:=Kerb.oX Ac AY (show b<=d3.size by omega);generalize Go.Sort.partitionEqual Go.Sort.ltInt d3 a b pv=x at e vV ⊢;exact⟨_,rfl,(x.2,x.1,b,l1,wB,wP),rfl,⟨by dsimp only;omega,by dsimp only;omega,by dsimp only;omega,by dsimp only;omega,by dsimp only;omega,vV⟩,by dsimp only;omega⟩
    rw[Qa0 CM] at vV;rw[ai (by simpa using CM),ae (by simp only[Xp,Yh,Ym,Zk,Qa2,Qa9,Qa8];omega)];simp only[↓gq,↓fe,↓bQ,↓cw,↓gY,↓k8,↓dg,↓dM,↓dr];simp only[Kerb.BB];have p:=Kerb.sq Ac AY (show b<=d3.size by omega);generalize Go.Sort.partition Go.Sort.ltInt d3 a b pv=x at p vV ⊢;obtain⟨m,ap,d4⟩:=x;dsimp only at p vV ⊢;obtain⟨p1,p2,p3⟩:=p;rw[show Zw .i64 ((m:Int)-(a:Int))=((m-a:Nat):Int) from(Yn (by omega) (by omega)).trans (by omega),show Zw .i64 ((b:Int)-(m:Int))=((b-m:Nat):Int) from(Yn (by omega) (by omega)).trans (by omega)];have ht:Zw .i64 (Xx ((b-a:Nat):Int) 8)=(((b-a) / 8:Nat):Int):=Yn (n:=(((b-a) / 8:Nat):Int)) (by omega) (by omega);simp only[show Zw .i64 ((m:Int)+1)=((m+1:Nat):Int) from(Yn (by omega) (by omega)).trans (by omega),ht];by_cases hm:m-a<b-m
    ·rw[Qa1 hm] at vV;rw[af (by simp;omega),ae (by simp only[Xp,Yh,Ym,Zk,Qa2,Qa9,Qa8];omega)];simp only[↓gq,↓fe,↓bQ,↓cw,↓gY,↓k8,↓dg,↓dM,↓dr];simp only[Kerb.rC];have TZ:=Kerb.uj _ d4 a m l1 Yk Yk (Nat.le_refl _) p1 (by omega);generalize Go.Sort.pdq Go.Sort.ltInt d4 a m l1 Yk Yk=d5 at TZ vV ⊢;refine⟨_,rfl,(d5,m+1,b,l1,Zj (m-a>=(b-a) / 8),ap),?_,⟨by dsimp only;omega,by dsimp only;omega,by dsimp only;omega,by dsimp only;omega,by dsimp only;omega,vV⟩,by dsimp only;omega⟩;dsimp only;rw[show(Zj (((m-a:Nat):Int)>=(((b-a) / 8:Nat):Int)))=Zj (m-a>=(b-a) / 8) from decide_eq_decide.mpr (by omega)]
    ·rw[Qa0 hm] at vV;rw[ai (by simp;omega),ae (by simp only[Xp,Yh,Ym,Zk,Qa2,Qa9,Qa8];omega)];simp only[↓gq,↓fe,↓bQ,↓cw,↓gY,↓k8,↓dg,↓dM,↓dr];simp only[Kerb.rC];have TZ:=Kerb.uj _ d4 (m+1) b l1 Yk Yk (Nat.le_refl _) (by omega) (by omega);generalize Go.Sort.pdq Go.Sort.ltInt d4 (m+1) b l1 Yk Yk=d5 at TZ vV ⊢;refine⟨_,rfl,(d5,a,m,l1,Zj (b-m>=(b-a) / 8),ap),?_,⟨by dsimp only;omega,by dsimp only;omega,by dsimp only;omega,by dsimp only;omega,by dsimp only;omega,vV⟩,by dsimp only;omega⟩;dsimp only;rw[show(Zj (((b-m:Nat):Int)>=(((b-a) / 8:Nat):Int)))=Zj (b-m>=(b-a) / 8) from decide_eq_decide.mpr (by omega)]
  ·rintro _ ⟨n1,n2,n3,b1,b2,rfl⟩;simp only[↓bQ,↓cw,↓dg,↓dM,↓dr,↓R_]
 ·cases h
theorem w14:Wk 14 8 Kc:=by
 refine cC Tryz.func14 rfl fun xs bl r h=> ?_;unfold Kc at h;split at h;case h_2=>cases h
 rename_i kd bx se gW de li hw;obtain⟨aC,rfl⟩:=dj h
 refine cA (let t2:Int:=Zw .i64 (1+Xf (Zw .i64 (↑(Yd bx):Int)) 10);let t5:List AV:=[Zz .u64 (Xb gW),Zz .i64 0,Zz .i64 0,Zz .i64 0];let t0:List AV:=[Zz .i64 t2];let t1:Option (List AV):=YQ [Yu [Zx [(67:UInt8),(80:UInt8),(87:UInt8),(108:UInt8)],Zz .i64 0,Zz .i64 0,Zz .i64 0,Zz .u64 (Wv gW)]] fun l n=>aG (UInt8.ofNat (Yb (Xf (↑(Yd de):Int) (↑(Yd (2:UInt8)):Int)))==(1:UInt8)) (Zp (Zm kd::Zm bx::Zm se::Zm gW::Zm de::Zv li::Zz .u16 hw::Zq []::Zq (Kerb.kP.val (Kerb.aR (Kerb.eK.mk [(103:UInt8),(84:UInt8),(71:UInt8),(83:UInt8)] 4 0 0 0)))::t0)) (Zp (Zm kd::Zm bx::Zm se::Zm gW::Zm de::Zv li::Zz .u16 hw::Zq []::Zq l::t0));let t3:Option (List AV):=Zp (Zm kd::Zm bx::Zm se::Zm gW::Zm de::Zv li::Zz .u16 hw::Zq []::Zq (Kerb.kP.val (Kerb.aY (Kerb.fN.mk [(67:UInt8),(80:UInt8),(87:UInt8),(100:UInt8)] 0 0 0 0 0 (Kerb.bn.mk [] [] []) [])))::t0);let t4:Option (List AV):=Zp (Zm kd::Zm bx::Zm se::Zm gW::Zm de::Zv li::Zz .u16 hw::Zq []::Zq (Kerb.kP.val (Kerb.eu (Kerb.qP.mk [] 0 0 7) li))::t0);UW [Zz .i64 (Zw .i64 (↑(Yd bx):Int))] fun b bT dV=>Zy (QH [Zz .i64 (Zw .i64 (↑(Yd bx):Int))] []) (kA fun cs=>aJ cs fun eA r=>aJ r fun fg r=>aJ r fun gh r=>let t6:Option (List AV):=aG (t2==7) t1 (aG (t2==8) (YR [Yu [Zx [(116:UInt8),(103:UInt8),(115:UInt8),(84:UInt8)],Zz .i64 0,Zz .u64 (Xb gW),Zz .i64 0,Zz .i64 0,Zz .i64 0,Zx eA,Zx fg,Zx gh,Zq (Kerb.oK gW de)]] fun b n=>aG (UInt8.ofNat (Yb (Xf (↑(Yd de):Int) (↑(Yd (8:UInt8)):Int)))==(1:UInt8)) t3 (Zp (Zm kd::Zm bx::Zm se::Zm gW::Zm de::Zv li::Zz .u16 hw::Zq []::Zq b::t0))) (aG (t2==9) (YS [Yu (Zx b::Zx bT::Zx dV::Zx eA::Zx fg::Zx gh::t5)] fun b n=>Zp (Zm kd::Zm bx::Zm se::Zm gW::Zm de::Zv li::Zz .u16 hw::Zq []::Zq b::t0)) (YT [Yu [Zz .u64 (Xb gW),Zx eA,Zx fg,Zx gh,Zz .i64 0,Zz .i64 0,Zq (Kerb.oK gW de)]] fun b n=>Zp (Zm kd::Zm bx::Zm se::Zm gW::Zm de::Zv li::Zz .u16 hw::Zq []::Zq b::t0))));ak r (Zy (aG (t2==1) (Zy (Ke [Zq [gW]] []) (kA fun cs=>ar cs fun b r=>aJ r fun gS r=>aJ r fun gH r=>aJ r fun ja r=>ag .i64 r fun n r=>ag .u64 r fun bh r=>ag .i64 r fun bG r=>ag .i64 r fun dd r=>aJ r fun jb r=>aJ r fun eM r=>ak r (UX [Yu [Zv b,Zx gS,Zx gH,Zx ja,Zz .i64 n,Zz .u64 (Xb gW),Zz .i64 bG,Zz .i64 dd,Zx jb,Zx eM]] fun b n=>Zp (Zm kd::Zm bx::Zm se::Zm gW::Zm de::Zv li::Zz .u16 hw::Zq []::Zq b::t0)))) (aG (t2==2) (Zy (QI [Yu [Zx (Kerb.bn.name (Kerb.nt.client (Kerb.ld gW))),Zx (Kerb.bn.inst (Kerb.nt.client (Kerb.ld gW))),Zx (Kerb.bn.aL (Kerb.nt.client (Kerb.ld gW))),Zz .i64 (Kerb.nt.dp (Kerb.ld gW)),Zz .i64 (Kerb.nt.tick (Kerb.ld gW)),Zz .i64 (Kerb.nt.time (Kerb.ld gW))],Zv li] []) (kT fun vs=>aV vs fun b r=>ag .i64 r fun n r=>ak r (Zp (Zm kd::Zm bx::Zm se::Zm gW::Zm de::Zv li::Zz .u16 hw::Zq []::Zq b::t0)))) (aG (t2==3) (Zy (Kl [Yu [Zz .u64 (Xb gW),Zx eA,Zx fg,Zx gh,Zz .i64 0,Zz .i64 0,Zq (Kerb.oK gW de),Zz .i64 0],Zv li] []) (kT fun vs=>aV vs fun b r=>ag .i64 r fun n r=>ak r (Zp (Zm kd::Zm bx::Zm se::Zm gW::Zm de::Zv li::Zz .u16 hw::Zq []::Zq b::t0)))) (aG (t2==4) (Zp (Zm kd::Zm bx::Zm se::Zm gW::Zm de::Zv li::Zz .u16 hw::Zq []::Zq (Kerb.kP.val (Kerb.fG (Kerb.I2.mk 5 0 0) li))::t0)) (aG (t2==5) (aG (t2==5) t4 t6) (aG (t2==6) t4 t6)))))) fun l=>c9 l fun b r=>c9 r fun gS r=>c9 r fun gH r=>c9 r fun ja r=>c9 r fun jb r=>ar r fun eM r=>ag .u16 r fun n r=>aV r fun fW r=>aV r fun gG r=>ag .i64 r fun bh r=>ak r (Zy (aG (Xf n 16==15) (Zy (Kj [Zq gG,Zz .u16 (Zw .u16 (Xx n 16))] []) (kB fun gw=>Zp [Zm b,Zm gS,Zm gH,Zm ja,Zm jb,Zv eM,Zz .u16 n,Zq fW,Zq gw,Zz .i64 bh])) (Zp [Zm b,Zm gS,Zm gH,Zm ja,Zm jb,Zv eM,Zz .u16 n,Zq fW,Zq gG,Zz .i64 bh])) fun l=>c9 l fun b r=>c9 r fun b r=>c9 r fun b r=>c9 r fun gw r=>c9 r fun il r=>ar r fun i_ r=>ag .u16 r fun n r=>aV r fun iR r=>aV r fun jt r=>ag .i64 r fun n r=>ak r (UY [Zz .i64 n,Zz .u64 (Wv b),Zq jt] fun b n=>Zp (Zq b,[])))))) (by kernel_rfl) ?_
 unfold UW UX YQ YR YS YT UY;delta kT kA kB;dsimp only[Ke,Kg,Kj,QH,Kk,QI,Kl,M7,M8,M9,M_,Km,aJ,aV,ar,c9,ag,cL,c7];simp only[Zk,Qa2] at aC;have L:∀ b:List UInt8,b.length<=39->Zj (b.length<=9223372036854775807)=Yk:=fun b h=>Qa4 (by omega);have k1:∀ n,Zj (0<=Wv n)=Yk:=fun n=>Qa4 (Kerb.rj n).1;have k2:∀ n,Zj (Wv n<18446744073709551616)=Yk:=fun n=>Qa4 (Kerb.rj n).2;have s1:∀ n,Zj (0<=Xb n)=Yk:=fun n=>Qa4 (Kerb.rG n).1;have s2:∀ n,Zj (Xb n<18446744073709551616)=Yk:=fun n=>Qa4 (Kerb.rG n).2;have hb:=Kerb.SX bx;have u1:Zj (0<=Go.IntKind.wrap .i64 (bx.toNat:Int))=Yk:=Qa4 hb.1;have u2:Zj (Go.IntKind.wrap .i64 (bx.toNat:Int)<=4611686018427387904)=Yk:=Qa4 (by omega);obtain⟨a1,a2,a3⟩:=Kerb.yt (Go.IntKind.wrap .i64 (bx.toNat:Int));obtain⟨c1,c2,c3⟩:=Kerb.zQ (Go.IntKind.wrap .i64 (bx.toNat:Int));obtain⟨d1,d2,d3⟩:=Kerb.yt (Kerb.next [gW] 0 9);have e0:Zj ([gW].length<=4611686018427387904)=Yk:=rfl;obtain⟨l1,l2,l3,l4,l5⟩:=Kerb.Cn [gW];have q1:Zj ((Kerb.ld gW).client.name.length<=9223372036854775807)=Yk:=L _ d1;have q2:Zj ((Kerb.ld gW).client.inst.length<=9223372036854775807)=Yk:=L _ d2;have q3:Zj ((Kerb.ld gW).client.aL.length<=9223372036854775807)=Yk:=L _ d3;have hK:Go.IntKind.wrap .i64 (1+Xf (Go.IntKind.wrap .i64 (bx.toNat:Int)) 10)=Xh bx:=rfl;simp only[↓N2,u1,u2,e0,L _ l1,L _ l2,L _ l3,L _ l4,L _ l5,L _ a1,L _ a2,L _ a3,L _ c1,L _ c2,L _ c3,q1,q2,q3,k1,k2,s1,s2,Yf,hK];have w1:Zj (0<=Go.IntKind.wrap .u16 (Xx hw 16))=Yk:=Qa4 (Kerb.wX aC.1 aC.2 (by decide)).1;have w2:Zj (Go.IntKind.wrap .u16 (Xx hw 16)<=65535)=Yk:=Qa4 (Kerb.wX aC.1 aC.2 (by decide)).2;refine Gb (P:=fun a=>a=[.u8 kd,.u8 bx,.u8 se,.u8 gW,.u8 de,.bool li,.int .u16 hw,.bs [],.bs (Kerb.vO ⟨kd,bx,se,gW,de,li,hw⟩),.int .i64 (Xh bx)]) ⟨_,?_,rfl⟩ ?_
 ·unfold Kerb.vO;try dsimp only
  by_cases hc:Xh bx=1
  ·rw[af (by simpa using hc),Qa1 hc]
  rw[ai (by simpa using hc),Qa0 hc];clear hc;by_cases hc:Xh bx=2
  ·rw[af (by simpa using hc),Qa1 hc]
  rw[ai (by simpa using hc),Qa0 hc];clear hc;by_cases hc:Xh bx=3
  ·rw[af (by simpa using hc),Qa1 hc]
  rw[ai (by simpa using hc),Qa0 hc];clear hc;by_cases hc:Xh bx=4
  ·rw[af (by simpa using hc),Qa1 hc]
  rw[ai (by simpa using hc),Qa0 hc];clear hc;by_cases hc:Xh bx=5
  ·rw[af (by simpa using hc),af (by simpa using hc),Qa1 (.inl hc)]
  rw[ai (by simpa using hc)];by_cases hd:Xh bx=6
  ·rw[af (by simpa using hd),Qa1 (.inr hd)]
  rw[ai (by simpa using hd),Qa0 (fun h=>h.elim hc hd)];clear hc hd;by_cases hc:Xh bx=7
  ·rw[af (by simpa using hc),Qa1 hc];show aG (Xd de 2==1) _ _=_;cases Xd de 2==1<;>rfl
  rw[ai (by simpa using hc),Qa0 hc];clear hc;by_cases hc:Xh bx=8
  ·rw[af (by simpa using hc),Qa1 hc];show aG (Xd de 8==1) _ _=_;cases Xd de 8==1<;>rfl
  rw[ai (by simpa using hc),Qa0 hc];clear hc;by_cases hc:Xh bx=9
  ·rw[af (by simpa using hc),Qa1 hc]
  rw[ai (by simpa using hc),Qa0 hc]
 rintro a rfl;have hl:=Kerb.I_ ⟨kd,bx,se,gW,de,li,hw⟩;have w3:Zj ((Kerb.vO ⟨kd,bx,se,gW,de,li,hw⟩).length<=1000000)=Yk:=Qa4 (by omega);unfold Kerb.qe;dsimp only;generalize Kerb.vO ⟨kd,bx,se,gW,de,li,hw⟩=B at w3 ⊢;simp only[↓N2,w1,w2,w3,k1,k2,Yf];cases Xf hw 16==15
 ·simp only[↓A0,A0,aF,k1,k2,Yf,Qa7]
 ·simp only[↓A0,A0,cc,k1,k2,Yf,Qa6]
theorem acb:Wk 119 8 HX:=by
 refine cC Tryz.func119 rfl fun xs bl r h=> ?_;unfold HX at h;split at h;case h_2=>cases h
 rename_i b;obtain⟨aC,rfl⟩:=dj h;refine cA (let t1:AV:=Yu [Zv Yw,Zv Yw,Zz .i64 0,Zx [],Zq [],Zq []];let t0:Option (AV×aw):=Zp (Zh [t1,Zz .i64 100],[]);aG (!Zg (Yg b [3,4])==0) (Zp (Zh [t1,Zz .i64 (Zg (Yg b [3,4]))],[])) (Zy (B5 [Zq b] []) (kT fun vs=>aA vs fun x r=>AV.cV x fun cs=>ar cs fun bT dq=>ar dq fun dV dA=>ag .i64 dA fun n dJ=>aJ dJ fun eA eI=>aV eI fun fg fI=>aV fI fun gh ga=>let t2:AV:=Yu [Zv bT,Zv dV,Zz .i64 n,Zx eA,Zq fg,Zq gh];ak ga (ag .i64 r fun n r=>ak r (Zy (B6 [t2] []) (kT fun vs=>aV vs fun gS r=>ag .i64 r fun n r=>ak r (aG (!n==0) t0 (aG (!gS==b) t0 (Zp (Zh [t2,Zz .i64 0],[])))))))))) (by kernel_rfl) ?_;delta kT;dsimp only[B5,B6,aJ,aV,ar,c9,ag,cL,c7];have hb:=Qa3 aC;have jQ:Zj (b.length<=4611686018427387904)=Yk:=by simp;omega
 have hr:=Kerb.fS b (Kerb.get b 2 1 Yw).next
 have g1:(Kerb.jP b).val.aL.length<=9223372036854775807:=by show(Kerb.text b (Kerb.get b 2 1 Yw).next).val.length<=_;omega
 unfold Kerb.eC;by_cases h:(Yg b [3,4]).2=0;case neg=>rw[af (by simpa using h),Qa1 h];rfl
 rw[ai (by simpa using h),Qa0 (by simpa using h)];simp only[aC,g1,Qb4,↓A0,A0];exact Kerb.cY (no:=Kerb.yZ) (enc:=Kerb.bf) (rd:=fun b=>((Kerb.jP b).val,Yw)) _ Yw rfl (fun x e=>(Zh [.agg [.bool (x).little,.bool (x).cW,.int .i64 (x).br,.str (x).aL,.bs (x).aH,.bs (x).fm],Zz Zf e],([]:aw)))
theorem acE:Wk 146 8 yd:=by
 refine cC Tryz.func146 rfl fun xs bl r h=> ?_;unfold yd at h;split at h;case h_2=>cases h
 rename_i b pos;obtain⟨aC,rfl⟩:=dj h;refine cA (Zy (bJ (fun st=>aV st fun b r=>ag .i64 r fun n r=>aJ r fun bT r=>aJ r fun dV r=>aJ r fun eA r=>ag .i64 r fun bh r=>ag .i64 r fun bG r=>aJ r fun fg r=>aJ r fun gh r=>aJ r fun gS r=>ag .i64 r fun dd r=>ag .i64 r fun bR r=>ak r (aG (Zj (bR<dd)) (aD (Zj (0<=bR)&&Zj (bR<(↑(Zu [0,1,2]):Int))&&Yk) (aG (Nat.beq (Yb bR) 0) (wH [Zq b,Zz .i64 n] fun gH n bM=>aG (!bM==0) (Zp (Sum.inr (Ex.ret,[Zq b,Zz .i64 n,Zx [],Zx [],Zx [],Zz .i64 0,Zz .i64 bM,Zx gH,Zx gh,Zx gS,Zz .i64 dd,Zz .i64 bR]))) (Zp (Wy [Zq b,Zz .i64 n,Zx bT,Zx dV,Zx eA,Zz .i64 bh,Zz .i64 bG,Zx gH,Zx gh,Zx gS,Zz .i64 dd,Zz .i64 (Zw .i64 (bR+1))]))) (aG (Nat.beq (Yb bR-1) 0) (wH [Zq b,Zz .i64 n] fun gH n bM=>aG (!bM==0) (Zp (Sum.inr (Ex.ret,[Zq b,Zz .i64 n,Zx [],Zx [],Zx [],Zz .i64 0,Zz .i64 bM,Zx fg,Zx gH,Zx gS,Zz .i64 dd,Zz .i64 bR]))) (Zp (Wy [Zq b,Zz .i64 n,Zx bT,Zx dV,Zx eA,Zz .i64 bh,Zz .i64 bG,Zx fg,Zx gH,Zx gS,Zz .i64 dd,Zz .i64 (Zw .i64 (bR+1))]))) (aG (Nat.beq (Yb bR-1-1) 0) (wH [Zq b,Zz .i64 n] fun gH n bM=>aG (!bM==0) (Zp (Sum.inr (Ex.ret,[Zq b,Zz .i64 n,Zx [],Zx [],Zx [],Zz .i64 0,Zz .i64 bM,Zx fg,Zx gh,Zx gH,Zz .i64 dd,Zz .i64 bR]))) (Zp (Wy [Zq b,Zz .i64 n,Zx bT,Zx dV,Zx eA,Zz .i64 bh,Zz .i64 bG,Zx fg,Zx gh,Zx gH,Zz .i64 dd,Zz .i64 (Zw .i64 (bR+1))]))) none)))) (Zp (Sum.inr (Ex.exit 0,[Zq b,Zz .i64 n,Zx bT,Zx dV,Zx eA,Zz .i64 bh,Zz .i64 bG,Zx fg,Zx gh,Zx gS,Zz .i64 dd,Zz .i64 bR]))))) [Zq b,Zz .i64 pos,Zx [],Zx [],Zx [],Zz .i64 0,Zz .i64 0,Zx [],Zx [],Zx [],Zz .i64 (↑(Zu [0+0,0+1,0+2]):Int),Zz .i64 0]) fun(r:Ex×List AV)=>aV (Zg r) fun b dq=>ag .i64 dq fun n dA=>aJ dA fun b dJ=>aJ dJ fun bT eI=>aJ eI fun dV fI=>ag .i64 fI fun bh ga=>ag .i64 ga fun bG g8=>aJ g8 fun eA iA=>aJ iA fun fg ig=>aJ ig fun gh dy=>ag .i64 dy fun dd eD=>ag .i64 eD fun bR eE=>ak eE (jW r.1 (Zp (Zh [Yu [Zx b,Zx bT,Zx dV],Zz .i64 bh,Zz .i64 bG],[])) fun(j:Nat)=>aG (Nat.beq j 0) (Zy (nD [Yu [Zx eA,Zx fg,Zx gh]] []) (kL fun b=>aG (!b) (Zp (Zh [Yu [Zx [],Zx [],Zx []],Zz .i64 0,Zz .i64 103],[])) (Zp (Zh [Yu [Zx eA,Zx fg,Zx gh],Zz .i64 n,Zz .i64 0],[])))) none)) (by kernel_rfl) ?_;unfold wH;delta kT kL;dsimp only[yf,nD,aJ,aV,ar,c9,ag,cL,c7];have hb:=Qa3 aC;obtain⟨T0,RC⟩:∃ T,T=Kerb.text b pos:=⟨_,rfl⟩;obtain⟨T1,hT1⟩:∃ T,T=Kerb.text b T0.next:=⟨_,rfl⟩;obtain⟨T2,hT2⟩:∃ T,T=Kerb.text b T1.next:=⟨_,rfl⟩;have hp:Wu b pos=if T0.err≠0 then⟨Kerb.dx,0,T0.err⟩ else if T1.err≠0 then⟨Kerb.dx,0,T1.err⟩ else if T2.err≠0 then⟨Kerb.dx,0,T2.err⟩
   else if Kerb.bn.valid ⟨T0.val,T1.val,T2.val⟩ then⟨⟨T0.val,T1.val,T2.val⟩,T2.next,0⟩ else⟨Kerb.dx,0,103⟩:=by
  rw[hT2,hT1,RC];rfl
 have k0:=Kerb.fS b pos;rw[<-RC] at k0;have k1:=Kerb.fS b T0.next;rw[<-hT1] at k1;have k2:=Kerb.fS b T1.next;rw[<-hT2] at k2;refine bW (fun i:Nat=>match i with
   | 0=>[Zq b,Zz Zf pos,Zx [],Zx [],Zx [],Zz Zf 0,Zz Zf 0,Zx [],Zx [],Zx [],Zz Zf 3,Zz Zf 0]
   | 1=>[Zq b,Zz Zf T0.next,Zx [],Zx [],Zx [],Zz Zf 0,Zz Zf 0,Zx T0.val,Zx [],Zx [],Zz Zf 3,Zz Zf 1]
   | 2=>[Zq b,Zz Zf T1.next,Zx [],Zx [],Zx [],Zz Zf 0,Zz Zf 0,Zx T0.val,Zx T1.val,Zx [],Zz Zf 3,Zz Zf 2]
   | _=>[Zq b,Zz Zf T2.next,Zx [],Zx [],Zx [],Zz Zf 0,Zz Zf 0,Zx T0.val,Zx T1.val,Zx T2.val,Zz Zf 3,Zz Zf 3])
  (fun i=>i<=3/\(1<=i->T0.err=0)/\(2<=i->T1.err=0)/\(3<=i->T2.err=0)) (fun i=>3-i)
  (fun r=>(T0.err=0/\T1.err=0/\T2.err=0/\r=(Ex.exit 0,[Zq b,Zz Zf T2.next,Zx [],Zx [],Zx [],Zz Zf 0,Zz Zf 0,Zx T0.val,Zx T1.val,Zx T2.val,Zz Zf 3,Zz Zf 3])) \/
   ∃ n x y z i,Wu b pos=⟨Kerb.dx,0,(Wu b pos).err⟩/\r=(Ex.ret,[Zq b,Zz Zf n,Zx [],Zx [],Zx [],Zz Zf 0,Zz Zf (Wu b pos).err,Zx x,Zx y,Zx z,Zz Zf 3,Zz Zf i])) 0 ⟨by omega,by omega,by omega,by omega⟩ rfl ?_ ?_
 ·rintro i ⟨hi,g0,g1,g2⟩;have hc:i=0\/i=1\/i=2\/i=3:=by omega
  rcases hc with rfl | rfl | rfl | rfl
  ·simp only[A0];rw[af (by decide),ae (by decide),af (by decide),ae aC,<-RC];by_cases h:T0.err=0
   ·rw[ai (by simp[h])];exact⟨_,rfl,1,rfl,⟨by omega,fun _=>h,by omega,by omega⟩,by dsimp only;omega⟩
   ·rw[af (by simpa using h)];exact⟨_,rfl,.inr ⟨_,_,_,_,_,by rw[hp,Qa1 h],by rw[hp,Qa1 h]⟩⟩
  ·simp only[A0];have e0:=g0 (by omega);rw[af (by decide),ae (by decide),ai (by decide),af (by decide),ae aC,<-hT1];by_cases h:T1.err=0
   ·rw[ai (by simp[h])];exact⟨_,rfl,2,rfl,⟨by omega,fun _=>e0,fun _=>h,by omega⟩,by dsimp only;omega⟩
   ·rw[af (by simpa using h)];exact⟨_,rfl,.inr ⟨_,_,_,_,_,by rw[hp,Qa0 (by simp[e0]),Qa1 h],by rw[hp,Qa0 (by simp[e0]),Qa1 h]⟩⟩
  ·simp only[A0];have e0:=g0 (by omega);have e1:=g1 (by omega);rw[af (by decide),ae (by decide),ai (by decide),ai (by decide),af (by decide),ae aC,<-hT2];by_cases h:T2.err=0
   ·rw[ai (by simp[h])];exact⟨_,rfl,3,rfl,⟨by omega,fun _=>e0,fun _=>e1,fun _=>h⟩,by dsimp only;omega⟩
   ·rw[af (by simpa using h)];exact⟨_,rfl,.inr ⟨_,_,_,_,_,by rw[hp,Qa0 (by simp[e0]),Qa0 (by simp[e1]),Qa1 h],by rw[hp,Qa0 (by simp[e0]),Qa0 (by simp[e1]),Qa1 h]⟩⟩
  ·simp only[A0];rw[ai (by decide)];exact⟨_,rfl,.inl ⟨g0 (by omega),g1 (by omega),g2 (by omega),rfl⟩⟩
 ·rintro r (⟨e0,e1,e2,rfl⟩ | ⟨n,x,y,z,i,h,rfl⟩)
  ·simp only[A0];rw[af (Nat.beq_refl _),ae (by simp;omega),hp,Qa0 (by simp[e0]),Qa0 (by simp[e1]),Qa0 (by simp[e2])];cases hv:Kerb.bn.valid ⟨T0.val,T1.val,T2.val⟩
   ·rfl
   ·rfl
  ·simp only[A0];rw[h];rfl
theorem acL:Wk 153 8 H9:=by
 refine cC Tryz.func153 rfl fun xs bl r h=> ?_;unfold H9 at h;split at h;case h_2=>cases h
 rename_i k x y z lf kv tk t little;obtain⟨aC,rfl⟩:=dj h;refine cA (Zy (aD (Zj (0<=k)&&Zj (k<18446744073709551616)) (Zp (Zv (Kerb.bA k),[]))) (kL fun b=>aG (!b) (Zp (Zh [Zq [],Zz .i64 10],[])) (Zy (aD (c7 x&&c7 y&&c7 z) (Zp (Zv (Kerb.bn.valid (Kerb.bn.mk x y z)),[]))) (kL fun b=>aG (!b) (Zp (Zh [Zq [],Zz .i64 103],[])) (aG (!Zn lf 255) (Zp (Zh [Zq [],Zz .i64 104],[])) (aG (!Zn kv 255) (Zp (Zh [Zq [],Zz .i64 104],[])) (aG (!Zn t 4294967295) (Zp (Zh [Zq [],Zz .i64 104],[])) (aG (Zj ((↑(Zu tk):Int)>255)) (Zp (Zh [Zq [],Zz .i64 105],[])) (aG little (Zy (aD (Zj (0<=k)&&Zj (k<18446744073709551616)) (Zp (Zq (Kerb.keyBytes k),[]))) (kB fun b=>Zy (aD (Zj (Zu (Yy ([]++Yj 1 1 Yw) (Yy b []))<=140737488355328)&&Zj (Zu [Zq ([]++Yj 1 1 Yw),Zq b]<=1000)) (Zp (Xw (Yy ([]++Yj 1 1 Yw) (Yy b [])),[]))) (kO fun l=>Zy (aD (Zj (Zu l+Zu x+Zu y+Zu z<=70368744170000)) (Zp (Xw (Kerb.cO l (Kerb.bn.mk x y z)),[]))) (kO fun l=>Zy (aD (Zj (Zu l<=70368744177664)) (Zp (Xw (l++Yj lf 1 Yw),[]))) (kO fun l=>Zy (aD (Zj (Zu l<=70368744177664)) (Zp (Xw (l++Yj kv 1 Yw),[]))) (kO fun l=>Zy (aD (Zj (Zu l<=70368744177664)) (Zp (Xw (l++Yj (↑(Zu tk):Int) 1 Yw),[]))) (kO fun l=>Zy (aD (Zj (Zu (Yy l (Yy tk []))<=140737488355328)&&Zj (Zu [Zq l,Zq tk]<=1000)) (Zp (Xw (Yy l (Yy tk [])),[]))) (kO fun l=>Zy (aD (Zj (Zu l<=70368744177664)) (Zp (Xw (l++Yj t 4 little),[]))) (kO fun l=>Zy (aD (Zj (Zu l<=70368744177664)) (Zp (Zq (Kerb.pad l),[]))) (kB fun b=>Zp (Zh [Zq b,Zz .i64 0],[]))))))))))) (Zy (aD (Zj (0<=k)&&Zj (k<18446744073709551616)) (Zp (Zq (Kerb.keyBytes k),[]))) (kB fun b=>Zy (aD (Zj (Zu (Yy ([]++Yj 0 1 Yw) (Yy b []))<=140737488355328)&&Zj (Zu [Zq ([]++Yj 0 1 Yw),Zq b]<=1000)) (Zp (Xw (Yy ([]++Yj 0 1 Yw) (Yy b [])),[]))) (kO fun l=>Zy (aD (Zj (Zu l+Zu x+Zu y+Zu z<=70368744170000)) (Zp (Xw (Kerb.cO l (Kerb.bn.mk x y z)),[]))) (kO fun l=>Zy (aD (Zj (Zu l<=70368744177664)) (Zp (Xw (l++Yj lf 1 Yw),[]))) (kO fun l=>Zy (aD (Zj (Zu l<=70368744177664)) (Zp (Xw (l++Yj kv 1 Yw),[]))) (kO fun l=>Zy (aD (Zj (Zu l<=70368744177664)) (Zp (Xw (l++Yj (↑(Zu tk):Int) 1 Yw),[]))) (kO fun l=>Zy (aD (Zj (Zu (Yy l (Yy tk []))<=140737488355328)&&Zj (Zu [Zq l,Zq tk]<=1000)) (Zp (Xw (Yy l (Yy tk [])),[]))) (kO fun l=>Zy (aD (Zj (Zu l<=70368744177664)) (Zp (Xw (l++Yj t 4 little),[]))) (kO fun l=>Zy (aD (Zj (Zu l<=70368744177664)) (Zp (Zq (Kerb.pad l),[]))) (kB fun b=>Zp (Zh [Zq b,Zz .i64 0],[])))))))))))))))))))) (by kernel_rfl) ?_;delta kB kO kL;dsimp only[c7];simp only[Zk,Qa2] at aC;obtain⟨⟨⟨⟨q1,q2⟩,q3⟩,h0⟩,h1⟩:=aC;simp only[A0];unfold Kerb.bp;rw[ae (by simp[h0,h1])];cases hk:Kerb.bA k
 ·rfl
 rw[Zd,aF,ae (by simp[q1,q2,q3])];cases h1:Kerb.bn.valid ⟨x,y,z⟩
 ·rfl
 rw[Zd,aF];cases h4:Zn lf 255
 ·rfl
 rw[Zd,aF];cases h5:Zn kv 255
 ·rfl
 rw[Zd,aF];cases h6:Zn t 4294967295
 ·rfl
 rw[Zd,aF];by_cases h7:255<tk.length
 ·rw[af (by simp;omega),Qa0 (by simp),Qa0 (by simp),Qa0 (by simp),Qa1 h7]
 have l1:=Kerb.cN h1;simp only at l1;rw[ai (by simp;omega),Qa0 (by simp),Qa0 (by simp),Qa0 (by simp),Qa0 h7];cases little
 ·rw[aF,ae (by simp;omega),ae (by first | (simp[Yx,Yz,Yv];done) | (simp[Yx,Yz,Yv];omega)),ae (by first | (simp[Yx,Yz,Yv];done) | (simp[Yx,Yz,Yv];omega)),ae (by first | (simp[Yx,Yz,Yv];done) | (simp[Yx,Yz,Yv];omega)),ae (by first | (simp[Yx,Yz,Yv];done) | (simp[Yx,Yz,Yv];omega)),ae (by first | (simp[Yx,Yz,Yv];done) | (simp[Yx,Yz,Yv];omega)),ae (by first | (simp[Yx,Yz,Yv];done) | (simp[Yx,Yz,Yv];omega)),ae (by first | (simp[Yx,Yz,Yv];done) | (simp[Yx,Yz,Yv];omega)),ae (by first | (simp[Yx,Yz,Yv];done) | (simp[Yx,Yz,Yv];omega))];simp
 ·rw[cc,ae (by simp;omega),ae (by first | (simp[Yx,Yz,Yv];done) | (simp[Yx,Yz,Yv];omega)),ae (by first | (simp[Yx,Yz,Yv];done) | (simp[Yx,Yz,Yv];omega)),ae (by first | (simp[Yx,Yz,Yv];done) | (simp[Yx,Yz,Yv];omega)),ae (by first | (simp[Yx,Yz,Yv];done) | (simp[Yx,Yz,Yv];omega)),ae (by first | (simp[Yx,Yz,Yv];done) | (simp[Yx,Yz,Yv];omega)),ae (by first | (simp[Yx,Yz,Yv];done) | (simp[Yx,Yz,Yv];omega)),ae (by first | (simp[Yx,Yz,Yv];done) | (simp[Yx,Yz,Yv];omega)),ae (by first | (simp[Yx,Yz,Yv];done) | (simp[Yx,Yz,Yv];omega))];simp
theorem acY:Wk 166 8 Ib:=by
 refine cC Tryz.func166 rfl fun xs bl r h=> ?_;unfold Ib at h;split at h;case h_2=>cases h
 rename_i cx cy cz sx sy sz k t e a;obtain⟨aC,rfl⟩:=dj h;refine cA (Zy (nD [Yu [Zx cx,Zx cy,Zx cz]] []) (kL fun b=>aG (!b) (Zp (Zh [Zq [],Zz .i64 103],[])) (Zy (nD [Yu [Zx sx,Zx sy,Zx sz]] []) (kL fun b=>aG (!b) (Zp (Zh [Zq [],Zz .i64 103],[])) (Zy (Ca [Zz .u64 k] []) (kI .i64 fun n=>aG (!n==2) (Zp (Zh [Zq [],Zz .i64 10],[])) (aG (!Kerb.period t e) (Zp (Zh [Zq [],Zz .i64 104],[])) (aG (!Zn a 4294967295) (Zp (Zh [Zq [],Zz .i64 104],[])) (Zy (qw [Zq [],Yu [Zx cx,Zx cy,Zx cz]] []) (kO fun l=>Zy (qw [Zq l,Yu [Zx sx,Zx sy,Zx sz]] []) (kO fun l=>Zy (uK [Zz .u64 k] []) (kB fun b=>aD (room (Zu l+Zu b) 1) (Zy (ml [Zq (l++b),Zz .i64 t,Zv Yw] []) (kO fun l=>Zy (ml [Zq l,Zz .i64 e,Zv Yw] []) (kO fun l=>Zy (ml [Zq l,Zz .i64 a,Zv Yw] []) (kO fun l=>Zy (rJ [Zq l] []) (kB fun b=>Zp (Zh [Zq b,Zz .i64 0],[])))))))))))))))))) (by kernel_rfl) ?_;delta kB kO kL kI;dsimp only[nD,qw,ml,uK,rJ,Ca,aJ,aV,ar,c9,ag,cL,c7];simp only[Zk,Qa2] at aC;simp only[A0,Xy,Xu,Kerb.eU.av];unfold Kerb.dF;simp only;rw[ae (by simp;omega)];cases h1:Kerb.bn.valid ⟨cx,cy,cz⟩
 ·rfl
 rw[Zd,aF,ae (by simp;omega)];cases h2:Kerb.bn.valid ⟨sx,sy,sz⟩
 ·rfl
 rw[Zd,aF,ae (by simp;omega),Qa0 (by simp)];by_cases h3:Kerb.iD k=2;case neg=>rw[af (by simpa using h3),Qa1 h3]
 rw[ai (by simp[h3]),Qa0 (show ¬ (Kerb.iD k≠2) by simpa using h3)];cases h4:Kerb.period t e
 ·rfl
 rw[Zd,aF];cases h7:Zn a 4294967295
 ·rfl
 rw[Zd,aF,Qa0 (by simp)];have l1:=Kerb.cN h1;have l2:=Kerb.cN h2;simp only at l1 l2;rw[ae (by simp;omega),ae (by simp[Yx,Yv,Yz,Wz];omega),ae (by simp;omega),ae (Kerb.cu (by simp[Yx,Yv,Yz,Wz];omega)),ae (by simp[Yx,Yv,Yz,Wz];omega),ae (by simp[Yx,Yv,Yz,Wz];omega),ae (by simp[Yx,Yv,Yz,Wz];omega),ae (by simp[Yx,Yv,Yz,Wz];omega)]
theorem ac1:Wk 169 8 Ic:=by
 refine cC Tryz.func169 rfl fun xs bl r h=> ?_;unfold Ic at h;split at h;case h_2=>cases h
 rename_i k sx sy sz t e rc;obtain⟨aC,rfl⟩:=dj h;refine cA (Zy (zl [Zz .u64 k] []) (kL fun b=>aG (!b) (Zp (Zh [Zq [],Zz .i64 10],[])) (Zy (nD [Yu [Zx sx,Zx sy,Zx sz]] []) (kL fun b=>aG (!b) (Zp (Zh [Zq [],Zz .i64 103],[])) (aG (!Kerb.period t e) (Zp (Zh [Zq [],Zz .i64 104],[])) (aG (Zj ((↑(Zu rc):Int)>300)) (Zp (Zh [Zq [],Zz .i64 105],[])) (Zy (uK [Zz .u64 k] []) (kB fun b=>Zy (qw [Zq b,Yu [Zx sx,Zx sy,Zx sz]] []) (kO fun l=>Zy (ml [Zq l,Zz .i64 t,Zv Yw] []) (kO fun l=>Zy (ml [Zq l,Zz .i64 e,Zv Yw] []) (kO fun l=>Zy (Cb [Zq l,Zq rc] []) (kB fun b=>Zy (rJ [Zq b] []) (kB fun b=>Zp (Zh [Zq b,Zz .i64 0],[])))))))))))))) (by kernel_rfl) ?_;delta kB kO kL;dsimp only[zl,nD,qw,ml,uK,rJ,Cb,aJ,aV,ar,c9,ag,cL,c7];simp only[Zk,Qa2] at aC;simp only[A0,Xy,Xu,Kerb.eU.av];unfold Kerb.c5;simp only;rw[ae (by simp;omega)];cases h1:Kerb.bA k
 ·rfl
 rw[Zd,aF,ae (by simp;omega),Qa0 (by simp)];cases h2:Kerb.bn.valid ⟨sx,sy,sz⟩
 ·rfl
 rw[Zd,aF,Qa0 (by simp)];cases h4:Kerb.period t e
 ·rfl
 rw[Zd,aF];rw[Qa0 (by simp)];by_cases h8:300<rc.length
 ·rw[af (by simp;omega),Qa1 h8]
 rw[ai (by simp;omega),Qa0 h8];have l2:=Kerb.cN h2;simp only at l2;rw[ae (by simp;omega),ae (by simp[Yx,Yv,Yz,Wz];omega),ae (by simp[Yx,Yv,Yz,Wz];omega),ae (by simp[Yx,Yv,Yz,Wz];omega),ae (by simp[Yx,Yv,Yz,Wz];omega),ae (by simp[Yx,Yv,Yz,Wz];omega)]
theorem ac_:Wk 187 8 Ig:=by
 refine cC Tryz.func187 rfl fun xs bl r h=> ?_;unfold Ig at h;split at h;case h_2=>cases h
 rename_i li x y z t ex kv sd;obtain⟨aC,rfl⟩:=dj h;refine cA (Zy (aD (c7 x&&c7 y&&c7 z) (Zp (Zv (Kerb.bn.valid (Kerb.bn.mk x y z)),[]))) (kL fun b=>aG (!b) (Zp (Zh [Zq [],Zz .i64 103],[])) (aG (!Zn t 4294967295) (Zp (Zh [Zq [],Zz .i64 104],[])) (aG (!Zn ex 4294967295) (Zp (Zh [Zq [],Zz .i64 104],[])) (aG (!Zn kv 255) (Zp (Zh [Zq [],Zz .i64 104],[])) (aG (Zj ((↑(Zu sd):Int)>1012)) (Zp (Zh [Zq [],Zz .i64 105],[])) (Zy (aD (Zj (Zu (Xk 2 li)+Zu x+Zu y+Zu z<=70368744170000)) (Zp (Xw (Kerb.cO (Xk 2 li) (Kerb.bn.mk x y z)),[]))) (kO fun l=>Zy (aD (Zj (Zu l<=70368744177664)) (Zp (Xw (l++Yj t 4 li),[]))) (kO fun l=>Zy (aD (Zj (Zu l<=70368744177664)) (Zp (Xw (l++Yj 1 1 Yw),[]))) (kO fun l=>Zy (aD (Zj (Zu l<=70368744177664)) (Zp (Xw (l++Yj ex 4 li),[]))) (kO fun l=>Zy (aD (Zj (Zu l<=70368744177664)) (Zp (Xw (l++Yj kv 1 Yw),[]))) (kO fun l=>Zy (aD (Zj (Zu l<=70368744177664)) (Zp (Xw (l++Yj (↑(Zu sd):Int) 2 li),[]))) (kO fun l=>Zy (aD (Zj (Zu (Yy l (Yy sd []))<=140737488355328)&&Zj (Zu [Zq l,Zq sd]<=1000)) (Zp (Xw (Yy l (Yy sd [])),[]))) (kO fun l=>Zp (Zh [Zq l,Zz .i64 0],[]))))))))))))))) (by kernel_rfl) ?_;delta kO kL;dsimp only[c7];simp only[Zk,Qa2] at aC;obtain⟨⟨q1,q2⟩,q3⟩:=aC;simp only[A0];unfold Kerb.bc;rw[ae (by simp[q1,q2,q3])];cases h1:Kerb.bn.valid ⟨x,y,z⟩
 ·rfl
 rw[Zd,aF];cases h4:Zn t 4294967295
 ·rfl
 rw[Zd,aF];cases h5:Zn ex 4294967295
 ·rfl
 rw[Zd,aF];cases h6:Zn kv 255
 ·rfl
 rw[Zd,aF];by_cases h7:1012<sd.length
 ·rw[af (by simp;omega),Qa0 (by simp),Qa0 (by simp),Qa1 h7]
 have l1:=Kerb.cN h1;have l4:=Kerb.km 2 li;simp only at l1;rw[ai (by simp;omega),Qa0 (by simp),Qa0 (by simp),Qa0 h7];rw[ae (by simp;omega),ae (by simp[Yx];omega),ae (by simp[Yx,Yz];omega),ae (by simp[Yx,Yz];omega),ae (by simp[Yx,Yz];omega),ae (by simp[Yx,Yz];omega),ae (by simp[Yx,Yz];omega)];simp
theorem adb:Wk 190 8 Ih:=by
 refine cC Tryz.func190 rfl fun xs bl r h=> ?_;unfold Ih at h;split at h;case h_2=>cases h
 rename_i li mu kv rl tk au tm lf sv ins;obtain⟨aC,rfl⟩:=dj h;refine cA (aG mu (Zp (Zh [Zq [],Zz .i64 100],[])) (Zy (B6 [Yu [Zv li,Zv mu,Zz .i64 kv,Zx rl,Zq tk,Zq au]] []) (kT fun vs=>aV vs fun b r=>ag .i64 r fun n r=>ak r (aG (!n==0) (Zp (Zh [Zq [],Zz .i64 n],[])) (Zy (uL [Zx sv] []) (kL fun bT=>aG (!bT) (Zp (Zh [Zq [],Zz .i64 103],[])) (Zy (rK [Zx ins] []) (kL fun dV=>aG (!dV) (Zp (Zh [Zq [],Zz .i64 103],[])) (aG (!Zn tm 4294967295) (Zp (Zh [Zq [],Zz .i64 104],[])) (aG (!Zn lf 255) (Zp (Zh [Zq [],Zz .i64 104],[])) (Zy (ml [Zq b,Zz .i64 tm,Zv li] []) (kO fun l=>Zy (rI [Zq l,Zz .i64 lf] []) (kO fun l=>Zy (qx [Zq l,Zx sv] []) (kO fun l=>Zy (qx [Zq l,Zx ins] []) (kO fun l=>Zp (Zh [Zq l,Zz .i64 0],[])))))))))))))))) (by kernel_rfl) ?_;delta kT kO kL;dsimp only[B6,rI,ml,qx,uL,rK,aJ,aV,ar,c9,ag,cL,c7];simp only[Zk,Qa2] at aC;obtain⟨⟨p1,p2⟩,p3⟩:=aC;simp only[A0,Xy,Xu,Kerb.eU.av,p1,p2,p3,Qb4];have hL:∀ q,Kerb.bf ⟨li,mu,kv,rl,tk,au⟩=q->Kerb.cS ⟨⟨li,mu,kv,rl,tk,au⟩,tm,lf,sv,ins⟩=if mu then⟨[],100⟩ else if q.err≠0 then⟨[],q.err⟩ else if !(Wx sv&&Kerb.cl ins) then⟨[],103⟩ else if !(Zn tm 4294967295&&Zn lf 255) then⟨[],104⟩ else⟨Kerb.bw (Kerb.bw (q.val++Yj tm 4 li++Yj lf 1 Yw) sv) ins,0⟩:=by rintro _ rfl;rfl
 have hl:=Kerb.xc ⟨li,mu,kv,rl,tk,au⟩;obtain⟨q,hq⟩:∃ q,Kerb.bf ⟨li,mu,kv,rl,tk,au⟩=q:=⟨_,rfl⟩;rw[hL q hq,hq];rw[hq] at hl;cases mu;case true=>rfl
 rw[aF,Qa0 (by simp)];by_cases h1:q.err=0;case neg=>rw[af (by simpa using h1),Qa1 h1]
 rw[ai (by simpa using h1),Qa0 (by simpa using h1)];cases h2:Wx sv
 ·rfl
 cases h3:Kerb.cl ins
 ·rfl
 cases Zn tm 4294967295
 ·rfl
 cases Zn lf 255
 ·rfl
 have l2:=Kerb.h_ h2;have l3:=Kerb.gQ h3;simp only[Zd,aF,Yf,Bool.false_eq_true,if_false];rw[ae (by simp;omega),ae (by simp[Yz];omega),ae (by simp[Yz];omega),ae (by simp[Yz,Kerb.bX];omega)]
theorem adl:Wk 198 8 Il:=by
 refine cC Tryz.func198 rfl fun xs bl r h=> ?_;unfold Il at h;split at h;case h_2=>cases h
 rename_i op ux uy uz bx;obtain⟨aC,rfl⟩:=dj h;refine cA (let t0:Option (AV×aw):=Zy (nD [Yu [Zx ux,Zx uy,Zx uz]] []) (kL fun b=>aG (!b) (Zp (Zh [Zq [],Zz .i64 103],[])) (aG (Zj ((↑(Zu bx):Int)>1012)) (Zp (Zh [Zq [],Zz .i64 105],[])) (Zy (qw [Zq (Xk 10 Yw++Yj op 1 Yw),Yu [Zx ux,Zx uy,Zx uz]] []) (kO fun l=>Zy (Cb [Zq l,Zq bx] []) (kB fun b=>Zp (Zh [Zq b,Zz .i64 0],[]))))));aG (!op==1) (aG (!op==2) (aG (!op==3) (Zp (Zh [Zq [],Zz .i64 40],[])) t0) t0) t0) (by kernel_rfl) ?_;delta kB kO kL;dsimp only[nD,qw,Cb,aJ,aV,ar,c9,ag,cL,c7];simp only[Zk,Qa2] at aC;simp only[A0,Xy,Xu,Kerb.eU.av];have r_:(Xk 10 Yw).length=2:=rfl;unfold Kerb.dw;simp only;by_cases h0:1<=op/\op<=3;case neg =>
  have e:Kerb.mT op=Yw:=by simp[Kerb.mT];omega
  rw[e,af (by simp;omega),af (by simp;omega),af (by simp;omega)];rfl
 have e:Kerb.mT op=Yk:=by simp[Kerb.mT];omega
 have hs:∀ (z y:Option (AV×aw)),aG (!op==1) (aG (!op==2) (aG (!op==3) z y) y) y=y:=fun z y=>by
  rcases (show op=1\/op=2\/op=3 by omega) with rfl | rfl | rfl<;>rfl
 rw[e,Qa0 (by simp),hs];rw[ae (by simp;omega)];cases h2:Kerb.bn.valid ⟨ux,uy,uz⟩
 ·rfl
 rw[Zd,aF,Qa0 (by simp)];by_cases h8:1012<bx.length
 ·rw[af (by simp;omega),Qa1 h8]
 rw[ai (by simp;omega),Qa0 h8];have l2:=Kerb.cN h2;simp only at l2;rw[ae (by simp[Yz,r_];omega),ae (by simp[Yx,Yz,r_];omega)]
theorem adB:Wk 213 8 P8:=by
 refine cC Tryz.func213 rfl fun xs bl r h=> ?_;unfold P8 at h;split at h;case h_2=>cases h
 rename_i li x y z ad k lf wF sv ins;obtain⟨aC,rfl⟩:=dj h;refine cA (Zy (nD [Yu [Zx x,Zx y,Zx z]] []) (kL fun b=>aG (!b) (Zp (Zz .i64 103,[])) (Zy (uL [Zx sv] []) (kL fun b=>aG (!b) (Zp (Zz .i64 103,[])) (Zy (rK [Zx ins] []) (kL fun b=>aG (!b) (Zp (Zz .i64 103,[])) (Zy (Ca [Zz .u64 k] []) (kI .i64 fun n=>aG (!n==2) (Zp (Zz .i64 10,[])) (aG (!Zn ad 4294967295) (Zp (Zz .i64 104,[])) (aG (!Zn lf 255) (Zp (Zz .i64 104,[])) (aG (!Zn wF 4294967295) (Zp (Zz .i64 104,[])) (Zp (Zz .i64 0,[]))))))))))))) (by kernel_rfl) ?_;delta kL kI;dsimp only[nD,Ca,uL,rK,aJ,aV,ar,c9,ag,cL,c7];simp only[Zk,Qa2] at aC;obtain⟨⟨⟨⟨⟨⟨h1,h2⟩,h3⟩,h4⟩,h5⟩,h6⟩,h7⟩:=aC;simp only[h1,h2,h3,h4,h5,h6,h7,Qb4,Yf,↓A0,A0];unfold Kerb.dQ.err;dsimp only;cases Kerb.bn.valid ⟨x,y,z⟩
 ·rfl
 cases Wx sv
 ·rfl
 cases Kerb.cl ins
 ·rfl
 simp only[Zd,Yf,aF];by_cases hc:Kerb.iD k=2;case neg=>rw[af (by simpa using hc),Qa0 (by simp),Qa1 hc]
 rw[ai (by simp[hc]),Qa0 (by simp),Qa0 (by simp[hc])];cases Zn ad 4294967295
 ·rfl
 cases Zn lf 255
 ·rfl
 cases Zn wF 4294967295
 ·rfl
 rfl
theorem adM:Wk 224 8 Is:=by
 refine cC Tryz.func224 rfl fun xs bl r h=> ?_;unfold Is at h;split at h;case h_2=>cases h
 rename_i lb t k st en kv x y z tk;obtain⟨aC,rfl⟩:=dj h;refine cA (let t0:Option (AV×aw):=aG (!Zn t 4294967295) (Zp (Zz .i64 104,[])) (aG (!Kerb.ep lb) (aG (!k==0) (Zp (Zz .i64 108,[])) (aG (!st==0) (Zp (Zz .i64 108,[])) (aG (!en==0) (Zp (Zz .i64 108,[])) (aG (!kv==0) (Zp (Zz .i64 108,[])) (aG (!(x==[]&&(y==[]&&z==[]))) (Zp (Zz .i64 108,[])) (aG (Zj ((↑(Zu tk):Int)>0)) (Zp (Zz .i64 108,[])) (Zp (Zz .i64 0,[])))))))) (Zy (zl [Zz .u64 k] []) (kL fun b=>aG (!b) (Zp (Zz .i64 10,[])) (aG (!Zn st 4294967295) (Zp (Zz .i64 104,[])) (aG (!Zn en 4294967295) (Zp (Zz .i64 104,[])) (aG (!Zn kv 255) (Zp (Zz .i64 104,[])) (Zy (nD [Yu [Zx x,Zx y,Zx z]] []) (kL fun b=>aG (!b) (Zp (Zz .i64 103,[])) (aG (Zj ((↑(Zu tk):Int)>255)) (Zp (Zz .i64 105,[])) (Zp (Zz .i64 0,[])))))))))));aG (!Kerb.ep lb) (aG (!lb==[(67:UInt8),(80:UInt8),(87:UInt8),(100:UInt8)]) (Zp (Zz .i64 80,[])) t0) t0) (by kernel_rfl) ?_;delta kL;dsimp only[zl,nD,aJ,aV,ar,c9,ag,cL,c7];have LD:([103,84,71,83]:List UInt8)=Kerb.vl:=rfl;have Di:([103,84,75,84]:List UInt8)=Kerb.kR:=rfl;have Gw:([67,80,87,108]:List UInt8)=Kerb.fH:=rfl;have zr:([67,80,87,100]:List UInt8)=Kerb.k_:=rfl;have LF:([116,103,115,84]:List UInt8)=Kerb.yU:=rfl;have yJ:([116,107,116,71]:List UInt8)=Kerb.pJ:=rfl;have GY:=aC;simp only[Zk,Qa2] at aC;have hk:(Zj (0<=k)&&Zj (k<18446744073709551616))=Yk:=by simp;omega
 have hv:(Zj (x.length<=9223372036854775807)&&Zj (y.length<=9223372036854775807)&&Zj (z.length<=9223372036854775807))=Yk:=by simp;omega
 simp only[A0,zr,hk,hv];unfold Kerb.aY;simp only;cases ht:Kerb.ep lb
 ·rw[Bool.not_false,cc];cases hc:(lb==Kerb.k_)
  ·rfl
  rw[Zd,aF,Qa0 (by simp)];cases h1:Zn t 4294967295
  ·rfl
  rw[Zd,aF,Qa0 (by simp),cc,Qa0 (by simp)];by_cases h2:k=0;case neg=>rw[af (by simpa using h2),Qa1 (.inl h2)]
  rw[ai (by simp[h2])];by_cases h3:st=0;case neg=>rw[af (by simpa using h3),Qa1 (.inr (.inl h3))]
  rw[ai (by simp[h3])];by_cases h4:en=0;case neg=>rw[af (by simpa using h4),Qa1 (.inr (.inr (.inl h4)))]
  rw[ai (by simp[h4])];by_cases h5:kv=0;case neg=>rw[af (by simpa using h5),Qa1 (.inr (.inr (.inr (.inl h5))))]
  rw[ai (by simp[h5])];show aG (!(Kerb.bn.zZ ⟨x,y,z⟩)) _ _=_;cases h6:Kerb.bn.zZ ⟨x,y,z⟩
  ·rw[Qa1 (.inr (.inr (.inr (.inr (.inl rfl)))))];rfl
  rw[Zd,aF];by_cases h7:tk=[];case neg=>rw[af (by have:=List.length_pos_iff.2 h7;simp;omega),Qa1 (.inr (.inr (.inr (.inr (.inr h7)))))]
  rw[ai (by simp[h7]),Qa0 (by simp[h2,h3,h4,h5,h7])]
 ·rw[Zd,aF,Qa0 (by simp)];cases h1:Zn t 4294967295
  ·rfl
  rw[Zd,aF,Qa0 (by simp),aF,Qa1 rfl];cases h2:Kerb.bA k
  ·rfl
  rw[Zd,aF,Qa0 (by simp)];cases h3:Zn st 4294967295
  ·rfl
  rw[Zd,aF];cases h4:Zn en 4294967295
  ·rfl
  rw[Zd,aF];cases h5:Zn kv 255
  ·rfl
  rw[Zd,aF,Qa0 (by simp)];cases h6:Kerb.bn.valid ⟨x,y,z⟩
  ·rfl
  rw[Zd,aF,Qa0 (by simp)];by_cases h7:255<tk.length
  ·rw[af (by simp;omega),Qa1 h7]
  ·rw[ai (by simp;omega),Qa0 h7]
theorem adV:Wk 236 8 Iu:=by
 refine cC Tryz.func236 rfl fun xs bl r h=> ?_;unfold Iu at h;split at h;case h_2=>cases h
 rename_i els;obtain⟨aC,rfl⟩:=dj h;show dT (G.env 236 8) G.rts (G.own 236) Tryz.f236 _ _ [0]=_;refine cA (Zy (Cf [Zz .u64 (Zw .u64 (↑(Zu els):Int))] []) (kI .i64 fun n=>Zy (D8 [Xn 0 27 1,Zz .i64 0,Zz .i64 (↑(Zu els):Int),Zz .i64 n] [(0,els)]) fun(r:AV×aw)=>aB (Zg r) fun(x:List AV) (dq:List (List AV))=>aE dq (AV.gT (Zb r) fun vs=>ak vs (Zp (Zh [],[x]))))) (by kernel_rfl) ?_;delta kI;dsimp only[D8,Cf,aJ,aV,ar,c9,ag,cL,c7];simp only[Zk,Qa2] at aC;obtain⟨iq,hlen⟩:=aC;obtain⟨d,rfl,hd⟩:=Kerb.m7 iq;simp only[Ym] at hlen ⊢;rw[Kerb.Ni (by omega) (by omega),ae (by rw[Kerb.Fk];simp;omega)];simp only[↓gq,↓fe,↓bQ,↓cw,↓gY,↓k8,↓dg,↓dM,↓dr];rw[Kerb.Bh];have hb:=Kerb.Uc hlen;rw[ae (by simp only[Xp,Yh,Ym,Zk,Qa2,Qa9,Qa8];omega)];simp only[↓gq,↓fe,↓bQ,↓cw,↓gY,↓k8,↓dg,↓dM,↓dr];rw[Kerb.M5]
theorem ad6:Wk 249 8 Ix:=by
 refine cC Tryz.func249 rfl fun xs bl r h=> ?_;unfold Ix at h;split at h;case h_2=>cases h
 rename_i op ux uy uz kv rl tk sv ins bx;obtain⟨aC,rfl⟩:=dj h;refine cA (aG (!Kerb.mT op) (Zp (Zz .i64 40,[])) (aG (!op==2) (Zy (nD [Yu [Zx ux,Zx uy,Zx uz]] []) (kL fun b=>aG (!b) (Zp (Zz .i64 103,[])) (aG (Zj ((↑(Zu bx):Int)>1012)) (Zp (Zz .i64 105,[])) (aG (!kv==0) (Zp (Zz .i64 108,[])) (aG (!rl==[]) (Zp (Zz .i64 108,[])) (aG (Zj ((↑(Zu tk):Int)>0)) (Zp (Zz .i64 108,[])) (aG (!sv==[]) (Zp (Zz .i64 108,[])) (aG (!ins==[]) (Zp (Zz .i64 108,[])) (Zp (Zz .i64 0,[])))))))))) (Zy (Cd [Zx rl] []) (kL fun b=>aG (!b) (Zp (Zz .i64 103,[])) (Zy (uL [Zx sv] []) (kL fun b=>aG (!b) (Zp (Zz .i64 103,[])) (Zy (rK [Zx ins] []) (kL fun b=>aG (!b) (Zp (Zz .i64 103,[])) (aG (!Zn kv 255) (Zp (Zz .i64 104,[])) (aG (Zj ((↑(Zu tk):Int)>255)) (Zp (Zz .i64 105,[])) (aG (Zj ((↑(Zu bx):Int)>1012)) (Zp (Zz .i64 105,[])) (aG (!(ux==[]&&(uy==[]&&uz==[]))) (Zp (Zz .i64 108,[])) (Zp (Zz .i64 0,[])))))))))))))) (by kernel_rfl) ?_;delta kL;dsimp only[nD,Cd,uL,rK,aJ,aV,ar,c9,ag,cL,c7];simp only[Zk,Qa2] at aC;simp only[A0];rw[ae (by simp;omega),ae (by simp;omega),ae (by simp;omega),ae (by simp;omega)];unfold Kerb.aP;simp only;cases h0:Kerb.mT op
 ·rfl
 rw[Zd,aF,Qa0 (by simp)];cases h1:(op==2)
 ·rw[Bool.not_false,cc,Qa0 (by simp)];cases h2:Kerb.bn.valid ⟨ux,uy,uz⟩
  ·rfl
  rw[Zd,aF,Qa0 (by simp)];by_cases h3:1012<bx.length
  ·rw[af (by simp;omega),Qa1 h3]
  rw[ai (by simp;omega),Qa0 h3];by_cases h4:kv=0;case neg=>rw[af (by simpa using h4),Qa1 (.inl h4)]
  rw[ai (by simp[h4])];by_cases h5:rl=[];case neg=>rw[af (by simpa using h5),Qa1 (.inr (.inl h5))]
  rw[ai (by simp[h5])];by_cases h6:tk=[];case neg=>rw[af (by have:=List.length_pos_iff.2 h6;simp;omega),Qa1 (.inr (.inr (.inl h6)))]
  rw[ai (by simp[h6])];by_cases h7:sv=[];case neg=>rw[af (by simpa using h7),Qa1 (.inr (.inr (.inr (.inl h7))))]
  rw[ai (by simp[h7])];by_cases h8:ins=[];case neg=>rw[af (by simpa using h8),Qa1 (.inr (.inr (.inr (.inr h8))))]
  rw[ai (by simp[h8]),Qa0 (by simp[h4,h5,h6,h7,h8])]
 ·rw[Zd,aF,Qa1 rfl];cases h2:Kerb.dI rl
  ·rfl
  rw[Zd,aF];cases h3:Wx sv
  ·rfl
  rw[Zd,aF];cases h4:Kerb.cl ins
  ·rfl
  rw[Zd,aF,Qa0 (by simp)];cases h5:Zn kv 255
  ·rfl
  rw[Zd,aF,Qa0 (by simp)];by_cases h6:255<tk.length
  ·rw[af (by simp;omega),Qa1 (.inl h6)]
  rw[ai (by simp;omega)];by_cases h7:1012<bx.length
  ·rw[af (by simp;omega),Qa1 (.inr h7)]
  rw[ai (by simp;omega),Qa0 (by omega)];show aG (!(Kerb.bn.zZ ⟨ux,uy,uz⟩)) _ _=_;cases Kerb.bn.zZ ⟨ux,uy,uz⟩<;>rfl
theorem w9:Wk 9 9 X_:=by
 refine cC Tryz.func9 rfl fun xs bl r h=> ?_;unfold X_ at h;split at h;case h_2=>cases h
 rename_i kd bx se gW de li hw;obtain⟨aC,rfl⟩:=dj h;refine cA (let t0:UInt8:=UInt8.ofNat (Yb (Xf (↑(Yd kd):Int) (↑(Yd (10:UInt8)):Int)));let t1:List AV:=[Yu [Zq [],Zz .i64 0,Zz .i64 0,Zz .i64 (Zw .i64 (↑(Yd de):Int))],Zv li,Zz .u64 (Wv se)];Zy (Kc [Yu [Zm kd,Zm bx,Zm se,Zm gW,Zm de,Zv li,Zz .u16 hw]] []) (kB fun b=>UW [Zz .i64 (Zw .i64 (↑(Yd kd):Int))] fun bT dV eA=>Zy (aG (t0==(0:UInt8)) (Zy (Kh [Yu [Zv li,Zx bT,Zx dV,Zx eA,Zz .i64 0,Zz .i64 0,Zz .i64 0,Zq b]] []) (kT fun vs=>aV vs fun b r=>ag .i64 r fun n r=>ak r (Zp [Zm kd,Zm bx,Zm se,Zm gW,Zm de,Zv li,Zz .u16 hw,Zq [],Zq b]))) (aG (t0==(1:UInt8)) (Zp [Zm kd,Zm bx,Zm se,Zm gW,Zm de,Zv li,Zz .u16 hw,Zq [],Zq (Kerb.kP.val (Kerb.bf (Kerb.cI.mk li Yw 0 [(82:UInt8)] (Kerb.oK gW de) b)))]) (aG (t0==(2:UInt8)) (Zp [Zm kd,Zm bx,Zm se,Zm gW,Zm de,Zv li,Zz .u16 hw,Zq [],Zq (Kerb.kP.val (Kerb.cS (Kerb.fu.mk (Kerb.cI.mk li Yw 0 [(82:UInt8)] (Kerb.oK gW de) (Kerb.oK gW de)) 0 0 [(115:UInt8)] [])))]) (aG (t0==(3:UInt8)) (Zp [Zm kd,Zm bx,Zm se,Zm gW,Zm de,Zv li,Zz .u16 hw,Zq [],Zq (Kerb.kP.val (Kerb.b_ b li))]) (aG (t0==(4:UInt8)) (Zp [Zm kd,Zm bx,Zm se,Zm gW,Zm de,Zv li,Zz .u16 hw,Zq [],Zq (Kerb.kP.val (Kerb.aP (Kerb.c6.mk 2 (Kerb.bn.mk [] [] []) 0 [(82:UInt8)] (Kerb.oK gW de) [(115:UInt8)] [] b)))]) (aG (t0==(5:UInt8)) (Zp [Zm kd,Zm bx,Zm se,Zm gW,Zm de,Zv li,Zz .u16 hw,Zq [],Zq (Kerb.kP.val (Kerb.bu (Kerb.iC.mk 1 0 b)))]) (aG (t0==(6:UInt8)) (Zy (Ki [Yu [Zz .i64 (Zw .i64 (1+Xf (Zw .i64 (Xx (Zw .i64 (↑(Yd kd):Int)) 10)) 3)),Zx bT,Zx dV,Zx eA,Zq b]] []) (kT fun vs=>aV vs fun b r=>ag .i64 r fun n r=>ak r (Zp [Zm kd,Zm bx,Zm se,Zm gW,Zm de,Zv li,Zz .u16 hw,Zq [],Zq b]))) (aG (t0==(7:UInt8)) (Zy (Qw t1 []) (kT fun vs=>aV vs fun b r=>ag .i64 r fun n r=>ak r (Zp [Zm kd,Zm bx,Zm se,Zm gW,Zm de,Zv li,Zz .u16 hw,Zq [],Zq b]))) (aG (t0==(8:UInt8)) (Zy (Qx t1 []) (kT fun vs=>aV vs fun b r=>ag .i64 r fun n r=>ak r (Zp [Zm kd,Zm bx,Zm se,Zm gW,Zm de,Zv li,Zz .u16 hw,Zq [],Zq b]))) (Zp [Zm kd,Zm bx,Zm se,Zm gW,Zm de,Zv li,Zz .u16 hw,Zq [],Zq b])))))))))) fun l=>c9 l fun b r=>c9 r fun b r=>c9 r fun b r=>c9 r fun b r=>c9 r fun b r=>ar r fun b r=>ag .u16 r fun n r=>aV r fun b r=>aV r fun b r=>ak r (aG (Xf n 32==13) (Zy (Kj [Zq b,Zz .u16 (Zw .u16 (Xx n 32))] []) (kB fun b=>Zp (Zq b,[]))) (Zp (Zq b,[]))))) (by kernel_rfl) ?_;unfold UW;delta kT kA kB;dsimp only[Kc,Kg,Kh,Ki,Qw,Qx,Kj,aJ,aV,ar,c9,ag,cL,c7];have hh:=aC;simp only[Zk,Qa2] at aC;have L:∀ b:List UInt8,b.length<=39->Zj (b.length<=9223372036854775807)=Yk:=fun b h=>Qa4 (by omega);have k1:∀ n,Zj (0<=Wv n)=Yk:=fun n=>Qa4 (Kerb.rj n).1;have k2:∀ n,Zj (Wv n<18446744073709551616)=Yk:=fun n=>Qa4 (Kerb.rj n).2;have s1:∀ n,Zj (0<=Xb n)=Yk:=fun n=>Qa4 (Kerb.rG n).1;have s2:∀ n,Zj (Xb n<18446744073709551616)=Yk:=fun n=>Qa4 (Kerb.rG n).2;have hb:=Kerb.SX kd;have u1:Zj (0<=Go.IntKind.wrap .i64 (kd.toNat:Int))=Yk:=Qa4 hb.1;have u2:Zj (Go.IntKind.wrap .i64 (kd.toNat:Int)<=4611686018427387904)=Yk:=Qa4 (by omega);obtain⟨a1,a2,a3⟩:=Kerb.yt (Go.IntKind.wrap .i64 (kd.toNat:Int))
 have hR:UInt8.ofNat (Yb (Xf (kd.toNat:Int) ((10:UInt8).toNat:Int)))=Xd kd 10:=rfl;simp only[↓N2,hh,u1,u2,L _ a1,L _ a2,L _ a3,k1,k2,Yf,hR];have w1:Zj (0<=Go.IntKind.wrap .u16 (Xx hw 32))=Yk:=Qa4 (Kerb.wX aC.1 aC.2 (by decide)).1;have w2:Zj (Go.IntKind.wrap .u16 (Xx hw 32)<=65535)=Yk:=Qa4 (Kerb.wX aC.1 aC.2 (by decide)).2;refine Gb (P:=fun a=>a=[.u8 kd,.u8 bx,.u8 se,.u8 gW,.u8 de,.bool li,.int .u16 hw,.bs [],.bs (Kerb.qm ⟨kd,bx,se,gW,de,li,hw⟩)]) ⟨_,?_,rfl⟩ ?_
 ·unfold Kerb.qm;try dsimp only
  by_cases hc:Xd kd 10=0
  ·rw[af (by simpa using hc),Qa1 hc]
  rw[ai (by simpa using hc),Qa0 hc];clear hc;by_cases hc:Xd kd 10=1
  ·rw[af (by simpa using hc),Qa1 hc]
  rw[ai (by simpa using hc),Qa0 hc];clear hc;by_cases hc:Xd kd 10=2
  ·rw[af (by simpa using hc),Qa1 hc]
  rw[ai (by simpa using hc),Qa0 hc];clear hc;by_cases hc:Xd kd 10=3
  ·rw[af (by simpa using hc),Qa1 hc]
  rw[ai (by simpa using hc),Qa0 hc];clear hc;by_cases hc:Xd kd 10=4
  ·rw[af (by simpa using hc),Qa1 hc]
  rw[ai (by simpa using hc),Qa0 hc];clear hc;by_cases hc:Xd kd 10=5
  ·rw[af (by simpa using hc),Qa1 hc]
  rw[ai (by simpa using hc),Qa0 hc];clear hc;by_cases hc:Xd kd 10=6
  ·rw[af (by simpa using hc),Qa1 hc]
  rw[ai (by simpa using hc),Qa0 hc];clear hc;by_cases hc:Xd kd 10=7
  ·rw[af (by simpa using hc),Qa1 hc]
  rw[ai (by simpa using hc),Qa0 hc];clear hc;by_cases hc:Xd kd 10=8
  ·rw[af (by simpa using hc),Qa1 hc]
  rw[ai (by simpa using hc),Qa0 hc]
 rintro a rfl;have hl:=Kerb.zD ⟨kd,bx,se,gW,de,li,hw⟩;have w3:Zj ((Kerb.qm ⟨kd,bx,se,gW,de,li,hw⟩).length<=1000000)=Yk:=Qa4 (by omega);unfold Kerb.zG;dsimp only;generalize Kerb.qm ⟨kd,bx,se,gW,de,li,hw⟩=B at w3 ⊢;simp only[↓N2,w1,w2,w3,k1,k2,Yf];cases Xf hw 32==13
 ·simp only[↓A0,A0,aF,Qa7]
 ·simp only[↓A0,A0,cc,Qa6]
theorem w74:Wk 74 9 Na:=by
 refine cC Tryz.func74 rfl fun xs bl r h=> ?_;unfold Na at h;split at h;case h_2=>cases h
 rename_i b little;obtain⟨aC,rfl⟩:=dj h;refine cA (let t0:Option (AV×aw):=Zp (Zh [Yu [Zz .u64 0,Zx [],Zx [],Zx [],Zz .i64 0,Zz .i64 0,Zq [],Zz .i64 0],Zz .i64 100],[]);sZ [Zq b,Zz .i64 1,Zz .i64 8] fun bT n bh=>CC [Zq bT] fun bG dV=>CB [Zq b,Zz .i64 n] fun eA fg gh n dd=>qO [Zq b,Zz .i64 n] fun n bR bM=>qO [Zq b,Zz .i64 bR] fun fV fM ie=>qO [Zq b,Zz .i64 fM] fun lj kq gP=>sZ [Zq b,Zz .i64 kq,Zz .i64 lj] fun gS iE gJ=>wG [Zq b,Zz .i64 iE,Zv little] fun bE iV f_=>let t1:AV:=Yu [Zz .u64 bG,Zx eA,Zx fg,Zx gh,Zz .i64 n,Zz .i64 fV,Zq gS,Zz .i64 bE];Zy (H9 [t1,Zv little] []) (kT fun vs=>aV vs fun gH r=>ag .i64 r fun n r=>ak r (aG (!n==0) t0 (aG (!gH==b) t0 (Zp (Zh [t1,Zz .i64 0],[])))))) (by kernel_rfl) ?_;unfold qO CB wG sZ CC;delta kT;dsimp only[uI,yd,vH,sW,ye,H9,aJ,aV,ar,c9,ag,cL,c7];have hb:=Qa3 aC;have jQ:Zj (b.length<=4611686018427387904)=Yk:=by simp;omega
 have vT:=Kerb.gI b 1 8;simp only[A0];unfold Kerb.bt;have l1:=Kerb.pR b (Ww b 1 8).next
 have l2:=Kerb.dR (Ww b 1 8).val;rw[ae aC,ae (by simp;omega),ae jQ,ae jQ,ae jQ,ae jQ,ae aC,ae jQ,ae (by simp;omega)];obtain⟨R,hR⟩:∃ R,R=Kerb.jh b little:=⟨_,rfl⟩;have e:=hR.symm;unfold Kerb.jh at e;dsimp only at e;have e2:Kerb.fO.mk (Kerb.cF (Ww b 1 8).val).1 (Kerb.bn.mk (Wu b (Ww b 1 8).next).val.name (Wu b (Ww b 1 8).next).val.inst (Wu b (Ww b 1 8).next).val.aL) _ _ _ _=R:=e;rw[e2,<-hR];by_cases h1:(Kerb.bp R little).err=0
 ·rw[ai (by simp[h1])];by_cases h2:(Kerb.bp R little).val=b
  ·rw[ai (by simp[h2]),Qa0 (by simp[h1,h2]),hR];rfl
  ·rw[af (by simpa using h2),Qa1 (.inr h2)];rfl
 ·rw[af (by simpa using h1),Qa1 (.inl h1)];rfl
theorem aca:Wk 118 9 HW:=by
 refine cC Tryz.func118 rfl fun xs bl r h=> ?_;unfold HW at h;split at h;case h_2=>cases h
 rename_i b;obtain⟨aC,rfl⟩:=dj h;refine cA (let t1:AV:=Yu [Zv Yw,Zx [],Zx [],Zx [],Zz .i64 0,Zz .i64 0,Zz .i64 0,Zq []];let t2:List AV:=[Zv (Zb (Yg b [2]))];let t0:Option (AV×aw):=Zp (Zh [t1,Zz .i64 100],[]);aG (!Zg (Yg b [2])==0) (Zp (Zh [t1,Zz .i64 (Zg (Yg b [2]))],[])) (CB [Zq b,Zz .i64 2] fun bT dV eA n bh=>wG (Zq b::Zz .i64 n::t2) fun n bG dd=>qO [Zq b,Zz .i64 bG] fun bR bM fV=>wG (Zq b::Zz .i64 bM::t2) fun fM ie lj=>qO [Zq b,Zz .i64 ie] fun kq gP iE=>CD (Zq b::Zz .i64 gP::t2) fun gJ bE iV=>sZ [Zq b,Zz .i64 bE,Zz .i64 gJ] fun fg f_ dS=>let t3:AV:=Yu [Zv (Zb (Yg b [2])),Zx bT,Zx dV,Zx eA,Zz .i64 n,Zz .i64 fM,Zz .i64 kq,Zq fg];Zy (Ig [t3] []) (kT fun vs=>aV vs fun gh r=>ag .i64 r fun n r=>ak r (aG (!n==0) t0 (aG (!gh==b) t0 (Zp (Zh [t3,Zz .i64 0],[]))))))) (by kernel_rfl) ?_;unfold qO CB wG sZ CD;delta kT;dsimp only[uI,yd,vH,sW,yk,Ig,aJ,aV,ar,c9,ag,cL,c7];have hb:=Qa3 aC;have jQ:Zj (b.length<=4611686018427387904)=Yk:=by simp;omega
 simp only[A0];unfold Kerb.bj;by_cases h:(Yg b [2]).2=0
 ·have l1:=Kerb.pR b 2;rw[ai (by simp[h]),ae jQ,ae jQ,ae jQ,ae jQ,ae jQ,ae jQ,ae aC,ae (by simp;omega),Qa0 (by simpa using h)];obtain⟨R,hR⟩:∃ R,R=Kerb.ji b:=⟨_,rfl⟩;have e:=hR.symm;unfold Kerb.ji at e;dsimp only at e;have e2:Kerb.jy.mk (Yg b [2]).1 (Kerb.bn.mk (Wu b 2).val.name (Wu b 2).val.inst (Wu b 2).val.aL) _ _ _ _=R:=e;rw[e2,<-hR];by_cases h1:(Kerb.bc R).err=0
  ·rw[ai (by simp[h1])];by_cases h2:(Kerb.bc R).val=b
   ·rw[ai (by simp[h2]),Qa0 (by simp[h1,h2]),hR];rfl
   ·rw[af (by simpa using h2),Qa1 (.inr h2)];rfl
  ·rw[af (by simpa using h1),Qa1 (.inl h1)];rfl
 ·rw[af (by simpa using h),Qa1 h];rfl
theorem acd:Wk 120 9 HY:=by
 refine cC Tryz.func120 rfl fun xs bl r h=> ?_;unfold HY at h;split at h;case h_2=>cases h
 rename_i b;obtain⟨aC,rfl⟩:=dj h;refine cA (let t1:AV:=Yu [Zv Yw,Zv Yw,Zz .i64 0,Zx [],Zq [],Zq [],Zz .i64 0,Zz .i64 0,Zx [],Zx []];let t0:Option (AV×aw):=Zp (Zh [t1,Zz .i64 100],[]);aG (!Zg (Yg b [3])==0) (Zp (Zh [t1,Zz .i64 (Zg (Yg b [3]))],[])) (Zy (B5 [Zq b] []) (kT fun vs=>aA vs fun x r=>AV.cV x fun cs=>ar cs fun bT dq=>ar dq fun dV dA=>ag .i64 dA fun n dJ=>aJ dJ fun eA eI=>aV eI fun fg fI=>aV fI fun gh ga=>ak ga (ag .i64 r fun bh r=>ak r (wG [Zq b,Zz .i64 bh,Zv (Zb (Yg b [3]))] fun bG dd bR=>qO [Zq b,Zz .i64 dd] fun bM fV fM=>wH [Zq b,Zz .i64 fV] fun gS ie lj=>wH [Zq b,Zz .i64 ie] fun gH kq gP=>let t2:AV:=Yu [Zv bT,Zv dV,Zz .i64 n,Zx eA,Zq fg,Zq gh,Zz .i64 bG,Zz .i64 bM,Zx gS,Zx gH];Zy (Ih [t2] []) (kT fun vs=>aV vs fun ja r=>ag .i64 r fun n r=>ak r (aG (!n==0) t0 (aG (!ja==b) t0 (Zp (Zh [t2,Zz .i64 0],[])))))))))) (by kernel_rfl) ?_;unfold qO wG wH;delta kT;dsimp only[uI,vH,yf,B5,Ih,aJ,aV,ar,c9,ag,cL,c7];have hb:=Qa3 aC;have jQ:Zj (b.length<=4611686018427387904)=Yk:=by simp;omega
 obtain⟨g1,g2,g3⟩:=Kerb.BN b (Yg b [3]).1;have e1:∀ p,Zj ((Kerb.text b p).val.length<=9223372036854775807)=Yk:=fun p=>by have:=Kerb.fS b p;simp;omega
 unfold Kerb.bZ;by_cases h:(Yg b [3]).2=0;case neg=>rw[af (by simpa using h),Qa1 h];rfl
 rw[ai (by simpa using h),Qa0 (by simpa using h)];have g4:Zj ((Kerb.jP b).val.aL.length<=9223372036854775807)=Yk:=Qa4 (show(Kerb.jP b).val.aL.length<=9223372036854775807 from g1);simp only[aC,jQ,g4,e1,Qb4,Yf,↓A0,A0];exact Kerb.cY (b:=b) (no:=Kerb.ud) (enc:=Kerb.cS) (rd:=fun b=>(Kerb.o0 b (Yg b [3]).1,Yw)) _ Yw rfl (fun x e=>(Zh [.agg [.bool (x).ap.little,.bool (x).ap.cW,.int .i64 (x).ap.br,.str (x).ap.aL,.bs (x).ap.aH,.bs (x).ap.fm,.int .i64 (x).time,.int .i64 (x).bL,.str (x).service,.str (x).inst],Zz Zf e],([]:aw)))
end Go.Proofs.YteafbgcimcpfiaaGreat
