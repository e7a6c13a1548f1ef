/- What the functions of this seat compute. -/
import Derived.Test.YteafbgcimcpfiaaGreatWalk2
set_option linter.all false
open Go.IntKind renaming i64->AI,u64->AT
open Go.Abs.AV renaming int->Zz,bool->Zx,bs->Zw,str->Zu,aQ->Zn,ptr->Yy,agg->Yw,aw->Yd,undef->Xj,cS->Xd,aH->Xg
open Option renaming bind->Zy,some->Zg
open List renaming length->Zv,getD->Yn,set->Xz
open Go.IntKind renaming wrap->Zq,i64->Zp,bits->Xq,u64->Xn
open Prod renaming snd->Zj,fst->Zk
open Int renaming toNat->Zd,eq_ofNat_of_zero_le->Yf,toNat_natCast->Ym
open Decidable renaming decide->Zf
open Bool renaming and_eq_true->Zb,false->Zm,not_true->Yg,true->Xw,and_self->Xu,false_or->Wp
open Nat renaming le_trans->Zh,blt->Xb
open Kerb renaming ai->Yz,aM->Yx,ar->Yv,within->Yq,get->Yj,aj->Yp,bytes->Yb,iw->Yh,dN->Xy,text->Xx,header->Xk,bj->Xf,cK->Xm,aY->Xh,swp_size->Wy,c9->Wx,bz->Wq
open Kerb.Client renaming av->Yu
open Kerb.Cache renaming av->Yk
open Kerb.Got renaming err->Xv,next->Wu,val->Wj
open Kerb.Head renaming kind->Xp
open UInt8 renaming toNat->Wz
open Array renaming setIfInBounds->Ww
open Sum renaming inl->Wv
namespace Go.Proofs.YteafbgcimcpfiaaGreat
open Go Go.Abs Go.Proofs
set_option maxRecDepth 100000
theorem w70:Wk 70 4 Ol:=by
 refine cw Tryz.func70 λ_ _ _ h=> ?_;unfold Ol at h;split at h;case h_2=>cases h
 rename_i k sx sy sz t e rc;obtain⟨ay,rfl⟩:=dg h;refine c6 (Zy (mH [Zz AT k] []) (kL λb=>aE (!b) (Zg (Zn [Zw [],Zz AI 10],[])) (Zy (ld [Yw [Zu sx,Zu sy,Zu sz]] []) (kL λb=>aE (!b) (Zg (Zn [Zw [],Zz AI 103],[])) (aE (!Yq t 4294967295) (Zg (Zn [Zw [],Zz AI 104],[])) (aE (!Yq e 4294967295) (Zg (Zn [Zw [],Zz AI 104],[])) (aE (Zf (t>e)) (Zg (Zn [Zw [],Zz AI 104],[])) (aE (Zf ((Zv rc:Int)>300)) (Zg (Zn [Zw [],Zz AI 105],[])) (Zy (nG [Zz AT k] []) (kB λb=>Zy (ko [Zw b,Yw [Zu sx,Zu sy,Zu sz]] []) (kO λl=>Zy (fv [Zw l,Zz AI t,Zx Zm] []) (kO λl=>Zy (fv [Zw l,Zz AI e,Zx Zm] []) (kO λl=>Zy (mG [Zw l,Zz AI (Zv rc:Int),Zx Zm] []) (kO λl=>aB (room (Zv l+Zv rc) 1) (Zy (jF [Zw (l++rc)] []) (kO λl=>Zg (Zn [Zw l,Zz AI 0],[]))))))))))))))))) ?_;delta kB kO kL;dsimp only[ld,ko,fv,mG,mH,nG,jF,aI,aW,aq,cO,ag,bH,dc];simp only[Zb,Qa2] at ay;simp only[A0,Yu,Yk,Kerb.eL.av];unfold Kerb.dh;simp only;rw[ae (by simp;omega)];cases h1:Kerb.bB k
 .rfl
 rw[Yg,aF,ae (by simp;omega),Qa0 (by simp)];cases h2:Kerb.bn.valid ⟨sx,sy,sz⟩
 .rfl
 rw[Yg,aF,Qa0 (by simp)];have hp4:Kerb.period t e=(Yq t 4294967295&&(Yq e 4294967295&&Zf (t<=e))):=by unfold Kerb.period;rw[Bool.and_assoc]
 rw[hp4];cases h4:Yq t 4294967295
 .rfl
 rw[Yg,aF,Bool.true_and];cases h5:Yq e 4294967295
 .rfl
 rw[Yg,aF,Bool.true_and];by_cases h6:t<=e;case neg=>rw[af (by simp;omega),Qa5 h6];rfl
 rw[ah (by simp;omega),Qa4 h6];rw[Qa0 (by simp)];by_cases h8:300<rc.length
 .rw[af (by simp;omega),Qa1 h8]
 rw[ah (by simp;omega),Qa0 h8];have l2:=Kerb.cV h2;simp only at l2;rw[ae (by simp;omega),ae (by simp[Yv,Yp,Yz,Kerb.dQ];omega),ae (by simp[Yv,Yp,Yz,Kerb.dQ];omega),ae (by simp[Yv,Yp,Yz,Kerb.dQ];omega),ae (by simp[Yv,Yp,Yz,Kerb.dQ];omega),ae (Kerb.cF (by simp[Yv,Yp,Yz,Kerb.dQ];omega)),ae (by simp[Yv,Yp,Yz,Kerb.dQ];omega)];simp[Kerb.dQ]
theorem w73:Wk 73 4 CV:=by
 refine cw Tryz.func73 λ_ _ _ h=> ?_;unfold CV at h;split at h;case h_2=>cases h
 rename_i ks;obtain⟨ay,rfl⟩:=dg h;refine c6 (Zy (bD (λst=>aA st λx r=>AV.aX x λb=>bH 1 r λbW r=>ag AI r λn r=>ag AI r λbf r=>ak r (aE (Zf (bf<n)) (aB (Zf (0<=bf)&&Zf (bf<(Zv bW:Int))&&Xw) (Yd AT (Yn bW (Zd bf) Xj) λbL=>Zy (zQ [Zz AT bL] []) (kL λeg=>aE eg (aB (room (Zv b+Zv [Zz AT bL]) (nat_lit 8)) (Zg (Wv [Xg (b++[Zz AT bL]),AV.sl 1 bW,Zz AI n,Zz AI (Zq AI (bf+1))]))) (Zg (Wv [Xg b,AV.sl 1 bW,Zz AI n,Zz AI (Zq AI (bf+1))]))))) (Zg (Sum.inr (Ex.exit 0,[Xg b,AV.sl 1 bW,Zz AI n,Zz AI bf]))))) [Xg [],AV.sl 1 ks,Zz AI (Zv ks:Int),Zz AI 0]) λ(r:Ex×List AV)=>aA (Zj r) λx dj=>AV.aX x λb=>bH 1 dj λbW dr=>ag AI dr λn dH=>ag AI dH λn eK=>ak eK (jl r.1 none λj=>aE (Nat.beq j 0) (Zg (AV.sl 1 b,[])) none)) ?_;delta kL;dsimp only[zQ,aI,aW,aq,cO,ag,bH,dc];obtain⟨l,rfl,hl,hn⟩:=Kerb.Tr ay;rw[Kerb.gX];refine Kerb.l9 (λi=>[.aH (Kerb.bK (Kerb.ec (l.take i))),.sl 1 (Kerb.bK l),.int AI ((Kerb.bK l).length:Int),.int AI (i:Int)]) l.length (λi hi=> ?_) ⟨(.exit 0,[.aH (Kerb.bK (Kerb.ec l)),.sl 1 (Kerb.bK l),.int AI ((Kerb.bK l).length:Int),.int AI (l.length:Int)]),?_,?_⟩ rfl
 .have hm:(Kerb.ec (l.take i)).length<=100000000:=Zh (List.length_filter_le _ _) (by rw[List.length_take];omega);have hv:=hl _ (Kerb.lv 0 hi);have g3:Zf (0<=l.getD i 0)=Xw:=by simp only[Qa2];exact hv.1
  have g4:Zf (l.getD i 0<18446744073709551616)=Xw:=by simp only[Qa2];exact hv.2
  have hr:Go.Abs.room ((Kerb.ec (l.take i)).length+1) 8=Xw:=Kerb.Gj (by omega);try dsimp only
  simp only[↓A0,A0,Kerb.Ht,Kerb.Sy hi,Kerb.Dp hi,g3,g4,Xu,Bool.and_true,Kerb.yS (show i<=1000000000 by omega),Kerb.cU (Kerb.ec _),List.length_singleton,hr,Kerb.Sg];rw[Kerb.Gz hi];cases Kerb.bB (l.getD i 0)<;>rfl
 .try dsimp only
  simp only[↓A0,A0,Kerb.V_,List.take_length]
 .rfl
theorem aeK:Wk 128 4 jk:=by
 refine cw Tryz.func128 λ_ _ _ h=> ?_;unfold jk at h;split at h;case h_2=>cases h
 rename_i B at_ li bad;obtain⟨ay,rfl⟩:=dg h;refine tK [0] (Zy (Jj [Zw B,Zz AI at_,Zx li] []) (kT λvs=>ag AI vs λn r=>ag AI r λbf r=>ag AI r λbL r=>ak r (Zg (Zz AI n,[[Zw B,Zz AI (bif bad || !bL==0 then at_ else bf),Zx li,Zx (bad || !bL==0)]])))) ?_;delta kT;dsimp only[Jj,aI,aW,aq,cO,ag,bH,dc];simp only[A0];rw[ae ay]
theorem aeL:Wk 129 4 iH:=by
 refine cw Tryz.func129 λ_ _ _ h=> ?_;unfold iH at h;split at h;case h_2=>cases h
 rename_i B at_ li bad;obtain⟨ay,rfl⟩:=dg h;refine tK [0] (Zy (Jl [Zw B,Zz AI at_] []) (kT λvs=>ag AI vs λn r=>ag AI r λbf r=>ag AI r λbL r=>ak r (Zg (Zz AI n,[[Zw B,Zz AI (bif bad || !bL==0 then at_ else bf),Zx li,Zx (bad || !bL==0)]])))) ?_;delta kT;dsimp only[Jl,aI,aW,aq,cO,ag,bH,dc];simp only[A0];rw[ae ay]
theorem aeM:Wk 130 4 oZ:=by
 refine cw Tryz.func130 λ_ _ _ h=> ?_;unfold oZ at h;split at h;case h_2=>cases h
 rename_i B at_ li bad;obtain⟨ay,rfl⟩:=dg h;refine tK [0] (Zy (Jm [Zw B,Zz AI at_,Zx li] []) (kT λvs=>ag AI vs λn r=>ag AI r λbf r=>ag AI r λbL r=>ak r (Zg (Zz AI n,[[Zw B,Zz AI (bif bad || !bL==0 then at_ else bf),Zx li,Zx (bad || !bL==0)]])))) ?_;delta kT;dsimp only[Jm,aI,aW,aq,cO,ag,bH,dc];simp only[A0];rw[ae ay]
theorem aeS:Wk 137 4 I4:=by
 refine cw Tryz.func137 λ_ _ _ h=> ?_;unfold I4 at h;split at h;case h_2=>cases h
 rename_i li x y z ad k lf xj sv ins;obtain⟨ay,rfl⟩:=dg h;refine c6 (Zy (ld [Yw [Zu x,Zu y,Zu z]] []) (kL λb=>aE (!b) (Zg (Zz AI 103,[])) (Zy (u9 [Zu sv] []) (kL λb=>aE (!b) (Zg (Zz AI 103,[])) (Zy (u_ [Zu ins] []) (kL λb=>aE (!b) (Zg (Zz AI 103,[])) (Zy (Cy [Zz AT k] []) (kI AI λn=>aE (!n==2) (Zg (Zz AI 10,[])) (aE (!Yq ad 4294967295) (Zg (Zz AI 104,[])) (aE (!Yq lf 255) (Zg (Zz AI 104,[])) (aE (!Yq xj 4294967295) (Zg (Zz AI 104,[])) (Zg (Zz AI 0,[]))))))))))))) ?_;delta kL kI;dsimp only[ld,u9,u_,Cy,aI,aW,aq,cO,ag,bH,dc];simp only[Zb,Qa2] at ay;obtain⟨⟨⟨⟨⟨⟨h1,h2⟩,h3⟩,h4⟩,h5⟩,h6⟩,h7⟩:=ay;simp only[h1,h2,h3,h4,h5,h6,h7,Qb4,Xu,↓A0,A0];unfold Kerb.dU.err;dsimp only;cases Kerb.bn.valid ⟨x,y,z⟩
 .rfl
 cases Kerb.validName sv
 .rfl
 cases Kerb.cA ins
 .rfl
 simp only[Yg,Xu,aF];by_cases hc:Kerb.iJ k=2;case neg=>rw[af (by simpa using hc),Qa0 (by simp),Qa1 hc]
 rw[ah (by simp[hc]),Qa0 (by simp),Qa0 (by simp[hc])];cases Yq ad 4294967295
 .rfl
 cases Yq lf 255
 .rfl
 cases Yq xj 4294967295
 .rfl
 rfl
theorem aeV:Wk 140 4 I6:=by
 refine cw Tryz.func140 λ_ _ _ h=> ?_;unfold I6 at h;split at h;case h_2=>cases h
 rename_i x y z ck tc tm;obtain⟨ay,rfl⟩:=dg h;refine c6 (Zy (ld [Yw [Zu x,Zu y,Zu z]] []) (kL λb=>aE (!b) (Zg (Zz AI 103,[])) (aE (!Yq ck 4294967295) (Zg (Zz AI 104,[])) (aE (!Yq tc 199) (Zg (Zz AI 104,[])) (aE (!Yq tm 4294967295) (Zg (Zz AI 104,[])) (Zg (Zz AI 0,[]))))))) ?_;delta kL;dsimp only[ld,aI,aW,aq,cO,ag,bH,dc];simp only[A0,Yu,Yk,Kerb.eL.av,ay];unfold Kerb.nJ.check;simp only;cases Kerb.bn.valid ⟨x,y,z⟩
 .rfl
 cases Yq ck 4294967295
 .rfl
 cases Yq tc 199
 .rfl
 cases Yq tm 4294967295<;>rfl
theorem ae4:Wk 149 4 yF:=by
 refine cw Tryz.func149 λ_ _ _ h=> ?_;unfold yF at h;split at h;case h_2=>cases h
 rename_i b;obtain⟨ay,rfl⟩:=dg h;refine c6 (aE (!(Zv b:Int)==8) (Zg (Zn [Zz AT 0,Zx Zm],[])) (Zy (bD (λst=>ag AT st λn r=>aW r λb r=>ag AI r λbf r=>ag AI r λbL r=>ak r (aE (Zf (bL<bf)) (aB (Zf (0<=bL)&&Zf (bL<(Zv b:Int))) (Zg (Wv [Zz AT (Zq AT (↑(BitVec.toNat (BitVec.ofInt (Xq AT) (Zq AT (n*2 ^ min (Zd 8) (Xq AT))) ||| BitVec.ofInt (Xq AT) (Zq AT (↑(Wz (Yn b (Zd bL) (0:UInt8))):Int)))):Int)),Zw b,Zz AI bf,Zz AI (Zq AI (bL+1))]))) (Zg (Sum.inr (Ex.exit 0,[Zz AT n,Zw b,Zz AI bf,Zz AI bL]))))) [Zz AT 0,Zw b,Zz AI (Zv b:Int),Zz AI 0]) λ(r:Ex×List AV)=>ag AT (Zj r) λn dj=>aW dj λb dr=>ag AI dr λbf dH=>ag AI dH λbL eK=>ak eK (jl r.1 none λj=>aE (Nat.beq j 0) (Zy (zQ [Zz AT n] []) (kL λb=>aE (!b) (Zg (Zn [Zz AT 0,Zx Zm],[])) (Zg (Zn [Zz AT n,Zx Xw],[])))) none))) ?_;delta kL;dsimp only[zQ,aI,aW,aq,cO,ag,bH,dc];have hb:=Qa3 ay;unfold Xm;by_cases h8:b.length=8;case neg =>
  rw[af (by simp;omega),Qa0 (by omega)]
 rw[ah (by simp[h8])];refine bQ (λi:Nat=>[Zz Xn (Kerb.jU (b.take i)),Zw b,Zz Zp (b.length:Int),Zz Zp (i:Int)]) (λi=>i<=8) (λi=>8-i)
  (λr=>r=(Ex.exit 0,[Zz Xn (Kerb.jU b),Zw b,Zz Zp (b.length:Int),Zz Zp 8])) 0 (by omega) rfl ?_ ?_
 .intro i hi;simp only[A0];by_cases fY:i<8
  .have hv:=Kerb.vI (l:=b) (i:=i) (by omega);have U_:=Kerb.JL (l:=b.take i) (by simp;omega);rw[af (by simp;omega),ae (by simp;omega),Ym,Kerb.IL _ U_.1 U_.2,wrap_i64 (by omega) (by omega),<-hv];exact⟨_,rfl,i+1,rfl,by omega,by dsimp only;omega⟩
  .rw[ah (by simp;omega)];refine⟨_,rfl,?_⟩;show _=_;rw[List.take_of_length_le (by omega),show i=8 from by omega];rfl
 rintro r rfl;have U_:=Kerb.C1 (l:=b) (by omega);simp only[A0];rw[af (Nat.beq_refl _),ae (by simp;omega)];cases hv:Kerb.bB (Kerb.jU b)
 .rw[Qa0 (by simp)];rfl
 .rw[Qa1 ⟨h8,rfl⟩];rfl
theorem ae_:Wk 155 4 ve:=by
 refine cw Tryz.func155 λ_ _ _ h=> ?_;unfold ve at h;split at h;case h_2=>cases h
 rename_i B at_ bad;obtain⟨ay,rfl⟩:=dg h;refine tK [0] (xk [Zw B,Zz AI at_,Zx Zm] λn bf bL=>aE (!!(bad || !bL==0)) (Zg (Zz AI 0,[[Zw B,Zz AI (bif bad || !bL==0 then at_ else bf),Zx (bad || !bL==0)]])) (Zg (Zz AI n,[[Zw B,Zz AI (bif bad || !bL==0 then at_ else bf),Zx (bad || !bL==0)]]))) ?_;unfold xk;delta kT;dsimp only[wl,aI,aW,aq,cO,ag,bH,dc];have hb:=Qa3 ay;simp only[A0];rw[ae (by simp;omega)];unfold Kerb.gL;cases bad
 .simp only[Wp];generalize hq:(!(_==(0:Int)))=q;cases q<;>rfl
 .rfl
theorem afd:Wk 160 4 yH:=by
 refine cw Tryz.func160 λ_ _ _ h=> ?_;unfold yH at h;split at h;case h_2=>cases h
 rename_i B at_ bad;obtain⟨ay,rfl⟩:=dg h;refine tK [0] (rn [Zw B,Zz AI at_] λn bf bL=>aE (!!(bad || !bL==0)) (Zg (Zz AI 0,[[Zw B,Zz AI (bif bad || !bL==0 then at_ else bf),Zx (bad || !bL==0)]])) (Zg (Zz AI n,[[Zw B,Zz AI (bif bad || !bL==0 then at_ else bf),Zx (bad || !bL==0)]]))) ?_;unfold rn;delta kT;dsimp only[vd,aI,aW,aq,cO,ag,bH,dc];have hb:=Qa3 ay;simp only[A0];rw[ae (by simp;omega)];unfold Kerb.gL;cases bad
 .simp only[Wp];generalize hq:(!(_==(0:Int)))=q;cases q<;>rfl
 .rfl
theorem afi:Wk 165 4 wo:=by
 refine cw Tryz.func165 λ_ _ _ h=> ?_;unfold wo at h;split at h;case h_2=>cases h
 rename_i B at_ bad;obtain⟨ay,rfl⟩:=dg h;refine tK [0] (xk [Zw B,Zz AI at_,Zx Zm] λn bf bL=>Zg (Zz AI n,[[Zw B,Zz AI (bif bL==0 then bf else at_),Zx (bad || !bL==0)]])) ?_;unfold xk;delta kT;dsimp only[wl,aI,aW,aq,cO,ag,bH,dc];have hb:=Qa3 ay;simp only[A0,Yu,Yk,Kerb.eL.av];rw[ae (by simp;omega)];unfold Kerb.qu;rfl
theorem afl:Wk 168 4 CB:=by
 refine cw Tryz.func168 λ_ _ _ h=> ?_;unfold CB at h;split at h;case h_2=>cases h
 rename_i B at_ bad;obtain⟨ay,rfl⟩:=dg h;refine tK [0] (Da [Zw B,Zz AI at_,Zx Zm] λn bf bL=>Zg (Zz AI n,[[Zw B,Zz AI (bif bL==0 then bf else at_),Zx (bad || !bL==0)]])) ?_;unfold Da;delta kT;dsimp only[yL,aI,aW,aq,cO,ag,bH,dc];have hb:=Qa3 ay;simp only[A0,Yu,Yk,Kerb.eL.av];rw[ae (by simp;omega)];unfold Kerb.qu;rfl
theorem afx:Wk 188 4 CD:=by
 refine cw Tryz.func188 λ_ _ _ h=> ?_;unfold CD at h;split at h;case h_2=>cases h
 rename_i b;obtain⟨ay,rfl⟩:=dg h;refine c6 (rn [Zw b,Zz AI 2] λn bf bL=>xn [Zw b,Zz AI bf] λbW dm bU=>rn [Zw b,Zz AI dm] λbO fI fZ=>rn [Zw b,Zz AI fI] λiN kY kr=>tE [Zw b,Zz AI kY,Zz AI bO] λeg gJ jA=>tE [Zw b,Zz AI gJ,Zz AI iN] λeG gO bI=>Zg (Zn [Yw [Zx (Kerb.Head.By (Xf b)),Zx (Xp (Xf b)==4),Zz AI n,Zu bW,Zw eg,Zw eG],Zz AI gO],[])) ?_;unfold rn tE xn;delta kT;dsimp only[vd,tB,yG,aI,aW,aq,cO,ag,bH,dc];have hb:=Qa3 ay;have kf:Zf (b.length<=4611686018427387904)=Xw:=by simp;omega
 simp only[ay,kf,↓A0,A0];rfl
theorem afC:Wk 193 4 Q9:=by
 refine cw Tryz.func193 λ_ _ _ h=> ?_;unfold Q9 at h;split at h;case h_2=>cases h
 rename_i B at_ bad;obtain⟨ay,rfl⟩:=dg h;refine tK [0] (xn [Zw B,Zz AI at_] λb n bf=>aE (!!(bad || !bf==0)) (Zg (Zu [],[[Zw B,Zz AI (bif bad || !bf==0 then at_ else n),Zx (bad || !bf==0)]])) (Zg (Zu b,[[Zw B,Zz AI (bif bad || !bf==0 then at_ else n),Zx (bad || !bf==0)]]))) ?_;unfold xn;delta kT;dsimp only[yG,aI,aW,aq,cO,ag,bH,dc];have hb:=Qa3 ay;simp only[A0];rw[ae (by simp;omega)];unfold Kerb.mF;cases bad
 .simp only[Wp];generalize hq:(!(_==(0:Int)))=q;cases q<;>rfl
 .rfl
theorem afD:Wk 194 4 Jg:=by
 refine cw Tryz.func194 λ_ _ _ h=> ?_;unfold Jg at h;split at h;case h_2=>cases h
 rename_i B at_ bad;obtain⟨ay,rfl⟩:=dg h;refine tK [0] (Da [Zw B,Zz AI at_,Zx Zm] λn bf bL=>aE (!!(bad || !bL==0)) (Zg (Zz AI 0,[[Zw B,Zz AI (bif bad || !bL==0 then at_ else bf),Zx (bad || !bL==0)]])) (Zg (Zz AI n,[[Zw B,Zz AI (bif bad || !bL==0 then at_ else bf),Zx (bad || !bL==0)]]))) ?_;unfold Da;delta kT;dsimp only[yL,aI,aW,aq,cO,ag,bH,dc];have hb:=Qa3 ay;simp only[A0];rw[ae (by simp;omega)];unfold Kerb.gL;cases bad
 .simp only[Wp];generalize hq:(!(_==(0:Int)))=q;cases q<;>rfl
 .rfl
theorem afG:Wk 197 4 Jh:=by
 refine cw Tryz.func197 λ_ _ _ h=> ?_;unfold Jh at h;split at h;case h_2=>cases h
 rename_i B at_ bad;obtain⟨ay,rfl⟩:=dg h;refine tK [0] (rn [Zw B,Zz AI at_] λn bf bL=>Zg (Zz AI n,[[Zw B,Zz AI (bif bL==0 then bf else at_),Zx (bad || !bL==0)]])) ?_;unfold rn;delta kT;dsimp only[vd,aI,aW,aq,cO,ag,bH,dc];have hb:=Qa3 ay;simp only[A0,Yu,Yk,Kerb.eL.av];rw[ae (by simp;omega)];unfold Kerb.qu;rfl
theorem afW:Wk 214 4 sa:=by
 refine cw Tryz.func214 λ_ _ _ h=> ?_;unfold sa at h;split at h;case h_2=>cases h
 rename_i b n;obtain⟨ay,rfl⟩:=dg h;refine c6 (Zy (yN [Zw b,Zz AI n,Zz AI 1,Zx Zm] []) (kO λl=>Zg (AV.bY l,[]))) ?_;delta kO;dsimp only[yN,aI,aW,aq,cO,ag,bH,dc];simp only[Qa2] at ay;simp only[A0];rw[ae (by simp;omega)];rfl
theorem afX:Wk 215 4 qQ:=by
 refine cw Tryz.func215 λ_ _ _ h=> ?_;unfold qQ at h;split at h;case h_2=>cases h
 rename_i b x y z;obtain⟨ay,rfl⟩:=dg h;refine c6 (Zy (qR [Zw b,Zu x] []) (kO λl=>Zy (qR [Zw l,Zu y] []) (kO λl=>Zy (qR [Zw l,Zu z] []) (kO λl=>Zg (AV.bY l,[]))))) ?_;delta kO;dsimp only[qR,aI,aW,aq,cO,ag,bH,dc];simp only[Qa2] at ay;simp only[A0];rw[ae (by simp;omega),ae (by simp[Wq];omega),ae (by simp[Wq];omega)];rfl
theorem afY:Wk 216 4 mI:=by
 refine cw Tryz.func216 λ_ _ _ h=> ?_;unfold mI at h;split at h;case h_2=>cases h
 rename_i b n By;obtain⟨ay,rfl⟩:=dg h;refine c6 (Zy (yN [Zw b,Zz AI n,Zz AI 4,Zx By] []) (kO λl=>Zg (AV.bY l,[]))) ?_;delta kO;dsimp only[yN,aI,aW,aq,cO,ag,bH,dc];simp only[Qa2] at ay;simp only[A0];rw[ae (by simp;omega)];rfl
theorem af5:Wk 223 4 Jo:=by
 refine cw Tryz.func223 λ_ _ _ h=> ?_;unfold Jo at h;split at h;case h_2=>cases h
 rename_i lb t st en k;obtain⟨ay,rfl⟩:=dg h;refine c6 (let t0:Option (AV×aO):=aE (!Yq t 4294967295) (Zg (Zz AI 104,[])) (aE (Kerb.jG lb) (aE (!Yq st 4294967295) (Zg (Zz AI 104,[])) (aE (!Yq en 4294967295) (Zg (Zz AI 104,[])) (aE (!k==0) (Zg (Zz AI 108,[])) (Zg (Zz AI 0,[]))))) (Zy (zQ [Zz AT k] []) (kL λb=>aE (!b) (Zg (Zz AI 10,[])) (aE (!st==0) (Zg (Zz AI 108,[])) (aE (!en==0) (Zg (Zz AI 108,[])) (Zg (Zz AI 0,[])))))));aE (!Kerb.jG lb) (aE (!lb==[(67:UInt8),(80:UInt8),(87:UInt8),(108:UInt8)]) (Zg (Zz AI 80,[])) t0) t0) ?_;delta kL;dsimp only[zQ,aI,aW,aq,cO,ag,bH,dc];have MP:([103,84,71,83]:List UInt8)=Kerb.vM:=rfl;have DV:([103,84,75,84]:List UInt8)=Kerb.ly:=rfl;have Hj:([67,80,87,108]:List UInt8)=Kerb.fO:=rfl;have zW:([67,80,87,100]:List UInt8)=Kerb.lH:=rfl;have MQ:([116,103,115,84]:List UInt8)=Kerb.zu:=rfl;have zg:([116,107,116,71]:List UInt8)=Kerb.p_:=rfl;simp only[A0,Hj,ay];unfold Kerb.aR;simp only;cases ht:Kerb.jG lb
 .rw[Bool.not_false,b_];cases hc:(lb==Kerb.fO)
  .rfl
  rw[Yg,aF,Qa0 (by simp)];cases h1:Yq t 4294967295
  .rfl
  rw[Yg,aF,Qa0 (by simp),aF,Qa0 (by simp)];cases h2:Kerb.bB k
  .rfl
  rw[Yg,aF,Qa0 (by simp)];by_cases h3:st=0;case neg=>rw[af (by simpa using h3),Qa1 (.inl h3)]
  rw[ah (by simp[h3])];by_cases h4:en=0;case neg=>rw[af (by simpa using h4),Qa1 (.inr h4)]
  rw[ah (by simp[h4]),Qa0 (by simp[h3,h4])]
 .rw[Yg,aF,Qa0 (by simp)];cases h1:Yq t 4294967295
  .rfl
  rw[Yg,aF,Qa0 (by simp),b_,Qa1 rfl];cases h2:Yq st 4294967295
  .rfl
  rw[Yg,aF];cases h3:Yq en 4294967295
  .rfl
  rw[Yg,aF,Qa0 (by simp)];by_cases h4:k=0
  .rw[ah (by simp[h4]),Qa0 (by simp[h4])]
  .rw[af (by simpa using h4),Qa1 h4]
theorem agj:Wk 243 4 CL:=by
 refine cw Tryz.func243 λ_ _ _ h=> ?_;unfold CL at h;split at h;case h_2=>cases h
 rename_i b n By;obtain⟨ay,rfl⟩:=dg h;refine c6 (Zy (yN [Zw b,Zz AI n,Zz AI 2,Zx By] []) (kO λl=>Zg (AV.bY l,[]))) ?_;delta kO;dsimp only[yN,aI,aW,aq,cO,ag,bH,dc];simp only[Qa2] at ay;simp only[A0];rw[ae (by simp;omega)];rfl
theorem ago:Wk 248 4 Js:=by
 refine cw Tryz.func248 λ_ _ _ h=> ?_;unfold Js at h;split at h;case h_2=>cases h
 rename_i b at_ most li;obtain⟨ay,rfl⟩:=dg h;refine c6 (Da [Zw b,Zz AI at_,Zx li] λn bf bL=>aE (!bL==0) (Zg (Zn [Zw [],Zz AI 0,Zx Zm],[])) (aE (Zf (n>most)) (Zg (Zn [Zw [],Zz AI 0,Zx Zm],[])) (tE [Zw b,Zz AI bf,Zz AI n] λb n dm=>Zg (Zn [Zw b,Zz AI n,Zx (dm==0)],[])))) ?_;unfold tE Da;delta kT;dsimp only[tB,yL,aI,aW,aq,cO,ag,bH,dc];simp only[Zb,Qa2] at ay;have h1:b.length<=4611686018427387904:=by omega
 simp only[A0,Yu,Yk,Kerb.eL.av,ay,h1,Qb4];unfold Kerb.ew;by_cases h2:(Yj b at_ 2 li).err=0;case neg=>rw[af (by simpa using h2),Qa1 (.inl h2)]
 rw[ah (by simp[h2])];by_cases h3:most<(Yj b at_ 2 li).val
 .rw[af (by simpa using h3),Qa1 (.inr h3)]
 rw[ah (by simpa using h3),Qa0 (by simp[h2,h3])]
theorem agz:Wk 262 4 CP:=by
 refine cw Tryz.func262 λ_ _ _ h=> ?_;unfold CP at h;split at h;case h_2=>cases h
 rename_i s bad;obtain⟨ay,rfl⟩:=dg h;refine c6 (Zy (bD (λst=>aI st λb r=>aI r λbW r=>aq r λeg r=>ag AI r λn r=>ag AI r λbf r=>let t0:Option (List AV ⊕ Ex×List AV):=Zg (Sum.inr (Ex.ret,[Zu b,Zu bW,Zx Zm,Zz AI n,Zz AI bf]));let t1:Bool:=Zf (0<=bf)&&Zf (bf<(Zv b:Int));let t2:Int:=(↑(Wz (Yn b (Zd bf) (0:UInt8))):Int);ak r (aE (Zf (bf<n)) (aB t1 (aE (Zf (t2<(↑(Wz (33:UInt8)):Int))) t0 (aB t1 (aE (Zf (t2>(↑(Wz (126:UInt8)):Int))) t0 (aB t1 (aE (Zf (Kerb.indexOf (Yn b (Zd bf) (0:UInt8)) bW>=0)) t0 (Zg (Wv [Zu b,Zu bW,Zx eg,Zz AI n,Zz AI (Zq AI (bf+1))])))))))) (Zg (Sum.inr (Ex.exit 0,[Zu b,Zu bW,Zx eg,Zz AI n,Zz AI bf]))))) [Zu s,Zu bad,Zx Zm,Zz AI (Zv s:Int),Zz AI 0]) λ(r:Ex×List AV)=>aI (Zj r) λb dj=>aI dj λb dr=>aq dr λb dH=>ag AI dH λn eK=>ag AI eK λn fL=>ak fL (jl r.1 (Zg (Zx b,[])) λj=>aE (Nat.beq j 0) (Zg (Zx Xw,[])) none)) ?_;try dsimp only[aI,aW,aq,cO,ag,bH,dc]
 simp only[Qa2] at ay;refine bQ (λi:Nat=>[Zu s,Zu bad,Zx Zm,Zz Zp (s.length:Int),Zz Zp (i:Int)]) (λi=>i<=s.length/\Kerb.eW s bad=Kerb.eW (s.drop i) bad) (λi=>s.length-i)
  (λr=>∃ i:Nat,r.2=[Zu s,Zu bad,Zx Zm,Zz Zp (s.length:Int),Zz Zp (i:Int)]/\((r.1 = .ret/\Kerb.eW s bad=Zm)\/(r.1 = .exit 0/\Kerb.eW s bad=Xw))) 0 ⟨Nat.zero_le _,rfl⟩ rfl ?_ ?_
 .rintro i ⟨hi,hp⟩;simp only[A0];by_cases fY:i<s.length
  .have hc:(Zf ((0:Int)<=(i:Int))&&Zf ((i:Int)<(s.length:Int)))=Xw:=by simp;omega
   have hd:=Kerb.ou fY;rw[af (by simp;omega),ae hc,Ym];have Te:Kerb.eW (s.drop i) bad=(Kerb.okB bad (s.getD i 0)&&Kerb.eW (s.drop (i+1)) bad):=by rw[hd];rfl
   generalize s.getD i 0=c at *;by_cases h1:c.toNat<33
   .rw[af (by simp;omega)];exact⟨_,rfl,i,rfl,.inl ⟨rfl,by rw[hp,Te];simp[Kerb.okB,h1]⟩⟩
   rw[ah (by simp;omega),ae hc];by_cases h2:126<c.toNat
   .rw[af (by simp;omega)];exact⟨_,rfl,i,rfl,.inl ⟨rfl,by rw[hp,Te];simp[Kerb.okB,h2]⟩⟩
   rw[ah (by simp;omega),ae hc];have h4:=Kerb.p8 c bad;by_cases h3:c∈bad
   .rw[af (by simpa using h4.2 h3)];exact⟨_,rfl,i,rfl,.inl ⟨rfl,by rw[hp,Te];simp[Kerb.okB,h3]⟩⟩
   rw[ah (by have:=mt h4.1 h3;simp;omega),wrap_i64 (by omega) (by omega)];exact⟨_,rfl,i+1,rfl,⟨by omega,by rw[hp,Te];simp[Kerb.okB,h1,h2,h3]⟩,by dsimp only;omega⟩
  .rw[ah (by simp;omega)];exact⟨_,rfl,i,rfl,.inr ⟨rfl,by rw[hp,List.drop_eq_nil_of_le (by omega)];rfl⟩⟩
 .rintro⟨e,l⟩ ⟨i,rfl,⟨rfl,hp⟩ | ⟨rfl,hp⟩⟩
  .simp only[A0,hp]
  .simp only[A0,hp];rfl
theorem agB:Wk 264 4 Jx:=by
 refine cw Tryz.func264 λ_ _ _ h=> ?_;unfold Jx at h;split at h;case h_2=>cases h
 rename_i a b els;obtain⟨ay,rfl⟩:=dg h;refine tK [0] (Zy (bD (λst=>aA st λx r=>AV.aX x λy=>ag AI r λn r=>ag AI r λbf r=>ag AI r λbL r=>ag AI r λdm r=>ak r (aE (Zf (dm>=0)) (Zy (EO [AV.bR 0 27 1,Zz AI dm,Zz AI bL,Zz AI n] [(0,y)]) λr=>aC (Zj r) λx dj=>aD dj (AV.gx (Zk r) λvs=>ak vs (Zg (Wv [Xg x,Zz AI n,Zz AI bf,Zz AI bL,Zz AI (Zq AI (dm-1))])))) (Zg (Sum.inr (Ex.exit 0,[Xg y,Zz AI n,Zz AI bf,Zz AI bL,Zz AI dm]))))) [Xg els,Zz AI a,Zz AI 0,Zz AI (Zq AI (b-a)),Zz AI (Zq AI (Int.tdiv (Zq AI (Zq AI (b-a)-1)) 2))]) λ(r:Ex×List AV)=>aA (Zj r) λx dj=>AV.aX x λy=>ag AI dj λn dr=>ag AI dr λbf dH=>ag AI dH λbL eK=>ag AI eK λdm fL=>ak fL (jl r.1 (Zg (Zn [],[y])) λj=>aE (Nat.beq j 0) (Zy (bD (λst=>aA st λx r=>AV.aX x λy=>ag AI r λn r=>ag AI r λbU r=>ag AI r λbO r=>ak r (aE (Zf (bO>=0)) (aB (Zf (0<=Zq AI (n+bO))&&Zf (Zq AI (n+bO)<(Zv y:Int))&&Xw) (aB (Xb (Zd (Zq AI (n+bO))) (Zv y)&&Xw) (Yd AT (Yn y (Zd (Zq AI (n+bO))) Xj) λfI=>aB (Zf (0<=n)&&Zf (n<(Zv y:Int))&&Xw) (aB (Xb (Zd n) (Zv y)&&Xw) (Yd AT (Yn y (Zd n) Xj) λfZ=>aB (Zf (0<=n)&&Zf (n<(Zv y:Int))&&Xw) (aB (Xb (Zd n) (Zv y)&&Xw) (Yd AT (Yn y (Zd n) Xj) λiN=>aB (Zv [Zz AT fI]==nat_lit 1&&Xw&&Xw&&Xw&&Xb (Zd n) (Zv y)) (aB (Zf (0<=Zq AI (n+bO))&&Zf (Zq AI (n+bO)<(↑(Zv (Xz y (Zd n) (Zz AT fI))):Int))&&Xw) (aB (Xb (Zd (Zq AI (n+bO))) (Zv (Xz y (Zd n) (Zz AT fI)))&&Xw) (Yd AT (Yn (Xz y (Zd n) (Zz AT fI)) (Zd (Zq AI (n+bO))) Xj) λkY=>aB (Zv [Zz AT fZ]==nat_lit 1&&Xw&&Xw&&Xw&&Xb (Zd (Zq AI (n+bO))) (Zv (Xz y (Zd n) (Zz AT fI)))) (Zy (EO [AV.bR 0 27 1,Zz AI bU,Zz AI bO,Zz AI n] [(0,Xz (Xz y (Zd n) (Zz AT fI)) (Zd (Zq AI (n+bO))) (Zz AT fZ))]) λr=>aC (Zj r) λx f_=>aD f_ (AV.gx (Zk r) λvs=>ak vs (Zg (Wv [Xg x,Zz AI n,Zz AI bU,Zz AI (Zq AI (bO-1))])))))))))))))) (Zg (Sum.inr (Ex.exit 2,[Xg y,Zz AI n,Zz AI bU,Zz AI bO]))))) [Xg y,Zz AI n,Zz AI bf,Zz AI (Zq AI (bL-1))]) λ(r:Ex×List AV)=>aA (Zj r) λx f_=>AV.aX x λy=>ag AI f_ λn g7=>ag AI g7 λn iA=>ag AI iA λn io=>ak io (jl r.1 (Zg (Zn [],[y])) λj=>aE (Nat.beq j 2) (Zg (Zn [],[y])) none)) none)) ?_;dsimp only[EO,aI,aW,aq,cO,ag,bH,dc];simp only[Zb,Qa2] at ay;obtain⟨⟨⟨⟨ig,hlen⟩,JO⟩,xe⟩,hb⟩:=ay;obtain⟨d,rfl,hd⟩:=Kerb.nq ig;simp only[Xh] at hlen hb;unfold Kerb.LW;rw[hd];obtain⟨a,rfl⟩:=Yf JO;obtain⟨b,rfl⟩:=Yf (show 0<=b by omega);simp only[Ym];obtain⟨n,hn⟩:∃ n,n=b-a:=⟨_,rfl⟩;simp only[show Zq AI ((b:Int)-(a:Int))=(n:Int) from(Yh (by omega) (by omega)).trans (by omega)];rw[show Zq AI ((n:Int)-1)=(n:Int)-1 from Yh (by omega) (by omega)];obtain⟨k0,Tb⟩:∃ k,k=(n-1) / 2+1:=⟨_,rfl⟩;have htd:Zq AI (Int.tdiv ((n:Int)-1) 2)=(k0:Int)-1:=by
  have:Int.tdiv ((n:Int)-1) 2=(k0:Int)-1:=by
   rcases Nat.eq_zero_or_pos n with h0 | h0
   .subst Tb;rw[h0];rfl
   .rw[show((n:Int)-1)=((n-1:Nat):Int) by omega,show Int.tdiv ((n-1:Nat):Int) 2=(((n-1) / 2:Nat):Int) from rfl];omega
  rw[this];exact Yh (by omega) (by omega)
 rw[htd];unfold Go.Sort.heapSort;rw[<-hn,<-Tb];refine bQ (λs:Array Int×Nat=>[Xg (Kerb.back s.1),Zz AI (a:Int),Zz AI 0,Zz AI (n:Int),Zz AI ((s.2:Int)-1)]) (λs=>s.1.size=d.size/\s.2<=n+1/\(0<s.2->s.2<=n\/s.2=1)/\Go.Sort.heapBuild Go.Sort.ltInt n a s.2 s.1=Go.Sort.heapBuild Go.Sort.ltInt n a k0 d) (λs=>s.2) (λr=>r=(.exit 0,[Xg (Kerb.back (Go.Sort.heapBuild Go.Sort.ltInt n a k0 d)),Zz AI (a:Int),Zz AI 0,Zz AI (n:Int),Zz AI (-1)])/\(Go.Sort.heapBuild Go.Sort.ltInt n a k0 d).size=d.size) (d,k0) ⟨rfl,by dsimp only;omega,by dsimp only;omega,rfl⟩ rfl ?_ ?_
 .rintro⟨e,k⟩ ⟨hs,hk,bq,hr⟩;dsimp only at hs hk bq hr ⊢;simp only[↓bX,↓cH,↓dx,↓dC];cases k with
  | zero =>
   rw[ah (by simp)];refine⟨_,rfl,?_,?_⟩
   .rw[<-hr];rfl
   .rw[<-hr];exact hs
  | succ k =>
   rw[show((k+1:Nat):Int)-1=(k:Int) by omega,af (by simp)];rw[ae (by simp only[Kerb.eo,Xh,Zb,Qa2];refine⟨⟨⟨⟨⟨⟨trivial,?_⟩,?_⟩,?_⟩,?_⟩,?_⟩,?_⟩<;>omega)];simp only[↓gy,↓fm,↓hF,↓lF,↓dC,Kerb.sift,Ym,Kerb.fq];rw[show Zq AI ((k:Int)-1)=(k:Int)-1 from Yh (by omega) (by omega)];refine⟨_,rfl,(Go.Sort.siftDown Go.Sort.ltInt n a k e,k),rfl,⟨by dsimp only;rw[Kerb.wk,hs],by dsimp only;omega,by dsimp only;omega,?_⟩,by dsimp only;omega⟩;dsimp only;rw[<-hr];rfl
 rintro _ ⟨rfl,fV⟩;simp only[↓bX,↓cH,↓dx,↓dC,↓km];rw[af (Nat.beq_refl _)];generalize Go.Sort.heapBuild Go.Sort.ltInt n a k0 d=e0 at fV ⊢;rw[show Zq AI ((n:Int)-1)=(n:Int)-1 from Yh (by omega) (by omega)];refine bQ (λs:Array Int×Nat=>[Xg (Kerb.back s.1),Zz AI (a:Int),Zz AI 0,Zz AI ((s.2:Int)-1)]) (λs=>s.1.size=d.size/\s.2<=n/\Go.Sort.heapPop Go.Sort.ltInt a s.2 s.1=Go.Sort.heapPop Go.Sort.ltInt a n e0) (λs=>s.2) (λr=>∃ x y z,r=(.exit 2,[Xg (Kerb.back (Go.Sort.heapPop Go.Sort.ltInt a n e0)),Zz AI x,Zz AI y,Zz AI z])) (e0,n) ⟨fV,Nat.le_refl _,rfl⟩ rfl ?_ ?_
 .rintro⟨e,k⟩ ⟨hs,hk,hr⟩;dsimp only at hs hk hr ⊢;simp only[↓bX,↓cH,↓dx,↓dC];cases k with
  | zero =>
   rw[ah (by simp)];refine⟨_,rfl,(a:Int),0,((0:Nat):Int)-1,?_⟩;rw[<-hr];rfl
  | succ k =>
   have hp:a<e.size:=by omega
   have hq:a+k<e.size:=by omega
   rw[show((k+1:Nat):Int)-1=(k:Int) by omega,af (by simp)];simp only[show Zq AI ((a:Int)+(k:Int))=((a+k:Nat):Int) from(Yh (by omega) (by omega)).trans (by omega)];rw[Kerb.sw hp hq (λl=>Zy (aB (Kerb.dl l&&Zf ((Zv l:Int)<=1152921504606846976)&&Zf ((0:Int)<=0)&&Zf ((0:Int)<=(k:Int))&&Zf ((0:Int)<=(a:Int))&&Zf ((a:Int)+(k:Int)<=(Zv l:Int))&&Zf ((0:Int)<=(Zv l:Int))) (Zg (Zn [],[Kerb.sift l (0:Int) (k:Int) (a:Int)]))) λr:AV×aO=>aC (Zj r) λx dj=>aD dj (AV.gx (Zk r) λvs=>ak vs (Zg (Wv [Xg x,Zz AI (a:Int),Zz AI 0,Zz AI (Zq AI ((k:Int)-1))]))))];rw[ae (by simp only[Kerb.eo,Xh,Wy,Zb,Qa2];refine⟨⟨⟨⟨⟨⟨trivial,?_⟩,?_⟩,?_⟩,?_⟩,?_⟩,?_⟩<;>omega)];simp only[↓gy,↓fm,↓hF,↓lF,↓dC,Kerb.sift,Ym,Kerb.fq];rw[show Zq AI ((k:Int)-1)=(k:Int)-1 from Yh (by omega) (by omega)];refine⟨_,rfl,(Go.Sort.siftDown Go.Sort.ltInt k a 0 (Go.Sort.swp e a (a+k)),k),rfl,⟨by dsimp only;rw[Kerb.wk,Wy,hs],by dsimp only;omega,?_⟩,by dsimp only;omega⟩;dsimp only;rw[<-hr];rfl
 .rintro _ ⟨x,y,z,rfl⟩;simp only[↓bX,↓cH,↓dx,↓dC,↓km];rw[af (Nat.beq_refl _)]
theorem agC:Wk 265 4 Jy:=by
 refine cw Tryz.func265 λ_ _ _ h=> ?_;unfold Jy at h;split at h;case h_2=>cases h
 rename_i a b els;obtain⟨ay,rfl⟩:=dg h;refine tK [0] (aE (Zf (Zq AI (b-a)>=8)) (Zy (JD [Zz AI (Zq AI (b-a))] []) (kI AT λn=>Zy (bD (λst=>aA st λx r=>AV.aX x λy=>ag AI r λn r=>ag AI r λbf r=>let t0:Int:=Zq AI (Zq AI (n+Zq AI (Zq AI (Int.tdiv bf 4)*2))+1);ag AT r λbL r=>ag AT r λdm r=>let t1:BitVec (Xq AT):=BitVec.ofInt (Xq AT) (Zq AT (dm-1));ag AI r λbU r=>let t2:Bool:=Zf (0<=bU)&&Zf (bU<(Zv y:Int))&&Xw;let t3:Bool:=Xb (Zd bU) (Zv y)&&Xw;ak r (aE (Zf (bU<=t0)) (Zy (JE [Yy 0 0] [(0,[Zz AT bL])]) λr=>aC (Zj r) λx dj=>ag AT x λbO dr=>let t4:List AV:=[Zz AI n,Zz AI bf,Zz AT bO,Zz AT dm,Zz AI (Zq AI (bU+1))];ak dr (aD dj (Yd AT (Zk r) λfI=>let t7:Int:=Zq AI (Zq AT (↑(BitVec.toNat (BitVec.ofInt (Xq AT) fI &&& t1)):Int));let t5:Int:=Zq AI (n+Zq AI (t7-bf));let t6:Int:=Zq AI (n+t7);aE (Zf (t7>=bf)) (aB (Zf (0<=t5)&&Zf (t5<(Zv y:Int))&&Xw) (aB (Xb (Zd t5) (Zv y)&&Xw) (Yd AT (Yn y (Zd t5) Xj) λn=>aB t2 (aB t3 (Yd AT (Yn y (Zd bU) Xj) λfZ=>aB t2 (aB t3 (Yd AT (Yn y (Zd bU) Xj) λiN=>aB (Zv [Zz AT n]==nat_lit 1&&Xw&&Xw&&Xw&&Xb (Zd bU) (Zv y)) (aB (Zf (0<=t5)&&Zf (t5<(↑(Zv (Xz y (Zd bU) (Zz AT n))):Int))&&Xw) (aB (Xb (Zd t5) (Zv (Xz y (Zd bU) (Zz AT n)))&&Xw) (Yd AT (Yn (Xz y (Zd bU) (Zz AT n)) (Zd t5) Xj) λkY=>aB (Zv [Zz AT fZ]==nat_lit 1&&Xw&&Xw&&Xw&&Xb (Zd t5) (Zv (Xz y (Zd bU) (Zz AT n)))) (Zg (Wv (Xg (Xz (Xz y (Zd bU) (Zz AT n)) (Zd t5) (Zz AT fZ))::t4))))))))))))) (aB (Zf (0<=t6)&&Zf (t6<(Zv y:Int))&&Xw) (aB (Xb (Zd t6) (Zv y)&&Xw) (Yd AT (Yn y (Zd t6) Xj) λn=>aB t2 (aB t3 (Yd AT (Yn y (Zd bU) Xj) λfZ=>aB t2 (aB t3 (Yd AT (Yn y (Zd bU) Xj) λiN=>aB (Zv [Zz AT n]==nat_lit 1&&Xw&&Xw&&Xw&&Xb (Zd bU) (Zv y)) (aB (Zf (0<=t6)&&Zf (t6<(↑(Zv (Xz y (Zd bU) (Zz AT n))):Int))&&Xw) (aB (Xb (Zd t6) (Zv (Xz y (Zd bU) (Zz AT n)))&&Xw) (Yd AT (Yn (Xz y (Zd bU) (Zz AT n)) (Zd t6) Xj) λkY=>aB (Zv [Zz AT fZ]==nat_lit 1&&Xw&&Xw&&Xw&&Xb (Zd t6) (Zv (Xz y (Zd bU) (Zz AT n)))) (Zg (Wv (Xg (Xz (Xz y (Zd bU) (Zz AT n)) (Zd t6) (Zz AT fZ))::t4)))))))))))))))) (Zg (Sum.inr (Ex.exit 0,[Xg y,Zz AI n,Zz AI bf,Zz AT bL,Zz AT dm,Zz AI bU]))))) [Xg els,Zz AI a,Zz AI (Zq AI (b-a)),Zz AT (Zq AT (Zq AI (b-a))),Zz AT n,Zz AI (Zq AI (Zq AI (a+Zq AI (Zq AI (Int.tdiv (Zq AI (b-a)) 4)*2))-1))]) λ(r:Ex×List AV)=>aA (Zj r) λx dj=>AV.aX x λy=>ag AI dj λn dr=>ag AI dr λn dH=>ag AT dH λn eK=>ag AT eK λn fL=>ag AI fL λn f_=>ak f_ (jl r.1 (Zg (Zn [],[y])) λj=>aE (Nat.beq j 0) (Zg (Zn [],[y])) none))) (Zg (Zn [],[els]))) ?_;delta kI;dsimp only[JD,JE,aI,aW,aq,cO,ag,bH,dc];simp only[Zb,Qa2] at ay;obtain⟨⟨⟨⟨ig,hlen⟩,JO⟩,xe⟩,hb⟩:=ay;obtain⟨d,rfl,hd⟩:=Kerb.nq ig;simp only[Xh] at hlen hb;obtain⟨a,rfl⟩:=Yf (show 0<=a by omega);obtain⟨b,rfl⟩:=Yf (show 0<=b by omega);simp only[Kerb.E8,Kerb.fq,Ym];obtain⟨l,hl⟩:∃ l,l=b-a:=⟨_,rfl⟩
 rw[show Zq AI ((b:Int)-(a:Int))=((l:Nat):Int) from(Yh (by omega) (by omega)).trans (by omega)];unfold Go.Sort.breakPatterns;dsimp only;rw[<-hl];by_cases h8:l>=8;case neg =>
  rw[ah (by simp;omega),Qa0 h8]
 rw[af (by simp;omega),Qa1 h8,ae (by simp;omega)];simp only[↓gy,↓fm,↓bX,↓hF,↓lF,↓dx,↓dC,↓dR];rw[Kerb.Qo];have hp:=Kerb.Tz (n:=l) (by omega);generalize 1 <<< Go.Sort.bitsLen l=m at hp ⊢;simp only[show Int.tdiv (l:Int) 4=((l / 4:Nat):Int) from rfl,show Zq AI (((l / 4:Nat):Int))=((l / 4:Nat):Int) from(Yh (by omega) (by omega)).trans (by omega),show Zq AI (((l / 4:Nat):Int)*2)=((l / 4*2:Nat):Int) from(Yh (by omega) (by omega)).trans (by omega),show Zq AI ((a:Int)+((l / 4*2:Nat):Int))=((a+l / 4*2:Nat):Int) from(Yh (by omega) (by omega)).trans (by omega),show Zq AI (((a+l / 4*2:Nat):Int)-1)=((a+l / 4*2-1:Nat):Int) from(Yh (by omega) (by omega)).trans (by omega),Kerb.Ow (n:=(l:Int)) (by omega) (by omega)];obtain⟨ix,Y9⟩:∃ ix,ix=a+l / 4*2-1:=⟨_,rfl⟩;rw[<-Y9];rw[show Go.Sort.breakStep a l m (Go.Sort.breakStep a l m (Go.Sort.breakStep a l m (UInt64.ofNat l,d) ix) (ix+1)) (ix+2)=Kerb.Ox a l m ix d 3 from rfl];refine bQ (λk:Nat=>[Xg (Kerb.back (Kerb.Ox a l m ix d k).2),Zz AI (a:Int),Zz AI (l:Int),Zz AT ((Kerb.Ox a l m ix d k).1.toNat:Int),Zz AT (m:Int),Zz AI ((ix+k:Nat):Int)]) (λk=>k<=3) (λk=>3-k) (λr=>∃ n1 n2 n3 n4 n5,r=(.exit 0,[Xg (Kerb.back (Kerb.Ox a l m ix d 3).2),Zz AI n1,Zz AI n2,Zz AT n3,Zz AT n4,Zz AI n5])) 0 (by omega) (by simp[Kerb.Ox];omega) ?_ ?_
 .intro k hk;simp only[↓bX,↓cH,↓dx,↓dC];simp only[show Int.tdiv (l:Int) 4=((l / 4:Nat):Int) from rfl,show Zq AI (((l / 4:Nat):Int))=((l / 4:Nat):Int) from(Yh (by omega) (by omega)).trans (by omega),show Zq AI (((l / 4:Nat):Int)*2)=((l / 4*2:Nat):Int) from(Yh (by omega) (by omega)).trans (by omega),show Zq AI ((a:Int)+((l / 4*2:Nat):Int))=((a+l / 4*2:Nat):Int) from(Yh (by omega) (by omega)).trans (by omega),show Zq AI (((a+l / 4*2:Nat):Int)+1)=((a+l / 4*2+1:Nat):Int) from(Yh (by omega) (by omega)).trans (by omega)];by_cases h3:k<3;case neg =>
   rw[ah (by simp;omega)];rw[show k=3 by omega];exact⟨_,rfl,_,_,_,_,_,rfl⟩
  rw[af (by simp;omega)];have hr:=(Kerb.Ox a l m ix d k).1.toNat_lt;rw[ae (by simp;omega)];simp only[↓gy,↓fm,↓bX,↓hF,↓lF,↓dx,↓dC,↓dR];have dJ:Kerb.Ox a l m ix d (k+1)=Go.Sort.breakStep a l m (Kerb.Ox a l m ix d k) (ix+k):=rfl;have hz:=Kerb.G2 a l m ix d k;generalize Kerb.Ox a l m ix d k=st at dJ hz ⊢;obtain⟨r,e⟩:=st;dsimp only at dJ hz ⊢;unfold Go.Sort.breakStep at dJ;dsimp only at dJ;rw[Kerb.Sl];generalize Go.Sort.xorNext r=r2 at dJ ⊢;have hm:=Kerb.SH r2 (m:=m) (by omega) (by omega);have hand:r2.toNat &&& (m-1)<=m-1:=Nat.and_le_right
  erw [hm]
  generalize r2.toNat &&& (m-1)=o at dJ hand ⊢;have g1:ix+k<e.size:=by omega
  have hw:Zq AI (((ix+k:Nat):Int)+1)=((ix+(k+1):Nat):Int):=(Yh (by omega) (by omega)).trans (by omega);by_cases ho:o>=l
  .rw[Qa1 ho] at dJ;have g2:a+(o-l)<e.size:=by omega
   rw[af (by simp;omega)];simp only[show Zq AI ((o:Int)-(l:Int))=((o-l:Nat):Int) from(Yh (by omega) (by omega)).trans (by omega),show Zq AI ((a:Int)+((o-l:Nat):Int))=((a+(o-l):Nat):Int) from(Yh (by omega) (by omega)).trans (by omega),hw];rw[Kerb.rd g2,Kerb.rd g1,Kerb.wr g1 (by simp[Xh];omega),Kerb.dy,Kerb.wr (by rw[Array.size_setIfInBounds];exact g2) (by simp[Xh];omega),Kerb.dy,show(Ww (Ww e (ix+k) e[a+(o-l)]!) (a+(o-l)) e[ix+k]!)=Go.Sort.swp e (ix+k) (a+(o-l)) from rfl];refine⟨_,rfl,k+1,?_,by dsimp only;omega,by dsimp only;omega⟩;dsimp only;rw[dJ]
  .rw[Qa0 ho] at dJ;have g2:a+o<e.size:=by omega
   rw[ah (by simp;omega)];simp only[show Zq AI ((a:Int)+(o:Int))=((a+o:Nat):Int) from(Yh (by omega) (by omega)).trans (by omega),hw];rw[Kerb.rd g2,Kerb.rd g1,Kerb.wr g1 (by simp[Xh];omega),Kerb.dy,Kerb.wr (by rw[Array.size_setIfInBounds];exact g2) (by simp[Xh];omega),Kerb.dy,show(Ww (Ww e (ix+k) e[a+o]!) (a+o) e[ix+k]!)=Go.Sort.swp e (ix+k) (a+o) from rfl];refine⟨_,rfl,k+1,?_,by dsimp only;omega,by dsimp only;omega⟩;dsimp only;rw[dJ]
 .rintro _ ⟨n1,n2,n3,n4,n5,rfl⟩;simp only[↓bX,↓cH,↓dx,↓dC,↓km];rw[af (Nat.beq_refl _)]
theorem agP:Wk 279 4 Ar:=by
 refine cw Tryz.func279 λ_ _ _ h=> ?_;unfold Ar at h;split at h;case h_2=>cases h
 rename_i a b c els s;obtain⟨ay,rfl⟩:=dg h;refine tK [0,4] (Zy (CS [AV.bR 0 27 1,Zz AI a,Zz AI b,Yy 3 0] [(0,els),(0+1+1+1,[Zz AI s])]) λr=>aC (Zj r) λx dj=>aC dj λx_1 dr=>aA x_1 λx_2 dH=>Yd AI x_2 λn=>ak dH (aD dr (AV.gx (Zk r) λvs=>aA vs λx_3 r=>Yd AI x_3 λbf=>aA r λx_4 r=>Yd AI x_4 λbL=>ak r (Zy (CS [AV.bR 0 27 1,Zz AI bL,Zz AI c,Yy 3 0] [(0,x),(0+1+1+1,[Zz AI n])]) λr=>aC (Zj r) λx eK=>aC eK λx_5 fL=>aA x_5 λx_6 f_=>Yd AI x_6 λn=>ak f_ (aD fL (AV.gx (Zk r) λvs=>aA vs λx_7 r=>Yd AI x_7 λdm=>aA r λx_8 r=>Yd AI x_8 λbU=>ak r (Zy (CS [AV.bR 0 27 1,Zz AI bf,Zz AI dm,Yy 3 0] [(0,x),(0+1+1+1,[Zz AI n])]) λr=>aC (Zj r) λx g7=>aC g7 λx_9 iA=>aA x_9 λx_10 io=>Yd AI x_10 λn=>ak io (aD iA (AV.gx (Zk r) λvs=>aA vs λx_11 r=>Yd AI x_11 λbO=>aA r λx_12 r=>Yd AI x_12 λfI=>ak r (Zg (Zz AI fI,[x,[Zz AI n]]))))))))))) ?_;dsimp only[CS];simp only[Zb,Qa2] at ay;obtain⟨⟨⟨⟨⟨⟨⟨⟨⟨ig,hlen⟩,JO⟩,U7⟩,AG⟩,vt⟩,M1⟩,yV⟩,z7⟩,lh⟩:=ay;obtain⟨d,rfl,hd⟩:=Kerb.nq ig;simp only[Xh] at hlen U7 vt yV;obtain⟨a,rfl⟩:=Yf (show 0<=a by omega);obtain⟨b,rfl⟩:=Yf (show 0<=b by omega);obtain⟨c,rfl⟩:=Yf (show 0<=c by omega);obtain⟨s,rfl⟩:=Yf (show 0<=s by omega);simp only[Kerb.order2,Kerb.median,Kerb.fq,Ym];have h1:=Kerb.rU (lt:=Go.Sort.ltInt) (d:=d) (s:=s) (show a<d.size by omega) (show b<d.size by omega);have h2:=Kerb.rU (lt:=Go.Sort.ltInt) (d:=d) (s:=(Go.Sort.order2 Go.Sort.ltInt d a b s).2.2) h1.2.1 (show c<d.size by omega);rw[ae (by simp only[Kerb.eo,Xh,Wy,Zb,Qa2,Qa9,Qa8];omega)];simp only[↓gy,↓fm,↓bX,↓hF,↓lF,↓dx,↓dC,↓dR];simp only[Kerb.fq,Ym];rw[ae (by simp only[Kerb.eo,Xh,Wy,Zb,Qa2,Qa9,Qa8];omega)];simp only[↓gy,↓fm,↓bX,↓hF,↓lF,↓dx,↓dC,↓dR];simp only[Kerb.fq,Ym];rw[ae (by simp only[Kerb.eo,Xh,Wy,Zb,Qa2,Qa9,Qa8];omega)];simp only[↓gy,↓fm,↓bX,↓hF,↓lF,↓dx,↓dC,↓dR];rfl
theorem w49:Wk 49 5 RQ:=by
 refine cw Tryz.func49 λ_ _ _ h=> ?_;unfold RQ at h;split at h;case h_2=>cases h
 rename_i b;obtain⟨ay,rfl⟩:=dg h;refine c6 (let t1:AV:=Yw [Zx Zm,Zu [],Zu [],Zu [],Zz AI 0,Zz AI 0,Zz AI 0,Zw []];let t0:Option (AV×aO):=Zg (Zn [t1,Zz AI 100],[]);aE (!Zj (Yx b [2])==0) (Zg (Zn [t1,Zz AI (Zj (Yx b [2]))],[])) (Zy (nT [Yy 0 0] [(0,[Zw b,Zz AI 2,Zx (Zk (Yx b [2])),Zx Zm])]) λr=>aC (Zj r) λx dj=>aW x λbW dr=>ag AI dr λn dH=>aq dH λeg eK=>aq eK λeG fL=>ak fL (aD dj (AV.cR (Zk r) λcs=>aI cs λfG r=>aI r λgG r=>aI r λh_ r=>ak r (Zy (jk [Yy 0 0] [(0,[Zw bW,Zz AI n,Zx eg,Zx eG])]) λr=>aC (Zj r) λx f_=>aW x λgY g7=>ag AI g7 λn iA=>aq iA λjH io=>aq io λj7 dA=>ak dA (aD f_ (Yd AI (Zk r) λbf=>Zy (iH [Yy 0 0] [(0,[Zw gY,Zz AI n,Zx jH,Zx j7])]) λr=>aC (Zj r) λx eC=>aW x λfF eD=>ag AI eD λn fl=>aq fl λfM fz=>aq fz λgB fA=>ak fA (aD eC (Yd AI (Zk r) λbL=>Zy (jk [Yy 0 0] [(0,[Zw fF,Zz AI n,Zx fM,Zx gB])]) λr=>aC (Zj r) λx fS=>aW x λgf im=>ag AI im λn iS=>aq iS λhO iT=>aq iT λiL iU=>ak iU (aD fS (Yd AI (Zk r) λdm=>Zy (iH [Yy 0 0] [(0,[Zw gf,Zz AI n,Zx hO,Zx iL])]) λr=>aC (Zj r) λx lN=>aW x λiE lO=>ag AI lO λn lP=>aq lP λiZ lQ=>aq lQ λhU nu=>ak nu (aD lN (Yd AI (Zk r) λbU=>Zy (oZ [Yy 0 0] [(0,[Zw iE,Zz AI n,Zx iZ,Zx hU])]) λr=>aC (Zj r) λx nv=>aW x λjo nw=>ag AI nw λn ny=>aq ny λj6 nz=>aq nz λkJ nA=>ak nA (aD nv (Yd AI (Zk r) λbO=>Zy (gA [Yy 0 0,Zz AI bO] [(0,[Zw jo,Zz AI n,Zx j6,Zx kJ])]) λr=>aC (Zj r) λx qg=>aW x λlJ qh=>ag AI qh λn qi=>aq qi λlq rh=>aq rh λnW ri=>ak ri (aD qg (Xd (Zk r) λnK=>let t2:AV:=Yw [Zx (Zk (Yx b [2])),Zu fG,Zu gG,Zu h_,Zz AI bf,Zz AI dm,Zz AI bU,Zw nK];Zy (Lg [t2] []) (kT λvs=>aW vs λmN r=>ag AI r λn r=>ak r (aE nW t0 (aE (!n==0) t0 (aE (!mN==b) t0 (Zg (Zn [t2,Zz AI 0],[]))))))))))))))))))))))) ?_;delta kT;dsimp only[Lg,nT,jk,iH,oZ,gA,aI,aW,aq,cO,ag,bH,dc];have hb:=Qa3 ay;simp only[A0];by_cases h:(Yx b [2]).2=0;case neg =>
  unfold Kerb.bm;rw[af (by simpa using h),Qa1 h];rfl
 rw[ah (by simp[h]),Kerb.Iy h];rw[ae ay,ae ay,ae ay,ae ay,ae ay,ae ay,ae ay];have lp:=Kerb.k9 b 2 Zm;have hx:∀ q,(Xx b q).val.length<=40:=Kerb.fX b;rw[ae (by simp only[Zb,Qa2];refine⟨⟨Zh lp.1 (by decide),Zh lp.2.1 (by decide)⟩,Zh lp.2.2 (by decide)⟩)];obtain⟨R,hR⟩:∃ R,R=Kerb.kj b:=⟨_,rfl⟩;have eb:_=R.bad:=(Qb5 Kerb.Rd.bad hR).symm;have ev:_=R.val:=(Qb5 Kerb.Rd.val hR).symm;rw[<-hR];unfold Kerb.kj at eb ev;dsimp only[Kerb.dK,Kerb.nE,Kerb.dw] at eb ev;rw[eb];have YD:Kerb.jN.mk (Yx b [2]).1 (Kerb.bn.mk (Xy b 2 Zm).p.name (Xy b 2 Zm).p.inst (Xy b 2 Zm).p.aK) _ _ _ _=R.val:=ev;rw[YD];cases YR:R.bad;case true=>rw[Qa1 (.inl rfl)];rfl
 rw[aF];by_cases h1:(Kerb.bg R.val).err=0
 .rw[ah (by simp[h1])];by_cases h2:(Kerb.bg R.val).val=b
  .rw[ah (by simp[h2]),Qa0 (by simp[h1,h2]),<-YD]
  .rw[af (by simpa using h2),Qa1 (.inr (.inr h2))];rfl
 .rw[af (by simpa using h1),Qa1 (.inr (.inl h1))];rfl
theorem w53:Wk 53 5 RU:=by
 refine cw Tryz.func53 λ_ _ _ h=> ?_;unfold RU at h;split at h;case h_2=>cases h
 rename_i b;obtain⟨ay,rfl⟩:=dg h;refine c6 (aE (!Zj (Yx b [8])==0) (Zg (Zn [Zw [],Zx Zm,Zz AI (Zj (Yx b [8]))],[])) (Zy (oZ [Yy 0 0] [(0,[Zw b,Zz AI 2,Zx (Zk (Yx b [8])),Zx Zm])]) λr=>aC (Zj r) λx dj=>aW x λbW dr=>ag AI dr λn dH=>aq dH λeg eK=>aq eK λeG fL=>ak fL (aD dj (Yd AI (Zk r) λbf=>Zy (gA [Yy 0 0,Zz AI bf] [(0,[Zw bW,Zz AI n,Zx eg,Zx eG])]) λr=>aC (Zj r) λx f_=>aW x λfG g7=>ag AI g7 λn iA=>aq iA λgG io=>aq io λh_ dA=>ak dA (aD f_ (Xd (Zk r) λgY=>aE h_ (Zg (Zn [Zw [],Zx Zm,Zz AI 100],[])) (aE (!Kerb.ll.err (Kerb.cj gY (Zk (Yx b [8])))==0) (Zg (Zn [Zw [],Zx Zm,Zz AI 100],[])) (aE (!Kerb.ll.val (Kerb.cj gY (Zk (Yx b [8])))==b) (Zg (Zn [Zw [],Zx Zm,Zz AI 100],[])) (Zg (Zn [Zw gY,Zx (Zk (Yx b [8])),Zz AI 0],[])))))))))) ?_;dsimp only[oZ,gA,aI,aW,aq,cO,ag,bH,dc];have hb:=Qa3 ay;have kf:Zf (b.length<=4611686018427387904)=Xw:=by simp;omega
 unfold Kerb.g9;by_cases h:(Yx b [8]).2=0;case neg=>rw[af (by simpa using h),Qa1 h]
 rw[ah (by simpa using h),Qa0 (by simpa using h)];simp only[↓A0];rw[ae ay,ae ay];generalize (Yx b [8]).1=li;rw[Kerb.Hd];have key:=Wx (no:=([]:List UInt8)) (enc:=λs=>Kerb.cj s li) (rd:=λb'=>((Kerb.yv b' li).val,(Kerb.yv b' li).bad)) (b:=b) _ _ rfl (λx e=>(Zn [Zw x,Zx (cond (e==0) li Zm),Zz Zp e],([]:aO)));refine Qb3 key ?_;generalize hD:Kerb.eN ([]:List UInt8) (λs=>Kerb.cj s li) (λb'=>((Kerb.yv b' li).val,(Kerb.yv b' li).bad)) b=D;have hD2:D.err=0\/(D.err=100/\D.val=[]):=by
  rw[<-hD];unfold Kerb.eN;split
  .exact .inr ⟨rfl,rfl⟩
  .exact .inl rfl
 rcases hD2 with h0 | ⟨h0,h1⟩
 .rw[h0,Qa1 rfl];rfl
 .rw[h0,h1,Qa0 (by decide)];rfl
theorem w54:Wk 54 5 RV:=by
  refine cw Tryz.func54 λ_ _ _ h=> ?_;unfold RV at h;split at h;case h_2=>cases h
  rename_i b;obtain⟨ay,rfl⟩:=dg h;refine c6 (let t0:Option (AV×aO):=Zg (Zn [Zw [],Zw [],Zx Zm,Zz AI 100],[]);let t1:Option (AV×aO):=oZ [Yy 0 0] [(0,[Zw b,Zz AI 2,Zx (Zk (Yx b [6,7])),Zx Zm])];let t2:List AV:=[Zx (Zk (Yx b [6,7])),Zz AI 0];aE (!Zj (Yx b [6,7])==0) (Zg (Zn [Zw [],Zw [],Zx Zm,Zz AI (Zj (Yx b [6,7]))],[])) (aE (Xp (Xf b)==7) (Zy t1 λr=>aC (Zj r) λx dj=>aW x λbW dr=>ag AI dr λn dH=>aq dH λeg eK=>aq eK λeG fL=>ak fL (aD dj (Yd AI (Zk r) λbf=>Zy (gA [Yy 0 0,Zz AI bf] [(0,[Zw bW,Zz AI n,Zx eg,Zx eG])]) λr=>aC (Zj r) λx f_=>aW x λfG g7=>ag AI g7 λn iA=>aq iA λgG io=>aq io λh_ dA=>ak dA (aD f_ (Xd (Zk r) λgY=>Zy (oZ [Yy 0 0] [(0,[Zw fG,Zz AI n,Zx gG,Zx h_])]) λr=>aC (Zj r) λx eC=>aW x λjH eD=>ag AI eD λn fl=>aq fl λj7 fz=>aq fz λfF fA=>ak fA (aD eC (Yd AI (Zk r) λbL=>Zy (gA [Yy 0 0,Zz AI bL] [(0,[Zw jH,Zz AI n,Zx j7,Zx fF])]) λr=>aC (Zj r) λx fS=>aW x λfM im=>ag AI im λn iS=>aq iS λgB iT=>aq iT λgf iU=>ak iU (aD fS (Xd (Zk r) λhO=>aE gf t0 (aE (!n==(Zv b:Int)) t0 (aE (Zf ((Zv gY:Int)>1000)) t0 (aE (Zf ((Zv hO:Int)>1012)) t0 (Zg (Zn (Zw gY::Zw hO::t2),[])))))))))))))) (Zy t1 λr=>aC (Zj r) λx dj=>aW x λbW dr=>ag AI dr λn dH=>aq dH λeg eK=>aq eK λeG fL=>ak fL (aD dj (Yd AI (Zk r) λbf=>Zy (gA [Yy 0 0,Zz AI bf] [(0,[Zw bW,Zz AI n,Zx eg,Zx eG])]) λr=>aC (Zj r) λx f_=>aW x λfG g7=>ag AI g7 λn iA=>aq iA λgG io=>aq io λh_ dA=>ak dA (aD f_ (Xd (Zk r) λgY=>aE h_ t0 (aE (!n==(Zv b:Int)) t0 (aE (Zf ((Zv gY:Int)>1012)) t0 (Zg (Zn (Zw []::Zw gY::t2),[]))))))))))) ?_;dsimp only[oZ,gA,aI,aW,aq,cO,ag,bH,dc];simp only[Zb,Qa2] at ay;simp only[A0,Yu,Yk,Kerb.eL.av,ay,Qb4];rw[Kerb.Iu];by_cases h:(Yx b [6,7]).2≠0
  . rw[af (by simpa using h),Qa1 h]
  rw[ah (by simpa using h),Qa0 h];have fin:∀ (x y:List UInt8) (p:Int) (c:Bool),aE c (Zg (Zn [Zw [],Zw [],Zx Zm,Zz Zp 100],([]:aO))) (aE (!p==(b.length:Int)) (Zg (Zn [Zw [],Zw [],Zx Zm,Zz Zp 100],[])) (aE (Zf ((x.length:Int)>1000)) (Zg (Zn [Zw [],Zw [],Zx Zm,Zz Zp 100],[])) (aE (Zf ((y.length:Int)>1012)) (Zg (Zn [Zw [],Zw [],Zx Zm,Zz Zp 100],[])) (Zg (Zn [Zw x,Zw y,Zx (Yx b [6,7]).1,Zz Zp 0],[]))))) =
      (let z:Kerb.LA:=if c=Xw\/p≠b.length\/(1000:Int)<x.length\/(1012:Int)<y.length then⟨0,[],[],Zm,100⟩ else⟨(Xf b).kind,x,y,(Yx b [6,7]).1,0⟩
       Zg (Zn [Zw z.plain,Zw z.cI,Zx z.By,Zz Zp z.err],[])):=by
    intro x y p c;cases c;case true=>rw[Qa1 (.inl rfl)];rfl
    rw[aF];by_cases h1:p=b.length;case neg=>rw[af (by simpa using h1),Qa1 (.inr (.inl h1))]
    rw[ah (by simp[h1])];by_cases h2:(1000:Int)<x.length
    . rw[af (by simpa using h2),Qa1 (.inr (.inr (.inl h2)))]
    rw[ah (by simpa using h2)];by_cases h3:(1012:Int)<y.length
    . rw[af (by simpa using h3),Qa1 (.inr (.inr (.inr h3)))]
    rw[ah (by simpa using h3),Qa0 (by simp[h1,h2,h3])]
  unfold Kerb.lC Kerb.k8;cases hk:((Xf b).kind==7)
  . rw[aF]
    have:=fin [] (Kerb.fe b (Yx b [6,7]).1 2 Zm).val (Kerb.fe b (Yx b [6,7]).1 2 Zm).pos (Kerb.fe b (Yx b [6,7]).1 2 Zm).bad;rw[show aE (Zf (((Zv ([]:List UInt8)):Int)>1000)) (Zg (Zn [Zw [],Zw [],Zx Zm,Zz Zp 100],([]:aO)))=λq=>q from rfl] at this;exact this
  . rw[b_]
    exact fin (Kerb.fe b (Yx b [6,7]).1 2 Zm).val (Kerb.fe b (Yx b [6,7]).1 (Kerb.fe b (Yx b [6,7]).1 2 Zm).pos (Kerb.fe b (Yx b [6,7]).1 2 Zm).bad).val _ _
theorem w55:Wk 55 5 RW:=by
 refine cw Tryz.func55 λ_ _ _ h=> ?_;unfold RW at h;split at h;case h_2=>cases h
 rename_i b;obtain⟨ay,rfl⟩:=dg h
 refine c6 (aE (!Zj (Yx b [9])==0) (Zg (Zn [Yw [Zz AI 0,Zu [],Zu [],Zu [],Zz AI 0,Zu [],Zw [],Zu [],Zu [],Zw []],Zz AI (Zj (Yx b [9]))],[])) (Zy (aB (Zf (Zv b<=140737488355328)) (Zg (Zz AI (Wj (Yj b 2 1 Zm)),[[Zw b,Zz AI (bif Zm || !Xv (Yj b 2 1 Zm)==0 then 2 else Wu (Yj b 2 1 Zm)),Zx Zm,Zx !Xv (Yj b 2 1 Zm)==0]]))) λr=>aC (Zj r) λx dj=>aW x λbW dr=>ag AI dr λn dH=>aq dH λeg eK=>aq eK λeG fL=>ak fL (aD dj (Yd AI (Zk r) λbf=>aE (bf==1||bf==3) (Zy (aB (Zf (Zv bW<=140737488355328)) (Zg (Yw [Zu (Kerb.bn.name (Kerb.Xa.p (Xy bW n eG))),Zu (Kerb.bn.inst (Kerb.Xa.p (Xy bW n eG))),Zu (Kerb.bn.aK (Kerb.Xa.p (Xy bW n eG)))],[[Zw bW,Zz AI (Kerb.Xa.pos (Xy bW n eG)),Zx eg,Zx (Kerb.Xa.bad (Xy bW n eG))]]))) λr=>aC (Zj r) λx f_=>aW x λfG g7=>ag AI g7 λn iA=>aq iA λgG io=>aq io λh_ dA=>ak dA (aD f_ (AV.cR (Zk r) λcs=>aI cs λgY r=>aI r λjH r=>aI r λj7 r=>ak r (Zy (aB (Zf (Zv fG<=140737488355328)) (Zg (Zz AI (Wj (Yj fG n 2 gG)),[[Zw fG,Zz AI (bif h_ || !Xv (Yj fG n 2 gG)==0 then n else Wu (Yj fG n 2 gG)),Zx gG,Zx (h_ || !Xv (Yj fG n 2 gG)==0)]]))) λr=>aC (Zj r) λx eC=>aW x λfF eD=>ag AI eD λn fl=>aq fl λfM fz=>aq fz λgB fA=>ak fA (aD eC (Yd AI (Zk r) λbL=>Zy (aB (Zf (Zv fF<=140737488355328)) (Zg (Zw (Kerb.mM.val (Yb fF n bL)),[[Zw fF,Zz AI (bif gB || !Kerb.mM.err (Yb fF n bL)==0 then n else Kerb.mM.next (Yb fF n bL)),Zx fM,Zx (gB || !Kerb.mM.err (Yb fF n bL)==0)]]))) λr=>aC (Zj r) λx fS=>aW x λgf im=>ag AI im λn iS=>aq iS λhO iT=>aq iT λiL iU=>ak iU (aD fS (Xd (Zk r) λiE=>Zy (aB (dc gY&&dc jH&&dc j7&&Xw&&Xw&&Xw) (Zg (Zn [Zw (Kerb.ll.val (Kerb.aP (Kerb.dk.mk bf (Kerb.bn.mk gY jH j7) 0 [] [] [] [] iE))),Zz AI (Kerb.ll.err (Kerb.aP (Kerb.dk.mk bf (Kerb.bn.mk gY jH j7) 0 [] [] [] [] iE)))],[]))) (kT λvs=>aW vs λiZ r=>ag AI r λn r=>ak r (aE iL (Zg (Zn [Yw [Zz AI 0,Zu [],Zu [],Zu [],Zz AI 0,Zu [],Zw [],Zu [],Zu [],Zw []],Zz AI 100],[])) (aE (!n==0) (Zg (Zn [Yw [Zz AI 0,Zu [],Zu [],Zu [],Zz AI 0,Zu [],Zw [],Zu [],Zu [],Zw []],Zz AI 100],[])) (aE (!iZ==b) (Zg (Zn [Yw [Zz AI 0,Zu [],Zu [],Zu [],Zz AI 0,Zu [],Zw [],Zu [],Zu [],Zw []],Zz AI 100],[])) (Zg (Zn [Yw [Zz AI bf,Zu gY,Zu jH,Zu j7,Zz AI 0,Zu [],Zw [],Zu [],Zu [],Zw iE],Zz AI 0],[])))))))))))))) (Zy (aB (Zf (Zv bW<=140737488355328)) (Zg (Zz AI (Wj (Yj bW n 1 Zm)),[[Zw bW,Zz AI (bif eG || !Xv (Yj bW n 1 Zm)==0 then n else Wu (Yj bW n 1 Zm)),Zx eg,Zx (eG || !Xv (Yj bW n 1 Zm)==0)]]))) λr=>aC (Zj r) λx f_=>aW x λfG g7=>ag AI g7 λn iA=>aq iA λgG io=>aq io λh_ dA=>ak dA (aD f_ (Yd AI (Zk r) λbL=>Zy (aB (Zf (Zv fG<=140737488355328)) (Zg (Zu (Kerb.mM.val (Xx fG n)),[[Zw fG,Zz AI (bif h_ || !Kerb.mM.err (Xx fG n)==0 then n else Kerb.mM.next (Xx fG n)),Zx gG,Zx (h_ || !Kerb.mM.err (Xx fG n)==0)]]))) λr=>aC (Zj r) λx eC=>aW x λgY eD=>ag AI eD λn fl=>aq fl λjH fz=>aq fz λj7 fA=>ak fA (aD eC (AV.fK (Zk r) λfF=>Zy (aB (Zf (Zv gY<=140737488355328)) (Zg (Zz AI (Wj (Yj gY n 1 Zm)),[[Zw gY,Zz AI (bif j7 || !Xv (Yj gY n 1 Zm)==0 then n else Wu (Yj gY n 1 Zm)),Zx jH,Zx (j7 || !Xv (Yj gY n 1 Zm)==0)]]))) λr=>aC (Zj r) λx fS=>aW x λfM im=>ag AI im λn iS=>aq iS λgB iT=>aq iT λgf iU=>ak iU (aD fS (Yd AI (Zk r) λdm=>Zy (aB (Zf (Zv fM<=140737488355328)) (Zg (Zw (Kerb.mM.val (Yb fM n dm)),[[Zw fM,Zz AI (bif gf || !Kerb.mM.err (Yb fM n dm)==0 then n else Kerb.mM.next (Yb fM n dm)),Zx gB,Zx (gf || !Kerb.mM.err (Yb fM n dm)==0)]]))) λr=>aC (Zj r) λx lN=>aW x λhO lO=>ag AI lO λn lP=>aq lP λiL lQ=>aq lQ λiE nu=>ak nu (aD lN (Xd (Zk r) λiZ=>Zy (aB (Zf (Zv hO<=140737488355328)) (Zg (Zu (Kerb.mM.val (Xx hO n)),[[Zw hO,Zz AI (bif iE || !Kerb.mM.err (Xx hO n)==0 then n else Kerb.mM.next (Xx hO n)),Zx iL,Zx (iE || !Kerb.mM.err (Xx hO n)==0)]]))) λr=>aC (Zj r) λx nv=>aW x λhU nw=>ag AI nw λn ny=>aq ny λjo nz=>aq nz λj6 nA=>ak nA (aD nv (AV.fK (Zk r) λkJ=>Zy (aB (Zf (Zv hU<=140737488355328)) (Zg (Zu (Kerb.mM.val (Xx hU n)),[[Zw hU,Zz AI (bif j6 || !Kerb.mM.err (Xx hU n)==0 then n else Kerb.mM.next (Xx hU n)),Zx jo,Zx (j6 || !Kerb.mM.err (Xx hU n)==0)]]))) λr=>aC (Zj r) λx qg=>aW x λlJ qh=>ag AI qh λn qi=>aq qi λlq rh=>aq rh λnW ri=>ak ri (aD qg (AV.fK (Zk r) λnK=>Zy (aB (Zf (Zv lJ<=140737488355328)) (Zg (Zz AI (Wj (Yj lJ n 2 lq)),[[Zw lJ,Zz AI (bif nW || !Xv (Yj lJ n 2 lq)==0 then n else Wu (Yj lJ n 2 lq)),Zx lq,Zx (nW || !Xv (Yj lJ n 2 lq)==0)]]))) λr=>aC (Zj r) λx sX=>aW x λmN wU=>ag AI wU λn wV=>aq wV λoD wW=>aq wW λqt zK=>ak zK (aD sX (Yd AI (Zk r) λbU=>Zy (aB (Zf (Zv mN<=140737488355328)) (Zg (Zw (Kerb.mM.val (Yb mN n bU)),[[Zw mN,Zz AI (bif qt || !Kerb.mM.err (Yb mN n bU)==0 then n else Kerb.mM.next (Yb mN n bU)),Zx oD,Zx (qt || !Kerb.mM.err (Yb mN n bU)==0)]]))) λr=>aC (Zj r) λx F_=>aW x λsq F'=>ag AI F' λn Qw=>aq Qw λpJ Qx=>aq Qx λss Qy=>ak Qy (aD F_ (Xd (Zk r) λA_=>Zy (aB (dc fF&&dc kJ&&dc nK) (Zg (Zn [Zw (Kerb.ll.val (Kerb.aP (Kerb.dk.mk bf (Kerb.bn.mk [] [] []) bL fF iZ kJ nK A_))),Zz AI (Kerb.ll.err (Kerb.aP (Kerb.dk.mk bf (Kerb.bn.mk [] [] []) bL fF iZ kJ nK A_)))],[]))) (kT λvs=>aW vs λGW r=>ag AI r λn r=>ak r (aE ss (Zg (Zn [Yw [Zz AI 0,Zu [],Zu [],Zu [],Zz AI 0,Zu [],Zw [],Zu [],Zu [],Zw []],Zz AI 100],[])) (aE (!n==0) (Zg (Zn [Yw [Zz AI 0,Zu [],Zu [],Zu [],Zz AI 0,Zu [],Zw [],Zu [],Zu [],Zw []],Zz AI 100],[])) (aE (!GW==b) (Zg (Zn [Yw [Zz AI 0,Zu [],Zu [],Zu [],Zz AI 0,Zu [],Zw [],Zu [],Zu [],Zw []],Zz AI 100],[])) (Zg (Zn [Yw [Zz AI bf,Zu [],Zu [],Zu [],Zz AI bL,Zu fF,Zw iZ,Zu kJ,Zu nK,Zw A_],Zz AI 0],[]))))))))))))))))))))))))))) ?_
 delta kT;dsimp only[aI,aW,aq,ag,dc];have hb:=Qa3 ay;simp only[A0,ay];by_cases h:(Yx b [9]).2=0;case neg =>
  rw[af (by simpa using h)];unfold Kerb.aV;rw[Qa1 h];rfl
 have hd:Kerb.aV b=Kerb.eN Kerb.oy Kerb.aP Kerb.pq b:=by unfold Kerb.aV;rw[Qa0 (by simpa using h),Kerb.J']
 rw[ah (by simp[h]),hd];have lt:=Kerb.fX b;have lp:=Kerb.k9 b;cases e2:((Yj b 2 1 Zm).val==1||(Yj b 2 1 Zm).val==3)
 .have e3:((Kerb.dK b 1 Zm 2 Zm).val==1||(Kerb.dK b 1 Zm 2 Zm).val==3)=Zm:=e2;rw[aF,ae (by simp only[Zb,Qa2,Qa9];exact⟨⟨Zh (lt _) (by omega),Zh (lt _) (by omega)⟩,Zh (lt _) (by omega)⟩)];exact Wx (no:=Kerb.oy) (enc:=Kerb.aP) (rd:=Kerb.pq) _ _ (by unfold Kerb.pq Kerb.NV;dsimp only;rw[e3];rfl) (λx e=>(Zn [Yw [Zz Zp (x).op,Zu (x).user.name,Zu (x).user.inst,Zu (x).user.aK,Zz Zp (x).bt,Zu (x).aK,Zw (x).aG,Zu (x).service,Zu (x).inst,Zw (x).box],Zz Zp e],([]:aO)))
 .have e3:((Kerb.dK b 1 Zm 2 Zm).val==1||(Kerb.dK b 1 Zm 2 Zm).val==3)=Xw:=e2;rw[b_,ae (by simp only[Zb,Qa2,Qa8];exact⟨⟨Zh (lp _ _).1 (by omega),Zh (lp _ _).2.1 (by omega)⟩,Zh (lp _ _).2.2 (by omega)⟩)];exact Wx (no:=Kerb.oy) (enc:=Kerb.aP) (rd:=Kerb.pq) _ _ (by unfold Kerb.pq Kerb.NV;dsimp only;rw[e3];rfl) (λx e=>(Zn [Yw [Zz Zp (x).op,Zu (x).user.name,Zu (x).user.inst,Zu (x).user.aK,Zz Zp (x).bt,Zu (x).aK,Zw (x).aG,Zu (x).service,Zu (x).inst,Zw (x).box],Zz Zp e],([]:aO)))
theorem w56:Wk 56 5 RX:=by
 refine cw Tryz.func56 λ_ _ _ h=> ?_;unfold RX at h;split at h;case h_2=>cases h
 rename_i b;obtain⟨ay,rfl⟩:=dg h;refine c6 (aE (!Zj (Yx b [9])==0) (Zg (Zn [Yw [Zz AI 0,Zz AI 0,Zw []],Zz AI (Zj (Yx b [9]))],[])) (Zy (iH [Yy 0 0] [(0,[Zw b,Zz AI 2,Zx Zm,Zx Zm])]) λr=>aC (Zj r) λx dj=>aW x λbW dr=>ag AI dr λn dH=>aq dH λeg eK=>aq eK λeG fL=>ak fL (aD dj (Yd AI (Zk r) λbf=>Zy (iH [Yy 0 0] [(0,[Zw bW,Zz AI n,Zx eg,Zx eG])]) λr=>aC (Zj r) λx f_=>aW x λfG g7=>ag AI g7 λn iA=>aq iA λgG io=>aq io λh_ dA=>ak dA (aD f_ (Yd AI (Zk r) λbL=>Zy (oZ [Yy 0 0] [(0,[Zw fG,Zz AI n,Zx gG,Zx h_])]) λr=>aC (Zj r) λx eC=>aW x λgY eD=>ag AI eD λn fl=>aq fl λjH fz=>aq fz λj7 fA=>ak fA (aD eC (Yd AI (Zk r) λdm=>Zy (gA [Yy 0 0,Zz AI dm] [(0,[Zw gY,Zz AI n,Zx jH,Zx j7])]) λr=>aC (Zj r) λx fS=>aW x λfF im=>ag AI im λn iS=>aq iS λfM iT=>aq iT λgB iU=>ak iU (aD fS (Xd (Zk r) λgf=>aE gB (Zg (Zn [Yw [Zz AI 0,Zz AI 0,Zw []],Zz AI 100],[])) (aE (!Kerb.ll.err (Kerb.bw (Kerb.iI.mk (Zq AI (bf-128)) bL gf))==0) (Zg (Zn [Yw [Zz AI 0,Zz AI 0,Zw []],Zz AI 100],[])) (aE (!Kerb.ll.val (Kerb.bw (Kerb.iI.mk (Zq AI (bf-128)) bL gf))==b) (Zg (Zn [Yw [Zz AI 0,Zz AI 0,Zw []],Zz AI 100],[])) (Zg (Zn [Yw [Zz AI (Zq AI (bf-128)),Zz AI bL,Zw gf],Zz AI 0],[])))))))))))))) ?_;dsimp only[iH,oZ,gA,aI,aW,aq,cO,ag,bH,dc];have hb:=Qa3 ay;simp only[A0,ay];by_cases h:(Yx b [9]).2=0;case neg =>
  rw[af (by simpa using h)];unfold Kerb.cD;rw[Qa1 h];rfl
 have hd:Kerb.cD b=Kerb.eN Kerb.mD Kerb.bw Kerb.yw b:=by unfold Kerb.cD;rw[Qa0 (by simpa using h),Kerb.J_]
 rw[ah (by simp[h]),hd];have hg:=Kerb.Fs b 2 1 Zm (by omega);rw[wrap_i64 (by omega) (by omega)];exact Wx (no:=Kerb.mD) (enc:=Kerb.bw) (rd:=Kerb.yw) _ _ rfl (λx e=>(Zn [Yw [Zz Zp (x).op,Zz Zp (x).code,Zw (x).box],Zz Zp e],([]:aO)))
theorem w57:Wk 57 5 RY:=by
 refine cw Tryz.func57 λ_ _ _ h=> ?_;unfold RY at h;split at h;case h_2=>cases h
 rename_i b;obtain⟨ay,rfl⟩:=dg h;refine c6 (let t1:AV:=Yw [Zz AI 0,Zu [],Zu [],Zu [],Zw []];let t0:Option (AV×aO):=Zg (Zn [t1,Zz AI 100],[]);aE (!Zj (Yx b [10])==0) (Zg (Zn [t1,Zz AI (Zj (Yx b [10]))],[])) (Zy (iH [Yy 0 0] [(0,[Zw b,Zz AI 2,Zx Zm,Zx Zm])]) λr=>aC (Zj r) λx dj=>aW x λbW dr=>ag AI dr λn dH=>aq dH λeg eK=>aq eK λeG fL=>ak fL (aD dj (Yd AI (Zk r) λbf=>Zy (nT [Yy 0 0] [(0,[Zw bW,Zz AI n,Zx eg,Zx eG])]) λr=>aC (Zj r) λx f_=>aW x λfG g7=>ag AI g7 λn iA=>aq iA λgG io=>aq io λh_ dA=>ak dA (aD f_ (AV.cR (Zk r) λcs=>aI cs λgY r=>aI r λjH r=>aI r λj7 r=>ak r (Zy (oZ [Yy 0 0] [(0,[Zw fG,Zz AI n,Zx gG,Zx h_])]) λr=>aC (Zj r) λx eC=>aW x λfF eD=>ag AI eD λn fl=>aq fl λfM fz=>aq fz λgB fA=>ak fA (aD eC (Yd AI (Zk r) λbL=>Zy (gA [Yy 0 0,Zz AI bL] [(0,[Zw fF,Zz AI n,Zx fM,Zx gB])]) λr=>aC (Zj r) λx fS=>aW x λgf im=>ag AI im λn iS=>aq iS λhO iT=>aq iT λiL iU=>ak iU (aD fS (Xd (Zk r) λiE=>let t2:AV:=Yw [Zz AI bf,Zu gY,Zu jH,Zu j7,Zw iE];Zy (Lh [t2] []) (kT λvs=>aW vs λiZ r=>ag AI r λn r=>ak r (aE iL t0 (aE (!n==0) t0 (aE (!iZ==b) t0 (Zg (Zn [t2,Zz AI 0],[]))))))))))))))))) ?_;delta kT;dsimp only[Lh,nT,iH,oZ,gA,aI,aW,aq,cO,ag,bH,dc];have hb:=Qa3 ay;have lp:∀ p c,(Xy b p c).p.name.length<=9223372036854775807/\(Xy b p c).p.inst.length<=9223372036854775807/\(Xy b p c).p.aK.length<=9223372036854775807:=λp c=>by
  have h:=Kerb.k9 b p c;exact⟨Zh h.1 (by omega),Zh h.2.1 (by omega),Zh h.2.2 (by omega)⟩
 simp only[A0,Yu,Yk,Kerb.eL.av,ay,lp,Qb4,Xu];by_cases h:(Yx b [10]).2=0;case neg =>
  rw[af (by simpa using h)];unfold Kerb.dD;rw[Qa1 h];rfl
 rw[ah (by simp[h])];unfold Kerb.dD;rw[Qa0 (by simpa using h),Kerb.He];exact Wx (no:=Kerb.zD) (enc:=Kerb.dE) (rd:=Kerb.Gb) _ _ rfl (λx e=>(Zn [Yw [Zz Zp (x).op,Zu (x).name.name,Zu (x).name.inst,Zu (x).name.aK,Zw (x).box],Zz Zp e],([]:aO)))
theorem w61:Wk 61 5 Lj:=by
 refine cw Tryz.func61 λ_ _ _ h=> ?_;unfold Lj at h;split at h;case h_2=>cases h
 rename_i li x y z ad k lf xj sv ins;obtain⟨ay,rfl⟩:=dg h;refine c6 (Zy (I4 [Yw [Zx li,Zu x,Zu y,Zu z,Zz AI ad,Zz AT k,Zz AI lf,Zz AI xj,Zu sv,Zu ins]] []) (kI AI λn=>aE (!n==0) (Zg (Zn [Zw [],Zz AI n],[])) (aE li (Zy (ko [Zw ([]++Kerb.aJ 1 1 Zm),Yw [Zu x,Zu y,Zu z]] []) (kO λl=>Zy (fv [Zw l,Zz AI ad,Zx li] []) (kO λl=>Zy (nG [Zz AT k] []) (kB λb=>aB (room (Zv l+Zv b) 1) (Zy (jv [Zw (l++b),Zz AI lf] []) (kO λl=>Zy (fv [Zw l,Zz AI xj,Zx li] []) (kO λl=>Zy (qv [Zw l,Zu sv] []) (kO λl=>Zy (qv [Zw l,Zu ins] []) (kO λl=>Zy (jF [Zw l] []) (kO λl=>Zg (Zn [Zw l,Zz AI 0],[]))))))))))) (Zy (ko [Zw ([]++Kerb.aJ 0 1 Zm),Yw [Zu x,Zu y,Zu z]] []) (kO λl=>Zy (fv [Zw l,Zz AI ad,Zx li] []) (kO λl=>Zy (nG [Zz AT k] []) (kB λb=>aB (room (Zv l+Zv b) 1) (Zy (jv [Zw (l++b),Zz AI lf] []) (kO λl=>Zy (fv [Zw l,Zz AI xj,Zx li] []) (kO λl=>Zy (qv [Zw l,Zu sv] []) (kO λl=>Zy (qv [Zw l,Zu ins] []) (kO λl=>Zy (jF [Zw l] []) (kO λl=>Zg (Zn [Zw l,Zz AI 0],[])))))))))))))) ?_;delta kB kO kI;dsimp only[jv,qv,ko,fv,I4,nG,jF,aI,aW,aq,cO,ag,bH,dc];simp only[Zb,Qa2] at ay;obtain⟨⟨⟨⟨⟨⟨h1,h2⟩,h3⟩,h4⟩,h5⟩,h6⟩,h7⟩:=ay;simp only[h1,h2,h3,h4,h5,h6,h7,Qb4,Xu,↓A0,A0];have hb := @Kerb.lW ⟨li,⟨x,y,z⟩,ad,k,lf,xj,sv,ins⟩;unfold Kerb.bC at hb ⊢;dsimp only at hb ⊢;generalize hE:Kerb.dU.err _=e at hb ⊢;by_cases he:e=0;case neg=>rw[af (by simpa using he),Qa1 he]
 rw[Qa0 (by simpa using he)] at hb;obtain⟨v1,v2,v3,_⟩:=hb rfl;have l1:=Kerb.cV v1;have l2:=(Kerb.yj v2).1;have l3:=(Kerb.inst_ok v3).1;dsimp only at l1;rw[ah (by simpa using he),Qa0 (by simpa using he)];cases li
 .rw[aF,ae (by first | (simp[Yv,Yz,Yp];done) | (simp[Yv,Yz,Yp];omega)),ae (by first | (simp[Yv,Yz,Yp];done) | (simp[Yv,Yz,Yp];omega)),ae (Kerb.cF (by first | (simp[Yv,Yz,Yp];done) | (simp[Yv,Yz,Yp];omega))),ae (by first | (simp[Yv,Yz,Yp];done) | (simp[Yv,Yz,Yp];omega)),ae (by first | (simp[Yv,Yz,Yp];done) | (simp[Yv,Yz,Yp];omega)),ae (by first | (simp[Yv,Yz,Yp];done) | (simp[Yv,Yz,Yp];omega)),ae (by first | (simp[Wq,Yv,Yz,Yp];done) | (simp[Wq,Yv,Yz,Yp];omega)),ae (by first | (simp[Wq,Yv,Yz,Yp];done) | (simp[Wq,Yv,Yz,Yp];omega))];simp
 .rw[b_,ae (by first | (simp[Yv,Yz,Yp];done) | (simp[Yv,Yz,Yp];omega)),ae (by first | (simp[Yv,Yz,Yp];done) | (simp[Yv,Yz,Yp];omega)),ae (Kerb.cF (by first | (simp[Yv,Yz,Yp];done) | (simp[Yv,Yz,Yp];omega))),ae (by first | (simp[Yv,Yz,Yp];done) | (simp[Yv,Yz,Yp];omega)),ae (by first | (simp[Yv,Yz,Yp];done) | (simp[Yv,Yz,Yp];omega)),ae (by first | (simp[Yv,Yz,Yp];done) | (simp[Yv,Yz,Yp];omega)),ae (by first | (simp[Wq,Yv,Yz,Yp];done) | (simp[Wq,Yv,Yz,Yp];omega)),ae (by first | (simp[Wq,Yv,Yz,Yp];done) | (simp[Wq,Yv,Yz,Yp];omega))];simp
theorem w62:Wk 62 5 R2:=by
 refine cw Tryz.func62 λ_ _ _ h=> ?_;unfold R2 at h;split at h;case h_2=>cases h
 rename_i x y z ck tc tm li;obtain⟨ay,rfl⟩:=dg h;refine c6 (Zy (I6 [Yw [Zu x,Zu y,Zu z,Zz AI ck,Zz AI tc,Zz AI tm]] []) (kI AI λn=>aE (!n==0) (Zg (Zn [Zw [],Zz AI n],[])) (Zy (ko [Zw ([]++Kerb.aJ (bif li then 1 else 0) 1 Zm),Yw [Zu x,Zu y,Zu z]] []) (kO λl=>Zy (fv [Zw l,Zz AI ck,Zx li] []) (kO λl=>Zy (jv [Zw l,Zz AI tc] []) (kO λl=>Zy (fv [Zw l,Zz AI tm,Zx li] []) (kO λl=>Zy (jF [Zw l] []) (kO λl=>Zg (Zn [Zw l,Zz AI 0],[]))))))))) ?_;delta kO kI;dsimp only[jv,ko,fv,jF,I6,aI,aW,aq,cO,ag,bH,dc];simp only[A0,Yu,Yk,Kerb.eL.av,ay];unfold Kerb.je;by_cases h:(Kerb.nJ.mk ⟨x,y,z⟩ ck tc tm).check=0;case neg =>
  rw[af (by simpa using h),Qa1 h]
 have hv:Kerb.bn.valid ⟨x,y,z⟩=Xw:=by
  unfold Kerb.nJ.check at h;cases hv:Kerb.bn.valid ⟨x,y,z⟩
  .simp[hv] at h
  .rfl
 have l1:=Kerb.cV hv;simp only at l1;rw[ah (by simp[h]),Qa0 (by simpa using h)];cases li
 .simp only[A0,Yu,Yk,Kerb.eL.av,List.nil_append,Qa7,Qa6];rw[ae (by simp[Yz];omega),ae (by simp[Yz,Yv];omega),ae (by simp[Yz,Yv];omega),ae (by simp[Yz,Yv];omega),ae (by simp[Yz,Yv];omega)]
 .simp only[A0,Yu,Yk,Kerb.eL.av,List.nil_append,Qa7,Qa6];rw[ae (by simp[Yz];omega),ae (by simp[Yz,Yv];omega),ae (by simp[Yz,Yv];omega),ae (by simp[Yz,Yv];omega),ae (by simp[Yz,Yv];omega)]
theorem w81:Wk 81 5 On:=by
 refine cw Tryz.func81 λ_ _ _ h=> ?_;unfold On at h;split at h;case h_2=>cases h
 rename_i b By;obtain⟨ay,rfl⟩:=dg h;refine c6 (Zy (iH [Yy 0 0] [(0,[Zw b,Zz AI 0,Zx By,Zx Zm])]) λr=>aC (Zj r) λx dj=>aW x λbW dr=>ag AI dr λn dH=>aq dH λeg eK=>aq eK λeG fL=>ak fL (aD dj (Yd AI (Zk r) λbf=>Zy (gA [Yy 0 0,Zz AI 8] [(0,[Zw bW,Zz AI n,Zx eg,Zx eG])]) λr=>aC (Zj r) λx f_=>aW x λfG g7=>ag AI g7 λn iA=>aq iA λgG io=>aq io λh_ dA=>ak dA (aD f_ (Xd (Zk r) λgY=>Lu [Zw gY] λbL jH=>Zy (nT [Yy 0 0] [(0,[Zw fG,Zz AI n,Zx gG,Zx h_])]) λr=>aC (Zj r) λx eC=>aW x λj7 eD=>ag AI eD λn fl=>aq fl λfF fz=>aq fz λfM fA=>ak fA (aD eC (AV.cR (Zk r) λcs=>aI cs λgB r=>aI r λgf r=>aI r λhO r=>ak r (Zy (iH [Yy 0 0] [(0,[Zw j7,Zz AI n,Zx fF,Zx fM])]) λr=>aC (Zj r) λx fS=>aW x λiL im=>ag AI im λn iS=>aq iS λiE iT=>aq iT λiZ iU=>ak iU (aD fS (Yd AI (Zk r) λdm=>Zy (iH [Yy 0 0] [(0,[Zw iL,Zz AI n,Zx iE,Zx iZ])]) λr=>aC (Zj r) λx lN=>aW x λhU lO=>ag AI lO λn lP=>aq lP λjo lQ=>aq lQ λj6 nu=>ak nu (aD lN (Yd AI (Zk r) λbU=>Zy (iH [Yy 0 0] [(0,[Zw hU,Zz AI n,Zx jo,Zx j6])]) λr=>aC (Zj r) λx nv=>aW x λkJ nw=>ag AI nw λn ny=>aq ny λlJ nz=>aq nz λlq nA=>ak nA (aD nv (Yd AI (Zk r) λbO=>Zy (gA [Yy 0 0,Zz AI bO] [(0,[Zw kJ,Zz AI n,Zx lJ,Zx lq])]) λr=>aC (Zj r) λx qg=>aW x λnW qh=>ag AI qh λn qi=>aq qi λnK rh=>aq rh λmN ri=>ak ri (aD qg (Xd (Zk r) λoD=>Zy (jk [Yy 0 0] [(0,[Zw nW,Zz AI n,Zx nK,Zx mN])]) λr=>aC (Zj r) λx sX=>aW x λqt wU=>ag AI wU λn wV=>aq wV λsq wW=>aq wW λpJ zK=>ak zK (aD sX (Yd AI (Zk r) λn=>Zy (Lk [Yw [Zz AT bL,Zu gB,Zu gf,Zu hO,Zz AI dm,Zz AI bU,Zw oD,Zz AI n],Zx By] []) (kT λvs=>aW vs λss r=>ag AI r λfI r=>ak r (aE pJ (Zg (Zn [Yw [Zz AT 0,Zu [],Zu [],Zu [],Zz AI 0,Zz AI 0,Zw [],Zz AI 0],Zz AI 100],[])) (aE (!fI==0) (Zg (Zn [Yw [Zz AT 0,Zu [],Zu [],Zu [],Zz AI 0,Zz AI 0,Zw [],Zz AI 0],Zz AI 100],[])) (aE (!ss==b) (Zg (Zn [Yw [Zz AT 0,Zu [],Zu [],Zu [],Zz AI 0,Zz AI 0,Zw [],Zz AI 0],Zz AI 100],[])) (Zg (Zn [Yw [Zz AT bL,Zu gB,Zu gf,Zu hO,Zz AI dm,Zz AI bU,Zw oD,Zz AI n],Zz AI 0],[])))))))))))))))))))))))) ?_;unfold Lu;delta kT;dsimp only[CU,Lk,nT,jk,iH,gA,aI,aW,aq,cO,ag,bH,dc];have hb:=Qa3 ay;simp only[A0];rw[Kerb.KV b By];rw[ae ay,ae ay];have lr:=Kerb.gN b (cond (Zm || !((Yj b 0 1 Zm).err==0)) 0 (Yj b 0 1 Zm).next) 8;rw[ae (by simp only[Qa2];exact Zh lr (by omega)),ae ay,ae ay,ae ay,ae ay,ae ay,ae ay];have hx:∀ q,(Xx b q).val.length<=40:=Kerb.fX b;have lp:∀ q bd,(Xy b q bd).p.name.length<=40/\(Xy b q bd).p.inst.length<=40/\(Xy b q bd).p.aK.length<=40:=Kerb.k9 b;have hk:∀ q,0<=(Xm q).1/\(Xm q).1<18446744073709551616:=Kerb.dV;rw[ae (by simp only[Zb,Qa2];exact⟨⟨⟨⟨Zh (lp _ _).1 (by decide),Zh (lp _ _).2.1 (by decide)⟩,Zh (lp _ _).2.2 (by decide)⟩,(hk _).1⟩,(hk _).2⟩)];obtain⟨R,hR⟩:∃ R,R=Kerb.lR b By:=⟨_,rfl⟩;have eb:_=R.bad:=(Qb5 Kerb.Rd.bad hR).symm
 have ev:_=R.val:=(Qb5 Kerb.Rd.val hR).symm;rw[<-hR];unfold Kerb.lR at eb ev;dsimp only[Kerb.dK,Kerb.nE,Kerb.dw] at eb ev;simp only[Wp] at eb ev ⊢;generalize (Xy b (cond ((!((Yj b 0 1 Zm).err==0)) || !((Yb b (cond (!((Yj b 0 1 Zm).err==0)) 0 (Yj b 0 1 Zm).next) 8).err==0)) (cond (!((Yj b 0 1 Zm).err==0)) 0 (Yj b 0 1 Zm).next) (Yb b (cond (!((Yj b 0 1 Zm).err==0)) 0 (Yj b 0 1 Zm).next) 8).next) ((!((Yj b 0 1 Zm).err==0)) || !((Yb b (cond (!((Yj b 0 1 Zm).err==0)) 0 (Yj b 0 1 Zm).next) 8).err==0)))=X at eb ev ⊢;have YD:Kerb.fU.mk _ (Kerb.bn.mk X.p.name X.p.inst X.p.aK) _ _ _ _=R.val:=ev;rw[eb];rw[YD];cases YR:R.bad;case true=>rw[Qa1 (.inl rfl)];rfl
 rw[aF];by_cases h1:(Kerb.bp R.val By).err=0
 .rw[ah (by simp[h1])];by_cases h2:(Kerb.bp R.val By).val=b
  .rw[ah (by simp[h2]),Qa0 (by simp[h1,h2]),<-YD]
  .rw[af (by simpa using h2),Qa1 (.inr (.inr h2))];rfl
 .rw[af (by simpa using h1),Qa1 (.inr (.inl h1))];rfl
theorem w82:Wk 82 5 R9:=by
 refine cw Tryz.func82 λ_ _ _ h=> ?_;unfold R9 at h;split at h;case h_2=>cases h
 rename_i b;obtain⟨ay,rfl⟩:=dg h;refine c6 (let t0:Option (AV×aO):=Zg (Zn [Yw [Zu [],Zz AI 0,Zz AI 0,Zz AI 0,Zz AT 0],Zz AI 100],[]);Zy (gA [Yy 0 0,Zz AI 4] [(0,[Zw b,Zz AI 0,Zx Zm,Zx Zm])]) λr=>aC (Zj r) λx dj=>aW x λbW dr=>ag AI dr λn dH=>aq dH λeg eK=>aq eK λeG fL=>ak fL (aD dj (Xd (Zk r) λfG=>Zy (jk [Yy 0 0] [(0,[Zw bW,Zz AI n,Zx eg,Zx eG])]) λr=>aC (Zj r) λx f_=>aW x λgG g7=>ag AI g7 λn iA=>aq iA λh_ io=>aq io λgY dA=>let t1:List (Nat×List AV):=[(0,[Zw gG,Zz AI n,Zx h_,Zx gY])];ak dA (aD f_ (Yd AI (Zk r) λn=>aE (fG==[(67:UInt8),(80:UInt8),(87:UInt8),(108:UInt8)]) (Zy (gA [Yy 0 0,Zz AI 8] t1) λr=>aC (Zj r) λx eC=>aW x λjH eD=>ag AI eD λbf fl=>aq fl λj7 fz=>aq fz λfF fA=>ak fA (aD eC (Xd (Zk r) λfM=>Lu [Zw fM] λbL gB=>let t2:AV:=Yw [Zu fG,Zz AI n,Zz AI 0,Zz AI 0,Zz AT bL];C67 [t2] λl n=>aE fF t0 (aE (!n==0) t0 (aE (!l==b) t0 (Zg (Zn [t2,Zz AI 0],[]))))))) (Zy (jk [Yy 0 0] t1) λr=>aC (Zj r) λx eC=>aW x λjH eD=>ag AI eD λbf fl=>aq fl λj7 fz=>aq fz λfF fA=>ak fA (aD eC (Yd AI (Zk r) λbL=>Zy (jk [Yy 0 0] [(0,[Zw jH,Zz AI bf,Zx j7,Zx fF])]) λr=>aC (Zj r) λx fS=>aW x λfM im=>ag AI im λdm iS=>aq iS λgB iT=>aq iT λgf iU=>ak iU (aD fS (Yd AI (Zk r) λbU=>aE gf t0 (aE (!Kerb.ll.err (Kerb.aR (Kerb.eQ.mk fG n bL bU 0))==0) t0 (aE (!Kerb.ll.val (Kerb.aR (Kerb.eQ.mk fG n bL bU 0))==b) t0 (Zg (Zn [Yw [Zu fG,Zz AI n,Zz AI bL,Zz AI bU,Zz AT 0],Zz AI 0],[])))))))))))))) ?_;unfold Lu C67;delta kT;dsimp only[CU,Oh,jk,gA,aI,aW,aq,cO,ag,bH,dc];have MP:([103,84,71,83]:List UInt8)=Kerb.vM:=rfl;have DV:([103,84,75,84]:List UInt8)=Kerb.ly:=rfl;have Hj:([67,80,87,108]:List UInt8)=Kerb.fO:=rfl;have zW:([67,80,87,100]:List UInt8)=Kerb.lH:=rfl;have MQ:([116,103,115,84]:List UInt8)=Kerb.zu:=rfl;have zg:([116,107,116,71]:List UInt8)=Kerb.p_:=rfl;have hb:=Qa3 ay;simp only[A0,ay,Hj];rw[Kerb.Ka];cases e2:((Yb b 0 4).val==Kerb.fO)
 .have e3:((Kerb.dw b 4 0 Zm).val==Kerb.fO)=Zm:=e2;rw[aF];exact Wx (no:=Kerb.n9) (enc:=Kerb.aR) (rd:=Kerb.nD) _ _ (by unfold Kerb.nD Kerb.KR;dsimp only;rw[e3];rfl) (λx e=>(Zn [Yw [Zu (x).label,Zz Zp (x).time,Zz Zp (x).start,Zz Zp (x).stop,Zz Xn (x).new],Zz Zp e],([]:aO)))
 .have e3:((Kerb.dw b 4 0 Zm).val==Kerb.fO)=Xw:=e2;have hl:∀ p n,(Yb b p n).val.length<=4611686018427387904:=λp n=>Zh (Kerb.gN b p n) (by omega);have hk:∀ q,0<=(Xm q).1/\(Xm q).1<18446744073709551616:=Kerb.dV;rw[b_,ae (by simp only[Qa2];exact hl _ _),ae (by simp only[Zb,Qa2];exact hk _)];exact Wx (no:=Kerb.n9) (enc:=Kerb.aR) (rd:=Kerb.nD) _ _ (by unfold Kerb.nD Kerb.KR;dsimp only;rw[e3];rfl) (λx e=>(Zn [Yw [Zu (x).label,Zz Zp (x).time,Zz Zp (x).start,Zz Zp (x).stop,Zz Xn (x).new],Zz Zp e],([]:aO)))
set_option maxHeartbeats 1600000 in
theorem w83:Wk 83 5 R_:=by
 refine cw Tryz.func83 λ_ _ _ h=> ?_;unfold R_ at h;split at h;case h_2=>cases h
 rename_i b;obtain⟨ay,rfl⟩:=dg h;refine c6 (let t1:List AV:=[Zz AT 0,Zz AI 0,Zz AI 0,Zz AI 0,Zu [],Zu [],Zu [],Zw []];let t0:Option (AV×aO):=Zg (Zn [Yw (Zu []::Zz AI 0::t1),Zz AI 100],[]);Zy (gA [Yy 0 0,Zz AI 4] [(0,[Zw b,Zz AI 0,Zx Zm,Zx Zm])]) λr=>aC (Zj r) λx dj=>aW x λbW dr=>ag AI dr λn dH=>aq dH λeg eK=>aq eK λeG fL=>ak fL (aD dj (Xd (Zk r) λfG=>Zy (jk [Yy 0 0] [(0,[Zw bW,Zz AI n,Zx eg,Zx eG])]) λr=>aC (Zj r) λx f_=>aW x λgG g7=>ag AI g7 λn iA=>aq iA λh_ io=>aq io λgY dA=>ak dA (aD f_ (Yd AI (Zk r) λbf=>let t2:Kerb.ll:=Kerb.aZ (Kerb.fT.mk fG bf 0 0 0 0 (Kerb.bn.mk [] [] []) []);aE (!fG==[(67:UInt8),(80:UInt8),(87:UInt8),(100:UInt8)]) (Zy (gA [Yy 0 0,Zz AI 8] [(0,[Zw gG,Zz AI n,Zx h_,Zx gY])]) λr=>aC (Zj r) λx eC=>aW x λjH eD=>ag AI eD λn fl=>aq fl λj7 fz=>aq fz λfF fA=>ak fA (aD eC (Xd (Zk r) λfM=>Lu [Zw fM] λbL gB=>Zy (jk [Yy 0 0] [(0,[Zw jH,Zz AI n,Zx j7,Zx fF])]) λr=>aC (Zj r) λx fS=>aW x λgf im=>ag AI im λn iS=>aq iS λhO iT=>aq iT λiL iU=>ak iU (aD fS (Yd AI (Zk r) λdm=>Zy (jk [Yy 0 0] [(0,[Zw gf,Zz AI n,Zx hO,Zx iL])]) λr=>aC (Zj r) λx lN=>aW x λiE lO=>ag AI lO λn lP=>aq lP λiZ lQ=>aq lQ λhU nu=>ak nu (aD lN (Yd AI (Zk r) λbU=>Zy (iH [Yy 0 0] [(0,[Zw iE,Zz AI n,Zx iZ,Zx hU])]) λr=>aC (Zj r) λx nv=>aW x λjo nw=>ag AI nw λn ny=>aq ny λj6 nz=>aq nz λkJ nA=>ak nA (aD nv (Yd AI (Zk r) λbO=>Zy (nT [Yy 0 0] [(0,[Zw jo,Zz AI n,Zx j6,Zx kJ])]) λr=>aC (Zj r) λx qg=>aW x λlJ qh=>ag AI qh λn qi=>aq qi λlq rh=>aq rh λnW ri=>ak ri (aD qg (AV.cR (Zk r) λcs=>aI cs λnK r=>aI r λmN r=>aI r λoD r=>ak r (Zy (iH [Yy 0 0] [(0,[Zw lJ,Zz AI n,Zx lq,Zx nW])]) λr=>aC (Zj r) λx sX=>aW x λqt wU=>ag AI wU λn wV=>aq wV λsq wW=>aq wW λpJ zK=>ak zK (aD sX (Yd AI (Zk r) λfI=>Zy (gA [Yy 0 0,Zz AI fI] [(0,[Zw qt,Zz AI n,Zx sq,Zx pJ])]) λr=>aC (Zj r) λx F_=>aW x λss F'=>ag AI F' λn Qw=>aq Qw λA_ Qx=>aq Qx λGW Qy=>ak Qy (aD F_ (Xd (Zk r) λAv=>let t3:AV:=Yw [Zu fG,Zz AI bf,Zz AT bL,Zz AI dm,Zz AI bU,Zz AI bO,Zu nK,Zu mN,Zu oD,Zw Av];C68 [t3] λGX n=>aE GW t0 (aE (!n==0) t0 (aE (!GX==b) t0 (Zg (Zn [t3,Zz AI 0],[])))))))))))))))))))) (aE gY t0 (aE (!Kerb.ll.err t2==0) t0 (aE (!Kerb.ll.val t2==b) t0 (Zg (Zn [Yw (Zu fG::Zz AI bf::t1),Zz AI 0],[])))))))))) ?_;unfold Lu C68;delta kT;dsimp only[CU,Oi,nT,jk,iH,gA,aI,aW,aq,cO,ag,bH,dc];have MP:([103,84,71,83]:List UInt8)=Kerb.vM:=rfl;have DV:([103,84,75,84]:List UInt8)=Kerb.ly:=rfl;have Hj:([67,80,87,108]:List UInt8)=Kerb.fO:=rfl;have zW:([67,80,87,100]:List UInt8)=Kerb.lH:=rfl;have MQ:([116,103,115,84]:List UInt8)=Kerb.zu:=rfl;have zg:([116,107,116,71]:List UInt8)=Kerb.p_:=rfl;have hb:=Qa3 ay;simp only[A0,ay,zW];rw[Kerb.J9];cases e2:((Yb b 0 4).val==Kerb.lH)
 .have e3:((Kerb.dw b 4 0 Zm).val==Kerb.lH)=Zm:=e2;have hl:∀ p n,(Yb b p n).val.length<=4611686018427387904:=λp n=>Zh (Kerb.gN b p n) (by omega);have hk:∀ q,0<=(Xm q).1/\(Xm q).1<18446744073709551616:=Kerb.dV;have lp:=Kerb.k9 b;rw[Bool.not_false,b_,ae (by simp only[Qa2];exact hl _ _),ae (by simp only[Zb,Qa2];exact⟨⟨⟨⟨Zh (lp _ _).1 (by omega),Zh (lp _ _).2.1 (by omega)⟩,Zh (lp _ _).2.2 (by omega)⟩,(hk _).1⟩,(hk _).2⟩)];exact Wx (no:=Kerb.n8) (enc:=Kerb.aZ) (rd:=Kerb.nC) _ _ (by unfold Kerb.nC Kerb.KQ;dsimp only;rw[e3];rfl) (λx e=>(Zn [Yw [Zu (x).label,Zz Zp (x).time,Zz Xn (x).ax,Zz Zp (x).start,Zz Zp (x).stop,Zz Zp (x).bt,Zu (x).service.name,Zu (x).service.inst,Zu (x).service.aK,Zw (x).aG],Zz Zp e],([]:aO)))
 .have e3:((Kerb.dw b 4 0 Zm).val==Kerb.lH)=Xw:=e2;refine Qb3 (ah rfl _ _) ?_;exact Wx (no:=Kerb.n8) (enc:=Kerb.aZ) (rd:=Kerb.nC) _ _ (by unfold Kerb.nC Kerb.KQ;dsimp only;rw[e3];rfl) (λx e=>(Zn [Yw [Zu (x).label,Zz Zp (x).time,Zz Xn (x).ax,Zz Zp (x).start,Zz Zp (x).stop,Zz Zp (x).bt,Zu (x).service.name,Zu (x).service.inst,Zu (x).service.aK,Zw (x).aG],Zz Zp e],([]:aO)))
theorem w84:Wk 84 5 Sa:=by
 refine cw Tryz.func84 λ_ _ _ h=> ?_;unfold Sa at h;split at h;case h_2=>cases h
 rename_i b;obtain⟨ay,rfl⟩:=dg h;refine c6 (let t0:Option (AV×aO):=Zg (Zn [Yw [Zu [],Zu [],Zu [],Zu [],Zu [],Zu [],Zz AT 0,Zz AI 0,Zz AI 0,Zz AI 0],Zz AI 100],[]);Zy (nT [Yy 0 0] [(0,[Zw b,Zz AI 0,Zx Zm,Zx Zm])]) λr=>aC (Zj r) λx dj=>aW x λbW dr=>ag AI dr λn dH=>aq dH λeg eK=>aq eK λeG fL=>ak fL (aD dj (AV.cR (Zk r) λcs=>aI cs λfG r=>aI r λgG r=>aI r λh_ r=>ak r (Zy (nT [Yy 0 0] [(0,[Zw bW,Zz AI n,Zx eg,Zx eG])]) λr=>aC (Zj r) λx f_=>aW x λgY g7=>ag AI g7 λn iA=>aq iA λjH io=>aq io λj7 dA=>ak dA (aD f_ (AV.cR (Zk r) λcs=>aI cs λfF r=>aI r λfM r=>aI r λgB r=>ak r (Zy (gA [Yy 0 0,Zz AI 8] [(0,[Zw gY,Zz AI n,Zx jH,Zx j7])]) λr=>aC (Zj r) λx eC=>aW x λgf eD=>ag AI eD λn fl=>aq fl λhO fz=>aq fz λiL fA=>ak fA (aD eC (Xd (Zk r) λiE=>Lu [Zw iE] λbf iZ=>Zy (jk [Yy 0 0] [(0,[Zw gf,Zz AI n,Zx hO,Zx iL])]) λr=>aC (Zj r) λx fS=>aW x λhU im=>ag AI im λn iS=>aq iS λjo iT=>aq iT λj6 iU=>ak iU (aD fS (Yd AI (Zk r) λbL=>Zy (jk [Yy 0 0] [(0,[Zw hU,Zz AI n,Zx jo,Zx j6])]) λr=>aC (Zj r) λx lN=>aW x λkJ lO=>ag AI lO λn lP=>aq lP λlJ lQ=>aq lQ λlq nu=>ak nu (aD lN (Yd AI (Zk r) λdm=>Zy (jk [Yy 0 0] [(0,[Zw kJ,Zz AI n,Zx lJ,Zx lq])]) λr=>aC (Zj r) λx nv=>aW x λnW nw=>ag AI nw λn ny=>aq ny λnK nz=>aq nz λmN nA=>ak nA (aD nv (Yd AI (Zk r) λn=>let t1:AV:=Yw [Zu fG,Zu gG,Zu h_,Zu fF,Zu fM,Zu gB,Zz AT bf,Zz AI bL,Zz AI dm,Zz AI n];C69 [t1] λoD n=>aE mN t0 (aE (!n==0) t0 (aE (!oD==b) t0 (Zg (Zn [t1,Zz AI 0],[]))))))))))))))))))) ?_;unfold Lu C69;delta kT;dsimp only[CU,Oj,nT,jk,gA,aI,aW,aq,cO,ag,bH,dc];have hb:=Qa3 ay;have lp:∀ p c,(Xy b p c).p.name.length<=9223372036854775807/\(Xy b p c).p.inst.length<=9223372036854775807/\(Xy b p c).p.aK.length<=9223372036854775807:=λp c=>by
  have h:=Kerb.k9 b p c;exact⟨Zh h.1 (by omega),Zh h.2.1 (by omega),Zh h.2.2 (by omega)⟩
 have hk:∀ q,0<=(Xm q).1/\(Xm q).1<18446744073709551616:=Kerb.dV;have hl:∀ p n,(Yb b p n).val.length<=4611686018427387904:=λp n=>Zh (Kerb.gN b p n) (by omega);simp only[A0,Yu,Yk,Kerb.eL.av,ay,lp,hk,hl,Qb4,Xu];rw[Kerb.Hf];exact Wx (no:=Kerb.FX) (enc:=Kerb.dL) (rd:=Kerb.Gc) _ _ rfl (λx e=>(Zn [Yw [Zu (x).BY.name,Zu (x).BY.inst,Zu (x).BY.aK,Zu (x).service.name,Zu (x).service.inst,Zu (x).service.aK,Zz Xn (x).ax,Zz Zp (x).start,Zz Zp (x).stop,Zz Zp (x).addr],Zz Zp e],([]:aO)))
theorem w85:Wk 85 5 Sb:=by
 refine cw Tryz.func85 λ_ _ _ h=> ?_;unfold Sb at h;split at h;case h_2=>cases h
 rename_i b;obtain⟨ay,rfl⟩:=dg h;refine c6 (let t0:Option (AV×aO):=Zg (Zn [Yw [Zz AT 0,Zu [],Zu [],Zu [],Zz AI 0,Zz AI 0,Zw []],Zz AI 100],[]);Zy (gA [Yy 0 0,Zz AI 8] [(0,[Zw b,Zz AI 0,Zx Zm,Zx Zm])]) λr=>aC (Zj r) λx dj=>aW x λbW dr=>ag AI dr λn dH=>aq dH λeg eK=>aq eK λeG fL=>ak fL (aD dj (Xd (Zk r) λfG=>Lu [Zw fG] λbf gG=>Zy (nT [Yy 0 0] [(0,[Zw bW,Zz AI n,Zx eg,Zx eG])]) λr=>aC (Zj r) λx f_=>aW x λh_ g7=>ag AI g7 λn iA=>aq iA λgY io=>aq io λjH dA=>ak dA (aD f_ (AV.cR (Zk r) λcs=>aI cs λj7 r=>aI r λfF r=>aI r λfM r=>ak r (Zy (jk [Yy 0 0] [(0,[Zw h_,Zz AI n,Zx gY,Zx jH])]) λr=>aC (Zj r) λx eC=>aW x λgB eD=>ag AI eD λn fl=>aq fl λgf fz=>aq fz λhO fA=>ak fA (aD eC (Yd AI (Zk r) λbL=>Zy (jk [Yy 0 0] [(0,[Zw gB,Zz AI n,Zx gf,Zx hO])]) λr=>aC (Zj r) λx fS=>aW x λiL im=>ag AI im λn iS=>aq iS λiE iT=>aq iT λiZ iU=>ak iU (aD fS (Yd AI (Zk r) λdm=>Zy (oZ [Yy 0 0] [(0,[Zw iL,Zz AI n,Zx iE,Zx iZ])]) λr=>aC (Zj r) λx lN=>aW x λhU lO=>ag AI lO λn lP=>aq lP λjo lQ=>aq lQ λj6 nu=>ak nu (aD lN (Yd AI (Zk r) λbU=>Zy (gA [Yy 0 0,Zz AI bU] [(0,[Zw hU,Zz AI n,Zx jo,Zx j6])]) λr=>aC (Zj r) λx nv=>aW x λkJ nw=>ag AI nw λn ny=>aq ny λlJ nz=>aq nz λlq nA=>ak nA (aD nv (Xd (Zk r) λnW=>let t1:AV:=Yw [Zz AT bf,Zu j7,Zu fF,Zu fM,Zz AI bL,Zz AI dm,Zw nW];C70 [t1] λnK n=>aE lq t0 (aE (!n==0) t0 (aE (!nK==b) t0 (Zg (Zn [t1,Zz AI 0],[])))))))))))))))))) ?_;unfold Lu C70;delta kT;dsimp only[CU,Ol,nT,jk,oZ,gA,aI,aW,aq,cO,ag,bH,dc];have hb:=Qa3 ay;have lp:∀ p c,(Xy b p c).p.name.length<=9223372036854775807/\(Xy b p c).p.inst.length<=9223372036854775807/\(Xy b p c).p.aK.length<=9223372036854775807:=λp c=>by
  have h:=Kerb.k9 b p c;exact⟨Zh h.1 (by omega),Zh h.2.1 (by omega),Zh h.2.2 (by omega)⟩
 have hk:∀ q,0<=(Xm q).1/\(Xm q).1<18446744073709551616:=Kerb.dV;have hl:∀ p n,(Yb b p n).val.length<=4611686018427387904:=λp n=>Zh (Kerb.gN b p n) (by omega);simp only[A0,Yu,Yk,Kerb.eL.av,ay,lp,hk,hl,Qb4,Xu];rw[Kerb.Fe];exact Wx (no:=Kerb.AQ) (enc:=Kerb.dh) (rd:=Kerb.AU) _ _ rfl (λx e=>(Zn [Yw [Zz Xn (x).ax,Zu (x).service.name,Zu (x).service.inst,Zu (x).service.aK,Zz Zp (x).start,Zz Zp (x).stop,Zw (x).record],Zz Zp e],([]:aO)))
theorem aex:Wk 115 5 Cx:=by
 refine cw Tryz.func115 λ_ _ _ h=> ?_;unfold Cx at h;split at h;case h_2=>cases h
 rename_i dt tc ad tm li kd k;obtain⟨ay,rfl⟩:=dg h;refine c6 (aE (!Kerb.ll.err (Kerb.eB (Kerb.rp.mk dt tc ad tm) li)==0) (Zg (Zn [Zw [],Zw [],Zz AI (Kerb.ll.err (Kerb.eB (Kerb.rp.mk dt tc ad tm) li))],[])) (W_ [Zz AI kd,Zz AT k,Zw (Kerb.ll.val (Kerb.eB (Kerb.rp.mk dt tc ad tm) li))] λb n=>aE (!n==0) (Zg (Zn [Zw [],Zw [],Zz AI n],[])) (Zg (Zn [Zw (Kerb.ll.val (Kerb.eB (Kerb.rp.mk dt tc ad tm) li)),Zw b,Zz AI 0],[])))) ?_;unfold W_;delta kT;dsimp only[Ll,aI,aW,aq,cO,ag,bH,dc];simp only[Zb,Qa2] at ay;have hk:(Zf (0<=k)&&Zf (k<18446744073709551616))=Xw:=by simp[ay]
 simp only[A0,Yu,Yk,Kerb.eL.av,hk];unfold Kerb.lS;by_cases h1:(Kerb.eB ⟨dt,tc,ad,tm⟩ li).err≠0
 .rw[af (by simpa using h1),Qa1 h1]
 rw[ah (by simpa using h1),Qa0 h1];by_cases h2:(Kerb.g_ kd k (Kerb.eB ⟨dt,tc,ad,tm⟩ li).val).err≠0
 .rw[af (by simpa using h2),Qa1 h2]
 rw[ah (by simpa using h2),Qa0 h2]
theorem aeO:Wk 132 5 I3:=by
 refine cw Tryz.func132 λ_ _ _ h=> ?_;unfold I3 at h;split at h;case h_2=>cases h
 rename_i b;obtain⟨ay,rfl⟩:=dg h;refine c6 (Zy (Oe [Zw b] []) (kT λvs=>aA vs λx r=>AV.cR x λcs=>ag AI cs λn dj=>ag AT dj λn dr=>aW dr λbW dH=>ak dH (ag AI r λn r=>ag AI r λbf r=>ak r (aE (bf==0) (Zg (Zx (n==(Zv b:Int)),[])) (Zg (Zx Zm,[])))))) ?_;delta kT;dsimp only[Oe,aI,aW,aq,cO,ag,bH,dc];have lb:=Qa3 ay;simp(config:={maxSteps:=10000000}) only[lb,Qb4,↓N2];unfold Kerb.oF;cases ((Kerb.aU b).err==0)<;>rfl
theorem afa:Wk 157 5 Cz:=by
 refine cw Tryz.func157 λ_ _ _ h=> ?_;unfold Cz at h;split at h;case h_2=>cases h
 rename_i B at_ bad;obtain⟨ay,rfl⟩:=dg h;refine tK [0] (Zy (tC [Yy 0 0,Zz AI 8] [(0,[Zw B,Zz AI at_,Zx bad])]) λr=>aC (Zj r) λx dj=>aW x λb dr=>ag AI dr λn dH=>aq dH λbW eK=>ak eK (aD dj (Xd (Zk r) λeg=>C' [Zw eg] λbf eG=>aE (!eG) (Zg (Zz AT 0,[[Zw b,Zz AI n,Zx Xw]])) (Zg (Zz AT bf,[[Zw b,Zz AI n,Zx bW]]))))) ?_;unfold C';delta kT;dsimp only[yF,tC,aI,aW,aq,cO,ag,bH,dc];have hb:=Qa3 ay;simp only[A0];have hl:(Kerb.dM B 8 at_ bad).val.length<=B.length:=Kerb.od B 8 at_ bad;rw[ae ay,ae (by simp;omega)];unfold Kerb.zG;cases (Xm (Kerb.dM B 8 at_ bad).val).2
 .simp[aE]
 .simp[aE]
theorem afb:Wk 158 5 I9:=by
 refine cw Tryz.func158 λ_ _ _ h=> ?_;unfold I9 at h;split at h;case h_2=>cases h
 rename_i lb t st en k;obtain⟨ay,rfl⟩:=dg h;refine c6 (Zy (Jo [Yw [Zu lb,Zz AI t,Zz AI st,Zz AI en,Zz AT k]] []) (kI AI λn=>aE (!n==0) (Zg (Zn [Zw [],Zz AI n],[])) (Zy (mI [Zw lb,Zz AI t,Zx Zm] []) (kO λl=>aE (Kerb.jG lb) (Zy (mI [Zw l,Zz AI st,Zx Zm] []) (kO λl=>Zy (mI [Zw l,Zz AI en,Zx Zm] []) (kO λl=>Zy (sb [Zw l] []) (kB λb=>Zg (Zn [Zw b,Zz AI 0],[]))))) (Zy (vf [Zz AT k] []) (kB λb=>aB (room (Zv l+Zv b) 1) (Zy (sb [Zw (l++b)] []) (kB λb=>Zg (Zn [Zw b,Zz AI 0],[]))))))))) ?_;delta kB kO kI;dsimp only[mI,vf,sb,Jo,aI,aW,aq,cO,ag,bH,dc];simp only[A0,ay];by_cases he:(Kerb.aR (Kerb.eQ.mk lb t st en k)).err=0;case neg=>rw[af (by simpa using he),Kerb.Hm he]
 rw[ah (by simp[he]),he];have hl:lb.length=4:=by
  obtain⟨_,⟨_,h4,_⟩ | ⟨h4,_⟩⟩:=Kerb.pe he
  .exact h4
  .simp only at h4;rw[h4];rfl
 rw[ae (by simp;omega)];rcases Kerb.Fl he with⟨ht,hv⟩ | ⟨ht,hv⟩
 .rw[af ht,hv,ae (by simp[Yz];omega),ae (by simp[Yz];omega),ae (by simp[Yz];omega)]
 .rw[ah ht,hv,ae (Kerb.cF (by simp[Yz,Yp];omega)),ae (by simp[Yz,Yp];omega)]
theorem afh:Wk 164 5 CA:=by
 refine cw Tryz.func164 λ_ _ _ h=> ?_;unfold CA at h;split at h;case h_2=>cases h
 rename_i B at_ bad;obtain⟨ay,rfl⟩:=dg h;refine tK [0] (Zy (yI [Yy 0 0,Zz AI 8] [(0,[Zw B,Zz AI at_,Zx bad])]) λr=>aC (Zj r) λx dj=>aW x λb dr=>ag AI dr λn dH=>aq dH λbW eK=>ak eK (aD dj (Xd (Zk r) λeg=>C' [Zw eg] λbf eG=>aE (!eG) (Zg (Zz AT bf,[[Zw b,Zz AI n,Zx Xw]])) (Zg (Zz AT bf,[[Zw b,Zz AI n,Zx bW]]))))) ?_;unfold C';delta kT;dsimp only[yF,yI,aI,aW,aq,cO,ag,bH,dc];have hb:=Qa3 ay;have hl:(Kerb.mU B 8 at_ bad).val.length<=B.length:=Kerb.gN B at_ 8;simp only[A0,Yu,Yk,Kerb.eL.av];rw[ae ay,ae (by simp;omega)];unfold Kerb.xQ;cases (Xm (Kerb.mU B 8 at_ bad).val).2
 .simp[aE]
 .simp[aE]
theorem afs:Wk 182 5 Jc:=by
 refine cw Tryz.func182 λ_ _ _ h=> ?_;unfold Jc at h;split at h;case h_2=>cases h
 rename_i b;obtain⟨ay,rfl⟩:=dg h;refine c6 (let t1:Int:=Zq AI (↑(BitVec.toNat (BitVec.ofInt (Xq AI) (Zq AI (Zq AI (↑(Wz (Yn b (Zd 10) (0:UInt8))):Int)*2 ^ min (Zd 8) (Xq AI))) ||| BitVec.ofInt (Xq AI) (Zq AI (↑(Wz (Yn b (Zd 11) (0:UInt8))):Int)))):Int);let t2:Option (AV×aO):=Zg (Zn [Yw [Zz AI 0,Zz AT 0,Zw []],Zz AI 0,Zz AI 100],[]);let t3:Option (AV×aO):=Zg (Zn [Yw [Zz AI 0,Zz AT 0,Zw []],Zz AI 0,Zz AI 101],[]);let t0:Int:=Zq AI (12+t1);aE (Zf ((Zv b:Int)<12)) t3 (aB (Zf (1<(Zv b:Int))) (aB (Zf (10<=(Zv b:Int))) (C' [Zw (List.drop (Zd 2) (List.take (Zd 10) b))] λn bW=>aB (Zf (10<(Zv b:Int))) (aB (Zf (11<(Zv b:Int))) (aB (Zf (0<(Zv b:Int))) (aE (!Yn b (Zd 0) (0:UInt8)==(66:UInt8)) t2 (aE (!Kerb.isKind (Zq AI (↑(Wz (Yn b (Zd 1) (0:UInt8))):Int))) t2 (aE (!bW) t2 (aE (Zf (t1>1000)) t2 (aE (Zf ((Zv b:Int)<t0)) t3 (aB (Zf (12<=t0)&&Zf (t0<=t0)&&Zf (t0<=(Zv b:Int))) (Zy (CH [Zw (List.drop (Zd 12) (List.take (Zd t0) b))] []) (kB λeg=>Zg (Zn [Yw [Zz AI (Zq AI (↑(Wz (Yn b (Zd 1) (0:UInt8))):Int)),Zz AT n,Zw eg],Zz AI t0,Zz AI 0],[]))))))))))))))) ?_;unfold C';delta kT kB;dsimp only[yF,CH,aI,aW,aq,cO,ag,bH,dc];simp only[Qa2] at ay;unfold Kerb.aU;by_cases h0:b.length<12
 .rw[af (by simp;omega),Qa1 h0];rfl
 rw[ah (by simp;omega),Qa0 h0];have hc:=Kerb.AF b 2 8;have hs:(b.getD 10 0).toNat*256+(b.getD 11 0).toNat=Kerb.mb b:=rfl;simp only[Kerb.O8,Kerb.Mr];simp only[show Zd 0=0 from rfl,show Zd 1=1 from rfl,show Zd 10=10 from rfl,show Zd 11=11 from rfl,Kerb.EV,hs];rw[ae (by simp;omega),ae (by simp;omega),ae (by simp;omega)];simp only[↓A0];rw[ae (by simp;omega),ae (by simp;omega),ae (by simp;omega)];by_cases h1:b.getD 0 0=66;case neg=>rw[af (by simpa using h1),Qa1 (.inl h1)];rfl
 rw[ah (by simpa using h1)];cases h2:Kerb.isKind ((b.getD 1 0).toNat:Int)
 .rw[Qa1 (.inr (.inl rfl))];rfl
 rw[Yg,aF];cases h3:(Xm (Kerb.cut b 2 8)).2
 .rw[Qa1 (.inr (.inr (.inl rfl)))];rfl
 rw[Yg,aF];by_cases h4:1000<Kerb.mb b
 .rw[af (by simp;omega),Qa1 (.inr (.inr (.inr h4)))];rfl
 rw[ah (by simp;omega),Qa0 (by rintro(h | h | h | h)<;>first | exact h h1 | cases h | omega),wrap_i64 (by omega) (by omega)];by_cases h5:b.length<12+Kerb.mb b
 .rw[af (by simp;omega),Qa1 h5];rfl
 have uA:=Kerb.AF b 12 (Kerb.mb b);rw[ah (by simp;omega),Qa0 h5,Kerb.O7,ae (by simp;omega)];simp only[↓A0];rw[ae (by simp;omega)];simp
theorem afA:Wk 191 5 Q8:=by
 refine cw Tryz.func191 λ_ _ _ h=> ?_;unfold Q8 at h;split at h;case h_2=>cases h
 rename_i s li;cases h;refine c6 (aE (Zf ((Zv s:Int)>1012)) (Zg (Zn [Zw [],Zz AI 105],[])) (Zy (aB (Zf (Zv (Xk 8 li)<=70368744177664)) (Zg (AV.bY (Xk 8 li++Kerb.aJ (Zv s:Int) 2 li),[]))) (kO λl=>Zy (aB (Zf (Zv (List.append l (List.append s []))<=140737488355328)&&Zf (Zv [Zw l,Zw s]<=1000)) (Zg (AV.bY (List.append l (List.append s [])),[]))) (kO λl=>Zg (Zn [Zw l,Zz AI 0],[]))))) ?_;delta kO;unfold Kerb.cj;by_cases h:1012<s.length
 .rw[af (by simp;omega),Qa1 h]
 rw[ah (by simp;omega),Qa0 h];have hl:(Xk 8 li).length=2:=by cases li<;>rfl
 simp only[↓A0];rw[ae (by simp[hl]),ae (by simp[Yz,hl];omega)];show Zg (Zn [Zw ((Xk 8 li++Kerb.aJ (↑s.length:Int) 2 li)++(s++[])),Zz Zp 0],([]:aO))=_;rw[List.append_nil]
theorem afB:Wk 192 5 Jf:=by
 refine cw Tryz.func192 λ_ _ _ h=> ?_;unfold Jf at h;split at h;case h_2=>cases h
 rename_i b;obtain⟨ay,rfl⟩:=dg h;refine c6 (let t0:Option (AV×aO):=Zg (Zn [Zz AI 0,Zw [],Zw [],Zx Zm,Zz AI 100],[]);let t1:List AV:=[Zx (Zk (Yx b [6,7])),Zz AI 0];let t2:List AV:=[Zz AI 1012,Zx (Zk (Yx b [6,7]))];aE (!Zj (Yx b [6,7])==0) (Zg (Zn [Zz AI 0,Zw [],Zw [],Zx Zm,Zz AI (Zj (Yx b [6,7]))],[])) (aE (Xp (Xf b)==7) (SA [Zw b,Zz AI 2,Zz AI 1000,Zx (Zk (Yx b [6,7]))] λbW n eg=>aE eg (SA (Zw b::Zz AI n::t2) λeG n fG=>aE (!fG) t0 (aE (!n==(Zv b:Int)) t0 (Zg (Zn (Zz AI (Xp (Xf b))::Zw bW::Zw eG::t1),[])))) (aE (!eg) t0 (aE (!n==(Zv b:Int)) t0 (Zg (Zn (Zz AI (Xp (Xf b))::Zw bW::Zw []::t1),[]))))) (SA (Zw b::Zz AI 2::t2) λbW n eg=>aE (!eg) t0 (aE (!n==(Zv b:Int)) t0 (Zg (Zn (Zz AI (Xp (Xf b))::Zw []::Zw bW::t1),[])))))) ?_;unfold SA;delta kT;dsimp only[Js,aI,aW,aq,cO,ag,bH,dc];simp only[Zb,Qa2] at ay;simp only[A0,Yu,Yk,Kerb.eL.av,ay,Qb4];unfold Kerb.gE;by_cases h:(Yx b [6,7]).2≠0
 .rw[af (by simpa using h),Qa1 h]
 rw[ah (by simpa using h),Qa0 h];unfold Kerb.jc;cases hk:((Xf b).kind==7)
 .simp only[aF,Qa7];cases h1:(Kerb.ew b 2 1012 (Yx b [6,7]).1).ok
  .rfl
  simp only[Yg,aF];by_cases h2:(Kerb.ew b 2 1012 (Yx b [6,7]).1).next=(b.length:Int)
  .rw[ah (by simp[h2]),Qa1 (by simp[h2])]
  .rw[af (by simpa using h2),Qa0 (by simp[h2])]
 .simp only[b_,Qa6];cases h1:(Kerb.ew b 2 1000 (Yx b [6,7]).1).ok
  .rfl
  simp only[b_];cases h3:(Kerb.ew b (Kerb.ew b 2 1000 (Yx b [6,7]).1).next 1012 (Yx b [6,7]).1).ok
  .simp only[Bool.not_false,b_];rw[Qa0 (by simp)]
  simp only[Yg,aF];by_cases h2:(Kerb.ew b (Kerb.ew b 2 1000 (Yx b [6,7]).1).next 1012 (Yx b [6,7]).1).next=(b.length:Int)
  .rw[ah (by simp[h2]),Qa1 (by simp[h2])]
  .rw[af (by simpa using h2),Qa0 (by simp[h2])]
theorem af7:Wk 225 5 CI:=by
 refine cw Tryz.func225 λ_ _ _ h=> ?_;unfold CI at h;split at h;case h_2=>cases h
 rename_i b t;obtain⟨ay,rfl⟩:=dg h;refine c6 (Zy (sa [Zw b,Zz AI (Zv t:Int)] []) (kO λl=>aB (room (Zv l+Zv t) 1) (Zg (Zw (l++t),[])))) ?_;delta kO;dsimp only[sa,aI,aW,aq,cO,ag,bH,dc];simp only[Qa2] at ay;simp only[A0];rw[ae (by simp;omega),ae (Kerb.cF (by simp[Yz];omega))];rfl
theorem aga:Wk 230 5 CK:=by
 refine cw Tryz.func230 λ_ _ _ h=> ?_;unfold CK at h;split at h;case h_2=>cases h
 rename_i b t;obtain⟨ay,rfl⟩:=dg h;refine c6 (Zy (CL [Zw b,Zz AI (Zv t:Int),Zx Zm] []) (kO λl=>aB (room (Zv l+Zv t) 1) (Zg (Zw (l++t),[])))) ?_;delta kO;dsimp only[CL,aI,aW,aq,cO,ag,bH,dc];simp only[Qa2] at ay;simp only[A0,Yu,Yk,Kerb.eL.av];rw[ae (by simp;omega),ae (Kerb.cF (by simp[Yz];omega))];rfl
theorem agm:Wk 246 5 vg:=by
 refine cw Tryz.func246 λ_ _ _ h=> ?_;unfold vg at h;split at h;case h_2=>cases h
 rename_i s;obtain⟨ay,rfl⟩:=dg h;refine c6 (aE (!s==[]) (aE (Zf ((Zv s:Int)<=39)) (Zy (CP [Zu s,Zu [(46:UInt8),(64:UInt8)]] []) (kL λb=>Zg (Zx b,[]))) (Zg (Zx Zm,[]))) (Zg (Zx Zm,[]))) ?_;delta kL;dsimp only[CP,aI,aW,aq,cO,ag,bH,dc];simp only[A0];rw[ae ay,decide_eq_decide.2 (show((s.length:Int)<=39)↔s.length<=39 from by omega)];simp only[Kerb.validName];cases s with
 | nil=>rfl
 | cons x r=>cases Zf ((x::r).length<=39)<;>rfl
theorem agn:Wk 247 5 sc:=by
 refine cw Tryz.func247 λ_ _ _ h=> ?_;unfold sc at h;split at h;case h_2=>cases h
 rename_i s;obtain⟨ay,rfl⟩:=dg h;refine c6 (aE (Zf ((Zv s:Int)<=39)) (Zy (CP [Zu s,Zu [(64:UInt8)]] []) (kL λb=>Zg (Zx b,[]))) (Zg (Zx Zm,[]))) ?_;delta kL;dsimp only[CP,aI,aW,aq,cO,ag,bH,dc];simp only[A0];rw[ae ay,decide_eq_decide.2 (show((s.length:Int)<=39)↔s.length<=39 from by omega)];simp only[Kerb.cA];cases Zf (s.length<=39)<;>rfl
theorem agq:Wk 250 5 Aq:=by
 refine cw Tryz.func250 λ_ _ _ h=> ?_;unfold Aq at h;split at h;case h_2=>cases h
 rename_i b t;obtain⟨ay,rfl⟩:=dg h;refine c6 (Zy (CL [Zw b,Zz AI (Zv t:Int),Zx Zm] []) (kO λl=>aB (room (Zv l+Zv t) 1) (Zg (Zw (l++t),[])))) ?_;delta kO;dsimp only[CL,aI,aW,aq,cO,ag,bH,dc];simp only[Qa2] at ay;simp only[A0];rw[ae (by simp;omega),ae (Kerb.cF (by simp[Yz];omega))];rfl
theorem agO:Wk 278 5 CQ:=by
 refine cw Tryz.func278 λ_ _ _ h=> ?_;unfold CQ at h;split at h;case h_2=>cases h
 rename_i a els s;obtain⟨ay,rfl⟩:=dg h;refine tK [0,2] (Zy (Ar [AV.bR 0 27 1,Zz AI (Zq AI (a-1)),Zz AI a,Zz AI (Zq AI (a+1)),Yy 4 0] [(0,els),(0+1+1+1+1,[Zz AI s])]) λr=>aC (Zj r) λx dj=>aC dj λx_1 dr=>aA x_1 λx_2 dH=>Yd AI x_2 λn=>ak dH (aD dr (Yd AI (Zk r) λbf=>Zg (Zz AI bf,[x,[Zz AI n]])))) ?_;dsimp only[Ar];simp only[Zb,Qa2] at ay;obtain⟨⟨⟨⟨⟨ig,hlen⟩,JO⟩,U7⟩,z7⟩,lh⟩:=ay;obtain⟨d,rfl,hd⟩:=Kerb.nq ig;simp only[Xh] at hlen U7;obtain⟨a,rfl⟩:=Yf (show 0<=a by omega);obtain⟨s,rfl⟩:=Yf (show 0<=s by omega);rw[show Zq AI ((a:Int)-1)=((a-1:Nat):Int) from(Yh (by omega) (by omega)).trans (by omega),show Zq AI ((a:Int)+1)=((a+1:Nat):Int) from(Yh (by omega) (by omega)).trans (by omega)];simp only[Kerb.median,Kerb.FT,Kerb.fq,Ym];rw[ae (by simp only[Kerb.eo,Xh,Wy,Zb,Qa2,Qa9,Qa8];omega)];simp only[↓gy,↓fm,↓bX,↓hF,↓lF,↓dx,↓dC,↓dR];rfl
theorem w23:Wk 23 6 Ro:=by
 refine cw Tryz.func23 λ_ _ _ h=> ?_;unfold Ro at h;split at h;case h_2=>cases h
 rename_i li x y z ad k lf xj sv ins key;obtain⟨ay,rfl⟩:=dg h;refine c6 (W9 [Yw [Zx li,Zu x,Zu y,Zu z,Zz AI ad,Zz AT k,Zz AI lf,Zz AI xj,Zu sv,Zu ins]] λb n=>aE (!n==0) (Zg (Zn [Zw [],Zz AI n],[])) (W_ [Zz AI 1,Zz AT key,Zw b] λb n=>Zg (Zn [Zw b,Zz AI n],[]))) ?_;unfold W9 W_;delta kT;dsimp only[Lj,Ll,aI,aW,aq,cO,ag,bH,dc];simp only[Zb,Qa2] at ay;obtain⟨⟨⟨⟨⟨⟨⟨⟨h1,h2⟩,h3⟩,h4⟩,h5⟩,h6⟩,h7⟩,h8⟩,h9⟩:=ay;simp only[h1,h2,h3,h4,h5,h6,h7,h8,h9,Qb4,Xu,↓A0,A0];unfold Kerb.gS;generalize Kerb.bC _=E;by_cases he:E.err=0
 .rw[ah (by simpa using he),Qa0 (by simpa using he)]
 .rw[af (by simpa using he),Qa1 he]
theorem w44:Wk 44 6 RN:=by
 refine cw Tryz.func44 λ_ _ _ h=> ?_;unfold RN at h;split at h;case h_2=>cases h
 rename_i dt tc ad tm li k;obtain⟨ay,rfl⟩:=dg h;refine c6 (Zy (Cx [Yw [Zw dt,Zz AI tc,Zz AI ad,Zz AI tm],Zx li,Zz AI 6,Zz AT k] []) (kT λvs=>aW vs λb r=>aW r λbW r=>ag AI r λn r=>ak r (aE (!n==0) (Zg (Zn [Zw [],Zz AI n],[])) (Zy (Ap [Zw (Xk 7 li),Zw b,Zx li] []) (kB λb=>Zy (Ap [Zw b,Zw bW,Zx li] []) (kB λb=>Zg (Zn [Zw b,Zz AI 0],[]))))))) ?_;delta kT kB;dsimp only[Cx,Ap,aI,aW,aq,cO,ag,bH,dc];simp only[Zb,Qa2] at ay;have hk:(Zf (0<=k)&&Zf (k<18446744073709551616))=Xw:=by simp[ay]
 have hl:=Kerb.s8 ⟨dt,tc,ad,tm⟩ li 6 k;have hh:∀ q,(Xk q li).length<=2:=λq=>by unfold Xk;cases Kerb.isKind q<;>simp
 have h6:=hh 6;have h7:=hh 7;simp only[A0,Yu,Yk,Kerb.eL.av,hk];unfold Kerb.rQ;by_cases h1:(Kerb.lS ⟨dt,tc,ad,tm⟩ li 6 k).err≠0
 .rw[af (by simpa using h1),Qa1 h1]
 rw[ah (by simpa using h1),Qa0 h1];rw[ae (by simp;omega),ae (by simp[Kerb.Ch,Yz];omega)]
theorem w45:Wk 45 6 RO:=by
 refine cw Tryz.func45 λ_ _ _ h=> ?_;unfold RO at h;split at h;case h_2=>cases h
 rename_i dt tc ad tm li k;obtain⟨ay,rfl⟩:=dg h;refine c6 (Zy (Cx [Yw [Zw dt,Zz AI tc,Zz AI ad,Zz AI tm],Zx li,Zz AI 5,Zz AT k] []) (kT λvs=>aW vs λb r=>aW r λb r=>ag AI r λn r=>ak r (aE (!n==0) (Zg (Zn [Zw [],Zz AI n],[])) (Zy (Ap [Zw (Xk 6 li),Zw b,Zx li] []) (kB λb=>Zg (Zn [Zw b,Zz AI 0],[])))))) ?_;delta kT kB;dsimp only[Cx,Ap,aI,aW,aq,cO,ag,bH,dc];simp only[Zb,Qa2] at ay;have hk:(Zf (0<=k)&&Zf (k<18446744073709551616))=Xw:=by simp[ay]
 have hl:=Kerb.s8 ⟨dt,tc,ad,tm⟩ li 5 k;have hh:∀ q,(Xk q li).length<=2:=λq=>by unfold Xk;cases Kerb.isKind q<;>simp
 have h6:=hh 6;have h7:=hh 7;simp only[A0,Yu,Yk,Kerb.eL.av,hk];unfold Kerb.rP;by_cases h1:(Kerb.lS ⟨dt,tc,ad,tm⟩ li 5 k).err≠0
 .rw[af (by simpa using h1),Qa1 h1]
 rw[ah (by simpa using h1),Qa0 h1];rw[ae (by simp;omega)]
theorem w50:Wk 50 6 vh:=by
 refine cw Tryz.func50 λ_ _ _ h=> ?_;unfold vh at h;split at h;case h_2=>cases h
 rename_i bs;obtain⟨ay,rfl⟩:=dg h;refine c6 (Zy (bD (λst=>bH 1 st λb r=>aA r λx r=>AV.aX x λbW=>ag AI r λn r=>ak r (aE (Zf (n<(Zv b:Int))) (aB (Zf (0<=n)&&Zf (n<(Zv b:Int))&&Xw) (Xd (Yn b (Zd n) Xj) λeg=>Zy (I3 [Zw eg] []) (kL λeG=>aE eG (aB (Zf (0<=n)&&Zf (n<(Zv b:Int))&&Xw) (Xd (Yn b (Zd n) Xj) λfG=>aB (room (Zv bW+Zv [Zw fG]) (nat_lit 24)) (Zg (Wv [AV.sl 1 b,Xg (bW++[Zw fG]),Zz AI (Zq AI (n+1))])))) (Zg (Wv [AV.sl 1 b,Xg bW,Zz AI (Zq AI (n+1))]))))) (Zg (Sum.inr (Ex.exit 0,[AV.sl 1 b,Xg bW,Zz AI n]))))) [AV.sl 1 bs,Xg [],Zz AI 0]) λ(r:Ex×List AV)=>bH 1 (Zj r) λb dj=>aA dj λx dr=>AV.aX x λb=>ag AI dr λn dH=>ak dH (jl r.1 none λj=>aE (Nat.beq j 0) (Zg (AV.sl 1 b,[])) none)) ?_;delta kL;dsimp only[I3,aI,aW,aq,cO,ag,bH,dc];obtain⟨l,rfl,hl,hn⟩:=Kerb.F4 ay;rw[Kerb.hJ];refine Kerb.l9 (λi=>[.sl 1 (Kerb.bF l),.aH (Kerb.bF (Kerb.gC (l.take i))),.int AI (i:Int)]) l.length (λi hi=> ?_) ⟨(.exit 0,[.sl 1 (Kerb.bF l),.aH (Kerb.bF (Kerb.gC l)),.int AI (l.length:Int)]),?_,?_⟩ rfl
 .have hm:(Kerb.gC (l.take i)).length<=100000000:=Zh (List.length_filter_le _ _) (by rw[List.length_take];omega);have g3:Zf ((l.getD i []).length<=140737488355328)=Xw:=by have:=hl _ (Kerb.lv [] hi);exact Qa4 (by omega)
  try dsimp only
  simp only[↓A0,A0,Kerb.Ht,Kerb.XL hi,Kerb.MY hi,g3,Xu,Bool.and_true,Kerb.yS (show i<=1000000000 by omega),Kerb.cG (Kerb.gC _),List.length_singleton,Kerb.Co hm,Kerb.vj];rw[Kerb.xA hi];cases Kerb.oF (l.getD i [])<;>rfl
 .try dsimp only
  simp only[↓A0,A0,Kerb.Tp,List.take_length]
 .rfl
theorem w51:Wk 51 6 RR:=by
 refine cw Tryz.func51 λ_ _ _ h=> ?_;unfold RR at h;split at h;case h_2=>cases h
 rename_i b;obtain⟨ay,rfl⟩:=dg h;refine c6 (let t1:AV:=Yw [Zx Zm,Zx Zm,Zz AI 0,Zu [],Zw [],Zw []];let t2:AV:=Zx (Zk (Yx b [3,4]));let t0:Option (AV×aO):=Zg (Zn [t1,Zz AI 100],[]);aE (!Zj (Yx b [3,4])==0) (Zg (Zn [t1,Zz AI (Zj (Yx b [3,4]))],[])) (Zy (iH [Yy 0 0] [(0,[Zw b,Zz AI 2,t2,Zx Zm])]) λr=>aC (Zj r) λx dj=>aW x λbW dr=>ag AI dr λn dH=>aq dH λeg eK=>aq eK λeG fL=>ak fL (aD dj (Yd AI (Zk r) λbf=>Zy (o0 [Yy 0 0] [(0,[Zw bW,Zz AI n,Zx eg,Zx eG])]) λr=>aC (Zj r) λx f_=>aW x λfG g7=>ag AI g7 λn iA=>aq iA λgG io=>aq io λh_ dA=>ak dA (aD f_ (AV.fK (Zk r) λgY=>Zy (iH [Yy 0 0] [(0,[Zw fG,Zz AI n,Zx gG,Zx h_])]) λr=>aC (Zj r) λx eC=>aW x λjH eD=>ag AI eD λn fl=>aq fl λj7 fz=>aq fz λfF fA=>ak fA (aD eC (Yd AI (Zk r) λbL=>Zy (iH [Yy 0 0] [(0,[Zw jH,Zz AI n,Zx j7,Zx fF])]) λr=>aC (Zj r) λx fS=>aW x λfM im=>ag AI im λn iS=>aq iS λgB iT=>aq iT λgf iU=>ak iU (aD fS (Yd AI (Zk r) λdm=>Zy (gA [Yy 0 0,Zz AI bL] [(0,[Zw fM,Zz AI n,Zx gB,Zx gf])]) λr=>aC (Zj r) λx lN=>aW x λhO lO=>ag AI lO λn lP=>aq lP λiL lQ=>aq lQ λiE nu=>ak nu (aD lN (Xd (Zk r) λiZ=>Zy (gA [Yy 0 0,Zz AI dm] [(0,[Zw hO,Zz AI n,Zx iL,Zx iE])]) λr=>aC (Zj r) λx nv=>aW x λhU nw=>ag AI nw λn ny=>aq ny λjo nz=>aq nz λj6 nA=>ak nA (aD nv (Xd (Zk r) λkJ=>let t3:AV:=Yw [t2,Zx (Xp (Xf b)==4),Zz AI bf,Zu gY,Zw iZ,Zw kJ];Zy (Ld [t3] []) (kT λvs=>aW vs λlJ r=>ag AI r λn r=>ak r (aE j6 t0 (aE (!n==0) t0 (aE (!lJ==b) t0 (Zg (Zn [t3,Zz AI 0],[])))))))))))))))))))) ?_;delta kT;dsimp only[Ld,iH,gA,o0,aI,aW,aq,cO,ag,bH,dc];have hb:=Qa3 ay;have kf:Zf (b.length<=4611686018427387904)=Xw:=by simp;omega
 have e1:∀ p,Zf ((Xx b p).val.length<=9223372036854775807)=Xw:=λp=>by have:=Kerb.fX b p;simp;omega
 unfold Kerb.eI;by_cases h:(Yx b [3,4]).2=0;case neg=>rw[af (by simpa using h),Qa1 h];rfl
 rw[ah (by simpa using h),Qa0 (by simpa using h)];simp only[ay,e1,Kerb.Ds h,↓A0,A0];rw[Kerb.ML];exact Wx (no:=Kerb.zC) (enc:=Kerb.bh) (rd:=λb=>((Kerb.Ga b (Xf b).By ((Xf b).kind==4)).val,(Kerb.Ga b (Xf b).By ((Xf b).kind==4)).bad)) _ _ rfl (λx e=>(Zn [.agg [.bool (x).By,.bool (x).c7,.int AI (x).bt,.str (x).aK,.bs (x).aG,.bs (x).ft],Zz Zp e],([]:aO)))
end Go.Proofs.YteafbgcimcpfiaaGreat
