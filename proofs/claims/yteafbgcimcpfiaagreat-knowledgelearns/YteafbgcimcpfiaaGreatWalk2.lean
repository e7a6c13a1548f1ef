/- What the functions of this seat compute. -/
import Derived.Test.YteafbgcimcpfiaaGreatWalk1
set_option linter.all false
open Go.IntKind renaming i64->AI,u64->AT
open Go.Abs.AV renaming int->Zz,str->Zq,bs->Zj,undef->Zg,bool->Zm,aw->Yx,aH->Yv,aQ->Yu,agg->Xj,aX->Xd
open List renaming length->Zy,getD->Zk,set->Zn,append->Xu,take->Xf,drop->Xg,range_succ->Wy
open Int renaming toNat->Zx,eq_ofNat_of_zero_le->Yy,toNat_natCast->Wq
open Go.IntKind renaming wrap->Zw,i64->Yw,bits->Wp
open Option renaming bind->Zv,some->Zh,none->Wf
open Decidable renaming decide->Zu
open Nat renaming blt->Zp,beq_refl->Yp,beq->Xp
open Bool renaming true->Zd,not_true->Zb,and_eq_true->Yk,false->Xz
open Kerb renaming within->Zf,ai->Yz,ar->Yd,aj->Yf,indexOf->Yg,next->Yn,rd->Xw,back->Xv,aY->Xq,swp_size->Xk,wr->Xb,dy->Xn,dS->Xm,aJ->Xh,vP->Wx,cF->Ww,gi->Wu,tq->Wj,header->Wd
open Array renaming setIfInBounds->Yq,size_setIfInBounds->Ym
open Prod renaming snd->Yj,fst->Xy
open Sum renaming inr->Yb,inl->Xx
open Go.Abs.Ex renaming exit->Yh
open Kerb.Client renaming av->Wz
open Kerb.Cache renaming av->Wv
namespace Go.Proofs.YteafbgcimcpfiaaGreat
open Go Go.Abs Go.Proofs
set_option maxRecDepth 100000
theorem ae5:Wk 150 3 yG:=by
 refine cw Tryz.func150 λ_ _ _ h=> ?_;unfold yG at h;split at h;case h_2=>cases h
 rename_i b pos;obtain⟨ay,rfl⟩:=dg h;refine c6 (let t5:List UInt8:=Xg (Zx pos) (Xf (Zx (Zy b:Int)) b);let t6:Option (AV×aO):=Zh (Yu [Zq [],Zz AI 0,Zz AI 105],[]);let t7:Option (AV×aO):=Zh (Yu [Zq [],Zz AI 0,Zz AI 101],[]);let t1:Int:=Yg (0:UInt8) t5;let t2:Int:=(Zy t5:Int);let t4:List UInt8:=Xg (Zx (↑(0:Nat):Int)) (Xf (Zx 40) t5);let t0:Int:=Yg (0:UInt8) t4;let t3:Int:=(Zy t4:Int);Zv (yM [Zj b,Zz AI pos,Zz AI 0] []) (kI AI λn=>aE (!n==0) (Zh (Yu [Zq [],Zz AI 0,Zz AI n],[])) (aB (Zu (0<=pos)&&Zu (pos<=(Zy b:Int))&&Zu ((Zy b:Int)<=(Zy b:Int))) (aE (Zu (t2>40)) (aB (Zu (40<=t2)) (aE (Zu (t0>=0)) (aB (Zu ((↑(0:Nat):Int)<=t0)&&Zu (t0<=t3)) (Zh (Yu [Zq (Xg (Zx (↑(0:Nat):Int)) (Xf (Zx t0) t4)),Zz AI (Zw AI (Zw AI (pos+t0)+1)),Zz AI 0],[]))) (aE (t3==40) t6 t7))) (aE (Zu (t1>=0)) (aB (Zu ((↑(0:Nat):Int)<=t1)&&Zu (t1<=t2)) (Zh (Yu [Zq (Xg (Zx (↑(0:Nat):Int)) (Xf (Zx t1) t5)),Zz AI (Zw AI (Zw AI (pos+t1)+1)),Zz AI 0],[]))) (aE (t2==40) t6 t7)))))) ?_;delta kI;dsimp only[yM,aI,aW,aq,cO,ag,bH,dc];simp only[Qa2] at ay;simp only[A0];rw[ae (by simpa using ay)];have ht:(Xf (Zx (b.length:Int)) b)=b:=by simp
 rw[ht];unfold Kerb.text;by_cases hr:Kerb.room b pos 0=0;case neg =>
  have acC:Kerb.room b pos 0=104:=by
   unfold Kerb.room at hr ⊢;split at hr
   .rw[Qa1 (by assumption)]
   .split at hr<;>omega
  rw[af (by simpa using hr),Qa0 hr,acC]
 obtain⟨q1,q2,_,_⟩:=Kerb.iB.1 hr;rw[ah (by simp[hr]),Qa1 hr,ae (by simp;omega)];obtain⟨R,hR⟩:∃ R,R=b.drop pos.toNat:=⟨_,rfl⟩;have hRl:R.length=b.length-pos.toNat:=by rw[hR];simp
 rw[<-hR];obtain⟨T,hT⟩:∃ T,T=R.take 40:=⟨_,rfl⟩;have Y9:=Kerb.BD 0 T;have key:(aE (Zu (Yg (0:UInt8) T>=(0:Int)))
   (aB (Zu (((0:Nat):Int)<=Yg (0:UInt8) T)&&Zu (Yg (0:UInt8) T<=(T.length:Int)))
    (Zh (Yu [Zq (Xg (Zx ((0:Nat):Int)) (Xf (Zx (Yg (0:UInt8) T)) T)),Zz Yw (Zw Yw (Zw Yw (pos+Yg (0:UInt8) T)+(1:Int))),Zz Yw (0:Int)],([]:aO))))
   (aE (((T.length:Int))==(40:Int)) (Zh (Yu [Zq [],Zz Yw (0:Int),Zz Yw (105:Int)],[]))
    (Zh (Yu [Zq [],Zz Yw (0:Int),Zz Yw (101:Int)],[])))) =
   Zh (Yu [Zq (if 0<=Yg 0 T then(⟨T.take (Yg 0 T).toNat,pos+Yg 0 T+1,0⟩:Kerb.mM) else if T.length=40 then⟨[],0,105⟩ else⟨[],0,101⟩).val,
    Zz Yw (if 0<=Yg 0 T then(⟨T.take (Yg 0 T).toNat,pos+Yg 0 T+1,0⟩:Kerb.mM) else if T.length=40 then⟨[],0,105⟩ else⟨[],0,101⟩).next,
    Zz Yw (if 0<=Yg 0 T then(⟨T.take (Yg 0 T).toNat,pos+Yg 0 T+1,0⟩:Kerb.mM) else if T.length=40 then⟨[],0,105⟩ else⟨[],0,101⟩).err],[]):=by
  have hTl:T.length<=b.length-pos.toNat:=by rw[hT];simp;omega
  by_cases hi:0<=Yg 0 T
  .rw[af (by simpa using hi),ae (by simp;omega),Qa1 hi,wrap_i64 (n:=pos+Yg 0 T) (by omega) (by omega),wrap_i64 (by omega) (by omega)];rfl
  .rw[ah (by simp;omega),Qa0 hi];by_cases h40:T.length=40
   .rw[af (by simp[h40]),Qa1 h40]
   .rw[ah (by simp;omega),Qa0 h40]
 by_cases ahF:40<R.length
 .rw[af (by simp;omega),ae (by simp;omega)];have e1:Xg (Zx ((0:Nat):Int)) (Xf (Zx (40:Int)) R)=T:=by rw[hT];rfl
  rw[e1];rw[<-hT];exact key
 .rw[ah (by simp;omega)];have e1:R=T:=by rw[hT,List.take_of_length_le (by omega)]
  rw[<-hT,e1];exact key
theorem ae9:Wk 154 3 tC:=by
 refine cw Tryz.func154 λ_ _ _ h=> ?_;unfold tC at h;split at h;case h_2=>cases h
 rename_i n B at_ bad;obtain⟨ay,rfl⟩:=dg h;refine tK [0] (tE [Zj B,Zz AI at_,Zz AI n] λb n bf=>aE (!!(bad || !bf==0)) (Zh (Zj [],[[Zj B,Zz AI (bif bad || !bf==0 then at_ else n),Zm (bad || !bf==0)]])) (Zh (Zj b,[[Zj B,Zz AI (bif bad || !bf==0 then at_ else n),Zm (bad || !bf==0)]]))) ?_;unfold tE;delta kT;dsimp only[tB,aI,aW,aq,cO,ag,bH,dc];have hb:=Qa3 ay;simp only[A0];rw[ae (by simp;omega)];unfold Kerb.dM;cases bad
 .simp only[Bool.false_or];generalize hq:(!(_==(0:Int)))=q;cases q<;>rfl
 .rfl
theorem afk:Wk 167 3 yI:=by
 refine cw Tryz.func167 λ_ _ _ h=> ?_;unfold yI at h;split at h;case h_2=>cases h
 rename_i n B at_ bad;obtain⟨ay,rfl⟩:=dg h;refine tK [0] (tE [Zj B,Zz AI at_,Zz AI n] λb n bf=>Zh (Zj b,[[Zj B,Zz AI (bif bf==0 then n else at_),Zm (bad || !bf==0)]])) ?_;unfold tE;delta kT;dsimp only[tB,aI,aW,aq,cO,ag,bH,dc];have hb:=Qa3 ay;simp only[A0,Wz,Wv,Kerb.eL.av];rw[ae (by simp;omega)];unfold Kerb.mU;rfl
theorem afu:Wk 185 3 Q6:=by
 refine cw Tryz.func185 λ_ _ _ h=> ?_;unfold Q6 at h;split at h;case h_2=>cases h
 rename_i b els;obtain⟨ay,rfl⟩:=dg h;refine c6 (aE (!Kerb.Head.err (Kerb.bj b)==0) (Zh (Yu [Zm Xz,Zz AI (Kerb.Head.err (Kerb.bj b))],[])) (Zv (Jr [Zz AI (Kerb.Head.kind (Kerb.bj b)),AV.sl 1 els] []) (kL λbW=>aE (!bW) (Zh (Yu [Zm Xz,Zz AI 40],[])) (Zh (Yu [Zm (Kerb.Head.By (Kerb.bj b)),Zz AI 0],[]))))) ?_;delta kL;dsimp only[Jr,aI,aW,aq,cO,ag,bH,dc];simp only[A0];unfold Kerb.aM;by_cases h:(Kerb.bj b).err=0
 .rw[ah (by simp[h]),ae ay];cases hc:(iP els).contains (Kerb.bj b).kind<;>simp[aE,h,hc]
 .rw[af (by simpa using h)];simp[h]
theorem afv:Wk 186 3 yL:=by
 refine cw Tryz.func186 λ_ _ _ h=> ?_;unfold yL at h;split at h;case h_2=>cases h
 rename_i b pos By;obtain⟨ay,rfl⟩:=dg h;refine c6 (Mz [Zj b,Zz AI pos,Zz AI 2,Zm By] λn bf bL=>Zh (Yu [Zz AI n,Zz AI bf,Zz AI bL],[])) ?_;unfold Mz;delta kT;dsimp only[CG,aI,aW,aq,cO,ag,bH,dc];simp only[A0];rw[ae (by rw[ay];rfl)]
theorem afI:Wk 199 3 Jj:=by
 refine cw Tryz.func199 λ_ _ _ h=> ?_;unfold Jj at h;split at h;case h_2=>cases h
 rename_i b pos By;obtain⟨ay,rfl⟩:=dg h;refine c6 (MA [Zj b,Zz AI pos,Zz AI 4,Zm By] λn bf bL=>Zh (Yu [Zz AI n,Zz AI bf,Zz AI bL],[])) ?_;unfold MA;delta kT;dsimp only[CN,aI,aW,aq,cO,ag,bH,dc];simp only[A0];rw[ae (by rw[ay];rfl)]
theorem afK:Wk 201 3 Jl:=by
 refine cw Tryz.func201 λ_ _ _ h=> ?_;unfold Jl at h;split at h;case h_2=>cases h
 rename_i b pos;obtain⟨ay,rfl⟩:=dg h;refine c6 (MA [Zj b,Zz AI pos,Zz AI 1,Zm Xz] λn bf bL=>Zh (Yu [Zz AI n,Zz AI bf,Zz AI bL],[])) ?_;unfold MA;delta kT;dsimp only[CN,aI,aW,aq,cO,ag,bH,dc];simp only[A0];rw[ae (by rw[ay];rfl)]
theorem afL:Wk 202 3 Jm:=by
 refine cw Tryz.func202 λ_ _ _ h=> ?_;unfold Jm at h;split at h;case h_2=>cases h
 rename_i b pos By;obtain⟨ay,rfl⟩:=dg h;refine c6 (MA [Zj b,Zz AI pos,Zz AI 2,Zm By] λn bf bL=>Zh (Yu [Zz AI n,Zz AI bf,Zz AI bL],[])) ?_;unfold MA;delta kT;dsimp only[CN,aI,aW,aq,cO,ag,bH,dc];simp only[A0];rw[ae (by rw[ay];rfl)]
theorem af1:Wk 219 3 qR:=by
 refine cw Tryz.func219 λ_ _ _ h=> ?_;unfold qR at h;split at h;case h_2=>cases h
 rename_i b s;obtain⟨ay,rfl⟩:=dg h;refine c6 (Zv (aB (Zu (Zy (Xu b (Xu s ((0:UInt8)::Xu [] [])))<=140737488355328)&&Zu (Zy [Zj b,Zj s,Zj [(0:UInt8)]]<=1000)) (Zh (AV.bY (Xu b (Xu s ((0:UInt8)::Xu [] []))),[]))) (kO λl=>Zh (AV.bY l,[]))) ?_;delta kO;simp only[Qa2] at ay;simp only[A0];rw[ae (by simp;omega)];simp[Kerb.bz]
theorem af2:Wk 220 3 sb:=by
 refine cw Tryz.func220 λ_ _ _ h=> ?_;unfold sb at h;split at h;case h_2=>cases h
 rename_i b;obtain⟨ay,rfl⟩:=dg h;refine c6 (let t0:Int:=Int.tmod (Zw AI (8-Int.tmod (Zy b:Int) 8)) 8;aB (Zu (0<=t0)&&Zu (t0<=t0)&&Zu (t0<=140737488355328)) (Zv (aB (Zu (Zy (Xu b (Xu (List.replicate (Zx t0) (0:UInt8)) []))<=140737488355328)&&Zu (Zy [Zj b,Zj (List.replicate (Zx t0) (0:UInt8))]<=1000)) (Zh (AV.bY (Xu b (Xu (List.replicate (Zx t0) (0:UInt8)) [])),[]))) (kO λl=>Zh (Zj l,[])))) ?_;delta kO;try dsimp only[aI,aW,aq,cO,ag,bH,dc]
 have hb:=Qa3 ay;rw[Kerb.Wl hb];simp only[A0];rw[ae (by simp;omega),ae (by simp;omega)];simp[Kerb.pad];omega
theorem af9:Wk 227 3 CJ:=by
 refine cw Tryz.func227 λ_ _ _ h=> ?_;unfold CJ at h;split at h;case h_2=>cases h
 rename_i k;obtain⟨ay,rfl⟩:=dg h;refine c6 (Zv (CC [Zz AT k] []) (kT λvs=>ag AI vs λn r=>ag AI r λbf r=>aq r λb r=>ak r (Zh (Zz AI n,[])))) ?_;delta kT;dsimp only[CC,aI,aW,aq,cO,ag,bH,dc];simp only[ay,↓A0,A0];rfl
theorem agv:Wk 256 3 yN:=by
 refine cw Tryz.func256 λ_ _ _ h=> ?_;unfold yN at h;split at h;case h_2=>cases h
 rename_i b n k By;obtain⟨ay,rfl⟩:=dg h;refine c6 (Zv (bD (λst=>aW st λb r=>ag AI r λn r=>ag AI r λbf r=>aq r λbW r=>aW r λc r=>ag AI r λbL r=>ag AI r λdm r=>ak r (aE (Zu (dm<bL)) (aE (!bW) (aB (Zu (0<=Zw AI (8*dm))) (aB (Zu (0<=Zw AI (Zw AI (bf-1)-dm))&&Zu (Zw AI (Zw AI (bf-1)-dm)<(Zy c:Int))&&Xp (Zy c) 4&&Zd) (aB (Zp (Zx (Zw AI (Zw AI (bf-1)-dm))) (Zy c)&&Zd&&Zd&&Zd&&Zd) (Zh (Xx [Zj b,Zz AI n,Zz AI bf,Zm bW,Zj (Zn c (Zx (Zw AI (Zw AI (bf-1)-dm))) (UInt8.ofNat (Zx (Zw .u8 (Int.fdiv n (2 ^ min (Zx (Zw AI (8*dm))) (Wp AI))))))),Zz AI bL,Zz AI (Zw AI (dm+1))]))))) (aB (Zu (0<=Zw AI (8*dm))) (aB (Zu (0<=dm)&&Zu (dm<(Zy c:Int))&&Xp (Zy c) 4&&Zd) (aB (Zp (Zx dm) (Zy c)&&Zd&&Zd&&Zd&&Zd) (Zh (Xx [Zj b,Zz AI n,Zz AI bf,Zm bW,Zj (Zn c (Zx dm) (UInt8.ofNat (Zx (Zw .u8 (Int.fdiv n (2 ^ min (Zx (Zw AI (8*dm))) (Wp AI))))))),Zz AI bL,Zz AI (Zw AI (dm+1))])))))) (Zh (Yb (Yh 0,[Zj b,Zz AI n,Zz AI bf,Zm bW,Zj c,Zz AI bL,Zz AI dm]))))) [Zj b,Zz AI n,Zz AI k,Zm By,Zj [(0:UInt8),(0:UInt8),(0:UInt8),(0:UInt8)],Zz AI k,Zz AI 0]) λ(r:Ex×List AV)=>aW (Yj r) λb dj=>ag AI dj λn dr=>ag AI dr λn dH=>aq dH λbW eK=>aW eK λc fL=>ag AI fL λbf f_=>ag AI f_ λbL g7=>ak g7 (jl r.1 Wf λj=>aE (Xp j 0) (aB (Zu ((↑(0:Nat):Int)<=n)&&Zu (n<=(Zy c:Int))&&Xp (Zy c) 4) (Zv (aB (Zu (Zy (Xu b (Xu (Xg (Zx (↑(0:Nat):Int)) (Xf (Zx n) c)) []))<=140737488355328)&&Zu (Zy [Zj b,Zj (Xg (Zx (↑(0:Nat):Int)) (Xf (Zx n) c))]<=1000)) (Zh (AV.bY (Xu b (Xu (Xg (Zx (↑(0:Nat):Int)) (Xf (Zx n) c)) [])),[]))) (kO λl=>Zh (AV.bY l,[])))) Wf)) ?_;delta kO;dsimp only[aW,aq,ag];simp only[Yk,Qa2] at ay;obtain⟨hk,hb⟩:=ay;rcases hk with rfl | rfl | rfl<;>cases By
 .refine gu 2 (Yh 0,[Zj b,Zz Yw n,Zz Yw 1,Zm Xz,Zj [Wx n 0,(0:UInt8),(0:UInt8),(0:UInt8)],Zz Yw 1,Zz Yw 1]) (by kernel_rfl) ?_;simp only[A0];rw[af (Yp _),ae (by simp),ae (by simp;omega)];simp[Kerb.tT,Xh,Kerb.fa,Wy]
 .refine gu 2 (Yh 0,[Zj b,Zz Yw n,Zz Yw 1,Zm Zd,Zj [Wx n 0,(0:UInt8),(0:UInt8),(0:UInt8)],Zz Yw 1,Zz Yw 1]) (by kernel_rfl) ?_;simp only[A0];rw[af (Yp _),ae (by simp),ae (by simp;omega)];simp[Kerb.tT,Xh,Kerb.fa,Wy]
 .refine gu 3 (Yh 0,[Zj b,Zz Yw n,Zz Yw 2,Zm Xz,Zj [Wx n 8,Wx n 0,(0:UInt8),(0:UInt8)],Zz Yw 2,Zz Yw 2]) (by kernel_rfl) ?_;simp only[A0];rw[af (Yp _),ae (by simp),ae (by simp;omega)];simp[Kerb.tT,Xh,Kerb.fa,Wy]
 .refine gu 3 (Yh 0,[Zj b,Zz Yw n,Zz Yw 2,Zm Zd,Zj [Wx n 0,Wx n 8,(0:UInt8),(0:UInt8)],Zz Yw 2,Zz Yw 2]) (by kernel_rfl) ?_;simp only[A0];rw[af (Yp _),ae (by simp),ae (by simp;omega)];simp[Kerb.tT,Xh,Kerb.fa,Wy]
 .refine gu 5 (Yh 0,[Zj b,Zz Yw n,Zz Yw 4,Zm Xz,Zj [Wx n 24,Wx n 16,Wx n 8,Wx n 0],Zz Yw 4,Zz Yw 4]) (by kernel_rfl) ?_;simp only[A0];rw[af (Yp _),ae (by simp),ae (by simp;omega)];simp[Kerb.tT,Xh,Kerb.fa,Wy]
 .refine gu 5 (Yh 0,[Zj b,Zz Yw n,Zz Yw 4,Zm Zd,Zj [Wx n 0,Wx n 8,Wx n 16,Wx n 24],Zz Yw 4,Zz Yw 4]) (by kernel_rfl) ?_;simp only[A0];rw[af (Yp _),ae (by simp),ae (by simp;omega)];simp[Kerb.tT,Xh,Kerb.fa,Wy]
theorem agA:Wk 263 3 Jw:=by
 refine cw Tryz.func263 λ_ _ _ h=> ?_;unfold Jw at h;split at h;case h_2=>cases h
 rename_i a b els;obtain⟨ay,rfl⟩:=dg h;refine tK [0] (Zv (bD (λst=>aA st λx r=>Xd x λy=>ag AI r λn r=>ag AI r λbf r=>ag AI r λbL r=>ak r (aE (Zu (bL<bf)) (Zv (bD (λst=>aA st λx r=>Xd x λy=>ag AI r λn r=>ag AI r λdm r=>ag AI r λbU r=>ag AI r λbO r=>ak r (aE (Zu (bO>n)) (aB (Zu (0<=bO)&&Zu (bO<(Zy y:Int))&&Zd) (aB (Zp (Zx bO) (Zy y)&&Zd) (Yx AT (Zk y (Zx bO) Zg) λfI=>aB (Zu (0<=Zw AI (bO-1))&&Zu (Zw AI (bO-1)<(Zy y:Int))&&Zd) (aB (Zp (Zx (Zw AI (bO-1))) (Zy y)&&Zd) (Yx AT (Zk y (Zx (Zw AI (bO-1))) Zg) λfZ=>aE (Zu (fI<fZ)) (aB (Zu (0<=Zw AI (bO-1))&&Zu (Zw AI (bO-1)<(Zy y:Int))&&Zd) (aB (Zp (Zx (Zw AI (bO-1))) (Zy y)&&Zd) (Yx AT (Zk y (Zx (Zw AI (bO-1))) Zg) λiN=>aB (Zu (0<=bO)&&Zu (bO<(Zy y:Int))&&Zd) (aB (Zp (Zx bO) (Zy y)&&Zd) (Yx AT (Zk y (Zx bO) Zg) λkY=>aB (Zu (0<=bO)&&Zu (bO<(Zy y:Int))&&Zd) (aB (Zp (Zx bO) (Zy y)&&Zd) (Yx AT (Zk y (Zx bO) Zg) λkr=>aB (Zy [Zz AT iN]==nat_lit 1&&Zd&&Zd&&Zd&&Zp (Zx bO) (Zy y)) (aB (Zu (0<=Zw AI (bO-1))&&Zu (Zw AI (bO-1)<(↑(Zy (Zn y (Zx bO) (Zz AT iN))):Int))&&Zd) (aB (Zp (Zx (Zw AI (bO-1))) (Zy (Zn y (Zx bO) (Zz AT iN)))&&Zd) (Yx AT (Zk (Zn y (Zx bO) (Zz AT iN)) (Zx (Zw AI (bO-1))) Zg) λgJ=>aB (Zy [Zz AT kY]==nat_lit 1&&Zd&&Zd&&Zd&&Zp (Zx (Zw AI (bO-1))) (Zy (Zn y (Zx bO) (Zz AT iN)))) (Zh (Xx [Yv (Zn (Zn y (Zx bO) (Zz AT iN)) (Zx (Zw AI (bO-1))) (Zz AT kY)),Zz AI n,Zz AI dm,Zz AI bU,Zz AI (Zw AI (bO-1))])))))))))))) (Zh (Yb (Yh 2,[Yv y,Zz AI n,Zz AI dm,Zz AI bU,Zz AI bO])))))))) (Zh (Yb (Yh 2,[Yv y,Zz AI n,Zz AI dm,Zz AI bU,Zz AI bO]))))) [Yv y,Zz AI n,Zz AI bf,Zz AI bL,Zz AI bL]) λ(r:Ex×List AV)=>aA (Yj r) λx dj=>Xd x λy=>ag AI dj λn dr=>ag AI dr λdm dH=>ag AI dH λbU eK=>ag AI eK λbO fL=>ak fL (jl r.1 (Zh (Yb (Ex.ret,[Yv y,Zz AI n,Zz AI dm,Zz AI bU]))) λj=>aE (Xp j 2) (Zh (Xx [Yv y,Zz AI n,Zz AI dm,Zz AI (Zw AI (bU+1))])) Wf)) (Zh (Yb (Yh 0,[Yv y,Zz AI n,Zz AI bf,Zz AI bL]))))) [Yv els,Zz AI a,Zz AI b,Zz AI (Zw AI (a+1))]) λ(r:Ex×List AV)=>aA (Yj r) λx dj=>Xd x λy=>ag AI dj λn dr=>ag AI dr λn dH=>ag AI dH λn eK=>ak eK (jl r.1 (Zh (Yu [],[y])) λj=>aE (Xp j 0) (Zh (Yu [],[y])) Wf)) ?_;dsimp only[ag];simp only[Yk,Qa2] at ay;obtain⟨⟨⟨⟨ig,hlen⟩,JO⟩,xe⟩,hb⟩:=ay;obtain⟨d,rfl,hd⟩:=Kerb.nq ig;simp only[Xq] at hlen hb;unfold Kerb.AM;rw[hd];obtain⟨a,rfl⟩:=Yy JO;obtain⟨b,rfl⟩:=Yy (show 0<=b by omega);simp only[Wq];rw[show Zw AI ((a:Int)+1)=((a+1:Nat):Int) from Kerb.iw (by omega) (by omega)];unfold Go.Sort.insertionSort
 refine bQ (λs:Array Int×Nat=>[Yv (Xv s.1),Zz AI (a:Int),Zz AI (b:Int),Zz AI (s.2:Int)]) (λs=>s.1.size=d.size/\s.2<=b+1/\Go.Sort.insOuter Go.Sort.ltInt a b s.2 s.1=Go.Sort.insOuter Go.Sort.ltInt a b (a+1) d) (λs=>b-s.2) (λr=>∃ n m k,r=(.exit 0,[Yv (Xv (Go.Sort.insOuter Go.Sort.ltInt a b (a+1) d)),Zz AI n,Zz AI m,Zz AI k])) (d,a+1) ⟨rfl,by dsimp only;omega,rfl⟩ rfl ?_ ?_
 .rintro⟨e,i⟩ ⟨hs,hi,hr⟩;dsimp only at hs hi hr ⊢;simp only[↓bX,↓cH,↓dx,↓dC];by_cases h:i<b;case neg =>
   rw[ah (by simp;omega)];refine⟨_,rfl,(a:Int),(b:Int),(i:Int),?_⟩;rw[<-hr];unfold Go.Sort.insOuter;rw[Qa0 h]
  rw[af (by simp;omega)];refine FN (λs:Array Int×Nat=>[Yv (Xv s.1),Zz AI (a:Int),Zz AI (b:Int),Zz AI (i:Int),Zz AI (s.2:Int)]) (λs=>s.1.size=d.size/\s.2<=i/\Go.Sort.insInner Go.Sort.ltInt a s.2 s.1=Go.Sort.insInner Go.Sort.ltInt a i e) (λs=>s.2) (λr=>∃ k,r=(.exit 2,[Yv (Xv (Go.Sort.insInner Go.Sort.ltInt a i e)),Zz AI (a:Int),Zz AI (b:Int),Zz AI (i:Int),Zz AI k])/\(Go.Sort.insInner Go.Sort.ltInt a i e).size=d.size) (e,i) ⟨hs,Nat.le_refl _,rfl⟩ rfl ?_ ?_
  .rintro⟨f,j⟩ ⟨gZ,hj,n7⟩;dsimp only at gZ hj n7 ⊢;simp only[↓bX,↓cH,↓dx,↓dC];have done:Go.Sort.insInner Go.Sort.ltInt a j f=f->∃ y,(Zh (Yb (Yh 2,[Yv (Xv f),Zz AI (a:Int),Zz AI (b:Int),Zz AI (i:Int),Zz AI (j:Int)])):Option (List AV ⊕ (Ex×List AV)))=Zh y/\A5 (λs:Array Int×Nat=>[Yv (Xv s.1),Zz AI (a:Int),Zz AI (b:Int),Zz AI (i:Int),Zz AI (s.2:Int)]) (λs=>s.1.size=d.size/\s.2<=i/\Go.Sort.insInner Go.Sort.ltInt a s.2 s.1=Go.Sort.insInner Go.Sort.ltInt a i e) (λs=>s.2) (λr=>∃ k,r=(.exit 2,[Yv (Xv (Go.Sort.insInner Go.Sort.ltInt a i e)),Zz AI (a:Int),Zz AI (b:Int),Zz AI (i:Int),Zz AI k])/\(Go.Sort.insInner Go.Sort.ltInt a i e).size=d.size) (f,j) y:=λq=>by
    refine⟨_,rfl,j,?_,?_⟩
    .rw[<-n7,q]
    .rw[<-n7,q];exact gZ
   by_cases hja:j>a;case neg =>
    rw[ah (by simp;omega)];refine done ?_;cases j with
    | zero=>rfl
    | succ j=>simp only[Go.Sort.insInner];rw[Qa0 (by simp;omega)]
   obtain⟨m,rfl⟩:∃ m,j=m+1:=⟨j-1,by omega⟩;have h1:m+1<f.size:=by omega
   have h2:m<f.size:=by omega
   rw[af (by simp;omega)];simp only[show Zw AI (((m+1:Nat):Int)-1)=(m:Int) from(Kerb.iw (by omega) (by omega)).trans (by omega)];rw[Xw h1,Xw h2];by_cases fY:f[m+1]! < f[m]!;case neg =>
    rw[ah (by simpa using fY)];refine done ?_;simp only[Go.Sort.insInner];rw[Qa0 (by simp[Go.Sort.ltInt,fY])]
   rw[af (by simpa using fY),Kerb.sw h1 h2 (λl=>Zh (Xx [Yv l,Zz AI (a:Int),Zz AI (b:Int),Zz AI (i:Int),Zz AI (m:Int)]))];refine⟨_,rfl,(Go.Sort.swp f (m+1) m,m),rfl,⟨by dsimp only;rw[Xk,gZ],by dsimp only;omega,?_⟩,by dsimp only;omega⟩;dsimp only;rw[<-n7];conv=>rhs;simp only[Go.Sort.insInner]
   rw[Qa1 (by simp[Go.Sort.ltInt,fY];omega)]
  .rintro _ ⟨k,rfl,fV⟩;simp only[↓bX,↓cH,↓dx,↓dC,↓km];rw[af (Yp _),show Zw AI ((i:Int)+1)=((i+1:Nat):Int) from Kerb.iw (by omega) (by omega)];refine⟨_,rfl,(Go.Sort.insInner Go.Sort.ltInt a i e,i+1),rfl,⟨fV,by dsimp only;omega,?_⟩,by dsimp only;omega⟩;dsimp only;rw[<-hr];conv=>rhs;unfold Go.Sort.insOuter
   rw[Qa1 h]
 .rintro _ ⟨n,m,k,rfl⟩;simp only[↓bX,↓cH,↓dx,↓dC,↓km];rw[af (Yp _)]
theorem agF:Wk 268 3 JB:=by
 refine cw Tryz.func268 λ_ _ _ h=> ?_;unfold JB at h;split at h;case h_2=>cases h
 rename_i a b els;obtain⟨ay,rfl⟩:=dg h
 refine tK [0] (Zv (bD (λst=>aA st λx r=>Xd x λy=>ag AI r λn r=>ag AI r λbf r=>aq r λb r=>ag AI r λbL r=>ag AI r λdm r=>ak r (aE (Zu (dm<5)) (Zv (bD (λst=>aA st λx r=>Xd x λy=>ag AI r λn r=>ag AI r λbU r=>ag AI r λbO r=>ag AI r λfI r=>aq r λb r=>let t0:Option (List AV ⊕ Ex×List AV):=Zh (Yb (Yh 2,[Yv y,Zz AI n,Zz AI bU,Zz AI bO,Zz AI fI,Zm b]));ak r (aE (Zu (bO<bU)) (aB (Zu (0<=bO)&&Zu (bO<(Zy y:Int))&&Zd) (aB (Zp (Zx bO) (Zy y)&&Zd) (Yx AT (Zk y (Zx bO) Zg) λfZ=>aB (Zu (0<=Zw AI (bO-1))&&Zu (Zw AI (bO-1)<(Zy y:Int))&&Zd) (aB (Zp (Zx (Zw AI (bO-1))) (Zy y)&&Zd) (Yx AT (Zk y (Zx (Zw AI (bO-1))) Zg) λiN=>aE (!Zu (fZ<iN)) (Zh (Xx [Yv y,Zz AI n,Zz AI bU,Zz AI (Zw AI (bO+1)),Zz AI fI,Zm b])) t0))))) t0)) [Yv y,Zz AI n,Zz AI bf,Zz AI bL,Zz AI dm,Zm b]) λ(r:Ex×List AV)=>aA (Yj r) λx dj=>Xd x λy=>ag AI dj λn dr=>ag AI dr λbU dH=>ag AI dH λbO eK=>ag AI eK λfI fL=>let t1:List AV:=[Zz AI bO,Zz AI fI];aq fL λb f_=>ak f_ (jl r.1 (Zh (Yb (Ex.ret,Yv y::Zz AI n::Zz AI bU::Zm b::t1))) λj=>aE (Xp j 2) (aE (bO==bU) (Zh (Yb (Ex.ret,Yv y::Zz AI n::Zz AI bU::Zm Zd::t1))) (aE (Zu (Zw AI (bU-n)<50)) (Zh (Yb (Ex.ret,Yv y::Zz AI n::Zz AI bU::Zm Xz::t1))) (aB (Zu (0<=Zw AI (bO-1))&&Zu (Zw AI (bO-1)<(Zy y:Int))&&Zd) (aB (Zp (Zx (Zw AI (bO-1))) (Zy y)&&Zd) (Yx AT (Zk y (Zx (Zw AI (bO-1))) Zg) λfZ=>let t2:Bool:=Zp (Zx (Zw AI (bO-1))) (Zy (Zn y (Zx bO) (Zz AT fZ)));aB (Zu (0<=bO)&&Zu (bO<(Zy y:Int))&&Zd) (aB (Zp (Zx bO) (Zy y)&&Zd) (Yx AT (Zk y (Zx bO) Zg) λiN=>let t3:AV:=Yv (Zn (Zn y (Zx bO) (Zz AT fZ)) (Zx (Zw AI (bO-1))) (Zz AT iN));aB (Zu (0<=bO)&&Zu (bO<(Zy y:Int))&&Zd) (aB (Zp (Zx bO) (Zy y)&&Zd) (Yx AT (Zk y (Zx bO) Zg) λkY=>aB (Zy [Zz AT fZ]==nat_lit 1&&Zd&&Zd&&Zd&&Zp (Zx bO) (Zy y)) (aB (Zu (0<=Zw AI (bO-1))&&Zu (Zw AI (bO-1)<(↑(Zy (Zn y (Zx bO) (Zz AT fZ))):Int))&&Zd) (aB (t2&&Zd) (Yx AT (Zk (Zn y (Zx bO) (Zz AT fZ)) (Zx (Zw AI (bO-1))) Zg) λkr=>aB (Zy [Zz AT iN]==nat_lit 1&&Zd&&Zd&&Zd&&t2) (aE (Zu (Zw AI (bO-n)>=2)) (Zv (bD (λst=>aA st λx r=>Xd x λy=>ag AI r λn r=>ag AI r λgJ r=>ag AI r λjA r=>ag AI r λgO r=>ag AI r λbI r=>let t4:Bool:=Zu (0<=bI)&&Zu (bI<(Zy y:Int))&&Zd;let t5:Bool:=Zu (0<=Zw AI (bI-1))&&Zu (Zw AI (bI-1)<(Zy y:Int))&&Zd;aq r λb r=>let t6:Option (List AV ⊕ Ex×List AV):=Zh (Yb (Yh 4,[Yv y,Zz AI n,Zz AI gJ,Zz AI jA,Zz AI gO,Zz AI bI,Zm b]));ak r (aE (Zu (bI>=1)) (aB t4 (aB (Zp (Zx bI) (Zy y)&&Zd) (Yx AT (Zk y (Zx bI) Zg) λjg=>aB t5 (aB (Zp (Zx (Zw AI (bI-1))) (Zy y)&&Zd) (Yx AT (Zk y (Zx (Zw AI (bI-1))) Zg) λgj=>aE (!Zu (jg<gj)) t6 (aB t5 (aB (Zp (Zx (Zw AI (bI-1))) (Zy y)&&Zd) (Yx AT (Zk y (Zx (Zw AI (bI-1))) Zg) λdW=>let t7:Bool:=Zp (Zx (Zw AI (bI-1))) (Zy (Zn y (Zx bI) (Zz AT dW)));aB t4 (aB (Zp (Zx bI) (Zy y)&&Zd) (Yx AT (Zk y (Zx bI) Zg) λbT=>aB t4 (aB (Zp (Zx bI) (Zy y)&&Zd) (Yx AT (Zk y (Zx bI) Zg) λra=>aB (Zy [Zz AT dW]==nat_lit 1&&Zd&&Zd&&Zd&&Zp (Zx bI) (Zy y)) (aB (Zu (0<=Zw AI (bI-1))&&Zu (Zw AI (bI-1)<(↑(Zy (Zn y (Zx bI) (Zz AT dW))):Int))&&Zd) (aB (t7&&Zd) (Yx AT (Zk (Zn y (Zx bI) (Zz AT dW)) (Zx (Zw AI (bI-1))) Zg) λre=>aB (Zy [Zz AT bT]==nat_lit 1&&Zd&&Zd&&Zd&&t7) (Zh (Xx [Yv (Zn (Zn y (Zx bI) (Zz AT dW)) (Zx (Zw AI (bI-1))) (Zz AT bT)),Zz AI n,Zz AI gJ,Zz AI jA,Zz AI gO,Zz AI (Zw AI (bI-1)),Zm b]))))))))))))))))) t6)) [t3,Zz AI n,Zz AI bU,Zz AI bO,Zz AI fI,Zz AI (Zw AI (bO-1)),Zm b]) λ(r:Ex×List AV)=>aA (Yj r) λx g7=>Xd x λy=>ag AI g7 λn iA=>ag AI iA λgJ io=>ag AI io λjA dA=>ag AI dA λgO eC=>ag AI eC λbI eD=>aq eD λb fl=>ak fl (jl r.1 (Zh (Yb (Ex.ret,[Yv y,Zz AI n,Zz AI gJ,Zm b,Zz AI jA,Zz AI gO]))) λj=>aE (Xp j 4) (aE (Zu (Zw AI (gJ-jA)>=2)) (Zv (bD (λst=>aA st λx r=>Xd x λy=>ag AI r λn r=>ag AI r λjg r=>ag AI r λgj r=>ag AI r λdW r=>ag AI r λbT r=>let t8:Bool:=Zu (0<=bT)&&Zu (bT<(Zy y:Int))&&Zd;let t9:Bool:=Zu (0<=Zw AI (bT-1))&&Zu (Zw AI (bT-1)<(Zy y:Int))&&Zd;aq r λb r=>let t10:Option (List AV ⊕ Ex×List AV):=Zh (Yb (Yh 6,[Yv y,Zz AI n,Zz AI jg,Zz AI gj,Zz AI dW,Zz AI bT,Zm b]));ak r (aE (Zu (bT<jg)) (aB t8 (aB (Zp (Zx bT) (Zy y)&&Zd) (Yx AT (Zk y (Zx bT) Zg) λra=>aB t9 (aB (Zp (Zx (Zw AI (bT-1))) (Zy y)&&Zd) (Yx AT (Zk y (Zx (Zw AI (bT-1))) Zg) λre=>aE (!Zu (ra<re)) t10 (aB t9 (aB (Zp (Zx (Zw AI (bT-1))) (Zy y)&&Zd) (Yx AT (Zk y (Zx (Zw AI (bT-1))) Zg) λjJ=>let t11:Bool:=Zp (Zx (Zw AI (bT-1))) (Zy (Zn y (Zx bT) (Zz AT jJ)));aB t8 (aB (Zp (Zx bT) (Zy y)&&Zd) (Yx AT (Zk y (Zx bT) Zg) λvN=>aB t8 (aB (Zp (Zx bT) (Zy y)&&Zd) (Yx AT (Zk y (Zx bT) Zg) λQd=>aB (Zy [Zz AT jJ]==nat_lit 1&&Zd&&Zd&&Zd&&Zp (Zx bT) (Zy y)) (aB (Zu (0<=Zw AI (bT-1))&&Zu (Zw AI (bT-1)<(↑(Zy (Zn y (Zx bT) (Zz AT jJ))):Int))&&Zd) (aB (t11&&Zd) (Yx AT (Zk (Zn y (Zx bT) (Zz AT jJ)) (Zx (Zw AI (bT-1))) Zg) λQe=>aB (Zy [Zz AT vN]==nat_lit 1&&Zd&&Zd&&Zd&&t11) (Zh (Xx [Yv (Zn (Zn y (Zx bT) (Zz AT jJ)) (Zx (Zw AI (bT-1))) (Zz AT vN)),Zz AI n,Zz AI jg,Zz AI gj,Zz AI dW,Zz AI (Zw AI (bT+1)),Zm b]))))))))))))))))) t10)) [Yv y,Zz AI n,Zz AI gJ,Zz AI jA,Zz AI gO,Zz AI (Zw AI (jA+1)),Zm b]) λ(r:Ex×List AV)=>aA (Yj r) λx fz=>Xd x λy=>ag AI fz λn fA=>ag AI fA λjg fS=>ag AI fS λgj im=>ag AI im λdW iS=>ag AI iS λbT iT=>aq iT λb iU=>ak iU (jl r.1 (Zh (Yb (Ex.ret,[Yv y,Zz AI n,Zz AI jg,Zm b,Zz AI gj,Zz AI dW]))) λj=>aE (Xp j 6) (Zh (Xx [Yv y,Zz AI n,Zz AI jg,Zm b,Zz AI gj,Zz AI (Zw AI (dW+1))])) Wf)) (Zh (Xx [Yv y,Zz AI n,Zz AI gJ,Zm b,Zz AI jA,Zz AI (Zw AI (gO+1))]))) Wf)) (aE (Zu (Zw AI (bU-bO)>=2)) (Zv (bD (λst=>aA st λx r=>Xd x λy=>ag AI r λn r=>ag AI r λgJ r=>ag AI r λjA r=>ag AI r λgO r=>ag AI r λbI r=>let t12:Bool:=Zu (0<=bI)&&Zu (bI<(Zy y:Int))&&Zd;let t13:Bool:=Zu (0<=Zw AI (bI-1))&&Zu (Zw AI (bI-1)<(Zy y:Int))&&Zd;aq r λb r=>let t14:Option (List AV ⊕ Ex×List AV):=Zh (Yb (Yh 6,[Yv y,Zz AI n,Zz AI gJ,Zz AI jA,Zz AI gO,Zz AI bI,Zm b]));ak r (aE (Zu (bI<gJ)) (aB t12 (aB (Zp (Zx bI) (Zy y)&&Zd) (Yx AT (Zk y (Zx bI) Zg) λjg=>aB t13 (aB (Zp (Zx (Zw AI (bI-1))) (Zy y)&&Zd) (Yx AT (Zk y (Zx (Zw AI (bI-1))) Zg) λgj=>aE (!Zu (jg<gj)) t14 (aB t13 (aB (Zp (Zx (Zw AI (bI-1))) (Zy y)&&Zd) (Yx AT (Zk y (Zx (Zw AI (bI-1))) Zg) λdW=>let t15:Bool:=Zp (Zx (Zw AI (bI-1))) (Zy (Zn y (Zx bI) (Zz AT dW)));aB t12 (aB (Zp (Zx bI) (Zy y)&&Zd) (Yx AT (Zk y (Zx bI) Zg) λbT=>aB t12 (aB (Zp (Zx bI) (Zy y)&&Zd) (Yx AT (Zk y (Zx bI) Zg) λra=>aB (Zy [Zz AT dW]==nat_lit 1&&Zd&&Zd&&Zd&&Zp (Zx bI) (Zy y)) (aB (Zu (0<=Zw AI (bI-1))&&Zu (Zw AI (bI-1)<(↑(Zy (Zn y (Zx bI) (Zz AT dW))):Int))&&Zd) (aB (t15&&Zd) (Yx AT (Zk (Zn y (Zx bI) (Zz AT dW)) (Zx (Zw AI (bI-1))) Zg) λre=>aB (Zy [Zz AT bT]==nat_lit 1&&Zd&&Zd&&Zd&&t15) (Zh (Xx [Yv (Zn (Zn y (Zx bI) (Zz AT dW)) (Zx (Zw AI (bI-1))) (Zz AT bT)),Zz AI n,Zz AI gJ,Zz AI jA,Zz AI gO,Zz AI (Zw AI (bI+1)),Zm b]))))))))))))))))) t14)) [t3,Zz AI n,Zz AI bU,Zz AI bO,Zz AI fI,Zz AI (Zw AI (bO+1)),Zm b]) λ(r:Ex×List AV)=>aA (Yj r) λx g7=>Xd x λy=>ag AI g7 λn iA=>ag AI iA λgJ io=>ag AI io λjA dA=>ag AI dA λgO eC=>ag AI eC λbI eD=>aq eD λb fl=>ak fl (jl r.1 (Zh (Yb (Ex.ret,[Yv y,Zz AI n,Zz AI gJ,Zm b,Zz AI jA,Zz AI gO]))) λj=>aE (Xp j 6) (Zh (Xx [Yv y,Zz AI n,Zz AI gJ,Zm b,Zz AI jA,Zz AI (Zw AI (gO+1))])) Wf)) (Zh (Xx [t3,Zz AI n,Zz AI bU,Zm b,Zz AI bO,Zz AI (Zw AI (fI+1))])))))))))))))))) Wf)) (Zh (Yb (Yh 0,[Yv y,Zz AI n,Zz AI bf,Zm b,Zz AI bL,Zz AI dm]))))) [Yv els,Zz AI a,Zz AI b,Zm Xz,Zz AI (Zw AI (a+1)),Zz AI 0]) λ(r:Ex×List AV)=>aA (Yj r) λx dj=>Xd x λy=>ag AI dj λn dr=>ag AI dr λn dH=>aq dH λb eK=>ag AI eK λn fL=>ag AI fL λn f_=>ak f_ (jl r.1 (Zh (Zm b,[y])) λj=>aE (Xp j 0) (Zh (Zm Xz,[y])) Wf)) ?_
 try dsimp only[aI,aW,aq,cO,ag,bH,dc]
 simp only[Yk,Qa2] at ay;obtain⟨⟨⟨⟨⟨ig,hlen⟩,JO⟩,xe⟩,hb⟩,fY⟩:=ay;obtain⟨d,rfl,hd⟩:=Kerb.nq ig;simp only[Xq] at hlen hb;obtain⟨a,rfl⟩:=Yy (show 0<=a by omega);obtain⟨b,rfl⟩:=Yy (show 0<=b by omega);simp only[Kerb.yq,Kerb.fq,Wq];unfold Go.Sort.partialInsertionSort;rw[show Zw AI ((a:Int)+1)=((a+1:Nat):Int) from(Kerb.iw (by omega) (by omega)).trans (by omega)];refine bQ (λs:Array Int×Nat×Nat=>[Yv (Xv s.1),Zz AI (a:Int),Zz AI (b:Int),Zm Xz,Zz AI (s.2.1:Int),Zz AI (s.2.2:Int)]) (λs=>s.1.size=d.size/\a+1<=s.2.1/\s.2.1<=b/\s.2.2<=5/\Go.Sort.partialIns Go.Sort.ltInt a b (5-s.2.2) s.2.1 s.1=Go.Sort.partialIns Go.Sort.ltInt a b 5 (a+1) d) (λs=>5-s.2.2) (λr=>∃ i n,(r.1 = .ret\/r.1 = .exit 0/\(Go.Sort.partialIns Go.Sort.ltInt a b 5 (a+1) d).2=Xz)/\r.2=[Yv (Xv (Go.Sort.partialIns Go.Sort.ltInt a b 5 (a+1) d).1),Zz AI (a:Int),Zz AI (b:Int),Zm (Go.Sort.partialIns Go.Sort.ltInt a b 5 (a+1) d).2,Zz AI i,Zz AI n]) (d,a+1,0) ⟨rfl,by dsimp only;omega,by dsimp only;omega,by dsimp only;omega,rfl⟩ rfl ?_ ?_
 .rintro⟨e,i,s⟩ ⟨hs,hi,hib,hs5,hr⟩;dsimp only at hs hi hib hs5 hr ⊢;simp only[↓bX,↓cH,↓dx,↓dR,↓dC];by_cases h5:s<5;case neg =>
   rw[ah (by simp;omega)];rw[show 5-s=0 by omega] at hr;refine⟨_,rfl,(i:Int),(s:Int),.inr ⟨rfl,?_⟩,?_⟩
   .rw[<-hr];rfl
   .rw[<-hr];rfl
  rw[af (by simp;omega)];rw[show 5-s=(5-(s+1))+1 by omega,Go.Sort.partialIns_succ] at hr;rw[Kerb.Gr (by omega) (by omega) _ i rfl (by omega) hib];have hl:=Kerb.DH (lt:=Go.Sort.ltInt) (d:=e) (b:=b) _ i rfl hib;generalize Go.Sort.scanSorted Go.Sort.ltInt e b i=j at hl hr ⊢;simp only[↓gy];simp only[↓bX,↓cH,↓dx,↓dR,↓dC,↓km];rw[af (Yp _)];by_cases XC:j=b
  .rw[Qa1 XC] at hr;rw[af (by simp;omega)];refine⟨_,rfl,(j:Int),(s:Int),.inl rfl,?_⟩;rw[<-hr]
  rw[Qa0 XC] at hr;rw[ah (by simp;omega),show Zw AI ((b:Int)-(a:Int))=((b-a:Nat):Int) from(Kerb.iw (by omega) (by omega)).trans (by omega)];by_cases YL:b-a<50
  .rw[Qa1 YL] at hr;rw[af (by simp;omega)];refine⟨_,rfl,(j:Int),(s:Int),.inl rfl,?_⟩;rw[<-hr]
  rw[Qa0 YL] at hr;rw[ah (by simp;omega)];have g1:j<e.size:=by omega
  have g2:j-1<e.size:=by omega
  simp only[show Zw AI ((j:Int)-1)=((j-1:Nat):Int) from(Kerb.iw (by omega) (by omega)).trans (by omega),show Zw AI ((j:Int)-(a:Int))=((j-a:Nat):Int) from(Kerb.iw (by omega) (by omega)).trans (by omega)];rw[Xw g2,Xw g1,Xb g1 (by simp[Xq];omega),Xn,Xb (by rw[Ym];exact g2) (by simp[Xq];omega),Xn,show(Yq (Yq e j e[j-1]!) (j-1) e[j]!)=Go.Sort.swp e j (j-1) from rfl];have hz:(Go.Sort.swp e j (j-1)).size=d.size:=by rw[Xk,hs]
  generalize Go.Sort.swp e j (j-1)=f at hz hr ⊢;have fin:∀ g:Array Int,g.size=d.size->Go.Sort.fixUp Go.Sort.ltInt b j (Go.Sort.fixDown Go.Sort.ltInt a j f)=g->∃ y,Zh (Xx [Yv (Xv g),Zz AI (a:Int),Zz AI (b:Int),Zm Xz,Zz AI (j:Int),Zz AI (Zw AI ((s:Int)+1))])=Zh y/\A5 (Z:=Ex×List AV) (λs:Array Int×Nat×Nat=>[Yv (Xv s.1),Zz AI (a:Int),Zz AI (b:Int),Zm Xz,Zz AI (s.2.1:Int),Zz AI (s.2.2:Int)]) (λs=>s.1.size=d.size/\a+1<=s.2.1/\s.2.1<=b/\s.2.2<=5/\Go.Sort.partialIns Go.Sort.ltInt a b (5-s.2.2) s.2.1 s.1=Go.Sort.partialIns Go.Sort.ltInt a b 5 (a+1) d) (λs=>5-s.2.2) (λr=>∃ i n,(r.1 = .ret\/r.1 = .exit 0/\(Go.Sort.partialIns Go.Sort.ltInt a b 5 (a+1) d).2=Xz)/\r.2=[Yv (Xv (Go.Sort.partialIns Go.Sort.ltInt a b 5 (a+1) d).1),Zz AI (a:Int),Zz AI (b:Int),Zm (Go.Sort.partialIns Go.Sort.ltInt a b 5 (a+1) d).2,Zz AI i,Zz AI n]) (e,i,s) y:=λg hg hf=>by
   rw[show Zw AI ((s:Int)+1)=((s+1:Nat):Int) from(Kerb.iw (by omega) (by omega)).trans (by omega)];refine⟨_,rfl,(g,j,s+1),rfl,⟨hg,by dsimp only;omega,by dsimp only;omega,by dsimp only;omega,?_⟩,by dsimp only;omega⟩;dsimp only;rw[<-hr,hf]
  have hbj:∀ g:Array Int,Zw AI ((b:Int)-(j:Int))=((b-j:Nat):Int):=λ_=>(Kerb.iw (by omega) (by omega)).trans (by omega);simp only[hbj f,show Zw AI ((j:Int)+1)=((j+1:Nat):Int) from(Kerb.iw (by omega) (by omega)).trans (by omega)];have up:∀ g:Array Int,g.size=d.size->Go.Sort.fixDown Go.Sort.ltInt a j f=g->b-j>=2->Go.Sort.fixUp Go.Sort.ltInt b j (Go.Sort.fixDown Go.Sort.ltInt a j f)=Go.Sort.shiftUp Go.Sort.ltInt b (j+1) g/\(Go.Sort.shiftUp Go.Sort.ltInt b (j+1) g).size=d.size:=λg hg hf h=>⟨by rw[hf];unfold Go.Sort.fixUp;rw[Qa1 h],by rw[Kerb.yC _ _ _ rfl,hg]⟩;by_cases Sq:j-a>=2
  .rw[af (by simp;omega)];obtain⟨m,hm⟩:=Kerb.IK (A:=(a:Int)) (B:=(b:Int)) (I:=(j:Int)) (s:=(s:Int)) (bb:=Xz) (e:=4) (j-1) f (by omega) (by omega);rw[hm];have L7:(Go.Sort.shiftDown Go.Sort.ltInt (j-1) f).size=d.size:=by rw[Kerb.uY,hz]
   have LX:Go.Sort.fixDown Go.Sort.ltInt a j f=Go.Sort.shiftDown Go.Sort.ltInt (j-1) f:=by unfold Go.Sort.fixDown;rw[Qa1 Sq]
   generalize Go.Sort.shiftDown Go.Sort.ltInt (j-1) f=g at L7 LX ⊢;simp only[↓gy];simp only[↓bX,↓cH,↓dx,↓dR,↓dC,↓km];rw[af (Yp _)];simp only[hbj g,show Zw AI ((j:Int)+1)=((j+1:Nat):Int) from(Kerb.iw (by omega) (by omega)).trans (by omega)];by_cases ow:b-j>=2
   .rw[af (by simp;omega)];obtain⟨m,hm⟩:=Kerb.ED (A:=(a:Int)) (I:=(j:Int)) (s:=(s:Int)) (bb:=Xz) (b:=b) (e:=6) _ (j+1) g rfl (by omega) (by omega) (by omega) (by omega);rw[hm];simp only[↓gy];simp only[↓bX,↓cH,↓dx,↓dR,↓dC,↓km];rw[af (Yp _)];exact fin _ (up g L7 LX ow).2 (up g L7 LX ow).1
   .rw[ah (by simp;omega)];exact fin _ L7 (by rw[LX];unfold Go.Sort.fixUp;rw[Qa0 ow])
  .rw[ah (by simp;omega)];have LX:Go.Sort.fixDown Go.Sort.ltInt a j f=f:=by unfold Go.Sort.fixDown;rw[Qa0 Sq]
   by_cases ow:b-j>=2
   .rw[af (by simp;omega)];obtain⟨m,hm⟩:=Kerb.ED (A:=(a:Int)) (I:=(j:Int)) (s:=(s:Int)) (bb:=Xz) (b:=b) (e:=6) _ (j+1) f rfl (by omega) (by omega) (by omega) (by omega);rw[hm];simp only[↓gy];simp only[↓bX,↓cH,↓dx,↓dR,↓dC,↓km];rw[af (Yp _)];exact fin _ (up f hz LX ow).2 (up f hz LX ow).1
   .rw[ah (by simp;omega)];exact fin _ hz (by rw[LX];unfold Go.Sort.fixUp;rw[Qa0 ow])
 .rintro⟨x,l⟩ ⟨i,n,h | ⟨h,hf⟩,rfl⟩
  .dsimp only at h;subst h;simp only[↓bX,↓cH,↓dx,↓dR,↓dC,↓TE]
  .dsimp only at h;subst h;simp only[↓bX,↓cH,↓dx,↓dR,↓dC,↓km];rw[af (Yp _),hf]
theorem agH:Wk 270 3 EM:=by
 refine cw Tryz.func270 λ_ _ _ h=> ?_;unfold EM at h;split at h;case h_2=>cases h
 rename_i a b p els;obtain⟨ay,rfl⟩:=dg h
 refine tK [0] (aB (Zu (0<=p)&&Zu (p<(Zy els:Int))&&Zd) (aB (Zp (Zx p) (Zy els)&&Zd) (Yx AT (Zk els (Zx p) Zg) λn=>aB (Zu (0<=a)&&Zu (a<(Zy els:Int))&&Zd) (aB (Zp (Zx a) (Zy els)&&Zd) (Yx AT (Zk els (Zx a) Zg) λbf=>aB (Zu (0<=a)&&Zu (a<(Zy els:Int))&&Zd) (aB (Zp (Zx a) (Zy els)&&Zd) (Yx AT (Zk els (Zx a) Zg) λbL=>aB (Zy [Zz AT n]==nat_lit 1&&Zd&&Zd&&Zd&&Zp (Zx a) (Zy els)) (aB (Zu (0<=p)&&Zu (p<(↑(Zy (Zn els (Zx a) (Zz AT n))):Int))&&Zd) (aB (Zp (Zx p) (Zy (Zn els (Zx a) (Zz AT n)))&&Zd) (Yx AT (Zk (Zn els (Zx a) (Zz AT n)) (Zx p) Zg) λdm=>aB (Zy [Zz AT bf]==nat_lit 1&&Zd&&Zd&&Zd&&Zp (Zx p) (Zy (Zn els (Zx a) (Zz AT n)))) (Zv (bD (λst=>aA st λx r=>Xd x λy=>ag AI r λn r=>ag AI r λbU r=>ag AI r λbO r=>ak r (Zv (bD (λst=>aA st λx r=>Xd x λy=>ag AI r λn r=>ag AI r λfI r=>ag AI r λfZ r=>ak r (aE (Zu (fI<=fZ)) (aB (Zu (0<=n)&&Zu (n<(Zy y:Int))&&Zd) (aB (Zp (Zx n) (Zy y)&&Zd) (Yx AT (Zk y (Zx n) Zg) λiN=>aB (Zu (0<=fI)&&Zu (fI<(Zy y:Int))&&Zd) (aB (Zp (Zx fI) (Zy y)&&Zd) (Yx AT (Zk y (Zx fI) Zg) λkY=>aE (!Zu (iN<kY)) (Zh (Xx [Yv y,Zz AI n,Zz AI (Zw AI (fI+1)),Zz AI fZ])) (Zh (Yb (Yh 2,[Yv y,Zz AI n,Zz AI fI,Zz AI fZ])))))))) (Zh (Yb (Yh 2,[Yv y,Zz AI n,Zz AI fI,Zz AI fZ]))))) [Yv y,Zz AI n,Zz AI bU,Zz AI bO]) λ(r:Ex×List AV)=>aA (Yj r) λx dj=>Xd x λy=>ag AI dj λn dr=>ag AI dr λfI dH=>ag AI dH λfZ eK=>ak eK (jl r.1 (Zh (Yb (Ex.ret,[Yv y,Zz AI n,Zz AI fI,Zz AI fZ]))) λj=>aE (Xp j 2) (Zv (bD (λst=>aA st λx r=>Xd x λy=>ag AI r λn r=>ag AI r λiN r=>ag AI r λkY r=>ak r (aE (Zu (iN<=kY)) (aB (Zu (0<=n)&&Zu (n<(Zy y:Int))&&Zd) (aB (Zp (Zx n) (Zy y)&&Zd) (Yx AT (Zk y (Zx n) Zg) λkr=>aB (Zu (0<=kY)&&Zu (kY<(Zy y:Int))&&Zd) (aB (Zp (Zx kY) (Zy y)&&Zd) (Yx AT (Zk y (Zx kY) Zg) λgJ=>aE (Zu (kr<gJ)) (Zh (Xx [Yv y,Zz AI n,Zz AI iN,Zz AI (Zw AI (kY-1))])) (Zh (Yb (Yh 4,[Yv y,Zz AI n,Zz AI iN,Zz AI kY])))))))) (Zh (Yb (Yh 4,[Yv y,Zz AI n,Zz AI iN,Zz AI kY]))))) [Yv y,Zz AI n,Zz AI fI,Zz AI fZ]) λ(r:Ex×List AV)=>aA (Yj r) λx fL=>Xd x λy=>ag AI fL λn f_=>ag AI f_ λiN g7=>ag AI g7 λkY iA=>ak iA (jl r.1 (Zh (Yb (Ex.ret,[Yv y,Zz AI n,Zz AI iN,Zz AI kY]))) λj=>aE (Xp j 4) (aE (Zu (iN>kY)) (Zh (Yb (Yh 0,[Yv y,Zz AI n,Zz AI iN,Zz AI kY]))) (aB (Zu (0<=kY)&&Zu (kY<(Zy y:Int))&&Zd) (aB (Zp (Zx kY) (Zy y)&&Zd) (Yx AT (Zk y (Zx kY) Zg) λkr=>aB (Zu (0<=iN)&&Zu (iN<(Zy y:Int))&&Zd) (aB (Zp (Zx iN) (Zy y)&&Zd) (Yx AT (Zk y (Zx iN) Zg) λgJ=>aB (Zu (0<=iN)&&Zu (iN<(Zy y:Int))&&Zd) (aB (Zp (Zx iN) (Zy y)&&Zd) (Yx AT (Zk y (Zx iN) Zg) λjA=>aB (Zy [Zz AT kr]==nat_lit 1&&Zd&&Zd&&Zd&&Zp (Zx iN) (Zy y)) (aB (Zu (0<=kY)&&Zu (kY<(↑(Zy (Zn y (Zx iN) (Zz AT kr))):Int))&&Zd) (aB (Zp (Zx kY) (Zy (Zn y (Zx iN) (Zz AT kr)))&&Zd) (Yx AT (Zk (Zn y (Zx iN) (Zz AT kr)) (Zx kY) Zg) λgO=>aB (Zy [Zz AT gJ]==nat_lit 1&&Zd&&Zd&&Zd&&Zp (Zx kY) (Zy (Zn y (Zx iN) (Zz AT kr)))) (Zh (Xx [Yv (Zn (Zn y (Zx iN) (Zz AT kr)) (Zx kY) (Zz AT gJ)),Zz AI n,Zz AI (Zw AI (iN+1)),Zz AI (Zw AI (kY-1))]))))))))))))) Wf)) Wf))) [Yv (Zn (Zn els (Zx a) (Zz AT n)) (Zx p) (Zz AT bf)),Zz AI a,Zz AI (Zw AI (a+1)),Zz AI (Zw AI (b-1))]) λ(r:Ex×List AV)=>aA (Yj r) λx dj=>Xd x λy=>ag AI dj λn dr=>ag AI dr λn dH=>ag AI dH λbU eK=>ak eK (jl r.1 Wf λj=>aE (Xp j 0) (Zh (Zz AI n,[y])) Wf)))))))))))) ?_
 dsimp only[ag];simp only[Yk,Qa2] at ay;obtain⟨⟨⟨⟨⟨⟨ig,hlen⟩,JO⟩,xe⟩,hb⟩,U9⟩,hpb⟩:=ay;obtain⟨d,rfl,hd⟩:=Kerb.nq ig;simp only[Xq] at hlen hb;obtain⟨a,rfl⟩:=Yy (show 0<=a by omega);obtain⟨b,rfl⟩:=Yy (show 0<=b by omega);obtain⟨p,rfl⟩:=Yy (show 0<=p by omega);have h1:a<d.size:=by omega
 have h2:p<d.size:=by omega
 have hs:(Go.Sort.swp d a p).size=d.size:=Xk _ _ _;rw[Kerb.wT];unfold Go.Sort.partitionEqual;rw[Xw h2,Xw h1,Xb h1 (by simp[Xq];omega),Xn,Xb (by rw[Ym];exact h2) (by simp[Xq];omega),Xn,show(Yq (Yq d a d[p]!) p d[a]!)=Go.Sort.swp d a p from rfl];rw[show Zw AI ((a:Int)+1)=((a+1:Nat):Int) from(Kerb.iw (by omega) (by omega)).trans (by omega),show Zw AI ((b:Int)-1)=((b-1:Nat):Int) from(Kerb.iw (by omega) (by omega)).trans (by omega)];generalize Go.Sort.swp d a p=d2 at hs ⊢;refine bQ (λs:Array Int×Nat×Nat=>[Yv (Xv s.1),Zz AI (a:Int),Zz AI (s.2.1:Int),Zz AI (s.2.2:Int)]) (λs=>s.1.size=d.size/\1<=s.2.1/\s.2.1<=s.2.2+2/\s.2.2<d.size/\Go.Sort.partEqLoop Go.Sort.ltInt a s.2.1 s.2.2 s.1=Go.Sort.partEqLoop Go.Sort.ltInt a (a+1) (b-1) d2) (λs=>s.2.2+1-s.2.1) (λr=>∃ n,r=(.exit 0,[Yv (Xv (Go.Sort.partEqLoop Go.Sort.ltInt a (a+1) (b-1) d2).2),Zz AI (a:Int),Zz AI ((Go.Sort.partEqLoop Go.Sort.ltInt a (a+1) (b-1) d2).1:Int),Zz AI n])) (d2,a+1,b-1) ⟨hs,by dsimp only;omega,by dsimp only;omega,by dsimp only;omega,rfl⟩ rfl ?_ ?_
 .rintro⟨e,i,j⟩ ⟨hs,hi,Su,hj,hr⟩;dsimp only at hs hi Su hj hr ⊢;simp only[↓bX,↓cH,↓dx,↓dC];rw[Kerb.aa0 (by omega) (by omega) (by omega) (by omega)];dsimp only;have u:=Go.Sort.scanUp_spec (λx => !Go.Sort.ltInt e[a]! x) e j _ i rfl;have v:=Go.Sort.scanDown_spec (λx=>Go.Sort.ltInt e[a]! x) e (Go.Sort.scanUp (λx => !Go.Sort.ltInt e[a]! x) e j i) j;rw[Go.Sort.partEqLoop_eq] at hr;have hup:j+1<i->Go.Sort.scanUp (λx => !Go.Sort.ltInt e[a]! x) e j i=i:=λh=>by
   unfold Go.Sort.scanUp;rw[Qa0 (by simp;omega)]
  generalize Go.Sort.scanUp (λx => !Go.Sort.ltInt e[a]! x) e j i=i3 at u v hr hup ⊢;simp only[↓bX,↓cH,↓dx,↓dC,↓km];rw[af (Yp _)];have u1:=u.1;have u2:=u.2.1;rw[Kerb.S0 (by omega) (by omega) (by omega) (by omega)];dsimp only;generalize Go.Sort.scanDown (λx=>Go.Sort.ltInt e[a]! x) e i3 j=j3 at v hr ⊢;simp only[↓bX,↓cH,↓dx,↓dC,↓km];rw[af (Yp _)];have v1:=v.1;have v2:=v.2.1;by_cases hc:i3>j3
  .rw[Qa1 hc] at hr;rw[af (by simp;omega)];refine⟨_,rfl,(j3:Int),?_⟩;rw[<-hr]
  .rw[Qa0 hc] at hr;have h3:i3<e.size:=by omega
   have h4:j3<e.size:=by omega
   rw[ah (by simp;omega)];rw[Xw h4,Xw h3,Xb h3 (by simp[Xq];omega),Xn,Xb (by rw[Ym];exact h4) (by simp[Xq];omega),Xn,show(Yq (Yq e i3 e[j3]!) j3 e[i3]!)=Go.Sort.swp e i3 j3 from rfl];rw[show Zw AI ((i3:Int)+1)=((i3+1:Nat):Int) from(Kerb.iw (by omega) (by omega)).trans (by omega),show Zw AI ((j3:Int)-1)=((j3-1:Nat):Int) from(Kerb.iw (by omega) (by omega)).trans (by omega)];exact⟨_,rfl,(Go.Sort.swp e i3 j3,i3+1,j3-1),rfl,⟨by dsimp only;rw[Xk,hs],by dsimp only;omega,by dsimp only;omega,by dsimp only;omega,hr⟩,by dsimp only;omega⟩
 .rintro _ ⟨n,rfl⟩;simp only[↓bX,↓cH,↓dx,↓dC,↓km];rw[af (Yp _)]
theorem agI:Wk 271 3 EN:=by
 refine cw Tryz.func271 λ_ _ _ h=> ?_;unfold EN at h;split at h;case h_2=>cases h
 rename_i a b p els;obtain⟨ay,rfl⟩:=dg h
 refine tK [0] (aB (Zu (0<=p)&&Zu (p<(Zy els:Int))&&Zd) (aB (Zp (Zx p) (Zy els)&&Zd) (Yx AT (Zk els (Zx p) Zg) λn=>aB (Zu (0<=a)&&Zu (a<(Zy els:Int))&&Zd) (aB (Zp (Zx a) (Zy els)&&Zd) (Yx AT (Zk els (Zx a) Zg) λbf=>aB (Zu (0<=a)&&Zu (a<(Zy els:Int))&&Zd) (aB (Zp (Zx a) (Zy els)&&Zd) (Yx AT (Zk els (Zx a) Zg) λbL=>aB (Zy [Zz AT n]==nat_lit 1&&Zd&&Zd&&Zd&&Zp (Zx a) (Zy els)) (aB (Zu (0<=p)&&Zu (p<(↑(Zy (Zn els (Zx a) (Zz AT n))):Int))&&Zd) (aB (Zp (Zx p) (Zy (Zn els (Zx a) (Zz AT n)))&&Zd) (Yx AT (Zk (Zn els (Zx a) (Zz AT n)) (Zx p) Zg) λdm=>aB (Zy [Zz AT bf]==nat_lit 1&&Zd&&Zd&&Zd&&Zp (Zx p) (Zy (Zn els (Zx a) (Zz AT n)))) (Zv (bD (λst=>aA st λx r=>Xd x λy=>ag AI r λn r=>ag AI r λbU r=>ag AI r λbO r=>ak r (aE (Zu (bU<=bO)) (aB (Zu (0<=bU)&&Zu (bU<(Zy y:Int))&&Zd) (aB (Zp (Zx bU) (Zy y)&&Zd) (Yx AT (Zk y (Zx bU) Zg) λfI=>aB (Zu (0<=n)&&Zu (n<(Zy y:Int))&&Zd) (aB (Zp (Zx n) (Zy y)&&Zd) (Yx AT (Zk y (Zx n) Zg) λfZ=>aE (Zu (fI<fZ)) (Zh (Xx [Yv y,Zz AI n,Zz AI (Zw AI (bU+1)),Zz AI bO])) (Zh (Yb (Yh 0,[Yv y,Zz AI n,Zz AI bU,Zz AI bO])))))))) (Zh (Yb (Yh 0,[Yv y,Zz AI n,Zz AI bU,Zz AI bO]))))) [Yv (Zn (Zn els (Zx a) (Zz AT n)) (Zx p) (Zz AT bf)),Zz AI a,Zz AI (Zw AI (a+1)),Zz AI (Zw AI (b-1))]) λ(r:Ex×List AV)=>aA (Yj r) λx dj=>Xd x λy=>ag AI dj λn dr=>ag AI dr λbU dH=>ag AI dH λbO eK=>ak eK (jl r.1 Wf λj=>aE (Xp j 0) (Zv (bD (λst=>aA st λx r=>Xd x λy=>ag AI r λn r=>ag AI r λfI r=>ag AI r λfZ r=>ak r (aE (Zu (fI<=fZ)) (aB (Zu (0<=fZ)&&Zu (fZ<(Zy y:Int))&&Zd) (aB (Zp (Zx fZ) (Zy y)&&Zd) (Yx AT (Zk y (Zx fZ) Zg) λiN=>aB (Zu (0<=n)&&Zu (n<(Zy y:Int))&&Zd) (aB (Zp (Zx n) (Zy y)&&Zd) (Yx AT (Zk y (Zx n) Zg) λkY=>aE (!Zu (iN<kY)) (Zh (Xx [Yv y,Zz AI n,Zz AI fI,Zz AI (Zw AI (fZ-1))])) (Zh (Yb (Yh 2,[Yv y,Zz AI n,Zz AI fI,Zz AI fZ])))))))) (Zh (Yb (Yh 2,[Yv y,Zz AI n,Zz AI fI,Zz AI fZ]))))) [Yv y,Zz AI n,Zz AI bU,Zz AI bO]) λ(r:Ex×List AV)=>aA (Yj r) λx fL=>Xd x λy=>ag AI fL λn f_=>ag AI f_ λfI g7=>ag AI g7 λfZ iA=>ak iA (jl r.1 Wf λj=>aE (Xp j 2) (aE (Zu (fI>fZ)) (aB (Zu (0<=n)&&Zu (n<(Zy y:Int))&&Zd) (aB (Zp (Zx n) (Zy y)&&Zd) (Yx AT (Zk y (Zx n) Zg) λiN=>aB (Zu (0<=fZ)&&Zu (fZ<(Zy y:Int))&&Zd) (aB (Zp (Zx fZ) (Zy y)&&Zd) (Yx AT (Zk y (Zx fZ) Zg) λkY=>aB (Zu (0<=fZ)&&Zu (fZ<(Zy y:Int))&&Zd) (aB (Zp (Zx fZ) (Zy y)&&Zd) (Yx AT (Zk y (Zx fZ) Zg) λkr=>aB (Zy [Zz AT iN]==nat_lit 1&&Zd&&Zd&&Zd&&Zp (Zx fZ) (Zy y)) (aB (Zu (0<=n)&&Zu (n<(↑(Zy (Zn y (Zx fZ) (Zz AT iN))):Int))&&Zd) (aB (Zp (Zx n) (Zy (Zn y (Zx fZ) (Zz AT iN)))&&Zd) (Yx AT (Zk (Zn y (Zx fZ) (Zz AT iN)) (Zx n) Zg) λgJ=>aB (Zy [Zz AT kY]==nat_lit 1&&Zd&&Zd&&Zd&&Zp (Zx n) (Zy (Zn y (Zx fZ) (Zz AT iN)))) (Zh (Yu [Zz AI fZ,Zm Zd],[Zn (Zn y (Zx fZ) (Zz AT iN)) (Zx n) (Zz AT kY)])))))))))))) (aB (Zu (0<=fZ)&&Zu (fZ<(Zy y:Int))&&Zd) (aB (Zp (Zx fZ) (Zy y)&&Zd) (Yx AT (Zk y (Zx fZ) Zg) λiN=>aB (Zu (0<=fI)&&Zu (fI<(Zy y:Int))&&Zd) (aB (Zp (Zx fI) (Zy y)&&Zd) (Yx AT (Zk y (Zx fI) Zg) λkY=>aB (Zu (0<=fI)&&Zu (fI<(Zy y:Int))&&Zd) (aB (Zp (Zx fI) (Zy y)&&Zd) (Yx AT (Zk y (Zx fI) Zg) λkr=>aB (Zy [Zz AT iN]==nat_lit 1&&Zd&&Zd&&Zd&&Zp (Zx fI) (Zy y)) (aB (Zu (0<=fZ)&&Zu (fZ<(↑(Zy (Zn y (Zx fI) (Zz AT iN))):Int))&&Zd) (aB (Zp (Zx fZ) (Zy (Zn y (Zx fI) (Zz AT iN)))&&Zd) (Yx AT (Zk (Zn y (Zx fI) (Zz AT iN)) (Zx fZ) Zg) λgJ=>aB (Zy [Zz AT kY]==nat_lit 1&&Zd&&Zd&&Zd&&Zp (Zx fZ) (Zy (Zn y (Zx fI) (Zz AT iN)))) (Zv (bD (λst=>aA st λx r=>Xd x λy=>ag AI r λn r=>ag AI r λjA r=>ag AI r λgO r=>ak r (Zv (bD (λst=>aA st λx r=>Xd x λy=>ag AI r λn r=>ag AI r λbI r=>ag AI r λjg r=>ak r (aE (Zu (bI<=jg)) (aB (Zu (0<=bI)&&Zu (bI<(Zy y:Int))&&Zd) (aB (Zp (Zx bI) (Zy y)&&Zd) (Yx AT (Zk y (Zx bI) Zg) λgj=>aB (Zu (0<=n)&&Zu (n<(Zy y:Int))&&Zd) (aB (Zp (Zx n) (Zy y)&&Zd) (Yx AT (Zk y (Zx n) Zg) λdW=>aE (Zu (gj<dW)) (Zh (Xx [Yv y,Zz AI n,Zz AI (Zw AI (bI+1)),Zz AI jg])) (Zh (Yb (Yh 6,[Yv y,Zz AI n,Zz AI bI,Zz AI jg])))))))) (Zh (Yb (Yh 6,[Yv y,Zz AI n,Zz AI bI,Zz AI jg]))))) [Yv y,Zz AI n,Zz AI jA,Zz AI gO]) λ(r:Ex×List AV)=>aA (Yj r) λx io=>Xd x λy=>ag AI io λn dA=>ag AI dA λbI eC=>ag AI eC λjg eD=>ak eD (jl r.1 (Zh (Yb (Ex.ret,[Yv y,Zz AI n,Zz AI bI,Zz AI jg]))) λj=>aE (Xp j 6) (Zv (bD (λst=>aA st λx r=>Xd x λy=>ag AI r λn r=>ag AI r λgj r=>ag AI r λdW r=>ak r (aE (Zu (gj<=dW)) (aB (Zu (0<=dW)&&Zu (dW<(Zy y:Int))&&Zd) (aB (Zp (Zx dW) (Zy y)&&Zd) (Yx AT (Zk y (Zx dW) Zg) λbT=>aB (Zu (0<=n)&&Zu (n<(Zy y:Int))&&Zd) (aB (Zp (Zx n) (Zy y)&&Zd) (Yx AT (Zk y (Zx n) Zg) λra=>aE (!Zu (bT<ra)) (Zh (Xx [Yv y,Zz AI n,Zz AI gj,Zz AI (Zw AI (dW-1))])) (Zh (Yb (Yh 8,[Yv y,Zz AI n,Zz AI gj,Zz AI dW])))))))) (Zh (Yb (Yh 8,[Yv y,Zz AI n,Zz AI gj,Zz AI dW]))))) [Yv y,Zz AI n,Zz AI bI,Zz AI jg]) λ(r:Ex×List AV)=>aA (Yj r) λx fl=>Xd x λy=>ag AI fl λn fz=>ag AI fz λgj fA=>ag AI fA λdW fS=>ak fS (jl r.1 (Zh (Yb (Ex.ret,[Yv y,Zz AI n,Zz AI gj,Zz AI dW]))) λj=>aE (Xp j 8) (aE (Zu (gj>dW)) (Zh (Yb (Yh 4,[Yv y,Zz AI n,Zz AI gj,Zz AI dW]))) (aB (Zu (0<=dW)&&Zu (dW<(Zy y:Int))&&Zd) (aB (Zp (Zx dW) (Zy y)&&Zd) (Yx AT (Zk y (Zx dW) Zg) λbT=>aB (Zu (0<=gj)&&Zu (gj<(Zy y:Int))&&Zd) (aB (Zp (Zx gj) (Zy y)&&Zd) (Yx AT (Zk y (Zx gj) Zg) λra=>aB (Zu (0<=gj)&&Zu (gj<(Zy y:Int))&&Zd) (aB (Zp (Zx gj) (Zy y)&&Zd) (Yx AT (Zk y (Zx gj) Zg) λre=>aB (Zy [Zz AT bT]==nat_lit 1&&Zd&&Zd&&Zd&&Zp (Zx gj) (Zy y)) (aB (Zu (0<=dW)&&Zu (dW<(↑(Zy (Zn y (Zx gj) (Zz AT bT))):Int))&&Zd) (aB (Zp (Zx dW) (Zy (Zn y (Zx gj) (Zz AT bT)))&&Zd) (Yx AT (Zk (Zn y (Zx gj) (Zz AT bT)) (Zx dW) Zg) λjJ=>aB (Zy [Zz AT ra]==nat_lit 1&&Zd&&Zd&&Zd&&Zp (Zx dW) (Zy (Zn y (Zx gj) (Zz AT bT)))) (Zh (Xx [Yv (Zn (Zn y (Zx gj) (Zz AT bT)) (Zx dW) (Zz AT ra)),Zz AI n,Zz AI (Zw AI (gj+1)),Zz AI (Zw AI (dW-1))]))))))))))))) Wf)) Wf))) [Yv (Zn (Zn y (Zx fI) (Zz AT iN)) (Zx fZ) (Zz AT kY)),Zz AI n,Zz AI (Zw AI (fI+1)),Zz AI (Zw AI (fZ-1))]) λ(r:Ex×List AV)=>aA (Yj r) λx io=>Xd x λy=>ag AI io λn dA=>ag AI dA λjA eC=>ag AI eC λgO eD=>ak eD (jl r.1 Wf λj=>aE (Xp j 4) (aB (Zu (0<=n)&&Zu (n<(Zy y:Int))&&Zd) (aB (Zp (Zx n) (Zy y)&&Zd) (Yx AT (Zk y (Zx n) Zg) λbI=>aB (Zu (0<=gO)&&Zu (gO<(Zy y:Int))&&Zd) (aB (Zp (Zx gO) (Zy y)&&Zd) (Yx AT (Zk y (Zx gO) Zg) λjg=>aB (Zu (0<=gO)&&Zu (gO<(Zy y:Int))&&Zd) (aB (Zp (Zx gO) (Zy y)&&Zd) (Yx AT (Zk y (Zx gO) Zg) λgj=>aB (Zy [Zz AT bI]==nat_lit 1&&Zd&&Zd&&Zd&&Zp (Zx gO) (Zy y)) (aB (Zu (0<=n)&&Zu (n<(↑(Zy (Zn y (Zx gO) (Zz AT bI))):Int))&&Zd) (aB (Zp (Zx n) (Zy (Zn y (Zx gO) (Zz AT bI)))&&Zd) (Yx AT (Zk (Zn y (Zx gO) (Zz AT bI)) (Zx n) Zg) λdW=>aB (Zy [Zz AT jg]==nat_lit 1&&Zd&&Zd&&Zd&&Zp (Zx n) (Zy (Zn y (Zx gO) (Zz AT bI)))) (Zh (Yu [Zz AI gO,Zm Xz],[Zn (Zn y (Zx gO) (Zz AT bI)) (Zx n) (Zz AT jg)])))))))))))) Wf))))))))))))) Wf)) Wf)))))))))))) ?_
 dsimp only[ag];simp only[Yk,Qa2] at ay;obtain⟨⟨⟨⟨⟨⟨ig,hlen⟩,JO⟩,xe⟩,hb⟩,U9⟩,hpb⟩:=ay;obtain⟨d,rfl,hd⟩:=Kerb.nq ig;simp only[Xq] at hlen hb;obtain⟨a,rfl⟩:=Yy (show 0<=a by omega);obtain⟨b,rfl⟩:=Yy (show 0<=b by omega);obtain⟨p,rfl⟩:=Yy (show 0<=p by omega);have h1:a<d.size:=by omega
 have h2:p<d.size:=by omega
 have hs:(Go.Sort.swp d a p).size=d.size:=Xk _ _ _;rw[Kerb.Cc];unfold Go.Sort.partition;rw[Xw h2,Xw h1,Xb h1 (by simp[Xq];omega),Xn,Xb (by rw[Ym];exact h2) (by simp[Xq];omega),Xn,show(Yq (Yq d a d[p]!) p d[a]!)=Go.Sort.swp d a p from rfl];rw[show Zw AI ((a:Int)+1)=((a+1:Nat):Int) from(Kerb.iw (by omega) (by omega)).trans (by omega),show Zw AI ((b:Int)-1)=((b-1:Nat):Int) from(Kerb.iw (by omega) (by omega)).trans (by omega)];generalize Go.Sort.swp d a p=d1 at hs ⊢;rw[Kerb.Mw (by omega) (by omega) (by omega) (by omega)];dsimp only;have u:=Go.Sort.scanUp_spec (λx=>Go.Sort.ltInt x d1[a]!) d1 (b-1) _ (a+1) rfl;generalize Go.Sort.scanUp (λx=>Go.Sort.ltInt x d1[a]!) d1 (b-1) (a+1)=i2 at u ⊢;simp only[↓bX,↓cH,↓dx,↓dC,↓km];rw[af (Yp _)];rw[Kerb.DU (by omega) (by omega) (by omega) (by omega)];dsimp only;have v:=Go.Sort.scanDown_spec (λx => !Go.Sort.ltInt x d1[a]!) d1 i2 (b-1);generalize Go.Sort.scanDown (λx => !Go.Sort.ltInt x d1[a]!) d1 i2 (b-1)=j2 at v ⊢;simp only[↓bX,↓cH,↓dx,↓dC,↓km];rw[af (Yp _)];have w2:=u.2.1 (by omega);have v1:=v.1;have v2:=v.2.1 (by omega);have u1:=u.1;by_cases hc:i2>j2
 .have h3:j2<d1.size:=by omega
  have h4:a<d1.size:=by omega
  rw[af (by simp;omega)];rw[Xw h4,Xw h3,Xb h3 (by simp[Xq];omega),Xn,Xb (by rw[Ym];exact h4) (by simp[Xq];omega),Xn,show(Yq (Yq d1 j2 d1[a]!) a d1[j2]!)=Go.Sort.swp d1 j2 a from rfl];rw[Qa1 hc]
 have h3:i2<d1.size:=by omega
 have h4:j2<d1.size:=by omega
 rw[ah (by simp;omega),Qa0 hc];rw[Xw h4,Xw h3,Xb h3 (by simp[Xq];omega),Xn,Xb (by rw[Ym];exact h4) (by simp[Xq];omega),Xn,show(Yq (Yq d1 i2 d1[j2]!) j2 d1[i2]!)=Go.Sort.swp d1 i2 j2 from rfl];rw[show Zw AI ((i2:Int)+1)=((i2+1:Nat):Int) from(Kerb.iw (by omega) (by omega)).trans (by omega),show Zw AI ((j2:Int)-1)=((j2-1:Nat):Int) from(Kerb.iw (by omega) (by omega)).trans (by omega)];have gZ:(Go.Sort.swp d1 i2 j2).size=d.size:=by rw[Xk,hs]
 generalize Go.Sort.swp d1 i2 j2=d2 at gZ ⊢;refine bQ (λs:Array Int×Nat×Nat=>[Yv (Xv s.1),Zz AI (a:Int),Zz AI (s.2.1:Int),Zz AI (s.2.2:Int)]) (λs=>s.1.size=d.size/\1<=s.2.1/\s.2.1<=s.2.2+2/\s.2.2<d.size/\Go.Sort.partLoop Go.Sort.ltInt a s.2.1 s.2.2 s.1=Go.Sort.partLoop Go.Sort.ltInt a (i2+1) (j2-1) d2) (λs=>s.2.2+1-s.2.1) (λr=>∃ n,r=(.exit 4,[Yv (Xv (Go.Sort.partLoop Go.Sort.ltInt a (i2+1) (j2-1) d2).2),Zz AI (a:Int),Zz AI n,Zz AI ((Go.Sort.partLoop Go.Sort.ltInt a (i2+1) (j2-1) d2).1:Int)])/\(Go.Sort.partLoop Go.Sort.ltInt a (i2+1) (j2-1) d2).1<d.size/\(Go.Sort.partLoop Go.Sort.ltInt a (i2+1) (j2-1) d2).2.size=d.size) (d2,i2+1,j2-1) ⟨gZ,by dsimp only;omega,by dsimp only;omega,by dsimp only;omega,rfl⟩ rfl ?_ ?_
 .rintro⟨e,i,j⟩ ⟨hs,hi,Su,hj,hr⟩;dsimp only at hs hi Su hj hr ⊢;simp only[↓bX,↓cH,↓dx,↓dC];rw[Kerb.Mw (by omega) (by omega) (by omega) (by omega)];dsimp only;have u:=Go.Sort.scanUp_spec (λx=>Go.Sort.ltInt x e[a]!) e j _ i rfl;have v:=Go.Sort.scanDown_spec (λx => !Go.Sort.ltInt x e[a]!) e (Go.Sort.scanUp (λx=>Go.Sort.ltInt x e[a]!) e j i) j;rw[Go.Sort.partLoop_eq] at hr;have hup:j+1<i->Go.Sort.scanUp (λx=>Go.Sort.ltInt x e[a]!) e j i=i:=λh=>by
   unfold Go.Sort.scanUp;rw[Qa0 (by simp;omega)]
  generalize Go.Sort.scanUp (λx=>Go.Sort.ltInt x e[a]!) e j i=i3 at u v hr hup ⊢;simp only[↓bX,↓cH,↓dx,↓dC,↓km];rw[af (Yp _)];have u1:=u.1;have u2:=u.2.1;rw[Kerb.DU (by omega) (by omega) (by omega) (by omega)];dsimp only;generalize Go.Sort.scanDown (λx => !Go.Sort.ltInt x e[a]!) e i3 j=j3 at v hr ⊢;simp only[↓bX,↓cH,↓dx,↓dC,↓km];rw[af (Yp _)];have v1:=v.1;have v2:=v.2.1;by_cases hc:i3>j3
  .rw[Qa1 hc] at hr;rw[af (by simp;omega)];refine⟨_,rfl,(i3:Int),?_,?_,?_⟩
   .rw[<-hr]
   .rw[<-hr];dsimp only;omega
   .rw[<-hr];exact hs
  .rw[Qa0 hc] at hr;have h3:i3<e.size:=by omega
   have h4:j3<e.size:=by omega
   rw[ah (by simp;omega)];rw[Xw h4,Xw h3,Xb h3 (by simp[Xq];omega),Xn,Xb (by rw[Ym];exact h4) (by simp[Xq];omega),Xn,show(Yq (Yq e i3 e[j3]!) j3 e[i3]!)=Go.Sort.swp e i3 j3 from rfl];rw[show Zw AI ((i3:Int)+1)=((i3+1:Nat):Int) from(Kerb.iw (by omega) (by omega)).trans (by omega),show Zw AI ((j3:Int)-1)=((j3-1:Nat):Int) from(Kerb.iw (by omega) (by omega)).trans (by omega)];exact⟨_,rfl,(Go.Sort.swp e i3 j3,i3+1,j3-1),rfl,⟨by dsimp only;rw[Xk,hs],by dsimp only;omega,by dsimp only;omega,by dsimp only;omega,hr⟩,by dsimp only;omega⟩
 .rintro _ ⟨n,rfl,hn,hz⟩;generalize Go.Sort.partLoop Go.Sort.ltInt a (i2+1) (j2-1) d2=q at hn hz ⊢;obtain⟨j4,e⟩:=q;dsimp only at hn hz ⊢;have h3:j4<e.size:=by omega
  have h4:a<e.size:=by omega
  simp only[↓bX,↓cH,↓dx,↓dC,↓km];rw[af (Yp _)];rw[Xw h4,Xw h3,Xb h3 (by simp[Xq];omega),Xn,Xb (by rw[Ym];exact h4) (by simp[Xq];omega),Xn,show(Yq (Yq e j4 e[a]!) a e[j4]!)=Go.Sort.swp e j4 a from rfl]
theorem agK:Wk 274 3 RD:=by
 refine cw Tryz.func274 λ_ _ _ h=> ?_;unfold RD at h;split at h;case h_2=>cases h
 rename_i s c;cases h;refine c6 (Zh (Zz AI (Yg c s),[])) ?_;rfl
theorem agL:Wk 275 3 EO:=by
 refine cw Tryz.func275 λ_ _ _ h=> ?_;unfold EO at h;split at h;case h_2=>cases h
 rename_i lo hi first els
 obtain⟨ay,rfl⟩:=dg h;refine tK [0] (Zv (bD (λst=>aA st λx r=>Xd x λy=>ag AI r λn r=>ag AI r λbf r=>ag AI r λbL r=>let t1:Bool:=Zu (0<=Zw AI (bf+bL))&&Zu (Zw AI (bf+bL)<(Zy y:Int))&&Zd;let t5:AV:=Zk y (Zx (Zw AI (bf+bL))) Zg;let t7:Int:=Zw AI (Zw AI (2*bL)+1);let t10:Bool:=Zp (Zx (Zw AI (bf+bL))) (Zy y);let t11:List AV:=[Yv y,Zz AI n,Zz AI bf,Zz AI bL];let t3:Int:=Zw AI (bf+t7);let t4:Bool:=t10&&Zd;let t6:Int:=Zw AI (t7+1);let t9:Option (List AV ⊕ Ex×List AV):=Zh (Yb (Ex.ret,t11));let t2:Int:=Zw AI (bf+t6);let t8:Bool:=Zu (0<=t3)&&Zu (t3<(Zy y:Int))&&Zd;let t0:Option (List AV ⊕ Ex×List AV):=aB t1 (aB t4 (Yx AT t5 λdm=>aB t8 (aB (Zp (Zx t3) (Zy y)&&Zd) (Yx AT (Zk y (Zx t3) Zg) λbU=>aE (!Zu (dm<bU)) t9 (aB t8 (aB (Zp (Zx t3) (Zy y)&&Zd) (Yx AT (Zk y (Zx t3) Zg) λbO=>aB t1 (aB t4 (Yx AT t5 λfI=>aB t1 (aB t4 (Yx AT t5 λfZ=>aB (Zy [Zz AT bO]==nat_lit 1&&Zd&&Zd&&Zd&&t10) (aB (Zu (0<=t3)&&Zu (t3<(↑(Zy (Zn y (Zx (Zw AI (bf+bL))) (Zz AT bO))):Int))&&Zd) (aB (Zp (Zx t3) (Zy (Zn y (Zx (Zw AI (bf+bL))) (Zz AT bO)))&&Zd) (Yx AT (Zk (Zn y (Zx (Zw AI (bf+bL))) (Zz AT bO)) (Zx t3) Zg) λiN=>aB (Zy [Zz AT fI]==nat_lit 1&&Zd&&Zd&&Zd&&Zp (Zx t3) (Zy (Zn y (Zx (Zw AI (bf+bL))) (Zz AT bO)))) (Zh (Xx [Yv (Zn (Zn y (Zx (Zw AI (bf+bL))) (Zz AT bO)) (Zx t3) (Zz AT fI)),Zz AI n,Zz AI bf,Zz AI t7]))))))))))))))));ak r (aE (Zu (t7>=n)) (Zh (Yb (Yh 0,t11))) (aE (Zu (t6<n)) (aB t8 (aB (Zp (Zx t3) (Zy y)&&Zd) (Yx AT (Zk y (Zx t3) Zg) λdm=>aB (Zu (0<=Zw AI (t3+1))&&Zu (Zw AI (t3+1)<(Zy y:Int))&&Zd) (aB (Zp (Zx (Zw AI (t3+1))) (Zy y)&&Zd) (Yx AT (Zk y (Zx (Zw AI (t3+1))) Zg) λbU=>aE (Zu (dm<bU)) (aB t1 (aB t4 (Yx AT t5 λbO=>aB (Zu (0<=t2)&&Zu (t2<(Zy y:Int))&&Zd) (aB (Zp (Zx t2) (Zy y)&&Zd) (Yx AT (Zk y (Zx t2) Zg) λfI=>aE (!Zu (bO<fI)) t9 (aB (Zu (0<=t2)&&Zu (t2<(Zy y:Int))&&Zd) (aB (Zp (Zx t2) (Zy y)&&Zd) (Yx AT (Zk y (Zx t2) Zg) λfZ=>let t12:List AV:=Zn y (Zx (Zw AI (bf+bL))) (Zz AT fZ);aB t1 (aB t4 (Yx AT t5 λiN=>aB t1 (aB t4 (Yx AT t5 λkY=>aB (Zy [Zz AT fZ]==nat_lit 1&&Zd&&Zd&&Zd&&t10) (aB (Zu (0<=t2)&&Zu (t2<(Zy t12:Int))&&Zd) (aB (Zp (Zx t2) (Zy t12)&&Zd) (Yx AT (Zk t12 (Zx t2) Zg) λkr=>aB (Zy [Zz AT iN]==nat_lit 1&&Zd&&Zd&&Zd&&Zp (Zx t2) (Zy t12)) (Zh (Xx [Yv (Zn t12 (Zx t2) (Zz AT iN)),Zz AI n,Zz AI bf,Zz AI t6]))))))))))))))))) t0))))) t0))) [Yv els,Zz AI hi,Zz AI first,Zz AI lo]) λ(r:Ex×List AV)=>aA (Yj r) λx dj=>Xd x λy=>ag AI dj λn dr=>ag AI dr λn dH=>ag AI dH λn eK=>ak eK (jl r.1 (Zh (Yu [],[y])) λj=>aE (Xp j 0) (Zh (Yu [],[y])) Wf)) ?_;try dsimp only[aI,aW,aq,cO,ag,bH,dc]
 simp only[Yk,Qa2] at ay;obtain⟨⟨⟨⟨⟨⟨ig,hlen⟩,adh⟩,ac4⟩,Y2⟩,hfh⟩,adi⟩:=ay;obtain⟨d,rfl,hd⟩:=Kerb.nq ig;simp only[Xq] at hlen hfh adi;unfold Kerb.sift;rw[hd];obtain⟨lo,rfl⟩:=Yy adh;obtain⟨hi,rfl⟩:=Yy ac4;obtain⟨first,rfl⟩:=Yy Y2;simp only[Wq];refine bQ (λs:Array Int×Nat=>[Yv (Xv s.1),Zz AI (hi:Int),Zz AI (first:Int),Zz AI (s.2:Int)]) (λs=>s.1.size=d.size/\s.2<=d.size/\Go.Sort.siftDown Go.Sort.ltInt hi first s.2 s.1=Go.Sort.siftDown Go.Sort.ltInt hi first lo d) (λs=>hi-s.2) (λr=>∃ n m k,(r.1 = .exit 0\/r.1 = .ret)/\r.2=[Yv (Xv (Go.Sort.siftDown Go.Sort.ltInt hi first lo d)),Zz AI n,Zz AI m,Zz AI k]) (d,lo) ⟨rfl,by dsimp only;omega,rfl⟩ rfl ?_ ?_
 .rintro⟨e,root⟩ ⟨hs,hb,hr⟩;dsimp only at hs hb hr ⊢;simp only[↓bX,↓cH,↓dx,↓dC];simp only[show Zw AI ((2:Int)*(root:Int))=((2*root:Nat):Int) from(Kerb.iw (by omega) (by omega)).trans (by omega)];simp only[show Zw AI (((2*root:Nat):Int)+1)=((2*root+1:Nat):Int) from(Kerb.iw (by omega) (by omega)).trans (by omega)];simp only[show Zw AI (((2*root+1:Nat):Int)+1)=((2*root+1+1:Nat):Int) from(Kerb.iw (by omega) (by omega)).trans (by omega)];simp only[show Zw AI ((first:Int)+(root:Int))=((first+root:Nat):Int) from(Kerb.iw (by omega) (by omega)).trans (by omega)];simp only[show Zw AI ((first:Int)+((2*root+1:Nat):Int))=((first+(2*root+1):Nat):Int) from(Kerb.iw (by omega) (by omega)).trans (by omega)];simp only[show Zw AI ((first:Int)+((2*root+1+1:Nat):Int))=((first+(2*root+1+1):Nat):Int) from(Kerb.iw (by omega) (by omega)).trans (by omega)];simp only[show Zw AI (((first+(2*root+1):Nat):Int)+1)=((first+(2*root+1)+1:Nat):Int) from(Kerb.iw (by omega) (by omega)).trans (by omega)];by_cases hc:hi<=2*root+1
  .rw[af (by simp;omega)];refine⟨_,rfl,(hi:Int),(first:Int),(root:Int),.inl rfl,?_⟩;rw[<-hr];unfold Go.Sort.siftDown;rw[dif_pos hc]
  rw[ah (by simp;omega)];by_cases h2:2*root+1+1<hi
  .have h3:first+(2*root+1)<e.size:=by omega
   have h4:first+(2*root+1)+1<e.size:=by omega
   rw[af (by simp;omega),Xw h3,Xw h4];by_cases h5:e[first+(2*root+1)]! < e[first+(2*root+1)+1]!
   .rw[af (by simpa using h5)];have hq:first+(2*root+1+1)<e.size:=by omega
    have hp:first+root<e.size:=by omega
    rw[Xw hp,Xw hq];by_cases hl:e[first+root]! < e[first+(2*root+1+1)]!;case neg =>
     rw[af (by simpa using hl)];refine⟨_,rfl,(hi:Int),(first:Int),(root:Int),.inr rfl,?_⟩;rw[<-hr];unfold Go.Sort.siftDown;rw[dif_neg (by omega),Qa1 (by simp[Go.Sort.ltInt,h5];omega),Qa1 (by simp[Go.Sort.ltInt,hl])]
    rw[ah (by simpa using hl),Kerb.sw hp hq (λl=>Zh (Xx [Yv l,Zz AI (hi:Int),Zz AI (first:Int),Zz AI (((2*root+1+1):Nat):Int)]))];refine⟨_,rfl,(Go.Sort.swp e (first+root) (first+(2*root+1+1)),(2*root+1+1)),rfl,⟨by dsimp only;rw[Xk,hs],by dsimp only;omega,?_⟩,by dsimp only;omega⟩;dsimp only;rw[<-hr];conv=>rhs;unfold Go.Sort.siftDown
    rw[dif_neg (by omega),Qa1 (by simp[Go.Sort.ltInt,h5];omega),Qa0 (by simp[Go.Sort.ltInt,hl]),dif_pos (by omega)]
   .rw[ah (by simpa using h5)];have hq:first+(2*root+1)<e.size:=by omega
    have hp:first+root<e.size:=by omega
    rw[Xw hp,Xw hq];by_cases hl:e[first+root]! < e[first+(2*root+1)]!;case neg =>
     rw[af (by simpa using hl)];refine⟨_,rfl,(hi:Int),(first:Int),(root:Int),.inr rfl,?_⟩;rw[<-hr];unfold Go.Sort.siftDown;rw[dif_neg (by omega),Qa0 (by simp[Go.Sort.ltInt,h5]),Qa1 (by simp[Go.Sort.ltInt,hl])]
    rw[ah (by simpa using hl),Kerb.sw hp hq (λl=>Zh (Xx [Yv l,Zz AI (hi:Int),Zz AI (first:Int),Zz AI (((2*root+1):Nat):Int)]))];refine⟨_,rfl,(Go.Sort.swp e (first+root) (first+(2*root+1)),(2*root+1)),rfl,⟨by dsimp only;rw[Xk,hs],by dsimp only;omega,?_⟩,by dsimp only;omega⟩;dsimp only;rw[<-hr];conv=>rhs;unfold Go.Sort.siftDown
    rw[dif_neg (by omega),Qa0 (by simp[Go.Sort.ltInt,h5]),Qa0 (by simp[Go.Sort.ltInt,hl])]
  .rw[ah (by simp;omega)];have hq:first+(2*root+1)<e.size:=by omega
   have hp:first+root<e.size:=by omega
   rw[Xw hp,Xw hq];by_cases hl:e[first+root]! < e[first+(2*root+1)]!;case neg =>
    rw[af (by simpa using hl)];refine⟨_,rfl,(hi:Int),(first:Int),(root:Int),.inr rfl,?_⟩;rw[<-hr];unfold Go.Sort.siftDown;rw[dif_neg (by omega),Qa0 (by simp;omega),Qa1 (by simp[Go.Sort.ltInt,hl])]
   rw[ah (by simpa using hl),Kerb.sw hp hq (λl=>Zh (Xx [Yv l,Zz AI (hi:Int),Zz AI (first:Int),Zz AI (((2*root+1):Nat):Int)]))];refine⟨_,rfl,(Go.Sort.swp e (first+root) (first+(2*root+1)),(2*root+1)),rfl,⟨by dsimp only;rw[Xk,hs],by dsimp only;omega,?_⟩,by dsimp only;omega⟩;dsimp only;rw[<-hr];conv=>rhs;unfold Go.Sort.siftDown
   rw[dif_neg (by omega),Qa0 (by simp;omega),Qa0 (by simp[Go.Sort.ltInt,hl])]
 .rintro⟨e,l⟩ ⟨n,m,k,h1 | h1,rfl⟩
  .dsimp only at h1;subst h1;simp only[↓bX,↓cH,↓dx,↓dC,↓km];rw[af (Yp _)]
  .dsimp only at h1;subst h1;simp only[↓bX,↓cH,↓dx,↓dC,↓TE]
theorem agM:Wk 276 3 JD:=by
 refine cw Tryz.func276 λ_ _ _ h=> ?_;unfold JD at h;split at h;case h_2=>cases h
 rename_i n;obtain⟨ay,rfl⟩:=dg h;refine c6 (Zv (CO [Zz AT (Zw AT n)] []) (kI AI λn=>aB (Zu (0<=n)) (Zh (Zz AT (Zw AT (1*2 ^ min (Zx n) (Wp AT))),[])))) ?_;delta kI;dsimp only[CO,aI,aW,aq,cO,ag,bH,dc];simp only[Yk,Qa2] at ay;obtain⟨h0,h1⟩:=ay;obtain⟨n,rfl⟩:=Yy h0;rw[Kerb.Ow (n:=(n:Int)) (by omega) (by omega),ae (by rw[Kerb.F6];simp;omega)];simp only[↓gy,↓fm,↓bX,↓hF,↓lF,↓dx,↓dC,↓dR];rw[Kerb.BR,ae (by simp)];exact Qb5 (λz=>Zh (Zz AT z,[])) (Kerb.NA (by omega))
theorem agS:Wk 282 3 CS:=by
 refine cw Tryz.func282 λ_ _ _ h=> ?_;unfold CS at h;split at h;case h_2=>cases h
 rename_i a b els s;obtain⟨ay,rfl⟩:=dg h;refine tK [0,3] (aB (Zu (0<=b)&&Zu (b<(Zy els:Int))&&Zd) (aB (Zp (Zx b) (Zy els)&&Zd) (Yx AT (Zk els (Zx b) Zg) λn=>aB (Zu (0<=a)&&Zu (a<(Zy els:Int))&&Zd) (aB (Zp (Zx a) (Zy els)&&Zd) (Yx AT (Zk els (Zx a) Zg) λbf=>aE (Zu (n<bf)) (Zh (Yu [Zz AI b,Zz AI a],[els,[Zz AI (Zw AI (s+1))]])) (Zh (Yu [Zz AI a,Zz AI b],[els,[Zz AI s]]))))))) ?_;simp only[Yk,Qa2] at ay;obtain⟨⟨⟨⟨⟨⟨⟨ig,hlen⟩,JO⟩,U7⟩,AG⟩,vt⟩,z7⟩,lh⟩:=ay;obtain⟨d,rfl,hd⟩:=Kerb.nq ig;simp only[Xq] at *;obtain⟨a,rfl⟩:=Yy JO;obtain⟨b,rfl⟩:=Yy AG;obtain⟨s,rfl⟩:=Yy z7;have ha:a<d.size:=by omega
 have hb:b<d.size:=by omega
 simp only[Wq];rw[ae (by simp;omega),ae (by simp;omega),Kerb.pK hb,dx,ae (by simp;omega),ae (by simp;omega),Kerb.pK ha,dx];unfold Kerb.order2 Go.Sort.order2 Go.Sort.ltInt;rw[hd];simp only[Wq];by_cases h:d[b]! < d[a]!
 .rw[af (by simpa using h),Qa1 (by simpa using h),Kerb.iw (by omega) (by omega)];rfl
 .rw[ah (by simpa using h),Qa0 (by simpa using h)]
theorem w13:Wk 13 4 Oe:=by
 refine cw Tryz.func13 λ_ _ _ h=> ?_;unfold Oe at h;split at h;case h_2=>cases h
 rename_i b;obtain⟨ay,rfl⟩:=dg h;refine c6 (let t1:Option (AV×aO):=Zh (Yu [Xj [Zz AI 0,Zz AT 0,Zj []],Zz AI 0,Zz AI 100],[]);let t2:Int:=Zw AI (↑(BitVec.toNat (BitVec.ofInt (Wp AI) (Zw AI (Zw AI (↑(UInt8.toNat (Zk b (Zx 10) (0:UInt8))):Int)*2 ^ min (Zx 8) (Wp AI))) ||| BitVec.ofInt (Wp AI) (Zw AI (↑(UInt8.toNat (Zk b (Zx 11) (0:UInt8))):Int)))):Int);let t3:Int:=Zw AI (↑(UInt8.toNat (Zk b (Zx 1) (0:UInt8))):Int);let t4:Option (AV×aO):=Zh (Yu [Xj [Zz AI 0,Zz AT 0,Zj []],Zz AI 0,Zz AI 101],[]);let t0:Int:=Zw AI (12+t2);aE (Zu ((Zy b:Int)<12)) t4 (aB (Zu (10<=(Zy b:Int))) (Lu [Zj (Xg (Zx 2) (Xf (Zx 10) b))] λn bW=>aB (Zu (10<(Zy b:Int))) (aB (Zu (11<(Zy b:Int))) (aB (Zu (0<(Zy b:Int))) (aE (!Zk b (Zx 0) (0:UInt8)==(66:UInt8)) t1 (aB (Zu (1<(Zy b:Int))) (aE (Zu (t3<1)) t1 (aB (Zu (1<(Zy b:Int))) (aE (Zu (t3>10)) t1 (aE (!bW) t1 (aE (Zu (t2>1000)) t1 (aE (Zu ((Zy b:Int)<t0)) t4 (aB (Zu (1<(Zy b:Int))) (aB (Zu (12<=t0)&&Zu (t0<=(Zy b:Int))) (aB (room (Zy (Xg (Zx 12) (Xf (Zx t0) b))) 1) (Zh (Yu [Xj [Zz AI t3,Zz AT n,Zj (Xg (Zx 12) (Xf (Zx t0) b))],Zz AI t0,Zz AI 0],[])))))))))))))))))) ?_;unfold Lu;delta kT;dsimp only[CU,aI,aW,aq,cO,ag,bH,dc];simp only[Qa2] at ay;unfold Kerb.aU;by_cases h0:b.length<12
 .rw[af (by simp;omega),Qa1 h0];rfl
 rw[ah (by simp;omega),Qa0 h0];have hc:=Kerb.AF b 2 8;have hs:(b.getD 10 0).toNat*256+(b.getD 11 0).toNat=Kerb.mb b:=rfl;simp only[Kerb.O8,Kerb.Mr];simp only[show Zx 0=0 from rfl,show Zx 1=1 from rfl,show Zx 10=10 from rfl,show Zx 11=11 from rfl,Kerb.EV,hs];rw[ae (by simp;omega),ae (by simp;omega)];simp only[↓A0];rw[ae (by simp;omega),ae (by simp;omega),ae (by simp;omega)];by_cases h1:b.getD 0 0=66;case neg=>rw[af (by simpa using h1),Qa1 (.inl h1)];rfl
 rw[ah (by simpa using h1),ae (by simp;omega)];cases h2:Kerb.isKind ((b.getD 1 0).toNat:Int)
 .rw[Qa1 (.inr (.inl rfl))];by_cases h2a:((b.getD 1 0).toNat:Int)<1
  .rw[af (by simpa using h2a)];rfl
  .rw[ah (by simpa using h2a),ae (by simp;omega),af (Qa4 (by simp only[Kerb.isKind,Bool.and_eq_false_iff,decide_eq_false_iff_not] at h2;omega))];rfl
 have hk:1<=((b.getD 1 0).toNat:Int)/\((b.getD 1 0).toNat:Int)<=10:=by simp only[Kerb.isKind,Yk,Qa2] at h2;exact h2
 rw[ah (Qa5 (by omega)),ae (by simp;omega),ah (Qa5 (by omega))];cases h3:(Kerb.cK (Kerb.cut b 2 8)).2
 .rw[Qa1 (.inr (.inr (.inl rfl)))];rfl
 rw[Zb,aF];by_cases h4:1000<Kerb.mb b
 .rw[af (by simp;omega),Qa1 (.inr (.inr (.inr h4)))];rfl
 rw[ah (by simp;omega),Qa0 (by rintro(h | h | h | h)<;>first | exact h h1 | cases h | omega),wrap_i64 (by omega) (by omega)];by_cases h5:b.length<12+Kerb.mb b
 .rw[af (by simp;omega),Qa1 h5];rfl
 have uA:=Kerb.AF b 12 (Kerb.mb b);rw[ah (by simp;omega),Qa0 h5,Kerb.O7];repeat rw[ae (by first | (simp;omega) | exact Ww (by omega))]
 simp
theorem w22:Wk 22 4 Lc:=by
 refine cw Tryz.func22 λ_ _ _ h=> ?_;unfold Lc at h;split at h;case h_2=>cases h
 rename_i l;obtain⟨ay,rfl⟩:=dg h
 refine c6 (Zv (aB (Zu (Zy l<=4611686018427387904)&&Zd) (Zh (Zz AI (Yn l 0 2),[[Zj l,Zz AI (Xm l 0 2)]]))) λr=>aC (Yj r) λx dj=>aW x λb dr=>ag AI dr λn dH=>ak dH (aD dj (Yx AI (Xy r) λbf=>Zv (aB (Zu (Zy b<=4611686018427387904)&&Zu (0<=n)) (Zh (Zz AI (Yn b n 9),[[Zj b,Zz AI (Xm b n 9)]]))) λr=>aC (Yj r) λx eK=>aW x λb fL=>ag AI fL λn f_=>ak f_ (aD eK (Yx AI (Xy r) λbL=>Zv (aB (Zu (0<=bL)&&Zu (bL<=4611686018427387904)) (Zh (Xj [Zq (Kerb.bn.name (Kerb.user bL)),Zq (Kerb.bn.inst (Kerb.user bL)),Zq (Kerb.bn.aK (Kerb.user bL))],[]))) (kA λcs=>aI cs λbW r=>aI r λeg r=>aI r λeG r=>ak r (Zv (aB (Zu (Zy b<=4611686018427387904)&&Zu (0<=n)) (Zh (Zz AI (Yn b n 9),[[Zj b,Zz AI (Xm b n 9)]]))) λr=>aC (Yj r) λx g7=>aW x λb iA=>ag AI iA λn io=>ak io (aD g7 (Yx AI (Xy r) λdm=>Zv (aB (Zu (0<=dm)&&Zu (dm<=1000)) (Zh (Zz AT (Kerb.ax dm),[]))) (kI AT λbU=>Zv (aB (Zu (Zy b<=4611686018427387904)&&Zu (0<=n)) (Zh (Zz AI (Yn b n 256),[[Zj b,Zz AI (Xm b n 256)]]))) λr=>aC (Yj r) λx dA=>aW x λb eC=>ag AI eC λn eD=>ak eD (aD dA (Yx AI (Xy r) λbO=>Zv (aB (Zu (Zy b<=4611686018427387904)&&Zu (0<=n)) (Zh (Zz AI (Yn b n 200),[[Zj b,Zz AI (Xm b n 200)]]))) λr=>aC (Yj r) λx fl=>aW x λb fz=>ag AI fz λn fA=>ak fA (aD fl (Yx AI (Xy r) λfI=>Zv (aB (Zu (Zy b<=4611686018427387904)&&Zu (0<=n)) (Zh (Zz AI (Yn b n 256),[[Zj b,Zz AI (Xm b n 256)]]))) λr=>aC (Yj r) λx fS=>aW x λb im=>ag AI im λn iS=>ak iS (aD fS (Yx AI (Xy r) λfZ=>Zv (aB (Zu (Zy b<=4611686018427387904)&&Zu (0<=n)) (Zh (Zz AI (Yn b n 256),[[Zj b,Zz AI (Xm b n 256)]]))) λr=>aC (Yj r) λx iT=>aW x λb iU=>ag AI iU λn lN=>ak lN (aD iT (Yx AI (Xy r) λiN=>Zv (aB (Zu (Zy b<=4611686018427387904)&&Zu (0<=n)) (Zh (Zz AI (Yn b n 9),[[Zj b,Zz AI (Xm b n 9)]]))) λr=>aC (Yj r) λx lO=>aW x λb lP=>ag AI lP λn lQ=>ak lQ (aD lO (Yx AI (Xy r) λkY=>Zv (aB (Zu (0<=kY)&&Zu (kY<=4611686018427387904)) (Zh (Xj [Zq (Kerb.bn.name (Kerb.service kY)),Zq (Kerb.bn.inst (Kerb.service kY)),Zq (Kerb.bn.aK (Kerb.service kY))],[]))) (kA λcs=>aI cs λfG r=>aI r λgG r=>aI r λh_ r=>ak r (Zv (aB (Zu (Zy b<=4611686018427387904)&&Zu (0<=n)) (Zh (Zz AI (Yn b n 7),[[Zj b,Zz AI (Xm b n 7)]]))) λr=>aC (Yj r) λx nu=>aW x λb nv=>ag AI nv λn nw=>ak nw (aD nu (Yx AI (Xy r) λkr=>aE (kr==6) (Zv (aB (Zu (Zy b<=4611686018427387904)&&Zu (0<=n)) (Zh (Zz AI (Yn b n 3),[[Zj b,Zz AI (Xm b n 3)]]))) λr=>aC (Yj r) λx ny=>aW x λb nz=>ag AI nz λn nA=>ak nA (aD ny (Yx AI (Xy r) λgJ=>Zv (aB (Zu (Zy b<=4611686018427387904)&&Zu (0<=n)) (Zh (Zz AI (Yn b n 3),[[Zj b,Zz AI (Xm b n 3)]]))) λr=>aC (Yj r) λx qg=>aW x λb qh=>ag AI qh λn qi=>ak qi (aD qg (Yx AI (Xy r) λjA=>Zv (aB (Zu (Zy b<=4611686018427387904)&&Zu (0<=n)) (Zh (Zz AI (Yn b n 9),[[Zj b,Zz AI (Xm b n 9)]]))) λr=>aC (Yj r) λx rh=>aW x λb ri=>ag AI ri λn sX=>ak sX (aD rh (Yx AI (Xy r) λgO=>aE (gO==8) (Zv (aB (Zu (Zy b<=4611686018427387904)&&Zu (0<=n)) (Zh (Zz AI (Yn b n 2),[[Zj b,Zz AI (Xm b n 2)]]))) λr=>aC (Yj r) λx wU=>aW x λb wV=>ag AI wV λn wW=>ak wW (aD wU (Yx AI (Xy r) λn=>Zv (aB (Zu (0<=n)&&Zu (n<=1)) (Zh (Xj [Zq (Kerb.bn.name (Wu n)),Zq (Kerb.bn.inst (Wu n)),Zq (Kerb.bn.aK (Wu n))],[]))) (kA λcs=>aI cs λb r=>aI r λgY r=>aI r λjH r=>ak r (Zh (Xj [Zm (bf==1),Zq b,Zq gY,Zq jH,Zz AI (Zw AI (4294967295-gJ)),Zz AT bU,Zz AI bO,Zz AI (Zw AI (4294967295-jA)),Zq (Kerb.bn.name (Wu 0)),Zq (Kerb.bn.inst (Wu 0))],[])))))) (Zh (Xj [Zm (bf==1),Zq bW,Zq eg,Zq eG,Zz AI (Zw AI (4294967295-gJ)),Zz AT bU,Zz AI bO,Zz AI (Zw AI (4294967295-jA)),Zq fG,Zq gG],[]))))))))) (Zv (aB (Zu (Zy b<=4611686018427387904)&&Zu (0<=n)) (Zh (Zz AI (Yn b n 9),[[Zj b,Zz AI (Xm b n 9)]]))) λr=>aC (Yj r) λx ny=>aW x λb nz=>ag AI nz λn nA=>ak nA (aD ny (Yx AI (Xy r) λgJ=>aE (gJ==8) (Zv (aB (Zu (Zy b<=4611686018427387904)&&Zu (0<=n)) (Zh (Zz AI (Yn b n 2),[[Zj b,Zz AI (Xm b n 2)]]))) λr=>aC (Yj r) λx qg=>aW x λb qh=>ag AI qh λn qi=>ak qi (aD qg (Yx AI (Xy r) λn=>Zv (aB (Zu (0<=n)&&Zu (n<=1)) (Zh (Xj [Zq (Kerb.bn.name (Wu n)),Zq (Kerb.bn.inst (Wu n)),Zq (Kerb.bn.aK (Wu n))],[]))) (kA λcs=>aI cs λb r=>aI r λgY r=>aI r λjH r=>ak r (Zh (Xj [Zm (bf==1),Zq b,Zq gY,Zq jH,Zz AI fI,Zz AT bU,Zz AI bO,Zz AI (Zw AI (Zw AI (fZ*150)+iN)),Zq (Kerb.bn.name (Wu 0)),Zq (Kerb.bn.inst (Wu 0))],[])))))) (Zh (Xj [Zm (bf==1),Zq bW,Zq eg,Zq eG,Zz AI fI,Zz AT bU,Zz AI bO,Zz AI (Zw AI (Zw AI (fZ*150)+iN)),Zq fG,Zq gG],[]))))))))))))))))))))))))))))) ?_
 delta kA kI;dsimp only[aI,aW,ag];simp only[A0,ay,Kerb.Ib,Kerb.Ic,Kerb.B5,Kerb.FU,Kerb.Nz,Bool.and_true,Bool.true_and];refine zO (λh6=> ?_) (λh6=> ?_)
 .refine zO (λh8=> ?_) (λh8=> ?_)
  .have e6:(Yn l (Kerb.Ur l) 7==6)=Zd:=h6;have eq:Wj l=Kerb.W6 l:=by unfold Wj;rw[e6];rfl
   have e8:(Yn l (Wj l) 9==8)=Zd:=by rw[eq];exact h8
   unfold Kerb.aG;rw[e6,e8,eq];rfl
  .have e6:(Yn l (Kerb.Ur l) 7==6)=Zd:=h6;have eq:Wj l=Kerb.W6 l:=by unfold Wj;rw[e6];rfl
   have e8:(Yn l (Wj l) 9==8)=Xz:=by rw[eq];exact h8
   unfold Kerb.aG;rw[e6,e8];rfl
 .refine zO (λh8=> ?_) (λh8=> ?_)
  .have e6:(Yn l (Kerb.Ur l) 7==6)=Xz:=h6;have eq:Wj l=Kerb.tp9 l:=by unfold Wj;rw[e6];rfl
   have e8:(Yn l (Wj l) 9==8)=Zd:=by rw[eq];exact h8
   unfold Kerb.aG;rw[e6,e8,eq];rfl
  .have e6:(Yn l (Kerb.Ur l) 7==6)=Xz:=h6;have eq:Wj l=Kerb.tp9 l:=by unfold Wj;rw[e6];rfl
   have e8:(Yn l (Wj l) 9==8)=Xz:=by rw[eq];exact h8
   unfold Kerb.aG;rw[e6,e8];rfl
theorem w37:Wk 37 4 Lg:=by
 refine cw Tryz.func37 λ_ _ _ h=> ?_;unfold Lg at h;split at h;case h_2=>cases h
 rename_i li x y z t ex kv sd;obtain⟨ay,rfl⟩:=dg h;refine c6 (Zv (ld [Xj [Zq x,Zq y,Zq z]] []) (kL λb=>aE (!b) (Zh (Yu [Zj [],Zz AI 103],[])) (aE (!Zf t 4294967295) (Zh (Yu [Zj [],Zz AI 104],[])) (aE (!Zf ex 4294967295) (Zh (Yu [Zj [],Zz AI 104],[])) (aE (!Zf kv 255) (Zh (Yu [Zj [],Zz AI 104],[])) (aE (Zu ((Zy sd:Int)>1012)) (Zh (Yu [Zj [],Zz AI 105],[])) (Zv (ko [Zj (Wd 2 li),Xj [Zq x,Zq y,Zq z]] []) (kO λl=>Zv (fv [Zj l,Zz AI t,Zm li] []) (kO λl=>Zv (jv [Zj l,Zz AI 1] []) (kO λl=>Zv (fv [Zj l,Zz AI ex,Zm li] []) (kO λl=>Zv (jv [Zj l,Zz AI kv] []) (kO λl=>Zv (mG [Zj l,Zz AI (Zy sd:Int),Zm li] []) (kO λl=>aB (room (Zy l+Zy sd) 1) (Zh (Yu [Zj (l++sd),Zz AI 0],[]))))))))))))))) ?_;delta kO kL;dsimp only[jv,ld,ko,fv,mG,aI,aW,aq,cO,ag,bH,dc];simp only[Yk,Qa2] at ay;obtain⟨⟨q1,q2⟩,q3⟩:=ay;simp only[A0];unfold Kerb.bg;rw[ae (by simp[q1,q2,q3])];cases h1:Kerb.bn.valid ⟨x,y,z⟩
 .rfl
 rw[Zb,aF];cases h4:Zf t 4294967295
 .rfl
 rw[Zb,aF];cases h5:Zf ex 4294967295
 .rfl
 rw[Zb,aF];cases h6:Zf kv 255
 .rfl
 rw[Zb,aF];by_cases h7:1012<sd.length
 .rw[af (by simp;omega),Qa0 (by simp),Qa0 (by simp),Qa1 h7]
 have l1:=Kerb.cV h1;have l4:=Kerb.kR 2 li;simp only at l1;rw[ah (by simp;omega),Qa0 (by simp),Qa0 (by simp),Qa0 h7];rw[ae (by simp;omega),ae (by simp[Yd];omega),ae (by simp[Yd,Yz];omega),ae (by simp[Yd,Yz];omega),ae (by simp[Yd,Yz];omega),ae (by simp[Yd,Yz];omega),ae (Ww (by simp[Yd,Yz];omega))]
theorem w39:Wk 39 4 RM:=by
 refine cw Tryz.func39 λ_ _ _ h=> ?_;unfold RM at h;split at h;case h_2=>cases h
 rename_i li mu kv rl tk au tm lf sv ins;obtain⟨ay,rfl⟩:=dg h;refine c6 (aE mu (Zh (Yu [Zj [],Zz AI 100],[])) (Zv (Ld [Xj [Zm li,Zm mu,Zz AI kv,Zq rl,Zj tk,Zj au]] []) (kT λvs=>aW vs λb r=>ag AI r λn r=>ak r (aE (!n==0) (Zh (Yu [Zj [],Zz AI n],[])) (Zv (u9 [Zq sv] []) (kL λbW=>aE (!bW) (Zh (Yu [Zj [],Zz AI 103],[])) (Zv (u_ [Zq ins] []) (kL λeg=>aE (!eg) (Zh (Yu [Zj [],Zz AI 103],[])) (aE (!Zf tm 4294967295) (Zh (Yu [Zj [],Zz AI 104],[])) (aE (!Zf lf 255) (Zh (Yu [Zj [],Zz AI 104],[])) (Zv (fv [Zj b,Zz AI tm,Zm li] []) (kO λl=>Zv (jv [Zj l,Zz AI lf] []) (kO λl=>Zv (qv [Zj l,Zq sv] []) (kO λl=>Zv (qv [Zj l,Zq ins] []) (kO λl=>Zh (Yu [Zj l,Zz AI 0],[])))))))))))))))) ?_;delta kT kO kL;dsimp only[Ld,jv,qv,fv,u9,u_,aI,aW,aq,cO,ag,bH,dc];simp only[Yk,Qa2] at ay;obtain⟨⟨p1,p2⟩,p3⟩:=ay;simp only[A0,Wz,Wv,Kerb.eL.av,p1,p2,p3,Qb4];have hL:∀ q,Kerb.bh ⟨li,mu,kv,rl,tk,au⟩=q->Kerb.cZ ⟨⟨li,mu,kv,rl,tk,au⟩,tm,lf,sv,ins⟩=if mu then⟨[],100⟩ else if q.err≠0 then⟨[],q.err⟩ else if !(Kerb.validName sv&&Kerb.cA ins) then⟨[],103⟩ else if !(Zf tm 4294967295&&Zf lf 255) then⟨[],104⟩ else⟨Kerb.bz (Kerb.bz (q.val++Xh tm 4 li++Xh lf 1 Xz) sv) ins,0⟩:=by rintro _ rfl;rfl
 have hl:=Kerb.xM ⟨li,mu,kv,rl,tk,au⟩;obtain⟨q,hq⟩:∃ q,Kerb.bh ⟨li,mu,kv,rl,tk,au⟩=q:=⟨_,rfl⟩;rw[hL q hq,hq];rw[hq] at hl;cases mu;case true=>rfl
 rw[aF,Qa0 (by simp)];by_cases h1:q.err=0;case neg=>rw[af (by simpa using h1),Qa1 h1]
 rw[ah (by simpa using h1),Qa0 (by simpa using h1)];cases h2:Kerb.validName sv
 .rfl
 cases h3:Kerb.cA ins
 .rfl
 cases Zf tm 4294967295
 .rfl
 cases Zf lf 255
 .rfl
 have l2:=Kerb.iu h2;have l3:=Kerb.gU h3;simp only[Zb,aF,Bool.and_self,Bool.false_eq_true,if_false];rw[ae (by simp;omega),ae (by simp[Yz];omega),ae (by simp[Yz];omega),ae (by simp[Yz,Kerb.cf];omega)]
theorem w41:Wk 41 4 WR:=by
 refine cw Tryz.func41 λ_ _ _ h=> ?_;unfold WR at h;split at h;case h_2=>cases h
 rename_i op ux uy uz kv rl tk sv ins bx;obtain⟨ay,rfl⟩:=dg h
 refine c6 (Zv (aE (!(op==1||op==3)) (Zh [Zz AI op,Zq ux,Zq uy,Zq uz,Zz AI kv,Zq rl,Zj tk,Zq sv,Zq ins,Zj bx,Zm !op==2,Zz AI 0]) (Zh [Zz AI op,Zq ux,Zq uy,Zq uz,Zz AI kv,Zq rl,Zj tk,Zq sv,Zq ins,Zj bx,Zm Xz,Zz AI 0])) λl=>ag AI l λn r=>aI r λb r=>aI r λbW r=>aI r λeg r=>ag AI r λbf r=>aI r λeG r=>aW r λfG r=>aI r λgG r=>aI r λh_ r=>aW r λgY r=>aq r λjH r=>ag AI r λbL r=>let t1:Option (List AV):=Zh [Zz AI n,Zq b,Zq bW,Zq eg,Zz AI bf,Zq eG,Zj fG,Zq gG,Zq h_,Zj gY,Zm Zd,Zz AI bL];let t0:Option (List AV):=aE (!(n==1||n==3)) (Zv (Gs [Zq eG] []) (kL λj7=>aE (!j7) t1 (Zv (u9 [Zq gG] []) (kL λfF=>aE (!fF) t1 (Zv (u_ [Zq h_] []) (kL λfM=>Zh [Zz AI n,Zq b,Zq bW,Zq eg,Zz AI bf,Zq eG,Zj fG,Zq gG,Zq h_,Zj gY,Zm !fM,Zz AI bL])))))) (Zh [Zz AI n,Zq b,Zq bW,Zq eg,Zz AI bf,Zq eG,Zj fG,Zq gG,Zq h_,Zj gY,Zm Xz,Zz AI bL]);ak r (aE jH (Zh (Yu [Zj [],Zz AI 40],[])) (Zv (aE (n==1||n==3) (Zv (ld [Xj [Zq b,Zq bW,Zq eg]] []) (kL λb=>aE (!b) t1 t0)) t0) λl=>ag AI l λn r=>aI r λb r=>aI r λj7 r=>aI r λfF r=>ag AI r λdm r=>aI r λfM r=>aW r λgB r=>aI r λgf r=>aI r λhO r=>aW r λiL r=>aq r λiE r=>ag AI r λbU r=>ak r (aE iE (Zh (Yu [Zj [],Zz AI 103],[])) (Zv (aE (!(n==1||n==3)) (Zh [Zz AI n,Zq b,Zq j7,Zq fF,Zz AI dm,Zq fM,Zj gB,Zq gf,Zq hO,Zj iL,Zm !Zf dm 255,Zz AI bU]) (Zh [Zz AI n,Zq b,Zq j7,Zq fF,Zz AI dm,Zq fM,Zj gB,Zq gf,Zq hO,Zj iL,Zm Xz,Zz AI bU])) λl=>ag AI l λn r=>aI r λb r=>aI r λiZ r=>aI r λhU r=>ag AI r λbO r=>aI r λjo r=>aW r λj6 r=>aI r λkJ r=>aI r λlJ r=>aW r λlq r=>aq r λnW r=>ag AI r λfI r=>let t2:Option (List AV):=Zh [Zz AI n,Zq b,Zq iZ,Zq hU,Zz AI bO,Zq jo,Zj j6,Zq kJ,Zq lJ,Zj lq,Zm (Zu ((Zy lq:Int)>1012)),Zz AI fI];ak r (aE nW (Zh (Yu [Zj [],Zz AI 104],[])) (Zv (aE (!(n==1||n==3)) (aE (Zu ((Zy j6:Int)>255)) (Zh [Zz AI n,Zq b,Zq iZ,Zq hU,Zz AI bO,Zq jo,Zj j6,Zq kJ,Zq lJ,Zj lq,Zm Zd,Zz AI fI]) t2) t2) λl=>ag AI l λn r=>aI r λb r=>aI r λnK r=>aI r λmN r=>ag AI r λfZ r=>aI r λoD r=>aW r λqt r=>aI r λsq r=>aI r λpJ r=>aW r λss r=>aq r λA_ r=>ag AI r λiN r=>let t3:Option (List AV):=Zh [Zz AI n,Zq b,Zq nK,Zq mN,Zz AI fZ,Zq oD,Zj qt,Zq sq,Zq pJ,Zj ss,Zm Zd,Zz AI iN];let t4:Option (List AV):=aE (!(n==1||n==3)) (Zh [Zz AI n,Zq b,Zq nK,Zq mN,Zz AI fZ,Zq oD,Zj qt,Zq sq,Zq pJ,Zj ss,Zm !(b==[]&&(nK==[]&&mN==[])),Zz AI iN]) (Zh [Zz AI n,Zq b,Zq nK,Zq mN,Zz AI fZ,Zq oD,Zj qt,Zq sq,Zq pJ,Zj ss,Zm Xz,Zz AI iN]);ak r (aE A_ (Zh (Yu [Zj [],Zz AI 105],[])) (Zv (aE (n==1||n==3) (aE (!fZ==0) t3 (aE (!oD==[]) t3 (aE (Zu ((Zy qt:Int)>0)) t3 (aE (!sq==[]) t3 (aE (!pJ==[]) t3 t4))))) t4) λl=>ag AI l λn r=>aI r λb r=>aI r λGW r=>aI r λAv r=>ag AI r λkY r=>aI r λGX r=>aW r λGY r=>aI r λSL r=>aI r λSM r=>aW r λE5 r=>aq r λSN r=>ag AI r λkr r=>ak r (aE SN (Zh (Yu [Zj [],Zz AI 108],[])) (aE (n==1||n==3) (Zv (ko [Zj (Wd 9 Xz++Xh n 1 Xz),Xj [Zq b,Zq GW,Zq Av]] []) (kO λl=>Zv (mG [Zj l,Zz AI (Zy E5:Int),Zm Xz] []) (kO λl=>aB (room (Zy l+Zy E5) 1) (Zh (Yu [Zj (l++E5),Zz AI 0],[]))))) (Zv (jv [Zj (Wd 9 Xz++Xh n 1 Xz),Zz AI kY] []) (kO λl=>Zv (qv [Zj l,Zq GX] []) (kO λl=>Zv (jv [Zj l,Zz AI (Zy GY:Int)] []) (kO λl=>aB (room (Zy l+Zy GY) 1) (Zv (qv [Zj (l++GY),Zq SL] []) (kO λl=>Zv (qv [Zj l,Zq SM] []) (kO λl=>Zv (mG [Zj l,Zz AI (Zy E5:Int),Zm Xz] []) (kO λl=>aB (room (Zy l+Zy E5) 1) (Zh (Yu [Zj (l++E5),Zz AI 0],[]))))))))))))))))))))) ?_
 delta kO kL;dsimp only[Gs,jv,qv,ld,ko,mG,u9,u_,aI,aW,aq,cO,ag,bH,dc];simp only[Yk,Qa2] at ay;have sL:(Wd 9 Xz).length=2:=rfl;unfold Kerb.aP;by_cases h13:op=1\/op=3
 .have e1:(op==1||op==3)=Zd:=by simpa using h13
  have e2:(op==2)=Xz:=by simp;omega
  have e3:Kerb.nc op=Zd:=by simp[Kerb.nc];omega
  simp only[A0,e1,e2,e3,Zb,b_,aF,Bool.false_eq_true,if_false];rw[ae (by simp;omega)];cases h2:Kerb.bn.valid ⟨ux,uy,uz⟩
  .rfl
  rw[Zb,aF,Qa0 (by simp)];by_cases h3:1012<bx.length
  .rw[af (by simp;omega),Qa1 h3]
  rw[ah (by simp;omega),Qa0 h3];by_cases h4:kv=0;case neg=>rw[af (by simpa using h4),Qa1 (.inl h4)]
  rw[ah (by simp[h4])];by_cases h5:rl=[];case neg=>rw[af (by simpa using h5),Qa1 (.inr (.inl h5))]
  rw[ah (by simp[h5])];by_cases h6:tk=[];case neg=>rw[af (by have:=List.length_pos_iff.2 h6;simp;omega),Qa1 (.inr (.inr (.inl h6)))]
  rw[ah (by simp[h6])];by_cases h7:sv=[];case neg=>rw[af (by simpa using h7),Qa1 (.inr (.inr (.inr (.inl h7))))]
  rw[ah (by simp[h7])];by_cases h8:ins=[];case neg=>rw[af (by simpa using h8),Qa1 (.inr (.inr (.inr (.inr h8))))]
  rw[ah (by simp[h8]),Qa0 (by simp[h4,h5,h6,h7,h8])];have l1:=Kerb.cV h2;simp only at l1;rw[ae (by simp[Yz,sL];omega),ae (by simp[Yz,sL,Yd];omega),ae (Ww (by simp[Yz,sL,Yd];omega))];simp[Kerb.dQ,Kerb.uH]
 .have e1:(op==1||op==3)=Xz:=by simpa using h13
  simp only[A0,e1,Bool.not_false,b_,aF];by_cases h2:op=2;case neg =>
   have e3:Kerb.nc op=Xz:=by simp[Kerb.nc];omega
   rw[af (by simpa using h2),e3];rfl
  subst h2;rw[ah (by simp)];simp only[show Kerb.nc 2=Zd from rfl,Zb,Bool.false_eq_true,if_false,Qb2,if_true];rw[ae (by simp;omega)];cases h2:Kerb.dO rl
  .rfl
  rw[Zb,aF,ae (by simp;omega)];cases h3:Kerb.validName sv
  .rfl
  rw[Zb,aF,ae (by simp;omega)];cases h4:Kerb.cA ins
  .rfl
  rw[Zb,aF,Qa0 (by simp)];cases h5:Zf kv 255
  .rfl
  rw[Zb,aF,Qa0 (by simp)];by_cases h6:255<tk.length
  .rw[af (by simp;omega),Qa1 (.inl h6)]
  rw[ah (by simp;omega)];by_cases h7:1012<bx.length
  .rw[af (by simp;omega),Qa1 (.inr h7)]
  rw[ah (by simp;omega),Qa0 (by omega)];show aE (!(Kerb.bn.Ax ⟨ux,uy,uz⟩)) _ _=_;cases Kerb.bn.Ax ⟨ux,uy,uz⟩
  .rfl
  rw[Zb,aF,Qa0 (by simp)];have l1:=Kerb.gm h2;have l2:=Kerb.iu h3;have l3:=Kerb.gU h4;rw[ae (by simp[Yz,sL]),ae (by simp[Yz,sL];omega),ae (by simp[Yz,sL,Kerb.cf];omega),ae (Ww (by simp[Yz,sL,Kerb.cf];omega)),ae (by simp[Yz,sL,Kerb.cf];omega),ae (by simp[Yz,sL,Kerb.cf];omega),ae (by simp[Yz,sL,Kerb.cf];omega),ae (Ww (by simp[Yz,sL,Kerb.cf];omega))];simp[Kerb.dQ,Kerb.uH,Kerb.kh]
theorem w43:Wk 43 4 Lh:=by
 refine cw Tryz.func43 λ_ _ _ h=> ?_;unfold Lh at h;split at h;case h_2=>cases h
 rename_i op ux uy uz bx;obtain⟨ay,rfl⟩:=dg h;refine c6 (aE (Zu (op<1)) (Zh (Yu [Zj [],Zz AI 40],[])) (aE (Zu (op>3)) (Zh (Yu [Zj [],Zz AI 40],[])) (Zv (ld [Xj [Zq ux,Zq uy,Zq uz]] []) (kL λb=>aE (!b) (Zh (Yu [Zj [],Zz AI 103],[])) (aE (Zu ((Zy bx:Int)>1012)) (Zh (Yu [Zj [],Zz AI 105],[])) (Zv (ko [Zj (Wd 10 Xz++Xh op 1 Xz),Xj [Zq ux,Zq uy,Zq uz]] []) (kO λl=>Zv (mG [Zj l,Zz AI (Zy bx:Int),Zm Xz] []) (kO λl=>aB (room (Zy l+Zy bx) 1) (Zh (Yu [Zj (l++bx),Zz AI 0],[])))))))))) ?_;delta kO kL;dsimp only[ld,ko,mG,aI,aW,aq,cO,ag,bH,dc];simp only[Yk,Qa2] at ay;simp only[A0,Wz,Wv,Kerb.eL.av];have sL:(Wd 10 Xz).length=2:=rfl;unfold Kerb.dE;simp only;by_cases h0:1<=op/\op<=3;case neg =>
  have e:Kerb.nc op=Xz:=by simp[Kerb.nc];omega
  rw[e];by_cases h1:op<1
  .rw[af (by simpa using h1)];rfl
  .rw[ah (by simpa using h1),af (by simp;omega)];rfl
 have e:Kerb.nc op=Zd:=by simp[Kerb.nc];omega
 rw[e,ah (by simp;omega),ah (by simp;omega),Qa0 (by simp),ae (by simp;omega)];cases h2:Kerb.bn.valid ⟨ux,uy,uz⟩
 .rfl
 rw[Zb,aF,Qa0 (by simp)];by_cases h8:1012<bx.length
 .rw[af (by simp;omega),Qa1 h8]
 rw[ah (by simp;omega),Qa0 h8];have l2:=Kerb.cV h2;simp only at l2;rw[ae (by simp[Yz,sL];omega),ae (by simp[Yd,Yz,sL];omega),ae (Ww (by simp[Yd,Yz,sL];omega))];simp[Kerb.dQ]
theorem w63:Wk 63 4 WU:=by
 refine cw Tryz.func63 λ_ _ _ h=> ?_;unfold WU at h;split at h;case h_2=>cases h
 rename_i x;cases h;refine c6 (Zv (zP [AV.ptr 0 0,Zz AI 9] [(0,[Zj [x],Zz AI 0])]) λr=>aC (Yj r) λx dj=>aW x λb dr=>ag AI dr λn dH=>ak dH (aD dj (Yx AI (Xy r) λbf=>W8 [Zz AI bf] λbW eg eG=>Zv (zP [AV.ptr 0 0,Zz AI 200] [(0,[Zj b,Zz AI n])]) λr=>aC (Yj r) λx eK=>aW x λb fL=>ag AI fL λn f_=>ak f_ (aD eK (Yx AI (Xy r) λbL=>Zv (zP [AV.ptr 0 0,Zz AI 256] [(0,[Zj b,Zz AI n])]) λr=>aC (Yj r) λx g7=>aW x λb iA=>ag AI iA λn io=>ak io (aD g7 (Yx AI (Xy r) λdm=>Zv (zP [AV.ptr 0 0,Zz AI 256] [(0,[Zj b,Zz AI n])]) λr=>aC (Yj r) λx dA=>aW x λb eC=>ag AI eC λn eD=>ak eD (aD dA (Yx AI (Xy r) λbU=>Zv (zP [AV.ptr 0 0,Zz AI 256] [(0,[Zj b,Zz AI n])]) λr=>aC (Yj r) λx fl=>aW x λb fz=>ag AI fz λn fA=>ak fA (aD fl (Yx AI (Xy r) λbO=>Zv (zP [AV.ptr 0 0,Zz AI 256] [(0,[Zj b,Zz AI n])]) λr=>aC (Yj r) λx fS=>aW x λb im=>ag AI im λn iS=>ak iS (aD fS (Yx AI (Xy r) λfI=>Zv (zP [AV.ptr 0 0,Zz AI 9] [(0,[Zj b,Zz AI n])]) λr=>aC (Yj r) λx iT=>aW x λb iU=>ag AI iU λn lN=>ak lN (aD iT (Yx AI (Xy r) λfZ=>aE (fZ==8) (Zv (zP [AV.ptr 0 0,Zz AI 3] [(0,[Zj b,Zz AI n])]) λr=>aC (Yj r) λx lO=>aW x λb lP=>ag AI lP λn lQ=>ak lQ (aD lO (Yx AI (Xy r) λiN=>Zv (zP [AV.ptr 0 0,Zz AI 2] [(0,[Zj b,Zz AI n])]) λr=>aC (Yj r) λx nu=>aW x λb nv=>ag AI nv λn nw=>ak nw (aD nu (Yx AI (Xy r) λn=>Zh (Xj [Zq (Kerb.bn.name (Wu 0)),Zq (Kerb.bn.inst (Wu 0)),Zq (Kerb.bn.aK (Wu 0)),Zz AI (Zw AI (4294967295-n)),Zz AI bL,Zz AI (Zw AI (4294967295-iN))],[])))))) (Zh (Xj [Zq bW,Zq eg,Zq eG,Zz AI (Zw AI (Zw AI (dm*70000)+bU)),Zz AI bL,Zz AI (Zw AI (Zw AI (bO*150)+fI))],[]))))))))))))))))) ?_;unfold W8;delta kA;dsimp only[Lf,zP,aI,aW,aq,cO,ag,bH,dc];have e0:Zu ([x].length<=4611686018427387904)=Zd:=rfl;have e1:Zu ((0:Int)<=Yn [x] 0 9)=Zd:=Kerb.Ic _ _ _;have e2:Zu (Yn [x] 0 9<=4611686018427387904)=Zd:=Kerb.B5 _ _ _;simp only[A0,Wz,Wv,Kerb.eL.av,e0,e1,e2,Kerb.Qg,Kerb.Qh,Kerb.Z8,Bool.and_self,Bool.and_true,show Zu ((0:Int)<=1)=Zd from rfl,show((0:Int)==8)=Xz from rfl];rfl
theorem iw:Wk 64 4 Lk:=by
 refine cw Tryz.func64 λ_ _ _ h=> ?_;unfold Lk at h;split at h;case h_2=>cases h
 rename_i k x y z lf kv tk t By;obtain⟨ay,rfl⟩:=dg h;refine c6 (Zv (mH [Zz AT k] []) (kL λb=>aE (!b) (Zh (Yu [Zj [],Zz AI 10],[])) (Zv (ld [Xj [Zq x,Zq y,Zq z]] []) (kL λb=>aE (!b) (Zh (Yu [Zj [],Zz AI 103],[])) (aE (!Zf lf 255) (Zh (Yu [Zj [],Zz AI 104],[])) (aE (!Zf kv 255) (Zh (Yu [Zj [],Zz AI 104],[])) (aE (!Zf t 4294967295) (Zh (Yu [Zj [],Zz AI 104],[])) (aE (Zu ((Zy tk:Int)>255)) (Zh (Yu [Zj [],Zz AI 105],[])) (Zv (nG [Zz AT k] []) (kB λb=>aB (room (Zy ([]++Xh (bif By then 1 else 0) 1 Xz)+Zy b) 1) (Zv (ko [Zj ([]++Xh (bif By then 1 else 0) 1 Xz++b),Xj [Zq x,Zq y,Zq z]] []) (kO λl=>Zv (jv [Zj l,Zz AI lf] []) (kO λl=>Zv (jv [Zj l,Zz AI kv] []) (kO λl=>Zv (jv [Zj l,Zz AI (Zy tk:Int)] []) (kO λl=>aB (room (Zy l+Zy tk) 1) (Zv (fv [Zj (l++tk),Zz AI t,Zm By] []) (kO λl=>Zv (jF [Zj l] []) (kO λl=>Zh (Yu [Zj l,Zz AI 0],[]))))))))))))))))))) ?_;delta kB kO kL;dsimp only[jv,ld,ko,fv,mH,nG,jF,aI,aW,aq,cO,ag,bH,dc];simp only[Yk,Qa2] at ay;obtain⟨⟨⟨⟨q1,q2⟩,q3⟩,h0⟩,h1⟩:=ay;simp only[A0];unfold Kerb.bp;rw[ae (by simp[h0,h1])];cases hk:Kerb.bB k
 .rfl
 rw[Zb,aF,ae (by simp[q1,q2,q3])];cases h1:Kerb.bn.valid ⟨x,y,z⟩
 .rfl
 rw[Zb,aF];cases h4:Zf lf 255
 .rfl
 rw[Zb,aF];cases h5:Zf kv 255
 .rfl
 rw[Zb,aF];cases h6:Zf t 4294967295
 .rfl
 rw[Zb,aF];by_cases h7:255<tk.length
 .rw[af (by simp;omega),Qa0 (by simp),Qa0 (by simp),Qa0 (by simp),Qa1 h7]
 have l1:=Kerb.cV h1;simp only at l1;rw[ah (by simp;omega),Qa0 (by simp),Qa0 (by simp),Qa0 (by simp),Qa0 h7];rw[ae (by simp;omega),ae (Ww (by first | (simp[Yd,Yz,Yf];done) | (simp[Yd,Yz,Yf];omega))),ae (by first | (simp[Yd,Yz,Yf];done) | (simp[Yd,Yz,Yf];omega)),ae (by first | (simp[Yd,Yz,Yf];done) | (simp[Yd,Yz,Yf];omega)),ae (by first | (simp[Yd,Yz,Yf];done) | (simp[Yd,Yz,Yf];omega)),ae (by first | (simp[Yd,Yz,Yf];done) | (simp[Yd,Yz,Yf];omega)),ae (Ww (by first | (simp[Yd,Yz,Yf];done) | (simp[Yd,Yz,Yf];omega))),ae (by first | (simp[Yd,Yz,Yf];done) | (simp[Yd,Yz,Yf];omega)),ae (by first | (simp[Yd,Yz,Yf];done) | (simp[Yd,Yz,Yf];omega))];simp
theorem w65:Wk 65 4 WV:=by
 refine cw Tryz.func65 λ_ _ _ h=> ?_;unfold WV at h;split at h;case h_2=>cases h
 rename_i ck tc tm li;cases h;refine c6 (aE (!Zf ck 4294967295) (Zh (Yu [Zj [],Zz AI 104],[])) (aE (!Zf tc 199) (Zh (Yu [Zj [],Zz AI 104],[])) (aE (!Zf tm 4294967295) (Zh (Yu [Zj [],Zz AI 104],[])) (Zv (fv [Zj ([]++Xh (bif li then 1 else 0) 1 Xz),Zz AI ck,Zm li] []) (kO λl=>Zv (jv [Zj l,Zz AI tc] []) (kO λl=>Zv (fv [Zj l,Zz AI tm,Zm li] []) (kO λl=>Zv (jF [Zj l] []) (kO λl=>Zh (Yu [Zj l,Zz AI 0],[]))))))))) ?_;delta kO;dsimp only[jv,fv,jF,aI,aW,aq,cO,ag,bH,dc];unfold Kerb.fN;cases h1:Zf ck 4294967295
 .rfl
 cases h2:Zf tc 199
 .rfl
 cases h3:Zf tm 4294967295
 .rfl
 rw[Qa0 (by simp)];simp only[↓A0,Zb];rw[ae (by simp[Yz]),ae (by simp[Yz]),ae (by simp[Yz]),ae (by simp[Yz])];rfl
theorem w66:Wk 66 4 WW:=by
 refine cw Tryz.func66 λ_ _ _ h=> ?_;unfold WW at h;split at h;case h_2=>cases h
 rename_i dt tc ad tm li;cases h;refine c6 (aE (Zu ((Zy dt:Int)>500)) (Zh (Yu [Zj [],Zz AI 105],[])) (aE (!Zf tc 199) (Zh (Yu [Zj [],Zz AI 104],[])) (aE (!Zf ad 4294967295) (Zh (Yu [Zj [],Zz AI 104],[])) (aE (!Zf tm 4294967295) (Zh (Yu [Zj [],Zz AI 104],[])) (Zv (mG [Zj ([]++Xh (bif li then 1 else 0) 1 Xz),Zz AI (Zy dt:Int),Zm li] []) (kO λl=>aB (room (Zy l+Zy dt) 1) (Zv (jv [Zj (l++dt),Zz AI tc] []) (kO λl=>Zv (fv [Zj l,Zz AI ad,Zm li] []) (kO λl=>Zv (fv [Zj l,Zz AI tm,Zm li] []) (kO λl=>Zv (jF [Zj l] []) (kO λl=>Zh (Yu [Zj l,Zz AI 0],[])))))))))))) ?_;delta kO;dsimp only[jv,fv,mG,jF,aI,aW,aq,cO,ag,bH,dc];unfold Kerb.eB;simp only;by_cases h0:500<dt.length
 .rw[af (by simp;omega),Qa1 h0]
 rw[ah (by simp;omega),Qa0 h0];cases h1:Zf tc 199
 .rfl
 cases h2:Zf ad 4294967295
 .rfl
 cases h3:Zf tm 4294967295
 .rfl
 simp only[A0,Wz,Wv,Kerb.eL.av,Zb,Bool.and_self];rw[Qa0 (by simp),ae (by simp[Yz]),ae (Ww (by simp[Yz];omega)),ae (by simp[Yz];omega),ae (by simp[Yz];omega),ae (by simp[Yz];omega),ae (by simp[Yz];omega)];simp
theorem w68:Wk 68 4 Oi:=by
 refine cw Tryz.func68 λ_ _ _ h=> ?_;unfold Oi at h;split at h;case h_2=>cases h
 rename_i lb t k st en kv x y z tk;obtain⟨ay,rfl⟩:=dg h;refine c6 (let t1:Option (AV×aO):=Zh (Yu [Zj [],Zz AI 104],[]);let t2:Option (AV×aO):=Zh (Yu [Zj [],Zz AI 108],[]);let t3:List AV:=[Xj [Zq x,Zq y,Zq z]];let t0:Option (AV×aO):=aE (!Zf t 4294967295) t1 (Zv (fv [Zj lb,Zz AI t,Zm Xz] []) (kO λl=>aE (!lb==[(116:UInt8),(107:UInt8),(116:UInt8),(71:UInt8)]) (aE (!k==0) t2 (aE (!st==0) t2 (aE (!en==0) t2 (aE (!kv==0) t2 (aE (!(x==[]&&(y==[]&&z==[]))) t2 (aE (Zu ((Zy tk:Int)>0)) t2 (Zv (jF [Zj l] []) (kO λl=>Zh (Yu [Zj l,Zz AI 0],[]))))))))) (Zv (mH [Zz AT k] []) (kL λb=>aE (!b) (Zh (Yu [Zj [],Zz AI 10],[])) (aE (!Zf st 4294967295) t1 (aE (!Zf en 4294967295) t1 (aE (!Zf kv 255) t1 (Zv (ld t3 []) (kL λb=>aE (!b) (Zh (Yu [Zj [],Zz AI 103],[])) (aE (Zu ((Zy tk:Int)>255)) (Zh (Yu [Zj [],Zz AI 105],[])) (Zv (nG [Zz AT k] []) (kB λb=>aB (room (Zy l+Zy b) 1) (Zv (fv [Zj (l++b),Zz AI st,Zm Xz] []) (kO λl=>Zv (fv [Zj l,Zz AI en,Zm Xz] []) (kO λl=>Zv (jv [Zj l,Zz AI kv] []) (kO λl=>Zv (ko (Zj l::t3) []) (kO λl=>Zv (jv [Zj l,Zz AI (Zy tk:Int)] []) (kO λl=>aB (room (Zy l+Zy tk) 1) (Zv (jF [Zj (l++tk)] []) (kO λl=>Zh (Yu [Zj l,Zz AI 0],[])))))))))))))))))))));aE (lb==[(116:UInt8),(103:UInt8),(115:UInt8),(84:UInt8)]) (aE (!Zf t 4294967295) t1 (Zv (fv [Zj lb,Zz AI t,Zm Xz] []) (kO λl=>Zv (mH [Zz AT k] []) (kL λb=>aE (!b) (Zh (Yu [Zj [],Zz AI 10],[])) (aE (!Zf st 4294967295) t1 (aE (!Zf en 4294967295) t1 (aE (!Zf kv 255) t1 (Zv (ld t3 []) (kL λb=>aE (!b) (Zh (Yu [Zj [],Zz AI 103],[])) (aE (Zu ((Zy tk:Int)>255)) (Zh (Yu [Zj [],Zz AI 105],[])) (Zv (nG [Zz AT k] []) (kB λb=>aB (room (Zy l+Zy b) 1) (Zv (fv [Zj (l++b),Zz AI st,Zm Xz] []) (kO λl=>Zv (fv [Zj l,Zz AI en,Zm Xz] []) (kO λl=>Zv (jv [Zj l,Zz AI kv] []) (kO λl=>Zv (ko (Zj l::t3) []) (kO λl=>Zv (jv [Zj l,Zz AI (Zy tk:Int)] []) (kO λl=>aB (room (Zy l+Zy tk) 1) (Zv (jF [Zj (l++tk)] []) (kO λl=>Zh (Yu [Zj l,Zz AI 0],[]))))))))))))))))))))) (aE (!lb==[(116:UInt8),(107:UInt8),(116:UInt8),(71:UInt8)]) (aE (!lb==[(67:UInt8),(80:UInt8),(87:UInt8),(100:UInt8)]) (Zh (Yu [Zj [],Zz AI 80],[])) t0) t0)) ?_;delta kB kO kL;dsimp only[jv,ld,ko,fv,mH,nG,jF,aI,aW,aq,cO,ag,bH,dc];have MP:([103,84,71,83]:List UInt8)=Kerb.vM:=rfl;have DV:([103,84,75,84]:List UInt8)=Kerb.ly:=rfl;have Hj:([67,80,87,108]:List UInt8)=Kerb.fO:=rfl;have zW:([67,80,87,100]:List UInt8)=Kerb.lH:=rfl;have MQ:([116,103,115,84]:List UInt8)=Kerb.zu:=rfl;have zg:([116,107,116,71]:List UInt8)=Kerb.p_:=rfl;have HM:=ay;simp only[Yk,Qa2] at ay;have hk:(Zu (0<=k)&&Zu (k<18446744073709551616))=Zd:=by simp;omega
 have hv:(Zu (x.length<=9223372036854775807)&&Zu (y.length<=9223372036854775807)&&Zu (z.length<=9223372036854775807))=Zd:=by simp;omega
 simp only[A0,zW,MQ,zg,hk,hv];unfold Kerb.aZ;simp only;cases hg:(lb==Kerb.zu);case true =>
  have ht:Kerb.ez lb=Zd:=by simp[Kerb.ez,hg]
  have hl:lb.length=4:=by rw[Qb0 hg];rfl
  simp only[ht,b_,Zb,Bool.false_and];rw[Qa0 (by simp)];cases h1:Zf t 4294967295
  .rfl
  rw[Zb,aF,Qa0 (by simp),Qa1 trivial,ae (by simp;omega)];cases h2:Kerb.bB k
  .rfl
  rw[Zb,aF,Qa0 (by simp)];cases h3:Zf st 4294967295
  .rfl
  rw[Zb,aF];cases h4:Zf en 4294967295
  .rfl
  rw[Zb,aF];cases h5:Zf kv 255
  .rfl
  rw[Zb,aF,Qa0 (by simp)];cases h6:Kerb.bn.valid ⟨x,y,z⟩
  .rfl
  have l1:=Kerb.cV h6;simp only at l1;rw[Zb,aF,Qa0 (by simp)];by_cases h7:255<tk.length
  .rw[af (by simp;omega),Qa1 h7]
  rw[ah (by simp;omega),Qa0 h7];rw[ae (Ww (by simp[Yz,Yf];omega)),ae (by simp[Yz,Yf];omega),ae (by simp[Yz,Yf];omega),ae (by simp[Yz,Yf];omega),ae (by simp[Yz,Yf];omega),ae (by simp[Yz,Yf,Yd];omega),ae (Ww (by simp[Yz,Yf,Yd];omega)),ae (by simp[Yz,Yf,Yd];omega)];simp[Kerb.kh]
 cases Y6:(lb==Kerb.p_);case true =>
  have ht:Kerb.ez lb=Zd:=by simp[Kerb.ez,Y6]
  have hl:lb.length=4:=by rw[Qb0 Y6];rfl
  simp only[ht,b_,aF,Zb,Bool.false_and];rw[Qa0 (by simp)];cases h1:Zf t 4294967295
  .rfl
  rw[Zb,aF,Qa0 (by simp),Qa1 trivial,ae (by simp;omega)];cases h2:Kerb.bB k
  .rfl
  rw[Zb,aF,Qa0 (by simp)];cases h3:Zf st 4294967295
  .rfl
  rw[Zb,aF];cases h4:Zf en 4294967295
  .rfl
  rw[Zb,aF];cases h5:Zf kv 255
  .rfl
  rw[Zb,aF,Qa0 (by simp)];cases h6:Kerb.bn.valid ⟨x,y,z⟩
  .rfl
  have l1:=Kerb.cV h6;simp only at l1;rw[Zb,aF,Qa0 (by simp)];by_cases h7:255<tk.length
  .rw[af (by simp;omega),Qa1 h7]
  rw[ah (by simp;omega),Qa0 h7];rw[ae (Ww (by simp[Yz,Yf];omega)),ae (by simp[Yz,Yf];omega),ae (by simp[Yz,Yf];omega),ae (by simp[Yz,Yf];omega),ae (by simp[Yz,Yf];omega),ae (by simp[Yz,Yf,Yd];omega),ae (Ww (by simp[Yz,Yf,Yd];omega)),ae (by simp[Yz,Yf,Yd];omega)];simp[Kerb.kh]
 have ht:Kerb.ez lb=Xz:=by simp[Kerb.ez,hg,Y6]
 simp only[ht,b_,aF,Bool.not_false,Bool.true_and];cases hc:(lb==Kerb.lH)
 .rfl
 have hl:lb.length=4:=by rw[Qb0 hc];rfl
 rw[Zb,aF,Qa0 (by simp)];cases h1:Zf t 4294967295
 .rfl
 rw[Zb,aF,Qa0 (by simp),Qa0 (by simp),ae (by simp;omega)];by_cases h2:k=0;case neg=>rw[af (by simpa using h2),Qa1 (.inl h2)]
 rw[ah (by simp[h2])];by_cases h3:st=0;case neg=>rw[af (by simpa using h3),Qa1 (.inr (.inl h3))]
 rw[ah (by simp[h3])];by_cases h4:en=0;case neg=>rw[af (by simpa using h4),Qa1 (.inr (.inr (.inl h4)))]
 rw[ah (by simp[h4])];by_cases h5:kv=0;case neg=>rw[af (by simpa using h5),Qa1 (.inr (.inr (.inr (.inl h5))))]
 rw[ah (by simp[h5])];show aE (!(Kerb.bn.Ax ⟨x,y,z⟩)) _ _=_;cases h6:Kerb.bn.Ax ⟨x,y,z⟩
 .rw[Qa1 (.inr (.inr (.inr (.inr (.inl rfl)))))];rfl
 rw[Zb,aF];by_cases h7:tk=[];case neg=>rw[af (by have:=List.length_pos_iff.2 h7;simp;omega),Qa1 (.inr (.inr (.inr (.inr (.inr h7)))))]
 rw[ah (by simp[h7]),Qa0 (by simp[h2,h3,h4,h5,h7]),ae (by simp[Yz];omega)]
theorem w69:Wk 69 4 Oj:=by
 refine cw Tryz.func69 λ_ _ _ h=> ?_;unfold Oj at h;split at h;case h_2=>cases h
 rename_i cx cy cz sx sy sz k t e a;obtain⟨ay,rfl⟩:=dg h;refine c6 (Zv (ld [Xj [Zq cx,Zq cy,Zq cz]] []) (kL λb=>aE (!b) (Zh (Yu [Zj [],Zz AI 103],[])) (Zv (ld [Xj [Zq sx,Zq sy,Zq sz]] []) (kL λb=>aE (!b) (Zh (Yu [Zj [],Zz AI 103],[])) (Zv (Cy [Zz AT k] []) (kI AI λn=>aE (!n==2) (Zh (Yu [Zj [],Zz AI 10],[])) (aE (!Zf t 4294967295) (Zh (Yu [Zj [],Zz AI 104],[])) (aE (!Zf e 4294967295) (Zh (Yu [Zj [],Zz AI 104],[])) (aE (Zu (t>e)) (Zh (Yu [Zj [],Zz AI 104],[])) (aE (!Zf a 4294967295) (Zh (Yu [Zj [],Zz AI 104],[])) (Zv (ko [Zj [],Xj [Zq cx,Zq cy,Zq cz]] []) (kO λl=>Zv (ko [Zj l,Xj [Zq sx,Zq sy,Zq sz]] []) (kO λl=>Zv (nG [Zz AT k] []) (kB λb=>aB (room (Zy l+Zy b) 1) (Zv (fv [Zj (l++b),Zz AI t,Zm Xz] []) (kO λl=>Zv (fv [Zj l,Zz AI e,Zm Xz] []) (kO λl=>Zv (fv [Zj l,Zz AI a,Zm Xz] []) (kO λl=>Zv (jF [Zj l] []) (kO λl=>Zh (Yu [Zj l,Zz AI 0],[])))))))))))))))))))) ?_;delta kB kO kL kI;dsimp only[ld,ko,fv,nG,jF,Cy,aI,aW,aq,cO,ag,bH,dc];simp only[Yk,Qa2] at ay;simp only[A0,Wz,Wv,Kerb.eL.av];unfold Kerb.dL;simp only;rw[ae (by simp;omega)];cases h1:Kerb.bn.valid ⟨cx,cy,cz⟩
 .rfl
 rw[Zb,aF,ae (by simp;omega)];cases h2:Kerb.bn.valid ⟨sx,sy,sz⟩
 .rfl
 rw[Zb,aF,ae (by simp;omega),Qa0 (by simp)];by_cases h3:Kerb.iJ k=2;case neg=>rw[af (by simpa using h3),Qa1 h3]
 rw[ah (by simp[h3]),Qa0 (show ¬ (Kerb.iJ k≠2) by simpa using h3)];have hp4:Kerb.period t e=(Zf t 4294967295&&(Zf e 4294967295&&Zu (t<=e))):=by unfold Kerb.period;rw[Bool.and_assoc]
 rw[hp4];cases h4:Zf t 4294967295
 .rfl
 rw[Zb,aF,Bool.true_and];cases h5:Zf e 4294967295
 .rfl
 rw[Zb,aF,Bool.true_and];by_cases h6:t<=e;case neg=>rw[af (by simp;omega),Qa5 h6];rfl
 rw[ah (by simp;omega),Qa4 h6];cases h7:Zf a 4294967295
 .rfl
 rw[Zb,aF,Qa0 (by simp)];have l1:=Kerb.cV h1;have l2:=Kerb.cV h2;simp only at l1 l2;rw[ae (by simp;omega),ae (by simp[Yd,Yf,Yz,Kerb.dQ];omega),ae (by simp;omega),ae (Ww (by simp[Yd,Yf,Yz,Kerb.dQ];omega)),ae (by simp[Yd,Yf,Yz,Kerb.dQ];omega),ae (by simp[Yd,Yf,Yz,Kerb.dQ];omega),ae (by simp[Yd,Yf,Yz,Kerb.dQ];omega),ae (by simp[Yd,Yf,Yz,Kerb.dQ];omega)]
end Go.Proofs.YteafbgcimcpfiaaGreat
