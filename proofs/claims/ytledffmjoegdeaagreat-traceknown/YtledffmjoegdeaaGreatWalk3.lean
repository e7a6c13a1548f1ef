/- Results of functions. -/
import Derived.Test.YtledffmjoegdeaaGreatTab
set_option linter.all false
open Go.IntKind renaming i64->AI,u64->AT
open Go.Abs.AV renaming int->Zz,str->Zx,bool->Zv,bs->Zp,sl->Zg,bp->Zb,agg->Yz,ay->Yk,fN->Yd,aw->Yn,dt->Xz,undef->Xx
open Option renaming bind->Zy,some->Zn
open Go.IntKind renaming wrap->Zw,i64->Zq
open Bool renaming and_eq_true->Zu,true->Yx,false->Yq
open List renaming length->Zj,getD->Ym
open Prod renaming snd->Zk,fst->Zd
open Decidable renaming decide->Zf
open Nat renaming le_trans->Zm
open Int renaming toNat->Zh
open Kerb.Rd renaming val->Yy,pos->Yw,bad->Yv
open Kerb renaming fV->Yu,im->Yj,aU->Yp,nn->Yf,aP->Yg,eo->Yb,fX->Yh,bytes->Xv,kn->Xu,eH->Xq
open Kerb.Client renaming av->Xy
open Kerb.Cache renaming av->Xw
open Sum renaming inl->Xj
namespace Go.Proofs.YtledffmjoegdeaaGreat
open Go Go.Abs Go.Proofs
set_option maxRecDepth 100000
theorem al9:Wk 239 7 Y':=by
 refine g8 Tryz.func239 λ_ _ _ h=> ?_;unfold Y' at h;split at h;case h_2=>cases h
 rename_i kd k b;obtain⟨aI,rfl⟩:=ja h
 refine jI (aK (kd==1) (Zy (Ol [Zp b] []) (kT λvs=>ar vs λx r=>Xz x λcs=>az cs λb i=>bg i λb e=>bg e λb f=>bg f λb d=>af AI d λn c=>af AT c λn l=>af AI l λt j=>af AI j λu o=>bg o λb m=>bg m λb p=>ak p (af AI r λq r=>ak r (aK (q==0) (Zy (abv [Zz AT n] []) λr=>aE (Zk r) (Yd 1 (Zd r) λb=>Zn (Zb [Zg 1 b,Zg 1 []],[]))) (Zn (Zb [Zg 1 [],Zg 1 []],[])))))) (aK (kd==3) (Zy (OA [Zp b,Zv Yq] []) (kT λvs=>ar vs λx r=>Xz x λcs=>af AT cs λn i=>bg i λv e=>bg e λO f=>bg f λP d=>af AI d λt c=>af AI c λu l=>dg l λE j=>af AI j λq o=>ak o (af AI r λs r=>ak r (aK (!s==0) (Zy (OA [Zp b,Zv Yx] []) (kT λvs=>ar vs λx r=>Xz x λcs=>af AT cs λn m=>bg m λb p=>bg p λb H=>bg H λb G=>af AI G λS D=>af AI D λR C=>dg C λb B=>af AI B λQ A=>ak A (af AI r λF r=>ak r (aK (F==0) (Zy (abv [Zz AT n] []) λr=>aE (Zk r) (Yd 1 (Zd r) λw=>Zy (DS [Zg 1 [Zp b]] []) λr=>aE (Zk r) (Yd 1 (Zd r) λb=>Zn (Zb [Zg 1 w,Zg 1 b],[])))) (Zn (Zb [Zg 1 [],Zg 1 []],[])))))) (aK (s==0) (Zy (abv [Zz AT n] []) λr=>aE (Zk r) (Yd 1 (Zd r) λb=>Zy (DS [Zg 1 [Zp E]] []) λr=>aE (Zk r) (Yd 1 (Zd r) λw=>Zn (Zb [Zg 1 b,Zg 1 w],[])))) (Zn (Zb [Zg 1 [],Zg 1 []],[]))))))) (aK (kd==7) (Zy (ZE [Zp b] []) (kT λvs=>ar vs λx r=>Xz x λcs=>bg cs λb i=>af AI i λn e=>af AI e λn f=>af AI f λn d=>af AT d λn c=>ak c (af AI r λt r=>ak r (aK (t==0) (Zy (abv [Zz AT n] []) λr=>aE (Zk r) (Yd 1 (Zd r) λb=>Zn (Zb [Zg 1 b,Zg 1 []],[]))) (Zn (Zb [Zg 1 [],Zg 1 []],[])))))) (aK (kd==8) (Zy (ZF [Zp b] []) (kT λvs=>ar vs λx r=>Xz x λcs=>bg cs λb i=>af AI i λn e=>af AT e λn f=>af AI f λt d=>af AI d λu c=>af AI c λq l=>bg l λb j=>bg j λb o=>bg o λb m=>dg m λb p=>ak p (af AI r λs r=>ak r (aK (s==0) (Zy (abv [Zz AT n] []) λr=>aE (Zk r) (Yd 1 (Zd r) λv=>Zy (DS [Zg 1 [Zp b]] []) λr=>aE (Zk r) (Yd 1 (Zd r) λb=>Zn (Zb [Zg 1 v,Zg 1 b],[])))) (Zn (Zb [Zg 1 [],Zg 1 []],[])))))) (aK (kd==9) (Zy (xu [Zp b] []) (kT λvs=>ar vs λx r=>Xz x λcs=>bg cs λb i=>bg i λb e=>bg e λb f=>bg f λb d=>bg d λb c=>bg c λb l=>af AT l λn j=>af AI j λt o=>af AI o λu m=>af AI m λq p=>ak p (af AI r λs r=>ak r (aK (s==0) (Zy (abv [Zz AT n] []) λr=>aE (Zk r) (Yd 1 (Zd r) λb=>Zn (Zb [Zg 1 b,Zg 1 []],[]))) (Zn (Zb [Zg 1 [],Zg 1 []],[])))))) (aK (kd==10) (Zy (ZG [Zp b] []) (kT λvs=>ar vs λx r=>Xz x λcs=>af AT cs λn i=>bg i λb e=>bg e λb f=>bg f λb d=>af AI d λt c=>af AI c λu l=>dg l λb j=>ak j (af AI r λq r=>ak r (aK (q==0) (Zy (abv [Zz AT n] []) λr=>aE (Zk r) (Yd 1 (Zd r) λv=>Zy (DS [Zg 1 [Zp b]] []) λr=>aE (Zk r) (Yd 1 (Zd r) λb=>Zn (Zb [Zg 1 v,Zg 1 b],[])))) (Zn (Zb [Zg 1 [],Zg 1 []],[])))))) (Zn (Zb [Zg 1 [],Zg 1 []],[])))))))) ?_
 delta kT;dsimp only[Ol,abv,DS,OA,ZE,ZF,xu,ZG,bg,dg,az,lR,af,eg,jM];have hb:=Qa3 aI;have N:Zf (b.length<=140737488355328)=Yx:=by simp;omega
 have k1:=Kerb.iw b;have k2:=Kerb.k_ b;have L:=Kerb.gx b;have K:=Kerb.iH b;have J:=Kerb.vf b;have I:=Kerb.ud b;have t2:=Kerb.lW b;have t4:=Kerb.jb b;have t6:=Kerb.k9 b;have u2:∀ li,(Kerb.aX b li).val.aB.length<=70368744177664:=λli=>Zm (t2 li) (by omega);have z:(Kerb.aV b).val.aB.length<=70368744177664:=Zm t4 (by omega);have y:(Kerb.bA b).val.record.length<=70368744177664:=Zm t6 (by omega);simp only[A0,Xy,Xw,Kerb.jj.av,N,k1,k2,L,K,J,I,Qb3,Bool.and_self,Kerb.vy (u2 _),Kerb.vy z,Kerb.vy y];unfold Kerb.h_;simp only;by_cases a:kd=1
 .rw[ae (by simpa using a),Qa1 a];by_cases g:(Kerb.aW b).err=0
  .rw[ae (by simpa using g),Qa1 g];rfl
  .rw[ai (by simpa using g),Qa0 g];rfl
 rw[ai (by simpa using a),Qa0 a];clear a;by_cases a:kd=3
 .rw[ae (by simpa using a),Qa1 a];by_cases g:(Kerb.aX b Yq).err=0
  .simp only[g,Qb1,Bool.not_true,eA,gO,if_true];rfl
  .have M:((Kerb.aX b Yq).err==0)=Yq:=by simpa using g
   simp only[M,Bool.not_false,gO,Qa0 g];by_cases g2:(Kerb.aX b Yx).err=0
   .rw[ae (by simpa using g2),Qa1 g2];rfl
   .rw[ai (by simpa using g2),Qa0 g2];rfl
 rw[ai (by simpa using a),Qa0 a];clear a;by_cases a:kd=7
 .rw[ae (by simpa using a),Qa1 a];by_cases g:(Kerb.ck b).err=0
  .rw[ae (by simpa using g),Qa1 g];rfl
  .rw[ai (by simpa using g),Qa0 g];rfl
 rw[ai (by simpa using a),Qa0 a];clear a;by_cases a:kd=8
 .rw[ae (by simpa using a),Qa1 a];by_cases g:(Kerb.aV b).err=0
  .rw[ae (by simpa using g),Qa1 g];rfl
  .rw[ai (by simpa using g),Qa0 g];rfl
 rw[ai (by simpa using a),Qa0 a];clear a;by_cases a:kd=9
 .rw[ae (by simpa using a),Qa1 a];by_cases g:(Kerb.bz b).err=0
  .rw[ae (by simpa using g),Qa1 g];rfl
  .rw[ai (by simpa using g),Qa0 g];rfl
 rw[ai (by simpa using a),Qa0 a];clear a;by_cases a:kd=10
 .rw[ae (by simpa using a),Qa1 a];by_cases g:(Kerb.bA b).err=0
  .rw[ae (by simpa using g),Qa1 g];rfl
  .rw[ai (by simpa using g),Qa0 g];rfl
 rw[ai (by simpa using a),Qa0 a];clear a;rfl
theorem anL:Nr Tryz.prog G 395 7 [.sl 1,.int AI,.int AI,.int AI] abl:=by
 refine⟨λxs bl=> ?_,Tryz.f395,Tryz.func395,by decide +kernel,rfl,λP xs bl r h=> ?_⟩
 .cases h:abl 0 xs bl with
  | none=>rfl
  | some r =>
   unfold abl at h;split at h
   .obtain⟨aI,_⟩:=aC h;simp only[Zu,Qa2] at aI;omega
   .cases h
 unfold abl at h;split at h
 .rename_i a b l els;obtain⟨aI,h2⟩:=aC h;cases h2;show rV ((G.cut 395 7 [.sl 1,.int AI,.int AI,.int AI] (abl P)).env 395 8) G.rts (G.own 395) Tryz.f395 _ _ [0]=_
  refine Qb2 (b:=(Zy (bh (λst=>ar st λx r=>AV.aS x λy=>af AI r λn r=>af AI r λw r=>af AI r λW r=>az r λb r=>az r λdS r=>ak r (aK (Zf (Zw AI (w-n)<=12)) (Zy (adz [AV.bL 0 61 1,Zz AI n,Zz AI w] [(0,y)]) λ(r:AV×aO)=>aJ (Zk r) λ(x:List AV) (C:List (List AV))=>aE C (AV.gJ (Zd r) λvs=>ak vs (Zn (Sum.inr (Ex.ret,[Yk x,Zz AI n,Zz AI w,Zz AI W,Zv b,Zv dS]))))) (aK (W==0) (Zy (adT [AV.bL 0 61 1,Zz AI n,Zz AI w] [(0,y)]) λ(r:AV×aO)=>aJ (Zk r) λ(x:List AV) (C:List (List AV))=>aE C (AV.gJ (Zd r) λvs=>ak vs (Zn (Sum.inr (Ex.ret,[Yk x,Zz AI n,Zz AI w,Zz AI W,Zv b,Zv dS]))))) (Zy (aK (!b) (Zy (adU [AV.bL 0 61 1,Zz AI n,Zz AI w] [(0,y)]) λ(r:AV×aO)=>aJ (Zk r) λ(x:List AV) (C:List (List AV))=>aE C (AV.gJ (Zd r) λvs=>ak vs (Zn [Yk x,Zz AI n,Zz AI w,Zz AI (Zw AI (W-1)),Zv b,Zv dS,Zz AI (Zw AI (w-n))]))) (Zn [Yk y,Zz AI n,Zz AI w,Zz AI W,Zv b,Zv dS,Zz AI (Zw AI (w-n))])) λl=>ar l λx r=>AV.aS x λy=>af AI r λn r=>af AI r λV r=>af AI r λcE r=>az r λb r=>az r λkj r=>af AI r λcg r=>ak r (Zy (aea [AV.bL 0 61 1,Zz AI n,Zz AI V] [(0,y)]) λ(r:AV×aO)=>aJ (Zk r) λ(x:List AV) (C:List (List AV))=>aE C (AV.gJ (Zd r) λvs=>ar vs λx_1 r=>Yn AI x_1 λgH=>ar r λx_2 r=>Yn AI x_2 λgI=>ak r (Zy (aK (gI==2) (Zy (aeo [AV.bL 0 61 1,Zz AI n,Zz AI V] [(0,x)]) λ(r:AV×aO)=>aJ (Zk r) λ(x:List AV) (k:List (List AV))=>aE k (AV.gJ (Zd r) λvs=>ak vs (Zn [Yk x,Zz AI n,Zz AI V,Zz AI cE,Zv b,Zv kj,Zz AI cg,Zz AI (Zw AI (Zw AI (V-1)-Zw AI (gH-n))),Zz AI 1]))) (Zn [Yk x,Zz AI n,Zz AI V,Zz AI cE,Zv b,Zv kj,Zz AI cg,Zz AI gH,Zz AI gI])) λl=>ar l λx r=>AV.aS x λy=>af AI r λn r=>af AI r λke r=>af AI r λpK r=>az r λb r=>az r λY r=>af AI r λqE r=>af AI r λjS r=>af AI r λlS r=>ak r (Zy (aK b (aK Y (Zn [Yk y,Zz AI n,Zz AI ke,Zz AI pK,Zv b,Zv Y,Zz AI qE,Zz AI jS,Zv (lS==1)]) (Zn [Yk y,Zz AI n,Zz AI ke,Zz AI pK,Zv b,Zv Y,Zz AI qE,Zz AI jS,Zv Yq])) (Zn [Yk y,Zz AI n,Zz AI ke,Zz AI pK,Zv b,Zv Y,Zz AI qE,Zz AI jS,Zv Yq])) λl=>ar l λx r=>AV.aS x λy=>af AI r λn r=>af AI r λZ r=>af AI r λbB r=>az r λb r=>az r λlN r=>af AI r λju r=>af AI r λM r=>az r λnG r=>ak r (aK nG (Zy (Zy (aet [AV.bL 0 61 1,Zz AI n,Zz AI Z] [(0,y)]) λ(r:AV×aO)=>aJ (Zk r) λ(x:List AV) (k:List (List AV))=>aE k (AV.dw (Zd r) λL=>Zn [Yk x,Zz AI n,Zz AI Z,Zz AI bB,Zv b,Zv lN,Zz AI ju,Zz AI M,Zv L])) λl=>ar l λx r=>AV.aS x λy=>af AI r λn r=>af AI r λo r=>af AI r λu r=>az r λb r=>az r λL r=>af AI r λU r=>af AI r λA r=>az r λnK r=>ak r (aK nK (Zn (Sum.inr (Ex.ret,[Yk y,Zz AI n,Zz AI o,Zz AI u,Zv b,Zv L]))) (Zy (aK (Zf (n>0)) (ax (Zf (0<=Zw AI (n-1))&&Zf (Zw AI (n-1)<(Zj y:Int))&&Yx) (ax (Nat.blt (Zh (Zw AI (n-1))) (Zj y)&&Yx) (Yn AT (Ym y (Zh (Zw AI (n-1))) Xx) λg=>ax (Zf (0<=A)&&Zf (A<(Zj y:Int))&&Yx) (ax (Nat.blt (Zh A) (Zj y)&&Yx) (Yn AT (Ym y (Zh A) Xx) λI=>Zn [Yk y,Zz AI n,Zz AI o,Zz AI u,Zv b,Zv L,Zz AI U,Zz AI A,Zv !Zf (g<I)]))))) (Zn [Yk y,Zz AI n,Zz AI o,Zz AI u,Zv b,Zv L,Zz AI U,Zz AI A,Zv Yq])) λl=>ar l λx r=>AV.aS x λy=>af AI r λn r=>af AI r λg r=>af AI r λI r=>az r λb r=>az r λuK r=>af AI r λTd r=>af AI r λTe r=>az r λwG r=>ak r (aK wG (Zy (adn [AV.bL 0 61 1,Zz AI n,Zz AI g,Zz AI Te] [(0,y)]) λ(r:AV×aO)=>aJ (Zk r) λ(x:List AV) (k:List (List AV))=>aE k (Yn AI (Zd r) λn=>Zn (Xj [Yk x,Zz AI n,Zz AI g,Zz AI I,Zv b,Zv uK]))) (Zy (ado [AV.bL 0 61 1,Zz AI n,Zz AI g,Zz AI Te] [(0,y)]) λ(r:AV×aO)=>aJ (Zk r) λ(x:List AV) (k:List (List AV))=>aE k (AV.gJ (Zd r) λvs=>ar vs λx_3 r=>Yn AI x_3 λH=>ar r λx_4 r=>AV.dw x_4 λb=>ak r (aK (Zf (Zw AI (H-n)<Zw AI (g-H))) (Zy (abl P [AV.bL 0 61 1,Zz AI n,Zz AI H,Zz AI I] [(0,x)]) λ(r:AV×aO)=>aJ (Zk r) λ(x:List AV) (B:List (List AV))=>aE B (AV.gJ (Zd r) λvs=>ak vs (Zn (Xj [Yk x,Zz AI (Zw AI (H+1)),Zz AI g,Zz AI I,Zv (Zf (Zw AI (H-n)>=Zw AI (Int.tdiv Td 8))),Zv b])))) (Zy (abl P [AV.bL 0 61 1,Zz AI (Zw AI (H+1)),Zz AI g,Zz AI I] [(0,x)]) λ(r:AV×aO)=>aJ (Zk r) λ(x:List AV) (B:List (List AV))=>aE B (AV.gJ (Zd r) λvs=>ak vs (Zn (Xj [Yk x,Zz AI n,Zz AI H,Zz AI I,Zv (Zf (Zw AI (g-H)>=Zw AI (Int.tdiv Td 8))),Zv b]))))))))))) (Zy (aK (Zf (n>0)) (ax (Zf (0<=Zw AI (n-1))&&Zf (Zw AI (n-1)<(Zj y:Int))&&Yx) (ax (Nat.blt (Zh (Zw AI (n-1))) (Zj y)&&Yx) (Yn AT (Ym y (Zh (Zw AI (n-1))) Xx) λo=>ax (Zf (0<=M)&&Zf (M<(Zj y:Int))&&Yx) (ax (Nat.blt (Zh M) (Zj y)&&Yx) (Yn AT (Ym y (Zh M) Xx) λu=>Zn [Yk y,Zz AI n,Zz AI Z,Zz AI bB,Zv b,Zv lN,Zz AI ju,Zz AI M,Zv !Zf (o<u)]))))) (Zn [Yk y,Zz AI n,Zz AI Z,Zz AI bB,Zv b,Zv lN,Zz AI ju,Zz AI M,Zv Yq])) λl=>ar l λx r=>AV.aS x λy=>af AI r λn r=>af AI r λo r=>af AI r λu r=>az r λb r=>az r λL r=>af AI r λU r=>af AI r λA r=>az r λnK r=>ak r (aK nK (Zy (adn [AV.bL 0 61 1,Zz AI n,Zz AI o,Zz AI A] [(0,y)]) λ(r:AV×aO)=>aJ (Zk r) λ(x:List AV) (k:List (List AV))=>aE k (Yn AI (Zd r) λn=>Zn (Xj [Yk x,Zz AI n,Zz AI o,Zz AI u,Zv b,Zv L]))) (Zy (ado [AV.bL 0 61 1,Zz AI n,Zz AI o,Zz AI A] [(0,y)]) λ(r:AV×aO)=>aJ (Zk r) λ(x:List AV) (k:List (List AV))=>aE k (AV.gJ (Zd r) λvs=>ar vs λx_3 r=>Yn AI x_3 λg=>ar r λx_4 r=>AV.dw x_4 λb=>ak r (aK (Zf (Zw AI (g-n)<Zw AI (o-g))) (Zy (abl P [AV.bL 0 61 1,Zz AI n,Zz AI g,Zz AI u] [(0,x)]) λ(r:AV×aO)=>aJ (Zk r) λ(x:List AV) (B:List (List AV))=>aE B (AV.gJ (Zd r) λvs=>ak vs (Zn (Xj [Yk x,Zz AI (Zw AI (g+1)),Zz AI o,Zz AI u,Zv (Zf (Zw AI (g-n)>=Zw AI (Int.tdiv U 8))),Zv b])))) (Zy (abl P [AV.bL 0 61 1,Zz AI (Zw AI (g+1)),Zz AI o,Zz AI u] [(0,x)]) λ(r:AV×aO)=>aJ (Zk r) λ(x:List AV) (B:List (List AV))=>aE B (AV.gJ (Zd r) λvs=>ak vs (Zn (Xj [Yk x,Zz AI n,Zz AI g,Zz AI u,Zv (Zf (Zw AI (o-g)>=Zw AI (Int.tdiv U 8))),Zv b])))))))))))))))))) [Yk els,Zz AI a,Zz AI b,Zz AI l,Zv Yx,Zv Yx]) λ(r:Ex×List AV)=>ar (Zk r) λx C=>AV.aS x λy=>af AI C λn k=>af AI k λn B=>af AI B λn gZ=>az gZ λb jo=>az jo λb kg=>ak kg (kJ r.1 (Zn (Zb [],[y])) λ(j:Nat)=>none):Option (AV×aO))) (by kernel_rfl) ?_
  dsimp only[abl,adz,adT,adU,aea,aeo,aet,adn,ado,bg,dg,az,lR,af,eg,jM];simp only[Yf,Zu,Qa2] at aI;obtain⟨⟨⟨⟨⟨⟨⟨hZ,hlen⟩,Lj⟩,T⟩,hb⟩,HV⟩,E⟩,N⟩:=aI;obtain⟨d,rfl,hd⟩:=Kerb.nr hZ;simp only[Yp] at hlen hb;obtain⟨a,rfl⟩:=Int.eq_ofNat_of_zero_le (show 0<=a by omega);obtain⟨b,rfl⟩:=Int.eq_ofNat_of_zero_le (show 0<=b by omega);obtain⟨l,rfl⟩:=Int.eq_ofNat_of_zero_le (show 0<=l by omega);rw[Kerb.sS];obtain⟨P0,hP⟩:∃ P0,P0=Go.Sort.pdq Go.Sort.ltInt d a b l Yx Yx:=⟨_,rfl⟩;rw[<-hP];refine bS (λs:Array Int×Nat×Nat×Nat×Bool×Bool=>[Yk (Kerb.back s.1),Zz AI (s.2.1:Int),Zz AI (s.2.2.1:Int),Zz AI (s.2.2.2.1:Int),Zv s.2.2.2.2.1,Zv s.2.2.2.2.2]) (λs=>s.1.size=d.size/\s.2.1<=s.2.2.1/\s.2.2.1<=d.size/\s.2.2.2.1<=64/\s.2.2.1-s.2.1<=P/\Go.Sort.pdq Go.Sort.ltInt s.1 s.2.1 s.2.2.1 s.2.2.2.1 s.2.2.2.2.1 s.2.2.2.2.2=P0) (λs=>s.2.2.1-s.2.1) (λr=>∃ n1 n2 n3 b1 b2,r=(.ret,[Yk (Kerb.back P0),Zz AI n1,Zz AI n2,Zz AI n3,Zv b1,Zv b2])) (d,a,b,l,Yx,Yx) ⟨rfl,by dsimp only;omega,by dsimp only;omega,by dsimp only;omega,by dsimp only;omega,hP.symm⟩ rfl ?_ ?_
  .clear hP T HV E N Lj hb;rintro⟨e,a,b,l,t,z⟩ ⟨hs,T,hb,hl,N,hr⟩;dsimp only at hs T hb hl N hr ⊢;simp only[↓bW,↓cG,↓dx,↓dP,↓dA];rw[show Zw AI ((b:Int)-(a:Int))=((b-a:Nat):Int) from(Yj (by omega) (by omega)).trans (by omega)];rw[Kerb.AF] at hr;by_cases Ks:b-a<=12
   .rw[Qa1 Ks] at hr;rw[ae (by simp;omega),aq (by simp only[Yf,Yb,Yp,Zu,Qa2,Qa9,Qa8];omega)];simp only[↓gu,↓fB,↓bW,↓cG,↓hU,↓lT,↓dx,↓dP,↓dA];rw[Kerb.SL,hr];exact⟨_,rfl,_,_,_,_,_,rfl⟩
   rw[Qa0 Ks] at hr;rw[ai (by simp;omega)];by_cases HV:l=0
   .rw[Qa1 HV] at hr;rw[ae (by simp;omega),aq (by simp only[Yf,Yb,Yp,Zu,Qa2,Qa9,Qa8];omega)];simp only[↓gu,↓fB,↓bW,↓cG,↓hU,↓lT,↓dx,↓dP,↓dA];rw[Kerb.Ps,hr];exact⟨_,rfl,_,_,_,_,_,rfl⟩
   rw[Qa0 HV] at hr;rw[ai (by simp;omega)];obtain⟨d1,J⟩:∃ d1,d1=(if (!t)=Yx then Go.Sort.breakPatterns e a b else e):=⟨_,rfl⟩;obtain⟨l1,E⟩:∃ l1,l1=(if (!t)=Yx then l-1 else l):=⟨_,rfl⟩;rw[<-J,<-E] at hr;refine Kerb.yQ (v:=[Yk (Kerb.back d1),Zz AI (a:Int),Zz AI (b:Int),Zz AI (l1:Int),Zv t,Zv z,Zz AI ((b-a:Nat):Int)]) ?_ ?_
   .cases t
    .rw[Qa1 (show(!Yq)=Yx from rfl)] at J E;rw[ae (show(!Yq)=Yx from rfl),aq (by simp only[Yf,Yb,Yp,Zu,Qa2,Qa9,Qa8];omega)];simp only[↓gu,↓fB,↓bW,↓cG,↓hU,↓lT,↓dx,↓dP,↓dA];rw[Kerb.Lz,J,E,show Zw AI ((l:Int)-1)=((l-1:Nat):Int) from(Yj (by omega) (by omega)).trans (by omega)]
    .rw[Qa0 (by decide)] at J E;rw[ai (show(!Yx)=Yq from rfl),J,E]
   have s1:d1.size=d.size:=by
    rw[J];split
    .rw[Kerb.Cl T (by omega),hs]
    .exact hs
   have arl:l1<=64:=by
    rw[E];split<;>omega
   clear J E;simp only[↓bW,↓cG,↓dx,↓dP,↓dA];rw[aq (by simp only[Yf,Yb,Yp,Zu,Qa2,Qa9,Qa8];omega)];simp only[↓gu,↓fB,↓bW,↓cG,↓hU,↓lT,↓dx,↓dP,↓dA];rw[Kerb.Qi];unfold Kerb.Sl at hr;have hc:=Go.Sort.choosePivot_holds Go.Sort.ltInt d1 a b (by omega);generalize Go.Sort.choosePivot Go.Sort.ltInt d1 a b=c at hc hr ⊢;obtain⟨d2,QU⟩:∃ d2,d2=(if c.2 = .decreasing then Go.Sort.reverseRange d1 a b else d1):=⟨_,rfl⟩;obtain⟨i,F⟩:∃ i,i=(if c.2 = .decreasing then(b-1)-(c.1-a) else c.1):=⟨_,rfl⟩;obtain⟨ht,Q⟩:∃ ht,ht=(if c.2 = .decreasing then Go.Sort.Hint.increasing else c.2):=⟨_,rfl⟩;rw[<-QU,<-F,<-Q] at hr;refine Kerb.yQ (v:=[Yk (Kerb.back d2),Zz AI (a:Int),Zz AI (b:Int),Zz AI (l1:Int),Zv t,Zv z,Zz AI ((b-a:Nat):Int),Zz AI (i:Int),Zz AI (Kerb.Jn ht)]) ?_ ?_
   .rw[Kerb.Pv];by_cases hd:c.2 = .decreasing
    .rw[Qa1 hd] at QU F Q;rw[ae (by simpa using hd),aq (by simp only[Yf,Yb,Yp,Zu,Qa2,Qa9,Qa8];omega)];simp only[↓gu,↓fB,↓bW,↓cG,↓hU,↓lT,↓dx,↓dP,↓dA];rw[Kerb.Tz,QU,F,Q,show Zw AI ((b:Int)-1)=((b-1:Nat):Int) from(Yj (by omega) (by omega)).trans (by omega),show Zw AI ((c.1:Int)-(a:Int))=((c.1-a:Nat):Int) from(Yj (by omega) (by omega)).trans (by omega),show Zw AI (((b-1:Nat):Int)-((c.1-a:Nat):Int))=((b-1-(c.1-a):Nat):Int) from(Yj (by omega) (by omega)).trans (by omega)];rfl
    .rw[Qa0 hd] at QU F Q;rw[ai (by simpa using hd),QU,F,Q]
   have s2:d2.size=d.size:=by
    rw[QU];split
    .rw[Kerb.Ko T (by omega),s1]
    .exact s1
   have S:a<=i:=by
    rw[F];split<;>omega
   have R:i<b:=by
    rw[F];split<;>omega
   clear QU F Q;simp only[↓bW,↓cG,↓dx,↓dP,↓dA];obtain⟨q,hq⟩:∃ q,q=(t&&z&&Zf (ht = .increasing)):=⟨_,rfl⟩;unfold Kerb.ab1 at hr;rw[<-hq] at hr;refine Kerb.yQ (v:=[Yk (Kerb.back d2),Zz AI (a:Int),Zz AI (b:Int),Zz AI (l1:Int),Zv t,Zv z,Zz AI ((b-a:Nat):Int),Zz AI (i:Int),Zv q]) ?_ ?_
   .rw[hq,Kerb.Pw];cases t<;>cases z<;>simp[aK]
   simp only[↓bW,↓cG,↓dx,↓dP,↓dA];by_cases T4:q=Yx
   .simp only[Qa1 T4] at hr;rw[ae T4,aq (by simp only[Yf,Yb,Yp,Zu,Qa2,Qa9,Qa8];omega)];simp only[↓gu,↓fB,↓bW,↓cG,↓hU,↓lT,↓dx,↓dP,↓dA];rw[Kerb.Kb];have s3:(Go.Sort.partialInsertionSort Go.Sort.ltInt d2 a b).1.size=d.size:=by
     unfold Go.Sort.partialInsertionSort;rw[Kerb.uj,s2]
    generalize Go.Sort.partialInsertionSort Go.Sort.ltInt d2 a b=pi at s3 hr ⊢;obtain⟨d3,dn⟩:=pi;dsimp only at s3 hr ⊢;by_cases TX:dn=Yx
    .rw[Qa1 TX] at hr;rw[ae TX,hr];exact⟨_,rfl,_,_,_,_,_,rfl⟩
    rw[Qa0 TX] at hr;rw[ai (by simpa using TX)];have f:=hr;obtain⟨cB,K⟩:∃ cB,cB=(Zf (a>0) && !Go.Sort.ltInt d3[a-1]! d3[i]!):=⟨_,rfl⟩;rw[Kerb.D9 S R (by omega),<-K] at f;refine Kerb.yQ (v:=[Yk (Kerb.back d3),Zz AI (a:Int),Zz AI (b:Int),Zz AI (l1:Int),Zv t,Zv z,Zz AI ((b-a:Nat):Int),Zz AI (i:Int),Zv cB]) ?_ ?_
    .by_cases X:a>0
     .have g1:a-1<d3.size:=by omega
      have g2:i<d3.size:=by omega
      rw[ae (by simp;omega)];simp only[show Zw AI ((a:Int)-1)=((a-1:Nat):Int) from(Yj (by omega) (by omega)).trans (by omega)];rw[Kerb.rd g1,Kerb.rd g2,K];simp[X,Go.Sort.ltInt]
     .rw[ai (by simp;omega),K];simp[X]
    simp only[↓bW,↓cG,↓dx,↓dP,↓dA];by_cases D:cB=Yx
    .rw[Qa1 D] at f;rw[ae D,aq (by simp only[Yf,Yb,Yp,Zu,Qa2,Qa9,Qa8];omega)];simp only[↓gu,↓fB,↓bW,↓cG,↓hU,↓lT,↓dx,↓dP,↓dA];rw[Kerb.xZ];have e:=Kerb.pP S R (show b<=d3.size by omega);generalize Go.Sort.partitionEqual Go.Sort.ltInt d3 a b i=x at e f ⊢;exact⟨_,rfl,(x.2,x.1,b,l1,t,z),rfl,⟨by dsimp only;omega,by dsimp only;omega,by dsimp only;omega,by dsimp only;omega,by dsimp only;omega,f⟩,by dsimp only;omega⟩
    rw[Qa0 D] at f;rw[ai (by simpa using D),aq (by simp only[Yf,Yb,Yp,Zu,Qa2,Qa9,Qa8];omega)];simp only[↓gu,↓fB,↓bW,↓cG,↓hU,↓lT,↓dx,↓dP,↓dA];simp only[Kerb.Dr];have p:=Kerb.tU S R (show b<=d3.size by omega);generalize Go.Sort.partition Go.Sort.ltInt d3 a b i=x at p f ⊢;obtain⟨m,ap,d4⟩:=x;dsimp only at p f ⊢;obtain⟨p1,p2,p3⟩:=p;rw[show Zw AI ((m:Int)-(a:Int))=((m-a:Nat):Int) from(Yj (by omega) (by omega)).trans (by omega),show Zw AI ((b:Int)-(m:Int))=((b-m:Nat):Int) from(Yj (by omega) (by omega)).trans (by omega)];have ht:Zw AI (Int.tdiv ((b-a:Nat):Int) 8)=(((b-a) / 8:Nat):Int):=Yj (n:=(((b-a) / 8:Nat):Int)) (by omega) (by omega);simp only[show Zw AI ((m:Int)+1)=((m+1:Nat):Int) from(Yj (by omega) (by omega)).trans (by omega),ht];by_cases hm:m-a<b-m
    .rw[Qa1 hm] at f;rw[ae (by simp;omega),aq (by simp only[Yf,Yb,Yp,Zu,Qa2,Qa9,Qa8];omega)];simp only[↓gu,↓fB,↓bW,↓cG,↓hU,↓lT,↓dx,↓dP,↓dA];simp only[Kerb.sS];have O:=Kerb.vE _ d4 a m l1 Yx Yx (Nat.le_refl _) p1 (by omega);generalize Go.Sort.pdq Go.Sort.ltInt d4 a m l1 Yx Yx=d5 at O f ⊢;refine⟨_,rfl,(d5,m+1,b,l1,Zf (m-a>=(b-a) / 8),ap),?_,⟨by dsimp only;omega,by dsimp only;omega,by dsimp only;omega,by dsimp only;omega,by dsimp only;omega,f⟩,by dsimp only;omega⟩;dsimp only;rw[show(Zf (((m-a:Nat):Int)>=(((b-a) / 8:Nat):Int)))=Zf (m-a>=(b-a) / 8) from decide_eq_decide.mpr (by omega)]
    .rw[Qa0 hm] at f;rw[ai (by simp;omega),aq (by simp only[Yf,Yb,Yp,Zu,Qa2,Qa9,Qa8];omega)];simp only[↓gu,↓fB,↓bW,↓cG,↓hU,↓lT,↓dx,↓dP,↓dA];simp only[Kerb.sS];have O:=Kerb.vE _ d4 (m+1) b l1 Yx Yx (Nat.le_refl _) (by omega) (by omega);generalize Go.Sort.pdq Go.Sort.ltInt d4 (m+1) b l1 Yx Yx=d5 at O f ⊢;refine⟨_,rfl,(d5,a,m,l1,Zf (b-m>=(b-a) / 8),ap),?_,⟨by dsimp only;omega,by dsimp only;omega,by dsimp only;omega,by dsimp only;omega,by dsimp only;omega,f⟩,by dsimp only;omega⟩;dsimp only;rw[show(Zf (((b-m:Nat):Int)>=(((b-a) / 8:Nat):Int)))=Zf (b-m>=(b-a) / 8) from decide_eq_decide.mpr (by omega)]
   .simp only[Qa0 T4] at hr;rw[Qa0 (by decide)] at hr;rw[ai (by simpa using T4)];have s3:=s2;revert hr s3;generalize d2=d3;intro f s3;obtain⟨cB,K⟩:∃ cB,cB=(Zf (a>0) && !Go.Sort.ltInt d3[a-1]! d3[i]!):=⟨_,rfl⟩;rw[Kerb.D9 S R (by omega),<-K] at f;refine Kerb.yQ (v:=[Yk (Kerb.back d3),Zz AI (a:Int),Zz AI (b:Int),Zz AI (l1:Int),Zv t,Zv z,Zz AI ((b-a:Nat):Int),Zz AI (i:Int),Zv cB]) ?_ ?_
    .by_cases X:a>0
     .have g1:a-1<d3.size:=by omega
      have g2:i<d3.size:=by omega
      rw[ae (by simp;omega)];simp only[show Zw AI ((a:Int)-1)=((a-1:Nat):Int) from(Yj (by omega) (by omega)).trans (by omega)];rw[Kerb.rd g1,Kerb.rd g2,K];simp[X,Go.Sort.ltInt]
     .rw[ai (by simp;omega),K];simp[X]
    simp only[↓bW,↓cG,↓dx,↓dP,↓dA];by_cases D:cB=Yx
    .rw[Qa1 D] at f;rw[ae D,aq (by simp only[Yf,Yb,Yp,Zu,Qa2,Qa9,Qa8];omega)];simp only[↓gu,↓fB,↓bW,↓cG,↓hU,↓lT,↓dx,↓dP,↓dA];rw[Kerb.xZ];have e:=Kerb.pP S R (show b<=d3.size by omega);generalize Go.Sort.partitionEqual Go.Sort.ltInt d3 a b i=x at e f ⊢;exact⟨_,rfl,(x.2,x.1,b,l1,t,z),rfl,⟨by dsimp only;omega,by dsimp only;omega,by dsimp only;omega,by dsimp only;omega,by dsimp only;omega,f⟩,by dsimp only;omega⟩
    rw[Qa0 D] at f;rw[ai (by simpa using D),aq (by simp only[Yf,Yb,Yp,Zu,Qa2,Qa9,Qa8];omega)];simp only[↓gu,↓fB,↓bW,↓cG,↓hU,↓lT,↓dx,↓dP,↓dA];simp only[Kerb.Dr];have p:=Kerb.tU S R (show b<=d3.size by omega);generalize Go.Sort.partition Go.Sort.ltInt d3 a b i=x at p f ⊢;obtain⟨m,ap,d4⟩:=x;dsimp only at p f ⊢;obtain⟨p1,p2,p3⟩:=p;rw[show Zw AI ((m:Int)-(a:Int))=((m-a:Nat):Int) from(Yj (by omega) (by omega)).trans (by omega),show Zw AI ((b:Int)-(m:Int))=((b-m:Nat):Int) from(Yj (by omega) (by omega)).trans (by omega)];have ht:Zw AI (Int.tdiv ((b-a:Nat):Int) 8)=(((b-a) / 8:Nat):Int):=Yj (n:=(((b-a) / 8:Nat):Int)) (by omega) (by omega);simp only[show Zw AI ((m:Int)+1)=((m+1:Nat):Int) from(Yj (by omega) (by omega)).trans (by omega),ht];by_cases hm:m-a<b-m
    .rw[Qa1 hm] at f;rw[ae (by simp;omega),aq (by simp only[Yf,Yb,Yp,Zu,Qa2,Qa9,Qa8];omega)];simp only[↓gu,↓fB,↓bW,↓cG,↓hU,↓lT,↓dx,↓dP,↓dA];simp only[Kerb.sS];have O:=Kerb.vE _ d4 a m l1 Yx Yx (Nat.le_refl _) p1 (by omega);generalize Go.Sort.pdq Go.Sort.ltInt d4 a m l1 Yx Yx=d5 at O f ⊢;refine⟨_,rfl,(d5,m+1,b,l1,Zf (m-a>=(b-a) / 8),ap),?_,⟨by dsimp only;omega,by dsimp only;omega,by dsimp only;omega,by dsimp only;omega,by dsimp only;omega,f⟩,by dsimp only;omega⟩;dsimp only;rw[show(Zf (((m-a:Nat):Int)>=(((b-a) / 8:Nat):Int)))=Zf (m-a>=(b-a) / 8) from decide_eq_decide.mpr (by omega)]
    .rw[Qa0 hm] at f;rw[ai (by simp;omega),aq (by simp only[Yf,Yb,Yp,Zu,Qa2,Qa9,Qa8];omega)];simp only[↓gu,↓fB,↓bW,↓cG,↓hU,↓lT,↓dx,↓dP,↓dA];simp only[Kerb.sS];have O:=Kerb.vE _ d4 (m+1) b l1 Yx Yx (Nat.le_refl _) (by omega) (by omega);generalize Go.Sort.pdq Go.Sort.ltInt d4 (m+1) b l1 Yx Yx=d5 at O f ⊢;refine⟨_,rfl,(d5,a,m,l1,Zf (b-m>=(b-a) / 8),ap),?_,⟨by dsimp only;omega,by dsimp only;omega,by dsimp only;omega,by dsimp only;omega,by dsimp only;omega,f⟩,by dsimp only;omega⟩;dsimp only;rw[show(Zf (((b-m:Nat):Int)>=(((b-a) / 8:Nat):Int)))=Zf (b-m>=(b-a) / 8) from decide_eq_decide.mpr (by omega)]
  .rintro _ ⟨n1,n2,n3,b1,b2,rfl⟩;simp only[↓bW,↓cG,↓dx,↓dP,↓dA,↓Xc]
 .cases h
theorem att:Nr Tryz.prog G 139 8 [.other] adi:=by
 refine⟨λxs bl=> ?_,Tryz.f139,Tryz.func139,by decide +kernel,rfl,λa xs bl r h=> ?_⟩
 .cases h:adi 0 xs bl with
  | none=>rfl
  | some r =>
   unfold adi at h;split at h
   .obtain⟨aI,_⟩:=aC h;simp only[Zu,Qa2] at aI;omega
   .cases h
 unfold adi at h;split at h
 .rename_i ks bs;obtain⟨aI,h2⟩:=aC h;cases h2;show rV ((G.cut 139 8 [.other] (adi a)).env 139 9) G.rts (G.own 139) Tryz.f139 _ _ []=_;refine Qb2 (b:=(Kerb.GF a ks bs:Option (AV×aO))) (by kernel_rfl) ?_;simp only[Zu,Qa2] at aI;obtain⟨s,rfl,rfl,hs⟩:=Kerb.xg aI.1;have hd:=aI.2;rw[Kerb.gS] at hd ⊢;exact Kerb.LF hs (by omega)
 .cases h
theorem atM:Nr Tryz.prog G 214 8 [.other,.c4] adj:=by
 refine⟨λxs bl=> ?_,Tryz.f214,Tryz.func214,by decide +kernel,rfl,λa xs bl r h=> ?_⟩
 .cases h:adj 0 xs bl with
  | none=>rfl
  | some r =>
   unfold adj at h;split at h
   .obtain⟨aI,_⟩:=aC h;simp only[Zu,Qa2] at aI;omega
   .cases h
 unfold adj at h;split at h
 .rename_i ks bs b;obtain⟨aI,h2⟩:=aC h;cases h2;show rV ((G.cut 214 8 [.other,.c4] (adj a)).env 214 9) G.rts (G.own 214) Tryz.f214 _ _ []=_;refine Qb2 (b:=(Kerb.acj a ks bs b:Option (AV×aO))) (by kernel_rfl) ?_;simp only[Zu,Qa2] at aI;obtain⟨s,rfl,rfl,hs⟩:=Kerb.xg aI.1.1;rw[Kerb.gS];exact Kerb.W7 hs aI.1.2 (by have:=aI.2;omega)
 .cases h
theorem aud:Wk 291 8 abL:=by
 refine g8 Tryz.func291 λ_ _ _ h=> ?_;unfold abL at h;split at h;case h_2=>cases h
 rename_i b pos;obtain⟨aI,rfl⟩:=ja h;refine jI (Zy (bh (λst=>dg st λb r=>af AI r λn r=>bg r λt r=>bg r λq r=>bg r λp r=>af AI r λu r=>af AI r λs r=>bg r λm r=>bg r λl r=>bg r λv r=>af AI r λf r=>af AI r λc r=>ak r (aK (Zf (c<f)) (ax (Zf (0<=c)&&Zf (c<(↑(Zj [0,1,2]):Int))&&Yx) (aK (Nat.beq (Zh c) 0) (Zy (abD [Zp b,Zz AI n] []) (kT λvs=>bg vs λk r=>af AI r λn r=>af AI r λo r=>ak r (aK (!o==0) (Zn (Sum.inr (Ex.ret,[Zp b,Zz AI n,Zx [],Zx [],Zx [],Zz AI 0,Zz AI o,Zx k,Zx l,Zx v,Zz AI f,Zz AI c]))) (Zn (Xj [Zp b,Zz AI n,Zx t,Zx q,Zx p,Zz AI u,Zz AI s,Zx k,Zx l,Zx v,Zz AI f,Zz AI (Zw AI (c+1))]))))) (aK (Nat.beq (Zh c-1) 0) (Zy (abD [Zp b,Zz AI n] []) (kT λvs=>bg vs λk r=>af AI r λn r=>af AI r λo r=>ak r (aK (!o==0) (Zn (Sum.inr (Ex.ret,[Zp b,Zz AI n,Zx [],Zx [],Zx [],Zz AI 0,Zz AI o,Zx m,Zx k,Zx v,Zz AI f,Zz AI c]))) (Zn (Xj [Zp b,Zz AI n,Zx t,Zx q,Zx p,Zz AI u,Zz AI s,Zx m,Zx k,Zx v,Zz AI f,Zz AI (Zw AI (c+1))]))))) (aK (Nat.beq (Zh c-1-1) 0) (Zy (abD [Zp b,Zz AI n] []) (kT λvs=>bg vs λk r=>af AI r λn r=>af AI r λo r=>ak r (aK (!o==0) (Zn (Sum.inr (Ex.ret,[Zp b,Zz AI n,Zx [],Zx [],Zx [],Zz AI 0,Zz AI o,Zx m,Zx l,Zx k,Zz AI f,Zz AI c]))) (Zn (Xj [Zp b,Zz AI n,Zx t,Zx q,Zx p,Zz AI u,Zz AI s,Zx m,Zx l,Zx k,Zz AI f,Zz AI (Zw AI (c+1))]))))) none)))) (Zn (Sum.inr (Ex.exit 0,[Zp b,Zz AI n,Zx t,Zx q,Zx p,Zz AI u,Zz AI s,Zx m,Zx l,Zx v,Zz AI f,Zz AI c]))))) [Zp b,Zz AI pos,Zx [],Zx [],Zx [],Zz AI 0,Zz AI 0,Zx [],Zx [],Zx [],Zz AI (↑(Zj [0+0,0+1,0+2]):Int),Zz AI 0]) λ(r:Ex×List AV)=>dg (Zk r) λb N=>af AI N λn L=>bg L λb M=>bg M λt J=>bg J λq I=>af AI I λu F=>af AI F λs E=>bg E λp D=>bg D λm C=>bg C λl K=>af AI K λf H=>af AI H λc G=>ak G (kJ r.1 (Zn (Zb [Yz [Zx b,Zx t,Zx q],Zz AI u,Zz AI s],[])) λj=>aK (Nat.beq j 0) (Zy (Um [Yz [Zx p,Zx m,Zx l]] []) (kL λb=>aK (!b) (Zn (Zb [Yz [Zx [],Zx [],Zx []],Zz AI 0,Zz AI 103],[])) (Zn (Zb [Yz [Zx p,Zx m,Zx l],Zz AI n,Zz AI 0],[])))) none)) ?_;delta kT kL;dsimp only[abD,Um,bg,dg,az,lR,af,eg,jM];have hb:=Qa3 aI;obtain⟨a,B⟩:∃ T,T=Kerb.text b pos:=⟨_,rfl⟩;obtain⟨d,A⟩:∃ T,T=Kerb.text b a.next:=⟨_,rfl⟩;obtain⟨e,w⟩:∃ T,T=Kerb.text b d.next:=⟨_,rfl⟩;have hp:Yh b pos=if a.err≠0 then⟨Kerb.bN,0,a.err⟩ else if d.err≠0 then⟨Kerb.bN,0,d.err⟩ else if e.err≠0 then⟨Kerb.bN,0,e.err⟩
   else if Kerb.bQ.valid ⟨a.val,d.val,e.val⟩ then⟨⟨a.val,d.val,e.val⟩,e.next,0⟩ else⟨Kerb.bN,0,103⟩:=by
  rw[w,A,B];rfl
 have k0:=Kerb.ez b pos;rw[<-B] at k0;have k1:=Kerb.ez b a.next;rw[<-A] at k1;have k2:=Kerb.ez b d.next;rw[<-w] at k2;refine bS (λi:Nat=>match i with
   | 0=>[Zp b,Zz Zq pos,Zx [],Zx [],Zx [],Zz Zq 0,Zz Zq 0,Zx [],Zx [],Zx [],Zz Zq 3,Zz Zq 0]
   | 1=>[Zp b,Zz Zq a.next,Zx [],Zx [],Zx [],Zz Zq 0,Zz Zq 0,Zx a.val,Zx [],Zx [],Zz Zq 3,Zz Zq 1]
   | 2=>[Zp b,Zz Zq d.next,Zx [],Zx [],Zx [],Zz Zq 0,Zz Zq 0,Zx a.val,Zx d.val,Zx [],Zz Zq 3,Zz Zq 2]
   | _=>[Zp b,Zz Zq e.next,Zx [],Zx [],Zx [],Zz Zq 0,Zz Zq 0,Zx a.val,Zx d.val,Zx e.val,Zz Zq 3,Zz Zq 3])
  (λi=>i<=3/\(1<=i->a.err=0)/\(2<=i->d.err=0)/\(3<=i->e.err=0)) (λi=>3-i)
  (λr=>(a.err=0/\d.err=0/\e.err=0/\r=(Ex.exit 0,[Zp b,Zz Zq e.next,Zx [],Zx [],Zx [],Zz Zq 0,Zz Zq 0,Zx a.val,Zx d.val,Zx e.val,Zz Zq 3,Zz Zq 3])) \/
   ∃ n x y z i,Yh b pos=⟨Kerb.bN,0,(Yh b pos).err⟩/\r=(Ex.ret,[Zp b,Zz Zq n,Zx [],Zx [],Zx [],Zz Zq 0,Zz Zq (Yh b pos).err,Zx x,Zx y,Zx z,Zz Zq 3,Zz Zq i])) 0 ⟨by omega,by omega,by omega,by omega⟩ rfl ?_ ?_
 .rintro i ⟨hi,g0,g1,g2⟩;have hc:i=0\/i=1\/i=2\/i=3:=by omega
  rcases hc with rfl | rfl | rfl | rfl
  .simp only[A0];rw[ae (by decide),aq (by decide),ae (by decide),aq aI,<-B];by_cases h:a.err=0
   .rw[ai (by simp[h])];exact⟨_,rfl,1,rfl,⟨by omega,λ_=>h,by omega,by omega⟩,by dsimp only;omega⟩
   .rw[ae (by simpa using h)];exact⟨_,rfl,.inr ⟨_,_,_,_,_,by rw[hp,Qa1 h],by rw[hp,Qa1 h]⟩⟩
  .simp only[A0];have g:=g0 (by omega);rw[ae (by decide),aq (by decide),ai (by decide),ae (by decide),aq aI,<-A];by_cases h:d.err=0
   .rw[ai (by simp[h])];exact⟨_,rfl,2,rfl,⟨by omega,λ_=>g,λ_=>h,by omega⟩,by dsimp only;omega⟩
   .rw[ae (by simpa using h)];exact⟨_,rfl,.inr ⟨_,_,_,_,_,by rw[hp,Qa0 (by simp[g]),Qa1 h],by rw[hp,Qa0 (by simp[g]),Qa1 h]⟩⟩
  .simp only[A0];have g:=g0 (by omega);have e1:=g1 (by omega);rw[ae (by decide),aq (by decide),ai (by decide),ai (by decide),ae (by decide),aq aI,<-w];by_cases h:e.err=0
   .rw[ai (by simp[h])];exact⟨_,rfl,3,rfl,⟨by omega,λ_=>g,λ_=>e1,λ_=>h⟩,by dsimp only;omega⟩
   .rw[ae (by simpa using h)];exact⟨_,rfl,.inr ⟨_,_,_,_,_,by rw[hp,Qa0 (by simp[g]),Qa0 (by simp[e1]),Qa1 h],by rw[hp,Qa0 (by simp[g]),Qa0 (by simp[e1]),Qa1 h]⟩⟩
  .simp only[A0];rw[ai (by decide)];exact⟨_,rfl,.inl ⟨g0 (by omega),g1 (by omega),g2 (by omega),rfl⟩⟩
 .rintro r (⟨g,e1,O,rfl⟩ | ⟨n,x,y,z,i,h,rfl⟩)
  .simp only[A0];rw[ae (Nat.beq_refl _),aq (by simp;omega),hp,Qa0 (by simp[g]),Qa0 (by simp[e1]),Qa0 (by simp[O])];cases hv:Kerb.bQ.valid ⟨a.val,d.val,e.val⟩
   .rfl
   .rfl
  .simp only[A0];rw[h];rfl
theorem amC:Wk 304 8 ZA:=by
 refine g8 Tryz.func304 λ_ _ _ h=> ?_;unfold ZA at h;split at h;case h_2=>cases h
 rename_i els;obtain⟨aI,rfl⟩:=ja h;refine Fh [0] (Zy (OH [Zz AT (Zw AT (Zj els:Int))] []) (kI AI λn=>Zy (KX [AV.bL 0 61 1,Zz AI 0,Zz AI (Zj els:Int),Zz AI n] [(0,els)]) λr=>aJ (Zk r) λx a=>aE a (AV.gJ (Zd r) λvs=>ak vs (Zn (Zb [],[x]))))) ?_;delta kI;dsimp only[KX,OH,bg,dg,az,lR,af,eg,jM];simp only[Zu,Qa2] at aI;obtain⟨hZ,hlen⟩:=aI;obtain⟨d,rfl,hd⟩:=Kerb.nr hZ;simp only[Yp] at hlen ⊢;rw[Kerb.QP (by omega) (by omega),aq (by rw[Kerb.N_];simp;omega)];simp only[↓gu,↓fB,↓bW,↓cG,↓hU,↓lT,↓dx,↓dP,↓dA];rw[Kerb.C6];have hb:=Kerb.ab0 hlen;rw[aq (by simp only[Yf,Yb,Yp,Zu,Qa2,Qa9,Qa8];omega)];simp only[↓gu,↓fB,↓bW,↓cG,↓hU,↓lT,↓dx,↓dP,↓dA];rw[Kerb.QI]
theorem w59:Wk 59 9 aaZ:=by
 refine g8 Tryz.func59 λ_ _ _ h=> ?_;unfold aaZ at h;split at h;case h_2=>cases h
 rename_i ks bs b;obtain⟨aI,rfl⟩:=ja h;refine jI (Zy (ax (Zf (Zj b<=70368744170000)) (Zn (Zg 1 (Kerb.toB (Kerb.partsOf b)),[]))) λr=>aE (Zk r) (Yd 1 (Zd r) λb=>Zy (ax (Kerb.cK ks bs&&Yx&&Kerb.ua b&&Yx&&Zf (Zj b<=1000)&&List.all (Kerb.fO b) λ(b:Kerb.Bytes)=>Zf (Zj b<=140737488355328)) (Zn (Zb [Yz [Zg 1 (Kerb.toK (Kerb.Kn.keys (Kerb.Kn.add (Xu ks bs) (Kerb.Bv.mk (Kerb.cu []) (Kerb.fO b))))),Zg 1 (Kerb.toB (Kerb.Kn.boxes (Kerb.Kn.add (Xu ks bs) (Kerb.Bv.mk (Kerb.cu []) (Kerb.fO b)))))],Zv !Kerb.Kn.has (Xu ks bs) (Kerb.Bv.mk (Kerb.cu []) (Kerb.fO b))],[]))) (kT λvs=>ar vs λx r=>Xz x λcs=>eg 1 cs λb f=>eg 1 f λa e=>ak e (az r λi r=>ak r (Zy (ax (Kerb.cK b a) (Zn (Yz [Zg 1 (Kerb.toK (Kerb.Kn.keys (Kerb.close (Xu b a)))),Zg 1 (Kerb.toB (Kerb.Kn.boxes (Kerb.close (Xu b a))))],[]))) (kA λcs=>eg 1 cs λb r=>eg 1 r λd r=>ak r (Zn (Yz [Zg 1 b,Zg 1 d],[])))))))) ?_;delta kT kA;dsimp only[az,eg];simp only[Zu,Qa2] at aI;obtain⟨c,hm⟩:=aI;obtain⟨s,rfl,rfl,hs⟩:=Kerb.xg c;rw[Kerb.gS] at hm;have g:Zf (b.length<=70368744170000)=Yx:=by simp;omega
 have hp:=Kerb.lh b;have hf:=Kerb.zl.2 (hs.parts hm);have h9:(Kerb.partsOf b).all (λb=>Zf (b.length<=140737488355328))=Yx:=List.all_eq_true.2 λx hx=>Qa4 (by have:=hp.1 x hx;omega);simp only[A0,Xy,Xw,Kerb.jj.av,h9,g,c,Kerb.gS,Kerb.lK,Kerb.zW,Kerb.c6,show Kerb.cu []=[] from rfl,hf];rw[aq (by simp;omega)];rfl
theorem w60:Wk 60 9 XB:=by
 refine g8 Tryz.func60 λ_ _ _ h=> ?_;unfold XB at h;split at h;case h_2=>cases h
 rename_i ks bs k;obtain⟨aI,rfl⟩:=ja h;refine jI (Zy (ax (Zf (0<=k)&&Zf (k<18446744073709551616)) (Zn (Zg 1 (Kerb.toK (Kerb.dK [k])),[]))) λr=>aE (Zk r) (Yd 1 (Zd r) λb=>Zy (ax (Kerb.cK ks bs&&Kerb.cM b&&Yx&&Zf (Zj b<=1000)&&Yx&&Yx) (Zn (Zb [Yz [Zg 1 (Kerb.toK (Kerb.Kn.keys (Kerb.Kn.add (Xu ks bs) (Kerb.Bv.mk (Kerb.cu b) (Kerb.fO []))))),Zg 1 (Kerb.toB (Kerb.Kn.boxes (Kerb.Kn.add (Xu ks bs) (Kerb.Bv.mk (Kerb.cu b) (Kerb.fO [])))))],Zv !Kerb.Kn.has (Xu ks bs) (Kerb.Bv.mk (Kerb.cu b) (Kerb.fO []))],[]))) (kT λvs=>ar vs λx r=>Xz x λcs=>eg 1 cs λb g=>eg 1 g λa f=>ak f (az r λi r=>ak r (Zy (ax (Kerb.cK b a) (Zn (Yz [Zg 1 (Kerb.toK (Kerb.Kn.keys (Kerb.close (Xu b a)))),Zg 1 (Kerb.toB (Kerb.Kn.boxes (Kerb.close (Xu b a))))],[]))) (kA λcs=>eg 1 cs λb r=>eg 1 r λe r=>ak r (Zn (Yz [Zg 1 b,Zg 1 e],[])))))))) ?_;delta kT kA;dsimp only[az,eg];simp only[Zu,Qa2] at aI;obtain⟨⟨⟨c,k0⟩,k1⟩,hm⟩:=aI;have d:(Zf (0<=k)&&Zf (k<18446744073709551616))=Yx:=by simp[k0,k1]
 obtain⟨s,rfl,rfl,hs⟩:=Kerb.xg c;rw[Kerb.gS] at hm;have hp:=Kerb.o_ k;have hf:=Kerb.zl.2 (hs.Mh (k:=k) hm);simp only[A0,Xy,Xw,Kerb.jj.av,d,c,Kerb.gS,Kerb.jE,Kerb.pY,Kerb.dp,show Kerb.fO []=[] from rfl,hf];rw[aq (by simp;omega)];rfl
theorem alo:Wk 124 9 TV:=by
 refine g8 Tryz.func124 λ_ _ _ h=> ?_;unfold TV at h;split at h;case h_2=>cases h
 rename_i ks bs b;obtain⟨aI,rfl⟩:=ja h;refine jI (Kerb.aay ks bs b) ?_;simp only[Zu,Qa2] at aI;obtain⟨s,rfl,rfl,hs⟩:=Kerb.xg aI.1;rw[Kerb.gS];exact Kerb.VN hs aI.2
theorem atL:Wk 213 9 ahp:=by
 refine g8 Tryz.func213 λ_ _ _ h=> ?_;unfold ahp at h;split at h;case h_2=>cases h
 rename_i l k;obtain⟨aI,rfl⟩:=ja h;refine jI (let t1:List AV:=[Zg 1 l,Zg 1 [Zz AT k]];let t0:Int:=(Zj t1:Int);ax (Zf (0<t0)&&Yx) (Yd 1 (Ym t1 (Zh 0) Xx) λb=>let t2:Int:=Zw AI (0+(Zj b:Int));aK (Zf (t2<0)) none (ax (Zf (Zw AI (0+1)<t0)&&Yx) (Yd 1 (Ym t1 (Zh (Zw AI (0+1))) Xx) λb=>aK (Zf (Zw AI (t2+(Zj b:Int))<0)) none (Zy (OG [AV.bJ,Zz AI (Zw AI (t2+(Zj b:Int)))] []) λr=>aE (Zk r) (AV.aS (Zd r) λl=>ax (Zf (0<t0)&&Yx) (Yd 1 (Ym t1 (Zh 0) Xx) λb=>ax (room (Zj l+Zj b) (nat_lit 8)) (ax (Zf (Zw AI (0+1)<t0)&&Yx) (Yd 1 (Ym t1 (Zh (Zw AI (0+1))) Xx) λc=>ax (room (Zj (l++b)+Zj c) (nat_lit 8)) (ax (Nat.blt 0 (Zj (l++b++c))) (Zy (ZA [AV.bL 0 61 (TI.size (TI.mk 1 8 (TK.int AT) [Zz AT 0] [CT.int AT] [CT.int AT]))] [(0,l++b++c)]) λr=>aJ (Zk r) λx g=>aE g (AV.gJ (Zd r) λvs=>ak vs (aK (Zf ((Zj x:Int)<2)) (Zn (Yk x,[])) (Zy (bh (λl=>ar l λx_1 r=>Yn AI x_1 λn=>ak r (aK (Zf (n<(Zj x:Int))) (ax (Zf (0<=n)&&Zf (n<(Zj x:Int))&&Yx) (ax (Nat.blt (Zh n) (Zj x)&&Yx) (Yn AT (Ym x (Zh n) Xx) λo=>ax (Zf (0<=Zw AI (n-1))&&Zf (Zw AI (n-1)<(Zj x:Int))&&Yx) (ax (Nat.blt (Zh (Zw AI (n-1))) (Zj x)&&Yx) (Yn AT (Ym x (Zh (Zw AI (n-1))) Xx) λm=>aK (o==m) (ax (Zf (0<=n)&&Zf (n<=(Zj x:Int))&&Zf ((Zj x:Int)<=(Zj x:Int))) none) (Zn (Xj [Zz AI (Zw AI (n+1))]))))))) (Zn (Sum.inr (Ex.exit 0,[Zz AI n]))))) [Zz AI 1]) λ(r:Ex×List AV)=>ar (Zk r) λx_1 f=>Yn AI x_1 λn=>ak f (kJ r.1 none λj=>aK (Nat.beq j 0) (Zn (Yk x,[])) none))))))))))))))) ?_;dsimp only[ZA,OG,bg,dg,az,lR,af,eg,jM];simp only[Zu,Qa2] at aI;obtain⟨⟨hZ,a⟩,hlen⟩:=aI;rw[aq (by simp)];simp only[show Zw AI (1:Int)=1 from by decide,show Zh (1:Int)=1 from rfl,Int.toNat_zero,List.getD_cons_zero,List.getD_cons_succ,List.length_cons,List.length_nil,List.nil_append,Int.zero_add,Nat.zero_add,↓sSl];rw[show Zw AI ((l.length:Int))=((l.length:Nat):Int) from(Yj (by omega) (by omega)).trans (by omega)];rw[ai (by simp<;>omega),aq (by simp),show Zw AI ((l.length:Int)+((1:Nat):Int))=((l.length+1:Nat):Int) from(Yj (by omega) (by omega)).trans (by omega)];rw[ai (by simp<;>omega),aq (by simp<;>omega)];simp only[↓gu,↓fB,↓bW,↓cG,↓hU,↓lT,↓dx,↓dP,↓dA];simp only[List.length_nil,List.nil_append,Nat.zero_add];rw[aq (by simp),aq (Kerb.Og (by omega)),aq (by simp),aq (Kerb.Og (by omega)),aq (by simp),aq (by simp only[Kerb.all_join hZ,Bool.true_and,Qa2,List.length_append,List.length_cons,List.length_nil];omega)];simp only[↓gu,↓fB,↓bW,↓cG,↓hU,↓lT,↓dx,↓dP,↓dA];rw[show Kerb.Bo (l++[Zz AT k])=Kerb.Ej l k from rfl];have hz:=Kerb.Rg (k:=k) hZ;obtain⟨d,hd⟩:=Kerb.OY l k;rw[hd] at hz a ⊢;simp only[Yp] at hz ⊢;by_cases h2:d.size<2
 .rw[ae (by simp;omega)]
 rw[ai (by simp;omega)];refine bS (λi:Nat=>[Zz AI (i:Int)]) (λi=>1<=i/\i<=d.size) (λi=>d.size-i) (λr=>∃ n,r=(.exit 0,[Zz AI n])) 1 ⟨Nat.le_refl _,by omega⟩ rfl ?_ ?_
 .rintro i ⟨h1,hi⟩;simp only[↓bW,↓cG,↓dx,↓dP,↓dA];by_cases hc:i<d.size;case neg =>
   rw[ai (by simp;omega)];exact⟨_,rfl,_,rfl⟩
  have g2:i-1<d.size:=by omega
  rw[ae (by simp;omega)];simp only[show Zw AI ((i:Int)-1)=((i-1:Nat):Int) from(Yj (by omega) (by omega)).trans (by omega)];have r1:=Kerb.qk hc;have e:=Kerb.qk g2;simp only[Int.toNat_natCast,r1,e,↓dx];have fR:=Kerb.Rs a (i:=i-1) (by omega);rw[show i-1+1=i by omega] at fR;rw[aq (by simp;omega),aq (by simp;omega),aq (by simp;omega),aq (by simp;omega),ai (by simp;omega),show Zw AI ((i:Int)+1)=((i+1:Nat):Int) from(Yj (by omega) (by omega)).trans (by omega)];exact⟨_,rfl,i+1,rfl,⟨by omega,by omega⟩,by dsimp only;omega⟩
 .rintro _ ⟨n,rfl⟩;simp only[↓bW,↓cG,↓dx,↓dA,↓lP];rw[ae (Nat.beq_refl _)]
theorem auf:Wk 295 9 ahB:=by
 refine g8 Tryz.func295 λ_ _ _ h=> ?_;unfold ahB at h;split at h;case h_2=>cases h
 rename_i b;obtain⟨aI,rfl⟩:=ja h;refine jI (let t1:AV:=Yz [Zv Yq,Zx [],Zx [],Zx [],Zz AI 0,Zz AI 0,Zz AI 0,Zp []];let t2:List AV:=[Zv (Zd (Kerb.aR b [2]))];let t0:Option (AV×aO):=Zn (Zb [t1,Zz AI 100],[]);aK (!Zk (Kerb.aR b [2])==0) (Zn (Zb [t1,Zz AI (Zk (Kerb.aR b [2]))],[])) (Zy (abL [Zp b,Zz AI 2] []) (kT λvs=>ar vs λx r=>Xz x λcs=>bg cs λu q=>bg q λg o=>bg o λk p=>ak p (af AI r λn r=>af AI r λE r=>ak r (Zy (Zt (Zp b::Zz AI n::t2) []) (kT λvs=>af AI vs λn r=>af AI r λt r=>af AI r λC r=>ak r (Zy (abj [Zp b,Zz AI t] []) (kT λvs=>af AI vs λD r=>af AI r λv r=>af AI r λB r=>ak r (Zy (Zt (Zp b::Zz AI v::t2) []) (kT λvs=>af AI vs λm r=>af AI r λi r=>af AI r λy r=>ak r (Zy (abj [Zp b,Zz AI i] []) (kT λvs=>af AI vs λc r=>af AI r λj r=>af AI r λz r=>ak r (Zy (ZV (Zp b::Zz AI j::t2) []) (kT λvs=>af AI vs λl r=>af AI r λw r=>af AI r λA r=>ak r (Zy (abE [Zp b,Zz AI w,Zz AI l] []) (kT λvs=>dg vs λf r=>let t3:AV:=Yz [Zv (Zd (Kerb.aR b [2])),Zx u,Zx g,Zx k,Zz AI n,Zz AI m,Zz AI c,Zp f];af AI r λn r=>af AI r λn r=>ak r (Zy (F_ [t3] []) (kT λvs=>dg vs λd r=>af AI r λn r=>ak r (aK (!n==0) t0 (aK (!d==b) t0 (Zn (Zb [t3,Zz AI 0],[])))))))))))))))))))))) ?_;delta kT;dsimp only[abj,abE,abL,Zt,ZV,F_,bg,dg,az,lR,af,eg,jM];have hb:=Qa3 aI;have a:Zf (b.length<=4611686018427387904)=Yx:=by simp;omega
 simp only[A0];unfold Kerb.aQ;by_cases h:(Kerb.aR b [2]).2=0
 .have l1:=Kerb.gK b 2;rw[ai (by simp[h]),aq a,aq a,aq a,aq a,aq a,aq a,aq aI,aq (by simp;omega),Qa0 (by simpa using h)];obtain⟨R,hR⟩:∃ R,R=Kerb.iZ b:=⟨_,rfl⟩;have e:=hR.symm;unfold Kerb.iZ at e;dsimp only at e;have s:Kerb.jx.mk (Kerb.aR b [2]).1 (Kerb.bQ.mk (Yh b 2).val.name (Yh b 2).val.inst (Yh b 2).val.aA) _ _ _ _=R:=e;rw[s,<-hR];by_cases h1:(Kerb.bc R).err=0
  .rw[ai (by simp[h1])];by_cases h2:(Kerb.bc R).val=b
   .rw[ai (by simp[h2]),Qa0 (by simp[h1,h2]),hR];rfl
   .rw[ae (by simpa using h2),Qa1 (.inr h2)];rfl
  .rw[ae (by simpa using h1),Qa1 (.inl h1)];rfl
 .rw[ae (by simpa using h),Qa1 h];rfl
theorem auq:Wk 356 9 adl:=by
 refine g8 Tryz.func356 λ_ _ _ h=> ?_;unfold adl at h;split at h;case h_2=>cases h
 rename_i b By;obtain⟨aI,rfl⟩:=ja h;refine jI (let t0:Option (AV×aO):=Zn (Zb [Yz [Zz AT 0,Zx [],Zx [],Zx [],Zz AI 0,Zz AI 0,Zp [],Zz AI 0],Zz AI 100],[]);Zy (abE [Zp b,Zz AI 1,Zz AI 8] []) (kT λvs=>dg vs λv r=>af AI r λn r=>af AI r λG r=>ak r (Zy (abF [Zp v] []) (kT λvs=>af AT vs λu r=>az r λA r=>ak r (Zy (abL [Zp b,Zz AI n] []) (kT λvs=>ar vs λx r=>Xz x λcs=>bg cs λl s=>bg s λk p=>bg p λi q=>ak q (af AI r λn r=>af AI r λE r=>ak r (Zy (abj [Zp b,Zz AI n] []) (kT λvs=>af AI vs λn r=>af AI r λw r=>af AI r λF r=>ak r (Zy (abj [Zp b,Zz AI w] []) (kT λvs=>af AI vs λo r=>af AI r λm r=>af AI r λB r=>ak r (Zy (abj [Zp b,Zz AI m] []) (kT λvs=>af AI vs λf r=>af AI r λc r=>af AI r λC r=>ak r (Zy (abE [Zp b,Zz AI c,Zz AI f] []) (kT λvs=>dg vs λd r=>af AI r λj r=>af AI r λD r=>ak r (Zy (Zt [Zp b,Zz AI j,Zv By] []) (kT λvs=>af AI vs λy r=>let t1:AV:=Yz [Zz AT u,Zx l,Zx k,Zx i,Zz AI n,Zz AI o,Zp d,Zz AI y];af AI r λn r=>af AI r λn r=>ak r (Zy (OL [t1,Zv By] []) (kT λvs=>dg vs λg r=>af AI r λn r=>ak r (aK (!n==0) t0 (aK (!g==b) t0 (Zn (Zb [t1,Zz AI 0],[]))))))))))))))))))))))) ?_;delta kT;dsimp only[abF,abj,abE,abL,Zt,OL,bg,dg,az,lR,af,eg,jM];have hb:=Qa3 aI;have a:Zf (b.length<=4611686018427387904)=Yx:=by simp;omega
 have z:=Kerb.iu b 1 8;simp only[A0];unfold Kerb.aX;have l1:=Kerb.gK b (Xv b 1 8).next
 have l2:=Kerb.dN (Xv b 1 8).val;rw[aq aI,aq (by simp;omega),aq a,aq a,aq a,aq a,aq aI,aq a,aq (by simp;omega)];obtain⟨R,hR⟩:∃ R,R=Kerb.jh b By:=⟨_,rfl⟩;have e:=hR.symm;unfold Kerb.jh at e;dsimp only at e;have t:Kerb.fL.mk (Kerb.dm (Xv b 1 8).val).1 (Kerb.bQ.mk (Yh b (Xv b 1 8).next).val.name (Yh b (Xv b 1 8).next).val.inst (Yh b (Xv b 1 8).next).val.aA) _ _ _ _=R:=e;rw[t,<-hR];by_cases h1:(Kerb.bt R By).err=0
 .rw[ai (by simp[h1])];by_cases h2:(Kerb.bt R By).val=b
  .rw[ai (by simp[h2]),Qa0 (by simp[h1,h2]),hR];rfl
  .rw[ae (by simpa using h2),Qa1 (.inr h2)];rfl
 .rw[ae (by simpa using h1),Qa1 (.inl h1)];rfl
theorem anD:Wk 387 9 ZZ:=by
 refine g8 Tryz.func387 λ_ _ _ h=> ?_;unfold ZZ at h;split at h;case h_2=>cases h
 rename_i op f e d i rl tk g ins bx;obtain⟨aI,rfl⟩:=ja h;refine jI (Zy (UA [Yz [Zz AI op,Zx f,Zx e,Zx d,Zz AI i,Zx rl,Zp tk,Zx g,Zx ins,Zp bx]] []) (kI AI λn=>aK (!n==0) (Zn (Zb [Zp [],Zz AI n],[])) (aK (op==2) (Zy (abK [Zp (Kerb.header 9 Yq++Kerb.aD op 1 Yq),Zz AI i] []) (kO λl=>Zy (adk [Zp l,Zx rl] []) (kO λl=>Zy (aac [Zp l,Zp tk] []) (kB λb=>Zy (adk [Zp b,Zx g] []) (kO λl=>Zy (adk [Zp l,Zx ins] []) (kO λl=>Zy (UB [Zp l,Zp bx] []) (kB λb=>Zn (Zb [Zp b,Zz AI 0],[])))))))) (Zy (vR [Zp (Kerb.header 9 Yq++Kerb.aD op 1 Yq),Yz [Zx f,Zx e,Zx d]] []) (kO λl=>Zy (UB [Zp l,Zp bx] []) (kB λb=>Zn (Zb [Zp b,Zz AI 0],[]))))))) ?_;delta kB kO kI;dsimp only[abK,adk,vR,UA,aac,UB,bg,dg,az,lR,af,eg,jM];have j:=aI;simp only[Zu,Qa2] at aI;simp only[A0];rw[aq j];by_cases he:(Kerb.aH (Kerb.df.mk op ⟨f,e,d⟩ i rl tk g ins bx)).err=0;case neg =>
  rw[ae (by simpa using he),Kerb.I6 he]
 rw[ai (by simp[he]),he];have a:(Kerb.header 9 Yq).length=2:=rfl;rcases Kerb.pE he with⟨c,v1,v2,v3,hk,ht,hb,hu,hv⟩ | ⟨c,v1,hb,hk,hr,ht,hs,hn,hv⟩
 .have l1:=Kerb.iM v1;have l2:=Kerb.jr v2;have l3:=Kerb.il v3;simp only at c l1 l2 l3 ht hb;rw[ae (by simpa using c),hv];rw[aq (by simp[Yg,a]),aq (by simp[Yg,a];omega),aq (by simp[Yg,a,Kerb.gN];omega),aq (by simp[Yg,a,Kerb.gN,Kerb.jg];omega),aq (by simp[Yg,a,Kerb.gN,Kerb.jg];omega),aq (by simp[Yg,a,Kerb.gN,Kerb.jg];omega)];simp[Kerb.gL,Kerb.cX,Kerb.jg]
 .have l1:=Kerb.fZ v1;simp only at c l1 hb;rw[ai (by simp;omega),hv];rw[aq (by simp[Yg,a];omega),aq (by simp[Yg,a,Kerb.gM];omega)];simp[Kerb.gL,Kerb.cX,Kerb.cV]
theorem an4:Wk 420 9 K2:=by
 refine g8 Tryz.func420 λ_ _ _ h=> ?_;unfold K2 at h;split at h;case h_2=>cases h
 rename_i lb t k st d a x y z tk;obtain⟨aI,rfl⟩:=ja h;refine jI (Zy (ae8 [Yz [Zx lb,Zz AI t,Zz AT k,Zz AI st,Zz AI d,Zz AI a,Zx x,Zx y,Zx z,Zp tk]] []) (kI AI λn=>aK (!n==0) (Zn (Zb [Zp [],Zz AI n],[])) (Zy (zQ [Zp lb,Zz AI t,Zv Yq] []) (kO λl=>aK (Kerb.fh lb) (Zy (DW [Zz AT k] []) (kB λb=>ax (room (Zj l+Zj b) 1) (Zy (zQ [Zp (l++b),Zz AI st,Zv Yq] []) (kO λl=>Zy (zQ [Zp l,Zz AI d,Zv Yq] []) (kO λl=>Zy (abK [Zp l,Zz AI a] []) (kO λl=>Zy (vR [Zp l,Yz [Zx x,Zx y,Zx z]] []) (kO λl=>Zy (aac [Zp l,Zp tk] []) (kB λb=>Zy (Un [Zp b] []) (kB λb=>Zn (Zb [Zp b,Zz AI 0],[])))))))))) (Zy (Un [Zp l] []) (kB λb=>Zn (Zb [Zp b,Zz AI 0],[]))))))) ?_;delta kB kO kI;dsimp only[abK,vR,zQ,DW,Un,aac,ae8,bg,dg,az,lR,af,eg,jM];have f:=aI;simp only[Zu,Qa2] at aI;have hk:(Zf (0<=k)&&Zf (k<18446744073709551616))=Yx:=by simp;omega
 simp only[A0,f,hk];by_cases he:(Kerb.a_ (Kerb.eW.mk lb t k st d a ⟨x,y,z⟩ tk)).err=0;case neg=>rw[ae (by simpa using he),Kerb.I5 he]
 rw[ai (by simp[he]),he];obtain⟨ht,⟨hl,e,bn,hs,c,hv,hp,hx,hb⟩ | ⟨hl,bn,hs,c,hv,hp,hx,hb⟩⟩:=Kerb.pD he
 .have l1:=Kerb.fZ hp;simp only at hl e l1 hx;rw[hb,aq (by simp;omega),ae hl];rw[aq (Kerb.ie (by simp[Yg,Kerb.bu];omega)),aq (by simp[Yg,Kerb.bu];omega),aq (by simp[Yg,Kerb.bu];omega),aq (by simp[Yg,Kerb.bu];omega),aq (by simp[Yg,Kerb.bu];omega),aq (by simp[Yg,Kerb.bu,Kerb.gM];omega),aq (by simp[Yg,Kerb.bu,Kerb.gM,Kerb.jg];omega)];simp[Kerb.jg,Kerb.cV,Kerb.cX]
 .simp only at hl;have e:lb.length=4:=by rw[hl];rfl
  have g:Kerb.fh lb=Yq:=by rw[hl];decide
  rw[hb,aq (by simp;omega),ai g,aq (by simp[Yg];omega)]
theorem atH:Wk 198 10 adw:=by
 refine g8 Tryz.func198 λ_ _ _ h=> ?_;unfold adw at h;split at h;case h_2=>cases h
 rename_i b;obtain⟨aI,rfl⟩:=ja h;refine jI (let t1:AV:=Yz [Zv Yq,Zx [],Zx [],Zx [],Zz AI 0,Zz AT 0,Zz AI 0,Zz AI 0,Zx [],Zx []];let t0:Option (AV×aO):=Zn (Zb [t1,Zz AI 100],[]);Zy (abj [Zp b,Zz AI 0] []) (kT λvs=>af AI vs λn r=>af AI r λD r=>af AI r λK r=>ak r (aK (Zf (n>1)) (Zn (Zb [t1,Zz AI 7],[])) (Zy (abL [Zp b,Zz AI D] []) (kT λvs=>ar vs λx r=>Xz x λcs=>bg cs λA z=>bg z λl w=>bg w λt y=>ak y (af AI r λv r=>af AI r λL r=>ak r (Zy (Zt [Zp b,Zz AI v,Zv (n==1)] []) (kT λvs=>af AI vs λC r=>af AI r λu r=>af AI r λJ r=>ak r (Zy (abE [Zp b,Zz AI u,Zz AI 8] []) (kT λvs=>dg vs λk r=>af AI r λm r=>af AI r λF r=>ak r (Zy (abF [Zp k] []) (kT λvs=>af AT vs λf r=>az r λG r=>ak r (Zy (abj [Zp b,Zz AI m] []) (kT λvs=>af AI vs λs r=>af AI r λj r=>af AI r λH r=>ak r (Zy (Zt [Zp b,Zz AI j,Zv (n==1)] []) (kT λvs=>af AI vs λE r=>af AI r λo r=>af AI r λI r=>ak r (Zy (abD [Zp b,Zz AI o] []) (kT λvs=>bg vs λg r=>af AI r λB r=>af AI r λM r=>ak r (Zy (abD [Zp b,Zz AI B] []) (kT λvs=>bg vs λi r=>let t2:AV:=Yz [Zv (n==1),Zx A,Zx l,Zx t,Zz AI C,Zz AT f,Zz AI s,Zz AI E,Zx g,Zx i];af AI r λn r=>af AI r λn r=>ak r (Zy (aeY [t2] []) (kT λvs=>dg vs λc r=>af AI r λn r=>ak r (aK (!n==0) t0 (aK (!c==b) t0 (Zn (Zb [t2,Zz AI 0],[])))))))))))))))))))))))))) ?_;delta kT;dsimp only[abF,abj,abD,abE,abL,Zt,aeY,bg,dg,az,lR,af,eg,jM];have hb:=Qa3 aI;have d:Zf (b.length<=4611686018427387904)=Yx:=by simp;omega
 simp only[aI,d,↓A0,A0];unfold Kerb.aW;by_cases h7:1<(Kerb.get b 0 1 Yq).val
 .rw[ae (by simpa using h7),Qa1 h7];try rfl
 rw[ai (by simpa using h7),Qa0 h7];have hl:∀ p n,(Xv b p n).val.length<=4611686018427387904:=λp n=>Zm (Kerb.iu b p n) (by omega);have hk:∀ q,0<=(Kerb.dm q).1/\(Kerb.dm q).1<18446744073709551616:=Kerb.dN;have hx:∀ q,(Kerb.text b q).val.length<=40:=Kerb.ez b;have a:∀ q (_:Unit),(Yh b q).val.name.length<=40/\(Yh b q).val.inst.length<=40/\(Yh b q).val.aA.length<=40:=λq _=>Kerb.gK b q;rw[aq (by simp only[Qa2];exact hl _ _),aq (by simp only[Zu,Qa2];exact⟨⟨⟨⟨⟨⟨Zm (a _ ()).1 (by decide),Zm (a _ ()).2.1 (by decide)⟩,Zm (a _ ()).2.2 (by decide)⟩,Zm (hx _) (by decide)⟩,Zm (hx _) (by decide)⟩,(hk _).1⟩,(hk _).2⟩)];exact Kerb.jz (no:=Kerb.iL) (enc:=Kerb.bE) (rd:=λb=>(Kerb.my b,Yq)) _ Yq rfl (λx e=>(Zb [Yz [Zv (x).By,Zx (x).BY.name,Zx (x).BY.inst,Zx (x).BY.aA,Zz Zq (x).address,Zz IntKind.u64 (x).ah,Zz Zq (x).bK,Zz Zq (x).cf,Zx (x).service,Zx (x).inst],Zz Zq e],([]:aO)))
theorem auj:Wk 299 10 ahC:=by
 refine g8 Tryz.func299 λ_ _ _ h=> ?_;unfold ahC at h;split at h;case h_2=>cases h
 rename_i b;obtain⟨aI,rfl⟩:=ja h
 refine jI (let t1:AV:=Yz [Zz AI 0,Zx [],Zx [],Zx [],Zz AI 0,Zx [],Zp [],Zx [],Zx [],Zp []];let t0:Option (AV×aO):=Zn (Zb [t1,Zz AI 100],[]);aK (!Zk (Kerb.aR b [9])==0) (Zn (Zb [t1,Zz AI (Zk (Kerb.aR b [9]))],[])) (Zy (ax (Zf (Zj b<=140737488355328)) (Zn (Zz AI (Yy (Yu b 1 2 Yq)),[[Zp b,Zz AI (Yw (Yu b 1 2 Yq)),Zv (Yv (Yu b 1 2 Yq))]]))) λr=>aJ (Zk r) λx eU=>dg x λa ff=>af AI ff λn fH=>az fH λj gZ=>ak gZ (aE eU (Yn AI (Zd r) λq=>aK (q==2) (Zy (ax (Zf (Zj a<=140737488355328)) (Zn (Zz AI (Yy (Yu a 1 n j)),[[Zp a,Zz AI (Yw (Yu a 1 n j)),Zv (Yv (Yu a 1 n j))]]))) λr=>aJ (Zk r) λx O=>dg x λd L=>af AI L λn K=>az K λo I=>ak I (aE O (Yn AI (Zd r) λp=>Zy (ax (Zf (Zj d<=140737488355328)) (Zn (Zx (Yy (Kerb.lO d n o)),[[Zp d,Zz AI (Yw (Kerb.lO d n o)),Zv (Yv (Kerb.lO d n o))]]))) λr=>aJ (Zk r) λx H=>dg x λf P=>af AI P λn N=>az N λi M=>ak M (aE H (AV.fT (Zd r) λg=>Zy (ax (Zf (Zj f<=140737488355328)) (Zn (Zz AI (Yy (Yu f 1 n i)),[[Zp f,Zz AI (Yw (Yu f 1 n i)),Zv (Yv (Yu f 1 n i))]]))) λr=>aJ (Zk r) λx J=>dg x λc G=>af AI G λn F=>az F λk E=>ak E (aE J (Yn AI (Zd r) λQ=>Zy (ax (Zf (Zj c<=140737488355328)) (Zn (Zp (Yy (Xq c Q n k)),[[Zp c,Zz AI (Yw (Xq c Q n k)),Zv (Yv (Xq c Q n k))]]))) λr=>aJ (Zk r) λx rQ=>dg x λs rR=>af AI rR λn rS=>az rS λv rT=>ak rT (aE rQ (AV.dC (Zd r) λl=>Zy (ax (Zf (Zj s<=140737488355328)) (Zn (Zx (Yy (Kerb.lO s n v)),[[Zp s,Zz AI (Yw (Kerb.lO s n v)),Zv (Yv (Kerb.lO s n v))]]))) λr=>aJ (Zk r) λx x3=>dg x λm x4=>af AI x4 λn x5=>az x5 λD Z=>ak Z (aE x3 (AV.fT (Zd r) λy=>Zy (ax (Zf (Zj m<=140737488355328)) (Zn (Zx (Yy (Kerb.lO m n D)),[[Zp m,Zz AI (Yw (Kerb.lO m n D)),Zv (Yv (Kerb.lO m n D))]]))) λr=>aJ (Zk r) λx Y=>dg x λu X=>af AI X λn W=>az W λC V=>ak V (aE Y (AV.fT (Zd r) λz=>Zy (ax (Zf (Zj u<=140737488355328)) (Zn (Zz AI (Yy (Yu u 2 n C)),[[Zp u,Zz AI (Yw (Yu u 2 n C)),Zv (Yv (Yu u 2 n C))]]))) λr=>aJ (Zk r) λx U=>dg x λt T=>af AI T λn AH=>az AH λB AJ=>ak AJ (aE U (Yn AI (Zd r) λR=>Zy (ax (Zf (Zj t<=140737488355328)) (Zn (Zp (Yy (Xq t R n B)),[[Zp t,Zz AI (Yw (Xq t R n B)),Zv (Yv (Xq t R n B))]]))) λr=>aJ (Zk r) λx AK=>dg x λwE AL=>af AI AL λn AM=>az AM λuV Dy=>ak Dy (aE AK (AV.dC (Zd r) λA=>aK uV t0 (Zy (ax (jM g&&jM y&&jM z) (Zn (Zb [Zp (Kerb.rF.val (Kerb.aH (Kerb.df.mk q (Kerb.bQ.mk [] [] []) p g l y z A))),Zz AI (Kerb.rF.err (Kerb.aH (Kerb.df.mk q (Kerb.bQ.mk [] [] []) p g l y z A)))],[]))) (kT λvs=>dg vs λS r=>af AI r λn r=>ak r (aK (!n==0) t0 (aK (!S==b) t0 (Zn (Zb [Yz [Zz AI q,Zx [],Zx [],Zx [],Zz AI p,Zx g,Zp l,Zx y,Zx z,Zp A],Zz AI 0],[]))))))))))))))))))))))) (Zy (ax (Zf (Zj a<=140737488355328)) (Zn (Yz [Zx (Kerb.bQ.name (Yy (Kerb.lZ a n j))),Zx (Kerb.bQ.inst (Yy (Kerb.lZ a n j))),Zx (Kerb.bQ.aA (Yy (Kerb.lZ a n j)))],[[Zp a,Zz AI (Yw (Kerb.lZ a n j)),Zv (Yv (Kerb.lZ a n j))]]))) λr=>aJ (Zk r) λx O=>dg x λd L=>af AI L λn K=>az K λo I=>ak I (aE O (Xz (Zd r) λcs=>bg cs λf r=>bg r λi r=>bg r λg r=>ak r (Zy (ax (Zf (Zj d<=140737488355328)) (Zn (Zz AI (Yy (Yu d 2 n o)),[[Zp d,Zz AI (Yw (Yu d 2 n o)),Zv (Yv (Yu d 2 n o))]]))) λr=>aJ (Zk r) λx H=>dg x λc P=>af AI P λn N=>az N λk M=>ak M (aE H (Yn AI (Zd r) λp=>Zy (ax (Zf (Zj c<=140737488355328)) (Zn (Zp (Yy (Xq c p n k)),[[Zp c,Zz AI (Yw (Xq c p n k)),Zv (Yv (Xq c p n k))]]))) λr=>aJ (Zk r) λx J=>dg x λs G=>af AI G λn F=>az F λv E=>ak E (aE J (AV.dC (Zd r) λl=>aK v t0 (Zy (ax (jM f&&jM i&&jM g&&Yx&&Yx&&Yx) (Zn (Zb [Zp (Kerb.rF.val (Kerb.aH (Kerb.df.mk q (Kerb.bQ.mk f i g) 0 [] [] [] [] l))),Zz AI (Kerb.rF.err (Kerb.aH (Kerb.df.mk q (Kerb.bQ.mk f i g) 0 [] [] [] [] l)))],[]))) (kT λvs=>dg vs λm r=>af AI r λn r=>ak r (aK (!n==0) t0 (aK (!m==b) t0 (Zn (Zb [Yz [Zz AI q,Zx f,Zx i,Zx g,Zz AI 0,Zx [],Zp [],Zx [],Zx [],Zp l],Zz AI 0],[])))))))))))))))))) ?_
 delta kT;try dsimp only[bg,dg,az,lR,af,eg,jM]
 have hb:=Qa3 aI;simp only[A0];by_cases h:(Kerb.aR b [9]).2=0;case neg =>
  rw[ae (by simpa using h)];unfold Kerb.aG;rw[Qa1 h];rfl
 have hd:Kerb.aG b=Kerb.dU Kerb.lD Kerb.aH Kerb.iY b:=by unfold Kerb.aG;rw[Qa0 (by simpa using h)]
 rw[ai (by simp[h]),hd];rw[aq aI];by_cases h2:(Yu b 1 2 Yq).val=2
 .have w:((Yu b 1 2 Yq).val==2)=Yx:=by simpa using h2
  rw[ae w];rw[aq aI,aq aI,aq aI,aq aI,aq aI,aq aI,aq aI,aq aI];have lt:=Kerb.AD b;rw[aq (by simp only[Zu,Qa2];exact⟨⟨Zm (lt _ _) (by omega),Zm (lt _ _) (by omega)⟩,Zm (lt _ _) (by omega)⟩)];exact Kerb.jz (no:=Kerb.lD) (enc:=Kerb.aH) (rd:=Kerb.iY) _ _ (by unfold Kerb.iY Kerb.Dn;dsimp only;rw[w];rfl) (λx e=>(Zb [Yz [Zz Zq (x).op,Zx (x).user.name,Zx (x).user.inst,Zx (x).user.aA,Zz Zq (x).bj,Zx (x).aA,Zp (x).aB,Zx (x).service,Zx (x).inst,Zp (x).box],Zz Zq e],([]:aO)))
 .have w:((Yu b 1 2 Yq).val==2)=Yq:=by simpa using h2
  rw[ai w];rw[aq aI,aq aI,aq aI];have lt:=Kerb.qc b (Yu b 1 2 Yq).pos (Yu b 1 2 Yq).bad;rw[aq (by simp;omega)];exact Kerb.jz (no:=Kerb.lD) (enc:=Kerb.aH) (rd:=Kerb.iY) _ _ (by unfold Kerb.iY Kerb.Dn;dsimp only;rw[w];rfl) (λx e=>(Zb [Yz [Zz Zq (x).op,Zx (x).user.name,Zx (x).user.inst,Zx (x).user.aA,Zz Zq (x).bj,Zx (x).aA,Zp (x).aB,Zx (x).service,Zx (x).inst,Zp (x).box],Zz Zq e],([]:aO)))
theorem aus:Wk 358 10 ady:=by
 refine g8 Tryz.func358 λ_ _ _ h=> ?_;unfold ady at h;split at h;case h_2=>cases h
 rename_i b;obtain⟨aI,rfl⟩:=ja h;refine jI (let t1:List AV:=[Zz AT 0,Zz AI 0,Zz AI 0,Zz AI 0,Zx [],Zx [],Zx [],Zp []];let t0:Option (AV×aO):=Zn (Zb [Yz (Zx []::Zz AI 0::t1),Zz AI 100],[]);Zy (OE [AV.ptr 0 0,Zz AI 4] [(0,[Zp b,Zz AI 0,Zv Yq])]) λr=>aJ (Zk r) λx eU=>dg x λdS ff=>af AI ff λn fH=>az fH λkj gZ=>ak gZ (aE eU (AV.dC (Zd r) λa=>Zy (Gb [AV.ptr 0 0] [(0,[Zp dS,Zz AI n,Zv kj])]) λr=>aJ (Zk r) λx jo=>dg x λY kg=>af AI kg λn Z=>az Z λf V=>ak V (aE jo (Yn AI (Zd r) λd=>let t2:Kerb.rF:=Kerb.a_ (Kerb.eW.mk a d 0 0 0 0 (Kerb.bQ.mk [] [] []) []);aK (Kerb.fh a) (Zy (OM [AV.ptr 0 0] [(0,[Zp Y,Zz AI n,Zv f])]) λr=>aJ (Zk r) λx U=>dg x λK gY=>af AI gY λn kG=>az kG λT kH=>ak kH (aE U (Yn AT (Zd r) λdy=>Zy (Gb [AV.ptr 0 0] [(0,[Zp K,Zz AI n,Zv T])]) λr=>aJ (Zk r) λx W=>dg x λB S=>af AI S λn R=>az R λw Q=>ak Q (aE W (Yn AI (Zd r) λft=>Zy (Gb [AV.ptr 0 0] [(0,[Zp B,Zz AI n,Zv w])]) λr=>aJ (Zk r) λx I=>dg x λX H=>af AI H λn G=>az G λP F=>ak F (aE I (Yn AI (Zd r) λcE=>Zy (ZY [AV.ptr 0 0] [(0,[Zp X,Zz AI n,Zv P])]) λr=>aJ (Zk r) λx v=>dg x λM u=>af AI u λn t=>az t λO s=>ak s (aE v (Yn AI (Zd r) λcg=>Zy (DX [AV.ptr 0 0] [(0,[Zp M,Zz AI n,Zv O])]) λr=>aJ (Zk r) λx o=>dg x λN m=>af AI m λn l=>az l λE k=>ak k (aE o (Xz (Zd r) λcs=>bg cs λL r=>bg r λD r=>bg r λJ r=>ak r (Zy (ZY [AV.ptr 0 0] [(0,[Zp N,Zz AI n,Zv E])]) λr=>aJ (Zk r) λx j=>dg x λA i=>af AI i λn AH=>az AH λC AJ=>ak AJ (aE j (Yn AI (Zd r) λgH=>Zy (OE [AV.ptr 0 0,Zz AI gH] [(0,[Zp A,Zz AI n,Zv C])]) λr=>aJ (Zk r) λx AK=>dg x λwE AL=>af AI AL λn AM=>az AM λz Dy=>ak Dy (aE AK (AV.dC (Zd r) λy=>let t3:AV:=Yz [Zx a,Zz AI d,Zz AT dy,Zz AI ft,Zz AI cE,Zz AI cg,Zx L,Zx D,Zx J,Zp y];aK z t0 (Zy (K2 [t3] []) (kT λvs=>dg vs λg r=>af AI r λn r=>ak r (aK (!n==0) t0 (aK (!g==b) t0 (Zn (Zb [t3,Zz AI 0],[])))))))))))))))))))))) (aK f t0 (aK (!Kerb.rF.err t2==0) t0 (aK (!Kerb.rF.val t2==b) t0 (Zn (Zb [Yz (Zx a::Zz AI d::t1),Zz AI 0],[])))))))))) ?_;delta kT;dsimp only[ZY,OE,DX,Gb,OM,K2,bg,dg,az,lR,af,eg,jM];have hb:=Qa3 aI;simp only[A0,aI];cases ht:Kerb.fh (Xq b 4 0 Yq).val
 .rw[eA];exact Kerb.jz (no:=Kerb.n9) (enc:=Kerb.a_) (rd:=Kerb.iX) _ _ (by unfold Kerb.iX Kerb.EC;dsimp only;rw[ht];rfl) (λx e=>(Zb [Yz [Zx (x).label,Zz Zq (x).time,Zz IntKind.u64 (x).ah,Zz Zq (x).start,Zz Zq (x).stop,Zz Zq (x).bj,Zx (x).service.name,Zx (x).service.inst,Zx (x).service.aA,Zp (x).aB],Zz Zq e],([]:aO)))
 .have hk:∀ p q,0<=(Kerb.xY b p q).val/\(Kerb.xY b p q).val<18446744073709551616:=Kerb.tT b;have c:=Kerb.qc b;rw[gO,aq (by simp only[Zu,Qa2];exact⟨⟨⟨⟨Zm (c _ _).1 (by omega),Zm (c _ _).2.1 (by omega)⟩,Zm (c _ _).2.2 (by omega)⟩,(hk _ _).1⟩,(hk _ _).2⟩)];exact Kerb.jz (no:=Kerb.n9) (enc:=Kerb.a_) (rd:=Kerb.iX) _ _ (by unfold Kerb.iX Kerb.EC;dsimp only;rw[ht];rfl) (λx e=>(Zb [Yz [Zx (x).label,Zz Zq (x).time,Zz IntKind.u64 (x).ah,Zz Zq (x).start,Zz Zq (x).stop,Zz Zq (x).bj,Zx (x).service.name,Zx (x).service.inst,Zx (x).service.aA,Zp (x).aB],Zz Zq e],([]:aO)))
theorem at1:Wk 277 11 aht:=by
 refine g8 Tryz.func277 λ_ _ _ h=> ?_;unfold aht at h;split at h;case h_2=>cases h
 rename_i kd k b;obtain⟨aI,rfl⟩:=ja h
 refine jI (aK (kd==1) (Zy (adw [Zp b] []) (kT λvs=>ar vs λx r=>Xz x λcs=>az cs λb i=>bg i λb e=>bg e λb f=>bg f λb d=>af AI d λn c=>af AT c λn l=>af AI l λt j=>af AI j λu o=>bg o λb m=>bg m λb p=>ak p (af AI r λq r=>ak r (aK (q==0) (Zy (abm [Zg 1 [Zz AT n]] []) λr=>aE (Zk r) (Yd 1 (Zd r) λb=>Zn (Zb [Zg 1 b,Zg 1 []],[]))) (Zn (Zb [Zg 1 [],Zg 1 []],[])))))) (aK (kd==3) (Zy (adl [Zp b,Zv Yq] []) (kT λvs=>ar vs λx r=>Xz x λcs=>af AT cs λn i=>bg i λv e=>bg e λO f=>bg f λP d=>af AI d λt c=>af AI c λu l=>dg l λE j=>af AI j λq o=>ak o (af AI r λs r=>ak r (aK (!s==0) (Zy (adl [Zp b,Zv Yx] []) (kT λvs=>ar vs λx r=>Xz x λcs=>af AT cs λn m=>bg m λb p=>bg p λb H=>bg H λb G=>af AI G λS D=>af AI D λR C=>dg C λb B=>af AI B λQ A=>ak A (af AI r λF r=>ak r (aK (F==0) (Zy (abm [Zg 1 [Zz AT n]] []) λr=>aE (Zk r) (Yd 1 (Zd r) λw=>Zy (abC [Zg 1 [Zp b]] []) λr=>aE (Zk r) (Yd 1 (Zd r) λb=>Zn (Zb [Zg 1 w,Zg 1 b],[])))) (Zn (Zb [Zg 1 [],Zg 1 []],[])))))) (aK (s==0) (Zy (abm [Zg 1 [Zz AT n]] []) λr=>aE (Zk r) (Yd 1 (Zd r) λb=>Zy (abC [Zg 1 [Zp E]] []) λr=>aE (Zk r) (Yd 1 (Zd r) λw=>Zn (Zb [Zg 1 b,Zg 1 w],[])))) (Zn (Zb [Zg 1 [],Zg 1 []],[]))))))) (aK (kd==7) (Zy (ae1 [Zp b] []) (kT λvs=>ar vs λx r=>Xz x λcs=>bg cs λb i=>af AI i λn e=>af AI e λn f=>af AI f λn d=>af AT d λn c=>ak c (af AI r λt r=>ak r (aK (t==0) (Zy (abm [Zg 1 [Zz AT n]] []) λr=>aE (Zk r) (Yd 1 (Zd r) λb=>Zn (Zb [Zg 1 b,Zg 1 []],[]))) (Zn (Zb [Zg 1 [],Zg 1 []],[])))))) (aK (kd==8) (Zy (ady [Zp b] []) (kT λvs=>ar vs λx r=>Xz x λcs=>bg cs λb i=>af AI i λn e=>af AT e λn f=>af AI f λt d=>af AI d λu c=>af AI c λq l=>bg l λb j=>bg j λb o=>bg o λb m=>dg m λb p=>ak p (af AI r λs r=>ak r (aK (s==0) (Zy (abm [Zg 1 [Zz AT n]] []) λr=>aE (Zk r) (Yd 1 (Zd r) λv=>Zy (abC [Zg 1 [Zp b]] []) λr=>aE (Zk r) (Yd 1 (Zd r) λb=>Zn (Zb [Zg 1 v,Zg 1 b],[])))) (Zn (Zb [Zg 1 [],Zg 1 []],[])))))) (aK (kd==9) (Zy (ae5 [Zp b] []) (kT λvs=>ar vs λx r=>Xz x λcs=>bg cs λb i=>bg i λb e=>bg e λb f=>bg f λb d=>bg d λb c=>bg c λb l=>af AT l λn j=>af AI j λt o=>af AI o λu m=>af AI m λq p=>ak p (af AI r λs r=>ak r (aK (s==0) (Zy (abm [Zg 1 [Zz AT n]] []) λr=>aE (Zk r) (Yd 1 (Zd r) λb=>Zn (Zb [Zg 1 b,Zg 1 []],[]))) (Zn (Zb [Zg 1 [],Zg 1 []],[])))))) (aK (kd==10) (Zy (ae6 [Zp b] []) (kT λvs=>ar vs λx r=>Xz x λcs=>af AT cs λn i=>bg i λb e=>bg e λb f=>bg f λb d=>af AI d λt c=>af AI c λu l=>dg l λb j=>ak j (af AI r λq r=>ak r (aK (q==0) (Zy (abm [Zg 1 [Zz AT n]] []) λr=>aE (Zk r) (Yd 1 (Zd r) λv=>Zy (abC [Zg 1 [Zp b]] []) λr=>aE (Zk r) (Yd 1 (Zd r) λb=>Zn (Zb [Zg 1 v,Zg 1 b],[])))) (Zn (Zb [Zg 1 [],Zg 1 []],[])))))) (Zn (Zb [Zg 1 [],Zg 1 []],[])))))))) ?_
 delta kT;dsimp only[adw,abC,abm,adl,ae1,ady,ae5,ae6,bg,dg,az,lR,af,eg,jM];have hb:=Qa3 aI;have N:Zf (b.length<=140737488355328)=Yx:=by simp;omega
 have k1:=Kerb.iw b;have k2:=Kerb.k_ b;have L:=Kerb.gx b;have K:=Kerb.iH b;have J:=Kerb.vf b;have I:=Kerb.ud b;have t2:=Kerb.lW b;have t4:=Kerb.jb b;have t6:=Kerb.k9 b;have u2:∀ li,(Kerb.aX b li).val.aB.length<=70368744177664:=λli=>Zm (t2 li) (by omega);have z:(Kerb.aV b).val.aB.length<=70368744177664:=Zm t4 (by omega);have y:(Kerb.bA b).val.record.length<=70368744177664:=Zm t6 (by omega);simp only[A0,Xy,Xw,Kerb.jj.av,N,Kerb.Fi k1,Kerb.Fi (k2 _),Kerb.Fi L,Kerb.Fi K,Kerb.Fi J,Kerb.Fi I,Kerb.vy (u2 _),Kerb.vy z,Kerb.vy y];unfold Kerb.h_;simp only;by_cases a:kd=1
 .rw[ae (by simpa using a),Qa1 a];by_cases g:(Kerb.aW b).err=0
  .rw[ae (by simpa using g),Qa1 g];rfl
  .rw[ai (by simpa using g),Qa0 g];rfl
 rw[ai (by simpa using a),Qa0 a];clear a;by_cases a:kd=3
 .rw[ae (by simpa using a),Qa1 a];by_cases g:(Kerb.aX b Yq).err=0
  .simp only[g,Qb1,Bool.not_true,eA,gO,if_true];rfl
  .have M:((Kerb.aX b Yq).err==0)=Yq:=by simpa using g
   simp only[M,Bool.not_false,gO,Qa0 g];by_cases g2:(Kerb.aX b Yx).err=0
   .rw[ae (by simpa using g2),Qa1 g2];rfl
   .rw[ai (by simpa using g2),Qa0 g2];rfl
 rw[ai (by simpa using a),Qa0 a];clear a;by_cases a:kd=7
 .rw[ae (by simpa using a),Qa1 a];by_cases g:(Kerb.ck b).err=0
  .rw[ae (by simpa using g),Qa1 g];rfl
  .rw[ai (by simpa using g),Qa0 g];rfl
 rw[ai (by simpa using a),Qa0 a];clear a;by_cases a:kd=8
 .rw[ae (by simpa using a),Qa1 a];by_cases g:(Kerb.aV b).err=0
  .rw[ae (by simpa using g),Qa1 g];rfl
  .rw[ai (by simpa using g),Qa0 g];rfl
 rw[ai (by simpa using a),Qa0 a];clear a;by_cases a:kd=9
 .rw[ae (by simpa using a),Qa1 a];by_cases g:(Kerb.bz b).err=0
  .rw[ae (by simpa using g),Qa1 g];rfl
  .rw[ai (by simpa using g),Qa0 g];rfl
 rw[ai (by simpa using a),Qa0 a];clear a;by_cases a:kd=10
 .rw[ae (by simpa using a),Qa1 a];by_cases g:(Kerb.bA b).err=0
  .rw[ae (by simpa using g),Qa1 g];rfl
  .rw[ai (by simpa using g),Qa0 g];rfl
 rw[ai (by simpa using a),Qa0 a];clear a;rfl
theorem aln:Wk 120 12 DQ:=by
 refine g8 Tryz.func120 λ_ _ _ h=> ?_;unfold DQ at h;split at h;case h_2=>cases h
 rename_i b;obtain⟨aI,rfl⟩:=ja h;refine jI (Zy (aeQ [Zp b] []) λr=>aE (Zk r) (Yd 1 (Zd r) λb=>Zy (abC [Zg 1 b] []) λr=>aE (Zk r) (Yd 1 (Zd r) λb=>Zn (Zg 1 b,[])))) ?_;dsimp only[abC,aeQ];have hb:=Qa3 aI;have a:Zf (b.length<=140737488355328)=Yx:=by simp;omega
 simp only[A0,Xy,Xw,Kerb.jj.av,aI,Kerb.HO hb,Kerb.lK];rfl
theorem w50:Wk 50 15 acH:=by
 refine g8 Tryz.func50 λ_ _ _ h=> ?_;unfold acH at h;split at h;case h_2=>cases h
 rename_i ks bs b;obtain⟨aI,rfl⟩:=ja h;refine jI (Kerb.Mi ks bs b) ?_;simp only[Zu,Qa2] at aI;exact Kerb.PM aI.1 aI.2
theorem w51:Wk 51 15 aeI:=by
 refine g8 Tryz.func51 λ_ _ _ h=> ?_;unfold aeI at h;split at h;case h_2=>cases h
 rename_i ks bs k;obtain⟨aI,rfl⟩:=ja h;refine jI (Kerb.SY ks bs k) ?_;simp only[Zu,Qa2] at aI;obtain⟨⟨⟨a,b⟩,c⟩,d⟩:=aI;exact Kerb.SZ a (by simp[b,c]) d
end Go.Proofs.YtledffmjoegdeaaGreat
