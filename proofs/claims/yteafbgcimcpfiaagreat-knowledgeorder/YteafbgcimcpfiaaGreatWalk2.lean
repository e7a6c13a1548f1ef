/- What the functions of this seat compute. -/
import Derived.Test.YteafbgcimcpfiaaGreatWalk1
set_option linter.all false
open Go.Abs.AV renaming int→Zz,str→Zq,bs→Zk,bool→Zd,undef→Zn,ax→Yy,aQ→Yu,aF→Yq,agg→Xv,aR→Xj
open List renaming length→Zy,getD→Zf,set→Zh
open Int renaming toNat→Zx,eq_ofNat_of_zero_le→Yx,toNat_natCast→Xg
open Go.IntKind renaming wrap→Zw,i64→Xm
open Option renaming bind→Zv,some→Zm,none→Wu
open Decidable renaming decide→Zu
open Kerb renaming within→Zj,af→Yz,ai→Yj,ah→Yk,next→Yg,rd→Xx,aT→Xu,swp_size→Xq,wr→Xp,cM→Xd,c6→Xf,c8→Xb,back→Xn,bV→Xh,eT→Wz,tq→Wy,header→Wv
open Bool renaming not_true→Zp,true→Zb,and_eq_true→Yp,false→Yd,true_and→Wx,and_self→Ww
open Nat renaming blt→Zg,beq_refl→Yn,beq→Xk
open Array renaming setIfInBounds→Yw,size_setIfInBounds→Yb
open Prod renaming snd→Yv,fst→Ym
open Sum renaming inr→Yf,inl→Xz
open Kerb.Client renaming av→Yh
open Kerb.Cache renaming av→Xy
open Go.Abs.Ex renaming exit→Xw
namespace Go.Proofs.YteafbgcimcpfiaaGreat
open Go Go.Abs Go.Proofs
set_option maxRecDepth 100000
theorem abv:Wk 268 3 Gw:=by
 refine cw Tryz.func268 rfl fun xs bl r h=> ?_;unfold Gw at h;split at h;case h_2=>cases h
 rename_i a b els;obtain⟨aB,rfl⟩:=dz h;show eb (G.env 268 3) G.rts (G.own 268) Tryz.f268 _ _ [0]=_
 refine cu (Zv (bw (fun st=>ay st fun x r=>Xj x fun y=>ak .i64 r fun n r=>ak .i64 r fun bn r=>aE r fun b r=>ak .i64 r fun b_ r=>ak .i64 r fun eO r=>aw r (aD (Zu (eO<5)) (Zv (bw (fun st=>ay st fun x r=>Xj x fun y=>ak .i64 r fun n r=>ak .i64 r fun bY r=>ak .i64 r fun bF r=>ak .i64 r fun fb r=>aE r fun b r=>let t0:Option (List AV ⊕ Ex×List AV):=Zm (Yf (Xw 2,[Yq y,Zz .i64 n,Zz .i64 bY,Zz .i64 bF,Zz .i64 fb,Zd b]));aw r (aD (Zu (bF<bY)) (az (Zu (0<=bF)&&Zu (bF<(↑(Zy y):Int))&&Zb) (az (Zg (Zx bF) (Zy y)&&Zb) (Yy .u64 (Zf y (Zx bF) Zn) fun eX=>az (Zu (0<=Zw .i64 (bF-1))&&Zu (Zw .i64 (bF-1)<(↑(Zy y):Int))&&Zb) (az (Zg (Zx (Zw .i64 (bF-1))) (Zy y)&&Zb) (Yy .u64 (Zf y (Zx (Zw .i64 (bF-1))) Zn) fun gK=>aD (!Zu (eX<gK)) (Zm (Xz [Yq y,Zz .i64 n,Zz .i64 bY,Zz .i64 (Zw .i64 (bF+1)),Zz .i64 fb,Zd b])) t0))))) t0)) [Yq y,Zz .i64 n,Zz .i64 bn,Zz .i64 b_,Zz .i64 eO,Zd b]) fun(r:Ex×List AV)=>ay (Yv r) fun x eH=>Xj x fun y=>ak .i64 eH fun n eP=>ak .i64 eP fun bY eV=>ak .i64 eV fun bF fR=>ak .i64 fR fun fb hZ=>let t1:List AV:=[Zz .i64 bF,Zz .i64 fb];aE hZ fun b jj=>aw jj (jq r.1 (Zm (Yf (Ex.ret,Yq y::Zz .i64 n::Zz .i64 bY::Zd b::t1))) fun(j:Nat)=>aD (Xk j 2) (aD (bF==bY) (Zm (Yf (Ex.ret,Yq y::Zz .i64 n::Zz .i64 bY::Zd Zb::t1))) (aD (Zu (Zw .i64 (bY-n)<50)) (Zm (Yf (Ex.ret,Yq y::Zz .i64 n::Zz .i64 bY::Zd Yd::t1))) (az (Zu (0<=Zw .i64 (bF-1))&&Zu (Zw .i64 (bF-1)<(↑(Zy y):Int))&&Zb) (az (Zg (Zx (Zw .i64 (bF-1))) (Zy y)&&Zb) (Yy .u64 (Zf y (Zx (Zw .i64 (bF-1))) Zn) fun eX=>let t2:Bool:=Zg (Zx (Zw .i64 (bF-1))) (Zy (Zh y (Zx bF) (Zz .u64 eX)));az (Zu (0<=bF)&&Zu (bF<(↑(Zy y):Int))&&Zb) (az (Zg (Zx bF) (Zy y)&&Zb) (Yy .u64 (Zf y (Zx bF) Zn) fun gK=>let t3:AV:=Yq (Zh (Zh y (Zx bF) (Zz .u64 eX)) (Zx (Zw .i64 (bF-1))) (Zz .u64 gK));az (Zu (0<=bF)&&Zu (bF<(↑(Zy y):Int))&&Zb) (az (Zg (Zx bF) (Zy y)&&Zb) (Yy .u64 (Zf y (Zx bF) Zn) fun kH=>az (Zy [Zz .u64 eX]==nat_lit 1&&Zb&&Zb&&Zb&&Zg (Zx bF) (Zy y)) (az (Zu (0<=Zw .i64 (bF-1))&&Zu (Zw .i64 (bF-1)<(↑(Zy (Zh y (Zx bF) (Zz .u64 eX))):Int))&&Zb) (az (t2&&Zb) (Yy .u64 (Zf (Zh y (Zx bF) (Zz .u64 eX)) (Zx (Zw .i64 (bF-1))) Zn) fun lL=>az (Zy [Zz .u64 gK]==nat_lit 1&&Zb&&Zb&&Zb&&t2) (aD (Zu (Zw .i64 (bF-n)>=2)) (Zv (bw (fun st=>ay st fun x r=>Xj x fun y=>ak .i64 r fun n r=>ak .i64 r fun gp r=>ak .i64 r fun iN r=>ak .i64 r fun fL r=>ak .i64 r fun bh r=>let t4:Bool:=Zu (0<=bh)&&Zu (bh<(↑(Zy y):Int))&&Zb;let t5:Bool:=Zu (0<=Zw .i64 (bh-1))&&Zu (Zw .i64 (bh-1)<(↑(Zy y):Int))&&Zb;aE r fun b r=>let t6:Option (List AV ⊕ Ex×List AV):=Zm (Yf (Xw 4,[Yq y,Zz .i64 n,Zz .i64 gp,Zz .i64 iN,Zz .i64 fL,Zz .i64 bh,Zd b]));aw r (aD (Zu (bh>=1)) (az t4 (az (Zg (Zx bh) (Zy y)&&Zb) (Yy .u64 (Zf y (Zx bh) Zn) fun gP=>az t5 (az (Zg (Zx (Zw .i64 (bh-1))) (Zy y)&&Zb) (Yy .u64 (Zf y (Zx (Zw .i64 (bh-1))) Zn) fun eU=>aD (!Zu (gP<eU)) t6 (az t5 (az (Zg (Zx (Zw .i64 (bh-1))) (Zy y)&&Zb) (Yy .u64 (Zf y (Zx (Zw .i64 (bh-1))) Zn) fun da=>let t7:Bool:=Zg (Zx (Zw .i64 (bh-1))) (Zy (Zh y (Zx bh) (Zz .u64 da)));az t4 (az (Zg (Zx bh) (Zy y)&&Zb) (Yy .u64 (Zf y (Zx bh) Zn) fun bB=>az t4 (az (Zg (Zx bh) (Zy y)&&Zb) (Yy .u64 (Zf y (Zx bh) Zn) fun oP=>az (Zy [Zz .u64 da]==nat_lit 1&&Zb&&Zb&&Zb&&Zg (Zx bh) (Zy y)) (az (Zu (0<=Zw .i64 (bh-1))&&Zu (Zw .i64 (bh-1)<(↑(Zy (Zh y (Zx bh) (Zz .u64 da))):Int))&&Zb) (az (t7&&Zb) (Yy .u64 (Zf (Zh y (Zx bh) (Zz .u64 da)) (Zx (Zw .i64 (bh-1))) Zn) fun oQ=>az (Zy [Zz .u64 bB]==nat_lit 1&&Zb&&Zb&&Zb&&t7) (Zm (Xz [Yq (Zh (Zh y (Zx bh) (Zz .u64 da)) (Zx (Zw .i64 (bh-1))) (Zz .u64 bB)),Zz .i64 n,Zz .i64 gp,Zz .i64 iN,Zz .i64 fL,Zz .i64 (Zw .i64 (bh-1)),Zd b]))))))))))))))))) t6)) [t3,Zz .i64 n,Zz .i64 bY,Zz .i64 bF,Zz .i64 fb,Zz .i64 (Zw .i64 (bF-1)),Zd b]) fun(r:Ex×List AV)=>ay (Yv r) fun x kG=>Xj x fun y=>ak .i64 kG fun n mT=>ak .i64 mT fun gp mf=>ak .i64 mf fun iN gu=>ak .i64 gu fun fL g8=>ak .i64 g8 fun bh g9=>aE g9 fun b kf=>aw kf (jq r.1 (Zm (Yf (Ex.ret,[Yq y,Zz .i64 n,Zz .i64 gp,Zd b,Zz .i64 iN,Zz .i64 fL]))) fun(j:Nat)=>aD (Xk j 4) (aD (Zu (Zw .i64 (gp-iN)>=2)) (Zv (bw (fun st=>ay st fun x r=>Xj x fun y=>ak .i64 r fun n r=>ak .i64 r fun gP r=>ak .i64 r fun eU r=>ak .i64 r fun da r=>ak .i64 r fun bB r=>let t8:Bool:=Zu (0<=bB)&&Zu (bB<(↑(Zy y):Int))&&Zb;let t9:Bool:=Zu (0<=Zw .i64 (bB-1))&&Zu (Zw .i64 (bB-1)<(↑(Zy y):Int))&&Zb;aE r fun b r=>let t10:Option (List AV ⊕ Ex×List AV):=Zm (Yf (Xw 6,[Yq y,Zz .i64 n,Zz .i64 gP,Zz .i64 eU,Zz .i64 da,Zz .i64 bB,Zd b]));aw r (aD (Zu (bB<gP)) (az t8 (az (Zg (Zx bB) (Zy y)&&Zb) (Yy .u64 (Zf y (Zx bB) Zn) fun oP=>az t9 (az (Zg (Zx (Zw .i64 (bB-1))) (Zy y)&&Zb) (Yy .u64 (Zf y (Zx (Zw .i64 (bB-1))) Zn) fun oQ=>aD (!Zu (oP<oQ)) t10 (az t9 (az (Zg (Zx (Zw .i64 (bB-1))) (Zy y)&&Zb) (Yy .u64 (Zf y (Zx (Zw .i64 (bB-1))) Zn) fun ik=>let t11:Bool:=Zg (Zx (Zw .i64 (bB-1))) (Zy (Zh y (Zx bB) (Zz .u64 ik)));az t8 (az (Zg (Zx bB) (Zy y)&&Zb) (Yy .u64 (Zf y (Zx bB) Zn) fun sZ=>az t8 (az (Zg (Zx bB) (Zy y)&&Zb) (Yy .u64 (Zf y (Zx bB) Zn) fun ML=>az (Zy [Zz .u64 ik]==nat_lit 1&&Zb&&Zb&&Zb&&Zg (Zx bB) (Zy y)) (az (Zu (0<=Zw .i64 (bB-1))&&Zu (Zw .i64 (bB-1)<(↑(Zy (Zh y (Zx bB) (Zz .u64 ik))):Int))&&Zb) (az (t11&&Zb) (Yy .u64 (Zf (Zh y (Zx bB) (Zz .u64 ik)) (Zx (Zw .i64 (bB-1))) Zn) fun MN=>az (Zy [Zz .u64 sZ]==nat_lit 1&&Zb&&Zb&&Zb&&t11) (Zm (Xz [Yq (Zh (Zh y (Zx bB) (Zz .u64 ik)) (Zx (Zw .i64 (bB-1))) (Zz .u64 sZ)),Zz .i64 n,Zz .i64 gP,Zz .i64 eU,Zz .i64 da,Zz .i64 (Zw .i64 (bB+1)),Zd b]))))))))))))))))) t10)) [Yq y,Zz .i64 n,Zz .i64 gp,Zz .i64 iN,Zz .i64 fL,Zz .i64 (Zw .i64 (iN+1)),Zd b]) fun(r:Ex×List AV)=>ay (Yv r) fun x lB=>Xj x fun y=>ak .i64 lB fun n lC=>ak .i64 lC fun gP mc=>ak .i64 mc fun eU ue=>ak .i64 ue fun da uf=>ak .i64 uf fun bB ug=>aE ug fun b uh=>aw uh (jq r.1 (Zm (Yf (Ex.ret,[Yq y,Zz .i64 n,Zz .i64 gP,Zd b,Zz .i64 eU,Zz .i64 da]))) fun(j:Nat)=>aD (Xk j 6) (Zm (Xz [Yq y,Zz .i64 n,Zz .i64 gP,Zd b,Zz .i64 eU,Zz .i64 (Zw .i64 (da+1))])) Wu)) (Zm (Xz [Yq y,Zz .i64 n,Zz .i64 gp,Zd b,Zz .i64 iN,Zz .i64 (Zw .i64 (fL+1))]))) Wu)) (aD (Zu (Zw .i64 (bY-bF)>=2)) (Zv (bw (fun st=>ay st fun x r=>Xj x fun y=>ak .i64 r fun n r=>ak .i64 r fun gp r=>ak .i64 r fun iN r=>ak .i64 r fun fL r=>ak .i64 r fun bh r=>let t12:Bool:=Zu (0<=bh)&&Zu (bh<(↑(Zy y):Int))&&Zb;let t13:Bool:=Zu (0<=Zw .i64 (bh-1))&&Zu (Zw .i64 (bh-1)<(↑(Zy y):Int))&&Zb;aE r fun b r=>let t14:Option (List AV ⊕ Ex×List AV):=Zm (Yf (Xw 6,[Yq y,Zz .i64 n,Zz .i64 gp,Zz .i64 iN,Zz .i64 fL,Zz .i64 bh,Zd b]));aw r (aD (Zu (bh<gp)) (az t12 (az (Zg (Zx bh) (Zy y)&&Zb) (Yy .u64 (Zf y (Zx bh) Zn) fun gP=>az t13 (az (Zg (Zx (Zw .i64 (bh-1))) (Zy y)&&Zb) (Yy .u64 (Zf y (Zx (Zw .i64 (bh-1))) Zn) fun eU=>aD (!Zu (gP<eU)) t14 (az t13 (az (Zg (Zx (Zw .i64 (bh-1))) (Zy y)&&Zb) (Yy .u64 (Zf y (Zx (Zw .i64 (bh-1))) Zn) fun da=>let t15:Bool:=Zg (Zx (Zw .i64 (bh-1))) (Zy (Zh y (Zx bh) (Zz .u64 da)));az t12 (az (Zg (Zx bh) (Zy y)&&Zb) (Yy .u64 (Zf y (Zx bh) Zn) fun bB=>az t12 (az (Zg (Zx bh) (Zy y)&&Zb) (Yy .u64 (Zf y (Zx bh) Zn) fun oP=>az (Zy [Zz .u64 da]==nat_lit 1&&Zb&&Zb&&Zb&&Zg (Zx bh) (Zy y)) (az (Zu (0<=Zw .i64 (bh-1))&&Zu (Zw .i64 (bh-1)<(↑(Zy (Zh y (Zx bh) (Zz .u64 da))):Int))&&Zb) (az (t15&&Zb) (Yy .u64 (Zf (Zh y (Zx bh) (Zz .u64 da)) (Zx (Zw .i64 (bh-1))) Zn) fun oQ=>az (Zy [Zz .u64 bB]==nat_lit 1&&Zb&&Zb&&Zb&&t15) (Zm (Xz [Yq (Zh (Zh y (Zx bh) (Zz .u64 da)) (Zx (Zw .i64 (bh-1))) (Zz .u64 bB)),Zz .i64 n,Zz .i64 gp,Zz .i64 iN,Zz .i64 fL,Zz .i64 (Zw .i64 (bh+1)),Zd b]))))))))))))))))) t14)) [t3,Zz .i64 n,Zz .i64 bY,Zz .i64 bF,Zz .i64 fb,Zz .i64 (Zw .i64 (bF+1)),Zd b]) fun(r:Ex×List AV)=>ay (Yv r) fun x kG=>Xj x fun y=>ak .i64 kG fun n mT=>ak .i64 mT fun gp mf=>ak .i64 mf fun iN gu=>ak .i64 gu fun fL g8=>ak .i64 g8 fun bh g9=>aE g9 fun b kf=>aw kf (jq r.1 (Zm (Yf (Ex.ret,[Yq y,Zz .i64 n,Zz .i64 gp,Zd b,Zz .i64 iN,Zz .i64 fL]))) fun(j:Nat)=>aD (Xk j 6) (Zm (Xz [Yq y,Zz .i64 n,Zz .i64 gp,Zd b,Zz .i64 iN,Zz .i64 (Zw .i64 (fL+1))])) Wu)) (Zm (Xz [t3,Zz .i64 n,Zz .i64 bY,Zd b,Zz .i64 bF,Zz .i64 (Zw .i64 (fb+1))])))))))))))))))) Wu)) (Zm (Yf (Xw 0,[Yq y,Zz .i64 n,Zz .i64 bn,Zd b,Zz .i64 b_,Zz .i64 eO]))))) [Yq els,Zz .i64 a,Zz .i64 b,Zd Yd,Zz .i64 (Zw .i64 (a+1)),Zz .i64 0]) fun(r:Ex×List AV)=>ay (Yv r) fun x eH=>Xj x fun y=>ak .i64 eH fun n eP=>ak .i64 eP fun n eV=>aE eV fun b fR=>ak .i64 fR fun n hZ=>ak .i64 hZ fun n jj=>aw jj (jq r.1 (Zm (Zd b,[y])) fun(j:Nat)=>aD (Xk j 0) (Zm (Zd Yd,[y])) Wu)) (by kernel_rfl) ?_
 try dsimp only[aK,bq,aE,dl,ak,bW,dx]
 simp only[Yp,Qa2] at aB;obtain⟨⟨⟨⟨⟨fK,hlen⟩,GJ⟩,uu⟩,hb⟩,eY⟩:=aB;obtain⟨d,rfl,hd⟩:=Kerb.lz fK;simp only[Xu] at hlen hb;obtain⟨a,rfl⟩:=Yx (show 0<=a by omega);obtain⟨b,rfl⟩:=Yx (show 0<=b by omega);simp only[Kerb.vH,Kerb.eo,Xg];unfold Go.Sort.partialInsertionSort;rw[show Zw .i64 ((a:Int)+1)=((a+1:Nat):Int) from(Kerb.ga (by omega) (by omega)).trans (by omega)];refine bZ (fun s:Array Int×Nat×Nat=>[Yq (Xn s.1),Zz .i64 (a:Int),Zz .i64 (b:Int),Zd Yd,Zz .i64 (s.2.1:Int),Zz .i64 (s.2.2:Int)]) (fun s=>s.1.size=d.size/\a+1<=s.2.1/\s.2.1<=b/\s.2.2<=5/\Go.Sort.partialIns Go.Sort.ltInt a b (5-s.2.2) s.2.1 s.1=Go.Sort.partialIns Go.Sort.ltInt a b 5 (a+1) d) (fun s=>5-s.2.2) (fun r=>∃ i n,(r.1 = .ret\/r.1 = .exit 0/\(Go.Sort.partialIns Go.Sort.ltInt a b 5 (a+1) d).2=Yd)/\r.2=[Yq (Xn (Go.Sort.partialIns Go.Sort.ltInt a b 5 (a+1) d).1),Zz .i64 (a:Int),Zz .i64 (b:Int),Zd (Go.Sort.partialIns Go.Sort.ltInt a b 5 (a+1) d).2,Zz .i64 i,Zz .i64 n]) (d,a+1,0) ⟨rfl,by dsimp only;omega,by dsimp only;omega,by dsimp only;omega,rfl⟩ rfl ?_ ?_
 ·rintro⟨e,i,s⟩ ⟨hs,hi,XQ,hs5,hr⟩;dsimp only at hs hi XQ hs5 hr ⊢;simp only[↓bD,↓bS,↓cL,↓c7,↓cP];by_cases h5:s<5;case neg =>
   rw[aj (by simp;omega)];rw[show 5-s=0 by omega] at hr;refine⟨_,rfl,(i:Int),(s:Int),.inr ⟨rfl,?_⟩,?_⟩
   ·rw[<-hr];rfl
   ·rw[<-hr];rfl
  rw[ag (by simp;omega)];rw[show 5-s=(5-(s+1))+1 by omega,Go.Sort.partialIns_succ] at hr;rw[Kerb.DH (by omega) (by omega) _ i rfl (by omega) XQ];have hl:=Kerb.A8 (lt:=Go.Sort.ltInt) (d:=e) (b:=b) _ i rfl XQ;generalize Go.Sort.scanSorted Go.Sort.ltInt e b i=j at hl hr ⊢;simp only[↓fe];simp only[↓bD,↓bS,↓cL,↓c7,↓cP,↓jB];rw[ag (Yn _)];by_cases SG:j=b
  ·rw[Qa1 SG] at hr;rw[ag (by simp;omega)];refine⟨_,rfl,(j:Int),(s:Int),.inl rfl,?_⟩;rw[<-hr]
  rw[Qa0 SG] at hr;rw[aj (by simp;omega),show Zw .i64 ((b:Int)-(a:Int))=((b-a:Nat):Int) from(Kerb.ga (by omega) (by omega)).trans (by omega)];by_cases Ti:b-a<50
  ·rw[Qa1 Ti] at hr;rw[ag (by simp;omega)];refine⟨_,rfl,(j:Int),(s:Int),.inl rfl,?_⟩;rw[<-hr]
  rw[Qa0 Ti] at hr;rw[aj (by simp;omega)];have g1:j<e.size:=by omega
  have g2:j-1<e.size:=by omega
  simp only[show Zw .i64 ((j:Int)-1)=((j-1:Nat):Int) from(Kerb.ga (by omega) (by omega)).trans (by omega),show Zw .i64 ((j:Int)-(a:Int))=((j-a:Nat):Int) from(Kerb.ga (by omega) (by omega)).trans (by omega)];rw[Xx g2,Xx g1,Xp g1 (by simp[Xu];omega),Xd,Xp (by rw[Yb];exact g2) (by simp[Xu];omega),Xd,show(Yw (Yw e j e[j-1]!) (j-1) e[j]!)=Go.Sort.swp e j (j-1) from rfl];have hz:(Go.Sort.swp e j (j-1)).size=d.size:=by rw[Xq,hs]
  generalize Go.Sort.swp e j (j-1)=f at hz hr ⊢;have fin:∀ g:Array Int,g.size=d.size->Go.Sort.fixUp Go.Sort.ltInt b j (Go.Sort.fixDown Go.Sort.ltInt a j f)=g->∃ y,Zm (Xz [Yq (Xn g),Zz .i64 (a:Int),Zz .i64 (b:Int),Zd Yd,Zz .i64 (j:Int),Zz .i64 (Zw .i64 ((s:Int)+1))])=Zm y/\Bf (ρ:=Ex×List AV) (fun s:Array Int×Nat×Nat=>[Yq (Xn s.1),Zz .i64 (a:Int),Zz .i64 (b:Int),Zd Yd,Zz .i64 (s.2.1:Int),Zz .i64 (s.2.2:Int)]) (fun s=>s.1.size=d.size/\a+1<=s.2.1/\s.2.1<=b/\s.2.2<=5/\Go.Sort.partialIns Go.Sort.ltInt a b (5-s.2.2) s.2.1 s.1=Go.Sort.partialIns Go.Sort.ltInt a b 5 (a+1) d) (fun s=>5-s.2.2) (fun r=>∃ i n,(r.1 = .ret\/r.1 = .exit 0/\(Go.Sort.partialIns Go.Sort.ltInt a b 5 (a+1) d).2=Yd)/\r.2=[Yq (Xn (Go.Sort.partialIns Go.Sort.ltInt a b 5 (a+1) d).1),Zz .i64 (a:Int),Zz .i64 (b:Int),Zd (Go.Sort.partialIns Go.Sort.ltInt a b 5 (a+1) d).2,Zz .i64 i,Zz .i64 n]) (e,i,s) y:=fun g hg hf=>by
   rw[show Zw .i64 ((s:Int)+1)=((s+1:Nat):Int) from(Kerb.ga (by omega) (by omega)).trans (by omega)];refine⟨_,rfl,(g,j,s+1),rfl,⟨hg,by dsimp only;omega,by dsimp only;omega,by dsimp only;omega,?_⟩,by dsimp only;omega⟩;dsimp only;rw[<-hr,hf]
  have hbj:∀ g:Array Int,Zw .i64 ((b:Int)-(j:Int))=((b-j:Nat):Int):=fun _=>(Kerb.ga (by omega) (by omega)).trans (by omega);simp only[hbj f,show Zw .i64 ((j:Int)+1)=((j+1:Nat):Int) from(Kerb.ga (by omega) (by omega)).trans (by omega)];have up:∀ g:Array Int,g.size=d.size->Go.Sort.fixDown Go.Sort.ltInt a j f=g->b-j>=2->Go.Sort.fixUp Go.Sort.ltInt b j (Go.Sort.fixDown Go.Sort.ltInt a j f)=Go.Sort.shiftUp Go.Sort.ltInt b (j+1) g/\(Go.Sort.shiftUp Go.Sort.ltInt b (j+1) g).size=d.size:=fun g hg hf h=>⟨by rw[hf];unfold Go.Sort.fixUp;rw[Qa1 h],by rw[Kerb.vM _ _ _ rfl,hg]⟩;by_cases ON:j-a>=2
  ·rw[ag (by simp;omega)];obtain⟨m,hm⟩:=Kerb.FO (A:=(a:Int)) (B:=(b:Int)) (I:=(j:Int)) (s:=(s:Int)) (bb:=Yd) (e:=4) (j-1) f (by omega) (by omega);rw[hm];have KY:(Go.Sort.shiftDown Go.Sort.ltInt (j-1) f).size=d.size:=by rw[Kerb.sa,hz]
   have IE:Go.Sort.fixDown Go.Sort.ltInt a j f=Go.Sort.shiftDown Go.Sort.ltInt (j-1) f:=by unfold Go.Sort.fixDown;rw[Qa1 ON]
   generalize Go.Sort.shiftDown Go.Sort.ltInt (j-1) f=g at KY IE ⊢;simp only[↓fe];simp only[↓bD,↓bS,↓cL,↓c7,↓cP,↓jB];rw[ag (Yn _)];simp only[hbj g,show Zw .i64 ((j:Int)+1)=((j+1:Nat):Int) from(Kerb.ga (by omega) (by omega)).trans (by omega)];by_cases wb:b-j>=2
   ·rw[ag (by simp;omega)];obtain⟨m,hm⟩:=Kerb.B3 (A:=(a:Int)) (I:=(j:Int)) (s:=(s:Int)) (bb:=Yd) (b:=b) (e:=6) _ (j+1) g rfl (by omega) (by omega) (by omega) (by omega);rw[hm];simp only[↓fe];simp only[↓bD,↓bS,↓cL,↓c7,↓cP,↓jB];rw[ag (Yn _)];exact fin _ (up g KY IE wb).2 (up g KY IE wb).1
   ·rw[aj (by simp;omega)];exact fin _ KY (by rw[IE];unfold Go.Sort.fixUp;rw[Qa0 wb])
  ·rw[aj (by simp;omega)];have IE:Go.Sort.fixDown Go.Sort.ltInt a j f=f:=by unfold Go.Sort.fixDown;rw[Qa0 ON]
   by_cases wb:b-j>=2
   ·rw[ag (by simp;omega)];obtain⟨m,hm⟩:=Kerb.B3 (A:=(a:Int)) (I:=(j:Int)) (s:=(s:Int)) (bb:=Yd) (b:=b) (e:=6) _ (j+1) f rfl (by omega) (by omega) (by omega) (by omega);rw[hm];simp only[↓fe];simp only[↓bD,↓bS,↓cL,↓c7,↓cP,↓jB];rw[ag (Yn _)];exact fin _ (up f hz IE wb).2 (up f hz IE wb).1
   ·rw[aj (by simp;omega)];exact fin _ hz (by rw[IE];unfold Go.Sort.fixUp;rw[Qa0 wb])
 ·rintro⟨x,l⟩ ⟨i,n,h | ⟨h,hf⟩,rfl⟩
  ·dsimp only at h;subst h;simp only[↓bD,↓bS,↓cL,↓c7,↓cP,↓PQ]
  ·dsimp only at h;subst h;simp only[↓bD,↓bS,↓cL,↓c7,↓cP,↓jB];rw[ag (Yn _),hf]
theorem abx:Wk 270 3 B_:=by
 refine cw Tryz.func270 rfl fun xs bl r h=> ?_;unfold B_ at h;split at h;case h_2=>cases h
 rename_i a b p els;obtain⟨aB,rfl⟩:=dz h;show eb (G.env 270 3) G.rts (G.own 270) Tryz.f270 _ _ [0]=_
 refine cu (az (Zu (0<=p)&&Zu (p<(↑(Zy els):Int))&&Zb) (az (Zg (Zx p) (Zy els)&&Zb) (Yy .u64 (Zf els (Zx p) Zn) fun n=>az (Zu (0<=a)&&Zu (a<(↑(Zy els):Int))&&Zb) (az (Zg (Zx a) (Zy els)&&Zb) (Yy .u64 (Zf els (Zx a) Zn) fun bn=>az (Zu (0<=a)&&Zu (a<(↑(Zy els):Int))&&Zb) (az (Zg (Zx a) (Zy els)&&Zb) (Yy .u64 (Zf els (Zx a) Zn) fun b_=>az (Zy [Zz .u64 n]==nat_lit 1&&Zb&&Zb&&Zb&&Zg (Zx a) (Zy els)) (az (Zu (0<=p)&&Zu (p<(↑(Zy (Zh els (Zx a) (Zz .u64 n))):Int))&&Zb) (az (Zg (Zx p) (Zy (Zh els (Zx a) (Zz .u64 n)))&&Zb) (Yy .u64 (Zf (Zh els (Zx a) (Zz .u64 n)) (Zx p) Zn) fun eO=>az (Zy [Zz .u64 bn]==nat_lit 1&&Zb&&Zb&&Zb&&Zg (Zx p) (Zy (Zh els (Zx a) (Zz .u64 n)))) (Zv (bw (fun st=>ay st fun x r=>Xj x fun y=>ak .i64 r fun n r=>ak .i64 r fun bY r=>ak .i64 r fun bF r=>aw r (Zv (bw (fun st=>ay st fun x r=>Xj x fun y=>ak .i64 r fun n r=>ak .i64 r fun fb r=>ak .i64 r fun eX r=>aw r (aD (Zu (fb<=eX)) (az (Zu (0<=n)&&Zu (n<(↑(Zy y):Int))&&Zb) (az (Zg (Zx n) (Zy y)&&Zb) (Yy .u64 (Zf y (Zx n) Zn) fun gK=>az (Zu (0<=fb)&&Zu (fb<(↑(Zy y):Int))&&Zb) (az (Zg (Zx fb) (Zy y)&&Zb) (Yy .u64 (Zf y (Zx fb) Zn) fun kH=>aD (!Zu (gK<kH)) (Zm (Xz [Yq y,Zz .i64 n,Zz .i64 (Zw .i64 (fb+1)),Zz .i64 eX])) (Zm (Yf (Xw 2,[Yq y,Zz .i64 n,Zz .i64 fb,Zz .i64 eX])))))))) (Zm (Yf (Xw 2,[Yq y,Zz .i64 n,Zz .i64 fb,Zz .i64 eX]))))) [Yq y,Zz .i64 n,Zz .i64 bY,Zz .i64 bF]) fun(r:Ex×List AV)=>ay (Yv r) fun x eH=>Xj x fun y=>ak .i64 eH fun n eP=>ak .i64 eP fun fb eV=>ak .i64 eV fun eX fR=>aw fR (jq r.1 (Zm (Yf (Ex.ret,[Yq y,Zz .i64 n,Zz .i64 fb,Zz .i64 eX]))) fun(j:Nat)=>aD (Xk j 2) (Zv (bw (fun st=>ay st fun x r=>Xj x fun y=>ak .i64 r fun n r=>ak .i64 r fun gK r=>ak .i64 r fun kH r=>aw r (aD (Zu (gK<=kH)) (az (Zu (0<=n)&&Zu (n<(↑(Zy y):Int))&&Zb) (az (Zg (Zx n) (Zy y)&&Zb) (Yy .u64 (Zf y (Zx n) Zn) fun lL=>az (Zu (0<=kH)&&Zu (kH<(↑(Zy y):Int))&&Zb) (az (Zg (Zx kH) (Zy y)&&Zb) (Yy .u64 (Zf y (Zx kH) Zn) fun gp=>aD (Zu (lL<gp)) (Zm (Xz [Yq y,Zz .i64 n,Zz .i64 gK,Zz .i64 (Zw .i64 (kH-1))])) (Zm (Yf (Xw 4,[Yq y,Zz .i64 n,Zz .i64 gK,Zz .i64 kH])))))))) (Zm (Yf (Xw 4,[Yq y,Zz .i64 n,Zz .i64 gK,Zz .i64 kH]))))) [Yq y,Zz .i64 n,Zz .i64 fb,Zz .i64 eX]) fun(r:Ex×List AV)=>ay (Yv r) fun x hZ=>Xj x fun y=>ak .i64 hZ fun n jj=>ak .i64 jj fun gK kG=>ak .i64 kG fun kH mT=>aw mT (jq r.1 (Zm (Yf (Ex.ret,[Yq y,Zz .i64 n,Zz .i64 gK,Zz .i64 kH]))) fun(j:Nat)=>aD (Xk j 4) (aD (Zu (gK>kH)) (Zm (Yf (Xw 0,[Yq y,Zz .i64 n,Zz .i64 gK,Zz .i64 kH]))) (az (Zu (0<=kH)&&Zu (kH<(↑(Zy y):Int))&&Zb) (az (Zg (Zx kH) (Zy y)&&Zb) (Yy .u64 (Zf y (Zx kH) Zn) fun lL=>az (Zu (0<=gK)&&Zu (gK<(↑(Zy y):Int))&&Zb) (az (Zg (Zx gK) (Zy y)&&Zb) (Yy .u64 (Zf y (Zx gK) Zn) fun gp=>az (Zu (0<=gK)&&Zu (gK<(↑(Zy y):Int))&&Zb) (az (Zg (Zx gK) (Zy y)&&Zb) (Yy .u64 (Zf y (Zx gK) Zn) fun iN=>az (Zy [Zz .u64 lL]==nat_lit 1&&Zb&&Zb&&Zb&&Zg (Zx gK) (Zy y)) (az (Zu (0<=kH)&&Zu (kH<(↑(Zy (Zh y (Zx gK) (Zz .u64 lL))):Int))&&Zb) (az (Zg (Zx kH) (Zy (Zh y (Zx gK) (Zz .u64 lL)))&&Zb) (Yy .u64 (Zf (Zh y (Zx gK) (Zz .u64 lL)) (Zx kH) Zn) fun fL=>az (Zy [Zz .u64 gp]==nat_lit 1&&Zb&&Zb&&Zb&&Zg (Zx kH) (Zy (Zh y (Zx gK) (Zz .u64 lL)))) (Zm (Xz [Yq (Zh (Zh y (Zx gK) (Zz .u64 lL)) (Zx kH) (Zz .u64 gp)),Zz .i64 n,Zz .i64 (Zw .i64 (gK+1)),Zz .i64 (Zw .i64 (kH-1))]))))))))))))) Wu)) Wu))) [Yq (Zh (Zh els (Zx a) (Zz .u64 n)) (Zx p) (Zz .u64 bn)),Zz .i64 a,Zz .i64 (Zw .i64 (a+1)),Zz .i64 (Zw .i64 (b-1))]) fun(r:Ex×List AV)=>ay (Yv r) fun x eH=>Xj x fun y=>ak .i64 eH fun n eP=>ak .i64 eP fun n eV=>ak .i64 eV fun bY fR=>aw fR (jq r.1 Wu fun(j:Nat)=>aD (Xk j 0) (Zm (Zz .i64 n,[y])) Wu)))))))))))) (by kernel_rfl) ?_
 dsimp only[ak];simp only[Yp,Qa2] at aB;obtain⟨⟨⟨⟨⟨⟨fK,hlen⟩,GJ⟩,uu⟩,hb⟩,Q_⟩,Ya⟩:=aB;obtain⟨d,rfl,hd⟩:=Kerb.lz fK;simp only[Xu] at hlen hb;obtain⟨a,rfl⟩:=Yx (show 0<=a by omega);obtain⟨b,rfl⟩:=Yx (show 0<=b by omega);obtain⟨p,rfl⟩:=Yx (show 0<=p by omega);have h1:a<d.size:=by omega
 have h2:p<d.size:=by omega
 have hs:(Go.Sort.swp d a p).size=d.size:=Xq _ _ _;rw[Kerb.ud];unfold Go.Sort.partitionEqual;rw[Xx h2,Xx h1,Xp h1 (by simp[Xu];omega),Xd,Xp (by rw[Yb];exact h2) (by simp[Xu];omega),Xd,show(Yw (Yw d a d[p]!) p d[a]!)=Go.Sort.swp d a p from rfl];rw[show Zw .i64 ((a:Int)+1)=((a+1:Nat):Int) from(Kerb.ga (by omega) (by omega)).trans (by omega),show Zw .i64 ((b:Int)-1)=((b-1:Nat):Int) from(Kerb.ga (by omega) (by omega)).trans (by omega)];generalize Go.Sort.swp d a p=d2 at hs ⊢;refine bZ (fun s:Array Int×Nat×Nat=>[Yq (Xn s.1),Zz .i64 (a:Int),Zz .i64 (s.2.1:Int),Zz .i64 (s.2.2:Int)]) (fun s=>s.1.size=d.size/\1<=s.2.1/\s.2.1<=s.2.2+2/\s.2.2<d.size/\Go.Sort.partEqLoop Go.Sort.ltInt a s.2.1 s.2.2 s.1=Go.Sort.partEqLoop Go.Sort.ltInt a (a+1) (b-1) d2) (fun s=>s.2.2+1-s.2.1) (fun r=>∃ n,r=(.exit 0,[Yq (Xn (Go.Sort.partEqLoop Go.Sort.ltInt a (a+1) (b-1) d2).2),Zz .i64 (a:Int),Zz .i64 ((Go.Sort.partEqLoop Go.Sort.ltInt a (a+1) (b-1) d2).1:Int),Zz .i64 n])) (d2,a+1,b-1) ⟨hs,by dsimp only;omega,by dsimp only;omega,by dsimp only;omega,rfl⟩ rfl ?_ ?_
 ·rintro⟨e,i,j⟩ ⟨hs,hi,OQ,hj,hr⟩;dsimp only at hs hi OQ hj hr ⊢;simp only[↓bD,↓bS,↓cL,↓cP];rw[Kerb.VA (by omega) (by omega) (by omega) (by omega)];dsimp only;have u:=Go.Sort.scanUp_spec (fun x => !Go.Sort.ltInt e[a]! x) e j _ i rfl;have v:=Go.Sort.scanDown_spec (fun x=>Go.Sort.ltInt e[a]! x) e (Go.Sort.scanUp (fun x => !Go.Sort.ltInt e[a]! x) e j i) j;rw[Go.Sort.partEqLoop_eq] at hr;have YG:j+1<i->Go.Sort.scanUp (fun x => !Go.Sort.ltInt e[a]! x) e j i=i:=fun h=>by
   unfold Go.Sort.scanUp;rw[Qa0 (by simp;omega)]
  generalize Go.Sort.scanUp (fun x => !Go.Sort.ltInt e[a]! x) e j i=i3 at u v hr YG ⊢;simp only[↓bD,↓bS,↓cL,↓cP,↓jB];rw[ag (Yn _)];have u1:=u.1;have u2:=u.2.1;rw[Kerb.Pc (by omega) (by omega) (by omega) (by omega)];dsimp only;generalize Go.Sort.scanDown (fun x=>Go.Sort.ltInt e[a]! x) e i3 j=j3 at v hr ⊢;simp only[↓bD,↓bS,↓cL,↓cP,↓jB];rw[ag (Yn _)];have v1:=v.1;have v2:=v.2.1;by_cases hc:i3>j3
  ·rw[Qa1 hc] at hr;rw[ag (by simp;omega)];refine⟨_,rfl,(j3:Int),?_⟩;rw[<-hr]
  ·rw[Qa0 hc] at hr;have h3:i3<e.size:=by omega
   have h4:j3<e.size:=by omega
   rw[aj (by simp;omega)];rw[Xx h4,Xx h3,Xp h3 (by simp[Xu];omega),Xd,Xp (by rw[Yb];exact h4) (by simp[Xu];omega),Xd,show(Yw (Yw e i3 e[j3]!) j3 e[i3]!)=Go.Sort.swp e i3 j3 from rfl];rw[show Zw .i64 ((i3:Int)+1)=((i3+1:Nat):Int) from(Kerb.ga (by omega) (by omega)).trans (by omega),show Zw .i64 ((j3:Int)-1)=((j3-1:Nat):Int) from(Kerb.ga (by omega) (by omega)).trans (by omega)];exact⟨_,rfl,(Go.Sort.swp e i3 j3,i3+1,j3-1),rfl,⟨by dsimp only;rw[Xq,hs],by dsimp only;omega,by dsimp only;omega,by dsimp only;omega,hr⟩,by dsimp only;omega⟩
 ·rintro _ ⟨n,rfl⟩;simp only[↓bD,↓bS,↓cL,↓cP,↓jB];rw[ag (Yn _)]
theorem aby:Wk 271 3 Ca:=by
 refine cw Tryz.func271 rfl fun xs bl r h=> ?_;unfold Ca at h;split at h;case h_2=>cases h
 rename_i a b p els;obtain⟨aB,rfl⟩:=dz h;show eb (G.env 271 3) G.rts (G.own 271) Tryz.f271 _ _ [0]=_
 refine cu (az (Zu (0<=p)&&Zu (p<(↑(Zy els):Int))&&Zb) (az (Zg (Zx p) (Zy els)&&Zb) (Yy .u64 (Zf els (Zx p) Zn) fun n=>az (Zu (0<=a)&&Zu (a<(↑(Zy els):Int))&&Zb) (az (Zg (Zx a) (Zy els)&&Zb) (Yy .u64 (Zf els (Zx a) Zn) fun bn=>az (Zu (0<=a)&&Zu (a<(↑(Zy els):Int))&&Zb) (az (Zg (Zx a) (Zy els)&&Zb) (Yy .u64 (Zf els (Zx a) Zn) fun b_=>az (Zy [Zz .u64 n]==nat_lit 1&&Zb&&Zb&&Zb&&Zg (Zx a) (Zy els)) (az (Zu (0<=p)&&Zu (p<(↑(Zy (Zh els (Zx a) (Zz .u64 n))):Int))&&Zb) (az (Zg (Zx p) (Zy (Zh els (Zx a) (Zz .u64 n)))&&Zb) (Yy .u64 (Zf (Zh els (Zx a) (Zz .u64 n)) (Zx p) Zn) fun eO=>az (Zy [Zz .u64 bn]==nat_lit 1&&Zb&&Zb&&Zb&&Zg (Zx p) (Zy (Zh els (Zx a) (Zz .u64 n)))) (Zv (bw (fun st=>ay st fun x r=>Xj x fun y=>ak .i64 r fun n r=>ak .i64 r fun bY r=>ak .i64 r fun bF r=>aw r (aD (Zu (bY<=bF)) (az (Zu (0<=bY)&&Zu (bY<(↑(Zy y):Int))&&Zb) (az (Zg (Zx bY) (Zy y)&&Zb) (Yy .u64 (Zf y (Zx bY) Zn) fun fb=>az (Zu (0<=n)&&Zu (n<(↑(Zy y):Int))&&Zb) (az (Zg (Zx n) (Zy y)&&Zb) (Yy .u64 (Zf y (Zx n) Zn) fun eX=>aD (Zu (fb<eX)) (Zm (Xz [Yq y,Zz .i64 n,Zz .i64 (Zw .i64 (bY+1)),Zz .i64 bF])) (Zm (Yf (Xw 0,[Yq y,Zz .i64 n,Zz .i64 bY,Zz .i64 bF])))))))) (Zm (Yf (Xw 0,[Yq y,Zz .i64 n,Zz .i64 bY,Zz .i64 bF]))))) [Yq (Zh (Zh els (Zx a) (Zz .u64 n)) (Zx p) (Zz .u64 bn)),Zz .i64 a,Zz .i64 (Zw .i64 (a+1)),Zz .i64 (Zw .i64 (b-1))]) fun(r:Ex×List AV)=>ay (Yv r) fun x eH=>Xj x fun y=>ak .i64 eH fun n eP=>ak .i64 eP fun bY eV=>ak .i64 eV fun bF fR=>aw fR (jq r.1 Wu fun(j:Nat)=>aD (Xk j 0) (Zv (bw (fun st=>ay st fun x r=>Xj x fun y=>ak .i64 r fun n r=>ak .i64 r fun fb r=>ak .i64 r fun eX r=>aw r (aD (Zu (fb<=eX)) (az (Zu (0<=eX)&&Zu (eX<(↑(Zy y):Int))&&Zb) (az (Zg (Zx eX) (Zy y)&&Zb) (Yy .u64 (Zf y (Zx eX) Zn) fun gK=>az (Zu (0<=n)&&Zu (n<(↑(Zy y):Int))&&Zb) (az (Zg (Zx n) (Zy y)&&Zb) (Yy .u64 (Zf y (Zx n) Zn) fun kH=>aD (!Zu (gK<kH)) (Zm (Xz [Yq y,Zz .i64 n,Zz .i64 fb,Zz .i64 (Zw .i64 (eX-1))])) (Zm (Yf (Xw 2,[Yq y,Zz .i64 n,Zz .i64 fb,Zz .i64 eX])))))))) (Zm (Yf (Xw 2,[Yq y,Zz .i64 n,Zz .i64 fb,Zz .i64 eX]))))) [Yq y,Zz .i64 n,Zz .i64 bY,Zz .i64 bF]) fun(r:Ex×List AV)=>ay (Yv r) fun x hZ=>Xj x fun y=>ak .i64 hZ fun n jj=>ak .i64 jj fun fb kG=>ak .i64 kG fun eX mT=>aw mT (jq r.1 Wu fun(j:Nat)=>aD (Xk j 2) (aD (Zu (fb>eX)) (az (Zu (0<=n)&&Zu (n<(↑(Zy y):Int))&&Zb) (az (Zg (Zx n) (Zy y)&&Zb) (Yy .u64 (Zf y (Zx n) Zn) fun gK=>az (Zu (0<=eX)&&Zu (eX<(↑(Zy y):Int))&&Zb) (az (Zg (Zx eX) (Zy y)&&Zb) (Yy .u64 (Zf y (Zx eX) Zn) fun kH=>az (Zu (0<=eX)&&Zu (eX<(↑(Zy y):Int))&&Zb) (az (Zg (Zx eX) (Zy y)&&Zb) (Yy .u64 (Zf y (Zx eX) Zn) fun lL=>az (Zy [Zz .u64 gK]==nat_lit 1&&Zb&&Zb&&Zb&&Zg (Zx eX) (Zy y)) (az (Zu (0<=n)&&Zu (n<(↑(Zy (Zh y (Zx eX) (Zz .u64 gK))):Int))&&Zb) (az (Zg (Zx n) (Zy (Zh y (Zx eX) (Zz .u64 gK)))&&Zb) (Yy .u64 (Zf (Zh y (Zx eX) (Zz .u64 gK)) (Zx n) Zn) fun gp=>az (Zy [Zz .u64 kH]==nat_lit 1&&Zb&&Zb&&Zb&&Zg (Zx n) (Zy (Zh y (Zx eX) (Zz .u64 gK)))) (Zm (Yu [Zz .i64 eX,Zd Zb],[Zh (Zh y (Zx eX) (Zz .u64 gK)) (Zx n) (Zz .u64 kH)])))))))))))) (az (Zu (0<=eX)&&Zu (eX<(↑(Zy y):Int))&&Zb) (az (Zg (Zx eX) (Zy y)&&Zb) (Yy .u64 (Zf y (Zx eX) Zn) fun gK=>az (Zu (0<=fb)&&Zu (fb<(↑(Zy y):Int))&&Zb) (az (Zg (Zx fb) (Zy y)&&Zb) (Yy .u64 (Zf y (Zx fb) Zn) fun kH=>az (Zu (0<=fb)&&Zu (fb<(↑(Zy y):Int))&&Zb) (az (Zg (Zx fb) (Zy y)&&Zb) (Yy .u64 (Zf y (Zx fb) Zn) fun lL=>az (Zy [Zz .u64 gK]==nat_lit 1&&Zb&&Zb&&Zb&&Zg (Zx fb) (Zy y)) (az (Zu (0<=eX)&&Zu (eX<(↑(Zy (Zh y (Zx fb) (Zz .u64 gK))):Int))&&Zb) (az (Zg (Zx eX) (Zy (Zh y (Zx fb) (Zz .u64 gK)))&&Zb) (Yy .u64 (Zf (Zh y (Zx fb) (Zz .u64 gK)) (Zx eX) Zn) fun gp=>az (Zy [Zz .u64 kH]==nat_lit 1&&Zb&&Zb&&Zb&&Zg (Zx eX) (Zy (Zh y (Zx fb) (Zz .u64 gK)))) (Zv (bw (fun st=>ay st fun x r=>Xj x fun y=>ak .i64 r fun n r=>ak .i64 r fun iN r=>ak .i64 r fun fL r=>aw r (Zv (bw (fun st=>ay st fun x r=>Xj x fun y=>ak .i64 r fun n r=>ak .i64 r fun bh r=>ak .i64 r fun gP r=>aw r (aD (Zu (bh<=gP)) (az (Zu (0<=bh)&&Zu (bh<(↑(Zy y):Int))&&Zb) (az (Zg (Zx bh) (Zy y)&&Zb) (Yy .u64 (Zf y (Zx bh) Zn) fun eU=>az (Zu (0<=n)&&Zu (n<(↑(Zy y):Int))&&Zb) (az (Zg (Zx n) (Zy y)&&Zb) (Yy .u64 (Zf y (Zx n) Zn) fun da=>aD (Zu (eU<da)) (Zm (Xz [Yq y,Zz .i64 n,Zz .i64 (Zw .i64 (bh+1)),Zz .i64 gP])) (Zm (Yf (Xw 6,[Yq y,Zz .i64 n,Zz .i64 bh,Zz .i64 gP])))))))) (Zm (Yf (Xw 6,[Yq y,Zz .i64 n,Zz .i64 bh,Zz .i64 gP]))))) [Yq y,Zz .i64 n,Zz .i64 iN,Zz .i64 fL]) fun(r:Ex×List AV)=>ay (Yv r) fun x mf=>Xj x fun y=>ak .i64 mf fun n gu=>ak .i64 gu fun bh g8=>ak .i64 g8 fun gP g9=>aw g9 (jq r.1 (Zm (Yf (Ex.ret,[Yq y,Zz .i64 n,Zz .i64 bh,Zz .i64 gP]))) fun(j:Nat)=>aD (Xk j 6) (Zv (bw (fun st=>ay st fun x r=>Xj x fun y=>ak .i64 r fun n r=>ak .i64 r fun eU r=>ak .i64 r fun da r=>aw r (aD (Zu (eU<=da)) (az (Zu (0<=da)&&Zu (da<(↑(Zy y):Int))&&Zb) (az (Zg (Zx da) (Zy y)&&Zb) (Yy .u64 (Zf y (Zx da) Zn) fun bB=>az (Zu (0<=n)&&Zu (n<(↑(Zy y):Int))&&Zb) (az (Zg (Zx n) (Zy y)&&Zb) (Yy .u64 (Zf y (Zx n) Zn) fun oP=>aD (!Zu (bB<oP)) (Zm (Xz [Yq y,Zz .i64 n,Zz .i64 eU,Zz .i64 (Zw .i64 (da-1))])) (Zm (Yf (Xw 8,[Yq y,Zz .i64 n,Zz .i64 eU,Zz .i64 da])))))))) (Zm (Yf (Xw 8,[Yq y,Zz .i64 n,Zz .i64 eU,Zz .i64 da]))))) [Yq y,Zz .i64 n,Zz .i64 bh,Zz .i64 gP]) fun(r:Ex×List AV)=>ay (Yv r) fun x kf=>Xj x fun y=>ak .i64 kf fun n lB=>ak .i64 lB fun eU lC=>ak .i64 lC fun da mc=>aw mc (jq r.1 (Zm (Yf (Ex.ret,[Yq y,Zz .i64 n,Zz .i64 eU,Zz .i64 da]))) fun(j:Nat)=>aD (Xk j 8) (aD (Zu (eU>da)) (Zm (Yf (Xw 4,[Yq y,Zz .i64 n,Zz .i64 eU,Zz .i64 da]))) (az (Zu (0<=da)&&Zu (da<(↑(Zy y):Int))&&Zb) (az (Zg (Zx da) (Zy y)&&Zb) (Yy .u64 (Zf y (Zx da) Zn) fun bB=>az (Zu (0<=eU)&&Zu (eU<(↑(Zy y):Int))&&Zb) (az (Zg (Zx eU) (Zy y)&&Zb) (Yy .u64 (Zf y (Zx eU) Zn) fun oP=>az (Zu (0<=eU)&&Zu (eU<(↑(Zy y):Int))&&Zb) (az (Zg (Zx eU) (Zy y)&&Zb) (Yy .u64 (Zf y (Zx eU) Zn) fun oQ=>az (Zy [Zz .u64 bB]==nat_lit 1&&Zb&&Zb&&Zb&&Zg (Zx eU) (Zy y)) (az (Zu (0<=da)&&Zu (da<(↑(Zy (Zh y (Zx eU) (Zz .u64 bB))):Int))&&Zb) (az (Zg (Zx da) (Zy (Zh y (Zx eU) (Zz .u64 bB)))&&Zb) (Yy .u64 (Zf (Zh y (Zx eU) (Zz .u64 bB)) (Zx da) Zn) fun ik=>az (Zy [Zz .u64 oP]==nat_lit 1&&Zb&&Zb&&Zb&&Zg (Zx da) (Zy (Zh y (Zx eU) (Zz .u64 bB)))) (Zm (Xz [Yq (Zh (Zh y (Zx eU) (Zz .u64 bB)) (Zx da) (Zz .u64 oP)),Zz .i64 n,Zz .i64 (Zw .i64 (eU+1)),Zz .i64 (Zw .i64 (da-1))]))))))))))))) Wu)) Wu))) [Yq (Zh (Zh y (Zx fb) (Zz .u64 gK)) (Zx eX) (Zz .u64 kH)),Zz .i64 n,Zz .i64 (Zw .i64 (fb+1)),Zz .i64 (Zw .i64 (eX-1))]) fun(r:Ex×List AV)=>ay (Yv r) fun x mf=>Xj x fun y=>ak .i64 mf fun n gu=>ak .i64 gu fun iN g8=>ak .i64 g8 fun fL g9=>aw g9 (jq r.1 Wu fun(j:Nat)=>aD (Xk j 4) (az (Zu (0<=n)&&Zu (n<(↑(Zy y):Int))&&Zb) (az (Zg (Zx n) (Zy y)&&Zb) (Yy .u64 (Zf y (Zx n) Zn) fun bh=>az (Zu (0<=fL)&&Zu (fL<(↑(Zy y):Int))&&Zb) (az (Zg (Zx fL) (Zy y)&&Zb) (Yy .u64 (Zf y (Zx fL) Zn) fun gP=>az (Zu (0<=fL)&&Zu (fL<(↑(Zy y):Int))&&Zb) (az (Zg (Zx fL) (Zy y)&&Zb) (Yy .u64 (Zf y (Zx fL) Zn) fun eU=>az (Zy [Zz .u64 bh]==nat_lit 1&&Zb&&Zb&&Zb&&Zg (Zx fL) (Zy y)) (az (Zu (0<=n)&&Zu (n<(↑(Zy (Zh y (Zx fL) (Zz .u64 bh))):Int))&&Zb) (az (Zg (Zx n) (Zy (Zh y (Zx fL) (Zz .u64 bh)))&&Zb) (Yy .u64 (Zf (Zh y (Zx fL) (Zz .u64 bh)) (Zx n) Zn) fun da=>az (Zy [Zz .u64 gP]==nat_lit 1&&Zb&&Zb&&Zb&&Zg (Zx n) (Zy (Zh y (Zx fL) (Zz .u64 bh)))) (Zm (Yu [Zz .i64 fL,Zd Yd],[Zh (Zh y (Zx fL) (Zz .u64 bh)) (Zx n) (Zz .u64 gP)])))))))))))) Wu))))))))))))) Wu)) Wu)))))))))))) (by kernel_rfl) ?_
 dsimp only[ak];simp only[Yp,Qa2] at aB;obtain⟨⟨⟨⟨⟨⟨fK,hlen⟩,GJ⟩,uu⟩,hb⟩,Q_⟩,Ya⟩:=aB;obtain⟨d,rfl,hd⟩:=Kerb.lz fK;simp only[Xu] at hlen hb;obtain⟨a,rfl⟩:=Yx (show 0<=a by omega);obtain⟨b,rfl⟩:=Yx (show 0<=b by omega);obtain⟨p,rfl⟩:=Yx (show 0<=p by omega);have h1:a<d.size:=by omega
 have h2:p<d.size:=by omega
 have hs:(Go.Sort.swp d a p).size=d.size:=Xq _ _ _;rw[Kerb.zH];unfold Go.Sort.partition;rw[Xx h2,Xx h1,Xp h1 (by simp[Xu];omega),Xd,Xp (by rw[Yb];exact h2) (by simp[Xu];omega),Xd,show(Yw (Yw d a d[p]!) p d[a]!)=Go.Sort.swp d a p from rfl];rw[show Zw .i64 ((a:Int)+1)=((a+1:Nat):Int) from(Kerb.ga (by omega) (by omega)).trans (by omega),show Zw .i64 ((b:Int)-1)=((b-1:Nat):Int) from(Kerb.ga (by omega) (by omega)).trans (by omega)];generalize Go.Sort.swp d a p=d1 at hs ⊢;rw[Kerb.Jb (by omega) (by omega) (by omega) (by omega)];dsimp only;have u:=Go.Sort.scanUp_spec (fun x=>Go.Sort.ltInt x d1[a]!) d1 (b-1) _ (a+1) rfl;generalize Go.Sort.scanUp (fun x=>Go.Sort.ltInt x d1[a]!) d1 (b-1) (a+1)=i2 at u ⊢;simp only[↓bD,↓bS,↓cL,↓cP,↓jB];rw[ag (Yn _)];rw[Kerb.Bl (by omega) (by omega) (by omega) (by omega)];dsimp only;have v:=Go.Sort.scanDown_spec (fun x => !Go.Sort.ltInt x d1[a]!) d1 i2 (b-1);generalize Go.Sort.scanDown (fun x => !Go.Sort.ltInt x d1[a]!) d1 i2 (b-1)=j2 at v ⊢;simp only[↓bD,↓bS,↓cL,↓cP,↓jB];rw[ag (Yn _)];have w2:=u.2.1 (by omega);have v1:=v.1;have v2:=v.2.1 (by omega);have u1:=u.1;by_cases hc:i2>j2
 ·have h3:j2<d1.size:=by omega
  have h4:a<d1.size:=by omega
  rw[ag (by simp;omega)];rw[Xx h4,Xx h3,Xp h3 (by simp[Xu];omega),Xd,Xp (by rw[Yb];exact h4) (by simp[Xu];omega),Xd,show(Yw (Yw d1 j2 d1[a]!) a d1[j2]!)=Go.Sort.swp d1 j2 a from rfl];rw[Qa1 hc]
 have h3:i2<d1.size:=by omega
 have h4:j2<d1.size:=by omega
 rw[aj (by simp;omega),Qa0 hc];rw[Xx h4,Xx h3,Xp h3 (by simp[Xu];omega),Xd,Xp (by rw[Yb];exact h4) (by simp[Xu];omega),Xd,show(Yw (Yw d1 i2 d1[j2]!) j2 d1[i2]!)=Go.Sort.swp d1 i2 j2 from rfl];rw[show Zw .i64 ((i2:Int)+1)=((i2+1:Nat):Int) from(Kerb.ga (by omega) (by omega)).trans (by omega),show Zw .i64 ((j2:Int)-1)=((j2-1:Nat):Int) from(Kerb.ga (by omega) (by omega)).trans (by omega)];have fJ:(Go.Sort.swp d1 i2 j2).size=d.size:=by rw[Xq,hs]
 generalize Go.Sort.swp d1 i2 j2=d2 at fJ ⊢;refine bZ (fun s:Array Int×Nat×Nat=>[Yq (Xn s.1),Zz .i64 (a:Int),Zz .i64 (s.2.1:Int),Zz .i64 (s.2.2:Int)]) (fun s=>s.1.size=d.size/\1<=s.2.1/\s.2.1<=s.2.2+2/\s.2.2<d.size/\Go.Sort.partLoop Go.Sort.ltInt a s.2.1 s.2.2 s.1=Go.Sort.partLoop Go.Sort.ltInt a (i2+1) (j2-1) d2) (fun s=>s.2.2+1-s.2.1) (fun r=>∃ n,r=(.exit 4,[Yq (Xn (Go.Sort.partLoop Go.Sort.ltInt a (i2+1) (j2-1) d2).2),Zz .i64 (a:Int),Zz .i64 n,Zz .i64 ((Go.Sort.partLoop Go.Sort.ltInt a (i2+1) (j2-1) d2).1:Int)])/\(Go.Sort.partLoop Go.Sort.ltInt a (i2+1) (j2-1) d2).1<d.size/\(Go.Sort.partLoop Go.Sort.ltInt a (i2+1) (j2-1) d2).2.size=d.size) (d2,i2+1,j2-1) ⟨fJ,by dsimp only;omega,by dsimp only;omega,by dsimp only;omega,rfl⟩ rfl ?_ ?_
 ·rintro⟨e,i,j⟩ ⟨hs,hi,OQ,hj,hr⟩;dsimp only at hs hi OQ hj hr ⊢;simp only[↓bD,↓bS,↓cL,↓cP];rw[Kerb.Jb (by omega) (by omega) (by omega) (by omega)];dsimp only;have u:=Go.Sort.scanUp_spec (fun x=>Go.Sort.ltInt x e[a]!) e j _ i rfl;have v:=Go.Sort.scanDown_spec (fun x => !Go.Sort.ltInt x e[a]!) e (Go.Sort.scanUp (fun x=>Go.Sort.ltInt x e[a]!) e j i) j;rw[Go.Sort.partLoop_eq] at hr;have YG:j+1<i->Go.Sort.scanUp (fun x=>Go.Sort.ltInt x e[a]!) e j i=i:=fun h=>by
   unfold Go.Sort.scanUp;rw[Qa0 (by simp;omega)]
  generalize Go.Sort.scanUp (fun x=>Go.Sort.ltInt x e[a]!) e j i=i3 at u v hr YG ⊢;simp only[↓bD,↓bS,↓cL,↓cP,↓jB];rw[ag (Yn _)];have u1:=u.1;have u2:=u.2.1;rw[Kerb.Bl (by omega) (by omega) (by omega) (by omega)];dsimp only;generalize Go.Sort.scanDown (fun x => !Go.Sort.ltInt x e[a]!) e i3 j=j3 at v hr ⊢;simp only[↓bD,↓bS,↓cL,↓cP,↓jB];rw[ag (Yn _)];have v1:=v.1;have v2:=v.2.1;by_cases hc:i3>j3
  ·rw[Qa1 hc] at hr;rw[ag (by simp;omega)];refine⟨_,rfl,(i3:Int),?_,?_,?_⟩
   ·rw[<-hr]
   ·rw[<-hr];dsimp only;omega
   ·rw[<-hr];exact hs
  ·rw[Qa0 hc] at hr;have h3:i3<e.size:=by omega
   have h4:j3<e.size:=by omega
   rw[aj (by simp;omega)];rw[Xx h4,Xx h3,Xp h3 (by simp[Xu];omega),Xd,Xp (by rw[Yb];exact h4) (by simp[Xu];omega),Xd,show(Yw (Yw e i3 e[j3]!) j3 e[i3]!)=Go.Sort.swp e i3 j3 from rfl];rw[show Zw .i64 ((i3:Int)+1)=((i3+1:Nat):Int) from(Kerb.ga (by omega) (by omega)).trans (by omega),show Zw .i64 ((j3:Int)-1)=((j3-1:Nat):Int) from(Kerb.ga (by omega) (by omega)).trans (by omega)];exact⟨_,rfl,(Go.Sort.swp e i3 j3,i3+1,j3-1),rfl,⟨by dsimp only;rw[Xq,hs],by dsimp only;omega,by dsimp only;omega,by dsimp only;omega,hr⟩,by dsimp only;omega⟩
 ·rintro _ ⟨n,rfl,hn,hz⟩;generalize Go.Sort.partLoop Go.Sort.ltInt a (i2+1) (j2-1) d2=q at hn hz ⊢;obtain⟨j4,e⟩:=q;dsimp only at hn hz ⊢;have h3:j4<e.size:=by omega
  have h4:a<e.size:=by omega
  simp only[↓bD,↓bS,↓cL,↓cP,↓jB];rw[ag (Yn _)];rw[Xx h4,Xx h3,Xp h3 (by simp[Xu];omega),Xd,Xp (by rw[Yb];exact h4) (by simp[Xu];omega),Xd,show(Yw (Yw e j4 e[a]!) a e[j4]!)=Go.Sort.swp e j4 a from rfl]
theorem abA:Wk 274 3 N_:=by
 refine cw Tryz.func274 rfl fun xs bl r h=> ?_;unfold N_ at h;split at h;case h_2=>cases h
 rename_i s c;cases h;refine cu (Zm (Zz .i64 (Kerb.indexOf c s),[])) (by kernel_rfl) ?_;rfl
theorem abB:Wk 275 3 Cb:=by
 refine cw Tryz.func275 rfl fun xs bl r h=> ?_;unfold Cb at h;split at h;case h_2=>cases h
 rename_i lo hi first els
 obtain⟨aB,rfl⟩:=dz h;show eb (G.env 275 3) G.rts (G.own 275) Tryz.f275 _ _ [0]=_;refine cu (Zv (bw (fun st=>ay st fun x r=>Xj x fun y=>ak .i64 r fun n r=>ak .i64 r fun bn r=>ak .i64 r fun b_ r=>let t1:Bool:=Zu (0<=Zw .i64 (bn+b_))&&Zu (Zw .i64 (bn+b_)<(↑(Zy y):Int))&&Zb;let t5:AV:=Zf y (Zx (Zw .i64 (bn+b_))) Zn;let t7:Int:=Zw .i64 (Zw .i64 (2*b_)+1);let t10:Bool:=Zg (Zx (Zw .i64 (bn+b_))) (Zy y);let t11:List AV:=[Yq y,Zz .i64 n,Zz .i64 bn,Zz .i64 b_];let t3:Int:=Zw .i64 (bn+t7);let t4:Bool:=t10&&Zb;let t6:Int:=Zw .i64 (t7+1);let t9:Option (List AV ⊕ Ex×List AV):=Zm (Yf (Ex.ret,t11));let t2:Int:=Zw .i64 (bn+t6);let t8:Bool:=Zu (0<=t3)&&Zu (t3<(↑(Zy y):Int))&&Zb;let t0:Option (List AV ⊕ Ex×List AV):=az t1 (az t4 (Yy .u64 t5 fun eO=>az t8 (az (Zg (Zx t3) (Zy y)&&Zb) (Yy .u64 (Zf y (Zx t3) Zn) fun bY=>aD (!Zu (eO<bY)) t9 (az t8 (az (Zg (Zx t3) (Zy y)&&Zb) (Yy .u64 (Zf y (Zx t3) Zn) fun bF=>az t1 (az t4 (Yy .u64 t5 fun fb=>az t1 (az t4 (Yy .u64 t5 fun eX=>az (Zy [Zz .u64 bF]==nat_lit 1&&Zb&&Zb&&Zb&&t10) (az (Zu (0<=t3)&&Zu (t3<(↑(Zy (Zh y (Zx (Zw .i64 (bn+b_))) (Zz .u64 bF))):Int))&&Zb) (az (Zg (Zx t3) (Zy (Zh y (Zx (Zw .i64 (bn+b_))) (Zz .u64 bF)))&&Zb) (Yy .u64 (Zf (Zh y (Zx (Zw .i64 (bn+b_))) (Zz .u64 bF)) (Zx t3) Zn) fun gK=>az (Zy [Zz .u64 fb]==nat_lit 1&&Zb&&Zb&&Zb&&Zg (Zx t3) (Zy (Zh y (Zx (Zw .i64 (bn+b_))) (Zz .u64 bF)))) (Zm (Xz [Yq (Zh (Zh y (Zx (Zw .i64 (bn+b_))) (Zz .u64 bF)) (Zx t3) (Zz .u64 fb)),Zz .i64 n,Zz .i64 bn,Zz .i64 t7]))))))))))))))));aw r (aD (Zu (t7>=n)) (Zm (Yf (Xw 0,t11))) (aD (Zu (t6<n)) (az t8 (az (Zg (Zx t3) (Zy y)&&Zb) (Yy .u64 (Zf y (Zx t3) Zn) fun eO=>az (Zu (0<=Zw .i64 (t3+1))&&Zu (Zw .i64 (t3+1)<(↑(Zy y):Int))&&Zb) (az (Zg (Zx (Zw .i64 (t3+1))) (Zy y)&&Zb) (Yy .u64 (Zf y (Zx (Zw .i64 (t3+1))) Zn) fun bY=>aD (Zu (eO<bY)) (az t1 (az t4 (Yy .u64 t5 fun bF=>az (Zu (0<=t2)&&Zu (t2<(↑(Zy y):Int))&&Zb) (az (Zg (Zx t2) (Zy y)&&Zb) (Yy .u64 (Zf y (Zx t2) Zn) fun fb=>aD (!Zu (bF<fb)) t9 (az (Zu (0<=t2)&&Zu (t2<(↑(Zy y):Int))&&Zb) (az (Zg (Zx t2) (Zy y)&&Zb) (Yy .u64 (Zf y (Zx t2) Zn) fun eX=>let t12:List AV:=Zh y (Zx (Zw .i64 (bn+b_))) (Zz .u64 eX);az t1 (az t4 (Yy .u64 t5 fun gK=>az t1 (az t4 (Yy .u64 t5 fun kH=>az (Zy [Zz .u64 eX]==nat_lit 1&&Zb&&Zb&&Zb&&t10) (az (Zu (0<=t2)&&Zu (t2<(↑(Zy t12):Int))&&Zb) (az (Zg (Zx t2) (Zy t12)&&Zb) (Yy .u64 (Zf t12 (Zx t2) Zn) fun lL=>az (Zy [Zz .u64 gK]==nat_lit 1&&Zb&&Zb&&Zb&&Zg (Zx t2) (Zy t12)) (Zm (Xz [Yq (Zh t12 (Zx t2) (Zz .u64 gK)),Zz .i64 n,Zz .i64 bn,Zz .i64 t6]))))))))))))))))) t0))))) t0))) [Yq els,Zz .i64 hi,Zz .i64 first,Zz .i64 lo]) fun(r:Ex×List AV)=>ay (Yv r) fun x eH=>Xj x fun y=>ak .i64 eH fun n eP=>ak .i64 eP fun n eV=>ak .i64 eV fun n fR=>aw fR (jq r.1 (Zm (Yu [],[y])) fun(j:Nat)=>aD (Xk j 0) (Zm (Yu [],[y])) Wu)) (by kernel_rfl) ?_;try dsimp only[aK,bq,aE,dl,ak,bW,dx]
 simp only[Yp,Qa2] at aB;obtain⟨⟨⟨⟨⟨⟨fK,hlen⟩,XZ⟩,XO⟩,Tx⟩,hfh⟩,X0⟩:=aB;obtain⟨d,rfl,hd⟩:=Kerb.lz fK;simp only[Xu] at hlen hfh X0;unfold Kerb.sift;rw[hd];obtain⟨lo,rfl⟩:=Yx XZ;obtain⟨hi,rfl⟩:=Yx XO;obtain⟨first,rfl⟩:=Yx Tx;simp only[Xg];refine bZ (fun s:Array Int×Nat=>[Yq (Xn s.1),Zz .i64 (hi:Int),Zz .i64 (first:Int),Zz .i64 (s.2:Int)]) (fun s=>s.1.size=d.size/\s.2<=d.size/\Go.Sort.siftDown Go.Sort.ltInt hi first s.2 s.1=Go.Sort.siftDown Go.Sort.ltInt hi first lo d) (fun s=>hi-s.2) (fun r=>∃ n m k,(r.1 = .exit 0\/r.1 = .ret)/\r.2=[Yq (Xn (Go.Sort.siftDown Go.Sort.ltInt hi first lo d)),Zz .i64 n,Zz .i64 m,Zz .i64 k]) (d,lo) ⟨rfl,by dsimp only;omega,rfl⟩ rfl ?_ ?_
 ·rintro⟨e,root⟩ ⟨hs,hb,hr⟩;dsimp only at hs hb hr ⊢;simp only[↓bD,↓bS,↓cL,↓cP];simp only[show Zw .i64 ((2:Int)*(root:Int))=((2*root:Nat):Int) from(Kerb.ga (by omega) (by omega)).trans (by omega)];simp only[show Zw .i64 (((2*root:Nat):Int)+1)=((2*root+1:Nat):Int) from(Kerb.ga (by omega) (by omega)).trans (by omega)];simp only[show Zw .i64 (((2*root+1:Nat):Int)+1)=((2*root+1+1:Nat):Int) from(Kerb.ga (by omega) (by omega)).trans (by omega)];simp only[show Zw .i64 ((first:Int)+(root:Int))=((first+root:Nat):Int) from(Kerb.ga (by omega) (by omega)).trans (by omega)];simp only[show Zw .i64 ((first:Int)+((2*root+1:Nat):Int))=((first+(2*root+1):Nat):Int) from(Kerb.ga (by omega) (by omega)).trans (by omega)];simp only[show Zw .i64 ((first:Int)+((2*root+1+1:Nat):Int))=((first+(2*root+1+1):Nat):Int) from(Kerb.ga (by omega) (by omega)).trans (by omega)];simp only[show Zw .i64 (((first+(2*root+1):Nat):Int)+1)=((first+(2*root+1)+1:Nat):Int) from(Kerb.ga (by omega) (by omega)).trans (by omega)];by_cases hc:hi<=2*root+1
  ·rw[ag (by simp;omega)];refine⟨_,rfl,(hi:Int),(first:Int),(root:Int),.inl rfl,?_⟩;rw[<-hr];unfold Go.Sort.siftDown;rw[dif_pos hc]
  rw[aj (by simp;omega)];by_cases h2:2*root+1+1<hi
  ·have h3:first+(2*root+1)<e.size:=by omega
   have h4:first+(2*root+1)+1<e.size:=by omega
   rw[ag (by simp;omega),Xx h3,Xx h4];by_cases h5:e[first+(2*root+1)]! < e[first+(2*root+1)+1]!
   ·rw[ag (by simpa using h5)];have hq:first+(2*root+1+1)<e.size:=by omega
    have hp:first+root<e.size:=by omega
    rw[Xx hp,Xx hq];by_cases hl:e[first+root]! < e[first+(2*root+1+1)]!;case neg =>
     rw[ag (by simpa using hl)];refine⟨_,rfl,(hi:Int),(first:Int),(root:Int),.inr rfl,?_⟩;rw[<-hr];unfold Go.Sort.siftDown;rw[dif_neg (by omega),Qa1 (by simp[Go.Sort.ltInt,h5];omega),Qa1 (by simp[Go.Sort.ltInt,hl])]
    rw[aj (by simpa using hl),Kerb.sw hp hq (fun l=>Zm (Xz [Yq l,Zz .i64 (hi:Int),Zz .i64 (first:Int),Zz .i64 (((2*root+1+1):Nat):Int)]))];refine⟨_,rfl,(Go.Sort.swp e (first+root) (first+(2*root+1+1)),(2*root+1+1)),rfl,⟨by dsimp only;rw[Xq,hs],by dsimp only;omega,?_⟩,by dsimp only;omega⟩;dsimp only;rw[<-hr];conv=>rhs;unfold Go.Sort.siftDown
    rw[dif_neg (by omega),Qa1 (by simp[Go.Sort.ltInt,h5];omega),Qa0 (by simp[Go.Sort.ltInt,hl]),dif_pos (by omega)]
   ·rw[aj (by simpa using h5)];have hq:first+(2*root+1)<e.size:=by omega
    have hp:first+root<e.size:=by omega
    rw[Xx hp,Xx hq];by_cases hl:e[first+root]! < e[first+(2*root+1)]!;case neg =>
     rw[ag (by simpa using hl)];refine⟨_,rfl,(hi:Int),(first:Int),(root:Int),.inr rfl,?_⟩;rw[<-hr];unfold Go.Sort.siftDown;rw[dif_neg (by omega),Qa0 (by simp[Go.Sort.ltInt,h5]),Qa1 (by simp[Go.Sort.ltInt,hl])]
    rw[aj (by simpa using hl),Kerb.sw hp hq (fun l=>Zm (Xz [Yq l,Zz .i64 (hi:Int),Zz .i64 (first:Int),Zz .i64 (((2*root+1):Nat):Int)]))];refine⟨_,rfl,(Go.Sort.swp e (first+root) (first+(2*root+1)),(2*root+1)),rfl,⟨by dsimp only;rw[Xq,hs],by dsimp only;omega,?_⟩,by dsimp only;omega⟩;dsimp only;rw[<-hr];conv=>rhs;unfold Go.Sort.siftDown
    rw[dif_neg (by omega),Qa0 (by simp[Go.Sort.ltInt,h5]),Qa0 (by simp[Go.Sort.ltInt,hl])]
  ·rw[aj (by simp;omega)];have hq:first+(2*root+1)<e.size:=by omega
   have hp:first+root<e.size:=by omega
   rw[Xx hp,Xx hq];by_cases hl:e[first+root]! < e[first+(2*root+1)]!;case neg =>
    rw[ag (by simpa using hl)];refine⟨_,rfl,(hi:Int),(first:Int),(root:Int),.inr rfl,?_⟩;rw[<-hr];unfold Go.Sort.siftDown;rw[dif_neg (by omega),Qa0 (by simp;omega),Qa1 (by simp[Go.Sort.ltInt,hl])]
   rw[aj (by simpa using hl),Kerb.sw hp hq (fun l=>Zm (Xz [Yq l,Zz .i64 (hi:Int),Zz .i64 (first:Int),Zz .i64 (((2*root+1):Nat):Int)]))];refine⟨_,rfl,(Go.Sort.swp e (first+root) (first+(2*root+1)),(2*root+1)),rfl,⟨by dsimp only;rw[Xq,hs],by dsimp only;omega,?_⟩,by dsimp only;omega⟩;dsimp only;rw[<-hr];conv=>rhs;unfold Go.Sort.siftDown
   rw[dif_neg (by omega),Qa0 (by simp;omega),Qa0 (by simp[Go.Sort.ltInt,hl])]
 ·rintro⟨e,l⟩ ⟨n,m,k,h1 | h1,rfl⟩
  ·dsimp only at h1;subst h1;simp only[↓bD,↓bS,↓cL,↓cP,↓jB];rw[ag (Yn _)]
  ·dsimp only at h1;subst h1;simp only[↓bD,↓bS,↓cL,↓cP,↓PQ]
theorem abC:Wk 276 3 Gy:=by
 refine cw Tryz.func276 rfl fun xs bl r h=> ?_;unfold Gy at h;split at h;case h_2=>cases h
 rename_i n;obtain⟨aB,rfl⟩:=dz h;refine cu (Zv (Ah [Zz .u64 (Zw .u64 n)] []) (kI .i64 fun n=>az (Zu (0<=n)) (Zm (Zz .u64 (Zw .u64 (1*2 ^ min (Zx n) (IntKind.bits .u64))),[])))) (by kernel_rfl) ?_;delta kI;dsimp only[Ah,aK,bq,aE,dl,ak,bW,dx];simp only[Yp,Qa2] at aB;obtain⟨h0,h1⟩:=aB;obtain⟨n,rfl⟩:=Yx h0;rw[Kerb.KU (n:=(n:Int)) (by omega) (by omega),ae (by rw[Kerb.Dk];simp;omega)];simp only[↓fe,↓ec,↓bD,↓fO,↓jA,↓cL,↓cP,↓c7];rw[Kerb.zl,ae (by simp)];exact Qb3 (fun z=>Zm (Zz .u64 z,[])) (Kerb.Ka (by omega))
theorem abI:Wk 282 3 Ak:=by
 refine cw Tryz.func282 rfl fun xs bl r h=> ?_;unfold Ak at h;split at h;case h_2=>cases h
 rename_i a b els s;obtain⟨aB,rfl⟩:=dz h;show eb (G.env 282 3) G.rts (G.own 282) Tryz.f282 _ _ [0,3]=_;refine cu (az (Zu (0<=b)&&Zu (b<(↑(Zy els):Int))&&Zb) (az (Zg (Zx b) (Zy els)&&Zb) (Yy .u64 (Zf els (Zx b) Zn) fun n=>az (Zu (0<=a)&&Zu (a<(↑(Zy els):Int))&&Zb) (az (Zg (Zx a) (Zy els)&&Zb) (Yy .u64 (Zf els (Zx a) Zn) fun bn=>aD (Zu (n<bn)) (Zm (Yu [Zz .i64 b,Zz .i64 a],[els,[Zz .i64 (Zw .i64 (s+1))]])) (Zm (Yu [Zz .i64 a,Zz .i64 b],[els,[Zz .i64 s]]))))))) (by kernel_rfl) ?_;simp only[Yp,Qa2] at aB;obtain⟨⟨⟨⟨⟨⟨⟨fK,hlen⟩,GJ⟩,Q9⟩,xZ⟩,xj⟩,AC⟩,jI⟩:=aB;obtain⟨d,rfl,hd⟩:=Kerb.lz fK;simp only[Xu] at *;obtain⟨a,rfl⟩:=Yx GJ;obtain⟨b,rfl⟩:=Yx xZ;obtain⟨s,rfl⟩:=Yx AC;have ha:a<d.size:=by omega
 have hb:b<d.size:=by omega
 simp only[Xg];rw[ae (by simp;omega),ae (by simp;omega),Kerb.nK hb,cL,ae (by simp;omega),ae (by simp;omega),Kerb.nK ha,cL];unfold Kerb.order2 Go.Sort.order2 Go.Sort.ltInt;rw[hd];simp only[Xg];by_cases h:d[b]! < d[a]!
 ·rw[ag (by simpa using h),Qa1 (by simpa using h),Kerb.ga (by omega) (by omega)];rfl
 ·rw[aj (by simpa using h),Qa0 (by simpa using h)]
theorem w22:Wk 22 4 H5:=by
 refine cw Tryz.func22 rfl fun xs bl r h=> ?_;unfold H5 at h;split at h;case h_2=>cases h
 rename_i l;obtain⟨aB,rfl⟩:=dz h
 refine cu (Zv (az (Zu (Zy l<=4611686018427387904)&&Zb) (Zm (Zz .i64 (Yg l 0 2),[[Zk l,Zz .i64 (Xb l 0 2)]]))) fun(r:AV×aC)=>aL (Yv r) fun(x:List AV) (eH:List (List AV))=>bq x fun b eP=>ak .i64 eP fun n eV=>aw eV (aN eH (Yy .i64 (Ym r) fun bn=>Zv (az (Zu (Zy b<=4611686018427387904)&&Zu (0<=n)) (Zm (Zz .i64 (Yg b n 9),[[Zk b,Zz .i64 (Xb b n 9)]]))) fun(r:AV×aC)=>aL (Yv r) fun(x:List AV) (fR:List (List AV))=>bq x fun b hZ=>ak .i64 hZ fun n jj=>aw jj (aN fR (Yy .i64 (Ym r) fun b_=>Zv (az (Zu (0<=b_)&&Zu (b_<=4611686018427387904)) (Zm (Xv [Zq (Kerb.aY.name (Kerb.user b_)),Zq (Kerb.aY.inst (Kerb.user b_)),Zq (Kerb.aY.aJ (Kerb.user b_))],[]))) (kA fun cs=>aK cs fun cG r=>aK r fun eQ r=>aK r fun eZ r=>aw r (Zv (az (Zu (Zy b<=4611686018427387904)&&Zu (0<=n)) (Zm (Zz .i64 (Yg b n 9),[[Zk b,Zz .i64 (Xb b n 9)]]))) fun(r:AV×aC)=>aL (Yv r) fun(x:List AV) (kG:List (List AV))=>bq x fun b mT=>ak .i64 mT fun n mf=>aw mf (aN kG (Yy .i64 (Ym r) fun eO=>Zv (az (Zu (0<=eO)&&Zu (eO<=1000)) (Zm (Zz .u64 (Kerb.aG eO),[]))) (kI .u64 fun bY=>Zv (az (Zu (Zy b<=4611686018427387904)&&Zu (0<=n)) (Zm (Zz .i64 (Yg b n 256),[[Zk b,Zz .i64 (Xb b n 256)]]))) fun(r:AV×aC)=>aL (Yv r) fun(x:List AV) (gu:List (List AV))=>bq x fun b g8=>ak .i64 g8 fun n g9=>aw g9 (aN gu (Yy .i64 (Ym r) fun bF=>Zv (az (Zu (Zy b<=4611686018427387904)&&Zu (0<=n)) (Zm (Zz .i64 (Yg b n 200),[[Zk b,Zz .i64 (Xb b n 200)]]))) fun(r:AV×aC)=>aL (Yv r) fun(x:List AV) (kf:List (List AV))=>bq x fun b lB=>ak .i64 lB fun n lC=>aw lC (aN kf (Yy .i64 (Ym r) fun fb=>Zv (az (Zu (Zy b<=4611686018427387904)&&Zu (0<=n)) (Zm (Zz .i64 (Yg b n 256),[[Zk b,Zz .i64 (Xb b n 256)]]))) fun(r:AV×aC)=>aL (Yv r) fun(x:List AV) (mc:List (List AV))=>bq x fun b ue=>ak .i64 ue fun n uf=>aw uf (aN mc (Yy .i64 (Ym r) fun eX=>Zv (az (Zu (Zy b<=4611686018427387904)&&Zu (0<=n)) (Zm (Zz .i64 (Yg b n 256),[[Zk b,Zz .i64 (Xb b n 256)]]))) fun(r:AV×aC)=>aL (Yv r) fun(x:List AV) (ug:List (List AV))=>bq x fun b uh=>ak .i64 uh fun n wV=>aw wV (aN ug (Yy .i64 (Ym r) fun gK=>Zv (az (Zu (Zy b<=4611686018427387904)&&Zu (0<=n)) (Zm (Zz .i64 (Yg b n 9),[[Zk b,Zz .i64 (Xb b n 9)]]))) fun(r:AV×aC)=>aL (Yv r) fun(x:List AV) (wW:List (List AV))=>bq x fun b wX=>ak .i64 wX fun n wY=>aw wY (aN wW (Yy .i64 (Ym r) fun kH=>Zv (az (Zu (0<=kH)&&Zu (kH<=4611686018427387904)) (Zm (Xv [Zq (Kerb.aY.name (Kerb.service kH)),Zq (Kerb.aY.inst (Kerb.service kH)),Zq (Kerb.aY.aJ (Kerb.service kH))],[]))) (kA fun cs=>aK cs fun hO r=>aK r fun gV r=>aK r fun iw r=>aw r (Zv (az (Zu (Zy b<=4611686018427387904)&&Zu (0<=n)) (Zm (Zz .i64 (Yg b n 7),[[Zk b,Zz .i64 (Xb b n 7)]]))) fun(r:AV×aC)=>aL (Yv r) fun(x:List AV) (Dn:List (List AV))=>bq x fun b Dp=>ak .i64 Dp fun n Dq=>aw Dq (aN Dn (Yy .i64 (Ym r) fun lL=>aD (lL==6) (Zv (az (Zu (Zy b<=4611686018427387904)&&Zu (0<=n)) (Zm (Zz .i64 (Yg b n 3),[[Zk b,Zz .i64 (Xb b n 3)]]))) fun(r:AV×aC)=>aL (Yv r) fun(x:List AV) (Dr:List (List AV))=>bq x fun b Ds=>ak .i64 Ds fun n Dt=>aw Dt (aN Dr (Yy .i64 (Ym r) fun gp=>Zv (az (Zu (Zy b<=4611686018427387904)&&Zu (0<=n)) (Zm (Zz .i64 (Yg b n 3),[[Zk b,Zz .i64 (Xb b n 3)]]))) fun(r:AV×aC)=>aL (Yv r) fun(x:List AV) (Du:List (List AV))=>bq x fun b Dv=>ak .i64 Dv fun n Dw=>aw Dw (aN Du (Yy .i64 (Ym r) fun iN=>Zv (az (Zu (Zy b<=4611686018427387904)&&Zu (0<=n)) (Zm (Zz .i64 (Yg b n 9),[[Zk b,Zz .i64 (Xb b n 9)]]))) fun(r:AV×aC)=>aL (Yv r) fun(x:List AV) (HL:List (List AV))=>bq x fun b HM=>ak .i64 HM fun n HN=>aw HN (aN HL (Yy .i64 (Ym r) fun fL=>aD (fL==8) (Zv (az (Zu (Zy b<=4611686018427387904)&&Zu (0<=n)) (Zm (Zz .i64 (Yg b n 2),[[Zk b,Zz .i64 (Xb b n 2)]]))) fun(r:AV×aC)=>aL (Yv r) fun(x:List AV) (RZ:List (List AV))=>bq x fun b R2=>ak .i64 R2 fun n R3=>aw R3 (aN RZ (Yy .i64 (Ym r) fun n=>Zv (az (Zu (0<=n)&&Zu (n<=1)) (Zm (Xv [Zq (Kerb.aY.name (Wz n)),Zq (Kerb.aY.inst (Wz n)),Zq (Kerb.aY.aJ (Wz n))],[]))) (kA fun cs=>aK cs fun b r=>aK r fun jp r=>aK r fun mW r=>aw r (Zm (Xv [Zd (bn==1),Zq b,Zq jp,Zq mW,Zz .i64 (Zw .i64 (4294967295-gp)),Zz .u64 bY,Zz .i64 bF,Zz .i64 (Zw .i64 (4294967295-iN)),Zq (Kerb.aY.name (Wz 0)),Zq (Kerb.aY.inst (Wz 0))],[])))))) (Zm (Xv [Zd (bn==1),Zq cG,Zq eQ,Zq eZ,Zz .i64 (Zw .i64 (4294967295-gp)),Zz .u64 bY,Zz .i64 bF,Zz .i64 (Zw .i64 (4294967295-iN)),Zq hO,Zq gV],[]))))))))) (Zv (az (Zu (Zy b<=4611686018427387904)&&Zu (0<=n)) (Zm (Zz .i64 (Yg b n 9),[[Zk b,Zz .i64 (Xb b n 9)]]))) fun(r:AV×aC)=>aL (Yv r) fun(x:List AV) (Dr:List (List AV))=>bq x fun b Ds=>ak .i64 Ds fun n Dt=>aw Dt (aN Dr (Yy .i64 (Ym r) fun gp=>aD (gp==8) (Zv (az (Zu (Zy b<=4611686018427387904)&&Zu (0<=n)) (Zm (Zz .i64 (Yg b n 2),[[Zk b,Zz .i64 (Xb b n 2)]]))) fun(r:AV×aC)=>aL (Yv r) fun(x:List AV) (Du:List (List AV))=>bq x fun b Dv=>ak .i64 Dv fun n Dw=>aw Dw (aN Du (Yy .i64 (Ym r) fun n=>Zv (az (Zu (0<=n)&&Zu (n<=1)) (Zm (Xv [Zq (Kerb.aY.name (Wz n)),Zq (Kerb.aY.inst (Wz n)),Zq (Kerb.aY.aJ (Wz n))],[]))) (kA fun cs=>aK cs fun b r=>aK r fun jp r=>aK r fun mW r=>aw r (Zm (Xv [Zd (bn==1),Zq b,Zq jp,Zq mW,Zz .i64 fb,Zz .u64 bY,Zz .i64 bF,Zz .i64 (Zw .i64 (Zw .i64 (eX*150)+gK)),Zq (Kerb.aY.name (Wz 0)),Zq (Kerb.aY.inst (Wz 0))],[])))))) (Zm (Xv [Zd (bn==1),Zq cG,Zq eQ,Zq eZ,Zz .i64 fb,Zz .u64 bY,Zz .i64 bF,Zz .i64 (Zw .i64 (Zw .i64 (eX*150)+gK)),Zq hO,Zq gV],[]))))))))))))))))))))))))))))) (by kernel_rfl) ?_
 delta kA kI;dsimp only[aK,bq,ak];simp only[A0,aB,Kerb.Fm,Kerb.Fo,Kerb.zx,Kerb.De,Kerb.J',Bool.and_true,Wx];refine w7 (fun h6=> ?_) (fun h6=> ?_)
 ·refine w7 (fun h8=> ?_) (fun h8=> ?_)
  ·have e6:(Yg l (Kerb.QD l) 7==6)=Zb:=h6;have eq:Wy l=Kerb.Sv l:=by unfold Wy;rw[e6];rfl
   have e8:(Yg l (Wy l) 9==8)=Zb:=by rw[eq];exact h8
   unfold Kerb.aM;rw[e6,e8,eq];rfl
  ·have e6:(Yg l (Kerb.QD l) 7==6)=Zb:=h6;have eq:Wy l=Kerb.Sv l:=by unfold Wy;rw[e6];rfl
   have e8:(Yg l (Wy l) 9==8)=Yd:=by rw[eq];exact h8
   unfold Kerb.aM;rw[e6,e8];rfl
 ·refine w7 (fun h8=> ?_) (fun h8=> ?_)
  ·have e6:(Yg l (Kerb.QD l) 7==6)=Yd:=h6;have eq:Wy l=Kerb.Vt l:=by unfold Wy;rw[e6];rfl
   have e8:(Yg l (Wy l) 9==8)=Zb:=by rw[eq];exact h8
   unfold Kerb.aM;rw[e6,e8,eq];rfl
  ·have e6:(Yg l (Kerb.QD l) 7==6)=Yd:=h6;have eq:Wy l=Kerb.Vt l:=by unfold Wy;rw[e6];rfl
   have e8:(Yg l (Wy l) 9==8)=Yd:=by rw[eq];exact h8
   unfold Kerb.aM;rw[e6,e8];rfl
theorem w37:Wk 37 4 Oc:=by
 refine cw Tryz.func37 rfl fun xs bl r h=> ?_;unfold Oc at h;split at h;case h_2=>cases h
 rename_i li x y z t ex kv sd;obtain⟨aB,rfl⟩:=dz h;refine cu (Zv (jm [Xv [Zq x,Zq y,Zq z]] []) (kL fun b=>aD (!b) (Zm (Yu [Zk [],Zz .i64 103],[])) (aD (!Zj t 4294967295) (Zm (Yu [Zk [],Zz .i64 104],[])) (aD (!Zj ex 4294967295) (Zm (Yu [Zk [],Zz .i64 104],[])) (aD (!Zj kv 255) (Zm (Yu [Zk [],Zz .i64 104],[])) (aD (Zu ((↑(Zy sd):Int)>1012)) (Zm (Yu [Zk [],Zz .i64 105],[])) (Zv (iQ [Zk (Wv 2 li),Xv [Zq x,Zq y,Zq z]] []) (kO fun l=>Zv (ew [Zk l,Zz .i64 t,Zd li] []) (kO fun l=>Zv (hJ [Zk l,Zz .i64 1] []) (kO fun l=>Zv (ew [Zk l,Zz .i64 ex,Zd li] []) (kO fun l=>Zv (hJ [Zk l,Zz .i64 kv] []) (kO fun l=>Zv (ku [Zk l,Zz .i64 (↑(Zy sd):Int),Zd li] []) (kO fun l=>az (room (Zy l+Zy sd) 1) (Zm (Yu [Zk (l++sd),Zz .i64 0],[]))))))))))))))) (by kernel_rfl) ?_;delta kO kL;dsimp only[hJ,jm,iQ,ew,ku,aK,bq,aE,dl,ak,bW,dx];simp only[Yp,Qa2] at aB;obtain⟨⟨q1,q2⟩,q3⟩:=aB;simp only[A0];unfold Kerb.dV;rw[ae (by simp[q1,q2,q3])];cases h1:Kerb.aY.valid ⟨x,y,z⟩
 ·rfl
 rw[Zp,aA];cases h4:Zj t 4294967295
 ·rfl
 rw[Zp,aA];cases h5:Zj ex 4294967295
 ·rfl
 rw[Zp,aA];cases h6:Zj kv 255
 ·rfl
 rw[Zp,aA];by_cases h7:1012<sd.length
 ·rw[ag (by simp;omega),Qa0 (by simp),Qa0 (by simp),Qa1 h7]
 have l1:=Kerb.ch h1;have l4:=Kerb.jg 2 li;simp only at l1;rw[aj (by simp;omega),Qa0 (by simp),Qa0 (by simp),Qa0 h7];rw[ae (by simp;omega),ae (by simp[Yj];omega),ae (by simp[Yj,Yz];omega),ae (by simp[Yj,Yz];omega),ae (by simp[Yj,Yz];omega),ae (by simp[Yj,Yz];omega),ae (Xh (by simp[Yj,Yz];omega))]
theorem w39:Wk 39 4 Sb:=by
 refine cw Tryz.func39 rfl fun xs bl r h=> ?_;unfold Sb at h;split at h;case h_2=>cases h
 rename_i li mu kv rl tk au tm lf sv ins;obtain⟨aB,rfl⟩:=dz h;refine cu (aD mu (Zm (Yu [Zk [],Zz .i64 100],[])) (Zv (N1 [Xv [Zd li,Zd mu,Zz .i64 kv,Zq rl,Zk tk,Zk au]] []) (kT fun vs=>bq vs fun b r=>ak .i64 r fun n r=>aw r (aD (!n==0) (Zm (Yu [Zk [],Zz .i64 n],[])) (Zv (sj [Zq sv] []) (kL fun cG=>aD (!cG) (Zm (Yu [Zk [],Zz .i64 103],[])) (Zv (sk [Zq ins] []) (kL fun eQ=>aD (!eQ) (Zm (Yu [Zk [],Zz .i64 103],[])) (aD (!Zj tm 4294967295) (Zm (Yu [Zk [],Zz .i64 104],[])) (aD (!Zj lf 255) (Zm (Yu [Zk [],Zz .i64 104],[])) (Zv (ew [Zk b,Zz .i64 tm,Zd li] []) (kO fun l=>Zv (hJ [Zk l,Zz .i64 lf] []) (kO fun l=>Zv (oa [Zk l,Zq sv] []) (kO fun l=>Zv (oa [Zk l,Zq ins] []) (kO fun l=>Zm (Yu [Zk l,Zz .i64 0],[])))))))))))))))) (by kernel_rfl) ?_;delta kT kO kL;dsimp only[N1,hJ,oa,ew,sj,sk,aK,bq,aE,dl,ak,bW,dx];simp only[Yp,Qa2] at aB;obtain⟨⟨p1,p2⟩,p3⟩:=aB;simp only[A0,Yh,Xy,Kerb.eE.av,p1,p2,p3,Qb2];have hL:∀ q,Kerb.cI ⟨li,mu,kv,rl,tk,au⟩=q->Kerb.dN ⟨⟨li,mu,kv,rl,tk,au⟩,tm,lf,sv,ins⟩=if mu then⟨[],100⟩ else if q.err≠0 then⟨[],q.err⟩ else if !(Kerb.validName sv&&Kerb.bO ins) then⟨[],103⟩ else if !(Zj tm 4294967295&&Zj lf 255) then⟨[],104⟩ else⟨Kerb.bg (Kerb.bg (q.val++Kerb.aS tm 4 li++Kerb.aS lf 1 Yd) sv) ins,0⟩:=by rintro _ rfl;rfl
 have hl:=Kerb.uX ⟨li,mu,kv,rl,tk,au⟩;obtain⟨q,hq⟩:∃ q,Kerb.cI ⟨li,mu,kv,rl,tk,au⟩=q:=⟨_,rfl⟩;rw[hL q hq,hq];rw[hq] at hl;cases mu;case true=>rfl
 rw[aA,Qa0 (by simp)];by_cases h1:q.err=0;case neg=>rw[ag (by simpa using h1),Qa1 h1]
 rw[aj (by simpa using h1),Qa0 (by simpa using h1)];cases h2:Kerb.validName sv
 ·rfl
 cases h3:Kerb.bO ins
 ·rfl
 cases Zj tm 4294967295
 ·rfl
 cases Zj lf 255
 ·rfl
 have l2:=Kerb.iI h2;have l3:=Kerb.gS h3;simp only[Zp,aA,Ww,Bool.false_eq_true,if_false];rw[ae (by simp;omega),ae (by simp[Yz];omega),ae (by simp[Yz];omega),ae (by simp[Yz,Kerb.bH];omega)]
theorem w41:Wk 41 4 Sd:=by
 refine cw Tryz.func41 rfl fun xs bl r h=> ?_;unfold Sd at h;split at h;case h_2=>cases h
 rename_i op ux uy uz kv rl tk sv ins bx;obtain⟨aB,rfl⟩:=dz h
 refine cu (Zv (aD (!(op==1||op==3)) (Zm [Zz .i64 op,Zq ux,Zq uy,Zq uz,Zz .i64 kv,Zq rl,Zk tk,Zq sv,Zq ins,Zk bx,Zd !op==2,Zz .i64 0]) (Zm [Zz .i64 op,Zq ux,Zq uy,Zq uz,Zz .i64 kv,Zq rl,Zk tk,Zq sv,Zq ins,Zk bx,Zd Yd,Zz .i64 0])) fun l=>ak .i64 l fun n r=>aK r fun b r=>aK r fun cG r=>aK r fun eQ r=>ak .i64 r fun bn r=>aK r fun eZ r=>bq r fun hO r=>aK r fun gV r=>aK r fun iw r=>bq r fun jp r=>aE r fun mW r=>ak .i64 r fun b_ r=>let t1:Option (List AV):=Zm [Zz .i64 n,Zq b,Zq cG,Zq eQ,Zz .i64 bn,Zq eZ,Zk hO,Zq gV,Zq iw,Zk jp,Zd Zb,Zz .i64 b_];let t0:Option (List AV):=aD (!(n==1||n==3)) (Zv (DI [Zq eZ] []) (kL fun oG=>aD (!oG) t1 (Zv (sj [Zq gV] []) (kL fun ig=>aD (!ig) t1 (Zv (sk [Zq iw] []) (kL fun iT=>Zm [Zz .i64 n,Zq b,Zq cG,Zq eQ,Zz .i64 bn,Zq eZ,Zk hO,Zq gV,Zq iw,Zk jp,Zd !iT,Zz .i64 b_])))))) (Zm [Zz .i64 n,Zq b,Zq cG,Zq eQ,Zz .i64 bn,Zq eZ,Zk hO,Zq gV,Zq iw,Zk jp,Zd Yd,Zz .i64 b_]);aw r (aD mW (Zm (Yu [Zk [],Zz .i64 40],[])) (Zv (aD (n==1||n==3) (Zv (jm [Xv [Zq b,Zq cG,Zq eQ]] []) (kL fun b=>aD (!b) t1 t0)) t0) fun l=>ak .i64 l fun n r=>aK r fun b r=>aK r fun oG r=>aK r fun ig r=>ak .i64 r fun eO r=>aK r fun iT r=>bq r fun js r=>aK r fun iK r=>aK r fun nJ r=>bq r fun mZ r=>aE r fun qV r=>ak .i64 r fun bY r=>aw r (aD qV (Zm (Yu [Zk [],Zz .i64 103],[])) (Zv (aD (!(n==1||n==3)) (Zm [Zz .i64 n,Zq b,Zq oG,Zq ig,Zz .i64 eO,Zq iT,Zk js,Zq iK,Zq nJ,Zk mZ,Zd !Zj eO 255,Zz .i64 bY]) (Zm [Zz .i64 n,Zq b,Zq oG,Zq ig,Zz .i64 eO,Zq iT,Zk js,Zq iK,Zq nJ,Zk mZ,Zd Yd,Zz .i64 bY])) fun l=>ak .i64 l fun n r=>aK r fun b r=>aK r fun sX r=>aK r fun wq r=>ak .i64 r fun bF r=>aK r fun wu r=>bq r fun AJ r=>aK r fun Jk r=>aK r fun G0 r=>bq r fun AK r=>aE r fun Jl r=>ak .i64 r fun fb r=>let t2:Option (List AV):=Zm [Zz .i64 n,Zq b,Zq sX,Zq wq,Zz .i64 bF,Zq wu,Zk AJ,Zq Jk,Zq G0,Zk AK,Zd (Zu ((↑(Zy AK):Int)>1012)),Zz .i64 fb];aw r (aD Jl (Zm (Yu [Zk [],Zz .i64 104],[])) (Zv (aD (!(n==1||n==3)) (aD (Zu ((↑(Zy AJ):Int)>255)) (Zm [Zz .i64 n,Zq b,Zq sX,Zq wq,Zz .i64 bF,Zq wu,Zk AJ,Zq Jk,Zq G0,Zk AK,Zd Zb,Zz .i64 fb]) t2) t2) fun l=>ak .i64 l fun n r=>aK r fun b r=>aK r fun Lm r=>aK r fun Ln r=>ak .i64 r fun eX r=>aK r fun Jm r=>bq r fun Lo r=>aK r fun Lp r=>aK r fun Jn r=>bq r fun Lq r=>aE r fun WJ r=>ak .i64 r fun gK r=>let t3:Option (List AV):=Zm [Zz .i64 n,Zq b,Zq Lm,Zq Ln,Zz .i64 eX,Zq Jm,Zk Lo,Zq Lp,Zq Jn,Zk Lq,Zd Zb,Zz .i64 gK];let t4:Option (List AV):=aD (!(n==1||n==3)) (Zm [Zz .i64 n,Zq b,Zq Lm,Zq Ln,Zz .i64 eX,Zq Jm,Zk Lo,Zq Lp,Zq Jn,Zk Lq,Zd !(b==[]&&(Lm==[]&&Ln==[])),Zz .i64 gK]) (Zm [Zz .i64 n,Zq b,Zq Lm,Zq Ln,Zz .i64 eX,Zq Jm,Zk Lo,Zq Lp,Zq Jn,Zk Lq,Zd Yd,Zz .i64 gK]);aw r (aD WJ (Zm (Yu [Zk [],Zz .i64 105],[])) (Zv (aD (n==1||n==3) (aD (!eX==0) t3 (aD (!Jm==[]) t3 (aD (Zu ((↑(Zy Lo):Int)>0)) t3 (aD (!Lp==[]) t3 (aD (!Jn==[]) t3 t4))))) t4) fun l=>ak .i64 l fun n r=>aK r fun b r=>aK r fun WK r=>aK r fun WL r=>ak .i64 r fun kH r=>aK r fun WM r=>bq r fun QS r=>aK r fun WN r=>aK r fun WO r=>bq r fun Jo r=>aE r fun WQ r=>ak .i64 r fun lL r=>aw r (aD WQ (Zm (Yu [Zk [],Zz .i64 108],[])) (aD (n==1||n==3) (Zv (iQ [Zk (Wv 9 Yd++Kerb.aS n 1 Yd),Xv [Zq b,Zq WK,Zq WL]] []) (kO fun l=>Zv (ku [Zk l,Zz .i64 (↑(Zy Jo):Int),Zd Yd] []) (kO fun l=>az (room (Zy l+Zy Jo) 1) (Zm (Yu [Zk (l++Jo),Zz .i64 0],[]))))) (Zv (hJ [Zk (Wv 9 Yd++Kerb.aS n 1 Yd),Zz .i64 kH] []) (kO fun l=>Zv (oa [Zk l,Zq WM] []) (kO fun l=>Zv (hJ [Zk l,Zz .i64 (↑(Zy QS):Int)] []) (kO fun l=>az (room (Zy l+Zy QS) 1) (Zv (oa [Zk (l++QS),Zq WN] []) (kO fun l=>Zv (oa [Zk l,Zq WO] []) (kO fun l=>Zv (ku [Zk l,Zz .i64 (↑(Zy Jo):Int),Zd Yd] []) (kO fun l=>az (room (Zy l+Zy Jo) 1) (Zm (Yu [Zk (l++Jo),Zz .i64 0],[]))))))))))))))))))))) (by kernel_rfl) ?_
 delta kO kL;dsimp only[DI,hJ,oa,jm,iQ,ku,sj,sk,aK,bq,aE,dl,ak,bW,dx];simp only[Yp,Qa2] at aB;have p8:(Wv 9 Yd).length=2:=rfl;unfold Kerb.aV;by_cases h13:op=1\/op=3
 ·have e1:(op==1||op==3)=Zb:=by simpa using h13
  have e2:(op==2)=Yd:=by simp;omega
  have e3:Kerb.ld op=Zb:=by simp[Kerb.ld];omega
  simp only[A0,e1,e2,e3,Zp,cc,aA,Bool.false_eq_true,if_false];rw[ae (by simp;omega)];cases h2:Kerb.aY.valid ⟨ux,uy,uz⟩
  ·rfl
  rw[Zp,aA,Qa0 (by simp)];by_cases h3:1012<bx.length
  ·rw[ag (by simp;omega),Qa1 h3]
  rw[aj (by simp;omega),Qa0 h3];by_cases h4:kv=0;case neg=>rw[ag (by simpa using h4),Qa1 (.inl h4)]
  rw[aj (by simp[h4])];by_cases h5:rl=[];case neg=>rw[ag (by simpa using h5),Qa1 (.inr (.inl h5))]
  rw[aj (by simp[h5])];by_cases h6:tk=[];case neg=>rw[ag (by have:=List.length_pos_iff.2 h6;simp;omega),Qa1 (.inr (.inr (.inl h6)))]
  rw[aj (by simp[h6])];by_cases h7:sv=[];case neg=>rw[ag (by simpa using h7),Qa1 (.inr (.inr (.inr (.inl h7))))]
  rw[aj (by simp[h7])];by_cases h8:ins=[];case neg=>rw[ag (by simpa using h8),Qa1 (.inr (.inr (.inr (.inr h8))))]
  rw[aj (by simp[h8]),Qa0 (by simp[h4,h5,h6,h7,h8])];have l1:=Kerb.ch h2;simp only at l1;rw[ae (by simp[Yz,p8];omega),ae (by simp[Yz,p8,Yj];omega),ae (Xh (by simp[Yz,p8,Yj];omega))];simp[Xf,Kerb.rI]
 ·have e1:(op==1||op==3)=Yd:=by simpa using h13
  simp only[A0,e1,Bool.not_false,cc,aA];by_cases h2:op=2;case neg =>
   have e3:Kerb.ld op=Yd:=by simp[Kerb.ld];omega
   rw[ag (by simpa using h2),e3];rfl
  subst h2;rw[aj (by simp)];simp only[show Kerb.ld 2=Zb from rfl,Zp,Bool.false_eq_true,if_false,beq_self_eq_true,if_true];rw[ae (by simp;omega)];cases h2:Kerb.cY rl
  ·rfl
  rw[Zp,aA,ae (by simp;omega)];cases h3:Kerb.validName sv
  ·rfl
  rw[Zp,aA,ae (by simp;omega)];cases h4:Kerb.bO ins
  ·rfl
  rw[Zp,aA,Qa0 (by simp)];cases h5:Zj kv 255
  ·rfl
  rw[Zp,aA,Qa0 (by simp)];by_cases h6:255<tk.length
  ·rw[ag (by simp;omega),Qa1 (.inl h6)]
  rw[aj (by simp;omega)];by_cases h7:1012<bx.length
  ·rw[ag (by simp;omega),Qa1 (.inr h7)]
  rw[aj (by simp;omega),Qa0 (by omega)];show aD (!(Kerb.aY.xQ ⟨ux,uy,uz⟩)) _ _=_;cases Kerb.aY.xQ ⟨ux,uy,uz⟩
  ·rfl
  rw[Zp,aA,Qa0 (by simp)];have l1:=Kerb.gw h2;have l2:=Kerb.iI h3;have l3:=Kerb.gS h4;rw[ae (by simp[Yz,p8]),ae (by simp[Yz,p8];omega),ae (by simp[Yz,p8,Kerb.bH];omega),ae (Xh (by simp[Yz,p8,Kerb.bH];omega)),ae (by simp[Yz,p8,Kerb.bH];omega),ae (by simp[Yz,p8,Kerb.bH];omega),ae (by simp[Yz,p8,Kerb.bH];omega),ae (Xh (by simp[Yz,p8,Kerb.bH];omega))];simp[Xf,Kerb.rI,Kerb.iP]
theorem w43:Wk 43 4 Od:=by
 refine cw Tryz.func43 rfl fun xs bl r h=> ?_;unfold Od at h;split at h;case h_2=>cases h
 rename_i op ux uy uz bx;obtain⟨aB,rfl⟩:=dz h;refine cu (aD (Zu (op<1)) (Zm (Yu [Zk [],Zz .i64 40],[])) (aD (Zu (op>3)) (Zm (Yu [Zk [],Zz .i64 40],[])) (Zv (jm [Xv [Zq ux,Zq uy,Zq uz]] []) (kL fun b=>aD (!b) (Zm (Yu [Zk [],Zz .i64 103],[])) (aD (Zu ((↑(Zy bx):Int)>1012)) (Zm (Yu [Zk [],Zz .i64 105],[])) (Zv (iQ [Zk (Wv 10 Yd++Kerb.aS op 1 Yd),Xv [Zq ux,Zq uy,Zq uz]] []) (kO fun l=>Zv (ku [Zk l,Zz .i64 (↑(Zy bx):Int),Zd Yd] []) (kO fun l=>az (room (Zy l+Zy bx) 1) (Zm (Yu [Zk (l++bx),Zz .i64 0],[])))))))))) (by kernel_rfl) ?_;delta kO kL;dsimp only[jm,iQ,ku,aK,bq,aE,dl,ak,bW,dx];simp only[Yp,Qa2] at aB;simp only[A0,Yh,Xy,Kerb.eE.av];have p8:(Wv 10 Yd).length=2:=rfl;unfold Kerb.eM;simp only;by_cases h0:1<=op/\op<=3;case neg =>
  have e:Kerb.ld op=Yd:=by simp[Kerb.ld];omega
  rw[e];by_cases h1:op<1
  ·rw[ag (by simpa using h1)];rfl
  ·rw[aj (by simpa using h1),ag (by simp;omega)];rfl
 have e:Kerb.ld op=Zb:=by simp[Kerb.ld];omega
 rw[e,aj (by simp;omega),aj (by simp;omega),Qa0 (by simp),ae (by simp;omega)];cases h2:Kerb.aY.valid ⟨ux,uy,uz⟩
 ·rfl
 rw[Zp,aA,Qa0 (by simp)];by_cases h8:1012<bx.length
 ·rw[ag (by simp;omega),Qa1 h8]
 rw[aj (by simp;omega),Qa0 h8];have l2:=Kerb.ch h2;simp only at l2;rw[ae (by simp[Yz,p8];omega),ae (by simp[Yj,Yz,p8];omega),ae (Xh (by simp[Yj,Yz,p8];omega))];simp[Xf]
theorem w63:Wk 63 4 Sg:=by
 refine cw Tryz.func63 rfl fun xs bl r h=> ?_;unfold Sg at h;split at h;case h_2=>cases h
 rename_i x;cases h;refine cu (Zv (w_ [AV.ptr 0 0,Zz .i64 9] [(0,[Zk [x],Zz .i64 0])]) fun(r:AV×aC)=>aL (Yv r) fun(x:List AV) (eH:List (List AV))=>bq x fun b eP=>ak .i64 eP fun n eV=>aw eV (aN eH (Yy .i64 (Ym r) fun bn=>Sx [Zz .i64 bn] fun cG eQ eZ=>Zv (w_ [AV.ptr 0 0,Zz .i64 200] [(0,[Zk b,Zz .i64 n])]) fun(r:AV×aC)=>aL (Yv r) fun(x:List AV) (fR:List (List AV))=>bq x fun b hZ=>ak .i64 hZ fun n jj=>aw jj (aN fR (Yy .i64 (Ym r) fun b_=>Zv (w_ [AV.ptr 0 0,Zz .i64 256] [(0,[Zk b,Zz .i64 n])]) fun(r:AV×aC)=>aL (Yv r) fun(x:List AV) (kG:List (List AV))=>bq x fun b mT=>ak .i64 mT fun n mf=>aw mf (aN kG (Yy .i64 (Ym r) fun eO=>Zv (w_ [AV.ptr 0 0,Zz .i64 256] [(0,[Zk b,Zz .i64 n])]) fun(r:AV×aC)=>aL (Yv r) fun(x:List AV) (gu:List (List AV))=>bq x fun b g8=>ak .i64 g8 fun n g9=>aw g9 (aN gu (Yy .i64 (Ym r) fun bY=>Zv (w_ [AV.ptr 0 0,Zz .i64 256] [(0,[Zk b,Zz .i64 n])]) fun(r:AV×aC)=>aL (Yv r) fun(x:List AV) (kf:List (List AV))=>bq x fun b lB=>ak .i64 lB fun n lC=>aw lC (aN kf (Yy .i64 (Ym r) fun bF=>Zv (w_ [AV.ptr 0 0,Zz .i64 256] [(0,[Zk b,Zz .i64 n])]) fun(r:AV×aC)=>aL (Yv r) fun(x:List AV) (mc:List (List AV))=>bq x fun b ue=>ak .i64 ue fun n uf=>aw uf (aN mc (Yy .i64 (Ym r) fun fb=>Zv (w_ [AV.ptr 0 0,Zz .i64 9] [(0,[Zk b,Zz .i64 n])]) fun(r:AV×aC)=>aL (Yv r) fun(x:List AV) (ug:List (List AV))=>bq x fun b uh=>ak .i64 uh fun n wV=>aw wV (aN ug (Yy .i64 (Ym r) fun eX=>aD (eX==8) (Zv (w_ [AV.ptr 0 0,Zz .i64 3] [(0,[Zk b,Zz .i64 n])]) fun(r:AV×aC)=>aL (Yv r) fun(x:List AV) (wW:List (List AV))=>bq x fun b wX=>ak .i64 wX fun n wY=>aw wY (aN wW (Yy .i64 (Ym r) fun gK=>Zv (w_ [AV.ptr 0 0,Zz .i64 2] [(0,[Zk b,Zz .i64 n])]) fun(r:AV×aC)=>aL (Yv r) fun(x:List AV) (Dn:List (List AV))=>bq x fun b Dp=>ak .i64 Dp fun n Dq=>aw Dq (aN Dn (Yy .i64 (Ym r) fun n=>Zm (Xv [Zq (Kerb.aY.name (Wz 0)),Zq (Kerb.aY.inst (Wz 0)),Zq (Kerb.aY.aJ (Wz 0)),Zz .i64 (Zw .i64 (4294967295-n)),Zz .i64 b_,Zz .i64 (Zw .i64 (4294967295-gK))],[])))))) (Zm (Xv [Zq cG,Zq eQ,Zq eZ,Zz .i64 (Zw .i64 (Zw .i64 (eO*70000)+bY)),Zz .i64 b_,Zz .i64 (Zw .i64 (Zw .i64 (bF*150)+fb))],[]))))))))))))))))) (by kernel_rfl) ?_;unfold Sx;delta kA;dsimp only[H6,w_,aK,bq,aE,dl,ak,bW,dx];have e0:Zu ([x].length<=4611686018427387904)=Zb:=rfl;have e1:Zu ((0:Int)<=Yg [x] 0 9)=Zb:=Kerb.Fo _ _ _;have e2:Zu (Yg [x] 0 9<=4611686018427387904)=Zb:=Kerb.zx _ _ _;simp only[A0,Yh,Xy,Kerb.eE.av,e0,e1,e2,Kerb.MP,Kerb.MQ,Kerb.Us,Ww,Bool.and_true,show Zu ((0:Int)<=1)=Zb from rfl,show((0:Int)==8)=Yd from rfl];rfl
theorem ga:Wk 64 4 Ol:=by
 refine cw Tryz.func64 rfl fun xs bl r h=> ?_;unfold Ol at h;split at h;case h_2=>cases h
 rename_i k x y z lf kv tk t aq;obtain⟨aB,rfl⟩:=dz h;refine cu (Zv (na [Zz .u64 k] []) (kL fun b=>aD (!b) (Zm (Yu [Zk [],Zz .i64 10],[])) (Zv (jm [Xv [Zq x,Zq y,Zq z]] []) (kL fun b=>aD (!b) (Zm (Yu [Zk [],Zz .i64 103],[])) (aD (!Zj lf 255) (Zm (Yu [Zk [],Zz .i64 104],[])) (aD (!Zj kv 255) (Zm (Yu [Zk [],Zz .i64 104],[])) (aD (!Zj t 4294967295) (Zm (Yu [Zk [],Zz .i64 104],[])) (aD (Zu ((↑(Zy tk):Int)>255)) (Zm (Yu [Zk [],Zz .i64 105],[])) (Zv (lG [Zz .u64 k] []) (kB fun b=>az (room (Zy ([]++Kerb.aS (bif aq then 1 else 0) 1 Yd)+Zy b) 1) (Zv (iQ [Zk ([]++Kerb.aS (bif aq then 1 else 0) 1 Yd++b),Xv [Zq x,Zq y,Zq z]] []) (kO fun l=>Zv (hJ [Zk l,Zz .i64 lf] []) (kO fun l=>Zv (hJ [Zk l,Zz .i64 kv] []) (kO fun l=>Zv (hJ [Zk l,Zz .i64 (↑(Zy tk):Int)] []) (kO fun l=>az (room (Zy l+Zy tk) 1) (Zv (ew [Zk (l++tk),Zz .i64 t,Zd aq] []) (kO fun l=>Zv (ie [Zk l] []) (kO fun l=>Zm (Yu [Zk l,Zz .i64 0],[]))))))))))))))))))) (by kernel_rfl) ?_;delta kB kO kL;dsimp only[hJ,jm,iQ,ew,na,lG,ie,aK,bq,aE,dl,ak,bW,dx];simp only[Yp,Qa2] at aB;obtain⟨⟨⟨⟨q1,q2⟩,q3⟩,h0⟩,h1⟩:=aB;simp only[A0];unfold Kerb.cW;rw[ae (by simp[h0,h1])];cases hk:Kerb.bp k
 ·rfl
 rw[Zp,aA,ae (by simp[q1,q2,q3])];cases h1:Kerb.aY.valid ⟨x,y,z⟩
 ·rfl
 rw[Zp,aA];cases h4:Zj lf 255
 ·rfl
 rw[Zp,aA];cases h5:Zj kv 255
 ·rfl
 rw[Zp,aA];cases h6:Zj t 4294967295
 ·rfl
 rw[Zp,aA];by_cases h7:255<tk.length
 ·rw[ag (by simp;omega),Qa0 (by simp),Qa0 (by simp),Qa0 (by simp),Qa1 h7]
 have l1:=Kerb.ch h1;simp only at l1;rw[aj (by simp;omega),Qa0 (by simp),Qa0 (by simp),Qa0 (by simp),Qa0 h7];rw[ae (by simp;omega),ae (Xh (by first | (simp[Yj,Yz,Yk];done) | (simp[Yj,Yz,Yk];omega))),ae (by first | (simp[Yj,Yz,Yk];done) | (simp[Yj,Yz,Yk];omega)),ae (by first | (simp[Yj,Yz,Yk];done) | (simp[Yj,Yz,Yk];omega)),ae (by first | (simp[Yj,Yz,Yk];done) | (simp[Yj,Yz,Yk];omega)),ae (by first | (simp[Yj,Yz,Yk];done) | (simp[Yj,Yz,Yk];omega)),ae (Xh (by first | (simp[Yj,Yz,Yk];done) | (simp[Yj,Yz,Yk];omega))),ae (by first | (simp[Yj,Yz,Yk];done) | (simp[Yj,Yz,Yk];omega)),ae (by first | (simp[Yj,Yz,Yk];done) | (simp[Yj,Yz,Yk];omega))];simp
theorem w65:Wk 65 4 Sh:=by
 refine cw Tryz.func65 rfl fun xs bl r h=> ?_;unfold Sh at h;split at h;case h_2=>cases h
 rename_i ck tc tm li;cases h;refine cu (aD (!Zj ck 4294967295) (Zm (Yu [Zk [],Zz .i64 104],[])) (aD (!Zj tc 199) (Zm (Yu [Zk [],Zz .i64 104],[])) (aD (!Zj tm 4294967295) (Zm (Yu [Zk [],Zz .i64 104],[])) (Zv (ew [Zk ([]++Kerb.aS (bif li then 1 else 0) 1 Yd),Zz .i64 ck,Zd li] []) (kO fun l=>Zv (hJ [Zk l,Zz .i64 tc] []) (kO fun l=>Zv (ew [Zk l,Zz .i64 tm,Zd li] []) (kO fun l=>Zv (ie [Zk l] []) (kO fun l=>Zm (Yu [Zk l,Zz .i64 0],[]))))))))) (by kernel_rfl) ?_;delta kO;dsimp only[hJ,ew,ie,aK,bq,aE,dl,ak,bW,dx];unfold Kerb.eI;cases h1:Zj ck 4294967295
 ·rfl
 cases h2:Zj tc 199
 ·rfl
 cases h3:Zj tm 4294967295
 ·rfl
 rw[Qa0 (by simp)];simp only[↓A0,Zp];rw[ae (by simp[Yz]),ae (by simp[Yz]),ae (by simp[Yz]),ae (by simp[Yz])];rfl
theorem w66:Wk 66 4 Si:=by
 refine cw Tryz.func66 rfl fun xs bl r h=> ?_;unfold Si at h;split at h;case h_2=>cases h
 rename_i dt tc ad tm li;cases h;refine cu (aD (Zu ((↑(Zy dt):Int)>500)) (Zm (Yu [Zk [],Zz .i64 105],[])) (aD (!Zj tc 199) (Zm (Yu [Zk [],Zz .i64 104],[])) (aD (!Zj ad 4294967295) (Zm (Yu [Zk [],Zz .i64 104],[])) (aD (!Zj tm 4294967295) (Zm (Yu [Zk [],Zz .i64 104],[])) (Zv (ku [Zk ([]++Kerb.aS (bif li then 1 else 0) 1 Yd),Zz .i64 (↑(Zy dt):Int),Zd li] []) (kO fun l=>az (room (Zy l+Zy dt) 1) (Zv (hJ [Zk (l++dt),Zz .i64 tc] []) (kO fun l=>Zv (ew [Zk l,Zz .i64 ad,Zd li] []) (kO fun l=>Zv (ew [Zk l,Zz .i64 tm,Zd li] []) (kO fun l=>Zv (ie [Zk l] []) (kO fun l=>Zm (Yu [Zk l,Zz .i64 0],[])))))))))))) (by kernel_rfl) ?_;delta kO;dsimp only[hJ,ew,ku,ie,aK,bq,aE,dl,ak,bW,dx];unfold Kerb.dv;simp only;by_cases h0:500<dt.length
 ·rw[ag (by simp;omega),Qa1 h0]
 rw[aj (by simp;omega),Qa0 h0];cases h1:Zj tc 199
 ·rfl
 cases h2:Zj ad 4294967295
 ·rfl
 cases h3:Zj tm 4294967295
 ·rfl
 simp only[A0,Yh,Xy,Kerb.eE.av,Zp,Ww];rw[Qa0 (by simp),ae (by simp[Yz]),ae (Xh (by simp[Yz];omega)),ae (by simp[Yz];omega),ae (by simp[Yz];omega),ae (by simp[Yz];omega),ae (by simp[Yz];omega)];simp
theorem w68:Wk 68 4 On:=by
 refine cw Tryz.func68 rfl fun xs bl r h=> ?_;unfold On at h;split at h;case h_2=>cases h
 rename_i lb t k st en kv x y z tk;obtain⟨aB,rfl⟩:=dz h;refine cu (let t1:Option (AV×aC):=Zm (Yu [Zk [],Zz .i64 104],[]);let t2:Option (AV×aC):=Zm (Yu [Zk [],Zz .i64 108],[]);let t3:List AV:=[Xv [Zq x,Zq y,Zq z]];let t0:Option (AV×aC):=aD (!Zj t 4294967295) t1 (Zv (ew [Zk lb,Zz .i64 t,Zd Yd] []) (kO fun l=>aD (!lb==[(116:UInt8),(107:UInt8),(116:UInt8),(71:UInt8)]) (aD (!k==0) t2 (aD (!st==0) t2 (aD (!en==0) t2 (aD (!kv==0) t2 (aD (!(x==[]&&(y==[]&&z==[]))) t2 (aD (Zu ((↑(Zy tk):Int)>0)) t2 (Zv (ie [Zk l] []) (kO fun l=>Zm (Yu [Zk l,Zz .i64 0],[]))))))))) (Zv (na [Zz .u64 k] []) (kL fun b=>aD (!b) (Zm (Yu [Zk [],Zz .i64 10],[])) (aD (!Zj st 4294967295) t1 (aD (!Zj en 4294967295) t1 (aD (!Zj kv 255) t1 (Zv (jm t3 []) (kL fun b=>aD (!b) (Zm (Yu [Zk [],Zz .i64 103],[])) (aD (Zu ((↑(Zy tk):Int)>255)) (Zm (Yu [Zk [],Zz .i64 105],[])) (Zv (lG [Zz .u64 k] []) (kB fun b=>az (room (Zy l+Zy b) 1) (Zv (ew [Zk (l++b),Zz .i64 st,Zd Yd] []) (kO fun l=>Zv (ew [Zk l,Zz .i64 en,Zd Yd] []) (kO fun l=>Zv (hJ [Zk l,Zz .i64 kv] []) (kO fun l=>Zv (iQ (Zk l::t3) []) (kO fun l=>Zv (hJ [Zk l,Zz .i64 (↑(Zy tk):Int)] []) (kO fun l=>az (room (Zy l+Zy tk) 1) (Zv (ie [Zk (l++tk)] []) (kO fun l=>Zm (Yu [Zk l,Zz .i64 0],[])))))))))))))))))))));aD (lb==[(116:UInt8),(103:UInt8),(115:UInt8),(84:UInt8)]) (aD (!Zj t 4294967295) t1 (Zv (ew [Zk lb,Zz .i64 t,Zd Yd] []) (kO fun l=>Zv (na [Zz .u64 k] []) (kL fun b=>aD (!b) (Zm (Yu [Zk [],Zz .i64 10],[])) (aD (!Zj st 4294967295) t1 (aD (!Zj en 4294967295) t1 (aD (!Zj kv 255) t1 (Zv (jm t3 []) (kL fun b=>aD (!b) (Zm (Yu [Zk [],Zz .i64 103],[])) (aD (Zu ((↑(Zy tk):Int)>255)) (Zm (Yu [Zk [],Zz .i64 105],[])) (Zv (lG [Zz .u64 k] []) (kB fun b=>az (room (Zy l+Zy b) 1) (Zv (ew [Zk (l++b),Zz .i64 st,Zd Yd] []) (kO fun l=>Zv (ew [Zk l,Zz .i64 en,Zd Yd] []) (kO fun l=>Zv (hJ [Zk l,Zz .i64 kv] []) (kO fun l=>Zv (iQ (Zk l::t3) []) (kO fun l=>Zv (hJ [Zk l,Zz .i64 (↑(Zy tk):Int)] []) (kO fun l=>az (room (Zy l+Zy tk) 1) (Zv (ie [Zk (l++tk)] []) (kO fun l=>Zm (Yu [Zk l,Zz .i64 0],[]))))))))))))))))))))) (aD (!lb==[(116:UInt8),(107:UInt8),(116:UInt8),(71:UInt8)]) (aD (!lb==[(67:UInt8),(80:UInt8),(87:UInt8),(100:UInt8)]) (Zm (Yu [Zk [],Zz .i64 80],[])) t0) t0)) (by kernel_rfl) ?_;delta kB kO kL;dsimp only[hJ,jm,iQ,ew,na,lG,ie,aK,bq,aE,dl,ak,bW,dx];have Pd:([103,84,71,83]:List UInt8)=Kerb.vt:=rfl;have Iy:([103,84,75,84]:List UInt8)=Kerb.ll:=rfl;have LA:([67,80,87,108]:List UInt8)=Kerb.gX:=rfl;have Et:([67,80,87,100]:List UInt8)=Kerb.pq:=rfl;have Pe:([116,103,115,84]:List UInt8)=Kerb.zk:=rfl;have CE:([116,107,116,71]:List UInt8)=Kerb.qa:=rfl;have EU:=aB;simp only[Yp,Qa2] at aB;have hk:(Zu (0<=k)&&Zu (k<18446744073709551616))=Zb:=by simp;omega
 have hv:(Zu (x.length<=9223372036854775807)&&Zu (y.length<=9223372036854775807)&&Zu (z.length<=9223372036854775807))=Zb:=by simp;omega
 simp only[A0,Et,Pe,CE,hk,hv];unfold Kerb.bm;simp only;cases hg:(lb==Kerb.zk);case true =>
  have ht:Kerb.dL lb=Zb:=by simp[Kerb.dL,hg]
  have hl:lb.length=4:=by rw[Qa9 hg];rfl
  simp only[ht,cc,Zp,Bool.false_and];rw[Qa0 (by simp)];cases h1:Zj t 4294967295
  ·rfl
  rw[Zp,aA,Qa0 (by simp),Qa1 trivial,ae (by simp;omega)];cases h2:Kerb.bp k
  ·rfl
  rw[Zp,aA,Qa0 (by simp)];cases h3:Zj st 4294967295
  ·rfl
  rw[Zp,aA];cases h4:Zj en 4294967295
  ·rfl
  rw[Zp,aA];cases h5:Zj kv 255
  ·rfl
  rw[Zp,aA,Qa0 (by simp)];cases h6:Kerb.aY.valid ⟨x,y,z⟩
  ·rfl
  have l1:=Kerb.ch h6;simp only at l1;rw[Zp,aA,Qa0 (by simp)];by_cases h7:255<tk.length
  ·rw[ag (by simp;omega),Qa1 h7]
  rw[aj (by simp;omega),Qa0 h7];rw[ae (Xh (by simp[Yz,Yk];omega)),ae (by simp[Yz,Yk];omega),ae (by simp[Yz,Yk];omega),ae (by simp[Yz,Yk];omega),ae (by simp[Yz,Yk];omega),ae (by simp[Yz,Yk,Yj];omega),ae (Xh (by simp[Yz,Yk,Yj];omega)),ae (by simp[Yz,Yk,Yj];omega)];simp[Kerb.iP]
 cases TA:(lb==Kerb.qa);case true =>
  have ht:Kerb.dL lb=Zb:=by simp[Kerb.dL,TA]
  have hl:lb.length=4:=by rw[Qa9 TA];rfl
  simp only[ht,cc,aA,Zp,Bool.false_and];rw[Qa0 (by simp)];cases h1:Zj t 4294967295
  ·rfl
  rw[Zp,aA,Qa0 (by simp),Qa1 trivial,ae (by simp;omega)];cases h2:Kerb.bp k
  ·rfl
  rw[Zp,aA,Qa0 (by simp)];cases h3:Zj st 4294967295
  ·rfl
  rw[Zp,aA];cases h4:Zj en 4294967295
  ·rfl
  rw[Zp,aA];cases h5:Zj kv 255
  ·rfl
  rw[Zp,aA,Qa0 (by simp)];cases h6:Kerb.aY.valid ⟨x,y,z⟩
  ·rfl
  have l1:=Kerb.ch h6;simp only at l1;rw[Zp,aA,Qa0 (by simp)];by_cases h7:255<tk.length
  ·rw[ag (by simp;omega),Qa1 h7]
  rw[aj (by simp;omega),Qa0 h7];rw[ae (Xh (by simp[Yz,Yk];omega)),ae (by simp[Yz,Yk];omega),ae (by simp[Yz,Yk];omega),ae (by simp[Yz,Yk];omega),ae (by simp[Yz,Yk];omega),ae (by simp[Yz,Yk,Yj];omega),ae (Xh (by simp[Yz,Yk,Yj];omega)),ae (by simp[Yz,Yk,Yj];omega)];simp[Kerb.iP]
 have ht:Kerb.dL lb=Yd:=by simp[Kerb.dL,hg,TA]
 simp only[ht,cc,aA,Bool.not_false,Wx];cases hc:(lb==Kerb.pq)
 ·rfl
 have hl:lb.length=4:=by rw[Qa9 hc];rfl
 rw[Zp,aA,Qa0 (by simp)];cases h1:Zj t 4294967295
 ·rfl
 rw[Zp,aA,Qa0 (by simp),Qa0 (by simp),ae (by simp;omega)];by_cases h2:k=0;case neg=>rw[ag (by simpa using h2),Qa1 (.inl h2)]
 rw[aj (by simp[h2])];by_cases h3:st=0;case neg=>rw[ag (by simpa using h3),Qa1 (.inr (.inl h3))]
 rw[aj (by simp[h3])];by_cases h4:en=0;case neg=>rw[ag (by simpa using h4),Qa1 (.inr (.inr (.inl h4)))]
 rw[aj (by simp[h4])];by_cases h5:kv=0;case neg=>rw[ag (by simpa using h5),Qa1 (.inr (.inr (.inr (.inl h5))))]
 rw[aj (by simp[h5])];show aD (!(Kerb.aY.xQ ⟨x,y,z⟩)) _ _=_;cases h6:Kerb.aY.xQ ⟨x,y,z⟩
 ·rw[Qa1 (.inr (.inr (.inr (.inr (.inl rfl)))))];rfl
 rw[Zp,aA];by_cases h7:tk=[];case neg=>rw[ag (by have:=List.length_pos_iff.2 h7;simp;omega),Qa1 (.inr (.inr (.inr (.inr (.inr h7)))))]
 rw[aj (by simp[h7]),Qa0 (by simp[h2,h3,h4,h5,h7]),ae (by simp[Yz];omega)]
theorem w69:Wk 69 4 Oo:=by
 refine cw Tryz.func69 rfl fun xs bl r h=> ?_;unfold Oo at h;split at h;case h_2=>cases h
 rename_i cx cy cz sx sy sz k t e a;obtain⟨aB,rfl⟩:=dz h;refine cu (Zv (jm [Xv [Zq cx,Zq cy,Zq cz]] []) (kL fun b=>aD (!b) (Zm (Yu [Zk [],Zz .i64 103],[])) (Zv (jm [Xv [Zq sx,Zq sy,Zq sz]] []) (kL fun b=>aD (!b) (Zm (Yu [Zk [],Zz .i64 103],[])) (Zv (z0 [Zz .u64 k] []) (kI .i64 fun n=>aD (!n==2) (Zm (Yu [Zk [],Zz .i64 10],[])) (aD (!Zj t 4294967295) (Zm (Yu [Zk [],Zz .i64 104],[])) (aD (!Zj e 4294967295) (Zm (Yu [Zk [],Zz .i64 104],[])) (aD (Zu (t>e)) (Zm (Yu [Zk [],Zz .i64 104],[])) (aD (!Zj a 4294967295) (Zm (Yu [Zk [],Zz .i64 104],[])) (Zv (iQ [Zk [],Xv [Zq cx,Zq cy,Zq cz]] []) (kO fun l=>Zv (iQ [Zk l,Xv [Zq sx,Zq sy,Zq sz]] []) (kO fun l=>Zv (lG [Zz .u64 k] []) (kB fun b=>az (room (Zy l+Zy b) 1) (Zv (ew [Zk (l++b),Zz .i64 t,Zd Yd] []) (kO fun l=>Zv (ew [Zk l,Zz .i64 e,Zd Yd] []) (kO fun l=>Zv (ew [Zk l,Zz .i64 a,Zd Yd] []) (kO fun l=>Zv (ie [Zk l] []) (kO fun l=>Zm (Yu [Zk l,Zz .i64 0],[])))))))))))))))))))) (by kernel_rfl) ?_;delta kB kO kL kI;dsimp only[jm,iQ,ew,lG,ie,z0,aK,bq,aE,dl,ak,bW,dx];simp only[Yp,Qa2] at aB;simp only[A0,Yh,Xy,Kerb.eE.av];unfold Kerb.eN;simp only;rw[ae (by simp;omega)];cases h1:Kerb.aY.valid ⟨cx,cy,cz⟩
 ·rfl
 rw[Zp,aA,ae (by simp;omega)];cases h2:Kerb.aY.valid ⟨sx,sy,sz⟩
 ·rfl
 rw[Zp,aA,ae (by simp;omega),Qa0 (by simp)];by_cases h3:Kerb.gx k=2;case neg=>rw[ag (by simpa using h3),Qa1 h3]
 rw[aj (by simp[h3]),Qa0 (show ¬ (Kerb.gx k≠2) by simpa using h3)];have X':Kerb.period t e=(Zj t 4294967295&&(Zj e 4294967295&&Zu (t<=e))):=by unfold Kerb.period;rw[Bool.and_assoc]
 rw[X'];cases h4:Zj t 4294967295
 ·rfl
 rw[Zp,aA,Wx];cases h5:Zj e 4294967295
 ·rfl
 rw[Zp,aA,Wx];by_cases h6:t<=e;case neg=>rw[ag (by simp;omega),decide_eq_false h6];rfl
 rw[aj (by simp;omega),Qa4 h6];cases h7:Zj a 4294967295
 ·rfl
 rw[Zp,aA,Qa0 (by simp)];have l1:=Kerb.ch h1;have l2:=Kerb.ch h2;simp only at l1 l2;rw[ae (by simp;omega),ae (by simp[Yj,Yk,Yz,Xf];omega),ae (by simp;omega),ae (Xh (by simp[Yj,Yk,Yz,Xf];omega)),ae (by simp[Yj,Yk,Yz,Xf];omega),ae (by simp[Yj,Yk,Yz,Xf];omega),ae (by simp[Yj,Yk,Yz,Xf];omega),ae (by simp[Yj,Yk,Yz,Xf];omega)]
theorem w70:Wk 70 4 Oq:=by
 refine cw Tryz.func70 rfl fun xs bl r h=> ?_;unfold Oq at h;split at h;case h_2=>cases h
 rename_i k sx sy sz t e rc;obtain⟨aB,rfl⟩:=dz h;refine cu (Zv (na [Zz .u64 k] []) (kL fun b=>aD (!b) (Zm (Yu [Zk [],Zz .i64 10],[])) (Zv (jm [Xv [Zq sx,Zq sy,Zq sz]] []) (kL fun b=>aD (!b) (Zm (Yu [Zk [],Zz .i64 103],[])) (aD (!Zj t 4294967295) (Zm (Yu [Zk [],Zz .i64 104],[])) (aD (!Zj e 4294967295) (Zm (Yu [Zk [],Zz .i64 104],[])) (aD (Zu (t>e)) (Zm (Yu [Zk [],Zz .i64 104],[])) (aD (Zu ((↑(Zy rc):Int)>300)) (Zm (Yu [Zk [],Zz .i64 105],[])) (Zv (lG [Zz .u64 k] []) (kB fun b=>Zv (iQ [Zk b,Xv [Zq sx,Zq sy,Zq sz]] []) (kO fun l=>Zv (ew [Zk l,Zz .i64 t,Zd Yd] []) (kO fun l=>Zv (ew [Zk l,Zz .i64 e,Zd Yd] []) (kO fun l=>Zv (ku [Zk l,Zz .i64 (↑(Zy rc):Int),Zd Yd] []) (kO fun l=>az (room (Zy l+Zy rc) 1) (Zv (ie [Zk (l++rc)] []) (kO fun l=>Zm (Yu [Zk l,Zz .i64 0],[]))))))))))))))))) (by kernel_rfl) ?_;delta kB kO kL;dsimp only[jm,iQ,ew,ku,na,lG,ie,aK,bq,aE,dl,ak,bW,dx];simp only[Yp,Qa2] at aB;simp only[A0,Yh,Xy,Kerb.eE.av];unfold Kerb.dU;simp only;rw[ae (by simp;omega)];cases h1:Kerb.bp k
 ·rfl
 rw[Zp,aA,ae (by simp;omega),Qa0 (by simp)];cases h2:Kerb.aY.valid ⟨sx,sy,sz⟩
 ·rfl
 rw[Zp,aA,Qa0 (by simp)];have X':Kerb.period t e=(Zj t 4294967295&&(Zj e 4294967295&&Zu (t<=e))):=by unfold Kerb.period;rw[Bool.and_assoc]
 rw[X'];cases h4:Zj t 4294967295
 ·rfl
 rw[Zp,aA,Wx];cases h5:Zj e 4294967295
 ·rfl
 rw[Zp,aA,Wx];by_cases h6:t<=e;case neg=>rw[ag (by simp;omega),decide_eq_false h6];rfl
 rw[aj (by simp;omega),Qa4 h6];rw[Qa0 (by simp)];by_cases h8:300<rc.length
 ·rw[ag (by simp;omega),Qa1 h8]
 rw[aj (by simp;omega),Qa0 h8];have l2:=Kerb.ch h2;simp only at l2;rw[ae (by simp;omega),ae (by simp[Yj,Yk,Yz,Xf];omega),ae (by simp[Yj,Yk,Yz,Xf];omega),ae (by simp[Yj,Yk,Yz,Xf];omega),ae (by simp[Yj,Yk,Yz,Xf];omega),ae (Xh (by simp[Yj,Yk,Yz,Xf];omega)),ae (by simp[Yj,Yk,Yz,Xf];omega)];simp[Xf]
theorem w73:Wk 73 4 Al:=by
 refine cw Tryz.func73 rfl fun xs bl r h=> ?_;unfold Al at h;split at h;case h_2=>cases h
 rename_i ks;obtain⟨aB,rfl⟩:=dz h;refine cu (Zv (bw (fun st=>ay st fun x r=>Xj x fun b=>bW 1 r fun cG r=>ak .i64 r fun n r=>ak .i64 r fun bn r=>aw r (aD (Zu (bn<n)) (az (Zu (0<=bn)&&Zu (bn<(↑(Zy cG):Int))&&Zb) (Yy .u64 (Zf cG (Zx bn) Zn) fun b_=>Zv (xc [Zz .u64 b_] []) (kL fun eQ=>aD eQ (az (room (Zy b+Zy [Zz .u64 b_]) (nat_lit 8)) (Zm (Xz [Yq (b++[Zz .u64 b_]),AV.sl 1 cG,Zz .i64 n,Zz .i64 (Zw .i64 (bn+1))]))) (Zm (Xz [Yq b,AV.sl 1 cG,Zz .i64 n,Zz .i64 (Zw .i64 (bn+1))]))))) (Zm (Yf (Xw 0,[Yq b,AV.sl 1 cG,Zz .i64 n,Zz .i64 bn]))))) [Yq [],AV.sl 1 ks,Zz .i64 (↑(Zy ks):Int),Zz .i64 0]) fun(r:Ex×List AV)=>ay (Yv r) fun x eH=>Xj x fun b=>bW 1 eH fun cG eP=>ak .i64 eP fun n eV=>ak .i64 eV fun n fR=>aw fR (jq r.1 Wu fun(j:Nat)=>aD (Xk j 0) (Zm (AV.sl 1 b,[])) Wu)) (by kernel_rfl) ?_;delta kL;dsimp only[xc,aK,bq,aE,dl,ak,bW,dx];obtain⟨l,rfl,hl,hn⟩:=Kerb.PD aB;rw[Kerb.mV];refine Kerb.lF (fun i=>[.aF (Kerb.cV (Kerb.cq (l.take i))),.sl 1 (Kerb.cV l),.int .i64 ((Kerb.cV l).length:Int),.int .i64 (i:Int)]) l.length (fun i hi=> ?_) ⟨(.exit 0,[.aF (Kerb.cV (Kerb.cq l)),.sl 1 (Kerb.cV l),.int .i64 ((Kerb.cV l).length:Int),.int .i64 (l.length:Int)]),?_,?_⟩ rfl
 ·have hm:(Kerb.cq (l.take i)).length<=100000000:=Nat.le_trans (List.length_filter_le _ _) (by rw[List.length_take];omega);have hv:=hl _ (Kerb.xY 0 hi);have g3:Zu (0<=l.getD i 0)=Zb:=by simp only[Qa2];exact hv.1
  have g4:Zu (l.getD i 0<18446744073709551616)=Zb:=by simp only[Qa2];exact hv.2
  have hr:Go.Abs.room ((Kerb.cq (l.take i)).length+1) 8=Zb:=Kerb.R4 (by omega);try dsimp only
  simp only[↓A0,A0,Kerb.Pk,Kerb.Up hi,Kerb.LJ hi,g3,g4,Ww,Bool.and_true,Kerb.xK (show i<=1000000000 by omega),Kerb.ef (Kerb.cq _),List.length_singleton,hr,Kerb.OC];rw[Kerb.DO hi];cases Kerb.bp (l.getD i 0)<;>rfl
 ·try dsimp only
  simp only[↓A0,A0,Kerb.noK,List.take_length]
 ·rfl
theorem ZM:Wk 137 4 F4:=by
 refine cw Tryz.func137 rfl fun xs bl r h=> ?_;unfold F4 at h;split at h;case h_2=>cases h
 rename_i li x y z ad k lf uw sv ins;obtain⟨aB,rfl⟩:=dz h;refine cu (Zv (jm [Xv [Zq x,Zq y,Zq z]] []) (kL fun b=>aD (!b) (Zm (Zz .i64 103,[])) (Zv (sj [Zq sv] []) (kL fun b=>aD (!b) (Zm (Zz .i64 103,[])) (Zv (sk [Zq ins] []) (kL fun b=>aD (!b) (Zm (Zz .i64 103,[])) (Zv (z0 [Zz .u64 k] []) (kI .i64 fun n=>aD (!n==2) (Zm (Zz .i64 10,[])) (aD (!Zj ad 4294967295) (Zm (Zz .i64 104,[])) (aD (!Zj lf 255) (Zm (Zz .i64 104,[])) (aD (!Zj uw 4294967295) (Zm (Zz .i64 104,[])) (Zm (Zz .i64 0,[]))))))))))))) (by kernel_rfl) ?_;delta kL kI;dsimp only[jm,sj,sk,z0,aK,bq,aE,dl,ak,bW,dx];simp only[Yp,Qa2] at aB;obtain⟨⟨⟨⟨⟨⟨h1,h2⟩,h3⟩,h4⟩,h5⟩,h6⟩,h7⟩:=aB;simp only[h1,h2,h3,h4,h5,h6,h7,Qb2,Ww,↓A0,A0];unfold Kerb.dA.err;dsimp only;cases Kerb.aY.valid ⟨x,y,z⟩
 ·rfl
 cases Kerb.validName sv
 ·rfl
 cases Kerb.bO ins
 ·rfl
 simp only[Zp,Ww,aA];by_cases hc:Kerb.gx k=2;case neg=>rw[ag (by simpa using hc),Qa0 (by simp),Qa1 hc]
 rw[aj (by simp[hc]),Qa0 (by simp),Qa0 (by simp[hc])];cases Zj ad 4294967295
 ·rfl
 cases Zj lf 255
 ·rfl
 cases Zj uw 4294967295
 ·rfl
 rfl
theorem ZP:Wk 140 4 F5:=by
 refine cw Tryz.func140 rfl fun xs bl r h=> ?_;unfold F5 at h;split at h;case h_2=>cases h
 rename_i x y z ck tc tm;obtain⟨aB,rfl⟩:=dz h;refine cu (Zv (jm [Xv [Zq x,Zq y,Zq z]] []) (kL fun b=>aD (!b) (Zm (Zz .i64 103,[])) (aD (!Zj ck 4294967295) (Zm (Zz .i64 104,[])) (aD (!Zj tc 199) (Zm (Zz .i64 104,[])) (aD (!Zj tm 4294967295) (Zm (Zz .i64 104,[])) (Zm (Zz .i64 0,[]))))))) (by kernel_rfl) ?_;delta kL;dsimp only[jm,aK,bq,aE,dl,ak,bW,dx];simp only[A0,Yh,Xy,Kerb.eE.av,aB];unfold Kerb.lK.check;simp only;cases Kerb.aY.valid ⟨x,y,z⟩
 ·rfl
 cases Zj ck 4294967295
 ·rfl
 cases Zj tc 199
 ·rfl
 cases Zj tm 4294967295<;>rfl
theorem ZY:Wk 149 4 vP:=by
 refine cw Tryz.func149 rfl fun xs bl r h=> ?_;unfold vP at h;split at h;case h_2=>cases h
 rename_i b;obtain⟨aB,rfl⟩:=dz h;refine cu (aD (!(↑(Zy b):Int)==8) (Zm (Yu [Zz .u64 0,Zd Yd],[])) (Zv (bw (fun st=>ak .u64 st fun n r=>bq r fun b r=>ak .i64 r fun bn r=>ak .i64 r fun b_ r=>aw r (aD (Zu (b_<bn)) (az (Zu (0<=b_)&&Zu (b_<(↑(Zy b):Int))) (Zm (Xz [Zz .u64 (Zw .u64 (↑(BitVec.toNat (BitVec.ofInt (IntKind.bits .u64) (Zw .u64 (n*2 ^ min (Zx 8) (IntKind.bits .u64))) ||| BitVec.ofInt (IntKind.bits .u64) (Zw .u64 (↑(UInt8.toNat (Zf b (Zx b_) (0:UInt8))):Int)))):Int)),Zk b,Zz .i64 bn,Zz .i64 (Zw .i64 (b_+1))]))) (Zm (Yf (Xw 0,[Zz .u64 n,Zk b,Zz .i64 bn,Zz .i64 b_]))))) [Zz .u64 0,Zk b,Zz .i64 (↑(Zy b):Int),Zz .i64 0]) fun(r:Ex×List AV)=>ak .u64 (Yv r) fun n eH=>bq eH fun b eP=>ak .i64 eP fun bn eV=>ak .i64 eV fun b_ fR=>aw fR (jq r.1 Wu fun(j:Nat)=>aD (Xk j 0) (Zv (xc [Zz .u64 n] []) (kL fun b=>aD (!b) (Zm (Yu [Zz .u64 0,Zd Yd],[])) (Zm (Yu [Zz .u64 n,Zd Zb],[])))) Wu))) (by kernel_rfl) ?_;delta kL;dsimp only[xc,aK,bq,aE,dl,ak,bW,dx];have hb:=Qa3 aB;unfold Kerb.fg;by_cases h8:b.length=8;case neg =>
  rw[ag (by simp;omega),Qa0 (by omega)]
 rw[aj (by simp[h8])];refine bZ (fun i:Nat=>[Zz IntKind.u64 (Kerb.lI (b.take i)),Zk b,Zz Xm (b.length:Int),Zz Xm (i:Int)]) (fun i=>i<=8) (fun i=>8-i)
  (fun r=>r=(Xw 0,[Zz IntKind.u64 (Kerb.lI b),Zk b,Zz Xm (b.length:Int),Zz Xm 8])) 0 (by omega) rfl ?_ ?_
 ·intro i hi;simp only[A0];by_cases eY:i<8
  ·have hv:=Kerb.Cj (l:=b) (i:=i) (by omega);have Xs:=Kerb.OI (l:=b.take i) (by simp;omega);rw[ag (by simp;omega),ae (by simp;omega),Xg,Kerb.Na _ Xs.1 Xs.2,wrap_i64 (by omega) (by omega),<-hv];exact⟨_,rfl,i+1,rfl,by omega,by dsimp only;omega⟩
  ·rw[aj (by simp;omega)];refine⟨_,rfl,?_⟩;show _=_;rw[List.take_of_length_le (by omega),show i=8 from by omega];rfl
 rintro r rfl;have Xs:=Kerb.GG (l:=b) (by omega);simp only[A0];rw[ag (Yn _),ae (by simp;omega)];cases hv:Kerb.bp (Kerb.lI b)
 ·rw[Qa0 (by simp)];rfl
 ·rw[Qa1 ⟨h8,rfl⟩];rfl
theorem Z4:Wk 155 4 so:=by
 refine cw Tryz.func155 rfl fun xs bl r h=> ?_;unfold so at h;split at h;case h_2=>cases h
 rename_i B at_ bad;obtain⟨aB,rfl⟩:=dz h;show eb (G.env 155 4) G.rts (G.own 155) Tryz.f155 _ _ [0]=_;refine cu (uA [Zk B,Zz .i64 at_,Zd Yd] fun n bn b_=>aD (!!(bad || !b_==0)) (Zm (Zz .i64 0,[[Zk B,Zz .i64 (bif bad || !b_==0 then at_ else bn),Zd (bad || !b_==0)]])) (Zm (Zz .i64 n,[[Zk B,Zz .i64 (bif bad || !b_==0 then at_ else bn),Zd (bad || !b_==0)]]))) (by kernel_rfl) ?_;unfold uA;delta kT;dsimp only[tw,aK,bq,aE,dl,ak,bW,dx];have hb:=Qa3 aB;simp only[A0];rw[ae (by simp;omega)];unfold Kerb.fD;cases bad
 ·simp only[Bool.false_or];generalize hq:(!(_==(0:Int)))=q;cases q<;>rfl
 ·rfl
theorem Z9:Wk 160 4 vR:=by
 refine cw Tryz.func160 rfl fun xs bl r h=> ?_;unfold vR at h;split at h;case h_2=>cases h
 rename_i B at_ bad;obtain⟨aB,rfl⟩:=dz h;show eb (G.env 160 4) G.rts (G.own 160) Tryz.f160 _ _ [0]=_;refine cu (oV [Zk B,Zz .i64 at_] fun n bn b_=>aD (!!(bad || !b_==0)) (Zm (Zz .i64 0,[[Zk B,Zz .i64 (bif bad || !b_==0 then at_ else bn),Zd (bad || !b_==0)]])) (Zm (Zz .i64 n,[[Zk B,Zz .i64 (bif bad || !b_==0 then at_ else bn),Zd (bad || !b_==0)]]))) (by kernel_rfl) ?_;unfold oV;delta kT;dsimp only[sm,aK,bq,aE,dl,ak,bW,dx];have hb:=Qa3 aB;simp only[A0];rw[ae (by simp;omega)];unfold Kerb.fD;cases bad
 ·simp only[Bool.false_or];generalize hq:(!(_==(0:Int)))=q;cases q<;>rfl
 ·rfl
theorem aae:Wk 165 4 tA:=by
 refine cw Tryz.func165 rfl fun xs bl r h=> ?_;unfold tA at h;split at h;case h_2=>cases h
 rename_i B at_ bad;obtain⟨aB,rfl⟩:=dz h;show eb (G.env 165 4) G.rts (G.own 165) Tryz.f165 _ _ [0]=_;refine cu (uA [Zk B,Zz .i64 at_,Zd Yd] fun n bn b_=>Zm (Zz .i64 n,[[Zk B,Zz .i64 (bif b_==0 then bn else at_),Zd (bad || !b_==0)]])) (by kernel_rfl) ?_;unfold uA;delta kT;dsimp only[tw,aK,bq,aE,dl,ak,bW,dx];have hb:=Qa3 aB;simp only[A0,Yh,Xy,Kerb.eE.av];rw[ae (by simp;omega)];unfold Kerb.pc;rfl
theorem aah:Wk 168 4 z6:=by
 refine cw Tryz.func168 rfl fun xs bl r h=> ?_;unfold z6 at h;split at h;case h_2=>cases h
 rename_i B at_ bad;obtain⟨aB,rfl⟩:=dz h;show eb (G.env 168 4) G.rts (G.own 168) Tryz.f168 _ _ [0]=_;refine cu (AG [Zk B,Zz .i64 at_,Zd Yd] fun n bn b_=>Zm (Zz .i64 n,[[Zk B,Zz .i64 (bif b_==0 then bn else at_),Zd (bad || !b_==0)]])) (by kernel_rfl) ?_;unfold AG;delta kT;dsimp only[vV,aK,bq,aE,dl,ak,bW,dx];have hb:=Qa3 aB;simp only[A0,Yh,Xy,Kerb.eE.av];rw[ae (by simp;omega)];unfold Kerb.pc;rfl
theorem aas:Wk 188 4 z8:=by
 refine cw Tryz.func188 rfl fun xs bl r h=> ?_;unfold z8 at h;split at h;case h_2=>cases h
 rename_i b;obtain⟨aB,rfl⟩:=dz h;refine cu (oV [Zk b,Zz .i64 2] fun n bn b_=>uB [Zk b,Zz .i64 bn] fun cG eO bY=>oV [Zk b,Zz .i64 eO] fun bF fb eX=>oV [Zk b,Zz .i64 fb] fun gK kH lL=>qH [Zk b,Zz .i64 kH,Zz .i64 bF] fun eQ gp iN=>qH [Zk b,Zz .i64 gp,Zz .i64 gK] fun eZ fL bh=>Zm (Yu [Xv [Zd (Kerb.Head.aq (Kerb.dC b)),Zd (Kerb.Head.kind (Kerb.dC b)==4),Zz .i64 n,Zq cG,Zk eQ,Zk eZ],Zz .i64 fL],[])) (by kernel_rfl) ?_;unfold oV qH uB;delta kT;dsimp only[sm,qE,vQ,aK,bq,aE,dl,ak,bW,dx];have hb:=Qa3 aB;have jN:Zu (b.length<=4611686018427387904)=Zb:=by simp;omega
 simp only[aB,jN,↓A0,A0];rfl
theorem aax:Wk 193 4 ND:=by
 refine cw Tryz.func193 rfl fun xs bl r h=> ?_;unfold ND at h;split at h;case h_2=>cases h
 rename_i B at_ bad;obtain⟨aB,rfl⟩:=dz h;show eb (G.env 193 4) G.rts (G.own 193) Tryz.f193 _ _ [0]=_;refine cu (uB [Zk B,Zz .i64 at_] fun b n bn=>aD (!!(bad || !bn==0)) (Zm (Zq [],[[Zk B,Zz .i64 (bif bad || !bn==0 then at_ else n),Zd (bad || !bn==0)]])) (Zm (Zq b,[[Zk B,Zz .i64 (bif bad || !bn==0 then at_ else n),Zd (bad || !bn==0)]]))) (by kernel_rfl) ?_;unfold uB;delta kT;dsimp only[vQ,aK,bq,aE,dl,ak,bW,dx];have hb:=Qa3 aB;simp only[A0];rw[ae (by simp;omega)];unfold Kerb.lU;cases bad
 ·simp only[Bool.false_or];generalize hq:(!(_==(0:Int)))=q;cases q<;>rfl
 ·rfl
theorem aay:Wk 194 4 Gf:=by
 refine cw Tryz.func194 rfl fun xs bl r h=> ?_;unfold Gf at h;split at h;case h_2=>cases h
 rename_i B at_ bad;obtain⟨aB,rfl⟩:=dz h;show eb (G.env 194 4) G.rts (G.own 194) Tryz.f194 _ _ [0]=_;refine cu (AG [Zk B,Zz .i64 at_,Zd Yd] fun n bn b_=>aD (!!(bad || !b_==0)) (Zm (Zz .i64 0,[[Zk B,Zz .i64 (bif bad || !b_==0 then at_ else bn),Zd (bad || !b_==0)]])) (Zm (Zz .i64 n,[[Zk B,Zz .i64 (bif bad || !b_==0 then at_ else bn),Zd (bad || !b_==0)]]))) (by kernel_rfl) ?_;unfold AG;delta kT;dsimp only[vV,aK,bq,aE,dl,ak,bW,dx];have hb:=Qa3 aB;simp only[A0];rw[ae (by simp;omega)];unfold Kerb.fD;cases bad
 ·simp only[Bool.false_or];generalize hq:(!(_==(0:Int)))=q;cases q<;>rfl
 ·rfl
theorem aaB:Wk 197 4 Gg:=by
 refine cw Tryz.func197 rfl fun xs bl r h=> ?_;unfold Gg at h;split at h;case h_2=>cases h
 rename_i B at_ bad;obtain⟨aB,rfl⟩:=dz h;show eb (G.env 197 4) G.rts (G.own 197) Tryz.f197 _ _ [0]=_;refine cu (oV [Zk B,Zz .i64 at_] fun n bn b_=>Zm (Zz .i64 n,[[Zk B,Zz .i64 (bif b_==0 then bn else at_),Zd (bad || !b_==0)]])) (by kernel_rfl) ?_;unfold oV;delta kT;dsimp only[sm,aK,bq,aE,dl,ak,bW,dx];have hb:=Qa3 aB;simp only[A0,Yh,Xy,Kerb.eE.av];rw[ae (by simp;omega)];unfold Kerb.pc;rfl
theorem aaL:Wk 214 4 pI:=by
 refine cw Tryz.func214 rfl fun xs bl r h=> ?_;unfold pI at h;split at h;case h_2=>cases h
 rename_i b n;obtain⟨aB,rfl⟩:=dz h;refine cu (Zv (vX [Zk b,Zz .i64 n,Zz .i64 1,Zd Yd] []) (kO fun l=>Zm (AV.bE l,[]))) (by kernel_rfl) ?_;delta kO;dsimp only[vX,aK,bq,aE,dl,ak,bW,dx];simp only[Qa2] at aB;simp only[A0];rw[ae (by simp;omega)];rfl
theorem aaM:Wk 215 4 oD:=by
 refine cw Tryz.func215 rfl fun xs bl r h=> ?_;unfold oD at h;split at h;case h_2=>cases h
 rename_i b x y z;obtain⟨aB,rfl⟩:=dz h;refine cu (Zv (oE [Zk b,Zq x] []) (kO fun l=>Zv (oE [Zk l,Zq y] []) (kO fun l=>Zv (oE [Zk l,Zq z] []) (kO fun l=>Zm (AV.bE l,[]))))) (by kernel_rfl) ?_;delta kO;dsimp only[oE,aK,bq,aE,dl,ak,bW,dx];simp only[Qa2] at aB;simp only[A0];rw[ae (by simp;omega),ae (by simp[Kerb.bg];omega),ae (by simp[Kerb.bg];omega)];rfl
theorem aaN:Wk 216 4 kC:=by
 refine cw Tryz.func216 rfl fun xs bl r h=> ?_;unfold kC at h;split at h;case h_2=>cases h
 rename_i b n aq;obtain⟨aB,rfl⟩:=dz h;refine cu (Zv (vX [Zk b,Zz .i64 n,Zz .i64 4,Zd aq] []) (kO fun l=>Zm (AV.bE l,[]))) (by kernel_rfl) ?_;delta kO;dsimp only[vX,aK,bq,aE,dl,ak,bW,dx];simp only[Qa2] at aB;simp only[A0];rw[ae (by simp;omega)];rfl
theorem aaU:Wk 223 4 Gi:=by
 refine cw Tryz.func223 rfl fun xs bl r h=> ?_;unfold Gi at h;split at h;case h_2=>cases h
 rename_i lb t st en k;obtain⟨aB,rfl⟩:=dz h;refine cu (let t0:Option (AV×aC):=aD (!Zj t 4294967295) (Zm (Zz .i64 104,[])) (aD (Kerb.iR lb) (aD (!Zj st 4294967295) (Zm (Zz .i64 104,[])) (aD (!Zj en 4294967295) (Zm (Zz .i64 104,[])) (aD (!k==0) (Zm (Zz .i64 108,[])) (Zm (Zz .i64 0,[]))))) (Zv (xc [Zz .u64 k] []) (kL fun b=>aD (!b) (Zm (Zz .i64 10,[])) (aD (!st==0) (Zm (Zz .i64 108,[])) (aD (!en==0) (Zm (Zz .i64 108,[])) (Zm (Zz .i64 0,[])))))));aD (!Kerb.iR lb) (aD (!lb==[(67:UInt8),(80:UInt8),(87:UInt8),(108:UInt8)]) (Zm (Zz .i64 80,[])) t0) t0) (by kernel_rfl) ?_;delta kL;dsimp only[xc,aK,bq,aE,dl,ak,bW,dx];have Pd:([103,84,71,83]:List UInt8)=Kerb.vt:=rfl;have Iy:([103,84,75,84]:List UInt8)=Kerb.ll:=rfl;have LA:([67,80,87,108]:List UInt8)=Kerb.gX:=rfl;have Et:([67,80,87,100]:List UInt8)=Kerb.pq:=rfl;have Pe:([116,103,115,84]:List UInt8)=Kerb.zk:=rfl;have CE:([116,107,116,71]:List UInt8)=Kerb.qa:=rfl;simp only[A0,LA,aB];unfold Kerb.aW;simp only;cases ht:Kerb.iR lb
 ·rw[Bool.not_false,cc];cases hc:(lb==Kerb.gX)
  ·rfl
  rw[Zp,aA,Qa0 (by simp)];cases h1:Zj t 4294967295
  ·rfl
  rw[Zp,aA,Qa0 (by simp),aA,Qa0 (by simp)];cases h2:Kerb.bp k
  ·rfl
  rw[Zp,aA,Qa0 (by simp)];by_cases h3:st=0;case neg=>rw[ag (by simpa using h3),Qa1 (.inl h3)]
  rw[aj (by simp[h3])];by_cases h4:en=0;case neg=>rw[ag (by simpa using h4),Qa1 (.inr h4)]
  rw[aj (by simp[h4]),Qa0 (by simp[h3,h4])]
 ·rw[Zp,aA,Qa0 (by simp)];cases h1:Zj t 4294967295
  ·rfl
  rw[Zp,aA,Qa0 (by simp),cc,Qa1 rfl];cases h2:Zj st 4294967295
  ·rfl
  rw[Zp,aA];cases h3:Zj en 4294967295
  ·rfl
  rw[Zp,aA,Qa0 (by simp)];by_cases h4:k=0
  ·rw[aj (by simp[h4]),Qa0 (by simp[h4])]
  ·rw[ag (by simpa using h4),Qa1 h4]
theorem aa9:Wk 243 4 Ae:=by
 refine cw Tryz.func243 rfl fun xs bl r h=> ?_;unfold Ae at h;split at h;case h_2=>cases h
 rename_i b n aq;obtain⟨aB,rfl⟩:=dz h;refine cu (Zv (vX [Zk b,Zz .i64 n,Zz .i64 2,Zd aq] []) (kO fun l=>Zm (AV.bE l,[]))) (by kernel_rfl) ?_;delta kO;dsimp only[vX,aK,bq,aE,dl,ak,bW,dx];simp only[Qa2] at aB;simp only[A0];rw[ae (by simp;omega)];rfl
theorem abe:Wk 248 4 Gm:=by
 refine cw Tryz.func248 rfl fun xs bl r h=> ?_;unfold Gm at h;split at h;case h_2=>cases h
 rename_i b at_ most li;obtain⟨aB,rfl⟩:=dz h;refine cu (AG [Zk b,Zz .i64 at_,Zd li] fun n bn b_=>aD (!b_==0) (Zm (Yu [Zk [],Zz .i64 0,Zd Yd],[])) (aD (Zu (n>most)) (Zm (Yu [Zk [],Zz .i64 0,Zd Yd],[])) (qH [Zk b,Zz .i64 bn,Zz .i64 n] fun b n eO=>Zm (Yu [Zk b,Zz .i64 n,Zd (eO==0)],[])))) (by kernel_rfl) ?_;unfold qH AG;delta kT;dsimp only[qE,vV,aK,bq,aE,dl,ak,bW,dx];simp only[Yp,Qa2] at aB;have h1:b.length<=4611686018427387904:=by omega
 simp only[A0,Yh,Xy,Kerb.eE.av,aB,h1,Qb2];unfold Kerb.fH;by_cases h2:(Kerb.get b at_ 2 li).err=0;case neg=>rw[ag (by simpa using h2),Qa1 (.inl h2)]
 rw[aj (by simp[h2])];by_cases h3:most<(Kerb.get b at_ 2 li).val
 ·rw[ag (by simpa using h3),Qa1 (.inr h3)]
 rw[aj (by simpa using h3),Qa0 (by simp[h2,h3])]
theorem abo:Wk 262 4 Ai:=by
 refine cw Tryz.func262 rfl fun xs bl r h=> ?_;unfold Ai at h;split at h;case h_2=>cases h
 rename_i s bad;obtain⟨aB,rfl⟩:=dz h;refine cu (Zv (bw (fun st=>aK st fun b r=>aK r fun cG r=>aE r fun eQ r=>ak .i64 r fun n r=>ak .i64 r fun bn r=>let t0:Option (List AV ⊕ Ex×List AV):=Zm (Yf (Ex.ret,[Zq b,Zq cG,Zd Yd,Zz .i64 n,Zz .i64 bn]));let t1:Bool:=Zu (0<=bn)&&Zu (bn<(↑(Zy b):Int));let t2:Int:=(↑(UInt8.toNat (Zf b (Zx bn) (0:UInt8))):Int);aw r (aD (Zu (bn<n)) (az t1 (aD (Zu (t2<(↑(UInt8.toNat (33:UInt8)):Int))) t0 (az t1 (aD (Zu (t2>(↑(UInt8.toNat (126:UInt8)):Int))) t0 (az t1 (aD (Zu (Kerb.indexOf (Zf b (Zx bn) (0:UInt8)) cG>=0)) t0 (Zm (Xz [Zq b,Zq cG,Zd eQ,Zz .i64 n,Zz .i64 (Zw .i64 (bn+1))])))))))) (Zm (Yf (Xw 0,[Zq b,Zq cG,Zd eQ,Zz .i64 n,Zz .i64 bn]))))) [Zq s,Zq bad,Zd Yd,Zz .i64 (↑(Zy s):Int),Zz .i64 0]) fun(r:Ex×List AV)=>aK (Yv r) fun b eH=>aK eH fun b eP=>aE eP fun b eV=>ak .i64 eV fun n fR=>ak .i64 fR fun n hZ=>aw hZ (jq r.1 (Zm (Zd b,[])) fun(j:Nat)=>aD (Xk j 0) (Zm (Zd Zb,[])) Wu)) (by kernel_rfl) ?_;try dsimp only[aK,bq,aE,dl,ak,bW,dx]
 simp only[Qa2] at aB;refine bZ (fun i:Nat=>[Zq s,Zq bad,Zd Yd,Zz Xm (s.length:Int),Zz Xm (i:Int)]) (fun i=>i<=s.length/\Kerb.dO s bad=Kerb.dO (s.drop i) bad) (fun i=>s.length-i)
  (fun r=>∃ i:Nat,r.2=[Zq s,Zq bad,Zd Yd,Zz Xm (s.length:Int),Zz Xm (i:Int)]/\((r.1 = .ret/\Kerb.dO s bad=Yd)\/(r.1 = .exit 0/\Kerb.dO s bad=Zb))) 0 ⟨Nat.zero_le _,rfl⟩ rfl ?_ ?_
 ·rintro i ⟨hi,hp⟩;simp only[A0];by_cases eY:i<s.length
  ·have hc:(Zu ((0:Int)<=(i:Int))&&Zu ((i:Int)<(s.length:Int)))=Zb:=by simp;omega
   have hd:=Kerb.oI eY;rw[ag (by simp;omega),ae hc,Xg];have Pu:Kerb.dO (s.drop i) bad=(Kerb.okB bad (s.getD i 0)&&Kerb.dO (s.drop (i+1)) bad):=by rw[hd];rfl
   generalize s.getD i 0=c at *;by_cases h1:c.toNat<33
   ·rw[ag (by simp;omega)];exact⟨_,rfl,i,rfl,.inl ⟨rfl,by rw[hp,Pu];simp[Kerb.okB,h1]⟩⟩
   rw[aj (by simp;omega),ae hc];by_cases h2:126<c.toNat
   ·rw[ag (by simp;omega)];exact⟨_,rfl,i,rfl,.inl ⟨rfl,by rw[hp,Pu];simp[Kerb.okB,h2]⟩⟩
   rw[aj (by simp;omega),ae hc];have h4:=Kerb.rH c bad;by_cases h3:c∈bad
   ·rw[ag (by simpa using h4.2 h3)];exact⟨_,rfl,i,rfl,.inl ⟨rfl,by rw[hp,Pu];simp[Kerb.okB,h3]⟩⟩
   rw[aj (by have:=mt h4.1 h3;simp;omega),wrap_i64 (by omega) (by omega)];exact⟨_,rfl,i+1,rfl,⟨by omega,by rw[hp,Pu];simp[Kerb.okB,h1,h2,h3]⟩,by dsimp only;omega⟩
  ·rw[aj (by simp;omega)];exact⟨_,rfl,i,rfl,.inr ⟨rfl,by rw[hp,List.drop_eq_nil_of_le (by omega)];rfl⟩⟩
 ·rintro⟨e,l⟩ ⟨i,rfl,⟨rfl,hp⟩ | ⟨rfl,hp⟩⟩
  ·simp only[A0,hp]
  ·simp only[A0,hp];rfl
end Go.Proofs.YteafbgcimcpfiaaGreat
