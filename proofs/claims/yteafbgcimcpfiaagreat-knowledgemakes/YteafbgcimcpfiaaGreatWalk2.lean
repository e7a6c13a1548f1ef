/- What the functions of this seat compute. -/
import Derived.Test.YteafbgcimcpfiaaGreatWalk1
set_option linter.all false
open Go.Abs.AV renaming int→Zz,str→Zq,bs→Zk,bool→Zd,undef→Zn,ax→Yy,aQ→Yu,aF→Yq,agg→Xv,aR→Xj
open List renaming length→Zy,getD→Zf,set→Zh
open Int renaming toNat→Zx,eq_ofNat_of_zero_le→Yx,toNat_natCast→Xg
open Go.IntKind renaming wrap→Zw,i64→Xm
open Option renaming bind→Zv,some→Zm,none→Wu
open Decidable renaming decide→Zu
open Kerb renaming within→Zj,af→Yz,ai→Yj,ag→Yk,next→Yg,rd→Xx,aT→Xu,swp_size→Xq,wr→Xp,cM→Xd,c7→Xf,c9→Xb,back→Xn,bW→Xh,eT→Wz,tq→Wy,header→Wv
open Bool renaming not_true→Zp,true→Zb,and_eq_true→Yp,false→Yd,true_and→Wx,and_self→Ww
open Nat renaming blt→Zg,beq_refl→Yn,beq→Xk
open Array renaming setIfInBounds→Yw,size_setIfInBounds→Yb
open Prod renaming snd→Yv,fst→Ym
open Sum renaming inr→Yf,inl→Xz
open Kerb.Client renaming av→Yh
open Kerb.Cache renaming av→Xy
open Go.Abs.Ex renaming exit→Xw
namespace Go.Proofs.YteafbgcimcpfiaaGreat
open Go Go.Abs Go.Proofs
set_option maxRecDepth 100000
theorem abU:Wk 268 3 Gy:=by
 refine cA Tryz.func268 rfl fun xs bl r h=> ?_;unfold Gy at h;split at h;case h_2=>cases h
 rename_i a b els;obtain⟨aB,rfl⟩:=dA h;show ea (G.env 268 3) G.rts (G.own 268) Tryz.f268 _ _ [0]=_
 refine cw (Zv (bw (fun st=>ay st fun x r=>Xj x fun y=>ak .i64 r fun n r=>ak .i64 r fun bn r=>aE r fun b r=>ak .i64 r fun bT r=>ak .i64 r fun eO r=>aw r (aD (Zu (eO<5)) (Zv (bw (fun st=>ay st fun x r=>Xj x fun y=>ak .i64 r fun n r=>ak .i64 r fun bZ r=>ak .i64 r fun bF r=>ak .i64 r fun fb r=>aE r fun b r=>let t0:Option (List AV ⊕ Ex×List AV):=Zm (Yf (Xw 2,[Yq y,Zz .i64 n,Zz .i64 bZ,Zz .i64 bF,Zz .i64 fb,Zd b]));aw r (aD (Zu (bF<bZ)) (az (Zu (0<=bF)&&Zu (bF<(↑(Zy y):Int))&&Zb) (az (Zg (Zx bF) (Zy y)&&Zb) (Yy .u64 (Zf y (Zx bF) Zn) fun eW=>az (Zu (0<=Zw .i64 (bF-1))&&Zu (Zw .i64 (bF-1)<(↑(Zy y):Int))&&Zb) (az (Zg (Zx (Zw .i64 (bF-1))) (Zy y)&&Zb) (Yy .u64 (Zf y (Zx (Zw .i64 (bF-1))) Zn) fun gM=>aD (!Zu (eW<gM)) (Zm (Xz [Yq y,Zz .i64 n,Zz .i64 bZ,Zz .i64 (Zw .i64 (bF+1)),Zz .i64 fb,Zd b])) t0))))) t0)) [Yq y,Zz .i64 n,Zz .i64 bn,Zz .i64 bT,Zz .i64 eO,Zd b]) fun(r:Ex×List AV)=>ay (Yv r) fun x eI=>Xj x fun y=>ak .i64 eI fun n eS=>ak .i64 eS fun bZ eZ=>ak .i64 eZ fun bF f_=>ak .i64 f_ fun fb iq=>let t1:List AV:=[Zz .i64 bF,Zz .i64 fb];aE iq fun b ju=>aw ju (jp r.1 (Zm (Yf (Ex.ret,Yq y::Zz .i64 n::Zz .i64 bZ::Zd b::t1))) fun(j:Nat)=>aD (Xk j 2) (aD (bF==bZ) (Zm (Yf (Ex.ret,Yq y::Zz .i64 n::Zz .i64 bZ::Zd Zb::t1))) (aD (Zu (Zw .i64 (bZ-n)<50)) (Zm (Yf (Ex.ret,Yq y::Zz .i64 n::Zz .i64 bZ::Zd Yd::t1))) (az (Zu (0<=Zw .i64 (bF-1))&&Zu (Zw .i64 (bF-1)<(↑(Zy y):Int))&&Zb) (az (Zg (Zx (Zw .i64 (bF-1))) (Zy y)&&Zb) (Yy .u64 (Zf y (Zx (Zw .i64 (bF-1))) Zn) fun eW=>let t2:Bool:=Zg (Zx (Zw .i64 (bF-1))) (Zy (Zh y (Zx bF) (Zz .u64 eW)));az (Zu (0<=bF)&&Zu (bF<(↑(Zy y):Int))&&Zb) (az (Zg (Zx bF) (Zy y)&&Zb) (Yy .u64 (Zf y (Zx bF) Zn) fun gM=>let t3:AV:=Yq (Zh (Zh y (Zx bF) (Zz .u64 eW)) (Zx (Zw .i64 (bF-1))) (Zz .u64 gM));az (Zu (0<=bF)&&Zu (bF<(↑(Zy y):Int))&&Zb) (az (Zg (Zx bF) (Zy y)&&Zb) (Yy .u64 (Zf y (Zx bF) Zn) fun kH=>az (Zy [Zz .u64 eW]==nat_lit 1&&Zb&&Zb&&Zb&&Zg (Zx bF) (Zy y)) (az (Zu (0<=Zw .i64 (bF-1))&&Zu (Zw .i64 (bF-1)<(↑(Zy (Zh y (Zx bF) (Zz .u64 eW))):Int))&&Zb) (az (t2&&Zb) (Yy .u64 (Zf (Zh y (Zx bF) (Zz .u64 eW)) (Zx (Zw .i64 (bF-1))) Zn) fun lM=>az (Zy [Zz .u64 gM]==nat_lit 1&&Zb&&Zb&&Zb&&t2) (aD (Zu (Zw .i64 (bF-n)>=2)) (Zv (bw (fun st=>ay st fun x r=>Xj x fun y=>ak .i64 r fun n r=>ak .i64 r fun gu r=>ak .i64 r fun iM r=>ak .i64 r fun fL r=>ak .i64 r fun bh r=>let t4:Bool:=Zu (0<=bh)&&Zu (bh<(↑(Zy y):Int))&&Zb;let t5:Bool:=Zu (0<=Zw .i64 (bh-1))&&Zu (Zw .i64 (bh-1)<(↑(Zy y):Int))&&Zb;aE r fun b r=>let t6:Option (List AV ⊕ Ex×List AV):=Zm (Yf (Xw 4,[Yq y,Zz .i64 n,Zz .i64 gu,Zz .i64 iM,Zz .i64 fL,Zz .i64 bh,Zd b]));aw r (aD (Zu (bh>=1)) (az t4 (az (Zg (Zx bh) (Zy y)&&Zb) (Yy .u64 (Zf y (Zx bh) Zn) fun gR=>az t5 (az (Zg (Zx (Zw .i64 (bh-1))) (Zy y)&&Zb) (Yy .u64 (Zf y (Zx (Zw .i64 (bh-1))) Zn) fun eU=>aD (!Zu (gR<eU)) t6 (az t5 (az (Zg (Zx (Zw .i64 (bh-1))) (Zy y)&&Zb) (Yy .u64 (Zf y (Zx (Zw .i64 (bh-1))) Zn) fun dc=>let t7:Bool:=Zg (Zx (Zw .i64 (bh-1))) (Zy (Zh y (Zx bh) (Zz .u64 dc)));az t4 (az (Zg (Zx bh) (Zy y)&&Zb) (Yy .u64 (Zf y (Zx bh) Zn) fun bB=>az t4 (az (Zg (Zx bh) (Zy y)&&Zb) (Yy .u64 (Zf y (Zx bh) Zn) fun oP=>az (Zy [Zz .u64 dc]==nat_lit 1&&Zb&&Zb&&Zb&&Zg (Zx bh) (Zy y)) (az (Zu (0<=Zw .i64 (bh-1))&&Zu (Zw .i64 (bh-1)<(↑(Zy (Zh y (Zx bh) (Zz .u64 dc))):Int))&&Zb) (az (t7&&Zb) (Yy .u64 (Zf (Zh y (Zx bh) (Zz .u64 dc)) (Zx (Zw .i64 (bh-1))) Zn) fun oQ=>az (Zy [Zz .u64 bB]==nat_lit 1&&Zb&&Zb&&Zb&&t7) (Zm (Xz [Yq (Zh (Zh y (Zx bh) (Zz .u64 dc)) (Zx (Zw .i64 (bh-1))) (Zz .u64 bB)),Zz .i64 n,Zz .i64 gu,Zz .i64 iM,Zz .i64 fL,Zz .i64 (Zw .i64 (bh-1)),Zd b]))))))))))))))))) t6)) [t3,Zz .i64 n,Zz .i64 bZ,Zz .i64 bF,Zz .i64 fb,Zz .i64 (Zw .i64 (bF-1)),Zd b]) fun(r:Ex×List AV)=>ay (Yv r) fun x lE=>Xj x fun y=>ak .i64 lE fun n mT=>ak .i64 mT fun gu mg=>ak .i64 mg fun iM fZ=>ak .i64 fZ fun fL gS=>ak .i64 gS fun bh gT=>aE gT fun b jC=>aw jC (jp r.1 (Zm (Yf (Ex.ret,[Yq y,Zz .i64 n,Zz .i64 gu,Zd b,Zz .i64 iM,Zz .i64 fL]))) fun(j:Nat)=>aD (Xk j 4) (aD (Zu (Zw .i64 (gu-iM)>=2)) (Zv (bw (fun st=>ay st fun x r=>Xj x fun y=>ak .i64 r fun n r=>ak .i64 r fun gR r=>ak .i64 r fun eU r=>ak .i64 r fun dc r=>ak .i64 r fun bB r=>let t8:Bool:=Zu (0<=bB)&&Zu (bB<(↑(Zy y):Int))&&Zb;let t9:Bool:=Zu (0<=Zw .i64 (bB-1))&&Zu (Zw .i64 (bB-1)<(↑(Zy y):Int))&&Zb;aE r fun b r=>let t10:Option (List AV ⊕ Ex×List AV):=Zm (Yf (Xw 6,[Yq y,Zz .i64 n,Zz .i64 gR,Zz .i64 eU,Zz .i64 dc,Zz .i64 bB,Zd b]));aw r (aD (Zu (bB<gR)) (az t8 (az (Zg (Zx bB) (Zy y)&&Zb) (Yy .u64 (Zf y (Zx bB) Zn) fun oP=>az t9 (az (Zg (Zx (Zw .i64 (bB-1))) (Zy y)&&Zb) (Yy .u64 (Zf y (Zx (Zw .i64 (bB-1))) Zn) fun oQ=>aD (!Zu (oP<oQ)) t10 (az t9 (az (Zg (Zx (Zw .i64 (bB-1))) (Zy y)&&Zb) (Yy .u64 (Zf y (Zx (Zw .i64 (bB-1))) Zn) fun il=>let t11:Bool:=Zg (Zx (Zw .i64 (bB-1))) (Zy (Zh y (Zx bB) (Zz .u64 il)));az t8 (az (Zg (Zx bB) (Zy y)&&Zb) (Yy .u64 (Zf y (Zx bB) Zn) fun te=>az t8 (az (Zg (Zx bB) (Zy y)&&Zb) (Yy .u64 (Zf y (Zx bB) Zn) fun MG=>az (Zy [Zz .u64 il]==nat_lit 1&&Zb&&Zb&&Zb&&Zg (Zx bB) (Zy y)) (az (Zu (0<=Zw .i64 (bB-1))&&Zu (Zw .i64 (bB-1)<(↑(Zy (Zh y (Zx bB) (Zz .u64 il))):Int))&&Zb) (az (t11&&Zb) (Yy .u64 (Zf (Zh y (Zx bB) (Zz .u64 il)) (Zx (Zw .i64 (bB-1))) Zn) fun MH=>az (Zy [Zz .u64 te]==nat_lit 1&&Zb&&Zb&&Zb&&t11) (Zm (Xz [Yq (Zh (Zh y (Zx bB) (Zz .u64 il)) (Zx (Zw .i64 (bB-1))) (Zz .u64 te)),Zz .i64 n,Zz .i64 gR,Zz .i64 eU,Zz .i64 dc,Zz .i64 (Zw .i64 (bB+1)),Zd b]))))))))))))))))) t10)) [Yq y,Zz .i64 n,Zz .i64 gu,Zz .i64 iM,Zz .i64 fL,Zz .i64 (Zw .i64 (iM+1)),Zd b]) fun(r:Ex×List AV)=>ay (Yv r) fun x kf=>Xj x fun y=>ak .i64 kf fun n kg=>ak .i64 kg fun gR lD=>ak .i64 lD fun eU rU=>ak .i64 rU fun dc rV=>ak .i64 rV fun bB rW=>aE rW fun b rX=>aw rX (jp r.1 (Zm (Yf (Ex.ret,[Yq y,Zz .i64 n,Zz .i64 gR,Zd b,Zz .i64 eU,Zz .i64 dc]))) fun(j:Nat)=>aD (Xk j 6) (Zm (Xz [Yq y,Zz .i64 n,Zz .i64 gR,Zd b,Zz .i64 eU,Zz .i64 (Zw .i64 (dc+1))])) Wu)) (Zm (Xz [Yq y,Zz .i64 n,Zz .i64 gu,Zd b,Zz .i64 iM,Zz .i64 (Zw .i64 (fL+1))]))) Wu)) (aD (Zu (Zw .i64 (bZ-bF)>=2)) (Zv (bw (fun st=>ay st fun x r=>Xj x fun y=>ak .i64 r fun n r=>ak .i64 r fun gu r=>ak .i64 r fun iM r=>ak .i64 r fun fL r=>ak .i64 r fun bh r=>let t12:Bool:=Zu (0<=bh)&&Zu (bh<(↑(Zy y):Int))&&Zb;let t13:Bool:=Zu (0<=Zw .i64 (bh-1))&&Zu (Zw .i64 (bh-1)<(↑(Zy y):Int))&&Zb;aE r fun b r=>let t14:Option (List AV ⊕ Ex×List AV):=Zm (Yf (Xw 6,[Yq y,Zz .i64 n,Zz .i64 gu,Zz .i64 iM,Zz .i64 fL,Zz .i64 bh,Zd b]));aw r (aD (Zu (bh<gu)) (az t12 (az (Zg (Zx bh) (Zy y)&&Zb) (Yy .u64 (Zf y (Zx bh) Zn) fun gR=>az t13 (az (Zg (Zx (Zw .i64 (bh-1))) (Zy y)&&Zb) (Yy .u64 (Zf y (Zx (Zw .i64 (bh-1))) Zn) fun eU=>aD (!Zu (gR<eU)) t14 (az t13 (az (Zg (Zx (Zw .i64 (bh-1))) (Zy y)&&Zb) (Yy .u64 (Zf y (Zx (Zw .i64 (bh-1))) Zn) fun dc=>let t15:Bool:=Zg (Zx (Zw .i64 (bh-1))) (Zy (Zh y (Zx bh) (Zz .u64 dc)));az t12 (az (Zg (Zx bh) (Zy y)&&Zb) (Yy .u64 (Zf y (Zx bh) Zn) fun bB=>az t12 (az (Zg (Zx bh) (Zy y)&&Zb) (Yy .u64 (Zf y (Zx bh) Zn) fun oP=>az (Zy [Zz .u64 dc]==nat_lit 1&&Zb&&Zb&&Zb&&Zg (Zx bh) (Zy y)) (az (Zu (0<=Zw .i64 (bh-1))&&Zu (Zw .i64 (bh-1)<(↑(Zy (Zh y (Zx bh) (Zz .u64 dc))):Int))&&Zb) (az (t15&&Zb) (Yy .u64 (Zf (Zh y (Zx bh) (Zz .u64 dc)) (Zx (Zw .i64 (bh-1))) Zn) fun oQ=>az (Zy [Zz .u64 bB]==nat_lit 1&&Zb&&Zb&&Zb&&t15) (Zm (Xz [Yq (Zh (Zh y (Zx bh) (Zz .u64 dc)) (Zx (Zw .i64 (bh-1))) (Zz .u64 bB)),Zz .i64 n,Zz .i64 gu,Zz .i64 iM,Zz .i64 fL,Zz .i64 (Zw .i64 (bh+1)),Zd b]))))))))))))))))) t14)) [t3,Zz .i64 n,Zz .i64 bZ,Zz .i64 bF,Zz .i64 fb,Zz .i64 (Zw .i64 (bF+1)),Zd b]) fun(r:Ex×List AV)=>ay (Yv r) fun x lE=>Xj x fun y=>ak .i64 lE fun n mT=>ak .i64 mT fun gu mg=>ak .i64 mg fun iM fZ=>ak .i64 fZ fun fL gS=>ak .i64 gS fun bh gT=>aE gT fun b jC=>aw jC (jp r.1 (Zm (Yf (Ex.ret,[Yq y,Zz .i64 n,Zz .i64 gu,Zd b,Zz .i64 iM,Zz .i64 fL]))) fun(j:Nat)=>aD (Xk j 6) (Zm (Xz [Yq y,Zz .i64 n,Zz .i64 gu,Zd b,Zz .i64 iM,Zz .i64 (Zw .i64 (fL+1))])) Wu)) (Zm (Xz [t3,Zz .i64 n,Zz .i64 bZ,Zd b,Zz .i64 bF,Zz .i64 (Zw .i64 (fb+1))])))))))))))))))) Wu)) (Zm (Yf (Xw 0,[Yq y,Zz .i64 n,Zz .i64 bn,Zd b,Zz .i64 bT,Zz .i64 eO]))))) [Yq els,Zz .i64 a,Zz .i64 b,Zd Yd,Zz .i64 (Zw .i64 (a+1)),Zz .i64 0]) fun(r:Ex×List AV)=>ay (Yv r) fun x eI=>Xj x fun y=>ak .i64 eI fun n eS=>ak .i64 eS fun n eZ=>aE eZ fun b f_=>ak .i64 f_ fun n iq=>ak .i64 iq fun n ju=>aw ju (jp r.1 (Zm (Zd b,[y])) fun(j:Nat)=>aD (Xk j 0) (Zm (Zd Yd,[y])) Wu)) (by kernel_rfl) ?_
 try dsimp only[aK,bq,aE,cT,ak,ci,dx]
 simp only[Yp,Qa2] at aB;obtain⟨⟨⟨⟨⟨fK,hlen⟩,GL⟩,uE⟩,hb⟩,eY⟩:=aB;obtain⟨d,rfl,hd⟩:=Kerb.lB fK;simp only[Xu] at hlen hb;obtain⟨a,rfl⟩:=Yx (show 0<=a by omega);obtain⟨b,rfl⟩:=Yx (show 0<=b by omega);simp only[Kerb.vP,Kerb.eo,Xg];unfold Go.Sort.partialInsertionSort;rw[show Zw .i64 ((a:Int)+1)=((a+1:Nat):Int) from(Kerb.gf (by omega) (by omega)).trans (by omega)];refine b_ (fun s:Array Int×Nat×Nat=>[Yq (Xn s.1),Zz .i64 (a:Int),Zz .i64 (b:Int),Zd Yd,Zz .i64 (s.2.1:Int),Zz .i64 (s.2.2:Int)]) (fun s=>s.1.size=d.size/\a+1<=s.2.1/\s.2.1<=b/\s.2.2<=5/\Go.Sort.partialIns Go.Sort.ltInt a b (5-s.2.2) s.2.1 s.1=Go.Sort.partialIns Go.Sort.ltInt a b 5 (a+1) d) (fun s=>5-s.2.2) (fun r=>∃ i n,(r.1 = .ret\/r.1 = .exit 0/\(Go.Sort.partialIns Go.Sort.ltInt a b 5 (a+1) d).2=Yd)/\r.2=[Yq (Xn (Go.Sort.partialIns Go.Sort.ltInt a b 5 (a+1) d).1),Zz .i64 (a:Int),Zz .i64 (b:Int),Zd (Go.Sort.partialIns Go.Sort.ltInt a b 5 (a+1) d).2,Zz .i64 i,Zz .i64 n]) (d,a+1,0) ⟨rfl,by dsimp only;omega,by dsimp only;omega,by dsimp only;omega,rfl⟩ rfl ?_ ?_
 ·rintro⟨e,i,s⟩ ⟨hs,hi,Ye,hs5,hr⟩;dsimp only at hs hi Ye hs5 hr ⊢;simp only[↓bD,↓bS,↓cK,↓c8,↓cP];by_cases h5:s<5;case neg =>
   rw[aj (by simp;omega)];rw[show 5-s=0 by omega] at hr;refine⟨_,rfl,(i:Int),(s:Int),.inr ⟨rfl,?_⟩,?_⟩
   ·rw[<-hr];rfl
   ·rw[<-hr];rfl
  rw[ah (by simp;omega)];rw[show 5-s=(5-(s+1))+1 by omega,Go.Sort.partialIns_succ] at hr;rw[Kerb.DJ (by omega) (by omega) _ i rfl (by omega) Ye];have hl:=Kerb.A' (lt:=Go.Sort.ltInt) (d:=e) (b:=b) _ i rfl Ye;generalize Go.Sort.scanSorted Go.Sort.ltInt e b i=j at hl hr ⊢;simp only[↓fe];simp only[↓bD,↓bS,↓cK,↓c8,↓cP,↓jx];rw[ah (Yn _)];by_cases SQ:j=b
  ·rw[Qa1 SQ] at hr;rw[ah (by simp;omega)];refine⟨_,rfl,(j:Int),(s:Int),.inl rfl,?_⟩;rw[<-hr]
  rw[Qa0 SQ] at hr;rw[aj (by simp;omega),show Zw .i64 ((b:Int)-(a:Int))=((b-a:Nat):Int) from(Kerb.gf (by omega) (by omega)).trans (by omega)];by_cases Tu:b-a<50
  ·rw[Qa1 Tu] at hr;rw[ah (by simp;omega)];refine⟨_,rfl,(j:Int),(s:Int),.inl rfl,?_⟩;rw[<-hr]
  rw[Qa0 Tu] at hr;rw[aj (by simp;omega)];have g1:j<e.size:=by omega
  have g2:j-1<e.size:=by omega
  simp only[show Zw .i64 ((j:Int)-1)=((j-1:Nat):Int) from(Kerb.gf (by omega) (by omega)).trans (by omega),show Zw .i64 ((j:Int)-(a:Int))=((j-a:Nat):Int) from(Kerb.gf (by omega) (by omega)).trans (by omega)];rw[Xx g2,Xx g1,Xp g1 (by simp[Xu];omega),Xd,Xp (by rw[Yb];exact g2) (by simp[Xu];omega),Xd,show(Yw (Yw e j e[j-1]!) (j-1) e[j]!)=Go.Sort.swp e j (j-1) from rfl];have hz:(Go.Sort.swp e j (j-1)).size=d.size:=by rw[Xq,hs]
  generalize Go.Sort.swp e j (j-1)=f at hz hr ⊢;have fin:∀ g:Array Int,g.size=d.size->Go.Sort.fixUp Go.Sort.ltInt b j (Go.Sort.fixDown Go.Sort.ltInt a j f)=g->∃ y,Zm (Xz [Yq (Xn g),Zz .i64 (a:Int),Zz .i64 (b:Int),Zd Yd,Zz .i64 (j:Int),Zz .i64 (Zw .i64 ((s:Int)+1))])=Zm y/\Bi (ρ:=Ex×List AV) (fun s:Array Int×Nat×Nat=>[Yq (Xn s.1),Zz .i64 (a:Int),Zz .i64 (b:Int),Zd Yd,Zz .i64 (s.2.1:Int),Zz .i64 (s.2.2:Int)]) (fun s=>s.1.size=d.size/\a+1<=s.2.1/\s.2.1<=b/\s.2.2<=5/\Go.Sort.partialIns Go.Sort.ltInt a b (5-s.2.2) s.2.1 s.1=Go.Sort.partialIns Go.Sort.ltInt a b 5 (a+1) d) (fun s=>5-s.2.2) (fun r=>∃ i n,(r.1 = .ret\/r.1 = .exit 0/\(Go.Sort.partialIns Go.Sort.ltInt a b 5 (a+1) d).2=Yd)/\r.2=[Yq (Xn (Go.Sort.partialIns Go.Sort.ltInt a b 5 (a+1) d).1),Zz .i64 (a:Int),Zz .i64 (b:Int),Zd (Go.Sort.partialIns Go.Sort.ltInt a b 5 (a+1) d).2,Zz .i64 i,Zz .i64 n]) (e,i,s) y:=fun g hg hf=>by
   rw[show Zw .i64 ((s:Int)+1)=((s+1:Nat):Int) from(Kerb.gf (by omega) (by omega)).trans (by omega)];refine⟨_,rfl,(g,j,s+1),rfl,⟨hg,by dsimp only;omega,by dsimp only;omega,by dsimp only;omega,?_⟩,by dsimp only;omega⟩;dsimp only;rw[<-hr,hf]
  have hbj:∀ g:Array Int,Zw .i64 ((b:Int)-(j:Int))=((b-j:Nat):Int):=fun _=>(Kerb.gf (by omega) (by omega)).trans (by omega);simp only[hbj f,show Zw .i64 ((j:Int)+1)=((j+1:Nat):Int) from(Kerb.gf (by omega) (by omega)).trans (by omega)];have up:∀ g:Array Int,g.size=d.size->Go.Sort.fixDown Go.Sort.ltInt a j f=g->b-j>=2->Go.Sort.fixUp Go.Sort.ltInt b j (Go.Sort.fixDown Go.Sort.ltInt a j f)=Go.Sort.shiftUp Go.Sort.ltInt b (j+1) g/\(Go.Sort.shiftUp Go.Sort.ltInt b (j+1) g).size=d.size:=fun g hg hf h=>⟨by rw[hf];unfold Go.Sort.fixUp;rw[Qa1 h],by rw[Kerb.vU _ _ _ rfl,hg]⟩;by_cases OI:j-a>=2
  ·rw[ah (by simp;omega)];obtain⟨m,hm⟩:=Kerb.FT (A:=(a:Int)) (B:=(b:Int)) (I:=(j:Int)) (s:=(s:Int)) (bb:=Yd) (e:=4) (j-1) f (by omega) (by omega);rw[hm];have KX:(Go.Sort.shiftDown Go.Sort.ltInt (j-1) f).size=d.size:=by rw[Kerb.sj,hz]
   have IB:Go.Sort.fixDown Go.Sort.ltInt a j f=Go.Sort.shiftDown Go.Sort.ltInt (j-1) f:=by unfold Go.Sort.fixDown;rw[Qa1 OI]
   generalize Go.Sort.shiftDown Go.Sort.ltInt (j-1) f=g at KX IB ⊢;simp only[↓fe];simp only[↓bD,↓bS,↓cK,↓c8,↓cP,↓jx];rw[ah (Yn _)];simp only[hbj g,show Zw .i64 ((j:Int)+1)=((j+1:Nat):Int) from(Kerb.gf (by omega) (by omega)).trans (by omega)];by_cases wo:b-j>=2
   ·rw[ah (by simp;omega)];obtain⟨m,hm⟩:=Kerb.B5 (A:=(a:Int)) (I:=(j:Int)) (s:=(s:Int)) (bb:=Yd) (b:=b) (e:=6) _ (j+1) g rfl (by omega) (by omega) (by omega) (by omega);rw[hm];simp only[↓fe];simp only[↓bD,↓bS,↓cK,↓c8,↓cP,↓jx];rw[ah (Yn _)];exact fin _ (up g KX IB wo).2 (up g KX IB wo).1
   ·rw[aj (by simp;omega)];exact fin _ KX (by rw[IB];unfold Go.Sort.fixUp;rw[Qa0 wo])
  ·rw[aj (by simp;omega)];have IB:Go.Sort.fixDown Go.Sort.ltInt a j f=f:=by unfold Go.Sort.fixDown;rw[Qa0 OI]
   by_cases wo:b-j>=2
   ·rw[ah (by simp;omega)];obtain⟨m,hm⟩:=Kerb.B5 (A:=(a:Int)) (I:=(j:Int)) (s:=(s:Int)) (bb:=Yd) (b:=b) (e:=6) _ (j+1) f rfl (by omega) (by omega) (by omega) (by omega);rw[hm];simp only[↓fe];simp only[↓bD,↓bS,↓cK,↓c8,↓cP,↓jx];rw[ah (Yn _)];exact fin _ (up f hz IB wo).2 (up f hz IB wo).1
   ·rw[aj (by simp;omega)];exact fin _ hz (by rw[IB];unfold Go.Sort.fixUp;rw[Qa0 wo])
 ·rintro⟨x,l⟩ ⟨i,n,h | ⟨h,hf⟩,rfl⟩
  ·dsimp only at h;subst h;simp only[↓bD,↓bS,↓cK,↓c8,↓cP,↓PK]
  ·dsimp only at h;subst h;simp only[↓bD,↓bS,↓cK,↓c8,↓cP,↓jx];rw[ah (Yn _),hf]
theorem abW:Wk 270 3 Cc:=by
 refine cA Tryz.func270 rfl fun xs bl r h=> ?_;unfold Cc at h;split at h;case h_2=>cases h
 rename_i a b p els;obtain⟨aB,rfl⟩:=dA h;show ea (G.env 270 3) G.rts (G.own 270) Tryz.f270 _ _ [0]=_
 refine cw (az (Zu (0<=p)&&Zu (p<(↑(Zy els):Int))&&Zb) (az (Zg (Zx p) (Zy els)&&Zb) (Yy .u64 (Zf els (Zx p) Zn) fun n=>az (Zu (0<=a)&&Zu (a<(↑(Zy els):Int))&&Zb) (az (Zg (Zx a) (Zy els)&&Zb) (Yy .u64 (Zf els (Zx a) Zn) fun bn=>az (Zu (0<=a)&&Zu (a<(↑(Zy els):Int))&&Zb) (az (Zg (Zx a) (Zy els)&&Zb) (Yy .u64 (Zf els (Zx a) Zn) fun bT=>az (Zy [Zz .u64 n]==nat_lit 1&&Zb&&Zb&&Zb&&Zg (Zx a) (Zy els)) (az (Zu (0<=p)&&Zu (p<(↑(Zy (Zh els (Zx a) (Zz .u64 n))):Int))&&Zb) (az (Zg (Zx p) (Zy (Zh els (Zx a) (Zz .u64 n)))&&Zb) (Yy .u64 (Zf (Zh els (Zx a) (Zz .u64 n)) (Zx p) Zn) fun eO=>az (Zy [Zz .u64 bn]==nat_lit 1&&Zb&&Zb&&Zb&&Zg (Zx p) (Zy (Zh els (Zx a) (Zz .u64 n)))) (Zv (bw (fun st=>ay st fun x r=>Xj x fun y=>ak .i64 r fun n r=>ak .i64 r fun bZ r=>ak .i64 r fun bF r=>aw r (Zv (bw (fun st=>ay st fun x r=>Xj x fun y=>ak .i64 r fun n r=>ak .i64 r fun fb r=>ak .i64 r fun eW r=>aw r (aD (Zu (fb<=eW)) (az (Zu (0<=n)&&Zu (n<(↑(Zy y):Int))&&Zb) (az (Zg (Zx n) (Zy y)&&Zb) (Yy .u64 (Zf y (Zx n) Zn) fun gM=>az (Zu (0<=fb)&&Zu (fb<(↑(Zy y):Int))&&Zb) (az (Zg (Zx fb) (Zy y)&&Zb) (Yy .u64 (Zf y (Zx fb) Zn) fun kH=>aD (!Zu (gM<kH)) (Zm (Xz [Yq y,Zz .i64 n,Zz .i64 (Zw .i64 (fb+1)),Zz .i64 eW])) (Zm (Yf (Xw 2,[Yq y,Zz .i64 n,Zz .i64 fb,Zz .i64 eW])))))))) (Zm (Yf (Xw 2,[Yq y,Zz .i64 n,Zz .i64 fb,Zz .i64 eW]))))) [Yq y,Zz .i64 n,Zz .i64 bZ,Zz .i64 bF]) fun(r:Ex×List AV)=>ay (Yv r) fun x eI=>Xj x fun y=>ak .i64 eI fun n eS=>ak .i64 eS fun fb eZ=>ak .i64 eZ fun eW f_=>aw f_ (jp r.1 (Zm (Yf (Ex.ret,[Yq y,Zz .i64 n,Zz .i64 fb,Zz .i64 eW]))) fun(j:Nat)=>aD (Xk j 2) (Zv (bw (fun st=>ay st fun x r=>Xj x fun y=>ak .i64 r fun n r=>ak .i64 r fun gM r=>ak .i64 r fun kH r=>aw r (aD (Zu (gM<=kH)) (az (Zu (0<=n)&&Zu (n<(↑(Zy y):Int))&&Zb) (az (Zg (Zx n) (Zy y)&&Zb) (Yy .u64 (Zf y (Zx n) Zn) fun lM=>az (Zu (0<=kH)&&Zu (kH<(↑(Zy y):Int))&&Zb) (az (Zg (Zx kH) (Zy y)&&Zb) (Yy .u64 (Zf y (Zx kH) Zn) fun gu=>aD (Zu (lM<gu)) (Zm (Xz [Yq y,Zz .i64 n,Zz .i64 gM,Zz .i64 (Zw .i64 (kH-1))])) (Zm (Yf (Xw 4,[Yq y,Zz .i64 n,Zz .i64 gM,Zz .i64 kH])))))))) (Zm (Yf (Xw 4,[Yq y,Zz .i64 n,Zz .i64 gM,Zz .i64 kH]))))) [Yq y,Zz .i64 n,Zz .i64 fb,Zz .i64 eW]) fun(r:Ex×List AV)=>ay (Yv r) fun x iq=>Xj x fun y=>ak .i64 iq fun n ju=>ak .i64 ju fun gM lE=>ak .i64 lE fun kH mT=>aw mT (jp r.1 (Zm (Yf (Ex.ret,[Yq y,Zz .i64 n,Zz .i64 gM,Zz .i64 kH]))) fun(j:Nat)=>aD (Xk j 4) (aD (Zu (gM>kH)) (Zm (Yf (Xw 0,[Yq y,Zz .i64 n,Zz .i64 gM,Zz .i64 kH]))) (az (Zu (0<=kH)&&Zu (kH<(↑(Zy y):Int))&&Zb) (az (Zg (Zx kH) (Zy y)&&Zb) (Yy .u64 (Zf y (Zx kH) Zn) fun lM=>az (Zu (0<=gM)&&Zu (gM<(↑(Zy y):Int))&&Zb) (az (Zg (Zx gM) (Zy y)&&Zb) (Yy .u64 (Zf y (Zx gM) Zn) fun gu=>az (Zu (0<=gM)&&Zu (gM<(↑(Zy y):Int))&&Zb) (az (Zg (Zx gM) (Zy y)&&Zb) (Yy .u64 (Zf y (Zx gM) Zn) fun iM=>az (Zy [Zz .u64 lM]==nat_lit 1&&Zb&&Zb&&Zb&&Zg (Zx gM) (Zy y)) (az (Zu (0<=kH)&&Zu (kH<(↑(Zy (Zh y (Zx gM) (Zz .u64 lM))):Int))&&Zb) (az (Zg (Zx kH) (Zy (Zh y (Zx gM) (Zz .u64 lM)))&&Zb) (Yy .u64 (Zf (Zh y (Zx gM) (Zz .u64 lM)) (Zx kH) Zn) fun fL=>az (Zy [Zz .u64 gu]==nat_lit 1&&Zb&&Zb&&Zb&&Zg (Zx kH) (Zy (Zh y (Zx gM) (Zz .u64 lM)))) (Zm (Xz [Yq (Zh (Zh y (Zx gM) (Zz .u64 lM)) (Zx kH) (Zz .u64 gu)),Zz .i64 n,Zz .i64 (Zw .i64 (gM+1)),Zz .i64 (Zw .i64 (kH-1))]))))))))))))) Wu)) Wu))) [Yq (Zh (Zh els (Zx a) (Zz .u64 n)) (Zx p) (Zz .u64 bn)),Zz .i64 a,Zz .i64 (Zw .i64 (a+1)),Zz .i64 (Zw .i64 (b-1))]) fun(r:Ex×List AV)=>ay (Yv r) fun x eI=>Xj x fun y=>ak .i64 eI fun n eS=>ak .i64 eS fun n eZ=>ak .i64 eZ fun bZ f_=>aw f_ (jp r.1 Wu fun(j:Nat)=>aD (Xk j 0) (Zm (Zz .i64 n,[y])) Wu)))))))))))) (by kernel_rfl) ?_
 dsimp only[ak];simp only[Yp,Qa2] at aB;obtain⟨⟨⟨⟨⟨⟨fK,hlen⟩,GL⟩,uE⟩,hb⟩,Re⟩,YO⟩:=aB;obtain⟨d,rfl,hd⟩:=Kerb.lB fK;simp only[Xu] at hlen hb;obtain⟨a,rfl⟩:=Yx (show 0<=a by omega);obtain⟨b,rfl⟩:=Yx (show 0<=b by omega);obtain⟨p,rfl⟩:=Yx (show 0<=p by omega);have h1:a<d.size:=by omega
 have h2:p<d.size:=by omega
 have hs:(Go.Sort.swp d a p).size=d.size:=Xq _ _ _;rw[Kerb.um];unfold Go.Sort.partitionEqual;rw[Xx h2,Xx h1,Xp h1 (by simp[Xu];omega),Xd,Xp (by rw[Yb];exact h2) (by simp[Xu];omega),Xd,show(Yw (Yw d a d[p]!) p d[a]!)=Go.Sort.swp d a p from rfl];rw[show Zw .i64 ((a:Int)+1)=((a+1:Nat):Int) from(Kerb.gf (by omega) (by omega)).trans (by omega),show Zw .i64 ((b:Int)-1)=((b-1:Nat):Int) from(Kerb.gf (by omega) (by omega)).trans (by omega)];generalize Go.Sort.swp d a p=d2 at hs ⊢;refine b_ (fun s:Array Int×Nat×Nat=>[Yq (Xn s.1),Zz .i64 (a:Int),Zz .i64 (s.2.1:Int),Zz .i64 (s.2.2:Int)]) (fun s=>s.1.size=d.size/\1<=s.2.1/\s.2.1<=s.2.2+2/\s.2.2<d.size/\Go.Sort.partEqLoop Go.Sort.ltInt a s.2.1 s.2.2 s.1=Go.Sort.partEqLoop Go.Sort.ltInt a (a+1) (b-1) d2) (fun s=>s.2.2+1-s.2.1) (fun r=>∃ n,r=(.exit 0,[Yq (Xn (Go.Sort.partEqLoop Go.Sort.ltInt a (a+1) (b-1) d2).2),Zz .i64 (a:Int),Zz .i64 ((Go.Sort.partEqLoop Go.Sort.ltInt a (a+1) (b-1) d2).1:Int),Zz .i64 n])) (d2,a+1,b-1) ⟨hs,by dsimp only;omega,by dsimp only;omega,by dsimp only;omega,rfl⟩ rfl ?_ ?_
 ·rintro⟨e,i,j⟩ ⟨hs,hi,OL,hj,hr⟩;dsimp only at hs hi OL hj hr ⊢;simp only[↓bD,↓bS,↓cK,↓cP];rw[Kerb.VM (by omega) (by omega) (by omega) (by omega)];dsimp only;have u:=Go.Sort.scanUp_spec (fun x => !Go.Sort.ltInt e[a]! x) e j _ i rfl;have v:=Go.Sort.scanDown_spec (fun x=>Go.Sort.ltInt e[a]! x) e (Go.Sort.scanUp (fun x => !Go.Sort.ltInt e[a]! x) e j i) j;rw[Go.Sort.partEqLoop_eq] at hr;have Y3:j+1<i->Go.Sort.scanUp (fun x => !Go.Sort.ltInt e[a]! x) e j i=i:=fun h=>by
   unfold Go.Sort.scanUp;rw[Qa0 (by simp;omega)]
  generalize Go.Sort.scanUp (fun x => !Go.Sort.ltInt e[a]! x) e j i=i3 at u v hr Y3 ⊢;simp only[↓bD,↓bS,↓cK,↓cP,↓jx];rw[ah (Yn _)];have u1:=u.1;have u2:=u.2.1;rw[Kerb.O9 (by omega) (by omega) (by omega) (by omega)];dsimp only;generalize Go.Sort.scanDown (fun x=>Go.Sort.ltInt e[a]! x) e i3 j=j3 at v hr ⊢;simp only[↓bD,↓bS,↓cK,↓cP,↓jx];rw[ah (Yn _)];have v1:=v.1;have v2:=v.2.1;by_cases hc:i3>j3
  ·rw[Qa1 hc] at hr;rw[ah (by simp;omega)];refine⟨_,rfl,(j3:Int),?_⟩;rw[<-hr]
  ·rw[Qa0 hc] at hr;have h3:i3<e.size:=by omega
   have h4:j3<e.size:=by omega
   rw[aj (by simp;omega)];rw[Xx h4,Xx h3,Xp h3 (by simp[Xu];omega),Xd,Xp (by rw[Yb];exact h4) (by simp[Xu];omega),Xd,show(Yw (Yw e i3 e[j3]!) j3 e[i3]!)=Go.Sort.swp e i3 j3 from rfl];rw[show Zw .i64 ((i3:Int)+1)=((i3+1:Nat):Int) from(Kerb.gf (by omega) (by omega)).trans (by omega),show Zw .i64 ((j3:Int)-1)=((j3-1:Nat):Int) from(Kerb.gf (by omega) (by omega)).trans (by omega)];exact⟨_,rfl,(Go.Sort.swp e i3 j3,i3+1,j3-1),rfl,⟨by dsimp only;rw[Xq,hs],by dsimp only;omega,by dsimp only;omega,by dsimp only;omega,hr⟩,by dsimp only;omega⟩
 ·rintro _ ⟨n,rfl⟩;simp only[↓bD,↓bS,↓cK,↓cP,↓jx];rw[ah (Yn _)]
theorem abX:Wk 271 3 Cd:=by
 refine cA Tryz.func271 rfl fun xs bl r h=> ?_;unfold Cd at h;split at h;case h_2=>cases h
 rename_i a b p els;obtain⟨aB,rfl⟩:=dA h;show ea (G.env 271 3) G.rts (G.own 271) Tryz.f271 _ _ [0]=_
 refine cw (az (Zu (0<=p)&&Zu (p<(↑(Zy els):Int))&&Zb) (az (Zg (Zx p) (Zy els)&&Zb) (Yy .u64 (Zf els (Zx p) Zn) fun n=>az (Zu (0<=a)&&Zu (a<(↑(Zy els):Int))&&Zb) (az (Zg (Zx a) (Zy els)&&Zb) (Yy .u64 (Zf els (Zx a) Zn) fun bn=>az (Zu (0<=a)&&Zu (a<(↑(Zy els):Int))&&Zb) (az (Zg (Zx a) (Zy els)&&Zb) (Yy .u64 (Zf els (Zx a) Zn) fun bT=>az (Zy [Zz .u64 n]==nat_lit 1&&Zb&&Zb&&Zb&&Zg (Zx a) (Zy els)) (az (Zu (0<=p)&&Zu (p<(↑(Zy (Zh els (Zx a) (Zz .u64 n))):Int))&&Zb) (az (Zg (Zx p) (Zy (Zh els (Zx a) (Zz .u64 n)))&&Zb) (Yy .u64 (Zf (Zh els (Zx a) (Zz .u64 n)) (Zx p) Zn) fun eO=>az (Zy [Zz .u64 bn]==nat_lit 1&&Zb&&Zb&&Zb&&Zg (Zx p) (Zy (Zh els (Zx a) (Zz .u64 n)))) (Zv (bw (fun st=>ay st fun x r=>Xj x fun y=>ak .i64 r fun n r=>ak .i64 r fun bZ r=>ak .i64 r fun bF r=>aw r (aD (Zu (bZ<=bF)) (az (Zu (0<=bZ)&&Zu (bZ<(↑(Zy y):Int))&&Zb) (az (Zg (Zx bZ) (Zy y)&&Zb) (Yy .u64 (Zf y (Zx bZ) Zn) fun fb=>az (Zu (0<=n)&&Zu (n<(↑(Zy y):Int))&&Zb) (az (Zg (Zx n) (Zy y)&&Zb) (Yy .u64 (Zf y (Zx n) Zn) fun eW=>aD (Zu (fb<eW)) (Zm (Xz [Yq y,Zz .i64 n,Zz .i64 (Zw .i64 (bZ+1)),Zz .i64 bF])) (Zm (Yf (Xw 0,[Yq y,Zz .i64 n,Zz .i64 bZ,Zz .i64 bF])))))))) (Zm (Yf (Xw 0,[Yq y,Zz .i64 n,Zz .i64 bZ,Zz .i64 bF]))))) [Yq (Zh (Zh els (Zx a) (Zz .u64 n)) (Zx p) (Zz .u64 bn)),Zz .i64 a,Zz .i64 (Zw .i64 (a+1)),Zz .i64 (Zw .i64 (b-1))]) fun(r:Ex×List AV)=>ay (Yv r) fun x eI=>Xj x fun y=>ak .i64 eI fun n eS=>ak .i64 eS fun bZ eZ=>ak .i64 eZ fun bF f_=>aw f_ (jp r.1 Wu fun(j:Nat)=>aD (Xk j 0) (Zv (bw (fun st=>ay st fun x r=>Xj x fun y=>ak .i64 r fun n r=>ak .i64 r fun fb r=>ak .i64 r fun eW r=>aw r (aD (Zu (fb<=eW)) (az (Zu (0<=eW)&&Zu (eW<(↑(Zy y):Int))&&Zb) (az (Zg (Zx eW) (Zy y)&&Zb) (Yy .u64 (Zf y (Zx eW) Zn) fun gM=>az (Zu (0<=n)&&Zu (n<(↑(Zy y):Int))&&Zb) (az (Zg (Zx n) (Zy y)&&Zb) (Yy .u64 (Zf y (Zx n) Zn) fun kH=>aD (!Zu (gM<kH)) (Zm (Xz [Yq y,Zz .i64 n,Zz .i64 fb,Zz .i64 (Zw .i64 (eW-1))])) (Zm (Yf (Xw 2,[Yq y,Zz .i64 n,Zz .i64 fb,Zz .i64 eW])))))))) (Zm (Yf (Xw 2,[Yq y,Zz .i64 n,Zz .i64 fb,Zz .i64 eW]))))) [Yq y,Zz .i64 n,Zz .i64 bZ,Zz .i64 bF]) fun(r:Ex×List AV)=>ay (Yv r) fun x iq=>Xj x fun y=>ak .i64 iq fun n ju=>ak .i64 ju fun fb lE=>ak .i64 lE fun eW mT=>aw mT (jp r.1 Wu fun(j:Nat)=>aD (Xk j 2) (aD (Zu (fb>eW)) (az (Zu (0<=n)&&Zu (n<(↑(Zy y):Int))&&Zb) (az (Zg (Zx n) (Zy y)&&Zb) (Yy .u64 (Zf y (Zx n) Zn) fun gM=>az (Zu (0<=eW)&&Zu (eW<(↑(Zy y):Int))&&Zb) (az (Zg (Zx eW) (Zy y)&&Zb) (Yy .u64 (Zf y (Zx eW) Zn) fun kH=>az (Zu (0<=eW)&&Zu (eW<(↑(Zy y):Int))&&Zb) (az (Zg (Zx eW) (Zy y)&&Zb) (Yy .u64 (Zf y (Zx eW) Zn) fun lM=>az (Zy [Zz .u64 gM]==nat_lit 1&&Zb&&Zb&&Zb&&Zg (Zx eW) (Zy y)) (az (Zu (0<=n)&&Zu (n<(↑(Zy (Zh y (Zx eW) (Zz .u64 gM))):Int))&&Zb) (az (Zg (Zx n) (Zy (Zh y (Zx eW) (Zz .u64 gM)))&&Zb) (Yy .u64 (Zf (Zh y (Zx eW) (Zz .u64 gM)) (Zx n) Zn) fun gu=>az (Zy [Zz .u64 kH]==nat_lit 1&&Zb&&Zb&&Zb&&Zg (Zx n) (Zy (Zh y (Zx eW) (Zz .u64 gM)))) (Zm (Yu [Zz .i64 eW,Zd Zb],[Zh (Zh y (Zx eW) (Zz .u64 gM)) (Zx n) (Zz .u64 kH)])))))))))))) (az (Zu (0<=eW)&&Zu (eW<(↑(Zy y):Int))&&Zb) (az (Zg (Zx eW) (Zy y)&&Zb) (Yy .u64 (Zf y (Zx eW) Zn) fun gM=>az (Zu (0<=fb)&&Zu (fb<(↑(Zy y):Int))&&Zb) (az (Zg (Zx fb) (Zy y)&&Zb) (Yy .u64 (Zf y (Zx fb) Zn) fun kH=>az (Zu (0<=fb)&&Zu (fb<(↑(Zy y):Int))&&Zb) (az (Zg (Zx fb) (Zy y)&&Zb) (Yy .u64 (Zf y (Zx fb) Zn) fun lM=>az (Zy [Zz .u64 gM]==nat_lit 1&&Zb&&Zb&&Zb&&Zg (Zx fb) (Zy y)) (az (Zu (0<=eW)&&Zu (eW<(↑(Zy (Zh y (Zx fb) (Zz .u64 gM))):Int))&&Zb) (az (Zg (Zx eW) (Zy (Zh y (Zx fb) (Zz .u64 gM)))&&Zb) (Yy .u64 (Zf (Zh y (Zx fb) (Zz .u64 gM)) (Zx eW) Zn) fun gu=>az (Zy [Zz .u64 kH]==nat_lit 1&&Zb&&Zb&&Zb&&Zg (Zx eW) (Zy (Zh y (Zx fb) (Zz .u64 gM)))) (Zv (bw (fun st=>ay st fun x r=>Xj x fun y=>ak .i64 r fun n r=>ak .i64 r fun iM r=>ak .i64 r fun fL r=>aw r (Zv (bw (fun st=>ay st fun x r=>Xj x fun y=>ak .i64 r fun n r=>ak .i64 r fun bh r=>ak .i64 r fun gR r=>aw r (aD (Zu (bh<=gR)) (az (Zu (0<=bh)&&Zu (bh<(↑(Zy y):Int))&&Zb) (az (Zg (Zx bh) (Zy y)&&Zb) (Yy .u64 (Zf y (Zx bh) Zn) fun eU=>az (Zu (0<=n)&&Zu (n<(↑(Zy y):Int))&&Zb) (az (Zg (Zx n) (Zy y)&&Zb) (Yy .u64 (Zf y (Zx n) Zn) fun dc=>aD (Zu (eU<dc)) (Zm (Xz [Yq y,Zz .i64 n,Zz .i64 (Zw .i64 (bh+1)),Zz .i64 gR])) (Zm (Yf (Xw 6,[Yq y,Zz .i64 n,Zz .i64 bh,Zz .i64 gR])))))))) (Zm (Yf (Xw 6,[Yq y,Zz .i64 n,Zz .i64 bh,Zz .i64 gR]))))) [Yq y,Zz .i64 n,Zz .i64 iM,Zz .i64 fL]) fun(r:Ex×List AV)=>ay (Yv r) fun x mg=>Xj x fun y=>ak .i64 mg fun n fZ=>ak .i64 fZ fun bh gS=>ak .i64 gS fun gR gT=>aw gT (jp r.1 (Zm (Yf (Ex.ret,[Yq y,Zz .i64 n,Zz .i64 bh,Zz .i64 gR]))) fun(j:Nat)=>aD (Xk j 6) (Zv (bw (fun st=>ay st fun x r=>Xj x fun y=>ak .i64 r fun n r=>ak .i64 r fun eU r=>ak .i64 r fun dc r=>aw r (aD (Zu (eU<=dc)) (az (Zu (0<=dc)&&Zu (dc<(↑(Zy y):Int))&&Zb) (az (Zg (Zx dc) (Zy y)&&Zb) (Yy .u64 (Zf y (Zx dc) Zn) fun bB=>az (Zu (0<=n)&&Zu (n<(↑(Zy y):Int))&&Zb) (az (Zg (Zx n) (Zy y)&&Zb) (Yy .u64 (Zf y (Zx n) Zn) fun oP=>aD (!Zu (bB<oP)) (Zm (Xz [Yq y,Zz .i64 n,Zz .i64 eU,Zz .i64 (Zw .i64 (dc-1))])) (Zm (Yf (Xw 8,[Yq y,Zz .i64 n,Zz .i64 eU,Zz .i64 dc])))))))) (Zm (Yf (Xw 8,[Yq y,Zz .i64 n,Zz .i64 eU,Zz .i64 dc]))))) [Yq y,Zz .i64 n,Zz .i64 bh,Zz .i64 gR]) fun(r:Ex×List AV)=>ay (Yv r) fun x jC=>Xj x fun y=>ak .i64 jC fun n kf=>ak .i64 kf fun eU kg=>ak .i64 kg fun dc lD=>aw lD (jp r.1 (Zm (Yf (Ex.ret,[Yq y,Zz .i64 n,Zz .i64 eU,Zz .i64 dc]))) fun(j:Nat)=>aD (Xk j 8) (aD (Zu (eU>dc)) (Zm (Yf (Xw 4,[Yq y,Zz .i64 n,Zz .i64 eU,Zz .i64 dc]))) (az (Zu (0<=dc)&&Zu (dc<(↑(Zy y):Int))&&Zb) (az (Zg (Zx dc) (Zy y)&&Zb) (Yy .u64 (Zf y (Zx dc) Zn) fun bB=>az (Zu (0<=eU)&&Zu (eU<(↑(Zy y):Int))&&Zb) (az (Zg (Zx eU) (Zy y)&&Zb) (Yy .u64 (Zf y (Zx eU) Zn) fun oP=>az (Zu (0<=eU)&&Zu (eU<(↑(Zy y):Int))&&Zb) (az (Zg (Zx eU) (Zy y)&&Zb) (Yy .u64 (Zf y (Zx eU) Zn) fun oQ=>az (Zy [Zz .u64 bB]==nat_lit 1&&Zb&&Zb&&Zb&&Zg (Zx eU) (Zy y)) (az (Zu (0<=dc)&&Zu (dc<(↑(Zy (Zh y (Zx eU) (Zz .u64 bB))):Int))&&Zb) (az (Zg (Zx dc) (Zy (Zh y (Zx eU) (Zz .u64 bB)))&&Zb) (Yy .u64 (Zf (Zh y (Zx eU) (Zz .u64 bB)) (Zx dc) Zn) fun il=>az (Zy [Zz .u64 oP]==nat_lit 1&&Zb&&Zb&&Zb&&Zg (Zx dc) (Zy (Zh y (Zx eU) (Zz .u64 bB)))) (Zm (Xz [Yq (Zh (Zh y (Zx eU) (Zz .u64 bB)) (Zx dc) (Zz .u64 oP)),Zz .i64 n,Zz .i64 (Zw .i64 (eU+1)),Zz .i64 (Zw .i64 (dc-1))]))))))))))))) Wu)) Wu))) [Yq (Zh (Zh y (Zx fb) (Zz .u64 gM)) (Zx eW) (Zz .u64 kH)),Zz .i64 n,Zz .i64 (Zw .i64 (fb+1)),Zz .i64 (Zw .i64 (eW-1))]) fun(r:Ex×List AV)=>ay (Yv r) fun x mg=>Xj x fun y=>ak .i64 mg fun n fZ=>ak .i64 fZ fun iM gS=>ak .i64 gS fun fL gT=>aw gT (jp r.1 Wu fun(j:Nat)=>aD (Xk j 4) (az (Zu (0<=n)&&Zu (n<(↑(Zy y):Int))&&Zb) (az (Zg (Zx n) (Zy y)&&Zb) (Yy .u64 (Zf y (Zx n) Zn) fun bh=>az (Zu (0<=fL)&&Zu (fL<(↑(Zy y):Int))&&Zb) (az (Zg (Zx fL) (Zy y)&&Zb) (Yy .u64 (Zf y (Zx fL) Zn) fun gR=>az (Zu (0<=fL)&&Zu (fL<(↑(Zy y):Int))&&Zb) (az (Zg (Zx fL) (Zy y)&&Zb) (Yy .u64 (Zf y (Zx fL) Zn) fun eU=>az (Zy [Zz .u64 bh]==nat_lit 1&&Zb&&Zb&&Zb&&Zg (Zx fL) (Zy y)) (az (Zu (0<=n)&&Zu (n<(↑(Zy (Zh y (Zx fL) (Zz .u64 bh))):Int))&&Zb) (az (Zg (Zx n) (Zy (Zh y (Zx fL) (Zz .u64 bh)))&&Zb) (Yy .u64 (Zf (Zh y (Zx fL) (Zz .u64 bh)) (Zx n) Zn) fun dc=>az (Zy [Zz .u64 gR]==nat_lit 1&&Zb&&Zb&&Zb&&Zg (Zx n) (Zy (Zh y (Zx fL) (Zz .u64 bh)))) (Zm (Yu [Zz .i64 fL,Zd Yd],[Zh (Zh y (Zx fL) (Zz .u64 bh)) (Zx n) (Zz .u64 gR)])))))))))))) Wu))))))))))))) Wu)) Wu)))))))))))) (by kernel_rfl) ?_
 dsimp only[ak];simp only[Yp,Qa2] at aB;obtain⟨⟨⟨⟨⟨⟨fK,hlen⟩,GL⟩,uE⟩,hb⟩,Re⟩,YO⟩:=aB;obtain⟨d,rfl,hd⟩:=Kerb.lB fK;simp only[Xu] at hlen hb;obtain⟨a,rfl⟩:=Yx (show 0<=a by omega);obtain⟨b,rfl⟩:=Yx (show 0<=b by omega);obtain⟨p,rfl⟩:=Yx (show 0<=p by omega);have h1:a<d.size:=by omega
 have h2:p<d.size:=by omega
 have hs:(Go.Sort.swp d a p).size=d.size:=Xq _ _ _;rw[Kerb.zK];unfold Go.Sort.partition;rw[Xx h2,Xx h1,Xp h1 (by simp[Xu];omega),Xd,Xp (by rw[Yb];exact h2) (by simp[Xu];omega),Xd,show(Yw (Yw d a d[p]!) p d[a]!)=Go.Sort.swp d a p from rfl];rw[show Zw .i64 ((a:Int)+1)=((a+1:Nat):Int) from(Kerb.gf (by omega) (by omega)).trans (by omega),show Zw .i64 ((b:Int)-1)=((b-1:Nat):Int) from(Kerb.gf (by omega) (by omega)).trans (by omega)];generalize Go.Sort.swp d a p=d1 at hs ⊢;rw[Kerb.I9 (by omega) (by omega) (by omega) (by omega)];dsimp only;have u:=Go.Sort.scanUp_spec (fun x=>Go.Sort.ltInt x d1[a]!) d1 (b-1) _ (a+1) rfl;generalize Go.Sort.scanUp (fun x=>Go.Sort.ltInt x d1[a]!) d1 (b-1) (a+1)=i2 at u ⊢;simp only[↓bD,↓bS,↓cK,↓cP,↓jx];rw[ah (Yn _)];rw[Kerb.Bn (by omega) (by omega) (by omega) (by omega)];dsimp only;have v:=Go.Sort.scanDown_spec (fun x => !Go.Sort.ltInt x d1[a]!) d1 i2 (b-1);generalize Go.Sort.scanDown (fun x => !Go.Sort.ltInt x d1[a]!) d1 i2 (b-1)=j2 at v ⊢;simp only[↓bD,↓bS,↓cK,↓cP,↓jx];rw[ah (Yn _)];have w2:=u.2.1 (by omega);have v1:=v.1;have v2:=v.2.1 (by omega);have u1:=u.1;by_cases hc:i2>j2
 ·have h3:j2<d1.size:=by omega
  have h4:a<d1.size:=by omega
  rw[ah (by simp;omega)];rw[Xx h4,Xx h3,Xp h3 (by simp[Xu];omega),Xd,Xp (by rw[Yb];exact h4) (by simp[Xu];omega),Xd,show(Yw (Yw d1 j2 d1[a]!) a d1[j2]!)=Go.Sort.swp d1 j2 a from rfl];rw[Qa1 hc]
 have h3:i2<d1.size:=by omega
 have h4:j2<d1.size:=by omega
 rw[aj (by simp;omega),Qa0 hc];rw[Xx h4,Xx h3,Xp h3 (by simp[Xu];omega),Xd,Xp (by rw[Yb];exact h4) (by simp[Xu];omega),Xd,show(Yw (Yw d1 i2 d1[j2]!) j2 d1[i2]!)=Go.Sort.swp d1 i2 j2 from rfl];rw[show Zw .i64 ((i2:Int)+1)=((i2+1:Nat):Int) from(Kerb.gf (by omega) (by omega)).trans (by omega),show Zw .i64 ((j2:Int)-1)=((j2-1:Nat):Int) from(Kerb.gf (by omega) (by omega)).trans (by omega)];have fJ:(Go.Sort.swp d1 i2 j2).size=d.size:=by rw[Xq,hs]
 generalize Go.Sort.swp d1 i2 j2=d2 at fJ ⊢;refine b_ (fun s:Array Int×Nat×Nat=>[Yq (Xn s.1),Zz .i64 (a:Int),Zz .i64 (s.2.1:Int),Zz .i64 (s.2.2:Int)]) (fun s=>s.1.size=d.size/\1<=s.2.1/\s.2.1<=s.2.2+2/\s.2.2<d.size/\Go.Sort.partLoop Go.Sort.ltInt a s.2.1 s.2.2 s.1=Go.Sort.partLoop Go.Sort.ltInt a (i2+1) (j2-1) d2) (fun s=>s.2.2+1-s.2.1) (fun r=>∃ n,r=(.exit 4,[Yq (Xn (Go.Sort.partLoop Go.Sort.ltInt a (i2+1) (j2-1) d2).2),Zz .i64 (a:Int),Zz .i64 n,Zz .i64 ((Go.Sort.partLoop Go.Sort.ltInt a (i2+1) (j2-1) d2).1:Int)])/\(Go.Sort.partLoop Go.Sort.ltInt a (i2+1) (j2-1) d2).1<d.size/\(Go.Sort.partLoop Go.Sort.ltInt a (i2+1) (j2-1) d2).2.size=d.size) (d2,i2+1,j2-1) ⟨fJ,by dsimp only;omega,by dsimp only;omega,by dsimp only;omega,rfl⟩ rfl ?_ ?_
 ·rintro⟨e,i,j⟩ ⟨hs,hi,OL,hj,hr⟩;dsimp only at hs hi OL hj hr ⊢;simp only[↓bD,↓bS,↓cK,↓cP];rw[Kerb.I9 (by omega) (by omega) (by omega) (by omega)];dsimp only;have u:=Go.Sort.scanUp_spec (fun x=>Go.Sort.ltInt x e[a]!) e j _ i rfl;have v:=Go.Sort.scanDown_spec (fun x => !Go.Sort.ltInt x e[a]!) e (Go.Sort.scanUp (fun x=>Go.Sort.ltInt x e[a]!) e j i) j;rw[Go.Sort.partLoop_eq] at hr;have Y3:j+1<i->Go.Sort.scanUp (fun x=>Go.Sort.ltInt x e[a]!) e j i=i:=fun h=>by
   unfold Go.Sort.scanUp;rw[Qa0 (by simp;omega)]
  generalize Go.Sort.scanUp (fun x=>Go.Sort.ltInt x e[a]!) e j i=i3 at u v hr Y3 ⊢;simp only[↓bD,↓bS,↓cK,↓cP,↓jx];rw[ah (Yn _)];have u1:=u.1;have u2:=u.2.1;rw[Kerb.Bn (by omega) (by omega) (by omega) (by omega)];dsimp only;generalize Go.Sort.scanDown (fun x => !Go.Sort.ltInt x e[a]!) e i3 j=j3 at v hr ⊢;simp only[↓bD,↓bS,↓cK,↓cP,↓jx];rw[ah (Yn _)];have v1:=v.1;have v2:=v.2.1;by_cases hc:i3>j3
  ·rw[Qa1 hc] at hr;rw[ah (by simp;omega)];refine⟨_,rfl,(i3:Int),?_,?_,?_⟩
   ·rw[<-hr]
   ·rw[<-hr];dsimp only;omega
   ·rw[<-hr];exact hs
  ·rw[Qa0 hc] at hr;have h3:i3<e.size:=by omega
   have h4:j3<e.size:=by omega
   rw[aj (by simp;omega)];rw[Xx h4,Xx h3,Xp h3 (by simp[Xu];omega),Xd,Xp (by rw[Yb];exact h4) (by simp[Xu];omega),Xd,show(Yw (Yw e i3 e[j3]!) j3 e[i3]!)=Go.Sort.swp e i3 j3 from rfl];rw[show Zw .i64 ((i3:Int)+1)=((i3+1:Nat):Int) from(Kerb.gf (by omega) (by omega)).trans (by omega),show Zw .i64 ((j3:Int)-1)=((j3-1:Nat):Int) from(Kerb.gf (by omega) (by omega)).trans (by omega)];exact⟨_,rfl,(Go.Sort.swp e i3 j3,i3+1,j3-1),rfl,⟨by dsimp only;rw[Xq,hs],by dsimp only;omega,by dsimp only;omega,by dsimp only;omega,hr⟩,by dsimp only;omega⟩
 ·rintro _ ⟨n,rfl,hn,hz⟩;generalize Go.Sort.partLoop Go.Sort.ltInt a (i2+1) (j2-1) d2=q at hn hz ⊢;obtain⟨j4,e⟩:=q;dsimp only at hn hz ⊢;have h3:j4<e.size:=by omega
  have h4:a<e.size:=by omega
  simp only[↓bD,↓bS,↓cK,↓cP,↓jx];rw[ah (Yn _)];rw[Xx h4,Xx h3,Xp h3 (by simp[Xu];omega),Xd,Xp (by rw[Yb];exact h4) (by simp[Xu];omega),Xd,show(Yw (Yw e j4 e[a]!) a e[j4]!)=Go.Sort.swp e j4 a from rfl]
theorem abZ:Wk 274 3 N4:=by
 refine cA Tryz.func274 rfl fun xs bl r h=> ?_;unfold N4 at h;split at h;case h_2=>cases h
 rename_i s c;cases h;refine cw (Zm (Zz .i64 (Kerb.indexOf c s),[])) (by kernel_rfl) ?_;rfl
theorem ab0:Wk 275 3 Ce:=by
 refine cA Tryz.func275 rfl fun xs bl r h=> ?_;unfold Ce at h;split at h;case h_2=>cases h
 rename_i lo hi first els
 obtain⟨aB,rfl⟩:=dA h;show ea (G.env 275 3) G.rts (G.own 275) Tryz.f275 _ _ [0]=_;refine cw (Zv (bw (fun st=>ay st fun x r=>Xj x fun y=>ak .i64 r fun n r=>ak .i64 r fun bn r=>ak .i64 r fun bT r=>let t1:Bool:=Zu (0<=Zw .i64 (bn+bT))&&Zu (Zw .i64 (bn+bT)<(↑(Zy y):Int))&&Zb;let t5:AV:=Zf y (Zx (Zw .i64 (bn+bT))) Zn;let t7:Int:=Zw .i64 (Zw .i64 (2*bT)+1);let t10:Bool:=Zg (Zx (Zw .i64 (bn+bT))) (Zy y);let t11:List AV:=[Yq y,Zz .i64 n,Zz .i64 bn,Zz .i64 bT];let t3:Int:=Zw .i64 (bn+t7);let t4:Bool:=t10&&Zb;let t6:Int:=Zw .i64 (t7+1);let t9:Option (List AV ⊕ Ex×List AV):=Zm (Yf (Ex.ret,t11));let t2:Int:=Zw .i64 (bn+t6);let t8:Bool:=Zu (0<=t3)&&Zu (t3<(↑(Zy y):Int))&&Zb;let t0:Option (List AV ⊕ Ex×List AV):=az t1 (az t4 (Yy .u64 t5 fun eO=>az t8 (az (Zg (Zx t3) (Zy y)&&Zb) (Yy .u64 (Zf y (Zx t3) Zn) fun bZ=>aD (!Zu (eO<bZ)) t9 (az t8 (az (Zg (Zx t3) (Zy y)&&Zb) (Yy .u64 (Zf y (Zx t3) Zn) fun bF=>az t1 (az t4 (Yy .u64 t5 fun fb=>az t1 (az t4 (Yy .u64 t5 fun eW=>az (Zy [Zz .u64 bF]==nat_lit 1&&Zb&&Zb&&Zb&&t10) (az (Zu (0<=t3)&&Zu (t3<(↑(Zy (Zh y (Zx (Zw .i64 (bn+bT))) (Zz .u64 bF))):Int))&&Zb) (az (Zg (Zx t3) (Zy (Zh y (Zx (Zw .i64 (bn+bT))) (Zz .u64 bF)))&&Zb) (Yy .u64 (Zf (Zh y (Zx (Zw .i64 (bn+bT))) (Zz .u64 bF)) (Zx t3) Zn) fun gM=>az (Zy [Zz .u64 fb]==nat_lit 1&&Zb&&Zb&&Zb&&Zg (Zx t3) (Zy (Zh y (Zx (Zw .i64 (bn+bT))) (Zz .u64 bF)))) (Zm (Xz [Yq (Zh (Zh y (Zx (Zw .i64 (bn+bT))) (Zz .u64 bF)) (Zx t3) (Zz .u64 fb)),Zz .i64 n,Zz .i64 bn,Zz .i64 t7]))))))))))))))));aw r (aD (Zu (t7>=n)) (Zm (Yf (Xw 0,t11))) (aD (Zu (t6<n)) (az t8 (az (Zg (Zx t3) (Zy y)&&Zb) (Yy .u64 (Zf y (Zx t3) Zn) fun eO=>az (Zu (0<=Zw .i64 (t3+1))&&Zu (Zw .i64 (t3+1)<(↑(Zy y):Int))&&Zb) (az (Zg (Zx (Zw .i64 (t3+1))) (Zy y)&&Zb) (Yy .u64 (Zf y (Zx (Zw .i64 (t3+1))) Zn) fun bZ=>aD (Zu (eO<bZ)) (az t1 (az t4 (Yy .u64 t5 fun bF=>az (Zu (0<=t2)&&Zu (t2<(↑(Zy y):Int))&&Zb) (az (Zg (Zx t2) (Zy y)&&Zb) (Yy .u64 (Zf y (Zx t2) Zn) fun fb=>aD (!Zu (bF<fb)) t9 (az (Zu (0<=t2)&&Zu (t2<(↑(Zy y):Int))&&Zb) (az (Zg (Zx t2) (Zy y)&&Zb) (Yy .u64 (Zf y (Zx t2) Zn) fun eW=>let t12:List AV:=Zh y (Zx (Zw .i64 (bn+bT))) (Zz .u64 eW);az t1 (az t4 (Yy .u64 t5 fun gM=>az t1 (az t4 (Yy .u64 t5 fun kH=>az (Zy [Zz .u64 eW]==nat_lit 1&&Zb&&Zb&&Zb&&t10) (az (Zu (0<=t2)&&Zu (t2<(↑(Zy t12):Int))&&Zb) (az (Zg (Zx t2) (Zy t12)&&Zb) (Yy .u64 (Zf t12 (Zx t2) Zn) fun lM=>az (Zy [Zz .u64 gM]==nat_lit 1&&Zb&&Zb&&Zb&&Zg (Zx t2) (Zy t12)) (Zm (Xz [Yq (Zh t12 (Zx t2) (Zz .u64 gM)),Zz .i64 n,Zz .i64 bn,Zz .i64 t6]))))))))))))))))) t0))))) t0))) [Yq els,Zz .i64 hi,Zz .i64 first,Zz .i64 lo]) fun(r:Ex×List AV)=>ay (Yv r) fun x eI=>Xj x fun y=>ak .i64 eI fun n eS=>ak .i64 eS fun n eZ=>ak .i64 eZ fun n f_=>aw f_ (jp r.1 (Zm (Yu [],[y])) fun(j:Nat)=>aD (Xk j 0) (Zm (Yu [],[y])) Wu)) (by kernel_rfl) ?_;try dsimp only[aK,bq,aE,cT,ak,ci,dx]
 simp only[Yp,Qa2] at aB;obtain⟨⟨⟨⟨⟨⟨fK,hlen⟩,YC⟩,Ya⟩,TL⟩,hfh⟩,YD⟩:=aB;obtain⟨d,rfl,hd⟩:=Kerb.lB fK;simp only[Xu] at hlen hfh YD;unfold Kerb.sift;rw[hd];obtain⟨lo,rfl⟩:=Yx YC;obtain⟨hi,rfl⟩:=Yx Ya;obtain⟨first,rfl⟩:=Yx TL;simp only[Xg];refine b_ (fun s:Array Int×Nat=>[Yq (Xn s.1),Zz .i64 (hi:Int),Zz .i64 (first:Int),Zz .i64 (s.2:Int)]) (fun s=>s.1.size=d.size/\s.2<=d.size/\Go.Sort.siftDown Go.Sort.ltInt hi first s.2 s.1=Go.Sort.siftDown Go.Sort.ltInt hi first lo d) (fun s=>hi-s.2) (fun r=>∃ n m k,(r.1 = .exit 0\/r.1 = .ret)/\r.2=[Yq (Xn (Go.Sort.siftDown Go.Sort.ltInt hi first lo d)),Zz .i64 n,Zz .i64 m,Zz .i64 k]) (d,lo) ⟨rfl,by dsimp only;omega,rfl⟩ rfl ?_ ?_
 ·rintro⟨e,root⟩ ⟨hs,hb,hr⟩;dsimp only at hs hb hr ⊢;simp only[↓bD,↓bS,↓cK,↓cP];simp only[show Zw .i64 ((2:Int)*(root:Int))=((2*root:Nat):Int) from(Kerb.gf (by omega) (by omega)).trans (by omega)];simp only[show Zw .i64 (((2*root:Nat):Int)+1)=((2*root+1:Nat):Int) from(Kerb.gf (by omega) (by omega)).trans (by omega)];simp only[show Zw .i64 (((2*root+1:Nat):Int)+1)=((2*root+1+1:Nat):Int) from(Kerb.gf (by omega) (by omega)).trans (by omega)];simp only[show Zw .i64 ((first:Int)+(root:Int))=((first+root:Nat):Int) from(Kerb.gf (by omega) (by omega)).trans (by omega)];simp only[show Zw .i64 ((first:Int)+((2*root+1:Nat):Int))=((first+(2*root+1):Nat):Int) from(Kerb.gf (by omega) (by omega)).trans (by omega)];simp only[show Zw .i64 ((first:Int)+((2*root+1+1:Nat):Int))=((first+(2*root+1+1):Nat):Int) from(Kerb.gf (by omega) (by omega)).trans (by omega)];simp only[show Zw .i64 (((first+(2*root+1):Nat):Int)+1)=((first+(2*root+1)+1:Nat):Int) from(Kerb.gf (by omega) (by omega)).trans (by omega)];by_cases hc:hi<=2*root+1
  ·rw[ah (by simp;omega)];refine⟨_,rfl,(hi:Int),(first:Int),(root:Int),.inl rfl,?_⟩;rw[<-hr];unfold Go.Sort.siftDown;rw[dif_pos hc]
  rw[aj (by simp;omega)];by_cases h2:2*root+1+1<hi
  ·have h3:first+(2*root+1)<e.size:=by omega
   have h4:first+(2*root+1)+1<e.size:=by omega
   rw[ah (by simp;omega),Xx h3,Xx h4];by_cases h5:e[first+(2*root+1)]! < e[first+(2*root+1)+1]!
   ·rw[ah (by simpa using h5)];have hq:first+(2*root+1+1)<e.size:=by omega
    have hp:first+root<e.size:=by omega
    rw[Xx hp,Xx hq];by_cases hl:e[first+root]! < e[first+(2*root+1+1)]!;case neg =>
     rw[ah (by simpa using hl)];refine⟨_,rfl,(hi:Int),(first:Int),(root:Int),.inr rfl,?_⟩;rw[<-hr];unfold Go.Sort.siftDown;rw[dif_neg (by omega),Qa1 (by simp[Go.Sort.ltInt,h5];omega),Qa1 (by simp[Go.Sort.ltInt,hl])]
    rw[aj (by simpa using hl),Kerb.sw hp hq (fun l=>Zm (Xz [Yq l,Zz .i64 (hi:Int),Zz .i64 (first:Int),Zz .i64 (((2*root+1+1):Nat):Int)]))];refine⟨_,rfl,(Go.Sort.swp e (first+root) (first+(2*root+1+1)),(2*root+1+1)),rfl,⟨by dsimp only;rw[Xq,hs],by dsimp only;omega,?_⟩,by dsimp only;omega⟩;dsimp only;rw[<-hr];conv=>rhs;unfold Go.Sort.siftDown
    rw[dif_neg (by omega),Qa1 (by simp[Go.Sort.ltInt,h5];omega),Qa0 (by simp[Go.Sort.ltInt,hl]),dif_pos (by omega)]
   ·rw[aj (by simpa using h5)];have hq:first+(2*root+1)<e.size:=by omega
    have hp:first+root<e.size:=by omega
    rw[Xx hp,Xx hq];by_cases hl:e[first+root]! < e[first+(2*root+1)]!;case neg =>
     rw[ah (by simpa using hl)];refine⟨_,rfl,(hi:Int),(first:Int),(root:Int),.inr rfl,?_⟩;rw[<-hr];unfold Go.Sort.siftDown;rw[dif_neg (by omega),Qa0 (by simp[Go.Sort.ltInt,h5]),Qa1 (by simp[Go.Sort.ltInt,hl])]
    rw[aj (by simpa using hl),Kerb.sw hp hq (fun l=>Zm (Xz [Yq l,Zz .i64 (hi:Int),Zz .i64 (first:Int),Zz .i64 (((2*root+1):Nat):Int)]))];refine⟨_,rfl,(Go.Sort.swp e (first+root) (first+(2*root+1)),(2*root+1)),rfl,⟨by dsimp only;rw[Xq,hs],by dsimp only;omega,?_⟩,by dsimp only;omega⟩;dsimp only;rw[<-hr];conv=>rhs;unfold Go.Sort.siftDown
    rw[dif_neg (by omega),Qa0 (by simp[Go.Sort.ltInt,h5]),Qa0 (by simp[Go.Sort.ltInt,hl])]
  ·rw[aj (by simp;omega)];have hq:first+(2*root+1)<e.size:=by omega
   have hp:first+root<e.size:=by omega
   rw[Xx hp,Xx hq];by_cases hl:e[first+root]! < e[first+(2*root+1)]!;case neg =>
    rw[ah (by simpa using hl)];refine⟨_,rfl,(hi:Int),(first:Int),(root:Int),.inr rfl,?_⟩;rw[<-hr];unfold Go.Sort.siftDown;rw[dif_neg (by omega),Qa0 (by simp;omega),Qa1 (by simp[Go.Sort.ltInt,hl])]
   rw[aj (by simpa using hl),Kerb.sw hp hq (fun l=>Zm (Xz [Yq l,Zz .i64 (hi:Int),Zz .i64 (first:Int),Zz .i64 (((2*root+1):Nat):Int)]))];refine⟨_,rfl,(Go.Sort.swp e (first+root) (first+(2*root+1)),(2*root+1)),rfl,⟨by dsimp only;rw[Xq,hs],by dsimp only;omega,?_⟩,by dsimp only;omega⟩;dsimp only;rw[<-hr];conv=>rhs;unfold Go.Sort.siftDown
   rw[dif_neg (by omega),Qa0 (by simp;omega),Qa0 (by simp[Go.Sort.ltInt,hl])]
 ·rintro⟨e,l⟩ ⟨n,m,k,h1 | h1,rfl⟩
  ·dsimp only at h1;subst h1;simp only[↓bD,↓bS,↓cK,↓cP,↓jx];rw[ah (Yn _)]
  ·dsimp only at h1;subst h1;simp only[↓bD,↓bS,↓cK,↓cP,↓PK]
theorem ab1:Wk 276 3 GA:=by
 refine cA Tryz.func276 rfl fun xs bl r h=> ?_;unfold GA at h;split at h;case h_2=>cases h
 rename_i n;obtain⟨aB,rfl⟩:=dA h;refine cw (Zv (Ak [Zz .u64 (Zw .u64 n)] []) (kI .i64 fun n=>az (Zu (0<=n)) (Zm (Zz .u64 (Zw .u64 (1*2 ^ min (Zx n) (IntKind.bits .u64))),[])))) (by kernel_rfl) ?_;delta kI;dsimp only[Ak,aK,bq,aE,cT,ak,ci,dx];simp only[Yp,Qa2] at aB;obtain⟨h0,h1⟩:=aB;obtain⟨n,rfl⟩:=Yx h0;rw[Kerb.KT (n:=(n:Int)) (by omega) (by omega),ae (by rw[Kerb.Dm];simp;omega)];simp only[↓fe,↓eb,↓bD,↓fP,↓jw,↓cK,↓cP,↓c8];rw[Kerb.zo,ae (by simp)];exact Qb3 (fun z=>Zm (Zz .u64 z,[])) (Kerb.J_ (by omega))
theorem ab7:Wk 282 3 An:=by
 refine cA Tryz.func282 rfl fun xs bl r h=> ?_;unfold An at h;split at h;case h_2=>cases h
 rename_i a b els s;obtain⟨aB,rfl⟩:=dA h;show ea (G.env 282 3) G.rts (G.own 282) Tryz.f282 _ _ [0,3]=_;refine cw (az (Zu (0<=b)&&Zu (b<(↑(Zy els):Int))&&Zb) (az (Zg (Zx b) (Zy els)&&Zb) (Yy .u64 (Zf els (Zx b) Zn) fun n=>az (Zu (0<=a)&&Zu (a<(↑(Zy els):Int))&&Zb) (az (Zg (Zx a) (Zy els)&&Zb) (Yy .u64 (Zf els (Zx a) Zn) fun bn=>aD (Zu (n<bn)) (Zm (Yu [Zz .i64 b,Zz .i64 a],[els,[Zz .i64 (Zw .i64 (s+1))]])) (Zm (Yu [Zz .i64 a,Zz .i64 b],[els,[Zz .i64 s]]))))))) (by kernel_rfl) ?_;simp only[Yp,Qa2] at aB;obtain⟨⟨⟨⟨⟨⟨⟨fK,hlen⟩,GL⟩,Ra⟩,x4⟩,xo⟩,AF⟩,jF⟩:=aB;obtain⟨d,rfl,hd⟩:=Kerb.lB fK;simp only[Xu] at *;obtain⟨a,rfl⟩:=Yx GL;obtain⟨b,rfl⟩:=Yx x4;obtain⟨s,rfl⟩:=Yx AF;have ha:a<d.size:=by omega
 have hb:b<d.size:=by omega
 simp only[Xg];rw[ae (by simp;omega),ae (by simp;omega),Kerb.nI hb,cK,ae (by simp;omega),ae (by simp;omega),Kerb.nI ha,cK];unfold Kerb.order2 Go.Sort.order2 Go.Sort.ltInt;rw[hd];simp only[Xg];by_cases h:d[b]! < d[a]!
 ·rw[ah (by simpa using h),Qa1 (by simpa using h),Kerb.gf (by omega) (by omega)];rfl
 ·rw[aj (by simpa using h),Qa0 (by simpa using h)]
theorem w22:Wk 22 4 H3:=by
 refine cA Tryz.func22 rfl fun xs bl r h=> ?_;unfold H3 at h;split at h;case h_2=>cases h
 rename_i l;obtain⟨aB,rfl⟩:=dA h
 refine cw (Zv (az (Zu (Zy l<=4611686018427387904)&&Zb) (Zm (Zz .i64 (Yg l 0 2),[[Zk l,Zz .i64 (Xb l 0 2)]]))) fun(r:AV×aC)=>aL (Yv r) fun(x:List AV) (eI:List (List AV))=>bq x fun b eS=>ak .i64 eS fun n eZ=>aw eZ (aM eI (Yy .i64 (Ym r) fun bn=>Zv (az (Zu (Zy b<=4611686018427387904)&&Zu (0<=n)) (Zm (Zz .i64 (Yg b n 9),[[Zk b,Zz .i64 (Xb b n 9)]]))) fun(r:AV×aC)=>aL (Yv r) fun(x:List AV) (f_:List (List AV))=>bq x fun b iq=>ak .i64 iq fun n ju=>aw ju (aM f_ (Yy .i64 (Ym r) fun bT=>Zv (az (Zu (0<=bT)&&Zu (bT<=4611686018427387904)) (Zm (Xv [Zq (Kerb.aZ.name (Kerb.user bT)),Zq (Kerb.aZ.inst (Kerb.user bT)),Zq (Kerb.aZ.aJ (Kerb.user bT))],[]))) (kA fun cs=>aK cs fun cL r=>aK r fun eP r=>aK r fun eX r=>aw r (Zv (az (Zu (Zy b<=4611686018427387904)&&Zu (0<=n)) (Zm (Zz .i64 (Yg b n 9),[[Zk b,Zz .i64 (Xb b n 9)]]))) fun(r:AV×aC)=>aL (Yv r) fun(x:List AV) (lE:List (List AV))=>bq x fun b mT=>ak .i64 mT fun n mg=>aw mg (aM lE (Yy .i64 (Ym r) fun eO=>Zv (az (Zu (0<=eO)&&Zu (eO<=1000)) (Zm (Zz .u64 (Kerb.aG eO),[]))) (kI .u64 fun bZ=>Zv (az (Zu (Zy b<=4611686018427387904)&&Zu (0<=n)) (Zm (Zz .i64 (Yg b n 256),[[Zk b,Zz .i64 (Xb b n 256)]]))) fun(r:AV×aC)=>aL (Yv r) fun(x:List AV) (fZ:List (List AV))=>bq x fun b gS=>ak .i64 gS fun n gT=>aw gT (aM fZ (Yy .i64 (Ym r) fun bF=>Zv (az (Zu (Zy b<=4611686018427387904)&&Zu (0<=n)) (Zm (Zz .i64 (Yg b n 200),[[Zk b,Zz .i64 (Xb b n 200)]]))) fun(r:AV×aC)=>aL (Yv r) fun(x:List AV) (jC:List (List AV))=>bq x fun b kf=>ak .i64 kf fun n kg=>aw kg (aM jC (Yy .i64 (Ym r) fun fb=>Zv (az (Zu (Zy b<=4611686018427387904)&&Zu (0<=n)) (Zm (Zz .i64 (Yg b n 256),[[Zk b,Zz .i64 (Xb b n 256)]]))) fun(r:AV×aC)=>aL (Yv r) fun(x:List AV) (lD:List (List AV))=>bq x fun b rU=>ak .i64 rU fun n rV=>aw rV (aM lD (Yy .i64 (Ym r) fun eW=>Zv (az (Zu (Zy b<=4611686018427387904)&&Zu (0<=n)) (Zm (Zz .i64 (Yg b n 256),[[Zk b,Zz .i64 (Xb b n 256)]]))) fun(r:AV×aC)=>aL (Yv r) fun(x:List AV) (rW:List (List AV))=>bq x fun b rX=>ak .i64 rX fun n uo=>aw uo (aM rW (Yy .i64 (Ym r) fun gM=>Zv (az (Zu (Zy b<=4611686018427387904)&&Zu (0<=n)) (Zm (Zz .i64 (Yg b n 9),[[Zk b,Zz .i64 (Xb b n 9)]]))) fun(r:AV×aC)=>aL (Yv r) fun(x:List AV) (uq:List (List AV))=>bq x fun b ur=>ak .i64 ur fun n w4=>aw w4 (aM uq (Yy .i64 (Ym r) fun kH=>Zv (az (Zu (0<=kH)&&Zu (kH<=4611686018427387904)) (Zm (Xv [Zq (Kerb.aZ.name (Kerb.service kH)),Zq (Kerb.aZ.inst (Kerb.service kH)),Zq (Kerb.aZ.aJ (Kerb.service kH))],[]))) (kA fun cs=>aK cs fun g7 r=>aK r fun gZ r=>aK r fun iz r=>aw r (Zv (az (Zu (Zy b<=4611686018427387904)&&Zu (0<=n)) (Zm (Zz .i64 (Yg b n 7),[[Zk b,Zz .i64 (Xb b n 7)]]))) fun(r:AV×aC)=>aL (Yv r) fun(x:List AV) (Dq:List (List AV))=>bq x fun b Dr=>ak .i64 Dr fun n Ds=>aw Ds (aM Dq (Yy .i64 (Ym r) fun lM=>aD (lM==6) (Zv (az (Zu (Zy b<=4611686018427387904)&&Zu (0<=n)) (Zm (Zz .i64 (Yg b n 3),[[Zk b,Zz .i64 (Xb b n 3)]]))) fun(r:AV×aC)=>aL (Yv r) fun(x:List AV) (Dt:List (List AV))=>bq x fun b Du=>ak .i64 Du fun n Dv=>aw Dv (aM Dt (Yy .i64 (Ym r) fun gu=>Zv (az (Zu (Zy b<=4611686018427387904)&&Zu (0<=n)) (Zm (Zz .i64 (Yg b n 3),[[Zk b,Zz .i64 (Xb b n 3)]]))) fun(r:AV×aC)=>aL (Yv r) fun(x:List AV) (Dw:List (List AV))=>bq x fun b Dx=>ak .i64 Dx fun n Dy=>aw Dy (aM Dw (Yy .i64 (Ym r) fun iM=>Zv (az (Zu (Zy b<=4611686018427387904)&&Zu (0<=n)) (Zm (Zz .i64 (Yg b n 9),[[Zk b,Zz .i64 (Xb b n 9)]]))) fun(r:AV×aC)=>aL (Yv r) fun(x:List AV) (HK:List (List AV))=>bq x fun b HL=>ak .i64 HL fun n HM=>aw HM (aM HK (Yy .i64 (Ym r) fun fL=>aD (fL==8) (Zv (az (Zu (Zy b<=4611686018427387904)&&Zu (0<=n)) (Zm (Zz .i64 (Yg b n 2),[[Zk b,Zz .i64 (Xb b n 2)]]))) fun(r:AV×aC)=>aL (Yv r) fun(x:List AV) (R6:List (List AV))=>bq x fun b R7=>ak .i64 R7 fun n R8=>aw R8 (aM R6 (Yy .i64 (Ym r) fun n=>Zv (az (Zu (0<=n)&&Zu (n<=1)) (Zm (Xv [Zq (Kerb.aZ.name (Wz n)),Zq (Kerb.aZ.inst (Wz n)),Zq (Kerb.aZ.aJ (Wz n))],[]))) (kA fun cs=>aK cs fun b r=>aK r fun jl r=>aK r fun mH r=>aw r (Zm (Xv [Zd (bn==1),Zq b,Zq jl,Zq mH,Zz .i64 (Zw .i64 (4294967295-gu)),Zz .u64 bZ,Zz .i64 bF,Zz .i64 (Zw .i64 (4294967295-iM)),Zq (Kerb.aZ.name (Wz 0)),Zq (Kerb.aZ.inst (Wz 0))],[])))))) (Zm (Xv [Zd (bn==1),Zq cL,Zq eP,Zq eX,Zz .i64 (Zw .i64 (4294967295-gu)),Zz .u64 bZ,Zz .i64 bF,Zz .i64 (Zw .i64 (4294967295-iM)),Zq g7,Zq gZ],[]))))))))) (Zv (az (Zu (Zy b<=4611686018427387904)&&Zu (0<=n)) (Zm (Zz .i64 (Yg b n 9),[[Zk b,Zz .i64 (Xb b n 9)]]))) fun(r:AV×aC)=>aL (Yv r) fun(x:List AV) (Dt:List (List AV))=>bq x fun b Du=>ak .i64 Du fun n Dv=>aw Dv (aM Dt (Yy .i64 (Ym r) fun gu=>aD (gu==8) (Zv (az (Zu (Zy b<=4611686018427387904)&&Zu (0<=n)) (Zm (Zz .i64 (Yg b n 2),[[Zk b,Zz .i64 (Xb b n 2)]]))) fun(r:AV×aC)=>aL (Yv r) fun(x:List AV) (Dw:List (List AV))=>bq x fun b Dx=>ak .i64 Dx fun n Dy=>aw Dy (aM Dw (Yy .i64 (Ym r) fun n=>Zv (az (Zu (0<=n)&&Zu (n<=1)) (Zm (Xv [Zq (Kerb.aZ.name (Wz n)),Zq (Kerb.aZ.inst (Wz n)),Zq (Kerb.aZ.aJ (Wz n))],[]))) (kA fun cs=>aK cs fun b r=>aK r fun jl r=>aK r fun mH r=>aw r (Zm (Xv [Zd (bn==1),Zq b,Zq jl,Zq mH,Zz .i64 fb,Zz .u64 bZ,Zz .i64 bF,Zz .i64 (Zw .i64 (Zw .i64 (eW*150)+gM)),Zq (Kerb.aZ.name (Wz 0)),Zq (Kerb.aZ.inst (Wz 0))],[])))))) (Zm (Xv [Zd (bn==1),Zq cL,Zq eP,Zq eX,Zz .i64 fb,Zz .u64 bZ,Zz .i64 bF,Zz .i64 (Zw .i64 (Zw .i64 (eW*150)+gM)),Zq g7,Zq gZ],[]))))))))))))))))))))))))))))) (by kernel_rfl) ?_
 delta kA kI;dsimp only[aK,bq,ak];simp only[A0,aB,Kerb.Fq,Kerb.Fs,Kerb.zB,Kerb.Dg,Kerb.J9,Bool.and_true,Wx];refine xc (fun h6=> ?_) (fun h6=> ?_)
 ·refine xc (fun h8=> ?_) (fun h8=> ?_)
  ·have e6:(Yg l (Kerb.Qy l) 7==6)=Zb:=h6;have eq:Wy l=Kerb.SF l:=by unfold Wy;rw[e6];rfl
   have e8:(Yg l (Wy l) 9==8)=Zb:=by rw[eq];exact h8
   unfold Kerb.aN;rw[e6,e8,eq];rfl
  ·have e6:(Yg l (Kerb.Qy l) 7==6)=Zb:=h6;have eq:Wy l=Kerb.SF l:=by unfold Wy;rw[e6];rfl
   have e8:(Yg l (Wy l) 9==8)=Yd:=by rw[eq];exact h8
   unfold Kerb.aN;rw[e6,e8];rfl
 ·refine xc (fun h8=> ?_) (fun h8=> ?_)
  ·have e6:(Yg l (Kerb.Qy l) 7==6)=Yd:=h6;have eq:Wy l=Kerb.VL l:=by unfold Wy;rw[e6];rfl
   have e8:(Yg l (Wy l) 9==8)=Zb:=by rw[eq];exact h8
   unfold Kerb.aN;rw[e6,e8,eq];rfl
  ·have e6:(Yg l (Kerb.Qy l) 7==6)=Yd:=h6;have eq:Wy l=Kerb.VL l:=by unfold Wy;rw[e6];rfl
   have e8:(Yg l (Wy l) 9==8)=Yd:=by rw[eq];exact h8
   unfold Kerb.aN;rw[e6,e8];rfl
theorem w37:Wk 37 4 N9:=by
 refine cA Tryz.func37 rfl fun xs bl r h=> ?_;unfold N9 at h;split at h;case h_2=>cases h
 rename_i li x y z t ex kv sd;obtain⟨aB,rfl⟩:=dA h;refine cw (Zv (ji [Xv [Zq x,Zq y,Zq z]] []) (kL fun b=>aD (!b) (Zm (Yu [Zk [],Zz .i64 103],[])) (aD (!Zj t 4294967295) (Zm (Yu [Zk [],Zz .i64 104],[])) (aD (!Zj ex 4294967295) (Zm (Yu [Zk [],Zz .i64 104],[])) (aD (!Zj kv 255) (Zm (Yu [Zk [],Zz .i64 104],[])) (aD (Zu ((↑(Zy sd):Int)>1012)) (Zm (Yu [Zk [],Zz .i64 105],[])) (Zv (iP [Zk (Wv 2 li),Xv [Zq x,Zq y,Zq z]] []) (kO fun l=>Zv (ew [Zk l,Zz .i64 t,Zd li] []) (kO fun l=>Zv (hX [Zk l,Zz .i64 1] []) (kO fun l=>Zv (ew [Zk l,Zz .i64 ex,Zd li] []) (kO fun l=>Zv (hX [Zk l,Zz .i64 kv] []) (kO fun l=>Zv (kC [Zk l,Zz .i64 (↑(Zy sd):Int),Zd li] []) (kO fun l=>az (room (Zy l+Zy sd) 1) (Zm (Yu [Zk (l++sd),Zz .i64 0],[]))))))))))))))) (by kernel_rfl) ?_;delta kO kL;dsimp only[hX,ji,iP,ew,kC,aK,bq,aE,cT,ak,ci,dx];simp only[Yp,Qa2] at aB;obtain⟨⟨q1,q2⟩,q3⟩:=aB;simp only[A0];unfold Kerb.dU;rw[ae (by simp[q1,q2,q3])];cases h1:Kerb.aZ.valid ⟨x,y,z⟩
 ·rfl
 rw[Zp,aA];cases h4:Zj t 4294967295
 ·rfl
 rw[Zp,aA];cases h5:Zj ex 4294967295
 ·rfl
 rw[Zp,aA];cases h6:Zj kv 255
 ·rfl
 rw[Zp,aA];by_cases h7:1012<sd.length
 ·rw[ah (by simp;omega),Qa0 (by simp),Qa0 (by simp),Qa1 h7]
 have l1:=Kerb.ch h1;have l4:=Kerb.jd 2 li;simp only at l1;rw[aj (by simp;omega),Qa0 (by simp),Qa0 (by simp),Qa0 h7];rw[ae (by simp;omega),ae (by simp[Yj];omega),ae (by simp[Yj,Yz];omega),ae (by simp[Yj,Yz];omega),ae (by simp[Yj,Yz];omega),ae (by simp[Yj,Yz];omega),ae (Xh (by simp[Yj,Yz];omega))]
theorem w39:Wk 39 4 Sm:=by
 refine cA Tryz.func39 rfl fun xs bl r h=> ?_;unfold Sm at h;split at h;case h_2=>cases h
 rename_i li mu kv rl tk au tm lf sv ins;obtain⟨aB,rfl⟩:=dA h;refine cw (aD mu (Zm (Yu [Zk [],Zz .i64 100],[])) (Zv (NV [Xv [Zd li,Zd mu,Zz .i64 kv,Zq rl,Zk tk,Zk au]] []) (kT fun vs=>bq vs fun b r=>ak .i64 r fun n r=>aw r (aD (!n==0) (Zm (Yu [Zk [],Zz .i64 n],[])) (Zv (sr [Zq sv] []) (kL fun cL=>aD (!cL) (Zm (Yu [Zk [],Zz .i64 103],[])) (Zv (ss [Zq ins] []) (kL fun eP=>aD (!eP) (Zm (Yu [Zk [],Zz .i64 103],[])) (aD (!Zj tm 4294967295) (Zm (Yu [Zk [],Zz .i64 104],[])) (aD (!Zj lf 255) (Zm (Yu [Zk [],Zz .i64 104],[])) (Zv (ew [Zk b,Zz .i64 tm,Zd li] []) (kO fun l=>Zv (hX [Zk l,Zz .i64 lf] []) (kO fun l=>Zv (oa [Zk l,Zq sv] []) (kO fun l=>Zv (oa [Zk l,Zq ins] []) (kO fun l=>Zm (Yu [Zk l,Zz .i64 0],[])))))))))))))))) (by kernel_rfl) ?_;delta kT kO kL;dsimp only[NV,hX,oa,ew,sr,ss,aK,bq,aE,cT,ak,ci,dx];simp only[Yp,Qa2] at aB;obtain⟨⟨p1,p2⟩,p3⟩:=aB;simp only[A0,Yh,Xy,Kerb.eD.av,p1,p2,p3,Qb2];have hL:∀ q,Kerb.cH ⟨li,mu,kv,rl,tk,au⟩=q->Kerb.dN ⟨⟨li,mu,kv,rl,tk,au⟩,tm,lf,sv,ins⟩=if mu then⟨[],100⟩ else if q.err≠0 then⟨[],q.err⟩ else if !(Kerb.validName sv&&Kerb.bO ins) then⟨[],103⟩ else if !(Zj tm 4294967295&&Zj lf 255) then⟨[],104⟩ else⟨Kerb.bg (Kerb.bg (q.val++Kerb.aS tm 4 li++Kerb.aS lf 1 Yd) sv) ins,0⟩:=by rintro _ rfl;rfl
 have hl:=Kerb.ve ⟨li,mu,kv,rl,tk,au⟩;obtain⟨q,hq⟩:∃ q,Kerb.cH ⟨li,mu,kv,rl,tk,au⟩=q:=⟨_,rfl⟩;rw[hL q hq,hq];rw[hq] at hl;cases mu;case true=>rfl
 rw[aA,Qa0 (by simp)];by_cases h1:q.err=0;case neg=>rw[ah (by simpa using h1),Qa1 h1]
 rw[aj (by simpa using h1),Qa0 (by simpa using h1)];cases h2:Kerb.validName sv
 ·rfl
 cases h3:Kerb.bO ins
 ·rfl
 cases Zj tm 4294967295
 ·rfl
 cases Zj lf 255
 ·rfl
 have l2:=Kerb.iK h2;have l3:=Kerb.gW h3;simp only[Zp,aA,Ww,Bool.false_eq_true,if_false];rw[ae (by simp;omega),ae (by simp[Yz];omega),ae (by simp[Yz];omega),ae (by simp[Yz,Kerb.bH];omega)]
theorem w41:Wk 41 4 So:=by
 refine cA Tryz.func41 rfl fun xs bl r h=> ?_;unfold So at h;split at h;case h_2=>cases h
 rename_i op ux uy uz kv rl tk sv ins bx;obtain⟨aB,rfl⟩:=dA h
 refine cw (Zv (aD (!(op==1||op==3)) (Zm [Zz .i64 op,Zq ux,Zq uy,Zq uz,Zz .i64 kv,Zq rl,Zk tk,Zq sv,Zq ins,Zk bx,Zd !op==2,Zz .i64 0]) (Zm [Zz .i64 op,Zq ux,Zq uy,Zq uz,Zz .i64 kv,Zq rl,Zk tk,Zq sv,Zq ins,Zk bx,Zd Yd,Zz .i64 0])) fun l=>ak .i64 l fun n r=>aK r fun b r=>aK r fun cL r=>aK r fun eP r=>ak .i64 r fun bn r=>aK r fun eX r=>bq r fun g7 r=>aK r fun gZ r=>aK r fun iz r=>bq r fun jl r=>aE r fun mH r=>ak .i64 r fun bT r=>let t1:Option (List AV):=Zm [Zz .i64 n,Zq b,Zq cL,Zq eP,Zz .i64 bn,Zq eX,Zk g7,Zq gZ,Zq iz,Zk jl,Zd Zb,Zz .i64 bT];let t0:Option (List AV):=aD (!(n==1||n==3)) (Zv (DK [Zq eX] []) (kL fun n8=>aD (!n8) t1 (Zv (sr [Zq gZ] []) (kL fun hZ=>aD (!hZ) t1 (Zv (ss [Zq iz] []) (kL fun jI=>Zm [Zz .i64 n,Zq b,Zq cL,Zq eP,Zz .i64 bn,Zq eX,Zk g7,Zq gZ,Zq iz,Zk jl,Zd !jI,Zz .i64 bT])))))) (Zm [Zz .i64 n,Zq b,Zq cL,Zq eP,Zz .i64 bn,Zq eX,Zk g7,Zq gZ,Zq iz,Zk jl,Zd Yd,Zz .i64 bT]);aw r (aD mH (Zm (Yu [Zk [],Zz .i64 40],[])) (Zv (aD (n==1||n==3) (Zv (ji [Xv [Zq b,Zq cL,Zq eP]] []) (kL fun b=>aD (!b) t1 t0)) t0) fun l=>ak .i64 l fun n r=>aK r fun b r=>aK r fun n8 r=>aK r fun hZ r=>ak .i64 r fun eO r=>aK r fun jI r=>bq r fun jJ r=>aK r fun jK r=>aK r fun m7 r=>bq r fun nH r=>aE r fun mG r=>ak .i64 r fun bZ r=>aw r (aD mG (Zm (Yu [Zk [],Zz .i64 103],[])) (Zv (aD (!(n==1||n==3)) (Zm [Zz .i64 n,Zq b,Zq n8,Zq hZ,Zz .i64 eO,Zq jI,Zk jJ,Zq jK,Zq m7,Zk nH,Zd !Zj eO 255,Zz .i64 bZ]) (Zm [Zz .i64 n,Zq b,Zq n8,Zq hZ,Zz .i64 eO,Zq jI,Zk jJ,Zq jK,Zq m7,Zk nH,Zd Yd,Zz .i64 bZ])) fun l=>ak .i64 l fun n r=>aK r fun b r=>aK r fun lZ r=>aK r fun pS r=>ak .i64 r fun bF r=>aK r fun ta r=>bq r fun AM r=>aK r fun Ji r=>aK r fun G1 r=>bq r fun AN r=>aE r fun Jj r=>ak .i64 r fun fb r=>let t2:Option (List AV):=Zm [Zz .i64 n,Zq b,Zq lZ,Zq pS,Zz .i64 bF,Zq ta,Zk AM,Zq Ji,Zq G1,Zk AN,Zd (Zu ((↑(Zy AN):Int)>1012)),Zz .i64 fb];aw r (aD Jj (Zm (Yu [Zk [],Zz .i64 104],[])) (Zv (aD (!(n==1||n==3)) (aD (Zu ((↑(Zy AM):Int)>255)) (Zm [Zz .i64 n,Zq b,Zq lZ,Zq pS,Zz .i64 bF,Zq ta,Zk AM,Zq Ji,Zq G1,Zk AN,Zd Zb,Zz .i64 fb]) t2) t2) fun l=>ak .i64 l fun n r=>aK r fun b r=>aK r fun Lk r=>aK r fun Ll r=>ak .i64 r fun eW r=>aK r fun Jk r=>bq r fun Lm r=>aK r fun Ln r=>aK r fun Jl r=>bq r fun Lo r=>aE r fun W1 r=>ak .i64 r fun gM r=>let t3:Option (List AV):=Zm [Zz .i64 n,Zq b,Zq Lk,Zq Ll,Zz .i64 eW,Zq Jk,Zk Lm,Zq Ln,Zq Jl,Zk Lo,Zd Zb,Zz .i64 gM];let t4:Option (List AV):=aD (!(n==1||n==3)) (Zm [Zz .i64 n,Zq b,Zq Lk,Zq Ll,Zz .i64 eW,Zq Jk,Zk Lm,Zq Ln,Zq Jl,Zk Lo,Zd !(b==[]&&(Lk==[]&&Ll==[])),Zz .i64 gM]) (Zm [Zz .i64 n,Zq b,Zq Lk,Zq Ll,Zz .i64 eW,Zq Jk,Zk Lm,Zq Ln,Zq Jl,Zk Lo,Zd Yd,Zz .i64 gM]);aw r (aD W1 (Zm (Yu [Zk [],Zz .i64 105],[])) (Zv (aD (n==1||n==3) (aD (!eW==0) t3 (aD (!Jk==[]) t3 (aD (Zu ((↑(Zy Lm):Int)>0)) t3 (aD (!Ln==[]) t3 (aD (!Jl==[]) t3 t4))))) t4) fun l=>ak .i64 l fun n r=>aK r fun b r=>aK r fun W2 r=>aK r fun W3 r=>ak .i64 r fun kH r=>aK r fun W4 r=>bq r fun QO r=>aK r fun W5 r=>aK r fun W6 r=>bq r fun Jm r=>aE r fun W7 r=>ak .i64 r fun lM r=>aw r (aD W7 (Zm (Yu [Zk [],Zz .i64 108],[])) (aD (n==1||n==3) (Zv (iP [Zk (Wv 9 Yd++Kerb.aS n 1 Yd),Xv [Zq b,Zq W2,Zq W3]] []) (kO fun l=>Zv (kC [Zk l,Zz .i64 (↑(Zy Jm):Int),Zd Yd] []) (kO fun l=>az (room (Zy l+Zy Jm) 1) (Zm (Yu [Zk (l++Jm),Zz .i64 0],[]))))) (Zv (hX [Zk (Wv 9 Yd++Kerb.aS n 1 Yd),Zz .i64 kH] []) (kO fun l=>Zv (oa [Zk l,Zq W4] []) (kO fun l=>Zv (hX [Zk l,Zz .i64 (↑(Zy QO):Int)] []) (kO fun l=>az (room (Zy l+Zy QO) 1) (Zv (oa [Zk (l++QO),Zq W5] []) (kO fun l=>Zv (oa [Zk l,Zq W6] []) (kO fun l=>Zv (kC [Zk l,Zz .i64 (↑(Zy Jm):Int),Zd Yd] []) (kO fun l=>az (room (Zy l+Zy Jm) 1) (Zm (Yu [Zk (l++Jm),Zz .i64 0],[]))))))))))))))))))))) (by kernel_rfl) ?_
 delta kO kL;dsimp only[DK,hX,oa,ji,iP,kC,sr,ss,aK,bq,aE,cT,ak,ci,dx];simp only[Yp,Qa2] at aB;have p_:(Wv 9 Yd).length=2:=rfl;unfold Kerb.aV;by_cases h13:op=1\/op=3
 ·have e1:(op==1||op==3)=Zb:=by simpa using h13
  have e2:(op==2)=Yd:=by simp;omega
  have e3:Kerb.lh op=Zb:=by simp[Kerb.lh];omega
  simp only[A0,e1,e2,e3,Zp,cc,aA,Bool.false_eq_true,if_false];rw[ae (by simp;omega)];cases h2:Kerb.aZ.valid ⟨ux,uy,uz⟩
  ·rfl
  rw[Zp,aA,Qa0 (by simp)];by_cases h3:1012<bx.length
  ·rw[ah (by simp;omega),Qa1 h3]
  rw[aj (by simp;omega),Qa0 h3];by_cases h4:kv=0;case neg=>rw[ah (by simpa using h4),Qa1 (.inl h4)]
  rw[aj (by simp[h4])];by_cases h5:rl=[];case neg=>rw[ah (by simpa using h5),Qa1 (.inr (.inl h5))]
  rw[aj (by simp[h5])];by_cases h6:tk=[];case neg=>rw[ah (by have:=List.length_pos_iff.2 h6;simp;omega),Qa1 (.inr (.inr (.inl h6)))]
  rw[aj (by simp[h6])];by_cases h7:sv=[];case neg=>rw[ah (by simpa using h7),Qa1 (.inr (.inr (.inr (.inl h7))))]
  rw[aj (by simp[h7])];by_cases h8:ins=[];case neg=>rw[ah (by simpa using h8),Qa1 (.inr (.inr (.inr (.inr h8))))]
  rw[aj (by simp[h8]),Qa0 (by simp[h4,h5,h6,h7,h8])];have l1:=Kerb.ch h2;simp only at l1;rw[ae (by simp[Yz,p_];omega),ae (by simp[Yz,p_,Yj];omega),ae (Xh (by simp[Yz,p_,Yj];omega))];simp[Xf,Kerb.rK]
 ·have e1:(op==1||op==3)=Yd:=by simpa using h13
  simp only[A0,e1,Bool.not_false,cc,aA];by_cases h2:op=2;case neg =>
   have e3:Kerb.lh op=Yd:=by simp[Kerb.lh];omega
   rw[ah (by simpa using h2),e3];rfl
  subst h2;rw[aj (by simp)];simp only[show Kerb.lh 2=Zb from rfl,Zp,Bool.false_eq_true,if_false,beq_self_eq_true,if_true];rw[ae (by simp;omega)];cases h2:Kerb.c4 rl
  ·rfl
  rw[Zp,aA,ae (by simp;omega)];cases h3:Kerb.validName sv
  ·rfl
  rw[Zp,aA,ae (by simp;omega)];cases h4:Kerb.bO ins
  ·rfl
  rw[Zp,aA,Qa0 (by simp)];cases h5:Zj kv 255
  ·rfl
  rw[Zp,aA,Qa0 (by simp)];by_cases h6:255<tk.length
  ·rw[ah (by simp;omega),Qa1 (.inl h6)]
  rw[aj (by simp;omega)];by_cases h7:1012<bx.length
  ·rw[ah (by simp;omega),Qa1 (.inr h7)]
  rw[aj (by simp;omega),Qa0 (by omega)];show aD (!(Kerb.aZ.xS ⟨ux,uy,uz⟩)) _ _=_;cases Kerb.aZ.xS ⟨ux,uy,uz⟩
  ·rfl
  rw[Zp,aA,Qa0 (by simp)];have l1:=Kerb.gx h2;have l2:=Kerb.iK h3;have l3:=Kerb.gW h4;rw[ae (by simp[Yz,p_]),ae (by simp[Yz,p_];omega),ae (by simp[Yz,p_,Kerb.bH];omega),ae (Xh (by simp[Yz,p_,Kerb.bH];omega)),ae (by simp[Yz,p_,Kerb.bH];omega),ae (by simp[Yz,p_,Kerb.bH];omega),ae (by simp[Yz,p_,Kerb.bH];omega),ae (Xh (by simp[Yz,p_,Kerb.bH];omega))];simp[Xf,Kerb.rK,Kerb.iO]
theorem w43:Wk 43 4 N_:=by
 refine cA Tryz.func43 rfl fun xs bl r h=> ?_;unfold N_ at h;split at h;case h_2=>cases h
 rename_i op ux uy uz bx;obtain⟨aB,rfl⟩:=dA h;refine cw (aD (Zu (op<1)) (Zm (Yu [Zk [],Zz .i64 40],[])) (aD (Zu (op>3)) (Zm (Yu [Zk [],Zz .i64 40],[])) (Zv (ji [Xv [Zq ux,Zq uy,Zq uz]] []) (kL fun b=>aD (!b) (Zm (Yu [Zk [],Zz .i64 103],[])) (aD (Zu ((↑(Zy bx):Int)>1012)) (Zm (Yu [Zk [],Zz .i64 105],[])) (Zv (iP [Zk (Wv 10 Yd++Kerb.aS op 1 Yd),Xv [Zq ux,Zq uy,Zq uz]] []) (kO fun l=>Zv (kC [Zk l,Zz .i64 (↑(Zy bx):Int),Zd Yd] []) (kO fun l=>az (room (Zy l+Zy bx) 1) (Zm (Yu [Zk (l++bx),Zz .i64 0],[])))))))))) (by kernel_rfl) ?_;delta kO kL;dsimp only[ji,iP,kC,aK,bq,aE,cT,ak,ci,dx];simp only[Yp,Qa2] at aB;simp only[A0,Yh,Xy,Kerb.eD.av];have p_:(Wv 10 Yd).length=2:=rfl;unfold Kerb.eM;simp only;by_cases h0:1<=op/\op<=3;case neg =>
  have e:Kerb.lh op=Yd:=by simp[Kerb.lh];omega
  rw[e];by_cases h1:op<1
  ·rw[ah (by simpa using h1)];rfl
  ·rw[aj (by simpa using h1),ah (by simp;omega)];rfl
 have e:Kerb.lh op=Zb:=by simp[Kerb.lh];omega
 rw[e,aj (by simp;omega),aj (by simp;omega),Qa0 (by simp),ae (by simp;omega)];cases h2:Kerb.aZ.valid ⟨ux,uy,uz⟩
 ·rfl
 rw[Zp,aA,Qa0 (by simp)];by_cases h8:1012<bx.length
 ·rw[ah (by simp;omega),Qa1 h8]
 rw[aj (by simp;omega),Qa0 h8];have l2:=Kerb.ch h2;simp only at l2;rw[ae (by simp[Yz,p_];omega),ae (by simp[Yj,Yz,p_];omega),ae (Xh (by simp[Yj,Yz,p_];omega))];simp[Xf]
theorem w63:Wk 63 4 Ss:=by
 refine cA Tryz.func63 rfl fun xs bl r h=> ?_;unfold Ss at h;split at h;case h_2=>cases h
 rename_i x;cases h;refine cw (Zv (xd [AV.ptr 0 0,Zz .i64 9] [(0,[Zk [x],Zz .i64 0])]) fun(r:AV×aC)=>aL (Yv r) fun(x:List AV) (eI:List (List AV))=>bq x fun b eS=>ak .i64 eS fun n eZ=>aw eZ (aM eI (Yy .i64 (Ym r) fun bn=>SH [Zz .i64 bn] fun cL eP eX=>Zv (xd [AV.ptr 0 0,Zz .i64 200] [(0,[Zk b,Zz .i64 n])]) fun(r:AV×aC)=>aL (Yv r) fun(x:List AV) (f_:List (List AV))=>bq x fun b iq=>ak .i64 iq fun n ju=>aw ju (aM f_ (Yy .i64 (Ym r) fun bT=>Zv (xd [AV.ptr 0 0,Zz .i64 256] [(0,[Zk b,Zz .i64 n])]) fun(r:AV×aC)=>aL (Yv r) fun(x:List AV) (lE:List (List AV))=>bq x fun b mT=>ak .i64 mT fun n mg=>aw mg (aM lE (Yy .i64 (Ym r) fun eO=>Zv (xd [AV.ptr 0 0,Zz .i64 256] [(0,[Zk b,Zz .i64 n])]) fun(r:AV×aC)=>aL (Yv r) fun(x:List AV) (fZ:List (List AV))=>bq x fun b gS=>ak .i64 gS fun n gT=>aw gT (aM fZ (Yy .i64 (Ym r) fun bZ=>Zv (xd [AV.ptr 0 0,Zz .i64 256] [(0,[Zk b,Zz .i64 n])]) fun(r:AV×aC)=>aL (Yv r) fun(x:List AV) (jC:List (List AV))=>bq x fun b kf=>ak .i64 kf fun n kg=>aw kg (aM jC (Yy .i64 (Ym r) fun bF=>Zv (xd [AV.ptr 0 0,Zz .i64 256] [(0,[Zk b,Zz .i64 n])]) fun(r:AV×aC)=>aL (Yv r) fun(x:List AV) (lD:List (List AV))=>bq x fun b rU=>ak .i64 rU fun n rV=>aw rV (aM lD (Yy .i64 (Ym r) fun fb=>Zv (xd [AV.ptr 0 0,Zz .i64 9] [(0,[Zk b,Zz .i64 n])]) fun(r:AV×aC)=>aL (Yv r) fun(x:List AV) (rW:List (List AV))=>bq x fun b rX=>ak .i64 rX fun n uo=>aw uo (aM rW (Yy .i64 (Ym r) fun eW=>aD (eW==8) (Zv (xd [AV.ptr 0 0,Zz .i64 3] [(0,[Zk b,Zz .i64 n])]) fun(r:AV×aC)=>aL (Yv r) fun(x:List AV) (uq:List (List AV))=>bq x fun b ur=>ak .i64 ur fun n w4=>aw w4 (aM uq (Yy .i64 (Ym r) fun gM=>Zv (xd [AV.ptr 0 0,Zz .i64 2] [(0,[Zk b,Zz .i64 n])]) fun(r:AV×aC)=>aL (Yv r) fun(x:List AV) (Dq:List (List AV))=>bq x fun b Dr=>ak .i64 Dr fun n Ds=>aw Ds (aM Dq (Yy .i64 (Ym r) fun n=>Zm (Xv [Zq (Kerb.aZ.name (Wz 0)),Zq (Kerb.aZ.inst (Wz 0)),Zq (Kerb.aZ.aJ (Wz 0)),Zz .i64 (Zw .i64 (4294967295-n)),Zz .i64 bT,Zz .i64 (Zw .i64 (4294967295-gM))],[])))))) (Zm (Xv [Zq cL,Zq eP,Zq eX,Zz .i64 (Zw .i64 (Zw .i64 (eO*70000)+bZ)),Zz .i64 bT,Zz .i64 (Zw .i64 (Zw .i64 (bF*150)+fb))],[]))))))))))))))))) (by kernel_rfl) ?_;unfold SH;delta kA;dsimp only[H4,xd,aK,bq,aE,cT,ak,ci,dx];have e0:Zu ([x].length<=4611686018427387904)=Zb:=rfl;have e1:Zu ((0:Int)<=Yg [x] 0 9)=Zb:=Kerb.Fs _ _ _;have e2:Zu (Yg [x] 0 9<=4611686018427387904)=Zb:=Kerb.zB _ _ _;simp only[A0,Yh,Xy,Kerb.eD.av,e0,e1,e2,Kerb.MJ,Kerb.MK,Kerb.UE,Ww,Bool.and_true,show Zu ((0:Int)<=1)=Zb from rfl,show((0:Int)==8)=Yd from rfl];rfl
theorem gf:Wk 64 4 Oe:=by
 refine cA Tryz.func64 rfl fun xs bl r h=> ?_;unfold Oe at h;split at h;case h_2=>cases h
 rename_i k x y z lf kv tk t aq;obtain⟨aB,rfl⟩:=dA h;refine cw (Zv (m4 [Zz .u64 k] []) (kL fun b=>aD (!b) (Zm (Yu [Zk [],Zz .i64 10],[])) (Zv (ji [Xv [Zq x,Zq y,Zq z]] []) (kL fun b=>aD (!b) (Zm (Yu [Zk [],Zz .i64 103],[])) (aD (!Zj lf 255) (Zm (Yu [Zk [],Zz .i64 104],[])) (aD (!Zj kv 255) (Zm (Yu [Zk [],Zz .i64 104],[])) (aD (!Zj t 4294967295) (Zm (Yu [Zk [],Zz .i64 104],[])) (aD (Zu ((↑(Zy tk):Int)>255)) (Zm (Yu [Zk [],Zz .i64 105],[])) (Zv (lI [Zz .u64 k] []) (kB fun b=>az (room (Zy ([]++Kerb.aS (bif aq then 1 else 0) 1 Yd)+Zy b) 1) (Zv (iP [Zk ([]++Kerb.aS (bif aq then 1 else 0) 1 Yd++b),Xv [Zq x,Zq y,Zq z]] []) (kO fun l=>Zv (hX [Zk l,Zz .i64 lf] []) (kO fun l=>Zv (hX [Zk l,Zz .i64 kv] []) (kO fun l=>Zv (hX [Zk l,Zz .i64 (↑(Zy tk):Int)] []) (kO fun l=>az (room (Zy l+Zy tk) 1) (Zv (ew [Zk (l++tk),Zz .i64 t,Zd aq] []) (kO fun l=>Zv (ii [Zk l] []) (kO fun l=>Zm (Yu [Zk l,Zz .i64 0],[]))))))))))))))))))) (by kernel_rfl) ?_;delta kB kO kL;dsimp only[hX,ji,iP,ew,m4,lI,ii,aK,bq,aE,cT,ak,ci,dx];simp only[Yp,Qa2] at aB;obtain⟨⟨⟨⟨q1,q2⟩,q3⟩,h0⟩,h1⟩:=aB;simp only[A0];unfold Kerb.cX;rw[ae (by simp[h0,h1])];cases hk:Kerb.bp k
 ·rfl
 rw[Zp,aA,ae (by simp[q1,q2,q3])];cases h1:Kerb.aZ.valid ⟨x,y,z⟩
 ·rfl
 rw[Zp,aA];cases h4:Zj lf 255
 ·rfl
 rw[Zp,aA];cases h5:Zj kv 255
 ·rfl
 rw[Zp,aA];cases h6:Zj t 4294967295
 ·rfl
 rw[Zp,aA];by_cases h7:255<tk.length
 ·rw[ah (by simp;omega),Qa0 (by simp),Qa0 (by simp),Qa0 (by simp),Qa1 h7]
 have l1:=Kerb.ch h1;simp only at l1;rw[aj (by simp;omega),Qa0 (by simp),Qa0 (by simp),Qa0 (by simp),Qa0 h7];rw[ae (by simp;omega),ae (Xh (by first | (simp[Yj,Yz,Yk];done) | (simp[Yj,Yz,Yk];omega))),ae (by first | (simp[Yj,Yz,Yk];done) | (simp[Yj,Yz,Yk];omega)),ae (by first | (simp[Yj,Yz,Yk];done) | (simp[Yj,Yz,Yk];omega)),ae (by first | (simp[Yj,Yz,Yk];done) | (simp[Yj,Yz,Yk];omega)),ae (by first | (simp[Yj,Yz,Yk];done) | (simp[Yj,Yz,Yk];omega)),ae (Xh (by first | (simp[Yj,Yz,Yk];done) | (simp[Yj,Yz,Yk];omega))),ae (by first | (simp[Yj,Yz,Yk];done) | (simp[Yj,Yz,Yk];omega)),ae (by first | (simp[Yj,Yz,Yk];done) | (simp[Yj,Yz,Yk];omega))];simp
theorem w65:Wk 65 4 Su:=by
 refine cA Tryz.func65 rfl fun xs bl r h=> ?_;unfold Su at h;split at h;case h_2=>cases h
 rename_i ck tc tm li;cases h;refine cw (aD (!Zj ck 4294967295) (Zm (Yu [Zk [],Zz .i64 104],[])) (aD (!Zj tc 199) (Zm (Yu [Zk [],Zz .i64 104],[])) (aD (!Zj tm 4294967295) (Zm (Yu [Zk [],Zz .i64 104],[])) (Zv (ew [Zk ([]++Kerb.aS (bif li then 1 else 0) 1 Yd),Zz .i64 ck,Zd li] []) (kO fun l=>Zv (hX [Zk l,Zz .i64 tc] []) (kO fun l=>Zv (ew [Zk l,Zz .i64 tm,Zd li] []) (kO fun l=>Zv (ii [Zk l] []) (kO fun l=>Zm (Yu [Zk l,Zz .i64 0],[]))))))))) (by kernel_rfl) ?_;delta kO;dsimp only[hX,ew,ii,aK,bq,aE,cT,ak,ci,dx];unfold Kerb.eG;cases h1:Zj ck 4294967295
 ·rfl
 cases h2:Zj tc 199
 ·rfl
 cases h3:Zj tm 4294967295
 ·rfl
 rw[Qa0 (by simp)];simp only[↓A0,Zp];rw[ae (by simp[Yz]),ae (by simp[Yz]),ae (by simp[Yz]),ae (by simp[Yz])];rfl
theorem w66:Wk 66 4 Sv:=by
 refine cA Tryz.func66 rfl fun xs bl r h=> ?_;unfold Sv at h;split at h;case h_2=>cases h
 rename_i dt tc ad tm li;cases h;refine cw (aD (Zu ((↑(Zy dt):Int)>500)) (Zm (Yu [Zk [],Zz .i64 105],[])) (aD (!Zj tc 199) (Zm (Yu [Zk [],Zz .i64 104],[])) (aD (!Zj ad 4294967295) (Zm (Yu [Zk [],Zz .i64 104],[])) (aD (!Zj tm 4294967295) (Zm (Yu [Zk [],Zz .i64 104],[])) (Zv (kC [Zk ([]++Kerb.aS (bif li then 1 else 0) 1 Yd),Zz .i64 (↑(Zy dt):Int),Zd li] []) (kO fun l=>az (room (Zy l+Zy dt) 1) (Zv (hX [Zk (l++dt),Zz .i64 tc] []) (kO fun l=>Zv (ew [Zk l,Zz .i64 ad,Zd li] []) (kO fun l=>Zv (ew [Zk l,Zz .i64 tm,Zd li] []) (kO fun l=>Zv (ii [Zk l] []) (kO fun l=>Zm (Yu [Zk l,Zz .i64 0],[])))))))))))) (by kernel_rfl) ?_;delta kO;dsimp only[hX,ew,kC,ii,aK,bq,aE,cT,ak,ci,dx];unfold Kerb.dv;simp only;by_cases h0:500<dt.length
 ·rw[ah (by simp;omega),Qa1 h0]
 rw[aj (by simp;omega),Qa0 h0];cases h1:Zj tc 199
 ·rfl
 cases h2:Zj ad 4294967295
 ·rfl
 cases h3:Zj tm 4294967295
 ·rfl
 simp only[A0,Yh,Xy,Kerb.eD.av,Zp,Ww];rw[Qa0 (by simp),ae (by simp[Yz]),ae (Xh (by simp[Yz];omega)),ae (by simp[Yz];omega),ae (by simp[Yz];omega),ae (by simp[Yz];omega),ae (by simp[Yz];omega)];simp
theorem w68:Wk 68 4 Oh:=by
 refine cA Tryz.func68 rfl fun xs bl r h=> ?_;unfold Oh at h;split at h;case h_2=>cases h
 rename_i lb t k st en kv x y z tk;obtain⟨aB,rfl⟩:=dA h;refine cw (let t1:Option (AV×aC):=Zm (Yu [Zk [],Zz .i64 104],[]);let t2:Option (AV×aC):=Zm (Yu [Zk [],Zz .i64 108],[]);let t3:List AV:=[Xv [Zq x,Zq y,Zq z]];let t0:Option (AV×aC):=aD (!Zj t 4294967295) t1 (Zv (ew [Zk lb,Zz .i64 t,Zd Yd] []) (kO fun l=>aD (!lb==[(116:UInt8),(107:UInt8),(116:UInt8),(71:UInt8)]) (aD (!k==0) t2 (aD (!st==0) t2 (aD (!en==0) t2 (aD (!kv==0) t2 (aD (!(x==[]&&(y==[]&&z==[]))) t2 (aD (Zu ((↑(Zy tk):Int)>0)) t2 (Zv (ii [Zk l] []) (kO fun l=>Zm (Yu [Zk l,Zz .i64 0],[]))))))))) (Zv (m4 [Zz .u64 k] []) (kL fun b=>aD (!b) (Zm (Yu [Zk [],Zz .i64 10],[])) (aD (!Zj st 4294967295) t1 (aD (!Zj en 4294967295) t1 (aD (!Zj kv 255) t1 (Zv (ji t3 []) (kL fun b=>aD (!b) (Zm (Yu [Zk [],Zz .i64 103],[])) (aD (Zu ((↑(Zy tk):Int)>255)) (Zm (Yu [Zk [],Zz .i64 105],[])) (Zv (lI [Zz .u64 k] []) (kB fun b=>az (room (Zy l+Zy b) 1) (Zv (ew [Zk (l++b),Zz .i64 st,Zd Yd] []) (kO fun l=>Zv (ew [Zk l,Zz .i64 en,Zd Yd] []) (kO fun l=>Zv (hX [Zk l,Zz .i64 kv] []) (kO fun l=>Zv (iP (Zk l::t3) []) (kO fun l=>Zv (hX [Zk l,Zz .i64 (↑(Zy tk):Int)] []) (kO fun l=>az (room (Zy l+Zy tk) 1) (Zv (ii [Zk (l++tk)] []) (kO fun l=>Zm (Yu [Zk l,Zz .i64 0],[])))))))))))))))))))));aD (lb==[(116:UInt8),(103:UInt8),(115:UInt8),(84:UInt8)]) (aD (!Zj t 4294967295) t1 (Zv (ew [Zk lb,Zz .i64 t,Zd Yd] []) (kO fun l=>Zv (m4 [Zz .u64 k] []) (kL fun b=>aD (!b) (Zm (Yu [Zk [],Zz .i64 10],[])) (aD (!Zj st 4294967295) t1 (aD (!Zj en 4294967295) t1 (aD (!Zj kv 255) t1 (Zv (ji t3 []) (kL fun b=>aD (!b) (Zm (Yu [Zk [],Zz .i64 103],[])) (aD (Zu ((↑(Zy tk):Int)>255)) (Zm (Yu [Zk [],Zz .i64 105],[])) (Zv (lI [Zz .u64 k] []) (kB fun b=>az (room (Zy l+Zy b) 1) (Zv (ew [Zk (l++b),Zz .i64 st,Zd Yd] []) (kO fun l=>Zv (ew [Zk l,Zz .i64 en,Zd Yd] []) (kO fun l=>Zv (hX [Zk l,Zz .i64 kv] []) (kO fun l=>Zv (iP (Zk l::t3) []) (kO fun l=>Zv (hX [Zk l,Zz .i64 (↑(Zy tk):Int)] []) (kO fun l=>az (room (Zy l+Zy tk) 1) (Zv (ii [Zk (l++tk)] []) (kO fun l=>Zm (Yu [Zk l,Zz .i64 0],[]))))))))))))))))))))) (aD (!lb==[(116:UInt8),(107:UInt8),(116:UInt8),(71:UInt8)]) (aD (!lb==[(67:UInt8),(80:UInt8),(87:UInt8),(100:UInt8)]) (Zm (Yu [Zk [],Zz .i64 80],[])) t0) t0)) (by kernel_rfl) ?_;delta kB kO kL;dsimp only[hX,ji,iP,ew,m4,lI,ii,aK,bq,aE,cT,ak,ci,dx];have O_:([103,84,71,83]:List UInt8)=Kerb.vB:=rfl;have Iv:([103,84,75,84]:List UInt8)=Kerb.lq:=rfl;have Ly:([67,80,87,108]:List UInt8)=Kerb.g9:=rfl;have Ey:([67,80,87,100]:List UInt8)=Kerb.po:=rfl;have O':([116,103,115,84]:List UInt8)=Kerb.zn:=rfl;have CG:([116,107,116,71]:List UInt8)=Kerb.qc:=rfl;have EY:=aB;simp only[Yp,Qa2] at aB;have hk:(Zu (0<=k)&&Zu (k<18446744073709551616))=Zb:=by simp;omega
 have hv:(Zu (x.length<=9223372036854775807)&&Zu (y.length<=9223372036854775807)&&Zu (z.length<=9223372036854775807))=Zb:=by simp;omega
 simp only[A0,Ey,O',CG,hk,hv];unfold Kerb.bm;simp only;cases hg:(lb==Kerb.zn);case true =>
  have ht:Kerb.dK lb=Zb:=by simp[Kerb.dK,hg]
  have hl:lb.length=4:=by rw[Qa9 hg];rfl
  simp only[ht,cc,Zp,Bool.false_and];rw[Qa0 (by simp)];cases h1:Zj t 4294967295
  ·rfl
  rw[Zp,aA,Qa0 (by simp),Qa1 trivial,ae (by simp;omega)];cases h2:Kerb.bp k
  ·rfl
  rw[Zp,aA,Qa0 (by simp)];cases h3:Zj st 4294967295
  ·rfl
  rw[Zp,aA];cases h4:Zj en 4294967295
  ·rfl
  rw[Zp,aA];cases h5:Zj kv 255
  ·rfl
  rw[Zp,aA,Qa0 (by simp)];cases h6:Kerb.aZ.valid ⟨x,y,z⟩
  ·rfl
  have l1:=Kerb.ch h6;simp only at l1;rw[Zp,aA,Qa0 (by simp)];by_cases h7:255<tk.length
  ·rw[ah (by simp;omega),Qa1 h7]
  rw[aj (by simp;omega),Qa0 h7];rw[ae (Xh (by simp[Yz,Yk];omega)),ae (by simp[Yz,Yk];omega),ae (by simp[Yz,Yk];omega),ae (by simp[Yz,Yk];omega),ae (by simp[Yz,Yk];omega),ae (by simp[Yz,Yk,Yj];omega),ae (Xh (by simp[Yz,Yk,Yj];omega)),ae (by simp[Yz,Yk,Yj];omega)];simp[Kerb.iO]
 cases TO:(lb==Kerb.qc);case true =>
  have ht:Kerb.dK lb=Zb:=by simp[Kerb.dK,TO]
  have hl:lb.length=4:=by rw[Qa9 TO];rfl
  simp only[ht,cc,aA,Zp,Bool.false_and];rw[Qa0 (by simp)];cases h1:Zj t 4294967295
  ·rfl
  rw[Zp,aA,Qa0 (by simp),Qa1 trivial,ae (by simp;omega)];cases h2:Kerb.bp k
  ·rfl
  rw[Zp,aA,Qa0 (by simp)];cases h3:Zj st 4294967295
  ·rfl
  rw[Zp,aA];cases h4:Zj en 4294967295
  ·rfl
  rw[Zp,aA];cases h5:Zj kv 255
  ·rfl
  rw[Zp,aA,Qa0 (by simp)];cases h6:Kerb.aZ.valid ⟨x,y,z⟩
  ·rfl
  have l1:=Kerb.ch h6;simp only at l1;rw[Zp,aA,Qa0 (by simp)];by_cases h7:255<tk.length
  ·rw[ah (by simp;omega),Qa1 h7]
  rw[aj (by simp;omega),Qa0 h7];rw[ae (Xh (by simp[Yz,Yk];omega)),ae (by simp[Yz,Yk];omega),ae (by simp[Yz,Yk];omega),ae (by simp[Yz,Yk];omega),ae (by simp[Yz,Yk];omega),ae (by simp[Yz,Yk,Yj];omega),ae (Xh (by simp[Yz,Yk,Yj];omega)),ae (by simp[Yz,Yk,Yj];omega)];simp[Kerb.iO]
 have ht:Kerb.dK lb=Yd:=by simp[Kerb.dK,hg,TO]
 simp only[ht,cc,aA,Bool.not_false,Wx];cases hc:(lb==Kerb.po)
 ·rfl
 have hl:lb.length=4:=by rw[Qa9 hc];rfl
 rw[Zp,aA,Qa0 (by simp)];cases h1:Zj t 4294967295
 ·rfl
 rw[Zp,aA,Qa0 (by simp),Qa0 (by simp),ae (by simp;omega)];by_cases h2:k=0;case neg=>rw[ah (by simpa using h2),Qa1 (.inl h2)]
 rw[aj (by simp[h2])];by_cases h3:st=0;case neg=>rw[ah (by simpa using h3),Qa1 (.inr (.inl h3))]
 rw[aj (by simp[h3])];by_cases h4:en=0;case neg=>rw[ah (by simpa using h4),Qa1 (.inr (.inr (.inl h4)))]
 rw[aj (by simp[h4])];by_cases h5:kv=0;case neg=>rw[ah (by simpa using h5),Qa1 (.inr (.inr (.inr (.inl h5))))]
 rw[aj (by simp[h5])];show aD (!(Kerb.aZ.xS ⟨x,y,z⟩)) _ _=_;cases h6:Kerb.aZ.xS ⟨x,y,z⟩
 ·rw[Qa1 (.inr (.inr (.inr (.inr (.inl rfl)))))];rfl
 rw[Zp,aA];by_cases h7:tk=[];case neg=>rw[ah (by have:=List.length_pos_iff.2 h7;simp;omega),Qa1 (.inr (.inr (.inr (.inr (.inr h7)))))]
 rw[aj (by simp[h7]),Qa0 (by simp[h2,h3,h4,h5,h7]),ae (by simp[Yz];omega)]
theorem w69:Wk 69 4 Oi:=by
 refine cA Tryz.func69 rfl fun xs bl r h=> ?_;unfold Oi at h;split at h;case h_2=>cases h
 rename_i cx cy cz sx sy sz k t e a;obtain⟨aB,rfl⟩:=dA h;refine cw (Zv (ji [Xv [Zq cx,Zq cy,Zq cz]] []) (kL fun b=>aD (!b) (Zm (Yu [Zk [],Zz .i64 103],[])) (Zv (ji [Xv [Zq sx,Zq sy,Zq sz]] []) (kL fun b=>aD (!b) (Zm (Yu [Zk [],Zz .i64 103],[])) (Zv (z6 [Zz .u64 k] []) (kI .i64 fun n=>aD (!n==2) (Zm (Yu [Zk [],Zz .i64 10],[])) (aD (!Zj t 4294967295) (Zm (Yu [Zk [],Zz .i64 104],[])) (aD (!Zj e 4294967295) (Zm (Yu [Zk [],Zz .i64 104],[])) (aD (Zu (t>e)) (Zm (Yu [Zk [],Zz .i64 104],[])) (aD (!Zj a 4294967295) (Zm (Yu [Zk [],Zz .i64 104],[])) (Zv (iP [Zk [],Xv [Zq cx,Zq cy,Zq cz]] []) (kO fun l=>Zv (iP [Zk l,Xv [Zq sx,Zq sy,Zq sz]] []) (kO fun l=>Zv (lI [Zz .u64 k] []) (kB fun b=>az (room (Zy l+Zy b) 1) (Zv (ew [Zk (l++b),Zz .i64 t,Zd Yd] []) (kO fun l=>Zv (ew [Zk l,Zz .i64 e,Zd Yd] []) (kO fun l=>Zv (ew [Zk l,Zz .i64 a,Zd Yd] []) (kO fun l=>Zv (ii [Zk l] []) (kO fun l=>Zm (Yu [Zk l,Zz .i64 0],[])))))))))))))))))))) (by kernel_rfl) ?_;delta kB kO kL kI;dsimp only[ji,iP,ew,lI,ii,z6,aK,bq,aE,cT,ak,ci,dx];simp only[Yp,Qa2] at aB;simp only[A0,Yh,Xy,Kerb.eD.av];unfold Kerb.eN;simp only;rw[ae (by simp;omega)];cases h1:Kerb.aZ.valid ⟨cx,cy,cz⟩
 ·rfl
 rw[Zp,aA,ae (by simp;omega)];cases h2:Kerb.aZ.valid ⟨sx,sy,sz⟩
 ·rfl
 rw[Zp,aA,ae (by simp;omega),Qa0 (by simp)];by_cases h3:Kerb.gy k=2;case neg=>rw[ah (by simpa using h3),Qa1 h3]
 rw[aj (by simp[h3]),Qa0 (show ¬ (Kerb.gy k≠2) by simpa using h3)];have YN:Kerb.period t e=(Zj t 4294967295&&(Zj e 4294967295&&Zu (t<=e))):=by unfold Kerb.period;rw[Bool.and_assoc]
 rw[YN];cases h4:Zj t 4294967295
 ·rfl
 rw[Zp,aA,Wx];cases h5:Zj e 4294967295
 ·rfl
 rw[Zp,aA,Wx];by_cases h6:t<=e;case neg=>rw[ah (by simp;omega),decide_eq_false h6];rfl
 rw[aj (by simp;omega),Qa4 h6];cases h7:Zj a 4294967295
 ·rfl
 rw[Zp,aA,Qa0 (by simp)];have l1:=Kerb.ch h1;have l2:=Kerb.ch h2;simp only at l1 l2;rw[ae (by simp;omega),ae (by simp[Yj,Yk,Yz,Xf];omega),ae (by simp;omega),ae (Xh (by simp[Yj,Yk,Yz,Xf];omega)),ae (by simp[Yj,Yk,Yz,Xf];omega),ae (by simp[Yj,Yk,Yz,Xf];omega),ae (by simp[Yj,Yk,Yz,Xf];omega),ae (by simp[Yj,Yk,Yz,Xf];omega)]
theorem w70:Wk 70 4 Oj:=by
 refine cA Tryz.func70 rfl fun xs bl r h=> ?_;unfold Oj at h;split at h;case h_2=>cases h
 rename_i k sx sy sz t e rc;obtain⟨aB,rfl⟩:=dA h;refine cw (Zv (m4 [Zz .u64 k] []) (kL fun b=>aD (!b) (Zm (Yu [Zk [],Zz .i64 10],[])) (Zv (ji [Xv [Zq sx,Zq sy,Zq sz]] []) (kL fun b=>aD (!b) (Zm (Yu [Zk [],Zz .i64 103],[])) (aD (!Zj t 4294967295) (Zm (Yu [Zk [],Zz .i64 104],[])) (aD (!Zj e 4294967295) (Zm (Yu [Zk [],Zz .i64 104],[])) (aD (Zu (t>e)) (Zm (Yu [Zk [],Zz .i64 104],[])) (aD (Zu ((↑(Zy rc):Int)>300)) (Zm (Yu [Zk [],Zz .i64 105],[])) (Zv (lI [Zz .u64 k] []) (kB fun b=>Zv (iP [Zk b,Xv [Zq sx,Zq sy,Zq sz]] []) (kO fun l=>Zv (ew [Zk l,Zz .i64 t,Zd Yd] []) (kO fun l=>Zv (ew [Zk l,Zz .i64 e,Zd Yd] []) (kO fun l=>Zv (kC [Zk l,Zz .i64 (↑(Zy rc):Int),Zd Yd] []) (kO fun l=>az (room (Zy l+Zy rc) 1) (Zv (ii [Zk (l++rc)] []) (kO fun l=>Zm (Yu [Zk l,Zz .i64 0],[]))))))))))))))))) (by kernel_rfl) ?_;delta kB kO kL;dsimp only[ji,iP,ew,kC,m4,lI,ii,aK,bq,aE,cT,ak,ci,dx];simp only[Yp,Qa2] at aB;simp only[A0,Yh,Xy,Kerb.eD.av];unfold Kerb.dT;simp only;rw[ae (by simp;omega)];cases h1:Kerb.bp k
 ·rfl
 rw[Zp,aA,ae (by simp;omega),Qa0 (by simp)];cases h2:Kerb.aZ.valid ⟨sx,sy,sz⟩
 ·rfl
 rw[Zp,aA,Qa0 (by simp)];have YN:Kerb.period t e=(Zj t 4294967295&&(Zj e 4294967295&&Zu (t<=e))):=by unfold Kerb.period;rw[Bool.and_assoc]
 rw[YN];cases h4:Zj t 4294967295
 ·rfl
 rw[Zp,aA,Wx];cases h5:Zj e 4294967295
 ·rfl
 rw[Zp,aA,Wx];by_cases h6:t<=e;case neg=>rw[ah (by simp;omega),decide_eq_false h6];rfl
 rw[aj (by simp;omega),Qa4 h6];rw[Qa0 (by simp)];by_cases h8:300<rc.length
 ·rw[ah (by simp;omega),Qa1 h8]
 rw[aj (by simp;omega),Qa0 h8];have l2:=Kerb.ch h2;simp only at l2;rw[ae (by simp;omega),ae (by simp[Yj,Yk,Yz,Xf];omega),ae (by simp[Yj,Yk,Yz,Xf];omega),ae (by simp[Yj,Yk,Yz,Xf];omega),ae (by simp[Yj,Yk,Yz,Xf];omega),ae (Xh (by simp[Yj,Yk,Yz,Xf];omega)),ae (by simp[Yj,Yk,Yz,Xf];omega)];simp[Xf]
theorem w73:Wk 73 4 Ao:=by
 refine cA Tryz.func73 rfl fun xs bl r h=> ?_;unfold Ao at h;split at h;case h_2=>cases h
 rename_i ks;obtain⟨aB,rfl⟩:=dA h;refine cw (Zv (bw (fun st=>ay st fun x r=>Xj x fun b=>ci 1 r fun cL r=>ak .i64 r fun n r=>ak .i64 r fun bn r=>aw r (aD (Zu (bn<n)) (az (Zu (0<=bn)&&Zu (bn<(↑(Zy cL):Int))&&Zb) (Yy .u64 (Zf cL (Zx bn) Zn) fun bT=>Zv (xe [Zz .u64 bT] []) (kL fun eP=>aD eP (az (room (Zy b+Zy [Zz .u64 bT]) (nat_lit 8)) (Zm (Xz [Yq (b++[Zz .u64 bT]),AV.sl 1 cL,Zz .i64 n,Zz .i64 (Zw .i64 (bn+1))]))) (Zm (Xz [Yq b,AV.sl 1 cL,Zz .i64 n,Zz .i64 (Zw .i64 (bn+1))]))))) (Zm (Yf (Xw 0,[Yq b,AV.sl 1 cL,Zz .i64 n,Zz .i64 bn]))))) [Yq [],AV.sl 1 ks,Zz .i64 (↑(Zy ks):Int),Zz .i64 0]) fun(r:Ex×List AV)=>ay (Yv r) fun x eI=>Xj x fun b=>ci 1 eI fun cL eS=>ak .i64 eS fun n eZ=>ak .i64 eZ fun n f_=>aw f_ (jp r.1 Wu fun(j:Nat)=>aD (Xk j 0) (Zm (AV.sl 1 b,[])) Wu)) (by kernel_rfl) ?_;delta kL;dsimp only[xe,aK,bq,aE,cT,ak,ci,dx];obtain⟨l,rfl,hl,hn⟩:=Kerb.Px aB;rw[Kerb.pM];refine Kerb.lH (fun i=>[.aF (Kerb.cZ (Kerb.cr (l.take i))),.sl 1 (Kerb.cZ l),.int .i64 ((Kerb.cZ l).length:Int),.int .i64 (i:Int)]) l.length (fun i hi=> ?_) ⟨(.exit 0,[.aF (Kerb.cZ (Kerb.cr l)),.sl 1 (Kerb.cZ l),.int .i64 ((Kerb.cZ l).length:Int),.int .i64 (l.length:Int)]),?_,?_⟩ rfl
 ·have hm:(Kerb.cr (l.take i)).length<=100000000:=Nat.le_trans (List.length_filter_le _ _) (by rw[List.length_take];omega);have hv:=hl _ (Kerb.x3 0 hi);have g3:Zu (0<=l.getD i 0)=Zb:=by simp only[Qa2];exact hv.1
  have g4:Zu (l.getD i 0<18446744073709551616)=Zb:=by simp only[Qa2];exact hv.2
  have hr:Go.Abs.room ((Kerb.cr (l.take i)).length+1) 8=Zb:=Kerb.R9 (by omega);try dsimp only
  simp only[↓A0,A0,Kerb.P5,Kerb.UB hi,Kerb.LG hi,g3,g4,Ww,Bool.and_true,Kerb.Ax (show i<=1000000000 by omega),Kerb.ef (Kerb.cr _),List.length_singleton,hr,Kerb.Ox];rw[Kerb.DR hi];cases Kerb.bp (l.getD i 0)<;>rfl
 ·try dsimp only
  simp only[↓A0,A0,Kerb.noK,List.take_length]
 ·rfl
theorem Z':Wk 137 4 F6:=by
 refine cA Tryz.func137 rfl fun xs bl r h=> ?_;unfold F6 at h;split at h;case h_2=>cases h
 rename_i li x y z ad k lf uG sv ins;obtain⟨aB,rfl⟩:=dA h;refine cw (Zv (ji [Xv [Zq x,Zq y,Zq z]] []) (kL fun b=>aD (!b) (Zm (Zz .i64 103,[])) (Zv (sr [Zq sv] []) (kL fun b=>aD (!b) (Zm (Zz .i64 103,[])) (Zv (ss [Zq ins] []) (kL fun b=>aD (!b) (Zm (Zz .i64 103,[])) (Zv (z6 [Zz .u64 k] []) (kI .i64 fun n=>aD (!n==2) (Zm (Zz .i64 10,[])) (aD (!Zj ad 4294967295) (Zm (Zz .i64 104,[])) (aD (!Zj lf 255) (Zm (Zz .i64 104,[])) (aD (!Zj uG 4294967295) (Zm (Zz .i64 104,[])) (Zm (Zz .i64 0,[]))))))))))))) (by kernel_rfl) ?_;delta kL kI;dsimp only[ji,sr,ss,z6,aK,bq,aE,cT,ak,ci,dx];simp only[Yp,Qa2] at aB;obtain⟨⟨⟨⟨⟨⟨h1,h2⟩,h3⟩,h4⟩,h5⟩,h6⟩,h7⟩:=aB;simp only[h1,h2,h3,h4,h5,h6,h7,Qb2,Ww,↓A0,A0];unfold Kerb.dz.err;dsimp only;cases Kerb.aZ.valid ⟨x,y,z⟩
 ·rfl
 cases Kerb.validName sv
 ·rfl
 cases Kerb.bO ins
 ·rfl
 simp only[Zp,Ww,aA];by_cases hc:Kerb.gy k=2;case neg=>rw[ah (by simpa using hc),Qa0 (by simp),Qa1 hc]
 rw[aj (by simp[hc]),Qa0 (by simp),Qa0 (by simp[hc])];cases Zj ad 4294967295
 ·rfl
 cases Zj lf 255
 ·rfl
 cases Zj uG 4294967295
 ·rfl
 rfl
theorem aae:Wk 140 4 F7:=by
 refine cA Tryz.func140 rfl fun xs bl r h=> ?_;unfold F7 at h;split at h;case h_2=>cases h
 rename_i x y z ck tc tm;obtain⟨aB,rfl⟩:=dA h;refine cw (Zv (ji [Xv [Zq x,Zq y,Zq z]] []) (kL fun b=>aD (!b) (Zm (Zz .i64 103,[])) (aD (!Zj ck 4294967295) (Zm (Zz .i64 104,[])) (aD (!Zj tc 199) (Zm (Zz .i64 104,[])) (aD (!Zj tm 4294967295) (Zm (Zz .i64 104,[])) (Zm (Zz .i64 0,[]))))))) (by kernel_rfl) ?_;delta kL;dsimp only[ji,aK,bq,aE,cT,ak,ci,dx];simp only[A0,Yh,Xy,Kerb.eD.av,aB];unfold Kerb.lL.check;simp only;cases Kerb.aZ.valid ⟨x,y,z⟩
 ·rfl
 cases Zj ck 4294967295
 ·rfl
 cases Zj tc 199
 ·rfl
 cases Zj tm 4294967295<;>rfl
theorem aan:Wk 149 4 vX:=by
 refine cA Tryz.func149 rfl fun xs bl r h=> ?_;unfold vX at h;split at h;case h_2=>cases h
 rename_i b;obtain⟨aB,rfl⟩:=dA h;refine cw (aD (!(↑(Zy b):Int)==8) (Zm (Yu [Zz .u64 0,Zd Yd],[])) (Zv (bw (fun st=>ak .u64 st fun n r=>bq r fun b r=>ak .i64 r fun bn r=>ak .i64 r fun bT r=>aw r (aD (Zu (bT<bn)) (az (Zu (0<=bT)&&Zu (bT<(↑(Zy b):Int))) (Zm (Xz [Zz .u64 (Zw .u64 (↑(BitVec.toNat (BitVec.ofInt (IntKind.bits .u64) (Zw .u64 (n*2 ^ min (Zx 8) (IntKind.bits .u64))) ||| BitVec.ofInt (IntKind.bits .u64) (Zw .u64 (↑(UInt8.toNat (Zf b (Zx bT) (0:UInt8))):Int)))):Int)),Zk b,Zz .i64 bn,Zz .i64 (Zw .i64 (bT+1))]))) (Zm (Yf (Xw 0,[Zz .u64 n,Zk b,Zz .i64 bn,Zz .i64 bT]))))) [Zz .u64 0,Zk b,Zz .i64 (↑(Zy b):Int),Zz .i64 0]) fun(r:Ex×List AV)=>ak .u64 (Yv r) fun n eI=>bq eI fun b eS=>ak .i64 eS fun bn eZ=>ak .i64 eZ fun bT f_=>aw f_ (jp r.1 Wu fun(j:Nat)=>aD (Xk j 0) (Zv (xe [Zz .u64 n] []) (kL fun b=>aD (!b) (Zm (Yu [Zz .u64 0,Zd Yd],[])) (Zm (Yu [Zz .u64 n,Zd Zb],[])))) Wu))) (by kernel_rfl) ?_;delta kL;dsimp only[xe,aK,bq,aE,cT,ak,ci,dx];have hb:=Qa3 aB;unfold Kerb.fh;by_cases h8:b.length=8;case neg =>
  rw[ah (by simp;omega),Qa0 (by omega)]
 rw[aj (by simp[h8])];refine b_ (fun i:Nat=>[Zz IntKind.u64 (Kerb.lJ (b.take i)),Zk b,Zz Xm (b.length:Int),Zz Xm (i:Int)]) (fun i=>i<=8) (fun i=>8-i)
  (fun r=>r=(Xw 0,[Zz IntKind.u64 (Kerb.lJ b),Zk b,Zz Xm (b.length:Int),Zz Xm 8])) 0 (by omega) rfl ?_ ?_
 ·intro i hi;simp only[A0];by_cases eY:i<8
  ·have hv:=Kerb.Cm (l:=b) (i:=i) (by omega);have XX:=Kerb.OC (l:=b.take i) (by simp;omega);rw[ah (by simp;omega),ae (by simp;omega),Xg,Kerb.M6 _ XX.1 XX.2,wrap_i64 (by omega) (by omega),<-hv];exact⟨_,rfl,i+1,rfl,by omega,by dsimp only;omega⟩
  ·rw[aj (by simp;omega)];refine⟨_,rfl,?_⟩;show _=_;rw[List.take_of_length_le (by omega),show i=8 from by omega];rfl
 rintro r rfl;have XX:=Kerb.GI (l:=b) (by omega);simp only[A0];rw[ah (Yn _),ae (by simp;omega)];cases hv:Kerb.bp (Kerb.lJ b)
 ·rw[Qa0 (by simp)];rfl
 ·rw[Qa1 ⟨h8,rfl⟩];rfl
theorem aat:Wk 155 4 sA:=by
 refine cA Tryz.func155 rfl fun xs bl r h=> ?_;unfold sA at h;split at h;case h_2=>cases h
 rename_i B at_ bad;obtain⟨aB,rfl⟩:=dA h;show ea (G.env 155 4) G.rts (G.own 155) Tryz.f155 _ _ [0]=_;refine cw (uH [Zk B,Zz .i64 at_,Zd Yd] fun n bn bT=>aD (!!(bad || !bT==0)) (Zm (Zz .i64 0,[[Zk B,Zz .i64 (bif bad || !bT==0 then at_ else bn),Zd (bad || !bT==0)]])) (Zm (Zz .i64 n,[[Zk B,Zz .i64 (bif bad || !bT==0 then at_ else bn),Zd (bad || !bT==0)]]))) (by kernel_rfl) ?_;unfold uH;delta kT;dsimp only[tH,aK,bq,aE,cT,ak,ci,dx];have hb:=Qa3 aB;simp only[A0];rw[ae (by simp;omega)];unfold Kerb.fD;cases bad
 ·simp only[Bool.false_or];generalize hq:(!(_==(0:Int)))=q;cases q<;>rfl
 ·rfl
theorem aay:Wk 160 4 vZ:=by
 refine cA Tryz.func160 rfl fun xs bl r h=> ?_;unfold vZ at h;split at h;case h_2=>cases h
 rename_i B at_ bad;obtain⟨aB,rfl⟩:=dA h;show ea (G.env 160 4) G.rts (G.own 160) Tryz.f160 _ _ [0]=_;refine cw (oV [Zk B,Zz .i64 at_] fun n bn bT=>aD (!!(bad || !bT==0)) (Zm (Zz .i64 0,[[Zk B,Zz .i64 (bif bad || !bT==0 then at_ else bn),Zd (bad || !bT==0)]])) (Zm (Zz .i64 n,[[Zk B,Zz .i64 (bif bad || !bT==0 then at_ else bn),Zd (bad || !bT==0)]]))) (by kernel_rfl) ?_;unfold oV;delta kT;dsimp only[su,aK,bq,aE,cT,ak,ci,dx];have hb:=Qa3 aB;simp only[A0];rw[ae (by simp;omega)];unfold Kerb.fD;cases bad
 ·simp only[Bool.false_or];generalize hq:(!(_==(0:Int)))=q;cases q<;>rfl
 ·rfl
theorem aaD:Wk 165 4 tJ:=by
 refine cA Tryz.func165 rfl fun xs bl r h=> ?_;unfold tJ at h;split at h;case h_2=>cases h
 rename_i B at_ bad;obtain⟨aB,rfl⟩:=dA h;show ea (G.env 165 4) G.rts (G.own 165) Tryz.f165 _ _ [0]=_;refine cw (uH [Zk B,Zz .i64 at_,Zd Yd] fun n bn bT=>Zm (Zz .i64 n,[[Zk B,Zz .i64 (bif bT==0 then bn else at_),Zd (bad || !bT==0)]])) (by kernel_rfl) ?_;unfold uH;delta kT;dsimp only[tH,aK,bq,aE,cT,ak,ci,dx];have hb:=Qa3 aB;simp only[A0,Yh,Xy,Kerb.eD.av];rw[ae (by simp;omega)];unfold Kerb.o_;rfl
theorem aaG:Wk 168 4 z9:=by
 refine cA Tryz.func168 rfl fun xs bl r h=> ?_;unfold z9 at h;split at h;case h_2=>cases h
 rename_i B at_ bad;obtain⟨aB,rfl⟩:=dA h;show ea (G.env 168 4) G.rts (G.own 168) Tryz.f168 _ _ [0]=_;refine cw (AK [Zk B,Zz .i64 at_,Zd Yd] fun n bn bT=>Zm (Zz .i64 n,[[Zk B,Zz .i64 (bif bT==0 then bn else at_),Zd (bad || !bT==0)]])) (by kernel_rfl) ?_;unfold AK;delta kT;dsimp only[wc,aK,bq,aE,cT,ak,ci,dx];have hb:=Qa3 aB;simp only[A0,Yh,Xy,Kerb.eD.av];rw[ae (by simp;omega)];unfold Kerb.o_;rfl
theorem aaR:Wk 188 4 Aa:=by
 refine cA Tryz.func188 rfl fun xs bl r h=> ?_;unfold Aa at h;split at h;case h_2=>cases h
 rename_i b;obtain⟨aB,rfl⟩:=dA h;refine cw (oV [Zk b,Zz .i64 2] fun n bn bT=>uI [Zk b,Zz .i64 bn] fun cL eO bZ=>oV [Zk b,Zz .i64 eO] fun bF fb eW=>oV [Zk b,Zz .i64 fb] fun gM kH lM=>qK [Zk b,Zz .i64 kH,Zz .i64 bF] fun eP gu iM=>qK [Zk b,Zz .i64 gu,Zz .i64 gM] fun eX fL bh=>Zm (Yu [Xv [Zd (Kerb.Head.aq (Kerb.dB b)),Zd (Kerb.Head.kind (Kerb.dB b)==4),Zz .i64 n,Zq cL,Zk eP,Zk eX],Zz .i64 fL],[])) (by kernel_rfl) ?_;unfold oV qK uI;delta kT;dsimp only[su,qH,vY,aK,bq,aE,cT,ak,ci,dx];have hb:=Qa3 aB;have jN:Zu (b.length<=4611686018427387904)=Zb:=by simp;omega
 simp only[aB,jN,↓A0,A0];rfl
theorem aaW:Wk 193 4 Ny:=by
 refine cA Tryz.func193 rfl fun xs bl r h=> ?_;unfold Ny at h;split at h;case h_2=>cases h
 rename_i B at_ bad;obtain⟨aB,rfl⟩:=dA h;show ea (G.env 193 4) G.rts (G.own 193) Tryz.f193 _ _ [0]=_;refine cw (uI [Zk B,Zz .i64 at_] fun b n bn=>aD (!!(bad || !bn==0)) (Zm (Zq [],[[Zk B,Zz .i64 (bif bad || !bn==0 then at_ else n),Zd (bad || !bn==0)]])) (Zm (Zq b,[[Zk B,Zz .i64 (bif bad || !bn==0 then at_ else n),Zd (bad || !bn==0)]]))) (by kernel_rfl) ?_;unfold uI;delta kT;dsimp only[vY,aK,bq,aE,cT,ak,ci,dx];have hb:=Qa3 aB;simp only[A0];rw[ae (by simp;omega)];unfold Kerb.lV;cases bad
 ·simp only[Bool.false_or];generalize hq:(!(_==(0:Int)))=q;cases q<;>rfl
 ·rfl
theorem aaX:Wk 194 4 Gh:=by
 refine cA Tryz.func194 rfl fun xs bl r h=> ?_;unfold Gh at h;split at h;case h_2=>cases h
 rename_i B at_ bad;obtain⟨aB,rfl⟩:=dA h;show ea (G.env 194 4) G.rts (G.own 194) Tryz.f194 _ _ [0]=_;refine cw (AK [Zk B,Zz .i64 at_,Zd Yd] fun n bn bT=>aD (!!(bad || !bT==0)) (Zm (Zz .i64 0,[[Zk B,Zz .i64 (bif bad || !bT==0 then at_ else bn),Zd (bad || !bT==0)]])) (Zm (Zz .i64 n,[[Zk B,Zz .i64 (bif bad || !bT==0 then at_ else bn),Zd (bad || !bT==0)]]))) (by kernel_rfl) ?_;unfold AK;delta kT;dsimp only[wc,aK,bq,aE,cT,ak,ci,dx];have hb:=Qa3 aB;simp only[A0];rw[ae (by simp;omega)];unfold Kerb.fD;cases bad
 ·simp only[Bool.false_or];generalize hq:(!(_==(0:Int)))=q;cases q<;>rfl
 ·rfl
theorem aa0:Wk 197 4 Gi:=by
 refine cA Tryz.func197 rfl fun xs bl r h=> ?_;unfold Gi at h;split at h;case h_2=>cases h
 rename_i B at_ bad;obtain⟨aB,rfl⟩:=dA h;show ea (G.env 197 4) G.rts (G.own 197) Tryz.f197 _ _ [0]=_;refine cw (oV [Zk B,Zz .i64 at_] fun n bn bT=>Zm (Zz .i64 n,[[Zk B,Zz .i64 (bif bT==0 then bn else at_),Zd (bad || !bT==0)]])) (by kernel_rfl) ?_;unfold oV;delta kT;dsimp only[su,aK,bq,aE,cT,ak,ci,dx];have hb:=Qa3 aB;simp only[A0,Yh,Xy,Kerb.eD.av];rw[ae (by simp;omega)];unfold Kerb.o_;rfl
theorem aa_:Wk 214 4 pJ:=by
 refine cA Tryz.func214 rfl fun xs bl r h=> ?_;unfold pJ at h;split at h;case h_2=>cases h
 rename_i b n;obtain⟨aB,rfl⟩:=dA h;refine cw (Zv (wh [Zk b,Zz .i64 n,Zz .i64 1,Zd Yd] []) (kO fun l=>Zm (AV.bE l,[]))) (by kernel_rfl) ?_;delta kO;dsimp only[wh,aK,bq,aE,cT,ak,ci,dx];simp only[Qa2] at aB;simp only[A0];rw[ae (by simp;omega)];rfl
theorem aa':Wk 215 4 oE:=by
 refine cA Tryz.func215 rfl fun xs bl r h=> ?_;unfold oE at h;split at h;case h_2=>cases h
 rename_i b x y z;obtain⟨aB,rfl⟩:=dA h;refine cw (Zv (oF [Zk b,Zq x] []) (kO fun l=>Zv (oF [Zk l,Zq y] []) (kO fun l=>Zv (oF [Zk l,Zq z] []) (kO fun l=>Zm (AV.bE l,[]))))) (by kernel_rfl) ?_;delta kO;dsimp only[oF,aK,bq,aE,cT,ak,ci,dx];simp only[Qa2] at aB;simp only[A0];rw[ae (by simp;omega),ae (by simp[Kerb.bg];omega),ae (by simp[Kerb.bg];omega)];rfl
theorem abb:Wk 216 4 kD:=by
 refine cA Tryz.func216 rfl fun xs bl r h=> ?_;unfold kD at h;split at h;case h_2=>cases h
 rename_i b n aq;obtain⟨aB,rfl⟩:=dA h;refine cw (Zv (wh [Zk b,Zz .i64 n,Zz .i64 4,Zd aq] []) (kO fun l=>Zm (AV.bE l,[]))) (by kernel_rfl) ?_;delta kO;dsimp only[wh,aK,bq,aE,cT,ak,ci,dx];simp only[Qa2] at aB;simp only[A0];rw[ae (by simp;omega)];rfl
theorem abj:Wk 223 4 Gk:=by
 refine cA Tryz.func223 rfl fun xs bl r h=> ?_;unfold Gk at h;split at h;case h_2=>cases h
 rename_i lb t st en k;obtain⟨aB,rfl⟩:=dA h;refine cw (let t0:Option (AV×aC):=aD (!Zj t 4294967295) (Zm (Zz .i64 104,[])) (aD (Kerb.iQ lb) (aD (!Zj st 4294967295) (Zm (Zz .i64 104,[])) (aD (!Zj en 4294967295) (Zm (Zz .i64 104,[])) (aD (!k==0) (Zm (Zz .i64 108,[])) (Zm (Zz .i64 0,[]))))) (Zv (xe [Zz .u64 k] []) (kL fun b=>aD (!b) (Zm (Zz .i64 10,[])) (aD (!st==0) (Zm (Zz .i64 108,[])) (aD (!en==0) (Zm (Zz .i64 108,[])) (Zm (Zz .i64 0,[])))))));aD (!Kerb.iQ lb) (aD (!lb==[(67:UInt8),(80:UInt8),(87:UInt8),(108:UInt8)]) (Zm (Zz .i64 80,[])) t0) t0) (by kernel_rfl) ?_;delta kL;dsimp only[xe,aK,bq,aE,cT,ak,ci,dx];have O_:([103,84,71,83]:List UInt8)=Kerb.vB:=rfl;have Iv:([103,84,75,84]:List UInt8)=Kerb.lq:=rfl;have Ly:([67,80,87,108]:List UInt8)=Kerb.g9:=rfl;have Ey:([67,80,87,100]:List UInt8)=Kerb.po:=rfl;have O':([116,103,115,84]:List UInt8)=Kerb.zn:=rfl;have CG:([116,107,116,71]:List UInt8)=Kerb.qc:=rfl;simp only[A0,Ly,aB];unfold Kerb.aW;simp only;cases ht:Kerb.iQ lb
 ·rw[Bool.not_false,cc];cases hc:(lb==Kerb.g9)
  ·rfl
  rw[Zp,aA,Qa0 (by simp)];cases h1:Zj t 4294967295
  ·rfl
  rw[Zp,aA,Qa0 (by simp),aA,Qa0 (by simp)];cases h2:Kerb.bp k
  ·rfl
  rw[Zp,aA,Qa0 (by simp)];by_cases h3:st=0;case neg=>rw[ah (by simpa using h3),Qa1 (.inl h3)]
  rw[aj (by simp[h3])];by_cases h4:en=0;case neg=>rw[ah (by simpa using h4),Qa1 (.inr h4)]
  rw[aj (by simp[h4]),Qa0 (by simp[h3,h4])]
 ·rw[Zp,aA,Qa0 (by simp)];cases h1:Zj t 4294967295
  ·rfl
  rw[Zp,aA,Qa0 (by simp),cc,Qa1 rfl];cases h2:Zj st 4294967295
  ·rfl
  rw[Zp,aA];cases h3:Zj en 4294967295
  ·rfl
  rw[Zp,aA,Qa0 (by simp)];by_cases h4:k=0
  ·rw[aj (by simp[h4]),Qa0 (by simp[h4])]
  ·rw[ah (by simpa using h4),Qa1 h4]
theorem abz:Wk 243 4 Ai:=by
 refine cA Tryz.func243 rfl fun xs bl r h=> ?_;unfold Ai at h;split at h;case h_2=>cases h
 rename_i b n aq;obtain⟨aB,rfl⟩:=dA h;refine cw (Zv (wh [Zk b,Zz .i64 n,Zz .i64 2,Zd aq] []) (kO fun l=>Zm (AV.bE l,[]))) (by kernel_rfl) ?_;delta kO;dsimp only[wh,aK,bq,aE,cT,ak,ci,dx];simp only[Qa2] at aB;simp only[A0];rw[ae (by simp;omega)];rfl
theorem abE:Wk 248 4 Gp:=by
 refine cA Tryz.func248 rfl fun xs bl r h=> ?_;unfold Gp at h;split at h;case h_2=>cases h
 rename_i b at_ most li;obtain⟨aB,rfl⟩:=dA h;refine cw (AK [Zk b,Zz .i64 at_,Zd li] fun n bn bT=>aD (!bT==0) (Zm (Yu [Zk [],Zz .i64 0,Zd Yd],[])) (aD (Zu (n>most)) (Zm (Yu [Zk [],Zz .i64 0,Zd Yd],[])) (qK [Zk b,Zz .i64 bn,Zz .i64 n] fun b n eO=>Zm (Yu [Zk b,Zz .i64 n,Zd (eO==0)],[])))) (by kernel_rfl) ?_;unfold qK AK;delta kT;dsimp only[qH,wc,aK,bq,aE,cT,ak,ci,dx];simp only[Yp,Qa2] at aB;have h1:b.length<=4611686018427387904:=by omega
 simp only[A0,Yh,Xy,Kerb.eD.av,aB,h1,Qb2];unfold Kerb.fH;by_cases h2:(Kerb.get b at_ 2 li).err=0;case neg=>rw[ah (by simpa using h2),Qa1 (.inl h2)]
 rw[aj (by simp[h2])];by_cases h3:most<(Kerb.get b at_ 2 li).val
 ·rw[ah (by simpa using h3),Qa1 (.inr h3)]
 rw[aj (by simpa using h3),Qa0 (by simp[h2,h3])]
theorem abO:Wk 262 4 Al:=by
 refine cA Tryz.func262 rfl fun xs bl r h=> ?_;unfold Al at h;split at h;case h_2=>cases h
 rename_i s bad;obtain⟨aB,rfl⟩:=dA h;refine cw (Zv (bw (fun st=>aK st fun b r=>aK r fun cL r=>aE r fun eP r=>ak .i64 r fun n r=>ak .i64 r fun bn r=>let t0:Option (List AV ⊕ Ex×List AV):=Zm (Yf (Ex.ret,[Zq b,Zq cL,Zd Yd,Zz .i64 n,Zz .i64 bn]));let t1:Bool:=Zu (0<=bn)&&Zu (bn<(↑(Zy b):Int));let t2:Int:=(↑(UInt8.toNat (Zf b (Zx bn) (0:UInt8))):Int);aw r (aD (Zu (bn<n)) (az t1 (aD (Zu (t2<(↑(UInt8.toNat (33:UInt8)):Int))) t0 (az t1 (aD (Zu (t2>(↑(UInt8.toNat (126:UInt8)):Int))) t0 (az t1 (aD (Zu (Kerb.indexOf (Zf b (Zx bn) (0:UInt8)) cL>=0)) t0 (Zm (Xz [Zq b,Zq cL,Zd eP,Zz .i64 n,Zz .i64 (Zw .i64 (bn+1))])))))))) (Zm (Yf (Xw 0,[Zq b,Zq cL,Zd eP,Zz .i64 n,Zz .i64 bn]))))) [Zq s,Zq bad,Zd Yd,Zz .i64 (↑(Zy s):Int),Zz .i64 0]) fun(r:Ex×List AV)=>aK (Yv r) fun b eI=>aK eI fun b eS=>aE eS fun b eZ=>ak .i64 eZ fun n f_=>ak .i64 f_ fun n iq=>aw iq (jp r.1 (Zm (Zd b,[])) fun(j:Nat)=>aD (Xk j 0) (Zm (Zd Zb,[])) Wu)) (by kernel_rfl) ?_;try dsimp only[aK,bq,aE,cT,ak,ci,dx]
 simp only[Qa2] at aB;refine b_ (fun i:Nat=>[Zq s,Zq bad,Zd Yd,Zz Xm (s.length:Int),Zz Xm (i:Int)]) (fun i=>i<=s.length/\Kerb.dO s bad=Kerb.dO (s.drop i) bad) (fun i=>s.length-i)
  (fun r=>∃ i:Nat,r.2=[Zq s,Zq bad,Zd Yd,Zz Xm (s.length:Int),Zz Xm (i:Int)]/\((r.1 = .ret/\Kerb.dO s bad=Yd)\/(r.1 = .exit 0/\Kerb.dO s bad=Zb))) 0 ⟨Nat.zero_le _,rfl⟩ rfl ?_ ?_
 ·rintro i ⟨hi,hp⟩;simp only[A0];by_cases eY:i<s.length
  ·have hc:(Zu ((0:Int)<=(i:Int))&&Zu ((i:Int)<(s.length:Int)))=Zb:=by simp;omega
   have hd:=Kerb.oI eY;rw[ah (by simp;omega),ae hc,Xg];have Po:Kerb.dO (s.drop i) bad=(Kerb.okB bad (s.getD i 0)&&Kerb.dO (s.drop (i+1)) bad):=by rw[hd];rfl
   generalize s.getD i 0=c at *;by_cases h1:c.toNat<33
   ·rw[ah (by simp;omega)];exact⟨_,rfl,i,rfl,.inl ⟨rfl,by rw[hp,Po];simp[Kerb.okB,h1]⟩⟩
   rw[aj (by simp;omega),ae hc];by_cases h2:126<c.toNat
   ·rw[ah (by simp;omega)];exact⟨_,rfl,i,rfl,.inl ⟨rfl,by rw[hp,Po];simp[Kerb.okB,h2]⟩⟩
   rw[aj (by simp;omega),ae hc];have h4:=Kerb.rJ c bad;by_cases h3:c∈bad
   ·rw[ah (by simpa using h4.2 h3)];exact⟨_,rfl,i,rfl,.inl ⟨rfl,by rw[hp,Po];simp[Kerb.okB,h3]⟩⟩
   rw[aj (by have:=mt h4.1 h3;simp;omega),wrap_i64 (by omega) (by omega)];exact⟨_,rfl,i+1,rfl,⟨by omega,by rw[hp,Po];simp[Kerb.okB,h1,h2,h3]⟩,by dsimp only;omega⟩
  ·rw[aj (by simp;omega)];exact⟨_,rfl,i,rfl,.inr ⟨rfl,by rw[hp,List.drop_eq_nil_of_le (by omega)];rfl⟩⟩
 ·rintro⟨e,l⟩ ⟨i,rfl,⟨rfl,hp⟩ | ⟨rfl,hp⟩⟩
  ·simp only[A0,hp]
  ·simp only[A0,hp];rfl
end Go.Proofs.YteafbgcimcpfiaaGreat
