/- What the functions of this seat compute. -/
import Derived.Test.YteafbgcimcpfiaaGreatWalk1
set_option linter.all false
open Go.Abs.AV renaming int→Zz,str→Zq,bs→Zk,bool→Zd,undef→Zn,ax→Yy,aS→Yu,aF→Yq,agg→Xv,aT→Xj
open List renaming length→Zy,getD→Zf,set→Zh
open Int renaming toNat→Zx,eq_ofNat_of_zero_le→Yx,toNat_natCast→Xg
open Go.IntKind renaming wrap→Zw,i64→Xm
open Option renaming bind→Zv,some→Zm,none→Wu
open Decidable renaming decide→Zu
open Kerb renaming within→Zj,af→Yz,ai→Yj,ag→Yk,next→Yg,rd→Xx,aU→Xu,swp_size→Xq,wr→Xp,cU→Xd,cH→Xf,dl→Xb,back→Xn,ch→Xh,fm→Wz,tq→Wy,header→Wv
open Bool renaming not_true→Zp,true→Zb,and_eq_true→Yp,false→Yd,true_and→Wx,and_self→Ww
open Nat renaming blt→Zg,beq_refl→Yn,beq→Xk
open Array renaming setIfInBounds→Yw,size_setIfInBounds→Yb
open Prod renaming snd→Yv,fst→Ym
open Sum renaming inr→Yf,inl→Xz
open Kerb.Client renaming av→Yh
open Kerb.Cache renaming av→Xy
open Go.Abs.Ex renaming exit→Xw
namespace Go.Proofs.YteafbgcimcpfiaaGreat
open Go Go.Abs Go.Proofs
set_option maxRecDepth 100000
theorem aeZ:Wk 268 3 Ib:=by
 refine cL Tryz.func268 rfl fun xs bl r h=> ?_;unfold Ib at h;split at h;case h_2=>cases h
 rename_i a b els;obtain⟨aC,rfl⟩:=dM h;show eA (G.env 268 3) G.rts (G.own 268) Tryz.f268 _ _ [0]=_
 refine cK (Zv (bF (fun st=>ay st fun x r=>Xj x fun y=>ak .i64 r fun n r=>ak .i64 r fun bt r=>aG r fun b r=>ak .i64 r fun cn r=>ak .i64 r fun eR r=>aw r (aE (Zu (eR<5)) (Zv (bF (fun st=>ay st fun x r=>Xj x fun y=>ak .i64 r fun n r=>ak .i64 r fun bV r=>ak .i64 r fun bL r=>ak .i64 r fun fD r=>aG r fun b r=>let t0:Option (List AV ⊕ Ex×List AV):=Zm (Yf (Xw 2,[Yq y,Zz .i64 n,Zz .i64 bV,Zz .i64 bL,Zz .i64 fD,Zd b]));aw r (aE (Zu (bL<bV)) (az (Zu (0<=bL)&&Zu (bL<(↑(Zy y):Int))&&Zb) (az (Zg (Zx bL) (Zy y)&&Zb) (Yy .u64 (Zf y (Zx bL) Zn) fun fy=>az (Zu (0<=Zw .i64 (bL-1))&&Zu (Zw .i64 (bL-1)<(↑(Zy y):Int))&&Zb) (az (Zg (Zx (Zw .i64 (bL-1))) (Zy y)&&Zb) (Yy .u64 (Zf y (Zx (Zw .i64 (bL-1))) Zn) fun hJ=>aE (!Zu (fy<hJ)) (Zm (Xz [Yq y,Zz .i64 n,Zz .i64 bV,Zz .i64 (Zw .i64 (bL+1)),Zz .i64 fD,Zd b])) t0))))) t0)) [Yq y,Zz .i64 n,Zz .i64 bt,Zz .i64 cn,Zz .i64 eR,Zd b]) fun(r:Ex×List AV)=>ay (Yv r) fun x eY=>Xj x fun y=>ak .i64 eY fun n fa=>ak .i64 fa fun bV fR=>ak .i64 fR fun bL gP=>ak .i64 gP fun fD iV=>let t1:List AV:=[Zz .i64 bL,Zz .i64 fD];aG iV fun b jU=>aw jU (jO r.1 (Zm (Yf (Ex.ret,Yq y::Zz .i64 n::Zz .i64 bV::Zd b::t1))) fun(j:Nat)=>aE (Xk j 2) (aE (bL==bV) (Zm (Yf (Ex.ret,Yq y::Zz .i64 n::Zz .i64 bV::Zd Zb::t1))) (aE (Zu (Zw .i64 (bV-n)<50)) (Zm (Yf (Ex.ret,Yq y::Zz .i64 n::Zz .i64 bV::Zd Yd::t1))) (az (Zu (0<=Zw .i64 (bL-1))&&Zu (Zw .i64 (bL-1)<(↑(Zy y):Int))&&Zb) (az (Zg (Zx (Zw .i64 (bL-1))) (Zy y)&&Zb) (Yy .u64 (Zf y (Zx (Zw .i64 (bL-1))) Zn) fun fy=>let t2:Bool:=Zg (Zx (Zw .i64 (bL-1))) (Zy (Zh y (Zx bL) (Zz .u64 fy)));az (Zu (0<=bL)&&Zu (bL<(↑(Zy y):Int))&&Zb) (az (Zg (Zx bL) (Zy y)&&Zb) (Yy .u64 (Zf y (Zx bL) Zn) fun hJ=>let t3:AV:=Yq (Zh (Zh y (Zx bL) (Zz .u64 fy)) (Zx (Zw .i64 (bL-1))) (Zz .u64 hJ));az (Zu (0<=bL)&&Zu (bL<(↑(Zy y):Int))&&Zb) (az (Zg (Zx bL) (Zy y)&&Zb) (Yy .u64 (Zf y (Zx bL) Zn) fun lm=>az (Zy [Zz .u64 fy]==nat_lit 1&&Zb&&Zb&&Zb&&Zg (Zx bL) (Zy y)) (az (Zu (0<=Zw .i64 (bL-1))&&Zu (Zw .i64 (bL-1)<(↑(Zy (Zh y (Zx bL) (Zz .u64 fy))):Int))&&Zb) (az (t2&&Zb) (Yy .u64 (Zf (Zh y (Zx bL) (Zz .u64 fy)) (Zx (Zw .i64 (bL-1))) Zn) fun mb=>az (Zy [Zz .u64 hJ]==nat_lit 1&&Zb&&Zb&&Zb&&t2) (aE (Zu (Zw .i64 (bL-n)>=2)) (Zv (bF (fun st=>ay st fun x r=>Xj x fun y=>ak .i64 r fun n r=>ak .i64 r fun gM r=>ak .i64 r fun jc r=>ak .i64 r fun gf r=>ak .i64 r fun bp r=>let t4:Bool:=Zu (0<=bp)&&Zu (bp<(↑(Zy y):Int))&&Zb;let t5:Bool:=Zu (0<=Zw .i64 (bp-1))&&Zu (Zw .i64 (bp-1)<(↑(Zy y):Int))&&Zb;aG r fun b r=>let t6:Option (List AV ⊕ Ex×List AV):=Zm (Yf (Xw 4,[Yq y,Zz .i64 n,Zz .i64 gM,Zz .i64 jc,Zz .i64 gf,Zz .i64 bp,Zd b]));aw r (aE (Zu (bp>=1)) (az t4 (az (Zg (Zx bp) (Zy y)&&Zb) (Yy .u64 (Zf y (Zx bp) Zn) fun hX=>az t5 (az (Zg (Zx (Zw .i64 (bp-1))) (Zy y)&&Zb) (Yy .u64 (Zf y (Zx (Zw .i64 (bp-1))) Zn) fun ft=>aE (!Zu (hX<ft)) t6 (az t5 (az (Zg (Zx (Zw .i64 (bp-1))) (Zy y)&&Zb) (Yy .u64 (Zf y (Zx (Zw .i64 (bp-1))) Zn) fun dp=>let t7:Bool:=Zg (Zx (Zw .i64 (bp-1))) (Zy (Zh y (Zx bp) (Zz .u64 dp)));az t4 (az (Zg (Zx bp) (Zy y)&&Zb) (Yy .u64 (Zf y (Zx bp) Zn) fun bG=>az t4 (az (Zg (Zx bp) (Zy y)&&Zb) (Yy .u64 (Zf y (Zx bp) Zn) fun py=>az (Zy [Zz .u64 dp]==nat_lit 1&&Zb&&Zb&&Zb&&Zg (Zx bp) (Zy y)) (az (Zu (0<=Zw .i64 (bp-1))&&Zu (Zw .i64 (bp-1)<(↑(Zy (Zh y (Zx bp) (Zz .u64 dp))):Int))&&Zb) (az (t7&&Zb) (Yy .u64 (Zf (Zh y (Zx bp) (Zz .u64 dp)) (Zx (Zw .i64 (bp-1))) Zn) fun pz=>az (Zy [Zz .u64 bG]==nat_lit 1&&Zb&&Zb&&Zb&&t7) (Zm (Xz [Yq (Zh (Zh y (Zx bp) (Zz .u64 dp)) (Zx (Zw .i64 (bp-1))) (Zz .u64 bG)),Zz .i64 n,Zz .i64 gM,Zz .i64 jc,Zz .i64 gf,Zz .i64 (Zw .i64 (bp-1)),Zd b]))))))))))))))))) t6)) [t3,Zz .i64 n,Zz .i64 bV,Zz .i64 bL,Zz .i64 fD,Zz .i64 (Zw .i64 (bL-1)),Zd b]) fun(r:Ex×List AV)=>ay (Yv r) fun x mf=>Xj x fun y=>ak .i64 mf fun n nz=>ak .i64 nz fun gM nq=>ak .i64 nq fun jc gO=>ak .i64 gO fun gf il=>ak .i64 il fun bp im=>aG im fun b kQ=>aw kQ (jO r.1 (Zm (Yf (Ex.ret,[Yq y,Zz .i64 n,Zz .i64 gM,Zd b,Zz .i64 jc,Zz .i64 gf]))) fun(j:Nat)=>aE (Xk j 4) (aE (Zu (Zw .i64 (gM-jc)>=2)) (Zv (bF (fun st=>ay st fun x r=>Xj x fun y=>ak .i64 r fun n r=>ak .i64 r fun hX r=>ak .i64 r fun ft r=>ak .i64 r fun dp r=>ak .i64 r fun bG r=>let t8:Bool:=Zu (0<=bG)&&Zu (bG<(↑(Zy y):Int))&&Zb;let t9:Bool:=Zu (0<=Zw .i64 (bG-1))&&Zu (Zw .i64 (bG-1)<(↑(Zy y):Int))&&Zb;aG r fun b r=>let t10:Option (List AV ⊕ Ex×List AV):=Zm (Yf (Xw 6,[Yq y,Zz .i64 n,Zz .i64 hX,Zz .i64 ft,Zz .i64 dp,Zz .i64 bG,Zd b]));aw r (aE (Zu (bG<hX)) (az t8 (az (Zg (Zx bG) (Zy y)&&Zb) (Yy .u64 (Zf y (Zx bG) Zn) fun py=>az t9 (az (Zg (Zx (Zw .i64 (bG-1))) (Zy y)&&Zb) (Yy .u64 (Zf y (Zx (Zw .i64 (bG-1))) Zn) fun pz=>aE (!Zu (py<pz)) t10 (az t9 (az (Zg (Zx (Zw .i64 (bG-1))) (Zy y)&&Zb) (Yy .u64 (Zf y (Zx (Zw .i64 (bG-1))) Zn) fun iL=>let t11:Bool:=Zg (Zx (Zw .i64 (bG-1))) (Zy (Zh y (Zx bG) (Zz .u64 iL)));az t8 (az (Zg (Zx bG) (Zy y)&&Zb) (Yy .u64 (Zf y (Zx bG) Zn) fun uh=>az t8 (az (Zg (Zx bG) (Zy y)&&Zb) (Yy .u64 (Zf y (Zx bG) Zn) fun O0=>az (Zy [Zz .u64 iL]==nat_lit 1&&Zb&&Zb&&Zb&&Zg (Zx bG) (Zy y)) (az (Zu (0<=Zw .i64 (bG-1))&&Zu (Zw .i64 (bG-1)<(↑(Zy (Zh y (Zx bG) (Zz .u64 iL))):Int))&&Zb) (az (t11&&Zb) (Yy .u64 (Zf (Zh y (Zx bG) (Zz .u64 iL)) (Zx (Zw .i64 (bG-1))) Zn) fun O1=>az (Zy [Zz .u64 uh]==nat_lit 1&&Zb&&Zb&&Zb&&t11) (Zm (Xz [Yq (Zh (Zh y (Zx bG) (Zz .u64 iL)) (Zx (Zw .i64 (bG-1))) (Zz .u64 uh)),Zz .i64 n,Zz .i64 hX,Zz .i64 ft,Zz .i64 dp,Zz .i64 (Zw .i64 (bG+1)),Zd b]))))))))))))))))) t10)) [Yq y,Zz .i64 n,Zz .i64 gM,Zz .i64 jc,Zz .i64 gf,Zz .i64 (Zw .i64 (jc+1)),Zd b]) fun(r:Ex×List AV)=>ay (Yv r) fun x lY=>Xj x fun y=>ak .i64 lY fun n lZ=>ak .i64 lZ fun hX mF=>ak .i64 mF fun ft vp=>ak .i64 vp fun dp vq=>ak .i64 vq fun bG vr=>aG vr fun b vt=>aw vt (jO r.1 (Zm (Yf (Ex.ret,[Yq y,Zz .i64 n,Zz .i64 hX,Zd b,Zz .i64 ft,Zz .i64 dp]))) fun(j:Nat)=>aE (Xk j 6) (Zm (Xz [Yq y,Zz .i64 n,Zz .i64 hX,Zd b,Zz .i64 ft,Zz .i64 (Zw .i64 (dp+1))])) Wu)) (Zm (Xz [Yq y,Zz .i64 n,Zz .i64 gM,Zd b,Zz .i64 jc,Zz .i64 (Zw .i64 (gf+1))]))) Wu)) (aE (Zu (Zw .i64 (bV-bL)>=2)) (Zv (bF (fun st=>ay st fun x r=>Xj x fun y=>ak .i64 r fun n r=>ak .i64 r fun gM r=>ak .i64 r fun jc r=>ak .i64 r fun gf r=>ak .i64 r fun bp r=>let t12:Bool:=Zu (0<=bp)&&Zu (bp<(↑(Zy y):Int))&&Zb;let t13:Bool:=Zu (0<=Zw .i64 (bp-1))&&Zu (Zw .i64 (bp-1)<(↑(Zy y):Int))&&Zb;aG r fun b r=>let t14:Option (List AV ⊕ Ex×List AV):=Zm (Yf (Xw 6,[Yq y,Zz .i64 n,Zz .i64 gM,Zz .i64 jc,Zz .i64 gf,Zz .i64 bp,Zd b]));aw r (aE (Zu (bp<gM)) (az t12 (az (Zg (Zx bp) (Zy y)&&Zb) (Yy .u64 (Zf y (Zx bp) Zn) fun hX=>az t13 (az (Zg (Zx (Zw .i64 (bp-1))) (Zy y)&&Zb) (Yy .u64 (Zf y (Zx (Zw .i64 (bp-1))) Zn) fun ft=>aE (!Zu (hX<ft)) t14 (az t13 (az (Zg (Zx (Zw .i64 (bp-1))) (Zy y)&&Zb) (Yy .u64 (Zf y (Zx (Zw .i64 (bp-1))) Zn) fun dp=>let t15:Bool:=Zg (Zx (Zw .i64 (bp-1))) (Zy (Zh y (Zx bp) (Zz .u64 dp)));az t12 (az (Zg (Zx bp) (Zy y)&&Zb) (Yy .u64 (Zf y (Zx bp) Zn) fun bG=>az t12 (az (Zg (Zx bp) (Zy y)&&Zb) (Yy .u64 (Zf y (Zx bp) Zn) fun py=>az (Zy [Zz .u64 dp]==nat_lit 1&&Zb&&Zb&&Zb&&Zg (Zx bp) (Zy y)) (az (Zu (0<=Zw .i64 (bp-1))&&Zu (Zw .i64 (bp-1)<(↑(Zy (Zh y (Zx bp) (Zz .u64 dp))):Int))&&Zb) (az (t15&&Zb) (Yy .u64 (Zf (Zh y (Zx bp) (Zz .u64 dp)) (Zx (Zw .i64 (bp-1))) Zn) fun pz=>az (Zy [Zz .u64 bG]==nat_lit 1&&Zb&&Zb&&Zb&&t15) (Zm (Xz [Yq (Zh (Zh y (Zx bp) (Zz .u64 dp)) (Zx (Zw .i64 (bp-1))) (Zz .u64 bG)),Zz .i64 n,Zz .i64 gM,Zz .i64 jc,Zz .i64 gf,Zz .i64 (Zw .i64 (bp+1)),Zd b]))))))))))))))))) t14)) [t3,Zz .i64 n,Zz .i64 bV,Zz .i64 bL,Zz .i64 fD,Zz .i64 (Zw .i64 (bL+1)),Zd b]) fun(r:Ex×List AV)=>ay (Yv r) fun x mf=>Xj x fun y=>ak .i64 mf fun n nz=>ak .i64 nz fun gM nq=>ak .i64 nq fun jc gO=>ak .i64 gO fun gf il=>ak .i64 il fun bp im=>aG im fun b kQ=>aw kQ (jO r.1 (Zm (Yf (Ex.ret,[Yq y,Zz .i64 n,Zz .i64 gM,Zd b,Zz .i64 jc,Zz .i64 gf]))) fun(j:Nat)=>aE (Xk j 6) (Zm (Xz [Yq y,Zz .i64 n,Zz .i64 gM,Zd b,Zz .i64 jc,Zz .i64 (Zw .i64 (gf+1))])) Wu)) (Zm (Xz [t3,Zz .i64 n,Zz .i64 bV,Zd b,Zz .i64 bL,Zz .i64 (Zw .i64 (fD+1))])))))))))))))))) Wu)) (Zm (Yf (Xw 0,[Yq y,Zz .i64 n,Zz .i64 bt,Zd b,Zz .i64 cn,Zz .i64 eR]))))) [Yq els,Zz .i64 a,Zz .i64 b,Zd Yd,Zz .i64 (Zw .i64 (a+1)),Zz .i64 0]) fun(r:Ex×List AV)=>ay (Yv r) fun x eY=>Xj x fun y=>ak .i64 eY fun n fa=>ak .i64 fa fun n fR=>aG fR fun b gP=>ak .i64 gP fun n iV=>ak .i64 iV fun n jU=>aw jU (jO r.1 (Zm (Zd b,[y])) fun(j:Nat)=>aE (Xk j 0) (Zm (Zd Yd,[y])) Wu)) (by kernel_rfl) ?_
 try dsimp only[aL,bu,aG,dK,ak,cO,dJ]
 simp only[Yp,Qa2] at aC;obtain⟨⟨⟨⟨⟨fW,hlen⟩,Iu⟩,vC⟩,hb⟩,fz⟩:=aC;obtain⟨d,rfl,hd⟩:=Kerb.lW fW;simp only[Xu] at hlen hb;obtain⟨a,rfl⟩:=Yx (show 0<=a by omega);obtain⟨b,rfl⟩:=Yx (show 0<=b by omega);simp only[Kerb.wZ,Kerb.eD,Xg];unfold Go.Sort.partialInsertionSort;rw[show Zw .i64 ((a:Int)+1)=((a+1:Nat):Int) from(Kerb.gE (by omega) (by omega)).trans (by omega)];refine cm (fun s:Array Int×Nat×Nat=>[Yq (Xn s.1),Zz .i64 (a:Int),Zz .i64 (b:Int),Zd Yd,Zz .i64 (s.2.1:Int),Zz .i64 (s.2.2:Int)]) (fun s=>s.1.size=d.size/\a+1<=s.2.1/\s.2.1<=b/\s.2.2<=5/\Go.Sort.partialIns Go.Sort.ltInt a b (5-s.2.2) s.2.1 s.1=Go.Sort.partialIns Go.Sort.ltInt a b 5 (a+1) d) (fun s=>5-s.2.2) (fun r=>∃ i n,(r.1 = .ret\/r.1 = .exit 0/\(Go.Sort.partialIns Go.Sort.ltInt a b 5 (a+1) d).2=Yd)/\r.2=[Yq (Xn (Go.Sort.partialIns Go.Sort.ltInt a b 5 (a+1) d).1),Zz .i64 (a:Int),Zz .i64 (b:Int),Zd (Go.Sort.partialIns Go.Sort.ltInt a b 5 (a+1) d).2,Zz .i64 i,Zz .i64 n]) (d,a+1,0) ⟨rfl,by dsimp only;omega,by dsimp only;omega,by dsimp only;omega,rfl⟩ rfl ?_ ?_
 ·rintro⟨e,i,s⟩ ⟨hs,hi,hib,hs5,hr⟩;dsimp only at hs hi hib hs5 hr ⊢;simp only[↓bI,↓b_,↓cT,↓dk,↓cZ];by_cases h5:s<5;case neg =>
   rw[aj (by simp;omega)];rw[show 5-s=0 by omega] at hr;refine⟨_,rfl,(i:Int),(s:Int),.inr ⟨rfl,?_⟩,?_⟩
   ·rw[<-hr];rfl
   ·rw[<-hr];rfl
  rw[ah (by simp;omega)];rw[show 5-s=(5-(s+1))+1 by omega,Go.Sort.partialIns_succ] at hr;rw[Kerb.Fb (by omega) (by omega) _ i rfl (by omega) hib];have hl:=Kerb.Cu (lt:=Go.Sort.ltInt) (d:=e) (b:=b) _ i rfl hib;generalize Go.Sort.scanSorted Go.Sort.ltInt e b i=j at hl hr ⊢;simp only[↓fG];simp only[↓bI,↓b_,↓cT,↓dk,↓cZ,↓jP];rw[ah (Yn _)];by_cases VR:j=b
  ·rw[Qa1 VR] at hr;rw[ah (by simp;omega)];refine⟨_,rfl,(j:Int),(s:Int),.inl rfl,?_⟩;rw[<-hr]
  rw[Qa0 VR] at hr;rw[aj (by simp;omega),show Zw .i64 ((b:Int)-(a:Int))=((b-a:Nat):Int) from(Kerb.gE (by omega) (by omega)).trans (by omega)];by_cases WS:b-a<50
  ·rw[Qa1 WS] at hr;rw[ah (by simp;omega)];refine⟨_,rfl,(j:Int),(s:Int),.inl rfl,?_⟩;rw[<-hr]
  rw[Qa0 WS] at hr;rw[aj (by simp;omega)];have g1:j<e.size:=by omega
  have g2:j-1<e.size:=by omega
  simp only[show Zw .i64 ((j:Int)-1)=((j-1:Nat):Int) from(Kerb.gE (by omega) (by omega)).trans (by omega),show Zw .i64 ((j:Int)-(a:Int))=((j-a:Nat):Int) from(Kerb.gE (by omega) (by omega)).trans (by omega)];rw[Xx g2,Xx g1,Xp g1 (by simp[Xu];omega),Xd,Xp (by rw[Yb];exact g2) (by simp[Xu];omega),Xd,show(Yw (Yw e j e[j-1]!) (j-1) e[j]!)=Go.Sort.swp e j (j-1) from rfl];have hz:(Go.Sort.swp e j (j-1)).size=d.size:=by rw[Xq,hs]
  generalize Go.Sort.swp e j (j-1)=f at hz hr ⊢;have fin:∀ g:Array Int,g.size=d.size->Go.Sort.fixUp Go.Sort.ltInt b j (Go.Sort.fixDown Go.Sort.ltInt a j f)=g->∃ y,Zm (Xz [Yq (Xn g),Zz .i64 (a:Int),Zz .i64 (b:Int),Zd Yd,Zz .i64 (j:Int),Zz .i64 (Zw .i64 ((s:Int)+1))])=Zm y/\CC (ρ:=Ex×List AV) (fun s:Array Int×Nat×Nat=>[Yq (Xn s.1),Zz .i64 (a:Int),Zz .i64 (b:Int),Zd Yd,Zz .i64 (s.2.1:Int),Zz .i64 (s.2.2:Int)]) (fun s=>s.1.size=d.size/\a+1<=s.2.1/\s.2.1<=b/\s.2.2<=5/\Go.Sort.partialIns Go.Sort.ltInt a b (5-s.2.2) s.2.1 s.1=Go.Sort.partialIns Go.Sort.ltInt a b 5 (a+1) d) (fun s=>5-s.2.2) (fun r=>∃ i n,(r.1 = .ret\/r.1 = .exit 0/\(Go.Sort.partialIns Go.Sort.ltInt a b 5 (a+1) d).2=Yd)/\r.2=[Yq (Xn (Go.Sort.partialIns Go.Sort.ltInt a b 5 (a+1) d).1),Zz .i64 (a:Int),Zz .i64 (b:Int),Zd (Go.Sort.partialIns Go.Sort.ltInt a b 5 (a+1) d).2,Zz .i64 i,Zz .i64 n]) (e,i,s) y:=fun g hg hf=>by
   rw[show Zw .i64 ((s:Int)+1)=((s+1:Nat):Int) from(Kerb.gE (by omega) (by omega)).trans (by omega)];refine⟨_,rfl,(g,j,s+1),rfl,⟨hg,by dsimp only;omega,by dsimp only;omega,by dsimp only;omega,?_⟩,by dsimp only;omega⟩;dsimp only;rw[<-hr,hf]
  have hbj:∀ g:Array Int,Zw .i64 ((b:Int)-(j:Int))=((b-j:Nat):Int):=fun _=>(Kerb.gE (by omega) (by omega)).trans (by omega);simp only[hbj f,show Zw .i64 ((j:Int)+1)=((j+1:Nat):Int) from(Kerb.gE (by omega) (by omega)).trans (by omega)];have up:∀ g:Array Int,g.size=d.size->Go.Sort.fixDown Go.Sort.ltInt a j f=g->b-j>=2->Go.Sort.fixUp Go.Sort.ltInt b j (Go.Sort.fixDown Go.Sort.ltInt a j f)=Go.Sort.shiftUp Go.Sort.ltInt b (j+1) g/\(Go.Sort.shiftUp Go.Sort.ltInt b (j+1) g).size=d.size:=fun g hg hf h=>⟨by rw[hf];unfold Go.Sort.fixUp;rw[Qa1 h],by rw[Kerb.xe _ _ _ rfl,hg]⟩;by_cases N0:j-a>=2
  ·rw[ah (by simp;omega)];obtain⟨m,hm⟩:=Kerb.Hx (A:=(a:Int)) (B:=(b:Int)) (I:=(j:Int)) (s:=(s:Int)) (bb:=Yd) (e:=4) (j-1) f (by omega) (by omega);rw[hm];have Kz:(Go.Sort.shiftDown Go.Sort.ltInt (j-1) f).size=d.size:=by rw[Kerb.tg,hz]
   have Kt:Go.Sort.fixDown Go.Sort.ltInt a j f=Go.Sort.shiftDown Go.Sort.ltInt (j-1) f:=by unfold Go.Sort.fixDown;rw[Qa1 N0]
   generalize Go.Sort.shiftDown Go.Sort.ltInt (j-1) f=g at Kz Kt ⊢;simp only[↓fG];simp only[↓bI,↓b_,↓cT,↓dk,↓cZ,↓jP];rw[ah (Yn _)];simp only[hbj g,show Zw .i64 ((j:Int)+1)=((j+1:Nat):Int) from(Kerb.gE (by omega) (by omega)).trans (by omega)];by_cases xB:b-j>=2
   ·rw[ah (by simp;omega)];obtain⟨m,hm⟩:=Kerb.Dv (A:=(a:Int)) (I:=(j:Int)) (s:=(s:Int)) (bb:=Yd) (b:=b) (e:=6) _ (j+1) g rfl (by omega) (by omega) (by omega) (by omega);rw[hm];simp only[↓fG];simp only[↓bI,↓b_,↓cT,↓dk,↓cZ,↓jP];rw[ah (Yn _)];exact fin _ (up g Kz Kt xB).2 (up g Kz Kt xB).1
   ·rw[aj (by simp;omega)];exact fin _ Kz (by rw[Kt];unfold Go.Sort.fixUp;rw[Qa0 xB])
  ·rw[aj (by simp;omega)];have Kt:Go.Sort.fixDown Go.Sort.ltInt a j f=f:=by unfold Go.Sort.fixDown;rw[Qa0 N0]
   by_cases xB:b-j>=2
   ·rw[ah (by simp;omega)];obtain⟨m,hm⟩:=Kerb.Dv (A:=(a:Int)) (I:=(j:Int)) (s:=(s:Int)) (bb:=Yd) (b:=b) (e:=6) _ (j+1) f rfl (by omega) (by omega) (by omega) (by omega);rw[hm];simp only[↓fG];simp only[↓bI,↓b_,↓cT,↓dk,↓cZ,↓jP];rw[ah (Yn _)];exact fin _ (up f hz Kt xB).2 (up f hz Kt xB).1
   ·rw[aj (by simp;omega)];exact fin _ hz (by rw[Kt];unfold Go.Sort.fixUp;rw[Qa0 xB])
 ·rintro⟨x,l⟩ ⟨i,n,h | ⟨h,hf⟩,rfl⟩
  ·dsimp only at h;subst h;simp only[↓bI,↓b_,↓cT,↓dk,↓cZ,↓R9]
  ·dsimp only at h;subst h;simp only[↓bI,↓b_,↓cT,↓dk,↓cZ,↓jP];rw[ah (Yn _),hf]
theorem ae1:Wk 270 3 DC:=by
 refine cL Tryz.func270 rfl fun xs bl r h=> ?_;unfold DC at h;split at h;case h_2=>cases h
 rename_i a b p els;obtain⟨aC,rfl⟩:=dM h;show eA (G.env 270 3) G.rts (G.own 270) Tryz.f270 _ _ [0]=_
 refine cK (az (Zu (0<=p)&&Zu (p<(↑(Zy els):Int))&&Zb) (az (Zg (Zx p) (Zy els)&&Zb) (Yy .u64 (Zf els (Zx p) Zn) fun n=>az (Zu (0<=a)&&Zu (a<(↑(Zy els):Int))&&Zb) (az (Zg (Zx a) (Zy els)&&Zb) (Yy .u64 (Zf els (Zx a) Zn) fun bt=>az (Zu (0<=a)&&Zu (a<(↑(Zy els):Int))&&Zb) (az (Zg (Zx a) (Zy els)&&Zb) (Yy .u64 (Zf els (Zx a) Zn) fun cn=>az (Zy [Zz .u64 n]==nat_lit 1&&Zb&&Zb&&Zb&&Zg (Zx a) (Zy els)) (az (Zu (0<=p)&&Zu (p<(↑(Zy (Zh els (Zx a) (Zz .u64 n))):Int))&&Zb) (az (Zg (Zx p) (Zy (Zh els (Zx a) (Zz .u64 n)))&&Zb) (Yy .u64 (Zf (Zh els (Zx a) (Zz .u64 n)) (Zx p) Zn) fun eR=>az (Zy [Zz .u64 bt]==nat_lit 1&&Zb&&Zb&&Zb&&Zg (Zx p) (Zy (Zh els (Zx a) (Zz .u64 n)))) (Zv (bF (fun st=>ay st fun x r=>Xj x fun y=>ak .i64 r fun n r=>ak .i64 r fun bV r=>ak .i64 r fun bL r=>aw r (Zv (bF (fun st=>ay st fun x r=>Xj x fun y=>ak .i64 r fun n r=>ak .i64 r fun fD r=>ak .i64 r fun fy r=>aw r (aE (Zu (fD<=fy)) (az (Zu (0<=n)&&Zu (n<(↑(Zy y):Int))&&Zb) (az (Zg (Zx n) (Zy y)&&Zb) (Yy .u64 (Zf y (Zx n) Zn) fun hJ=>az (Zu (0<=fD)&&Zu (fD<(↑(Zy y):Int))&&Zb) (az (Zg (Zx fD) (Zy y)&&Zb) (Yy .u64 (Zf y (Zx fD) Zn) fun lm=>aE (!Zu (hJ<lm)) (Zm (Xz [Yq y,Zz .i64 n,Zz .i64 (Zw .i64 (fD+1)),Zz .i64 fy])) (Zm (Yf (Xw 2,[Yq y,Zz .i64 n,Zz .i64 fD,Zz .i64 fy])))))))) (Zm (Yf (Xw 2,[Yq y,Zz .i64 n,Zz .i64 fD,Zz .i64 fy]))))) [Yq y,Zz .i64 n,Zz .i64 bV,Zz .i64 bL]) fun(r:Ex×List AV)=>ay (Yv r) fun x eY=>Xj x fun y=>ak .i64 eY fun n fa=>ak .i64 fa fun fD fR=>ak .i64 fR fun fy gP=>aw gP (jO r.1 (Zm (Yf (Ex.ret,[Yq y,Zz .i64 n,Zz .i64 fD,Zz .i64 fy]))) fun(j:Nat)=>aE (Xk j 2) (Zv (bF (fun st=>ay st fun x r=>Xj x fun y=>ak .i64 r fun n r=>ak .i64 r fun hJ r=>ak .i64 r fun lm r=>aw r (aE (Zu (hJ<=lm)) (az (Zu (0<=n)&&Zu (n<(↑(Zy y):Int))&&Zb) (az (Zg (Zx n) (Zy y)&&Zb) (Yy .u64 (Zf y (Zx n) Zn) fun mb=>az (Zu (0<=lm)&&Zu (lm<(↑(Zy y):Int))&&Zb) (az (Zg (Zx lm) (Zy y)&&Zb) (Yy .u64 (Zf y (Zx lm) Zn) fun gM=>aE (Zu (mb<gM)) (Zm (Xz [Yq y,Zz .i64 n,Zz .i64 hJ,Zz .i64 (Zw .i64 (lm-1))])) (Zm (Yf (Xw 4,[Yq y,Zz .i64 n,Zz .i64 hJ,Zz .i64 lm])))))))) (Zm (Yf (Xw 4,[Yq y,Zz .i64 n,Zz .i64 hJ,Zz .i64 lm]))))) [Yq y,Zz .i64 n,Zz .i64 fD,Zz .i64 fy]) fun(r:Ex×List AV)=>ay (Yv r) fun x iV=>Xj x fun y=>ak .i64 iV fun n jU=>ak .i64 jU fun hJ mf=>ak .i64 mf fun lm nz=>aw nz (jO r.1 (Zm (Yf (Ex.ret,[Yq y,Zz .i64 n,Zz .i64 hJ,Zz .i64 lm]))) fun(j:Nat)=>aE (Xk j 4) (aE (Zu (hJ>lm)) (Zm (Yf (Xw 0,[Yq y,Zz .i64 n,Zz .i64 hJ,Zz .i64 lm]))) (az (Zu (0<=lm)&&Zu (lm<(↑(Zy y):Int))&&Zb) (az (Zg (Zx lm) (Zy y)&&Zb) (Yy .u64 (Zf y (Zx lm) Zn) fun mb=>az (Zu (0<=hJ)&&Zu (hJ<(↑(Zy y):Int))&&Zb) (az (Zg (Zx hJ) (Zy y)&&Zb) (Yy .u64 (Zf y (Zx hJ) Zn) fun gM=>az (Zu (0<=hJ)&&Zu (hJ<(↑(Zy y):Int))&&Zb) (az (Zg (Zx hJ) (Zy y)&&Zb) (Yy .u64 (Zf y (Zx hJ) Zn) fun jc=>az (Zy [Zz .u64 mb]==nat_lit 1&&Zb&&Zb&&Zb&&Zg (Zx hJ) (Zy y)) (az (Zu (0<=lm)&&Zu (lm<(↑(Zy (Zh y (Zx hJ) (Zz .u64 mb))):Int))&&Zb) (az (Zg (Zx lm) (Zy (Zh y (Zx hJ) (Zz .u64 mb)))&&Zb) (Yy .u64 (Zf (Zh y (Zx hJ) (Zz .u64 mb)) (Zx lm) Zn) fun gf=>az (Zy [Zz .u64 gM]==nat_lit 1&&Zb&&Zb&&Zb&&Zg (Zx lm) (Zy (Zh y (Zx hJ) (Zz .u64 mb)))) (Zm (Xz [Yq (Zh (Zh y (Zx hJ) (Zz .u64 mb)) (Zx lm) (Zz .u64 gM)),Zz .i64 n,Zz .i64 (Zw .i64 (hJ+1)),Zz .i64 (Zw .i64 (lm-1))]))))))))))))) Wu)) Wu))) [Yq (Zh (Zh els (Zx a) (Zz .u64 n)) (Zx p) (Zz .u64 bt)),Zz .i64 a,Zz .i64 (Zw .i64 (a+1)),Zz .i64 (Zw .i64 (b-1))]) fun(r:Ex×List AV)=>ay (Yv r) fun x eY=>Xj x fun y=>ak .i64 eY fun n fa=>ak .i64 fa fun n fR=>ak .i64 fR fun bV gP=>aw gP (jO r.1 Wu fun(j:Nat)=>aE (Xk j 0) (Zm (Zz .i64 n,[y])) Wu)))))))))))) (by kernel_rfl) ?_
 dsimp only[ak];simp only[Yp,Qa2] at aC;obtain⟨⟨⟨⟨⟨⟨fW,hlen⟩,Iu⟩,vC⟩,hb⟩,TW⟩,hpb⟩:=aC;obtain⟨d,rfl,hd⟩:=Kerb.lW fW;simp only[Xu] at hlen hb;obtain⟨a,rfl⟩:=Yx (show 0<=a by omega);obtain⟨b,rfl⟩:=Yx (show 0<=b by omega);obtain⟨p,rfl⟩:=Yx (show 0<=p by omega);have h1:a<d.size:=by omega
 have h2:p<d.size:=by omega
 have hs:(Go.Sort.swp d a p).size=d.size:=Xq _ _ _;rw[Kerb.vo];unfold Go.Sort.partitionEqual;rw[Xx h2,Xx h1,Xp h1 (by simp[Xu];omega),Xd,Xp (by rw[Yb];exact h2) (by simp[Xu];omega),Xd,show(Yw (Yw d a d[p]!) p d[a]!)=Go.Sort.swp d a p from rfl];rw[show Zw .i64 ((a:Int)+1)=((a+1:Nat):Int) from(Kerb.gE (by omega) (by omega)).trans (by omega),show Zw .i64 ((b:Int)-1)=((b-1:Nat):Int) from(Kerb.gE (by omega) (by omega)).trans (by omega)];generalize Go.Sort.swp d a p=d2 at hs ⊢;refine cm (fun s:Array Int×Nat×Nat=>[Yq (Xn s.1),Zz .i64 (a:Int),Zz .i64 (s.2.1:Int),Zz .i64 (s.2.2:Int)]) (fun s=>s.1.size=d.size/\1<=s.2.1/\s.2.1<=s.2.2+2/\s.2.2<d.size/\Go.Sort.partEqLoop Go.Sort.ltInt a s.2.1 s.2.2 s.1=Go.Sort.partEqLoop Go.Sort.ltInt a (a+1) (b-1) d2) (fun s=>s.2.2+1-s.2.1) (fun r=>∃ n,r=(.exit 0,[Yq (Xn (Go.Sort.partEqLoop Go.Sort.ltInt a (a+1) (b-1) d2).2),Zz .i64 (a:Int),Zz .i64 ((Go.Sort.partEqLoop Go.Sort.ltInt a (a+1) (b-1) d2).1:Int),Zz .i64 n])) (d2,a+1,b-1) ⟨hs,by dsimp only;omega,by dsimp only;omega,by dsimp only;omega,rfl⟩ rfl ?_ ?_
 ·rintro⟨e,i,j⟩ ⟨hs,hi,Q1,hj,hr⟩;dsimp only at hs hi Q1 hj hr ⊢;simp only[↓bI,↓b_,↓cT,↓cZ];rw[Kerb.ZK (by omega) (by omega) (by omega) (by omega)];dsimp only;have u:=Go.Sort.scanUp_spec (fun x => !Go.Sort.ltInt e[a]! x) e j _ i rfl;have v:=Go.Sort.scanDown_spec (fun x=>Go.Sort.ltInt e[a]! x) e (Go.Sort.scanUp (fun x => !Go.Sort.ltInt e[a]! x) e j i) j;rw[Go.Sort.partEqLoop_eq] at hr;have hup:j+1<i->Go.Sort.scanUp (fun x => !Go.Sort.ltInt e[a]! x) e j i=i:=fun h=>by
   unfold Go.Sort.scanUp;rw[Qa0 (by simp;omega)]
  generalize Go.Sort.scanUp (fun x => !Go.Sort.ltInt e[a]! x) e j i=i3 at u v hr hup ⊢;simp only[↓bI,↓b_,↓cT,↓cZ,↓jP];rw[ah (Yn _)];have u1:=u.1;have u2:=u.2.1;rw[Kerb.Rs (by omega) (by omega) (by omega) (by omega)];dsimp only;generalize Go.Sort.scanDown (fun x=>Go.Sort.ltInt e[a]! x) e i3 j=j3 at v hr ⊢;simp only[↓bI,↓b_,↓cT,↓cZ,↓jP];rw[ah (Yn _)];have v1:=v.1;have v2:=v.2.1;by_cases hc:i3>j3
  ·rw[Qa1 hc] at hr;rw[ah (by simp;omega)];refine⟨_,rfl,(j3:Int),?_⟩;rw[<-hr]
  ·rw[Qa0 hc] at hr;have h3:i3<e.size:=by omega
   have h4:j3<e.size:=by omega
   rw[aj (by simp;omega)];rw[Xx h4,Xx h3,Xp h3 (by simp[Xu];omega),Xd,Xp (by rw[Yb];exact h4) (by simp[Xu];omega),Xd,show(Yw (Yw e i3 e[j3]!) j3 e[i3]!)=Go.Sort.swp e i3 j3 from rfl];rw[show Zw .i64 ((i3:Int)+1)=((i3+1:Nat):Int) from(Kerb.gE (by omega) (by omega)).trans (by omega),show Zw .i64 ((j3:Int)-1)=((j3-1:Nat):Int) from(Kerb.gE (by omega) (by omega)).trans (by omega)];exact⟨_,rfl,(Go.Sort.swp e i3 j3,i3+1,j3-1),rfl,⟨by dsimp only;rw[Xq,hs],by dsimp only;omega,by dsimp only;omega,by dsimp only;omega,hr⟩,by dsimp only;omega⟩
 ·rintro _ ⟨n,rfl⟩;simp only[↓bI,↓b_,↓cT,↓cZ,↓jP];rw[ah (Yn _)]
theorem ae2:Wk 271 3 DE:=by
 refine cL Tryz.func271 rfl fun xs bl r h=> ?_;unfold DE at h;split at h;case h_2=>cases h
 rename_i a b p els;obtain⟨aC,rfl⟩:=dM h;show eA (G.env 271 3) G.rts (G.own 271) Tryz.f271 _ _ [0]=_
 refine cK (az (Zu (0<=p)&&Zu (p<(↑(Zy els):Int))&&Zb) (az (Zg (Zx p) (Zy els)&&Zb) (Yy .u64 (Zf els (Zx p) Zn) fun n=>az (Zu (0<=a)&&Zu (a<(↑(Zy els):Int))&&Zb) (az (Zg (Zx a) (Zy els)&&Zb) (Yy .u64 (Zf els (Zx a) Zn) fun bt=>az (Zu (0<=a)&&Zu (a<(↑(Zy els):Int))&&Zb) (az (Zg (Zx a) (Zy els)&&Zb) (Yy .u64 (Zf els (Zx a) Zn) fun cn=>az (Zy [Zz .u64 n]==nat_lit 1&&Zb&&Zb&&Zb&&Zg (Zx a) (Zy els)) (az (Zu (0<=p)&&Zu (p<(↑(Zy (Zh els (Zx a) (Zz .u64 n))):Int))&&Zb) (az (Zg (Zx p) (Zy (Zh els (Zx a) (Zz .u64 n)))&&Zb) (Yy .u64 (Zf (Zh els (Zx a) (Zz .u64 n)) (Zx p) Zn) fun eR=>az (Zy [Zz .u64 bt]==nat_lit 1&&Zb&&Zb&&Zb&&Zg (Zx p) (Zy (Zh els (Zx a) (Zz .u64 n)))) (Zv (bF (fun st=>ay st fun x r=>Xj x fun y=>ak .i64 r fun n r=>ak .i64 r fun bV r=>ak .i64 r fun bL r=>aw r (aE (Zu (bV<=bL)) (az (Zu (0<=bV)&&Zu (bV<(↑(Zy y):Int))&&Zb) (az (Zg (Zx bV) (Zy y)&&Zb) (Yy .u64 (Zf y (Zx bV) Zn) fun fD=>az (Zu (0<=n)&&Zu (n<(↑(Zy y):Int))&&Zb) (az (Zg (Zx n) (Zy y)&&Zb) (Yy .u64 (Zf y (Zx n) Zn) fun fy=>aE (Zu (fD<fy)) (Zm (Xz [Yq y,Zz .i64 n,Zz .i64 (Zw .i64 (bV+1)),Zz .i64 bL])) (Zm (Yf (Xw 0,[Yq y,Zz .i64 n,Zz .i64 bV,Zz .i64 bL])))))))) (Zm (Yf (Xw 0,[Yq y,Zz .i64 n,Zz .i64 bV,Zz .i64 bL]))))) [Yq (Zh (Zh els (Zx a) (Zz .u64 n)) (Zx p) (Zz .u64 bt)),Zz .i64 a,Zz .i64 (Zw .i64 (a+1)),Zz .i64 (Zw .i64 (b-1))]) fun(r:Ex×List AV)=>ay (Yv r) fun x eY=>Xj x fun y=>ak .i64 eY fun n fa=>ak .i64 fa fun bV fR=>ak .i64 fR fun bL gP=>aw gP (jO r.1 Wu fun(j:Nat)=>aE (Xk j 0) (Zv (bF (fun st=>ay st fun x r=>Xj x fun y=>ak .i64 r fun n r=>ak .i64 r fun fD r=>ak .i64 r fun fy r=>aw r (aE (Zu (fD<=fy)) (az (Zu (0<=fy)&&Zu (fy<(↑(Zy y):Int))&&Zb) (az (Zg (Zx fy) (Zy y)&&Zb) (Yy .u64 (Zf y (Zx fy) Zn) fun hJ=>az (Zu (0<=n)&&Zu (n<(↑(Zy y):Int))&&Zb) (az (Zg (Zx n) (Zy y)&&Zb) (Yy .u64 (Zf y (Zx n) Zn) fun lm=>aE (!Zu (hJ<lm)) (Zm (Xz [Yq y,Zz .i64 n,Zz .i64 fD,Zz .i64 (Zw .i64 (fy-1))])) (Zm (Yf (Xw 2,[Yq y,Zz .i64 n,Zz .i64 fD,Zz .i64 fy])))))))) (Zm (Yf (Xw 2,[Yq y,Zz .i64 n,Zz .i64 fD,Zz .i64 fy]))))) [Yq y,Zz .i64 n,Zz .i64 bV,Zz .i64 bL]) fun(r:Ex×List AV)=>ay (Yv r) fun x iV=>Xj x fun y=>ak .i64 iV fun n jU=>ak .i64 jU fun fD mf=>ak .i64 mf fun fy nz=>aw nz (jO r.1 Wu fun(j:Nat)=>aE (Xk j 2) (aE (Zu (fD>fy)) (az (Zu (0<=n)&&Zu (n<(↑(Zy y):Int))&&Zb) (az (Zg (Zx n) (Zy y)&&Zb) (Yy .u64 (Zf y (Zx n) Zn) fun hJ=>az (Zu (0<=fy)&&Zu (fy<(↑(Zy y):Int))&&Zb) (az (Zg (Zx fy) (Zy y)&&Zb) (Yy .u64 (Zf y (Zx fy) Zn) fun lm=>az (Zu (0<=fy)&&Zu (fy<(↑(Zy y):Int))&&Zb) (az (Zg (Zx fy) (Zy y)&&Zb) (Yy .u64 (Zf y (Zx fy) Zn) fun mb=>az (Zy [Zz .u64 hJ]==nat_lit 1&&Zb&&Zb&&Zb&&Zg (Zx fy) (Zy y)) (az (Zu (0<=n)&&Zu (n<(↑(Zy (Zh y (Zx fy) (Zz .u64 hJ))):Int))&&Zb) (az (Zg (Zx n) (Zy (Zh y (Zx fy) (Zz .u64 hJ)))&&Zb) (Yy .u64 (Zf (Zh y (Zx fy) (Zz .u64 hJ)) (Zx n) Zn) fun gM=>az (Zy [Zz .u64 lm]==nat_lit 1&&Zb&&Zb&&Zb&&Zg (Zx n) (Zy (Zh y (Zx fy) (Zz .u64 hJ)))) (Zm (Yu [Zz .i64 fy,Zd Zb],[Zh (Zh y (Zx fy) (Zz .u64 hJ)) (Zx n) (Zz .u64 lm)])))))))))))) (az (Zu (0<=fy)&&Zu (fy<(↑(Zy y):Int))&&Zb) (az (Zg (Zx fy) (Zy y)&&Zb) (Yy .u64 (Zf y (Zx fy) Zn) fun hJ=>az (Zu (0<=fD)&&Zu (fD<(↑(Zy y):Int))&&Zb) (az (Zg (Zx fD) (Zy y)&&Zb) (Yy .u64 (Zf y (Zx fD) Zn) fun lm=>az (Zu (0<=fD)&&Zu (fD<(↑(Zy y):Int))&&Zb) (az (Zg (Zx fD) (Zy y)&&Zb) (Yy .u64 (Zf y (Zx fD) Zn) fun mb=>az (Zy [Zz .u64 hJ]==nat_lit 1&&Zb&&Zb&&Zb&&Zg (Zx fD) (Zy y)) (az (Zu (0<=fy)&&Zu (fy<(↑(Zy (Zh y (Zx fD) (Zz .u64 hJ))):Int))&&Zb) (az (Zg (Zx fy) (Zy (Zh y (Zx fD) (Zz .u64 hJ)))&&Zb) (Yy .u64 (Zf (Zh y (Zx fD) (Zz .u64 hJ)) (Zx fy) Zn) fun gM=>az (Zy [Zz .u64 lm]==nat_lit 1&&Zb&&Zb&&Zb&&Zg (Zx fy) (Zy (Zh y (Zx fD) (Zz .u64 hJ)))) (Zv (bF (fun st=>ay st fun x r=>Xj x fun y=>ak .i64 r fun n r=>ak .i64 r fun jc r=>ak .i64 r fun gf r=>aw r (Zv (bF (fun st=>ay st fun x r=>Xj x fun y=>ak .i64 r fun n r=>ak .i64 r fun bp r=>ak .i64 r fun hX r=>aw r (aE (Zu (bp<=hX)) (az (Zu (0<=bp)&&Zu (bp<(↑(Zy y):Int))&&Zb) (az (Zg (Zx bp) (Zy y)&&Zb) (Yy .u64 (Zf y (Zx bp) Zn) fun ft=>az (Zu (0<=n)&&Zu (n<(↑(Zy y):Int))&&Zb) (az (Zg (Zx n) (Zy y)&&Zb) (Yy .u64 (Zf y (Zx n) Zn) fun dp=>aE (Zu (ft<dp)) (Zm (Xz [Yq y,Zz .i64 n,Zz .i64 (Zw .i64 (bp+1)),Zz .i64 hX])) (Zm (Yf (Xw 6,[Yq y,Zz .i64 n,Zz .i64 bp,Zz .i64 hX])))))))) (Zm (Yf (Xw 6,[Yq y,Zz .i64 n,Zz .i64 bp,Zz .i64 hX]))))) [Yq y,Zz .i64 n,Zz .i64 jc,Zz .i64 gf]) fun(r:Ex×List AV)=>ay (Yv r) fun x nq=>Xj x fun y=>ak .i64 nq fun n gO=>ak .i64 gO fun bp il=>ak .i64 il fun hX im=>aw im (jO r.1 (Zm (Yf (Ex.ret,[Yq y,Zz .i64 n,Zz .i64 bp,Zz .i64 hX]))) fun(j:Nat)=>aE (Xk j 6) (Zv (bF (fun st=>ay st fun x r=>Xj x fun y=>ak .i64 r fun n r=>ak .i64 r fun ft r=>ak .i64 r fun dp r=>aw r (aE (Zu (ft<=dp)) (az (Zu (0<=dp)&&Zu (dp<(↑(Zy y):Int))&&Zb) (az (Zg (Zx dp) (Zy y)&&Zb) (Yy .u64 (Zf y (Zx dp) Zn) fun bG=>az (Zu (0<=n)&&Zu (n<(↑(Zy y):Int))&&Zb) (az (Zg (Zx n) (Zy y)&&Zb) (Yy .u64 (Zf y (Zx n) Zn) fun py=>aE (!Zu (bG<py)) (Zm (Xz [Yq y,Zz .i64 n,Zz .i64 ft,Zz .i64 (Zw .i64 (dp-1))])) (Zm (Yf (Xw 8,[Yq y,Zz .i64 n,Zz .i64 ft,Zz .i64 dp])))))))) (Zm (Yf (Xw 8,[Yq y,Zz .i64 n,Zz .i64 ft,Zz .i64 dp]))))) [Yq y,Zz .i64 n,Zz .i64 bp,Zz .i64 hX]) fun(r:Ex×List AV)=>ay (Yv r) fun x kQ=>Xj x fun y=>ak .i64 kQ fun n lY=>ak .i64 lY fun ft lZ=>ak .i64 lZ fun dp mF=>aw mF (jO r.1 (Zm (Yf (Ex.ret,[Yq y,Zz .i64 n,Zz .i64 ft,Zz .i64 dp]))) fun(j:Nat)=>aE (Xk j 8) (aE (Zu (ft>dp)) (Zm (Yf (Xw 4,[Yq y,Zz .i64 n,Zz .i64 ft,Zz .i64 dp]))) (az (Zu (0<=dp)&&Zu (dp<(↑(Zy y):Int))&&Zb) (az (Zg (Zx dp) (Zy y)&&Zb) (Yy .u64 (Zf y (Zx dp) Zn) fun bG=>az (Zu (0<=ft)&&Zu (ft<(↑(Zy y):Int))&&Zb) (az (Zg (Zx ft) (Zy y)&&Zb) (Yy .u64 (Zf y (Zx ft) Zn) fun py=>az (Zu (0<=ft)&&Zu (ft<(↑(Zy y):Int))&&Zb) (az (Zg (Zx ft) (Zy y)&&Zb) (Yy .u64 (Zf y (Zx ft) Zn) fun pz=>az (Zy [Zz .u64 bG]==nat_lit 1&&Zb&&Zb&&Zb&&Zg (Zx ft) (Zy y)) (az (Zu (0<=dp)&&Zu (dp<(↑(Zy (Zh y (Zx ft) (Zz .u64 bG))):Int))&&Zb) (az (Zg (Zx dp) (Zy (Zh y (Zx ft) (Zz .u64 bG)))&&Zb) (Yy .u64 (Zf (Zh y (Zx ft) (Zz .u64 bG)) (Zx dp) Zn) fun iL=>az (Zy [Zz .u64 py]==nat_lit 1&&Zb&&Zb&&Zb&&Zg (Zx dp) (Zy (Zh y (Zx ft) (Zz .u64 bG)))) (Zm (Xz [Yq (Zh (Zh y (Zx ft) (Zz .u64 bG)) (Zx dp) (Zz .u64 py)),Zz .i64 n,Zz .i64 (Zw .i64 (ft+1)),Zz .i64 (Zw .i64 (dp-1))]))))))))))))) Wu)) Wu))) [Yq (Zh (Zh y (Zx fD) (Zz .u64 hJ)) (Zx fy) (Zz .u64 lm)),Zz .i64 n,Zz .i64 (Zw .i64 (fD+1)),Zz .i64 (Zw .i64 (fy-1))]) fun(r:Ex×List AV)=>ay (Yv r) fun x nq=>Xj x fun y=>ak .i64 nq fun n gO=>ak .i64 gO fun jc il=>ak .i64 il fun gf im=>aw im (jO r.1 Wu fun(j:Nat)=>aE (Xk j 4) (az (Zu (0<=n)&&Zu (n<(↑(Zy y):Int))&&Zb) (az (Zg (Zx n) (Zy y)&&Zb) (Yy .u64 (Zf y (Zx n) Zn) fun bp=>az (Zu (0<=gf)&&Zu (gf<(↑(Zy y):Int))&&Zb) (az (Zg (Zx gf) (Zy y)&&Zb) (Yy .u64 (Zf y (Zx gf) Zn) fun hX=>az (Zu (0<=gf)&&Zu (gf<(↑(Zy y):Int))&&Zb) (az (Zg (Zx gf) (Zy y)&&Zb) (Yy .u64 (Zf y (Zx gf) Zn) fun ft=>az (Zy [Zz .u64 bp]==nat_lit 1&&Zb&&Zb&&Zb&&Zg (Zx gf) (Zy y)) (az (Zu (0<=n)&&Zu (n<(↑(Zy (Zh y (Zx gf) (Zz .u64 bp))):Int))&&Zb) (az (Zg (Zx n) (Zy (Zh y (Zx gf) (Zz .u64 bp)))&&Zb) (Yy .u64 (Zf (Zh y (Zx gf) (Zz .u64 bp)) (Zx n) Zn) fun dp=>az (Zy [Zz .u64 hX]==nat_lit 1&&Zb&&Zb&&Zb&&Zg (Zx n) (Zy (Zh y (Zx gf) (Zz .u64 bp)))) (Zm (Yu [Zz .i64 gf,Zd Yd],[Zh (Zh y (Zx gf) (Zz .u64 bp)) (Zx n) (Zz .u64 hX)])))))))))))) Wu))))))))))))) Wu)) Wu)))))))))))) (by kernel_rfl) ?_
 dsimp only[ak];simp only[Yp,Qa2] at aC;obtain⟨⟨⟨⟨⟨⟨fW,hlen⟩,Iu⟩,vC⟩,hb⟩,TW⟩,hpb⟩:=aC;obtain⟨d,rfl,hd⟩:=Kerb.lW fW;simp only[Xu] at hlen hb;obtain⟨a,rfl⟩:=Yx (show 0<=a by omega);obtain⟨b,rfl⟩:=Yx (show 0<=b by omega);obtain⟨p,rfl⟩:=Yx (show 0<=p by omega);have h1:a<d.size:=by omega
 have h2:p<d.size:=by omega
 have hs:(Go.Sort.swp d a p).size=d.size:=Xq _ _ _;rw[Kerb.A_];unfold Go.Sort.partition;rw[Xx h2,Xx h1,Xp h1 (by simp[Xu];omega),Xd,Xp (by rw[Yb];exact h2) (by simp[Xu];omega),Xd,show(Yw (Yw d a d[p]!) p d[a]!)=Go.Sort.swp d a p from rfl];rw[show Zw .i64 ((a:Int)+1)=((a+1:Nat):Int) from(Kerb.gE (by omega) (by omega)).trans (by omega),show Zw .i64 ((b:Int)-1)=((b-1:Nat):Int) from(Kerb.gE (by omega) (by omega)).trans (by omega)];generalize Go.Sort.swp d a p=d1 at hs ⊢;rw[Kerb.K7 (by omega) (by omega) (by omega) (by omega)];dsimp only;have u:=Go.Sort.scanUp_spec (fun x=>Go.Sort.ltInt x d1[a]!) d1 (b-1) _ (a+1) rfl;generalize Go.Sort.scanUp (fun x=>Go.Sort.ltInt x d1[a]!) d1 (b-1) (a+1)=i2 at u ⊢;simp only[↓bI,↓b_,↓cT,↓cZ,↓jP];rw[ah (Yn _)];rw[Kerb.CJ (by omega) (by omega) (by omega) (by omega)];dsimp only;have v:=Go.Sort.scanDown_spec (fun x => !Go.Sort.ltInt x d1[a]!) d1 i2 (b-1);generalize Go.Sort.scanDown (fun x => !Go.Sort.ltInt x d1[a]!) d1 i2 (b-1)=j2 at v ⊢;simp only[↓bI,↓b_,↓cT,↓cZ,↓jP];rw[ah (Yn _)];have w2:=u.2.1 (by omega);have v1:=v.1;have v2:=v.2.1 (by omega);have u1:=u.1;by_cases hc:i2>j2
 ·have h3:j2<d1.size:=by omega
  have h4:a<d1.size:=by omega
  rw[ah (by simp;omega)];rw[Xx h4,Xx h3,Xp h3 (by simp[Xu];omega),Xd,Xp (by rw[Yb];exact h4) (by simp[Xu];omega),Xd,show(Yw (Yw d1 j2 d1[a]!) a d1[j2]!)=Go.Sort.swp d1 j2 a from rfl];rw[Qa1 hc]
 have h3:i2<d1.size:=by omega
 have h4:j2<d1.size:=by omega
 rw[aj (by simp;omega),Qa0 hc];rw[Xx h4,Xx h3,Xp h3 (by simp[Xu];omega),Xd,Xp (by rw[Yb];exact h4) (by simp[Xu];omega),Xd,show(Yw (Yw d1 i2 d1[j2]!) j2 d1[i2]!)=Go.Sort.swp d1 i2 j2 from rfl];rw[show Zw .i64 ((i2:Int)+1)=((i2+1:Nat):Int) from(Kerb.gE (by omega) (by omega)).trans (by omega),show Zw .i64 ((j2:Int)-1)=((j2-1:Nat):Int) from(Kerb.gE (by omega) (by omega)).trans (by omega)];have ga:(Go.Sort.swp d1 i2 j2).size=d.size:=by rw[Xq,hs]
 generalize Go.Sort.swp d1 i2 j2=d2 at ga ⊢;refine cm (fun s:Array Int×Nat×Nat=>[Yq (Xn s.1),Zz .i64 (a:Int),Zz .i64 (s.2.1:Int),Zz .i64 (s.2.2:Int)]) (fun s=>s.1.size=d.size/\1<=s.2.1/\s.2.1<=s.2.2+2/\s.2.2<d.size/\Go.Sort.partLoop Go.Sort.ltInt a s.2.1 s.2.2 s.1=Go.Sort.partLoop Go.Sort.ltInt a (i2+1) (j2-1) d2) (fun s=>s.2.2+1-s.2.1) (fun r=>∃ n,r=(.exit 4,[Yq (Xn (Go.Sort.partLoop Go.Sort.ltInt a (i2+1) (j2-1) d2).2),Zz .i64 (a:Int),Zz .i64 n,Zz .i64 ((Go.Sort.partLoop Go.Sort.ltInt a (i2+1) (j2-1) d2).1:Int)])/\(Go.Sort.partLoop Go.Sort.ltInt a (i2+1) (j2-1) d2).1<d.size/\(Go.Sort.partLoop Go.Sort.ltInt a (i2+1) (j2-1) d2).2.size=d.size) (d2,i2+1,j2-1) ⟨ga,by dsimp only;omega,by dsimp only;omega,by dsimp only;omega,rfl⟩ rfl ?_ ?_
 ·rintro⟨e,i,j⟩ ⟨hs,hi,Q1,hj,hr⟩;dsimp only at hs hi Q1 hj hr ⊢;simp only[↓bI,↓b_,↓cT,↓cZ];rw[Kerb.K7 (by omega) (by omega) (by omega) (by omega)];dsimp only;have u:=Go.Sort.scanUp_spec (fun x=>Go.Sort.ltInt x e[a]!) e j _ i rfl;have v:=Go.Sort.scanDown_spec (fun x => !Go.Sort.ltInt x e[a]!) e (Go.Sort.scanUp (fun x=>Go.Sort.ltInt x e[a]!) e j i) j;rw[Go.Sort.partLoop_eq] at hr;have hup:j+1<i->Go.Sort.scanUp (fun x=>Go.Sort.ltInt x e[a]!) e j i=i:=fun h=>by
   unfold Go.Sort.scanUp;rw[Qa0 (by simp;omega)]
  generalize Go.Sort.scanUp (fun x=>Go.Sort.ltInt x e[a]!) e j i=i3 at u v hr hup ⊢;simp only[↓bI,↓b_,↓cT,↓cZ,↓jP];rw[ah (Yn _)];have u1:=u.1;have u2:=u.2.1;rw[Kerb.CJ (by omega) (by omega) (by omega) (by omega)];dsimp only;generalize Go.Sort.scanDown (fun x => !Go.Sort.ltInt x e[a]!) e i3 j=j3 at v hr ⊢;simp only[↓bI,↓b_,↓cT,↓cZ,↓jP];rw[ah (Yn _)];have v1:=v.1;have v2:=v.2.1;by_cases hc:i3>j3
  ·rw[Qa1 hc] at hr;rw[ah (by simp;omega)];refine⟨_,rfl,(i3:Int),?_,?_,?_⟩
   ·rw[<-hr]
   ·rw[<-hr];dsimp only;omega
   ·rw[<-hr];exact hs
  ·rw[Qa0 hc] at hr;have h3:i3<e.size:=by omega
   have h4:j3<e.size:=by omega
   rw[aj (by simp;omega)];rw[Xx h4,Xx h3,Xp h3 (by simp[Xu];omega),Xd,Xp (by rw[Yb];exact h4) (by simp[Xu];omega),Xd,show(Yw (Yw e i3 e[j3]!) j3 e[i3]!)=Go.Sort.swp e i3 j3 from rfl];rw[show Zw .i64 ((i3:Int)+1)=((i3+1:Nat):Int) from(Kerb.gE (by omega) (by omega)).trans (by omega),show Zw .i64 ((j3:Int)-1)=((j3-1:Nat):Int) from(Kerb.gE (by omega) (by omega)).trans (by omega)];exact⟨_,rfl,(Go.Sort.swp e i3 j3,i3+1,j3-1),rfl,⟨by dsimp only;rw[Xq,hs],by dsimp only;omega,by dsimp only;omega,by dsimp only;omega,hr⟩,by dsimp only;omega⟩
 ·rintro _ ⟨n,rfl,hn,hz⟩;generalize Go.Sort.partLoop Go.Sort.ltInt a (i2+1) (j2-1) d2=q at hn hz ⊢;obtain⟨j4,e⟩:=q;dsimp only at hn hz ⊢;have h3:j4<e.size:=by omega
  have h4:a<e.size:=by omega
  simp only[↓bI,↓b_,↓cT,↓cZ,↓jP];rw[ah (Yn _)];rw[Xx h4,Xx h3,Xp h3 (by simp[Xu];omega),Xd,Xp (by rw[Yb];exact h4) (by simp[Xu];omega),Xd,show(Yw (Yw e j4 e[a]!) a e[j4]!)=Go.Sort.swp e j4 a from rfl]
theorem ae4:Wk 274 3 Qq:=by
 refine cL Tryz.func274 rfl fun xs bl r h=> ?_;unfold Qq at h;split at h;case h_2=>cases h
 rename_i s c;cases h;refine cK (Zm (Zz .i64 (Kerb.indexOf c s),[])) (by kernel_rfl) ?_;rfl
theorem ae5:Wk 275 3 DF:=by
 refine cL Tryz.func275 rfl fun xs bl r h=> ?_;unfold DF at h;split at h;case h_2=>cases h
 rename_i lo hi first els
 obtain⟨aC,rfl⟩:=dM h;show eA (G.env 275 3) G.rts (G.own 275) Tryz.f275 _ _ [0]=_;refine cK (Zv (bF (fun st=>ay st fun x r=>Xj x fun y=>ak .i64 r fun n r=>ak .i64 r fun bt r=>ak .i64 r fun cn r=>let t1:Bool:=Zu (0<=Zw .i64 (bt+cn))&&Zu (Zw .i64 (bt+cn)<(↑(Zy y):Int))&&Zb;let t5:AV:=Zf y (Zx (Zw .i64 (bt+cn))) Zn;let t7:Int:=Zw .i64 (Zw .i64 (2*cn)+1);let t10:Bool:=Zg (Zx (Zw .i64 (bt+cn))) (Zy y);let t11:List AV:=[Yq y,Zz .i64 n,Zz .i64 bt,Zz .i64 cn];let t3:Int:=Zw .i64 (bt+t7);let t4:Bool:=t10&&Zb;let t6:Int:=Zw .i64 (t7+1);let t9:Option (List AV ⊕ Ex×List AV):=Zm (Yf (Ex.ret,t11));let t2:Int:=Zw .i64 (bt+t6);let t8:Bool:=Zu (0<=t3)&&Zu (t3<(↑(Zy y):Int))&&Zb;let t0:Option (List AV ⊕ Ex×List AV):=az t1 (az t4 (Yy .u64 t5 fun eR=>az t8 (az (Zg (Zx t3) (Zy y)&&Zb) (Yy .u64 (Zf y (Zx t3) Zn) fun bV=>aE (!Zu (eR<bV)) t9 (az t8 (az (Zg (Zx t3) (Zy y)&&Zb) (Yy .u64 (Zf y (Zx t3) Zn) fun bL=>az t1 (az t4 (Yy .u64 t5 fun fD=>az t1 (az t4 (Yy .u64 t5 fun fy=>az (Zy [Zz .u64 bL]==nat_lit 1&&Zb&&Zb&&Zb&&t10) (az (Zu (0<=t3)&&Zu (t3<(↑(Zy (Zh y (Zx (Zw .i64 (bt+cn))) (Zz .u64 bL))):Int))&&Zb) (az (Zg (Zx t3) (Zy (Zh y (Zx (Zw .i64 (bt+cn))) (Zz .u64 bL)))&&Zb) (Yy .u64 (Zf (Zh y (Zx (Zw .i64 (bt+cn))) (Zz .u64 bL)) (Zx t3) Zn) fun hJ=>az (Zy [Zz .u64 fD]==nat_lit 1&&Zb&&Zb&&Zb&&Zg (Zx t3) (Zy (Zh y (Zx (Zw .i64 (bt+cn))) (Zz .u64 bL)))) (Zm (Xz [Yq (Zh (Zh y (Zx (Zw .i64 (bt+cn))) (Zz .u64 bL)) (Zx t3) (Zz .u64 fD)),Zz .i64 n,Zz .i64 bt,Zz .i64 t7]))))))))))))))));aw r (aE (Zu (t7>=n)) (Zm (Yf (Xw 0,t11))) (aE (Zu (t6<n)) (az t8 (az (Zg (Zx t3) (Zy y)&&Zb) (Yy .u64 (Zf y (Zx t3) Zn) fun eR=>az (Zu (0<=Zw .i64 (t3+1))&&Zu (Zw .i64 (t3+1)<(↑(Zy y):Int))&&Zb) (az (Zg (Zx (Zw .i64 (t3+1))) (Zy y)&&Zb) (Yy .u64 (Zf y (Zx (Zw .i64 (t3+1))) Zn) fun bV=>aE (Zu (eR<bV)) (az t1 (az t4 (Yy .u64 t5 fun bL=>az (Zu (0<=t2)&&Zu (t2<(↑(Zy y):Int))&&Zb) (az (Zg (Zx t2) (Zy y)&&Zb) (Yy .u64 (Zf y (Zx t2) Zn) fun fD=>aE (!Zu (bL<fD)) t9 (az (Zu (0<=t2)&&Zu (t2<(↑(Zy y):Int))&&Zb) (az (Zg (Zx t2) (Zy y)&&Zb) (Yy .u64 (Zf y (Zx t2) Zn) fun fy=>let t12:List AV:=Zh y (Zx (Zw .i64 (bt+cn))) (Zz .u64 fy);az t1 (az t4 (Yy .u64 t5 fun hJ=>az t1 (az t4 (Yy .u64 t5 fun lm=>az (Zy [Zz .u64 fy]==nat_lit 1&&Zb&&Zb&&Zb&&t10) (az (Zu (0<=t2)&&Zu (t2<(↑(Zy t12):Int))&&Zb) (az (Zg (Zx t2) (Zy t12)&&Zb) (Yy .u64 (Zf t12 (Zx t2) Zn) fun mb=>az (Zy [Zz .u64 hJ]==nat_lit 1&&Zb&&Zb&&Zb&&Zg (Zx t2) (Zy t12)) (Zm (Xz [Yq (Zh t12 (Zx t2) (Zz .u64 hJ)),Zz .i64 n,Zz .i64 bt,Zz .i64 t6]))))))))))))))))) t0))))) t0))) [Yq els,Zz .i64 hi,Zz .i64 first,Zz .i64 lo]) fun(r:Ex×List AV)=>ay (Yv r) fun x eY=>Xj x fun y=>ak .i64 eY fun n fa=>ak .i64 fa fun n fR=>ak .i64 fR fun n gP=>aw gP (jO r.1 (Zm (Yu [],[y])) fun(j:Nat)=>aE (Xk j 0) (Zm (Yu [],[y])) Wu)) (by kernel_rfl) ?_;try dsimp only[aL,bu,aG,dK,ak,cO,dJ]
 simp only[Yp,Qa2] at aC;obtain⟨⟨⟨⟨⟨⟨fW,hlen⟩,abU⟩,abJ⟩,W7⟩,hfh⟩,abV⟩:=aC;obtain⟨d,rfl,hd⟩:=Kerb.lW fW;simp only[Xu] at hlen hfh abV;unfold Kerb.sift;rw[hd];obtain⟨lo,rfl⟩:=Yx abU;obtain⟨hi,rfl⟩:=Yx abJ;obtain⟨first,rfl⟩:=Yx W7;simp only[Xg];refine cm (fun s:Array Int×Nat=>[Yq (Xn s.1),Zz .i64 (hi:Int),Zz .i64 (first:Int),Zz .i64 (s.2:Int)]) (fun s=>s.1.size=d.size/\s.2<=d.size/\Go.Sort.siftDown Go.Sort.ltInt hi first s.2 s.1=Go.Sort.siftDown Go.Sort.ltInt hi first lo d) (fun s=>hi-s.2) (fun r=>∃ n m k,(r.1 = .exit 0\/r.1 = .ret)/\r.2=[Yq (Xn (Go.Sort.siftDown Go.Sort.ltInt hi first lo d)),Zz .i64 n,Zz .i64 m,Zz .i64 k]) (d,lo) ⟨rfl,by dsimp only;omega,rfl⟩ rfl ?_ ?_
 ·rintro⟨e,root⟩ ⟨hs,hb,hr⟩;dsimp only at hs hb hr ⊢;simp only[↓bI,↓b_,↓cT,↓cZ];simp only[show Zw .i64 ((2:Int)*(root:Int))=((2*root:Nat):Int) from(Kerb.gE (by omega) (by omega)).trans (by omega)];simp only[show Zw .i64 (((2*root:Nat):Int)+1)=((2*root+1:Nat):Int) from(Kerb.gE (by omega) (by omega)).trans (by omega)];simp only[show Zw .i64 (((2*root+1:Nat):Int)+1)=((2*root+1+1:Nat):Int) from(Kerb.gE (by omega) (by omega)).trans (by omega)];simp only[show Zw .i64 ((first:Int)+(root:Int))=((first+root:Nat):Int) from(Kerb.gE (by omega) (by omega)).trans (by omega)];simp only[show Zw .i64 ((first:Int)+((2*root+1:Nat):Int))=((first+(2*root+1):Nat):Int) from(Kerb.gE (by omega) (by omega)).trans (by omega)];simp only[show Zw .i64 ((first:Int)+((2*root+1+1:Nat):Int))=((first+(2*root+1+1):Nat):Int) from(Kerb.gE (by omega) (by omega)).trans (by omega)];simp only[show Zw .i64 (((first+(2*root+1):Nat):Int)+1)=((first+(2*root+1)+1:Nat):Int) from(Kerb.gE (by omega) (by omega)).trans (by omega)];by_cases hc:hi<=2*root+1
  ·rw[ah (by simp;omega)];refine⟨_,rfl,(hi:Int),(first:Int),(root:Int),.inl rfl,?_⟩;rw[<-hr];unfold Go.Sort.siftDown;rw[dif_pos hc]
  rw[aj (by simp;omega)];by_cases h2:2*root+1+1<hi
  ·have h3:first+(2*root+1)<e.size:=by omega
   have h4:first+(2*root+1)+1<e.size:=by omega
   rw[ah (by simp;omega),Xx h3,Xx h4];by_cases h5:e[first+(2*root+1)]! < e[first+(2*root+1)+1]!
   ·rw[ah (by simpa using h5)];have hq:first+(2*root+1+1)<e.size:=by omega
    have hp:first+root<e.size:=by omega
    rw[Xx hp,Xx hq];by_cases hl:e[first+root]! < e[first+(2*root+1+1)]!;case neg =>
     rw[ah (by simpa using hl)];refine⟨_,rfl,(hi:Int),(first:Int),(root:Int),.inr rfl,?_⟩;rw[<-hr];unfold Go.Sort.siftDown;rw[dif_neg (by omega),Qa1 (by simp[Go.Sort.ltInt,h5];omega),Qa1 (by simp[Go.Sort.ltInt,hl])]
    rw[aj (by simpa using hl),Kerb.sw hp hq (fun l=>Zm (Xz [Yq l,Zz .i64 (hi:Int),Zz .i64 (first:Int),Zz .i64 (((2*root+1+1):Nat):Int)]))];refine⟨_,rfl,(Go.Sort.swp e (first+root) (first+(2*root+1+1)),(2*root+1+1)),rfl,⟨by dsimp only;rw[Xq,hs],by dsimp only;omega,?_⟩,by dsimp only;omega⟩;dsimp only;rw[<-hr];conv=>rhs;unfold Go.Sort.siftDown
    rw[dif_neg (by omega),Qa1 (by simp[Go.Sort.ltInt,h5];omega),Qa0 (by simp[Go.Sort.ltInt,hl]),dif_pos (by omega)]
   ·rw[aj (by simpa using h5)];have hq:first+(2*root+1)<e.size:=by omega
    have hp:first+root<e.size:=by omega
    rw[Xx hp,Xx hq];by_cases hl:e[first+root]! < e[first+(2*root+1)]!;case neg =>
     rw[ah (by simpa using hl)];refine⟨_,rfl,(hi:Int),(first:Int),(root:Int),.inr rfl,?_⟩;rw[<-hr];unfold Go.Sort.siftDown;rw[dif_neg (by omega),Qa0 (by simp[Go.Sort.ltInt,h5]),Qa1 (by simp[Go.Sort.ltInt,hl])]
    rw[aj (by simpa using hl),Kerb.sw hp hq (fun l=>Zm (Xz [Yq l,Zz .i64 (hi:Int),Zz .i64 (first:Int),Zz .i64 (((2*root+1):Nat):Int)]))];refine⟨_,rfl,(Go.Sort.swp e (first+root) (first+(2*root+1)),(2*root+1)),rfl,⟨by dsimp only;rw[Xq,hs],by dsimp only;omega,?_⟩,by dsimp only;omega⟩;dsimp only;rw[<-hr];conv=>rhs;unfold Go.Sort.siftDown
    rw[dif_neg (by omega),Qa0 (by simp[Go.Sort.ltInt,h5]),Qa0 (by simp[Go.Sort.ltInt,hl])]
  ·rw[aj (by simp;omega)];have hq:first+(2*root+1)<e.size:=by omega
   have hp:first+root<e.size:=by omega
   rw[Xx hp,Xx hq];by_cases hl:e[first+root]! < e[first+(2*root+1)]!;case neg =>
    rw[ah (by simpa using hl)];refine⟨_,rfl,(hi:Int),(first:Int),(root:Int),.inr rfl,?_⟩;rw[<-hr];unfold Go.Sort.siftDown;rw[dif_neg (by omega),Qa0 (by simp;omega),Qa1 (by simp[Go.Sort.ltInt,hl])]
   rw[aj (by simpa using hl),Kerb.sw hp hq (fun l=>Zm (Xz [Yq l,Zz .i64 (hi:Int),Zz .i64 (first:Int),Zz .i64 (((2*root+1):Nat):Int)]))];refine⟨_,rfl,(Go.Sort.swp e (first+root) (first+(2*root+1)),(2*root+1)),rfl,⟨by dsimp only;rw[Xq,hs],by dsimp only;omega,?_⟩,by dsimp only;omega⟩;dsimp only;rw[<-hr];conv=>rhs;unfold Go.Sort.siftDown
   rw[dif_neg (by omega),Qa0 (by simp;omega),Qa0 (by simp[Go.Sort.ltInt,hl])]
 ·rintro⟨e,l⟩ ⟨n,m,k,h1 | h1,rfl⟩
  ·dsimp only at h1;subst h1;simp only[↓bI,↓b_,↓cT,↓cZ,↓jP];rw[ah (Yn _)]
  ·dsimp only at h1;subst h1;simp only[↓bI,↓b_,↓cT,↓cZ,↓R9]
theorem ae6:Wk 276 3 Ie:=by
 refine cL Tryz.func276 rfl fun xs bl r h=> ?_;unfold Ie at h;split at h;case h_2=>cases h
 rename_i n;obtain⟨aC,rfl⟩:=dM h;refine cK (Zv (BG [Zz .u64 (Zw .u64 n)] []) (kI .i64 fun n=>az (Zu (0<=n)) (Zm (Zz .u64 (Zw .u64 (1*2 ^ min (Zx n) (IntKind.bits .u64))),[])))) (by kernel_rfl) ?_;delta kI;dsimp only[BG,aL,bu,aG,dK,ak,cO,dJ];simp only[Yp,Qa2] at aC;obtain⟨h0,h1⟩:=aC;obtain⟨n,rfl⟩:=Yx h0;rw[Kerb.M5 (n:=(n:Int)) (by omega) (by omega),ae (by rw[Kerb.EP];simp;omega)];simp only[↓fG,↓eB,↓bI,↓gi,↓jN,↓cT,↓cZ,↓dk];rw[Kerb.AM,ae (by simp)];exact Qb3 (fun z=>Zm (Zz .u64 z,[])) (Kerb.Mg (by omega))
theorem afa:Wk 282 3 BJ:=by
 refine cL Tryz.func282 rfl fun xs bl r h=> ?_;unfold BJ at h;split at h;case h_2=>cases h
 rename_i a b els s;obtain⟨aC,rfl⟩:=dM h;show eA (G.env 282 3) G.rts (G.own 282) Tryz.f282 _ _ [0,3]=_;refine cK (az (Zu (0<=b)&&Zu (b<(↑(Zy els):Int))&&Zb) (az (Zg (Zx b) (Zy els)&&Zb) (Yy .u64 (Zf els (Zx b) Zn) fun n=>az (Zu (0<=a)&&Zu (a<(↑(Zy els):Int))&&Zb) (az (Zg (Zx a) (Zy els)&&Zb) (Yy .u64 (Zf els (Zx a) Zn) fun bt=>aE (Zu (n<bt)) (Zm (Yu [Zz .i64 b,Zz .i64 a],[els,[Zz .i64 (Zw .i64 (s+1))]])) (Zm (Yu [Zz .i64 a,Zz .i64 b],[els,[Zz .i64 s]]))))))) (by kernel_rfl) ?_;simp only[Yp,Qa2] at aC;obtain⟨⟨⟨⟨⟨⟨⟨fW,hlen⟩,Iu⟩,SD⟩,wx⟩,yD⟩,B4⟩,jY⟩:=aC;obtain⟨d,rfl,hd⟩:=Kerb.lW fW;simp only[Xu] at *;obtain⟨a,rfl⟩:=Yx Iu;obtain⟨b,rfl⟩:=Yx wx;obtain⟨s,rfl⟩:=Yx B4;have ha:a<d.size:=by omega
 have hb:b<d.size:=by omega
 simp only[Xg];rw[ae (by simp;omega),ae (by simp;omega),Kerb.n9 hb,cT,ae (by simp;omega),ae (by simp;omega),Kerb.n9 ha,cT];unfold Kerb.order2 Go.Sort.order2 Go.Sort.ltInt;rw[hd];simp only[Xg];by_cases h:d[b]! < d[a]!
 ·rw[ah (by simpa using h),Qa1 (by simpa using h),Kerb.gE (by omega) (by omega)];rfl
 ·rw[aj (by simpa using h),Qa0 (by simpa using h)]
theorem w22:Wk 22 4 Fc:=by
 refine cL Tryz.func22 rfl fun xs bl r h=> ?_;unfold Fc at h;split at h;case h_2=>cases h
 rename_i l;obtain⟨aC,rfl⟩:=dM h
 refine cK (Zv (az (Zu (Zy l<=4611686018427387904)&&Zb) (Zm (Zz .i64 (Yg l 0 2),[[Zk l,Zz .i64 (Xb l 0 2)]]))) fun(r:AV×aD)=>aM (Yv r) fun(x:List AV) (eY:List (List AV))=>bu x fun b fa=>ak .i64 fa fun n fR=>aw fR (aO eY (Yy .i64 (Ym r) fun bt=>Zv (az (Zu (Zy b<=4611686018427387904)&&Zu (0<=n)) (Zm (Zz .i64 (Yg b n 9),[[Zk b,Zz .i64 (Xb b n 9)]]))) fun(r:AV×aD)=>aM (Yv r) fun(x:List AV) (gP:List (List AV))=>bu x fun b iV=>ak .i64 iV fun n jU=>aw jU (aO gP (Yy .i64 (Ym r) fun cn=>Zv (az (Zu (0<=cn)&&Zu (cn<=4611686018427387904)) (Zm (Xv [Zq (Kerb.bf.name (Kerb.user cn)),Zq (Kerb.bf.inst (Kerb.user cn)),Zq (Kerb.bf.aJ (Kerb.user cn))],[]))) (kA fun cs=>aL cs fun c5 r=>aL r fun fh r=>aL r fun fI r=>aw r (Zv (az (Zu (Zy b<=4611686018427387904)&&Zu (0<=n)) (Zm (Zz .i64 (Yg b n 9),[[Zk b,Zz .i64 (Xb b n 9)]]))) fun(r:AV×aD)=>aM (Yv r) fun(x:List AV) (mf:List (List AV))=>bu x fun b nz=>ak .i64 nz fun n nq=>aw nq (aO mf (Yy .i64 (Ym r) fun eR=>Zv (az (Zu (0<=eR)&&Zu (eR<=1000)) (Zm (Zz .u64 (Kerb.aB eR),[]))) (kI .u64 fun bV=>Zv (az (Zu (Zy b<=4611686018427387904)&&Zu (0<=n)) (Zm (Zz .i64 (Yg b n 256),[[Zk b,Zz .i64 (Xb b n 256)]]))) fun(r:AV×aD)=>aM (Yv r) fun(x:List AV) (gO:List (List AV))=>bu x fun b il=>ak .i64 il fun n im=>aw im (aO gO (Yy .i64 (Ym r) fun bL=>Zv (az (Zu (Zy b<=4611686018427387904)&&Zu (0<=n)) (Zm (Zz .i64 (Yg b n 200),[[Zk b,Zz .i64 (Xb b n 200)]]))) fun(r:AV×aD)=>aM (Yv r) fun(x:List AV) (kQ:List (List AV))=>bu x fun b lY=>ak .i64 lY fun n lZ=>aw lZ (aO kQ (Yy .i64 (Ym r) fun fD=>Zv (az (Zu (Zy b<=4611686018427387904)&&Zu (0<=n)) (Zm (Zz .i64 (Yg b n 256),[[Zk b,Zz .i64 (Xb b n 256)]]))) fun(r:AV×aD)=>aM (Yv r) fun(x:List AV) (mF:List (List AV))=>bu x fun b vp=>ak .i64 vp fun n vq=>aw vq (aO mF (Yy .i64 (Ym r) fun fy=>Zv (az (Zu (Zy b<=4611686018427387904)&&Zu (0<=n)) (Zm (Zz .i64 (Yg b n 256),[[Zk b,Zz .i64 (Xb b n 256)]]))) fun(r:AV×aD)=>aM (Yv r) fun(x:List AV) (vr:List (List AV))=>bu x fun b vt=>ak .i64 vt fun n yk=>aw yk (aO vr (Yy .i64 (Ym r) fun hJ=>Zv (az (Zu (Zy b<=4611686018427387904)&&Zu (0<=n)) (Zm (Zz .i64 (Yg b n 9),[[Zk b,Zz .i64 (Xb b n 9)]]))) fun(r:AV×aD)=>aM (Yv r) fun(x:List AV) (yl:List (List AV))=>bu x fun b ym=>ak .i64 ym fun n yn=>aw yn (aO yl (Yy .i64 (Ym r) fun lm=>Zv (az (Zu (0<=lm)&&Zu (lm<=4611686018427387904)) (Zm (Xv [Zq (Kerb.bf.name (Kerb.service lm)),Zq (Kerb.bf.inst (Kerb.service lm)),Zq (Kerb.bf.aJ (Kerb.service lm))],[]))) (kA fun cs=>aL cs fun iD r=>aL r fun iy r=>aL r fun jh r=>aw r (Zv (az (Zu (Zy b<=4611686018427387904)&&Zu (0<=n)) (Zm (Zz .i64 (Yg b n 7),[[Zk b,Zz .i64 (Xb b n 7)]]))) fun(r:AV×aD)=>aM (Yv r) fun(x:List AV) (ES:List (List AV))=>bu x fun b ET=>ak .i64 ET fun n EU=>aw EU (aO ES (Yy .i64 (Ym r) fun mb=>aE (mb==6) (Zv (az (Zu (Zy b<=4611686018427387904)&&Zu (0<=n)) (Zm (Zz .i64 (Yg b n 3),[[Zk b,Zz .i64 (Xb b n 3)]]))) fun(r:AV×aD)=>aM (Yv r) fun(x:List AV) (EV:List (List AV))=>bu x fun b EW=>ak .i64 EW fun n EX=>aw EX (aO EV (Yy .i64 (Ym r) fun gM=>Zv (az (Zu (Zy b<=4611686018427387904)&&Zu (0<=n)) (Zm (Zz .i64 (Yg b n 3),[[Zk b,Zz .i64 (Xb b n 3)]]))) fun(r:AV×aD)=>aM (Yv r) fun(x:List AV) (EY:List (List AV))=>bu x fun b EZ=>ak .i64 EZ fun n E0=>aw E0 (aO EY (Yy .i64 (Ym r) fun jc=>Zv (az (Zu (Zy b<=4611686018427387904)&&Zu (0<=n)) (Zm (Zz .i64 (Yg b n 9),[[Zk b,Zz .i64 (Xb b n 9)]]))) fun(r:AV×aD)=>aM (Yv r) fun(x:List AV) (Jy:List (List AV))=>bu x fun b Jz=>ak .i64 Jz fun n JA=>aw JA (aO Jy (Yy .i64 (Ym r) fun gf=>aE (gf==8) (Zv (az (Zu (Zy b<=4611686018427387904)&&Zu (0<=n)) (Zm (Zz .i64 (Yg b n 2),[[Zk b,Zz .i64 (Xb b n 2)]]))) fun(r:AV×aD)=>aM (Yv r) fun(x:List AV) (UQ:List (List AV))=>bu x fun b UR=>ak .i64 UR fun n US=>aw US (aO UQ (Yy .i64 (Ym r) fun n=>Zv (az (Zu (0<=n)&&Zu (n<=1)) (Zm (Xv [Zq (Kerb.bf.name (Wz n)),Zq (Kerb.bf.inst (Wz n)),Zq (Kerb.bf.aJ (Wz n))],[]))) (kA fun cs=>aL cs fun b r=>aL r fun j6 r=>aL r fun nB r=>aw r (Zm (Xv [Zd (bt==1),Zq b,Zq j6,Zq nB,Zz .i64 (Zw .i64 (4294967295-gM)),Zz .u64 bV,Zz .i64 bL,Zz .i64 (Zw .i64 (4294967295-jc)),Zq (Kerb.bf.name (Wz 0)),Zq (Kerb.bf.inst (Wz 0))],[])))))) (Zm (Xv [Zd (bt==1),Zq c5,Zq fh,Zq fI,Zz .i64 (Zw .i64 (4294967295-gM)),Zz .u64 bV,Zz .i64 bL,Zz .i64 (Zw .i64 (4294967295-jc)),Zq iD,Zq iy],[]))))))))) (Zv (az (Zu (Zy b<=4611686018427387904)&&Zu (0<=n)) (Zm (Zz .i64 (Yg b n 9),[[Zk b,Zz .i64 (Xb b n 9)]]))) fun(r:AV×aD)=>aM (Yv r) fun(x:List AV) (EV:List (List AV))=>bu x fun b EW=>ak .i64 EW fun n EX=>aw EX (aO EV (Yy .i64 (Ym r) fun gM=>aE (gM==8) (Zv (az (Zu (Zy b<=4611686018427387904)&&Zu (0<=n)) (Zm (Zz .i64 (Yg b n 2),[[Zk b,Zz .i64 (Xb b n 2)]]))) fun(r:AV×aD)=>aM (Yv r) fun(x:List AV) (EY:List (List AV))=>bu x fun b EZ=>ak .i64 EZ fun n E0=>aw E0 (aO EY (Yy .i64 (Ym r) fun n=>Zv (az (Zu (0<=n)&&Zu (n<=1)) (Zm (Xv [Zq (Kerb.bf.name (Wz n)),Zq (Kerb.bf.inst (Wz n)),Zq (Kerb.bf.aJ (Wz n))],[]))) (kA fun cs=>aL cs fun b r=>aL r fun j6 r=>aL r fun nB r=>aw r (Zm (Xv [Zd (bt==1),Zq b,Zq j6,Zq nB,Zz .i64 fD,Zz .u64 bV,Zz .i64 bL,Zz .i64 (Zw .i64 (Zw .i64 (fy*150)+hJ)),Zq (Kerb.bf.name (Wz 0)),Zq (Kerb.bf.inst (Wz 0))],[])))))) (Zm (Xv [Zd (bt==1),Zq c5,Zq fh,Zq fI,Zz .i64 fD,Zz .u64 bV,Zz .i64 bL,Zz .i64 (Zw .i64 (Zw .i64 (fy*150)+hJ)),Zq iD,Zq iy],[]))))))))))))))))))))))))))))) (by kernel_rfl) ?_
 delta kA kI;dsimp only[aL,bu,ak];simp only[A0,aC,Kerb.G5,Kerb.G6,Kerb.A1,Kerb.EJ,Kerb.Mf,Bool.and_true,Wx];refine yu (fun h6=> ?_) (fun h6=> ?_)
 ·refine yu (fun h8=> ?_) (fun h8=> ?_)
  ·have e6:(Yg l (Kerb.S' l) 7==6)=Zb:=h6;have eq:Wy l=Kerb.VE l:=by unfold Wy;rw[e6];rfl
   have e8:(Yg l (Wy l) 9==8)=Zb:=by rw[eq];exact h8
   unfold Kerb.aI;rw[e6,e8,eq];rfl
  ·have e6:(Yg l (Kerb.S' l) 7==6)=Zb:=h6;have eq:Wy l=Kerb.VE l:=by unfold Wy;rw[e6];rfl
   have e8:(Yg l (Wy l) 9==8)=Yd:=by rw[eq];exact h8
   unfold Kerb.aI;rw[e6,e8];rfl
 ·refine yu (fun h8=> ?_) (fun h8=> ?_)
  ·have e6:(Yg l (Kerb.S' l) 7==6)=Yd:=h6;have eq:Wy l=Kerb.ZJ l:=by unfold Wy;rw[e6];rfl
   have e8:(Yg l (Wy l) 9==8)=Zb:=by rw[eq];exact h8
   unfold Kerb.aI;rw[e6,e8,eq];rfl
  ·have e6:(Yg l (Kerb.S' l) 7==6)=Yd:=h6;have eq:Wy l=Kerb.ZJ l:=by unfold Wy;rw[e6];rfl
   have e8:(Yg l (Wy l) 9==8)=Yd:=by rw[eq];exact h8
   unfold Kerb.aI;rw[e6,e8];rfl
theorem w37:Wk 37 4 Qu:=by
 refine cL Tryz.func37 rfl fun xs bl r h=> ?_;unfold Qu at h;split at h;case h_2=>cases h
 rename_i li x y z t ex kv sd;obtain⟨aC,rfl⟩:=dM h;refine cK (Zv (jA [Xv [Zq x,Zq y,Zq z]] []) (kL fun b=>aE (!b) (Zm (Yu [Zk [],Zz .i64 103],[])) (aE (!Zj t 4294967295) (Zm (Yu [Zk [],Zz .i64 104],[])) (aE (!Zj ex 4294967295) (Zm (Yu [Zk [],Zz .i64 104],[])) (aE (!Zj kv 255) (Zm (Yu [Zk [],Zz .i64 104],[])) (aE (Zu ((↑(Zy sd):Int)>1012)) (Zm (Yu [Zk [],Zz .i64 105],[])) (Zv (je [Zk (Wv 2 li),Xv [Zq x,Zq y,Zq z]] []) (kO fun l=>Zv (eF [Zk l,Zz .i64 t,Zd li] []) (kO fun l=>Zv (iu [Zk l,Zz .i64 1] []) (kO fun l=>Zv (eF [Zk l,Zz .i64 ex,Zd li] []) (kO fun l=>Zv (iu [Zk l,Zz .i64 kv] []) (kO fun l=>Zv (k_ [Zk l,Zz .i64 (↑(Zy sd):Int),Zd li] []) (kO fun l=>az (room (Zy l+Zy sd) 1) (Zm (Yu [Zk (l++sd),Zz .i64 0],[]))))))))))))))) (by kernel_rfl) ?_;delta kO kL;dsimp only[iu,jA,je,eF,k_,aL,bu,aG,dK,ak,cO,dJ];simp only[Yp,Qa2] at aC;obtain⟨⟨q1,q2⟩,q3⟩:=aC;simp only[A0];unfold Kerb.dQ;rw[ae (by simp[q1,q2,q3])];cases h1:Kerb.bf.valid ⟨x,y,z⟩
 ·rfl
 rw[Zp,aA];cases h4:Zj t 4294967295
 ·rfl
 rw[Zp,aA];cases h5:Zj ex 4294967295
 ·rfl
 rw[Zp,aA];cases h6:Zj kv 255
 ·rfl
 rw[Zp,aA];by_cases h7:1012<sd.length
 ·rw[ah (by simp;omega),Qa0 (by simp),Qa0 (by simp),Qa1 h7]
 have l1:=Kerb.cq h1;have l4:=Kerb.jv 2 li;simp only at l1;rw[aj (by simp;omega),Qa0 (by simp),Qa0 (by simp),Qa0 h7];rw[ae (by simp;omega),ae (by simp[Yj];omega),ae (by simp[Yj,Yz];omega),ae (by simp[Yj,Yz];omega),ae (by simp[Yj,Yz];omega),ae (by simp[Yj,Yz];omega),ae (Xh (by simp[Yj,Yz];omega))]
theorem w39:Wk 39 4 U8:=by
 refine cL Tryz.func39 rfl fun xs bl r h=> ?_;unfold U8 at h;split at h;case h_2=>cases h
 rename_i li mu kv rl tk au tm lf sv ins;obtain⟨aC,rfl⟩:=dM h;refine cK (aE mu (Zm (Yu [Zk [],Zz .i64 100],[])) (Zv (Qj [Xv [Zd li,Zd mu,Zz .i64 kv,Zq rl,Zk tk,Zk au]] []) (kT fun vs=>bu vs fun b r=>ak .i64 r fun n r=>aw r (aE (!n==0) (Zm (Yu [Zk [],Zz .i64 n],[])) (Zv (tu [Zq sv] []) (kL fun c5=>aE (!c5) (Zm (Yu [Zk [],Zz .i64 103],[])) (Zv (tv [Zq ins] []) (kL fun fh=>aE (!fh) (Zm (Yu [Zk [],Zz .i64 103],[])) (aE (!Zj tm 4294967295) (Zm (Yu [Zk [],Zz .i64 104],[])) (aE (!Zj lf 255) (Zm (Yu [Zk [],Zz .i64 104],[])) (Zv (eF [Zk b,Zz .i64 tm,Zd li] []) (kO fun l=>Zv (iu [Zk l,Zz .i64 lf] []) (kO fun l=>Zv (oN [Zk l,Zq sv] []) (kO fun l=>Zv (oN [Zk l,Zq ins] []) (kO fun l=>Zm (Yu [Zk l,Zz .i64 0],[])))))))))))))))) (by kernel_rfl) ?_;delta kT kO kL;dsimp only[Qj,iu,oN,eF,tu,tv,aL,bu,aG,dK,ak,cO,dJ];simp only[Yp,Qa2] at aC;obtain⟨⟨p1,p2⟩,p3⟩:=aC;simp only[A0,Yh,Xy,Kerb.eP.av,p1,p2,p3,Qb2];have hL:∀ q,Kerb.bZ ⟨li,mu,kv,rl,tk,au⟩=q->Kerb.dO ⟨⟨li,mu,kv,rl,tk,au⟩,tm,lf,sv,ins⟩=if mu then⟨[],100⟩ else if q.err≠0 then⟨[],q.err⟩ else if !(Kerb.validName sv&&Kerb.bS ins) then⟨[],103⟩ else if !(Zj tm 4294967295&&Zj lf 255) then⟨[],104⟩ else⟨Kerb.a_ (Kerb.a_ (q.val++Kerb.aN tm 4 li++Kerb.aN lf 1 Yd) sv) ins,0⟩:=by rintro _ rfl;rfl
 have hl:=Kerb.wg ⟨li,mu,kv,rl,tk,au⟩;obtain⟨q,hq⟩:∃ q,Kerb.bZ ⟨li,mu,kv,rl,tk,au⟩=q:=⟨_,rfl⟩;rw[hL q hq,hq];rw[hq] at hl;cases mu;case true=>rfl
 rw[aA,Qa0 (by simp)];by_cases h1:q.err=0;case neg=>rw[ah (by simpa using h1),Qa1 h1]
 rw[aj (by simpa using h1),Qa0 (by simpa using h1)];cases h2:Kerb.validName sv
 ·rfl
 cases h3:Kerb.bS ins
 ·rfl
 cases Zj tm 4294967295
 ·rfl
 cases Zj lf 255
 ·rfl
 have l2:=Kerb.ja h2;have l3:=Kerb.ib h3;simp only[Zp,aA,Ww,Bool.false_eq_true,if_false];rw[ae (by simp;omega),ae (by simp[Yz];omega),ae (by simp[Yz];omega),ae (by simp[Yz,Kerb.bN];omega)]
theorem w41:Wk 41 4 U_:=by
 refine cL Tryz.func41 rfl fun xs bl r h=> ?_;unfold U_ at h;split at h;case h_2=>cases h
 rename_i op ux uy uz kv rl tk sv ins bx;obtain⟨aC,rfl⟩:=dM h
 refine cK (Zv (aE (!(op==1||op==3)) (Zm [Zz .i64 op,Zq ux,Zq uy,Zq uz,Zz .i64 kv,Zq rl,Zk tk,Zq sv,Zq ins,Zk bx,Zd !op==2,Zz .i64 0]) (Zm [Zz .i64 op,Zq ux,Zq uy,Zq uz,Zz .i64 kv,Zq rl,Zk tk,Zq sv,Zq ins,Zk bx,Zd Yd,Zz .i64 0])) fun l=>ak .i64 l fun n r=>aL r fun b r=>aL r fun c5 r=>aL r fun fh r=>ak .i64 r fun bt r=>aL r fun fI r=>bu r fun iD r=>aL r fun iy r=>aL r fun jh r=>bu r fun j6 r=>aG r fun nB r=>ak .i64 r fun cn r=>let t1:Option (List AV):=Zm [Zz .i64 n,Zq b,Zq c5,Zq fh,Zz .i64 bt,Zq fI,Zk iD,Zq iy,Zq jh,Zk j6,Zd Zb,Zz .i64 cn];let t0:Option (List AV):=aE (!(n==1||n==3)) (Zv (Fe [Zq fI] []) (kL fun pI=>aE (!pI) t1 (Zv (tu [Zq iy] []) (kL fun ld=>aE (!ld) t1 (Zv (tv [Zq jh] []) (kL fun nE=>Zm [Zz .i64 n,Zq b,Zq c5,Zq fh,Zz .i64 bt,Zq fI,Zk iD,Zq iy,Zq jh,Zk j6,Zd !nE,Zz .i64 cn])))))) (Zm [Zz .i64 n,Zq b,Zq c5,Zq fh,Zz .i64 bt,Zq fI,Zk iD,Zq iy,Zq jh,Zk j6,Zd Yd,Zz .i64 cn]);aw r (aE nB (Zm (Yu [Zk [],Zz .i64 40],[])) (Zv (aE (n==1||n==3) (Zv (jA [Xv [Zq b,Zq c5,Zq fh]] []) (kL fun b=>aE (!b) t1 t0)) t0) fun l=>ak .i64 l fun n r=>aL r fun b r=>aL r fun pI r=>aL r fun ld r=>ak .i64 r fun eR r=>aL r fun nE r=>bu r fun nF r=>aL r fun nG r=>aL r fun ue r=>bu r fun uf r=>aG r fun uP r=>ak .i64 r fun bV r=>aw r (aE uP (Zm (Yu [Zk [],Zz .i64 103],[])) (Zv (aE (!(n==1||n==3)) (Zm [Zz .i64 n,Zq b,Zq pI,Zq ld,Zz .i64 eR,Zq nE,Zk nF,Zq nG,Zq ue,Zk uf,Zd !Zj eR 255,Zz .i64 bV]) (Zm [Zz .i64 n,Zq b,Zq pI,Zq ld,Zz .i64 eR,Zq nE,Zk nF,Zq nG,Zq ue,Zk uf,Zd Yd,Zz .i64 bV])) fun l=>ak .i64 l fun n r=>aL r fun b r=>aL r fun vP r=>aL r fun xK r=>ak .i64 r fun bL r=>aL r fun xL r=>bu r fun B_ r=>aL r fun Le r=>aL r fun IJ r=>bu r fun Ca r=>aG r fun Lf r=>ak .i64 r fun fD r=>let t2:Option (List AV):=Zm [Zz .i64 n,Zq b,Zq vP,Zq xK,Zz .i64 bL,Zq xL,Zk B_,Zq Le,Zq IJ,Zk Ca,Zd (Zu ((↑(Zy Ca):Int)>1012)),Zz .i64 fD];aw r (aE Lf (Zm (Yu [Zk [],Zz .i64 104],[])) (Zv (aE (!(n==1||n==3)) (aE (Zu ((↑(Zy B_):Int)>255)) (Zm [Zz .i64 n,Zq b,Zq vP,Zq xK,Zz .i64 bL,Zq xL,Zk B_,Zq Le,Zq IJ,Zk Ca,Zd Zb,Zz .i64 fD]) t2) t2) fun l=>ak .i64 l fun n r=>aL r fun b r=>aL r fun Nx r=>aL r fun Ny r=>ak .i64 r fun fy r=>aL r fun Lg r=>bu r fun Nz r=>aL r fun NA r=>aL r fun Lh r=>bu r fun NB r=>aG r fun aaM r=>ak .i64 r fun hJ r=>let t3:Option (List AV):=Zm [Zz .i64 n,Zq b,Zq Nx,Zq Ny,Zz .i64 fy,Zq Lg,Zk Nz,Zq NA,Zq Lh,Zk NB,Zd Zb,Zz .i64 hJ];let t4:Option (List AV):=aE (!(n==1||n==3)) (Zm [Zz .i64 n,Zq b,Zq Nx,Zq Ny,Zz .i64 fy,Zq Lg,Zk Nz,Zq NA,Zq Lh,Zk NB,Zd !(b==[]&&(Nx==[]&&Ny==[])),Zz .i64 hJ]) (Zm [Zz .i64 n,Zq b,Zq Nx,Zq Ny,Zz .i64 fy,Zq Lg,Zk Nz,Zq NA,Zq Lh,Zk NB,Zd Yd,Zz .i64 hJ]);aw r (aE aaM (Zm (Yu [Zk [],Zz .i64 105],[])) (Zv (aE (n==1||n==3) (aE (!fy==0) t3 (aE (!Lg==[]) t3 (aE (Zu ((↑(Zy Nz):Int)>0)) t3 (aE (!NA==[]) t3 (aE (!Lh==[]) t3 t4))))) t4) fun l=>ak .i64 l fun n r=>aL r fun b r=>aL r fun aaN r=>aL r fun aaO r=>ak .i64 r fun lm r=>aL r fun aaP r=>bu r fun Tq r=>aL r fun aaQ r=>aL r fun aaR r=>bu r fun Li r=>aG r fun aaS r=>ak .i64 r fun mb r=>aw r (aE aaS (Zm (Yu [Zk [],Zz .i64 108],[])) (aE (n==1||n==3) (Zv (je [Zk (Wv 9 Yd++Kerb.aN n 1 Yd),Xv [Zq b,Zq aaN,Zq aaO]] []) (kO fun l=>Zv (k_ [Zk l,Zz .i64 (↑(Zy Li):Int),Zd Yd] []) (kO fun l=>az (room (Zy l+Zy Li) 1) (Zm (Yu [Zk (l++Li),Zz .i64 0],[]))))) (Zv (iu [Zk (Wv 9 Yd++Kerb.aN n 1 Yd),Zz .i64 lm] []) (kO fun l=>Zv (oN [Zk l,Zq aaP] []) (kO fun l=>Zv (iu [Zk l,Zz .i64 (↑(Zy Tq):Int)] []) (kO fun l=>az (room (Zy l+Zy Tq) 1) (Zv (oN [Zk (l++Tq),Zq aaQ] []) (kO fun l=>Zv (oN [Zk l,Zq aaR] []) (kO fun l=>Zv (k_ [Zk l,Zz .i64 (↑(Zy Li):Int),Zd Yd] []) (kO fun l=>az (room (Zy l+Zy Li) 1) (Zm (Yu [Zk (l++Li),Zz .i64 0],[]))))))))))))))))))))) (by kernel_rfl) ?_
 delta kO kL;dsimp only[Fe,iu,oN,jA,je,k_,tu,tv,aL,bu,aG,dK,ak,cO,dJ];simp only[Yp,Qa2] at aC;have qI:(Wv 9 Yd).length=2:=rfl;unfold Kerb.aX;by_cases WR:op=1\/op=3
 ·have e1:(op==1||op==3)=Zb:=by simpa using WR
  have e2:(op==2)=Yd:=by simp;omega
  have e3:Kerb.lN op=Zb:=by simp[Kerb.lN];omega
  simp only[A0,e1,e2,e3,Zp,cr,aA,Bool.false_eq_true,if_false];rw[ae (by simp;omega)];cases h2:Kerb.bf.valid ⟨ux,uy,uz⟩
  ·rfl
  rw[Zp,aA,Qa0 (by simp)];by_cases h3:1012<bx.length
  ·rw[ah (by simp;omega),Qa1 h3]
  rw[aj (by simp;omega),Qa0 h3];by_cases h4:kv=0;case neg=>rw[ah (by simpa using h4),Qa1 (.inl h4)]
  rw[aj (by simp[h4])];by_cases h5:rl=[];case neg=>rw[ah (by simpa using h5),Qa1 (.inr (.inl h5))]
  rw[aj (by simp[h5])];by_cases h6:tk=[];case neg=>rw[ah (by have:=List.length_pos_iff.2 h6;simp;omega),Qa1 (.inr (.inr (.inl h6)))]
  rw[aj (by simp[h6])];by_cases h7:sv=[];case neg=>rw[ah (by simpa using h7),Qa1 (.inr (.inr (.inr (.inl h7))))]
  rw[aj (by simp[h7])];by_cases h8:ins=[];case neg=>rw[ah (by simpa using h8),Qa1 (.inr (.inr (.inr (.inr h8))))]
  rw[aj (by simp[h8]),Qa0 (by simp[h4,h5,h6,h7,h8])];have l1:=Kerb.cq h2;simp only at l1;rw[ae (by simp[Yz,qI];omega),ae (by simp[Yz,qI,Yj];omega),ae (Xh (by simp[Yz,qI,Yj];omega))];simp[Xf,Kerb.pq]
 ·have e1:(op==1||op==3)=Yd:=by simpa using WR
  simp only[A0,e1,Bool.not_false,cr,aA];by_cases h2:op=2;case neg =>
   have e3:Kerb.lN op=Yd:=by simp[Kerb.lN];omega
   rw[ah (by simpa using h2),e3];rfl
  subst h2;rw[aj (by simp)];simp only[show Kerb.lN 2=Zb from rfl,Zp,Bool.false_eq_true,if_false,beq_self_eq_true,if_true];rw[ae (by simp;omega)];cases h2:Kerb.cJ rl
  ·rfl
  rw[Zp,aA,ae (by simp;omega)];cases h3:Kerb.validName sv
  ·rfl
  rw[Zp,aA,ae (by simp;omega)];cases h4:Kerb.bS ins
  ·rfl
  rw[Zp,aA,Qa0 (by simp)];cases h5:Zj kv 255
  ·rfl
  rw[Zp,aA,Qa0 (by simp)];by_cases h6:255<tk.length
  ·rw[ah (by simp;omega),Qa1 (.inl h6)]
  rw[aj (by simp;omega)];by_cases h7:1012<bx.length
  ·rw[ah (by simp;omega),Qa1 (.inr h7)]
  rw[aj (by simp;omega),Qa0 (by omega)];show aE (!(Kerb.bf.zd ⟨ux,uy,uz⟩)) _ _=_;cases Kerb.bf.zd ⟨ux,uy,uz⟩
  ·rfl
  rw[Zp,aA,Qa0 (by simp)];have l1:=Kerb.gQ h2;have l2:=Kerb.ja h3;have l3:=Kerb.ib h4;rw[ae (by simp[Yz,qI]),ae (by simp[Yz,qI];omega),ae (by simp[Yz,qI,Kerb.bN];omega),ae (Xh (by simp[Yz,qI,Kerb.bN];omega)),ae (by simp[Yz,qI,Kerb.bN];omega),ae (by simp[Yz,qI,Kerb.bN];omega),ae (by simp[Yz,qI,Kerb.bN];omega),ae (Xh (by simp[Yz,qI,Kerb.bN];omega))];simp[Xf,Kerb.pq,Kerb.g_]
theorem w43:Wk 43 4 Qv:=by
 refine cL Tryz.func43 rfl fun xs bl r h=> ?_;unfold Qv at h;split at h;case h_2=>cases h
 rename_i op ux uy uz bx;obtain⟨aC,rfl⟩:=dM h;refine cK (aE (Zu (op<1)) (Zm (Yu [Zk [],Zz .i64 40],[])) (aE (Zu (op>3)) (Zm (Yu [Zk [],Zz .i64 40],[])) (Zv (jA [Xv [Zq ux,Zq uy,Zq uz]] []) (kL fun b=>aE (!b) (Zm (Yu [Zk [],Zz .i64 103],[])) (aE (Zu ((↑(Zy bx):Int)>1012)) (Zm (Yu [Zk [],Zz .i64 105],[])) (Zv (je [Zk (Wv 10 Yd++Kerb.aN op 1 Yd),Xv [Zq ux,Zq uy,Zq uz]] []) (kO fun l=>Zv (k_ [Zk l,Zz .i64 (↑(Zy bx):Int),Zd Yd] []) (kO fun l=>az (room (Zy l+Zy bx) 1) (Zm (Yu [Zk (l++bx),Zz .i64 0],[])))))))))) (by kernel_rfl) ?_;delta kO kL;dsimp only[jA,je,k_,aL,bu,aG,dK,ak,cO,dJ];simp only[Yp,Qa2] at aC;simp only[A0,Yh,Xy,Kerb.eP.av];have qI:(Wv 10 Yd).length=2:=rfl;unfold Kerb.eH;simp only;by_cases h0:1<=op/\op<=3;case neg =>
  have e:Kerb.lN op=Yd:=by simp[Kerb.lN];omega
  rw[e];by_cases h1:op<1
  ·rw[ah (by simpa using h1)];rfl
  ·rw[aj (by simpa using h1),ah (by simp;omega)];rfl
 have e:Kerb.lN op=Zb:=by simp[Kerb.lN];omega
 rw[e,aj (by simp;omega),aj (by simp;omega),Qa0 (by simp),ae (by simp;omega)];cases h2:Kerb.bf.valid ⟨ux,uy,uz⟩
 ·rfl
 rw[Zp,aA,Qa0 (by simp)];by_cases h8:1012<bx.length
 ·rw[ah (by simp;omega),Qa1 h8]
 rw[aj (by simp;omega),Qa0 h8];have l2:=Kerb.cq h2;simp only at l2;rw[ae (by simp[Yz,qI];omega),ae (by simp[Yj,Yz,qI];omega),ae (Xh (by simp[Yj,Yz,qI];omega))];simp[Xf]
theorem w63:Wk 63 4 Vc:=by
 refine cL Tryz.func63 rfl fun xs bl r h=> ?_;unfold Vc at h;split at h;case h_2=>cases h
 rename_i x;cases h;refine cK (Zv (yv [AV.ptr 0 0,Zz .i64 9] [(0,[Zk [x],Zz .i64 0])]) fun(r:AV×aD)=>aM (Yv r) fun(x:List AV) (eY:List (List AV))=>bu x fun b fa=>ak .i64 fa fun n fR=>aw fR (aO eY (Yy .i64 (Ym r) fun bt=>VH [Zz .i64 bt] fun c5 fh fI=>Zv (yv [AV.ptr 0 0,Zz .i64 200] [(0,[Zk b,Zz .i64 n])]) fun(r:AV×aD)=>aM (Yv r) fun(x:List AV) (gP:List (List AV))=>bu x fun b iV=>ak .i64 iV fun n jU=>aw jU (aO gP (Yy .i64 (Ym r) fun cn=>Zv (yv [AV.ptr 0 0,Zz .i64 256] [(0,[Zk b,Zz .i64 n])]) fun(r:AV×aD)=>aM (Yv r) fun(x:List AV) (mf:List (List AV))=>bu x fun b nz=>ak .i64 nz fun n nq=>aw nq (aO mf (Yy .i64 (Ym r) fun eR=>Zv (yv [AV.ptr 0 0,Zz .i64 256] [(0,[Zk b,Zz .i64 n])]) fun(r:AV×aD)=>aM (Yv r) fun(x:List AV) (gO:List (List AV))=>bu x fun b il=>ak .i64 il fun n im=>aw im (aO gO (Yy .i64 (Ym r) fun bV=>Zv (yv [AV.ptr 0 0,Zz .i64 256] [(0,[Zk b,Zz .i64 n])]) fun(r:AV×aD)=>aM (Yv r) fun(x:List AV) (kQ:List (List AV))=>bu x fun b lY=>ak .i64 lY fun n lZ=>aw lZ (aO kQ (Yy .i64 (Ym r) fun bL=>Zv (yv [AV.ptr 0 0,Zz .i64 256] [(0,[Zk b,Zz .i64 n])]) fun(r:AV×aD)=>aM (Yv r) fun(x:List AV) (mF:List (List AV))=>bu x fun b vp=>ak .i64 vp fun n vq=>aw vq (aO mF (Yy .i64 (Ym r) fun fD=>Zv (yv [AV.ptr 0 0,Zz .i64 9] [(0,[Zk b,Zz .i64 n])]) fun(r:AV×aD)=>aM (Yv r) fun(x:List AV) (vr:List (List AV))=>bu x fun b vt=>ak .i64 vt fun n yk=>aw yk (aO vr (Yy .i64 (Ym r) fun fy=>aE (fy==8) (Zv (yv [AV.ptr 0 0,Zz .i64 3] [(0,[Zk b,Zz .i64 n])]) fun(r:AV×aD)=>aM (Yv r) fun(x:List AV) (yl:List (List AV))=>bu x fun b ym=>ak .i64 ym fun n yn=>aw yn (aO yl (Yy .i64 (Ym r) fun hJ=>Zv (yv [AV.ptr 0 0,Zz .i64 2] [(0,[Zk b,Zz .i64 n])]) fun(r:AV×aD)=>aM (Yv r) fun(x:List AV) (ES:List (List AV))=>bu x fun b ET=>ak .i64 ET fun n EU=>aw EU (aO ES (Yy .i64 (Ym r) fun n=>Zm (Xv [Zq (Kerb.bf.name (Wz 0)),Zq (Kerb.bf.inst (Wz 0)),Zq (Kerb.bf.aJ (Wz 0)),Zz .i64 (Zw .i64 (4294967295-n)),Zz .i64 cn,Zz .i64 (Zw .i64 (4294967295-hJ))],[])))))) (Zm (Xv [Zq c5,Zq fh,Zq fI,Zz .i64 (Zw .i64 (Zw .i64 (eR*70000)+bV)),Zz .i64 cn,Zz .i64 (Zw .i64 (Zw .i64 (bL*150)+fD))],[]))))))))))))))))) (by kernel_rfl) ?_;unfold VH;delta kA;dsimp only[JU,yv,aL,bu,aG,dK,ak,cO,dJ];have e0:Zu ([x].length<=4611686018427387904)=Zb:=rfl;have e1:Zu ((0:Int)<=Yg [x] 0 9)=Zb:=Kerb.G6 _ _ _;have e2:Zu (Yg [x] 0 9<=4611686018427387904)=Zb:=Kerb.A1 _ _ _;simp only[A0,Yh,Xy,Kerb.eP.av,e0,e1,e2,Kerb.O3,Kerb.O4,Kerb.Ye,Ww,Bool.and_true,show Zu ((0:Int)<=1)=Zb from rfl,show((0:Int)==8)=Yd from rfl];rfl
theorem gE:Wk 64 4 QB:=by
 refine cL Tryz.func64 rfl fun xs bl r h=> ?_;unfold QB at h;split at h;case h_2=>cases h
 rename_i k x y z lf kv tk t aq;obtain⟨aC,rfl⟩:=dM h;refine cK (Zv (nD [Zz .u64 k] []) (kL fun b=>aE (!b) (Zm (Yu [Zk [],Zz .i64 10],[])) (Zv (jA [Xv [Zq x,Zq y,Zq z]] []) (kL fun b=>aE (!b) (Zm (Yu [Zk [],Zz .i64 103],[])) (aE (!Zj lf 255) (Zm (Yu [Zk [],Zz .i64 104],[])) (aE (!Zj kv 255) (Zm (Yu [Zk [],Zz .i64 104],[])) (aE (!Zj t 4294967295) (Zm (Yu [Zk [],Zz .i64 104],[])) (aE (Zu ((↑(Zy tk):Int)>255)) (Zm (Yu [Zk [],Zz .i64 105],[])) (Zv (l8 [Zz .u64 k] []) (kB fun b=>az (room (Zy ([]++Kerb.aN (bif aq then 1 else 0) 1 Yd)+Zy b) 1) (Zv (je [Zk ([]++Kerb.aN (bif aq then 1 else 0) 1 Yd++b),Xv [Zq x,Zq y,Zq z]] []) (kO fun l=>Zv (iu [Zk l,Zz .i64 lf] []) (kO fun l=>Zv (iu [Zk l,Zz .i64 kv] []) (kO fun l=>Zv (iu [Zk l,Zz .i64 (↑(Zy tk):Int)] []) (kO fun l=>az (room (Zy l+Zy tk) 1) (Zv (eF [Zk (l++tk),Zz .i64 t,Zd aq] []) (kO fun l=>Zv (iG [Zk l] []) (kO fun l=>Zm (Yu [Zk l,Zz .i64 0],[]))))))))))))))))))) (by kernel_rfl) ?_;delta kB kO kL;dsimp only[iu,jA,je,eF,nD,l8,iG,aL,bu,aG,dK,ak,cO,dJ];simp only[Yp,Qa2] at aC;obtain⟨⟨⟨⟨q1,q2⟩,q3⟩,h0⟩,h1⟩:=aC;simp only[A0];unfold Kerb.bR;rw[ae (by simp[h0,h1])];cases hk:Kerb.bm k
 ·rfl
 rw[Zp,aA,ae (by simp[q1,q2,q3])];cases h1:Kerb.bf.valid ⟨x,y,z⟩
 ·rfl
 rw[Zp,aA];cases h4:Zj lf 255
 ·rfl
 rw[Zp,aA];cases h5:Zj kv 255
 ·rfl
 rw[Zp,aA];cases h6:Zj t 4294967295
 ·rfl
 rw[Zp,aA];by_cases h7:255<tk.length
 ·rw[ah (by simp;omega),Qa0 (by simp),Qa0 (by simp),Qa0 (by simp),Qa1 h7]
 have l1:=Kerb.cq h1;simp only at l1;rw[aj (by simp;omega),Qa0 (by simp),Qa0 (by simp),Qa0 (by simp),Qa0 h7];rw[ae (by simp;omega),ae (Xh (by first | (simp[Yj,Yz,Yk];done) | (simp[Yj,Yz,Yk];omega))),ae (by first | (simp[Yj,Yz,Yk];done) | (simp[Yj,Yz,Yk];omega)),ae (by first | (simp[Yj,Yz,Yk];done) | (simp[Yj,Yz,Yk];omega)),ae (by first | (simp[Yj,Yz,Yk];done) | (simp[Yj,Yz,Yk];omega)),ae (by first | (simp[Yj,Yz,Yk];done) | (simp[Yj,Yz,Yk];omega)),ae (Xh (by first | (simp[Yj,Yz,Yk];done) | (simp[Yj,Yz,Yk];omega))),ae (by first | (simp[Yj,Yz,Yk];done) | (simp[Yj,Yz,Yk];omega)),ae (by first | (simp[Yj,Yz,Yk];done) | (simp[Yj,Yz,Yk];omega))];simp
theorem w65:Wk 65 4 Ve:=by
 refine cL Tryz.func65 rfl fun xs bl r h=> ?_;unfold Ve at h;split at h;case h_2=>cases h
 rename_i ck tc tm li;cases h;refine cK (aE (!Zj ck 4294967295) (Zm (Yu [Zk [],Zz .i64 104],[])) (aE (!Zj tc 199) (Zm (Yu [Zk [],Zz .i64 104],[])) (aE (!Zj tm 4294967295) (Zm (Yu [Zk [],Zz .i64 104],[])) (Zv (eF [Zk ([]++Kerb.aN (bif li then 1 else 0) 1 Yd),Zz .i64 ck,Zd li] []) (kO fun l=>Zv (iu [Zk l,Zz .i64 tc] []) (kO fun l=>Zv (eF [Zk l,Zz .i64 tm,Zd li] []) (kO fun l=>Zv (iG [Zk l] []) (kO fun l=>Zm (Yu [Zk l,Zz .i64 0],[]))))))))) (by kernel_rfl) ?_;delta kO;dsimp only[iu,eF,iG,aL,bu,aG,dK,ak,cO,dJ];unfold Kerb.dG;cases h1:Zj ck 4294967295
 ·rfl
 cases h2:Zj tc 199
 ·rfl
 cases h3:Zj tm 4294967295
 ·rfl
 rw[Qa0 (by simp)];simp only[↓A0,Zp];rw[ae (by simp[Yz]),ae (by simp[Yz]),ae (by simp[Yz]),ae (by simp[Yz])];rfl
theorem w66:Wk 66 4 Vi:=by
 refine cL Tryz.func66 rfl fun xs bl r h=> ?_;unfold Vi at h;split at h;case h_2=>cases h
 rename_i dt tc ad tm li;cases h;refine cK (aE (Zu ((↑(Zy dt):Int)>500)) (Zm (Yu [Zk [],Zz .i64 105],[])) (aE (!Zj tc 199) (Zm (Yu [Zk [],Zz .i64 104],[])) (aE (!Zj ad 4294967295) (Zm (Yu [Zk [],Zz .i64 104],[])) (aE (!Zj tm 4294967295) (Zm (Yu [Zk [],Zz .i64 104],[])) (Zv (k_ [Zk ([]++Kerb.aN (bif li then 1 else 0) 1 Yd),Zz .i64 (↑(Zy dt):Int),Zd li] []) (kO fun l=>az (room (Zy l+Zy dt) 1) (Zv (iu [Zk (l++dt),Zz .i64 tc] []) (kO fun l=>Zv (eF [Zk l,Zz .i64 ad,Zd li] []) (kO fun l=>Zv (eF [Zk l,Zz .i64 tm,Zd li] []) (kO fun l=>Zv (iG [Zk l] []) (kO fun l=>Zm (Yu [Zk l,Zz .i64 0],[])))))))))))) (by kernel_rfl) ?_;delta kO;dsimp only[iu,eF,k_,iG,aL,bu,aG,dK,ak,cO,dJ];unfold Kerb.ca;simp only;by_cases h0:500<dt.length
 ·rw[ah (by simp;omega),Qa1 h0]
 rw[aj (by simp;omega),Qa0 h0];cases h1:Zj tc 199
 ·rfl
 cases h2:Zj ad 4294967295
 ·rfl
 cases h3:Zj tm 4294967295
 ·rfl
 simp only[A0,Yh,Xy,Kerb.eP.av,Zp,Ww];rw[Qa0 (by simp),ae (by simp[Yz]),ae (Xh (by simp[Yz];omega)),ae (by simp[Yz];omega),ae (by simp[Yz];omega),ae (by simp[Yz];omega),ae (by simp[Yz];omega)];simp
theorem w68:Wk 68 4 QD:=by
 refine cL Tryz.func68 rfl fun xs bl r h=> ?_;unfold QD at h;split at h;case h_2=>cases h
 rename_i lb t k st en kv x y z tk;obtain⟨aC,rfl⟩:=dM h;refine cK (let t1:Option (AV×aD):=Zm (Yu [Zk [],Zz .i64 104],[]);let t2:Option (AV×aD):=Zm (Yu [Zk [],Zz .i64 108],[]);let t3:List AV:=[Xv [Zq x,Zq y,Zq z]];let t0:Option (AV×aD):=aE (!Zj t 4294967295) t1 (Zv (eF [Zk lb,Zz .i64 t,Zd Yd] []) (kO fun l=>aE (!lb==[(116:UInt8),(107:UInt8),(116:UInt8),(71:UInt8)]) (aE (!k==0) t2 (aE (!st==0) t2 (aE (!en==0) t2 (aE (!kv==0) t2 (aE (!(x==[]&&(y==[]&&z==[]))) t2 (aE (Zu ((↑(Zy tk):Int)>0)) t2 (Zv (iG [Zk l] []) (kO fun l=>Zm (Yu [Zk l,Zz .i64 0],[]))))))))) (Zv (nD [Zz .u64 k] []) (kL fun b=>aE (!b) (Zm (Yu [Zk [],Zz .i64 10],[])) (aE (!Zj st 4294967295) t1 (aE (!Zj en 4294967295) t1 (aE (!Zj kv 255) t1 (Zv (jA t3 []) (kL fun b=>aE (!b) (Zm (Yu [Zk [],Zz .i64 103],[])) (aE (Zu ((↑(Zy tk):Int)>255)) (Zm (Yu [Zk [],Zz .i64 105],[])) (Zv (l8 [Zz .u64 k] []) (kB fun b=>az (room (Zy l+Zy b) 1) (Zv (eF [Zk (l++b),Zz .i64 st,Zd Yd] []) (kO fun l=>Zv (eF [Zk l,Zz .i64 en,Zd Yd] []) (kO fun l=>Zv (iu [Zk l,Zz .i64 kv] []) (kO fun l=>Zv (je (Zk l::t3) []) (kO fun l=>Zv (iu [Zk l,Zz .i64 (↑(Zy tk):Int)] []) (kO fun l=>az (room (Zy l+Zy tk) 1) (Zv (iG [Zk (l++tk)] []) (kO fun l=>Zm (Yu [Zk l,Zz .i64 0],[])))))))))))))))))))));aE (lb==[(116:UInt8),(103:UInt8),(115:UInt8),(84:UInt8)]) (aE (!Zj t 4294967295) t1 (Zv (eF [Zk lb,Zz .i64 t,Zd Yd] []) (kO fun l=>Zv (nD [Zz .u64 k] []) (kL fun b=>aE (!b) (Zm (Yu [Zk [],Zz .i64 10],[])) (aE (!Zj st 4294967295) t1 (aE (!Zj en 4294967295) t1 (aE (!Zj kv 255) t1 (Zv (jA t3 []) (kL fun b=>aE (!b) (Zm (Yu [Zk [],Zz .i64 103],[])) (aE (Zu ((↑(Zy tk):Int)>255)) (Zm (Yu [Zk [],Zz .i64 105],[])) (Zv (l8 [Zz .u64 k] []) (kB fun b=>az (room (Zy l+Zy b) 1) (Zv (eF [Zk (l++b),Zz .i64 st,Zd Yd] []) (kO fun l=>Zv (eF [Zk l,Zz .i64 en,Zd Yd] []) (kO fun l=>Zv (iu [Zk l,Zz .i64 kv] []) (kO fun l=>Zv (je (Zk l::t3) []) (kO fun l=>Zv (iu [Zk l,Zz .i64 (↑(Zy tk):Int)] []) (kO fun l=>az (room (Zy l+Zy tk) 1) (Zv (iG [Zk (l++tk)] []) (kO fun l=>Zm (Yu [Zk l,Zz .i64 0],[]))))))))))))))))))))) (aE (!lb==[(116:UInt8),(107:UInt8),(116:UInt8),(71:UInt8)]) (aE (!lb==[(67:UInt8),(80:UInt8),(87:UInt8),(100:UInt8)]) (Zm (Yu [Zk [],Zz .i64 80],[])) t0) t0)) (by kernel_rfl) ?_;delta kB kO kL;dsimp only[iu,jA,je,eF,nD,l8,iG,aL,bu,aG,dK,ak,cO,dJ];have Rt:([103,84,71,83]:List UInt8)=Kerb.ve:=rfl;have Km:([103,84,75,84]:List UInt8)=Kerb.lQ:=rfl;have NN:([67,80,87,108]:List UInt8)=Kerb.fX:=rfl;have F6:([67,80,87,100]:List UInt8)=Kerb.o_:=rfl;have Ru:([116,103,115,84]:List UInt8)=Kerb.vf:=rfl;have D8:([116,107,116,71]:List UInt8)=Kerb.qL:=rfl;have Gx:=aC;simp only[Yp,Qa2] at aC;have hk:(Zu (0<=k)&&Zu (k<18446744073709551616))=Zb:=by simp;omega
 have hv:(Zu (x.length<=9223372036854775807)&&Zu (y.length<=9223372036854775807)&&Zu (z.length<=9223372036854775807))=Zb:=by simp;omega
 simp only[A0,F6,Ru,D8,hk,hv];unfold Kerb.aZ;simp only;cases hg:(lb==Kerb.vf);case true =>
  have ht:Kerb.dD lb=Zb:=by simp[Kerb.dD,hg]
  have hl:lb.length=4:=by rw[Qa9 hg];rfl
  simp only[ht,cr,Zp,Bool.false_and];rw[Qa0 (by simp)];cases h1:Zj t 4294967295
  ·rfl
  rw[Zp,aA,Qa0 (by simp),Qa1 trivial,ae (by simp;omega)];cases h2:Kerb.bm k
  ·rfl
  rw[Zp,aA,Qa0 (by simp)];cases h3:Zj st 4294967295
  ·rfl
  rw[Zp,aA];cases h4:Zj en 4294967295
  ·rfl
  rw[Zp,aA];cases h5:Zj kv 255
  ·rfl
  rw[Zp,aA,Qa0 (by simp)];cases h6:Kerb.bf.valid ⟨x,y,z⟩
  ·rfl
  have l1:=Kerb.cq h6;simp only at l1;rw[Zp,aA,Qa0 (by simp)];by_cases h7:255<tk.length
  ·rw[ah (by simp;omega),Qa1 h7]
  rw[aj (by simp;omega),Qa0 h7];rw[ae (Xh (by simp[Yz,Yk];omega)),ae (by simp[Yz,Yk];omega),ae (by simp[Yz,Yk];omega),ae (by simp[Yz,Yk];omega),ae (by simp[Yz,Yk];omega),ae (by simp[Yz,Yk,Yj];omega),ae (Xh (by simp[Yz,Yk,Yj];omega)),ae (by simp[Yz,Yk,Yj];omega)];simp[Kerb.g_]
 cases W_:(lb==Kerb.qL);case true =>
  have ht:Kerb.dD lb=Zb:=by simp[Kerb.dD,W_]
  have hl:lb.length=4:=by rw[Qa9 W_];rfl
  simp only[ht,cr,aA,Zp,Bool.false_and];rw[Qa0 (by simp)];cases h1:Zj t 4294967295
  ·rfl
  rw[Zp,aA,Qa0 (by simp),Qa1 trivial,ae (by simp;omega)];cases h2:Kerb.bm k
  ·rfl
  rw[Zp,aA,Qa0 (by simp)];cases h3:Zj st 4294967295
  ·rfl
  rw[Zp,aA];cases h4:Zj en 4294967295
  ·rfl
  rw[Zp,aA];cases h5:Zj kv 255
  ·rfl
  rw[Zp,aA,Qa0 (by simp)];cases h6:Kerb.bf.valid ⟨x,y,z⟩
  ·rfl
  have l1:=Kerb.cq h6;simp only at l1;rw[Zp,aA,Qa0 (by simp)];by_cases h7:255<tk.length
  ·rw[ah (by simp;omega),Qa1 h7]
  rw[aj (by simp;omega),Qa0 h7];rw[ae (Xh (by simp[Yz,Yk];omega)),ae (by simp[Yz,Yk];omega),ae (by simp[Yz,Yk];omega),ae (by simp[Yz,Yk];omega),ae (by simp[Yz,Yk];omega),ae (by simp[Yz,Yk,Yj];omega),ae (Xh (by simp[Yz,Yk,Yj];omega)),ae (by simp[Yz,Yk,Yj];omega)];simp[Kerb.g_]
 have ht:Kerb.dD lb=Yd:=by simp[Kerb.dD,hg,W_]
 simp only[ht,cr,aA,Bool.not_false,Wx];cases hc:(lb==Kerb.o_)
 ·rfl
 have hl:lb.length=4:=by rw[Qa9 hc];rfl
 rw[Zp,aA,Qa0 (by simp)];cases h1:Zj t 4294967295
 ·rfl
 rw[Zp,aA,Qa0 (by simp),Qa0 (by simp),ae (by simp;omega)];by_cases h2:k=0;case neg=>rw[ah (by simpa using h2),Qa1 (.inl h2)]
 rw[aj (by simp[h2])];by_cases h3:st=0;case neg=>rw[ah (by simpa using h3),Qa1 (.inr (.inl h3))]
 rw[aj (by simp[h3])];by_cases h4:en=0;case neg=>rw[ah (by simpa using h4),Qa1 (.inr (.inr (.inl h4)))]
 rw[aj (by simp[h4])];by_cases h5:kv=0;case neg=>rw[ah (by simpa using h5),Qa1 (.inr (.inr (.inr (.inl h5))))]
 rw[aj (by simp[h5])];show aE (!(Kerb.bf.zd ⟨x,y,z⟩)) _ _=_;cases h6:Kerb.bf.zd ⟨x,y,z⟩
 ·rw[Qa1 (.inr (.inr (.inr (.inr (.inl rfl)))))];rfl
 rw[Zp,aA];by_cases h7:tk=[];case neg=>rw[ah (by have:=List.length_pos_iff.2 h7;simp;omega),Qa1 (.inr (.inr (.inr (.inr (.inr h7)))))]
 rw[aj (by simp[h7]),Qa0 (by simp[h2,h3,h4,h5,h7]),ae (by simp[Yz];omega)]
theorem w69:Wk 69 4 QE:=by
 refine cL Tryz.func69 rfl fun xs bl r h=> ?_;unfold QE at h;split at h;case h_2=>cases h
 rename_i cx cy cz sx sy sz k t e a;obtain⟨aC,rfl⟩:=dM h;refine cK (Zv (jA [Xv [Zq cx,Zq cy,Zq cz]] []) (kL fun b=>aE (!b) (Zm (Yu [Zk [],Zz .i64 103],[])) (Zv (jA [Xv [Zq sx,Zq sy,Zq sz]] []) (kL fun b=>aE (!b) (Zm (Yu [Zk [],Zz .i64 103],[])) (Zv (Br [Zz .u64 k] []) (kI .i64 fun n=>aE (!n==2) (Zm (Yu [Zk [],Zz .i64 10],[])) (aE (!Zj t 4294967295) (Zm (Yu [Zk [],Zz .i64 104],[])) (aE (!Zj e 4294967295) (Zm (Yu [Zk [],Zz .i64 104],[])) (aE (Zu (t>e)) (Zm (Yu [Zk [],Zz .i64 104],[])) (aE (!Zj a 4294967295) (Zm (Yu [Zk [],Zz .i64 104],[])) (Zv (je [Zk [],Xv [Zq cx,Zq cy,Zq cz]] []) (kO fun l=>Zv (je [Zk l,Xv [Zq sx,Zq sy,Zq sz]] []) (kO fun l=>Zv (l8 [Zz .u64 k] []) (kB fun b=>az (room (Zy l+Zy b) 1) (Zv (eF [Zk (l++b),Zz .i64 t,Zd Yd] []) (kO fun l=>Zv (eF [Zk l,Zz .i64 e,Zd Yd] []) (kO fun l=>Zv (eF [Zk l,Zz .i64 a,Zd Yd] []) (kO fun l=>Zv (iG [Zk l] []) (kO fun l=>Zm (Yu [Zk l,Zz .i64 0],[])))))))))))))))))))) (by kernel_rfl) ?_;delta kB kO kL kI;dsimp only[jA,je,eF,l8,iG,Br,aL,bu,aG,dK,ak,cO,dJ];simp only[Yp,Qa2] at aC;simp only[A0,Yh,Xy,Kerb.eP.av];unfold Kerb.dH;simp only;rw[ae (by simp;omega)];cases h1:Kerb.bf.valid ⟨cx,cy,cz⟩
 ·rfl
 rw[Zp,aA,ae (by simp;omega)];cases h2:Kerb.bf.valid ⟨sx,sy,sz⟩
 ·rfl
 rw[Zp,aA,ae (by simp;omega),Qa0 (by simp)];by_cases h3:Kerb.gR k=2;case neg=>rw[ah (by simpa using h3),Qa1 h3]
 rw[aj (by simp[h3]),Qa0 (show ¬ (Kerb.gR k≠2) by simpa using h3)];have hp4:Kerb.period t e=(Zj t 4294967295&&(Zj e 4294967295&&Zu (t<=e))):=by unfold Kerb.period;rw[Bool.and_assoc]
 rw[hp4];cases h4:Zj t 4294967295
 ·rfl
 rw[Zp,aA,Wx];cases h5:Zj e 4294967295
 ·rfl
 rw[Zp,aA,Wx];by_cases h6:t<=e;case neg=>rw[ah (by simp;omega),decide_eq_false h6];rfl
 rw[aj (by simp;omega),Qa4 h6];cases h7:Zj a 4294967295
 ·rfl
 rw[Zp,aA,Qa0 (by simp)];have l1:=Kerb.cq h1;have l2:=Kerb.cq h2;simp only at l1 l2;rw[ae (by simp;omega),ae (by simp[Yj,Yk,Yz,Xf];omega),ae (by simp;omega),ae (Xh (by simp[Yj,Yk,Yz,Xf];omega)),ae (by simp[Yj,Yk,Yz,Xf];omega),ae (by simp[Yj,Yk,Yz,Xf];omega),ae (by simp[Yj,Yk,Yz,Xf];omega),ae (by simp[Yj,Yk,Yz,Xf];omega)]
theorem w70:Wk 70 4 QF:=by
 refine cL Tryz.func70 rfl fun xs bl r h=> ?_;unfold QF at h;split at h;case h_2=>cases h
 rename_i k sx sy sz t e rc;obtain⟨aC,rfl⟩:=dM h;refine cK (Zv (nD [Zz .u64 k] []) (kL fun b=>aE (!b) (Zm (Yu [Zk [],Zz .i64 10],[])) (Zv (jA [Xv [Zq sx,Zq sy,Zq sz]] []) (kL fun b=>aE (!b) (Zm (Yu [Zk [],Zz .i64 103],[])) (aE (!Zj t 4294967295) (Zm (Yu [Zk [],Zz .i64 104],[])) (aE (!Zj e 4294967295) (Zm (Yu [Zk [],Zz .i64 104],[])) (aE (Zu (t>e)) (Zm (Yu [Zk [],Zz .i64 104],[])) (aE (Zu ((↑(Zy rc):Int)>300)) (Zm (Yu [Zk [],Zz .i64 105],[])) (Zv (l8 [Zz .u64 k] []) (kB fun b=>Zv (je [Zk b,Xv [Zq sx,Zq sy,Zq sz]] []) (kO fun l=>Zv (eF [Zk l,Zz .i64 t,Zd Yd] []) (kO fun l=>Zv (eF [Zk l,Zz .i64 e,Zd Yd] []) (kO fun l=>Zv (k_ [Zk l,Zz .i64 (↑(Zy rc):Int),Zd Yd] []) (kO fun l=>az (room (Zy l+Zy rc) 1) (Zv (iG [Zk (l++rc)] []) (kO fun l=>Zm (Yu [Zk l,Zz .i64 0],[]))))))))))))))))) (by kernel_rfl) ?_;delta kB kO kL;dsimp only[jA,je,eF,k_,nD,l8,iG,aL,bu,aG,dK,ak,cO,dJ];simp only[Yp,Qa2] at aC;simp only[A0,Yh,Xy,Kerb.eP.av];unfold Kerb.cN;simp only;rw[ae (by simp;omega)];cases h1:Kerb.bm k
 ·rfl
 rw[Zp,aA,ae (by simp;omega),Qa0 (by simp)];cases h2:Kerb.bf.valid ⟨sx,sy,sz⟩
 ·rfl
 rw[Zp,aA,Qa0 (by simp)];have hp4:Kerb.period t e=(Zj t 4294967295&&(Zj e 4294967295&&Zu (t<=e))):=by unfold Kerb.period;rw[Bool.and_assoc]
 rw[hp4];cases h4:Zj t 4294967295
 ·rfl
 rw[Zp,aA,Wx];cases h5:Zj e 4294967295
 ·rfl
 rw[Zp,aA,Wx];by_cases h6:t<=e;case neg=>rw[ah (by simp;omega),decide_eq_false h6];rfl
 rw[aj (by simp;omega),Qa4 h6];rw[Qa0 (by simp)];by_cases h8:300<rc.length
 ·rw[ah (by simp;omega),Qa1 h8]
 rw[aj (by simp;omega),Qa0 h8];have l2:=Kerb.cq h2;simp only at l2;rw[ae (by simp;omega),ae (by simp[Yj,Yk,Yz,Xf];omega),ae (by simp[Yj,Yk,Yz,Xf];omega),ae (by simp[Yj,Yk,Yz,Xf];omega),ae (by simp[Yj,Yk,Yz,Xf];omega),ae (Xh (by simp[Yj,Yk,Yz,Xf];omega)),ae (by simp[Yj,Yk,Yz,Xf];omega)];simp[Xf]
theorem w73:Wk 73 4 BK:=by
 refine cL Tryz.func73 rfl fun xs bl r h=> ?_;unfold BK at h;split at h;case h_2=>cases h
 rename_i ks;obtain⟨aC,rfl⟩:=dM h;refine cK (Zv (bF (fun st=>ay st fun x r=>Xj x fun b=>cO 1 r fun c5 r=>ak .i64 r fun n r=>ak .i64 r fun bt r=>aw r (aE (Zu (bt<n)) (az (Zu (0<=bt)&&Zu (bt<(↑(Zy c5):Int))&&Zb) (Yy .u64 (Zf c5 (Zx bt) Zn) fun cn=>Zv (yw [Zz .u64 cn] []) (kL fun fh=>aE fh (az (room (Zy b+Zy [Zz .u64 cn]) (nat_lit 8)) (Zm (Xz [Yq (b++[Zz .u64 cn]),AV.sl 1 c5,Zz .i64 n,Zz .i64 (Zw .i64 (bt+1))]))) (Zm (Xz [Yq b,AV.sl 1 c5,Zz .i64 n,Zz .i64 (Zw .i64 (bt+1))]))))) (Zm (Yf (Xw 0,[Yq b,AV.sl 1 c5,Zz .i64 n,Zz .i64 bt]))))) [Yq [],AV.sl 1 ks,Zz .i64 (↑(Zy ks):Int),Zz .i64 0]) fun(r:Ex×List AV)=>ay (Yv r) fun x eY=>Xj x fun b=>cO 1 eY fun c5 fa=>ak .i64 fa fun n fR=>ak .i64 fR fun n gP=>aw gP (jO r.1 Wu fun(j:Nat)=>aE (Xk j 0) (Zm (AV.sl 1 b,[])) Wu)) (by kernel_rfl) ?_;delta kL;dsimp only[yw,aL,bu,aG,dK,ak,cO,dJ];obtain⟨l,rfl,hl,hn⟩:=Kerb.RQ aC;rw[Kerb.xx];refine Kerb.oF (fun i=>[.aF (Kerb.dy (Kerb.bQ (l.take i))),.sl 1 (Kerb.dy l),.int .i64 ((Kerb.dy l).length:Int),.int .i64 (i:Int)]) l.length (fun i hi=> ?_) ⟨(.exit 0,[.aF (Kerb.dy (Kerb.bQ l)),.sl 1 (Kerb.dy l),.int .i64 ((Kerb.dy l).length:Int),.int .i64 (l.length:Int)]),?_,?_⟩ rfl
 ·have hm:(Kerb.bQ (l.take i)).length<=100000000:=Nat.le_trans (List.length_filter_le _ _) (by rw[List.length_take];omega);have hv:=hl _ (Kerb.zn 0 hi);have g3:Zu (0<=l.getD i 0)=Zb:=by simp only[Qa2];exact hv.1
  have g4:Zu (l.getD i 0<18446744073709551616)=Zb:=by simp only[Qa2];exact hv.2
  have hr:Go.Abs.room ((Kerb.bQ (l.take i)).length+1) 8=Zb:=Kerb.UT (by omega);try dsimp only
  simp only[↓A0,A0,Kerb.ZV,Kerb.ltK hi,Kerb.abg hi,g3,g4,Ww,Bool.and_true,Kerb.K6 (show i<=1000000000 by omega),Kerb.fv (Kerb.bQ _),List.length_singleton,hr,Kerb.QP];rw[Kerb.Fm hi];cases Kerb.bm (l.getD i 0)<;>rfl
 ·try dsimp only
  simp only[↓A0,A0,Kerb.noK,List.take_length]
 ·rfl
theorem adh:Wk 137 4 HJ:=by
 refine cL Tryz.func137 rfl fun xs bl r h=> ?_;unfold HJ at h;split at h;case h_2=>cases h
 rename_i li x y z ad k lf vE sv ins;obtain⟨aC,rfl⟩:=dM h;refine cK (Zv (jA [Xv [Zq x,Zq y,Zq z]] []) (kL fun b=>aE (!b) (Zm (Zz .i64 103,[])) (Zv (tu [Zq sv] []) (kL fun b=>aE (!b) (Zm (Zz .i64 103,[])) (Zv (tv [Zq ins] []) (kL fun b=>aE (!b) (Zm (Zz .i64 103,[])) (Zv (Br [Zz .u64 k] []) (kI .i64 fun n=>aE (!n==2) (Zm (Zz .i64 10,[])) (aE (!Zj ad 4294967295) (Zm (Zz .i64 104,[])) (aE (!Zj lf 255) (Zm (Zz .i64 104,[])) (aE (!Zj vE 4294967295) (Zm (Zz .i64 104,[])) (Zm (Zz .i64 0,[]))))))))))))) (by kernel_rfl) ?_;delta kL kI;dsimp only[jA,tu,tv,Br,aL,bu,aG,dK,ak,cO,dJ];simp only[Yp,Qa2] at aC;obtain⟨⟨⟨⟨⟨⟨h1,h2⟩,h3⟩,h4⟩,h5⟩,h6⟩,h7⟩:=aC;simp only[h1,h2,h3,h4,h5,h6,h7,Qb2,Ww,↓A0,A0];unfold Kerb.dF.err;dsimp only;cases Kerb.bf.valid ⟨x,y,z⟩
 ·rfl
 cases Kerb.validName sv
 ·rfl
 cases Kerb.bS ins
 ·rfl
 simp only[Zp,Ww,aA];by_cases hc:Kerb.gR k=2;case neg=>rw[ah (by simpa using hc),Qa0 (by simp),Qa1 hc]
 rw[aj (by simp[hc]),Qa0 (by simp),Qa0 (by simp[hc])];cases Zj ad 4294967295
 ·rfl
 cases Zj lf 255
 ·rfl
 cases Zj vE 4294967295
 ·rfl
 rfl
theorem adk:Wk 140 4 HK:=by
 refine cL Tryz.func140 rfl fun xs bl r h=> ?_;unfold HK at h;split at h;case h_2=>cases h
 rename_i x y z ck tc tm;obtain⟨aC,rfl⟩:=dM h;refine cK (Zv (jA [Xv [Zq x,Zq y,Zq z]] []) (kL fun b=>aE (!b) (Zm (Zz .i64 103,[])) (aE (!Zj ck 4294967295) (Zm (Zz .i64 104,[])) (aE (!Zj tc 199) (Zm (Zz .i64 104,[])) (aE (!Zj tm 4294967295) (Zm (Zz .i64 104,[])) (Zm (Zz .i64 0,[]))))))) (by kernel_rfl) ?_;delta kL;dsimp only[jA,aL,bu,aG,dK,ak,cO,dJ];simp only[A0,Yh,Xy,Kerb.eP.av,aC];unfold Kerb.ma.check;simp only;cases Kerb.bf.valid ⟨x,y,z⟩
 ·rfl
 cases Zj ck 4294967295
 ·rfl
 cases Zj tc 199
 ·rfl
 cases Zj tm 4294967295<;>rfl
theorem adv:Wk 149 4 xj:=by
 refine cL Tryz.func149 rfl fun xs bl r h=> ?_;unfold xj at h;split at h;case h_2=>cases h
 rename_i b;obtain⟨aC,rfl⟩:=dM h;refine cK (aE (!(↑(Zy b):Int)==8) (Zm (Yu [Zz .u64 0,Zd Yd],[])) (Zv (bF (fun st=>ak .u64 st fun n r=>bu r fun b r=>ak .i64 r fun bt r=>ak .i64 r fun cn r=>aw r (aE (Zu (cn<bt)) (az (Zu (0<=cn)&&Zu (cn<(↑(Zy b):Int))) (Zm (Xz [Zz .u64 (Zw .u64 (↑(BitVec.toNat (BitVec.ofInt (IntKind.bits .u64) (Zw .u64 (n*2 ^ min (Zx 8) (IntKind.bits .u64))) ||| BitVec.ofInt (IntKind.bits .u64) (Zw .u64 (↑(UInt8.toNat (Zf b (Zx cn) (0:UInt8))):Int)))):Int)),Zk b,Zz .i64 bt,Zz .i64 (Zw .i64 (cn+1))]))) (Zm (Yf (Xw 0,[Zz .u64 n,Zk b,Zz .i64 bt,Zz .i64 cn]))))) [Zz .u64 0,Zk b,Zz .i64 (↑(Zy b):Int),Zz .i64 0]) fun(r:Ex×List AV)=>ak .u64 (Yv r) fun n eY=>bu eY fun b fa=>ak .i64 fa fun bt fR=>ak .i64 fR fun cn gP=>aw gP (jO r.1 Wu fun(j:Nat)=>aE (Xk j 0) (Zv (yw [Zz .u64 n] []) (kL fun b=>aE (!b) (Zm (Yu [Zz .u64 0,Zd Yd],[])) (Zm (Yu [Zz .u64 n,Zd Zb],[])))) Wu))) (by kernel_rfl) ?_;delta kL;dsimp only[yw,aL,bu,aG,dK,ak,cO,dJ];have hb:=Qa3 aC;unfold Kerb.eQ;by_cases h8:b.length=8;case neg =>
  rw[ah (by simp;omega),Qa0 (by omega)]
 rw[aj (by simp[h8])];refine cm (fun i:Nat=>[Zz IntKind.u64 (Kerb.km (b.take i)),Zk b,Zz Xm (b.length:Int),Zz Xm (i:Int)]) (fun i=>i<=8) (fun i=>8-i)
  (fun r=>r=(Xw 0,[Zz IntKind.u64 (Kerb.km b),Zk b,Zz Xm (b.length:Int),Zz Xm 8])) 0 (by omega) rfl ?_ ?_
 ·intro i hi;simp only[A0];by_cases fz:i<8
  ·have hv:=Kerb.DM (l:=b) (i:=i) (by omega);have hbd:=Kerb.QU (l:=b.take i) (by simp;omega);rw[ah (by simp;omega),ae (by simp;omega),Xg,Kerb.Py _ hbd.1 hbd.2,wrap_i64 (by omega) (by omega),<-hv];exact⟨_,rfl,i+1,rfl,by omega,by dsimp only;omega⟩
  ·rw[aj (by simp;omega)];refine⟨_,rfl,?_⟩;show _=_;rw[List.take_of_length_le (by omega),show i=8 from by omega];rfl
 rintro r rfl;have hbd:=Kerb.Ip (l:=b) (by omega);simp only[A0];rw[ah (Yn _),ae (by simp;omega)];cases hv:Kerb.bm (Kerb.km b)
 ·rw[Qa0 (by simp)];rfl
 ·rw[Qa1 ⟨h8,rfl⟩];rfl
theorem adB:Wk 155 4 tz:=by
 refine cL Tryz.func155 rfl fun xs bl r h=> ?_;unfold tz at h;split at h;case h_2=>cases h
 rename_i B at_ bad;obtain⟨aC,rfl⟩:=dM h;show eA (G.env 155 4) G.rts (G.own 155) Tryz.f155 _ _ [0]=_;refine cK (vF [Zk B,Zz .i64 at_,Zd Yd] fun n bt cn=>aE (!!(bad || !cn==0)) (Zm (Zz .i64 0,[[Zk B,Zz .i64 (bif bad || !cn==0 then at_ else bt),Zd (bad || !cn==0)]])) (Zm (Zz .i64 n,[[Zk B,Zz .i64 (bif bad || !cn==0 then at_ else bt),Zd (bad || !cn==0)]]))) (by kernel_rfl) ?_;unfold vF;delta kT;dsimp only[uK,aL,bu,aG,dK,ak,cO,dJ];have hb:=Qa3 aC;simp only[A0];rw[ae (by simp;omega)];unfold Kerb.fQ;cases bad
 ·simp only[Bool.false_or];generalize hq:(!(_==(0:Int)))=q;cases q<;>rfl
 ·rfl
theorem adG:Wk 160 4 xn:=by
 refine cL Tryz.func160 rfl fun xs bl r h=> ?_;unfold xn at h;split at h;case h_2=>cases h
 rename_i B at_ bad;obtain⟨aC,rfl⟩:=dM h;show eA (G.env 160 4) G.rts (G.own 160) Tryz.f160 _ _ [0]=_;refine cK (pE [Zk B,Zz .i64 at_] fun n bt cn=>aE (!!(bad || !cn==0)) (Zm (Zz .i64 0,[[Zk B,Zz .i64 (bif bad || !cn==0 then at_ else bt),Zd (bad || !cn==0)]])) (Zm (Zz .i64 n,[[Zk B,Zz .i64 (bif bad || !cn==0 then at_ else bt),Zd (bad || !cn==0)]]))) (by kernel_rfl) ?_;unfold pE;delta kT;dsimp only[tw,aL,bu,aG,dK,ak,cO,dJ];have hb:=Qa3 aC;simp only[A0];rw[ae (by simp;omega)];unfold Kerb.fQ;cases bad
 ·simp only[Bool.false_or];generalize hq:(!(_==(0:Int)))=q;cases q<;>rfl
 ·rfl
theorem adL:Wk 165 4 uM:=by
 refine cL Tryz.func165 rfl fun xs bl r h=> ?_;unfold uM at h;split at h;case h_2=>cases h
 rename_i B at_ bad;obtain⟨aC,rfl⟩:=dM h;show eA (G.env 165 4) G.rts (G.own 165) Tryz.f165 _ _ [0]=_;refine cK (vF [Zk B,Zz .i64 at_,Zd Yd] fun n bt cn=>Zm (Zz .i64 n,[[Zk B,Zz .i64 (bif cn==0 then bt else at_),Zd (bad || !cn==0)]])) (by kernel_rfl) ?_;unfold vF;delta kT;dsimp only[uK,aL,bu,aG,dK,ak,cO,dJ];have hb:=Qa3 aC;simp only[A0,Yh,Xy,Kerb.eP.av];rw[ae (by simp;omega)];unfold Kerb.pP;rfl
theorem adO:Wk 168 4 Bu:=by
 refine cL Tryz.func168 rfl fun xs bl r h=> ?_;unfold Bu at h;split at h;case h_2=>cases h
 rename_i B at_ bad;obtain⟨aC,rfl⟩:=dM h;show eA (G.env 168 4) G.rts (G.own 168) Tryz.f168 _ _ [0]=_;refine cK (B8 [Zk B,Zz .i64 at_,Zd Yd] fun n bt cn=>Zm (Zz .i64 n,[[Zk B,Zz .i64 (bif cn==0 then bt else at_),Zd (bad || !cn==0)]])) (by kernel_rfl) ?_;unfold B8;delta kT;dsimp only[xr,aL,bu,aG,dK,ak,cO,dJ];have hb:=Qa3 aC;simp only[A0,Yh,Xy,Kerb.eP.av];rw[ae (by simp;omega)];unfold Kerb.pP;rfl
theorem adZ:Wk 188 4 Bw:=by
 refine cL Tryz.func188 rfl fun xs bl r h=> ?_;unfold Bw at h;split at h;case h_2=>cases h
 rename_i b;obtain⟨aC,rfl⟩:=dM h;refine cK (pE [Zk b,Zz .i64 2] fun n bt cn=>vG [Zk b,Zz .i64 bt] fun c5 eR bV=>pE [Zk b,Zz .i64 eR] fun bL fD fy=>pE [Zk b,Zz .i64 fD] fun hJ lm mb=>rH [Zk b,Zz .i64 lm,Zz .i64 bL] fun fh gM jc=>rH [Zk b,Zz .i64 gM,Zz .i64 hJ] fun fI gf bp=>Zm (Yu [Xv [Zd (Kerb.Head.aq (Kerb.dL b)),Zd (Kerb.Head.kind (Kerb.dL b)==4),Zz .i64 n,Zq c5,Zk fh,Zk fI],Zz .i64 gf],[])) (by kernel_rfl) ?_;unfold pE rH vG;delta kT;dsimp only[tw,rF,xk,aL,bu,aG,dK,ak,cO,dJ];have hb:=Qa3 aC;have j_:Zu (b.length<=4611686018427387904)=Zb:=by simp;omega
 simp only[aC,j_,↓A0,A0];rfl
theorem ad4:Wk 193 4 PZ:=by
 refine cL Tryz.func193 rfl fun xs bl r h=> ?_;unfold PZ at h;split at h;case h_2=>cases h
 rename_i B at_ bad;obtain⟨aC,rfl⟩:=dM h;show eA (G.env 193 4) G.rts (G.own 193) Tryz.f193 _ _ [0]=_;refine cK (vG [Zk B,Zz .i64 at_] fun b n bt=>aE (!!(bad || !bt==0)) (Zm (Zq [],[[Zk B,Zz .i64 (bif bad || !bt==0 then at_ else n),Zd (bad || !bt==0)]])) (Zm (Zq b,[[Zk B,Zz .i64 (bif bad || !bt==0 then at_ else n),Zd (bad || !bt==0)]]))) (by kernel_rfl) ?_;unfold vG;delta kT;dsimp only[xk,aL,bu,aG,dK,ak,cO,dJ];have hb:=Qa3 aC;simp only[A0];rw[ae (by simp;omega)];unfold Kerb.mo;cases bad
 ·simp only[Bool.false_or];generalize hq:(!(_==(0:Int)))=q;cases q<;>rfl
 ·rfl
theorem ad5:Wk 194 4 HW:=by
 refine cL Tryz.func194 rfl fun xs bl r h=> ?_;unfold HW at h;split at h;case h_2=>cases h
 rename_i B at_ bad;obtain⟨aC,rfl⟩:=dM h;show eA (G.env 194 4) G.rts (G.own 194) Tryz.f194 _ _ [0]=_;refine cK (B8 [Zk B,Zz .i64 at_,Zd Yd] fun n bt cn=>aE (!!(bad || !cn==0)) (Zm (Zz .i64 0,[[Zk B,Zz .i64 (bif bad || !cn==0 then at_ else bt),Zd (bad || !cn==0)]])) (Zm (Zz .i64 n,[[Zk B,Zz .i64 (bif bad || !cn==0 then at_ else bt),Zd (bad || !cn==0)]]))) (by kernel_rfl) ?_;unfold B8;delta kT;dsimp only[xr,aL,bu,aG,dK,ak,cO,dJ];have hb:=Qa3 aC;simp only[A0];rw[ae (by simp;omega)];unfold Kerb.fQ;cases bad
 ·simp only[Bool.false_or];generalize hq:(!(_==(0:Int)))=q;cases q<;>rfl
 ·rfl
theorem ad8:Wk 197 4 HX:=by
 refine cL Tryz.func197 rfl fun xs bl r h=> ?_;unfold HX at h;split at h;case h_2=>cases h
 rename_i B at_ bad;obtain⟨aC,rfl⟩:=dM h;show eA (G.env 197 4) G.rts (G.own 197) Tryz.f197 _ _ [0]=_;refine cK (pE [Zk B,Zz .i64 at_] fun n bt cn=>Zm (Zz .i64 n,[[Zk B,Zz .i64 (bif cn==0 then bt else at_),Zd (bad || !cn==0)]])) (by kernel_rfl) ?_;unfold pE;delta kT;dsimp only[tw,aL,bu,aG,dK,ak,cO,dJ];have hb:=Qa3 aC;simp only[A0,Yh,Xy,Kerb.eP.av];rw[ae (by simp;omega)];unfold Kerb.pP;rfl
theorem aeg:Wk 214 4 qk:=by
 refine cL Tryz.func214 rfl fun xs bl r h=> ?_;unfold qk at h;split at h;case h_2=>cases h
 rename_i b n;obtain⟨aC,rfl⟩:=dM h;refine cK (Zv (xu [Zk b,Zz .i64 n,Zz .i64 1,Zd Yd] []) (kO fun l=>Zm (AV.bK l,[]))) (by kernel_rfl) ?_;delta kO;dsimp only[xu,aL,bu,aG,dK,ak,cO,dJ];simp only[Qa2] at aC;simp only[A0];rw[ae (by simp;omega)];rfl
theorem aeh:Wk 215 4 pg:=by
 refine cL Tryz.func215 rfl fun xs bl r h=> ?_;unfold pg at h;split at h;case h_2=>cases h
 rename_i b x y z;obtain⟨aC,rfl⟩:=dM h;refine cK (Zv (ph [Zk b,Zq x] []) (kO fun l=>Zv (ph [Zk l,Zq y] []) (kO fun l=>Zv (ph [Zk l,Zq z] []) (kO fun l=>Zm (AV.bK l,[]))))) (by kernel_rfl) ?_;delta kO;dsimp only[ph,aL,bu,aG,dK,ak,cO,dJ];simp only[Qa2] at aC;simp only[A0];rw[ae (by simp;omega),ae (by simp[Kerb.a_];omega),ae (by simp[Kerb.a_];omega)];rfl
theorem aei:Wk 216 4 la:=by
 refine cL Tryz.func216 rfl fun xs bl r h=> ?_;unfold la at h;split at h;case h_2=>cases h
 rename_i b n aq;obtain⟨aC,rfl⟩:=dM h;refine cK (Zv (xu [Zk b,Zz .i64 n,Zz .i64 4,Zd aq] []) (kO fun l=>Zm (AV.bK l,[]))) (by kernel_rfl) ?_;delta kO;dsimp only[xu,aL,bu,aG,dK,ak,cO,dJ];simp only[Qa2] at aC;simp only[A0];rw[ae (by simp;omega)];rfl
theorem aep:Wk 223 4 HZ:=by
 refine cL Tryz.func223 rfl fun xs bl r h=> ?_;unfold HZ at h;split at h;case h_2=>cases h
 rename_i lb t st en k;obtain⟨aC,rfl⟩:=dM h;refine cK (let t0:Option (AV×aD):=aE (!Zj t 4294967295) (Zm (Zz .i64 104,[])) (aE (Kerb.jf lb) (aE (!Zj st 4294967295) (Zm (Zz .i64 104,[])) (aE (!Zj en 4294967295) (Zm (Zz .i64 104,[])) (aE (!k==0) (Zm (Zz .i64 108,[])) (Zm (Zz .i64 0,[]))))) (Zv (yw [Zz .u64 k] []) (kL fun b=>aE (!b) (Zm (Zz .i64 10,[])) (aE (!st==0) (Zm (Zz .i64 108,[])) (aE (!en==0) (Zm (Zz .i64 108,[])) (Zm (Zz .i64 0,[])))))));aE (!Kerb.jf lb) (aE (!lb==[(67:UInt8),(80:UInt8),(87:UInt8),(108:UInt8)]) (Zm (Zz .i64 80,[])) t0) t0) (by kernel_rfl) ?_;delta kL;dsimp only[yw,aL,bu,aG,dK,ak,cO,dJ];have Rt:([103,84,71,83]:List UInt8)=Kerb.ve:=rfl;have Km:([103,84,75,84]:List UInt8)=Kerb.lQ:=rfl;have NN:([67,80,87,108]:List UInt8)=Kerb.fX:=rfl;have F6:([67,80,87,100]:List UInt8)=Kerb.o_:=rfl;have Ru:([116,103,115,84]:List UInt8)=Kerb.vf:=rfl;have D8:([116,107,116,71]:List UInt8)=Kerb.qL:=rfl;simp only[A0,NN,aC];unfold Kerb.aR;simp only;cases ht:Kerb.jf lb
 ·rw[Bool.not_false,cr];cases hc:(lb==Kerb.fX)
  ·rfl
  rw[Zp,aA,Qa0 (by simp)];cases h1:Zj t 4294967295
  ·rfl
  rw[Zp,aA,Qa0 (by simp),aA,Qa0 (by simp)];cases h2:Kerb.bm k
  ·rfl
  rw[Zp,aA,Qa0 (by simp)];by_cases h3:st=0;case neg=>rw[ah (by simpa using h3),Qa1 (.inl h3)]
  rw[aj (by simp[h3])];by_cases h4:en=0;case neg=>rw[ah (by simpa using h4),Qa1 (.inr h4)]
  rw[aj (by simp[h4]),Qa0 (by simp[h3,h4])]
 ·rw[Zp,aA,Qa0 (by simp)];cases h1:Zj t 4294967295
  ·rfl
  rw[Zp,aA,Qa0 (by simp),cr,Qa1 rfl];cases h2:Zj st 4294967295
  ·rfl
  rw[Zp,aA];cases h3:Zj en 4294967295
  ·rfl
  rw[Zp,aA,Qa0 (by simp)];by_cases h4:k=0
  ·rw[aj (by simp[h4]),Qa0 (by simp[h4])]
  ·rw[ah (by simpa using h4),Qa1 h4]
theorem aeE:Wk 243 4 BE:=by
 refine cL Tryz.func243 rfl fun xs bl r h=> ?_;unfold BE at h;split at h;case h_2=>cases h
 rename_i b n aq;obtain⟨aC,rfl⟩:=dM h;refine cK (Zv (xu [Zk b,Zz .i64 n,Zz .i64 2,Zd aq] []) (kO fun l=>Zm (AV.bK l,[]))) (by kernel_rfl) ?_;delta kO;dsimp only[xu,aL,bu,aG,dK,ak,cO,dJ];simp only[Qa2] at aC;simp only[A0];rw[ae (by simp;omega)];rfl
theorem aeJ:Wk 248 4 H4:=by
 refine cL Tryz.func248 rfl fun xs bl r h=> ?_;unfold H4 at h;split at h;case h_2=>cases h
 rename_i b at_ most li;obtain⟨aC,rfl⟩:=dM h;refine cK (B8 [Zk b,Zz .i64 at_,Zd li] fun n bt cn=>aE (!cn==0) (Zm (Yu [Zk [],Zz .i64 0,Zd Yd],[])) (aE (Zu (n>most)) (Zm (Yu [Zk [],Zz .i64 0,Zd Yd],[])) (rH [Zk b,Zz .i64 bt,Zz .i64 n] fun b n eR=>Zm (Yu [Zk b,Zz .i64 n,Zd (eR==0)],[])))) (by kernel_rfl) ?_;unfold rH B8;delta kT;dsimp only[rF,xr,aL,bu,aG,dK,ak,cO,dJ];simp only[Yp,Qa2] at aC;have h1:b.length<=4611686018427387904:=by omega
 simp only[A0,Yh,Xy,Kerb.eP.av,aC,h1,Qb2];unfold Kerb.fu;by_cases h2:(Kerb.get b at_ 2 li).err=0;case neg=>rw[ah (by simpa using h2),Qa1 (.inl h2)]
 rw[aj (by simp[h2])];by_cases h3:most<(Kerb.get b at_ 2 li).val
 ·rw[ah (by simpa using h3),Qa1 (.inr h3)]
 rw[aj (by simpa using h3),Qa0 (by simp[h2,h3])]
theorem aeT:Wk 262 4 BH:=by
 refine cL Tryz.func262 rfl fun xs bl r h=> ?_;unfold BH at h;split at h;case h_2=>cases h
 rename_i s bad;obtain⟨aC,rfl⟩:=dM h;refine cK (Zv (bF (fun st=>aL st fun b r=>aL r fun c5 r=>aG r fun fh r=>ak .i64 r fun n r=>ak .i64 r fun bt r=>let t0:Option (List AV ⊕ Ex×List AV):=Zm (Yf (Ex.ret,[Zq b,Zq c5,Zd Yd,Zz .i64 n,Zz .i64 bt]));let t1:Bool:=Zu (0<=bt)&&Zu (bt<(↑(Zy b):Int));let t2:Int:=(↑(UInt8.toNat (Zf b (Zx bt) (0:UInt8))):Int);aw r (aE (Zu (bt<n)) (az t1 (aE (Zu (t2<(↑(UInt8.toNat (33:UInt8)):Int))) t0 (az t1 (aE (Zu (t2>(↑(UInt8.toNat (126:UInt8)):Int))) t0 (az t1 (aE (Zu (Kerb.indexOf (Zf b (Zx bt) (0:UInt8)) c5>=0)) t0 (Zm (Xz [Zq b,Zq c5,Zd fh,Zz .i64 n,Zz .i64 (Zw .i64 (bt+1))])))))))) (Zm (Yf (Xw 0,[Zq b,Zq c5,Zd fh,Zz .i64 n,Zz .i64 bt]))))) [Zq s,Zq bad,Zd Yd,Zz .i64 (↑(Zy s):Int),Zz .i64 0]) fun(r:Ex×List AV)=>aL (Yv r) fun b eY=>aL eY fun b fa=>aG fa fun b fR=>ak .i64 fR fun n gP=>ak .i64 gP fun n iV=>aw iV (jO r.1 (Zm (Zd b,[])) fun(j:Nat)=>aE (Xk j 0) (Zm (Zd Zb,[])) Wu)) (by kernel_rfl) ?_;try dsimp only[aL,bu,aG,dK,ak,cO,dJ]
 simp only[Qa2] at aC;refine cm (fun i:Nat=>[Zq s,Zq bad,Zd Yd,Zz Xm (s.length:Int),Zz Xm (i:Int)]) (fun i=>i<=s.length/\Kerb.dE s bad=Kerb.dE (s.drop i) bad) (fun i=>s.length-i)
  (fun r=>∃ i:Nat,r.2=[Zq s,Zq bad,Zd Yd,Zz Xm (s.length:Int),Zz Xm (i:Int)]/\((r.1 = .ret/\Kerb.dE s bad=Yd)\/(r.1 = .exit 0/\Kerb.dE s bad=Zb))) 0 ⟨Nat.zero_le _,rfl⟩ rfl ?_ ?_
 ·rintro i ⟨hi,hp⟩;simp only[A0];by_cases fz:i<s.length
  ·have hc:(Zu ((0:Int)<=(i:Int))&&Zu ((i:Int)<(s.length:Int)))=Zb:=by simp;omega
   have hd:=Kerb.pn fz;rw[ah (by simp;omega),ae hc,Xg];have RI:Kerb.dE (s.drop i) bad=(Kerb.okB bad (s.getD i 0)&&Kerb.dE (s.drop (i+1)) bad):=by rw[hd];rfl
   generalize s.getD i 0=c at *;by_cases h1:c.toNat<33
   ·rw[ah (by simp;omega)];exact⟨_,rfl,i,rfl,.inl ⟨rfl,by rw[hp,RI];simp[Kerb.okB,h1]⟩⟩
   rw[aj (by simp;omega),ae hc];by_cases h2:126<c.toNat
   ·rw[ah (by simp;omega)];exact⟨_,rfl,i,rfl,.inl ⟨rfl,by rw[hp,RI];simp[Kerb.okB,h2]⟩⟩
   rw[aj (by simp;omega),ae hc];have h4:=Kerb.sI c bad;by_cases h3:c∈bad
   ·rw[ah (by simpa using h4.2 h3)];exact⟨_,rfl,i,rfl,.inl ⟨rfl,by rw[hp,RI];simp[Kerb.okB,h3]⟩⟩
   rw[aj (by have:=mt h4.1 h3;simp;omega),wrap_i64 (by omega) (by omega)];exact⟨_,rfl,i+1,rfl,⟨by omega,by rw[hp,RI];simp[Kerb.okB,h1,h2,h3]⟩,by dsimp only;omega⟩
  ·rw[aj (by simp;omega)];exact⟨_,rfl,i,rfl,.inr ⟨rfl,by rw[hp,List.drop_eq_nil_of_le (by omega)];rfl⟩⟩
 ·rintro⟨e,l⟩ ⟨i,rfl,⟨rfl,hp⟩ | ⟨rfl,hp⟩⟩
  ·simp only[A0,hp]
  ·simp only[A0,hp];rfl
end Go.Proofs.YteafbgcimcpfiaaGreat
