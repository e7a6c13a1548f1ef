/- What the functions of this seat compute. -/
import Derived.Test.YtmipfdjcnkljnaaTab
import Derived.Test.YtmipfdjcnkljnaaKerbPlain
import Derived.Test.YtmipfdjcnkljnaaAbsStep
import Derived.Test.YtmipfdjcnkljnaaKerbCli4
import Derived.Test.YtmipfdjcnkljnaaKerbCli5
open Go.Abs.AV renaming str→Zz,int→Zy,bool→Zu,bs→Zf,sl→Zh,agg→Yp,ownB→Xv,tup→Xj,onBool→Wz,onAgg→Wx,ownL→Wb,undef→Wm,onStr→Vu,onOwnB→Vb,onInt→Up
open List renaming length→Zx,append→Yv,drop_eq_nil_of_le→Xz,getD→Xq,range_succ→Wg,replicate→Wh,map→Vz,take_of_length_le→Vn,length_map→Uk,findIdx_cons→Un
open Go.IntKind renaming wrap→Zw,i64→Zv,bits→Yy,u64→Xu
open Option renaming bind→Zq
open Kerb.Cred renaming av→Zj,service→Xp
open Kerb.Client renaming av→Zk,cache→Xb,wanted→Wj,me→Vq
open Int renaming toNat→Zp,toNat_natCast→Yq,tmod→Xx,tmod_eq_emod_of_nonneg→Vy
open Kerb.Cache renaming av→Zd,owner→Xd,creds→Vg,mk→Ug
open Bool renaming and_eq_true→Zg,not_true→Yw,and_self→Uh
open Prod renaming snd→Zb,fst→Yu
open Kerb renaming within→Zn,dataCred→Yz,printable→Yj,credAt→Yn,nextPos→Ym,credErr→Yh,user→Xw,bfd→Xk,toCred→Xf,keyValid→Xn,getCred→Xm,credsErr→Wy,putN→Wv,map_toCred→Wu,next→Wd,noCred→Wf,putN_len→Wn,putText_len→Vx,putText→Vw,getD_av→Vv,creds_of→Vj,validRealm→Vp,isKind→Vd,isCred→Vf,validName→Vm,validInst→Vh,u8i→Uz,sameCreds→Uy,newClient→Ux,dataPos→Uw,isSerial→Uv,okB→Uu,byteAt→Uq,bfd_eq→Uj,room_ok→Ud,isClass→Uf,cacheLoop→Ub,header→Um
open Kerb.Prin renaming mk→Zm,valid→Yx,realm→Yk,name→Yf,inst→Yg,eqb→Xh
open Nat renaming beq_refl→Yd,zero_le→Wq,beq→Wp
open UInt8 renaming toNat→Yb,ofNat→Ww
open Sum renaming inr→Xy,inl→Wk
open Go.Abs.Ex renaming exit→Xg,ret→Vk
namespace Go.Proofs.Ytmipfdjcnkljnaa
open Go Go.Abs Go.Proofs
set_option linter.unusedVariables false
set_option linter.unusedSimpArgs false
set_option maxRecDepth 100000
theorem w6:Walked Try.prog G 6 1 sp6:=by
 refine ⟨Try.f6,Try.func6,by decide +kernel,rfl,fun xs bl r h=> ?_⟩
 unfold sp6 at h
 split at h
 ·rename_i x y z
  cases h
  refine Eq.trans (b:=(sel (decide ((↑(Zx x):Int)>100)) (some (Zu true,[])) (sel (decide ((↑(Zx y):Int)>100)) (some (Zu true,[])) (some (Zu (decide ((↑(Zx z):Int)>100)),[]))):Option (AV×Blocks))) (by kernel_rfl) ?_
  unfold Kerb.longP
  have e:∀ q:List UInt8,decide ((q.length:Int)>100)=decide (100<q.length):=fun q=>decide_eq_decide.2 (by omega)
  rw [e,e,e]
  simp only
  cases decide (100<x.length)
  ·cases decide (100<y.length)<;>rfl
  ·rfl
 ·cases h
theorem w20:Walked Try.prog G 20 1 sp20:=by
 refine ⟨Try.f20,Try.func20,by decide +kernel,rfl,fun xs bl r h=> ?_⟩
 unfold sp20 at h
 split at h
 ·rename_i n m
  cases h
  refine Eq.trans (b:=(sel (decide (n≥0)) (some (Zu (decide (n≤m)),[])) (some (Zu false,[])):Option (AV×Blocks))) (by kernel_rfl) ?_
  by_cases h:0≤n<;>simp [sel,Zn,h]
 ·cases h
theorem w22:Walked Try.prog G 22 1 sp22:=by
 refine ⟨Try.f22,Try.func22,by decide +kernel,rfl,fun xs bl r h=> ?_⟩
 unfold sp22 at h
 split at h
 ·rename_i m1 m2 m3 ad sk li o1 o2 o3 els wt w1 w2 w3 se tm lf cs tc aw a1 a2 a3 as2 at2 al2 ac2 ak2
  cases h
  refine Eq.trans (b:=(some (Yp [Zz m1,Zz m2,Zz m3,Zy .i64 ad,Zy .i64 sk,Zu li,Zz o1,Zz o2,Zz o3,Zh 8 els,Zy .i64 aw,Zz a1,Zz a2,Zz a3,Zy .u64 as2,Zy .i64 at2,Zy .i64 al2,Zy .i64 ac2,Zy .i64 ak2],[]):Option (AV×Blocks))) (by kernel_rfl) ?_
  rfl
 ·cases h
theorem w24:Walked Try.prog G 24 1 sp24:=by
 refine ⟨Try.f24,Try.func24,by decide +kernel,rfl,fun xs bl r h=> ?_⟩
 unfold sp24 at h
 split at h
 ·rename_i n m
  cases h
  refine Eq.trans (b:=(sel (decide (n≥0)) (some (Zu (decide (n≤m)),[])) (some (Zu false,[])):Option (AV×Blocks))) (by kernel_rfl) ?_
  by_cases h:0≤n<;>simp [sel,Zn,h]
 ·cases h
theorem w30:Walked Try.prog G 30 1 sp30:=by
 refine ⟨Try.f30,Try.func30,by decide +kernel,rfl,fun xs bl r h=> ?_⟩
 unfold sp30 at h
 split at h
 ·rename_i r t
  cases h
  refine Eq.trans (b:=(some (Yp [Zz [(107:UInt8),(114:UInt8),(98:UInt8),(116:UInt8),(103:UInt8),(116:UInt8)],Zz t,Zz r],[]):Option (AV×Blocks))) (by kernel_rfl) ?_
  rfl
 ·cases h
theorem w31:Walked Try.prog G 31 1 sp31:=by
 refine ⟨Try.f31,Try.func31,by decide +kernel,rfl,fun xs bl r h=> ?_⟩
 unfold sp31 at h
 split at h
 ·rename_i r t
  cases h
  refine Eq.trans (b:=(some (Yp [Zz [(107:UInt8),(114:UInt8),(98:UInt8),(116:UInt8),(103:UInt8),(116:UInt8)],Zz t,Zz r],[]):Option (AV×Blocks))) (by kernel_rfl) ?_
  rfl
 ·cases h
theorem w33:Walked Try.prog G 33 1 sp33:=by
 refine ⟨Try.f33,Try.func33,by decide +kernel,rfl,fun xs bl r h=> ?_⟩
 unfold sp33 at h
 split at h
 ·rename_i e
  cases h
  refine Eq.trans (b:=(some (Xj [Yp [Zz [],Zz [],Zz [],Zy .i64 0,Zy .i64 0,Zu false,Zz [],Zz [],Zz [],Zh 8 [],Zy .i64 0,Zz [],Zz [],Zz [],Zy .u64 0,Zy .i64 0,Zy .i64 0,Zy .i64 0,Zy .i64 0],Zf [],Yp [Zz [],Zz [],Zz [],Zy .u64 0,Zy .i64 0,Zy .i64 0,Zy .i64 0,Zf []],Zf [],Zy .i64 e],[]):Option (AV×Blocks))) (by kernel_rfl) ?_
  rfl
 ·cases h
theorem w41:Walked Try.prog G 41 1 sp41:=by
 refine ⟨Try.f41,Try.func41,by decide +kernel,rfl,fun xs bl r h=> ?_⟩
 unfold sp41 at h
 split at h
 ·rename_i x y z k lf kv iss tk s1 s2 s3 sk2 lf2 kv2 is2 tk2
  cases h
  refine Eq.trans (b:=(sel (x==s1&&(y==s2&&z==s3)) (sel (k==sk2) (sel (lf==lf2) (sel (kv==kv2) (sel (iss==is2) (some (Zu (tk==tk2),[])) (some (Zu false,[]))) (some (Zu false,[]))) (some (Zu false,[]))) (some (Zu false,[]))) (some (Zu false,[])):Option (AV×Blocks))) (by kernel_rfl) ?_
  cases (x==s1&&(y==s2&&z==s3))
  ·rfl
  cases (k==sk2)
  ·rfl
  cases (lf==lf2)
  ·rfl
  cases (kv==kv2)
  ·rfl
  cases (iss==is2)
  ·rfl
  cases (tk==tk2)<;>rfl
 ·cases h
theorem w42:Walked Try.prog G 42 1 sp42:=by
 refine ⟨Try.f42,Try.func42,by decide +kernel,rfl,fun xs bl r h=> ?_⟩
 unfold sp42 at h
 split at h
 ·cases h
  refine Eq.trans (b:=(some (Zh 1 [Zz [(65:UInt8),(84:UInt8),(72:UInt8)],Zz [(66:UInt8),(79:UInt8),(83:UInt8)],Zz [(67:UInt8),(65:UInt8),(77:UInt8)]],[]):Option (AV×Blocks))) (by kernel_rfl) ?_
  rfl
 ·cases h
theorem w43:Walked Try.prog G 43 1 sp43:=by
 refine ⟨Try.f43,Try.func43,by decide +kernel,rfl,fun xs bl r h=> ?_⟩
 unfold sp43 at h
 split at h
 ·rename_i l pos
  cases h
  show runFnH (G.env 43 1) G.rts (G.own 43) Try.f43 _ _ [0]=_
  refine Eq.trans (b:=(some (Zu (decide (pos<(↑(Zx l):Int))),[[Zf l,Zy .i64 pos]]):Option (AV×Blocks))) (by kernel_rfl) ?_
  rfl
 ·cases h
theorem w46:Walked Try.prog G 46 1 sp46:=by
 refine ⟨Try.f46,Try.func46,by decide +kernel,rfl,fun xs bl r h=> ?_⟩
 unfold sp46 at h
 split at h
 ·rename_i n m
  cases h
  refine Eq.trans (b:=(sel (decide (n≥0)) (some (Zu (decide (n≤m)),[])) (some (Zu false,[])):Option (AV×Blocks))) (by kernel_rfl) ?_
  by_cases h:0≤n<;>simp [sel,Zn,h]
 ·cases h
theorem w47:Walked Try.prog G 47 1 sp47:=by
 refine ⟨Try.f47,Try.func47,by decide +kernel,rfl,fun xs bl r h=> ?_⟩
 unfold sp47 at h
 split at h
 ·rename_i els x y z
  obtain ⟨hpre,h2⟩:=chk_inv h;cases h2
  refine Eq.trans (b:=(Zq (loopM (fun (st:List AV)=>cSl 8 st fun b r=>cStr r fun b_1 r=>cStr r fun b_2 r=>cStr r fun b_3 r=>cInt .i64 r fun n r=>cSl 8 r fun b_4 r=>cInt .i64 r fun n_1 r=>cInt .i64 r fun n_2 r=>onNil r (sel (decide (n_2<n_1)) (chk (decide (0≤n_2)&&decide (n_2<(↑(Zx b_4):Int))&&true) (Wx (Xq b_4 (Zp n_2) Wm) fun cs=>cStr cs fun b_5 r=>cStr r fun b_6 r=>cStr r fun b_7 r=>cInt .u64 r fun n_3 r=>cInt .i64 r fun n_4 r=>cInt .i64 r fun n_5 r=>cInt .i64 r fun n_6 r=>cBs r fun b_8 r=>onNil r (sel (b_5==b_1&&(b_6==b_2&&b_7==b_3)) (some (Xy (Vk,[Zh 8 b,Zz b_1,Zz b_2,Zz b_3,Zy .i64 n_2,Zh 8 b_4,Zy .i64 n_1,Zy .i64 n_2]))) (some (Wk [Zh 8 b,Zz b_1,Zz b_2,Zz b_3,Zy .i64 n,Zh 8 b_4,Zy .i64 n_1,Zy .i64 (Zw .i64 (n_2+1))]))))) (some (Xy (Xg 0,[Zh 8 b,Zz b_1,Zz b_2,Zz b_3,Zy .i64 n,Zh 8 b_4,Zy .i64 n_1,Zy .i64 n_2]))))) [Zh 8 els,Zz x,Zz y,Zz z,Zy .i64 0,Zh 8 els,Zy .i64 (↑(Zx els):Int),Zy .i64 0]) fun (r:Ex×List AV)=>cSl 8 (Zb r) fun b r_1=>cStr r_1 fun b_1 r_2=>cStr r_2 fun b_2 r_3=>cStr r_3 fun b_3 r_4=>cInt .i64 r_4 fun n r_5=>cSl 8 r_5 fun b_4 r_6=>cInt .i64 r_6 fun n_1 r_7=>cInt .i64 r_7 fun n_2 r_8=>onNil r_8 (exK r.1 (some (Zy .i64 n,[])) fun (j:Nat)=>sel (Wp j 0) (some (Zy .i64 (↑(Zx b):Int),[])) none):Option (AV×Blocks))) (by kernel_rfl) ?_
  try dsimp only [cStr,cBs,cBool,cU8,cInt,cSl,l63]
  simp only [Zg,decide_eq_true_eq] at hpre
  obtain ⟨hall,hlen⟩:=hpre
  obtain ⟨cs,rfl,hok⟩:=Vj hall
  rw [Wu]
  simp only [Uk] at hlen ⊢
  refine loop_rounds (fun i:Nat=>[Zh 8 (cs.map Zj),Zz x,Zz y,Zz z,Zy Zv 0,Zh 8 (cs.map Zj),Zy Zv (cs.length:Int),Zy Zv (i:Int)]) (fun i=>i≤cs.length∧Yn cs ⟨x,y,z⟩=i+Yn (cs.drop i) ⟨x,y,z⟩) (fun i=>cs.length-i)
   (fun r=>∃ (i:Nat) (n:Int),r.2=[Zh 8 (cs.map Zj),Zz x,Zz y,Zz z,Zy Zv n,Zh 8 (cs.map Zj),Zy Zv (cs.length:Int),Zy Zv (i:Int)]∧((r.1 = .ret∧n=(Yn cs ⟨x,y,z⟩:Nat))∨(r.1 = .exit 0∧Yn cs ⟨x,y,z⟩=cs.length))) 0 ⟨Wq _,by simp⟩ rfl ?_ ?_
  ·rintro i ⟨hi,hp⟩
   simp only [A0,Zk,Zd,Zj]
   by_cases hlt:i<cs.length
   ·rw [sel_pos (by simp;omega),chk_of (by simp;omega),Yq,Vv hlt]
    have hd:=Kerb.drop_cred hlt
    generalize cs.getD i Wf=c at hd
    simp only [Zj,A0,Zk,Zd,Zj]
    show ∃ q,sel (Xh c.service ⟨x,y,z⟩) _ _=some q∧_
    cases he:Xh c.service ⟨x,y,z⟩
    ·rw [sel_false,wrap_i64 (by omega) (by omega)]
     refine ⟨_,rfl,i+1,rfl,⟨by omega,?_⟩,by dsimp only;omega⟩
     rw [hp,hd]
     simp only [Yn,Un,he,cond_false]
     omega
    ·rw [sel_true]
     refine ⟨_,rfl,i,_,rfl,.inl ⟨rfl,?_⟩⟩
     rw [hp,hd]
     simp only [Yn,Un,he,cond_true]
     omega
   ·rw [sel_neg (by simp;omega)]
    refine ⟨_,rfl,i,_,rfl,.inr ⟨rfl,?_⟩⟩
    rw [hp,Xz (by omega)]
    simp [Yn];omega
  ·rintro ⟨e,l⟩ ⟨i,n,rfl,⟨rfl,h⟩ | ⟨rfl,h⟩⟩
   ·simp only [A0,Zk,Zd,Zj,h]
   ·simp only [A0,Zk,Zd,Zj,h,Uk]
    rw [sel_pos (Yd _)]
 ·cases h
theorem w49:Walked Try.prog G 49 1 sp49:=by
 refine ⟨Try.f49,Try.func49,by decide +kernel,rfl,fun xs bl r h=> ?_⟩
 unfold sp49 at h
 split at h
 ·rename_i n m
  cases h
  refine Eq.trans (b:=(sel (decide (n≥0)) (some (Zu (decide (n≤m)),[])) (some (Zu false,[])):Option (AV×Blocks))) (by kernel_rfl) ?_
  by_cases h:0≤n<;>simp [sel,Zn,h]
 ·cases h
theorem w50:Walked Try.prog G 50 1 sp50:=by
 refine ⟨Try.f50,Try.func50,by decide +kernel,rfl,fun xs bl r h=> ?_⟩
 unfold sp50 at h
 split at h
 ·rename_i o1 o2 o3 els x y z
  obtain ⟨hpre,h2⟩:=chk_inv h;cases h2
  refine Eq.trans (b:=(Zq (loopM (fun (st:List AV)=>cStr st fun b r=>cStr r fun b_1 r=>cStr r fun b_2 r=>cSl 8 r fun b_3 r=>cStr r fun b_4 r=>cStr r fun b_5 r=>cStr r fun b_6 r=>cStr r fun b_7 r=>cStr r fun b_8 r=>cStr r fun b_9 r=>cInt .u64 r fun n r=>cInt .i64 r fun n_1 r=>cInt .i64 r fun n_2 r=>cInt .i64 r fun n_3 r=>cBs r fun b_10 r=>cBool r fun b_11 r=>cInt .i64 r fun n_4 r=>onNil r (sel (decide (n_4<(↑(Zx b_3):Int))) (chk (decide (0≤n_4)&&decide (n_4<(↑(Zx b_3):Int))&&true) (Wx (Xq b_3 (Zp n_4) Wm) fun cs=>cStr cs fun b_12 r=>cStr r fun b_13 r=>cStr r fun b_14 r=>cInt .u64 r fun n_5 r=>cInt .i64 r fun n_6 r=>cInt .i64 r fun n_7 r=>cInt .i64 r fun n_8 r=>cBs r fun b_15 r=>onNil r (sel (b_12==b_4&&(b_13==b_5&&b_14==b_6)) (chk (decide (0≤n_4)&&decide (n_4<(↑(Zx b_3):Int))&&true) (Wx (Xq b_3 (Zp n_4) Wm) fun cs=>cStr cs fun b_16 r=>cStr r fun b_17 r=>cStr r fun b_18 r=>cInt .u64 r fun n r=>cInt .i64 r fun n_9 r=>cInt .i64 r fun n_10 r=>cInt .i64 r fun n_11 r=>cBs r fun b_19 r=>onNil r (some (Xy (Vk,[Zz b,Zz b_1,Zz b_2,Zh 8 b_3,Zz b_4,Zz b_5,Zz b_6,Zz b_16,Zz b_17,Zz b_18,Zy .u64 n,Zy .i64 n_9,Zy .i64 n_10,Zy .i64 n_11,Zf b_19,Zu true,Zy .i64 n_4]))))) (some (Wk [Zz b,Zz b_1,Zz b_2,Zh 8 b_3,Zz b_4,Zz b_5,Zz b_6,Zz b_7,Zz b_8,Zz b_9,Zy .u64 n,Zy .i64 n_1,Zy .i64 n_2,Zy .i64 n_3,Zf b_10,Zu b_11,Zy .i64 (Zw .i64 (n_4+1))]))))) (some (Xy (Xg 0,[Zz b,Zz b_1,Zz b_2,Zh 8 b_3,Zz b_4,Zz b_5,Zz b_6,Zz b_7,Zz b_8,Zz b_9,Zy .u64 n,Zy .i64 n_1,Zy .i64 n_2,Zy .i64 n_3,Zf b_10,Zu b_11,Zy .i64 n_4]))))) [Zz o1,Zz o2,Zz o3,Zh 8 els,Zz x,Zz y,Zz z,Zz [],Zz [],Zz [],Zy .u64 0,Zy .i64 0,Zy .i64 0,Zy .i64 0,Zf [],Zu false,Zy .i64 0]) fun (r:Ex×List AV)=>cStr (Zb r) fun b r_1=>cStr r_1 fun b r_2=>cStr r_2 fun b r_3=>cSl 8 r_3 fun b r_4=>cStr r_4 fun b r_5=>cStr r_5 fun b r_6=>cStr r_6 fun b r_7=>cStr r_7 fun b r_8=>cStr r_8 fun b_1 r_9=>cStr r_9 fun b_2 r_10=>cInt .u64 r_10 fun n r_11=>cInt .i64 r_11 fun n_1 r_12=>cInt .i64 r_12 fun n_2 r_13=>cInt .i64 r_13 fun n_3 r_14=>cBs r_14 fun b_3 r_15=>cBool r_15 fun b_4 r_16=>cInt .i64 r_16 fun n_4 r_17=>onNil r_17 (exK r.1 (some (Xj [Yp [Zz b,Zz b_1,Zz b_2,Zy .u64 n,Zy .i64 n_1,Zy .i64 n_2,Zy .i64 n_3,Zf b_3],Zu b_4],[])) fun (j:Nat)=>sel (Wp j 0) (some (Xj [Yp [Zz [],Zz [],Zz [],Zy .u64 0,Zy .i64 0,Zy .i64 0,Zy .i64 0,Zf []],Zu false],[])) none):Option (AV×Blocks))) (by kernel_rfl) ?_
  try dsimp only [cStr,cBs,cBool,cU8,cInt,cSl,l63]
  simp only [Zg,decide_eq_true_eq] at hpre
  obtain ⟨hall,hlen⟩:=hpre
  obtain ⟨cs,rfl,hok⟩:=Vj hall
  rw [Wu]
  simp only [Uk] at hlen ⊢
  refine loop_rounds (fun i:Nat=>[Zz o1,Zz o2,Zz o3,Zh 8 (cs.map Zj),Zz x,Zz y,Zz z,Zz [],Zz [],Zz [],Zy Xu 0,Zy Zv 0,Zy Zv 0,Zy Zv 0,Zf [],Zu false,Zy Zv (i:Int)]) (fun i=>i≤cs.length∧Yn cs ⟨x,y,z⟩=i+Yn (cs.drop i) ⟨x,y,z⟩) (fun i=>cs.length-i)
   (fun r=>∃ (i:Nat) (c:Kerb.Cred) (f:Bool),r.2=[Zz o1,Zz o2,Zz o3,Zh 8 (cs.map Zj),Zz x,Zz y,Zz z,Zz c.service.name,Zz c.service.inst,Zz c.service.realm,Zy Xu c.session,Zy Zv c.life,Zy Zv c.kvno,Zy Zv c.issued,Zf c.ticket,Zu f,Zy Zv (i:Int)]∧((r.1 = .ret∧Xm cs ⟨x,y,z⟩=(c,f))∨(r.1 = .exit 0∧Xm cs ⟨x,y,z⟩=(Wf,false)))) 0 ⟨Wq _,by simp⟩ rfl ?_ ?_
  ·rintro i ⟨hi,hp⟩
   simp only [A0,Zk,Zd,Zj]
   by_cases hlt:i<cs.length
   ·rw [sel_pos (by simp;omega),chk_of (by simp;omega),Yq,Vv hlt]
    have hd:=Kerb.drop_cred hlt
    obtain ⟨c,hcc⟩:∃ c,cs.getD i Wf=c:=⟨_,rfl⟩
    rw [hcc] at hd ⊢
    simp only [Zj,A0,Zk,Zd,Zj]
    show ∃ q,sel (Xh c.service ⟨x,y,z⟩) _ _=some q∧_
    cases he:Xh c.service ⟨x,y,z⟩
    ·rw [sel_false,wrap_i64 (by omega) (by omega)]
     refine ⟨_,rfl,i+1,rfl,⟨by omega,?_⟩,by dsimp only;omega⟩
     rw [hp,hd]
     simp only [Yn,Un,he,cond_false]
     omega
    ·rw [sel_true,chk_of (by simp;omega)]
     refine ⟨_,rfl,i,c,true,rfl,.inl ⟨rfl,?_⟩⟩
     have hq:Yn cs ⟨x,y,z⟩=i:=by
      rw [hp,hd]
      simp only [Yn,Un,he,cond_true]
      omega
     unfold Xm
     rw [hq,if_pos hlt,hcc]
   ·rw [sel_neg (by simp;omega)]
    refine ⟨_,rfl,i,Wf,false,rfl,.inr ⟨rfl,?_⟩⟩
    have hq:Yn cs ⟨x,y,z⟩=cs.length:=by
     rw [hp,Xz (by omega)]
     simp [Yn];omega
    unfold Xm
    rw [hq,if_neg (by omega)]
  ·rintro ⟨e,l⟩ ⟨i,c,f,rfl,⟨rfl,h⟩ | ⟨rfl,h⟩⟩
   ·simp only [A0,Zk,Zd,Zj,h]
   ·simp only [A0,Zk,Zd,Zj,h]
    rw [sel_pos (Yd _)]
    rfl
 ·cases h
theorem w51:Walked Try.prog G 51 1 sp51:=by
 refine ⟨Try.f51,Try.func51,by decide +kernel,rfl,fun xs bl r h=> ?_⟩
 unfold sp51 at h
 split at h
 ·rename_i n m
  cases h
  refine Eq.trans (b:=(sel (decide (n≥0)) (some (Zu (decide (n≤m)),[])) (some (Zu false,[])):Option (AV×Blocks))) (by kernel_rfl) ?_
  by_cases h:0≤n<;>simp [sel,Zn,h]
 ·cases h
theorem w61:Walked Try.prog G 61 1 sp61:=by
 refine ⟨Try.f61,Try.func61,by decide +kernel,rfl,fun xs bl r h=> ?_⟩
 unfold sp61 at h
 split at h
 ·rename_i n m
  cases h
  refine Eq.trans (b:=(sel (decide (n≥0)) (some (Zu (decide (n≤m)),[])) (some (Zu false,[])):Option (AV×Blocks))) (by kernel_rfl) ?_
  by_cases h:0≤n<;>simp [sel,Zn,h]
 ·cases h
theorem w66:Walked Try.prog G 66 1 sp66:=by
 refine ⟨Try.f66,Try.func66,by decide +kernel,rfl,fun xs bl r h=> ?_⟩
 unfold sp66 at h
 split at h
 ·rename_i n l pos
  obtain ⟨hpre,h2⟩:=chk_inv h;cases h2
  show runFnH (G.env 66 1) G.rts (G.own 66) Try.f66 _ _ [0]=_
  refine Eq.trans (b:=(sel (decide (pos≥(↑(Zx l):Int))) (some (Zy .i64 0,[[Zf l,Zy .i64 pos]])) (sel (decide (n≤0)) (some (Zy .i64 0,[[Zf l,Zy .i64 pos]])) (chk (decide (0≤pos)&&decide (pos<(↑(Zx l):Int))) (chk (!n==0) (some (Zy .i64 (Xx (Zw .i64 (↑(Yb (Xq l (Zp pos) (0:UInt8))):Int)) n),[[Zf l,Zy .i64 (Zw .i64 (pos+1))]]))))):Option (AV×Blocks))) (by kernel_rfl) ?_
  simp only [Zg,decide_eq_true_eq] at hpre
  unfold Wd Ym
  by_cases h1:(l.length:Int)≤pos
  ·simp [sel,h1]
   omega
  by_cases h2:n≤0
  ·simp [sel,h1,h2]
   omega
  have h3:¬ n=0:=by omega
  have hb:=(l.getD pos.toNat 0).toNat_lt
  rw [sel_neg (by simp;omega),sel_neg (by simp;omega),chk_of (by simp;omega),chk_of (by simpa using h3),if_neg (by omega),if_neg (by omega),wrap_i64 (by omega) (by omega),wrap_i64 (by omega) (by omega),Vy (by omega),Int.toNat_of_nonneg (by omega)]
 ·cases h
theorem w67:Walked Try.prog G 67 1 sp67:=by
 refine ⟨Try.f67,Try.func67,by decide +kernel,rfl,fun xs bl r h=> ?_⟩
 unfold sp67 at h
 split at h
 ·rename_i n
  obtain ⟨hpre,h2⟩:=chk_inv h;cases h2
  refine Eq.trans (b:=(some (Zy .u64 (Zw .u64 (↑(BitVec.toNat (BitVec.ofInt (Yy .u64) 144115188075855872 ||| BitVec.ofInt (Yy .u64) (Zw .u64 (Zw .i64 (1+n))))):Int)),[]):Option (AV×Blocks))) (by kernel_rfl) ?_
  rfl
 ·cases h
theorem w69:Walked Try.prog G 69 1 sp69:=by
 refine ⟨Try.f69,Try.func69,by decide +kernel,rfl,fun xs bl r h=> ?_⟩
 unfold sp69 at h
 split at h
 ·rename_i c n
  cases h
  refine Eq.trans (b:=(sel (!c==1) (sel (!c==2) (some (Zy .u64 0,[])) (sel (decide (n<1)) (some (Zy .u64 0,[])) (sel (decide (n>4294967295)) (some (Zy .u64 0,[])) (some (Zy .u64 (Zw .u64 (↑(BitVec.toNat (BitVec.ofInt (Yy .u64) (Zw .u64 (Zw .u64 c*2 ^ min (Zp 56) (Yy .u64))) ||| BitVec.ofInt (Yy .u64) (Zw .u64 n))):Int)),[]))))) (sel (decide (n<1)) (some (Zy .u64 0,[])) (sel (decide (n>4294967295)) (some (Zy .u64 0,[])) (some (Zy .u64 (Zw .u64 (↑(BitVec.toNat (BitVec.ofInt (Yy .u64) (Zw .u64 (Zw .u64 c*2 ^ min (Zp 56) (Yy .u64))) ||| BitVec.ofInt (Yy .u64) (Zw .u64 n))):Int)),[])))):Option (AV×Blocks))) (by kernel_rfl) ?_
  unfold Uf Uv
  by_cases hc:c=1∨c=2
  case neg =>
   have q1:(c==(1:Int))=false:=by simp;omega
   have q2:(c==(2:Int))=false:=by simp;omega
   rw [q1,q2]
   rfl
  by_cases hn:1≤n∧n≤4294967295
  case neg =>
   have q:(decide (1≤n)&&decide (n≤4294967295))=false:=by
    rw [Bool.eq_false_iff]
    simp
    omega
   rw [q,Bool.and_false]
   have key:(sel (decide (n<(1:Int))) (some (Zy .u64 (0:Int),([]:Blocks))) (sel (decide (n>(4294967295:Int))) (some (Zy .u64 (0:Int),[])) (some (Zy Xu (Zw Xu ((BitVec.toNat (BitVec.ofInt (Yy Xu) (Zw Xu (Zw Xu c*(2:Int) ^ min (Zp (56:Int)) (Yy Xu))) ||| BitVec.ofInt (Yy Xu) (Zw Xu n)):Nat):Int)),[]))))=some (Zy .u64 0,[]):=by
    by_cases hl:n<1
    ·rw [sel_pos (by simpa using hl)]
    ·rw [sel_neg (by simpa using hl),sel_pos (by simp;omega)]
   rcases hc with rfl | rfl
   ·rw [sel_neg (by decide)];exact key
   ·rw [sel_pos (by decide),sel_neg (by decide)];exact key
  have q:(decide (1≤n)&&decide (n≤4294967295))=true:=by simp;omega
  have q2:(c==(1:Int)||c==(2:Int))=true:=by simpa using hc
  rw [q,q2,Kerb.key_make hc hn.1 hn.2]
  rcases hc with rfl | rfl
  ·rw [sel_neg (by decide),sel_neg (by simp;omega),sel_neg (by simp;omega)]
   rfl
  ·rw [sel_pos (by decide),sel_neg (by decide),sel_neg (by simp;omega),sel_neg (by simp;omega)]
   rfl
 ·cases h
theorem w70:Walked Try.prog G 70 1 sp70:=by
 refine ⟨Try.f70,Try.func70,by decide +kernel,rfl,fun xs bl r h=> ?_⟩
 unfold sp70 at h
 split at h
 ·rename_i k
  cases h
  refine Eq.trans (b:=(sel (decide (k≥1)) (some (Zu (decide (k≤10)),[])) (some (Zu false,[])):Option (AV×Blocks))) (by kernel_rfl) ?_
  by_cases h:1≤k<;>simp [sel,Vd,h]
 ·cases h
theorem w78:Walked Try.prog G 78 1 sp78:=by
 refine ⟨Try.f78,Try.func78,by decide +kernel,rfl,fun xs bl r h=> ?_⟩
 unfold sp78 at h
 split at h
 ·rename_i s bad
  obtain ⟨hpre,h2⟩:=chk_inv h;cases h2
  refine Eq.trans (b:=(Zq (loopM (fun (st:List AV)=>cStr st fun b r=>cStr r fun b_1 r=>cBool r fun b_2 r=>cInt .i64 r fun n r=>let t0:Int:=(↑(Yb (Xq b (Zp n) (0:UInt8))):Int);let t1:Option (List AV ⊕ Ex×List AV):=some (Xy (Vk,[Zz b,Zz b_1,Zu false,Zy .i64 n]));onNil r (sel (decide (n<(↑(Zx b):Int))) (chk (decide (0≤n)&&decide (n<(↑(Zx b):Int))) (sel (decide (t0<(↑(Yb (33:UInt8)):Int))) t1 (chk (decide (0≤n)&&decide (n<(↑(Zx b):Int))) (sel (decide (t0>(↑(Yb (126:UInt8)):Int))) t1 (Zq (loopM (fun (st:List AV)=>cStr st fun b r=>cStr r fun b_3 r=>cBool r fun b_4 r=>cInt .i64 r fun n r=>cInt .i64 r fun n_1 r=>onNil r (sel (decide (n_1<(↑(Zx b_3):Int))) (chk (decide (0≤n)&&decide (n<(↑(Zx b):Int))) (chk (decide (0≤n_1)&&decide (n_1<(↑(Zx b_3):Int))) (sel (Xq b (Zp n) (0:UInt8)==Xq b_3 (Zp n_1) (0:UInt8)) (some (Xy (Vk,[Zz b,Zz b_3,Zu false,Zy .i64 n,Zy .i64 n_1]))) (some (Wk [Zz b,Zz b_3,Zu b_4,Zy .i64 n,Zy .i64 (Zw .i64 (n_1+1))]))))) (some (Xy (Xg 2,[Zz b,Zz b_3,Zu b_4,Zy .i64 n,Zy .i64 n_1]))))) [Zz b,Zz b_1,Zu b_2,Zy .i64 n,Zy .i64 0]) fun (r:Ex×List AV)=>cStr (Zb r) fun b r_1=>cStr r_1 fun b_3 r_2=>cBool r_2 fun b_4 r_3=>cInt .i64 r_3 fun n r_4=>cInt .i64 r_4 fun n_1 r_5=>onNil r_5 (exK r.1 (some (Xy (Vk,[Zz b,Zz b_3,Zu b_4,Zy .i64 n]))) fun (j:Nat)=>sel (Wp j 2) (some (Wk [Zz b,Zz b_3,Zu b_4,Zy .i64 (Zw .i64 (n+1))])) none)))))) (some (Xy (Xg 0,[Zz b,Zz b_1,Zu b_2,Zy .i64 n]))))) [Zz s,Zz bad,Zu false,Zy .i64 0]) fun (r:Ex×List AV)=>cStr (Zb r) fun b r_1=>cStr r_1 fun b_1 r_2=>cBool r_2 fun b_2 r_3=>cInt .i64 r_3 fun n r_4=>onNil r_4 (exK r.1 (some (Zu b_2,[])) fun (j:Nat)=>sel (Wp j 0) (some (Zu (decide ((↑(Zx b):Int)≤39)),[])) none):Option (AV×Blocks))) (by kernel_rfl) ?_
  try dsimp only [cStr,cBs,cBool,cU8,cInt,cSl,l63]
  simp only [Zg,decide_eq_true_eq] at hpre
  refine loop_rounds (fun i:Nat=>[Zz s,Zz bad,Zu false,Zy Zv (i:Int)]) (fun i=>i≤s.length∧Yj s bad=Yj (s.drop i) bad) (fun i=>s.length-i)
   (fun r=>∃ i:Nat,r.2=[Zz s,Zz bad,Zu false,Zy Zv (i:Int)]∧((r.1 = .ret∧Yj s bad=false)∨(r.1 = .exit 0∧Yj s bad=true))) 0 ⟨Wq _,rfl⟩ rfl ?_ ?_
  ·rintro i ⟨hi,hp⟩
   simp only [A0]
   by_cases hlt:i<s.length
   ·have hc:(decide ((0:Int)≤(i:Int))&&decide ((i:Int)<(s.length:Int)))=true:=by simp;omega
    have hd:=Kerb.drop_all_cons hlt
    rw [sel_pos (by simp;omega),chk_of hc,Yq]
    have hpr:Yj (s.drop i) bad=(Uu bad (s.getD i 0)&&Yj (s.drop (i+1)) bad):=by rw [hd];rfl
    generalize hcc:s.getD i 0=c at *
    by_cases h1:c.toNat<33
    ·rw [sel_pos (by simp;omega)]
     exact ⟨_,rfl,i,rfl,.inl ⟨rfl,by rw [hp,hpr];simp [Uu,h1]⟩⟩
    rw [sel_neg (by simp;omega),chk_of hc]
    by_cases h2:126<c.toNat
    ·rw [sel_pos (by simp;omega)]
     exact ⟨_,rfl,i,rfl,.inl ⟨rfl,by rw [hp,hpr];simp [Uu,h2]⟩⟩
    rw [sel_neg (by simp;omega)]
    refine loop_ex (fun j:Nat=>[Zz s,Zz bad,Zu false,Zy Zv (i:Int),Zy Zv (j:Int)]) (fun j=>j≤bad.length∧(c∈bad↔c∈bad.drop j)) (fun j=>bad.length-j)
     (fun r=>∃ j:Nat,r.2=[Zz s,Zz bad,Zu false,Zy Zv (i:Int),Zy Zv (j:Int)]∧((r.1 = .ret∧c∈bad)∨(r.1 = .exit 2∧c ∉ bad))) 0 ⟨Wq _,by simp⟩ rfl ?_ ?_
    ·rintro j ⟨hj,hm⟩
     simp only [A0]
     by_cases hjl:j<bad.length
     ·have hdj:=Kerb.drop_all_cons hjl
      rw [sel_pos (by simp;omega),chk_of hc,chk_of (by simp;omega),Yq,Yq,hcc]
      rw [hdj,List.mem_cons] at hm
      by_cases h3:c=bad.getD j 0
      ·rw [sel_pos (by simpa using h3)]
       exact ⟨_,rfl,j,rfl,.inl ⟨rfl,hm.2 (.inl h3)⟩⟩
      ·rw [sel_neg (by simpa using h3),wrap_i64 (by omega) (by omega)]
       exact ⟨_,rfl,j+1,rfl,⟨by omega,hm.trans ⟨fun h=>h.resolve_left h3,.inr⟩⟩,by dsimp only;omega⟩
     ·rw [sel_neg (by simp;omega)]
      refine ⟨_,rfl,j,rfl,.inr ⟨rfl,?_⟩⟩
      rw [hm,Xz (by omega)];simp
    ·rintro ⟨e,l⟩ ⟨j,rfl,⟨rfl,h3⟩ | ⟨rfl,h3⟩⟩
     ·simp only [A0]
      exact ⟨_,rfl,i,rfl,.inl ⟨rfl,by rw [hp,hpr];simp [Uu,h3]⟩⟩
     ·simp only [A0]
      rw [sel_pos (Yd _),wrap_i64 (by omega) (by omega)]
      exact ⟨_,rfl,i+1,rfl,⟨by omega,by rw [hp,hpr];simp [Uu,h1,h2,h3]⟩,by dsimp only;omega⟩
   ·rw [sel_neg (by simp;omega)]
    exact ⟨_,rfl,i,rfl,.inr ⟨rfl,by rw [hp,Xz (by omega)];rfl⟩⟩
  ·rintro ⟨e,l⟩ ⟨i,rfl,⟨rfl,hp⟩ | ⟨rfl,hp⟩⟩
   ·simp only [A0,hp]
    rfl
   ·simp only [A0,hp]
    rw [sel_pos (Yd _),decide_eq_decide.2 (show ((s.length:Int)≤39)↔s.length≤39 from by omega)]
    rfl
 ·cases h
theorem w79:Walked Try.prog G 79 1 sp79:=by
 refine ⟨Try.f79,Try.func79,by decide +kernel,rfl,fun xs bl r h=> ?_⟩
 unfold sp79 at h
 split at h
 ·rename_i k
  cases h
  refine Eq.trans (b:=(sel (k==1) (some (Zu true,[])) (some (Zu (k==2),[])):Option (AV×Blocks))) (by kernel_rfl) ?_
  unfold Uf
  cases (k==(1:Int))<;>rfl
 ·cases h
theorem w80:Walked Try.prog G 80 1 sp80:=by
 refine ⟨Try.f80,Try.func80,by decide +kernel,rfl,fun xs bl r h=> ?_⟩
 unfold sp80 at h
 split at h
 ·rename_i k
  cases h
  refine Eq.trans (b:=(sel (decide (k≥1)) (some (Zu (decide (k≤4294967295)),[])) (some (Zu false,[])):Option (AV×Blocks))) (by kernel_rfl) ?_
  by_cases h:1≤k<;>simp [sel,Uv,h]
 ·cases h
theorem w83:Walked Try.prog G 83 1 sp83:=by
 refine ⟨Try.f83,Try.func83,by decide +kernel,rfl,fun xs bl r h=> ?_⟩
 unfold sp83 at h
 split at h
 ·rename_i n
  cases h
  refine Eq.trans (b:=(sel (decide (n≥0)) (some (Zu (decide (n≤4294967295)),[])) (some (Zu false,[])):Option (AV×Blocks))) (by kernel_rfl) ?_
  by_cases h:0≤n<;>simp [sel,Zn,h]
 ·cases h
theorem w84:Walked Try.prog G 84 1 sp84:=by
 refine ⟨Try.f84,Try.func84,by decide +kernel,rfl,fun xs bl r h=> ?_⟩
 unfold sp84 at h
 split at h
 ·rename_i n
  cases h
  refine Eq.trans (b:=(sel (decide (n≥0)) (some (Zu (decide (n≤255)),[])) (some (Zu false,[])):Option (AV×Blocks))) (by kernel_rfl) ?_
  by_cases h:0≤n<;>simp [sel,Zn,h]
 ·cases h
theorem w87:Walked Try.prog G 87 1 sp87:=by
 refine ⟨Try.f87,Try.func87,by decide +kernel,rfl,fun xs bl r h=> ?_⟩
 unfold sp87 at h
 split at h
 ·rename_i k
  cases h
  refine Eq.trans (b:=(sel (decide (k≥1)) (some (Zu (decide (k≤10)),[])) (some (Zu false,[])):Option (AV×Blocks))) (by kernel_rfl) ?_
  by_cases h:1≤k<;>simp [sel,Vd,h]
 ·cases h
theorem w88:Walked Try.prog G 88 1 sp88:=by
 refine ⟨Try.f88,Try.func88,by decide +kernel,rfl,fun xs bl r h=> ?_⟩
 unfold sp88 at h
 split at h
 ·rename_i k
  obtain ⟨hpre,h2⟩:=chk_inv h;cases h2
  refine Eq.trans (b:=(Zq (loopM (fun (st:List AV)=>cInt .u64 st fun n r=>onCons r fun x r=>Vb x fun b=>cInt .i64 r fun n_1 r=>cInt .i64 r fun n_2 r=>let t0:Int:=Zw .i64 (8*Zw .i64 (7-n_2));onNil r (sel (decide (n_2<n_1)) (chk (decide (0≤t0)) (chk (decide (0≤n_2)&&decide (n_2<(↑(Zx b):Int))) (chk (Nat.blt (Zp n_2) (Zx b)&&true&&true&&true&&true) (some (Wk [Zy .u64 n,Xv (List.set b (Zp n_2) (Ww (Zp (Zw .u8 (Int.fdiv n (2 ^ min (Zp t0) (Yy .u64))))))),Zy .i64 n_1,Zy .i64 (Zw .i64 (n_2+1))]))))) (some (Xy (Xg 0,[Zy .u64 n,Xv b,Zy .i64 n_1,Zy .i64 n_2]))))) [Zy .u64 k,Xv (Wh (Zp 8) (0:UInt8)),Zy .i64 (↑(Zx (Wh (Zp 8) (0:UInt8))):Int),Zy .i64 0]) fun (r:Ex×List AV)=>cInt .u64 (Zb r) fun n r_1=>onCons r_1 fun x r_2=>Vb x fun b=>cInt .i64 r_2 fun n r_3=>cInt .i64 r_3 fun n r_4=>onNil r_4 (exK r.1 none fun (j:Nat)=>sel (Wp j 0) (some (Zf b,[])) none):Option (AV×Blocks))) (by kernel_rfl) ?_
  try dsimp only [cStr,cBs,cBool,cU8,cInt,cSl,l63]
  refine loop_unroll 9 (Xg 0,[Zy Xu k,Xv [Xk k 56,Xk k 48,Xk k 40,Xk k 32,Xk k 24,Xk k 16,Xk k 8,Xk k 0],Zy Zv 8,Zy Zv 8]) (by kernel_rfl) ?_
  simp only [A0]
  rw [sel_pos (Yd _)]
  simp [Uj,Kerb.keyBytes,Uq,Wg]
 ·cases h
theorem w90:Walked Try.prog G 90 1 sp90:=by
 refine ⟨Try.f90,Try.func90,by decide +kernel,rfl,fun xs bl r h=> ?_⟩
 unfold sp90 at h
 split at h
 ·rename_i n m
  cases h
  refine Eq.trans (b:=(sel (decide (n≥0)) (some (Zu (decide (n≤m)),[])) (some (Zu false,[])):Option (AV×Blocks))) (by kernel_rfl) ?_
  by_cases h:0≤n<;>simp [sel,Zn,h]
 ·cases h
theorem w5:Walked Try.prog G 5 2 sp5:=by
 refine ⟨Try.f5,Try.func5,by decide +kernel,rfl,fun xs bl r h=> ?_⟩
 unfold sp5 at h
 split at h
 ·rename_i m1 m2 m3 ad sk li o1 o2 o3 els wt w1 w2 w3 se tm lf cs tc
  cases h
  refine Eq.trans (b:=(sel (decide ((↑(Zx els):Int)>20)) (some (Zu true,[])) (sel (Kerb.longP (Zm m1 m2 m3)) (some (Zu true,[])) (sel (Kerb.longP (Zm w1 w2 w3)) (some (Zu true,[])) (some (Zu (Kerb.longP (Zm o1 o2 o3)),[])))):Option (AV×Blocks))) (by kernel_rfl) ?_
  have e:decide ((els.length:Int)>20)=decide (20<els.length):=decide_eq_decide.2 (by omega)
  rw [e]
  cases decide (20<els.length)
  ·cases Kerb.longP ⟨m1,m2,m3⟩
   ·cases Kerb.longP ⟨w1,w2,w3⟩<;>rfl
   ·rfl
  ·rfl
 ·cases h
theorem w14:Walked Try.prog G 14 2 sp14:=by
 refine ⟨Try.f14,Try.func14,by decide +kernel,rfl,fun xs bl r h=> ?_⟩
 unfold sp14 at h
 split at h
 ·rename_i m1 m2 m3 x y z
  cases h
  refine Eq.trans (b:=(sel (z==m3) (some (Yp [Zz [(107:UInt8),(114:UInt8),(98:UInt8),(116:UInt8),(103:UInt8),(116:UInt8)],Zz m3,Zz m3],[])) (some (Yp [Zz [(107:UInt8),(114:UInt8),(98:UInt8),(116:UInt8),(103:UInt8),(116:UInt8)],Zz z,Zz m3],[])):Option (AV×Blocks))) (by kernel_rfl) ?_
  cases h:(z==m3)
  ·rfl
  ·rw [eq_of_beq h];rfl
 ·cases h
theorem w15:Walked Try.prog G 15 2 sp15:=by
 refine ⟨Try.f15,Try.func15,by decide +kernel,rfl,fun xs bl r h=> ?_⟩
 unfold sp15 at h
 split at h
 ·rename_i m1 m2 m3 x y z
  cases h
  refine Eq.trans (b:=(some (Yp [Zz [(107:UInt8),(114:UInt8),(98:UInt8),(116:UInt8),(103:UInt8),(116:UInt8)],Zz z,Zz m3],[]):Option (AV×Blocks))) (by kernel_rfl) ?_
  rfl
 ·cases h
theorem w25:Walked Try.prog G 25 2 sp25:=by
 refine ⟨Try.f25,Try.func25,by decide +kernel,rfl,fun xs bl r h=> ?_⟩
 unfold sp25 at h
 split at h
 ·rename_i o1 o2 o3 els o1b o2b o3b elsb
  obtain ⟨hpre,h2⟩:=chk_inv h;cases h2
  refine Eq.trans (b:=(sel (!(o1==o1b&&(o2==o2b&&o3==o3b))) (some (Zu false,[])) (sel (!(↑(Zx els):Int)==(↑(Zx elsb):Int)) (some (Zu false,[])) (Zq (loopM (fun (st:List AV)=>cStr st fun b r=>cStr r fun b_1 r=>cStr r fun b_2 r=>cSl 8 r fun b_3 r=>cStr r fun b_4 r=>cStr r fun b_5 r=>cStr r fun b_6 r=>cSl 8 r fun b_7 r=>cBool r fun b_8 r=>cInt .i64 r fun n r=>onNil r (sel (decide (n<(↑(Zx b_3):Int))) (chk (decide (0≤n)&&decide (n<(↑(Zx b_3):Int))&&true) (Wx (Xq b_3 (Zp n) Wm) fun cs=>cStr cs fun b_9 r=>cStr r fun b_10 r=>cStr r fun b_11 r=>cInt .u64 r fun n_1 r=>cInt .i64 r fun n_2 r=>cInt .i64 r fun n_3 r=>cInt .i64 r fun n_4 r=>cBs r fun b_12 r=>onNil r (chk (decide (0≤n)&&decide (n<(↑(Zx b_7):Int))&&true) (Wx (Xq b_7 (Zp n) Wm) fun cs=>cStr cs fun b_13 r=>cStr r fun b_14 r=>cStr r fun b_15 r=>cInt .u64 r fun n_5 r=>cInt .i64 r fun n_6 r=>cInt .i64 r fun n_7 r=>cInt .i64 r fun n_8 r=>cBs r fun b_16 r=>onNil r (sel (!(b_9==b_13&&(b_10==b_14&&b_11==b_15)&&n_1==n_5&&n_2==n_6&&n_3==n_7&&n_4==n_8&&b_12==b_16)) (some (Xy (Vk,[Zz b,Zz b_1,Zz b_2,Zh 8 b_3,Zz b_4,Zz b_5,Zz b_6,Zh 8 b_7,Zu false,Zy .i64 n]))) (some (Wk [Zz b,Zz b_1,Zz b_2,Zh 8 b_3,Zz b_4,Zz b_5,Zz b_6,Zh 8 b_7,Zu b_8,Zy .i64 (Zw .i64 (n+1))]))))))) (some (Xy (Xg 0,[Zz b,Zz b_1,Zz b_2,Zh 8 b_3,Zz b_4,Zz b_5,Zz b_6,Zh 8 b_7,Zu b_8,Zy .i64 n]))))) [Zz o1,Zz o2,Zz o3,Zh 8 els,Zz o1b,Zz o2b,Zz o3b,Zh 8 elsb,Zu false,Zy .i64 0]) fun (r:Ex×List AV)=>cStr (Zb r) fun b r_1=>cStr r_1 fun b r_2=>cStr r_2 fun b r_3=>cSl 8 r_3 fun b r_4=>cStr r_4 fun b r_5=>cStr r_5 fun b r_6=>cStr r_6 fun b r_7=>cSl 8 r_7 fun b r_8=>cBool r_8 fun b r_9=>cInt .i64 r_9 fun n r_10=>onNil r_10 (exK r.1 (some (Zu b,[])) fun (j:Nat)=>sel (Wp j 0) (some (Zu true,[])) none))):Option (AV×Blocks))) (by kernel_rfl) ?_
  try dsimp only [cStr,cBs,cBool,cU8,cInt,cSl,l63]
  simp only [Zg,decide_eq_true_eq] at hpre
  obtain ⟨⟨⟨hall,hlen⟩,hallb⟩,hlenb⟩:=hpre
  obtain ⟨cs,rfl,hok⟩:=Vj hall
  obtain ⟨ds,rfl,hokd⟩:=Vj hallb
  unfold Kerb.Cache.same
  simp only [Wu,Uk] at hlen hlenb ⊢
  show sel (!(Xh ⟨o1,o2,o3⟩ ⟨o1b,o2b,o3b⟩)) _ _=_
  cases h0:Xh ⟨o1,o2,o3⟩ ⟨o1b,o2b,o3b⟩
  ·rfl
  rw [Yw,sel_false,Bool.true_and]
  by_cases hl:cs.length=ds.length
  case neg =>
   rw [sel_pos (by simp;omega),Kerb.sameCreds_len hl]
  rw [sel_neg (by simp;omega)]
  refine loop_rounds (fun i:Nat=>[Zz o1,Zz o2,Zz o3,Zh 8 (cs.map Zj),Zz o1b,Zz o2b,Zz o3b,Zh 8 (ds.map Zj),Zu false,Zy Zv (i:Int)]) (fun i=>i≤cs.length∧Uy cs ds=Uy (cs.drop i) (ds.drop i)) (fun i=>cs.length-i)
   (fun r=>∃ (i:Nat) (f:Bool),r.2=[Zz o1,Zz o2,Zz o3,Zh 8 (cs.map Zj),Zz o1b,Zz o2b,Zz o3b,Zh 8 (ds.map Zj),Zu f,Zy Zv (i:Int)]∧((r.1 = .ret∧Uy cs ds=f)∨(r.1 = .exit 0∧Uy cs ds=true))) 0 ⟨Wq _,by simp⟩ rfl ?_ ?_
  ·rintro i ⟨hi,hp⟩
   simp only [A0,Zk,Zd,Zj]
   by_cases hlt:i<cs.length
   ·rw [sel_pos (by simp;omega),chk_of (by simp;omega),Yq,Vv hlt,Vv (show i<ds.length by omega)]
    rw [Kerb.drop_cred hlt,Kerb.drop_cred (show i<ds.length by omega)] at hp
    generalize cs.getD i Wf=c at hp ⊢
    generalize ds.getD i Wf=d at hp ⊢
    simp only [Zj,A0,Zk,Zd,Zj]
    rw [chk_of (by simp;omega)]
    show ∃ q,sel (!(Kerb.Cred.same c d)) _ _=some q∧_
    have hp:Uy cs ds=(Kerb.Cred.same c d&&Uy (cs.drop (i+1)) (ds.drop (i+1))):=hp
    cases he:Kerb.Cred.same c d
    ·rw [he,Bool.false_and] at hp
     exact ⟨_,rfl,i,false,rfl,.inl ⟨rfl,hp⟩⟩
    ·rw [he,Bool.true_and] at hp
     rw [Yw,sel_false,wrap_i64 (by omega) (by omega)]
     exact ⟨_,rfl,i+1,rfl,⟨by omega,hp⟩,by dsimp only;omega⟩
   ·rw [sel_neg (by simp;omega)]
    refine ⟨_,rfl,i,false,rfl,.inr ⟨rfl,?_⟩⟩
    rw [hp,Xz (by omega),Xz (by omega)]
    rfl
  ·rintro ⟨e,l⟩ ⟨i,f,rfl,⟨rfl,h⟩ | ⟨rfl,h⟩⟩
   ·simp only [A0,Zk,Zd,Zj,h]
   ·simp only [A0,Zk,Zd,Zj,h]
    rw [sel_pos (Yd _)]
 ·cases h
theorem w26:Walked Try.prog G 26 2 sp26:=by
 refine ⟨Try.f26,Try.func26,by decide +kernel,rfl,fun xs bl r h=> ?_⟩
 unfold sp26 at h
 split at h
 ·rename_i n
  obtain ⟨hpre,h2⟩:=chk_inv h;cases h2
  refine Eq.trans (b:=(chk (decide (0≤Xx n 3)&&decide (Xx n 3<(↑(Zx [Zz [(65:UInt8),(84:UInt8),(72:UInt8)],Zz [(66:UInt8),(79:UInt8),(83:UInt8)],Zz [(67:UInt8),(65:UInt8),(77:UInt8)]]):Int))&&true) (Vu (Xq [Zz [(65:UInt8),(84:UInt8),(72:UInt8)],Zz [(66:UInt8),(79:UInt8),(83:UInt8)],Zz [(67:UInt8),(65:UInt8),(77:UInt8)]] (Zp (Xx n 3)) Wm) fun b=>some (Zz b,[])):Option (AV×Blocks))) (by kernel_rfl) ?_
  have hn:0≤n:=by first | exact of_decide_eq_true hpre | (simp only [Zg,decide_eq_true_eq] at hpre;exact hpre.1)
  have ht:Xx n 3=n % 3:=Vy hn
  have hcase:n % 3=0∨n % 3=1∨n % 3=2:=by omega
  rcases hcase with e | e | e<;>simp [ht,e,chk,Vu,Kerb.realm]
 ·cases h
theorem w48:Walked Try.prog G 48 2 sp48:=by
 refine ⟨Try.f48,Try.func48,by decide +kernel,rfl,fun xs bl r h=> ?_⟩
 unfold sp48 at h
 split at h
 ·rename_i k
  obtain ⟨hpre,h2⟩:=chk_inv h;cases h2
  refine Eq.trans (b:=(sel (!k==0) (some (Zu ((bif Uf (Zw .i64 (Int.fdiv k (2 ^ min (Zp 56) (Yy .u64))))&&Uv (Zw .i64 (Zw .u64 (↑(BitVec.toNat (BitVec.ofInt (Yy .u64) k &&& BitVec.ofInt (Yy .u64) 72057594037927935)):Int))) then Zw .i64 (Int.fdiv k (2 ^ min (Zp 56) (Yy .u64)))*72057594037927936+Zw .i64 (Zw .u64 (↑(BitVec.toNat (BitVec.ofInt (Yy .u64) k &&& BitVec.ofInt (Yy .u64) 72057594037927935)):Int)) else 0)==k),[])) (some (Zu false,[])):Option (AV×Blocks))) (by kernel_rfl) ?_
  simp only [Zg,decide_eq_true_eq] at hpre
  obtain ⟨h0,h1⟩:=hpre
  rw [Kerb.key_hi h0 h1,Kerb.key_lo h0 h1,Kerb.key_sum]
  by_cases hk:k=0
  ·subst hk;rfl
  rw [sel_pos (by simpa using hk)]
  unfold Xn
  cases Uf (Kerb.keyClass k)&&Uv (Kerb.keySerial k)
  ·have q:((0:Int)==k)=false:=by simp;omega
   simp only [cond_false,q]
  ·simp only [cond_true,BEq.rfl]
 ·cases h
theorem w52:Walked Try.prog G 52 2 sp52:=by
 refine ⟨Try.f52,Try.func52,by decide +kernel,rfl,fun xs bl r h=> ?_⟩
 unfold sp52 at h
 split at h
 ·rename_i k little
  cases h
  refine Eq.trans (b:=(sel (!Vd k) (some (Zf [],[])) (sel little (some (Zf [(4:UInt8),Ww (Zp (Zw .u8 (Zw .i64 (Zw .i64 (2*k)+1))))],[])) (some (Zf [(4:UInt8),Ww (Zp (Zw .u8 (Zw .i64 (2*k))))],[]))):Option (AV×Blocks))) (by kernel_rfl) ?_
  by_cases h:1≤k∧k≤10
  ·have hk:k=1∨k=2∨k=3∨k=4∨k=5∨k=6∨k=7∨k=8∨k=9∨k=10:=by omega
   rcases hk with rfl | rfl | rfl | rfl | rfl | rfl | rfl | rfl | rfl | rfl<;>cases little<;>rfl
  ·have hk:Vd k=false:=by simp [Vd];omega
   by_cases h1:k<1
   ·simp [sel,Um,hk,h1]
   ·have h2:10<k:=by omega
    simp [sel,Um,hk,h1,h2]
 ·cases h
theorem w63:Walked Try.prog G 63 2 sp63:=by
 refine ⟨Try.f63,Try.func63,by decide +kernel,rfl,fun xs bl r h=> ?_⟩
 unfold sp63 at h
 split at h
 ·rename_i s
  obtain ⟨hpre,h2⟩:=chk_inv h;cases h2
  refine Eq.trans (b:=(sel (decide ((↑(Zx s):Int)>0)) (Zq (chk (decide (Zx s≤9223372036854775807)&&true) (some (Zu (Yj s [(46:UInt8),(64:UInt8)]&&decide (Zx s≤39)),[]))) fun (r:AV×Blocks)=>onNilB (Zb r) (Wz (Yu r) fun b=>some (Zu b,[]))) (some (Zu false,[])):Option (AV×Blocks))) (by kernel_rfl) ?_
  simp only [A0]
  rw [chk_of (by rw [hpre];rfl)]
  simp only [Vm]
  cases s with
  | nil=>rfl
  | cons x r =>
   rw [sel_pos (by first | (simp;done) | (simp;omega)),Bool.and_comm]
   rfl
 ·cases h
theorem w64:Walked Try.prog G 64 2 sp64:=by
 refine ⟨Try.f64,Try.func64,by decide +kernel,rfl,fun xs bl r h=> ?_⟩
 unfold sp64 at h
 split at h
 ·rename_i s
  obtain ⟨hpre,h2⟩:=chk_inv h;cases h2
  refine Eq.trans (b:=(Zq (chk (decide (Zx s≤9223372036854775807)&&true) (some (Zu (Yj s [(64:UInt8)]&&decide (Zx s≤39)),[]))) fun (r:AV×Blocks)=>onNilB (Zb r) (Wz (Yu r) fun b=>some (Zu b,[])):Option (AV×Blocks))) (by kernel_rfl) ?_
  simp only [A0]
  rw [chk_of (by rw [hpre];rfl),Bool.and_comm]
  rfl
 ·cases h
theorem w65:Walked Try.prog G 65 2 sp65:=by
 refine ⟨Try.f65,Try.func65,by decide +kernel,rfl,fun xs bl r h=> ?_⟩
 unfold sp65 at h
 split at h
 ·rename_i s
  obtain ⟨hpre,h2⟩:=chk_inv h;cases h2
  refine Eq.trans (b:=(sel (decide ((↑(Zx s):Int)>0)) (Zq (chk (decide (Zx s≤9223372036854775807)&&true) (some (Zu (Yj s [(64:UInt8)]&&decide (Zx s≤39)),[]))) fun (r:AV×Blocks)=>onNilB (Zb r) (Wz (Yu r) fun b=>some (Zu b,[]))) (some (Zu false,[])):Option (AV×Blocks))) (by kernel_rfl) ?_
  simp only [A0]
  rw [chk_of (by rw [hpre];rfl)]
  simp only [Vp]
  cases s with
  | nil=>rfl
  | cons x r =>
   rw [sel_pos (by first | (simp;done) | (simp;omega)),Bool.and_comm]
   rfl
 ·cases h
theorem w68:Walked Try.prog G 68 2 sp68:=by
 refine ⟨Try.f68,Try.func68,by decide +kernel,rfl,fun xs bl r h=> ?_⟩
 unfold sp68 at h
 split at h
 ·rename_i k
  obtain ⟨hpre,h2⟩:=chk_inv h;cases h2
  refine Eq.trans (b:=(sel (!Uf (Zw .i64 (Int.fdiv k (2 ^ min (Zp 56) (Yy .u64))))) (some (Xj [Zy .i64 0,Zy .i64 0,Zu false],[])) (sel (!Uv (Zw .i64 (Zw .u64 (↑(BitVec.toNat (BitVec.ofInt (Yy .u64) k &&& BitVec.ofInt (Yy .u64) 72057594037927935)):Int)))) (some (Xj [Zy .i64 0,Zy .i64 0,Zu false],[])) (some (Xj [Zy .i64 (Zw .i64 (Int.fdiv k (2 ^ min (Zp 56) (Yy .u64)))),Zy .i64 (Zw .i64 (Zw .u64 (↑(BitVec.toNat (BitVec.ofInt (Yy .u64) k &&& BitVec.ofInt (Yy .u64) 72057594037927935)):Int))),Zu true],[]))):Option (AV×Blocks))) (by kernel_rfl) ?_
  simp only [Zg,decide_eq_true_eq] at hpre
  obtain ⟨h0,h1⟩:=hpre
  rw [Kerb.key_hi h0 h1,Kerb.key_lo h0 h1]
  unfold Xn
  cases Uf (Kerb.keyClass k)
  ·rfl
  cases Uv (Kerb.keySerial k)<;>rfl
 ·cases h
theorem w72:Walked Try.prog G 72 2 sp72:=by
 refine ⟨Try.f72,Try.func72,by decide +kernel,rfl,fun xs bl r h=> ?_⟩
 unfold sp72 at h
 split at h
 ·rename_i els
  obtain ⟨hpre,h2⟩:=chk_inv h;cases h2
  refine Eq.trans (b:=(Zq (loopM (fun (st:List AV)=>cSl 1 st fun b r=>cInt .i64 r fun n r=>cSl 1 r fun b_1 r=>cInt .i64 r fun n_1 r=>cInt .i64 r fun n_2 r=>onNil r (sel (decide (n_2<n_1)) (chk (decide (0≤n_2)&&decide (n_2<(↑(Zx b_1):Int))&&true) (AV.onBs (Xq b_1 (Zp n_2) Wm) fun b_2=>sel (decide (Zw .i64 (n+(↑(Zx b_2):Int))<0)) none (some (Wk [Zh 1 b,Zy .i64 (Zw .i64 (n+(↑(Zx b_2):Int))),Zh 1 b_1,Zy .i64 n_1,Zy .i64 (Zw .i64 (n_2+1))])))) (some (Xy (Xg 0,[Zh 1 b,Zy .i64 n,Zh 1 b_1,Zy .i64 n_1,Zy .i64 n_2]))))) [Zh 1 els,Zy .i64 0,Zh 1 els,Zy .i64 (↑(Zx els):Int),Zy .i64 0]) fun (r:Ex×List AV)=>cSl 1 (Zb r) fun b r_1=>cInt .i64 r_1 fun n r_2=>cSl 1 r_2 fun b_1 r_3=>cInt .i64 r_3 fun n_1 r_4=>cInt .i64 r_4 fun n_2 r_5=>onNil r_5 (exK r.1 none fun (j:Nat)=>sel (Wp j 0) (Zq (chk (decide (0≤n)&&decide (n≤140737488355328)) (some (Xv [],[]))) (kO fun l=>Zq (loopM (fun (st:List AV)=>onCons st fun x r=>Vb x fun b=>cSl 1 r fun b_2 r=>cInt .i64 r fun n r=>cInt .i64 r fun n_3 r=>onNil r (sel (decide (n_3<n)) (chk (decide (0≤n_3)&&decide (n_3<(↑(Zx b_2):Int))&&true) (AV.onBs (Xq b_2 (Zp n_3) Wm) fun b_3=>chk (room (Zx b+Zx b_3) 1) (some (Wk [Xv (b++b_3),Zh 1 b_2,Zy .i64 n,Zy .i64 (Zw .i64 (n_3+1))])))) (some (Xy (Xg 2,[Xv b,Zh 1 b_2,Zy .i64 n,Zy .i64 n_3]))))) [Xv l,Zh 1 b,Zy .i64 (↑(Zx b):Int),Zy .i64 0]) fun (r:Ex×List AV)=>onCons (Zb r) fun x r_6=>Vb x fun b=>cSl 1 r_6 fun b_2 r_7=>cInt .i64 r_7 fun n r_8=>cInt .i64 r_8 fun n r_9=>onNil r_9 (exK r.1 none fun (j:Nat)=>sel (Wp j 2) (some (Xv b,[])) none))) none):Option (AV×Blocks))) (by kernel_rfl) ?_
  delta kO
  try dsimp only [cStr,cBs,cBool,cU8,cInt,cSl,l63]
  simp only [Zg,decide_eq_true_eq] at hpre
  obtain ⟨⟨ha,hl⟩,hbig⟩:=hpre
  refine loop_rounds (fun i:Nat=>[Zh 1 els,Zy Zv ((catB (els.take i)).length:Int),Zh 1 els,Zy Zv (els.length:Int),Zy Zv (i:Int)]) (fun i=>i≤els.length) (fun i=>els.length-i)
   (fun r=>r=(Xg 0,[Zh 1 els,Zy Zv ((catB els).length:Int),Zh 1 els,Zy Zv (els.length:Int),Zy Zv (els.length:Int)])) 0 (Wq _) rfl ?_ ?_
  ·intro i hi
   simp only [A0]
   by_cases hlt:i<els.length
   ·obtain ⟨l,h1,h2,h3⟩:=Kerb.cat_step ha hlt
    rw [sel_pos (by simp;omega),chk_of (by simp;omega),Yq,h1,onBs_bs,wrap_i64 (n:=((catB (els.take i)).length:Int)+(l.length:Int)) (by omega) (by omega),sel_neg (by simp;omega),wrap_i64 (by omega) (by omega)]
    refine ⟨_,rfl,i+1,?_,by omega,by dsimp only;omega⟩
    dsimp only
    rw [h2,List.length_append,Int.natCast_add]
    rfl
   ·rw [sel_neg (by simp;omega)]
    refine ⟨_,rfl,?_⟩
    show _=_
    rw [Vn (by omega),show i=els.length from by omega]
  rintro r rfl
  simp only [A0]
  rw [sel_pos (Yd _),chk_of (by simp;omega)]
  refine loop_rounds (fun i:Nat=>[Xv (catB (els.take i)),Zh 1 els,Zy Zv (els.length:Int),Zy Zv (i:Int)]) (fun i=>i≤els.length) (fun i=>els.length-i)
   (fun r=>r=(Xg 2,[Xv (catB els),Zh 1 els,Zy Zv (els.length:Int),Zy Zv (els.length:Int)])) 0 (Wq _) rfl ?_ ?_
  ·intro i hi
   simp only [A0]
   by_cases hlt:i<els.length
   ·obtain ⟨l,h1,h2,h3⟩:=Kerb.cat_step ha hlt
    rw [sel_pos (by simp;omega),chk_of (by simp;omega),Yq,h1,onBs_bs,chk_of (Ud (by omega)),wrap_i64 (by omega) (by omega)]
    refine ⟨_,rfl,i+1,?_,by omega,by dsimp only;omega⟩
    dsimp only
    rw [h2]
    rfl
   ·rw [sel_neg (by simp;omega)]
    refine ⟨_,rfl,?_⟩
    show _=_
    rw [Vn (by omega),show i=els.length from by omega]
  rintro r rfl
  simp only [A0]
  rw [sel_pos (Yd _)]
 ·cases h
theorem w73:Walked Try.prog G 73 2 sp73:=by
 refine ⟨Try.f73,Try.func73,by decide +kernel,rfl,fun xs bl r h=> ?_⟩
 unfold sp73 at h
 split at h
 ·rename_i x y z k lf kv iss tk
  obtain ⟨hpre,h2⟩:=chk_inv h;cases h2
  refine Eq.trans (b:=(Zq (chk (decide (Zx tk≤140737488355328)) (some (Zf tk,[]))) fun (r:AV×Blocks)=>onNilB (Zb r) (AV.onBs (Yu r) fun b=>some (Yp [Zz x,Zz y,Zz z,Zy .u64 k,Zy .i64 lf,Zy .i64 kv,Zy .i64 iss,Zf b],[])):Option (AV×Blocks))) (by kernel_rfl) ?_
  simp only [A0,Zk,Zd,Zj,hpre]
 ·cases h
theorem w74:Walked Try.prog G 74 2 sp74:=by
 refine ⟨Try.f74,Try.func74,by decide +kernel,rfl,fun xs bl r h=> ?_⟩
 unfold sp74 at h
 split at h
 ·rename_i i l
  cases h
  refine Eq.trans (b:=(sel (!Zn i 4294967295) (some (Zy .i64 0,[])) (sel (!Zn l 255) (some (Zy .i64 0,[])) (some (Zy .i64 (Zw .i64 (i+Zw .i64 (300*Zw .i64 (l+1)))),[]))):Option (AV×Blocks))) (by kernel_rfl) ?_
  unfold Kerb.tEnd
  cases h1:Zn i 4294967295
  ·rfl
  cases h2:Zn l 255
  ·rfl
  have a1:=Kerb.within_iff.1 h1
  have a2:=Kerb.within_iff.1 h2
  simp only [Yw,sel_false,Uh,if_true]
  rw [wrap_i64 (n:=l+1) (by omega) (by omega),wrap_i64 (n:=300*(l+1)) (by omega) (by omega),wrap_i64 (by omega) (by omega)]
 ·cases h
theorem w89:Walked Try.prog G 89 2 sp89:=by
 refine ⟨Try.f89,Try.func89,by decide +kernel,rfl,fun xs bl r h=> ?_⟩
 unfold sp89 at h
 split at h
 ·rename_i s c
  cases h
  refine Eq.trans (b:=(some (Zy .i64 (Kerb.indexOf c s),[]):Option (AV×Blocks))) (by kernel_rfl) ?_
  rfl
 ·cases h
theorem w9:Walked Try.prog G 9 3 sp9:=by
 refine ⟨Try.f9,Try.func9,by decide +kernel,rfl,fun xs bl r h=> ?_⟩
 unfold sp9 at h
 split at h
 ·rename_i m1 m2 m3 ad sk li o1 o2 o3 els wt w1 w2 w3 se tm lf cs tc m1b m2b m3b adb skb lib o1b o2b o3b elsb wtb w1b w2b w3b seb tmb lfb csb tcb
  obtain ⟨hpre,h2⟩:=chk_inv h;cases h2
  refine Eq.trans (b:=(sel (m1==m1b&&(m2==m2b&&m3==m3b)) (sel (ad==adb) (sel (sk==skb) (sel (li==lib) (Zq (chk (List.all els Vf&&decide (Zx els≤1000000)&&List.all elsb Vf&&decide (Zx elsb≤1000000)) (some (Zu (Kerb.Cache.same (Ug (Zm o1 o2 o3) (Vz Xf els)) (Ug (Zm o1b o2b o3b) (Vz Xf elsb))),[]))) fun (r:AV×Blocks)=>onNilB (Zb r) (Wz (Yu r) fun b=>sel b (sel (wt==wtb) (sel (w1==w1b&&(w2==w2b&&w3==w3b)) (sel (se==seb) (sel (tm==tmb) (sel (lf==lfb) (sel (cs==csb) (some (Zu (tc==tcb),[])) (some (Zu false,[]))) (some (Zu false,[]))) (some (Zu false,[]))) (some (Zu false,[]))) (some (Zu false,[]))) (some (Zu false,[]))) (some (Zu false,[])))) (some (Zu false,[]))) (some (Zu false,[]))) (some (Zu false,[]))) (some (Zu false,[])):Option (AV×Blocks))) (by kernel_rfl) ?_
  unfold Kerb.Client.same Xh
  simp only [A0,Zk,Zd,Zj,hpre]
  cases m1==m1b&&(m2==m2b&&m3==m3b)
  ·rfl
  cases ad==adb
  ·rfl
  cases sk==skb
  ·rfl
  cases li==lib
  ·rfl
  cases Kerb.Cache.same ⟨⟨o1,o2,o3⟩,els.map Xf⟩ ⟨⟨o1b,o2b,o3b⟩,elsb.map Xf⟩
  ·rfl
  cases wt==wtb
  ·rfl
  cases w1==w1b&&(w2==w2b&&w3==w3b)
  ·rfl
  cases se==seb
  ·rfl
  cases tm==tmb
  ·rfl
  cases lf==lfb
  ·rfl
  cases cs==csb
  ·rfl
  rfl
 ·cases h
theorem w10:Walked Try.prog G 10 3 sp10:=by
 refine ⟨Try.f10,Try.func10,by decide +kernel,rfl,fun xs bl r h=> ?_⟩
 unfold sp10 at h
 split at h
 ·rename_i n
  obtain ⟨hpre,h2⟩:=chk_inv h;cases h2
  refine Eq.trans (b:=(chk (decide (0≤Xx n 3)&&decide (Xx n 3<(↑(Zx [Zz [(97:UInt8),(110:UInt8),(110:UInt8)],Zz [(98:UInt8),(111:UInt8),(98:UInt8)],Zz [(99:UInt8),(97:UInt8),(116:UInt8)]]):Int))&&true) (Vu (Xq [Zz [(97:UInt8),(110:UInt8),(110:UInt8)],Zz [(98:UInt8),(111:UInt8),(98:UInt8)],Zz [(99:UInt8),(97:UInt8),(116:UInt8)]] (Zp (Xx n 3)) Wm) fun b=>Zq (chk (decide (0≤Zw .i64 (Int.tdiv n 3))) (some (Zz (Kerb.realm (Zw .i64 (Int.tdiv n 3))),[]))) fun (r:AV×Blocks)=>onNilB (Zb r) (Vu (Yu r) fun b_1=>some (Yp [Zz b,Zz [],Zz b_1],[]))):Option (AV×Blocks))) (by kernel_rfl) ?_
  have hn:0≤n:=by first | exact of_decide_eq_true hpre | (simp only [Zg,decide_eq_true_eq] at hpre;exact hpre.1)
  have ht:Xx n 3=n % 3:=Vy hn
  have hcase:n % 3=0∨n % 3=1∨n % 3=2:=by omega
  simp only [Zg,decide_eq_true_eq] at hpre
  have hd:Int.tdiv n 3=n / 3:=Int.tdiv_eq_ediv_of_nonneg hn
  rw [hd,wrap_i64 (by omega) (by omega)]
  have hq:decide ((0:Int)≤n / 3)=true:=by simp;omega
  rcases hcase with e | e | e<;>simp [ht,e,chk,Vu,Xw,hq,onNilB]<;>omega
 ·cases h
theorem w18:Walked Try.prog G 18 3 sp18:=by
 refine ⟨Try.f18,Try.func18,by decide +kernel,rfl,fun xs bl r h=> ?_⟩
 unfold sp18 at h
 split at h
 ·rename_i n
  obtain ⟨hpre,h2⟩:=chk_inv h;cases h2
  refine Eq.trans (b:=(chk (decide (0≤Xx n 3)&&decide (Xx n 3<(↑(Zx [Yp [Zz [(109:UInt8),(97:UInt8),(105:UInt8),(108:UInt8)],Zz [],Zz []],Yp [Zz [(110:UInt8),(102:UInt8),(115:UInt8)],Zz [(104:UInt8),(111:UInt8),(109:UInt8),(101:UInt8)],Zz []],Yp [Zz [(107:UInt8),(114:UInt8),(98:UInt8),(116:UInt8),(103:UInt8),(116:UInt8)],Zz [(65:UInt8),(84:UInt8),(72:UInt8)],Zz []]]):Int))&&true) (Wx (Xq [Yp [Zz [(109:UInt8),(97:UInt8),(105:UInt8),(108:UInt8)],Zz [],Zz []],Yp [Zz [(110:UInt8),(102:UInt8),(115:UInt8)],Zz [(104:UInt8),(111:UInt8),(109:UInt8),(101:UInt8)],Zz []],Yp [Zz [(107:UInt8),(114:UInt8),(98:UInt8),(116:UInt8),(103:UInt8),(116:UInt8)],Zz [(65:UInt8),(84:UInt8),(72:UInt8)],Zz []]] (Zp (Xx n 3)) Wm) fun cs=>onCons cs fun x r=>Vu x fun b=>onCons r fun x r=>Vu x fun b_1=>onCons r fun x r=>Vu x fun b_2=>onNil r (Zq (chk (decide (0≤Zw .i64 (Int.tdiv n 3))) (some (Zz (Kerb.realm (Zw .i64 (Int.tdiv n 3))),[]))) fun (r:AV×Blocks)=>onNilB (Zb r) (Vu (Yu r) fun b_3=>some (Yp [Zz b,Zz b_1,Zz b_3],[])))):Option (AV×Blocks))) (by kernel_rfl) ?_
  have hn:0≤n:=by first | exact of_decide_eq_true hpre | (simp only [Zg,decide_eq_true_eq] at hpre;exact hpre.1)
  have ht:Xx n 3=n % 3:=Vy hn
  have hcase:n % 3=0∨n % 3=1∨n % 3=2:=by omega
  simp only [Zg,decide_eq_true_eq] at hpre
  have hd:Int.tdiv n 3=n / 3:=Int.tdiv_eq_ediv_of_nonneg hn
  rw [hd,wrap_i64 (by omega) (by omega)]
  have hq:decide ((0:Int)≤n / 3)=true:=by simp;omega
  rcases hcase with e | e | e<;>simp [ht,e,chk,Vu,Wx,onCons,onNil,Kerb.service,hq,onNilB]<;>omega
 ·cases h
theorem w40:Walked Try.prog G 40 3 sp40:=by
 refine ⟨Try.f40,Try.func40,by decide +kernel,rfl,fun xs bl r h=> ?_⟩
 unfold sp40 at h
 split at h
 ·rename_i a b c
  obtain ⟨hpre,h2⟩:=chk_inv h;cases h2
  refine Eq.trans (b:=(Zq (chk (decide (Zx a≤9223372036854775807)) (some (Zu (Vm a),[]))) fun (r:AV×Blocks)=>onNilB (Zb r) (Wz (Yu r) fun b_1=>sel b_1 (Zq (chk (decide (Zx b≤9223372036854775807)) (some (Zu (Vh b),[]))) fun (r:AV×Blocks)=>onNilB (Zb r) (Wz (Yu r) fun b=>sel b (Zq (chk (decide (Zx c≤9223372036854775807)) (some (Zu (Vp c),[]))) fun (r:AV×Blocks)=>onNilB (Zb r) (Wz (Yu r) fun b=>some (Zu b,[]))) (some (Zu false,[])))) (some (Zu false,[]))):Option (AV×Blocks))) (by kernel_rfl) ?_
  simp only [Zg,decide_eq_true_eq] at hpre
  simp only [A0]
  rw [chk_of (by simp;omega),chk_of (by simp;omega),chk_of (by simp;omega)]
  simp only [Yx]
  cases Vm a<;>cases Vh b<;>rfl
 ·cases h
theorem w45:Walked Try.prog G 45 3 sp45:=by
 refine ⟨Try.f45,Try.func45,by decide +kernel,rfl,fun xs bl r h=> ?_⟩
 unfold sp45 at h
 split at h
 ·rename_i k
  obtain ⟨hpre,h2⟩:=chk_inv h;cases h2
  refine Eq.trans (b:=(Zq (chk (decide (0≤k)&&decide (k<18446744073709551616)) (some (Xj [Zy .i64 (bif Xn k then Kerb.keyClass k else 0),Zy .i64 (bif Xn k then Kerb.keySerial k else 0),Zu (Xn k)],[]))) fun (r:AV×Blocks)=>onNilB (Zb r) (AV.onTup (Yu r) fun vs=>onCons vs fun x r=>Up .i64 x fun n=>onCons r fun x r=>Up .i64 x fun n=>onCons r fun x r=>Wz x fun b=>onNil r (some (Zu b,[]))):Option (AV×Blocks))) (by kernel_rfl) ?_
  simp only [A0]
  rw [chk_of hpre]
 ·cases h
theorem w56:Walked Try.prog G 56 3 sp56:=by
 refine ⟨Try.f56,Try.func56,by decide +kernel,rfl,fun xs bl r h=> ?_⟩
 unfold sp56 at h
 split at h
 ·rename_i b s
  obtain ⟨hpre,h2⟩:=chk_inv h;cases h2
  refine Eq.trans (b:=(Zq (chk (decide (Zx (Yv b (Yv s ((0:UInt8)::Yv [] [])))≤140737488355328)&&decide (Zx [Zf b,Zf s,Zf [(0:UInt8)]]≤1000)) (some (Xv (Yv b (Yv s ((0:UInt8)::Yv [] []))),[]))) fun (r:AV×Blocks)=>onNilB (Zb r) (Vb (Yu r) fun l=>some (Zf l,[])):Option (AV×Blocks))) (by kernel_rfl) ?_
  simp only [decide_eq_true_eq] at hpre
  simp only [A0]
  rw [chk_of (by simp;omega)]
  simp [Vw]
 ·cases h
theorem w57:Walked Try.prog G 57 3 sp57:=by
 refine ⟨Try.f57,Try.func57,by decide +kernel,rfl,fun xs bl r h=> ?_⟩
 unfold sp57 at h
 split at h
 ·rename_i o1 o2 o3 els x y z
  obtain ⟨hpre,h2⟩:=chk_inv h;cases h2
  refine Eq.trans (b:=(Zq (chk (List.all els Vf&&decide (Zx els≤1000000)) (some (Zy .i64 (↑(Yn (Vz Xf els) (Zm x y z)):Int),[]))) (kI .i64 fun n=>sel (n==(↑(Zx els):Int)) (some (Xj [Yp [Zz [],Zz [],Zz [],Zy .u64 0,Zy .i64 0,Zy .i64 0,Zy .i64 0,Zf []],Zu false],[])) (chk (decide (0≤n)&&decide (n<(↑(Zx els):Int))&&true) (Wx (Xq els (Zp n) Wm) fun cs=>cStr cs fun b r=>cStr r fun b_1 r=>cStr r fun b_2 r=>cInt .u64 r fun n r=>cInt .i64 r fun n_1 r=>cInt .i64 r fun n_2 r=>cInt .i64 r fun n_3 r=>cBs r fun b_3 r=>onNil r (Zq (chk (decide (Zx b_3≤140737488355328)) (some (Yp [Zz b,Zz b_1,Zz b_2,Zy .u64 n,Zy .i64 n_1,Zy .i64 n_2,Zy .i64 n_3,Zf b_3],[]))) (kA fun cs=>cStr cs fun b r=>cStr r fun b_4 r=>cStr r fun b_5 r=>cInt .u64 r fun n r=>cInt .i64 r fun n_4 r=>cInt .i64 r fun n_5 r=>cInt .i64 r fun n_6 r=>cBs r fun b_6 r=>onNil r (some (Xj [Yp [Zz b,Zz b_4,Zz b_5,Zy .u64 n,Zy .i64 n_4,Zy .i64 n_5,Zy .i64 n_6,Zf b_6],Zu true],[]))))))):Option (AV×Blocks))) (by kernel_rfl) ?_
  delta kA kI
  try dsimp only [cStr,cBs,cBool,cU8,cInt,cSl,l63]
  simp only [Zg,decide_eq_true_eq] at hpre
  obtain ⟨⟨hall,hlen⟩,hfit⟩:=hpre
  obtain ⟨cs,rfl,hok⟩:=Vj hall
  have hf:=Kerb.fit_of hfit
  simp only [A0,Zk,Zd,Zj,Wu,Uk] at hlen ⊢
  rw [chk_of (by rw [hall];simp;omega)]
  have hle:=Kerb.credAt_le cs ⟨x,y,z⟩
  unfold Xm
  by_cases h:Yn cs ⟨x,y,z⟩<cs.length
  ·rw [sel_neg (by simp;omega),chk_of (by simp;omega),Yq,Vv h,if_pos h]
   obtain ⟨c,hcc⟩:∃ c,cs.getD (Yn cs ⟨x,y,z⟩) Wf=c:=⟨_,rfl⟩
   have hm:c∈cs:=by rw [← hcc];simp [List.getD_eq_getElem?_getD,h]
   have ht:=hf c hm
   rw [hcc]
   simp only [Zj,A0,Zk,Zd,Zj]
   rw [chk_of (by simpa using ht)]
  ·rw [sel_pos (by simp;omega),if_neg h]
   rfl
 ·cases h
theorem w58:Walked Try.prog G 58 3 sp58:=by
 refine ⟨Try.f58,Try.func58,by decide +kernel,rfl,fun xs bl r h=> ?_⟩
 unfold sp58 at h
 split at h
 ·rename_i x y z k lf kv iss tk now
  cases h
  refine Eq.trans (b:=(some (Zu (decide (now>Kerb.tEnd iss lf)),[]):Option (AV×Blocks))) (by kernel_rfl) ?_
  rfl
 ·cases h
theorem w71:Walked Try.prog G 71 3 sp71:=by
 refine ⟨Try.f71,Try.func71,by decide +kernel,rfl,fun xs bl r h=> ?_⟩
 unfold sp71 at h
 split at h
 ·rename_i b n k little
  obtain ⟨hpre,h2⟩:=chk_inv h;cases h2
  refine Eq.trans (b:=(Zq (loopM (fun (st:List AV)=>cBs st fun b r=>cInt .i64 r fun n r=>cInt .i64 r fun n_1 r=>cBool r fun b_1 r=>cBs r fun c r=>cInt .i64 r fun n_2 r=>cInt .i64 r fun n_3 r=>let t0:Int:=Zw .i64 (Zw .i64 (n_1-1)-n_3);let t1:UInt8:=Ww (Zp (Zw .u8 (Int.fdiv n (2 ^ min (Zp (Zw .i64 (8*n_3))) (Yy .i64)))));onNil r (sel (decide (n_3<n_2)) (sel (!b_1) (chk (decide (0≤Zw .i64 (8*n_3))) (chk (decide (0≤t0)&&decide (t0<(↑(Zx c):Int))&&Wp (Zx c) 4&&true) (chk (Nat.blt (Zp t0) (Zx c)&&true&&true&&true&&true) (some (Wk [Zf b,Zy .i64 n,Zy .i64 n_1,Zu b_1,Zf (List.set c (Zp t0) t1),Zy .i64 n_2,Zy .i64 (Zw .i64 (n_3+1))]))))) (chk (decide (0≤Zw .i64 (8*n_3))) (chk (decide (0≤n_3)&&decide (n_3<(↑(Zx c):Int))&&Wp (Zx c) 4&&true) (chk (Nat.blt (Zp n_3) (Zx c)&&true&&true&&true&&true) (some (Wk [Zf b,Zy .i64 n,Zy .i64 n_1,Zu b_1,Zf (List.set c (Zp n_3) t1),Zy .i64 n_2,Zy .i64 (Zw .i64 (n_3+1))])))))) (some (Xy (Xg 0,[Zf b,Zy .i64 n,Zy .i64 n_1,Zu b_1,Zf c,Zy .i64 n_2,Zy .i64 n_3]))))) [Zf b,Zy .i64 n,Zy .i64 k,Zu little,Zf [(0:UInt8),(0:UInt8),(0:UInt8),(0:UInt8)],Zy .i64 k,Zy .i64 0]) fun (r:Ex×List AV)=>cBs (Zb r) fun b r_1=>cInt .i64 r_1 fun n r_2=>cInt .i64 r_2 fun n r_3=>cBool r_3 fun b_1 r_4=>cBs r_4 fun c r_5=>let t2:Nat:=Zx [Zf b,Zf (List.drop (Zp (↑(0:Nat):Int)) (List.take (Zp n) c))];let t3:Nat:=Zx (Yv b (Yv (List.drop (Zp (↑(0:Nat):Int)) (List.take (Zp n) c)) []));cInt .i64 r_5 fun n_1 r_6=>cInt .i64 r_6 fun n_2 r_7=>onNil r_7 (exK r.1 none fun (j:Nat)=>sel (Wp j 0) (chk (decide ((↑(0:Nat):Int)≤n)&&decide (n≤(↑(Zx c):Int))&&Wp (Zx c) 4) (Zq (chk (decide (t3≤140737488355328)&&decide (t2≤1000)) (some (Xv (Yv b (Yv (List.drop (Zp (↑(0:Nat):Int)) (List.take (Zp n) c)) [])),[]))) (kO fun l=>some (Xv l,[])))) none):Option (AV×Blocks))) (by kernel_rfl) ?_
  delta kO
  try dsimp only [cStr,cBs,cBool,cU8,cInt,cSl,l63]
  simp only [Zg,decide_eq_true_eq] at hpre
  obtain ⟨hk,hb⟩:=hpre
  rcases hk with rfl | rfl | rfl<;>cases little
  ·refine loop_unroll 2 (Xg 0,[Zf b,Zy Zv n,Zy Zv 1,Zu false,Zf [Xk n 0,(0:UInt8),(0:UInt8),(0:UInt8)],Zy Zv 1,Zy Zv 1]) (by kernel_rfl) ?_
   simp only [A0]
   rw [sel_pos (Yd _),chk_of (by simp),chk_of (by simp;omega)]
   simp [Uj,Wv,Uq,Wg]
  ·refine loop_unroll 2 (Xg 0,[Zf b,Zy Zv n,Zy Zv 1,Zu true,Zf [Xk n 0,(0:UInt8),(0:UInt8),(0:UInt8)],Zy Zv 1,Zy Zv 1]) (by kernel_rfl) ?_
   simp only [A0]
   rw [sel_pos (Yd _),chk_of (by simp),chk_of (by simp;omega)]
   simp [Uj,Wv,Uq,Wg]
  ·refine loop_unroll 3 (Xg 0,[Zf b,Zy Zv n,Zy Zv 2,Zu false,Zf [Xk n 8,Xk n 0,(0:UInt8),(0:UInt8)],Zy Zv 2,Zy Zv 2]) (by kernel_rfl) ?_
   simp only [A0]
   rw [sel_pos (Yd _),chk_of (by simp),chk_of (by simp;omega)]
   simp [Uj,Wv,Uq,Wg]
  ·refine loop_unroll 3 (Xg 0,[Zf b,Zy Zv n,Zy Zv 2,Zu true,Zf [Xk n 0,Xk n 8,(0:UInt8),(0:UInt8)],Zy Zv 2,Zy Zv 2]) (by kernel_rfl) ?_
   simp only [A0]
   rw [sel_pos (Yd _),chk_of (by simp),chk_of (by simp;omega)]
   simp [Uj,Wv,Uq,Wg]
  ·refine loop_unroll 5 (Xg 0,[Zf b,Zy Zv n,Zy Zv 4,Zu false,Zf [Xk n 24,Xk n 16,Xk n 8,Xk n 0],Zy Zv 4,Zy Zv 4]) (by kernel_rfl) ?_
   simp only [A0]
   rw [sel_pos (Yd _),chk_of (by simp),chk_of (by simp;omega)]
   simp [Uj,Wv,Uq,Wg]
  ·refine loop_unroll 5 (Xg 0,[Zf b,Zy Zv n,Zy Zv 4,Zu true,Zf [Xk n 0,Xk n 8,Xk n 16,Xk n 24],Zy Zv 4,Zy Zv 4]) (by kernel_rfl) ?_
   simp only [A0]
   rw [sel_pos (Yd _),chk_of (by simp),chk_of (by simp;omega)]
   simp [Uj,Wv,Uq,Wg]
 ·cases h
theorem w77:Walked Try.prog G 77 3 sp77:=by
 refine ⟨Try.f77,Try.func77,by decide +kernel,rfl,fun xs bl r h=> ?_⟩
 unfold sp77 at h
 split at h
 ·rename_i s c
  cases h
  refine Eq.trans (b:=(some (Zy .i64 (Kerb.indexOf c s),[]):Option (AV×Blocks))) (by kernel_rfl) ?_
  rfl
 ·cases h
theorem w86:Walked Try.prog G 86 3 sp86:=by
 refine ⟨Try.f86,Try.func86,by decide +kernel,rfl,fun xs bl r h=> ?_⟩
 unfold sp86 at h
 split at h
 ·rename_i b
  obtain ⟨hpre,h2⟩:=chk_inv h;cases h2
  refine Eq.trans (b:=(chk (decide (0≤Xx (Zw .i64 (8-Xx (↑(Zx b):Int) 8)) 8)&&decide (Xx (Zw .i64 (8-Xx (↑(Zx b):Int) 8)) 8≤Xx (Zw .i64 (8-Xx (↑(Zx b):Int) 8)) 8)&&decide (Xx (Zw .i64 (8-Xx (↑(Zx b):Int) 8)) 8≤140737488355328)) (Zq (chk (decide (Zx (Yv b (Yv (Wh (Zp (Xx (Zw .i64 (8-Xx (↑(Zx b):Int) 8)) 8)) (0:UInt8)) []))≤140737488355328)&&decide (Zx [Zf b,Zf (Wh (Zp (Xx (Zw .i64 (8-Xx (↑(Zx b):Int) 8)) 8)) (0:UInt8))]≤1000)) (some (Xv (Yv b (Yv (Wh (Zp (Xx (Zw .i64 (8-Xx (↑(Zx b):Int) 8)) 8)) (0:UInt8)) [])),[]))) fun (r:AV×Blocks)=>onNilB (Zb r) (Vb (Yu r) fun l=>some (Zf l,[]))):Option (AV×Blocks))) (by kernel_rfl) ?_
  have hb:=of_decide_eq_true hpre
  rw [Kerb.pad_eq hb]
  simp only [A0]
  rw [chk_of (by simp;omega),chk_of (by simp;omega)]
  simp [Kerb.pad]
  omega
 ·cases h
theorem w23:Walked Try.prog G 23 4 sp23:=by
 refine ⟨Try.f23,Try.func23,by decide +kernel,rfl,fun xs bl r h=> ?_⟩
 unfold sp23 at h
 split at h
 ·rename_i x y z
  obtain ⟨hpre,h2⟩:=chk_inv h;cases h2
  refine Eq.trans (b:=(Zq (chk (decide (Zx x≤9223372036854775807)&&decide (Zx y≤9223372036854775807)&&decide (Zx z≤9223372036854775807)) (some (Zu (Yx (Zm x y z)),[]))) fun (r:AV×Blocks)=>onNilB (Zb r) (Wz (Yu r) fun b=>sel (!b) (some (Xj [Yp [Zz [],Zz [],Zz [],Zh 8 []],Zy .i64 103],[])) (some (Xj [Yp [Zz x,Zz y,Zz z,Zh 8 []],Zy .i64 0],[]))):Option (AV×Blocks))) (by kernel_rfl) ?_
  simp only [A0,Zk,Zd,Zj,hpre]
  cases Yx ⟨x,y,z⟩<;>rfl
 ·cases h
theorem w29:Walked Try.prog G 29 4 sp29:=by
 refine ⟨Try.f29,Try.func29,by decide +kernel,rfl,fun xs bl r h=> ?_⟩
 unfold sp29 at h
 split at h
 ·rename_i o1 o2 o3 els
  obtain ⟨hpre,h2⟩:=chk_inv h;cases h2
  refine Eq.trans (b:=(Zq (chk (l63 o1&&l63 o2&&l63 o3) (some (Zu (Yx (Zm o1 o2 o3)),[]))) (kL fun b=>sel (!b) (some (Zy .i64 103,[])) (sel (decide ((↑(Zx els):Int)>20)) (some (Zy .i64 106,[])) (Zq (loopM (fun (st:List AV)=>cStr st fun b r=>cStr r fun b_1 r=>cStr r fun b_2 r=>cSl 8 r fun b_3 r=>cInt .i64 r fun n r=>cInt .i64 r fun n_1 r=>let t1:Option (List AV ⊕ Ex×List AV):=some (Xy (Vk,[Zz b,Zz b_1,Zz b_2,Zh 8 b_3,Zy .i64 104,Zy .i64 n_1]));let t2:List AV:=List.drop (Zp (↑(0:Nat):Int)) (List.take (Zp n_1) b_3);let t0:List Kerb.Cred:=Vz Xf t2;onNil r (sel (decide (n_1<(↑(Zx b_3):Int))) (chk (decide (0≤n_1)&&decide (n_1<(↑(Zx b_3):Int))&&true) (Wx (Xq b_3 (Zp n_1) Wm) fun cs=>cStr cs fun b_4 r=>cStr r fun b_5 r=>cStr r fun b_6 r=>let t3:Kerb.Cred:=Yu (Xm t0 (Zm b_4 b_5 b_6));cInt .u64 r fun n_2 r=>cInt .i64 r fun n_3 r=>cInt .i64 r fun n_4 r=>cInt .i64 r fun n_5 r=>cBs r fun b_7 r=>onNil r (Zq (chk (l63 b_4&&l63 b_5&&l63 b_6) (some (Zu (Yx (Zm b_4 b_5 b_6)),[]))) (kL fun b_8=>sel (!b_8) (some (Xy (Vk,[Zz b,Zz b_1,Zz b_2,Zh 8 b_3,Zy .i64 103,Zy .i64 n_1]))) (Zq (chk (decide (0≤n_2)&&decide (n_2<18446744073709551616)) (some (Zu (Xn n_2),[]))) (kL fun b_9=>sel (!b_9) (some (Xy (Vk,[Zz b,Zz b_1,Zz b_2,Zh 8 b_3,Zy .i64 10,Zy .i64 n_1]))) (sel (!Zn n_3 255) t1 (sel (!Zn n_4 255) t1 (sel (!Zn n_5 4294967295) t1 (sel (decide ((↑(Zx b_7):Int)>255)) (some (Xy (Vk,[Zz b,Zz b_1,Zz b_2,Zh 8 b_3,Zy .i64 105,Zy .i64 n_1]))) (chk (decide ((↑(0:Nat):Int)≤n_1)&&decide (n_1≤(↑(Zx b_3):Int))) (Zq (chk (List.all t2 Vf&&decide (Zx t2≤1000000)) (some (Xj [Yp [Zz (Yf (Xp t3)),Zz (Yg (Xp t3)),Zz (Yk (Xp t3)),Zy .u64 (Kerb.Cred.session t3),Zy .i64 (Kerb.Cred.life t3),Zy .i64 (Kerb.Cred.kvno t3),Zy .i64 (Kerb.Cred.issued t3),Zf (Kerb.Cred.ticket t3)],Zu (Zb (Xm t0 (Zm b_4 b_5 b_6)))],[]))) (kT fun vs=>onCons vs fun x r=>Wx x fun cs=>cStr cs fun b_10 r_1=>cStr r_1 fun b_11 r_2=>cStr r_2 fun b_12 r_3=>cInt .u64 r_3 fun n_6 r_4=>cInt .i64 r_4 fun n_7 r_5=>cInt .i64 r_5 fun n_8 r_6=>cInt .i64 r_6 fun n_9 r_7=>cBs r_7 fun b_13 r_8=>onNil r_8 (cBool r fun b_14 r=>onNil r (sel b_14 (some (Xy (Vk,[Zz b,Zz b_1,Zz b_2,Zh 8 b_3,Zy .i64 107,Zy .i64 n_1]))) (some (Wk [Zz b,Zz b_1,Zz b_2,Zh 8 b_3,Zy .i64 n,Zy .i64 (Zw .i64 (n_1+1))]))))))))))))))))) (some (Xy (Xg 0,[Zz b,Zz b_1,Zz b_2,Zh 8 b_3,Zy .i64 n,Zy .i64 n_1]))))) [Zz o1,Zz o2,Zz o3,Zh 8 els,Zy .i64 0,Zy .i64 0]) fun (r:Ex×List AV)=>cStr (Zb r) fun b r_1=>cStr r_1 fun b r_2=>cStr r_2 fun b r_3=>cSl 8 r_3 fun b r_4=>cInt .i64 r_4 fun n r_5=>cInt .i64 r_5 fun n_1 r_6=>onNil r_6 (exK r.1 (some (Zy .i64 n,[])) fun (j:Nat)=>sel (Wp j 0) (some (Zy .i64 0,[])) none)))):Option (AV×Blocks))) (by kernel_rfl) ?_
  delta kT kL
  try dsimp only [cStr,cBs,cBool,cU8,cInt,cSl,l63]
  have hpre':=hpre
  simp only [Zg,decide_eq_true_eq] at hpre
  obtain ⟨⟨⟨⟨q1,q2⟩,q3⟩,hall⟩,hlen⟩:=hpre
  simp only [A0,Zk,Zd,Zj]
  rw [chk_of (by simp;omega)]
  obtain ⟨cs,rfl,hok⟩:=Vj hall
  unfold Kerb.Cache.err
  simp only [Wu]
  cases h0:Yx ⟨o1,o2,o3⟩
  ·rfl
  rw [Yw,sel_false,if_neg (by simp)]
  by_cases h20:20<cs.length
  ·rw [sel_pos (by simp;omega),if_pos h20]
  rw [sel_neg (by simp;omega),if_neg h20]
  refine loop_rounds (fun i:Nat=>[Zz o1,Zz o2,Zz o3,Zh 8 (cs.map Zj),Zy Zv 0,Zy Zv (i:Int)]) (fun i=>i≤cs.length∧Wy [] cs=Wy (cs.take i) (cs.drop i)) (fun i=>cs.length-i)
   (fun r=>∃ (i:Nat) (n:Int),r.2=[Zz o1,Zz o2,Zz o3,Zh 8 (cs.map Zj),Zy Zv n,Zy Zv (i:Int)]∧((r.1 = .ret∧n=Wy [] cs)∨(r.1 = .exit 0∧Wy [] cs=0))) 0 ⟨Wq _,by simp⟩ (by simp) ?_ ?_
  ·rintro i ⟨hi,hp⟩
   simp only [A0,Zk,Zd,Zj]
   by_cases hlt:i<cs.length
   ·rw [sel_pos (by simp;omega),chk_of (by simp;omega),Yq,Vv hlt]
    obtain ⟨c,hcc⟩:∃ c,cs.getD i Wf=c:=⟨_,rfl⟩
    have hst:=Kerb.credsErr_step hlt hcc hp
    have hcok:c.ok:=hok c (by rw [← hcc];simp [List.getD_eq_getElem?_getD,hlt])
    rw [hcc]
    obtain ⟨⟨s1,s2,s3⟩,k,lf,kv,iss,tk⟩:=c
    obtain ⟨u1,u2,u3,u4,u5,u6⟩:=hcok
    simp only at u1 u2 u3 u4 u5 u6
    simp only [Zj,A0,Zk,Zd,Zj]
    have k1:∀ code:Int,code≠0→Yh ⟨⟨s1,s2,s3⟩,k,lf,kv,iss,tk⟩=code→code=Wy [] cs:=fun code h0 he=>by
     rw [hst,he,if_pos h0]
    rw [chk_of (by simp;omega)]
    cases h1:Yx ⟨s1,s2,s3⟩
    ·exact ⟨_,rfl,i,_,rfl,.inl ⟨rfl,k1 103 (by decide) (by simp [Yh,h1])⟩⟩
    rw [Yw,sel_false,chk_of (by simp;omega)]
    cases h2:Xn k
    ·exact ⟨_,rfl,i,_,rfl,.inl ⟨rfl,k1 10 (by decide) (by simp [Yh,h1,h2])⟩⟩
    rw [Yw,sel_false]
    cases h3:Zn lf 255
    ·exact ⟨_,rfl,i,_,rfl,.inl ⟨rfl,k1 104 (by decide) (by simp [Yh,h1,h2,h3])⟩⟩
    rw [Yw,sel_false]
    cases h4:Zn kv 255
    ·exact ⟨_,rfl,i,_,rfl,.inl ⟨rfl,k1 104 (by decide) (by simp [Yh,h1,h2,h3,h4])⟩⟩
    rw [Yw,sel_false]
    cases h5:Zn iss 4294967295
    ·exact ⟨_,rfl,i,_,rfl,.inl ⟨rfl,k1 104 (by decide) (by simp [Yh,h1,h2,h3,h4,h5])⟩⟩
    rw [Yw,sel_false]
    by_cases h6:255<tk.length
    ·rw [sel_pos (by simp;omega)]
     exact ⟨_,rfl,i,_,rfl,.inl ⟨rfl,k1 105 (by decide) (by simp [Yh,h1,h2,h3,h4,h5,h6])⟩⟩
    have hz:Yh ⟨⟨s1,s2,s3⟩,k,lf,kv,iss,tk⟩=0:=by simp [Yh,h1,h2,h3,h4,h5];omega
    rw [hz,if_neg (by simp)] at hst
    rw [sel_neg (by simp;omega)]
    rw [chk_of (by simp;omega)]
    simp only [Yq,List.drop_zero,← List.map_take]
    rw [chk_of (by rw [Kerb.all_creds (fun c hc=>hok c (List.mem_of_mem_take hc))];simp;omega),Wu,Kerb.getCred_found]
    cases hd:(cs.take i).any (fun d=>d.service.eqb ⟨s1,s2,s3⟩)
    ·rw [hd,if_neg (by simp)] at hst
     rw [sel_false,wrap_i64 (by omega) (by omega)]
     exact ⟨_,rfl,i+1,rfl,⟨by omega,hst⟩,by dsimp only;omega⟩
    ·rw [hd,if_pos rfl] at hst
     rw [sel_true]
     exact ⟨_,rfl,i,_,rfl,.inl ⟨rfl,hst.symm⟩⟩
   ·rw [sel_neg (by simp;omega)]
    refine ⟨_,rfl,i,_,rfl,.inr ⟨rfl,?_⟩⟩
    rw [hp,Xz (by omega)]
    rfl
  ·rintro ⟨e,l⟩ ⟨i,n,rfl,⟨rfl,h⟩ | ⟨rfl,h⟩⟩
   ·simp only [A0,Zk,Zd,Zj,h]
   ·simp only [A0,Zk,Zd,Zj,h]
    rw [sel_pos (Yd _)]
 ·cases h
theorem w34:Walked Try.prog G 34 4 sp34:=by
 refine ⟨Try.f34,Try.func34,by decide +kernel,rfl,fun xs bl r h=> ?_⟩
 unfold sp34 at h
 split at h
 ·rename_i o1 o2 o3 els x y z now
  obtain ⟨hpre,h2⟩:=chk_inv h;cases h2
  refine Eq.trans (b:=(let t0:Kerb.Cred:=Yu (Xm (Vz Xf els) (Zm x y z));let t1:AV:=Yp [Zz [],Zz [],Zz [],Zy .u64 0,Zy .i64 0,Zy .i64 0,Zy .i64 0,Zf []];Zq (chk (List.all els Vf&&decide (Zx els≤1000000)&&List.all els Kerb.fitCred) (some (Xj [Yp [Zz (Yf (Xp t0)),Zz (Yg (Xp t0)),Zz (Yk (Xp t0)),Zy .u64 (Kerb.Cred.session t0),Zy .i64 (Kerb.Cred.life t0),Zy .i64 (Kerb.Cred.kvno t0),Zy .i64 (Kerb.Cred.issued t0),Zf (Kerb.Cred.ticket t0)],Zu (Zb (Xm (Vz Xf els) (Zm x y z)))],[]))) (kT fun vs=>onCons vs fun x r=>Wx x fun cs=>cStr cs fun b r_1=>cStr r_1 fun b_1 r_2=>cStr r_2 fun b_2 r_3=>cInt .u64 r_3 fun n r_4=>cInt .i64 r_4 fun n_1 r_5=>cInt .i64 r_5 fun n_2 r_6=>cInt .i64 r_6 fun n_3 r_7=>cBs r_7 fun b_3 r_8=>onNil r_8 (cBool r fun b_4 r=>onNil r (sel (!b_4) (some (Xj [t1,Zy .i64 76],[])) (sel (Kerb.Cred.expired (Kerb.Cred.mk (Zm b b_1 b_2) n n_1 n_2 n_3 b_3) now) (some (Xj [t1,Zy .i64 26],[])) (some (Xj [Yp [Zz b,Zz b_1,Zz b_2,Zy .u64 n,Zy .i64 n_1,Zy .i64 n_2,Zy .i64 n_3,Zf b_3],Zy .i64 0],[])))))):Option (AV×Blocks))) (by kernel_rfl) ?_
  delta kT
  try dsimp only [cStr,cBs,cBool,cU8,cInt,cSl,l63]
  simp only [A0,Zk,Zd,Zj,hpre]
  unfold Kerb.liveCred
  cases h:(Xm (els.map Xf) ⟨x,y,z⟩).2
  ·rfl
  rw [Yw,sel_false,if_neg (by simp)]
  show sel ((Xm (els.map Xf) ⟨x,y,z⟩).1.expired now) _ _=_
  cases (Xm (els.map Xf) ⟨x,y,z⟩).1.expired now<;>rfl
 ·cases h
theorem w44:Walked Try.prog G 44 4 sp44:=by
 refine ⟨Try.f44,Try.func44,by decide +kernel,rfl,fun xs bl r h=> ?_⟩
 unfold sp44 at h
 split at h
 ·rename_i l pos
  obtain ⟨hpre,h2⟩:=chk_inv h;cases h2
  show runFnH (G.env 44 4) G.rts (G.own 44) Try.f44 _ _ [0]=_
  refine Eq.trans (b:=(Zq (chk (decide (Zx l≤4611686018427387904)&&decide (0≤pos)) (some (Zy .i64 (Wd l pos 9),[[Zf l,Zy .i64 (Ym l pos 9)]]))) fun (r:AV×Blocks)=>onConsB (Zb r) fun (x:List AV) (r_1:List (List AV))=>cBs x fun b r_2=>cInt .i64 r_2 fun n r_3=>onNil r_3 (onNilB r_1 (Up .i64 (Yu r) fun n_1=>Zq (chk (decide (0≤n_1)&&decide (n_1≤4611686018427387904)) (some (Yp [Zz (Yf (Kerb.service n_1)),Zz (Yg (Kerb.service n_1)),Zz (Yk (Kerb.service n_1))],[]))) (kA fun cs=>cStr cs fun b_1 r=>cStr r fun b_2 r=>cStr r fun b_3 r=>onNil r (Zq (chk (decide (Zx b≤4611686018427387904)&&decide (0≤n)) (some (Zy .i64 (Wd b n 9),[[Zf b,Zy .i64 (Ym b n 9)]]))) fun (r:AV×Blocks)=>onConsB (Zb r) fun (x:List AV) (r_4:List (List AV))=>cBs x fun b r_5=>cInt .i64 r_5 fun n r_6=>onNil r_6 (onNilB r_4 (Up .i64 (Yu r) fun n_2=>Zq (chk (decide (0≤n_2)&&decide (n_2≤1000)) (some (Zy .u64 (Kerb.session n_2),[]))) (kI .u64 fun n_3=>Zq (chk (decide (Zx b≤4611686018427387904)&&decide (0≤n)) (some (Zy .i64 (Wd b n 256),[[Zf b,Zy .i64 (Ym b n 256)]]))) fun (r:AV×Blocks)=>onConsB (Zb r) fun (x:List AV) (r_7:List (List AV))=>cBs x fun b r_8=>cInt .i64 r_8 fun n r_9=>onNil r_9 (onNilB r_7 (Up .i64 (Yu r) fun n_4=>Zq (chk (decide (Zx b≤4611686018427387904)&&decide (0≤n)) (some (Zy .i64 (Wd b n 256),[[Zf b,Zy .i64 (Ym b n 256)]]))) fun (r:AV×Blocks)=>onConsB (Zb r) fun (x:List AV) (r_10:List (List AV))=>cBs x fun b r_11=>cInt .i64 r_11 fun n r_12=>onNil r_12 (onNilB r_10 (Up .i64 (Yu r) fun n_5=>Zq (chk (decide (Zx b≤4611686018427387904)&&decide (0≤n)) (some (Zy .i64 (Wd b n 256),[[Zf b,Zy .i64 (Ym b n 256)]]))) fun (r:AV×Blocks)=>onConsB (Zb r) fun (x:List AV) (r_13:List (List AV))=>cBs x fun b r_14=>cInt .i64 r_14 fun n r_15=>onNil r_15 (onNilB r_13 (Up .i64 (Yu r) fun n_6=>Zq (loopM (fun (st:List AV)=>cBs st fun b r=>cInt .i64 r fun n r=>cStr r fun b_4 r=>cStr r fun b_5 r=>cStr r fun b_6 r=>cInt .u64 r fun n_7 r=>cInt .i64 r fun n_8 r=>cInt .i64 r fun n_9 r=>cInt .i64 r fun n_10 r=>cBs r fun b_7 r=>cStr r fun b_8 r=>cStr r fun b_9 r=>cStr r fun b_10 r=>cInt .u64 r fun n_11 r=>cInt .i64 r fun n_12 r=>cInt .i64 r fun n_13 r=>cInt .i64 r fun n_14 r=>onCons r fun x r=>Vb x fun y=>cInt .i64 r fun n_15 r=>onNil r (Zq (chk (decide (Zx b≤4611686018427387904)&&decide (0≤n)) (some (Zy .i64 (Wd b n 30),[[Zf b,Zy .i64 (Ym b n 30)]]))) fun (r:AV×Blocks)=>onConsB (Zb r) fun (x:List AV) (r_16:List (List AV))=>cBs x fun b r_17=>cInt .i64 r_17 fun n r_18=>onNil r_18 (onNilB r_16 (Up .i64 (Yu r) fun n_16=>sel (decide (n_15<n_16)) (Zq (chk (decide (Zx b≤4611686018427387904)&&decide (0≤n)) (some (Zy .i64 (Wd b n 256),[[Zf b,Zy .i64 (Ym b n 256)]]))) fun (r:AV×Blocks)=>onConsB (Zb r) fun (x:List AV) (r_19:List (List AV))=>cBs x fun b r_20=>cInt .i64 r_20 fun n r_21=>onNil r_21 (onNilB r_19 (Up .i64 (Yu r) fun n_17=>chk (room (Zx y+Zx [Ww (Zp (Zw .u8 n_17))]) 1) (some (Wk [Zf b,Zy .i64 n,Zz b_4,Zz b_5,Zz b_6,Zy .u64 n_7,Zy .i64 n_8,Zy .i64 n_9,Zy .i64 n_10,Zf b_7,Zz b_8,Zz b_9,Zz b_10,Zy .u64 n_11,Zy .i64 n_12,Zy .i64 n_13,Zy .i64 n_14,Xv (y++[Ww (Zp (Zw .u8 n_17))]),Zy .i64 (Zw .i64 (n_15+1))]))))) (some (Xy (Xg 0,[Zf b,Zy .i64 n,Zz b_4,Zz b_5,Zz b_6,Zy .u64 n_7,Zy .i64 n_8,Zy .i64 n_9,Zy .i64 n_10,Zf b_7,Zz b_8,Zz b_9,Zz b_10,Zy .u64 n_11,Zy .i64 n_12,Zy .i64 n_13,Zy .i64 n_14,Xv y,Zy .i64 n_15]))))))) [Zf b,Zy .i64 n,Zz [],Zz [],Zz [],Zy .u64 0,Zy .i64 0,Zy .i64 0,Zy .i64 0,Zf [],Zz b_1,Zz b_2,Zz b_3,Zy .u64 n_3,Zy .i64 n_4,Zy .i64 n_5,Zy .i64 (Zw .i64 (n_6*100)),Xv [],Zy .i64 0]) fun (r:Ex×List AV)=>cBs (Zb r) fun b r_16=>cInt .i64 r_16 fun n r_17=>cStr r_17 fun b_4 r_18=>cStr r_18 fun b_5 r_19=>cStr r_19 fun b_6 r_20=>cInt .u64 r_20 fun n_7 r_21=>cInt .i64 r_21 fun n_8 r_22=>cInt .i64 r_22 fun n_9 r_23=>cInt .i64 r_23 fun n_10 r_24=>cBs r_24 fun b_7 r_25=>cStr r_25 fun b_8 r_26=>cStr r_26 fun b_9 r_27=>cStr r_27 fun b_10 r_28=>cInt .u64 r_28 fun n_11 r_29=>cInt .i64 r_29 fun n_12 r_30=>cInt .i64 r_30 fun n_13 r_31=>cInt .i64 r_31 fun n_14 r_32=>onCons r_32 fun x r_33=>Vb x fun y=>cInt .i64 r_33 fun n_15 r_34=>onNil r_34 (exK r.1 (some (Yp [Zz b_4,Zz b_5,Zz b_6,Zy .u64 n_7,Zy .i64 n_8,Zy .i64 n_9,Zy .i64 n_10,Zf b_7],[[Zf b,Zy .i64 n]])) fun (j:Nat)=>sel (Wp j 0) (some (Yp [Zz b_8,Zz b_9,Zz b_10,Zy .u64 n_11,Zy .i64 n_12,Zy .i64 n_13,Zy .i64 n_14,Zf y],[[Zf b,Zy .i64 n]])) none)))))))))))))):Option (AV×Blocks))) (by kernel_rfl) ?_
  delta kA kI
  try dsimp only [cStr,cBs,cBool,cU8,cInt,cSl,l63]
  simp only [Zg,decide_eq_true_eq] at hpre
  obtain ⟨hl,hp0⟩:=hpre
  have c:decide (l.length≤4611686018427387904)=true:=by simp;omega
  have c0:decide (0≤pos)=true:=by simpa using hp0
  simp only [A0,Zk,Zd,Zj,c,c0,Kerb.nextPos_dec,Kerb.next_dec,Kerb.next_dec62,Kerb.next_dec1000,Uh]
  have hn:=Kerb.next_bd l (Kerb.cp4 l pos) 256
  have hw:Zw .i64 (Wd l (Kerb.cp4 l pos) 256*100)=Wd l (Kerb.cp4 l pos) 256*100:=wrap_i64 (by omega) (by omega)
  refine loop_rounds (fun s:Nat×Int×Int×List UInt8=>[Zf l,Zy Zv s.2.2.1,Zz [],Zz [],Zz [],Zy Xu 0,Zy Zv 0,Zy Zv 0,Zy Zv 0,Zf [],Zz (Yz l pos).service.name,Zz (Yz l pos).service.inst,Zz (Yz l pos).service.realm,Zy Xu (Yz l pos).session,Zy Zv (Yz l pos).life,Zy Zv (Yz l pos).kvno,Zy Zv (Yz l pos).issued,Xv s.2.2.2,Zy Zv s.2.1])
   (fun s=>0≤s.2.1∧s.2.1≤255∧0≤s.2.2.1∧(l.length:Int)-s.2.2.1<s.1∧(s.2.2.2.length:Int)=s.2.1∧Kerb.tickLoop l s.1 s.2.1 s.2.2.1 s.2.2.2=Kerb.dataTick l pos) (fun s=>s.1)
   (fun r=>∃ i:Int,r=(.exit 0,[Zf l,Zy Zv (Uw l pos),Zz [],Zz [],Zz [],Zy Xu 0,Zy Zv 0,Zy Zv 0,Zy Zv 0,Zf [],Zz (Yz l pos).service.name,Zz (Yz l pos).service.inst,Zz (Yz l pos).service.realm,Zy Xu (Yz l pos).session,Zy Zv (Yz l pos).life,Zy Zv (Yz l pos).kvno,Zy Zv (Yz l pos).issued,Xv (Kerb.dataTick l pos).1,Zy Zv i])) (l.length+1,0,Kerb.cp5 l pos,[]) ⟨by simp,by simp,Int.natCast_nonneg _,by have:(0:Int)≤Kerb.cp5 l pos:=Int.natCast_nonneg _;simp only;omega,rfl,rfl⟩ ?_ ?_ ?_
  ·have hw':Zw .i64 (Wd l (Ym l (Ym l (Ym l (Ym l pos 9) 9) 256) 256) 256*100)=(Yz l pos).issued:=hw
   rw [hw'];rfl
  ·rintro ⟨f,i,q,t⟩ ⟨hi0,hi,hq,hf,ht,he⟩
   simp only at hi0 hi hq hf ht he
   have cq:decide (0≤q)=true:=by simpa using hq
   simp only [A0,Zk,Zd,Zj,c,cq,Kerb.nextPos_dec,Uh]
   have b:=Kerb.next_bd l q 30
   by_cases hlt:i<Wd l q 30
   ·have hql:q<l.length:=Kerb.next_in (n:=30) (by omega)
    cases f with
    | zero=>simp at hf;omega
    | succ f =>
     rw [Kerb.tickLoop,if_pos hlt] at he
     have b2:=Kerb.next_bd l (Ym l q 30) 256
     rw [sel_pos (by simpa using hlt),chk_of (Ud (by simp;omega)),wrap_i64 (by omega) (by omega),Kerb.wrap_u8,Int.emod_eq_of_lt (by omega) (by omega)]
     have hs:=Kerb.nextPos_step (l:=l) (p:=q) (n:=30) hq hql (by decide)
     have hs2:=Kerb.nextPos_ge l (Ym l q 30) 256
     exact ⟨_,rfl,(f,i+1,Ym l (Ym l q 30) 256,t++[Ww (Wd l (Ym l q 30) 256).toNat]),rfl,⟨by simp only;omega,by simp only;omega,by simp only;omega,by simp only;omega,by simp;omega,he⟩,by simp⟩
   ·rw [sel_neg (by simpa using hlt)]
    have ht2:Kerb.dataTick l pos=(t,Ym l q 30):=by
     rw [← he]
     cases f with
     | zero=>rfl
     | succ f=>rw [Kerb.tickLoop,if_neg hlt]
    refine ⟨_,rfl,i,?_⟩
    unfold Uw
    rw [ht2]
  ·rintro _ ⟨i,rfl⟩
   simp only [A0,Zk,Zd,Zj]
   rw [sel_pos (Yd _)]
   rfl
 ·cases h
theorem w53:Walked Try.prog G 53 4 sp53:=by
 refine ⟨Try.f53,Try.func53,by decide +kernel,rfl,fun xs bl r h=> ?_⟩
 unfold sp53 at h
 split at h
 ·rename_i b x y z
  obtain ⟨hpre,h2⟩:=chk_inv h;cases h2
  refine Eq.trans (b:=(Zq (chk (decide (Zx b+Zx x≤70368744177664)) (some (Zf (Vw b x),[]))) fun (r:AV×Blocks)=>onNilB (Zb r) (AV.onBs (Yu r) fun b=>Zq (chk (decide (Zx b+Zx y≤70368744177664)) (some (Zf (Vw b y),[]))) fun (r:AV×Blocks)=>onNilB (Zb r) (AV.onBs (Yu r) fun b=>Zq (chk (decide (Zx b+Zx z≤70368744177664)) (some (Zf (Vw b z),[]))) fun (r:AV×Blocks)=>onNilB (Zb r) (AV.onBs (Yu r) fun b=>some (Zf b,[])))):Option (AV×Blocks))) (by kernel_rfl) ?_
  simp only [decide_eq_true_eq] at hpre
  simp only [A0]
  rw [chk_of (by simp;omega),chk_of (by simp [Vw];omega),chk_of (by simp [Vw];omega)]
  rfl
 ·cases h
theorem w54:Walked Try.prog G 54 4 sp54:=by
 refine ⟨Try.f54,Try.func54,by decide +kernel,rfl,fun xs bl r h=> ?_⟩
 unfold sp54 at h
 split at h
 ·rename_i b n little
  obtain ⟨hpre,h2⟩:=chk_inv h;cases h2
  refine Eq.trans (b:=(Zq (chk (decide (Zx b≤70368744177664)) (some (Xv (b++Wv n (Zp 4) little),[]))) fun (r:AV×Blocks)=>onNilB (Zb r) (Vb (Yu r) fun l=>some (Xv l,[])):Option (AV×Blocks))) (by kernel_rfl) ?_
  simp only [decide_eq_true_eq] at hpre
  simp only [A0]
  rw [chk_of (by simp;omega)]
  rfl
 ·cases h
theorem w55:Walked Try.prog G 55 4 sp55:=by
 refine ⟨Try.f55,Try.func55,by decide +kernel,rfl,fun xs bl r h=> ?_⟩
 unfold sp55 at h
 split at h
 ·rename_i b n
  obtain ⟨hpre,h2⟩:=chk_inv h;cases h2
  refine Eq.trans (b:=(Zq (chk (decide (Zx b≤70368744177664)) (some (Xv (b++Wv n (Zp 1) false),[]))) fun (r:AV×Blocks)=>onNilB (Zb r) (Vb (Yu r) fun l=>some (Xv l,[])):Option (AV×Blocks))) (by kernel_rfl) ?_
  simp only [decide_eq_true_eq] at hpre
  simp only [A0]
  rw [chk_of (by simp;omega)]
  rfl
 ·cases h
theorem w62:Walked Try.prog G 62 4 sp62:=by
 refine ⟨Try.f62,Try.func62,by decide +kernel,rfl,fun xs bl r h=> ?_⟩
 unfold sp62 at h
 split at h
 ·rename_i s bad
  obtain ⟨hpre,h2⟩:=chk_inv h;cases h2
  refine Eq.trans (b:=(Zq (loopM (fun (st:List AV)=>cStr st fun b r=>cStr r fun b_1 r=>cBool r fun b_2 r=>cInt .i64 r fun n r=>cInt .i64 r fun n_1 r=>let t0:Option (List AV ⊕ Ex×List AV):=some (Xy (Vk,[Zz b,Zz b_1,Zu false,Zy .i64 n,Zy .i64 n_1]));let t1:Bool:=decide (0≤n_1)&&decide (n_1<(↑(Zx b):Int));let t2:Int:=(↑(Yb (Xq b (Zp n_1) (0:UInt8))):Int);onNil r (sel (decide (n_1<n)) (chk t1 (sel (decide (t2<(↑(Yb (33:UInt8)):Int))) t0 (chk t1 (sel (decide (t2>(↑(Yb (126:UInt8)):Int))) t0 (chk t1 (sel (decide (Kerb.indexOf (Xq b (Zp n_1) (0:UInt8)) b_1≥0)) t0 (some (Wk [Zz b,Zz b_1,Zu b_2,Zy .i64 n,Zy .i64 (Zw .i64 (n_1+1))])))))))) (some (Xy (Xg 0,[Zz b,Zz b_1,Zu b_2,Zy .i64 n,Zy .i64 n_1]))))) [Zz s,Zz bad,Zu false,Zy .i64 (↑(Zx s):Int),Zy .i64 0]) fun (r:Ex×List AV)=>cStr (Zb r) fun b r_1=>cStr r_1 fun b r_2=>cBool r_2 fun b r_3=>cInt .i64 r_3 fun n r_4=>cInt .i64 r_4 fun n r_5=>onNil r_5 (exK r.1 (some (Zu b,[])) fun (j:Nat)=>sel (Wp j 0) (some (Zu true,[])) none):Option (AV×Blocks))) (by kernel_rfl) ?_
  try dsimp only [cStr,cBs,cBool,cU8,cInt,cSl,l63]
  simp only [decide_eq_true_eq] at hpre
  refine loop_rounds (fun i:Nat=>[Zz s,Zz bad,Zu false,Zy Zv (s.length:Int),Zy Zv (i:Int)]) (fun i=>i≤s.length∧Yj s bad=Yj (s.drop i) bad) (fun i=>s.length-i)
   (fun r=>∃ i:Nat,r.2=[Zz s,Zz bad,Zu false,Zy Zv (s.length:Int),Zy Zv (i:Int)]∧((r.1 = .ret∧Yj s bad=false)∨(r.1 = .exit 0∧Yj s bad=true))) 0 ⟨Wq _,rfl⟩ rfl ?_ ?_
  ·rintro i ⟨hi,hp⟩
   simp only [A0]
   by_cases hlt:i<s.length
   ·have hc:(decide ((0:Int)≤(i:Int))&&decide ((i:Int)<(s.length:Int)))=true:=by simp;omega
    have hd:=Kerb.drop_all_cons hlt
    rw [sel_pos (by simp;omega),chk_of hc,Yq]
    have hpr:Yj (s.drop i) bad=(Uu bad (s.getD i 0)&&Yj (s.drop (i+1)) bad):=by rw [hd];rfl
    generalize s.getD i 0=c at *
    by_cases h1:c.toNat<33
    ·rw [sel_pos (by simp;omega)]
     exact ⟨_,rfl,i,rfl,.inl ⟨rfl,by rw [hp,hpr];simp [Uu,h1]⟩⟩
    rw [sel_neg (by simp;omega),chk_of hc]
    by_cases h2:126<c.toNat
    ·rw [sel_pos (by simp;omega)]
     exact ⟨_,rfl,i,rfl,.inl ⟨rfl,by rw [hp,hpr];simp [Uu,h2]⟩⟩
    rw [sel_neg (by simp;omega),chk_of hc]
    have h4:=Kerb.indexOf_nonneg c bad
    by_cases h3:c∈bad
    ·rw [sel_pos (by simpa using h4.2 h3)]
     exact ⟨_,rfl,i,rfl,.inl ⟨rfl,by rw [hp,hpr];simp [Uu,h3]⟩⟩
    rw [sel_neg (by have:=mt h4.1 h3;simp;omega),wrap_i64 (by omega) (by omega)]
    exact ⟨_,rfl,i+1,rfl,⟨by omega,by rw [hp,hpr];simp [Uu,h1,h2,h3]⟩,by dsimp only;omega⟩
   ·rw [sel_neg (by simp;omega)]
    exact ⟨_,rfl,i,rfl,.inr ⟨rfl,by rw [hp,Xz (by omega)];rfl⟩⟩
  ·rintro ⟨e,l⟩ ⟨i,rfl,⟨rfl,hp⟩ | ⟨rfl,hp⟩⟩
   ·simp only [A0,hp]
   ·simp only [A0,hp]
    rfl
 ·cases h
theorem w76:Walked Try.prog G 76 4 sp76:=by
 refine ⟨Try.f76,Try.func76,by decide +kernel,rfl,fun xs bl r h=> ?_⟩
 unfold sp76 at h
 split at h
 ·rename_i kd k bd
  obtain ⟨hpre,h2⟩:=chk_inv h;cases h2
  refine Eq.trans (b:=(let t0:List UInt8:=[Ww (Zp (Zw .u8 (Int.fdiv (↑(Zx bd):Int) (2 ^ min (Zp 8) (Yy .i64))))),Ww (Zp (Zw .u8 (↑(Zx bd):Int)))];let t1:List UInt8:=Wh (Zp 0) (0:UInt8)++[(66:UInt8),Ww (Zp (Zw .u8 kd))];let t2:Int:=Zw .i64 (12+(↑(Zx bd):Int));sel (!Vd kd) (some (Xj [Zf [],Zy .i64 104],[])) (Zq (chk (decide (0≤k)&&decide (k<18446744073709551616)) (some (Zu (Xn k),[]))) (kL fun b=>sel (!b) (some (Xj [Zf [],Zy .i64 10],[])) (sel (decide ((↑(Zx bd):Int)>1000)) (some (Xj [Zf [],Zy .i64 105],[])) (chk (decide (0≤t2)&&decide (t2≤140737488355328)) (chk (room (Zx (Wh (Zp 0) (0:UInt8))+Zx [(66:UInt8),Ww (Zp (Zw .u8 kd))]) 1) (Zq (chk (decide (0≤k)&&decide (k<18446744073709551616)) (some (Zf (Kerb.keyBytes k),[]))) (kB fun b=>chk (room (Zx t1+Zx b) 1) (chk (room (Zx (t1++b)+Zx t0) 1) (chk (room (Zx (t1++b++t0)+Zx bd) 1) (some (Xj [Zf (t1++b++t0++bd),Zy .i64 0],[]))))))))))):Option (AV×Blocks))) (by kernel_rfl) ?_
  delta kB kL
  try dsimp only [cStr,cBs,cBool,cU8,cInt,cSl,l63]
  simp only [A0,Zk,Zd,Zj,hpre]
  unfold Kerb.makeBox
  cases h1:Vd kd
  ·rfl
  rw [Yw,sel_false,if_neg (by simp)]
  cases h2:Xn k
  ·rfl
  rw [Yw,sel_false,if_neg (by simp)]
  by_cases h3:1000<bd.length
  ·rw [sel_pos (by simp;omega),if_pos h3]
  have hk:1≤kd∧kd≤10:=by simp [Vd] at h1;omega
  have lk:=Kerb.keyBytes_len k
  rw [sel_neg (by simp;omega),if_neg h3,wrap_i64 (by omega) (by omega),chk_of (by simp;omega),chk_of (Ud (by simp)),chk_of (Ud (by simp;omega)),chk_of (Ud (by simp;omega)),chk_of (Ud (by simp;omega)),Kerb.two_bytes,Kerb.wrap_u8,Int.emod_eq_of_lt (by omega) (by omega)]
  rfl
 ·cases h
theorem w8:Walked Try.prog G 8 5 sp8:=by
 refine ⟨Try.f8,Try.func8,by decide +kernel,rfl,fun xs bl r h=> ?_⟩
 unfold sp8 at h
 split at h
 ·rename_i x y z ad sk li
  obtain ⟨hpre,h2⟩:=chk_inv h;cases h2
  refine Eq.trans (b:=(let t2:List AV:=[Zy .i64 0,Zz [],Zz [],Zz [],Zy .u64 0,Zy .i64 0,Zy .i64 0,Zy .i64 0,Zy .i64 0];let t3:Kerb.Prin:=Xd (bif Yx (Zm x y z) then Ug (Zm x y z) [] else Kerb.noCache);let t1:AV:=Yp (Zz []::Zz []::Zz []::Zy .i64 0::Zy .i64 0::Zu false::Zz []::Zz []::Zz []::Zh 8 []::t2);let t0:Option (AV×Blocks):=some (Xj [t1,Zy .i64 104],[]);Zq (chk (l63 x&&l63 y&&l63 z) (some (Xj [Yp [Zz (Yf t3),Zz (Yg t3),Zz (Yk t3),Zh 8 (Vz Zj (Vg (bif Yx (Zm x y z) then Ug (Zm x y z) [] else Kerb.noCache)))],Zy .i64 (bif Yx (Zm x y z) then 0 else 103)],[]))) (kT fun vs=>onCons vs fun x_1 r=>Wx x_1 fun cs=>onCons cs fun x_2 r_1=>Vu x_2 fun b=>onCons r_1 fun x_3 r_2=>Vu x_3 fun b_1=>onCons r_2 fun x_4 r_3=>Vu x_4 fun b_2=>onCons r_3 fun x_5 r_4=>AV.onSl 8 x_5 fun b_3=>onNil r_4 (onCons r fun x_6 r=>Up .i64 x_6 fun n=>onNil r (sel (!n==0) (some (Xj [t1,Zy .i64 n],[])) (sel (!Zn ad 4294967295) t0 (sel (!Zn sk 4294967295) t0 (some (Xj [Yp (Zz x::Zz y::Zz z::Zy .i64 ad::Zy .i64 sk::Zu li::Zz b::Zz b_1::Zz b_2::Zh 8 b_3::t2),Zy .i64 0],[]))))))):Option (AV×Blocks))) (by kernel_rfl) ?_
  delta kT
  try dsimp only [cStr,cBs,cBool,cU8,cInt,cSl,l63]
  simp only [A0,Zk,Zd,Zj,hpre]
  unfold Ux
  cases h:Yx ⟨x,y,z⟩
  ·rfl
  cases Zn ad 4294967295
  ·rfl
  cases Zn sk 4294967295<;>rfl
 ·cases h
theorem w27:Walked Try.prog G 27 5 sp27:=by
 refine ⟨Try.f27,Try.func27,by decide +kernel,rfl,fun xs bl r h=> ?_⟩
 unfold sp27 at h
 split at h
 ·rename_i l n
  obtain ⟨hpre,h2⟩:=chk_inv h;cases h2
  refine Eq.trans (b:=(Zq (chk (decide (0≤n)&&decide (n≤4611686018427387904)) (some (Yp [Zz (Yf (Xw n)),Zz (Yg (Xw n)),Zz (Yk (Xw n))],[]))) (kA fun cs=>cStr cs fun b r=>cStr r fun b_1 r=>cStr r fun b_2 r=>onNil r (Zq (loopM (fun (st:List AV)=>cStr st fun b r=>cStr r fun b_3 r=>cStr r fun b_4 r=>cSl 8 r fun b_5 r=>cBs r fun b_6 r=>cInt .i64 r fun n r=>cStr r fun b_7 r=>cStr r fun b_8 r=>cStr r fun b_9 r=>onCons r fun x r=>AV.onOwnL x fun y=>onNil r (sel (decide (n<(↑(Zx b_6):Int))) (Zq (chk (decide (Zx b_6≤1000000)&&decide (0≤n)) (some (Yp [Zz (Yf (Xp (Yz b_6 n))),Zz (Yg (Xp (Yz b_6 n))),Zz (Yk (Xp (Yz b_6 n))),Zy .u64 (Kerb.Cred.session (Yz b_6 n)),Zy .i64 (Kerb.Cred.life (Yz b_6 n)),Zy .i64 (Kerb.Cred.kvno (Yz b_6 n)),Zy .i64 (Kerb.Cred.issued (Yz b_6 n)),Zf (Kerb.Cred.ticket (Yz b_6 n))],[[Zf b_6,Zy .i64 (Uw b_6 n)]]))) fun (r:AV×Blocks)=>onConsB (Zb r) fun (x:List AV) (r_1:List (List AV))=>cBs x fun b_10 r_2=>cInt .i64 r_2 fun n r_3=>onNil r_3 (onNilB r_1 (Wx (Yu r) fun cs=>cStr cs fun b_11 r=>cStr r fun b_12 r=>cStr r fun b_13 r=>cInt .u64 r fun n_1 r=>cInt .i64 r fun n_2 r=>cInt .i64 r fun n_3 r=>cInt .i64 r fun n_4 r=>cBs r fun b_14 r=>onNil r (Zq (loopM (fun (st:List AV)=>cStr st fun b r=>cStr r fun b_15 r=>cStr r fun b_16 r=>cSl 8 r fun b_17 r=>cBs r fun b_18 r=>cInt .i64 r fun n r=>cStr r fun b_19 r=>cStr r fun b_20 r=>cStr r fun b_21 r=>onCons r fun x r=>AV.onOwnL x fun y=>cStr r fun b_22 r=>cStr r fun b_23 r=>cStr r fun b_24 r=>cInt .u64 r fun n_5 r=>cInt .i64 r fun n_6 r=>cInt .i64 r fun n_7 r=>cInt .i64 r fun n_8 r=>cBs r fun b_25 r=>cBool r fun b_26 r=>cInt .i64 r fun n_9 r=>onNil r (sel (decide (n_9<(↑(Zx y):Int))) (sel b_26 (chk (decide (0≤n_9)&&decide (n_9<(↑(Zx y):Int))&&true) (chk (Nat.blt (Zp n_9) (Zx y)&&true) (Wx (Xq y (Zp n_9) Wm) fun cs=>cStr cs fun b_27 r=>cStr r fun b_28 r=>cStr r fun b_29 r=>cInt .u64 r fun n_10 r=>cInt .i64 r fun n_11 r=>cInt .i64 r fun n_12 r=>cInt .i64 r fun n_13 r=>cBs r fun b_30 r=>onNil r (some (Wk [Zz b,Zz b_15,Zz b_16,Zh 8 b_17,Zf b_18,Zy .i64 n,Zz b_19,Zz b_20,Zz b_21,Wb y,Zz b_22,Zz b_23,Zz b_24,Zy .u64 n_5,Zy .i64 n_6,Zy .i64 n_7,Zy .i64 n_8,Zf b_25,Zu !(b_27==b_22&&(b_28==b_23&&b_29==b_24)),Zy .i64 (Zw .i64 (n_9+1))]))))) (some (Wk [Zz b,Zz b_15,Zz b_16,Zh 8 b_17,Zf b_18,Zy .i64 n,Zz b_19,Zz b_20,Zz b_21,Wb y,Zz b_22,Zz b_23,Zz b_24,Zy .u64 n_5,Zy .i64 n_6,Zy .i64 n_7,Zy .i64 n_8,Zf b_25,Zu false,Zy .i64 (Zw .i64 (n_9+1))]))) (some (Xy (Xg 2,[Zz b,Zz b_15,Zz b_16,Zh 8 b_17,Zf b_18,Zy .i64 n,Zz b_19,Zz b_20,Zz b_21,Wb y,Zz b_22,Zz b_23,Zz b_24,Zy .u64 n_5,Zy .i64 n_6,Zy .i64 n_7,Zy .i64 n_8,Zf b_25,Zu b_26,Zy .i64 n_9]))))) [Zz b,Zz b_3,Zz b_4,Zh 8 b_5,Zf b_10,Zy .i64 n,Zz b_7,Zz b_8,Zz b_9,Wb y,Zz b_11,Zz b_12,Zz b_13,Zy .u64 n_1,Zy .i64 n_2,Zy .i64 n_3,Zy .i64 n_4,Zf b_14,Zu true,Zy .i64 0]) fun (r:Ex×List AV)=>cStr (Zb r) fun b r_4=>cStr r_4 fun b_15 r_5=>cStr r_5 fun b_16 r_6=>cSl 8 r_6 fun b_17 r_7=>cBs r_7 fun b_18 r_8=>cInt .i64 r_8 fun n r_9=>cStr r_9 fun b_19 r_10=>cStr r_10 fun b_20 r_11=>cStr r_11 fun b_21 r_12=>onCons r_12 fun x r_13=>AV.onOwnL x fun y=>let t0:List AV:=[Zz b,Zz b_15,Zz b_16,Zh 8 b_17,Zf b_18,Zy .i64 n,Zz b_19,Zz b_20,Zz b_21,Wb y];cStr r_13 fun b_22 r_14=>cStr r_14 fun b_23 r_15=>cStr r_15 fun b_24 r_16=>cInt .u64 r_16 fun n_5 r_17=>cInt .i64 r_17 fun n_6 r_18=>cInt .i64 r_18 fun n_7 r_19=>cInt .i64 r_19 fun n_8 r_20=>cBs r_20 fun b_25 r_21=>let t1:List AV:=[Yp [Zz b_22,Zz b_23,Zz b_24,Zy .u64 n_5,Zy .i64 n_6,Zy .i64 n_7,Zy .i64 n_8,Zf b_25]];cBool r_21 fun b_26 r_22=>cInt .i64 r_22 fun n_9 r_23=>onNil r_23 (exK r.1 (some (Xy (Vk,t0))) fun (j:Nat)=>sel (Wp j 2) (sel b_26 (chk (room (Zx y+Zx t1) (nat_lit 104)) (some (Wk [Zz b,Zz b_15,Zz b_16,Zh 8 b_17,Zf b_18,Zy .i64 n,Zz b_19,Zz b_20,Zz b_21,Wb (y++t1)]))) (some (Wk t0))) none))))) (some (Xy (Xg 0,[Zz b,Zz b_3,Zz b_4,Zh 8 b_5,Zf b_6,Zy .i64 n,Zz b_7,Zz b_8,Zz b_9,Wb y]))))) [Zz [],Zz [],Zz [],Zh 8 [],Zf l,Zy .i64 0,Zz b,Zz b_1,Zz b_2,Wb []]) fun (r:Ex×List AV)=>cStr (Zb r) fun b r_1=>cStr r_1 fun b r_2=>cStr r_2 fun b r_3=>cSl 8 r_3 fun b r_4=>cBs r_4 fun b r_5=>cInt .i64 r_5 fun n r_6=>cStr r_6 fun b r_7=>cStr r_7 fun b_3 r_8=>cStr r_8 fun b_4 r_9=>onCons r_9 fun x r_10=>AV.onOwnL x fun y=>onNil r_10 (exK r.1 none fun (j:Nat)=>sel (Wp j 0) (some (Yp [Zz b,Zz b_3,Zz b_4,Wb y],[])) none))):Option (AV×Blocks))) (by kernel_rfl) ?_
  delta kA
  try dsimp only [cStr,cBs,cBool,cU8,cInt,cSl,l63]
  simp only [Zg,decide_eq_true_eq] at hpre
  obtain ⟨⟨hl,hn0⟩,hn⟩:=hpre
  have c:decide (l.length≤1000000)=true:=by simpa using hl
  rw [chk_of (by simp;omega)]
  simp only [A0,Zk,Zd,Zj]
  refine loop_rounds (fun s:Nat×Int×List Kerb.Cred=>[Zz [],Zz [],Zz [],Zh 8 [],Zf l,Zy Zv s.2.1,Zz (Xw n).name,Zz (Xw n).inst,Zz (Xw n).realm,Wb (s.2.2.map Zj)])
   (fun s=>0≤s.2.1∧(l.length:Int)-s.2.1<s.1∧s.2.2.length+s.1≤l.length+1∧Ub l s.1 s.2.1 s.2.2=Ub l (l.length+1) 0 []) (fun s=>s.1)
   (fun r=>∃ q:Int,r=(.exit 0,[Zz [],Zz [],Zz [],Zh 8 [],Zf l,Zy Zv q,Zz (Xw n).name,Zz (Xw n).inst,Zz (Xw n).realm,Wb ((Ub l (l.length+1) 0 []).map Zj)])) (l.length+1,0,[]) ⟨by simp,by simp only;omega,by simp,rfl⟩ rfl ?_ ?_
  ·rintro ⟨f,q,cs⟩ ⟨hq,hf,hc,he⟩
   simp only at hq hf hc he
   have cq:decide (0≤q)=true:=by simpa using hq
   simp only [A0,Zk,Zd,Zj,c,cq,Uh]
   by_cases hlt:q<l.length
   ·rw [sel_pos (by simpa using hlt)]
    cases f with
    | zero=>simp at hf;omega
    | succ f =>
     rw [Ub,if_pos hlt] at he
     have hgt:=Kerb.dataPos_gt hq hlt
     obtain ⟨x,hx⟩:∃ x,Yz l q=x:=⟨_,rfl⟩
     rw [hx] at he ⊢
     refine loop_ex (fun s:Nat×Bool=>[Zz [],Zz [],Zz [],Zh 8 [],Zf l,Zy Zv (Uw l q),Zz (Xw n).name,Zz (Xw n).inst,Zz (Xw n).realm,Wb (cs.map Zj),Zz x.service.name,Zz x.service.inst,Zz x.service.realm,Zy Xu x.session,Zy Zv x.life,Zy Zv x.kvno,Zy Zv x.issued,Zf x.ticket,Zu s.2,Zy Zv (s.1:Int)])
      (fun s=>s.1≤cs.length∧s.2 = !((cs.take s.1).any fun d=>d.service.eqb x.service)) (fun s=>cs.length-s.1)
      (fun r=>r=(.exit 2,[Zz [],Zz [],Zz [],Zh 8 [],Zf l,Zy Zv (Uw l q),Zz (Xw n).name,Zz (Xw n).inst,Zz (Xw n).realm,Wb (cs.map Zj),Zz x.service.name,Zz x.service.inst,Zz x.service.realm,Zy Xu x.session,Zy Zv x.life,Zy Zv x.kvno,Zy Zv x.issued,Zf x.ticket,Zu (!(cs.any fun d=>d.service.eqb x.service)),Zy Zv (cs.length:Int)])) (0,true) ⟨Wq _,by simp⟩ rfl ?_ ?_
     ·rintro ⟨j,b⟩ ⟨hj,hb⟩
      simp only at hj hb
      simp only [A0,Zk,Zd,Zj]
      by_cases hjl:j<cs.length
      ·rw [sel_pos (by simp;omega)]
       have htk:=Kerb.take_cred hjl
       cases b
       ·rw [sel_false,wrap_i64 (by omega) (by omega)]
        refine ⟨_,rfl,(j+1,false),rfl,⟨hjl,?_⟩,by simp only;omega⟩
        simp only [htk,List.any_append,Bool.not_or]
        rw [← hb,Bool.false_and]
       ·rw [sel_true,chk_of (by simp;omega),chk_of (by simp [Nat.blt_eq];omega),Yq,Vv hjl]
        obtain ⟨d,hd⟩:∃ d,cs.getD j Wf=d:=⟨_,rfl⟩
        rw [hd] at htk ⊢
        simp only [Zj,A0,Zk,Zd,Zj]
        rw [wrap_i64 (by omega) (by omega)]
        refine ⟨_,rfl,(j+1,!(Xh d.service x.service)),rfl,⟨hjl,?_⟩,by simp only;omega⟩
        simp only [htk,List.any_append,Bool.not_or]
        rw [← hb,Bool.true_and]
        simp
      ·rw [sel_neg (by simp;omega)]
       have:j=cs.length:=by omega
       subst this
       rw [Vn (Nat.le_refl _)] at hb
       subst hb
       exact ⟨_,rfl,rfl⟩
     ·rintro _ rfl
      simp only [A0,Zk,Zd,Zj]
      rw [sel_pos (Yd _)]
      cases hany:cs.any fun d=>d.service.eqb x.service
      ·rw [hany,if_neg (by simp)] at he
       rw [Bool.not_false,sel_true,chk_of (by simp [room,maxLen];omega)]
       refine ⟨_,rfl,(f,Uw l q,cs++[x]),by simp [Zj],⟨by simp only;omega,by simp only;omega,by simp;omega,he⟩,by simp⟩
      ·rw [hany,if_pos rfl] at he
       rw [Yw,sel_false]
       refine ⟨_,rfl,(f,Uw l q,cs),rfl,⟨by simp only;omega,by simp only;omega,by simp only;omega,he⟩,by simp⟩
   ·rw [sel_neg (by simpa using hlt)]
    refine ⟨_,rfl,q,?_⟩
    rw [← he]
    cases f with
    | zero=>rfl
    | succ f=>rw [Ub,if_neg hlt]
  ·rintro _ ⟨q,rfl⟩
   simp only [A0,Zk,Zd,Zj]
   rw [sel_pos (Yd _)]
   rfl
 ·cases h
theorem w37:Walked Try.prog G 37 5 sp37:=by
 refine ⟨Try.f37,Try.func37,by decide +kernel,rfl,fun xs bl r h=> ?_⟩
 unfold sp37 at h
 split at h
 ·rename_i s
  obtain ⟨hpre,h2⟩:=chk_inv h;cases h2
  refine Eq.trans (b:=(sel (!s==[]) (sel (decide ((↑(Zx s):Int)≤39)) (Zq (chk (decide (Zx s≤9223372036854775807)) (some (Zu (Yj s [(46:UInt8),(64:UInt8)]),[]))) fun (r:AV×Blocks)=>onNilB (Zb r) (Wz (Yu r) fun b=>some (Zu b,[]))) (some (Zu false,[]))) (some (Zu false,[])):Option (AV×Blocks))) (by kernel_rfl) ?_
  simp only [A0]
  rw [chk_of hpre,decide_eq_decide.2 (show ((s.length:Int)≤39)↔s.length≤39 from by omega)]
  simp only [Vm]
  cases s with
  | nil=>rfl
  | cons x r=>cases decide ((x::r).length≤39)<;>rfl
 ·cases h
theorem w38:Walked Try.prog G 38 5 sp38:=by
 refine ⟨Try.f38,Try.func38,by decide +kernel,rfl,fun xs bl r h=> ?_⟩
 unfold sp38 at h
 split at h
 ·rename_i s
  obtain ⟨hpre,h2⟩:=chk_inv h;cases h2
  refine Eq.trans (b:=(sel (decide ((↑(Zx s):Int)≤39)) (Zq (chk (decide (Zx s≤9223372036854775807)) (some (Zu (Yj s [(64:UInt8)]),[]))) fun (r:AV×Blocks)=>onNilB (Zb r) (Wz (Yu r) fun b=>some (Zu b,[]))) (some (Zu false,[])):Option (AV×Blocks))) (by kernel_rfl) ?_
  simp only [A0]
  rw [chk_of hpre,decide_eq_decide.2 (show ((s.length:Int)≤39)↔s.length≤39 from by omega)]
  simp only [Vh]
  cases decide (s.length≤39)<;>rfl
 ·cases h
theorem w11:Walked Try.prog G 11 6 sp11:=by
 refine ⟨Try.f11,Try.func11,by decide +kernel,rfl,fun xs bl r h=> ?_⟩
 unfold sp11 at h
 split at h
 ·rename_i pw ps pl pc
  cases h
  refine Eq.trans (b:=(let t0:Int:=Zw .i64 (Zw .i64 (↑(Yb ps):Int)*4);let t2:Kerb.Prin:=Xd (Kerb.dataCache pc (Zw .i64 (↑(Yb pw):Int)));let t3:Kerb.Cache:=Kerb.dataCache (List.drop (Zp (↑(0:Nat):Int)) (List.take (Zp 300) pc)) (Zw .i64 (↑(Yb pw):Int));let t4:Bool:=decide (0≤Zw .i64 (↑(Yb pw):Int));let t1:Kerb.Prin:=Xd t3;Zq (chk (t4&&decide (Zw .i64 (↑(Yb pw):Int)≤4611686018427387904)) (some (Yp [Zz (Yf (Xw (Zw .i64 (↑(Yb pw):Int)))),Zz (Yg (Xw (Zw .i64 (↑(Yb pw):Int)))),Zz (Yk (Xw (Zw .i64 (↑(Yb pw):Int))))],[]))) (kA fun cs=>cStr cs fun b r=>cStr r fun b_1 r=>cStr r fun b_2 r=>let t5:Kerb.Client:=Kerb.Dec.val (Ux (Zm b b_1 b_2) (Zw .i64 (↑(Yb pw):Int)) t0 pl);onNil r (Zq (chk (l63 b&&l63 b_1&&l63 b_2) (some (Xj [Yp [Zz (Yf (Vq t5)),Zz (Yg (Vq t5)),Zz (Yk (Vq t5)),Zy .i64 (Kerb.Client.address t5),Zy .i64 (Kerb.Client.skew t5),Zu (Kerb.Client.little t5),Zz (Yf (Xd (Xb t5))),Zz (Yg (Xd (Xb t5))),Zz (Yk (Xd (Xb t5))),Zh 8 (Vz Zj (Vg (Xb t5))),Zy .i64 (Kerb.Client.wait t5),Zz (Yf (Wj t5)),Zz (Yg (Wj t5)),Zz (Yk (Wj t5)),Zy .u64 (Kerb.Client.session t5),Zy .i64 (Kerb.Client.time t5),Zy .i64 (Kerb.Client.life t5),Zy .i64 (Kerb.Client.checksum t5),Zy .i64 (Kerb.Client.tick t5)],Zy .i64 (Kerb.Dec.err (Ux (Zm b b_1 b_2) (Zw .i64 (↑(Yb pw):Int)) t0 pl))],[]))) (kT fun vs=>onCons vs fun x r=>Wx x fun cs=>cStr cs fun b r_1=>cStr r_1 fun b_3 r_2=>cStr r_2 fun b_4 r_3=>cInt .i64 r_3 fun n r_4=>cInt .i64 r_4 fun n_1 r_5=>cBool r_5 fun b_5 r_6=>cStr r_6 fun b_6 r_7=>cStr r_7 fun b_7 r_8=>cStr r_8 fun b_8 r_9=>cSl 8 r_9 fun b_9 r_10=>cInt .i64 r_10 fun n_2 r_11=>cStr r_11 fun b_10 r_12=>cStr r_12 fun b_11 r_13=>cStr r_13 fun b_12 r_14=>cInt .u64 r_14 fun n_3 r_15=>cInt .i64 r_15 fun n_4 r_16=>cInt .i64 r_16 fun n_5 r_17=>cInt .i64 r_17 fun n_6 r_18=>cInt .i64 r_18 fun n_7 r_19=>let t6:List AV:=[Zy .i64 n_2,Zz b_10,Zz b_11,Zz b_12,Zy .u64 n_3,Zy .i64 n_4,Zy .i64 n_5,Zy .i64 n_6,Zy .i64 n_7];onNil r_19 (cInt .i64 r fun n_8 r=>onNil r (sel (decide ((↑(Zx pc):Int)>300)) (chk (decide (300≤(↑(Zx pc):Int))) (Zq (chk (decide (Zx (List.drop (Zp (↑(0:Nat):Int)) (List.take (Zp 300) pc))≤1000000)&&t4&&decide (Zw .i64 (↑(Yb pw):Int)≤1000)) (some (Yp [Zz (Yf t1),Zz (Yg t1),Zz (Yk t1),Wb (Vz Zj (Vg t3))],[]))) (kA fun cs=>cStr cs fun b_13 r=>cStr r fun b_14 r=>cStr r fun b_15 r=>onCons r fun x r=>AV.onOwnL x fun l=>onNil r (some (Yp (Zz b::Zz b_3::Zz b_4::Zy .i64 n::Zy .i64 n_1::Zu b_5::Zz b_13::Zz b_14::Zz b_15::Wb l::t6),[]))))) (Zq (chk (decide (Zx pc≤1000000)&&t4&&decide (Zw .i64 (↑(Yb pw):Int)≤1000)) (some (Yp [Zz (Yf t2),Zz (Yg t2),Zz (Yk t2),Wb (Vz Zj (Vg (Kerb.dataCache pc (Zw .i64 (↑(Yb pw):Int)))))],[]))) (kA fun cs=>cStr cs fun b_13 r=>cStr r fun b_14 r=>cStr r fun b_15 r=>onCons r fun x r=>AV.onOwnL x fun l=>onNil r (some (Yp (Zz b::Zz b_3::Zz b_4::Zy .i64 n::Zy .i64 n_1::Zu b_5::Zz b_13::Zz b_14::Zz b_15::Wb l::t6),[]))))))))):Option (AV×Blocks))) (by kernel_rfl) ?_
  delta kT kA
  try dsimp only [cStr,cBs,cBool,cU8,cInt,cSl,l63]
  have w1:Zw .i64 ((pw.toNat:Nat):Int)=Uz pw:=Kerb.wrap_u8i pw
  have w2:Zw .i64 ((ps.toNat:Nat):Int)=Uz ps:=Kerb.wrap_u8i ps
  have b1:0≤Uz pw∧Uz pw≤255:=Kerb.u8i_bd pw
  have b2:0≤Uz ps∧Uz ps≤255:=Kerb.u8i_bd ps
  rw [w1,w2,wrap_i64 (by omega) (by omega)]
  have hu:=Kerb.user_len (Uz pw)
  rw [chk_of (by simp;omega)]
  simp only [A0,Zk,Zd,Zj]
  rw [chk_of (by simp;omega)]
  unfold Kerb.personClient
  have e:Zm (Xw (Uz pw)).name (Xw (Uz pw)).inst (Xw (Uz pw)).realm=Xw (Uz pw):=rfl
  rw [e]
  by_cases h:300<pc.length
  ·rw [sel_pos (by simp;omega),chk_of (by simp;omega)]
   have e2:List.drop (Zp ((0:Nat):Int)) (List.take (Zp 300) pc)=pc.take 300:=rfl
   rw [e2,chk_of (by simp;omega)]
  ·rw [sel_neg (by simp;omega),chk_of (by simp;omega),Vn (by omega)]
 ·cases h
theorem w13:Walked Try.prog G 13 6 sp13:=by
 refine ⟨Try.f13,Try.func13,by decide +kernel,rfl,fun xs bl r h=> ?_⟩
 unfold sp13 at h
 split at h
 ·rename_i m1 m2 m3 ad sk li o1 o2 o3 els wt w1 w2 w3 se tm lf cs tc
  obtain ⟨hpre,h2⟩:=chk_inv h;cases h2
  refine Eq.trans (b:=(let t0:Kerb.Client:=Kerb.Dec.val (Ux (Zm m1 m2 m3) ad sk li);Zq (chk (l63 m1&&l63 m2&&l63 m3) (some (Xj [Yp [Zz (Yf (Vq t0)),Zz (Yg (Vq t0)),Zz (Yk (Vq t0)),Zy .i64 (Kerb.Client.address t0),Zy .i64 (Kerb.Client.skew t0),Zu (Kerb.Client.little t0),Zz (Yf (Xd (Xb t0))),Zz (Yg (Xd (Xb t0))),Zz (Yk (Xd (Xb t0))),Zh 8 (Vz Zj (Vg (Xb t0))),Zy .i64 (Kerb.Client.wait t0),Zz (Yf (Wj t0)),Zz (Yg (Wj t0)),Zz (Yk (Wj t0)),Zy .u64 (Kerb.Client.session t0),Zy .i64 (Kerb.Client.time t0),Zy .i64 (Kerb.Client.life t0),Zy .i64 (Kerb.Client.checksum t0),Zy .i64 (Kerb.Client.tick t0)],Zy .i64 (Kerb.Dec.err (Ux (Zm m1 m2 m3) ad sk li))],[]))) (kT fun vs=>onCons vs fun x r=>Wx x fun cs=>cStr cs fun b r_1=>cStr r_1 fun b r_2=>cStr r_2 fun b r_3=>cInt .i64 r_3 fun n r_4=>cInt .i64 r_4 fun n r_5=>cBool r_5 fun b r_6=>cStr r_6 fun b r_7=>cStr r_7 fun b r_8=>cStr r_8 fun b r_9=>cSl 8 r_9 fun b r_10=>cInt .i64 r_10 fun n r_11=>cStr r_11 fun b r_12=>cStr r_12 fun b r_13=>cStr r_13 fun b r_14=>cInt .u64 r_14 fun n r_15=>cInt .i64 r_15 fun n r_16=>cInt .i64 r_16 fun n r_17=>cInt .i64 r_17 fun n r_18=>cInt .i64 r_18 fun n r_19=>onNil r_19 (cInt .i64 r fun n r=>onNil r (sel (!n==0) (some (Zy .i64 n,[])) (sel (decide (wt<0)) (some (Zy .i64 104,[])) (sel (decide (wt>3)) (some (Zy .i64 104,[])) (Zq (chk (l63 o1&&l63 o2&&l63 o3&&List.all els Vf&&decide (Zx els≤1000000)) (some (Zy .i64 (Kerb.Cache.err (Ug (Zm o1 o2 o3) (Vz Xf els))),[]))) (kI .i64 fun n=>sel (!n==0) (some (Zy .i64 n,[])) (sel (!(o1==m1&&(o2==m2&&o3==m3))) (some (Zy .i64 103,[])) (some (Zy .i64 0,[])))))))))):Option (AV×Blocks))) (by kernel_rfl) ?_
  delta kT kI
  try dsimp only [cStr,cBs,cBool,cU8,cInt,cSl,l63]
  simp only [Zg,decide_eq_true_eq] at hpre
  have c1:(decide (m1.length≤9223372036854775807)&&decide (m2.length≤9223372036854775807)&&decide (m3.length≤9223372036854775807))=true:=by simp;omega
  have c2:(decide (o1.length≤9223372036854775807)&&decide (o2.length≤9223372036854775807)&&decide (o3.length≤9223372036854775807)&&els.all Vf&&decide (els.length≤1000000))=true:=by simp only [Zg,decide_eq_true_eq];exact ⟨⟨⟨⟨by omega,by omega⟩,by omega⟩,hpre.1.2⟩,hpre.2⟩
  simp only [A0,Zk,Zd,Zj,c1,c2]
  unfold Kerb.Client.err Ux
  simp only
  cases Yx ⟨m1,m2,m3⟩
  ·rfl
  cases Zn ad 4294967295
  ·rfl
  cases Zn sk 4294967295
  ·rfl
  simp only [Yw,sel_false,Uh,Bool.false_eq_true,if_false]
  by_cases h1:0≤wt
  case neg=>rw [sel_neg (by simp),sel_pos (by simp;omega),if_pos (by simp;omega)]
  by_cases h2:wt≤3
  case neg=>rw [sel_neg (by simp),sel_neg (by simp;omega),sel_pos (by simp;omega),if_pos (by simp;omega)]
  rw [sel_neg (by simp),sel_neg (by simp;omega),sel_neg (by simp;omega),if_neg (by simp;omega)]
  by_cases h3:Kerb.Cache.err ⟨⟨o1,o2,o3⟩,els.map Xf⟩=0
  case neg=>rw [sel_pos (by simpa using h3),if_pos h3]
  rw [sel_neg (by simpa using h3),if_neg (by simpa using h3)]
  show sel (!(Xh ⟨o1,o2,o3⟩ ⟨m1,m2,m3⟩)) _ _=_
  cases Xh ⟨o1,o2,o3⟩ ⟨m1,m2,m3⟩<;>rfl
 ·cases h
theorem w39:Walked Try.prog G 39 6 sp39:=by
 refine ⟨Try.f39,Try.func39,by decide +kernel,rfl,fun xs bl r h=> ?_⟩
 unfold sp39 at h
 split at h
 ·rename_i s
  obtain ⟨hpre,h2⟩:=chk_inv h;cases h2
  refine Eq.trans (b:=(sel (!s==[]) (Zq (chk (decide (Zx s≤9223372036854775807)) (some (Zu (Vh s),[]))) fun (r:AV×Blocks)=>onNilB (Zb r) (Wz (Yu r) fun b=>some (Zu b,[]))) (some (Zu false,[])):Option (AV×Blocks))) (by kernel_rfl) ?_
  simp only [A0]
  rw [chk_of hpre]
  simp only [Vp]
  cases s<;>rfl
 ·cases h
theorem w19:Walked Try.prog G 19 7 sp19:=by
 refine ⟨Try.f19,Try.func19,by decide +kernel,rfl,fun xs bl r h=> ?_⟩
 unfold sp19 at h
 split at h
 ·rename_i a b c
  obtain ⟨hpre,h2⟩:=chk_inv h;cases h2
  refine Eq.trans (b:=(Zq (chk (decide (Zx a≤9223372036854775807)) (some (Zu (Vm a),[]))) fun (r:AV×Blocks)=>onNilB (Zb r) (Wz (Yu r) fun b_1=>sel b_1 (Zq (chk (decide (Zx b≤9223372036854775807)) (some (Zu (Vh b),[]))) fun (r:AV×Blocks)=>onNilB (Zb r) (Wz (Yu r) fun b=>sel b (Zq (chk (decide (Zx c≤9223372036854775807)) (some (Zu (Vp c),[]))) fun (r:AV×Blocks)=>onNilB (Zb r) (Wz (Yu r) fun b=>some (Zu b,[]))) (some (Zu false,[])))) (some (Zu false,[]))):Option (AV×Blocks))) (by kernel_rfl) ?_
  simp only [Zg,decide_eq_true_eq] at hpre
  simp only [A0]
  rw [chk_of (by simp;omega),chk_of (by simp;omega),chk_of (by simp;omega)]
  simp only [Yx]
  cases Vm a<;>cases Vh b<;>rfl
 ·cases h
theorem w60:Walked Try.prog G 60 7 sp60:=by
 refine ⟨Try.f60,Try.func60,by decide +kernel,rfl,fun xs bl r h=> ?_⟩
 unfold sp60 at h
 split at h
 ·rename_i li mu kv rl tk au
  obtain ⟨hpre,h2⟩:=chk_inv h;cases h2
  refine Eq.trans (b:=(Zq (chk (l63 rl) (some (Zu (Vp rl),[]))) (kL fun b=>sel (!b) (some (Xj [Zf [],Zy .i64 103],[])) (sel (!Zn kv 255) (some (Xj [Zf [],Zy .i64 104],[])) (sel (decide ((↑(Zx tk):Int)>255)) (some (Xj [Zf [],Zy .i64 105],[])) (sel (decide ((↑(Zx au):Int)>255)) (some (Xj [Zf [],Zy .i64 105],[])) (sel mu (Zq (chk (decide (Zx (Um 4 li)≤70368744177664)) (some (Xv (Um 4 li++Wv kv 1 false),[]))) (kO fun l=>Zq (chk (decide (Zx l+Zx rl≤70368744177664)) (some (Zf (Vw l rl),[]))) (kB fun b=>Zq (chk (decide (Zx b≤70368744177664)) (some (Xv (b++Wv (↑(Zx tk):Int) 1 false),[]))) (kO fun l=>Zq (chk (decide (Zx l≤70368744177664)) (some (Xv (l++Wv (↑(Zx au):Int) 1 false),[]))) (kO fun l=>Zq (chk (decide (Zx (Yv l (Yv tk (Yv au [])))≤140737488355328)&&decide (Zx [Zf l,Zf tk,Zf au]≤1000)) (some (Xv (Yv l (Yv tk (Yv au []))),[]))) (kO fun l=>some (Xj [Zf l,Zy .i64 0],[]))))))) (Zq (chk (decide (Zx (Um 3 li)≤70368744177664)) (some (Xv (Um 3 li++Wv kv 1 false),[]))) (kO fun l=>Zq (chk (decide (Zx l+Zx rl≤70368744177664)) (some (Zf (Vw l rl),[]))) (kB fun b=>Zq (chk (decide (Zx b≤70368744177664)) (some (Xv (b++Wv (↑(Zx tk):Int) 1 false),[]))) (kO fun l=>Zq (chk (decide (Zx l≤70368744177664)) (some (Xv (l++Wv (↑(Zx au):Int) 1 false),[]))) (kO fun l=>Zq (chk (decide (Zx (Yv l (Yv tk (Yv au [])))≤140737488355328)&&decide (Zx [Zf l,Zf tk,Zf au]≤1000)) (some (Xv (Yv l (Yv tk (Yv au []))),[]))) (kO fun l=>some (Xj [Zf l,Zy .i64 0],[])))))))))))):Option (AV×Blocks))) (by kernel_rfl) ?_
  delta kB kO kL
  try dsimp only [cStr,cBs,cBool,cU8,cInt,cSl,l63]
  simp only [A0,Zk,Zd,Zj,hpre]
  unfold Kerb.encodeAp
  simp only
  cases h1:Vp rl
  ·rfl
  rw [Yw,sel_false,if_neg (by simp)]
  cases h2:Zn kv 255
  ·rfl
  rw [Yw,sel_false,if_neg (by simp)]
  by_cases h3:255<tk.length
  ·rw [sel_pos (by simp;omega),if_pos (.inl h3)]
  rw [sel_neg (by simp;omega)]
  by_cases h4:255<au.length
  ·rw [sel_pos (by simp;omega),if_pos (.inr h4)]
  rw [sel_neg (by simp;omega),if_neg (by omega)]
  have l1:=Kerb.validRealm_len h1
  have g3:=Kerb.header_len 3 li
  have g4:=Kerb.header_len 4 li
  cases mu
  ·rw [sel_false,chk_of (by simp;omega),chk_of (by simp [Wn];omega),chk_of (by simp [Wn,Vx];omega),chk_of (by simp [Wn,Vx];omega),chk_of (by simp [Wn,Vx];omega)]
   simp
  ·rw [sel_true,chk_of (by simp;omega),chk_of (by simp [Wn];omega),chk_of (by simp [Wn,Vx];omega),chk_of (by simp [Wn,Vx];omega),chk_of (by simp [Wn,Vx];omega)]
   simp
 ·cases h
theorem w21:Walked Try.prog G 21 8 sp21:=by
 refine ⟨Try.f21,Try.func21,by decide +kernel,rfl,fun xs bl r h=> ?_⟩
 unfold sp21 at h
 split at h
 ·rename_i x y z
  obtain ⟨hpre,h2⟩:=chk_inv h;cases h2
  refine Eq.trans (b:=(Zq (chk (decide (Zx x≤9223372036854775807)&&decide (Zx y≤9223372036854775807)&&decide (Zx z≤9223372036854775807)) (some (Zu (Yx (Zm x y z)),[]))) fun (r:AV×Blocks)=>onNilB (Zb r) (Wz (Yu r) fun b=>sel (!b) (some (Xj [Yp [Zz [],Zz [],Zz [],Zh 8 []],Zy .i64 103],[])) (some (Xj [Yp [Zz x,Zz y,Zz z,Zh 8 []],Zy .i64 0],[]))):Option (AV×Blocks))) (by kernel_rfl) ?_
  simp only [A0,Zk,Zd,Zj,hpre]
  cases Yx ⟨x,y,z⟩<;>rfl
 ·cases h
theorem w28:Walked Try.prog G 28 8 sp28:=by
 refine ⟨Try.f28,Try.func28,by decide +kernel,rfl,fun xs bl r h=> ?_⟩
 unfold sp28 at h
 split at h
 ·rename_i o1 o2 o3 els
  obtain ⟨hpre,h2⟩:=chk_inv h;cases h2
  refine Eq.trans (b:=(Zq (chk (l63 o1&&l63 o2&&l63 o3) (some (Zu (Yx (Zm o1 o2 o3)),[]))) (kL fun b=>sel (!b) (some (Zy .i64 103,[])) (sel (decide ((↑(Zx els):Int)>20)) (some (Zy .i64 106,[])) (Zq (loopM (fun (st:List AV)=>cStr st fun b r=>cStr r fun b_1 r=>cStr r fun b_2 r=>cSl 8 r fun b_3 r=>cInt .i64 r fun n r=>cSl 8 r fun b_4 r=>cInt .i64 r fun n_1 r=>cInt .i64 r fun n_2 r=>let t1:List AV:=[Zh 8 b_4,Zy .i64 n_1,Zy .i64 n_2];let t0:Option (List AV ⊕ Ex×List AV):=some (Xy (Vk,Zz b::Zz b_1::Zz b_2::Zh 8 b_3::Zy .i64 104::t1));onNil r (sel (decide (n_2<n_1)) (chk (decide (0≤n_2)&&decide (n_2<(↑(Zx b_4):Int))&&true) (Wx (Xq b_4 (Zp n_2) Wm) fun cs=>cStr cs fun b_5 r=>cStr r fun b_6 r=>cStr r fun b_7 r=>cInt .u64 r fun n_3 r=>cInt .i64 r fun n_4 r=>cInt .i64 r fun n_5 r=>cInt .i64 r fun n_6 r=>cBs r fun b_8 r=>onNil r (Zq (chk (l63 b_5&&l63 b_6&&l63 b_7) (some (Zu (Yx (Zm b_5 b_6 b_7)),[]))) (kL fun b_9=>sel (!b_9) (some (Xy (Vk,Zz b::Zz b_1::Zz b_2::Zh 8 b_3::Zy .i64 103::t1))) (Zq (chk (decide (0≤n_3)&&decide (n_3<18446744073709551616)) (some (Zu (Xn n_3),[]))) (kL fun b_10=>sel (!b_10) (some (Xy (Vk,Zz b::Zz b_1::Zz b_2::Zh 8 b_3::Zy .i64 10::t1))) (sel (!Zn n_4 255) t0 (sel (!Zn n_5 255) t0 (sel (!Zn n_6 4294967295) t0 (sel (decide ((↑(Zx b_8):Int)>255)) (some (Xy (Vk,Zz b::Zz b_1::Zz b_2::Zh 8 b_3::Zy .i64 105::t1))) (Zq (chk (List.all b_3 Vf&&decide (Zx b_3≤1000000)) (some (Zy .i64 (↑(Yn (Vz Xf b_3) (Zm b_5 b_6 b_7)):Int),[]))) (kI .i64 fun n_7=>sel (decide (n_7<n_2)) (some (Xy (Vk,Zz b::Zz b_1::Zz b_2::Zh 8 b_3::Zy .i64 107::t1))) (some (Wk [Zz b,Zz b_1,Zz b_2,Zh 8 b_3,Zy .i64 n,Zh 8 b_4,Zy .i64 n_1,Zy .i64 (Zw .i64 (n_2+1))])))))))))))))) (some (Xy (Xg 0,Zz b::Zz b_1::Zz b_2::Zh 8 b_3::Zy .i64 n::t1))))) [Zz o1,Zz o2,Zz o3,Zh 8 els,Zy .i64 0,Zh 8 els,Zy .i64 (↑(Zx els):Int),Zy .i64 0]) fun (r:Ex×List AV)=>cStr (Zb r) fun b r_1=>cStr r_1 fun b r_2=>cStr r_2 fun b r_3=>cSl 8 r_3 fun b r_4=>cInt .i64 r_4 fun n r_5=>cSl 8 r_5 fun b r_6=>cInt .i64 r_6 fun n_1 r_7=>cInt .i64 r_7 fun n_2 r_8=>onNil r_8 (exK r.1 (some (Zy .i64 n,[])) fun (j:Nat)=>sel (Wp j 0) (some (Zy .i64 0,[])) none)))):Option (AV×Blocks))) (by kernel_rfl) ?_
  delta kL kI
  try dsimp only [cStr,cBs,cBool,cU8,cInt,cSl,l63]
  have hpre':=hpre
  simp only [Zg,decide_eq_true_eq] at hpre
  obtain ⟨⟨⟨⟨q1,q2⟩,q3⟩,hall⟩,hlen⟩:=hpre
  simp only [A0,Zk,Zd,Zj]
  rw [chk_of (by simp;omega)]
  obtain ⟨cs,rfl,hok⟩:=Vj hall
  unfold Kerb.Cache.err
  simp only [Wu]
  cases h0:Yx ⟨o1,o2,o3⟩
  ·rfl
  rw [Yw,sel_false,if_neg (by simp)]
  by_cases h20:20<cs.length
  ·rw [sel_pos (by simp;omega),if_pos h20]
  rw [sel_neg (by simp;omega),if_neg h20]
  refine loop_rounds (fun i:Nat=>[Zz o1,Zz o2,Zz o3,Zh 8 (cs.map Zj),Zy Zv 0,Zh 8 (cs.map Zj),Zy Zv (cs.length:Int),Zy Zv (i:Int)]) (fun i=>i≤cs.length∧Wy [] cs=Wy (cs.take i) (cs.drop i)) (fun i=>cs.length-i)
   (fun r=>∃ (i:Nat) (n:Int),r.2=[Zz o1,Zz o2,Zz o3,Zh 8 (cs.map Zj),Zy Zv n,Zh 8 (cs.map Zj),Zy Zv (cs.length:Int),Zy Zv (i:Int)]∧((r.1 = .ret∧n=Wy [] cs)∨(r.1 = .exit 0∧Wy [] cs=0))) 0 ⟨Wq _,by simp⟩ (by simp) ?_ ?_
  ·rintro i ⟨hi,hp⟩
   simp only [A0,Zk,Zd,Zj]
   by_cases hlt:i<cs.length
   ·rw [sel_pos (by simp;omega),chk_of (by simp;omega),Yq,Vv hlt]
    obtain ⟨c,hcc⟩:∃ c,cs.getD i Wf=c:=⟨_,rfl⟩
    have hst:=Kerb.credsErr_step hlt hcc hp
    have hcok:c.ok:=hok c (by rw [← hcc];simp [List.getD_eq_getElem?_getD,hlt])
    rw [hcc]
    obtain ⟨⟨s1,s2,s3⟩,k,lf,kv,iss,tk⟩:=c
    obtain ⟨u1,u2,u3,u4,u5,u6⟩:=hcok
    simp only at u1 u2 u3 u4 u5 u6
    simp only [Zj,A0,Zk,Zd,Zj]
    have k1:∀ code:Int,code≠0→Yh ⟨⟨s1,s2,s3⟩,k,lf,kv,iss,tk⟩=code→code=Wy [] cs:=fun code h0 he=>by
     rw [hst,he,if_pos h0]
    rw [chk_of (by simp;omega)]
    cases h1:Yx ⟨s1,s2,s3⟩
    ·exact ⟨_,rfl,i,_,rfl,.inl ⟨rfl,k1 103 (by decide) (by simp [Yh,h1])⟩⟩
    rw [Yw,sel_false,chk_of (by simp;omega)]
    cases h2:Xn k
    ·exact ⟨_,rfl,i,_,rfl,.inl ⟨rfl,k1 10 (by decide) (by simp [Yh,h1,h2])⟩⟩
    rw [Yw,sel_false]
    cases h3:Zn lf 255
    ·exact ⟨_,rfl,i,_,rfl,.inl ⟨rfl,k1 104 (by decide) (by simp [Yh,h1,h2,h3])⟩⟩
    rw [Yw,sel_false]
    cases h4:Zn kv 255
    ·exact ⟨_,rfl,i,_,rfl,.inl ⟨rfl,k1 104 (by decide) (by simp [Yh,h1,h2,h3,h4])⟩⟩
    rw [Yw,sel_false]
    cases h5:Zn iss 4294967295
    ·exact ⟨_,rfl,i,_,rfl,.inl ⟨rfl,k1 104 (by decide) (by simp [Yh,h1,h2,h3,h4,h5])⟩⟩
    rw [Yw,sel_false]
    by_cases h6:255<tk.length
    ·rw [sel_pos (by simp;omega)]
     exact ⟨_,rfl,i,_,rfl,.inl ⟨rfl,k1 105 (by decide) (by simp [Yh,h1,h2,h3,h4,h5,h6])⟩⟩
    have hz:Yh ⟨⟨s1,s2,s3⟩,k,lf,kv,iss,tk⟩=0:=by simp [Yh,h1,h2,h3,h4,h5];omega
    rw [hz,if_neg (by simp)] at hst
    rw [sel_neg (by simp;omega)]
    rw [chk_of (by rw [Kerb.all_creds hok];simp;omega),Wu]
    have hq:=Kerb.credAt_lt cs ⟨s1,s2,s3⟩ i hi
    have e:decide (((Yn cs ⟨s1,s2,s3⟩:Nat):Int)<(i:Int))=decide (Yn cs ⟨s1,s2,s3⟩<i):=decide_eq_decide.2 (by omega)
    rw [e,hq]
    cases hd:(cs.take i).any (fun d=>d.service.eqb ⟨s1,s2,s3⟩)
    ·rw [hd,if_neg (by simp)] at hst
     rw [sel_false,wrap_i64 (by omega) (by omega)]
     exact ⟨_,rfl,i+1,rfl,⟨by omega,hst⟩,by dsimp only;omega⟩
    ·rw [hd,if_pos rfl] at hst
     rw [sel_true]
     exact ⟨_,rfl,i,_,rfl,.inl ⟨rfl,hst.symm⟩⟩
   ·rw [sel_neg (by simp;omega)]
    refine ⟨_,rfl,i,_,rfl,.inr ⟨rfl,?_⟩⟩
    rw [hp,Xz (by omega)]
    rfl
  ·rintro ⟨e,l⟩ ⟨i,n,rfl,⟨rfl,h⟩ | ⟨rfl,h⟩⟩
   ·simp only [A0,Zk,Zd,Zj,h]
   ·simp only [A0,Zk,Zd,Zj,h]
    rw [sel_pos (Yd _)]
 ·cases h
end Go.Proofs.Ytmipfdjcnkljnaa
