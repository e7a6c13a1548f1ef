/- What the functions of this seat compute. -/
import Derived.Test.YtaikjfcgemjghaaGreatTab
import Derived.Test.YtaikjfcgemjghaaGreatKerbPlain
import Derived.Test.YtaikjfcgemjghaaGreatAbsStep
import Derived.Test.YtaikjfcgemjghaaGreatKerbKaPlain
import Derived.Test.YtaikjfcgemjghaaGreatKerbKaRef
import Derived.Test.YtaikjfcgemjghaaGreatKerbCli3
import Derived.Test.YtaikjfcgemjghaaGreatKerbCli4
import Derived.Test.YtaikjfcgemjghaaGreatKerbCli5
import Derived.Test.YtaikjfcgemjghaaGreatKerbSrvL
import Derived.Test.YtaikjfcgemjghaaGreatKerbKac2
open Go.Abs.AV renaming int→Zz,str→Zy,u8→Zv,bs→Zp,tup→Zb,bool→Zm,ownB→Yx,agg→Xy,onInt→Xb,sl→Wn,onAgg→Wm,undef→Uk,onOwnB→Um
open List renaming length→Zx,append→Yj,map→Xf,length_map→Wu,getD→Vm
open Option renaming bind→Zw
open Kerb renaming keyBytes_len→Zu,putPrin_len→Zq,putN_len→Zj,u8i→Zf,within→Zg,encodeKaRequest→Yv,pGet→Yq,putN→Yb,putText→Yh,encodeKaSecret→Xz,pBytes→Xq,toEntry→Xk,prin→Xd,user→Xn,decodeKaSecret→Xm,long→Wy,validInst→Wx,validRealm→Wq,u8i_bd→Wk,encodeKaAnswer→Wf,validName→Wg,text→Wb,keyValid→Vy,getD_ent→Vx,encodeTicket→Vw,noPrin→Vq,get→Vj,putTick→Vk,putPrin→Vp,makeBox→Vd,pText→Vg,encodeKaReply→Vb,session→Vh,isEntry→Uz,findCross→Uy,map_toEntry→Uv,krbtgt→Uq,serviceEnt→Uj,readBox→Ud,noEntry→Uf,readKaReq→Ug,decBy_fin→Ub,ticketed→Uh
open Go.IntKind renaming i64→Zk,wrap→Zd,u64→Xh,u16→Vu
open Bool renaming not_true→Zn,and_eq_true→Yz,and_self→Yg,not_false→Xg
open UInt8 renaming toNat→Zh,ofNat→Wz
open Kerb.Prin renaming mk→Yy,valid→Xw,realm→Ww,name→Wp,inst→Wd
open Prod renaming snd→Yw,fst→Yk
open Kerb.KAsk renaming mk→Yu
open Int renaming tmod_eq_emod_of_nonneg→Yp,tmod→Yd,toNat→Ym
open Kerb.Entry renaming av→Yf,mk→Wv
open Kerb.Enc renaming err→Yn,val→Xj
open Kerb.Rd renaming val→Xx,pos→Xv,bad→Xu
open Kerb.KaRequest renaming mk→Xp
open Kerb.Db renaming mk→Wj,err→Vv,entries→Uu,realm→Un
open Nat renaming le_trans→Wh
open Kerb.KaSecret renaming mk→Vz
open Kerb.Ticket renaming mk→Vf
open Kerb.Dec renaming val→Vn
open Kerb.KaReply renaming mk→Ux
open Kerb.GotP renaming val→Uw
open Kerb.KaAnswer renaming mk→Up
namespace Go.Proofs.YtaikjfcgemjghaaGreat
open Go Go.Abs Go.Proofs
set_option linter.unusedVariables false
set_option linter.unusedSimpArgs false
set_option maxRecDepth 100000
theorem w122:Walked Tryz.prog G 122 6 sp122:=by
 refine ⟨Tryz.f122,Tryz.func122,by decide +kernel,rfl,fun xs bl r h=> ?_⟩
 unfold sp122 at h
 split at h
 ·rename_i b kd k
  obtain ⟨hpre,h2⟩:=chk_inv h;cases h2
  refine Eq.trans (b:=(Zw (chk (decide (Zx b≤140737488355328)) (some (Zb [Xy [Zz .i64 (Kerb.Box.kind (Kerb.GotBox.box (Ud b))),Zz .u64 (Kerb.Box.key (Kerb.GotBox.box (Ud b))),Zp (Kerb.Box.body (Kerb.GotBox.box (Ud b)))],Zz .i64 (Kerb.GotBox.n (Ud b)),Zz .i64 (Kerb.GotBox.err (Ud b))],[]))) fun (r:AV×Blocks)=>onNilB (Yw r) (AV.onTup (Yk r) fun vs=>onCons vs fun x r=>Wm x fun cs=>onCons cs fun x r_1=>Xb .i64 x fun n=>onCons r_1 fun x r_2=>Xb .u64 x fun n_1=>onCons r_2 fun x r_3=>AV.onBs x fun b_1=>onNil r_3 (onCons r fun x r=>Xb .i64 x fun n_2=>onCons r fun x r=>Xb .i64 x fun n_3=>onNil r (sel (!n_3==0) (some (Zb [Zp [],Zm false],[])) (sel (!n_2==(↑(Zx b):Int)) (some (Zb [Zp [],Zm false],[])) (sel (!n==kd) (some (Zb [Zp [],Zm false],[])) (sel (!n_1==k) (some (Zb [Zp [],Zm false],[])) (some (Zb [Zp b_1,Zm true],[])))))))):Option (AV×Blocks))) (by kernel_rfl) ?_
  simp only [↓A0,hpre]
  unfold Kerb.openBox
  generalize Ud b=r
  by_cases h1:r.err=0
  case neg=>rw [sel_pos (by simpa using h1),if_pos (.inl h1)]
  rw [sel_neg (by simpa using h1)]
  by_cases h2:r.n=b.length
  case neg=>rw [sel_pos (by simpa using h2),if_pos (.inr (.inl h2))]
  rw [sel_neg (by simpa using h2)]
  by_cases h3:r.box.kind=kd
  case neg=>rw [sel_pos (by simpa using h3),if_pos (.inr (.inr (.inl h3)))]
  rw [sel_neg (by simpa using h3)]
  by_cases h4:r.box.key=k
  case neg=>rw [sel_pos (by simpa using h4),if_pos (.inr (.inr (.inr h4)))]
  rw [sel_neg (by simpa using h4),if_neg (by simp [h1,h2,h3,h4])]
 ·cases h
theorem w128:Walked Tryz.prog G 128 6 sp128:=by
 refine ⟨Tryz.f128,Tryz.func128,by decide +kernel,rfl,fun xs bl r h=> ?_⟩
 unfold sp128 at h
 split at h
 ·rename_i s
  obtain ⟨hpre,h2⟩:=chk_inv h;cases h2
  refine Eq.trans (b:=(sel (!s==[]) (Zw (chk (decide (Zx s≤9223372036854775807)) (some (Zm (Wx s),[]))) fun (r:AV×Blocks)=>onNilB (Yw r) (AV.onBool (Yk r) fun b=>some (Zm b,[]))) (some (Zm false,[])):Option (AV×Blocks))) (by kernel_rfl) ?_
  simp only [A0]
  rw [chk_of hpre]
  simp only [Wq]
  cases s<;>rfl
 ·cases h
theorem w220:Walked Tryz.prog G 220 6 sp220:=by
 refine ⟨Tryz.f220,Tryz.func220,by decide +kernel,rfl,fun xs bl r h=> ?_⟩
 unfold sp220 at h
 split at h
 ·rename_i b
  obtain ⟨hpre,h2⟩:=chk_inv h;cases h2
  refine Eq.trans (b:=(let t0:Option (AV×Blocks):=some (Zb [Xy [Zy [],Zz .i64 0,Zz .i64 0,Zz .i64 0,Zz .u64 0],Zz .i64 100],[]);Zw (chk (decide (Zx b≤140737488355328)) (some (Zp (Xx (Xq b 4 0 false)),[[Zp b,Zz .i64 (Xv (Xq b 4 0 false)),Zm (Xu (Xq b 4 0 false))]]))) fun (r:AV×Blocks)=>onConsB (Yw r) fun (x:List AV) (r_1:List (List AV))=>cBs x fun b_1 r_2=>cInt .i64 r_2 fun n r_3=>cBool r_3 fun b_2 r_4=>onNil r_4 (onNilB r_1 (AV.onBs (Yk r) fun b_3=>Zw (chk (decide (Zx b_1≤140737488355328)) (some (Zz .i64 (Xx (Yq b_1 4 n b_2)),[[Zp b_1,Zz .i64 (Xv (Yq b_1 4 n b_2)),Zm (Xu (Yq b_1 4 n b_2))]]))) fun (r:AV×Blocks)=>onConsB (Yw r) fun (x:List AV) (r_5:List (List AV))=>cBs x fun b_4 r_6=>cInt .i64 r_6 fun n r_7=>cBool r_7 fun b_5 r_8=>onNil r_8 (onNilB r_5 (Xb .i64 (Yk r) fun n_1=>sel (Kerb.timed b_3) (Zw (chk (decide (Zx b_4≤140737488355328)) (some (Zz .i64 (Xx (Yq b_4 4 n b_5)),[[Zp b_4,Zz .i64 (Xv (Yq b_4 4 n b_5)),Zm (Xu (Yq b_4 4 n b_5))]]))) fun (r:AV×Blocks)=>onConsB (Yw r) fun (x:List AV) (r_9:List (List AV))=>cBs x fun b_6 r_10=>cInt .i64 r_10 fun n r_11=>cBool r_11 fun b_7 r_12=>onNil r_12 (onNilB r_9 (Xb .i64 (Yk r) fun n_2=>Zw (chk (decide (Zx b_6≤140737488355328)) (some (Zz .i64 (Xx (Yq b_6 4 n b_7)),[[Zp b_6,Zz .i64 (Xv (Yq b_6 4 n b_7)),Zm (Xu (Yq b_6 4 n b_7))]]))) fun (r:AV×Blocks)=>onConsB (Yw r) fun (x:List AV) (r_13:List (List AV))=>cBs x fun b_8 r_14=>cInt .i64 r_14 fun n r_15=>cBool r_15 fun b_9 r_16=>onNil r_16 (onNilB r_13 (Xb .i64 (Yk r) fun n=>sel b_9 t0 (sel (!Yn (Xz (Vz b_3 n_1 n_2 n 0))==0) t0 (sel (!Xj (Xz (Vz b_3 n_1 n_2 n 0))==b) t0 (some (Zb [Xy [Zy b_3,Zz .i64 n_1,Zz .i64 n_2,Zz .i64 n,Zz .u64 0],Zz .i64 0],[]))))))))) (Zw (chk (decide (Zx b_4≤140737488355328)) (some (Zz .u64 (Xx (Kerb.pKey b_4 n b_5)),[[Zp b_4,Zz .i64 (Xv (Kerb.pKey b_4 n b_5)),Zm (Xu (Kerb.pKey b_4 n b_5))]]))) fun (r:AV×Blocks)=>onConsB (Yw r) fun (x:List AV) (r_9:List (List AV))=>cBs x fun b_6 r_10=>cInt .i64 r_10 fun n r_11=>cBool r_11 fun b_7 r_12=>onNil r_12 (onNilB r_9 (Xb .u64 (Yk r) fun n=>sel b_7 t0 (Zw (chk (decide (0≤n)&&decide (n<18446744073709551616)) (some (Zb [Zp (Xj (Xz (Vz b_3 n_1 0 0 n))),Zz .i64 (Yn (Xz (Vz b_3 n_1 0 0 n)))],[]))) (kT fun vs=>cBs vs fun b_8 r=>cInt .i64 r fun n_2 r=>onNil r (sel (!n_2==0) t0 (sel (!b_8==b) t0 (some (Zb [Xy [Zy b_3,Zz .i64 n_1,Zz .i64 0,Zz .i64 0,Zz .u64 n],Zz .i64 0],[]))))))))))))):Option (AV×Blocks))) (by kernel_rfl) ?_
  delta kT
  try dsimp only [cStr,cBs,cBool,cU8,cInt,cSl,l63]
  have hb:=of_decide_eq_true hpre
  simp only [A0,hpre]
  cases ht:Kerb.timed (Xq b 4 0 false).val
  ·have hk:=Kerb.pKey_bd b (Yq b 4 (Xq b 4 0 false).pos (Xq b 4 0 false).bad).pos (Yq b 4 (Xq b 4 0 false).pos (Xq b 4 0 false).bad).bad
   rw [sel_false,chk_of (by simp;omega)]
   exact Ub (no:=Kerb.noKaSecret) (enc:=Xz) (rd:=Kerb.readKaSec) _ _ (by unfold Kerb.readKaSec Kerb.pSec;dsimp only;rw [ht];rfl) (fun x e=>(Zb [Xy [Zy (x).label,Zz Zk (x).time,Zz Zk (x).start,Zz Zk (x).stop,Zz Xh (x).new],Zz Zk e],([]:Blocks)))
  ·rw [sel_true]
   exact Ub (no:=Kerb.noKaSecret) (enc:=Xz) (rd:=Kerb.readKaSec) _ _ (by unfold Kerb.readKaSec Kerb.pSec;dsimp only;rw [ht];rfl) (fun x e=>(Zb [Xy [Zy (x).label,Zz Zk (x).time,Zz Zk (x).start,Zz Zk (x).stop,Zz Xh (x).new],Zz Zk e],([]:Blocks)))
 ·cases h
theorem w229:Walked Tryz.prog G 229 6 sp229:=by
 refine ⟨Tryz.f229,Tryz.func229,by decide +kernel,rfl,fun xs bl r h=> ?_⟩
 unfold sp229 at h
 split at h
 ·rename_i en ei ek ev ex em ea ef et
  obtain ⟨hpre,h2⟩:=chk_inv h;cases h2
  refine Eq.trans (b:=(let t0:Option (AV×Blocks):=sel (!Zg ev 255) (some (Zz .i64 104,[])) (sel (!Zg ex 4294967295) (some (Zz .i64 104,[])) (sel (!Zg et 4294967295) (some (Zz .i64 104,[])) (sel (!Zg em 255) (some (Zz .i64 104,[])) (sel (!Zg ea 3) (some (Zz .i64 104,[])) (sel (!Zg ef 20) (some (Zz .i64 104,[])) (some (Zz .i64 0,[])))))));Zw (chk (l63 en) (some (Zm (Wg en),[]))) (kL fun b=>sel (!b) (some (Zz .i64 103,[])) (Zw (chk (l63 ei) (some (Zm (Wx ei),[]))) (kL fun b=>sel (!b) (some (Zz .i64 103,[])) (sel (!ek==0) (Zw (chk (decide (0≤ek)&&decide (ek<18446744073709551616)) (some (Zm (Vy ek),[]))) (kL fun b=>sel (!b) (some (Zz .i64 10,[])) t0)) t0)))):Option (AV×Blocks))) (by kernel_rfl) ?_
  delta kL
  try dsimp only [cStr,cBs,cBool,cU8,cInt,cSl,l63]
  simp only [Yz,decide_eq_true_eq] at hpre
  obtain ⟨⟨h1,h2⟩,h3⟩:=hpre
  have h4:(decide (0≤ek)&&decide (ek<18446744073709551616))=true:=h3
  simp only [h1,h2,h4,decide_true,↓A0,A0]
  unfold Kerb.Entry.err
  dsimp only
  cases Wg en
  ·rfl
  cases Wx ei
  ·rfl
  simp only [Zn,Xg,sel_true,sel_false]
  rw [if_neg (by simp)]
  by_cases hk:ek=0
  ·rw [sel_neg (by simp [hk]),if_neg (by simp [hk])]
   cases Zg ev 255<;>cases Zg ex 4294967295<;>cases Zg et 4294967295<;>cases Zg em 255<;>cases Zg ea 3<;>cases Zg ef 20<;>rfl
  rw [sel_pos (by simpa using hk)]
  cases hv:Vy ek
  ·rw [if_pos ⟨hk,rfl⟩];rfl
  simp only [Zn,Xg,sel_true,sel_false]
  rw [if_neg (by simp)]
  cases Zg ev 255<;>cases Zg ex 4294967295<;>cases Zg et 4294967295<;>cases Zg em 255<;>cases Zg ea 3<;>cases Zg ef 20<;>rfl
 ·cases h
set_option maxHeartbeats 4000000 in
theorem w24:Walked Tryz.prog G 24 7 sp24:=by
 refine ⟨Tryz.f24,Tryz.func24,by decide +kernel,rfl,fun xs bl r h=> ?_⟩
 unfold sp24 at h
 split at h
 ·rename_i o u s e n t p i l a w d hw
  obtain ⟨hpre,h2⟩:=chk_inv h;cases h2
  refine Eq.trans (b:=(let t0:Int:=Zd .i64 (Zd .i64 (1+Yd (Zd .i64 (↑(Zh o):Int)) 3)-1);let t1:AV:=Zy [(107:UInt8),(114:UInt8),(98:UInt8),(116:UInt8),(103:UInt8),(116:UInt8)];let t4:AV:=Zy [(65:UInt8),(84:UInt8),(72:UInt8)];let t5:List AV:=[Zy [(103:UInt8),(84:UInt8),(71:UInt8),(83:UInt8)],Zy [(103:UInt8),(84:UInt8),(75:UInt8),(84:UInt8)],Zy [(67:UInt8),(80:UInt8),(87:UInt8),(108:UInt8)]];let t6:List AV:=[Zy [(103:UInt8),(84:UInt8),(75:UInt8),(84:UInt8)],Zy [(67:UInt8),(80:UInt8),(87:UInt8),(108:UInt8)],Zy [(103:UInt8),(84:UInt8),(71:UInt8),(83:UInt8)]];let t8:AV:=Zz .i64 (Zd .i64 (1000+Zd .i64 (↑(Zh t):Int)));let t9:List AV:=[Zz .i64 0,Zy [],Zp [],Zy [],Zy [],Zp []];let t2:Int:=(↑(Zx t6):Int);let t3:Int:=(↑(Zx t5):Int);let t7:List AV:=[t8,Zz .i64 0,Zz .i64 0,Zz .u64 0];let t10:List AV:=[t1,t4,Zz .u64 (Wy 3),t4,Zz .i64 6];chk (decide (0≤t0)&&decide (t0<t3)&&true) (AV.onStr (Vm t5 (Ym t0) Uk) fun b=>Zw (sel (Wz (Ym (Yd (↑(Zh w):Int) (↑(Zh (16:UInt8)):Int)))==(1:UInt8)) (chk (decide (0≤t0)&&decide (t0<t2)&&true) (AV.onStr (Vm t6 (Ym t0) Uk) fun b=>some (Zv o::Zv u::Zv s::Zv e::Zv n::Zv t::Zv p::Zv i::Zv l::Zv a::Zv w::Zv d::Zz .u16 hw::Zp []::Zz .i64 (Zd .i64 (1+Yd (Zd .i64 (↑(Zh o):Int)) 3))::t8::Zy b::t7))) (some (Zv o::Zv u::Zv s::Zv e::Zv n::Zv t::Zv p::Zv i::Zv l::Zv a::Zv w::Zv d::Zz .u16 hw::Zp []::Zz .i64 (Zd .i64 (1+Yd (Zd .i64 (↑(Zh o):Int)) 3))::t8::Zy b::t7))) fun l=>cU8 l fun b r=>cU8 r fun b_1 r=>cU8 r fun b_2 r=>cU8 r fun b_3 r=>cU8 r fun b_4 r=>let t11:Int:=Zd .i64 (30+Yd (Zd .i64 (↑(Zh b_4):Int)) 3);cU8 r fun b_5 r=>cU8 r fun b_6 r=>cU8 r fun b_7 r=>cU8 r fun b_8 r=>cU8 r fun b_9 r=>cU8 r fun b_10 r=>cU8 r fun b_11 r=>cInt .u16 r fun n r=>cBs r fun b_12 r=>cInt .i64 r fun n_1 r=>cInt .i64 r fun n_2 r=>cStr r fun b_13 r=>cInt .i64 r fun n_3 r=>cInt .i64 r fun n_4 r=>cInt .i64 r fun n_5 r=>cInt .u64 r fun n_6 r=>onNil r (Zw (sel (b_13==[(67:UInt8),(80:UInt8),(87:UInt8),(108:UInt8)]) (Zw (chk (decide (0≤t11)&&decide (t11≤1000)) (some (Zz .u64 (Wy t11),[]))) (kI .u64 fun n_7=>Zw (sel (Wz (Ym (Yd (↑(Zh b_10):Int) (↑(Zh (16:UInt8)):Int)))==(2:UInt8)) (some [Zv b,Zv b_1,Zv b_2,Zv b_3,Zv b_4,Zv b_5,Zv b_6,Zv b_7,Zv b_8,Zv b_9,Zv b_10,Zv b_11,Zz .u16 n,Zp b_12,Zz .i64 n_1,Zy b_13,Zz .i64 n_3,Zz .i64 n_4,Zz .i64 n_5,Zz .u64 (Vh 5)]) (some [Zv b,Zv b_1,Zv b_2,Zv b_3,Zv b_4,Zv b_5,Zv b_6,Zv b_7,Zv b_8,Zv b_9,Zv b_10,Zv b_11,Zz .u16 n,Zp b_12,Zz .i64 n_1,Zy b_13,Zz .i64 n_3,Zz .i64 n_4,Zz .i64 n_5,Zz .u64 n_7])) fun l=>cU8 l fun b r=>cU8 r fun b_14 r=>cU8 r fun b_15 r=>cU8 r fun b_16 r=>cU8 r fun b_17 r=>cU8 r fun b_18 r=>cU8 r fun b_19 r=>cU8 r fun b_20 r=>cU8 r fun b_21 r=>cU8 r fun b_22 r=>cU8 r fun b_23 r=>cU8 r fun b_24 r=>cInt .u16 r fun n r=>cBs r fun b_25 r=>cInt .i64 r fun n_8 r=>cStr r fun b_26 r=>cInt .i64 r fun n_9 r=>cInt .i64 r fun n_10 r=>cInt .i64 r fun n_11 r=>cInt .u64 r fun n_12 r=>onNil r (some [Zv b,Zv b_14,Zv b_15,Zv b_16,Zv b_17,Zv b_18,Zv b_19,Zv b_20,Zv b_21,Zv b_22,Zv b_23,Zv b_24,Zz .u16 n,Zp b_25,Zz .i64 n_8,Zy b_26,Zz .i64 n_9,Zz .i64 n_10,Zz .i64 n_11,Zz .u64 n_12]))) (some [Zv b,Zv b_1,Zv b_2,Zv b_3,Zv b_4,Zv b_5,Zv b_6,Zv b_7,Zv b_8,Zv b_9,Zv b_10,Zv b_11,Zz .u16 n,Zp b_12,Zz .i64 n_1,Zy b_13,Zz .i64 n_3,Zz .i64 n_2,Zz .i64 (Zd .i64 (n_2+Zd .i64 (Zd .i64 (↑(Zh b_6):Int)*50))),Zz .u64 n_6])) fun l=>cU8 l fun b r=>cU8 r fun b_14 r=>cU8 r fun b_15 r=>cU8 r fun b_16 r=>cU8 r fun b_17 r=>cU8 r fun b_18 r=>cU8 r fun b_19 r=>cU8 r fun b_20 r=>cU8 r fun b_21 r=>cU8 r fun b_22 r=>cU8 r fun b_23 r=>cU8 r fun b_24 r=>cInt .u16 r fun n r=>cBs r fun b_25 r=>cInt .i64 r fun n_7 r=>cStr r fun b_26 r=>cInt .i64 r fun n_8 r=>cInt .i64 r fun n_9 r=>cInt .i64 r fun n_10 r=>cInt .u64 r fun n_11 r=>onNil r (Zw (chk (decide (0≤n_11)&&decide (n_11<18446744073709551616)) (some (Zb [Yx (Xj (Xz (Vz b_26 n_8 n_9 n_10 n_11))),Zz .i64 (Yn (Xz (Vz b_26 n_8 n_9 n_10 n_11)))],[]))) (kT fun vs=>onCons vs fun x r=>Um x fun l=>cInt .i64 r fun n_12 r=>onNil r (Zw (sel (Wz (Ym (Yd (↑(Zh b_23):Int) (↑(Zh (16:UInt8)):Int)))==(3:UInt8)) (chk (room (Zx l+Zx [(0:UInt8)]) 1) (some [Zv b,Zv b_14,Zv b_15,Zv b_16,Zv b_17,Zv b_18,Zv b_19,Zv b_20,Zv b_21,Zv b_22,Zv b_23,Zv b_24,Zz .u16 n,Zp b_25,Zz .i64 n_7,Yx (l++[(0:UInt8)])])) (some [Zv b,Zv b_14,Zv b_15,Zv b_16,Zv b_17,Zv b_18,Zv b_19,Zv b_20,Zv b_21,Zv b_22,Zv b_23,Zv b_24,Zz .u16 n,Zp b_25,Zz .i64 n_7,Yx l])) fun l=>cU8 l fun b r=>cU8 r fun b_27 r=>let t12:Int:=Yd (Zd .i64 (↑(Zh b_27):Int)) 3;cU8 r fun b_28 r=>cU8 r fun b_29 r=>cU8 r fun b_30 r=>cU8 r fun b_31 r=>cU8 r fun b_32 r=>cU8 r fun b_33 r=>cU8 r fun b_34 r=>cU8 r fun b_35 r=>cU8 r fun b_36 r=>cU8 r fun b_37 r=>let t13:Int:=Zd .i64 (30+Yd (Zd .i64 (Int.tdiv (Zd .i64 (↑(Zh b_37):Int)) 4)) 3);cInt .u16 r fun n r=>cBs r fun b_38 r=>cInt .i64 r fun n_13 r=>onCons r fun x r=>Um x fun b_39=>onNil r (Zw (chk (decide (0≤t12)&&decide (t12≤1000)) (some (Zz .u64 (Wy t12),[]))) (kI .u64 fun n_14=>Zw (sel (Wz (Ym (Yd (↑(Zh b_37):Int) (↑(Zh (4:UInt8)):Int)))==(3:UInt8)) (Zw (chk (decide (0≤t13)&&decide (t13≤1000)) (some (Zz .u64 (Wy t13),[]))) (kI .u64 fun n_15=>some [Zv b,Zv b_27,Zv b_28,Zv b_29,Zv b_30,Zv b_31,Zv b_32,Zv b_33,Zv b_34,Zv b_35,Zv b_36,Zv b_37,Zz .u16 n,Zp b_38,Zz .i64 n_13,Yx b_39,Zz .i64 t12,Zz .u64 n_15])) (some [Zv b,Zv b_27,Zv b_28,Zv b_29,Zv b_30,Zv b_31,Zv b_32,Zv b_33,Zv b_34,Zv b_35,Zv b_36,Zv b_37,Zz .u16 n,Zp b_38,Zz .i64 n_13,Yx b_39,Zz .i64 t12,Zz .u64 n_14])) fun l=>cU8 l fun b r=>cU8 r fun b_40 r=>let t14:Int:=Zd .i64 (3+Yd (Zd .i64 (↑(Zh b_40):Int)) 6);cU8 r fun b_41 r=>cU8 r fun b_42 r=>cU8 r fun b_43 r=>cU8 r fun b_44 r=>cU8 r fun b_45 r=>cU8 r fun b_46 r=>cU8 r fun b_47 r=>cU8 r fun b_48 r=>cU8 r fun b_49 r=>cU8 r fun b_50 r=>cInt .u16 r fun n r=>cBs r fun b_51 r=>cInt .i64 r fun n_15 r=>onCons r fun x r=>Um x fun b_52=>cInt .i64 r fun n_16 r=>cInt .u64 r fun n_17 r=>onNil r (Zw (chk (decide (0≤n_16)&&decide (n_16≤4611686018427387904)) (some (Xy [Zy (Wp (Xn n_16)),Zy (Wd (Xn n_16)),Zy (Ww (Xn n_16))],[]))) (kA fun cs=>cStr cs fun b_53 r=>cStr r fun b_54 r=>cStr r fun b_55 r=>onNil r (Zw (sel (Wz (Ym (Yd (↑(Zh b_49):Int) (↑(Zh (16:UInt8)):Int)))==(4:UInt8)) (Zw (chk (decide (0≤t14)&&decide (t14≤4611686018427387904)) (some (Xy [Zy (Wp (Xn t14)),Zy (Wd (Xn t14)),Zy (Ww (Xn t14))],[]))) (kA fun cs=>cStr cs fun b_56 r=>cStr r fun b_57 r=>cStr r fun b_58 r=>onNil r (some (Zv b::Zv b_40::Zv b_41::Zv b_42::Zv b_43::Zv b_44::Zv b_45::Zv b_46::Zv b_47::Zv b_48::Zv b_49::Zv b_50::Zz .u16 n::Zp b_51::Zz .i64 n_15::Yx b_52::Zz .i64 n_16::Zz .u64 n_17::Zz .i64 n_15::Zy b_56::Zy b_57::Zy b_58::t9)))) (some (Zv b::Zv b_40::Zv b_41::Zv b_42::Zv b_43::Zv b_44::Zv b_45::Zv b_46::Zv b_47::Zv b_48::Zv b_49::Zv b_50::Zz .u16 n::Zp b_51::Zz .i64 n_15::Yx b_52::Zz .i64 n_16::Zz .u64 n_17::Zz .i64 n_15::Zy b_53::Zy b_54::Zy b_55::t9))) fun l=>cU8 l fun b r=>cU8 r fun b_56 r=>cU8 r fun b_57 r=>cU8 r fun b_58 r=>let t15:Int:=Yd (Zd .i64 (↑(Zh b_58):Int)) 4;cU8 r fun b_59 r=>cU8 r fun b_60 r=>cU8 r fun b_61 r=>cU8 r fun b_62 r=>let t16:AV:=Zz .i64 (Zd .i64 (1000+Zd .i64 (↑(Zh b_62):Int)));cU8 r fun b_63 r=>let t17:AV:=Zz .i64 (Yd (Zd .i64 (↑(Zh b_63):Int)) 40);cU8 r fun b_64 r=>let t18:AV:=Zz .i64 (Yd (Zd .i64 (↑(Zh b_64):Int)) 2);cU8 r fun b_65 r=>let t19:UInt8:=Wz (Ym (Yd (↑(Zh b_65):Int) (↑(Zh (16:UInt8)):Int)));cU8 r fun b_66 r=>cInt .u16 r fun n r=>cBs r fun b_67 r=>cInt .i64 r fun n_18 r=>onCons r fun x r=>Um x fun b_68=>cInt .i64 r fun n_19 r=>cInt .u64 r fun n_20 r=>cInt .i64 r fun n_21 r=>cStr r fun b_69 r=>cStr r fun b_70 r=>cStr r fun b_71 r=>cInt .i64 r fun n_22 r=>cStr r fun b_72 r=>cBs r fun b_73 r=>cStr r fun b_74 r=>cStr r fun b_75 r=>cBs r fun b_76 r=>onNil r (Zw (sel (n_18==2) (Zw (chk (decide (0≤n_19)&&decide (n_19≤4611686018427387904)) (some (Xy [Zy (Wp (Xn n_19)),Zy (Wd (Xn n_19)),Zy (Ww (Xn n_19))],[]))) (kA fun cs=>cStr cs fun b_77 r=>cStr r fun b_78 r=>cStr r fun b_79 r=>onNil r (Zw (chk (decide (0≤t15)&&decide (t15≤1000)) (some (Zz .u64 (Vh t15),[]))) (kI .u64 fun n_23=>Zw (sel (t19==(5:UInt8)) (Zw (chk (decide (0≤Zd .i64 (3+n_19))&&decide (Zd .i64 (3+n_19)≤4611686018427387904)) (some (Xy [Zy (Wp (Xn (Zd .i64 (3+n_19)))),Zy (Wd (Xn (Zd .i64 (3+n_19)))),Zy (Ww (Xn (Zd .i64 (3+n_19))))],[]))) (kA fun cs=>cStr cs fun b_80 r=>cStr r fun b_81 r=>cStr r fun b_82 r=>onNil r (some (Zv b::Zv b_56::Zv b_57::Zv b_58::Zv b_59::Zv b_60::Zv b_61::Zv b_62::Zv b_63::Zv b_64::Zv b_65::Zv b_66::Zz .u16 n::Zp b_67::Zz .i64 n_18::Yx b_68::Zz .i64 n_21::Zy b_69::Zy b_70::Zy b_71::Zz .i64 n_22::Zy b_72::Zp b_73::Zy b_74::Zy b_75::Zp b_76::Zm false::Zy b_80::Zy b_81::Zy b_82::t18::Zz .u64 n_23::t17::t16::t10)))) (sel (t19==(6:UInt8)) (some [Zv b,Zv b_56,Zv b_57,Zv b_58,Zv b_59,Zv b_60,Zv b_61,Zv b_62,Zv b_63,Zv b_64,Zv b_65,Zv b_66,Zz .u16 n,Zp b_67,Zz .i64 n_18,Yx b_68,Zz .i64 n_21,Zy b_69,Zy b_70,Zy b_71,Zz .i64 n_22,Zy b_72,Zp b_73,Zy b_74,Zy b_75,Zp b_76,Zm false,Zy b_77,Zy b_78,Zy b_79,t18,Zz .u64 n_23,t17,t16,t1,Zy [(66:UInt8),(79:UInt8),(83:UInt8)],Zz .u64 (Wy 3),t4,Zz .i64 6]) (sel (t19==(8:UInt8)) (some [Zv b,Zv b_56,Zv b_57,Zv b_58,Zv b_59,Zv b_60,Zv b_61,Zv b_62,Zv b_63,Zv b_64,Zv b_65,Zv b_66,Zz .u16 n,Zp b_67,Zz .i64 n_18,Yx b_68,Zz .i64 n_21,Zy b_69,Zy b_70,Zy b_71,Zz .i64 n_22,Zy b_72,Zp b_73,Zy b_74,Zy b_75,Zp b_76,Zm false,Zy b_77,Zy b_78,Zy b_79,t18,Zz .u64 n_23,t17,t16,t1,t4,Zz .u64 (Wy 4),t4,Zz .i64 6]) (sel (t19==(9:UInt8)) (some [Zv b,Zv b_56,Zv b_57,Zv b_58,Zv b_59,Zv b_60,Zv b_61,Zv b_62,Zv b_63,Zv b_64,Zv b_65,Zv b_66,Zz .u16 n,Zp b_67,Zz .i64 n_18,Yx b_68,Zz .i64 n_21,Zy b_69,Zy b_70,Zy b_71,Zz .i64 n_22,Zy b_72,Zp b_73,Zy b_74,Zy b_75,Zp b_76,Zm false,Zy b_77,Zy b_78,Zy b_79,t18,Zz .u64 n_23,t17,t16,t1,t4,Zz .u64 (Wy 3),Zy [(66:UInt8),(79:UInt8),(83:UInt8)],Zz .i64 6]) (sel (t19==(10:UInt8)) (some [Zv b,Zv b_56,Zv b_57,Zv b_58,Zv b_59,Zv b_60,Zv b_61,Zv b_62,Zv b_63,Zv b_64,Zv b_65,Zv b_66,Zz .u16 n,Zp b_67,Zz .i64 n_18,Yx b_68,Zz .i64 n_21,Zy b_69,Zy b_70,Zy b_71,Zz .i64 n_22,Zy b_72,Zp b_73,Zy b_74,Zy b_75,Zp b_76,Zm false,Zy b_77,Zy b_78,Zy b_79,t18,Zz .u64 n_23,t17,t16,t1,t4,Zz .u64 (Wy 3),t4,Zz .i64 5]) (some (Zv b::Zv b_56::Zv b_57::Zv b_58::Zv b_59::Zv b_60::Zv b_61::Zv b_62::Zv b_63::Zv b_64::Zv b_65::Zv b_66::Zz .u16 n::Zp b_67::Zz .i64 n_18::Yx b_68::Zz .i64 n_21::Zy b_69::Zy b_70::Zy b_71::Zz .i64 n_22::Zy b_72::Zp b_73::Zy b_74::Zy b_75::Zp b_76::Zm false::Zy b_77::Zy b_78::Zy b_79::t18::Zz .u64 n_23::t17::t16::t10))))))) fun l=>cU8 l fun b r=>cU8 r fun b_80 r=>cU8 r fun b_81 r=>let t20:Int:=Yd (Zd .i64 (↑(Zh b_81):Int)) 3;cU8 r fun b_82 r=>cU8 r fun b_83 r=>cU8 r fun b_84 r=>cU8 r fun b_85 r=>cU8 r fun b_86 r=>cU8 r fun b_87 r=>cU8 r fun b_88 r=>cU8 r fun b_89 r=>cU8 r fun b_90 r=>cInt .u16 r fun n r=>cBs r fun b_91 r=>cInt .i64 r fun n_24 r=>onCons r fun x r=>Um x fun b_92=>cInt .i64 r fun n_25 r=>cStr r fun b_93 r=>cStr r fun b_94 r=>cStr r fun b_95 r=>cInt .i64 r fun n_26 r=>cStr r fun b_96 r=>cBs r fun b_97 r=>cStr r fun b_98 r=>cStr r fun b_99 r=>cBs r fun b_100 r=>cBool r fun b_101 r=>cStr r fun b_102 r=>cStr r fun b_103 r=>cStr r fun b_104 r=>cInt .i64 r fun n_27 r=>cInt .u64 r fun n_28 r=>cInt .i64 r fun n_29 r=>cInt .i64 r fun n_30 r=>cStr r fun b_105 r=>cStr r fun b_106 r=>cInt .u64 r fun n_31 r=>cStr r fun b_107 r=>cInt .i64 r fun n_32 r=>onNil r (Zw (chk (l63 b_102&&l63 b_103&&l63 b_104&&l63 b_105&&l63 b_106&&decide (0≤n_28)&&decide (n_28<18446744073709551616)&&decide (0≤n_31)&&decide (n_31<18446744073709551616)) (some (Zb [Zp (Xj (Kerb.sealTicket (Vf b_101 (Yy b_102 b_103 b_104) n_27 n_28 n_29 n_30 b_105 b_106) n_31)),Zz .i64 (Yn (Kerb.sealTicket (Vf b_101 (Yy b_102 b_103 b_104) n_27 n_28 n_29 n_30 b_105 b_106) n_31))],[]))) (kT fun vs=>cBs vs fun b_108 r=>cInt .i64 r fun n_33 r=>onNil r (Zw (chk (decide (0≤t20)&&decide (t20≤4611686018427387904)) (some (Xy [Zy (Wp (Kerb.service t20)),Zy (Wd (Kerb.service t20)),Zy (Ww (Kerb.service t20))],[]))) (kA fun cs=>cStr cs fun b_109 r=>cStr r fun b_110 r=>cStr r fun b_111 r=>onNil r (Zw (sel (Wz (Ym (Yd (↑(Zh b_89):Int) (↑(Zh (16:UInt8)):Int)))==(11:UInt8)) (some [Zv b,Zv b_80,Zv b_81,Zv b_82,Zv b_83,Zv b_84,Zv b_85,Zv b_86,Zv b_87,Zv b_88,Zv b_89,Zv b_90,Zz .u16 n,Zp b_91,Zz .i64 n_24,Yx b_92,Zz .i64 n_25,Zy b_93,Zy b_94,Zy b_95,Zz .i64 n_26,Zy b_96,Zp b_97,Zy b_98,Zy b_99,Zp b_100,Zm b_101,Zy b_102,Zy b_103,Zy b_104,Zz .i64 n_27,Zz .u64 n_28,Zz .i64 n_29,Zz .i64 n_30,Zy b_105,Zy b_106,Zy b_107,Zz .i64 n_32,Zp b_108,Zy Uq,Zy (Kerb.realm 1),Zy (Kerb.realm 0)]) (some [Zv b,Zv b_80,Zv b_81,Zv b_82,Zv b_83,Zv b_84,Zv b_85,Zv b_86,Zv b_87,Zv b_88,Zv b_89,Zv b_90,Zz .u16 n,Zp b_91,Zz .i64 n_24,Yx b_92,Zz .i64 n_25,Zy b_93,Zy b_94,Zy b_95,Zz .i64 n_26,Zy b_96,Zp b_97,Zy b_98,Zy b_99,Zp b_100,Zm b_101,Zy b_102,Zy b_103,Zy b_104,Zz .i64 n_27,Zz .u64 n_28,Zz .i64 n_29,Zz .i64 n_30,Zy b_105,Zy b_106,Zy b_107,Zz .i64 n_32,Zp b_108,Zy b_109,Zy b_110,Zy b_111])) fun l=>cU8 l fun b r=>cU8 r fun b_112 r=>cU8 r fun b_113 r=>cU8 r fun b_114 r=>cU8 r fun b_115 r=>cU8 r fun b_116 r=>cU8 r fun b_117 r=>cU8 r fun b_118 r=>cU8 r fun b_119 r=>cU8 r fun b_120 r=>cU8 r fun b_121 r=>cU8 r fun b_122 r=>cInt .u16 r fun n r=>cBs r fun b_123 r=>cInt .i64 r fun n_34 r=>onCons r fun x r=>Um x fun b_124=>cInt .i64 r fun n_35 r=>cStr r fun b_125 r=>cStr r fun b_126 r=>cStr r fun b_127 r=>cInt .i64 r fun n_36 r=>cStr r fun b_128 r=>cBs r fun b_129 r=>cStr r fun b_130 r=>cStr r fun b_131 r=>cBs r fun b_132 r=>cBool r fun b_133 r=>cStr r fun b_134 r=>cStr r fun b_135 r=>cStr r fun b_136 r=>cInt .i64 r fun n_37 r=>cInt .u64 r fun n_38 r=>cInt .i64 r fun n_39 r=>cInt .i64 r fun n_40 r=>cStr r fun b_137 r=>cStr r fun b_138 r=>cStr r fun b_139 r=>cInt .i64 r fun n_41 r=>cBs r fun b_140 r=>cStr r fun b_141 r=>cStr r fun b_142 r=>cStr r fun b_143 r=>onNil r (some [Zv b,Zv b_112,Zv b_113,Zv b_114,Zv b_115,Zv b_116,Zv b_117,Zv b_118,Zv b_119,Zv b_120,Zv b_121,Zv b_122,Zz .u16 n,Zp b_123,Yx b_124,Zz .u64 n_38,Zz .i64 n_34,Zy [],Zy [],Zy [],Zz .i64 n_41,Zy b_139,Zp b_140,Zy b_141,Zy b_142,Zp []])))))))))) (some [Zv b,Zv b_56,Zv b_57,Zv b_58,Zv b_59,Zv b_60,Zv b_61,Zv b_62,Zv b_63,Zv b_64,Zv b_65,Zv b_66,Zz .u16 n,Zp b_67,Yx b_68,Zz .u64 n_20,Zz .i64 n_21,Zy b_69,Zy b_70,Zy b_71,Zz .i64 n_22,Zy b_72,Zp b_73,Zy b_74,Zy b_75,Zp b_76])) fun l=>cU8 l fun b r=>cU8 r fun b_77 r=>cU8 r fun b_78 r=>cU8 r fun b_79 r=>cU8 r fun b_80 r=>cU8 r fun b_81 r=>cU8 r fun b_82 r=>cU8 r fun b_83 r=>cU8 r fun b_84 r=>cU8 r fun b_85 r=>cU8 r fun b_86 r=>cU8 r fun b_87 r=>cInt .u16 r fun n r=>cBs r fun b_88 r=>onCons r fun x r=>Um x fun b_89=>cInt .u64 r fun n_23 r=>cInt .i64 r fun n_24 r=>cStr r fun b_90 r=>cStr r fun b_91 r=>cStr r fun b_92 r=>cInt .i64 r fun n_25 r=>cStr r fun b_93 r=>cBs r fun b_94 r=>cStr r fun b_95 r=>cStr r fun b_96 r=>cBs r fun b_97 r=>let t21:List AV:=[Zz .i64 n_24,Zy b_90,Zy b_91,Zy b_92,Zz .i64 n_25,Zy b_93,Zp b_94,Zy b_95,Zy b_96,Zp b_97];onNil r (Zw (sel (Wz (Ym (Yd (↑(Zh b_86):Int) (↑(Zh (16:UInt8)):Int)))==(7:UInt8)) (some (Zv b::Zv b_77::Zv b_78::Zv b_79::Zv b_80::Zv b_81::Zv b_82::Zv b_83::Zv b_84::Zv b_85::Zv b_86::Zv b_87::Zz .u16 n::Zp b_88::Yx b_89::Zz .u64 (Wy 99)::t21)) (some (Zv b::Zv b_77::Zv b_78::Zv b_79::Zv b_80::Zv b_81::Zv b_82::Zv b_83::Zv b_84::Zv b_85::Zv b_86::Zv b_87::Zz .u16 n::Zp b_88::Yx b_89::Zz .u64 n_23::t21))) fun l=>cU8 l fun b r=>cU8 r fun b r=>cU8 r fun b r=>cU8 r fun b r=>cU8 r fun b r=>cU8 r fun b r=>cU8 r fun b r=>cU8 r fun b r=>cU8 r fun b r=>cU8 r fun b r=>cU8 r fun b r=>cU8 r fun b_98 r=>cInt .u16 r fun n r=>cBs r fun b_99 r=>onCons r fun x r=>Um x fun b_100=>cInt .u64 r fun n_26 r=>cInt .i64 r fun n_27 r=>cStr r fun b_101 r=>cStr r fun b_102 r=>cStr r fun b_103 r=>cInt .i64 r fun n_28 r=>cStr r fun b_104 r=>cBs r fun b_105 r=>cStr r fun b_106 r=>cStr r fun b_107 r=>cBs r fun b_108 r=>onNil r (Zw (chk (decide (0≤n_26)&&decide (n_26<18446744073709551616)) (some (Zb [Zp (Xj (Vd 7 n_26 b_100)),Zz .i64 (Yn (Vd 7 n_26 b_100))],[]))) (kT fun vs=>cBs vs fun b_109 r=>cInt .i64 r fun n_29 r=>onNil r (Zw (chk (l63 b_101&&l63 b_102&&l63 b_103&&l63 b_104&&l63 b_106&&l63 b_107) (some (Zb [Zp (Xj (Yv (Xp n_27 (Yy b_101 b_102 b_103) n_28 b_104 b_105 b_106 b_107 b_109))),Zz .i64 (Yn (Yv (Xp n_27 (Yy b_101 b_102 b_103) n_28 b_104 b_105 b_106 b_107 b_109)))],[]))) (kT fun vs=>cBs vs fun b_110 r=>cInt .i64 r fun n_30 r=>onNil r (sel (Wz (Ym (Yd (↑(Zh b):Int) (↑(Zh (16:UInt8)):Int)))==(15:UInt8)) (Zw (chk (decide (Zx b_110≤1000000)&&decide (0≤n)&&decide (n≤65535)) (some (Zp (Kerb.spoil b_110 n),[]))) (kB fun b=>some (Zp b,[]))) (some (Zp b_110,[]))))))))))))))))))):Option (AV×Blocks))) (by kernel_rfl) ?_
  delta kT kA kB kI
  try dsimp only [cStr,cBs,cBool,cU8,cInt,cSl,l63]
  simp only [Yz,decide_eq_true_eq] at hpre
  obtain ⟨hh0,hh1⟩:=hpre
  have bu:=Wk u
  have bs_:=Wk s
  have be:=Wk e
  have bn:=Wk n
  have bt:=Wk t
  have bp:=Wk p
  have bi:=Wk i
  have bl:=Wk l
  have ba:=Wk a
  have bd_:=Wk d
  obtain ⟨m,hm⟩:∃ m,w.toNat % 16=m:=⟨_,rfl⟩
  have q:∀ k:Nat,k<256→(Wz (Ym (Yd (w.toNat:Int) ((16:UInt8).toNat:Int)))==Wz k)=decide (m=k):=fun k hk=>by
   have h7:Ym (Yd (w.toNat:Int) ((16:UInt8).toNat:Int))=w.toNat % 16:=Kerb.tmod_u8 w 16 (by omega)
   rw [h7,hm,Kerb.u8_beq (by omega) hk]
  have q1:(_==(1:UInt8))=_:=q 1 (by omega)
  have q2:(_==(2:UInt8))=_:=q 2 (by omega)
  have q3:(_==(3:UInt8))=_:=q 3 (by omega)
  have q4:(_==(4:UInt8))=_:=q 4 (by omega)
  have q5:(_==(5:UInt8))=_:=q 5 (by omega)
  have q6:(_==(6:UInt8))=_:=q 6 (by omega)
  have q7:(_==(7:UInt8))=_:=q 7 (by omega)
  have q8:(_==(8:UInt8))=_:=q 8 (by omega)
  have q9:(_==(9:UInt8))=_:=q 9 (by omega)
  have q10:(_==(10:UInt8))=_:=q 10 (by omega)
  have q11:(_==(11:UInt8))=_:=q 11 (by omega)
  have q15:(_==(15:UInt8))=_:=q 15 (by omega)
  obtain ⟨U,hU⟩:∃ U,Zf u % 3=U:=⟨_,rfl⟩
  have f0:=Kerb.wrap_u8i
  have f1:Zd .i64 (1000+Zf t)=1000+Zf t:=wrap_i64 (by omega) (by omega)
  have f2:Zd .i64 (30+Yd (Zf n) 3)=30+Zf n % 3:=by rw [Yp bn.1];exact wrap_i64 (by omega) (by omega)
  have f4:Zd .i64 (1000+Zf t+Zd .i64 (Zf p*50))=1000+Zf t+Zf p*50:=by rw [wrap_i64 (n:=Zf p*50) (by omega) (by omega)];exact wrap_i64 (by omega) (by omega)
  have f5:Yd (Zf u) 3=U:=by rw [Yp bu.1];exact hU
  have f6:Zd .i64 (3+Yd (Zf u) 6)=3+Zf u % 6:=by rw [Yp bu.1];exact wrap_i64 (by omega) (by omega)
  have f7:Zd .i64 (3+U)=3+U:=wrap_i64 (by omega) (by omega)
  have f8:Zd .i64 (30+Yd (Zd .i64 (Int.tdiv (Zf d) 4)) 3)=30+Zf d / 4 % 3:=by rw [Int.tdiv_eq_ediv_of_nonneg bd_.1,wrap_i64 (n:=Zf d / 4) (by omega) (by omega),Yp (by omega)];exact wrap_i64 (by omega) (by omega)
  have f9:Yd (Zf a) 2=Zf a % 2:=Yp ba.1
  have f10:Yd (Zf e) 4=Zf e % 4:=Yp be.1
  have f11:Yd (Zf l) 40=Zf l % 40:=Yp bl.1
  have f12:Zd .i64 (1000+Zf i)=1000+Zf i:=wrap_i64 (by omega) (by omega)
  have f13:Yd (Zf s) 3=Zf s % 3:=Yp bs_.1
  have g1:(decide ((0:Int)≤30+Zf n % 3)&&decide (30+Zf n % 3≤1000))=true:=by simp;omega
  have g2:(decide ((0:Int)≤U)&&decide (U≤1000))=true:=by simp;omega
  have g3:(decide ((0:Int)≤30+Zf d / 4 % 3)&&decide (30+Zf d / 4 % 3≤1000))=true:=by simp;omega
  have g4:(decide ((0:Int)≤U)&&decide (U≤4611686018427387904))=true:=by simp;omega
  have g5:(decide ((0:Int)≤3+Zf u % 6)&&decide (3+Zf u % 6≤4611686018427387904))=true:=by simp;omega
  have g6:(decide ((0:Int)≤3+U)&&decide (3+U≤4611686018427387904))=true:=by simp;omega
  have g7:(decide ((0:Int)≤Zf e % 4)&&decide (Zf e % 4≤1000))=true:=by simp;omega
  have g8:(decide ((0:Int)≤Zf s % 3)&&decide (Zf s % 3≤4611686018427387904))=true:=by simp;omega
  have g9:(decide ((0:Int)≤hw)&&decide (hw≤65535))=true:=by simp;omega
  have qd:(Wz (Ym (Yd (d.toNat:Int) ((4:UInt8).toNat:Int)))==(3:UInt8))=decide (d.toNat % 4=3):=by
   have h7:Ym (Yd (d.toNat:Int) ((4:UInt8).toNat:Int))=d.toNat % 4:=Kerb.tmod_u8 d 4 (by omega)
   rw [h7];exact Kerb.u8_beq (k:=3) (by omega) (by decide)
  obtain ⟨K,hK⟩:∃ K,Kerb.KAsk.kop (Yu o u s e n t p i l a w d hw)=K:=⟨_,rfl⟩
  have hKb:1≤K∧K≤3:=by rw [← hK];exact Kerb.KAsk.kop_bd (Yu o u s e n t p i l a w d hw)
  have eo:Zd .i64 (1+Yd (Zf o) 3)=K:=by
   have bo:=Wk o
   rw [Yp bo.1,wrap_i64 (by omega) (by omega)];exact hK
  have k1:=fun l0 l1 l2=>Kerb.KAsk.pick3_chk l0 l1 l2 hKb
  have k2:=fun l0 l1 l2=>Kerb.KAsk.pick3_get l0 l1 l2 hKb
  obtain ⟨LB,hLB⟩:∃ x,Kerb.KAsk.label (Yu o u s e n t p i l a w d hw)=x:=⟨_,rfl⟩
  have eLB:LB=cond (decide (m=1)) (Kerb.KAsk.pick3 [103,84,75,84] [67,80,87,108] [103,84,71,83] (K-1)) (Kerb.KAsk.pick3 [103,84,71,83] [103,84,75,84] [67,80,87,108] (K-1)):=by rw [← hLB,← hK];exact Kerb.KAsk.label_c (Yu o u s e n t p i l a w d hw) hm
  obtain ⟨S,hS⟩:∃ x,Kerb.KAsk.secret (Yu o u s e n t p i l a w d hw)=x:=⟨_,rfl⟩
  have eS:S=cond (LB==[67,80,87,108]) ⟨LB,1000+Zf t,0,0,cond (decide (m=2)) (Vh 5) (Wy (30+Zf n % 3))⟩ ⟨LB,1000+Zf t,1000+Zf t,1000+Zf t+Zf p*50,0⟩:=by rw [← hS,← hLB];exact Kerb.KAsk.secret_c (Yu o u s e n t p i l a w d hw) hm
  have gS:0≤S.new∧S.new<18446744073709551616:=by
   rw [eS]
   cases (LB==[67,80,87,108])<;>cases (decide (m=2))
   ·exact (show (0:Int)≤0∧(0:Int)<18446744073709551616 by decide)
   ·exact (show (0:Int)≤0∧(0:Int)<18446744073709551616 by decide)
   ·exact Kerb.long_bd _
   ·exact Kerb.session_bd2 _
  obtain ⟨BODY,hBODY⟩:∃ x,Kerb.KAsk.body (Yu o u s e n t p i l a w d hw)=x:=⟨_,rfl⟩
  have eBODY:BODY=cond (decide (m=3)) ((Xz S).val++[0]) (Xz S).val:=by rw [← hBODY,← hS];exact Kerb.KAsk.body_c (Yu o u s e n t p i l a w d hw) hm
  have lS:=Kerb.encKaSec_len S
  obtain ⟨K0,hK0⟩:∃ x,Kerb.KAsk.key0 (Yu o u s e n t p i l a w d hw)=x:=⟨_,rfl⟩
  have eK0:K0=cond (decide (d.toNat % 4=3)) (Wy (30+Zf d / 4 % 3)) (Wy U):=by rw [← hK0,← hU];rfl
  obtain ⟨US,hUS⟩:∃ x,cond (decide (m=4)) (Xn (3+Zf u % 6)) (Xn U)=x:=⟨_,rfl⟩
  obtain ⟨SEA,hSEA⟩:∃ x,Kerb.KAsk.sealed (Yu o u s e n t p i l a w d hw)=x:=⟨_,rfl⟩
  obtain ⟨WA,hWA⟩:∃ x,Kerb.KAsk.want (Yu o u s e n t p i l a w d hw)=x:=⟨_,rfl⟩
  have eWA:WA=cond (decide (m=11)) (Kerb.tgs [65,84,72] [66,79,83]) (Kerb.service (Zf s % 3)):=by rw [← hWA];exact Kerb.KAsk.want_c (Yu o u s e n t p i l a w d hw) hm
  obtain ⟨R0,hR0⟩:∃ x,Kerb.KAsk.req0 (Yu o u s e n t p i l a w d hw)=x:=⟨_,rfl⟩
  have eR0:R0=cond (K==2) ⟨2,Vq,cond (decide (m=10)) 5 6,cond (decide (m=9)) [66,79,83] [65,84,72],SEA,WA.name,WA.inst,[]⟩ ⟨K,US,0,[],[],[],[],[]⟩:=by rw [← hR0,← hUS,← hSEA,← hWA,← hK,← hU,← hm];rfl
  obtain ⟨KE,hKE⟩:∃ x,Kerb.KAsk.key (Yu o u s e n t p i l a w d hw)=x:=⟨_,rfl⟩
  obtain ⟨K1,hK1⟩:∃ x,cond (K==2) (Vh (Zf e % 4)) K0=x:=⟨_,rfl⟩
  have eKE:KE=cond (decide (m=7)) (Wy 99) K1:=by rw [← hKE,← hK1,← hK,← hK0];exact Kerb.KAsk.key_c (Yu o u s e n t p i l a w d hw) hm
  simp (config:={maxSteps:=10000000}) only [f0,f1,f2,f4,f5,f6,f7,f8,f9,f10,f11,f12,f13,g1,g2,g3,g4,g5,g6,g7,g8,g9,qd,q1,q2,q3,q4,q5,q6,q7,q8,q9,q10,q11,q15,eo,k1,k2,↓sInt,↓sU8,↓sBool,↓sStr,↓sBs,↓sSl,↓sAgg,↓sTup,↓sCons,↓sNil,↓sNilB,↓sChk,↓sChkBind,↓sSome]
  refine bind_via (fun ls=>ls=[Zv o,Zv u,Zv s,Zv e,Zv n,Zv t,Zv p,Zv i,Zv l,Zv a,Zv w,Zv d,Zz Vu hw,Zp [],Zz Zk K,Zz Zk (1000+Zf t),Zy LB,Zz Zk (1000+Zf t),Zz Zk 0,Zz Zk 0,Zz Xh 0]) ⟨_,?_,rfl⟩ ?_
  ·rw [eLB]
   cases (decide (m=1))<;>rfl
  rintro _ rfl
  simp (config:={maxSteps:=10000000}) only [f0,f1,f2,f4,f5,f6,f7,f8,f9,f10,f11,f12,f13,g1,g2,g3,g4,g5,g6,g7,g8,g9,qd,q1,q2,q3,q4,q5,q6,q7,q8,q9,q10,q11,q15,↓sInt,↓sU8,↓sBool,↓sStr,↓sBs,↓sSl,↓sAgg,↓sTup,↓sCons,↓sNil,↓sNilB,↓sChk,↓sChkBind,↓sSome]
  refine bind_via (fun ls=>ls=[Zv o,Zv u,Zv s,Zv e,Zv n,Zv t,Zv p,Zv i,Zv l,Zv a,Zv w,Zv d,Zz Vu hw,Zp [],Zz Zk K,Zy S.label,Zz Zk S.time,Zz Zk S.start,Zz Zk S.stop,Zz Xh S.new]) ⟨_,?_,rfl⟩ ?_
  ·rw [eS]
   cases (LB==[67,80,87,108])<;>cases (decide (m=2))<;>rfl
  rintro _ rfl
  simp (config:={maxSteps:=10000000}) only [gS,decide_true,Yg,f0,f1,f2,f4,f5,f6,f7,f8,f9,f10,f11,f12,f13,g1,g2,g3,g4,g5,g6,g7,g8,g9,qd,q1,q2,q3,q4,q5,q6,q7,q8,q9,q10,q11,q15,↓sInt,↓sU8,↓sBool,↓sStr,↓sBs,↓sSl,↓sAgg,↓sTup,↓sCons,↓sNil,↓sNilB,↓sChk,↓sChkBind,↓sSome]
  refine bind_via (fun ls=>ls=[Zv o,Zv u,Zv s,Zv e,Zv n,Zv t,Zv p,Zv i,Zv l,Zv a,Zv w,Zv d,Zz Vu hw,Zp [],Zz Zk K,Yx BODY]) ⟨_,?_,rfl⟩ ?_
  ·rw [eBODY]
   cases (decide (m=3))
   ·rfl
   ·show chk (Go.Abs.room ((Xz S).val.length+1) 1) _=_
    rw [chk_of (Kerb.room_ok (by omega))]
    rfl
  rintro _ rfl
  simp (config:={maxSteps:=10000000}) only [f0,f1,f2,f4,f5,f6,f7,f8,f9,f10,f11,f12,f13,g1,g2,g3,g4,g5,g6,g7,g8,g9,qd,q1,q2,q3,q4,q5,q6,q7,q8,q9,q10,q11,q15,↓sInt,↓sU8,↓sBool,↓sStr,↓sBs,↓sSl,↓sAgg,↓sTup,↓sCons,↓sNil,↓sNilB,↓sChk,↓sChkBind,↓sSome]
  refine bind_via (fun ls=>ls=[Zv o,Zv u,Zv s,Zv e,Zv n,Zv t,Zv p,Zv i,Zv l,Zv a,Zv w,Zv d,Zz Vu hw,Zp [],Zz Zk K,Yx BODY,Zz Zk U,Zz Xh K0]) ⟨_,?_,rfl⟩ ?_
  ·rw [eK0]
   cases (decide (d.toNat % 4=3))<;>rfl
  rintro _ rfl
  simp (config:={maxSteps:=10000000}) only [f0,f1,f2,f4,f5,f6,f7,f8,f9,f10,f11,f12,f13,g1,g2,g3,g4,g5,g6,g7,g8,g9,qd,q1,q2,q3,q4,q5,q6,q7,q8,q9,q10,q11,q15,↓sInt,↓sU8,↓sBool,↓sStr,↓sBs,↓sSl,↓sAgg,↓sTup,↓sCons,↓sNil,↓sNilB,↓sChk,↓sChkBind,↓sSome]
  refine bind_via (fun ls=>ls=[Zv o,Zv u,Zv s,Zv e,Zv n,Zv t,Zv p,Zv i,Zv l,Zv a,Zv w,Zv d,Zz Vu hw,Zp [],Zz Zk K,Yx BODY,Zz Zk U,Zz Xh K0,Zz Zk K,Zy US.name,Zy US.inst,Zy US.realm,Zz Zk 0,Zy [],Zp [],Zy [],Zy [],Zp []]) ⟨_,?_,rfl⟩ ?_
  ·rw [← hUS]
   cases (decide (m=4))<;>rfl
  rintro _ rfl
  simp (config:={maxSteps:=10000000}) only [f0,f1,f2,f4,f5,f6,f7,f8,f9,f10,f11,f12,f13,g1,g2,g3,g4,g5,g6,g7,g8,g9,qd,q1,q2,q3,q4,q5,q6,q7,q8,q9,q10,q11,q15,↓sInt,↓sU8,↓sBool,↓sStr,↓sBs,↓sSl,↓sAgg,↓sTup,↓sCons,↓sNil,↓sNilB,↓sChk,↓sChkBind,↓sSome]
  refine bind_via (fun ls=>ls=[Zv o,Zv u,Zv s,Zv e,Zv n,Zv t,Zv p,Zv i,Zv l,Zv a,Zv w,Zv d,Zz Vu hw,Zp [],Yx BODY,Zz Xh K1,Zz Zk R0.op,Zy R0.user.name,Zy R0.user.inst,Zy R0.user.realm,Zz Zk R0.kvno,Zy R0.realm,Zp R0.ticket,Zy R0.service,Zy R0.inst,Zp []]) ⟨_,?_,rfl⟩ ?_
  ·obtain ⟨SKQ,hSK⟩:∃ x,cond (decide (m=8)) (Wy 4) (Wy 3)=x:=⟨_,rfl⟩
   obtain ⟨CL,hCL⟩:∃ x,cond (decide (m=5)) (Xn (3+U)) (Xn U)=x:=⟨_,rfl⟩
   obtain ⟨TI,hTI⟩:∃ x,cond (decide (m=6)) ([66,79,83]:List UInt8) [65,84,72]=x:=⟨_,rfl⟩
   obtain ⟨RL,hRL⟩:∃ x,cond (decide (m=9)) ([66,79,83]:List UInt8) [65,84,72]=x:=⟨_,rfl⟩
   obtain ⟨KV,hKV⟩:∃ x,cond (decide (m=10)) (5:Int) 6=x:=⟨_,rfl⟩
   have eSEA:SEA=(Kerb.sealTicket ⟨false,CL,Zf a % 2,Vh (Zf e % 4),Zf l % 40,1000+Zf i,Uq,TI⟩ SKQ).val:=by
    rw [← hSEA,← hSK,← hCL,← hTI,← hU]
    exact (Kerb.KAsk.sealed_c (Yu o u s e n t p i l a w d hw) hm).trans (by rw [Kerb.KAsk.tkt_c (Yu o u s e n t p i l a w d hw) hm];rfl)
   cases hk2:(K==2)
   ·rw [eR0,← hK1,hk2]
    rfl
   have hK2:K=2:=by simpa using hk2
   rw [sel_true]
   refine bind_via (fun ls=>ls=[Zv o,Zv u,Zv s,Zv e,Zv n,Zv t,Zv p,Zv i,Zv l,Zv a,Zv w,Zv d,Zz Vu hw,Zp [],Zz Zk K,Yx BODY,Zz Zk K,Zy US.name,Zy US.inst,Zy US.realm,Zz Zk 0,Zy [],Zp [],Zy [],Zy [],Zp [],Zm false,Zy CL.name,Zy CL.inst,Zy CL.realm,Zz Zk (Zf a % 2),Zz Xh (Vh (Zf e % 4)),Zz Zk (Zf l % 40),Zz Zk (1000+Zf i),Zy Uq,Zy TI,Zz Xh SKQ,Zy RL,Zz Zk KV]) ⟨_,?_,rfl⟩ ?_
   ·rw [← hSK,← hCL,← hTI,← hRL,← hKV]
    by_cases h5:m=5
    ·rw [h5];rfl
    by_cases h6:m=6
    ·rw [h6];rfl
    by_cases h8:m=8
    ·rw [h8];rfl
    by_cases h9:m=9
    ·rw [h9];rfl
    by_cases h10:m=10
    ·rw [h10];rfl
    rw [decide_eq_false h5,decide_eq_false h6,decide_eq_false h8,decide_eq_false h9,decide_eq_false h10]
    rfl
   rintro _ rfl
   have gC:CL.name.length≤9223372036854775807∧CL.inst.length≤9223372036854775807∧CL.realm.length≤9223372036854775807:=by
    rw [← hCL]
    cases (decide (m=5))
    ·exact Kerb.user_dec _
    ·exact Kerb.user_dec _
   have gT:TI.length≤9223372036854775807:=by
    rw [← hTI]
    cases (decide (m=6))<;>decide
   have gK:0≤SKQ∧SKQ<18446744073709551616:=by
    rw [← hSK]
    cases (decide (m=8))<;>exact Kerb.long_bd _
   have gE:=Kerb.session_bd2 (Zf e % 4)
   have gB:Kerb.krbtgt.length≤9223372036854775807:=by decide
   simp (config:={maxSteps:=10000000}) only [gC,gT,gK,gE,gB,decide_true,Yg,f0,f1,f2,f4,f5,f6,f7,f8,f9,f10,f11,f12,f13,g1,g2,g3,g4,g5,g6,g7,g8,g9,qd,q1,q2,q3,q4,q5,q6,q7,q8,q9,q10,q11,q15,↓sInt,↓sU8,↓sBool,↓sStr,↓sBs,↓sSl,↓sAgg,↓sTup,↓sCons,↓sNil,↓sNilB,↓sChk,↓sChkBind,↓sSome]
   refine bind_via (fun ls=>ls=[Zv o,Zv u,Zv s,Zv e,Zv n,Zv t,Zv p,Zv i,Zv l,Zv a,Zv w,Zv d,Zz Vu hw,Zp [],Zz Zk K,Yx BODY,Zz Zk K,Zy US.name,Zy US.inst,Zy US.realm,Zz Zk 0,Zy [],Zp [],Zy [],Zy [],Zp [],Zm false,Zy CL.name,Zy CL.inst,Zy CL.realm,Zz Zk (Zf a % 2),Zz Xh (Vh (Zf e % 4)),Zz Zk (Zf l % 40),Zz Zk (1000+Zf i),Zy Uq,Zy TI,Zy RL,Zz Zk KV,Zp SEA,Zy WA.name,Zy WA.inst,Zy WA.realm]) ⟨_,?_,rfl⟩ ?_
   ·rw [eWA,eSEA]
    cases (decide (m=11))<;>rfl
   rintro _ rfl
   rw [eR0,← hK1,hk2,hRL,hKV,hK2]
   rfl
  rintro _ rfl
  simp (config:={maxSteps:=10000000}) only [f0,f1,f2,f4,f5,f6,f7,f8,f9,f10,f11,f12,f13,g1,g2,g3,g4,g5,g6,g7,g8,g9,qd,q1,q2,q3,q4,q5,q6,q7,q8,q9,q10,q11,q15,↓sInt,↓sU8,↓sBool,↓sStr,↓sBs,↓sSl,↓sAgg,↓sTup,↓sCons,↓sNil,↓sNilB,↓sChk,↓sChkBind,↓sSome]
  refine bind_via (fun ls=>ls=[Zv o,Zv u,Zv s,Zv e,Zv n,Zv t,Zv p,Zv i,Zv l,Zv a,Zv w,Zv d,Zz Vu hw,Zp [],Yx BODY,Zz Xh KE,Zz Zk R0.op,Zy R0.user.name,Zy R0.user.inst,Zy R0.user.realm,Zz Zk R0.kvno,Zy R0.realm,Zp R0.ticket,Zy R0.service,Zy R0.inst,Zp []]) ⟨_,?_,rfl⟩ ?_
  ·rw [eKE]
   cases (decide (m=7))<;>rfl
  rintro _ rfl
  have gK:0≤KE∧KE<18446744073709551616:=by
   rw [eKE,← hK1,eK0]
   cases (decide (m=7))<;>cases (K==2)<;>cases (decide (d.toNat % 4=3))
   all_goals first | exact Kerb.long_bd _ | exact Kerb.session_bd2 _
  have gW:WA.name.length≤9223372036854775807∧WA.inst.length≤9223372036854775807:=by
   rw [eWA]
   cases (decide (m=11))
   ·exact ⟨(Kerb.service_dec _).1,(Kerb.service_dec _).2.1⟩
   ·exact (show (Kerb.tgs [65,84,72] [66,79,83]).name.length≤9223372036854775807∧(Kerb.tgs [65,84,72] [66,79,83]).inst.length≤9223372036854775807 by decide)
  have gU:US.name.length≤9223372036854775807∧US.inst.length≤9223372036854775807∧US.realm.length≤9223372036854775807:=by
   rw [← hUS]
   cases (decide (m=4))<;>exact Kerb.user_dec _
  have gR:(R0.user.name.length≤9223372036854775807∧R0.user.inst.length≤9223372036854775807∧R0.user.realm.length≤9223372036854775807)∧R0.realm.length≤9223372036854775807∧R0.service.length≤9223372036854775807∧R0.inst.length≤9223372036854775807:=by
   rw [eR0]
   cases (K==2)
   ·exact ⟨gU,by simp,by simp,by simp⟩
   ·refine ⟨⟨by simp [Vq],by simp [Vq],by simp [Vq]⟩,?_,gW.1,gW.2⟩
    cases (decide (m=9))<;>simp
  have lQ:(Yv (Kerb.KAsk.req (Yu o u s e n t p i l a w d hw))).val.length≤1000000:=by have:=Kerb.encKaReq_len (Kerb.KAsk.req (Yu o u s e n t p i l a w d hw));omega
  have eQ:Kerb.KAsk.req (Yu o u s e n t p i l a w d hw)={ R0 with box:=(Vd 7 KE BODY).val }:=by rw [← hR0,← hKE,← hBODY];exact Kerb.KAsk.req_c (Yu o u s e n t p i l a w d hw)
  have eM:=Kerb.KAsk.message_c (Yu o u s e n t p i l a w d hw) hm
  rw [eM,eQ]
  rw [eQ] at lQ
  simp (config:={maxSteps:=10000000}) only [gK,gR,lQ,decide_true,Yg,f0,f1,f2,f4,f5,f6,f7,f8,f9,f10,f11,f12,f13,g1,g2,g3,g4,g5,g6,g7,g8,g9,qd,q1,q2,q3,q4,q5,q6,q7,q8,q9,q10,q11,q15,↓sInt,↓sU8,↓sBool,↓sStr,↓sBs,↓sSl,↓sAgg,↓sTup,↓sCons,↓sNil,↓sNilB,↓sChk,↓sChkBind,↓sSome]
  cases (decide (m=15))<;>simp only [lQ,g9,decide_true,Yg,Bool.true_and,cond_true,cond_false,↓A0,A0]
 ·cases h
theorem w56:Walked Tryz.prog G 56 7 sp56:=by
 refine ⟨Tryz.f56,Tryz.func56,by decide +kernel,rfl,fun xs bl r h=> ?_⟩
 unfold sp56 at h
 split at h
 ·rename_i a b c
  obtain ⟨hpre,h2⟩:=chk_inv h;cases h2
  refine Eq.trans (b:=(Zw (chk (decide (Zx a≤9223372036854775807)) (some (Zm (Wg a),[]))) fun (r:AV×Blocks)=>onNilB (Yw r) (AV.onBool (Yk r) fun b_1=>sel b_1 (Zw (chk (decide (Zx b≤9223372036854775807)) (some (Zm (Wx b),[]))) fun (r:AV×Blocks)=>onNilB (Yw r) (AV.onBool (Yk r) fun b=>sel b (Zw (chk (decide (Zx c≤9223372036854775807)) (some (Zm (Wq c),[]))) fun (r:AV×Blocks)=>onNilB (Yw r) (AV.onBool (Yk r) fun b=>some (Zm b,[]))) (some (Zm false,[])))) (some (Zm false,[]))):Option (AV×Blocks))) (by kernel_rfl) ?_
  simp only [Yz,decide_eq_true_eq] at hpre
  simp only [A0]
  rw [chk_of (by simp;omega),chk_of (by simp;omega),chk_of (by simp;omega)]
  simp only [Xw]
  cases Wg a<;>cases Wx b<;>rfl
 ·cases h
theorem w149:Walked Tryz.prog G 149 7 sp149:=by
 refine ⟨Tryz.f149,Tryz.func149,by decide +kernel,rfl,fun xs bl r h=> ?_⟩
 unfold sp149 at h
 split at h
 ·rename_i bd lb op u1 u2 u3 kv qr tk sv ins bx rl els now ad sk se
  obtain ⟨hpre,h2⟩:=chk_inv h;cases h2
  show runFnH (G.env 149 7) G.rts (G.own 149) Tryz.f149 _ _ [0]=_
  refine Eq.trans (b:=(let t0:List (List AV):=[[Zz .i64 op,Zy u1,Zy u2,Zy u3,Zz .i64 kv,Zy qr,Zp tk,Zy sv,Zy ins,Zp bx,Zy rl,Wn 9 els,Zz .i64 now,Zz .i64 ad,Zz .i64 sk,Zz .u64 se]];let t2:AV:=Xy [Zy [],Zz .i64 0,Zz .i64 0,Zz .i64 0,Zz .u64 0];let t1:Option (AV×Blocks):=some (Zb [t2,Zz .i64 80],t0);Zw (chk (decide (Zx bd≤140737488355328)) (some (Zb [Xy [Zy (Kerb.KaSecret.label (Vn (Xm bd))),Zz .i64 (Kerb.KaSecret.time (Vn (Xm bd))),Zz .i64 (Kerb.KaSecret.start (Vn (Xm bd))),Zz .i64 (Kerb.KaSecret.stop (Vn (Xm bd))),Zz .u64 (Kerb.KaSecret.new (Vn (Xm bd)))],Zz .i64 (Kerb.Dec.err (Xm bd))],[]))) (kT fun vs=>onCons vs fun x r=>Wm x fun cs=>cStr cs fun b r_1=>cInt .i64 r_1 fun n r_2=>cInt .i64 r_2 fun n_1 r_3=>cInt .i64 r_3 fun n_2 r_4=>cInt .u64 r_4 fun n_3 r_5=>onNil r_5 (cInt .i64 r fun n_4 r=>onNil r (sel (!n_4==0) t1 (sel (!b==lb) t1 (sel (!Kerb.near n now sk) (some (Zb [t2,Zz .i64 37],t0)) (some (Zb [Xy [Zy b,Zz .i64 n,Zz .i64 n_1,Zz .i64 n_2,Zz .u64 n_3],Zz .i64 0],t0))))))):Option (AV×Blocks))) (by kernel_rfl) ?_
  delta kT
  try dsimp only [cStr,cBs,cBool,cU8,cInt,cSl,l63]
  simp only [Yz,decide_eq_true_eq] at hpre
  have hb:decide (bd.length≤140737488355328)=true:=by simp;omega
  simp only [hb,↓A0,A0]
  unfold Kerb.kaSecretOf
  generalize Xm bd=D
  by_cases h1:D.err=0
  case neg=>rw [sel_pos (by simpa using h1),if_pos (.inl h1)];rfl
  by_cases h2:D.val.label=lb
  case neg=>rw [sel_neg (by simpa using h1),sel_pos (by simpa using h2),if_pos (.inr h2)];rfl
  rw [sel_neg (by simpa using h1),sel_neg (by simp [h2]),if_neg (by simp [h1,h2])]
  cases hn:Kerb.near D.val.time now sk
  ·rfl
  ·rfl
 ·cases h
theorem w150:Walked Tryz.prog G 150 7 sp150:=by
 refine ⟨Tryz.f150,Tryz.func150,by decide +kernel,rfl,fun xs bl r h=> ?_⟩
 unfold sp150 at h
 split at h
 ·rename_i rl els xls n i now
  obtain ⟨hpre,h2⟩:=chk_inv h;cases h2
  refine Eq.trans (b:=(let t0:Option (AV×Blocks):=Zw (chk (List.all els Uz&&decide (Zx els≤1000000)) (some (Zb [Zz .i64 (Yk (Uj (Wj rl (Xf Xk els)) n i now)),Zz .i64 (Yw (Uj (Wj rl (Xf Xk els)) n i now))],[]))) (kT fun vs=>cInt .i64 vs fun n r=>cInt .i64 r fun n_1 r=>onNil r (sel (!n_1==0) (some (Zb [Zz .u64 0,Zz .i64 0,Zz .i64 0,Zz .i64 0,Zz .i64 n_1],[])) (chk (decide (0≤n)&&decide (n<(↑(Zx els):Int))&&true) (Wm (Vm els (Ym n) Uk) fun cs=>cStr cs fun b r=>cStr r fun b r=>cInt .u64 r fun n r=>cInt .i64 r fun n_2 r=>cInt .i64 r fun n_3 r=>cInt .i64 r fun n_4 r=>cInt .i64 r fun n_5 r=>cInt .i64 r fun n_6 r=>cInt .i64 r fun n_7 r=>onNil r (some (Zb [Zz .u64 n,Zz .i64 n_2,Zz .i64 n_4,Zz .i64 n_3,Zz .i64 0],[]))))));sel (n==Uq) (Zw (chk (l63 i) (some (Zm (Wq i),[]))) (kL fun b=>sel b (sel (!i==rl) (Zw (chk (List.all xls Kerb.isCross&&decide (Zx xls≤1000000)) (some (Zb [Zz .i64 (Yk (Uy (Xf Kerb.toCross xls) rl i)),Zm (Yw (Uy (Xf Kerb.toCross xls) rl i))],[]))) (kT fun vs=>cInt .i64 vs fun n r=>cBool r fun b r=>onNil r (sel (!b) (some (Zb [Zz .u64 0,Zz .i64 0,Zz .i64 0,Zz .i64 0,Zz .i64 8],[])) (chk (decide (0≤n)&&decide (n<(↑(Zx xls):Int))&&true) (Wm (Vm xls (Ym n) Uk) fun cs=>cStr cs fun b r=>cStr r fun b r=>cInt .i64 r fun n_1 r=>cInt .u64 r fun n_2 r=>onNil r (chk (decide (0≤n)&&decide (n<(↑(Zx xls):Int))&&true) (Wm (Vm xls (Ym n) Uk) fun cs=>cStr cs fun b r=>cStr r fun b r=>cInt .i64 r fun n r=>cInt .u64 r fun n_3 r=>onNil r (some (Zb [Zz .u64 n_2,Zz .i64 n,Zz .i64 255,Zz .i64 0,Zz .i64 0],[]))))))))) t0) t0)) t0:Option (AV×Blocks))) (by kernel_rfl) ?_
  delta kT kL
  try dsimp only [cStr,cBs,cBool,cU8,cInt,cSl,l63]
  simp only [Yz,decide_eq_true_eq] at hpre
  obtain ⟨⟨⟨⟨hall,hlen⟩,hx⟩,hxl⟩,hi⟩:=hpre
  obtain ⟨es,rfl,hok⟩:=Kerb.ents_of hall
  obtain ⟨cs,rfl⟩:=Kerb.cross_of hx
  rw [Uv,Kerb.map_toCross]
  simp only [hall,hlen,hx,hxl,hi,decide_true,Yg,↓A0,A0]
  simp only [Wu] at hlen hxl ⊢
  unfold Kerb.svc
  dsimp only
  have hkr:(n==[(107:UInt8),(114:UInt8),(98:UInt8),(116:UInt8),(103:UInt8),(116:UInt8)])=(n==Uq):=rfl
  try rw [hkr]
  cases n==Uq
  ·simp only [Zn,Xg,sel_true,sel_false]
   by_cases he:(Uj ⟨rl,es⟩ n i now).2=0
   case neg=>rw [sel_pos (by simpa using he),if_neg (by simp),if_pos he]
   obtain ⟨u1,u2⟩:=Kerb.serv_lt he
   dsimp only at u2
   rw [sel_neg (by simpa using he),if_neg (by simp),if_neg (by simpa using he),chk_of (by simp;omega),Vx u2]
   simp only [Yf,↓A0,A0]
  cases Wq i
  ·simp only [Zn,Xg,sel_true,sel_false]
   by_cases he:(Uj ⟨rl,es⟩ n i now).2=0
   case neg=>rw [sel_pos (by simpa using he),if_neg (by simp),if_pos he]
   obtain ⟨u1,u2⟩:=Kerb.serv_lt he
   dsimp only at u2
   rw [sel_neg (by simpa using he),if_neg (by simp),if_neg (by simpa using he),chk_of (by simp;omega),Vx u2]
   simp only [Yf,↓A0,A0]
  cases i==rl
  ·simp only [Zn,Xg,sel_true,sel_false]
   by_cases he:(Uy cs rl i).2=true
   ·obtain ⟨u1,u2⟩:=Kerb.findCross_lt he
    have hk:(decide (0≤(Uy cs rl i).1)&&decide ((Uy cs rl i).1<(cs.length:Int))&&true)=true:=by simp;omega
    simp only [he,hk,Kerb.getD_cross u2,Kerb.Cross.av,Zn,Yg,Xg,if_true,↓A0,A0]
   ·have he2:(Uy cs rl i).2=false:=by simpa using he
    rw [he2]
    rfl
  ·simp only [Zn,Xg,sel_true,sel_false]
   by_cases he:(Uj ⟨rl,es⟩ n i now).2=0
   case neg=>rw [sel_pos (by simpa using he),if_neg (by simp),if_pos he]
   obtain ⟨u1,u2⟩:=Kerb.serv_lt he
   dsimp only at u2
   rw [sel_neg (by simpa using he),if_neg (by simp),if_neg (by simpa using he),chk_of (by simp;omega),Vx u2]
   simp only [Yf,↓A0,A0]
 ·cases h
theorem w253:Walked Tryz.prog G 253 7 sp253:=by
 refine ⟨Tryz.f253,Tryz.func253,by decide +kernel,rfl,fun xs bl r h=> ?_⟩
 unfold sp253 at h
 split at h
 ·rename_i rl els
  obtain ⟨hpre,h2⟩:=chk_inv h;cases h2
  refine Eq.trans (b:=(Zw (chk (l63 rl) (some (Zm (Wq rl),[]))) (kL fun b=>sel (!b) (some (Zz .i64 103,[])) (sel (decide ((↑(Zx els):Int)>60)) (some (Zz .i64 106,[])) (Zw (loopM (fun (st:List AV)=>cStr st fun b r=>cSl 9 r fun b_1 r=>cInt .i64 r fun n r=>cSl 9 r fun b_2 r=>cInt .i64 r fun n_1 r=>cInt .i64 r fun n_2 r=>let t0:Option (List AV ⊕ Ex×List AV):=some (Sum.inl [Zy b,Wn 9 b_1,Zz .i64 n,Wn 9 b_2,Zz .i64 n_1,Zz .i64 (Zd .i64 (n_2+1))]);let t1:List AV:=[Wn 9 b_2,Zz .i64 n_1,Zz .i64 n_2];onNil r (sel (decide (n_2<n_1)) (chk (decide (0≤n_2)&&decide (n_2<(↑(Zx b_2):Int))&&true) (Wm (Vm b_2 (Ym n_2) Uk) fun cs=>cStr cs fun b_3 r=>cStr r fun b_4 r=>cInt .u64 r fun n r=>cInt .i64 r fun n_3 r=>cInt .i64 r fun n_4 r=>cInt .i64 r fun n_5 r=>cInt .i64 r fun n_6 r=>cInt .i64 r fun n_7 r=>cInt .i64 r fun n_8 r=>onNil r (Zw (chk (l63 b_3&&l63 b_4&&Kerb.isU64 n) (some (Zz .i64 (Kerb.Entry.err (Wv b_3 b_4 n n_3 n_4 n_5 n_6 n_7 n_8)),[]))) (kI .i64 fun n=>sel (!n==0) (some (Sum.inr (Ex.ret,Zy b::Wn 9 b_1::Zz .i64 n::t1))) (sel (decide (n_2>0)) (chk (decide (0≤Zd .i64 (n_2-1))&&decide (Zd .i64 (n_2-1)<(↑(Zx b_1):Int))&&true) (Wm (Vm b_1 (Ym (Zd .i64 (n_2-1))) Uk) fun cs=>cStr cs fun b_5 r=>cStr r fun b_6 r=>cInt .u64 r fun n r=>cInt .i64 r fun n r=>cInt .i64 r fun n r=>cInt .i64 r fun n r=>cInt .i64 r fun n r=>cInt .i64 r fun n r=>cInt .i64 r fun n r=>onNil r (sel (decide ((if Kerb.cmpB b_3 b_5=0 then Kerb.cmpB b_4 b_6 else Kerb.cmpB b_3 b_5)<0)) (some (Sum.inr (Ex.ret,Zy b::Wn 9 b_1::Zz .i64 110::t1))) t0))) t0))))) (some (Sum.inr (Ex.exit 0,Zy b::Wn 9 b_1::Zz .i64 n::t1))))) [Zy rl,Wn 9 els,Zz .i64 0,Wn 9 els,Zz .i64 (↑(Zx els):Int),Zz .i64 0]) fun (r:Ex×List AV)=>cStr (Yw r) fun b r_1=>cSl 9 r_1 fun b r_2=>cInt .i64 r_2 fun n r_3=>cSl 9 r_3 fun b r_4=>cInt .i64 r_4 fun n_1 r_5=>cInt .i64 r_5 fun n_2 r_6=>onNil r_6 (exK r.1 (some (Zz .i64 n,[])) fun (j:Nat)=>sel (Nat.beq j 0) (some (Zz .i64 0,[])) none)))):Option (AV×Blocks))) (by kernel_rfl) ?_
  delta kL kI
  try dsimp only [cStr,cBs,cBool,cU8,cInt,cSl,l63]
  simp only [Yz,decide_eq_true_eq] at hpre
  obtain ⟨⟨hr,hall⟩,hlen⟩:=hpre
  obtain ⟨es,rfl,hok⟩:=Kerb.ents_of hall
  rw [Uv]
  simp only [Wu] at hlen
  unfold Vv
  simp only [hr,decide_true,↓A0,A0,Wu]
  cases hv:Wq rl
  ·rfl
  simp only [Zn,Xg,sel_true,sel_false]
  rw [if_neg (by simp)]
  by_cases h60:60<es.length
  ·rw [sel_pos (by simp;omega),if_pos h60]
  rw [sel_neg (by simp;omega),if_neg h60]
  have hex:∃ z,Kerb.entriesErr none es=z:=⟨_,rfl⟩
  obtain ⟨z,hz⟩:=hex
  rw [hz]
  refine loop_rounds (fun i:Nat=>[Zy rl,Wn 9 (es.map Yf),Zz Zk 0,Wn 9 (es.map Yf),Zz Zk (es.length:Int),Zz Zk (i:Int)]) (fun i=>i≤es.length∧Kerb.entriesErr (Kerb.prevOf es i) (es.drop i)=z) (fun i=>es.length-i)
   (fun r=>∃ (e:Int) (i:Nat),r.2=[Zy rl,Wn 9 (es.map Yf),Zz Zk e,Wn 9 (es.map Yf),Zz Zk (es.length:Int),Zz Zk (i:Int)]∧((r.1 = .ret∧e=z)∨(r.1 = .exit 0∧z=0))) 0 ⟨Nat.zero_le _,hz⟩ rfl ?_ ?_
  ·rintro i ⟨hi,hinv⟩
   simp only [↓A0,A0,Wu]
   rcases Nat.lt_or_ge i es.length with h | h
   ·rw [Kerb.errs_step h] at hinv
    have hx:=hok _ (Kerb.ent_mem h)
    rw [sel_pos (by simp;omega),chk_of (by simp;omega),Int.toNat_natCast,Vx h]
    obtain ⟨n,hn⟩:∃ e,es.getD i Uf=e:=⟨_,rfl⟩
    rw [hn] at hinv hx ⊢
    obtain ⟨x1,x2,x3,_⟩:=hx
    simp only [Yf,↓A0,A0,x1,x2,x3,decide_true,Yg]
    by_cases he:n.err=0
    ·rw [sel_neg (by simpa using he)]
     rw [if_neg (by simpa using he)] at hinv
     by_cases h0:0<i
     ·have hp:Kerb.prevOf es i=some (es.getD (i-1) Uf):=by rw [Kerb.prevOf,if_neg (by omega)]
      rw [hp] at hinv
      have hw:Zd .i64 ((i:Int)-1)=((i-1:Nat):Int):=by rw [wrap_i64 (by omega) (by omega)];omega
      rw [sel_pos (by simpa using h0),hw]
      rw [chk_of (by simp;omega),Int.toNat_natCast,Vx (by omega)]
      obtain ⟨m,hm⟩:∃ e,es.getD (i-1) Uf=e:=⟨_,rfl⟩
      rw [hm] at hinv ⊢
      simp only [Yf,↓A0,A0]
      rw [Kerb.cmp_less n m]
      by_cases hl:n.less m=true
      ·rw [sel_pos (by simpa using hl)]
       rw [if_pos hl] at hinv
       exact ⟨_,rfl,110,i,rfl,.inl ⟨rfl,hinv⟩⟩
      ·rw [sel_neg (by simpa using hl),wrap_i64 (by omega) (by omega)]
       rw [if_neg hl] at hinv
       exact ⟨_,rfl,i+1,rfl,⟨by omega,hinv⟩,by dsimp only;omega⟩
     ·have hp:Kerb.prevOf es i=none:=by rw [Kerb.prevOf,if_pos (by omega)]
      rw [hp] at hinv
      rw [sel_neg (by simpa using h0),wrap_i64 (by omega) (by omega)]
      rw [if_neg (by simp)] at hinv
      exact ⟨_,rfl,i+1,rfl,⟨by omega,hinv⟩,by dsimp only;omega⟩
    ·rw [sel_pos (by simpa using he)]
     rw [if_pos (by simpa using he)] at hinv
     exact ⟨_,rfl,n.err,i,rfl,.inl ⟨rfl,hinv⟩⟩
   ·rw [sel_neg (by simp;omega)]
    rw [List.drop_eq_nil_of_le h] at hinv
    exact ⟨_,rfl,0,i,rfl,.inr ⟨rfl,by rw [← hinv];rfl⟩⟩
  ·rintro ⟨e,l⟩ ⟨e2,i,rfl,⟨rfl,rfl⟩ | ⟨rfl,h⟩⟩
   ·rfl
   ·rw [h];rfl
 ·cases h
theorem w184:Walked Tryz.prog G 184 8 sp184:=by
 refine ⟨Tryz.f184,Tryz.func184,by decide +kernel,rfl,fun xs bl r h=> ?_⟩
 unfold sp184 at h
 split at h
 ·rename_i op ux uy uz kv rl tk sv ins bx
  obtain ⟨hpre,h2⟩:=chk_inv h;cases h2
  refine Eq.trans (b:=(sel (!Kerb.kaOp op) (some (Zz .i64 40,[])) (sel (!op==2) (Zw (chk (l63 ux&&l63 uy&&l63 uz) (some (Zm (Xw (Yy ux uy uz)),[]))) (kL fun b=>sel (!b) (some (Zz .i64 103,[])) (sel (decide ((↑(Zx bx):Int)>1012)) (some (Zz .i64 105,[])) (sel (!kv==0) (some (Zz .i64 108,[])) (sel (!rl==[]) (some (Zz .i64 108,[])) (sel (decide ((↑(Zx tk):Int)>0)) (some (Zz .i64 108,[])) (sel (!sv==[]) (some (Zz .i64 108,[])) (sel (!ins==[]) (some (Zz .i64 108,[])) (some (Zz .i64 0,[])))))))))) (Zw (chk (l63 rl) (some (Zm (Wq rl),[]))) (kL fun b=>sel (!b) (some (Zz .i64 103,[])) (Zw (chk (l63 sv) (some (Zm (Wg sv),[]))) (kL fun b=>sel (!b) (some (Zz .i64 103,[])) (Zw (chk (l63 ins) (some (Zm (Wx ins),[]))) (kL fun b=>sel (!b) (some (Zz .i64 103,[])) (sel (!Zg kv 255) (some (Zz .i64 104,[])) (sel (decide ((↑(Zx tk):Int)>255)) (some (Zz .i64 105,[])) (sel (decide ((↑(Zx bx):Int)>1012)) (some (Zz .i64 105,[])) (sel (!(ux==[]&&(uy==[]&&uz==[]))) (some (Zz .i64 108,[])) (some (Zz .i64 0,[]))))))))))))):Option (AV×Blocks))) (by kernel_rfl) ?_
  delta kL
  try dsimp only [cStr,cBs,cBool,cU8,cInt,cSl,l63]
  simp only [Yz,decide_eq_true_eq] at hpre
  simp only [A0]
  rw [chk_of (by simp;omega),chk_of (by simp;omega),chk_of (by simp;omega),chk_of (by simp;omega)]
  unfold Yv
  simp only
  cases h0:Kerb.kaOp op
  ·rfl
  rw [Zn,sel_false,if_neg (by simp)]
  cases h1:(op==2)
  ·rw [Xg,sel_true,if_neg (by simp)]
   cases h2:Xw ⟨ux,uy,uz⟩
   ·rfl
   rw [Zn,sel_false,if_neg (by simp)]
   by_cases h3:1012<bx.length
   ·rw [sel_pos (by simp;omega),if_pos h3]
   rw [sel_neg (by simp;omega),if_neg h3]
   by_cases h4:kv=0
   case neg=>rw [sel_pos (by simpa using h4),if_pos (.inl h4)]
   rw [sel_neg (by simp [h4])]
   by_cases h5:rl=[]
   case neg=>rw [sel_pos (by simpa using h5),if_pos (.inr (.inl h5))]
   rw [sel_neg (by simp [h5])]
   by_cases h6:tk=[]
   case neg=>rw [sel_pos (by have:=List.length_pos_iff.2 h6;simp;omega),if_pos (.inr (.inr (.inl h6)))]
   rw [sel_neg (by simp [h6])]
   by_cases h7:sv=[]
   case neg=>rw [sel_pos (by simpa using h7),if_pos (.inr (.inr (.inr (.inl h7))))]
   rw [sel_neg (by simp [h7])]
   by_cases h8:ins=[]
   case neg=>rw [sel_pos (by simpa using h8),if_pos (.inr (.inr (.inr (.inr h8))))]
   rw [sel_neg (by simp [h8]),if_neg (by simp [h4,h5,h6,h7,h8])]
  ·rw [Zn,sel_false,if_pos rfl]
   cases h2:Wq rl
   ·rfl
   rw [Zn,sel_false]
   cases h3:Wg sv
   ·rfl
   rw [Zn,sel_false]
   cases h4:Wx ins
   ·rfl
   rw [Zn,sel_false,if_neg (by simp)]
   cases h5:Zg kv 255
   ·rfl
   rw [Zn,sel_false,if_neg (by simp)]
   by_cases h6:255<tk.length
   ·rw [sel_pos (by simp;omega),if_pos (.inl h6)]
   rw [sel_neg (by simp;omega)]
   by_cases h7:1012<bx.length
   ·rw [sel_pos (by simp;omega),if_pos (.inr h7)]
   rw [sel_neg (by simp;omega),if_neg (by omega)]
   show sel (!(Kerb.Prin.isNo ⟨ux,uy,uz⟩)) _ _=_
   cases Kerb.Prin.isNo ⟨ux,uy,uz⟩<;>rfl
 ·cases h
theorem w215:Walked Tryz.prog G 215 8 sp215:=by
 refine ⟨Tryz.f215,Tryz.func215,by decide +kernel,rfl,fun xs bl r h=> ?_⟩
 unfold sp215 at h
 split at h
 ·rename_i b pos
  obtain ⟨hpre,h2⟩:=chk_inv h;cases h2
  refine Eq.trans (b:=(Zw (loopM (fun (st:List AV)=>cBs st fun b r=>cInt .i64 r fun n r=>let t0:Option (AV×Blocks):=chk (decide (Zx b≤4611686018427387904)) (some (Zb [Zy (Kerb.GotB.val (Wb b n)),Zz .i64 (Kerb.GotB.next (Wb b n)),Zz .i64 (Kerb.GotB.err (Wb b n))],[]));cStr r fun b_1 r=>cStr r fun b_2 r=>cStr r fun b_3 r=>cInt .i64 r fun n_1 r=>cInt .i64 r fun n_2 r=>cStr r fun b_4 r=>cStr r fun b_5 r=>cStr r fun b_6 r=>cInt .i64 r fun n_3 r=>cInt .i64 r fun n_4 r=>let t1:List AV:=[Zy b_6,Zz .i64 n_3,Zz .i64 (Zd .i64 (n_4+1))];onNil r (sel (decide (n_4<n_3)) (chk (decide (0≤n_4)&&decide (n_4<(↑(Zx [0,1,2]):Int))&&true) (sel (Nat.beq (Ym n_4) 0) (Zw t0 (kT fun vs=>cStr vs fun b_7 r=>cInt .i64 r fun n r=>cInt .i64 r fun n_5 r=>onNil r (sel (!n_5==0) (some (Sum.inr (Ex.ret,[Zp b,Zz .i64 n,Zy [],Zy [],Zy [],Zz .i64 0,Zz .i64 n_5,Zy b_7,Zy b_5,Zy b_6,Zz .i64 n_3,Zz .i64 n_4]))) (some (Sum.inl (Zp b::Zz .i64 n::Zy b_1::Zy b_2::Zy b_3::Zz .i64 n_1::Zz .i64 n_2::Zy b_7::Zy b_5::t1)))))) (sel (Nat.beq (Ym n_4-1) 0) (Zw t0 (kT fun vs=>cStr vs fun b_7 r=>cInt .i64 r fun n r=>cInt .i64 r fun n_5 r=>onNil r (sel (!n_5==0) (some (Sum.inr (Ex.ret,[Zp b,Zz .i64 n,Zy [],Zy [],Zy [],Zz .i64 0,Zz .i64 n_5,Zy b_4,Zy b_7,Zy b_6,Zz .i64 n_3,Zz .i64 n_4]))) (some (Sum.inl (Zp b::Zz .i64 n::Zy b_1::Zy b_2::Zy b_3::Zz .i64 n_1::Zz .i64 n_2::Zy b_4::Zy b_7::t1)))))) (sel (Nat.beq (Ym n_4-1-1) 0) (Zw t0 (kT fun vs=>cStr vs fun b_7 r=>cInt .i64 r fun n r=>cInt .i64 r fun n_5 r=>onNil r (sel (!n_5==0) (some (Sum.inr (Ex.ret,[Zp b,Zz .i64 n,Zy [],Zy [],Zy [],Zz .i64 0,Zz .i64 n_5,Zy b_4,Zy b_5,Zy b_7,Zz .i64 n_3,Zz .i64 n_4]))) (some (Sum.inl [Zp b,Zz .i64 n,Zy b_1,Zy b_2,Zy b_3,Zz .i64 n_1,Zz .i64 n_2,Zy b_4,Zy b_5,Zy b_7,Zz .i64 n_3,Zz .i64 (Zd .i64 (n_4+1))]))))) none)))) (some (Sum.inr (Ex.exit 0,[Zp b,Zz .i64 n,Zy b_1,Zy b_2,Zy b_3,Zz .i64 n_1,Zz .i64 n_2,Zy b_4,Zy b_5,Zy b_6,Zz .i64 n_3,Zz .i64 n_4]))))) [Zp b,Zz .i64 pos,Zy [],Zy [],Zy [],Zz .i64 0,Zz .i64 0,Zy [],Zy [],Zy [],Zz .i64 (↑(Zx [0+0,0+1,0+2]):Int),Zz .i64 0]) fun (r:Ex×List AV)=>cBs (Yw r) fun b r_1=>cInt .i64 r_1 fun n r_2=>cStr r_2 fun b r_3=>cStr r_3 fun b_1 r_4=>cStr r_4 fun b_2 r_5=>cInt .i64 r_5 fun n_1 r_6=>cInt .i64 r_6 fun n_2 r_7=>cStr r_7 fun b_3 r_8=>cStr r_8 fun b_4 r_9=>cStr r_9 fun b_5 r_10=>cInt .i64 r_10 fun n_3 r_11=>cInt .i64 r_11 fun n_4 r_12=>onNil r_12 (exK r.1 (some (Zb [Xy [Zy b,Zy b_1,Zy b_2],Zz .i64 n_1,Zz .i64 n_2],[])) fun (j:Nat)=>sel (Nat.beq j 0) (Zw (chk (l63 b_3&&l63 b_4&&l63 b_5) (some (Zm (Xw (Yy b_3 b_4 b_5)),[]))) (kL fun b=>sel (!b) (some (Zb [Xy [Zy [],Zy [],Zy []],Zz .i64 0,Zz .i64 103],[])) (some (Zb [Xy [Zy b_3,Zy b_4,Zy b_5],Zz .i64 n,Zz .i64 0],[])))) none):Option (AV×Blocks))) (by kernel_rfl) ?_
  delta kT kL
  try dsimp only [cStr,cBs,cBool,cU8,cInt,cSl,l63]
  have hb:=of_decide_eq_true hpre
  obtain ⟨T0,hT0⟩:∃ T,T=Wb b pos:=⟨_,rfl⟩
  obtain ⟨T1,hT1⟩:∃ T,T=Wb b T0.next:=⟨_,rfl⟩
  obtain ⟨T2,hT2⟩:∃ T,T=Wb b T1.next:=⟨_,rfl⟩
  have hp:Xd b pos=if T0.err≠0 then ⟨Vq,0,T0.err⟩ else if T1.err≠0 then ⟨Vq,0,T1.err⟩ else if T2.err≠0 then ⟨Vq,0,T2.err⟩
    else if Xw ⟨T0.val,T1.val,T2.val⟩ then ⟨⟨T0.val,T1.val,T2.val⟩,T2.next,0⟩ else ⟨Vq,0,103⟩:=by
   rw [hT2,hT1,hT0];rfl
  have k0:=Kerb.text_len b pos
  rw [← hT0] at k0
  have k1:=Kerb.text_len b T0.next
  rw [← hT1] at k1
  have k2:=Kerb.text_len b T1.next
  rw [← hT2] at k2
  refine loop_rounds (fun i:Nat=>match i with
    | 0=>[Zp b,Zz Zk pos,Zy [],Zy [],Zy [],Zz Zk 0,Zz Zk 0,Zy [],Zy [],Zy [],Zz Zk 3,Zz Zk 0]
    | 1=>[Zp b,Zz Zk T0.next,Zy [],Zy [],Zy [],Zz Zk 0,Zz Zk 0,Zy T0.val,Zy [],Zy [],Zz Zk 3,Zz Zk 1]
    | 2=>[Zp b,Zz Zk T1.next,Zy [],Zy [],Zy [],Zz Zk 0,Zz Zk 0,Zy T0.val,Zy T1.val,Zy [],Zz Zk 3,Zz Zk 2]
    | _=>[Zp b,Zz Zk T2.next,Zy [],Zy [],Zy [],Zz Zk 0,Zz Zk 0,Zy T0.val,Zy T1.val,Zy T2.val,Zz Zk 3,Zz Zk 3])
   (fun i=>i≤3∧(1≤i→T0.err=0)∧(2≤i→T1.err=0)∧(3≤i→T2.err=0)) (fun i=>3-i)
   (fun r=>(T0.err=0∧T1.err=0∧T2.err=0∧r=(Ex.exit 0,[Zp b,Zz Zk T2.next,Zy [],Zy [],Zy [],Zz Zk 0,Zz Zk 0,Zy T0.val,Zy T1.val,Zy T2.val,Zz Zk 3,Zz Zk 3])) ∨
    ∃ n x y z i,Xd b pos=⟨Vq,0,(Xd b pos).err⟩∧r=(Ex.ret,[Zp b,Zz Zk n,Zy [],Zy [],Zy [],Zz Zk 0,Zz Zk (Xd b pos).err,Zy x,Zy y,Zy z,Zz Zk 3,Zz Zk i])) 0 ⟨by omega,by omega,by omega,by omega⟩ rfl ?_ ?_
  ·rintro i ⟨hi,g0,g1,g2⟩
   have hc:i=0∨i=1∨i=2∨i=3:=by omega
   rcases hc with rfl | rfl | rfl | rfl
   ·simp only [A0]
    rw [sel_pos (by decide),chk_of (by decide),sel_pos (by decide),chk_of hpre,← hT0]
    by_cases h:T0.err=0
    ·rw [sel_neg (by simp [h])]
     exact ⟨_,rfl,1,rfl,⟨by omega,fun _=>h,by omega,by omega⟩,by dsimp only;omega⟩
    ·rw [sel_pos (by simpa using h)]
     exact ⟨_,rfl,.inr ⟨_,_,_,_,_,by rw [hp,if_pos h],by rw [hp,if_pos h]⟩⟩
   ·simp only [A0]
    have e0:=g0 (by omega)
    rw [sel_pos (by decide),chk_of (by decide),sel_neg (by decide),sel_pos (by decide),chk_of hpre,← hT1]
    by_cases h:T1.err=0
    ·rw [sel_neg (by simp [h])]
     exact ⟨_,rfl,2,rfl,⟨by omega,fun _=>e0,fun _=>h,by omega⟩,by dsimp only;omega⟩
    ·rw [sel_pos (by simpa using h)]
     exact ⟨_,rfl,.inr ⟨_,_,_,_,_,by rw [hp,if_neg (by simp [e0]),if_pos h],by rw [hp,if_neg (by simp [e0]),if_pos h]⟩⟩
   ·simp only [A0]
    have e0:=g0 (by omega)
    have e1:=g1 (by omega)
    rw [sel_pos (by decide),chk_of (by decide),sel_neg (by decide),sel_neg (by decide),sel_pos (by decide),chk_of hpre,← hT2]
    by_cases h:T2.err=0
    ·rw [sel_neg (by simp [h])]
     exact ⟨_,rfl,3,rfl,⟨by omega,fun _=>e0,fun _=>e1,fun _=>h⟩,by dsimp only;omega⟩
    ·rw [sel_pos (by simpa using h)]
     exact ⟨_,rfl,.inr ⟨_,_,_,_,_,by rw [hp,if_neg (by simp [e0]),if_neg (by simp [e1]),if_pos h],by rw [hp,if_neg (by simp [e0]),if_neg (by simp [e1]),if_pos h]⟩⟩
   ·simp only [A0]
    rw [sel_neg (by decide)]
    exact ⟨_,rfl,.inl ⟨g0 (by omega),g1 (by omega),g2 (by omega),rfl⟩⟩
  ·rintro r (⟨e0,e1,e2,rfl⟩ | ⟨n,x,y,z,i,h,rfl⟩)
   ·simp only [A0]
    rw [sel_pos (Nat.beq_refl _),chk_of (by simp;omega),hp,if_neg (by simp [e0]),if_neg (by simp [e1]),if_neg (by simp [e2])]
    cases hv:Xw ⟨T0.val,T1.val,T2.val⟩
    ·rfl
    ·rfl
   ·simp only [A0]
    rw [h]
    rfl
 ·cases h
theorem w228:Walked Tryz.prog G 228 8 sp228:=by
 refine ⟨Tryz.f228,Tryz.func228,by decide +kernel,rfl,fun xs bl r h=> ?_⟩
 unfold sp228 at h
 split at h
 ·rename_i rl els i
  obtain ⟨hpre,h2⟩:=chk_inv h;cases h2
  refine Eq.trans (b:=(Zw (chk (decide (Zx rl≤9223372036854775807)&&List.all els Uz&&decide (Zx els≤1000000)) (some (Zz .i64 (Vv (Wj rl (Xf Xk els))),[]))) fun (r:AV×Blocks)=>onNilB (Yw r) (Xb .i64 (Yk r) fun n=>sel (!n==0) (some (Zz .i64 n,[])) (sel (decide (i<0)) (some (Zz .i64 104,[])) (sel (decide (i≥(↑(Zx els):Int))) (some (Zz .i64 104,[])) (some (Zz .i64 0,[]))))):Option (AV×Blocks))) (by kernel_rfl) ?_
  simp only [Yz,decide_eq_true_eq] at hpre
  obtain ⟨⟨hr,hall⟩,hlen⟩:=hpre
  simp only [hr,hall,hlen,decide_true,Yg,↓A0,A0]
  generalize Vv ⟨rl,els.map Xk⟩=z
  by_cases h:z=0
  case neg=>rw [sel_pos (by simpa using h),if_pos h]
  rw [sel_neg (by simpa using h),if_neg (by simpa using h)]
  by_cases h1:i<0
  ·rw [sel_pos (by simpa using h1),if_pos (.inl h1)]
  rw [sel_neg (by simpa using h1)]
  by_cases h2:(els.length:Int)≤i
  ·rw [sel_pos (by simpa using h2),if_pos (.inr h2)]
  ·rw [sel_neg (by simpa using h2),if_neg (by omega)]
 ·cases h
theorem w245:Walked Tryz.prog G 245 8 sp245:=by
 refine ⟨Tryz.f245,Tryz.func245,by decide +kernel,rfl,fun xs bl r h=> ?_⟩
 unfold sp245 at h
 split at h
 ·rename_i lb t k st en kv x y z tk
  obtain ⟨hpre,h2⟩:=chk_inv h;cases h2
  refine Eq.trans (b:=(let t0:Option (AV×Blocks):=sel (!Zg t 4294967295) (some (Zz .i64 104,[])) (sel (!Uh lb) (sel (!k==0) (some (Zz .i64 108,[])) (sel (!st==0) (some (Zz .i64 108,[])) (sel (!en==0) (some (Zz .i64 108,[])) (sel (!kv==0) (some (Zz .i64 108,[])) (sel (!(x==[]&&(y==[]&&z==[]))) (some (Zz .i64 108,[])) (sel (decide ((↑(Zx tk):Int)>0)) (some (Zz .i64 108,[])) (some (Zz .i64 0,[])))))))) (Zw (chk (decide (0≤k)&&decide (k<18446744073709551616)) (some (Zm (Vy k),[]))) (kL fun b=>sel (!b) (some (Zz .i64 10,[])) (sel (!Zg st 4294967295) (some (Zz .i64 104,[])) (sel (!Zg en 4294967295) (some (Zz .i64 104,[])) (sel (!Zg kv 255) (some (Zz .i64 104,[])) (Zw (chk (l63 x&&l63 y&&l63 z) (some (Zm (Xw (Yy x y z)),[]))) (kL fun b=>sel (!b) (some (Zz .i64 103,[])) (sel (decide ((↑(Zx tk):Int)>255)) (some (Zz .i64 105,[])) (some (Zz .i64 0,[])))))))))));sel (!Uh lb) (sel (!lb==[(67:UInt8),(80:UInt8),(87:UInt8),(100:UInt8)]) (some (Zz .i64 80,[])) t0) t0:Option (AV×Blocks))) (by kernel_rfl) ?_
  delta kL
  try dsimp only [cStr,cBs,cBool,cU8,cInt,cSl,l63]
  have eGet:([103,84,71,83]:List UInt8)=Kerb.lGet:=rfl
  have eTick:([103,84,75,84]:List UInt8)=Kerb.lTicket:=rfl
  have eChg:([67,80,87,108]:List UInt8)=Kerb.lChange:=rfl
  have eDone:([67,80,87,100]:List UInt8)=Kerb.lDone:=rfl
  have eGot:([116,103,115,84]:List UInt8)=Kerb.lGot:=rfl
  have eGiven:([116,107,116,71]:List UInt8)=Kerb.lGiven:=rfl
  have hpre':=hpre
  simp only [Yz,decide_eq_true_eq] at hpre
  have hk:(decide (0≤k)&&decide (k<18446744073709551616))=true:=by simp;omega
  have hv:(decide (x.length≤9223372036854775807)&&decide (y.length≤9223372036854775807)&&decide (z.length≤9223372036854775807))=true:=by simp;omega
  simp only [A0,eDone,hk,hv]
  unfold Wf
  simp only
  cases ht:Uh lb
  ·rw [Xg,sel_true]
   cases hc:(lb==Kerb.lDone)
   ·rfl
   rw [Zn,sel_false,if_neg (by simp)]
   cases h1:Zg t 4294967295
   ·rfl
   rw [Zn,sel_false,if_neg (by simp),sel_true,if_neg (by simp)]
   by_cases h2:k=0
   case neg=>rw [sel_pos (by simpa using h2),if_pos (.inl h2)]
   rw [sel_neg (by simp [h2])]
   by_cases h3:st=0
   case neg=>rw [sel_pos (by simpa using h3),if_pos (.inr (.inl h3))]
   rw [sel_neg (by simp [h3])]
   by_cases h4:en=0
   case neg=>rw [sel_pos (by simpa using h4),if_pos (.inr (.inr (.inl h4)))]
   rw [sel_neg (by simp [h4])]
   by_cases h5:kv=0
   case neg=>rw [sel_pos (by simpa using h5),if_pos (.inr (.inr (.inr (.inl h5))))]
   rw [sel_neg (by simp [h5])]
   show sel (!(Kerb.Prin.isNo ⟨x,y,z⟩)) _ _=_
   cases h6:Kerb.Prin.isNo ⟨x,y,z⟩
   ·rw [if_pos (.inr (.inr (.inr (.inr (.inl rfl)))))];rfl
   rw [Zn,sel_false]
   by_cases h7:tk=[]
   case neg=>rw [sel_pos (by have:=List.length_pos_iff.2 h7;simp;omega),if_pos (.inr (.inr (.inr (.inr (.inr h7)))))]
   rw [sel_neg (by simp [h7]),if_neg (by simp [h2,h3,h4,h5,h7])]
  ·rw [Zn,sel_false,if_neg (by simp)]
   cases h1:Zg t 4294967295
   ·rfl
   rw [Zn,sel_false,if_neg (by simp),sel_false,if_pos rfl]
   cases h2:Vy k
   ·rfl
   rw [Zn,sel_false,if_neg (by simp)]
   cases h3:Zg st 4294967295
   ·rfl
   rw [Zn,sel_false]
   cases h4:Zg en 4294967295
   ·rfl
   rw [Zn,sel_false]
   cases h5:Zg kv 255
   ·rfl
   rw [Zn,sel_false,if_neg (by simp)]
   cases h6:Xw ⟨x,y,z⟩
   ·rfl
   rw [Zn,sel_false,if_neg (by simp)]
   by_cases h7:255<tk.length
   ·rw [sel_pos (by simp;omega),if_pos h7]
   ·rw [sel_neg (by simp;omega),if_neg h7]
 ·cases h
theorem w251:Walked Tryz.prog G 251 8 sp251:=by
 refine ⟨Tryz.f251,Tryz.func251,by decide +kernel,rfl,fun xs bl r h=> ?_⟩
 unfold sp251 at h
 split at h
 ·rename_i k x y z lf kv tk t little
  obtain ⟨hpre,h2⟩:=chk_inv h;cases h2
  refine Eq.trans (b:=(let t0:Option (AV×Blocks):=some (Zb [Zp [],Zz .i64 104],[]);let t1:List UInt8:=[]++Yb 0 1 false;let t2:List UInt8:=[]++Yb 1 1 false;let t3:Option (AV×Blocks):=chk (decide (0≤k)&&decide (k<18446744073709551616)) (some (Zp (Kerb.keyBytes k),[]));Zw (chk (decide (0≤k)&&decide (k<18446744073709551616)) (some (Zm (Vy k),[]))) (kL fun b=>sel (!b) (some (Zb [Zp [],Zz .i64 10],[])) (Zw (chk (l63 x&&l63 y&&l63 z) (some (Zm (Xw (Yy x y z)),[]))) (kL fun b=>sel (!b) (some (Zb [Zp [],Zz .i64 103],[])) (sel (!Zg lf 255) t0 (sel (!Zg kv 255) t0 (sel (!Zg t 4294967295) t0 (sel (decide ((↑(Zx tk):Int)>255)) (some (Zb [Zp [],Zz .i64 105],[])) (sel little (Zw t3 (kB fun b=>Zw (chk (decide (Zx (Yj t2 (Yj b []))≤140737488355328)&&decide (Zx [Zp t2,Zp b]≤1000)) (some (Yx (Yj t2 (Yj b [])),[]))) (kO fun l=>Zw (chk (decide (Zx l+Zx x+Zx y+Zx z≤70368744170000)) (some (Zp (Vp l (Yy x y z)),[]))) (kB fun b=>Zw (chk (decide (Zx b≤70368744177664)) (some (Yx (b++Yb lf 1 false),[]))) (kO fun l=>Zw (chk (decide (Zx l≤70368744177664)) (some (Yx (l++Yb kv 1 false),[]))) (kO fun l=>Zw (chk (decide (Zx l≤70368744177664)) (some (Yx (l++Yb (↑(Zx tk):Int) 1 false),[]))) (kO fun l=>Zw (chk (decide (Zx (Yj l (Yj tk []))≤140737488355328)&&decide (Zx [Zp l,Zp tk]≤1000)) (some (Yx (Yj l (Yj tk [])),[]))) (kO fun l=>Zw (chk (decide (Zx l≤70368744177664)) (some (Yx (l++Yb t 4 little),[]))) (kO fun l=>Zw (chk (decide (Zx l≤70368744177664)) (some (Zp (Kerb.pad l),[]))) (kB fun b=>some (Zb [Zp b,Zz .i64 0],[]))))))))))) (Zw t3 (kB fun b=>Zw (chk (decide (Zx (Yj t1 (Yj b []))≤140737488355328)&&decide (Zx [Zp t1,Zp b]≤1000)) (some (Yx (Yj t1 (Yj b [])),[]))) (kO fun l=>Zw (chk (decide (Zx l+Zx x+Zx y+Zx z≤70368744170000)) (some (Zp (Vp l (Yy x y z)),[]))) (kB fun b=>Zw (chk (decide (Zx b≤70368744177664)) (some (Yx (b++Yb lf 1 false),[]))) (kO fun l=>Zw (chk (decide (Zx l≤70368744177664)) (some (Yx (l++Yb kv 1 false),[]))) (kO fun l=>Zw (chk (decide (Zx l≤70368744177664)) (some (Yx (l++Yb (↑(Zx tk):Int) 1 false),[]))) (kO fun l=>Zw (chk (decide (Zx (Yj l (Yj tk []))≤140737488355328)&&decide (Zx [Zp l,Zp tk]≤1000)) (some (Yx (Yj l (Yj tk [])),[]))) (kO fun l=>Zw (chk (decide (Zx l≤70368744177664)) (some (Yx (l++Yb t 4 little),[]))) (kO fun l=>Zw (chk (decide (Zx l≤70368744177664)) (some (Zp (Kerb.pad l),[]))) (kB fun b=>some (Zb [Zp b,Zz .i64 0],[]))))))))))))))))))):Option (AV×Blocks))) (by kernel_rfl) ?_
  delta kB kO kL
  try dsimp only [cStr,cBs,cBool,cU8,cInt,cSl,l63]
  simp only [Yz,decide_eq_true_eq] at hpre
  obtain ⟨⟨⟨⟨q1,q2⟩,q3⟩,h0⟩,h1⟩:=hpre
  simp only [A0]
  unfold Kerb.encodePart
  rw [chk_of (by simp [h0,h1])]
  cases hk:Vy k
  ·rfl
  rw [Zn,sel_false,chk_of (by simp [q1,q2,q3])]
  cases h1:Xw ⟨x,y,z⟩
  ·rfl
  rw [Zn,sel_false]
  cases h4:Zg lf 255
  ·rfl
  rw [Zn,sel_false]
  cases h5:Zg kv 255
  ·rfl
  rw [Zn,sel_false]
  cases h6:Zg t 4294967295
  ·rfl
  rw [Zn,sel_false]
  by_cases h7:255<tk.length
  ·rw [sel_pos (by simp;omega),if_neg (by simp),if_neg (by simp),if_neg (by simp),if_pos h7]
  have l1:=Kerb.valid_len h1
  simp only at l1
  rw [sel_neg (by simp;omega),if_neg (by simp),if_neg (by simp),if_neg (by simp),if_neg h7]
  cases little
  ·rw [sel_false,chk_of (by simp;omega),chk_of (by first | (simp [Zq,Zj,Zu];done) | (simp [Zq,Zj,Zu];omega)),chk_of (by first | (simp [Zq,Zj,Zu];done) | (simp [Zq,Zj,Zu];omega)),chk_of (by first | (simp [Zq,Zj,Zu];done) | (simp [Zq,Zj,Zu];omega)),chk_of (by first | (simp [Zq,Zj,Zu];done) | (simp [Zq,Zj,Zu];omega)),chk_of (by first | (simp [Zq,Zj,Zu];done) | (simp [Zq,Zj,Zu];omega)),chk_of (by first | (simp [Zq,Zj,Zu];done) | (simp [Zq,Zj,Zu];omega)),chk_of (by first | (simp [Zq,Zj,Zu];done) | (simp [Zq,Zj,Zu];omega)),chk_of (by first | (simp [Zq,Zj,Zu];done) | (simp [Zq,Zj,Zu];omega))]
   simp
  ·rw [sel_true,chk_of (by simp;omega),chk_of (by first | (simp [Zq,Zj,Zu];done) | (simp [Zq,Zj,Zu];omega)),chk_of (by first | (simp [Zq,Zj,Zu];done) | (simp [Zq,Zj,Zu];omega)),chk_of (by first | (simp [Zq,Zj,Zu];done) | (simp [Zq,Zj,Zu];omega)),chk_of (by first | (simp [Zq,Zj,Zu];done) | (simp [Zq,Zj,Zu];omega)),chk_of (by first | (simp [Zq,Zj,Zu];done) | (simp [Zq,Zj,Zu];omega)),chk_of (by first | (simp [Zq,Zj,Zu];done) | (simp [Zq,Zj,Zu];omega)),chk_of (by first | (simp [Zq,Zj,Zu];done) | (simp [Zq,Zj,Zu];omega)),chk_of (by first | (simp [Zq,Zj,Zu];done) | (simp [Zq,Zj,Zu];omega))]
   simp
 ·cases h
theorem w265:Walked Tryz.prog G 265 8 sp265:=by
 refine ⟨Tryz.f265,Tryz.func265,by decide +kernel,rfl,fun xs bl r h=> ?_⟩
 unfold sp265 at h
 split at h
 ·rename_i li x y z ad k lf iss sv ins
  obtain ⟨hpre,h2⟩:=chk_inv h;cases h2
  refine Eq.trans (b:=(Zw (chk (decide (Zx x≤9223372036854775807)&&decide (Zx y≤9223372036854775807)&&decide (Zx z≤9223372036854775807)) (some (Zm (Xw (Yy x y z)),[]))) fun (r:AV×Blocks)=>onNilB (Yw r) (AV.onBool (Yk r) fun b=>sel (!b) (some (Zz .i64 103,[])) (Zw (chk (decide (Zx sv≤9223372036854775807)) (some (Zm (Wg sv),[]))) fun (r:AV×Blocks)=>onNilB (Yw r) (AV.onBool (Yk r) fun b=>sel (!b) (some (Zz .i64 103,[])) (Zw (chk (decide (Zx ins≤9223372036854775807)) (some (Zm (Wx ins),[]))) fun (r:AV×Blocks)=>onNilB (Yw r) (AV.onBool (Yk r) fun b=>sel (!b) (some (Zz .i64 103,[])) (Zw (chk (decide (0≤k)&&decide (k<18446744073709551616)) (some (Zz .i64 (Kerb.classOf k),[]))) fun (r:AV×Blocks)=>onNilB (Yw r) (Xb .i64 (Yk r) fun n=>sel (!n==2) (some (Zz .i64 10,[])) (sel (!Zg ad 4294967295) (some (Zz .i64 104,[])) (sel (!Zg lf 255) (some (Zz .i64 104,[])) (sel (!Zg iss 4294967295) (some (Zz .i64 104,[])) (some (Zz .i64 0,[])))))))))))):Option (AV×Blocks))) (by kernel_rfl) ?_
  simp only [Yz,decide_eq_true_eq] at hpre
  obtain ⟨⟨⟨⟨⟨⟨h1,h2⟩,h3⟩,h4⟩,h5⟩,h6⟩,h7⟩:=hpre
  simp only [h1,h2,h3,h4,h5,h6,h7,decide_true,Yg,↓A0,A0]
  unfold Kerb.Ticket.err
  dsimp only
  cases Xw ⟨x,y,z⟩
  ·rfl
  cases Wg sv
  ·rfl
  cases Wx ins
  ·rfl
  simp only [Zn,Yg,sel_false]
  by_cases hc:Kerb.classOf k=2
  case neg=>rw [sel_pos (by simpa using hc),if_neg (by simp),if_pos hc]
  rw [sel_neg (by simp [hc]),if_neg (by simp),if_neg (by simp [hc])]
  cases Zg ad 4294967295
  ·rfl
  cases Zg lf 255
  ·rfl
  cases Zg iss 4294967295
  ·rfl
  rfl
 ·cases h
theorem w96:Walked Tryz.prog G 96 9 sp96:=by
 refine ⟨Tryz.f96,Tryz.func96,by decide +kernel,rfl,fun xs bl r h=> ?_⟩
 unfold sp96 at h
 split at h
 ·rename_i op ux uy uz kv rl tk sv ins bx
  obtain ⟨hpre,h2⟩:=chk_inv h;cases h2
  refine Eq.trans (b:=(let t1:List UInt8:=Kerb.header 9 false++Yb op 1 false;let t0:Nat:=Zx t1;Zw (chk (l63 ux&&l63 uy&&l63 uz&&l63 rl&&l63 sv&&l63 ins) (some (Zz .i64 (Yn (Yv (Xp op (Yy ux uy uz) kv rl tk sv ins bx))),[]))) (kI .i64 fun n=>sel (!n==0) (some (Zb [Zp [],Zz .i64 n],[])) (sel (op==2) (Zw (chk (decide (t0≤70368744177664)) (some (Yx (t1++Yb kv 1 false),[]))) (kO fun l=>Zw (chk (decide (Zx l+Zx rl≤70368744177664)) (some (Zp (Yh l rl),[]))) (kB fun b=>Zw (chk (decide (Zx b+Zx tk≤70368744170000)) (some (Zp (Vk b tk),[]))) (kB fun b=>Zw (chk (decide (Zx b+Zx sv≤70368744177664)) (some (Zp (Yh b sv),[]))) (kB fun b=>Zw (chk (decide (Zx b+Zx ins≤70368744177664)) (some (Zp (Yh b ins),[]))) (kB fun b=>Zw (chk (decide (Zx b+Zx bx≤70368744170000)) (some (Zp (Kerb.putBox b bx),[]))) (kB fun b=>some (Zb [Zp b,Zz .i64 0],[])))))))) (Zw (chk (decide (t0+Zx ux+Zx uy+Zx uz≤70368744170000)) (some (Zp (Vp t1 (Yy ux uy uz)),[]))) (kB fun b=>Zw (chk (decide (Zx b+Zx bx≤70368744170000)) (some (Zp (Kerb.putBox b bx),[]))) (kB fun b=>some (Zb [Zp b,Zz .i64 0],[])))))):Option (AV×Blocks))) (by kernel_rfl) ?_
  delta kB kO kI
  try dsimp only [cStr,cBs,cBool,cU8,cInt,cSl,l63]
  have hpre':=hpre
  simp only [Yz,decide_eq_true_eq] at hpre
  simp only [A0]
  rw [chk_of hpre']
  by_cases he:(Yv (Xp op ⟨ux,uy,uz⟩ kv rl tk sv ins bx)).err=0
  case neg =>
   rw [sel_pos (by simpa using he),Kerb.encKaReq_no he]
  rw [sel_neg (by simp [he]),he]
  have hl9:(Kerb.header 9 false).length=2:=rfl
  rcases Kerb.encKaReq_inv he with ⟨ho,v1,v2,v3,hk,ht,hb,hu,hv⟩ | ⟨ho,v1,hb,hk,hr,ht,hs,hn,hv⟩
  ·have l1:=Kerb.validRealm_len v1
   have l2:=Kerb.validName_len v2
   have l3:=Kerb.validInst_len v3
   simp only at ho l1 l2 l3 ht hb
   rw [sel_pos (by simpa using ho),hv]
   rw [chk_of (by simp [Zj,hl9]),chk_of (by simp [Zj,hl9];omega),chk_of (by simp [Zj,hl9,Kerb.putText_len];omega),chk_of (by simp [Zj,hl9,Kerb.putText_len,Vk];omega),chk_of (by simp [Zj,hl9,Kerb.putText_len,Vk];omega),chk_of (by simp [Zj,hl9,Kerb.putText_len,Vk];omega)]
   simp [Kerb.putBox,Yh,Vk]
  ·have l1:=Kerb.valid_len v1
   simp only at ho l1 hb
   rw [sel_neg (by simp;omega),hv]
   rw [chk_of (by simp [Zj,hl9];omega),chk_of (by simp [Zj,hl9,Zq];omega)]
   simp [Kerb.putBox,Yh,Vp]
 ·cases h
theorem w146:Walked Tryz.prog G 146 9 sp146:=by
 refine ⟨Tryz.f146,Tryz.func146,by decide +kernel,rfl,fun xs bl r h=> ?_⟩
 unfold sp146 at h
 split at h
 ·rename_i B at_ bad
  obtain ⟨hpre,h2⟩:=chk_inv h;cases h2
  show runFnH (G.env 146 9) G.rts (G.own 146) Tryz.f146 _ _ [0]=_
  refine Eq.trans (b:=(Zw (chk (decide (Zx B≤4611686018427387904)) (some (Zb [Xy [Zy (Wp (Uw (Xd B at_))),Zy (Wd (Uw (Xd B at_))),Zy (Ww (Uw (Xd B at_)))],Zz .i64 (Kerb.GotP.next (Xd B at_)),Zz .i64 (Kerb.GotP.err (Xd B at_))],[]))) fun (r:AV×Blocks)=>onNilB (Yw r) (AV.onTup (Yk r) fun vs=>onCons vs fun x r=>Wm x fun cs=>onCons cs fun x r_1=>AV.onStr x fun b=>onCons r_1 fun x r_2=>AV.onStr x fun b_1=>onCons r_2 fun x r_3=>AV.onStr x fun b_2=>onNil r_3 (onCons r fun x r=>Xb .i64 x fun n=>onCons r fun x r=>Xb .i64 x fun n_1=>onNil r (sel (!!(bad || !n_1==0)) (some (Xy [Zy [],Zy [],Zy []],[[Zp B,Zz .i64 (bif bad || !n_1==0 then at_ else n),Zm (bad || !n_1==0)]])) (some (Xy [Zy b,Zy b_1,Zy b_2],[[Zp B,Zz .i64 (bif bad || !n_1==0 then at_ else n),Zm (bad || !n_1==0)]]))))):Option (AV×Blocks))) (by kernel_rfl) ?_
  have hb:=of_decide_eq_true hpre
  simp only [A0]
  rw [chk_of (by simp;omega)]
  unfold Kerb.pPrin
  cases bad
  ·simp only [Bool.false_or]
   generalize hq:(!(_==(0:Int)))=q
   cases q<;>rfl
  ·rfl
 ·cases h
theorem w157:Walked Tryz.prog G 157 9 sp157:=by
 refine ⟨Tryz.f157,Tryz.func157,by decide +kernel,rfl,fun xs bl r h=> ?_⟩
 unfold sp157 at h
 split at h
 ·rename_i rl els i en ei ek ev ex em ea ef et
  obtain ⟨hpre,h2⟩:=chk_inv h;cases h2
  refine Eq.trans (b:=(let t0:Kerb.Db:=Kerb.setEnt (Wj rl (Xf Xk els)) i (Wv en ei ek ev ex em ea ef et);let t1:AV:=Xy [Zy [],Wn 9 []];Zw (chk (l63 rl&&List.all els Uz&&decide (Zx els≤1000000)) (some (Zz .i64 (if Vv (Wj rl (Xf Xk els))≠0 then Vv (Wj rl (Xf Xk els)) else if i<0∨(↑(Zx els):Int)≤i then 104 else 0),[]))) (kI .i64 fun n=>sel (!n==0) (some (Zb [t1,Zz .i64 n],[])) (Zw (chk (l63 en&&l63 ei&&Kerb.isU64 ek) (some (Zz .i64 (Kerb.Entry.err (Wv en ei ek ev ex em ea ef et)),[]))) (kI .i64 fun n=>sel (!n==0) (some (Zb [t1,Zz .i64 n],[])) (chk (decide (0≤i)&&decide (i<(↑(Zx els):Int))&&true) (Wm (Vm els (Ym i) Uk) fun cs=>cStr cs fun b r=>cStr r fun b_1 r=>cInt .u64 r fun n r=>cInt .i64 r fun n r=>cInt .i64 r fun n r=>cInt .i64 r fun n r=>cInt .i64 r fun n r=>cInt .i64 r fun n r=>cInt .i64 r fun n r=>onNil r (sel (!(if Kerb.cmpB b en=0 then Kerb.cmpB b_1 ei else Kerb.cmpB b en)==0) (some (Zb [t1,Zz .i64 103],[])) (Zw (chk (List.all els Uz&&decide (Zx els≤1000000)&&decide (0≤i)&&decide (i<(↑(Zx els):Int))) (some (Xy [Zy (Un t0),Wn 9 (Xf Yf (Uu t0))],[]))) (kA fun cs=>cStr cs fun b r=>cSl 9 r fun b_2 r=>onNil r (some (Zb [Xy [Zy b,Wn 9 b_2],Zz .i64 0],[])))))))))):Option (AV×Blocks))) (by kernel_rfl) ?_
  delta kA kI
  try dsimp only [cStr,cBs,cBool,cU8,cInt,cSl,l63]
  simp only [Yz,decide_eq_true_eq] at hpre
  obtain ⟨⟨⟨⟨⟨hr,hall⟩,hlen⟩,he1⟩,he2⟩,he3⟩:=hpre
  obtain ⟨es,rfl,hok⟩:=Kerb.ents_of hall
  rw [Uv]
  simp only [hr,hall,hlen,he1,he2,he3,decide_true,Yg,↓A0,A0]
  simp only [Wu] at hlen ⊢
  unfold Kerb.putEnt
  dsimp only
  generalize hz:Vv ⟨rl,es⟩=z
  by_cases hz0:z=0
  case neg=>rw [if_pos hz0,sel_pos (by simpa using hz0),if_pos hz0];try rfl
  by_cases hi:i<0∨(es.length:Int)≤i
  ·rw [if_neg (by simpa using hz0),if_pos hi,sel_pos (by rfl),if_neg (by simpa using hz0),if_pos hi];try rfl
  rw [if_neg (by simpa using hz0),if_neg hi,sel_neg (by rfl),if_neg (by simpa using hz0),if_neg hi]
  generalize hy:Kerb.Entry.err _=y
  by_cases hy0:y=0
  case neg=>rw [sel_pos (by simpa using hy0),if_pos hy0];rfl
  rw [sel_neg (by simpa using hy0),if_neg (by simpa using hy0)]
  have i0:decide (0≤i)=true:=by simp;omega
  have i1:decide (i<(es.length:Int))=true:=by simp;omega
  rw [chk_of (by rw [i0,i1];rfl),Vx (by omega)]
  generalize es.getD i.toNat Uf=e
  have hc:=Kerb.cmp_named e (Wv en ei ek ev ex em ea ef et)
  dsimp only at hc
  simp only [Yf,i0,i1,hc,↓A0,A0]
  cases hn:Kerb.Entry.named e.name e.inst (Wv en ei ek ev ex em ea ef et)
  ·rfl
  ·rfl
 ·cases h
theorem w208:Walked Tryz.prog G 208 9 sp208:=by
 refine ⟨Tryz.f208,Tryz.func208,by decide +kernel,rfl,fun xs bl r h=> ?_⟩
 unfold sp208 at h
 split at h
 ·rename_i lb t k st en kv x y z tk
  obtain ⟨hpre,h2⟩:=chk_inv h;cases h2
  refine Eq.trans (b:=(Zw (chk (l63 x&&l63 y&&l63 z&&decide (0≤k)&&decide (k<18446744073709551616)) (some (Zz .i64 (Yn (Wf (Up lb t k st en kv (Yy x y z) tk))),[]))) (kI .i64 fun n=>sel (!n==0) (some (Zb [Zp [],Zz .i64 n],[])) (Zw (chk (decide (Zx lb≤70368744177664)) (some (Yx (lb++Yb t 4 false),[]))) (kO fun l=>sel (Uh lb) (Zw (chk (decide (0≤k)&&decide (k<18446744073709551616)) (some (Zp (Kerb.keyBytes k),[]))) (kB fun b=>chk (room (Zx l+Zx b) 1) (Zw (chk (decide (Zx (l++b)≤70368744177664)) (some (Yx (l++b++Yb st 4 false),[]))) (kO fun l=>Zw (chk (decide (Zx l≤70368744177664)) (some (Yx (l++Yb en 4 false),[]))) (kO fun l=>Zw (chk (decide (Zx l≤70368744177664)) (some (Yx (l++Yb kv 1 false),[]))) (kO fun l=>Zw (chk (decide (Zx l+Zx x+Zx y+Zx z≤70368744170000)) (some (Zp (Vp l (Yy x y z)),[]))) (kB fun b=>Zw (chk (decide (Zx b+Zx tk≤70368744170000)) (some (Zp (Vk b tk),[]))) (kB fun b=>Zw (chk (decide (Zx b≤70368744177664)) (some (Zp (Kerb.pad b),[]))) (kB fun b=>some (Zb [Zp b,Zz .i64 0],[])))))))))) (Zw (chk (decide (Zx l≤70368744177664)) (some (Zp (Kerb.pad l),[]))) (kB fun b=>some (Zb [Zp b,Zz .i64 0],[])))))):Option (AV×Blocks))) (by kernel_rfl) ?_
  delta kB kO kI
  try dsimp only [cStr,cBs,cBool,cU8,cInt,cSl,l63]
  have hpre':=hpre
  simp only [Yz,decide_eq_true_eq] at hpre
  have hk:(decide (0≤k)&&decide (k<18446744073709551616))=true:=by simp;omega
  simp only [A0,hpre',hk]
  by_cases he:(Wf (Up lb t k st en kv ⟨x,y,z⟩ tk)).err=0
  case neg=>rw [sel_pos (by simpa using he),Kerb.encKaAns_no he]
  rw [sel_neg (by simp [he]),he]
  obtain ⟨ht,⟨hl,hl4,hk2,hs,hen,hv,hp,hx,hb⟩ | ⟨hl,hk2,hs,hen,hv,hp,hx,hb⟩⟩:=Kerb.encKaAns_inv he
  ·have l1:=Kerb.valid_len hp
   simp only at hl hl4 l1 hx
   rw [hb,chk_of (by simp;omega),sel_pos hl]
   rw [chk_of (Kerb.room_ok (by simp [Zj,Zu];omega)),chk_of (by simp [Zj,Zu];omega),chk_of (by simp [Zj,Zu];omega),chk_of (by simp [Zj,Zu];omega),chk_of (by simp [Zj,Zu];omega),chk_of (by simp [Zj,Zu,Zq];omega),chk_of (by simp [Zj,Zu,Zq,Vk];omega)]
   simp [Vk,Vp,Yh]
  ·simp only at hl
   have hl4:lb.length=4:=by rw [hl];rfl
   have hnt:Uh lb=false:=by rw [hl];decide
   rw [hb,chk_of (by simp;omega),sel_neg hnt,chk_of (by simp [Zj];omega)]
 ·cases h
theorem w232:Walked Tryz.prog G 232 9 sp232:=by
 refine ⟨Tryz.f232,Tryz.func232,by decide +kernel,rfl,fun xs bl r h=> ?_⟩
 unfold sp232 at h
 split at h
 ·rename_i rl els i k
  obtain ⟨hpre,h2⟩:=chk_inv h;cases h2
  refine Eq.trans (b:=(let t0:Bool:=List.all els Uz&&decide (Zx els≤1000000)&&decide (0≤i)&&decide (i<(↑(Zx els):Int));Zw (chk (l63 rl&&List.all els Uz&&decide (Zx els≤1000000)) (some (Zz .i64 (if Vv (Wj rl (Xf Xk els))≠0 then Vv (Wj rl (Xf Xk els)) else if i<0∨(↑(Zx els):Int)≤i then 104 else 0),[]))) (kI .i64 fun n=>sel (!n==0) (some (Zb [Xy [Zy [],Wn 9 []],Zz .i64 n],[])) (Zw (chk (decide (0≤k)&&decide (k<18446744073709551616)) (some (Zm (Vy k),[]))) (kL fun b=>sel (!b) (some (Zb [Xy [Zy [],Wn 9 []],Zz .i64 10],[])) (chk (decide (0≤i)&&decide (i<(↑(Zx els):Int))&&true) (Wm (Vm els (Ym i) Uk) fun cs=>cStr cs fun b r=>cStr r fun b_1 r=>cInt .u64 r fun n r=>cInt .i64 r fun n r=>cInt .i64 r fun n_1 r=>cInt .i64 r fun n_2 r=>cInt .i64 r fun n_3 r=>cInt .i64 r fun n_4 r=>cInt .i64 r fun n_5 r=>let t1:Kerb.Db:=Kerb.setEnt (Wj rl (Xf Xk els)) i (Wv b b_1 k (Zd .i64 (n+1)) n_1 n_2 n_3 n_4 n_5);let t2:Kerb.Db:=Kerb.setEnt (Wj rl (Xf Xk els)) i (Wv b b_1 k 1 n_1 n_2 n_3 n_4 n_5);onNil r (sel (decide (n<255)) (Zw (chk t0 (some (Xy [Zy (Un t1),Wn 9 (Xf Yf (Uu t1))],[]))) (kA fun cs=>cStr cs fun b r=>cSl 9 r fun b_2 r=>onNil r (some (Zb [Xy [Zy b,Wn 9 b_2],Zz .i64 0],[])))) (Zw (chk t0 (some (Xy [Zy (Un t2),Wn 9 (Xf Yf (Uu t2))],[]))) (kA fun cs=>cStr cs fun b r=>cSl 9 r fun b_2 r=>onNil r (some (Zb [Xy [Zy b,Wn 9 b_2],Zz .i64 0],[])))))))))):Option (AV×Blocks))) (by kernel_rfl) ?_
  delta kA kL kI
  try dsimp only [cStr,cBs,cBool,cU8,cInt,cSl,l63]
  simp only [Yz,decide_eq_true_eq] at hpre
  obtain ⟨⟨⟨⟨hr,hall⟩,hlen⟩,h0⟩,h1⟩:=hpre
  obtain ⟨es,rfl,hok⟩:=Kerb.ents_of hall
  rw [Uv]
  simp only [hr,hall,hlen,h0,h1,decide_true,Yg,↓A0,A0]
  simp only [Wu] at hlen ⊢
  unfold Kerb.rekey
  dsimp only
  generalize hz:Vv ⟨rl,es⟩=z
  by_cases hz0:z=0
  case neg=>rw [if_pos hz0,sel_pos (by simpa using hz0),if_pos hz0];try rfl
  by_cases hi:i<0∨(es.length:Int)≤i
  ·rw [if_neg (by simpa using hz0),if_pos hi,sel_pos (by rfl),if_neg (by simpa using hz0),if_pos hi];try rfl
  rw [if_neg (by simpa using hz0),if_neg hi,sel_neg (by rfl),if_neg (by simpa using hz0),if_neg hi]
  cases hk:Vy k
  ·rfl
  rw [sel_neg (by simp),if_neg (by simp)]
  have i0:decide (0≤i)=true:=by simp;omega
  have i1:decide (i<(es.length:Int))=true:=by simp;omega
  rw [chk_of (by rw [i0,i1];rfl),Vx (by omega)]
  have hx:=Kerb.errs_all (Kerb.Db.err_inv (hz.trans hz0)).2.2 _ (Kerb.ent_mem (es:=es) (i:=i.toNat) (by omega))
  generalize es.getD i.toNat Uf=e at hx
  have x4:=Kerb.within_iff.1 (Kerb.Entry.err_inv hx).2.2.2.1
  simp only [Yf,i0,i1,↓A0,A0]
  unfold Kerb.Entry.rekeyed
  try dsimp only
  by_cases hv:e.kvno<255
  ·rw [sel_pos (by simpa using hv),if_pos hv,wrap_i64 (by omega) (by omega)];rfl
  ·rw [sel_neg (by simpa using hv),if_neg hv];rfl
 ·cases h
theorem w261:Walked Tryz.prog G 261 9 sp261:=by
 refine ⟨Tryz.f261,Tryz.func261,by decide +kernel,rfl,fun xs bl r h=> ?_⟩
 unfold sp261 at h
 split at h
 ·rename_i li x y z ad k lf iss sv ins
  obtain ⟨hpre,h2⟩:=chk_inv h;cases h2
  refine Eq.trans (b:=(let t0:Nat:=Zx ([]++Yb 1 1 false)+Zx x+Zx y+Zx z;let t1:Nat:=Zx ([]++Yb 0 1 false)+Zx x+Zx y+Zx z;let t2:Option (AV×Blocks):=chk (decide (0≤k)&&decide (k<18446744073709551616)) (some (Zp (Kerb.keyBytes k),[]));Zw (chk (l63 x&&l63 y&&l63 z&&l63 sv&&l63 ins&&decide (0≤k)&&decide (k<18446744073709551616)) (some (Zz .i64 (Kerb.Ticket.err (Vf li (Yy x y z) ad k lf iss sv ins)),[]))) (kI .i64 fun n=>sel (!n==0) (some (Zb [Zp [],Zz .i64 n],[])) (sel li (Zw (chk (decide (t0≤70368744170000)) (some (Zp (Vp ([]++Yb 1 1 false) (Yy x y z)),[]))) (kB fun b=>Zw (chk (decide (Zx b≤70368744177664)) (some (Yx (b++Yb ad 4 li),[]))) (kO fun l=>Zw t2 (kB fun b=>Zw (chk (decide (Zx (Yj l (Yj b []))≤140737488355328)&&decide (Zx [Zp l,Zp b]≤1000)) (some (Yx (Yj l (Yj b [])),[]))) (kO fun l=>Zw (chk (decide (Zx l≤70368744177664)) (some (Yx (l++Yb lf 1 false),[]))) (kO fun l=>Zw (chk (decide (Zx l≤70368744177664)) (some (Yx (l++Yb iss 4 li),[]))) (kO fun l=>Zw (chk (decide (Zx l+Zx sv≤70368744177664)) (some (Zp (Yh l sv),[]))) (kB fun b=>Zw (chk (decide (Zx b+Zx ins≤70368744177664)) (some (Zp (Yh b ins),[]))) (kB fun b=>Zw (chk (decide (Zx b≤70368744177664)) (some (Zp (Kerb.pad b),[]))) (kB fun b=>some (Zb [Zp b,Zz .i64 0],[]))))))))))) (Zw (chk (decide (t1≤70368744170000)) (some (Zp (Vp ([]++Yb 0 1 false) (Yy x y z)),[]))) (kB fun b=>Zw (chk (decide (Zx b≤70368744177664)) (some (Yx (b++Yb ad 4 li),[]))) (kO fun l=>Zw t2 (kB fun b=>Zw (chk (decide (Zx (Yj l (Yj b []))≤140737488355328)&&decide (Zx [Zp l,Zp b]≤1000)) (some (Yx (Yj l (Yj b [])),[]))) (kO fun l=>Zw (chk (decide (Zx l≤70368744177664)) (some (Yx (l++Yb lf 1 false),[]))) (kO fun l=>Zw (chk (decide (Zx l≤70368744177664)) (some (Yx (l++Yb iss 4 li),[]))) (kO fun l=>Zw (chk (decide (Zx l+Zx sv≤70368744177664)) (some (Zp (Yh l sv),[]))) (kB fun b=>Zw (chk (decide (Zx b+Zx ins≤70368744177664)) (some (Zp (Yh b ins),[]))) (kB fun b=>Zw (chk (decide (Zx b≤70368744177664)) (some (Zp (Kerb.pad b),[]))) (kB fun b=>some (Zb [Zp b,Zz .i64 0],[]))))))))))))):Option (AV×Blocks))) (by kernel_rfl) ?_
  delta kB kO kI
  try dsimp only [cStr,cBs,cBool,cU8,cInt,cSl,l63]
  simp only [Yz,decide_eq_true_eq] at hpre
  obtain ⟨⟨⟨⟨⟨⟨h1,h2⟩,h3⟩,h4⟩,h5⟩,h6⟩,h7⟩:=hpre
  simp only [h1,h2,h3,h4,h5,h6,h7,decide_true,Yg,↓A0,A0]
  have hb := @Kerb.encTicket_inv ⟨li,⟨x,y,z⟩,ad,k,lf,iss,sv,ins⟩
  unfold Vw at hb ⊢
  dsimp only at hb ⊢
  generalize hE:Kerb.Ticket.err _=e at hb ⊢
  by_cases he:e=0
  case neg=>rw [sel_pos (by simpa using he),if_pos he]
  rw [if_neg (by simpa using he)] at hb
  obtain ⟨v1,v2,v3,_⟩:=hb rfl
  have l1:=Kerb.valid_len v1
  have l2:=(Kerb.name_ok v2).1
  have l3:=(Kerb.inst_ok v3).1
  dsimp only at l1
  rw [sel_neg (by simpa using he),if_neg (by simpa using he)]
  cases li
  ·rw [sel_false,chk_of (by first | (simp [Zq,Zj,Zu];done) | (simp [Zq,Zj,Zu];omega)),chk_of (by first | (simp [Zq,Zj,Zu];done) | (simp [Zq,Zj,Zu];omega)),chk_of (by first | (simp [Zq,Zj,Zu];done) | (simp [Zq,Zj,Zu];omega)),chk_of (by first | (simp [Zq,Zj,Zu];done) | (simp [Zq,Zj,Zu];omega)),chk_of (by first | (simp [Zq,Zj,Zu];done) | (simp [Zq,Zj,Zu];omega)),chk_of (by first | (simp [Zq,Zj,Zu];done) | (simp [Zq,Zj,Zu];omega)),chk_of (by first | (simp [Yh,Zq,Zj,Zu];done) | (simp [Yh,Zq,Zj,Zu];omega)),chk_of (by first | (simp [Yh,Zq,Zj,Zu];done) | (simp [Yh,Zq,Zj,Zu];omega))]
   simp
  ·rw [sel_true,chk_of (by first | (simp [Zq,Zj,Zu];done) | (simp [Zq,Zj,Zu];omega)),chk_of (by first | (simp [Zq,Zj,Zu];done) | (simp [Zq,Zj,Zu];omega)),chk_of (by first | (simp [Zq,Zj,Zu];done) | (simp [Zq,Zj,Zu];omega)),chk_of (by first | (simp [Zq,Zj,Zu];done) | (simp [Zq,Zj,Zu];omega)),chk_of (by first | (simp [Zq,Zj,Zu];done) | (simp [Zq,Zj,Zu];omega)),chk_of (by first | (simp [Zq,Zj,Zu];done) | (simp [Zq,Zj,Zu];omega)),chk_of (by first | (simp [Yh,Zq,Zj,Zu];done) | (simp [Yh,Zq,Zj,Zu];omega)),chk_of (by first | (simp [Yh,Zq,Zj,Zu];done) | (simp [Yh,Zq,Zj,Zu];omega))]
   simp
 ·cases h
theorem w66:Walked Tryz.prog G 66 10 sp66:=by
 refine ⟨Tryz.f66,Tryz.func66,by decide +kernel,rfl,fun xs bl r h=> ?_⟩
 unfold sp66 at h
 split at h
 ·rename_i b
  obtain ⟨hpre,h2⟩:=chk_inv h;cases h2
  refine Eq.trans (b:=(let t1:AV:=Xy [Zz .i64 0,Zy [],Zy [],Zy [],Zz .i64 0,Zy [],Zp [],Zy [],Zy [],Zp []];let t0:Option (AV×Blocks):=some (Zb [t1,Zz .i64 100],[]);sel (!Yw (Kerb.headIs b [9])==0) (some (Zb [t1,Zz .i64 (Yw (Kerb.headIs b [9]))],[])) (Zw (chk (decide (Zx b≤140737488355328)) (some (Zz .i64 (Xx (Yq b 1 2 false)),[[Zp b,Zz .i64 (Xv (Yq b 1 2 false)),Zm (Xu (Yq b 1 2 false))]]))) fun (r:AV×Blocks)=>onConsB (Yw r) fun (x:List AV) (r_1:List (List AV))=>cBs x fun b_1 r_2=>cInt .i64 r_2 fun n r_3=>cBool r_3 fun b_2 r_4=>onNil r_4 (onNilB r_1 (Xb .i64 (Yk r) fun n_1=>sel (n_1==2) (Zw (chk (decide (Zx b_1≤140737488355328)) (some (Zz .i64 (Xx (Yq b_1 1 n b_2)),[[Zp b_1,Zz .i64 (Xv (Yq b_1 1 n b_2)),Zm (Xu (Yq b_1 1 n b_2))]]))) fun (r:AV×Blocks)=>onConsB (Yw r) fun (x:List AV) (r_5:List (List AV))=>cBs x fun b_3 r_6=>cInt .i64 r_6 fun n r_7=>cBool r_7 fun b_4 r_8=>onNil r_8 (onNilB r_5 (Xb .i64 (Yk r) fun n_2=>Zw (chk (decide (Zx b_3≤140737488355328)) (some (Zy (Xx (Vg b_3 n b_4)),[[Zp b_3,Zz .i64 (Xv (Vg b_3 n b_4)),Zm (Xu (Vg b_3 n b_4))]]))) fun (r:AV×Blocks)=>onConsB (Yw r) fun (x:List AV) (r_9:List (List AV))=>cBs x fun b_5 r_10=>cInt .i64 r_10 fun n r_11=>cBool r_11 fun b_6 r_12=>onNil r_12 (onNilB r_9 (AV.onStr (Yk r) fun b_7=>Zw (chk (decide (Zx b_5≤140737488355328)) (some (Zz .i64 (Xx (Yq b_5 1 n b_6)),[[Zp b_5,Zz .i64 (Xv (Yq b_5 1 n b_6)),Zm (Xu (Yq b_5 1 n b_6))]]))) fun (r:AV×Blocks)=>onConsB (Yw r) fun (x:List AV) (r_13:List (List AV))=>cBs x fun b_8 r_14=>cInt .i64 r_14 fun n r_15=>cBool r_15 fun b_9 r_16=>onNil r_16 (onNilB r_13 (Xb .i64 (Yk r) fun n_3=>Zw (chk (decide (Zx b_8≤140737488355328)) (some (Zp (Xx (Xq b_8 n_3 n b_9)),[[Zp b_8,Zz .i64 (Xv (Xq b_8 n_3 n b_9)),Zm (Xu (Xq b_8 n_3 n b_9))]]))) fun (r:AV×Blocks)=>onConsB (Yw r) fun (x:List AV) (r_17:List (List AV))=>cBs x fun b_10 r_18=>cInt .i64 r_18 fun n r_19=>cBool r_19 fun b_11 r_20=>onNil r_20 (onNilB r_17 (AV.onBs (Yk r) fun b_12=>Zw (chk (decide (Zx b_10≤140737488355328)) (some (Zy (Xx (Vg b_10 n b_11)),[[Zp b_10,Zz .i64 (Xv (Vg b_10 n b_11)),Zm (Xu (Vg b_10 n b_11))]]))) fun (r:AV×Blocks)=>onConsB (Yw r) fun (x:List AV) (r_21:List (List AV))=>cBs x fun b_13 r_22=>cInt .i64 r_22 fun n r_23=>cBool r_23 fun b_14 r_24=>onNil r_24 (onNilB r_21 (AV.onStr (Yk r) fun b_15=>Zw (chk (decide (Zx b_13≤140737488355328)) (some (Zy (Xx (Vg b_13 n b_14)),[[Zp b_13,Zz .i64 (Xv (Vg b_13 n b_14)),Zm (Xu (Vg b_13 n b_14))]]))) fun (r:AV×Blocks)=>onConsB (Yw r) fun (x:List AV) (r_25:List (List AV))=>cBs x fun b_16 r_26=>cInt .i64 r_26 fun n r_27=>cBool r_27 fun b_17 r_28=>onNil r_28 (onNilB r_25 (AV.onStr (Yk r) fun b_18=>Zw (chk (decide (Zx b_16≤140737488355328)) (some (Zz .i64 (Xx (Yq b_16 2 n b_17)),[[Zp b_16,Zz .i64 (Xv (Yq b_16 2 n b_17)),Zm (Xu (Yq b_16 2 n b_17))]]))) fun (r:AV×Blocks)=>onConsB (Yw r) fun (x:List AV) (r_29:List (List AV))=>cBs x fun b_19 r_30=>cInt .i64 r_30 fun n r_31=>cBool r_31 fun b_20 r_32=>onNil r_32 (onNilB r_29 (Xb .i64 (Yk r) fun n_4=>Zw (chk (decide (Zx b_19≤140737488355328)) (some (Zp (Xx (Xq b_19 n_4 n b_20)),[[Zp b_19,Zz .i64 (Xv (Xq b_19 n_4 n b_20)),Zm (Xu (Xq b_19 n_4 n b_20))]]))) fun (r:AV×Blocks)=>onConsB (Yw r) fun (x:List AV) (r_33:List (List AV))=>cBs x fun b_21 r_34=>cInt .i64 r_34 fun n r_35=>cBool r_35 fun b_22 r_36=>onNil r_36 (onNilB r_33 (AV.onBs (Yk r) fun b_23=>sel b_22 t0 (Zw (chk (l63 b_7&&l63 b_15&&l63 b_18) (some (Zb [Zp (Xj (Yv (Xp n_1 (Yy [] [] []) n_2 b_7 b_12 b_15 b_18 b_23))),Zz .i64 (Yn (Yv (Xp n_1 (Yy [] [] []) n_2 b_7 b_12 b_15 b_18 b_23)))],[]))) (kT fun vs=>cBs vs fun b_24 r=>cInt .i64 r fun n r=>onNil r (sel (!n==0) t0 (sel (!b_24==b) t0 (some (Zb [Xy [Zz .i64 n_1,Zy [],Zy [],Zy [],Zz .i64 n_2,Zy b_7,Zp b_12,Zy b_15,Zy b_18,Zp b_23],Zz .i64 0],[]))))))))))))))))))))))) (Zw (chk (decide (Zx b_1≤140737488355328)) (some (Xy [Zy (Wp (Xx (Kerb.pPrin b_1 n b_2))),Zy (Wd (Xx (Kerb.pPrin b_1 n b_2))),Zy (Ww (Xx (Kerb.pPrin b_1 n b_2)))],[[Zp b_1,Zz .i64 (Xv (Kerb.pPrin b_1 n b_2)),Zm (Xu (Kerb.pPrin b_1 n b_2))]]))) fun (r:AV×Blocks)=>onConsB (Yw r) fun (x:List AV) (r_5:List (List AV))=>cBs x fun b_3 r_6=>cInt .i64 r_6 fun n r_7=>cBool r_7 fun b_4 r_8=>onNil r_8 (onNilB r_5 (Wm (Yk r) fun cs=>cStr cs fun b_5 r=>cStr r fun b_6 r=>cStr r fun b_7 r=>onNil r (Zw (chk (decide (Zx b_3≤140737488355328)) (some (Zz .i64 (Xx (Yq b_3 2 n b_4)),[[Zp b_3,Zz .i64 (Xv (Yq b_3 2 n b_4)),Zm (Xu (Yq b_3 2 n b_4))]]))) fun (r:AV×Blocks)=>onConsB (Yw r) fun (x:List AV) (r_9:List (List AV))=>cBs x fun b_8 r_10=>cInt .i64 r_10 fun n r_11=>cBool r_11 fun b_9 r_12=>onNil r_12 (onNilB r_9 (Xb .i64 (Yk r) fun n_2=>Zw (chk (decide (Zx b_8≤140737488355328)) (some (Zp (Xx (Xq b_8 n_2 n b_9)),[[Zp b_8,Zz .i64 (Xv (Xq b_8 n_2 n b_9)),Zm (Xu (Xq b_8 n_2 n b_9))]]))) fun (r:AV×Blocks)=>onConsB (Yw r) fun (x:List AV) (r_13:List (List AV))=>cBs x fun b_10 r_14=>cInt .i64 r_14 fun n r_15=>cBool r_15 fun b_11 r_16=>onNil r_16 (onNilB r_13 (AV.onBs (Yk r) fun b_12=>sel b_11 t0 (Zw (chk (l63 b_5&&l63 b_6&&l63 b_7&&true&&true&&true) (some (Zb [Zp (Xj (Yv (Xp n_1 (Yy b_5 b_6 b_7) 0 [] [] [] [] b_12))),Zz .i64 (Yn (Yv (Xp n_1 (Yy b_5 b_6 b_7) 0 [] [] [] [] b_12)))],[]))) (kT fun vs=>cBs vs fun b_13 r=>cInt .i64 r fun n r=>onNil r (sel (!n==0) t0 (sel (!b_13==b) t0 (some (Zb [Xy [Zz .i64 n_1,Zy b_5,Zy b_6,Zy b_7,Zz .i64 0,Zy [],Zp [],Zy [],Zy [],Zp b_12],Zz .i64 0],[]))))))))))))))))):Option (AV×Blocks))) (by kernel_rfl) ?_
  delta kT
  try dsimp only [cStr,cBs,cBool,cU8,cInt,cSl,l63]
  have hb:=of_decide_eq_true hpre
  simp only [A0]
  by_cases h:(Kerb.headIs b [9]).2=0
  case neg =>
   rw [sel_pos (by simpa using h)]
   unfold Kerb.decodeKaRequest
   rw [if_pos h]
   rfl
  have hd:Kerb.decodeKaRequest b=Kerb.decBy Kerb.noKaReq Yv Ug b:=by unfold Kerb.decodeKaRequest;rw [if_neg (by simpa using h)]
  rw [sel_neg (by simp [h]),hd]
  rw [chk_of hpre]
  by_cases h2:(Yq b 1 2 false).val=2
  ·have e2:((Yq b 1 2 false).val==2)=true:=by simpa using h2
   rw [sel_pos e2]
   rw [chk_of hpre,chk_of hpre,chk_of hpre,chk_of hpre,chk_of hpre,chk_of hpre,chk_of hpre,chk_of hpre]
   have lt:=Kerb.pText_len b
   rw [chk_of (by simp only [Yz,decide_eq_true_eq];exact ⟨⟨Wh (lt _ _) (by omega),Wh (lt _ _) (by omega)⟩,Wh (lt _ _) (by omega)⟩)]
   exact Ub (no:=Kerb.noKaReq) (enc:=Yv) (rd:=Ug) _ _ (by unfold Ug Kerb.pReq;dsimp only;rw [e2];rfl) (fun x e=>(Zb [Xy [Zz Zk (x).op,Zy (x).user.name,Zy (x).user.inst,Zy (x).user.realm,Zz Zk (x).kvno,Zy (x).realm,Zp (x).ticket,Zy (x).service,Zy (x).inst,Zp (x).box],Zz Zk e],([]:Blocks)))
  ·have e2:((Yq b 1 2 false).val==2)=false:=by simpa using h2
   rw [sel_neg e2]
   rw [chk_of hpre,chk_of hpre,chk_of hpre]
   have lt:=Kerb.pPrin_len b (Yq b 1 2 false).pos (Yq b 1 2 false).bad
   rw [chk_of (by simp;omega)]
   exact Ub (no:=Kerb.noKaReq) (enc:=Yv) (rd:=Ug) _ _ (by unfold Ug Kerb.pReq;dsimp only;rw [e2];rfl) (fun x e=>(Zb [Xy [Zz Zk (x).op,Zy (x).user.name,Zy (x).user.inst,Zy (x).user.realm,Zz Zk (x).kvno,Zy (x).realm,Zp (x).ticket,Zy (x).service,Zy (x).inst,Zp (x).box],Zz Zk e],([]:Blocks)))
 ·cases h
theorem w156:Walked Tryz.prog G 156 10 sp156:=by
 refine ⟨Tryz.f156,Tryz.func156,by decide +kernel,rfl,fun xs bl r h=> ?_⟩
 unfold sp156 at h
 split at h
 ·rename_i i op u1 u2 u3 kv qr tk sv ins bx rl els now ad sk se
  obtain ⟨hpre,h2⟩:=chk_inv h;cases h2
  show runFnH (G.env 156 10) G.rts (G.own 156) Tryz.f156 _ _ [0]=_
  refine Eq.trans (b:=(let t1:List (List AV):=[[Zz .i64 op,Zy u1,Zy u2,Zy u3,Zz .i64 kv,Zy qr,Zp tk,Zy sv,Zy ins,Zp bx,Zy rl,Wn 9 els,Zz .i64 now,Zz .i64 ad,Zz .i64 sk,Zz .u64 se]];let t3:List AV:=[Zz .i64 0,Zy [],Zy [],Zy [],Zy [],Zy [],Zy [],Zy [],Zy [],Zy [],Zz .u64 0,Zz .u64 0,Zz .u64 0,Zp [],Zz .i64 0,Zz .i64 0,Zm false];let t4:Bool:=l63 rl&&List.all els Uz&&decide (Zx els≤1000000);let t0:Option (AV×Blocks):=some (Xy (Zy rl::Wn 9 els::Zp []::t3),t1);let t2:List AV:=Zp (Xj (Vb (Ux op 62 [])))::t3;chk (decide (0≤i)&&decide (i<(↑(Zx els):Int))&&true) (Wm (Vm els (Ym i) Uk) fun cs=>cStr cs fun b r=>cStr r fun b_1 r=>cInt .u64 r fun n r=>let t5:Bool:=t4&&l63 b&&l63 b_1&&Kerb.isU64 n;cInt .i64 r fun n_1 r=>cInt .i64 r fun n_2 r=>cInt .i64 r fun n_3 r=>cInt .i64 r fun n_4 r=>let t7:Kerb.Dec Kerb.Db:=Kerb.putEnt (Wj rl (Xf Xk els)) i (Wv b b_1 n n_1 n_2 n_3 n_4 0 (Kerb.imin (Zd .i64 (now+600)) 4294967295));let t6:Kerb.Db:=Vn t7;cInt .i64 r fun n_5 r=>cInt .i64 r fun n_6 r=>let t9:Kerb.Dec Kerb.Db:=Kerb.putEnt (Wj rl (Xf Xk els)) i (Wv b b_1 n n_1 n_2 n_3 n_4 (Zd .i64 (n_5+1)) n_6);let t8:Kerb.Db:=Vn t9;onNil r (sel (decide (Zd .i64 (n_5+1)≥20)) (Zw (chk t5 (some (Zb [Xy [Zy (Un t6),Wn 9 (Xf Yf (Uu t6))],Zz .i64 (Kerb.Dec.err t7)],[]))) (kT fun vs=>onCons vs fun x r=>Wm x fun cs=>cStr cs fun b r_1=>cSl 9 r_1 fun b_2 r_2=>onNil r_2 (cInt .i64 r fun n r=>onNil r (sel (!n==0) t0 (sel (!Yn (Vb (Ux op 62 []))==0) t0 (some (Xy (Zy b::Wn 9 b_2::t2),t1))))))) (Zw (chk t5 (some (Zb [Xy [Zy (Un t8),Wn 9 (Xf Yf (Uu t8))],Zz .i64 (Kerb.Dec.err t9)],[]))) (kT fun vs=>onCons vs fun x r=>Wm x fun cs=>cStr cs fun b r_1=>cSl 9 r_1 fun b_2 r_2=>onNil r_2 (cInt .i64 r fun n r=>onNil r (sel (!n==0) t0 (sel (!Yn (Vb (Ux op 62 []))==0) t0 (some (Xy (Zy b::Wn 9 b_2::t2),t1))))))))):Option (AV×Blocks))) (by kernel_rfl) ?_
  delta kT
  try dsimp only [cStr,cBs,cBool,cU8,cInt,cSl,l63]
  simp only [Yz,decide_eq_true_eq] at hpre
  obtain ⟨⟨⟨⟨⟨hpre,he⟩,h0⟩,h1⟩,hop⟩,hn⟩:=hpre
  obtain ⟨⟨⟨⟨⟨⟨⟨⟨⟨⟨⟨c1,c2⟩,c3⟩,c4⟩,c5⟩,c6⟩,c7⟩,c8⟩,c9⟩,c10⟩,hall⟩,hlen⟩:=hpre
  obtain ⟨es,rfl,hok⟩:=Kerb.ents_of hall
  rw [Uv] at *
  simp only [Wu] at hlen h1
  have i0:decide (0≤i)=true:=by simp;omega
  have i1:decide (i<(es.length:Int))=true:=by simp;omega
  simp only [hall,Wu,hlen,c7,i0,i1,decide_true,Yg,↓A0,A0]
  rw [Vx (by omega)]
  have hp:=Kerb.putEnt_failed (d:=⟨rl,es⟩) he h0 h1 hn
  have hx:=Kerb.entAt_err (d:=⟨rl,es⟩) he h0 h1
  have ho:=hok _ (Kerb.ent_mem (es:=es) (i:=i.toNat) (by omega))
  unfold Kerb.entAt at hp hx
  dsimp only at hp hx
  generalize es.getD i.toNat Uf=e at hp hx ho
  have x9:=Kerb.within_iff.1 (Kerb.Entry.err_inv hx).2.2.2.2.2.2.2.2
  have n9:=Kerb.within_iff.1 hn
  have hr:=Kerb.kaRefuse_ok (op:=op) (c:=62) hop (by decide) (by decide)
  obtain ⟨o1,o2,o3,_⟩:=ho
  simp only [Yf,o1,o2,o3,hr,decide_true,Yg,↓A0,A0]
  unfold Kerb.Entry.failed at hp
  rw [wrap_i64 (n:=e.fails+1) (by omega) (by omega)]
  by_cases hf:20≤e.fails+1
  ·rw [if_pos hf] at hp
   rw [sel_pos (by simpa using hf),wrap_i64 (by omega) (by omega),hp]
   rfl
  ·rw [if_neg hf] at hp
   rw [sel_neg (by simpa using hf),hp]
   rfl
 ·cases h
theorem w225:Walked Tryz.prog G 225 10 sp225:=by
 refine ⟨Tryz.f225,Tryz.func225,by decide +kernel,rfl,fun xs bl r h=> ?_⟩
 unfold sp225 at h
 split at h
 ·rename_i key al at_ ase ast aen akv a1 a2 a3 atk op u1 u2 u3 kv qr tk sv ins bx rl els now ad sk se
  obtain ⟨hpre,h2⟩:=chk_inv h;cases h2
  show runFnH (G.env 225 10) G.rts (G.own 225) Tryz.f225 _ _ [0]=_
  refine Eq.trans (b:=(let t0:List (List AV):=[[Zz .i64 op,Zy u1,Zy u2,Zy u3,Zz .i64 kv,Zy qr,Zp tk,Zy sv,Zy ins,Zp bx,Zy rl,Wn 9 els,Zz .i64 now,Zz .i64 ad,Zz .i64 sk,Zz .u64 se]];Zw (chk (l63 a1&&l63 a2&&l63 a3&&decide (0≤ase)&&decide (ase<18446744073709551616)) (some (Zb [Zp (Xj (Wf (Up al at_ ase ast aen akv (Yy a1 a2 a3) atk))),Zz .i64 (Yn (Wf (Up al at_ ase ast aen akv (Yy a1 a2 a3) atk)))],[]))) (kT fun vs=>cBs vs fun b r=>cInt .i64 r fun n r=>onNil r (sel (!n==0) (some (Zb [Zp [],Zz .i64 n],t0)) (Zw (chk (decide (0≤key)&&decide (key<18446744073709551616)) (some (Zb [Zp (Xj (Vd 8 key b)),Zz .i64 (Yn (Vd 8 key b))],[]))) (kT fun vs=>cBs vs fun b r=>cInt .i64 r fun n r=>onNil r (sel (!n==0) (some (Zb [Zp [],Zz .i64 n],t0)) (some (Zb [Zp (Xj (Vb (Ux op 0 b))),Zz .i64 (Yn (Vb (Ux op 0 b)))],t0))))))):Option (AV×Blocks))) (by kernel_rfl) ?_
  delta kT
  try dsimp only [cStr,cBs,cBool,cU8,cInt,cSl,l63]
  simp only [Yz,decide_eq_true_eq] at hpre
  simp only [Kerb.isU64_iff] at hpre
  obtain ⟨⟨⟨⟨⟨h1,h2⟩,h3⟩,h4⟩,h5,h6⟩,h7,h8⟩:=hpre
  simp only [h1,h2,h3,h4,h5,h6,h7,h8,decide_true,Yg,↓A0,A0]
  unfold Kerb.kaReplyDec
  try dsimp only
  generalize Wf _=E
  by_cases he:E.err=0
  case neg=>rw [sel_pos (by simpa using he),if_pos he]
  rw [sel_neg (by simpa using he),if_neg (by simpa using he)]
  generalize Vd _ _ _=F
  by_cases hf:F.err=0
  case neg=>rw [sel_pos (by simpa using hf),if_pos hf]
  rw [sel_neg (by simpa using hf),if_neg (by simpa using hf)]
 ·cases h
theorem w249:Walked Tryz.prog G 249 10 sp249:=by
 refine ⟨Tryz.f249,Tryz.func249,by decide +kernel,rfl,fun xs bl r h=> ?_⟩
 unfold sp249 at h
 split at h
 ·rename_i b
  obtain ⟨hpre,h2⟩:=chk_inv h;cases h2
  refine Eq.trans (b:=(let t1:AV:=Xy [Zm false,Zy [],Zy [],Zy [],Zz .i64 0,Zz .u64 0,Zz .i64 0,Zz .i64 0,Zy [],Zy []];let t0:Option (AV×Blocks):=some (Zb [t1,Zz .i64 100],[]);Zw (chk (decide (Zx b≤4611686018427387904)) (some (Zb [Zz .i64 (Kerb.Got.val (Vj b 0 1 false)),Zz .i64 (Kerb.Got.next (Vj b 0 1 false)),Zz .i64 (Kerb.Got.err (Vj b 0 1 false))],[]))) (kT fun vs=>cInt .i64 vs fun n r=>cInt .i64 r fun n_1 r=>cInt .i64 r fun n_2 r=>onNil r (sel (decide (n>1)) (some (Zb [t1,Zz .i64 7],[])) (Zw (chk (decide (Zx b≤4611686018427387904)) (some (Zb [Xy [Zy (Wp (Uw (Xd b n_1))),Zy (Wd (Uw (Xd b n_1))),Zy (Ww (Uw (Xd b n_1)))],Zz .i64 (Kerb.GotP.next (Xd b n_1)),Zz .i64 (Kerb.GotP.err (Xd b n_1))],[]))) (kT fun vs=>onCons vs fun x r=>Wm x fun cs=>cStr cs fun b_1 r_1=>cStr r_1 fun b_2 r_2=>cStr r_2 fun b_3 r_3=>onNil r_3 (cInt .i64 r fun n_3 r=>cInt .i64 r fun n_4 r=>onNil r (Zw (chk (decide (Zx b≤4611686018427387904)) (some (Zb [Zz .i64 (Kerb.Got.val (Vj b n_3 4 (n==1))),Zz .i64 (Kerb.Got.next (Vj b n_3 4 (n==1))),Zz .i64 (Kerb.Got.err (Vj b n_3 4 (n==1)))],[]))) (kT fun vs=>cInt .i64 vs fun n_5 r=>cInt .i64 r fun n_6 r=>cInt .i64 r fun n_7 r=>onNil r (Zw (chk (decide (Zx b≤140737488355328)) (some (Zb [Zp (Kerb.GotB.val (Kerb.bytes b n_6 8)),Zz .i64 (Kerb.GotB.next (Kerb.bytes b n_6 8)),Zz .i64 (Kerb.GotB.err (Kerb.bytes b n_6 8))],[]))) (kT fun vs=>cBs vs fun b_4 r=>cInt .i64 r fun n_8 r=>cInt .i64 r fun n_9 r=>onNil r (Zw (chk (decide (Zx b_4≤4611686018427387904)) (some (Zb [Zz .u64 (Yk (Kerb.keyRead b_4)),Zm (Yw (Kerb.keyRead b_4))],[]))) (kT fun vs=>cInt .u64 vs fun n_10 r=>cBool r fun b_5 r=>onNil r (Zw (chk (decide (Zx b≤4611686018427387904)) (some (Zb [Zz .i64 (Kerb.Got.val (Vj b n_8 1 false)),Zz .i64 (Kerb.Got.next (Vj b n_8 1 false)),Zz .i64 (Kerb.Got.err (Vj b n_8 1 false))],[]))) (kT fun vs=>cInt .i64 vs fun n_11 r=>cInt .i64 r fun n_12 r=>cInt .i64 r fun n_13 r=>onNil r (Zw (chk (decide (Zx b≤4611686018427387904)) (some (Zb [Zz .i64 (Kerb.Got.val (Vj b n_12 4 (n==1))),Zz .i64 (Kerb.Got.next (Vj b n_12 4 (n==1))),Zz .i64 (Kerb.Got.err (Vj b n_12 4 (n==1)))],[]))) (kT fun vs=>cInt .i64 vs fun n_14 r=>cInt .i64 r fun n_15 r=>cInt .i64 r fun n_16 r=>onNil r (Zw (chk (decide (Zx b≤4611686018427387904)) (some (Zb [Zy (Kerb.GotB.val (Wb b n_15)),Zz .i64 (Kerb.GotB.next (Wb b n_15)),Zz .i64 (Kerb.GotB.err (Wb b n_15))],[]))) (kT fun vs=>cStr vs fun b_6 r=>cInt .i64 r fun n_17 r=>cInt .i64 r fun n_18 r=>onNil r (Zw (chk (decide (Zx b≤4611686018427387904)) (some (Zb [Zy (Kerb.GotB.val (Wb b n_17)),Zz .i64 (Kerb.GotB.next (Wb b n_17)),Zz .i64 (Kerb.GotB.err (Wb b n_17))],[]))) (kT fun vs=>cStr vs fun b_7 r=>let t2:Kerb.Enc:=Vw (Vf (n==1) (Yy b_1 b_2 b_3) n_5 n_10 n_11 n_14 b_6 b_7);cInt .i64 r fun n_19 r=>cInt .i64 r fun n_20 r=>onNil r (Zw (chk (l63 b_1&&l63 b_2&&l63 b_3&&l63 b_6&&l63 b_7&&decide (0≤n_10)&&decide (n_10<18446744073709551616)) (some (Zb [Zp (Xj t2),Zz .i64 (Yn t2)],[]))) (kT fun vs=>cBs vs fun b_8 r=>cInt .i64 r fun n_21 r=>onNil r (sel (!n_21==0) t0 (sel (!b_8==b) t0 (some (Zb [Xy [Zm (n==1),Zy b_1,Zy b_2,Zy b_3,Zz .i64 n_5,Zz .u64 n_10,Zz .i64 n_11,Zz .i64 n_14,Zy b_6,Zy b_7],Zz .i64 0],[]))))))))))))))))))))))))):Option (AV×Blocks))) (by kernel_rfl) ?_
  delta kT
  try dsimp only [cStr,cBs,cBool,cU8,cInt,cSl,l63]
  have hb:=of_decide_eq_true hpre
  have hpre2:decide (b.length≤4611686018427387904)=true:=by simp;omega
  simp only [hpre,hpre2,↓A0,A0]
  unfold Kerb.decodeTicket
  by_cases h7:1<(Vj b 0 1 false).val
  ·rw [sel_pos (by simpa using h7),if_pos h7];try rfl
  rw [sel_neg (by simpa using h7),if_neg h7]
  have hl:∀ p n,(Kerb.bytes b p n).val.length≤4611686018427387904:=fun p n=>Wh (Kerb.bytes_len b p n) (by omega)
  have hk:∀ q,0≤(Kerb.keyRead q).1∧(Kerb.keyRead q).1<18446744073709551616:=Kerb.keyRead_bd
  have hx:∀ q,(Wb b q).val.length≤40:=Kerb.text_len b
  have lp:∀ q (_:Unit),(Xd b q).val.name.length≤40∧(Xd b q).val.inst.length≤40∧(Xd b q).val.realm.length≤40:=fun q _=>Kerb.prin_len b q
  rw [chk_of (by simp only [decide_eq_true_eq];exact hl _ _),chk_of (by simp only [Yz,decide_eq_true_eq];exact ⟨⟨⟨⟨⟨⟨Wh (lp _ ()).1 (by decide),Wh (lp _ ()).2.1 (by decide)⟩,Wh (lp _ ()).2.2 (by decide)⟩,Wh (hx _) (by decide)⟩,Wh (hx _) (by decide)⟩,(hk _).1⟩,(hk _).2⟩)]
  exact Ub (no:=Kerb.noTicket) (enc:=Vw) (rd:=fun b=>(Kerb.readTicket b,false)) _ false rfl (fun x e=>(Zb [Xy [Zm (x).little,Zy (x).client.name,Zy (x).client.inst,Zy (x).client.realm,Zz Zk (x).address,Zz Xh (x).session,Zz Zk (x).life,Zz Zk (x).issued,Zy (x).service,Zy (x).inst],Zz Zk e],([]:Blocks)))
 ·cases h
theorem w250:Walked Tryz.prog G 250 10 sp250:=by
 refine ⟨Tryz.f250,Tryz.func250,by decide +kernel,rfl,fun xs bl r h=> ?_⟩
 unfold sp250 at h
 split at h
 ·rename_i li x y z ad k lf iss sv ins key
  obtain ⟨hpre,h2⟩:=chk_inv h;cases h2
  refine Eq.trans (b:=(Zw (chk (decide (Zx x≤9223372036854775807)&&decide (Zx y≤9223372036854775807)&&decide (Zx z≤9223372036854775807)&&decide (Zx sv≤9223372036854775807)&&decide (Zx ins≤9223372036854775807)&&decide (0≤k)&&decide (k<18446744073709551616)) (some (Zb [Zp (Xj (Vw (Vf li (Yy x y z) ad k lf iss sv ins))),Zz .i64 (Yn (Vw (Vf li (Yy x y z) ad k lf iss sv ins)))],[]))) fun (r:AV×Blocks)=>onNilB (Yw r) (AV.onTup (Yk r) fun vs=>onCons vs fun x r=>AV.onBs x fun b=>onCons r fun x r=>Xb .i64 x fun n=>onNil r (sel (!n==0) (some (Zb [Zp [],Zz .i64 n],[])) (Zw (chk (decide (0≤key)&&decide (key<18446744073709551616)) (some (Zb [Zp (Xj (Vd 1 key b)),Zz .i64 (Yn (Vd 1 key b))],[]))) fun (r:AV×Blocks)=>onNilB (Yw r) (AV.onTup (Yk r) fun vs=>onCons vs fun x r=>AV.onBs x fun b=>onCons r fun x r=>Xb .i64 x fun n=>onNil r (some (Zb [Zp b,Zz .i64 n],[])))))):Option (AV×Blocks))) (by kernel_rfl) ?_
  simp only [Yz,decide_eq_true_eq] at hpre
  obtain ⟨⟨⟨⟨⟨⟨⟨⟨h1,h2⟩,h3⟩,h4⟩,h5⟩,h6⟩,h7⟩,h8⟩,h9⟩:=hpre
  simp only [h1,h2,h3,h4,h5,h6,h7,h8,h9,decide_true,Yg,↓A0,A0]
  unfold Kerb.sealTicket
  generalize Vw _=E
  by_cases he:E.err=0
  ·rw [sel_neg (by simpa using he),if_neg (by simpa using he)]
  ·rw [sel_pos (by simpa using he),if_pos he]
 ·cases h
end Go.Proofs.YtaikjfcgemjghaaGreat
