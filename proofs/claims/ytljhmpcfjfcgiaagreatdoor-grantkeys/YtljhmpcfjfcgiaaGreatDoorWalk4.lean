/- What the functions of this seat compute. -/
import Derived.Test.YtljhmpcfjfcgiaaGreatDoorTab
import Derived.Test.YtljhmpcfjfcgiaaGreatDoorKerbPlain
import Derived.Test.YtljhmpcfjfcgiaaGreatDoorAbsStep
import Derived.Test.YtljhmpcfjfcgiaaGreatDoorKerbCli3
import Derived.Test.YtljhmpcfjfcgiaaGreatDoorKerbCli4
import Derived.Test.YtljhmpcfjfcgiaaGreatDoorKerbCli5
import Derived.Test.YtljhmpcfjfcgiaaGreatDoorKerbSrvL
import Derived.Test.YtljhmpcfjfcgiaaGreatDoorKerbKac2
import Derived.Test.YtljhmpcfjfcgiaaGreatDoorKerbKac4
import Derived.Test.YtljhmpcfjfcgiaaGreatDoorKerbSrvB
import Derived.Test.YtljhmpcfjfcgiaaGreatDoorKerbVerL
import Derived.Test.YtljhmpcfjfcgiaaGreatDoorKerbVerL
import Derived.Test.YtljhmpcfjfcgiaaGreatDoorKerbAuthL
open Go.Abs.AV renaming int→Zz,str→Zy,tup→Zd,bs→Zb,bool→Zh,agg→Yz,sl→Yg,onAgg→Yn,ownB→Wm
open List renaming length→Zx,map→Yu,length_map→Yf,all→Xm,append→Wd
open Kerb.Prin renaming mk→Zw,realm→Zf,name→Zn,inst→Zm
open Option renaming bind→Zv
open Kerb renaming putPrin_len→Zu,keyBytes_len→Zj,putN_len→Zk,openTicket→Zp,noIssue→Zg,grant→Yx,decodeTicket→Yk,decodeTgs→Yd,putN→Ym,get→Yh,putText→Xx,openReq→Xw,prin→Xv,decodeAuth→Xq,openAuth→Xp,encodeTicket→Xh,openBox→Wy,toSKey→Wf,skFind→Wg,holder→Wb,dataDb→Wn,skAt→Vw,refuse→Vq,map_toSKey→Vp,skeys_all→Uz,grantKeys→Uy
open Kerb.Dec renaming val→Zq,err→Wp
open Kerb.Granted renaming issue→Yy,part→Xy
open Kerb.Ticket renaming client→Yw,mk→Xg,session→Vz,service→Vy,address→Vx,little→Vv,issued→Vu,life→Vm,inst→Vh
open Kerb.Issue renaming service→Yv,server→Yq,client→Yj,session→Vj,granter→Vk,sealer→Vd,issued→Vf,text→Ux,stop→Uw,kind→Uv
open Go.IntKind renaming i64→Yp
open Bool renaming and_eq_true→Yb,and_self→Xu,not_true→Uj
open Kerb.Auth renaming client→Xz,mk→Uu
open Kerb.TgsRequest renaming ap→Xj
open Prod renaming snd→Xk,fst→Xn
open Kerb.SKey renaming av→Xd
open Kerb.ApRequest renaming mk→Xf
open Kerb.Server renaming mk→Xb
open Kerb.Entry renaming av→Wz
open Kerb.ReplyPart renaming mk→Wx,service→Vb
open Kerb.Got renaming next→Ww,val→Wu,err→Wq
open Kerb.RCache renaming mk→Wv
open Kerb.Enc renaming val→Wj,err→Wk
open Kerb.GotP renaming val→Wh
open Kerb.Db renaming mk→Vg
open Nat renaming le_trans→Vn
open Kerb.Accepted renaming client→Uq
namespace Go.Proofs.YtljhmpcfjfcgiaaGreatDoor
open Go Go.Abs Go.Proofs
set_option linter.unusedVariables false
set_option linter.unusedSimpArgs false
set_option maxRecDepth 100000
theorem w144:Walked Tryz.prog G 144 9 sp144:=by
 refine ⟨Tryz.f144,Tryz.func144,by decide +kernel,rfl,fun xs bl r h=> ?_⟩
 unfold sp144 at h
 split at h
 ·rename_i li x y z ad k lf iss sv ins
  obtain ⟨hpre,h2⟩:=chk_inv h;cases h2
  refine Eq.trans (b:=(let t0:Nat:=Zx ([]++Ym 1 1 false)+Zx x+Zx y+Zx z;let t1:Nat:=Zx ([]++Ym 0 1 false)+Zx x+Zx y+Zx z;let t2:Option (AV×Blocks):=chk (decide (0≤k)&&decide (k<18446744073709551616)) (some (Zb (Kerb.keyBytes k),[]));Zv (chk (l63 x&&l63 y&&l63 z&&l63 sv&&l63 ins&&decide (0≤k)&&decide (k<18446744073709551616)) (some (Zz .i64 (Kerb.Ticket.err (Xg li (Zw x y z) ad k lf iss sv ins)),[]))) (kI .i64 fun n=>sel (!n==0) (some (Zd [Zb [],Zz .i64 n],[])) (sel li (Zv (chk (decide (t0≤70368744170000)) (some (Zb (Kerb.putPrin ([]++Ym 1 1 false) (Zw x y z)),[]))) (kB fun b=>Zv (chk (decide (Zx b≤70368744177664)) (some (Wm (b++Ym ad 4 li),[]))) (kO fun l=>Zv t2 (kB fun b=>Zv (chk (decide (Zx (Wd l (Wd b []))≤140737488355328)&&decide (Zx [Zb l,Zb b]≤1000)) (some (Wm (Wd l (Wd b [])),[]))) (kO fun l=>Zv (chk (decide (Zx l≤70368744177664)) (some (Wm (l++Ym lf 1 false),[]))) (kO fun l=>Zv (chk (decide (Zx l≤70368744177664)) (some (Wm (l++Ym iss 4 li),[]))) (kO fun l=>Zv (chk (decide (Zx l+Zx sv≤70368744177664)) (some (Zb (Xx l sv),[]))) (kB fun b=>Zv (chk (decide (Zx b+Zx ins≤70368744177664)) (some (Zb (Xx b ins),[]))) (kB fun b=>Zv (chk (decide (Zx b≤70368744177664)) (some (Zb (Kerb.pad b),[]))) (kB fun b=>some (Zd [Zb b,Zz .i64 0],[]))))))))))) (Zv (chk (decide (t1≤70368744170000)) (some (Zb (Kerb.putPrin ([]++Ym 0 1 false) (Zw x y z)),[]))) (kB fun b=>Zv (chk (decide (Zx b≤70368744177664)) (some (Wm (b++Ym ad 4 li),[]))) (kO fun l=>Zv t2 (kB fun b=>Zv (chk (decide (Zx (Wd l (Wd b []))≤140737488355328)&&decide (Zx [Zb l,Zb b]≤1000)) (some (Wm (Wd l (Wd b [])),[]))) (kO fun l=>Zv (chk (decide (Zx l≤70368744177664)) (some (Wm (l++Ym lf 1 false),[]))) (kO fun l=>Zv (chk (decide (Zx l≤70368744177664)) (some (Wm (l++Ym iss 4 li),[]))) (kO fun l=>Zv (chk (decide (Zx l+Zx sv≤70368744177664)) (some (Zb (Xx l sv),[]))) (kB fun b=>Zv (chk (decide (Zx b+Zx ins≤70368744177664)) (some (Zb (Xx b ins),[]))) (kB fun b=>Zv (chk (decide (Zx b≤70368744177664)) (some (Zb (Kerb.pad b),[]))) (kB fun b=>some (Zd [Zb b,Zz .i64 0],[]))))))))))))):Option (AV×Blocks))) (by kernel_rfl) ?_
  delta kB kO kI
  try dsimp only [cStr,cBs,cBool,cU8,cInt,cSl,l63]
  simp only [Yb,decide_eq_true_eq] at hpre
  obtain ⟨⟨⟨⟨⟨⟨h1,h2⟩,h3⟩,h4⟩,h5⟩,h6⟩,h7⟩:=hpre
  simp only [h1,h2,h3,h4,h5,h6,h7,decide_true,Xu,↓A0,A0]
  have hb := @Kerb.encTicket_inv ⟨li,⟨x,y,z⟩,ad,k,lf,iss,sv,ins⟩
  unfold Xh at hb ⊢
  dsimp only at hb ⊢
  generalize hE:Kerb.Ticket.err _=e at hb ⊢
  by_cases he:e=0
  case neg=>rw [sel_pos (by simpa using he),if_pos he]
  rw [if_neg (by simpa using he)] at hb
  obtain ⟨v1,v2,v3,_⟩:=hb rfl
  have l1:=Kerb.valid_len v1
  have l2:=(Kerb.name_ok v2).1
  have l3:=(Kerb.inst_ok v3).1
  dsimp only at l1
  rw [sel_neg (by simpa using he),if_neg (by simpa using he)]
  cases li
  ·rw [sel_false,chk_of (by first | (simp [Zu,Zk,Zj];done) | (simp [Zu,Zk,Zj];omega)),chk_of (by first | (simp [Zu,Zk,Zj];done) | (simp [Zu,Zk,Zj];omega)),chk_of (by first | (simp [Zu,Zk,Zj];done) | (simp [Zu,Zk,Zj];omega)),chk_of (by first | (simp [Zu,Zk,Zj];done) | (simp [Zu,Zk,Zj];omega)),chk_of (by first | (simp [Zu,Zk,Zj];done) | (simp [Zu,Zk,Zj];omega)),chk_of (by first | (simp [Zu,Zk,Zj];done) | (simp [Zu,Zk,Zj];omega)),chk_of (by first | (simp [Xx,Zu,Zk,Zj];done) | (simp [Xx,Zu,Zk,Zj];omega)),chk_of (by first | (simp [Xx,Zu,Zk,Zj];done) | (simp [Xx,Zu,Zk,Zj];omega))]
   simp
  ·rw [sel_true,chk_of (by first | (simp [Zu,Zk,Zj];done) | (simp [Zu,Zk,Zj];omega)),chk_of (by first | (simp [Zu,Zk,Zj];done) | (simp [Zu,Zk,Zj];omega)),chk_of (by first | (simp [Zu,Zk,Zj];done) | (simp [Zu,Zk,Zj];omega)),chk_of (by first | (simp [Zu,Zk,Zj];done) | (simp [Zu,Zk,Zj];omega)),chk_of (by first | (simp [Zu,Zk,Zj];done) | (simp [Zu,Zk,Zj];omega)),chk_of (by first | (simp [Zu,Zk,Zj];done) | (simp [Zu,Zk,Zj];omega)),chk_of (by first | (simp [Xx,Zu,Zk,Zj];done) | (simp [Xx,Zu,Zk,Zj];omega)),chk_of (by first | (simp [Xx,Zu,Zk,Zj];done) | (simp [Xx,Zu,Zk,Zj];omega))]
   simp
 ·cases h
theorem w157:Walked Tryz.prog G 157 9 sp157:=by
 refine ⟨Tryz.f157,Tryz.func157,by decide +kernel,rfl,fun xs bl r h=> ?_⟩
 unfold sp157 at h
 split at h
 ·rename_i x y z ck tc tm li
  obtain ⟨hpre,h2⟩:=chk_inv h;cases h2
  refine Eq.trans (b:=(let t0:Nat:=Zx ([]++Ym 0 1 false)+Zx x+Zx y+Zx z;let t1:Nat:=Zx ([]++Ym 1 1 false)+Zx x+Zx y+Zx z;Zv (chk (l63 x&&l63 y&&l63 z) (some (Zz .i64 (Kerb.Auth.check (Uu (Zw x y z) ck tc tm)),[]))) (kI .i64 fun n=>sel (!n==0) (some (Zd [Zb [],Zz .i64 n],[])) (sel li (Zv (chk (decide (t1≤70368744170000)) (some (Zb (Kerb.putPrin ([]++Ym 1 1 false) (Zw x y z)),[]))) (kB fun b=>Zv (chk (decide (Zx b≤70368744177664)) (some (Wm (b++Ym ck 4 li),[]))) (kO fun l=>Zv (chk (decide (Zx l≤70368744177664)) (some (Wm (l++Ym tc 1 false),[]))) (kO fun l=>Zv (chk (decide (Zx l≤70368744177664)) (some (Wm (l++Ym tm 4 li),[]))) (kO fun l=>Zv (chk (decide (Zx l≤70368744177664)) (some (Zb (Kerb.pad l),[]))) (kB fun b=>some (Zd [Zb b,Zz .i64 0],[]))))))) (Zv (chk (decide (t0≤70368744170000)) (some (Zb (Kerb.putPrin ([]++Ym 0 1 false) (Zw x y z)),[]))) (kB fun b=>Zv (chk (decide (Zx b≤70368744177664)) (some (Wm (b++Ym ck 4 li),[]))) (kO fun l=>Zv (chk (decide (Zx l≤70368744177664)) (some (Wm (l++Ym tc 1 false),[]))) (kO fun l=>Zv (chk (decide (Zx l≤70368744177664)) (some (Wm (l++Ym tm 4 li),[]))) (kO fun l=>Zv (chk (decide (Zx l≤70368744177664)) (some (Zb (Kerb.pad l),[]))) (kB fun b=>some (Zd [Zb b,Zz .i64 0],[]))))))))):Option (AV×Blocks))) (by kernel_rfl) ?_
  delta kB kO kI
  try dsimp only [cStr,cBs,cBool,cU8,cInt,cSl,l63]
  simp only [A0,Kerb.Client.av,Kerb.Cache.av,Kerb.Cred.av,hpre]
  unfold Kerb.encodeAuth
  by_cases h:(Uu ⟨x,y,z⟩ ck tc tm).check=0
  case neg =>
   rw [sel_pos (by simpa using h),if_pos h]
  have hv:Kerb.Prin.valid ⟨x,y,z⟩=true:=by
   unfold Kerb.Auth.check at h
   cases hv:Kerb.Prin.valid ⟨x,y,z⟩
   ·simp [hv] at h
   ·rfl
  have l1:=Kerb.valid_len hv
  simp only at l1
  rw [sel_neg (by simp [h]),if_neg (by simpa using h)]
  cases li
  ·simp only [A0,Kerb.Client.av,Kerb.Cache.av,Kerb.Cred.av,List.nil_append,cond_false,cond_true]
   rw [chk_of (by simp [Zk];omega),chk_of (by simp [Zk,Zu];omega),chk_of (by simp [Zk,Zu];omega),chk_of (by simp [Zk,Zu];omega),chk_of (by simp [Zk,Zu];omega)]
  ·simp only [A0,Kerb.Client.av,Kerb.Cache.av,Kerb.Cred.av,List.nil_append,cond_false,cond_true]
   rw [chk_of (by simp [Zk];omega),chk_of (by simp [Zk,Zu];omega),chk_of (by simp [Zk,Zu];omega),chk_of (by simp [Zk,Zu];omega),chk_of (by simp [Zk,Zu];omega)]
 ·cases h
theorem w35:Walked Tryz.prog G 35 10 sp35:=by
 refine ⟨Tryz.f35,Tryz.func35,by decide +kernel,rfl,fun xs bl r h=> ?_⟩
 unfold sp35 at h
 split at h
 ·rename_i rl els xls now li se x y z cd
  obtain ⟨hpre,h2⟩:=chk_inv h;cases h2
  refine Eq.trans (b:=(Zv (chk (decide (Zx x≤9223372036854775807)&&decide (Zx y≤9223372036854775807)&&decide (Zx z≤9223372036854775807)) (some (Zb (Vq (Zw x y z) cd now li),[]))) fun (r:AV×Blocks)=>onNilB (Xk r) (AV.onBs (Xn r) fun b=>some (Zd [Zb b,Yz [Zz .i64 0,Zy [],Zy [],Zy [],Zy [],Zy [],Zy [],Zy [],Zy [],Zy [],Zz .u64 0,Zz .u64 0,Zz .u64 0,Zb [],Zz .i64 0,Zz .i64 0],Zh false],[])):Option (AV×Blocks))) (by kernel_rfl) ?_
  simp only [Yb,decide_eq_true_eq] at hpre
  obtain ⟨⟨l1,l2⟩,l3⟩:=hpre
  simp only [l1,l2,l3,decide_true,Xu,↓sInt,↓sU8,↓sBool,↓sStr,↓sBs,↓sSl,↓sAgg,↓sTup,↓sCons,↓sNil,↓sNilB,↓sChk,↓sChkBind,↓sSome,↓sOwnL,↓sConsB,↓sOwnB]
  rfl
 ·cases h
theorem w110:Walked Tryz.prog G 110 10 sp110:=by
 refine ⟨Tryz.f110,Tryz.func110,by decide +kernel,rfl,fun xs bl r h=> ?_⟩
 unfold sp110 at h
 split at h
 ·rename_i b
  obtain ⟨hpre,h2⟩:=chk_inv h;cases h2
  refine Eq.trans (b:=(let t1:AV:=Yz [Zh false,Zy [],Zy [],Zy [],Zz .i64 0,Zz .u64 0,Zz .i64 0,Zz .i64 0,Zy [],Zy []];let t0:Option (AV×Blocks):=some (Zd [t1,Zz .i64 100],[]);Zv (chk (decide (Zx b≤4611686018427387904)) (some (Zd [Zz .i64 (Wu (Yh b 0 1 false)),Zz .i64 (Ww (Yh b 0 1 false)),Zz .i64 (Wq (Yh b 0 1 false))],[]))) (kT fun vs=>cInt .i64 vs fun n r=>cInt .i64 r fun n_1 r=>cInt .i64 r fun n_2 r=>onNil r (sel (decide (n>1)) (some (Zd [t1,Zz .i64 7],[])) (Zv (chk (decide (Zx b≤4611686018427387904)) (some (Zd [Yz [Zy (Zn (Wh (Xv b n_1))),Zy (Zm (Wh (Xv b n_1))),Zy (Zf (Wh (Xv b n_1)))],Zz .i64 (Kerb.GotP.next (Xv b n_1)),Zz .i64 (Kerb.GotP.err (Xv b n_1))],[]))) (kT fun vs=>onCons vs fun x r=>Yn x fun cs=>cStr cs fun b_1 r_1=>cStr r_1 fun b_2 r_2=>cStr r_2 fun b_3 r_3=>onNil r_3 (cInt .i64 r fun n_3 r=>cInt .i64 r fun n_4 r=>onNil r (Zv (chk (decide (Zx b≤4611686018427387904)) (some (Zd [Zz .i64 (Wu (Yh b n_3 4 (n==1))),Zz .i64 (Ww (Yh b n_3 4 (n==1))),Zz .i64 (Wq (Yh b n_3 4 (n==1)))],[]))) (kT fun vs=>cInt .i64 vs fun n_5 r=>cInt .i64 r fun n_6 r=>cInt .i64 r fun n_7 r=>onNil r (Zv (chk (decide (Zx b≤140737488355328)) (some (Zd [Zb (Kerb.GotB.val (Kerb.bytes b n_6 8)),Zz .i64 (Kerb.GotB.next (Kerb.bytes b n_6 8)),Zz .i64 (Kerb.GotB.err (Kerb.bytes b n_6 8))],[]))) (kT fun vs=>cBs vs fun b_4 r=>cInt .i64 r fun n_8 r=>cInt .i64 r fun n_9 r=>onNil r (Zv (chk (decide (Zx b_4≤4611686018427387904)) (some (Zd [Zz .u64 (Xn (Kerb.keyRead b_4)),Zh (Xk (Kerb.keyRead b_4))],[]))) (kT fun vs=>cInt .u64 vs fun n_10 r=>cBool r fun b_5 r=>onNil r (Zv (chk (decide (Zx b≤4611686018427387904)) (some (Zd [Zz .i64 (Wu (Yh b n_8 1 false)),Zz .i64 (Ww (Yh b n_8 1 false)),Zz .i64 (Wq (Yh b n_8 1 false))],[]))) (kT fun vs=>cInt .i64 vs fun n_11 r=>cInt .i64 r fun n_12 r=>cInt .i64 r fun n_13 r=>onNil r (Zv (chk (decide (Zx b≤4611686018427387904)) (some (Zd [Zz .i64 (Wu (Yh b n_12 4 (n==1))),Zz .i64 (Ww (Yh b n_12 4 (n==1))),Zz .i64 (Wq (Yh b n_12 4 (n==1)))],[]))) (kT fun vs=>cInt .i64 vs fun n_14 r=>cInt .i64 r fun n_15 r=>cInt .i64 r fun n_16 r=>onNil r (Zv (chk (decide (Zx b≤4611686018427387904)) (some (Zd [Zy (Kerb.GotB.val (Kerb.text b n_15)),Zz .i64 (Kerb.GotB.next (Kerb.text b n_15)),Zz .i64 (Kerb.GotB.err (Kerb.text b n_15))],[]))) (kT fun vs=>cStr vs fun b_6 r=>cInt .i64 r fun n_17 r=>cInt .i64 r fun n_18 r=>onNil r (Zv (chk (decide (Zx b≤4611686018427387904)) (some (Zd [Zy (Kerb.GotB.val (Kerb.text b n_17)),Zz .i64 (Kerb.GotB.next (Kerb.text b n_17)),Zz .i64 (Kerb.GotB.err (Kerb.text b n_17))],[]))) (kT fun vs=>cStr vs fun b_7 r=>let t2:Kerb.Enc:=Xh (Xg (n==1) (Zw b_1 b_2 b_3) n_5 n_10 n_11 n_14 b_6 b_7);cInt .i64 r fun n_19 r=>cInt .i64 r fun n_20 r=>onNil r (Zv (chk (l63 b_1&&l63 b_2&&l63 b_3&&l63 b_6&&l63 b_7&&decide (0≤n_10)&&decide (n_10<18446744073709551616)) (some (Zd [Zb (Wj t2),Zz .i64 (Wk t2)],[]))) (kT fun vs=>cBs vs fun b_8 r=>cInt .i64 r fun n_21 r=>onNil r (sel (!n_21==0) t0 (sel (!b_8==b) t0 (some (Zd [Yz [Zh (n==1),Zy b_1,Zy b_2,Zy b_3,Zz .i64 n_5,Zz .u64 n_10,Zz .i64 n_11,Zz .i64 n_14,Zy b_6,Zy b_7],Zz .i64 0],[]))))))))))))))))))))))))):Option (AV×Blocks))) (by kernel_rfl) ?_
  delta kT
  try dsimp only [cStr,cBs,cBool,cU8,cInt,cSl,l63]
  have hb:=of_decide_eq_true hpre
  have hpre2:decide (b.length≤4611686018427387904)=true:=by simp;omega
  simp only [hpre,hpre2,↓A0,A0]
  unfold Yk
  by_cases h7:1<(Yh b 0 1 false).val
  ·rw [sel_pos (by simpa using h7),if_pos h7];try rfl
  rw [sel_neg (by simpa using h7),if_neg h7]
  have hl:∀ p n,(Kerb.bytes b p n).val.length≤4611686018427387904:=fun p n=>Vn (Kerb.bytes_len b p n) (by omega)
  have hk:∀ q,0≤(Kerb.keyRead q).1∧(Kerb.keyRead q).1<18446744073709551616:=Kerb.keyRead_bd
  have hx:∀ q,(Kerb.text b q).val.length≤40:=Kerb.text_len b
  have lp:∀ q (_:Unit),(Xv b q).val.name.length≤40∧(Xv b q).val.inst.length≤40∧(Xv b q).val.realm.length≤40:=fun q _=>Kerb.prin_len b q
  rw [chk_of (by simp only [decide_eq_true_eq];exact hl _ _),chk_of (by simp only [Yb,decide_eq_true_eq];exact ⟨⟨⟨⟨⟨⟨Vn (lp _ ()).1 (by decide),Vn (lp _ ()).2.1 (by decide)⟩,Vn (lp _ ()).2.2 (by decide)⟩,Vn (hx _) (by decide)⟩,Vn (hx _) (by decide)⟩,(hk _).1⟩,(hk _).2⟩)]
  exact Kerb.decBy_fin (no:=Kerb.noTicket) (enc:=Xh) (rd:=fun b=>(Kerb.readTicket b,false)) _ false rfl (fun x e=>(Zd [Yz [Zh (x).little,Zy (x).client.name,Zy (x).client.inst,Zy (x).client.realm,Zz Yp (x).address,Zz IntKind.u64 (x).session,Zz Yp (x).life,Zz Yp (x).issued,Zy (x).service,Zy (x).inst],Zz Yp e],([]:Blocks)))
 ·cases h
theorem w116:Walked Tryz.prog G 116 10 sp116:=by
 refine ⟨Tryz.f116,Tryz.func116,by decide +kernel,rfl,fun xs bl r h=> ?_⟩
 unfold sp116 at h
 split at h
 ·rename_i li x y z ad k lf iss sv ins key
  obtain ⟨hpre,h2⟩:=chk_inv h;cases h2
  refine Eq.trans (b:=(Zv (chk (decide (Zx x≤9223372036854775807)&&decide (Zx y≤9223372036854775807)&&decide (Zx z≤9223372036854775807)&&decide (Zx sv≤9223372036854775807)&&decide (Zx ins≤9223372036854775807)&&decide (0≤k)&&decide (k<18446744073709551616)) (some (Zd [Zb (Wj (Xh (Xg li (Zw x y z) ad k lf iss sv ins))),Zz .i64 (Wk (Xh (Xg li (Zw x y z) ad k lf iss sv ins)))],[]))) fun (r:AV×Blocks)=>onNilB (Xk r) (AV.onTup (Xn r) fun vs=>onCons vs fun x r=>AV.onBs x fun b=>onCons r fun x r=>AV.onInt .i64 x fun n=>onNil r (sel (!n==0) (some (Zd [Zb [],Zz .i64 n],[])) (Zv (chk (decide (0≤key)&&decide (key<18446744073709551616)) (some (Zd [Zb (Wj (Kerb.makeBox 1 key b)),Zz .i64 (Wk (Kerb.makeBox 1 key b))],[]))) fun (r:AV×Blocks)=>onNilB (Xk r) (AV.onTup (Xn r) fun vs=>onCons vs fun x r=>AV.onBs x fun b=>onCons r fun x r=>AV.onInt .i64 x fun n=>onNil r (some (Zd [Zb b,Zz .i64 n],[])))))):Option (AV×Blocks))) (by kernel_rfl) ?_
  simp only [Yb,decide_eq_true_eq] at hpre
  obtain ⟨⟨⟨⟨⟨⟨⟨⟨h1,h2⟩,h3⟩,h4⟩,h5⟩,h6⟩,h7⟩,h8⟩,h9⟩:=hpre
  simp only [h1,h2,h3,h4,h5,h6,h7,h8,h9,decide_true,Xu,↓A0,A0]
  unfold Kerb.sealTicket
  generalize Xh _=E
  by_cases he:E.err=0
  ·rw [sel_neg (by simpa using he),if_neg (by simpa using he)]
  ·rw [sel_pos (by simpa using he),if_pos he]
 ·cases h
theorem w135:Walked Tryz.prog G 135 10 sp135:=by
 refine ⟨Tryz.f135,Tryz.func135,by decide +kernel,rfl,fun xs bl r h=> ?_⟩
 unfold sp135 at h
 split at h
 ·rename_i b li
  obtain ⟨hpre,h2⟩:=chk_inv h;cases h2
  refine Eq.trans (b:=(let t0:Option (AV×Blocks):=some (Zd [Yz [Zy [],Zy [],Zy [],Zz .i64 0,Zz .i64 0,Zz .i64 0],Zz .i64 100],[]);Zv (chk (decide (Zx b≤4611686018427387904)) (some (Zd [Yz [Zy (Zn (Wh (Xv b 1))),Zy (Zm (Wh (Xv b 1))),Zy (Zf (Wh (Xv b 1)))],Zz .i64 (Kerb.GotP.next (Xv b 1)),Zz .i64 (Kerb.GotP.err (Xv b 1))],[]))) (kT fun vs=>onCons vs fun x r=>Yn x fun cs=>cStr cs fun b_1 r_1=>cStr r_1 fun b_2 r_2=>cStr r_2 fun b_3 r_3=>onNil r_3 (cInt .i64 r fun n r=>cInt .i64 r fun n_1 r=>onNil r (Zv (chk (decide (Zx b≤4611686018427387904)) (some (Zd [Zz .i64 (Wu (Yh b n 4 li)),Zz .i64 (Ww (Yh b n 4 li)),Zz .i64 (Wq (Yh b n 4 li))],[]))) (kT fun vs=>cInt .i64 vs fun n r=>cInt .i64 r fun n_2 r=>cInt .i64 r fun n_3 r=>onNil r (Zv (chk (decide (Zx b≤4611686018427387904)) (some (Zd [Zz .i64 (Wu (Yh b n_2 1 false)),Zz .i64 (Ww (Yh b n_2 1 false)),Zz .i64 (Wq (Yh b n_2 1 false))],[]))) (kT fun vs=>cInt .i64 vs fun n_4 r=>cInt .i64 r fun n_5 r=>cInt .i64 r fun n_6 r=>onNil r (Zv (chk (decide (Zx b≤4611686018427387904)) (some (Zd [Zz .i64 (Wu (Yh b n_5 4 li)),Zz .i64 (Ww (Yh b n_5 4 li)),Zz .i64 (Wq (Yh b n_5 4 li))],[]))) (kT fun vs=>cInt .i64 vs fun n_7 r=>cInt .i64 r fun n_8 r=>cInt .i64 r fun n_9 r=>onNil r (Zv (chk (l63 b_1&&l63 b_2&&l63 b_3) (some (Zd [Zb (Wj (Kerb.encodeAuth (Uu (Zw b_1 b_2 b_3) n n_4 n_7) li)),Zz .i64 (Wk (Kerb.encodeAuth (Uu (Zw b_1 b_2 b_3) n n_4 n_7) li))],[]))) (kT fun vs=>cBs vs fun b_4 r=>cInt .i64 r fun n_10 r=>onNil r (sel (!n_10==0) t0 (sel (!b_4==b) t0 (some (Zd [Yz [Zy b_1,Zy b_2,Zy b_3,Zz .i64 n,Zz .i64 n_4,Zz .i64 n_7],Zz .i64 0],[])))))))))))))):Option (AV×Blocks))) (by kernel_rfl) ?_
  delta kT
  try dsimp only [cStr,cBs,cBool,cU8,cInt,cSl,l63]
  have hb:=of_decide_eq_true hpre
  have hpre2:decide (b.length≤4611686018427387904)=true:=by simp;omega
  obtain ⟨n1,n2,n3⟩:=Kerb.prin_len b 1
  have g1:(Xv b 1).val.name.length≤9223372036854775807:=by omega
  have g2:(Xv b 1).val.inst.length≤9223372036854775807:=by omega
  have g3:(Xv b 1).val.realm.length≤9223372036854775807:=by omega
  simp only [hpre2,g1,g2,g3,decide_true,Xu,↓A0,A0]
  exact Kerb.decBy_fin (no:=Kerb.noAuth) (enc:=fun a=>Kerb.encodeAuth a li) (rd:=fun b=>(Kerb.readAuth b li,false)) _ false rfl (fun x e=>(Zd [.agg [.str (x).client.name,.str (x).client.inst,.str (x).client.realm,.int .i64 (x).checksum,.int .i64 (x).tick,.int .i64 (x).time],Zz Yp e],([]:Blocks)))
 ·cases h
theorem w67:Walked Tryz.prog G 67 11 sp67:=by
 refine ⟨Tryz.f67,Tryz.func67,by decide +kernel,rfl,fun xs bl r h=> ?_⟩
 unfold sp67 at h
 split at h
 ·rename_i b k
  obtain ⟨hpre,h2⟩:=chk_inv h;cases h2
  refine Eq.trans (b:=(Zv (chk (decide (Zx b≤140737488355328)) (some (Zd [Zb (Xn (Wy b 1 k)),Zh (Xk (Wy b 1 k))],[]))) (kT fun vs=>cBs vs fun b r=>cBool r fun b_1 r=>onNil r (sel (!b_1) (some (Zd [Yz [Zh false,Zy [],Zy [],Zy [],Zz .i64 0,Zz .u64 0,Zz .i64 0,Zz .i64 0,Zy [],Zy []],Zz .i64 31],[])) (Zv (chk (decide (Zx b≤140737488355328)) (some (Zd [Yz [Zh (Vv (Zq (Yk b))),Zy (Zn (Yw (Zq (Yk b)))),Zy (Zm (Yw (Zq (Yk b)))),Zy (Zf (Yw (Zq (Yk b)))),Zz .i64 (Vx (Zq (Yk b))),Zz .u64 (Vz (Zq (Yk b))),Zz .i64 (Vm (Zq (Yk b))),Zz .i64 (Vu (Zq (Yk b))),Zy (Vy (Zq (Yk b))),Zy (Vh (Zq (Yk b)))],Zz .i64 (Wp (Yk b))],[]))) (kT fun vs=>onCons vs fun x r=>Yn x fun cs=>cBool cs fun b r_1=>cStr r_1 fun b_2 r_2=>cStr r_2 fun b_3 r_3=>cStr r_3 fun b_4 r_4=>cInt .i64 r_4 fun n r_5=>cInt .u64 r_5 fun n_1 r_6=>cInt .i64 r_6 fun n_2 r_7=>cInt .i64 r_7 fun n_3 r_8=>cStr r_8 fun b_5 r_9=>cStr r_9 fun b_6 r_10=>onNil r_10 (cInt .i64 r fun n_4 r=>onNil r (some (Zd [Yz [Zh b,Zy b_2,Zy b_3,Zy b_4,Zz .i64 n,Zz .u64 n_1,Zz .i64 n_2,Zz .i64 n_3,Zy b_5,Zy b_6],Zz .i64 n_4],[]))))))):Option (AV×Blocks))) (by kernel_rfl) ?_
  delta kT
  try dsimp only [cStr,cBs,cBool,cU8,cInt,cSl,l63]
  have hb:=of_decide_eq_true hpre
  have hl:=Kerb.openBox_len b 1 k
  simp only [hpre,↓A0,A0]
  unfold Zp
  cases h:(Wy b 1 k).2
  ·rfl
  ·rw [sel_neg (by simp),chk_of (by simp;omega)]
   rfl
 ·cases h
theorem w72:Walked Tryz.prog G 72 11 sp72:=by
 refine ⟨Tryz.f72,Tryz.func72,by decide +kernel,rfl,fun xs bl r h=> ?_⟩
 unfold sp72 at h
 split at h
 ·rename_i rl els x y z u v w ad li now lf se sl tg kv
  obtain ⟨hpre,h2⟩:=chk_inv h;cases h2
  refine Eq.trans (b:=(let t0:AV:=Yz [Zz .i64 0,Zy [],Zy [],Zy [],Zy [],Zy [],Zy [],Zy [],Zy [],Zy [],Zz .u64 0,Zz .u64 0,Zz .u64 0,Zb [],Zz .i64 0,Zz .i64 0];let t1:AV:=Yz [Zz .u64 0,Zy [],Zy [],Zy [],Zz .i64 0,Zz .i64 0,Zb [],Zz .i64 0];Zv (chk (l63 x&&l63 y&&l63 z&&l63 u&&l63 v&&decide (0≤se)&&decide (se<18446744073709551616)&&decide (0≤tg)&&decide (tg<18446744073709551616)) (some (Zd [Zb (Wj (Kerb.sealTicket (Xg li (Zw x y z) ad se lf now u v) tg)),Zz .i64 (Wk (Kerb.sealTicket (Xg li (Zw x y z) ad se lf now u v) tg))],[]))) (kT fun vs=>onCons vs fun x_1 r=>AV.onBs x_1 fun b=>onCons r fun x_2 r=>AV.onInt .i64 x_2 fun n=>onNil r (sel (!n==0) (some (Zd [t0,t1,Zz .i64 n],[])) (Zv (chk (l63 u&&l63 v&&l63 w&&decide (0≤se)&&decide (se<18446744073709551616)) (some (Zd [Zb (Wj (Kerb.encodePart (Wx se (Zw u v w) lf kv b now) li)),Zz .i64 (Wk (Kerb.encodePart (Wx se (Zw u v w) lf kv b now) li))],[]))) (kT fun vs=>onCons vs fun x_3 r=>AV.onBs x_3 fun b_1=>onCons r fun x_4 r=>AV.onInt .i64 x_4 fun n=>onNil r (sel (!n==0) (some (Zd [t0,t1,Zz .i64 n],[])) (Zv (chk (decide (Zx b≤140737488355328)) (some (Zb b,[]))) (kB fun b_2=>some (Zd [Yz [Zz .i64 0,Zy [(107:UInt8),(114:UInt8),(98:UInt8),(116:UInt8),(103:UInt8),(116:UInt8)],Zy rl,Zy rl,Zy x,Zy y,Zy z,Zy u,Zy v,Zy w,Zz .u64 se,Zz .u64 sl,Zz .u64 0,Zb b_2,Zz .i64 now,Zz .i64 (Kerb.tEnd now lf)],Yz [Zz .u64 se,Zy u,Zy v,Zy w,Zz .i64 lf,Zz .i64 kv,Zb b,Zz .i64 now],Zz .i64 0],[])))))))):Option (AV×Blocks))) (by kernel_rfl) ?_
  delta kT kB
  try dsimp only [cStr,cBs,cBool,cU8,cInt,cSl,l63]
  simp only [Yb,decide_eq_true_eq] at hpre
  simp only [Kerb.isU64_iff] at hpre
  obtain ⟨⟨⟨⟨⟨⟨⟨h1,h2⟩,h3⟩,h4⟩,h5⟩,h6⟩,h7,h8⟩,h9,h10⟩:=hpre
  simp only [h1,h2,h3,h4,h5,h6,h7,h8,h9,h10,decide_true,Xu,↓A0,A0]
  unfold Yx Kerb.grantTkt
  dsimp only
  have hsl:=Kerb.sealTicket_len ⟨li,⟨x,y,z⟩,ad,se,lf,now,u,v⟩ tg
  generalize Kerb.sealTicket ⟨li,⟨x,y,z⟩,ad,se,lf,now,u,v⟩ tg=E at hsl
  by_cases he:E.err=0
  case neg=>rw [sel_pos (by simpa using he),if_pos he];rfl
  rw [sel_neg (by simpa using he),if_neg (by simpa using he)]
  generalize Kerb.encodePart ⟨se,⟨u,v,w⟩,lf,kv,E.val,now⟩ li=F
  by_cases hf:F.err=0
  case neg=>rw [sel_pos (by simpa using hf),if_pos hf];rfl
  rw [sel_neg (by simpa using hf),if_neg (by simpa using hf)]
  rw [chk_of (by simp;omega)]
  rfl
 ·cases h
theorem w102:Walked Tryz.prog G 102 11 sp102:=by
 refine ⟨Tryz.f102,Tryz.func102,by decide +kernel,rfl,fun xs bl r h=> ?_⟩
 unfold sp102 at h
 split at h
 ·rename_i b li k
  obtain ⟨hpre,h2⟩:=chk_inv h;cases h2
  refine Eq.trans (b:=(let t0:Option (AV×Blocks):=some (Zd [Yz [Zy [],Zy [],Zy [],Zz .i64 0,Zz .i64 0,Zz .i64 0],Zz .i64 31],[]);Zv (chk (decide (Zx b≤140737488355328)) (some (Zd [Zb (Xn (Wy b 2 k)),Zh (Xk (Wy b 2 k))],[]))) (kT fun vs=>cBs vs fun b r=>cBool r fun b_1 r=>onNil r (sel (!b_1) t0 (Zv (chk (decide (Zx b≤140737488355328)) (some (Zd [Yz [Zy (Zn (Xz (Zq (Xq b li)))),Zy (Zm (Xz (Zq (Xq b li)))),Zy (Zf (Xz (Zq (Xq b li)))),Zz .i64 (Kerb.Auth.checksum (Zq (Xq b li))),Zz .i64 (Kerb.Auth.tick (Zq (Xq b li))),Zz .i64 (Kerb.Auth.time (Zq (Xq b li)))],Zz .i64 (Wp (Xq b li))],[]))) (kT fun vs=>onCons vs fun x r=>Yn x fun cs=>cStr cs fun b r_1=>cStr r_1 fun b_2 r_2=>cStr r_2 fun b_3 r_3=>cInt .i64 r_3 fun n r_4=>cInt .i64 r_4 fun n_1 r_5=>cInt .i64 r_5 fun n_2 r_6=>onNil r_6 (cInt .i64 r fun n_3 r=>onNil r (sel (!n_3==0) t0 (some (Zd [Yz [Zy b,Zy b_2,Zy b_3,Zz .i64 n,Zz .i64 n_1,Zz .i64 n_2],Zz .i64 0],[])))))))):Option (AV×Blocks))) (by kernel_rfl) ?_
  delta kT
  try dsimp only [cStr,cBs,cBool,cU8,cInt,cSl,l63]
  have hb:=of_decide_eq_true hpre
  have hpre2:decide (b.length≤4611686018427387904)=true:=by simp;omega
  have hl:=Kerb.openBox_len b 2 k
  have hl2:decide ((Wy b 2 k).1.length≤140737488355328)=true:=by simp;omega
  simp only [hpre,hl2,↓A0,A0]
  unfold Xp
  cases h1:(Wy b 2 k).2
  ·rfl
  rw [Uj,sel_false,if_neg (by simp)]
  by_cases h2:(Xq (Wy b 2 k).1 li).err=0
  case neg=>rw [sel_pos (by simpa using h2),if_pos h2];rfl
  rw [sel_neg (by simpa using h2),if_neg (by simpa using h2)]
 ·cases h
theorem w36:Walked Tryz.prog G 36 12 sp36:=by
 refine ⟨Tryz.f36,Tryz.func36,by decide +kernel,rfl,fun xs bl r h=> ?_⟩
 unfold sp36 at h
 split at h
 ·rename_i m1 m2 m3 kls sz fl mls sk rli rmu rkv rrl rtk rau
  obtain ⟨hpre,h2⟩:=chk_inv h;cases h2
  refine Eq.trans (b:=(Zv (loopM (fun (st:List AV)=>cStr st fun b r=>cStr r fun b_1 r=>cStr r fun b_2 r=>cSl 5 r fun b_3 r=>cInt .i64 r fun n r=>cInt .i64 r fun n_1 r=>cSl 5 r fun b_4 r=>cInt .i64 r fun n_2 r=>cBool r fun b_5 r=>cBool r fun b_6 r=>cInt .i64 r fun n_3 r=>cStr r fun b_7 r=>cBs r fun b_8 r=>cBs r fun b_9 r=>cStr r fun b_10 r=>cStr r fun b_11 r=>cStr r fun b_12 r=>cSl 5 r fun b_13 r=>cInt .i64 r fun n_4 r=>cInt .i64 r fun n_5 r=>let t0:Option (List AV ⊕ Ex×List AV):=some (Sum.inl [Zy b,Zy b_1,Zy b_2,Yg 5 b_3,Zz .i64 n,Zz .i64 n_1,Yg 5 b_4,Zz .i64 n_2,Zh b_5,Zh b_6,Zz .i64 n_3,Zy b_7,Zb b_8,Zb b_9,Zy b_10,Zy b_11,Zy b_12,Yg 5 b_13,Zz .i64 n_4,Zz .i64 (IntKind.wrap .i64 (n_5+1))]);onNil r (sel (decide (n_5<n_4)) (chk (decide (0≤n_5)&&decide (n_5<(↑(Zx b_13):Int))&&true) (Yn (List.getD b_13 (Int.toNat n_5) AV.undef) fun cs=>cStr cs fun b_14 r=>cStr r fun b_15 r=>cStr r fun b_16 r=>cInt .i64 r fun n_6 r=>cInt .u64 r fun n_7 r=>onNil r (sel (b_14==b&&(b_15==b_1&&b_16==b_2)) (sel (n_6==n_3) (Zv (chk (decide (Zx b_8≤140737488355328)) (some (Zd [Yz [Zh (Vv (Zq (Zp b_8 n_7))),Zy (Zn (Yw (Zq (Zp b_8 n_7)))),Zy (Zm (Yw (Zq (Zp b_8 n_7)))),Zy (Zf (Yw (Zq (Zp b_8 n_7)))),Zz .i64 (Vx (Zq (Zp b_8 n_7))),Zz .u64 (Vz (Zq (Zp b_8 n_7))),Zz .i64 (Vm (Zq (Zp b_8 n_7))),Zz .i64 (Vu (Zq (Zp b_8 n_7))),Zy (Vy (Zq (Zp b_8 n_7))),Zy (Vh (Zq (Zp b_8 n_7)))],Zz .i64 (Wp (Zp b_8 n_7))],[]))) (kT fun vs=>onCons vs fun x r=>Yn x fun cs=>cBool cs fun b_17 r_1=>cStr r_1 fun b_18 r_2=>cStr r_2 fun b_19 r_3=>cStr r_3 fun b_20 r_4=>cInt .i64 r_4 fun n_8 r_5=>cInt .u64 r_5 fun n_9 r_6=>cInt .i64 r_6 fun n_10 r_7=>cInt .i64 r_7 fun n_11 r_8=>cStr r_8 fun b_21 r_9=>cStr r_9 fun b_22 r_10=>onNil r_10 (cInt .i64 r fun n_12 r=>onNil r (some (Sum.inr (Ex.ret,[Zy b,Zy b_1,Zy b_2,Yg 5 b_3,Zz .i64 n,Zz .i64 n_1,Yg 5 b_4,Zz .i64 n_2,Zh b_5,Zh b_6,Zz .i64 n_3,Zy b_7,Zb b_8,Zb b_9,Zy b_18,Zy b_19,Zy b_20,Yg 5 b_13,Zz .i64 n_4,Zz .i64 n_5])))))) t0) t0))) (some (Sum.inr (Ex.exit 0,[Zy b,Zy b_1,Zy b_2,Yg 5 b_3,Zz .i64 n,Zz .i64 n_1,Yg 5 b_4,Zz .i64 n_2,Zh b_5,Zh b_6,Zz .i64 n_3,Zy b_7,Zb b_8,Zb b_9,Zy b_10,Zy b_11,Zy b_12,Yg 5 b_13,Zz .i64 n_4,Zz .i64 n_5]))))) [Zy m1,Zy m2,Zy m3,Yg 5 kls,Zz .i64 sz,Zz .i64 fl,Yg 5 mls,Zz .i64 sk,Zh rli,Zh rmu,Zz .i64 rkv,Zy rrl,Zb rtk,Zb rau,Zy [],Zy [],Zy [],Yg 5 kls,Zz .i64 (↑(Zx kls):Int),Zz .i64 0]) fun (r:Ex×List AV)=>cStr (Xk r) fun b r_1=>cStr r_1 fun b r_2=>cStr r_2 fun b r_3=>cSl 5 r_3 fun b r_4=>cInt .i64 r_4 fun n r_5=>cInt .i64 r_5 fun n r_6=>cSl 5 r_6 fun b r_7=>cInt .i64 r_7 fun n r_8=>cBool r_8 fun b r_9=>cBool r_9 fun b r_10=>cInt .i64 r_10 fun n r_11=>cStr r_11 fun b r_12=>cBs r_12 fun b r_13=>cBs r_13 fun b r_14=>cStr r_14 fun b r_15=>cStr r_15 fun b_1 r_16=>cStr r_16 fun b_2 r_17=>cSl 5 r_17 fun b_3 r_18=>cInt .i64 r_18 fun n r_19=>cInt .i64 r_19 fun n r_20=>onNil r_20 (exK r.1 (some (Yz [Zy b,Zy b_1,Zy b_2],[])) fun (j:Nat)=>sel (Nat.beq j 0) (some (Yz [Zy [],Zy [],Zy []],[])) none):Option (AV×Blocks))) (by kernel_rfl) ?_
  delta kT
  try dsimp only [cStr,cBs,cBool,cU8,cInt,cSl,l63]
  simp only [Yb,decide_eq_true_eq] at hpre
  obtain ⟨⟨⟨⟨⟨⟨⟨⟨l1,l2⟩,l3⟩,ka⟩,kl⟩,ma⟩,ml⟩,t1⟩,u1⟩:=hpre
  obtain ⟨ks,rfl,hks⟩:=Kerb.skeys_of ka
  obtain ⟨ms,rfl,hms⟩:=Kerb.marks_of ma
  have hkT:=Uz hks
  have hmT:=Kerb.marks_all hms
  simp only [Yf] at kl ml
  have t2:rtk.length≤140737488355328:=by omega
  rw [Vp,Kerb.map_toMark]
  simp only [Yf]
  refine loop_rounds (fun i:Nat=>[Zy m1,Zy m2,Zy m3,Yg 5 (ks.map Xd),Zz Yp sz,Zz Yp fl,Yg 5 (ms.map Kerb.Mark.av),Zz Yp sk,Zh rli,Zh rmu,Zz Yp rkv,Zy rrl,Zb rtk,Zb rau,Zy [],Zy [],Zy [],Yg 5 (ks.map Xd),Zz Yp (ks.length:Int),Zz Yp (i:Int)]) (fun i=>i≤ks.length∧Vw ks ⟨m1,m2,m3⟩ rkv=i+Vw (ks.drop i) ⟨m1,m2,m3⟩ rkv) (fun i=>ks.length-i)
   (fun r=>∃ (i:Nat) (p:Kerb.Prin),r.2=[Zy m1,Zy m2,Zy m3,Yg 5 (ks.map Xd),Zz Yp sz,Zz Yp fl,Yg 5 (ms.map Kerb.Mark.av),Zz Yp sk,Zh rli,Zh rmu,Zz Yp rkv,Zy rrl,Zb rtk,Zb rau,Zy p.name,Zy p.inst,Zy p.realm,Yg 5 (ks.map Xd),Zz Yp (ks.length:Int),Zz Yp (i:Int)]∧Wb ⟨⟨m1,m2,m3⟩,ks,⟨sz,fl,ms⟩,sk⟩ ⟨rli,rmu,rkv,rrl,rtk,rau⟩=p∧(r.1 = .ret∨(r.1 = .exit 0∧p=Kerb.noPrin))) 0 ⟨Nat.zero_le _,by simp⟩ rfl ?_ ?_
  ·rintro i ⟨hi,hp⟩
   simp only [↓A0,A0,Yf]
   by_cases hlt:i<ks.length
   ·have hk1:(decide ((0:Int)≤(i:Int))&&decide ((i:Int)<(ks.length:Int))&&true)=true:=by simp;omega
    have hd:=Kerb.drop_row (d:=Kerb.noSKey) hlt
    have hg:(ks.map Xd).getD i AV.undef=(ks.getD i Kerb.noSKey).av:=Kerb.getD_row hlt
    obtain ⟨c,hc⟩:∃ c,ks.getD i Kerb.noSKey=c:=⟨_,rfl⟩
    rw [hc] at hd hg
    rw [sel_pos (by simp;omega)]
    simp only [hk1,Int.toNat_natCast,hg,Xd,↓A0,A0]
    have he0:Kerb.SKey.is ⟨m1,m2,m3⟩ rkv c=((c.service.name==m1&&(c.service.inst==m2&&c.service.realm==m3))&&c.kvno==rkv):=rfl
    have keep:Kerb.SKey.is ⟨m1,m2,m3⟩ rkv c=false→Vw ks ⟨m1,m2,m3⟩ rkv=(i+1)+Vw (ks.drop (i+1)) ⟨m1,m2,m3⟩ rkv:=fun he=>by
     rw [hp,hd]
     simp only [Vw,List.findIdx_cons,he,cond_false]
     omega
    rw [wrap_i64 (by omega) (by omega)]
    cases h1:(c.service.name==m1&&(c.service.inst==m2&&c.service.realm==m3))
    ·rw [sel_false]
     exact ⟨_,rfl,i+1,rfl,⟨by omega,keep (by rw [he0,h1];rfl)⟩,by dsimp only;omega⟩
    rw [sel_true]
    cases h2:(c.kvno==rkv)
    ·rw [sel_false]
     exact ⟨_,rfl,i+1,rfl,⟨by omega,keep (by rw [he0,h1,h2];rfl)⟩,by dsimp only;omega⟩
    rw [sel_true]
    simp only [t2,decide_true,↓A0,A0]
    refine ⟨_,rfl,i,(Zp rtk c.key).val.client,rfl,?_,.inl rfl⟩
    have hq:Vw ks ⟨m1,m2,m3⟩ rkv=i:=by
     rw [hp,hd]
     simp only [Vw,List.findIdx_cons,show Kerb.SKey.is ⟨m1,m2,m3⟩ rkv c=true from by rw [he0,h1,h2];rfl,cond_true]
     omega
    have hf:Wg ks ⟨m1,m2,m3⟩ rkv=(c.key,true):=by
     unfold Wg
     rw [hq,if_pos hlt,hc]
    unfold Wb
    dsimp only
    rw [hf,if_pos rfl]
   ·rw [sel_neg (by simp;omega)]
    refine ⟨_,rfl,i,Kerb.noPrin,rfl,?_,.inr ⟨rfl,rfl⟩⟩
    have hq:Vw ks ⟨m1,m2,m3⟩ rkv=ks.length:=by
     rw [hp,List.drop_eq_nil_of_le (by omega)]
     simp [Vw];omega
    have hf:Wg ks ⟨m1,m2,m3⟩ rkv=(0,false):=by
     unfold Wg
     rw [hq,if_neg (by omega)]
    unfold Wb
    dsimp only
    rw [hf,if_neg (by simp)]
  ·rintro ⟨e,l⟩ ⟨i,p,rfl,h,rfl | ⟨rfl,rfl⟩⟩
   ·simp only [↓A0,A0,h]
   ·simp only [↓A0,A0,h]
    rw [sel_pos (Nat.beq_refl _)]
    rfl
 ·cases h
set_option maxHeartbeats 4000000 in
theorem w37:Walked Tryz.prog G 37 12 sp37:=by
 refine ⟨Tryz.f37,Tryz.func37,by decide +kernel,rfl,fun xs bl r h=> ?_⟩
 unfold sp37 at h
 split at h
 ·rename_i rl els xls now li se rli rmu rkv rrl rtk rau wtm wlf wsv win cx cy cz ck2 cad ccs ctm ctc cis clf ctk cau
  obtain ⟨hpre,h2⟩:=chk_inv h;cases h2
  refine Eq.trans (b:=(let t1:List AV:=[Yz [Zz .i64 (Uv Zg),Zy (Zn (Yq Zg)),Zy (Zm (Yq Zg)),Zy (Zf (Yq Zg)),Zy (Zn (Yj Zg)),Zy (Zm (Yj Zg)),Zy (Zf (Yj Zg)),Zy (Zn (Yv Zg)),Zy (Zm (Yv Zg)),Zy (Zf (Yv Zg)),Zz .u64 (Vj Zg),Zz .u64 (Vd Zg),Zz .u64 (Vk Zg),Zb (Ux Zg),Zz .i64 (Vf Zg),Zz .i64 (Uw Zg)],Zh false];let t2:Bool:=l63 cx&&l63 cy&&l63 cz;let t3:Option (AV×Blocks):=some (Zd [Zb [],Yz [Zz .i64 0,Zy [],Zy [],Zy [],Zy [],Zy [],Zy [],Zy [],Zy [],Zy [],Zz .u64 0,Zz .u64 0,Zz .u64 0,Zb [],Zz .i64 0,Zz .i64 0],Zh false],[]);let t4:Kerb.Svc:=Kerb.svc (Vg rl (Yu Kerb.toEntry els)) (Yu Kerb.toCross xls) wsv win now;let t0:Option (AV×Blocks):=Zv (chk (Xm els Kerb.isEntry&&decide (Zx els≤1000000)&&Xm xls Kerb.isCross&&decide (Zx xls≤1000000)&&l63 win) (some (Zd [Zz .u64 (Kerb.Svc.key t4),Zz .i64 (Kerb.Svc.kvno t4),Zz .i64 (Kerb.Svc.life t4),Zz .i64 (Kerb.Svc.expires t4),Zz .i64 (Kerb.Svc.err t4)],[]))) (kT fun vs=>cInt .u64 vs fun n r=>cInt .i64 r fun n_1 r=>cInt .i64 r fun n_2 r=>cInt .i64 r fun n_3 r=>cInt .i64 r fun n_4 r=>onNil r (sel (!n_4==0) (Zv (chk t2 (some (Zd (Zb (Vq (Zw cx cy cz) n_4 now li)::t1),[]))) (kT fun vs=>cBs vs fun b r=>onCons r fun x r=>Yn x fun cs=>cInt .i64 cs fun n r_1=>cStr r_1 fun b_1 r_2=>cStr r_2 fun b_2 r_3=>cStr r_3 fun b_3 r_4=>cStr r_4 fun b_4 r_5=>cStr r_5 fun b_5 r_6=>cStr r_6 fun b_6 r_7=>cStr r_7 fun b_7 r_8=>cStr r_8 fun b_8 r_9=>cStr r_9 fun b_9 r_10=>cInt .u64 r_10 fun n_5 r_11=>cInt .u64 r_11 fun n_6 r_12=>cInt .u64 r_12 fun n_7 r_13=>cBs r_13 fun b_10 r_14=>cInt .i64 r_14 fun n_8 r_15=>cInt .i64 r_15 fun n_9 r_16=>onNil r_16 (cBool r fun b_11 r=>onNil r (some (Zd [Zb b,Yz [Zz .i64 n,Zy b_1,Zy b_2,Zy b_3,Zy b_4,Zy b_5,Zy b_6,Zy b_7,Zy b_8,Zy b_9,Zz .u64 n_5,Zz .u64 n_6,Zz .u64 n_7,Zb b_10,Zz .i64 n_8,Zz .i64 n_9],Zh b_11],[]))))) (Zv (chk (Kerb.isI64 n_3) (some (Zd [Zz .i64 (Xn (Kerb.tgsLife now wlf n_2 n_3 cis clf)),Zh (Xk (Kerb.tgsLife now wlf n_2 n_3 cis clf))],[]))) (kT fun vs=>cInt .i64 vs fun n_5 r=>cBool r fun b r=>onNil r (sel (!b) (Zv (chk t2 (some (Zd (Zb (Vq (Zw cx cy cz) 3 now li)::t1),[]))) (kT fun vs=>cBs vs fun b r=>onCons r fun x r=>Yn x fun cs=>cInt .i64 cs fun n r_1=>cStr r_1 fun b_1 r_2=>cStr r_2 fun b_2 r_3=>cStr r_3 fun b_3 r_4=>cStr r_4 fun b_4 r_5=>cStr r_5 fun b_5 r_6=>cStr r_6 fun b_6 r_7=>cStr r_7 fun b_7 r_8=>cStr r_8 fun b_8 r_9=>cStr r_9 fun b_9 r_10=>cInt .u64 r_10 fun n_6 r_11=>cInt .u64 r_11 fun n_7 r_12=>cInt .u64 r_12 fun n_8 r_13=>cBs r_13 fun b_10 r_14=>cInt .i64 r_14 fun n_9 r_15=>cInt .i64 r_15 fun n_10 r_16=>onNil r_16 (cBool r fun b_11 r=>onNil r (some (Zd [Zb b,Yz [Zz .i64 n,Zy b_1,Zy b_2,Zy b_3,Zy b_4,Zy b_5,Zy b_6,Zy b_7,Zy b_8,Zy b_9,Zz .u64 n_6,Zz .u64 n_7,Zz .u64 n_8,Zb b_10,Zz .i64 n_9,Zz .i64 n_10],Zh b_11],[]))))) (Zv (chk (decide (0≤se)&&decide (se<18446744073709551616)) (some (Zz .i64 (Kerb.classOf se),[]))) (kI .i64 fun n_6=>sel (!n_6==2) (Zv (chk t2 (some (Zd (Zb (Vq (Zw cx cy cz) 10 now li)::t1),[]))) (kT fun vs=>cBs vs fun b r=>onCons r fun x r=>Yn x fun cs=>cInt .i64 cs fun n r_1=>cStr r_1 fun b_1 r_2=>cStr r_2 fun b_2 r_3=>cStr r_3 fun b_3 r_4=>cStr r_4 fun b_4 r_5=>cStr r_5 fun b_5 r_6=>cStr r_6 fun b_6 r_7=>cStr r_7 fun b_7 r_8=>cStr r_8 fun b_8 r_9=>cStr r_9 fun b_9 r_10=>cInt .u64 r_10 fun n_7 r_11=>cInt .u64 r_11 fun n_8 r_12=>cInt .u64 r_12 fun n_9 r_13=>cBs r_13 fun b_10 r_14=>cInt .i64 r_14 fun n_10 r_15=>cInt .i64 r_15 fun n_11 r_16=>onNil r_16 (cBool r fun b_11 r=>onNil r (some (Zd [Zb b,Yz [Zz .i64 n,Zy b_1,Zy b_2,Zy b_3,Zy b_4,Zy b_5,Zy b_6,Zy b_7,Zy b_8,Zy b_9,Zz .u64 n_7,Zz .u64 n_8,Zz .u64 n_9,Zb b_10,Zz .i64 n_10,Zz .i64 n_11],Zh b_11],[]))))) (Zv (chk (t2&&l63 wsv&&l63 win&&l63 rl&&Kerb.isU64 se&&Kerb.isU64 n) (some (Zd [Yz [Zz .i64 (Uv (Yy (Yx rl (Zw cx cy cz) (Zw wsv win rl) cad li now n_5 se ck2 n n_1))),Zy (Zn (Yq (Yy (Yx rl (Zw cx cy cz) (Zw wsv win rl) cad li now n_5 se ck2 n n_1)))),Zy (Zm (Yq (Yy (Yx rl (Zw cx cy cz) (Zw wsv win rl) cad li now n_5 se ck2 n n_1)))),Zy (Zf (Yq (Yy (Yx rl (Zw cx cy cz) (Zw wsv win rl) cad li now n_5 se ck2 n n_1)))),Zy (Zn (Yj (Yy (Yx rl (Zw cx cy cz) (Zw wsv win rl) cad li now n_5 se ck2 n n_1)))),Zy (Zm (Yj (Yy (Yx rl (Zw cx cy cz) (Zw wsv win rl) cad li now n_5 se ck2 n n_1)))),Zy (Zf (Yj (Yy (Yx rl (Zw cx cy cz) (Zw wsv win rl) cad li now n_5 se ck2 n n_1)))),Zy (Zn (Yv (Yy (Yx rl (Zw cx cy cz) (Zw wsv win rl) cad li now n_5 se ck2 n n_1)))),Zy (Zm (Yv (Yy (Yx rl (Zw cx cy cz) (Zw wsv win rl) cad li now n_5 se ck2 n n_1)))),Zy (Zf (Yv (Yy (Yx rl (Zw cx cy cz) (Zw wsv win rl) cad li now n_5 se ck2 n n_1)))),Zz .u64 (Vj (Yy (Yx rl (Zw cx cy cz) (Zw wsv win rl) cad li now n_5 se ck2 n n_1))),Zz .u64 (Vd (Yy (Yx rl (Zw cx cy cz) (Zw wsv win rl) cad li now n_5 se ck2 n n_1))),Zz .u64 (Vk (Yy (Yx rl (Zw cx cy cz) (Zw wsv win rl) cad li now n_5 se ck2 n n_1))),Zb (Ux (Yy (Yx rl (Zw cx cy cz) (Zw wsv win rl) cad li now n_5 se ck2 n n_1))),Zz .i64 (Vf (Yy (Yx rl (Zw cx cy cz) (Zw wsv win rl) cad li now n_5 se ck2 n n_1))),Zz .i64 (Uw (Yy (Yx rl (Zw cx cy cz) (Zw wsv win rl) cad li now n_5 se ck2 n n_1)))],Yz [Zz .u64 (Kerb.ReplyPart.session (Xy (Yx rl (Zw cx cy cz) (Zw wsv win rl) cad li now n_5 se ck2 n n_1))),Zy (Zn (Vb (Xy (Yx rl (Zw cx cy cz) (Zw wsv win rl) cad li now n_5 se ck2 n n_1)))),Zy (Zm (Vb (Xy (Yx rl (Zw cx cy cz) (Zw wsv win rl) cad li now n_5 se ck2 n n_1)))),Zy (Zf (Vb (Xy (Yx rl (Zw cx cy cz) (Zw wsv win rl) cad li now n_5 se ck2 n n_1)))),Zz .i64 (Kerb.ReplyPart.life (Xy (Yx rl (Zw cx cy cz) (Zw wsv win rl) cad li now n_5 se ck2 n n_1))),Zz .i64 (Kerb.ReplyPart.kvno (Xy (Yx rl (Zw cx cy cz) (Zw wsv win rl) cad li now n_5 se ck2 n n_1))),Zb (Kerb.ReplyPart.ticket (Xy (Yx rl (Zw cx cy cz) (Zw wsv win rl) cad li now n_5 se ck2 n n_1))),Zz .i64 (Kerb.ReplyPart.time (Xy (Yx rl (Zw cx cy cz) (Zw wsv win rl) cad li now n_5 se ck2 n n_1)))],Zz .i64 (Kerb.Granted.err (Yx rl (Zw cx cy cz) (Zw wsv win rl) cad li now n_5 se ck2 n n_1))],[]))) (kT fun vs=>onCons vs fun x r=>Yn x fun cs=>cInt .i64 cs fun n r_1=>cStr r_1 fun b r_2=>cStr r_2 fun b_1 r_3=>cStr r_3 fun b_2 r_4=>cStr r_4 fun b_3 r_5=>cStr r_5 fun b_4 r_6=>cStr r_6 fun b_5 r_7=>cStr r_7 fun b_6 r_8=>cStr r_8 fun b_7 r_9=>cStr r_9 fun b_8 r_10=>cInt .u64 r_10 fun n r_11=>cInt .u64 r_11 fun n_7 r_12=>cInt .u64 r_12 fun n_8 r_13=>cBs r_13 fun b_9 r_14=>cInt .i64 r_14 fun n_9 r_15=>cInt .i64 r_15 fun n_10 r_16=>onNil r_16 (onCons r fun x r=>Yn x fun cs=>cInt .u64 cs fun n_11 r_17=>cStr r_17 fun b_10 r_18=>cStr r_18 fun b_11 r_19=>cStr r_19 fun b_12 r_20=>cInt .i64 r_20 fun n_12 r_21=>cInt .i64 r_21 fun n_13 r_22=>cBs r_22 fun b_13 r_23=>cInt .i64 r_23 fun n_14 r_24=>onNil r_24 (cInt .i64 r fun n_15 r=>onNil r (sel (!n_15==0) t3 (Zv (chk (t2&&l63 b_10&&l63 b_11&&l63 b_12&&Kerb.isU64 n_11&&Kerb.isU64 ck2) (some (Zd [Zb (Wj (Kerb.sealReply (Kerb.KdcReply.mk li (Zw cx cy cz) wtm 0 0 []) (Wx n_11 (Zw b_10 b_11 b_12) n_12 n_13 b_13 n_14) ck2)),Zz .i64 (Wk (Kerb.sealReply (Kerb.KdcReply.mk li (Zw cx cy cz) wtm 0 0 []) (Wx n_11 (Zw b_10 b_11 b_12) n_12 n_13 b_13 n_14) ck2))],[]))) (kT fun vs=>cBs vs fun b_14 r=>cInt .i64 r fun n_16 r=>onNil r (sel (!n_16==0) t3 (some (Zd [Zb b_14,Yz [Zz .i64 2,Zy b,Zy b_1,Zy b_2,Zy b_3,Zy b_4,Zy b_5,Zy b_6,Zy b_7,Zy b_8,Zz .u64 n,Zz .u64 n_7,Zz .u64 ck2,Zb b_9,Zz .i64 n_9,Zz .i64 n_10],Zh true],[])))))))))))))))));sel (!cz==rrl) (Zv (chk t2 (some (Zd (Zb (Vq (Zw cx cy cz) 36 now li)::t1),[]))) (kT fun vs=>cBs vs fun b r=>onCons r fun x r=>Yn x fun cs=>cInt .i64 cs fun n r_1=>cStr r_1 fun b_1 r_2=>cStr r_2 fun b_2 r_3=>cStr r_3 fun b_3 r_4=>cStr r_4 fun b_4 r_5=>cStr r_5 fun b_5 r_6=>cStr r_6 fun b_6 r_7=>cStr r_7 fun b_7 r_8=>cStr r_8 fun b_8 r_9=>cStr r_9 fun b_9 r_10=>cInt .u64 r_10 fun n_1 r_11=>cInt .u64 r_11 fun n_2 r_12=>cInt .u64 r_12 fun n_3 r_13=>cBs r_13 fun b_10 r_14=>cInt .i64 r_14 fun n_4 r_15=>cInt .i64 r_15 fun n_5 r_16=>onNil r_16 (cBool r fun b_11 r=>onNil r (some (Zd [Zb b,Yz [Zz .i64 n,Zy b_1,Zy b_2,Zy b_3,Zy b_4,Zy b_5,Zy b_6,Zy b_7,Zy b_8,Zy b_9,Zz .u64 n_1,Zz .u64 n_2,Zz .u64 n_3,Zb b_10,Zz .i64 n_4,Zz .i64 n_5],Zh b_11],[]))))) (sel (wsv==Kerb.krbtgt) (sel (!cz==rl) (Zv (chk t2 (some (Zd (Zb (Vq (Zw cx cy cz) 8 now li)::t1),[]))) (kT fun vs=>cBs vs fun b r=>onCons r fun x r=>Yn x fun cs=>cInt .i64 cs fun n r_1=>cStr r_1 fun b_1 r_2=>cStr r_2 fun b_2 r_3=>cStr r_3 fun b_3 r_4=>cStr r_4 fun b_4 r_5=>cStr r_5 fun b_5 r_6=>cStr r_6 fun b_6 r_7=>cStr r_7 fun b_7 r_8=>cStr r_8 fun b_8 r_9=>cStr r_9 fun b_9 r_10=>cInt .u64 r_10 fun n_1 r_11=>cInt .u64 r_11 fun n_2 r_12=>cInt .u64 r_12 fun n_3 r_13=>cBs r_13 fun b_10 r_14=>cInt .i64 r_14 fun n_4 r_15=>cInt .i64 r_15 fun n_5 r_16=>onNil r_16 (cBool r fun b_11 r=>onNil r (some (Zd [Zb b,Yz [Zz .i64 n,Zy b_1,Zy b_2,Zy b_3,Zy b_4,Zy b_5,Zy b_6,Zy b_7,Zy b_8,Zy b_9,Zz .u64 n_1,Zz .u64 n_2,Zz .u64 n_3,Zb b_10,Zz .i64 n_4,Zz .i64 n_5],Zh b_11],[]))))) t0) t0):Option (AV×Blocks))) (by kernel_rfl) ?_
  delta kT kI
  try dsimp only [cStr,cBs,cBool,cU8,cInt,cSl,l63]
  simp only [Yb,decide_eq_true_eq] at hpre
  obtain ⟨⟨⟨⟨⟨⟨⟨⟨⟨⟨⟨ea,el⟩,xa⟩,xl⟩,lr⟩,n4⟩,n5⟩,a1⟩,a2⟩,a3⟩,hse⟩,hck⟩:=hpre
  have hse2:=Kerb.isU64_iff.1 hse
  have hck2:=Kerb.isU64_iff.1 hck
  obtain ⟨es,rfl,hok⟩:=Kerb.ents_of ea
  obtain ⟨cs,rfl,hcs⟩:=Kerb.cross_okof xa
  simp only [Yf] at el xl
  obtain ⟨D,hD⟩:∃ D,Vg rl es=D:=⟨_,rfl⟩
  have hDr:D.realm=rl:=by rw [← hD]
  have hDe:D.entries=es:=by rw [← hD]
  obtain ⟨v1,v2,v3,v4⟩:=Kerb.svc_okX (d:=D) (cs:=cs) (n:=wsv) (i:=win) (now:=now) (by rw [hDe];exact hok) hcs
  obtain ⟨V,hV⟩:∃ V,Kerb.svc D cs wsv win now=V:=⟨_,rfl⟩
  rw [hV] at v1 v2 v3 v4
  have gp:=fun lf:Int=>Kerb.grant_part (realm:=rl) (client:=⟨cx,cy,cz⟩) (service:=⟨wsv,win,rl⟩) (address:=cad) (little:=li) (now:=now) (life:=lf) (session:=se) (sealer:=ck2) (target:=V.key) (kvno:=V.kvno) n4 n5 lr hse
  have gp1:=fun lf=>(gp lf).1
  have gp2:=fun lf=>(gp lf).2.1
  have gp3:=fun lf=>(gp lf).2.2.1
  have gp4:=fun lf=>(gp lf).2.2.2
  have gPe:∀ p:Kerb.ReplyPart,Wx p.session ⟨p.service.name,p.service.inst,p.service.realm⟩ p.life p.kvno p.ticket p.time=p:=fun _=>rfl
  unfold Kerb.tgsServe Kerb.tgsGive
  dsimp only
  simp (config:={maxSteps:=10000000}) only [Kerb.map_toEntry,Kerb.map_toCross,Yf,hD,hV,hDr,ea,el,xa,xl,lr,n4,n5,a1,a2,a3,hse,hse2,hck,v1,v4,gp1,gp2,gp3,gp4,gPe,decide_true,Xu,Bool.true_and,Bool.and_true,↓sInt,↓sU8,↓sBool,↓sStr,↓sBs,↓sSl,↓sAgg,↓sTup,↓sCons,↓sNil,↓sNilB,↓sChk,↓sChkBind,↓sSome,↓sOwnL,↓sConsB,↓sOwnB]
  by_cases g1:cz=rrl
  case neg=>rw [sel_pos (by simpa using g1),if_pos g1]
  rw [sel_neg (by simpa using g1),if_neg (by simpa using g1)]
  have hs:∀ a b:Option (AV×Blocks),sel (wsv==Kerb.krbtgt) (sel (!cz==rl) a b) b=if wsv=Kerb.krbtgt∧cz≠rl then a else b:=by
   intro a b
   by_cases q1:wsv=Kerb.krbtgt
   ·rw [sel_pos (by simpa using q1)]
    by_cases q2:cz=rl
    ·rw [sel_neg (by simpa using q2),if_neg (fun h=>h.2 q2)]
    ·rw [sel_pos (by simpa using q2),if_pos ⟨q1,q2⟩]
   ·rw [sel_neg (by simpa using q1),if_neg (fun h=>q1 h.1)]
  rw [hs]
  by_cases g2:wsv=Kerb.krbtgt∧cz≠rl
  ·rw [if_pos g2,if_pos g2]
  rw [if_neg g2,if_neg g2]
  by_cases g3:V.err=0
  case neg=>rw [sel_pos (by simpa using g3),if_pos g3]
  rw [sel_neg (by simpa using g3),if_neg (by simpa using g3)]
  obtain ⟨L,hL⟩:∃ L,Kerb.tgsLife now wlf V.life V.expires cis clf=L:=⟨_,rfl⟩
  rw [hL]
  cases g5:L.2
  ·rfl
  rw [Uj,sel_false,if_neg (by simp)]
  by_cases g6:Kerb.classOf se=2
  case neg=>rw [sel_pos (by simpa using g6),if_pos g6]
  rw [sel_neg (by simpa using g6),if_neg (by simpa using g6)]
  obtain ⟨GG,hGG⟩:∃ GG,Yx rl ⟨cx,cy,cz⟩ ⟨wsv,win,rl⟩ cad li now L.1 se ck2 V.key V.kvno=GG:=⟨_,rfl⟩
  rw [hGG]
  by_cases g7:GG.err=0
  case neg=>rw [sel_pos (by simpa using g7),if_pos g7];rfl
  rw [sel_neg (by simpa using g7),if_neg (by simpa using g7)]
  by_cases g8:(Kerb.sealReply ⟨li,⟨cx,cy,cz⟩,wtm,0,0,[]⟩ GG.part ck2).err=0
  case neg=>rw [sel_pos (by simpa using g8),if_pos g8];rfl
  rw [sel_neg (by simpa using g8),if_neg (by simpa using g8)]
 ·cases h
theorem w62:Walked Tryz.prog G 62 12 sp62:=by
 refine ⟨Tryz.f62,Tryz.func62,by decide +kernel,rfl,fun xs bl r h=> ?_⟩
 unfold sp62 at h
 split at h
 ·rename_i m1 m2 m3 kls sz fl mls sk rli rmu rkv rrl rtk rau
  obtain ⟨hpre,h2⟩:=chk_inv h;cases h2
  refine Eq.trans (b:=(let t1:AV:=Yz [Zh false,Zy [],Zy [],Zy [],Zz .i64 0,Zz .u64 0,Zz .i64 0,Zz .i64 0,Zy [],Zy []];let t2:AV:=Yz [Zy [],Zy [],Zy [],Zz .i64 0,Zz .i64 0,Zz .i64 0];let t0:Option (AV×Blocks):=some (Zd [t1,t2,Zz .i64 35],[]);sel (!rrl==m3) t0 (Zv (chk (Xm kls Kerb.isSKey&&decide (Zx kls≤1000000)) (some (Zd [Zz .u64 (Xn (Wg (Yu Wf kls) (Zw m1 m2 m3) rkv)),Zh (Xk (Wg (Yu Wf kls) (Zw m1 m2 m3) rkv))],[]))) (kT fun vs=>cInt .u64 vs fun n r=>cBool r fun b r=>onNil r (sel (!b) t0 (Zv (chk (decide (Zx rtk≤140737488355328)) (some (Zd [Yz [Zh (Vv (Zq (Zp rtk n))),Zy (Zn (Yw (Zq (Zp rtk n)))),Zy (Zm (Yw (Zq (Zp rtk n)))),Zy (Zf (Yw (Zq (Zp rtk n)))),Zz .i64 (Vx (Zq (Zp rtk n))),Zz .u64 (Vz (Zq (Zp rtk n))),Zz .i64 (Vm (Zq (Zp rtk n))),Zz .i64 (Vu (Zq (Zp rtk n))),Zy (Vy (Zq (Zp rtk n))),Zy (Vh (Zq (Zp rtk n)))],Zz .i64 (Wp (Zp rtk n))],[]))) (kT fun vs=>onCons vs fun x r=>Yn x fun cs=>cBool cs fun b r_1=>cStr r_1 fun b_1 r_2=>cStr r_2 fun b_2 r_3=>cStr r_3 fun b_3 r_4=>cInt .i64 r_4 fun n r_5=>cInt .u64 r_5 fun n_1 r_6=>cInt .i64 r_6 fun n_2 r_7=>cInt .i64 r_7 fun n_3 r_8=>cStr r_8 fun b_4 r_9=>cStr r_9 fun b_5 r_10=>onNil r_10 (cInt .i64 r fun n_4 r=>onNil r (sel (n_4==7) (some (Zd [t1,t2,Zz .i64 7],[])) (sel (!n_4==0) (some (Zd [t1,t2,Zz .i64 31],[])) (sel (!(b_4==m1&&(b_5==m2&&m3==m3))) t0 (Zv (chk (decide (Zx rau≤140737488355328)) (some (Zd [Yz [Zy (Zn (Xz (Zq (Xp rau rli n_1)))),Zy (Zm (Xz (Zq (Xp rau rli n_1)))),Zy (Zf (Xz (Zq (Xp rau rli n_1)))),Zz .i64 (Kerb.Auth.checksum (Zq (Xp rau rli n_1))),Zz .i64 (Kerb.Auth.tick (Zq (Xp rau rli n_1))),Zz .i64 (Kerb.Auth.time (Zq (Xp rau rli n_1)))],Zz .i64 (Wp (Xp rau rli n_1))],[]))) (kT fun vs=>onCons vs fun x r=>Yn x fun cs=>cStr cs fun b_6 r_11=>cStr r_11 fun b_7 r_12=>cStr r_12 fun b_8 r_13=>cInt .i64 r_13 fun n_5 r_14=>cInt .i64 r_14 fun n_6 r_15=>cInt .i64 r_15 fun n_7 r_16=>onNil r_16 (cInt .i64 r fun n_8 r=>onNil r (sel (!n_8==0) (some (Zd [t1,t2,Zz .i64 31],[])) (some (Zd [Yz [Zh b,Zy b_1,Zy b_2,Zy b_3,Zz .i64 n,Zz .u64 n_1,Zz .i64 n_2,Zz .i64 n_3,Zy b_4,Zy b_5],Yz [Zy b_6,Zy b_7,Zy b_8,Zz .i64 n_5,Zz .i64 n_6,Zz .i64 n_7],Zz .i64 0],[]))))))))))))))):Option (AV×Blocks))) (by kernel_rfl) ?_
  delta kT
  try dsimp only [cStr,cBs,cBool,cU8,cInt,cSl,l63]
  simp only [Yb,decide_eq_true_eq] at hpre
  obtain ⟨⟨⟨⟨⟨⟨⟨⟨l1,l2⟩,l3⟩,ka⟩,kl⟩,ma⟩,ml⟩,t1⟩,u1⟩:=hpre
  obtain ⟨ks,rfl,hks⟩:=Kerb.skeys_of ka
  obtain ⟨ms,rfl,hms⟩:=Kerb.marks_of ma
  have hkT:=Uz hks
  have hmT:=Kerb.marks_all hms
  simp only [Yf] at kl ml
  have t2:rtk.length≤140737488355328:=by omega
  have u2:rau.length≤140737488355328:=by omega
  simp only [Vp,Kerb.map_toMark,Yf,hkT,kl,t2,u2,decide_true,Xu,↓A0,A0]
  unfold Xw
  by_cases g1:rrl=m3
  case neg=>rw [sel_pos (by simpa using g1),if_pos (by simpa using g1)];rfl
  rw [sel_neg (by simpa using g1),if_neg (by simpa using g1)]
  dsimp only
  cases g2:(Wg ks ⟨m1,m2,m3⟩ rkv).2
  ·rfl
  rw [Uj,sel_false,if_neg (by simp)]
  generalize (Wg ks ⟨m1,m2,m3⟩ rkv).1=K
  by_cases g3:(Zp rtk K).err=7
  ·rw [sel_pos (by simpa using g3),if_pos g3];rfl
  rw [sel_neg (by simpa using g3),if_neg g3]
  by_cases g4:(Zp rtk K).err=0
  case neg=>rw [sel_pos (by simpa using g4),if_pos g4];rfl
  rw [sel_neg (by simpa using g4),if_neg (by simpa using g4)]
  have g5:((Zp rtk K).val.service==m1&&((Zp rtk K).val.inst==m2&&m3==m3))=(Kerb.ticketFor (Zp rtk K).val m3).eqb ⟨m1,m2,m3⟩:=rfl
  rw [g5]
  cases g6:(Kerb.ticketFor (Zp rtk K).val m3).eqb ⟨m1,m2,m3⟩
  ·rfl
  rw [Uj,sel_false,if_neg (by simp)]
  by_cases g7:(Xp rau rli (Zp rtk K).val.session).err=0
  case neg=>rw [sel_pos (by simpa using g7),if_pos g7];rfl
  rw [sel_neg (by simpa using g7),if_neg (by simpa using g7)]
 ·cases h
theorem w34:Walked Tryz.prog G 34 13 sp34:=by
 refine ⟨Tryz.f34,Tryz.func34,by decide +kernel,rfl,fun xs bl r h=> ?_⟩
 unfold sp34 at h
 split at h
 ·rename_i m1 m2 m3 kls sz fl mls sk rli rmu rkv rrl rtk rau src now
  obtain ⟨hpre,h2⟩:=chk_inv h;cases h2
  refine Eq.trans (b:=(let t0:AV:=Yz [Zy [],Zy [],Zy [],Zz .u64 0,Zz .i64 0,Zz .i64 0,Zz .i64 0,Zz .i64 0,Zz .i64 0,Zz .i64 0,Zb [],Zb []];Zv (chk (decide (Zx kls≤1000000)&&decide (Zx mls≤1000000)) (some (Yz [Zy m1,Zy m2,Zy m3,Yg 5 kls,Zz .i64 sz,Zz .i64 fl,Yg 5 mls,Zz .i64 sk],[]))) (kA fun cs=>cStr cs fun b r=>cStr r fun b_1 r=>cStr r fun b_2 r=>let t1:Bool:=l63 b&&l63 b_1&&l63 b_2;cSl 5 r fun b_3 r=>cInt .i64 r fun n r=>cInt .i64 r fun n_1 r=>cSl 5 r fun b_4 r=>let t2:Bool:=t1&&Xm b_3 Kerb.isSKey&&decide (Zx b_3≤1000000)&&Xm b_4 Kerb.isMark&&decide (Zx b_4≤1000000);cInt .i64 r fun n_2 r=>let t4:AV:=Yz [Zy b,Zy b_1,Zy b_2,Yg 5 b_3,Zz .i64 n,Zz .i64 n_1,Yg 5 b_4,Zz .i64 n_2];let t6:Kerb.Opened:=Xw (Xb (Zw b b_1 b_2) (Yu Wf b_3) (Wv n n_1 (Yu Kerb.toMark b_4)) n_2) (Xf rli rmu rkv rrl rtk rau);let t3:Kerb.Ticket:=Kerb.Opened.ticket t6;let t5:Kerb.Auth:=Kerb.Opened.auth t6;onNil r (Zv (chk t2 (some (Zz .i64 (Kerb.Server.err (Xb (Zw b b_1 b_2) (Yu Wf b_3) (Wv n n_1 (Yu Kerb.toMark b_4)) n_2)),[]))) (kI .i64 fun n_3=>sel (!n_3==0) (some (Zd [t4,t0,Zz .i64 108],[])) (Zv (chk (t2&&decide (Zx rtk≤1000000)&&decide (Zx rau≤1000000)) (some (Zd [Yz [Zh (Vv t3),Zy (Zn (Yw t3)),Zy (Zm (Yw t3)),Zy (Zf (Yw t3)),Zz .i64 (Vx t3),Zz .u64 (Vz t3),Zz .i64 (Vm t3),Zz .i64 (Vu t3),Zy (Vy t3),Zy (Vh t3)],Yz [Zy (Zn (Xz t5)),Zy (Zm (Xz t5)),Zy (Zf (Xz t5)),Zz .i64 (Kerb.Auth.checksum t5),Zz .i64 (Kerb.Auth.tick t5),Zz .i64 (Kerb.Auth.time t5)],Zz .i64 (Kerb.Opened.err t6)],[]))) (kT fun vs=>onCons vs fun x r=>Yn x fun cs=>cBool cs fun b_5 r_1=>cStr r_1 fun b_6 r_2=>cStr r_2 fun b_7 r_3=>cStr r_3 fun b_8 r_4=>cInt .i64 r_4 fun n_4 r_5=>cInt .u64 r_5 fun n_5 r_6=>cInt .i64 r_6 fun n_6 r_7=>cInt .i64 r_7 fun n_7 r_8=>cStr r_8 fun b_9 r_9=>cStr r_9 fun b_10 r_10=>onNil r_10 (onCons r fun x r=>Yn x fun cs=>cStr cs fun b_11 r_11=>cStr r_11 fun b_12 r_12=>cStr r_12 fun b_13 r_13=>cInt .i64 r_13 fun n_8 r_14=>cInt .i64 r_14 fun n_9 r_15=>cInt .i64 r_15 fun n_10 r_16=>let t8:Int:=Kerb.judge (Xg b_5 (Zw b_6 b_7 b_8) n_4 n_5 n_6 n_7 b_9 b_10) (Uu (Zw b_11 b_12 b_13) n_8 n_9 n_10) src now n_2;let t9:Kerb.Dec Kerb.RCache:=Kerb.addMark (Wv n n_1 (Yu Kerb.toMark b_4)) (Kerb.Mark.mk (Zw b_11 b_12 b_13) n_10 n_9) now n_2;let t7:Kerb.RCache:=Zq t9;onNil r_16 (cInt .i64 r fun n r=>onNil r (sel (!n==0) (some (Zd [t4,t0,Zz .i64 n],[])) (sel (!t8==0) (some (Zd [t4,t0,Zz .i64 t8],[])) (Zv (chk (Xm b_4 Kerb.isMark&&decide (Zx b_4≤1000000)&&l63 b_11&&l63 b_12&&l63 b_13) (some (Zd [Yz [Zz .i64 (Kerb.RCache.size t7),Zz .i64 (Kerb.RCache.floor t7),Yg 5 (Yu Kerb.Mark.av (Kerb.RCache.marks t7))],Zz .i64 (Wp t9)],[]))) (kT fun vs=>onCons vs fun x r=>Yn x fun cs=>cInt .i64 cs fun n r_17=>cInt .i64 r_17 fun n_11 r_18=>cSl 5 r_18 fun b_14 r_19=>onNil r_19 (cInt .i64 r fun n_12 r=>onNil r (sel (!n_12==0) (some (Zd [t4,t0,Zz .i64 n_12],[])) (Zv (chk (decide (Zx rtk≤140737488355328)) (some (Zb rtk,[]))) (kB fun b_15=>Zv (chk (decide (Zx rau≤140737488355328)) (some (Zb rau,[]))) (kB fun b_16=>some (Zd [Yz [Zy b,Zy b_1,Zy b_2,Yg 5 b_3,Zz .i64 n,Zz .i64 n_11,Yg 5 b_14,Zz .i64 n_2],Yz [Zy b_6,Zy b_7,Zy b_8,Zz .u64 n_5,Zz .i64 n_4,Zz .i64 n_8,Zz .i64 n_10,Zz .i64 n_9,Zz .i64 n_7,Zz .i64 n_6,Zb b_15,Zb b_16],Zz .i64 0],[]))))))))))))))))):Option (AV×Blocks))) (by kernel_rfl) ?_
  delta kT kA kB kI
  try dsimp only [cStr,cBs,cBool,cU8,cInt,cSl,l63]
  simp only [Yb,decide_eq_true_eq] at hpre
  obtain ⟨⟨⟨⟨⟨⟨⟨⟨l1,l2⟩,l3⟩,ka⟩,kl⟩,ma⟩,ml⟩,t1⟩,u1⟩:=hpre
  obtain ⟨ks,rfl,hks⟩:=Kerb.skeys_of ka
  obtain ⟨ms,rfl,hms⟩:=Kerb.marks_of ma
  have hkT:=Uz hks
  have hmT:=Kerb.marks_all hms
  simp only [Yf] at kl ml
  have t2:rtk.length≤140737488355328:=by omega
  have u2:rau.length≤140737488355328:=by omega
  obtain ⟨S,hS⟩:∃ S,Xb ⟨m1,m2,m3⟩ ks ⟨sz,fl,ms⟩ sk=S:=⟨_,rfl⟩
  obtain ⟨R,hR⟩:∃ R,Xf rli rmu rkv rrl rtk rau=R:=⟨_,rfl⟩
  have hb:=(Kerb.openReq_bd S R).1
  have e1:=hb.1
  have e2:=hb.2.1
  have e3:=hb.2.2
  simp only [Vp,Kerb.map_toMark,Yf,hkT,hmT,kl,ml,l1,l2,l3,t1,u1,t2,u2,decide_true,Xu,hS,hR,e1,e2,e3,↓sInt,↓sU8,↓sBool,↓sStr,↓sBs,↓sSl,↓sAgg,↓sTup,↓sCons,↓sNil,↓sNilB,↓sChk,↓sChkBind,↓sSome]
  unfold Kerb.verify
  by_cases g1:S.err=0
  case neg=>rw [sel_pos (by simpa using g1),if_pos g1,← hS];rfl
  rw [sel_neg (by simpa using g1),if_neg (by simpa using g1)]
  by_cases g2:(Xw S R).err=0
  case neg=>rw [sel_pos (by simpa using g2),if_pos g2,← hS];rfl
  rw [sel_neg (by simpa using g2),if_neg (by simpa using g2)]
  have h0:sk=S.skew:=by rw [← hS]
  have h1:Wv sz fl ms=S.replay:=by rw [← hS]
  rw [h0,h1]
  by_cases g3:Kerb.judge (Xw S R).ticket (Xw S R).auth src now S.skew=0
  case neg=>rw [sel_pos (by simpa using g3),if_pos g3,← hS];rfl
  rw [sel_neg (by simpa using g3),if_neg (by simpa using g3)]
  rw [show Kerb.Mark.mk ⟨(Xw S R).auth.client.name,(Xw S R).auth.client.inst,(Xw S R).auth.client.realm⟩ (Xw S R).auth.time (Xw S R).auth.tick=Kerb.markOf (Xw S R).auth from rfl]
  by_cases g4:(Kerb.addMark S.replay (Kerb.markOf (Xw S R).auth) now S.skew).err=0
  case neg=>rw [sel_pos (by simpa using g4),if_pos g4,← hS];rfl
  rw [sel_neg (by simpa using g4),if_neg (by simpa using g4),← hS,← hR]
 ·cases h
set_option maxHeartbeats 4000000 in
theorem w15:Walked Tryz.prog G 15 14 sp15:=by
 refine ⟨Tryz.f15,Tryz.func15,by decide +kernel,rfl,fun xs bl r h=> ?_⟩
 unfold sp15 at h
 split at h
 ·rename_i rl els xls m1 m2 m3 kls sz fl mls sk now ad li se msg
  obtain ⟨hpre,h2⟩:=chk_inv h;cases h2
  refine Eq.trans (b:=(let t1:List UInt8:=[(107:UInt8),(114:UInt8),(98:UInt8),(116:UInt8),(103:UInt8),(116:UInt8)];let t2:List AV:=[Yz [Zz .i64 (Uv Zg),Zy (Zn (Yq Zg)),Zy (Zm (Yq Zg)),Zy (Zf (Yq Zg)),Zy (Zn (Yj Zg)),Zy (Zm (Yj Zg)),Zy (Zf (Yj Zg)),Zy (Zn (Yv Zg)),Zy (Zm (Yv Zg)),Zy (Zf (Yv Zg)),Zz .u64 (Vj Zg),Zz .u64 (Vd Zg),Zz .u64 (Vk Zg),Zb (Ux Zg),Zz .i64 (Vf Zg),Zz .i64 (Uw Zg)],Zh false];let t3:List AV:=[Yz [Zz .i64 0,Zy [],Zy [],Zy [],Zy [],Zy [],Zy [],Zy [],Zy [],Zy [],Zz .u64 0,Zz .u64 0,Zz .u64 0,Zb [],Zz .i64 0,Zz .i64 0],Zh false];let t4:Bool:=Xm els Kerb.isEntry&&decide (Zx els≤1000000)&&Xm xls Kerb.isCross&&decide (Zx xls≤1000000)&&l63 rl;let t0:List AV:=Zb []::t3;Zv (chk (decide (Zx kls≤1000000)) (some (AV.ownL kls,[]))) fun (r:AV×Blocks)=>onNilB (Xk r) (AV.onOwnL (Xn r) fun l=>Zv (chk (decide (Zx mls≤1000000)) (some (AV.ownL mls,[]))) fun (r:AV×Blocks)=>onNilB (Xk r) (AV.onOwnL (Xn r) fun l_1=>let t6:AV:=Yz [Zy m1,Zy m2,Zy m3,Yg 5 l,Zz .i64 sz,Zz .i64 fl,Yg 5 l_1,Zz .i64 sk];let t5:Option (AV×Blocks):=some (Zd (t6::t0),[]);sel (decide (now<0)) t5 (sel (decide (now>4294967295)) t5 (sel (decide (ad<0)) t5 (sel (decide (ad>4294967295)) t5 (Zv (chk (decide (Zx msg≤140737488355328)) (some (Zd [Yz [Zh (Kerb.ApRequest.little (Xj (Zq (Yd msg)))),Zh (Kerb.ApRequest.mutual_ (Xj (Zq (Yd msg)))),Zz .i64 (Kerb.ApRequest.kvno (Xj (Zq (Yd msg)))),Zy (Kerb.ApRequest.realm (Xj (Zq (Yd msg)))),Zb (Kerb.ApRequest.ticket (Xj (Zq (Yd msg)))),Zb (Kerb.ApRequest.auth (Xj (Zq (Yd msg)))),Zz .i64 (Kerb.TgsRequest.time (Zq (Yd msg))),Zz .i64 (Kerb.TgsRequest.life (Zq (Yd msg))),Zy (Kerb.TgsRequest.service (Zq (Yd msg))),Zy (Kerb.TgsRequest.inst (Zq (Yd msg)))],Zz .i64 (Wp (Yd msg))],[]))) (kT fun vs=>onCons vs fun x r=>Yn x fun cs=>cBool cs fun b r_1=>cBool r_1 fun b_1 r_2=>cInt .i64 r_2 fun n r_3=>cStr r_3 fun b_2 r_4=>let t7:Bool:=l63 rl&&l63 b_2;cBs r_4 fun b_3 r_5=>cBs r_5 fun b_4 r_6=>cInt .i64 r_6 fun n_1 r_7=>cInt .i64 r_7 fun n_2 r_8=>cStr r_8 fun b_5 r_9=>cStr r_9 fun b_6 r_10=>let t8:Kerb.TgsRequest:=Kerb.TgsRequest.mk (Xf b b_1 n b_2 b_3 b_4) n_1 n_2 b_5 b_6;onNil r_10 (cInt .i64 r fun n_3 r=>onNil r (sel (!n_3==0) t5 (Zv (chk t4 (some (Yg 5 (Yu Xd (Uy (Vg rl (Yu Kerb.toEntry els)) (Yu Kerb.toCross xls))),[]))) fun (r:AV×Blocks)=>onNilB (Xk r) (AV.onSl 5 (Xn r) fun b_7=>let t12:Kerb.Verified:=Kerb.verify (Xb (Zw t1 rl b_2) (Yu Wf b_7) (Wv sz fl (Yu Kerb.toMark l_1)) sk) (Xf b b_1 n b_2 b_3 b_4) ad now;let t13:Kerb.Prin:=Wb (Xb (Zw t1 rl b_2) (Yu Wf b_7) (Wv sz fl (Yu Kerb.toMark l_1)) sk) (Xf b b_1 n b_2 b_3 b_4);let t14:Bool:=t7&&Xm b_7 Kerb.isSKey&&decide (Zx b_7≤1000000)&&Xm l_1 Kerb.isMark&&decide (Zx l_1≤1000000)&&decide (Zx b_3≤1000000)&&decide (Zx b_4≤1000000);let t9:Option (AV×Blocks):=chk t14 (some (Yz [Zy (Zn t13),Zy (Zm t13),Zy (Zf t13)],[]));let t10:Kerb.Accepted:=Kerb.Verified.a t12;let t11:Kerb.Server:=Kerb.Verified.s t12;Zv (chk t14 (some (Zd [Yz [Zy (Zn (Kerb.Server.me t11)),Zy (Zm (Kerb.Server.me t11)),Zy (Zf (Kerb.Server.me t11)),Yg 5 (Yu Xd (Kerb.Server.keys t11)),Zz .i64 (Kerb.RCache.size (Kerb.Server.replay t11)),Zz .i64 (Kerb.RCache.floor (Kerb.Server.replay t11)),Yg 5 (Yu Kerb.Mark.av (Kerb.RCache.marks (Kerb.Server.replay t11))),Zz .i64 (Kerb.Server.skew t11)],Yz [Zy (Zn (Uq t10)),Zy (Zm (Uq t10)),Zy (Zf (Uq t10)),Zz .u64 (Kerb.Accepted.session t10),Zz .i64 (Kerb.Accepted.address t10),Zz .i64 (Kerb.Accepted.checksum t10),Zz .i64 (Kerb.Accepted.time t10),Zz .i64 (Kerb.Accepted.tick t10),Zz .i64 (Kerb.Accepted.issued t10),Zz .i64 (Kerb.Accepted.life t10),Zb (Kerb.Accepted.ticket t10),Zb (Kerb.Accepted.auth t10)],Zz .i64 (Kerb.Verified.err t12)],[]))) (kT fun vs=>onCons vs fun x r=>Yn x fun cs=>cStr cs fun b r_11=>cStr r_11 fun b r_12=>cStr r_12 fun b r_13=>cSl 5 r_13 fun b r_14=>cInt .i64 r_14 fun n r_15=>cInt .i64 r_15 fun n_4 r_16=>cSl 5 r_16 fun b r_17=>cInt .i64 r_17 fun n_5 r_18=>onNil r_18 (onCons r fun x r=>Yn x fun cs=>cStr cs fun b_8 r_19=>cStr r_19 fun b_9 r_20=>cStr r_20 fun b_10 r_21=>cInt .u64 r_21 fun n_6 r_22=>cInt .i64 r_22 fun n_7 r_23=>cInt .i64 r_23 fun n_8 r_24=>cInt .i64 r_24 fun n_9 r_25=>cInt .i64 r_25 fun n_10 r_26=>cInt .i64 r_26 fun n_11 r_27=>cInt .i64 r_27 fun n_12 r_28=>cBs r_28 fun b_11 r_29=>cBs r_29 fun b_12 r_30=>let t16:Kerb.AuthOut:=Kerb.tgsServe (Vg rl (Yu Kerb.toEntry els)) (Yu Kerb.toCross xls) now li se t8 (Kerb.Accepted.mk (Zw b_8 b_9 b_10) n_6 n_7 n_8 n_9 n_10 n_11 n_12 b_11 b_12);let t15:Kerb.Issue:=Kerb.AuthOut.issue t16;onNil r_30 (cInt .i64 r fun n_13 r=>let t17:Option (AV×Blocks):=Zv t9 (kA fun cs=>cStr cs fun b r=>cStr r fun b_13 r=>cStr r fun b_14 r=>onNil r (Zv (chk (l63 b&&l63 b_13&&l63 b_14) (some (Zd (Zb (Vq (Zw b b_13 b_14) n_13 now li)::t2),[]))) (kT fun vs=>cBs vs fun b r=>onCons r fun x r=>Yn x fun cs=>cInt .i64 cs fun n r_31=>cStr r_31 fun b_15 r_32=>cStr r_32 fun b_16 r_33=>cStr r_33 fun b_17 r_34=>cStr r_34 fun b_18 r_35=>cStr r_35 fun b_19 r_36=>cStr r_36 fun b_20 r_37=>cStr r_37 fun b_21 r_38=>cStr r_38 fun b_22 r_39=>cStr r_39 fun b_23 r_40=>cInt .u64 r_40 fun n r_41=>cInt .u64 r_41 fun n r_42=>cInt .u64 r_42 fun n r_43=>cBs r_43 fun b_24 r_44=>cInt .i64 r_44 fun n r_45=>cInt .i64 r_45 fun n r_46=>onNil r_46 (cBool r fun b_25 r=>onNil r (some (Zd (t6::Zb b::t3),[]))))));onNil r (sel (n_13==0) (Zv (chk (t4&&l63 b_5&&l63 b_6&&l63 b_8&&l63 b_9&&l63 b_10&&Kerb.isU64 se&&Kerb.isU64 n_6) (some (Zd [Zb (Kerb.AuthOut.answer t16),Yz [Zz .i64 (Uv t15),Zy (Zn (Yq t15)),Zy (Zm (Yq t15)),Zy (Zf (Yq t15)),Zy (Zn (Yj t15)),Zy (Zm (Yj t15)),Zy (Zf (Yj t15)),Zy (Zn (Yv t15)),Zy (Zm (Yv t15)),Zy (Zf (Yv t15)),Zz .u64 (Vj t15),Zz .u64 (Vd t15),Zz .u64 (Vk t15),Zb (Ux t15),Zz .i64 (Vf t15),Zz .i64 (Uw t15)],Zh (Kerb.AuthOut.ok t16)],[]))) (kT fun vs=>cBs vs fun b_13 r=>onCons r fun x r=>Yn x fun cs=>cInt .i64 cs fun n_14 r_31=>cStr r_31 fun b_14 r_32=>cStr r_32 fun b_15 r_33=>cStr r_33 fun b_16 r_34=>cStr r_34 fun b_17 r_35=>cStr r_35 fun b_18 r_36=>cStr r_36 fun b_19 r_37=>cStr r_37 fun b_20 r_38=>cStr r_38 fun b_21 r_39=>cStr r_39 fun b_22 r_40=>cInt .u64 r_40 fun n_15 r_41=>cInt .u64 r_41 fun n_16 r_42=>cInt .u64 r_42 fun n_17 r_43=>cBs r_43 fun b_23 r_44=>cInt .i64 r_44 fun n_18 r_45=>cInt .i64 r_45 fun n_19 r_46=>onNil r_46 (cBool r fun b_24 r=>onNil r (some (Zd [Yz [Zy m1,Zy m2,Zy m3,Yg 5 l,Zz .i64 n,Zz .i64 n_4,Yg 5 b,Zz .i64 sk],Zb b_13,Yz [Zz .i64 n_14,Zy b_14,Zy b_15,Zy b_16,Zy b_17,Zy b_18,Zy b_19,Zy b_20,Zy b_21,Zy b_22,Zz .u64 n_15,Zz .u64 n_16,Zz .u64 n_17,Zb b_23,Zz .i64 n_18,Zz .i64 n_19],Zh b_24],[]))))) (sel (n_13==108) (sel (n_13==108) t5 t17) (sel (n_13==35) (sel (n_13==35) t5 t17) (sel (n_13==7) (sel (n_13==7) t5 t17) (sel (n_13==31) t5 t17))))))))))))))))))):Option (AV×Blocks))) (by kernel_rfl) ?_
  delta kT kA
  try dsimp only [cStr,cBs,cBool,cU8,cInt,cSl,l63]
  simp only [Yb,decide_eq_true_eq] at hpre
  obtain ⟨⟨⟨⟨⟨⟨⟨⟨⟨⟨⟨⟨⟨⟨ea,el⟩,xa⟩,xl⟩,lr⟩,l1⟩,l2⟩,l3⟩,ka⟩,kl⟩,ma⟩,ml⟩,hse⟩,lm⟩,xl9⟩:=hpre
  have hse2:=Kerb.isU64_iff.1 hse
  obtain ⟨es,rfl,hok⟩:=Kerb.ents_of ea
  obtain ⟨cs,rfl,hcs⟩:=Kerb.cross_okof xa
  obtain ⟨ks,rfl,hks⟩:=Kerb.skeys_of ka
  obtain ⟨ms,rfl,hms⟩:=Kerb.marks_of ma
  simp only [Yf] at el xl kl ml xl9
  have lm2:msg.length≤140737488355328:=by omega
  obtain ⟨D,hD⟩:∃ D,Vg rl es=D:=⟨_,rfl⟩
  have hDr:D.realm=rl:=by rw [← hD]
  have hDe:D.entries=es:=by rw [← hD]
  obtain ⟨S,hS⟩:∃ S,Xb ⟨m1,m2,m3⟩ ks ⟨sz,fl,ms⟩ sk=S:=⟨_,rfl⟩
  obtain ⟨⟨r1,r2,r3⟩,r4,r5⟩:=Kerb.decodeTgs_bd msg
  obtain ⟨R,hR⟩:∃ R,(Yd msg).val=R:=⟨_,rfl⟩
  rw [hR] at r1 r2 r3 r4 r5
  have r4b:R.ap.ticket.length≤1000000:=by omega
  have r5b:R.ap.auth.length≤1000000:=by omega
  have gk:=Uz (Kerb.grantKeys_ok (d:=D) (cs:=cs) (by rw [Kerb.Db.ok,hDe];exact hok) (by rw [hDr];exact lr) hcs)
  have gl:(Uy D cs).length≤1000000:=by have:=Kerb.grantKeys_len D cs;omega
  obtain ⟨VS,hVS⟩:∃ VS,Xb ⟨[107,114,98,116,103,116],rl,R.ap.realm⟩ (Uy D cs) ⟨sz,fl,ms⟩ sk=VS:=⟨_,rfl⟩
  have hVS2:Kerb.tgsServer D cs S R=VS:=by rw [← hVS,← hS,← hDr];rfl
  have hRa:Xf R.ap.little R.ap.mutual_ R.ap.kvno R.ap.realm R.ap.ticket R.ap.auth=R.ap:=rfl
  have hRe:Kerb.TgsRequest.mk R.ap R.time R.life R.service R.inst=R:=rfl
  obtain ⟨V,hV⟩:∃ V,Kerb.verify VS R.ap ad now=V:=⟨_,rfl⟩
  have hAe:Kerb.Accepted.mk ⟨V.a.client.name,V.a.client.inst,V.a.client.realm⟩ V.a.session V.a.address V.a.checksum V.a.time V.a.tick V.a.issued V.a.life V.a.ticket V.a.auth=V.a:=rfl
  have va:=Kerb.verify_bdA VS R.ap ad now
  have vs:=Kerb.isU64_iff.2 (Kerb.verify_bd VS R.ap ad now)
  rw [hV] at va vs
  obtain ⟨va1,va2,va3⟩:=va
  obtain ⟨hl1,hl2,hl3⟩:=Kerb.holder_len VS R.ap
  have hHe:Zw (Wb VS R.ap).name (Wb VS R.ap).inst (Wb VS R.ap).realm=Wb VS R.ap:=rfl
  unfold Kerb.tgsAnswer
  simp (config:={maxSteps:=10000000}) only [Kerb.map_toEntry,Kerb.map_toCross,Vp,Kerb.map_toMark,Yf,hD,hS,hR,lm2,r1,r2,r3,r4b,r5b,gk,gl,hVS,hVS2,hRa,hRe,hV,hAe,va1,va2,va3,vs,hl1,hl2,hl3,hHe,ea,el,xa,xl,lr,l1,l2,l3,ka,kl,ma,ml,hse,decide_true,Xu,Bool.true_and,Bool.and_true,↓sInt,↓sU8,↓sBool,↓sStr,↓sBs,↓sSl,↓sAgg,↓sTup,↓sCons,↓sNil,↓sNilB,↓sChk,↓sChkBind,↓sSome,↓sOwnL,↓sConsB,↓sOwnB]
  by_cases q1:now<0
  ·rw [sel_pos (by simpa using q1),if_pos (by simp [Kerb.within];omega),← hS];rfl
  rw [sel_neg (by simpa using q1)]
  by_cases q2:now>4294967295
  ·rw [sel_pos (by simpa using q2),if_pos (by simp [Kerb.within];omega),← hS];rfl
  rw [sel_neg (by simpa using q2)]
  by_cases q3:ad<0
  ·rw [sel_pos (by simpa using q3),if_pos (by simp [Kerb.within];omega),← hS];rfl
  rw [sel_neg (by simpa using q3)]
  by_cases q4:ad>4294967295
  ·rw [sel_pos (by simpa using q4),if_pos (by simp [Kerb.within];omega),← hS];rfl
  rw [sel_neg (by simpa using q4),if_neg (by simp [Kerb.within];omega)]
  by_cases g1:(Yd msg).err=0
  case neg=>rw [sel_pos (by simpa using g1),if_pos g1,← hS];rfl
  rw [sel_neg (by simpa using g1),if_neg (by simpa using g1)]
  unfold Kerb.tgsAsk
  rw [hVS2,hV]
  by_cases g2:V.err=0
  ·rw [sel_pos (by simpa using g2),if_neg (by simpa using g2),← hS]
  rw [sel_neg (by simpa using g2),if_pos g2]
  by_cases g3:V.err=108
  ·rw [g3];simp only [↓sTrue,BEq.rfl];rw [if_pos (show Kerb.isQuiet 108=true from rfl),← hS];rfl
  rw [sel_neg (by simpa using g3)]
  by_cases g4:V.err=35
  ·rw [g4];simp only [↓sTrue,BEq.rfl];rw [if_pos (show Kerb.isQuiet 35=true from rfl),← hS];rfl
  rw [sel_neg (by simpa using g4)]
  by_cases g5:V.err=7
  ·rw [g5];simp only [↓sTrue,BEq.rfl];rw [if_pos (show Kerb.isQuiet 7=true from rfl),← hS];rfl
  rw [sel_neg (by simpa using g5)]
  by_cases g6:V.err=31
  ·rw [g6];simp only [↓sTrue,BEq.rfl];rw [if_pos (show Kerb.isQuiet 31=true from rfl),← hS];rfl
  rw [sel_neg (by simpa using g6)]
  rw [if_neg (fun h=>by rcases Kerb.verify_err_quiet.1 h with h | h | h | h;exact g3 h;exact g4 h;exact g5 h;exact g6 h),← hS]
  rfl
 ·cases h
theorem p4  : runFn (G.env 4 15) G.rts (G.own 4) Tryz.f4 [] []=some (.bool true,[]):=by kernel_rfl
theorem w4:Walked Tryz.prog G 4 15 sp4:=by
 refine ⟨Tryz.f4,Tryz.func4,by decide +kernel,rfl,fun xs bl r h=> ?_⟩
 unfold sp4 at h
 split at h
 ·cases h;exact p4
 ·cases h
theorem w3:Walked Tryz.prog G 3 16 sp3:=by
 refine ⟨Tryz.f3,Tryz.func3,by decide +kernel,rfl,fun xs bl r h=> ?_⟩
 unfold sp3 at h
 split at h
 ·rename_i d cx bd
  cases h
  refine Eq.trans (b:=(sel (decide ((↑(Zx d):Int)>300)) (some (Zh true,[])) (sel (decide ((↑(Zx cx):Int)>60)) (some (Zh true,[])) (Zv (chk (decide (Zx cx≤100000)) (some (Yg 4 (Yu Kerb.Cross.av (Kerb.goodCross cx)),[]))) fun (r:AV×Blocks)=>onNilB (Xk r) (AV.onSl 4 (Xn r) fun b=>Zv (loopM (fun (st:List AV)=>cBs st fun b r=>cU8 r fun b_1 r=>let t0:AV:=Yz [Zy (Kerb.Db.realm (Kerb.simpleDb (9:UInt8) (9:UInt8) b_1)),Yg 9 (Yu Wz (Kerb.Db.entries (Kerb.simpleDb (9:UInt8) (9:UInt8) b_1)))];cBool r fun b_2 r=>cSl 4 r fun b_3 r=>cInt .i64 r fun n r=>onNil r (sel (decide (n<3)) (Zv (chk (decide (Zx b≤100000)&&true) (some (Yz [Zy (Kerb.Db.realm (Wn b 0)),Yg 9 (Yu Wz (Kerb.Db.entries (Wn b 0)))],[]))) (kA fun cs=>cStr cs fun b_4 r=>cSl 9 r fun b_5 r=>let t1:AV:=Yz [Zy b_4,Yg 9 b_5];onNil r (Zv (chk (decide (Zx b≤100000)&&true) (some (Yz [Zy (Kerb.Db.realm (Wn b 1)),Yg 9 (Yu Wz (Kerb.Db.entries (Wn b 1)))],[]))) (kA fun cs=>cStr cs fun b_6 r=>cSl 9 r fun b_7 r=>let t3:List AV:=[t1,t0,Yz [Zy b_6,Yg 9 b_7]];let t2:Int:=(↑(Zx t3):Int);onNil r (chk (decide (0≤n)&&decide (n<t2)&&true) (Yn (List.getD t3 (Int.toNat n) AV.undef) fun cs=>cStr cs fun b_8 r=>cSl 9 r fun b_9 r=>let t4:Option (AV×Blocks):=chk (Xm b_9 Kerb.isEntry&&decide (Zx b_9≤1000000)&&Xm b_3 Kerb.isCross&&decide (Zx b_3≤1000000)&&l63 b_8) (some (Yg 5 (Yu Xd (Uy (Vg b_8 (Yu Kerb.toEntry b_9)) (Yu Kerb.toCross b_3))),[]));onNil r (Zv t4 fun (r:AV×Blocks)=>onNilB (Xk r) (AV.onSl 5 (Xn r) fun b_10=>Zv t4 fun (r:AV×Blocks)=>onNilB (Xk r) (AV.onSl 5 (Xn r) fun b_11=>Zv (chk (Xm b_10 Kerb.isSKey&&decide (Zx b_10≤1000000)&&Xm b_11 Kerb.isSKey) (some (Zh (Kerb.sameSKeys (Yu Wf b_10) (Yu Wf b_11)),[]))) (kL fun b_12=>sel (!b_12) (some (Sum.inr (Ex.ret,[Zb b,AV.u8 b_1,Zh false,Yg 4 b_3,Zz .i64 n]))) (some (Sum.inl [Zb b,AV.u8 b_1,Zh b_2,Yg 4 b_3,Zz .i64 (IntKind.wrap .i64 (n+1))])))))))))))) (some (Sum.inr (Ex.exit 0,[Zb b,AV.u8 b_1,Zh b_2,Yg 4 b_3,Zz .i64 n]))))) [Zb d,AV.u8 bd,Zh false,Yg 4 b,Zz .i64 0]) fun (r:Ex×List AV)=>cBs (Xk r) fun b r_1=>cU8 r_1 fun b r_2=>cBool r_2 fun b r_3=>cSl 4 r_3 fun b_1 r_4=>cInt .i64 r_4 fun n r_5=>onNil r_5 (exK r.1 (some (Zh b,[])) fun (j:Nat)=>sel (Nat.beq j 0) (some (Zh true,[])) none)))):Option (AV×Blocks))) (by kernel_rfl) ?_
  delta kA kL
  try dsimp only [cStr,cBs,cBool,cU8,cInt,cSl,l63]
  by_cases q1:((d.length:Nat):Int)>300
  ·rw [sel_pos (by simpa using q1)]
  rw [sel_neg (by simpa using q1)]
  by_cases q2:((cx.length:Nat):Int)>60
  ·rw [sel_pos (by simpa using q2)]
  rw [sel_neg (by simpa using q2)]
  have lcx:cx.length≤100000:=by omega
  have ld:d.length≤100000:=by omega
  obtain ⟨xs,hxs⟩:∃ xs,Kerb.goodCross cx=xs:=⟨_,rfl⟩
  obtain ⟨xl,xok⟩:=hxs ▸ Kerb.goodCross_ok cx
  have hxT:=Kerb.cross_all xok
  have xl2:xs.length≤1000000:=by omega
  simp (config:={maxSteps:=10000000}) only [lcx,hxs,decide_true,↓sInt,↓sU8,↓sBool,↓sStr,↓sBs,↓sSl,↓sAgg,↓sTup,↓sCons,↓sNil,↓sNilB,↓sChk,↓sChkBind,↓sSome,↓sOwnL,↓sConsB,↓sOwnB]
  refine loop_rounds (fun i:Nat=>[Zb d,AV.u8 bd,Zh false,Yg 4 (xs.map Kerb.Cross.av),Zz Yp (i:Int)]) (fun i=>i≤3) (fun i=>3-i) (fun r=>r=(Ex.exit 0,[Zb d,AV.u8 bd,Zh false,Yg 4 (xs.map Kerb.Cross.av),Zz Yp 3])) 0 (by decide) rfl ?_ ?_
  ·intro i hi
   simp (config:={maxSteps:=10000000}) only [↓sInt,↓sU8,↓sBool,↓sStr,↓sBs,↓sSl,↓sAgg,↓sTup,↓sCons,↓sNil,↓sNilB,↓sChk,↓sChkBind,↓sSome,↓sOwnL,↓sConsB,↓sOwnB]
   by_cases h1:i<3
   case neg =>
    have:i=3:=by omega
    subst this
    exact ⟨_,rfl,rfl⟩
   rw [sel_pos (by simp;omega)]
   have key:∃ D:Kerb.Db,List.getD [Yz [Zy (Wn d 0).realm,Yg 9 ((Wn d 0).entries.map Wz)],Yz [Zy (Kerb.simpleDb 9 9 bd).realm,Yg 9 ((Kerb.simpleDb 9 9 bd).entries.map Wz)],Yz [Zy (Wn d 1).realm,Yg 9 ((Wn d 1).entries.map Wz)]] (Int.toNat (i:Int)) AV.undef=Yz [Zy D.realm,Yg 9 (D.entries.map Wz)]∧D.err=0∧D.ok:=by
    have:i=0∨i=1∨i=2:=by omega
    rcases this with rfl | rfl | rfl
    ·exact ⟨_,rfl,Kerb.dataDb_err d 0⟩
    ·exact ⟨_,rfl,Kerb.simpleDb_err 9 9 bd⟩
    ·exact ⟨_,rfl,Kerb.dataDb_err d 1⟩
   obtain ⟨D,hDp,hDe,hDok⟩:=key
   have hDa:=Kerb.all_ents hDok
   obtain ⟨dv,dl,_⟩:=Kerb.Db.err_inv hDe
   have dl2:D.entries.length≤1000000:=by omega
   have dr2:D.realm.length≤9223372036854775807:=by
    simp only [Kerb.validRealm,Kerb.validInst,Yb,decide_eq_true_eq] at dv
    omega
   have hD2:Vg D.realm D.entries=D:=rfl
   have hkk:∀ a b c:AV,(decide ((0:Int)≤(i:Int))&&decide ((i:Int)<((Zx [a,b,c]:Nat):Int))&&true)=true:=fun a b c=>by simp;omega
   have gk:=Uz (Kerb.grantKeys_ok hDok dr2 xok)
   have gl:(Uy D xs).length≤1000000:=by have:=Kerb.grantKeys_len D xs;omega
   simp (config:={maxSteps:=10000000}) only [ld,hkk,hDp,hDa,dl2,dr2,hxT,xl2,hD2,gk,gl,Kerb.sameSKeys_refl,Kerb.map_toEntry,Kerb.map_toCross,Vp,Yf,Uj,decide_true,Xu,Bool.true_and,Bool.and_true,↓sFalse,↓sInt,↓sU8,↓sBool,↓sStr,↓sBs,↓sSl,↓sAgg,↓sTup,↓sCons,↓sNil,↓sNilB,↓sChk,↓sChkBind,↓sSome,↓sOwnL,↓sConsB,↓sOwnB]
   rw [wrap_i64 (by omega) (by omega)]
   exact ⟨_,rfl,i+1,rfl,by omega,by dsimp only;omega⟩
  ·rintro _ rfl
   simp (config:={maxSteps:=10000000}) only [↓A0,A0]
   rw [sel_pos (Nat.beq_refl _)]
 ·cases h
end Go.Proofs.YtljhmpcfjfcgiaaGreatDoor
