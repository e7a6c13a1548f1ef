/- What the functions of this seat compute. -/
import Derived.Test.YtmpklfnpjhdjeaaGreatDoorTab
import Derived.Test.YtmpklfnpjhdjeaaGreatDoorKerbPlain
import Derived.Test.YtmpklfnpjhdjeaaGreatDoorAbsStep
import Derived.Test.YtmpklfnpjhdjeaaGreatDoorKerbCli3
import Derived.Test.YtmpklfnpjhdjeaaGreatDoorKerbCli4
import Derived.Test.YtmpklfnpjhdjeaaGreatDoorKerbCli5
import Derived.Test.YtmpklfnpjhdjeaaGreatDoorKerbSrvL
import Derived.Test.YtmpklfnpjhdjeaaGreatDoorKerbKac2
import Derived.Test.YtmpklfnpjhdjeaaGreatDoorKerbKac4
import Derived.Test.YtmpklfnpjhdjeaaGreatDoorKerbSrvB
import Derived.Test.YtmpklfnpjhdjeaaGreatDoorKerbVerL
import Derived.Test.YtmpklfnpjhdjeaaGreatDoorKerbVerL
import Derived.Test.YtmpklfnpjhdjeaaGreatDoorKerbAuthL
import Derived.Test.YtmpklfnpjhdjeaaGreatDoorKerbGrtL
open Go.Abs.AV renaming int→Zz,str→Zy,tup→Zb,bs→Zm,bool→Yw,agg→Yu,onAgg→Yf,sl→Xp,ownB→Vn
open List renaming length→Zx,map→Yv,length_map→Yn,all→Xf,append→Vp
open Kerb.Prin renaming mk→Zw,realm→Zk,name→Zd,inst→Zf
open Option renaming bind→Zv
open Kerb renaming putPrin_len→Zu,keyBytes_len→Zj,putN_len→Zp,openTicket→Zg,noIssue→Zn,grant→Yj,decodeTicket→Yd,decodeTgs→Yb,putN→Yh,get→Xz,decodeReply→Xy,putText→Xj,openReq→Xk,prin→Xd,decodeAuth→Xm,openAuth→Wy,encodeTicket→Wd,session→Wm,openBox→Wh,toSKey→Vd,skFind→Vf,holder→Vg,toCross→Vm,skeys_all→Vh,skAt→Uv,isU64→Uu,toMark→Uk,refuse→Up,map_toSKey→Ud,map_toMark→Uf,u8i→Qy,tgsAnswer→Qx,marks_all→Qw,Server→Qv,simpleDb→Qp
open Kerb.Dec renaming val→Zq,err→Vk
open Kerb.Issue renaming service→Zh,server→Yz,client→Yy,session→Wx,granter→Ww,sealer→Wq,issued→Wj,text→Wg,stop→Wb,kind→Wn
open Kerb.Granted renaming issue→Yx,part→Xq
open Kerb.Server renaming replay→Yq,me→Yp,mk→Xv,keys→Wp,skew→Qz
open Kerb.Ticket renaming client→Yk,mk→Wk,session→Uy,service→Ux,address→Uw,little→Uq,issued→Uj,life→Um,inst→Uh
open Go.IntKind renaming i64→Yg,wrap→Xn
open Bool renaming and_eq_true→Ym,and_self→Xg,not_true→Qd
open Kerb.SKey renaming av→Xx
open Kerb.Auth renaming client→Xw,mk→Qj
open Kerb.DecReply renaming val→Xu
open Kerb.RCache renaming marks→Xb,mk→Wz,floor→Vx,size→Vb
open Kerb.TgsRequest renaming ap→Xh
open Kerb.Mark renaming av→Wv
open Kerb.ApRequest renaming mk→Wu
open Prod renaming snd→Wf,fst→Vw
open Kerb.ReplyPart renaming mk→Vz,service→Ub
open Kerb.Got renaming next→Vy,val→Vv,err→Vu
open Kerb.Enc renaming val→Vq,err→Vj
open Kerb.GotP renaming val→Uz
open Kerb.Db renaming mk→Ug
open Nat renaming le_trans→Un
open Kerb.KdcReply renaming client→Qu
open Kerb.Case renaming mk→Qq
open Kerb.Accepted renaming client→Qk
namespace Go.Proofs.YtmpklfnpjhdjeaaGreatDoor
open Go Go.Abs Go.Proofs
set_option linter.unusedVariables false
set_option linter.unusedSimpArgs false
set_option maxRecDepth 100000
theorem w152:Walked Tryz.prog G 152 9 sp152:=by
 refine ⟨Tryz.f152,Tryz.func152,by decide +kernel,rfl,fun xs bl r h=> ?_⟩
 unfold sp152 at h
 split at h
 ·rename_i li x y z ad k lf iss sv ins
  obtain ⟨hpre,h2⟩:=chk_inv h;cases h2
  refine Eq.trans (b:=(let t0:Nat:=Zx ([]++Yh 1 1 false)+Zx x+Zx y+Zx z;let t1:Nat:=Zx ([]++Yh 0 1 false)+Zx x+Zx y+Zx z;let t2:Option (AV×Blocks):=chk (decide (0≤k)&&decide (k<18446744073709551616)) (some (Zm (Kerb.keyBytes k),[]));Zv (chk (l63 x&&l63 y&&l63 z&&l63 sv&&l63 ins&&decide (0≤k)&&decide (k<18446744073709551616)) (some (Zz .i64 (Kerb.Ticket.err (Wk li (Zw x y z) ad k lf iss sv ins)),[]))) (kI .i64 fun n=>sel (!n==0) (some (Zb [Zm [],Zz .i64 n],[])) (sel li (Zv (chk (decide (t0≤70368744170000)) (some (Zm (Kerb.putPrin ([]++Yh 1 1 false) (Zw x y z)),[]))) (kB fun b=>Zv (chk (decide (Zx b≤70368744177664)) (some (Vn (b++Yh ad 4 li),[]))) (kO fun l=>Zv t2 (kB fun b=>Zv (chk (decide (Zx (Vp l (Vp b []))≤140737488355328)&&decide (Zx [Zm l,Zm b]≤1000)) (some (Vn (Vp l (Vp b [])),[]))) (kO fun l=>Zv (chk (decide (Zx l≤70368744177664)) (some (Vn (l++Yh lf 1 false),[]))) (kO fun l=>Zv (chk (decide (Zx l≤70368744177664)) (some (Vn (l++Yh iss 4 li),[]))) (kO fun l=>Zv (chk (decide (Zx l+Zx sv≤70368744177664)) (some (Zm (Xj l sv),[]))) (kB fun b=>Zv (chk (decide (Zx b+Zx ins≤70368744177664)) (some (Zm (Xj b ins),[]))) (kB fun b=>Zv (chk (decide (Zx b≤70368744177664)) (some (Zm (Kerb.pad b),[]))) (kB fun b=>some (Zb [Zm b,Zz .i64 0],[]))))))))))) (Zv (chk (decide (t1≤70368744170000)) (some (Zm (Kerb.putPrin ([]++Yh 0 1 false) (Zw x y z)),[]))) (kB fun b=>Zv (chk (decide (Zx b≤70368744177664)) (some (Vn (b++Yh ad 4 li),[]))) (kO fun l=>Zv t2 (kB fun b=>Zv (chk (decide (Zx (Vp l (Vp b []))≤140737488355328)&&decide (Zx [Zm l,Zm b]≤1000)) (some (Vn (Vp l (Vp b [])),[]))) (kO fun l=>Zv (chk (decide (Zx l≤70368744177664)) (some (Vn (l++Yh lf 1 false),[]))) (kO fun l=>Zv (chk (decide (Zx l≤70368744177664)) (some (Vn (l++Yh iss 4 li),[]))) (kO fun l=>Zv (chk (decide (Zx l+Zx sv≤70368744177664)) (some (Zm (Xj l sv),[]))) (kB fun b=>Zv (chk (decide (Zx b+Zx ins≤70368744177664)) (some (Zm (Xj b ins),[]))) (kB fun b=>Zv (chk (decide (Zx b≤70368744177664)) (some (Zm (Kerb.pad b),[]))) (kB fun b=>some (Zb [Zm b,Zz .i64 0],[]))))))))))))):Option (AV×Blocks))) (by kernel_rfl) ?_
  delta kB kO kI
  try dsimp only [cStr,cBs,cBool,cU8,cInt,cSl,l63]
  simp only [Ym,decide_eq_true_eq] at hpre
  obtain ⟨⟨⟨⟨⟨⟨h1,h2⟩,h3⟩,h4⟩,h5⟩,h6⟩,h7⟩:=hpre
  simp only [h1,h2,h3,h4,h5,h6,h7,decide_true,Xg,↓A0,A0]
  have hb := @Kerb.encTicket_inv ⟨li,⟨x,y,z⟩,ad,k,lf,iss,sv,ins⟩
  unfold Wd at hb ⊢
  dsimp only at hb ⊢
  generalize hE:Kerb.Ticket.err _=e at hb ⊢
  by_cases he:e=0
  case neg=>rw [sel_pos (by simpa using he),if_pos he]
  rw [if_neg (by simpa using he)] at hb
  obtain ⟨v1,v2,v3,_⟩:=hb rfl
  have l1:=Kerb.valid_len v1
  have l2:=(Kerb.name_ok v2).1
  have l3:=(Kerb.inst_ok v3).1
  dsimp only at l1
  rw [sel_neg (by simpa using he),if_neg (by simpa using he)]
  cases li
  ·rw [sel_false,chk_of (by first | (simp [Zu,Zp,Zj];done) | (simp [Zu,Zp,Zj];omega)),chk_of (by first | (simp [Zu,Zp,Zj];done) | (simp [Zu,Zp,Zj];omega)),chk_of (by first | (simp [Zu,Zp,Zj];done) | (simp [Zu,Zp,Zj];omega)),chk_of (by first | (simp [Zu,Zp,Zj];done) | (simp [Zu,Zp,Zj];omega)),chk_of (by first | (simp [Zu,Zp,Zj];done) | (simp [Zu,Zp,Zj];omega)),chk_of (by first | (simp [Zu,Zp,Zj];done) | (simp [Zu,Zp,Zj];omega)),chk_of (by first | (simp [Xj,Zu,Zp,Zj];done) | (simp [Xj,Zu,Zp,Zj];omega)),chk_of (by first | (simp [Xj,Zu,Zp,Zj];done) | (simp [Xj,Zu,Zp,Zj];omega))]
   simp
  ·rw [sel_true,chk_of (by first | (simp [Zu,Zp,Zj];done) | (simp [Zu,Zp,Zj];omega)),chk_of (by first | (simp [Zu,Zp,Zj];done) | (simp [Zu,Zp,Zj];omega)),chk_of (by first | (simp [Zu,Zp,Zj];done) | (simp [Zu,Zp,Zj];omega)),chk_of (by first | (simp [Zu,Zp,Zj];done) | (simp [Zu,Zp,Zj];omega)),chk_of (by first | (simp [Zu,Zp,Zj];done) | (simp [Zu,Zp,Zj];omega)),chk_of (by first | (simp [Zu,Zp,Zj];done) | (simp [Zu,Zp,Zj];omega)),chk_of (by first | (simp [Xj,Zu,Zp,Zj];done) | (simp [Xj,Zu,Zp,Zj];omega)),chk_of (by first | (simp [Xj,Zu,Zp,Zj];done) | (simp [Xj,Zu,Zp,Zj];omega))]
   simp
 ·cases h
theorem w167:Walked Tryz.prog G 167 9 sp167:=by
 refine ⟨Tryz.f167,Tryz.func167,by decide +kernel,rfl,fun xs bl r h=> ?_⟩
 unfold sp167 at h
 split at h
 ·rename_i x y z ck tc tm li
  obtain ⟨hpre,h2⟩:=chk_inv h;cases h2
  refine Eq.trans (b:=(let t0:Nat:=Zx ([]++Yh 1 1 false)+Zx x+Zx y+Zx z;let t1:Nat:=Zx ([]++Yh 0 1 false)+Zx x+Zx y+Zx z;Zv (chk (l63 x&&l63 y&&l63 z) (some (Zz .i64 (Kerb.Auth.check (Qj (Zw x y z) ck tc tm)),[]))) (kI .i64 fun n=>sel (!n==0) (some (Zb [Zm [],Zz .i64 n],[])) (sel li (Zv (chk (decide (t0≤70368744170000)) (some (Zm (Kerb.putPrin ([]++Yh 1 1 false) (Zw x y z)),[]))) (kB fun b=>Zv (chk (decide (Zx b≤70368744177664)) (some (Vn (b++Yh ck 4 li),[]))) (kO fun l=>Zv (chk (decide (Zx l≤70368744177664)) (some (Vn (l++Yh tc 1 false),[]))) (kO fun l=>Zv (chk (decide (Zx l≤70368744177664)) (some (Vn (l++Yh tm 4 li),[]))) (kO fun l=>Zv (chk (decide (Zx l≤70368744177664)) (some (Zm (Kerb.pad l),[]))) (kB fun b=>some (Zb [Zm b,Zz .i64 0],[]))))))) (Zv (chk (decide (t1≤70368744170000)) (some (Zm (Kerb.putPrin ([]++Yh 0 1 false) (Zw x y z)),[]))) (kB fun b=>Zv (chk (decide (Zx b≤70368744177664)) (some (Vn (b++Yh ck 4 li),[]))) (kO fun l=>Zv (chk (decide (Zx l≤70368744177664)) (some (Vn (l++Yh tc 1 false),[]))) (kO fun l=>Zv (chk (decide (Zx l≤70368744177664)) (some (Vn (l++Yh tm 4 li),[]))) (kO fun l=>Zv (chk (decide (Zx l≤70368744177664)) (some (Zm (Kerb.pad l),[]))) (kB fun b=>some (Zb [Zm b,Zz .i64 0],[]))))))))):Option (AV×Blocks))) (by kernel_rfl) ?_
  delta kB kO kI
  try dsimp only [cStr,cBs,cBool,cU8,cInt,cSl,l63]
  simp only [A0,Kerb.Client.av,Kerb.Cache.av,Kerb.Cred.av,hpre]
  unfold Kerb.encodeAuth
  by_cases h:(Qj ⟨x,y,z⟩ ck tc tm).check=0
  case neg =>
   rw [sel_pos (by simpa using h),if_pos h]
  have hv:Kerb.Prin.valid ⟨x,y,z⟩=true:=by
   unfold Kerb.Auth.check at h
   cases hv:Kerb.Prin.valid ⟨x,y,z⟩
   ·simp [hv] at h
   ·rfl
  have l1:=Kerb.valid_len hv
  simp only at l1
  rw [sel_neg (by simp [h]),if_neg (by simpa using h)]
  cases li
  ·simp only [A0,Kerb.Client.av,Kerb.Cache.av,Kerb.Cred.av,List.nil_append,cond_false,cond_true]
   rw [chk_of (by simp [Zp];omega),chk_of (by simp [Zp,Zu];omega),chk_of (by simp [Zp,Zu];omega),chk_of (by simp [Zp,Zu];omega),chk_of (by simp [Zp,Zu];omega)]
  ·simp only [A0,Kerb.Client.av,Kerb.Cache.av,Kerb.Cred.av,List.nil_append,cond_false,cond_true]
   rw [chk_of (by simp [Zp];omega),chk_of (by simp [Zp,Zu];omega),chk_of (by simp [Zp,Zu];omega),chk_of (by simp [Zp,Zu];omega),chk_of (by simp [Zp,Zu];omega)]
 ·cases h
theorem w26:Walked Tryz.prog G 26 10 sp26:=by
 refine ⟨Tryz.f26,Tryz.func26,by decide +kernel,rfl,fun xs bl r h=> ?_⟩
 unfold sp26 at h
 split at h
 ·rename_i rl els xls now li se x y z cd
  obtain ⟨hpre,h2⟩:=chk_inv h;cases h2
  refine Eq.trans (b:=(Zv (chk (decide (Zx x≤9223372036854775807)&&decide (Zx y≤9223372036854775807)&&decide (Zx z≤9223372036854775807)) (some (Zm (Up (Zw x y z) cd now li),[]))) fun (r:AV×Blocks)=>onNilB (Wf r) (AV.onBs (Vw r) fun b=>some (Zb [Zm b,Yu [Zz .i64 0,Zy [],Zy [],Zy [],Zy [],Zy [],Zy [],Zy [],Zy [],Zy [],Zz .u64 0,Zz .u64 0,Zz .u64 0,Zm [],Zz .i64 0,Zz .i64 0],Yw false],[])):Option (AV×Blocks))) (by kernel_rfl) ?_
  simp only [Ym,decide_eq_true_eq] at hpre
  obtain ⟨⟨l1,l2⟩,l3⟩:=hpre
  simp only [l1,l2,l3,decide_true,Xg,↓sInt,↓sU8,↓sBool,↓sStr,↓sBs,↓sSl,↓sAgg,↓sTup,↓sCons,↓sNil,↓sNilB,↓sChk,↓sChkBind,↓sSome,↓sOwnL,↓sConsB,↓sOwnB]
  rfl
 ·cases h
theorem w114:Walked Tryz.prog G 114 10 sp114:=by
 refine ⟨Tryz.f114,Tryz.func114,by decide +kernel,rfl,fun xs bl r h=> ?_⟩
 unfold sp114 at h
 split at h
 ·rename_i b
  obtain ⟨hpre,h2⟩:=chk_inv h;cases h2
  refine Eq.trans (b:=(let t1:AV:=Yu [Yw false,Zy [],Zy [],Zy [],Zz .i64 0,Zz .u64 0,Zz .i64 0,Zz .i64 0,Zy [],Zy []];let t0:Option (AV×Blocks):=some (Zb [t1,Zz .i64 100],[]);Zv (chk (decide (Zx b≤4611686018427387904)) (some (Zb [Zz .i64 (Vv (Xz b 0 1 false)),Zz .i64 (Vy (Xz b 0 1 false)),Zz .i64 (Vu (Xz b 0 1 false))],[]))) (kT fun vs=>cInt .i64 vs fun n r=>cInt .i64 r fun n_1 r=>cInt .i64 r fun n_2 r=>onNil r (sel (decide (n>1)) (some (Zb [t1,Zz .i64 7],[])) (Zv (chk (decide (Zx b≤4611686018427387904)) (some (Zb [Yu [Zy (Zd (Uz (Xd b n_1))),Zy (Zf (Uz (Xd b n_1))),Zy (Zk (Uz (Xd b n_1)))],Zz .i64 (Kerb.GotP.next (Xd b n_1)),Zz .i64 (Kerb.GotP.err (Xd b n_1))],[]))) (kT fun vs=>onCons vs fun x r=>Yf x fun cs=>cStr cs fun b_1 r_1=>cStr r_1 fun b_2 r_2=>cStr r_2 fun b_3 r_3=>onNil r_3 (cInt .i64 r fun n_3 r=>cInt .i64 r fun n_4 r=>onNil r (Zv (chk (decide (Zx b≤4611686018427387904)) (some (Zb [Zz .i64 (Vv (Xz b n_3 4 (n==1))),Zz .i64 (Vy (Xz b n_3 4 (n==1))),Zz .i64 (Vu (Xz b n_3 4 (n==1)))],[]))) (kT fun vs=>cInt .i64 vs fun n_5 r=>cInt .i64 r fun n_6 r=>cInt .i64 r fun n_7 r=>onNil r (Zv (chk (decide (Zx b≤140737488355328)) (some (Zb [Zm (Kerb.GotB.val (Kerb.bytes b n_6 8)),Zz .i64 (Kerb.GotB.next (Kerb.bytes b n_6 8)),Zz .i64 (Kerb.GotB.err (Kerb.bytes b n_6 8))],[]))) (kT fun vs=>cBs vs fun b_4 r=>cInt .i64 r fun n_8 r=>cInt .i64 r fun n_9 r=>onNil r (Zv (chk (decide (Zx b_4≤4611686018427387904)) (some (Zb [Zz .u64 (Vw (Kerb.keyRead b_4)),Yw (Wf (Kerb.keyRead b_4))],[]))) (kT fun vs=>cInt .u64 vs fun n_10 r=>cBool r fun b_5 r=>onNil r (Zv (chk (decide (Zx b≤4611686018427387904)) (some (Zb [Zz .i64 (Vv (Xz b n_8 1 false)),Zz .i64 (Vy (Xz b n_8 1 false)),Zz .i64 (Vu (Xz b n_8 1 false))],[]))) (kT fun vs=>cInt .i64 vs fun n_11 r=>cInt .i64 r fun n_12 r=>cInt .i64 r fun n_13 r=>onNil r (Zv (chk (decide (Zx b≤4611686018427387904)) (some (Zb [Zz .i64 (Vv (Xz b n_12 4 (n==1))),Zz .i64 (Vy (Xz b n_12 4 (n==1))),Zz .i64 (Vu (Xz b n_12 4 (n==1)))],[]))) (kT fun vs=>cInt .i64 vs fun n_14 r=>cInt .i64 r fun n_15 r=>cInt .i64 r fun n_16 r=>onNil r (Zv (chk (decide (Zx b≤4611686018427387904)) (some (Zb [Zy (Kerb.GotB.val (Kerb.text b n_15)),Zz .i64 (Kerb.GotB.next (Kerb.text b n_15)),Zz .i64 (Kerb.GotB.err (Kerb.text b n_15))],[]))) (kT fun vs=>cStr vs fun b_6 r=>cInt .i64 r fun n_17 r=>cInt .i64 r fun n_18 r=>onNil r (Zv (chk (decide (Zx b≤4611686018427387904)) (some (Zb [Zy (Kerb.GotB.val (Kerb.text b n_17)),Zz .i64 (Kerb.GotB.next (Kerb.text b n_17)),Zz .i64 (Kerb.GotB.err (Kerb.text b n_17))],[]))) (kT fun vs=>cStr vs fun b_7 r=>let t2:Kerb.Enc:=Wd (Wk (n==1) (Zw b_1 b_2 b_3) n_5 n_10 n_11 n_14 b_6 b_7);cInt .i64 r fun n_19 r=>cInt .i64 r fun n_20 r=>onNil r (Zv (chk (l63 b_1&&l63 b_2&&l63 b_3&&l63 b_6&&l63 b_7&&decide (0≤n_10)&&decide (n_10<18446744073709551616)) (some (Zb [Zm (Vq t2),Zz .i64 (Vj t2)],[]))) (kT fun vs=>cBs vs fun b_8 r=>cInt .i64 r fun n_21 r=>onNil r (sel (!n_21==0) t0 (sel (!b_8==b) t0 (some (Zb [Yu [Yw (n==1),Zy b_1,Zy b_2,Zy b_3,Zz .i64 n_5,Zz .u64 n_10,Zz .i64 n_11,Zz .i64 n_14,Zy b_6,Zy b_7],Zz .i64 0],[]))))))))))))))))))))))))):Option (AV×Blocks))) (by kernel_rfl) ?_
  delta kT
  try dsimp only [cStr,cBs,cBool,cU8,cInt,cSl,l63]
  have hb:=of_decide_eq_true hpre
  have hpre2:decide (b.length≤4611686018427387904)=true:=by simp;omega
  simp only [hpre,hpre2,↓A0,A0]
  unfold Yd
  by_cases h7:1<(Xz b 0 1 false).val
  ·rw [sel_pos (by simpa using h7),if_pos h7];try rfl
  rw [sel_neg (by simpa using h7),if_neg h7]
  have hl:∀ p n,(Kerb.bytes b p n).val.length≤4611686018427387904:=fun p n=>Un (Kerb.bytes_len b p n) (by omega)
  have hk:∀ q,0≤(Kerb.keyRead q).1∧(Kerb.keyRead q).1<18446744073709551616:=Kerb.keyRead_bd
  have hx:∀ q,(Kerb.text b q).val.length≤40:=Kerb.text_len b
  have lp:∀ q (_:Unit),(Xd b q).val.name.length≤40∧(Xd b q).val.inst.length≤40∧(Xd b q).val.realm.length≤40:=fun q _=>Kerb.prin_len b q
  rw [chk_of (by simp only [decide_eq_true_eq];exact hl _ _),chk_of (by simp only [Ym,decide_eq_true_eq];exact ⟨⟨⟨⟨⟨⟨Un (lp _ ()).1 (by decide),Un (lp _ ()).2.1 (by decide)⟩,Un (lp _ ()).2.2 (by decide)⟩,Un (hx _) (by decide)⟩,Un (hx _) (by decide)⟩,(hk _).1⟩,(hk _).2⟩)]
  exact Kerb.decBy_fin (no:=Kerb.noTicket) (enc:=Wd) (rd:=fun b=>(Kerb.readTicket b,false)) _ false rfl (fun x e=>(Zb [Yu [Yw (x).little,Zy (x).client.name,Zy (x).client.inst,Zy (x).client.realm,Zz Yg (x).address,Zz IntKind.u64 (x).session,Zz Yg (x).life,Zz Yg (x).issued,Zy (x).service,Zy (x).inst],Zz Yg e],([]:Blocks)))
 ·cases h
theorem w120:Walked Tryz.prog G 120 10 sp120:=by
 refine ⟨Tryz.f120,Tryz.func120,by decide +kernel,rfl,fun xs bl r h=> ?_⟩
 unfold sp120 at h
 split at h
 ·rename_i li x y z ad k lf iss sv ins key
  obtain ⟨hpre,h2⟩:=chk_inv h;cases h2
  refine Eq.trans (b:=(Zv (chk (decide (Zx x≤9223372036854775807)&&decide (Zx y≤9223372036854775807)&&decide (Zx z≤9223372036854775807)&&decide (Zx sv≤9223372036854775807)&&decide (Zx ins≤9223372036854775807)&&decide (0≤k)&&decide (k<18446744073709551616)) (some (Zb [Zm (Vq (Wd (Wk li (Zw x y z) ad k lf iss sv ins))),Zz .i64 (Vj (Wd (Wk li (Zw x y z) ad k lf iss sv ins)))],[]))) fun (r:AV×Blocks)=>onNilB (Wf r) (AV.onTup (Vw r) fun vs=>onCons vs fun x r=>AV.onBs x fun b=>onCons r fun x r=>AV.onInt .i64 x fun n=>onNil r (sel (!n==0) (some (Zb [Zm [],Zz .i64 n],[])) (Zv (chk (decide (0≤key)&&decide (key<18446744073709551616)) (some (Zb [Zm (Vq (Kerb.makeBox 1 key b)),Zz .i64 (Vj (Kerb.makeBox 1 key b))],[]))) fun (r:AV×Blocks)=>onNilB (Wf r) (AV.onTup (Vw r) fun vs=>onCons vs fun x r=>AV.onBs x fun b=>onCons r fun x r=>AV.onInt .i64 x fun n=>onNil r (some (Zb [Zm b,Zz .i64 n],[])))))):Option (AV×Blocks))) (by kernel_rfl) ?_
  simp only [Ym,decide_eq_true_eq] at hpre
  obtain ⟨⟨⟨⟨⟨⟨⟨⟨h1,h2⟩,h3⟩,h4⟩,h5⟩,h6⟩,h7⟩,h8⟩,h9⟩:=hpre
  simp only [h1,h2,h3,h4,h5,h6,h7,h8,h9,decide_true,Xg,↓A0,A0]
  unfold Kerb.sealTicket
  generalize Wd _=E
  by_cases he:E.err=0
  ·rw [sel_neg (by simpa using he),if_neg (by simpa using he)]
  ·rw [sel_pos (by simpa using he),if_pos he]
 ·cases h
theorem w143:Walked Tryz.prog G 143 10 sp143:=by
 refine ⟨Tryz.f143,Tryz.func143,by decide +kernel,rfl,fun xs bl r h=> ?_⟩
 unfold sp143 at h
 split at h
 ·rename_i b li
  obtain ⟨hpre,h2⟩:=chk_inv h;cases h2
  refine Eq.trans (b:=(let t0:Option (AV×Blocks):=some (Zb [Yu [Zy [],Zy [],Zy [],Zz .i64 0,Zz .i64 0,Zz .i64 0],Zz .i64 100],[]);Zv (chk (decide (Zx b≤4611686018427387904)) (some (Zb [Yu [Zy (Zd (Uz (Xd b 1))),Zy (Zf (Uz (Xd b 1))),Zy (Zk (Uz (Xd b 1)))],Zz .i64 (Kerb.GotP.next (Xd b 1)),Zz .i64 (Kerb.GotP.err (Xd b 1))],[]))) (kT fun vs=>onCons vs fun x r=>Yf x fun cs=>cStr cs fun b_1 r_1=>cStr r_1 fun b_2 r_2=>cStr r_2 fun b_3 r_3=>onNil r_3 (cInt .i64 r fun n r=>cInt .i64 r fun n_1 r=>onNil r (Zv (chk (decide (Zx b≤4611686018427387904)) (some (Zb [Zz .i64 (Vv (Xz b n 4 li)),Zz .i64 (Vy (Xz b n 4 li)),Zz .i64 (Vu (Xz b n 4 li))],[]))) (kT fun vs=>cInt .i64 vs fun n r=>cInt .i64 r fun n_2 r=>cInt .i64 r fun n_3 r=>onNil r (Zv (chk (decide (Zx b≤4611686018427387904)) (some (Zb [Zz .i64 (Vv (Xz b n_2 1 false)),Zz .i64 (Vy (Xz b n_2 1 false)),Zz .i64 (Vu (Xz b n_2 1 false))],[]))) (kT fun vs=>cInt .i64 vs fun n_4 r=>cInt .i64 r fun n_5 r=>cInt .i64 r fun n_6 r=>onNil r (Zv (chk (decide (Zx b≤4611686018427387904)) (some (Zb [Zz .i64 (Vv (Xz b n_5 4 li)),Zz .i64 (Vy (Xz b n_5 4 li)),Zz .i64 (Vu (Xz b n_5 4 li))],[]))) (kT fun vs=>cInt .i64 vs fun n_7 r=>cInt .i64 r fun n_8 r=>cInt .i64 r fun n_9 r=>onNil r (Zv (chk (l63 b_1&&l63 b_2&&l63 b_3) (some (Zb [Zm (Vq (Kerb.encodeAuth (Qj (Zw b_1 b_2 b_3) n n_4 n_7) li)),Zz .i64 (Vj (Kerb.encodeAuth (Qj (Zw b_1 b_2 b_3) n n_4 n_7) li))],[]))) (kT fun vs=>cBs vs fun b_4 r=>cInt .i64 r fun n_10 r=>onNil r (sel (!n_10==0) t0 (sel (!b_4==b) t0 (some (Zb [Yu [Zy b_1,Zy b_2,Zy b_3,Zz .i64 n,Zz .i64 n_4,Zz .i64 n_7],Zz .i64 0],[])))))))))))))):Option (AV×Blocks))) (by kernel_rfl) ?_
  delta kT
  try dsimp only [cStr,cBs,cBool,cU8,cInt,cSl,l63]
  have hb:=of_decide_eq_true hpre
  have hpre2:decide (b.length≤4611686018427387904)=true:=by simp;omega
  obtain ⟨n1,n2,n3⟩:=Kerb.prin_len b 1
  have g1:(Xd b 1).val.name.length≤9223372036854775807:=by omega
  have g2:(Xd b 1).val.inst.length≤9223372036854775807:=by omega
  have g3:(Xd b 1).val.realm.length≤9223372036854775807:=by omega
  simp only [hpre2,g1,g2,g3,decide_true,Xg,↓A0,A0]
  exact Kerb.decBy_fin (no:=Kerb.noAuth) (enc:=fun a=>Kerb.encodeAuth a li) (rd:=fun b=>(Kerb.readAuth b li,false)) _ false rfl (fun x e=>(Zb [.agg [.str (x).client.name,.str (x).client.inst,.str (x).client.realm,.int .i64 (x).checksum,.int .i64 (x).tick,.int .i64 (x).time],Zz Yg e],([]:Blocks)))
 ·cases h
theorem w57:Walked Tryz.prog G 57 11 sp57:=by
 refine ⟨Tryz.f57,Tryz.func57,by decide +kernel,rfl,fun xs bl r h=> ?_⟩
 unfold sp57 at h
 split at h
 ·rename_i b k
  obtain ⟨hpre,h2⟩:=chk_inv h;cases h2
  refine Eq.trans (b:=(Zv (chk (decide (Zx b≤140737488355328)) (some (Zb [Zm (Vw (Wh b 1 k)),Yw (Wf (Wh b 1 k))],[]))) (kT fun vs=>cBs vs fun b r=>cBool r fun b_1 r=>onNil r (sel (!b_1) (some (Zb [Yu [Yw false,Zy [],Zy [],Zy [],Zz .i64 0,Zz .u64 0,Zz .i64 0,Zz .i64 0,Zy [],Zy []],Zz .i64 31],[])) (Zv (chk (decide (Zx b≤140737488355328)) (some (Zb [Yu [Yw (Uq (Zq (Yd b))),Zy (Zd (Yk (Zq (Yd b)))),Zy (Zf (Yk (Zq (Yd b)))),Zy (Zk (Yk (Zq (Yd b)))),Zz .i64 (Uw (Zq (Yd b))),Zz .u64 (Uy (Zq (Yd b))),Zz .i64 (Um (Zq (Yd b))),Zz .i64 (Uj (Zq (Yd b))),Zy (Ux (Zq (Yd b))),Zy (Uh (Zq (Yd b)))],Zz .i64 (Vk (Yd b))],[]))) (kT fun vs=>onCons vs fun x r=>Yf x fun cs=>cBool cs fun b r_1=>cStr r_1 fun b_2 r_2=>cStr r_2 fun b_3 r_3=>cStr r_3 fun b_4 r_4=>cInt .i64 r_4 fun n r_5=>cInt .u64 r_5 fun n_1 r_6=>cInt .i64 r_6 fun n_2 r_7=>cInt .i64 r_7 fun n_3 r_8=>cStr r_8 fun b_5 r_9=>cStr r_9 fun b_6 r_10=>onNil r_10 (cInt .i64 r fun n_4 r=>onNil r (some (Zb [Yu [Yw b,Zy b_2,Zy b_3,Zy b_4,Zz .i64 n,Zz .u64 n_1,Zz .i64 n_2,Zz .i64 n_3,Zy b_5,Zy b_6],Zz .i64 n_4],[]))))))):Option (AV×Blocks))) (by kernel_rfl) ?_
  delta kT
  try dsimp only [cStr,cBs,cBool,cU8,cInt,cSl,l63]
  have hb:=of_decide_eq_true hpre
  have hl:=Kerb.openBox_len b 1 k
  simp only [hpre,↓A0,A0]
  unfold Zg
  cases h:(Wh b 1 k).2
  ·rfl
  ·rw [sel_neg (by simp),chk_of (by simp;omega)]
   rfl
 ·cases h
theorem w62:Walked Tryz.prog G 62 11 sp62:=by
 refine ⟨Tryz.f62,Tryz.func62,by decide +kernel,rfl,fun xs bl r h=> ?_⟩
 unfold sp62 at h
 split at h
 ·rename_i rl els x y z u v w ad li now lf se sl tg kv
  obtain ⟨hpre,h2⟩:=chk_inv h;cases h2
  refine Eq.trans (b:=(let t0:AV:=Yu [Zz .i64 0,Zy [],Zy [],Zy [],Zy [],Zy [],Zy [],Zy [],Zy [],Zy [],Zz .u64 0,Zz .u64 0,Zz .u64 0,Zm [],Zz .i64 0,Zz .i64 0];let t1:AV:=Yu [Zz .u64 0,Zy [],Zy [],Zy [],Zz .i64 0,Zz .i64 0,Zm [],Zz .i64 0];Zv (chk (l63 x&&l63 y&&l63 z&&l63 u&&l63 v&&decide (0≤se)&&decide (se<18446744073709551616)&&decide (0≤tg)&&decide (tg<18446744073709551616)) (some (Zb [Zm (Vq (Kerb.sealTicket (Wk li (Zw x y z) ad se lf now u v) tg)),Zz .i64 (Vj (Kerb.sealTicket (Wk li (Zw x y z) ad se lf now u v) tg))],[]))) (kT fun vs=>onCons vs fun x_1 r=>AV.onBs x_1 fun b=>onCons r fun x_2 r=>AV.onInt .i64 x_2 fun n=>onNil r (sel (!n==0) (some (Zb [t0,t1,Zz .i64 n],[])) (Zv (chk (l63 u&&l63 v&&l63 w&&decide (0≤se)&&decide (se<18446744073709551616)) (some (Zb [Zm (Vq (Kerb.encodePart (Vz se (Zw u v w) lf kv b now) li)),Zz .i64 (Vj (Kerb.encodePart (Vz se (Zw u v w) lf kv b now) li))],[]))) (kT fun vs=>onCons vs fun x_3 r=>AV.onBs x_3 fun b_1=>onCons r fun x_4 r=>AV.onInt .i64 x_4 fun n=>onNil r (sel (!n==0) (some (Zb [t0,t1,Zz .i64 n],[])) (Zv (chk (decide (Zx b≤140737488355328)) (some (Zm b,[]))) (kB fun b_2=>some (Zb [Yu [Zz .i64 0,Zy [(107:UInt8),(114:UInt8),(98:UInt8),(116:UInt8),(103:UInt8),(116:UInt8)],Zy rl,Zy rl,Zy x,Zy y,Zy z,Zy u,Zy v,Zy w,Zz .u64 se,Zz .u64 sl,Zz .u64 0,Zm b_2,Zz .i64 now,Zz .i64 (Kerb.tEnd now lf)],Yu [Zz .u64 se,Zy u,Zy v,Zy w,Zz .i64 lf,Zz .i64 kv,Zm b,Zz .i64 now],Zz .i64 0],[])))))))):Option (AV×Blocks))) (by kernel_rfl) ?_
  delta kT kB
  try dsimp only [cStr,cBs,cBool,cU8,cInt,cSl,l63]
  simp only [Ym,decide_eq_true_eq] at hpre
  simp only [Kerb.isU64_iff] at hpre
  obtain ⟨⟨⟨⟨⟨⟨⟨h1,h2⟩,h3⟩,h4⟩,h5⟩,h6⟩,h7,h8⟩,h9,h10⟩:=hpre
  simp only [h1,h2,h3,h4,h5,h6,h7,h8,h9,h10,decide_true,Xg,↓A0,A0]
  unfold Yj Kerb.grantTkt
  dsimp only
  have hsl:=Kerb.sealTicket_len ⟨li,⟨x,y,z⟩,ad,se,lf,now,u,v⟩ tg
  generalize Kerb.sealTicket ⟨li,⟨x,y,z⟩,ad,se,lf,now,u,v⟩ tg=E at hsl
  by_cases he:E.err=0
  case neg=>rw [sel_pos (by simpa using he),if_pos he];rfl
  rw [sel_neg (by simpa using he),if_neg (by simpa using he)]
  generalize Kerb.encodePart ⟨se,⟨u,v,w⟩,lf,kv,E.val,now⟩ li=F
  by_cases hf:F.err=0
  case neg=>rw [sel_pos (by simpa using hf),if_pos hf];rfl
  rw [sel_neg (by simpa using hf),if_neg (by simpa using hf)]
  rw [chk_of (by simp;omega)]
  rfl
 ·cases h
theorem w106:Walked Tryz.prog G 106 11 sp106:=by
 refine ⟨Tryz.f106,Tryz.func106,by decide +kernel,rfl,fun xs bl r h=> ?_⟩
 unfold sp106 at h
 split at h
 ·rename_i b li k
  obtain ⟨hpre,h2⟩:=chk_inv h;cases h2
  refine Eq.trans (b:=(let t0:Option (AV×Blocks):=some (Zb [Yu [Zy [],Zy [],Zy [],Zz .i64 0,Zz .i64 0,Zz .i64 0],Zz .i64 31],[]);Zv (chk (decide (Zx b≤140737488355328)) (some (Zb [Zm (Vw (Wh b 2 k)),Yw (Wf (Wh b 2 k))],[]))) (kT fun vs=>cBs vs fun b r=>cBool r fun b_1 r=>onNil r (sel (!b_1) t0 (Zv (chk (decide (Zx b≤140737488355328)) (some (Zb [Yu [Zy (Zd (Xw (Zq (Xm b li)))),Zy (Zf (Xw (Zq (Xm b li)))),Zy (Zk (Xw (Zq (Xm b li)))),Zz .i64 (Kerb.Auth.checksum (Zq (Xm b li))),Zz .i64 (Kerb.Auth.tick (Zq (Xm b li))),Zz .i64 (Kerb.Auth.time (Zq (Xm b li)))],Zz .i64 (Vk (Xm b li))],[]))) (kT fun vs=>onCons vs fun x r=>Yf x fun cs=>cStr cs fun b r_1=>cStr r_1 fun b_2 r_2=>cStr r_2 fun b_3 r_3=>cInt .i64 r_3 fun n r_4=>cInt .i64 r_4 fun n_1 r_5=>cInt .i64 r_5 fun n_2 r_6=>onNil r_6 (cInt .i64 r fun n_3 r=>onNil r (sel (!n_3==0) t0 (some (Zb [Yu [Zy b,Zy b_2,Zy b_3,Zz .i64 n,Zz .i64 n_1,Zz .i64 n_2],Zz .i64 0],[])))))))):Option (AV×Blocks))) (by kernel_rfl) ?_
  delta kT
  try dsimp only [cStr,cBs,cBool,cU8,cInt,cSl,l63]
  have hb:=of_decide_eq_true hpre
  have hpre2:decide (b.length≤4611686018427387904)=true:=by simp;omega
  have hl:=Kerb.openBox_len b 2 k
  have hl2:decide ((Wh b 2 k).1.length≤140737488355328)=true:=by simp;omega
  simp only [hpre,hl2,↓A0,A0]
  unfold Wy
  cases h1:(Wh b 2 k).2
  ·rfl
  rw [Qd,sel_false,if_neg (by simp)]
  by_cases h2:(Xm (Wh b 2 k).1 li).err=0
  case neg=>rw [sel_pos (by simpa using h2),if_pos h2];rfl
  rw [sel_neg (by simpa using h2),if_neg (by simpa using h2)]
 ·cases h
theorem w27:Walked Tryz.prog G 27 12 sp27:=by
 refine ⟨Tryz.f27,Tryz.func27,by decide +kernel,rfl,fun xs bl r h=> ?_⟩
 unfold sp27 at h
 split at h
 ·rename_i m1 m2 m3 kls sz fl mls sk rli rmu rkv rrl rtk rau
  obtain ⟨hpre,h2⟩:=chk_inv h;cases h2
  refine Eq.trans (b:=(Zv (loopM (fun (st:List AV)=>cStr st fun b r=>cStr r fun b_1 r=>cStr r fun b_2 r=>cSl 5 r fun b_3 r=>cInt .i64 r fun n r=>cInt .i64 r fun n_1 r=>cSl 5 r fun b_4 r=>cInt .i64 r fun n_2 r=>cBool r fun b_5 r=>cBool r fun b_6 r=>cInt .i64 r fun n_3 r=>cStr r fun b_7 r=>cBs r fun b_8 r=>cBs r fun b_9 r=>cStr r fun b_10 r=>cStr r fun b_11 r=>cStr r fun b_12 r=>cSl 5 r fun b_13 r=>cInt .i64 r fun n_4 r=>cInt .i64 r fun n_5 r=>let t0:Option (List AV ⊕ Ex×List AV):=some (Sum.inl [Zy b,Zy b_1,Zy b_2,Xp 5 b_3,Zz .i64 n,Zz .i64 n_1,Xp 5 b_4,Zz .i64 n_2,Yw b_5,Yw b_6,Zz .i64 n_3,Zy b_7,Zm b_8,Zm b_9,Zy b_10,Zy b_11,Zy b_12,Xp 5 b_13,Zz .i64 n_4,Zz .i64 (Xn .i64 (n_5+1))]);onNil r (sel (decide (n_5<n_4)) (chk (decide (0≤n_5)&&decide (n_5<(↑(Zx b_13):Int))&&true) (Yf (List.getD b_13 (Int.toNat n_5) AV.undef) fun cs=>cStr cs fun b_14 r=>cStr r fun b_15 r=>cStr r fun b_16 r=>cInt .i64 r fun n_6 r=>cInt .u64 r fun n_7 r=>onNil r (sel (b_14==b&&(b_15==b_1&&b_16==b_2)) (sel (n_6==n_3) (Zv (chk (decide (Zx b_8≤140737488355328)) (some (Zb [Yu [Yw (Uq (Zq (Zg b_8 n_7))),Zy (Zd (Yk (Zq (Zg b_8 n_7)))),Zy (Zf (Yk (Zq (Zg b_8 n_7)))),Zy (Zk (Yk (Zq (Zg b_8 n_7)))),Zz .i64 (Uw (Zq (Zg b_8 n_7))),Zz .u64 (Uy (Zq (Zg b_8 n_7))),Zz .i64 (Um (Zq (Zg b_8 n_7))),Zz .i64 (Uj (Zq (Zg b_8 n_7))),Zy (Ux (Zq (Zg b_8 n_7))),Zy (Uh (Zq (Zg b_8 n_7)))],Zz .i64 (Vk (Zg b_8 n_7))],[]))) (kT fun vs=>onCons vs fun x r=>Yf x fun cs=>cBool cs fun b_17 r_1=>cStr r_1 fun b_18 r_2=>cStr r_2 fun b_19 r_3=>cStr r_3 fun b_20 r_4=>cInt .i64 r_4 fun n_8 r_5=>cInt .u64 r_5 fun n_9 r_6=>cInt .i64 r_6 fun n_10 r_7=>cInt .i64 r_7 fun n_11 r_8=>cStr r_8 fun b_21 r_9=>cStr r_9 fun b_22 r_10=>onNil r_10 (cInt .i64 r fun n_12 r=>onNil r (some (Sum.inr (Ex.ret,[Zy b,Zy b_1,Zy b_2,Xp 5 b_3,Zz .i64 n,Zz .i64 n_1,Xp 5 b_4,Zz .i64 n_2,Yw b_5,Yw b_6,Zz .i64 n_3,Zy b_7,Zm b_8,Zm b_9,Zy b_18,Zy b_19,Zy b_20,Xp 5 b_13,Zz .i64 n_4,Zz .i64 n_5])))))) t0) t0))) (some (Sum.inr (Ex.exit 0,[Zy b,Zy b_1,Zy b_2,Xp 5 b_3,Zz .i64 n,Zz .i64 n_1,Xp 5 b_4,Zz .i64 n_2,Yw b_5,Yw b_6,Zz .i64 n_3,Zy b_7,Zm b_8,Zm b_9,Zy b_10,Zy b_11,Zy b_12,Xp 5 b_13,Zz .i64 n_4,Zz .i64 n_5]))))) [Zy m1,Zy m2,Zy m3,Xp 5 kls,Zz .i64 sz,Zz .i64 fl,Xp 5 mls,Zz .i64 sk,Yw rli,Yw rmu,Zz .i64 rkv,Zy rrl,Zm rtk,Zm rau,Zy [],Zy [],Zy [],Xp 5 kls,Zz .i64 (↑(Zx kls):Int),Zz .i64 0]) fun (r:Ex×List AV)=>cStr (Wf r) fun b r_1=>cStr r_1 fun b r_2=>cStr r_2 fun b r_3=>cSl 5 r_3 fun b r_4=>cInt .i64 r_4 fun n r_5=>cInt .i64 r_5 fun n r_6=>cSl 5 r_6 fun b r_7=>cInt .i64 r_7 fun n r_8=>cBool r_8 fun b r_9=>cBool r_9 fun b r_10=>cInt .i64 r_10 fun n r_11=>cStr r_11 fun b r_12=>cBs r_12 fun b r_13=>cBs r_13 fun b r_14=>cStr r_14 fun b r_15=>cStr r_15 fun b_1 r_16=>cStr r_16 fun b_2 r_17=>cSl 5 r_17 fun b_3 r_18=>cInt .i64 r_18 fun n r_19=>cInt .i64 r_19 fun n r_20=>onNil r_20 (exK r.1 (some (Yu [Zy b,Zy b_1,Zy b_2],[])) fun (j:Nat)=>sel (Nat.beq j 0) (some (Yu [Zy [],Zy [],Zy []],[])) none):Option (AV×Blocks))) (by kernel_rfl) ?_
  delta kT
  try dsimp only [cStr,cBs,cBool,cU8,cInt,cSl,l63]
  simp only [Ym,decide_eq_true_eq] at hpre
  obtain ⟨⟨⟨⟨⟨⟨⟨⟨l1,l2⟩,l3⟩,ka⟩,kl⟩,ma⟩,ml⟩,t1⟩,u1⟩:=hpre
  obtain ⟨ks,rfl,hks⟩:=Kerb.skeys_of ka
  obtain ⟨ms,rfl,hms⟩:=Kerb.marks_of ma
  have hkT:=Vh hks
  have hmT:=Qw hms
  simp only [Yn] at kl ml
  have t2:rtk.length≤140737488355328:=by omega
  rw [Ud,Uf]
  simp only [Yn]
  refine loop_rounds (fun i:Nat=>[Zy m1,Zy m2,Zy m3,Xp 5 (ks.map Xx),Zz Yg sz,Zz Yg fl,Xp 5 (ms.map Wv),Zz Yg sk,Yw rli,Yw rmu,Zz Yg rkv,Zy rrl,Zm rtk,Zm rau,Zy [],Zy [],Zy [],Xp 5 (ks.map Xx),Zz Yg (ks.length:Int),Zz Yg (i:Int)]) (fun i=>i≤ks.length∧Uv ks ⟨m1,m2,m3⟩ rkv=i+Uv (ks.drop i) ⟨m1,m2,m3⟩ rkv) (fun i=>ks.length-i)
   (fun r=>∃ (i:Nat) (p:Kerb.Prin),r.2=[Zy m1,Zy m2,Zy m3,Xp 5 (ks.map Xx),Zz Yg sz,Zz Yg fl,Xp 5 (ms.map Wv),Zz Yg sk,Yw rli,Yw rmu,Zz Yg rkv,Zy rrl,Zm rtk,Zm rau,Zy p.name,Zy p.inst,Zy p.realm,Xp 5 (ks.map Xx),Zz Yg (ks.length:Int),Zz Yg (i:Int)]∧Vg ⟨⟨m1,m2,m3⟩,ks,⟨sz,fl,ms⟩,sk⟩ ⟨rli,rmu,rkv,rrl,rtk,rau⟩=p∧(r.1 = .ret∨(r.1 = .exit 0∧p=Kerb.noPrin))) 0 ⟨Nat.zero_le _,by simp⟩ rfl ?_ ?_
  ·rintro i ⟨hi,hp⟩
   simp only [↓A0,A0,Yn]
   by_cases hlt:i<ks.length
   ·have hk1:(decide ((0:Int)≤(i:Int))&&decide ((i:Int)<(ks.length:Int))&&true)=true:=by simp;omega
    have hd:=Kerb.drop_row (d:=Kerb.noSKey) hlt
    have hg:(ks.map Xx).getD i AV.undef=(ks.getD i Kerb.noSKey).av:=Kerb.getD_row hlt
    obtain ⟨c,hc⟩:∃ c,ks.getD i Kerb.noSKey=c:=⟨_,rfl⟩
    rw [hc] at hd hg
    rw [sel_pos (by simp;omega)]
    simp only [hk1,Int.toNat_natCast,hg,Xx,↓A0,A0]
    have he0:Kerb.SKey.is ⟨m1,m2,m3⟩ rkv c=((c.service.name==m1&&(c.service.inst==m2&&c.service.realm==m3))&&c.kvno==rkv):=rfl
    have keep:Kerb.SKey.is ⟨m1,m2,m3⟩ rkv c=false→Uv ks ⟨m1,m2,m3⟩ rkv=(i+1)+Uv (ks.drop (i+1)) ⟨m1,m2,m3⟩ rkv:=fun he=>by
     rw [hp,hd]
     simp only [Uv,List.findIdx_cons,he,cond_false]
     omega
    rw [wrap_i64 (by omega) (by omega)]
    cases h1:(c.service.name==m1&&(c.service.inst==m2&&c.service.realm==m3))
    ·rw [sel_false]
     exact ⟨_,rfl,i+1,rfl,⟨by omega,keep (by rw [he0,h1];rfl)⟩,by dsimp only;omega⟩
    rw [sel_true]
    cases h2:(c.kvno==rkv)
    ·rw [sel_false]
     exact ⟨_,rfl,i+1,rfl,⟨by omega,keep (by rw [he0,h1,h2];rfl)⟩,by dsimp only;omega⟩
    rw [sel_true]
    simp only [t2,decide_true,↓A0,A0]
    refine ⟨_,rfl,i,(Zg rtk c.key).val.client,rfl,?_,.inl rfl⟩
    have hq:Uv ks ⟨m1,m2,m3⟩ rkv=i:=by
     rw [hp,hd]
     simp only [Uv,List.findIdx_cons,show Kerb.SKey.is ⟨m1,m2,m3⟩ rkv c=true from by rw [he0,h1,h2];rfl,cond_true]
     omega
    have hf:Vf ks ⟨m1,m2,m3⟩ rkv=(c.key,true):=by
     unfold Vf
     rw [hq,if_pos hlt,hc]
    unfold Vg
    dsimp only
    rw [hf,if_pos rfl]
   ·rw [sel_neg (by simp;omega)]
    refine ⟨_,rfl,i,Kerb.noPrin,rfl,?_,.inr ⟨rfl,rfl⟩⟩
    have hq:Uv ks ⟨m1,m2,m3⟩ rkv=ks.length:=by
     rw [hp,List.drop_eq_nil_of_le (by omega)]
     simp [Uv];omega
    have hf:Vf ks ⟨m1,m2,m3⟩ rkv=(0,false):=by
     unfold Vf
     rw [hq,if_neg (by omega)]
    unfold Vg
    dsimp only
    rw [hf,if_neg (by simp)]
  ·rintro ⟨e,l⟩ ⟨i,p,rfl,h,rfl | ⟨rfl,rfl⟩⟩
   ·simp only [↓A0,A0,h]
   ·simp only [↓A0,A0,h]
    rw [sel_pos (Nat.beq_refl _)]
    rfl
 ·cases h
set_option maxHeartbeats 4000000 in
theorem w28:Walked Tryz.prog G 28 12 sp28:=by
 refine ⟨Tryz.f28,Tryz.func28,by decide +kernel,rfl,fun xs bl r h=> ?_⟩
 unfold sp28 at h
 split at h
 ·rename_i rl els xls now li se rli rmu rkv rrl rtk rau wtm wlf wsv win cx cy cz ck2 cad ccs ctm ctc cis clf ctk cau
  obtain ⟨hpre,h2⟩:=chk_inv h;cases h2
  refine Eq.trans (b:=(let t1:List AV:=[Yu [Zz .i64 (Wn Zn),Zy (Zd (Yz Zn)),Zy (Zf (Yz Zn)),Zy (Zk (Yz Zn)),Zy (Zd (Yy Zn)),Zy (Zf (Yy Zn)),Zy (Zk (Yy Zn)),Zy (Zd (Zh Zn)),Zy (Zf (Zh Zn)),Zy (Zk (Zh Zn)),Zz .u64 (Wx Zn),Zz .u64 (Wq Zn),Zz .u64 (Ww Zn),Zm (Wg Zn),Zz .i64 (Wj Zn),Zz .i64 (Wb Zn)],Yw false];let t2:Bool:=l63 cx&&l63 cy&&l63 cz;let t3:Option (AV×Blocks):=some (Zb [Zm [],Yu [Zz .i64 0,Zy [],Zy [],Zy [],Zy [],Zy [],Zy [],Zy [],Zy [],Zy [],Zz .u64 0,Zz .u64 0,Zz .u64 0,Zm [],Zz .i64 0,Zz .i64 0],Yw false],[]);let t4:Kerb.Svc:=Kerb.svc (Ug rl (Yv Kerb.toEntry els)) (Yv Vm xls) wsv win now;let t0:Option (AV×Blocks):=Zv (chk (Xf els Kerb.isEntry&&decide (Zx els≤1000000)&&Xf xls Kerb.isCross&&decide (Zx xls≤1000000)&&l63 win) (some (Zb [Zz .u64 (Kerb.Svc.key t4),Zz .i64 (Kerb.Svc.kvno t4),Zz .i64 (Kerb.Svc.life t4),Zz .i64 (Kerb.Svc.expires t4),Zz .i64 (Kerb.Svc.err t4)],[]))) (kT fun vs=>cInt .u64 vs fun n r=>cInt .i64 r fun n_1 r=>cInt .i64 r fun n_2 r=>cInt .i64 r fun n_3 r=>cInt .i64 r fun n_4 r=>onNil r (sel (!n_4==0) (Zv (chk t2 (some (Zb (Zm (Up (Zw cx cy cz) n_4 now li)::t1),[]))) (kT fun vs=>cBs vs fun b r=>onCons r fun x r=>Yf x fun cs=>cInt .i64 cs fun n r_1=>cStr r_1 fun b_1 r_2=>cStr r_2 fun b_2 r_3=>cStr r_3 fun b_3 r_4=>cStr r_4 fun b_4 r_5=>cStr r_5 fun b_5 r_6=>cStr r_6 fun b_6 r_7=>cStr r_7 fun b_7 r_8=>cStr r_8 fun b_8 r_9=>cStr r_9 fun b_9 r_10=>cInt .u64 r_10 fun n_5 r_11=>cInt .u64 r_11 fun n_6 r_12=>cInt .u64 r_12 fun n_7 r_13=>cBs r_13 fun b_10 r_14=>cInt .i64 r_14 fun n_8 r_15=>cInt .i64 r_15 fun n_9 r_16=>onNil r_16 (cBool r fun b_11 r=>onNil r (some (Zb [Zm b,Yu [Zz .i64 n,Zy b_1,Zy b_2,Zy b_3,Zy b_4,Zy b_5,Zy b_6,Zy b_7,Zy b_8,Zy b_9,Zz .u64 n_5,Zz .u64 n_6,Zz .u64 n_7,Zm b_10,Zz .i64 n_8,Zz .i64 n_9],Yw b_11],[]))))) (Zv (chk (Kerb.isI64 n_3) (some (Zb [Zz .i64 (Vw (Kerb.tgsLife now wlf n_2 n_3 cis clf)),Yw (Wf (Kerb.tgsLife now wlf n_2 n_3 cis clf))],[]))) (kT fun vs=>cInt .i64 vs fun n_5 r=>cBool r fun b r=>onNil r (sel (!b) (Zv (chk t2 (some (Zb (Zm (Up (Zw cx cy cz) 3 now li)::t1),[]))) (kT fun vs=>cBs vs fun b r=>onCons r fun x r=>Yf x fun cs=>cInt .i64 cs fun n r_1=>cStr r_1 fun b_1 r_2=>cStr r_2 fun b_2 r_3=>cStr r_3 fun b_3 r_4=>cStr r_4 fun b_4 r_5=>cStr r_5 fun b_5 r_6=>cStr r_6 fun b_6 r_7=>cStr r_7 fun b_7 r_8=>cStr r_8 fun b_8 r_9=>cStr r_9 fun b_9 r_10=>cInt .u64 r_10 fun n_6 r_11=>cInt .u64 r_11 fun n_7 r_12=>cInt .u64 r_12 fun n_8 r_13=>cBs r_13 fun b_10 r_14=>cInt .i64 r_14 fun n_9 r_15=>cInt .i64 r_15 fun n_10 r_16=>onNil r_16 (cBool r fun b_11 r=>onNil r (some (Zb [Zm b,Yu [Zz .i64 n,Zy b_1,Zy b_2,Zy b_3,Zy b_4,Zy b_5,Zy b_6,Zy b_7,Zy b_8,Zy b_9,Zz .u64 n_6,Zz .u64 n_7,Zz .u64 n_8,Zm b_10,Zz .i64 n_9,Zz .i64 n_10],Yw b_11],[]))))) (Zv (chk (decide (0≤se)&&decide (se<18446744073709551616)) (some (Zz .i64 (Kerb.classOf se),[]))) (kI .i64 fun n_6=>sel (!n_6==2) (Zv (chk t2 (some (Zb (Zm (Up (Zw cx cy cz) 10 now li)::t1),[]))) (kT fun vs=>cBs vs fun b r=>onCons r fun x r=>Yf x fun cs=>cInt .i64 cs fun n r_1=>cStr r_1 fun b_1 r_2=>cStr r_2 fun b_2 r_3=>cStr r_3 fun b_3 r_4=>cStr r_4 fun b_4 r_5=>cStr r_5 fun b_5 r_6=>cStr r_6 fun b_6 r_7=>cStr r_7 fun b_7 r_8=>cStr r_8 fun b_8 r_9=>cStr r_9 fun b_9 r_10=>cInt .u64 r_10 fun n_7 r_11=>cInt .u64 r_11 fun n_8 r_12=>cInt .u64 r_12 fun n_9 r_13=>cBs r_13 fun b_10 r_14=>cInt .i64 r_14 fun n_10 r_15=>cInt .i64 r_15 fun n_11 r_16=>onNil r_16 (cBool r fun b_11 r=>onNil r (some (Zb [Zm b,Yu [Zz .i64 n,Zy b_1,Zy b_2,Zy b_3,Zy b_4,Zy b_5,Zy b_6,Zy b_7,Zy b_8,Zy b_9,Zz .u64 n_7,Zz .u64 n_8,Zz .u64 n_9,Zm b_10,Zz .i64 n_10,Zz .i64 n_11],Yw b_11],[]))))) (Zv (chk (t2&&l63 wsv&&l63 win&&l63 rl&&Uu se&&Uu n) (some (Zb [Yu [Zz .i64 (Wn (Yx (Yj rl (Zw cx cy cz) (Zw wsv win rl) cad li now n_5 se ck2 n n_1))),Zy (Zd (Yz (Yx (Yj rl (Zw cx cy cz) (Zw wsv win rl) cad li now n_5 se ck2 n n_1)))),Zy (Zf (Yz (Yx (Yj rl (Zw cx cy cz) (Zw wsv win rl) cad li now n_5 se ck2 n n_1)))),Zy (Zk (Yz (Yx (Yj rl (Zw cx cy cz) (Zw wsv win rl) cad li now n_5 se ck2 n n_1)))),Zy (Zd (Yy (Yx (Yj rl (Zw cx cy cz) (Zw wsv win rl) cad li now n_5 se ck2 n n_1)))),Zy (Zf (Yy (Yx (Yj rl (Zw cx cy cz) (Zw wsv win rl) cad li now n_5 se ck2 n n_1)))),Zy (Zk (Yy (Yx (Yj rl (Zw cx cy cz) (Zw wsv win rl) cad li now n_5 se ck2 n n_1)))),Zy (Zd (Zh (Yx (Yj rl (Zw cx cy cz) (Zw wsv win rl) cad li now n_5 se ck2 n n_1)))),Zy (Zf (Zh (Yx (Yj rl (Zw cx cy cz) (Zw wsv win rl) cad li now n_5 se ck2 n n_1)))),Zy (Zk (Zh (Yx (Yj rl (Zw cx cy cz) (Zw wsv win rl) cad li now n_5 se ck2 n n_1)))),Zz .u64 (Wx (Yx (Yj rl (Zw cx cy cz) (Zw wsv win rl) cad li now n_5 se ck2 n n_1))),Zz .u64 (Wq (Yx (Yj rl (Zw cx cy cz) (Zw wsv win rl) cad li now n_5 se ck2 n n_1))),Zz .u64 (Ww (Yx (Yj rl (Zw cx cy cz) (Zw wsv win rl) cad li now n_5 se ck2 n n_1))),Zm (Wg (Yx (Yj rl (Zw cx cy cz) (Zw wsv win rl) cad li now n_5 se ck2 n n_1))),Zz .i64 (Wj (Yx (Yj rl (Zw cx cy cz) (Zw wsv win rl) cad li now n_5 se ck2 n n_1))),Zz .i64 (Wb (Yx (Yj rl (Zw cx cy cz) (Zw wsv win rl) cad li now n_5 se ck2 n n_1)))],Yu [Zz .u64 (Kerb.ReplyPart.session (Xq (Yj rl (Zw cx cy cz) (Zw wsv win rl) cad li now n_5 se ck2 n n_1))),Zy (Zd (Ub (Xq (Yj rl (Zw cx cy cz) (Zw wsv win rl) cad li now n_5 se ck2 n n_1)))),Zy (Zf (Ub (Xq (Yj rl (Zw cx cy cz) (Zw wsv win rl) cad li now n_5 se ck2 n n_1)))),Zy (Zk (Ub (Xq (Yj rl (Zw cx cy cz) (Zw wsv win rl) cad li now n_5 se ck2 n n_1)))),Zz .i64 (Kerb.ReplyPart.life (Xq (Yj rl (Zw cx cy cz) (Zw wsv win rl) cad li now n_5 se ck2 n n_1))),Zz .i64 (Kerb.ReplyPart.kvno (Xq (Yj rl (Zw cx cy cz) (Zw wsv win rl) cad li now n_5 se ck2 n n_1))),Zm (Kerb.ReplyPart.ticket (Xq (Yj rl (Zw cx cy cz) (Zw wsv win rl) cad li now n_5 se ck2 n n_1))),Zz .i64 (Kerb.ReplyPart.time (Xq (Yj rl (Zw cx cy cz) (Zw wsv win rl) cad li now n_5 se ck2 n n_1)))],Zz .i64 (Kerb.Granted.err (Yj rl (Zw cx cy cz) (Zw wsv win rl) cad li now n_5 se ck2 n n_1))],[]))) (kT fun vs=>onCons vs fun x r=>Yf x fun cs=>cInt .i64 cs fun n r_1=>cStr r_1 fun b r_2=>cStr r_2 fun b_1 r_3=>cStr r_3 fun b_2 r_4=>cStr r_4 fun b_3 r_5=>cStr r_5 fun b_4 r_6=>cStr r_6 fun b_5 r_7=>cStr r_7 fun b_6 r_8=>cStr r_8 fun b_7 r_9=>cStr r_9 fun b_8 r_10=>cInt .u64 r_10 fun n r_11=>cInt .u64 r_11 fun n_7 r_12=>cInt .u64 r_12 fun n_8 r_13=>cBs r_13 fun b_9 r_14=>cInt .i64 r_14 fun n_9 r_15=>cInt .i64 r_15 fun n_10 r_16=>onNil r_16 (onCons r fun x r=>Yf x fun cs=>cInt .u64 cs fun n_11 r_17=>cStr r_17 fun b_10 r_18=>cStr r_18 fun b_11 r_19=>cStr r_19 fun b_12 r_20=>cInt .i64 r_20 fun n_12 r_21=>cInt .i64 r_21 fun n_13 r_22=>cBs r_22 fun b_13 r_23=>cInt .i64 r_23 fun n_14 r_24=>onNil r_24 (cInt .i64 r fun n_15 r=>onNil r (sel (!n_15==0) t3 (Zv (chk (t2&&l63 b_10&&l63 b_11&&l63 b_12&&Uu n_11&&Uu ck2) (some (Zb [Zm (Vq (Kerb.sealReply (Kerb.KdcReply.mk li (Zw cx cy cz) wtm 0 0 []) (Vz n_11 (Zw b_10 b_11 b_12) n_12 n_13 b_13 n_14) ck2)),Zz .i64 (Vj (Kerb.sealReply (Kerb.KdcReply.mk li (Zw cx cy cz) wtm 0 0 []) (Vz n_11 (Zw b_10 b_11 b_12) n_12 n_13 b_13 n_14) ck2))],[]))) (kT fun vs=>cBs vs fun b_14 r=>cInt .i64 r fun n_16 r=>onNil r (sel (!n_16==0) t3 (some (Zb [Zm b_14,Yu [Zz .i64 2,Zy b,Zy b_1,Zy b_2,Zy b_3,Zy b_4,Zy b_5,Zy b_6,Zy b_7,Zy b_8,Zz .u64 n,Zz .u64 n_7,Zz .u64 ck2,Zm b_9,Zz .i64 n_9,Zz .i64 n_10],Yw true],[])))))))))))))))));sel (!cz==rrl) (Zv (chk t2 (some (Zb (Zm (Up (Zw cx cy cz) 36 now li)::t1),[]))) (kT fun vs=>cBs vs fun b r=>onCons r fun x r=>Yf x fun cs=>cInt .i64 cs fun n r_1=>cStr r_1 fun b_1 r_2=>cStr r_2 fun b_2 r_3=>cStr r_3 fun b_3 r_4=>cStr r_4 fun b_4 r_5=>cStr r_5 fun b_5 r_6=>cStr r_6 fun b_6 r_7=>cStr r_7 fun b_7 r_8=>cStr r_8 fun b_8 r_9=>cStr r_9 fun b_9 r_10=>cInt .u64 r_10 fun n_1 r_11=>cInt .u64 r_11 fun n_2 r_12=>cInt .u64 r_12 fun n_3 r_13=>cBs r_13 fun b_10 r_14=>cInt .i64 r_14 fun n_4 r_15=>cInt .i64 r_15 fun n_5 r_16=>onNil r_16 (cBool r fun b_11 r=>onNil r (some (Zb [Zm b,Yu [Zz .i64 n,Zy b_1,Zy b_2,Zy b_3,Zy b_4,Zy b_5,Zy b_6,Zy b_7,Zy b_8,Zy b_9,Zz .u64 n_1,Zz .u64 n_2,Zz .u64 n_3,Zm b_10,Zz .i64 n_4,Zz .i64 n_5],Yw b_11],[]))))) (sel (wsv==Kerb.krbtgt) (sel (!cz==rl) (Zv (chk t2 (some (Zb (Zm (Up (Zw cx cy cz) 8 now li)::t1),[]))) (kT fun vs=>cBs vs fun b r=>onCons r fun x r=>Yf x fun cs=>cInt .i64 cs fun n r_1=>cStr r_1 fun b_1 r_2=>cStr r_2 fun b_2 r_3=>cStr r_3 fun b_3 r_4=>cStr r_4 fun b_4 r_5=>cStr r_5 fun b_5 r_6=>cStr r_6 fun b_6 r_7=>cStr r_7 fun b_7 r_8=>cStr r_8 fun b_8 r_9=>cStr r_9 fun b_9 r_10=>cInt .u64 r_10 fun n_1 r_11=>cInt .u64 r_11 fun n_2 r_12=>cInt .u64 r_12 fun n_3 r_13=>cBs r_13 fun b_10 r_14=>cInt .i64 r_14 fun n_4 r_15=>cInt .i64 r_15 fun n_5 r_16=>onNil r_16 (cBool r fun b_11 r=>onNil r (some (Zb [Zm b,Yu [Zz .i64 n,Zy b_1,Zy b_2,Zy b_3,Zy b_4,Zy b_5,Zy b_6,Zy b_7,Zy b_8,Zy b_9,Zz .u64 n_1,Zz .u64 n_2,Zz .u64 n_3,Zm b_10,Zz .i64 n_4,Zz .i64 n_5],Yw b_11],[]))))) t0) t0):Option (AV×Blocks))) (by kernel_rfl) ?_
  delta kT kI
  try dsimp only [cStr,cBs,cBool,cU8,cInt,cSl,l63]
  simp only [Ym,decide_eq_true_eq] at hpre
  obtain ⟨⟨⟨⟨⟨⟨⟨⟨⟨⟨⟨ea,el⟩,xa⟩,xl⟩,lr⟩,n4⟩,n5⟩,a1⟩,a2⟩,a3⟩,hse⟩,hck⟩:=hpre
  have hse2:=Kerb.isU64_iff.1 hse
  have hck2:=Kerb.isU64_iff.1 hck
  obtain ⟨es,rfl,hok⟩:=Kerb.ents_of ea
  obtain ⟨cs,rfl,hcs⟩:=Kerb.cross_okof xa
  simp only [Yn] at el xl
  obtain ⟨D,hD⟩:∃ D,Ug rl es=D:=⟨_,rfl⟩
  have hDr:D.realm=rl:=by rw [← hD]
  have hDe:D.entries=es:=by rw [← hD]
  obtain ⟨v1,v2,v3,v4⟩:=Kerb.svc_okX (d:=D) (cs:=cs) (n:=wsv) (i:=win) (now:=now) (by rw [hDe];exact hok) hcs
  obtain ⟨V,hV⟩:∃ V,Kerb.svc D cs wsv win now=V:=⟨_,rfl⟩
  rw [hV] at v1 v2 v3 v4
  have gp:=fun lf:Int=>Kerb.grant_part (realm:=rl) (client:=⟨cx,cy,cz⟩) (service:=⟨wsv,win,rl⟩) (address:=cad) (little:=li) (now:=now) (life:=lf) (session:=se) (sealer:=ck2) (target:=V.key) (kvno:=V.kvno) n4 n5 lr hse
  have gp1:=fun lf=>(gp lf).1
  have gp2:=fun lf=>(gp lf).2.1
  have gp3:=fun lf=>(gp lf).2.2.1
  have gp4:=fun lf=>(gp lf).2.2.2
  have gPe:∀ p:Kerb.ReplyPart,Vz p.session ⟨p.service.name,p.service.inst,p.service.realm⟩ p.life p.kvno p.ticket p.time=p:=fun _=>rfl
  unfold Kerb.tgsServe Kerb.tgsGive
  dsimp only
  simp (config:={maxSteps:=10000000}) only [Kerb.map_toEntry,Kerb.map_toCross,Yn,hD,hV,hDr,ea,el,xa,xl,lr,n4,n5,a1,a2,a3,hse,hse2,hck,v1,v4,gp1,gp2,gp3,gp4,gPe,decide_true,Xg,Bool.true_and,Bool.and_true,↓sInt,↓sU8,↓sBool,↓sStr,↓sBs,↓sSl,↓sAgg,↓sTup,↓sCons,↓sNil,↓sNilB,↓sChk,↓sChkBind,↓sSome,↓sOwnL,↓sConsB,↓sOwnB]
  by_cases g1:cz=rrl
  case neg=>rw [sel_pos (by simpa using g1),if_pos g1]
  rw [sel_neg (by simpa using g1),if_neg (by simpa using g1)]
  have hs:∀ a b:Option (AV×Blocks),sel (wsv==Kerb.krbtgt) (sel (!cz==rl) a b) b=if wsv=Kerb.krbtgt∧cz≠rl then a else b:=by
   intro a b
   by_cases q1:wsv=Kerb.krbtgt
   ·rw [sel_pos (by simpa using q1)]
    by_cases q2:cz=rl
    ·rw [sel_neg (by simpa using q2),if_neg (fun h=>h.2 q2)]
    ·rw [sel_pos (by simpa using q2),if_pos ⟨q1,q2⟩]
   ·rw [sel_neg (by simpa using q1),if_neg (fun h=>q1 h.1)]
  rw [hs]
  by_cases g2:wsv=Kerb.krbtgt∧cz≠rl
  ·rw [if_pos g2,if_pos g2]
  rw [if_neg g2,if_neg g2]
  by_cases g3:V.err=0
  case neg=>rw [sel_pos (by simpa using g3),if_pos g3]
  rw [sel_neg (by simpa using g3),if_neg (by simpa using g3)]
  obtain ⟨L,hL⟩:∃ L,Kerb.tgsLife now wlf V.life V.expires cis clf=L:=⟨_,rfl⟩
  rw [hL]
  cases g5:L.2
  ·rfl
  rw [Qd,sel_false,if_neg (by simp)]
  by_cases g6:Kerb.classOf se=2
  case neg=>rw [sel_pos (by simpa using g6),if_pos g6]
  rw [sel_neg (by simpa using g6),if_neg (by simpa using g6)]
  obtain ⟨GG,hGG⟩:∃ GG,Yj rl ⟨cx,cy,cz⟩ ⟨wsv,win,rl⟩ cad li now L.1 se ck2 V.key V.kvno=GG:=⟨_,rfl⟩
  rw [hGG]
  by_cases g7:GG.err=0
  case neg=>rw [sel_pos (by simpa using g7),if_pos g7];rfl
  rw [sel_neg (by simpa using g7),if_neg (by simpa using g7)]
  by_cases g8:(Kerb.sealReply ⟨li,⟨cx,cy,cz⟩,wtm,0,0,[]⟩ GG.part ck2).err=0
  case neg=>rw [sel_pos (by simpa using g8),if_pos g8];rfl
  rw [sel_neg (by simpa using g8),if_neg (by simpa using g8)]
 ·cases h
theorem w52:Walked Tryz.prog G 52 12 sp52:=by
 refine ⟨Tryz.f52,Tryz.func52,by decide +kernel,rfl,fun xs bl r h=> ?_⟩
 unfold sp52 at h
 split at h
 ·rename_i m1 m2 m3 kls sz fl mls sk rli rmu rkv rrl rtk rau
  obtain ⟨hpre,h2⟩:=chk_inv h;cases h2
  refine Eq.trans (b:=(let t1:AV:=Yu [Yw false,Zy [],Zy [],Zy [],Zz .i64 0,Zz .u64 0,Zz .i64 0,Zz .i64 0,Zy [],Zy []];let t2:AV:=Yu [Zy [],Zy [],Zy [],Zz .i64 0,Zz .i64 0,Zz .i64 0];let t0:Option (AV×Blocks):=some (Zb [t1,t2,Zz .i64 35],[]);sel (!rrl==m3) t0 (Zv (chk (Xf kls Kerb.isSKey&&decide (Zx kls≤1000000)) (some (Zb [Zz .u64 (Vw (Vf (Yv Vd kls) (Zw m1 m2 m3) rkv)),Yw (Wf (Vf (Yv Vd kls) (Zw m1 m2 m3) rkv))],[]))) (kT fun vs=>cInt .u64 vs fun n r=>cBool r fun b r=>onNil r (sel (!b) t0 (Zv (chk (decide (Zx rtk≤140737488355328)) (some (Zb [Yu [Yw (Uq (Zq (Zg rtk n))),Zy (Zd (Yk (Zq (Zg rtk n)))),Zy (Zf (Yk (Zq (Zg rtk n)))),Zy (Zk (Yk (Zq (Zg rtk n)))),Zz .i64 (Uw (Zq (Zg rtk n))),Zz .u64 (Uy (Zq (Zg rtk n))),Zz .i64 (Um (Zq (Zg rtk n))),Zz .i64 (Uj (Zq (Zg rtk n))),Zy (Ux (Zq (Zg rtk n))),Zy (Uh (Zq (Zg rtk n)))],Zz .i64 (Vk (Zg rtk n))],[]))) (kT fun vs=>onCons vs fun x r=>Yf x fun cs=>cBool cs fun b r_1=>cStr r_1 fun b_1 r_2=>cStr r_2 fun b_2 r_3=>cStr r_3 fun b_3 r_4=>cInt .i64 r_4 fun n r_5=>cInt .u64 r_5 fun n_1 r_6=>cInt .i64 r_6 fun n_2 r_7=>cInt .i64 r_7 fun n_3 r_8=>cStr r_8 fun b_4 r_9=>cStr r_9 fun b_5 r_10=>onNil r_10 (cInt .i64 r fun n_4 r=>onNil r (sel (n_4==7) (some (Zb [t1,t2,Zz .i64 7],[])) (sel (!n_4==0) (some (Zb [t1,t2,Zz .i64 31],[])) (sel (!(b_4==m1&&(b_5==m2&&m3==m3))) t0 (Zv (chk (decide (Zx rau≤140737488355328)) (some (Zb [Yu [Zy (Zd (Xw (Zq (Wy rau rli n_1)))),Zy (Zf (Xw (Zq (Wy rau rli n_1)))),Zy (Zk (Xw (Zq (Wy rau rli n_1)))),Zz .i64 (Kerb.Auth.checksum (Zq (Wy rau rli n_1))),Zz .i64 (Kerb.Auth.tick (Zq (Wy rau rli n_1))),Zz .i64 (Kerb.Auth.time (Zq (Wy rau rli n_1)))],Zz .i64 (Vk (Wy rau rli n_1))],[]))) (kT fun vs=>onCons vs fun x r=>Yf x fun cs=>cStr cs fun b_6 r_11=>cStr r_11 fun b_7 r_12=>cStr r_12 fun b_8 r_13=>cInt .i64 r_13 fun n_5 r_14=>cInt .i64 r_14 fun n_6 r_15=>cInt .i64 r_15 fun n_7 r_16=>onNil r_16 (cInt .i64 r fun n_8 r=>onNil r (sel (!n_8==0) (some (Zb [t1,t2,Zz .i64 31],[])) (some (Zb [Yu [Yw b,Zy b_1,Zy b_2,Zy b_3,Zz .i64 n,Zz .u64 n_1,Zz .i64 n_2,Zz .i64 n_3,Zy b_4,Zy b_5],Yu [Zy b_6,Zy b_7,Zy b_8,Zz .i64 n_5,Zz .i64 n_6,Zz .i64 n_7],Zz .i64 0],[]))))))))))))))):Option (AV×Blocks))) (by kernel_rfl) ?_
  delta kT
  try dsimp only [cStr,cBs,cBool,cU8,cInt,cSl,l63]
  simp only [Ym,decide_eq_true_eq] at hpre
  obtain ⟨⟨⟨⟨⟨⟨⟨⟨l1,l2⟩,l3⟩,ka⟩,kl⟩,ma⟩,ml⟩,t1⟩,u1⟩:=hpre
  obtain ⟨ks,rfl,hks⟩:=Kerb.skeys_of ka
  obtain ⟨ms,rfl,hms⟩:=Kerb.marks_of ma
  have hkT:=Vh hks
  have hmT:=Qw hms
  simp only [Yn] at kl ml
  have t2:rtk.length≤140737488355328:=by omega
  have u2:rau.length≤140737488355328:=by omega
  simp only [Ud,Uf,Yn,hkT,kl,t2,u2,decide_true,Xg,↓A0,A0]
  unfold Xk
  by_cases g1:rrl=m3
  case neg=>rw [sel_pos (by simpa using g1),if_pos (by simpa using g1)];rfl
  rw [sel_neg (by simpa using g1),if_neg (by simpa using g1)]
  dsimp only
  cases g2:(Vf ks ⟨m1,m2,m3⟩ rkv).2
  ·rfl
  rw [Qd,sel_false,if_neg (by simp)]
  generalize (Vf ks ⟨m1,m2,m3⟩ rkv).1=K
  by_cases g3:(Zg rtk K).err=7
  ·rw [sel_pos (by simpa using g3),if_pos g3];rfl
  rw [sel_neg (by simpa using g3),if_neg g3]
  by_cases g4:(Zg rtk K).err=0
  case neg=>rw [sel_pos (by simpa using g4),if_pos g4];rfl
  rw [sel_neg (by simpa using g4),if_neg (by simpa using g4)]
  have g5:((Zg rtk K).val.service==m1&&((Zg rtk K).val.inst==m2&&m3==m3))=(Kerb.ticketFor (Zg rtk K).val m3).eqb ⟨m1,m2,m3⟩:=rfl
  rw [g5]
  cases g6:(Kerb.ticketFor (Zg rtk K).val m3).eqb ⟨m1,m2,m3⟩
  ·rfl
  rw [Qd,sel_false,if_neg (by simp)]
  by_cases g7:(Wy rau rli (Zg rtk K).val.session).err=0
  case neg=>rw [sel_pos (by simpa using g7),if_pos g7];rfl
  rw [sel_neg (by simpa using g7),if_neg (by simpa using g7)]
 ·cases h
theorem w25:Walked Tryz.prog G 25 13 sp25:=by
 refine ⟨Tryz.f25,Tryz.func25,by decide +kernel,rfl,fun xs bl r h=> ?_⟩
 unfold sp25 at h
 split at h
 ·rename_i m1 m2 m3 kls sz fl mls sk rli rmu rkv rrl rtk rau src now
  obtain ⟨hpre,h2⟩:=chk_inv h;cases h2
  refine Eq.trans (b:=(let t0:AV:=Yu [Zy [],Zy [],Zy [],Zz .u64 0,Zz .i64 0,Zz .i64 0,Zz .i64 0,Zz .i64 0,Zz .i64 0,Zz .i64 0,Zm [],Zm []];Zv (chk (decide (Zx kls≤1000000)&&decide (Zx mls≤1000000)) (some (Yu [Zy m1,Zy m2,Zy m3,Xp 5 kls,Zz .i64 sz,Zz .i64 fl,Xp 5 mls,Zz .i64 sk],[]))) (kA fun cs=>cStr cs fun b r=>cStr r fun b_1 r=>cStr r fun b_2 r=>let t1:Bool:=l63 b&&l63 b_1&&l63 b_2;cSl 5 r fun b_3 r=>cInt .i64 r fun n r=>cInt .i64 r fun n_1 r=>cSl 5 r fun b_4 r=>let t2:Bool:=t1&&Xf b_3 Kerb.isSKey&&decide (Zx b_3≤1000000)&&Xf b_4 Kerb.isMark&&decide (Zx b_4≤1000000);cInt .i64 r fun n_2 r=>let t4:AV:=Yu [Zy b,Zy b_1,Zy b_2,Xp 5 b_3,Zz .i64 n,Zz .i64 n_1,Xp 5 b_4,Zz .i64 n_2];let t6:Kerb.Opened:=Xk (Xv (Zw b b_1 b_2) (Yv Vd b_3) (Wz n n_1 (Yv Uk b_4)) n_2) (Wu rli rmu rkv rrl rtk rau);let t3:Kerb.Ticket:=Kerb.Opened.ticket t6;let t5:Kerb.Auth:=Kerb.Opened.auth t6;onNil r (Zv (chk t2 (some (Zz .i64 (Kerb.Server.err (Xv (Zw b b_1 b_2) (Yv Vd b_3) (Wz n n_1 (Yv Uk b_4)) n_2)),[]))) (kI .i64 fun n_3=>sel (!n_3==0) (some (Zb [t4,t0,Zz .i64 108],[])) (Zv (chk (t2&&decide (Zx rtk≤1000000)&&decide (Zx rau≤1000000)) (some (Zb [Yu [Yw (Uq t3),Zy (Zd (Yk t3)),Zy (Zf (Yk t3)),Zy (Zk (Yk t3)),Zz .i64 (Uw t3),Zz .u64 (Uy t3),Zz .i64 (Um t3),Zz .i64 (Uj t3),Zy (Ux t3),Zy (Uh t3)],Yu [Zy (Zd (Xw t5)),Zy (Zf (Xw t5)),Zy (Zk (Xw t5)),Zz .i64 (Kerb.Auth.checksum t5),Zz .i64 (Kerb.Auth.tick t5),Zz .i64 (Kerb.Auth.time t5)],Zz .i64 (Kerb.Opened.err t6)],[]))) (kT fun vs=>onCons vs fun x r=>Yf x fun cs=>cBool cs fun b_5 r_1=>cStr r_1 fun b_6 r_2=>cStr r_2 fun b_7 r_3=>cStr r_3 fun b_8 r_4=>cInt .i64 r_4 fun n_4 r_5=>cInt .u64 r_5 fun n_5 r_6=>cInt .i64 r_6 fun n_6 r_7=>cInt .i64 r_7 fun n_7 r_8=>cStr r_8 fun b_9 r_9=>cStr r_9 fun b_10 r_10=>onNil r_10 (onCons r fun x r=>Yf x fun cs=>cStr cs fun b_11 r_11=>cStr r_11 fun b_12 r_12=>cStr r_12 fun b_13 r_13=>cInt .i64 r_13 fun n_8 r_14=>cInt .i64 r_14 fun n_9 r_15=>cInt .i64 r_15 fun n_10 r_16=>let t8:Int:=Kerb.judge (Wk b_5 (Zw b_6 b_7 b_8) n_4 n_5 n_6 n_7 b_9 b_10) (Qj (Zw b_11 b_12 b_13) n_8 n_9 n_10) src now n_2;let t9:Kerb.Dec Kerb.RCache:=Kerb.addMark (Wz n n_1 (Yv Uk b_4)) (Kerb.Mark.mk (Zw b_11 b_12 b_13) n_10 n_9) now n_2;let t7:Kerb.RCache:=Zq t9;onNil r_16 (cInt .i64 r fun n r=>onNil r (sel (!n==0) (some (Zb [t4,t0,Zz .i64 n],[])) (sel (!t8==0) (some (Zb [t4,t0,Zz .i64 t8],[])) (Zv (chk (Xf b_4 Kerb.isMark&&decide (Zx b_4≤1000000)&&l63 b_11&&l63 b_12&&l63 b_13) (some (Zb [Yu [Zz .i64 (Vb t7),Zz .i64 (Vx t7),Xp 5 (Yv Wv (Xb t7))],Zz .i64 (Vk t9)],[]))) (kT fun vs=>onCons vs fun x r=>Yf x fun cs=>cInt .i64 cs fun n r_17=>cInt .i64 r_17 fun n_11 r_18=>cSl 5 r_18 fun b_14 r_19=>onNil r_19 (cInt .i64 r fun n_12 r=>onNil r (sel (!n_12==0) (some (Zb [t4,t0,Zz .i64 n_12],[])) (Zv (chk (decide (Zx rtk≤140737488355328)) (some (Zm rtk,[]))) (kB fun b_15=>Zv (chk (decide (Zx rau≤140737488355328)) (some (Zm rau,[]))) (kB fun b_16=>some (Zb [Yu [Zy b,Zy b_1,Zy b_2,Xp 5 b_3,Zz .i64 n,Zz .i64 n_11,Xp 5 b_14,Zz .i64 n_2],Yu [Zy b_6,Zy b_7,Zy b_8,Zz .u64 n_5,Zz .i64 n_4,Zz .i64 n_8,Zz .i64 n_10,Zz .i64 n_9,Zz .i64 n_7,Zz .i64 n_6,Zm b_15,Zm b_16],Zz .i64 0],[]))))))))))))))))):Option (AV×Blocks))) (by kernel_rfl) ?_
  delta kT kA kB kI
  try dsimp only [cStr,cBs,cBool,cU8,cInt,cSl,l63]
  simp only [Ym,decide_eq_true_eq] at hpre
  obtain ⟨⟨⟨⟨⟨⟨⟨⟨l1,l2⟩,l3⟩,ka⟩,kl⟩,ma⟩,ml⟩,t1⟩,u1⟩:=hpre
  obtain ⟨ks,rfl,hks⟩:=Kerb.skeys_of ka
  obtain ⟨ms,rfl,hms⟩:=Kerb.marks_of ma
  have hkT:=Vh hks
  have hmT:=Qw hms
  simp only [Yn] at kl ml
  have t2:rtk.length≤140737488355328:=by omega
  have u2:rau.length≤140737488355328:=by omega
  obtain ⟨S,hS⟩:∃ S,Xv ⟨m1,m2,m3⟩ ks ⟨sz,fl,ms⟩ sk=S:=⟨_,rfl⟩
  obtain ⟨R,hR⟩:∃ R,Wu rli rmu rkv rrl rtk rau=R:=⟨_,rfl⟩
  have hb:=(Kerb.openReq_bd S R).1
  have e1:=hb.1
  have e2:=hb.2.1
  have e3:=hb.2.2
  simp only [Ud,Uf,Yn,hkT,hmT,kl,ml,l1,l2,l3,t1,u1,t2,u2,decide_true,Xg,hS,hR,e1,e2,e3,↓sInt,↓sU8,↓sBool,↓sStr,↓sBs,↓sSl,↓sAgg,↓sTup,↓sCons,↓sNil,↓sNilB,↓sChk,↓sChkBind,↓sSome]
  unfold Kerb.verify
  by_cases g1:S.err=0
  case neg=>rw [sel_pos (by simpa using g1),if_pos g1,← hS];rfl
  rw [sel_neg (by simpa using g1),if_neg (by simpa using g1)]
  by_cases g2:(Xk S R).err=0
  case neg=>rw [sel_pos (by simpa using g2),if_pos g2,← hS];rfl
  rw [sel_neg (by simpa using g2),if_neg (by simpa using g2)]
  have h0:sk=S.skew:=by rw [← hS]
  have h1:Wz sz fl ms=S.replay:=by rw [← hS]
  rw [h0,h1]
  by_cases g3:Kerb.judge (Xk S R).ticket (Xk S R).auth src now S.skew=0
  case neg=>rw [sel_pos (by simpa using g3),if_pos g3,← hS];rfl
  rw [sel_neg (by simpa using g3),if_neg (by simpa using g3)]
  rw [show Kerb.Mark.mk ⟨(Xk S R).auth.client.name,(Xk S R).auth.client.inst,(Xk S R).auth.client.realm⟩ (Xk S R).auth.time (Xk S R).auth.tick=Kerb.markOf (Xk S R).auth from rfl]
  by_cases g4:(Kerb.addMark S.replay (Kerb.markOf (Xk S R).auth) now S.skew).err=0
  case neg=>rw [sel_pos (by simpa using g4),if_pos g4,← hS];rfl
  rw [sel_neg (by simpa using g4),if_neg (by simpa using g4),← hS,← hR]
 ·cases h
set_option maxHeartbeats 4000000 in
theorem w9:Walked Tryz.prog G 9 14 sp9:=by
 refine ⟨Tryz.f9,Tryz.func9,by decide +kernel,rfl,fun xs bl r h=> ?_⟩
 unfold sp9 at h
 split at h
 ·rename_i rl els xls m1 m2 m3 kls sz fl mls sk now ad li se msg
  obtain ⟨hpre,h2⟩:=chk_inv h;cases h2
  refine Eq.trans (b:=(let t1:List UInt8:=[(107:UInt8),(114:UInt8),(98:UInt8),(116:UInt8),(103:UInt8),(116:UInt8)];let t2:List AV:=[Yu [Zz .i64 (Wn Zn),Zy (Zd (Yz Zn)),Zy (Zf (Yz Zn)),Zy (Zk (Yz Zn)),Zy (Zd (Yy Zn)),Zy (Zf (Yy Zn)),Zy (Zk (Yy Zn)),Zy (Zd (Zh Zn)),Zy (Zf (Zh Zn)),Zy (Zk (Zh Zn)),Zz .u64 (Wx Zn),Zz .u64 (Wq Zn),Zz .u64 (Ww Zn),Zm (Wg Zn),Zz .i64 (Wj Zn),Zz .i64 (Wb Zn)],Yw false];let t3:List AV:=[Yu [Zz .i64 0,Zy [],Zy [],Zy [],Zy [],Zy [],Zy [],Zy [],Zy [],Zy [],Zz .u64 0,Zz .u64 0,Zz .u64 0,Zm [],Zz .i64 0,Zz .i64 0],Yw false];let t4:Bool:=Xf els Kerb.isEntry&&decide (Zx els≤1000000)&&Xf xls Kerb.isCross&&decide (Zx xls≤1000000)&&l63 rl;let t0:List AV:=Zm []::t3;Zv (chk (decide (Zx kls≤1000000)) (some (AV.ownL kls,[]))) fun (r:AV×Blocks)=>onNilB (Wf r) (AV.onOwnL (Vw r) fun l=>Zv (chk (decide (Zx mls≤1000000)) (some (AV.ownL mls,[]))) fun (r:AV×Blocks)=>onNilB (Wf r) (AV.onOwnL (Vw r) fun l_1=>let t6:AV:=Yu [Zy m1,Zy m2,Zy m3,Xp 5 l,Zz .i64 sz,Zz .i64 fl,Xp 5 l_1,Zz .i64 sk];let t5:Option (AV×Blocks):=some (Zb (t6::t0),[]);sel (decide (now<0)) t5 (sel (decide (now>4294967295)) t5 (sel (decide (ad<0)) t5 (sel (decide (ad>4294967295)) t5 (Zv (chk (decide (Zx msg≤140737488355328)) (some (Zb [Yu [Yw (Kerb.ApRequest.little (Xh (Zq (Yb msg)))),Yw (Kerb.ApRequest.mutual_ (Xh (Zq (Yb msg)))),Zz .i64 (Kerb.ApRequest.kvno (Xh (Zq (Yb msg)))),Zy (Kerb.ApRequest.realm (Xh (Zq (Yb msg)))),Zm (Kerb.ApRequest.ticket (Xh (Zq (Yb msg)))),Zm (Kerb.ApRequest.auth (Xh (Zq (Yb msg)))),Zz .i64 (Kerb.TgsRequest.time (Zq (Yb msg))),Zz .i64 (Kerb.TgsRequest.life (Zq (Yb msg))),Zy (Kerb.TgsRequest.service (Zq (Yb msg))),Zy (Kerb.TgsRequest.inst (Zq (Yb msg)))],Zz .i64 (Vk (Yb msg))],[]))) (kT fun vs=>onCons vs fun x r=>Yf x fun cs=>cBool cs fun b r_1=>cBool r_1 fun b_1 r_2=>cInt .i64 r_2 fun n r_3=>cStr r_3 fun b_2 r_4=>let t7:Bool:=l63 rl&&l63 b_2;cBs r_4 fun b_3 r_5=>cBs r_5 fun b_4 r_6=>cInt .i64 r_6 fun n_1 r_7=>cInt .i64 r_7 fun n_2 r_8=>cStr r_8 fun b_5 r_9=>cStr r_9 fun b_6 r_10=>let t8:Kerb.TgsRequest:=Kerb.TgsRequest.mk (Wu b b_1 n b_2 b_3 b_4) n_1 n_2 b_5 b_6;onNil r_10 (cInt .i64 r fun n_3 r=>onNil r (sel (!n_3==0) t5 (Zv (chk t4 (some (Xp 5 (Yv Xx (Kerb.grantKeys (Ug rl (Yv Kerb.toEntry els)) (Yv Vm xls))),[]))) fun (r:AV×Blocks)=>onNilB (Wf r) (AV.onSl 5 (Vw r) fun b_7=>let t12:Kerb.Verified:=Kerb.verify (Xv (Zw t1 rl b_2) (Yv Vd b_7) (Wz sz fl (Yv Uk l_1)) sk) (Wu b b_1 n b_2 b_3 b_4) ad now;let t13:Kerb.Prin:=Vg (Xv (Zw t1 rl b_2) (Yv Vd b_7) (Wz sz fl (Yv Uk l_1)) sk) (Wu b b_1 n b_2 b_3 b_4);let t14:Bool:=t7&&Xf b_7 Kerb.isSKey&&decide (Zx b_7≤1000000)&&Xf l_1 Kerb.isMark&&decide (Zx l_1≤1000000)&&decide (Zx b_3≤1000000)&&decide (Zx b_4≤1000000);let t9:Option (AV×Blocks):=chk t14 (some (Yu [Zy (Zd t13),Zy (Zf t13),Zy (Zk t13)],[]));let t10:Kerb.Accepted:=Kerb.Verified.a t12;let t11:Qv:=Kerb.Verified.s t12;Zv (chk t14 (some (Zb [Yu [Zy (Zd (Yp t11)),Zy (Zf (Yp t11)),Zy (Zk (Yp t11)),Xp 5 (Yv Xx (Wp t11)),Zz .i64 (Vb (Yq t11)),Zz .i64 (Vx (Yq t11)),Xp 5 (Yv Wv (Xb (Yq t11))),Zz .i64 (Qz t11)],Yu [Zy (Zd (Qk t10)),Zy (Zf (Qk t10)),Zy (Zk (Qk t10)),Zz .u64 (Kerb.Accepted.session t10),Zz .i64 (Kerb.Accepted.address t10),Zz .i64 (Kerb.Accepted.checksum t10),Zz .i64 (Kerb.Accepted.time t10),Zz .i64 (Kerb.Accepted.tick t10),Zz .i64 (Kerb.Accepted.issued t10),Zz .i64 (Kerb.Accepted.life t10),Zm (Kerb.Accepted.ticket t10),Zm (Kerb.Accepted.auth t10)],Zz .i64 (Kerb.Verified.err t12)],[]))) (kT fun vs=>onCons vs fun x r=>Yf x fun cs=>cStr cs fun b r_11=>cStr r_11 fun b r_12=>cStr r_12 fun b r_13=>cSl 5 r_13 fun b r_14=>cInt .i64 r_14 fun n r_15=>cInt .i64 r_15 fun n_4 r_16=>cSl 5 r_16 fun b r_17=>cInt .i64 r_17 fun n_5 r_18=>onNil r_18 (onCons r fun x r=>Yf x fun cs=>cStr cs fun b_8 r_19=>cStr r_19 fun b_9 r_20=>cStr r_20 fun b_10 r_21=>cInt .u64 r_21 fun n_6 r_22=>cInt .i64 r_22 fun n_7 r_23=>cInt .i64 r_23 fun n_8 r_24=>cInt .i64 r_24 fun n_9 r_25=>cInt .i64 r_25 fun n_10 r_26=>cInt .i64 r_26 fun n_11 r_27=>cInt .i64 r_27 fun n_12 r_28=>cBs r_28 fun b_11 r_29=>cBs r_29 fun b_12 r_30=>let t16:Kerb.AuthOut:=Kerb.tgsServe (Ug rl (Yv Kerb.toEntry els)) (Yv Vm xls) now li se t8 (Kerb.Accepted.mk (Zw b_8 b_9 b_10) n_6 n_7 n_8 n_9 n_10 n_11 n_12 b_11 b_12);let t15:Kerb.Issue:=Kerb.AuthOut.issue t16;onNil r_30 (cInt .i64 r fun n_13 r=>let t17:Option (AV×Blocks):=Zv t9 (kA fun cs=>cStr cs fun b r=>cStr r fun b_13 r=>cStr r fun b_14 r=>onNil r (Zv (chk (l63 b&&l63 b_13&&l63 b_14) (some (Zb (Zm (Up (Zw b b_13 b_14) n_13 now li)::t2),[]))) (kT fun vs=>cBs vs fun b r=>onCons r fun x r=>Yf x fun cs=>cInt .i64 cs fun n r_31=>cStr r_31 fun b_15 r_32=>cStr r_32 fun b_16 r_33=>cStr r_33 fun b_17 r_34=>cStr r_34 fun b_18 r_35=>cStr r_35 fun b_19 r_36=>cStr r_36 fun b_20 r_37=>cStr r_37 fun b_21 r_38=>cStr r_38 fun b_22 r_39=>cStr r_39 fun b_23 r_40=>cInt .u64 r_40 fun n r_41=>cInt .u64 r_41 fun n r_42=>cInt .u64 r_42 fun n r_43=>cBs r_43 fun b_24 r_44=>cInt .i64 r_44 fun n r_45=>cInt .i64 r_45 fun n r_46=>onNil r_46 (cBool r fun b_25 r=>onNil r (some (Zb (t6::Zm b::t3),[]))))));onNil r (sel (n_13==0) (Zv (chk (t4&&l63 b_5&&l63 b_6&&l63 b_8&&l63 b_9&&l63 b_10&&Uu se&&Uu n_6) (some (Zb [Zm (Kerb.AuthOut.answer t16),Yu [Zz .i64 (Wn t15),Zy (Zd (Yz t15)),Zy (Zf (Yz t15)),Zy (Zk (Yz t15)),Zy (Zd (Yy t15)),Zy (Zf (Yy t15)),Zy (Zk (Yy t15)),Zy (Zd (Zh t15)),Zy (Zf (Zh t15)),Zy (Zk (Zh t15)),Zz .u64 (Wx t15),Zz .u64 (Wq t15),Zz .u64 (Ww t15),Zm (Wg t15),Zz .i64 (Wj t15),Zz .i64 (Wb t15)],Yw (Kerb.AuthOut.ok t16)],[]))) (kT fun vs=>cBs vs fun b_13 r=>onCons r fun x r=>Yf x fun cs=>cInt .i64 cs fun n_14 r_31=>cStr r_31 fun b_14 r_32=>cStr r_32 fun b_15 r_33=>cStr r_33 fun b_16 r_34=>cStr r_34 fun b_17 r_35=>cStr r_35 fun b_18 r_36=>cStr r_36 fun b_19 r_37=>cStr r_37 fun b_20 r_38=>cStr r_38 fun b_21 r_39=>cStr r_39 fun b_22 r_40=>cInt .u64 r_40 fun n_15 r_41=>cInt .u64 r_41 fun n_16 r_42=>cInt .u64 r_42 fun n_17 r_43=>cBs r_43 fun b_23 r_44=>cInt .i64 r_44 fun n_18 r_45=>cInt .i64 r_45 fun n_19 r_46=>onNil r_46 (cBool r fun b_24 r=>onNil r (some (Zb [Yu [Zy m1,Zy m2,Zy m3,Xp 5 l,Zz .i64 n,Zz .i64 n_4,Xp 5 b,Zz .i64 sk],Zm b_13,Yu [Zz .i64 n_14,Zy b_14,Zy b_15,Zy b_16,Zy b_17,Zy b_18,Zy b_19,Zy b_20,Zy b_21,Zy b_22,Zz .u64 n_15,Zz .u64 n_16,Zz .u64 n_17,Zm b_23,Zz .i64 n_18,Zz .i64 n_19],Yw b_24],[]))))) (sel (n_13==108) (sel (n_13==108) t5 t17) (sel (n_13==35) (sel (n_13==35) t5 t17) (sel (n_13==7) (sel (n_13==7) t5 t17) (sel (n_13==31) t5 t17))))))))))))))))))):Option (AV×Blocks))) (by kernel_rfl) ?_
  delta kT kA
  try dsimp only [cStr,cBs,cBool,cU8,cInt,cSl,l63]
  simp only [Ym,decide_eq_true_eq] at hpre
  obtain ⟨⟨⟨⟨⟨⟨⟨⟨⟨⟨⟨⟨⟨⟨ea,el⟩,xa⟩,xl⟩,lr⟩,l1⟩,l2⟩,l3⟩,ka⟩,kl⟩,ma⟩,ml⟩,hse⟩,lm⟩,xl9⟩:=hpre
  have hse2:=Kerb.isU64_iff.1 hse
  obtain ⟨es,rfl,hok⟩:=Kerb.ents_of ea
  obtain ⟨cs,rfl,hcs⟩:=Kerb.cross_okof xa
  obtain ⟨ks,rfl,hks⟩:=Kerb.skeys_of ka
  obtain ⟨ms,rfl,hms⟩:=Kerb.marks_of ma
  simp only [Yn] at el xl kl ml xl9
  have lm2:msg.length≤140737488355328:=by omega
  obtain ⟨D,hD⟩:∃ D,Ug rl es=D:=⟨_,rfl⟩
  have hDr:D.realm=rl:=by rw [← hD]
  have hDe:D.entries=es:=by rw [← hD]
  obtain ⟨S,hS⟩:∃ S,Xv ⟨m1,m2,m3⟩ ks ⟨sz,fl,ms⟩ sk=S:=⟨_,rfl⟩
  obtain ⟨⟨r1,r2,r3⟩,r4,r5⟩:=Kerb.decodeTgs_bd msg
  obtain ⟨R,hR⟩:∃ R,(Yb msg).val=R:=⟨_,rfl⟩
  rw [hR] at r1 r2 r3 r4 r5
  have r4b:R.ap.ticket.length≤1000000:=by omega
  have r5b:R.ap.auth.length≤1000000:=by omega
  have gk:=Vh (Kerb.grantKeys_ok (d:=D) (cs:=cs) (by rw [Kerb.Db.ok,hDe];exact hok) (by rw [hDr];exact lr) hcs)
  have gl:(Kerb.grantKeys D cs).length≤1000000:=by have:=Kerb.grantKeys_len D cs;omega
  obtain ⟨VS,hVS⟩:∃ VS,Xv ⟨[107,114,98,116,103,116],rl,R.ap.realm⟩ (Kerb.grantKeys D cs) ⟨sz,fl,ms⟩ sk=VS:=⟨_,rfl⟩
  have hVS2:Kerb.tgsServer D cs S R=VS:=by rw [← hVS,← hS,← hDr];rfl
  have hRa:Wu R.ap.little R.ap.mutual_ R.ap.kvno R.ap.realm R.ap.ticket R.ap.auth=R.ap:=rfl
  have hRe:Kerb.TgsRequest.mk R.ap R.time R.life R.service R.inst=R:=rfl
  obtain ⟨V,hV⟩:∃ V,Kerb.verify VS R.ap ad now=V:=⟨_,rfl⟩
  have hAe:Kerb.Accepted.mk ⟨V.a.client.name,V.a.client.inst,V.a.client.realm⟩ V.a.session V.a.address V.a.checksum V.a.time V.a.tick V.a.issued V.a.life V.a.ticket V.a.auth=V.a:=rfl
  have va:=Kerb.verify_bdA VS R.ap ad now
  have vs:=Kerb.isU64_iff.2 (Kerb.verify_bd VS R.ap ad now)
  rw [hV] at va vs
  obtain ⟨va1,va2,va3⟩:=va
  obtain ⟨hl1,hl2,hl3⟩:=Kerb.holder_len VS R.ap
  have hHe:Zw (Vg VS R.ap).name (Vg VS R.ap).inst (Vg VS R.ap).realm=Vg VS R.ap:=rfl
  unfold Qx
  simp (config:={maxSteps:=10000000}) only [Kerb.map_toEntry,Kerb.map_toCross,Ud,Uf,Yn,hD,hS,hR,lm2,r1,r2,r3,r4b,r5b,gk,gl,hVS,hVS2,hRa,hRe,hV,hAe,va1,va2,va3,vs,hl1,hl2,hl3,hHe,ea,el,xa,xl,lr,l1,l2,l3,ka,kl,ma,ml,hse,decide_true,Xg,Bool.true_and,Bool.and_true,↓sInt,↓sU8,↓sBool,↓sStr,↓sBs,↓sSl,↓sAgg,↓sTup,↓sCons,↓sNil,↓sNilB,↓sChk,↓sChkBind,↓sSome,↓sOwnL,↓sConsB,↓sOwnB]
  by_cases q1:now<0
  ·rw [sel_pos (by simpa using q1),if_pos (by simp [Kerb.within];omega),← hS];rfl
  rw [sel_neg (by simpa using q1)]
  by_cases q2:now>4294967295
  ·rw [sel_pos (by simpa using q2),if_pos (by simp [Kerb.within];omega),← hS];rfl
  rw [sel_neg (by simpa using q2)]
  by_cases q3:ad<0
  ·rw [sel_pos (by simpa using q3),if_pos (by simp [Kerb.within];omega),← hS];rfl
  rw [sel_neg (by simpa using q3)]
  by_cases q4:ad>4294967295
  ·rw [sel_pos (by simpa using q4),if_pos (by simp [Kerb.within];omega),← hS];rfl
  rw [sel_neg (by simpa using q4),if_neg (by simp [Kerb.within];omega)]
  by_cases g1:(Yb msg).err=0
  case neg=>rw [sel_pos (by simpa using g1),if_pos g1,← hS];rfl
  rw [sel_neg (by simpa using g1),if_neg (by simpa using g1)]
  unfold Kerb.tgsAsk
  rw [hVS2,hV]
  by_cases g2:V.err=0
  ·rw [sel_pos (by simpa using g2),if_neg (by simpa using g2),← hS]
  rw [sel_neg (by simpa using g2),if_pos g2]
  by_cases g3:V.err=108
  ·rw [g3];simp only [↓sTrue,BEq.rfl];rw [if_pos (show Kerb.isQuiet 108=true from rfl),← hS];rfl
  rw [sel_neg (by simpa using g3)]
  by_cases g4:V.err=35
  ·rw [g4];simp only [↓sTrue,BEq.rfl];rw [if_pos (show Kerb.isQuiet 35=true from rfl),← hS];rfl
  rw [sel_neg (by simpa using g4)]
  by_cases g5:V.err=7
  ·rw [g5];simp only [↓sTrue,BEq.rfl];rw [if_pos (show Kerb.isQuiet 7=true from rfl),← hS];rfl
  rw [sel_neg (by simpa using g5)]
  by_cases g6:V.err=31
  ·rw [g6];simp only [↓sTrue,BEq.rfl];rw [if_pos (show Kerb.isQuiet 31=true from rfl),← hS];rfl
  rw [sel_neg (by simpa using g6)]
  rw [if_neg (fun h=>by rcases Kerb.verify_err_quiet.1 h with h | h | h | h;exact g3 h;exact g4 h;exact g5 h;exact g6 h),← hS]
  rfl
 ·cases h
theorem p4  : runFn (G.env 4 15) G.rts (G.own 4) Tryz.f4 [] []=some (.bool true,[]):=by kernel_rfl
theorem w4:Walked Tryz.prog G 4 15 sp4:=by
 refine ⟨Tryz.f4,Tryz.func4,by decide +kernel,rfl,fun xs bl r h=> ?_⟩
 unfold sp4 at h
 split at h
 ·cases h;exact p4
 ·cases h
set_option maxHeartbeats 4000000 in
theorem w3:Walked Tryz.prog G 3 16 sp3:=by
 refine ⟨Tryz.f3,Tryz.func3,by decide +kernel,rfl,fun xs bl r h=> ?_⟩
 unfold sp3 at h
 split at h
 ·rename_i cx cu co cv cr lt tn mt cad cfr cis ctm ctk clf ccs cky ckv css ctt cau qf qt_ qp ql qn qk qh nw sk
  obtain ⟨hpre,h2⟩:=chk_inv h;cases h2
  refine Eq.trans (b:=(let t1:Kerb.Db:=Ug (Kerb.Db.realm (Qp (200:UInt8) (0:UInt8) (255:UInt8))) (Yv Kerb.toEntry (Yv Kerb.Entry.av (Kerb.Db.entries (Qp (200:UInt8) (0:UInt8) (255:UInt8)))));let t2:Int:=Int.tmod (Xn .i64 (↑(UInt8.toNat cad):Int)) 3;let t3:Int:=Xn .i64 (1000+Xn .i64 (Xn .i64 (↑(UInt8.toNat qn):Int)*8));let t4:Int:=Xn .i64 (1000+Xn .i64 (Xn .i64 (↑(UInt8.toNat nw):Int)*8));let t6:Kerb.Case:=Qq cu co cv cr lt tn mt cad cfr cis ctm ctk clf ccs cky ckv css ctt cau;let t5:Qv:=Kerb.Case.server t6 (30:UInt8) sk;let t0:Qv:=Xv (Zw (Zd (Yp t5)) (Zf (Yp t5)) (Zk (Yp t5))) (Yv Vd (Yv Xx (Wp t5))) (Wz (Vb (Yq t5)) (Vx (Yq t5)) (Yv Uk (Yv Wv (Xb (Yq t5))))) (Qz t5);sel (decide ((↑(Zx cx):Int)>60)) (some (Yw true,[])) (Zv (chk (decide (Zx cx≤100000)) (some (Xp 4 (Yv Kerb.Cross.av (Kerb.goodCross cx)),[]))) fun (r:AV×Blocks)=>onNilB (Wf r) (AV.onSl 4 (Vw r) fun b=>Zv (chk (decide (0≤ccs)&&decide (ccs≤4294967295)&&decide (0≤ctt)&&decide (ctt≤65535)&&decide (0≤cau)&&decide (cau≤65535)&&decide (0≤qh)&&decide (qh≤65535)&&Xf b Kerb.isCross&&decide (Zx b≤1000000)&&Xf (Yv Vm b) Kerb.isKv) (some (Zm (Kerb.TAsk.msg (Kerb.TAsk.mk t6 qf qt_ qp ql qn qk qh) (Yv Vm b)),[]))) (kB fun b_1=>let t10:Kerb.TgsOut:=Qx t1 (Yv Vm b) t0 t3 t2 false (Wm 20) b_1;let t8:Qv:=Kerb.TgsOut.s t10;let t9:Kerb.AuthOut:=Kerb.TgsOut.out t10;let t7:Kerb.Issue:=Kerb.AuthOut.issue t9;Zv (chk (Xf b Kerb.isCross&&decide (Zx b≤1000000)&&true&&decide (Zx (Zd (Yp t5))≤9223372036854775807)&&decide (Zx (Zf (Yp t5))≤9223372036854775807)&&decide (Zx (Zk (Yp t5))≤9223372036854775807)&&Xf (Yv Xx (Wp t5)) Kerb.isSKey&&decide (Zx (Yv Xx (Wp t5))≤1000000)&&Xf (Yv Wv (Xb (Yq t5))) Kerb.isMark&&decide (Zx (Yv Wv (Xb (Yq t5)))≤1000000)&&true&&decide (Zx b_1≤1000000)&&decide (Zx b≤900000)) (some (Zb [Yu [Zy (Zd (Yp t8)),Zy (Zf (Yp t8)),Zy (Zk (Yp t8)),Xp 5 (Yv Xx (Wp t8)),Zz .i64 (Vb (Yq t8)),Zz .i64 (Vx (Yq t8)),Xp 5 (Yv Wv (Xb (Yq t8))),Zz .i64 (Qz t8)],Zm (Kerb.AuthOut.answer t9),Yu [Zz .i64 (Wn t7),Zy (Zd (Yz t7)),Zy (Zf (Yz t7)),Zy (Zk (Yz t7)),Zy (Zd (Yy t7)),Zy (Zf (Yy t7)),Zy (Zk (Yy t7)),Zy (Zd (Zh t7)),Zy (Zf (Zh t7)),Zy (Zk (Zh t7)),Zz .u64 (Wx t7),Zz .u64 (Wq t7),Zz .u64 (Ww t7),Zm (Wg t7),Zz .i64 (Wj t7),Zz .i64 (Wb t7)],Yw (Kerb.AuthOut.ok t9)],[]))) (kT fun vs=>onCons vs fun x r=>Yf x fun cs=>cStr cs fun b_2 r_1=>cStr r_1 fun b_3 r_2=>cStr r_2 fun b_4 r_3=>cSl 5 r_3 fun b_5 r_4=>cInt .i64 r_4 fun n r_5=>cInt .i64 r_5 fun n_1 r_6=>cSl 5 r_6 fun b_6 r_7=>cInt .i64 r_7 fun n_2 r_8=>let t14:Kerb.TgsOut:=Qx t1 (Yv Vm b) (Xv (Zw b_2 b_3 b_4) (Yv Vd b_5) (Wz n n_1 (Yv Uk b_6)) n_2) t4 t2 false (Wm 21) b_1;let t12:Qv:=Kerb.TgsOut.s t14;let t13:Kerb.AuthOut:=Kerb.TgsOut.out t14;let t11:Kerb.Issue:=Kerb.AuthOut.issue t13;onNil r_8 (cBs r fun b_7 r=>onCons r fun x r=>Yf x fun cs=>cInt .i64 cs fun n r_9=>cStr r_9 fun b_8 r_10=>cStr r_10 fun b_9 r_11=>cStr r_11 fun b_10 r_12=>cStr r_12 fun b_11 r_13=>cStr r_13 fun b_12 r_14=>cStr r_14 fun b_13 r_15=>cStr r_15 fun b_14 r_16=>cStr r_16 fun b_15 r_17=>cStr r_17 fun b_16 r_18=>cInt .u64 r_18 fun n r_19=>cInt .u64 r_19 fun n r_20=>cInt .u64 r_20 fun n r_21=>cBs r_21 fun b_17 r_22=>cInt .i64 r_22 fun n r_23=>cInt .i64 r_23 fun n r_24=>onNil r_24 (cBool r fun b_18 r=>onNil r (Zv (chk (Xf b Kerb.isCross&&decide (Zx b≤1000000)&&true&&l63 b_2&&l63 b_3&&l63 b_4&&Xf b_5 Kerb.isSKey&&decide (Zx b_5≤1000000)&&Xf b_6 Kerb.isMark&&decide (Zx b_6≤1000000)&&true&&decide (Zx b_1≤1000000)&&decide (Zx b≤900000)) (some (Zb [Yu [Zy (Zd (Yp t12)),Zy (Zf (Yp t12)),Zy (Zk (Yp t12)),Xp 5 (Yv Xx (Wp t12)),Zz .i64 (Vb (Yq t12)),Zz .i64 (Vx (Yq t12)),Xp 5 (Yv Wv (Xb (Yq t12))),Zz .i64 (Qz t12)],Zm (Kerb.AuthOut.answer t13),Yu [Zz .i64 (Wn t11),Zy (Zd (Yz t11)),Zy (Zf (Yz t11)),Zy (Zk (Yz t11)),Zy (Zd (Yy t11)),Zy (Zf (Yy t11)),Zy (Zk (Yy t11)),Zy (Zd (Zh t11)),Zy (Zf (Zh t11)),Zy (Zk (Zh t11)),Zz .u64 (Wx t11),Zz .u64 (Wq t11),Zz .u64 (Ww t11),Zm (Wg t11),Zz .i64 (Wj t11),Zz .i64 (Wb t11)],Yw (Kerb.AuthOut.ok t13)],[]))) (kT fun vs=>onCons vs fun x r=>Yf x fun cs=>cStr cs fun b r_25=>cStr r_25 fun b r_26=>cStr r_26 fun b r_27=>cSl 5 r_27 fun b r_28=>cInt .i64 r_28 fun n r_29=>cInt .i64 r_29 fun n r_30=>cSl 5 r_30 fun b r_31=>cInt .i64 r_31 fun n r_32=>onNil r_32 (cBs r fun b r=>onCons r fun x r=>Yf x fun cs=>cInt .i64 cs fun n r_33=>cStr r_33 fun b_19 r_34=>cStr r_34 fun b_20 r_35=>cStr r_35 fun b_21 r_36=>cStr r_36 fun b_22 r_37=>cStr r_37 fun b_23 r_38=>cStr r_38 fun b_24 r_39=>cStr r_39 fun b_25 r_40=>cStr r_40 fun b_26 r_41=>cStr r_41 fun b_27 r_42=>cInt .u64 r_42 fun n_3 r_43=>cInt .u64 r_43 fun n_4 r_44=>cInt .u64 r_44 fun n_5 r_45=>cBs r_45 fun b_28 r_46=>cInt .i64 r_46 fun n_6 r_47=>cInt .i64 r_47 fun n_7 r_48=>onNil r_48 (cBool r fun b_29 r=>onNil r (sel (!b_18) (some (Yw true,[])) (Zv (chk (decide (Zx b≤140737488355328)) (some (Zb [Yu [Yw (Kerb.KdcReply.little (Xu (Xy b))),Zy (Zd (Qu (Xu (Xy b)))),Zy (Zf (Qu (Xu (Xy b)))),Zy (Zk (Qu (Xu (Xy b)))),Zz .i64 (Kerb.KdcReply.time (Xu (Xy b))),Zz .i64 (Kerb.KdcReply.expires (Xu (Xy b))),Zz .i64 (Kerb.KdcReply.kvno (Xu (Xy b))),Zm (Kerb.KdcReply.sealed (Xu (Xy b)))],Zz .i64 (Kerb.DecReply.err (Xy b))],[]))) (kT fun vs=>onCons vs fun x r=>Yf x fun cs=>cBool cs fun b r_49=>cStr r_49 fun b r_50=>cStr r_50 fun b r_51=>cStr r_51 fun b r_52=>cInt .i64 r_52 fun n_8 r_53=>cInt .i64 r_53 fun n_9 r_54=>cInt .i64 r_54 fun n_10 r_55=>cBs r_55 fun b r_56=>onNil r_56 (cInt .i64 r fun n_11 r=>onNil r (sel (!b_29) (sel (n==0) (some (Yw !n_11==0,[])) (some (Yw false,[]))) (some (Yw false,[]))))))))))))))))):Option (AV×Blocks))) (by kernel_rfl) ?_
  delta kT kB
  try dsimp only [cStr,cBs,cBool,cU8,cInt,cSl,l63]
  simp only [Ym,decide_eq_true_eq] at hpre
  obtain ⟨⟨⟨⟨⟨⟨⟨c0,c1⟩,t0⟩,t1⟩,a0⟩,a1⟩,h0⟩,h1⟩:=hpre
  by_cases q2:((cx.length:Nat):Int)>60
  ·rw [sel_pos (by simpa using q2)]
  rw [sel_neg (by simpa using q2)]
  have lcx:cx.length≤100000:=by omega
  have bn:=Kerb.u8i_bd qn
  have bw:=Kerb.u8i_bd nw
  have ba:=Kerb.u8i_bd cad
  have z1:∀ n,0≤n∧n≤255→Xn .i64 (n*8)=n*8:=fun n h=>wrap_i64 (by omega) (by omega)
  have z1a:=z1 _ bn
  have z1b:=z1 _ bw
  have z2:∀ n,0≤n∧n≤255→Xn .i64 (1000+n*8)=1000+n*8:=fun n h=>wrap_i64 (by omega) (by omega)
  have z2a:=z2 _ bn
  have z2b:=z2 _ bw
  have z3:Int.tmod (Qy cad) 3=Qy cad % 3:=Int.tmod_eq_emod_of_nonneg ba.1
  obtain ⟨xs,hxs⟩:∃ xs,Kerb.goodCross cx=xs:=⟨_,rfl⟩
  obtain ⟨xl,xok⟩:=hxs ▸ Kerb.goodCross_ok cx
  have xkv:=hxs ▸ Kerb.goodCross_kv cx
  have hxT:=Kerb.cross_all xok
  have xl2:xs.length≤1000000:=by omega
  have xl3:xs.length≤900000:=by omega
  obtain ⟨M,hM⟩:∃ M,Kerb.TAsk.msg (Kerb.TAsk.mk (Qq cu co cv cr lt tn mt cad cfr cis ctm ctk clf ccs cky ckv css ctt cau) qf qt_ qp ql qn qk qh) xs=M:=⟨_,rfl⟩
  have lM:=hM ▸ Kerb.tmsg_len (Kerb.TAsk.mk (Qq cu co cv cr lt tn mt cad cfr cis ctm ctk clf ccs cky ckv css ctt cau) qf qt_ qp ql qn qk qh) xs
  have d1:=(Kerb.simpleDb_err 200 0 255)
  have d3:=Kerb.all_ents d1.2
  have d4:(Qp 200 0 255).entries.length≤1000000:=by have:=(Kerb.Db.err_inv d1.1).2.1;omega
  have d5:(Qp 200 0 255).realm.length≤9223372036854775807:=by show ([65,84,72]:List UInt8).length≤_;decide
  obtain ⟨D,hD⟩:∃ D,Qp 200 0 255=D:=⟨_,rfl⟩
  rw [hD] at d3 d4 d5
  have hDD:Ug D.realm D.entries=D:=rfl
  have hs20:Uu (Wm 20)=true:=Kerb.isU64_iff.2 (Kerb.session_bd2 20)
  have hs21:Uu (Wm 21)=true:=Kerb.isU64_iff.2 (Kerb.session_bd2 21)
  obtain ⟨S,hS⟩:∃ S,Kerb.Case.server (Qq cu co cv cr lt tn mt cad cfr cis ctm ctk clf ccs cky ckv css ctt cau) 30 sk=S:=⟨_,rfl⟩
  have so:=hS ▸ (Kerb.reached_server (Qq cu co cv cr lt tn mt cad cfr cis ctm ctk clf ccs cky ckv css ctt cau) 30 sk).sound
  have skT:=Vh so.keys
  have smT:=Qw so.marks
  obtain ⟨sn1,sn2,sn3⟩:=so.name
  obtain ⟨sl1,sl2⟩:=so.lens
  have hSS:∀ S:Qv,Xv ⟨S.me.name,S.me.inst,S.me.realm⟩ S.keys ⟨S.replay.size,S.replay.floor,S.replay.marks⟩ S.skew=S:=fun _=>rfl
  obtain ⟨A,hA⟩:∃ A,Qx D xs S (1000+Qy qn*8) (Qy cad % 3) false (Wm 20) M=A:=⟨_,rfl⟩
  have so2:Kerb.Sound A.s:=hA ▸ Kerb.tgs_sound so
  have skT2:=Vh so2.keys
  have smT2:=Qw so2.marks
  obtain ⟨tn1,tn2,tn3⟩:=so2.name
  obtain ⟨tl1,tl2⟩:=so2.lens
  obtain ⟨B,hB⟩:∃ B,Qx D xs A.s (1000+Qy nw*8) (Qy cad % 3) false (Wm 21) M=B:=⟨_,rfl⟩
  have lB:B.out.answer.length≤140737488355328:=hB ▸ Kerb.tgs_out_len _ _ _ _ _ _ _ _
  simp (config:={maxSteps:=10000000}) only [Kerb.wrap_u8i,z1a,z1b,z2a,z2b,z3,lcx,hxs,xkv,hxT,xl2,xl3,hM,lM,hD,hDD,d3,d4,d5,hs20,hs21,hS,skT,smT,sn1,sn2,sn3,sl1,sl2,hSS,hA,skT2,smT2,tn1,tn2,tn3,tl1,tl2,hB,lB,c0,c1,t0,t1,a0,a1,h0,h1,Kerb.map_toEntry,Kerb.map_toCross,Ud,Uf,Yn,decide_true,Xg,Bool.true_and,Bool.and_true,↓sInt,↓sU8,↓sBool,↓sStr,↓sBs,↓sSl,↓sAgg,↓sTup,↓sCons,↓sNil,↓sNilB,↓sChk,↓sChkBind,↓sSome,↓sOwnL,↓sConsB,↓sOwnB]
  cases hok:A.out.ok
  ·rfl
  rw [Qd,sel_false]
  have hO:=Kerb.grant_once (d:=D) (cross:=xs) (s:=S) (now:=1000+Qy qn*8) (ad:=Qy cad % 3) (li:=false) (se:=Wm 20) (msg:=M) (by rw [hA];exact hok) (1000+Qy nw*8) (Wm 21) false
  rw [hA,hB] at hO
  obtain ⟨o1,o2,o3⟩:=hO
  rw [o1,o2,Bool.not_false,sel_true]
  rw [sel_pos (show ((Kerb.noIssue.kind:Int)==0)=true from rfl),show ((Xy B.out.answer).err==0)=false from beq_false_of_ne o3]
  rfl
 ·cases h
end Go.Proofs.YtmpklfnpjhdjeaaGreatDoor
