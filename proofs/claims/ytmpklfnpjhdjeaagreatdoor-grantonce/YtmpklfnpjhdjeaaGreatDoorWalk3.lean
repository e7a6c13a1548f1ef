/- What the functions of this seat compute. -/
import Derived.Test.YtmpklfnpjhdjeaaGreatDoorTab
import Derived.Test.YtmpklfnpjhdjeaaGreatDoorKerbPlain
import Derived.Test.YtmpklfnpjhdjeaaGreatDoorAbsStep
import Derived.Test.YtmpklfnpjhdjeaaGreatDoorKerbCli3
import Derived.Test.YtmpklfnpjhdjeaaGreatDoorKerbCli4
import Derived.Test.YtmpklfnpjhdjeaaGreatDoorKerbCli5
import Derived.Test.YtmpklfnpjhdjeaaGreatDoorKerbSrvL
import Derived.Test.YtmpklfnpjhdjeaaGreatDoorKerbKac2
import Derived.Test.YtmpklfnpjhdjeaaGreatDoorKerbKac4
import Derived.Test.YtmpklfnpjhdjeaaGreatDoorKerbSrvB
import Derived.Test.YtmpklfnpjhdjeaaGreatDoorKerbVerL
import Derived.Test.YtmpklfnpjhdjeaaGreatDoorKerbVerL
import Derived.Test.YtmpklfnpjhdjeaaGreatDoorKerbAuthL
import Derived.Test.YtmpklfnpjhdjeaaGreatDoorKerbGrtL
open Go.Abs.AV renaming int→Zz,str→Zq,bool→Zj,u8→Zp,bs→Zd,tup→Zh,ownB→Yd,sl→Xz,agg→Wu,onInt→Wh,onBool→Vb,undef→Uu,onAgg→Uq
open List renaming length→Zy,append→Yq,length_map→Yh,getD→Wx,map→Vg
open Option renaming bind→Zx
open Kerb renaming putPrin_len→Zw,putN_len→Zv,keyBytes_len→Zu,u8i→Zb,within→Zn,putN→Yu,service→Yf,putText→Yb,spoil→Xu,realm→Xq,u8i_bd→Xf,krbtgt→Xg,validInst→Xm,text→Xh,putText_len→Wz,wrap_u8i→Ww,validName→Wq,readAp→Wj,validRealm→Wb,header→Vz,readBox→Vy,putPrin→Vx,makeBox→Vw,findCross→Vv,encodeTgs→Vu,serviceEnt→Vm,encodePart→Vh,user→Uz,valid_len→Uy,headIs→Uj,encodeTicket→Uk,marksErr→Ud,encodeAp→Uf
open Go.IntKind renaming i64→Zk,wrap→Zf,u16→Xk,u32→Ux
open Kerb.Prin renaming mk→Zg,valid→Yv
open Kerb.Case renaming mk→Zm,tgsMsg→Xj
open Bool renaming and_eq_true→Yz,not_true→Yx,and_self→Yg,true_and→Wv,and_true→Vf,not_false→Uw
open Int renaming toNat→Yy,tmod→Yk,tmod_eq_emod_of_nonneg→Yp,tdiv→Xp,tdiv_eq_ediv_of_nonneg→Wd,toNat_natCast→Vk
open UInt8 renaming toNat→Yw,ofNat→Xd
open Kerb.TAsk renaming mk→Yj,key→Yn,base→Xb,want→Vn
open Prod renaming snd→Ym,fst→Xy
open Kerb.Mark renaming av→Xx,err→Vq
open Kerb.Enc renaming val→Xw,err→Xv
open Kerb.ApRequest renaming mk→Xn
open Kerb.Client renaming av→Wy
open Kerb.Cache renaming av→Wk
open Kerb.SKey renaming err→Wp,av→Up
open Sum renaming inr→Wf
open Kerb.GotAp renaming val→Wg
open Kerb.Cred renaming av→Wn
open Kerb.Auth renaming mk→Wm
open Kerb.TgsRequest renaming mk→Vj
open Kerb.Ticket renaming mk→Vp
open Kerb.ReplyPart renaming mk→Vd
open Kerb.RCache renaming err→Uv
namespace Go.Proofs.YtmpklfnpjhdjeaaGreatDoor
open Go Go.Abs Go.Proofs
set_option linter.unusedVariables false
set_option linter.unusedSimpArgs false
set_option maxRecDepth 100000
theorem w128:Walked Tryz.prog G 128 5 sp128:=by
 refine ⟨Tryz.f128,Tryz.func128,by decide +kernel,rfl,fun xs bl r h=> ?_⟩
 unfold sp128 at h
 split at h
 ·rename_i li x y z ad k lf iss sv ins
  obtain ⟨hpre,h2⟩:=chk_inv h;cases h2
  refine Eq.trans (b:=(let t0:Nat:=Zy ([]++Yu 0 1 false)+Zy x+Zy y+Zy z;let t1:Nat:=Zy ([]++Yu 1 1 false)+Zy x+Zy y+Zy z;let t2:Option (AV×Blocks):=chk (decide (0≤k)&&decide (k<18446744073709551616)) (some (Zd (Kerb.keyBytes k),[]));Zx (chk (l63 x&&l63 y&&l63 z&&l63 sv&&l63 ins&&decide (0≤k)&&decide (k<18446744073709551616)) (some (Zz .i64 (Kerb.Ticket.err (Vp li (Zg x y z) ad k lf iss sv ins)),[]))) (kI .i64 fun n=>sel (!n==0) (some (Zh [Zd [],Zz .i64 n],[])) (sel li (Zx (chk (decide (t1≤70368744170000)) (some (Zd (Vx ([]++Yu 1 1 false) (Zg x y z)),[]))) (kB fun b=>Zx (chk (decide (Zy b≤70368744177664)) (some (Yd (b++Yu ad 4 li),[]))) (kO fun l=>Zx t2 (kB fun b=>chk (room (Zy l+Zy b) 1) (Zx (chk (decide (Zy (l++b)≤70368744177664)) (some (Yd (l++b++Yu lf 1 false),[]))) (kO fun l=>Zx (chk (decide (Zy l≤70368744177664)) (some (Yd (l++Yu iss 4 li),[]))) (kO fun l=>Zx (chk (decide (Zy l+Zy sv≤70368744177664)) (some (Zd (Yb l sv),[]))) (kB fun b=>Zx (chk (decide (Zy b+Zy ins≤70368744177664)) (some (Zd (Yb b ins),[]))) (kB fun b=>Zx (chk (decide (Zy b≤70368744177664)) (some (Yd (Kerb.pad b),[]))) (kO fun l=>some (Zh [Zd l,Zz .i64 0],[]))))))))))) (Zx (chk (decide (t0≤70368744170000)) (some (Zd (Vx ([]++Yu 0 1 false) (Zg x y z)),[]))) (kB fun b=>Zx (chk (decide (Zy b≤70368744177664)) (some (Yd (b++Yu ad 4 li),[]))) (kO fun l=>Zx t2 (kB fun b=>chk (room (Zy l+Zy b) 1) (Zx (chk (decide (Zy (l++b)≤70368744177664)) (some (Yd (l++b++Yu lf 1 false),[]))) (kO fun l=>Zx (chk (decide (Zy l≤70368744177664)) (some (Yd (l++Yu iss 4 li),[]))) (kO fun l=>Zx (chk (decide (Zy l+Zy sv≤70368744177664)) (some (Zd (Yb l sv),[]))) (kB fun b=>Zx (chk (decide (Zy b+Zy ins≤70368744177664)) (some (Zd (Yb b ins),[]))) (kB fun b=>Zx (chk (decide (Zy b≤70368744177664)) (some (Yd (Kerb.pad b),[]))) (kO fun l=>some (Zh [Zd l,Zz .i64 0],[]))))))))))))):Option (AV×Blocks))) (by kernel_rfl) ?_
  delta kB kO kI
  try dsimp only [cStr,cBs,cBool,cU8,cInt,cSl,l63]
  simp only [Yz,decide_eq_true_eq] at hpre
  obtain ⟨⟨⟨⟨⟨⟨h1,h2⟩,h3⟩,h4⟩,h5⟩,h6⟩,h7⟩:=hpre
  simp only [h1,h2,h3,h4,h5,h6,h7,decide_true,Yg,↓A0,A0]
  have hb := @Kerb.encTicket_inv ⟨li,⟨x,y,z⟩,ad,k,lf,iss,sv,ins⟩
  unfold Uk at hb ⊢
  dsimp only at hb ⊢
  generalize hE:Kerb.Ticket.err _=e at hb ⊢
  by_cases he:e=0
  case neg=>rw [sel_pos (by simpa using he),if_pos he]
  rw [if_neg (by simpa using he)] at hb
  obtain ⟨v1,v2,v3,_⟩:=hb rfl
  have l1:=Uy v1
  have l2:=(Kerb.name_ok v2).1
  have l3:=(Kerb.inst_ok v3).1
  dsimp only at l1
  rw [sel_neg (by simpa using he),if_neg (by simpa using he)]
  cases li
  ·rw [sel_false,chk_of (by first | (simp [Zw,Zv,Zu];done) | (simp [Zw,Zv,Zu];omega)),chk_of (by first | (simp [Zw,Zv,Zu];done) | (simp [Zw,Zv,Zu];omega)),chk_of (Kerb.room_ok (by first | (simp [Zw,Zv,Zu];done) | (simp [Zw,Zv,Zu];omega))),chk_of (by first | (simp [Zw,Zv,Zu];done) | (simp [Zw,Zv,Zu];omega)),chk_of (by first | (simp [Zw,Zv,Zu];done) | (simp [Zw,Zv,Zu];omega)),chk_of (by first | (simp [Zw,Zv,Zu];done) | (simp [Zw,Zv,Zu];omega)),chk_of (by first | (simp [Yb,Zw,Zv,Zu];done) | (simp [Yb,Zw,Zv,Zu];omega)),chk_of (by first | (simp [Yb,Zw,Zv,Zu];done) | (simp [Yb,Zw,Zv,Zu];omega))]
   simp
  ·rw [sel_true,chk_of (by first | (simp [Zw,Zv,Zu];done) | (simp [Zw,Zv,Zu];omega)),chk_of (by first | (simp [Zw,Zv,Zu];done) | (simp [Zw,Zv,Zu];omega)),chk_of (Kerb.room_ok (by first | (simp [Zw,Zv,Zu];done) | (simp [Zw,Zv,Zu];omega))),chk_of (by first | (simp [Zw,Zv,Zu];done) | (simp [Zw,Zv,Zu];omega)),chk_of (by first | (simp [Zw,Zv,Zu];done) | (simp [Zw,Zv,Zu];omega)),chk_of (by first | (simp [Zw,Zv,Zu];done) | (simp [Zw,Zv,Zu];omega)),chk_of (by first | (simp [Yb,Zw,Zv,Zu];done) | (simp [Yb,Zw,Zv,Zu];omega)),chk_of (by first | (simp [Yb,Zw,Zv,Zu];done) | (simp [Yb,Zw,Zv,Zu];omega))]
   simp
 ·cases h
theorem w130:Walked Tryz.prog G 130 5 sp130:=by
 refine ⟨Tryz.f130,Tryz.func130,by decide +kernel,rfl,fun xs bl r h=> ?_⟩
 unfold sp130 at h
 split at h
 ·rename_i x y z ck tc tm li
  obtain ⟨hpre,h2⟩:=chk_inv h;cases h2
  refine Eq.trans (b:=(let t0:Nat:=Zy ([]++Yu (bif li then 1 else 0) 1 false)+Zy x+Zy y+Zy z;Zx (chk (l63 x&&l63 y&&l63 z) (some (Zz .i64 (Kerb.Auth.check (Wm (Zg x y z) ck tc tm)),[]))) (kI .i64 fun n=>sel (!n==0) (some (Zh [Zd [],Zz .i64 n],[])) (Zx (chk (decide (t0≤70368744170000)) (some (Zd (Vx ([]++Yu (bif li then 1 else 0) 1 false) (Zg x y z)),[]))) (kB fun b=>Zx (chk (decide (Zy b≤70368744177664)) (some (Yd (b++Yu ck 4 li),[]))) (kO fun l=>Zx (chk (decide (Zy l≤70368744177664)) (some (Yd (l++Yu tc 1 false),[]))) (kO fun l=>Zx (chk (decide (Zy l≤70368744177664)) (some (Yd (l++Yu tm 4 li),[]))) (kO fun l=>Zx (chk (decide (Zy l≤70368744177664)) (some (Yd (Kerb.pad l),[]))) (kO fun l=>some (Zh [Zd l,Zz .i64 0],[])))))))):Option (AV×Blocks))) (by kernel_rfl) ?_
  delta kB kO kI
  try dsimp only [cStr,cBs,cBool,cU8,cInt,cSl,l63]
  simp only [A0,Wy,Wk,Wn,hpre]
  unfold Kerb.encodeAuth
  by_cases h:(Wm ⟨x,y,z⟩ ck tc tm).check=0
  case neg =>
   rw [sel_pos (by simpa using h),if_pos h]
  have hv:Yv ⟨x,y,z⟩=true:=by
   unfold Kerb.Auth.check at h
   cases hv:Yv ⟨x,y,z⟩
   ·simp [hv] at h
   ·rfl
  have l1:=Uy hv
  simp only at l1
  rw [sel_neg (by simp [h]),if_neg (by simpa using h)]
  cases li
  ·simp only [A0,Wy,Wk,Wn,List.nil_append,cond_false,cond_true]
   rw [chk_of (by simp [Zv];omega),chk_of (by simp [Zv,Zw];omega),chk_of (by simp [Zv,Zw];omega),chk_of (by simp [Zv,Zw];omega),chk_of (by simp [Zv,Zw];omega)]
  ·simp only [A0,Wy,Wk,Wn,List.nil_append,cond_false,cond_true]
   rw [chk_of (by simp [Zv];omega),chk_of (by simp [Zv,Zw];omega),chk_of (by simp [Zv,Zw];omega),chk_of (by simp [Zv,Zw];omega),chk_of (by simp [Zv,Zw];omega)]
 ·cases h
theorem w149:Walked Tryz.prog G 149 5 sp149:=by
 refine ⟨Tryz.f149,Tryz.func149,by decide +kernel,rfl,fun xs bl r h=> ?_⟩
 unfold sp149 at h
 split at h
 ·rename_i b
  obtain ⟨hpre,h2⟩:=chk_inv h;cases h2
  refine Eq.trans (b:=(let t1:Int:=Zf .i64 (↑(BitVec.toNat (BitVec.ofInt (IntKind.bits .i64) (Zf .i64 (Zf .i64 (↑(Yw (Wx b (Yy 10) (0:UInt8))):Int)*2 ^ min (Yy 8) (IntKind.bits .i64))) ||| BitVec.ofInt (IntKind.bits .i64) (Zf .i64 (↑(Yw (Wx b (Yy 11) (0:UInt8))):Int)))):Int);let t2:Option (AV×Blocks):=some (Zh [Wu [Zz .i64 0,Zz .u64 0,Zd []],Zz .i64 0,Zz .i64 100],[]);let t3:Option (AV×Blocks):=some (Zh [Wu [Zz .i64 0,Zz .u64 0,Zd []],Zz .i64 0,Zz .i64 101],[]);let t0:Int:=Zf .i64 (12+t1);sel (decide ((↑(Zy b):Int)<12)) t3 (chk (decide (1<(↑(Zy b):Int))) (chk (decide (10≤(↑(Zy b):Int))) (Zx (chk (decide (Zy (List.drop (Yy 2) (List.take (Yy 10) b))≤4611686018427387904)) (some (Zh [Zz .u64 (Xy (Kerb.keyRead (List.drop (Yy 2) (List.take (Yy 10) b)))),Zj (Ym (Kerb.keyRead (List.drop (Yy 2) (List.take (Yy 10) b))))],[]))) (kT fun vs=>cInt .u64 vs fun n r=>cBool r fun b_1 r=>onNil r (chk (decide (10<(↑(Zy b):Int))) (chk (decide (11<(↑(Zy b):Int))) (chk (decide (0<(↑(Zy b):Int))) (sel (!Wx b (Yy 0) (0:UInt8)==(66:UInt8)) t2 (sel (!Kerb.isKind (Zf .i64 (↑(Yw (Wx b (Yy 1) (0:UInt8))):Int))) t2 (sel (!b_1) t2 (sel (decide (t1>1000)) t2 (sel (decide ((↑(Zy b):Int)<t0)) t3 (chk (decide (12≤t0)&&decide (t0≤t0)&&decide (t0≤(↑(Zy b):Int))) (Zx (chk (decide (Zy (List.drop (Yy 12) (List.take (Yy t0) b))≤140737488355328)) (some (Zd (List.drop (Yy 12) (List.take (Yy t0) b)),[]))) (kB fun b_2=>some (Zh [Wu [Zz .i64 (Zf .i64 (↑(Yw (Wx b (Yy 1) (0:UInt8))):Int)),Zz .u64 n,Zd b_2],Zz .i64 t0,Zz .i64 0],[])))))))))))))))):Option (AV×Blocks))) (by kernel_rfl) ?_
  delta kT kB
  try dsimp only [cStr,cBs,cBool,cU8,cInt,cSl,l63]
  simp only [decide_eq_true_eq] at hpre
  unfold Vy
  by_cases h0:b.length<12
  ·rw [sel_pos (by simp;omega),if_pos h0];rfl
  rw [sel_neg (by simp;omega),if_neg h0]
  have hc:=Kerb.cut_len b 2 8
  have hs:(b.getD 10 0).toNat*256+(b.getD 11 0).toNat=Kerb.boxSize b:=rfl
  simp only [Kerb.cut_28,Kerb.size_or]
  simp only [show Yy 0=0 from rfl,show Yy 1=1 from rfl,show Yy 10=10 from rfl,show Yy 11=11 from rfl,Kerb.wrap_byte,hs]
  rw [chk_of (by simp;omega),chk_of (by simp;omega),chk_of (by simp;omega)]
  simp only [↓A0]
  rw [chk_of (by simp;omega),chk_of (by simp;omega),chk_of (by simp;omega)]
  by_cases h1:b.getD 0 0=66
  case neg=>rw [sel_pos (by simpa using h1),if_pos (.inl h1)];rfl
  rw [sel_neg (by simpa using h1)]
  cases h2:Kerb.isKind ((b.getD 1 0).toNat:Int)
  ·rw [if_pos (.inr (.inl rfl))];rfl
  rw [Yx,sel_false]
  cases h3:(Kerb.keyRead (Kerb.cut b 2 8)).2
  ·rw [if_pos (.inr (.inr (.inl rfl)))];rfl
  rw [Yx,sel_false]
  by_cases h4:1000<Kerb.boxSize b
  ·rw [sel_pos (by simp;omega),if_pos (.inr (.inr (.inr h4)))];rfl
  rw [sel_neg (by simp;omega),if_neg (by rintro (h | h | h | h)<;>first | exact h h1 | cases h | omega),wrap_i64 (by omega) (by omega)]
  by_cases h5:b.length<12+Kerb.boxSize b
  ·rw [sel_pos (by simp;omega),if_pos h5];rfl
  have hc2:=Kerb.cut_len b 12 (Kerb.boxSize b)
  rw [sel_neg (by simp;omega),if_neg h5,Kerb.cut_12,chk_of (by simp;omega)]
  simp only [↓A0]
  rw [chk_of (by simp;omega)]
  simp
 ·cases h
theorem w78:Walked Tryz.prog G 78 6 sp78:=by
 refine ⟨Tryz.f78,Tryz.func78,by decide +kernel,rfl,fun xs bl r h=> ?_⟩
 unfold sp78 at h
 split at h
 ·rename_i li x y z ad k lf iss sv ins key
  obtain ⟨hpre,h2⟩:=chk_inv h;cases h2
  refine Eq.trans (b:=(Zx (chk (decide (Zy x≤9223372036854775807)&&decide (Zy y≤9223372036854775807)&&decide (Zy z≤9223372036854775807)&&decide (Zy sv≤9223372036854775807)&&decide (Zy ins≤9223372036854775807)&&decide (0≤k)&&decide (k<18446744073709551616)) (some (Zh [Zd (Xw (Uk (Vp li (Zg x y z) ad k lf iss sv ins))),Zz .i64 (Xv (Uk (Vp li (Zg x y z) ad k lf iss sv ins)))],[]))) fun (r:AV×Blocks)=>onNilB (Ym r) (AV.onTup (Xy r) fun vs=>onCons vs fun x r=>AV.onBs x fun b=>onCons r fun x r=>Wh .i64 x fun n=>onNil r (sel (!n==0) (some (Zh [Zd [],Zz .i64 n],[])) (Zx (chk (decide (0≤key)&&decide (key<18446744073709551616)) (some (Zh [Zd (Xw (Vw 1 key b)),Zz .i64 (Xv (Vw 1 key b))],[]))) fun (r:AV×Blocks)=>onNilB (Ym r) (AV.onTup (Xy r) fun vs=>onCons vs fun x r=>AV.onBs x fun b=>onCons r fun x r=>Wh .i64 x fun n=>onNil r (some (Zh [Zd b,Zz .i64 n],[])))))):Option (AV×Blocks))) (by kernel_rfl) ?_
  simp only [Yz,decide_eq_true_eq] at hpre
  obtain ⟨⟨⟨⟨⟨⟨⟨⟨h1,h2⟩,h3⟩,h4⟩,h5⟩,h6⟩,h7⟩,h8⟩,h9⟩:=hpre
  simp only [h1,h2,h3,h4,h5,h6,h7,h8,h9,decide_true,Yg,↓A0,A0]
  unfold Kerb.sealTicket
  generalize Uk _=E
  by_cases he:E.err=0
  ·rw [sel_neg (by simpa using he),if_neg (by simpa using he)]
  ·rw [sel_pos (by simpa using he),if_pos he]
 ·cases h
theorem w79:Walked Tryz.prog G 79 6 sp79:=by
 refine ⟨Tryz.f79,Tryz.func79,by decide +kernel,rfl,fun xs bl r h=> ?_⟩
 unfold sp79 at h
 split at h
 ·rename_i x y z ck tc tm li k
  obtain ⟨hpre,h2⟩:=chk_inv h;cases h2
  refine Eq.trans (b:=(Zx (chk (decide (Zy x≤9223372036854775807)&&decide (Zy y≤9223372036854775807)&&decide (Zy z≤9223372036854775807)) (some (Zh [Zd (Xw (Kerb.encodeAuth (Wm (Zg x y z) ck tc tm) li)),Zz .i64 (Xv (Kerb.encodeAuth (Wm (Zg x y z) ck tc tm) li))],[]))) fun (r:AV×Blocks)=>onNilB (Ym r) (AV.onTup (Xy r) fun vs=>onCons vs fun x r=>AV.onBs x fun b=>onCons r fun x r=>Wh .i64 x fun n=>onNil r (sel (!n==0) (some (Zh [Zd [],Zz .i64 n],[])) (Zx (chk (decide (0≤k)&&decide (k<18446744073709551616)) (some (Zh [Zd (Xw (Vw 2 k b)),Zz .i64 (Xv (Vw 2 k b))],[]))) fun (r:AV×Blocks)=>onNilB (Ym r) (AV.onTup (Xy r) fun vs=>onCons vs fun x r=>AV.onBs x fun b=>onCons r fun x r=>Wh .i64 x fun n=>onNil r (some (Zh [Zd b,Zz .i64 n],[])))))):Option (AV×Blocks))) (by kernel_rfl) ?_
  have hpre':=hpre
  simp only [Yz,decide_eq_true_eq] at hpre
  have c1:(decide (x.length≤9223372036854775807)&&decide (y.length≤9223372036854775807)&&decide (z.length≤9223372036854775807))=true:=by simp;omega
  have c2:(decide (0≤k)&&decide (k<18446744073709551616))=true:=by simp;omega
  simp only [A0,Wy,Wk,Wn,c1,c2]
  unfold Kerb.sealAuth
  by_cases h:(Kerb.encodeAuth (Wm ⟨x,y,z⟩ ck tc tm) li).err=0
  ·rw [sel_neg (by simp [h]),if_neg (by simpa using h)]
  ·rw [sel_pos (by simpa using h),if_pos h]
 ·cases h
theorem w113:Walked Tryz.prog G 113 6 sp113:=by
 refine ⟨Tryz.f113,Tryz.func113,by decide +kernel,rfl,fun xs bl r h=> ?_⟩
 unfold sp113 at h
 split at h
 ·rename_i b kd k
  obtain ⟨hpre,h2⟩:=chk_inv h;cases h2
  refine Eq.trans (b:=(Zx (chk (decide (Zy b≤140737488355328)) (some (Zh [Wu [Zz .i64 (Kerb.Box.kind (Kerb.GotBox.box (Vy b))),Zz .u64 (Kerb.Box.key (Kerb.GotBox.box (Vy b))),Zd (Kerb.Box.body (Kerb.GotBox.box (Vy b)))],Zz .i64 (Kerb.GotBox.n (Vy b)),Zz .i64 (Kerb.GotBox.err (Vy b))],[]))) fun (r:AV×Blocks)=>onNilB (Ym r) (AV.onTup (Xy r) fun vs=>onCons vs fun x r=>Uq x fun cs=>onCons cs fun x r_1=>Wh .i64 x fun n=>onCons r_1 fun x r_2=>Wh .u64 x fun n_1=>onCons r_2 fun x r_3=>AV.onBs x fun b_1=>onNil r_3 (onCons r fun x r=>Wh .i64 x fun n_2=>onCons r fun x r=>Wh .i64 x fun n_3=>onNil r (sel (!n_3==0) (some (Zh [Zd [],Zj false],[])) (sel (!n_2==(↑(Zy b):Int)) (some (Zh [Zd [],Zj false],[])) (sel (!n==kd) (some (Zh [Zd [],Zj false],[])) (sel (!n_1==k) (some (Zh [Zd [],Zj false],[])) (some (Zh [Zd b_1,Zj true],[])))))))):Option (AV×Blocks))) (by kernel_rfl) ?_
  simp only [↓A0,hpre]
  unfold Kerb.openBox
  generalize Vy b=r
  by_cases h1:r.err=0
  case neg=>rw [sel_pos (by simpa using h1),if_pos (.inl h1)]
  rw [sel_neg (by simpa using h1)]
  by_cases h2:r.n=b.length
  case neg=>rw [sel_pos (by simpa using h2),if_pos (.inr (.inl h2))]
  rw [sel_neg (by simpa using h2)]
  by_cases h3:r.box.kind=kd
  case neg=>rw [sel_pos (by simpa using h3),if_pos (.inr (.inr (.inl h3)))]
  rw [sel_neg (by simpa using h3)]
  by_cases h4:r.box.key=k
  case neg=>rw [sel_pos (by simpa using h4),if_pos (.inr (.inr (.inr h4)))]
  rw [sel_neg (by simpa using h4),if_neg (by simp [h1,h2,h3,h4])]
 ·cases h
theorem w115:Walked Tryz.prog G 115 6 sp115:=by
 refine ⟨Tryz.f115,Tryz.func115,by decide +kernel,rfl,fun xs bl r h=> ?_⟩
 unfold sp115 at h
 split at h
 ·rename_i s
  obtain ⟨hpre,h2⟩:=chk_inv h;cases h2
  refine Eq.trans (b:=(sel (!s==[]) (Zx (chk (decide (Zy s≤9223372036854775807)) (some (Zj (Xm s),[]))) fun (r:AV×Blocks)=>onNilB (Ym r) (Vb (Xy r) fun b=>some (Zj b,[]))) (some (Zj false,[])):Option (AV×Blocks))) (by kernel_rfl) ?_
  simp only [A0]
  rw [chk_of hpre]
  simp only [Wb]
  cases s<;>rfl
 ·cases h
set_option maxHeartbeats 4000000 in
theorem w36:Walked Tryz.prog G 36 7 sp36:=by
 refine ⟨Tryz.f36,Tryz.func36,by decide +kernel,rfl,fun xs bl r h=> ?_⟩
 unfold sp36 at h
 split at h
 ·rename_i cu co cv cr lt tn mt cad cfr cis ctm ctk clf ccs cky ckv css ctt cau x y z k v
  obtain ⟨hpre,h2⟩:=chk_inv h;cases h2
  refine Eq.trans (b:=(let t0:Int:=Yk (Zf .i64 (↑(Yw css):Int)) 4;let t1:Int:=Yk (Zf .i64 (↑(Yw cu):Int)) 6;let t2:AV:=Zz .i64 (Zf .i64 (1000+Zf .i64 (Zf .i64 (↑(Yw cis):Int)*8)));Zx (chk (decide (0≤t1)&&decide (t1≤4611686018427387904)) (some (Wu [Zq (Kerb.Prin.name (Uz t1)),Zq (Kerb.Prin.inst (Uz t1)),Zq (Kerb.Prin.realm (Uz t1))],[]))) (kA fun cs=>onCons cs fun x_1 r=>AV.onStr x_1 fun b=>onCons r fun x_2 r=>AV.onStr x_2 fun b_1=>onCons r fun x_3 r=>AV.onStr x_3 fun b_2=>onNil r (Zx (chk (decide (0≤t0)&&decide (t0≤1000)) (some (Zz .u64 (Kerb.session t0),[]))) (kI .u64 fun n=>Zx (sel (Xd (Yy (Yk (↑(Yw cv):Int) (↑(Yw (7:UInt8)):Int)))==(6:UInt8)) (some [Zz .u64 k,Zz .i64 v,Zp cu,Zp co,Zp cv,Zp cr,Zj lt,Zj tn,Zj mt,Zp cad,Zp cfr,Zp cis,Zp ctm,Zp ctk,Zp clf,Zz .u32 ccs,Zp cky,Zp ckv,Zp css,Zz .u16 ctt,Zz .u16 cau,Zq x,Zq y,Zq z,Zj false,Zj false,Zz .i64 0,Zq [],Zd [],Zd [],Zj tn,Zq b,Zq b_1,Zq b_2,Zz .i64 (Yk (Zf .i64 (↑(Yw cad):Int)) 3),Zz .u64 n,Zz .i64 (Zf .i64 (Xp (Zf .i64 (↑(Yw clf):Int)) 4)),t2,Zq x,Zq [(111:UInt8),(116:UInt8),(104:UInt8),(101:UInt8),(114:UInt8)]]) (some [Zz .u64 k,Zz .i64 v,Zp cu,Zp co,Zp cv,Zp cr,Zj lt,Zj tn,Zj mt,Zp cad,Zp cfr,Zp cis,Zp ctm,Zp ctk,Zp clf,Zz .u32 ccs,Zp cky,Zp ckv,Zp css,Zz .u16 ctt,Zz .u16 cau,Zq x,Zq y,Zq z,Zj false,Zj false,Zz .i64 0,Zq [],Zd [],Zd [],Zj tn,Zq b,Zq b_1,Zq b_2,Zz .i64 (Yk (Zf .i64 (↑(Yw cad):Int)) 3),Zz .u64 n,Zz .i64 (Zf .i64 (Xp (Zf .i64 (↑(Yw clf):Int)) 4)),t2,Zq x,Zq y])) fun l=>cInt .u64 l fun n r=>cInt .i64 r fun n_1 r=>cU8 r fun b r=>cU8 r fun b_3 r=>let t3:Int:=Yk (Zf .i64 (↑(Yw b_3):Int)) 6;cU8 r fun b_4 r=>cU8 r fun b_5 r=>cBool r fun b_6 r=>cBool r fun b_7 r=>cBool r fun b_8 r=>cU8 r fun b_9 r=>cU8 r fun b_10 r=>cU8 r fun b_11 r=>cU8 r fun b_12 r=>let t4:List AV:=[Zz .i64 (Zf .i64 (1000+Zf .i64 (Zf .i64 (↑(Yw b_12):Int)*8)))];cU8 r fun b_13 r=>cU8 r fun b_14 r=>cInt .u32 r fun n_2 r=>let t5:List AV:=Zz .i64 (Zf .i64 n_2)::Zz .i64 (Yk (Zf .i64 (↑(Yw b_13):Int)) 3)::t4;cU8 r fun b_15 r=>cU8 r fun b_16 r=>cU8 r fun b_17 r=>cInt .u16 r fun n_3 r=>cInt .u16 r fun n_4 r=>cStr r fun b_18 r=>cStr r fun b_19 r=>cStr r fun b_20 r=>cBool r fun b_21 r=>cBool r fun b_22 r=>cInt .i64 r fun n_5 r=>cStr r fun b_23 r=>cBs r fun b_24 r=>cBs r fun b_25 r=>cBool r fun b_26 r=>cStr r fun b_27 r=>cStr r fun b_28 r=>cStr r fun b_29 r=>cInt .i64 r fun n_6 r=>cInt .u64 r fun n_7 r=>cInt .i64 r fun n_8 r=>cInt .i64 r fun n_9 r=>cStr r fun b_30 r=>cStr r fun b_31 r=>onNil r (Zx (sel (Xd (Yy (Yk (↑(Yw b_3):Int) (↑(Yw (8:UInt8)):Int)))==(7:UInt8)) (Zx (chk (decide (0≤t3)&&decide (t3≤4611686018427387904)) (some (Wu [Zq (Kerb.Prin.name (Uz t3)),Zq (Kerb.Prin.inst (Uz t3)),Zq (Kerb.Prin.realm (Uz t3))],[]))) (kA fun cs=>cStr cs fun b_32 r=>cStr r fun b_33 r=>cStr r fun b_34 r=>onNil r (some (Zz .u64 n::Zz .i64 n_1::Zp b::Zp b_3::Zp b_4::Zp b_5::Zj b_6::Zj b_7::Zj b_8::Zp b_9::Zp b_10::Zp b_11::Zp b_12::Zp b_13::Zp b_14::Zz .u32 n_2::Zp b_15::Zp b_16::Zp b_17::Zz .u16 n_3::Zz .u16 n_4::Zq b_18::Zq b_19::Zq b_20::Zj b_21::Zj b_22::Zz .i64 n_5::Zq b_23::Zd b_24::Zd b_25::Zj b_26::Zq b_27::Zq b_28::Zq b_29::Zz .i64 n_6::Zz .u64 n_7::Zz .i64 n_8::Zz .i64 n_9::Zq b_30::Zq b_31::Zq b_32::Zq b_33::Zq b_34::t5)))) (some (Zz .u64 n::Zz .i64 n_1::Zp b::Zp b_3::Zp b_4::Zp b_5::Zj b_6::Zj b_7::Zj b_8::Zp b_9::Zp b_10::Zp b_11::Zp b_12::Zp b_13::Zp b_14::Zz .u32 n_2::Zp b_15::Zp b_16::Zp b_17::Zz .u16 n_3::Zz .u16 n_4::Zq b_18::Zq b_19::Zq b_20::Zj b_21::Zj b_22::Zz .i64 n_5::Zq b_23::Zd b_24::Zd b_25::Zj b_26::Zq b_27::Zq b_28::Zq b_29::Zz .i64 n_6::Zz .u64 n_7::Zz .i64 n_8::Zz .i64 n_9::Zq b_30::Zq b_31::Zq b_27::Zq b_28::Zq b_29::t5))) fun l=>cInt .u64 l fun n r=>cInt .i64 r fun n_10 r=>cU8 r fun b r=>cU8 r fun b_32 r=>cU8 r fun b_33 r=>cU8 r fun b_34 r=>cBool r fun b_35 r=>cBool r fun b_36 r=>cBool r fun b_37 r=>cU8 r fun b_38 r=>cU8 r fun b_39 r=>cU8 r fun b_40 r=>cU8 r fun b_41 r=>cU8 r fun b_42 r=>cU8 r fun b_43 r=>cInt .u32 r fun n_11 r=>cU8 r fun b_44 r=>cU8 r fun b_45 r=>cU8 r fun b_46 r=>cInt .u16 r fun n_12 r=>cInt .u16 r fun n_13 r=>cStr r fun b_47 r=>cStr r fun b_48 r=>cStr r fun b_49 r=>cBool r fun b_50 r=>cBool r fun b_51 r=>cInt .i64 r fun n_14 r=>cStr r fun b_52 r=>cBs r fun b_53 r=>cBs r fun b_54 r=>cBool r fun b_55 r=>cStr r fun b_56 r=>cStr r fun b_57 r=>cStr r fun b_58 r=>cInt .i64 r fun n_15 r=>cInt .u64 r fun n_16 r=>cInt .i64 r fun n_17 r=>cInt .i64 r fun n_18 r=>cStr r fun b_59 r=>cStr r fun b_60 r=>cStr r fun b_61 r=>cStr r fun b_62 r=>cStr r fun b_63 r=>cInt .i64 r fun n_19 r=>cInt .i64 r fun n_20 r=>cInt .i64 r fun n_21 r=>onNil r (Zx (chk (l63 b_56&&l63 b_57&&l63 b_58&&l63 b_59&&l63 b_60&&decide (0≤n_16)&&decide (n_16<18446744073709551616)&&decide (0≤n)&&decide (n<18446744073709551616)) (some (Zh [Zd (Xw (Kerb.sealTicket (Vp b_55 (Zg b_56 b_57 b_58) n_15 n_16 n_17 n_18 b_59 b_60) n)),Zz .i64 (Xv (Kerb.sealTicket (Vp b_55 (Zg b_56 b_57 b_58) n_15 n_16 n_17 n_18 b_59 b_60) n))],[]))) (kT fun vs=>cBs vs fun b_64 r=>cInt .i64 r fun n r=>onNil r (Zx (chk (l63 b_61&&l63 b_62&&l63 b_63&&decide (0≤n_16)&&decide (n_16<18446744073709551616)) (some (Zh [Zd (Xw (Kerb.sealAuth (Wm (Zg b_61 b_62 b_63) n_19 n_20 n_21) b_35 n_16)),Zz .i64 (Xv (Kerb.sealAuth (Wm (Zg b_61 b_62 b_63) n_19 n_20 n_21) b_35 n_16))],[]))) (kT fun vs=>cBs vs fun b_65 r=>cInt .i64 r fun n r=>onNil r (Zx (sel (Yk n_12 16==15) (Zx (chk (decide (Zy b_64≤1000000)&&decide (0≤Zf .u16 (Xp n_12 16))&&decide (Zf .u16 (Xp n_12 16)≤65535)) (some (Zd (Xu b_64 (Zf .u16 (Xp n_12 16))),[]))) (kB fun b_66=>some [Zp b,Zp b_32,Zp b_33,Zp b_34,Zj b_35,Zj b_36,Zj b_37,Zp b_38,Zp b_39,Zp b_40,Zp b_41,Zp b_42,Zp b_43,Zz .u32 n_11,Zp b_44,Zp b_45,Zp b_46,Zz .u16 n_12,Zz .u16 n_13,Zj b_50,Zj b_51,Zz .i64 n_14,Zq b_52,Zd b_53,Zd b_54,Zd b_65,Zj b_35,Zj b_37,Zz .i64 n_10,Zq b_49,Zd b_66,Zd b_65])) (some [Zp b,Zp b_32,Zp b_33,Zp b_34,Zj b_35,Zj b_36,Zj b_37,Zp b_38,Zp b_39,Zp b_40,Zp b_41,Zp b_42,Zp b_43,Zz .u32 n_11,Zp b_44,Zp b_45,Zp b_46,Zz .u16 n_12,Zz .u16 n_13,Zj b_50,Zj b_51,Zz .i64 n_14,Zq b_52,Zd b_53,Zd b_54,Zd b_65,Zj b_35,Zj b_37,Zz .i64 n_10,Zq b_49,Zd b_64,Zd b_65])) fun l=>cU8 l fun b r=>cU8 r fun b_66 r=>cU8 r fun b_67 r=>cU8 r fun b_68 r=>cBool r fun b_69 r=>cBool r fun b_70 r=>cBool r fun b_71 r=>cU8 r fun b_72 r=>cU8 r fun b_73 r=>cU8 r fun b_74 r=>cU8 r fun b_75 r=>cU8 r fun b_76 r=>cU8 r fun b_77 r=>cInt .u32 r fun n r=>cU8 r fun b_78 r=>cU8 r fun b_79 r=>cU8 r fun b_80 r=>cInt .u16 r fun n_22 r=>cInt .u16 r fun n_23 r=>cBool r fun b_81 r=>cBool r fun b_82 r=>cInt .i64 r fun n_24 r=>cStr r fun b_83 r=>cBs r fun b_84 r=>cBs r fun b_85 r=>cBs r fun b_86 r=>cBool r fun b_87 r=>cBool r fun b_88 r=>cInt .i64 r fun n_25 r=>cStr r fun b_89 r=>cBs r fun b_90 r=>cBs r fun b_91 r=>onNil r (Zx (sel (Yk n_23 16==15) (Zx (chk (decide (Zy b_86≤1000000)&&decide (0≤Zf .u16 (Xp n_23 16))&&decide (Zf .u16 (Xp n_23 16)≤65535)) (some (Zd (Xu b_86 (Zf .u16 (Xp n_23 16))),[]))) (kB fun b_92=>some [Zp b,Zp b_66,Zp b_67,Zp b_68,Zj b_69,Zj b_70,Zj b_71,Zp b_72,Zp b_73,Zp b_74,Zp b_75,Zp b_76,Zp b_77,Zz .u32 n,Zp b_78,Zp b_79,Zp b_80,Zz .u16 n_22,Zz .u16 n_23,Zj b_81,Zj b_82,Zz .i64 n_24,Zq b_83,Zd b_84,Zd b_85,Zj b_87,Zj b_88,Zz .i64 n_25,Zq b_89,Zd b_90,Zd b_92])) (some [Zp b,Zp b_66,Zp b_67,Zp b_68,Zj b_69,Zj b_70,Zj b_71,Zp b_72,Zp b_73,Zp b_74,Zp b_75,Zp b_76,Zp b_77,Zz .u32 n,Zp b_78,Zp b_79,Zp b_80,Zz .u16 n_22,Zz .u16 n_23,Zj b_81,Zj b_82,Zz .i64 n_24,Zq b_83,Zd b_84,Zd b_85,Zj b_87,Zj b_88,Zz .i64 n_25,Zq b_89,Zd b_90,Zd b_91])) fun l=>cU8 l fun b r=>cU8 r fun b_92 r=>cU8 r fun b_93 r=>cU8 r fun b_94 r=>cBool r fun b_95 r=>cBool r fun b_96 r=>cBool r fun b_97 r=>cU8 r fun b_98 r=>cU8 r fun b_99 r=>cU8 r fun b_100 r=>cU8 r fun b_101 r=>cU8 r fun b_102 r=>cU8 r fun b_103 r=>cInt .u32 r fun n r=>cU8 r fun b_104 r=>cU8 r fun b_105 r=>cU8 r fun b_106 r=>cInt .u16 r fun n_26 r=>cInt .u16 r fun n_27 r=>cBool r fun b_107 r=>cBool r fun b_108 r=>cInt .i64 r fun n_28 r=>cStr r fun b_109 r=>cBs r fun b_110 r=>cBs r fun b_111 r=>cBool r fun b_112 r=>cBool r fun b_113 r=>cInt .i64 r fun n_29 r=>cStr r fun b_114 r=>cBs r fun b_115 r=>cBs r fun b_116 r=>let t6:List AV:=[Zj b_113,Zz .i64 n_29,Zq b_114,Zd b_115,Zd b_116];onNil r (Zx (sel (Yk n_27 16==14) (some (Zp b::Zp b_92::Zp b_93::Zp b_94::Zj b_95::Zj b_96::Zj b_97::Zp b_98::Zp b_99::Zp b_100::Zp b_101::Zp b_102::Zp b_103::Zz .u32 n::Zp b_104::Zp b_105::Zp b_106::Zz .u16 n_26::Zz .u16 n_27::Zj b_107::Zj b_108::Zz .i64 n_28::Zq b_109::Zd b_110::Zd b_111::(Zj !b_112)::t6)) (some (Zp b::Zp b_92::Zp b_93::Zp b_94::Zj b_95::Zj b_96::Zj b_97::Zp b_98::Zp b_99::Zp b_100::Zp b_101::Zp b_102::Zp b_103::Zz .u32 n::Zp b_104::Zp b_105::Zp b_106::Zz .u16 n_26::Zz .u16 n_27::Zj b_107::Zj b_108::Zz .i64 n_28::Zq b_109::Zd b_110::Zd b_111::Zj b_112::t6))) fun l=>cU8 l fun b r=>cU8 r fun b_117 r=>cU8 r fun b_118 r=>cU8 r fun b_119 r=>cBool r fun b_120 r=>cBool r fun b_121 r=>cBool r fun b_122 r=>cU8 r fun b_123 r=>cU8 r fun b_124 r=>cU8 r fun b_125 r=>cU8 r fun b_126 r=>cU8 r fun b_127 r=>cU8 r fun b_128 r=>cInt .u32 r fun n r=>cU8 r fun b_129 r=>cU8 r fun b_130 r=>cU8 r fun b_131 r=>cInt .u16 r fun n_30 r=>cInt .u16 r fun n_31 r=>cBool r fun b_132 r=>cBool r fun b_133 r=>cInt .i64 r fun n_32 r=>cStr r fun b_134 r=>cBs r fun b_135 r=>cBs r fun b_136 r=>cBool r fun b_137 r=>cBool r fun b_138 r=>cInt .i64 r fun n_33 r=>cStr r fun b_139 r=>cBs r fun b_140 r=>cBs r fun b_141 r=>onNil r (Zx (sel (Xd (Yy (Yk (↑(Yw b_130):Int) (↑(Yw (16:UInt8)):Int)))==(15:UInt8)) (some [Zp b,Zp b_117,Zp b_118,Zp b_119,Zj b_120,Zj b_121,Zj b_122,Zp b_123,Zp b_124,Zp b_125,Zp b_126,Zp b_127,Zp b_128,Zz .u32 n,Zp b_129,Zp b_130,Zp b_131,Zz .u16 n_30,Zz .u16 n_31,Zj b_132,Zj b_133,Zz .i64 n_32,Zq b_134,Zd b_135,Zd b_136,Zj b_137,Zj b_138,Zz .i64 (Zf .i64 (n_33+1)),Zq b_139,Zd b_140,Zd b_141]) (some [Zp b,Zp b_117,Zp b_118,Zp b_119,Zj b_120,Zj b_121,Zj b_122,Zp b_123,Zp b_124,Zp b_125,Zp b_126,Zp b_127,Zp b_128,Zz .u32 n,Zp b_129,Zp b_130,Zp b_131,Zz .u16 n_30,Zz .u16 n_31,Zj b_132,Zj b_133,Zz .i64 n_32,Zq b_134,Zd b_135,Zd b_136,Zj b_137,Zj b_138,Zz .i64 n_33,Zq b_139,Zd b_140,Zd b_141])) fun l=>cU8 l fun b r=>cU8 r fun b r=>cU8 r fun b r=>cU8 r fun b r=>cBool r fun b_142 r=>cBool r fun b_143 r=>cBool r fun b_144 r=>cU8 r fun b_145 r=>cU8 r fun b_146 r=>cU8 r fun b_147 r=>cU8 r fun b_148 r=>cU8 r fun b_149 r=>cU8 r fun b_150 r=>cInt .u32 r fun n r=>cU8 r fun b_151 r=>cU8 r fun b_152 r=>cU8 r fun b_153 r=>cInt .u16 r fun n r=>cInt .u16 r fun n r=>cBool r fun b_154 r=>cBool r fun b_155 r=>cInt .i64 r fun n r=>cStr r fun b_156 r=>cBs r fun b_157 r=>cBs r fun b_158 r=>cBool r fun b_159 r=>cBool r fun b_160 r=>cInt .i64 r fun n_34 r=>cStr r fun b_161 r=>cBs r fun b_162 r=>cBs r fun b_163 r=>onNil r (Zx (sel (Xd (Yy (Yk (↑(Yw b):Int) (↑(Yw (16:UInt8)):Int)))==(15:UInt8)) (some [Zj b_154,Zj b_155,Zz .i64 n,Zq b_156,Zd b_157,Zd b_158,Zj b_159,Zj b_160,Zz .i64 n_34,Zq [(67:UInt8),(65:UInt8),(77:UInt8)],Zd b_162,Zd b_163]) (some [Zj b_154,Zj b_155,Zz .i64 n,Zq b_156,Zd b_157,Zd b_158,Zj b_159,Zj b_160,Zz .i64 n_34,Zq b_161,Zd b_162,Zd b_163])) fun l=>cBool l fun b r=>cBool r fun b r=>cInt .i64 r fun n r=>cStr r fun b r=>cBs r fun b r=>cBs r fun b r=>cBool r fun b r=>cBool r fun b_164 r=>cInt .i64 r fun n r=>cStr r fun b_165 r=>cBs r fun b_166 r=>cBs r fun b_167 r=>onNil r (some (Wu [Zj b,Zj b_164,Zz .i64 n,Zq b_165,Zd b_166,Zd b_167],[]))))))))))))))):Option (AV×Blocks))) (by kernel_rfl) ?_
  delta kT kA kB kI
  try dsimp only [cStr,cBs,cBool,cU8,cInt,cSl,l63]
  simp only [Yz,decide_eq_true_eq] at hpre
  obtain ⟨⟨⟨⟨⟨⟨⟨⟨⟨⟨⟨l1,l2⟩,l3⟩,hk⟩,v0⟩,v1⟩,c0⟩,c1⟩,t0⟩,t1⟩,a0⟩,a1⟩:=hpre
  have hk:=Kerb.isU64_iff.1 hk
  have bcu:=Xf cu
  have bco:=Xf co
  have bcs:=Xf css
  have bca:=Xf cad
  have bci:=Xf cis
  have bct:=Xf ctm
  have bck:=Xf ctk
  have bcl:=Xf clf
  have f1:Yk (Zb cu) 6=Zb cu % 6:=Yp bcu.1
  have f2:Yk (Zb co) 6=Zb co % 6:=Yp bco.1
  have f3:Yk (Zb css) 4=Zb css % 4:=Yp bcs.1
  have f4:Yk (Zb cad) 3=Zb cad % 3:=Yp bca.1
  have f5:Zf .i64 (1000+Zf .i64 (Zb cis*8))=1000+Zb cis*8:=by rw [wrap_i64 (n:=Zb cis*8) (by omega) (by omega)];exact wrap_i64 (by omega) (by omega)
  have f6:Zf .i64 (1000+Zf .i64 (Zb ctm*8))=1000+Zb ctm*8:=by rw [wrap_i64 (n:=Zb ctm*8) (by omega) (by omega)];exact wrap_i64 (by omega) (by omega)
  have f7:Yk (Zb ctk) 3=Zb ctk % 3:=Yp bck.1
  have f8:Zf .i64 (Xp (Zb clf) 4)=Zb clf / 4:=by rw [Wd bcl.1];exact wrap_i64 (by omega) (by omega)
  have f9:Zf .i64 ccs=ccs:=wrap_i64 (by omega) (by omega)
  have fa:Zf .i64 (v+1)=v+1:=wrap_i64 (by omega) (by omega)
  have fb:Yk ctt 16=ctt % 16:=Yp (by omega)
  have fc:Yk cau 16=cau % 16:=Yp (by omega)
  have fd:Zf .u16 (Xp ctt 16)=ctt / 16:=by rw [Wd (by omega)];rw [Kerb.wrap_u16];omega
  have fe:Zf .u16 (Xp cau 16)=cau / 16:=by rw [Wd (by omega)];rw [Kerb.wrap_u16];omega
  have g1:(decide ((0:Int)≤Zb cu % 6)&&decide (Zb cu % 6≤4611686018427387904))=true:=by simp;omega
  have g2:(decide ((0:Int)≤Zb co % 6)&&decide (Zb co % 6≤4611686018427387904))=true:=by simp;omega
  have g3:(decide ((0:Int)≤Zb css % 4)&&decide (Zb css % 4≤1000))=true:=by simp;omega
  have g4:(decide ((0:Int)≤ctt / 16)&&decide (ctt / 16≤65535))=true:=by simp;omega
  have g5:(decide ((0:Int)≤cau / 16)&&decide (cau / 16≤65535))=true:=by simp;omega
  have u1:(Xd (Yy (Yk (cv.toNat:Int) ((7:UInt8).toNat:Int)))==(6:UInt8))=decide (cv.toNat % 7=6):=by
   have h7:Yy (Yk (cv.toNat:Int) ((7:UInt8).toNat:Int))=cv.toNat % 7:=Kerb.tmod_u8 cv 7 (by omega)
   rw [h7];exact Kerb.u8_beq (k:=6) (by omega) (by decide)
  have u2:(Xd (Yy (Yk (co.toNat:Int) ((8:UInt8).toNat:Int)))==(7:UInt8))=decide (co.toNat % 8=7):=by
   have h7:Yy (Yk (co.toNat:Int) ((8:UInt8).toNat:Int))=co.toNat % 8:=Kerb.tmod_u8 co 8 (by omega)
   rw [h7];exact Kerb.u8_beq (k:=7) (by omega) (by decide)
  have u3:(Xd (Yy (Yk (ckv.toNat:Int) ((16:UInt8).toNat:Int)))==(15:UInt8))=decide (ckv.toNat % 16=15):=by
   have h7:Yy (Yk (ckv.toNat:Int) ((16:UInt8).toNat:Int))=ckv.toNat % 16:=Kerb.tmod_u8 ckv 16 (by omega)
   rw [h7];exact Kerb.u8_beq (k:=15) (by omega) (by decide)
  have u4:(Xd (Yy (Yk (cr.toNat:Int) ((16:UInt8).toNat:Int)))==(15:UInt8))=decide (cr.toNat % 16=15):=by
   have h7:Yy (Yk (cr.toNat:Int) ((16:UInt8).toNat:Int))=cr.toNat % 16:=Kerb.tmod_u8 cr 16 (by omega)
   rw [h7];exact Kerb.u8_beq (k:=15) (by omega) (by decide)
  obtain ⟨W,hW⟩:∃ x,Uz (Zb cu % 6)=x:=⟨_,rfl⟩
  obtain ⟨E,hE⟩:∃ x,Kerb.session (Zb css % 4)=x:=⟨_,rfl⟩
  obtain ⟨IN,hIN⟩:∃ q,(if cv.toNat % 7=6 then ([111,116,104,101,114]:List UInt8) else y)=q:=⟨_,rfl⟩
  obtain ⟨V,hV⟩:∃ q,(if co.toNat % 8=7 then Uz (Zb co % 6) else W)=q:=⟨_,rfl⟩
  have hT:Kerb.Case.x (Zm cu co cv cr lt tn mt cad cfr cis ctm ctk clf ccs cky ckv css ctt cau) ⟨x,y,z⟩ k=(Kerb.sealTicket ⟨tn,W,Zb cad % 3,E,Zb clf / 4,1000+Zb cis*8,x,IN⟩ k).val:=by rw [← hW,← hE,← hIN];rfl
  have hA:Kerb.Case.y (Zm cu co cv cr lt tn mt cad cfr cis ctm ctk clf ccs cky ckv css ctt cau)=(Kerb.sealAuth ⟨V,ccs,Zb ctk % 3,1000+Zb ctm*8⟩ lt E).val:=by rw [← hV,← hW,← hE];rfl
  obtain ⟨X,hX⟩:∃ q,Kerb.Case.x (Zm cu co cv cr lt tn mt cad cfr cis ctm ctk clf ccs cky ckv css ctt cau) ⟨x,y,z⟩ k=q:=⟨_,rfl⟩
  obtain ⟨Y,hY⟩:∃ q,Kerb.Case.y (Zm cu co cv cr lt tn mt cad cfr cis ctm ctk clf ccs cky ckv css ctt cau)=q:=⟨_,rfl⟩
  have hR:Kerb.Case.req (Zm cu co cv cr lt tn mt cad cfr cis ctm ctk clf ccs cky ckv css ctt cau) ⟨x,y,z⟩ k v=⟨if cau % 16=14 then !lt else lt,mt,if ckv.toNat % 16=15 then v+1 else v,if cr.toNat % 16=15 then [67,65,77] else z,if ctt % 16=15 then Xu X (ctt / 16) else X,if cau % 16=15 then Xu Y (cau / 16) else Y⟩:=by rw [← hX,← hY];rfl
  rw [hX] at hT
  rw [hY] at hA
  have lW:W.name.length≤9223372036854775807∧W.inst.length≤9223372036854775807∧W.realm.length≤9223372036854775807:=by rw [← hW];exact Kerb.user_dec _
  have lV:V.name.length≤9223372036854775807∧V.inst.length≤9223372036854775807∧V.realm.length≤9223372036854775807:=by
   rw [← hV]
   split
   ·exact Kerb.user_dec _
   ·exact lW
  have lE:0≤E∧E<18446744073709551616:=by rw [← hE];exact Kerb.session_bd2 _
  have lI:IN.length≤9223372036854775807:=by
   rw [← hIN]
   split
   ·simp
   ·exact l2
  have lX:X.length≤1000000:=by rw [hT];have:=Kerb.sealTicket_len ⟨tn,W,Zb cad % 3,E,Zb clf / 4,1000+Zb cis*8,x,IN⟩ k;omega
  have lY:Y.length≤1000000:=by rw [hA];have:=Kerb.sealAuth_len ⟨V,ccs,Zb ctk % 3,1000+Zb ctm*8⟩ lt E;omega
  rw [hR]
  simp (config:={maxSteps:=10000000}) only [Ww,f1,f2,f3,f4,f5,f6,f7,f8,f9,fa,fb,fc,fd,fe,g1,g2,g3,g4,g5,u1,u2,u3,u4,hW,hE,↓sInt,↓sU8,↓sBool,↓sStr,↓sBs,↓sSl,↓sAgg,↓sTup,↓sCons,↓sNil,↓sNilB,↓sChk,↓sChkBind,↓sSome]
  refine bind_via (fun ls=>ls=[Zz IntKind.u64 k,Zz Zk v,Zp cu,Zp co,Zp cv,Zp cr,Zj lt,Zj tn,Zj mt,Zp cad,Zp cfr,Zp cis,Zp ctm,Zp ctk,Zp clf,Zz Ux ccs,Zp cky,Zp ckv,Zp css,Zz Xk ctt,Zz Xk cau,Zq x,Zq y,Zq z,Zj false,Zj false,Zz Zk 0,Zq [],Zd [],Zd [],Zj tn,Zq W.name,Zq W.inst,Zq W.realm,Zz Zk (Zb cad % 3),Zz IntKind.u64 E,Zz Zk (Zb clf / 4),Zz Zk (1000+Zb cis*8),Zq x,Zq IN]) ⟨_,?_,rfl⟩ ?_
  ·rw [← hIN]
   by_cases h:cv.toNat % 7=6
   ·rw [if_pos h,decide_eq_true h];rfl
   ·rw [if_neg h,decide_eq_false h];rfl
  rintro _ rfl
  simp (config:={maxSteps:=10000000}) only [Ww,f1,f2,f3,f4,f5,f6,f7,f8,f9,fa,fb,fc,fd,fe,g1,g2,g3,g4,g5,u1,u2,u3,u4,↓sInt,↓sU8,↓sBool,↓sStr,↓sBs,↓sSl,↓sAgg,↓sTup,↓sCons,↓sNil,↓sNilB,↓sChk,↓sChkBind,↓sSome]
  refine bind_via (fun ls=>ls=[Zz IntKind.u64 k,Zz Zk v,Zp cu,Zp co,Zp cv,Zp cr,Zj lt,Zj tn,Zj mt,Zp cad,Zp cfr,Zp cis,Zp ctm,Zp ctk,Zp clf,Zz Ux ccs,Zp cky,Zp ckv,Zp css,Zz Xk ctt,Zz Xk cau,Zq x,Zq y,Zq z,Zj false,Zj false,Zz Zk 0,Zq [],Zd [],Zd [],Zj tn,Zq W.name,Zq W.inst,Zq W.realm,Zz Zk (Zb cad % 3),Zz IntKind.u64 E,Zz Zk (Zb clf / 4),Zz Zk (1000+Zb cis*8),Zq x,Zq IN,Zq V.name,Zq V.inst,Zq V.realm,Zz Zk ccs,Zz Zk (Zb ctk % 3),Zz Zk (1000+Zb ctm*8)]) ⟨_,?_,rfl⟩ ?_
  ·rw [← hV]
   by_cases h:co.toNat % 8=7
   ·rw [if_pos h,decide_eq_true h];rfl
   ·rw [if_neg h,decide_eq_false h];rfl
  rintro _ rfl
  simp (config:={maxSteps:=10000000}) only [l1,lW,lV,lE,lI,hk,decide_true,Yg,← hT,← hA,Ww,f1,f2,f3,f4,f5,f6,f7,f8,f9,fa,fb,fc,fd,fe,g1,g2,g3,g4,g5,u1,u2,u3,u4,↓sInt,↓sU8,↓sBool,↓sStr,↓sBs,↓sSl,↓sAgg,↓sTup,↓sCons,↓sNil,↓sNilB,↓sChk,↓sChkBind,↓sSome]
  refine bind_via (fun ls=>ls=[Zp cu,Zp co,Zp cv,Zp cr,Zj lt,Zj tn,Zj mt,Zp cad,Zp cfr,Zp cis,Zp ctm,Zp ctk,Zp clf,Zz Ux ccs,Zp cky,Zp ckv,Zp css,Zz Xk ctt,Zz Xk cau,Zj false,Zj false,Zz Zk 0,Zq [],Zd [],Zd [],Zd Y,Zj lt,Zj mt,Zz Zk v,Zq z,Zd (if ctt % 16=15 then Xu X (ctt / 16) else X),Zd Y]) ⟨_,?_,rfl⟩ ?_
  ·by_cases h:ctt % 16=15
   ·rw [if_pos h,sel_pos (by simpa using h),chk_of (by simp only [lX,g4,decide_true,Wv])]
   ·rw [if_neg h,sel_neg (by simpa using h)]
  rintro _ rfl
  simp (config:={maxSteps:=10000000}) only [Ww,f1,f2,f3,f4,f5,f6,f7,f8,f9,fa,fb,fc,fd,fe,g1,g2,g3,g4,g5,u1,u2,u3,u4,↓sInt,↓sU8,↓sBool,↓sStr,↓sBs,↓sSl,↓sAgg,↓sTup,↓sCons,↓sNil,↓sNilB,↓sChk,↓sChkBind,↓sSome]
  refine bind_via (fun ls=>ls=[Zp cu,Zp co,Zp cv,Zp cr,Zj lt,Zj tn,Zj mt,Zp cad,Zp cfr,Zp cis,Zp ctm,Zp ctk,Zp clf,Zz Ux ccs,Zp cky,Zp ckv,Zp css,Zz Xk ctt,Zz Xk cau,Zj false,Zj false,Zz Zk 0,Zq [],Zd [],Zd [],Zj lt,Zj mt,Zz Zk v,Zq z,Zd (if ctt % 16=15 then Xu X (ctt / 16) else X),Zd (if cau % 16=15 then Xu Y (cau / 16) else Y)]) ⟨_,?_,rfl⟩ ?_
  ·by_cases h:cau % 16=15
   ·rw [if_pos h,sel_pos (by simpa using h),chk_of (by simp only [lY,g5,decide_true,Wv])]
   ·rw [if_neg h,sel_neg (by simpa using h)]
  rintro _ rfl
  simp (config:={maxSteps:=10000000}) only [Ww,f1,f2,f3,f4,f5,f6,f7,f8,f9,fa,fb,fc,fd,fe,g1,g2,g3,g4,g5,u1,u2,u3,u4,↓sInt,↓sU8,↓sBool,↓sStr,↓sBs,↓sSl,↓sAgg,↓sTup,↓sCons,↓sNil,↓sNilB,↓sChk,↓sChkBind,↓sSome]
  refine bind_via (fun ls=>ls=[Zp cu,Zp co,Zp cv,Zp cr,Zj lt,Zj tn,Zj mt,Zp cad,Zp cfr,Zp cis,Zp ctm,Zp ctk,Zp clf,Zz Ux ccs,Zp cky,Zp ckv,Zp css,Zz Xk ctt,Zz Xk cau,Zj false,Zj false,Zz Zk 0,Zq [],Zd [],Zd [],Zj (if cau % 16=14 then !lt else lt),Zj mt,Zz Zk v,Zq z,Zd (if ctt % 16=15 then Xu X (ctt / 16) else X),Zd (if cau % 16=15 then Xu Y (cau / 16) else Y)]) ⟨_,?_,rfl⟩ ?_
  ·by_cases h:cau % 16=14
   ·rw [if_pos h,sel_pos (by simpa using h)]
   ·rw [if_neg h,sel_neg (by simpa using h)]
  rintro _ rfl
  simp (config:={maxSteps:=10000000}) only [Ww,f1,f2,f3,f4,f5,f6,f7,f8,f9,fa,fb,fc,fd,fe,g1,g2,g3,g4,g5,u1,u2,u3,u4,↓sInt,↓sU8,↓sBool,↓sStr,↓sBs,↓sSl,↓sAgg,↓sTup,↓sCons,↓sNil,↓sNilB,↓sChk,↓sChkBind,↓sSome]
  refine bind_via (fun ls=>ls=[Zp cu,Zp co,Zp cv,Zp cr,Zj lt,Zj tn,Zj mt,Zp cad,Zp cfr,Zp cis,Zp ctm,Zp ctk,Zp clf,Zz Ux ccs,Zp cky,Zp ckv,Zp css,Zz Xk ctt,Zz Xk cau,Zj false,Zj false,Zz Zk 0,Zq [],Zd [],Zd [],Zj (if cau % 16=14 then !lt else lt),Zj mt,Zz Zk (if ckv.toNat % 16=15 then v+1 else v),Zq z,Zd (if ctt % 16=15 then Xu X (ctt / 16) else X),Zd (if cau % 16=15 then Xu Y (cau / 16) else Y)]) ⟨_,?_,rfl⟩ ?_
  ·by_cases h:ckv.toNat % 16=15
   ·rw [if_pos h,decide_eq_true h];rfl
   ·rw [if_neg h,decide_eq_false h];rfl
  rintro _ rfl
  simp (config:={maxSteps:=10000000}) only [Ww,f1,f2,f3,f4,f5,f6,f7,f8,f9,fa,fb,fc,fd,fe,g1,g2,g3,g4,g5,u1,u2,u3,u4,↓sInt,↓sU8,↓sBool,↓sStr,↓sBs,↓sSl,↓sAgg,↓sTup,↓sCons,↓sNil,↓sNilB,↓sChk,↓sChkBind,↓sSome]
  by_cases h:cr.toNat % 16=15
  ·rw [if_pos h,decide_eq_true h];rfl
  ·rw [if_neg h,decide_eq_false h];rfl
 ·cases h
theorem w59:Walked Tryz.prog G 59 7 sp59:=by
 refine ⟨Tryz.f59,Tryz.func59,by decide +kernel,rfl,fun xs bl r h=> ?_⟩
 unfold sp59 at h
 split at h
 ·rename_i rl els xls n i now
  obtain ⟨hpre,h2⟩:=chk_inv h;cases h2
  refine Eq.trans (b:=(let t0:Option (AV×Blocks):=Zx (chk (List.all els Kerb.isEntry&&decide (Zy els≤1000000)) (some (Zh [Zz .i64 (Xy (Vm (Kerb.Db.mk rl (Vg Kerb.toEntry els)) n i now)),Zz .i64 (Ym (Vm (Kerb.Db.mk rl (Vg Kerb.toEntry els)) n i now))],[]))) (kT fun vs=>cInt .i64 vs fun n r=>cInt .i64 r fun n_1 r=>onNil r (sel (!n_1==0) (some (Zh [Zz .u64 0,Zz .i64 0,Zz .i64 0,Zz .i64 0,Zz .i64 n_1],[])) (chk (decide (0≤n)&&decide (n<(↑(Zy els):Int))&&true) (Uq (Wx els (Yy n) Uu) fun cs=>cStr cs fun b r=>cStr r fun b r=>cInt .u64 r fun n r=>cInt .i64 r fun n_2 r=>cInt .i64 r fun n_3 r=>cInt .i64 r fun n_4 r=>cInt .i64 r fun n_5 r=>cInt .i64 r fun n_6 r=>cInt .i64 r fun n_7 r=>onNil r (some (Zh [Zz .u64 n,Zz .i64 n_2,Zz .i64 n_4,Zz .i64 n_3,Zz .i64 0],[]))))));sel (n==Xg) (Zx (chk (l63 i) (some (Zj (Wb i),[]))) (kL fun b=>sel b (sel (!i==rl) (Zx (chk (List.all xls Kerb.isCross&&decide (Zy xls≤1000000)) (some (Zh [Zz .i64 (Xy (Vv (Vg Kerb.toCross xls) rl i)),Zj (Ym (Vv (Vg Kerb.toCross xls) rl i))],[]))) (kT fun vs=>cInt .i64 vs fun n r=>cBool r fun b r=>onNil r (sel (!b) (some (Zh [Zz .u64 0,Zz .i64 0,Zz .i64 0,Zz .i64 0,Zz .i64 8],[])) (chk (decide (0≤n)&&decide (n<(↑(Zy xls):Int))&&true) (Uq (Wx xls (Yy n) Uu) fun cs=>cStr cs fun b r=>cStr r fun b r=>cInt .i64 r fun n_1 r=>cInt .u64 r fun n_2 r=>onNil r (chk (decide (0≤n)&&decide (n<(↑(Zy xls):Int))&&true) (Uq (Wx xls (Yy n) Uu) fun cs=>cStr cs fun b r=>cStr r fun b r=>cInt .i64 r fun n r=>cInt .u64 r fun n_3 r=>onNil r (some (Zh [Zz .u64 n_2,Zz .i64 n,Zz .i64 255,Zz .i64 0,Zz .i64 0],[]))))))))) t0) t0)) t0:Option (AV×Blocks))) (by kernel_rfl) ?_
  delta kT kL
  try dsimp only [cStr,cBs,cBool,cU8,cInt,cSl,l63]
  simp only [Yz,decide_eq_true_eq] at hpre
  obtain ⟨⟨⟨⟨hall,hlen⟩,hx⟩,hxl⟩,hi⟩:=hpre
  obtain ⟨es,rfl,hok⟩:=Kerb.ents_of hall
  obtain ⟨cs,rfl⟩:=Kerb.cross_of hx
  rw [Kerb.map_toEntry,Kerb.map_toCross]
  simp only [hall,hlen,hx,hxl,hi,decide_true,Yg,↓A0,A0]
  simp only [Yh] at hlen hxl ⊢
  unfold Kerb.svc
  dsimp only
  have hkr:(n==[(107:UInt8),(114:UInt8),(98:UInt8),(116:UInt8),(103:UInt8),(116:UInt8)])=(n==Xg):=rfl
  try rw [hkr]
  cases n==Xg
  ·simp only [Yx,Uw,sel_true,sel_false]
   by_cases he:(Vm ⟨rl,es⟩ n i now).2=0
   case neg=>rw [sel_pos (by simpa using he),if_neg (by simp),if_pos he]
   obtain ⟨u1,u2⟩:=Kerb.serv_lt he
   dsimp only at u2
   rw [sel_neg (by simpa using he),if_neg (by simp),if_neg (by simpa using he),chk_of (by simp;omega),Kerb.getD_ent u2]
   simp only [Kerb.Entry.av,↓A0,A0]
  cases Wb i
  ·simp only [Yx,Uw,sel_true,sel_false]
   by_cases he:(Vm ⟨rl,es⟩ n i now).2=0
   case neg=>rw [sel_pos (by simpa using he),if_neg (by simp),if_pos he]
   obtain ⟨u1,u2⟩:=Kerb.serv_lt he
   dsimp only at u2
   rw [sel_neg (by simpa using he),if_neg (by simp),if_neg (by simpa using he),chk_of (by simp;omega),Kerb.getD_ent u2]
   simp only [Kerb.Entry.av,↓A0,A0]
  cases i==rl
  ·simp only [Yx,Uw,sel_true,sel_false]
   by_cases he:(Vv cs rl i).2=true
   ·obtain ⟨u1,u2⟩:=Kerb.findCross_lt he
    have hk:(decide (0≤(Vv cs rl i).1)&&decide ((Vv cs rl i).1<(cs.length:Int))&&true)=true:=by simp;omega
    simp only [he,hk,Kerb.getD_cross u2,Kerb.Cross.av,Yx,Yg,Uw,if_true,↓A0,A0]
   ·have he2:(Vv cs rl i).2=false:=by simpa using he
    rw [he2]
    rfl
  ·simp only [Yx,Uw,sel_true,sel_false]
   by_cases he:(Vm ⟨rl,es⟩ n i now).2=0
   case neg=>rw [sel_pos (by simpa using he),if_neg (by simp),if_pos he]
   obtain ⟨u1,u2⟩:=Kerb.serv_lt he
   dsimp only at u2
   rw [sel_neg (by simpa using he),if_neg (by simp),if_neg (by simpa using he),chk_of (by simp;omega),Kerb.getD_ent u2]
   simp only [Kerb.Entry.av,↓A0,A0]
 ·cases h
theorem w93:Walked Tryz.prog G 93 7 sp93:=by
 refine ⟨Tryz.f93,Tryz.func93,by decide +kernel,rfl,fun xs bl r h=> ?_⟩
 unfold sp93 at h
 split at h
 ·rename_i li mu kv rl tk au
  obtain ⟨hpre,h2⟩:=chk_inv h;cases h2
  refine Eq.trans (b:=(Zx (chk (l63 rl) (some (Zj (Wb rl),[]))) (kL fun b=>sel (!b) (some (Zh [Zd [],Zz .i64 103],[])) (sel (!Zn kv 255) (some (Zh [Zd [],Zz .i64 104],[])) (sel (decide ((↑(Zy tk):Int)>255)) (some (Zh [Zd [],Zz .i64 105],[])) (sel (decide ((↑(Zy au):Int)>255)) (some (Zh [Zd [],Zz .i64 105],[])) (sel mu (Zx (chk (decide (Zy (Vz 4 li)≤70368744177664)) (some (Yd (Vz 4 li++Yu kv 1 false),[]))) (kO fun l=>Zx (chk (decide (Zy l+Zy rl≤70368744177664)) (some (Zd (Yb l rl),[]))) (kB fun b=>Zx (chk (decide (Zy b≤70368744177664)) (some (Yd (b++Yu (↑(Zy tk):Int) 1 false),[]))) (kO fun l=>Zx (chk (decide (Zy l≤70368744177664)) (some (Yd (l++Yu (↑(Zy au):Int) 1 false),[]))) (kO fun l=>Zx (chk (decide (Zy (Yq l (Yq tk (Yq au [])))≤140737488355328)&&decide (Zy [Zd l,Zd tk,Zd au]≤1000)) (some (Yd (Yq l (Yq tk (Yq au []))),[]))) (kO fun l=>some (Zh [Zd l,Zz .i64 0],[]))))))) (Zx (chk (decide (Zy (Vz 3 li)≤70368744177664)) (some (Yd (Vz 3 li++Yu kv 1 false),[]))) (kO fun l=>Zx (chk (decide (Zy l+Zy rl≤70368744177664)) (some (Zd (Yb l rl),[]))) (kB fun b=>Zx (chk (decide (Zy b≤70368744177664)) (some (Yd (b++Yu (↑(Zy tk):Int) 1 false),[]))) (kO fun l=>Zx (chk (decide (Zy l≤70368744177664)) (some (Yd (l++Yu (↑(Zy au):Int) 1 false),[]))) (kO fun l=>Zx (chk (decide (Zy (Yq l (Yq tk (Yq au [])))≤140737488355328)&&decide (Zy [Zd l,Zd tk,Zd au]≤1000)) (some (Yd (Yq l (Yq tk (Yq au []))),[]))) (kO fun l=>some (Zh [Zd l,Zz .i64 0],[])))))))))))):Option (AV×Blocks))) (by kernel_rfl) ?_
  delta kB kO kL
  try dsimp only [cStr,cBs,cBool,cU8,cInt,cSl,l63]
  simp only [A0,Wy,Wk,Wn,hpre]
  unfold Uf
  simp only
  cases h1:Wb rl
  ·rfl
  rw [Yx,sel_false,if_neg (by simp)]
  cases h2:Zn kv 255
  ·rfl
  rw [Yx,sel_false,if_neg (by simp)]
  by_cases h3:255<tk.length
  ·rw [sel_pos (by simp;omega),if_pos (.inl h3)]
  rw [sel_neg (by simp;omega)]
  by_cases h4:255<au.length
  ·rw [sel_pos (by simp;omega),if_pos (.inr h4)]
  rw [sel_neg (by simp;omega),if_neg (by omega)]
  have l1:=Kerb.validRealm_len h1
  have g3:=Kerb.header_len 3 li
  have g4:=Kerb.header_len 4 li
  cases mu
  ·rw [sel_false,chk_of (by simp;omega),chk_of (by simp [Zv];omega),chk_of (by simp [Zv,Wz];omega),chk_of (by simp [Zv,Wz];omega),chk_of (by simp [Zv,Wz];omega)]
   simp
  ·rw [sel_true,chk_of (by simp;omega),chk_of (by simp [Zv];omega),chk_of (by simp [Zv,Wz];omega),chk_of (by simp [Zv,Wz];omega),chk_of (by simp [Zv,Wz];omega)]
   simp
 ·cases h
theorem w100:Walked Tryz.prog G 100 7 sp100:=by
 refine ⟨Tryz.f100,Tryz.func100,by decide +kernel,rfl,fun xs bl r h=> ?_⟩
 unfold sp100 at h
 split at h
 ·rename_i a b c
  obtain ⟨hpre,h2⟩:=chk_inv h;cases h2
  refine Eq.trans (b:=(Zx (chk (decide (Zy a≤9223372036854775807)) (some (Zj (Wq a),[]))) fun (r:AV×Blocks)=>onNilB (Ym r) (Vb (Xy r) fun b_1=>sel b_1 (Zx (chk (decide (Zy b≤9223372036854775807)) (some (Zj (Xm b),[]))) fun (r:AV×Blocks)=>onNilB (Ym r) (Vb (Xy r) fun b=>sel b (Zx (chk (decide (Zy c≤9223372036854775807)) (some (Zj (Wb c),[]))) fun (r:AV×Blocks)=>onNilB (Ym r) (Vb (Xy r) fun b=>some (Zj b,[]))) (some (Zj false,[])))) (some (Zj false,[]))):Option (AV×Blocks))) (by kernel_rfl) ?_
  simp only [Yz,decide_eq_true_eq] at hpre
  simp only [A0]
  rw [chk_of (by simp;omega),chk_of (by simp;omega),chk_of (by simp;omega)]
  simp only [Yv]
  cases Wq a<;>cases Xm b<;>rfl
 ·cases h
theorem w12:Walked Tryz.prog G 12 8 sp12:=by
 refine ⟨Tryz.f12,Tryz.func12,by decide +kernel,rfl,fun xs bl r h=> ?_⟩
 unfold sp12 at h
 split at h
 ·rename_i cu co cv cr lt tn mt cad cfr cis ctm ctk clf ccs cky ckv css ctt cau x y z k v wtm wlf s1 s2 s3
  obtain ⟨hpre,h2⟩:=chk_inv h;cases h2
  refine Eq.trans (b:=(let t0:Kerb.ApRequest:=Kerb.Case.req (Zm cu co cv cr lt tn mt cad cfr cis ctm ctk clf ccs cky ckv css ctt cau) (Zg x y z) k v;Zx (chk (l63 x&&l63 y&&l63 z&&Kerb.isU64 k&&decide (0≤v)&&decide (v≤1000)&&decide (0≤ccs)&&decide (ccs≤4294967295)&&decide (0≤ctt)&&decide (ctt≤65535)&&decide (0≤cau)&&decide (cau≤65535)) (some (Wu [Zj (Kerb.ApRequest.little t0),Zj (Kerb.ApRequest.mutual_ t0),Zz .i64 (Kerb.ApRequest.kvno t0),Zq (Kerb.ApRequest.realm t0),Zd (Kerb.ApRequest.ticket t0),Zd (Kerb.ApRequest.auth t0)],[]))) (kA fun cs=>cBool cs fun b r=>cBool r fun b_1 r=>cInt .i64 r fun n r=>cStr r fun b_2 r=>cBs r fun b_3 r=>cBs r fun b_4 r=>onNil r (Zx (chk (l63 b_2&&l63 s1&&l63 s2) (some (Zh [Zd (Xw (Vu (Vj (Xn b false n b_2 b_3 b_4) wtm wlf s1 s2))),Zz .i64 (Xv (Vu (Vj (Xn b false n b_2 b_3 b_4) wtm wlf s1 s2)))],[]))) (kT fun vs=>cBs vs fun b r=>cInt .i64 r fun n r=>onNil r (some (Zd b,[]))))):Option (AV×Blocks))) (by kernel_rfl) ?_
  delta kT kA
  try dsimp only [cStr,cBs,cBool,cU8,cInt,cSl,l63]
  simp only [Yz,decide_eq_true_eq] at hpre
  obtain ⟨⟨⟨⟨⟨⟨⟨⟨⟨⟨⟨⟨⟨l1,l2⟩,l3⟩,k1⟩,v0⟩,v1⟩,c0⟩,c1⟩,t0⟩,t1⟩,a0⟩,a1⟩,s1l⟩,s2l⟩:=hpre
  have e1:=Kerb.req_realm (Zm cu co cv cr lt tn mt cad cfr cis ctm ctk clf ccs cky ckv css ctt cau) ⟨x,y,z⟩ k v l3
  simp (config:={maxSteps:=10000000}) only [l1,l2,l3,k1,v0,v1,c0,c1,t0,t1,a0,a1,s1l,s2l,e1,decide_true,Yg,↓sInt,↓sU8,↓sBool,↓sStr,↓sBs,↓sSl,↓sAgg,↓sTup,↓sCons,↓sNil,↓sNilB,↓sChk,↓sChkBind,↓sSome,↓sOwnL,↓sConsB,↓sOwnB]
  rfl
 ·cases h
theorem w48:Walked Tryz.prog G 48 8 sp48:=by
 refine ⟨Tryz.f48,Tryz.func48,by decide +kernel,rfl,fun xs bl r h=> ?_⟩
 unfold sp48 at h
 split at h
 ·rename_i li mu kv rl tk au tm lf sv ins
  obtain ⟨hpre,h2⟩:=chk_inv h;cases h2
  refine Eq.trans (b:=(sel mu (some (Zh [Zd [],Zz .i64 100],[])) (Zx (chk (l63 rl) (some (Zh [Zd (Xw (Uf (Xn li mu kv rl tk au))),Zz .i64 (Xv (Uf (Xn li mu kv rl tk au)))],[]))) (kT fun vs=>cBs vs fun b r=>cInt .i64 r fun n r=>onNil r (sel (!n==0) (some (Zh [Zd [],Zz .i64 n],[])) (Zx (chk (l63 sv) (some (Zj (Wq sv),[]))) (kL fun b_1=>sel (!b_1) (some (Zh [Zd [],Zz .i64 103],[])) (Zx (chk (l63 ins) (some (Zj (Xm ins),[]))) (kL fun b_2=>sel (!b_2) (some (Zh [Zd [],Zz .i64 103],[])) (sel (!Zn tm 4294967295) (some (Zh [Zd [],Zz .i64 104],[])) (sel (!Zn lf 255) (some (Zh [Zd [],Zz .i64 104],[])) (Zx (chk (decide (Zy b≤70368744177664)) (some (Yd (b++Yu tm 4 li),[]))) (kO fun l=>Zx (chk (decide (Zy l≤70368744177664)) (some (Yd (l++Yu lf 1 false),[]))) (kO fun l=>Zx (chk (decide (Zy l+Zy sv≤70368744177664)) (some (Zd (Yb l sv),[]))) (kB fun b=>Zx (chk (decide (Zy b+Zy ins≤70368744177664)) (some (Zd (Yb b ins),[]))) (kB fun b=>some (Zh [Zd b,Zz .i64 0],[]))))))))))))))):Option (AV×Blocks))) (by kernel_rfl) ?_
  delta kT kB kO kL
  try dsimp only [cStr,cBs,cBool,cU8,cInt,cSl,l63]
  simp only [Yz,decide_eq_true_eq] at hpre
  obtain ⟨⟨p1,p2⟩,p3⟩:=hpre
  simp only [A0,Wy,Wk,Wn,p1,p2,p3,decide_true]
  have hL:∀ q,Uf ⟨li,mu,kv,rl,tk,au⟩=q→Vu ⟨⟨li,mu,kv,rl,tk,au⟩,tm,lf,sv,ins⟩=if mu then ⟨[],100⟩ else if q.err≠0 then ⟨[],q.err⟩ else if !(Wq sv&&Xm ins) then ⟨[],103⟩ else if !(Zn tm 4294967295&&Zn lf 255) then ⟨[],104⟩ else ⟨Yb (Yb (q.val++Yu tm 4 li++Yu lf 1 false) sv) ins,0⟩:=by rintro _ rfl;rfl
  have hl:=Kerb.encodeAp_len ⟨li,mu,kv,rl,tk,au⟩
  obtain ⟨q,hq⟩:∃ q,Uf ⟨li,mu,kv,rl,tk,au⟩=q:=⟨_,rfl⟩
  rw [hL q hq,hq]
  rw [hq] at hl
  cases mu
  case true=>rfl
  rw [sel_false,if_neg (by simp)]
  by_cases h1:q.err=0
  case neg=>rw [sel_pos (by simpa using h1),if_pos h1]
  rw [sel_neg (by simpa using h1),if_neg (by simpa using h1)]
  cases h2:Wq sv
  ·rfl
  cases h3:Xm ins
  ·rfl
  cases Zn tm 4294967295
  ·rfl
  cases Zn lf 255
  ·rfl
  have l2:=Kerb.validName_len h2
  have l3:=Kerb.validInst_len h3
  simp only [Yx,sel_false,Yg,Bool.false_eq_true,if_false]
  rw [chk_of (by simp;omega),chk_of (by simp [Zv];omega),chk_of (by simp [Zv];omega),chk_of (by simp [Zv,Wz];omega)]
 ·cases h
theorem w101:Walked Tryz.prog G 101 8 sp101:=by
 refine ⟨Tryz.f101,Tryz.func101,by decide +kernel,rfl,fun xs bl r h=> ?_⟩
 unfold sp101 at h
 split at h
 ·rename_i kls
  obtain ⟨hpre,h2⟩:=chk_inv h;cases h2
  refine Eq.trans (b:=(sel (decide ((↑(Zy kls):Int)>60)) (some (Zz .i64 106,[])) (Zx (loopM (fun (st:List AV)=>cSl 5 st fun b r=>cInt .i64 r fun n r=>cSl 5 r fun b_1 r=>cInt .i64 r fun n_1 r=>cInt .i64 r fun n_2 r=>let t0:List AV:=[Xz 5 b_1,Zz .i64 n_1,Zz .i64 n_2];onNil r (sel (decide (n_2<n_1)) (chk (decide (0≤n_2)&&decide (n_2<(↑(Zy b_1):Int))&&true) (Uq (Wx b_1 (Yy n_2) Uu) fun cs=>cStr cs fun b_2 r=>cStr r fun b_3 r=>cStr r fun b_4 r=>cInt .i64 r fun n_3 r=>cInt .u64 r fun n_4 r=>onNil r (Zx (chk (l63 b_2&&l63 b_3&&l63 b_4) (some (Zj (Yv (Zg b_2 b_3 b_4)),[]))) (kL fun b_5=>sel (!b_5) (some (Wf (Ex.ret,Xz 5 b::Zz .i64 103::t0))) (sel (decide (n_3<0)) (some (Wf (Ex.ret,Xz 5 b::Zz .i64 104::t0))) (sel (decide (n_3>255)) (some (Wf (Ex.ret,Xz 5 b::Zz .i64 104::t0))) (Zx (chk (decide (0≤n_4)&&decide (n_4<18446744073709551616)) (some (Zj (Kerb.keyValid n_4),[]))) (kL fun b_6=>sel (!b_6) (some (Wf (Ex.ret,Xz 5 b::Zz .i64 10::t0))) (Zx (chk (List.all b Kerb.isSKey&&decide (Zy b≤1000000)) (some (Zz .i64 (↑(Kerb.skAt (Vg Kerb.toSKey b) (Zg b_2 b_3 b_4) n_3):Int),[]))) (kI .i64 fun n_5=>sel (decide (n_5<n_2)) (some (Wf (Ex.ret,Xz 5 b::Zz .i64 107::t0))) (some (Sum.inl [Xz 5 b,Zz .i64 n,Xz 5 b_1,Zz .i64 n_1,Zz .i64 (Zf .i64 (n_2+1))])))))))))))) (some (Wf (Ex.exit 0,Xz 5 b::Zz .i64 n::t0))))) [Xz 5 kls,Zz .i64 0,Xz 5 kls,Zz .i64 (↑(Zy kls):Int),Zz .i64 0]) fun (r:Ex×List AV)=>cSl 5 (Ym r) fun b r_1=>cInt .i64 r_1 fun n r_2=>cSl 5 r_2 fun b r_3=>cInt .i64 r_3 fun n_1 r_4=>cInt .i64 r_4 fun n_2 r_5=>onNil r_5 (exK r.1 (some (Zz .i64 n,[])) fun (j:Nat)=>sel (Nat.beq j 0) (some (Zz .i64 0,[])) none)):Option (AV×Blocks))) (by kernel_rfl) ?_
  delta kL kI
  try dsimp only [cStr,cBs,cBool,cU8,cInt,cSl,l63]
  simp only [Yz,decide_eq_true_eq] at hpre
  obtain ⟨hall,hlen⟩:=hpre
  obtain ⟨cs,rfl,hok⟩:=Kerb.skeys_of hall
  unfold Kerb.skErr
  rw [Kerb.map_toSKey]
  simp only [Yh] at hlen ⊢
  by_cases h60:60<cs.length
  ·rw [sel_pos (by simp;omega),if_pos h60]
  rw [sel_neg (by simp;omega),if_neg h60]
  refine loop_rounds (fun i:Nat=>[Xz 5 (cs.map Up),Zz Zk 0,Xz 5 (cs.map Up),Zz Zk (cs.length:Int),Zz Zk (i:Int)]) (fun i=>i≤cs.length∧Kerb.skErrs [] cs=Kerb.skErrs (cs.take i) (cs.drop i)) (fun i=>cs.length-i)
   (fun r=>∃ (i:Nat) (n:Int),r.2=[Xz 5 (cs.map Up),Zz Zk n,Xz 5 (cs.map Up),Zz Zk (cs.length:Int),Zz Zk (i:Int)]∧((r.1 = .ret∧n=Kerb.skErrs [] cs)∨(r.1 = .exit 0∧Kerb.skErrs [] cs=0))) 0 ⟨Nat.zero_le _,by simp⟩ rfl ?_ ?_
  ·rintro i ⟨hi,hp⟩
   simp only [↓A0,A0,Yh]
   by_cases hlt:i<cs.length
   ·rw [sel_pos (by simp;omega),chk_of (by simp;omega),Vk,Kerb.getD_row (d:=Kerb.noSKey) hlt]
    obtain ⟨c,hc⟩:∃ c,cs.getD i Kerb.noSKey=c:=⟨_,rfl⟩
    have hst:=Kerb.skErrs_step hlt hc hp
    have hcm:c∈cs:=hc ▸ Kerb.mem_row hlt
    have ho:=hok c hcm
    rw [hc]
    obtain ⟨⟨s1,s2,s3⟩,kv,ky⟩:=c
    obtain ⟨o1,o2,o3,o4,o5⟩:=ho
    have o4:=Kerb.isI64_iff.1 o4
    have o5:=Kerb.isU64_iff.1 o5
    dsimp only at o1 o2 o3 o4 o5 hst
    simp only [Up,o1,o2,o3,o5,decide_true,Yg,↓A0,A0]
    have k1:∀ code:Int,code≠0→Wp ⟨⟨s1,s2,s3⟩,kv,ky⟩=code→code=Kerb.skErrs [] cs:=fun code h0 he=>by
     rw [he,if_pos h0] at hst;exact hst.symm
    cases h1:Yv ⟨s1,s2,s3⟩
    ·exact ⟨_,rfl,i,_,rfl,.inl ⟨rfl,k1 103 (by decide) (by simp [Wp,h1])⟩⟩
    rw [Yx,sel_false]
    by_cases h2:kv<0
    ·rw [sel_pos (by simpa using h2)]
     exact ⟨_,rfl,i,_,rfl,.inl ⟨rfl,k1 104 (by decide) (by simp [Wp,h1,Zn];omega)⟩⟩
    rw [sel_neg (by simpa using h2)]
    by_cases h3:kv>255
    ·rw [sel_pos (by simpa using h3)]
     exact ⟨_,rfl,i,_,rfl,.inl ⟨rfl,k1 104 (by decide) (by simp [Wp,h1,Zn];omega)⟩⟩
    rw [sel_neg (by simpa using h3)]
    have hw:Zn kv 255=true:=Kerb.within_iff.2 ⟨by omega,by omega⟩
    cases h4:Kerb.keyValid ky
    ·exact ⟨_,rfl,i,_,rfl,.inl ⟨rfl,k1 10 (by decide) (by simp [Wp,h1,hw,h4])⟩⟩
    rw [Yx,sel_false]
    have hz:Wp ⟨⟨s1,s2,s3⟩,kv,ky⟩=0:=by simp [Wp,h1,hw,h4]
    rw [hz,if_neg (by simp)] at hst
    rw [chk_of (by rw [Kerb.skeys_all hok];simp;omega),Kerb.map_toSKey]
    have hq:=Kerb.skAt_lt cs ⟨s1,s2,s3⟩ kv i hi
    have e:decide (((Kerb.skAt cs ⟨s1,s2,s3⟩ kv:Nat):Int)<(i:Int))=decide (Kerb.skAt cs ⟨s1,s2,s3⟩ kv<i):=decide_eq_decide.2 (by omega)
    rw [e,hq]
    cases hd:(cs.take i).any (Kerb.SKey.is ⟨s1,s2,s3⟩ kv)
    ·rw [hd,if_neg (by simp)] at hst
     rw [sel_false,wrap_i64 (by omega) (by omega)]
     exact ⟨_,rfl,i+1,rfl,⟨by omega,hst⟩,by dsimp only;omega⟩
    ·rw [hd,if_pos rfl] at hst
     rw [sel_true]
     exact ⟨_,rfl,i,_,rfl,.inl ⟨rfl,hst.symm⟩⟩
   ·rw [sel_neg (by simp;omega)]
    refine ⟨_,rfl,i,_,rfl,.inr ⟨rfl,?_⟩⟩
    rw [hp,List.drop_eq_nil_of_le (by omega)]
    rfl
  ·rintro ⟨e,l⟩ ⟨i,n,rfl,⟨rfl,h⟩ | ⟨rfl,h⟩⟩
   ·simp only [↓A0,A0,h]
   ·simp only [↓A0,A0,h]
    rw [sel_pos (Nat.beq_refl _)]
 ·cases h
theorem w102:Walked Tryz.prog G 102 8 sp102:=by
 refine ⟨Tryz.f102,Tryz.func102,by decide +kernel,rfl,fun xs bl r h=> ?_⟩
 unfold sp102 at h
 split at h
 ·rename_i sz fl mls
  obtain ⟨hpre,h2⟩:=chk_inv h;cases h2
  refine Eq.trans (b:=(sel (!(decide (1≤sz)&&decide (sz≤40))) (some (Zz .i64 104,[])) (sel (!(decide (0≤fl)&&decide (fl≤4294967295))) (some (Zz .i64 104,[])) (sel (decide ((↑(Zy mls):Int)>sz)) (some (Zz .i64 106,[])) (Zx (loopM (fun (st:List AV)=>cInt .i64 st fun n r=>cInt .i64 r fun n_1 r=>cSl 5 r fun b r=>cInt .i64 r fun n_2 r=>cSl 5 r fun b_1 r=>cInt .i64 r fun n_3 r=>cInt .i64 r fun n_4 r=>let t0:List AV:=[Xz 5 b_1,Zz .i64 n_3,Zz .i64 n_4];let t2:List AV:=List.drop (Yy (↑(0:Nat):Int)) (List.take (Yy n_4) b);let t1:Option (List AV ⊕ Ex×List AV):=some (Wf (Ex.ret,Zz .i64 n::Zz .i64 n_1::Xz 5 b::Zz .i64 104::t0));onNil r (sel (decide (n_4<n_3)) (chk (decide (0≤n_4)&&decide (n_4<(↑(Zy b_1):Int))&&true) (Uq (Wx b_1 (Yy n_4) Uu) fun cs=>cStr cs fun b_2 r=>cStr r fun b_3 r=>cStr r fun b_4 r=>cInt .i64 r fun n_5 r=>cInt .i64 r fun n_6 r=>onNil r (Zx (chk (l63 b_2&&l63 b_3&&l63 b_4) (some (Zj (Yv (Zg b_2 b_3 b_4)),[]))) (kL fun b_5=>sel (!b_5) (some (Wf (Ex.ret,Zz .i64 n::Zz .i64 n_1::Xz 5 b::Zz .i64 103::t0))) (sel (!(decide (n_1≤n_5)&&decide (n_5≤4294967295))) t1 (sel (!(decide (0≤n_6)&&decide (n_6≤199))) t1 (chk (decide ((↑(0:Nat):Int)≤n_4)&&decide (n_4≤(↑(Zy b):Int))) (Zx (chk (List.all t2 Kerb.isMark&&decide (Zy t2≤1000000)) (some (Zj (Kerb.hasMark (Vg Kerb.toMark t2) (Kerb.Mark.mk (Zg b_2 b_3 b_4) n_5 n_6)),[]))) (kL fun b_6=>sel b_6 (some (Wf (Ex.ret,Zz .i64 n::Zz .i64 n_1::Xz 5 b::Zz .i64 107::t0))) (some (Sum.inl [Zz .i64 n,Zz .i64 n_1,Xz 5 b,Zz .i64 n_2,Xz 5 b_1,Zz .i64 n_3,Zz .i64 (Zf .i64 (n_4+1))]))))))))))) (some (Wf (Ex.exit 0,Zz .i64 n::Zz .i64 n_1::Xz 5 b::Zz .i64 n_2::t0))))) [Zz .i64 sz,Zz .i64 fl,Xz 5 mls,Zz .i64 0,Xz 5 mls,Zz .i64 (↑(Zy mls):Int),Zz .i64 0]) fun (r:Ex×List AV)=>cInt .i64 (Ym r) fun n r_1=>cInt .i64 r_1 fun n r_2=>cSl 5 r_2 fun b r_3=>cInt .i64 r_3 fun n r_4=>cSl 5 r_4 fun b r_5=>cInt .i64 r_5 fun n_1 r_6=>cInt .i64 r_6 fun n_2 r_7=>onNil r_7 (exK r.1 (some (Zz .i64 n,[])) fun (j:Nat)=>sel (Nat.beq j 0) (some (Zz .i64 0,[])) none)))):Option (AV×Blocks))) (by kernel_rfl) ?_
  delta kL
  try dsimp only [cStr,cBs,cBool,cU8,cInt,cSl,l63]
  simp only [Yz,decide_eq_true_eq] at hpre
  obtain ⟨hall,hlen⟩:=hpre
  obtain ⟨cs,rfl,hok⟩:=Kerb.marks_of hall
  unfold Uv
  rw [Kerb.map_toMark]
  simp only [Yh] at hlen ⊢
  cases e1:(decide ((1:Int)≤sz)&&decide (sz≤40))
  ·rw [if_pos (by simp)];rfl
  cases e2:(decide ((0:Int)≤fl)&&decide (fl≤4294967295))
  ·rw [if_pos (by unfold Zn;rw [e2];rfl)];rfl
  rw [Yx,sel_false,sel_false,if_neg (by unfold Zn;rw [e2];simp)]
  simp only [Yz,decide_eq_true_eq] at e1 e2
  by_cases hsz:sz<cs.length
  ·rw [sel_pos (by simp;omega),if_pos hsz]
  rw [sel_neg (by simp;omega),if_neg hsz]
  refine loop_rounds (fun i:Nat=>[Zz Zk sz,Zz Zk fl,Xz 5 (cs.map Xx),Zz Zk 0,Xz 5 (cs.map Xx),Zz Zk (cs.length:Int),Zz Zk (i:Int)]) (fun i=>i≤cs.length∧Ud fl [] cs=Ud fl (cs.take i) (cs.drop i)) (fun i=>cs.length-i)
   (fun r=>∃ (i:Nat) (n:Int),r.2=[Zz Zk sz,Zz Zk fl,Xz 5 (cs.map Xx),Zz Zk n,Xz 5 (cs.map Xx),Zz Zk (cs.length:Int),Zz Zk (i:Int)]∧((r.1 = .ret∧n=Ud fl [] cs)∨(r.1 = .exit 0∧Ud fl [] cs=0))) 0 ⟨Nat.zero_le _,by simp⟩ rfl ?_ ?_
  ·rintro i ⟨hi,hp⟩
   simp only [↓A0,A0,Yh]
   by_cases hlt:i<cs.length
   ·rw [sel_pos (by simp;omega),chk_of (by simp;omega),Vk,Kerb.getD_row (d:=Kerb.noMark) hlt]
    obtain ⟨c,hc⟩:∃ c,cs.getD i Kerb.noMark=c:=⟨_,rfl⟩
    have hst:=Kerb.marksErr_step hlt hc hp
    have hcm:c∈cs:=hc ▸ Kerb.mem_row hlt
    have ho:=hok c hcm
    rw [hc]
    obtain ⟨⟨s1,s2,s3⟩,mt,mk⟩:=c
    obtain ⟨o1,o2,o3,o4,o5⟩:=ho
    dsimp only at o1 o2 o3 o4 o5 hst
    simp only [Xx,o1,o2,o3,decide_true,Yg,↓A0,A0]
    have k1:∀ code:Int,code≠0→Vq fl ⟨⟨s1,s2,s3⟩,mt,mk⟩=code→code=Ud fl [] cs:=fun code h0 he=>by
     rw [he,if_pos h0] at hst;exact hst.symm
    cases h1:Yv ⟨s1,s2,s3⟩
    ·exact ⟨_,rfl,i,_,rfl,.inl ⟨rfl,k1 103 (by decide) (by simp [Vq,h1])⟩⟩
    rw [Yx,sel_false]
    by_cases h2:fl≤mt∧mt≤4294967295
    case neg =>
     rw [sel_pos (by simp;omega)]
     exact ⟨_,rfl,i,_,rfl,.inl ⟨rfl,k1 104 (by decide) (by unfold Vq;rw [if_neg (by simp [h1]),if_pos (by simp [Zn];omega)])⟩⟩
    rw [sel_neg (by simp;omega)]
    by_cases h3:0≤mk∧mk≤199
    case neg =>
     rw [sel_pos (by simp;omega)]
     exact ⟨_,rfl,i,_,rfl,.inl ⟨rfl,k1 104 (by decide) (by unfold Vq;rw [if_neg (by simp [h1]),if_pos (by simp [Zn];omega)])⟩⟩
    rw [sel_neg (by simp;omega)]
    have hw2:(decide (fl≤mt)&&decide (mt≤4294967295)&&Zn mk 199)=true:=by
     rw [Yz,Yz,decide_eq_true_eq,decide_eq_true_eq]
     exact ⟨⟨by omega,by omega⟩,Kerb.within_iff.2 ⟨by omega,by omega⟩⟩
    have hz:Vq fl ⟨⟨s1,s2,s3⟩,mt,mk⟩=0:=by
     unfold Vq
     rw [if_neg (by simp [h1])]
     dsimp only
     rw [hw2]
     rfl
    rw [hz,if_neg (by simp)] at hst
    rw [chk_of (by simp;omega)]
    simp only [Vk,List.drop_zero,← List.map_take]
    rw [chk_of (by rw [Kerb.marks_all (fun c hc=>hok c (List.mem_of_mem_take hc))];simp;omega),Kerb.map_toMark]
    cases hd:Kerb.hasMark (cs.take i) ⟨⟨s1,s2,s3⟩,mt,mk⟩
    ·rw [hd,if_neg (by simp)] at hst
     rw [sel_false,wrap_i64 (by omega) (by omega)]
     exact ⟨_,rfl,i+1,rfl,⟨by omega,hst⟩,by dsimp only;omega⟩
    ·rw [hd,if_pos rfl] at hst
     rw [sel_true]
     exact ⟨_,rfl,i,_,rfl,.inl ⟨rfl,hst.symm⟩⟩
   ·rw [sel_neg (by simp;omega)]
    refine ⟨_,rfl,i,_,rfl,.inr ⟨rfl,?_⟩⟩
    rw [hp,List.drop_eq_nil_of_le (by omega)]
    rfl
  ·rintro ⟨e,l⟩ ⟨i,n,rfl,⟨rfl,h⟩ | ⟨rfl,h⟩⟩
   ·simp only [↓A0,A0,h]
   ·simp only [↓A0,A0,h]
    rw [sel_pos (Nat.beq_refl _)]
 ·cases h
theorem w112:Walked Tryz.prog G 112 8 sp112:=by
 refine ⟨Tryz.f112,Tryz.func112,by decide +kernel,rfl,fun xs bl r h=> ?_⟩
 unfold sp112 at h
 split at h
 ·rename_i li x y z t cd tx
  obtain ⟨hpre,h2⟩:=chk_inv h;cases h2
  refine Eq.trans (b:=(let t0:Option (AV×Blocks):=some (Zh [Zd [],Zz .i64 104],[]);let t1:Nat:=Zy (Vz 5 li)+Zy x+Zy y+Zy z;Zx (chk (l63 x&&l63 y&&l63 z) (some (Zj (Yv (Zg x y z)),[]))) (kL fun b=>sel (!b) (some (Zh [Zd [],Zz .i64 103],[])) (sel (!Zn t 4294967295) t0 (sel (decide (cd<1)) t0 (sel (decide (cd>99)) t0 (sel (decide ((↑(Zy tx):Int)>39)) (some (Zh [Zd [],Zz .i64 105],[])) (sel (decide (Kerb.indexOf (0:UInt8) tx≥0)) (some (Zh [Zd [],Zz .i64 100],[])) (Zx (chk (decide (t1≤70368744170000)) (some (Zd (Vx (Vz 5 li) (Zg x y z)),[]))) (kB fun b=>Zx (chk (decide (Zy b≤70368744177664)) (some (Yd (b++Yu t 4 li),[]))) (kO fun l=>Zx (chk (decide (Zy l≤70368744177664)) (some (Yd (l++Yu cd 4 li),[]))) (kO fun l=>Zx (chk (decide (Zy l+Zy tx≤70368744177664)) (some (Zd (Yb l tx),[]))) (kB fun b=>some (Zh [Zd b,Zz .i64 0],[])))))))))))):Option (AV×Blocks))) (by kernel_rfl) ?_
  delta kB kO kL
  try dsimp only [cStr,cBs,cBool,cU8,cInt,cSl,l63]
  simp only [Yz,decide_eq_true_eq] at hpre
  obtain ⟨⟨⟨q1,q2⟩,q3⟩,q4⟩:=hpre
  simp only [A0]
  unfold Kerb.encodeError
  rw [chk_of (by simp [q1,q2,q3])]
  cases h1:Yv ⟨x,y,z⟩
  ·rfl
  rw [Yx,sel_false]
  cases h4:Zn t 4294967295
  ·rfl
  rw [Yx,sel_false]
  by_cases h5:1≤cd
  case neg =>
   rw [sel_pos (by simp;omega),if_neg (by simp),if_pos (by simp;omega)]
  by_cases h6:cd≤99
  case neg =>
   rw [sel_neg (by simp;omega),sel_pos (by simp;omega),if_neg (by simp),if_pos (by simp;omega)]
  rw [sel_neg (by simp;omega),sel_neg (by simp;omega),if_neg (by simp),if_neg (by simp;omega)]
  by_cases h7:39<tx.length
  ·rw [sel_pos (by simp;omega),if_pos h7]
  have l1:=Uy h1
  have l4:=Kerb.header_len 5 li
  simp only at l1
  rw [sel_neg (by simp;omega),if_neg h7]
  have hix:=Kerb.indexOf_nonneg 0 tx
  by_cases h8:(0:UInt8)∈tx
  ·rw [sel_pos (by simpa using hix.2 h8),if_pos h8]
  ·rw [sel_neg (by have:=mt hix.1 h8;simp;omega),if_neg h8]
   rw [chk_of (by simp;omega),chk_of (by simp [Zw];omega),chk_of (by simp [Zw,Zv];omega),chk_of (by simp [Zw,Zv];omega)]
 ·cases h
theorem w121:Walked Tryz.prog G 121 8 sp121:=by
 refine ⟨Tryz.f121,Tryz.func121,by decide +kernel,rfl,fun xs bl r h=> ?_⟩
 unfold sp121 at h
 split at h
 ·rename_i k x y z lf kv tk t little
  obtain ⟨hpre,h2⟩:=chk_inv h;cases h2
  refine Eq.trans (b:=(let t0:Option (AV×Blocks):=some (Zh [Zd [],Zz .i64 104],[]);let t1:List UInt8:=[]++Yu 0 1 false;let t2:List UInt8:=[]++Yu 1 1 false;let t3:Option (AV×Blocks):=chk (decide (0≤k)&&decide (k<18446744073709551616)) (some (Zd (Kerb.keyBytes k),[]));Zx (chk (decide (0≤k)&&decide (k<18446744073709551616)) (some (Zj (Kerb.keyValid k),[]))) (kL fun b=>sel (!b) (some (Zh [Zd [],Zz .i64 10],[])) (Zx (chk (l63 x&&l63 y&&l63 z) (some (Zj (Yv (Zg x y z)),[]))) (kL fun b=>sel (!b) (some (Zh [Zd [],Zz .i64 103],[])) (sel (!Zn lf 255) t0 (sel (!Zn kv 255) t0 (sel (!Zn t 4294967295) t0 (sel (decide ((↑(Zy tk):Int)>255)) (some (Zh [Zd [],Zz .i64 105],[])) (sel little (Zx t3 (kB fun b=>Zx (chk (decide (Zy (Yq t2 (Yq b []))≤140737488355328)&&decide (Zy [Zd t2,Zd b]≤1000)) (some (Yd (Yq t2 (Yq b [])),[]))) (kO fun l=>Zx (chk (decide (Zy l+Zy x+Zy y+Zy z≤70368744170000)) (some (Zd (Vx l (Zg x y z)),[]))) (kB fun b=>Zx (chk (decide (Zy b≤70368744177664)) (some (Yd (b++Yu lf 1 false),[]))) (kO fun l=>Zx (chk (decide (Zy l≤70368744177664)) (some (Yd (l++Yu kv 1 false),[]))) (kO fun l=>Zx (chk (decide (Zy l≤70368744177664)) (some (Yd (l++Yu (↑(Zy tk):Int) 1 false),[]))) (kO fun l=>Zx (chk (decide (Zy (Yq l (Yq tk []))≤140737488355328)&&decide (Zy [Zd l,Zd tk]≤1000)) (some (Yd (Yq l (Yq tk [])),[]))) (kO fun l=>Zx (chk (decide (Zy l≤70368744177664)) (some (Yd (l++Yu t 4 little),[]))) (kO fun l=>Zx (chk (decide (Zy l≤70368744177664)) (some (Zd (Kerb.pad l),[]))) (kB fun b=>some (Zh [Zd b,Zz .i64 0],[]))))))))))) (Zx t3 (kB fun b=>Zx (chk (decide (Zy (Yq t1 (Yq b []))≤140737488355328)&&decide (Zy [Zd t1,Zd b]≤1000)) (some (Yd (Yq t1 (Yq b [])),[]))) (kO fun l=>Zx (chk (decide (Zy l+Zy x+Zy y+Zy z≤70368744170000)) (some (Zd (Vx l (Zg x y z)),[]))) (kB fun b=>Zx (chk (decide (Zy b≤70368744177664)) (some (Yd (b++Yu lf 1 false),[]))) (kO fun l=>Zx (chk (decide (Zy l≤70368744177664)) (some (Yd (l++Yu kv 1 false),[]))) (kO fun l=>Zx (chk (decide (Zy l≤70368744177664)) (some (Yd (l++Yu (↑(Zy tk):Int) 1 false),[]))) (kO fun l=>Zx (chk (decide (Zy (Yq l (Yq tk []))≤140737488355328)&&decide (Zy [Zd l,Zd tk]≤1000)) (some (Yd (Yq l (Yq tk [])),[]))) (kO fun l=>Zx (chk (decide (Zy l≤70368744177664)) (some (Yd (l++Yu t 4 little),[]))) (kO fun l=>Zx (chk (decide (Zy l≤70368744177664)) (some (Zd (Kerb.pad l),[]))) (kB fun b=>some (Zh [Zd b,Zz .i64 0],[]))))))))))))))))))):Option (AV×Blocks))) (by kernel_rfl) ?_
  delta kB kO kL
  try dsimp only [cStr,cBs,cBool,cU8,cInt,cSl,l63]
  simp only [Yz,decide_eq_true_eq] at hpre
  obtain ⟨⟨⟨⟨q1,q2⟩,q3⟩,h0⟩,h1⟩:=hpre
  simp only [A0]
  unfold Vh
  rw [chk_of (by simp [h0,h1])]
  cases hk:Kerb.keyValid k
  ·rfl
  rw [Yx,sel_false,chk_of (by simp [q1,q2,q3])]
  cases h1:Yv ⟨x,y,z⟩
  ·rfl
  rw [Yx,sel_false]
  cases h4:Zn lf 255
  ·rfl
  rw [Yx,sel_false]
  cases h5:Zn kv 255
  ·rfl
  rw [Yx,sel_false]
  cases h6:Zn t 4294967295
  ·rfl
  rw [Yx,sel_false]
  by_cases h7:255<tk.length
  ·rw [sel_pos (by simp;omega),if_neg (by simp),if_neg (by simp),if_neg (by simp),if_pos h7]
  have l1:=Uy h1
  simp only at l1
  rw [sel_neg (by simp;omega),if_neg (by simp),if_neg (by simp),if_neg (by simp),if_neg h7]
  cases little
  ·rw [sel_false,chk_of (by simp;omega),chk_of (by first | (simp [Zw,Zv,Zu];done) | (simp [Zw,Zv,Zu];omega)),chk_of (by first | (simp [Zw,Zv,Zu];done) | (simp [Zw,Zv,Zu];omega)),chk_of (by first | (simp [Zw,Zv,Zu];done) | (simp [Zw,Zv,Zu];omega)),chk_of (by first | (simp [Zw,Zv,Zu];done) | (simp [Zw,Zv,Zu];omega)),chk_of (by first | (simp [Zw,Zv,Zu];done) | (simp [Zw,Zv,Zu];omega)),chk_of (by first | (simp [Zw,Zv,Zu];done) | (simp [Zw,Zv,Zu];omega)),chk_of (by first | (simp [Zw,Zv,Zu];done) | (simp [Zw,Zv,Zu];omega)),chk_of (by first | (simp [Zw,Zv,Zu];done) | (simp [Zw,Zv,Zu];omega))]
   simp
  ·rw [sel_true,chk_of (by simp;omega),chk_of (by first | (simp [Zw,Zv,Zu];done) | (simp [Zw,Zv,Zu];omega)),chk_of (by first | (simp [Zw,Zv,Zu];done) | (simp [Zw,Zv,Zu];omega)),chk_of (by first | (simp [Zw,Zv,Zu];done) | (simp [Zw,Zv,Zu];omega)),chk_of (by first | (simp [Zw,Zv,Zu];done) | (simp [Zw,Zv,Zu];omega)),chk_of (by first | (simp [Zw,Zv,Zu];done) | (simp [Zw,Zv,Zu];omega)),chk_of (by first | (simp [Zw,Zv,Zu];done) | (simp [Zw,Zv,Zu];omega)),chk_of (by first | (simp [Zw,Zv,Zu];done) | (simp [Zw,Zv,Zu];omega)),chk_of (by first | (simp [Zw,Zv,Zu];done) | (simp [Zw,Zv,Zu];omega))]
   simp
 ·cases h
theorem w123:Walked Tryz.prog G 123 8 sp123:=by
 refine ⟨Tryz.f123,Tryz.func123,by decide +kernel,rfl,fun xs bl r h=> ?_⟩
 unfold sp123 at h
 split at h
 ·rename_i li x y z t ex kv sd
  obtain ⟨hpre,h2⟩:=chk_inv h;cases h2
  refine Eq.trans (b:=(let t0:Option (AV×Blocks):=some (Zh [Zd [],Zz .i64 104],[]);let t1:Nat:=Zy (Vz 2 li)+Zy x+Zy y+Zy z;Zx (chk (l63 x&&l63 y&&l63 z) (some (Zj (Yv (Zg x y z)),[]))) (kL fun b=>sel (!b) (some (Zh [Zd [],Zz .i64 103],[])) (sel (!Zn t 4294967295) t0 (sel (!Zn ex 4294967295) t0 (sel (!Zn kv 255) t0 (sel (decide ((↑(Zy sd):Int)>1012)) (some (Zh [Zd [],Zz .i64 105],[])) (Zx (chk (decide (t1≤70368744170000)) (some (Zd (Vx (Vz 2 li) (Zg x y z)),[]))) (kB fun b=>Zx (chk (decide (Zy b≤70368744177664)) (some (Yd (b++Yu t 4 li),[]))) (kO fun l=>Zx (chk (decide (Zy l≤70368744177664)) (some (Yd (l++Yu 1 1 false),[]))) (kO fun l=>Zx (chk (decide (Zy l≤70368744177664)) (some (Yd (l++Yu ex 4 li),[]))) (kO fun l=>Zx (chk (decide (Zy l≤70368744177664)) (some (Yd (l++Yu kv 1 false),[]))) (kO fun l=>Zx (chk (decide (Zy l≤70368744177664)) (some (Yd (l++Yu (↑(Zy sd):Int) 2 li),[]))) (kO fun l=>Zx (chk (decide (Zy (Yq l (Yq sd []))≤140737488355328)&&decide (Zy [Zd l,Zd sd]≤1000)) (some (Yd (Yq l (Yq sd [])),[]))) (kO fun l=>some (Zh [Zd l,Zz .i64 0],[])))))))))))))):Option (AV×Blocks))) (by kernel_rfl) ?_
  delta kB kO kL
  try dsimp only [cStr,cBs,cBool,cU8,cInt,cSl,l63]
  simp only [Yz,decide_eq_true_eq] at hpre
  obtain ⟨⟨q1,q2⟩,q3⟩:=hpre
  simp only [A0]
  unfold Kerb.encodeReply
  rw [chk_of (by simp [q1,q2,q3])]
  cases h1:Yv ⟨x,y,z⟩
  ·rfl
  rw [Yx,sel_false]
  cases h4:Zn t 4294967295
  ·rfl
  rw [Yx,sel_false]
  cases h5:Zn ex 4294967295
  ·rfl
  rw [Yx,sel_false]
  cases h6:Zn kv 255
  ·rfl
  rw [Yx,sel_false]
  by_cases h7:1012<sd.length
  ·rw [sel_pos (by simp;omega),if_neg (by simp),if_neg (by simp),if_pos h7]
  have l1:=Uy h1
  have l4:=Kerb.header_len 2 li
  simp only at l1
  rw [sel_neg (by simp;omega),if_neg (by simp),if_neg (by simp),if_neg h7]
  rw [chk_of (by simp;omega),chk_of (by simp [Zw];omega),chk_of (by simp [Zw,Zv];omega),chk_of (by simp [Zw,Zv];omega),chk_of (by simp [Zw,Zv];omega),chk_of (by simp [Zw,Zv];omega),chk_of (by simp [Zw,Zv];omega)]
  simp
 ·cases h
theorem w150:Walked Tryz.prog G 150 8 sp150:=by
 refine ⟨Tryz.f150,Tryz.func150,by decide +kernel,rfl,fun xs bl r h=> ?_⟩
 unfold sp150 at h
 split at h
 ·rename_i b pos
  obtain ⟨hpre,h2⟩:=chk_inv h;cases h2
  refine Eq.trans (b:=(Zx (loopM (fun (st:List AV)=>cBs st fun b r=>cInt .i64 r fun n r=>let t0:Option (AV×Blocks):=chk (decide (Zy b≤4611686018427387904)) (some (Zh [Zq (Kerb.GotB.val (Xh b n)),Zz .i64 (Kerb.GotB.next (Xh b n)),Zz .i64 (Kerb.GotB.err (Xh b n))],[]));cStr r fun b_1 r=>cStr r fun b_2 r=>cStr r fun b_3 r=>cInt .i64 r fun n_1 r=>cInt .i64 r fun n_2 r=>cStr r fun b_4 r=>cStr r fun b_5 r=>cStr r fun b_6 r=>cInt .i64 r fun n_3 r=>cInt .i64 r fun n_4 r=>let t1:List AV:=[Zq b_6,Zz .i64 n_3,Zz .i64 (Zf .i64 (n_4+1))];onNil r (sel (decide (n_4<n_3)) (chk (decide (0≤n_4)&&decide (n_4<(↑(Zy [0,1,2]):Int))&&true) (sel (Nat.beq (Yy n_4) 0) (Zx t0 (kT fun vs=>cStr vs fun b_7 r=>cInt .i64 r fun n r=>cInt .i64 r fun n_5 r=>onNil r (sel (!n_5==0) (some (Wf (Ex.ret,[Zd b,Zz .i64 n,Zq [],Zq [],Zq [],Zz .i64 0,Zz .i64 n_5,Zq b_7,Zq b_5,Zq b_6,Zz .i64 n_3,Zz .i64 n_4]))) (some (Sum.inl (Zd b::Zz .i64 n::Zq b_1::Zq b_2::Zq b_3::Zz .i64 n_1::Zz .i64 n_2::Zq b_7::Zq b_5::t1)))))) (sel (Nat.beq (Yy n_4-1) 0) (Zx t0 (kT fun vs=>cStr vs fun b_7 r=>cInt .i64 r fun n r=>cInt .i64 r fun n_5 r=>onNil r (sel (!n_5==0) (some (Wf (Ex.ret,[Zd b,Zz .i64 n,Zq [],Zq [],Zq [],Zz .i64 0,Zz .i64 n_5,Zq b_4,Zq b_7,Zq b_6,Zz .i64 n_3,Zz .i64 n_4]))) (some (Sum.inl (Zd b::Zz .i64 n::Zq b_1::Zq b_2::Zq b_3::Zz .i64 n_1::Zz .i64 n_2::Zq b_4::Zq b_7::t1)))))) (sel (Nat.beq (Yy n_4-1-1) 0) (Zx t0 (kT fun vs=>cStr vs fun b_7 r=>cInt .i64 r fun n r=>cInt .i64 r fun n_5 r=>onNil r (sel (!n_5==0) (some (Wf (Ex.ret,[Zd b,Zz .i64 n,Zq [],Zq [],Zq [],Zz .i64 0,Zz .i64 n_5,Zq b_4,Zq b_5,Zq b_7,Zz .i64 n_3,Zz .i64 n_4]))) (some (Sum.inl [Zd b,Zz .i64 n,Zq b_1,Zq b_2,Zq b_3,Zz .i64 n_1,Zz .i64 n_2,Zq b_4,Zq b_5,Zq b_7,Zz .i64 n_3,Zz .i64 (Zf .i64 (n_4+1))]))))) none)))) (some (Wf (Ex.exit 0,[Zd b,Zz .i64 n,Zq b_1,Zq b_2,Zq b_3,Zz .i64 n_1,Zz .i64 n_2,Zq b_4,Zq b_5,Zq b_6,Zz .i64 n_3,Zz .i64 n_4]))))) [Zd b,Zz .i64 pos,Zq [],Zq [],Zq [],Zz .i64 0,Zz .i64 0,Zq [],Zq [],Zq [],Zz .i64 (↑(Zy [0+0,0+1,0+2]):Int),Zz .i64 0]) fun (r:Ex×List AV)=>cBs (Ym r) fun b r_1=>cInt .i64 r_1 fun n r_2=>cStr r_2 fun b r_3=>cStr r_3 fun b_1 r_4=>cStr r_4 fun b_2 r_5=>cInt .i64 r_5 fun n_1 r_6=>cInt .i64 r_6 fun n_2 r_7=>cStr r_7 fun b_3 r_8=>cStr r_8 fun b_4 r_9=>cStr r_9 fun b_5 r_10=>cInt .i64 r_10 fun n_3 r_11=>cInt .i64 r_11 fun n_4 r_12=>onNil r_12 (exK r.1 (some (Zh [Wu [Zq b,Zq b_1,Zq b_2],Zz .i64 n_1,Zz .i64 n_2],[])) fun (j:Nat)=>sel (Nat.beq j 0) (Zx (chk (l63 b_3&&l63 b_4&&l63 b_5) (some (Zj (Yv (Zg b_3 b_4 b_5)),[]))) (kL fun b=>sel (!b) (some (Zh [Wu [Zq [],Zq [],Zq []],Zz .i64 0,Zz .i64 103],[])) (some (Zh [Wu [Zq b_3,Zq b_4,Zq b_5],Zz .i64 n,Zz .i64 0],[])))) none):Option (AV×Blocks))) (by kernel_rfl) ?_
  delta kT kL
  try dsimp only [cStr,cBs,cBool,cU8,cInt,cSl,l63]
  have hb:=of_decide_eq_true hpre
  obtain ⟨T0,hT0⟩:∃ T,T=Xh b pos:=⟨_,rfl⟩
  obtain ⟨T1,hT1⟩:∃ T,T=Xh b T0.next:=⟨_,rfl⟩
  obtain ⟨T2,hT2⟩:∃ T,T=Xh b T1.next:=⟨_,rfl⟩
  have hp:Kerb.prin b pos=if T0.err≠0 then ⟨Kerb.noPrin,0,T0.err⟩ else if T1.err≠0 then ⟨Kerb.noPrin,0,T1.err⟩ else if T2.err≠0 then ⟨Kerb.noPrin,0,T2.err⟩
    else if Yv ⟨T0.val,T1.val,T2.val⟩ then ⟨⟨T0.val,T1.val,T2.val⟩,T2.next,0⟩ else ⟨Kerb.noPrin,0,103⟩:=by
   rw [hT2,hT1,hT0];rfl
  have k0:=Kerb.text_len b pos
  rw [← hT0] at k0
  have k1:=Kerb.text_len b T0.next
  rw [← hT1] at k1
  have k2:=Kerb.text_len b T1.next
  rw [← hT2] at k2
  refine loop_rounds (fun i:Nat=>match i with
    | 0=>[Zd b,Zz Zk pos,Zq [],Zq [],Zq [],Zz Zk 0,Zz Zk 0,Zq [],Zq [],Zq [],Zz Zk 3,Zz Zk 0]
    | 1=>[Zd b,Zz Zk T0.next,Zq [],Zq [],Zq [],Zz Zk 0,Zz Zk 0,Zq T0.val,Zq [],Zq [],Zz Zk 3,Zz Zk 1]
    | 2=>[Zd b,Zz Zk T1.next,Zq [],Zq [],Zq [],Zz Zk 0,Zz Zk 0,Zq T0.val,Zq T1.val,Zq [],Zz Zk 3,Zz Zk 2]
    | _=>[Zd b,Zz Zk T2.next,Zq [],Zq [],Zq [],Zz Zk 0,Zz Zk 0,Zq T0.val,Zq T1.val,Zq T2.val,Zz Zk 3,Zz Zk 3])
   (fun i=>i≤3∧(1≤i→T0.err=0)∧(2≤i→T1.err=0)∧(3≤i→T2.err=0)) (fun i=>3-i)
   (fun r=>(T0.err=0∧T1.err=0∧T2.err=0∧r=(Ex.exit 0,[Zd b,Zz Zk T2.next,Zq [],Zq [],Zq [],Zz Zk 0,Zz Zk 0,Zq T0.val,Zq T1.val,Zq T2.val,Zz Zk 3,Zz Zk 3])) ∨
    ∃ n x y z i,Kerb.prin b pos=⟨Kerb.noPrin,0,(Kerb.prin b pos).err⟩∧r=(Ex.ret,[Zd b,Zz Zk n,Zq [],Zq [],Zq [],Zz Zk 0,Zz Zk (Kerb.prin b pos).err,Zq x,Zq y,Zq z,Zz Zk 3,Zz Zk i])) 0 ⟨by omega,by omega,by omega,by omega⟩ rfl ?_ ?_
  ·rintro i ⟨hi,g0,g1,g2⟩
   have hc:i=0∨i=1∨i=2∨i=3:=by omega
   rcases hc with rfl | rfl | rfl | rfl
   ·simp only [A0]
    rw [sel_pos (by decide),chk_of (by decide),sel_pos (by decide),chk_of hpre,← hT0]
    by_cases h:T0.err=0
    ·rw [sel_neg (by simp [h])]
     exact ⟨_,rfl,1,rfl,⟨by omega,fun _=>h,by omega,by omega⟩,by dsimp only;omega⟩
    ·rw [sel_pos (by simpa using h)]
     exact ⟨_,rfl,.inr ⟨_,_,_,_,_,by rw [hp,if_pos h],by rw [hp,if_pos h]⟩⟩
   ·simp only [A0]
    have e0:=g0 (by omega)
    rw [sel_pos (by decide),chk_of (by decide),sel_neg (by decide),sel_pos (by decide),chk_of hpre,← hT1]
    by_cases h:T1.err=0
    ·rw [sel_neg (by simp [h])]
     exact ⟨_,rfl,2,rfl,⟨by omega,fun _=>e0,fun _=>h,by omega⟩,by dsimp only;omega⟩
    ·rw [sel_pos (by simpa using h)]
     exact ⟨_,rfl,.inr ⟨_,_,_,_,_,by rw [hp,if_neg (by simp [e0]),if_pos h],by rw [hp,if_neg (by simp [e0]),if_pos h]⟩⟩
   ·simp only [A0]
    have e0:=g0 (by omega)
    have e1:=g1 (by omega)
    rw [sel_pos (by decide),chk_of (by decide),sel_neg (by decide),sel_neg (by decide),sel_pos (by decide),chk_of hpre,← hT2]
    by_cases h:T2.err=0
    ·rw [sel_neg (by simp [h])]
     exact ⟨_,rfl,3,rfl,⟨by omega,fun _=>e0,fun _=>e1,fun _=>h⟩,by dsimp only;omega⟩
    ·rw [sel_pos (by simpa using h)]
     exact ⟨_,rfl,.inr ⟨_,_,_,_,_,by rw [hp,if_neg (by simp [e0]),if_neg (by simp [e1]),if_pos h],by rw [hp,if_neg (by simp [e0]),if_neg (by simp [e1]),if_pos h]⟩⟩
   ·simp only [A0]
    rw [sel_neg (by decide)]
    exact ⟨_,rfl,.inl ⟨g0 (by omega),g1 (by omega),g2 (by omega),rfl⟩⟩
  ·rintro r (⟨e0,e1,e2,rfl⟩ | ⟨n,x,y,z,i,h,rfl⟩)
   ·simp only [A0]
    rw [sel_pos (Nat.beq_refl _),chk_of (by simp;omega),hp,if_neg (by simp [e0]),if_neg (by simp [e1]),if_neg (by simp [e2])]
    cases hv:Yv ⟨T0.val,T1.val,T2.val⟩
    ·rfl
    ·rfl
   ·simp only [A0]
    rw [h]
    rfl
 ·cases h
theorem w169:Walked Tryz.prog G 169 8 sp169:=by
 refine ⟨Tryz.f169,Tryz.func169,by decide +kernel,rfl,fun xs bl r h=> ?_⟩
 unfold sp169 at h
 split at h
 ·rename_i li x y z ad k lf iss sv ins
  obtain ⟨hpre,h2⟩:=chk_inv h;cases h2
  refine Eq.trans (b:=(Zx (chk (decide (Zy x≤9223372036854775807)&&decide (Zy y≤9223372036854775807)&&decide (Zy z≤9223372036854775807)) (some (Zj (Yv (Zg x y z)),[]))) fun (r:AV×Blocks)=>onNilB (Ym r) (Vb (Xy r) fun b=>sel (!b) (some (Zz .i64 103,[])) (Zx (chk (decide (Zy sv≤9223372036854775807)) (some (Zj (Wq sv),[]))) fun (r:AV×Blocks)=>onNilB (Ym r) (Vb (Xy r) fun b=>sel (!b) (some (Zz .i64 103,[])) (Zx (chk (decide (Zy ins≤9223372036854775807)) (some (Zj (Xm ins),[]))) fun (r:AV×Blocks)=>onNilB (Ym r) (Vb (Xy r) fun b=>sel (!b) (some (Zz .i64 103,[])) (Zx (chk (decide (0≤k)&&decide (k<18446744073709551616)) (some (Zz .i64 (Kerb.classOf k),[]))) fun (r:AV×Blocks)=>onNilB (Ym r) (Wh .i64 (Xy r) fun n=>sel (!n==2) (some (Zz .i64 10,[])) (sel (!Zn ad 4294967295) (some (Zz .i64 104,[])) (sel (!Zn lf 255) (some (Zz .i64 104,[])) (sel (!Zn iss 4294967295) (some (Zz .i64 104,[])) (some (Zz .i64 0,[])))))))))))):Option (AV×Blocks))) (by kernel_rfl) ?_
  simp only [Yz,decide_eq_true_eq] at hpre
  obtain ⟨⟨⟨⟨⟨⟨h1,h2⟩,h3⟩,h4⟩,h5⟩,h6⟩,h7⟩:=hpre
  simp only [h1,h2,h3,h4,h5,h6,h7,decide_true,Yg,↓A0,A0]
  unfold Kerb.Ticket.err
  dsimp only
  cases Yv ⟨x,y,z⟩
  ·rfl
  cases Wq sv
  ·rfl
  cases Xm ins
  ·rfl
  simp only [Yx,Yg,sel_false]
  by_cases hc:Kerb.classOf k=2
  case neg=>rw [sel_pos (by simpa using hc),if_neg (by simp),if_pos hc]
  rw [sel_neg (by simp [hc]),if_neg (by simp),if_neg (by simp [hc])]
  cases Zn ad 4294967295
  ·rfl
  cases Zn lf 255
  ·rfl
  cases Zn iss 4294967295
  ·rfl
  rfl
 ·cases h
theorem w174:Walked Tryz.prog G 174 8 sp174:=by
 refine ⟨Tryz.f174,Tryz.func174,by decide +kernel,rfl,fun xs bl r h=> ?_⟩
 unfold sp174 at h
 split at h
 ·rename_i x y z ck tc tm
  obtain ⟨hpre,h2⟩:=chk_inv h;cases h2
  refine Eq.trans (b:=(Zx (chk (decide (Zy x≤9223372036854775807)&&decide (Zy y≤9223372036854775807)&&decide (Zy z≤9223372036854775807)) (some (Zj (Yv (Zg x y z)),[]))) fun (r:AV×Blocks)=>onNilB (Ym r) (Vb (Xy r) fun b=>sel (!b) (some (Zz .i64 103,[])) (sel (!Zn ck 4294967295) (some (Zz .i64 104,[])) (sel (!Zn tc 199) (some (Zz .i64 104,[])) (sel (!Zn tm 4294967295) (some (Zz .i64 104,[])) (some (Zz .i64 0,[])))))):Option (AV×Blocks))) (by kernel_rfl) ?_
  simp only [A0,Wy,Wk,Wn,hpre]
  unfold Kerb.Auth.check
  simp only
  cases Yv ⟨x,y,z⟩
  ·rfl
  cases Zn ck 4294967295
  ·rfl
  cases Zn tc 199
  ·rfl
  cases Zn tm 4294967295<;>rfl
 ·cases h
theorem w8:Walked Tryz.prog G 8 9 sp8:=by
 refine ⟨Tryz.f8,Tryz.func8,by decide +kernel,rfl,fun xs bl r h=> ?_⟩
 unfold sp8 at h
 split at h
 ·rename_i cu co cv cr lt tn mt cad cfr cis ctm ctk clf ccs cky ckv css ctt cau qf qt_ qp ql qn qk qh xls
  obtain ⟨hpre,h2⟩:=chk_inv h;cases h2
  refine Eq.trans (b:=(let t2:Kerb.Case:=Zm cu co cv cr lt tn mt cad cfr cis ctm ctk clf ccs cky ckv css ctt cau;let t3:Int:=Yk (Zf .i64 (↑(Yw qk):Int)) (↑(Zy xls):Int);let t4:Option (AV×Blocks):=chk (decide (0≤Zf .i64 (↑(Yw qp):Int))) (some (Wu [Zq Xg,Zq (Xq (Zf .i64 (↑(Yw qp):Int))),Zq (Xq 0)],[]));let t5:Bool:=decide (0≤ccs)&&decide (ccs≤4294967295)&&decide (0≤ctt)&&decide (ctt≤65535)&&decide (0≤cau)&&decide (cau≤65535);let t6:Int:=Yk (Zf .i64 (↑(Yw qt_):Int)) 3;let t7:Bool:=decide (0≤Zf .u16 (Xp qh 8));let t8:Bool:=decide (Zf .u16 (Xp qh 8)≤65535);let t1:Option (AV×Blocks):=chk (decide (0≤t6)&&decide (t6≤4611686018427387904)) (some (Wu [Zq (Kerb.Prin.name (Yf t6)),Zq (Kerb.Prin.inst (Yf t6)),Zq (Kerb.Prin.realm (Yf t6))],[]));let t0:Option (AV×Blocks):=Zx t1 (kA fun cs=>cStr cs fun b r=>cStr r fun b_1 r=>cStr r fun b_2 r=>onNil r (sel (Xd (Yy (Yk (↑(Yw qt_):Int) (↑(Yw (5:UInt8)):Int)))==(4:UInt8)) (Zx t4 (kA fun cs=>cStr cs fun b r=>cStr r fun b_3 r=>cStr r fun b_4 r=>onNil r (Zx (chk (t5&&l63 b&&l63 b_3) (some (Zd (Xj t2 (Zg Xg (Xq 0) (Xq 0)) (Kerb.long 3) 6 5 (Zf .i64 (↑(Yw ql):Int)) (Zg b b_3 b_4)),[]))) (kB fun b=>sel (Yk qh 8==7) (Zx (chk (decide (Zy b≤1000000)&&t7&&t8) (some (Zd (Xu b (Zf .u16 (Xp qh 8))),[]))) (kB fun b=>some (Zd b,[]))) (some (Zd b,[])))))) (Zx (chk (t5&&l63 b&&l63 b_1) (some (Zd (Xj t2 (Zg Xg (Xq 0) (Xq 0)) (Kerb.long 3) 6 5 (Zf .i64 (↑(Yw ql):Int)) (Zg b b_1 b_2)),[]))) (kB fun b=>sel (Yk qh 8==7) (Zx (chk (decide (Zy b≤1000000)&&t7&&t8) (some (Zd (Xu b (Zf .u16 (Xp qh 8))),[]))) (kB fun b=>some (Zd b,[]))) (some (Zd b,[]))))));sel (Xd (Yy (Yk (↑(Yw qf):Int) (↑(Yw (3:UInt8)):Int)))==(2:UInt8)) (sel (decide ((↑(Zy xls):Int)>0)) (chk (!(↑(Zy xls):Int)==0) (chk (decide (0≤t3)&&decide (t3<(↑(Zy xls):Int))&&true) (Uq (Wx xls (Yy t3) Uu) fun cs=>cStr cs fun b r=>cStr r fun b_1 r=>cInt .i64 r fun n r=>cInt .u64 r fun n_1 r=>let t9:Bool:=l63 b&&Kerb.isU64 n_1&&decide (0≤n)&&decide (n≤1000)&&decide (0≤ccs)&&decide (ccs≤4294967295)&&decide (0≤ctt)&&decide (ctt≤65535)&&decide (0≤cau)&&decide (cau≤65535);onNil r (Zx t1 (kA fun cs=>cStr cs fun b_2 r=>cStr r fun b_3 r=>cStr r fun b_4 r=>onNil r (sel (Xd (Yy (Yk (↑(Yw qt_):Int) (↑(Yw (5:UInt8)):Int)))==(4:UInt8)) (Zx t4 (kA fun cs=>cStr cs fun b_5 r=>cStr r fun b_6 r=>cStr r fun b_7 r=>onNil r (Zx (chk (t9&&l63 b_5&&l63 b_6) (some (Zd (Xj t2 (Zg Xg (Xq 0) b) n_1 n 5 (Zf .i64 (↑(Yw ql):Int)) (Zg b_5 b_6 b_7)),[]))) (kB fun b=>sel (Yk qh 8==7) (Zx (chk (decide (Zy b≤1000000)&&t7&&t8) (some (Zd (Xu b (Zf .u16 (Xp qh 8))),[]))) (kB fun b=>some (Zd b,[]))) (some (Zd b,[])))))) (Zx (chk (t9&&l63 b_2&&l63 b_3) (some (Zd (Xj t2 (Zg Xg (Xq 0) b) n_1 n 5 (Zf .i64 (↑(Yw ql):Int)) (Zg b_2 b_3 b_4)),[]))) (kB fun b=>sel (Yk qh 8==7) (Zx (chk (decide (Zy b≤1000000)&&t7&&t8) (some (Zd (Xu b (Zf .u16 (Xp qh 8))),[]))) (kB fun b=>some (Zd b,[]))) (some (Zd b,[])))))))))) t0) t0:Option (AV×Blocks))) (by kernel_rfl) ?_
  delta kA kB
  try dsimp only [cStr,cBs,cBool,cU8,cInt,cSl,l63]
  simp only [Yz,decide_eq_true_eq] at hpre
  obtain ⟨⟨⟨⟨⟨⟨⟨⟨⟨⟨c0,c1⟩,t0⟩,t1⟩,a0⟩,a1⟩,h0⟩,h1⟩,xa⟩,xl⟩,xk⟩:=hpre
  obtain ⟨cs,rfl,hcs⟩:=Kerb.cross_okof xa
  rw [Kerb.map_toCross] at xk ⊢
  simp only [Yh] at xl
  have bt:=Xf qt_
  have bp:=Xf qp
  have bk:=Xf qk
  have z1:Yk (Zb qt_) 3=Zb qt_ % 3:=Yp bt.1
  have z2:(decide ((0:Int)≤Zb qt_ % 3)&&decide (Zb qt_ % 3≤4611686018427387904))=true:=by simp;omega
  have z3:decide ((0:Int)≤Zb qp)=true:=by simp;omega
  have z5:=Kerb.rem3_is qf
  have z6:=Kerb.rem5_is qt_
  have z7:Yk qh 8=qh % 8:=Yp h0
  have z8:Zf .u16 (Xp qh 8)=qh / 8:=by rw [Wd h0];rw [Kerb.wrap_u16];omega
  have z9:(decide ((0:Int)≤qh / 8)&&decide (qh / 8≤65535))=true:=by simp;omega
  have l0:Kerb.krbtgt.length≤9223372036854775807:=by decide
  have l1:∀ n,decide ((Xq n).length≤9223372036854775807)=true:=fun n=>decide_eq_true (Kerb.realm_lenB n)
  obtain ⟨l5,l6,l7⟩:=Kerb.service_dec (Zb qt_ % 3)
  have kl:Kerb.isU64 (Kerb.long 3)=true:=Kerb.isU64_iff.2 (Kerb.long_bd 3)
  have d6:(decide ((0:Int)≤6)&&decide ((6:Int)≤1000))=true:=rfl
  simp (config:={maxSteps:=10000000}) only [Ww,z1,z2,z3,z5,z6,z7,z8,l0,l1,l5,l6,kl,d6,c0,c1,t0,t1,a0,a1,decide_true,Yg,Wv,Vf,Bool.and_assoc,Yh,↓sInt,↓sU8,↓sBool,↓sStr,↓sBs,↓sSl,↓sAgg,↓sTup,↓sCons,↓sNil,↓sNilB,↓sChk,↓sChkBind,↓sSome,↓sOwnL,↓sConsB,↓sOwnB]
  have hWW:Vn (Yj (Zm cu co cv cr lt tn mt cad cfr cis ctm ctk clf ccs cky ckv css ctt cau) qf qt_ qp ql qn qk qh)=if qt_.toNat % 5=4 then ⟨Xg,Xq (Zb qp),Xq 0⟩ else Yf (Zb qt_ % 3):=rfl
  rcases Decidable.em (qf.toNat % 3=2∧0<cs.length) with q | q
  ·obtain ⟨q1,q2⟩:=q
   obtain ⟨i,hi⟩:∃ i,qk.toNat % cs.length=i:=⟨_,rfl⟩
   have hi2:i<cs.length:=hi ▸ Nat.mod_lt _ q2
   have hm:Yk (Zb qk) (cs.length:Int)=(i:Int):=by
    rw [Yp bk.1,← hi]
    exact (Int.natCast_emod _ _).symm
   obtain ⟨c,hc⟩:∃ c,cs.getD i Kerb.noCross=c:=⟨_,rfl⟩
   have hK:Yn (Yj (Zm cu co cv cr lt tn mt cad cfr cis ctm ctk clf ccs cky ckv css ctt cau) qf qt_ qp ql qn qk qh) cs=⟨⟨Xg,Xq 0,c.source⟩,c.kvno,c.key⟩:=by
    unfold Yn
    dsimp only
    rw [if_pos ⟨q1,q2⟩,hi,hc]
   have hg:(cs.map Kerb.Cross.av).getD i Uu=c.av:=by rw [Kerb.getD_row (d:=Kerb.noCross) hi2,hc]
   have hco:=hcs c (hc ▸ Kerb.mem_row (d:=Kerb.noCross) hi2)
   have hkv:Kerb.isKv c=true:=List.all_eq_true.1 xk c (hc ▸ Kerb.mem_row (d:=Kerb.noCross) hi2)
   have hkv2:(decide ((0:Int)≤c.kvno)&&decide (c.kvno≤1000))=true:=hkv
   have hkv3:decide ((0:Int)≤c.kvno)=true:=by simp only [Yz] at hkv2;exact hkv2.1
   have hkv4:decide (c.kvno≤1000)=true:=by simp only [Yz] at hkv2;exact hkv2.2
   have co1:=hco.1
   have co4:=hco.2.2.2
   have hk:(decide ((0:Int)≤(i:Int))&&decide ((i:Int)<(cs.length:Int)))=true:=by simp;omega
   have hne:(!(cs.length:Int)==0)=true:=by rw [show ((cs.length:Int)==0)=false from beq_false_of_ne (by omega)];rfl
   have hgt:decide ((cs.length:Int)>0)=true:=by simp;omega
   simp (config:={maxSteps:=10000000}) only [q1,decide_true,↓sTrue,hgt,hne,hm,hk,Vk,hg,Kerb.Cross.av,hkv3,hkv4,co1,co4,Yg,Wv,Vf,↓sInt,↓sU8,↓sBool,↓sStr,↓sBs,↓sSl,↓sAgg,↓sTup,↓sCons,↓sNil,↓sNilB,↓sChk,↓sChkBind,↓sSome,↓sOwnL,↓sConsB,↓sOwnB]
   rcases Decidable.em (qt_.toNat % 5=4) with p | p
   ·rw [if_pos p] at hWW
    have hW:=hWW
    simp only [p,decide_true,↓sTrue]
    have lB:(Xb (Yj (Zm cu co cv cr lt tn mt cad cfr cis ctm ctk clf ccs cky ckv css ctt cau) qf qt_ qp ql qn qk qh) cs).length≤1000000:=Kerb.base_len _ _
    have hB:Xb (Yj (Zm cu co cv cr lt tn mt cad cfr cis ctm ctk clf ccs cky ckv css ctt cau) qf qt_ qp ql qn qk qh) cs=Xj (Zm cu co cv cr lt tn mt cad cfr cis ctm ctk clf ccs cky ckv css ctt cau) (Yn (Yj (Zm cu co cv cr lt tn mt cad cfr cis ctm ctk clf ccs cky ckv css ctt cau) qf qt_ qp ql qn qk qh) cs).service (Yn (Yj (Zm cu co cv cr lt tn mt cad cfr cis ctm ctk clf ccs cky ckv css ctt cau) qf qt_ qp ql qn qk qh) cs).key (Yn (Yj (Zm cu co cv cr lt tn mt cad cfr cis ctm ctk clf ccs cky ckv css ctt cau) qf qt_ qp ql qn qk qh) cs).kvno 5 (Zb ql) (Vn (Yj (Zm cu co cv cr lt tn mt cad cfr cis ctm ctk clf ccs cky ckv css ctt cau) qf qt_ qp ql qn qk qh)):=rfl
    have hW3:Zg (Yf (Zb qt_ % 3)).name (Yf (Zb qt_ % 3)).inst (Yf (Zb qt_ % 3)).realm=Yf (Zb qt_ % 3):=rfl
    rw [hK,hW] at hB
    dsimp only at hB
    simp only [hW3,← hB]
    unfold Kerb.TAsk.msg
    dsimp only
    by_cases q7:qh % 8=7
    ·rw [sel_pos (by simpa using q7),if_pos q7]
     simp (config:={maxSteps:=10000000}) only [lB,z9,decide_true,Wv,Vf,↓sInt,↓sU8,↓sBool,↓sStr,↓sBs,↓sSl,↓sAgg,↓sTup,↓sCons,↓sNil,↓sNilB,↓sChk,↓sChkBind,↓sSome,↓sOwnL,↓sConsB,↓sOwnB]
    ·rw [sel_neg (by simpa using q7),if_neg q7]
   ·rw [if_neg p] at hWW
    have hW:=hWW
    simp only [p,decide_false,↓sFalse]
    have lB:(Xb (Yj (Zm cu co cv cr lt tn mt cad cfr cis ctm ctk clf ccs cky ckv css ctt cau) qf qt_ qp ql qn qk qh) cs).length≤1000000:=Kerb.base_len _ _
    have hB:Xb (Yj (Zm cu co cv cr lt tn mt cad cfr cis ctm ctk clf ccs cky ckv css ctt cau) qf qt_ qp ql qn qk qh) cs=Xj (Zm cu co cv cr lt tn mt cad cfr cis ctm ctk clf ccs cky ckv css ctt cau) (Yn (Yj (Zm cu co cv cr lt tn mt cad cfr cis ctm ctk clf ccs cky ckv css ctt cau) qf qt_ qp ql qn qk qh) cs).service (Yn (Yj (Zm cu co cv cr lt tn mt cad cfr cis ctm ctk clf ccs cky ckv css ctt cau) qf qt_ qp ql qn qk qh) cs).key (Yn (Yj (Zm cu co cv cr lt tn mt cad cfr cis ctm ctk clf ccs cky ckv css ctt cau) qf qt_ qp ql qn qk qh) cs).kvno 5 (Zb ql) (Vn (Yj (Zm cu co cv cr lt tn mt cad cfr cis ctm ctk clf ccs cky ckv css ctt cau) qf qt_ qp ql qn qk qh)):=rfl
    have hW3:Zg (Yf (Zb qt_ % 3)).name (Yf (Zb qt_ % 3)).inst (Yf (Zb qt_ % 3)).realm=Yf (Zb qt_ % 3):=rfl
    rw [hK,hW] at hB
    dsimp only at hB
    simp only [hW3,← hB]
    unfold Kerb.TAsk.msg
    dsimp only
    by_cases q7:qh % 8=7
    ·rw [sel_pos (by simpa using q7),if_pos q7]
     simp (config:={maxSteps:=10000000}) only [lB,z9,decide_true,Wv,Vf,↓sInt,↓sU8,↓sBool,↓sStr,↓sBs,↓sSl,↓sAgg,↓sTup,↓sCons,↓sNil,↓sNilB,↓sChk,↓sChkBind,↓sSome,↓sOwnL,↓sConsB,↓sOwnB]
    ·rw [sel_neg (by simpa using q7),if_neg q7]
  ·have hK:Yn (Yj (Zm cu co cv cr lt tn mt cad cfr cis ctm ctk clf ccs cky ckv css ctt cau) qf qt_ qp ql qn qk qh) cs=⟨⟨Xg,Xq 0,Xq 0⟩,6,Kerb.long 3⟩:=by
    unfold Yn
    rw [if_neg q]
   have hs:∀ a b:Option (AV×Blocks),sel (decide (qf.toNat % 3=2)) (sel (decide ((cs.length:Int)>0)) a b) b=b:=by
    intro a b
    by_cases q1:qf.toNat % 3=2
    ·have:¬ ((cs.length:Int)>0):=fun h=>q ⟨q1,by omega⟩
     rw [sel_pos (by simpa using q1),sel_neg (by simpa using this)]
    ·rw [sel_neg (by simpa using q1)]
   rw [hs]
   rcases Decidable.em (qt_.toNat % 5=4) with p | p
   ·rw [if_pos p] at hWW
    have hW:=hWW
    simp only [p,decide_true,↓sTrue]
    have lB:(Xb (Yj (Zm cu co cv cr lt tn mt cad cfr cis ctm ctk clf ccs cky ckv css ctt cau) qf qt_ qp ql qn qk qh) cs).length≤1000000:=Kerb.base_len _ _
    have hB:Xb (Yj (Zm cu co cv cr lt tn mt cad cfr cis ctm ctk clf ccs cky ckv css ctt cau) qf qt_ qp ql qn qk qh) cs=Xj (Zm cu co cv cr lt tn mt cad cfr cis ctm ctk clf ccs cky ckv css ctt cau) (Yn (Yj (Zm cu co cv cr lt tn mt cad cfr cis ctm ctk clf ccs cky ckv css ctt cau) qf qt_ qp ql qn qk qh) cs).service (Yn (Yj (Zm cu co cv cr lt tn mt cad cfr cis ctm ctk clf ccs cky ckv css ctt cau) qf qt_ qp ql qn qk qh) cs).key (Yn (Yj (Zm cu co cv cr lt tn mt cad cfr cis ctm ctk clf ccs cky ckv css ctt cau) qf qt_ qp ql qn qk qh) cs).kvno 5 (Zb ql) (Vn (Yj (Zm cu co cv cr lt tn mt cad cfr cis ctm ctk clf ccs cky ckv css ctt cau) qf qt_ qp ql qn qk qh)):=rfl
    have hW3:Zg (Yf (Zb qt_ % 3)).name (Yf (Zb qt_ % 3)).inst (Yf (Zb qt_ % 3)).realm=Yf (Zb qt_ % 3):=rfl
    rw [hK,hW] at hB
    dsimp only at hB
    simp only [hW3,← hB]
    unfold Kerb.TAsk.msg
    dsimp only
    by_cases q7:qh % 8=7
    ·rw [sel_pos (by simpa using q7),if_pos q7]
     simp (config:={maxSteps:=10000000}) only [lB,z9,decide_true,Wv,Vf,↓sInt,↓sU8,↓sBool,↓sStr,↓sBs,↓sSl,↓sAgg,↓sTup,↓sCons,↓sNil,↓sNilB,↓sChk,↓sChkBind,↓sSome,↓sOwnL,↓sConsB,↓sOwnB]
    ·rw [sel_neg (by simpa using q7),if_neg q7]
   ·rw [if_neg p] at hWW
    have hW:=hWW
    simp only [p,decide_false,↓sFalse]
    have lB:(Xb (Yj (Zm cu co cv cr lt tn mt cad cfr cis ctm ctk clf ccs cky ckv css ctt cau) qf qt_ qp ql qn qk qh) cs).length≤1000000:=Kerb.base_len _ _
    have hB:Xb (Yj (Zm cu co cv cr lt tn mt cad cfr cis ctm ctk clf ccs cky ckv css ctt cau) qf qt_ qp ql qn qk qh) cs=Xj (Zm cu co cv cr lt tn mt cad cfr cis ctm ctk clf ccs cky ckv css ctt cau) (Yn (Yj (Zm cu co cv cr lt tn mt cad cfr cis ctm ctk clf ccs cky ckv css ctt cau) qf qt_ qp ql qn qk qh) cs).service (Yn (Yj (Zm cu co cv cr lt tn mt cad cfr cis ctm ctk clf ccs cky ckv css ctt cau) qf qt_ qp ql qn qk qh) cs).key (Yn (Yj (Zm cu co cv cr lt tn mt cad cfr cis ctm ctk clf ccs cky ckv css ctt cau) qf qt_ qp ql qn qk qh) cs).kvno 5 (Zb ql) (Vn (Yj (Zm cu co cv cr lt tn mt cad cfr cis ctm ctk clf ccs cky ckv css ctt cau) qf qt_ qp ql qn qk qh)):=rfl
    have hW3:Zg (Yf (Zb qt_ % 3)).name (Yf (Zb qt_ % 3)).inst (Yf (Zb qt_ % 3)).realm=Yf (Zb qt_ % 3):=rfl
    rw [hK,hW] at hB
    dsimp only at hB
    simp only [hW3,← hB]
    unfold Kerb.TAsk.msg
    dsimp only
    by_cases q7:qh % 8=7
    ·rw [sel_pos (by simpa using q7),if_pos q7]
     simp (config:={maxSteps:=10000000}) only [lB,z9,decide_true,Wv,Vf,↓sInt,↓sU8,↓sBool,↓sStr,↓sBs,↓sSl,↓sAgg,↓sTup,↓sCons,↓sNil,↓sNilB,↓sChk,↓sChkBind,↓sSome,↓sOwnL,↓sConsB,↓sOwnB]
    ·rw [sel_neg (by simpa using q7),if_neg q7]
 ·cases h
theorem w23:Walked Tryz.prog G 23 9 sp23:=by
 refine ⟨Tryz.f23,Tryz.func23,by decide +kernel,rfl,fun xs bl r h=> ?_⟩
 unfold sp23 at h
 split at h
 ·rename_i b
  obtain ⟨hpre,h2⟩:=chk_inv h;cases h2
  refine Eq.trans (b:=(let t1:AV:=Wu [Zj false,Zj false,Zz .i64 0,Zq [],Zd [],Zd [],Zz .i64 0,Zz .i64 0,Zq [],Zq []];let t0:Option (AV×Blocks):=some (Zh [t1,Zz .i64 100],[]);sel (!Ym (Uj b [3])==0) (some (Zh [t1,Zz .i64 (Ym (Uj b [3]))],[])) (Zx (chk (decide (Zy b≤140737488355328)) (some (Zh [Wu [Zj (Kerb.ApRequest.little (Wg (Wj b))),Zj (Kerb.ApRequest.mutual_ (Wg (Wj b))),Zz .i64 (Kerb.ApRequest.kvno (Wg (Wj b))),Zq (Kerb.ApRequest.realm (Wg (Wj b))),Zd (Kerb.ApRequest.ticket (Wg (Wj b))),Zd (Kerb.ApRequest.auth (Wg (Wj b)))],Zz .i64 (Kerb.GotAp.next (Wj b))],[]))) (kT fun vs=>onCons vs fun x r=>Uq x fun cs=>cBool cs fun b_1 r_1=>cBool r_1 fun b_2 r_2=>cInt .i64 r_2 fun n r_3=>cStr r_3 fun b_3 r_4=>cBs r_4 fun b_4 r_5=>cBs r_5 fun b_5 r_6=>onNil r_6 (cInt .i64 r fun n_1 r=>let t2:Kerb.Got:=Kerb.get b n_1 4 (Xy (Uj b [3]));onNil r (Zx (chk (decide (Zy b≤4611686018427387904)) (some (Zh [Zz .i64 (Kerb.Got.val t2),Zz .i64 (Kerb.Got.next t2),Zz .i64 (Kerb.Got.err t2)],[]))) (kT fun vs=>cInt .i64 vs fun n_2 r=>cInt .i64 r fun n_3 r=>cInt .i64 r fun n_4 r=>onNil r (Zx (chk (decide (Zy b≤4611686018427387904)) (some (Zh [Zz .i64 (Kerb.Got.val (Kerb.get b n_3 1 false)),Zz .i64 (Kerb.Got.next (Kerb.get b n_3 1 false)),Zz .i64 (Kerb.Got.err (Kerb.get b n_3 1 false))],[]))) (kT fun vs=>cInt .i64 vs fun n_5 r=>cInt .i64 r fun n_6 r=>cInt .i64 r fun n_7 r=>onNil r (Zx (chk (decide (Zy b≤4611686018427387904)) (some (Zh [Zq (Kerb.GotB.val (Xh b n_6)),Zz .i64 (Kerb.GotB.next (Xh b n_6)),Zz .i64 (Kerb.GotB.err (Xh b n_6))],[]))) (kT fun vs=>cStr vs fun b_6 r=>cInt .i64 r fun n_8 r=>cInt .i64 r fun n_9 r=>onNil r (Zx (chk (decide (Zy b≤4611686018427387904)) (some (Zh [Zq (Kerb.GotB.val (Xh b n_8)),Zz .i64 (Kerb.GotB.next (Xh b n_8)),Zz .i64 (Kerb.GotB.err (Xh b n_8))],[]))) (kT fun vs=>cStr vs fun b_7 r=>cInt .i64 r fun n_10 r=>cInt .i64 r fun n_11 r=>onNil r (Zx (chk (l63 b_3&&l63 b_6&&l63 b_7) (some (Zh [Zd (Xw (Vu (Vj (Xn b_1 b_2 n b_3 b_4 b_5) n_2 n_5 b_6 b_7))),Zz .i64 (Xv (Vu (Vj (Xn b_1 b_2 n b_3 b_4 b_5) n_2 n_5 b_6 b_7)))],[]))) (kT fun vs=>cBs vs fun b_8 r=>cInt .i64 r fun n_12 r=>onNil r (sel (!n_12==0) t0 (sel (!b_8==b) t0 (some (Zh [Wu [Zj b_1,Zj b_2,Zz .i64 n,Zq b_3,Zd b_4,Zd b_5,Zz .i64 n_2,Zz .i64 n_5,Zq b_6,Zq b_7],Zz .i64 0],[]))))))))))))))))):Option (AV×Blocks))) (by kernel_rfl) ?_
  delta kT
  try dsimp only [cStr,cBs,cBool,cU8,cInt,cSl,l63]
  have hb:=of_decide_eq_true hpre
  have hpre2:decide (b.length≤4611686018427387904)=true:=by simp;omega
  obtain ⟨g1,g2,g3⟩:=Kerb.readTgs_bd b (Uj b [3]).1
  have e1:∀ p,decide ((Xh b p).val.length≤9223372036854775807)=true:=fun p=>by have:=Kerb.text_len b p;simp;omega
  unfold Kerb.decodeTgs
  by_cases h:(Uj b [3]).2=0
  case neg=>rw [sel_pos (by simpa using h),if_pos h];rfl
  rw [sel_neg (by simpa using h),if_neg (by simpa using h)]
  have g4:decide ((Wj b).val.realm.length≤9223372036854775807)=true:=decide_eq_true (show (Wj b).val.realm.length≤9223372036854775807 from g1)
  simp only [hpre,hpre2,g4,e1,decide_true,Yg,↓A0,A0]
  exact Kerb.decBy_fin (b:=b) (no:=Kerb.noTgs) (enc:=Vu) (rd:=fun b=>(Kerb.readTgs b (Uj b [3]).1,false)) _ false rfl (fun x e=>(Zh [.agg [.bool (x).ap.little,.bool (x).ap.mutual_,.int .i64 (x).ap.kvno,.str (x).ap.realm,.bs (x).ap.ticket,.bs (x).ap.auth,.int .i64 (x).time,.int .i64 (x).life,.str (x).service,.str (x).inst],Zz Zk e],([]:Blocks)))
 ·cases h
theorem w51:Walked Tryz.prog G 51 9 sp51:=by
 refine ⟨Tryz.f51,Tryz.func51,by decide +kernel,rfl,fun xs bl r h=> ?_⟩
 unfold sp51 at h
 split at h
 ·rename_i m1 m2 m3 kls sz fl mls sk
  obtain ⟨hpre,h2⟩:=chk_inv h;cases h2
  refine Eq.trans (b:=(Zx (chk (decide (Zy m1≤9223372036854775807)&&decide (Zy m2≤9223372036854775807)&&decide (Zy m3≤9223372036854775807)) (some (Zj (Yv (Zg m1 m2 m3)),[]))) fun (r:AV×Blocks)=>onNilB (Ym r) (Vb (Xy r) fun b=>sel (!b) (some (Zz .i64 103,[])) (Zx (chk (List.all kls Kerb.isSKey&&decide (Zy kls≤1000000)) (some (Zz .i64 (Kerb.skErr (Vg Kerb.toSKey kls)),[]))) fun (r:AV×Blocks)=>onNilB (Ym r) (Wh .i64 (Xy r) fun n=>sel (!n==0) (some (Zz .i64 n,[])) (Zx (chk (List.all mls Kerb.isMark&&decide (Zy mls≤1000000)) (some (Zz .i64 (Uv (Kerb.RCache.mk sz fl (Vg Kerb.toMark mls))),[]))) fun (r:AV×Blocks)=>onNilB (Ym r) (Wh .i64 (Xy r) fun n=>sel (!n==0) (some (Zz .i64 n,[])) (sel (!Zn sk 4294967295) (some (Zz .i64 104,[])) (some (Zz .i64 0,[])))))))):Option (AV×Blocks))) (by kernel_rfl) ?_
  simp only [Yz,decide_eq_true_eq] at hpre
  obtain ⟨⟨⟨⟨⟨⟨l1,l2⟩,l3⟩,ka⟩,kl⟩,ma⟩,ml⟩:=hpre
  obtain ⟨ks,rfl,hks⟩:=Kerb.skeys_of ka
  obtain ⟨ms,rfl,hms⟩:=Kerb.marks_of ma
  have hkT:=Kerb.skeys_all hks
  have hmT:=Kerb.marks_all hms
  simp only [Yh] at kl ml
  simp only [Kerb.map_toSKey,Kerb.map_toMark,Yh,hkT,hmT,kl,ml,l1,l2,l3,decide_true,Yg,↓A0,A0]
  unfold Kerb.Server.err
  dsimp only
  cases g1:Yv ⟨m1,m2,m3⟩
  ·rfl
  rw [Yx,sel_false,if_neg (by simp)]
  by_cases g2:Kerb.skErr ks=0
  case neg=>rw [sel_pos (by simpa using g2),if_pos g2]
  rw [sel_neg (by simpa using g2),if_neg (by simpa using g2)]
  by_cases g3:Uv ⟨sz,fl,ms⟩=0
  case neg=>rw [sel_pos (by simpa using g3),if_pos g3]
  rw [sel_neg (by simpa using g3),if_neg (by simpa using g3)]
  cases Zn sk 4294967295<;>rfl
 ·cases h
theorem w54:Walked Tryz.prog G 54 9 sp54:=by
 refine ⟨Tryz.f54,Tryz.func54,by decide +kernel,rfl,fun xs bl r h=> ?_⟩
 unfold sp54 at h
 split at h
 ·rename_i sz fl mls a1 a2 a3 at_ atk now skw
  obtain ⟨hpre,h2⟩:=chk_inv h;cases h2
  refine Eq.trans (b:=(let t0:AV:=Wu [Zz .i64 0,Zz .i64 0,Xz 5 []];Zx (chk (List.all mls Kerb.isMark&&decide (Zy mls≤1000000)) (some (Zz .i64 (Uv (Kerb.RCache.mk sz fl (Vg Kerb.toMark mls))),[]))) (kI .i64 fun n=>sel (!n==0) (some (Zh [t0,Zz .i64 108],[])) (Zx (chk (l63 a1&&l63 a2&&l63 a3) (some (Zj (Yv (Zg a1 a2 a3)),[]))) (kL fun b=>sel (!b) (some (Zh [t0,Zz .i64 103],[])) (sel (!(decide (0≤atk)&&decide (atk≤199))) (some (Zh [t0,Zz .i64 104],[])) (sel (!Kerb.near at_ now skw) (some (Zh [t0,Zz .i64 37],[])) (sel (decide (at_<fl)) (some (Zh [t0,Zz .i64 37],[])) (Zx (chk (List.all mls Kerb.isMark&&decide (Zy mls≤1000000)) (some (Zj (Kerb.hasMark (Vg Kerb.toMark mls) (Kerb.Mark.mk (Zg a1 a2 a3) at_ atk)),[]))) (kL fun b=>sel b (some (Zh [t0,Zz .i64 34],[])) (Zx (loopM (fun (st:List AV)=>cInt .i64 st fun n r=>cInt .i64 r fun n_1 r=>cSl 5 r fun b r=>cStr r fun b_1 r=>cStr r fun b_2 r=>cStr r fun b_3 r=>cInt .i64 r fun n_2 r=>cInt .i64 r fun n_3 r=>cInt .i64 r fun n_4 r=>cInt .i64 r fun n_5 r=>cSl 5 r fun b_4 r=>cInt .i64 r fun n_6 r=>cInt .i64 r fun n_7 r=>onCons r fun x r=>AV.onOwnL x fun y=>cSl 5 r fun b_5 r=>cInt .i64 r fun n_8 r=>cInt .i64 r fun n_9 r=>let t1:List AV:=[Xz 5 b_5,Zz .i64 n_8,Zz .i64 (Zf .i64 (n_9+1))];onNil r (sel (decide (n_9<n_8)) (chk (decide (0≤n_9)&&decide (n_9<(↑(Zy b_5):Int))&&true) (Uq (Wx b_5 (Yy n_9) Uu) fun cs=>cStr cs fun b_6 r=>cStr r fun b_7 r=>cStr r fun b_8 r=>cInt .i64 r fun n_10 r=>cInt .i64 r fun n_11 r=>let t2:List AV:=[Wu [Zq b_6,Zq b_7,Zq b_8,Zz .i64 n_10,Zz .i64 n_11]];onNil r (sel (decide (n_10≥n_7)) (chk (room (Zy y+Zy t2) (nat_lit 64)) (some (Sum.inl (Zz .i64 n::Zz .i64 n_1::Xz 5 b::Zq b_1::Zq b_2::Zq b_3::Zz .i64 n_2::Zz .i64 n_3::Zz .i64 n_4::Zz .i64 n_5::Xz 5 b_4::Zz .i64 n_6::Zz .i64 n_7::AV.ownL (y++t2)::t1)))) (some (Sum.inl (Zz .i64 n::Zz .i64 n_1::Xz 5 b::Zq b_1::Zq b_2::Zq b_3::Zz .i64 n_2::Zz .i64 n_3::Zz .i64 n_4::Zz .i64 n_5::Xz 5 b_4::Zz .i64 n_6::Zz .i64 n_7::AV.ownL y::t1)))))) (some (Wf (Ex.exit 1,[Zz .i64 n,Zz .i64 n_1,Xz 5 b,Zq b_1,Zq b_2,Zq b_3,Zz .i64 n_2,Zz .i64 n_3,Zz .i64 n_4,Zz .i64 n_5,Xz 5 b_4,Zz .i64 n_6,Zz .i64 n_7,AV.ownL y,Xz 5 b_5,Zz .i64 n_8,Zz .i64 n_9]))))) [Zz .i64 sz,Zz .i64 fl,Xz 5 mls,Zq a1,Zq a2,Zq a3,Zz .i64 at_,Zz .i64 atk,Zz .i64 0,Zz .i64 0,Xz 5 [],Zz .i64 sz,Zz .i64 (Kerb.imax fl (Zf .i64 (now-skw))),AV.ownL [],Xz 5 mls,Zz .i64 (↑(Zy mls):Int),Zz .i64 0]) fun (r:Ex×List AV)=>cInt .i64 (Ym r) fun n r_1=>cInt .i64 r_1 fun n_1 r_2=>cSl 5 r_2 fun b r_3=>cStr r_3 fun b r_4=>cStr r_4 fun b_1 r_5=>cStr r_5 fun b_2 r_6=>cInt .i64 r_6 fun n_2 r_7=>cInt .i64 r_7 fun n_3 r_8=>let t3:List AV:=[Wu [Zq b,Zq b_1,Zq b_2,Zz .i64 n_2,Zz .i64 n_3]];cInt .i64 r_8 fun n_4 r_9=>cInt .i64 r_9 fun n_5 r_10=>cSl 5 r_10 fun b r_11=>cInt .i64 r_11 fun n_6 r_12=>cInt .i64 r_12 fun n_7 r_13=>onCons r_13 fun x r_14=>AV.onOwnL x fun y=>cSl 5 r_14 fun b r_15=>cInt .i64 r_15 fun n_8 r_16=>cInt .i64 r_16 fun n_9 r_17=>onNil r_17 (exK r.1 none fun (j:Nat)=>sel (Nat.beq j 1) (sel (decide ((↑(Zy y):Int)≥n)) (some (Zh [t0,Zz .i64 82],[])) (chk (room (Zy y+Zy t3) (nat_lit 64)) (some (Zh [Wu [Zz .i64 n_6,Zz .i64 n_7,Xz 5 (y++t3)],Zz .i64 0],[])))) none)))))))))):Option (AV×Blocks))) (by kernel_rfl) ?_
  delta kL kI
  try dsimp only [cStr,cBs,cBool,cU8,cInt,cSl,l63]
  simp only [Yz,decide_eq_true_eq] at hpre
  obtain ⟨⟨⟨⟨hall,hlen⟩,l1⟩,l2⟩,l3⟩:=hpre
  obtain ⟨cs,rfl,hok⟩:=Kerb.marks_of hall
  have hma:=Kerb.marks_all hok
  simp only [Yh] at hlen
  have hlT:decide (cs.length≤1000000)=true:=decide_eq_true hlen
  simp only [Kerb.map_toMark,Yh,hma,hlT,l1,l2,l3,decide_true,Yg,↓A0,A0]
  obtain ⟨R,hR⟩:∃ R,Kerb.RCache.mk sz fl cs=R:=⟨_,rfl⟩
  unfold Kerb.addMark
  by_cases h1:(Kerb.RCache.mk sz fl cs).err=0
  case neg=>rw [sel_pos (by simpa using h1),if_pos h1];rfl
  rw [sel_neg (by simpa using h1),if_neg (by simpa using h1)]
  cases h2:Yv ⟨a1,a2,a3⟩
  ·rfl
  rw [Yx,sel_false,if_neg (by simp)]
  cases h3:(decide ((0:Int)≤atk)&&decide (atk≤199))
  ·rw [if_pos (by unfold Zn;rw [h3];rfl)];rfl
  rw [Yx,sel_false,if_neg (by unfold Zn;rw [h3];simp)]
  cases h4:Kerb.near at_ now skw
  ·rw [if_pos (.inl rfl)];rfl
  rw [Yx,sel_false]
  by_cases h5:at_<fl
  ·rw [sel_pos (by simpa using h5),if_pos (.inr h5)];rfl
  rw [sel_neg (by simpa using h5),if_neg (by simp;omega)]
  cases h6:Kerb.hasMark cs ⟨⟨a1,a2,a3⟩,at_,atk⟩
  case true=>rfl
  rw [sel_false,if_neg (by simp)]
  have hn:(0≤now∧now≤4294967295)∧(0≤skw∧skw≤4294967295):=by
   simp only [Kerb.near,Yz,Kerb.within_iff] at h4
   omega
  rw [wrap_i64 (n:=now-skw) (by omega) (by omega)]
  obtain ⟨FL,hFL⟩:∃ FL,Kerb.imax fl (now-skw)=FL:=⟨_,rfl⟩
  have hfr:Kerb.freshMarks ⟨sz,fl,cs⟩ now skw=cs.filter (fun x=>decide (FL≤x.time)):=by rw [← hFL];rfl
  rw [hfr,hFL]
  have r64:∀ {m:Nat},m≤1000001→Go.Abs.room m 64=true:=fun h=>by simp [Go.Abs.room];omega
  have hfl:∀ i,((cs.take i).filter (fun x=>decide (FL≤x.time))).length≤1000000:=fun i=>by
   refine Nat.le_trans (List.length_filter_le _ _) ?_
   rw [List.length_take];omega
  refine loop_rounds (fun i:Nat=>[Zz Zk sz,Zz Zk fl,Xz 5 (cs.map Xx),Zq a1,Zq a2,Zq a3,Zz Zk at_,Zz Zk atk,Zz Zk 0,Zz Zk 0,Xz 5 [],Zz Zk sz,Zz Zk FL,AV.ownL (((cs.take i).filter (fun x=>decide (FL≤x.time))).map Xx),Xz 5 (cs.map Xx),Zz Zk (cs.length:Int),Zz Zk (i:Int)]) (fun i=>i≤cs.length) (fun i=>cs.length-i)
   (fun r=>∃ i:Nat,r=(Ex.exit 1,[Zz Zk sz,Zz Zk fl,Xz 5 (cs.map Xx),Zq a1,Zq a2,Zq a3,Zz Zk at_,Zz Zk atk,Zz Zk 0,Zz Zk 0,Xz 5 [],Zz Zk sz,Zz Zk FL,AV.ownL (((cs.take i).filter (fun x=>decide (FL≤x.time))).map Xx),Xz 5 (cs.map Xx),Zz Zk (cs.length:Int),Zz Zk (i:Int)])∧i=cs.length) 0 (Nat.zero_le _) rfl ?_ ?_
  ·intro i hi
   simp only [↓A0,A0,Yh,List.length_cons,List.length_nil]
   by_cases hlt:i<cs.length
   ·have hk1:(decide ((0:Int)≤(i:Int))&&decide ((i:Int)<(cs.length:Int))&&true)=true:=by simp;omega
    have hg:(cs.map Xx).getD i Uu=(cs.getD i Kerb.noMark).av:=Kerb.getD_row hlt
    obtain ⟨c,hc⟩:∃ c,cs.getD i Kerb.noMark=c:=⟨_,rfl⟩
    have hs:(cs.take (i+1)).filter (fun x=>decide (FL≤x.time))=(cs.take i).filter (fun x=>decide (FL≤x.time))++(if FL≤c.time then [c] else []):=by
     rw [Kerb.take_row (d:=Kerb.noMark) hlt,hc,List.filter_append]
     congr 1
     by_cases q:FL≤c.time<;>simp [q]
    rw [hc] at hg
    rw [sel_pos (by simp;omega)]
    simp only [hk1,Vk,hg,Xx,↓A0,A0]
    rw [wrap_i64 (by omega) (by omega)]
    by_cases hq:FL≤c.time
    ·rw [if_pos hq] at hs
     rw [sel_pos (by simpa using hq),chk_of (r64 (by have:=hfl i;omega))]
     refine ⟨_,rfl,i+1,?_,by omega,by dsimp only;omega⟩
     dsimp only
     rw [hs,List.map_append]
     rfl
    ·rw [if_neg hq,List.append_nil] at hs
     rw [sel_neg (by simpa using hq)]
     exact ⟨_,rfl,i+1,by dsimp only;rw [hs];rfl,by omega,by dsimp only;omega⟩
   ·rw [sel_neg (by simp;omega)]
    exact ⟨_,rfl,i,rfl,by omega⟩
  ·rintro _ ⟨i,rfl,rfl⟩
   simp only [↓A0,A0,Yh,List.length_cons,List.length_nil]
   rw [sel_pos (Nat.beq_refl _),List.take_length]
   have hF:=hfl cs.length
   rw [List.take_length] at hF
   by_cases h7:sz≤((cs.filter (fun x=>decide (FL≤x.time))).length:Int)
   ·rw [sel_pos (by simp;omega),if_pos h7];rfl
   ·rw [sel_neg (by simp;omega),if_neg h7,chk_of (r64 (by omega)),List.map_append]
    rfl
 ·cases h
theorem w56:Walked Tryz.prog G 56 9 sp56:=by
 refine ⟨Tryz.f56,Tryz.func56,by decide +kernel,rfl,fun xs bl r h=> ?_⟩
 unfold sp56 at h
 split at h
 ·rename_i x y z cd now li
  obtain ⟨hpre,h2⟩:=chk_inv h;cases h2
  refine Eq.trans (b:=(Zx (chk (decide (Zy x≤9223372036854775807)&&decide (Zy y≤9223372036854775807)&&decide (Zy z≤9223372036854775807)&&decide (Zy (Kerb.message cd)≤9223372036854775807)) (some (Zh [Zd (Xw (Kerb.encodeError (Kerb.ErrorReply.mk li (Zg x y z) now cd (Kerb.message cd)))),Zz .i64 (Xv (Kerb.encodeError (Kerb.ErrorReply.mk li (Zg x y z) now cd (Kerb.message cd))))],[]))) fun (r:AV×Blocks)=>onNilB (Ym r) (AV.onTup (Xy r) fun vs=>onCons vs fun x r=>AV.onBs x fun b=>onCons r fun x r=>Wh .i64 x fun n=>onNil r (sel (!n==0) (some (Zd [],[])) (some (Zd b,[])))):Option (AV×Blocks))) (by kernel_rfl) ?_
  simp only [Yz,decide_eq_true_eq] at hpre
  obtain ⟨⟨l1,l2⟩,l3⟩:=hpre
  have hm:(Kerb.message cd).length≤9223372036854775807:=by have:=Kerb.message_len cd;omega
  simp only [l1,l2,l3,hm,decide_true,Yg,↓A0,A0]
  unfold Kerb.refuse
  by_cases h:(Kerb.encodeError ⟨li,⟨x,y,z⟩,now,cd,Kerb.message cd⟩).err=0
  ·rw [sel_neg (by simpa using h)]
  ·rw [sel_pos (by simpa using h),Kerb.encError_no h]
 ·cases h
theorem w63:Walked Tryz.prog G 63 9 sp63:=by
 refine ⟨Tryz.f63,Tryz.func63,by decide +kernel,rfl,fun xs bl r h=> ?_⟩
 unfold sp63 at h
 split at h
 ·rename_i rl els xls now li se rli rmu rkv rrl rtk rau wtm wlf wsv win cx cy cz ck2 cad ccs ctm ctc cis clf ctk cau pk p1 p2 p3 pl pv pt pm
  obtain ⟨hpre,h2⟩:=chk_inv h;cases h2
  refine Eq.trans (b:=(Zx (chk (l63 p1&&l63 p2&&l63 p3&&decide (0≤pk)&&decide (pk<18446744073709551616)) (some (Zh [Zd (Xw (Vh (Vd pk (Zg p1 p2 p3) pl pv pt pm) li)),Zz .i64 (Xv (Vh (Vd pk (Zg p1 p2 p3) pl pv pt pm) li))],[]))) (kT fun vs=>cBs vs fun b r=>cInt .i64 r fun n r=>onNil r (sel (!n==0) (some (Zh [Zd [],Zz .i64 n],[])) (Zx (chk (decide (0≤ck2)&&decide (ck2<18446744073709551616)) (some (Zh [Zd (Xw (Vw 3 ck2 b)),Zz .i64 (Xv (Vw 3 ck2 b))],[]))) (kT fun vs=>cBs vs fun b r=>cInt .i64 r fun n r=>onNil r (sel (!n==0) (some (Zh [Zd [],Zz .i64 n],[])) (Zx (chk (l63 cx&&l63 cy&&l63 cz) (some (Zh [Zd (Xw (Kerb.encodeReply (Kerb.KdcReply.mk li (Zg cx cy cz) wtm 0 0 b))),Zz .i64 (Xv (Kerb.encodeReply (Kerb.KdcReply.mk li (Zg cx cy cz) wtm 0 0 b)))],[]))) (kT fun vs=>cBs vs fun b r=>cInt .i64 r fun n r=>onNil r (some (Zh [Zd b,Zz .i64 n],[]))))))))):Option (AV×Blocks))) (by kernel_rfl) ?_
  delta kT
  try dsimp only [cStr,cBs,cBool,cU8,cInt,cSl,l63]
  simp only [Yz,decide_eq_true_eq] at hpre
  obtain ⟨⟨⟨⟨⟨⟨⟨l1,l2⟩,l3⟩,l4⟩,l5⟩,l6⟩,k1⟩,k2⟩:=hpre
  have k1:=Kerb.isU64_iff.1 k1
  have k2:=Kerb.isU64_iff.1 k2
  simp only [l1,l2,l3,l4,l5,l6,k1,k2,decide_true,Yg,↓A0,A0]
  unfold Kerb.sealReply
  by_cases h1:(Vh (Vd pk ⟨p1,p2,p3⟩ pl pv pt pm) li).err=0
  case neg=>rw [sel_pos (by simpa using h1),if_pos h1]
  rw [sel_neg (by simpa using h1),if_neg (by simpa using h1)]
  by_cases h2:(Vw 3 ck2 (Vh (Vd pk ⟨p1,p2,p3⟩ pl pv pt pm) li).val).err=0
  case neg=>rw [sel_pos (by simpa using h2),if_pos h2]
  rw [sel_neg (by simpa using h2),if_neg (by simpa using h2)]
 ·cases h
end Go.Proofs.YtmpklfnpjhdjeaaGreatDoor
