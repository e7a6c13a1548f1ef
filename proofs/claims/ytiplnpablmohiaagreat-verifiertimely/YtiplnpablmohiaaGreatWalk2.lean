/- What the functions of this seat compute. -/
import Derived.Test.YtiplnpablmohiaaGreatTab
import Derived.Test.YtiplnpablmohiaaGreatKerbPlain
import Derived.Test.YtiplnpablmohiaaGreatAbsStep
import Derived.Test.YtiplnpablmohiaaGreatKerbCli7
import Derived.Test.YtiplnpablmohiaaGreatKerbCli3
import Derived.Test.YtiplnpablmohiaaGreatKerbCli4
import Derived.Test.YtiplnpablmohiaaGreatKerbKac4
import Derived.Test.YtiplnpablmohiaaGreatKerbVerL
open Go.Abs.AV renaming int→Zz,str→Zw,bool→Zj,u8→Zp,bs→Zf,tup→Zg,ownB→Yj,agg→Yf,sl→Ym,onAgg→Wb,onBool→Vx,onInt→Vd
open List renaming length→Zy,append→Yq,length_map→Yg,map→Wg,all→Uk,getD→Uf
open Option renaming bind→Zx
open Kerb renaming putPrin_len→Zv,putN_len→Zu,keyBytes_len→Zq,putN→Zn,within→Zh,u8i→Yx,putText→Yv,openTicket→Yu,decodeTicket→Yb,get→Xx,prin→Xj,openReq→Xb,text→Wz,encodeAuth→Wy,decodeAuth→Wx,encodeTicket→Wu,encodeMutual→Wq,openAuth→Wj,spoil→Wd,openBox→Wf,readAp→Wn,putText_len→Wh,wrap_u8i→Vw,map_toMark→Vu,u8i_bd→Vf,header→Vg,validInst→Vb,readBox→Vn,putPrin→Vm,makeBox→Vh,keyRead→Uz,encodeAp→Uj,toMark→Up,map_toSKey→Ud,user→Ug,validName→Ub,pad→Un,marks_all→Um,toSKey→Qx,isMark→Qw,text_len→Qu,marks_of→Qq,marksErr→Qj
open Go.IntKind renaming i64→Zk,wrap→Zd,u16→Xm,u32→Uh
open Kerb.Prin renaming mk→Zb,valid→Yw,realm→Xk,name→Xf,inst→Xg
open Kerb.Dec renaming val→Zm,err→Qk
open Int renaming toNat→Yz,tmod→Yn,tmod_eq_emod_of_nonneg→Xz,tdiv→Uu,tdiv_eq_ediv_of_nonneg→Qz,toNat_natCast→Qp
open Bool renaming and_eq_true→Yy,not_true→Yd,and_self→Xy
open Prod renaming snd→Yk,fst→Yh
open UInt8 renaming toNat→Yp,ofNat→Vj
open Kerb.Ticket renaming client→Xw,mk→Ww,err→Uv
open Kerb.Mark renaming av→Xv,err→Uy
open Kerb.Enc renaming val→Xu,err→Xq
open Kerb.Auth renaming client→Xp,mk→Xd,check→Uq
open Kerb.Client renaming av→Xn
open Kerb.Cache renaming av→Xh
open Kerb.RCache renaming mk→Wv,err→Qy
open Kerb.Cred renaming av→Wk
open Kerb.ApRequest renaming mk→Wp
open Kerb.SKey renaming err→Wm,av→Qv
open Kerb.Got renaming next→Vz,val→Vk,err→Vp
open Sum renaming inr→Vy
open Kerb.GotAp renaming val→Vv
open Kerb.Case renaming mk→Vq
open Kerb.GotP renaming val→Ux
open Nat renaming le_trans→Uw
namespace Go.Proofs.YtiplnpablmohiaaGreat
open Go Go.Abs Go.Proofs
set_option linter.unusedVariables false
set_option linter.unusedSimpArgs false
set_option maxRecDepth 100000
theorem w55:Walked Tryz.prog G 55 5 sp55:=by
 refine ⟨Tryz.f55,Tryz.func55,by decide +kernel,rfl,fun xs bl r h=> ?_⟩
 unfold sp55 at h
 split at h
 ·rename_i ck tc tm li
  cases h
  refine Eq.trans (b:=(let t0:Option (AV×Blocks):=some (Zg [Zf [],Zz .i64 104],[]);let t1:Nat:=Zy ([]++Zn 0 1 false++Zn ck 4 li);let t2:Nat:=Zy ([]++Zn 1 1 false++Zn ck 4 li);sel (!Zh ck 4294967295) t0 (sel (!Zh tc 199) t0 (sel (!Zh tm 4294967295) t0 (sel li (Zx (chk (decide (t2≤70368744177664)) (some (Yj ([]++Zn 1 1 false++Zn ck 4 li++Zn tc 1 false),[]))) (kO fun l=>Zx (chk (decide (Zy l≤70368744177664)) (some (Yj (l++Zn tm 4 li),[]))) (kO fun l=>Zx (chk (decide (Zy l≤70368744177664)) (some (Zf (Un l),[]))) (kB fun b=>some (Zg [Zf b,Zz .i64 0],[]))))) (Zx (chk (decide (t1≤70368744177664)) (some (Yj ([]++Zn 0 1 false++Zn ck 4 li++Zn tc 1 false),[]))) (kO fun l=>Zx (chk (decide (Zy l≤70368744177664)) (some (Yj (l++Zn tm 4 li),[]))) (kO fun l=>Zx (chk (decide (Zy l≤70368744177664)) (some (Zf (Un l),[]))) (kB fun b=>some (Zg [Zf b,Zz .i64 0],[])))))))):Option (AV×Blocks))) (by kernel_rfl) ?_
  delta kB kO
  try dsimp only [cStr,cBs,cBool,cU8,cInt,cSl,l63]
  unfold Wq
  cases h1:Zh ck 4294967295
  ·rfl
  cases h2:Zh tc 199
  ·rfl
  cases h3:Zh tm 4294967295
  ·rfl
  rw [if_neg (by simp)]
  simp only [↓A0,Yd]
  cases li
  ·simp only [↓A0]
   rw [chk_of (by simp [Zu]),chk_of (by simp [Zu]),chk_of (by simp [Zu])]
   rfl
  ·simp only [↓A0]
   rw [chk_of (by simp [Zu]),chk_of (by simp [Zu]),chk_of (by simp [Zu])]
   rfl
 ·cases h
theorem w57:Walked Tryz.prog G 57 5 sp57:=by
 refine ⟨Tryz.f57,Tryz.func57,by decide +kernel,rfl,fun xs bl r h=> ?_⟩
 unfold sp57 at h
 split at h
 ·rename_i s li
  cases h
  refine Eq.trans (b:=(sel (decide ((↑(Zy s):Int)>1012)) (some (Zg [Zf [],Zz .i64 105],[])) (Zx (chk (decide (Zy (Vg 8 li)≤70368744177664)) (some (Yj (Vg 8 li++Zn (↑(Zy s):Int) 2 li),[]))) fun (r:AV×Blocks)=>onNilB (Yk r) (AV.onOwnB (Yh r) fun l=>Zx (chk (decide (Zy (Yq l (Yq s []))≤140737488355328)&&decide (Zy [Zf l,Zf s]≤1000)) (some (Yj (Yq l (Yq s [])),[]))) fun (r:AV×Blocks)=>onNilB (Yk r) (AV.onOwnB (Yh r) fun l=>some (Zg [Zf l,Zz .i64 0],[])))):Option (AV×Blocks))) (by kernel_rfl) ?_
  unfold Kerb.encodeAns
  by_cases h:1012<s.length
  ·rw [sel_pos (by simp;omega),if_pos h]
  rw [sel_neg (by simp;omega),if_neg h]
  have hl:(Vg 8 li).length=2:=by cases li<;>rfl
  simp only [↓A0]
  rw [chk_of (by simp [hl]),chk_of (by simp [Zu,hl];omega)]
  show some (Zg [Zf ((Vg 8 li++Zn (↑s.length:Int) 2 li)++(s++[])),Zz Zk 0],([]:Blocks))=_
  rw [List.append_nil]
 ·cases h
theorem w94:Walked Tryz.prog G 94 5 sp94:=by
 refine ⟨Tryz.f94,Tryz.func94,by decide +kernel,rfl,fun xs bl r h=> ?_⟩
 unfold sp94 at h
 split at h
 ·rename_i li x y z ad k lf iss sv ins
  obtain ⟨hpre,h2⟩:=chk_inv h;cases h2
  refine Eq.trans (b:=(let t0:Nat:=Zy ([]++Zn 0 1 false)+Zy x+Zy y+Zy z;let t1:Nat:=Zy ([]++Zn 1 1 false)+Zy x+Zy y+Zy z;let t2:Option (AV×Blocks):=chk (decide (0≤k)&&decide (k<18446744073709551616)) (some (Zf (Kerb.keyBytes k),[]));Zx (chk (l63 x&&l63 y&&l63 z&&l63 sv&&l63 ins&&decide (0≤k)&&decide (k<18446744073709551616)) (some (Zz .i64 (Uv (Ww li (Zb x y z) ad k lf iss sv ins)),[]))) (kI .i64 fun n=>sel (!n==0) (some (Zg [Zf [],Zz .i64 n],[])) (sel li (Zx (chk (decide (t1≤70368744170000)) (some (Zf (Vm ([]++Zn 1 1 false) (Zb x y z)),[]))) (kB fun b=>Zx (chk (decide (Zy b≤70368744177664)) (some (Yj (b++Zn ad 4 li),[]))) (kO fun l=>Zx t2 (kB fun b=>chk (room (Zy l+Zy b) 1) (Zx (chk (decide (Zy (l++b)≤70368744177664)) (some (Yj (l++b++Zn lf 1 false),[]))) (kO fun l=>Zx (chk (decide (Zy l≤70368744177664)) (some (Yj (l++Zn iss 4 li),[]))) (kO fun l=>Zx (chk (decide (Zy l+Zy sv≤70368744177664)) (some (Zf (Yv l sv),[]))) (kB fun b=>Zx (chk (decide (Zy b+Zy ins≤70368744177664)) (some (Zf (Yv b ins),[]))) (kB fun b=>Zx (chk (decide (Zy b≤70368744177664)) (some (Yj (Un b),[]))) (kO fun l=>some (Zg [Zf l,Zz .i64 0],[]))))))))))) (Zx (chk (decide (t0≤70368744170000)) (some (Zf (Vm ([]++Zn 0 1 false) (Zb x y z)),[]))) (kB fun b=>Zx (chk (decide (Zy b≤70368744177664)) (some (Yj (b++Zn ad 4 li),[]))) (kO fun l=>Zx t2 (kB fun b=>chk (room (Zy l+Zy b) 1) (Zx (chk (decide (Zy (l++b)≤70368744177664)) (some (Yj (l++b++Zn lf 1 false),[]))) (kO fun l=>Zx (chk (decide (Zy l≤70368744177664)) (some (Yj (l++Zn iss 4 li),[]))) (kO fun l=>Zx (chk (decide (Zy l+Zy sv≤70368744177664)) (some (Zf (Yv l sv),[]))) (kB fun b=>Zx (chk (decide (Zy b+Zy ins≤70368744177664)) (some (Zf (Yv b ins),[]))) (kB fun b=>Zx (chk (decide (Zy b≤70368744177664)) (some (Yj (Un b),[]))) (kO fun l=>some (Zg [Zf l,Zz .i64 0],[]))))))))))))):Option (AV×Blocks))) (by kernel_rfl) ?_
  delta kB kO kI
  try dsimp only [cStr,cBs,cBool,cU8,cInt,cSl,l63]
  simp only [Yy,decide_eq_true_eq] at hpre
  obtain ⟨⟨⟨⟨⟨⟨h1,h2⟩,h3⟩,h4⟩,h5⟩,h6⟩,h7⟩:=hpre
  simp only [h1,h2,h3,h4,h5,h6,h7,decide_true,Xy,↓A0,A0]
  have hb := @Kerb.encTicket_inv ⟨li,⟨x,y,z⟩,ad,k,lf,iss,sv,ins⟩
  unfold Wu at hb ⊢
  dsimp only at hb ⊢
  generalize hE:Uv _=e at hb ⊢
  by_cases he:e=0
  case neg=>rw [sel_pos (by simpa using he),if_pos he]
  rw [if_neg (by simpa using he)] at hb
  obtain ⟨v1,v2,v3,_⟩:=hb rfl
  have l1:=Kerb.valid_len v1
  have l2:=(Kerb.name_ok v2).1
  have l3:=(Kerb.inst_ok v3).1
  dsimp only at l1
  rw [sel_neg (by simpa using he),if_neg (by simpa using he)]
  cases li
  ·rw [sel_false,chk_of (by first | (simp [Zv,Zu,Zq];done) | (simp [Zv,Zu,Zq];omega)),chk_of (by first | (simp [Zv,Zu,Zq];done) | (simp [Zv,Zu,Zq];omega)),chk_of (Kerb.room_ok (by first | (simp [Zv,Zu,Zq];done) | (simp [Zv,Zu,Zq];omega))),chk_of (by first | (simp [Zv,Zu,Zq];done) | (simp [Zv,Zu,Zq];omega)),chk_of (by first | (simp [Zv,Zu,Zq];done) | (simp [Zv,Zu,Zq];omega)),chk_of (by first | (simp [Zv,Zu,Zq];done) | (simp [Zv,Zu,Zq];omega)),chk_of (by first | (simp [Yv,Zv,Zu,Zq];done) | (simp [Yv,Zv,Zu,Zq];omega)),chk_of (by first | (simp [Yv,Zv,Zu,Zq];done) | (simp [Yv,Zv,Zu,Zq];omega))]
   simp
  ·rw [sel_true,chk_of (by first | (simp [Zv,Zu,Zq];done) | (simp [Zv,Zu,Zq];omega)),chk_of (by first | (simp [Zv,Zu,Zq];done) | (simp [Zv,Zu,Zq];omega)),chk_of (Kerb.room_ok (by first | (simp [Zv,Zu,Zq];done) | (simp [Zv,Zu,Zq];omega))),chk_of (by first | (simp [Zv,Zu,Zq];done) | (simp [Zv,Zu,Zq];omega)),chk_of (by first | (simp [Zv,Zu,Zq];done) | (simp [Zv,Zu,Zq];omega)),chk_of (by first | (simp [Zv,Zu,Zq];done) | (simp [Zv,Zu,Zq];omega)),chk_of (by first | (simp [Yv,Zv,Zu,Zq];done) | (simp [Yv,Zv,Zu,Zq];omega)),chk_of (by first | (simp [Yv,Zv,Zu,Zq];done) | (simp [Yv,Zv,Zu,Zq];omega))]
   simp
 ·cases h
theorem w95:Walked Tryz.prog G 95 5 sp95:=by
 refine ⟨Tryz.f95,Tryz.func95,by decide +kernel,rfl,fun xs bl r h=> ?_⟩
 unfold sp95 at h
 split at h
 ·rename_i x y z ck tc tm li
  obtain ⟨hpre,h2⟩:=chk_inv h;cases h2
  refine Eq.trans (b:=(let t0:Nat:=Zy ([]++Zn (bif li then 1 else 0) 1 false)+Zy x+Zy y+Zy z;Zx (chk (l63 x&&l63 y&&l63 z) (some (Zz .i64 (Uq (Xd (Zb x y z) ck tc tm)),[]))) (kI .i64 fun n=>sel (!n==0) (some (Zg [Zf [],Zz .i64 n],[])) (Zx (chk (decide (t0≤70368744170000)) (some (Zf (Vm ([]++Zn (bif li then 1 else 0) 1 false) (Zb x y z)),[]))) (kB fun b=>Zx (chk (decide (Zy b≤70368744177664)) (some (Yj (b++Zn ck 4 li),[]))) (kO fun l=>Zx (chk (decide (Zy l≤70368744177664)) (some (Yj (l++Zn tc 1 false),[]))) (kO fun l=>Zx (chk (decide (Zy l≤70368744177664)) (some (Yj (l++Zn tm 4 li),[]))) (kO fun l=>Zx (chk (decide (Zy l≤70368744177664)) (some (Yj (Un l),[]))) (kO fun l=>some (Zg [Zf l,Zz .i64 0],[])))))))):Option (AV×Blocks))) (by kernel_rfl) ?_
  delta kB kO kI
  try dsimp only [cStr,cBs,cBool,cU8,cInt,cSl,l63]
  simp only [A0,Xn,Xh,Wk,hpre]
  unfold Wy
  by_cases h:(Xd ⟨x,y,z⟩ ck tc tm).check=0
  case neg =>
   rw [sel_pos (by simpa using h),if_pos h]
  have hv:Yw ⟨x,y,z⟩=true:=by
   unfold Uq at h
   cases hv:Yw ⟨x,y,z⟩
   ·simp [hv] at h
   ·rfl
  have l1:=Kerb.valid_len hv
  simp only at l1
  rw [sel_neg (by simp [h]),if_neg (by simpa using h)]
  cases li
  ·simp only [A0,Xn,Xh,Wk,List.nil_append,cond_false,cond_true]
   rw [chk_of (by simp [Zu];omega),chk_of (by simp [Zu,Zv];omega),chk_of (by simp [Zu,Zv];omega),chk_of (by simp [Zu,Zv];omega),chk_of (by simp [Zu,Zv];omega)]
  ·simp only [A0,Xn,Xh,Wk,List.nil_append,cond_false,cond_true]
   rw [chk_of (by simp [Zu];omega),chk_of (by simp [Zu,Zv];omega),chk_of (by simp [Zu,Zv];omega),chk_of (by simp [Zu,Zv];omega),chk_of (by simp [Zu,Zv];omega)]
 ·cases h
theorem w126:Walked Tryz.prog G 126 5 sp126:=by
 refine ⟨Tryz.f126,Tryz.func126,by decide +kernel,rfl,fun xs bl r h=> ?_⟩
 unfold sp126 at h
 split at h
 ·rename_i s
  obtain ⟨hpre,h2⟩:=chk_inv h;cases h2
  refine Eq.trans (b:=(sel (!s==[]) (sel (decide ((↑(Zy s):Int)≤39)) (Zx (chk (decide (Zy s≤9223372036854775807)) (some (Zj (Kerb.printable s [(46:UInt8),(64:UInt8)]),[]))) fun (r:AV×Blocks)=>onNilB (Yk r) (Vx (Yh r) fun b=>some (Zj b,[]))) (some (Zj false,[]))) (some (Zj false,[])):Option (AV×Blocks))) (by kernel_rfl) ?_
  simp only [A0]
  rw [chk_of hpre,decide_eq_decide.2 (show ((s.length:Int)≤39)↔s.length≤39 from by omega)]
  simp only [Ub]
  cases s with
  | nil=>rfl
  | cons x r=>cases decide ((x::r).length≤39)<;>rfl
 ·cases h
theorem w127:Walked Tryz.prog G 127 5 sp127:=by
 refine ⟨Tryz.f127,Tryz.func127,by decide +kernel,rfl,fun xs bl r h=> ?_⟩
 unfold sp127 at h
 split at h
 ·rename_i s
  obtain ⟨hpre,h2⟩:=chk_inv h;cases h2
  refine Eq.trans (b:=(sel (decide ((↑(Zy s):Int)≤39)) (Zx (chk (decide (Zy s≤9223372036854775807)) (some (Zj (Kerb.printable s [(64:UInt8)]),[]))) fun (r:AV×Blocks)=>onNilB (Yk r) (Vx (Yh r) fun b=>some (Zj b,[]))) (some (Zj false,[])):Option (AV×Blocks))) (by kernel_rfl) ?_
  simp only [A0]
  rw [chk_of hpre,decide_eq_decide.2 (show ((s.length:Int)≤39)↔s.length≤39 from by omega)]
  simp only [Vb]
  cases decide (s.length≤39)<;>rfl
 ·cases h
theorem w174:Walked Tryz.prog G 174 5 sp174:=by
 refine ⟨Tryz.f174,Tryz.func174,by decide +kernel,rfl,fun xs bl r h=> ?_⟩
 unfold sp174 at h
 split at h
 ·rename_i b
  obtain ⟨hpre,h2⟩:=chk_inv h;cases h2
  refine Eq.trans (b:=(let t1:Int:=Zd .i64 (↑(BitVec.toNat (BitVec.ofInt (IntKind.bits .i64) (Zd .i64 (Zd .i64 (↑(Yp (Uf b (Yz 10) (0:UInt8))):Int)*2 ^ min (Yz 8) (IntKind.bits .i64))) ||| BitVec.ofInt (IntKind.bits .i64) (Zd .i64 (↑(Yp (Uf b (Yz 11) (0:UInt8))):Int)))):Int);let t2:Option (AV×Blocks):=some (Zg [Yf [Zz .i64 0,Zz .u64 0,Zf []],Zz .i64 0,Zz .i64 100],[]);let t3:Option (AV×Blocks):=some (Zg [Yf [Zz .i64 0,Zz .u64 0,Zf []],Zz .i64 0,Zz .i64 101],[]);let t0:Int:=Zd .i64 (12+t1);sel (decide ((↑(Zy b):Int)<12)) t3 (chk (decide (1<(↑(Zy b):Int))) (chk (decide (10≤(↑(Zy b):Int))) (Zx (chk (decide (Zy (List.drop (Yz 2) (List.take (Yz 10) b))≤4611686018427387904)) (some (Zg [Zz .u64 (Yh (Uz (List.drop (Yz 2) (List.take (Yz 10) b)))),Zj (Yk (Uz (List.drop (Yz 2) (List.take (Yz 10) b))))],[]))) (kT fun vs=>cInt .u64 vs fun n r=>cBool r fun b_1 r=>onNil r (chk (decide (10<(↑(Zy b):Int))) (chk (decide (11<(↑(Zy b):Int))) (chk (decide (0<(↑(Zy b):Int))) (sel (!Uf b (Yz 0) (0:UInt8)==(66:UInt8)) t2 (sel (!Kerb.isKind (Zd .i64 (↑(Yp (Uf b (Yz 1) (0:UInt8))):Int))) t2 (sel (!b_1) t2 (sel (decide (t1>1000)) t2 (sel (decide ((↑(Zy b):Int)<t0)) t3 (chk (decide (12≤t0)&&decide (t0≤t0)&&decide (t0≤(↑(Zy b):Int))) (Zx (chk (decide (Zy (List.drop (Yz 12) (List.take (Yz t0) b))≤140737488355328)) (some (Zf (List.drop (Yz 12) (List.take (Yz t0) b)),[]))) (kB fun b_2=>some (Zg [Yf [Zz .i64 (Zd .i64 (↑(Yp (Uf b (Yz 1) (0:UInt8))):Int)),Zz .u64 n,Zf b_2],Zz .i64 t0,Zz .i64 0],[])))))))))))))))):Option (AV×Blocks))) (by kernel_rfl) ?_
  delta kT kB
  try dsimp only [cStr,cBs,cBool,cU8,cInt,cSl,l63]
  simp only [decide_eq_true_eq] at hpre
  unfold Vn
  by_cases h0:b.length<12
  ·rw [sel_pos (by simp;omega),if_pos h0];rfl
  rw [sel_neg (by simp;omega),if_neg h0]
  have hc:=Kerb.cut_len b 2 8
  have hs:(b.getD 10 0).toNat*256+(b.getD 11 0).toNat=Kerb.boxSize b:=rfl
  simp only [Kerb.cut_28,Kerb.size_or]
  simp only [show Yz 0=0 from rfl,show Yz 1=1 from rfl,show Yz 10=10 from rfl,show Yz 11=11 from rfl,Kerb.wrap_byte,hs]
  rw [chk_of (by simp;omega),chk_of (by simp;omega),chk_of (by simp;omega)]
  simp only [↓A0]
  rw [chk_of (by simp;omega),chk_of (by simp;omega),chk_of (by simp;omega)]
  by_cases h1:b.getD 0 0=66
  case neg=>rw [sel_pos (by simpa using h1),if_pos (.inl h1)];rfl
  rw [sel_neg (by simpa using h1)]
  cases h2:Kerb.isKind ((b.getD 1 0).toNat:Int)
  ·rw [if_pos (.inr (.inl rfl))];rfl
  rw [Yd,sel_false]
  cases h3:(Uz (Kerb.cut b 2 8)).2
  ·rw [if_pos (.inr (.inr (.inl rfl)))];rfl
  rw [Yd,sel_false]
  by_cases h4:1000<Kerb.boxSize b
  ·rw [sel_pos (by simp;omega),if_pos (.inr (.inr (.inr h4)))];rfl
  rw [sel_neg (by simp;omega),if_neg (by rintro (h | h | h | h)<;>first | exact h h1 | cases h | omega),wrap_i64 (by omega) (by omega)]
  by_cases h5:b.length<12+Kerb.boxSize b
  ·rw [sel_pos (by simp;omega),if_pos h5];rfl
  have hc2:=Kerb.cut_len b 12 (Kerb.boxSize b)
  rw [sel_neg (by simp;omega),if_neg h5,Kerb.cut_12,chk_of (by simp;omega)]
  simp only [↓A0]
  rw [chk_of (by simp;omega)]
  simp
 ·cases h
theorem w23:Walked Tryz.prog G 23 6 sp23:=by
 refine ⟨Tryz.f23,Tryz.func23,by decide +kernel,rfl,fun xs bl r h=> ?_⟩
 unfold sp23 at h
 split at h
 ·rename_i x y z k ad ck tm tc iss lf tk au li
  obtain ⟨hpre,h2⟩:=chk_inv h;cases h2
  refine Eq.trans (b:=(sel (!Xq (Wq (Kerb.Mutual.mk (Zd .i64 (Zd .u32 (Zd .i64 (ck+1)))) tc tm) li)==0) (some (Zg [Zf [],Zz .i64 (Xq (Wq (Kerb.Mutual.mk (Zd .i64 (Zd .u32 (Zd .i64 (ck+1)))) tc tm) li))],[])) (Zx (chk (decide (0≤k)&&decide (k<18446744073709551616)) (some (Zg [Zf (Xu (Vh 4 k (Xu (Wq (Kerb.Mutual.mk (Zd .i64 (Zd .u32 (Zd .i64 (ck+1)))) tc tm) li)))),Zz .i64 (Xq (Vh 4 k (Xu (Wq (Kerb.Mutual.mk (Zd .i64 (Zd .u32 (Zd .i64 (ck+1)))) tc tm) li))))],[]))) fun (r:AV×Blocks)=>onNilB (Yk r) (AV.onTup (Yh r) fun vs=>onCons vs fun x r=>AV.onBs x fun b=>onCons r fun x r=>Vd .i64 x fun n=>onNil r (sel (!n==0) (some (Zg [Zf [],Zz .i64 n],[])) (some (Zg [Zf (Xu (Kerb.encodeAns b li)),Zz .i64 (Xq (Kerb.encodeAns b li))],[]))))):Option (AV×Blocks))) (by kernel_rfl) ?_
  simp only [Yy,decide_eq_true_eq] at hpre
  have hs:Zd .i64 (Zd .u32 (Zd .i64 (ck+1)))=Kerb.nextSum ck:=Kerb.nextSum_in ck
  rw [hs]
  unfold Kerb.serviceAnswer
  simp only [hpre,decide_true,Xy,↓A0,A0]
  by_cases h1:(Wq ⟨Kerb.nextSum ck,tc,tm⟩ li).err=0
  case neg=>rw [sel_pos (by simpa using h1),if_pos h1]
  rw [sel_neg (by simpa using h1),if_neg (by simpa using h1)]
  by_cases h2:(Vh 4 k (Wq ⟨Kerb.nextSum ck,tc,tm⟩ li).val).err=0
  case neg=>rw [sel_pos (by simpa using h2),if_pos h2]
  rw [sel_neg (by simpa using h2),if_neg (by simpa using h2)]
 ·cases h
theorem w43:Walked Tryz.prog G 43 6 sp43:=by
 refine ⟨Tryz.f43,Tryz.func43,by decide +kernel,rfl,fun xs bl r h=> ?_⟩
 unfold sp43 at h
 split at h
 ·rename_i li x y z ad k lf iss sv ins key
  obtain ⟨hpre,h2⟩:=chk_inv h;cases h2
  refine Eq.trans (b:=(Zx (chk (decide (Zy x≤9223372036854775807)&&decide (Zy y≤9223372036854775807)&&decide (Zy z≤9223372036854775807)&&decide (Zy sv≤9223372036854775807)&&decide (Zy ins≤9223372036854775807)&&decide (0≤k)&&decide (k<18446744073709551616)) (some (Zg [Zf (Xu (Wu (Ww li (Zb x y z) ad k lf iss sv ins))),Zz .i64 (Xq (Wu (Ww li (Zb x y z) ad k lf iss sv ins)))],[]))) fun (r:AV×Blocks)=>onNilB (Yk r) (AV.onTup (Yh r) fun vs=>onCons vs fun x r=>AV.onBs x fun b=>onCons r fun x r=>Vd .i64 x fun n=>onNil r (sel (!n==0) (some (Zg [Zf [],Zz .i64 n],[])) (Zx (chk (decide (0≤key)&&decide (key<18446744073709551616)) (some (Zg [Zf (Xu (Vh 1 key b)),Zz .i64 (Xq (Vh 1 key b))],[]))) fun (r:AV×Blocks)=>onNilB (Yk r) (AV.onTup (Yh r) fun vs=>onCons vs fun x r=>AV.onBs x fun b=>onCons r fun x r=>Vd .i64 x fun n=>onNil r (some (Zg [Zf b,Zz .i64 n],[])))))):Option (AV×Blocks))) (by kernel_rfl) ?_
  simp only [Yy,decide_eq_true_eq] at hpre
  obtain ⟨⟨⟨⟨⟨⟨⟨⟨h1,h2⟩,h3⟩,h4⟩,h5⟩,h6⟩,h7⟩,h8⟩,h9⟩:=hpre
  simp only [h1,h2,h3,h4,h5,h6,h7,h8,h9,decide_true,Xy,↓A0,A0]
  unfold Kerb.sealTicket
  generalize Wu _=E
  by_cases he:E.err=0
  ·rw [sel_neg (by simpa using he),if_neg (by simpa using he)]
  ·rw [sel_pos (by simpa using he),if_pos he]
 ·cases h
theorem w44:Walked Tryz.prog G 44 6 sp44:=by
 refine ⟨Tryz.f44,Tryz.func44,by decide +kernel,rfl,fun xs bl r h=> ?_⟩
 unfold sp44 at h
 split at h
 ·rename_i x y z ck tc tm li k
  obtain ⟨hpre,h2⟩:=chk_inv h;cases h2
  refine Eq.trans (b:=(Zx (chk (decide (Zy x≤9223372036854775807)&&decide (Zy y≤9223372036854775807)&&decide (Zy z≤9223372036854775807)) (some (Zg [Zf (Xu (Wy (Xd (Zb x y z) ck tc tm) li)),Zz .i64 (Xq (Wy (Xd (Zb x y z) ck tc tm) li))],[]))) fun (r:AV×Blocks)=>onNilB (Yk r) (AV.onTup (Yh r) fun vs=>onCons vs fun x r=>AV.onBs x fun b=>onCons r fun x r=>Vd .i64 x fun n=>onNil r (sel (!n==0) (some (Zg [Zf [],Zz .i64 n],[])) (Zx (chk (decide (0≤k)&&decide (k<18446744073709551616)) (some (Zg [Zf (Xu (Vh 2 k b)),Zz .i64 (Xq (Vh 2 k b))],[]))) fun (r:AV×Blocks)=>onNilB (Yk r) (AV.onTup (Yh r) fun vs=>onCons vs fun x r=>AV.onBs x fun b=>onCons r fun x r=>Vd .i64 x fun n=>onNil r (some (Zg [Zf b,Zz .i64 n],[])))))):Option (AV×Blocks))) (by kernel_rfl) ?_
  have hpre':=hpre
  simp only [Yy,decide_eq_true_eq] at hpre
  have c1:(decide (x.length≤9223372036854775807)&&decide (y.length≤9223372036854775807)&&decide (z.length≤9223372036854775807))=true:=by simp;omega
  have c2:(decide (0≤k)&&decide (k<18446744073709551616))=true:=by simp;omega
  simp only [A0,Xn,Xh,Wk,c1,c2]
  unfold Kerb.sealAuth
  by_cases h:(Wy (Xd ⟨x,y,z⟩ ck tc tm) li).err=0
  ·rw [sel_neg (by simp [h]),if_neg (by simpa using h)]
  ·rw [sel_pos (by simpa using h),if_pos h]
 ·cases h
theorem w128:Walked Tryz.prog G 128 6 sp128:=by
 refine ⟨Tryz.f128,Tryz.func128,by decide +kernel,rfl,fun xs bl r h=> ?_⟩
 unfold sp128 at h
 split at h
 ·rename_i s
  obtain ⟨hpre,h2⟩:=chk_inv h;cases h2
  refine Eq.trans (b:=(sel (!s==[]) (Zx (chk (decide (Zy s≤9223372036854775807)) (some (Zj (Vb s),[]))) fun (r:AV×Blocks)=>onNilB (Yk r) (Vx (Yh r) fun b=>some (Zj b,[]))) (some (Zj false,[])):Option (AV×Blocks))) (by kernel_rfl) ?_
  simp only [A0]
  rw [chk_of hpre]
  simp only [Kerb.validRealm]
  cases s<;>rfl
 ·cases h
theorem w153:Walked Tryz.prog G 153 6 sp153:=by
 refine ⟨Tryz.f153,Tryz.func153,by decide +kernel,rfl,fun xs bl r h=> ?_⟩
 unfold sp153 at h
 split at h
 ·rename_i b kd k
  obtain ⟨hpre,h2⟩:=chk_inv h;cases h2
  refine Eq.trans (b:=(Zx (chk (decide (Zy b≤140737488355328)) (some (Zg [Yf [Zz .i64 (Kerb.Box.kind (Kerb.GotBox.box (Vn b))),Zz .u64 (Kerb.Box.key (Kerb.GotBox.box (Vn b))),Zf (Kerb.Box.body (Kerb.GotBox.box (Vn b)))],Zz .i64 (Kerb.GotBox.n (Vn b)),Zz .i64 (Kerb.GotBox.err (Vn b))],[]))) fun (r:AV×Blocks)=>onNilB (Yk r) (AV.onTup (Yh r) fun vs=>onCons vs fun x r=>Wb x fun cs=>onCons cs fun x r_1=>Vd .i64 x fun n=>onCons r_1 fun x r_2=>Vd .u64 x fun n_1=>onCons r_2 fun x r_3=>AV.onBs x fun b_1=>onNil r_3 (onCons r fun x r=>Vd .i64 x fun n_2=>onCons r fun x r=>Vd .i64 x fun n_3=>onNil r (sel (!n_3==0) (some (Zg [Zf [],Zj false],[])) (sel (!n_2==(↑(Zy b):Int)) (some (Zg [Zf [],Zj false],[])) (sel (!n==kd) (some (Zg [Zf [],Zj false],[])) (sel (!n_1==k) (some (Zg [Zf [],Zj false],[])) (some (Zg [Zf b_1,Zj true],[])))))))):Option (AV×Blocks))) (by kernel_rfl) ?_
  simp only [↓A0,hpre]
  unfold Wf
  generalize Vn b=r
  by_cases h1:r.err=0
  case neg=>rw [sel_pos (by simpa using h1),if_pos (.inl h1)]
  rw [sel_neg (by simpa using h1)]
  by_cases h2:r.n=b.length
  case neg=>rw [sel_pos (by simpa using h2),if_pos (.inr (.inl h2))]
  rw [sel_neg (by simpa using h2)]
  by_cases h3:r.box.kind=kd
  case neg=>rw [sel_pos (by simpa using h3),if_pos (.inr (.inr (.inl h3)))]
  rw [sel_neg (by simpa using h3)]
  by_cases h4:r.box.key=k
  case neg=>rw [sel_pos (by simpa using h4),if_pos (.inr (.inr (.inr h4)))]
  rw [sel_neg (by simpa using h4),if_neg (by simp [h1,h2,h3,h4])]
 ·cases h
set_option maxHeartbeats 4000000 in
theorem w19:Walked Tryz.prog G 19 7 sp19:=by
 refine ⟨Tryz.f19,Tryz.func19,by decide +kernel,rfl,fun xs bl r h=> ?_⟩
 unfold sp19 at h
 split at h
 ·rename_i cu co cv cr lt tn mt cad cfr cis ctm ctk clf ccs cky ckv css ctt cau x y z k v
  obtain ⟨hpre,h2⟩:=chk_inv h;cases h2
  refine Eq.trans (b:=(let t0:Int:=Yn (Zd .i64 (↑(Yp cu):Int)) 6;let t1:Int:=Yn (Zd .i64 (↑(Yp css):Int)) 4;let t2:AV:=Zz .i64 (Zd .i64 (1000+Zd .i64 (Zd .i64 (↑(Yp cis):Int)*8)));Zx (chk (decide (0≤t0)&&decide (t0≤4611686018427387904)) (some (Yf [Zw (Xf (Ug t0)),Zw (Xg (Ug t0)),Zw (Xk (Ug t0))],[]))) (kA fun cs=>onCons cs fun x_1 r=>AV.onStr x_1 fun b=>onCons r fun x_2 r=>AV.onStr x_2 fun b_1=>onCons r fun x_3 r=>AV.onStr x_3 fun b_2=>onNil r (Zx (chk (decide (0≤t1)&&decide (t1≤1000)) (some (Zz .u64 (Kerb.session t1),[]))) (kI .u64 fun n=>Zx (sel (Vj (Yz (Yn (↑(Yp cv):Int) (↑(Yp (7:UInt8)):Int)))==(6:UInt8)) (some [Zz .u64 k,Zz .i64 v,Zp cu,Zp co,Zp cv,Zp cr,Zj lt,Zj tn,Zj mt,Zp cad,Zp cfr,Zp cis,Zp ctm,Zp ctk,Zp clf,Zz .u32 ccs,Zp cky,Zp ckv,Zp css,Zz .u16 ctt,Zz .u16 cau,Zw x,Zw y,Zw z,Zj false,Zj false,Zz .i64 0,Zw [],Zf [],Zf [],Zj tn,Zw b,Zw b_1,Zw b_2,Zz .i64 (Yn (Zd .i64 (↑(Yp cad):Int)) 3),Zz .u64 n,Zz .i64 (Zd .i64 (Uu (Zd .i64 (↑(Yp clf):Int)) 4)),t2,Zw x,Zw [(111:UInt8),(116:UInt8),(104:UInt8),(101:UInt8),(114:UInt8)]]) (some [Zz .u64 k,Zz .i64 v,Zp cu,Zp co,Zp cv,Zp cr,Zj lt,Zj tn,Zj mt,Zp cad,Zp cfr,Zp cis,Zp ctm,Zp ctk,Zp clf,Zz .u32 ccs,Zp cky,Zp ckv,Zp css,Zz .u16 ctt,Zz .u16 cau,Zw x,Zw y,Zw z,Zj false,Zj false,Zz .i64 0,Zw [],Zf [],Zf [],Zj tn,Zw b,Zw b_1,Zw b_2,Zz .i64 (Yn (Zd .i64 (↑(Yp cad):Int)) 3),Zz .u64 n,Zz .i64 (Zd .i64 (Uu (Zd .i64 (↑(Yp clf):Int)) 4)),t2,Zw x,Zw y])) fun l=>cInt .u64 l fun n r=>cInt .i64 r fun n_1 r=>cU8 r fun b r=>cU8 r fun b_3 r=>let t3:Int:=Yn (Zd .i64 (↑(Yp b_3):Int)) 6;cU8 r fun b_4 r=>cU8 r fun b_5 r=>cBool r fun b_6 r=>cBool r fun b_7 r=>cBool r fun b_8 r=>cU8 r fun b_9 r=>cU8 r fun b_10 r=>cU8 r fun b_11 r=>cU8 r fun b_12 r=>let t4:List AV:=[Zz .i64 (Zd .i64 (1000+Zd .i64 (Zd .i64 (↑(Yp b_12):Int)*8)))];cU8 r fun b_13 r=>cU8 r fun b_14 r=>cInt .u32 r fun n_2 r=>let t5:List AV:=Zz .i64 (Zd .i64 n_2)::Zz .i64 (Yn (Zd .i64 (↑(Yp b_13):Int)) 3)::t4;cU8 r fun b_15 r=>cU8 r fun b_16 r=>cU8 r fun b_17 r=>cInt .u16 r fun n_3 r=>cInt .u16 r fun n_4 r=>cStr r fun b_18 r=>cStr r fun b_19 r=>cStr r fun b_20 r=>cBool r fun b_21 r=>cBool r fun b_22 r=>cInt .i64 r fun n_5 r=>cStr r fun b_23 r=>cBs r fun b_24 r=>cBs r fun b_25 r=>cBool r fun b_26 r=>cStr r fun b_27 r=>cStr r fun b_28 r=>cStr r fun b_29 r=>cInt .i64 r fun n_6 r=>cInt .u64 r fun n_7 r=>cInt .i64 r fun n_8 r=>cInt .i64 r fun n_9 r=>cStr r fun b_30 r=>cStr r fun b_31 r=>onNil r (Zx (sel (Vj (Yz (Yn (↑(Yp b_3):Int) (↑(Yp (8:UInt8)):Int)))==(7:UInt8)) (Zx (chk (decide (0≤t3)&&decide (t3≤4611686018427387904)) (some (Yf [Zw (Xf (Ug t3)),Zw (Xg (Ug t3)),Zw (Xk (Ug t3))],[]))) (kA fun cs=>cStr cs fun b_32 r=>cStr r fun b_33 r=>cStr r fun b_34 r=>onNil r (some (Zz .u64 n::Zz .i64 n_1::Zp b::Zp b_3::Zp b_4::Zp b_5::Zj b_6::Zj b_7::Zj b_8::Zp b_9::Zp b_10::Zp b_11::Zp b_12::Zp b_13::Zp b_14::Zz .u32 n_2::Zp b_15::Zp b_16::Zp b_17::Zz .u16 n_3::Zz .u16 n_4::Zw b_18::Zw b_19::Zw b_20::Zj b_21::Zj b_22::Zz .i64 n_5::Zw b_23::Zf b_24::Zf b_25::Zj b_26::Zw b_27::Zw b_28::Zw b_29::Zz .i64 n_6::Zz .u64 n_7::Zz .i64 n_8::Zz .i64 n_9::Zw b_30::Zw b_31::Zw b_32::Zw b_33::Zw b_34::t5)))) (some (Zz .u64 n::Zz .i64 n_1::Zp b::Zp b_3::Zp b_4::Zp b_5::Zj b_6::Zj b_7::Zj b_8::Zp b_9::Zp b_10::Zp b_11::Zp b_12::Zp b_13::Zp b_14::Zz .u32 n_2::Zp b_15::Zp b_16::Zp b_17::Zz .u16 n_3::Zz .u16 n_4::Zw b_18::Zw b_19::Zw b_20::Zj b_21::Zj b_22::Zz .i64 n_5::Zw b_23::Zf b_24::Zf b_25::Zj b_26::Zw b_27::Zw b_28::Zw b_29::Zz .i64 n_6::Zz .u64 n_7::Zz .i64 n_8::Zz .i64 n_9::Zw b_30::Zw b_31::Zw b_27::Zw b_28::Zw b_29::t5))) fun l=>cInt .u64 l fun n r=>cInt .i64 r fun n_10 r=>cU8 r fun b r=>cU8 r fun b_32 r=>cU8 r fun b_33 r=>cU8 r fun b_34 r=>cBool r fun b_35 r=>cBool r fun b_36 r=>cBool r fun b_37 r=>cU8 r fun b_38 r=>cU8 r fun b_39 r=>cU8 r fun b_40 r=>cU8 r fun b_41 r=>cU8 r fun b_42 r=>cU8 r fun b_43 r=>cInt .u32 r fun n_11 r=>cU8 r fun b_44 r=>cU8 r fun b_45 r=>cU8 r fun b_46 r=>cInt .u16 r fun n_12 r=>cInt .u16 r fun n_13 r=>cStr r fun b_47 r=>cStr r fun b_48 r=>cStr r fun b_49 r=>cBool r fun b_50 r=>cBool r fun b_51 r=>cInt .i64 r fun n_14 r=>cStr r fun b_52 r=>cBs r fun b_53 r=>cBs r fun b_54 r=>cBool r fun b_55 r=>cStr r fun b_56 r=>cStr r fun b_57 r=>cStr r fun b_58 r=>cInt .i64 r fun n_15 r=>cInt .u64 r fun n_16 r=>cInt .i64 r fun n_17 r=>cInt .i64 r fun n_18 r=>cStr r fun b_59 r=>cStr r fun b_60 r=>cStr r fun b_61 r=>cStr r fun b_62 r=>cStr r fun b_63 r=>cInt .i64 r fun n_19 r=>cInt .i64 r fun n_20 r=>cInt .i64 r fun n_21 r=>onNil r (Zx (chk (l63 b_56&&l63 b_57&&l63 b_58&&l63 b_59&&l63 b_60&&decide (0≤n_16)&&decide (n_16<18446744073709551616)&&decide (0≤n)&&decide (n<18446744073709551616)) (some (Zg [Zf (Xu (Kerb.sealTicket (Ww b_55 (Zb b_56 b_57 b_58) n_15 n_16 n_17 n_18 b_59 b_60) n)),Zz .i64 (Xq (Kerb.sealTicket (Ww b_55 (Zb b_56 b_57 b_58) n_15 n_16 n_17 n_18 b_59 b_60) n))],[]))) (kT fun vs=>cBs vs fun b_64 r=>cInt .i64 r fun n r=>onNil r (Zx (chk (l63 b_61&&l63 b_62&&l63 b_63&&decide (0≤n_16)&&decide (n_16<18446744073709551616)) (some (Zg [Zf (Xu (Kerb.sealAuth (Xd (Zb b_61 b_62 b_63) n_19 n_20 n_21) b_35 n_16)),Zz .i64 (Xq (Kerb.sealAuth (Xd (Zb b_61 b_62 b_63) n_19 n_20 n_21) b_35 n_16))],[]))) (kT fun vs=>cBs vs fun b_65 r=>cInt .i64 r fun n r=>onNil r (Zx (sel (Yn n_12 16==15) (Zx (chk (decide (Zy b_64≤1000000)&&decide (0≤Zd .u16 (Uu n_12 16))&&decide (Zd .u16 (Uu n_12 16)≤65535)) (some (Zf (Wd b_64 (Zd .u16 (Uu n_12 16))),[]))) (kB fun b_66=>some [Zp b,Zp b_32,Zp b_33,Zp b_34,Zj b_35,Zj b_36,Zj b_37,Zp b_38,Zp b_39,Zp b_40,Zp b_41,Zp b_42,Zp b_43,Zz .u32 n_11,Zp b_44,Zp b_45,Zp b_46,Zz .u16 n_12,Zz .u16 n_13,Zj b_50,Zj b_51,Zz .i64 n_14,Zw b_52,Zf b_53,Zf b_54,Zf b_65,Zj b_35,Zj b_37,Zz .i64 n_10,Zw b_49,Zf b_66,Zf b_65])) (some [Zp b,Zp b_32,Zp b_33,Zp b_34,Zj b_35,Zj b_36,Zj b_37,Zp b_38,Zp b_39,Zp b_40,Zp b_41,Zp b_42,Zp b_43,Zz .u32 n_11,Zp b_44,Zp b_45,Zp b_46,Zz .u16 n_12,Zz .u16 n_13,Zj b_50,Zj b_51,Zz .i64 n_14,Zw b_52,Zf b_53,Zf b_54,Zf b_65,Zj b_35,Zj b_37,Zz .i64 n_10,Zw b_49,Zf b_64,Zf b_65])) fun l=>cU8 l fun b r=>cU8 r fun b_66 r=>cU8 r fun b_67 r=>cU8 r fun b_68 r=>cBool r fun b_69 r=>cBool r fun b_70 r=>cBool r fun b_71 r=>cU8 r fun b_72 r=>cU8 r fun b_73 r=>cU8 r fun b_74 r=>cU8 r fun b_75 r=>cU8 r fun b_76 r=>cU8 r fun b_77 r=>cInt .u32 r fun n r=>cU8 r fun b_78 r=>cU8 r fun b_79 r=>cU8 r fun b_80 r=>cInt .u16 r fun n_22 r=>cInt .u16 r fun n_23 r=>cBool r fun b_81 r=>cBool r fun b_82 r=>cInt .i64 r fun n_24 r=>cStr r fun b_83 r=>cBs r fun b_84 r=>cBs r fun b_85 r=>cBs r fun b_86 r=>cBool r fun b_87 r=>cBool r fun b_88 r=>cInt .i64 r fun n_25 r=>cStr r fun b_89 r=>cBs r fun b_90 r=>cBs r fun b_91 r=>onNil r (Zx (sel (Yn n_23 16==15) (Zx (chk (decide (Zy b_86≤1000000)&&decide (0≤Zd .u16 (Uu n_23 16))&&decide (Zd .u16 (Uu n_23 16)≤65535)) (some (Zf (Wd b_86 (Zd .u16 (Uu n_23 16))),[]))) (kB fun b_92=>some [Zp b,Zp b_66,Zp b_67,Zp b_68,Zj b_69,Zj b_70,Zj b_71,Zp b_72,Zp b_73,Zp b_74,Zp b_75,Zp b_76,Zp b_77,Zz .u32 n,Zp b_78,Zp b_79,Zp b_80,Zz .u16 n_22,Zz .u16 n_23,Zj b_81,Zj b_82,Zz .i64 n_24,Zw b_83,Zf b_84,Zf b_85,Zj b_87,Zj b_88,Zz .i64 n_25,Zw b_89,Zf b_90,Zf b_92])) (some [Zp b,Zp b_66,Zp b_67,Zp b_68,Zj b_69,Zj b_70,Zj b_71,Zp b_72,Zp b_73,Zp b_74,Zp b_75,Zp b_76,Zp b_77,Zz .u32 n,Zp b_78,Zp b_79,Zp b_80,Zz .u16 n_22,Zz .u16 n_23,Zj b_81,Zj b_82,Zz .i64 n_24,Zw b_83,Zf b_84,Zf b_85,Zj b_87,Zj b_88,Zz .i64 n_25,Zw b_89,Zf b_90,Zf b_91])) fun l=>cU8 l fun b r=>cU8 r fun b_92 r=>cU8 r fun b_93 r=>cU8 r fun b_94 r=>cBool r fun b_95 r=>cBool r fun b_96 r=>cBool r fun b_97 r=>cU8 r fun b_98 r=>cU8 r fun b_99 r=>cU8 r fun b_100 r=>cU8 r fun b_101 r=>cU8 r fun b_102 r=>cU8 r fun b_103 r=>cInt .u32 r fun n r=>cU8 r fun b_104 r=>cU8 r fun b_105 r=>cU8 r fun b_106 r=>cInt .u16 r fun n_26 r=>cInt .u16 r fun n_27 r=>cBool r fun b_107 r=>cBool r fun b_108 r=>cInt .i64 r fun n_28 r=>cStr r fun b_109 r=>cBs r fun b_110 r=>cBs r fun b_111 r=>cBool r fun b_112 r=>cBool r fun b_113 r=>cInt .i64 r fun n_29 r=>cStr r fun b_114 r=>cBs r fun b_115 r=>cBs r fun b_116 r=>let t6:List AV:=[Zj b_113,Zz .i64 n_29,Zw b_114,Zf b_115,Zf b_116];onNil r (Zx (sel (Yn n_27 16==14) (some (Zp b::Zp b_92::Zp b_93::Zp b_94::Zj b_95::Zj b_96::Zj b_97::Zp b_98::Zp b_99::Zp b_100::Zp b_101::Zp b_102::Zp b_103::Zz .u32 n::Zp b_104::Zp b_105::Zp b_106::Zz .u16 n_26::Zz .u16 n_27::Zj b_107::Zj b_108::Zz .i64 n_28::Zw b_109::Zf b_110::Zf b_111::(Zj !b_112)::t6)) (some (Zp b::Zp b_92::Zp b_93::Zp b_94::Zj b_95::Zj b_96::Zj b_97::Zp b_98::Zp b_99::Zp b_100::Zp b_101::Zp b_102::Zp b_103::Zz .u32 n::Zp b_104::Zp b_105::Zp b_106::Zz .u16 n_26::Zz .u16 n_27::Zj b_107::Zj b_108::Zz .i64 n_28::Zw b_109::Zf b_110::Zf b_111::Zj b_112::t6))) fun l=>cU8 l fun b r=>cU8 r fun b_117 r=>cU8 r fun b_118 r=>cU8 r fun b_119 r=>cBool r fun b_120 r=>cBool r fun b_121 r=>cBool r fun b_122 r=>cU8 r fun b_123 r=>cU8 r fun b_124 r=>cU8 r fun b_125 r=>cU8 r fun b_126 r=>cU8 r fun b_127 r=>cU8 r fun b_128 r=>cInt .u32 r fun n r=>cU8 r fun b_129 r=>cU8 r fun b_130 r=>cU8 r fun b_131 r=>cInt .u16 r fun n_30 r=>cInt .u16 r fun n_31 r=>cBool r fun b_132 r=>cBool r fun b_133 r=>cInt .i64 r fun n_32 r=>cStr r fun b_134 r=>cBs r fun b_135 r=>cBs r fun b_136 r=>cBool r fun b_137 r=>cBool r fun b_138 r=>cInt .i64 r fun n_33 r=>cStr r fun b_139 r=>cBs r fun b_140 r=>cBs r fun b_141 r=>onNil r (Zx (sel (Vj (Yz (Yn (↑(Yp b_130):Int) (↑(Yp (16:UInt8)):Int)))==(15:UInt8)) (some [Zp b,Zp b_117,Zp b_118,Zp b_119,Zj b_120,Zj b_121,Zj b_122,Zp b_123,Zp b_124,Zp b_125,Zp b_126,Zp b_127,Zp b_128,Zz .u32 n,Zp b_129,Zp b_130,Zp b_131,Zz .u16 n_30,Zz .u16 n_31,Zj b_132,Zj b_133,Zz .i64 n_32,Zw b_134,Zf b_135,Zf b_136,Zj b_137,Zj b_138,Zz .i64 (Zd .i64 (n_33+1)),Zw b_139,Zf b_140,Zf b_141]) (some [Zp b,Zp b_117,Zp b_118,Zp b_119,Zj b_120,Zj b_121,Zj b_122,Zp b_123,Zp b_124,Zp b_125,Zp b_126,Zp b_127,Zp b_128,Zz .u32 n,Zp b_129,Zp b_130,Zp b_131,Zz .u16 n_30,Zz .u16 n_31,Zj b_132,Zj b_133,Zz .i64 n_32,Zw b_134,Zf b_135,Zf b_136,Zj b_137,Zj b_138,Zz .i64 n_33,Zw b_139,Zf b_140,Zf b_141])) fun l=>cU8 l fun b r=>cU8 r fun b r=>cU8 r fun b r=>cU8 r fun b r=>cBool r fun b_142 r=>cBool r fun b_143 r=>cBool r fun b_144 r=>cU8 r fun b_145 r=>cU8 r fun b_146 r=>cU8 r fun b_147 r=>cU8 r fun b_148 r=>cU8 r fun b_149 r=>cU8 r fun b_150 r=>cInt .u32 r fun n r=>cU8 r fun b_151 r=>cU8 r fun b_152 r=>cU8 r fun b_153 r=>cInt .u16 r fun n r=>cInt .u16 r fun n r=>cBool r fun b_154 r=>cBool r fun b_155 r=>cInt .i64 r fun n r=>cStr r fun b_156 r=>cBs r fun b_157 r=>cBs r fun b_158 r=>cBool r fun b_159 r=>cBool r fun b_160 r=>cInt .i64 r fun n_34 r=>cStr r fun b_161 r=>cBs r fun b_162 r=>cBs r fun b_163 r=>onNil r (Zx (sel (Vj (Yz (Yn (↑(Yp b):Int) (↑(Yp (16:UInt8)):Int)))==(15:UInt8)) (some [Zj b_154,Zj b_155,Zz .i64 n,Zw b_156,Zf b_157,Zf b_158,Zj b_159,Zj b_160,Zz .i64 n_34,Zw [(67:UInt8),(65:UInt8),(77:UInt8)],Zf b_162,Zf b_163]) (some [Zj b_154,Zj b_155,Zz .i64 n,Zw b_156,Zf b_157,Zf b_158,Zj b_159,Zj b_160,Zz .i64 n_34,Zw b_161,Zf b_162,Zf b_163])) fun l=>cBool l fun b r=>cBool r fun b r=>cInt .i64 r fun n r=>cStr r fun b r=>cBs r fun b r=>cBs r fun b r=>cBool r fun b r=>cBool r fun b_164 r=>cInt .i64 r fun n r=>cStr r fun b_165 r=>cBs r fun b_166 r=>cBs r fun b_167 r=>onNil r (some (Yf [Zj b,Zj b_164,Zz .i64 n,Zw b_165,Zf b_166,Zf b_167],[]))))))))))))))):Option (AV×Blocks))) (by kernel_rfl) ?_
  delta kT kA kB kI
  try dsimp only [cStr,cBs,cBool,cU8,cInt,cSl,l63]
  simp only [Yy,decide_eq_true_eq] at hpre
  obtain ⟨⟨⟨⟨⟨⟨⟨⟨⟨⟨⟨l1,l2⟩,l3⟩,hk⟩,v0⟩,v1⟩,c0⟩,c1⟩,t0⟩,t1⟩,a0⟩,a1⟩:=hpre
  have hk:=Kerb.isU64_iff.1 hk
  have bcu:=Vf cu
  have bco:=Vf co
  have bcs:=Vf css
  have bca:=Vf cad
  have bci:=Vf cis
  have bct:=Vf ctm
  have bck:=Vf ctk
  have bcl:=Vf clf
  have f1:Yn (Yx cu) 6=Yx cu % 6:=Xz bcu.1
  have f2:Yn (Yx co) 6=Yx co % 6:=Xz bco.1
  have f3:Yn (Yx css) 4=Yx css % 4:=Xz bcs.1
  have f4:Yn (Yx cad) 3=Yx cad % 3:=Xz bca.1
  have f5:Zd .i64 (1000+Zd .i64 (Yx cis*8))=1000+Yx cis*8:=by rw [wrap_i64 (n:=Yx cis*8) (by omega) (by omega)];exact wrap_i64 (by omega) (by omega)
  have f6:Zd .i64 (1000+Zd .i64 (Yx ctm*8))=1000+Yx ctm*8:=by rw [wrap_i64 (n:=Yx ctm*8) (by omega) (by omega)];exact wrap_i64 (by omega) (by omega)
  have f7:Yn (Yx ctk) 3=Yx ctk % 3:=Xz bck.1
  have f8:Zd .i64 (Uu (Yx clf) 4)=Yx clf / 4:=by rw [Qz bcl.1];exact wrap_i64 (by omega) (by omega)
  have f9:Zd .i64 ccs=ccs:=wrap_i64 (by omega) (by omega)
  have fa:Zd .i64 (v+1)=v+1:=wrap_i64 (by omega) (by omega)
  have fb:Yn ctt 16=ctt % 16:=Xz (by omega)
  have fc:Yn cau 16=cau % 16:=Xz (by omega)
  have fd:Zd .u16 (Uu ctt 16)=ctt / 16:=by rw [Qz (by omega)];rw [Kerb.wrap_u16];omega
  have fe:Zd .u16 (Uu cau 16)=cau / 16:=by rw [Qz (by omega)];rw [Kerb.wrap_u16];omega
  have g1:(decide ((0:Int)≤Yx cu % 6)&&decide (Yx cu % 6≤4611686018427387904))=true:=by simp;omega
  have g2:(decide ((0:Int)≤Yx co % 6)&&decide (Yx co % 6≤4611686018427387904))=true:=by simp;omega
  have g3:(decide ((0:Int)≤Yx css % 4)&&decide (Yx css % 4≤1000))=true:=by simp;omega
  have g4:(decide ((0:Int)≤ctt / 16)&&decide (ctt / 16≤65535))=true:=by simp;omega
  have g5:(decide ((0:Int)≤cau / 16)&&decide (cau / 16≤65535))=true:=by simp;omega
  have u1:(Vj (Yz (Yn (cv.toNat:Int) ((7:UInt8).toNat:Int)))==(6:UInt8))=decide (cv.toNat % 7=6):=by
   have h7:Yz (Yn (cv.toNat:Int) ((7:UInt8).toNat:Int))=cv.toNat % 7:=Kerb.tmod_u8 cv 7 (by omega)
   rw [h7];exact Kerb.u8_beq (k:=6) (by omega) (by decide)
  have u2:(Vj (Yz (Yn (co.toNat:Int) ((8:UInt8).toNat:Int)))==(7:UInt8))=decide (co.toNat % 8=7):=by
   have h7:Yz (Yn (co.toNat:Int) ((8:UInt8).toNat:Int))=co.toNat % 8:=Kerb.tmod_u8 co 8 (by omega)
   rw [h7];exact Kerb.u8_beq (k:=7) (by omega) (by decide)
  have u3:(Vj (Yz (Yn (ckv.toNat:Int) ((16:UInt8).toNat:Int)))==(15:UInt8))=decide (ckv.toNat % 16=15):=by
   have h7:Yz (Yn (ckv.toNat:Int) ((16:UInt8).toNat:Int))=ckv.toNat % 16:=Kerb.tmod_u8 ckv 16 (by omega)
   rw [h7];exact Kerb.u8_beq (k:=15) (by omega) (by decide)
  have u4:(Vj (Yz (Yn (cr.toNat:Int) ((16:UInt8).toNat:Int)))==(15:UInt8))=decide (cr.toNat % 16=15):=by
   have h7:Yz (Yn (cr.toNat:Int) ((16:UInt8).toNat:Int))=cr.toNat % 16:=Kerb.tmod_u8 cr 16 (by omega)
   rw [h7];exact Kerb.u8_beq (k:=15) (by omega) (by decide)
  obtain ⟨W,hW⟩:∃ x,Ug (Yx cu % 6)=x:=⟨_,rfl⟩
  obtain ⟨E,hE⟩:∃ x,Kerb.session (Yx css % 4)=x:=⟨_,rfl⟩
  obtain ⟨IN,hIN⟩:∃ q,(if cv.toNat % 7=6 then ([111,116,104,101,114]:List UInt8) else y)=q:=⟨_,rfl⟩
  obtain ⟨V,hV⟩:∃ q,(if co.toNat % 8=7 then Ug (Yx co % 6) else W)=q:=⟨_,rfl⟩
  have hT:Kerb.Case.x (Vq cu co cv cr lt tn mt cad cfr cis ctm ctk clf ccs cky ckv css ctt cau) ⟨x,y,z⟩ k=(Kerb.sealTicket ⟨tn,W,Yx cad % 3,E,Yx clf / 4,1000+Yx cis*8,x,IN⟩ k).val:=by rw [← hW,← hE,← hIN];rfl
  have hA:Kerb.Case.y (Vq cu co cv cr lt tn mt cad cfr cis ctm ctk clf ccs cky ckv css ctt cau)=(Kerb.sealAuth ⟨V,ccs,Yx ctk % 3,1000+Yx ctm*8⟩ lt E).val:=by rw [← hV,← hW,← hE];rfl
  obtain ⟨X,hX⟩:∃ q,Kerb.Case.x (Vq cu co cv cr lt tn mt cad cfr cis ctm ctk clf ccs cky ckv css ctt cau) ⟨x,y,z⟩ k=q:=⟨_,rfl⟩
  obtain ⟨Y,hY⟩:∃ q,Kerb.Case.y (Vq cu co cv cr lt tn mt cad cfr cis ctm ctk clf ccs cky ckv css ctt cau)=q:=⟨_,rfl⟩
  have hR:Kerb.Case.req (Vq cu co cv cr lt tn mt cad cfr cis ctm ctk clf ccs cky ckv css ctt cau) ⟨x,y,z⟩ k v=⟨if cau % 16=14 then !lt else lt,mt,if ckv.toNat % 16=15 then v+1 else v,if cr.toNat % 16=15 then [67,65,77] else z,if ctt % 16=15 then Wd X (ctt / 16) else X,if cau % 16=15 then Wd Y (cau / 16) else Y⟩:=by rw [← hX,← hY];rfl
  rw [hX] at hT
  rw [hY] at hA
  have lW:W.name.length≤9223372036854775807∧W.inst.length≤9223372036854775807∧W.realm.length≤9223372036854775807:=by rw [← hW];exact Kerb.user_dec _
  have lV:V.name.length≤9223372036854775807∧V.inst.length≤9223372036854775807∧V.realm.length≤9223372036854775807:=by
   rw [← hV]
   split
   ·exact Kerb.user_dec _
   ·exact lW
  have lE:0≤E∧E<18446744073709551616:=by rw [← hE];exact Kerb.session_bd2 _
  have lI:IN.length≤9223372036854775807:=by
   rw [← hIN]
   split
   ·simp
   ·exact l2
  have lX:X.length≤1000000:=by rw [hT];have:=Kerb.sealTicket_len ⟨tn,W,Yx cad % 3,E,Yx clf / 4,1000+Yx cis*8,x,IN⟩ k;omega
  have lY:Y.length≤1000000:=by rw [hA];have:=Kerb.sealAuth_len ⟨V,ccs,Yx ctk % 3,1000+Yx ctm*8⟩ lt E;omega
  rw [hR]
  simp (config:={maxSteps:=10000000}) only [Vw,f1,f2,f3,f4,f5,f6,f7,f8,f9,fa,fb,fc,fd,fe,g1,g2,g3,g4,g5,u1,u2,u3,u4,hW,hE,↓sInt,↓sU8,↓sBool,↓sStr,↓sBs,↓sSl,↓sAgg,↓sTup,↓sCons,↓sNil,↓sNilB,↓sChk,↓sChkBind,↓sSome]
  refine bind_via (fun ls=>ls=[Zz IntKind.u64 k,Zz Zk v,Zp cu,Zp co,Zp cv,Zp cr,Zj lt,Zj tn,Zj mt,Zp cad,Zp cfr,Zp cis,Zp ctm,Zp ctk,Zp clf,Zz Uh ccs,Zp cky,Zp ckv,Zp css,Zz Xm ctt,Zz Xm cau,Zw x,Zw y,Zw z,Zj false,Zj false,Zz Zk 0,Zw [],Zf [],Zf [],Zj tn,Zw W.name,Zw W.inst,Zw W.realm,Zz Zk (Yx cad % 3),Zz IntKind.u64 E,Zz Zk (Yx clf / 4),Zz Zk (1000+Yx cis*8),Zw x,Zw IN]) ⟨_,?_,rfl⟩ ?_
  ·rw [← hIN]
   by_cases h:cv.toNat % 7=6
   ·rw [if_pos h,decide_eq_true h];rfl
   ·rw [if_neg h,decide_eq_false h];rfl
  rintro _ rfl
  simp (config:={maxSteps:=10000000}) only [Vw,f1,f2,f3,f4,f5,f6,f7,f8,f9,fa,fb,fc,fd,fe,g1,g2,g3,g4,g5,u1,u2,u3,u4,↓sInt,↓sU8,↓sBool,↓sStr,↓sBs,↓sSl,↓sAgg,↓sTup,↓sCons,↓sNil,↓sNilB,↓sChk,↓sChkBind,↓sSome]
  refine bind_via (fun ls=>ls=[Zz IntKind.u64 k,Zz Zk v,Zp cu,Zp co,Zp cv,Zp cr,Zj lt,Zj tn,Zj mt,Zp cad,Zp cfr,Zp cis,Zp ctm,Zp ctk,Zp clf,Zz Uh ccs,Zp cky,Zp ckv,Zp css,Zz Xm ctt,Zz Xm cau,Zw x,Zw y,Zw z,Zj false,Zj false,Zz Zk 0,Zw [],Zf [],Zf [],Zj tn,Zw W.name,Zw W.inst,Zw W.realm,Zz Zk (Yx cad % 3),Zz IntKind.u64 E,Zz Zk (Yx clf / 4),Zz Zk (1000+Yx cis*8),Zw x,Zw IN,Zw V.name,Zw V.inst,Zw V.realm,Zz Zk ccs,Zz Zk (Yx ctk % 3),Zz Zk (1000+Yx ctm*8)]) ⟨_,?_,rfl⟩ ?_
  ·rw [← hV]
   by_cases h:co.toNat % 8=7
   ·rw [if_pos h,decide_eq_true h];rfl
   ·rw [if_neg h,decide_eq_false h];rfl
  rintro _ rfl
  simp (config:={maxSteps:=10000000}) only [l1,lW,lV,lE,lI,hk,decide_true,Xy,← hT,← hA,Vw,f1,f2,f3,f4,f5,f6,f7,f8,f9,fa,fb,fc,fd,fe,g1,g2,g3,g4,g5,u1,u2,u3,u4,↓sInt,↓sU8,↓sBool,↓sStr,↓sBs,↓sSl,↓sAgg,↓sTup,↓sCons,↓sNil,↓sNilB,↓sChk,↓sChkBind,↓sSome]
  refine bind_via (fun ls=>ls=[Zp cu,Zp co,Zp cv,Zp cr,Zj lt,Zj tn,Zj mt,Zp cad,Zp cfr,Zp cis,Zp ctm,Zp ctk,Zp clf,Zz Uh ccs,Zp cky,Zp ckv,Zp css,Zz Xm ctt,Zz Xm cau,Zj false,Zj false,Zz Zk 0,Zw [],Zf [],Zf [],Zf Y,Zj lt,Zj mt,Zz Zk v,Zw z,Zf (if ctt % 16=15 then Wd X (ctt / 16) else X),Zf Y]) ⟨_,?_,rfl⟩ ?_
  ·by_cases h:ctt % 16=15
   ·rw [if_pos h,sel_pos (by simpa using h),chk_of (by simp only [lX,g4,decide_true,Bool.true_and])]
   ·rw [if_neg h,sel_neg (by simpa using h)]
  rintro _ rfl
  simp (config:={maxSteps:=10000000}) only [Vw,f1,f2,f3,f4,f5,f6,f7,f8,f9,fa,fb,fc,fd,fe,g1,g2,g3,g4,g5,u1,u2,u3,u4,↓sInt,↓sU8,↓sBool,↓sStr,↓sBs,↓sSl,↓sAgg,↓sTup,↓sCons,↓sNil,↓sNilB,↓sChk,↓sChkBind,↓sSome]
  refine bind_via (fun ls=>ls=[Zp cu,Zp co,Zp cv,Zp cr,Zj lt,Zj tn,Zj mt,Zp cad,Zp cfr,Zp cis,Zp ctm,Zp ctk,Zp clf,Zz Uh ccs,Zp cky,Zp ckv,Zp css,Zz Xm ctt,Zz Xm cau,Zj false,Zj false,Zz Zk 0,Zw [],Zf [],Zf [],Zj lt,Zj mt,Zz Zk v,Zw z,Zf (if ctt % 16=15 then Wd X (ctt / 16) else X),Zf (if cau % 16=15 then Wd Y (cau / 16) else Y)]) ⟨_,?_,rfl⟩ ?_
  ·by_cases h:cau % 16=15
   ·rw [if_pos h,sel_pos (by simpa using h),chk_of (by simp only [lY,g5,decide_true,Bool.true_and])]
   ·rw [if_neg h,sel_neg (by simpa using h)]
  rintro _ rfl
  simp (config:={maxSteps:=10000000}) only [Vw,f1,f2,f3,f4,f5,f6,f7,f8,f9,fa,fb,fc,fd,fe,g1,g2,g3,g4,g5,u1,u2,u3,u4,↓sInt,↓sU8,↓sBool,↓sStr,↓sBs,↓sSl,↓sAgg,↓sTup,↓sCons,↓sNil,↓sNilB,↓sChk,↓sChkBind,↓sSome]
  refine bind_via (fun ls=>ls=[Zp cu,Zp co,Zp cv,Zp cr,Zj lt,Zj tn,Zj mt,Zp cad,Zp cfr,Zp cis,Zp ctm,Zp ctk,Zp clf,Zz Uh ccs,Zp cky,Zp ckv,Zp css,Zz Xm ctt,Zz Xm cau,Zj false,Zj false,Zz Zk 0,Zw [],Zf [],Zf [],Zj (if cau % 16=14 then !lt else lt),Zj mt,Zz Zk v,Zw z,Zf (if ctt % 16=15 then Wd X (ctt / 16) else X),Zf (if cau % 16=15 then Wd Y (cau / 16) else Y)]) ⟨_,?_,rfl⟩ ?_
  ·by_cases h:cau % 16=14
   ·rw [if_pos h,sel_pos (by simpa using h)]
   ·rw [if_neg h,sel_neg (by simpa using h)]
  rintro _ rfl
  simp (config:={maxSteps:=10000000}) only [Vw,f1,f2,f3,f4,f5,f6,f7,f8,f9,fa,fb,fc,fd,fe,g1,g2,g3,g4,g5,u1,u2,u3,u4,↓sInt,↓sU8,↓sBool,↓sStr,↓sBs,↓sSl,↓sAgg,↓sTup,↓sCons,↓sNil,↓sNilB,↓sChk,↓sChkBind,↓sSome]
  refine bind_via (fun ls=>ls=[Zp cu,Zp co,Zp cv,Zp cr,Zj lt,Zj tn,Zj mt,Zp cad,Zp cfr,Zp cis,Zp ctm,Zp ctk,Zp clf,Zz Uh ccs,Zp cky,Zp ckv,Zp css,Zz Xm ctt,Zz Xm cau,Zj false,Zj false,Zz Zk 0,Zw [],Zf [],Zf [],Zj (if cau % 16=14 then !lt else lt),Zj mt,Zz Zk (if ckv.toNat % 16=15 then v+1 else v),Zw z,Zf (if ctt % 16=15 then Wd X (ctt / 16) else X),Zf (if cau % 16=15 then Wd Y (cau / 16) else Y)]) ⟨_,?_,rfl⟩ ?_
  ·by_cases h:ckv.toNat % 16=15
   ·rw [if_pos h,decide_eq_true h];rfl
   ·rw [if_neg h,decide_eq_false h];rfl
  rintro _ rfl
  simp (config:={maxSteps:=10000000}) only [Vw,f1,f2,f3,f4,f5,f6,f7,f8,f9,fa,fb,fc,fd,fe,g1,g2,g3,g4,g5,u1,u2,u3,u4,↓sInt,↓sU8,↓sBool,↓sStr,↓sBs,↓sSl,↓sAgg,↓sTup,↓sCons,↓sNil,↓sNilB,↓sChk,↓sChkBind,↓sSome]
  by_cases h:cr.toNat % 16=15
  ·rw [if_pos h,decide_eq_true h];rfl
  ·rw [if_neg h,decide_eq_false h];rfl
 ·cases h
theorem w62:Walked Tryz.prog G 62 7 sp62:=by
 refine ⟨Tryz.f62,Tryz.func62,by decide +kernel,rfl,fun xs bl r h=> ?_⟩
 unfold sp62 at h
 split at h
 ·rename_i a b c
  obtain ⟨hpre,h2⟩:=chk_inv h;cases h2
  refine Eq.trans (b:=(Zx (chk (decide (Zy a≤9223372036854775807)) (some (Zj (Ub a),[]))) fun (r:AV×Blocks)=>onNilB (Yk r) (Vx (Yh r) fun b_1=>sel b_1 (Zx (chk (decide (Zy b≤9223372036854775807)) (some (Zj (Vb b),[]))) fun (r:AV×Blocks)=>onNilB (Yk r) (Vx (Yh r) fun b=>sel b (Zx (chk (decide (Zy c≤9223372036854775807)) (some (Zj (Kerb.validRealm c),[]))) fun (r:AV×Blocks)=>onNilB (Yk r) (Vx (Yh r) fun b=>some (Zj b,[]))) (some (Zj false,[])))) (some (Zj false,[]))):Option (AV×Blocks))) (by kernel_rfl) ?_
  simp only [Yy,decide_eq_true_eq] at hpre
  simp only [A0]
  rw [chk_of (by simp;omega),chk_of (by simp;omega),chk_of (by simp;omega)]
  simp only [Yw]
  cases Ub a<;>cases Vb b<;>rfl
 ·cases h
theorem w88:Walked Tryz.prog G 88 7 sp88:=by
 refine ⟨Tryz.f88,Tryz.func88,by decide +kernel,rfl,fun xs bl r h=> ?_⟩
 unfold sp88 at h
 split at h
 ·rename_i li mu kv rl tk au
  obtain ⟨hpre,h2⟩:=chk_inv h;cases h2
  refine Eq.trans (b:=(Zx (chk (l63 rl) (some (Zj (Kerb.validRealm rl),[]))) (kL fun b=>sel (!b) (some (Zg [Zf [],Zz .i64 103],[])) (sel (!Zh kv 255) (some (Zg [Zf [],Zz .i64 104],[])) (sel (decide ((↑(Zy tk):Int)>255)) (some (Zg [Zf [],Zz .i64 105],[])) (sel (decide ((↑(Zy au):Int)>255)) (some (Zg [Zf [],Zz .i64 105],[])) (sel mu (Zx (chk (decide (Zy (Vg 4 li)≤70368744177664)) (some (Yj (Vg 4 li++Zn kv 1 false),[]))) (kO fun l=>Zx (chk (decide (Zy l+Zy rl≤70368744177664)) (some (Zf (Yv l rl),[]))) (kB fun b=>Zx (chk (decide (Zy b≤70368744177664)) (some (Yj (b++Zn (↑(Zy tk):Int) 1 false),[]))) (kO fun l=>Zx (chk (decide (Zy l≤70368744177664)) (some (Yj (l++Zn (↑(Zy au):Int) 1 false),[]))) (kO fun l=>Zx (chk (decide (Zy (Yq l (Yq tk (Yq au [])))≤140737488355328)&&decide (Zy [Zf l,Zf tk,Zf au]≤1000)) (some (Yj (Yq l (Yq tk (Yq au []))),[]))) (kO fun l=>some (Zg [Zf l,Zz .i64 0],[]))))))) (Zx (chk (decide (Zy (Vg 3 li)≤70368744177664)) (some (Yj (Vg 3 li++Zn kv 1 false),[]))) (kO fun l=>Zx (chk (decide (Zy l+Zy rl≤70368744177664)) (some (Zf (Yv l rl),[]))) (kB fun b=>Zx (chk (decide (Zy b≤70368744177664)) (some (Yj (b++Zn (↑(Zy tk):Int) 1 false),[]))) (kO fun l=>Zx (chk (decide (Zy l≤70368744177664)) (some (Yj (l++Zn (↑(Zy au):Int) 1 false),[]))) (kO fun l=>Zx (chk (decide (Zy (Yq l (Yq tk (Yq au [])))≤140737488355328)&&decide (Zy [Zf l,Zf tk,Zf au]≤1000)) (some (Yj (Yq l (Yq tk (Yq au []))),[]))) (kO fun l=>some (Zg [Zf l,Zz .i64 0],[])))))))))))):Option (AV×Blocks))) (by kernel_rfl) ?_
  delta kB kO kL
  try dsimp only [cStr,cBs,cBool,cU8,cInt,cSl,l63]
  simp only [A0,Xn,Xh,Wk,hpre]
  unfold Uj
  simp only
  cases h1:Kerb.validRealm rl
  ·rfl
  rw [Yd,sel_false,if_neg (by simp)]
  cases h2:Zh kv 255
  ·rfl
  rw [Yd,sel_false,if_neg (by simp)]
  by_cases h3:255<tk.length
  ·rw [sel_pos (by simp;omega),if_pos (.inl h3)]
  rw [sel_neg (by simp;omega)]
  by_cases h4:255<au.length
  ·rw [sel_pos (by simp;omega),if_pos (.inr h4)]
  rw [sel_neg (by simp;omega),if_neg (by omega)]
  have l1:=Kerb.validRealm_len h1
  have g3:=Kerb.header_len 3 li
  have g4:=Kerb.header_len 4 li
  cases mu
  ·rw [sel_false,chk_of (by simp;omega),chk_of (by simp [Zu];omega),chk_of (by simp [Zu,Wh];omega),chk_of (by simp [Zu,Wh];omega),chk_of (by simp [Zu,Wh];omega)]
   simp
  ·rw [sel_true,chk_of (by simp;omega),chk_of (by simp [Zu];omega),chk_of (by simp [Zu,Wh];omega),chk_of (by simp [Zu,Wh];omega),chk_of (by simp [Zu,Wh];omega)]
   simp
 ·cases h
theorem w11:Walked Tryz.prog G 11 8 sp11:=by
 refine ⟨Tryz.f11,Tryz.func11,by decide +kernel,rfl,fun xs bl r h=> ?_⟩
 unfold sp11 at h
 split at h
 ·rename_i cu co cv cr lt tn mt cad cfr cis ctm ctk clf ccs cky ckv css ctt cau x y z k v
  obtain ⟨hpre,h2⟩:=chk_inv h;cases h2
  refine Eq.trans (b:=(let t0:Kerb.ApRequest:=Kerb.Case.req (Vq cu co cv cr lt tn mt cad cfr cis ctm ctk clf ccs cky ckv css ctt cau) (Zb x y z) k v;Zx (chk (l63 x&&l63 y&&l63 z&&Kerb.isU64 k&&decide (0≤v)&&decide (v≤1000)&&decide (0≤ccs)&&decide (ccs≤4294967295)&&decide (0≤ctt)&&decide (ctt≤65535)&&decide (0≤cau)&&decide (cau≤65535)) (some (Yf [Zj (Kerb.ApRequest.little t0),Zj (Kerb.ApRequest.mutual_ t0),Zz .i64 (Kerb.ApRequest.kvno t0),Zw (Kerb.ApRequest.realm t0),Zf (Kerb.ApRequest.ticket t0),Zf (Kerb.ApRequest.auth t0)],[]))) (kA fun cs=>cBool cs fun b r=>cBool r fun b_1 r=>cInt .i64 r fun n r=>cStr r fun b_2 r=>cBs r fun b_3 r=>cBs r fun b_4 r=>onNil r (Zx (chk (l63 b_2) (some (Zg [Zf (Xu (Uj (Wp b b_1 n b_2 b_3 b_4))),Zz .i64 (Xq (Uj (Wp b b_1 n b_2 b_3 b_4)))],[]))) (kT fun vs=>cBs vs fun b r=>cInt .i64 r fun n r=>onNil r (some (Zf b,[]))))):Option (AV×Blocks))) (by kernel_rfl) ?_
  delta kT kA
  try dsimp only [cStr,cBs,cBool,cU8,cInt,cSl,l63]
  have hp:=hpre
  simp only [Yy,decide_eq_true_eq] at hp
  have lr:(Kerb.Case.req (Vq cu co cv cr lt tn mt cad cfr cis ctm ctk clf ccs cky ckv css ctt cau) ⟨x,y,z⟩ k v).realm.length≤9223372036854775807:=by
   show (if cr.toNat % 16=15 then ([67,65,77]:List UInt8) else z).length≤_
   split
   ·simp
   ·exact hp.1.1.1.1.1.1.1.1.1.2
  simp only [hpre,lr,decide_true,↓A0,A0]
  rfl
 ·cases h
theorem w37:Walked Tryz.prog G 37 8 sp37:=by
 refine ⟨Tryz.f37,Tryz.func37,by decide +kernel,rfl,fun xs bl r h=> ?_⟩
 unfold sp37 at h
 split at h
 ·rename_i b
  obtain ⟨hpre,h2⟩:=chk_inv h;cases h2
  refine Eq.trans (b:=(let t1:AV:=Yf [Zj false,Zj false,Zz .i64 0,Zw [],Zf [],Zf []];let t0:Option (AV×Blocks):=some (Zg [t1,Zz .i64 100],[]);sel (!Yk (Kerb.headIs b [3,4])==0) (some (Zg [t1,Zz .i64 (Yk (Kerb.headIs b [3,4]))],[])) (Zx (chk (decide (Zy b≤140737488355328)) (some (Zg [Yf [Zj (Kerb.ApRequest.little (Vv (Wn b))),Zj (Kerb.ApRequest.mutual_ (Vv (Wn b))),Zz .i64 (Kerb.ApRequest.kvno (Vv (Wn b))),Zw (Kerb.ApRequest.realm (Vv (Wn b))),Zf (Kerb.ApRequest.ticket (Vv (Wn b))),Zf (Kerb.ApRequest.auth (Vv (Wn b)))],Zz .i64 (Kerb.GotAp.next (Wn b))],[]))) (kT fun vs=>onCons vs fun x r=>Wb x fun cs=>cBool cs fun b_1 r_1=>cBool r_1 fun b_2 r_2=>cInt .i64 r_2 fun n r_3=>cStr r_3 fun b_3 r_4=>cBs r_4 fun b_4 r_5=>cBs r_5 fun b_5 r_6=>onNil r_6 (cInt .i64 r fun n_1 r=>onNil r (Zx (chk (l63 b_3) (some (Zg [Zf (Xu (Uj (Wp b_1 b_2 n b_3 b_4 b_5))),Zz .i64 (Xq (Uj (Wp b_1 b_2 n b_3 b_4 b_5)))],[]))) (kT fun vs=>cBs vs fun b_6 r=>cInt .i64 r fun n_2 r=>onNil r (sel (!n_2==0) t0 (sel (!b_6==b) t0 (some (Zg [Yf [Zj b_1,Zj b_2,Zz .i64 n,Zw b_3,Zf b_4,Zf b_5],Zz .i64 0],[]))))))))):Option (AV×Blocks))) (by kernel_rfl) ?_
  delta kT
  try dsimp only [cStr,cBs,cBool,cU8,cInt,cSl,l63]
  have hb:=of_decide_eq_true hpre
  have hpre2:decide (b.length≤4611686018427387904)=true:=by simp;omega
  have hr:=Qu b (Xx b 2 1 false).next
  have g1:(Wn b).val.realm.length≤9223372036854775807:=by show (Wz b (Xx b 2 1 false).next).val.length≤_;omega
  unfold Kerb.decodeAp
  by_cases h:(Kerb.headIs b [3,4]).2=0
  case neg=>rw [sel_pos (by simpa using h),if_pos h];rfl
  rw [sel_neg (by simpa using h),if_neg (by simpa using h)]
  simp only [hpre,g1,decide_true,↓A0,A0]
  exact Kerb.decBy_fin (no:=Kerb.noAp) (enc:=Uj) (rd:=fun b=>((Wn b).val,false)) _ false rfl (fun x e=>(Zg [.agg [.bool (x).little,.bool (x).mutual_,.int .i64 (x).kvno,.str (x).realm,.bs (x).ticket,.bs (x).auth],Zz Zk e],([]:Blocks)))
 ·cases h
theorem w63:Walked Tryz.prog G 63 8 sp63:=by
 refine ⟨Tryz.f63,Tryz.func63,by decide +kernel,rfl,fun xs bl r h=> ?_⟩
 unfold sp63 at h
 split at h
 ·rename_i kls
  obtain ⟨hpre,h2⟩:=chk_inv h;cases h2
  refine Eq.trans (b:=(sel (decide ((↑(Zy kls):Int)>60)) (some (Zz .i64 106,[])) (Zx (loopM (fun (st:List AV)=>cSl 5 st fun b r=>cInt .i64 r fun n r=>cSl 5 r fun b_1 r=>cInt .i64 r fun n_1 r=>cInt .i64 r fun n_2 r=>let t0:List AV:=[Ym 5 b_1,Zz .i64 n_1,Zz .i64 n_2];onNil r (sel (decide (n_2<n_1)) (chk (decide (0≤n_2)&&decide (n_2<(↑(Zy b_1):Int))&&true) (Wb (Uf b_1 (Yz n_2) AV.undef) fun cs=>cStr cs fun b_2 r=>cStr r fun b_3 r=>cStr r fun b_4 r=>cInt .i64 r fun n_3 r=>cInt .u64 r fun n_4 r=>onNil r (Zx (chk (l63 b_2&&l63 b_3&&l63 b_4) (some (Zj (Yw (Zb b_2 b_3 b_4)),[]))) (kL fun b_5=>sel (!b_5) (some (Vy (Ex.ret,Ym 5 b::Zz .i64 103::t0))) (sel (decide (n_3<0)) (some (Vy (Ex.ret,Ym 5 b::Zz .i64 104::t0))) (sel (decide (n_3>255)) (some (Vy (Ex.ret,Ym 5 b::Zz .i64 104::t0))) (Zx (chk (decide (0≤n_4)&&decide (n_4<18446744073709551616)) (some (Zj (Kerb.keyValid n_4),[]))) (kL fun b_6=>sel (!b_6) (some (Vy (Ex.ret,Ym 5 b::Zz .i64 10::t0))) (Zx (chk (Uk b Kerb.isSKey&&decide (Zy b≤1000000)) (some (Zz .i64 (↑(Kerb.skAt (Wg Qx b) (Zb b_2 b_3 b_4) n_3):Int),[]))) (kI .i64 fun n_5=>sel (decide (n_5<n_2)) (some (Vy (Ex.ret,Ym 5 b::Zz .i64 107::t0))) (some (Sum.inl [Ym 5 b,Zz .i64 n,Ym 5 b_1,Zz .i64 n_1,Zz .i64 (Zd .i64 (n_2+1))])))))))))))) (some (Vy (Ex.exit 0,Ym 5 b::Zz .i64 n::t0))))) [Ym 5 kls,Zz .i64 0,Ym 5 kls,Zz .i64 (↑(Zy kls):Int),Zz .i64 0]) fun (r:Ex×List AV)=>cSl 5 (Yk r) fun b r_1=>cInt .i64 r_1 fun n r_2=>cSl 5 r_2 fun b r_3=>cInt .i64 r_3 fun n_1 r_4=>cInt .i64 r_4 fun n_2 r_5=>onNil r_5 (exK r.1 (some (Zz .i64 n,[])) fun (j:Nat)=>sel (Nat.beq j 0) (some (Zz .i64 0,[])) none)):Option (AV×Blocks))) (by kernel_rfl) ?_
  delta kL kI
  try dsimp only [cStr,cBs,cBool,cU8,cInt,cSl,l63]
  simp only [Yy,decide_eq_true_eq] at hpre
  obtain ⟨hall,hlen⟩:=hpre
  obtain ⟨cs,rfl,hok⟩:=Kerb.skeys_of hall
  unfold Kerb.skErr
  rw [Ud]
  simp only [Yg] at hlen ⊢
  by_cases h60:60<cs.length
  ·rw [sel_pos (by simp;omega),if_pos h60]
  rw [sel_neg (by simp;omega),if_neg h60]
  refine loop_rounds (fun i:Nat=>[Ym 5 (cs.map Qv),Zz Zk 0,Ym 5 (cs.map Qv),Zz Zk (cs.length:Int),Zz Zk (i:Int)]) (fun i=>i≤cs.length∧Kerb.skErrs [] cs=Kerb.skErrs (cs.take i) (cs.drop i)) (fun i=>cs.length-i)
   (fun r=>∃ (i:Nat) (n:Int),r.2=[Ym 5 (cs.map Qv),Zz Zk n,Ym 5 (cs.map Qv),Zz Zk (cs.length:Int),Zz Zk (i:Int)]∧((r.1 = .ret∧n=Kerb.skErrs [] cs)∨(r.1 = .exit 0∧Kerb.skErrs [] cs=0))) 0 ⟨Nat.zero_le _,by simp⟩ rfl ?_ ?_
  ·rintro i ⟨hi,hp⟩
   simp only [↓A0,A0,Yg]
   by_cases hlt:i<cs.length
   ·rw [sel_pos (by simp;omega),chk_of (by simp;omega),Qp,Kerb.getD_row (d:=Kerb.noSKey) hlt]
    obtain ⟨c,hc⟩:∃ c,cs.getD i Kerb.noSKey=c:=⟨_,rfl⟩
    have hst:=Kerb.skErrs_step hlt hc hp
    have hcm:c∈cs:=hc ▸ Kerb.mem_row hlt
    have ho:=hok c hcm
    rw [hc]
    obtain ⟨⟨s1,s2,s3⟩,kv,ky⟩:=c
    obtain ⟨o1,o2,o3,o4,o5⟩:=ho
    have o4:=Kerb.isI64_iff.1 o4
    have o5:=Kerb.isU64_iff.1 o5
    dsimp only at o1 o2 o3 o4 o5 hst
    simp only [Qv,o1,o2,o3,o5,decide_true,Xy,↓A0,A0]
    have k1:∀ code:Int,code≠0→Wm ⟨⟨s1,s2,s3⟩,kv,ky⟩=code→code=Kerb.skErrs [] cs:=fun code h0 he=>by
     rw [he,if_pos h0] at hst;exact hst.symm
    cases h1:Yw ⟨s1,s2,s3⟩
    ·exact ⟨_,rfl,i,_,rfl,.inl ⟨rfl,k1 103 (by decide) (by simp [Wm,h1])⟩⟩
    rw [Yd,sel_false]
    by_cases h2:kv<0
    ·rw [sel_pos (by simpa using h2)]
     exact ⟨_,rfl,i,_,rfl,.inl ⟨rfl,k1 104 (by decide) (by simp [Wm,h1,Zh];omega)⟩⟩
    rw [sel_neg (by simpa using h2)]
    by_cases h3:kv>255
    ·rw [sel_pos (by simpa using h3)]
     exact ⟨_,rfl,i,_,rfl,.inl ⟨rfl,k1 104 (by decide) (by simp [Wm,h1,Zh];omega)⟩⟩
    rw [sel_neg (by simpa using h3)]
    have hw:Zh kv 255=true:=Kerb.within_iff.2 ⟨by omega,by omega⟩
    cases h4:Kerb.keyValid ky
    ·exact ⟨_,rfl,i,_,rfl,.inl ⟨rfl,k1 10 (by decide) (by simp [Wm,h1,hw,h4])⟩⟩
    rw [Yd,sel_false]
    have hz:Wm ⟨⟨s1,s2,s3⟩,kv,ky⟩=0:=by simp [Wm,h1,hw,h4]
    rw [hz,if_neg (by simp)] at hst
    rw [chk_of (by rw [Kerb.skeys_all hok];simp;omega),Ud]
    have hq:=Kerb.skAt_lt cs ⟨s1,s2,s3⟩ kv i hi
    have e:decide (((Kerb.skAt cs ⟨s1,s2,s3⟩ kv:Nat):Int)<(i:Int))=decide (Kerb.skAt cs ⟨s1,s2,s3⟩ kv<i):=decide_eq_decide.2 (by omega)
    rw [e,hq]
    cases hd:(cs.take i).any (Kerb.SKey.is ⟨s1,s2,s3⟩ kv)
    ·rw [hd,if_neg (by simp)] at hst
     rw [sel_false,wrap_i64 (by omega) (by omega)]
     exact ⟨_,rfl,i+1,rfl,⟨by omega,hst⟩,by dsimp only;omega⟩
    ·rw [hd,if_pos rfl] at hst
     rw [sel_true]
     exact ⟨_,rfl,i,_,rfl,.inl ⟨rfl,hst.symm⟩⟩
   ·rw [sel_neg (by simp;omega)]
    refine ⟨_,rfl,i,_,rfl,.inr ⟨rfl,?_⟩⟩
    rw [hp,List.drop_eq_nil_of_le (by omega)]
    rfl
  ·rintro ⟨e,l⟩ ⟨i,n,rfl,⟨rfl,h⟩ | ⟨rfl,h⟩⟩
   ·simp only [↓A0,A0,h]
   ·simp only [↓A0,A0,h]
    rw [sel_pos (Nat.beq_refl _)]
 ·cases h
theorem w64:Walked Tryz.prog G 64 8 sp64:=by
 refine ⟨Tryz.f64,Tryz.func64,by decide +kernel,rfl,fun xs bl r h=> ?_⟩
 unfold sp64 at h
 split at h
 ·rename_i sz fl mls
  obtain ⟨hpre,h2⟩:=chk_inv h;cases h2
  refine Eq.trans (b:=(sel (!(decide (1≤sz)&&decide (sz≤40))) (some (Zz .i64 104,[])) (sel (!(decide (0≤fl)&&decide (fl≤4294967295))) (some (Zz .i64 104,[])) (sel (decide ((↑(Zy mls):Int)>sz)) (some (Zz .i64 106,[])) (Zx (loopM (fun (st:List AV)=>cInt .i64 st fun n r=>cInt .i64 r fun n_1 r=>cSl 5 r fun b r=>cInt .i64 r fun n_2 r=>cSl 5 r fun b_1 r=>cInt .i64 r fun n_3 r=>cInt .i64 r fun n_4 r=>let t0:List AV:=[Ym 5 b_1,Zz .i64 n_3,Zz .i64 n_4];let t2:List AV:=List.drop (Yz (↑(0:Nat):Int)) (List.take (Yz n_4) b);let t1:Option (List AV ⊕ Ex×List AV):=some (Vy (Ex.ret,Zz .i64 n::Zz .i64 n_1::Ym 5 b::Zz .i64 104::t0));onNil r (sel (decide (n_4<n_3)) (chk (decide (0≤n_4)&&decide (n_4<(↑(Zy b_1):Int))&&true) (Wb (Uf b_1 (Yz n_4) AV.undef) fun cs=>cStr cs fun b_2 r=>cStr r fun b_3 r=>cStr r fun b_4 r=>cInt .i64 r fun n_5 r=>cInt .i64 r fun n_6 r=>onNil r (Zx (chk (l63 b_2&&l63 b_3&&l63 b_4) (some (Zj (Yw (Zb b_2 b_3 b_4)),[]))) (kL fun b_5=>sel (!b_5) (some (Vy (Ex.ret,Zz .i64 n::Zz .i64 n_1::Ym 5 b::Zz .i64 103::t0))) (sel (!(decide (n_1≤n_5)&&decide (n_5≤4294967295))) t1 (sel (!(decide (0≤n_6)&&decide (n_6≤199))) t1 (chk (decide ((↑(0:Nat):Int)≤n_4)&&decide (n_4≤(↑(Zy b):Int))) (Zx (chk (Uk t2 Qw&&decide (Zy t2≤1000000)) (some (Zj (Kerb.hasMark (Wg Up t2) (Kerb.Mark.mk (Zb b_2 b_3 b_4) n_5 n_6)),[]))) (kL fun b_6=>sel b_6 (some (Vy (Ex.ret,Zz .i64 n::Zz .i64 n_1::Ym 5 b::Zz .i64 107::t0))) (some (Sum.inl [Zz .i64 n,Zz .i64 n_1,Ym 5 b,Zz .i64 n_2,Ym 5 b_1,Zz .i64 n_3,Zz .i64 (Zd .i64 (n_4+1))]))))))))))) (some (Vy (Ex.exit 0,Zz .i64 n::Zz .i64 n_1::Ym 5 b::Zz .i64 n_2::t0))))) [Zz .i64 sz,Zz .i64 fl,Ym 5 mls,Zz .i64 0,Ym 5 mls,Zz .i64 (↑(Zy mls):Int),Zz .i64 0]) fun (r:Ex×List AV)=>cInt .i64 (Yk r) fun n r_1=>cInt .i64 r_1 fun n r_2=>cSl 5 r_2 fun b r_3=>cInt .i64 r_3 fun n r_4=>cSl 5 r_4 fun b r_5=>cInt .i64 r_5 fun n_1 r_6=>cInt .i64 r_6 fun n_2 r_7=>onNil r_7 (exK r.1 (some (Zz .i64 n,[])) fun (j:Nat)=>sel (Nat.beq j 0) (some (Zz .i64 0,[])) none)))):Option (AV×Blocks))) (by kernel_rfl) ?_
  delta kL
  try dsimp only [cStr,cBs,cBool,cU8,cInt,cSl,l63]
  simp only [Yy,decide_eq_true_eq] at hpre
  obtain ⟨hall,hlen⟩:=hpre
  obtain ⟨cs,rfl,hok⟩:=Qq hall
  unfold Qy
  rw [Vu]
  simp only [Yg] at hlen ⊢
  cases e1:(decide ((1:Int)≤sz)&&decide (sz≤40))
  ·rw [if_pos (by simp)];rfl
  cases e2:(decide ((0:Int)≤fl)&&decide (fl≤4294967295))
  ·rw [if_pos (by unfold Zh;rw [e2];rfl)];rfl
  rw [Yd,sel_false,sel_false,if_neg (by unfold Zh;rw [e2];simp)]
  simp only [Yy,decide_eq_true_eq] at e1 e2
  by_cases hsz:sz<cs.length
  ·rw [sel_pos (by simp;omega),if_pos hsz]
  rw [sel_neg (by simp;omega),if_neg hsz]
  refine loop_rounds (fun i:Nat=>[Zz Zk sz,Zz Zk fl,Ym 5 (cs.map Xv),Zz Zk 0,Ym 5 (cs.map Xv),Zz Zk (cs.length:Int),Zz Zk (i:Int)]) (fun i=>i≤cs.length∧Qj fl [] cs=Qj fl (cs.take i) (cs.drop i)) (fun i=>cs.length-i)
   (fun r=>∃ (i:Nat) (n:Int),r.2=[Zz Zk sz,Zz Zk fl,Ym 5 (cs.map Xv),Zz Zk n,Ym 5 (cs.map Xv),Zz Zk (cs.length:Int),Zz Zk (i:Int)]∧((r.1 = .ret∧n=Qj fl [] cs)∨(r.1 = .exit 0∧Qj fl [] cs=0))) 0 ⟨Nat.zero_le _,by simp⟩ rfl ?_ ?_
  ·rintro i ⟨hi,hp⟩
   simp only [↓A0,A0,Yg]
   by_cases hlt:i<cs.length
   ·rw [sel_pos (by simp;omega),chk_of (by simp;omega),Qp,Kerb.getD_row (d:=Kerb.noMark) hlt]
    obtain ⟨c,hc⟩:∃ c,cs.getD i Kerb.noMark=c:=⟨_,rfl⟩
    have hst:=Kerb.marksErr_step hlt hc hp
    have hcm:c∈cs:=hc ▸ Kerb.mem_row hlt
    have ho:=hok c hcm
    rw [hc]
    obtain ⟨⟨s1,s2,s3⟩,mt,mk⟩:=c
    obtain ⟨o1,o2,o3,o4,o5⟩:=ho
    dsimp only at o1 o2 o3 o4 o5 hst
    simp only [Xv,o1,o2,o3,decide_true,Xy,↓A0,A0]
    have k1:∀ code:Int,code≠0→Uy fl ⟨⟨s1,s2,s3⟩,mt,mk⟩=code→code=Qj fl [] cs:=fun code h0 he=>by
     rw [he,if_pos h0] at hst;exact hst.symm
    cases h1:Yw ⟨s1,s2,s3⟩
    ·exact ⟨_,rfl,i,_,rfl,.inl ⟨rfl,k1 103 (by decide) (by simp [Uy,h1])⟩⟩
    rw [Yd,sel_false]
    by_cases h2:fl≤mt∧mt≤4294967295
    case neg =>
     rw [sel_pos (by simp;omega)]
     exact ⟨_,rfl,i,_,rfl,.inl ⟨rfl,k1 104 (by decide) (by unfold Uy;rw [if_neg (by simp [h1]),if_pos (by simp [Zh];omega)])⟩⟩
    rw [sel_neg (by simp;omega)]
    by_cases h3:0≤mk∧mk≤199
    case neg =>
     rw [sel_pos (by simp;omega)]
     exact ⟨_,rfl,i,_,rfl,.inl ⟨rfl,k1 104 (by decide) (by unfold Uy;rw [if_neg (by simp [h1]),if_pos (by simp [Zh];omega)])⟩⟩
    rw [sel_neg (by simp;omega)]
    have hw2:(decide (fl≤mt)&&decide (mt≤4294967295)&&Zh mk 199)=true:=by
     rw [Yy,Yy,decide_eq_true_eq,decide_eq_true_eq]
     exact ⟨⟨by omega,by omega⟩,Kerb.within_iff.2 ⟨by omega,by omega⟩⟩
    have hz:Uy fl ⟨⟨s1,s2,s3⟩,mt,mk⟩=0:=by
     unfold Uy
     rw [if_neg (by simp [h1])]
     dsimp only
     rw [hw2]
     rfl
    rw [hz,if_neg (by simp)] at hst
    rw [chk_of (by simp;omega)]
    simp only [Qp,List.drop_zero,← List.map_take]
    rw [chk_of (by rw [Um (fun c hc=>hok c (List.mem_of_mem_take hc))];simp;omega),Vu]
    cases hd:Kerb.hasMark (cs.take i) ⟨⟨s1,s2,s3⟩,mt,mk⟩
    ·rw [hd,if_neg (by simp)] at hst
     rw [sel_false,wrap_i64 (by omega) (by omega)]
     exact ⟨_,rfl,i+1,rfl,⟨by omega,hst⟩,by dsimp only;omega⟩
    ·rw [hd,if_pos rfl] at hst
     rw [sel_true]
     exact ⟨_,rfl,i,_,rfl,.inl ⟨rfl,hst.symm⟩⟩
   ·rw [sel_neg (by simp;omega)]
    refine ⟨_,rfl,i,_,rfl,.inr ⟨rfl,?_⟩⟩
    rw [hp,List.drop_eq_nil_of_le (by omega)]
    rfl
  ·rintro ⟨e,l⟩ ⟨i,n,rfl,⟨rfl,h⟩ | ⟨rfl,h⟩⟩
   ·simp only [↓A0,A0,h]
   ·simp only [↓A0,A0,h]
    rw [sel_pos (Nat.beq_refl _)]
 ·cases h
theorem w175:Walked Tryz.prog G 175 8 sp175:=by
 refine ⟨Tryz.f175,Tryz.func175,by decide +kernel,rfl,fun xs bl r h=> ?_⟩
 unfold sp175 at h
 split at h
 ·rename_i b pos
  obtain ⟨hpre,h2⟩:=chk_inv h;cases h2
  refine Eq.trans (b:=(Zx (loopM (fun (st:List AV)=>cBs st fun b r=>cInt .i64 r fun n r=>let t0:Option (AV×Blocks):=chk (decide (Zy b≤4611686018427387904)) (some (Zg [Zw (Kerb.GotB.val (Wz b n)),Zz .i64 (Kerb.GotB.next (Wz b n)),Zz .i64 (Kerb.GotB.err (Wz b n))],[]));cStr r fun b_1 r=>cStr r fun b_2 r=>cStr r fun b_3 r=>cInt .i64 r fun n_1 r=>cInt .i64 r fun n_2 r=>cStr r fun b_4 r=>cStr r fun b_5 r=>cStr r fun b_6 r=>cInt .i64 r fun n_3 r=>cInt .i64 r fun n_4 r=>let t1:List AV:=[Zw b_6,Zz .i64 n_3,Zz .i64 (Zd .i64 (n_4+1))];onNil r (sel (decide (n_4<n_3)) (chk (decide (0≤n_4)&&decide (n_4<(↑(Zy [0,1,2]):Int))&&true) (sel (Nat.beq (Yz n_4) 0) (Zx t0 (kT fun vs=>cStr vs fun b_7 r=>cInt .i64 r fun n r=>cInt .i64 r fun n_5 r=>onNil r (sel (!n_5==0) (some (Vy (Ex.ret,[Zf b,Zz .i64 n,Zw [],Zw [],Zw [],Zz .i64 0,Zz .i64 n_5,Zw b_7,Zw b_5,Zw b_6,Zz .i64 n_3,Zz .i64 n_4]))) (some (Sum.inl (Zf b::Zz .i64 n::Zw b_1::Zw b_2::Zw b_3::Zz .i64 n_1::Zz .i64 n_2::Zw b_7::Zw b_5::t1)))))) (sel (Nat.beq (Yz n_4-1) 0) (Zx t0 (kT fun vs=>cStr vs fun b_7 r=>cInt .i64 r fun n r=>cInt .i64 r fun n_5 r=>onNil r (sel (!n_5==0) (some (Vy (Ex.ret,[Zf b,Zz .i64 n,Zw [],Zw [],Zw [],Zz .i64 0,Zz .i64 n_5,Zw b_4,Zw b_7,Zw b_6,Zz .i64 n_3,Zz .i64 n_4]))) (some (Sum.inl (Zf b::Zz .i64 n::Zw b_1::Zw b_2::Zw b_3::Zz .i64 n_1::Zz .i64 n_2::Zw b_4::Zw b_7::t1)))))) (sel (Nat.beq (Yz n_4-1-1) 0) (Zx t0 (kT fun vs=>cStr vs fun b_7 r=>cInt .i64 r fun n r=>cInt .i64 r fun n_5 r=>onNil r (sel (!n_5==0) (some (Vy (Ex.ret,[Zf b,Zz .i64 n,Zw [],Zw [],Zw [],Zz .i64 0,Zz .i64 n_5,Zw b_4,Zw b_5,Zw b_7,Zz .i64 n_3,Zz .i64 n_4]))) (some (Sum.inl [Zf b,Zz .i64 n,Zw b_1,Zw b_2,Zw b_3,Zz .i64 n_1,Zz .i64 n_2,Zw b_4,Zw b_5,Zw b_7,Zz .i64 n_3,Zz .i64 (Zd .i64 (n_4+1))]))))) none)))) (some (Vy (Ex.exit 0,[Zf b,Zz .i64 n,Zw b_1,Zw b_2,Zw b_3,Zz .i64 n_1,Zz .i64 n_2,Zw b_4,Zw b_5,Zw b_6,Zz .i64 n_3,Zz .i64 n_4]))))) [Zf b,Zz .i64 pos,Zw [],Zw [],Zw [],Zz .i64 0,Zz .i64 0,Zw [],Zw [],Zw [],Zz .i64 (↑(Zy [0+0,0+1,0+2]):Int),Zz .i64 0]) fun (r:Ex×List AV)=>cBs (Yk r) fun b r_1=>cInt .i64 r_1 fun n r_2=>cStr r_2 fun b r_3=>cStr r_3 fun b_1 r_4=>cStr r_4 fun b_2 r_5=>cInt .i64 r_5 fun n_1 r_6=>cInt .i64 r_6 fun n_2 r_7=>cStr r_7 fun b_3 r_8=>cStr r_8 fun b_4 r_9=>cStr r_9 fun b_5 r_10=>cInt .i64 r_10 fun n_3 r_11=>cInt .i64 r_11 fun n_4 r_12=>onNil r_12 (exK r.1 (some (Zg [Yf [Zw b,Zw b_1,Zw b_2],Zz .i64 n_1,Zz .i64 n_2],[])) fun (j:Nat)=>sel (Nat.beq j 0) (Zx (chk (l63 b_3&&l63 b_4&&l63 b_5) (some (Zj (Yw (Zb b_3 b_4 b_5)),[]))) (kL fun b=>sel (!b) (some (Zg [Yf [Zw [],Zw [],Zw []],Zz .i64 0,Zz .i64 103],[])) (some (Zg [Yf [Zw b_3,Zw b_4,Zw b_5],Zz .i64 n,Zz .i64 0],[])))) none):Option (AV×Blocks))) (by kernel_rfl) ?_
  delta kT kL
  try dsimp only [cStr,cBs,cBool,cU8,cInt,cSl,l63]
  have hb:=of_decide_eq_true hpre
  obtain ⟨T0,hT0⟩:∃ T,T=Wz b pos:=⟨_,rfl⟩
  obtain ⟨T1,hT1⟩:∃ T,T=Wz b T0.next:=⟨_,rfl⟩
  obtain ⟨T2,hT2⟩:∃ T,T=Wz b T1.next:=⟨_,rfl⟩
  have hp:Xj b pos=if T0.err≠0 then ⟨Kerb.noPrin,0,T0.err⟩ else if T1.err≠0 then ⟨Kerb.noPrin,0,T1.err⟩ else if T2.err≠0 then ⟨Kerb.noPrin,0,T2.err⟩
    else if Yw ⟨T0.val,T1.val,T2.val⟩ then ⟨⟨T0.val,T1.val,T2.val⟩,T2.next,0⟩ else ⟨Kerb.noPrin,0,103⟩:=by
   rw [hT2,hT1,hT0];rfl
  have k0:=Qu b pos
  rw [← hT0] at k0
  have k1:=Qu b T0.next
  rw [← hT1] at k1
  have k2:=Qu b T1.next
  rw [← hT2] at k2
  refine loop_rounds (fun i:Nat=>match i with
    | 0=>[Zf b,Zz Zk pos,Zw [],Zw [],Zw [],Zz Zk 0,Zz Zk 0,Zw [],Zw [],Zw [],Zz Zk 3,Zz Zk 0]
    | 1=>[Zf b,Zz Zk T0.next,Zw [],Zw [],Zw [],Zz Zk 0,Zz Zk 0,Zw T0.val,Zw [],Zw [],Zz Zk 3,Zz Zk 1]
    | 2=>[Zf b,Zz Zk T1.next,Zw [],Zw [],Zw [],Zz Zk 0,Zz Zk 0,Zw T0.val,Zw T1.val,Zw [],Zz Zk 3,Zz Zk 2]
    | _=>[Zf b,Zz Zk T2.next,Zw [],Zw [],Zw [],Zz Zk 0,Zz Zk 0,Zw T0.val,Zw T1.val,Zw T2.val,Zz Zk 3,Zz Zk 3])
   (fun i=>i≤3∧(1≤i→T0.err=0)∧(2≤i→T1.err=0)∧(3≤i→T2.err=0)) (fun i=>3-i)
   (fun r=>(T0.err=0∧T1.err=0∧T2.err=0∧r=(Ex.exit 0,[Zf b,Zz Zk T2.next,Zw [],Zw [],Zw [],Zz Zk 0,Zz Zk 0,Zw T0.val,Zw T1.val,Zw T2.val,Zz Zk 3,Zz Zk 3])) ∨
    ∃ n x y z i,Xj b pos=⟨Kerb.noPrin,0,(Xj b pos).err⟩∧r=(Ex.ret,[Zf b,Zz Zk n,Zw [],Zw [],Zw [],Zz Zk 0,Zz Zk (Xj b pos).err,Zw x,Zw y,Zw z,Zz Zk 3,Zz Zk i])) 0 ⟨by omega,by omega,by omega,by omega⟩ rfl ?_ ?_
  ·rintro i ⟨hi,g0,g1,g2⟩
   have hc:i=0∨i=1∨i=2∨i=3:=by omega
   rcases hc with rfl | rfl | rfl | rfl
   ·simp only [A0]
    rw [sel_pos (by decide),chk_of (by decide),sel_pos (by decide),chk_of hpre,← hT0]
    by_cases h:T0.err=0
    ·rw [sel_neg (by simp [h])]
     exact ⟨_,rfl,1,rfl,⟨by omega,fun _=>h,by omega,by omega⟩,by dsimp only;omega⟩
    ·rw [sel_pos (by simpa using h)]
     exact ⟨_,rfl,.inr ⟨_,_,_,_,_,by rw [hp,if_pos h],by rw [hp,if_pos h]⟩⟩
   ·simp only [A0]
    have e0:=g0 (by omega)
    rw [sel_pos (by decide),chk_of (by decide),sel_neg (by decide),sel_pos (by decide),chk_of hpre,← hT1]
    by_cases h:T1.err=0
    ·rw [sel_neg (by simp [h])]
     exact ⟨_,rfl,2,rfl,⟨by omega,fun _=>e0,fun _=>h,by omega⟩,by dsimp only;omega⟩
    ·rw [sel_pos (by simpa using h)]
     exact ⟨_,rfl,.inr ⟨_,_,_,_,_,by rw [hp,if_neg (by simp [e0]),if_pos h],by rw [hp,if_neg (by simp [e0]),if_pos h]⟩⟩
   ·simp only [A0]
    have e0:=g0 (by omega)
    have e1:=g1 (by omega)
    rw [sel_pos (by decide),chk_of (by decide),sel_neg (by decide),sel_neg (by decide),sel_pos (by decide),chk_of hpre,← hT2]
    by_cases h:T2.err=0
    ·rw [sel_neg (by simp [h])]
     exact ⟨_,rfl,3,rfl,⟨by omega,fun _=>e0,fun _=>e1,fun _=>h⟩,by dsimp only;omega⟩
    ·rw [sel_pos (by simpa using h)]
     exact ⟨_,rfl,.inr ⟨_,_,_,_,_,by rw [hp,if_neg (by simp [e0]),if_neg (by simp [e1]),if_pos h],by rw [hp,if_neg (by simp [e0]),if_neg (by simp [e1]),if_pos h]⟩⟩
   ·simp only [A0]
    rw [sel_neg (by decide)]
    exact ⟨_,rfl,.inl ⟨g0 (by omega),g1 (by omega),g2 (by omega),rfl⟩⟩
  ·rintro r (⟨e0,e1,e2,rfl⟩ | ⟨n,x,y,z,i,h,rfl⟩)
   ·simp only [A0]
    rw [sel_pos (Nat.beq_refl _),chk_of (by simp;omega),hp,if_neg (by simp [e0]),if_neg (by simp [e1]),if_neg (by simp [e2])]
    cases hv:Yw ⟨T0.val,T1.val,T2.val⟩
    ·rfl
    ·rfl
   ·simp only [A0]
    rw [h]
    rfl
 ·cases h
theorem w184:Walked Tryz.prog G 184 8 sp184:=by
 refine ⟨Tryz.f184,Tryz.func184,by decide +kernel,rfl,fun xs bl r h=> ?_⟩
 unfold sp184 at h
 split at h
 ·rename_i li x y z ad k lf iss sv ins
  obtain ⟨hpre,h2⟩:=chk_inv h;cases h2
  refine Eq.trans (b:=(Zx (chk (decide (Zy x≤9223372036854775807)&&decide (Zy y≤9223372036854775807)&&decide (Zy z≤9223372036854775807)) (some (Zj (Yw (Zb x y z)),[]))) fun (r:AV×Blocks)=>onNilB (Yk r) (Vx (Yh r) fun b=>sel (!b) (some (Zz .i64 103,[])) (Zx (chk (decide (Zy sv≤9223372036854775807)) (some (Zj (Ub sv),[]))) fun (r:AV×Blocks)=>onNilB (Yk r) (Vx (Yh r) fun b=>sel (!b) (some (Zz .i64 103,[])) (Zx (chk (decide (Zy ins≤9223372036854775807)) (some (Zj (Vb ins),[]))) fun (r:AV×Blocks)=>onNilB (Yk r) (Vx (Yh r) fun b=>sel (!b) (some (Zz .i64 103,[])) (Zx (chk (decide (0≤k)&&decide (k<18446744073709551616)) (some (Zz .i64 (Kerb.classOf k),[]))) fun (r:AV×Blocks)=>onNilB (Yk r) (Vd .i64 (Yh r) fun n=>sel (!n==2) (some (Zz .i64 10,[])) (sel (!Zh ad 4294967295) (some (Zz .i64 104,[])) (sel (!Zh lf 255) (some (Zz .i64 104,[])) (sel (!Zh iss 4294967295) (some (Zz .i64 104,[])) (some (Zz .i64 0,[])))))))))))):Option (AV×Blocks))) (by kernel_rfl) ?_
  simp only [Yy,decide_eq_true_eq] at hpre
  obtain ⟨⟨⟨⟨⟨⟨h1,h2⟩,h3⟩,h4⟩,h5⟩,h6⟩,h7⟩:=hpre
  simp only [h1,h2,h3,h4,h5,h6,h7,decide_true,Xy,↓A0,A0]
  unfold Uv
  dsimp only
  cases Yw ⟨x,y,z⟩
  ·rfl
  cases Ub sv
  ·rfl
  cases Vb ins
  ·rfl
  simp only [Yd,Xy,sel_false]
  by_cases hc:Kerb.classOf k=2
  case neg=>rw [sel_pos (by simpa using hc),if_neg (by simp),if_pos hc]
  rw [sel_neg (by simp [hc]),if_neg (by simp),if_neg (by simp [hc])]
  cases Zh ad 4294967295
  ·rfl
  cases Zh lf 255
  ·rfl
  cases Zh iss 4294967295
  ·rfl
  rfl
 ·cases h
theorem w186:Walked Tryz.prog G 186 8 sp186:=by
 refine ⟨Tryz.f186,Tryz.func186,by decide +kernel,rfl,fun xs bl r h=> ?_⟩
 unfold sp186 at h
 split at h
 ·rename_i x y z ck tc tm
  obtain ⟨hpre,h2⟩:=chk_inv h;cases h2
  refine Eq.trans (b:=(Zx (chk (decide (Zy x≤9223372036854775807)&&decide (Zy y≤9223372036854775807)&&decide (Zy z≤9223372036854775807)) (some (Zj (Yw (Zb x y z)),[]))) fun (r:AV×Blocks)=>onNilB (Yk r) (Vx (Yh r) fun b=>sel (!b) (some (Zz .i64 103,[])) (sel (!Zh ck 4294967295) (some (Zz .i64 104,[])) (sel (!Zh tc 199) (some (Zz .i64 104,[])) (sel (!Zh tm 4294967295) (some (Zz .i64 104,[])) (some (Zz .i64 0,[])))))):Option (AV×Blocks))) (by kernel_rfl) ?_
  simp only [A0,Xn,Xh,Wk,hpre]
  unfold Uq
  simp only
  cases Yw ⟨x,y,z⟩
  ·rfl
  cases Zh ck 4294967295
  ·rfl
  cases Zh tc 199
  ·rfl
  cases Zh tm 4294967295<;>rfl
 ·cases h
theorem w26:Walked Tryz.prog G 26 9 sp26:=by
 refine ⟨Tryz.f26,Tryz.func26,by decide +kernel,rfl,fun xs bl r h=> ?_⟩
 unfold sp26 at h
 split at h
 ·rename_i m1 m2 m3 kls sz fl mls sk
  obtain ⟨hpre,h2⟩:=chk_inv h;cases h2
  refine Eq.trans (b:=(Zx (chk (decide (Zy m1≤9223372036854775807)&&decide (Zy m2≤9223372036854775807)&&decide (Zy m3≤9223372036854775807)) (some (Zj (Yw (Zb m1 m2 m3)),[]))) fun (r:AV×Blocks)=>onNilB (Yk r) (Vx (Yh r) fun b=>sel (!b) (some (Zz .i64 103,[])) (Zx (chk (Uk kls Kerb.isSKey&&decide (Zy kls≤1000000)) (some (Zz .i64 (Kerb.skErr (Wg Qx kls)),[]))) fun (r:AV×Blocks)=>onNilB (Yk r) (Vd .i64 (Yh r) fun n=>sel (!n==0) (some (Zz .i64 n,[])) (Zx (chk (Uk mls Qw&&decide (Zy mls≤1000000)) (some (Zz .i64 (Qy (Wv sz fl (Wg Up mls))),[]))) fun (r:AV×Blocks)=>onNilB (Yk r) (Vd .i64 (Yh r) fun n=>sel (!n==0) (some (Zz .i64 n,[])) (sel (!Zh sk 4294967295) (some (Zz .i64 104,[])) (some (Zz .i64 0,[])))))))):Option (AV×Blocks))) (by kernel_rfl) ?_
  simp only [Yy,decide_eq_true_eq] at hpre
  obtain ⟨⟨⟨⟨⟨⟨l1,l2⟩,l3⟩,ka⟩,kl⟩,ma⟩,ml⟩:=hpre
  obtain ⟨ks,rfl,hks⟩:=Kerb.skeys_of ka
  obtain ⟨ms,rfl,hms⟩:=Qq ma
  have hkT:=Kerb.skeys_all hks
  have hmT:=Um hms
  simp only [Yg] at kl ml
  simp only [Ud,Vu,Yg,hkT,hmT,kl,ml,l1,l2,l3,decide_true,Xy,↓A0,A0]
  unfold Kerb.Server.err
  dsimp only
  cases g1:Yw ⟨m1,m2,m3⟩
  ·rfl
  rw [Yd,sel_false,if_neg (by simp)]
  by_cases g2:Kerb.skErr ks=0
  case neg=>rw [sel_pos (by simpa using g2),if_pos g2]
  rw [sel_neg (by simpa using g2),if_neg (by simpa using g2)]
  by_cases g3:Qy ⟨sz,fl,ms⟩=0
  case neg=>rw [sel_pos (by simpa using g3),if_pos g3]
  rw [sel_neg (by simpa using g3),if_neg (by simpa using g3)]
  cases Zh sk 4294967295<;>rfl
 ·cases h
theorem w47:Walked Tryz.prog G 47 9 sp47:=by
 refine ⟨Tryz.f47,Tryz.func47,by decide +kernel,rfl,fun xs bl r h=> ?_⟩
 unfold sp47 at h
 split at h
 ·rename_i sz fl mls a1 a2 a3 at_ atk now skw
  obtain ⟨hpre,h2⟩:=chk_inv h;cases h2
  refine Eq.trans (b:=(let t0:AV:=Yf [Zz .i64 0,Zz .i64 0,Ym 5 []];Zx (chk (Uk mls Qw&&decide (Zy mls≤1000000)) (some (Zz .i64 (Qy (Wv sz fl (Wg Up mls))),[]))) (kI .i64 fun n=>sel (!n==0) (some (Zg [t0,Zz .i64 108],[])) (Zx (chk (l63 a1&&l63 a2&&l63 a3) (some (Zj (Yw (Zb a1 a2 a3)),[]))) (kL fun b=>sel (!b) (some (Zg [t0,Zz .i64 103],[])) (sel (!(decide (0≤atk)&&decide (atk≤199))) (some (Zg [t0,Zz .i64 104],[])) (sel (!Kerb.near at_ now skw) (some (Zg [t0,Zz .i64 37],[])) (sel (decide (at_<fl)) (some (Zg [t0,Zz .i64 37],[])) (Zx (chk (Uk mls Qw&&decide (Zy mls≤1000000)) (some (Zj (Kerb.hasMark (Wg Up mls) (Kerb.Mark.mk (Zb a1 a2 a3) at_ atk)),[]))) (kL fun b=>sel b (some (Zg [t0,Zz .i64 34],[])) (Zx (loopM (fun (st:List AV)=>cInt .i64 st fun n r=>cInt .i64 r fun n_1 r=>cSl 5 r fun b r=>cStr r fun b_1 r=>cStr r fun b_2 r=>cStr r fun b_3 r=>cInt .i64 r fun n_2 r=>cInt .i64 r fun n_3 r=>cInt .i64 r fun n_4 r=>cInt .i64 r fun n_5 r=>cSl 5 r fun b_4 r=>cInt .i64 r fun n_6 r=>cInt .i64 r fun n_7 r=>onCons r fun x r=>AV.onOwnL x fun y=>cSl 5 r fun b_5 r=>cInt .i64 r fun n_8 r=>cInt .i64 r fun n_9 r=>let t1:List AV:=[Ym 5 b_5,Zz .i64 n_8,Zz .i64 (Zd .i64 (n_9+1))];onNil r (sel (decide (n_9<n_8)) (chk (decide (0≤n_9)&&decide (n_9<(↑(Zy b_5):Int))&&true) (Wb (Uf b_5 (Yz n_9) AV.undef) fun cs=>cStr cs fun b_6 r=>cStr r fun b_7 r=>cStr r fun b_8 r=>cInt .i64 r fun n_10 r=>cInt .i64 r fun n_11 r=>let t2:List AV:=[Yf [Zw b_6,Zw b_7,Zw b_8,Zz .i64 n_10,Zz .i64 n_11]];onNil r (sel (decide (n_10≥n_7)) (chk (room (Zy y+Zy t2) (nat_lit 64)) (some (Sum.inl (Zz .i64 n::Zz .i64 n_1::Ym 5 b::Zw b_1::Zw b_2::Zw b_3::Zz .i64 n_2::Zz .i64 n_3::Zz .i64 n_4::Zz .i64 n_5::Ym 5 b_4::Zz .i64 n_6::Zz .i64 n_7::AV.ownL (y++t2)::t1)))) (some (Sum.inl (Zz .i64 n::Zz .i64 n_1::Ym 5 b::Zw b_1::Zw b_2::Zw b_3::Zz .i64 n_2::Zz .i64 n_3::Zz .i64 n_4::Zz .i64 n_5::Ym 5 b_4::Zz .i64 n_6::Zz .i64 n_7::AV.ownL y::t1)))))) (some (Vy (Ex.exit 1,[Zz .i64 n,Zz .i64 n_1,Ym 5 b,Zw b_1,Zw b_2,Zw b_3,Zz .i64 n_2,Zz .i64 n_3,Zz .i64 n_4,Zz .i64 n_5,Ym 5 b_4,Zz .i64 n_6,Zz .i64 n_7,AV.ownL y,Ym 5 b_5,Zz .i64 n_8,Zz .i64 n_9]))))) [Zz .i64 sz,Zz .i64 fl,Ym 5 mls,Zw a1,Zw a2,Zw a3,Zz .i64 at_,Zz .i64 atk,Zz .i64 0,Zz .i64 0,Ym 5 [],Zz .i64 sz,Zz .i64 (Kerb.imax fl (Zd .i64 (now-skw))),AV.ownL [],Ym 5 mls,Zz .i64 (↑(Zy mls):Int),Zz .i64 0]) fun (r:Ex×List AV)=>cInt .i64 (Yk r) fun n r_1=>cInt .i64 r_1 fun n_1 r_2=>cSl 5 r_2 fun b r_3=>cStr r_3 fun b r_4=>cStr r_4 fun b_1 r_5=>cStr r_5 fun b_2 r_6=>cInt .i64 r_6 fun n_2 r_7=>cInt .i64 r_7 fun n_3 r_8=>let t3:List AV:=[Yf [Zw b,Zw b_1,Zw b_2,Zz .i64 n_2,Zz .i64 n_3]];cInt .i64 r_8 fun n_4 r_9=>cInt .i64 r_9 fun n_5 r_10=>cSl 5 r_10 fun b r_11=>cInt .i64 r_11 fun n_6 r_12=>cInt .i64 r_12 fun n_7 r_13=>onCons r_13 fun x r_14=>AV.onOwnL x fun y=>cSl 5 r_14 fun b r_15=>cInt .i64 r_15 fun n_8 r_16=>cInt .i64 r_16 fun n_9 r_17=>onNil r_17 (exK r.1 none fun (j:Nat)=>sel (Nat.beq j 1) (sel (decide ((↑(Zy y):Int)≥n)) (some (Zg [t0,Zz .i64 82],[])) (chk (room (Zy y+Zy t3) (nat_lit 64)) (some (Zg [Yf [Zz .i64 n_6,Zz .i64 n_7,Ym 5 (y++t3)],Zz .i64 0],[])))) none)))))))))):Option (AV×Blocks))) (by kernel_rfl) ?_
  delta kL kI
  try dsimp only [cStr,cBs,cBool,cU8,cInt,cSl,l63]
  simp only [Yy,decide_eq_true_eq] at hpre
  obtain ⟨⟨⟨⟨hall,hlen⟩,l1⟩,l2⟩,l3⟩:=hpre
  obtain ⟨cs,rfl,hok⟩:=Qq hall
  have hma:=Um hok
  simp only [Yg] at hlen
  have hlT:decide (cs.length≤1000000)=true:=decide_eq_true hlen
  simp only [Vu,Yg,hma,hlT,l1,l2,l3,decide_true,Xy,↓A0,A0]
  obtain ⟨R,hR⟩:∃ R,Wv sz fl cs=R:=⟨_,rfl⟩
  unfold Kerb.addMark
  by_cases h1:(Wv sz fl cs).err=0
  case neg=>rw [sel_pos (by simpa using h1),if_pos h1];rfl
  rw [sel_neg (by simpa using h1),if_neg (by simpa using h1)]
  cases h2:Yw ⟨a1,a2,a3⟩
  ·rfl
  rw [Yd,sel_false,if_neg (by simp)]
  cases h3:(decide ((0:Int)≤atk)&&decide (atk≤199))
  ·rw [if_pos (by unfold Zh;rw [h3];rfl)];rfl
  rw [Yd,sel_false,if_neg (by unfold Zh;rw [h3];simp)]
  cases h4:Kerb.near at_ now skw
  ·rw [if_pos (.inl rfl)];rfl
  rw [Yd,sel_false]
  by_cases h5:at_<fl
  ·rw [sel_pos (by simpa using h5),if_pos (.inr h5)];rfl
  rw [sel_neg (by simpa using h5),if_neg (by simp;omega)]
  cases h6:Kerb.hasMark cs ⟨⟨a1,a2,a3⟩,at_,atk⟩
  case true=>rfl
  rw [sel_false,if_neg (by simp)]
  have hn:(0≤now∧now≤4294967295)∧(0≤skw∧skw≤4294967295):=by
   simp only [Kerb.near,Yy,Kerb.within_iff] at h4
   omega
  rw [wrap_i64 (n:=now-skw) (by omega) (by omega)]
  obtain ⟨FL,hFL⟩:∃ FL,Kerb.imax fl (now-skw)=FL:=⟨_,rfl⟩
  have hfr:Kerb.freshMarks ⟨sz,fl,cs⟩ now skw=cs.filter (fun x=>decide (FL≤x.time)):=by rw [← hFL];rfl
  rw [hfr,hFL]
  have r64:∀ {m:Nat},m≤1000001→Go.Abs.room m 64=true:=fun h=>by simp [Go.Abs.room];omega
  have hfl:∀ i,((cs.take i).filter (fun x=>decide (FL≤x.time))).length≤1000000:=fun i=>by
   refine Uw (List.length_filter_le _ _) ?_
   rw [List.length_take];omega
  refine loop_rounds (fun i:Nat=>[Zz Zk sz,Zz Zk fl,Ym 5 (cs.map Xv),Zw a1,Zw a2,Zw a3,Zz Zk at_,Zz Zk atk,Zz Zk 0,Zz Zk 0,Ym 5 [],Zz Zk sz,Zz Zk FL,AV.ownL (((cs.take i).filter (fun x=>decide (FL≤x.time))).map Xv),Ym 5 (cs.map Xv),Zz Zk (cs.length:Int),Zz Zk (i:Int)]) (fun i=>i≤cs.length) (fun i=>cs.length-i)
   (fun r=>∃ i:Nat,r=(Ex.exit 1,[Zz Zk sz,Zz Zk fl,Ym 5 (cs.map Xv),Zw a1,Zw a2,Zw a3,Zz Zk at_,Zz Zk atk,Zz Zk 0,Zz Zk 0,Ym 5 [],Zz Zk sz,Zz Zk FL,AV.ownL (((cs.take i).filter (fun x=>decide (FL≤x.time))).map Xv),Ym 5 (cs.map Xv),Zz Zk (cs.length:Int),Zz Zk (i:Int)])∧i=cs.length) 0 (Nat.zero_le _) rfl ?_ ?_
  ·intro i hi
   simp only [↓A0,A0,Yg,List.length_cons,List.length_nil]
   by_cases hlt:i<cs.length
   ·have hk1:(decide ((0:Int)≤(i:Int))&&decide ((i:Int)<(cs.length:Int))&&true)=true:=by simp;omega
    have hg:(cs.map Xv).getD i AV.undef=(cs.getD i Kerb.noMark).av:=Kerb.getD_row hlt
    obtain ⟨c,hc⟩:∃ c,cs.getD i Kerb.noMark=c:=⟨_,rfl⟩
    have hs:(cs.take (i+1)).filter (fun x=>decide (FL≤x.time))=(cs.take i).filter (fun x=>decide (FL≤x.time))++(if FL≤c.time then [c] else []):=by
     rw [Kerb.take_row (d:=Kerb.noMark) hlt,hc,List.filter_append]
     congr 1
     by_cases q:FL≤c.time<;>simp [q]
    rw [hc] at hg
    rw [sel_pos (by simp;omega)]
    simp only [hk1,Qp,hg,Xv,↓A0,A0]
    rw [wrap_i64 (by omega) (by omega)]
    by_cases hq:FL≤c.time
    ·rw [if_pos hq] at hs
     rw [sel_pos (by simpa using hq),chk_of (r64 (by have:=hfl i;omega))]
     refine ⟨_,rfl,i+1,?_,by omega,by dsimp only;omega⟩
     dsimp only
     rw [hs,List.map_append]
     rfl
    ·rw [if_neg hq,List.append_nil] at hs
     rw [sel_neg (by simpa using hq)]
     exact ⟨_,rfl,i+1,by dsimp only;rw [hs];rfl,by omega,by dsimp only;omega⟩
   ·rw [sel_neg (by simp;omega)]
    exact ⟨_,rfl,i,rfl,by omega⟩
  ·rintro _ ⟨i,rfl,rfl⟩
   simp only [↓A0,A0,Yg,List.length_cons,List.length_nil]
   rw [sel_pos (Nat.beq_refl _),List.take_length]
   have hF:=hfl cs.length
   rw [List.take_length] at hF
   by_cases h7:sz≤((cs.filter (fun x=>decide (FL≤x.time))).length:Int)
   ·rw [sel_pos (by simp;omega),if_pos h7];rfl
   ·rw [sel_neg (by simp;omega),if_neg h7,chk_of (r64 (by omega)),List.map_append]
    rfl
 ·cases h
theorem w178:Walked Tryz.prog G 178 9 sp178:=by
 refine ⟨Tryz.f178,Tryz.func178,by decide +kernel,rfl,fun xs bl r h=> ?_⟩
 unfold sp178 at h
 split at h
 ·rename_i li x y z ad k lf iss sv ins
  obtain ⟨hpre,h2⟩:=chk_inv h;cases h2
  refine Eq.trans (b:=(let t0:Nat:=Zy ([]++Zn 1 1 false)+Zy x+Zy y+Zy z;let t1:Nat:=Zy ([]++Zn 0 1 false)+Zy x+Zy y+Zy z;let t2:Option (AV×Blocks):=chk (decide (0≤k)&&decide (k<18446744073709551616)) (some (Zf (Kerb.keyBytes k),[]));Zx (chk (l63 x&&l63 y&&l63 z&&l63 sv&&l63 ins&&decide (0≤k)&&decide (k<18446744073709551616)) (some (Zz .i64 (Uv (Ww li (Zb x y z) ad k lf iss sv ins)),[]))) (kI .i64 fun n=>sel (!n==0) (some (Zg [Zf [],Zz .i64 n],[])) (sel li (Zx (chk (decide (t0≤70368744170000)) (some (Zf (Vm ([]++Zn 1 1 false) (Zb x y z)),[]))) (kB fun b=>Zx (chk (decide (Zy b≤70368744177664)) (some (Yj (b++Zn ad 4 li),[]))) (kO fun l=>Zx t2 (kB fun b=>Zx (chk (decide (Zy (Yq l (Yq b []))≤140737488355328)&&decide (Zy [Zf l,Zf b]≤1000)) (some (Yj (Yq l (Yq b [])),[]))) (kO fun l=>Zx (chk (decide (Zy l≤70368744177664)) (some (Yj (l++Zn lf 1 false),[]))) (kO fun l=>Zx (chk (decide (Zy l≤70368744177664)) (some (Yj (l++Zn iss 4 li),[]))) (kO fun l=>Zx (chk (decide (Zy l+Zy sv≤70368744177664)) (some (Zf (Yv l sv),[]))) (kB fun b=>Zx (chk (decide (Zy b+Zy ins≤70368744177664)) (some (Zf (Yv b ins),[]))) (kB fun b=>Zx (chk (decide (Zy b≤70368744177664)) (some (Zf (Un b),[]))) (kB fun b=>some (Zg [Zf b,Zz .i64 0],[]))))))))))) (Zx (chk (decide (t1≤70368744170000)) (some (Zf (Vm ([]++Zn 0 1 false) (Zb x y z)),[]))) (kB fun b=>Zx (chk (decide (Zy b≤70368744177664)) (some (Yj (b++Zn ad 4 li),[]))) (kO fun l=>Zx t2 (kB fun b=>Zx (chk (decide (Zy (Yq l (Yq b []))≤140737488355328)&&decide (Zy [Zf l,Zf b]≤1000)) (some (Yj (Yq l (Yq b [])),[]))) (kO fun l=>Zx (chk (decide (Zy l≤70368744177664)) (some (Yj (l++Zn lf 1 false),[]))) (kO fun l=>Zx (chk (decide (Zy l≤70368744177664)) (some (Yj (l++Zn iss 4 li),[]))) (kO fun l=>Zx (chk (decide (Zy l+Zy sv≤70368744177664)) (some (Zf (Yv l sv),[]))) (kB fun b=>Zx (chk (decide (Zy b+Zy ins≤70368744177664)) (some (Zf (Yv b ins),[]))) (kB fun b=>Zx (chk (decide (Zy b≤70368744177664)) (some (Zf (Un b),[]))) (kB fun b=>some (Zg [Zf b,Zz .i64 0],[]))))))))))))):Option (AV×Blocks))) (by kernel_rfl) ?_
  delta kB kO kI
  try dsimp only [cStr,cBs,cBool,cU8,cInt,cSl,l63]
  simp only [Yy,decide_eq_true_eq] at hpre
  obtain ⟨⟨⟨⟨⟨⟨h1,h2⟩,h3⟩,h4⟩,h5⟩,h6⟩,h7⟩:=hpre
  simp only [h1,h2,h3,h4,h5,h6,h7,decide_true,Xy,↓A0,A0]
  have hb := @Kerb.encTicket_inv ⟨li,⟨x,y,z⟩,ad,k,lf,iss,sv,ins⟩
  unfold Wu at hb ⊢
  dsimp only at hb ⊢
  generalize hE:Uv _=e at hb ⊢
  by_cases he:e=0
  case neg=>rw [sel_pos (by simpa using he),if_pos he]
  rw [if_neg (by simpa using he)] at hb
  obtain ⟨v1,v2,v3,_⟩:=hb rfl
  have l1:=Kerb.valid_len v1
  have l2:=(Kerb.name_ok v2).1
  have l3:=(Kerb.inst_ok v3).1
  dsimp only at l1
  rw [sel_neg (by simpa using he),if_neg (by simpa using he)]
  cases li
  ·rw [sel_false,chk_of (by first | (simp [Zv,Zu,Zq];done) | (simp [Zv,Zu,Zq];omega)),chk_of (by first | (simp [Zv,Zu,Zq];done) | (simp [Zv,Zu,Zq];omega)),chk_of (by first | (simp [Zv,Zu,Zq];done) | (simp [Zv,Zu,Zq];omega)),chk_of (by first | (simp [Zv,Zu,Zq];done) | (simp [Zv,Zu,Zq];omega)),chk_of (by first | (simp [Zv,Zu,Zq];done) | (simp [Zv,Zu,Zq];omega)),chk_of (by first | (simp [Zv,Zu,Zq];done) | (simp [Zv,Zu,Zq];omega)),chk_of (by first | (simp [Yv,Zv,Zu,Zq];done) | (simp [Yv,Zv,Zu,Zq];omega)),chk_of (by first | (simp [Yv,Zv,Zu,Zq];done) | (simp [Yv,Zv,Zu,Zq];omega))]
   simp
  ·rw [sel_true,chk_of (by first | (simp [Zv,Zu,Zq];done) | (simp [Zv,Zu,Zq];omega)),chk_of (by first | (simp [Zv,Zu,Zq];done) | (simp [Zv,Zu,Zq];omega)),chk_of (by first | (simp [Zv,Zu,Zq];done) | (simp [Zv,Zu,Zq];omega)),chk_of (by first | (simp [Zv,Zu,Zq];done) | (simp [Zv,Zu,Zq];omega)),chk_of (by first | (simp [Zv,Zu,Zq];done) | (simp [Zv,Zu,Zq];omega)),chk_of (by first | (simp [Zv,Zu,Zq];done) | (simp [Zv,Zu,Zq];omega)),chk_of (by first | (simp [Yv,Zv,Zu,Zq];done) | (simp [Yv,Zv,Zu,Zq];omega)),chk_of (by first | (simp [Yv,Zv,Zu,Zq];done) | (simp [Yv,Zv,Zu,Zq];omega))]
   simp
 ·cases h
theorem w179:Walked Tryz.prog G 179 9 sp179:=by
 refine ⟨Tryz.f179,Tryz.func179,by decide +kernel,rfl,fun xs bl r h=> ?_⟩
 unfold sp179 at h
 split at h
 ·rename_i x y z ck tc tm li
  obtain ⟨hpre,h2⟩:=chk_inv h;cases h2
  refine Eq.trans (b:=(let t0:Nat:=Zy ([]++Zn 0 1 false)+Zy x+Zy y+Zy z;let t1:Nat:=Zy ([]++Zn 1 1 false)+Zy x+Zy y+Zy z;Zx (chk (l63 x&&l63 y&&l63 z) (some (Zz .i64 (Uq (Xd (Zb x y z) ck tc tm)),[]))) (kI .i64 fun n=>sel (!n==0) (some (Zg [Zf [],Zz .i64 n],[])) (sel li (Zx (chk (decide (t1≤70368744170000)) (some (Zf (Vm ([]++Zn 1 1 false) (Zb x y z)),[]))) (kB fun b=>Zx (chk (decide (Zy b≤70368744177664)) (some (Yj (b++Zn ck 4 li),[]))) (kO fun l=>Zx (chk (decide (Zy l≤70368744177664)) (some (Yj (l++Zn tc 1 false),[]))) (kO fun l=>Zx (chk (decide (Zy l≤70368744177664)) (some (Yj (l++Zn tm 4 li),[]))) (kO fun l=>Zx (chk (decide (Zy l≤70368744177664)) (some (Zf (Un l),[]))) (kB fun b=>some (Zg [Zf b,Zz .i64 0],[]))))))) (Zx (chk (decide (t0≤70368744170000)) (some (Zf (Vm ([]++Zn 0 1 false) (Zb x y z)),[]))) (kB fun b=>Zx (chk (decide (Zy b≤70368744177664)) (some (Yj (b++Zn ck 4 li),[]))) (kO fun l=>Zx (chk (decide (Zy l≤70368744177664)) (some (Yj (l++Zn tc 1 false),[]))) (kO fun l=>Zx (chk (decide (Zy l≤70368744177664)) (some (Yj (l++Zn tm 4 li),[]))) (kO fun l=>Zx (chk (decide (Zy l≤70368744177664)) (some (Zf (Un l),[]))) (kB fun b=>some (Zg [Zf b,Zz .i64 0],[]))))))))):Option (AV×Blocks))) (by kernel_rfl) ?_
  delta kB kO kI
  try dsimp only [cStr,cBs,cBool,cU8,cInt,cSl,l63]
  simp only [A0,Xn,Xh,Wk,hpre]
  unfold Wy
  by_cases h:(Xd ⟨x,y,z⟩ ck tc tm).check=0
  case neg =>
   rw [sel_pos (by simpa using h),if_pos h]
  have hv:Yw ⟨x,y,z⟩=true:=by
   unfold Uq at h
   cases hv:Yw ⟨x,y,z⟩
   ·simp [hv] at h
   ·rfl
  have l1:=Kerb.valid_len hv
  simp only at l1
  rw [sel_neg (by simp [h]),if_neg (by simpa using h)]
  cases li
  ·simp only [A0,Xn,Xh,Wk,List.nil_append,cond_false,cond_true]
   rw [chk_of (by simp [Zu];omega),chk_of (by simp [Zu,Zv];omega),chk_of (by simp [Zu,Zv];omega),chk_of (by simp [Zu,Zv];omega),chk_of (by simp [Zu,Zv];omega)]
  ·simp only [A0,Xn,Xh,Wk,List.nil_append,cond_false,cond_true]
   rw [chk_of (by simp [Zu];omega),chk_of (by simp [Zu,Zv];omega),chk_of (by simp [Zu,Zv];omega),chk_of (by simp [Zu,Zv];omega),chk_of (by simp [Zu,Zv];omega)]
 ·cases h
theorem w154:Walked Tryz.prog G 154 10 sp154:=by
 refine ⟨Tryz.f154,Tryz.func154,by decide +kernel,rfl,fun xs bl r h=> ?_⟩
 unfold sp154 at h
 split at h
 ·rename_i b
  obtain ⟨hpre,h2⟩:=chk_inv h;cases h2
  refine Eq.trans (b:=(let t1:AV:=Yf [Zj false,Zw [],Zw [],Zw [],Zz .i64 0,Zz .u64 0,Zz .i64 0,Zz .i64 0,Zw [],Zw []];let t0:Option (AV×Blocks):=some (Zg [t1,Zz .i64 100],[]);Zx (chk (decide (Zy b≤4611686018427387904)) (some (Zg [Zz .i64 (Vk (Xx b 0 1 false)),Zz .i64 (Vz (Xx b 0 1 false)),Zz .i64 (Vp (Xx b 0 1 false))],[]))) (kT fun vs=>cInt .i64 vs fun n r=>cInt .i64 r fun n_1 r=>cInt .i64 r fun n_2 r=>onNil r (sel (decide (n>1)) (some (Zg [t1,Zz .i64 7],[])) (Zx (chk (decide (Zy b≤4611686018427387904)) (some (Zg [Yf [Zw (Xf (Ux (Xj b n_1))),Zw (Xg (Ux (Xj b n_1))),Zw (Xk (Ux (Xj b n_1)))],Zz .i64 (Kerb.GotP.next (Xj b n_1)),Zz .i64 (Kerb.GotP.err (Xj b n_1))],[]))) (kT fun vs=>onCons vs fun x r=>Wb x fun cs=>cStr cs fun b_1 r_1=>cStr r_1 fun b_2 r_2=>cStr r_2 fun b_3 r_3=>onNil r_3 (cInt .i64 r fun n_3 r=>cInt .i64 r fun n_4 r=>onNil r (Zx (chk (decide (Zy b≤4611686018427387904)) (some (Zg [Zz .i64 (Vk (Xx b n_3 4 (n==1))),Zz .i64 (Vz (Xx b n_3 4 (n==1))),Zz .i64 (Vp (Xx b n_3 4 (n==1)))],[]))) (kT fun vs=>cInt .i64 vs fun n_5 r=>cInt .i64 r fun n_6 r=>cInt .i64 r fun n_7 r=>onNil r (Zx (chk (decide (Zy b≤140737488355328)) (some (Zg [Zf (Kerb.GotB.val (Kerb.bytes b n_6 8)),Zz .i64 (Kerb.GotB.next (Kerb.bytes b n_6 8)),Zz .i64 (Kerb.GotB.err (Kerb.bytes b n_6 8))],[]))) (kT fun vs=>cBs vs fun b_4 r=>cInt .i64 r fun n_8 r=>cInt .i64 r fun n_9 r=>onNil r (Zx (chk (decide (Zy b_4≤4611686018427387904)) (some (Zg [Zz .u64 (Yh (Uz b_4)),Zj (Yk (Uz b_4))],[]))) (kT fun vs=>cInt .u64 vs fun n_10 r=>cBool r fun b_5 r=>onNil r (Zx (chk (decide (Zy b≤4611686018427387904)) (some (Zg [Zz .i64 (Vk (Xx b n_8 1 false)),Zz .i64 (Vz (Xx b n_8 1 false)),Zz .i64 (Vp (Xx b n_8 1 false))],[]))) (kT fun vs=>cInt .i64 vs fun n_11 r=>cInt .i64 r fun n_12 r=>cInt .i64 r fun n_13 r=>onNil r (Zx (chk (decide (Zy b≤4611686018427387904)) (some (Zg [Zz .i64 (Vk (Xx b n_12 4 (n==1))),Zz .i64 (Vz (Xx b n_12 4 (n==1))),Zz .i64 (Vp (Xx b n_12 4 (n==1)))],[]))) (kT fun vs=>cInt .i64 vs fun n_14 r=>cInt .i64 r fun n_15 r=>cInt .i64 r fun n_16 r=>onNil r (Zx (chk (decide (Zy b≤4611686018427387904)) (some (Zg [Zw (Kerb.GotB.val (Wz b n_15)),Zz .i64 (Kerb.GotB.next (Wz b n_15)),Zz .i64 (Kerb.GotB.err (Wz b n_15))],[]))) (kT fun vs=>cStr vs fun b_6 r=>cInt .i64 r fun n_17 r=>cInt .i64 r fun n_18 r=>onNil r (Zx (chk (decide (Zy b≤4611686018427387904)) (some (Zg [Zw (Kerb.GotB.val (Wz b n_17)),Zz .i64 (Kerb.GotB.next (Wz b n_17)),Zz .i64 (Kerb.GotB.err (Wz b n_17))],[]))) (kT fun vs=>cStr vs fun b_7 r=>let t2:Kerb.Enc:=Wu (Ww (n==1) (Zb b_1 b_2 b_3) n_5 n_10 n_11 n_14 b_6 b_7);cInt .i64 r fun n_19 r=>cInt .i64 r fun n_20 r=>onNil r (Zx (chk (l63 b_1&&l63 b_2&&l63 b_3&&l63 b_6&&l63 b_7&&decide (0≤n_10)&&decide (n_10<18446744073709551616)) (some (Zg [Zf (Xu t2),Zz .i64 (Xq t2)],[]))) (kT fun vs=>cBs vs fun b_8 r=>cInt .i64 r fun n_21 r=>onNil r (sel (!n_21==0) t0 (sel (!b_8==b) t0 (some (Zg [Yf [Zj (n==1),Zw b_1,Zw b_2,Zw b_3,Zz .i64 n_5,Zz .u64 n_10,Zz .i64 n_11,Zz .i64 n_14,Zw b_6,Zw b_7],Zz .i64 0],[]))))))))))))))))))))))))):Option (AV×Blocks))) (by kernel_rfl) ?_
  delta kT
  try dsimp only [cStr,cBs,cBool,cU8,cInt,cSl,l63]
  have hb:=of_decide_eq_true hpre
  have hpre2:decide (b.length≤4611686018427387904)=true:=by simp;omega
  simp only [hpre,hpre2,↓A0,A0]
  unfold Yb
  by_cases h7:1<(Xx b 0 1 false).val
  ·rw [sel_pos (by simpa using h7),if_pos h7];try rfl
  rw [sel_neg (by simpa using h7),if_neg h7]
  have hl:∀ p n,(Kerb.bytes b p n).val.length≤4611686018427387904:=fun p n=>Uw (Kerb.bytes_len b p n) (by omega)
  have hk:∀ q,0≤(Uz q).1∧(Uz q).1<18446744073709551616:=Kerb.keyRead_bd
  have hx:∀ q,(Wz b q).val.length≤40:=Qu b
  have lp:∀ q (_:Unit),(Xj b q).val.name.length≤40∧(Xj b q).val.inst.length≤40∧(Xj b q).val.realm.length≤40:=fun q _=>Kerb.prin_len b q
  rw [chk_of (by simp only [decide_eq_true_eq];exact hl _ _),chk_of (by simp only [Yy,decide_eq_true_eq];exact ⟨⟨⟨⟨⟨⟨Uw (lp _ ()).1 (by decide),Uw (lp _ ()).2.1 (by decide)⟩,Uw (lp _ ()).2.2 (by decide)⟩,Uw (hx _) (by decide)⟩,Uw (hx _) (by decide)⟩,(hk _).1⟩,(hk _).2⟩)]
  exact Kerb.decBy_fin (no:=Kerb.noTicket) (enc:=Wu) (rd:=fun b=>(Kerb.readTicket b,false)) _ false rfl (fun x e=>(Zg [Yf [Zj (x).little,Zw (x).client.name,Zw (x).client.inst,Zw (x).client.realm,Zz Zk (x).address,Zz IntKind.u64 (x).session,Zz Zk (x).life,Zz Zk (x).issued,Zw (x).service,Zw (x).inst],Zz Zk e],([]:Blocks)))
 ·cases h
theorem w155:Walked Tryz.prog G 155 10 sp155:=by
 refine ⟨Tryz.f155,Tryz.func155,by decide +kernel,rfl,fun xs bl r h=> ?_⟩
 unfold sp155 at h
 split at h
 ·rename_i b li
  obtain ⟨hpre,h2⟩:=chk_inv h;cases h2
  refine Eq.trans (b:=(let t0:Option (AV×Blocks):=some (Zg [Yf [Zw [],Zw [],Zw [],Zz .i64 0,Zz .i64 0,Zz .i64 0],Zz .i64 100],[]);Zx (chk (decide (Zy b≤4611686018427387904)) (some (Zg [Yf [Zw (Xf (Ux (Xj b 1))),Zw (Xg (Ux (Xj b 1))),Zw (Xk (Ux (Xj b 1)))],Zz .i64 (Kerb.GotP.next (Xj b 1)),Zz .i64 (Kerb.GotP.err (Xj b 1))],[]))) (kT fun vs=>onCons vs fun x r=>Wb x fun cs=>cStr cs fun b_1 r_1=>cStr r_1 fun b_2 r_2=>cStr r_2 fun b_3 r_3=>onNil r_3 (cInt .i64 r fun n r=>cInt .i64 r fun n_1 r=>onNil r (Zx (chk (decide (Zy b≤4611686018427387904)) (some (Zg [Zz .i64 (Vk (Xx b n 4 li)),Zz .i64 (Vz (Xx b n 4 li)),Zz .i64 (Vp (Xx b n 4 li))],[]))) (kT fun vs=>cInt .i64 vs fun n r=>cInt .i64 r fun n_2 r=>cInt .i64 r fun n_3 r=>onNil r (Zx (chk (decide (Zy b≤4611686018427387904)) (some (Zg [Zz .i64 (Vk (Xx b n_2 1 false)),Zz .i64 (Vz (Xx b n_2 1 false)),Zz .i64 (Vp (Xx b n_2 1 false))],[]))) (kT fun vs=>cInt .i64 vs fun n_4 r=>cInt .i64 r fun n_5 r=>cInt .i64 r fun n_6 r=>onNil r (Zx (chk (decide (Zy b≤4611686018427387904)) (some (Zg [Zz .i64 (Vk (Xx b n_5 4 li)),Zz .i64 (Vz (Xx b n_5 4 li)),Zz .i64 (Vp (Xx b n_5 4 li))],[]))) (kT fun vs=>cInt .i64 vs fun n_7 r=>cInt .i64 r fun n_8 r=>cInt .i64 r fun n_9 r=>onNil r (Zx (chk (l63 b_1&&l63 b_2&&l63 b_3) (some (Zg [Zf (Xu (Wy (Xd (Zb b_1 b_2 b_3) n n_4 n_7) li)),Zz .i64 (Xq (Wy (Xd (Zb b_1 b_2 b_3) n n_4 n_7) li))],[]))) (kT fun vs=>cBs vs fun b_4 r=>cInt .i64 r fun n_10 r=>onNil r (sel (!n_10==0) t0 (sel (!b_4==b) t0 (some (Zg [Yf [Zw b_1,Zw b_2,Zw b_3,Zz .i64 n,Zz .i64 n_4,Zz .i64 n_7],Zz .i64 0],[])))))))))))))):Option (AV×Blocks))) (by kernel_rfl) ?_
  delta kT
  try dsimp only [cStr,cBs,cBool,cU8,cInt,cSl,l63]
  have hb:=of_decide_eq_true hpre
  have hpre2:decide (b.length≤4611686018427387904)=true:=by simp;omega
  obtain ⟨n1,n2,n3⟩:=Kerb.prin_len b 1
  have g1:(Xj b 1).val.name.length≤9223372036854775807:=by omega
  have g2:(Xj b 1).val.inst.length≤9223372036854775807:=by omega
  have g3:(Xj b 1).val.realm.length≤9223372036854775807:=by omega
  simp only [hpre2,g1,g2,g3,decide_true,Xy,↓A0,A0]
  exact Kerb.decBy_fin (no:=Kerb.noAuth) (enc:=fun a=>Wy a li) (rd:=fun b=>(Kerb.readAuth b li,false)) _ false rfl (fun x e=>(Zg [.agg [.str (x).client.name,.str (x).client.inst,.str (x).client.realm,.int .i64 (x).checksum,.int .i64 (x).tick,.int .i64 (x).time],Zz Zk e],([]:Blocks)))
 ·cases h
theorem w97:Walked Tryz.prog G 97 11 sp97:=by
 refine ⟨Tryz.f97,Tryz.func97,by decide +kernel,rfl,fun xs bl r h=> ?_⟩
 unfold sp97 at h
 split at h
 ·rename_i b k
  obtain ⟨hpre,h2⟩:=chk_inv h;cases h2
  refine Eq.trans (b:=(Zx (chk (decide (Zy b≤140737488355328)) (some (Zg [Zf (Yh (Wf b 1 k)),Zj (Yk (Wf b 1 k))],[]))) (kT fun vs=>cBs vs fun b r=>cBool r fun b_1 r=>onNil r (sel (!b_1) (some (Zg [Yf [Zj false,Zw [],Zw [],Zw [],Zz .i64 0,Zz .u64 0,Zz .i64 0,Zz .i64 0,Zw [],Zw []],Zz .i64 31],[])) (Zx (chk (decide (Zy b≤140737488355328)) (some (Zg [Yf [Zj (Kerb.Ticket.little (Zm (Yb b))),Zw (Xf (Xw (Zm (Yb b)))),Zw (Xg (Xw (Zm (Yb b)))),Zw (Xk (Xw (Zm (Yb b)))),Zz .i64 (Kerb.Ticket.address (Zm (Yb b))),Zz .u64 (Kerb.Ticket.session (Zm (Yb b))),Zz .i64 (Kerb.Ticket.life (Zm (Yb b))),Zz .i64 (Kerb.Ticket.issued (Zm (Yb b))),Zw (Kerb.Ticket.service (Zm (Yb b))),Zw (Kerb.Ticket.inst (Zm (Yb b)))],Zz .i64 (Qk (Yb b))],[]))) (kT fun vs=>onCons vs fun x r=>Wb x fun cs=>cBool cs fun b r_1=>cStr r_1 fun b_2 r_2=>cStr r_2 fun b_3 r_3=>cStr r_3 fun b_4 r_4=>cInt .i64 r_4 fun n r_5=>cInt .u64 r_5 fun n_1 r_6=>cInt .i64 r_6 fun n_2 r_7=>cInt .i64 r_7 fun n_3 r_8=>cStr r_8 fun b_5 r_9=>cStr r_9 fun b_6 r_10=>onNil r_10 (cInt .i64 r fun n_4 r=>onNil r (some (Zg [Yf [Zj b,Zw b_2,Zw b_3,Zw b_4,Zz .i64 n,Zz .u64 n_1,Zz .i64 n_2,Zz .i64 n_3,Zw b_5,Zw b_6],Zz .i64 n_4],[]))))))):Option (AV×Blocks))) (by kernel_rfl) ?_
  delta kT
  try dsimp only [cStr,cBs,cBool,cU8,cInt,cSl,l63]
  have hb:=of_decide_eq_true hpre
  have hl:=Kerb.openBox_len b 1 k
  simp only [hpre,↓A0,A0]
  unfold Yu
  cases h:(Wf b 1 k).2
  ·rfl
  ·rw [sel_neg (by simp),chk_of (by simp;omega)]
   rfl
 ·cases h
theorem w99:Walked Tryz.prog G 99 11 sp99:=by
 refine ⟨Tryz.f99,Tryz.func99,by decide +kernel,rfl,fun xs bl r h=> ?_⟩
 unfold sp99 at h
 split at h
 ·rename_i b li k
  obtain ⟨hpre,h2⟩:=chk_inv h;cases h2
  refine Eq.trans (b:=(let t0:Option (AV×Blocks):=some (Zg [Yf [Zw [],Zw [],Zw [],Zz .i64 0,Zz .i64 0,Zz .i64 0],Zz .i64 31],[]);Zx (chk (decide (Zy b≤140737488355328)) (some (Zg [Zf (Yh (Wf b 2 k)),Zj (Yk (Wf b 2 k))],[]))) (kT fun vs=>cBs vs fun b r=>cBool r fun b_1 r=>onNil r (sel (!b_1) t0 (Zx (chk (decide (Zy b≤140737488355328)) (some (Zg [Yf [Zw (Xf (Xp (Zm (Wx b li)))),Zw (Xg (Xp (Zm (Wx b li)))),Zw (Xk (Xp (Zm (Wx b li)))),Zz .i64 (Kerb.Auth.checksum (Zm (Wx b li))),Zz .i64 (Kerb.Auth.tick (Zm (Wx b li))),Zz .i64 (Kerb.Auth.time (Zm (Wx b li)))],Zz .i64 (Qk (Wx b li))],[]))) (kT fun vs=>onCons vs fun x r=>Wb x fun cs=>cStr cs fun b r_1=>cStr r_1 fun b_2 r_2=>cStr r_2 fun b_3 r_3=>cInt .i64 r_3 fun n r_4=>cInt .i64 r_4 fun n_1 r_5=>cInt .i64 r_5 fun n_2 r_6=>onNil r_6 (cInt .i64 r fun n_3 r=>onNil r (sel (!n_3==0) t0 (some (Zg [Yf [Zw b,Zw b_2,Zw b_3,Zz .i64 n,Zz .i64 n_1,Zz .i64 n_2],Zz .i64 0],[])))))))):Option (AV×Blocks))) (by kernel_rfl) ?_
  delta kT
  try dsimp only [cStr,cBs,cBool,cU8,cInt,cSl,l63]
  have hb:=of_decide_eq_true hpre
  have hpre2:decide (b.length≤4611686018427387904)=true:=by simp;omega
  have hl:=Kerb.openBox_len b 2 k
  have hl2:decide ((Wf b 2 k).1.length≤140737488355328)=true:=by simp;omega
  simp only [hpre,hl2,↓A0,A0]
  unfold Wj
  cases h1:(Wf b 2 k).2
  ·rfl
  rw [Yd,sel_false,if_neg (by simp)]
  by_cases h2:(Wx (Wf b 2 k).1 li).err=0
  case neg=>rw [sel_pos (by simpa using h2),if_pos h2];rfl
  rw [sel_neg (by simpa using h2),if_neg (by simpa using h2)]
 ·cases h
theorem w45:Walked Tryz.prog G 45 12 sp45:=by
 refine ⟨Tryz.f45,Tryz.func45,by decide +kernel,rfl,fun xs bl r h=> ?_⟩
 unfold sp45 at h
 split at h
 ·rename_i m1 m2 m3 kls sz fl mls sk rli rmu rkv rrl rtk rau
  obtain ⟨hpre,h2⟩:=chk_inv h;cases h2
  refine Eq.trans (b:=(let t1:AV:=Yf [Zj false,Zw [],Zw [],Zw [],Zz .i64 0,Zz .u64 0,Zz .i64 0,Zz .i64 0,Zw [],Zw []];let t2:AV:=Yf [Zw [],Zw [],Zw [],Zz .i64 0,Zz .i64 0,Zz .i64 0];let t0:Option (AV×Blocks):=some (Zg [t1,t2,Zz .i64 35],[]);sel (!rrl==m3) t0 (Zx (chk (Uk kls Kerb.isSKey&&decide (Zy kls≤1000000)) (some (Zg [Zz .u64 (Yh (Kerb.skFind (Wg Qx kls) (Zb m1 m2 m3) rkv)),Zj (Yk (Kerb.skFind (Wg Qx kls) (Zb m1 m2 m3) rkv))],[]))) (kT fun vs=>cInt .u64 vs fun n r=>cBool r fun b r=>onNil r (sel (!b) t0 (Zx (chk (decide (Zy rtk≤140737488355328)) (some (Zg [Yf [Zj (Kerb.Ticket.little (Zm (Yu rtk n))),Zw (Xf (Xw (Zm (Yu rtk n)))),Zw (Xg (Xw (Zm (Yu rtk n)))),Zw (Xk (Xw (Zm (Yu rtk n)))),Zz .i64 (Kerb.Ticket.address (Zm (Yu rtk n))),Zz .u64 (Kerb.Ticket.session (Zm (Yu rtk n))),Zz .i64 (Kerb.Ticket.life (Zm (Yu rtk n))),Zz .i64 (Kerb.Ticket.issued (Zm (Yu rtk n))),Zw (Kerb.Ticket.service (Zm (Yu rtk n))),Zw (Kerb.Ticket.inst (Zm (Yu rtk n)))],Zz .i64 (Qk (Yu rtk n))],[]))) (kT fun vs=>onCons vs fun x r=>Wb x fun cs=>cBool cs fun b r_1=>cStr r_1 fun b_1 r_2=>cStr r_2 fun b_2 r_3=>cStr r_3 fun b_3 r_4=>cInt .i64 r_4 fun n r_5=>cInt .u64 r_5 fun n_1 r_6=>cInt .i64 r_6 fun n_2 r_7=>cInt .i64 r_7 fun n_3 r_8=>cStr r_8 fun b_4 r_9=>cStr r_9 fun b_5 r_10=>onNil r_10 (cInt .i64 r fun n_4 r=>onNil r (sel (n_4==7) (some (Zg [t1,t2,Zz .i64 7],[])) (sel (!n_4==0) (some (Zg [t1,t2,Zz .i64 31],[])) (sel (!(b_4==m1&&(b_5==m2&&m3==m3))) t0 (Zx (chk (decide (Zy rau≤140737488355328)) (some (Zg [Yf [Zw (Xf (Xp (Zm (Wj rau rli n_1)))),Zw (Xg (Xp (Zm (Wj rau rli n_1)))),Zw (Xk (Xp (Zm (Wj rau rli n_1)))),Zz .i64 (Kerb.Auth.checksum (Zm (Wj rau rli n_1))),Zz .i64 (Kerb.Auth.tick (Zm (Wj rau rli n_1))),Zz .i64 (Kerb.Auth.time (Zm (Wj rau rli n_1)))],Zz .i64 (Qk (Wj rau rli n_1))],[]))) (kT fun vs=>onCons vs fun x r=>Wb x fun cs=>cStr cs fun b_6 r_11=>cStr r_11 fun b_7 r_12=>cStr r_12 fun b_8 r_13=>cInt .i64 r_13 fun n_5 r_14=>cInt .i64 r_14 fun n_6 r_15=>cInt .i64 r_15 fun n_7 r_16=>onNil r_16 (cInt .i64 r fun n_8 r=>onNil r (sel (!n_8==0) (some (Zg [t1,t2,Zz .i64 31],[])) (some (Zg [Yf [Zj b,Zw b_1,Zw b_2,Zw b_3,Zz .i64 n,Zz .u64 n_1,Zz .i64 n_2,Zz .i64 n_3,Zw b_4,Zw b_5],Yf [Zw b_6,Zw b_7,Zw b_8,Zz .i64 n_5,Zz .i64 n_6,Zz .i64 n_7],Zz .i64 0],[]))))))))))))))):Option (AV×Blocks))) (by kernel_rfl) ?_
  delta kT
  try dsimp only [cStr,cBs,cBool,cU8,cInt,cSl,l63]
  simp only [Yy,decide_eq_true_eq] at hpre
  obtain ⟨⟨⟨⟨⟨⟨⟨⟨l1,l2⟩,l3⟩,ka⟩,kl⟩,ma⟩,ml⟩,t1⟩,u1⟩:=hpre
  obtain ⟨ks,rfl,hks⟩:=Kerb.skeys_of ka
  obtain ⟨ms,rfl,hms⟩:=Qq ma
  have hkT:=Kerb.skeys_all hks
  have hmT:=Um hms
  simp only [Yg] at kl ml
  have t2:rtk.length≤140737488355328:=by omega
  have u2:rau.length≤140737488355328:=by omega
  simp only [Ud,Vu,Yg,hkT,kl,t2,u2,decide_true,Xy,↓A0,A0]
  unfold Xb
  by_cases g1:rrl=m3
  case neg=>rw [sel_pos (by simpa using g1),if_pos (by simpa using g1)];rfl
  rw [sel_neg (by simpa using g1),if_neg (by simpa using g1)]
  dsimp only
  cases g2:(Kerb.skFind ks ⟨m1,m2,m3⟩ rkv).2
  ·rfl
  rw [Yd,sel_false,if_neg (by simp)]
  generalize (Kerb.skFind ks ⟨m1,m2,m3⟩ rkv).1=K
  by_cases g3:(Yu rtk K).err=7
  ·rw [sel_pos (by simpa using g3),if_pos g3];rfl
  rw [sel_neg (by simpa using g3),if_neg g3]
  by_cases g4:(Yu rtk K).err=0
  case neg=>rw [sel_pos (by simpa using g4),if_pos g4];rfl
  rw [sel_neg (by simpa using g4),if_neg (by simpa using g4)]
  have g5:((Yu rtk K).val.service==m1&&((Yu rtk K).val.inst==m2&&m3==m3))=(Kerb.ticketFor (Yu rtk K).val m3).eqb ⟨m1,m2,m3⟩:=rfl
  rw [g5]
  cases g6:(Kerb.ticketFor (Yu rtk K).val m3).eqb ⟨m1,m2,m3⟩
  ·rfl
  rw [Yd,sel_false,if_neg (by simp)]
  by_cases g7:(Wj rau rli (Yu rtk K).val.session).err=0
  case neg=>rw [sel_pos (by simpa using g7),if_pos g7];rfl
  rw [sel_neg (by simpa using g7),if_neg (by simpa using g7)]
 ·cases h
theorem w20:Walked Tryz.prog G 20 13 sp20:=by
 refine ⟨Tryz.f20,Tryz.func20,by decide +kernel,rfl,fun xs bl r h=> ?_⟩
 unfold sp20 at h
 split at h
 ·rename_i m1 m2 m3 kls sz fl mls sk rli rmu rkv rrl rtk rau src now
  obtain ⟨hpre,h2⟩:=chk_inv h;cases h2
  refine Eq.trans (b:=(let t0:AV:=Yf [Zw [],Zw [],Zw [],Zz .u64 0,Zz .i64 0,Zz .i64 0,Zz .i64 0,Zz .i64 0,Zz .i64 0,Zz .i64 0,Zf [],Zf []];Zx (chk (decide (Zy kls≤1000000)&&decide (Zy mls≤1000000)) (some (Yf [Zw m1,Zw m2,Zw m3,Ym 5 kls,Zz .i64 sz,Zz .i64 fl,Ym 5 mls,Zz .i64 sk],[]))) (kA fun cs=>cStr cs fun b r=>cStr r fun b_1 r=>cStr r fun b_2 r=>let t1:Bool:=l63 b&&l63 b_1&&l63 b_2;cSl 5 r fun b_3 r=>cInt .i64 r fun n r=>cInt .i64 r fun n_1 r=>cSl 5 r fun b_4 r=>let t2:Bool:=t1&&Uk b_3 Kerb.isSKey&&decide (Zy b_3≤1000000)&&Uk b_4 Qw&&decide (Zy b_4≤1000000);cInt .i64 r fun n_2 r=>let t4:AV:=Yf [Zw b,Zw b_1,Zw b_2,Ym 5 b_3,Zz .i64 n,Zz .i64 n_1,Ym 5 b_4,Zz .i64 n_2];let t6:Kerb.Opened:=Xb (Kerb.Server.mk (Zb b b_1 b_2) (Wg Qx b_3) (Wv n n_1 (Wg Up b_4)) n_2) (Wp rli rmu rkv rrl rtk rau);let t3:Kerb.Ticket:=Kerb.Opened.ticket t6;let t5:Kerb.Auth:=Kerb.Opened.auth t6;onNil r (Zx (chk t2 (some (Zz .i64 (Kerb.Server.err (Kerb.Server.mk (Zb b b_1 b_2) (Wg Qx b_3) (Wv n n_1 (Wg Up b_4)) n_2)),[]))) (kI .i64 fun n_3=>sel (!n_3==0) (some (Zg [t4,t0,Zz .i64 108],[])) (Zx (chk (t2&&decide (Zy rtk≤1000000)&&decide (Zy rau≤1000000)) (some (Zg [Yf [Zj (Kerb.Ticket.little t3),Zw (Xf (Xw t3)),Zw (Xg (Xw t3)),Zw (Xk (Xw t3)),Zz .i64 (Kerb.Ticket.address t3),Zz .u64 (Kerb.Ticket.session t3),Zz .i64 (Kerb.Ticket.life t3),Zz .i64 (Kerb.Ticket.issued t3),Zw (Kerb.Ticket.service t3),Zw (Kerb.Ticket.inst t3)],Yf [Zw (Xf (Xp t5)),Zw (Xg (Xp t5)),Zw (Xk (Xp t5)),Zz .i64 (Kerb.Auth.checksum t5),Zz .i64 (Kerb.Auth.tick t5),Zz .i64 (Kerb.Auth.time t5)],Zz .i64 (Kerb.Opened.err t6)],[]))) (kT fun vs=>onCons vs fun x r=>Wb x fun cs=>cBool cs fun b_5 r_1=>cStr r_1 fun b_6 r_2=>cStr r_2 fun b_7 r_3=>cStr r_3 fun b_8 r_4=>cInt .i64 r_4 fun n_4 r_5=>cInt .u64 r_5 fun n_5 r_6=>cInt .i64 r_6 fun n_6 r_7=>cInt .i64 r_7 fun n_7 r_8=>cStr r_8 fun b_9 r_9=>cStr r_9 fun b_10 r_10=>onNil r_10 (onCons r fun x r=>Wb x fun cs=>cStr cs fun b_11 r_11=>cStr r_11 fun b_12 r_12=>cStr r_12 fun b_13 r_13=>cInt .i64 r_13 fun n_8 r_14=>cInt .i64 r_14 fun n_9 r_15=>cInt .i64 r_15 fun n_10 r_16=>let t8:Int:=Kerb.judge (Ww b_5 (Zb b_6 b_7 b_8) n_4 n_5 n_6 n_7 b_9 b_10) (Xd (Zb b_11 b_12 b_13) n_8 n_9 n_10) src now n_2;let t9:Kerb.Dec Kerb.RCache:=Kerb.addMark (Wv n n_1 (Wg Up b_4)) (Kerb.Mark.mk (Zb b_11 b_12 b_13) n_10 n_9) now n_2;let t7:Kerb.RCache:=Zm t9;onNil r_16 (cInt .i64 r fun n r=>onNil r (sel (!n==0) (some (Zg [t4,t0,Zz .i64 n],[])) (sel (!t8==0) (some (Zg [t4,t0,Zz .i64 t8],[])) (Zx (chk (Uk b_4 Qw&&decide (Zy b_4≤1000000)&&l63 b_11&&l63 b_12&&l63 b_13) (some (Zg [Yf [Zz .i64 (Kerb.RCache.size t7),Zz .i64 (Kerb.RCache.floor t7),Ym 5 (Wg Xv (Kerb.RCache.marks t7))],Zz .i64 (Qk t9)],[]))) (kT fun vs=>onCons vs fun x r=>Wb x fun cs=>cInt .i64 cs fun n r_17=>cInt .i64 r_17 fun n_11 r_18=>cSl 5 r_18 fun b_14 r_19=>onNil r_19 (cInt .i64 r fun n_12 r=>onNil r (sel (!n_12==0) (some (Zg [t4,t0,Zz .i64 n_12],[])) (Zx (chk (decide (Zy rtk≤140737488355328)) (some (Zf rtk,[]))) (kB fun b_15=>Zx (chk (decide (Zy rau≤140737488355328)) (some (Zf rau,[]))) (kB fun b_16=>some (Zg [Yf [Zw b,Zw b_1,Zw b_2,Ym 5 b_3,Zz .i64 n,Zz .i64 n_11,Ym 5 b_14,Zz .i64 n_2],Yf [Zw b_6,Zw b_7,Zw b_8,Zz .u64 n_5,Zz .i64 n_4,Zz .i64 n_8,Zz .i64 n_10,Zz .i64 n_9,Zz .i64 n_7,Zz .i64 n_6,Zf b_15,Zf b_16],Zz .i64 0],[]))))))))))))))))):Option (AV×Blocks))) (by kernel_rfl) ?_
  delta kT kA kB kI
  try dsimp only [cStr,cBs,cBool,cU8,cInt,cSl,l63]
  simp only [Yy,decide_eq_true_eq] at hpre
  obtain ⟨⟨⟨⟨⟨⟨⟨⟨l1,l2⟩,l3⟩,ka⟩,kl⟩,ma⟩,ml⟩,t1⟩,u1⟩:=hpre
  obtain ⟨ks,rfl,hks⟩:=Kerb.skeys_of ka
  obtain ⟨ms,rfl,hms⟩:=Qq ma
  have hkT:=Kerb.skeys_all hks
  have hmT:=Um hms
  simp only [Yg] at kl ml
  have t2:rtk.length≤140737488355328:=by omega
  have u2:rau.length≤140737488355328:=by omega
  obtain ⟨S,hS⟩:∃ S,Kerb.Server.mk ⟨m1,m2,m3⟩ ks ⟨sz,fl,ms⟩ sk=S:=⟨_,rfl⟩
  obtain ⟨R,hR⟩:∃ R,Wp rli rmu rkv rrl rtk rau=R:=⟨_,rfl⟩
  have hb:=(Kerb.openReq_bd S R).1
  have e1:=hb.1
  have e2:=hb.2.1
  have e3:=hb.2.2
  simp only [Ud,Vu,Yg,hkT,hmT,kl,ml,l1,l2,l3,t1,u1,t2,u2,decide_true,Xy,hS,hR,e1,e2,e3,↓sInt,↓sU8,↓sBool,↓sStr,↓sBs,↓sSl,↓sAgg,↓sTup,↓sCons,↓sNil,↓sNilB,↓sChk,↓sChkBind,↓sSome]
  unfold Kerb.verify
  by_cases g1:S.err=0
  case neg=>rw [sel_pos (by simpa using g1),if_pos g1,← hS];rfl
  rw [sel_neg (by simpa using g1),if_neg (by simpa using g1)]
  by_cases g2:(Xb S R).err=0
  case neg=>rw [sel_pos (by simpa using g2),if_pos g2,← hS];rfl
  rw [sel_neg (by simpa using g2),if_neg (by simpa using g2)]
  have h0:sk=S.skew:=by rw [← hS]
  have h1:Wv sz fl ms=S.replay:=by rw [← hS]
  rw [h0,h1]
  by_cases g3:Kerb.judge (Xb S R).ticket (Xb S R).auth src now S.skew=0
  case neg=>rw [sel_pos (by simpa using g3),if_pos g3,← hS];rfl
  rw [sel_neg (by simpa using g3),if_neg (by simpa using g3)]
  rw [show Kerb.Mark.mk ⟨(Xb S R).auth.client.name,(Xb S R).auth.client.inst,(Xb S R).auth.client.realm⟩ (Xb S R).auth.time (Xb S R).auth.tick=Kerb.markOf (Xb S R).auth from rfl]
  by_cases g4:(Kerb.addMark S.replay (Kerb.markOf (Xb S R).auth) now S.skew).err=0
  case neg=>rw [sel_pos (by simpa using g4),if_pos g4,← hS];rfl
  rw [sel_neg (by simpa using g4),if_neg (by simpa using g4),← hS,← hR]
 ·cases h
end Go.Proofs.YtiplnpablmohiaaGreat
